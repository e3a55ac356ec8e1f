/- The statement PolyGcds, walked. No condition but the errors' variables. -/
import Derived.Test.YtfhfckoemgkdlaaDoorLawp3
namespace Go.Proofs.YtfhfckoemgkdlaaDoor
open Go.Sx Go.Fm
set_option maxRecDepth 100000
theorem trim_nil (m : Nat) : trim (lowL m []) = [] := rfl
theorem gcd_nil (m : Nat) : monicP m (gcdE m (trim (lowL m [])) (trim (lowL m []))) = [] := by rw [trim_nil, gcdE_last rfl, monicP_nil]
theorem gcd_nil_r (m : Nat) (a : List Nat) : gcdE m a (trim (lowL m [])) = a := by rw [trim_nil, gcdE_last rfl]
theorem gcd_mul {m : Nat} (hm : Ok m) {a b c : List Nat} (ha : Tr m a) (hb : Tr m b) (hc : Tr m c) (hc0 : c.length ≠ 0) : monicP m (gcdE m (mulP m a c) (mulP m b c)) = mulP m (monicP m (gcdE m a b)) (monicP m c) := by
  rw [gcdE_mul hm ha hb hc hc0, monicP_mul hm (gcdE_tr hm ha hb) hc]

theorem walk_PolyGcds (a0 : Int) (A1 : Option Addr) (n1 c1 : Nat) (l1 : List Int) (A2 : Option Addr) (n2 c2 : Nat) (l2 : List Int) (A3 : Option Addr) (n3 c3 : Nat) (l3 : List Int) (e : Nat → Addr) (w : World) (hs1 : Has (sl 1 A1 n1 (ints .i64 l1)) w) (hn1 : n1 ≤ 9223372036854775807) (hs2 : Has (sl 1 A2 n2 (ints .i64 l2)) w) (hn2 : n2 ≤ 9223372036854775807) (hs3 : Has (sl 1 A3 n3 (ints .i64 l3)) w) (hn3 : n3 ≤ 9223372036854775807) (hz : Er e w 1) (hl : Er e w 0) : Spec1 Tryd.prog 13 [.int .i64 a0, .slice A1 n1 c1, .slice A2 n2 c2, .slice A3 n3 c3] w (.bool true) := by
  have hm := mkm_ok (k := 6) (by omega) (by omega) a0
  have hla := ints_len hs1
  subst hla
  have hlb := ints_len hs2
  subst hlb
  have hlc := ints_len hs3
  subst hlc
  refine spec_of Tryd.func13 rfl Tryd.ntmps13 rfl ?_
  refine CW.seq ?_
  refine CW.reg [0] rfl ?_   -- 0, more.go:9
  refine s_as 8 rfl rfl ?_
  refine SX.next ?_
  refine CW.seq ?_
  refine CW.reg [0, 1] rfl ?_   -- 1, more.go:10
  refine s_call1 21 rfl rfl rfl rfl (fun w hw => first4_spec w) (fun _ _ => trivial) ?_
  refine s_as 9 rfl rfl ?_
  refine SX.next ?_
  refine CW.seq ?_
  refine CW.reg [0, 1, 2, 3, 4, 5, 6] rfl ?_   -- 2, more.go:11
  refine s_mv 23 rfl rfl ?_
  refine s_call 24 rfl rfl rfl rfl (fun w hw => ring4_spec a0 w) (fun _ _ => trivial) (fun q0 _ => ?_)
  refine s_mv 22 rfl rfl ?_
  refine s_ext 25 rfl rfl rfl ?_
  refine s_ext 26 rfl rfl rfl ?_
  refine s_as 10 rfl rfl ?_
  refine s_as 11 rfl rfl ?_
  refine SX.next ?_
  refine CW.seq ?_
  refine CW.seq ?_
  refine CW.reg [0, 1, 2, 3, 4, 5, 6, 7, 8, 9, 10, 11, 12, 13, 14, 15, 16, 17, 18, 19, 20] rfl ?_   -- 3, more.go:12
  refine s_mv 27 rfl rfl ?_
  refine s_eqPN 28 rfl rfl ?_
  refine s_mv 29 rfl rfl ?_
  refine s_mv 30 rfl rfl ?_
  refine s_len 31 rfl rfl ?_
  refine s_gt 32 rfl rfl rfl rfl ?_
  refine s_pickF 33 rfl rfl rfl ?_
  refine s_mv 34 rfl rfl ?_
  refine SX.bool 34 rfl (fun hb => ?_) (fun hb => ?_)
  · skip
    skip
    refine SX.skip rfl ?_
    refine SX.skip rfl ?_
    refine SX.skip rfl ?_
    refine s_pickT 38 rfl rfl rfl ?_
    refine s_mv 39 rfl rfl ?_
    refine SX.skip rfl ?_
    refine SX.skip rfl ?_
    refine SX.skip rfl ?_
    refine s_pickT 43 rfl rfl rfl ?_
    refine s_mv 44 rfl rfl ?_
    refine SX.skip rfl ?_
    refine SX.skip rfl ?_
    refine s_pickT 47 rfl rfl rfl ?_
    refine SX.next ?_
    refine CW.condT rfl ?_
    refine CW.seq ?_
    refine CW.reg [0, 1, 2, 3, 4, 5] rfl ?_   -- 4, more.go:13
    refine s_mv 48 rfl rfl ?_
    refine s_mv 49 rfl rfl ?_
    refine s_mv 50 rfl rfl ?_
    refine s_nePN 51 rfl rfl ?_
    refine s_pickT 52 rfl rfl rfl ?_
    refine s_as 8 rfl rfl ?_
    refine SX.next ?_
    refine CW.ret ?_
    exact KN.ret (rs := [.tmp 8]) Tryd.results13 rfl (fun w hw => ⟨rfl, hw.nothing⟩)
  · skip
    have hp1 := hb
    refine s_mv 35 rfl rfl ?_
    refine s_len 36 rfl rfl ?_
    refine s_gt 37 rfl rfl rfl rfl ?_
    refine s_pickF 38 rfl rfl rfl ?_
    refine s_mv 39 rfl rfl ?_
    refine SX.bool 39 rfl (fun hb => ?_) (fun hb => ?_)
    · skip
      skip
      refine SX.skip rfl ?_
      refine SX.skip rfl ?_
      refine SX.skip rfl ?_
      refine s_pickT 43 rfl rfl rfl ?_
      refine s_mv 44 rfl rfl ?_
      refine SX.skip rfl ?_
      refine SX.skip rfl ?_
      refine s_pickT 47 rfl rfl rfl ?_
      refine SX.next ?_
      refine CW.condT rfl ?_
      refine CW.seq ?_
      refine CW.reg [0, 1, 2, 3, 4, 5] rfl ?_   -- 4, more.go:13
      refine s_mv 48 rfl rfl ?_
      refine s_mv 49 rfl rfl ?_
      refine s_mv 50 rfl rfl ?_
      refine s_nePN 51 rfl rfl ?_
      refine s_pickT 52 rfl rfl rfl ?_
      refine s_as 8 rfl rfl ?_
      refine SX.next ?_
      refine CW.ret ?_
      exact KN.ret (rs := [.tmp 8]) Tryd.results13 rfl (fun w hw => ⟨rfl, hw.nothing⟩)
    · skip
      have hp2 := hb
      refine s_mv 40 rfl rfl ?_
      refine s_len 41 rfl rfl ?_
      refine s_gt 42 rfl rfl rfl rfl ?_
      refine s_pickF 43 rfl rfl rfl ?_
      refine s_mv 44 rfl rfl ?_
      refine SX.bool 44 rfl (fun hb => ?_) (fun hb => ?_)
      · skip
        skip
        refine SX.skip rfl ?_
        refine SX.skip rfl ?_
        refine s_pickT 47 rfl rfl rfl ?_
        refine SX.next ?_
        refine CW.condT rfl ?_
        refine CW.seq ?_
        refine CW.reg [0, 1, 2, 3, 4, 5] rfl ?_   -- 4, more.go:13
        refine s_mv 48 rfl rfl ?_
        refine s_mv 49 rfl rfl ?_
        refine s_mv 50 rfl rfl ?_
        refine s_nePN 51 rfl rfl ?_
        refine s_pickT 52 rfl rfl rfl ?_
        refine s_as 8 rfl rfl ?_
        refine SX.next ?_
        refine CW.ret ?_
        exact KN.ret (rs := [.tmp 8]) Tryd.results13 rfl (fun w hw => ⟨rfl, hw.nothing⟩)
      · skip
        have hp1 := of_decide_eq_false hp1
        have hp2 := of_decide_eq_false hp2
        have hp3 := of_decide_eq_false hb
        have hx1 : l1.length ≤ 8 := by omega
        have hx2 : l2.length ≤ 8 := by omega
        have hT1 := trimLow_len (mkm 6 a0) l1
        have hT2 := trimLow_len (mkm 6 a0) l2
        have hR1 := trimLow_tr (mkm 6 a0) l1
        have hR2 := trimLow_tr (mkm 6 a0) l2
        have hL1 := lowL_len (mkm 6 a0) l1
        have hL2 := lowL_len (mkm 6 a0) l2
        have bMUL := mulP_le (mkm 6 a0) (trim (lowL (mkm 6 a0) l1)) (trim (lowL (mkm 6 a0) l2))
        have bMUL2 := mulP_le (mkm 6 a0) (trim (lowL (mkm 6 a0) l2)) (trim (lowL (mkm 6 a0) l1))
        have bADD := addP_le (lowL (mkm 6 a0) l1) (lowL (mkm 6 a0) l2)
        have bSC := fun x => scaleP_le (mkm 6 a0) (lowL (mkm 6 a0) l1) x
        have bDER := derP_le (lowL (mkm 6 a0) l1)
        have bGCD := gcdE_le (mkm 6 a0) (trim (lowL (mkm 6 a0) l1)) (trim (lowL (mkm 6 a0) l2))
        have bROOT := rootsP_len hm (trim (lowL (mkm 6 a0) l1))
        have bQU := quotP_le (mkm 6 a0) (trim (lowL (mkm 6 a0) l1)) (trim (lowL (mkm 6 a0) l2))
        have bRE := restP_le (mkm 6 a0) (trim (lowL (mkm 6 a0) l1)) (trim (lowL (mkm 6 a0) l2))
        have hx3 : l3.length ≤ 8 := by omega
        have hT3 := trimLow_len (mkm 6 a0) l3
        have hR3 := trimLow_tr (mkm 6 a0) l3
        have hL3 := lowL_len (mkm 6 a0) l3
        refine s_mv 45 rfl rfl ?_
        refine s_not 46 rfl rfl ?_
        refine s_pickF 47 rfl rfl rfl ?_
        refine SX.next ?_
        refine CW.condF rfl ?_
        refine CW.skip ?_
        refine KN.code ?_
        refine CW.seq ?_
        refine CW.seq ?_
        refine CW.reg [0, 1, 2, 3, 4, 5, 6, 7, 8, 9, 10, 11, 12, 13, 14, 15] rfl ?_   -- 5, more.go:15
        refine s_mv 53 rfl rfl ?_
        refine s_mv 54 rfl rfl ?_
        refine s_call1 55 rfl rfl rfl rfl (v := .int .i64 (((trim (lowL (mkm 6 a0) l1)).length : Nat) - 1)) (fun w hw => by have := degree_spec q0.1 q0.2 (mkm 6 a0) A1 l1.length c1 l1 _ hm (ring_of (hw.has (i := 1) rfl) (hw.has (i := 0) rfl)) (hw.old hs1) (by omega); rw [← trim_length] at this; exact this) (fun _ _ => trivial) ?_
        refine s_lt 56 rfl rfl rfl rfl ?_
        refine s_mv 57 rfl rfl ?_
        refine SX.bool 57 rfl (fun hb => ?_) (fun hb => ?_)
        · skip
          skip
          refine SX.skip rfl ?_
          refine SX.skip rfl ?_
          refine SX.skip rfl ?_
          refine SX.skip rfl ?_
          refine s_pickT 62 rfl rfl rfl ?_
          refine s_mv 63 rfl rfl ?_
          refine SX.skip rfl ?_
          refine SX.skip rfl ?_
          refine SX.skip rfl ?_
          refine SX.skip rfl ?_
          refine s_pickT 68 rfl rfl rfl ?_
          refine SX.next ?_
          refine CW.condT rfl ?_
          refine CW.seq ?_
          refine CW.reg [0, 1, 2, 3, 4] rfl ?_   -- 6, more.go:16
          refine s_mv 69 rfl rfl ?_
          refine s_call 70 rfl rfl rfl rfl (fun w hw => by have := pgcd_spec q0.1 q0.2 (mkm 6 a0) none 0 0 [] none 0 0 [] _ hm (ring_of (hw.has (i := 1) rfl) (hw.has (i := 0) rfl)) (Has.sl_nil _ 1 none) (Has.sl_nil _ 1 none) (by omega) (by omega); rw [gcd_nil] at this; exact this) (fun _ _ => trivial) (fun q70 _ => ?_)
          refine s_len 71 rfl rfl ?_
          refine s_eq 72 rfl rfl rfl (decide_eq_true rfl) ?_
          refine s_as 8 rfl rfl ?_
          refine SX.next ?_
          refine CW.ret ?_
          exact KN.ret (rs := [.tmp 8]) Tryd.results13 rfl (fun w hw => ⟨rfl, hw.nothing⟩)
        · skip
          have hd1 := of_decide_eq_false hb
          refine s_mv 58 rfl rfl ?_
          refine s_mv 59 rfl rfl ?_
          refine s_call1 60 rfl rfl rfl rfl (v := .int .i64 (((trim (lowL (mkm 6 a0) l2)).length : Nat) - 1)) (fun w hw => by have := degree_spec q0.1 q0.2 (mkm 6 a0) A2 l2.length c2 l2 _ hm (ring_of (hw.has (i := 1) rfl) (hw.has (i := 0) rfl)) (hw.old hs2) (by omega); rw [← trim_length] at this; exact this) (fun _ _ => trivial) ?_
          refine s_lt 61 rfl rfl rfl rfl ?_
          refine s_pickF 62 rfl rfl rfl ?_
          refine s_mv 63 rfl rfl ?_
          refine SX.bool 63 rfl (fun hb => ?_) (fun hb => ?_)
          · skip
            skip
            refine SX.skip rfl ?_
            refine SX.skip rfl ?_
            refine SX.skip rfl ?_
            refine SX.skip rfl ?_
            refine s_pickT 68 rfl rfl rfl ?_
            refine SX.next ?_
            refine CW.condT rfl ?_
            refine CW.seq ?_
            refine CW.reg [0, 1, 2, 3, 4] rfl ?_   -- 6, more.go:16
            refine s_mv 69 rfl rfl ?_
            refine s_call 70 rfl rfl rfl rfl (fun w hw => by have := pgcd_spec q0.1 q0.2 (mkm 6 a0) none 0 0 [] none 0 0 [] _ hm (ring_of (hw.has (i := 1) rfl) (hw.has (i := 0) rfl)) (Has.sl_nil _ 1 none) (Has.sl_nil _ 1 none) (by omega) (by omega); rw [gcd_nil] at this; exact this) (fun _ _ => trivial) (fun q70 _ => ?_)
            refine s_len 71 rfl rfl ?_
            refine s_eq 72 rfl rfl rfl (decide_eq_true rfl) ?_
            refine s_as 8 rfl rfl ?_
            refine SX.next ?_
            refine CW.ret ?_
            exact KN.ret (rs := [.tmp 8]) Tryd.results13 rfl (fun w hw => ⟨rfl, hw.nothing⟩)
          · skip
            have hd2 := of_decide_eq_false hb
            refine s_mv 64 rfl rfl ?_
            refine s_mv 65 rfl rfl ?_
            refine s_call1 66 rfl rfl rfl rfl (v := .int .i64 (((trim (lowL (mkm 6 a0) l3)).length : Nat) - 1)) (fun w hw => by have := degree_spec q0.1 q0.2 (mkm 6 a0) A3 l3.length c3 l3 _ hm (ring_of (hw.has (i := 1) rfl) (hw.has (i := 0) rfl)) (hw.old hs3) (by omega); rw [← trim_length] at this; exact this) (fun _ _ => trivial) ?_
            refine s_lt 67 rfl rfl rfl rfl ?_
            refine s_pickF 68 rfl rfl rfl ?_
            refine SX.next ?_
            refine CW.test rfl (fun hc => ?_) (fun hc => ?_)
            · skip
              refine CW.seq ?_
              refine CW.reg [0, 1, 2, 3, 4] rfl ?_   -- 6, more.go:16
              refine s_mv 69 rfl rfl ?_
              refine s_call 70 rfl rfl rfl rfl (fun w hw => by have := pgcd_spec q0.1 q0.2 (mkm 6 a0) none 0 0 [] none 0 0 [] _ hm (ring_of (hw.has (i := 1) rfl) (hw.has (i := 0) rfl)) (Has.sl_nil _ 1 none) (Has.sl_nil _ 1 none) (by omega) (by omega); rw [gcd_nil] at this; exact this) (fun _ _ => trivial) (fun q70 _ => ?_)
              refine s_len 71 rfl rfl ?_
              refine s_eq 72 rfl rfl rfl (decide_eq_true rfl) ?_
              refine s_as 8 rfl rfl ?_
              refine SX.next ?_
              refine CW.ret ?_
              exact KN.ret (rs := [.tmp 8]) Tryd.results13 rfl (fun w hw => ⟨rfl, hw.nothing⟩)
            · skip
              refine CW.skip ?_
              refine KN.code ?_
              refine CW.seq ?_
              have hX := mulP_tr hm hR1 hR3
              have hY := mulP_tr hm hR2 hR3
              have lX := mulP_len hm hR1 hR3 (by omega) (by omega)
              have lY := mulP_len hm hR2 hR3 (by omega) (by omega)
              have hG := monicP_tr hm (gcdE_tr hm hR1 hR2)
              have hMC := monicP_tr hm hR3
              have lMC := monicP_len hm hR3
              have lMX := monicP_len hm hX
              have bG1 := gcdE_le (mkm 6 a0) (mulP (mkm 6 a0) (trim (lowL (mkm 6 a0) l1)) (trim (lowL (mkm 6 a0) l3))) (mulP (mkm 6 a0) (trim (lowL (mkm 6 a0) l2)) (trim (lowL (mkm 6 a0) l3)))
              have bG2 := gcdE_le (mkm 6 a0) (mulP (mkm 6 a0) (trim (lowL (mkm 6 a0) l2)) (trim (lowL (mkm 6 a0) l3))) (mulP (mkm 6 a0) (trim (lowL (mkm 6 a0) l1)) (trim (lowL (mkm 6 a0) l3)))
              have bW := mulP_le (mkm 6 a0) (monicP (mkm 6 a0) (gcdE (mkm 6 a0) (trim (lowL (mkm 6 a0) l1)) (trim (lowL (mkm 6 a0) l2)))) (monicP (mkm 6 a0) (trim (lowL (mkm 6 a0) l3)))
              have hmc : scaleP (mkm 6 a0) (trim (lowL (mkm 6 a0) l3)) (inv (mkm 6 a0) (cf (trim (lowL (mkm 6 a0) l3)) ((trim (lowL (mkm 6 a0) l3)).length - 1))) = (monicP (mkm 6 a0) (trim (lowL (mkm 6 a0) l3))) := (monicP_of hm (by omega)).symm
              have hmx : scaleP (mkm 6 a0) (mulP (mkm 6 a0) (trim (lowL (mkm 6 a0) l1)) (trim (lowL (mkm 6 a0) l3))) (inv (mkm 6 a0) (cf (mulP (mkm 6 a0) (trim (lowL (mkm 6 a0) l1)) (trim (lowL (mkm 6 a0) l3))) ((mulP (mkm 6 a0) (trim (lowL (mkm 6 a0) l1)) (trim (lowL (mkm 6 a0) l3))).length - 1))) = (monicP (mkm 6 a0) (mulP (mkm 6 a0) (trim (lowL (mkm 6 a0) l1)) (trim (lowL (mkm 6 a0) l3)))) := (monicP_of hm (by omega)).symm
              refine CW.reg [0, 1, 2, 3, 4, 5, 6, 7, 8] rfl ?_   -- 7, more.go:18
              refine s_mv 74 rfl rfl ?_
              refine s_mv 75 rfl rfl ?_
              refine s_mv 76 rfl rfl ?_
              refine s_call 77 rfl rfl rfl rfl (fun w hw => by have := pmul_spec q0.1 q0.2 (mkm 6 a0) A1 l1.length c1 l1 A3 l3.length c3 l3 _ hm (ring_of (hw.has (i := 1) rfl) (hw.has (i := 0) rfl)) (hw.old hs1) (hw.old hs3) (by omega) (by omega) (by omega); exact this) (fun _ _ => trivial) (fun q77 hq77 => ?_)
              refine s_mv 73 rfl rfl ?_
              refine s_ext 78 rfl rfl rfl ?_
              refine s_ext 79 rfl rfl rfl ?_
              refine s_as 12 rfl rfl ?_
              refine s_as 13 rfl rfl ?_
              refine SX.next ?_
              refine CW.seq ?_
              refine CW.reg [0, 1, 2, 3, 4, 5, 6, 7, 8] rfl ?_   -- 8, more.go:19
              refine s_mv 81 rfl rfl ?_
              refine s_mv 82 rfl rfl ?_
              refine s_mv 83 rfl rfl ?_
              refine s_call 84 rfl rfl rfl rfl (fun w hw => by have := pmul_spec q0.1 q0.2 (mkm 6 a0) A2 l2.length c2 l2 A3 l3.length c3 l3 _ hm (ring_of (hw.has (i := 2) rfl) (hw.has (i := 1) rfl)) (hw.old hs2) (hw.old hs3) (by omega) (by omega) (by omega); exact this) (fun _ _ => trivial) (fun q84 hq84 => ?_)
              refine s_mv 80 rfl rfl ?_
              refine s_ext 85 rfl rfl rfl ?_
              refine s_ext 86 rfl rfl rfl ?_
              refine s_as 14 rfl rfl ?_
              refine s_as 15 rfl rfl ?_
              refine SX.next ?_
              refine CW.seq ?_
              refine CW.reg [0, 1, 2, 3, 4] rfl ?_   -- 9, more.go:20
              refine s_mv 87 rfl rfl ?_
              refine s_mv 88 rfl rfl ?_
              refine s_mv 89 rfl rfl ?_
              refine s_call 90 rfl rfl rfl rfl (fun w hw => by have := pgcd_spec q0.1 q0.2 (mkm 6 a0) q77.1 (mulP (mkm 6 a0) (trim (lowL (mkm 6 a0) l1)) (trim (lowL (mkm 6 a0) l3))).length q77.2 ((mulP (mkm 6 a0) (trim (lowL (mkm 6 a0) l1)) (trim (lowL (mkm 6 a0) l3))).map Int.ofNat) q84.1 (mulP (mkm 6 a0) (trim (lowL (mkm 6 a0) l2)) (trim (lowL (mkm 6 a0) l3))).length q84.2 ((mulP (mkm 6 a0) (trim (lowL (mkm 6 a0) l2)) (trim (lowL (mkm 6 a0) l3))).map Int.ofNat) _ hm (ring_of (hw.has (i := 3) rfl) (hw.has (i := 2) rfl)) (by rw [← nats_ints]; exact (hw.has (i := 1) rfl).of_own) (by rw [← nats_ints]; exact (hw.has (i := 0) rfl).of_own) (by omega) (by omega); rw [hX.low, hY.low] at this; exact this) (fun _ _ => trivial) (fun q90 hq90 => ?_)
              refine s_as 16 rfl rfl ?_
              refine SX.next ?_
              refine CW.seq ?_
              refine CW.reg [0, 1, 2, 3] rfl ?_   -- 10, more.go:21
              refine s_mv 91 rfl rfl ?_
              refine s_mv 92 rfl rfl ?_
              refine s_call 93 rfl rfl rfl rfl (fun w hw => by have := trim_spec q0.1 q0.2 (mkm 6 a0) A3 l3.length c3 l3 _ hm (ring_of (hw.has (i := 4) rfl) (hw.has (i := 3) rfl)) (hw.old hs3) (by omega); exact this) (fun _ _ => trivial) (fun q93 hq93 => ?_)
              refine s_as 17 rfl rfl ?_
              refine SX.next ?_
              refine CW.seq ?_
              refine CW.reg [0, 1, 2, 3, 4, 5, 6, 7, 8, 9, 10, 11] rfl ?_   -- 11, more.go:22
              refine s_mv 94 rfl rfl ?_
              refine s_mv 95 rfl rfl ?_
              refine s_mv 96 rfl rfl ?_
              refine s_mv 97 rfl rfl ?_
              refine s_mv 98 rfl rfl ?_
              refine s_len 99 rfl rfl ?_
              refine s_sub 100 rfl rfl rfl (r := (((trim (lowL (mkm 6 a0) l3)).length - 1 : Nat) : Int)) (by rw [show (((trim (lowL (mkm 6 a0) l3)).length : Nat) : Int) - 1 = (((trim (lowL (mkm 6 a0) l3)).length - 1 : Nat) : Int) by omega]; exact w64 (by omega)) ?_
              refine s_iaO 101 0 ((trim (lowL (mkm 6 a0) l3)).length - 1) rfl rfl rfl rfl rfl (by omega) ?_
              refine s_ldO 102 0 rfl rfl rfl (natsAtC (by omega)) ?_
              refine s_call1 103 rfl rfl rfl rfl (fun w hw => rinvN hm (hR3.c _) (hR3.top (by omega))) (fun _ _ => trivial) ?_
              refine s_call 104 rfl rfl rfl rfl (fun w hw => by have := scale_spec q0.1 q0.2 (mkm 6 a0) q93.1 (trim (lowL (mkm 6 a0) l3)).length q93.2 ((trim (lowL (mkm 6 a0) l3)).map Int.ofNat) (inv (mkm 6 a0) (cf (trim (lowL (mkm 6 a0) l3)) ((trim (lowL (mkm 6 a0) l3)).length - 1)) : Nat) _ hm (ring_of (hw.has (i := 5) rfl) (hw.has (i := 4) rfl)) (by rw [← nats_ints]; exact (hw.has (i := 0) rfl).of_own) (by omega); rw [lowL_ofNat hR3.lt, lo_nat (inv_lt hm _), hmc] at this; exact this) (fun _ _ => trivial) (fun q104 hq104 => ?_)
              refine s_as 18 rfl rfl ?_
              refine SX.next ?_
              refine CW.seq ?_
              refine CW.reg [0, 1, 2, 3, 4, 5, 6, 7, 8, 9, 10, 11] rfl ?_   -- 12, more.go:23
              refine s_mv 106 rfl rfl ?_
              refine s_mv 107 rfl rfl ?_
              refine s_mv 108 rfl rfl ?_
              refine s_mv 109 rfl rfl ?_
              refine s_call 110 rfl rfl rfl rfl (fun w hw => by have := pgcd_spec q0.1 q0.2 (mkm 6 a0) A1 l1.length c1 l1 A2 l2.length c2 l2 _ hm (ring_of (hw.has (i := 6) rfl) (hw.has (i := 5) rfl)) (hw.old hs1) (hw.old hs2) (by omega) (by omega); exact this) (fun _ _ => trivial) (fun q110 hq110 => ?_)
              refine s_mv 111 rfl rfl ?_
              refine s_call 112 rfl rfl rfl rfl (fun w hw => by have := pmul_spec q0.1 q0.2 (mkm 6 a0) q110.1 (monicP (mkm 6 a0) (gcdE (mkm 6 a0) (trim (lowL (mkm 6 a0) l1)) (trim (lowL (mkm 6 a0) l2)))).length q110.2 ((monicP (mkm 6 a0) (gcdE (mkm 6 a0) (trim (lowL (mkm 6 a0) l1)) (trim (lowL (mkm 6 a0) l2)))).map Int.ofNat) q104.1 (monicP (mkm 6 a0) (trim (lowL (mkm 6 a0) l3))).length q104.2 ((monicP (mkm 6 a0) (trim (lowL (mkm 6 a0) l3))).map Int.ofNat) _ hm (ring_of (hw.has (i := 7) rfl) (hw.has (i := 6) rfl)) (by rw [← nats_ints]; exact (hw.has (i := 0) rfl).of_own) (by rw [← nats_ints]; exact (hw.has (i := 1) rfl).of_own) (by omega) (by omega) (by rw [hG.low, hMC.low]; omega); rw [hG.low, hMC.low] at this; exact this) (fun _ _ => trivial) (fun q112 hq112 => ?_)
              refine s_mv 105 rfl rfl ?_
              refine s_ext 113 rfl rfl rfl ?_
              refine s_ext 114 rfl rfl rfl ?_
              refine s_as 19 rfl rfl ?_
              refine s_as 20 rfl rfl ?_
              refine SX.next ?_
              refine CW.seq ?_
              refine CW.reg [0, 1, 2, 3, 4, 5, 6, 7, 8, 9, 10, 11, 12, 13, 14, 15, 16, 17, 18, 19, 20, 21, 22, 23, 24, 25, 26, 27, 28, 29, 30, 31, 32, 33, 34, 35, 36] rfl ?_   -- 13, more.go:24
              refine s_mv 115 rfl rfl ?_
              refine s_eqNN 116 rfl rfl ?_
              refine s_mv 117 rfl rfl ?_
              refine s_mv 118 rfl rfl ?_
              refine s_mv 119 rfl rfl ?_
              refine s_call1 120 rfl rfl rfl rfl (v := .bool true) (fun w hw => by have := sameInts_spec q90.1 q112.1 (monicP (mkm 6 a0) (gcdE (mkm 6 a0) (mulP (mkm 6 a0) (trim (lowL (mkm 6 a0) l1)) (trim (lowL (mkm 6 a0) l3))) (mulP (mkm 6 a0) (trim (lowL (mkm 6 a0) l2)) (trim (lowL (mkm 6 a0) l3))))).length q90.2 (mulP (mkm 6 a0) (monicP (mkm 6 a0) (gcdE (mkm 6 a0) (trim (lowL (mkm 6 a0) l1)) (trim (lowL (mkm 6 a0) l2)))) (monicP (mkm 6 a0) (trim (lowL (mkm 6 a0) l3)))).length q112.2 ((monicP (mkm 6 a0) (gcdE (mkm 6 a0) (mulP (mkm 6 a0) (trim (lowL (mkm 6 a0) l1)) (trim (lowL (mkm 6 a0) l3))) (mulP (mkm 6 a0) (trim (lowL (mkm 6 a0) l2)) (trim (lowL (mkm 6 a0) l3))))).map Int.ofNat) ((mulP (mkm 6 a0) (monicP (mkm 6 a0) (gcdE (mkm 6 a0) (trim (lowL (mkm 6 a0) l1)) (trim (lowL (mkm 6 a0) l2)))) (monicP (mkm 6 a0) (trim (lowL (mkm 6 a0) l3)))).map Int.ofNat) _ (by rw [← nats_ints]; exact (hw.has (i := 4) rfl).of_own) (by rw [← nats_ints]; exact (hw.has (i := 0) rfl).of_own) (Nat.lt_of_le_of_lt (show (monicP (mkm 6 a0) (gcdE (mkm 6 a0) (mulP (mkm 6 a0) (trim (lowL (mkm 6 a0) l1)) (trim (lowL (mkm 6 a0) l3))) (mulP (mkm 6 a0) (trim (lowL (mkm 6 a0) l2)) (trim (lowL (mkm 6 a0) l3))))).length ≤ 4294967296 from (by omega)) (by decide)); rw [decide_eq_true (congrArg (List.map Int.ofNat) (gcd_mul hm hR1 hR2 hR3 (by omega)))] at this; exact this) (fun _ _ => trivial) ?_
              refine s_pickT 121 rfl rfl rfl ?_
              refine s_mv 122 rfl rfl ?_
              refine s_mv 123 rfl rfl ?_
              refine s_mv 124 rfl rfl ?_
              refine s_mv 125 rfl rfl ?_
              refine s_call 126 rfl rfl rfl rfl (fun w hw => by have := pgcd_spec q0.1 q0.2 (mkm 6 a0) q84.1 (mulP (mkm 6 a0) (trim (lowL (mkm 6 a0) l2)) (trim (lowL (mkm 6 a0) l3))).length q84.2 ((mulP (mkm 6 a0) (trim (lowL (mkm 6 a0) l2)) (trim (lowL (mkm 6 a0) l3))).map Int.ofNat) q77.1 (mulP (mkm 6 a0) (trim (lowL (mkm 6 a0) l1)) (trim (lowL (mkm 6 a0) l3))).length q77.2 ((mulP (mkm 6 a0) (trim (lowL (mkm 6 a0) l1)) (trim (lowL (mkm 6 a0) l3))).map Int.ofNat) _ hm (ring_of (hw.has (i := 8) rfl) (hw.has (i := 7) rfl)) (by rw [← nats_ints]; exact (hw.has (i := 5) rfl).of_own) (by rw [← nats_ints]; exact (hw.has (i := 6) rfl).of_own) (by omega) (by omega); rw [hX.low, hY.low] at this; exact this) (fun _ _ => trivial) (fun q126 hq126 => ?_)
              refine s_mv 127 rfl rfl ?_
              refine s_call1 128 rfl rfl rfl rfl (v := .bool true) (fun w hw => by have := sameInts_spec q126.1 q90.1 (monicP (mkm 6 a0) (gcdE (mkm 6 a0) (mulP (mkm 6 a0) (trim (lowL (mkm 6 a0) l2)) (trim (lowL (mkm 6 a0) l3))) (mulP (mkm 6 a0) (trim (lowL (mkm 6 a0) l1)) (trim (lowL (mkm 6 a0) l3))))).length q126.2 (monicP (mkm 6 a0) (gcdE (mkm 6 a0) (mulP (mkm 6 a0) (trim (lowL (mkm 6 a0) l1)) (trim (lowL (mkm 6 a0) l3))) (mulP (mkm 6 a0) (trim (lowL (mkm 6 a0) l2)) (trim (lowL (mkm 6 a0) l3))))).length q90.2 ((monicP (mkm 6 a0) (gcdE (mkm 6 a0) (mulP (mkm 6 a0) (trim (lowL (mkm 6 a0) l2)) (trim (lowL (mkm 6 a0) l3))) (mulP (mkm 6 a0) (trim (lowL (mkm 6 a0) l1)) (trim (lowL (mkm 6 a0) l3))))).map Int.ofNat) ((monicP (mkm 6 a0) (gcdE (mkm 6 a0) (mulP (mkm 6 a0) (trim (lowL (mkm 6 a0) l1)) (trim (lowL (mkm 6 a0) l3))) (mulP (mkm 6 a0) (trim (lowL (mkm 6 a0) l2)) (trim (lowL (mkm 6 a0) l3))))).map Int.ofNat) _ (by rw [← nats_ints]; exact (hw.has (i := 0) rfl).of_own) (by rw [← nats_ints]; exact (hw.has (i := 5) rfl).of_own) (Nat.lt_of_le_of_lt (show (monicP (mkm 6 a0) (gcdE (mkm 6 a0) (mulP (mkm 6 a0) (trim (lowL (mkm 6 a0) l2)) (trim (lowL (mkm 6 a0) l3))) (mulP (mkm 6 a0) (trim (lowL (mkm 6 a0) l1)) (trim (lowL (mkm 6 a0) l3))))).length ≤ 4294967296 from (by omega)) (by decide)); rw [decide_eq_true (congrArg (List.map Int.ofNat) (gcd_comm hm hY hX))] at this; exact this) (fun _ _ => trivial) ?_
              refine s_pickT 129 rfl rfl rfl ?_
              refine s_mv 130 rfl rfl ?_
              refine s_mv 131 rfl rfl ?_
              refine s_mv 132 rfl rfl ?_
              refine s_call 133 rfl rfl rfl rfl (fun w hw => by have := pgcd_spec q0.1 q0.2 (mkm 6 a0) q77.1 (mulP (mkm 6 a0) (trim (lowL (mkm 6 a0) l1)) (trim (lowL (mkm 6 a0) l3))).length q77.2 ((mulP (mkm 6 a0) (trim (lowL (mkm 6 a0) l1)) (trim (lowL (mkm 6 a0) l3))).map Int.ofNat) none 0 0 [] _ hm (ring_of (hw.has (i := 9) rfl) (hw.has (i := 8) rfl)) (by rw [← nats_ints]; exact (hw.has (i := 7) rfl).of_own) (Has.sl_nil _ 1 none) (by omega) (by omega); rw [hX.low, gcd_nil_r] at this; exact this) (fun _ _ => trivial) (fun q133 hq133 => ?_)
              refine s_mv 134 rfl rfl ?_
              refine s_mv 135 rfl rfl ?_
              refine s_mv 136 rfl rfl ?_
              refine s_call 137 rfl rfl rfl rfl (fun w hw => by have := trim_spec q0.1 q0.2 (mkm 6 a0) q77.1 (mulP (mkm 6 a0) (trim (lowL (mkm 6 a0) l1)) (trim (lowL (mkm 6 a0) l3))).length q77.2 ((mulP (mkm 6 a0) (trim (lowL (mkm 6 a0) l1)) (trim (lowL (mkm 6 a0) l3))).map Int.ofNat) _ hm (ring_of (hw.has (i := 10) rfl) (hw.has (i := 9) rfl)) (by rw [← nats_ints]; exact (hw.has (i := 8) rfl).of_own) (by omega); rw [hX.low] at this; exact this) (fun _ _ => trivial) (fun q137 hq137 => ?_)
              refine s_mv 138 rfl rfl ?_
              refine s_mv 139 rfl rfl ?_
              refine s_mv 140 rfl rfl ?_
              refine s_call 141 rfl rfl rfl rfl (fun w hw => by have := trim_spec q0.1 q0.2 (mkm 6 a0) q77.1 (mulP (mkm 6 a0) (trim (lowL (mkm 6 a0) l1)) (trim (lowL (mkm 6 a0) l3))).length q77.2 ((mulP (mkm 6 a0) (trim (lowL (mkm 6 a0) l1)) (trim (lowL (mkm 6 a0) l3))).map Int.ofNat) _ hm (ring_of (hw.has (i := 11) rfl) (hw.has (i := 10) rfl)) (by rw [← nats_ints]; exact (hw.has (i := 9) rfl).of_own) (by omega); rw [hX.low] at this; exact this) (fun _ _ => trivial) (fun q141 hq141 => ?_)
              refine s_mv 142 rfl rfl ?_
              refine s_mv 143 rfl rfl ?_
              refine s_call1 144 rfl rfl rfl rfl (v := .int .i64 (((mulP (mkm 6 a0) (trim (lowL (mkm 6 a0) l1)) (trim (lowL (mkm 6 a0) l3))).length : Nat) - 1)) (fun w hw => by have := degree_spec q0.1 q0.2 (mkm 6 a0) q77.1 (mulP (mkm 6 a0) (trim (lowL (mkm 6 a0) l1)) (trim (lowL (mkm 6 a0) l3))).length q77.2 ((mulP (mkm 6 a0) (trim (lowL (mkm 6 a0) l1)) (trim (lowL (mkm 6 a0) l3))).map Int.ofNat) _ hm (ring_of (hw.has (i := 12) rfl) (hw.has (i := 11) rfl)) (by rw [← nats_ints]; exact (hw.has (i := 10) rfl).of_own) (by omega); rw [← trim_length, hX.low] at this; exact this) (fun _ _ => trivial) ?_
              refine s_iaO 145 0 ((mulP (mkm 6 a0) (trim (lowL (mkm 6 a0) l1)) (trim (lowL (mkm 6 a0) l3))).length - 1) rfl rfl rfl rfl (by omega) (by omega) ?_
              refine s_ldO 146 0 rfl rfl rfl (natsAtC (by omega)) ?_
              refine s_call1 147 rfl rfl rfl rfl (fun w hw => rinvN hm (hX.c _) (hX.top (by omega))) (fun _ _ => trivial) ?_
              refine s_call 148 rfl rfl rfl rfl (fun w hw => by have := scale_spec q0.1 q0.2 (mkm 6 a0) q137.1 (mulP (mkm 6 a0) (trim (lowL (mkm 6 a0) l1)) (trim (lowL (mkm 6 a0) l3))).length q137.2 ((mulP (mkm 6 a0) (trim (lowL (mkm 6 a0) l1)) (trim (lowL (mkm 6 a0) l3))).map Int.ofNat) (inv (mkm 6 a0) (cf (mulP (mkm 6 a0) (trim (lowL (mkm 6 a0) l1)) (trim (lowL (mkm 6 a0) l3))) ((mulP (mkm 6 a0) (trim (lowL (mkm 6 a0) l1)) (trim (lowL (mkm 6 a0) l3))).length - 1)) : Nat) _ hm (ring_of (hw.has (i := 12) rfl) (hw.has (i := 11) rfl)) (by rw [← nats_ints]; exact (hw.has (i := 1) rfl).of_own) (by omega); rw [lowL_ofNat hX.lt, lo_nat (inv_lt hm _), hmx] at this; exact this) (fun _ _ => trivial) (fun q148 hq148 => ?_)
              refine s_call1 149 rfl rfl rfl rfl (v := .bool true) (fun w hw => by have := sameInts_spec q133.1 q148.1 (monicP (mkm 6 a0) (mulP (mkm 6 a0) (trim (lowL (mkm 6 a0) l1)) (trim (lowL (mkm 6 a0) l3)))).length q133.2 (monicP (mkm 6 a0) (mulP (mkm 6 a0) (trim (lowL (mkm 6 a0) l1)) (trim (lowL (mkm 6 a0) l3)))).length q148.2 ((monicP (mkm 6 a0) (mulP (mkm 6 a0) (trim (lowL (mkm 6 a0) l1)) (trim (lowL (mkm 6 a0) l3)))).map Int.ofNat) ((monicP (mkm 6 a0) (mulP (mkm 6 a0) (trim (lowL (mkm 6 a0) l1)) (trim (lowL (mkm 6 a0) l3)))).map Int.ofNat) _ (by rw [← nats_ints]; exact (hw.has (i := 3) rfl).of_own) (by rw [← nats_ints]; exact (hw.has (i := 0) rfl).of_own) (Nat.lt_of_le_of_lt (show (monicP (mkm 6 a0) (mulP (mkm 6 a0) (trim (lowL (mkm 6 a0) l1)) (trim (lowL (mkm 6 a0) l3)))).length ≤ 4294967296 from (by omega)) (by decide)); rw [decide_eq_true (rfl)] at this; exact this) (fun _ _ => trivial) ?_
              refine s_pickT 150 rfl rfl rfl ?_
              refine s_as 8 rfl rfl ?_
              refine SX.next ?_
              refine CW.ret ?_
              exact KN.ret (rs := [.tmp 8]) Tryd.results13 rfl (fun w hw => ⟨rfl, hw.nothing⟩)
