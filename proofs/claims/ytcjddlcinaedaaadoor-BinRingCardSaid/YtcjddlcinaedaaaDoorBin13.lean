/- The statement BinRing, walked. No condition but the errors' variables. -/
import Derived.Test.YtcjddlcinaedaaaDoorBin9
import Derived.Test.YtcjddlcinaedaaaDoorBin11
namespace Go.Proofs.YtcjddlcinaedaaaDoor
open Go Go.Lib Go.Sx Go.Fm
set_option maxRecDepth 100000

theorem bdiv_zero (A : Option Addr) (n c : Nat) (p : List Nat) (A2 : Option Addr) (n2 c2 : Nat) (p2 : List Nat) (e : Nat → Addr) (w : World) (ha : Has (sl 1 A n (nats .u8 p)) w) (hp : ∀ x ∈ p, x < 256) (hn : n ≤ 1073741824) (hcp : n ≤ c) (ha2 : Has (sl 1 A2 n2 (nats .u8 p2)) w) (hp2 : ∀ x ∈ p2, x < 256) (hn2 : n2 ≤ 1073741824) (hcp2 : n2 ≤ c2) (hz : Er e w 6) (h0 : (bl p2).length = 0) : Spec1 Tryd.prog 48 [.slice A n c, .slice A2 n2 c2] w (.tuple #[.slice none 0 0, .slice none 0 0, errV e 6]) := by
  have hla := nats_len ha
  subst hla
  have hla2 := nats_len ha2
  subst hla2
  have hnz : (trim p2).length = 0 := by
    refine Classical.byContradiction fun h => ?_
    have := bl_len_ge hp2 h
    omega
  refine spec_of Tryd.func48 rfl Tryd.ntmps48 rfl ?_
  refine CW.seq ?_
  refine CW.reg [0, 1, 2] rfl ?_   -- 0, binpoly.go:124
  refine s_as 4 rfl rfl ?_
  refine s_as 5 rfl rfl ?_
  refine s_as 6 rfl rfl ?_
  refine SX.next ?_
  refine CW.seq ?_
  refine CW.reg [0, 1, 2] rfl ?_   -- 1, binpoly.go:125
  refine s_mv 11 rfl rfl ?_
  refine s_call 12 rfl rfl rfl rfl (fun w hw => trimmed_spec A2 p2.length c2 p2 w (hw.old ha2) hp2 hn2 hcp2) (fun _ _ => trivial) (fun q2 hq2 => ?_)
  refine s_as 1 rfl rfl ?_
  refine SX.next ?_
  refine CW.seq ?_
  refine CW.seq ?_
  refine CW.reg [0, 1, 2] rfl ?_   -- 2, binpoly.go:126
  refine s_mv 13 rfl rfl ?_
  refine s_len 14 rfl rfl ?_
  refine s_eq 15 rfl rfl rfl (decide_eq_true (by omega)) ?_
  refine SX.next ?_
  refine CW.condT rfl ?_
  refine CW.seq ?_
  refine CW.regD (.st true 0 (.st true 1 (.st true 2 (.st true 3 .done)))) (Sto w []) mixed (by kernel_rfl) (fun _ h => h.drew) (fun _ h => h.dropR) ?_
  refine s_ldS 16 rfl rfl (fun _ h => h.cell hz) ?_
  refine s_as 4 rfl rfl ?_
  refine s_as 5 rfl rfl ?_
  refine s_as 6 rfl rfl ?_
  refine SX.next ?_
  refine CW.ret ?_
  exact KN.ret (rs := [.tmp 4, .tmp 5, .tmp 6]) Tryd.results48 rfl (fun w hw => ⟨rfl, hw.dropR⟩)

theorem mulP_le3 (a b : List Nat) : (mulP 3 a b).length ≤ a.length + b.length := by
  unfold mulP pl
  rw [trim_length]
  have := tl_le ((List.range (a.length + b.length - 1)).map fun j => cv 3 (cf a) (cf b) j)
  simp at this
  omega
theorem pl_le (n : Nat) (f : Nat → Nat) : (pl n f).length ≤ n := by
  unfold pl
  rw [trim_length]
  simpa using tl_le ((List.range n).map f)
theorem gcdP_le3 : ∀ (k : Nat) (a b : List Nat), (gcdP 3 k a b).length ≤ max a.length b.length
  | 0, a, _ => Nat.le_max_left _ _
  | k + 1, a, b => by
    unfold gcdP
    split
    · exact Nat.le_max_left _ _
    · have h1 := gcdP_le3 k b (restP 3 a b)
      have h2 : (restP 3 a b).length ≤ a.length := pl_le _ _
      omega
theorem ev_two (p : List Nat) : evL 3 (bl p) 1 < 2 := by
  rw [← parB_ev]
  exact xs_two (fun i _ => bitN_lt p i)
theorem and_gm {x y : Nat} (hx : x < 2) (hy : y < 2) : x &&& y = gm 3 x y := by
  rcases (show x = 0 ∨ x = 1 by omega) with rfl | rfl <;> rcases (show y = 0 ∨ y = 1 by omega) with rfl | rfl <;> decide
theorem gcd_rest3 {a b : List Nat} (ha : B1 a) (hb : B1 b) (h0 : b.length ≠ 0) : (gcdE 3 a b).length ≠ 0 ∧ restP 3 a (gcdE 3 a b) = [] ∧ restP 3 b (gcdE 3 a b) = [] := by
  have hg := gcdE_tr ok3 ha.tr hb.tr
  have hd := gcdE_dvd ok3 ha.tr hb.tr
  have hg0 : (gcdE 3 a b).length ≠ 0 := fun h => by
    obtain ⟨q, _, h2⟩ := hd.2
    rw [List.eq_nil_of_length_eq_zero h, mulP_nil_r] at h2
    rw [← h2] at h0
    exact h0 rfl
  exact ⟨hg0, rest_of_dvd ok3 ha.tr hg hg0 hd.1, rest_of_dvd ok3 hb.tr hg hg0 hd.2⟩

set_option maxHeartbeats 1600000 in

theorem binRing_11 (A1 : Option Addr) (n1 c1 : Nat) (p1 : List Nat) (A2 : Option Addr) (n2 c2 : Nat) (p2 : List Nat) (A3 : Option Addr) (n3 c3 : Nat) (p3 : List Nat) (e : Nat → Addr) (w : World) (ha1 : Has (sl 1 A1 n1 (nats .u8 p1)) w) (hp1 : ∀ x ∈ p1, x < 256) (hn1 : n1 ≤ 9223372036854775807) (hcp1 : n1 ≤ c1) (ha2 : Has (sl 1 A2 n2 (nats .u8 p2)) w) (hp2 : ∀ x ∈ p2, x < 256) (hn2 : n2 ≤ 9223372036854775807) (hcp2 : n2 ≤ c2) (ha3 : Has (sl 1 A3 n3 (nats .u8 p3)) w) (hp3 : ∀ x ∈ p3, x < 256) (hn3 : n3 ≤ 9223372036854775807) (hcp3 : n3 ≤ c3) (hz : Er e w 6) (hnu : Er e w 4) (ha0 : (bl p1).length = 0) (hb0 : (bl p2).length = 0) : Spec1 Tryd.prog 14 [.slice A1 n1 c1, .slice A2 n2 c2, .slice A3 n3 c3] w (.bool true) := by
  have hla1 := nats_len ha1
  subst hla1
  have hla2 := nats_len ha2
  subst hla2
  have hla3 := nats_len ha3
  subst hla3
  refine spec_of Tryd.func14 rfl Tryd.ntmps14 rfl ?_
  refine CW.seq ?_
  refine CW.reg [0] rfl ?_   -- 0, law.go:82
  refine s_as 6 rfl rfl ?_
  refine SX.next ?_
  refine CW.seq ?_
  refine CW.reg [0, 1] rfl ?_   -- 1, law.go:83
  refine s_call1 31 rfl rfl rfl rfl (fun w hw => first3_spec e w (hw.er hnu)) (fun _ _ => trivial) ?_
  refine s_as 7 rfl rfl ?_
  refine SX.next ?_
  refine CW.seq ?_
  refine CW.seq ?_
  refine CW.reg [0, 1, 2, 3, 4, 5, 6, 7, 8, 9, 10, 11, 12, 13, 14, 15, 16] rfl ?_   -- 2, law.go:84
  refine s_mv 32 rfl rfl ?_
  refine s_len 33 rfl rfl ?_
  refine s_gt 34 rfl rfl rfl rfl ?_
  refine s_mv 35 rfl rfl ?_
  refine SX.bool 35 rfl (fun hb => ?_) (fun hb => ?_)
  · skip
    skip
    refine SX.skip rfl ?_
    refine SX.skip rfl ?_
    refine SX.skip rfl ?_
    refine s_pickT 39 rfl rfl rfl ?_
    refine s_mv 40 rfl rfl ?_
    refine SX.skip rfl ?_
    refine SX.skip rfl ?_
    refine SX.skip rfl ?_
    refine s_pickT 44 rfl rfl rfl ?_
    refine s_mv 45 rfl rfl ?_
    refine SX.skip rfl ?_
    refine SX.skip rfl ?_
    refine s_pickT 48 rfl rfl rfl ?_
    refine SX.next ?_
    refine CW.condT rfl ?_
    refine CW.seq ?_
    refine CW.reg [0, 1] rfl ?_   -- 3, law.go:85
    refine s_mv 49 rfl rfl ?_
    refine s_as 6 rfl rfl ?_
    refine SX.next ?_
    refine CW.ret ?_
    exact KN.ret (rs := [.tmp 6]) Tryd.results14 rfl (fun w hw => ⟨rfl, hw.nothing⟩)
  · skip
    have hl1 := of_decide_eq_false hb
    refine s_mv 36 rfl rfl ?_
    refine s_len 37 rfl rfl ?_
    refine s_gt 38 rfl rfl rfl rfl ?_
    refine s_pickF 39 rfl rfl rfl ?_
    refine s_mv 40 rfl rfl ?_
    refine SX.bool 40 rfl (fun hb => ?_) (fun hb => ?_)
    · skip
      skip
      refine SX.skip rfl ?_
      refine SX.skip rfl ?_
      refine SX.skip rfl ?_
      refine s_pickT 44 rfl rfl rfl ?_
      refine s_mv 45 rfl rfl ?_
      refine SX.skip rfl ?_
      refine SX.skip rfl ?_
      refine s_pickT 48 rfl rfl rfl ?_
      refine SX.next ?_
      refine CW.condT rfl ?_
      refine CW.seq ?_
      refine CW.reg [0, 1] rfl ?_   -- 3, law.go:85
      refine s_mv 49 rfl rfl ?_
      refine s_as 6 rfl rfl ?_
      refine SX.next ?_
      refine CW.ret ?_
      exact KN.ret (rs := [.tmp 6]) Tryd.results14 rfl (fun w hw => ⟨rfl, hw.nothing⟩)
    · skip
      have hl2 := of_decide_eq_false hb
      refine s_mv 41 rfl rfl ?_
      refine s_len 42 rfl rfl ?_
      refine s_gt 43 rfl rfl rfl rfl ?_
      refine s_pickF 44 rfl rfl rfl ?_
      refine s_mv 45 rfl rfl ?_
      refine SX.bool 45 rfl (fun hb => ?_) (fun hb => ?_)
      · skip
        skip
        refine SX.skip rfl ?_
        refine SX.skip rfl ?_
        refine s_pickT 48 rfl rfl rfl ?_
        refine SX.next ?_
        refine CW.condT rfl ?_
        refine CW.seq ?_
        refine CW.reg [0, 1] rfl ?_   -- 3, law.go:85
        refine s_mv 49 rfl rfl ?_
        refine s_as 6 rfl rfl ?_
        refine SX.next ?_
        refine CW.ret ?_
        exact KN.ret (rs := [.tmp 6]) Tryd.results14 rfl (fun w hw => ⟨rfl, hw.nothing⟩)
      · skip
        have hlen := of_decide_eq_false hb
        have h140 : p1.length ≤ 40 := by omega
        have h240 : p2.length ≤ 40 := by omega
        have h340 : p3.length ≤ 40 := by omega
        have l1 := bl_len p1
        have l2 := bl_len p2
        have l3 := bl_len p3
        have hA := bl_b1 p1
        have hB := bl_b1 p2
        have hC := bl_b1 p3
        have hAB := mulP_b1 hA hB
        have hBA := mulP_b1 hB hA
        have hAC := mulP_b1 hA hC
        have hBC := addP_b1 hB hC
        have hLF := mulP_b1 hA hBC
        have hSM := addP_b1 hAB hAC
        have hS1 := addP_b1 hA hB
        have hS2 := addP_b1 hB hA
        have e1 := mulP_comm ok3 hA.tr hB.tr
        have e2 := mulP_add_right ok3 hA.tr hB.tr hC.tr
        have e3 := addP_self ok3 hA.tr
        have m1 := mulP_le3 (bl p1) (bl p2)
        have m2 := mulP_le3 (bl p2) (bl p1)
        have m3 := mulP_le3 (bl p1) (bl p3)
        have m4 := addP_le8 (bl p2) (bl p3)
        have m5 := mulP_le3 (bl p1) (addP (bl p2) (bl p3))
        have m6 := addP_le8 (mulP 3 (bl p1) (bl p2)) (mulP 3 (bl p1) (bl p3))
        have m7 := addP_le8 (bl p1) (bl p2)
        have m8 := addP_le8 (bl p2) (bl p1)
        have y1 := bys_len (mulP 3 (bl p1) (bl p2))
        have y2 := bys_len (mulP 3 (bl p2) (bl p1))
        have y3 := bys_len (mulP 3 (bl p1) (bl p3))
        have y4 := bys_len (addP (bl p2) (bl p3))
        have y5 := bys_len (mulP 3 (bl p1) (addP (bl p2) (bl p3)))
        have y6 := bys_len (addP (mulP 3 (bl p1) (bl p2)) (mulP 3 (bl p1) (bl p3)))
        have y7 := bys_len (addP (bl p1) (bl p2))
        have y8 := bys_len (addP (bl p2) (bl p1))
        have yn : (bys []).length = 0 := by rw [bys_nil]; rfl
        refine s_mv 46 rfl rfl ?_
        refine s_not 47 rfl rfl ?_
        refine s_pickF 48 rfl rfl rfl ?_
        refine SX.next ?_
        refine CW.condF rfl ?_
        refine CW.skip ?_
        refine KN.code ?_
        refine CW.seq ?_
        refine CW.reg [0, 1] rfl ?_   -- 4, law.go:87
        refine s_mv 50 rfl rfl ?_
        refine s_as 8 rfl rfl ?_
        refine SX.next ?_
        refine CW.seq ?_
        refine CW.reg [0, 1] rfl ?_   -- 5, law.go:88
        refine s_mv 51 rfl rfl ?_
        refine s_as 9 rfl rfl ?_
        refine SX.next ?_
        refine CW.seq ?_
        refine CW.reg [0, 1] rfl ?_   -- 6, law.go:89
        refine s_mv 52 rfl rfl ?_
        refine s_as 10 rfl rfl ?_
        refine SX.next ?_
        refine CW.seq ?_
        refine CW.reg [0, 1, 2, 3, 4, 5, 6, 7] rfl ?_   -- 7, law.go:90
        refine s_mv 54 rfl rfl ?_
        refine s_mv 55 rfl rfl ?_
        refine s_call 56 rfl rfl rfl rfl (fun w hw => by have := bmul_spec A1 p1.length c1 p1 A2 p2.length c2 p2 w (hw.old ha1) hp1 (by omega) hcp1 (hw.old ha2) hp2 (by omega) hcp2 (by omega); exact this) (fun _ _ => trivial) (fun q56 hq56 => ?_)
        refine s_mv 53 rfl rfl ?_
        refine s_ext 57 rfl rfl rfl ?_
        refine s_ext 58 rfl rfl rfl ?_
        refine s_as 11 rfl rfl ?_
        refine s_as 12 rfl rfl ?_
        refine SX.next ?_
        refine CW.seq ?_
        refine CW.reg [0, 1, 2, 3, 4, 5, 6, 7] rfl ?_   -- 8, law.go:91
        refine s_mv 60 rfl rfl ?_
        refine s_mv 61 rfl rfl ?_
        refine s_call 62 rfl rfl rfl rfl (fun w hw => by have := bmul_spec A2 p2.length c2 p2 A1 p1.length c1 p1 w (hw.old ha2) hp2 (by omega) hcp2 (hw.old ha1) hp1 (by omega) hcp1 (by omega); exact this) (fun _ _ => trivial) (fun q62 hq62 => ?_)
        refine s_mv 59 rfl rfl ?_
        refine s_ext 63 rfl rfl rfl ?_
        refine s_ext 64 rfl rfl rfl ?_
        refine s_as 13 rfl rfl ?_
        refine s_as 14 rfl rfl ?_
        refine SX.next ?_
        refine CW.seq ?_
        refine CW.reg [0, 1, 2, 3, 4, 5, 6, 7] rfl ?_   -- 9, law.go:92
        refine s_mv 66 rfl rfl ?_
        refine s_mv 67 rfl rfl ?_
        refine s_call 68 rfl rfl rfl rfl (fun w hw => by have := bmul_spec A1 p1.length c1 p1 A3 p3.length c3 p3 w (hw.old ha1) hp1 (by omega) hcp1 (hw.old ha3) hp3 (by omega) hcp3 (by omega); exact this) (fun _ _ => trivial) (fun q68 hq68 => ?_)
        refine s_mv 65 rfl rfl ?_
        refine s_ext 69 rfl rfl rfl ?_
        refine s_ext 70 rfl rfl rfl ?_
        refine s_as 15 rfl rfl ?_
        refine s_as 16 rfl rfl ?_
        refine SX.next ?_
        refine CW.seq ?_
        refine CW.reg [0, 1, 2, 3, 4, 5, 6, 7, 8, 9] rfl ?_   -- 10, law.go:93
        refine s_mv 72 rfl rfl ?_
        refine s_mv 73 rfl rfl ?_
        refine s_mv 74 rfl rfl ?_
        refine s_call 75 rfl rfl rfl rfl (fun w hw => by have := badd_spec A2 p2.length c2 p2 A3 p3.length c3 p3 w (hw.old ha2) hp2 (by omega) hcp2 (hw.old ha3) hp3 (by omega) hcp3; exact this) (fun _ _ => trivial) (fun q75 hq75 => ?_)
        refine s_call 76 rfl rfl rfl rfl (fun w hw => by have := bmul_spec A1 p1.length c1 p1 q75.1 (bys (addP (bl p2) (bl p3))).length q75.2 (bys (addP (bl p2) (bl p3))) w (hw.old ha1) hp1 (by omega) hcp1 ((hw.has (i := 0) rfl).of_own) (bys_lt hBC) (by omega) hq75 (by rw [bl_bys hBC]; omega); rw [bl_bys hBC] at this; exact this) (fun _ _ => trivial) (fun q76 hq76 => ?_)
        refine s_mv 71 rfl rfl ?_
        refine s_ext 77 rfl rfl rfl ?_
        refine s_ext 78 rfl rfl rfl ?_
        refine s_as 17 rfl rfl ?_
        refine s_as 18 rfl rfl ?_
        refine SX.next ?_
        refine CW.seq ?_
        refine CW.seq ?_
        refine CW.reg [0, 1, 2, 3, 4, 5, 6, 7, 8, 9, 10, 11, 12, 13, 14, 15, 16, 17, 18, 19, 20, 21, 22, 23, 24, 25, 26, 27, 28] rfl ?_   -- 11, law.go:94
        refine s_mv 79 rfl rfl ?_
        refine s_mv 80 rfl rfl ?_
        refine s_call1 81 rfl rfl rfl rfl (v := .bool true) (fun w hw => by have := bsm_spec q56.1 (bys (mulP 3 (bl p1) (bl p2))).length q56.2 (bys (mulP 3 (bl p1) (bl p2))) q62.1 (bys (mulP 3 (bl p2) (bl p1))).length q62.2 (bys (mulP 3 (bl p2) (bl p1))) w ((hw.has (i := 4) rfl).of_own) (bys_lt hAB) (by omega) hq56 ((hw.has (i := 3) rfl).of_own) (bys_lt hBA) (by omega) hq62; rw [bl_bys hAB, bl_bys hBA] at this; rw [decide_eq_true (e1)] at this; exact this) (fun _ _ => trivial) ?_
        refine s_not 82 rfl rfl ?_
        refine s_mv 83 rfl rfl ?_
        refine s_mv 84 rfl rfl ?_
        refine s_mv 85 rfl rfl ?_
        refine s_mv 86 rfl rfl ?_
        refine s_call 87 rfl rfl rfl rfl (fun w hw => by have := badd_spec q56.1 (bys (mulP 3 (bl p1) (bl p2))).length q56.2 (bys (mulP 3 (bl p1) (bl p2))) q68.1 (bys (mulP 3 (bl p1) (bl p3))).length q68.2 (bys (mulP 3 (bl p1) (bl p3))) w ((hw.has (i := 4) rfl).of_own) (bys_lt hAB) (by omega) hq56 ((hw.has (i := 2) rfl).of_own) (bys_lt hAC) (by omega) hq68; rw [bl_bys hAB, bl_bys hAC] at this; exact this) (fun _ _ => trivial) (fun q87 hq87 => ?_)
        refine s_call1 88 rfl rfl rfl rfl (v := .bool true) (fun w hw => by have := bsm_spec q76.1 (bys (mulP 3 (bl p1) (addP (bl p2) (bl p3)))).length q76.2 (bys (mulP 3 (bl p1) (addP (bl p2) (bl p3)))) q87.1 (bys (addP (mulP 3 (bl p1) (bl p2)) (mulP 3 (bl p1) (bl p3)))).length q87.2 (bys (addP (mulP 3 (bl p1) (bl p2)) (mulP 3 (bl p1) (bl p3)))) w ((hw.has (i := 1) rfl).of_own) (bys_lt hLF) (by omega) hq76 ((hw.has (i := 0) rfl).of_own) (bys_lt hSM) (by omega) hq87; rw [bl_bys hLF, bl_bys hSM] at this; rw [decide_eq_true (e2)] at this; exact this) (fun _ _ => trivial) ?_
        refine s_not 89 rfl rfl ?_
        refine s_pickF 90 rfl rfl rfl ?_
        refine s_mv 91 rfl rfl ?_
        refine s_mv 92 rfl rfl ?_
        refine s_mv 93 rfl rfl ?_
        refine s_call 94 rfl rfl rfl rfl (fun w hw => by have := badd_spec A1 p1.length c1 p1 A1 p1.length c1 p1 w (hw.old ha1) hp1 (by omega) hcp1 (hw.old ha1) hp1 (by omega) hcp1; rw [e3] at this; exact this) (fun _ _ => trivial) (fun q94 hq94 => ?_)
        refine s_call1 95 rfl rfl rfl rfl (v := .int .i64 (-1)) (fun w hw => by have := bdeg_spec q94.1 (bys []).length q94.2 (bys []) w ((hw.has (i := 0) rfl).of_own) (bys_lt nil_b1) (by omega) hq94; rw [bl_bys nil_b1] at this; exact this) (fun _ _ => trivial) ?_
        refine s_ne 96 rfl rfl rfl (decide_eq_false (by omega)) ?_
        refine s_pickF 97 rfl rfl rfl ?_
        refine s_mv 98 rfl rfl ?_
        refine s_mv 99 rfl rfl ?_
        refine s_mv 100 rfl rfl ?_
        refine s_call 101 rfl rfl rfl rfl (fun w hw => by have := badd_spec A1 p1.length c1 p1 A2 p2.length c2 p2 w (hw.old ha1) hp1 (by omega) hcp1 (hw.old ha2) hp2 (by omega) hcp2; exact this) (fun _ _ => trivial) (fun q101 hq101 => ?_)
        refine s_mv 102 rfl rfl ?_
        refine s_mv 103 rfl rfl ?_
        refine s_call 104 rfl rfl rfl rfl (fun w hw => by have := badd_spec A2 p2.length c2 p2 A1 p1.length c1 p1 w (hw.old ha2) hp2 (by omega) hcp2 (hw.old ha1) hp1 (by omega) hcp1; exact this) (fun _ _ => trivial) (fun q104 hq104 => ?_)
        refine s_call1 105 rfl rfl rfl rfl (v := .bool true) (fun w hw => by have := bsm_spec q101.1 (bys (addP (bl p1) (bl p2))).length q101.2 (bys (addP (bl p1) (bl p2))) q104.1 (bys (addP (bl p2) (bl p1))).length q104.2 (bys (addP (bl p2) (bl p1))) w ((hw.has (i := 1) rfl).of_own) (bys_lt hS1) (by omega) hq101 ((hw.has (i := 0) rfl).of_own) (bys_lt hS2) (by omega) hq104; rw [bl_bys hS1, bl_bys hS2] at this; rw [decide_eq_true (addP_comm _ _)] at this; exact this) (fun _ _ => trivial) ?_
        refine s_not 106 rfl rfl ?_
        refine s_pickF 107 rfl rfl rfl ?_
        refine SX.next ?_
        refine CW.condF rfl ?_
        refine CW.skip ?_
        refine KN.code ?_
        refine CW.seq ?_
        refine CW.seq ?_
        refine CW.reg [0, 1, 2, 3, 4, 5, 6, 7, 8, 9, 10, 11, 12, 13, 14, 15, 16, 17] rfl ?_   -- 13, law.go:97
        refine s_mv 108 rfl rfl ?_
        refine s_call1 109 rfl rfl rfl rfl (v := .int .i64 (((bl p1).length : Nat) - 1 : Int)) (fun w hw => by have := bdeg_spec A1 p1.length c1 p1 w (hw.old ha1) hp1 (by omega) hcp1; exact this) (fun _ _ => trivial) ?_
        refine s_ge 110 rfl rfl rfl (decide_eq_false (by omega)) ?_
        refine s_mv 111 rfl rfl ?_
        refine SX.skip rfl ?_
        refine SX.skip rfl ?_
        refine SX.skip rfl ?_
        refine s_pickF 115 rfl rfl rfl ?_
        refine s_mv 116 rfl rfl ?_
        refine SX.skip rfl ?_
        refine SX.skip rfl ?_
        refine SX.skip rfl ?_
        refine SX.skip rfl ?_
        refine SX.skip rfl ?_
        refine SX.skip rfl ?_
        refine SX.skip rfl ?_
        refine SX.skip rfl ?_
        refine s_pickF 125 rfl rfl rfl ?_
        refine SX.next ?_
        refine CW.condF rfl ?_
        refine CW.skip ?_
        refine KN.code ?_
        refine CW.seq ?_
        refine CW.reg [0, 1, 2, 3, 4, 5, 6, 7, 8, 9] rfl ?_   -- 15, law.go:100
        refine s_mv 127 rfl rfl ?_
        refine s_mv 128 rfl rfl ?_
        refine s_call1 129 rfl rfl rfl rfl (fun w hw => bdiv_zero A1 p1.length c1 p1 A2 p2.length c2 p2 e w (hw.old ha1) hp1 (by omega) hcp1 (hw.old ha2) hp2 (by omega) hcp2 (hw.er hz) hb0) (fun _ _ => trivial) ?_
        refine s_mv 126 rfl rfl ?_
        refine s_ext 130 rfl rfl rfl ?_
        refine s_ext 131 rfl rfl rfl ?_
        refine s_ext 132 rfl rfl rfl ?_
        refine s_as 19 rfl rfl ?_
        refine s_as 20 rfl rfl ?_
        refine s_as 21 rfl rfl ?_
        refine SX.next ?_
        refine CW.seq ?_
        refine CW.seq ?_
        refine CW.reg [0, 1, 2] rfl ?_   -- 16, law.go:101
        refine s_mv 133 rfl rfl ?_
        refine s_call1 134 rfl rfl rfl rfl (v := .int .i64 (((bl p2).length : Nat) - 1 : Int)) (fun w hw => by have := bdeg_spec A2 p2.length c2 p2 w (hw.old ha2) hp2 (by omega) hcp2; exact this) (fun _ _ => trivial) ?_
        refine s_lt 135 rfl rfl rfl (decide_eq_true (by omega)) ?_
        refine SX.next ?_
        refine CW.condT rfl ?_
        refine CW.seq ?_
        refine CW.reg [0, 1, 2, 3] rfl ?_   -- 17, law.go:102
        refine s_mv 136 rfl rfl ?_
        refine s_ld 137 rfl rfl (fun _ h => h.cell hz) ?_
        refine s_eqE 138 rfl rfl rfl ?_
        refine s_as 6 rfl rfl ?_
        refine SX.next ?_
        refine CW.ret ?_
        exact KN.ret (rs := [.tmp 6]) Tryd.results14 rfl (fun w hw => ⟨rfl, hw.nothing⟩)

set_option maxHeartbeats 1600000 in

theorem binRing_10 (A1 : Option Addr) (n1 c1 : Nat) (p1 : List Nat) (A2 : Option Addr) (n2 c2 : Nat) (p2 : List Nat) (A3 : Option Addr) (n3 c3 : Nat) (p3 : List Nat) (e : Nat → Addr) (w : World) (ha1 : Has (sl 1 A1 n1 (nats .u8 p1)) w) (hp1 : ∀ x ∈ p1, x < 256) (hn1 : n1 ≤ 9223372036854775807) (hcp1 : n1 ≤ c1) (ha2 : Has (sl 1 A2 n2 (nats .u8 p2)) w) (hp2 : ∀ x ∈ p2, x < 256) (hn2 : n2 ≤ 9223372036854775807) (hcp2 : n2 ≤ c2) (ha3 : Has (sl 1 A3 n3 (nats .u8 p3)) w) (hp3 : ∀ x ∈ p3, x < 256) (hn3 : n3 ≤ 9223372036854775807) (hcp3 : n3 ≤ c3) (hz : Er e w 6) (hnu : Er e w 4) (ha0 : (bl p1).length = 0) (hb0 : (bl p2).length ≠ 0) : Spec1 Tryd.prog 14 [.slice A1 n1 c1, .slice A2 n2 c2, .slice A3 n3 c3] w (.bool true) := by
  have hla1 := nats_len ha1
  subst hla1
  have hla2 := nats_len ha2
  subst hla2
  have hla3 := nats_len ha3
  subst hla3
  refine spec_of Tryd.func14 rfl Tryd.ntmps14 rfl ?_
  refine CW.seq ?_
  refine CW.reg [0] rfl ?_   -- 0, law.go:82
  refine s_as 6 rfl rfl ?_
  refine SX.next ?_
  refine CW.seq ?_
  refine CW.reg [0, 1] rfl ?_   -- 1, law.go:83
  refine s_call1 31 rfl rfl rfl rfl (fun w hw => first3_spec e w (hw.er hnu)) (fun _ _ => trivial) ?_
  refine s_as 7 rfl rfl ?_
  refine SX.next ?_
  refine CW.seq ?_
  refine CW.seq ?_
  refine CW.reg [0, 1, 2, 3, 4, 5, 6, 7, 8, 9, 10, 11, 12, 13, 14, 15, 16] rfl ?_   -- 2, law.go:84
  refine s_mv 32 rfl rfl ?_
  refine s_len 33 rfl rfl ?_
  refine s_gt 34 rfl rfl rfl rfl ?_
  refine s_mv 35 rfl rfl ?_
  refine SX.bool 35 rfl (fun hb => ?_) (fun hb => ?_)
  · skip
    skip
    refine SX.skip rfl ?_
    refine SX.skip rfl ?_
    refine SX.skip rfl ?_
    refine s_pickT 39 rfl rfl rfl ?_
    refine s_mv 40 rfl rfl ?_
    refine SX.skip rfl ?_
    refine SX.skip rfl ?_
    refine SX.skip rfl ?_
    refine s_pickT 44 rfl rfl rfl ?_
    refine s_mv 45 rfl rfl ?_
    refine SX.skip rfl ?_
    refine SX.skip rfl ?_
    refine s_pickT 48 rfl rfl rfl ?_
    refine SX.next ?_
    refine CW.condT rfl ?_
    refine CW.seq ?_
    refine CW.reg [0, 1] rfl ?_   -- 3, law.go:85
    refine s_mv 49 rfl rfl ?_
    refine s_as 6 rfl rfl ?_
    refine SX.next ?_
    refine CW.ret ?_
    exact KN.ret (rs := [.tmp 6]) Tryd.results14 rfl (fun w hw => ⟨rfl, hw.nothing⟩)
  · skip
    have hl1 := of_decide_eq_false hb
    refine s_mv 36 rfl rfl ?_
    refine s_len 37 rfl rfl ?_
    refine s_gt 38 rfl rfl rfl rfl ?_
    refine s_pickF 39 rfl rfl rfl ?_
    refine s_mv 40 rfl rfl ?_
    refine SX.bool 40 rfl (fun hb => ?_) (fun hb => ?_)
    · skip
      skip
      refine SX.skip rfl ?_
      refine SX.skip rfl ?_
      refine SX.skip rfl ?_
      refine s_pickT 44 rfl rfl rfl ?_
      refine s_mv 45 rfl rfl ?_
      refine SX.skip rfl ?_
      refine SX.skip rfl ?_
      refine s_pickT 48 rfl rfl rfl ?_
      refine SX.next ?_
      refine CW.condT rfl ?_
      refine CW.seq ?_
      refine CW.reg [0, 1] rfl ?_   -- 3, law.go:85
      refine s_mv 49 rfl rfl ?_
      refine s_as 6 rfl rfl ?_
      refine SX.next ?_
      refine CW.ret ?_
      exact KN.ret (rs := [.tmp 6]) Tryd.results14 rfl (fun w hw => ⟨rfl, hw.nothing⟩)
    · skip
      have hl2 := of_decide_eq_false hb
      refine s_mv 41 rfl rfl ?_
      refine s_len 42 rfl rfl ?_
      refine s_gt 43 rfl rfl rfl rfl ?_
      refine s_pickF 44 rfl rfl rfl ?_
      refine s_mv 45 rfl rfl ?_
      refine SX.bool 45 rfl (fun hb => ?_) (fun hb => ?_)
      · skip
        skip
        refine SX.skip rfl ?_
        refine SX.skip rfl ?_
        refine s_pickT 48 rfl rfl rfl ?_
        refine SX.next ?_
        refine CW.condT rfl ?_
        refine CW.seq ?_
        refine CW.reg [0, 1] rfl ?_   -- 3, law.go:85
        refine s_mv 49 rfl rfl ?_
        refine s_as 6 rfl rfl ?_
        refine SX.next ?_
        refine CW.ret ?_
        exact KN.ret (rs := [.tmp 6]) Tryd.results14 rfl (fun w hw => ⟨rfl, hw.nothing⟩)
      · skip
        have hlen := of_decide_eq_false hb
        have h140 : p1.length ≤ 40 := by omega
        have h240 : p2.length ≤ 40 := by omega
        have h340 : p3.length ≤ 40 := by omega
        have l1 := bl_len p1
        have l2 := bl_len p2
        have l3 := bl_len p3
        have hA := bl_b1 p1
        have hB := bl_b1 p2
        have hC := bl_b1 p3
        have hAB := mulP_b1 hA hB
        have hBA := mulP_b1 hB hA
        have hAC := mulP_b1 hA hC
        have hBC := addP_b1 hB hC
        have hLF := mulP_b1 hA hBC
        have hSM := addP_b1 hAB hAC
        have hS1 := addP_b1 hA hB
        have hS2 := addP_b1 hB hA
        have e1 := mulP_comm ok3 hA.tr hB.tr
        have e2 := mulP_add_right ok3 hA.tr hB.tr hC.tr
        have e3 := addP_self ok3 hA.tr
        have m1 := mulP_le3 (bl p1) (bl p2)
        have m2 := mulP_le3 (bl p2) (bl p1)
        have m3 := mulP_le3 (bl p1) (bl p3)
        have m4 := addP_le8 (bl p2) (bl p3)
        have m5 := mulP_le3 (bl p1) (addP (bl p2) (bl p3))
        have m6 := addP_le8 (mulP 3 (bl p1) (bl p2)) (mulP 3 (bl p1) (bl p3))
        have m7 := addP_le8 (bl p1) (bl p2)
        have m8 := addP_le8 (bl p2) (bl p1)
        have y1 := bys_len (mulP 3 (bl p1) (bl p2))
        have y2 := bys_len (mulP 3 (bl p2) (bl p1))
        have y3 := bys_len (mulP 3 (bl p1) (bl p3))
        have y4 := bys_len (addP (bl p2) (bl p3))
        have y5 := bys_len (mulP 3 (bl p1) (addP (bl p2) (bl p3)))
        have y6 := bys_len (addP (mulP 3 (bl p1) (bl p2)) (mulP 3 (bl p1) (bl p3)))
        have y7 := bys_len (addP (bl p1) (bl p2))
        have y8 := bys_len (addP (bl p2) (bl p1))
        have yn : (bys []).length = 0 := by rw [bys_nil]; rfl
        have hQU := quotP_b1 hA hB hb0
        have hRE := restP_b1 hA hB hb0
        have hrl := restP_len ok3 hA.tr.lt hB.tr.lt hb0 (hB.tr.top hb0)
        have hde := div_eq ok3 hA.tr hB.tr hb0
        have hBK := mulP_b1 hQU hB
        have hGG := gcdE_b1 hA hB
        obtain ⟨hg0, hg1, hg2⟩ := gcd_rest3 hA hB hb0
        have hQA := quotP_b1 hA hGG hg0
        have hQB := quotP_b1 hB hGG hg0
        have n1 : (quotP 3 (bl p1) (bl p2)).length ≤ (bl p1).length + 1 - (bl p2).length := pl_le _ _
        have n2 := mulP_le3 (quotP 3 (bl p1) (bl p2)) (bl p2)
        have n3 : (gcdE 3 (bl p1) (bl p2)).length ≤ max (bl p1).length (bl p2).length := gcdP_le3 _ _ _
        have n4 : (quotP 3 (bl p1) (gcdE 3 (bl p1) (bl p2))).length ≤ (bl p1).length + 1 - (gcdE 3 (bl p1) (bl p2)).length := pl_le _ _
        have n5 : (quotP 3 (bl p2) (gcdE 3 (bl p1) (bl p2))).length ≤ (bl p2).length + 1 - (gcdE 3 (bl p1) (bl p2)).length := pl_le _ _
        have z1 := bys_len (quotP 3 (bl p1) (bl p2))
        have z2 := bys_len (restP 3 (bl p1) (bl p2))
        have z3 := bys_len (mulP 3 (quotP 3 (bl p1) (bl p2)) (bl p2))
        have z4 := bys_len (gcdE 3 (bl p1) (bl p2))
        have z5 := bys_len (quotP 3 (bl p1) (gcdE 3 (bl p1) (bl p2)))
        have z6 := bys_len (quotP 3 (bl p2) (gcdE 3 (bl p1) (bl p2)))
        have z7 := bys_len (bl p1)
        have v1 := ev_two p1
        have v2 := ev_two p2
        have ea := evL_add ok3 hA.tr.lt hB.tr.lt 1
        have em := evL_mul ok3 hA.tr.lt hB.tr.lt 1 (by decide)
        have eg := and_gm v1 v2
        refine s_mv 46 rfl rfl ?_
        refine s_not 47 rfl rfl ?_
        refine s_pickF 48 rfl rfl rfl ?_
        refine SX.next ?_
        refine CW.condF rfl ?_
        refine CW.skip ?_
        refine KN.code ?_
        refine CW.seq ?_
        refine CW.reg [0, 1] rfl ?_   -- 4, law.go:87
        refine s_mv 50 rfl rfl ?_
        refine s_as 8 rfl rfl ?_
        refine SX.next ?_
        refine CW.seq ?_
        refine CW.reg [0, 1] rfl ?_   -- 5, law.go:88
        refine s_mv 51 rfl rfl ?_
        refine s_as 9 rfl rfl ?_
        refine SX.next ?_
        refine CW.seq ?_
        refine CW.reg [0, 1] rfl ?_   -- 6, law.go:89
        refine s_mv 52 rfl rfl ?_
        refine s_as 10 rfl rfl ?_
        refine SX.next ?_
        refine CW.seq ?_
        refine CW.reg [0, 1, 2, 3, 4, 5, 6, 7] rfl ?_   -- 7, law.go:90
        refine s_mv 54 rfl rfl ?_
        refine s_mv 55 rfl rfl ?_
        refine s_call 56 rfl rfl rfl rfl (fun w hw => by have := bmul_spec A1 p1.length c1 p1 A2 p2.length c2 p2 w (hw.old ha1) hp1 (by omega) hcp1 (hw.old ha2) hp2 (by omega) hcp2 (by omega); exact this) (fun _ _ => trivial) (fun q56 hq56 => ?_)
        refine s_mv 53 rfl rfl ?_
        refine s_ext 57 rfl rfl rfl ?_
        refine s_ext 58 rfl rfl rfl ?_
        refine s_as 11 rfl rfl ?_
        refine s_as 12 rfl rfl ?_
        refine SX.next ?_
        refine CW.seq ?_
        refine CW.reg [0, 1, 2, 3, 4, 5, 6, 7] rfl ?_   -- 8, law.go:91
        refine s_mv 60 rfl rfl ?_
        refine s_mv 61 rfl rfl ?_
        refine s_call 62 rfl rfl rfl rfl (fun w hw => by have := bmul_spec A2 p2.length c2 p2 A1 p1.length c1 p1 w (hw.old ha2) hp2 (by omega) hcp2 (hw.old ha1) hp1 (by omega) hcp1 (by omega); exact this) (fun _ _ => trivial) (fun q62 hq62 => ?_)
        refine s_mv 59 rfl rfl ?_
        refine s_ext 63 rfl rfl rfl ?_
        refine s_ext 64 rfl rfl rfl ?_
        refine s_as 13 rfl rfl ?_
        refine s_as 14 rfl rfl ?_
        refine SX.next ?_
        refine CW.seq ?_
        refine CW.reg [0, 1, 2, 3, 4, 5, 6, 7] rfl ?_   -- 9, law.go:92
        refine s_mv 66 rfl rfl ?_
        refine s_mv 67 rfl rfl ?_
        refine s_call 68 rfl rfl rfl rfl (fun w hw => by have := bmul_spec A1 p1.length c1 p1 A3 p3.length c3 p3 w (hw.old ha1) hp1 (by omega) hcp1 (hw.old ha3) hp3 (by omega) hcp3 (by omega); exact this) (fun _ _ => trivial) (fun q68 hq68 => ?_)
        refine s_mv 65 rfl rfl ?_
        refine s_ext 69 rfl rfl rfl ?_
        refine s_ext 70 rfl rfl rfl ?_
        refine s_as 15 rfl rfl ?_
        refine s_as 16 rfl rfl ?_
        refine SX.next ?_
        refine CW.seq ?_
        refine CW.reg [0, 1, 2, 3, 4, 5, 6, 7, 8, 9] rfl ?_   -- 10, law.go:93
        refine s_mv 72 rfl rfl ?_
        refine s_mv 73 rfl rfl ?_
        refine s_mv 74 rfl rfl ?_
        refine s_call 75 rfl rfl rfl rfl (fun w hw => by have := badd_spec A2 p2.length c2 p2 A3 p3.length c3 p3 w (hw.old ha2) hp2 (by omega) hcp2 (hw.old ha3) hp3 (by omega) hcp3; exact this) (fun _ _ => trivial) (fun q75 hq75 => ?_)
        refine s_call 76 rfl rfl rfl rfl (fun w hw => by have := bmul_spec A1 p1.length c1 p1 q75.1 (bys (addP (bl p2) (bl p3))).length q75.2 (bys (addP (bl p2) (bl p3))) w (hw.old ha1) hp1 (by omega) hcp1 ((hw.has (i := 0) rfl).of_own) (bys_lt hBC) (by omega) hq75 (by rw [bl_bys hBC]; omega); rw [bl_bys hBC] at this; exact this) (fun _ _ => trivial) (fun q76 hq76 => ?_)
        refine s_mv 71 rfl rfl ?_
        refine s_ext 77 rfl rfl rfl ?_
        refine s_ext 78 rfl rfl rfl ?_
        refine s_as 17 rfl rfl ?_
        refine s_as 18 rfl rfl ?_
        refine SX.next ?_
        refine CW.seq ?_
        refine CW.seq ?_
        refine CW.reg [0, 1, 2, 3, 4, 5, 6, 7, 8, 9, 10, 11, 12, 13, 14, 15, 16, 17, 18, 19, 20, 21, 22, 23, 24, 25, 26, 27, 28] rfl ?_   -- 11, law.go:94
        refine s_mv 79 rfl rfl ?_
        refine s_mv 80 rfl rfl ?_
        refine s_call1 81 rfl rfl rfl rfl (v := .bool true) (fun w hw => by have := bsm_spec q56.1 (bys (mulP 3 (bl p1) (bl p2))).length q56.2 (bys (mulP 3 (bl p1) (bl p2))) q62.1 (bys (mulP 3 (bl p2) (bl p1))).length q62.2 (bys (mulP 3 (bl p2) (bl p1))) w ((hw.has (i := 4) rfl).of_own) (bys_lt hAB) (by omega) hq56 ((hw.has (i := 3) rfl).of_own) (bys_lt hBA) (by omega) hq62; rw [bl_bys hAB, bl_bys hBA] at this; rw [decide_eq_true (e1)] at this; exact this) (fun _ _ => trivial) ?_
        refine s_not 82 rfl rfl ?_
        refine s_mv 83 rfl rfl ?_
        refine s_mv 84 rfl rfl ?_
        refine s_mv 85 rfl rfl ?_
        refine s_mv 86 rfl rfl ?_
        refine s_call 87 rfl rfl rfl rfl (fun w hw => by have := badd_spec q56.1 (bys (mulP 3 (bl p1) (bl p2))).length q56.2 (bys (mulP 3 (bl p1) (bl p2))) q68.1 (bys (mulP 3 (bl p1) (bl p3))).length q68.2 (bys (mulP 3 (bl p1) (bl p3))) w ((hw.has (i := 4) rfl).of_own) (bys_lt hAB) (by omega) hq56 ((hw.has (i := 2) rfl).of_own) (bys_lt hAC) (by omega) hq68; rw [bl_bys hAB, bl_bys hAC] at this; exact this) (fun _ _ => trivial) (fun q87 hq87 => ?_)
        refine s_call1 88 rfl rfl rfl rfl (v := .bool true) (fun w hw => by have := bsm_spec q76.1 (bys (mulP 3 (bl p1) (addP (bl p2) (bl p3)))).length q76.2 (bys (mulP 3 (bl p1) (addP (bl p2) (bl p3)))) q87.1 (bys (addP (mulP 3 (bl p1) (bl p2)) (mulP 3 (bl p1) (bl p3)))).length q87.2 (bys (addP (mulP 3 (bl p1) (bl p2)) (mulP 3 (bl p1) (bl p3)))) w ((hw.has (i := 1) rfl).of_own) (bys_lt hLF) (by omega) hq76 ((hw.has (i := 0) rfl).of_own) (bys_lt hSM) (by omega) hq87; rw [bl_bys hLF, bl_bys hSM] at this; rw [decide_eq_true (e2)] at this; exact this) (fun _ _ => trivial) ?_
        refine s_not 89 rfl rfl ?_
        refine s_pickF 90 rfl rfl rfl ?_
        refine s_mv 91 rfl rfl ?_
        refine s_mv 92 rfl rfl ?_
        refine s_mv 93 rfl rfl ?_
        refine s_call 94 rfl rfl rfl rfl (fun w hw => by have := badd_spec A1 p1.length c1 p1 A1 p1.length c1 p1 w (hw.old ha1) hp1 (by omega) hcp1 (hw.old ha1) hp1 (by omega) hcp1; rw [e3] at this; exact this) (fun _ _ => trivial) (fun q94 hq94 => ?_)
        refine s_call1 95 rfl rfl rfl rfl (v := .int .i64 (-1)) (fun w hw => by have := bdeg_spec q94.1 (bys []).length q94.2 (bys []) w ((hw.has (i := 0) rfl).of_own) (bys_lt nil_b1) (by omega) hq94; rw [bl_bys nil_b1] at this; exact this) (fun _ _ => trivial) ?_
        refine s_ne 96 rfl rfl rfl (decide_eq_false (by omega)) ?_
        refine s_pickF 97 rfl rfl rfl ?_
        refine s_mv 98 rfl rfl ?_
        refine s_mv 99 rfl rfl ?_
        refine s_mv 100 rfl rfl ?_
        refine s_call 101 rfl rfl rfl rfl (fun w hw => by have := badd_spec A1 p1.length c1 p1 A2 p2.length c2 p2 w (hw.old ha1) hp1 (by omega) hcp1 (hw.old ha2) hp2 (by omega) hcp2; exact this) (fun _ _ => trivial) (fun q101 hq101 => ?_)
        refine s_mv 102 rfl rfl ?_
        refine s_mv 103 rfl rfl ?_
        refine s_call 104 rfl rfl rfl rfl (fun w hw => by have := badd_spec A2 p2.length c2 p2 A1 p1.length c1 p1 w (hw.old ha2) hp2 (by omega) hcp2 (hw.old ha1) hp1 (by omega) hcp1; exact this) (fun _ _ => trivial) (fun q104 hq104 => ?_)
        refine s_call1 105 rfl rfl rfl rfl (v := .bool true) (fun w hw => by have := bsm_spec q101.1 (bys (addP (bl p1) (bl p2))).length q101.2 (bys (addP (bl p1) (bl p2))) q104.1 (bys (addP (bl p2) (bl p1))).length q104.2 (bys (addP (bl p2) (bl p1))) w ((hw.has (i := 1) rfl).of_own) (bys_lt hS1) (by omega) hq101 ((hw.has (i := 0) rfl).of_own) (bys_lt hS2) (by omega) hq104; rw [bl_bys hS1, bl_bys hS2] at this; rw [decide_eq_true (addP_comm _ _)] at this; exact this) (fun _ _ => trivial) ?_
        refine s_not 106 rfl rfl ?_
        refine s_pickF 107 rfl rfl rfl ?_
        refine SX.next ?_
        refine CW.condF rfl ?_
        refine CW.skip ?_
        refine KN.code ?_
        refine CW.seq ?_
        refine CW.seq ?_
        refine CW.reg [0, 1, 2, 3, 4, 5, 6, 7, 8, 9, 10, 11, 12, 13, 14, 15, 16, 17] rfl ?_   -- 13, law.go:97
        refine s_mv 108 rfl rfl ?_
        refine s_call1 109 rfl rfl rfl rfl (v := .int .i64 (((bl p1).length : Nat) - 1 : Int)) (fun w hw => by have := bdeg_spec A1 p1.length c1 p1 w (hw.old ha1) hp1 (by omega) hcp1; exact this) (fun _ _ => trivial) ?_
        refine s_ge 110 rfl rfl rfl (decide_eq_false (by omega)) ?_
        refine s_mv 111 rfl rfl ?_
        refine SX.skip rfl ?_
        refine SX.skip rfl ?_
        refine SX.skip rfl ?_
        refine s_pickF 115 rfl rfl rfl ?_
        refine s_mv 116 rfl rfl ?_
        refine SX.skip rfl ?_
        refine SX.skip rfl ?_
        refine SX.skip rfl ?_
        refine SX.skip rfl ?_
        refine SX.skip rfl ?_
        refine SX.skip rfl ?_
        refine SX.skip rfl ?_
        refine SX.skip rfl ?_
        refine s_pickF 125 rfl rfl rfl ?_
        refine SX.next ?_
        refine CW.condF rfl ?_
        refine CW.skip ?_
        refine KN.code ?_
        refine CW.seq ?_
        refine CW.reg [0, 1, 2, 3, 4, 5, 6, 7, 8, 9] rfl ?_   -- 15, law.go:100
        refine s_mv 127 rfl rfl ?_
        refine s_mv 128 rfl rfl ?_
        refine s_call 129 rfl rfl rfl rfl (fun w hw => by have := bdiv_spec A1 p1.length c1 p1 A2 p2.length c2 p2 w (hw.old ha1) hp1 (by omega) hcp1 (hw.old ha2) hp2 (by omega) hcp2 hb0 (by omega); exact this) (fun _ _ => trivial) (fun q129 hq129 => ?_)
        refine s_mv 126 rfl rfl ?_
        refine s_ext 130 rfl rfl rfl ?_
        refine s_ext 131 rfl rfl rfl ?_
        refine s_ext 132 rfl rfl rfl ?_
        refine s_as 19 rfl rfl ?_
        refine s_as 20 rfl rfl ?_
        refine s_as 21 rfl rfl ?_
        refine SX.next ?_
        refine CW.seq ?_
        refine CW.seq ?_
        refine CW.reg [0, 1, 2] rfl ?_   -- 16, law.go:101
        refine s_mv 133 rfl rfl ?_
        refine s_call1 134 rfl rfl rfl rfl (v := .int .i64 (((bl p2).length : Nat) - 1 : Int)) (fun w hw => by have := bdeg_spec A2 p2.length c2 p2 w (hw.old ha2) hp2 (by omega) hcp2; exact this) (fun _ _ => trivial) ?_
        refine s_lt 135 rfl rfl rfl (decide_eq_false (by omega)) ?_
        refine SX.next ?_
        refine CW.condF rfl ?_
        refine CW.skip ?_
        refine KN.code ?_
        refine CW.seq ?_
        refine CW.reg [0, 1, 2, 3, 4, 5, 6, 7] rfl ?_   -- 18, law.go:104
        refine s_mv 140 rfl rfl ?_
        refine s_mv 141 rfl rfl ?_
        refine s_call 142 rfl rfl rfl rfl (fun w hw => by have := bmul_spec q129.1.1 (bys (quotP 3 (bl p1) (bl p2))).length q129.1.2 (bys (quotP 3 (bl p1) (bl p2))) A2 p2.length c2 p2 w ((hw.has (i := 1) rfl).of_own) (bys_lt hQU) (by omega) hq129.1 (hw.old ha2) hp2 (by omega) hcp2 (by rw [bl_bys hQU]; omega); rw [bl_bys hQU] at this; exact this) (fun _ _ => trivial) (fun q142 hq142 => ?_)
        refine s_mv 139 rfl rfl ?_
        refine s_ext 143 rfl rfl rfl ?_
        refine s_ext 144 rfl rfl rfl ?_
        refine s_as 22 rfl rfl ?_
        refine s_as 23 rfl rfl ?_
        refine SX.next ?_
        refine CW.seq ?_
        refine CW.reg [0, 1, 2, 3] rfl ?_   -- 19, law.go:105
        refine s_mv 145 rfl rfl ?_
        refine s_mv 146 rfl rfl ?_
        refine s_call 147 rfl rfl rfl rfl (fun w hw => by have := bgcd_spec A1 p1.length c1 p1 A2 p2.length c2 p2 w (hw.old ha1) hp1 (by omega) hcp1 (hw.old ha2) hp2 (by omega) hcp2 (by omega) (by omega); exact this) (fun _ _ => trivial) (fun q147 hq147 => ?_)
        refine s_as 24 rfl rfl ?_
        refine SX.next ?_
        refine CW.seq ?_
        refine CW.reg [0, 1, 2, 3, 4, 5, 6, 7, 8, 9] rfl ?_   -- 20, law.go:106
        refine s_mv 149 rfl rfl ?_
        refine s_mv 150 rfl rfl ?_
        refine s_call 151 rfl rfl rfl rfl (fun w hw => by have := bdiv_spec A1 p1.length c1 p1 q147.1 (bys (gcdE 3 (bl p1) (bl p2))).length q147.2 (bys (gcdE 3 (bl p1) (bl p2))) w (hw.old ha1) hp1 (by omega) hcp1 ((hw.has (i := 0) rfl).of_own) (bys_lt hGG) (by omega) hq147 (by rw [bl_bys hGG]; exact hg0) (by omega); rw [bl_bys hGG, hg1] at this; exact this) (fun _ _ => trivial) (fun q151 hq151 => ?_)
        refine s_mv 148 rfl rfl ?_
        refine s_ext 152 rfl rfl rfl ?_
        refine s_ext 153 rfl rfl rfl ?_
        refine s_ext 154 rfl rfl rfl ?_
        refine s_as 25 rfl rfl ?_
        refine s_as 26 rfl rfl ?_
        refine s_as 27 rfl rfl ?_
        refine SX.next ?_
        refine CW.seq ?_
        refine CW.reg [0, 1, 2, 3, 4, 5, 6, 7, 8, 9] rfl ?_   -- 21, law.go:107
        refine s_mv 156 rfl rfl ?_
        refine s_mv 157 rfl rfl ?_
        refine s_call 158 rfl rfl rfl rfl (fun w hw => by have := bdiv_spec A2 p2.length c2 p2 q147.1 (bys (gcdE 3 (bl p1) (bl p2))).length q147.2 (bys (gcdE 3 (bl p1) (bl p2))) w (hw.old ha2) hp2 (by omega) hcp2 ((hw.has (i := 2) rfl).of_own) (bys_lt hGG) (by omega) hq147 (by rw [bl_bys hGG]; exact hg0) (by omega); rw [bl_bys hGG, hg2] at this; exact this) (fun _ _ => trivial) (fun q158 hq158 => ?_)
        refine s_mv 155 rfl rfl ?_
        refine s_ext 159 rfl rfl rfl ?_
        refine s_ext 160 rfl rfl rfl ?_
        refine s_ext 161 rfl rfl rfl ?_
        refine s_as 28 rfl rfl ?_
        refine s_as 29 rfl rfl ?_
        refine s_as 30 rfl rfl ?_
        refine SX.next ?_
        refine CW.seq ?_
        refine CW.reg [0, 1, 2, 3, 4, 5, 6, 7, 8, 9, 10, 11, 12, 13, 14, 15, 16, 17, 18, 19, 20, 21, 22, 23, 24, 25, 26, 27, 28, 29, 30, 31, 32, 33, 34, 35, 36, 37, 38, 39, 40, 41, 42, 43, 44, 45, 46, 47, 48] rfl ?_   -- 22, law.go:108
        refine s_mv 162 rfl rfl ?_
        refine s_eqNN 163 rfl rfl ?_
        refine s_mv 164 rfl rfl ?_
        refine s_mv 165 rfl rfl ?_
        refine s_call1 166 rfl rfl rfl rfl (v := .int .i64 (((restP 3 (bl p1) (bl p2)).length : Nat) - 1 : Int)) (fun w hw => by have := bdeg_spec q129.2.1 (bys (restP 3 (bl p1) (bl p2))).length q129.2.2 (bys (restP 3 (bl p1) (bl p2))) w ((hw.has (i := 6) rfl).of_own) (bys_lt hRE) (by omega) hq129.2; rw [bl_bys hRE] at this; exact this) (fun _ _ => trivial) ?_
        refine s_mv 167 rfl rfl ?_
        refine s_call1 168 rfl rfl rfl rfl (v := .int .i64 (((bl p2).length : Nat) - 1 : Int)) (fun w hw => by have := bdeg_spec A2 p2.length c2 p2 w (hw.old ha2) hp2 (by omega) hcp2; exact this) (fun _ _ => trivial) ?_
        refine s_lt 169 rfl rfl rfl (decide_eq_true (by omega)) ?_
        refine s_pickT 170 rfl rfl rfl ?_
        refine s_mv 171 rfl rfl ?_
        refine s_mv 172 rfl rfl ?_
        refine s_mv 173 rfl rfl ?_
        refine s_call 174 rfl rfl rfl rfl (fun w hw => by have := badd_spec q142.1 (bys (mulP 3 (quotP 3 (bl p1) (bl p2)) (bl p2))).length q142.2 (bys (mulP 3 (quotP 3 (bl p1) (bl p2)) (bl p2))) q129.2.1 (bys (restP 3 (bl p1) (bl p2))).length q129.2.2 (bys (restP 3 (bl p1) (bl p2))) w ((hw.has (i := 5) rfl).of_own) (bys_lt hBK) (by omega) hq142 ((hw.has (i := 6) rfl).of_own) (bys_lt hRE) (by omega) hq129.2; rw [bl_bys hBK, bl_bys hRE, hde] at this; exact this) (fun _ _ => trivial) (fun q174 hq174 => ?_)
        refine s_mv 175 rfl rfl ?_
        refine s_call1 176 rfl rfl rfl rfl (v := .bool true) (fun w hw => by have := bsm_spec q174.1 (bys (bl p1)).length q174.2 (bys (bl p1)) A1 p1.length c1 p1 w ((hw.has (i := 0) rfl).of_own) (bys_lt hA) (by omega) hq174 (hw.old ha1) hp1 (by omega) hcp1; rw [bl_bys hA] at this; rw [decide_eq_true (rfl)] at this; exact this) (fun _ _ => trivial) ?_
        refine s_pickT 177 rfl rfl rfl ?_
        refine s_mv 178 rfl rfl ?_
        refine s_mv 179 rfl rfl ?_
        refine s_call1 180 rfl rfl rfl rfl (v := .int .i64 (-1)) (fun w hw => by have := bdeg_spec q151.2.1 (bys []).length q151.2.2 (bys []) w ((hw.has (i := 3) rfl).of_own) (bys_lt nil_b1) (by omega) hq151.2; rw [bl_bys nil_b1] at this; exact this) (fun _ _ => trivial) ?_
        refine s_eq 181 rfl rfl rfl (decide_eq_true rfl) ?_
        refine s_pickT 182 rfl rfl rfl ?_
        refine s_mv 183 rfl rfl ?_
        refine s_mv 184 rfl rfl ?_
        refine s_call1 185 rfl rfl rfl rfl (v := .int .i64 (-1)) (fun w hw => by have := bdeg_spec q158.2.1 (bys []).length q158.2.2 (bys []) w ((hw.has (i := 1) rfl).of_own) (bys_lt nil_b1) (by omega) hq158.2; rw [bl_bys nil_b1] at this; exact this) (fun _ _ => trivial) ?_
        refine s_eq 186 rfl rfl rfl (decide_eq_true rfl) ?_
        refine s_pickT 187 rfl rfl rfl ?_
        refine s_mv 188 rfl rfl ?_
        refine s_mv 189 rfl rfl ?_
        refine s_call1 190 rfl rfl rfl rfl (v := .int .i64 (evL 3 (bl p1) 1 : Nat)) (fun w hw => by have := beval_spec A1 p1.length c1 p1 w (hw.old ha1) hp1 (by omega) hcp1; exact this) (fun _ _ => trivial) ?_
        refine s_mv 191 rfl rfl ?_
        refine s_call1 192 rfl rfl rfl rfl (v := .int .i64 (evL 3 (bl p2) 1 : Nat)) (fun w hw => by have := beval_spec A2 p2.length c2 p2 w (hw.old ha2) hp2 (by omega) hcp2; exact this) (fun _ _ => trivial) ?_
        refine s_bit 193 rfl rfl rfl rfl (ibit_xor_nat (by omega) (by omega)) ?_
        refine s_mv 194 rfl rfl ?_
        refine s_mv 195 rfl rfl ?_
        refine s_call 196 rfl rfl rfl rfl (fun w hw => by have := badd_spec A1 p1.length c1 p1 A2 p2.length c2 p2 w (hw.old ha1) hp1 (by omega) hcp1 (hw.old ha2) hp2 (by omega) hcp2; exact this) (fun _ _ => trivial) (fun q196 hq196 => ?_)
        refine s_call1 197 rfl rfl rfl rfl (v := .int .i64 (evL 3 (bl p1) 1 ^^^ evL 3 (bl p2) 1 : Nat)) (fun w hw => by have := beval_spec q196.1 (bys (addP (bl p1) (bl p2))).length q196.2 (bys (addP (bl p1) (bl p2))) w ((hw.has (i := 0) rfl).of_own) (bys_lt hS1) (by omega) hq196; rw [bl_bys hS1] at this; rw [ea] at this; exact this) (fun _ _ => trivial) ?_
        refine s_eq 198 rfl rfl rfl (decide_eq_true rfl) ?_
        refine s_pickT 199 rfl rfl rfl ?_
        refine s_mv 200 rfl rfl ?_
        refine s_mv 201 rfl rfl ?_
        refine s_call1 202 rfl rfl rfl rfl (v := .int .i64 (evL 3 (bl p1) 1 : Nat)) (fun w hw => by have := beval_spec A1 p1.length c1 p1 w (hw.old ha1) hp1 (by omega) hcp1; exact this) (fun _ _ => trivial) ?_
        refine s_mv 203 rfl rfl ?_
        refine s_call1 204 rfl rfl rfl rfl (v := .int .i64 (evL 3 (bl p2) 1 : Nat)) (fun w hw => by have := beval_spec A2 p2.length c2 p2 w (hw.old ha2) hp2 (by omega) hcp2; exact this) (fun _ _ => trivial) ?_
        refine s_bit 205 rfl rfl rfl rfl (ibit_and_nat (by omega) (by omega)) ?_
        refine s_mv 206 rfl rfl ?_
        refine s_call1 207 rfl rfl rfl rfl (v := .int .i64 (evL 3 (bl p1) 1 &&& evL 3 (bl p2) 1 : Nat)) (fun w hw => by have := beval_spec q56.1 (bys (mulP 3 (bl p1) (bl p2))).length q56.2 (bys (mulP 3 (bl p1) (bl p2))) w ((hw.has (i := 18) rfl).of_own) (bys_lt hAB) (by omega) hq56; rw [bl_bys hAB] at this; rw [em, ← eg] at this; exact this) (fun _ _ => trivial) ?_
        refine s_eq 208 rfl rfl rfl (decide_eq_true rfl) ?_
        refine s_pickT 209 rfl rfl rfl ?_
        refine s_as 6 rfl rfl ?_
        refine SX.next ?_
        refine CW.ret ?_
        exact KN.ret (rs := [.tmp 6]) Tryd.results14 rfl (fun w hw => ⟨rfl, hw.nothing⟩)

set_option maxHeartbeats 1600000 in

theorem binRing_01 (A1 : Option Addr) (n1 c1 : Nat) (p1 : List Nat) (A2 : Option Addr) (n2 c2 : Nat) (p2 : List Nat) (A3 : Option Addr) (n3 c3 : Nat) (p3 : List Nat) (e : Nat → Addr) (w : World) (ha1 : Has (sl 1 A1 n1 (nats .u8 p1)) w) (hp1 : ∀ x ∈ p1, x < 256) (hn1 : n1 ≤ 9223372036854775807) (hcp1 : n1 ≤ c1) (ha2 : Has (sl 1 A2 n2 (nats .u8 p2)) w) (hp2 : ∀ x ∈ p2, x < 256) (hn2 : n2 ≤ 9223372036854775807) (hcp2 : n2 ≤ c2) (ha3 : Has (sl 1 A3 n3 (nats .u8 p3)) w) (hp3 : ∀ x ∈ p3, x < 256) (hn3 : n3 ≤ 9223372036854775807) (hcp3 : n3 ≤ c3) (hz : Er e w 6) (hnu : Er e w 4) (ha0 : (bl p1).length ≠ 0) (hb0 : (bl p2).length = 0) : Spec1 Tryd.prog 14 [.slice A1 n1 c1, .slice A2 n2 c2, .slice A3 n3 c3] w (.bool true) := by
  have hla1 := nats_len ha1
  subst hla1
  have hla2 := nats_len ha2
  subst hla2
  have hla3 := nats_len ha3
  subst hla3
  refine spec_of Tryd.func14 rfl Tryd.ntmps14 rfl ?_
  refine CW.seq ?_
  refine CW.reg [0] rfl ?_   -- 0, law.go:82
  refine s_as 6 rfl rfl ?_
  refine SX.next ?_
  refine CW.seq ?_
  refine CW.reg [0, 1] rfl ?_   -- 1, law.go:83
  refine s_call1 31 rfl rfl rfl rfl (fun w hw => first3_spec e w (hw.er hnu)) (fun _ _ => trivial) ?_
  refine s_as 7 rfl rfl ?_
  refine SX.next ?_
  refine CW.seq ?_
  refine CW.seq ?_
  refine CW.reg [0, 1, 2, 3, 4, 5, 6, 7, 8, 9, 10, 11, 12, 13, 14, 15, 16] rfl ?_   -- 2, law.go:84
  refine s_mv 32 rfl rfl ?_
  refine s_len 33 rfl rfl ?_
  refine s_gt 34 rfl rfl rfl rfl ?_
  refine s_mv 35 rfl rfl ?_
  refine SX.bool 35 rfl (fun hb => ?_) (fun hb => ?_)
  · skip
    skip
    refine SX.skip rfl ?_
    refine SX.skip rfl ?_
    refine SX.skip rfl ?_
    refine s_pickT 39 rfl rfl rfl ?_
    refine s_mv 40 rfl rfl ?_
    refine SX.skip rfl ?_
    refine SX.skip rfl ?_
    refine SX.skip rfl ?_
    refine s_pickT 44 rfl rfl rfl ?_
    refine s_mv 45 rfl rfl ?_
    refine SX.skip rfl ?_
    refine SX.skip rfl ?_
    refine s_pickT 48 rfl rfl rfl ?_
    refine SX.next ?_
    refine CW.condT rfl ?_
    refine CW.seq ?_
    refine CW.reg [0, 1] rfl ?_   -- 3, law.go:85
    refine s_mv 49 rfl rfl ?_
    refine s_as 6 rfl rfl ?_
    refine SX.next ?_
    refine CW.ret ?_
    exact KN.ret (rs := [.tmp 6]) Tryd.results14 rfl (fun w hw => ⟨rfl, hw.nothing⟩)
  · skip
    have hl1 := of_decide_eq_false hb
    refine s_mv 36 rfl rfl ?_
    refine s_len 37 rfl rfl ?_
    refine s_gt 38 rfl rfl rfl rfl ?_
    refine s_pickF 39 rfl rfl rfl ?_
    refine s_mv 40 rfl rfl ?_
    refine SX.bool 40 rfl (fun hb => ?_) (fun hb => ?_)
    · skip
      skip
      refine SX.skip rfl ?_
      refine SX.skip rfl ?_
      refine SX.skip rfl ?_
      refine s_pickT 44 rfl rfl rfl ?_
      refine s_mv 45 rfl rfl ?_
      refine SX.skip rfl ?_
      refine SX.skip rfl ?_
      refine s_pickT 48 rfl rfl rfl ?_
      refine SX.next ?_
      refine CW.condT rfl ?_
      refine CW.seq ?_
      refine CW.reg [0, 1] rfl ?_   -- 3, law.go:85
      refine s_mv 49 rfl rfl ?_
      refine s_as 6 rfl rfl ?_
      refine SX.next ?_
      refine CW.ret ?_
      exact KN.ret (rs := [.tmp 6]) Tryd.results14 rfl (fun w hw => ⟨rfl, hw.nothing⟩)
    · skip
      have hl2 := of_decide_eq_false hb
      refine s_mv 41 rfl rfl ?_
      refine s_len 42 rfl rfl ?_
      refine s_gt 43 rfl rfl rfl rfl ?_
      refine s_pickF 44 rfl rfl rfl ?_
      refine s_mv 45 rfl rfl ?_
      refine SX.bool 45 rfl (fun hb => ?_) (fun hb => ?_)
      · skip
        skip
        refine SX.skip rfl ?_
        refine SX.skip rfl ?_
        refine s_pickT 48 rfl rfl rfl ?_
        refine SX.next ?_
        refine CW.condT rfl ?_
        refine CW.seq ?_
        refine CW.reg [0, 1] rfl ?_   -- 3, law.go:85
        refine s_mv 49 rfl rfl ?_
        refine s_as 6 rfl rfl ?_
        refine SX.next ?_
        refine CW.ret ?_
        exact KN.ret (rs := [.tmp 6]) Tryd.results14 rfl (fun w hw => ⟨rfl, hw.nothing⟩)
      · skip
        have hlen := of_decide_eq_false hb
        have h140 : p1.length ≤ 40 := by omega
        have h240 : p2.length ≤ 40 := by omega
        have h340 : p3.length ≤ 40 := by omega
        have l1 := bl_len p1
        have l2 := bl_len p2
        have l3 := bl_len p3
        have hA := bl_b1 p1
        have hB := bl_b1 p2
        have hC := bl_b1 p3
        have hAB := mulP_b1 hA hB
        have hBA := mulP_b1 hB hA
        have hAC := mulP_b1 hA hC
        have hBC := addP_b1 hB hC
        have hLF := mulP_b1 hA hBC
        have hSM := addP_b1 hAB hAC
        have hS1 := addP_b1 hA hB
        have hS2 := addP_b1 hB hA
        have e1 := mulP_comm ok3 hA.tr hB.tr
        have e2 := mulP_add_right ok3 hA.tr hB.tr hC.tr
        have e3 := addP_self ok3 hA.tr
        have m1 := mulP_le3 (bl p1) (bl p2)
        have m2 := mulP_le3 (bl p2) (bl p1)
        have m3 := mulP_le3 (bl p1) (bl p3)
        have m4 := addP_le8 (bl p2) (bl p3)
        have m5 := mulP_le3 (bl p1) (addP (bl p2) (bl p3))
        have m6 := addP_le8 (mulP 3 (bl p1) (bl p2)) (mulP 3 (bl p1) (bl p3))
        have m7 := addP_le8 (bl p1) (bl p2)
        have m8 := addP_le8 (bl p2) (bl p1)
        have y1 := bys_len (mulP 3 (bl p1) (bl p2))
        have y2 := bys_len (mulP 3 (bl p2) (bl p1))
        have y3 := bys_len (mulP 3 (bl p1) (bl p3))
        have y4 := bys_len (addP (bl p2) (bl p3))
        have y5 := bys_len (mulP 3 (bl p1) (addP (bl p2) (bl p3)))
        have y6 := bys_len (addP (mulP 3 (bl p1) (bl p2)) (mulP 3 (bl p1) (bl p3)))
        have y7 := bys_len (addP (bl p1) (bl p2))
        have y8 := bys_len (addP (bl p2) (bl p1))
        have yn : (bys []).length = 0 := by rw [bys_nil]; rfl
        refine s_mv 46 rfl rfl ?_
        refine s_not 47 rfl rfl ?_
        refine s_pickF 48 rfl rfl rfl ?_
        refine SX.next ?_
        refine CW.condF rfl ?_
        refine CW.skip ?_
        refine KN.code ?_
        refine CW.seq ?_
        refine CW.reg [0, 1] rfl ?_   -- 4, law.go:87
        refine s_mv 50 rfl rfl ?_
        refine s_as 8 rfl rfl ?_
        refine SX.next ?_
        refine CW.seq ?_
        refine CW.reg [0, 1] rfl ?_   -- 5, law.go:88
        refine s_mv 51 rfl rfl ?_
        refine s_as 9 rfl rfl ?_
        refine SX.next ?_
        refine CW.seq ?_
        refine CW.reg [0, 1] rfl ?_   -- 6, law.go:89
        refine s_mv 52 rfl rfl ?_
        refine s_as 10 rfl rfl ?_
        refine SX.next ?_
        refine CW.seq ?_
        refine CW.reg [0, 1, 2, 3, 4, 5, 6, 7] rfl ?_   -- 7, law.go:90
        refine s_mv 54 rfl rfl ?_
        refine s_mv 55 rfl rfl ?_
        refine s_call 56 rfl rfl rfl rfl (fun w hw => by have := bmul_spec A1 p1.length c1 p1 A2 p2.length c2 p2 w (hw.old ha1) hp1 (by omega) hcp1 (hw.old ha2) hp2 (by omega) hcp2 (by omega); exact this) (fun _ _ => trivial) (fun q56 hq56 => ?_)
        refine s_mv 53 rfl rfl ?_
        refine s_ext 57 rfl rfl rfl ?_
        refine s_ext 58 rfl rfl rfl ?_
        refine s_as 11 rfl rfl ?_
        refine s_as 12 rfl rfl ?_
        refine SX.next ?_
        refine CW.seq ?_
        refine CW.reg [0, 1, 2, 3, 4, 5, 6, 7] rfl ?_   -- 8, law.go:91
        refine s_mv 60 rfl rfl ?_
        refine s_mv 61 rfl rfl ?_
        refine s_call 62 rfl rfl rfl rfl (fun w hw => by have := bmul_spec A2 p2.length c2 p2 A1 p1.length c1 p1 w (hw.old ha2) hp2 (by omega) hcp2 (hw.old ha1) hp1 (by omega) hcp1 (by omega); exact this) (fun _ _ => trivial) (fun q62 hq62 => ?_)
        refine s_mv 59 rfl rfl ?_
        refine s_ext 63 rfl rfl rfl ?_
        refine s_ext 64 rfl rfl rfl ?_
        refine s_as 13 rfl rfl ?_
        refine s_as 14 rfl rfl ?_
        refine SX.next ?_
        refine CW.seq ?_
        refine CW.reg [0, 1, 2, 3, 4, 5, 6, 7] rfl ?_   -- 9, law.go:92
        refine s_mv 66 rfl rfl ?_
        refine s_mv 67 rfl rfl ?_
        refine s_call 68 rfl rfl rfl rfl (fun w hw => by have := bmul_spec A1 p1.length c1 p1 A3 p3.length c3 p3 w (hw.old ha1) hp1 (by omega) hcp1 (hw.old ha3) hp3 (by omega) hcp3 (by omega); exact this) (fun _ _ => trivial) (fun q68 hq68 => ?_)
        refine s_mv 65 rfl rfl ?_
        refine s_ext 69 rfl rfl rfl ?_
        refine s_ext 70 rfl rfl rfl ?_
        refine s_as 15 rfl rfl ?_
        refine s_as 16 rfl rfl ?_
        refine SX.next ?_
        refine CW.seq ?_
        refine CW.reg [0, 1, 2, 3, 4, 5, 6, 7, 8, 9] rfl ?_   -- 10, law.go:93
        refine s_mv 72 rfl rfl ?_
        refine s_mv 73 rfl rfl ?_
        refine s_mv 74 rfl rfl ?_
        refine s_call 75 rfl rfl rfl rfl (fun w hw => by have := badd_spec A2 p2.length c2 p2 A3 p3.length c3 p3 w (hw.old ha2) hp2 (by omega) hcp2 (hw.old ha3) hp3 (by omega) hcp3; exact this) (fun _ _ => trivial) (fun q75 hq75 => ?_)
        refine s_call 76 rfl rfl rfl rfl (fun w hw => by have := bmul_spec A1 p1.length c1 p1 q75.1 (bys (addP (bl p2) (bl p3))).length q75.2 (bys (addP (bl p2) (bl p3))) w (hw.old ha1) hp1 (by omega) hcp1 ((hw.has (i := 0) rfl).of_own) (bys_lt hBC) (by omega) hq75 (by rw [bl_bys hBC]; omega); rw [bl_bys hBC] at this; exact this) (fun _ _ => trivial) (fun q76 hq76 => ?_)
        refine s_mv 71 rfl rfl ?_
        refine s_ext 77 rfl rfl rfl ?_
        refine s_ext 78 rfl rfl rfl ?_
        refine s_as 17 rfl rfl ?_
        refine s_as 18 rfl rfl ?_
        refine SX.next ?_
        refine CW.seq ?_
        refine CW.seq ?_
        refine CW.reg [0, 1, 2, 3, 4, 5, 6, 7, 8, 9, 10, 11, 12, 13, 14, 15, 16, 17, 18, 19, 20, 21, 22, 23, 24, 25, 26, 27, 28] rfl ?_   -- 11, law.go:94
        refine s_mv 79 rfl rfl ?_
        refine s_mv 80 rfl rfl ?_
        refine s_call1 81 rfl rfl rfl rfl (v := .bool true) (fun w hw => by have := bsm_spec q56.1 (bys (mulP 3 (bl p1) (bl p2))).length q56.2 (bys (mulP 3 (bl p1) (bl p2))) q62.1 (bys (mulP 3 (bl p2) (bl p1))).length q62.2 (bys (mulP 3 (bl p2) (bl p1))) w ((hw.has (i := 4) rfl).of_own) (bys_lt hAB) (by omega) hq56 ((hw.has (i := 3) rfl).of_own) (bys_lt hBA) (by omega) hq62; rw [bl_bys hAB, bl_bys hBA] at this; rw [decide_eq_true (e1)] at this; exact this) (fun _ _ => trivial) ?_
        refine s_not 82 rfl rfl ?_
        refine s_mv 83 rfl rfl ?_
        refine s_mv 84 rfl rfl ?_
        refine s_mv 85 rfl rfl ?_
        refine s_mv 86 rfl rfl ?_
        refine s_call 87 rfl rfl rfl rfl (fun w hw => by have := badd_spec q56.1 (bys (mulP 3 (bl p1) (bl p2))).length q56.2 (bys (mulP 3 (bl p1) (bl p2))) q68.1 (bys (mulP 3 (bl p1) (bl p3))).length q68.2 (bys (mulP 3 (bl p1) (bl p3))) w ((hw.has (i := 4) rfl).of_own) (bys_lt hAB) (by omega) hq56 ((hw.has (i := 2) rfl).of_own) (bys_lt hAC) (by omega) hq68; rw [bl_bys hAB, bl_bys hAC] at this; exact this) (fun _ _ => trivial) (fun q87 hq87 => ?_)
        refine s_call1 88 rfl rfl rfl rfl (v := .bool true) (fun w hw => by have := bsm_spec q76.1 (bys (mulP 3 (bl p1) (addP (bl p2) (bl p3)))).length q76.2 (bys (mulP 3 (bl p1) (addP (bl p2) (bl p3)))) q87.1 (bys (addP (mulP 3 (bl p1) (bl p2)) (mulP 3 (bl p1) (bl p3)))).length q87.2 (bys (addP (mulP 3 (bl p1) (bl p2)) (mulP 3 (bl p1) (bl p3)))) w ((hw.has (i := 1) rfl).of_own) (bys_lt hLF) (by omega) hq76 ((hw.has (i := 0) rfl).of_own) (bys_lt hSM) (by omega) hq87; rw [bl_bys hLF, bl_bys hSM] at this; rw [decide_eq_true (e2)] at this; exact this) (fun _ _ => trivial) ?_
        refine s_not 89 rfl rfl ?_
        refine s_pickF 90 rfl rfl rfl ?_
        refine s_mv 91 rfl rfl ?_
        refine s_mv 92 rfl rfl ?_
        refine s_mv 93 rfl rfl ?_
        refine s_call 94 rfl rfl rfl rfl (fun w hw => by have := badd_spec A1 p1.length c1 p1 A1 p1.length c1 p1 w (hw.old ha1) hp1 (by omega) hcp1 (hw.old ha1) hp1 (by omega) hcp1; rw [e3] at this; exact this) (fun _ _ => trivial) (fun q94 hq94 => ?_)
        refine s_call1 95 rfl rfl rfl rfl (v := .int .i64 (-1)) (fun w hw => by have := bdeg_spec q94.1 (bys []).length q94.2 (bys []) w ((hw.has (i := 0) rfl).of_own) (bys_lt nil_b1) (by omega) hq94; rw [bl_bys nil_b1] at this; exact this) (fun _ _ => trivial) ?_
        refine s_ne 96 rfl rfl rfl (decide_eq_false (by omega)) ?_
        refine s_pickF 97 rfl rfl rfl ?_
        refine s_mv 98 rfl rfl ?_
        refine s_mv 99 rfl rfl ?_
        refine s_mv 100 rfl rfl ?_
        refine s_call 101 rfl rfl rfl rfl (fun w hw => by have := badd_spec A1 p1.length c1 p1 A2 p2.length c2 p2 w (hw.old ha1) hp1 (by omega) hcp1 (hw.old ha2) hp2 (by omega) hcp2; exact this) (fun _ _ => trivial) (fun q101 hq101 => ?_)
        refine s_mv 102 rfl rfl ?_
        refine s_mv 103 rfl rfl ?_
        refine s_call 104 rfl rfl rfl rfl (fun w hw => by have := badd_spec A2 p2.length c2 p2 A1 p1.length c1 p1 w (hw.old ha2) hp2 (by omega) hcp2 (hw.old ha1) hp1 (by omega) hcp1; exact this) (fun _ _ => trivial) (fun q104 hq104 => ?_)
        refine s_call1 105 rfl rfl rfl rfl (v := .bool true) (fun w hw => by have := bsm_spec q101.1 (bys (addP (bl p1) (bl p2))).length q101.2 (bys (addP (bl p1) (bl p2))) q104.1 (bys (addP (bl p2) (bl p1))).length q104.2 (bys (addP (bl p2) (bl p1))) w ((hw.has (i := 1) rfl).of_own) (bys_lt hS1) (by omega) hq101 ((hw.has (i := 0) rfl).of_own) (bys_lt hS2) (by omega) hq104; rw [bl_bys hS1, bl_bys hS2] at this; rw [decide_eq_true (addP_comm _ _)] at this; exact this) (fun _ _ => trivial) ?_
        refine s_not 106 rfl rfl ?_
        refine s_pickF 107 rfl rfl rfl ?_
        refine SX.next ?_
        refine CW.condF rfl ?_
        refine CW.skip ?_
        refine KN.code ?_
        refine CW.seq ?_
        refine CW.seq ?_
        refine CW.reg [0, 1, 2, 3, 4, 5, 6, 7, 8, 9, 10, 11, 12, 13, 14, 15, 16, 17] rfl ?_   -- 13, law.go:97
        refine s_mv 108 rfl rfl ?_
        refine s_call1 109 rfl rfl rfl rfl (v := .int .i64 (((bl p1).length : Nat) - 1 : Int)) (fun w hw => by have := bdeg_spec A1 p1.length c1 p1 w (hw.old ha1) hp1 (by omega) hcp1; exact this) (fun _ _ => trivial) ?_
        refine s_ge 110 rfl rfl rfl (decide_eq_true (by omega)) ?_
        refine s_mv 111 rfl rfl ?_
        refine s_mv 112 rfl rfl ?_
        refine s_call1 113 rfl rfl rfl rfl (v := .int .i64 (((bl p2).length : Nat) - 1 : Int)) (fun w hw => by have := bdeg_spec A2 p2.length c2 p2 w (hw.old ha2) hp2 (by omega) hcp2; exact this) (fun _ _ => trivial) ?_
        refine s_ge 114 rfl rfl rfl (decide_eq_false (by omega)) ?_
        refine s_pickT 115 rfl rfl rfl ?_
        refine s_mv 116 rfl rfl ?_
        refine SX.skip rfl ?_
        refine SX.skip rfl ?_
        refine SX.skip rfl ?_
        refine SX.skip rfl ?_
        refine SX.skip rfl ?_
        refine SX.skip rfl ?_
        refine SX.skip rfl ?_
        refine SX.skip rfl ?_
        refine s_pickF 125 rfl rfl rfl ?_
        refine SX.next ?_
        refine CW.condF rfl ?_
        refine CW.skip ?_
        refine KN.code ?_
        refine CW.seq ?_
        refine CW.reg [0, 1, 2, 3, 4, 5, 6, 7, 8, 9] rfl ?_   -- 15, law.go:100
        refine s_mv 127 rfl rfl ?_
        refine s_mv 128 rfl rfl ?_
        refine s_call1 129 rfl rfl rfl rfl (fun w hw => bdiv_zero A1 p1.length c1 p1 A2 p2.length c2 p2 e w (hw.old ha1) hp1 (by omega) hcp1 (hw.old ha2) hp2 (by omega) hcp2 (hw.er hz) hb0) (fun _ _ => trivial) ?_
        refine s_mv 126 rfl rfl ?_
        refine s_ext 130 rfl rfl rfl ?_
        refine s_ext 131 rfl rfl rfl ?_
        refine s_ext 132 rfl rfl rfl ?_
        refine s_as 19 rfl rfl ?_
        refine s_as 20 rfl rfl ?_
        refine s_as 21 rfl rfl ?_
        refine SX.next ?_
        refine CW.seq ?_
        refine CW.seq ?_
        refine CW.reg [0, 1, 2] rfl ?_   -- 16, law.go:101
        refine s_mv 133 rfl rfl ?_
        refine s_call1 134 rfl rfl rfl rfl (v := .int .i64 (((bl p2).length : Nat) - 1 : Int)) (fun w hw => by have := bdeg_spec A2 p2.length c2 p2 w (hw.old ha2) hp2 (by omega) hcp2; exact this) (fun _ _ => trivial) ?_
        refine s_lt 135 rfl rfl rfl (decide_eq_true (by omega)) ?_
        refine SX.next ?_
        refine CW.condT rfl ?_
        refine CW.seq ?_
        refine CW.reg [0, 1, 2, 3] rfl ?_   -- 17, law.go:102
        refine s_mv 136 rfl rfl ?_
        refine s_ld 137 rfl rfl (fun _ h => h.cell hz) ?_
        refine s_eqE 138 rfl rfl rfl ?_
        refine s_as 6 rfl rfl ?_
        refine SX.next ?_
        refine CW.ret ?_
        exact KN.ret (rs := [.tmp 6]) Tryd.results14 rfl (fun w hw => ⟨rfl, hw.nothing⟩)

set_option maxHeartbeats 1600000 in

theorem binRing_00 (A1 : Option Addr) (n1 c1 : Nat) (p1 : List Nat) (A2 : Option Addr) (n2 c2 : Nat) (p2 : List Nat) (A3 : Option Addr) (n3 c3 : Nat) (p3 : List Nat) (e : Nat → Addr) (w : World) (ha1 : Has (sl 1 A1 n1 (nats .u8 p1)) w) (hp1 : ∀ x ∈ p1, x < 256) (hn1 : n1 ≤ 9223372036854775807) (hcp1 : n1 ≤ c1) (ha2 : Has (sl 1 A2 n2 (nats .u8 p2)) w) (hp2 : ∀ x ∈ p2, x < 256) (hn2 : n2 ≤ 9223372036854775807) (hcp2 : n2 ≤ c2) (ha3 : Has (sl 1 A3 n3 (nats .u8 p3)) w) (hp3 : ∀ x ∈ p3, x < 256) (hn3 : n3 ≤ 9223372036854775807) (hcp3 : n3 ≤ c3) (hz : Er e w 6) (hnu : Er e w 4) (ha0 : (bl p1).length ≠ 0) (hb0 : (bl p2).length ≠ 0) : Spec1 Tryd.prog 14 [.slice A1 n1 c1, .slice A2 n2 c2, .slice A3 n3 c3] w (.bool true) := by
  have hla1 := nats_len ha1
  subst hla1
  have hla2 := nats_len ha2
  subst hla2
  have hla3 := nats_len ha3
  subst hla3
  refine spec_of Tryd.func14 rfl Tryd.ntmps14 rfl ?_
  refine CW.seq ?_
  refine CW.reg [0] rfl ?_   -- 0, law.go:82
  refine s_as 6 rfl rfl ?_
  refine SX.next ?_
  refine CW.seq ?_
  refine CW.reg [0, 1] rfl ?_   -- 1, law.go:83
  refine s_call1 31 rfl rfl rfl rfl (fun w hw => first3_spec e w (hw.er hnu)) (fun _ _ => trivial) ?_
  refine s_as 7 rfl rfl ?_
  refine SX.next ?_
  refine CW.seq ?_
  refine CW.seq ?_
  refine CW.reg [0, 1, 2, 3, 4, 5, 6, 7, 8, 9, 10, 11, 12, 13, 14, 15, 16] rfl ?_   -- 2, law.go:84
  refine s_mv 32 rfl rfl ?_
  refine s_len 33 rfl rfl ?_
  refine s_gt 34 rfl rfl rfl rfl ?_
  refine s_mv 35 rfl rfl ?_
  refine SX.bool 35 rfl (fun hb => ?_) (fun hb => ?_)
  · skip
    skip
    refine SX.skip rfl ?_
    refine SX.skip rfl ?_
    refine SX.skip rfl ?_
    refine s_pickT 39 rfl rfl rfl ?_
    refine s_mv 40 rfl rfl ?_
    refine SX.skip rfl ?_
    refine SX.skip rfl ?_
    refine SX.skip rfl ?_
    refine s_pickT 44 rfl rfl rfl ?_
    refine s_mv 45 rfl rfl ?_
    refine SX.skip rfl ?_
    refine SX.skip rfl ?_
    refine s_pickT 48 rfl rfl rfl ?_
    refine SX.next ?_
    refine CW.condT rfl ?_
    refine CW.seq ?_
    refine CW.reg [0, 1] rfl ?_   -- 3, law.go:85
    refine s_mv 49 rfl rfl ?_
    refine s_as 6 rfl rfl ?_
    refine SX.next ?_
    refine CW.ret ?_
    exact KN.ret (rs := [.tmp 6]) Tryd.results14 rfl (fun w hw => ⟨rfl, hw.nothing⟩)
  · skip
    have hl1 := of_decide_eq_false hb
    refine s_mv 36 rfl rfl ?_
    refine s_len 37 rfl rfl ?_
    refine s_gt 38 rfl rfl rfl rfl ?_
    refine s_pickF 39 rfl rfl rfl ?_
    refine s_mv 40 rfl rfl ?_
    refine SX.bool 40 rfl (fun hb => ?_) (fun hb => ?_)
    · skip
      skip
      refine SX.skip rfl ?_
      refine SX.skip rfl ?_
      refine SX.skip rfl ?_
      refine s_pickT 44 rfl rfl rfl ?_
      refine s_mv 45 rfl rfl ?_
      refine SX.skip rfl ?_
      refine SX.skip rfl ?_
      refine s_pickT 48 rfl rfl rfl ?_
      refine SX.next ?_
      refine CW.condT rfl ?_
      refine CW.seq ?_
      refine CW.reg [0, 1] rfl ?_   -- 3, law.go:85
      refine s_mv 49 rfl rfl ?_
      refine s_as 6 rfl rfl ?_
      refine SX.next ?_
      refine CW.ret ?_
      exact KN.ret (rs := [.tmp 6]) Tryd.results14 rfl (fun w hw => ⟨rfl, hw.nothing⟩)
    · skip
      have hl2 := of_decide_eq_false hb
      refine s_mv 41 rfl rfl ?_
      refine s_len 42 rfl rfl ?_
      refine s_gt 43 rfl rfl rfl rfl ?_
      refine s_pickF 44 rfl rfl rfl ?_
      refine s_mv 45 rfl rfl ?_
      refine SX.bool 45 rfl (fun hb => ?_) (fun hb => ?_)
      · skip
        skip
        refine SX.skip rfl ?_
        refine SX.skip rfl ?_
        refine s_pickT 48 rfl rfl rfl ?_
        refine SX.next ?_
        refine CW.condT rfl ?_
        refine CW.seq ?_
        refine CW.reg [0, 1] rfl ?_   -- 3, law.go:85
        refine s_mv 49 rfl rfl ?_
        refine s_as 6 rfl rfl ?_
        refine SX.next ?_
        refine CW.ret ?_
        exact KN.ret (rs := [.tmp 6]) Tryd.results14 rfl (fun w hw => ⟨rfl, hw.nothing⟩)
      · skip
        have hlen := of_decide_eq_false hb
        have h140 : p1.length ≤ 40 := by omega
        have h240 : p2.length ≤ 40 := by omega
        have h340 : p3.length ≤ 40 := by omega
        have l1 := bl_len p1
        have l2 := bl_len p2
        have l3 := bl_len p3
        have hA := bl_b1 p1
        have hB := bl_b1 p2
        have hC := bl_b1 p3
        have hAB := mulP_b1 hA hB
        have hBA := mulP_b1 hB hA
        have hAC := mulP_b1 hA hC
        have hBC := addP_b1 hB hC
        have hLF := mulP_b1 hA hBC
        have hSM := addP_b1 hAB hAC
        have hS1 := addP_b1 hA hB
        have hS2 := addP_b1 hB hA
        have e1 := mulP_comm ok3 hA.tr hB.tr
        have e2 := mulP_add_right ok3 hA.tr hB.tr hC.tr
        have e3 := addP_self ok3 hA.tr
        have m1 := mulP_le3 (bl p1) (bl p2)
        have m2 := mulP_le3 (bl p2) (bl p1)
        have m3 := mulP_le3 (bl p1) (bl p3)
        have m4 := addP_le8 (bl p2) (bl p3)
        have m5 := mulP_le3 (bl p1) (addP (bl p2) (bl p3))
        have m6 := addP_le8 (mulP 3 (bl p1) (bl p2)) (mulP 3 (bl p1) (bl p3))
        have m7 := addP_le8 (bl p1) (bl p2)
        have m8 := addP_le8 (bl p2) (bl p1)
        have y1 := bys_len (mulP 3 (bl p1) (bl p2))
        have y2 := bys_len (mulP 3 (bl p2) (bl p1))
        have y3 := bys_len (mulP 3 (bl p1) (bl p3))
        have y4 := bys_len (addP (bl p2) (bl p3))
        have y5 := bys_len (mulP 3 (bl p1) (addP (bl p2) (bl p3)))
        have y6 := bys_len (addP (mulP 3 (bl p1) (bl p2)) (mulP 3 (bl p1) (bl p3)))
        have y7 := bys_len (addP (bl p1) (bl p2))
        have y8 := bys_len (addP (bl p2) (bl p1))
        have yn : (bys []).length = 0 := by rw [bys_nil]; rfl
        have hQU := quotP_b1 hA hB hb0
        have hRE := restP_b1 hA hB hb0
        have hrl := restP_len ok3 hA.tr.lt hB.tr.lt hb0 (hB.tr.top hb0)
        have hde := div_eq ok3 hA.tr hB.tr hb0
        have hBK := mulP_b1 hQU hB
        have hGG := gcdE_b1 hA hB
        obtain ⟨hg0, hg1, hg2⟩ := gcd_rest3 hA hB hb0
        have hQA := quotP_b1 hA hGG hg0
        have hQB := quotP_b1 hB hGG hg0
        have n1 : (quotP 3 (bl p1) (bl p2)).length ≤ (bl p1).length + 1 - (bl p2).length := pl_le _ _
        have n2 := mulP_le3 (quotP 3 (bl p1) (bl p2)) (bl p2)
        have n3 : (gcdE 3 (bl p1) (bl p2)).length ≤ max (bl p1).length (bl p2).length := gcdP_le3 _ _ _
        have n4 : (quotP 3 (bl p1) (gcdE 3 (bl p1) (bl p2))).length ≤ (bl p1).length + 1 - (gcdE 3 (bl p1) (bl p2)).length := pl_le _ _
        have n5 : (quotP 3 (bl p2) (gcdE 3 (bl p1) (bl p2))).length ≤ (bl p2).length + 1 - (gcdE 3 (bl p1) (bl p2)).length := pl_le _ _
        have z1 := bys_len (quotP 3 (bl p1) (bl p2))
        have z2 := bys_len (restP 3 (bl p1) (bl p2))
        have z3 := bys_len (mulP 3 (quotP 3 (bl p1) (bl p2)) (bl p2))
        have z4 := bys_len (gcdE 3 (bl p1) (bl p2))
        have z5 := bys_len (quotP 3 (bl p1) (gcdE 3 (bl p1) (bl p2)))
        have z6 := bys_len (quotP 3 (bl p2) (gcdE 3 (bl p1) (bl p2)))
        have z7 := bys_len (bl p1)
        have v1 := ev_two p1
        have v2 := ev_two p2
        have ea := evL_add ok3 hA.tr.lt hB.tr.lt 1
        have em := evL_mul ok3 hA.tr.lt hB.tr.lt 1 (by decide)
        have eg := and_gm v1 v2
        refine s_mv 46 rfl rfl ?_
        refine s_not 47 rfl rfl ?_
        refine s_pickF 48 rfl rfl rfl ?_
        refine SX.next ?_
        refine CW.condF rfl ?_
        refine CW.skip ?_
        refine KN.code ?_
        refine CW.seq ?_
        refine CW.reg [0, 1] rfl ?_   -- 4, law.go:87
        refine s_mv 50 rfl rfl ?_
        refine s_as 8 rfl rfl ?_
        refine SX.next ?_
        refine CW.seq ?_
        refine CW.reg [0, 1] rfl ?_   -- 5, law.go:88
        refine s_mv 51 rfl rfl ?_
        refine s_as 9 rfl rfl ?_
        refine SX.next ?_
        refine CW.seq ?_
        refine CW.reg [0, 1] rfl ?_   -- 6, law.go:89
        refine s_mv 52 rfl rfl ?_
        refine s_as 10 rfl rfl ?_
        refine SX.next ?_
        refine CW.seq ?_
        refine CW.reg [0, 1, 2, 3, 4, 5, 6, 7] rfl ?_   -- 7, law.go:90
        refine s_mv 54 rfl rfl ?_
        refine s_mv 55 rfl rfl ?_
        refine s_call 56 rfl rfl rfl rfl (fun w hw => by have := bmul_spec A1 p1.length c1 p1 A2 p2.length c2 p2 w (hw.old ha1) hp1 (by omega) hcp1 (hw.old ha2) hp2 (by omega) hcp2 (by omega); exact this) (fun _ _ => trivial) (fun q56 hq56 => ?_)
        refine s_mv 53 rfl rfl ?_
        refine s_ext 57 rfl rfl rfl ?_
        refine s_ext 58 rfl rfl rfl ?_
        refine s_as 11 rfl rfl ?_
        refine s_as 12 rfl rfl ?_
        refine SX.next ?_
        refine CW.seq ?_
        refine CW.reg [0, 1, 2, 3, 4, 5, 6, 7] rfl ?_   -- 8, law.go:91
        refine s_mv 60 rfl rfl ?_
        refine s_mv 61 rfl rfl ?_
        refine s_call 62 rfl rfl rfl rfl (fun w hw => by have := bmul_spec A2 p2.length c2 p2 A1 p1.length c1 p1 w (hw.old ha2) hp2 (by omega) hcp2 (hw.old ha1) hp1 (by omega) hcp1 (by omega); exact this) (fun _ _ => trivial) (fun q62 hq62 => ?_)
        refine s_mv 59 rfl rfl ?_
        refine s_ext 63 rfl rfl rfl ?_
        refine s_ext 64 rfl rfl rfl ?_
        refine s_as 13 rfl rfl ?_
        refine s_as 14 rfl rfl ?_
        refine SX.next ?_
        refine CW.seq ?_
        refine CW.reg [0, 1, 2, 3, 4, 5, 6, 7] rfl ?_   -- 9, law.go:92
        refine s_mv 66 rfl rfl ?_
        refine s_mv 67 rfl rfl ?_
        refine s_call 68 rfl rfl rfl rfl (fun w hw => by have := bmul_spec A1 p1.length c1 p1 A3 p3.length c3 p3 w (hw.old ha1) hp1 (by omega) hcp1 (hw.old ha3) hp3 (by omega) hcp3 (by omega); exact this) (fun _ _ => trivial) (fun q68 hq68 => ?_)
        refine s_mv 65 rfl rfl ?_
        refine s_ext 69 rfl rfl rfl ?_
        refine s_ext 70 rfl rfl rfl ?_
        refine s_as 15 rfl rfl ?_
        refine s_as 16 rfl rfl ?_
        refine SX.next ?_
        refine CW.seq ?_
        refine CW.reg [0, 1, 2, 3, 4, 5, 6, 7, 8, 9] rfl ?_   -- 10, law.go:93
        refine s_mv 72 rfl rfl ?_
        refine s_mv 73 rfl rfl ?_
        refine s_mv 74 rfl rfl ?_
        refine s_call 75 rfl rfl rfl rfl (fun w hw => by have := badd_spec A2 p2.length c2 p2 A3 p3.length c3 p3 w (hw.old ha2) hp2 (by omega) hcp2 (hw.old ha3) hp3 (by omega) hcp3; exact this) (fun _ _ => trivial) (fun q75 hq75 => ?_)
        refine s_call 76 rfl rfl rfl rfl (fun w hw => by have := bmul_spec A1 p1.length c1 p1 q75.1 (bys (addP (bl p2) (bl p3))).length q75.2 (bys (addP (bl p2) (bl p3))) w (hw.old ha1) hp1 (by omega) hcp1 ((hw.has (i := 0) rfl).of_own) (bys_lt hBC) (by omega) hq75 (by rw [bl_bys hBC]; omega); rw [bl_bys hBC] at this; exact this) (fun _ _ => trivial) (fun q76 hq76 => ?_)
        refine s_mv 71 rfl rfl ?_
        refine s_ext 77 rfl rfl rfl ?_
        refine s_ext 78 rfl rfl rfl ?_
        refine s_as 17 rfl rfl ?_
        refine s_as 18 rfl rfl ?_
        refine SX.next ?_
        refine CW.seq ?_
        refine CW.seq ?_
        refine CW.reg [0, 1, 2, 3, 4, 5, 6, 7, 8, 9, 10, 11, 12, 13, 14, 15, 16, 17, 18, 19, 20, 21, 22, 23, 24, 25, 26, 27, 28] rfl ?_   -- 11, law.go:94
        refine s_mv 79 rfl rfl ?_
        refine s_mv 80 rfl rfl ?_
        refine s_call1 81 rfl rfl rfl rfl (v := .bool true) (fun w hw => by have := bsm_spec q56.1 (bys (mulP 3 (bl p1) (bl p2))).length q56.2 (bys (mulP 3 (bl p1) (bl p2))) q62.1 (bys (mulP 3 (bl p2) (bl p1))).length q62.2 (bys (mulP 3 (bl p2) (bl p1))) w ((hw.has (i := 4) rfl).of_own) (bys_lt hAB) (by omega) hq56 ((hw.has (i := 3) rfl).of_own) (bys_lt hBA) (by omega) hq62; rw [bl_bys hAB, bl_bys hBA] at this; rw [decide_eq_true (e1)] at this; exact this) (fun _ _ => trivial) ?_
        refine s_not 82 rfl rfl ?_
        refine s_mv 83 rfl rfl ?_
        refine s_mv 84 rfl rfl ?_
        refine s_mv 85 rfl rfl ?_
        refine s_mv 86 rfl rfl ?_
        refine s_call 87 rfl rfl rfl rfl (fun w hw => by have := badd_spec q56.1 (bys (mulP 3 (bl p1) (bl p2))).length q56.2 (bys (mulP 3 (bl p1) (bl p2))) q68.1 (bys (mulP 3 (bl p1) (bl p3))).length q68.2 (bys (mulP 3 (bl p1) (bl p3))) w ((hw.has (i := 4) rfl).of_own) (bys_lt hAB) (by omega) hq56 ((hw.has (i := 2) rfl).of_own) (bys_lt hAC) (by omega) hq68; rw [bl_bys hAB, bl_bys hAC] at this; exact this) (fun _ _ => trivial) (fun q87 hq87 => ?_)
        refine s_call1 88 rfl rfl rfl rfl (v := .bool true) (fun w hw => by have := bsm_spec q76.1 (bys (mulP 3 (bl p1) (addP (bl p2) (bl p3)))).length q76.2 (bys (mulP 3 (bl p1) (addP (bl p2) (bl p3)))) q87.1 (bys (addP (mulP 3 (bl p1) (bl p2)) (mulP 3 (bl p1) (bl p3)))).length q87.2 (bys (addP (mulP 3 (bl p1) (bl p2)) (mulP 3 (bl p1) (bl p3)))) w ((hw.has (i := 1) rfl).of_own) (bys_lt hLF) (by omega) hq76 ((hw.has (i := 0) rfl).of_own) (bys_lt hSM) (by omega) hq87; rw [bl_bys hLF, bl_bys hSM] at this; rw [decide_eq_true (e2)] at this; exact this) (fun _ _ => trivial) ?_
        refine s_not 89 rfl rfl ?_
        refine s_pickF 90 rfl rfl rfl ?_
        refine s_mv 91 rfl rfl ?_
        refine s_mv 92 rfl rfl ?_
        refine s_mv 93 rfl rfl ?_
        refine s_call 94 rfl rfl rfl rfl (fun w hw => by have := badd_spec A1 p1.length c1 p1 A1 p1.length c1 p1 w (hw.old ha1) hp1 (by omega) hcp1 (hw.old ha1) hp1 (by omega) hcp1; rw [e3] at this; exact this) (fun _ _ => trivial) (fun q94 hq94 => ?_)
        refine s_call1 95 rfl rfl rfl rfl (v := .int .i64 (-1)) (fun w hw => by have := bdeg_spec q94.1 (bys []).length q94.2 (bys []) w ((hw.has (i := 0) rfl).of_own) (bys_lt nil_b1) (by omega) hq94; rw [bl_bys nil_b1] at this; exact this) (fun _ _ => trivial) ?_
        refine s_ne 96 rfl rfl rfl (decide_eq_false (by omega)) ?_
        refine s_pickF 97 rfl rfl rfl ?_
        refine s_mv 98 rfl rfl ?_
        refine s_mv 99 rfl rfl ?_
        refine s_mv 100 rfl rfl ?_
        refine s_call 101 rfl rfl rfl rfl (fun w hw => by have := badd_spec A1 p1.length c1 p1 A2 p2.length c2 p2 w (hw.old ha1) hp1 (by omega) hcp1 (hw.old ha2) hp2 (by omega) hcp2; exact this) (fun _ _ => trivial) (fun q101 hq101 => ?_)
        refine s_mv 102 rfl rfl ?_
        refine s_mv 103 rfl rfl ?_
        refine s_call 104 rfl rfl rfl rfl (fun w hw => by have := badd_spec A2 p2.length c2 p2 A1 p1.length c1 p1 w (hw.old ha2) hp2 (by omega) hcp2 (hw.old ha1) hp1 (by omega) hcp1; exact this) (fun _ _ => trivial) (fun q104 hq104 => ?_)
        refine s_call1 105 rfl rfl rfl rfl (v := .bool true) (fun w hw => by have := bsm_spec q101.1 (bys (addP (bl p1) (bl p2))).length q101.2 (bys (addP (bl p1) (bl p2))) q104.1 (bys (addP (bl p2) (bl p1))).length q104.2 (bys (addP (bl p2) (bl p1))) w ((hw.has (i := 1) rfl).of_own) (bys_lt hS1) (by omega) hq101 ((hw.has (i := 0) rfl).of_own) (bys_lt hS2) (by omega) hq104; rw [bl_bys hS1, bl_bys hS2] at this; rw [decide_eq_true (addP_comm _ _)] at this; exact this) (fun _ _ => trivial) ?_
        refine s_not 106 rfl rfl ?_
        refine s_pickF 107 rfl rfl rfl ?_
        refine SX.next ?_
        refine CW.condF rfl ?_
        refine CW.skip ?_
        refine KN.code ?_
        refine CW.seq ?_
        refine CW.seq ?_
        refine CW.reg [0, 1, 2, 3, 4, 5, 6, 7, 8, 9, 10, 11, 12, 13, 14, 15, 16, 17] rfl ?_   -- 13, law.go:97
        refine s_mv 108 rfl rfl ?_
        refine s_call1 109 rfl rfl rfl rfl (v := .int .i64 (((bl p1).length : Nat) - 1 : Int)) (fun w hw => by have := bdeg_spec A1 p1.length c1 p1 w (hw.old ha1) hp1 (by omega) hcp1; exact this) (fun _ _ => trivial) ?_
        refine s_ge 110 rfl rfl rfl (decide_eq_true (by omega)) ?_
        refine s_mv 111 rfl rfl ?_
        refine s_mv 112 rfl rfl ?_
        refine s_call1 113 rfl rfl rfl rfl (v := .int .i64 (((bl p2).length : Nat) - 1 : Int)) (fun w hw => by have := bdeg_spec A2 p2.length c2 p2 w (hw.old ha2) hp2 (by omega) hcp2; exact this) (fun _ _ => trivial) ?_
        refine s_ge 114 rfl rfl rfl (decide_eq_true (by omega)) ?_
        refine s_pickT 115 rfl rfl rfl ?_
        refine s_mv 116 rfl rfl ?_
        refine s_mv 117 rfl rfl ?_
        refine s_call1 118 rfl rfl rfl rfl (v := .int .i64 (((mulP 3 (bl p1) (bl p2)).length : Nat) - 1 : Int)) (fun w hw => by have := bdeg_spec q56.1 (bys (mulP 3 (bl p1) (bl p2))).length q56.2 (bys (mulP 3 (bl p1) (bl p2))) w ((hw.has (i := 8) rfl).of_own) (bys_lt hAB) (by omega) hq56; rw [bl_bys hAB] at this; exact this) (fun _ _ => trivial) ?_
        refine s_mv 119 rfl rfl ?_
        refine s_call1 120 rfl rfl rfl rfl (v := .int .i64 (((bl p1).length : Nat) - 1 : Int)) (fun w hw => by have := bdeg_spec A1 p1.length c1 p1 w (hw.old ha1) hp1 (by omega) hcp1; exact this) (fun _ _ => trivial) ?_
        refine s_mv 121 rfl rfl ?_
        refine s_call1 122 rfl rfl rfl rfl (v := .int .i64 (((bl p2).length : Nat) - 1 : Int)) (fun w hw => by have := bdeg_spec A2 p2.length c2 p2 w (hw.old ha2) hp2 (by omega) hcp2; exact this) (fun _ _ => trivial) ?_
        refine s_add 123 rfl rfl rfl (w64 (by omega)) ?_
        refine s_ne 124 rfl rfl rfl (decide_eq_false (by have := mulP_len ok3 hA.tr hB.tr ha0 hb0; omega)) ?_
        refine s_pickT 125 rfl rfl rfl ?_
        refine SX.next ?_
        refine CW.condF rfl ?_
        refine CW.skip ?_
        refine KN.code ?_
        refine CW.seq ?_
        refine CW.reg [0, 1, 2, 3, 4, 5, 6, 7, 8, 9] rfl ?_   -- 15, law.go:100
        refine s_mv 127 rfl rfl ?_
        refine s_mv 128 rfl rfl ?_
        refine s_call 129 rfl rfl rfl rfl (fun w hw => by have := bdiv_spec A1 p1.length c1 p1 A2 p2.length c2 p2 w (hw.old ha1) hp1 (by omega) hcp1 (hw.old ha2) hp2 (by omega) hcp2 hb0 (by omega); exact this) (fun _ _ => trivial) (fun q129 hq129 => ?_)
        refine s_mv 126 rfl rfl ?_
        refine s_ext 130 rfl rfl rfl ?_
        refine s_ext 131 rfl rfl rfl ?_
        refine s_ext 132 rfl rfl rfl ?_
        refine s_as 19 rfl rfl ?_
        refine s_as 20 rfl rfl ?_
        refine s_as 21 rfl rfl ?_
        refine SX.next ?_
        refine CW.seq ?_
        refine CW.seq ?_
        refine CW.reg [0, 1, 2] rfl ?_   -- 16, law.go:101
        refine s_mv 133 rfl rfl ?_
        refine s_call1 134 rfl rfl rfl rfl (v := .int .i64 (((bl p2).length : Nat) - 1 : Int)) (fun w hw => by have := bdeg_spec A2 p2.length c2 p2 w (hw.old ha2) hp2 (by omega) hcp2; exact this) (fun _ _ => trivial) ?_
        refine s_lt 135 rfl rfl rfl (decide_eq_false (by omega)) ?_
        refine SX.next ?_
        refine CW.condF rfl ?_
        refine CW.skip ?_
        refine KN.code ?_
        refine CW.seq ?_
        refine CW.reg [0, 1, 2, 3, 4, 5, 6, 7] rfl ?_   -- 18, law.go:104
        refine s_mv 140 rfl rfl ?_
        refine s_mv 141 rfl rfl ?_
        refine s_call 142 rfl rfl rfl rfl (fun w hw => by have := bmul_spec q129.1.1 (bys (quotP 3 (bl p1) (bl p2))).length q129.1.2 (bys (quotP 3 (bl p1) (bl p2))) A2 p2.length c2 p2 w ((hw.has (i := 1) rfl).of_own) (bys_lt hQU) (by omega) hq129.1 (hw.old ha2) hp2 (by omega) hcp2 (by rw [bl_bys hQU]; omega); rw [bl_bys hQU] at this; exact this) (fun _ _ => trivial) (fun q142 hq142 => ?_)
        refine s_mv 139 rfl rfl ?_
        refine s_ext 143 rfl rfl rfl ?_
        refine s_ext 144 rfl rfl rfl ?_
        refine s_as 22 rfl rfl ?_
        refine s_as 23 rfl rfl ?_
        refine SX.next ?_
        refine CW.seq ?_
        refine CW.reg [0, 1, 2, 3] rfl ?_   -- 19, law.go:105
        refine s_mv 145 rfl rfl ?_
        refine s_mv 146 rfl rfl ?_
        refine s_call 147 rfl rfl rfl rfl (fun w hw => by have := bgcd_spec A1 p1.length c1 p1 A2 p2.length c2 p2 w (hw.old ha1) hp1 (by omega) hcp1 (hw.old ha2) hp2 (by omega) hcp2 (by omega) (by omega); exact this) (fun _ _ => trivial) (fun q147 hq147 => ?_)
        refine s_as 24 rfl rfl ?_
        refine SX.next ?_
        refine CW.seq ?_
        refine CW.reg [0, 1, 2, 3, 4, 5, 6, 7, 8, 9] rfl ?_   -- 20, law.go:106
        refine s_mv 149 rfl rfl ?_
        refine s_mv 150 rfl rfl ?_
        refine s_call 151 rfl rfl rfl rfl (fun w hw => by have := bdiv_spec A1 p1.length c1 p1 q147.1 (bys (gcdE 3 (bl p1) (bl p2))).length q147.2 (bys (gcdE 3 (bl p1) (bl p2))) w (hw.old ha1) hp1 (by omega) hcp1 ((hw.has (i := 0) rfl).of_own) (bys_lt hGG) (by omega) hq147 (by rw [bl_bys hGG]; exact hg0) (by omega); rw [bl_bys hGG, hg1] at this; exact this) (fun _ _ => trivial) (fun q151 hq151 => ?_)
        refine s_mv 148 rfl rfl ?_
        refine s_ext 152 rfl rfl rfl ?_
        refine s_ext 153 rfl rfl rfl ?_
        refine s_ext 154 rfl rfl rfl ?_
        refine s_as 25 rfl rfl ?_
        refine s_as 26 rfl rfl ?_
        refine s_as 27 rfl rfl ?_
        refine SX.next ?_
        refine CW.seq ?_
        refine CW.reg [0, 1, 2, 3, 4, 5, 6, 7, 8, 9] rfl ?_   -- 21, law.go:107
        refine s_mv 156 rfl rfl ?_
        refine s_mv 157 rfl rfl ?_
        refine s_call 158 rfl rfl rfl rfl (fun w hw => by have := bdiv_spec A2 p2.length c2 p2 q147.1 (bys (gcdE 3 (bl p1) (bl p2))).length q147.2 (bys (gcdE 3 (bl p1) (bl p2))) w (hw.old ha2) hp2 (by omega) hcp2 ((hw.has (i := 2) rfl).of_own) (bys_lt hGG) (by omega) hq147 (by rw [bl_bys hGG]; exact hg0) (by omega); rw [bl_bys hGG, hg2] at this; exact this) (fun _ _ => trivial) (fun q158 hq158 => ?_)
        refine s_mv 155 rfl rfl ?_
        refine s_ext 159 rfl rfl rfl ?_
        refine s_ext 160 rfl rfl rfl ?_
        refine s_ext 161 rfl rfl rfl ?_
        refine s_as 28 rfl rfl ?_
        refine s_as 29 rfl rfl ?_
        refine s_as 30 rfl rfl ?_
        refine SX.next ?_
        refine CW.seq ?_
        refine CW.reg [0, 1, 2, 3, 4, 5, 6, 7, 8, 9, 10, 11, 12, 13, 14, 15, 16, 17, 18, 19, 20, 21, 22, 23, 24, 25, 26, 27, 28, 29, 30, 31, 32, 33, 34, 35, 36, 37, 38, 39, 40, 41, 42, 43, 44, 45, 46, 47, 48] rfl ?_   -- 22, law.go:108
        refine s_mv 162 rfl rfl ?_
        refine s_eqNN 163 rfl rfl ?_
        refine s_mv 164 rfl rfl ?_
        refine s_mv 165 rfl rfl ?_
        refine s_call1 166 rfl rfl rfl rfl (v := .int .i64 (((restP 3 (bl p1) (bl p2)).length : Nat) - 1 : Int)) (fun w hw => by have := bdeg_spec q129.2.1 (bys (restP 3 (bl p1) (bl p2))).length q129.2.2 (bys (restP 3 (bl p1) (bl p2))) w ((hw.has (i := 6) rfl).of_own) (bys_lt hRE) (by omega) hq129.2; rw [bl_bys hRE] at this; exact this) (fun _ _ => trivial) ?_
        refine s_mv 167 rfl rfl ?_
        refine s_call1 168 rfl rfl rfl rfl (v := .int .i64 (((bl p2).length : Nat) - 1 : Int)) (fun w hw => by have := bdeg_spec A2 p2.length c2 p2 w (hw.old ha2) hp2 (by omega) hcp2; exact this) (fun _ _ => trivial) ?_
        refine s_lt 169 rfl rfl rfl (decide_eq_true (by omega)) ?_
        refine s_pickT 170 rfl rfl rfl ?_
        refine s_mv 171 rfl rfl ?_
        refine s_mv 172 rfl rfl ?_
        refine s_mv 173 rfl rfl ?_
        refine s_call 174 rfl rfl rfl rfl (fun w hw => by have := badd_spec q142.1 (bys (mulP 3 (quotP 3 (bl p1) (bl p2)) (bl p2))).length q142.2 (bys (mulP 3 (quotP 3 (bl p1) (bl p2)) (bl p2))) q129.2.1 (bys (restP 3 (bl p1) (bl p2))).length q129.2.2 (bys (restP 3 (bl p1) (bl p2))) w ((hw.has (i := 5) rfl).of_own) (bys_lt hBK) (by omega) hq142 ((hw.has (i := 6) rfl).of_own) (bys_lt hRE) (by omega) hq129.2; rw [bl_bys hBK, bl_bys hRE, hde] at this; exact this) (fun _ _ => trivial) (fun q174 hq174 => ?_)
        refine s_mv 175 rfl rfl ?_
        refine s_call1 176 rfl rfl rfl rfl (v := .bool true) (fun w hw => by have := bsm_spec q174.1 (bys (bl p1)).length q174.2 (bys (bl p1)) A1 p1.length c1 p1 w ((hw.has (i := 0) rfl).of_own) (bys_lt hA) (by omega) hq174 (hw.old ha1) hp1 (by omega) hcp1; rw [bl_bys hA] at this; rw [decide_eq_true (rfl)] at this; exact this) (fun _ _ => trivial) ?_
        refine s_pickT 177 rfl rfl rfl ?_
        refine s_mv 178 rfl rfl ?_
        refine s_mv 179 rfl rfl ?_
        refine s_call1 180 rfl rfl rfl rfl (v := .int .i64 (-1)) (fun w hw => by have := bdeg_spec q151.2.1 (bys []).length q151.2.2 (bys []) w ((hw.has (i := 3) rfl).of_own) (bys_lt nil_b1) (by omega) hq151.2; rw [bl_bys nil_b1] at this; exact this) (fun _ _ => trivial) ?_
        refine s_eq 181 rfl rfl rfl (decide_eq_true rfl) ?_
        refine s_pickT 182 rfl rfl rfl ?_
        refine s_mv 183 rfl rfl ?_
        refine s_mv 184 rfl rfl ?_
        refine s_call1 185 rfl rfl rfl rfl (v := .int .i64 (-1)) (fun w hw => by have := bdeg_spec q158.2.1 (bys []).length q158.2.2 (bys []) w ((hw.has (i := 1) rfl).of_own) (bys_lt nil_b1) (by omega) hq158.2; rw [bl_bys nil_b1] at this; exact this) (fun _ _ => trivial) ?_
        refine s_eq 186 rfl rfl rfl (decide_eq_true rfl) ?_
        refine s_pickT 187 rfl rfl rfl ?_
        refine s_mv 188 rfl rfl ?_
        refine s_mv 189 rfl rfl ?_
        refine s_call1 190 rfl rfl rfl rfl (v := .int .i64 (evL 3 (bl p1) 1 : Nat)) (fun w hw => by have := beval_spec A1 p1.length c1 p1 w (hw.old ha1) hp1 (by omega) hcp1; exact this) (fun _ _ => trivial) ?_
        refine s_mv 191 rfl rfl ?_
        refine s_call1 192 rfl rfl rfl rfl (v := .int .i64 (evL 3 (bl p2) 1 : Nat)) (fun w hw => by have := beval_spec A2 p2.length c2 p2 w (hw.old ha2) hp2 (by omega) hcp2; exact this) (fun _ _ => trivial) ?_
        refine s_bit 193 rfl rfl rfl rfl (ibit_xor_nat (by omega) (by omega)) ?_
        refine s_mv 194 rfl rfl ?_
        refine s_mv 195 rfl rfl ?_
        refine s_call 196 rfl rfl rfl rfl (fun w hw => by have := badd_spec A1 p1.length c1 p1 A2 p2.length c2 p2 w (hw.old ha1) hp1 (by omega) hcp1 (hw.old ha2) hp2 (by omega) hcp2; exact this) (fun _ _ => trivial) (fun q196 hq196 => ?_)
        refine s_call1 197 rfl rfl rfl rfl (v := .int .i64 (evL 3 (bl p1) 1 ^^^ evL 3 (bl p2) 1 : Nat)) (fun w hw => by have := beval_spec q196.1 (bys (addP (bl p1) (bl p2))).length q196.2 (bys (addP (bl p1) (bl p2))) w ((hw.has (i := 0) rfl).of_own) (bys_lt hS1) (by omega) hq196; rw [bl_bys hS1] at this; rw [ea] at this; exact this) (fun _ _ => trivial) ?_
        refine s_eq 198 rfl rfl rfl (decide_eq_true rfl) ?_
        refine s_pickT 199 rfl rfl rfl ?_
        refine s_mv 200 rfl rfl ?_
        refine s_mv 201 rfl rfl ?_
        refine s_call1 202 rfl rfl rfl rfl (v := .int .i64 (evL 3 (bl p1) 1 : Nat)) (fun w hw => by have := beval_spec A1 p1.length c1 p1 w (hw.old ha1) hp1 (by omega) hcp1; exact this) (fun _ _ => trivial) ?_
        refine s_mv 203 rfl rfl ?_
        refine s_call1 204 rfl rfl rfl rfl (v := .int .i64 (evL 3 (bl p2) 1 : Nat)) (fun w hw => by have := beval_spec A2 p2.length c2 p2 w (hw.old ha2) hp2 (by omega) hcp2; exact this) (fun _ _ => trivial) ?_
        refine s_bit 205 rfl rfl rfl rfl (ibit_and_nat (by omega) (by omega)) ?_
        refine s_mv 206 rfl rfl ?_
        refine s_call1 207 rfl rfl rfl rfl (v := .int .i64 (evL 3 (bl p1) 1 &&& evL 3 (bl p2) 1 : Nat)) (fun w hw => by have := beval_spec q56.1 (bys (mulP 3 (bl p1) (bl p2))).length q56.2 (bys (mulP 3 (bl p1) (bl p2))) w ((hw.has (i := 18) rfl).of_own) (bys_lt hAB) (by omega) hq56; rw [bl_bys hAB] at this; rw [em, ← eg] at this; exact this) (fun _ _ => trivial) ?_
        refine s_eq 208 rfl rfl rfl (decide_eq_true rfl) ?_
        refine s_pickT 209 rfl rfl rfl ?_
        refine s_as 6 rfl rfl ?_
        refine SX.next ?_
        refine CW.ret ?_
        exact KN.ret (rs := [.tmp 6]) Tryd.results14 rfl (fun w hw => ⟨rfl, hw.nothing⟩)

theorem walk_BinRing (A1 : Option Addr) (n1 c1 : Nat) (p1 : List Nat) (A2 : Option Addr) (n2 c2 : Nat) (p2 : List Nat) (A3 : Option Addr) (n3 c3 : Nat) (p3 : List Nat) (e : Nat → Addr) (w : World) (ha1 : Has (sl 1 A1 n1 (nats .u8 p1)) w) (hp1 : ∀ x ∈ p1, x < 256) (hn1 : n1 ≤ 9223372036854775807) (hcp1 : n1 ≤ c1) (ha2 : Has (sl 1 A2 n2 (nats .u8 p2)) w) (hp2 : ∀ x ∈ p2, x < 256) (hn2 : n2 ≤ 9223372036854775807) (hcp2 : n2 ≤ c2) (ha3 : Has (sl 1 A3 n3 (nats .u8 p3)) w) (hp3 : ∀ x ∈ p3, x < 256) (hn3 : n3 ≤ 9223372036854775807) (hcp3 : n3 ≤ c3) (hz : Er e w 6) (hnu : Er e w 4) : Spec1 Tryd.prog 14 [.slice A1 n1 c1, .slice A2 n2 c2, .slice A3 n3 c3] w (.bool true) := by
  by_cases h1 : (bl p1).length = 0
  · by_cases h2 : (bl p2).length = 0
    · exact binRing_11 A1 n1 c1 p1 A2 n2 c2 p2 A3 n3 c3 p3 e w ha1 hp1 hn1 hcp1 ha2 hp2 hn2 hcp2 ha3 hp3 hn3 hcp3 hz hnu h1 h2
    · exact binRing_10 A1 n1 c1 p1 A2 n2 c2 p2 A3 n3 c3 p3 e w ha1 hp1 hn1 hcp1 ha2 hp2 hn2 hcp2 ha3 hp3 hn3 hcp3 hz hnu h1 h2
  · by_cases h2 : (bl p2).length = 0
    · exact binRing_01 A1 n1 c1 p1 A2 n2 c2 p2 A3 n3 c3 p3 e w ha1 hp1 hn1 hcp1 ha2 hp2 hn2 hcp2 ha3 hp3 hn3 hcp3 hz hnu h1 h2
    · exact binRing_00 A1 n1 c1 p1 A2 n2 c2 p2 A3 n3 c3 p3 e w ha1 hp1 hn1 hcp1 ha2 hp2 hn2 hcp2 ha3 hp3 hn3 hcp3 hz hnu h1 h2
