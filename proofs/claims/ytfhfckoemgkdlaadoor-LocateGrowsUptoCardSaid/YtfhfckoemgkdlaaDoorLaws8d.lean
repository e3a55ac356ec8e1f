/- The statements LocateGrows and LocateScales, walked. No condition but the errors' variables. -/
import Derived.Test.YtfhfckoemgkdlaaDoorLaws8b
namespace Go.Proofs.YtfhfckoemgkdlaaDoor
open Go Go.Sx Go.Fm
set_option maxRecDepth 100000
/-! ### One value more -/
def nxP (m : Nat) (c : List Nat) (s : List Nat) (n j : Nat) : Nat := xs (fun i => gm m (cf c (i + 1)) (cf s (n - (i + 1)))) j
noncomputable def nxt (m : Nat) (l : List Int) : Nat := nxP m (BL m l).c (lowL m l) l.length (BL m l).L
theorem BL_snoc {m : Nat} (hm : Ok m) (l : List Int) (v : Int) : BL m (l ++ [v]) = bmS m (stL m) (lowL m (l ++ [v])) (BL m l) l.length := by
  unfold BL
  rw [List.length_append, List.length_singleton]
  show bmS m _ _ (bmG m (stL m) (lowL m (l ++ [v])) l.length) l.length = _
  rw [bmG_ext hm (stL_ok hm) (s := lowL m (l ++ [v])) (t := lowL m l) l.length (fun i hi => by
    rw [cf_low, cf_low, List.getD_eq_getElem?_getD, List.getElem?_append_left hi, ← List.getD_eq_getElem?_getD])]
theorem BL_d {m : Nat} (hm : Ok m) (l : List Int) (v : Int) : (BL m l).d m (lowL m (l ++ [v])) l.length = lo m v ^^^ nxt m l := by
  have hi : BmI m (lowL m l) (BL m l) l.length := bm_inv hm (lowL_lt m l) l.length
  have hL := hi.Ln
  unfold Bm.d sumP nxt nxP
  rw [xs_first, hi.c0, Nat.sub_zero]
  congr 1
  · rw [cf_low, List.getD_eq_getElem?_getD, List.getElem?_append_right (Nat.le_refl _), Nat.sub_self]
    exact gm_one_left hm (lo_lt m v)
  · refine xs_congr (fun i hi2 => ?_)
    rw [cf_low, cf_low, List.getD_eq_getElem?_getD, List.getElem?_append_left (by omega), ← List.getD_eq_getElem?_getD]
theorem nxt_lt {m : Nat} (hm : Ok m) (l : List Int) : nxt m l < 2 ^ m := xs_lt (fun _ _ => gm_lt hm ((bm_inv hm (lowL_lt m l) l.length).tc.c _) _)
theorem grows_same {m : Nat} (hm : Ok m) (l : List Int) {v : Int} (h : lo m v = nxt m l) : (BL m (l ++ [v])).c = (BL m l).c ∧ (BL m (l ++ [v])).L = (BL m l).L := by
  have hd := BL_d hm l v
  rw [h, Nat.xor_self] at hd
  rw [BL_snoc hm]
  unfold bmS
  rw [if_pos hd]
  exact ⟨rfl, rfl⟩
theorem grows_more {m : Nat} (hm : Ok m) (l : List Int) (v : Int) (h : lo m v ≠ nxt m l) : (BL m (l ++ [v])).L = max (BL m l).L (l.length + 1 - (BL m l).L) := by
  have hd := BL_d hm l v
  have hd0 : (BL m l).d m (lowL m (l ++ [v])) l.length ≠ 0 := fun h2 => h (xor_eq_zero' hm (hd ▸ h2))
  rw [BL_snoc hm]
  unfold bmS
  rw [if_neg hd0]
  split
  · show (BL m l).L = _; omega
  · show l.length + 1 - (BL m l).L = _; omega
theorem ints_snoc (k : IntKind) (l : List Int) (v : Int) : ints k l ++ [.int k v] = ints k (l ++ [v]) := by simp [ints]

theorem walk_LocateGrows (a0 : Int) (A1 : Option Addr) (n1 c1 : Nat) (l1 : List Int) (a2 : Int) (e : Nat → Addr) (w : World) (hs1 : Has (sl 1 A1 n1 (ints .i64 l1)) w) (hn1 : n1 ≤ 9223372036854775807) (hc1 : n1 ≤ c1) (_hf : Er e w 2) (_hz : Er e w 1) (_hl : Er e w 0) : Spec1 Tryd.prog 8 [.int .i64 a0, .slice A1 n1 c1, .int .i64 a2] w (.bool true) := by
  have hm := mkm_ok (k := 7) (by omega) (by omega) a0
  have hla := ints_len hs1
  subst hla
  have h14 := pow_le14 hm
  have hNs := N_succ (mkm 7 a0)
  have hNp := N_pos hm
  have hmh := hm.hi
  refine spec_of Tryd.func8 rfl Tryd.ntmps8 rfl ?_
  refine CW.seq ?_
  refine CW.reg [0] rfl ?_   -- 0, law.go:117
  refine s_as 6 rfl rfl ?_
  refine SX.next ?_
  refine CW.seq ?_
  refine CW.reg [0, 1] rfl ?_   -- 1, law.go:118
  refine s_call1 21 rfl rfl rfl rfl (fun w hw => first8_spec w) (fun _ _ => trivial) ?_
  refine s_as 7 rfl rfl ?_
  refine SX.next ?_
  refine CW.seq ?_
  refine CW.reg [0, 1, 2, 3, 4, 5, 6] rfl ?_   -- 2, law.go:119
  refine s_mv 23 rfl rfl ?_
  refine s_call 24 rfl rfl rfl rfl (fun w hw => made8_spec a0 w) (fun _ _ => trivial) (fun g _ => ?_)
  refine s_mv 22 rfl rfl ?_
  refine s_ext 25 rfl rfl rfl ?_
  refine s_ext 26 rfl rfl rfl ?_
  refine s_as 8 rfl rfl ?_
  refine s_as 9 rfl rfl ?_
  refine SX.next ?_
  refine CW.seq ?_
  refine CW.seq ?_
  refine CW.reg [0, 1, 2, 3, 4, 5, 6, 7, 8, 9, 10] rfl ?_   -- 3, law.go:120
  refine s_mv 27 rfl rfl ?_
  refine s_eqPN 28 rfl rfl ?_
  refine s_mv 29 rfl rfl ?_
  refine s_mv 30 rfl rfl ?_
  refine s_len 31 rfl rfl ?_
  refine s_gt 32 rfl rfl rfl rfl ?_
  refine s_pickF 33 rfl rfl rfl ?_
  refine s_mv 34 rfl rfl ?_
  refine SX.bool 34 rfl (fun hb => ?_) (fun hb => ?_)
  · skip
    skip
    refine SX.skip rfl ?_
    refine SX.skip rfl ?_
    refine s_pickT 37 rfl rfl rfl ?_
    refine SX.next ?_
    refine CW.condT rfl ?_
    refine CW.seq ?_
    refine CW.reg [0, 1, 2, 3, 4, 5] rfl ?_   -- 4, law.go:121
    refine s_mv 38 rfl rfl ?_
    refine s_mv 39 rfl rfl ?_
    refine s_mv 40 rfl rfl ?_
    refine s_nePN 41 rfl rfl ?_
    refine s_pickT 42 rfl rfl rfl ?_
    refine s_as 6 rfl rfl ?_
    refine SX.next ?_
    refine CW.ret ?_
    exact KN.ret (rs := [.tmp 6]) Tryd.results8 rfl (fun w hw => ⟨rfl, hw.nothing⟩)
  · skip
    have hp1 := of_decide_eq_false hb
    have hx1 : l1.length ≤ 40 := by omega
    refine s_mv 35 rfl rfl ?_
    refine s_not 36 rfl rfl ?_
    refine s_pickF 37 rfl rfl rfl ?_
    refine SX.next ?_
    refine CW.condF rfl ?_
    refine CW.skip ?_
    refine KN.code ?_
    refine CW.seq ?_
    obtain ⟨hb1, hb2, hb3⟩ := BL_len hm l1
    have hi : BmI (mkm 7 a0) (lowL (mkm 7 a0) l1) (BL (mkm 7 a0) l1) l1.length := bm_inv hm (lowL_lt (mkm 7 a0) l1) l1.length
    have hnl := nxt_lt hm l1
    have hlt := lowL_lt (mkm 7 a0) l1
    have hg3 := grows_same hm l1 (v := ((nxt (mkm 7 a0) l1 : Nat) : Int)) (lo_nat hnl)
    have hg2 : (BL (mkm 7 a0) (l1 ++ [a2])).L = (BL (mkm 7 a0) l1).L ∨ (BL (mkm 7 a0) (l1 ++ [a2])).L = max (BL (mkm 7 a0) l1).L (l1.length + 1 - (BL (mkm 7 a0) l1).L) := by
      by_cases h : lo (mkm 7 a0) a2 = nxt (mkm 7 a0) l1
      · exact .inl (grows_same hm l1 h).2
      · exact .inr (grows_more hm l1 a2 h)
    refine CW.reg [0, 1, 2, 3, 4, 5, 6, 7] rfl ?_   -- 5, law.go:123
    refine s_mv 44 rfl rfl ?_
    refine s_mv 45 rfl rfl ?_
    refine s_call 46 rfl rfl rfl rfl (fun w hw => locL_spec g (mkm 7 a0) A1 l1.length c1 l1 w hm (hw.has (i := 0) rfl) (hw.old hs1) (by omega) hc1) (fun _ _ => trivial) (fun q46 hq46 => ?_)
    refine s_mv 43 rfl rfl ?_
    refine s_ext 47 rfl rfl rfl ?_
    refine s_ext 48 rfl rfl rfl ?_
    refine s_as 10 rfl rfl ?_
    refine s_as 11 rfl rfl ?_
    refine SX.next ?_
    refine CW.seq ?_
    refine CW.reg [0, 1, 2, 3, 4, 5] rfl ?_   -- 6, law.go:124
    refine s_mv 49 rfl rfl ?_
    refine s_call 50 rfl rfl rfl rfl (fun w hw => rints8_spec A1 l1.length c1 l1 w (hw.old hs1) (by omega)) (fun _ _ => trivial) (fun q50 hq50 => ?_)
    refine s_mv 51 rfl rfl ?_
    refine s_bsl 52 rfl rfl (cells := #[.int .i64 a2]) (by kernel_rfl) rfl (fun _ _ => trivial) (fun gb => ?_)
    refine s_app 53 1 rfl rfl rfl rfl (ys := [.int .i64 a2]) (fun w hw => Has.cong ((hw.has (i := 0) rfl).blk_sl (m := 1) rfl) rfl) rfl rfl (by omega) (by unfold maxLen; omega) (by omega) (fun _ _ _ _ => trivial) (fun A2 c2 hc2 => ?_)
    refine s_as 12 rfl rfl ?_
    refine SX.next ?_
    refine CW.seq ?_
    refine CW.reg [0, 1, 2, 3, 4, 5, 6, 7] rfl ?_   -- 7, law.go:125
    refine s_mv 55 rfl rfl ?_
    refine s_mv 56 rfl rfl ?_
    refine s_call 57 rfl rfl rfl rfl (fun w hw => locL_spec g (mkm 7 a0) A2 (l1.length + 1) c2 (l1 ++ [a2]) w hm (hw.has (i := 3) rfl) (Has.cong ((hw.has (i := 1) rfl).of_own) (ints_snoc _ _ _)) (by omega) (by omega)) (fun _ _ => trivial) (fun q57 hq57 => ?_)
    refine s_mv 54 rfl rfl ?_
    refine s_ext 58 rfl rfl rfl ?_
    refine s_ext 59 rfl rfl rfl ?_
    refine s_as 13 rfl rfl ?_
    refine s_as 14 rfl rfl ?_
    refine SX.next ?_
    refine CW.seq ?_
    refine CW.reg [0, 1, 2, 3, 4, 5, 6, 7] rfl ?_   -- 8, law.go:126
    refine s_mv 61 rfl rfl ?_
    refine s_mv 62 rfl rfl ?_
    refine s_call 63 rfl rfl rfl rfl (fun w hw => locL_spec g (mkm 7 a0) A1 l1.length c1 l1 w hm (hw.has (i := 4) rfl) (hw.old hs1) (by omega) hc1) (fun _ _ => trivial) (fun q63 hq63 => ?_)
    refine s_mv 60 rfl rfl ?_
    refine s_ext 64 rfl rfl rfl ?_
    refine s_ext 65 rfl rfl rfl ?_
    refine s_as 15 rfl rfl ?_
    refine s_as 16 rfl rfl ?_
    refine SX.next ?_
    refine CW.seq ?_
    refine CW.seq ?_
    refine CW.reg [0, 1, 2, 3, 4, 5, 6, 7, 8, 9, 10, 11, 12, 13] rfl ?_   -- 9, law.go:127
    refine s_mv 66 rfl rfl ?_
    refine s_mv 67 rfl rfl ?_
    refine s_lt 68 rfl rfl rfl (decide_eq_false (by omega)) ?_
    refine s_mv 69 rfl rfl ?_
    refine s_mv 70 rfl rfl ?_
    refine s_mv 71 rfl rfl ?_
    refine s_ne 72 rfl rfl rfl (decide_eq_false (fun h => h rfl)) ?_
    refine s_pickF 73 rfl rfl rfl ?_
    refine s_mv 74 rfl rfl ?_
    refine s_mv 75 rfl rfl ?_
    refine s_mv 76 rfl rfl ?_
    refine s_call1 77 rfl rfl rfl rfl (v := .bool true) (fun w hw => by have := sameInts_spec q63.1 q46.1 (BL (mkm 7 a0) l1).c.length q63.2 (BL (mkm 7 a0) l1).c.length q46.2 ((BL (mkm 7 a0) l1).c.map Int.ofNat) ((BL (mkm 7 a0) l1).c.map Int.ofNat) _ (by rw [← nats_ints]; exact (hw.has (i := 0) rfl).of_own) (by rw [← nats_ints]; exact (hw.has (i := 4) rfl).of_own) (by omega); rw [decide_eq_true (rfl)] at this; exact this) (fun _ _ => trivial) ?_
    refine s_not 78 rfl rfl ?_
    refine s_pickF 79 rfl rfl rfl ?_
    refine SX.next ?_
    refine CW.condF rfl ?_
    refine CW.skip ?_
    refine KN.code ?_
    refine CW.seq ?_
    refine CW.reg [0] rfl ?_   -- 11, law.go:131
    refine s_as 17 rfl rfl ?_
    refine SX.next ?_
    refine CW.cut (G := Unit) (fun _ => [(1, .slice A1 l1.length c1), (2, .int .i64 a2), (8, .pointer (some ⟨g, 0, none⟩)), (9, .int .i64 ((mkm 7 a0) : Nat)), (10, .slice q46.1 (BL (mkm 7 a0) l1).c.length q46.2), (11, .int .i64 ((BL (mkm 7 a0) l1).L : Nat)), (14, .int .i64 ((BL (mkm 7 a0) (l1 ++ [a2])).L : Nat)), (17, .int .i64 (nxt (mkm 7 a0) l1 : Nat))]) (fun _ => Sto w [own 3 1 q46.1 (BL (mkm 7 a0) l1).c.length q46.2 (nats .i64 (BL (mkm 7 a0) l1).c), fieldA g (mkm 7 a0)]) (fun _ => True) ?_ ?_
    · skip
      refine CW.seq ?_
      refine CW.reg [0] rfl ?_   -- 12, law.go:132
      refine s_as 18 rfl rfl ?_
      refine SX.next ?_
      refine CW.block ?_
      refine CW.loop (G := Nat) (fun j => [(1, .slice A1 l1.length c1), (2, .int .i64 a2), (8, .pointer (some ⟨g, 0, none⟩)), (9, .int .i64 ((mkm 7 a0) : Nat)), (10, .slice q46.1 (BL (mkm 7 a0) l1).c.length q46.2), (11, .int .i64 ((BL (mkm 7 a0) l1).L : Nat)), (14, .int .i64 ((BL (mkm 7 a0) (l1 ++ [a2])).L : Nat)), (17, .int .i64 (nxP (mkm 7 a0) (BL (mkm 7 a0) l1).c (lowL (mkm 7 a0) l1) l1.length j : Nat)), (18, .int .i64 ((j + 1 : Nat) : Int))]) (fun _ => Sto w [own 3 1 q46.1 (BL (mkm 7 a0) l1).c.length q46.2 (nats .i64 (BL (mkm 7 a0) l1).c), fieldA g (mkm 7 a0)]) (fun j => j ≤ (BL (mkm 7 a0) l1).L) (fun j => (BL (mkm 7 a0) l1).L - j) 0 ⟨rfl, rfl, rfl, rfl, rfl, rfl, rfl, rfl, rfl, trivial⟩ (fun _ h => h.pick [4, 4] rfl) (Nat.zero_le _) ?_
      intro j hj
      have hnj : nxP (mkm 7 a0) (BL (mkm 7 a0) l1).c (lowL (mkm 7 a0) l1) l1.length j < 2 ^ (mkm 7 a0) := xs_lt (fun _ _ => gm_lt hm (hi.tc.c _) _)
      have hgj := gm_lt hm (hi.tc.c (j + 1)) (cf (lowL (mkm 7 a0) l1) (l1.length - (j + 1)))
      refine CW.seq ?_
      refine CW.seq ?_
      refine CW.reg [0, 1, 2, 3, 4, 5, 6, 7, 8] rfl ?_   -- 13, law.go:132
      refine s_mv 80 rfl rfl ?_
      refine s_mv 81 rfl rfl ?_
      refine s_le 82 rfl rfl rfl rfl ?_
      refine s_mv 83 rfl rfl ?_
      refine SX.bool 83 rfl (fun hb => ?_) (fun hb => ?_)
      · skip
        have hjl := of_decide_eq_true hb
        refine s_mv 84 rfl rfl ?_
        refine s_mv 85 rfl rfl ?_
        refine s_len 86 rfl rfl ?_
        refine s_lt 87 rfl rfl rfl rfl ?_
        refine s_pickT 88 rfl rfl rfl ?_
        refine SX.next ?_
        refine CW.test rfl (fun hc => ?_) (fun hc => ?_)
        · skip
          refine CW.skip ?_
          refine KN.code ?_
          refine CW.seq ?_
          refine CW.block ?_
          refine CW.regD (.st true 0 (.st true 1 (.st true 2 (.st true 3 (.st true 4 (.st true 5 (.st true 6 (.st true 7 (.st true 8 (.st true 9 (.st true 10 (.st true 11 (.st true 12 (.st false 13 (.st true 14 (.st true 15 .done)))))))))))))))) (Sto w [own 3 1 q46.1 (BL (mkm 7 a0) l1).c.length q46.2 (nats .i64 (BL (mkm 7 a0) l1).c), fieldA g (mkm 7 a0)]) mixed (by kernel_rfl) (fun _ h => h.drew) (fun _ h => h) ?_
          refine s_mv 91 rfl rfl ?_
          refine s_mv 92 rfl rfl ?_
          refine s_mv 93 rfl rfl ?_
          refine s_mv 94 rfl rfl ?_
          refine s_iaO 95 0 (j + 1) rfl rfl rfl rfl rfl (by omega) ?_
          refine s_ldS 96 rfl rfl (fun _ h => h.ownCell (q := 0) rfl (natsAtC (by omega))) ?_
          refine s_mv 97 rfl rfl ?_
          refine s_mv 98 rfl rfl ?_
          refine s_len 99 rfl rfl ?_
          refine s_mv 100 rfl rfl ?_
          refine s_sub 101 rfl rfl rfl (r := ((l1.length - (j + 1) : Nat) : Int)) (by rw [show ((l1.length : Nat) : Int) - ((j + 1 : Nat) : Int) = ((l1.length - (j + 1) : Nat) : Int) by omega]; exact w64 (by omega)) ?_
          refine s_iaV 102 (l1.length - (j + 1)) (fun w hw => hw.old hs1) rfl rfl rfl rfl (by omega) ?_
          refine s_ldVS 103 (fun w hw => hw.old hs1) rfl rfl (by rw [Nat.mul_one]; exact intsAt (by omega)) (by omega) ?_
          refine s_call1 104 rfl rfl rfl rfl (fun w hw => by have := rmul_spec (mkm 7 a0) (cf (BL (mkm 7 a0) l1).c (j + 1) : Nat) (l1.getD (l1.length - (j + 1)) 0) w hm; rw [lo_nat (hi.tc.c (j + 1)), ← cf_low] at this; exact this) (fun _ h => h) ?_
          refine s_bit 105 rfl rfl rfl rfl (ibit_xor_nat (pow63 hm hnj) (pow63 hm hgj)) ?_
          refine s_as 17 rfl rfl ?_
          refine SX.end_ ?_
          refine KN.blk ?_
          refine KN.code ?_
          refine CW.reg [0, 1, 2] rfl ?_   -- 14, law.go:132
          refine s_mv 89 rfl rfl ?_
          refine s_add 90 rfl rfl rfl (r := ((j + 1 + 1 : Nat) : Int)) (w64 (by omega)) ?_
          refine s_as 18 rfl rfl ?_
          refine SX.end_ ?_
          exact KN.back (j + 1) ⟨rfl, rfl, rfl, rfl, rfl, rfl, rfl, rfl, rfl, trivial⟩ (fun _ h => h) (by omega) (by omega)
        · skip
          have hnx : nxt (mkm 7 a0) l1 = nxP (mkm 7 a0) (BL (mkm 7 a0) l1).c (lowL (mkm 7 a0) l1) l1.length j := by
            have := xs_more (f := fun i => gm (mkm 7 a0) (cf (BL (mkm 7 a0) l1).c (i + 1)) (cf (lowL (mkm 7 a0) l1) (l1.length - (i + 1)))) (n := j) (k := (BL (mkm 7 a0) l1).L - j) (fun i hi2 => by rw [cf_out (by omega), gm_zero_left])
            rw [show j + ((BL (mkm 7 a0) l1).L - j) = (BL (mkm 7 a0) l1).L by omega] at this
            exact this
          refine CW.exit rfl ?_
          exact KN.join () ⟨rfl, rfl, rfl, rfl, rfl, rfl, rfl, by rw [hnx]; rfl, trivial⟩ (fun _ h => h) trivial
      · skip
        have hjl := of_decide_eq_false hb
        have hnx : nxt (mkm 7 a0) l1 = nxP (mkm 7 a0) (BL (mkm 7 a0) l1).c (lowL (mkm 7 a0) l1) l1.length j := by unfold nxt; rw [show (BL (mkm 7 a0) l1).L = j by omega]
        refine SX.skip rfl ?_
        refine SX.skip rfl ?_
        refine SX.skip rfl ?_
        refine SX.skip rfl ?_
        refine s_pickF 88 rfl rfl rfl ?_
        refine SX.next ?_
        refine CW.condF rfl ?_
        refine CW.exit rfl ?_
        exact KN.join () ⟨rfl, rfl, rfl, rfl, rfl, rfl, rfl, by rw [hnx]; rfl, trivial⟩ (fun _ h => h) trivial
    · skip
      intro _ _
      refine CW.seq ?_
      refine CW.reg [0, 1, 2, 3, 4, 5, 6, 7, 8, 9, 10, 11] rfl ?_   -- 16, law.go:135
      refine s_mv 107 rfl rfl ?_
      refine s_mv 108 rfl rfl ?_
      refine s_call 109 rfl rfl rfl rfl (fun w hw => rints8_spec A1 l1.length c1 l1 w (hw.old hs1) (by omega)) (fun _ _ => trivial) (fun q109 hq109 => ?_)
      refine s_mv 110 rfl rfl ?_
      refine s_bsl 111 rfl rfl (cells := #[.int .i64 (nxt (mkm 7 a0) l1 : Nat)]) (by kernel_rfl) rfl (fun _ _ => trivial) (fun gb => ?_)
      refine s_app 112 1 rfl rfl rfl rfl (ys := [.int .i64 (nxt (mkm 7 a0) l1 : Nat)]) (fun w hw => Has.cong ((hw.has (i := 0) rfl).blk_sl (m := 1) rfl) rfl) rfl rfl (by omega) (by unfold maxLen; omega) (by omega) (fun _ _ _ _ => trivial) (fun A2 c2 hc2 => ?_)
      refine s_call 113 rfl rfl rfl rfl (fun w hw => locL_spec g (mkm 7 a0) A2 (l1.length + 1) c2 (l1 ++ [((nxt (mkm 7 a0) l1 : Nat) : Int)]) w hm (hw.has (i := 3) rfl) (Has.cong ((hw.has (i := 1) rfl).of_own) (ints_snoc _ _ _)) (by omega) (by omega)) (fun _ _ => trivial) (fun q113 hq113 => ?_)
      refine s_mv 106 rfl rfl ?_
      refine s_ext 114 rfl rfl rfl ?_
      refine s_ext 115 rfl rfl rfl ?_
      refine s_as 19 rfl rfl ?_
      refine s_as 20 rfl rfl ?_
      refine SX.next ?_
      refine CW.seq ?_
      refine CW.seq ?_
      have hc3 : (BL (mkm 7 a0) (l1 ++ [((nxt (mkm 7 a0) l1 : Nat) : Int)])).c.length < 2 ^ 62 := by rw [hg3.1]; omega
      refine CW.reg [0, 1, 2, 3, 4, 5, 6, 7, 8] rfl ?_   -- 17, law.go:136
      refine s_mv 116 rfl rfl ?_
      refine s_mv 117 rfl rfl ?_
      refine s_ne 118 rfl rfl rfl (decide_eq_false (by rw [hg3.2]; exact fun h => h rfl)) ?_
      refine s_mv 119 rfl rfl ?_
      refine s_mv 120 rfl rfl ?_
      refine s_mv 121 rfl rfl ?_
      refine s_call1 122 rfl rfl rfl rfl (v := .bool true) (fun w hw => by have := sameInts_spec q113.1 q46.1 (BL (mkm 7 a0) (l1 ++ [((nxt (mkm 7 a0) l1 : Nat) : Int)])).c.length q113.2 (BL (mkm 7 a0) l1).c.length q46.2 ((BL (mkm 7 a0) (l1 ++ [((nxt (mkm 7 a0) l1 : Nat) : Int)])).c.map Int.ofNat) ((BL (mkm 7 a0) l1).c.map Int.ofNat) _ (by rw [← nats_ints]; exact (hw.has (i := 0) rfl).of_own) (by rw [← nats_ints]; exact (hw.has (i := 3) rfl).of_own) (by omega); rw [decide_eq_true (by rw [hg3.1])] at this; exact this) (fun _ _ => trivial) ?_
      refine s_not 123 rfl rfl ?_
      refine s_pickF 124 rfl rfl rfl ?_
      refine SX.next ?_
      refine CW.condF rfl ?_
      refine CW.skip ?_
      refine KN.code ?_
      refine CW.seq ?_
      refine CW.reg [0, 1, 2, 3, 4, 5, 6, 7, 8, 9, 10, 11, 12, 13, 14, 15, 16] rfl ?_   -- 19, law.go:139
      refine s_mv 125 rfl rfl ?_
      refine s_mv 126 rfl rfl ?_
      refine s_call1 127 rfl rfl rfl rfl (fun w hw => rlow_spec _ _ _ hm) (fun _ _ => trivial) ?_
      refine s_mv 128 rfl rfl ?_
      refine s_eq 129 rfl rfl rfl rfl ?_
      refine s_mv 130 rfl rfl ?_
      refine SX.bool 130 rfl (fun hb => ?_) (fun hb => ?_)
      · skip
        skip
        refine SX.skip rfl ?_
        refine SX.skip rfl ?_
        refine SX.skip rfl ?_
        refine SX.skip rfl ?_
        refine SX.skip rfl ?_
        refine SX.skip rfl ?_
        refine SX.skip rfl ?_
        refine SX.skip rfl ?_
        refine SX.skip rfl ?_
        refine s_pickT 140 rfl rfl rfl ?_
        refine s_as 6 rfl rfl ?_
        refine SX.next ?_
        refine CW.ret ?_
        exact KN.ret (rs := [.tmp 6]) Tryd.results8 rfl (fun w hw => ⟨rfl, hw.nothing⟩)
      · skip
        have hd := of_decide_eq_false hb
        have hgm := grows_more hm l1 a2 (fun h => hd (by rw [h]))
        refine s_mv 131 rfl rfl ?_
        refine s_mv 132 rfl rfl ?_
        refine s_mv 133 rfl rfl ?_
        refine s_len 134 rfl rfl ?_
        refine s_add 135 rfl rfl rfl (r := ((l1.length + 1 : Nat) : Int)) (w64 (by omega)) ?_
        refine s_mv 136 rfl rfl ?_
        refine s_sub 137 rfl rfl rfl (r := ((l1.length + 1 - (BL (mkm 7 a0) l1).L : Nat) : Int)) (by rw [show ((l1.length + 1 : Nat) : Int) - ((BL (mkm 7 a0) l1).L : Nat) = ((l1.length + 1 - (BL (mkm 7 a0) l1).L : Nat) : Int) by omega]; exact w64 (by omega)) ?_
        refine s_max 138 rfl rfl rfl (r := ((max (BL (mkm 7 a0) l1).L (l1.length + 1 - (BL (mkm 7 a0) l1).L) : Nat) : Int)) (by split <;> omega) ?_
        refine s_eq 139 rfl rfl rfl (decide_eq_true (by rw [hgm])) ?_
        refine s_pickF 140 rfl rfl rfl ?_
        refine s_as 6 rfl rfl ?_
        refine SX.next ?_
        refine CW.ret ?_
        exact KN.ret (rs := [.tmp 6]) Tryd.results8 rfl (fun w hw => ⟨rfl, hw.nothing⟩)
