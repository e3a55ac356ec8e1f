/- The statement BinDivides, walked. No condition but the errors' variables. -/
import Derived.Test.YtppolffghjeifaaDoorBin13
import Derived.Test.YtppolffghjeifaaDoorBin12
namespace Go.Proofs.YtppolffghjeifaaDoor
open Go Go.Lib Go.Sx Go.Fm
set_option maxRecDepth 100000
/-- The polynomial of a number. -/
def nb (x : Nat) : List Nat := pl (blen x) (fun j => (x >>> j) % 2)
theorem cf_nb (x j : Nat) : cf (nb x) j = (x >>> j) % 2 := by
  unfold nb
  rw [cf_pl]
  split
  · rfl
  · rw [Nat.shiftRight_eq_div_pow, Nat.div_eq_of_lt (Nat.lt_of_lt_of_le (blen_lt x) (Nat.pow_le_pow_right (by omega) (by omega)))]
theorem nb_b1 (x : Nat) : B1 (nb x) := ⟨pl_tr (fun j => Nat.lt_trans (Nat.mod_lt _ (by omega)) (show 2 < 2 ^ 3 by decide)), fun j => by rw [cf_nb]; exact Nat.mod_lt _ (by omega)⟩
theorem nb_len (x : Nat) : (nb x).length = blen x := by
  have h1 : (nb x).length ≤ blen x := pl_le _ _
  refine Nat.le_antisymm h1 (Nat.le_of_not_lt fun hlt => ?_)
  have h0 : x ≠ 0 := fun h => by subst h; exact absurd hlt (by show ¬ _ < 0; omega)
  have h2 := cf_nb x (blen x - 1)
  rw [cf_out (by omega), shr_two, blen_top h0] at h2
  cases h2
theorem nb_xor (x y : Nat) : nb (x ^^^ y) = addP (nb x) (nb y) := (nb_b1 _).tr.ext (addP_b1 (nb_b1 x) (nb_b1 y)).tr (fun j => by rw [cf_nb, cf_addP, cf_nb, cf_nb]; exact shr_xor _ _ _)
theorem nb_shl (x k : Nat) : nb (x * 2 ^ k) = upP k (nb x) := (nb_b1 _).tr.ext (upP_b1 (nb_b1 x) k).tr (fun j => by
  rw [cf_nb, cf_upP, shr_two, Nat.mul_comm, Nat.testBit_two_pow_mul]
  split
  · rename_i h
    rw [cf_nb, shr_two, decide_eq_true h, Bool.true_and]
  · rename_i h
    rw [decide_eq_false h]
    rfl)
theorem rmF_dvd {q : Nat} (hq : q ≠ 0) : ∀ {k r : Nat}, blen r < k → Dvd 3 (nb q) (nb r) → rmF q k r = 0
  | 0, _, h, _ => by omega
  | k + 1, r, h, hd => by
    unfold rmF
    split
    · rename_i hle
      refine rmF_dvd hq (by have := step_blen hq hle; omega) ?_
      rw [nb_xor, nb_shl]
      refine dvd_add ok3 (nb_b1 q).tr hd ?_
      rw [← mul_xP (nb_b1 q), mulP_comm ok3 (nb_b1 q).tr (xP_b1 _).tr]
      exact ⟨_, (xP_b1 _).tr, rfl⟩
    · rename_i hlt
      obtain ⟨c, hc, hcr⟩ := hd
      refine Classical.byContradiction fun hr => ?_
      have hbr := blen_pos hr
      have hbq := blen_pos hq
      have l1 := nb_len r
      have l2 := nb_len q
      have hc0 : c.length ≠ 0 := fun h0 => by
        rw [List.eq_nil_of_length_eq_zero h0, mulP_nil_l] at hcr
        rw [← hcr] at l1
        simp at l1
        omega
      have := mulP_len ok3 hc (nb_b1 q).tr hc0 (by omega)
      rw [hcr] at this
      omega
theorem fold_test (l : List Nat) (j : Nat) : ∀ z : Nat, (l.foldl (fun z e => z ||| 2 ^ e) z).testBit j = (z.testBit j || decide (j ∈ l)) := by
  induction l with
  | nil => intro z; simp
  | cons e l ih =>
    intro z
    rw [List.foldl_cons, ih, Nat.testBit_or, Nat.testBit_two_pow, Bool.or_assoc]
    congr 1
    by_cases h1 : e = j
    · subst h1; simp
    · by_cases h2 : j ∈ l
      · simp [h2]
      · simp [h2, h1, Ne.symm h1]
theorem nb_vP {a : List Nat} (ha : B1 a) : nb (vP (exL a)) = a := (nb_b1 _).tr.ext ha.tr (fun j => by
  rw [cf_nb, shr_two]
  unfold vP
  rw [fold_test, ← mm_exL ha]
  unfold mm
  by_cases h : j ∈ exL a
  · simp [h]
  · simp [h])
theorem irr_mul {f g : List Nat} (hf : B1 f) (hg : B1 g) (h1 : 2 ≤ f.length) (h2 : f.length ≤ g.length) : irrP (mulP 3 f g) = false := by
  have hl := mulP_len ok3 hf.tr hg.tr (by omega) (by omega)
  by_cases h3 : (mulP 3 f g).length ≤ 33
  · have e1 := nb_vP hf
    have e2 := nb_len (vP (exL f))
    rw [e1] at e2
    have h4 := blen_lt (vP (exL f))
    refine irrP_false (q := vP (exL f)) (Nat.lt_of_lt_of_le h4 (Nat.pow_le_pow_right (by omega) (by omega))) ?_ ?_
    · refine Nat.le_of_not_lt fun h => ?_
      have := blen_le (x := vP (exL f)) (k := 1) (by omega)
      omega
    · unfold rm
      refine rmF_dvd (fun h => ?_) (Nat.lt_succ_self _) ?_
      · rw [h] at e2
        have : blen 0 = 0 := rfl
        omega
      · rw [e1, nb_vP (mulP_b1 hf hg), mulP_comm ok3 hf.tr hg.tr]
        exact ⟨g, hg.tr, rfl⟩
  · exact irrP_none (by omega)
theorem irr_mul2 {f g : List Nat} (hf : B1 f) (hg : B1 g) (h1 : 2 ≤ f.length) (h2 : 2 ≤ g.length) : irrP (mulP 3 f g) = false := by
  rcases Nat.le_total f.length g.length with h | h
  · exact irr_mul hf hg h1 h
  · rw [mulP_comm ok3 hf.tr hg.tr]
    exact irr_mul hg hf h2 h

theorem walk_BinDivides (A0 : Option Addr) (n0 c0 : Nat) (p0 : List Nat) (A1 : Option Addr) (n1 c1 : Nat) (p1 : List Nat) (A2 : Option Addr) (n2 c2 : Nat) (p2 : List Nat) (e : Nat → Addr) (w : World) (ha0 : Has (sl 1 A0 n0 (nats .u8 p0)) w) (hp0 : ∀ x ∈ p0, x < 256) (hn0 : n0 ≤ 9223372036854775807) (hcp0 : n0 ≤ c0) (ha1 : Has (sl 1 A1 n1 (nats .u8 p1)) w) (hp1 : ∀ x ∈ p1, x < 256) (hn1 : n1 ≤ 9223372036854775807) (hcp1 : n1 ≤ c1) (ha2 : Has (sl 1 A2 n2 (nats .u8 p2)) w) (hp2 : ∀ x ∈ p2, x < 256) (hn2 : n2 ≤ 9223372036854775807) (hcp2 : n2 ≤ c2) (hz : Er e w 1) (hnu : Er e w 0) : Spec1 Tryd.prog 6 [.slice A0 n0 c0, .slice A1 n1 c1, .slice A2 n2 c2] w (.bool true) := by
  have hla0 := nats_len ha0
  subst hla0
  have hla1 := nats_len ha1
  subst hla1
  have hla2 := nats_len ha2
  subst hla2
  refine spec_of Tryd.func6 rfl Tryd.ntmps6 rfl ?_
  refine CW.seq ?_
  refine CW.reg [0] rfl ?_   -- 0, law.go:112
  refine s_as 6 rfl rfl ?_
  refine SX.next ?_
  refine CW.seq ?_
  refine CW.reg [0, 1] rfl ?_   -- 1, law.go:113
  refine s_call1 21 rfl rfl rfl rfl (fun w hw => first3_spec e w (hw.er hnu)) (fun _ _ => trivial) ?_
  refine s_as 7 rfl rfl ?_
  refine SX.next ?_
  refine CW.seq ?_
  refine CW.seq ?_
  refine CW.reg [0, 1, 2, 3, 4, 5, 6, 7, 8, 9, 10, 11, 12, 13, 14, 15, 16] rfl ?_   -- 2, law.go:114
  refine s_mv 22 rfl rfl ?_
  refine s_len 23 rfl rfl ?_
  refine s_gt 24 rfl rfl rfl rfl ?_
  refine s_mv 25 rfl rfl ?_
  refine SX.bool 25 rfl (fun hb => ?_) (fun hb => ?_)
  · skip
    skip
    refine SX.skip rfl ?_
    refine SX.skip rfl ?_
    refine SX.skip rfl ?_
    refine s_pickT 29 rfl rfl rfl ?_
    refine s_mv 30 rfl rfl ?_
    refine SX.skip rfl ?_
    refine SX.skip rfl ?_
    refine SX.skip rfl ?_
    refine s_pickT 34 rfl rfl rfl ?_
    refine s_mv 35 rfl rfl ?_
    refine SX.skip rfl ?_
    refine SX.skip rfl ?_
    refine s_pickT 38 rfl rfl rfl ?_
    refine SX.next ?_
    refine CW.condT rfl ?_
    refine CW.seq ?_
    refine CW.reg [0, 1] rfl ?_   -- 3, law.go:115
    refine s_mv 39 rfl rfl ?_
    refine s_as 6 rfl rfl ?_
    refine SX.next ?_
    refine CW.ret ?_
    exact KN.ret (rs := [.tmp 6]) Tryd.results6 rfl (fun w hw => ⟨rfl, hw.nothing⟩)
  · skip
    have hl1 := of_decide_eq_false hb
    refine s_mv 26 rfl rfl ?_
    refine s_len 27 rfl rfl ?_
    refine s_gt 28 rfl rfl rfl rfl ?_
    refine s_pickF 29 rfl rfl rfl ?_
    refine s_mv 30 rfl rfl ?_
    refine SX.bool 30 rfl (fun hb => ?_) (fun hb => ?_)
    · skip
      skip
      refine SX.skip rfl ?_
      refine SX.skip rfl ?_
      refine SX.skip rfl ?_
      refine s_pickT 34 rfl rfl rfl ?_
      refine s_mv 35 rfl rfl ?_
      refine SX.skip rfl ?_
      refine SX.skip rfl ?_
      refine s_pickT 38 rfl rfl rfl ?_
      refine SX.next ?_
      refine CW.condT rfl ?_
      refine CW.seq ?_
      refine CW.reg [0, 1] rfl ?_   -- 3, law.go:115
      refine s_mv 39 rfl rfl ?_
      refine s_as 6 rfl rfl ?_
      refine SX.next ?_
      refine CW.ret ?_
      exact KN.ret (rs := [.tmp 6]) Tryd.results6 rfl (fun w hw => ⟨rfl, hw.nothing⟩)
    · skip
      have hl2 := of_decide_eq_false hb
      refine s_mv 31 rfl rfl ?_
      refine s_len 32 rfl rfl ?_
      refine s_gt 33 rfl rfl rfl rfl ?_
      refine s_pickF 34 rfl rfl rfl ?_
      refine s_mv 35 rfl rfl ?_
      refine SX.bool 35 rfl (fun hb => ?_) (fun hb => ?_)
      · skip
        skip
        refine SX.skip rfl ?_
        refine SX.skip rfl ?_
        refine s_pickT 38 rfl rfl rfl ?_
        refine SX.next ?_
        refine CW.condT rfl ?_
        refine CW.seq ?_
        refine CW.reg [0, 1] rfl ?_   -- 3, law.go:115
        refine s_mv 39 rfl rfl ?_
        refine s_as 6 rfl rfl ?_
        refine SX.next ?_
        refine CW.ret ?_
        exact KN.ret (rs := [.tmp 6]) Tryd.results6 rfl (fun w hw => ⟨rfl, hw.nothing⟩)
      · skip
        have hlen := of_decide_eq_false hb
        have h140 : p0.length ≤ 3 := by omega
        have h240 : p1.length ≤ 3 := by omega
        have h340 : p2.length ≤ 3 := by omega
        have l1 := bl_len p0
        have l2 := bl_len p1
        have l3 := bl_len p2
        have hA := bl_b1 p0
        have hB := bl_b1 p1
        have hC := bl_b1 p2
        refine s_mv 36 rfl rfl ?_
        refine s_not 37 rfl rfl ?_
        refine s_pickF 38 rfl rfl rfl ?_
        refine SX.next ?_
        refine CW.condF rfl ?_
        refine CW.skip ?_
        refine KN.code ?_
        refine CW.seq ?_
        refine CW.reg [0, 1] rfl ?_   -- 4, law.go:117
        refine s_mv 40 rfl rfl ?_
        refine s_as 8 rfl rfl ?_
        refine SX.next ?_
        refine CW.seq ?_
        refine CW.reg [0, 1] rfl ?_   -- 5, law.go:118
        refine s_mv 41 rfl rfl ?_
        refine s_as 9 rfl rfl ?_
        refine SX.next ?_
        refine CW.seq ?_
        refine CW.reg [0, 1] rfl ?_   -- 6, law.go:119
        refine s_mv 42 rfl rfl ?_
        refine s_as 10 rfl rfl ?_
        refine SX.next ?_
        refine CW.seq ?_
        refine CW.seq ?_
        refine CW.reg [0, 1, 2, 3, 4, 5, 6, 7, 8, 9, 10, 11, 12] rfl ?_   -- 7, law.go:120
        refine s_mv 43 rfl rfl ?_
        refine s_call1 44 rfl rfl rfl rfl (v := .int .i64 (((bl p2).length : Nat) - 1 : Int)) (fun w hw => by have := bdeg_spec A2 p2.length c2 p2 w (hw.old ha2) hp2 (by omega) hcp2; exact this) (fun _ _ => trivial) ?_
        refine s_lt 45 rfl rfl rfl rfl ?_
        refine s_mv 46 rfl rfl ?_
        refine SX.bool 46 rfl (fun hb => ?_) (fun hb => ?_)
        · skip
          skip
          refine SX.skip rfl ?_
          refine SX.skip rfl ?_
          refine SX.skip rfl ?_
          refine s_pickT 50 rfl rfl rfl ?_
          refine s_mv 51 rfl rfl ?_
          refine SX.skip rfl ?_
          refine SX.skip rfl ?_
          refine SX.skip rfl ?_
          refine s_pickT 55 rfl rfl rfl ?_
          refine SX.next ?_
          refine CW.condT rfl ?_
          refine CW.seq ?_
          refine CW.reg [0] rfl ?_   -- 8, law.go:121
          refine s_as 6 rfl rfl ?_
          refine SX.next ?_
          refine CW.ret ?_
          exact KN.ret (rs := [.tmp 6]) Tryd.results6 rfl (fun w hw => ⟨rfl, hw.nothing⟩)
        · skip
          have hd1 := of_decide_eq_false hb
          refine s_mv 47 rfl rfl ?_
          refine s_call1 48 rfl rfl rfl rfl (v := .int .i64 (((bl p0).length : Nat) - 1 : Int)) (fun w hw => by have := bdeg_spec A0 p0.length c0 p0 w (hw.old ha0) hp0 (by omega) hcp0; exact this) (fun _ _ => trivial) ?_
          refine s_lt 49 rfl rfl rfl rfl ?_
          refine s_pickF 50 rfl rfl rfl ?_
          refine s_mv 51 rfl rfl ?_
          refine SX.bool 51 rfl (fun hb => ?_) (fun hb => ?_)
          · skip
            skip
            refine SX.skip rfl ?_
            refine SX.skip rfl ?_
            refine SX.skip rfl ?_
            refine s_pickT 55 rfl rfl rfl ?_
            refine SX.next ?_
            refine CW.condT rfl ?_
            refine CW.seq ?_
            refine CW.reg [0] rfl ?_   -- 8, law.go:121
            refine s_as 6 rfl rfl ?_
            refine SX.next ?_
            refine CW.ret ?_
            exact KN.ret (rs := [.tmp 6]) Tryd.results6 rfl (fun w hw => ⟨rfl, hw.nothing⟩)
          · skip
            have hd2 := of_decide_eq_false hb
            refine s_mv 52 rfl rfl ?_
            refine s_call1 53 rfl rfl rfl rfl (v := .int .i64 (((bl p1).length : Nat) - 1 : Int)) (fun w hw => by have := bdeg_spec A1 p1.length c1 p1 w (hw.old ha1) hp1 (by omega) hcp1; exact this) (fun _ _ => trivial) ?_
            refine s_lt 54 rfl rfl rfl rfl ?_
            refine s_pickF 55 rfl rfl rfl ?_
            refine SX.next ?_
            refine CW.test rfl (fun hc => ?_) (fun hc => ?_)
            · skip
              refine CW.seq ?_
              refine CW.reg [0] rfl ?_   -- 8, law.go:121
              refine s_as 6 rfl rfl ?_
              refine SX.next ?_
              refine CW.ret ?_
              exact KN.ret (rs := [.tmp 6]) Tryd.results6 rfl (fun w hw => ⟨rfl, hw.nothing⟩)
            · skip
              refine CW.skip ?_
              refine KN.code ?_
              refine CW.seq ?_
              have hAC := mulP_b1 hA hC
              have hBC := mulP_b1 hB hC
              have hAB := mulP_b1 hA hB
              have hG0 := gcdE_b1 hA hB
              have hGG := mulP_b1 hG0 hC
              have hQG := quotP_b1 hGG hC (by omega)
              have m1 := mulP_le3 (bl p0) (bl p2)
              have m2 := mulP_le3 (bl p1) (bl p2)
              have m3 := mulP_le3 (bl p0) (bl p1)
              have m4 : (gcdE 3 (bl p0) (bl p1)).length ≤ max (bl p0).length (bl p1).length := gcdP_le3 _ _ _
              have m5 := mulP_le3 (gcdE 3 (bl p0) (bl p1)) (bl p2)
              have y1 := bys_len (mulP 3 (bl p0) (bl p2))
              have y2 := bys_len (mulP 3 (bl p1) (bl p2))
              have y3 := bys_len (mulP 3 (bl p0) (bl p1))
              have y4 := bys_len (mulP 3 (gcdE 3 (bl p0) (bl p1)) (bl p2))
              have yn : (bys []).length = 0 := by rw [bys_nil]; rfl
              have eg := gcdE_mul ok3 hA.tr hB.tr hC.tr (show (bl p2).length ≠ 0 by omega)
              have er := rest_of_dvd ok3 hGG.tr hC.tr (by omega) ⟨(gcdE 3 (bl p0) (bl p1)), hG0.tr, rfl⟩
              refine CW.reg [0, 1, 2, 3, 4, 5, 6, 7] rfl ?_   -- 9, law.go:123
              refine s_mv 57 rfl rfl ?_
              refine s_mv 58 rfl rfl ?_
              refine s_call 59 rfl rfl rfl rfl (fun w hw => by have := bmul_spec A0 p0.length c0 p0 A2 p2.length c2 p2 w (hw.old ha0) hp0 (by omega) hcp0 (hw.old ha2) hp2 (by omega) hcp2 (by omega); exact this) (fun _ _ => trivial) (fun q59 hq59 => ?_)
              refine s_mv 56 rfl rfl ?_
              refine s_ext 60 rfl rfl rfl ?_
              refine s_ext 61 rfl rfl rfl ?_
              refine s_as 11 rfl rfl ?_
              refine s_as 12 rfl rfl ?_
              refine SX.next ?_
              refine CW.seq ?_
              refine CW.reg [0, 1, 2, 3, 4, 5, 6, 7] rfl ?_   -- 10, law.go:124
              refine s_mv 63 rfl rfl ?_
              refine s_mv 64 rfl rfl ?_
              refine s_call 65 rfl rfl rfl rfl (fun w hw => by have := bmul_spec A1 p1.length c1 p1 A2 p2.length c2 p2 w (hw.old ha1) hp1 (by omega) hcp1 (hw.old ha2) hp2 (by omega) hcp2 (by omega); exact this) (fun _ _ => trivial) (fun q65 hq65 => ?_)
              refine s_mv 62 rfl rfl ?_
              refine s_ext 66 rfl rfl rfl ?_
              refine s_ext 67 rfl rfl rfl ?_
              refine s_as 13 rfl rfl ?_
              refine s_as 14 rfl rfl ?_
              refine SX.next ?_
              refine CW.seq ?_
              refine CW.reg [0, 1, 2, 3] rfl ?_   -- 11, law.go:125
              refine s_mv 68 rfl rfl ?_
              refine s_mv 69 rfl rfl ?_
              refine s_call 70 rfl rfl rfl rfl (fun w hw => by have := bgcd_spec q59.1 (bys (mulP 3 (bl p0) (bl p2))).length q59.2 (bys (mulP 3 (bl p0) (bl p2))) q65.1 (bys (mulP 3 (bl p1) (bl p2))).length q65.2 (bys (mulP 3 (bl p1) (bl p2))) w ((hw.has (i := 1) rfl).of_own) (bys_lt hAC) (by omega) hq59 ((hw.has (i := 0) rfl).of_own) (bys_lt hBC) (by omega) hq65 (by omega) (by omega); rw [bl_bys hAC, bl_bys hBC, eg] at this; exact this) (fun _ _ => trivial) (fun q70 hq70 => ?_)
              refine s_as 15 rfl rfl ?_
              refine SX.next ?_
              refine CW.seq ?_
              refine CW.reg [0, 1, 2, 3, 4, 5, 6, 7, 8, 9] rfl ?_   -- 12, law.go:126
              refine s_mv 72 rfl rfl ?_
              refine s_mv 73 rfl rfl ?_
              refine s_call 74 rfl rfl rfl rfl (fun w hw => by have := bdiv_spec q70.1 (bys (mulP 3 (gcdE 3 (bl p0) (bl p1)) (bl p2))).length q70.2 (bys (mulP 3 (gcdE 3 (bl p0) (bl p1)) (bl p2))) A2 p2.length c2 p2 w ((hw.has (i := 0) rfl).of_own) (bys_lt hGG) (by omega) hq70 (hw.old ha2) hp2 (by omega) hcp2 (by omega) (by omega); rw [bl_bys hGG, er] at this; exact this) (fun _ _ => trivial) (fun q74 hq74 => ?_)
              refine s_mv 71 rfl rfl ?_
              refine s_ext 75 rfl rfl rfl ?_
              refine s_ext 76 rfl rfl rfl ?_
              refine s_ext 77 rfl rfl rfl ?_
              refine s_as 16 rfl rfl ?_
              refine s_as 17 rfl rfl ?_
              refine s_as 18 rfl rfl ?_
              refine SX.next ?_
              refine CW.seq ?_
              refine CW.reg [0, 1, 2, 3, 4, 5, 6, 7] rfl ?_   -- 13, law.go:127
              refine s_mv 79 rfl rfl ?_
              refine s_mv 80 rfl rfl ?_
              refine s_call 81 rfl rfl rfl rfl (fun w hw => by have := bmul_spec A0 p0.length c0 p0 A1 p1.length c1 p1 w (hw.old ha0) hp0 (by omega) hcp0 (hw.old ha1) hp1 (by omega) hcp1 (by omega); exact this) (fun _ _ => trivial) (fun q81 hq81 => ?_)
              refine s_mv 78 rfl rfl ?_
              refine s_ext 82 rfl rfl rfl ?_
              refine s_ext 83 rfl rfl rfl ?_
              refine s_as 19 rfl rfl ?_
              refine s_as 20 rfl rfl ?_
              refine SX.next ?_
              refine CW.seq ?_
              refine CW.reg [0, 1, 2, 3, 4, 5, 6, 7, 8, 9, 10, 11, 12, 13, 14, 15, 16, 17, 18, 19, 20, 21, 22] rfl ?_   -- 14, law.go:128
              refine s_mv 84 rfl rfl ?_
              refine s_eqNN 85 rfl rfl ?_
              refine s_mv 86 rfl rfl ?_
              refine s_mv 87 rfl rfl ?_
              refine s_call1 88 rfl rfl rfl rfl (v := .int .i64 (-1)) (fun w hw => by have := bdeg_spec q74.2.1 (bys []).length q74.2.2 (bys []) w ((hw.has (i := 1) rfl).of_own) (bys_lt nil_b1) (by omega) hq74.2; rw [bl_bys nil_b1] at this; exact this) (fun _ _ => trivial) ?_
              refine s_eq 89 rfl rfl rfl (decide_eq_true rfl) ?_
              refine s_pickT 90 rfl rfl rfl ?_
              refine s_mv 91 rfl rfl ?_
              refine s_mv 92 rfl rfl ?_
              refine s_call1 93 rfl rfl rfl rfl (v := .int .i64 (((bl p0).length : Nat) - 1 : Int)) (fun w hw => by have := bdeg_spec A0 p0.length c0 p0 w (hw.old ha0) hp0 (by omega) hcp0; exact this) (fun _ _ => trivial) ?_
              refine s_lt 94 rfl rfl rfl rfl ?_
              refine s_mv 95 rfl rfl ?_
              refine SX.bool 95 rfl (fun hb => ?_) (fun hb => ?_)
              · skip
                skip
                refine SX.skip rfl ?_
                refine SX.skip rfl ?_
                refine SX.skip rfl ?_
                refine s_pickT 99 rfl rfl rfl ?_
                refine s_mv 100 rfl rfl ?_
                refine SX.skip rfl ?_
                refine SX.skip rfl ?_
                refine SX.skip rfl ?_
                refine s_pickT 104 rfl rfl rfl ?_
                refine s_pickT 105 rfl rfl rfl ?_
                refine s_as 6 rfl rfl ?_
                refine SX.next ?_
                refine CW.ret ?_
                exact KN.ret (rs := [.tmp 6]) Tryd.results6 rfl (fun w hw => ⟨rfl, hw.nothing⟩)
              · skip
                have hda := of_decide_eq_false hb
                refine s_mv 96 rfl rfl ?_
                refine s_call1 97 rfl rfl rfl rfl (v := .int .i64 (((bl p1).length : Nat) - 1 : Int)) (fun w hw => by have := bdeg_spec A1 p1.length c1 p1 w (hw.old ha1) hp1 (by omega) hcp1; exact this) (fun _ _ => trivial) ?_
                refine s_lt 98 rfl rfl rfl rfl ?_
                refine s_pickF 99 rfl rfl rfl ?_
                refine s_mv 100 rfl rfl ?_
                refine SX.bool 100 rfl (fun hb => ?_) (fun hb => ?_)
                · skip
                  skip
                  refine SX.skip rfl ?_
                  refine SX.skip rfl ?_
                  refine SX.skip rfl ?_
                  refine s_pickT 104 rfl rfl rfl ?_
                  refine s_pickT 105 rfl rfl rfl ?_
                  refine s_as 6 rfl rfl ?_
                  refine SX.next ?_
                  refine CW.ret ?_
                  exact KN.ret (rs := [.tmp 6]) Tryd.results6 rfl (fun w hw => ⟨rfl, hw.nothing⟩)
                · skip
                  have hdb := of_decide_eq_false hb
                  have hirr := irr_mul2 hA hB (by omega) (by omega)
                  refine s_mv 101 rfl rfl ?_
                  refine s_call1 102 rfl rfl rfl rfl (v := .bool false) (fun w hw => by have := birr_spec q81.1 (bys (mulP 3 (bl p0) (bl p1))).length q81.2 (bys (mulP 3 (bl p0) (bl p1))) w ((hw.has (i := 0) rfl).of_own) (bys_lt hAB) (by omega) hq81; rw [bl_bys hAB, hirr] at this; exact this) (fun _ _ => trivial) ?_
                  refine s_not 103 rfl rfl ?_
                  refine s_pickF 104 rfl rfl rfl ?_
                  refine s_pickT 105 rfl rfl rfl ?_
                  refine s_as 6 rfl rfl ?_
                  refine SX.next ?_
                  refine CW.ret ?_
                  exact KN.ret (rs := [.tmp 6]) Tryd.results6 rfl (fun w hw => ⟨rfl, hw.nothing⟩)
