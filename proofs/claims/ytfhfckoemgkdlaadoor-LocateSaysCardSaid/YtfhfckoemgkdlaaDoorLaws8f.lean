/- The statement LocateSays, walked. No condition but the errors' variables. -/
import Derived.Test.YtfhfckoemgkdlaaDoorLaws8e
import Derived.Test.YtfhfckoemgkdlaaDoorRefs8
namespace Go.Proofs.YtfhfckoemgkdlaaDoor
open Go Go.Sx Go.Fm
set_option maxRecDepth 100000
theorem mul_1c {m : Nat} (hm : Ok m) {p : List Nat} (hp : Tr m p) {c : Nat} (hc : c < 2 ^ m) (h0 : c ≠ 0) : mulP m p [1, c] = ofS m p c := by
  have h1 : Tr m [1, c] := ⟨fun x hx => by
    rcases List.mem_cons.1 hx with rfl | hx
    · exact one_lt hm
    · rw [List.mem_singleton.1 hx]; exact hc, trim_of (by show (if tl [c] = 0 then _ else _) = 2 <;> simp [tl, h0])⟩
  refine (mulP_tr hm hp h1).ext (ofS_tr hm hp c) (fun j => ?_)
  rw [cf_mulP, cv_comm hm hp.c h1.c]
  have e : ∀ i, cf [1, c] i = (if i = 0 then 1 else 0) ^^^ (if i = 1 then c else 0) := fun i => by
    match i with
    | 0 => simp [cf]
    | 1 => simp [cf]
    | i + 2 => simp [cf]
  rw [show cf [1, c] = (fun i => (if i = 0 then 1 else 0) ^^^ (if i = 1 then c else 0)) from funext e]
  rw [cv_add_left hm (fun i => by split; exact one_lt hm; exact Nat.two_pow_pos m) (fun i => by split; exact hc; exact Nat.two_pow_pos m), cv_one, cv_one]
  unfold ofS
  rw [cf_addP]
  congr 1
  · rw [if_pos (Nat.zero_le _), Nat.sub_zero, gm_one_left hm (hp.c j)]
  · match j with
    | 0 => rw [if_neg (by omega), cf_cons_zero]
    | j + 1 => rw [if_pos (by omega), cf_cons_succ, cf_scaleP, Nat.add_sub_cancel, gm_comm hm hc (hp.c j)]
theorem places_step {m : Nat} (hm : Ok m) {p : List Nat} (hp : Tr m p) (z : Int) : mulP m (trim (lowL m (p.map Int.ofNat))) (trim (lowL m [1, ((ex m (em m z) : Nat) : Int)])) = ofS m p (exz m z) := by
  have hx := exz_lt hm z
  have h0 := exz_ne hm z
  rw [hp.low, show lowL m [1, ((ex m (em m z) : Nat) : Int)] = [1, exz m z] from by show [lo m 1, lo m _] = _; rw [lo_one hm]; show [1, lo m ((exz m z : Nat) : Int)] = _; rw [lo_nat hx]]
  rw [← mul_1c hm hp hx h0]
  congr 1
  exact trim_of (by show (if tl [exz m z] = 0 then _ else _) = 2 <;> simp [tl, h0])

theorem rplaces_spec (m : Nat) (A : Option Addr) (n c : Nat) (l : List Int) (w : World) (hm : Ok m) (ha : Has (sl 1 A n (ints .i64 l)) w) (hn : n ≤ 40) : SpecL Tryd.prog 52 [.int .i64 (m : Nat), .slice A n c] w (ofP m l l.length) := by
  have hla := ints_len ha
  subst hla
  refine spec_of Tryd.func52 rfl Tryd.ntmps52 rfl ?_
  refine CW.seq ?_
  refine CW.reg [0] rfl ?_   -- 0, code.go:159
  refine s_as 4 rfl rfl ?_
  refine SX.next ?_
  refine CW.seq ?_
  refine CW.reg [0, 1] rfl ?_   -- 1, code.go:160
  refine s_bsl 7 rfl rfl (cells := #[.int .i64 1]) (by kernel_rfl) rfl (fun _ _ => trivial) (fun gb => ?_)
  refine s_as 5 rfl rfl ?_
  refine SX.next ?_
  refine CW.seq ?_
  refine CW.seq ?_
  refine CW.reg [0] rfl ?_   -- 2, code.go:161
  refine s_as 6 rfl rfl ?_
  refine SX.next ?_
  refine CW.block ?_
  refine CW.loop (G := Nat × Option Addr × Nat) (fun q => [(0, .int .i64 (m : Nat)), (1, .slice A l.length c), (5, .slice q.2.1 (ofP m l q.1).length q.2.2), (6, .int .i64 (q.1 : Nat))]) (fun q => Sto w [own 3 1 q.2.1 (ofP m l q.1).length q.2.2 (nats .i64 (ofP m l q.1))]) (fun q => q.1 ≤ l.length ∧ (ofP m l q.1).length ≤ q.2.2) (fun q => l.length - q.1) (0, some ⟨gb, 0, none⟩, 1) ⟨rfl, rfl, rfl, rfl, trivial⟩ (fun _ h => h.blkOwn (q := 0) (c := 1) rfl rfl (by unfold maxLen; omega)) ⟨Nat.zero_le _, Nat.le_refl _⟩ ?_
  rintro q ⟨hq, hqc⟩
  have hpl := ofP_le hm l q.1
  have hpt := ofP_tr hm l q.1
  have hps := places_step hm hpt (l.getD q.1 0)
  refine CW.seq ?_
  refine CW.seq ?_
  refine CW.reg [0, 1, 2, 3] rfl ?_   -- 3, code.go:161
  refine s_mv 8 rfl rfl ?_
  refine s_mv 9 rfl rfl ?_
  refine s_len 10 rfl rfl ?_
  refine s_lt 11 rfl rfl rfl rfl ?_
  refine SX.next ?_
  refine CW.test rfl (fun hc => ?_) (fun hc => ?_)
  · skip
    refine CW.skip ?_
    refine KN.code ?_
    refine CW.seq ?_
    refine CW.block ?_
    refine CW.reg [0, 1, 2, 3, 4, 5, 6, 7, 8, 9, 10] rfl ?_   -- 5, code.go:162
    refine s_mv 14 rfl rfl ?_
    refine s_mv 15 rfl rfl ?_
    refine s_mv 16 rfl rfl ?_
    refine s_mv 17 rfl rfl ?_
    refine s_mv 18 rfl rfl ?_
    refine s_iaV 19 q.1 (fun w hw => hw.old ha) rfl rfl rfl rfl (by omega) ?_
    refine s_ldV 20 (fun w hw => hw.old ha) rfl rfl (by rw [Nat.mul_one]; exact intsAt (by omega)) (by omega) ?_
    refine s_call1 21 rfl rfl rfl rfl (fun w hw => rexp_spec m _ w hm) (fun _ _ => trivial) ?_
    refine s_bsl 22 rfl rfl (cells := #[.int .i64 1, .int .i64 (ex m (em m (l.getD q.1 0)) : Nat)]) (by kernel_rfl) rfl (fun _ _ => trivial) (fun b22 => ?_)
    refine s_call 23 rfl rfl rfl rfl (fun w hw => by have := rtimes_spec m q.2.1 (ofP m l q.1).length q.2.2 ((ofP m l q.1).map Int.ofNat) (some ⟨b22, 0, none⟩) 2 2 [1, ((ex m (em m (l.getD q.1 0)) : Nat) : Int)] w hm (by rw [← nats_ints]; exact (hw.has (i := 1) rfl).of_own) (Has.cong ((hw.has (i := 0) rfl).blk_sl (m := 2) rfl) rfl) (by omega) (by omega); rw [hps] at this; exact this) (fun _ _ => trivial) (fun q23 hq23 => ?_)
    refine s_as 5 rfl rfl ?_
    refine SX.end_ ?_
    refine KN.blk ?_
    refine KN.code ?_
    refine CW.reg [0, 1, 2] rfl ?_   -- 4, code.go:161
    refine s_mv 12 rfl rfl ?_
    refine s_add 13 rfl rfl rfl (r := ((q.1 + 1 : Nat) : Int)) (w64 (by omega)) ?_
    refine s_as 6 rfl rfl ?_
    refine SX.end_ ?_
    exact KN.back (q.1 + 1, q23.1, q23.2) ⟨rfl, rfl, rfl, rfl, trivial⟩ (fun _ h => h.pick [0] rfl) ⟨by simp only; omega, hq23⟩ (by simp only; omega)
  · skip
    have hqe : q.1 = l.length := by omega
    have hof : ofP m l q.1 = ofP m l l.length := by rw [hqe]
    refine CW.exit rfl ?_
    refine KN.code ?_
    refine CW.seq ?_
    refine CW.reg [0, 1] rfl ?_   -- 6, code.go:164
    refine s_mv 24 rfl rfl ?_
    refine s_as 4 rfl rfl ?_
    refine SX.next ?_
    refine CW.ret ?_
    exact KN.ret (rs := [.tmp 4]) Tryd.results52 rfl (fun w hw => ⟨(q.2.1, q.2.2), by rw [← hof]; rfl, by rw [← hof]; exact hqc, by rw [← hof]; exact hw.pick [0] rfl⟩)

theorem rmakes_spec (m : Nat) (A : Option Addr) (n c : Nat) (l : List Int) (z : Int) (B : Option Addr) (k d : Nat) (l2 : List Int) (w : World) (hm : Ok m) (ha : Has (sl 1 A n (ints .i64 l)) w) (hbb : Has (sl 1 B k (ints .i64 l2)) w) (hn : n ≤ 4294967296) (hk : k ≤ 4294967296) : Spec1 Tryd.prog 53 [.int .i64 (m : Nat), .slice A n c, .int .i64 z, .slice B k d] w (.bool (mkB m l l2 z)) := by
  have hla := ints_len ha
  subst hla
  have hlb := ints_len hbb
  subst hlb
  have hll := lowL_lt m l
  refine spec_of Tryd.func53 rfl Tryd.ntmps53 rfl ?_
  refine CW.seq ?_
  refine CW.reg [0] rfl ?_   -- 0, code.go:168
  refine s_as 8 rfl rfl ?_
  refine SX.next ?_
  refine CW.seq ?_
  refine CW.seq ?_
  refine CW.reg [0, 1, 2, 3, 4, 5, 6, 7, 8, 9, 10, 11, 12, 13, 14, 15, 16, 17, 18, 19, 20] rfl ?_   -- 1, code.go:169
  refine s_mv 12 rfl rfl ?_
  refine s_len 13 rfl rfl ?_
  refine s_eq 14 rfl rfl rfl rfl ?_
  refine s_mv 15 rfl rfl ?_
  refine SX.bool 15 rfl (fun hb => ?_) (fun hb => ?_)
  · skip
    have hno : mkB m l l2 z = false := mkB_no (.inl (by have := of_decide_eq_true hb; rw [getD_none (by omega)]; exact lo_zero m))
    refine SX.skip rfl ?_
    refine SX.skip rfl ?_
    refine SX.skip rfl ?_
    refine SX.skip rfl ?_
    refine SX.skip rfl ?_
    refine SX.skip rfl ?_
    refine s_pickT 22 rfl rfl rfl ?_
    refine s_mv 23 rfl rfl ?_
    refine SX.skip rfl ?_
    refine SX.skip rfl ?_
    refine s_pickT 26 rfl rfl rfl ?_
    refine s_mv 27 rfl rfl ?_
    refine SX.skip rfl ?_
    refine SX.skip rfl ?_
    refine SX.skip rfl ?_
    refine SX.skip rfl ?_
    refine s_pickT 32 rfl rfl rfl ?_
    refine SX.next ?_
    refine CW.condT rfl ?_
    refine CW.seq ?_
    refine CW.reg [0] rfl ?_   -- 2, code.go:170
    refine s_as 8 rfl rfl ?_
    refine SX.next ?_
    refine CW.ret ?_
    exact KN.ret (rs := [.tmp 8]) Tryd.results53 rfl (fun w hw => ⟨by rw [hno]; rfl, hw.nothing⟩)
  · skip
    have hp0 := of_decide_eq_false hb
    refine s_mv 16 rfl rfl ?_
    refine s_mv 17 rfl rfl ?_
    refine s_iaV 18 0 (fun w hw => hw.old ha) rfl rfl rfl rfl (by omega) ?_
    refine s_ldV 19 (fun w hw => hw.old ha) rfl rfl (by rw [Nat.mul_one]; exact intsAt (by omega)) (by omega) ?_
    refine s_call1 20 rfl rfl rfl rfl (fun w hw => rlow_spec _ _ _ hm) (fun _ _ => trivial) ?_
    refine s_eq 21 rfl rfl rfl rfl ?_
    refine s_pickF 22 rfl rfl rfl ?_
    refine s_mv 23 rfl rfl ?_
    refine SX.bool 23 rfl (fun hb => ?_) (fun hb => ?_)
    · skip
      have hno : mkB m l l2 z = false := mkB_no (.inl (by have := of_decide_eq_true hb; omega))
      refine SX.skip rfl ?_
      refine SX.skip rfl ?_
      refine s_pickT 26 rfl rfl rfl ?_
      refine s_mv 27 rfl rfl ?_
      refine SX.skip rfl ?_
      refine SX.skip rfl ?_
      refine SX.skip rfl ?_
      refine SX.skip rfl ?_
      refine s_pickT 32 rfl rfl rfl ?_
      refine SX.next ?_
      refine CW.condT rfl ?_
      refine CW.seq ?_
      refine CW.reg [0] rfl ?_   -- 2, code.go:170
      refine s_as 8 rfl rfl ?_
      refine SX.next ?_
      refine CW.ret ?_
      exact KN.ret (rs := [.tmp 8]) Tryd.results53 rfl (fun w hw => ⟨by rw [hno]; rfl, hw.nothing⟩)
    · skip
      have hp1 := of_decide_eq_false hb
      refine s_mv 24 rfl rfl ?_
      refine s_lt 25 rfl rfl rfl rfl ?_
      refine s_pickF 26 rfl rfl rfl ?_
      refine s_mv 27 rfl rfl ?_
      refine SX.bool 27 rfl (fun hb => ?_) (fun hb => ?_)
      · skip
        have hno : mkB m l l2 z = false := mkB_no (.inr (.inl (of_decide_eq_true hb)))
        refine SX.skip rfl ?_
        refine SX.skip rfl ?_
        refine SX.skip rfl ?_
        refine SX.skip rfl ?_
        refine s_pickT 32 rfl rfl rfl ?_
        refine SX.next ?_
        refine CW.condT rfl ?_
        refine CW.seq ?_
        refine CW.reg [0] rfl ?_   -- 2, code.go:170
        refine s_as 8 rfl rfl ?_
        refine SX.next ?_
        refine CW.ret ?_
        exact KN.ret (rs := [.tmp 8]) Tryd.results53 rfl (fun w hw => ⟨by rw [hno]; rfl, hw.nothing⟩)
      · skip
        have hp2 := of_decide_eq_false hb
        refine s_mv 28 rfl rfl ?_
        refine s_mv 29 rfl rfl ?_
        refine s_len 30 rfl rfl ?_
        refine s_gt 31 rfl rfl rfl rfl ?_
        refine s_pickF 32 rfl rfl rfl ?_
        refine SX.next ?_
        refine CW.test rfl (fun hc => ?_) (fun hc => ?_)
        · skip
          have hno : mkB m l l2 z = false := mkB_no (.inr (.inr (by omega)))
          refine CW.seq ?_
          refine CW.reg [0] rfl ?_   -- 2, code.go:170
          refine s_as 8 rfl rfl ?_
          refine SX.next ?_
          refine CW.ret ?_
          exact KN.ret (rs := [.tmp 8]) Tryd.results53 rfl (fun w hw => ⟨by rw [hno]; rfl, hw.nothing⟩)
        · skip
          refine CW.skip ?_
          refine KN.code ?_
          refine CW.seq ?_
          refine CW.seq ?_
          have hzt : z = ((z.toNat : Nat) : Int) := by omega
          rw [hzt]
          refine CW.reg [0, 1] rfl ?_   -- 3, code.go:172
          refine s_mv 33 rfl rfl ?_
          refine s_as 9 rfl rfl ?_
          refine SX.next ?_
          refine CW.block ?_
          refine CW.loop (G := Nat) (fun j => [(0, .int .i64 (m : Nat)), (1, .slice A l.length c), (2, .int .i64 (z.toNat : Nat)), (3, .slice B l2.length d), (9, .int .i64 (j : Nat))]) (fun _ => Sto w []) (fun j => j ≤ l2.length ∧ z.toNat ≤ j ∧ ∀ i, i < j → z.toNat ≤ i → sumP m (lowL m l) (lowL m l2) i (z.toNat + 1) = 0) (fun j => l2.length - j) z.toNat ⟨rfl, rfl, rfl, rfl, rfl, trivial⟩ (fun _ h => h) ⟨by omega, Nat.le_refl _, fun i h1 h2 => by omega⟩ ?_
          rintro j ⟨hj1, hj2, hj3⟩
          refine CW.seq ?_
          refine CW.seq ?_
          refine CW.reg [0, 1, 2, 3] rfl ?_   -- 4, code.go:172
          refine s_mv 34 rfl rfl ?_
          refine s_mv 35 rfl rfl ?_
          refine s_len 36 rfl rfl ?_
          refine s_lt 37 rfl rfl rfl rfl ?_
          refine SX.next ?_
          refine CW.test rfl (fun hc => ?_) (fun hc => ?_)
          · skip
            refine CW.skip ?_
            refine KN.code ?_
            refine CW.seq ?_
            refine CW.block ?_
            refine CW.seq ?_
            refine CW.reg [0] rfl ?_   -- 6, code.go:173
            refine s_as 10 rfl rfl ?_
            refine SX.next ?_
            refine CW.cut (G := Unit) (fun _ => [(0, .int .i64 (m : Nat)), (1, .slice A l.length c), (2, .int .i64 (z.toNat : Nat)), (3, .slice B l2.length d), (9, .int .i64 (j : Nat)), (10, .int .i64 (sumP m (lowL m l) (lowL m l2) j (z.toNat + 1) : Nat))]) (fun _ => Sto w []) (fun _ => True) ?_ ?_
            · skip
              refine CW.seq ?_
              refine CW.reg [0] rfl ?_   -- 7, code.go:174
              refine s_as 11 rfl rfl ?_
              refine SX.next ?_
              refine CW.block ?_
              refine CW.loop (G := Nat) (fun i => [(0, .int .i64 (m : Nat)), (1, .slice A l.length c), (2, .int .i64 (z.toNat : Nat)), (3, .slice B l2.length d), (9, .int .i64 (j : Nat)), (10, .int .i64 (sumP m (lowL m l) (lowL m l2) j (i) : Nat)), (11, .int .i64 (i : Nat))]) (fun _ => Sto w []) (fun i => i ≤ z.toNat + 1) (fun i => z.toNat + 1 - i) 0 ⟨rfl, rfl, rfl, rfl, rfl, rfl, rfl, trivial⟩ (fun _ h => h) (Nat.zero_le _) ?_
              intro i hi
              have hsl := sumP_lt hm hll (s := lowL m l2) j i
              have hxl := gm_lt hm (cf_lt hll (Nat.two_pow_pos m) i) (cf (lowL m l2) (j - i))
              refine CW.seq ?_
              refine CW.seq ?_
              refine CW.reg [0, 1, 2, 3, 4, 5, 6, 7, 8] rfl ?_   -- 8, code.go:174
              refine s_mv 40 rfl rfl ?_
              refine s_mv 41 rfl rfl ?_
              refine s_le 42 rfl rfl rfl rfl ?_
              refine s_mv 43 rfl rfl ?_
              refine SX.bool 43 rfl (fun hb => ?_) (fun hb => ?_)
              · skip
                have hil := of_decide_eq_true hb
                refine s_mv 44 rfl rfl ?_
                refine s_mv 45 rfl rfl ?_
                refine s_len 46 rfl rfl ?_
                refine s_lt 47 rfl rfl rfl rfl ?_
                refine s_pickT 48 rfl rfl rfl ?_
                refine SX.next ?_
                refine CW.test rfl (fun hc => ?_) (fun hc => ?_)
                · skip
                  refine CW.skip ?_
                  refine KN.code ?_
                  refine CW.seq ?_
                  refine CW.block ?_
                  refine CW.regD (.st true 0 (.st true 1 (.st true 2 (.st true 3 (.st true 4 (.st true 5 (.st true 6 (.st true 7 (.st true 8 (.st true 9 (.st true 10 (.st true 11 (.st false 12 (.st true 13 (.st true 14 .done))))))))))))))) (Sto w []) mixed (by kernel_rfl) (fun _ h => h.drew) (fun _ h => h) ?_
                  refine s_mv 51 rfl rfl ?_
                  refine s_mv 52 rfl rfl ?_
                  refine s_mv 53 rfl rfl ?_
                  refine s_mv 54 rfl rfl ?_
                  refine s_iaV 55 i (fun w hw => hw.old ha) rfl rfl rfl rfl (by omega) ?_
                  refine s_ldVS 56 (fun w hw => hw.old ha) rfl rfl (by rw [Nat.mul_one]; exact intsAt (by omega)) (by omega) ?_
                  refine s_mv 57 rfl rfl ?_
                  refine s_mv 58 rfl rfl ?_
                  refine s_mv 59 rfl rfl ?_
                  refine s_sub 60 rfl rfl rfl (r := ((j - i : Nat) : Int)) (by rw [show ((j : Nat) : Int) - (i : Nat) = ((j - i : Nat) : Int) by omega]; exact w64 (by omega)) ?_
                  refine s_iaV 61 (j - i) (fun w hw => hw.old hbb) rfl rfl rfl rfl (by omega) ?_
                  refine s_ldVS 62 (fun w hw => hw.old hbb) rfl rfl (by rw [Nat.mul_one]; exact intsAt (by omega)) (by omega) ?_
                  refine s_call1 63 rfl rfl rfl rfl (fun w hw => by have := rmul_spec m (l.getD i 0) (l2.getD (j - i) 0) w hm; rw [← cf_low, ← cf_low] at this; exact this) (fun _ h => h) ?_
                  refine s_bit 64 rfl rfl rfl rfl (ibit_xor_nat (pow63 hm hsl) (pow63 hm hxl)) ?_
                  refine s_as 10 rfl rfl ?_
                  refine SX.end_ ?_
                  refine KN.blk ?_
                  refine KN.code ?_
                  refine CW.reg [0, 1, 2] rfl ?_   -- 9, code.go:174
                  refine s_mv 49 rfl rfl ?_
                  refine s_add 50 rfl rfl rfl (r := ((i + 1 : Nat) : Int)) (w64 (by omega)) ?_
                  refine s_as 11 rfl rfl ?_
                  refine SX.end_ ?_
                  exact KN.back (i + 1) ⟨rfl, rfl, rfl, rfl, rfl, rfl, rfl, trivial⟩ (fun _ h => h) (by omega) (by omega)
                · skip
                  have hnx : sumP m (lowL m l) (lowL m l2) j (z.toNat + 1) = sumP m (lowL m l) (lowL m l2) j (i) := by
                    have := xs_more (f := fun i => gm m (cf (lowL m l) i) (cf (lowL m l2) (j - i))) (n := i) (k := z.toNat + 1 - i) (fun t ht => by rw [cf_out (by rw [lowL_len]; omega), gm_zero_left])
                    rw [show i + (z.toNat + 1 - i) = z.toNat + 1 by omega] at this
                    exact this
                  refine CW.exit rfl ?_
                  exact KN.join () ⟨rfl, rfl, rfl, rfl, rfl, by rw [hnx]; rfl, trivial⟩ (fun _ h => h) trivial
              · skip
                have hil := of_decide_eq_false hb
                have hnx : sumP m (lowL m l) (lowL m l2) j (z.toNat + 1) = sumP m (lowL m l) (lowL m l2) j (i) := by rw [show z.toNat + 1 = i by omega]
                refine SX.skip rfl ?_
                refine SX.skip rfl ?_
                refine SX.skip rfl ?_
                refine SX.skip rfl ?_
                refine s_pickF 48 rfl rfl rfl ?_
                refine SX.next ?_
                refine CW.condF rfl ?_
                refine CW.exit rfl ?_
                exact KN.join () ⟨rfl, rfl, rfl, rfl, rfl, by rw [hnx]; rfl, trivial⟩ (fun _ h => h) trivial
            · skip
              intro _ _
              refine CW.seq ?_
              refine CW.reg [0, 1] rfl ?_   -- 11, code.go:177
              refine s_mv 65 rfl rfl ?_
              refine s_ne 66 rfl rfl rfl rfl ?_
              refine SX.next ?_
              refine CW.test rfl (fun hc => ?_) (fun hc => ?_)
              · skip
                have hno : mkB m l l2 z = false := mkB_bad (j := j) (by omega) hj2 (by omega)
                refine CW.seq ?_
                refine CW.reg [0] rfl ?_   -- 12, code.go:178
                refine s_as 8 rfl rfl ?_
                refine SX.next ?_
                refine CW.ret ?_
                exact KN.ret (rs := [.tmp 8]) Tryd.results53 rfl (fun w hw => ⟨by rw [← hzt, hno]; rfl, hw.nothing⟩)
              · skip
                refine CW.skip ?_
                refine KN.blk ?_
                refine KN.code ?_
                refine CW.reg [0, 1, 2] rfl ?_   -- 5, code.go:172
                refine s_mv 38 rfl rfl ?_
                refine s_add 39 rfl rfl rfl (r := ((j + 1 : Nat) : Int)) (w64 (by omega)) ?_
                refine s_as 9 rfl rfl ?_
                refine SX.end_ ?_
                exact KN.back (j + 1) ⟨rfl, rfl, rfl, rfl, rfl, trivial⟩ (fun _ h => h) ⟨by omega, by omega, fun i h1 h2 => by by_cases h : i = j; (subst h; omega); exact hj3 i (by omega) h2⟩ (by omega)
          · skip
            have hyes : mkB m l l2 z = true := mkB_yes (by omega) (by omega) (by omega) (fun i h1 h2 => hj3 i (by omega) h2)
            refine CW.exit rfl ?_
            refine KN.code ?_
            refine CW.seq ?_
            refine CW.reg [0] rfl ?_   -- 13, code.go:181
            refine s_as 8 rfl rfl ?_
            refine SX.next ?_
            refine CW.ret ?_
            exact KN.ret (rs := [.tmp 8]) Tryd.results53 rfl (fun w hw => ⟨by rw [← hzt, hyes]; rfl, hw.nothing⟩)

theorem of_long (g : Nat) (A : Option Addr) (n c : Nat) (e : Nat → Addr) (w : World) (hn : 40 < n) (hn2 : n ≤ 4294967296) (he : Er e w 0) : Spec1 Tryd.prog 32 [.pointer (some ⟨g, 0, none⟩), .slice A n c] w (errRes e 0) := by
  refine spec_of Tryd.func32 rfl Tryd.ntmps32 rfl ?_
  refine CW.seq ?_
  refine CW.reg [0, 1] rfl ?_   -- 0, locate.go:72
  refine s_as 4 rfl rfl ?_
  refine s_as 5 rfl rfl ?_
  refine SX.next ?_
  refine CW.seq ?_
  refine CW.seq ?_
  refine CW.reg [0, 1, 2] rfl ?_   -- 1, locate.go:73
  refine s_mv 10 rfl rfl ?_
  refine s_len 11 rfl rfl ?_
  refine s_gt 12 rfl rfl rfl (decide_eq_true (by omega)) ?_
  refine SX.next ?_
  refine CW.condT rfl ?_
  refine CW.seq ?_
  refine CW.regD (.st true 0 (.st true 1 (.st true 2 .done))) (Sto w []) mixed (by kernel_rfl) (fun _ h => h.drew) (fun _ h => h) ?_
  refine s_ldS 13 rfl rfl (fun _ h => h.cell he) ?_
  refine s_as 4 rfl rfl ?_
  refine s_as 5 rfl rfl ?_
  refine SX.next ?_
  refine CW.ret ?_
  exact KN.ret (rs := [.tmp 4, .tmp 5]) Tryd.results32 rfl (fun w hw => ⟨rfl, hw.nothing⟩)

theorem says_a (a0 : Int) (A1 : Option Addr) (n1 c1 : Nat) (l1 : List Int) (A2 : Option Addr) (n2 c2 : Nat) (l2 : List Int) (a3 : Int) (A4 : Option Addr) (n4 c4 : Nat) (l4 : List Int) (e : Nat → Addr) (w : World) (hs1 : Has (sl 1 A1 n1 (ints .i64 l1)) w) (hn1 : n1 ≤ 9223372036854775807) (hcA1 : n1 ≤ c1) (hs2 : Has (sl 1 A2 n2 (ints .i64 l2)) w) (hn2 : n2 ≤ 9223372036854775807) (hcA2 : n2 ≤ c2) (hs4 : Has (sl 1 A4 n4 (ints .i64 l4)) w) (hn4 : n4 ≤ 9223372036854775807) (hcA4 : n4 ≤ c4) (_hf : Er e w 2) (_hz : Er e w 1) (hl : Er e w 0) (hlo : 40 < n4) : Spec1 Tryd.prog 14 [.int .i64 a0, .slice A1 n1 c1, .slice A2 n2 c2, .int .i64 a3, .slice A4 n4 c4] w (.bool true) := by
  have hm := mkm_ok (k := 7) (by omega) (by omega) a0
  have hla := ints_len hs1
  subst hla
  have h14 := pow_le14 hm
  have hNs := N_succ (mkm 7 a0)
  have hNp := N_pos hm
  have hmh := hm.hi
  have hlb := ints_len hs2
  subst hlb
  have hlc := ints_len hs4
  subst hlc
  refine spec_of Tryd.func14 rfl Tryd.ntmps14 rfl ?_
  refine CW.seq ?_
  refine CW.reg [0] rfl ?_   -- 0, law.go:36
  refine s_as 10 rfl rfl ?_
  refine SX.next ?_
  refine CW.seq ?_
  refine CW.reg [0, 1] rfl ?_   -- 1, law.go:37
  refine s_call1 23 rfl rfl rfl rfl (fun w hw => first8_spec w) (fun _ _ => trivial) ?_
  refine s_as 11 rfl rfl ?_
  refine SX.next ?_
  refine CW.seq ?_
  refine CW.reg [0, 1, 2, 3, 4, 5, 6] rfl ?_   -- 2, law.go:38
  refine s_mv 25 rfl rfl ?_
  refine s_call 26 rfl rfl rfl rfl (fun w hw => made8_spec a0 w) (fun _ _ => trivial) (fun g _ => ?_)
  refine s_mv 24 rfl rfl ?_
  refine s_ext 27 rfl rfl rfl ?_
  refine s_ext 28 rfl rfl rfl ?_
  refine s_as 12 rfl rfl ?_
  refine s_as 13 rfl rfl ?_
  refine SX.next ?_
  refine CW.seq ?_
  refine CW.seq ?_
  refine CW.reg [0, 1, 2, 3, 4, 5, 6, 7, 8, 9, 10, 11, 12, 13, 14, 15, 16, 17, 18, 19, 20] rfl ?_   -- 3, law.go:39
  refine s_mv 29 rfl rfl ?_
  refine s_eqPN 30 rfl rfl ?_
  refine s_mv 31 rfl rfl ?_
  refine s_mv 32 rfl rfl ?_
  refine s_len 33 rfl rfl ?_
  refine s_gt 34 rfl rfl rfl rfl ?_
  refine s_pickF 35 rfl rfl rfl ?_
  refine s_mv 36 rfl rfl ?_
  refine SX.bool 36 rfl (fun hb => ?_) (fun hb => ?_)
  · skip
    skip
    refine SX.skip rfl ?_
    refine SX.skip rfl ?_
    refine SX.skip rfl ?_
    refine s_pickT 40 rfl rfl rfl ?_
    refine s_mv 41 rfl rfl ?_
    refine SX.skip rfl ?_
    refine SX.skip rfl ?_
    refine SX.skip rfl ?_
    refine s_pickT 45 rfl rfl rfl ?_
    refine s_mv 46 rfl rfl ?_
    refine SX.skip rfl ?_
    refine SX.skip rfl ?_
    refine s_pickT 49 rfl rfl rfl ?_
    refine SX.next ?_
    refine CW.condT rfl ?_
    refine CW.seq ?_
    refine CW.reg [0, 1, 2, 3, 4, 5] rfl ?_   -- 4, law.go:40
    refine s_mv 50 rfl rfl ?_
    refine s_mv 51 rfl rfl ?_
    refine s_mv 52 rfl rfl ?_
    refine s_nePN 53 rfl rfl ?_
    refine s_pickT 54 rfl rfl rfl ?_
    refine s_as 10 rfl rfl ?_
    refine SX.next ?_
    refine CW.ret ?_
    exact KN.ret (rs := [.tmp 10]) Tryd.results14 rfl (fun w hw => ⟨rfl, hw.nothing⟩)
  · skip
    have hp1 := of_decide_eq_false hb
    refine s_mv 37 rfl rfl ?_
    refine s_len 38 rfl rfl ?_
    refine s_gt 39 rfl rfl rfl rfl ?_
    refine s_pickF 40 rfl rfl rfl ?_
    refine s_mv 41 rfl rfl ?_
    refine SX.bool 41 rfl (fun hb => ?_) (fun hb => ?_)
    · skip
      skip
      refine SX.skip rfl ?_
      refine SX.skip rfl ?_
      refine SX.skip rfl ?_
      refine s_pickT 45 rfl rfl rfl ?_
      refine s_mv 46 rfl rfl ?_
      refine SX.skip rfl ?_
      refine SX.skip rfl ?_
      refine s_pickT 49 rfl rfl rfl ?_
      refine SX.next ?_
      refine CW.condT rfl ?_
      refine CW.seq ?_
      refine CW.reg [0, 1, 2, 3, 4, 5] rfl ?_   -- 4, law.go:40
      refine s_mv 50 rfl rfl ?_
      refine s_mv 51 rfl rfl ?_
      refine s_mv 52 rfl rfl ?_
      refine s_nePN 53 rfl rfl ?_
      refine s_pickT 54 rfl rfl rfl ?_
      refine s_as 10 rfl rfl ?_
      refine SX.next ?_
      refine CW.ret ?_
      exact KN.ret (rs := [.tmp 10]) Tryd.results14 rfl (fun w hw => ⟨rfl, hw.nothing⟩)
    · skip
      have hp2 := of_decide_eq_false hb
      refine s_mv 42 rfl rfl ?_
      refine s_len 43 rfl rfl ?_
      refine s_gt 44 rfl rfl rfl rfl ?_
      refine s_pickF 45 rfl rfl rfl ?_
      refine s_mv 46 rfl rfl ?_
      refine SX.bool 46 rfl (fun hb => ?_) (fun hb => ?_)
      · skip
        skip
        refine SX.skip rfl ?_
        refine SX.skip rfl ?_
        refine s_pickT 49 rfl rfl rfl ?_
        refine SX.next ?_
        refine CW.condT rfl ?_
        refine CW.seq ?_
        refine CW.reg [0, 1, 2, 3, 4, 5] rfl ?_   -- 4, law.go:40
        refine s_mv 50 rfl rfl ?_
        refine s_mv 51 rfl rfl ?_
        refine s_mv 52 rfl rfl ?_
        refine s_nePN 53 rfl rfl ?_
        refine s_pickT 54 rfl rfl rfl ?_
        refine s_as 10 rfl rfl ?_
        refine SX.next ?_
        refine CW.ret ?_
        exact KN.ret (rs := [.tmp 10]) Tryd.results14 rfl (fun w hw => ⟨rfl, hw.nothing⟩)
      · skip
        have hp3 := of_decide_eq_false hb
        have hx1 : l1.length ≤ 90 := by omega
        have hx2 : l2.length ≤ 90 := by omega
        have hx4 : l4.length ≤ 50 := by omega
        refine s_mv 47 rfl rfl ?_
        refine s_not 48 rfl rfl ?_
        refine s_pickF 49 rfl rfl rfl ?_
        refine SX.next ?_
        refine CW.condF rfl ?_
        refine CW.skip ?_
        refine KN.code ?_
        refine CW.seq ?_
        have hlt := lowL_lt (mkm 7 a0) (l1.take 80)
        obtain ⟨gg, hh, hF⟩ := bm_fast hm hlt (min l1.length 80)
        have hi := bm_inv hm hlt (min l1.length 80)
        have ho := bmG_ok hm (stF_ok hm) (lowL (mkm 7 a0) (l1.take 80)) (min l1.length 80)
        have hlen := len_same hm ho.tc hi.tc (f := fun _ => gg) (fun _ => hF.gl) (fun _ => hF.g0) hF.c
        have hcl := hi.cl
        have hc1 : 1 ≤ (bmG (mkm 7 a0) (stL (mkm 7 a0)) (lowL (mkm 7 a0) (l1.take 80)) (min l1.length 80)).c.length := Nat.pos_of_ne_zero fun h => by
          have h1 := hi.c0
          rw [cf_out (by omega)] at h1
          cases h1
        have hx0 : cf (bmG (mkm 7 a0) (stF (mkm 7 a0)) (lowL (mkm 7 a0) (l1.take 80)) (min l1.length 80)).c 0 = gg := by rw [hF.c, hi.c0, gm_one_left hm hF.gl]
        refine CW.reg [0, 1, 2, 3, 4, 5, 6, 7] rfl ?_   -- 5, law.go:42
        refine s_mv 56 rfl rfl ?_
        refine s_mv 57 rfl rfl ?_
        refine s_call 58 rfl rfl rfl rfl (fun w hw => locate_spec g (mkm 7 a0) A1 c1 l1 w hm (hw.has (i := 0) rfl) (hw.old hs1) (by omega) hcA1) (fun _ _ => trivial) (fun q58 hq58 => ?_)
        refine s_mv 55 rfl rfl ?_
        refine s_ext 59 rfl rfl rfl ?_
        refine s_ext 60 rfl rfl rfl ?_
        refine s_as 14 rfl rfl ?_
        refine s_as 15 rfl rfl ?_
        refine SX.next ?_
        refine CW.seq ?_
        refine CW.reg [0, 1, 2, 3, 4, 5, 6, 7] rfl ?_   -- 6, law.go:43
        refine s_mv 62 rfl rfl ?_
        refine s_mv 63 rfl rfl ?_
        refine s_call 64 rfl rfl rfl rfl (fun w hw => rlocate_spec (mkm 7 a0) A1 c1 l1 w hm (hw.old hs1) (by omega) hcA1) (fun _ _ => trivial) (fun q64 hq64 => ?_)
        refine s_mv 61 rfl rfl ?_
        refine s_ext 65 rfl rfl rfl ?_
        refine s_ext 66 rfl rfl rfl ?_
        refine s_as 16 rfl rfl ?_
        refine s_as 17 rfl rfl ?_
        refine SX.next ?_
        refine CW.seq ?_
        refine CW.reg [0, 1, 2, 3, 4, 5, 6, 7] rfl ?_   -- 7, law.go:44
        refine s_mv 68 rfl rfl ?_
        refine s_mv 69 rfl rfl ?_
        refine s_call 70 rfl rfl rfl rfl (fun w hw => fast_spec g (mkm 7 a0) A1 c1 l1 w hm (hw.has (i := 2) rfl) (hw.old hs1) (by omega) hcA1) (fun _ _ => trivial) (fun q70 hq70 => ?_)
        refine s_mv 67 rfl rfl ?_
        refine s_ext 71 rfl rfl rfl ?_
        refine s_ext 72 rfl rfl rfl ?_
        refine s_as 18 rfl rfl ?_
        refine s_as 19 rfl rfl ?_
        refine SX.next ?_
        refine CW.seq ?_
        refine CW.seq ?_
        refine CW.reg [0, 1, 2, 3, 4, 5, 6, 7, 8, 9, 10, 11, 12, 13, 14, 15, 16, 17, 18, 19, 20, 21, 22, 23, 24, 25] rfl ?_   -- 8, law.go:45
        refine s_mv 73 rfl rfl ?_
        refine s_mv 74 rfl rfl ?_
        refine s_call1 75 rfl rfl rfl rfl (v := .bool true) (fun w hw => by have := sameInts_spec q58.1 q64.1 (bmG (mkm 7 a0) (stL (mkm 7 a0)) (lowL (mkm 7 a0) (l1.take 80)) (min l1.length 80)).c.length q58.2 (bmG (mkm 7 a0) (stL (mkm 7 a0)) (lowL (mkm 7 a0) (l1.take 80)) (min l1.length 80)).c.length q64.2 ((bmG (mkm 7 a0) (stL (mkm 7 a0)) (lowL (mkm 7 a0) (l1.take 80)) (min l1.length 80)).c.map Int.ofNat) ((bmG (mkm 7 a0) (stL (mkm 7 a0)) (lowL (mkm 7 a0) (l1.take 80)) (min l1.length 80)).c.map Int.ofNat) _ (by rw [← nats_ints]; exact (hw.has (i := 2) rfl).of_own) (by rw [← nats_ints]; exact (hw.has (i := 1) rfl).of_own) (by omega); rw [decide_eq_true (rfl)] at this; exact this) (fun _ _ => trivial) ?_
        refine s_not 76 rfl rfl ?_
        refine s_mv 77 rfl rfl ?_
        refine s_mv 78 rfl rfl ?_
        refine s_mv 79 rfl rfl ?_
        refine s_ne 80 rfl rfl rfl (decide_eq_false (fun h => h rfl)) ?_
        refine s_pickF 81 rfl rfl rfl ?_
        refine s_mv 82 rfl rfl ?_
        refine s_mv 83 rfl rfl ?_
        refine s_mv 84 rfl rfl ?_
        refine s_ne 85 rfl rfl rfl (decide_eq_false (by rw [hF.L]; exact fun h => h rfl)) ?_
        refine s_pickF 86 rfl rfl rfl ?_
        refine s_mv 87 rfl rfl ?_
        refine s_mv 88 rfl rfl ?_
        refine s_len 89 rfl rfl ?_
        refine s_mv 90 rfl rfl ?_
        refine s_len 91 rfl rfl ?_
        refine s_ne 92 rfl rfl rfl (decide_eq_false (by rw [hlen]; exact fun h => h rfl)) ?_
        refine s_pickF 93 rfl rfl rfl ?_
        refine s_mv 94 rfl rfl ?_
        refine s_mv 95 rfl rfl ?_
        refine s_len 96 rfl rfl ?_
        refine s_eq 97 rfl rfl rfl (decide_eq_false (by omega)) ?_
        refine s_pickF 98 rfl rfl rfl ?_
        refine SX.next ?_
        refine CW.condF rfl ?_
        refine CW.skip ?_
        refine KN.code ?_
        refine CW.seq ?_
        refine CW.seq ?_
        refine CW.reg [0] rfl ?_   -- 10, law.go:48
        refine s_as 20 rfl rfl ?_
        refine SX.next ?_
        refine CW.block ?_
        refine CW.loop (G := Nat) (fun i => [(1, .slice A1 l1.length c1), (2, .slice A2 l2.length c2), (3, .int .i64 a3), (4, .slice A4 l4.length c4), (12, .pointer (some ⟨g, 0, none⟩)), (13, .int .i64 ((mkm 7 a0) : Nat)), (16, .slice q64.1 (bmG (mkm 7 a0) (stL (mkm 7 a0)) (lowL (mkm 7 a0) (l1.take 80)) (min l1.length 80)).c.length q64.2), (18, .slice q70.1 (bmG (mkm 7 a0) (stF (mkm 7 a0)) (lowL (mkm 7 a0) (l1.take 80)) (min l1.length 80)).c.length q70.2), (20, .int .i64 (i : Nat))]) (fun _ => Sto w [own 3 1 q70.1 (bmG (mkm 7 a0) (stF (mkm 7 a0)) (lowL (mkm 7 a0) (l1.take 80)) (min l1.length 80)).c.length q70.2 (nats .i64 (bmG (mkm 7 a0) (stF (mkm 7 a0)) (lowL (mkm 7 a0) (l1.take 80)) (min l1.length 80)).c), own 3 1 q64.1 (bmG (mkm 7 a0) (stL (mkm 7 a0)) (lowL (mkm 7 a0) (l1.take 80)) (min l1.length 80)).c.length q64.2 (nats .i64 (bmG (mkm 7 a0) (stL (mkm 7 a0)) (lowL (mkm 7 a0) (l1.take 80)) (min l1.length 80)).c), fieldA g (mkm 7 a0)]) (fun i => i ≤ (bmG (mkm 7 a0) (stF (mkm 7 a0)) (lowL (mkm 7 a0) (l1.take 80)) (min l1.length 80)).c.length) (fun i => (bmG (mkm 7 a0) (stF (mkm 7 a0)) (lowL (mkm 7 a0) (l1.take 80)) (min l1.length 80)).c.length - i) 0 ⟨rfl, rfl, rfl, rfl, rfl, rfl, rfl, rfl, rfl, trivial⟩ (fun _ h => h.pick [0, 0, 1] rfl) (Nat.zero_le _) ?_
        intro i hi2
        refine CW.seq ?_
        refine CW.seq ?_
        refine CW.reg [0, 1, 2, 3] rfl ?_   -- 11, law.go:48
        refine s_mv 99 rfl rfl ?_
        refine s_mv 100 rfl rfl ?_
        refine s_len 101 rfl rfl ?_
        refine s_lt 102 rfl rfl rfl rfl ?_
        refine SX.next ?_
        refine CW.test rfl (fun hc => ?_) (fun hc => ?_)
        · skip
          refine CW.skip ?_
          refine KN.code ?_
          refine CW.seq ?_
          refine CW.block ?_
          refine CW.seq ?_
          refine CW.regD (.st true 0 (.st true 1 (.st true 2 (.st true 3 (.st true 4 (.st true 5 (.st true 6 (.st true 7 (.st true 8 (.st true 9 (.st true 10 (.st true 11 (.st false 12 (.st true 13 (.st true 14 (.st true 15 (.st true 16 (.st true 17 (.st true 18 (.st true 19 .done)))))))))))))))))))) (Sto w [own 3 1 q70.1 (bmG (mkm 7 a0) (stF (mkm 7 a0)) (lowL (mkm 7 a0) (l1.take 80)) (min l1.length 80)).c.length q70.2 (nats .i64 (bmG (mkm 7 a0) (stF (mkm 7 a0)) (lowL (mkm 7 a0) (l1.take 80)) (min l1.length 80)).c), own 3 1 q64.1 (bmG (mkm 7 a0) (stL (mkm 7 a0)) (lowL (mkm 7 a0) (l1.take 80)) (min l1.length 80)).c.length q64.2 (nats .i64 (bmG (mkm 7 a0) (stL (mkm 7 a0)) (lowL (mkm 7 a0) (l1.take 80)) (min l1.length 80)).c), fieldA g (mkm 7 a0)]) mixed (by kernel_rfl) (fun _ h => h.drew) (fun _ h => h) ?_
          refine s_mv 105 rfl rfl ?_
          refine s_mv 106 rfl rfl ?_
          refine s_iaO 107 0 i rfl rfl rfl rfl rfl (by omega) ?_
          refine s_ldS 108 rfl rfl (fun _ h => h.ownCell (q := 0) rfl (natsAtC (by omega))) ?_
          refine s_mv 109 rfl rfl ?_
          refine s_mv 110 rfl rfl ?_
          refine s_iaO 111 0 0 rfl rfl rfl rfl rfl (by omega) ?_
          refine s_ldS 112 rfl rfl (fun _ h => h.ownCell (q := 0) rfl (natsAtC (by omega))) ?_
          refine s_mv 113 rfl rfl ?_
          refine s_mv 114 rfl rfl ?_
          refine s_iaO 115 1 i rfl rfl rfl rfl rfl (by omega) ?_
          refine s_ldS 116 rfl rfl (fun _ h => h.ownCell (q := 1) rfl (natsAtC (by omega))) ?_
          refine s_call1 117 rfl rfl rfl rfl (v := .int .i64 (cf (bmG (mkm 7 a0) (stF (mkm 7 a0)) (lowL (mkm 7 a0) (l1.take 80)) (min l1.length 80)).c i : Nat)) (fun w hw => by have := rmulN (w := w) hm (ho.tc.c 0) (hi.tc.c i); rw [hx0, gm_comm hm hF.gl (hi.tc.c i), ← hF.c] at this; rw [hx0]; exact this) (fun _ h => h) ?_
          refine s_ne 118 rfl rfl rfl (decide_eq_false (fun h => h rfl)) ?_
          refine s_mv 119 rfl rfl ?_
          refine s_mv 120 rfl rfl ?_
          refine s_iaO 121 0 0 rfl rfl rfl rfl rfl (by omega) ?_
          refine s_ldS 122 rfl rfl (fun _ h => h.ownCell (q := 0) rfl (natsAtC (by omega))) ?_
          refine s_eq 123 rfl rfl rfl (decide_eq_false (by rw [hx0]; have := hF.g0; omega)) ?_
          refine s_pickF 124 rfl rfl rfl ?_
          refine SX.next ?_
          refine CW.condF rfl ?_
          refine CW.skip ?_
          refine KN.blk ?_
          refine KN.code ?_
          refine CW.reg [0, 1, 2] rfl ?_   -- 12, law.go:48
          refine s_mv 103 rfl rfl ?_
          refine s_add 104 rfl rfl rfl (r := ((i + 1 : Nat) : Int)) (w64 (by omega)) ?_
          refine s_as 20 rfl rfl ?_
          refine SX.end_ ?_
          exact KN.back (i + 1) ⟨rfl, rfl, rfl, rfl, rfl, rfl, rfl, rfl, rfl, trivial⟩ (fun _ h => h) (by omega) (by omega)
        · skip
          refine CW.exit rfl ?_
          refine KN.code ?_
          refine CW.seq ?_
          refine CW.reg [0, 1, 2, 3, 4, 5, 6, 7] rfl ?_   -- 15, law.go:53
          refine s_mv 126 rfl rfl ?_
          refine s_mv 127 rfl rfl ?_
          refine s_call1 128 rfl rfl rfl rfl (fun w hw => of_long g A4 l4.length c4 e w (by omega) (by omega) (hw.er hl)) (fun _ _ => trivial) ?_
          refine s_mv 125 rfl rfl ?_
          refine s_ext 129 rfl rfl rfl ?_
          refine s_ext 130 rfl rfl rfl ?_
          refine s_as 21 rfl rfl ?_
          refine s_as 22 rfl rfl ?_
          refine SX.next ?_
          refine CW.seq ?_
          refine CW.seq ?_
          refine CW.reg [0, 1, 2] rfl ?_   -- 16, law.go:54
          refine s_mv 131 rfl rfl ?_
          refine s_len 132 rfl rfl ?_
          refine s_gt 133 rfl rfl rfl (decide_eq_true (by omega)) ?_
          refine SX.next ?_
          refine CW.condT rfl ?_
          refine CW.seq ?_
          refine CW.reg [0, 1, 2, 3, 4, 5, 6, 7] rfl ?_   -- 17, law.go:55
          refine s_mv 134 rfl rfl ?_
          refine s_ld 135 rfl rfl (fun _ h => h.cell hl) ?_
          refine s_neE 136 rfl rfl rfl ?_
          refine s_mv 137 rfl rfl ?_
          refine s_mv 138 rfl rfl ?_
          refine s_len 139 rfl rfl ?_
          refine s_ne 140 rfl rfl rfl (decide_eq_false (fun h => h rfl)) ?_
          refine s_pickF 141 rfl rfl rfl ?_
          refine SX.next ?_
          refine CW.condF rfl ?_
          refine CW.skip ?_
          refine KN.code ?_
          refine CW.seq ?_
          refine CW.reg [0, 1, 2, 3, 4, 5, 6, 7, 8, 9, 10, 11] rfl ?_   -- 21, law.go:61
          refine s_mv 152 rfl rfl ?_
          refine s_mv 153 rfl rfl ?_
          refine s_mv 154 rfl rfl ?_
          refine s_mv 155 rfl rfl ?_
          refine s_call1 156 rfl rfl rfl rfl (fun w hw => makes_spec g (mkm 7 a0) A2 l2.length c2 l2 a3 A1 l1.length c1 l1 w hm (hw.has (i := 2) rfl) (hw.old hs2) (hw.old hs1) (by omega) (by omega)) (fun _ _ => trivial) ?_
          refine s_mv 157 rfl rfl ?_
          refine s_mv 158 rfl rfl ?_
          refine s_mv 159 rfl rfl ?_
          refine s_mv 160 rfl rfl ?_
          refine s_call1 161 rfl rfl rfl rfl (fun w hw => rmakes_spec (mkm 7 a0) A2 l2.length c2 l2 a3 A1 l1.length c1 l1 w hm (hw.old hs2) (hw.old hs1) (by omega) (by omega)) (fun _ _ => trivial) ?_
          refine s_eqB 162 rfl rfl rfl (r := true) (beq_self_eq_true _) ?_
          refine s_as 10 rfl rfl ?_
          refine SX.next ?_
          refine CW.ret ?_
          exact KN.ret (rs := [.tmp 10]) Tryd.results14 rfl (fun w hw => ⟨rfl, hw.nothing⟩)

theorem says_b (a0 : Int) (A1 : Option Addr) (n1 c1 : Nat) (l1 : List Int) (A2 : Option Addr) (n2 c2 : Nat) (l2 : List Int) (a3 : Int) (A4 : Option Addr) (n4 c4 : Nat) (l4 : List Int) (e : Nat → Addr) (w : World) (hs1 : Has (sl 1 A1 n1 (ints .i64 l1)) w) (hn1 : n1 ≤ 9223372036854775807) (hcA1 : n1 ≤ c1) (hs2 : Has (sl 1 A2 n2 (ints .i64 l2)) w) (hn2 : n2 ≤ 9223372036854775807) (hcA2 : n2 ≤ c2) (hs4 : Has (sl 1 A4 n4 (ints .i64 l4)) w) (hn4 : n4 ≤ 9223372036854775807) (hcA4 : n4 ≤ c4) (_hf : Er e w 2) (_hz : Er e w 1) (_hl : Er e w 0) (hlo : ¬ 40 < n4) : Spec1 Tryd.prog 14 [.int .i64 a0, .slice A1 n1 c1, .slice A2 n2 c2, .int .i64 a3, .slice A4 n4 c4] w (.bool true) := by
  have hm := mkm_ok (k := 7) (by omega) (by omega) a0
  have hla := ints_len hs1
  subst hla
  have h14 := pow_le14 hm
  have hNs := N_succ (mkm 7 a0)
  have hNp := N_pos hm
  have hmh := hm.hi
  have hlb := ints_len hs2
  subst hlb
  have hlc := ints_len hs4
  subst hlc
  refine spec_of Tryd.func14 rfl Tryd.ntmps14 rfl ?_
  refine CW.seq ?_
  refine CW.reg [0] rfl ?_   -- 0, law.go:36
  refine s_as 10 rfl rfl ?_
  refine SX.next ?_
  refine CW.seq ?_
  refine CW.reg [0, 1] rfl ?_   -- 1, law.go:37
  refine s_call1 23 rfl rfl rfl rfl (fun w hw => first8_spec w) (fun _ _ => trivial) ?_
  refine s_as 11 rfl rfl ?_
  refine SX.next ?_
  refine CW.seq ?_
  refine CW.reg [0, 1, 2, 3, 4, 5, 6] rfl ?_   -- 2, law.go:38
  refine s_mv 25 rfl rfl ?_
  refine s_call 26 rfl rfl rfl rfl (fun w hw => made8_spec a0 w) (fun _ _ => trivial) (fun g _ => ?_)
  refine s_mv 24 rfl rfl ?_
  refine s_ext 27 rfl rfl rfl ?_
  refine s_ext 28 rfl rfl rfl ?_
  refine s_as 12 rfl rfl ?_
  refine s_as 13 rfl rfl ?_
  refine SX.next ?_
  refine CW.seq ?_
  refine CW.seq ?_
  refine CW.reg [0, 1, 2, 3, 4, 5, 6, 7, 8, 9, 10, 11, 12, 13, 14, 15, 16, 17, 18, 19, 20] rfl ?_   -- 3, law.go:39
  refine s_mv 29 rfl rfl ?_
  refine s_eqPN 30 rfl rfl ?_
  refine s_mv 31 rfl rfl ?_
  refine s_mv 32 rfl rfl ?_
  refine s_len 33 rfl rfl ?_
  refine s_gt 34 rfl rfl rfl rfl ?_
  refine s_pickF 35 rfl rfl rfl ?_
  refine s_mv 36 rfl rfl ?_
  refine SX.bool 36 rfl (fun hb => ?_) (fun hb => ?_)
  · skip
    skip
    refine SX.skip rfl ?_
    refine SX.skip rfl ?_
    refine SX.skip rfl ?_
    refine s_pickT 40 rfl rfl rfl ?_
    refine s_mv 41 rfl rfl ?_
    refine SX.skip rfl ?_
    refine SX.skip rfl ?_
    refine SX.skip rfl ?_
    refine s_pickT 45 rfl rfl rfl ?_
    refine s_mv 46 rfl rfl ?_
    refine SX.skip rfl ?_
    refine SX.skip rfl ?_
    refine s_pickT 49 rfl rfl rfl ?_
    refine SX.next ?_
    refine CW.condT rfl ?_
    refine CW.seq ?_
    refine CW.reg [0, 1, 2, 3, 4, 5] rfl ?_   -- 4, law.go:40
    refine s_mv 50 rfl rfl ?_
    refine s_mv 51 rfl rfl ?_
    refine s_mv 52 rfl rfl ?_
    refine s_nePN 53 rfl rfl ?_
    refine s_pickT 54 rfl rfl rfl ?_
    refine s_as 10 rfl rfl ?_
    refine SX.next ?_
    refine CW.ret ?_
    exact KN.ret (rs := [.tmp 10]) Tryd.results14 rfl (fun w hw => ⟨rfl, hw.nothing⟩)
  · skip
    have hp1 := of_decide_eq_false hb
    refine s_mv 37 rfl rfl ?_
    refine s_len 38 rfl rfl ?_
    refine s_gt 39 rfl rfl rfl rfl ?_
    refine s_pickF 40 rfl rfl rfl ?_
    refine s_mv 41 rfl rfl ?_
    refine SX.bool 41 rfl (fun hb => ?_) (fun hb => ?_)
    · skip
      skip
      refine SX.skip rfl ?_
      refine SX.skip rfl ?_
      refine SX.skip rfl ?_
      refine s_pickT 45 rfl rfl rfl ?_
      refine s_mv 46 rfl rfl ?_
      refine SX.skip rfl ?_
      refine SX.skip rfl ?_
      refine s_pickT 49 rfl rfl rfl ?_
      refine SX.next ?_
      refine CW.condT rfl ?_
      refine CW.seq ?_
      refine CW.reg [0, 1, 2, 3, 4, 5] rfl ?_   -- 4, law.go:40
      refine s_mv 50 rfl rfl ?_
      refine s_mv 51 rfl rfl ?_
      refine s_mv 52 rfl rfl ?_
      refine s_nePN 53 rfl rfl ?_
      refine s_pickT 54 rfl rfl rfl ?_
      refine s_as 10 rfl rfl ?_
      refine SX.next ?_
      refine CW.ret ?_
      exact KN.ret (rs := [.tmp 10]) Tryd.results14 rfl (fun w hw => ⟨rfl, hw.nothing⟩)
    · skip
      have hp2 := of_decide_eq_false hb
      refine s_mv 42 rfl rfl ?_
      refine s_len 43 rfl rfl ?_
      refine s_gt 44 rfl rfl rfl rfl ?_
      refine s_pickF 45 rfl rfl rfl ?_
      refine s_mv 46 rfl rfl ?_
      refine SX.bool 46 rfl (fun hb => ?_) (fun hb => ?_)
      · skip
        skip
        refine SX.skip rfl ?_
        refine SX.skip rfl ?_
        refine s_pickT 49 rfl rfl rfl ?_
        refine SX.next ?_
        refine CW.condT rfl ?_
        refine CW.seq ?_
        refine CW.reg [0, 1, 2, 3, 4, 5] rfl ?_   -- 4, law.go:40
        refine s_mv 50 rfl rfl ?_
        refine s_mv 51 rfl rfl ?_
        refine s_mv 52 rfl rfl ?_
        refine s_nePN 53 rfl rfl ?_
        refine s_pickT 54 rfl rfl rfl ?_
        refine s_as 10 rfl rfl ?_
        refine SX.next ?_
        refine CW.ret ?_
        exact KN.ret (rs := [.tmp 10]) Tryd.results14 rfl (fun w hw => ⟨rfl, hw.nothing⟩)
      · skip
        have hp3 := of_decide_eq_false hb
        have hx1 : l1.length ≤ 90 := by omega
        have hx2 : l2.length ≤ 90 := by omega
        have hx4 : l4.length ≤ 50 := by omega
        refine s_mv 47 rfl rfl ?_
        refine s_not 48 rfl rfl ?_
        refine s_pickF 49 rfl rfl rfl ?_
        refine SX.next ?_
        refine CW.condF rfl ?_
        refine CW.skip ?_
        refine KN.code ?_
        refine CW.seq ?_
        have hlt := lowL_lt (mkm 7 a0) (l1.take 80)
        obtain ⟨gg, hh, hF⟩ := bm_fast hm hlt (min l1.length 80)
        have hi := bm_inv hm hlt (min l1.length 80)
        have ho := bmG_ok hm (stF_ok hm) (lowL (mkm 7 a0) (l1.take 80)) (min l1.length 80)
        have hlen := len_same hm ho.tc hi.tc (f := fun _ => gg) (fun _ => hF.gl) (fun _ => hF.g0) hF.c
        have hcl := hi.cl
        have hc1 : 1 ≤ (bmG (mkm 7 a0) (stL (mkm 7 a0)) (lowL (mkm 7 a0) (l1.take 80)) (min l1.length 80)).c.length := Nat.pos_of_ne_zero fun h => by
          have h1 := hi.c0
          rw [cf_out (by omega)] at h1
          cases h1
        have hx0 : cf (bmG (mkm 7 a0) (stF (mkm 7 a0)) (lowL (mkm 7 a0) (l1.take 80)) (min l1.length 80)).c 0 = gg := by rw [hF.c, hi.c0, gm_one_left hm hF.gl]
        refine CW.reg [0, 1, 2, 3, 4, 5, 6, 7] rfl ?_   -- 5, law.go:42
        refine s_mv 56 rfl rfl ?_
        refine s_mv 57 rfl rfl ?_
        refine s_call 58 rfl rfl rfl rfl (fun w hw => locate_spec g (mkm 7 a0) A1 c1 l1 w hm (hw.has (i := 0) rfl) (hw.old hs1) (by omega) hcA1) (fun _ _ => trivial) (fun q58 hq58 => ?_)
        refine s_mv 55 rfl rfl ?_
        refine s_ext 59 rfl rfl rfl ?_
        refine s_ext 60 rfl rfl rfl ?_
        refine s_as 14 rfl rfl ?_
        refine s_as 15 rfl rfl ?_
        refine SX.next ?_
        refine CW.seq ?_
        refine CW.reg [0, 1, 2, 3, 4, 5, 6, 7] rfl ?_   -- 6, law.go:43
        refine s_mv 62 rfl rfl ?_
        refine s_mv 63 rfl rfl ?_
        refine s_call 64 rfl rfl rfl rfl (fun w hw => rlocate_spec (mkm 7 a0) A1 c1 l1 w hm (hw.old hs1) (by omega) hcA1) (fun _ _ => trivial) (fun q64 hq64 => ?_)
        refine s_mv 61 rfl rfl ?_
        refine s_ext 65 rfl rfl rfl ?_
        refine s_ext 66 rfl rfl rfl ?_
        refine s_as 16 rfl rfl ?_
        refine s_as 17 rfl rfl ?_
        refine SX.next ?_
        refine CW.seq ?_
        refine CW.reg [0, 1, 2, 3, 4, 5, 6, 7] rfl ?_   -- 7, law.go:44
        refine s_mv 68 rfl rfl ?_
        refine s_mv 69 rfl rfl ?_
        refine s_call 70 rfl rfl rfl rfl (fun w hw => fast_spec g (mkm 7 a0) A1 c1 l1 w hm (hw.has (i := 2) rfl) (hw.old hs1) (by omega) hcA1) (fun _ _ => trivial) (fun q70 hq70 => ?_)
        refine s_mv 67 rfl rfl ?_
        refine s_ext 71 rfl rfl rfl ?_
        refine s_ext 72 rfl rfl rfl ?_
        refine s_as 18 rfl rfl ?_
        refine s_as 19 rfl rfl ?_
        refine SX.next ?_
        refine CW.seq ?_
        refine CW.seq ?_
        refine CW.reg [0, 1, 2, 3, 4, 5, 6, 7, 8, 9, 10, 11, 12, 13, 14, 15, 16, 17, 18, 19, 20, 21, 22, 23, 24, 25] rfl ?_   -- 8, law.go:45
        refine s_mv 73 rfl rfl ?_
        refine s_mv 74 rfl rfl ?_
        refine s_call1 75 rfl rfl rfl rfl (v := .bool true) (fun w hw => by have := sameInts_spec q58.1 q64.1 (bmG (mkm 7 a0) (stL (mkm 7 a0)) (lowL (mkm 7 a0) (l1.take 80)) (min l1.length 80)).c.length q58.2 (bmG (mkm 7 a0) (stL (mkm 7 a0)) (lowL (mkm 7 a0) (l1.take 80)) (min l1.length 80)).c.length q64.2 ((bmG (mkm 7 a0) (stL (mkm 7 a0)) (lowL (mkm 7 a0) (l1.take 80)) (min l1.length 80)).c.map Int.ofNat) ((bmG (mkm 7 a0) (stL (mkm 7 a0)) (lowL (mkm 7 a0) (l1.take 80)) (min l1.length 80)).c.map Int.ofNat) _ (by rw [← nats_ints]; exact (hw.has (i := 2) rfl).of_own) (by rw [← nats_ints]; exact (hw.has (i := 1) rfl).of_own) (by omega); rw [decide_eq_true (rfl)] at this; exact this) (fun _ _ => trivial) ?_
        refine s_not 76 rfl rfl ?_
        refine s_mv 77 rfl rfl ?_
        refine s_mv 78 rfl rfl ?_
        refine s_mv 79 rfl rfl ?_
        refine s_ne 80 rfl rfl rfl (decide_eq_false (fun h => h rfl)) ?_
        refine s_pickF 81 rfl rfl rfl ?_
        refine s_mv 82 rfl rfl ?_
        refine s_mv 83 rfl rfl ?_
        refine s_mv 84 rfl rfl ?_
        refine s_ne 85 rfl rfl rfl (decide_eq_false (by rw [hF.L]; exact fun h => h rfl)) ?_
        refine s_pickF 86 rfl rfl rfl ?_
        refine s_mv 87 rfl rfl ?_
        refine s_mv 88 rfl rfl ?_
        refine s_len 89 rfl rfl ?_
        refine s_mv 90 rfl rfl ?_
        refine s_len 91 rfl rfl ?_
        refine s_ne 92 rfl rfl rfl (decide_eq_false (by rw [hlen]; exact fun h => h rfl)) ?_
        refine s_pickF 93 rfl rfl rfl ?_
        refine s_mv 94 rfl rfl ?_
        refine s_mv 95 rfl rfl ?_
        refine s_len 96 rfl rfl ?_
        refine s_eq 97 rfl rfl rfl (decide_eq_false (by omega)) ?_
        refine s_pickF 98 rfl rfl rfl ?_
        refine SX.next ?_
        refine CW.condF rfl ?_
        refine CW.skip ?_
        refine KN.code ?_
        refine CW.seq ?_
        refine CW.seq ?_
        refine CW.reg [0] rfl ?_   -- 10, law.go:48
        refine s_as 20 rfl rfl ?_
        refine SX.next ?_
        refine CW.block ?_
        refine CW.loop (G := Nat) (fun i => [(1, .slice A1 l1.length c1), (2, .slice A2 l2.length c2), (3, .int .i64 a3), (4, .slice A4 l4.length c4), (12, .pointer (some ⟨g, 0, none⟩)), (13, .int .i64 ((mkm 7 a0) : Nat)), (16, .slice q64.1 (bmG (mkm 7 a0) (stL (mkm 7 a0)) (lowL (mkm 7 a0) (l1.take 80)) (min l1.length 80)).c.length q64.2), (18, .slice q70.1 (bmG (mkm 7 a0) (stF (mkm 7 a0)) (lowL (mkm 7 a0) (l1.take 80)) (min l1.length 80)).c.length q70.2), (20, .int .i64 (i : Nat))]) (fun _ => Sto w [own 3 1 q70.1 (bmG (mkm 7 a0) (stF (mkm 7 a0)) (lowL (mkm 7 a0) (l1.take 80)) (min l1.length 80)).c.length q70.2 (nats .i64 (bmG (mkm 7 a0) (stF (mkm 7 a0)) (lowL (mkm 7 a0) (l1.take 80)) (min l1.length 80)).c), own 3 1 q64.1 (bmG (mkm 7 a0) (stL (mkm 7 a0)) (lowL (mkm 7 a0) (l1.take 80)) (min l1.length 80)).c.length q64.2 (nats .i64 (bmG (mkm 7 a0) (stL (mkm 7 a0)) (lowL (mkm 7 a0) (l1.take 80)) (min l1.length 80)).c), fieldA g (mkm 7 a0)]) (fun i => i ≤ (bmG (mkm 7 a0) (stF (mkm 7 a0)) (lowL (mkm 7 a0) (l1.take 80)) (min l1.length 80)).c.length) (fun i => (bmG (mkm 7 a0) (stF (mkm 7 a0)) (lowL (mkm 7 a0) (l1.take 80)) (min l1.length 80)).c.length - i) 0 ⟨rfl, rfl, rfl, rfl, rfl, rfl, rfl, rfl, rfl, trivial⟩ (fun _ h => h.pick [0, 0, 1] rfl) (Nat.zero_le _) ?_
        intro i hi2
        refine CW.seq ?_
        refine CW.seq ?_
        refine CW.reg [0, 1, 2, 3] rfl ?_   -- 11, law.go:48
        refine s_mv 99 rfl rfl ?_
        refine s_mv 100 rfl rfl ?_
        refine s_len 101 rfl rfl ?_
        refine s_lt 102 rfl rfl rfl rfl ?_
        refine SX.next ?_
        refine CW.test rfl (fun hc => ?_) (fun hc => ?_)
        · skip
          refine CW.skip ?_
          refine KN.code ?_
          refine CW.seq ?_
          refine CW.block ?_
          refine CW.seq ?_
          refine CW.regD (.st true 0 (.st true 1 (.st true 2 (.st true 3 (.st true 4 (.st true 5 (.st true 6 (.st true 7 (.st true 8 (.st true 9 (.st true 10 (.st true 11 (.st false 12 (.st true 13 (.st true 14 (.st true 15 (.st true 16 (.st true 17 (.st true 18 (.st true 19 .done)))))))))))))))))))) (Sto w [own 3 1 q70.1 (bmG (mkm 7 a0) (stF (mkm 7 a0)) (lowL (mkm 7 a0) (l1.take 80)) (min l1.length 80)).c.length q70.2 (nats .i64 (bmG (mkm 7 a0) (stF (mkm 7 a0)) (lowL (mkm 7 a0) (l1.take 80)) (min l1.length 80)).c), own 3 1 q64.1 (bmG (mkm 7 a0) (stL (mkm 7 a0)) (lowL (mkm 7 a0) (l1.take 80)) (min l1.length 80)).c.length q64.2 (nats .i64 (bmG (mkm 7 a0) (stL (mkm 7 a0)) (lowL (mkm 7 a0) (l1.take 80)) (min l1.length 80)).c), fieldA g (mkm 7 a0)]) mixed (by kernel_rfl) (fun _ h => h.drew) (fun _ h => h) ?_
          refine s_mv 105 rfl rfl ?_
          refine s_mv 106 rfl rfl ?_
          refine s_iaO 107 0 i rfl rfl rfl rfl rfl (by omega) ?_
          refine s_ldS 108 rfl rfl (fun _ h => h.ownCell (q := 0) rfl (natsAtC (by omega))) ?_
          refine s_mv 109 rfl rfl ?_
          refine s_mv 110 rfl rfl ?_
          refine s_iaO 111 0 0 rfl rfl rfl rfl rfl (by omega) ?_
          refine s_ldS 112 rfl rfl (fun _ h => h.ownCell (q := 0) rfl (natsAtC (by omega))) ?_
          refine s_mv 113 rfl rfl ?_
          refine s_mv 114 rfl rfl ?_
          refine s_iaO 115 1 i rfl rfl rfl rfl rfl (by omega) ?_
          refine s_ldS 116 rfl rfl (fun _ h => h.ownCell (q := 1) rfl (natsAtC (by omega))) ?_
          refine s_call1 117 rfl rfl rfl rfl (v := .int .i64 (cf (bmG (mkm 7 a0) (stF (mkm 7 a0)) (lowL (mkm 7 a0) (l1.take 80)) (min l1.length 80)).c i : Nat)) (fun w hw => by have := rmulN (w := w) hm (ho.tc.c 0) (hi.tc.c i); rw [hx0, gm_comm hm hF.gl (hi.tc.c i), ← hF.c] at this; rw [hx0]; exact this) (fun _ h => h) ?_
          refine s_ne 118 rfl rfl rfl (decide_eq_false (fun h => h rfl)) ?_
          refine s_mv 119 rfl rfl ?_
          refine s_mv 120 rfl rfl ?_
          refine s_iaO 121 0 0 rfl rfl rfl rfl rfl (by omega) ?_
          refine s_ldS 122 rfl rfl (fun _ h => h.ownCell (q := 0) rfl (natsAtC (by omega))) ?_
          refine s_eq 123 rfl rfl rfl (decide_eq_false (by rw [hx0]; have := hF.g0; omega)) ?_
          refine s_pickF 124 rfl rfl rfl ?_
          refine SX.next ?_
          refine CW.condF rfl ?_
          refine CW.skip ?_
          refine KN.blk ?_
          refine KN.code ?_
          refine CW.reg [0, 1, 2] rfl ?_   -- 12, law.go:48
          refine s_mv 103 rfl rfl ?_
          refine s_add 104 rfl rfl rfl (r := ((i + 1 : Nat) : Int)) (w64 (by omega)) ?_
          refine s_as 20 rfl rfl ?_
          refine SX.end_ ?_
          exact KN.back (i + 1) ⟨rfl, rfl, rfl, rfl, rfl, rfl, rfl, rfl, rfl, trivial⟩ (fun _ h => h) (by omega) (by omega)
        · skip
          refine CW.exit rfl ?_
          refine KN.code ?_
          refine CW.seq ?_
          refine CW.reg [0, 1, 2, 3, 4, 5, 6, 7] rfl ?_   -- 15, law.go:53
          refine s_mv 126 rfl rfl ?_
          refine s_mv 127 rfl rfl ?_
          refine s_call 128 rfl rfl rfl rfl (fun w hw => of_spec g (mkm 7 a0) A4 l4.length c4 l4 w hm (hw.has (i := 2) rfl) (hw.old hs4) (by omega)) (fun _ _ => trivial) (fun q128 hq128 => ?_)
          refine s_mv 125 rfl rfl ?_
          refine s_ext 129 rfl rfl rfl ?_
          refine s_ext 130 rfl rfl rfl ?_
          refine s_as 21 rfl rfl ?_
          refine s_as 22 rfl rfl ?_
          refine SX.next ?_
          refine CW.seq ?_
          refine CW.seq ?_
          refine CW.reg [0, 1, 2] rfl ?_   -- 16, law.go:54
          refine s_mv 131 rfl rfl ?_
          refine s_len 132 rfl rfl ?_
          refine s_gt 133 rfl rfl rfl (decide_eq_false (by omega)) ?_
          refine SX.next ?_
          refine CW.condF rfl ?_
          refine CW.seq ?_
          have hol := ofP_le hm l4 l4.length
          refine CW.reg [0, 1, 2, 3, 4, 5, 6, 7, 8, 9] rfl ?_   -- 19, law.go:58
          refine s_mv 142 rfl rfl ?_
          refine s_neNN 143 rfl rfl ?_
          refine s_mv 144 rfl rfl ?_
          refine s_mv 145 rfl rfl ?_
          refine s_mv 146 rfl rfl ?_
          refine s_mv 147 rfl rfl ?_
          refine s_call 148 rfl rfl rfl rfl (fun w hw => rplaces_spec (mkm 7 a0) A4 l4.length c4 l4 w hm (hw.old hs4) (by omega)) (fun _ _ => trivial) (fun q148 hq148 => ?_)
          refine s_call1 149 rfl rfl rfl rfl (v := .bool true) (fun w hw => by have := sameInts_spec q128.1 q148.1 (ofP (mkm 7 a0) l4 l4.length).length q128.2 (ofP (mkm 7 a0) l4 l4.length).length q148.2 ((ofP (mkm 7 a0) l4 l4.length).map Int.ofNat) ((ofP (mkm 7 a0) l4 l4.length).map Int.ofNat) _ (by rw [← nats_ints]; exact (hw.has (i := 1) rfl).of_own) (by rw [← nats_ints]; exact (hw.has (i := 0) rfl).of_own) (by omega); rw [decide_eq_true (rfl)] at this; exact this) (fun _ _ => trivial) ?_
          refine s_not 150 rfl rfl ?_
          refine s_pickF 151 rfl rfl rfl ?_
          refine SX.next ?_
          refine CW.condF rfl ?_
          refine CW.skip ?_
          refine KN.code ?_
          refine CW.seq ?_
          refine CW.reg [0, 1, 2, 3, 4, 5, 6, 7, 8, 9, 10, 11] rfl ?_   -- 21, law.go:61
          refine s_mv 152 rfl rfl ?_
          refine s_mv 153 rfl rfl ?_
          refine s_mv 154 rfl rfl ?_
          refine s_mv 155 rfl rfl ?_
          refine s_call1 156 rfl rfl rfl rfl (fun w hw => makes_spec g (mkm 7 a0) A2 l2.length c2 l2 a3 A1 l1.length c1 l1 w hm (hw.has (i := 4) rfl) (hw.old hs2) (hw.old hs1) (by omega) (by omega)) (fun _ _ => trivial) ?_
          refine s_mv 157 rfl rfl ?_
          refine s_mv 158 rfl rfl ?_
          refine s_mv 159 rfl rfl ?_
          refine s_mv 160 rfl rfl ?_
          refine s_call1 161 rfl rfl rfl rfl (fun w hw => rmakes_spec (mkm 7 a0) A2 l2.length c2 l2 a3 A1 l1.length c1 l1 w hm (hw.old hs2) (hw.old hs1) (by omega) (by omega)) (fun _ _ => trivial) ?_
          refine s_eqB 162 rfl rfl rfl (r := true) (beq_self_eq_true _) ?_
          refine s_as 10 rfl rfl ?_
          refine SX.next ?_
          refine CW.ret ?_
          exact KN.ret (rs := [.tmp 10]) Tryd.results14 rfl (fun w hw => ⟨rfl, hw.nothing⟩)

theorem walk_LocateSays (a0 : Int) (A1 : Option Addr) (n1 c1 : Nat) (l1 : List Int) (A2 : Option Addr) (n2 c2 : Nat) (l2 : List Int) (a3 : Int) (A4 : Option Addr) (n4 c4 : Nat) (l4 : List Int) (e : Nat → Addr) (w : World) (hs1 : Has (sl 1 A1 n1 (ints .i64 l1)) w) (hn1 : n1 ≤ 9223372036854775807) (hcA1 : n1 ≤ c1) (hs2 : Has (sl 1 A2 n2 (ints .i64 l2)) w) (hn2 : n2 ≤ 9223372036854775807) (hcA2 : n2 ≤ c2) (hs4 : Has (sl 1 A4 n4 (ints .i64 l4)) w) (hn4 : n4 ≤ 9223372036854775807) (hcA4 : n4 ≤ c4) (hf : Er e w 2) (hz : Er e w 1) (hl : Er e w 0) : Spec1 Tryd.prog 14 [.int .i64 a0, .slice A1 n1 c1, .slice A2 n2 c2, .int .i64 a3, .slice A4 n4 c4] w (.bool true) := by
  by_cases h : 40 < n4
  · exact says_a a0 A1 n1 c1 l1 A2 n2 c2 l2 a3 A4 n4 c4 l4 e w hs1 hn1 hcA1 hs2 hn2 hcA2 hs4 hn4 hcA4 hf hz hl h
  · exact says_b a0 A1 n1 c1 l1 A2 n2 c2 l2 a3 A4 n4 c4 l4 e w hs1 hn1 hcA1 hs2 hn2 hcA2 hs4 hn4 hcA4 hf hz hl h
