/- The contracts of shaleref2's polynomials: they are those of package fieldpoly. Conditions: an m that may be; the lists are read where they lie. -/
import Derived.Test.YtfhfckoemgkdlaaDoorPr2
import Derived.Test.YtfhfckoemgkdlaaDoorReff
namespace Go.Proofs.YtfhfckoemgkdlaaDoor
open Go.Sx Go.Fm
set_option maxRecDepth 100000
theorem _root_.Go.Sx.St.ownCut {F : Nat → Prop} {w₀ w : World} {L : List Atom} {q k E sz m c : Nat} {A : Option Addr} {xs : List Value} (hi : L[q]? = some (own E sz A m c xs)) (hk : k ≤ m) (h : St F w₀ L w) : St F w₀ (L.set q (own E sz A k c (xs.take (k * sz)))) w :=
  h.swap hi (fun _ D ⟨⟨h1, h2⟩, hD⟩ _ => ⟨D, ⟨⟨by rw [List.length_take, h1]; exact Nat.min_eq_left (Nat.mul_le_mul_right _ hk), by
    rcases h2 with ⟨h2, h3⟩ | ⟨g, cap, cur, hv, hb, hh, hc, hm, hs, ht⟩
    · injection h2 with h4 h5 h6
      exact .inl ⟨by rw [h4, h6, show k = 0 by omega], by omega⟩
    · injection hv with h4 h5 h6
      refine .inr ⟨g, cap, cur, by rw [h4, h6], hb, hh, by omega, hm, hs, ?_⟩
      rw [← ht, List.take_take, Nat.min_eq_left (Nat.mul_le_mul_right _ hk)]⟩, hD⟩, fun _ h => h⟩)

theorem lowL_take2 {m : Nat} {l : List Int} {i : Nat} (h : i < l.length) : (lowL m l).take (i + 1) = (lowL m l).take i ++ [lo m (l.getD i 0)] := by
  have e1 : (lowL m l).take (i + 1) = lowL m (l.take (i + 1)) := by simp [lowL, List.map_take]
  have e2 : (lowL m l).take i = lowL m (l.take i) := by simp [lowL, List.map_take]
  rw [e1, e2, lowL_take m l h]
theorem cf_take {a : List Nat} {k j : Nat} (h : j < k) : cf (a.take k) j = cf a j := by
  unfold cf
  simp only [List.getD_eq_getElem?_getD]
  rw [List.getElem?_take, if_pos h]

theorem rtrim_spec (m : Nat) (A : Option Addr) (n c : Nat) (l : List Int) (w : World) (hm : Ok m) (ha : Has (sl 1 A n (ints .i64 l)) w) (hn : n ≤ 4294967296) : SpecL Tryd.prog 22 [.int .i64 (m : Nat), .slice A n c] w (trim (lowL m l)) := by
  have hla := ints_len ha
  subst hla
  have hlen := lowL_len m l
  have htl := tl_le (lowL m l)
  refine spec_of Tryd.func22 rfl Tryd.ntmps22 rfl ?_
  refine CW.seq ?_
  refine CW.reg [0] rfl ?_   -- 0, field.go:104
  refine s_as 4 rfl rfl ?_
  refine SX.next ?_
  refine CW.seq ?_
  refine CW.reg [0] rfl ?_   -- 1, field.go:105
  refine s_as 5 rfl rfl ?_
  refine SX.next ?_
  refine CW.seq ?_
  refine CW.seq ?_
  refine CW.reg [0] rfl ?_   -- 2, field.go:106
  refine s_as 6 rfl rfl ?_
  refine SX.next ?_
  refine CW.block ?_
  refine CW.loop (G := Nat × Option Addr × Nat) (fun q => [(0, .int .i64 (m : Nat)), (1, .slice A l.length c), (5, .slice q.2.1 q.1 q.2.2), (6, .int .i64 (q.1 : Nat))]) (fun q => Sto w [own 3 1 q.2.1 q.1 q.2.2 (nats .i64 ((lowL m l).take q.1))]) (fun q => q.1 ≤ l.length ∧ q.1 ≤ q.2.2) (fun q => l.length - q.1) (0, none, 0) ⟨rfl, rfl, rfl, rfl, trivial⟩ (fun _ h => h.begin_ _ 1) ⟨Nat.zero_le _, Nat.le_refl _⟩ ?_
  intro q hq
  have hq0 := hq.1
  have hqc := hq.2
  refine CW.seq ?_
  refine CW.seq ?_
  refine CW.reg [0, 1, 2, 3] rfl ?_   -- 3, field.go:106
  refine s_mv 7 rfl rfl ?_
  refine s_mv 8 rfl rfl ?_
  refine s_len 9 rfl rfl ?_
  refine s_lt 10 rfl rfl rfl rfl ?_
  refine SX.next ?_
  refine CW.test rfl (fun hc => ?_) (fun hc => ?_)
  · skip
    refine CW.skip ?_
    refine KN.code ?_
    refine CW.seq ?_
    refine CW.block ?_
    refine CW.reg [0, 1, 2, 3, 4, 5, 6, 7, 8, 9] rfl ?_   -- 5, field.go:107
    refine s_mv 13 rfl rfl ?_
    refine s_mv 14 rfl rfl ?_
    refine s_mv 15 rfl rfl ?_
    refine s_mv 16 rfl rfl ?_
    refine s_iaV 17 q.1 (fun w hw => hw.old ha) rfl rfl rfl rfl (by omega) ?_
    refine s_ldV 18 (fun w hw => hw.old ha) rfl rfl (by rw [Nat.mul_one]; exact intsAt (by omega)) (by omega) ?_
    refine s_call1 19 rfl rfl rfl rfl (fun w hw => rlow_spec m _ _ hm) (fun _ _ => trivial) ?_
    refine s_bsl 20 rfl rfl (cells := #[.int .i64 (lo m (l.getD q.1 0) : Nat)]) (by kernel_rfl) rfl (fun _ _ => trivial) (fun gb => ?_)
    refine s_app 21 1 rfl rfl rfl rfl (ys := [.int .i64 (lo m (l.getD q.1 0) : Nat)]) (fun w hw => Has.cong ((hw.has (i := 0) rfl).blk_sl (m := 1) rfl) rfl) rfl rfl (by omega) (by unfold maxLen; omega) (by omega) (fun _ _ _ _ => trivial) (fun A2 c2 hc2 => ?_)
    refine s_as 5 rfl rfl ?_
    refine SX.end_ ?_
    refine KN.blk ?_
    refine KN.code ?_
    refine CW.reg [0, 1, 2] rfl ?_   -- 4, field.go:106
    refine s_mv 11 rfl rfl ?_
    refine s_add 12 rfl rfl rfl (r := ((q.1 + 1 : Nat) : Int)) (w64 (by omega)) ?_
    refine s_as 6 rfl rfl ?_
    refine SX.end_ ?_
    exact KN.back (q.1 + 1, A2, c2) ⟨rfl, rfl, rfl, rfl, trivial⟩ (fun _ h => by simp only; rw [lowL_take2 (by omega), ← nats_snoc]; exact h.pick [1] rfl) ⟨by simp only; omega, hc2⟩ (by simp only; omega)
  · skip
    have hqe : q.1 = l.length := by omega
    refine CW.exit rfl ?_
    refine KN.code ?_
    refine CW.seq ?_
    refine CW.block ?_
    refine CW.loop (G := Nat) (fun k => [(5, .slice q.2.1 k q.2.2)]) (fun k => Sto w [own 3 1 q.2.1 k q.2.2 (nats .i64 ((lowL m l).take k))]) (fun k => tl (lowL m l) ≤ k ∧ k ≤ l.length) (fun k => k) q.1 ⟨rfl, trivial⟩ (fun _ h => h) ⟨by omega, by omega⟩ ?_
    intro k hk0
    obtain ⟨hk1, hk2⟩ := hk0
    refine CW.seq ?_
    refine CW.seq ?_
    refine CW.reg [0, 1, 2, 3, 4, 5, 6, 7, 8, 9, 10, 11] rfl ?_   -- 6, field.go:109
    refine s_mv 22 rfl rfl ?_
    refine s_len 23 rfl rfl ?_
    refine s_gt 24 rfl rfl rfl rfl ?_
    refine s_mv 25 rfl rfl ?_
    refine SX.bool 25 rfl (fun hb => ?_) (fun hb => ?_)
    · skip
      replace hb := of_decide_eq_true hb
      refine s_mv 26 rfl rfl ?_
      refine s_mv 27 rfl rfl ?_
      refine s_len 28 rfl rfl ?_
      refine s_sub 29 rfl rfl rfl (r := ((k - 1 : Nat) : Int)) (by rw [show ((k : Nat) : Int) - 1 = ((k - 1 : Nat) : Int) by omega]; exact w64 (by omega)) ?_
      refine s_iaO 30 0 (k - 1) rfl rfl rfl rfl rfl (by omega) ?_
      refine s_ldO 31 0 rfl rfl rfl (v := .int .i64 (cf (lowL m l) (k - 1) : Nat)) (by rw [natsAtC (by rw [List.length_take]; omega), cf_take (by omega)]) ?_
      refine s_eq 32 rfl rfl rfl rfl ?_
      refine s_pickT 33 rfl rfl rfl ?_
      refine SX.next ?_
      refine CW.test rfl (fun hc => ?_) (fun hc => ?_)
      · skip
        have hk3 : tl (lowL m l) ≤ k - 1 := by
          by_cases h : tl (lowL m l) = k
          · have := cf_top (lowL m l) (by omega)
            rw [h] at this
            omega
          · omega
        refine CW.skip ?_
        refine KN.code ?_
        refine CW.block ?_
        refine CW.reg [0, 1, 2, 3, 4, 5] rfl ?_   -- 7, field.go:110
        refine s_mv 34 rfl rfl ?_
        refine s_mv 35 rfl rfl ?_
        refine s_len 36 rfl rfl ?_
        refine s_sub 37 rfl rfl rfl (r := ((k - 1 : Nat) : Int)) (by rw [show ((k : Nat) : Int) - 1 = ((k - 1 : Nat) : Int) by omega]; exact w64 (by omega)) ?_
        refine s_slH 38 (k - 1) rfl rfl rfl rfl (by omega) ?_
        refine SX.pre (fun _ h => h.ownCut (q := 0) (k := k - 1) rfl (by omega)) ?_
        refine s_as 5 rfl rfl ?_
        refine SX.end_ ?_
        refine KN.blk ?_
        exact KN.back (k - 1) ⟨rfl, trivial⟩ (fun _ h => by rw [nats_take, List.take_take, Nat.mul_one, Nat.min_eq_left (by omega)] at h; exact h) ⟨hk3, by omega⟩ (by omega)
      · skip
        have hk3 : k ≤ tl (lowL m l) := Nat.le_of_not_lt (fun h => hc (by rw [cf_hi (lowL m l) (k - 1) (by omega)]; rfl))
        have hE : (lowL m l).take k = trim (lowL m l) := by unfold trim; rw [show k = tl (lowL m l) by omega]
        have hk : (trim (lowL m l)).length = k := by rw [trim_length]; omega
        refine CW.exit rfl ?_
        refine KN.code ?_
        refine CW.seq ?_
        refine CW.reg [0, 1] rfl ?_   -- 8, field.go:112
        refine s_mv 39 rfl rfl ?_
        refine s_as 4 rfl rfl ?_
        refine SX.next ?_
        refine CW.ret ?_
        exact KN.ret (rs := [.tmp 4]) Tryd.results22 rfl (fun w hw => ⟨(q.2.1, q.2.2), by rw [hk]; rfl, by rw [hk]; show k ≤ q.2.2; omega, by rw [hk, ← hE]; exact hw⟩)
    · skip
      replace hb := of_decide_eq_false hb
      refine SX.skip rfl ?_
      refine SX.skip rfl ?_
      refine SX.skip rfl ?_
      refine SX.skip rfl ?_
      refine SX.skip rfl ?_
      refine SX.skip rfl ?_
      refine SX.skip rfl ?_
      refine s_pickF 33 rfl rfl rfl ?_
      refine SX.next ?_
      refine CW.condF rfl ?_
      refine CW.exit rfl ?_
      refine KN.code ?_
      refine CW.seq ?_
      have hE : (lowL m l).take k = trim (lowL m l) := by unfold trim; rw [show k = tl (lowL m l) by omega]
      have hk : (trim (lowL m l)).length = k := by rw [trim_length]; omega
      refine CW.reg [0, 1] rfl ?_   -- 8, field.go:112
      refine s_mv 39 rfl rfl ?_
      refine s_as 4 rfl rfl ?_
      refine SX.next ?_
      refine CW.ret ?_
      exact KN.ret (rs := [.tmp 4]) Tryd.results22 rfl (fun w hw => ⟨(q.2.1, q.2.2), by rw [hk]; rfl, by rw [hk]; show k ≤ q.2.2; omega, by rw [hk, ← hE]; exact hw⟩)

theorem reval_spec (m : Nat) (A : Option Addr) (n c : Nat) (l : List Int) (x : Int) (w : World) (hm : Ok m) (ha : Has (sl 1 A n (ints .i64 l)) w) (hn : n ≤ 4294967296) : Spec1 Tryd.prog 30 [.int .i64 (m : Nat), .slice A n c, .int .i64 x] w (.int .i64 (evL m (lowL m l) (lo m x) : Nat)) := by
  have hla := ints_len ha
  subst hla
  have hlen := lowL_len m l
  have hlt := lowL_lt m l
  refine spec_of Tryd.func30 rfl Tryd.ntmps30 rfl ?_
  refine CW.seq ?_
  refine CW.reg [0] rfl ?_   -- 0, field.go:160
  refine s_as 6 rfl rfl ?_
  refine SX.next ?_
  refine CW.seq ?_
  refine CW.reg [0] rfl ?_   -- 1, field.go:161
  refine s_as 7 (v := .int .i64 (evL m ((lowL m l).drop l.length) (lo m x) : Nat)) rfl (by rw [← hlen, List.drop_length]; rfl) ?_
  refine SX.next ?_
  refine CW.seq ?_
  refine CW.seq ?_
  refine CW.reg [0, 1, 2, 3] rfl ?_   -- 2, field.go:162
  refine s_mv 9 rfl rfl ?_
  refine s_len 10 rfl rfl ?_
  refine s_sub 11 rfl rfl rfl (w64 (by omega)) ?_
  refine s_as 8 rfl rfl ?_
  refine SX.next ?_
  refine CW.block ?_
  refine CW.loop (G := Nat) (fun j => [(0, .int .i64 (m : Nat)), (1, .slice A l.length c), (2, .int .i64 x), (7, .int .i64 (evL m ((lowL m l).drop j) (lo m x) : Nat)), (8, .int .i64 ((j : Nat) - 1))]) (fun _ => Sto w []) (fun j => j ≤ l.length) (fun j => j) l.length ⟨rfl, rfl, rfl, rfl, rfl, trivial⟩ (fun _ h => h) (Nat.le_refl _) ?_
  intro j hj
  have hev := evL_lt hm (lo m x) (l := (lowL m l).drop j) (fun a ha => hlt a (List.mem_of_mem_drop ha))
  refine CW.seq ?_
  refine CW.seq ?_
  refine CW.reg [0, 1] rfl ?_   -- 3, field.go:162
  refine s_mv 12 rfl rfl ?_
  refine s_ge 13 rfl rfl rfl rfl ?_
  refine SX.next ?_
  refine CW.test rfl (fun hc => ?_) (fun hc => ?_)
  · skip
    have h0 : 0 < j := by omega
    have hdr := low_drop (m := m) h0 hj
    refine CW.skip ?_
    refine KN.code ?_
    refine CW.seq ?_
    refine CW.block ?_
    refine CW.regD (.st true 0 (.st true 1 (.st true 2 (.st true 4 (.st true 5 (.st true 6 (.st true 7 (.st true 8 (.st false 3 (.st false 9 (.st true 10 (.st true 11 .done)))))))))))) (Sto w []) mixed (by kernel_rfl) (fun _ h => h.drew) (fun _ h => h) ?_
    refine s_mv 16 rfl rfl ?_
    refine s_mv 17 rfl rfl ?_
    refine s_mv 18 rfl rfl ?_
    refine s_mv 20 rfl rfl ?_
    refine s_mv 21 rfl rfl ?_
    refine s_mv 22 rfl rfl ?_
    refine s_iaV 23 (j - 1) (fun w hw => hw.old ha) rfl rfl rfl (by omega) (by omega) ?_
    refine s_ldVS 24 (fun w hw => hw.old ha) rfl rfl (by rw [Nat.mul_one]; exact intsAt (by omega)) (by omega) ?_
    refine s_call1 19 rfl rfl rfl rfl (v := .int .i64 (gm m (evL m ((lowL m l).drop j) (lo m x)) (lo m x) : Nat)) (fun w hw => by have := rmul_spec m (evL m ((lowL m l).drop j) (lo m x) : Nat) x w hm; rw [lo_nat hev] at this; exact this) (fun _ h => h) ?_
    refine s_call1 25 rfl rfl rfl rfl (fun w hw => rlow_spec m _ _ hm) (fun _ h => h) ?_
    refine s_bit 26 rfl rfl rfl rfl (r := ((evL m ((lowL m l).drop (j - 1)) (lo m x) : Nat) : Int)) (by rw [hdr]; exact ibit_xor_nat (pow63 hm (gm_lt hm hev _)) (pow63 hm (lo_lt m _))) ?_
    refine s_as 7 rfl rfl ?_
    refine SX.end_ ?_
    refine KN.blk ?_
    refine KN.code ?_
    refine CW.reg [0, 1, 2] rfl ?_   -- 4, field.go:162
    refine s_mv 14 rfl rfl ?_
    refine s_sub 15 rfl rfl rfl (r := ((j - 1 : Nat) : Int) - 1) (by rw [show ((j : Nat) : Int) - 1 - 1 = ((j - 1 : Nat) : Int) - 1 by omega]; exact w64 (by omega)) ?_
    refine s_as 8 rfl rfl ?_
    refine SX.end_ ?_
    exact KN.back (j - 1) ⟨rfl, rfl, rfl, rfl, rfl, trivial⟩ (fun _ h => h) (by omega) (by omega)
  · skip
    obtain rfl : j = 0 := by omega
    refine CW.exit rfl ?_
    refine KN.code ?_
    refine CW.seq ?_
    refine CW.reg [0, 1] rfl ?_   -- 6, field.go:165
    refine s_mv 27 rfl rfl ?_
    refine s_as 6 rfl rfl ?_
    refine SX.next ?_
    refine CW.ret ?_
    exact KN.ret (rs := [.tmp 6]) Tryd.results30 rfl (fun w hw => ⟨rfl, hw.nothing⟩)

theorem rder_all {m : Nat} (l : List Int) : trim (lowL m (tab (l.length - 1) (fun j => if (j + 1) % 2 = 1 then l.getD (j + 1) 0 else 0))) = derP (lowL m l) := by
  rw [trim_tab]
  unfold derP
  refine pl_eq (fun j => ?_)
  rw [lowL_len, cf_low]
  split
  · split
    · rfl
    · exact lo_zero m
  · rfl

theorem rderive_spec (m : Nat) (A : Option Addr) (n c : Nat) (l : List Int) (w : World) (hm : Ok m) (ha : Has (sl 1 A n (ints .i64 l)) w) (hn : n ≤ 4294967296) : SpecL Tryd.prog 61 [.int .i64 (m : Nat), .slice A n c] w (derP (lowL m l)) := by
  have hla := ints_len ha
  subst hla
  refine spec_of Tryd.func61 rfl Tryd.ntmps61 rfl ?_
  refine CW.seq ?_
  refine CW.reg [0] rfl ?_   -- 0, field.go:169
  refine s_as 4 rfl rfl ?_
  refine SX.next ?_
  refine CW.seq ?_
  refine CW.reg [0] rfl ?_   -- 1, field.go:170
  refine s_as 5 rfl rfl ?_
  refine SX.next ?_
  refine CW.seq ?_
  refine CW.seq ?_
  refine CW.reg [0] rfl ?_   -- 2, field.go:171
  refine s_as 6 rfl rfl ?_
  refine SX.next ?_
  refine CW.block ?_
  refine CW.loop (G := Nat × Option Addr × Nat) (fun q => [(0, .int .i64 (m : Nat)), (1, .slice A l.length c), (5, .slice q.2.1 q.1 q.2.2), (6, .int .i64 ((q.1 + 1 : Nat) : Int))]) (fun q => Sto w [own 3 1 q.2.1 q.1 q.2.2 (ints .i64 (tab q.1 (fun j => if (j + 1) % 2 = 1 then l.getD (j + 1) 0 else 0)))]) (fun q => q.1 ≤ l.length - 1) (fun q => l.length - q.1) (0, none, 0) ⟨rfl, rfl, rfl, rfl, trivial⟩ (fun _ h => h.begin_ _ 1) (Nat.zero_le _) ?_
  intro q hq
  refine CW.seq ?_
  refine CW.seq ?_
  refine CW.reg [0, 1, 2, 3] rfl ?_   -- 3, field.go:171
  refine s_mv 8 rfl rfl ?_
  refine s_mv 9 rfl rfl ?_
  refine s_len 10 rfl rfl ?_
  refine s_lt 11 rfl rfl rfl rfl ?_
  refine SX.next ?_
  refine CW.test rfl (fun hc => ?_) (fun hc => ?_)
  · skip
    refine CW.skip ?_
    refine KN.code ?_
    refine CW.seq ?_
    refine CW.block ?_
    refine CW.seq ?_
    refine CW.reg [0] rfl ?_   -- 5, field.go:172
    refine s_as 7 rfl rfl ?_
    refine SX.next ?_
    refine CW.seq ?_
    refine CW.seq ?_
    refine CW.reg [0, 1, 2] rfl ?_   -- 6, field.go:173
    refine s_mv 14 rfl rfl ?_
    refine s_rem 15 rfl rfl rfl (by omega) (r := (((q.1 + 1) % 2 : Nat) : Int)) rfl ?_
    refine s_eq 16 rfl rfl rfl rfl ?_
    refine SX.next ?_
    refine CW.test rfl (fun hc2 => ?_) (fun hc2 => ?_)
    · skip
      have hval : l.getD (q.1 + 1) 0 = (fun j => if (j + 1) % 2 = 1 then l.getD (j + 1) 0 else 0) q.1 := (if_pos (by omega)).symm
      refine CW.reg [0, 1, 2, 3, 4] rfl ?_   -- 7, field.go:174
      refine s_mv 17 rfl rfl ?_
      refine s_mv 18 rfl rfl ?_
      refine s_iaV 19 (q.1 + 1) (fun w hw => hw.old ha) rfl rfl rfl rfl (by omega) ?_
      refine s_ldV 20 (fun w hw => hw.old ha) rfl rfl (v := .int .i64 ((fun j => if (j + 1) % 2 = 1 then l.getD (j + 1) 0 else 0) q.1)) (by rw [Nat.mul_one, intsAt (by omega), hval]) (by omega) ?_
      refine s_as 7 rfl rfl ?_
      refine SX.next ?_
      refine CW.reg [0, 1, 2, 3, 4] rfl ?_   -- 8, field.go:176
      refine s_mv 21 rfl rfl ?_
      refine s_mv 22 rfl rfl ?_
      refine s_bsl 23 rfl rfl (cells := #[.int .i64 ((fun j => if (j + 1) % 2 = 1 then l.getD (j + 1) 0 else 0) q.1)]) (by kernel_rfl) rfl (fun _ _ => trivial) (fun gb => ?_)
      refine s_app 24 1 rfl rfl rfl rfl (ys := [.int .i64 ((fun j => if (j + 1) % 2 = 1 then l.getD (j + 1) 0 else 0) q.1)]) (fun w hw => Has.cong ((hw.has (i := 0) rfl).blk_sl (m := 1) rfl) rfl) rfl rfl (by omega) (by unfold maxLen; omega) (by omega) (fun _ _ _ _ => trivial) (fun A2 c2 hc2 => ?_)
      refine s_as 5 rfl rfl ?_
      refine SX.end_ ?_
      refine KN.blk ?_
      refine KN.code ?_
      refine CW.reg [0, 1, 2] rfl ?_   -- 4, field.go:171
      refine s_mv 12 rfl rfl ?_
      refine s_add 13 rfl rfl rfl (r := ((q.1 + 1 + 1 : Nat) : Int)) (w64 (by omega)) ?_
      refine s_as 6 rfl rfl ?_
      refine SX.end_ ?_
      exact KN.back (q.1 + 1, A2, c2) ⟨rfl, rfl, rfl, rfl, trivial⟩ (fun _ h => by simp only; rw [← tab_snoc]; exact h.pick [1] rfl) (by simp only; omega) (by simp only; omega)
    · skip
      have hval : (0 : Int) = (fun j => if (j + 1) % 2 = 1 then l.getD (j + 1) 0 else 0) q.1 := (if_neg (by omega)).symm
      refine CW.skip ?_
      refine KN.code ?_
      refine CW.reg [0, 1, 2, 3, 4] rfl ?_   -- 8, field.go:176
      refine s_mv 21 rfl rfl ?_
      refine s_mv 22 (v := .int .i64 ((fun j => if (j + 1) % 2 = 1 then l.getD (j + 1) 0 else 0) q.1)) rfl (by rw [← hval]; rfl) ?_
      refine s_bsl 23 rfl rfl (cells := #[.int .i64 ((fun j => if (j + 1) % 2 = 1 then l.getD (j + 1) 0 else 0) q.1)]) (by kernel_rfl) rfl (fun _ _ => trivial) (fun gb => ?_)
      refine s_app 24 1 rfl rfl rfl rfl (ys := [.int .i64 ((fun j => if (j + 1) % 2 = 1 then l.getD (j + 1) 0 else 0) q.1)]) (fun w hw => Has.cong ((hw.has (i := 0) rfl).blk_sl (m := 1) rfl) rfl) rfl rfl (by omega) (by unfold maxLen; omega) (by omega) (fun _ _ _ _ => trivial) (fun A2 c2 hc2 => ?_)
      refine s_as 5 rfl rfl ?_
      refine SX.end_ ?_
      refine KN.blk ?_
      refine KN.code ?_
      refine CW.reg [0, 1, 2] rfl ?_   -- 4, field.go:171
      refine s_mv 12 rfl rfl ?_
      refine s_add 13 rfl rfl rfl (r := ((q.1 + 1 + 1 : Nat) : Int)) (w64 (by omega)) ?_
      refine s_as 6 rfl rfl ?_
      refine SX.end_ ?_
      exact KN.back (q.1 + 1, A2, c2) ⟨rfl, rfl, rfl, rfl, trivial⟩ (fun _ h => by simp only; rw [← tab_snoc]; exact h.pick [1] rfl) (by simp only; omega) (by simp only; omega)
  · skip
    have he : trim (lowL m (tab q.1 (fun j => if (j + 1) % 2 = 1 then l.getD (j + 1) 0 else 0))) = derP (lowL m l) := by rw [show q.1 = l.length - 1 by omega]; exact rder_all l
    refine CW.exit rfl ?_
    refine KN.code ?_
    refine CW.seq ?_
    refine CW.reg [0, 1, 2, 3] rfl ?_   -- 9, field.go:178
    refine s_mv 25 rfl rfl ?_
    refine s_mv 26 rfl rfl ?_
    refine s_call 27 rfl rfl rfl rfl (fun w hw => by have := rtrim_spec m q.2.1 q.1 q.2.2 (tab q.1 (fun j => if (j + 1) % 2 = 1 then l.getD (j + 1) 0 else 0)) w hm ((hw.has (i := 0) rfl).of_own) (by omega); rw [he] at this; exact this) (fun _ _ => trivial) (fun q2 hq2 => ?_)
    refine s_as 4 rfl rfl ?_
    refine SX.next ?_
    refine CW.ret ?_
    exact KN.ret (rs := [.tmp 4]) Tryd.results61 rfl (fun w hw => ⟨q2, rfl, hq2, hw.pick [0] rfl⟩)

/-- The sum's coefficient, as the document's polynomials make it. -/
def raddV (l l2 : List Int) (j : Nat) : Int := if j < l2.length then ibit .xor .i64 (l.getD j 0) (l2.getD j 0) else l.getD j 0
def raddF (l l2 : List Int) (i j : Nat) : Int := if j < i then raddV l l2 j else 0
theorem getD_out {l : List Int} {j : Nat} (h : l.length ≤ j) : l.getD j 0 = 0 := by simp [List.getElem?_eq_none h]
theorem radd_all {m : Nat} (hm : Ok m) (l l2 : List Int) : trim (lowL m (tab (max l.length l2.length) (raddF l l2 (max l.length l2.length)))) = addP (lowL m l) (lowL m l2) := by
  rw [trim_tab]
  unfold addP
  refine pl_eq (fun j => ?_)
  rw [lowL_len, lowL_len, cf_low, cf_low]
  split
  · unfold raddF raddV
    rw [if_pos (by assumption)]
    split
    · exact lo_xor hm _ _
    · rw [getD_out (l := l2) (by omega), lo_zero, Nat.xor_zero]
  · rfl
theorem radd_next {l l2 : List Int} {i n : Nat} {F : Nat → Int} (h0 : ∀ j, j ≠ i → F j = raddF l l2 i j) (h : F i = raddV l l2 i) : tab n F = tab n (raddF l l2 (i + 1)) := by
  refine tab_cong (fun j _ => ?_)
  by_cases hj : j = i
  · subst hj
    rw [h]
    unfold raddF
    rw [if_pos (by omega)]
  · rw [h0 j hj]
    unfold raddF
    by_cases h2 : j < i
    · rw [if_pos h2, if_pos (by omega)]
    · rw [if_neg h2, if_neg (by omega)]

theorem radd_spec (m : Nat) (A : Option Addr) (n c : Nat) (l : List Int) (B : Option Addr) (k d : Nat) (l2 : List Int) (w : World) (hm : Ok m) (ha : Has (sl 1 A n (ints .i64 l)) w) (hb : Has (sl 1 B k (ints .i64 l2)) w) (hn : n ≤ 4294967296) (hk : k ≤ 4294967296) : SpecL Tryd.prog 59 [.int .i64 (m : Nat), .slice A n c, .slice B k d] w (addP (lowL m l) (lowL m l2)) := by
  have hla := ints_len ha
  subst hla
  have hlb := ints_len hb
  subst hlb
  have hmx1 := Nat.le_max_left l.length l2.length
  have hmx2 := Nat.le_max_right l.length l2.length
  have hmx : max l.length l2.length ≤ 4294967296 := Nat.max_le.2 ⟨hn, hk⟩
  refine spec_of Tryd.func59 rfl Tryd.ntmps59 rfl ?_
  refine CW.seq ?_
  refine CW.reg [0] rfl ?_   -- 0, field.go:116
  refine s_as 6 rfl rfl ?_
  refine SX.next ?_
  refine CW.seq ?_
  refine CW.reg [0, 1, 2, 3, 4, 5, 6] rfl ?_   -- 1, field.go:117
  refine s_mv 9 rfl rfl ?_
  refine s_len 10 rfl rfl ?_
  refine s_mv 11 rfl rfl ?_
  refine s_len 12 rfl rfl ?_
  refine s_max 13 rfl rfl rfl (r := ((max l.length l2.length : Nat) : Int)) (by split <;> omega) ?_
  refine s_make 14 (max l.length l2.length) rfl rfl rfl rfl rfl (by omega) (fun _ _ => trivial) (fun go => ?_)
  refine s_as 7 rfl rfl ?_
  refine SX.next ?_
  refine CW.seq ?_
  refine CW.seq ?_
  refine CW.reg [0] rfl ?_   -- 2, field.go:118
  refine s_as 8 rfl rfl ?_
  refine SX.next ?_
  refine CW.block ?_
  refine CW.loop (G := Nat) (fun i => [(0, .int .i64 (m : Nat)), (1, .slice A l.length c), (2, .slice B l2.length d), (7, .slice (some ⟨go, 0, none⟩) (max l.length l2.length) (max l.length l2.length)), (8, .int .i64 (i : Nat))]) (fun i => Sto w [blk go 3 (ints .i64 (tab (max l.length l2.length) (raddF l l2 i))).toArray]) (fun i => i ≤ (max l.length l2.length)) (fun i => (max l.length l2.length) - i) 0 ⟨rfl, rfl, rfl, rfl, rfl, trivial⟩ (fun _ h => by rw [show tab (max l.length l2.length) (raddF l l2 0) = tab (max l.length l2.length) (fun _ => 0) from tab_cong (fun j _ => by simp [raddF]), ← tab_zero]; exact h) (Nat.zero_le _) ?_
  intro i hi
  refine CW.seq ?_
  refine CW.seq ?_
  refine CW.reg [0, 1, 2, 3] rfl ?_   -- 3, field.go:118
  refine s_mv 15 rfl rfl ?_
  refine s_mv 16 rfl rfl ?_
  refine s_len 17 rfl rfl ?_
  refine s_lt 18 rfl rfl rfl rfl ?_
  refine SX.next ?_
  refine CW.test rfl (fun hc => ?_) (fun hc => ?_)
  · skip
    refine CW.skip ?_
    refine KN.code ?_
    refine CW.seq ?_
    refine CW.block ?_
    refine CW.seq ?_
    refine CW.seq ?_
    refine CW.reg [0, 1, 2, 3] rfl ?_   -- 5, field.go:119
    refine s_mv 21 rfl rfl ?_
    refine s_mv 22 rfl rfl ?_
    refine s_len 23 rfl rfl ?_
    refine s_lt 24 rfl rfl rfl rfl ?_
    refine SX.next ?_
    refine CW.test rfl (fun hc => ?_) (fun hc => ?_)
    · skip
      refine CW.reg [0, 1, 2, 3, 4, 5, 6, 7] rfl ?_   -- 6, field.go:120
      refine s_mv 25 rfl rfl ?_
      refine s_mv 26 rfl rfl ?_
      refine s_mv 27 rfl rfl ?_
      refine s_mv 28 rfl rfl ?_
      refine s_iaV 29 i (fun w hw => hw.old ha) rfl rfl rfl rfl (by omega) ?_
      refine s_ldV 30 (fun w hw => hw.old ha) rfl rfl (by rw [Nat.mul_one]; exact intsAt (by omega)) (by omega) ?_
      refine s_ia0 31 i rfl rfl rfl rfl (by omega) ?_
      refine s_stB 0 rfl rfl rfl rfl rfl (by rw [tab_size]; omega) (fun _ _ => trivial) ?_
      refine SX.next ?_
      refine CW.seq ?_
      refine CW.reg [0, 1, 2, 3] rfl ?_   -- 7, field.go:122
      refine s_mv 32 rfl rfl ?_
      refine s_mv 33 rfl rfl ?_
      refine s_len 34 rfl rfl ?_
      refine s_lt 35 rfl rfl rfl rfl ?_
      refine SX.next ?_
      refine CW.test rfl (fun hc => ?_) (fun hc => ?_)
      · skip
        refine CW.regD (.st true 0 (.st true 1 (.st true 2 (.st true 3 (.st true 4 (.st true 6 (.st true 7 (.st true 8 (.st true 9 (.st false 5 (.st true 10 (.st true 11 (.st false 12 .done))))))))))))) (Sto w []) mixed (by kernel_rfl) (fun _ h => h.drew) (fun _ h => h.pick [] rfl) ?_
        refine s_mv 36 rfl rfl ?_
        refine s_mv 37 rfl rfl ?_
        refine s_mv 38 rfl rfl ?_
        refine s_mv 39 rfl rfl ?_
        refine s_ia0 40 i rfl rfl rfl rfl (by omega) ?_
        refine s_mv 42 rfl rfl ?_
        refine s_mv 43 rfl rfl ?_
        refine s_iaV 44 i (fun w hw => hw.old hb) rfl rfl rfl rfl (by omega) ?_
        refine s_ldVS 45 (fun w hw => hw.old hb) rfl rfl (by rw [Nat.mul_one]; exact intsAt (by omega)) (by omega) ?_
        refine s_ldB 41 0 rfl rfl rfl (v := .int .i64 (l.getD i 0)) (by rw [tab_set, tab_atA (by omega)]; simp) ?_
        refine s_bit 46 rfl rfl rfl rfl rfl ?_
        refine s_ia0 47 i rfl rfl rfl rfl (by omega) ?_
        refine s_stB 0 rfl rfl rfl rfl rfl (by rw [tab_set, tab_size]; omega) (fun _ h => h.pick [] rfl) ?_
        refine SX.end_ ?_
        refine KN.blk ?_
        refine KN.code ?_
        refine CW.reg [0, 1, 2] rfl ?_   -- 4, field.go:118
        refine s_mv 19 rfl rfl ?_
        refine s_add 20 rfl rfl rfl (r := ((i + 1 : Nat) : Int)) (w64 (by omega)) ?_
        refine s_as 8 rfl rfl ?_
        refine SX.end_ ?_
        exact KN.back (i + 1) ⟨rfl, rfl, rfl, rfl, rfl, trivial⟩ (fun _ h => by
  have e : (((ints .i64 (tab (max l.length l2.length) (raddF l l2 i))).toArray).setIfInBounds i (.int .i64 (l.getD i 0))).setIfInBounds i (.int .i64 (ibit .xor .i64 (l.getD i 0) (l2.getD i 0))) = (ints .i64 (tab (max l.length l2.length) (raddF l l2 (i + 1)))).toArray := by
    rw [tab_set, tab_set]
    exact congrArg (fun t => (ints .i64 t).toArray) (radd_next (fun j hj => by simp [hj]) (by rw [if_pos rfl]; unfold raddV; rw [if_pos (by omega)]))
  rw [e] at h
  exact h) (by omega) (by omega)
      · skip
        refine CW.skip ?_
        refine KN.blk ?_
        refine KN.code ?_
        refine CW.reg [0, 1, 2] rfl ?_   -- 4, field.go:118
        refine s_mv 19 rfl rfl ?_
        refine s_add 20 rfl rfl rfl (r := ((i + 1 : Nat) : Int)) (w64 (by omega)) ?_
        refine s_as 8 rfl rfl ?_
        refine SX.end_ ?_
        exact KN.back (i + 1) ⟨rfl, rfl, rfl, rfl, rfl, trivial⟩ (fun _ h => by
  have e : ((ints .i64 (tab (max l.length l2.length) (raddF l l2 i))).toArray).setIfInBounds i (.int .i64 (l.getD i 0)) = (ints .i64 (tab (max l.length l2.length) (raddF l l2 (i + 1)))).toArray := by
    rw [tab_set]
    exact congrArg (fun t => (ints .i64 t).toArray) (radd_next (fun j hj => by simp [hj]) (by rw [if_pos rfl]; unfold raddV; rw [if_neg (by omega)]))
  rw [e] at h
  exact h) (by omega) (by omega)
    · skip
      refine CW.skip ?_
      refine KN.code ?_
      refine CW.seq ?_
      refine CW.reg [0, 1, 2, 3] rfl ?_   -- 7, field.go:122
      refine s_mv 32 rfl rfl ?_
      refine s_mv 33 rfl rfl ?_
      refine s_len 34 rfl rfl ?_
      refine s_lt 35 rfl rfl rfl rfl ?_
      refine SX.next ?_
      refine CW.test rfl (fun hc => ?_) (fun hc => ?_)
      · skip
        refine CW.regD (.st true 0 (.st true 1 (.st true 2 (.st true 3 (.st true 4 (.st true 6 (.st true 7 (.st true 8 (.st true 9 (.st false 5 (.st true 10 (.st true 11 (.st false 12 .done))))))))))))) (Sto w []) mixed (by kernel_rfl) (fun _ h => h.drew) (fun _ h => h.pick [] rfl) ?_
        refine s_mv 36 rfl rfl ?_
        refine s_mv 37 rfl rfl ?_
        refine s_mv 38 rfl rfl ?_
        refine s_mv 39 rfl rfl ?_
        refine s_ia0 40 i rfl rfl rfl rfl (by omega) ?_
        refine s_mv 42 rfl rfl ?_
        refine s_mv 43 rfl rfl ?_
        refine s_iaV 44 i (fun w hw => hw.old hb) rfl rfl rfl rfl (by omega) ?_
        refine s_ldVS 45 (fun w hw => hw.old hb) rfl rfl (by rw [Nat.mul_one]; exact intsAt (by omega)) (by omega) ?_
        refine s_ldB 41 0 rfl rfl rfl (v := .int .i64 (l.getD i 0)) (by rw [tab_atA (by omega), getD_out (l := l) (by omega)]; simp [raddF]) ?_
        refine s_bit 46 rfl rfl rfl rfl rfl ?_
        refine s_ia0 47 i rfl rfl rfl rfl (by omega) ?_
        refine s_stB 0 rfl rfl rfl rfl rfl (by rw [tab_size]; omega) (fun _ h => h.pick [] rfl) ?_
        refine SX.end_ ?_
        refine KN.blk ?_
        refine KN.code ?_
        refine CW.reg [0, 1, 2] rfl ?_   -- 4, field.go:118
        refine s_mv 19 rfl rfl ?_
        refine s_add 20 rfl rfl rfl (r := ((i + 1 : Nat) : Int)) (w64 (by omega)) ?_
        refine s_as 8 rfl rfl ?_
        refine SX.end_ ?_
        exact KN.back (i + 1) ⟨rfl, rfl, rfl, rfl, rfl, trivial⟩ (fun _ h => by
  have e : ((ints .i64 (tab (max l.length l2.length) (raddF l l2 i))).toArray).setIfInBounds i (.int .i64 (ibit .xor .i64 (l.getD i 0) (l2.getD i 0))) = (ints .i64 (tab (max l.length l2.length) (raddF l l2 (i + 1)))).toArray := by
    rw [tab_set]
    exact congrArg (fun t => (ints .i64 t).toArray) (radd_next (fun j hj => by simp [hj]) (by rw [if_pos rfl]; unfold raddV; rw [if_pos (by omega)]))
  rw [e] at h
  exact h) (by omega) (by omega)
      · skip
        refine CW.skip ?_
        refine KN.blk ?_
        refine KN.code ?_
        refine CW.reg [0, 1, 2] rfl ?_   -- 4, field.go:118
        refine s_mv 19 rfl rfl ?_
        refine s_add 20 rfl rfl rfl (r := ((i + 1 : Nat) : Int)) (w64 (by omega)) ?_
        refine s_as 8 rfl rfl ?_
        refine SX.end_ ?_
        omega
  · skip
    obtain rfl : i = (max l.length l2.length) := by omega
    refine CW.exit rfl ?_
    refine KN.code ?_
    refine CW.seq ?_
    refine CW.reg [0, 1, 2, 3] rfl ?_   -- 9, field.go:126
    refine s_mv 48 rfl rfl ?_
    refine s_mv 49 rfl rfl ?_
    refine s_call 50 rfl rfl rfl rfl (fun w hw => by have := rtrim_spec m (some ⟨go, 0, none⟩) (max l.length l2.length) (max l.length l2.length) (tab (max l.length l2.length) (raddF l l2 (max l.length l2.length))) w hm (Has.cong ((hw.has (i := 0) rfl).blk_sl (m := (max l.length l2.length)) (by exact tab_size.trans (Nat.mul_one _).symm)) rfl) (by omega); rw [radd_all hm] at this; exact this) (fun _ _ => trivial) (fun q2 hq2 => ?_)
    refine s_as 6 rfl rfl ?_
    refine SX.next ?_
    refine CW.ret ?_
    exact KN.ret (rs := [.tmp 6]) Tryd.results59 rfl (fun w hw => ⟨q2, rfl, hq2, hw.pick [0] rfl⟩)

theorem mul_all2 {m : Nat} (hm : Ok m) {a b : List Nat} (ha : ∀ x ∈ a, x < 2 ^ m) : trim (lowL m (tab (a.length + b.length) (mulF m a b a.length 0))) = mulP m a b := by
  rw [← mul_all hm ha, trim_tab, trim_tab]
  refine pl_eq (fun j => ?_)
  by_cases h : j < a.length + b.length - 1
  · rw [if_pos h, if_pos (by omega)]
  · rw [if_neg h]
    split
    · have h0 : mulF m a b a.length 0 j = 0 := by
        unfold mulF
        rw [if_neg (by omega), Nat.xor_zero]
        rw [xs_zero (fun i hi => ?_)]
        · rfl
        · unfold rowF
          split
          · rw [cf_out (l := b) (by omega), gm_zero_right]
          · rfl
      rw [h0, lo_zero]
    · rfl
theorem rmulN {m : Nat} {w : World} {x y : Nat} (hm : Ok m) (hx : x < 2 ^ m) (hy : y < 2 ^ m) : Spec1 Tryd.prog 37 [.int .i64 (m : Nat), .int .i64 (x : Nat), .int .i64 (y : Nat)] w (.int .i64 (gm m x y : Nat)) := by
  have := rmul_spec m x y w hm; rw [lo_nat hx, lo_nat hy] at this; exact this
theorem rinvN {m : Nat} {w : World} {x : Nat} (hm : Ok m) (hx : x < 2 ^ m) (h0 : x ≠ 0) : Spec1 Tryd.prog 49 [.int .i64 (m : Nat), .int .i64 (x : Nat)] w (.int .i64 (inv m x : Nat)) := by
  have := rinv_spec m x w hm (by rw [lo_nat hx]; exact h0); rw [lo_nat hx] at this; exact this

theorem rtimes_spec (m : Nat) (A : Option Addr) (n c : Nat) (l : List Int) (B : Option Addr) (k d : Nat) (l2 : List Int) (w : World) (hm : Ok m) (ha : Has (sl 1 A n (ints .i64 l)) w) (hb : Has (sl 1 B k (ints .i64 l2)) w) (hn : n ≤ 1073741824) (hk : k ≤ 1073741824) : SpecL Tryd.prog 60 [.int .i64 (m : Nat), .slice A n c, .slice B k d] w (mulP m (trim (lowL m l)) (trim (lowL m l2))) := by
  have hla := ints_len ha
  subst hla
  have hlb := ints_len hb
  subst hlb
  have hA := trimLow_lt m l
  have hB := trimLow_lt m l2
  have hta := trim_length (lowL m l)
  have htb := trim_length (lowL m l2)
  have hla1 := tl_le (lowL m l)
  have hlb1 := tl_le (lowL m l2)
  have hll1 := lowL_len m l
  have hll2 := lowL_len m l2
  generalize ea : trim (lowL m l) = a at *
  generalize eb : trim (lowL m l2) = b at *
  refine spec_of Tryd.func60 rfl Tryd.ntmps60 rfl ?_
  refine CW.seq ?_
  refine CW.reg [0] rfl ?_   -- 0, field.go:130
  refine s_as 6 rfl rfl ?_
  refine SX.next ?_
  refine CW.seq ?_
  refine CW.reg [0, 1, 2, 3] rfl ?_   -- 1, field.go:131
  refine s_mv 10 rfl rfl ?_
  refine s_mv 11 rfl rfl ?_
  refine s_call 12 rfl rfl rfl rfl (fun w hw => by have := rtrim_spec m A l.length c l w hm (hw.old ha) (by omega); rw [ea] at this; exact this) (fun _ _ => trivial) (fun q1 hq1 => ?_)
  refine s_as 1 rfl rfl ?_
  refine SX.next ?_
  refine CW.seq ?_
  refine CW.reg [0, 1, 2, 3] rfl ?_   -- 2, field.go:132
  refine s_mv 13 rfl rfl ?_
  refine s_mv 14 rfl rfl ?_
  refine s_call 15 rfl rfl rfl rfl (fun w hw => by have := rtrim_spec m B l2.length d l2 w hm (hw.old hb) (by omega); rw [eb] at this; exact this) (fun _ _ => trivial) (fun q2 hq2 => ?_)
  refine s_as 2 rfl rfl ?_
  refine SX.next ?_
  refine CW.seq ?_
  refine CW.reg [0, 1, 2, 3, 4, 5, 6] rfl ?_   -- 3, field.go:133
  refine s_mv 16 rfl rfl ?_
  refine s_len 17 rfl rfl ?_
  refine s_mv 18 rfl rfl ?_
  refine s_len 19 rfl rfl ?_
  refine s_add 20 rfl rfl rfl (r := (((a.length + b.length) : Nat) : Int)) (w64 (by omega)) ?_
  refine s_make 21 (a.length + b.length) rfl rfl rfl rfl rfl (by omega) (fun _ _ => trivial) (fun go => ?_)
  refine s_as 7 rfl rfl ?_
  refine SX.next ?_
  refine CW.seq ?_
  refine CW.seq ?_
  refine CW.reg [0] rfl ?_   -- 4, field.go:134
  refine s_as 8 rfl rfl ?_
  refine SX.next ?_
  refine CW.block ?_
  refine CW.loop (G := Nat) (fun i => [(0, .int .i64 (m : Nat)), (1, .slice q1.1 a.length q1.2), (2, .slice q2.1 b.length q2.2), (7, .slice (some ⟨go, 0, none⟩) (a.length + b.length) (a.length + b.length)), (8, .int .i64 (i : Nat))]) (fun i => Sto w [blk go 3 (ints .i64 (tab (a.length + b.length) (mulF m a b i 0))).toArray, own 3 1 q2.1 b.length q2.2 (nats .i64 b), own 3 1 q1.1 a.length q1.2 (nats .i64 a)]) (fun i => i ≤ a.length) (fun i => a.length - i) 0 ⟨rfl, rfl, rfl, rfl, rfl, trivial⟩ (fun _ h => by rw [show tab (a.length + b.length) (mulF m a b 0 0) = tab (a.length + b.length) (fun _ => 0) from tab_cong (fun j _ => mulF_zero m a b j), ← tab_zero]; exact h) (Nat.zero_le _) ?_
  intro i hi
  refine CW.seq ?_
  refine CW.seq ?_
  refine CW.reg [0, 1, 2, 3] rfl ?_   -- 5, field.go:134
  refine s_mv 22 rfl rfl ?_
  refine s_mv 23 rfl rfl ?_
  refine s_len 24 rfl rfl ?_
  refine s_lt 25 rfl rfl rfl rfl ?_
  refine SX.next ?_
  refine CW.test rfl (fun hc => ?_) (fun hc => ?_)
  · skip
    refine CW.skip ?_
    refine KN.code ?_
    refine CW.seq ?_
    refine CW.block ?_
    refine CW.seq ?_
    refine CW.reg [0] rfl ?_   -- 7, field.go:135
    refine s_as 9 rfl rfl ?_
    refine SX.next ?_
    refine CW.block ?_
    refine CW.loop (G := Nat) (fun k => [(0, .int .i64 (m : Nat)), (1, .slice q1.1 a.length q1.2), (2, .slice q2.1 b.length q2.2), (7, .slice (some ⟨go, 0, none⟩) (a.length + b.length) (a.length + b.length)), (8, .int .i64 (i : Nat)), (9, .int .i64 (k : Nat))]) (fun k => Sto w [blk go 3 (ints .i64 (tab (a.length + b.length) (mulF m a b i k))).toArray, own 3 1 q2.1 b.length q2.2 (nats .i64 b), own 3 1 q1.1 a.length q1.2 (nats .i64 a)]) (fun k => k ≤ b.length) (fun k => b.length - k) 0 ⟨rfl, rfl, rfl, rfl, rfl, rfl, trivial⟩ (fun _ h => h) (Nat.zero_le _) ?_
    intro k hk2
    refine CW.seq ?_
    refine CW.seq ?_
    refine CW.reg [0, 1, 2, 3] rfl ?_   -- 8, field.go:135
    refine s_mv 28 rfl rfl ?_
    refine s_mv 29 rfl rfl ?_
    refine s_len 30 rfl rfl ?_
    refine s_lt 31 rfl rfl rfl rfl ?_
    refine SX.next ?_
    refine CW.test rfl (fun hc => ?_) (fun hc => ?_)
    · skip
      refine CW.skip ?_
      refine KN.code ?_
      refine CW.seq ?_
      refine CW.block ?_
      refine CW.regD (.st true 0 (.st true 1 (.st true 2 (.st true 3 (.st true 4 (.st true 5 (.st true 6 (.st true 7 (.st true 8 (.st true 10 (.st true 11 (.st true 12 (.st true 13 (.st true 14 (.st true 15 (.st true 16 (.st true 17 (.st true 18 (.alt 9 (.st false 19 (.st true 20 (.st true 21 (.st false 22 .done)))) (.st false 19 (.st false 9 (.st true 20 (.st true 21 (.st false 22 .done)))))))))))))))))))))))) (Sto w [own 3 1 q2.1 b.length q2.2 (nats .i64 b), own 3 1 q1.1 a.length q1.2 (nats .i64 a)]) mixed (by kernel_rfl) (fun _ h => h.drew) (fun _ h => h.pick [1, 1] rfl) ?_
      refine s_mv 34 rfl rfl ?_
      refine s_mv 35 rfl rfl ?_
      refine s_mv 36 rfl rfl ?_
      refine s_add 37 rfl rfl rfl (r := ((i + k : Nat) : Int)) (w64 (by omega)) ?_
      refine s_mv 38 rfl rfl ?_
      refine s_mv 39 rfl rfl ?_
      refine s_mv 40 rfl rfl ?_
      refine s_add 41 rfl rfl rfl (r := ((i + k : Nat) : Int)) (w64 (by omega)) ?_
      refine s_ia0 42 (i + k) rfl rfl rfl rfl (by omega) ?_
      refine s_mv 44 rfl rfl ?_
      refine s_mv 45 rfl rfl ?_
      refine s_mv 46 rfl rfl ?_
      refine s_iaO 47 2 i rfl rfl rfl rfl rfl (by omega) ?_
      refine s_ldS 48 rfl rfl (fun _ h => h.ownCell (q := 1) rfl (natsAtC (by omega))) ?_
      refine s_mv 49 rfl rfl ?_
      refine s_mv 50 rfl rfl ?_
      refine s_iaO 51 1 k rfl rfl rfl rfl rfl (by omega) ?_
      refine s_ldS 52 rfl rfl (fun _ h => h.ownCell (q := 0) rfl (natsAtC (by omega))) ?_
      refine SX.alt ?_ ?_
      · skip
        refine s_ldB 43 0 rfl rfl rfl (tab_atA (by omega)) ?_
        refine s_call1 53 rfl rfl rfl rfl (fun w hw => rmulN hm (cf_lt hA (Nat.two_pow_pos m) i) (cf_lt hB (Nat.two_pow_pos m) k)) (fun _ h => h.pick [1, 1] rfl) ?_
        refine s_bit 54 rfl rfl rfl rfl rfl ?_
        refine s_ia0 55 (i + k) rfl rfl rfl rfl (by omega) ?_
        refine s_stB 0 rfl rfl rfl rfl rfl (by rw [tab_size]; omega) (fun _ h => h.pick [1, 1] rfl) ?_
        refine SX.end_ ?_
        refine KN.blk ?_
        refine KN.code ?_
        refine CW.reg [0, 1, 2] rfl ?_   -- 9, field.go:135
        refine s_mv 32 rfl rfl ?_
        refine s_add 33 rfl rfl rfl (r := ((k + 1 : Nat) : Int)) (w64 (by omega)) ?_
        refine s_as 9 rfl rfl ?_
        refine SX.end_ ?_
        exact KN.back (k + 1) ⟨rfl, rfl, rfl, rfl, rfl, rfl, trivial⟩ (fun _ h => by rw [← mulF_next hm hA, ← tab_set]; exact h) (by omega) (by omega)
      · skip
        refine s_call1 53 rfl rfl rfl rfl (fun w hw => rmulN hm (cf_lt hA (Nat.two_pow_pos m) i) (cf_lt hB (Nat.two_pow_pos m) k)) (fun _ h => h.pick [1, 1] rfl) ?_
        refine s_ldB 43 0 rfl rfl rfl (tab_atA (by omega)) ?_
        refine s_bit 54 rfl rfl rfl rfl rfl ?_
        refine s_ia0 55 (i + k) rfl rfl rfl rfl (by omega) ?_
        refine s_stB 0 rfl rfl rfl rfl rfl (by rw [tab_size]; omega) (fun _ h => h.pick [1, 1] rfl) ?_
        refine SX.end_ ?_
        refine KN.blk ?_
        refine KN.code ?_
        refine CW.reg [0, 1, 2] rfl ?_   -- 9, field.go:135
        refine s_mv 32 rfl rfl ?_
        refine s_add 33 rfl rfl rfl (r := ((k + 1 : Nat) : Int)) (w64 (by omega)) ?_
        refine s_as 9 rfl rfl ?_
        refine SX.end_ ?_
        exact KN.back (k + 1) ⟨rfl, rfl, rfl, rfl, rfl, rfl, trivial⟩ (fun _ h => by rw [← mulF_next hm hA, ← tab_set]; exact h) (by omega) (by omega)
    · skip
      obtain rfl : k = b.length := by omega
      refine CW.exit rfl ?_
      refine KN.blk ?_
      refine KN.code ?_
      refine CW.reg [0, 1, 2] rfl ?_   -- 6, field.go:134
      refine s_mv 26 rfl rfl ?_
      refine s_add 27 rfl rfl rfl (r := ((i + 1 : Nat) : Int)) (w64 (by omega)) ?_
      refine s_as 8 rfl rfl ?_
      refine SX.end_ ?_
      exact KN.back (i + 1) ⟨rfl, rfl, rfl, rfl, rfl, trivial⟩ (fun _ h => by rw [← tab_cong (fun j _ => mulF_row m a b i b.length (Nat.le_refl _) j)]; exact h) (by omega) (by omega)
  · skip
    obtain rfl : i = a.length := by omega
    refine CW.exit rfl ?_
    refine KN.code ?_
    refine CW.seq ?_
    refine CW.reg [0, 1, 2, 3] rfl ?_   -- 11, field.go:139
    refine s_mv 56 rfl rfl ?_
    refine s_mv 57 rfl rfl ?_
    refine s_call 58 rfl rfl rfl rfl (fun w hw => by have := rtrim_spec m (some ⟨go, 0, none⟩) (a.length + b.length) (a.length + b.length) (tab (a.length + b.length) (mulF m a b a.length 0)) w hm (Has.cong ((hw.has (i := 0) rfl).blk_sl (m := (a.length + b.length)) (by exact tab_size.trans (Nat.mul_one _).symm)) rfl) (by omega); rw [mul_all2 hm hA] at this; exact this) (fun _ _ => trivial) (fun q3 hq3 => ?_)
    refine s_as 6 rfl rfl ?_
    refine SX.next ?_
    refine CW.ret ?_
    exact KN.ret (rs := [.tmp 6]) Tryd.results60 rfl (fun w hw => ⟨q3, rfl, hq3, hw.pick [0] rfl⟩)

/-! ### Quotients -/
/-- What the document's division keeps. -/
structure DivR (m : Nat) (a b : List Nat) (q : List Nat × (Nat → Nat) × (Option Addr × Nat)) : Prop where
  tr : Tr m q.1
  le : q.1.length ≤ a.length
  lt : ∀ j, q.2.1 j < 2 ^ m
  lo : ∀ j, j + b.length ≤ q.1.length → q.2.1 j = 0
  hi : ∀ j, a.length < j + b.length → q.2.1 j = 0
  eq : ∀ j, cv m q.2.1 (cf b) j ^^^ cf q.1 j = cf a j
theorem divR_start (m : Nat) {a : List Nat} (ha : Tr m a) (b : List Nat) (A : Option Addr × Nat) : DivR m a b (a, fun _ => 0, A) :=
  ⟨ha, Nat.le_refl _, fun _ => Nat.two_pow_pos m, fun _ _ => rfl, fun _ _ => rfl, fun j => by simp only; rw [cv_zero, Nat.zero_xor]⟩
theorem cf_rep (s : Nat) (x : List Nat) (j : Nat) : cf (List.replicate s 0 ++ x) j = if j < s then 0 else cf x (j - s) := by
  unfold cf
  simp only [List.getD_eq_getElem?_getD]
  split
  · rw [List.getElem?_append_left (by simpa using by assumption)]
    rw [List.getElem?_replicate]
    split <;> rfl
  · rw [List.getElem?_append_right (by simp; omega)]
    simp
theorem DivR.next {m : Nat} (hm : Ok m) {a b a1 : List Nat} {Q : Nat → Nat} {A A2 : Option Addr × Nat} (h : DivR m a b (a1, Q, A)) (hb : Tr m b) (hb0 : b.length ≠ 0) (hl : b.length ≤ a1.length) :
    DivR m a b (addP a1 (List.replicate (a1.length - b.length) 0 ++ scaleP m b (gm m (cf a1 (a1.length - 1)) (inv m (cf b (b.length - 1))))), fun j => if j = a1.length - b.length then gm m (cf a1 (a1.length - 1)) (inv m (cf b (b.length - 1))) else Q j, A2) ∧
    (addP a1 (List.replicate (a1.length - b.length) 0 ++ scaleP m b (gm m (cf a1 (a1.length - 1)) (inv m (cf b (b.length - 1)))))).length < a1.length := by
  obtain ⟨h1, h2, h3, h4, h5, h6⟩ := h
  simp only at h1 h2 h3 h4 h5 h6
  have hc : gm m (cf a1 (a1.length - 1)) (inv m (cf b (b.length - 1))) < 2 ^ m := gm_lt hm (h1.c _) _
  have hdiv := gm_div hm (h1.c (a1.length - 1)) (hb.c (b.length - 1)) (hb.top hb0)
  generalize gm m (cf a1 (a1.length - 1)) (inv m (cf b (b.length - 1))) = c at *
  generalize hs : a1.length - b.length = s at *
  have hX : ∀ j, cf (addP a1 (List.replicate s 0 ++ scaleP m b c)) j = cf a1 j ^^^ (if s ≤ j then gm m c (cf b (j - s)) else 0) := fun j => by
    rw [cf_addP, cf_rep]
    congr 1
    by_cases h : j < s
    · rw [if_pos h, if_neg (by omega)]
    · rw [if_neg h, if_pos (by omega), cf_scaleP, gm_comm hm (hb.c _) hc]
  have hsc := (scaleP_tr hm hb c).lt
  have htr : Tr m (addP a1 (List.replicate s 0 ++ scaleP m b c)) := pl_tr (fun j => xor_lt (h1.c j) (cf_lt (fun x hx => by
    rcases List.mem_append.1 hx with hx | hx
    · rw [(List.mem_replicate.1 hx).2]; exact Nat.two_pow_pos m
    · exact hsc x hx) (Nat.two_pow_pos m) j))
  have hlen : (addP a1 (List.replicate s 0 ++ scaleP m b c)).length ≤ a1.length - 1 := len_le_of htr (fun j hj => by
    rw [hX, if_pos (by omega)]
    by_cases he : j = a1.length - 1
    · subst he
      rw [show a1.length - 1 - s = b.length - 1 by omega, hdiv, Nat.xor_self]
    · rw [cf_out (l := a1) (by omega), cf_out (l := b) (by omega), gm_zero_right]
      rfl)
  refine ⟨⟨htr, by simp only; omega, fun j => by simp only; split; exact hc; exact h3 j, fun j hj => ?_, fun j hj => ?_, fun j => ?_⟩, by omega⟩
  · simp only at hj ⊢
    rw [if_neg (by omega)]
    exact h4 j (by omega)
  · simp only at hj ⊢
    rw [if_neg (by omega)]
    exact h5 j hj
  · simp only
    have e : cv m (fun j => if j = s then c else Q j) (cf b) j = cv m (fun i => (if i = s then c else 0) ^^^ Q i) (cf b) j := cv_congr (fun i _ => by
      by_cases h : i = s
      · rw [if_pos h, if_pos h, h4 i (by omega), Nat.xor_zero]
      · rw [if_neg h, if_neg h, Nat.zero_xor]) (fun _ _ => rfl)
    rw [e, cv_add_left hm (fun i => by split; exact hc; exact Nat.two_pow_pos m) h3, cv_one, hX]
    generalize (if s ≤ j then gm m c (cf b (j - s)) else 0) = z
    rw [← h6 j, Nat.xor_comm (cf a1 j) z, Nat.xor_comm z (cv m Q (cf b) j), Nat.xor_assoc, xcc]
theorem DivR.done {m : Nat} (hm : Ok m) {a b a1 : List Nat} {Q : Nat → Nat} {A : Option Addr × Nat} (h : DivR m a b (a1, Q, A)) (ha : Tr m a) (hb : Tr m b) (hb0 : b.length ≠ 0) (hl : a1.length < b.length) :
    trim (lowL m (tabN (a.length + 1) Q)) = quotP m a b ∧ a1 = restP m a b := by
  obtain ⟨h1, h2, h3, h4, h5, h6⟩ := h
  simp only at h1 h2 h3 h4 h5 h6
  rw [trim_tabN h3]
  have hq : Tr m (pl (a.length + 1) Q) := pl_tr h3
  refine div_uniq hm ha hb hb0 hq h1 hl ((addP_tr hm (mulP_tr hm hq hb) h1).ext ha (fun j => ?_))
  rw [cf_addP, cf_mulP, ← h6 j]
  congr 1
  refine cv_congr (fun i _ => ?_) (fun _ _ => rfl)
  rw [cf_pl]
  split
  · rfl
  · exact (h5 i (by omega)).symm
abbrev SpecL2 (P : Program) (f : FuncId) (args : List Value) (w : World) (E G : List Nat) : Prop :=
  SpecX P f args w (X := (Option Addr × Nat) × (Option Addr × Nat)) (fun q => two (.slice q.1.1 E.length q.1.2) (.slice q.2.1 G.length q.2.2)) (fun q => E.length ≤ q.1.2)
    (fun q => [own 3 1 q.1.1 E.length q.1.2 (nats .i64 E), own 3 1 q.2.1 G.length q.2.2 (nats .i64 G)])
theorem nats_rep (k : IntKind) (s : Nat) : List.replicate s (.int k 0) = nats k (List.replicate s 0) := by simp [nats]

theorem rdiv_spec (m : Nat) (A : Option Addr) (n c : Nat) (l : List Int) (B : Option Addr) (k d : Nat) (l2 : List Int) (w : World) (hm : Ok m) (ha : Has (sl 1 A n (ints .i64 l)) w) (hb : Has (sl 1 B k (ints .i64 l2)) w) (hn : n ≤ 1073741824) (hk : k ≤ 1073741824) (hb0 : (trim (lowL m l2)).length ≠ 0) : SpecL2 Tryd.prog 64 [.int .i64 (m : Nat), .slice A n c, .slice B k d] w (quotP m (trim (lowL m l)) (trim (lowL m l2))) (restP m (trim (lowL m l)) (trim (lowL m l2))) := by
  have hla := ints_len ha
  subst hla
  have hlb := ints_len hb
  subst hlb
  have hA := trimLow_lt m l
  have hB := trimLow_lt m l2
  have hta := trim_length (lowL m l)
  have htb := trim_length (lowL m l2)
  have hla1 := tl_le (lowL m l)
  have hlb1 := tl_le (lowL m l2)
  have hll1 := lowL_len m l
  have hll2 := lowL_len m l2
  generalize ea : trim (lowL m l) = a at *
  generalize eb : trim (lowL m l2) = b at *
  have hta2 : Tr m a := by rw [← ea]; exact trimLow_tr m l
  have htb2 : Tr m b := by rw [← eb]; exact trimLow_tr m l2
  have hla5 : a.length ≤ 1073741824 := by omega
  have hlb5 : b.length ≤ 1073741824 := by omega
  have htop := htb2.top hb0
  refine spec_of Tryd.func64 rfl Tryd.ntmps64 rfl ?_
  refine CW.seq ?_
  refine CW.reg [0, 1] rfl ?_   -- 0, field.go:143
  refine s_as 6 rfl rfl ?_
  refine s_as 7 rfl rfl ?_
  refine SX.next ?_
  refine CW.seq ?_
  refine CW.reg [0, 1, 2, 3] rfl ?_   -- 1, field.go:144
  refine s_mv 13 rfl rfl ?_
  refine s_mv 14 rfl rfl ?_
  refine s_call 15 rfl rfl rfl rfl (fun w hw => by have := rtrim_spec m A l.length c l w hm (hw.old ha) (by omega); rw [ea] at this; exact this) (fun _ _ => trivial) (fun q1 hq1 => ?_)
  refine s_as 1 rfl rfl ?_
  refine SX.next ?_
  refine CW.seq ?_
  refine CW.reg [0, 1, 2, 3] rfl ?_   -- 2, field.go:145
  refine s_mv 16 rfl rfl ?_
  refine s_mv 17 rfl rfl ?_
  refine s_call 18 rfl rfl rfl rfl (fun w hw => by have := rtrim_spec m B l2.length d l2 w hm (hw.old hb) (by omega); rw [eb] at this; exact this) (fun _ _ => trivial) (fun q2 hq2 => ?_)
  refine s_as 2 rfl rfl ?_
  refine SX.next ?_
  refine CW.seq ?_
  refine CW.reg [0, 1, 2, 3, 4] rfl ?_   -- 3, field.go:146
  refine s_mv 19 rfl rfl ?_
  refine s_len 20 rfl rfl ?_
  refine s_add 21 rfl rfl rfl (r := ((a.length + 1 : Nat) : Int)) (w64 (by omega)) ?_
  refine s_make 22 (a.length + 1) rfl rfl rfl rfl rfl (by omega) (fun _ _ => trivial) (fun go => ?_)
  refine s_as 8 rfl rfl ?_
  refine SX.next ?_
  refine CW.seq ?_
  refine CW.reg [0, 1, 2, 3, 4, 5, 6, 7, 8] rfl ?_   -- 4, field.go:147
  refine s_mv 23 rfl rfl ?_
  refine s_mv 24 rfl rfl ?_
  refine s_mv 25 rfl rfl ?_
  refine s_len 26 rfl rfl ?_
  refine s_sub 27 rfl rfl rfl (r := ((b.length - 1 : Nat) : Int)) (by rw [show ((b.length : Nat) : Int) - 1 = ((b.length - 1 : Nat) : Int) by omega]; exact w64 (by omega)) ?_
  refine s_iaO 28 1 (b.length - 1) rfl rfl rfl rfl rfl (by omega) ?_
  refine s_ldO 29 1 rfl rfl rfl (natsAtC (by omega)) ?_
  refine s_call1 30 rfl rfl rfl rfl (fun w hw => rinvN hm (htb2.c _) htop) (fun _ _ => trivial) ?_
  refine s_as 9 rfl rfl ?_
  refine SX.next ?_
  refine CW.seq ?_
  refine CW.block ?_
  refine CW.loop (G := List Nat × (Nat → Nat) × (Option Addr × Nat)) (fun q => [(0, .int .i64 (m : Nat)), (1, .slice q.2.2.1 q.1.length q.2.2.2), (2, .slice q2.1 b.length q2.2), (8, .slice (some ⟨go, 0, none⟩) (a.length + 1) (a.length + 1)), (9, .int .i64 (inv m (cf b (b.length - 1)) : Nat))]) (fun q => Sto w [own 3 1 q.2.2.1 q.1.length q.2.2.2 (nats .i64 q.1), blk go 3 (ints .i64 (tabN (a.length + 1) q.2.1)).toArray, own 3 1 q2.1 b.length q2.2 (nats .i64 b)]) (DivR m a b) (fun q => q.1.length) (a, fun _ => 0, q1) ⟨rfl, rfl, rfl, rfl, rfl, trivial⟩ (fun _ h => by rw [show tabN (a.length + 1) (fun _ => 0) = tab (a.length + 1) (fun _ => 0) from rfl, ← tab_zero]; exact h.pick [2, 0, 0] rfl) (divR_start m hta2 b q1) ?_
  rintro ⟨a1, Q, q3⟩ hq
  have hq1 := hq.tr
  have hq2 := hq.le
  have hq3 := hq.lt
  simp only at hq1 hq2 hq3
  dsimp only
  refine CW.seq ?_
  refine CW.seq ?_
  refine CW.reg [0, 1, 2, 3, 4] rfl ?_   -- 5, field.go:148
  refine s_mv 31 rfl rfl ?_
  refine s_len 32 rfl rfl ?_
  refine s_mv 33 rfl rfl ?_
  refine s_len 34 rfl rfl ?_
  refine s_ge 35 rfl rfl rfl rfl ?_
  refine SX.next ?_
  refine CW.test rfl (fun hc => ?_) (fun hc => ?_)
  · skip
    have hlb1 : b.length ≤ a1.length := by omega
    have hnx := fun A2 => hq.next hm (A2 := A2) htb2 hb0 hlb1
    have hsl := (scaleP_tr hm htb2 (gm m (cf a1 (a1.length - 1)) (inv m (cf b (b.length - 1))))).lt
    have hcl : ∀ x ∈ (List.replicate (a1.length - b.length) 0 ++ (scaleP m b (gm m (cf a1 (a1.length - 1)) (inv m (cf b (b.length - 1)))))), x < 2 ^ m := fun x hx => by
      rcases List.mem_append.1 hx with hx | hx
      · rw [(List.mem_replicate.1 hx).2]; exact Nat.two_pow_pos m
      · exact hsl x hx
    have hcat : (List.replicate (a1.length - b.length) (Value.int .i64 0)).toArray.toList ++ nats .i64 (scaleP m b (gm m (cf a1 (a1.length - 1)) (inv m (cf b (b.length - 1))))) = ints .i64 ((List.replicate (a1.length - b.length) 0 ++ (scaleP m b (gm m (cf a1 (a1.length - 1)) (inv m (cf b (b.length - 1)))))).map Int.ofNat) := by rw [← nats_ints, nats_rep]; simp [nats]
    have hsl2 : (scaleP m b (gm m (cf a1 (a1.length - 1)) (inv m (cf b (b.length - 1))))).length ≤ b.length := by have := len_le_of (scaleP_tr hm htb2 (gm m (cf a1 (a1.length - 1)) (inv m (cf b (b.length - 1))))) (n := b.length) (fun j hj => by rw [cf_scaleP, cf_out hj, gm_zero_left]); exact this
    refine CW.skip ?_
    refine KN.code ?_
    refine CW.block ?_
    refine CW.seq ?_
    refine CW.reg [0, 1, 2, 3, 4, 5] rfl ?_   -- 6, field.go:149
    refine s_mv 36 rfl rfl ?_
    refine s_len 37 rfl rfl ?_
    refine s_mv 38 rfl rfl ?_
    refine s_len 39 rfl rfl ?_
    refine s_sub 40 rfl rfl rfl (r := ((a1.length - b.length : Nat) : Int)) (by show IntKind.i64.wrap (((a1.length : Nat) : Int) - (b.length : Nat)) = _; rw [show ((a1.length : Nat) : Int) - (b.length : Nat) = ((a1.length - b.length : Nat) : Int) by omega]; exact w64 (by omega)) ?_
    refine s_as 10 rfl rfl ?_
    refine SX.next ?_
    refine CW.seq ?_
    refine CW.reg [0, 1, 2, 3, 4, 5, 6, 7, 8, 9] rfl ?_   -- 7, field.go:150
    refine s_mv 41 rfl rfl ?_
    refine s_mv 42 rfl rfl ?_
    refine s_mv 43 rfl rfl ?_
    refine s_len 44 rfl rfl ?_
    refine s_sub 45 rfl rfl rfl (r := ((a1.length - 1 : Nat) : Int)) (by show IntKind.i64.wrap (((a1.length : Nat) : Int) - 1) = _; rw [show ((a1.length : Nat) : Int) - 1 = ((a1.length - 1 : Nat) : Int) by omega]; exact w64 (by omega)) ?_
    refine s_iaO 46 0 (a1.length - 1) rfl rfl rfl rfl rfl (by show a1.length - 1 < a1.length; omega) ?_
    refine s_ldO 47 0 rfl rfl rfl (natsAtC (by omega)) ?_
    refine s_mv 48 rfl rfl ?_
    refine s_call1 49 rfl rfl rfl rfl (fun w hw => rmulN hm (hq1.c _) (inv_lt hm _)) (fun _ _ => trivial) ?_
    refine s_as 11 rfl rfl ?_
    refine SX.next ?_
    refine CW.seq ?_
    refine CW.reg [0, 1, 2, 3, 4] rfl ?_   -- 8, field.go:151
    refine s_mv 50 rfl rfl ?_
    refine s_mv 51 rfl rfl ?_
    refine s_mv 52 rfl rfl ?_
    refine s_ia0 53 (a1.length - b.length) rfl rfl rfl rfl (by omega) ?_
    refine s_stB 1 rfl rfl rfl rfl rfl (by rw [show (ints .i64 (tabN (a.length + 1) Q)).toArray.size = a.length + 1 from tab_size]; omega) (fun _ _ => trivial) ?_
    refine SX.next ?_
    refine CW.seq ?_
    refine CW.reg [0, 1, 2] rfl ?_   -- 9, field.go:152
    refine s_mv 54 rfl rfl ?_
    refine s_make 55 (a1.length - b.length) rfl rfl rfl rfl rfl (by omega) (fun _ _ => trivial) (fun g5 => ?_)
    refine s_as 12 rfl rfl ?_
    refine SX.next ?_
    refine CW.seq ?_
    refine CW.reg [0, 1, 2, 3, 4, 5, 6, 7] rfl ?_   -- 10, field.go:153
    refine s_mv 56 rfl rfl ?_
    refine s_mv 57 rfl rfl ?_
    refine s_mv 58 rfl rfl ?_
    refine s_mv 59 rfl rfl ?_
    refine s_bsl 60 rfl rfl (cells := #[.int .i64 ((gm m (cf a1 (a1.length - 1)) (inv m (cf b (b.length - 1)))) : Nat)]) (by kernel_rfl) rfl (fun _ _ => trivial) (fun gb => ?_)
    refine s_call 61 rfl rfl rfl rfl (fun w hw => by have := rtimes_spec m q2.1 b.length q2.2 (b.map Int.ofNat) (some ⟨gb, 0, none⟩) 1 1 [(((gm m (cf a1 (a1.length - 1)) (inv m (cf b (b.length - 1)))) : Nat) : Int)] w hm (by rw [← nats_ints]; exact (hw.has (i := 4) rfl).of_own) (Has.cong ((hw.has (i := 0) rfl).blk_sl (m := 1) rfl) rfl) (by omega) (by omega); rw [htb2.low, show lowL m [(((gm m (cf a1 (a1.length - 1)) (inv m (cf b (b.length - 1)))) : Nat) : Int)] = [(gm m (cf a1 (a1.length - 1)) (inv m (cf b (b.length - 1))))] from congrArg (fun z => [z]) (lo_nat (gm_lt hm (hq1.c _) _)), mulP_unit hm htb2 (gm_lt hm (hq1.c _) _)] at this; exact this) (fun _ _ => trivial) (fun q6 hq6 => ?_)
    refine SX.pre (fun _ h => h.blkOwn (q := 2) (c := a1.length - b.length) (sz := 1) rfl (by simp) (by unfold maxLen; omega)) ?_
    refine s_app 62 2 rfl rfl rfl rfl (ys := nats .i64 (scaleP m b (gm m (cf a1 (a1.length - 1)) (inv m (cf b (b.length - 1)))))) (fun w hw => (hw.has (i := 0) rfl).of_own) (nats_one _ _) rfl (by omega) (by unfold maxLen; omega) (by omega) (fun _ _ _ _ => trivial) (fun A2 c2 hc2 => ?_)
    refine s_as 12 rfl rfl ?_
    refine SX.next ?_
    refine CW.reg [0, 1, 2, 3, 4] rfl ?_   -- 11, field.go:154
    refine s_mv 63 rfl rfl ?_
    refine s_mv 64 rfl rfl ?_
    refine s_mv 65 rfl rfl ?_
    refine s_call 66 rfl rfl rfl rfl (fun w hw => by have := radd_spec m q3.1 a1.length q3.2 (a1.map Int.ofNat) A2 (a1.length - b.length + (scaleP m b (gm m (cf a1 (a1.length - 1)) (inv m (cf b (b.length - 1))))).length) c2 ((List.replicate (a1.length - b.length) 0 ++ (scaleP m b (gm m (cf a1 (a1.length - 1)) (inv m (cf b (b.length - 1)))))).map Int.ofNat) w hm (by rw [← nats_ints]; exact (hw.has (i := 3) rfl).of_own) (Has.cong ((hw.has (i := 2) rfl).of_own) hcat) (by omega) (by omega); rw [lowL_ofNat hq1.lt, lowL_ofNat hcl] at this; exact this) (fun _ _ => trivial) (fun q7 hq7 => ?_)
    refine s_as 1 rfl rfl ?_
    refine SX.end_ ?_
    refine KN.blk ?_
    exact KN.back (addP a1 (List.replicate (a1.length - b.length) 0 ++ (scaleP m b (gm m (cf a1 (a1.length - 1)) (inv m (cf b (b.length - 1)))))), (fun j => if j = a1.length - b.length then (gm m (cf a1 (a1.length - 1)) (inv m (cf b (b.length - 1)))) else Q j), q7) ⟨rfl, rfl, rfl, rfl, rfl, trivial⟩ (fun _ h => by simp only; rw [← tabN_set]; exact h.pick [0, 4, 4] rfl) (hnx q7).1 (hnx q7).2
  · skip
    obtain ⟨hd1, hd2⟩ := hq.done hm hta2 htb2 hb0 (by omega)
    rw [← hd2]
    refine CW.exit rfl ?_
    refine KN.code ?_
    refine CW.seq ?_
    refine CW.reg [0, 1, 2, 3, 4, 5] rfl ?_   -- 12, field.go:156
    refine s_mv 67 rfl rfl ?_
    refine s_mv 68 rfl rfl ?_
    refine s_call 69 rfl rfl rfl rfl (fun w hw => by have := rtrim_spec m (some ⟨go, 0, none⟩) (a.length + 1) (a.length + 1) (tabN (a.length + 1) Q) w hm (Has.cong ((hw.has (i := 1) rfl).blk_sl (m := a.length + 1) (by exact tab_size.trans (Nat.mul_one _).symm)) rfl) (by omega); rw [hd1] at this; exact this) (fun _ _ => trivial) (fun q8 hq8 => ?_)
    refine s_mv 70 rfl rfl ?_
    refine s_as 6 rfl rfl ?_
    refine s_as 7 rfl rfl ?_
    refine SX.next ?_
    refine CW.ret ?_
    exact KN.ret (rs := [.tmp 6, .tmp 7]) Tryd.results64 rfl (fun w hw => ⟨(q8, q3), rfl, hq8, hw.pick [0, 0] rfl⟩)

/-! ### Divisors and roots -/
/-- What the common divisor's loop keeps. -/
structure GcdR (m : Nat) (a b : List Nat) (q : List Nat × List Nat × (Option Addr × Nat) × (Option Addr × Nat)) : Prop where
  h1 : Tr m q.1
  h2 : Tr m q.2.1
  l1 : q.1.length ≤ 1073741824
  l2 : q.2.1.length ≤ 1073741824
  eq : gcdE m q.1 q.2.1 = gcdE m a b
theorem lowL_one {m : Nat} {x : Nat} (h : x < 2 ^ m) : lowL m [((x : Nat) : Int)] = [x] := congrArg (fun z => [z]) (lo_nat h)

theorem rgcd_spec (m : Nat) (A : Option Addr) (n c : Nat) (l : List Int) (B : Option Addr) (k d : Nat) (l2 : List Int) (w : World) (hm : Ok m) (ha : Has (sl 1 A n (ints .i64 l)) w) (hb : Has (sl 1 B k (ints .i64 l2)) w) (hn : n ≤ 1073741824) (hk : k ≤ 1073741824) : SpecL Tryd.prog 62 [.int .i64 (m : Nat), .slice A n c, .slice B k d] w (monicP m (gcdE m (trim (lowL m l)) (trim (lowL m l2)))) := by
  have hla := ints_len ha
  subst hla
  have hlb := ints_len hb
  subst hlb
  have hA := trimLow_lt m l
  have hB := trimLow_lt m l2
  have hta := trim_length (lowL m l)
  have htb := trim_length (lowL m l2)
  have hla1 := tl_le (lowL m l)
  have hlb1 := tl_le (lowL m l2)
  have hll1 := lowL_len m l
  have hll2 := lowL_len m l2
  generalize ea : trim (lowL m l) = a at *
  generalize eb : trim (lowL m l2) = b at *
  have hta2 : Tr m a := by rw [← ea]; exact trimLow_tr m l
  have htb2 : Tr m b := by rw [← eb]; exact trimLow_tr m l2
  have hla5 : a.length ≤ 1073741824 := by omega
  have hlb5 : b.length ≤ 1073741824 := by omega
  refine spec_of Tryd.func62 rfl Tryd.ntmps62 rfl ?_
  refine CW.seq ?_
  refine CW.reg [0] rfl ?_   -- 0, field.go:182
  refine s_as 6 rfl rfl ?_
  refine SX.next ?_
  refine CW.seq ?_
  refine CW.reg [0, 1, 2, 3] rfl ?_   -- 1, field.go:183
  refine s_mv 9 rfl rfl ?_
  refine s_mv 10 rfl rfl ?_
  refine s_call 11 rfl rfl rfl rfl (fun w hw => by have := rtrim_spec m A l.length c l w hm (hw.old ha) (by omega); rw [ea] at this; exact this) (fun _ _ => trivial) (fun q1 hq1 => ?_)
  refine s_as 1 rfl rfl ?_
  refine SX.next ?_
  refine CW.seq ?_
  refine CW.reg [0, 1, 2, 3] rfl ?_   -- 2, field.go:184
  refine s_mv 12 rfl rfl ?_
  refine s_mv 13 rfl rfl ?_
  refine s_call 14 rfl rfl rfl rfl (fun w hw => by have := rtrim_spec m B l2.length d l2 w hm (hw.old hb) (by omega); rw [eb] at this; exact this) (fun _ _ => trivial) (fun q2 hq2 => ?_)
  refine s_as 2 rfl rfl ?_
  refine SX.next ?_
  refine CW.seq ?_
  refine CW.block ?_
  refine CW.loop (G := List Nat × List Nat × (Option Addr × Nat) × (Option Addr × Nat)) (fun q => [(0, .int .i64 (m : Nat)), (1, .slice q.2.2.1.1 q.1.length q.2.2.1.2), (2, .slice q.2.2.2.1 q.2.1.length q.2.2.2.2)]) (fun q => Sto w [own 3 1 q.2.2.2.1 q.2.1.length q.2.2.2.2 (nats .i64 q.2.1), own 3 1 q.2.2.1.1 q.1.length q.2.2.1.2 (nats .i64 q.1)]) (GcdR m a b) (fun q => q.2.1.length) (a, b, q1, q2) ⟨rfl, rfl, rfl, trivial⟩ (fun _ h => h) ⟨hta2, htb2, hla5, hlb5, rfl⟩ ?_
  rintro ⟨a1, b1, q3, q4⟩ hq
  obtain ⟨hq1, hq2, hq3, hq4, hq5⟩ := hq
  simp only at hq1 hq2 hq3 hq4 hq5
  dsimp only
  refine CW.seq ?_
  refine CW.seq ?_
  refine CW.reg [0, 1, 2] rfl ?_   -- 3, field.go:185
  refine s_mv 15 rfl rfl ?_
  refine s_len 16 rfl rfl ?_
  refine s_gt 17 rfl rfl rfl rfl ?_
  refine SX.next ?_
  refine CW.test rfl (fun hc => ?_) (fun hc => ?_)
  · skip
    have hb10 : b1.length ≠ 0 := by omega
    have hrl := restP_len hm hq1.lt hq2.lt hb10 (hq2.top hb10)
    refine CW.skip ?_
    refine KN.code ?_
    refine CW.block ?_
    refine CW.seq ?_
    refine CW.reg [0, 1, 2, 3, 4, 5, 6, 7, 8] rfl ?_   -- 4, field.go:186
    refine s_mv 19 rfl rfl ?_
    refine s_mv 20 rfl rfl ?_
    refine s_mv 21 rfl rfl ?_
    refine s_call 22 rfl rfl rfl rfl (fun w hw => by have := rdiv_spec m q3.1 a1.length q3.2 (a1.map Int.ofNat) q4.1 b1.length q4.2 (b1.map Int.ofNat) w hm (by rw [← nats_ints]; exact (hw.has (i := 1) rfl).of_own) (by rw [← nats_ints]; exact (hw.has (i := 0) rfl).of_own) hq3 hq4 (by rw [hq2.low]; exact hb10); rw [hq1.low, hq2.low] at this; exact this) (fun _ _ => trivial) (fun q5 hq6 => ?_)
    refine s_mv 18 rfl rfl ?_
    refine s_ext 23 rfl rfl rfl ?_
    refine s_ext 24 rfl rfl rfl ?_
    refine s_as 7 rfl rfl ?_
    refine s_as 8 rfl rfl ?_
    refine SX.next ?_
    refine CW.seq ?_
    refine CW.reg [0, 1] rfl ?_   -- 5, field.go:187
    refine s_mv 25 rfl rfl ?_
    refine s_as 1 rfl rfl ?_
    refine SX.next ?_
    refine CW.reg [0, 1] rfl ?_   -- 6, field.go:188
    refine s_mv 26 rfl rfl ?_
    refine s_as 2 rfl rfl ?_
    refine SX.end_ ?_
    refine KN.blk ?_
    exact KN.back (b1, restP m a1 b1, q4, q5.2) ⟨rfl, rfl, rfl, trivial⟩ (fun _ h => h.pick [1, 1] rfl) ⟨hq2, restP_tr hm hq1, hq4, by simp only; omega, (gcdE_step hm hq1 hq2 hb10).trans hq5⟩ (by simp only; omega)
  · skip
    have hg : gcdE m a b = a1 := by rw [← hq5]; exact gcdE_last (by omega)
    rw [hg]
    refine CW.exit rfl ?_
    refine KN.code ?_
    refine CW.seq ?_
    refine CW.seq ?_
    refine CW.reg [0, 1, 2] rfl ?_   -- 7, field.go:190
    refine s_mv 27 rfl rfl ?_
    refine s_len 28 rfl rfl ?_
    refine s_eq 29 rfl rfl rfl rfl ?_
    refine SX.next ?_
    refine CW.test rfl (fun hz => ?_) (fun hz => ?_)
    · skip
      have h0 : monicP m a1 = [] := if_pos (by omega)
      refine CW.seq ?_
      refine CW.reg [0] rfl ?_   -- 8, field.go:191
      refine s_as 6 rfl rfl ?_
      refine SX.next ?_
      refine CW.ret ?_
      exact KN.ret (rs := [.tmp 6]) Tryd.results62 rfl (fun w hw => ⟨(none, 0), by rw [h0]; rfl, by rw [h0]; exact Nat.le_refl _, by rw [h0]; exact (hw.pick [] rfl).begin_ _ 1⟩)
    · skip
      have ha10 : a1.length ≠ 0 := by omega
      have h0 : monicP m a1 = scaleP m a1 (inv m (cf a1 (a1.length - 1))) := if_neg ha10
      rw [h0]
      refine CW.skip ?_
      refine KN.code ?_
      refine CW.seq ?_
      refine CW.reg [0, 1, 2, 3, 4, 5, 6, 7, 8, 9, 10, 11, 12] rfl ?_   -- 9, field.go:193
      refine s_mv 30 rfl rfl ?_
      refine s_mv 31 rfl rfl ?_
      refine s_mv 32 rfl rfl ?_
      refine s_mv 33 rfl rfl ?_
      refine s_mv 34 rfl rfl ?_
      refine s_len 35 rfl rfl ?_
      refine s_sub 36 rfl rfl rfl (r := ((a1.length - 1 : Nat) : Int)) (by show IntKind.i64.wrap (((a1.length : Nat) : Int) - 1) = _; rw [show ((a1.length : Nat) : Int) - 1 = ((a1.length - 1 : Nat) : Int) by omega]; exact w64 (by omega)) ?_
      refine s_iaO 37 1 (a1.length - 1) rfl rfl rfl rfl rfl (by show a1.length - 1 < a1.length; omega) ?_
      refine s_ldO 38 1 rfl rfl rfl (natsAtC (by omega)) ?_
      refine s_call1 39 rfl rfl rfl rfl (fun w hw => rinvN hm (hq1.c _) (hq1.top ha10)) (fun _ _ => trivial) ?_
      refine s_bsl 40 rfl rfl (cells := #[.int .i64 (inv m (cf a1 (a1.length - 1)) : Nat)]) (by kernel_rfl) rfl (fun _ _ => trivial) (fun gb => ?_)
      refine s_call 41 rfl rfl rfl rfl (fun w hw => by have := rtimes_spec m q3.1 a1.length q3.2 (a1.map Int.ofNat) (some ⟨gb, 0, none⟩) 1 1 [((inv m (cf a1 (a1.length - 1)) : Nat) : Int)] w hm (by rw [← nats_ints]; exact (hw.has (i := 2) rfl).of_own) (Has.cong ((hw.has (i := 0) rfl).blk_sl (m := 1) rfl) rfl) (by omega) (by omega); rw [hq1.low, lowL_one (inv_lt hm _), mulP_unit hm hq1 (inv_lt hm _)] at this; exact this) (fun _ _ => trivial) (fun q6 hq7 => ?_)
      refine s_as 6 rfl rfl ?_
      refine SX.next ?_
      refine CW.ret ?_
      exact KN.ret (rs := [.tmp 6]) Tryd.results62 rfl (fun w hw => ⟨q6, rfl, hq7, hw.pick [0] rfl⟩)

theorem rroots_spec (m : Nat) (A : Option Addr) (n c : Nat) (l : List Int) (w : World) (hm : Ok m) (ha : Has (sl 1 A n (ints .i64 l)) w) (hn : n ≤ 4294967296) : SpecL Tryd.prog 63 [.int .i64 (m : Nat), .slice A n c] w (rootsP m (trim (lowL m l))) := by
  have hla := ints_len ha
  subst hla
  have hA := trimLow_lt m l
  have hta := trim_length (lowL m l)
  have hla1 := tl_le (lowL m l)
  have hll1 := lowL_len m l
  generalize ea : trim (lowL m l) = a at *
  have hle := pow_le14 hm
  have h1le := hm.hi
  have hlo := lowL_ofNat hA
  refine spec_of Tryd.func63 rfl Tryd.ntmps63 rfl ?_
  refine CW.seq ?_
  refine CW.reg [0] rfl ?_   -- 0, field.go:197
  refine s_as 4 rfl rfl ?_
  refine SX.next ?_
  refine CW.seq ?_
  refine CW.reg [0, 1, 2, 3] rfl ?_   -- 1, field.go:198
  refine s_mv 7 rfl rfl ?_
  refine s_mv 8 rfl rfl ?_
  refine s_call 9 rfl rfl rfl rfl (fun w hw => by have := rtrim_spec m A l.length c l w hm (hw.old ha) (by omega); rw [ea] at this; exact this) (fun _ _ => trivial) (fun q1 hq1 => ?_)
  refine s_as 1 rfl rfl ?_
  refine SX.next ?_
  refine CW.seq ?_
  refine CW.reg [0] rfl ?_   -- 2, field.go:199
  refine s_as 5 rfl rfl ?_
  refine SX.next ?_
  refine CW.seq ?_
  refine CW.seq ?_
  refine CW.reg [0] rfl ?_   -- 3, field.go:200
  refine s_as 6 rfl rfl ?_
  refine SX.next ?_
  refine CW.block ?_
  refine CW.loop (G := Nat × Option Addr × Nat) (fun q => [(0, .int .i64 (m : Nat)), (1, .slice q1.1 a.length q1.2), (5, .slice q.2.1 (rootsN m a q.1).length q.2.2), (6, .int .i64 (q.1 : Nat))]) (fun q => Sto w [own 3 1 q.2.1 (rootsN m a q.1).length q.2.2 (nats .i64 (rootsN m a q.1)), own 3 1 q1.1 a.length q1.2 (nats .i64 a)]) (fun q => (q.1 ≤ 2 ^ m ∧ (a.length = 0 → q.1 = 0)) ∧ (rootsN m a q.1).length ≤ q.2.2) (fun q => 2 ^ m - q.1) (0, none, 0) ⟨rfl, rfl, rfl, rfl, trivial⟩ (fun _ h => h.begin_ _ 1) ⟨⟨Nat.zero_le _, fun _ => rfl⟩, Nat.le_refl _⟩ ?_
  intro q hq
  have hq0 := hq.1.1
  have hqz := hq.1.2
  have hrl := rootsN_len m a q.1
  refine CW.seq ?_
  refine CW.seq ?_
  refine CW.reg [0, 1, 2, 3, 4, 5, 6, 7, 8, 9] rfl ?_   -- 4, field.go:200
  refine s_mv 10 rfl rfl ?_
  refine s_mv 11 rfl rfl ?_
  refine s_conv 12 rfl rfl (u64_nat hm) ?_
  refine s_shl 13 rfl rfl rfl (by omega) (shl_one hm) ?_
  refine s_lt 14 rfl rfl rfl rfl ?_
  refine s_mv 15 rfl rfl ?_
  refine SX.bool 15 rfl (fun hb => ?_) (fun hb => ?_)
  · skip
    replace hb := of_decide_eq_true hb
    refine s_mv 16 rfl rfl ?_
    refine s_len 17 rfl rfl ?_
    refine s_gt 18 rfl rfl rfl rfl ?_
    refine s_pickT 19 rfl rfl rfl ?_
    refine SX.next ?_
    refine CW.test rfl (fun hc => ?_) (fun hc => ?_)
    · skip
      have hs := N_succ m
      refine CW.skip ?_
      refine KN.code ?_
      refine CW.seq ?_
      refine CW.block ?_
      refine CW.seq ?_
      refine CW.reg [0, 1, 2, 3, 4] rfl ?_   -- 6, field.go:201
      refine s_mv 22 rfl rfl ?_
      refine s_mv 23 rfl rfl ?_
      refine s_mv 24 rfl rfl ?_
      refine s_call1 25 rfl rfl rfl rfl (v := .int .i64 (evL m a q.1 : Nat)) (fun w hw => by have := reval_spec m q1.1 a.length q1.2 (a.map Int.ofNat) (q.1 : Nat) w hm (by rw [← nats_ints]; exact (hw.has (i := 1) rfl).of_own) (by omega); rw [hlo, lo_nat (by omega)] at this; exact this) (fun _ _ => trivial) ?_
      refine s_eq 26 rfl rfl rfl rfl ?_
      refine SX.next ?_
      refine CW.test rfl (fun hcz => ?_) (fun hcz => ?_)
      · skip
        have hnx : rootsN m a (q.1 + 1) = rootsN m a q.1 ++ [q.1] := if_pos (by omega)
        refine CW.reg [0, 1, 2, 3, 4] rfl ?_   -- 7, field.go:202
        refine s_mv 27 rfl rfl ?_
        refine s_mv 28 rfl rfl ?_
        refine s_bsl 29 rfl rfl (cells := #[.int .i64 (q.1 : Nat)]) (by kernel_rfl) rfl (fun _ _ => trivial) (fun gb => ?_)
        refine s_app 30 1 rfl rfl rfl rfl (ys := [.int .i64 (q.1 : Nat)]) (fun w hw => Has.cong ((hw.has (i := 0) rfl).blk_sl (m := 1) rfl) rfl) rfl rfl (by omega) (by unfold maxLen; omega) (by omega) (fun _ _ _ _ => trivial) (fun A2 c2 hc2 => ?_)
        refine s_as 5 rfl rfl ?_
        refine SX.end_ ?_
        refine KN.blk ?_
        refine KN.code ?_
        refine CW.reg [0, 1, 2] rfl ?_   -- 5, field.go:200
        refine s_mv 20 rfl rfl ?_
        refine s_add 21 rfl rfl rfl (r := ((q.1 + 1 : Nat) : Int)) (w64 (by omega)) ?_
        refine s_as 6 rfl rfl ?_
        refine SX.end_ ?_
        exact KN.back (q.1 + 1, A2, c2) ⟨rfl, rfl, by simp only [hnx, List.length_append, List.length_singleton]; rfl, rfl, trivial⟩ (fun _ h => by simp only [hnx]; rw [← nats_snoc, List.length_append]; exact h.pick [1, 1] rfl) ⟨⟨by simp only; omega, fun h => by omega⟩, by simp only [hnx, List.length_append, List.length_singleton]; exact hc2⟩ (by simp only; omega)
      · skip
        have hnx : rootsN m a (q.1 + 1) = rootsN m a q.1 := if_neg (by omega)
        refine CW.skip ?_
        refine KN.blk ?_
        refine KN.code ?_
        refine CW.reg [0, 1, 2] rfl ?_   -- 5, field.go:200
        refine s_mv 20 rfl rfl ?_
        refine s_add 21 rfl rfl rfl (r := ((q.1 + 1 : Nat) : Int)) (w64 (by omega)) ?_
        refine s_as 6 rfl rfl ?_
        refine SX.end_ ?_
        exact KN.back (q.1 + 1, q.2) ⟨rfl, rfl, by simp only [hnx]; rfl, rfl, trivial⟩ (fun _ h => by simp only [hnx]; exact h) ⟨⟨by simp only; omega, fun h => by omega⟩, by simp only [hnx]; exact hq.2⟩ (by simp only; omega)
    · skip
      have hz : rootsN m a q.1 = rootsP m a := by
        rw [hqz (by omega)]
        exact (if_pos (by omega)).symm
      refine CW.exit rfl ?_
      refine KN.code ?_
      refine CW.seq ?_
      refine CW.reg [0, 1] rfl ?_   -- 8, field.go:205
      refine s_mv 31 rfl rfl ?_
      refine s_as 4 rfl rfl ?_
      refine SX.next ?_
      refine CW.ret ?_
      exact KN.ret (rs := [.tmp 4]) Tryd.results63 rfl (fun w hw => ⟨q.2, by rw [← hz]; rfl, by rw [← hz]; exact hq.2, by rw [← hz]; exact hw.pick [0] rfl⟩)
  · skip
    replace hb := of_decide_eq_false hb
    have hz : rootsN m a q.1 = rootsP m a := by
      have hs := N_succ m
      rw [show q.1 = 2 ^ m by omega]
      refine (if_neg (fun h => ?_)).symm
      have := hqz h
      omega
    refine SX.skip rfl ?_
    refine SX.skip rfl ?_
    refine SX.skip rfl ?_
    refine s_pickF 19 rfl rfl rfl ?_
    refine SX.next ?_
    refine CW.condF rfl ?_
    refine CW.exit rfl ?_
    refine KN.code ?_
    refine CW.seq ?_
    refine CW.reg [0, 1] rfl ?_   -- 8, field.go:205
    refine s_mv 31 rfl rfl ?_
    refine s_as 4 rfl rfl ?_
    refine SX.next ?_
    refine CW.ret ?_
    exact KN.ret (rs := [.tmp 4]) Tryd.results63 rfl (fun w hw => ⟨q.2, by rw [← hz]; rfl, by rw [← hz]; exact hq.2, by rw [← hz]; exact hw.pick [0] rfl⟩)
