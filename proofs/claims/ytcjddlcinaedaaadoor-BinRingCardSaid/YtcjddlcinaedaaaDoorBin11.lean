/- The contracts of package binpoly: common divisors, sameness, values. Conditions: the lists are bytes, read where they lie. -/
import Derived.Test.YtcjddlcinaedaaaDoorBin10
namespace Go.Proofs.YtcjddlcinaedaaaDoor
open Go Go.Lib Go.Sx Go.Fm
set_option maxRecDepth 100000
/-- What the common divisor's loop keeps. -/
structure BgG (a b : List Nat) (q : List Nat × List Nat × (Option Addr × Nat) × (Option Addr × Nat)) : Prop where
  h1 : B1 q.1
  h2 : B1 q.2.1
  l1 : q.1.length ≤ 8000000
  l2 : q.2.1.length ≤ 8000000
  c1 : (bys q.1).length ≤ q.2.2.1.2
  c2 : (bys q.2.1).length ≤ q.2.2.2.2
  eq : gcdE 3 q.1 q.2.1 = gcdE 3 a b
theorem bys_zero {b : List Nat} (hb : B1 b) : (bys b).length = 0 ↔ b.length = 0 := by
  constructor
  · intro h
    have := bl_bys hb
    rw [List.eq_nil_of_length_eq_zero h] at this
    rw [← this]
    rfl
  · intro h
    rw [List.eq_nil_of_length_eq_zero h]
    rfl
theorem bys_lt {b : List Nat} (hb : B1 b) : ∀ x ∈ bys b, x < 256 := (bys_tr hb.le).lt
theorem trim_bl {p : List Nat} (hp : ∀ x ∈ p, x < 256) : trim p = bys (bl p) := trim_bys hp

theorem bgcd_spec (A : Option Addr) (n c : Nat) (p : List Nat) (A2 : Option Addr) (n2 c2 : Nat) (p2 : List Nat) (w : World) (ha : Has (sl 1 A n (nats .u8 p)) w) (hp : ∀ x ∈ p, x < 256) (hn : n ≤ 1073741824) (hcp : n ≤ c) (ha2 : Has (sl 1 A2 n2 (nats .u8 p2)) w) (hp2 : ∀ x ∈ p2, x < 256) (hn2 : n2 ≤ 1073741824) (hcp2 : n2 ≤ c2) (hs1 : p.length ≤ 1000000) (hs2 : p2.length ≤ 1000000) : SpecB Tryd.prog 70 [.slice A n c, .slice A2 n2 c2] w (bys (gcdE 3 (bl p) (bl p2))) := by
  have hla := nats_len ha
  have hla2 := nats_len ha2
  subst hla
  subst hla2
  have hb1 := bl_len p
  have hb2 := bl_len p2
  refine spec_of Tryd.func70 rfl Tryd.ntmps70 rfl ?_
  refine CW.seq ?_
  refine CW.reg [0] rfl ?_   -- 0, binpoly.go:139
  refine s_as 4 rfl rfl ?_
  refine SX.next ?_
  refine CW.seq ?_
  refine CW.reg [0, 1, 2, 3, 4, 5] rfl ?_   -- 1, binpoly.go:140
  refine s_mv 8 rfl rfl ?_
  refine s_call 9 rfl rfl rfl rfl (fun w hw => by have := trimmed_spec A p.length c p w (hw.old ha) hp hn hcp; rw [trim_bl hp] at this; exact this) (fun _ _ => trivial) (fun q1 hq1 => ?_)
  refine s_mv 10 rfl rfl ?_
  refine s_call 11 rfl rfl rfl rfl (fun w hw => by have := trimmed_spec A2 p2.length c2 p2 w (hw.old ha2) hp2 hn2 hcp2; rw [trim_bl hp2] at this; exact this) (fun _ _ => trivial) (fun q2 hq2 => ?_)
  refine s_as 0 rfl rfl ?_
  refine s_as 1 rfl rfl ?_
  refine SX.next ?_
  refine CW.seq ?_
  refine CW.block ?_
  refine CW.loop (G := List Nat × List Nat × (Option Addr × Nat) × (Option Addr × Nat)) (fun q => [(0, .slice q.2.2.1.1 (bys q.1).length q.2.2.1.2), (1, .slice q.2.2.2.1 (bys q.2.1).length q.2.2.2.2)]) (fun q => Sto w [own 5 1 q.2.2.2.1 (bys q.2.1).length q.2.2.2.2 (nats .u8 (bys q.2.1)), own 5 1 q.2.2.1.1 (bys q.1).length q.2.2.1.2 (nats .u8 (bys q.1))]) (BgG (bl p) (bl p2)) (fun q => q.2.1.length) (bl p, bl p2, q1, q2) ⟨rfl, rfl, trivial⟩ (fun _ h => h) ⟨bl_b1 p, bl_b1 p2, by simp only; omega, by simp only; omega, hq1, hq2, rfl⟩ ?_
  rintro ⟨a1, b1, q3, q4⟩ hq
  obtain ⟨k1, k2, k3, k4, k5, k6, k7⟩ := hq
  simp only at k1 k2 k3 k4 k5 k6 k7
  dsimp only
  have hz := bys_zero k2
  have hy1 := bys_len a1
  have hy2 := bys_len b1
  refine CW.seq ?_
  refine CW.seq ?_
  refine CW.reg [0, 1, 2] rfl ?_   -- 2, binpoly.go:141
  refine s_mv 12 rfl rfl ?_
  refine s_len 13 rfl rfl ?_
  refine s_gt 14 rfl rfl rfl rfl ?_
  refine SX.next ?_
  refine CW.test rfl (fun hc => ?_) (fun hc => ?_)
  · skip
    have h0 : b1.length ≠ 0 := fun h => by have := hz.2 h; omega
    have hrl := restP_len ok3 k1.tr.lt k2.tr.lt h0 (k2.tr.top h0)
    refine CW.skip ?_
    refine KN.code ?_
    refine CW.block ?_
    refine CW.seq ?_
    refine CW.reg [0, 1, 2, 3, 4, 5, 6, 7, 8, 9] rfl ?_   -- 3, binpoly.go:142
    refine s_mv 16 rfl rfl ?_
    refine s_mv 17 rfl rfl ?_
    refine s_call 18 rfl rfl rfl rfl (fun w hw => by have := bdiv_spec q3.1 (bys a1).length q3.2 (bys a1) q4.1 (bys b1).length q4.2 (bys b1) w ((hw.has (i := 1) rfl).of_own) (bys_lt k1) (by omega) k5 ((hw.has (i := 0) rfl).of_own) (bys_lt k2) (by omega) k6 (by rw [bl_bys k2]; exact h0) (by omega); rw [bl_bys k1, bl_bys k2] at this; exact this) (fun _ _ => trivial) (fun q5 hq5 => ?_)
    refine s_mv 15 rfl rfl ?_
    refine s_ext 19 rfl rfl rfl ?_
    refine s_ext 20 rfl rfl rfl ?_
    refine s_ext 21 rfl rfl rfl ?_
    refine s_as 5 rfl rfl ?_
    refine s_as 6 rfl rfl ?_
    refine s_as 7 rfl rfl ?_
    refine SX.next ?_
    refine CW.reg [0, 1, 2, 3] rfl ?_   -- 4, binpoly.go:143
    refine s_mv 22 rfl rfl ?_
    refine s_mv 23 rfl rfl ?_
    refine s_as 0 rfl rfl ?_
    refine s_as 1 rfl rfl ?_
    refine SX.end_ ?_
    refine KN.blk ?_
    exact KN.back (b1, restP 3 a1 b1, q4, q5.2) ⟨rfl, rfl, trivial⟩ (fun _ h => h.pick [0, 1] rfl) ⟨k2, restP_b1 k1 k2 h0, k4, by simp only; omega, k6, hq5.2, (gcdE_step ok3 k1.tr k2.tr h0).trans k7⟩ (by simp only; omega)
  · skip
    have h0 : b1.length = 0 := hz.1 (by omega)
    have hg : gcdE 3 (bl p) (bl p2) = a1 := by rw [← k7]; exact gcdE_last h0
    refine CW.exit rfl ?_
    refine KN.code ?_
    refine CW.seq ?_
    refine CW.reg [0, 1] rfl ?_   -- 5, binpoly.go:145
    refine s_mv 24 rfl rfl ?_
    refine s_as 4 rfl rfl ?_
    refine SX.next ?_
    refine CW.ret ?_
    exact KN.ret (rs := [.tmp 4]) Tryd.results70 rfl (fun w hw => ⟨q3, by rw [hg]; rfl, by rw [hg]; exact k5, by rw [hg]; exact hw.pick [1] rfl⟩)

theorem bsm_spec (A : Option Addr) (n c : Nat) (p : List Nat) (A2 : Option Addr) (n2 c2 : Nat) (p2 : List Nat) (w : World) (ha : Has (sl 1 A n (nats .u8 p)) w) (hp : ∀ x ∈ p, x < 256) (hn : n ≤ 1073741824) (hcp : n ≤ c) (ha2 : Has (sl 1 A2 n2 (nats .u8 p2)) w) (hp2 : ∀ x ∈ p2, x < 256) (hn2 : n2 ≤ 1073741824) (hcp2 : n2 ≤ c2) : Spec1 Tryd.prog 52 [.slice A n c, .slice A2 n2 c2] w (.bool (decide (bl p = bl p2))) := by
  have hla := nats_len ha
  have hla2 := nats_len ha2
  subst hla
  subst hla2
  have hbb := strB_beq (bys_lt (bl_b1 p)) (bys_lt (bl_b1 p2))
  have hdd : decide (bys (bl p) = bys (bl p2)) = decide (bl p = bl p2) := decide_eq_decide.2 ⟨fun h => by rw [← bl_bys (bl_b1 p), h, bl_bys (bl_b1 p2)], fun h => by rw [h]⟩
  rw [hdd] at hbb
  refine spec_of Tryd.func52 rfl Tryd.ntmps52 rfl ?_
  refine CW.seq ?_
  refine CW.reg [0] rfl ?_   -- 0, binpoly.go:201
  refine s_as 4 rfl rfl ?_
  refine SX.next ?_
  refine CW.seq ?_
  refine CW.regD (.st true 0 (.st true 3 (.st false 1 (.alt 2 (.st false 4 (.st false 5 (.st true 6 (.st true 7 .done)))) (.st false 4 (.alt 2 (.st false 5 (.st true 6 (.st true 7 .done))) (.st false 5 (.st false 2 (.st true 6 (.st true 7 .done)))))))))) (Sto w []) mixed (by kernel_rfl) (fun _ h => h.drew) (fun _ h => h.dropR) ?_
  refine s_mv 5 rfl rfl ?_
  refine s_mv 8 rfl rfl ?_
  refine s_call 6 rfl rfl rfl rfl (fun w hw => by have := trimmed_spec A p.length c p w (hw.old ha) hp hn hcp; rw [trim_bl hp] at this; exact this) (fun _ h => h.dropR) (fun q1 hq1 => ?_)
  refine SX.alt ?_ ?_
  · skip
    refine s_b2s 7 (b := bys (bl p)) rfl (by kernel_rfl) (by kernel_rfl) rfl (fun w hw => by first | exact (hw.has (i := 0) rfl).of_own | exact (hw.has (i := 1) rfl).of_own) ?_
    refine s_call 9 rfl rfl rfl rfl (fun w hw => by have := trimmed_spec A2 p2.length c2 p2 w (hw.old ha2) hp2 hn2 hcp2; rw [trim_bl hp2] at this; exact this) (fun _ h => h.dropR) (fun q2 hq2 => ?_)
    refine s_b2s 10 (b := bys (bl p2)) rfl (by kernel_rfl) (by kernel_rfl) rfl (fun w hw => by first | exact (hw.has (i := 0) rfl).of_own | exact (hw.has (i := 1) rfl).of_own) ?_
    refine s_eqS 11 rfl rfl rfl hbb ?_
    refine s_as 4 rfl rfl ?_
    refine SX.next ?_
    refine CW.ret ?_
    exact KN.ret (rs := [.tmp 4]) Tryd.results52 rfl (fun w hw => ⟨rfl, hw.nothing⟩)
  · skip
    refine s_call 9 rfl rfl rfl rfl (fun w hw => by have := trimmed_spec A2 p2.length c2 p2 w (hw.old ha2) hp2 hn2 hcp2; rw [trim_bl hp2] at this; exact this) (fun _ h => h.dropR) (fun q2 hq2 => ?_)
    refine SX.alt ?_ ?_
    · skip
      refine s_b2s 7 (b := bys (bl p)) rfl (by kernel_rfl) (by kernel_rfl) rfl (fun w hw => by first | exact (hw.has (i := 0) rfl).of_own | exact (hw.has (i := 1) rfl).of_own) ?_
      refine s_b2s 10 (b := bys (bl p2)) rfl (by kernel_rfl) (by kernel_rfl) rfl (fun w hw => by first | exact (hw.has (i := 0) rfl).of_own | exact (hw.has (i := 1) rfl).of_own) ?_
      refine s_eqS 11 rfl rfl rfl hbb ?_
      refine s_as 4 rfl rfl ?_
      refine SX.next ?_
      refine CW.ret ?_
      exact KN.ret (rs := [.tmp 4]) Tryd.results52 rfl (fun w hw => ⟨rfl, hw.nothing⟩)
    · skip
      refine s_b2s 10 (b := bys (bl p2)) rfl (by kernel_rfl) (by kernel_rfl) rfl (fun w hw => by first | exact (hw.has (i := 0) rfl).of_own | exact (hw.has (i := 1) rfl).of_own) ?_
      refine s_b2s 7 (b := bys (bl p)) rfl (by kernel_rfl) (by kernel_rfl) rfl (fun w hw => by first | exact (hw.has (i := 0) rfl).of_own | exact (hw.has (i := 1) rfl).of_own) ?_
      refine s_eqS 11 rfl rfl rfl hbb ?_
      refine s_as 4 rfl rfl ?_
      refine SX.next ?_
      refine CW.ret ?_
      exact KN.ret (rs := [.tmp 4]) Tryd.results52 rfl (fun w hw => ⟨rfl, hw.nothing⟩)

/-! ### The value at 1 -/
theorem xs_add (f : Nat → Nat) (n : Nat) : ∀ k, xs f (n + k) = xs f n ^^^ xs (fun i => f (n + i)) k
  | 0 => by show xs f n = xs f n ^^^ 0; rw [Nat.xor_zero]
  | k + 1 => by
    show xs f (n + k) ^^^ f (n + k) = xs f n ^^^ (xs (fun i => f (n + i)) k ^^^ f (n + k))
    rw [xs_add f n k, Nat.xor_assoc]
theorem par_add {a b : Nat} : (a + b) % 2 = (a % 2) ^^^ (b % 2) := by
  rcases Nat.mod_two_eq_zero_or_one a with h1 | h1 <;> rcases Nat.mod_two_eq_zero_or_one b with h2 | h2 <;> rw [h1, h2, Nat.add_mod, h1, h2] <;> rfl
/-- How many bits stand, but for twos. -/
def parB (p : List Nat) (i : Nat) : Nat := xs (bitN p) (8 * i)
theorem parB_next {p : List Nat} {i n z : Nat} (h : n % 2 = parB p i) (hz : z % 2 = xs (fun s => (cf p i >>> s) % 2) 8) : (n + z) % 2 = parB p (i + 1) := by
  unfold parB at *
  rw [par_add, h, hz, show 8 * (i + 1) = 8 * i + 8 by omega, xs_add]
  congr 1
  refine xs_congr (fun s hs => ?_)
  unfold bitN
  rw [show (8 * i + s) / 8 = i by omega, show (8 * i + s) % 8 = s by omega]
/-- It is the value at 1. -/
theorem evL_one {m : Nat} (hm : Ok m) : ∀ {a : List Nat} (_ : ∀ x ∈ a, x < 2 ^ m), evL m a 1 = xs (cf a) a.length
  | [], _ => rfl
  | y :: r, h => by
    have hr : ∀ x ∈ r, x < 2 ^ m := fun x hx => h x (List.mem_cons_of_mem _ hx)
    show gm m (evL m r 1) 1 ^^^ y = _
    rw [gm_one_right hm (evL_lt hm 1 hr), evL_one hm hr, List.length_cons, xs_first, cf_cons_zero, Nat.xor_comm]
    congr 1
theorem parB_ev (p : List Nat) : parB p p.length = evL 3 (bl p) 1 := by
  rw [evL_one ok3 (bl_b1 p).tr.lt]
  unfold parB
  have := bl_len p
  rw [show 8 * p.length = (bl p).length + (8 * p.length - (bl p).length) by omega, xs_more (fun i hi => by rw [← cf_bl, cf_out hi])]
  exact xs_congr (fun i _ => (cf_bl p i).symm)

theorem ones8_spec (x z : Nat) (w : World) (hx : x < 256) (hz : pop8 (x : Int) = (z : Nat)) (hz8 : z ≤ 8) : Spec1 Tryd.prog 115 [.int .u8 (x : Nat)] w (.int .i64 (z : Nat)) := by
  refine spec_of Tryd.func115 rfl Tryd.ntmps115 rfl ?_
  refine CW.seq ?_
  refine CW.reg [0] rfl ?_   -- 0, bits.go:125
  refine s_as 2 rfl rfl ?_
  refine SX.next ?_
  refine CW.seq ?_
  refine CW.reg [0, 1, 2, 3] rfl ?_   -- 1, bits.go:126
  refine s_mv 3 rfl rfl ?_
  refine s_pop8 4 rfl (by kernel_rfl) (by kernel_rfl) rfl (by omega) (by omega) hz ?_
  refine s_conv 5 rfl rfl (w64 (by omega)) ?_
  refine s_as 2 rfl rfl ?_
  refine SX.next ?_
  refine CW.ret ?_
  exact KN.ret (rs := [.tmp 2]) Tryd.results115 rfl (fun w hw => ⟨rfl, hw.nothing⟩)

theorem beval_spec (A : Option Addr) (n c : Nat) (p : List Nat) (w : World) (ha : Has (sl 1 A n (nats .u8 p)) w) (hp : ∀ x ∈ p, x < 256) (hn : n ≤ 1073741824) (hcp : n ≤ c) : Spec1 Tryd.prog 71 [.slice A n c, .int .i64 1] w (.int .i64 (evL 3 (bl p) 1 : Nat)) := by
  have hla := nats_len ha
  subst hla
  refine spec_of Tryd.func71 rfl Tryd.ntmps71 rfl ?_
  refine CW.seq ?_
  refine CW.reg [0] rfl ?_   -- 0, binpoly.go:167
  refine s_as 4 rfl rfl ?_
  refine SX.next ?_
  refine CW.seq ?_
  refine CW.seq ?_
  refine CW.reg [0, 1, 2] rfl ?_   -- 1, binpoly.go:168
  refine s_mv 8 rfl rfl ?_
  refine s_rem 9 rfl rfl rfl (by omega) (r := 1) rfl ?_
  refine s_eq 10 rfl rfl rfl (decide_eq_false (by omega)) ?_
  refine SX.next ?_
  refine CW.condF rfl ?_
  refine CW.skip ?_
  refine KN.code ?_
  refine CW.seq ?_
  refine CW.reg [0] rfl ?_   -- 3, binpoly.go:171
  refine s_as 5 rfl rfl ?_
  refine SX.next ?_
  refine CW.seq ?_
  refine CW.seq ?_
  refine CW.reg [0, 1, 2] rfl ?_   -- 4, binpoly.go:172
  refine s_mv 13 rfl rfl ?_
  refine s_len 14 rfl rfl ?_
  refine s_mv 15 rfl rfl ?_
  refine SX.next ?_
  refine CW.block ?_
  refine CW.loop (G := Nat × Nat) (fun q => [(5, .int .i64 (q.2 : Nat)), (13, .slice A p.length c), (14, .int .i64 (p.length : Nat)), (15, .int .i64 (q.1 : Nat))]) (fun _ => Sto w []) (fun q => (q.1 ≤ p.length ∧ q.2 ≤ 8 * q.1) ∧ q.2 % 2 = parB p q.1) (fun q => p.length - q.1) (0, 0) ⟨rfl, rfl, rfl, rfl, trivial⟩ (fun _ h => h) ⟨⟨Nat.zero_le _, Nat.zero_le _⟩, rfl⟩ ?_
  rintro ⟨i, k⟩ ⟨⟨hi, hk⟩, hp2⟩
  simp only at hi hk hp2
  dsimp only
  refine CW.seq ?_
  refine CW.reg [0] rfl ?_   -- 5, binpoly.go:172
  refine s_lt 16 rfl rfl rfl rfl ?_
  refine SX.next ?_
  refine CW.seq ?_
  refine CW.test rfl (fun hc => ?_) (fun hc => ?_)
  · skip
    obtain ⟨z, hz1, hz2, hz3⟩ := pop_all (cf p i) (cf_lt8 hp i)
    refine CW.skip ?_
    refine KN.code ?_
    refine CW.seq ?_
    refine CW.block ?_
    refine CW.seq ?_
    refine CW.reg [0, 1, 2] rfl ?_   -- 6, binpoly.go:172
    refine s_iaV 17 i (fun w hw => hw.old ha) rfl rfl rfl rfl (by omega) ?_
    refine s_ldV 18 (fun w hw => hw.old ha) rfl rfl (by rw [Nat.mul_one]; exact natsAt8 (by omega)) (by omega) ?_
    refine s_as 7 rfl rfl ?_
    refine SX.next ?_
    refine CW.reg [0, 1, 2, 3, 4] rfl ?_   -- 7, binpoly.go:173
    refine s_mv 19 rfl rfl ?_
    refine s_mv 20 rfl rfl ?_
    refine s_call1 21 rfl rfl rfl rfl (fun w hw => ones8_spec _ z w (cf_lt8 hp i) hz1 hz2) (fun _ _ => trivial) ?_
    refine s_add 22 rfl rfl rfl (r := ((k + z : Nat) : Int)) (w64 (by omega)) ?_
    refine s_as 5 rfl rfl ?_
    refine SX.end_ ?_
    refine KN.blk ?_
    refine KN.code ?_
    refine CW.reg [0, 1] rfl ?_   -- 8, binpoly.go:172
    refine s_add 23 rfl rfl rfl (r := ((i + 1 : Nat) : Int)) (w64 (by omega)) ?_
    refine s_mv 15 rfl rfl ?_
    refine SX.end_ ?_
    exact KN.back (i + 1, k + z) ⟨rfl, rfl, rfl, rfl, trivial⟩ (fun _ h => h) ⟨⟨by simp only; omega, by simp only; omega⟩, parB_next hp2 hz3⟩ (by simp only; omega)
  · skip
    obtain rfl : i = p.length := by omega
    rw [parB_ev] at hp2
    refine CW.exit rfl ?_
    refine KN.code ?_
    refine CW.seq ?_
    refine CW.reg [0, 1, 2] rfl ?_   -- 9, binpoly.go:175
    refine s_mv 24 rfl rfl ?_
    refine s_rem 25 rfl rfl rfl (by omega) (r := ((evL 3 (bl p) 1 : Nat) : Int)) (by rw [← hp2]; rfl) ?_
    refine s_as 4 rfl rfl ?_
    refine SX.next ?_
    refine CW.ret ?_
    exact KN.ret (rs := [.tmp 4]) Tryd.results71 rfl (fun w hw => ⟨rfl, hw.nothing⟩)

theorem rbytes_spec (A : Option Addr) (n c : Nat) (p : List Nat) (w : World) (ha : Has (sl 1 A n (nats .u8 p)) w) (hn : n ≤ 1000000) : SpecB Tryd.prog 27 [.slice A n c] w p := by
  have hla := nats_len ha
  subst hla
  refine spec_of Tryd.func27 rfl Tryd.ntmps27 rfl ?_
  refine CW.seq ?_
  refine CW.reg [0] rfl ?_   -- 0, ref.go:117
  refine s_as 2 rfl rfl ?_
  refine SX.next ?_
  refine CW.seq ?_
  refine CW.reg [0, 1, 2, 3, 4, 5] rfl ?_   -- 1, ref.go:117
  refine s_mv 3 rfl rfl ?_
  refine s_len 4 rfl rfl ?_
  refine s_makeC 5 p.length rfl rfl rfl rfl rfl (by unfold maxLen; omega) (fun _ _ => trivial) (fun g0 => ?_)
  refine s_mv 6 rfl rfl ?_
  refine s_app 7 0 rfl rfl rfl rfl (ys := nats .u8 p) (fun w hw => hw.old ha) (nats_one _ _) rfl (by omega) (by unfold maxLen; omega) (by omega) (fun _ _ _ _ => trivial) (fun A2 c2 hc2 => ?_)
  refine s_as 2 rfl rfl ?_
  refine SX.next ?_
  refine CW.ret ?_
  exact KN.ret (rs := [.tmp 2]) Tryd.results27 rfl (fun w hw => ⟨(A2, c2), by rw [Nat.zero_add]; rfl, by omega, by rw [Nat.zero_add] at hw; exact hw⟩)
