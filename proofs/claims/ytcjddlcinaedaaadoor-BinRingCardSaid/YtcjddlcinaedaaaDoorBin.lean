/- The contracts of package binpoly. Conditions: the lists are bytes, read where they lie. -/
import Derived.Test.YtcjddlcinaedaaaDoorBn
import Derived.Test.YtcjddlcinaedaaaDoorBits8
import Derived.Test.YtcjddlcinaedaaaDoorInts
import Derived.Test.YtcjddlcinaedaaaDoorOps8
import Derived.Lib.Tables
namespace Go.Proofs.YtcjddlcinaedaaaDoor
open Go Go.Lib Go.Sx Go.Fm
set_option maxRecDepth 100000
/-! ### The library's tables -/
section
variable {P : Program} {ops : Array Oper} {S : World → Prop} {K : Act → World → Prop} {p : Plan} {n : Nat} {l : List (Nat × Value)} {C : World → Prop} {fl : Bool} {i : Nat} {ty ty2 : TypeId} {y : Operand}
theorem s_len8 (d : Nat) {s : ByteArray} {k : IntKind} {b r : Int} (ho : opAt ops n l i = some (some d, .index ty (.const (.string s)) y, ty2)) (hs : s = len8tab) (hu : P.underlying ty = some .string) (hy : ev l y = some (.int k b)) (h0 : 0 ≤ b) (h1 : b ≤ 255) (hr : len8 b = r)
    (h : SX P ops S K p n ((d, .int .u8 r) :: l) C) : SX P ops S K (.st fl i p) n l C :=
  SX.pure ho (fun a w o he h1' _ => by
    subst hs
    subst hr
    have e1 : a.eval (.const (.string len8tab)) = .string len8tab := rfl
    simp only [execOp, h1', he.ev hy, e1, Sem.run_bind, run_index_len8tab w ty k b hu h0 h1, Result.andThen_ok, Sem.run_pure]) h
theorem s_pop8 (d : Nat) {s : ByteArray} {k : IntKind} {b r : Int} (ho : opAt ops n l i = some (some d, .index ty (.const (.string s)) y, ty2)) (hs : s = pop8tab) (hu : P.underlying ty = some .string) (hy : ev l y = some (.int k b)) (h0 : 0 ≤ b) (h1 : b ≤ 255) (hr : pop8 b = r)
    (h : SX P ops S K p n ((d, .int .u8 r) :: l) C) : SX P ops S K (.st fl i p) n l C :=
  SX.pure ho (fun a w o he h1' _ => by
    subst hs
    subst hr
    have e1 : a.eval (.const (.string pop8tab)) = .string pop8tab := rfl
    simp only [execOp, h1', he.ev hy, e1, Sem.run_bind, run_index_pop8tab w ty k b hu h0 h1, Result.andThen_ok, Sem.run_pure]) h
end
/-- How many bits a byte has. -/
def bln (x : Nat) : Nat := (len8 (x : Int)).toNat
theorem bln_all : ∀ x : Nat, x < 256 → len8 (x : Int) = (bln x : Nat) ∧ bln x ≤ 8 ∧ x < 2 ^ bln x ∧ (x ≠ 0 → bln x ≠ 0 ∧ x.testBit (bln x - 1) = true) := by decide +kernel
theorem pop_all : ∀ x : Nat, x < 256 → ∃ z : Nat, pop8 (x : Int) = (z : Nat) ∧ z ≤ 8 ∧ z % 2 = xs (fun s => (x >>> s) % 2) 8 := by
  have : ∀ x : Nat, x < 256 → pop8 (x : Int) = ((pop8 (x : Int)).toNat : Nat) ∧ (pop8 (x : Int)).toNat ≤ 8 ∧ (pop8 (x : Int)).toNat % 2 = xs (fun s => (x >>> s) % 2) 8 := by decide +kernel
  exact fun x hx => ⟨_, this x hx⟩

theorem len8_spec (x : Nat) (w : World) (hx : x < 256) : Spec1 Tryd.prog 100 [.int .u8 (x : Nat)] w (.int .i64 (bln x : Nat)) := by
  obtain ⟨h1, h2, h3, h4⟩ := bln_all x hx
  refine spec_of Tryd.func100 rfl Tryd.ntmps100 rfl ?_
  refine CW.seq ?_
  refine CW.reg [0] rfl ?_   -- 0, bits.go:310
  refine s_as 2 rfl rfl ?_
  refine SX.next ?_
  refine CW.seq ?_
  refine CW.reg [0, 1, 2, 3] rfl ?_   -- 1, bits.go:311
  refine s_mv 3 rfl rfl ?_
  refine s_len8 4 rfl (by kernel_rfl) (by kernel_rfl) rfl (by omega) (by omega) h1 ?_
  refine s_conv 5 rfl rfl (w64 (by omega)) ?_
  refine s_as 2 rfl rfl ?_
  refine SX.next ?_
  refine CW.ret ?_
  exact KN.ret (rs := [.tmp 2]) Tryd.results100 rfl (fun w hw => ⟨rfl, hw.nothing⟩)

/-- Bytes are answered, in memory of their own. -/
abbrev SpecB (P : Program) (f : FuncId) (args : List Value) (w : World) (E : List Nat) : Prop :=
  SpecX P f args w (X := Option Addr × Nat) (fun q => .slice q.1 E.length q.2) (fun q => E.length ≤ q.2) (fun q => [own 5 1 q.1 E.length q.2 (nats .u8 E)])
theorem natsAt8 {a : List Nat} {i : Nat} (h : i < a.length) : (nats .u8 a)[i]? = some (.int .u8 (cf a i : Nat)) := by
  rw [natsAt h]; rfl
theorem cf_lt8 {a : List Nat} (h : ∀ x ∈ a, x < 256) (j : Nat) : cf a j < 256 := cf_lt h (by omega) j

theorem trimmed_spec (A : Option Addr) (n c : Nat) (p : List Nat) (w : World) (ha : Has (sl 1 A n (nats .u8 p)) w) (hp : ∀ x ∈ p, x < 256) (hn : n ≤ 1073741824) (hcp : n ≤ c) : SpecB Tryd.prog 101 [.slice A n c] w (trim p) := by
  have hla := nats_len ha
  subst hla
  have htl := tl_le p
  have htt := trim_length p
  refine spec_of Tryd.func101 rfl Tryd.ntmps101 rfl ?_
  refine CW.seq ?_
  refine CW.reg [0] rfl ?_   -- 0, binpoly.go:20
  refine s_as 2 rfl rfl ?_
  refine SX.next ?_
  refine CW.seq ?_
  refine CW.reg [0, 1, 2] rfl ?_   -- 1, binpoly.go:21
  refine s_mv 4 rfl rfl ?_
  refine s_len 5 rfl rfl ?_
  refine s_as 3 rfl rfl ?_
  refine SX.next ?_
  refine CW.seq ?_
  refine CW.block ?_
  refine CW.loop (G := Nat) (fun k => [(0, .slice A p.length c), (3, .int .i64 (k : Nat))]) (fun _ => Sto w []) (fun k => tl p ≤ k ∧ k ≤ p.length) (fun k => k) p.length ⟨rfl, rfl, trivial⟩ (fun _ h => h) ⟨htl, Nat.le_refl _⟩ ?_
  intro k hk0
  obtain ⟨hk1, hk2⟩ := hk0
  refine CW.seq ?_
  refine CW.seq ?_
  refine CW.reg [0, 1, 2, 3, 4, 5, 6, 7, 8, 9] rfl ?_   -- 2, binpoly.go:22
  refine s_mv 6 rfl rfl ?_
  refine s_gt 7 rfl rfl rfl rfl ?_
  refine s_mv 8 rfl rfl ?_
  refine SX.bool 8 rfl (fun hb => ?_) (fun hb => ?_)
  · skip
    replace hb := of_decide_eq_true hb
    refine s_mv 9 rfl rfl ?_
    refine s_mv 10 rfl rfl ?_
    refine s_sub 11 rfl rfl rfl (r := ((k - 1 : Nat) : Int)) (by rw [show ((k : Nat) : Int) - 1 = ((k - 1 : Nat) : Int) by omega]; exact w64 (by omega)) ?_
    refine s_iaV 12 (k - 1) (fun w hw => hw.old ha) rfl rfl rfl rfl (by omega) ?_
    refine s_ldV 13 (fun w hw => hw.old ha) rfl rfl (by rw [Nat.mul_one]; exact natsAt8 (by omega)) (by omega) ?_
    refine s_eq 14 rfl rfl rfl rfl ?_
    refine s_pickT 15 rfl rfl rfl ?_
    refine SX.next ?_
    refine CW.test rfl (fun hc => ?_) (fun hc => ?_)
    · skip
      have hk3 : tl p ≤ k - 1 := by
        by_cases h : tl p = k
        · have := cf_top p (by omega)
          rw [h] at this
          omega
        · omega
      refine CW.skip ?_
      refine KN.code ?_
      refine CW.block ?_
      refine CW.reg [0, 1, 2] rfl ?_   -- 3, binpoly.go:23
      refine s_mv 16 rfl rfl ?_
      refine s_sub 17 rfl rfl rfl (r := ((k - 1 : Nat) : Int)) (by rw [show ((k : Nat) : Int) - 1 = ((k - 1 : Nat) : Int) by omega]; exact w64 (by omega)) ?_
      refine s_as 3 rfl rfl ?_
      refine SX.end_ ?_
      refine KN.blk ?_
      exact KN.back (k - 1) ⟨rfl, rfl, trivial⟩ (fun _ h => h) ⟨hk3, by omega⟩ (by omega)
    · skip
      have hk3 : (trim p).length = k := by
        have : k ≤ tl p := Nat.le_of_not_lt (fun h => hc (by rw [cf_hi p (k - 1) (by omega)]; rfl))
        omega
      have hk := hk3
      refine CW.exit rfl ?_
      refine KN.code ?_
      refine CW.seq ?_
      refine CW.reg [0, 1, 2, 3, 4] rfl ?_   -- 4, binpoly.go:25
      refine s_mv 18 rfl rfl ?_
      refine s_mv 19 rfl rfl ?_
      refine s_slH 20 k rfl rfl rfl rfl (by omega) ?_
      refine s_app0 21 rfl rfl rfl (ys := nats .u8 (trim p)) (fun w hw => Has.cong ((hw.old ha).sl_take (q := k) (by omega)) (by rw [nats_take, Nat.mul_one, ← hk, htt]; rfl)) (nats_one _ _) rfl (by omega) (by unfold maxLen; omega) (by omega) (fun _ _ _ _ => trivial) (fun A2 c2 hc2 => ?_)
      refine s_as 2 rfl rfl ?_
      refine SX.next ?_
      refine CW.ret ?_
      exact KN.ret (rs := [.tmp 2]) Tryd.results101 rfl (fun w hw => ⟨(A2, c2), by rw [hk]; rfl, by rw [hk]; exact hc2, by rw [hk]; exact hw.pick [0] rfl⟩)
  · skip
    replace hb := of_decide_eq_false hb
    have hk : (trim p).length = k := by omega
    refine SX.skip rfl ?_
    refine SX.skip rfl ?_
    refine SX.skip rfl ?_
    refine SX.skip rfl ?_
    refine SX.skip rfl ?_
    refine SX.skip rfl ?_
    refine s_pickF 15 rfl rfl rfl ?_
    refine SX.next ?_
    refine CW.condF rfl ?_
    refine CW.exit rfl ?_
    refine KN.code ?_
    refine CW.seq ?_
    refine CW.reg [0, 1, 2, 3, 4] rfl ?_   -- 4, binpoly.go:25
    refine s_mv 18 rfl rfl ?_
    refine s_mv 19 rfl rfl ?_
    refine s_slH 20 k rfl rfl rfl rfl (by omega) ?_
    refine s_app0 21 rfl rfl rfl (ys := nats .u8 (trim p)) (fun w hw => Has.cong ((hw.old ha).sl_take (q := k) (by omega)) (by rw [nats_take, Nat.mul_one, ← hk, htt]; rfl)) (nats_one _ _) rfl (by omega) (by unfold maxLen; omega) (by omega) (fun _ _ _ _ => trivial) (fun A2 c2 hc2 => ?_)
    refine s_as 2 rfl rfl ?_
    refine SX.next ?_
    refine CW.ret ?_
    exact KN.ret (rs := [.tmp 2]) Tryd.results101 rfl (fun w hw => ⟨(A2, c2), by rw [hk]; rfl, by rw [hk]; exact hc2, by rw [hk]; exact hw.pick [0] rfl⟩)

/-! ### Degrees -/
theorem bitN_zero {l : List Nat} {j : Nat} (h : cf l (j / 8) = 0) : bitN l j = 0 := by
  unfold bitN
  rw [h]
  simp
theorem deg_at {p : List Nat} {i : Nat} (h0 : ∀ j, i < j → cf p j = 0) (hx : cf p i < 256) (hne : cf p i ≠ 0) : (bl p).length = 8 * i + bln (cf p i) := by
  obtain ⟨_, h2, h3, h4⟩ := bln_all _ hx
  obtain ⟨h4, h5⟩ := h4 hne
  have hle : (bl p).length ≤ 8 * i + bln (cf p i) := len_le_of (bl_b1 p).tr (fun j hj => by
    rw [cf_bl]
    by_cases hji : j / 8 = i
    · have e := bitN_test p (j / 8) (j % 8) (Nat.mod_lt _ (by omega))
      rw [show 8 * (j / 8) + j % 8 = j by omega, hji] at e
      rw [e, Nat.testBit_lt_two_pow (Nat.lt_of_lt_of_le h3 (Nat.pow_le_pow_right (by omega) (by omega)))]
      rfl
    · exact bitN_zero (h0 _ (by omega)))
  refine Nat.le_antisymm hle (Nat.le_of_not_lt fun hlt => ?_)
  have e := bitN_test p i (bln (cf p i) - 1) (by omega)
  rw [h5, ← cf_bl, cf_out (by omega)] at e
  cases e
theorem deg_none {p : List Nat} (h0 : ∀ j, cf p j = 0) : (bl p).length = 0 := by
  have := len_le_of (bl_b1 p).tr (n := 0) (fun j _ => by rw [cf_bl]; exact bitN_zero (h0 _))
  omega

theorem bdeg_spec (A : Option Addr) (n c : Nat) (p : List Nat) (w : World) (ha : Has (sl 1 A n (nats .u8 p)) w) (hp : ∀ x ∈ p, x < 256) (hn : n ≤ 1073741824) (hcp : n ≤ c) : Spec1 Tryd.prog 47 [.slice A n c] w (.int .i64 (((bl p).length : Nat) - 1 : Int)) := by
  have hla := nats_len ha
  subst hla
  have hbl := bl_len p
  refine spec_of Tryd.func47 rfl Tryd.ntmps47 rfl ?_
  refine CW.seq ?_
  refine CW.reg [0] rfl ?_   -- 0, binpoly.go:57
  refine s_as 2 rfl rfl ?_
  refine SX.next ?_
  refine CW.seq ?_
  refine CW.seq ?_
  refine CW.reg [0, 1, 2, 3] rfl ?_   -- 1, binpoly.go:58
  refine s_mv 4 rfl rfl ?_
  refine s_len 5 rfl rfl ?_
  refine s_sub 6 rfl rfl rfl (r := ((p.length : Nat) : Int) - 1) (w64 (by omega)) ?_
  refine s_as 3 rfl rfl ?_
  refine SX.next ?_
  refine CW.block ?_
  refine CW.loop (G := Nat) (fun k => [(0, .slice A p.length c), (3, .int .i64 ((k : Nat) - 1))]) (fun _ => Sto w []) (fun k => k ≤ p.length ∧ ∀ j, k ≤ j → cf p j = 0) (fun k => k) p.length ⟨rfl, rfl, trivial⟩ (fun _ h => h) ⟨Nat.le_refl _, fun j hj => cf_out hj⟩ ?_
  intro k hk0
  obtain ⟨hk1, hk2⟩ := hk0
  refine CW.seq ?_
  refine CW.seq ?_
  refine CW.reg [0, 1] rfl ?_   -- 2, binpoly.go:58
  refine s_mv 7 rfl rfl ?_
  refine s_ge 8 rfl rfl rfl rfl ?_
  refine SX.next ?_
  refine CW.test rfl (fun hc => ?_) (fun hc => ?_)
  · skip
    refine CW.skip ?_
    refine KN.code ?_
    refine CW.seq ?_
    refine CW.block ?_
    refine CW.seq ?_
    refine CW.reg [0, 1, 2, 3, 4] rfl ?_   -- 4, binpoly.go:59
    refine s_mv 11 rfl rfl ?_
    refine s_mv 12 rfl rfl ?_
    refine s_iaV 13 (k - 1) (fun w hw => hw.old ha) rfl rfl rfl (by omega) (by omega) ?_
    refine s_ldV 14 (fun w hw => hw.old ha) rfl rfl (by rw [Nat.mul_one]; exact natsAt8 (by omega)) (by omega) ?_
    refine s_gt 15 rfl rfl rfl rfl ?_
    refine SX.next ?_
    refine CW.test rfl (fun hc => ?_) (fun hc => ?_)
    · skip
      have hd := deg_at (p := p) (i := k - 1) (fun j hj => hk2 j (by omega)) (cf_lt8 hp _) (by omega)
      obtain ⟨_, hb8, _⟩ := bln_all _ (cf_lt8 hp (k - 1))
      refine CW.seq ?_
      refine CW.reg [0, 1, 2, 3, 4, 5, 6, 7, 8, 9] rfl ?_   -- 5, binpoly.go:60
      refine s_mv 16 rfl rfl ?_
      refine s_mul 17 rfl rfl rfl (r := ((8 * (k - 1) : Nat) : Int)) (by rw [show (8 : Int) * (((k : Nat) : Int) - 1) = ((8 * (k - 1) : Nat) : Int) by omega]; exact w64 (by omega)) ?_
      refine s_mv 18 rfl rfl ?_
      refine s_mv 19 rfl rfl ?_
      refine s_iaV 20 (k - 1) (fun w hw => hw.old ha) rfl rfl rfl (by omega) (by omega) ?_
      refine s_ldV 21 (fun w hw => hw.old ha) rfl rfl (by rw [Nat.mul_one]; exact natsAt8 (by omega)) (by omega) ?_
      refine s_call1 22 rfl rfl rfl rfl (fun w hw => len8_spec _ w (cf_lt8 hp _)) (fun _ _ => trivial) ?_
      refine s_add 23 rfl rfl rfl (r := (((bl p).length : Nat) : Int)) (by rw [hd]; push_cast; exact w64 (by omega)) ?_
      refine s_sub 24 rfl rfl rfl (r := (((bl p).length : Nat) : Int) - 1) (w64 (by omega)) ?_
      refine s_as 2 rfl rfl ?_
      refine SX.next ?_
      refine CW.ret ?_
      exact KN.ret (rs := [.tmp 2]) Tryd.results47 rfl (fun w hw => ⟨rfl, hw.nothing⟩)
    · skip
      refine CW.skip ?_
      refine KN.blk ?_
      refine KN.code ?_
      refine CW.reg [0, 1, 2] rfl ?_   -- 3, binpoly.go:58
      refine s_mv 9 rfl rfl ?_
      refine s_sub 10 rfl rfl rfl (r := ((k - 1 : Nat) : Int) - 1) (by rw [show ((k : Nat) : Int) - 1 - 1 = ((k - 1 : Nat) : Int) - 1 by omega]; exact w64 (by omega)) ?_
      refine s_as 3 rfl rfl ?_
      refine SX.end_ ?_
      exact KN.back (k - 1) ⟨rfl, rfl, trivial⟩ (fun _ h => h) ⟨by omega, fun j hj => by
  by_cases h : j = k - 1
  · subst h; omega
  · exact hk2 j (by omega)⟩ (by omega)
  · skip
    have hd := deg_none (p := p) (fun j => hk2 j (by omega))
    refine CW.exit rfl ?_
    refine KN.code ?_
    refine CW.seq ?_
    refine CW.reg [0] rfl ?_   -- 6, binpoly.go:63
    refine s_as 2 rfl rfl ?_
    refine SX.next ?_
    refine CW.ret ?_
    exact KN.ret (rs := [.tmp 2]) Tryd.results47 rfl (fun w hw => ⟨by rw [hd]; rfl, hw.nothing⟩)

/-! ### Bits -/
/-- Bit i of bytes, of any number i. -/
def bitI (p : List Nat) (i : Int) : Nat := if i < 0 then 0 else bitN p i.toNat
theorem bitI_lt (p : List Nat) (i : Int) : bitI p i < 2 := by
  unfold bitI
  split
  · omega
  · exact bitN_lt _ _
theorem bitI_nat (p : List Nat) (i : Nat) : bitI p (i : Nat) = bitN p i := by
  unfold bitI
  rw [if_neg (by omega)]
  rfl
theorem tdiv8 (i : Nat) : ((i : Nat) : Int).tdiv 8 = ((i / 8 : Nat) : Int) := rfl
theorem tmod8 (i : Nat) : ((i : Nat) : Int).tmod 8 = ((i % 8 : Nat) : Int) := rfl
theorem quo8 (i : Nat) (h : i ≤ 9223372036854775807) : IntKind.i64.wrap (((i : Nat) : Int).tdiv 8) = ((i / 8 : Nat) : Int) := by
  rw [tdiv8]
  exact w64 (by omega)

theorem bbit_spec (A : Option Addr) (n c : Nat) (p : List Nat) (i : Int) (w : World) (ha : Has (sl 1 A n (nats .u8 p)) w) (hp : ∀ x ∈ p, x < 256) (hn : n ≤ 1073741824) (hcp : n ≤ c) (hi : i ≤ 9223372036854775807) : Spec1 Tryd.prog 49 [.slice A n c, .int .i64 i] w (.int .i64 (bitI p i : Nat)) := by
  have hla := nats_len ha
  subst hla
  have hbi := bitI_lt p i
  refine spec_of Tryd.func49 rfl Tryd.ntmps49 rfl ?_
  refine CW.seq ?_
  refine CW.reg [0] rfl ?_   -- 0, binpoly.go:67
  refine s_as 4 rfl rfl ?_
  refine SX.next ?_
  refine CW.seq ?_
  refine CW.seq ?_
  refine CW.reg [0, 1, 2, 3, 4, 5, 6, 7, 8] rfl ?_   -- 1, binpoly.go:68
  refine s_mv 5 rfl rfl ?_
  refine s_lt 6 rfl rfl rfl rfl ?_
  refine s_mv 7 rfl rfl ?_
  refine SX.bool 7 rfl (fun hb => ?_) (fun hb => ?_)
  · skip
    replace hb := of_decide_eq_true hb
    have hz : bitI p i = 0 := if_pos hb
    refine SX.skip rfl ?_
    refine SX.skip rfl ?_
    refine SX.skip rfl ?_
    refine SX.skip rfl ?_
    refine SX.skip rfl ?_
    refine s_pickT 13 rfl rfl rfl ?_
    refine SX.next ?_
    refine CW.condT rfl ?_
    refine CW.seq ?_
    refine CW.reg [0] rfl ?_   -- 2, binpoly.go:69
    refine s_as 4 rfl rfl ?_
    refine SX.next ?_
    refine CW.ret ?_
    exact KN.ret (rs := [.tmp 4]) Tryd.results49 rfl (fun w hw => ⟨by rw [hz]; rfl, hw.nothing⟩)
  · skip
    replace hb := of_decide_eq_false hb
    obtain ⟨j, rfl⟩ := Int.eq_ofNat_of_zero_le (show 0 ≤ i by omega)
    have hbj := bitI_nat p j
    refine s_mv 8 rfl rfl ?_
    refine s_quo 9 rfl rfl rfl (by omega) (quo8 j (by omega)) ?_
    refine s_mv 10 rfl rfl ?_
    refine s_len 11 rfl rfl ?_
    refine s_ge 12 rfl rfl rfl rfl ?_
    refine s_pickF 13 rfl rfl rfl ?_
    refine SX.next ?_
    refine CW.test rfl (fun hc2 => ?_) (fun hc2 => ?_)
    · skip
      have hz : bitI p j = 0 := by rw [hbj]; exact bitN_out (by omega)
      refine CW.seq ?_
      refine CW.reg [0] rfl ?_   -- 2, binpoly.go:69
      refine s_as 4 rfl rfl ?_
      refine SX.next ?_
      refine CW.ret ?_
      exact KN.ret (rs := [.tmp 4]) Tryd.results49 rfl (fun w hw => ⟨by rw [hz]; rfl, hw.nothing⟩)
    · skip
      refine CW.skip ?_
      refine KN.code ?_
      refine CW.seq ?_
      refine CW.reg [0, 1, 2, 3, 4, 5, 6, 7, 8, 9, 10] rfl ?_   -- 3, binpoly.go:71
      refine s_mv 14 rfl rfl ?_
      refine s_mv 15 rfl rfl ?_
      refine s_quo 16 rfl rfl rfl (by omega) (quo8 j (by omega)) ?_
      refine s_iaV 17 (j / 8) (fun w hw => hw.old ha) rfl rfl rfl rfl (by omega) ?_
      refine s_ldV 18 (fun w hw => hw.old ha) rfl rfl (by rw [Nat.mul_one]; exact natsAt8 (by omega)) (by omega) ?_
      refine s_mv 19 rfl rfl ?_
      refine s_rem 20 rfl rfl rfl (by omega) (tmod8 j) ?_
      refine s_shr 21 rfl rfl rfl (by omega) (shr_u8 (by omega)) ?_
      refine s_bit 22 rfl rfl rfl rfl (ibit_and1_u8 (Nat.lt_of_le_of_lt (Nat.shiftRight_le _ _) (cf_lt8 hp _))) ?_
      refine s_conv 23 rfl rfl (r := ((bitI p j : Nat) : Int)) (by rw [hbj]; exact w64 (by have := bitN_lt p j; unfold bitN at this; omega)) ?_
      refine s_as 4 rfl rfl ?_
      refine SX.next ?_
      refine CW.ret ?_
      exact KN.ret (rs := [.tmp 4]) Tryd.results49 rfl (fun w hw => ⟨rfl, hw.nothing⟩)

/-! ### Exponents -/
/-- The first d places from the top at which a coefficient stands. -/
def exU (a : List Nat) (N : Nat) : Nat → List Nat
  | 0 => []
  | d + 1 => if cf a (N - 1 - d) = 0 then exU a N d else exU a N d ++ [N - 1 - d]
def exL (a : List Nat) : List Nat := exU a a.length a.length
theorem exU_len (a : List Nat) (N : Nat) : ∀ d, (exU a N d).length ≤ d
  | 0 => Nat.le_refl _
  | d + 1 => by
    have := exU_len a N d
    unfold exU
    split
    · omega
    · simp; omega
theorem exU_lt {a : List Nat} {N x : Nat} : ∀ {d : Nat}, 0 < N → x ∈ exU a N d → x < N
  | 0, _, h => by cases h
  | d + 1, hN, h => by
    unfold exU at h
    split at h
    · exact exU_lt hN h
    · rcases List.mem_append.1 h with h | h
      · exact exU_lt hN h
      · simp at h; omega
/-- b at each of these places, added up. -/
def SS (l b : List Nat) (j : Nat) : Nat := l.foldr (fun n z => (if n ≤ j then cf b (j - n) else 0) ^^^ z) 0
theorem SS_snoc (b : List Nat) (n j : Nat) : ∀ l : List Nat, SS (l ++ [n]) b j = SS l b j ^^^ (if n ≤ j then cf b (j - n) else 0)
  | [] => by simp [SS]
  | x :: l => by
    show (if x ≤ j then cf b (j - x) else 0) ^^^ SS (l ++ [n]) b j = ((if x ≤ j then cf b (j - x) else 0) ^^^ SS l b j) ^^^ _
    rw [SS_snoc b n j l, Nat.xor_assoc]
theorem SS_exU {a b : List Nat} (ha : B1 a) (hb : B1 b) (j : Nat) : ∀ {d : Nat}, d ≤ a.length → SS (exU a a.length d) b j = cv 3 (fun i => if a.length ≤ i + d ∧ i < a.length then cf a i else 0) (cf b) j
  | 0, _ => by
    show 0 = _
    rw [cv_congr (f' := fun _ => 0) (fun i _ => if_neg (by omega)) (fun _ _ => rfl), cv_zero]
  | d + 1, hd => by
    have ih := SS_exU ha hb j (d := d) (by omega)
    unfold exU
    split
    · rename_i h0
      rw [ih]
      refine cv_congr (fun i _ => ?_) (fun _ _ => rfl)
      by_cases hi : a.length ≤ i + d ∧ i < a.length
      · rw [if_pos hi, if_pos (by omega)]
      · rw [if_neg hi]
        by_cases hi2 : i = a.length - 1 - d
        · subst hi2
          rw [if_pos (by omega), h0]
        · rw [if_neg (by omega)]
    · rename_i h0
      have h1 : cf a (a.length - 1 - d) = 1 := by have := ha.le (a.length - 1 - d); omega
      rw [SS_snoc, ih]
      have e : cv 3 (fun i => if a.length ≤ i + (d + 1) ∧ i < a.length then cf a i else 0) (cf b) j = cv 3 (fun i => (if a.length ≤ i + d ∧ i < a.length then cf a i else 0) ^^^ (if i = a.length - 1 - d then 1 else 0)) (cf b) j :=
        cv_congr (fun i _ => by
          by_cases hi2 : i = a.length - 1 - d
          · subst hi2
            rw [if_pos (by omega), if_neg (by omega), if_pos rfl, h1]
            rfl
          · rw [if_neg hi2, Nat.xor_zero]
            by_cases hi : a.length ≤ i + d ∧ i < a.length
            · rw [if_pos hi, if_pos (by omega)]
            · rw [if_neg hi, if_neg (by omega)]) (fun _ _ => rfl)
      rw [e, cv_add_left ok3 (fun i => by split; exact ha.tr.c i; decide) (fun i => by split <;> decide), cv_one]
      congr 1
      split
      · rw [gm_one_left ok3 (hb.tr.c _)]
      · rfl
theorem SS_exL {a b : List Nat} (ha : B1 a) (hb : B1 b) (j : Nat) : SS (exL a) b j = cf (mulP 3 a b) j := by
  unfold exL
  rw [SS_exU ha hb j (Nat.le_refl _), cf_mulP]
  refine cv_congr (fun i _ => ?_) (fun _ _ => rfl)
  by_cases hi : i < a.length
  · rw [if_pos (by omega)]
  · rw [if_neg (by omega), cf_out (by omega)]

theorem bexp_spec (A : Option Addr) (n c : Nat) (p : List Nat) (w : World) (ha : Has (sl 1 A n (nats .u8 p)) w) (hp : ∀ x ∈ p, x < 256) (hn : n ≤ 1073741824) (hcp : n ≤ c) : SpecL Tryd.prog 95 [.slice A n c] w (exL (bl p)) := by
  have hla := nats_len ha
  subst hla
  have hbl := bl_len p
  refine spec_of Tryd.func95 rfl Tryd.ntmps95 rfl ?_
  refine CW.seq ?_
  refine CW.reg [0] rfl ?_   -- 0, binpoly.go:75
  refine s_as 2 rfl rfl ?_
  refine SX.next ?_
  refine CW.seq ?_
  refine CW.reg [0] rfl ?_   -- 1, binpoly.go:76
  refine s_as 3 rfl rfl ?_
  refine SX.next ?_
  refine CW.seq ?_
  refine CW.seq ?_
  refine CW.reg [0, 1, 2] rfl ?_   -- 2, binpoly.go:77
  refine s_mv 5 rfl rfl ?_
  refine s_call1 6 rfl rfl rfl rfl (fun w hw => bdeg_spec A p.length c p w (hw.old ha) hp hn hcp) (fun _ _ => trivial) ?_
  refine s_as 4 rfl rfl ?_
  refine SX.next ?_
  refine CW.block ?_
  refine CW.loop (G := (Nat × Nat) × Option Addr × Nat) (fun q => [(0, .slice A p.length c), (3, .slice q.2.1 (exU (bl p) (bl p).length q.1.2).length q.2.2), (4, .int .i64 ((q.1.1 : Nat) - 1))]) (fun q => Sto w [own 3 1 q.2.1 (exU (bl p) (bl p).length q.1.2).length q.2.2 (nats .i64 (exU (bl p) (bl p).length q.1.2))]) (fun q => q.1.1 + q.1.2 = (bl p).length ∧ (exU (bl p) (bl p).length q.1.2).length ≤ q.2.2) (fun q => q.1.1) (((bl p).length, 0), none, 0) ⟨rfl, rfl, rfl, trivial⟩ (fun _ h => h.begin_ _ 1) ⟨Nat.add_zero _, Nat.le_refl _⟩ ?_
  rintro ⟨⟨k, d⟩, q⟩ hq
  have hq0 := hq.1
  simp only at hq0
  dsimp only
  have hel := exU_len (bl p) (bl p).length d
  refine CW.seq ?_
  refine CW.seq ?_
  refine CW.reg [0, 1] rfl ?_   -- 3, binpoly.go:77
  refine s_mv 7 rfl rfl ?_
  refine s_ge 8 rfl rfl rfl rfl ?_
  refine SX.next ?_
  refine CW.test rfl (fun hc => ?_) (fun hc => ?_)
  · skip
    have hkd : (bl p).length - 1 - d = k - 1 := by omega
    refine CW.skip ?_
    refine KN.code ?_
    refine CW.seq ?_
    refine CW.block ?_
    refine CW.seq ?_
    refine CW.reg [0, 1, 2, 3] rfl ?_   -- 5, binpoly.go:78
    refine s_mv 11 rfl rfl ?_
    refine s_mv 12 rfl rfl ?_
    refine s_call1 13 rfl rfl rfl rfl (v := .int .i64 (cf (bl p) (k - 1) : Nat)) (fun w hw => by have := bbit_spec A p.length c p (k - 1 : Nat) w (hw.old ha) hp hn hcp (by omega); rw [bitI_nat, ← cf_bl, show ((k - 1 : Nat) : Int) = (k : Nat) - 1 by omega] at this; exact this) (fun _ _ => trivial) ?_
    refine s_gt 14 rfl rfl rfl rfl ?_
    refine SX.next ?_
    refine CW.test rfl (fun hc2 => ?_) (fun hc2 => ?_)
    · skip
      have hnx : exU (bl p) (bl p).length (d + 1) = exU (bl p) (bl p).length d ++ [k - 1] := by rw [← hkd]; exact if_neg (by rw [hkd]; omega)
      refine CW.reg [0, 1, 2, 3, 4] rfl ?_   -- 6, binpoly.go:79
      refine s_mv 15 rfl rfl ?_
      refine s_mv 16 (v := .int .i64 (k - 1 : Nat)) rfl (by rw [show ((k - 1 : Nat) : Int) = (k : Nat) - 1 by omega]; rfl) ?_
      refine s_bsl 17 rfl rfl (cells := #[.int .i64 (k - 1 : Nat)]) (by kernel_rfl) rfl (fun _ _ => trivial) (fun gb => ?_)
      refine s_app 18 1 rfl rfl rfl rfl (ys := [.int .i64 (k - 1 : Nat)]) (fun w hw => Has.cong ((hw.has (i := 0) rfl).blk_sl (m := 1) rfl) rfl) rfl rfl (by omega) (by unfold maxLen; omega) (by omega) (fun _ _ _ _ => trivial) (fun A2 c2 hc2 => ?_)
      refine s_as 3 rfl rfl ?_
      refine SX.end_ ?_
      refine KN.blk ?_
      refine KN.code ?_
      refine CW.reg [0, 1, 2] rfl ?_   -- 4, binpoly.go:77
      refine s_mv 9 rfl rfl ?_
      refine s_sub 10 rfl rfl rfl (r := ((k - 1 : Nat) : Int) - 1) (by rw [show ((k : Nat) : Int) - 1 - 1 = ((k - 1 : Nat) : Int) - 1 by omega]; exact w64 (by omega)) ?_
      refine s_as 4 rfl rfl ?_
      refine SX.end_ ?_
      exact KN.back ((k - 1, d + 1), A2, c2) ⟨rfl, by simp only [hnx, List.length_append, List.length_singleton]; rfl, rfl, trivial⟩ (fun _ h => by simp only [hnx]; rw [← nats_snoc, List.length_append]; exact h.pick [1] rfl) ⟨by simp only; omega, by simp only [hnx, List.length_append, List.length_singleton]; exact hc2⟩ (by simp only; omega)
    · skip
      have hnx : exU (bl p) (bl p).length (d + 1) = exU (bl p) (bl p).length d := if_pos (by rw [hkd]; omega)
      refine CW.skip ?_
      refine KN.blk ?_
      refine KN.code ?_
      refine CW.reg [0, 1, 2] rfl ?_   -- 4, binpoly.go:77
      refine s_mv 9 rfl rfl ?_
      refine s_sub 10 rfl rfl rfl (r := ((k - 1 : Nat) : Int) - 1) (by rw [show ((k : Nat) : Int) - 1 - 1 = ((k - 1 : Nat) : Int) - 1 by omega]; exact w64 (by omega)) ?_
      refine s_as 4 rfl rfl ?_
      refine SX.end_ ?_
      exact KN.back ((k - 1, d + 1), q) ⟨rfl, by simp only [hnx]; rfl, rfl, trivial⟩ (fun _ h => by simp only [hnx]; exact h) ⟨by simp only; omega, by simp only [hnx]; exact hq.2⟩ (by simp only; omega)
  · skip
    have he : exU (bl p) (bl p).length d = exL (bl p) := by rw [show d = (bl p).length by omega]; rfl
    refine CW.exit rfl ?_
    refine KN.code ?_
    refine CW.seq ?_
    refine CW.reg [0, 1] rfl ?_   -- 7, binpoly.go:82
    refine s_mv 19 rfl rfl ?_
    refine s_as 2 rfl rfl ?_
    refine SX.next ?_
    refine CW.ret ?_
    exact KN.ret (rs := [.tmp 2]) Tryd.results95 rfl (fun w hw => ⟨q, by rw [← he]; rfl, by rw [← he]; exact hq.2, by rw [← he]; exact hw⟩)
