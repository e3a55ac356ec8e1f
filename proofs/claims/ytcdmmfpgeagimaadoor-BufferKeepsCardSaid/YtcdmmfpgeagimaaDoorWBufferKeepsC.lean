/- The walk of the statement BufferKeeps, text 3. Conditions: each theorem tells its own. -/
import Derived.Test.YtcdmmfpgeagimaaDoorWBufferKeepsB
import Derived.Test.YtcdmmfpgeagimaaDoorWBufferKeepsA
import Derived.Lib.Tables
import Derived.Laws.BytesArg
import Derived.Laws.Strings
section
/- The contracts of package binpoly. Conditions: the lists are bytes, read where they lie. -/
namespace Go.Proofs.YtcdmmfpgeagimaaDoor
open Go Go.Lib Go.Sx Go.Fm
set_option maxRecDepth 100000
/-! ### The library's tables -/
section
variable {P : Program} {ops : Array Oper} {S : World → Prop} {K : Act → World → Prop} {p : Plan} {n : Nat} {l : List (Nat × Value)} {C : World → Prop} {fl : Bool} {i : Nat} {ty ty2 : TypeId} {y : Operand}
theorem s_len8 (d : Nat) {s : ByteArray} {k : IntKind} {b r : Int} (ho : opAt ops n l i = some (some d, .index ty (.const (.string s)) y, ty2)) (hs : s = len8tab) (hu : P.underlying ty = some .string) (hy : ev l y = some (.int k b)) (h0 : 0 ≤ b) (h1 : b ≤ 255) (hr : len8 b = r)
    (h : SX P ops S K p n ((d, .int .u8 r) :: l) C) : SX P ops S K (.st fl i p) n l C :=
  SX.pure ho (fun a w o he h1' _ => by
    subst hs
    subst hr
    have e1 : a.eval (.const (.string len8tab)) = .string len8tab := rfl
    simp only [execOp, h1', he.ev hy, e1, Sem.run_bind, run_index_len8tab w ty k b hu h0 h1, Result.andThen_ok, Sem.run_pure]) h
theorem s_pop8 (d : Nat) {s : ByteArray} {k : IntKind} {b r : Int} (ho : opAt ops n l i = some (some d, .index ty (.const (.string s)) y, ty2)) (hs : s = pop8tab) (hu : P.underlying ty = some .string) (hy : ev l y = some (.int k b)) (h0 : 0 ≤ b) (h1 : b ≤ 255) (hr : pop8 b = r)
    (h : SX P ops S K p n ((d, .int .u8 r) :: l) C) : SX P ops S K (.st fl i p) n l C :=
  SX.pure ho (fun a w o he h1' _ => by
    subst hs
    subst hr
    have e1 : a.eval (.const (.string pop8tab)) = .string pop8tab := rfl
    simp only [execOp, h1', he.ev hy, e1, Sem.run_bind, run_index_pop8tab w ty k b hu h0 h1, Result.andThen_ok, Sem.run_pure]) h
end
/-- How many bits a byte has. -/
def bln (x : Nat) : Nat := (len8 (x : Int)).toNat
theorem bln_all : ∀ x : Nat, x < 256 → len8 (x : Int) = (bln x : Nat) ∧ bln x ≤ 8 ∧ x < 2 ^ bln x ∧ (x ≠ 0 → bln x ≠ 0 ∧ x.testBit (bln x - 1) = true) := by decide +kernel
theorem pop_all : ∀ x : Nat, x < 256 → ∃ z : Nat, pop8 (x : Int) = (z : Nat) ∧ z ≤ 8 ∧ z % 2 = xs (fun s => (x >>> s) % 2) 8 := by
  have : ∀ x : Nat, x < 256 → pop8 (x : Int) = ((pop8 (x : Int)).toNat : Nat) ∧ (pop8 (x : Int)).toNat ≤ 8 ∧ (pop8 (x : Int)).toNat % 2 = xs (fun s => (x >>> s) % 2) 8 := by decide +kernel
  exact fun x hx => ⟨_, this x hx⟩

theorem len8_spec (x : Nat) (w : World) (hx : x < 256) : Spec1 Tryd.prog 95 [.int .u8 (x : Nat)] w (.int .i64 (bln x : Nat)) := by
  obtain ⟨h1, h2, h3, h4⟩ := bln_all x hx
  refine spec_of Tryd.func95 rfl Tryd.ntmps95 rfl ?_
  refine CW.seq ?_
  refine CW.reg [0] rfl ?_
  refine s_as 2 rfl rfl ?_
  refine SX.next ?_
  refine CW.seq ?_
  refine CW.reg [0, 1, 2, 3] rfl ?_
  refine s_mv 3 rfl rfl ?_
  refine s_len8 4 rfl (by kernel_rfl) (by kernel_rfl) rfl (by omega) (by omega) h1 ?_
  refine s_conv 5 rfl rfl (w64 (by omega)) ?_
  refine s_as 2 rfl rfl ?_
  refine SX.next ?_
  refine CW.ret ?_
  exact KN.ret (rs := [.tmp 2]) Tryd.results95 rfl (fun w hw => ⟨rfl, hw.nothing⟩)

/-- Bytes are answered, in memory of their own. -/
abbrev SpecB (P : Program) (f : FuncId) (args : List Value) (w : World) (E : List Nat) : Prop :=
  SpecX P f args w (X := Option Addr × Nat) (fun q => .slice q.1 E.length q.2) (fun q => E.length ≤ q.2) (fun q => [own 5 1 q.1 E.length q.2 (nats .u8 E)])
theorem natsAt8 {a : List Nat} {i : Nat} (h : i < a.length) : (nats .u8 a)[i]? = some (.int .u8 (cf a i : Nat)) := by
  rw [natsAt h]; rfl
theorem cf_lt8 {a : List Nat} (h : ∀ x ∈ a, x < 256) (j : Nat) : cf a j < 256 := cf_lt h (by omega) j

theorem trimmed_spec (A : Option Addr) (n c : Nat) (p : List Nat) (w : World) (ha : Has (sl 1 A n (nats .u8 p)) w) (_hp : ∀ x ∈ p, x < 256) (hn : n ≤ 1073741824) (hcp : n ≤ c) : SpecB Tryd.prog 93 [.slice A n c] w (trim p) := by
  have hla := nats_len ha
  subst hla
  have htl := tl_le p
  have htt := trim_length p
  refine spec_of Tryd.func93 rfl Tryd.ntmps93 rfl ?_
  refine CW.seq ?_
  refine CW.reg [0] rfl ?_
  refine s_as 2 rfl rfl ?_
  refine SX.next ?_
  refine CW.seq ?_
  refine CW.reg [0, 1, 2] rfl ?_
  refine s_mv 4 rfl rfl ?_
  refine s_len 5 rfl rfl ?_
  refine s_as 3 rfl rfl ?_
  refine SX.next ?_
  refine CW.seq ?_
  refine CW.block ?_
  refine CW.loop (G := Nat) (fun k => [(0, .slice A p.length c), (3, .int .i64 (k : Nat))]) (fun _ => Sto w []) (fun k => tl p ≤ k ∧ k ≤ p.length) (fun k => k) p.length ⟨rfl, rfl, trivial⟩ (fun _ h => h) ⟨htl, Nat.le_refl _⟩ ?_
  intro k hk0
  obtain ⟨hk1, hk2⟩ := hk0
  refine CW.seq ?_
  refine CW.seq ?_
  refine CW.reg [0, 1, 2, 3, 4, 5, 6, 7, 8, 9] rfl ?_
  refine s_mv 6 rfl rfl ?_
  refine s_gt 7 rfl rfl rfl rfl ?_
  refine s_mv 8 rfl rfl ?_
  refine SX.bool 8 rfl (fun hb => ?_) (fun hb => ?_)
  · skip
    replace hb := of_decide_eq_true hb
    refine s_mv 9 rfl rfl ?_
    refine s_mv 10 rfl rfl ?_
    refine s_sub 11 rfl rfl rfl (r := ((k - 1 : Nat) : Int)) (by rw [show ((k : Nat) : Int) - 1 = ((k - 1 : Nat) : Int) by omega]; exact w64 (by omega)) ?_
    refine s_iaV 12 (k - 1) (fun w hw => hw.old ha) rfl rfl rfl rfl (by omega) ?_
    refine s_ldV 13 (fun w hw => hw.old ha) rfl rfl (by rw [Nat.mul_one]; exact natsAt8 (by omega)) (by omega) ?_
    refine s_eq 14 rfl rfl rfl rfl ?_
    refine s_pickT 15 rfl rfl rfl ?_
    refine SX.next ?_
    refine CW.test rfl (fun hc => ?_) (fun hc => ?_)
    · skip
      have hk3 : tl p ≤ k - 1 := by
        by_cases h : tl p = k
        · have := cf_top p (by omega)
          rw [h] at this
          omega
        · omega
      refine CW.skip ?_
      refine KN.code ?_
      refine CW.block ?_
      refine CW.reg [0, 1, 2] rfl ?_
      refine s_mv 16 rfl rfl ?_
      refine s_sub 17 rfl rfl rfl (r := ((k - 1 : Nat) : Int)) (by rw [show ((k : Nat) : Int) - 1 = ((k - 1 : Nat) : Int) by omega]; exact w64 (by omega)) ?_
      refine s_as 3 rfl rfl ?_
      refine SX.end_ ?_
      refine KN.blk ?_
      exact KN.back (k - 1) ⟨rfl, rfl, trivial⟩ (fun _ h => h) ⟨hk3, by omega⟩ (by omega)
    · skip
      have hk3 : (trim p).length = k := by
        have : k ≤ tl p := Nat.le_of_not_lt (fun h => hc (by rw [cf_hi p (k - 1) (by omega)]; rfl))
        omega
      have hk := hk3
      refine CW.exit rfl ?_
      refine KN.code ?_
      refine CW.seq ?_
      refine CW.reg [0, 1, 2, 3, 4] rfl ?_
      refine s_mv 18 rfl rfl ?_
      refine s_mv 19 rfl rfl ?_
      refine s_slH 20 k rfl rfl rfl rfl (by omega) ?_
      refine s_app0 21 rfl rfl rfl (ys := nats .u8 (trim p)) (fun w hw => Has.cong ((hw.old ha).sl_take (q := k) (by omega)) (by rw [nats_take, Nat.mul_one, ← hk, htt]; rfl)) (nats_one _ _) rfl (by omega) (by unfold maxLen; omega) (by omega) (fun _ _ _ _ => trivial) (fun A2 c2 hc2 => ?_)
      refine s_as 2 rfl rfl ?_
      refine SX.next ?_
      refine CW.ret ?_
      exact KN.ret (rs := [.tmp 2]) Tryd.results93 rfl (fun w hw => ⟨(A2, c2), by rw [hk]; rfl, by rw [hk]; exact hc2, by rw [hk]; exact hw.pick [0] rfl⟩)
  · skip
    replace hb := of_decide_eq_false hb
    have hk : (trim p).length = k := by omega
    refine SX.skip rfl ?_
    refine SX.skip rfl ?_
    refine SX.skip rfl ?_
    refine SX.skip rfl ?_
    refine SX.skip rfl ?_
    refine SX.skip rfl ?_
    refine s_pickF 15 rfl rfl rfl ?_
    refine SX.next ?_
    refine CW.condF rfl ?_
    refine CW.exit rfl ?_
    refine KN.code ?_
    refine CW.seq ?_
    refine CW.reg [0, 1, 2, 3, 4] rfl ?_
    refine s_mv 18 rfl rfl ?_
    refine s_mv 19 rfl rfl ?_
    refine s_slH 20 k rfl rfl rfl rfl (by omega) ?_
    refine s_app0 21 rfl rfl rfl (ys := nats .u8 (trim p)) (fun w hw => Has.cong ((hw.old ha).sl_take (q := k) (by omega)) (by rw [nats_take, Nat.mul_one, ← hk, htt]; rfl)) (nats_one _ _) rfl (by omega) (by unfold maxLen; omega) (by omega) (fun _ _ _ _ => trivial) (fun A2 c2 hc2 => ?_)
    refine s_as 2 rfl rfl ?_
    refine SX.next ?_
    refine CW.ret ?_
    exact KN.ret (rs := [.tmp 2]) Tryd.results93 rfl (fun w hw => ⟨(A2, c2), by rw [hk]; rfl, by rw [hk]; exact hc2, by rw [hk]; exact hw.pick [0] rfl⟩)

/-! ### Degrees -/
theorem bitN_zero {l : List Nat} {j : Nat} (h : cf l (j / 8) = 0) : bitN l j = 0 := by
  unfold bitN
  rw [h]
  simp
theorem deg_at {p : List Nat} {i : Nat} (h0 : ∀ j, i < j → cf p j = 0) (hx : cf p i < 256) (hne : cf p i ≠ 0) : (bl p).length = 8 * i + bln (cf p i) := by
  obtain ⟨_, h2, h3, h4⟩ := bln_all _ hx
  obtain ⟨h4, h5⟩ := h4 hne
  have hle : (bl p).length ≤ 8 * i + bln (cf p i) := len_le_of (bl_b1 p).tr (fun j hj => by
    rw [cf_bl]
    by_cases hji : j / 8 = i
    · have e := bitN_test p (j / 8) (j % 8) (Nat.mod_lt _ (by omega))
      rw [show 8 * (j / 8) + j % 8 = j by omega, hji] at e
      rw [e, Nat.testBit_lt_two_pow (Nat.lt_of_lt_of_le h3 (Nat.pow_le_pow_right (by omega) (by omega)))]
      rfl
    · exact bitN_zero (h0 _ (by omega)))
  refine Nat.le_antisymm hle (Nat.le_of_not_lt fun hlt => ?_)
  have e := bitN_test p i (bln (cf p i) - 1) (by omega)
  rw [h5, ← cf_bl, cf_out (by omega)] at e
  cases e
theorem deg_none {p : List Nat} (h0 : ∀ j, cf p j = 0) : (bl p).length = 0 := by
  have := len_le_of (bl_b1 p).tr (n := 0) (fun j _ => by rw [cf_bl]; exact bitN_zero (h0 _))
  omega

theorem bdeg_spec (A : Option Addr) (n c : Nat) (p : List Nat) (w : World) (ha : Has (sl 1 A n (nats .u8 p)) w) (hp : ∀ x ∈ p, x < 256) (hn : n ≤ 1073741824) (hcp : n ≤ c) : Spec1 Tryd.prog 30 [.slice A n c] w (.int .i64 (((bl p).length : Nat) - 1 : Int)) := by
  have hla := nats_len ha
  subst hla
  have hbl := bl_len p
  refine spec_of Tryd.func30 rfl Tryd.ntmps30 rfl ?_
  refine CW.seq ?_
  refine CW.reg [0] rfl ?_
  refine s_as 2 rfl rfl ?_
  refine SX.next ?_
  refine CW.seq ?_
  refine CW.seq ?_
  refine CW.reg [0, 1, 2, 3] rfl ?_
  refine s_mv 4 rfl rfl ?_
  refine s_len 5 rfl rfl ?_
  refine s_sub 6 rfl rfl rfl (r := ((p.length : Nat) : Int) - 1) (w64 (by omega)) ?_
  refine s_as 3 rfl rfl ?_
  refine SX.next ?_
  refine CW.block ?_
  refine CW.loop (G := Nat) (fun k => [(0, .slice A p.length c), (3, .int .i64 ((k : Nat) - 1))]) (fun _ => Sto w []) (fun k => k ≤ p.length ∧ ∀ j, k ≤ j → cf p j = 0) (fun k => k) p.length ⟨rfl, rfl, trivial⟩ (fun _ h => h) ⟨Nat.le_refl _, fun j hj => cf_out hj⟩ ?_
  intro k hk0
  obtain ⟨hk1, hk2⟩ := hk0
  refine CW.seq ?_
  refine CW.seq ?_
  refine CW.reg [0, 1] rfl ?_
  refine s_mv 7 rfl rfl ?_
  refine s_ge 8 rfl rfl rfl rfl ?_
  refine SX.next ?_
  refine CW.test rfl (fun hc => ?_) (fun hc => ?_)
  · skip
    refine CW.skip ?_
    refine KN.code ?_
    refine CW.seq ?_
    refine CW.block ?_
    refine CW.seq ?_
    refine CW.reg [0, 1, 2, 3, 4] rfl ?_
    refine s_mv 11 rfl rfl ?_
    refine s_mv 12 rfl rfl ?_
    refine s_iaV 13 (k - 1) (fun w hw => hw.old ha) rfl rfl rfl (by omega) (by omega) ?_
    refine s_ldV 14 (fun w hw => hw.old ha) rfl rfl (by rw [Nat.mul_one]; exact natsAt8 (by omega)) (by omega) ?_
    refine s_gt 15 rfl rfl rfl rfl ?_
    refine SX.next ?_
    refine CW.test rfl (fun hc => ?_) (fun hc => ?_)
    · skip
      have hd := deg_at (p := p) (i := k - 1) (fun j hj => hk2 j (by omega)) (cf_lt8 hp _) (by omega)
      obtain ⟨_, hb8, _⟩ := bln_all _ (cf_lt8 hp (k - 1))
      refine CW.seq ?_
      refine CW.reg [0, 1, 2, 3, 4, 5, 6, 7, 8, 9] rfl ?_
      refine s_mv 16 rfl rfl ?_
      refine s_mul 17 rfl rfl rfl (r := ((8 * (k - 1) : Nat) : Int)) (by rw [show (8 : Int) * (((k : Nat) : Int) - 1) = ((8 * (k - 1) : Nat) : Int) by omega]; exact w64 (by omega)) ?_
      refine s_mv 18 rfl rfl ?_
      refine s_mv 19 rfl rfl ?_
      refine s_iaV 20 (k - 1) (fun w hw => hw.old ha) rfl rfl rfl (by omega) (by omega) ?_
      refine s_ldV 21 (fun w hw => hw.old ha) rfl rfl (by rw [Nat.mul_one]; exact natsAt8 (by omega)) (by omega) ?_
      refine s_call1 22 rfl rfl rfl rfl (fun w hw => len8_spec _ w (cf_lt8 hp _)) (fun _ _ => trivial) ?_
      refine s_add 23 rfl rfl rfl (r := (((bl p).length : Nat) : Int)) (by rw [hd]; push_cast; exact w64 (by omega)) ?_
      refine s_sub 24 rfl rfl rfl (r := (((bl p).length : Nat) : Int) - 1) (w64 (by omega)) ?_
      refine s_as 2 rfl rfl ?_
      refine SX.next ?_
      refine CW.ret ?_
      exact KN.ret (rs := [.tmp 2]) Tryd.results30 rfl (fun w hw => ⟨rfl, hw.nothing⟩)
    · skip
      refine CW.skip ?_
      refine KN.blk ?_
      refine KN.code ?_
      refine CW.reg [0, 1, 2] rfl ?_
      refine s_mv 9 rfl rfl ?_
      refine s_sub 10 rfl rfl rfl (r := ((k - 1 : Nat) : Int) - 1) (by rw [show ((k : Nat) : Int) - 1 - 1 = ((k - 1 : Nat) : Int) - 1 by omega]; exact w64 (by omega)) ?_
      refine s_as 3 rfl rfl ?_
      refine SX.end_ ?_
      exact KN.back (k - 1) ⟨rfl, rfl, trivial⟩ (fun _ h => h) ⟨by omega, fun j hj => by
  by_cases h : j = k - 1
  · subst h; omega
  · exact hk2 j (by omega)⟩ (by omega)
  · skip
    have hd := deg_none (p := p) (fun j => hk2 j (by omega))
    refine CW.exit rfl ?_
    refine KN.code ?_
    refine CW.seq ?_
    refine CW.reg [0] rfl ?_
    refine s_as 2 rfl rfl ?_
    refine SX.next ?_
    refine CW.ret ?_
    exact KN.ret (rs := [.tmp 2]) Tryd.results30 rfl (fun w hw => ⟨by rw [hd]; rfl, hw.nothing⟩)

/-! ### Bits -/
/-- Bit i of bytes, of any number i. -/
def bitI (p : List Nat) (i : Int) : Nat := if i < 0 then 0 else bitN p i.toNat
theorem bitI_lt (p : List Nat) (i : Int) : bitI p i < 2 := by
  unfold bitI
  split
  · omega
  · exact bitN_lt _ _
theorem bitI_nat (p : List Nat) (i : Nat) : bitI p (i : Nat) = bitN p i := by
  unfold bitI
  rw [if_neg (by omega)]
  rfl
theorem tdiv8 (i : Nat) : ((i : Nat) : Int).tdiv 8 = ((i / 8 : Nat) : Int) := rfl
theorem tmod8 (i : Nat) : ((i : Nat) : Int).tmod 8 = ((i % 8 : Nat) : Int) := rfl
theorem quo8 (i : Nat) (h : i ≤ 9223372036854775807) : IntKind.i64.wrap (((i : Nat) : Int).tdiv 8) = ((i / 8 : Nat) : Int) := by
  rw [tdiv8]
  exact w64 (by omega)

theorem bbit_spec (A : Option Addr) (n c : Nat) (p : List Nat) (i : Int) (w : World) (ha : Has (sl 1 A n (nats .u8 p)) w) (hp : ∀ x ∈ p, x < 256) (hn : n ≤ 1073741824) (hcp : n ≤ c) (hi : i ≤ 9223372036854775807) : Spec1 Tryd.prog 32 [.slice A n c, .int .i64 i] w (.int .i64 (bitI p i : Nat)) := by
  have hla := nats_len ha
  subst hla
  have hbi := bitI_lt p i
  refine spec_of Tryd.func32 rfl Tryd.ntmps32 rfl ?_
  refine CW.seq ?_
  refine CW.reg [0] rfl ?_
  refine s_as 4 rfl rfl ?_
  refine SX.next ?_
  refine CW.seq ?_
  refine CW.seq ?_
  refine CW.reg [0, 1, 2, 3, 4, 5, 6, 7, 8] rfl ?_
  refine s_mv 5 rfl rfl ?_
  refine s_lt 6 rfl rfl rfl rfl ?_
  refine s_mv 7 rfl rfl ?_
  refine SX.bool 7 rfl (fun hb => ?_) (fun hb => ?_)
  · skip
    replace hb := of_decide_eq_true hb
    have hz : bitI p i = 0 := if_pos hb
    refine SX.skip rfl ?_
    refine SX.skip rfl ?_
    refine SX.skip rfl ?_
    refine SX.skip rfl ?_
    refine SX.skip rfl ?_
    refine s_pickT 13 rfl rfl rfl ?_
    refine SX.next ?_
    refine CW.condT rfl ?_
    refine CW.seq ?_
    refine CW.reg [0] rfl ?_
    refine s_as 4 rfl rfl ?_
    refine SX.next ?_
    refine CW.ret ?_
    exact KN.ret (rs := [.tmp 4]) Tryd.results32 rfl (fun w hw => ⟨by rw [hz]; rfl, hw.nothing⟩)
  · skip
    replace hb := of_decide_eq_false hb
    obtain ⟨j, rfl⟩ := Int.eq_ofNat_of_zero_le (show 0 ≤ i by omega)
    have hbj := bitI_nat p j
    refine s_mv 8 rfl rfl ?_
    refine s_quo 9 rfl rfl rfl (by omega) (quo8 j (by omega)) ?_
    refine s_mv 10 rfl rfl ?_
    refine s_len 11 rfl rfl ?_
    refine s_ge 12 rfl rfl rfl rfl ?_
    refine s_pickF 13 rfl rfl rfl ?_
    refine SX.next ?_
    refine CW.test rfl (fun hc2 => ?_) (fun hc2 => ?_)
    · skip
      have hz : bitI p j = 0 := by rw [hbj]; exact bitN_out (by omega)
      refine CW.seq ?_
      refine CW.reg [0] rfl ?_
      refine s_as 4 rfl rfl ?_
      refine SX.next ?_
      refine CW.ret ?_
      exact KN.ret (rs := [.tmp 4]) Tryd.results32 rfl (fun w hw => ⟨by rw [hz]; rfl, hw.nothing⟩)
    · skip
      refine CW.skip ?_
      refine KN.code ?_
      refine CW.seq ?_
      refine CW.reg [0, 1, 2, 3, 4, 5, 6, 7, 8, 9, 10] rfl ?_
      refine s_mv 14 rfl rfl ?_
      refine s_mv 15 rfl rfl ?_
      refine s_quo 16 rfl rfl rfl (by omega) (quo8 j (by omega)) ?_
      refine s_iaV 17 (j / 8) (fun w hw => hw.old ha) rfl rfl rfl rfl (by omega) ?_
      refine s_ldV 18 (fun w hw => hw.old ha) rfl rfl (by rw [Nat.mul_one]; exact natsAt8 (by omega)) (by omega) ?_
      refine s_mv 19 rfl rfl ?_
      refine s_rem 20 rfl rfl rfl (by omega) (tmod8 j) ?_
      refine s_shr 21 rfl rfl rfl (by omega) (shr_u8 (by omega)) ?_
      refine s_bit 22 rfl rfl rfl rfl (ibit_and1_u8 (Nat.lt_of_le_of_lt (Nat.shiftRight_le _ _) (cf_lt8 hp _))) ?_
      refine s_conv 23 rfl rfl (r := ((bitI p j : Nat) : Int)) (by rw [hbj]; exact w64 (by have := bitN_lt p j; unfold bitN at this; omega)) ?_
      refine s_as 4 rfl rfl ?_
      refine SX.next ?_
      refine CW.ret ?_
      exact KN.ret (rs := [.tmp 4]) Tryd.results32 rfl (fun w hw => ⟨rfl, hw.nothing⟩)

/-! ### Exponents -/
/-- The first d places from the top at which a coefficient stands. -/
def exU (a : List Nat) (N : Nat) : Nat → List Nat
  | 0 => []
  | d + 1 => if cf a (N - 1 - d) = 0 then exU a N d else exU a N d ++ [N - 1 - d]
def exL (a : List Nat) : List Nat := exU a a.length a.length
theorem exU_len (a : List Nat) (N : Nat) : ∀ d, (exU a N d).length ≤ d
  | 0 => Nat.le_refl _
  | d + 1 => by
    have := exU_len a N d
    unfold exU
    split
    · omega
    · simp; omega
theorem exU_lt {a : List Nat} {N x : Nat} : ∀ {d : Nat}, 0 < N → x ∈ exU a N d → x < N
  | 0, _, h => by cases h
  | d + 1, hN, h => by
    unfold exU at h
    split at h
    · exact exU_lt hN h
    · rcases List.mem_append.1 h with h | h
      · exact exU_lt hN h
      · simp at h; omega
/-- b at each of these places, added up. -/
def SS (l b : List Nat) (j : Nat) : Nat := l.foldr (fun n z => (if n ≤ j then cf b (j - n) else 0) ^^^ z) 0
theorem SS_snoc (b : List Nat) (n j : Nat) : ∀ l : List Nat, SS (l ++ [n]) b j = SS l b j ^^^ (if n ≤ j then cf b (j - n) else 0)
  | [] => by simp [SS]
  | x :: l => by
    show (if x ≤ j then cf b (j - x) else 0) ^^^ SS (l ++ [n]) b j = ((if x ≤ j then cf b (j - x) else 0) ^^^ SS l b j) ^^^ _
    rw [SS_snoc b n j l, Nat.xor_assoc]
theorem SS_exU {a b : List Nat} (ha : B1 a) (hb : B1 b) (j : Nat) : ∀ {d : Nat}, d ≤ a.length → SS (exU a a.length d) b j = cv 3 (fun i => if a.length ≤ i + d ∧ i < a.length then cf a i else 0) (cf b) j
  | 0, _ => by
    show 0 = _
    rw [cv_congr (f' := fun _ => 0) (fun i _ => if_neg (by omega)) (fun _ _ => rfl), cv_zero]
  | d + 1, hd => by
    have ih := SS_exU ha hb j (d := d) (by omega)
    unfold exU
    split
    · rename_i h0
      rw [ih]
      refine cv_congr (fun i _ => ?_) (fun _ _ => rfl)
      by_cases hi : a.length ≤ i + d ∧ i < a.length
      · rw [if_pos hi, if_pos (by omega)]
      · rw [if_neg hi]
        by_cases hi2 : i = a.length - 1 - d
        · subst hi2
          rw [if_pos (by omega), h0]
        · rw [if_neg (by omega)]
    · rename_i h0
      have h1 : cf a (a.length - 1 - d) = 1 := by have := ha.le (a.length - 1 - d); omega
      rw [SS_snoc, ih]
      have e : cv 3 (fun i => if a.length ≤ i + (d + 1) ∧ i < a.length then cf a i else 0) (cf b) j = cv 3 (fun i => (if a.length ≤ i + d ∧ i < a.length then cf a i else 0) ^^^ (if i = a.length - 1 - d then 1 else 0)) (cf b) j :=
        cv_congr (fun i _ => by
          by_cases hi2 : i = a.length - 1 - d
          · subst hi2
            rw [if_pos (by omega), if_neg (by omega), if_pos rfl, h1]
            rfl
          · rw [if_neg hi2, Nat.xor_zero]
            by_cases hi : a.length ≤ i + d ∧ i < a.length
            · rw [if_pos hi, if_pos (by omega)]
            · rw [if_neg hi, if_neg (by omega)]) (fun _ _ => rfl)
      rw [e, cv_add_left ok3 (fun i => by split; exact ha.tr.c i; decide) (fun i => by split <;> decide), cv_one]
      congr 1
      split
      · rw [gm_one_left ok3 (hb.tr.c _)]
      · rfl
theorem SS_exL {a b : List Nat} (ha : B1 a) (hb : B1 b) (j : Nat) : SS (exL a) b j = cf (mulP 3 a b) j := by
  unfold exL
  rw [SS_exU ha hb j (Nat.le_refl _), cf_mulP]
  refine cv_congr (fun i _ => ?_) (fun _ _ => rfl)
  by_cases hi : i < a.length
  · rw [if_pos (by omega)]
  · rw [if_neg (by omega), cf_out (by omega)]

theorem bexp_spec (A : Option Addr) (n c : Nat) (p : List Nat) (w : World) (ha : Has (sl 1 A n (nats .u8 p)) w) (hp : ∀ x ∈ p, x < 256) (hn : n ≤ 1073741824) (hcp : n ≤ c) : SpecL Tryd.prog 34 [.slice A n c] w (exL (bl p)) := by
  have hla := nats_len ha
  subst hla
  have hbl := bl_len p
  refine spec_of Tryd.func34 rfl Tryd.ntmps34 rfl ?_
  refine CW.seq ?_
  refine CW.reg [0] rfl ?_
  refine s_as 2 rfl rfl ?_
  refine SX.next ?_
  refine CW.seq ?_
  refine CW.reg [0] rfl ?_
  refine s_as 3 rfl rfl ?_
  refine SX.next ?_
  refine CW.seq ?_
  refine CW.seq ?_
  refine CW.reg [0, 1, 2] rfl ?_
  refine s_mv 5 rfl rfl ?_
  refine s_call1 6 rfl rfl rfl rfl (fun w hw => bdeg_spec A p.length c p w (hw.old ha) hp hn hcp) (fun _ _ => trivial) ?_
  refine s_as 4 rfl rfl ?_
  refine SX.next ?_
  refine CW.block ?_
  refine CW.loop (G := (Nat × Nat) × Option Addr × Nat) (fun q => [(0, .slice A p.length c), (3, .slice q.2.1 (exU (bl p) (bl p).length q.1.2).length q.2.2), (4, .int .i64 ((q.1.1 : Nat) - 1))]) (fun q => Sto w [own 3 1 q.2.1 (exU (bl p) (bl p).length q.1.2).length q.2.2 (nats .i64 (exU (bl p) (bl p).length q.1.2))]) (fun q => q.1.1 + q.1.2 = (bl p).length ∧ (exU (bl p) (bl p).length q.1.2).length ≤ q.2.2) (fun q => q.1.1) (((bl p).length, 0), none, 0) ⟨rfl, rfl, rfl, trivial⟩ (fun _ h => h.begin_ _ 1) ⟨Nat.add_zero _, Nat.le_refl _⟩ ?_
  rintro ⟨⟨k, d⟩, q⟩ hq
  have hq0 := hq.1
  simp only at hq0
  dsimp only
  have hel := exU_len (bl p) (bl p).length d
  refine CW.seq ?_
  refine CW.seq ?_
  refine CW.reg [0, 1] rfl ?_
  refine s_mv 7 rfl rfl ?_
  refine s_ge 8 rfl rfl rfl rfl ?_
  refine SX.next ?_
  refine CW.test rfl (fun hc => ?_) (fun hc => ?_)
  · skip
    have hkd : (bl p).length - 1 - d = k - 1 := by omega
    refine CW.skip ?_
    refine KN.code ?_
    refine CW.seq ?_
    refine CW.block ?_
    refine CW.seq ?_
    refine CW.reg [0, 1, 2, 3] rfl ?_
    refine s_mv 11 rfl rfl ?_
    refine s_mv 12 rfl rfl ?_
    refine s_call1 13 rfl rfl rfl rfl (v := .int .i64 (cf (bl p) (k - 1) : Nat)) (fun w hw => by have := bbit_spec A p.length c p (k - 1 : Nat) w (hw.old ha) hp hn hcp (by omega); rw [bitI_nat, ← cf_bl, show ((k - 1 : Nat) : Int) = (k : Nat) - 1 by omega] at this; exact this) (fun _ _ => trivial) ?_
    refine s_gt 14 rfl rfl rfl rfl ?_
    refine SX.next ?_
    refine CW.test rfl (fun hc2 => ?_) (fun hc2 => ?_)
    · skip
      have hnx : exU (bl p) (bl p).length (d + 1) = exU (bl p) (bl p).length d ++ [k - 1] := by rw [← hkd]; exact if_neg (by rw [hkd]; omega)
      refine CW.reg [0, 1, 2, 3, 4] rfl ?_
      refine s_mv 15 rfl rfl ?_
      refine s_mv 16 (v := .int .i64 (k - 1 : Nat)) rfl (by rw [show ((k - 1 : Nat) : Int) = (k : Nat) - 1 by omega]; rfl) ?_
      refine s_bsl 17 rfl rfl (cells := #[.int .i64 (k - 1 : Nat)]) (by kernel_rfl) rfl (fun _ _ => trivial) (fun gb => ?_)
      refine s_app 18 1 rfl rfl rfl rfl (ys := [.int .i64 (k - 1 : Nat)]) (fun w hw => Has.cong ((hw.has (i := 0) rfl).blk_sl (m := 1) rfl) rfl) rfl rfl (by omega) (by unfold maxLen; omega) (by omega) (fun _ _ _ _ => trivial) (fun A2 c2 hc2 => ?_)
      refine s_as 3 rfl rfl ?_
      refine SX.end_ ?_
      refine KN.blk ?_
      refine KN.code ?_
      refine CW.reg [0, 1, 2] rfl ?_
      refine s_mv 9 rfl rfl ?_
      refine s_sub 10 rfl rfl rfl (r := ((k - 1 : Nat) : Int) - 1) (by rw [show ((k : Nat) : Int) - 1 - 1 = ((k - 1 : Nat) : Int) - 1 by omega]; exact w64 (by omega)) ?_
      refine s_as 4 rfl rfl ?_
      refine SX.end_ ?_
      exact KN.back ((k - 1, d + 1), A2, c2) ⟨rfl, by simp only [hnx, List.length_append, List.length_singleton]; rfl, rfl, trivial⟩ (fun _ h => by simp only [hnx]; rw [← nats_snoc, List.length_append]; exact h.pick [1] rfl) ⟨by simp only; omega, by simp only [hnx, List.length_append, List.length_singleton]; exact hc2⟩ (by simp only; omega)
    · skip
      have hnx : exU (bl p) (bl p).length (d + 1) = exU (bl p) (bl p).length d := if_pos (by rw [hkd]; omega)
      refine CW.skip ?_
      refine KN.blk ?_
      refine KN.code ?_
      refine CW.reg [0, 1, 2] rfl ?_
      refine s_mv 9 rfl rfl ?_
      refine s_sub 10 rfl rfl rfl (r := ((k - 1 : Nat) : Int) - 1) (by rw [show ((k : Nat) : Int) - 1 - 1 = ((k - 1 : Nat) : Int) - 1 by omega]; exact w64 (by omega)) ?_
      refine s_as 4 rfl rfl ?_
      refine SX.end_ ?_
      exact KN.back ((k - 1, d + 1), q) ⟨rfl, by simp only [hnx]; rfl, rfl, trivial⟩ (fun _ h => by simp only [hnx]; exact h) ⟨by simp only; omega, by simp only [hnx]; exact hq.2⟩ (by simp only; omega)
  · skip
    have he : exU (bl p) (bl p).length d = exL (bl p) := by rw [show d = (bl p).length by omega]; rfl
    refine CW.exit rfl ?_
    refine KN.code ?_
    refine CW.seq ?_
    refine CW.reg [0, 1] rfl ?_
    refine s_mv 19 rfl rfl ?_
    refine s_as 2 rfl rfl ?_
    refine SX.next ?_
    refine CW.ret ?_
    exact KN.ret (rs := [.tmp 2]) Tryd.results34 rfl (fun w hw => ⟨q, by rw [← he]; rfl, by rw [← he]; exact hq.2, by rw [← he]; exact hw⟩)
end Go.Proofs.YtcdmmfpgeagimaaDoor
end
section
/- Package buffer: entries, their copies, where a key stands. Conditions: the lists are read where they lie. -/
namespace Go.Proofs.YtcdmmfpgeagimaaDoor
open Go Go.Lib Go.Sx Go.Fm
set_option maxRecDepth 100000

theorem cloneB_spec (A : Option Addr) (n c : Nat) (p : List Nat) (w : World) (ha : Has (sl 1 A n (nats .u8 p)) w) (hn : n ≤ 1000000) : SpecB Tryd.prog 102 [.slice A n c] w p := by
  have hla := nats_len ha
  subst hla
  refine spec_of Tryd.func102 rfl Tryd.ntmps102 rfl ?_
  refine CW.seq ?_
  refine CW.reg [0] rfl ?_
  refine s_as 2 rfl rfl ?_
  refine SX.next ?_
  refine CW.seq ?_
  refine CW.seq ?_
  refine CW.reg [0, 1] rfl ?_
  refine s_mv 3 rfl rfl ?_
  refine s_eqSN 4 rfl rfl rfl ?_
  refine SX.next ?_
  refine CW.cond rfl (fun hc => ?_) (fun hc => ?_)
  · skip
    have hp0 : p = [] := by
      cases A with
      | none =>
        refine List.eq_nil_of_length_eq_zero (Classical.byContradiction fun h => ?_)
        have := ha.sl_some h
        cases this
      | some a => cases hc
    refine CW.seq ?_
    refine CW.reg [0] rfl ?_
    refine s_as 2 rfl rfl ?_
    refine SX.next ?_
    refine CW.ret ?_
    exact KN.ret (rs := [.tmp 2]) Tryd.results102 rfl (fun w hw => ⟨(none, 0), by rw [hp0]; rfl, by rw [hp0]; exact Nat.le_refl _, by rw [hp0]; exact hw.begin_ _ 1⟩)
  · skip
    refine CW.skip ?_
    refine KN.code ?_
    refine CW.seq ?_
    refine CW.reg [0, 1, 2, 3] rfl ?_
    refine s_bsl0 5 rfl (fun _ _ => trivial) (fun g0 => ?_)
    refine SX.pre (fun _ h => h.blkOwn0 (q := 0) (sz := 1) rfl) ?_
    refine s_mv 6 rfl rfl ?_
    refine s_app 7 0 rfl rfl rfl rfl (ys := nats .u8 p) (fun w hw => hw.old ha) (nats_one _ _) rfl (by omega) (by unfold maxLen; omega) (by omega) (fun _ _ _ _ => trivial) (fun A2 c2 hc2 => ?_)
    refine s_as 2 rfl rfl ?_
    refine SX.next ?_
    refine CW.ret ?_
    exact KN.ret (rs := [.tmp 2]) Tryd.results102 rfl (fun w hw => ⟨(A2, c2), by rw [Nat.zero_add]; rfl, by omega, by rw [Nat.zero_add] at hw; exact hw⟩)

theorem cloneE_spec (A : Option Addr) (c : Nat) (es : List EntG) (w : World) (hs : Has (sl 3 A es.length (rowsE es)) w) (hn : es.length ≤ 100000) : SpecX Tryd.prog 106 [.slice A es.length c] w (X := Option Addr × Nat) (fun z => .slice z.1 es.length z.2) (fun z => es.length ≤ z.2) (fun z => [own 73 3 z.1 es.length z.2 (rowsE es)]) := by
  refine spec_of Tryd.func106 rfl Tryd.ntmps106 rfl ?_
  refine CW.seq ?_
  refine CW.reg [0] rfl ?_
  refine s_as 2 rfl rfl ?_
  refine SX.next ?_
  refine CW.seq ?_
  refine CW.seq ?_
  refine CW.reg [0, 1] rfl ?_
  refine s_mv 3 rfl rfl ?_
  refine s_eqSN 4 rfl rfl rfl ?_
  refine SX.next ?_
  refine CW.cond rfl (fun hc => ?_) (fun hc => ?_)
  · skip
    have hp0 : es = [] := by
      cases A with
      | none =>
        refine List.eq_nil_of_length_eq_zero (Classical.byContradiction fun h => ?_)
        have := hs.sl_some h
        cases this
      | some a => cases hc
    refine CW.seq ?_
    refine CW.reg [0] rfl ?_
    refine s_as 2 rfl rfl ?_
    refine SX.next ?_
    refine CW.ret ?_
    exact KN.ret (rs := [.tmp 2]) Tryd.results106 rfl (fun w hw => ⟨(none, 0), by rw [hp0]; rfl, by rw [hp0]; exact Nat.le_refl _, by rw [hp0]; exact hw.begin_ _ 3⟩)
  · skip
    refine CW.skip ?_
    refine KN.code ?_
    refine CW.seq ?_
    refine CW.reg [0, 1, 2, 3] rfl ?_
    refine s_bsl0 5 rfl (fun _ _ => trivial) (fun g0 => ?_)
    refine SX.pre (fun _ h => h.blkOwn0 (q := 0) (sz := 3) rfl) ?_
    refine s_mv 6 rfl rfl ?_
    refine s_app 7 0 rfl rfl rfl rfl (ys := rowsE es) (fun w hw => hw.old hs) (rowsE_one _) rfl (by omega) (by unfold maxLen; omega) (by omega) (fun _ _ _ _ => trivial) (fun A2 c2 hc2 => ?_)
    refine s_as 2 rfl rfl ?_
    refine SX.next ?_
    refine CW.ret ?_
    exact KN.ret (rs := [.tmp 2]) Tryd.results106 rfl (fun w hw => ⟨(A2, c2), by rw [Nat.zero_add]; rfl, by omega, by rw [Nat.zero_add] at hw; exact hw⟩)

/-- Where a key stands; behind the end where it does not. -/
def plN (key : Int) (es : List EntG) : Nat := es.findIdx (fun e => decide (e.k = key))
def plI (key : Int) (es : List EntG) : Int := if plN key es < es.length then (plN key es : Nat) else -1

theorem plN_at {key : Int} {es : List EntG} {i : Nat} {e : EntG} (hno : ∀ j e, j < i → es[j]? = some e → e.k ≠ key) (he : es[i]? = some e) (hk : e.k = key) : plN key es = i := by
  have hi := (List.getElem?_eq_some_iff.1 he).1
  unfold plN
  refine List.findIdx_eq hi |>.2 ⟨?_, fun j hj => ?_⟩
  · rw [(List.getElem?_eq_some_iff.1 he).2]
    exact decide_eq_true hk
  · exact decide_eq_false (hno j _ hj (List.getElem?_eq_getElem (by omega)))
theorem plI_at {key : Int} {es : List EntG} {i : Nat} {e : EntG} (hno : ∀ j e, j < i → es[j]? = some e → e.k ≠ key) (he : es[i]? = some e) (hk : e.k = key) : plI key es = (i : Nat) := by
  unfold plI
  rw [plN_at hno he hk, if_pos (List.getElem?_eq_some_iff.1 he).1]
theorem plI_none {key : Int} {es : List EntG} (hno : ∀ (j : Nat) (e : EntG), es[j]? = some e → e.k ≠ key) : plI key es = -1 := by
  unfold plI
  rw [if_neg]
  intro h
  have := List.findIdx_getElem (p := fun e : EntG => decide (e.k = key)) (xs := es) (w := h)
  exact hno _ _ (List.getElem?_eq_getElem h) (of_decide_eq_true this)

theorem place1_spec (e : EntG) (key : Int) (kb : Nat) (w : World) (hk : w.cell? ⟨kb, 0, none⟩ = some (.int .i64 key)) : Spec1 Tryd.prog 133 [e.agg, .pointer (some ⟨kb, 0, none⟩)] w (.bool (decide (e.k = key))) := by
  refine spec_of Tryd.func133 rfl Tryd.ntmps133 rfl ?_
  refine CW.seq ?_
  refine CW.reg [0, 1] rfl ?_
  refine s_box 2 rfl rfl (fun _ _ => trivial) (fun b => ?_)
  refine s_as 3 rfl rfl ?_
  refine SX.next ?_
  refine CW.seq ?_
  refine CW.reg [0, 1, 2, 3, 4] rfl ?_
  refine s_fa 4 rfl rfl ?_
  refine s_ldB 5 0 rfl rfl rfl (v := .int .i64 e.k) rfl ?_
  refine s_ld 6 rfl rfl (fun _ hw => hw.cell hk) ?_
  refine s_eq 7 rfl rfl rfl rfl ?_
  refine s_as 3 rfl rfl ?_
  refine SX.next ?_
  refine CW.ret ?_
  exact KN.ret (rs := [.tmp 3]) Tryd.results133 rfl (fun w hw => ⟨rfl, hw.nothing⟩)

theorem indexE_spec (A : Option Addr) (c : Nat) (es : List EntG) (key : Int) (kb : Nat) (w : World) (hs : Has (sl 3 A es.length (rowsE es)) w) (hn : es.length ≤ 100000) (hk : w.cell? ⟨kb, 0, none⟩ = some (.int .i64 key)) : Spec1 Tryd.prog 132 [.slice A es.length c, .func (.func 133) #[] #[.pointer (some ⟨kb, 0, none⟩)]] w (.int .i64 (plI key es)) := by
  refine spec_of Tryd.func132 rfl Tryd.ntmps132 rfl ?_
  refine CW.seq ?_
  refine CW.reg [0] rfl ?_
  refine s_as 4 rfl rfl ?_
  refine SX.next ?_
  refine CW.seq ?_
  refine CW.seq ?_
  refine CW.reg [0, 1, 2] rfl ?_
  refine s_mv 6 rfl rfl ?_
  refine s_len 7 rfl rfl ?_
  refine s_mv 8 rfl rfl ?_
  refine SX.next ?_
  refine CW.block ?_
  refine CW.loop (G := Nat) (fun i => [(0, .slice A es.length c), (1, .func (.func 133) #[] #[.pointer (some ⟨kb, 0, none⟩)]), (7, .int .i64 (es.length : Nat)), (8, .int .i64 (i : Nat))]) (fun _ => Sto w []) (fun i => i ≤ es.length ∧ ∀ j e, j < i → es[j]? = some e → e.k ≠ key) (fun i => es.length - i) 0 ⟨rfl, rfl, rfl, rfl, trivial⟩ (fun _ h => h) ⟨Nat.zero_le _, fun j e h => by omega⟩ ?_
  rintro i ⟨hi, hno⟩
  refine CW.seq ?_
  refine CW.reg [0] rfl ?_
  refine s_lt 9 rfl rfl rfl rfl ?_
  refine SX.next ?_
  refine CW.seq ?_
  refine CW.test rfl (fun hc => ?_) (fun hc => ?_)
  · skip
    obtain ⟨e, he⟩ : ∃ e, es[i]? = some e := ⟨_, List.getElem?_eq_getElem (by omega)⟩
    refine CW.skip ?_
    refine KN.code ?_
    refine CW.seq ?_
    refine CW.block ?_
    refine CW.seq ?_
    refine CW.reg [0, 1] rfl ?_
    refine s_mv 10 rfl rfl ?_
    refine s_as 5 rfl rfl ?_
    refine SX.next ?_
    refine CW.seq ?_
    refine CW.reg [0, 1, 2, 3, 4, 5] rfl ?_
    refine s_mv 11 rfl rfl ?_
    refine s_mv 12 rfl rfl ?_
    refine s_mv 13 rfl rfl ?_
    refine s_iaV 14 i (fun w hw => hw.old hs) rfl rfl rfl rfl (by omega) ?_
    refine s_ldR 15 (cs := e.row) rfl rfl rfl (fun w hw => (hw.old hs).entRow he) ?_
    refine s_call1 16 rfl rfl rfl rfl (fun w hw => place1_spec e key kb w (hw.cell hk)) (fun _ _ => trivial) ?_
    refine SX.next ?_
    refine CW.test rfl (fun hc2 => ?_) (fun hc2 => ?_)
    · skip
      have hpl : plI key es = (i : Nat) := plI_at hno he hc2
      refine CW.seq ?_
      refine CW.reg [0, 1] rfl ?_
      refine s_mv 17 rfl rfl ?_
      refine s_as 4 rfl rfl ?_
      refine SX.next ?_
      refine CW.ret ?_
      exact KN.ret (rs := [.tmp 4]) Tryd.results132 rfl (fun w hw => ⟨by rw [hpl]; rfl, hw.nothing⟩)
    · skip
      refine CW.skip ?_
      refine KN.blk ?_
      refine KN.code ?_
      refine CW.reg [0, 1] rfl ?_
      refine s_add 18 rfl rfl rfl (r := ((i + 1 : Nat) : Int)) (w64 (by omega)) ?_
      refine s_mv 8 rfl rfl ?_
      refine SX.end_ ?_
      exact KN.back (i + 1) ⟨rfl, rfl, rfl, rfl, trivial⟩ (fun _ h => h) ⟨by omega, fun j e2 hj he2 => by
  by_cases hji : j = i
  · subst hji; rw [he] at he2; injection he2 with h; subst h; exact hc2
  · exact hno j e2 (by omega) he2⟩ (by omega)
  · skip
    obtain rfl : i = es.length := by omega
    have hpl : plI key es = -1 := plI_none (fun j e he => hno j e (List.getElem?_eq_some_iff.1 he).1 he)
    refine CW.exit rfl ?_
    refine KN.code ?_
    refine CW.seq ?_
    refine CW.reg [0] rfl ?_
    refine s_as 4 rfl rfl ?_
    refine SX.next ?_
    refine CW.ret ?_
    exact KN.ret (rs := [.tmp 4]) Tryd.results132 rfl (fun w hw => ⟨by rw [hpl]; rfl, hw.nothing⟩)

theorem place_spec (b : Nat) (A : Option Addr) (c : Nat) (es : List EntG) (key : Int) (w : World) (hs : Has (sl 3 A es.length (rowsE es)) w) (hn : es.length ≤ 100000) (hb : w.cell? ⟨b, 3, none⟩ = some (.slice A es.length c)) : Spec1 Tryd.prog 103 [.pointer (some ⟨b, 0, none⟩), .int .i64 key] w (.int .i64 (plI key es)) := by
  refine spec_of Tryd.func103 rfl Tryd.ntmps103 rfl ?_
  refine CW.seq ?_
  refine CW.reg [0, 1] rfl ?_
  refine s_box 3 rfl rfl (fun _ _ => trivial) (fun kb => ?_)
  refine s_as 4 rfl rfl ?_
  refine SX.next ?_
  refine CW.seq ?_
  refine CW.reg [0, 1, 2, 3, 4, 5, 6] rfl ?_
  refine s_mv 5 rfl rfl ?_
  refine s_nil 6 rfl rfl ?_
  refine s_fa 7 rfl rfl ?_
  refine s_ld 8 rfl rfl (fun _ hw => hw.cell hb) ?_
  refine s_mkf 9 rfl rfl rfl ?_
  refine s_call1 10 rfl rfl rfl rfl (fun w hw => indexE_spec A c es key kb w (hw.old hs) hn (hw.blkCell (i := 0) rfl rfl)) (fun _ _ => trivial) ?_
  refine s_as 4 rfl rfl ?_
  refine SX.next ?_
  refine CW.ret ?_
  exact KN.ret (rs := [.tmp 4]) Tryd.results103 rfl (fun w hw => ⟨rfl, hw.nothing⟩)

theorem blen_spec (b : Nat) (A : Option Addr) (c : Nat) (es : List EntG) (w : World) (hb : w.cell? ⟨b, 3, none⟩ = some (.slice A es.length c)) : Spec1 Tryd.prog 54 [.pointer (some ⟨b, 0, none⟩)] w (.int .i64 (es.length : Nat)) := by
  refine spec_of Tryd.func54 rfl Tryd.ntmps54 rfl ?_
  refine CW.seq ?_
  refine CW.reg [0] rfl ?_
  refine s_as 2 rfl rfl ?_
  refine SX.next ?_
  refine CW.seq ?_
  refine CW.reg [0, 1, 2, 3, 4, 5] rfl ?_
  refine s_mv 3 rfl rfl ?_
  refine s_nil 4 rfl rfl ?_
  refine s_fa 5 rfl rfl ?_
  refine s_ld 6 rfl rfl (fun _ hw => hw.cell hb) ?_
  refine s_len 7 rfl rfl ?_
  refine s_as 2 rfl rfl ?_
  refine SX.next ?_
  refine CW.ret ?_
  exact KN.ret (rs := [.tmp 2]) Tryd.results54 rfl (fun w hw => ⟨rfl, hw.nothing⟩)

theorem bfull_spec (b : Nat) (A : Option Addr) (c : Nat) (es : List EntG) (most : Int) (w : World) (hb : w.cell? ⟨b, 3, none⟩ = some (.slice A es.length c)) (hm : w.cell? ⟨b, 1, none⟩ = some (.int .i64 most)) : Spec1 Tryd.prog 56 [.pointer (some ⟨b, 0, none⟩)] w (.bool (decide ((es.length : Int) ≥ most))) := by
  refine spec_of Tryd.func56 rfl Tryd.ntmps56 rfl ?_
  refine CW.seq ?_
  refine CW.reg [0] rfl ?_
  refine s_as 2 rfl rfl ?_
  refine SX.next ?_
  refine CW.seq ?_
  refine CW.regD (.st true 0 (.st true 1 (.st true 2 (.st true 3 (.st true 4 (.st true 5 (.st true 6 (.st true 7 (.st true 8 (.st true 9 (.st true 10 .done))))))))))) (Sto w []) mixed (by kernel_rfl) (fun _ h => h.drew) (fun _ h => h) ?_
  refine s_mv 3 rfl rfl ?_
  refine s_nil 4 rfl rfl ?_
  refine s_fa 5 rfl rfl ?_
  refine s_ldS 6 rfl rfl (fun _ hw => hw.cell hb) ?_
  refine s_len 7 rfl rfl ?_
  refine s_mv 8 rfl rfl ?_
  refine s_nil 9 rfl rfl ?_
  refine s_fa 10 rfl rfl ?_
  refine s_ldS 11 rfl rfl (fun _ hw => hw.cell hm) ?_
  refine s_ge 12 rfl rfl rfl rfl ?_
  refine s_as 2 rfl rfl ?_
  refine SX.next ?_
  refine CW.ret ?_
  exact KN.ret (rs := [.tmp 2]) Tryd.results56 rfl (fun w hw => ⟨rfl, hw.nothing⟩)

theorem copied_spec (e : EntG) (w : World) (hd : Has (sl 1 e.A e.l.length (nats .u8 e.l)) w) (hn : e.l.length ≤ 1000000) : SpecX Tryd.prog 104 [e.agg] w (X := Option Addr × Nat) (fun z => .agg #[.int .i64 e.k, .bool e.tr, .slice z.1 e.l.length z.2]) (fun z => e.l.length ≤ z.2) (fun z => [own 5 1 z.1 e.l.length z.2 (nats .u8 e.l)]) := by
  refine spec_of Tryd.func104 rfl Tryd.ntmps104 rfl ?_
  refine CW.seq ?_
  refine CW.reg [0, 1] rfl ?_
  refine s_box 1 rfl rfl (fun _ _ => trivial) (fun b1 => ?_)
  refine s_alloc 2 rfl (fun _ _ => trivial) (fun b2 => ?_)
  refine SX.next ?_
  refine CW.seq ?_
  refine CW.reg [0, 1, 2, 3, 4] rfl ?_
  refine s_fa 3 rfl rfl ?_
  refine s_ldB 4 1 rfl rfl rfl (v := .slice e.A e.l.length e.c) rfl ?_
  refine s_call 5 rfl rfl rfl rfl (fun w hw => cloneB_spec e.A e.l.length e.c e.l w (hw.old hd) hn) (fun _ _ => trivial) (fun z hz => ?_)
  refine s_fa 6 rfl rfl ?_
  refine s_stB 2 rfl rfl rfl rfl rfl (by show 2 < 3; decide) (fun _ _ => trivial) ?_
  refine SX.next ?_
  refine CW.seq ?_
  refine CW.reg [0, 1] rfl ?_
  refine s_ldW 7 2 rfl rfl rfl ?_
  refine s_stAll 1 rfl rfl (by kernel_rfl) rfl rfl rfl rfl (fun _ _ => trivial) ?_
  refine SX.next ?_
  refine CW.ret ?_
  exact KN.retC (rs := [.cell 2 73]) Tryd.results104 (fun w hw => ⟨[_], ⟨⟨_, rfl, hw.ldRow (q := 1) rfl (by rfl)⟩, trivial⟩, ⟨z, rfl, hz, hw.pick [0] rfl⟩⟩)
end Go.Proofs.YtcdmmfpgeagimaaDoor
end
section
/- Package buffer: what is told to it, what is asked of it. Conditions: the buffer is lent; errors' variables stay. -/
namespace Go.Proofs.YtcdmmfpgeagimaaDoor
open Go Go.Lib Go.Sx Go.Fm
set_option maxRecDepth 100000
/-- A call that is lent M, from here on. -/
abbrev SpecP (P : Program) (f : FuncId) (args : List Value) (F : Nat → Prop) (w : World) {X : Type} (v : X → Value) (pf : X → Prop) (M' : X → List Atom) : Prop :=
  Calls P f args.toArray w (fun e w' => ∃ x : X, e = .returned (v x) ∧ pf x ∧ St F w (M' x) w')
/-- A list of entries: where it lies. -/
structure BufG where
  A : Option Addr
  c : Nat
  es : List EntG
theorem erase_rows (es : List EntG) (i : Nat) : (rowsE es).take (i * 3) ++ (rowsE es).drop ((i + 1) * 3) = rowsE (es.eraseIdx i) := by
  rw [rowsE_take, rowsE_drop, ← rowsE_app, List.eraseIdx_eq_take_drop_succ]
theorem erase_len (es : List EntG) {i : Nat} (h : i < es.length) : (es.eraseIdx i).length = es.length - 1 := List.length_eraseIdx_of_lt h

theorem delete_spec (F : Nat → Prop) (A : Option Addr) (c : Nat) (es : List EntG) (i : Nat) (w : World) (hi : i < es.length) (hn : es.length ≤ 100000) (hw : St F w [own 73 3 A es.length c (rowsE es)] w) : SpecP Tryd.prog 131 [.slice A es.length c, .int .i64 (i : Nat), .int .i64 ((i + 1 : Nat) : Int)] F w (X := Unit) (fun _ => .slice A (es.eraseIdx i).length c) (fun _ => True) (fun _ => [own 73 3 A (es.eraseIdx i).length c (rowsE (es.eraseIdx i))]) := by
  have hel := erase_len es hi
  have hcc := (hw.ownA (q := 0) rfl).2.1
  refine spec_ofC Tryd.func131 rfl Tryd.ntmps131 rfl hw ?_
  refine CW.seq ?_
  refine CW.reg [0] rfl ?_
  refine s_as 6 rfl rfl ?_
  refine SX.next ?_
  refine CW.seq ?_
  refine CW.reg [0, 1, 2, 3, 4, 5] rfl ?_
  refine s_mv 8 rfl rfl ?_
  refine s_mv 9 rfl rfl ?_
  refine s_mv 10 rfl rfl ?_
  refine s_mv 11 rfl rfl ?_
  refine s_len 12 rfl rfl ?_
  refine s_sl3 13 i (i + 1) es.length rfl rfl rfl rfl rfl rfl rfl rfl (by omega) (by omega) (by omega) (fun v13 => ?_)
  refine SX.next ?_
  refine CW.seq ?_
  refine CW.seq ?_
  refine CW.reg [0, 1, 2] rfl ?_
  refine s_mv 14 rfl rfl ?_
  refine s_mv 15 rfl rfl ?_
  refine s_eq 16 rfl rfl rfl (decide_eq_false (by omega)) ?_
  refine SX.next ?_
  refine CW.condF rfl ?_
  refine CW.skip ?_
  refine KN.code ?_
  refine CW.seq ?_
  refine CW.reg [0, 1, 2] rfl ?_
  refine s_mv 18 rfl rfl ?_
  refine s_len 19 rfl rfl ?_
  refine s_as 7 rfl rfl ?_
  refine SX.next ?_
  refine CW.seq ?_
  refine CW.regD (.st true 0 (.st true 1 (.st true 2 (.st true 3 (.st true 4 (.st true 5 (.st false 6 (.st true 7 .done)))))))) (fun _ => True) mixed (by kernel_rfl) (fun _ h => h.drew) (fun _ _ => trivial) ?_
  refine s_mv 20 rfl rfl ?_
  refine s_mv 21 rfl rfl ?_
  refine s_slH 22 i rfl rfl rfl rfl (by omega) ?_
  refine s_mv 23 rfl rfl ?_
  refine s_mv 24 rfl rfl ?_
  refine s_slL 25 (i + 1) rfl rfl rfl rfl (by omega) ?_
  refine s_appIn 26 0 (i + 1) i rfl rfl rfl rfl (by omega) (by omega) (rowsE_one _) (fun _ _ => trivial) ?_
  refine SX.pre (C' := St F w [own 73 3 A es.length c (rowsE ((es.eraseIdx i) ++ es.drop (es.length - 1)))]) (fun _ h => by rw [erase_rows es i, show i + (es.length - (i + 1)) = es.length - 1 by omega, rowsE_drop, ← rowsE_app] at h; exact h) ?_
  rw [show i + (es.length - (i + 1)) = es.length - 1 by omega]
  refine s_as 0 rfl rfl ?_
  refine SX.next ?_
  refine CW.seq ?_
  refine CW.reg [0, 1, 2, 3, 4, 5] rfl ?_
  refine s_mv 27 rfl rfl ?_
  refine s_mv 28 rfl rfl ?_
  refine s_len 29 rfl rfl ?_
  refine s_mv 30 rfl rfl ?_
  refine s_slLH 31 (es.length - 1) es.length rfl rfl rfl rfl rfl rfl (by omega) (by omega) ?_
  refine s_clrIn 0 (es.length - 1) (es.length - (es.length - 1)) rfl rfl rfl (by omega) rfl rfl (by omega) (fun _ _ => trivial) ?_
  refine SX.next ?_
  refine CW.seq ?_
  refine CW.reg [0, 1] rfl ?_
  refine s_mv 32 rfl rfl ?_
  refine s_as 6 rfl rfl ?_
  refine SX.next ?_
  refine CW.ret ?_
  exact KN.ret (rs := [.tmp 6]) Tryd.results131 rfl (fun w hw => ⟨(), by rw [hel]; rfl, trivial, by
  rw [rowsE_take, List.take_left' hel] at hw
  rw [hel]
  exact hw⟩)

theorem wait_num (F : Nat → Prop) (b : Nat) (size most sectors : Int) (u : BufG) (en : EntG) (e : Nat → Addr) (w : World) (hn : u.es.length ≤ 1000) (hE1 : ∀ w', Fr F w w' → Er e w' 1) (sized : Bool) (hk : en.k < 0 ∨ sectors ≤ en.k) (hw : St F w [blk b 141 #[.int .i64 size, .int .i64 most, .int .i64 sectors, .slice u.A u.es.length u.c], own 73 3 u.A u.es.length u.c (rowsE u.es), starA (datsE u.es), en.dat] w) : SpecP Tryd.prog 101 [.pointer (some ⟨b, 0, none⟩), .agg #[.int .i64 en.k, .bool en.tr, .slice en.A en.l.length en.c], .bool sized] F w (X := BufG) (fun _ => errV e 1) (fun x => x.es = u.es) (fun x => [blk b 141 #[.int .i64 size, .int .i64 most, .int .i64 sectors, .slice x.A x.es.length x.c], own 73 3 x.A x.es.length x.c (rowsE x.es), starA (datsE x.es)]) := by
  refine spec_ofC Tryd.func101 rfl Tryd.ntmps101 rfl hw ?_
  refine CW.seq ?_
  refine CW.reg [0, 1] rfl ?_
  refine s_box 4 rfl rfl (fun _ _ => trivial) (fun be => ?_)
  refine s_as 6 rfl rfl ?_
  refine SX.next ?_
  refine CW.seq ?_
  refine CW.reg [0, 1, 2, 3, 4] rfl ?_
  refine s_mv 8 rfl rfl ?_
  refine s_fa 9 rfl rfl ?_
  refine s_ldB 10 0 rfl rfl rfl (v := .int .i64 en.k) rfl ?_
  refine s_call1 11 rfl rfl rfl rfl (fun w hw => place_spec b u.A u.c u.es en.k w ((hw.has (i := 2) rfl).of_own) (by omega) (hw.blkCell (i := 1) rfl rfl)) (fun _ _ => trivial) ?_
  refine s_as 7 rfl rfl ?_
  refine SX.next ?_
  refine CW.seq ?_
  refine CW.block ?_
  refine CW.seq ?_
  refine CW.regD (.st true 0 (.st true 1 (.st true 2 (.st true 3 (.st true 4 (.st true 5 (.st true 6 (.st true 7 (.st true 8 (.st true 9 (.st true 10 (.st true 11 (.st true 12 .done))))))))))))) (St F w [blk be 73 #[.int .i64 en.k, .bool en.tr, .slice en.A en.l.length en.c], blk b 141 #[.int .i64 size, .int .i64 most, .int .i64 sectors, .slice u.A u.es.length u.c], own 73 3 u.A u.es.length u.c (rowsE u.es), starA (datsE u.es), en.dat]) mixed (by kernel_rfl) (fun _ h => h.drew) (fun _ h => h) ?_
  refine s_fa 13 rfl rfl ?_
  refine s_ldS 14 rfl rfl (v := .int .i64 en.k) (fun _ hw => hw.blkCell (i := 0) rfl rfl) ?_
  refine s_lt 15 rfl rfl rfl rfl ?_
  refine s_mv 16 rfl rfl ?_
  refine SX.bool 16 rfl (fun hb => ?_) (fun hb => ?_)
  · skip
    skip
    refine SX.skip rfl ?_
    refine SX.skip rfl ?_
    refine SX.skip rfl ?_
    refine SX.skip rfl ?_
    refine SX.skip rfl ?_
    refine SX.skip rfl ?_
    refine SX.skip rfl ?_
    refine s_pickT 24 rfl rfl rfl ?_
    refine s_as 12 rfl rfl ?_
    refine SX.next ?_
    refine CW.condT rfl ?_
    refine CW.seq ?_
    refine CW.reg [0, 1] rfl ?_
    refine s_ld 25 rfl rfl (fun _ h => hE1 _ h.fr) ?_
    refine s_as 6 rfl rfl ?_
    refine SX.next ?_
    refine CW.ret ?_
    exact KN.ret (rs := [.tmp 6]) Tryd.results101 rfl (fun w hw => ⟨u, rfl, rfl, hw.pick [1, 1, 1] rfl⟩)
  · skip
    have h0 := of_decide_eq_false hb
    refine s_fa 17 rfl rfl ?_
    refine s_ldS 18 rfl rfl (v := .int .i64 en.k) (fun _ hw => hw.blkCell (i := 0) rfl rfl) ?_
    refine s_mv 19 rfl rfl ?_
    refine s_nil 20 rfl rfl ?_
    refine s_fa 21 rfl rfl ?_
    refine s_ldS 22 rfl rfl (v := .int .i64 sectors) (fun _ hw => hw.blkCell (i := 1) rfl rfl) ?_
    refine s_ge 23 rfl rfl rfl (decide_eq_true (by omega)) ?_
    refine s_pickF 24 rfl rfl rfl ?_
    refine s_as 12 rfl rfl ?_
    refine SX.next ?_
    refine CW.condT rfl ?_
    refine CW.seq ?_
    refine CW.reg [0, 1] rfl ?_
    refine s_ld 25 rfl rfl (fun _ h => hE1 _ h.fr) ?_
    refine s_as 6 rfl rfl ?_
    refine SX.next ?_
    refine CW.ret ?_
    exact KN.ret (rs := [.tmp 6]) Tryd.results101 rfl (fun w hw => ⟨u, rfl, rfl, hw.pick [1, 1, 1] rfl⟩)

theorem wait_size (F : Nat → Prop) (b : Nat) (size most sectors : Int) (u : BufG) (en : EntG) (e : Nat → Addr) (w : World) (hn : u.es.length ≤ 1000) (hE2 : ∀ w', Fr F w w' → Er e w' 5) (hk0 : 0 ≤ en.k) (hk1 : en.k < sectors) (hw : St F w [blk b 141 #[.int .i64 size, .int .i64 most, .int .i64 sectors, .slice u.A u.es.length u.c], own 73 3 u.A u.es.length u.c (rowsE u.es), starA (datsE u.es), en.dat] w) : SpecP Tryd.prog 101 [.pointer (some ⟨b, 0, none⟩), .agg #[.int .i64 en.k, .bool en.tr, .slice en.A en.l.length en.c], .bool false] F w (X := BufG) (fun _ => errV e 5) (fun x => x.es = u.es) (fun x => [blk b 141 #[.int .i64 size, .int .i64 most, .int .i64 sectors, .slice x.A x.es.length x.c], own 73 3 x.A x.es.length x.c (rowsE x.es), starA (datsE x.es)]) := by
  refine spec_ofC Tryd.func101 rfl Tryd.ntmps101 rfl hw ?_
  refine CW.seq ?_
  refine CW.reg [0, 1] rfl ?_
  refine s_box 4 rfl rfl (fun _ _ => trivial) (fun be => ?_)
  refine s_as 6 rfl rfl ?_
  refine SX.next ?_
  refine CW.seq ?_
  refine CW.reg [0, 1, 2, 3, 4] rfl ?_
  refine s_mv 8 rfl rfl ?_
  refine s_fa 9 rfl rfl ?_
  refine s_ldB 10 0 rfl rfl rfl (v := .int .i64 en.k) rfl ?_
  refine s_call1 11 rfl rfl rfl rfl (fun w hw => place_spec b u.A u.c u.es en.k w ((hw.has (i := 2) rfl).of_own) (by omega) (hw.blkCell (i := 1) rfl rfl)) (fun _ _ => trivial) ?_
  refine s_as 7 rfl rfl ?_
  refine SX.next ?_
  refine CW.seq ?_
  refine CW.block ?_
  refine CW.seq ?_
  refine CW.regD (.st true 0 (.st true 1 (.st true 2 (.st true 3 (.st true 4 (.st true 5 (.st true 6 (.st true 7 (.st true 8 (.st true 9 (.st true 10 (.st true 11 (.st true 12 .done))))))))))))) (St F w [blk be 73 #[.int .i64 en.k, .bool en.tr, .slice en.A en.l.length en.c], blk b 141 #[.int .i64 size, .int .i64 most, .int .i64 sectors, .slice u.A u.es.length u.c], own 73 3 u.A u.es.length u.c (rowsE u.es), starA (datsE u.es), en.dat]) mixed (by kernel_rfl) (fun _ h => h.drew) (fun _ h => h) ?_
  refine s_fa 13 rfl rfl ?_
  refine s_ldS 14 rfl rfl (v := .int .i64 en.k) (fun _ hw => hw.blkCell (i := 0) rfl rfl) ?_
  refine s_lt 15 rfl rfl rfl (decide_eq_false (by omega)) ?_
  refine s_mv 16 rfl rfl ?_
  refine s_fa 17 rfl rfl ?_
  refine s_ldS 18 rfl rfl (v := .int .i64 en.k) (fun _ hw => hw.blkCell (i := 0) rfl rfl) ?_
  refine s_mv 19 rfl rfl ?_
  refine s_nil 20 rfl rfl ?_
  refine s_fa 21 rfl rfl ?_
  refine s_ldS 22 rfl rfl (v := .int .i64 sectors) (fun _ hw => hw.blkCell (i := 1) rfl rfl) ?_
  refine s_ge 23 rfl rfl rfl (decide_eq_false (by omega)) ?_
  refine s_pickF 24 rfl rfl rfl ?_
  refine s_as 12 rfl rfl ?_
  refine SX.next ?_
  refine CW.condF rfl ?_
  refine CW.seq ?_
  refine CW.reg [0, 1, 2] rfl ?_
  refine s_mv 27 rfl rfl ?_
  refine s_not 28 rfl rfl ?_
  refine s_as 26 rfl rfl ?_
  refine SX.next ?_
  refine CW.condT rfl ?_
  refine CW.seq ?_
  refine CW.reg [0, 1] rfl ?_
  refine s_ld 29 rfl rfl (fun _ h => hE2 _ h.fr) ?_
  refine s_as 6 rfl rfl ?_
  refine SX.next ?_
  refine CW.ret ?_
  exact KN.ret (rs := [.tmp 6]) Tryd.results101 rfl (fun w hw => ⟨u, rfl, rfl, hw.pick [1, 1, 1] rfl⟩)

theorem wait_full (F : Nat → Prop) (b : Nat) (size most sectors : Int) (u : BufG) (en : EntG) (e : Nat → Addr) (w : World) (hn : u.es.length ≤ 1000) (hE3 : ∀ w', Fr F w w' → Er e w' 3) (hk0 : 0 ≤ en.k) (hk1 : en.k < sectors) (hpl : plI en.k u.es = -1) (hfu : most ≤ u.es.length) (hw : St F w [blk b 141 #[.int .i64 size, .int .i64 most, .int .i64 sectors, .slice u.A u.es.length u.c], own 73 3 u.A u.es.length u.c (rowsE u.es), starA (datsE u.es), en.dat] w) : SpecP Tryd.prog 101 [.pointer (some ⟨b, 0, none⟩), .agg #[.int .i64 en.k, .bool en.tr, .slice en.A en.l.length en.c], .bool true] F w (X := BufG) (fun _ => errV e 3) (fun x => x.es = u.es) (fun x => [blk b 141 #[.int .i64 size, .int .i64 most, .int .i64 sectors, .slice x.A x.es.length x.c], own 73 3 x.A x.es.length x.c (rowsE x.es), starA (datsE x.es)]) := by
  refine spec_ofC Tryd.func101 rfl Tryd.ntmps101 rfl hw ?_
  refine CW.seq ?_
  refine CW.reg [0, 1] rfl ?_
  refine s_box 4 rfl rfl (fun _ _ => trivial) (fun be => ?_)
  refine s_as 6 rfl rfl ?_
  refine SX.next ?_
  refine CW.seq ?_
  refine CW.reg [0, 1, 2, 3, 4] rfl ?_
  refine s_mv 8 rfl rfl ?_
  refine s_fa 9 rfl rfl ?_
  refine s_ldB 10 0 rfl rfl rfl (v := .int .i64 en.k) rfl ?_
  refine s_call1 11 rfl rfl rfl rfl (v := .int .i64 (-1)) (fun w hw => by have := place_spec b u.A u.c u.es en.k w ((hw.has (i := 2) rfl).of_own) (by omega) (hw.blkCell (i := 1) rfl rfl); rw [hpl] at this; exact this) (fun _ _ => trivial) ?_
  refine s_as 7 rfl rfl ?_
  refine SX.next ?_
  refine CW.seq ?_
  refine CW.block ?_
  refine CW.seq ?_
  refine CW.regD (.st true 0 (.st true 1 (.st true 2 (.st true 3 (.st true 4 (.st true 5 (.st true 6 (.st true 7 (.st true 8 (.st true 9 (.st true 10 (.st true 11 (.st true 12 .done))))))))))))) (St F w [blk be 73 #[.int .i64 en.k, .bool en.tr, .slice en.A en.l.length en.c], blk b 141 #[.int .i64 size, .int .i64 most, .int .i64 sectors, .slice u.A u.es.length u.c], own 73 3 u.A u.es.length u.c (rowsE u.es), starA (datsE u.es), en.dat]) mixed (by kernel_rfl) (fun _ h => h.drew) (fun _ h => h) ?_
  refine s_fa 13 rfl rfl ?_
  refine s_ldS 14 rfl rfl (v := .int .i64 en.k) (fun _ hw => hw.blkCell (i := 0) rfl rfl) ?_
  refine s_lt 15 rfl rfl rfl (decide_eq_false (by omega)) ?_
  refine s_mv 16 rfl rfl ?_
  refine s_fa 17 rfl rfl ?_
  refine s_ldS 18 rfl rfl (v := .int .i64 en.k) (fun _ hw => hw.blkCell (i := 0) rfl rfl) ?_
  refine s_mv 19 rfl rfl ?_
  refine s_nil 20 rfl rfl ?_
  refine s_fa 21 rfl rfl ?_
  refine s_ldS 22 rfl rfl (v := .int .i64 sectors) (fun _ hw => hw.blkCell (i := 1) rfl rfl) ?_
  refine s_ge 23 rfl rfl rfl (decide_eq_false (by omega)) ?_
  refine s_pickF 24 rfl rfl rfl ?_
  refine s_as 12 rfl rfl ?_
  refine SX.next ?_
  refine CW.condF rfl ?_
  refine CW.seq ?_
  refine CW.reg [0, 1, 2] rfl ?_
  refine s_mv 27 rfl rfl ?_
  refine s_not 28 rfl rfl ?_
  refine s_as 26 rfl rfl ?_
  refine SX.next ?_
  refine CW.condF rfl ?_
  refine CW.seq ?_
  refine CW.reg [0, 1, 2, 3, 4, 5, 6] rfl ?_
  refine s_mv 31 rfl rfl ?_
  refine s_lt 32 rfl rfl rfl (decide_eq_true (by omega)) ?_
  refine s_mv 33 rfl rfl ?_
  refine s_mv 34 rfl rfl ?_
  refine s_call1 35 rfl rfl rfl rfl (v := .bool true) (fun w hw => by have := bfull_spec b u.A u.c u.es most w (hw.blkCell (i := 1) rfl rfl) (hw.blkCell (i := 1) rfl rfl); rw [decide_eq_true (by omega)] at this; exact this) (fun _ _ => trivial) ?_
  refine s_pickT 36 rfl rfl rfl ?_
  refine s_as 30 rfl rfl ?_
  refine SX.next ?_
  refine CW.condT rfl ?_
  refine CW.seq ?_
  refine CW.reg [0, 1] rfl ?_
  refine s_ld 37 rfl rfl (fun _ h => hE3 _ h.fr) ?_
  refine s_as 6 rfl rfl ?_
  refine SX.next ?_
  refine CW.ret ?_
  exact KN.ret (rs := [.tmp 6]) Tryd.results101 rfl (fun w hw => ⟨u, rfl, rfl, hw.pick [1, 1, 1] rfl⟩)

theorem wait_new (F : Nat → Prop) (b : Nat) (size most sectors : Int) (u : BufG) (en : EntG) (e : Nat → Addr) (w : World) (hn : u.es.length ≤ 1000)  (hk0 : 0 ≤ en.k) (hk1 : en.k < sectors) (hpl : plI en.k u.es = -1) (hfu : (u.es.length : Int) < most) (hw : St F w [blk b 141 #[.int .i64 size, .int .i64 most, .int .i64 sectors, .slice u.A u.es.length u.c], own 73 3 u.A u.es.length u.c (rowsE u.es), starA (datsE u.es), en.dat] w) : SpecP Tryd.prog 101 [.pointer (some ⟨b, 0, none⟩), .agg #[.int .i64 en.k, .bool en.tr, .slice en.A en.l.length en.c], .bool true] F w (X := BufG) (fun _ => .nilIface) (fun x => x.es = u.es ++ [en]) (fun x => [blk b 141 #[.int .i64 size, .int .i64 most, .int .i64 sectors, .slice x.A x.es.length x.c], own 73 3 x.A x.es.length x.c (rowsE x.es), starA (datsE x.es)]) := by
  refine spec_ofC Tryd.func101 rfl Tryd.ntmps101 rfl hw ?_
  refine CW.seq ?_
  refine CW.reg [0, 1] rfl ?_
  refine s_box 4 rfl rfl (fun _ _ => trivial) (fun be => ?_)
  refine s_as 6 rfl rfl ?_
  refine SX.next ?_
  refine CW.seq ?_
  refine CW.reg [0, 1, 2, 3, 4] rfl ?_
  refine s_mv 8 rfl rfl ?_
  refine s_fa 9 rfl rfl ?_
  refine s_ldB 10 0 rfl rfl rfl (v := .int .i64 en.k) rfl ?_
  refine s_call1 11 rfl rfl rfl rfl (v := .int .i64 (-1)) (fun w hw => by have := place_spec b u.A u.c u.es en.k w ((hw.has (i := 2) rfl).of_own) (by omega) (hw.blkCell (i := 1) rfl rfl); rw [hpl] at this; exact this) (fun _ _ => trivial) ?_
  refine s_as 7 rfl rfl ?_
  refine SX.next ?_
  refine CW.seq ?_
  refine CW.block ?_
  refine CW.seq ?_
  refine CW.regD (.st true 0 (.st true 1 (.st true 2 (.st true 3 (.st true 4 (.st true 5 (.st true 6 (.st true 7 (.st true 8 (.st true 9 (.st true 10 (.st true 11 (.st true 12 .done))))))))))))) (St F w [blk be 73 #[.int .i64 en.k, .bool en.tr, .slice en.A en.l.length en.c], blk b 141 #[.int .i64 size, .int .i64 most, .int .i64 sectors, .slice u.A u.es.length u.c], own 73 3 u.A u.es.length u.c (rowsE u.es), starA (datsE u.es), en.dat]) mixed (by kernel_rfl) (fun _ h => h.drew) (fun _ h => h) ?_
  refine s_fa 13 rfl rfl ?_
  refine s_ldS 14 rfl rfl (v := .int .i64 en.k) (fun _ hw => hw.blkCell (i := 0) rfl rfl) ?_
  refine s_lt 15 rfl rfl rfl (decide_eq_false (by omega)) ?_
  refine s_mv 16 rfl rfl ?_
  refine s_fa 17 rfl rfl ?_
  refine s_ldS 18 rfl rfl (v := .int .i64 en.k) (fun _ hw => hw.blkCell (i := 0) rfl rfl) ?_
  refine s_mv 19 rfl rfl ?_
  refine s_nil 20 rfl rfl ?_
  refine s_fa 21 rfl rfl ?_
  refine s_ldS 22 rfl rfl (v := .int .i64 sectors) (fun _ hw => hw.blkCell (i := 1) rfl rfl) ?_
  refine s_ge 23 rfl rfl rfl (decide_eq_false (by omega)) ?_
  refine s_pickF 24 rfl rfl rfl ?_
  refine s_as 12 rfl rfl ?_
  refine SX.next ?_
  refine CW.condF rfl ?_
  refine CW.seq ?_
  refine CW.reg [0, 1, 2] rfl ?_
  refine s_mv 27 rfl rfl ?_
  refine s_not 28 rfl rfl ?_
  refine s_as 26 rfl rfl ?_
  refine SX.next ?_
  refine CW.condF rfl ?_
  refine CW.seq ?_
  refine CW.reg [0, 1, 2, 3, 4, 5, 6] rfl ?_
  refine s_mv 31 rfl rfl ?_
  refine s_lt 32 rfl rfl rfl (decide_eq_true (by omega)) ?_
  refine s_mv 33 rfl rfl ?_
  refine s_mv 34 rfl rfl ?_
  refine s_call1 35 rfl rfl rfl rfl (v := .bool false) (fun w hw => by have := bfull_spec b u.A u.c u.es most w (hw.blkCell (i := 1) rfl rfl) (hw.blkCell (i := 1) rfl rfl); rw [decide_eq_false (by omega)] at this; exact this) (fun _ _ => trivial) ?_
  refine s_pickT 36 rfl rfl rfl ?_
  refine s_as 30 rfl rfl ?_
  refine SX.next ?_
  refine CW.condF rfl ?_
  refine CW.seq ?_
  refine CW.reg [0, 1, 2] rfl ?_
  refine s_mv 39 rfl rfl ?_
  refine s_ge 40 rfl rfl rfl (decide_eq_false (by omega)) ?_
  refine s_as 38 rfl rfl ?_
  refine SX.next ?_
  refine CW.condF rfl ?_
  refine CW.skip ?_
  refine KN.blk ?_
  refine KN.code ?_
  refine CW.seq ?_
  refine CW.regD (.st true 0 (.st true 1 (.st true 2 (.st true 3 (.st true 5 (.alt 4 (.st false 6 (.st false 7 (.st true 8 (.st true 9 (.st false 10 .done))))) (.st false 6 (.st false 4 (.st false 7 (.st true 8 (.st true 9 (.st false 10 .done)))))))))))) (St F w [blk be 73 #[.int .i64 en.k, .bool en.tr, .slice en.A en.l.length en.c]]) mixed (by kernel_rfl) (fun _ h => h.drew) (fun _ h => h.pick [0] rfl) ?_
  refine s_mv 52 rfl rfl ?_
  refine s_mv 53 rfl rfl ?_
  refine s_nil 54 rfl rfl ?_
  refine s_fa 55 rfl rfl ?_
  refine s_ldRS 57 (cs := en.row) rfl rfl rfl (fun _ hw => hw.blkRow (i := 0) rfl) ?_
  refine SX.alt ?_ ?_
  · skip
    first | refine s_ldB 56 1 rfl rfl rfl (v := .slice u.A u.es.length u.c) rfl ?_ | refine s_ldB 56 2 rfl rfl rfl (v := .slice u.A u.es.length u.c) rfl ?_
    refine s_bsl 58 rfl rfl (cells := #[.int .i64 en.k, .bool en.tr, .slice en.A en.l.length en.c]) (by kernel_rfl) rfl (fun _ h => h.pick [0] rfl) (fun gb => ?_)
    refine s_app 59 3 rfl rfl rfl rfl (ys := en.row) (fun w hw => Has.cong ((hw.has (i := 0) rfl).blk_sl (m := 1) rfl) rfl) rfl rfl (by omega) (by unfold maxLen; omega) (by omega) (fun _ _ _ h => h.pick [1] rfl) (fun A2 c2 hc2 => ?_)
    refine s_nil 60 rfl rfl ?_
    refine s_fa 61 rfl rfl ?_
    refine s_stB 2 rfl rfl rfl rfl rfl (by show 3 < 4; decide) (fun _ h => h.pick [1] rfl) ?_
    refine SX.next ?_
    refine CW.seq ?_
    refine CW.reg [0] rfl ?_
    refine s_as 6 rfl rfl ?_
    refine SX.next ?_
    refine CW.ret ?_
    exact KN.ret (rs := [.tmp 6]) Tryd.results101 rfl (fun w hw => ⟨⟨A2, c2, u.es ++ [en]⟩, rfl, rfl, by
  have h1 := hw.pick [5, 4, 2, 2] rfl
  have h2 := h1.starMore
  have e1 : (u.es ++ [en]).length = u.es.length + 1 := by rw [List.length_append]; rfl
  have e2 : rowsE (u.es ++ [en]) = rowsE u.es ++ en.row := by rw [rowsE_app]; rfl
  have e3 : datsE (u.es ++ [en]) = datsE u.es ++ [en.dat] := List.map_append
  simp only [e1, e2, e3]
  exact h2.pick [1, 1, 0] rfl⟩)
  · skip
    refine s_bsl 58 rfl rfl (cells := #[.int .i64 en.k, .bool en.tr, .slice en.A en.l.length en.c]) (by kernel_rfl) rfl (fun _ h => h.pick [0] rfl) (fun gb => ?_)
    first | refine s_ldB 56 1 rfl rfl rfl (v := .slice u.A u.es.length u.c) rfl ?_ | refine s_ldB 56 2 rfl rfl rfl (v := .slice u.A u.es.length u.c) rfl ?_
    refine s_app 59 3 rfl rfl rfl rfl (ys := en.row) (fun w hw => Has.cong ((hw.has (i := 0) rfl).blk_sl (m := 1) rfl) rfl) rfl rfl (by omega) (by unfold maxLen; omega) (by omega) (fun _ _ _ h => h.pick [1] rfl) (fun A2 c2 hc2 => ?_)
    refine s_nil 60 rfl rfl ?_
    refine s_fa 61 rfl rfl ?_
    refine s_stB 2 rfl rfl rfl rfl rfl (by show 3 < 4; decide) (fun _ h => h.pick [1] rfl) ?_
    refine SX.next ?_
    refine CW.seq ?_
    refine CW.reg [0] rfl ?_
    refine s_as 6 rfl rfl ?_
    refine SX.next ?_
    refine CW.ret ?_
    exact KN.ret (rs := [.tmp 6]) Tryd.results101 rfl (fun w hw => ⟨⟨A2, c2, u.es ++ [en]⟩, rfl, rfl, by
  have h1 := hw.pick [5, 4, 2, 2] rfl
  have h2 := h1.starMore
  have e1 : (u.es ++ [en]).length = u.es.length + 1 := by rw [List.length_append]; rfl
  have e2 : rowsE (u.es ++ [en]) = rowsE u.es ++ en.row := by rw [rowsE_app]; rfl
  have e3 : datsE (u.es ++ [en]) = datsE u.es ++ [en.dat] := List.map_append
  simp only [e1, e2, e3]
  exact h2.pick [1, 1, 0] rfl⟩)

theorem wait_old (F : Nat → Prop) (b : Nat) (size most sectors : Int) (u : BufG) (en : EntG) (e : Nat → Addr) (w : World) (hn : u.es.length ≤ 1000)  (hk0 : 0 ≤ en.k) (hk1 : en.k < sectors) (i : Nat) (hi : i < u.es.length) (hpl : plI en.k u.es = (i : Nat)) (hw : St F w [blk b 141 #[.int .i64 size, .int .i64 most, .int .i64 sectors, .slice u.A u.es.length u.c], own 73 3 u.A u.es.length u.c (rowsE u.es), starA (datsE u.es), en.dat] w) : SpecP Tryd.prog 101 [.pointer (some ⟨b, 0, none⟩), .agg #[.int .i64 en.k, .bool en.tr, .slice en.A en.l.length en.c], .bool true] F w (X := BufG) (fun _ => .nilIface) (fun x => x.es = (u.es.eraseIdx i) ++ [en]) (fun x => [blk b 141 #[.int .i64 size, .int .i64 most, .int .i64 sectors, .slice x.A x.es.length x.c], own 73 3 x.A x.es.length x.c (rowsE x.es), starA (datsE x.es)]) := by
  refine spec_ofC Tryd.func101 rfl Tryd.ntmps101 rfl hw ?_
  refine CW.seq ?_
  refine CW.reg [0, 1] rfl ?_
  refine s_box 4 rfl rfl (fun _ _ => trivial) (fun be => ?_)
  refine s_as 6 rfl rfl ?_
  refine SX.next ?_
  refine CW.seq ?_
  refine CW.reg [0, 1, 2, 3, 4] rfl ?_
  refine s_mv 8 rfl rfl ?_
  refine s_fa 9 rfl rfl ?_
  refine s_ldB 10 0 rfl rfl rfl (v := .int .i64 en.k) rfl ?_
  refine s_call1 11 rfl rfl rfl rfl (v := .int .i64 (i : Nat)) (fun w hw => by have := place_spec b u.A u.c u.es en.k w ((hw.has (i := 2) rfl).of_own) (by omega) (hw.blkCell (i := 1) rfl rfl); rw [hpl] at this; exact this) (fun _ _ => trivial) ?_
  refine s_as 7 rfl rfl ?_
  refine SX.next ?_
  refine CW.seq ?_
  refine CW.block ?_
  refine CW.seq ?_
  refine CW.regD (.st true 0 (.st true 1 (.st true 2 (.st true 3 (.st true 4 (.st true 5 (.st true 6 (.st true 7 (.st true 8 (.st true 9 (.st true 10 (.st true 11 (.st true 12 .done))))))))))))) (St F w [blk be 73 #[.int .i64 en.k, .bool en.tr, .slice en.A en.l.length en.c], blk b 141 #[.int .i64 size, .int .i64 most, .int .i64 sectors, .slice u.A u.es.length u.c], own 73 3 u.A u.es.length u.c (rowsE u.es), starA (datsE u.es), en.dat]) mixed (by kernel_rfl) (fun _ h => h.drew) (fun _ h => h) ?_
  refine s_fa 13 rfl rfl ?_
  refine s_ldS 14 rfl rfl (v := .int .i64 en.k) (fun _ hw => hw.blkCell (i := 0) rfl rfl) ?_
  refine s_lt 15 rfl rfl rfl (decide_eq_false (by omega)) ?_
  refine s_mv 16 rfl rfl ?_
  refine s_fa 17 rfl rfl ?_
  refine s_ldS 18 rfl rfl (v := .int .i64 en.k) (fun _ hw => hw.blkCell (i := 0) rfl rfl) ?_
  refine s_mv 19 rfl rfl ?_
  refine s_nil 20 rfl rfl ?_
  refine s_fa 21 rfl rfl ?_
  refine s_ldS 22 rfl rfl (v := .int .i64 sectors) (fun _ hw => hw.blkCell (i := 1) rfl rfl) ?_
  refine s_ge 23 rfl rfl rfl (decide_eq_false (by omega)) ?_
  refine s_pickF 24 rfl rfl rfl ?_
  refine s_as 12 rfl rfl ?_
  refine SX.next ?_
  refine CW.condF rfl ?_
  refine CW.seq ?_
  refine CW.reg [0, 1, 2] rfl ?_
  refine s_mv 27 rfl rfl ?_
  refine s_not 28 rfl rfl ?_
  refine s_as 26 rfl rfl ?_
  refine SX.next ?_
  refine CW.condF rfl ?_
  refine CW.seq ?_
  refine CW.reg [0, 1, 2, 3, 4, 5, 6] rfl ?_
  refine s_mv 31 rfl rfl ?_
  refine s_lt 32 rfl rfl rfl (decide_eq_false (by omega)) ?_
  refine s_mv 33 rfl rfl ?_
  refine SX.skip rfl ?_
  refine SX.skip rfl ?_
  refine s_pickF 36 rfl rfl rfl ?_
  refine s_as 30 rfl rfl ?_
  refine SX.next ?_
  refine CW.condF rfl ?_
  refine CW.seq ?_
  refine CW.reg [0, 1, 2] rfl ?_
  refine s_mv 39 rfl rfl ?_
  refine s_ge 40 rfl rfl rfl (decide_eq_true (by omega)) ?_
  refine s_as 38 rfl rfl ?_
  refine SX.next ?_
  refine CW.condT rfl ?_
  refine CW.reg [0, 1, 2, 3, 4, 5, 6, 7, 8, 9, 10, 11] rfl ?_
  refine s_mv 41 rfl rfl ?_
  refine s_mv 42 rfl rfl ?_
  refine s_nil 43 rfl rfl ?_
  refine s_fa 44 rfl rfl ?_
  refine s_ldB 45 1 rfl rfl rfl (v := .slice u.A u.es.length u.c) rfl ?_
  refine s_mv 46 rfl rfl ?_
  refine s_mv 47 rfl rfl ?_
  refine s_add 48 rfl rfl rfl (r := ((i + 1 : Nat) : Int)) (w64 (by omega)) ?_
  refine s_callP 49 [2, 0, 0, 0, 0] (M := [own 73 3 u.A u.es.length u.c (rowsE u.es)]) (X := Unit) (v := fun _ => .slice u.A (u.es.eraseIdx i).length u.c) (pf := fun _ => True) (M' := fun _ => [own 73 3 u.A (u.es.eraseIdx i).length u.c (rowsE (u.es.eraseIdx i))]) rfl rfl rfl rfl rfl (fun F' w' _ hM => delete_spec F' u.A u.c u.es i w' hi (by omega) hM) (fun _ _ _ => trivial) (fun _ _ => ?_)
  have hel := erase_len u.es hi
  refine s_nil 50 rfl rfl ?_
  refine s_fa 51 rfl rfl ?_
  refine s_stB 2 rfl rfl rfl rfl rfl (by show 3 < 4; decide) (fun _ _ => trivial) ?_
  refine SX.end_ ?_
  refine KN.blk ?_
  refine KN.code ?_
  refine CW.seq ?_
  refine CW.regD (.st true 0 (.st true 1 (.st true 2 (.st true 3 (.st true 5 (.alt 4 (.st false 6 (.st false 7 (.st true 8 (.st true 9 (.st false 10 .done))))) (.st false 6 (.st false 4 (.st false 7 (.st true 8 (.st true 9 (.st false 10 .done)))))))))))) (St F w [blk be 73 #[.int .i64 en.k, .bool en.tr, .slice en.A en.l.length en.c]]) mixed (by kernel_rfl) (fun _ h => h.drew) (fun _ h => h.pick [1] rfl) ?_
  refine s_mv 52 rfl rfl ?_
  refine s_mv 53 rfl rfl ?_
  refine s_nil 54 rfl rfl ?_
  refine s_fa 55 rfl rfl ?_
  refine s_ldRS 57 (cs := en.row) rfl rfl rfl (fun _ hw => hw.blkRow (i := 0) rfl) ?_
  refine SX.alt ?_ ?_
  · skip
    first | refine s_ldB 56 2 rfl rfl rfl (v := .slice u.A (u.es.eraseIdx i).length u.c) rfl ?_ | refine s_ldB 56 3 rfl rfl rfl (v := .slice u.A (u.es.eraseIdx i).length u.c) rfl ?_
    refine s_bsl 58 rfl rfl (cells := #[.int .i64 en.k, .bool en.tr, .slice en.A en.l.length en.c]) (by kernel_rfl) rfl (fun _ h => h.pick [1] rfl) (fun gb => ?_)
    refine s_app 59 1 rfl rfl rfl rfl (ys := en.row) (fun w hw => Has.cong ((hw.has (i := 0) rfl).blk_sl (m := 1) rfl) rfl) rfl rfl (by omega) (by unfold maxLen; omega) (by omega) (fun _ _ _ h => h.pick [2] rfl) (fun A2 c2 hc2 => ?_)
    refine s_nil 60 rfl rfl ?_
    refine s_fa 61 rfl rfl ?_
    refine s_stB 3 rfl rfl rfl rfl rfl (by show 3 < 4; decide) (fun _ h => h.pick [2] rfl) ?_
    refine SX.next ?_
    refine CW.seq ?_
    refine CW.reg [0] rfl ?_
    refine s_as 6 rfl rfl ?_
    refine SX.next ?_
    refine CW.ret ?_
    exact KN.ret (rs := [.tmp 6]) Tryd.results101 rfl (fun w hw => ⟨⟨A2, c2, (u.es.eraseIdx i) ++ [en]⟩, rfl, rfl, by
  have h1 := hw.pick [5, 4, 3, 1] rfl
  have h1 := (h1.pick [1, 0, 0, 0] rfl).starLess (X' := datsE (u.es.eraseIdx i)) ((List.eraseIdx_sublist u.es i).map _)
  have h1 := h1.pick [1, 0, 0, 0] rfl
  have h2 := h1.starMore
  have e1 : ((u.es.eraseIdx i) ++ [en]).length = (u.es.eraseIdx i).length + 1 := by rw [List.length_append]; rfl
  have e2 : rowsE ((u.es.eraseIdx i) ++ [en]) = rowsE (u.es.eraseIdx i) ++ en.row := by rw [rowsE_app]; rfl
  have e3 : datsE ((u.es.eraseIdx i) ++ [en]) = datsE (u.es.eraseIdx i) ++ [en.dat] := List.map_append
  simp only [e1, e2, e3]
  exact h2.pick [1, 1, 0] rfl⟩)
  · skip
    refine s_bsl 58 rfl rfl (cells := #[.int .i64 en.k, .bool en.tr, .slice en.A en.l.length en.c]) (by kernel_rfl) rfl (fun _ h => h.pick [1] rfl) (fun gb => ?_)
    first | refine s_ldB 56 2 rfl rfl rfl (v := .slice u.A (u.es.eraseIdx i).length u.c) rfl ?_ | refine s_ldB 56 3 rfl rfl rfl (v := .slice u.A (u.es.eraseIdx i).length u.c) rfl ?_
    refine s_app 59 1 rfl rfl rfl rfl (ys := en.row) (fun w hw => Has.cong ((hw.has (i := 0) rfl).blk_sl (m := 1) rfl) rfl) rfl rfl (by omega) (by unfold maxLen; omega) (by omega) (fun _ _ _ h => h.pick [2] rfl) (fun A2 c2 hc2 => ?_)
    refine s_nil 60 rfl rfl ?_
    refine s_fa 61 rfl rfl ?_
    refine s_stB 3 rfl rfl rfl rfl rfl (by show 3 < 4; decide) (fun _ h => h.pick [2] rfl) ?_
    refine SX.next ?_
    refine CW.seq ?_
    refine CW.reg [0] rfl ?_
    refine s_as 6 rfl rfl ?_
    refine SX.next ?_
    refine CW.ret ?_
    exact KN.ret (rs := [.tmp 6]) Tryd.results101 rfl (fun w hw => ⟨⟨A2, c2, (u.es.eraseIdx i) ++ [en]⟩, rfl, rfl, by
  have h1 := hw.pick [5, 4, 3, 1] rfl
  have h1 := (h1.pick [1, 0, 0, 0] rfl).starLess (X' := datsE (u.es.eraseIdx i)) ((List.eraseIdx_sublist u.es i).map _)
  have h1 := h1.pick [1, 0, 0, 0] rfl
  have h2 := h1.starMore
  have e1 : ((u.es.eraseIdx i) ++ [en]).length = (u.es.eraseIdx i).length + 1 := by rw [List.length_append]; rfl
  have e2 : rowsE ((u.es.eraseIdx i) ++ [en]) = rowsE (u.es.eraseIdx i) ++ en.row := by rw [rowsE_app]; rfl
  have e3 : datsE ((u.es.eraseIdx i) ++ [en]) = datsE (u.es.eraseIdx i) ++ [en.dat] := List.map_append
  simp only [e1, e2, e3]
  exact h2.pick [1, 1, 0] rfl⟩)
end Go.Proofs.YtcdmmfpgeagimaaDoor
end
section
/- Package buffer: Put, Drop, Get, Clear, Each, New. Conditions: the buffer is lent; errors' variables stay. -/
namespace Go.Proofs.YtcdmmfpgeagimaaDoor
open Go Go.Lib Go.Sx Go.Fm
set_option maxRecDepth 100000
/-- What letting an entry wait answers, and leaves. -/
def wV (e : Nat → Addr) (most sectors : Int) (sized : Bool) (es : List EntG) (k : Int) : Value :=
  if k < 0 ∨ sectors ≤ k then errV e 1 else if sized = false then errV e 5 else if plI k es = -1 ∧ most ≤ (es.length : Int) then errV e 3 else .nilIface
def wNew (es : List EntG) (en : EntG) : List EntG := (if plI en.k es = -1 then es else es.eraseIdx (plN en.k es)) ++ [en]
def wRes (most sectors : Int) (sized : Bool) (es : List EntG) (en : EntG) : List EntG :=
  if en.k < 0 ∨ sectors ≤ en.k then es else if sized = false then es else if plI en.k es = -1 ∧ most ≤ (es.length : Int) then es else wNew es en
theorem plI_cases (key : Int) (es : List EntG) : plI key es = -1 ∨ (plN key es < es.length ∧ plI key es = (plN key es : Nat)) := by
  unfold plI
  split
  · exact .inr ⟨by assumption, rfl⟩
  · exact .inl rfl
theorem wait_any (e : Nat → Addr) (F : Nat → Prop) (b : Nat) (size most sectors : Int) (u : BufG) (en : EntG) (sized : Bool) (w : World) (hn : u.es.length ≤ 1000) (hE1 : ∀ w', Fr F w w' → Er e w' 1) (hE2 : ∀ w', Fr F w w' → Er e w' 5) (hE3 : ∀ w', Fr F w w' → Er e w' 3) (hw : St F w [blk b 141 #[.int .i64 size, .int .i64 most, .int .i64 sectors, .slice u.A u.es.length u.c], own 73 3 u.A u.es.length u.c (rowsE u.es), starA (datsE u.es), en.dat] w) : SpecP Tryd.prog 101 [.pointer (some ⟨b, 0, none⟩), .agg #[.int .i64 en.k, .bool en.tr, .slice en.A en.l.length en.c], .bool sized] F w (X := BufG) (fun _ => wV e most sectors sized u.es en.k) (fun x => x.es = wRes most sectors sized u.es en) (fun x => [blk b 141 #[.int .i64 size, .int .i64 most, .int .i64 sectors, .slice x.A x.es.length x.c], own 73 3 x.A x.es.length x.c (rowsE x.es), starA (datsE x.es)]) := by
  unfold wV wRes
  by_cases h1 : en.k < 0 ∨ sectors ≤ en.k
  · rw [if_pos h1, if_pos h1]; exact wait_num F b size most sectors u en e w hn hE1 sized h1 hw
  · rw [if_neg h1, if_neg h1]
    by_cases h2 : sized = false
    · subst h2; rw [if_pos rfl, if_pos rfl]; exact wait_size F b size most sectors u en e w hn hE2 (by omega) (by omega) hw
    · obtain rfl : sized = true := by cases sized <;> simp_all
      rw [if_neg h2, if_neg h2]
      by_cases h3 : plI en.k u.es = -1 ∧ most ≤ (u.es.length : Int)
      · rw [if_pos h3, if_pos h3]; exact wait_full F b size most sectors u en e w hn hE3 (by omega) (by omega) h3.1 h3.2 hw
      · rw [if_neg h3, if_neg h3]
        unfold wNew
        rcases plI_cases en.k u.es with h4 | ⟨h4, h5⟩
        · rw [if_pos h4]; exact wait_new F b size most sectors u en e w hn (by omega) (by omega) h4 (by omega) hw
        · rw [if_neg (by omega)]; exact wait_old F b size most sectors u en e w hn (by omega) (by omega) _ h4 h5 hw

theorem put_spec (e : Nat → Addr) (F : Nat → Prop) (b : Nat) (size most sectors : Int) (u : BufG) (key : Int) (A : Option Addr) (n c : Nat) (p : List Nat) (w : World) (hn : u.es.length ≤ 1000) (hE1 : ∀ w', Fr F w w' → Er e w' 1) (hE2 : ∀ w', Fr F w w' → Er e w' 5) (hE3 : ∀ w', Fr F w w' → Er e w' 3) (hd : ∀ w', Fr F w w' → Has (sl 1 A n (nats .u8 p)) w') (hp : n ≤ 1000000) (hw : St F w [blk b 141 #[.int .i64 size, .int .i64 most, .int .i64 sectors, .slice u.A u.es.length u.c], own 73 3 u.A u.es.length u.c (rowsE u.es), starA (datsE u.es)] w) : SpecP Tryd.prog 53 [.pointer (some ⟨b, 0, none⟩), .int .i64 key, .slice A n c] F w (X := BufG × Option Addr × Nat) (fun _ => wV e most sectors (decide ((p.length : Int) = size)) u.es key) (fun x => x.1.es = wRes most sectors (decide ((p.length : Int) = size)) u.es ⟨key, false, x.2.1, x.2.2, p⟩) (fun x => [blk b 141 #[.int .i64 size, .int .i64 most, .int .i64 sectors, .slice x.1.A x.1.es.length x.1.c], own 73 3 x.1.A x.1.es.length x.1.c (rowsE x.1.es), starA (datsE x.1.es)]) := by
  have hla := nats_len (hd w (Fr.refl _ _))
  subst hla
  refine spec_ofC Tryd.func53 rfl Tryd.ntmps53 rfl hw ?_
  refine CW.seq ?_
  refine CW.reg [0] rfl ?_
  refine s_as 6 rfl rfl ?_
  refine SX.next ?_
  refine CW.seq ?_
  refine CW.regD (.st true 0 (.st true 1 (.st true 2 (.st true 5 (.st true 6 (.st true 7 (.st true 8 (.st true 9 (.st true 10 (.st true 11 (.st false 3 (.st false 4 (.st false 12 (.st true 13 .done)))))))))))))) (fun w2 => w2.cell? ⟨b, 0, none⟩ = some (.int .i64 size)) mixed (by kernel_rfl) (fun _ h => h.drew) (fun _ hw => hw.blkCell (i := 0) rfl rfl) ?_
  refine s_mv 7 rfl rfl ?_
  refine s_mv 8 rfl rfl ?_
  refine s_mv 9 rfl rfl ?_
  refine s_mv 12 rfl rfl ?_
  refine s_len 13 rfl rfl ?_
  refine s_mv 14 rfl rfl ?_
  refine s_nil 15 rfl rfl ?_
  refine s_fa 16 rfl rfl ?_
  refine s_ldS 17 rfl rfl (v := .int .i64 size) (fun _ hw => hw) ?_
  refine s_eq 18 rfl rfl rfl rfl ?_
  refine s_call 10 rfl rfl rfl rfl (fun w2 hw => cloneB_spec A p.length c p w2 (hd _ hw.fr) hp) (fun _ hw => hw.blkCell (i := 0) rfl rfl) (fun z hz => ?_)
  refine s_build 11 rfl rfl (cells := #[.int .i64 key, .bool false, .slice z.1 p.length z.2]) (by kernel_rfl) ?_
  refine s_callP 19 [1, 1, 1, 0] (M := [blk b 141 #[.int .i64 size, .int .i64 most, .int .i64 sectors, .slice u.A u.es.length u.c], own 73 3 u.A u.es.length u.c (rowsE u.es), starA (datsE u.es), (⟨key, false, z.1, z.2, p⟩ : EntG).dat]) (R := []) (X := BufG) (v := fun _ => wV e most sectors (decide ((p.length : Int) = size)) u.es key) (pf := fun x => x.es = wRes most sectors (decide ((p.length : Int) = size)) u.es (⟨key, false, z.1, z.2, p⟩ : EntG)) (M' := fun x => [blk b 141 #[.int .i64 size, .int .i64 most, .int .i64 sectors, .slice x.A x.es.length x.c], own 73 3 x.A x.es.length x.c (rowsE x.es), starA (datsE x.es)]) rfl rfl rfl rfl rfl (fun F' w' hR hM => wait_any e F' b size most sectors u (⟨key, false, z.1, z.2, p⟩ : EntG) (decide ((p.length : Int) = size)) w' hn (fun w2 hf => hE1 _ ((hR w2 hf).fr)) (fun w2 hf => hE2 _ ((hR w2 hf).fr)) (fun w2 hf => hE3 _ ((hR w2 hf).fr)) hM) (fun _ _ hw => hw.blkCell (i := 0) rfl rfl) (fun x hx => ?_)
  refine s_as 6 rfl rfl ?_
  refine SX.next ?_
  refine CW.ret ?_
  exact KN.ret (rs := [.tmp 6]) Tryd.results53 rfl (fun w hw => ⟨(x, z), rfl, hx, hw⟩)

theorem drop_spec (e : Nat → Addr) (F : Nat → Prop) (b : Nat) (size most sectors : Int) (u : BufG) (key : Int) (w : World) (hn : u.es.length ≤ 1000) (hE1 : ∀ w', Fr F w w' → Er e w' 1) (hE2 : ∀ w', Fr F w w' → Er e w' 5) (hE3 : ∀ w', Fr F w w' → Er e w' 3) (hw : St F w [blk b 141 #[.int .i64 size, .int .i64 most, .int .i64 sectors, .slice u.A u.es.length u.c], own 73 3 u.A u.es.length u.c (rowsE u.es), starA (datsE u.es)] w) : SpecP Tryd.prog 52 [.pointer (some ⟨b, 0, none⟩), .int .i64 key] F w (X := BufG) (fun _ => wV e most sectors true u.es key) (fun x => x.es = wRes most sectors true u.es ⟨key, true, none, 0, []⟩) (fun x => [blk b 141 #[.int .i64 size, .int .i64 most, .int .i64 sectors, .slice x.A x.es.length x.c], own 73 3 x.A x.es.length x.c (rowsE x.es), starA (datsE x.es)]) := by
  refine spec_ofC Tryd.func52 rfl Tryd.ntmps52 rfl hw ?_
  refine CW.seq ?_
  refine CW.reg [0] rfl ?_
  refine s_as 4 rfl rfl ?_
  refine SX.next ?_
  refine CW.seq ?_
  refine CW.reg [0, 1, 2, 3, 4] rfl ?_
  refine s_mv 5 rfl rfl ?_
  refine s_mv 6 rfl rfl ?_
  refine s_build 7 rfl rfl (cells := #[.int .i64 key, .bool true, .slice none 0 0]) (by kernel_rfl) ?_
  refine SX.pre (fun _ h => h.begin_ 5 1) ?_
  refine s_callP 8 [1, 1, 1, 0] (M := [blk b 141 #[.int .i64 size, .int .i64 most, .int .i64 sectors, .slice u.A u.es.length u.c], own 73 3 u.A u.es.length u.c (rowsE u.es), starA (datsE u.es), (⟨key, true, none, 0, []⟩ : EntG).dat]) (R := []) (X := BufG) (v := fun _ => wV e most sectors true u.es key) (pf := fun x => x.es = wRes most sectors true u.es ⟨key, true, none, 0, []⟩) (M' := fun x => [blk b 141 #[.int .i64 size, .int .i64 most, .int .i64 sectors, .slice x.A x.es.length x.c], own 73 3 x.A x.es.length x.c (rowsE x.es), starA (datsE x.es)]) rfl rfl rfl rfl rfl (fun F' w' hR hM => wait_any e F' b size most sectors u ⟨key, true, none, 0, []⟩ true w' hn (fun w2 hf => hE1 _ ((hR w2 hf).fr)) (fun w2 hf => hE2 _ ((hR w2 hf).fr)) (fun w2 hf => hE3 _ ((hR w2 hf).fr)) hM) (fun _ _ _ => trivial) (fun x hx => ?_)
  refine s_as 4 rfl rfl ?_
  refine SX.next ?_
  refine CW.ret ?_
  exact KN.ret (rs := [.tmp 4]) Tryd.results52 rfl (fun w hw => ⟨x, rfl, hx, hw⟩)

theorem clear_spec (F : Nat → Prop) (b : Nat) (size most sectors : Int) (u : BufG) (w : World) (hw : St F w [blk b 141 #[.int .i64 size, .int .i64 most, .int .i64 sectors, .slice u.A u.es.length u.c], own 73 3 u.A u.es.length u.c (rowsE u.es), starA (datsE u.es)] w) : SpecP Tryd.prog 60 [.pointer (some ⟨b, 0, none⟩)] F w (X := Unit) (fun _ => oneOf []) (fun _ => True) (fun _ => [blk b 141 #[.int .i64 size, .int .i64 most, .int .i64 sectors, .slice (⟨none, 0, []⟩ : BufG).A (⟨none, 0, []⟩ : BufG).es.length (⟨none, 0, []⟩ : BufG).c], own 73 3 (⟨none, 0, []⟩ : BufG).A (⟨none, 0, []⟩ : BufG).es.length (⟨none, 0, []⟩ : BufG).c (rowsE (⟨none, 0, []⟩ : BufG).es), starA (datsE (⟨none, 0, []⟩ : BufG).es)]) := by
  refine spec_ofC Tryd.func60 rfl Tryd.ntmps60 rfl hw ?_
  refine CW.reg [0, 1, 2, 3] rfl ?_
  refine s_mv 2 rfl rfl ?_
  refine s_nil 3 rfl rfl ?_
  refine s_fa 4 rfl rfl ?_
  refine s_stB 0 rfl rfl rfl rfl rfl (by show 3 < 4; decide) (fun _ _ => trivial) ?_
  refine SX.end_ ?_
  exact KN.ret (rs := []) Tryd.results60 rfl (fun w hw => ⟨(), rfl, trivial, (((hw.pick [0] rfl).begin_ 73 3).nilStarS).pick [2, 1, 0] rfl⟩)

theorem get_some (b : Nat) (A : Option Addr) (c : Nat) (es : List EntG) (key : Int) (i : Nat) (en : EntG) (w : World) (hs : Has (sl 3 A es.length (rowsE es)) w) (hn : es.length ≤ 100000) (hb : w.cell? ⟨b, 3, none⟩ = some (.slice A es.length c)) (hd : ∀ e ∈ es, Has (sl 1 e.A e.l.length (nats .u8 e.l)) w) (hl : ∀ e ∈ es, e.l.length ≤ 1000000) (hpl : plI key es = (i : Nat)) (he : es[i]? = some en) : SpecX Tryd.prog 55 [.pointer (some ⟨b, 0, none⟩), .int .i64 key] w (X := Option Addr × Nat) (fun z => two (.agg #[.int .i64 en.k, .bool en.tr, .slice z.1 en.l.length z.2]) (.bool true)) (fun z => en.l.length ≤ z.2) (fun z => [own 5 1 z.1 en.l.length z.2 (nats .u8 en.l)]) := by
  have hil := (List.getElem?_eq_some_iff.1 he).1
  have hem := List.mem_of_getElem? he
  refine spec_of Tryd.func55 rfl Tryd.ntmps55 rfl ?_
  refine CW.seq ?_
  refine CW.reg [0, 1] rfl ?_
  refine s_alloc 4 rfl (fun _ _ => trivial) (fun b4 => ?_)
  refine s_as 5 rfl rfl ?_
  refine SX.next ?_
  refine CW.seq ?_
  refine CW.seq ?_
  refine CW.reg [0, 1, 2, 3] rfl ?_
  refine s_mv 7 rfl rfl ?_
  refine s_mv 8 rfl rfl ?_
  refine s_call1 9 rfl rfl rfl rfl (v := .int .i64 (i : Nat)) (fun w hw => by have := place_spec b A c es key w (hw.old hs) hn (hw.cell hb); rw [hpl] at this; exact this) (fun _ _ => trivial) ?_
  refine s_as 6 rfl rfl ?_
  refine SX.next ?_
  refine CW.seq ?_
  refine CW.reg [0, 1] rfl ?_
  refine s_mv 10 rfl rfl ?_
  refine s_ge 11 rfl rfl rfl (decide_eq_true (by omega)) ?_
  refine SX.next ?_
  refine CW.condT rfl ?_
  refine CW.seq ?_
  refine CW.reg [0, 1, 2, 3, 4, 5, 6, 7, 8, 9] rfl ?_
  refine s_mv 12 rfl rfl ?_
  refine s_nil 13 rfl rfl ?_
  refine s_fa 14 rfl rfl ?_
  refine s_ld 15 rfl rfl (fun _ hw => hw.cell hb) ?_
  refine s_mv 16 rfl rfl ?_
  refine s_iaV 17 i (fun w hw => hw.old hs) rfl rfl rfl rfl (by omega) ?_
  refine s_ldR 18 (cs := en.row) rfl rfl rfl (fun w hw => (hw.old hs).entRow he) ?_
  refine s_call 19 rfl rfl rfl rfl (fun w hw => copied_spec en w (hw.old (hd en hem)) (hl en hem)) (fun _ _ => trivial) (fun z hz => ?_)
  refine s_stAll 1 rfl rfl (by kernel_rfl) rfl rfl rfl rfl (fun _ _ => trivial) ?_
  refine s_as 5 rfl rfl ?_
  refine SX.next ?_
  refine CW.ret ?_
  exact KN.retC (rs := [.cell 4 73, .tmp 5]) Tryd.results55 (fun w hw => ⟨[_, _], ⟨⟨_, rfl, hw.ldRow (q := 1) rfl (by rfl)⟩, rfl, trivial⟩, ⟨z, rfl, hz, hw.pick [0] rfl⟩⟩)

theorem get_none (b : Nat) (A : Option Addr) (c : Nat) (es : List EntG) (key : Int) (w : World) (hs : Has (sl 3 A es.length (rowsE es)) w) (hn : es.length ≤ 100000) (hb : w.cell? ⟨b, 3, none⟩ = some (.slice A es.length c)) (hpl : plI key es = -1) : Spec1 Tryd.prog 55 [.pointer (some ⟨b, 0, none⟩), .int .i64 key] w (two (.agg #[.int .i64 0, .bool false, .slice none 0 0]) (.bool false)) := by
  refine spec_of Tryd.func55 rfl Tryd.ntmps55 rfl ?_
  refine CW.seq ?_
  refine CW.reg [0, 1] rfl ?_
  refine s_alloc 4 rfl (fun _ _ => trivial) (fun b4 => ?_)
  refine s_as 5 rfl rfl ?_
  refine SX.next ?_
  refine CW.seq ?_
  refine CW.seq ?_
  refine CW.reg [0, 1, 2, 3] rfl ?_
  refine s_mv 7 rfl rfl ?_
  refine s_mv 8 rfl rfl ?_
  refine s_call1 9 rfl rfl rfl rfl (v := .int .i64 (-1)) (fun w hw => by have := place_spec b A c es key w (hw.old hs) hn (hw.cell hb); rw [hpl] at this; exact this) (fun _ _ => trivial) ?_
  refine s_as 6 rfl rfl ?_
  refine SX.next ?_
  refine CW.seq ?_
  refine CW.reg [0, 1] rfl ?_
  refine s_mv 10 rfl rfl ?_
  refine s_ge 11 rfl rfl rfl (decide_eq_false (by omega)) ?_
  refine SX.next ?_
  refine CW.condF rfl ?_
  refine CW.skip ?_
  refine KN.code ?_
  refine CW.seq ?_
  refine CW.reg [0, 1, 2] rfl ?_
  refine s_build 20 rfl rfl (cells := #[.int .i64 0, .bool false, .slice none 0 0]) (by kernel_rfl) ?_
  refine s_stAll 0 rfl rfl (by kernel_rfl) rfl rfl rfl rfl (fun _ _ => trivial) ?_
  refine s_as 5 rfl rfl ?_
  refine SX.next ?_
  refine CW.ret ?_
  exact KN.retC (rs := [.cell 4 73, .tmp 5]) Tryd.results55 (fun w hw => ⟨[_, _], ⟨⟨_, rfl, hw.ldRow (q := 0) rfl (by rfl)⟩, rfl, trivial⟩, rfl, hw.nothing⟩)

theorem each_spec (b : Nat) (w : World) : SpecX Tryd.prog 59 [.pointer (some ⟨b, 0, none⟩)] w (X := Nat) (fun bx => .func (.func 105) #[] #[.pointer (some ⟨bx, 0, none⟩)]) (fun _ => True) (fun bx => [blk bx 69 #[.pointer (some ⟨b, 0, none⟩)]]) := by
  refine spec_of Tryd.func59 rfl Tryd.ntmps59 rfl ?_
  refine CW.seq ?_
  refine CW.reg [0, 1] rfl ?_
  refine s_box 1 rfl rfl (fun _ _ => trivial) (fun bx => ?_)
  refine s_as 2 rfl rfl ?_
  refine SX.next ?_
  refine CW.seq ?_
  refine CW.reg [0, 1] rfl ?_
  refine s_mkf 3 rfl rfl rfl ?_
  refine s_as 2 rfl rfl ?_
  refine SX.next ?_
  refine CW.ret ?_
  exact KN.ret (rs := [.tmp 2]) Tryd.results59 rfl (fun w hw => ⟨bx, rfl, trivial, hw⟩)
end Go.Proofs.YtcdmmfpgeagimaaDoor
end
section
/- Range over func, last part: a function value against nil, the way out where the results lie in memory, and the marks' blocks as one atom. No condition. -/
namespace Go.Sx
open Go
section
variable {P : Program} {ops : Array Oper} {S : World → Prop} {K : Act → World → Prop} {p : Plan} {n : Nat} {l : List (Nat × Value)} {i : Nat} {ty ty2 ty' : TypeId} {x : Operand} {C : World → Prop} {fl : Bool}
theorem eqGuard_func (op : BinOp) (T : TypeId) (x y : Operand) (f : Fn) (fs cs : Array Value) (b : Value) {w : World} : (eqGuard op T x y (.func f fs cs) b).run P w = .ok () w := by
  unfold eqGuard
  cases op <;> first | rfl | (cases b <;> rfl)
def isFuncT : Option TypeDesc → Bool
  | some (.func _ _ _) => true
  | _ => false
theorem s_eqF (d : Nat) {f : FuncId} {fs cs : Array Value} (ho : opAt ops n l i = some (some d, .binOp .eql ty x (.const .nilFunc) ty', ty2)) (hT : isFuncT (P.underlying ty) = true) (hx : ev l x = some (.func (.func f) fs cs)) (h : SX P ops S K p n ((d, .bool false) :: l) C) : SX P ops S K (.st fl i p) n l C :=
  SX.pure ho (fun a w o he h1 _ => by
    obtain ⟨t1, t2, t3, hu⟩ : ∃ a b c, P.underlying ty = some (.func a b c) := by
      unfold isFuncT at hT
      split at hT
      · exact ⟨_, _, _, by assumption⟩
      · cases hT
    have e1 : a.eval (.const .nilFunc) = .nilFunc := rfl
    have e2 : (binOp .eql ty (.func (.func f) fs cs) .nilFunc).run P w = .ok (.bool false) w := by
      simp only [binOp, Op.equal, Op.maxDepth, Sem.run_bind]
      rw [Op.equalIn]
      simp [run_underlying hu]
    simp only [execOp, h1, he.ev hx, e1, Sem.run_bind, eqGuard_func, e2, Result.andThen_ok, Sem.run_pure]) h
end
section
variable {P : Program} {F : Nat → Prop} {w₀ w : World} {X Y L : List Atom} {n : Nat} {ds : List Deferred} {l : List (Nat × Value)}
theorem St.nilStar (h : St F w₀ X w) : St F w₀ (X ++ [starA []]) w := St.starLast.1 (by rwa [List.append_nil])
theorem St.markStar {A : Atom} (h : St F w₀ (A :: starA X :: Y) w) : St F w₀ (starA (A :: X) :: Y) w := by
  have h1 : St F w₀ (starA X :: (A :: Y)) w := h.perm (List.Perm.swap ..)
  have h2 := (St.star X).2 h1
  exact (St.star (A :: X)).1 (h2.perm List.perm_middle)
theorem retMC {fn : Func} {R : Ending → World → Prop} {C : World → Prop} {rs : List ResultVar} {L : List Atom} (Ds : List Nat) (hds : ds = Ds.map mark) (hr : fn.results = rs.toArray)
    (hC : ∀ w, C w → Sto w₀ (Ds.map defB ++ L) w) (h : ∀ w, Sto w₀ L w → ∃ vs, ResAt P l w rs vs ∧ R (.returned (oneOf vs)) w) : ∀ a w, EnvD n ds l a → C w → bodyPostM Fence.wide 0 P fn R .ret a w := by
  intro a w he hc
  show LeavesInM Fence.wide 0 P fn a.tmps R a.defers .returning w
  rw [he.defers, hds]
  refine leaves_marks (L := L) (fun w' hw' => ?_) Ds w (hC w hc)
  obtain ⟨_, v, h1, h2⟩ := (KN.retC (C := fun v => Sto w₀ L v) hr h : KN P (Rets fn R P) [] n l (fun v => Sto w₀ L v)).run _ w' he.env hw'
  exact ⟨v, h1, h2⟩
end
end Go.Sx
end
section
/- Range over func where each round's values come with memory of their own: an iterator that hands over what it made. No condition. -/
namespace Go.Sx
open Go
/-- What a call of yield does, of round i, at any values of that round: their memory goes to the consumer. -/
def YieldOKX (P : Program) (w₀ : World) (lr : Nat) {X : Type} (vals : Nat → X → List Value) (px : Nat → X → Prop) (VA : Nat → X → List Atom) (N : Nat) (J Jx : Nat → Atom) : Prop :=
  ∀ i, i < N → ∀ x, px i x → ∀ A w, Sto w₀ (J i :: (VA i x ++ A)) w → ∃ fn tmps assign body, (Instr.yield lr (vals i x).toArray).run P w = .ok (.round lr fn tmps assign body) w ∧
    RoundIn Fence.wide 0 P lr fn tmps assign body w (fun e w' => ∃ b : Bool, e = .returned (.bool b) ∧ Sto w₀ ((if b then J (i + 1) else Jx (i + 1)) :: A) w')
/-- An iterator that tells N values, and keeps its part. -/
def IterX (P : Program) (w₀ : World) (gf : FuncId) (lb : List Value) (B : List Atom) {X : Type} (vals : Nat → X → List Value) (px : Nat → X → Prop) (VA : Nat → X → List Atom) (N : Nat) : Prop :=
  ∀ (lr : Nat) (J Jx : Nat → Atom) (R : Atom) (w : World), YieldOKX P w₀ lr vals px VA N J Jx → Sto w₀ (J 0 :: (B ++ [R])) w →
    Calls P gf (.func (.yield lr) #[] #[] :: lb).toArray w (fun e w' => ∃ v, e = .returned v ∧ (Sto w₀ (J N :: (B ++ [R])) w' ∨ ∃ i, i < N ∧ Sto w₀ (Jx (i + 1) :: (B ++ [R])) w'))
section
variable {P : Program} {ops : Array Oper} {S : World → Prop} {K : Act → World → Prop} {p : Plan} {n : Nat} {ds : List Deferred} {l : List (Nat × Value)} {i : Nat} {ty : TypeId} {x : Operand} {w₀ : World} {A : List Atom}
/-- 'is' brings the consumer's part and the values' to the head. -/
theorem s_yieldX (d : Nat) (is : List Nat) {R : List Atom} {as1 : Array Operand} {ts : Array TypeId} {lr : Nat} {X : Type} {vals : Nat → X → List Value} {px : Nat → X → Prop} {VA : Nat → X → List Atom} {N i₀ : Nat} (x₀ : X) {J Jx : Nat → Atom} (hY : YieldOKX P w₀ lr vals px VA N J Jx) (hi : i₀ < N) (hx0 : px i₀ x₀)
    (hJ : picks A is = some (J i₀ :: (VA i₀ x₀ ++ R)))
    (ho : opAt ops n l i = some (some d, .call ⟨.value x, as1, ts⟩, ty)) (hx : ev l x = some (.func (.yield lr) #[] #[])) (has : evs l as1.toList = some (vals i₀ x₀)) (hS : ∀ B w, Sto w₀ (B :: R) w → S w)
    (h1 : SXI P ops S K p n ds ((d, .bool true) :: l) (Sto w₀ (J (i₀ + 1) :: R))) (h2 : SXI P ops S K p n ds ((d, .bool false) :: l) (Sto w₀ (Jx (i₀ + 1) :: R))) :
    SXI P ops S K (.st false i p) n ds l (Sto w₀ A) := by
  refine SXI.yield (v := fun b : Bool => .bool b) (pf := fun _ => True) (C' := fun b => Sto w₀ ((if b then J (i₀ + 1) else Jx (i₀ + 1)) :: R)) ho (fun a w o he hc h3 _ => ?_) (fun b w hw => hS _ w hw) (fun b _ => ?_)
  · have hc' : Sto w₀ (J i₀ :: (VA i₀ x₀ ++ R)) w := hc.pick is hJ
    obtain ⟨fn, tmps, assign, body, hr, hR⟩ := hY i₀ hi x₀ hx0 _ w hc'
    refine ⟨lr, fn, tmps, assign, body, w, ?_, RoundIn.mono hR (fun e w' ⟨b, he, hs⟩ => ⟨b, he, trivial, hs⟩)⟩
    have e1 : as1.map a.eval = (vals i₀ x₀).toArray := by apply Array.ext'; rw [Array.toList_map]; exact he.evs has
    simp only [execOp, h3, resolve, e1, he.ev hx, Deferred.ofValue, Sem.run_bind, Sem.run_pure, Result.andThen_ok, invoke, Array.empty_append]
    exact hr
  · cases b with
    | true => exact h1
    | false => exact h2
end
section
variable {P : Program} {Rx : Exit → Act → World → Prop} {k : List KI} {n : Nat} {ds : List Deferred} {l : List (Nat × Value)} {w₀ : World} {A : List Atom}

theorem CWI.rangeFuncX {G GX X : Type} (LJ : Nat → G → List Atom) (pJ : Nat → G → Prop) (LX : Nat → GX → List Atom) (pX : Nat → GX → Prop) (jx : GX → Code) (g₀ : G) (LB LR : List Atom) (lbod : Nat → X → List (Nat × Value))
    {g : Operand} {ps : Array Tmp} {assign body : Code} {gf : FuncId} {lb : List Value} {vals : Nat → X → List Value} {px : Nat → X → Prop} {VA : Nat → X → List Atom} {N : Nat}
    (hg : ev l g = some (.func (.func gf) #[] lb.toArray)) [hgf : Enters P gf] (hit : IterX P w₀ gf lb LB vals px VA N)
    (is : List Nat) (hpick : picks A is = some (LJ 0 g₀ ++ (LB ++ LR))) (hp0 : pJ 0 g₀) (hps : ∀ i x, (vals i x).length = ps.size) (hpn : ∀ q ∈ ps.toList, q < n)
    (hassign : ∀ (lr i : Nat) (x : X) (C : World → Prop), i < N → px i x → CWI P (some lr) (fun _ _ _ => False) [.lp (fun a w => EnvD n [] (lbod i x) a ∧ C w)] assign n [] (insAll l (ps.toList.zip (vals i x))) C)
    (hbody : ∀ (lr : Nat) (T : Atom) (i : Nat) (g : G) (x : X), i < N → pJ i g → px i x → CWI P (some lr) (RPost w₀ T LJ pJ LX pX jx (i + 1)) [] body n [] (lbod i x) (Sto w₀ (VA i x ++ (LJ i g ++ [T]))))
    (hdone : ∀ (D : Nat) (g : G), pJ N g → KNI P none Rx k n (mark D :: ds) l (Sto w₀ (defB D :: (LJ N g ++ (LB ++ LR)))))
    (hstop : ∀ (D i : Nat) (g : GX), i < N → pX (i + 1) g → CWI P none Rx k (jx g) n (mark D :: ds) l (Sto w₀ (defB D :: (LX (i + 1) g ++ (LB ++ LR))))) :
    CWI P none Rx k (.rangeFunc g ps assign body) n ds l (Sto w₀ A) := by
  refine ⟨fun a w he hc => wpIn_rangeFunc (F := fw none) (fun fn _ => ?_)⟩
  obtain ⟨rec, hrec⟩ : ∃ rec : LoopState → Option Code → Loop, rec = fun st pe => { state := st, pending := pe, fn, tmps := a.tmps, params := ps, assign, body, defers := w.heap.size } := ⟨_, rfl⟩
  obtain ⟨w1, hw1⟩ : ∃ w1, (w.alloc (.deferred (some []))).alloc (.loop (rec .ready none)) = w1 := ⟨_, rfl⟩
  have hst : Sto w₀ (objB (w.heap.size + 1) (.loop (rec .ready none)) :: defB w.heap.size :: (LJ 0 g₀ ++ (LB ++ LR))) w1 := by
    have h2 := ((hc.pick is hpick).allocO (.deferred (some []))).allocO (.loop (rec .ready none))
    rw [hw1, World.size_alloc] at h2
    exact h2
  let J : Nat → Atom := fun i => exA (fun g : { g : G // pJ i g } => starA (objB (w.heap.size + 1) (.loop (rec .ready none)) :: defB w.heap.size :: LJ i g.1))
  let Jx : Nat → Atom := fun i => exA (fun g : { g : GX // pX i g } => starA (objB (w.heap.size + 1) (.loop (rec .done (some (jx g.1)))) :: defB w.heap.size :: LX i g.1))
  have hY : YieldOKX P w₀ (w.heap.size + 1) vals px VA N J Jx := by
    intro i hi x hpx A' w' hJ
    obtain ⟨⟨g, hgp⟩, hJ⟩ := St.exA.1 hJ
    have hJ := (St.star _).2 hJ
    have hl := St.objAt hJ
    have hy := run_yield (P := P) (args := (vals i x).toArray) hl (by rw [hrec]; simpa using hps i x)
    rw [hrec] at hy
    refine ⟨fn, _, assign, body, hy, roundIn_of_wpIn (F := Fence.wide) trivial ?_⟩
    have hz : (ps.zip (vals i x).toArray).foldl (fun tmps (x : Tmp × Value) => tmps.setIfInBounds x.1 x.2) a.tmps = (ps.toList.zip (vals i x)).foldl (fun t (pv : Nat × Value) => t.setIfInBounds pv.1 pv.2) a.tmps := by
      rw [← Array.foldl_toList, Array.toList_zip]
    have hen : EnvD n [] (insAll l (ps.toList.zip (vals i x))) { tmps := (ps.zip (vals i x).toArray).foldl (fun tmps (x : Tmp × Value) => tmps.setIfInBounds x.1 x.2) a.tmps, defers := [] } := by
      refine ⟨?_, rfl⟩
      have := Env.insAll (ps.toList.zip (vals i x)) he.env (fun pv hpv => hpn _ (List.of_mem_zip hpv).1)
      rw [hz]; exact this
    refine wpIn_mono ((hassign (w.heap.size + 1) i x _ hi hpx).run _ w' hen hJ) ?_
    intro e a1 w2 hk
    cases e with
    | normal =>
      obtain ⟨hea, hc2⟩ := hk
      have hl2 := St.objAt hc2
      refine ⟨_, run_beginRound hl2 (by rw [hrec]), ?_⟩
      have hc3 := St.putO (.loop { rec .ready none with state := .busy }) hc2
      let T : Atom := starA (objB (w.heap.size + 1) (.loop { rec .ready none with state := .busy }) :: defB w.heap.size :: A')
      have hT : ∀ (X : List Atom) (v : World), Sto w₀ (X ++ [T]) v ↔ Sto w₀ (objB (w.heap.size + 1) (.loop { rec .ready none with state := .busy }) :: (defB w.heap.size :: X ++ A')) v := by
        intro X v
        refine ⟨fun h => St.perm ?_ (St.starLast.2 h), fun h => St.starLast.1 (St.perm ?_ h)⟩
        · refine List.perm_middle.trans (List.Perm.cons _ ?_)
          exact List.perm_middle
        · refine (List.Perm.trans (List.Perm.cons _ ?_) List.perm_middle.symm)
          exact List.perm_middle.symm
      have hperm : (objB (w.heap.size + 1) (.loop { rec .ready none with state := .busy }) :: (defB w.heap.size :: (LJ i g ++ (VA i x ++ A')))).Perm (objB (w.heap.size + 1) (.loop { rec .ready none with state := .busy }) :: (defB w.heap.size :: (VA i x ++ LJ i g) ++ A')) := by
        refine List.Perm.cons _ (List.Perm.cons _ ?_)
        rw [← List.append_assoc]
        exact List.Perm.append_right A' List.perm_append_comm
      have hb := (hbody (w.heap.size + 1) T i g x hi hgp hpx).run a1 _ hea (by rw [← List.append_assoc]; exact (hT (VA i x ++ LJ i g) _).2 (St.perm hperm hc3))
      refine wpIn_mono hb (fun e a3 w3 hk => ?_)
      have fin : ∀ (jump : Option Code) (X : List Atom), Sto w₀ (X ++ [T]) w3 → ∃ v w', (Instr.endRound (w.heap.size + 1) jump).run P w3 = .ok v w' ∧ v = .bool jump.isNone ∧
          Sto w₀ (starA (objB (w.heap.size + 1) (.loop (rec (if jump.isNone then .ready else .done) jump)) :: defB w.heap.size :: X) :: A') w' := by
        intro jump X h3
        have h4 := (hT _ _).1 h3
        have h5 := run_endRound (P := P) jump (St.objAt h4)
        refine ⟨_, _, h5, rfl, (St.star _).1 ?_⟩
        have h6 := St.putO (.loop { rec .ready none with state := if jump.isNone then .ready else .done, pending := jump }) h4
        rw [hrec] at h6 ⊢
        exact h6
      cases e with
      | normal =>
        obtain ⟨g', hp', hs'⟩ := hk
        obtain ⟨v, w', h5, rfl, h6⟩ := fin none _ hs'
        exact ⟨_, w', h5, true, rfl, St.exA.2 ⟨⟨g', hp'⟩, h6⟩⟩
      | ret =>
        obtain ⟨g', hp', hj, hs'⟩ := hk
        obtain ⟨v, w', h5, rfl, h6⟩ := fin (some .ret) _ hs'
        exact ⟨_, w', h5, false, rfl, St.exA.2 ⟨⟨g', hp'⟩, by rw [hj]; exact h6⟩⟩
      | exit id =>
        obtain ⟨g', hp', hj, hs'⟩ := hk
        obtain ⟨v, w', h5, rfl, h6⟩ := fin (some (.exit id)) _ hs'
        exact ⟨_, w', h5, false, rfl, St.exA.2 ⟨⟨g', hp'⟩, by rw [hj]; exact h6⟩⟩
      | goto t => exact hk.elim
      | panic c => exact hk.elim
      | outgrown => exact hk.elim
    | exit id => exact hk.elim
    | goto t => exact hk.elim
    | ret => exact hk.elim
    | panic c => exact hk.elim
    | outgrown => exact hk.elim
  refine ⟨w.heap.size + 1, [mark w.heap.size], w1, { target := .fn (.func gf) lb.toArray, args := #[.func (.yield (w.heap.size + 1)) #[] #[]] }, w1, gf, (.func (.yield (w.heap.size + 1)) #[] #[] :: lb).toArray, w1, ?_, ?_, fun _ _ => trivial, ?_, fun h => by simp [Fence.wide] at h, ?_⟩
  · rw [← hw1, hrec]; exact run_enterLoop_outer _ _ _ _ _
  · simp only [resolve, he.ev hg]
    simp [Deferred.ofValue, go_sem]
  · simp only [invoke]
    have : #[Value.func (.yield (w.heap.size + 1)) #[] #[]] ++ lb.toArray = (.func (.yield (w.heap.size + 1)) #[] #[] :: lb).toArray := by simp
    rw [this]
    exact hgf.run _ _
  · refine CallsIn.mono (F := fw none) ((callsIn_wide (n := 0)).2 (hit (w.heap.size + 1) J Jx (starA LR) w1 hY ?_)) ?_
    · refine (St.exA (f := fun g : { g : G // pJ 0 g } => starA (objB (w.heap.size + 1) (.loop (rec .ready none)) :: defB w.heap.size :: LJ 0 g.1))).2 ⟨⟨g₀, hp0⟩, ?_⟩
      exact (St.starLast (X := starA (objB (w.heap.size + 1) (.loop (rec .ready none)) :: defB w.heap.size :: LJ 0 g₀) :: LB)).1 ((St.star (objB (w.heap.size + 1) (.loop (rec .ready none)) :: defB w.heap.size :: LJ 0 g₀)).1 hst)
    · have hea : EnvD n (mark w.heap.size :: ds) l { a with defers := [mark w.heap.size] ++ a.defers } := ⟨he.env, by rw [he.defers]; rfl⟩
      rintro e w' ⟨v, rfl, h | ⟨i, hi, h⟩⟩
      · obtain ⟨⟨g, hgp⟩, h⟩ := St.exA.1 h
        have h := (St.star _).2 ((St.starLast (X := starA _ :: LB)).2 h)
        have hl := St.objAt h
        refine ⟨_, _, run_endLoop hl (by rw [hrec]; simp), ?_⟩
        have h2 := (St.putO (.loop { rec .ready none with state := .exhausted }) h).tail
        rw [hrec] at h2 ⊢
        exact (hdone _ g hgp).run _ _ hea h2
      · obtain ⟨⟨g, hgp⟩, h⟩ := St.exA.1 h
        have h := (St.star _).2 ((St.starLast (X := starA _ :: LB)).2 h)
        have hl := St.objAt h
        refine ⟨_, _, run_endLoop hl (by rw [hrec]; simp), ?_⟩
        have h2 := (St.putO (.loop { rec .done (some (jx g)) with state := .exhausted }) h).tail
        rw [hrec] at h2 ⊢
        exact (hstop _ i g hi hgp).run _ _ hea h2

end
end Go.Sx
end
section
/- The contracts of package binpoly: sums and products. Conditions: the lists are bytes, read where they lie. -/
namespace Go.Proofs.YtcdmmfpgeagimaaDoor
open Go Go.Lib Go.Sx Go.Fm
set_option maxRecDepth 100000
theorem ints_tabN (k : IntKind) (n : Nat) (f : Nat → Nat) : ints k (tabN n f) = nats k ((List.range n).map f) := by simp [ints, tabN, tab, nats]
theorem shr_two (x s : Nat) : (x >>> s) % 2 = (x.testBit s).toNat := by
  rw [Nat.testBit_eq_decide_div_mod_eq, Nat.shiftRight_eq_div_pow]
  rcases Nat.mod_two_eq_zero_or_one (x / 2 ^ s) with h | h <;> rw [h] <;> simp
theorem shr_xor (x y s : Nat) : ((x ^^^ y) >>> s) % 2 = ((x >>> s) % 2) ^^^ ((y >>> s) % 2) := by
  rw [shr_two, shr_two, shr_two, Nat.testBit_xor]
  cases x.testBit s <;> cases y.testBit s <;> rfl
/-- The sum, byte by byte. -/
def baF (a b : List Nat) (i j : Nat) : Nat := if j < i then cf a j ^^^ cf b j else cf a j
theorem baF_next (a b : List Nat) (i : Nat) : (fun j => if j = i then cf a i ^^^ cf b i else baF a b i j) = baF a b (i + 1) := by
  funext j
  unfold baF
  by_cases h : j = i
  · subst h; simp
  · rw [if_neg h]
    by_cases h2 : j < i
    · rw [if_pos h2, if_pos (by omega)]
    · rw [if_neg h2, if_neg (by omega)]
theorem xor8 {a b : Nat} (ha : a < 256) (hb : b < 256) : a ^^^ b < 256 := Nat.xor_lt_two_pow (n := 8) ha hb
theorem baF_lt {a b : List Nat} (ha : ∀ x ∈ a, x < 256) (hb : ∀ x ∈ b, x < 256) (i : Nat) : ∀ x ∈ (List.range a.length).map (baF a b i), x < 256 := fun x hx => by
  obtain ⟨j, _, rfl⟩ := List.mem_map.1 hx
  unfold baF
  split
  · exact xor8 (cf_lt8 ha j) (cf_lt8 hb j)
  · exact cf_lt8 ha j
theorem badd_all {a b : List Nat} (ha : ∀ x ∈ a, x < 256) (hb : ∀ x ∈ b, x < 256) (hl : b.length ≤ a.length) : trim ((List.range a.length).map (baF a b b.length)) = bys (addP (bl a) (bl b)) :=
  bys_of (baF_lt ha hb _) (addP_b1 (bl_b1 a) (bl_b1 b)) (fun j => by
    rw [cf_addP, cf_bl, cf_bl]
    unfold bitN
    rw [cf_range]
    split
    · unfold baF
      split
      · exact shr_xor _ _ _
      · rw [cf_out (l := b) (by omega)]
        simp
    · rw [cf_out (l := a) (by omega), cf_out (l := b) (by omega)]
      simp)
/-- A list of bytes in memory. -/
structure BlG where
  A : Option Addr
  c : Nat
  l : List Nat
structure BaddG (w : World) (a b : List Nat) (q : BlG × BlG) : Prop where
  h1 : Has (sl 1 q.1.A q.1.l.length (nats .u8 q.1.l)) w
  h2 : Has (sl 1 q.2.A q.2.l.length (nats .u8 q.2.l)) w
  b1 : ∀ x ∈ q.1.l, x < 256
  b2 : ∀ x ∈ q.2.l, x < 256
  le : q.2.l.length ≤ q.1.l.length
  bd : q.1.l.length ≤ 1073741824
  eq : addP (bl q.1.l) (bl q.2.l) = addP (bl a) (bl b)

theorem badd_spec (A : Option Addr) (n c : Nat) (p : List Nat) (A2 : Option Addr) (n2 c2 : Nat) (p2 : List Nat) (w : World) (ha : Has (sl 1 A n (nats .u8 p)) w) (hp : ∀ x ∈ p, x < 256) (hn : n ≤ 1073741824) (hcp : n ≤ c) (ha2 : Has (sl 1 A2 n2 (nats .u8 p2)) w) (hp2 : ∀ x ∈ p2, x < 256) (hn2 : n2 ≤ 1073741824) (hcp2 : n2 ≤ c2) : SpecB Tryd.prog 29 [.slice A n c, .slice A2 n2 c2] w (bys (addP (bl p) (bl p2))) := by
  have hla := nats_len ha
  subst hla
  have hla2 := nats_len ha2
  subst hla2
  refine spec_of Tryd.func29 rfl Tryd.ntmps29 rfl ?_
  refine CW.seq ?_
  refine CW.reg [0] rfl ?_
  refine s_as 4 rfl rfl ?_
  refine SX.next ?_
  refine CW.cut (G := BlG × BlG) (fun q => [(0, .slice q.1.A q.1.l.length q.1.c), (1, .slice q.2.A q.2.l.length q.2.c)]) (fun _ => Sto w []) (BaddG w p p2) ?_ ?_
  · skip
    refine CW.seq ?_
    refine CW.reg [0, 1, 2, 3, 4] rfl ?_
    refine s_mv 8 rfl rfl ?_
    refine s_len 9 rfl rfl ?_
    refine s_mv 10 rfl rfl ?_
    refine s_len 11 rfl rfl ?_
    refine s_lt 12 rfl rfl rfl rfl ?_
    refine SX.next ?_
    refine CW.test rfl (fun hc => ?_) (fun hc => ?_)
    · skip
      refine CW.reg [0, 1, 2, 3] rfl ?_
      refine s_mv 13 rfl rfl ?_
      refine s_mv 14 rfl rfl ?_
      refine s_as 0 rfl rfl ?_
      refine s_as 1 rfl rfl ?_
      refine SX.end_ ?_
      exact KN.join (⟨A2, c2, p2⟩, ⟨A, c, p⟩) ⟨rfl, rfl, trivial⟩ (fun _ h => h) ⟨ha2, ha, hp2, hp, by simp only; omega, hn2, addP_comm _ _⟩
    · skip
      refine CW.skip ?_
      exact KN.join (⟨A, c, p⟩, ⟨A2, c2, p2⟩) ⟨rfl, rfl, trivial⟩ (fun _ h => h) ⟨ha, ha2, hp, hp2, by simp only; omega, hn, rfl⟩
  · skip
    rintro ⟨⟨A3, c3, l3⟩, ⟨A4, c4, l4⟩⟩ ⟨h3, h4, b3, b4, hle, hbd, heq⟩
    simp only at h3 h4 b3 b4 hle hbd heq
    refine CW.seq ?_
    refine CW.reg [0, 1, 2] rfl ?_
    refine s_mv 15 rfl rfl ?_
    refine s_app0 16 (m2 := l3.length) rfl rfl rfl (ys := nats .u8 l3) (fun w hw => hw.old h3) (nats_one _ _) rfl (by omega) (by unfold maxLen; omega) (by omega) (fun _ _ _ _ => trivial) (fun A5 c5 hc5 => ?_)
    refine s_as 5 rfl rfl ?_
    refine SX.next ?_
    refine CW.seq ?_
    refine CW.seq ?_
    refine CW.reg [0, 1, 2] rfl ?_
    refine s_mv 17 rfl rfl ?_
    refine s_len 18 rfl rfl ?_
    refine s_mv 19 rfl rfl ?_
    refine SX.next ?_
    refine CW.block ?_
    refine CW.loop (G := Nat) (fun i => [(5, .slice A5 l3.length c5), (17, .slice A4 l4.length c4), (18, .int .i64 (l4.length : Nat)), (19, .int .i64 (i : Nat))]) (fun i => Sto w [own 5 1 A5 l3.length c5 (ints .u8 (tabN l3.length (baF l3 l4 i)))]) (fun i => i ≤ l4.length) (fun i => l4.length - i) 0 ⟨rfl, rfl, rfl, rfl, trivial⟩ (fun _ h => by rw [show ints .u8 (tabN l3.length (baF l3 l4 0)) = nats .u8 l3 from (nats_tabN _ _).symm]; exact h) (Nat.zero_le _) ?_
    intro i hi
    refine CW.seq ?_
    refine CW.reg [0] rfl ?_
    refine s_lt 20 rfl rfl rfl rfl ?_
    refine SX.next ?_
    refine CW.seq ?_
    refine CW.test rfl (fun hc => ?_) (fun hc => ?_)
    · skip
      refine CW.skip ?_
      refine KN.code ?_
      refine CW.seq ?_
      refine CW.block ?_
      refine CW.seq ?_
      refine CW.reg [0, 1, 2, 3, 4] rfl ?_
      refine s_mv 21 rfl rfl ?_
      refine s_iaV 22 i (fun w hw => hw.old h4) rfl rfl rfl rfl (by omega) ?_
      refine s_ldV 23 (fun w hw => hw.old h4) rfl rfl (by rw [Nat.mul_one]; exact natsAt8 (by omega)) (by omega) ?_
      refine s_as 6 rfl rfl ?_
      refine s_as 7 rfl rfl ?_
      refine SX.next ?_
      refine CW.reg [0, 1, 2, 3, 4, 5, 6, 7] rfl ?_
      refine s_mv 24 rfl rfl ?_
      refine s_mv 25 rfl rfl ?_
      refine s_iaO 26 0 i rfl rfl rfl rfl rfl (by omega) ?_
      refine s_ldO 27 0 rfl rfl rfl (v := .int .u8 (cf l3 i : Nat)) (by rw [tabN_at (by omega), baF, if_neg (by omega)]) ?_
      refine s_mv 28 rfl rfl ?_
      refine s_bit 29 rfl rfl rfl rfl (ibit_xor_u8 (cf_lt8 b3 _) (cf_lt8 b4 _)) ?_
      refine s_iaO 30 0 i rfl rfl rfl rfl rfl (by omega) ?_
      refine s_stO 0 rfl rfl rfl rfl rfl (by omega) (fun _ _ => trivial) ?_
      refine SX.end_ ?_
      refine KN.blk ?_
      refine KN.code ?_
      refine CW.reg [0, 1] rfl ?_
      refine s_add 31 rfl rfl rfl (r := ((i + 1 : Nat) : Int)) (w64 (by omega)) ?_
      refine s_mv 19 rfl rfl ?_
      refine SX.end_ ?_
      exact KN.back (i + 1) ⟨rfl, rfl, rfl, rfl, trivial⟩ (fun _ h => by rw [← baF_next, ← tabN_setL]; exact h) (by omega) (by omega)
    · skip
      obtain rfl : i = l4.length := by omega
      refine CW.exit rfl ?_
      refine KN.code ?_
      refine CW.seq ?_
      refine CW.reg [0, 1, 2] rfl ?_
      refine s_mv 32 rfl rfl ?_
      refine s_call 33 rfl rfl rfl rfl (fun w hw => by have := trimmed_spec A5 l3.length c5 ((List.range l3.length).map (baF l3 l4 l4.length)) w (Has.cong ((hw.has (i := 0) rfl).of_own) (ints_tabN _ _ _)) (baF_lt b3 b4 _) (by omega) hc5; rw [badd_all b3 b4 hle, heq] at this; exact this) (fun _ _ => trivial) (fun q hq => ?_)
      refine s_as 4 rfl rfl ?_
      refine SX.next ?_
      refine CW.ret ?_
      exact KN.ret (rs := [.tmp 4]) Tryd.results29 rfl (fun w hw => ⟨q, rfl, hq, hw.pick [0] rfl⟩)

/-! ### Into the caller's bytes -/
theorem cf_set {l : List Nat} {i v : Nat} (hi : i < l.length) (j : Nat) : cf (l.set i v) j = if j = i then v else cf l j := by
  unfold cf
  simp only [List.getD_eq_getElem?_getD]
  rw [List.getElem?_set]
  by_cases h : i = j
  · subst h; rw [if_pos rfl, if_pos hi, if_pos rfl]; rfl
  · rw [if_neg h, if_neg (fun e => h e.symm)]
theorem set_lt {l : List Nat} {i v b : Nat} (hl : ∀ x ∈ l, x < b) (hv : v < b) : ∀ x ∈ l.set i v, x < b := fun x hx => by
  rcases List.mem_or_eq_of_mem_set hx with h | rfl
  · exact hl x h
  · exact hv
theorem nats_set (k : IntKind) (l : List Nat) (i v : Nat) : (nats k l).set i (.int k (v : Nat)) = nats k (l.set i v) := by simp [nats, List.map_set]
/-- What is laid into bytes, so far. -/
structure IntoG (o q : List Nat) (n : Nat) (z : Nat × List Nat) : Prop where
  le : z.1 ≤ q.length
  len : z.2.length = o.length
  lt : ∀ x ∈ z.2, x < 256
  bit : ∀ j, bitN z.2 j = bitN o j ^^^ (if n ≤ j ∧ j < n + 8 * z.1 then bitN q (j - n) else 0)
theorem IntoG.start {o : List Nat} (ho : ∀ x ∈ o, x < 256) (q : List Nat) (n : Nat) : IntoG o q n (0, o) := ⟨Nat.zero_le _, rfl, ho, fun j => by simp only; rw [if_neg (by omega), Nat.xor_zero]⟩
def lo8 (c n : Nat) : Nat := c * 2 ^ (n % 8) % 256
def hi8 (c n : Nat) : Nat := c >>> (8 - n % 8)
theorem lo8_test (c n s : Nat) (hs : s < 8) : ((lo8 c n) >>> s) % 2 = if n % 8 ≤ s then (c >>> (s - n % 8)) % 2 else 0 := by
  unfold lo8
  rw [shr_two, show (256 : Nat) = 2 ^ 8 from rfl, Nat.testBit_mod_two_pow, decide_eq_true hs, Bool.true_and, Nat.mul_comm, Nat.testBit_two_pow_mul]
  split
  · rename_i h
    rw [decide_eq_true h, Bool.true_and, shr_two]
  · rename_i h
    rw [decide_eq_false h]
    rfl
theorem hi8_test {c : Nat} (hc : c < 256) (n s : Nat) : ((hi8 c n) >>> s) % 2 = if s < n % 8 then (c >>> (s + 8 - n % 8)) % 2 else 0 := by
  unfold hi8
  rw [← Nat.shiftRight_add]
  split
  · rw [show 8 - n % 8 + s = s + 8 - n % 8 by omega]
  · have : c < 2 ^ (8 - n % 8 + s) := Nat.lt_of_lt_of_le hc (Nat.pow_le_pow_right (n := 2) (by omega) (show 8 ≤ _ by omega))
    rw [Nat.shiftRight_eq_div_pow, Nat.div_eq_of_lt this]
theorem IntoG.next {o q L L2 : List Nat} {n i : Nat} (h : IntoG o q n (i, L)) (hq : ∀ x ∈ q, x < 256) (hi : i < q.length) (hlen : L2.length = L.length) (hlt : ∀ x ∈ L2, x < 256)
    (h2 : ∀ k, cf L2 k = (if k = i + n / 8 then cf L k ^^^ lo8 (cf q i) n else if k = i + n / 8 + 1 then cf L k ^^^ hi8 (cf q i) n else cf L k)) : IntoG o q n (i + 1, L2) := by
  obtain ⟨h3, h4, h5, h6⟩ := h
  simp only at h3 h4 h5 h6
  refine ⟨hi, by simp only; omega, hlt, fun j => ?_⟩
  simp only
  have hc := cf_lt8 hq i
  have key : bitN L2 j = bitN L j ^^^ (if n + 8 * i ≤ j ∧ j < n + 8 * (i + 1) then bitN q (j - n) else 0) := by
    unfold bitN
    rw [h2]
    by_cases k1 : j / 8 = i + n / 8
    · rw [if_pos k1, shr_xor, lo8_test _ _ _ (Nat.mod_lt _ (by omega))]
      congr 1
      by_cases k2 : n % 8 ≤ j % 8
      · rw [if_pos k2, if_pos (by omega), show (j - n) / 8 = i by omega, show (j - n) % 8 = j % 8 - n % 8 by omega]
      · rw [if_neg k2, if_neg (by omega)]
    · rw [if_neg k1]
      by_cases k2 : j / 8 = i + n / 8 + 1
      · rw [if_pos k2, shr_xor, hi8_test hc]
        congr 1
        by_cases k3 : j % 8 < n % 8
        · rw [if_pos k3, if_pos (by omega), show (j - n) / 8 = i by omega, show (j - n) % 8 = j % 8 + 8 - n % 8 by omega]
        · rw [if_neg k3, if_neg (by omega)]
      · rw [if_neg k2, if_neg (by omega), Nat.xor_zero]
  rw [key, h6, Nat.xor_assoc]
  congr 1
  by_cases k1 : n ≤ j ∧ j < n + 8 * i
  · rw [if_pos k1, if_neg (by omega), if_pos (by omega), Nat.xor_zero]
  · rw [if_neg k1, Nat.zero_xor]
    by_cases k2 : n + 8 * i ≤ j ∧ j < n + 8 * (i + 1)
    · rw [if_pos k2, if_pos (by omega)]
    · rw [if_neg k2, if_neg (by omega)]
theorem lo8_lt (c n : Nat) : lo8 c n < 256 := Nat.mod_lt _ (by omega)
theorem hi8_lt {c : Nat} (hc : c < 256) (n : Nat) : hi8 c n < 256 := Nat.lt_of_le_of_lt (Nat.shiftRight_le _ _) hc

theorem _root_.Go.Sx.St.dropR {F : Nat → Prop} {w₀ w : World} {L : List Atom} (h : St F w₀ L w) : St F w₀ [] w := St.dropL L (by rw [List.append_nil]; exact h)
theorem hi8_zero {c n : Nat} (hc : c < 256) (h : n % 8 = 0) : hi8 c n = 0 := by
  unfold hi8
  rw [h, Nat.shiftRight_eq_div_pow]
  exact Nat.div_eq_of_lt hc
theorem IntoG.next1 {o q L : List Nat} {n i : Nat} (h : IntoG o q n (i, L)) (hq : ∀ x ∈ q, x < 256) (hi : i < q.length) (hr : i + n / 8 < o.length) (h0 : hi8 (cf q i) n = 0) : IntoG o q n (i + 1, L.set (i + n / 8) (cf L (i + n / 8) ^^^ lo8 (cf q i) n)) := by
  have hl := h.len
  have hlt := h.lt
  simp only at hl hlt
  refine h.next hq hi (by simp) (set_lt hlt (xor8 (cf_lt8 hlt _) (lo8_lt _ _))) (fun k => ?_)
  rw [cf_set (by omega)]
  by_cases k1 : k = i + n / 8
  · rw [if_pos k1, if_pos k1, k1]
  · rw [if_neg k1, if_neg k1]
    split
    · rw [h0, Nat.xor_zero]
    · rfl
theorem IntoG.next2 {o q L : List Nat} {n i : Nat} (h : IntoG o q n (i, L)) (hq : ∀ x ∈ q, x < 256) (hi : i < q.length) (hr : i + n / 8 + 1 < o.length) : IntoG o q n (i + 1, (L.set (i + n / 8) (cf L (i + n / 8) ^^^ lo8 (cf q i) n)).set (i + n / 8 + 1) (cf L (i + n / 8 + 1) ^^^ hi8 (cf q i) n)) := by
  have hl := h.len
  have hlt := h.lt
  simp only at hl hlt
  refine h.next hq hi (by simp) (set_lt (set_lt hlt (xor8 (cf_lt8 hlt _) (lo8_lt _ _))) (xor8 (cf_lt8 hlt _) (hi8_lt (cf_lt8 hq i) n))) (fun k => ?_)
  rw [cf_set (by rw [List.length_set]; omega), cf_set (by omega)]
  by_cases k1 : k = i + n / 8
  · rw [if_neg (by omega), if_pos k1, if_pos k1, k1]
  · rw [if_neg k1, if_neg k1]
    by_cases k2 : k = i + n / 8 + 1
    · rw [if_pos k2, if_pos k2, k2]
    · rw [if_neg k2, if_neg k2]
theorem IntoG.done {o q L : List Nat} {n : Nat} (h : IntoG o q n (q.length, L)) (j : Nat) : bitN L j = bitN o j ^^^ (if n ≤ j then bitN q (j - n) else 0) := by
  rw [h.bit]
  simp only
  congr 1
  by_cases h1 : n ≤ j
  · rw [if_pos h1]
    split
    · rfl
    · rw [bitN_out (by omega)]
  · rw [if_neg h1, if_neg (by omega)]

theorem into_spec (F : Nat → Prop) (w₀ w : World) (R : List Atom) (A : Option Addr) (c : Nat) (o : List Nat) (B : Option Addr) (d : Nat) (q : List Nat) (n : Nat) (ho : ∀ x ∈ o, x < 256) (hq : ∀ x ∈ q, x < 256) (hol : o.length ≤ 1073741824) (hr : q.length + n / 8 < o.length) (hw : St F w₀ (own 5 1 A o.length c (nats .u8 o) :: own 5 1 B q.length d (nats .u8 q) :: R) w) : Calls Tryd.prog 94 ([.slice B q.length d, .slice A o.length c, .int .i64 (n : Nat)] : List Value).toArray w (fun e w' => ∃ o' : List Nat, e = .returned (oneOf []) ∧ (o'.length = o.length ∧ (∀ x ∈ o', x < 256) ∧ ∀ j, bitN o' j = bitN o j ^^^ (if n ≤ j then bitN q (j - n) else 0)) ∧ St F w₀ (own 5 1 A o.length c (nats .u8 o') :: own 5 1 B q.length d (nats .u8 q) :: R) w') := by
  refine spec_ofC Tryd.func94 rfl Tryd.ntmps94 rfl hw ?_
  refine CW.seq ?_
  refine CW.reg [0, 1, 2] rfl ?_
  refine s_mv 9 rfl rfl ?_
  refine s_len 10 rfl rfl ?_
  refine s_mv 11 rfl rfl ?_
  refine SX.next ?_
  refine CW.block ?_
  refine CW.loop (G := Nat × List Nat) (fun z => [(1, .slice A o.length c), (2, .int .i64 (n : Nat)), (9, .slice B q.length d), (10, .int .i64 (q.length : Nat)), (11, .int .i64 (z.1 : Nat))]) (fun z => St F w₀ (own 5 1 A o.length c (nats .u8 z.2) :: own 5 1 B q.length d (nats .u8 q) :: R)) (IntoG o q n) (fun z => q.length - z.1) (0, o) ⟨rfl, rfl, rfl, rfl, rfl, trivial⟩ (fun _ h => h) (IntoG.start ho q n) ?_
  rintro ⟨i, L⟩ hz
  have hle := hz.le
  have hlen := hz.len
  have hlt := hz.lt
  simp only at hle hlen hlt
  dsimp only
  refine CW.seq ?_
  refine CW.reg [0] rfl ?_
  refine s_lt 12 rfl rfl rfl rfl ?_
  refine SX.next ?_
  refine CW.seq ?_
  refine CW.test rfl (fun hc => ?_) (fun hc => ?_)
  · skip
    have hcq := cf_lt8 hq i
    have hiq : i < q.length := by omega
    refine CW.skip ?_
    refine KN.code ?_
    refine CW.seq ?_
    refine CW.block ?_
    refine CW.seq ?_
    refine CW.reg [0, 1, 2, 3, 4] rfl ?_
    refine s_mv 13 rfl rfl ?_
    refine s_iaO 14 1 i rfl rfl rfl rfl rfl (by omega) ?_
    refine s_ldO 15 1 rfl rfl rfl (natsAt8 (by omega)) ?_
    refine s_as 6 rfl rfl ?_
    refine s_as 7 rfl rfl ?_
    refine SX.next ?_
    refine CW.seq ?_
    refine CW.regD (.st true 0 (.st true 1 (.st true 2 (.st true 3 (.st true 4 (.st true 5 (.st true 7 (.st true 8 (.st true 9 (.st true 10 (.st false 6 (.st true 11 (.st true 12 (.st false 13 .done)))))))))))))) (St F w₀ []) mixed (by kernel_rfl) (fun _ h => h.drew) (fun _ h => h.dropR) ?_
    refine s_mv 16 rfl rfl ?_
    refine s_mv 17 rfl rfl ?_
    refine s_mv 18 rfl rfl ?_
    refine s_quo 19 rfl rfl rfl (by omega) (quo8 n (by omega)) ?_
    refine s_add 20 rfl rfl rfl (r := ((i + n / 8 : Nat) : Int)) (w64 (by omega)) ?_
    refine s_iaO 21 0 (i + n / 8) rfl rfl rfl rfl rfl (by omega) ?_
    refine s_mv 23 rfl rfl ?_
    refine s_mv 24 rfl rfl ?_
    refine s_rem 25 rfl rfl rfl (by omega) (tmod8 n) ?_
    refine s_shl 26 rfl rfl rfl (by omega) (r := ((lo8 (cf q i) n : Nat) : Int)) (shl_u8 (by omega)) ?_
    refine s_ldO 22 0 rfl rfl rfl (natsAt8 (by omega)) ?_
    refine s_bit 27 rfl rfl rfl rfl (ibit_xor_u8 (cf_lt8 hlt _) (lo8_lt _ _)) ?_
    refine s_iaO 28 0 (i + n / 8) rfl rfl rfl rfl rfl (by omega) ?_
    refine s_stO 0 rfl rfl rfl rfl rfl (by omega) (fun _ h => h.dropR) ?_
    refine SX.next ?_
    refine CW.seq ?_
    refine CW.pre (C' := St F w₀ (own 5 1 A o.length c (nats .u8 (L.set (i + n / 8) (cf L (i + n / 8) ^^^ lo8 (cf q i) n))) :: own 5 1 B q.length d (nats .u8 q) :: R)) (fun _ h => by rw [← nats_set]; exact h) ?_
    refine CW.reg [0, 1, 2, 3, 4, 5] rfl ?_
    refine s_mv 29 rfl rfl ?_
    refine s_mv 30 rfl rfl ?_
    refine s_rem 31 rfl rfl rfl (by omega) (tmod8 n) ?_
    refine s_sub 32 rfl rfl rfl (r := ((8 - n % 8 : Nat) : Int)) (by rw [show (8 : Int) - ((n % 8 : Nat) : Int) = ((8 - n % 8 : Nat) : Int) by omega]; exact w64 (by omega)) ?_
    refine s_shr 33 rfl rfl rfl (by omega) (r := ((hi8 (cf q i) n : Nat) : Int)) (shr_u8 (by omega)) ?_
    refine s_as 8 rfl rfl ?_
    refine SX.next ?_
    refine CW.seq ?_
    refine CW.reg [0, 1, 2, 3, 4, 5, 6] rfl ?_
    refine s_mv 34 rfl rfl ?_
    refine s_rem 35 rfl rfl rfl (by omega) (tmod8 n) ?_
    refine s_gt 36 rfl rfl rfl rfl ?_
    refine s_mv 37 rfl rfl ?_
    refine SX.bool 37 rfl (fun hb => ?_) (fun hb => ?_)
    · skip
      replace hb := of_decide_eq_true hb
      refine s_mv 38 rfl rfl ?_
      refine s_gt 39 rfl rfl rfl rfl ?_
      refine s_pickT 40 rfl rfl rfl ?_
      refine SX.next ?_
      refine CW.test rfl (fun hc2 => ?_) (fun hc2 => ?_)
      · skip
        refine CW.reg [0, 1, 2, 3, 4, 5, 6, 7, 8, 9, 10, 11] rfl ?_
        refine s_mv 41 rfl rfl ?_
        refine s_mv 42 rfl rfl ?_
        refine s_mv 43 rfl rfl ?_
        refine s_quo 44 rfl rfl rfl (by omega) (quo8 n (by omega)) ?_
        refine s_add 45 rfl rfl rfl (r := ((i + n / 8 : Nat) : Int)) (w64 (by omega)) ?_
        refine s_add 46 rfl rfl rfl (r := ((i + n / 8 + 1 : Nat) : Int)) (w64 (by omega)) ?_
        refine s_iaO 47 0 (i + n / 8 + 1) rfl rfl rfl rfl rfl (by omega) ?_
        refine s_ldO 48 0 rfl rfl rfl (v := .int .u8 (cf L (i + n / 8 + 1) : Nat)) (by rw [natsAt8 (by rw [List.length_set]; omega), cf_set (by omega), if_neg (by omega)]) ?_
        refine s_mv 49 rfl rfl ?_
        refine s_bit 50 rfl rfl rfl rfl (ibit_xor_u8 (cf_lt8 hlt _) (hi8_lt hcq n)) ?_
        refine s_iaO 51 0 (i + n / 8 + 1) rfl rfl rfl rfl rfl (by omega) ?_
        refine s_stO 0 rfl rfl rfl rfl rfl (by omega) (fun _ _ => trivial) ?_
        refine SX.end_ ?_
        refine KN.blk ?_
        refine KN.code ?_
        refine CW.reg [0, 1] rfl ?_
        refine s_add 52 rfl rfl rfl (r := ((i + 1 : Nat) : Int)) (w64 (by omega)) ?_
        refine s_mv 11 rfl rfl ?_
        refine SX.end_ ?_
        exact KN.back (i + 1, (L.set (i + n / 8) (cf L (i + n / 8) ^^^ lo8 (cf q i) n)).set (i + n / 8 + 1) (cf L (i + n / 8 + 1) ^^^ hi8 (cf q i) n)) ⟨rfl, rfl, rfl, rfl, rfl, trivial⟩ (fun _ h => by simp only; rw [← nats_set]; exact h) (hz.next2 hq hiq (by omega)) (by simp only; omega)
      · skip
        have hz0 : hi8 (cf q i) n = 0 := by omega
        refine CW.skip ?_
        refine KN.blk ?_
        refine KN.code ?_
        refine CW.reg [0, 1] rfl ?_
        refine s_add 52 rfl rfl rfl (r := ((i + 1 : Nat) : Int)) (w64 (by omega)) ?_
        refine s_mv 11 rfl rfl ?_
        refine SX.end_ ?_
        exact KN.back (i + 1, (L.set (i + n / 8) (cf L (i + n / 8) ^^^ lo8 (cf q i) n))) ⟨rfl, rfl, rfl, rfl, rfl, trivial⟩ (fun _ h => h) (hz.next1 hq hiq (by omega) hz0) (by simp only; omega)
    · skip
      replace hb := of_decide_eq_false hb
      have hz0 : hi8 (cf q i) n = 0 := hi8_zero hcq (by omega)
      refine SX.skip rfl ?_
      refine SX.skip rfl ?_
      refine s_pickF 40 rfl rfl rfl ?_
      refine SX.next ?_
      refine CW.condF rfl ?_
      refine CW.skip ?_
      refine KN.blk ?_
      refine KN.code ?_
      refine CW.reg [0, 1] rfl ?_
      refine s_add 52 rfl rfl rfl (r := ((i + 1 : Nat) : Int)) (w64 (by omega)) ?_
      refine s_mv 11 rfl rfl ?_
      refine SX.end_ ?_
      exact KN.back (i + 1, (L.set (i + n / 8) (cf L (i + n / 8) ^^^ lo8 (cf q i) n))) ⟨rfl, rfl, rfl, rfl, rfl, trivial⟩ (fun _ h => h) (hz.next1 hq hiq (by omega) hz0) (by simp only; omega)
  · skip
    obtain rfl : i = q.length := by omega
    refine CW.exit rfl ?_
    exact KN.ret (rs := []) Tryd.results94 rfl (fun w hw => ⟨L, rfl, ⟨hlen, hlt, hz.done⟩, hw⟩)
end Go.Proofs.YtcdmmfpgeagimaaDoor
end
section
/- The contracts of package binpoly: products, quotients, divisors. Conditions: the lists are bytes, read where they lie. -/
namespace Go.Proofs.YtcdmmfpgeagimaaDoor
open Go Go.Lib Go.Sx Go.Fm
set_option maxRecDepth 100000
abbrev SpecBE (P : Program) (f : FuncId) (args : List Value) (w : World) (E : List Nat) : Prop :=
  SpecX P f args w (X := Option Addr × Nat) (fun q => two (.slice q.1 E.length q.2) .nilIface) (fun q => E.length ≤ q.2) (fun q => [own 5 1 q.1 E.length q.2 (nats .u8 E)])
theorem bys_nil : bys [] = [] := rfl
theorem bl_nil : bl [] = [] := rfl
theorem trim_lt8 {p : List Nat} (h : ∀ x ∈ p, x < 256) : ∀ x ∈ trim p, x < 256 := fun x hx => trim_lt h x hx
/-- Of bytes without noughts at the end the last holds the highest bit. -/
theorem bl_len_ge {p : List Nat} (h : ∀ x ∈ p, x < 256) (h0 : (trim p).length ≠ 0) : 8 * ((trim p).length - 1) < (bl p).length := by
  have ht : Tr 8 (trim p) := ⟨trim_lt8 h, trim_trim p⟩
  have h1 := deg_at (p := trim p) (i := (trim p).length - 1) (fun j hj => cf_out (by omega)) (ht.c _) (ht.top h0)
  rw [bl_trim] at h1
  have h2 := (bln_all _ (ht.c ((trim p).length - 1))).2.2.2 (ht.top h0)
  omega
theorem bl_zero {p : List Nat} (_h : ∀ x ∈ p, x < 256) (h0 : (trim p).length = 0) : bl p = [] := by
  rw [← bl_trim, List.eq_nil_of_length_eq_zero h0]
  rfl
/-- What the product's loop keeps. -/
structure BmG (p q : List Nat) (N : Nat) (z : Nat × List Nat) : Prop where
  le : z.1 ≤ (exL (bl p)).length
  len : z.2.length = N
  lt : ∀ x ∈ z.2, x < 256
  bit : ∀ j, bitN z.2 j = SS ((exL (bl p)).take z.1) (bl q) j
theorem zeros8 (N : Nat) : ((List.replicate N (Value.int .u8 0)).toArray.toList.take (N * 1)) = nats .u8 (List.replicate N 0) := by simp [nats]
theorem zeros_lt (N : Nat) : ∀ x ∈ List.replicate N 0, x < 256 := fun x hx => by rw [(List.mem_replicate.1 hx).2]; omega
theorem zeros_bit (N j : Nat) : bitN (List.replicate N 0) j = 0 := bitN_zero (by unfold cf; simp only [List.getD_eq_getElem?_getD]; rw [List.getElem?_replicate]; split <;> rfl)
theorem BmG.start (p q : List Nat) (N : Nat) : BmG p q N (0, List.replicate N 0) := ⟨Nat.zero_le _, by simp, zeros_lt N, fun j => zeros_bit N j⟩
theorem cf_mem {l : List Nat} {i : Nat} (h : i < l.length) : cf l i ∈ l := List.mem_of_getElem? (cf_in h)
theorem take_cf {l : List Nat} {i : Nat} (h : i < l.length) : l.take (i + 1) = l.take i ++ [cf l i] := by
  rw [List.take_add_one, cf_in h]
  rfl
theorem BmG.next {p q L L2 : List Nat} {N i : Nat} (h : BmG p q N (i, L)) (hi : i < (exL (bl p)).length) (h2 : L2.length = L.length ∧ (∀ x ∈ L2, x < 256) ∧ ∀ j, bitN L2 j = bitN L j ^^^ (if cf (exL (bl p)) i ≤ j then bitN (trim q) (j - cf (exL (bl p)) i) else 0)) : BmG p q N (i + 1, L2) := by
  refine ⟨hi, h2.1.trans h.len, h2.2.1, fun j => ?_⟩
  simp only
  rw [h2.2.2, h.bit, take_cf hi, SS_snoc]
  congr 1
  split
  · rw [← cf_bl, bl_trim]
  · rfl
theorem BmG.done {p q L : List Nat} {N : Nat} (h : BmG p q N ((exL (bl p)).length, L)) : trim L = bys (mulP 3 (bl p) (bl q)) :=
  bys_of h.lt (mulP_b1 (bl_b1 p) (bl_b1 q)) (fun j => by
    rw [h.bit]
    simp only
    rw [List.take_length, SS_exL (bl_b1 p) (bl_b1 q)])

theorem bmul_spec (A : Option Addr) (n c : Nat) (p : List Nat) (A2 : Option Addr) (n2 c2 : Nat) (p2 : List Nat) (w : World) (ha : Has (sl 1 A n (nats .u8 p)) w) (hp : ∀ x ∈ p, x < 256) (hn : n ≤ 1073741824) (hcp : n ≤ c) (ha2 : Has (sl 1 A2 n2 (nats .u8 p2)) w) (hp2 : ∀ x ∈ p2, x < 256) (hn2 : n2 ≤ 1073741824) (hcp2 : n2 ≤ c2) (hsm : (bl p).length + (bl p2).length ≤ 4098) : SpecBE Tryd.prog 28 [.slice A n c, .slice A2 n2 c2] w (bys (mulP 3 (bl p) (bl p2))) := by
  have hla := nats_len ha
  subst hla
  have hla2 := nats_len ha2
  subst hla2
  have ht1 := tl_le p
  have ht2 := tl_le p2
  have hl1 := trim_length p
  have hl2 := trim_length p2
  have h81 := trim_lt8 hp
  have h82 := trim_lt8 hp2
  have hbl1 := bl_len p
  have hbl2 := bl_len p2
  have hbt1 := bl_len (trim p)
  rw [bl_trim] at hbt1
  have hbt2 := bl_len (trim p2)
  rw [bl_trim] at hbt2
  refine spec_of Tryd.func28 rfl Tryd.ntmps28 rfl ?_
  refine CW.seq ?_
  refine CW.reg [0, 1] rfl ?_
  refine s_as 4 rfl rfl ?_
  refine s_as 5 rfl rfl ?_
  refine SX.next ?_
  refine CW.seq ?_
  refine CW.reg [0, 1, 2, 3, 4, 5] rfl ?_
  refine s_mv 9 rfl rfl ?_
  refine s_call 10 rfl rfl rfl rfl (fun w hw => trimmed_spec A p.length c p w (hw.old ha) hp hn hcp) (fun _ _ => trivial) (fun q1 hq1 => ?_)
  refine s_mv 11 rfl rfl ?_
  refine s_call 12 rfl rfl rfl rfl (fun w hw => trimmed_spec A2 p2.length c2 p2 w (hw.old ha2) hp2 hn2 hcp2) (fun _ _ => trivial) (fun q2 hq2 => ?_)
  refine s_as 0 rfl rfl ?_
  refine s_as 1 rfl rfl ?_
  refine SX.next ?_
  refine CW.seq ?_
  refine CW.seq ?_
  refine CW.reg [0, 1, 2, 3, 4, 5, 6, 7] rfl ?_
  refine s_mv 13 rfl rfl ?_
  refine s_len 14 rfl rfl ?_
  refine s_eq 15 rfl rfl rfl rfl ?_
  refine s_mv 16 rfl rfl ?_
  refine SX.bool 16 rfl (fun hb => ?_) (fun hb => ?_)
  · skip
    replace hb := of_decide_eq_true hb
    have hz : bys (mulP 3 (bl p) (bl p2)) = [] := by rw [bl_zero hp (by omega), mulP_nil_l]; rfl
    refine SX.skip rfl ?_
    refine SX.skip rfl ?_
    refine SX.skip rfl ?_
    refine s_pickT 20 rfl rfl rfl ?_
    refine SX.next ?_
    refine CW.condT rfl ?_
    refine CW.seq ?_
    refine CW.reg [0, 1] rfl ?_
    refine s_as 4 rfl rfl ?_
    refine s_as 5 rfl rfl ?_
    refine SX.next ?_
    refine CW.ret ?_
    exact KN.ret (rs := [.tmp 4, .tmp 5]) Tryd.results28 rfl (fun w hw => ⟨(none, 0), by rw [hz]; rfl, by rw [hz]; exact Nat.le_refl _, by rw [hz]; exact (hw.pick [] rfl).begin_ _ 1⟩)
  · skip
    replace hb := of_decide_eq_false hb
    refine s_mv 17 rfl rfl ?_
    refine s_len 18 rfl rfl ?_
    refine s_eq 19 rfl rfl rfl rfl ?_
    refine s_pickF 20 rfl rfl rfl ?_
    refine SX.next ?_
    refine CW.test rfl (fun hc2 => ?_) (fun hc2 => ?_)
    · skip
      have hz : bys (mulP 3 (bl p) (bl p2)) = [] := by rw [bl_zero hp2 (by omega), mulP_nil_r]; rfl
      refine CW.seq ?_
      refine CW.reg [0, 1] rfl ?_
      refine s_as 4 rfl rfl ?_
      refine s_as 5 rfl rfl ?_
      refine SX.next ?_
      refine CW.ret ?_
      exact KN.ret (rs := [.tmp 4, .tmp 5]) Tryd.results28 rfl (fun w hw => ⟨(none, 0), by rw [hz]; rfl, by rw [hz]; exact Nat.le_refl _, by rw [hz]; exact (hw.pick [] rfl).begin_ _ 1⟩)
    · skip
      have hge1 := bl_len_ge hp (by omega)
      have hge2 := bl_len_ge hp2 (by omega)
      refine CW.skip ?_
      refine KN.code ?_
      refine CW.seq ?_
      refine CW.seq ?_
      refine CW.reg [0, 1, 2, 3, 4, 5] rfl ?_
      refine s_mv 21 rfl rfl ?_
      refine s_call1 22 rfl rfl rfl rfl (v := .int .i64 ((bl p).length - 1 : Int)) (fun w hw => by have := bdeg_spec q1.1 (trim p).length q1.2 (trim p) w ((hw.has (i := 1) rfl).of_own) h81 (by omega) hq1; rw [bl_trim] at this; exact this) (fun _ _ => trivial) ?_
      refine s_mv 23 rfl rfl ?_
      refine s_call1 24 rfl rfl rfl rfl (v := .int .i64 ((bl p2).length - 1 : Int)) (fun w hw => by have := bdeg_spec q2.1 (trim p2).length q2.2 (trim p2) w ((hw.has (i := 0) rfl).of_own) h82 (by omega) hq2; rw [bl_trim] at this; exact this) (fun _ _ => trivial) ?_
      refine s_add 25 rfl rfl rfl (w64 (by omega)) ?_
      refine s_gt 26 rfl rfl rfl (decide_eq_false (by omega)) ?_
      refine SX.next ?_
      refine CW.condF rfl ?_
      refine CW.skip ?_
      refine KN.code ?_
      refine CW.seq ?_
      refine CW.reg [0, 1, 2, 3, 4, 5, 6, 7] rfl ?_
      refine s_mv 28 rfl rfl ?_
      refine s_len 29 rfl rfl ?_
      refine s_mv 30 rfl rfl ?_
      refine s_len 31 rfl rfl ?_
      refine s_add 32 rfl rfl rfl (w64 (by omega)) ?_
      refine s_add 33 rfl rfl rfl (r := ((((trim p).length + (trim p2).length + 1) : Nat) : Int)) (by rw [show ((trim p).length : Int) + (trim p2).length + 1 = ((((trim p).length + (trim p2).length + 1) : Nat) : Int) by omega]; exact w64 (by omega)) ?_
      refine s_make 34 ((trim p).length + (trim p2).length + 1) rfl rfl rfl rfl rfl (by omega) (fun _ _ => trivial) (fun go => ?_)
      refine s_as 6 rfl rfl ?_
      refine SX.next ?_
      refine CW.seq ?_
      refine CW.seq ?_
      refine CW.reg [0, 1, 2, 3] rfl ?_
      refine s_mv 35 rfl rfl ?_
      refine s_call 36 rfl rfl rfl rfl (fun w hw => by have := bexp_spec q1.1 (trim p).length q1.2 (trim p) w ((hw.has (i := 2) rfl).of_own) h81 (by omega) hq1; rw [bl_trim] at this; exact this) (fun _ _ => trivial) (fun q3 hq3 => ?_)
      refine SX.pre (fun _ h => h.blkOwnM (q := 1) (m := ((trim p).length + (trim p2).length + 1)) (c := ((trim p).length + (trim p2).length + 1)) (sz := 1) rfl (by simp) (Nat.le_refl _) (by unfold maxLen; omega)) ?_
      refine s_len 37 rfl rfl ?_
      refine s_mv 38 rfl rfl ?_
      refine SX.next ?_
      refine CW.block ?_
      refine CW.loop (G := Nat × List Nat) (fun z => [(1, .slice q2.1 (trim p2).length q2.2), (6, .slice (some ⟨go, 0, none⟩) ((trim p).length + (trim p2).length + 1) ((trim p).length + (trim p2).length + 1)), (36, .slice q3.1 (exL (bl p)).length q3.2), (37, .int .i64 ((exL (bl p)).length : Nat)), (38, .int .i64 (z.1 : Nat))]) (fun z => Sto w [own 5 1 (some ⟨go, 0, none⟩) ((trim p).length + (trim p2).length + 1) ((trim p).length + (trim p2).length + 1) (nats .u8 z.2), own 5 1 q2.1 (trim p2).length q2.2 (nats .u8 (trim p2)), own 3 1 q3.1 (exL (bl p)).length q3.2 (nats .i64 (exL (bl p)))]) (BmG p p2 ((trim p).length + (trim p2).length + 1)) (fun z => (exL (bl p)).length - z.1) (0, List.replicate ((trim p).length + (trim p2).length + 1) 0) ⟨rfl, rfl, rfl, rfl, rfl, trivial⟩ (fun _ h => by rw [zeros8] at h; exact h.pick [1, 1, 0] rfl) (BmG.start p p2 _) ?_
      rintro ⟨i, L⟩ hz
      have hle := hz.le
      have hlen := hz.len
      have hlt := hz.lt
      simp only at hle hlen hlt
      dsimp only
      have hexl : (exL (bl p)).length ≤ (bl p).length := exU_len (bl p) (bl p).length (bl p).length
      refine CW.seq ?_
      refine CW.reg [0] rfl ?_
      refine s_lt 39 rfl rfl rfl rfl ?_
      refine SX.next ?_
      refine CW.seq ?_
      refine CW.test rfl (fun hc => ?_) (fun hc => ?_)
      · skip
        have hi : i < (exL (bl p)).length := by omega
        have hcl : cf (exL (bl p)) i < (bl p).length := exU_lt (by omega) (cf_mem hi)
        refine CW.skip ?_
        refine KN.code ?_
        refine CW.seq ?_
        refine CW.block ?_
        refine CW.seq ?_
        refine CW.reg [0, 1, 2] rfl ?_
        refine s_iaO 40 2 i rfl rfl rfl rfl rfl (by omega) ?_
        refine s_ldO 41 2 rfl rfl rfl (natsAtC hi) ?_
        refine s_as 8 rfl rfl ?_
        refine SX.next ?_
        refine CW.reg [0, 1, 2, 3] rfl ?_
        refine s_mv 42 rfl rfl ?_
        refine s_mv 43 rfl rfl ?_
        refine s_mv 44 rfl rfl ?_
        refine s_callM 45 (v := fun _ => oneOf []) (L' := fun o' => [own 5 1 (some ⟨go, 0, none⟩) ((trim p).length + (trim p2).length + 1) ((trim p).length + (trim p2).length + 1) (nats .u8 o'), own 5 1 q2.1 (trim p2).length q2.2 (nats .u8 (trim p2)), own 3 1 q3.1 (exL (bl p)).length q3.2 (nats .i64 (exL (bl p)))]) rfl rfl rfl rfl (fun w hw => by have := into_spec _ _ w [own 3 1 q3.1 (exL (bl p)).length q3.2 (nats .i64 (exL (bl p)))] (some ⟨go, 0, none⟩) ((trim p).length + (trim p2).length + 1) L q2.1 q2.2 (trim p2) (cf (exL (bl p)) i) hlt h82 (by omega) (by omega) (by rw [hlen]; exact hw); rw [hlen] at this; exact this) (fun _ _ _ => trivial) (fun L2 hL2 => ?_)
        refine SX.end_ ?_
        refine KN.blk ?_
        refine KN.code ?_
        refine CW.reg [0, 1] rfl ?_
        refine s_add 46 rfl rfl rfl (r := ((i + 1 : Nat) : Int)) (w64 (by omega)) ?_
        refine s_mv 38 rfl rfl ?_
        refine SX.end_ ?_
        exact KN.back (i + 1, L2) ⟨rfl, rfl, rfl, rfl, rfl, trivial⟩ (fun _ h => h) (hz.next hi ⟨hL2.1.trans hlen.symm, hL2.2⟩) (by simp only; omega)
      · skip
        obtain rfl : i = (exL (bl p)).length := by omega
        have hdn := hz.done
        refine CW.exit rfl ?_
        refine KN.code ?_
        refine CW.seq ?_
        refine CW.reg [0, 1, 2, 3] rfl ?_
        refine s_mv 47 rfl rfl ?_
        refine s_call 48 rfl rfl rfl rfl (fun w hw => by have := trimmed_spec (some ⟨go, 0, none⟩) ((trim p).length + (trim p2).length + 1) ((trim p).length + (trim p2).length + 1) L w ((hw.has (i := 0) rfl).of_own) hlt (by omega) (Nat.le_refl _); rw [hdn] at this; exact this) (fun _ _ => trivial) (fun q4 hq4 => ?_)
        refine s_as 4 rfl rfl ?_
        refine s_as 5 rfl rfl ?_
        refine SX.next ?_
        refine CW.ret ?_
        exact KN.ret (rs := [.tmp 4, .tmp 5]) Tryd.results28 rfl (fun w hw => ⟨q4, rfl, hq4, hw.pick [0] rfl⟩)
end Go.Proofs.YtcdmmfpgeagimaaDoor
end
section
/- The contracts of package binpoly: which polynomials have no divisor. Conditions: the lists are bytes, read where they lie. -/
namespace Go.Proofs.YtcdmmfpgeagimaaDoor
open Go Go.Lib Go.Sx Go.Fm
set_option maxRecDepth 100000
/-- How many bits a number has. -/
def blen (x : Nat) : Nat := if x = 0 then 0 else Nat.log2 x + 1
theorem blen_lt (x : Nat) : x < 2 ^ blen x := by
  unfold blen
  split
  · rename_i h; subst h; decide
  · exact Nat.lt_log2_self
theorem blen_le {x k : Nat} (h : x < 2 ^ k) : blen x ≤ k := by
  unfold blen
  split
  · omega
  · rename_i h0
    exact (Nat.log2_lt h0).2 h
theorem blen_pos {x : Nat} (h : x ≠ 0) : 0 < blen x := by
  unfold blen
  rw [if_neg h]
  omega
theorem blen_top {x : Nat} (h : x ≠ 0) : x.testBit (blen x - 1) = true := by
  have h1 := blen_lt x
  have h2 : ¬ x < 2 ^ (blen x - 1) := fun hlt => by
    have := blen_le hlt
    have := blen_pos h
    omega
  have h3 := blen_pos h
  rw [Nat.testBit_eq_decide_div_mod_eq]
  have h4 : x / 2 ^ (blen x - 1) = 1 := by
    have h5 : 2 ^ blen x = 2 * 2 ^ (blen x - 1) := by rw [← Nat.pow_succ', show (blen x - 1).succ = blen x by omega]
    have hp := Nat.two_pow_pos (blen x - 1)
    refine Nat.div_eq_of_lt_le (by omega) ?_
    omega
  rw [h4]
  rfl
theorem blen_of {x b : Nat} (h1 : x < 2 ^ b) (h2 : b ≠ 0 → x.testBit (b - 1) = true) : blen x = b := by
  refine Nat.le_antisymm (blen_le h1) (Nat.le_of_not_lt fun hlt => ?_)
  have h3 := h2 (by omega)
  rw [Nat.testBit_lt_two_pow (Nat.lt_of_lt_of_le (blen_lt x) (Nat.pow_le_pow_right (n := 2) (by omega) (show blen x ≤ b - 1 by omega)))] at h3
  cases h3
theorem blen_shr {x k : Nat} (h : 2 ^ k ≤ x) : blen x = k + blen (x >>> k) := by
  have hp := Nat.two_pow_pos k
  have h0 : x >>> k ≠ 0 := by
    rw [Nat.shiftRight_eq_div_pow]
    have := Nat.div_pos h hp
    omega
  refine blen_of ?_ (fun _ => ?_)
  · have h1 := blen_lt (x >>> k)
    generalize blen (x >>> k) = b at h1
    rw [Nat.shiftRight_eq_div_pow] at h1
    rw [Nat.pow_add]
    exact (Nat.div_lt_iff_lt_mul hp).1 h1 |> (by rw [Nat.mul_comm]; exact ·)
  · have := blen_top h0
    rw [Nat.testBit_shiftRight] at this
    have hb := blen_pos h0
    rw [show k + blen (x >>> k) - 1 = k + (blen (x >>> k) - 1) by omega]
    exact this
theorem blen_8 {x : Nat} (h : x < 256) : bln x = blen x := by
  obtain ⟨_, _, h3, h4⟩ := bln_all x h
  refine (blen_of h3 (fun hb => ?_)).symm
  by_cases h0 : x = 0
  · subst h0
    exact absurd (by decide +kernel) hb
  · exact (h4 h0).2

theorem len64_spec (x : Nat) (w : World) (hx : x < 2 ^ 64) : Spec1 Tryd.prog 99 [.int .u64 (x : Nat)] w (.int .i64 (blen x : Nat)) := by
  have hbx := blen_le hx
  refine spec_of Tryd.func99 rfl Tryd.ntmps99 rfl ?_
  refine CW.seq ?_
  refine CW.reg [0] rfl ?_
  refine s_as 2 rfl rfl ?_
  refine SX.next ?_
  refine CW.cut (G := Nat × Nat) (fun q => [(0, .int .u64 (q.1 : Nat)), (2, .int .i64 (q.2 : Nat))]) (fun _ => Sto w []) (fun q => q.2 + blen q.1 = blen x ∧ q.1 < 2 ^ 32 ∧ q.2 ≤ 64) ?_ ?_
  · skip
    refine CW.seq ?_
    refine CW.reg [0, 1] rfl ?_
    refine s_mv 3 rfl rfl ?_
    refine s_ge 4 rfl rfl rfl rfl ?_
    refine SX.next ?_
    refine CW.test rfl (fun hc => ?_) (fun hc => ?_)
    · skip
      have hs := blen_shr (x := x) (k := 32) (by omega)
      have hlt : x >>> 32 < 2 ^ 32 := by rw [Nat.shiftRight_eq_div_pow]; exact (Nat.div_lt_iff_lt_mul (by decide)).2 (by omega)
      refine CW.seq ?_
      refine CW.reg [0, 1, 2] rfl ?_
      refine s_mv 5 rfl rfl ?_
      refine s_shr 6 rfl rfl rfl (by omega) (shr_u64 (x := x) (k := 32) (by omega)) ?_
      refine s_as 0 rfl rfl ?_
      refine SX.next ?_
      refine CW.reg [0] rfl ?_
      refine s_as 2 rfl rfl ?_
      refine SX.end_ ?_
      exact KN.join (x >>> 32, 32) ⟨rfl, rfl, trivial⟩ (fun _ h => h) ⟨by simp only; omega, hlt, by show 32 ≤ 64; omega⟩
    · skip
      refine CW.skip ?_
      exact KN.join (x, 0) ⟨rfl, rfl, trivial⟩ (fun _ h => h) ⟨by simp only; omega, by simp only; omega, by show 0 ≤ 64; omega⟩
  · skip
    rintro ⟨y, n1⟩ ⟨hy1, hy2, hy3⟩
    simp only at hy1 hy2 hy3
    dsimp only
    refine CW.cut (G := Nat × Nat) (fun q => [(0, .int .u64 (q.1 : Nat)), (2, .int .i64 (q.2 : Nat))]) (fun _ => Sto w []) (fun q => q.2 + blen q.1 = blen x ∧ q.1 < 2 ^ 16 ∧ q.2 ≤ 64) ?_ ?_
    · skip
      refine CW.seq ?_
      refine CW.reg [0, 1] rfl ?_
      refine s_mv 7 rfl rfl ?_
      refine s_ge 8 rfl rfl rfl rfl ?_
      refine SX.next ?_
      refine CW.test rfl (fun hc => ?_) (fun hc => ?_)
      · skip
        have hs := blen_shr (x := y) (k := 16) (by omega)
        have hlt : y >>> 16 < 2 ^ 16 := by rw [Nat.shiftRight_eq_div_pow]; exact (Nat.div_lt_iff_lt_mul (by decide)).2 (by omega)
        refine CW.seq ?_
        refine CW.reg [0, 1, 2] rfl ?_
        refine s_mv 9 rfl rfl ?_
        refine s_shr 10 rfl rfl rfl (by omega) (shr_u64 (x := y) (k := 16) (by omega)) ?_
        refine s_as 0 rfl rfl ?_
        refine SX.next ?_
        refine CW.reg [0, 1, 2] rfl ?_
        refine s_mv 11 rfl rfl ?_
        refine s_add 12 rfl rfl rfl (r := ((n1 + 16 : Nat) : Int)) (w64 (by omega)) ?_
        refine s_as 2 rfl rfl ?_
        refine SX.end_ ?_
        exact KN.join (y >>> 16, n1 + 16) ⟨rfl, rfl, trivial⟩ (fun _ h => h) ⟨by simp only; omega, hlt, by simp only; omega⟩
      · skip
        refine CW.skip ?_
        exact KN.join (y, n1) ⟨rfl, rfl, trivial⟩ (fun _ h => h) ⟨by simp only; omega, by simp only; omega, by simp only; omega⟩
    · skip
      rintro ⟨z, n2⟩ ⟨hz1, hz2, hz3⟩
      simp only at hz1 hz2 hz3
      dsimp only
      refine CW.cut (G := Nat × Nat) (fun q => [(0, .int .u64 (q.1 : Nat)), (2, .int .i64 (q.2 : Nat))]) (fun _ => Sto w []) (fun q => q.2 + blen q.1 = blen x ∧ q.1 < 2 ^ 8 ∧ q.2 ≤ 64) ?_ ?_
      · skip
        refine CW.seq ?_
        refine CW.reg [0, 1] rfl ?_
        refine s_mv 13 rfl rfl ?_
        refine s_ge 14 rfl rfl rfl rfl ?_
        refine SX.next ?_
        refine CW.test rfl (fun hc => ?_) (fun hc => ?_)
        · skip
          have hs := blen_shr (x := z) (k := 8) (by omega)
          have hlt : z >>> 8 < 2 ^ 8 := by rw [Nat.shiftRight_eq_div_pow]; exact (Nat.div_lt_iff_lt_mul (by decide)).2 (by omega)
          refine CW.seq ?_
          refine CW.reg [0, 1, 2] rfl ?_
          refine s_mv 15 rfl rfl ?_
          refine s_shr 16 rfl rfl rfl (by omega) (shr_u64 (x := z) (k := 8) (by omega)) ?_
          refine s_as 0 rfl rfl ?_
          refine SX.next ?_
          refine CW.reg [0, 1, 2] rfl ?_
          refine s_mv 17 rfl rfl ?_
          refine s_add 18 rfl rfl rfl (r := ((n2 + 8 : Nat) : Int)) (w64 (by omega)) ?_
          refine s_as 2 rfl rfl ?_
          refine SX.end_ ?_
          exact KN.join (z >>> 8, n2 + 8) ⟨rfl, rfl, trivial⟩ (fun _ h => h) ⟨by simp only; omega, hlt, by simp only; omega⟩
        · skip
          refine CW.skip ?_
          exact KN.join (z, n2) ⟨rfl, rfl, trivial⟩ (fun _ h => h) ⟨by simp only; omega, by simp only; omega, by simp only; omega⟩
      · skip
        rintro ⟨v, n3⟩ ⟨hv1, hv2, hv3⟩
        simp only at hv1 hv2 hv3
        dsimp only
        obtain ⟨h1, h2, h3, h4⟩ := bln_all v hv2
        have hb8 := blen_8 hv2
        refine CW.seq ?_
        refine CW.reg [0, 1, 2, 3, 4, 5, 6] rfl ?_
        refine s_mv 19 rfl rfl ?_
        refine s_mv 20 rfl rfl ?_
        refine s_conv 21 rfl rfl (r := ((v : Nat) : Int)) (w8 (by omega)) ?_
        refine s_len8 22 rfl (by kernel_rfl) (by kernel_rfl) rfl (by omega) (by omega) h1 ?_
        refine s_conv 23 rfl rfl (r := ((bln v : Nat) : Int)) (w64 (by omega)) ?_
        refine s_add 24 rfl rfl rfl (r := ((blen x : Nat) : Int)) (by rw [show ((n3 : Nat) : Int) + (bln v : Nat) = ((blen x : Nat) : Int) by omega]; exact w64 (by omega)) ?_
        refine s_as 2 rfl rfl ?_
        refine SX.next ?_
        refine CW.ret ?_
        exact KN.ret (rs := [.tmp 2]) Tryd.results99 rfl (fun w hw => ⟨rfl, hw.nothing⟩)

/-! ### Irreducible -/
/-- The number whose bits stand at these places. -/
def vP (l : List Nat) : Nat := l.foldl (fun z e => z ||| 2 ^ e) 0
theorem vP_snoc (l : List Nat) (e : Nat) : vP (l ++ [e]) = vP l ||| 2 ^ e := by simp [vP]
theorem or_lt {a b n : Nat} (ha : a < 2 ^ n) (hb : b < 2 ^ n) : a ||| b < 2 ^ n := Nat.or_lt_two_pow ha hb
theorem vP_take {l : List Nat} {n : Nat} (h : ∀ e ∈ l, e < n) : ∀ i, vP (l.take i) < 2 ^ n
  | 0 => Nat.two_pow_pos n
  | i + 1 => by
    by_cases hi : i < l.length
    · rw [take_cf hi, vP_snoc]
      exact or_lt (vP_take h i) (Nat.pow_lt_pow_right (by omega) (h _ (cf_mem hi)))
    · rw [List.take_of_length_le (by omega)]
      have := vP_take h i
      rw [List.take_of_length_le (by omega)] at this
      exact this
/-- The rest of r by q, both as numbers. -/
def rmF (q : Nat) : Nat → Nat → Nat
  | 0, r => r
  | k + 1, r => if blen q ≤ blen r then rmF q k (r ^^^ q * 2 ^ (blen r - blen q)) else r
def rm (q r : Nat) : Nat := rmF q (blen r + 1) r
theorem step_lt {q r : Nat} (_hq : q ≠ 0) (h : blen q ≤ blen r) : q * 2 ^ (blen r - blen q) < 2 ^ blen r := by
  have h1 := blen_lt q
  have h2 : 2 ^ blen r = 2 ^ blen q * 2 ^ (blen r - blen q) := by rw [← Nat.pow_add, show blen q + (blen r - blen q) = blen r by omega]
  rw [h2]
  exact Nat.mul_lt_mul_of_pos_right h1 (Nat.two_pow_pos _)
theorem step_blen {q r : Nat} (hq : q ≠ 0) (h : blen q ≤ blen r) : blen (r ^^^ q * 2 ^ (blen r - blen q)) < blen r := by
  have hbq := blen_pos hq
  have hr : r ≠ 0 := fun h0 => by
    subst h0
    have : blen 0 = 0 := rfl
    omega
  have h1 := blen_lt r
  have h2 := step_lt hq h
  have h3 : (r ^^^ q * 2 ^ (blen r - blen q)).testBit (blen r - 1) = false := by
    rw [Nat.testBit_xor, blen_top hr, Nat.mul_comm, Nat.testBit_two_pow_mul, decide_eq_true (by omega), Bool.true_and, show blen r - 1 - (blen r - blen q) = blen q - 1 by omega, blen_top hq]
    rfl
  have h4 := Nat.xor_lt_two_pow h1 h2
  have hle := blen_le h4
  refine Nat.lt_of_le_of_ne hle (fun he => ?_)
  generalize r ^^^ q * 2 ^ (blen r - blen q) = z at *
  have hz : z ≠ 0 := fun h0 => by
    subst h0
    have := blen_pos hr
    rw [← he] at this
    exact absurd this (by decide)
  have := blen_top hz
  rw [he, h3] at this
  cases this
theorem rmF_more {q : Nat} (hq : q ≠ 0) : ∀ {k i r : Nat}, blen r < k → blen r < i → rmF q k r = rmF q i r
  | 0, _, _, h, _ => by omega
  | _ + 1, 0, _, _, h => by omega
  | k + 1, i + 1, r, h1, h2 => by
    unfold rmF
    split
    · rename_i h
      have := step_blen hq h
      exact rmF_more hq (by omega) (by omega)
    · rfl
theorem rm_step {q r : Nat} (hq : q ≠ 0) (h : blen q ≤ blen r) : rm q (r ^^^ q * 2 ^ (blen r - blen q)) = rm q r := by
  have hs := step_blen hq h
  have e : rm q r = rmF q (blen r) (r ^^^ q * 2 ^ (blen r - blen q)) := if_pos h
  rw [e]
  exact rmF_more hq (Nat.lt_succ_self _) hs
theorem rm_done {q r : Nat} (h : ¬ blen q ≤ blen r) : rm q r = r := if_neg h
/-- Whether a polynomial has no divisor but 1 and itself, as it is tried. -/
def irrP (a : List Nat) : Bool := decide (2 ≤ a.length ∧ a.length ≤ 33) && (List.range (2 ^ ((a.length - 1) / 2 + 1))).all (fun q => decide (q < 2) || decide (rm q (vP (exL a)) ≠ 0))
theorem irrP_true {a : List Nat} (h : 2 ≤ a.length ∧ a.length ≤ 33) (h2 : ∀ q, q < 2 ^ ((a.length - 1) / 2 + 1) → q < 2 ∨ rm q (vP (exL a)) ≠ 0) : irrP a = true := by
  unfold irrP
  rw [decide_eq_true h, Bool.true_and, List.all_eq_true]
  intro q hq
  rcases h2 q (List.mem_range.1 hq) with h | h
  · rw [decide_eq_true h]; rfl
  · rw [decide_eq_true h, Bool.or_true]
theorem irrP_false {a : List Nat} {q : Nat} (hq : q < 2 ^ ((a.length - 1) / 2 + 1)) (h2 : 2 ≤ q) (h3 : rm q (vP (exL a)) = 0) : irrP a = false := by
  unfold irrP
  rw [Bool.and_eq_false_iff]
  refine .inr ?_
  rw [List.all_eq_false]
  refine ⟨q, List.mem_range.2 hq, ?_⟩
  rw [decide_eq_false (by omega), h3]
  simp
theorem irrP_none {a : List Nat} (h : ¬ (2 ≤ a.length ∧ a.length ≤ 33)) : irrP a = false := by
  unfold irrP
  rw [decide_eq_false h]
  rfl
theorem quo2 (i : Nat) (h : i ≤ 9223372036854775807) : IntKind.i64.wrap (((i : Nat) : Int).tdiv 2) = ((i / 2 : Nat) : Int) := by
  rw [show ((i : Nat) : Int).tdiv 2 = ((i / 2 : Nat) : Int) from rfl]
  exact w64 (by omega)
theorem shl_one_u64 {k : Nat} (hk : k ≤ 63) : IntKind.u64.wrap ((1 : Int) * 2 ^ (min (k : Int).toNat IntKind.u64.bits)) = ((2 ^ k : Nat) : Int) := by
  have := shl_u64 (x := 1) hk (by rw [Nat.one_mul]; exact Nat.pow_lt_pow_right (by omega) (by omega))
  rw [Nat.one_mul] at this
  exact this

theorem birr_spec (A : Option Addr) (n c : Nat) (p : List Nat) (w : World) (ha : Has (sl 1 A n (nats .u8 p)) w) (hp : ∀ x ∈ p, x < 256) (hn : n ≤ 1073741824) (hcp : n ≤ c) : Spec1 Tryd.prog 41 [.slice A n c] w (.bool (irrP (bl p))) := by
  have hla := nats_len ha
  subst hla
  have hbl := bl_len p
  refine spec_of Tryd.func41 rfl Tryd.ntmps41 rfl ?_
  refine CW.seq ?_
  refine CW.reg [0] rfl ?_
  refine s_as 2 rfl rfl ?_
  refine SX.next ?_
  refine CW.seq ?_
  refine CW.reg [0, 1, 2] rfl ?_
  refine s_mv 10 rfl rfl ?_
  refine s_call1 11 rfl rfl rfl rfl (fun w hw => bdeg_spec A p.length c p w (hw.old ha) hp hn hcp) (fun _ _ => trivial) ?_
  refine s_as 3 rfl rfl ?_
  refine SX.next ?_
  refine CW.seq ?_
  refine CW.seq ?_
  refine CW.reg [0, 1, 2, 3, 4, 5] rfl ?_
  refine s_mv 12 rfl rfl ?_
  refine s_lt 13 rfl rfl rfl rfl ?_
  refine s_mv 14 rfl rfl ?_
  refine SX.bool 14 rfl (fun hb => ?_) (fun hb => ?_)
  · skip
    replace hb := of_decide_eq_true hb
    have hz := irrP_none (a := bl p) (by omega)
    refine SX.skip rfl ?_
    refine SX.skip rfl ?_
    refine s_pickT 17 rfl rfl rfl ?_
    refine SX.next ?_
    refine CW.condT rfl ?_
    refine CW.seq ?_
    refine CW.reg [0] rfl ?_
    refine s_as 2 rfl rfl ?_
    refine SX.next ?_
    refine CW.ret ?_
    exact KN.ret (rs := [.tmp 2]) Tryd.results41 rfl (fun w hw => ⟨by rw [hz]; rfl, hw.nothing⟩)
  · skip
    replace hb := of_decide_eq_false hb
    refine s_mv 15 rfl rfl ?_
    refine s_gt 16 rfl rfl rfl rfl ?_
    refine s_pickF 17 rfl rfl rfl ?_
    refine SX.next ?_
    refine CW.test rfl (fun hc2 => ?_) (fun hc2 => ?_)
    · skip
      have hz := irrP_none (a := bl p) (by omega)
      refine CW.seq ?_
      refine CW.reg [0] rfl ?_
      refine s_as 2 rfl rfl ?_
      refine SX.next ?_
      refine CW.ret ?_
      exact KN.ret (rs := [.tmp 2]) Tryd.results41 rfl (fun w hw => ⟨by rw [hz]; rfl, hw.nothing⟩)
    · skip
      have hN : 2 ≤ (bl p).length ∧ (bl p).length ≤ 33 := by omega
      have hexl : (exL (bl p)).length ≤ (bl p).length := exU_len (bl p) (bl p).length (bl p).length
      have hxe : ∀ e ∈ exL (bl p), e < 33 := fun e he => by have := exU_lt (by omega) he; omega
      have hxt := vP_take hxe
      have hxv := hxt (exL (bl p)).length
      rw [List.take_length] at hxv
      have hD : ((bl p).length - 1) / 2 + 1 ≤ 17 := by omega
      refine CW.skip ?_
      refine KN.code ?_
      refine CW.seq ?_
      refine CW.reg [0] rfl ?_
      refine s_as 4 rfl rfl ?_
      refine SX.next ?_
      refine CW.seq ?_
      refine CW.seq ?_
      refine CW.reg [0, 1, 2, 3] rfl ?_
      refine s_mv 18 rfl rfl ?_
      refine s_call 19 rfl rfl rfl rfl (fun w hw => bexp_spec A p.length c p w (hw.old ha) hp hn hcp) (fun _ _ => trivial) (fun q3 hq3 => ?_)
      refine s_len 20 rfl rfl ?_
      refine s_mv 21 rfl rfl ?_
      refine SX.next ?_
      refine CW.block ?_
      refine CW.loop (G := Nat) (fun i => [(3, .int .i64 (((bl p).length : Nat) - 1 : Int)), (4, .int .u64 (vP ((exL (bl p)).take i) : Nat)), (19, .slice q3.1 (exL (bl p)).length q3.2), (20, .int .i64 ((exL (bl p)).length : Nat)), (21, .int .i64 (i : Nat))]) (fun _ => Sto w [own 3 1 q3.1 (exL (bl p)).length q3.2 (nats .i64 (exL (bl p)))]) (fun i => i ≤ (exL (bl p)).length) (fun i => (exL (bl p)).length - i) 0 ⟨rfl, rfl, rfl, rfl, rfl, trivial⟩ (fun _ h => h) (Nat.zero_le _) ?_
      intro i hi
      refine CW.seq ?_
      refine CW.reg [0] rfl ?_
      refine s_lt 22 rfl rfl rfl rfl ?_
      refine SX.next ?_
      refine CW.seq ?_
      refine CW.test rfl (fun hc => ?_) (fun hc => ?_)
      · skip
        have hi2 : i < (exL (bl p)).length := by omega
        have hei := hxe _ (cf_mem hi2)
        have hvi := hxt i
        have hnx : vP ((exL (bl p)).take (i + 1)) = vP ((exL (bl p)).take i) ||| 2 ^ cf (exL (bl p)) i := by rw [take_cf hi2, vP_snoc]
        have hpe : 2 ^ cf (exL (bl p)) i < 2 ^ 33 := Nat.pow_lt_pow_right (by omega) hei
        refine CW.skip ?_
        refine KN.code ?_
        refine CW.seq ?_
        refine CW.block ?_
        refine CW.seq ?_
        refine CW.reg [0, 1, 2] rfl ?_
        refine s_iaO 23 0 i rfl rfl rfl rfl rfl (by omega) ?_
        refine s_ldO 24 0 rfl rfl rfl (natsAtC hi2) ?_
        refine s_as 6 rfl rfl ?_
        refine SX.next ?_
        refine CW.reg [0, 1, 2, 3, 4] rfl ?_
        refine s_mv 25 rfl rfl ?_
        refine s_mv 26 rfl rfl ?_
        refine s_shl 27 rfl rfl rfl (by omega) (shl_one_u64 (by omega)) ?_
        refine s_bit 28 rfl rfl rfl rfl (r := ((vP ((exL (bl p)).take (i + 1)) : Nat) : Int)) (by rw [hnx]; exact ibit_or_u64 (by omega) (by omega)) ?_
        refine s_as 4 rfl rfl ?_
        refine SX.end_ ?_
        refine KN.blk ?_
        refine KN.code ?_
        refine CW.reg [0, 1] rfl ?_
        refine s_add 29 rfl rfl rfl (r := ((i + 1 : Nat) : Int)) (w64 (by omega)) ?_
        refine s_mv 21 rfl rfl ?_
        refine SX.end_ ?_
        exact KN.back (i + 1) ⟨rfl, rfl, rfl, rfl, rfl, trivial⟩ (fun _ h => h) (by omega) (by omega)
      · skip
        obtain rfl : i = (exL (bl p)).length := by omega
        have htk : (exL (bl p)).take (exL (bl p)).length = exL (bl p) := List.take_length
        refine CW.exit rfl ?_
        refine KN.code ?_
        refine CW.seq ?_
        refine CW.seq ?_
        refine CW.reg [0] rfl ?_
        refine s_as 7 rfl rfl ?_
        refine SX.next ?_
        refine CW.block ?_
        refine CW.loop (G := Nat) (fun q => [(3, .int .i64 (((bl p).length : Nat) - 1 : Int)), (4, .int .u64 (vP ((exL (bl p)).take (exL (bl p)).length) : Nat)), (7, .int .u64 (q : Nat))]) (fun _ => Sto w []) (fun q => (2 ≤ q ∧ q ≤ 2 ^ (((bl p).length - 1) / 2 + 1)) ∧ ∀ r, r < q → r < 2 ∨ rm r (vP (exL (bl p))) ≠ 0) (fun q => 2 ^ (((bl p).length - 1) / 2 + 1) - q) 2 ⟨rfl, rfl, rfl, trivial⟩ (fun _ h => h.pick [] rfl) ⟨⟨Nat.le_refl _, show 2 ^ 1 ≤ 2 ^ (((bl p).length - 1) / 2 + 1) from Nat.pow_le_pow_right (by omega) (by omega)⟩, fun r hr => .inl hr⟩ ?_
        rintro q ⟨⟨hq1, hq2⟩, hq3⟩
        have hpw : 2 ^ (((bl p).length - 1) / 2 + 1) ≤ 2 ^ 17 := Nat.pow_le_pow_right (by omega) hD
        refine CW.seq ?_
        refine CW.seq ?_
        refine CW.reg [0, 1, 2, 3, 4, 5] rfl ?_
        refine s_mv 30 rfl rfl ?_
        refine s_mv 31 (v := .int .i64 (((bl p).length - 1) : Nat)) rfl (by rw [show ((((bl p).length - 1) : Nat) : Int) = ((bl p).length : Nat) - 1 by omega]; rfl) ?_
        refine s_quo 32 rfl rfl rfl (by omega) (quo2 ((bl p).length - 1) (by omega)) ?_
        refine s_add 33 rfl rfl rfl (r := ((((bl p).length - 1) / 2 + 1 : Nat) : Int)) (w64 (by omega)) ?_
        refine s_shl 34 rfl rfl rfl (by omega) (shl_one_u64 (by omega)) ?_
        refine s_lt 35 rfl rfl rfl rfl ?_
        refine SX.next ?_
        refine CW.test rfl (fun hc => ?_) (fun hc => ?_)
        · skip
          have hq0 : q ≠ 0 := by omega
          have hbq := blen_le (x := q) (k := 17) (by omega)
          have hbx := blen_le hxv
          refine CW.skip ?_
          refine KN.code ?_
          refine CW.seq ?_
          refine CW.block ?_
          refine CW.seq ?_
          refine CW.reg [0, 1] rfl ?_
          refine s_mv 38 rfl rfl ?_
          refine s_as 8 rfl rfl ?_
          refine SX.next ?_
          refine CW.seq ?_
          refine CW.seq ?_
          refine CW.reg [0, 1, 2, 3, 4, 5] rfl ?_
          refine s_mv 39 rfl rfl ?_
          refine s_call1 40 rfl rfl rfl rfl (fun w hw => len64_spec _ w (by rw [htk]; omega)) (fun _ _ => trivial) ?_
          refine s_mv 41 rfl rfl ?_
          refine s_call1 42 rfl rfl rfl rfl (fun w hw => len64_spec _ w (by omega)) (fun _ _ => trivial) ?_
          refine s_sub 43 rfl rfl rfl (r := ((blen (vP ((exL (bl p)).take (exL (bl p)).length)) : Nat) : Int) - (blen q : Nat)) (by rw [htk]; exact w64 (by omega)) ?_
          refine s_as 9 rfl rfl ?_
          refine SX.next ?_
          refine CW.block ?_
          refine CW.loop (G := Nat) (fun r => [(3, .int .i64 (((bl p).length : Nat) - 1 : Int)), (4, .int .u64 (vP ((exL (bl p)).take (exL (bl p)).length) : Nat)), (7, .int .u64 (q : Nat)), (8, .int .u64 (r : Nat)), (9, .int .i64 ((blen r : Nat) - (blen q : Nat)))]) (fun _ => Sto w []) (fun r => r < 2 ^ 33 ∧ rm q r = rm q (vP (exL (bl p)))) (fun r => blen r) (vP ((exL (bl p)).take (exL (bl p)).length)) ⟨rfl, rfl, rfl, rfl, rfl, trivial⟩ (fun _ h => h) ⟨by rw [htk]; exact hxv, by rw [htk]⟩ ?_
          rintro r ⟨hr1, hr2⟩
          have hbr := blen_le hr1
          refine CW.seq ?_
          refine CW.seq ?_
          refine CW.reg [0, 1] rfl ?_
          refine s_mv 44 rfl rfl ?_
          refine s_ge 45 rfl rfl rfl rfl ?_
          refine SX.next ?_
          refine CW.test rfl (fun hc => ?_) (fun hc => ?_)
          · skip
            have hle : blen q ≤ blen r := by omega
            have hs1 := step_lt hq0 hle
            have hs2 := step_blen hq0 hle
            have hs3 := rm_step hq0 hle
            have hp33 : 2 ^ blen r ≤ 2 ^ 33 := Nat.pow_le_pow_right (by omega) hbr
            have hx33 := Nat.xor_lt_two_pow hr1 (Nat.lt_of_lt_of_le hs1 hp33)
            have hbx2 := blen_le hx33
            refine CW.skip ?_
            refine KN.code ?_
            refine CW.seq ?_
            refine CW.block ?_
            refine CW.reg [0, 1, 2, 3, 4, 5] rfl ?_
            refine s_mv 51 rfl rfl ?_
            refine s_mv 52 rfl rfl ?_
            refine s_mv 53 (v := .int .i64 (blen r - blen q : Nat)) rfl (by rw [show ((blen r - blen q : Nat) : Int) = (blen r : Nat) - (blen q : Nat) by omega]; rfl) ?_
            refine s_shl 54 rfl rfl rfl (by omega) (shl_u64 (by omega) (by omega)) ?_
            refine s_bit 55 rfl rfl rfl rfl (ibit_xor_u64 (by omega) (by omega)) ?_
            refine s_as 8 rfl rfl ?_
            refine SX.end_ ?_
            refine KN.blk ?_
            refine KN.code ?_
            refine CW.reg [0, 1, 2, 3, 4, 5] rfl ?_
            refine s_mv 46 rfl rfl ?_
            refine s_call1 47 rfl rfl rfl rfl (fun w hw => len64_spec _ w (by omega)) (fun _ _ => trivial) ?_
            refine s_mv 48 rfl rfl ?_
            refine s_call1 49 rfl rfl rfl rfl (fun w hw => len64_spec _ w (by omega)) (fun _ _ => trivial) ?_
            refine s_sub 50 rfl rfl rfl (r := ((blen (r ^^^ q * 2 ^ (blen r - blen q)) : Nat) : Int) - (blen q : Nat)) (w64 (by omega)) ?_
            refine s_as 9 rfl rfl ?_
            refine SX.end_ ?_
            exact KN.back (r ^^^ q * 2 ^ (blen r - blen q)) ⟨rfl, rfl, rfl, rfl, rfl, trivial⟩ (fun _ h => h) ⟨hx33, hs3.trans hr2⟩ hs2
          · skip
            have hrd := rm_done (q := q) (r := r) (by omega)
            rw [hrd] at hr2
            refine CW.exit rfl ?_
            refine KN.code ?_
            refine CW.seq ?_
            refine CW.reg [0, 1] rfl ?_
            refine s_mv 56 rfl rfl ?_
            refine s_eq 57 rfl rfl rfl rfl ?_
            refine SX.next ?_
            refine CW.test rfl (fun hc => ?_) (fun hc => ?_)
            · skip
              have hz := irrP_false (a := bl p) (q := q) (by omega) hq1 (by omega)
              refine CW.seq ?_
              refine CW.reg [0] rfl ?_
              refine s_as 2 rfl rfl ?_
              refine SX.next ?_
              refine CW.ret ?_
              exact KN.ret (rs := [.tmp 2]) Tryd.results41 rfl (fun w hw => ⟨by rw [hz]; rfl, hw.nothing⟩)
            · skip
              refine CW.skip ?_
              refine KN.blk ?_
              refine KN.code ?_
              refine CW.reg [0, 1, 2] rfl ?_
              refine s_mv 36 rfl rfl ?_
              refine s_add 37 rfl rfl rfl (r := ((q + 1 : Nat) : Int)) (wu64' (x := q + 1) (by omega)) ?_
              refine s_as 7 rfl rfl ?_
              refine SX.end_ ?_
              exact KN.back (q + 1) ⟨rfl, rfl, rfl, trivial⟩ (fun _ h => h) ⟨⟨by omega, by omega⟩, fun s hs => by
  by_cases h : s = q
  · subst h; right; omega
  · exact hq3 s (by omega)⟩ (by omega)
        · skip
          obtain rfl : q = 2 ^ (((bl p).length - 1) / 2 + 1) := by omega
          have hz := irrP_true hN hq3
          refine CW.exit rfl ?_
          refine KN.code ?_
          refine CW.seq ?_
          refine CW.reg [0] rfl ?_
          refine s_as 2 rfl rfl ?_
          refine SX.next ?_
          refine CW.ret ?_
          exact KN.ret (rs := [.tmp 2]) Tryd.results41 rfl (fun w hw => ⟨by rw [hz]; rfl, hw.nothing⟩)
end Go.Proofs.YtcdmmfpgeagimaaDoor
end
section
/- Bytes as text, and texts compared. No condition. -/
namespace Go.Sx
open Go

/-- The text of bytes. -/
def strB (l : List Nat) : ByteArray := strOfNums (l.map Int.ofNat)
theorem strB_list (l : List Nat) : (strB l).data.toList = l.map UInt8.ofNat := by
  unfold strB
  rw [strOfNums_data, List.map_map]
  rfl
theorem strB_inj {a b : List Nat} (ha : ∀ x ∈ a, x < 256) (hb : ∀ x ∈ b, x < 256) (h : strB a = strB b) : a = b := by
  have e : a.map UInt8.ofNat = b.map UInt8.ofNat := by rw [← strB_list, ← strB_list, h]
  have k : ∀ l : List Nat, (∀ x ∈ l, x < 256) → (l.map UInt8.ofNat).map UInt8.toNat = l := fun l hl => by
    rw [List.map_map]
    conv => rhs; rw [← List.map_id l]
    exact List.map_congr_left (fun x hx => by
      show (UInt8.ofNat x).toNat = x
      rw [UInt8.toNat_ofNat']
      exact Nat.mod_eq_of_lt (hl x hx))
  rw [← k a ha, ← k b hb, e]
theorem byteList_eq {x y : ByteArray} (h : x.toList = y.toList) : x = y := by
  rw [ByteArray.toList_eq, ByteArray.toList_eq] at h
  cases x; cases y
  simp only [ByteArray.mk.injEq]
  exact Array.toList_inj.1 h
theorem strB_beq {a b : List Nat} (ha : ∀ x ∈ a, x < 256) (hb : ∀ x ∈ b, x < 256) : ((strB a).toList == (strB b).toList) = decide (a = b) := by
  by_cases h : a = b
  · subst h; simp
  · rw [decide_eq_false h]
    rw [beq_eq_false_iff_ne]
    exact fun e => h (strB_inj ha hb (byteList_eq e))
theorem run_b2s {P : Program} {w : World} {T E D by_ : Nat} {zv : Value} [hT : SlT P T E 1 by_ zv] (he : P.underlying E = some (.int .u8)) (hd : P.underlying D = some .string) {A : Option Addr} {n c : Nat} {l : List Nat} (hv : Has (sl 1 A n (nats .u8 l)) w) :
    (convert T D (.slice A n c)).run P w = .ok (.string (strB l)) w := by
  have hln := nats_len hv
  by_cases h0 : n = 0
  · subst h0
    obtain rfl := List.eq_nil_of_length_eq_zero hln
    cases A with
    | none => exact run_convert_bytes_nil w T E hT.under he 0 c D hd
    | some a =>
      rw [run_convert_bytes_string w T D E _ 0 c hT.under he hd, run_bytesToString w a 0 c [] (by unfold loadCells loadCellsFrom; rfl)]
      rfl
  · have hA := hv.sl_some h0
    rw [hA]
    exact run_convert_bytes_arg w T E hT.under he _ _ n c (l.map Int.ofNat) (by simpa using hln) (fun i hi => by
      have := (hv.sl_cell h0 (j := i) (by rw [natsAt (by omega)])).2
      rw [this]
      simp [show i < l.length by omega]) D hd
section
variable {P : Program} {ops : Array Oper} {S : World → Prop} {K : Act → World → Prop} {p : Plan} {n : Nat} {l : List (Nat × Value)} {C : World → Prop} {fl : Bool} {i : Nat} {ty ty' ty2 : TypeId} {x y : Operand}
theorem s_b2s (d : Nat) {E by_ : Nat} {zv : Value} {A : Option Addr} {m c : Nat} {b : List Nat} (ho : opAt ops n l i = some (some d, .convert ty ty' x, ty2)) [SlT P ty E 1 by_ zv] (he : P.underlying E = some (.int .u8)) (hd : P.underlying ty' = some .string) (hx : ev l x = some (.slice A m c)) (hv : ∀ w, C w → Has (sl 1 A m (nats .u8 b)) w)
    (h : SX P ops S K p n ((d, .string (strB b)) :: l) C) : SX P ops S K (.st false i p) n l C :=
  SX.val ho (fun a w o hen _ hs h1 _ => by simp only [execOp, h1, hen.ev hx, Sem.run_bind, run_b2s (c := c) he hd (hv w (hs rfl)), Result.andThen_ok, Sem.run_pure]) h
theorem s_b2sS (d : Nat) {E by_ : Nat} {zv : Value} {A : Option Addr} {m c : Nat} {b : List Nat} (ho : opAt ops n l i = some (some d, .convert ty ty' x, ty2)) [SlT P ty E 1 by_ zv] (he : P.underlying E = some (.int .u8)) (hd : P.underlying ty' = some .string) (hx : ev l x = some (.slice A m c)) (hv : ∀ w, S w → Has (sl 1 A m (nats .u8 b)) w)
    (h : SX P ops S K p n ((d, .string (strB b)) :: l) C) : SX P ops S K (.st true i p) n l C :=
  SX.val ho (fun a w o hen hs _ h1 _ => by simp only [execOp, h1, hen.ev hx, Sem.run_bind, run_b2s (c := c) he hd (hv w (hs rfl)), Result.andThen_ok, Sem.run_pure]) h
theorem s_eqS (d : Nat) {a b : ByteArray} {r : Bool} (ho : opAt ops n l i = some (some d, .binOp .eql ty x y ty', ty2)) (hx : ev l x = some (.string a)) (hy : ev l y = some (.string b)) (hr : (a.toList == b.toList) = r)
    (h : SX P ops S K p n ((d, .bool r) :: l) C) : SX P ops S K (.st fl i p) n l C :=
  SX.pure ho (fun e w o he h1 _ => by
    subst hr
    have eg : ∀ (x y : Operand) (v : Value), (eqGuard .eql ty x y (.string a) v).run P w = .ok () w := fun x y v => by simp [eqGuard]
    simp only [execOp, h1, he.ev hx, he.ev hy, Sem.run_bind, eg, binOp_string_eql, Result.andThen_ok, Sem.run_pure]) h
end
end Go.Sx
end
section
/- The contracts of package binpoly: sums of powers; and of the document's comparisons of bytes. Conditions: the lists are bytes, read where they lie. -/
namespace Go.Proofs.YtcdmmfpgeagimaaDoor
open Go Go.Lib Go.Sx Go.Fm
set_option maxRecDepth 100000

theorem sameBytes_spec (A : Option Addr) (n c : Nat) (p : List Nat) (A2 : Option Addr) (n2 c2 : Nat) (p2 : List Nat) (w : World) (ha : Has (sl 1 A n (nats .u8 p)) w) (hp : ∀ x ∈ p, x < 256) (ha2 : Has (sl 1 A2 n2 (nats .u8 p2)) w) (hp2 : ∀ x ∈ p2, x < 256) : Spec1 Tryd.prog 49 [.slice A n c, .slice A2 n2 c2] w (.bool (decide (p = p2))) := by
  refine spec_of Tryd.func49 rfl Tryd.ntmps49 rfl ?_
  refine CW.seq ?_
  refine CW.reg [0] rfl ?_
  refine s_as 4 rfl rfl ?_
  refine SX.next ?_
  refine CW.seq ?_
  refine CW.reg [0, 1, 2, 3, 4, 5] rfl ?_
  refine s_mv 5 rfl rfl ?_
  refine s_b2s 6 (b := p) rfl (by kernel_rfl) (by kernel_rfl) rfl (fun w hw => hw.old ha) ?_
  refine s_mv 7 rfl rfl ?_
  refine s_b2s 8 (b := p2) rfl (by kernel_rfl) (by kernel_rfl) rfl (fun w hw => hw.old ha2) ?_
  refine s_eqS 9 rfl rfl rfl (strB_beq hp hp2) ?_
  refine s_as 4 rfl rfl ?_
  refine SX.next ?_
  refine CW.ret ?_
  exact KN.ret (rs := [.tmp 4]) Tryd.results49 rfl (fun w hw => ⟨rfl, hw.nothing⟩)

theorem bare_spec (A : Option Addr) (n c : Nat) (p : List Nat) (w : World) (ha : Has (sl 1 A n (nats .u8 p)) w) (_hp : ∀ x ∈ p, x < 256) (hn : n ≤ 1073741824) (hcp : n ≤ c) (ht : trim p = p) : Spec1 Tryd.prog 97 [.slice A n c] w (.bool true) := by
  have hla := nats_len ha
  subst hla
  have htt := trim_length p
  rw [ht] at htt
  refine spec_of Tryd.func97 rfl Tryd.ntmps97 rfl ?_
  refine CW.seq ?_
  refine CW.reg [0] rfl ?_
  refine s_as 2 rfl rfl ?_
  refine SX.next ?_
  refine CW.seq ?_
  refine CW.reg [0, 1, 2, 3, 4, 5, 6, 7, 8, 9, 10, 11, 12] rfl ?_
  refine s_mv 3 rfl rfl ?_
  refine s_len 4 rfl rfl ?_
  refine s_eq 5 rfl rfl rfl rfl ?_
  refine s_mv 6 rfl rfl ?_
  refine SX.bool 6 rfl (fun hb => ?_) (fun hb => ?_)
  · skip
    skip
    refine SX.skip rfl ?_
    refine SX.skip rfl ?_
    refine SX.skip rfl ?_
    refine SX.skip rfl ?_
    refine SX.skip rfl ?_
    refine SX.skip rfl ?_
    refine SX.skip rfl ?_
    refine s_pickT 14 rfl rfl rfl ?_
    refine s_as 2 rfl rfl ?_
    refine SX.next ?_
    refine CW.ret ?_
    exact KN.ret (rs := [.tmp 2]) Tryd.results97 rfl (fun w hw => ⟨rfl, hw.nothing⟩)
  · skip
    replace hb := of_decide_eq_false hb
    have htop := cf_top p (by omega)
    rw [← htt] at htop
    refine s_mv 7 rfl rfl ?_
    refine s_mv 8 rfl rfl ?_
    refine s_len 9 rfl rfl ?_
    refine s_sub 10 rfl rfl rfl (r := ((p.length - 1 : Nat) : Int)) (by rw [show ((p.length : Nat) : Int) - 1 = ((p.length - 1 : Nat) : Int) by omega]; exact w64 (by omega)) ?_
    refine s_iaV 11 (p.length - 1) (fun w hw => hw.old ha) rfl rfl rfl rfl (by omega) ?_
    refine s_ldV 12 (fun w hw => hw.old ha) rfl rfl (by rw [Nat.mul_one]; exact natsAt8 (by omega)) (by omega) ?_
    refine s_ne 13 rfl rfl rfl (decide_eq_true (by omega)) ?_
    refine s_pickF 14 rfl rfl rfl ?_
    refine s_as 2 rfl rfl ?_
    refine SX.next ?_
    refine CW.ret ?_
    exact KN.ret (rs := [.tmp 2]) Tryd.results97 rfl (fun w hw => ⟨rfl, hw.nothing⟩)

theorem bsame_spec (A : Option Addr) (n c : Nat) (p : List Nat) (A2 : Option Addr) (n2 c2 : Nat) (p2 : List Nat) (w : World) (ha : Has (sl 1 A n (nats .u8 p)) w) (hp : ∀ x ∈ p, x < 256) (hn : n ≤ 1073741824) (hcp : n ≤ c) (ht : trim p = p) (ha2 : Has (sl 1 A2 n2 (nats .u8 p2)) w) (hp2 : ∀ x ∈ p2, x < 256) : Spec1 Tryd.prog 36 [.slice A n c, .slice A2 n2 c2] w (.bool (decide (p = p2))) := by
  refine spec_of Tryd.func36 rfl Tryd.ntmps36 rfl ?_
  refine CW.seq ?_
  refine CW.reg [0] rfl ?_
  refine s_as 4 rfl rfl ?_
  refine SX.next ?_
  refine CW.seq ?_
  refine CW.reg [0, 1, 2, 3, 4, 5, 6, 7] rfl ?_
  refine s_mv 5 rfl rfl ?_
  refine s_call1 6 rfl rfl rfl rfl (fun w hw => bare_spec A n c p w (hw.old ha) hp hn hcp ht) (fun _ _ => trivial) ?_
  refine s_mv 7 rfl rfl ?_
  refine s_mv 8 rfl rfl ?_
  refine s_mv 9 rfl rfl ?_
  refine s_call1 10 rfl rfl rfl rfl (fun w hw => sameBytes_spec A n c p A2 n2 c2 p2 w (hw.old ha) hp (hw.old ha2) hp2) (fun _ _ => trivial) ?_
  refine s_pickT 11 rfl rfl rfl ?_
  refine s_as 4 rfl rfl ?_
  refine SX.next ?_
  refine CW.ret ?_
  exact KN.ret (rs := [.tmp 4]) Tryd.results36 rfl (fun w hw => ⟨rfl, hw.nothing⟩)

/-! ### Powers of x -/
theorem one_bys (n : Nat) : (List.replicate (n / 8 + 1) 0).set (n / 8) (2 ^ (n % 8)) = bys (xP n) := by
  have hv : 2 ^ (n % 8) < 256 := Nat.pow_lt_pow_right (n := 8) (by omega) (Nat.mod_lt _ (by omega))
  have hl : ∀ x ∈ (List.replicate (n / 8 + 1) 0).set (n / 8) (2 ^ (n % 8)), x < 256 := set_lt (zeros_lt _) hv
  have ht : trim ((List.replicate (n / 8 + 1) 0).set (n / 8) (2 ^ (n % 8))) = (List.replicate (n / 8 + 1) 0).set (n / 8) (2 ^ (n % 8)) := by
    refine trim_of ?_
    have h1 := tl_le ((List.replicate (n / 8 + 1) 0).set (n / 8) (2 ^ (n % 8)))
    have h2 : ((List.replicate (n / 8 + 1) 0).set (n / 8) (2 ^ (n % 8))).length = n / 8 + 1 := by simp
    refine Nat.le_antisymm h1 (Nat.le_of_not_lt fun hlt => ?_)
    have h3 := cf_hi _ (n / 8) (show tl ((List.replicate (n / 8 + 1) 0).set (n / 8) (2 ^ (n % 8))) ≤ n / 8 by omega)
    rw [cf_set (by simp), if_pos rfl] at h3
    have := Nat.two_pow_pos (n % 8)
    omega
  rw [← ht]
  refine bys_of hl (xP_b1 n) (fun j => ?_)
  rw [cf_xP]
  by_cases h : j / 8 = n / 8
  · unfold bitN
    rw [cf_set (by simp), if_pos h, shr_two, Nat.testBit_two_pow]
    by_cases h2 : j = n
    · subst h2; simp
    · rw [if_neg h2, decide_eq_false (by omega)]
      rfl
  · rw [if_neg (by omega)]
    refine bitN_zero ?_
    rw [cf_set (by simp), if_neg h]
    unfold cf
    simp only [List.getD_eq_getElem?_getD]
    rw [List.getElem?_replicate]
    split <;> rfl
theorem xP_len (n : Nat) : (bys (xP n)).length = n / 8 + 1 := by rw [← one_bys]; simp
theorem repl8 (N i v : Nat) : (List.replicate N (Value.int .u8 0)).toArray.setIfInBounds i (.int .u8 (v : Nat)) = (nats .u8 ((List.replicate N 0).set i v)).toArray := by
  rw [List.setIfInBounds_toArray, ← nats_set]
  simp [nats]

theorem one_spec (n : Nat) (w : World) (hn : n ≤ 1000000) : SpecB Tryd.prog 129 [.int .i64 (n : Nat)] w (bys (xP n)) := by
  have hob := one_bys n
  have hxl := xP_len n
  have hv : 2 ^ (n % 8) < 256 := Nat.pow_lt_pow_right (n := 8) (by omega) (Nat.mod_lt _ (by omega))
  refine spec_of Tryd.func129 rfl Tryd.ntmps129 rfl ?_
  refine CW.seq ?_
  refine CW.reg [0] rfl ?_
  refine s_as 2 rfl rfl ?_
  refine SX.next ?_
  refine CW.seq ?_
  refine CW.reg [0, 1, 2, 3, 4] rfl ?_
  refine s_mv 4 rfl rfl ?_
  refine s_quo 5 rfl rfl rfl (by omega) (quo8 n (by omega)) ?_
  refine s_add 6 rfl rfl rfl (r := (((n / 8 + 1) : Nat) : Int)) (w64 (by omega)) ?_
  refine s_make 7 (n / 8 + 1) rfl rfl rfl rfl rfl (by omega) (fun _ _ => trivial) (fun go => ?_)
  refine s_as 3 rfl rfl ?_
  refine SX.next ?_
  refine CW.seq ?_
  refine CW.reg [0, 1, 2, 3, 4, 5, 6, 7] rfl ?_
  refine s_mv 8 rfl rfl ?_
  refine s_mv 9 rfl rfl ?_
  refine s_quo 10 rfl rfl rfl (by omega) (quo8 n (by omega)) ?_
  refine s_mv 11 rfl rfl ?_
  refine s_rem 12 rfl rfl rfl (by omega) (tmod8 n) ?_
  refine s_shl 13 rfl rfl rfl (by omega) (r := ((2 ^ (n % 8) : Nat) : Int)) (by rw [show (1 : Int) = ((1 : Nat) : Int) from rfl, shl_u8 (by omega), Nat.one_mul, Nat.mod_eq_of_lt hv]) ?_
  refine s_ia0 14 (n / 8) rfl rfl rfl rfl (by omega) ?_
  refine s_stB 0 rfl rfl rfl rfl rfl (by simp) (fun _ _ => trivial) ?_
  refine SX.next ?_
  refine CW.seq ?_
  refine CW.reg [0, 1] rfl ?_
  refine s_mv 15 rfl rfl ?_
  refine s_as 2 rfl rfl ?_
  refine SX.next ?_
  refine CW.ret ?_
  exact KN.ret (rs := [.tmp 2]) Tryd.results129 rfl (fun w hw => ⟨(some ⟨go, 0, none⟩, (n / 8 + 1)), by rw [hxl]; rfl, by rw [hxl]; exact Nat.le_refl _, by
  rw [hxl]
  rw [repl8, hob] at hw
  exact hw.blkOwn (q := 0) (c := (n / 8 + 1)) rfl (by simp [hxl]) (by unfold maxLen; omega)⟩)

/-! ### Sums of many -/
theorem _root_.Go.Sx.St.swp {F : Nat → Prop} {w₀ w : World} {A B : Atom} {L : List Atom} (h : St F w₀ (A :: B :: L) w) : St F w₀ (B :: A :: L) w := ⟨h.fr, h.lt, h.sep.swap⟩
def BlG.hdr (b : BlG) : Value := .slice b.A b.l.length b.c
def ownB (b : BlG) : Atom := own 5 1 b.A b.l.length b.c (nats .u8 b.l)
structure BlG.Fine (b : BlG) (w : World) : Prop where
  has : Has (sl 1 b.A b.l.length (nats .u8 b.l)) w
  lt : ∀ x ∈ b.l, x < 256
  bd : b.l.length ≤ 1000000
  cap : b.l.length ≤ b.c
/-- The sum of the first i. -/
def sumF (f : Nat → List Nat) : Nat → List Nat
  | 0 => []
  | i + 1 => addP (sumF f i) (f i)
theorem sumF_b1 {f : Nat → List Nat} (hf : ∀ i, B1 (f i)) : ∀ i, B1 (sumF f i)
  | 0 => nil_b1
  | i + 1 => addP_b1 (sumF_b1 hf i) (hf i)
theorem addP_le8 (a b : List Nat) : (addP a b).length ≤ max a.length b.length := by
  unfold addP pl
  rw [trim_length]
  simpa using tl_le ((List.range (max a.length b.length)).map fun j => cf a j ^^^ cf b j)
theorem sumF_le {f : Nat → List Nat} {K : Nat} : ∀ {i : Nat}, (∀ j, j < i → (f j).length ≤ K) → (sumF f i).length ≤ K
  | 0, _ => Nat.zero_le _
  | i + 1, h => by
    have h1 := addP_le8 (sumF f i) (f i)
    have h2 := sumF_le (i := i) (fun j hj => h j (by omega))
    have h3 := h i (by omega)
    show (addP (sumF f i) (f i)).length ≤ K
    omega
theorem sumF_congr {f g : Nat → List Nat} : ∀ {i : Nat}, (∀ j, j < i → f j = g j) → sumF f i = sumF g i
  | 0, _ => rfl
  | i + 1, h => by
    show addP (sumF f i) (f i) = addP (sumF g i) (g i)
    rw [sumF_congr (i := i) (fun j hj => h j (by omega)), h i (by omega)]
/-- Its bytes. -/
def sumY (f : Nat → List Nat) : Nat → List Nat
  | 0 => []
  | i + 1 => bys (sumF f (i + 1))
theorem sumY_eq (f : Nat → List Nat) : ∀ i, sumY f i = bys (sumF f i)
  | 0 => bys_nil.symm
  | _ + 1 => rfl
def blAt (bs : List BlG) (i : Nat) : List Nat := bl (bs.getD i ⟨none, 0, []⟩).l
theorem blAt_some {bs : List BlG} {i : Nat} {b : BlG} (h : bs[i]? = some b) : blAt bs i = bl b.l := by
  unfold blAt
  rw [List.getD_eq_getElem?_getD, h]
  rfl

theorem fold_spec (A : Option Addr) (n c : Nat) (bs : List BlG) (w : World) (ha : Has (sl 1 A n (bs.map BlG.hdr)) w) (hb : ∀ b ∈ bs, b.Fine w) (hn : n ≤ 1000000) : SpecB Tryd.prog 130 [.slice A n c, .func (.func 29) #[] #[]] w (sumY (blAt bs) bs.length) := by
  have hla : bs.length = n := by have := ha.sl_len; simpa using this
  subst hla
  refine spec_of Tryd.func130 rfl Tryd.ntmps130 rfl ?_
  refine CW.seq ?_
  refine CW.reg [0] rfl ?_
  refine s_as 4 rfl rfl ?_
  refine SX.next ?_
  refine CW.seq ?_
  refine CW.reg [0] rfl ?_
  refine s_as 5 rfl rfl ?_
  refine SX.next ?_
  refine CW.seq ?_
  refine CW.seq ?_
  refine CW.reg [0, 1, 2] rfl ?_
  refine s_mv 8 rfl rfl ?_
  refine s_len 9 rfl rfl ?_
  refine s_mv 10 rfl rfl ?_
  refine SX.next ?_
  refine CW.block ?_
  refine CW.loop (G := Nat × Option Addr × Nat) (fun q => [(1, .func (.func 29) #[] #[]), (5, .slice q.2.1 (sumY (blAt bs) q.1).length q.2.2), (8, .slice A bs.length c), (9, .int .i64 (bs.length : Nat)), (10, .int .i64 (q.1 : Nat))]) (fun q => Sto w [own 5 1 q.2.1 (sumY (blAt bs) q.1).length q.2.2 (nats .u8 (sumY (blAt bs) q.1))]) (fun q => q.1 ≤ bs.length ∧ (sumY (blAt bs) q.1).length ≤ q.2.2) (fun q => bs.length - q.1) (0, none, 0) ⟨rfl, rfl, rfl, rfl, rfl, trivial⟩ (fun _ h => h.begin_ _ 1) ⟨Nat.zero_le _, Nat.le_refl 0⟩ ?_
  rintro ⟨i, q⟩ ⟨hi, hq⟩
  simp only at hi hq
  dsimp only
  refine CW.seq ?_
  refine CW.reg [0] rfl ?_
  refine s_lt 11 rfl rfl rfl rfl ?_
  refine SX.next ?_
  refine CW.seq ?_
  refine CW.test rfl (fun hc => ?_) (fun hc => ?_)
  · skip
    obtain ⟨b, hbi⟩ : ∃ b, bs[i]? = some b := ⟨_, List.getElem?_eq_getElem (by omega)⟩
    obtain ⟨hb1, hb2, hb3, hb4⟩ := hb b (List.mem_of_getElem? hbi)
    have hcell : (bs.map BlG.hdr)[i * 1]? = some (BlG.hdr b) := by rw [Nat.mul_one, List.getElem?_map, hbi]; rfl
    have hsb := sumF_b1 (f := blAt bs) (fun j => bl_b1 _) i
    have hbl : bl (sumY (blAt bs) i) = sumF (blAt bs) i := by rw [sumY_eq]; exact bl_bys hsb
    have hlt8 : ∀ x ∈ (sumY (blAt bs) i), x < 256 := by rw [sumY_eq]; exact (bys_tr hsb.le).lt
    have hsl := sumF_le (f := blAt bs) (K := 8000000) (i := i) (fun j hj => by
      obtain ⟨b2, hb2⟩ : ∃ b, bs[j]? = some b := ⟨_, List.getElem?_eq_getElem (by omega)⟩
      rw [blAt_some hb2]
      have h1 := bl_len b2.l
      have h2 := (hb b2 (List.mem_of_getElem? hb2)).bd
      omega)
    have hbyl := bys_len (sumF (blAt bs) i)
    rw [← sumY_eq] at hbyl
    have hnx : sumY (blAt bs) (i + 1) = bys (addP (sumF (blAt bs) i) (bl b.l)) := by rw [← blAt_some hbi]; rfl
    refine CW.skip ?_
    refine KN.code ?_
    refine CW.seq ?_
    refine CW.block ?_
    refine CW.seq ?_
    refine CW.reg [0, 1, 2] rfl ?_
    refine s_iaV 12 i (fun w hw => hw.old ha) rfl rfl rfl rfl (by omega) ?_
    refine s_ldV 13 (v := .slice b.A b.l.length b.c) (fun w hw => hw.old ha) rfl rfl hcell (by omega) ?_
    refine s_as 7 rfl rfl ?_
    refine SX.next ?_
    refine CW.reg [0, 1, 2, 3, 4] rfl ?_
    refine s_mv 14 rfl rfl ?_
    refine s_mv 15 rfl rfl ?_
    refine s_mv 16 rfl rfl ?_
    refine s_call 17 rfl rfl rfl rfl (fun w hw => by have := badd_spec q.1 (sumY (blAt bs) i).length q.2 (sumY (blAt bs) i) b.A b.l.length b.c b.l w ((hw.has (i := 0) rfl).of_own) hlt8 (by omega) hq (hw.old hb1) hb2 (by omega) hb4; rw [hbl, ← hnx] at this; exact this) (fun _ _ => trivial) (fun q2 hq2 => ?_)
    refine s_as 5 rfl rfl ?_
    refine SX.end_ ?_
    refine KN.blk ?_
    refine KN.code ?_
    refine CW.reg [0, 1] rfl ?_
    refine s_add 18 rfl rfl rfl (r := ((i + 1 : Nat) : Int)) (w64 (by omega)) ?_
    refine s_mv 10 rfl rfl ?_
    refine SX.end_ ?_
    exact KN.back (i + 1, q2) ⟨rfl, rfl, rfl, rfl, rfl, trivial⟩ (fun _ h => h.pick [0] rfl) ⟨by simp only; omega, hq2⟩ (by simp only; omega)
  · skip
    obtain rfl : i = bs.length := by omega
    refine CW.exit rfl ?_
    refine KN.code ?_
    refine CW.seq ?_
    refine CW.reg [0, 1] rfl ?_
    refine s_mv 19 rfl rfl ?_
    refine s_as 4 rfl rfl ?_
    refine SX.next ?_
    refine CW.ret ?_
    exact KN.ret (rs := [.tmp 4]) Tryd.results130 rfl (fun w hw => ⟨q, rfl, hq, hw⟩)
end Go.Proofs.YtcdmmfpgeagimaaDoor
end
section
/- Package buffer: its iterator, its entries, New; entries that are the same. Conditions: the buffer is read where it lies. -/
namespace Go.Proofs.YtcdmmfpgeagimaaDoor
open Go Go.Lib Go.Sx Go.Fm
set_option maxRecDepth 100000
def gE (es : List EntG) (i : Nat) : EntG := es.getD i ⟨0, false, none, 0, []⟩
theorem gE_at {es : List EntG} {i : Nat} (h : i < es.length) : es[i]? = some (gE es i) := by
  unfold gE
  rw [List.getD_eq_getElem?_getD, List.getElem?_eq_getElem h, Option.getD_some]
theorem gE_mem {es : List EntG} {i : Nat} (h : i < es.length) : gE es i ∈ es := List.mem_of_getElem? (gE_at h)
def aggE (e : EntG) (z : Option Addr × Nat) : Value := .agg #[.int .i64 e.k, .bool e.tr, .slice z.1 e.l.length z.2]
/-- The entries in new memory, as many as were told. -/
structure CopyG (es : List EntG) (i : Nat) (x : BufG) : Prop where
  len : x.es.length = i
  abs : absE x.es = absE (es.take i)
theorem CopyG.next {es : List EntG} {i : Nat} {x : BufG} (h : CopyG es i x) (hi : i < es.length) (A : Option Addr) (c : Nat) (z : Option Addr × Nat) : CopyG es (i + 1) ⟨A, c, x.es ++ [⟨(gE es i).k, (gE es i).tr, z.1, z.2, (gE es i).l⟩]⟩ := by
  refine ⟨by simp only; rw [List.length_append, h.len]; rfl, ?_⟩
  have e : es.take (i + 1) = es.take i ++ [gE es i] := by rw [List.take_add_one, gE_at hi]; rfl
  simp only
  rw [e]
  unfold absE
  rw [List.map_append, List.map_append, show x.es.map EntG.abs = (es.take i).map EntG.abs from h.abs]
  rfl
theorem CopyG.done {es : List EntG} {x : BufG} (h : CopyG es es.length x) : absE x.es = absE es := by rw [h.abs, List.take_length]

theorem eachIt (b bx : Nat) (A : Option Addr) (c : Nat) (es : List EntG) (w : World) (hs : Has (sl 3 A es.length (rowsE es)) w) (hn : es.length ≤ 100000) (hb : w.cell? ⟨b, 3, none⟩ = some (.slice A es.length c)) (hd : ∀ e ∈ es, Has (sl 1 e.A e.l.length (nats .u8 e.l)) w) (hl : ∀ e ∈ es, e.l.length ≤ 1000000) : IterX Tryd.prog w 105 [.pointer (some ⟨bx, 0, none⟩)] [blk bx 69 #[.pointer (some ⟨b, 0, none⟩)]] (X := Option Addr × Nat) (fun i x => [.int .i64 (i : Nat), aggE (gE es i) x]) (fun i x => (gE es i).l.length ≤ x.2) (fun i x => [own 5 1 x.1 (gE es i).l.length x.2 (nats .u8 (gE es i).l)]) es.length := by
  intro lr J Jx R w1 hY hw
  refine calls_ofI Tryd.func105 rfl Tryd.ntmps105 rfl (C := Sto w [J 0, blk bx 69 #[.pointer (some ⟨b, 0, none⟩)], R]) hw ?_
  refine CWI.seq ?_
  refine CWI.reg [0, 1, 2, 3, 4, 5, 6] rfl (by kernel_rfl) ?_
  refine SXI.of (fun _ hK => s_ld 5 rfl rfl (fun _ h => h.blkCell (i := 1) rfl rfl) (SX.done hK)) ?_
  refine SXI.of (fun _ hK => s_nil 6 rfl rfl (SX.done hK)) ?_
  refine SXI.of (fun _ hK => s_fa 7 rfl rfl (SX.done hK)) ?_
  refine SXI.of (fun _ hK => s_ld 8 rfl rfl (v := .slice A es.length c) (fun _ h => h.cell hb) (SX.done hK)) ?_
  refine SXI.of1 (fun _ hK => s_call 9 rfl rfl rfl rfl (fun w2 hw => cloneE_spec A c es w2 (hw.old hs) hn) (fun _ _ => trivial) (fun x hx => SX.done (hK x hx))) (fun z hz => ?_)
  refine SXI.of (fun _ hK => s_len 10 rfl rfl (SX.done hK)) ?_
  refine SXI.of (fun _ hK => s_mv 11 rfl rfl (SX.done hK)) ?_
  refine SXI.next ?_
  refine CWI.block ?_
  refine CWI.loop (G := Nat) (fun _ => []) (fun i => [(0, .func (.yield lr) #[] #[]), (9, .slice z.1 es.length z.2), (10, .int .i64 (es.length : Nat)), (11, .int .i64 (i : Nat))]) (fun i => Sto w [own 73 3 z.1 es.length z.2 (rowsE es), J i, blk bx 69 #[.pointer (some ⟨b, 0, none⟩)], R]) (fun i => i ≤ es.length) (fun i => es.length - i) 0 rfl ⟨rfl, rfl, rfl, rfl, trivial⟩ (fun _ h => h) (Nat.zero_le _) ?_
  intro i hi
  refine CWI.seq ?_
  refine CWI.reg [0] rfl (by kernel_rfl) ?_
  refine SXI.of (fun _ hK => s_lt 12 rfl rfl rfl rfl (SX.done hK)) ?_
  refine SXI.next ?_
  refine CWI.seq ?_
  refine CWI.test rfl (fun hc => ?_) (fun hc => ?_)
  · skip
    have hil : i < es.length := by omega
    have he := gE_at hil
    have hem := gE_mem hil
    refine CWI.skip ?_
    refine KNI.code ?_
    refine CWI.seq ?_
    refine CWI.block ?_
    refine CWI.seq ?_
    refine CWI.reg [0, 1, 2, 3, 4, 5] rfl (by kernel_rfl) ?_
    refine SXI.of (fun _ hK => s_mv 13 rfl rfl (SX.done hK)) ?_
    refine SXI.of (fun _ hK => s_iaV 14 i (fun w hw => (hw.has (i := 0) rfl).of_own) rfl rfl rfl rfl hil (SX.done hK)) ?_
    refine SXI.of (fun _ hK => s_ldR 15 (cs := (gE es i).row) rfl rfl rfl (fun w hw => ((hw.has (i := 0) rfl).of_own).entRow he) (SX.done hK)) ?_
    refine SXI.of1 (pf := fun _ => True) (fun _ hK => s_alloc 4 rfl (fun _ _ => trivial) (fun x => SX.done (hK x trivial))) (fun b4 _ => ?_)
    refine SXI.of (fun _ hK => s_as 3 rfl rfl (SX.done hK)) ?_
    refine SXI.of (fun _ hK => s_stAll 0 rfl rfl (by kernel_rfl) rfl rfl rfl rfl (fun _ _ => trivial) (SX.done hK)) ?_
    refine SXI.next ?_
    refine CWI.seq ?_
    refine CWI.reg [0, 1, 2, 3, 4, 5] rfl (by kernel_rfl) ?_
    refine SXI.of (fun _ hK => s_mv 16 rfl rfl (SX.done hK)) ?_
    refine SXI.of (fun _ hK => s_mv 17 rfl rfl (SX.done hK)) ?_
    refine SXI.of (fun _ hK => s_ldW 18 0 rfl rfl rfl (SX.done hK)) ?_
    refine SXI.of1 (fun _ hK => s_call 19 rfl rfl rfl rfl (fun w2 hw => copied_spec (gE es i) w2 (hw.old (hd _ hem)) (hl _ hem)) (fun _ _ => trivial) (fun x hx => SX.done (hK x hx))) (fun z2 hz2 => ?_)
    refine s_yieldX 20 [3, 0, 1, 1, 1] z2 hY hil hz2 rfl rfl rfl rfl (fun _ _ _ => trivial) ?_ ?_
    · skip
      refine SXI.of (fun _ hK => s_not 21 rfl rfl (SX.done hK)) ?_
      refine SXI.next ?_
      refine CWI.condF rfl ?_
      refine CWI.skip ?_
      refine KNI.blk ?_
      refine KNI.code ?_
      refine CWI.reg [0, 1] rfl (by kernel_rfl) ?_
      refine SXI.of (fun _ hK => s_add 22 rfl rfl rfl (r := ((i + 1 : Nat) : Int)) (w64 (by omega)) (SX.done hK)) ?_
      refine SXI.of (fun _ hK => s_mv 11 rfl rfl (SX.done hK)) ?_
      refine SXI.end_ ?_
      exact KNI.back (i + 1) rfl ⟨rfl, rfl, rfl, rfl, trivial⟩ (fun _ h => h.pick [1, 0, 0, 0] rfl) (by omega) (by omega)
    · skip
      refine SXI.of (fun _ hK => s_not 21 rfl rfl (SX.done hK)) ?_
      refine SXI.next ?_
      refine CWI.condT rfl ?_
      refine CWI.ret ?_
      exact retM (rs := []) (vs := []) (L := [Jx (i + 1), blk bx 69 #[.pointer (some ⟨b, 0, none⟩)], R]) [] rfl Tryd.results105 rfl (fun _ h => h.pick [0, 1, 1] rfl) (fun w hw => ⟨_, rfl, .inr ⟨i, hil, hw⟩⟩)
  · skip
    obtain rfl : i = es.length := by omega
    refine CWI.exit rfl ?_
    exact ⟨retM (rs := []) (vs := []) (L := [J es.length, blk bx 69 #[.pointer (some ⟨b, 0, none⟩)], R]) [] rfl Tryd.results105 rfl (fun _ h => h.pick [1, 1, 1] rfl) (fun w hw => ⟨_, rfl, .inl hw⟩)⟩

theorem eachItB (b bx : Nat) (size most sectors : Int) (u : BufG) (w : World) (hn : u.es.length ≤ 100000) (hl : ∀ e ∈ u.es, e.l.length ≤ 1000000) : IterX Tryd.prog w 105 [.pointer (some ⟨bx, 0, none⟩)] [blk bx 69 #[.pointer (some ⟨b, 0, none⟩)], blk b 141 #[.int .i64 size, .int .i64 most, .int .i64 sectors, .slice u.A u.es.length u.c], own 73 3 u.A u.es.length u.c (rowsE u.es), starA (datsE u.es)] (X := Option Addr × Nat) (fun i x => [.int .i64 (i : Nat), aggE (gE u.es i) x]) (fun i x => (gE u.es i).l.length ≤ x.2) (fun i x => [own 5 1 x.1 (gE u.es i).l.length x.2 (nats .u8 (gE u.es i).l)]) u.es.length := by
  intro lr J Jx R w1 hY hw
  refine calls_ofI Tryd.func105 rfl Tryd.ntmps105 rfl (C := Sto w [J 0, blk bx 69 #[.pointer (some ⟨b, 0, none⟩)], blk b 141 #[.int .i64 size, .int .i64 most, .int .i64 sectors, .slice u.A u.es.length u.c], own 73 3 u.A u.es.length u.c (rowsE u.es), starA (datsE u.es), R]) hw ?_
  refine CWI.seq ?_
  refine CWI.reg [0, 1, 2, 3, 4, 5, 6] rfl (by kernel_rfl) ?_
  refine SXI.of (fun _ hK => s_ld 5 rfl rfl (fun _ h => h.blkCell (i := 1) rfl rfl) (SX.done hK)) ?_
  refine SXI.of (fun _ hK => s_nil 6 rfl rfl (SX.done hK)) ?_
  refine SXI.of (fun _ hK => s_fa 7 rfl rfl (SX.done hK)) ?_
  refine SXI.of (fun _ hK => s_ld 8 rfl rfl (v := .slice u.A u.es.length u.c) (fun _ h => h.blkCell (i := 2) rfl rfl) (SX.done hK)) ?_
  refine SXI.of1 (fun _ hK => s_call 9 rfl rfl rfl rfl (fun w2 hw => cloneE_spec u.A u.c u.es w2 ((hw.has (i := 3) rfl).of_own) hn) (fun _ _ => trivial) (fun x hx => SX.done (hK x hx))) (fun z hz => ?_)
  refine SXI.of (fun _ hK => s_len 10 rfl rfl (SX.done hK)) ?_
  refine SXI.of (fun _ hK => s_mv 11 rfl rfl (SX.done hK)) ?_
  refine SXI.next ?_
  refine CWI.block ?_
  refine CWI.loop (G := Nat) (fun _ => []) (fun i => [(0, .func (.yield lr) #[] #[]), (9, .slice z.1 u.es.length z.2), (10, .int .i64 (u.es.length : Nat)), (11, .int .i64 (i : Nat))]) (fun i => Sto w [own 73 3 z.1 u.es.length z.2 (rowsE u.es), J i, blk bx 69 #[.pointer (some ⟨b, 0, none⟩)], blk b 141 #[.int .i64 size, .int .i64 most, .int .i64 sectors, .slice u.A u.es.length u.c], own 73 3 u.A u.es.length u.c (rowsE u.es), starA (datsE u.es), R]) (fun i => i ≤ u.es.length) (fun i => u.es.length - i) 0 rfl ⟨rfl, rfl, rfl, rfl, trivial⟩ (fun _ h => h) (Nat.zero_le _) ?_
  intro i hi
  refine CWI.seq ?_
  refine CWI.reg [0] rfl (by kernel_rfl) ?_
  refine SXI.of (fun _ hK => s_lt 12 rfl rfl rfl rfl (SX.done hK)) ?_
  refine SXI.next ?_
  refine CWI.seq ?_
  refine CWI.test rfl (fun hc => ?_) (fun hc => ?_)
  · skip
    have hil : i < u.es.length := by omega
    have he := gE_at hil
    have hem := gE_mem hil
    refine CWI.skip ?_
    refine KNI.code ?_
    refine CWI.seq ?_
    refine CWI.block ?_
    refine CWI.seq ?_
    refine CWI.reg [0, 1, 2, 3, 4, 5] rfl (by kernel_rfl) ?_
    refine SXI.of (fun _ hK => s_mv 13 rfl rfl (SX.done hK)) ?_
    refine SXI.of (fun _ hK => s_iaV 14 i (fun w hw => (hw.has (i := 0) rfl).of_own) rfl rfl rfl rfl hil (SX.done hK)) ?_
    refine SXI.of (fun _ hK => s_ldR 15 (cs := (gE u.es i).row) rfl rfl rfl (fun w hw => ((hw.has (i := 0) rfl).of_own).entRow he) (SX.done hK)) ?_
    refine SXI.of1 (pf := fun _ => True) (fun _ hK => s_alloc 4 rfl (fun _ _ => trivial) (fun x => SX.done (hK x trivial))) (fun b4 _ => ?_)
    refine SXI.of (fun _ hK => s_as 3 rfl rfl (SX.done hK)) ?_
    refine SXI.of (fun _ hK => s_stAll 0 rfl rfl (by kernel_rfl) rfl rfl rfl rfl (fun _ _ => trivial) (SX.done hK)) ?_
    refine SXI.next ?_
    refine CWI.seq ?_
    refine CWI.reg [0, 1, 2, 3, 4, 5] rfl (by kernel_rfl) ?_
    refine SXI.of (fun _ hK => s_mv 16 rfl rfl (SX.done hK)) ?_
    refine SXI.of (fun _ hK => s_mv 17 rfl rfl (SX.done hK)) ?_
    refine SXI.of (fun _ hK => s_ldW 18 0 rfl rfl rfl (SX.done hK)) ?_
    refine SXI.of1 (fun _ hK => s_call 19 rfl rfl rfl rfl (fun w2 hw => copied_spec (gE u.es i) w2 ((Has.starM (hw.has (i := 6) rfl) (List.mem_map_of_mem hem)).of_own) (hl _ hem)) (fun _ _ => trivial) (fun x hx => SX.done (hK x hx))) (fun z2 hz2 => ?_)
    refine s_yieldX 20 [3, 0, 1, 1, 1, 1, 1, 1] z2 hY hil hz2 rfl rfl rfl rfl (fun _ _ _ => trivial) ?_ ?_
    · skip
      refine SXI.of (fun _ hK => s_not 21 rfl rfl (SX.done hK)) ?_
      refine SXI.next ?_
      refine CWI.condF rfl ?_
      refine CWI.skip ?_
      refine KNI.blk ?_
      refine KNI.code ?_
      refine CWI.reg [0, 1] rfl (by kernel_rfl) ?_
      refine SXI.of (fun _ hK => s_add 22 rfl rfl rfl (r := ((i + 1 : Nat) : Int)) (w64 (by omega)) (SX.done hK)) ?_
      refine SXI.of (fun _ hK => s_mv 11 rfl rfl (SX.done hK)) ?_
      refine SXI.end_ ?_
      exact KNI.back (i + 1) rfl ⟨rfl, rfl, rfl, rfl, trivial⟩ (fun _ h => h.pick [1, 0, 0, 0, 0, 0, 0] rfl) (by omega) (by omega)
    · skip
      refine SXI.of (fun _ hK => s_not 21 rfl rfl (SX.done hK)) ?_
      refine SXI.next ?_
      refine CWI.condT rfl ?_
      refine CWI.ret ?_
      exact retM (rs := []) (vs := []) (L := [Jx (i + 1), blk bx 69 #[.pointer (some ⟨b, 0, none⟩)], blk b 141 #[.int .i64 size, .int .i64 most, .int .i64 sectors, .slice u.A u.es.length u.c], own 73 3 u.A u.es.length u.c (rowsE u.es), starA (datsE u.es), R]) [] rfl Tryd.results105 rfl (fun _ h => h.pick [0, 1, 1, 1, 1, 1] rfl) (fun w hw => ⟨_, rfl, .inr ⟨i, hil, hw⟩⟩)
  · skip
    obtain rfl : i = u.es.length := by omega
    refine CWI.exit rfl ?_
    exact ⟨retM (rs := []) (vs := []) (L := [J u.es.length, blk bx 69 #[.pointer (some ⟨b, 0, none⟩)], blk b 141 #[.int .i64 size, .int .i64 most, .int .i64 sectors, .slice u.A u.es.length u.c], own 73 3 u.A u.es.length u.c (rowsE u.es), starA (datsE u.es), R]) [] rfl Tryd.results105 rfl (fun _ h => h.pick [1, 1, 1, 1, 1, 1] rfl) (fun w hw => ⟨_, rfl, .inl hw⟩)⟩
end Go.Proofs.YtcdmmfpgeagimaaDoor
end
section
/- Range over func where each round's values come with memory, and the round's variables lie in memory of their own. No condition. -/
namespace Go.Sx
open Go
section
variable {P : Program} {Rx : Exit → Act → World → Prop} {k : List KI} {n : Nat} {ds : List Deferred} {l : List (Nat × Value)} {w₀ : World} {A : List Atom}

theorem CWI.rangeFuncY {G GX X Y : Type} (LJ : Nat → G → List Atom) (pJ : Nat → G → Prop) (LX : Nat → GX → List Atom) (pX : Nat → GX → Prop) (jx : GX → Code) (g₀ : G) (LB LR : List Atom) (AA : Nat → X → Y → List Atom) (lbod : Nat → X → Y → List (Nat × Value))
    {g : Operand} {ps : Array Tmp} {assign body : Code} {gf : FuncId} {lb : List Value} {vals : Nat → X → List Value} {px : Nat → X → Prop} {VA : Nat → X → List Atom} {N : Nat}
    (hg : ev l g = some (.func (.func gf) #[] lb.toArray)) [hgf : Enters P gf] (hit : IterX P w₀ gf lb LB vals px VA N)
    (is : List Nat) (hpick : picks A is = some (LJ 0 g₀ ++ (LB ++ LR))) (hp0 : pJ 0 g₀) (hps : ∀ i x, (vals i x).length = ps.size) (hpn : ∀ q ∈ ps.toList, q < n)
    (hassign : ∀ (lr i : Nat) (x : X) (B : List Atom), i < N → px i x → CWI P (some lr) (fun _ _ _ => False) [.lp (fun a w => ∃ y : Y, EnvD n [] (lbod i x y) a ∧ Sto w₀ (AA i x y ++ B) w)] assign n [] (insAll l (ps.toList.zip (vals i x))) (Sto w₀ B))
    (hbody : ∀ (lr : Nat) (T : Atom) (i : Nat) (g : G) (x : X) (y : Y), i < N → pJ i g → px i x → CWI P (some lr) (RPost w₀ T LJ pJ LX pX jx (i + 1)) [] body n [] (lbod i x y) (Sto w₀ (AA i x y ++ (VA i x ++ (LJ i g ++ [T])))))
    (hdone : ∀ (D : Nat) (g : G), pJ N g → KNI P none Rx k n (mark D :: ds) l (Sto w₀ (defB D :: (LJ N g ++ (LB ++ LR)))))
    (hstop : ∀ (D i : Nat) (g : GX), i < N → pX (i + 1) g → CWI P none Rx k (jx g) n (mark D :: ds) l (Sto w₀ (defB D :: (LX (i + 1) g ++ (LB ++ LR))))) :
    CWI P none Rx k (.rangeFunc g ps assign body) n ds l (Sto w₀ A) := by
  refine ⟨fun a w he hc => wpIn_rangeFunc (F := fw none) (fun fn _ => ?_)⟩
  obtain ⟨rec, hrec⟩ : ∃ rec : LoopState → Option Code → Loop, rec = fun st pe => { state := st, pending := pe, fn, tmps := a.tmps, params := ps, assign, body, defers := w.heap.size } := ⟨_, rfl⟩
  obtain ⟨w1, hw1⟩ : ∃ w1, (w.alloc (.deferred (some []))).alloc (.loop (rec .ready none)) = w1 := ⟨_, rfl⟩
  have hst : Sto w₀ (objB (w.heap.size + 1) (.loop (rec .ready none)) :: defB w.heap.size :: (LJ 0 g₀ ++ (LB ++ LR))) w1 := by
    have h2 := ((hc.pick is hpick).allocO (.deferred (some []))).allocO (.loop (rec .ready none))
    rw [hw1, World.size_alloc] at h2
    exact h2
  let J : Nat → Atom := fun i => exA (fun g : { g : G // pJ i g } => starA (objB (w.heap.size + 1) (.loop (rec .ready none)) :: defB w.heap.size :: LJ i g.1))
  let Jx : Nat → Atom := fun i => exA (fun g : { g : GX // pX i g } => starA (objB (w.heap.size + 1) (.loop (rec .done (some (jx g.1)))) :: defB w.heap.size :: LX i g.1))
  have hY : YieldOKX P w₀ (w.heap.size + 1) vals px VA N J Jx := by
    intro i hi x hpx A' w' hJ
    obtain ⟨⟨g, hgp⟩, hJ⟩ := St.exA.1 hJ
    have hJ := (St.star _).2 hJ
    have hl := St.objAt hJ
    have hy := run_yield (P := P) (args := (vals i x).toArray) hl (by rw [hrec]; simpa using hps i x)
    rw [hrec] at hy
    refine ⟨fn, _, assign, body, hy, roundIn_of_wpIn (F := Fence.wide) trivial ?_⟩
    have hz : (ps.zip (vals i x).toArray).foldl (fun tmps (x : Tmp × Value) => tmps.setIfInBounds x.1 x.2) a.tmps = (ps.toList.zip (vals i x)).foldl (fun t (pv : Nat × Value) => t.setIfInBounds pv.1 pv.2) a.tmps := by
      rw [← Array.foldl_toList, Array.toList_zip]
    have hen : EnvD n [] (insAll l (ps.toList.zip (vals i x))) { tmps := (ps.zip (vals i x).toArray).foldl (fun tmps (x : Tmp × Value) => tmps.setIfInBounds x.1 x.2) a.tmps, defers := [] } := by
      refine ⟨?_, rfl⟩
      have := Env.insAll (ps.toList.zip (vals i x)) he.env (fun pv hpv => hpn _ (List.of_mem_zip hpv).1)
      rw [hz]; exact this
    refine wpIn_mono ((hassign (w.heap.size + 1) i x _ hi hpx).run _ w' hen hJ) ?_
    intro e a1 w2 hk
    cases e with
    | normal =>
      obtain ⟨y, hea, hc2⟩ := hk
      have hc2 := St.perm (List.perm_middle (a := objB (w.heap.size + 1) (.loop (rec .ready none))) (l₁ := AA i x y)) hc2
      have hl2 := St.objAt hc2
      refine ⟨_, run_beginRound hl2 (by rw [hrec]), ?_⟩
      have hc3 := St.putO (.loop { rec .ready none with state := .busy }) hc2
      let T : Atom := starA (objB (w.heap.size + 1) (.loop { rec .ready none with state := .busy }) :: defB w.heap.size :: A')
      have hT : ∀ (X : List Atom) (v : World), Sto w₀ (X ++ [T]) v ↔ Sto w₀ (objB (w.heap.size + 1) (.loop { rec .ready none with state := .busy }) :: (defB w.heap.size :: X ++ A')) v := by
        intro X v
        refine ⟨fun h => St.perm ?_ (St.starLast.2 h), fun h => St.starLast.1 (St.perm ?_ h)⟩
        · refine List.perm_middle.trans (List.Perm.cons _ ?_)
          exact List.perm_middle
        · refine (List.Perm.trans (List.Perm.cons _ ?_) List.perm_middle.symm)
          exact List.perm_middle.symm
      have hperm : (objB (w.heap.size + 1) (.loop { rec .ready none with state := .busy }) :: (AA i x y ++ (defB w.heap.size :: (LJ i g ++ (VA i x ++ A'))))).Perm (objB (w.heap.size + 1) (.loop { rec .ready none with state := .busy }) :: (defB w.heap.size :: (AA i x y ++ (VA i x ++ LJ i g)) ++ A')) := by
        refine List.Perm.cons _ (List.perm_middle.trans (List.Perm.cons _ ?_))
        show (AA i x y ++ (LJ i g ++ (VA i x ++ A'))).Perm ((AA i x y ++ (VA i x ++ LJ i g)) ++ A')
        rw [List.append_assoc (AA i x y), ← List.append_assoc (LJ i g)]
        exact List.Perm.append_left _ (List.Perm.append_right A' List.perm_append_comm)
      have hb := (hbody (w.heap.size + 1) T i g x y hi hgp hpx).run a1 _ hea (by rw [← List.append_assoc (VA i x), ← List.append_assoc]; exact (hT (AA i x y ++ (VA i x ++ LJ i g)) _).2 (St.perm hperm hc3))
      refine wpIn_mono hb (fun e a3 w3 hk => ?_)
      have fin : ∀ (jump : Option Code) (X : List Atom), Sto w₀ (X ++ [T]) w3 → ∃ v w', (Instr.endRound (w.heap.size + 1) jump).run P w3 = .ok v w' ∧ v = .bool jump.isNone ∧
          Sto w₀ (starA (objB (w.heap.size + 1) (.loop (rec (if jump.isNone then .ready else .done) jump)) :: defB w.heap.size :: X) :: A') w' := by
        intro jump X h3
        have h4 := (hT _ _).1 h3
        have h5 := run_endRound (P := P) jump (St.objAt h4)
        refine ⟨_, _, h5, rfl, (St.star _).1 ?_⟩
        have h6 := St.putO (.loop { rec .ready none with state := if jump.isNone then .ready else .done, pending := jump }) h4
        rw [hrec] at h6 ⊢
        exact h6
      cases e with
      | normal =>
        obtain ⟨g', hp', hs'⟩ := hk
        obtain ⟨v, w', h5, rfl, h6⟩ := fin none _ hs'
        exact ⟨_, w', h5, true, rfl, St.exA.2 ⟨⟨g', hp'⟩, h6⟩⟩
      | ret =>
        obtain ⟨g', hp', hj, hs'⟩ := hk
        obtain ⟨v, w', h5, rfl, h6⟩ := fin (some .ret) _ hs'
        exact ⟨_, w', h5, false, rfl, St.exA.2 ⟨⟨g', hp'⟩, by rw [hj]; exact h6⟩⟩
      | exit id =>
        obtain ⟨g', hp', hj, hs'⟩ := hk
        obtain ⟨v, w', h5, rfl, h6⟩ := fin (some (.exit id)) _ hs'
        exact ⟨_, w', h5, false, rfl, St.exA.2 ⟨⟨g', hp'⟩, by rw [hj]; exact h6⟩⟩
      | goto t => exact hk.elim
      | panic c => exact hk.elim
      | outgrown => exact hk.elim
    | exit id => exact hk.elim
    | goto t => exact hk.elim
    | ret => exact hk.elim
    | panic c => exact hk.elim
    | outgrown => exact hk.elim
  refine ⟨w.heap.size + 1, [mark w.heap.size], w1, { target := .fn (.func gf) lb.toArray, args := #[.func (.yield (w.heap.size + 1)) #[] #[]] }, w1, gf, (.func (.yield (w.heap.size + 1)) #[] #[] :: lb).toArray, w1, ?_, ?_, fun _ _ => trivial, ?_, fun h => by simp [Fence.wide] at h, ?_⟩
  · rw [← hw1, hrec]; exact run_enterLoop_outer _ _ _ _ _
  · simp only [resolve, he.ev hg]
    simp [Deferred.ofValue, go_sem]
  · simp only [invoke]
    have : #[Value.func (.yield (w.heap.size + 1)) #[] #[]] ++ lb.toArray = (.func (.yield (w.heap.size + 1)) #[] #[] :: lb).toArray := by simp
    rw [this]
    exact hgf.run _ _
  · refine CallsIn.mono (F := fw none) ((callsIn_wide (n := 0)).2 (hit (w.heap.size + 1) J Jx (starA LR) w1 hY ?_)) ?_
    · refine (St.exA (f := fun g : { g : G // pJ 0 g } => starA (objB (w.heap.size + 1) (.loop (rec .ready none)) :: defB w.heap.size :: LJ 0 g.1))).2 ⟨⟨g₀, hp0⟩, ?_⟩
      exact (St.starLast (X := starA (objB (w.heap.size + 1) (.loop (rec .ready none)) :: defB w.heap.size :: LJ 0 g₀) :: LB)).1 ((St.star (objB (w.heap.size + 1) (.loop (rec .ready none)) :: defB w.heap.size :: LJ 0 g₀)).1 hst)
    · have hea : EnvD n (mark w.heap.size :: ds) l { a with defers := [mark w.heap.size] ++ a.defers } := ⟨he.env, by rw [he.defers]; rfl⟩
      rintro e w' ⟨v, rfl, h | ⟨i, hi, h⟩⟩
      · obtain ⟨⟨g, hgp⟩, h⟩ := St.exA.1 h
        have h := (St.star _).2 ((St.starLast (X := starA _ :: LB)).2 h)
        have hl := St.objAt h
        refine ⟨_, _, run_endLoop hl (by rw [hrec]; simp), ?_⟩
        have h2 := (St.putO (.loop { rec .ready none with state := .exhausted }) h).tail
        rw [hrec] at h2 ⊢
        exact (hdone _ g hgp).run _ _ hea h2
      · obtain ⟨⟨g, hgp⟩, h⟩ := St.exA.1 h
        have h := (St.star _).2 ((St.starLast (X := starA _ :: LB)).2 h)
        have hl := St.objAt h
        refine ⟨_, _, run_endLoop hl (by rw [hrec]; simp), ?_⟩
        have h2 := (St.putO (.loop { rec .done (some (jx g)) with state := .exhausted }) h).tail
        rw [hrec] at h2 ⊢
        exact (hstop _ i g hi hgp).run _ _ hea h2

end
end Go.Sx
end
section
/- Package buffer: its entries, New; entries that are the same. Conditions: the buffer is read where it lies. -/
namespace Go.Proofs.YtcdmmfpgeagimaaDoor
open Go Go.Lib Go.Sx Go.Fm
set_option maxRecDepth 100000

theorem entries_spec (b : Nat) (A : Option Addr) (c : Nat) (es : List EntG) (w : World) (hs : Has (sl 3 A es.length (rowsE es)) w) (hn : es.length ≤ 100000) (hb : w.cell? ⟨b, 3, none⟩ = some (.slice A es.length c)) (hd : ∀ e ∈ es, Has (sl 1 e.A e.l.length (nats .u8 e.l)) w) (hl : ∀ e ∈ es, e.l.length ≤ 1000000) : SpecX Tryd.prog 57 [.pointer (some ⟨b, 0, none⟩)] w (X := BufG) (fun x => .slice x.A x.es.length x.c) (fun x => absE x.es = absE es ∧ x.es.length ≤ x.c) (fun x => [own 73 3 x.A x.es.length x.c (rowsE x.es), starA (datsE x.es)]) := by
  refine calls_ofI Tryd.func57 rfl Tryd.ntmps57 rfl (C := Sto w []) (St.start w) ?_
  refine CWI.seq ?_
  refine CWI.reg [0] rfl (by kernel_rfl) ?_
  refine SXI.of (fun _ hK => s_as 2 rfl rfl (SX.done hK)) ?_
  refine SXI.next ?_
  refine CWI.seq ?_
  refine CWI.reg [0] rfl (by kernel_rfl) ?_
  refine SXI.of1 (pf := fun _ => True) (fun _ hK => s_alloc 3 rfl (fun _ _ => trivial) (fun x => SX.done (hK x trivial))) (fun go _ => ?_)
  refine SXI.next ?_
  refine CWI.seq ?_
  refine CWI.seq ?_
  refine CWI.reg [0, 1] rfl (by kernel_rfl) ?_
  refine SXI.of (fun _ hK => s_mv 6 rfl rfl (SX.done hK)) ?_
  refine SXI.of1 (fun _ hK => s_call 7 rfl rfl rfl rfl (fun w hw => each_spec b w) (fun _ _ => trivial) (fun x hx => SX.done (hK x hx))) (fun bx _ => ?_)
  refine SXI.next ?_
  refine CWI.block ?_
  refine CWI.pre (fun _ h => (h.begin_ 73 3).nilStarS) ?_
  refine CWI.rangeFuncY (G := BufG) (GX := Empty) (X := Option Addr × Nat) (Y := Nat) (fun (_ : Nat) (x : BufG) => [blk go 81 #[.slice x.A x.es.length x.c], own 73 3 x.A x.es.length x.c (rowsE x.es), starA (datsE x.es)]) (fun i x => CopyG es i x ∧ x.es.length ≤ x.c) (fun _ x => x.elim) (fun _ _ => False) (fun x => x.elim) ⟨none, 0, []⟩ [blk bx 69 #[.pointer (some ⟨b, 0, none⟩)]] [] (fun i x y => [blk y 73 #[.int .i64 (gE es i).k, .bool (gE es i).tr, .slice x.1 (gE es i).l.length x.2]]) (fun i x y => [(3, .pointer (some ⟨go, 0, none⟩)), (5, .pointer (some ⟨y, 0, none⟩))]) rfl (eachIt b bx A c es w hs hn hb hd hl) [3, 1, 0, 0] rfl ⟨⟨rfl, rfl⟩, Nat.le_refl _⟩ (fun _ _ => rfl) (by simp) ?_ ?_ ?_ ?_
  · intro lr i x B hi hx
    refine CWI.reg [0, 1] rfl (by kernel_rfl) ?_
    refine SXI.of1 (pf := fun _ => True) (fun _ hK => s_alloc 5 rfl (fun _ _ => trivial) (fun x => SX.done (hK x trivial))) (fun b5 _ => ?_)
    refine SXI.of (fun _ hK => s_stAll 0 rfl rfl (by kernel_rfl) rfl rfl rfl rfl (fun _ _ => trivial) (SX.done hK)) ?_
    refine SXI.end_ ?_
    exact ⟨fun a w he hc => ⟨b5, he.sub (SubL.sub ⟨rfl, rfl, trivial⟩), hc⟩⟩
  · intro lr T i g x y hi hg hx
    obtain ⟨hg1, hg2⟩ := hg
    have hgl := hg1.len
    refine CWI.block ?_
    refine CWI.reg [0, 1, 2, 3, 4] rfl (by kernel_rfl) ?_
    refine SXI.of (fun _ hK => s_ld 10 rfl rfl (v := .slice g.A g.es.length g.c) (fun _ h => h.blkCell (i := 2) rfl rfl) (SX.done hK)) ?_
    refine SXI.of (fun _ hK => s_ldW 11 0 rfl rfl rfl (SX.done hK)) ?_
    refine SXI.of1 (pf := fun _ => True) (fun _ hK => s_bsl 12 rfl rfl (cells := #[.int .i64 (gE es i).k, .bool (gE es i).tr, .slice x.1 (gE es i).l.length x.2]) (by kernel_rfl) rfl (fun _ _ => trivial) (fun x => SX.done (hK x trivial))) (fun gb _ => ?_)
    refine SXI.of2 (fun _ hK => s_app 13 4 rfl rfl rfl rfl (ys := (⟨(gE es i).k, (gE es i).tr, x.1, x.2, (gE es i).l⟩ : EntG).row) (fun w hw => Has.cong ((hw.has (i := 0) rfl).blk_sl (m := 1) rfl) rfl) rfl rfl (by omega) (by unfold maxLen; omega) (by omega) (fun _ _ _ _ => trivial) (fun x y hx => SX.done (hK x y hx))) (fun A2 c2 hc2 => ?_)
    refine SXI.of (fun _ hK => s_stB 3 rfl rfl rfl rfl rfl (Nat.lt_succ_self 0) (fun _ _ => trivial) (SX.done hK)) ?_
    refine SXI.end_ ?_
    refine KNI.blk ?_
    exact ⟨fun a w he hc => ⟨⟨A2, c2, g.es ++ [(⟨(gE es i).k, (gE es i).tr, x.1, x.2, (gE es i).l⟩ : EntG)]⟩, ⟨hg1.next hi A2 c2 x, by simp only [List.length_append, List.length_singleton]; exact hc2⟩, by
      have h1 := (hc.pick [2, 4, 2, 2, 2] rfl).starMore
      have e1 : (g.es ++ [(⟨(gE es i).k, (gE es i).tr, x.1, x.2, (gE es i).l⟩ : EntG)]).length = g.es.length + 1 := by rw [List.length_append]; rfl
      have e2 : rowsE (g.es ++ [(⟨(gE es i).k, (gE es i).tr, x.1, x.2, (gE es i).l⟩ : EntG)]) = rowsE g.es ++ (⟨(gE es i).k, (gE es i).tr, x.1, x.2, (gE es i).l⟩ : EntG).row := by rw [rowsE_app]; rfl
      have e3 : datsE (g.es ++ [(⟨(gE es i).k, (gE es i).tr, x.1, x.2, (gE es i).l⟩ : EntG)]) = datsE g.es ++ [(⟨(gE es i).k, (gE es i).tr, x.1, x.2, (gE es i).l⟩ : EntG).dat] := List.map_append
      simp only [e1, e2, e3]
      exact h1.pick [1, 1, 0, 0] rfl⟩⟩
  · intro D g hg
    refine KNI.blk ?_
    refine KNI.code ?_
    refine CWI.seq ?_
    refine CWI.reg [0, 1] rfl (by kernel_rfl) ?_
    refine SXI.of (fun _ hK => s_ld 14 rfl rfl (fun _ h => h.blkCell (i := 1) (j := 0) rfl rfl) (SX.done hK)) ?_
    refine SXI.of (fun _ hK => s_as 2 rfl rfl (SX.done hK)) ?_
    refine SXI.next ?_
    refine CWI.ret ?_
    exact retM (rs := [.tmp 2]) [D] rfl Tryd.results57 rfl (fun _ h => h.pick [0, 1, 1] rfl) (fun w hw => ⟨g, rfl, ⟨hg.1.done, hg.2⟩, hw⟩)
  · intro D i g hi hg
    exact hg.elim

theorem _root_.Go.Sx.St.blkPart {F : Nat → Prop} {w₀ w : World} {L : List Atom} {i g T o : Nat} {cs : Array Value} {part : List Value} (hi : L[i]? = some (blk g T cs)) (hp : ∀ j v, part[j]? = some v → cs[o + j]? = some v) (h : St F w₀ L w) : ∀ j v, part[j]? = some v → w.cell? ⟨g, o + j, none⟩ = some v := fun j v hj => h.blkCell hi (hp j v hj)
instance : SlT Tryd.prog 139 138 2 16 (.agg #[.int .i64 0, .int .i64 0]) := SlT.mk' Tryd.underlying139 (by kernel_rfl)
theorem two_at {cs : Array Value} {o : Nat} {a b : Value} (h0 : cs[o]? = some a) (h1 : cs[o + 1]? = some b) : ∀ j v, [a, b][j]? = some v → cs[o + j]? = some v := fun j v hj => by
  match j, hj with
  | 0, hj => rw [← hj]; exact h0
  | 1, hj => rw [← hj]; exact h1
  | j + 2, hj => simp at hj

theorem bnew_ok (size most sectors : Int) (w : World) (h1 : 1 ≤ size) (h2 : size ≤ 1024) (h3 : 1 ≤ most) (h4 : most ≤ 64) (h5 : 1 ≤ sectors) (h6 : sectors ≤ 1073741824) : SpecX Tryd.prog 51 [.int .i64 size, .int .i64 most, .int .i64 sectors] w (X := Nat) (fun b => two (.pointer (some ⟨b, 0, none⟩)) .nilIface) (fun _ => True) (fun b => [blk b 141 #[.int .i64 size, .int .i64 most, .int .i64 sectors, .slice none 0 0]]) := by
  refine spec_of Tryd.func51 rfl Tryd.ntmps51 rfl ?_
  refine CW.seq ?_
  refine CW.reg [0, 1] rfl ?_
  refine s_as 6 rfl rfl ?_
  refine s_as 7 rfl rfl ?_
  refine SX.next ?_
  refine CW.seq ?_
  refine CW.seq ?_
  refine CW.reg [0, 1, 2, 3, 4, 5, 6, 7, 8] rfl ?_
  refine s_mv 10 rfl rfl ?_
  refine s_buildA 11 rfl rfl (cells := #[.int .i64 size, .int .i64 1024]) (by kernel_rfl) ?_
  refine s_mv 12 rfl rfl ?_
  refine s_buildA 13 rfl rfl (cells := #[.int .i64 most, .int .i64 64]) (by kernel_rfl) ?_
  refine s_mv 14 rfl rfl ?_
  refine s_buildA 15 rfl rfl (cells := #[.int .i64 sectors, .int .i64 1073741824]) (by kernel_rfl) ?_
  refine s_bsl 16 rfl rfl (cells := #[.int .i64 size, .int .i64 1024, .int .i64 most, .int .i64 64, .int .i64 sectors, .int .i64 1073741824]) (by kernel_rfl) rfl (fun _ _ => trivial) (fun g => ?_)
  refine s_len 17 rfl rfl ?_
  refine s_mv 18 rfl rfl ?_
  refine SX.next ?_
  refine CW.block ?_
  refine CW.loop (G := Nat) (fun i => [(0, .int .i64 size), (1, .int .i64 most), (2, .int .i64 sectors), (16, .slice (some ⟨g, 0, none⟩) 3 3), (17, .int .i64 3), (18, .int .i64 (i : Nat))]) (fun _ => Sto w [blk g 138 #[.int .i64 size, .int .i64 1024, .int .i64 most, .int .i64 64, .int .i64 sectors, .int .i64 1073741824]]) (fun i => i ≤ 3) (fun i => 3 - i) 0 ⟨rfl, rfl, rfl, rfl, rfl, rfl, trivial⟩ (fun _ h => h) (by omega) ?_
  intro i hi
  refine CW.seq ?_
  refine CW.reg [0] rfl ?_
  refine s_lt 19 rfl rfl rfl rfl ?_
  refine SX.next ?_
  refine CW.seq ?_
  refine CW.test rfl (fun hc => ?_) (fun hc => ?_)
  · skip
    have hi3 : i < 3 := by omega
    refine CW.skip ?_
    refine KN.code ?_
    refine CW.seq ?_
    refine CW.block ?_
    refine CW.seq ?_
    rcases (show i = 0 ∨ i = 1 ∨ i = 2 by omega) with rfl | rfl | rfl
    · skip
      refine CW.reg [0, 1, 2, 3] rfl ?_
      refine s_ia 20 rfl rfl rfl (by omega) ?_
      refine s_ldR 21 (cs := [.int .i64 size, .int .i64 1024]) rfl rfl rfl (fun w hw => hw.blkPart (i := 0) rfl (two_at rfl rfl)) ?_
      refine s_alloc 9 rfl (fun _ _ => trivial) (fun b9 => ?_)
      refine s_stAll 0 rfl rfl (by kernel_rfl) rfl rfl rfl rfl (fun _ _ => trivial) ?_
      refine SX.next ?_
      refine CW.seq ?_
      refine CW.reg [0, 1, 2, 3, 4, 5, 6, 7, 8, 9] rfl ?_
      refine s_iaR 22 0 rfl rfl rfl rfl (by omega) ?_
      refine s_ldB 23 0 rfl rfl rfl (v := .int .i64 size) rfl ?_
      refine s_lt 24 rfl rfl rfl (decide_eq_false (by omega)) ?_
      refine s_mv 25 rfl rfl ?_
      refine s_iaR 26 0 rfl rfl rfl rfl (by omega) ?_
      refine s_ldB 27 0 rfl rfl rfl (v := .int .i64 size) rfl ?_
      refine s_iaR 28 1 rfl rfl rfl rfl (by omega) ?_
      refine s_ldB 29 0 rfl rfl rfl (v := .int .i64 1024) rfl ?_
      refine s_gt 30 rfl rfl rfl (decide_eq_false (by omega)) ?_
      refine s_pickF 31 rfl rfl rfl ?_
      refine SX.next ?_
      refine CW.condF rfl ?_
      refine CW.skip ?_
      refine KN.blk ?_
      refine KN.code ?_
      refine CW.reg [0, 1] rfl ?_
      refine s_add 33 rfl rfl rfl (r := ((1 : Nat) : Int)) rfl ?_
      refine s_mv 18 rfl rfl ?_
      refine SX.end_ ?_
      exact KN.back 1 ⟨rfl, rfl, rfl, rfl, rfl, rfl, trivial⟩ (fun _ h => h.pick [1] rfl) (by omega) (by omega)
    · skip
      refine CW.reg [0, 1, 2, 3] rfl ?_
      refine s_ia 20 rfl rfl rfl (by omega) ?_
      refine s_ldR 21 (cs := [.int .i64 most, .int .i64 64]) rfl rfl rfl (fun w hw => hw.blkPart (i := 0) rfl (two_at rfl rfl)) ?_
      refine s_alloc 9 rfl (fun _ _ => trivial) (fun b9 => ?_)
      refine s_stAll 0 rfl rfl (by kernel_rfl) rfl rfl rfl rfl (fun _ _ => trivial) ?_
      refine SX.next ?_
      refine CW.seq ?_
      refine CW.reg [0, 1, 2, 3, 4, 5, 6, 7, 8, 9] rfl ?_
      refine s_iaR 22 0 rfl rfl rfl rfl (by omega) ?_
      refine s_ldB 23 0 rfl rfl rfl (v := .int .i64 most) rfl ?_
      refine s_lt 24 rfl rfl rfl (decide_eq_false (by omega)) ?_
      refine s_mv 25 rfl rfl ?_
      refine s_iaR 26 0 rfl rfl rfl rfl (by omega) ?_
      refine s_ldB 27 0 rfl rfl rfl (v := .int .i64 most) rfl ?_
      refine s_iaR 28 1 rfl rfl rfl rfl (by omega) ?_
      refine s_ldB 29 0 rfl rfl rfl (v := .int .i64 64) rfl ?_
      refine s_gt 30 rfl rfl rfl (decide_eq_false (by omega)) ?_
      refine s_pickF 31 rfl rfl rfl ?_
      refine SX.next ?_
      refine CW.condF rfl ?_
      refine CW.skip ?_
      refine KN.blk ?_
      refine KN.code ?_
      refine CW.reg [0, 1] rfl ?_
      refine s_add 33 rfl rfl rfl (r := ((2 : Nat) : Int)) rfl ?_
      refine s_mv 18 rfl rfl ?_
      refine SX.end_ ?_
      exact KN.back 2 ⟨rfl, rfl, rfl, rfl, rfl, rfl, trivial⟩ (fun _ h => h.pick [1] rfl) (by omega) (by omega)
    · skip
      refine CW.reg [0, 1, 2, 3] rfl ?_
      refine s_ia 20 rfl rfl rfl (by omega) ?_
      refine s_ldR 21 (cs := [.int .i64 sectors, .int .i64 1073741824]) rfl rfl rfl (fun w hw => hw.blkPart (i := 0) rfl (two_at rfl rfl)) ?_
      refine s_alloc 9 rfl (fun _ _ => trivial) (fun b9 => ?_)
      refine s_stAll 0 rfl rfl (by kernel_rfl) rfl rfl rfl rfl (fun _ _ => trivial) ?_
      refine SX.next ?_
      refine CW.seq ?_
      refine CW.reg [0, 1, 2, 3, 4, 5, 6, 7, 8, 9] rfl ?_
      refine s_iaR 22 0 rfl rfl rfl rfl (by omega) ?_
      refine s_ldB 23 0 rfl rfl rfl (v := .int .i64 sectors) rfl ?_
      refine s_lt 24 rfl rfl rfl (decide_eq_false (by omega)) ?_
      refine s_mv 25 rfl rfl ?_
      refine s_iaR 26 0 rfl rfl rfl rfl (by omega) ?_
      refine s_ldB 27 0 rfl rfl rfl (v := .int .i64 sectors) rfl ?_
      refine s_iaR 28 1 rfl rfl rfl rfl (by omega) ?_
      refine s_ldB 29 0 rfl rfl rfl (v := .int .i64 1073741824) rfl ?_
      refine s_gt 30 rfl rfl rfl (decide_eq_false (by omega)) ?_
      refine s_pickF 31 rfl rfl rfl ?_
      refine SX.next ?_
      refine CW.condF rfl ?_
      refine CW.skip ?_
      refine KN.blk ?_
      refine KN.code ?_
      refine CW.reg [0, 1] rfl ?_
      refine s_add 33 rfl rfl rfl (r := ((3 : Nat) : Int)) rfl ?_
      refine s_mv 18 rfl rfl ?_
      refine SX.end_ ?_
      exact KN.back 3 ⟨rfl, rfl, rfl, rfl, rfl, rfl, trivial⟩ (fun _ h => h.pick [1] rfl) (by omega) (by omega)
  · skip
    refine CW.exit rfl ?_
    refine KN.code ?_
    refine CW.seq ?_
    refine CW.reg [0, 1, 2, 3, 4, 5, 6] rfl ?_
    refine s_mv 34 rfl rfl ?_
    refine s_mv 35 rfl rfl ?_
    refine s_mv 36 rfl rfl ?_
    refine s_build 37 rfl rfl (cells := #[.int .i64 size, .int .i64 most, .int .i64 sectors, .slice none 0 0]) (by kernel_rfl) ?_
    refine s_box 38 rfl rfl (fun _ _ => trivial) (fun b => ?_)
    refine s_as 6 rfl rfl ?_
    refine s_as 7 rfl rfl ?_
    refine SX.next ?_
    refine CW.ret ?_
    exact KN.ret (rs := [.tmp 6, .tmp 7]) Tryd.results51 rfl (fun w hw => ⟨b, rfl, trivial, hw.pick [0] rfl⟩)

theorem sameEntry_spec (x y : EntG) (w : World) (hx : Has (sl 1 x.A x.l.length (nats .u8 x.l)) w) (hy : Has (sl 1 y.A y.l.length (nats .u8 y.l)) w) (hx8 : ∀ t ∈ x.l, t < 256) (hy8 : ∀ t ∈ y.l, t < 256) : Spec1 Tryd.prog 58 [x.agg, y.agg] w (.bool (decide (x.abs = y.abs))) := by
  refine spec_of Tryd.func58 rfl Tryd.ntmps58 rfl ?_
  refine CW.seq ?_
  refine CW.reg [0, 1, 2] rfl ?_
  refine s_box 2 rfl rfl (fun _ _ => trivial) (fun b2 => ?_)
  refine s_box 3 rfl rfl (fun _ _ => trivial) (fun b3 => ?_)
  refine s_as 4 rfl rfl ?_
  refine SX.next ?_
  refine CW.seq ?_
  refine CW.reg [0, 1, 2, 3, 4, 5] rfl ?_
  refine s_fa 6 rfl rfl ?_
  refine s_ldB 7 1 rfl rfl rfl (v := .slice x.A x.l.length x.c) rfl ?_
  refine s_fa 8 rfl rfl ?_
  refine s_ldB 9 0 rfl rfl rfl (v := .slice y.A y.l.length y.c) rfl ?_
  refine s_call1 10 rfl rfl rfl rfl (fun w hw => sameBytes_spec x.A x.l.length x.c x.l y.A y.l.length y.c y.l w (hw.old hx) hx8 (hw.old hy) hy8) (fun _ _ => trivial) ?_
  refine s_as 5 rfl rfl ?_
  refine SX.next ?_
  refine CW.seq ?_
  refine CW.reg [0, 1, 2, 3, 4, 5, 6, 7, 8, 9, 10, 11, 12, 13, 14, 15] rfl ?_
  refine s_fa 11 rfl rfl ?_
  refine s_ldB 12 1 rfl rfl rfl (v := .int .i64 x.k) rfl ?_
  refine s_fa 13 rfl rfl ?_
  refine s_ldB 14 0 rfl rfl rfl (v := .int .i64 y.k) rfl ?_
  refine s_eq 15 rfl rfl rfl rfl ?_
  refine s_mv 16 rfl rfl ?_
  refine SX.bool 16 rfl (fun hb => ?_) (fun hb => ?_)
  · skip
    have hk := of_decide_eq_true hb
    refine s_fa 17 rfl rfl ?_
    refine s_ldB 18 1 rfl rfl rfl (v := .bool x.tr) rfl ?_
    refine s_fa 19 rfl rfl ?_
    refine s_ldB 20 0 rfl rfl rfl (v := .bool y.tr) rfl ?_
    refine s_eqB 21 rfl rfl rfl (r := (x.tr == y.tr)) rfl ?_
    refine s_pickT 22 rfl rfl rfl ?_
    refine s_mv 23 rfl rfl ?_
    refine SX.bool 23 rfl (fun hb => ?_) (fun hb => ?_)
    · skip
      have ht := eq_of_beq hb
      have hz : decide (x.abs = y.abs) = decide (x.l = y.l) := decide_eq_decide.2 ⟨fun h => congrArg (fun t => t.2.2) h, fun h => by unfold EntG.abs; rw [hk, ht, h]⟩
      refine s_mv 24 rfl rfl ?_
      refine s_pickT 25 rfl rfl rfl ?_
      refine s_as 4 rfl rfl ?_
      refine SX.next ?_
      refine CW.ret ?_
      exact KN.ret (rs := [.tmp 4]) Tryd.results58 rfl (fun w hw => ⟨by rw [hz]; rfl, hw.nothing⟩)
    · skip
      have hz : decide (x.abs = y.abs) = false := decide_eq_false (fun h => by have h2 := congrArg (fun t => t.2.1) h; have h3 : x.tr = y.tr := h2; rw [h3, beq_self_eq_true] at hb; cases hb)
      refine SX.skip rfl ?_
      refine s_pickF 25 rfl rfl rfl ?_
      refine s_as 4 rfl rfl ?_
      refine SX.next ?_
      refine CW.ret ?_
      exact KN.ret (rs := [.tmp 4]) Tryd.results58 rfl (fun w hw => ⟨by rw [hz]; rfl, hw.nothing⟩)
  · skip
    have hk := of_decide_eq_false hb
    have hz : decide (x.abs = y.abs) = false := decide_eq_false (fun h => hk (congrArg Prod.fst h))
    refine SX.skip rfl ?_
    refine SX.skip rfl ?_
    refine SX.skip rfl ?_
    refine SX.skip rfl ?_
    refine SX.skip rfl ?_
    refine s_pickF 22 rfl rfl rfl ?_
    refine s_mv 23 rfl rfl ?_
    refine SX.skip rfl ?_
    refine s_pickF 25 rfl rfl rfl ?_
    refine s_as 4 rfl rfl ?_
    refine SX.next ?_
    refine CW.ret ?_
    exact KN.ret (rs := [.tmp 4]) Tryd.results58 rfl (fun w hw => ⟨by rw [hz]; rfl, hw.nothing⟩)
end Go.Proofs.YtcdmmfpgeagimaaDoor
end
section
/- The laws' first examples of package buffer, walked. Conditions: the errors' variables. -/
namespace Go.Proofs.YtcdmmfpgeagimaaDoor
open Go Go.Lib Go.Sx Go.Fm
set_option maxRecDepth 100000
theorem keys_len {es : List EntG} {X : List (Int × Bool × List Nat)} (h : absE es = X) : es.length = X.length := by rw [← h]; simp [absE]
theorem key_at {es : List EntG} {X : List (Int × Bool × List Nat)} (h : absE es = X) {i : Nat} {x : Int × Bool × List Nat} (hx : X[i]? = some x) : ∃ e, es[i]? = some e ∧ e.k = x.1 ∧ e.tr = x.2.1 ∧ e.l = x.2.2 := by
  rw [← h] at hx
  unfold absE at hx
  rw [List.getElem?_map] at hx
  cases he : es[i]? with
  | none => rw [he] at hx; cases hx
  | some e =>
    rw [he] at hx
    obtain rfl : e.abs = x := by simpa using hx
    exact ⟨e, rfl, rfl, rfl, rfl⟩

set_option maxHeartbeats 1600000 in

theorem first19_spec (e : Nat → Addr) (w : World) (he1 : Er e w 1) (he2 : Er e w 5) (he3 : Er e w 3) : Spec1 Tryd.prog 50 [] w (.bool true) := by
  refine spec_of Tryd.func50 rfl Tryd.ntmps50 rfl ?_
  refine CW.seq ?_
  refine CW.reg [0] rfl ?_
  refine s_as 0 rfl rfl ?_
  refine SX.next ?_
  refine CW.seq ?_
  refine CW.reg [0, 1, 2, 3, 4, 5] rfl ?_
  refine s_call 10 rfl rfl rfl rfl (fun w hw => bnew_ok 2 2 9 w (by decide) (by decide) (by decide) (by decide) (by decide) (by decide)) (fun _ _ => trivial) (fun b _ => ?_)
  refine SX.pre (C' := Sto w [blk b 141 #[.int .i64 2, .int .i64 2, .int .i64 9, .slice (⟨none, 0, []⟩ : BufG).A (⟨none, 0, []⟩ : BufG).es.length (⟨none, 0, []⟩ : BufG).c], own 73 3 (⟨none, 0, []⟩ : BufG).A (⟨none, 0, []⟩ : BufG).es.length (⟨none, 0, []⟩ : BufG).c (rowsE (⟨none, 0, []⟩ : BufG).es), starA (datsE (⟨none, 0, []⟩ : BufG).es)]) (fun _ h => ((h.begin_ 73 3).nilStarS).pick [2, 1, 0] rfl) ?_
  refine s_mv 9 rfl rfl ?_
  refine s_ext 11 rfl rfl rfl ?_
  refine s_ext 12 rfl rfl rfl ?_
  refine s_as 1 rfl rfl ?_
  refine s_as 2 rfl rfl ?_
  refine SX.next ?_
  refine CW.seq ?_
  refine CW.seq ?_
  refine CW.reg [0, 1, 2, 3, 4, 5] rfl ?_
  refine s_mv 13 rfl rfl ?_
  refine s_eqPN 14 rfl rfl ?_
  refine s_mv 15 rfl rfl ?_
  refine s_mv 16 rfl rfl ?_
  refine s_neNN 17 rfl rfl ?_
  refine s_pickF 18 rfl rfl rfl ?_
  refine SX.next ?_
  refine CW.condF rfl ?_
  refine CW.skip ?_
  refine KN.code ?_
  refine CW.seq ?_
  refine CW.reg [0, 1, 2, 3] rfl ?_
  refine s_mv 19 rfl rfl ?_
  refine s_bsl 20 rfl rfl (cells := #[.int .u8 1, .int .u8 2]) (by kernel_rfl) rfl (fun _ _ => trivial) (fun g20 => ?_)
  refine s_callP 21 [1, 1, 1, 0] (M := [blk b 141 #[.int .i64 2, .int .i64 2, .int .i64 9, .slice (⟨none, 0, []⟩ : BufG).A (⟨none, 0, []⟩ : BufG).es.length (⟨none, 0, []⟩ : BufG).c], own 73 3 (⟨none, 0, []⟩ : BufG).A (⟨none, 0, []⟩ : BufG).es.length (⟨none, 0, []⟩ : BufG).c (rowsE (⟨none, 0, []⟩ : BufG).es), starA (datsE (⟨none, 0, []⟩ : BufG).es)]) (R := [blk g20 5 #[.int .u8 1, .int .u8 2]]) (X := BufG × Option Addr × Nat) (v := fun _ => .nilIface) (pf := fun x => x.1.es = [⟨3, false, x.2.1, x.2.2, [1, 2]⟩]) (M' := fun x => [blk b 141 #[.int .i64 2, .int .i64 2, .int .i64 9, .slice x.1.A x.1.es.length x.1.c], own 73 3 x.1.A x.1.es.length x.1.c (rowsE x.1.es), starA (datsE x.1.es)]) rfl rfl rfl rfl rfl (fun F' w' hR hM => put_spec e F' b 2 2 9 (⟨none, 0, []⟩ : BufG) 3 (some ⟨g20, 0, none⟩) 2 2 [1, 2] w' (by show ([] : List EntG).length ≤ 1000; simp) (fun w2 hf => (hR w2 hf).er he1) (fun w2 hf => (hR w2 hf).er he2) (fun w2 hf => (hR w2 hf).er he3) (fun w2 hf => Has.cong (((hR w2 hf).has (i := 0) rfl).blk_sl (m := 2) rfl) rfl) (by decide) hM) (fun _ _ _ => trivial) (fun x1 hx1 => ?_)
  obtain ⟨⟨A1, c1, es1⟩, z1⟩ := x1
  simp only at hx1
  subst hx1
  refine s_as 3 rfl rfl ?_
  refine SX.next ?_
  refine CW.seq ?_
  refine CW.reg [0, 1, 2] rfl ?_
  refine s_mv 22 rfl rfl ?_
  refine s_bsl 23 rfl rfl (cells := #[.int .u8 3, .int .u8 4]) (by kernel_rfl) rfl (fun _ _ => trivial) (fun g23 => ?_)
  refine s_callP 24 [1, 1, 1, 0, 0] (M := [blk b 141 #[.int .i64 2, .int .i64 2, .int .i64 9, .slice (⟨A1, c1, [⟨3, false, z1.1, z1.2, [1, 2]⟩]⟩ : BufG).A (⟨A1, c1, [⟨3, false, z1.1, z1.2, [1, 2]⟩]⟩ : BufG).es.length (⟨A1, c1, [⟨3, false, z1.1, z1.2, [1, 2]⟩]⟩ : BufG).c], own 73 3 (⟨A1, c1, [⟨3, false, z1.1, z1.2, [1, 2]⟩]⟩ : BufG).A (⟨A1, c1, [⟨3, false, z1.1, z1.2, [1, 2]⟩]⟩ : BufG).es.length (⟨A1, c1, [⟨3, false, z1.1, z1.2, [1, 2]⟩]⟩ : BufG).c (rowsE (⟨A1, c1, [⟨3, false, z1.1, z1.2, [1, 2]⟩]⟩ : BufG).es), starA (datsE (⟨A1, c1, [⟨3, false, z1.1, z1.2, [1, 2]⟩]⟩ : BufG).es)]) (R := [blk g23 5 #[.int .u8 3, .int .u8 4], blk g20 5 #[.int .u8 1, .int .u8 2]]) (X := BufG × Option Addr × Nat) (v := fun _ => .nilIface) (pf := fun x => x.1.es = [⟨3, false, z1.1, z1.2, [1, 2]⟩, ⟨4, false, x.2.1, x.2.2, [3, 4]⟩]) (M' := fun x => [blk b 141 #[.int .i64 2, .int .i64 2, .int .i64 9, .slice x.1.A x.1.es.length x.1.c], own 73 3 x.1.A x.1.es.length x.1.c (rowsE x.1.es), starA (datsE x.1.es)]) rfl rfl rfl rfl rfl (fun F' w' hR hM => put_spec e F' b 2 2 9 (⟨A1, c1, [⟨3, false, z1.1, z1.2, [1, 2]⟩]⟩ : BufG) 4 (some ⟨g23, 0, none⟩) 2 2 [3, 4] w' (by show ([⟨3, false, z1.1, z1.2, [1, 2]⟩] : List EntG).length ≤ 1000; simp) (fun w2 hf => (hR w2 hf).er he1) (fun w2 hf => (hR w2 hf).er he2) (fun w2 hf => (hR w2 hf).er he3) (fun w2 hf => Has.cong (((hR w2 hf).has (i := 0) rfl).blk_sl (m := 2) rfl) rfl) (by decide) hM) (fun _ _ _ => trivial) (fun x2 hx2 => ?_)
  obtain ⟨⟨A2, c2, es2⟩, z2⟩ := x2
  simp only at hx2
  subst hx2
  refine SX.next ?_
  refine CW.seq ?_
  refine CW.reg [0, 1, 2] rfl ?_
  refine s_mv 25 rfl rfl ?_
  refine s_bsl 26 rfl rfl (cells := #[.int .u8 5, .int .u8 6]) (by kernel_rfl) rfl (fun _ _ => trivial) (fun g26 => ?_)
  refine s_callP 27 [1, 1, 1, 0, 0, 0] (M := [blk b 141 #[.int .i64 2, .int .i64 2, .int .i64 9, .slice (⟨A2, c2, [⟨3, false, z1.1, z1.2, [1, 2]⟩, ⟨4, false, z2.1, z2.2, [3, 4]⟩]⟩ : BufG).A (⟨A2, c2, [⟨3, false, z1.1, z1.2, [1, 2]⟩, ⟨4, false, z2.1, z2.2, [3, 4]⟩]⟩ : BufG).es.length (⟨A2, c2, [⟨3, false, z1.1, z1.2, [1, 2]⟩, ⟨4, false, z2.1, z2.2, [3, 4]⟩]⟩ : BufG).c], own 73 3 (⟨A2, c2, [⟨3, false, z1.1, z1.2, [1, 2]⟩, ⟨4, false, z2.1, z2.2, [3, 4]⟩]⟩ : BufG).A (⟨A2, c2, [⟨3, false, z1.1, z1.2, [1, 2]⟩, ⟨4, false, z2.1, z2.2, [3, 4]⟩]⟩ : BufG).es.length (⟨A2, c2, [⟨3, false, z1.1, z1.2, [1, 2]⟩, ⟨4, false, z2.1, z2.2, [3, 4]⟩]⟩ : BufG).c (rowsE (⟨A2, c2, [⟨3, false, z1.1, z1.2, [1, 2]⟩, ⟨4, false, z2.1, z2.2, [3, 4]⟩]⟩ : BufG).es), starA (datsE (⟨A2, c2, [⟨3, false, z1.1, z1.2, [1, 2]⟩, ⟨4, false, z2.1, z2.2, [3, 4]⟩]⟩ : BufG).es)]) (R := [blk g26 5 #[.int .u8 5, .int .u8 6], blk g23 5 #[.int .u8 3, .int .u8 4], blk g20 5 #[.int .u8 1, .int .u8 2]]) (X := BufG × Option Addr × Nat) (v := fun _ => .nilIface) (pf := fun x => x.1.es = [⟨4, false, z2.1, z2.2, [3, 4]⟩, ⟨3, false, x.2.1, x.2.2, [5, 6]⟩]) (M' := fun x => [blk b 141 #[.int .i64 2, .int .i64 2, .int .i64 9, .slice x.1.A x.1.es.length x.1.c], own 73 3 x.1.A x.1.es.length x.1.c (rowsE x.1.es), starA (datsE x.1.es)]) rfl rfl rfl rfl rfl (fun F' w' hR hM => put_spec e F' b 2 2 9 (⟨A2, c2, [⟨3, false, z1.1, z1.2, [1, 2]⟩, ⟨4, false, z2.1, z2.2, [3, 4]⟩]⟩ : BufG) 3 (some ⟨g26, 0, none⟩) 2 2 [5, 6] w' (by show ([⟨3, false, z1.1, z1.2, [1, 2]⟩, ⟨4, false, z2.1, z2.2, [3, 4]⟩] : List EntG).length ≤ 1000; simp) (fun w2 hf => (hR w2 hf).er he1) (fun w2 hf => (hR w2 hf).er he2) (fun w2 hf => (hR w2 hf).er he3) (fun w2 hf => Has.cong (((hR w2 hf).has (i := 0) rfl).blk_sl (m := 2) rfl) rfl) (by decide) hM) (fun _ _ _ => trivial) (fun x3 hx3 => ?_)
  obtain ⟨⟨A3, c3, es3⟩, z3⟩ := x3
  simp only at hx3
  subst hx3
  refine SX.next ?_
  refine CW.seq ?_
  refine CW.reg [0, 1, 2] rfl ?_
  refine s_mv 28 rfl rfl ?_
  refine s_call 29 rfl rfl rfl rfl (fun w hw => entries_spec b A3 c3 [⟨4, false, z2.1, z2.2, [3, 4]⟩, ⟨3, false, z3.1, z3.2, [5, 6]⟩] w ((hw.has (i := 1) rfl).of_own) (by simp) (hw.blkCell (i := 0) rfl rfl) (fun e he => (Has.starM (hw.has (i := 2) rfl) (List.mem_map_of_mem he)).of_own) (fun e he => by
    simp only [List.mem_cons, List.not_mem_nil, or_false] at he
    rcases he with rfl | rfl <;> simp)) (fun _ _ => trivial) (fun y hy => ?_)
  refine s_as 4 rfl rfl ?_
  refine SX.next ?_
  refine CW.seq ?_
  refine CW.reg [0, 1, 2] rfl ?_
  refine s_mv 30 rfl rfl ?_
  refine s_callP 31 [2, 2, 2, 0, 0, 0, 0, 0] (M := [blk b 141 #[.int .i64 2, .int .i64 2, .int .i64 9, .slice (⟨A3, c3, [⟨4, false, z2.1, z2.2, [3, 4]⟩, ⟨3, false, z3.1, z3.2, [5, 6]⟩]⟩ : BufG).A (⟨A3, c3, [⟨4, false, z2.1, z2.2, [3, 4]⟩, ⟨3, false, z3.1, z3.2, [5, 6]⟩]⟩ : BufG).es.length (⟨A3, c3, [⟨4, false, z2.1, z2.2, [3, 4]⟩, ⟨3, false, z3.1, z3.2, [5, 6]⟩]⟩ : BufG).c], own 73 3 (⟨A3, c3, [⟨4, false, z2.1, z2.2, [3, 4]⟩, ⟨3, false, z3.1, z3.2, [5, 6]⟩]⟩ : BufG).A (⟨A3, c3, [⟨4, false, z2.1, z2.2, [3, 4]⟩, ⟨3, false, z3.1, z3.2, [5, 6]⟩]⟩ : BufG).es.length (⟨A3, c3, [⟨4, false, z2.1, z2.2, [3, 4]⟩, ⟨3, false, z3.1, z3.2, [5, 6]⟩]⟩ : BufG).c (rowsE (⟨A3, c3, [⟨4, false, z2.1, z2.2, [3, 4]⟩, ⟨3, false, z3.1, z3.2, [5, 6]⟩]⟩ : BufG).es), starA (datsE (⟨A3, c3, [⟨4, false, z2.1, z2.2, [3, 4]⟩, ⟨3, false, z3.1, z3.2, [5, 6]⟩]⟩ : BufG).es)]) (R := [own 73 3 y.A y.es.length y.c (rowsE y.es), starA (datsE y.es), blk g26 5 #[.int .u8 5, .int .u8 6], blk g23 5 #[.int .u8 3, .int .u8 4], blk g20 5 #[.int .u8 1, .int .u8 2]]) (X := BufG) (v := fun _ => errV e 3) (pf := fun x => x.es = [⟨4, false, z2.1, z2.2, [3, 4]⟩, ⟨3, false, z3.1, z3.2, [5, 6]⟩]) (M' := fun x => [blk b 141 #[.int .i64 2, .int .i64 2, .int .i64 9, .slice x.A x.es.length x.c], own 73 3 x.A x.es.length x.c (rowsE x.es), starA (datsE x.es)]) rfl rfl rfl rfl rfl (fun F' w' hR hM => drop_spec e F' b 2 2 9 (⟨A3, c3, [⟨4, false, z2.1, z2.2, [3, 4]⟩, ⟨3, false, z3.1, z3.2, [5, 6]⟩]⟩ : BufG) 5 w' (by show ([⟨4, false, z2.1, z2.2, [3, 4]⟩, ⟨3, false, z3.1, z3.2, [5, 6]⟩] : List EntG).length ≤ 1000; simp) (fun w2 hf => (hR w2 hf).er he1) (fun w2 hf => (hR w2 hf).er he2) (fun w2 hf => (hR w2 hf).er he3) hM) (fun _ _ _ => trivial) (fun x4 hx4 => ?_)
  obtain ⟨A4, c4, es4⟩ := x4
  simp only at hx4
  subst hx4
  refine s_as 5 rfl rfl ?_
  refine SX.next ?_
  refine CW.seq ?_
  refine CW.reg [0, 1, 2] rfl ?_
  refine s_mv 32 rfl rfl ?_
  refine s_callP 33 [0, 0, 0, 0, 0, 0, 0, 0] (M := [blk b 141 #[.int .i64 2, .int .i64 2, .int .i64 9, .slice (⟨A4, c4, [⟨4, false, z2.1, z2.2, [3, 4]⟩, ⟨3, false, z3.1, z3.2, [5, 6]⟩]⟩ : BufG).A (⟨A4, c4, [⟨4, false, z2.1, z2.2, [3, 4]⟩, ⟨3, false, z3.1, z3.2, [5, 6]⟩]⟩ : BufG).es.length (⟨A4, c4, [⟨4, false, z2.1, z2.2, [3, 4]⟩, ⟨3, false, z3.1, z3.2, [5, 6]⟩]⟩ : BufG).c], own 73 3 (⟨A4, c4, [⟨4, false, z2.1, z2.2, [3, 4]⟩, ⟨3, false, z3.1, z3.2, [5, 6]⟩]⟩ : BufG).A (⟨A4, c4, [⟨4, false, z2.1, z2.2, [3, 4]⟩, ⟨3, false, z3.1, z3.2, [5, 6]⟩]⟩ : BufG).es.length (⟨A4, c4, [⟨4, false, z2.1, z2.2, [3, 4]⟩, ⟨3, false, z3.1, z3.2, [5, 6]⟩]⟩ : BufG).c (rowsE (⟨A4, c4, [⟨4, false, z2.1, z2.2, [3, 4]⟩, ⟨3, false, z3.1, z3.2, [5, 6]⟩]⟩ : BufG).es), starA (datsE (⟨A4, c4, [⟨4, false, z2.1, z2.2, [3, 4]⟩, ⟨3, false, z3.1, z3.2, [5, 6]⟩]⟩ : BufG).es)]) (R := [own 73 3 y.A y.es.length y.c (rowsE y.es), starA (datsE y.es), blk g26 5 #[.int .u8 5, .int .u8 6], blk g23 5 #[.int .u8 3, .int .u8 4], blk g20 5 #[.int .u8 1, .int .u8 2]]) (X := BufG) (v := fun _ => .nilIface) (pf := fun x => x.es = [⟨3, false, z3.1, z3.2, [5, 6]⟩, ⟨4, true, none, 0, []⟩]) (M' := fun x => [blk b 141 #[.int .i64 2, .int .i64 2, .int .i64 9, .slice x.A x.es.length x.c], own 73 3 x.A x.es.length x.c (rowsE x.es), starA (datsE x.es)]) rfl rfl rfl rfl rfl (fun F' w' hR hM => drop_spec e F' b 2 2 9 (⟨A4, c4, [⟨4, false, z2.1, z2.2, [3, 4]⟩, ⟨3, false, z3.1, z3.2, [5, 6]⟩]⟩ : BufG) 4 w' (by show ([⟨4, false, z2.1, z2.2, [3, 4]⟩, ⟨3, false, z3.1, z3.2, [5, 6]⟩] : List EntG).length ≤ 1000; simp) (fun w2 hf => (hR w2 hf).er he1) (fun w2 hf => (hR w2 hf).er he2) (fun w2 hf => (hR w2 hf).er he3) hM) (fun _ _ _ => trivial) (fun x5 hx5 => ?_)
  obtain ⟨A5, c5, es5⟩ := x5
  simp only at hx5
  subst hx5
  refine s_as 6 rfl rfl ?_
  refine SX.next ?_
  refine CW.seq ?_
  refine CW.reg [0, 1, 2, 3, 4, 5, 6, 7] rfl ?_
  refine s_mv 35 rfl rfl ?_
  refine s_call 36 rfl rfl rfl rfl (fun w hw => get_some b A5 c5 [⟨3, false, z3.1, z3.2, [5, 6]⟩, ⟨4, true, none, 0, []⟩] 4 1 ⟨4, true, none, 0, []⟩ w ((hw.has (i := 1) rfl).of_own) (by simp) (hw.blkCell (i := 0) rfl rfl) (fun e he => (Has.starM (hw.has (i := 2) rfl) (List.mem_map_of_mem he)).of_own) (fun e he => by
    simp only [List.mem_cons, List.not_mem_nil, or_false] at he
    rcases he with rfl | rfl <;> simp) rfl rfl) (fun _ _ => trivial) (fun z hz => ?_)
  refine s_mv 34 rfl rfl ?_
  refine s_ext 37 rfl rfl rfl ?_
  refine s_ext 38 rfl rfl rfl ?_
  refine s_alloc 7 rfl (fun _ _ => trivial) (fun b7 => ?_)
  refine s_stAll 0 rfl rfl (by kernel_rfl) rfl rfl rfl rfl (fun _ _ => trivial) ?_
  refine s_as 8 rfl rfl ?_
  refine SX.next ?_
  refine CW.seq ?_
  have hyl := keys_len hy.1
  obtain ⟨y0, hy0, hy1, _, _⟩ := key_at hy.1 (i := 0) rfl
  have hyl2 : y.es.length = 2 := hyl
  refine CW.regD (.st true 0 (.st true 1 (.st true 2 (.st true 3 (.st true 4 (.st true 5 (.st true 6 (.st true 7 (.st true 8 (.st true 9 (.st true 10 (.st true 11 (.st true 12 (.st true 13 (.st true 14 (.st true 15 (.st true 16 (.st true 17 (.st true 18 (.st true 19 (.st true 20 (.st true 21 (.st true 22 (.st true 23 (.st true 24 (.st true 25 (.st true 26 (.st true 27 (.st true 28 (.st true 29 (.st true 30 (.st true 31 (.st true 34 (.st false 32 (.st false 33 (.st true 35 (.st true 36 (.st true 37 (.st true 38 (.st true 41 (.st false 39 (.st false 40 (.st true 42 (.st true 43 (.st true 44 .done))))))))))))))))))))))))))))))))))))))))))))) (Sto w [blk b7 73 #[.int .i64 4, .bool true, .slice z.1 0 z.2], own 73 3 y.A y.es.length y.c (rowsE y.es)]) mixed (by kernel_rfl) (fun _ h => h.drew) (fun _ h => h.pick [0, 4] rfl) ?_
  refine s_mv 39 rfl rfl ?_
  refine s_eqNN 40 rfl rfl ?_
  refine s_mv 41 rfl rfl ?_
  refine s_mv 42 rfl rfl ?_
  refine s_len 43 rfl rfl ?_
  refine s_eq 44 rfl rfl rfl (decide_eq_true (by omega)) ?_
  refine s_pickT 45 rfl rfl rfl ?_
  refine s_mv 46 rfl rfl ?_
  refine s_mv 47 rfl rfl ?_
  refine s_iaOS 48 5 0 rfl rfl rfl rfl rfl (by omega) ?_
  refine s_fa 49 rfl rfl ?_
  refine s_ldS 50 rfl rfl (v := .int .i64 4) (fun _ h => h.ownCell (q := 1) (j := 0) rfl (by have := rowsE_at (j := 0) hy0 rfl; rw [hy1] at this; exact this)) ?_
  refine s_eq 51 rfl rfl rfl (decide_eq_true rfl) ?_
  refine s_pickT 52 rfl rfl rfl ?_
  refine s_mv 53 rfl rfl ?_
  refine s_mv 54 rfl rfl ?_
  refine s_ldS 55 rfl rfl (fun _ h => h.cell he3) ?_
  refine s_eqE 56 rfl rfl rfl ?_
  refine s_pickT 57 rfl rfl rfl ?_
  refine s_mv 58 rfl rfl ?_
  refine s_mv 59 rfl rfl ?_
  refine s_eqNN 60 rfl rfl ?_
  refine s_pickT 61 rfl rfl rfl ?_
  refine s_mv 62 rfl rfl ?_
  refine s_mv 63 rfl rfl ?_
  refine s_pickT 64 rfl rfl rfl ?_
  refine s_mv 65 rfl rfl ?_
  refine s_fa 66 rfl rfl ?_
  refine s_ldS 67 rfl rfl (v := .bool true) (fun _ h => h.blkCell (i := 0) rfl rfl) ?_
  refine s_pickT 68 rfl rfl rfl ?_
  refine s_mv 69 rfl rfl ?_
  refine s_mv 70 rfl rfl ?_
  refine s_ldS 73 rfl rfl (fun _ h => h.cell he1) ?_
  refine s_bsl 71 rfl rfl (cells := #[.int .u8 1, .int .u8 2]) (by kernel_rfl) rfl (fun _ h => h.pick [0, 4] rfl) (fun g71 => ?_)
  refine s_callP 72 [3, 3, 3, 0, 0, 0, 0, 0, 0, 0, 0] (M := [blk b 141 #[.int .i64 2, .int .i64 2, .int .i64 9, .slice (⟨A5, c5, [⟨3, false, z3.1, z3.2, [5, 6]⟩, ⟨4, true, none, 0, []⟩]⟩ : BufG).A (⟨A5, c5, [⟨3, false, z3.1, z3.2, [5, 6]⟩, ⟨4, true, none, 0, []⟩]⟩ : BufG).es.length (⟨A5, c5, [⟨3, false, z3.1, z3.2, [5, 6]⟩, ⟨4, true, none, 0, []⟩]⟩ : BufG).c], own 73 3 (⟨A5, c5, [⟨3, false, z3.1, z3.2, [5, 6]⟩, ⟨4, true, none, 0, []⟩]⟩ : BufG).A (⟨A5, c5, [⟨3, false, z3.1, z3.2, [5, 6]⟩, ⟨4, true, none, 0, []⟩]⟩ : BufG).es.length (⟨A5, c5, [⟨3, false, z3.1, z3.2, [5, 6]⟩, ⟨4, true, none, 0, []⟩]⟩ : BufG).c (rowsE (⟨A5, c5, [⟨3, false, z3.1, z3.2, [5, 6]⟩, ⟨4, true, none, 0, []⟩]⟩ : BufG).es), starA (datsE (⟨A5, c5, [⟨3, false, z3.1, z3.2, [5, 6]⟩, ⟨4, true, none, 0, []⟩]⟩ : BufG).es)]) (R := [blk g71 5 #[.int .u8 1, .int .u8 2], blk b7 73 #[.int .i64 4, .bool true, .slice z.1 0 z.2], own 5 1 z.1 ([] : List Nat).length z.2 (nats .u8 []), own 73 3 y.A y.es.length y.c (rowsE y.es), starA (datsE y.es), blk g26 5 #[.int .u8 5, .int .u8 6], blk g23 5 #[.int .u8 3, .int .u8 4], blk g20 5 #[.int .u8 1, .int .u8 2]]) (X := BufG × Option Addr × Nat) (v := fun _ => errV e 1) (pf := fun x => x.1.es = [⟨3, false, z3.1, z3.2, [5, 6]⟩, ⟨4, true, none, 0, []⟩]) (M' := fun x => [blk b 141 #[.int .i64 2, .int .i64 2, .int .i64 9, .slice x.1.A x.1.es.length x.1.c], own 73 3 x.1.A x.1.es.length x.1.c (rowsE x.1.es), starA (datsE x.1.es)]) rfl rfl rfl rfl rfl (fun F' w' hR hM => put_spec e F' b 2 2 9 (⟨A5, c5, [⟨3, false, z3.1, z3.2, [5, 6]⟩, ⟨4, true, none, 0, []⟩]⟩ : BufG) 9 (some ⟨g71, 0, none⟩) 2 2 [1, 2] w' (by show ([⟨3, false, z3.1, z3.2, [5, 6]⟩, ⟨4, true, none, 0, []⟩] : List EntG).length ≤ 1000; simp) (fun w2 hf => (hR w2 hf).er he1) (fun w2 hf => (hR w2 hf).er he2) (fun w2 hf => (hR w2 hf).er he3) (fun w2 hf => Has.cong (((hR w2 hf).has (i := 0) rfl).blk_sl (m := 2) rfl) rfl) (by decide) hM) (fun _ _ h => h.pick [4, 5] rfl) (fun x6 hx6 => ?_)
  obtain ⟨⟨A6, c6, es6⟩, z6⟩ := x6
  simp only at hx6
  subst hx6
  refine s_eqE 74 rfl rfl rfl ?_
  refine s_pickT 75 rfl rfl rfl ?_
  refine s_mv 76 rfl rfl ?_
  refine s_mv 77 rfl rfl ?_
  refine s_ldS 80 rfl rfl (fun _ h => h.cell he2) ?_
  refine s_bsl 78 rfl rfl (cells := #[.int .u8 1]) (by kernel_rfl) rfl (fun _ h => h.pick [4, 5] rfl) (fun g78 => ?_)
  refine s_callP 79 [1, 1, 1, 0, 0, 0, 0, 0, 0, 0, 0, 0] (M := [blk b 141 #[.int .i64 2, .int .i64 2, .int .i64 9, .slice (⟨A6, c6, [⟨3, false, z3.1, z3.2, [5, 6]⟩, ⟨4, true, none, 0, []⟩]⟩ : BufG).A (⟨A6, c6, [⟨3, false, z3.1, z3.2, [5, 6]⟩, ⟨4, true, none, 0, []⟩]⟩ : BufG).es.length (⟨A6, c6, [⟨3, false, z3.1, z3.2, [5, 6]⟩, ⟨4, true, none, 0, []⟩]⟩ : BufG).c], own 73 3 (⟨A6, c6, [⟨3, false, z3.1, z3.2, [5, 6]⟩, ⟨4, true, none, 0, []⟩]⟩ : BufG).A (⟨A6, c6, [⟨3, false, z3.1, z3.2, [5, 6]⟩, ⟨4, true, none, 0, []⟩]⟩ : BufG).es.length (⟨A6, c6, [⟨3, false, z3.1, z3.2, [5, 6]⟩, ⟨4, true, none, 0, []⟩]⟩ : BufG).c (rowsE (⟨A6, c6, [⟨3, false, z3.1, z3.2, [5, 6]⟩, ⟨4, true, none, 0, []⟩]⟩ : BufG).es), starA (datsE (⟨A6, c6, [⟨3, false, z3.1, z3.2, [5, 6]⟩, ⟨4, true, none, 0, []⟩]⟩ : BufG).es)]) (R := [blk g78 5 #[.int .u8 1], blk g71 5 #[.int .u8 1, .int .u8 2], blk b7 73 #[.int .i64 4, .bool true, .slice z.1 0 z.2], own 5 1 z.1 ([] : List Nat).length z.2 (nats .u8 []), own 73 3 y.A y.es.length y.c (rowsE y.es), starA (datsE y.es), blk g26 5 #[.int .u8 5, .int .u8 6], blk g23 5 #[.int .u8 3, .int .u8 4], blk g20 5 #[.int .u8 1, .int .u8 2]]) (X := BufG × Option Addr × Nat) (v := fun _ => errV e 5) (pf := fun x => x.1.es = [⟨3, false, z3.1, z3.2, [5, 6]⟩, ⟨4, true, none, 0, []⟩]) (M' := fun x => [blk b 141 #[.int .i64 2, .int .i64 2, .int .i64 9, .slice x.1.A x.1.es.length x.1.c], own 73 3 x.1.A x.1.es.length x.1.c (rowsE x.1.es), starA (datsE x.1.es)]) rfl rfl rfl rfl rfl (fun F' w' hR hM => put_spec e F' b 2 2 9 (⟨A6, c6, [⟨3, false, z3.1, z3.2, [5, 6]⟩, ⟨4, true, none, 0, []⟩]⟩ : BufG) 3 (some ⟨g78, 0, none⟩) 1 1 [1] w' (by show ([⟨3, false, z3.1, z3.2, [5, 6]⟩, ⟨4, true, none, 0, []⟩] : List EntG).length ≤ 1000; simp) (fun w2 hf => (hR w2 hf).er he1) (fun w2 hf => (hR w2 hf).er he2) (fun w2 hf => (hR w2 hf).er he3) (fun w2 hf => Has.cong (((hR w2 hf).has (i := 0) rfl).blk_sl (m := 1) rfl) rfl) (by decide) hM) (fun _ _ h => h.pick [5, 6] rfl) (fun x7 hx7 => ?_)
  obtain ⟨⟨A7, c7, es7⟩, z7⟩ := x7
  simp only at hx7
  subst hx7
  refine s_eqE 81 rfl rfl rfl ?_
  refine s_pickT 82 rfl rfl rfl ?_
  refine s_as 0 rfl rfl ?_
  refine SX.next ?_
  refine CW.ret ?_
  exact KN.ret (rs := [.tmp 0]) Tryd.results50 rfl (fun w hw => ⟨rfl, hw.nothing⟩)
end Go.Proofs.YtcdmmfpgeagimaaDoor
end
section
/- Slices of one's own that lie many in one part: their cells stored. No condition. -/
namespace Go.Sx
open Go
section
variable {F : Nat → Prop} {w₀ : World} {L L' : List Atom}
theorem starOk_own {w : World} {B : Atom} : ∀ {X : List Atom} {i : Nat} {D : Nat → Prop}, starOk X w D → X[i]? = some B → ∃ D1 : Nat → Prop, B.ok w D1 ∧ ∀ k, D1 k → D k
  | [], i, _, _, h => by simp at h
  | A :: X, 0, D, ⟨D1, D2, h1, _, h3, _⟩, h => by
    obtain rfl : A = B := by simpa using h
    exact ⟨D1, h1, fun k hk => (h3 k).2 (.inl hk)⟩
  | A :: X, i + 1, D, ⟨D1, D2, _, h2, h3, _⟩, h => by
    obtain ⟨D', k1, k2⟩ := starOk_own (i := i) h2 (by simpa using h)
    exact ⟨D', k1, fun k hk => (h3 k).2 (.inr (k2 k hk))⟩
theorem starOk_set {w : World} {E sz m c j : Nat} {A : Option Addr} {xs : List Value} {v : Value} (hj : j < xs.length) : ∀ {X : List Atom} {i : Nat} {D : Nat → Prop}, starOk X w D → X[i]? = some (own E sz A m c xs) →
    D (ob A) ∧ starOk (X.set i (own E sz A m c (xs.set j v))) (w.setCell ⟨ob A, 0 + j, none⟩ v) D
  | [], i, _, _, h => by simp at h
  | B :: X, 0, D, ⟨D1, D2, h1, h2, h3, h4⟩, h => by
    obtain rfl : B = own E sz A m c xs := by simpa using h
    obtain ⟨⟨k1, k2⟩, kD⟩ := h1
    rcases k2 with ⟨_, k3⟩ | ⟨g, cap, cur, hv2, hb, hh, hc, hm, hs, ht⟩
    · rw [k1, k3, Nat.zero_mul] at hj; omega
    · injection hv2 with hA hm2 hc2
      subst hA
      clear hm2
      subst hc2
      have hg : D1 g := (kD g).2 ⟨by simp, rfl⟩
      rw [Nat.zero_add]
      refine ⟨(h3 g).2 (.inl hg), D1, D2, ⟨⟨by simpa using k1, .inr ⟨g, c, cur.setIfInBounds j v, rfl, hb, heap_set_same hh j v, hc, hm, by simpa using hs, ?_⟩⟩, kD⟩, starOk_loc X h2 (fun k hk => heap_set_other _ _ _ (fun e => h4 g hg (by rw [← show k = g from e]; exact hk))), h3, h4⟩
      rw [Array.toList_setIfInBounds, List.take_set, ht]
  | B :: X, i + 1, D, ⟨D1, D2, h1, h2, h3, h4⟩, h => by
    obtain ⟨k1, k2⟩ := starOk_set (i := i) hj h2 (by simpa using h)
    exact ⟨(h3 _).2 (.inr k1), D1, D2, B.loc h1 (fun k hk => heap_set_other _ _ _ (fun e => h4 k hk (by rw [show k = ob A from e]; exact k1))), k2, h3, h4⟩
theorem St.starSet {q i j E sz m c : Nat} {A : Option Addr} {X : List Atom} {xs : List Value} {v : Value} {w : World} (hi : L[q]? = some (starA X)) (hX : X[i]? = some (own E sz A m c xs)) (hj : j < xs.length) (h : St F w₀ L w) : St F w₀ (L.set q (starA (X.set i (own E sz A m c (xs.set j v))))) (w.setCell ⟨ob A, 0 + j, none⟩ v) := by
  obtain ⟨D, h1, hlt, hmk⟩ := h.work hi
  obtain ⟨k1, k2⟩ := starOk_set (v := v) hj h1 hX
  exact hmk _ _ D ⟨rfl, rfl, rfl, by simp [World.setCell], fun k hk => heap_set_other _ _ _ (fun e => hk.2 (by rw [show k = ob A from e]; exact k1))⟩ k2 (fun k hk => ⟨.inl hk, by simp [World.setCell]; exact hlt k hk⟩)
theorem St.starOwn {q i E sz m c : Nat} {A : Option Addr} {X : List Atom} {xs : List Value} {w : World} (hi : L[q]? = some (starA X)) (hX : X[i]? = some (own E sz A m c xs)) (h : St F w₀ L w) : ∃ D : Nat → Prop, (own E sz A m c xs).ok w D := by
  obtain ⟨D, h1, _, _⟩ := h.work hi
  obtain ⟨D1, k1, _⟩ := starOk_own h1 hX
  exact ⟨D1, k1⟩
theorem St.starAt {q i E sz m c : Nat} {A : Option Addr} {X : List Atom} {xs : List Value} {w : World} (hi : L[q]? = some (starA X)) (hX : X[i]? = some (own E sz A m c xs)) (h : St F w₀ L w) : (m ≠ 0 → A = some ⟨ob A, 0, none⟩ ∧ (∀ j, w.frozen? ⟨ob A, j, none⟩ = false) ∧ ∀ j v, xs[j]? = some v → w.cell? ⟨ob A, 0 + j, none⟩ = some v) ∧ xs.length = m * sz := by
  obtain ⟨D, ⟨k1, k2⟩, _⟩ := h.starOwn hi hX
  refine ⟨fun hm => ?_, k1⟩
  rcases k2 with ⟨_, k3⟩ | ⟨g, cap, cur, hv2, hb, hh, hc, hmx, hs, ht⟩
  · exact absurd k3 hm
  · injection hv2 with hA
    subst hA
    refine ⟨rfl, fun j => frozen_of_blk hh j, fun j v hj => ?_⟩
    show w.cell? ⟨g, 0 + j, none⟩ = some v
    rw [Nat.zero_add, cell_of_blk hh]
    rw [← ht, List.getElem?_take] at hj
    split at hj
    · simpa using hj
    · cases hj
end
section
variable {P : Program} {ops : Array Oper} {S : World → Prop} {K : Act → World → Prop} {p : Plan} {n : Nat} {l : List (Nat × Value)} {C : World → Prop} {fl : Bool} {i : Nat} {ty ty' ty2 : TypeId} {x y : Operand}
variable {F : Nat → Prop} {w₀ : World} {L : List Atom}
theorem s_stStar (q t : Nat) {E j : Nat} {A : Option Addr} {m c : Nat} {X : List Atom} {xs : List Value} {v : Value} (hi : L[q]? = some (starA X)) (hX : X[t]? = some (own E 1 A m c xs)) (ho : opAt ops n l i = some (none, .store ty x y, ty2)) [One P ty] (hx : ev l x = some (.pointer (some ⟨ob A, 0 + j, none⟩))) (hy : ev l y = some v) (hv : oneCell v = true)
    (hj : j < m) (hS : ∀ w, St F w₀ (L.set q (starA (X.set t (own E 1 A m c (xs.set j v))))) w → S w) (h : SX P ops S K p n l (St F w₀ (L.set q (starA (X.set t (own E 1 A m c (xs.set j v))))))) : SX P ops S K (.st false i p) n l (St F w₀ L) := by
  refine SX.know (fun w hw => (hw.starAt hi hX).2) (fun hl => ?_)
  rw [Nat.mul_one] at hl
  refine s_st ho hx hy hv (fun _ hw => ?_) hS h
  obtain ⟨_, k2, k3⟩ := (hw.starAt hi hX).1 (by omega)
  exact ⟨⟨_, k3 j _ (List.getElem?_eq_getElem (by omega))⟩, k2 _, hw.starSet hi hX (by omega)⟩
/-- At index j of one of them. -/
theorem s_iaStar (d q t j : Nat) {E by_ : Nat} {zv : Value} {A : Option Addr} {m c : Nat} {k : IntKind} {b : Int} {X : List Atom} {xs : List Value} (hi : L[q]? = some (starA X)) (hX : X[t]? = some (own E 1 A m c xs)) (ho : opAt ops n l i = some (some d, .indexAddr ty x y, ty2)) [SlT P ty E 1 by_ zv] (hx : ev l x = some (.slice A m c)) (hy : ev l y = some (.int k b))
    (hq : b = (j : Nat)) (hj : j < m) (h : SX P ops S K p n ((d, (.pointer (some ⟨ob A, 0 + j, none⟩))) :: l) (St F w₀ L)) : SX P ops S K (.st fl i p) n l (St F w₀ L) := by
  refine SX.know (fun w hw => ((hw.starAt hi hX).1 (by omega)).1) (fun hA => ?_)
  refine s_iaQ d j ho hx hy hq hj (ob_off hA) ?_
  rw [oo_zero hA]
  exact h
end
end Go.Sx
end
