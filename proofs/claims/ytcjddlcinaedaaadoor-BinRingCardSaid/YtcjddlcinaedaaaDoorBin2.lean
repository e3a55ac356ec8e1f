/- The contracts of package binpoly: sums and products. Conditions: the lists are bytes, read where they lie. -/
import Derived.Test.YtcjddlcinaedaaaDoorBin
namespace Go.Proofs.YtcjddlcinaedaaaDoor
open Go Go.Lib Go.Sx Go.Fm
set_option maxRecDepth 100000
theorem ints_tabN (k : IntKind) (n : Nat) (f : Nat → Nat) : ints k (tabN n f) = nats k ((List.range n).map f) := by simp [ints, tabN, tab, nats]
theorem shr_two (x s : Nat) : (x >>> s) % 2 = (x.testBit s).toNat := by
  rw [Nat.testBit_eq_decide_div_mod_eq, Nat.shiftRight_eq_div_pow]
  rcases Nat.mod_two_eq_zero_or_one (x / 2 ^ s) with h | h <;> rw [h] <;> simp
theorem shr_xor (x y s : Nat) : ((x ^^^ y) >>> s) % 2 = ((x >>> s) % 2) ^^^ ((y >>> s) % 2) := by
  rw [shr_two, shr_two, shr_two, Nat.testBit_xor]
  cases x.testBit s <;> cases y.testBit s <;> rfl
/-- The sum, byte by byte. -/
def baF (a b : List Nat) (i j : Nat) : Nat := if j < i then cf a j ^^^ cf b j else cf a j
theorem baF_next (a b : List Nat) (i : Nat) : (fun j => if j = i then cf a i ^^^ cf b i else baF a b i j) = baF a b (i + 1) := by
  funext j
  unfold baF
  by_cases h : j = i
  · subst h; simp
  · rw [if_neg h]
    by_cases h2 : j < i
    · rw [if_pos h2, if_pos (by omega)]
    · rw [if_neg h2, if_neg (by omega)]
theorem xor8 {a b : Nat} (ha : a < 256) (hb : b < 256) : a ^^^ b < 256 := Nat.xor_lt_two_pow (n := 8) ha hb
theorem baF_lt {a b : List Nat} (ha : ∀ x ∈ a, x < 256) (hb : ∀ x ∈ b, x < 256) (i : Nat) : ∀ x ∈ (List.range a.length).map (baF a b i), x < 256 := fun x hx => by
  obtain ⟨j, _, rfl⟩ := List.mem_map.1 hx
  unfold baF
  split
  · exact xor8 (cf_lt8 ha j) (cf_lt8 hb j)
  · exact cf_lt8 ha j
theorem badd_all {a b : List Nat} (ha : ∀ x ∈ a, x < 256) (hb : ∀ x ∈ b, x < 256) (hl : b.length ≤ a.length) : trim ((List.range a.length).map (baF a b b.length)) = bys (addP (bl a) (bl b)) :=
  bys_of (baF_lt ha hb _) (addP_b1 (bl_b1 a) (bl_b1 b)) (fun j => by
    rw [cf_addP, cf_bl, cf_bl]
    unfold bitN
    rw [cf_range]
    split
    · unfold baF
      split
      · exact shr_xor _ _ _
      · rw [cf_out (l := b) (by omega)]
        simp
    · rw [cf_out (l := a) (by omega), cf_out (l := b) (by omega)]
      simp)
/-- A list of bytes in memory. -/
structure BlG where
  A : Option Addr
  c : Nat
  l : List Nat
structure BaddG (w : World) (a b : List Nat) (q : BlG × BlG) : Prop where
  h1 : Has (sl 1 q.1.A q.1.l.length (nats .u8 q.1.l)) w
  h2 : Has (sl 1 q.2.A q.2.l.length (nats .u8 q.2.l)) w
  b1 : ∀ x ∈ q.1.l, x < 256
  b2 : ∀ x ∈ q.2.l, x < 256
  le : q.2.l.length ≤ q.1.l.length
  bd : q.1.l.length ≤ 1073741824
  eq : addP (bl q.1.l) (bl q.2.l) = addP (bl a) (bl b)

theorem badd_spec (A : Option Addr) (n c : Nat) (p : List Nat) (A2 : Option Addr) (n2 c2 : Nat) (p2 : List Nat) (w : World) (ha : Has (sl 1 A n (nats .u8 p)) w) (hp : ∀ x ∈ p, x < 256) (hn : n ≤ 1073741824) (hcp : n ≤ c) (ha2 : Has (sl 1 A2 n2 (nats .u8 p2)) w) (hp2 : ∀ x ∈ p2, x < 256) (hn2 : n2 ≤ 1073741824) (hcp2 : n2 ≤ c2) : SpecB Tryd.prog 69 [.slice A n c, .slice A2 n2 c2] w (bys (addP (bl p) (bl p2))) := by
  have hla := nats_len ha
  subst hla
  have hla2 := nats_len ha2
  subst hla2
  refine spec_of Tryd.func69 rfl Tryd.ntmps69 rfl ?_
  refine CW.seq ?_
  refine CW.reg [0] rfl ?_   -- 0, binpoly.go:86
  refine s_as 4 rfl rfl ?_
  refine SX.next ?_
  refine CW.cut (G := BlG × BlG) (fun q => [(0, .slice q.1.A q.1.l.length q.1.c), (1, .slice q.2.A q.2.l.length q.2.c)]) (fun _ => Sto w []) (BaddG w p p2) ?_ ?_
  · skip
    refine CW.seq ?_
    refine CW.reg [0, 1, 2, 3, 4] rfl ?_   -- 1, binpoly.go:87
    refine s_mv 8 rfl rfl ?_
    refine s_len 9 rfl rfl ?_
    refine s_mv 10 rfl rfl ?_
    refine s_len 11 rfl rfl ?_
    refine s_lt 12 rfl rfl rfl rfl ?_
    refine SX.next ?_
    refine CW.test rfl (fun hc => ?_) (fun hc => ?_)
    · skip
      refine CW.reg [0, 1, 2, 3] rfl ?_   -- 2, binpoly.go:88
      refine s_mv 13 rfl rfl ?_
      refine s_mv 14 rfl rfl ?_
      refine s_as 0 rfl rfl ?_
      refine s_as 1 rfl rfl ?_
      refine SX.end_ ?_
      exact KN.join (⟨A2, c2, p2⟩, ⟨A, c, p⟩) ⟨rfl, rfl, trivial⟩ (fun _ h => h) ⟨ha2, ha, hp2, hp, by simp only; omega, hn2, addP_comm _ _⟩
    · skip
      refine CW.skip ?_
      exact KN.join (⟨A, c, p⟩, ⟨A2, c2, p2⟩) ⟨rfl, rfl, trivial⟩ (fun _ h => h) ⟨ha, ha2, hp, hp2, by simp only; omega, hn, rfl⟩
  · skip
    rintro ⟨⟨A3, c3, l3⟩, ⟨A4, c4, l4⟩⟩ ⟨h3, h4, b3, b4, hle, hbd, heq⟩
    simp only at h3 h4 b3 b4 hle hbd heq
    refine CW.seq ?_
    refine CW.reg [0, 1, 2] rfl ?_   -- 3, binpoly.go:90
    refine s_mv 15 rfl rfl ?_
    refine s_app0 16 (m2 := l3.length) rfl rfl rfl (ys := nats .u8 l3) (fun w hw => hw.old h3) (nats_one _ _) rfl (by omega) (by unfold maxLen; omega) (by omega) (fun _ _ _ _ => trivial) (fun A5 c5 hc5 => ?_)
    refine s_as 5 rfl rfl ?_
    refine SX.next ?_
    refine CW.seq ?_
    refine CW.seq ?_
    refine CW.reg [0, 1, 2] rfl ?_   -- 4, binpoly.go:91
    refine s_mv 17 rfl rfl ?_
    refine s_len 18 rfl rfl ?_
    refine s_mv 19 rfl rfl ?_
    refine SX.next ?_
    refine CW.block ?_
    refine CW.loop (G := Nat) (fun i => [(5, .slice A5 l3.length c5), (17, .slice A4 l4.length c4), (18, .int .i64 (l4.length : Nat)), (19, .int .i64 (i : Nat))]) (fun i => Sto w [own 5 1 A5 l3.length c5 (ints .u8 (tabN l3.length (baF l3 l4 i)))]) (fun i => i ≤ l4.length) (fun i => l4.length - i) 0 ⟨rfl, rfl, rfl, rfl, trivial⟩ (fun _ h => by rw [show ints .u8 (tabN l3.length (baF l3 l4 0)) = nats .u8 l3 from (nats_tabN _ _).symm]; exact h) (Nat.zero_le _) ?_
    intro i hi
    refine CW.seq ?_
    refine CW.reg [0] rfl ?_   -- 5, binpoly.go:91
    refine s_lt 20 rfl rfl rfl rfl ?_
    refine SX.next ?_
    refine CW.seq ?_
    refine CW.test rfl (fun hc => ?_) (fun hc => ?_)
    · skip
      refine CW.skip ?_
      refine KN.code ?_
      refine CW.seq ?_
      refine CW.block ?_
      refine CW.seq ?_
      refine CW.reg [0, 1, 2, 3, 4] rfl ?_   -- 6, binpoly.go:91
      refine s_mv 21 rfl rfl ?_
      refine s_iaV 22 i (fun w hw => hw.old h4) rfl rfl rfl rfl (by omega) ?_
      refine s_ldV 23 (fun w hw => hw.old h4) rfl rfl (by rw [Nat.mul_one]; exact natsAt8 (by omega)) (by omega) ?_
      refine s_as 6 rfl rfl ?_
      refine s_as 7 rfl rfl ?_
      refine SX.next ?_
      refine CW.reg [0, 1, 2, 3, 4, 5, 6, 7] rfl ?_   -- 7, binpoly.go:92
      refine s_mv 24 rfl rfl ?_
      refine s_mv 25 rfl rfl ?_
      refine s_iaO 26 0 i rfl rfl rfl rfl rfl (by omega) ?_
      refine s_ldO 27 0 rfl rfl rfl (v := .int .u8 (cf l3 i : Nat)) (by rw [tabN_at (by omega), baF, if_neg (by omega)]) ?_
      refine s_mv 28 rfl rfl ?_
      refine s_bit 29 rfl rfl rfl rfl (ibit_xor_u8 (cf_lt8 b3 _) (cf_lt8 b4 _)) ?_
      refine s_iaO 30 0 i rfl rfl rfl rfl rfl (by omega) ?_
      refine s_stO 0 rfl rfl rfl rfl rfl (by omega) (fun _ _ => trivial) ?_
      refine SX.end_ ?_
      refine KN.blk ?_
      refine KN.code ?_
      refine CW.reg [0, 1] rfl ?_   -- 8, binpoly.go:91
      refine s_add 31 rfl rfl rfl (r := ((i + 1 : Nat) : Int)) (w64 (by omega)) ?_
      refine s_mv 19 rfl rfl ?_
      refine SX.end_ ?_
      exact KN.back (i + 1) ⟨rfl, rfl, rfl, rfl, trivial⟩ (fun _ h => by rw [← baF_next, ← tabN_setL]; exact h) (by omega) (by omega)
    · skip
      obtain rfl : i = l4.length := by omega
      refine CW.exit rfl ?_
      refine KN.code ?_
      refine CW.seq ?_
      refine CW.reg [0, 1, 2] rfl ?_   -- 9, binpoly.go:94
      refine s_mv 32 rfl rfl ?_
      refine s_call 33 rfl rfl rfl rfl (fun w hw => by have := trimmed_spec A5 l3.length c5 ((List.range l3.length).map (baF l3 l4 l4.length)) w (Has.cong ((hw.has (i := 0) rfl).of_own) (ints_tabN _ _ _)) (baF_lt b3 b4 _) (by omega) hc5; rw [badd_all b3 b4 hle, heq] at this; exact this) (fun _ _ => trivial) (fun q hq => ?_)
      refine s_as 4 rfl rfl ?_
      refine SX.next ?_
      refine CW.ret ?_
      exact KN.ret (rs := [.tmp 4]) Tryd.results69 rfl (fun w hw => ⟨q, rfl, hq, hw.pick [0] rfl⟩)

/-! ### Into the caller's bytes -/
theorem cf_set {l : List Nat} {i v : Nat} (hi : i < l.length) (j : Nat) : cf (l.set i v) j = if j = i then v else cf l j := by
  unfold cf
  simp only [List.getD_eq_getElem?_getD]
  rw [List.getElem?_set]
  by_cases h : i = j
  · subst h; rw [if_pos rfl, if_pos hi, if_pos rfl]; rfl
  · rw [if_neg h, if_neg (fun e => h e.symm)]
theorem set_lt {l : List Nat} {i v b : Nat} (hl : ∀ x ∈ l, x < b) (hv : v < b) : ∀ x ∈ l.set i v, x < b := fun x hx => by
  rcases List.mem_or_eq_of_mem_set hx with h | rfl
  · exact hl x h
  · exact hv
theorem nats_set (k : IntKind) (l : List Nat) (i v : Nat) : (nats k l).set i (.int k (v : Nat)) = nats k (l.set i v) := by simp [nats, List.map_set]
/-- What is laid into bytes, so far. -/
structure IntoG (o q : List Nat) (n : Nat) (z : Nat × List Nat) : Prop where
  le : z.1 ≤ q.length
  len : z.2.length = o.length
  lt : ∀ x ∈ z.2, x < 256
  bit : ∀ j, bitN z.2 j = bitN o j ^^^ (if n ≤ j ∧ j < n + 8 * z.1 then bitN q (j - n) else 0)
theorem IntoG.start {o : List Nat} (ho : ∀ x ∈ o, x < 256) (q : List Nat) (n : Nat) : IntoG o q n (0, o) := ⟨Nat.zero_le _, rfl, ho, fun j => by simp only; rw [if_neg (by omega), Nat.xor_zero]⟩
def lo8 (c n : Nat) : Nat := c * 2 ^ (n % 8) % 256
def hi8 (c n : Nat) : Nat := c >>> (8 - n % 8)
theorem lo8_test (c n s : Nat) (hs : s < 8) : ((lo8 c n) >>> s) % 2 = if n % 8 ≤ s then (c >>> (s - n % 8)) % 2 else 0 := by
  unfold lo8
  rw [shr_two, show (256 : Nat) = 2 ^ 8 from rfl, Nat.testBit_mod_two_pow, decide_eq_true hs, Bool.true_and, Nat.mul_comm, Nat.testBit_two_pow_mul]
  split
  · rename_i h
    rw [decide_eq_true h, Bool.true_and, shr_two]
  · rename_i h
    rw [decide_eq_false h]
    rfl
theorem hi8_test {c : Nat} (hc : c < 256) (n s : Nat) : ((hi8 c n) >>> s) % 2 = if s < n % 8 then (c >>> (s + 8 - n % 8)) % 2 else 0 := by
  unfold hi8
  rw [← Nat.shiftRight_add]
  split
  · rw [show 8 - n % 8 + s = s + 8 - n % 8 by omega]
  · have : c < 2 ^ (8 - n % 8 + s) := Nat.lt_of_lt_of_le hc (Nat.pow_le_pow_right (n := 2) (by omega) (show 8 ≤ _ by omega))
    rw [Nat.shiftRight_eq_div_pow, Nat.div_eq_of_lt this]
theorem IntoG.next {o q L L2 : List Nat} {n i : Nat} (h : IntoG o q n (i, L)) (hq : ∀ x ∈ q, x < 256) (hi : i < q.length) (hlen : L2.length = L.length) (hlt : ∀ x ∈ L2, x < 256)
    (h2 : ∀ k, cf L2 k = (if k = i + n / 8 then cf L k ^^^ lo8 (cf q i) n else if k = i + n / 8 + 1 then cf L k ^^^ hi8 (cf q i) n else cf L k)) : IntoG o q n (i + 1, L2) := by
  obtain ⟨h3, h4, h5, h6⟩ := h
  simp only at h3 h4 h5 h6
  refine ⟨hi, by simp only; omega, hlt, fun j => ?_⟩
  simp only
  have hc := cf_lt8 hq i
  have key : bitN L2 j = bitN L j ^^^ (if n + 8 * i ≤ j ∧ j < n + 8 * (i + 1) then bitN q (j - n) else 0) := by
    unfold bitN
    rw [h2]
    by_cases k1 : j / 8 = i + n / 8
    · rw [if_pos k1, shr_xor, lo8_test _ _ _ (Nat.mod_lt _ (by omega))]
      congr 1
      by_cases k2 : n % 8 ≤ j % 8
      · rw [if_pos k2, if_pos (by omega), show (j - n) / 8 = i by omega, show (j - n) % 8 = j % 8 - n % 8 by omega]
      · rw [if_neg k2, if_neg (by omega)]
    · rw [if_neg k1]
      by_cases k2 : j / 8 = i + n / 8 + 1
      · rw [if_pos k2, shr_xor, hi8_test hc]
        congr 1
        by_cases k3 : j % 8 < n % 8
        · rw [if_pos k3, if_pos (by omega), show (j - n) / 8 = i by omega, show (j - n) % 8 = j % 8 + 8 - n % 8 by omega]
        · rw [if_neg k3, if_neg (by omega)]
      · rw [if_neg k2, if_neg (by omega), Nat.xor_zero]
  rw [key, h6, Nat.xor_assoc]
  congr 1
  by_cases k1 : n ≤ j ∧ j < n + 8 * i
  · rw [if_pos k1, if_neg (by omega), if_pos (by omega), Nat.xor_zero]
  · rw [if_neg k1, Nat.zero_xor]
    by_cases k2 : n + 8 * i ≤ j ∧ j < n + 8 * (i + 1)
    · rw [if_pos k2, if_pos (by omega)]
    · rw [if_neg k2, if_neg (by omega)]
theorem lo8_lt (c n : Nat) : lo8 c n < 256 := Nat.mod_lt _ (by omega)
theorem hi8_lt {c : Nat} (hc : c < 256) (n : Nat) : hi8 c n < 256 := Nat.lt_of_le_of_lt (Nat.shiftRight_le _ _) hc

theorem _root_.Go.Sx.St.dropR {F : Nat → Prop} {w₀ w : World} {L : List Atom} (h : St F w₀ L w) : St F w₀ [] w := St.dropL L (by rw [List.append_nil]; exact h)
theorem hi8_zero {c n : Nat} (hc : c < 256) (h : n % 8 = 0) : hi8 c n = 0 := by
  unfold hi8
  rw [h, Nat.shiftRight_eq_div_pow]
  exact Nat.div_eq_of_lt hc
theorem IntoG.next1 {o q L : List Nat} {n i : Nat} (h : IntoG o q n (i, L)) (hq : ∀ x ∈ q, x < 256) (hi : i < q.length) (hr : i + n / 8 < o.length) (h0 : hi8 (cf q i) n = 0) : IntoG o q n (i + 1, L.set (i + n / 8) (cf L (i + n / 8) ^^^ lo8 (cf q i) n)) := by
  have hl := h.len
  have hlt := h.lt
  simp only at hl hlt
  refine h.next hq hi (by simp) (set_lt hlt (xor8 (cf_lt8 hlt _) (lo8_lt _ _))) (fun k => ?_)
  rw [cf_set (by omega)]
  by_cases k1 : k = i + n / 8
  · rw [if_pos k1, if_pos k1, k1]
  · rw [if_neg k1, if_neg k1]
    split
    · rw [h0, Nat.xor_zero]
    · rfl
theorem IntoG.next2 {o q L : List Nat} {n i : Nat} (h : IntoG o q n (i, L)) (hq : ∀ x ∈ q, x < 256) (hi : i < q.length) (hr : i + n / 8 + 1 < o.length) : IntoG o q n (i + 1, (L.set (i + n / 8) (cf L (i + n / 8) ^^^ lo8 (cf q i) n)).set (i + n / 8 + 1) (cf L (i + n / 8 + 1) ^^^ hi8 (cf q i) n)) := by
  have hl := h.len
  have hlt := h.lt
  simp only at hl hlt
  refine h.next hq hi (by simp) (set_lt (set_lt hlt (xor8 (cf_lt8 hlt _) (lo8_lt _ _))) (xor8 (cf_lt8 hlt _) (hi8_lt (cf_lt8 hq i) n))) (fun k => ?_)
  rw [cf_set (by rw [List.length_set]; omega), cf_set (by omega)]
  by_cases k1 : k = i + n / 8
  · rw [if_neg (by omega), if_pos k1, if_pos k1, k1]
  · rw [if_neg k1, if_neg k1]
    by_cases k2 : k = i + n / 8 + 1
    · rw [if_pos k2, if_pos k2, k2]
    · rw [if_neg k2, if_neg k2]
theorem IntoG.done {o q L : List Nat} {n : Nat} (h : IntoG o q n (q.length, L)) (j : Nat) : bitN L j = bitN o j ^^^ (if n ≤ j then bitN q (j - n) else 0) := by
  rw [h.bit]
  simp only
  congr 1
  by_cases h1 : n ≤ j
  · rw [if_pos h1]
    split
    · rfl
    · rw [bitN_out (by omega)]
  · rw [if_neg h1, if_neg (by omega)]

theorem into_spec (F : Nat → Prop) (w₀ w : World) (R : List Atom) (A : Option Addr) (c : Nat) (o : List Nat) (B : Option Addr) (d : Nat) (q : List Nat) (n : Nat) (ho : ∀ x ∈ o, x < 256) (hq : ∀ x ∈ q, x < 256) (hol : o.length ≤ 1073741824) (hr : q.length + n / 8 < o.length) (hw : St F w₀ (own 5 1 A o.length c (nats .u8 o) :: own 5 1 B q.length d (nats .u8 q) :: R) w) : Calls Tryd.prog 102 ([.slice B q.length d, .slice A o.length c, .int .i64 (n : Nat)] : List Value).toArray w (fun e w' => ∃ o' : List Nat, e = .returned (oneOf []) ∧ (o'.length = o.length ∧ (∀ x ∈ o', x < 256) ∧ ∀ j, bitN o' j = bitN o j ^^^ (if n ≤ j then bitN q (j - n) else 0)) ∧ St F w₀ (own 5 1 A o.length c (nats .u8 o') :: own 5 1 B q.length d (nats .u8 q) :: R) w') := by
  refine spec_ofC Tryd.func102 rfl Tryd.ntmps102 rfl hw ?_
  refine CW.seq ?_
  refine CW.reg [0, 1, 2] rfl ?_   -- 0, binpoly.go:99
  refine s_mv 9 rfl rfl ?_
  refine s_len 10 rfl rfl ?_
  refine s_mv 11 rfl rfl ?_
  refine SX.next ?_
  refine CW.block ?_
  refine CW.loop (G := Nat × List Nat) (fun z => [(1, .slice A o.length c), (2, .int .i64 (n : Nat)), (9, .slice B q.length d), (10, .int .i64 (q.length : Nat)), (11, .int .i64 (z.1 : Nat))]) (fun z => St F w₀ (own 5 1 A o.length c (nats .u8 z.2) :: own 5 1 B q.length d (nats .u8 q) :: R)) (IntoG o q n) (fun z => q.length - z.1) (0, o) ⟨rfl, rfl, rfl, rfl, rfl, trivial⟩ (fun _ h => h) (IntoG.start ho q n) ?_
  rintro ⟨i, L⟩ hz
  have hle := hz.le
  have hlen := hz.len
  have hlt := hz.lt
  simp only at hle hlen hlt
  dsimp only
  refine CW.seq ?_
  refine CW.reg [0] rfl ?_   -- 1, binpoly.go:99
  refine s_lt 12 rfl rfl rfl rfl ?_
  refine SX.next ?_
  refine CW.seq ?_
  refine CW.test rfl (fun hc => ?_) (fun hc => ?_)
  · skip
    have hcq := cf_lt8 hq i
    have hiq : i < q.length := by omega
    refine CW.skip ?_
    refine KN.code ?_
    refine CW.seq ?_
    refine CW.block ?_
    refine CW.seq ?_
    refine CW.reg [0, 1, 2, 3, 4] rfl ?_   -- 2, binpoly.go:99
    refine s_mv 13 rfl rfl ?_
    refine s_iaO 14 1 i rfl rfl rfl rfl rfl (by omega) ?_
    refine s_ldO 15 1 rfl rfl rfl (natsAt8 (by omega)) ?_
    refine s_as 6 rfl rfl ?_
    refine s_as 7 rfl rfl ?_
    refine SX.next ?_
    refine CW.seq ?_
    refine CW.regD (.st true 0 (.st true 1 (.st true 2 (.st true 3 (.st true 4 (.st true 5 (.st true 7 (.st true 8 (.st true 9 (.st true 10 (.st false 6 (.st true 11 (.st true 12 (.st false 13 .done)))))))))))))) (St F w₀ []) mixed (by kernel_rfl) (fun _ h => h.drew) (fun _ h => h.dropR) ?_
    refine s_mv 16 rfl rfl ?_
    refine s_mv 17 rfl rfl ?_
    refine s_mv 18 rfl rfl ?_
    refine s_quo 19 rfl rfl rfl (by omega) (quo8 n (by omega)) ?_
    refine s_add 20 rfl rfl rfl (r := ((i + n / 8 : Nat) : Int)) (w64 (by omega)) ?_
    refine s_iaO 21 0 (i + n / 8) rfl rfl rfl rfl rfl (by omega) ?_
    refine s_mv 23 rfl rfl ?_
    refine s_mv 24 rfl rfl ?_
    refine s_rem 25 rfl rfl rfl (by omega) (tmod8 n) ?_
    refine s_shl 26 rfl rfl rfl (by omega) (r := ((lo8 (cf q i) n : Nat) : Int)) (shl_u8 (by omega)) ?_
    refine s_ldO 22 0 rfl rfl rfl (natsAt8 (by omega)) ?_
    refine s_bit 27 rfl rfl rfl rfl (ibit_xor_u8 (cf_lt8 hlt _) (lo8_lt _ _)) ?_
    refine s_iaO 28 0 (i + n / 8) rfl rfl rfl rfl rfl (by omega) ?_
    refine s_stO 0 rfl rfl rfl rfl rfl (by omega) (fun _ h => h.dropR) ?_
    refine SX.next ?_
    refine CW.seq ?_
    refine CW.pre (C' := St F w₀ (own 5 1 A o.length c (nats .u8 (L.set (i + n / 8) (cf L (i + n / 8) ^^^ lo8 (cf q i) n))) :: own 5 1 B q.length d (nats .u8 q) :: R)) (fun _ h => by rw [← nats_set]; exact h) ?_
    refine CW.reg [0, 1, 2, 3, 4, 5] rfl ?_   -- 4, binpoly.go:101
    refine s_mv 29 rfl rfl ?_
    refine s_mv 30 rfl rfl ?_
    refine s_rem 31 rfl rfl rfl (by omega) (tmod8 n) ?_
    refine s_sub 32 rfl rfl rfl (r := ((8 - n % 8 : Nat) : Int)) (by rw [show (8 : Int) - ((n % 8 : Nat) : Int) = ((8 - n % 8 : Nat) : Int) by omega]; exact w64 (by omega)) ?_
    refine s_shr 33 rfl rfl rfl (by omega) (r := ((hi8 (cf q i) n : Nat) : Int)) (shr_u8 (by omega)) ?_
    refine s_as 8 rfl rfl ?_
    refine SX.next ?_
    refine CW.seq ?_
    refine CW.reg [0, 1, 2, 3, 4, 5, 6] rfl ?_   -- 5, binpoly.go:101
    refine s_mv 34 rfl rfl ?_
    refine s_rem 35 rfl rfl rfl (by omega) (tmod8 n) ?_
    refine s_gt 36 rfl rfl rfl rfl ?_
    refine s_mv 37 rfl rfl ?_
    refine SX.bool 37 rfl (fun hb => ?_) (fun hb => ?_)
    · skip
      replace hb := of_decide_eq_true hb
      refine s_mv 38 rfl rfl ?_
      refine s_gt 39 rfl rfl rfl rfl ?_
      refine s_pickT 40 rfl rfl rfl ?_
      refine SX.next ?_
      refine CW.test rfl (fun hc2 => ?_) (fun hc2 => ?_)
      · skip
        refine CW.reg [0, 1, 2, 3, 4, 5, 6, 7, 8, 9, 10, 11] rfl ?_   -- 6, binpoly.go:102
        refine s_mv 41 rfl rfl ?_
        refine s_mv 42 rfl rfl ?_
        refine s_mv 43 rfl rfl ?_
        refine s_quo 44 rfl rfl rfl (by omega) (quo8 n (by omega)) ?_
        refine s_add 45 rfl rfl rfl (r := ((i + n / 8 : Nat) : Int)) (w64 (by omega)) ?_
        refine s_add 46 rfl rfl rfl (r := ((i + n / 8 + 1 : Nat) : Int)) (w64 (by omega)) ?_
        refine s_iaO 47 0 (i + n / 8 + 1) rfl rfl rfl rfl rfl (by omega) ?_
        refine s_ldO 48 0 rfl rfl rfl (v := .int .u8 (cf L (i + n / 8 + 1) : Nat)) (by rw [natsAt8 (by rw [List.length_set]; omega), cf_set (by omega), if_neg (by omega)]) ?_
        refine s_mv 49 rfl rfl ?_
        refine s_bit 50 rfl rfl rfl rfl (ibit_xor_u8 (cf_lt8 hlt _) (hi8_lt hcq n)) ?_
        refine s_iaO 51 0 (i + n / 8 + 1) rfl rfl rfl rfl rfl (by omega) ?_
        refine s_stO 0 rfl rfl rfl rfl rfl (by omega) (fun _ _ => trivial) ?_
        refine SX.end_ ?_
        refine KN.blk ?_
        refine KN.code ?_
        refine CW.reg [0, 1] rfl ?_   -- 7, binpoly.go:99
        refine s_add 52 rfl rfl rfl (r := ((i + 1 : Nat) : Int)) (w64 (by omega)) ?_
        refine s_mv 11 rfl rfl ?_
        refine SX.end_ ?_
        exact KN.back (i + 1, (L.set (i + n / 8) (cf L (i + n / 8) ^^^ lo8 (cf q i) n)).set (i + n / 8 + 1) (cf L (i + n / 8 + 1) ^^^ hi8 (cf q i) n)) ⟨rfl, rfl, rfl, rfl, rfl, trivial⟩ (fun _ h => by simp only; rw [← nats_set]; exact h) (hz.next2 hq hiq (by omega)) (by simp only; omega)
      · skip
        have hz0 : hi8 (cf q i) n = 0 := by omega
        refine CW.skip ?_
        refine KN.blk ?_
        refine KN.code ?_
        refine CW.reg [0, 1] rfl ?_   -- 7, binpoly.go:99
        refine s_add 52 rfl rfl rfl (r := ((i + 1 : Nat) : Int)) (w64 (by omega)) ?_
        refine s_mv 11 rfl rfl ?_
        refine SX.end_ ?_
        exact KN.back (i + 1, (L.set (i + n / 8) (cf L (i + n / 8) ^^^ lo8 (cf q i) n))) ⟨rfl, rfl, rfl, rfl, rfl, trivial⟩ (fun _ h => h) (hz.next1 hq hiq (by omega) hz0) (by simp only; omega)
    · skip
      replace hb := of_decide_eq_false hb
      have hz0 : hi8 (cf q i) n = 0 := hi8_zero hcq (by omega)
      refine SX.skip rfl ?_
      refine SX.skip rfl ?_
      refine s_pickF 40 rfl rfl rfl ?_
      refine SX.next ?_
      refine CW.condF rfl ?_
      refine CW.skip ?_
      refine KN.blk ?_
      refine KN.code ?_
      refine CW.reg [0, 1] rfl ?_   -- 7, binpoly.go:99
      refine s_add 52 rfl rfl rfl (r := ((i + 1 : Nat) : Int)) (w64 (by omega)) ?_
      refine s_mv 11 rfl rfl ?_
      refine SX.end_ ?_
      exact KN.back (i + 1, (L.set (i + n / 8) (cf L (i + n / 8) ^^^ lo8 (cf q i) n))) ⟨rfl, rfl, rfl, rfl, rfl, trivial⟩ (fun _ h => h) (hz.next1 hq hiq (by omega) hz0) (by simp only; omega)
  · skip
    obtain rfl : i = q.length := by omega
    refine CW.exit rfl ?_
    exact KN.ret (rs := []) Tryd.results102 rfl (fun w hw => ⟨L, rfl, ⟨hlen, hlt, hz.done⟩, hw⟩)
