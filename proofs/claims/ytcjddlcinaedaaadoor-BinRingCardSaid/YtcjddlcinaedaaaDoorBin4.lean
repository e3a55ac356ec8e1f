/- The contracts of package binpoly: which polynomials have no divisor. Conditions: the lists are bytes, read where they lie. -/
import Derived.Test.YtcjddlcinaedaaaDoorBin3
namespace Go.Proofs.YtcjddlcinaedaaaDoor
open Go Go.Lib Go.Sx Go.Fm
set_option maxRecDepth 100000
/-- How many bits a number has. -/
def blen (x : Nat) : Nat := if x = 0 then 0 else Nat.log2 x + 1
theorem blen_lt (x : Nat) : x < 2 ^ blen x := by
  unfold blen
  split
  · rename_i h; subst h; decide
  · exact Nat.lt_log2_self
theorem blen_le {x k : Nat} (h : x < 2 ^ k) : blen x ≤ k := by
  unfold blen
  split
  · omega
  · rename_i h0
    exact (Nat.log2_lt h0).2 h
theorem blen_pos {x : Nat} (h : x ≠ 0) : 0 < blen x := by
  unfold blen
  rw [if_neg h]
  omega
theorem blen_top {x : Nat} (h : x ≠ 0) : x.testBit (blen x - 1) = true := by
  have h1 := blen_lt x
  have h2 : ¬ x < 2 ^ (blen x - 1) := fun hlt => by
    have := blen_le hlt
    have := blen_pos h
    omega
  have h3 := blen_pos h
  rw [Nat.testBit_eq_decide_div_mod_eq]
  have h4 : x / 2 ^ (blen x - 1) = 1 := by
    have h5 : 2 ^ blen x = 2 * 2 ^ (blen x - 1) := by rw [← Nat.pow_succ', show (blen x - 1).succ = blen x by omega]
    have hp := Nat.two_pow_pos (blen x - 1)
    refine Nat.div_eq_of_lt_le (by omega) ?_
    omega
  rw [h4]
  rfl
theorem blen_of {x b : Nat} (h1 : x < 2 ^ b) (h2 : b ≠ 0 → x.testBit (b - 1) = true) : blen x = b := by
  refine Nat.le_antisymm (blen_le h1) (Nat.le_of_not_lt fun hlt => ?_)
  have h3 := h2 (by omega)
  rw [Nat.testBit_lt_two_pow (Nat.lt_of_lt_of_le (blen_lt x) (Nat.pow_le_pow_right (n := 2) (by omega) (show blen x ≤ b - 1 by omega)))] at h3
  cases h3
theorem blen_shr {x k : Nat} (h : 2 ^ k ≤ x) : blen x = k + blen (x >>> k) := by
  have hp := Nat.two_pow_pos k
  have h0 : x >>> k ≠ 0 := by
    rw [Nat.shiftRight_eq_div_pow]
    have := Nat.div_pos h hp
    omega
  refine blen_of ?_ (fun _ => ?_)
  · have h1 := blen_lt (x >>> k)
    generalize blen (x >>> k) = b at h1
    rw [Nat.shiftRight_eq_div_pow] at h1
    rw [Nat.pow_add]
    exact (Nat.div_lt_iff_lt_mul hp).1 h1 |> (by rw [Nat.mul_comm]; exact ·)
  · have := blen_top h0
    rw [Nat.testBit_shiftRight] at this
    have hb := blen_pos h0
    rw [show k + blen (x >>> k) - 1 = k + (blen (x >>> k) - 1) by omega]
    exact this
theorem blen_8 {x : Nat} (h : x < 256) : bln x = blen x := by
  obtain ⟨_, _, h3, h4⟩ := bln_all x h
  refine (blen_of h3 (fun hb => ?_)).symm
  by_cases h0 : x = 0
  · subst h0
    exact absurd (by decide +kernel) hb
  · exact (h4 h0).2

theorem len64_spec (x : Nat) (w : World) (hx : x < 2 ^ 64) : Spec1 Tryd.prog 105 [.int .u64 (x : Nat)] w (.int .i64 (blen x : Nat)) := by
  have hbx := blen_le hx
  refine spec_of Tryd.func105 rfl Tryd.ntmps105 rfl ?_
  refine CW.seq ?_
  refine CW.reg [0] rfl ?_   -- 0, bits.go:337
  refine s_as 2 rfl rfl ?_
  refine SX.next ?_
  refine CW.cut (G := Nat × Nat) (fun q => [(0, .int .u64 (q.1 : Nat)), (2, .int .i64 (q.2 : Nat))]) (fun _ => Sto w []) (fun q => q.2 + blen q.1 = blen x ∧ q.1 < 2 ^ 32 ∧ q.2 ≤ 64) ?_ ?_
  · skip
    refine CW.seq ?_
    refine CW.reg [0, 1] rfl ?_   -- 1, bits.go:338
    refine s_mv 3 rfl rfl ?_
    refine s_ge 4 rfl rfl rfl rfl ?_
    refine SX.next ?_
    refine CW.test rfl (fun hc => ?_) (fun hc => ?_)
    · skip
      have hs := blen_shr (x := x) (k := 32) (by omega)
      have hlt : x >>> 32 < 2 ^ 32 := by rw [Nat.shiftRight_eq_div_pow]; exact (Nat.div_lt_iff_lt_mul (by decide)).2 (by omega)
      refine CW.seq ?_
      refine CW.reg [0, 1, 2] rfl ?_   -- 2, bits.go:339
      refine s_mv 5 rfl rfl ?_
      refine s_shr 6 rfl rfl rfl (by omega) (shr_u64 (x := x) (k := 32) (by omega)) ?_
      refine s_as 0 rfl rfl ?_
      refine SX.next ?_
      refine CW.reg [0] rfl ?_   -- 3, bits.go:340
      refine s_as 2 rfl rfl ?_
      refine SX.end_ ?_
      exact KN.join (x >>> 32, 32) ⟨rfl, rfl, trivial⟩ (fun _ h => h) ⟨by simp only; omega, hlt, by show 32 ≤ 64; omega⟩
    · skip
      refine CW.skip ?_
      exact KN.join (x, 0) ⟨rfl, rfl, trivial⟩ (fun _ h => h) ⟨by simp only; omega, by simp only; omega, by show 0 ≤ 64; omega⟩
  · skip
    rintro ⟨y, n1⟩ ⟨hy1, hy2, hy3⟩
    simp only at hy1 hy2 hy3
    dsimp only
    refine CW.cut (G := Nat × Nat) (fun q => [(0, .int .u64 (q.1 : Nat)), (2, .int .i64 (q.2 : Nat))]) (fun _ => Sto w []) (fun q => q.2 + blen q.1 = blen x ∧ q.1 < 2 ^ 16 ∧ q.2 ≤ 64) ?_ ?_
    · skip
      refine CW.seq ?_
      refine CW.reg [0, 1] rfl ?_   -- 4, bits.go:342
      refine s_mv 7 rfl rfl ?_
      refine s_ge 8 rfl rfl rfl rfl ?_
      refine SX.next ?_
      refine CW.test rfl (fun hc => ?_) (fun hc => ?_)
      · skip
        have hs := blen_shr (x := y) (k := 16) (by omega)
        have hlt : y >>> 16 < 2 ^ 16 := by rw [Nat.shiftRight_eq_div_pow]; exact (Nat.div_lt_iff_lt_mul (by decide)).2 (by omega)
        refine CW.seq ?_
        refine CW.reg [0, 1, 2] rfl ?_   -- 5, bits.go:343
        refine s_mv 9 rfl rfl ?_
        refine s_shr 10 rfl rfl rfl (by omega) (shr_u64 (x := y) (k := 16) (by omega)) ?_
        refine s_as 0 rfl rfl ?_
        refine SX.next ?_
        refine CW.reg [0, 1, 2] rfl ?_   -- 6, bits.go:344
        refine s_mv 11 rfl rfl ?_
        refine s_add 12 rfl rfl rfl (r := ((n1 + 16 : Nat) : Int)) (w64 (by omega)) ?_
        refine s_as 2 rfl rfl ?_
        refine SX.end_ ?_
        exact KN.join (y >>> 16, n1 + 16) ⟨rfl, rfl, trivial⟩ (fun _ h => h) ⟨by simp only; omega, hlt, by simp only; omega⟩
      · skip
        refine CW.skip ?_
        exact KN.join (y, n1) ⟨rfl, rfl, trivial⟩ (fun _ h => h) ⟨by simp only; omega, by simp only; omega, by simp only; omega⟩
    · skip
      rintro ⟨z, n2⟩ ⟨hz1, hz2, hz3⟩
      simp only at hz1 hz2 hz3
      dsimp only
      refine CW.cut (G := Nat × Nat) (fun q => [(0, .int .u64 (q.1 : Nat)), (2, .int .i64 (q.2 : Nat))]) (fun _ => Sto w []) (fun q => q.2 + blen q.1 = blen x ∧ q.1 < 2 ^ 8 ∧ q.2 ≤ 64) ?_ ?_
      · skip
        refine CW.seq ?_
        refine CW.reg [0, 1] rfl ?_   -- 7, bits.go:346
        refine s_mv 13 rfl rfl ?_
        refine s_ge 14 rfl rfl rfl rfl ?_
        refine SX.next ?_
        refine CW.test rfl (fun hc => ?_) (fun hc => ?_)
        · skip
          have hs := blen_shr (x := z) (k := 8) (by omega)
          have hlt : z >>> 8 < 2 ^ 8 := by rw [Nat.shiftRight_eq_div_pow]; exact (Nat.div_lt_iff_lt_mul (by decide)).2 (by omega)
          refine CW.seq ?_
          refine CW.reg [0, 1, 2] rfl ?_   -- 8, bits.go:347
          refine s_mv 15 rfl rfl ?_
          refine s_shr 16 rfl rfl rfl (by omega) (shr_u64 (x := z) (k := 8) (by omega)) ?_
          refine s_as 0 rfl rfl ?_
          refine SX.next ?_
          refine CW.reg [0, 1, 2] rfl ?_   -- 9, bits.go:348
          refine s_mv 17 rfl rfl ?_
          refine s_add 18 rfl rfl rfl (r := ((n2 + 8 : Nat) : Int)) (w64 (by omega)) ?_
          refine s_as 2 rfl rfl ?_
          refine SX.end_ ?_
          exact KN.join (z >>> 8, n2 + 8) ⟨rfl, rfl, trivial⟩ (fun _ h => h) ⟨by simp only; omega, hlt, by simp only; omega⟩
        · skip
          refine CW.skip ?_
          exact KN.join (z, n2) ⟨rfl, rfl, trivial⟩ (fun _ h => h) ⟨by simp only; omega, by simp only; omega, by simp only; omega⟩
      · skip
        rintro ⟨v, n3⟩ ⟨hv1, hv2, hv3⟩
        simp only at hv1 hv2 hv3
        dsimp only
        obtain ⟨h1, h2, h3, h4⟩ := bln_all v hv2
        have hb8 := blen_8 hv2
        refine CW.seq ?_
        refine CW.reg [0, 1, 2, 3, 4, 5, 6] rfl ?_   -- 10, bits.go:350
        refine s_mv 19 rfl rfl ?_
        refine s_mv 20 rfl rfl ?_
        refine s_conv 21 rfl rfl (r := ((v : Nat) : Int)) (w8 (by omega)) ?_
        refine s_len8 22 rfl (by kernel_rfl) (by kernel_rfl) rfl (by omega) (by omega) h1 ?_
        refine s_conv 23 rfl rfl (r := ((bln v : Nat) : Int)) (w64 (by omega)) ?_
        refine s_add 24 rfl rfl rfl (r := ((blen x : Nat) : Int)) (by rw [show ((n3 : Nat) : Int) + (bln v : Nat) = ((blen x : Nat) : Int) by omega]; exact w64 (by omega)) ?_
        refine s_as 2 rfl rfl ?_
        refine SX.next ?_
        refine CW.ret ?_
        exact KN.ret (rs := [.tmp 2]) Tryd.results105 rfl (fun w hw => ⟨rfl, hw.nothing⟩)

/-! ### Irreducible -/
/-- The number whose bits stand at these places. -/
def vP (l : List Nat) : Nat := l.foldl (fun z e => z ||| 2 ^ e) 0
theorem vP_snoc (l : List Nat) (e : Nat) : vP (l ++ [e]) = vP l ||| 2 ^ e := by simp [vP]
theorem or_lt {a b n : Nat} (ha : a < 2 ^ n) (hb : b < 2 ^ n) : a ||| b < 2 ^ n := Nat.or_lt_two_pow ha hb
theorem vP_take {l : List Nat} {n : Nat} (h : ∀ e ∈ l, e < n) : ∀ i, vP (l.take i) < 2 ^ n
  | 0 => Nat.two_pow_pos n
  | i + 1 => by
    by_cases hi : i < l.length
    · rw [take_cf hi, vP_snoc]
      exact or_lt (vP_take h i) (Nat.pow_lt_pow_right (by omega) (h _ (cf_mem hi)))
    · rw [List.take_of_length_le (by omega)]
      have := vP_take h i
      rw [List.take_of_length_le (by omega)] at this
      exact this
/-- The rest of r by q, both as numbers. -/
def rmF (q : Nat) : Nat → Nat → Nat
  | 0, r => r
  | k + 1, r => if blen q ≤ blen r then rmF q k (r ^^^ q * 2 ^ (blen r - blen q)) else r
def rm (q r : Nat) : Nat := rmF q (blen r + 1) r
theorem step_lt {q r : Nat} (hq : q ≠ 0) (h : blen q ≤ blen r) : q * 2 ^ (blen r - blen q) < 2 ^ blen r := by
  have h1 := blen_lt q
  have h2 : 2 ^ blen r = 2 ^ blen q * 2 ^ (blen r - blen q) := by rw [← Nat.pow_add, show blen q + (blen r - blen q) = blen r by omega]
  rw [h2]
  exact Nat.mul_lt_mul_of_pos_right h1 (Nat.two_pow_pos _)
theorem step_blen {q r : Nat} (hq : q ≠ 0) (h : blen q ≤ blen r) : blen (r ^^^ q * 2 ^ (blen r - blen q)) < blen r := by
  have hbq := blen_pos hq
  have hr : r ≠ 0 := fun h0 => by
    subst h0
    have : blen 0 = 0 := rfl
    omega
  have h1 := blen_lt r
  have h2 := step_lt hq h
  have h3 : (r ^^^ q * 2 ^ (blen r - blen q)).testBit (blen r - 1) = false := by
    rw [Nat.testBit_xor, blen_top hr, Nat.mul_comm, Nat.testBit_two_pow_mul, decide_eq_true (by omega), Bool.true_and, show blen r - 1 - (blen r - blen q) = blen q - 1 by omega, blen_top hq]
    rfl
  have h4 := Nat.xor_lt_two_pow h1 h2
  have hle := blen_le h4
  refine Nat.lt_of_le_of_ne hle (fun he => ?_)
  generalize r ^^^ q * 2 ^ (blen r - blen q) = z at *
  have hz : z ≠ 0 := fun h0 => by
    subst h0
    have := blen_pos hr
    rw [← he] at this
    exact absurd this (by decide)
  have := blen_top hz
  rw [he, h3] at this
  cases this
theorem rmF_more {q : Nat} (hq : q ≠ 0) : ∀ {k i r : Nat}, blen r < k → blen r < i → rmF q k r = rmF q i r
  | 0, _, _, h, _ => by omega
  | _ + 1, 0, _, _, h => by omega
  | k + 1, i + 1, r, h1, h2 => by
    unfold rmF
    split
    · rename_i h
      have := step_blen hq h
      exact rmF_more hq (by omega) (by omega)
    · rfl
theorem rm_step {q r : Nat} (hq : q ≠ 0) (h : blen q ≤ blen r) : rm q (r ^^^ q * 2 ^ (blen r - blen q)) = rm q r := by
  have hs := step_blen hq h
  have e : rm q r = rmF q (blen r) (r ^^^ q * 2 ^ (blen r - blen q)) := if_pos h
  rw [e]
  exact rmF_more hq (Nat.lt_succ_self _) hs
theorem rm_done {q r : Nat} (h : ¬ blen q ≤ blen r) : rm q r = r := if_neg h
/-- Whether a polynomial has no divisor but 1 and itself, as it is tried. -/
def irrP (a : List Nat) : Bool := decide (2 ≤ a.length ∧ a.length ≤ 33) && (List.range (2 ^ ((a.length - 1) / 2 + 1))).all (fun q => decide (q < 2) || decide (rm q (vP (exL a)) ≠ 0))
theorem irrP_true {a : List Nat} (h : 2 ≤ a.length ∧ a.length ≤ 33) (h2 : ∀ q, q < 2 ^ ((a.length - 1) / 2 + 1) → q < 2 ∨ rm q (vP (exL a)) ≠ 0) : irrP a = true := by
  unfold irrP
  rw [decide_eq_true h, Bool.true_and, List.all_eq_true]
  intro q hq
  rcases h2 q (List.mem_range.1 hq) with h | h
  · rw [decide_eq_true h]; rfl
  · rw [decide_eq_true h, Bool.or_true]
theorem irrP_false {a : List Nat} {q : Nat} (hq : q < 2 ^ ((a.length - 1) / 2 + 1)) (h2 : 2 ≤ q) (h3 : rm q (vP (exL a)) = 0) : irrP a = false := by
  unfold irrP
  rw [Bool.and_eq_false_iff]
  refine .inr ?_
  rw [List.all_eq_false]
  refine ⟨q, List.mem_range.2 hq, ?_⟩
  rw [decide_eq_false (by omega), h3]
  simp
theorem irrP_none {a : List Nat} (h : ¬ (2 ≤ a.length ∧ a.length ≤ 33)) : irrP a = false := by
  unfold irrP
  rw [decide_eq_false h]
  rfl
theorem quo2 (i : Nat) (h : i ≤ 9223372036854775807) : IntKind.i64.wrap (((i : Nat) : Int).tdiv 2) = ((i / 2 : Nat) : Int) := by
  rw [show ((i : Nat) : Int).tdiv 2 = ((i / 2 : Nat) : Int) from rfl]
  exact w64 (by omega)
theorem shl_one_u64 {k : Nat} (hk : k ≤ 63) : IntKind.u64.wrap ((1 : Int) * 2 ^ (min (k : Int).toNat IntKind.u64.bits)) = ((2 ^ k : Nat) : Int) := by
  have := shl_u64 (x := 1) hk (by rw [Nat.one_mul]; exact Nat.pow_lt_pow_right (by omega) (by omega))
  rw [Nat.one_mul] at this
  exact this

theorem birr_spec (A : Option Addr) (n c : Nat) (p : List Nat) (w : World) (ha : Has (sl 1 A n (nats .u8 p)) w) (hp : ∀ x ∈ p, x < 256) (hn : n ≤ 1073741824) (hcp : n ≤ c) : Spec1 Tryd.prog 53 [.slice A n c] w (.bool (irrP (bl p))) := by
  have hla := nats_len ha
  subst hla
  have hbl := bl_len p
  refine spec_of Tryd.func53 rfl Tryd.ntmps53 rfl ?_
  refine CW.seq ?_
  refine CW.reg [0] rfl ?_   -- 0, binpoly.go:179
  refine s_as 2 rfl rfl ?_
  refine SX.next ?_
  refine CW.seq ?_
  refine CW.reg [0, 1, 2] rfl ?_   -- 1, binpoly.go:180
  refine s_mv 10 rfl rfl ?_
  refine s_call1 11 rfl rfl rfl rfl (fun w hw => bdeg_spec A p.length c p w (hw.old ha) hp hn hcp) (fun _ _ => trivial) ?_
  refine s_as 3 rfl rfl ?_
  refine SX.next ?_
  refine CW.seq ?_
  refine CW.seq ?_
  refine CW.reg [0, 1, 2, 3, 4, 5] rfl ?_   -- 2, binpoly.go:181
  refine s_mv 12 rfl rfl ?_
  refine s_lt 13 rfl rfl rfl rfl ?_
  refine s_mv 14 rfl rfl ?_
  refine SX.bool 14 rfl (fun hb => ?_) (fun hb => ?_)
  · skip
    replace hb := of_decide_eq_true hb
    have hz := irrP_none (a := bl p) (by omega)
    refine SX.skip rfl ?_
    refine SX.skip rfl ?_
    refine s_pickT 17 rfl rfl rfl ?_
    refine SX.next ?_
    refine CW.condT rfl ?_
    refine CW.seq ?_
    refine CW.reg [0] rfl ?_   -- 3, binpoly.go:182
    refine s_as 2 rfl rfl ?_
    refine SX.next ?_
    refine CW.ret ?_
    exact KN.ret (rs := [.tmp 2]) Tryd.results53 rfl (fun w hw => ⟨by rw [hz]; rfl, hw.nothing⟩)
  · skip
    replace hb := of_decide_eq_false hb
    refine s_mv 15 rfl rfl ?_
    refine s_gt 16 rfl rfl rfl rfl ?_
    refine s_pickF 17 rfl rfl rfl ?_
    refine SX.next ?_
    refine CW.test rfl (fun hc2 => ?_) (fun hc2 => ?_)
    · skip
      have hz := irrP_none (a := bl p) (by omega)
      refine CW.seq ?_
      refine CW.reg [0] rfl ?_   -- 3, binpoly.go:182
      refine s_as 2 rfl rfl ?_
      refine SX.next ?_
      refine CW.ret ?_
      exact KN.ret (rs := [.tmp 2]) Tryd.results53 rfl (fun w hw => ⟨by rw [hz]; rfl, hw.nothing⟩)
    · skip
      have hN : 2 ≤ (bl p).length ∧ (bl p).length ≤ 33 := by omega
      have hexl : (exL (bl p)).length ≤ (bl p).length := exU_len (bl p) (bl p).length (bl p).length
      have hxe : ∀ e ∈ exL (bl p), e < 33 := fun e he => by have := exU_lt (by omega) he; omega
      have hxt := vP_take hxe
      have hxv := hxt (exL (bl p)).length
      rw [List.take_length] at hxv
      have hD : ((bl p).length - 1) / 2 + 1 ≤ 17 := by omega
      refine CW.skip ?_
      refine KN.code ?_
      refine CW.seq ?_
      refine CW.reg [0] rfl ?_   -- 4, binpoly.go:184
      refine s_as 4 rfl rfl ?_
      refine SX.next ?_
      refine CW.seq ?_
      refine CW.seq ?_
      refine CW.reg [0, 1, 2, 3] rfl ?_   -- 5, binpoly.go:185
      refine s_mv 18 rfl rfl ?_
      refine s_call 19 rfl rfl rfl rfl (fun w hw => bexp_spec A p.length c p w (hw.old ha) hp hn hcp) (fun _ _ => trivial) (fun q3 hq3 => ?_)
      refine s_len 20 rfl rfl ?_
      refine s_mv 21 rfl rfl ?_
      refine SX.next ?_
      refine CW.block ?_
      refine CW.loop (G := Nat) (fun i => [(3, .int .i64 (((bl p).length : Nat) - 1 : Int)), (4, .int .u64 (vP ((exL (bl p)).take i) : Nat)), (19, .slice q3.1 (exL (bl p)).length q3.2), (20, .int .i64 ((exL (bl p)).length : Nat)), (21, .int .i64 (i : Nat))]) (fun _ => Sto w [own 3 1 q3.1 (exL (bl p)).length q3.2 (nats .i64 (exL (bl p)))]) (fun i => i ≤ (exL (bl p)).length) (fun i => (exL (bl p)).length - i) 0 ⟨rfl, rfl, rfl, rfl, rfl, trivial⟩ (fun _ h => h) (Nat.zero_le _) ?_
      intro i hi
      refine CW.seq ?_
      refine CW.reg [0] rfl ?_   -- 6, binpoly.go:185
      refine s_lt 22 rfl rfl rfl rfl ?_
      refine SX.next ?_
      refine CW.seq ?_
      refine CW.test rfl (fun hc => ?_) (fun hc => ?_)
      · skip
        have hi2 : i < (exL (bl p)).length := by omega
        have hei := hxe _ (cf_mem hi2)
        have hvi := hxt i
        have hnx : vP ((exL (bl p)).take (i + 1)) = vP ((exL (bl p)).take i) ||| 2 ^ cf (exL (bl p)) i := by rw [take_cf hi2, vP_snoc]
        have hpe : 2 ^ cf (exL (bl p)) i < 2 ^ 33 := Nat.pow_lt_pow_right (by omega) hei
        refine CW.skip ?_
        refine KN.code ?_
        refine CW.seq ?_
        refine CW.block ?_
        refine CW.seq ?_
        refine CW.reg [0, 1, 2] rfl ?_   -- 7, binpoly.go:185
        refine s_iaO 23 0 i rfl rfl rfl rfl rfl (by omega) ?_
        refine s_ldO 24 0 rfl rfl rfl (natsAtC hi2) ?_
        refine s_as 6 rfl rfl ?_
        refine SX.next ?_
        refine CW.reg [0, 1, 2, 3, 4] rfl ?_   -- 8, binpoly.go:186
        refine s_mv 25 rfl rfl ?_
        refine s_mv 26 rfl rfl ?_
        refine s_shl 27 rfl rfl rfl (by omega) (shl_one_u64 (by omega)) ?_
        refine s_bit 28 rfl rfl rfl rfl (r := ((vP ((exL (bl p)).take (i + 1)) : Nat) : Int)) (by rw [hnx]; exact ibit_or_u64 (by omega) (by omega)) ?_
        refine s_as 4 rfl rfl ?_
        refine SX.end_ ?_
        refine KN.blk ?_
        refine KN.code ?_
        refine CW.reg [0, 1] rfl ?_   -- 9, binpoly.go:185
        refine s_add 29 rfl rfl rfl (r := ((i + 1 : Nat) : Int)) (w64 (by omega)) ?_
        refine s_mv 21 rfl rfl ?_
        refine SX.end_ ?_
        exact KN.back (i + 1) ⟨rfl, rfl, rfl, rfl, rfl, trivial⟩ (fun _ h => h) (by omega) (by omega)
      · skip
        obtain rfl : i = (exL (bl p)).length := by omega
        have htk : (exL (bl p)).take (exL (bl p)).length = exL (bl p) := List.take_length
        refine CW.exit rfl ?_
        refine KN.code ?_
        refine CW.seq ?_
        refine CW.seq ?_
        refine CW.reg [0] rfl ?_   -- 10, binpoly.go:188
        refine s_as 7 rfl rfl ?_
        refine SX.next ?_
        refine CW.block ?_
        refine CW.loop (G := Nat) (fun q => [(3, .int .i64 (((bl p).length : Nat) - 1 : Int)), (4, .int .u64 (vP ((exL (bl p)).take (exL (bl p)).length) : Nat)), (7, .int .u64 (q : Nat))]) (fun _ => Sto w []) (fun q => (2 ≤ q ∧ q ≤ 2 ^ (((bl p).length - 1) / 2 + 1)) ∧ ∀ r, r < q → r < 2 ∨ rm r (vP (exL (bl p))) ≠ 0) (fun q => 2 ^ (((bl p).length - 1) / 2 + 1) - q) 2 ⟨rfl, rfl, rfl, trivial⟩ (fun _ h => h.pick [] rfl) ⟨⟨Nat.le_refl _, show 2 ^ 1 ≤ 2 ^ (((bl p).length - 1) / 2 + 1) from Nat.pow_le_pow_right (by omega) (by omega)⟩, fun r hr => .inl hr⟩ ?_
        rintro q ⟨⟨hq1, hq2⟩, hq3⟩
        have hpw : 2 ^ (((bl p).length - 1) / 2 + 1) ≤ 2 ^ 17 := Nat.pow_le_pow_right (by omega) hD
        refine CW.seq ?_
        refine CW.seq ?_
        refine CW.reg [0, 1, 2, 3, 4, 5] rfl ?_   -- 11, binpoly.go:188
        refine s_mv 30 rfl rfl ?_
        refine s_mv 31 (v := .int .i64 (((bl p).length - 1) : Nat)) rfl (by rw [show ((((bl p).length - 1) : Nat) : Int) = ((bl p).length : Nat) - 1 by omega]; rfl) ?_
        refine s_quo 32 rfl rfl rfl (by omega) (quo2 ((bl p).length - 1) (by omega)) ?_
        refine s_add 33 rfl rfl rfl (r := ((((bl p).length - 1) / 2 + 1 : Nat) : Int)) (w64 (by omega)) ?_
        refine s_shl 34 rfl rfl rfl (by omega) (shl_one_u64 (by omega)) ?_
        refine s_lt 35 rfl rfl rfl rfl ?_
        refine SX.next ?_
        refine CW.test rfl (fun hc => ?_) (fun hc => ?_)
        · skip
          have hq0 : q ≠ 0 := by omega
          have hbq := blen_le (x := q) (k := 17) (by omega)
          have hbx := blen_le hxv
          refine CW.skip ?_
          refine KN.code ?_
          refine CW.seq ?_
          refine CW.block ?_
          refine CW.seq ?_
          refine CW.reg [0, 1] rfl ?_   -- 13, binpoly.go:189
          refine s_mv 38 rfl rfl ?_
          refine s_as 8 rfl rfl ?_
          refine SX.next ?_
          refine CW.seq ?_
          refine CW.seq ?_
          refine CW.reg [0, 1, 2, 3, 4, 5] rfl ?_   -- 14, binpoly.go:190
          refine s_mv 39 rfl rfl ?_
          refine s_call1 40 rfl rfl rfl rfl (fun w hw => len64_spec _ w (by rw [htk]; omega)) (fun _ _ => trivial) ?_
          refine s_mv 41 rfl rfl ?_
          refine s_call1 42 rfl rfl rfl rfl (fun w hw => len64_spec _ w (by omega)) (fun _ _ => trivial) ?_
          refine s_sub 43 rfl rfl rfl (r := ((blen (vP ((exL (bl p)).take (exL (bl p)).length)) : Nat) : Int) - (blen q : Nat)) (by rw [htk]; exact w64 (by omega)) ?_
          refine s_as 9 rfl rfl ?_
          refine SX.next ?_
          refine CW.block ?_
          refine CW.loop (G := Nat) (fun r => [(3, .int .i64 (((bl p).length : Nat) - 1 : Int)), (4, .int .u64 (vP ((exL (bl p)).take (exL (bl p)).length) : Nat)), (7, .int .u64 (q : Nat)), (8, .int .u64 (r : Nat)), (9, .int .i64 ((blen r : Nat) - (blen q : Nat)))]) (fun _ => Sto w []) (fun r => r < 2 ^ 33 ∧ rm q r = rm q (vP (exL (bl p)))) (fun r => blen r) (vP ((exL (bl p)).take (exL (bl p)).length)) ⟨rfl, rfl, rfl, rfl, rfl, trivial⟩ (fun _ h => h) ⟨by rw [htk]; exact hxv, by rw [htk]⟩ ?_
          rintro r ⟨hr1, hr2⟩
          have hbr := blen_le hr1
          refine CW.seq ?_
          refine CW.seq ?_
          refine CW.reg [0, 1] rfl ?_   -- 15, binpoly.go:190
          refine s_mv 44 rfl rfl ?_
          refine s_ge 45 rfl rfl rfl rfl ?_
          refine SX.next ?_
          refine CW.test rfl (fun hc => ?_) (fun hc => ?_)
          · skip
            have hle : blen q ≤ blen r := by omega
            have hs1 := step_lt hq0 hle
            have hs2 := step_blen hq0 hle
            have hs3 := rm_step hq0 hle
            have hp33 : 2 ^ blen r ≤ 2 ^ 33 := Nat.pow_le_pow_right (by omega) hbr
            have hx33 := Nat.xor_lt_two_pow hr1 (Nat.lt_of_lt_of_le hs1 hp33)
            have hbx2 := blen_le hx33
            refine CW.skip ?_
            refine KN.code ?_
            refine CW.seq ?_
            refine CW.block ?_
            refine CW.reg [0, 1, 2, 3, 4, 5] rfl ?_   -- 17, binpoly.go:191
            refine s_mv 51 rfl rfl ?_
            refine s_mv 52 rfl rfl ?_
            refine s_mv 53 (v := .int .i64 (blen r - blen q : Nat)) rfl (by rw [show ((blen r - blen q : Nat) : Int) = (blen r : Nat) - (blen q : Nat) by omega]; rfl) ?_
            refine s_shl 54 rfl rfl rfl (by omega) (shl_u64 (by omega) (by omega)) ?_
            refine s_bit 55 rfl rfl rfl rfl (ibit_xor_u64 (by omega) (by omega)) ?_
            refine s_as 8 rfl rfl ?_
            refine SX.end_ ?_
            refine KN.blk ?_
            refine KN.code ?_
            refine CW.reg [0, 1, 2, 3, 4, 5] rfl ?_   -- 16, binpoly.go:190
            refine s_mv 46 rfl rfl ?_
            refine s_call1 47 rfl rfl rfl rfl (fun w hw => len64_spec _ w (by omega)) (fun _ _ => trivial) ?_
            refine s_mv 48 rfl rfl ?_
            refine s_call1 49 rfl rfl rfl rfl (fun w hw => len64_spec _ w (by omega)) (fun _ _ => trivial) ?_
            refine s_sub 50 rfl rfl rfl (r := ((blen (r ^^^ q * 2 ^ (blen r - blen q)) : Nat) : Int) - (blen q : Nat)) (w64 (by omega)) ?_
            refine s_as 9 rfl rfl ?_
            refine SX.end_ ?_
            exact KN.back (r ^^^ q * 2 ^ (blen r - blen q)) ⟨rfl, rfl, rfl, rfl, rfl, trivial⟩ (fun _ h => h) ⟨hx33, hs3.trans hr2⟩ hs2
          · skip
            have hrd := rm_done (q := q) (r := r) (by omega)
            rw [hrd] at hr2
            refine CW.exit rfl ?_
            refine KN.code ?_
            refine CW.seq ?_
            refine CW.reg [0, 1] rfl ?_   -- 18, binpoly.go:193
            refine s_mv 56 rfl rfl ?_
            refine s_eq 57 rfl rfl rfl rfl ?_
            refine SX.next ?_
            refine CW.test rfl (fun hc => ?_) (fun hc => ?_)
            · skip
              have hz := irrP_false (a := bl p) (q := q) (by omega) hq1 (by omega)
              refine CW.seq ?_
              refine CW.reg [0] rfl ?_   -- 19, binpoly.go:194
              refine s_as 2 rfl rfl ?_
              refine SX.next ?_
              refine CW.ret ?_
              exact KN.ret (rs := [.tmp 2]) Tryd.results53 rfl (fun w hw => ⟨by rw [hz]; rfl, hw.nothing⟩)
            · skip
              refine CW.skip ?_
              refine KN.blk ?_
              refine KN.code ?_
              refine CW.reg [0, 1, 2] rfl ?_   -- 12, binpoly.go:188
              refine s_mv 36 rfl rfl ?_
              refine s_add 37 rfl rfl rfl (r := ((q + 1 : Nat) : Int)) (wu64' (x := q + 1) (by omega)) ?_
              refine s_as 7 rfl rfl ?_
              refine SX.end_ ?_
              exact KN.back (q + 1) ⟨rfl, rfl, rfl, trivial⟩ (fun _ h => h) ⟨⟨by omega, by omega⟩, fun s hs => by
  by_cases h : s = q
  · subst h; right; omega
  · exact hq3 s (by omega)⟩ (by omega)
        · skip
          obtain rfl : q = 2 ^ (((bl p).length - 1) / 2 + 1) := by omega
          have hz := irrP_true hN hq3
          refine CW.exit rfl ?_
          refine KN.code ?_
          refine CW.seq ?_
          refine CW.reg [0] rfl ?_   -- 20, binpoly.go:197
          refine s_as 2 rfl rfl ?_
          refine SX.next ?_
          refine CW.ret ?_
          exact KN.ret (rs := [.tmp 2]) Tryd.results53 rfl (fun w hw => ⟨by rw [hz]; rfl, hw.nothing⟩)
