/- The contracts of the document's bits and exponents, and of the chapter's examples. Conditions: the lists are read where they lie. -/
import Derived.Test.YtcjddlcinaedaaaDoorBin6
namespace Go.Proofs.YtcjddlcinaedaaaDoor
open Go Go.Lib Go.Sx Go.Fm
set_option maxRecDepth 100000
/-- 1 where a number is not 0. -/
def nzF (l : List Int) (j : Nat) : Nat := if l.getD j 0 = 0 then 0 else 1
theorem nzF_two (l : List Int) (j : Nat) : nzF l j < 2 := by unfold nzF; split <;> omega
/-- The polynomial of the first i. -/
def nzP (l : List Int) (i : Nat) : List Nat := pl i (nzF l)
theorem cf_nzP (l : List Int) (i j : Nat) : cf (nzP l i) j = if j < i then nzF l j else 0 := cf_pl _ _ _
theorem nzP_b1 (l : List Int) (i : Nat) : B1 (nzP l i) := ⟨pl_tr (fun j => Nat.lt_trans (nzF_two l j) (by decide)), fun j => by rw [cf_nzP]; split; exact nzF_two l j; omega⟩
theorem nzP_len (l : List Int) (i : Nat) : (nzP l i).length ≤ i := by
  unfold nzP pl
  rw [trim_length]
  simpa using tl_le ((List.range i).map (nzF l))
theorem nzP_same {l : List Int} {i : Nat} (h : l.getD i 0 = 0) : nzP l (i + 1) = nzP l i := by
  refine pl_eq (fun j => ?_)
  by_cases hj : j = i
  · subst hj
    rw [if_pos (by omega), if_neg (by omega)]
    unfold nzF
    rw [if_pos h]
  · by_cases h2 : j < i
    · rw [if_pos (by omega), if_pos h2]
    · rw [if_neg (by omega), if_neg h2]
theorem or_two (x s t : Nat) : ((x ||| 2 ^ s) >>> t) % 2 = if t = s then 1 else (x >>> t) % 2 := by
  rw [shr_two, shr_two, Nat.testBit_or, Nat.testBit_two_pow]
  by_cases h : t = s
  · subst h; rw [if_pos rfl, decide_eq_true rfl, Bool.or_true]; rfl
  · rw [if_neg h, decide_eq_false (fun e => h e.symm), Bool.or_false]
theorem bitN_or {L : List Nat} {i : Nat} (hi : i / 8 < L.length) (j : Nat) : bitN (L.set (i / 8) (cf L (i / 8) ||| 2 ^ (i % 8))) j = if j = i then 1 else bitN L j := by
  unfold bitN
  rw [cf_set hi]
  by_cases h : j / 8 = i / 8
  · rw [if_pos h, or_two, ← h]
    by_cases h2 : j = i
    · subst h2; rw [if_pos rfl, if_pos rfl]
    · rw [if_neg (by omega), if_neg h2]
  · rw [if_neg h, if_neg (fun e => h (by rw [e]))]
theorem or8 {x s : Nat} (hx : x < 256) (hs : s < 8) : x ||| 2 ^ s < 256 := Nat.or_lt_two_pow (n := 8) hx (Nat.pow_lt_pow_right (by omega) hs)
/-- One more bit is laid. -/
theorem nzP_set {l : List Int} {i : Nat} {L : List Nat} (h0 : l.getD i 0 ≠ 0) (hl : ∀ x ∈ L, x < 256) (hlen : L.length = i / 8 + 1) (hb : ∀ j, bitN L j = bitN (bys (nzP l i)) j) : L.set (i / 8) (cf L (i / 8) ||| 2 ^ (i % 8)) = bys (nzP l (i + 1)) := by
  have hlt : ∀ x ∈ L.set (i / 8) (cf L (i / 8) ||| 2 ^ (i % 8)), x < 256 := set_lt hl (or8 (cf_lt8 hl _) (Nat.mod_lt _ (by omega)))
  have ht : trim (L.set (i / 8) (cf L (i / 8) ||| 2 ^ (i % 8))) = L.set (i / 8) (cf L (i / 8) ||| 2 ^ (i % 8)) := by
    refine trim_of ?_
    have h1 := tl_le (L.set (i / 8) (cf L (i / 8) ||| 2 ^ (i % 8)))
    have h2 : (L.set (i / 8) (cf L (i / 8) ||| 2 ^ (i % 8))).length = i / 8 + 1 := by rw [List.length_set, hlen]
    refine Nat.le_antisymm h1 (Nat.le_of_not_lt fun hlt => ?_)
    have h3 := cf_hi _ (i / 8) (show tl (L.set (i / 8) (cf L (i / 8) ||| 2 ^ (i % 8))) ≤ i / 8 by omega)
    have h4 := bitN_or (L := L) (i := i) (by omega) i
    rw [if_pos rfl, bitN_zero h3] at h4
    cases h4
  rw [← ht]
  refine bys_of hlt (nzP_b1 l (i + 1)) (fun j => ?_)
  rw [bitN_or (by omega), hb, bitN_bys (nzP_b1 l i).le, cf_nzP, cf_nzP]
  by_cases h : j = i
  · subst h
    rw [if_pos rfl, if_pos (by omega)]
    unfold nzF
    rw [if_neg h0]
  · rw [if_neg h]
    by_cases h2 : j < i
    · rw [if_pos h2, if_pos (by omega)]
    · rw [if_neg h2, if_neg (by omega)]
theorem bitN_app (L : List Nat) (j : Nat) : bitN (L ++ [0]) j = bitN L j := by
  have : cf (L ++ [0]) (j / 8) = cf L (j / 8) := by
    unfold cf
    simp only [List.getD_eq_getElem?_getD]
    by_cases h : j / 8 < L.length
    · rw [List.getElem?_append_left h]
    · rw [List.getElem?_append_right (by omega), List.getElem?_eq_none (show L.length ≤ j / 8 by omega)]
      by_cases h2 : j / 8 - L.length = 0
      · rw [h2]; rfl
      · rw [List.getElem?_eq_none (by simp; omega)]
  unfold bitN
  rw [this]
structure BitG (l : List Int) (i : Nat) (L : List Nat) : Prop where
  len : L.length ≤ i / 8 + 1
  lt : ∀ x ∈ L, x < 256
  bit : ∀ j, bitN L j = bitN (bys (nzP l i)) j
theorem BitG.start (l : List Int) (i : Nat) : BitG l i (bys (nzP l i)) := ⟨by have := bys_len (nzP l i); have := nzP_len l i; omega, (bys_tr (nzP_b1 l i).le).lt, fun _ => rfl⟩
theorem BitG.next {l : List Int} {i : Nat} {L : List Nat} (h : BitG l i L) (hl : L.length ≤ i / 8) : BitG l i (L ++ [0]) := ⟨by simp; omega, fun x hx => by
  rcases List.mem_append.1 hx with hx | hx
  · exact h.lt x hx
  · simp at hx; omega, fun j => by rw [bitN_app, h.bit]⟩
theorem nats8_snoc (a : List Nat) : nats .u8 a ++ [.int .u8 0] = nats .u8 (a ++ [0]) := by simp [nats]

theorem rbits_spec (A : Option Addr) (n c : Nat) (l : List Int) (w : World) (ha : Has (sl 1 A n (ints .i64 l)) w) (hn : n ≤ 1000000) : SpecB Tryd.prog 122 [.slice A n c] w (bys (nzP l l.length)) := by
  have hla := ints_len ha
  subst hla
  refine spec_of Tryd.func122 rfl Tryd.ntmps122 rfl ?_
  refine CW.seq ?_
  refine CW.reg [0] rfl ?_   -- 0, binpoly.go:25
  refine s_as 2 rfl rfl ?_
  refine SX.next ?_
  refine CW.seq ?_
  refine CW.reg [0] rfl ?_   -- 1, binpoly.go:26
  refine s_as 3 rfl rfl ?_
  refine SX.next ?_
  refine CW.seq ?_
  refine CW.seq ?_
  refine CW.reg [0] rfl ?_   -- 2, binpoly.go:27
  refine s_as 4 rfl rfl ?_
  refine SX.next ?_
  refine CW.block ?_
  refine CW.loop (G := Nat × List Nat × (Option Addr × Nat)) (fun z => [(0, .slice A l.length c), (3, .slice z.2.2.1 z.2.1.length z.2.2.2), (4, .int .i64 (z.1 : Nat))]) (fun z => Sto w [own 5 1 z.2.2.1 z.2.1.length z.2.2.2 (nats .u8 z.2.1)]) (fun z => (z.1 ≤ l.length ∧ z.2.1 = bys (nzP l z.1)) ∧ z.2.1.length ≤ z.2.2.2) (fun z => l.length - z.1) (0, [], (none, 0)) ⟨rfl, rfl, rfl, trivial⟩ (fun _ h => h.begin_ _ 1) ⟨⟨Nat.zero_le _, bys_nil.symm⟩, Nat.le_refl _⟩ ?_
  rintro ⟨i, L, q⟩ ⟨⟨hi, hL⟩, hq⟩
  simp only at hi hL hq
  dsimp only
  refine CW.seq ?_
  refine CW.seq ?_
  refine CW.reg [0, 1, 2, 3] rfl ?_   -- 3, binpoly.go:27
  refine s_mv 5 rfl rfl ?_
  refine s_mv 6 rfl rfl ?_
  refine s_len 7 rfl rfl ?_
  refine s_lt 8 rfl rfl rfl rfl ?_
  refine SX.next ?_
  refine CW.test rfl (fun hc => ?_) (fun hc => ?_)
  · skip
    refine CW.skip ?_
    refine KN.code ?_
    refine CW.seq ?_
    refine CW.block ?_
    refine CW.seq ?_
    refine CW.seq ?_
    refine CW.reg [0, 1, 2, 3, 4] rfl ?_   -- 5, binpoly.go:28
    refine s_mv 11 rfl rfl ?_
    refine s_mv 12 rfl rfl ?_
    refine s_iaV 13 i (fun w hw => hw.old ha) rfl rfl rfl rfl (by omega) ?_
    refine s_ldV 14 (fun w hw => hw.old ha) rfl rfl (by rw [Nat.mul_one]; exact intsAt (by omega)) (by omega) ?_
    refine s_eq 15 rfl rfl rfl rfl ?_
    refine SX.next ?_
    refine CW.test rfl (fun hc => ?_) (fun hc => ?_)
    · skip
      have hnx := nzP_same (l := l) (i := i) (by assumption)
      refine CW.exit rfl ?_
      refine KN.code ?_
      refine CW.reg [0, 1, 2] rfl ?_   -- 4, binpoly.go:27
      refine s_mv 9 rfl rfl ?_
      refine s_add 10 rfl rfl rfl (r := ((i + 1 : Nat) : Int)) (w64 (by omega)) ?_
      refine s_as 4 rfl rfl ?_
      refine SX.end_ ?_
      exact KN.back (i + 1, L, q) ⟨rfl, rfl, rfl, trivial⟩ (fun _ h => h) ⟨⟨by simp only; omega, by simp only; rw [hnx]; exact hL⟩, hq⟩ (by simp only; omega)
    · skip
      have h0 : l.getD i 0 ≠ 0 := by assumption
      have hst := BitG.start l i
      rw [← hL] at hst
      refine CW.skip ?_
      refine KN.code ?_
      refine CW.seq ?_
      refine CW.block ?_
      refine CW.loop (G := List Nat × (Option Addr × Nat)) (fun y => [(0, .slice A l.length c), (3, .slice y.2.1 y.1.length y.2.2), (4, .int .i64 (i : Nat))]) (fun y => Sto w [own 5 1 y.2.1 y.1.length y.2.2 (nats .u8 y.1)]) (fun y => BitG l i y.1 ∧ y.1.length ≤ y.2.2) (fun y => i / 8 + 1 - y.1.length) (L, q) ⟨rfl, rfl, rfl, trivial⟩ (fun _ h => h) ⟨hst, hq⟩ ?_
      rintro ⟨L2, q2⟩ ⟨hg, hq2⟩
      have hgl := hg.len
      simp only at hg hq2 hgl
      dsimp only
      refine CW.seq ?_
      refine CW.seq ?_
      refine CW.reg [0, 1, 2, 3, 4] rfl ?_   -- 6, binpoly.go:31
      refine s_mv 16 rfl rfl ?_
      refine s_len 17 rfl rfl ?_
      refine s_mv 18 rfl rfl ?_
      refine s_quo 19 rfl rfl rfl (by omega) (quo8 i (by omega)) ?_
      refine s_le 20 rfl rfl rfl rfl ?_
      refine SX.next ?_
      refine CW.test rfl (fun hc => ?_) (fun hc => ?_)
      · skip
        refine CW.skip ?_
        refine KN.code ?_
        refine CW.block ?_
        refine CW.reg [0, 1, 2, 3] rfl ?_   -- 7, binpoly.go:32
        refine s_mv 21 rfl rfl ?_
        refine s_bsl 22 rfl rfl (cells := #[.int .u8 0]) (by kernel_rfl) rfl (fun _ _ => trivial) (fun gb => ?_)
        refine s_app 23 1 rfl rfl rfl rfl (ys := [.int .u8 0]) (fun w hw => Has.cong ((hw.has (i := 0) rfl).blk_sl (m := 1) rfl) rfl) rfl rfl (by omega) (by unfold maxLen; omega) (by omega) (fun _ _ _ _ => trivial) (fun A2 c2 hc2 => ?_)
        refine s_as 3 rfl rfl ?_
        refine SX.end_ ?_
        refine KN.blk ?_
        exact KN.back (L2 ++ [0], (A2, c2)) ⟨rfl, by simp only [List.length_append, List.length_singleton]; rfl, rfl, trivial⟩ (fun _ h => by simp only [List.length_append, List.length_singleton]; rw [← nats8_snoc]; exact h.pick [1] rfl) ⟨hg.next (by omega), by simp only [List.length_append, List.length_singleton]; exact hc2⟩ (by simp only [List.length_append, List.length_singleton]; omega)
      · skip
        have hle : L2.length = i / 8 + 1 := by omega
        have hset := nzP_set h0 hg.lt hle hg.bit
        refine CW.exit rfl ?_
        refine KN.code ?_
        refine CW.reg [0, 1, 2, 3, 4, 5, 6, 7, 8, 9, 10, 11, 12, 13, 14] rfl ?_   -- 8, binpoly.go:34
        refine s_mv 24 rfl rfl ?_
        refine s_mv 25 rfl rfl ?_
        refine s_quo 26 rfl rfl rfl (by omega) (quo8 i (by omega)) ?_
        refine s_mv 27 rfl rfl ?_
        refine s_mv 28 rfl rfl ?_
        refine s_quo 29 rfl rfl rfl (by omega) (quo8 i (by omega)) ?_
        refine s_iaO 30 0 (i / 8) rfl rfl rfl rfl rfl (by omega) ?_
        refine s_ldO 31 0 rfl rfl rfl (natsAt8 (by omega)) ?_
        refine s_mv 32 rfl rfl ?_
        refine s_rem 33 rfl rfl rfl (by omega) (tmod8 i) ?_
        refine s_conv 34 rfl rfl (wu64 (by omega)) ?_
        refine s_shl 35 rfl rfl rfl (by omega) (r := ((2 ^ (i % 8) : Nat) : Int)) (by rw [show (1 : Int) = ((1 : Nat) : Int) from rfl, shl_u8 (by omega), Nat.one_mul, Nat.mod_eq_of_lt (Nat.pow_lt_pow_right (n := 8) (by omega) (Nat.mod_lt _ (by omega)))]) ?_
        refine s_bit 36 rfl rfl rfl rfl (ibit_or_u8 (cf_lt8 hg.lt _) (Nat.pow_lt_pow_right (n := 8) (by omega) (Nat.mod_lt _ (by omega)))) ?_
        refine s_iaO 37 0 (i / 8) rfl rfl rfl rfl rfl (by omega) ?_
        refine s_stO 0 rfl rfl rfl rfl rfl (by omega) (fun _ _ => trivial) ?_
        refine SX.end_ ?_
        refine KN.blk ?_
        refine KN.code ?_
        refine CW.reg [0, 1, 2] rfl ?_   -- 4, binpoly.go:27
        refine s_mv 9 rfl rfl ?_
        refine s_add 10 rfl rfl rfl (r := ((i + 1 : Nat) : Int)) (w64 (by omega)) ?_
        refine s_as 4 rfl rfl ?_
        refine SX.end_ ?_
        exact KN.back (i + 1, L2.set (i / 8) (cf L2 (i / 8) ||| 2 ^ (i % 8)), q2) ⟨rfl, by simp only [List.length_set]; rfl, rfl, trivial⟩ (fun _ h => by simp only [List.length_set]; rw [← nats_set]; exact h) ⟨⟨by simp only; omega, hset⟩, by simp only [List.length_set]; exact hq2⟩ (by simp only; omega)
  · skip
    obtain rfl : i = l.length := by omega
    subst hL
    refine CW.exit rfl ?_
    refine KN.code ?_
    refine CW.seq ?_
    refine CW.reg [0, 1] rfl ?_   -- 9, binpoly.go:36
    refine s_mv 38 rfl rfl ?_
    refine s_as 2 rfl rfl ?_
    refine SX.next ?_
    refine CW.ret ?_
    exact KN.ret (rs := [.tmp 2]) Tryd.results122 rfl (fun w hw => ⟨q, rfl, hq, hw⟩)
