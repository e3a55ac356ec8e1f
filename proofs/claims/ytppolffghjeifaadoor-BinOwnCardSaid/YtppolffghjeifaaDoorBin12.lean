/- The contracts of binpoly.Shift. Conditions: the list is bytes, read where it lies. -/
import Derived.Test.YtppolffghjeifaaDoorBin11
namespace Go.Proofs.YtppolffghjeifaaDoor
open Go Go.Lib Go.Sx Go.Fm
set_option maxRecDepth 100000
/-- 1 of what is in the list. -/
def mm (l : List Nat) (x : Nat) : Nat := if x ∈ l then 1 else 0
theorem mm_snoc (l : List Nat) (e x : Nat) : mm (l ++ [e]) x = if x = e then 1 else mm l x := by
  unfold mm
  by_cases h : x = e
  · subst h; simp
  · simp [h]
theorem mem_exU {a : List Nat} {x : Nat} : ∀ {d : Nat}, d ≤ a.length → (x ∈ exU a a.length d ↔ a.length ≤ x + d ∧ x < a.length ∧ cf a x ≠ 0)
  | 0, _ => by
    unfold exU
    simp
    omega
  | d + 1, hd => by
    have ih := mem_exU (a := a) (x := x) (d := d) (by omega)
    unfold exU
    split
    · rename_i h0
      rw [ih]
      constructor
      · rintro ⟨h1, h2, h3⟩; exact ⟨by omega, h2, h3⟩
      · rintro ⟨h1, h2, h3⟩
        refine ⟨?_, h2, h3⟩
        by_cases he : x = a.length - 1 - d
        · subst he; exact absurd h0 h3
        · omega
    · rename_i h0
      rw [List.mem_append, ih, List.mem_singleton]
      constructor
      · rintro (⟨h1, h2, h3⟩ | rfl)
        · exact ⟨by omega, h2, h3⟩
        · exact ⟨by omega, by omega, h0⟩
      · rintro ⟨h1, h2, h3⟩
        by_cases he : x = a.length - 1 - d
        · exact .inr he
        · exact .inl ⟨by omega, h2, h3⟩
theorem mm_exL {a : List Nat} (ha : B1 a) (x : Nat) : mm (exL a) x = cf a x := by
  unfold mm exL
  have h := mem_exU (a := a) (x := x) (Nat.le_refl _)
  have h2 := ha.le x
  by_cases hx : x < a.length
  · by_cases h0 : cf a x = 0
    · rw [if_neg (fun hm => (h.1 hm).2.2 h0), h0]
    · rw [if_pos (h.2 ⟨by omega, hx, h0⟩)]; omega
  · rw [if_neg (fun hm => hx (h.1 hm).2.1), cf_out (by omega)]
/-- The places, n up, or n down. -/
def shB : Bool → Nat → List Nat → Nat → Nat
  | true, n, l, j => if n ≤ j then mm l (j - n) else 0
  | false, n, l, j => mm l (j + n)
/-- What the shift's loop keeps: up, or down. -/
structure ShG (p : List Nat) (up : Bool) (n N : Nat) (z : Nat × List Nat) : Prop where
  le : z.1 ≤ (exL (bl p)).length
  len : z.2.length = N
  lt : ∀ x ∈ z.2, x < 256
  bit : ∀ j, bitN z.2 j = shB up n ((exL (bl p)).take z.1) j
theorem ShG.start (p : List Nat) (up : Bool) (n N : Nat) : ShG p up n N (0, List.replicate N 0) := ⟨Nat.zero_le _, by simp, zeros_lt N, fun j => by
  simp only [List.take_zero]
  rw [zeros_bit]
  cases up
  · exact (show mm [] (j + n) = 0 by simp [mm]).symm
  · exact (show (if n ≤ j then mm [] (j - n) else 0) = 0 by simp [mm]).symm⟩
theorem ShG.nextU {p L : List Nat} {n N i : Nat} (h : ShG p true n N (i, L)) (hi : i < (exL (bl p)).length) (hN : (cf (exL (bl p)) i + n) / 8 < N) : ShG p true n N (i + 1, L.set ((cf (exL (bl p)) i + n) / 8) (cf L ((cf (exL (bl p)) i + n) / 8) ||| 2 ^ ((cf (exL (bl p)) i + n) % 8))) := by
  obtain ⟨h1, h2, h3, h4⟩ := h
  simp only at h1 h2 h3 h4
  refine ⟨hi, by simp only; rw [List.length_set, h2], set_lt h3 (or8 (cf_lt8 h3 _) (Nat.mod_lt _ (by omega))), fun j => ?_⟩
  simp only
  rw [bitN_or (by omega), h4, take_cf hi]
  show (if j = cf (exL (bl p)) i + n then 1 else if n ≤ j then mm ((exL (bl p)).take i) (j - n) else 0) = if n ≤ j then mm ((exL (bl p)).take i ++ [cf (exL (bl p)) i]) (j - n) else 0
  rw [mm_snoc]
  by_cases hj : j = cf (exL (bl p)) i + n
  · rw [if_pos hj, if_pos (by omega), if_pos (by omega)]
  · rw [if_neg hj]
    by_cases hn : n ≤ j
    · rw [if_pos hn, if_pos hn, if_neg (by omega)]
    · rw [if_neg hn, if_neg hn]
theorem ShG.nextD {p L : List Nat} {n N i : Nat} (h : ShG p false n N (i, L)) (hi : i < (exL (bl p)).length) (hk : n ≤ cf (exL (bl p)) i) (hN : (cf (exL (bl p)) i - n) / 8 < N) : ShG p false n N (i + 1, L.set ((cf (exL (bl p)) i - n) / 8) (cf L ((cf (exL (bl p)) i - n) / 8) ||| 2 ^ ((cf (exL (bl p)) i - n) % 8))) := by
  obtain ⟨h1, h2, h3, h4⟩ := h
  simp only at h1 h2 h3 h4
  refine ⟨hi, by simp only; rw [List.length_set, h2], set_lt h3 (or8 (cf_lt8 h3 _) (Nat.mod_lt _ (by omega))), fun j => ?_⟩
  simp only
  rw [bitN_or (by omega), h4, take_cf hi]
  show (if j = cf (exL (bl p)) i - n then 1 else mm ((exL (bl p)).take i) (j + n)) = mm ((exL (bl p)).take i ++ [cf (exL (bl p)) i]) (j + n)
  rw [mm_snoc]
  by_cases hj : j = cf (exL (bl p)) i - n
  · rw [if_pos hj, if_pos (by omega)]
  · rw [if_neg hj, if_neg (by omega)]
theorem ShG.skipD {p L : List Nat} {n N i : Nat} (h : ShG p false n N (i, L)) (hi : i < (exL (bl p)).length) (hk : cf (exL (bl p)) i < n) : ShG p false n N (i + 1, L) := by
  obtain ⟨h1, h2, h3, h4⟩ := h
  simp only at h1 h2 h3 h4
  refine ⟨hi, h2, h3, fun j => ?_⟩
  simp only
  rw [h4, take_cf hi]
  show mm ((exL (bl p)).take i) (j + n) = mm ((exL (bl p)).take i ++ [cf (exL (bl p)) i]) (j + n)
  rw [mm_snoc, if_neg (by omega)]
theorem ShG.doneU {p L : List Nat} {n N : Nat} (h : ShG p true n N ((exL (bl p)).length, L)) : trim L = bys (upP n (bl p)) := bys_of h.lt (upP_b1 (bl_b1 p) n) (fun j => by
  rw [h.bit]
  simp only
  rw [List.take_length, cf_upP]
  show (if n ≤ j then mm (exL (bl p)) (j - n) else 0) = _
  split
  · exact mm_exL (bl_b1 p) _
  · rfl)
theorem ShG.doneD {p L : List Nat} {n N : Nat} (h : ShG p false n N ((exL (bl p)).length, L)) : trim L = bys (dnP n (bl p)) := bys_of h.lt (dnP_b1 (bl_b1 p) n) (fun j => by
  rw [h.bit]
  simp only
  rw [List.take_length, cf_dnP]
  exact mm_exL (bl_b1 p) _)
theorem upP_nil (n : Nat) : upP n [] = [] := (upP_b1 nil_b1 n).tr.nil_of (fun j => by rw [cf_upP, cf_nil]; split <;> rfl)
theorem dnP_out {a : List Nat} (ha : B1 a) {n : Nat} (h : a.length ≤ n) : dnP n a = [] := (dnP_b1 ha n).tr.nil_of (fun j => by rw [cf_dnP]; exact cf_out (by omega))
theorem addn (a b : Nat) (h : a + b ≤ 9223372036854775807) : IntKind.i64.wrap (((a : Nat) : Int) + (b : Nat)) = ((a + b : Nat) : Int) := by
  rw [← Int.natCast_add]
  exact w64 (by omega)
theorem subn {a b : Nat} (h : b ≤ a) (h2 : a ≤ 9223372036854775807) : IntKind.i64.wrap (((a : Nat) : Int) + -((b : Nat) : Int)) = ((a - b : Nat) : Int) := by
  rw [show ((a : Nat) : Int) + -((b : Nat) : Int) = ((a - b : Nat) : Int) by omega]
  exact w64 (by omega)

theorem bshu_spec (A : Option Addr) (n c : Nat) (p : List Nat) (sh : Nat) (w : World) (ha : Has (sl 1 A n (nats .u8 p)) w) (hp : ∀ x ∈ p, x < 256) (hn : n ≤ 1073741824) (hcp : n ≤ c) (hnl : sh + (bl p).length ≤ 4097) : SpecBE Tryd.prog 16 [.slice A n c, .int .i64 (sh : Nat)] w (bys (upP sh (bl p))) := by
  have hla := nats_len ha
  subst hla
  have hbl := bl_len p
  refine spec_of Tryd.func16 rfl Tryd.ntmps16 rfl ?_
  refine CW.seq ?_
  refine CW.reg [0, 1] rfl ?_   -- 0, binpoly.go:149
  refine s_as 4 rfl rfl ?_
  refine s_as 5 rfl rfl ?_
  refine SX.next ?_
  refine CW.seq ?_
  refine CW.reg [0, 1, 2] rfl ?_   -- 1, binpoly.go:150
  refine s_mv 10 rfl rfl ?_
  refine s_call1 11 rfl rfl rfl rfl (fun w hw => bdeg_spec A p.length c p w (hw.old ha) hp hn hcp) (fun _ _ => trivial) ?_
  refine s_as 6 rfl rfl ?_
  refine SX.next ?_
  refine CW.seq ?_
  refine CW.block ?_
  refine CW.seq ?_
  refine CW.reg [0, 1, 2, 3, 4, 5, 6, 7, 8] rfl ?_   -- 2, binpoly.go:152
  refine s_mv 13 rfl rfl ?_
  refine s_lt 14 rfl rfl rfl rfl ?_
  refine s_mv 15 rfl rfl ?_
  refine SX.bool 15 rfl (fun hb => ?_) (fun hb => ?_)
  · skip
    replace hb := of_decide_eq_true hb
    have hz : (bys (upP sh (bl p))) = [] := by rw [List.eq_nil_of_length_eq_zero (show (bl p).length = 0 by omega)]; rw [upP_nil]; rfl
    refine SX.skip rfl ?_
    refine SX.skip rfl ?_
    refine SX.skip rfl ?_
    refine SX.skip rfl ?_
    refine s_pickT 20 rfl rfl rfl ?_
    refine s_as 12 rfl rfl ?_
    refine SX.next ?_
    refine CW.condT rfl ?_
    refine CW.seq ?_
    refine CW.reg [0, 1] rfl ?_   -- 3, binpoly.go:153
    refine s_as 4 rfl rfl ?_
    refine s_as 5 rfl rfl ?_
    refine SX.next ?_
    refine CW.ret ?_
    exact KN.ret (rs := [.tmp 4, .tmp 5]) Tryd.results16 rfl (fun w hw => ⟨(none, 0), by rw [hz]; rfl, by rw [hz]; exact Nat.le_refl _, by rw [hz]; exact hw.dropR.begin_ _ 1⟩)
  · skip
    replace hb := of_decide_eq_false hb
    refine s_mv 16 rfl rfl ?_
    refine s_mv 17 rfl rfl ?_
    refine s_neg 18 rfl rfl (r := 1 - ((bl p).length : Nat)) (by rw [show (0 : Int) - (((bl p).length : Nat) - 1) = 1 - ((bl p).length : Nat) by omega]; exact w64 (by omega)) ?_
    refine s_lt 19 rfl rfl rfl rfl ?_
    refine s_pickF 20 rfl rfl rfl ?_
    refine s_as 12 rfl rfl ?_
    refine SX.next ?_
    refine CW.test rfl (fun hc2 => ?_) (fun hc2 => ?_)
    · skip
      have hz : (bys (upP sh (bl p))) = [] := by omega
      refine CW.seq ?_
      refine CW.reg [0, 1] rfl ?_   -- 3, binpoly.go:153
      refine s_as 4 rfl rfl ?_
      refine s_as 5 rfl rfl ?_
      refine SX.next ?_
      refine CW.ret ?_
      exact KN.ret (rs := [.tmp 4, .tmp 5]) Tryd.results16 rfl (fun w hw => ⟨(none, 0), by rw [hz]; rfl, by rw [hz]; exact Nat.le_refl _, by rw [hz]; exact hw.dropR.begin_ _ 1⟩)
    · skip
      refine CW.seq ?_
      refine CW.reg [0, 1, 2, 3, 4] rfl ?_   -- 4, binpoly.go:154
      refine s_mv 22 rfl rfl ?_
      refine s_mv 23 rfl rfl ?_
      refine s_sub 24 rfl rfl rfl (r := 4097 - ((bl p).length : Nat)) (by rw [show (4096 : Int) - (((bl p).length : Nat) - 1) = 4097 - ((bl p).length : Nat) by omega]; exact w64 (by omega)) ?_
      refine s_gt 25 rfl rfl rfl (decide_eq_false (by omega)) ?_
      refine s_as 21 rfl rfl ?_
      refine SX.next ?_
      refine CW.condF rfl ?_
      refine CW.skip ?_
      refine KN.blk ?_
      refine KN.code ?_
      refine CW.seq ?_
      refine CW.reg [0, 1, 2, 3, 4, 5, 6] rfl ?_   -- 6, binpoly.go:157
      refine s_mv 27 rfl rfl ?_
      refine s_mv 28 rfl rfl ?_
      refine s_add 29 rfl rfl rfl (r := (((bl p).length - 1 + sh : Nat) : Int)) (by rw [show ((bl p).length : Int) - 1 + (sh : Nat) = (((bl p).length - 1 + sh : Nat) : Int) by omega]; exact w64 (by omega)) ?_
      refine s_quo 30 rfl rfl rfl (by omega) (quo8 _ (by omega)) ?_
      refine s_add 31 rfl rfl rfl (r := (((((bl p).length - 1 + sh) / 8 + 1) : Nat) : Int)) (w64 (by omega)) ?_
      refine s_make 32 (((bl p).length - 1 + sh) / 8 + 1) rfl rfl rfl rfl rfl (by omega) (fun _ _ => trivial) (fun go => ?_)
      refine s_as 7 rfl rfl ?_
      refine SX.next ?_
      refine CW.seq ?_
      refine CW.seq ?_
      refine CW.reg [0, 1, 2, 3] rfl ?_   -- 7, binpoly.go:158
      refine s_mv 33 rfl rfl ?_
      refine s_call 34 rfl rfl rfl rfl (fun w hw => bexp_spec A p.length c p w (hw.old ha) hp hn hcp) (fun _ _ => trivial) (fun q3 hq3 => ?_)
      refine SX.pre (C' := Sto w [own 5 1 (some ⟨go, 0, none⟩) (((bl p).length - 1 + sh) / 8 + 1) (((bl p).length - 1 + sh) / 8 + 1) (nats .u8 (List.replicate (((bl p).length - 1 + sh) / 8 + 1) 0)), own 3 1 q3.1 (exL (bl p)).length q3.2 (nats .i64 (exL (bl p)))]) (fun _ h => by
        have := h.blkOwnM (q := 1) (m := (((bl p).length - 1 + sh) / 8 + 1)) (c := (((bl p).length - 1 + sh) / 8 + 1)) (sz := 1) rfl (by simp) (Nat.le_refl _) (by unfold maxLen; omega)
        rw [zeros8] at this
        exact this.pick [1, 0] rfl) ?_
      refine s_len 35 rfl rfl ?_
      refine s_mv 36 rfl rfl ?_
      refine SX.next ?_
      refine CW.block ?_
      refine CW.loop (G := Nat × List Nat) (fun z => [(1, .int .i64 (sh : Nat)), (7, .slice (some ⟨go, 0, none⟩) (((bl p).length - 1 + sh) / 8 + 1) (((bl p).length - 1 + sh) / 8 + 1)), (34, .slice q3.1 (exL (bl p)).length q3.2), (35, .int .i64 ((exL (bl p)).length : Nat)), (36, .int .i64 (z.1 : Nat))]) (fun z => Sto w [own 5 1 (some ⟨go, 0, none⟩) (((bl p).length - 1 + sh) / 8 + 1) (((bl p).length - 1 + sh) / 8 + 1) (nats .u8 z.2), own 3 1 q3.1 (exL (bl p)).length q3.2 (nats .i64 (exL (bl p)))]) (ShG p true sh (((bl p).length - 1 + sh) / 8 + 1)) (fun z => (exL (bl p)).length - z.1) (0, List.replicate (((bl p).length - 1 + sh) / 8 + 1) 0) ⟨rfl, rfl, rfl, rfl, rfl, trivial⟩ (fun _ h => h) (ShG.start p true sh _) ?_
      rintro ⟨i, L⟩ hz2
      have hle := hz2.le
      have hlen := hz2.len
      have hlt := hz2.lt
      simp only at hle hlen hlt
      dsimp only
      have hexl : (exL (bl p)).length ≤ (bl p).length := exU_len (bl p) (bl p).length (bl p).length
      refine CW.seq ?_
      refine CW.reg [0] rfl ?_   -- 8, binpoly.go:158
      refine s_lt 37 rfl rfl rfl rfl ?_
      refine SX.next ?_
      refine CW.seq ?_
      refine CW.test rfl (fun hc => ?_) (fun hc => ?_)
      · skip
        have hi : i < (exL (bl p)).length := by omega
        have hcl : cf (exL (bl p)) i < (bl p).length := exU_lt (by omega) (cf_mem hi)
        refine CW.skip ?_
        refine KN.code ?_
        refine CW.seq ?_
        refine CW.block ?_
        refine CW.seq ?_
        refine CW.reg [0, 1, 2] rfl ?_   -- 9, binpoly.go:158
        refine s_iaO 38 1 i rfl rfl rfl rfl rfl (by omega) ?_
        refine s_ldO 39 1 rfl rfl rfl (natsAtC hi) ?_
        refine s_as 9 rfl rfl ?_
        refine SX.next ?_
        refine CW.seq ?_
        refine CW.reg [0, 1, 2, 3] rfl ?_   -- 10, binpoly.go:159
        refine s_mv 40 rfl rfl ?_
        refine s_mv 41 rfl rfl ?_
        refine s_add 42 rfl rfl rfl (r := (((cf (exL (bl p)) i + sh) : Nat) : Int)) (addn _ _ (by omega)) ?_
        refine s_ge 43 rfl rfl rfl (decide_eq_true (by omega)) ?_
        refine SX.next ?_
        refine CW.condT rfl ?_
        refine CW.regD (.st true 0 (.st true 1 (.st true 2 (.st true 3 (.st true 4 (.st true 5 (.st true 7 (.st true 8 (.st true 9 (.st true 10 (.st true 11 (.st false 6 (.st true 12 (.st true 13 (.st false 14 .done))))))))))))))) (Sto w []) mixed (by kernel_rfl) (fun _ h => h.drew) (fun _ h => h.dropR) ?_
        refine s_mv 44 rfl rfl ?_
        refine s_mv 45 rfl rfl ?_
        refine s_mv 46 rfl rfl ?_
        refine s_add 47 rfl rfl rfl (r := (((cf (exL (bl p)) i + sh) : Nat) : Int)) (addn _ _ (by omega)) ?_
        refine s_quo 48 rfl rfl rfl (by omega) (quo8 _ (by omega)) ?_
        refine s_iaO 49 0 ((cf (exL (bl p)) i + sh) / 8) rfl rfl rfl rfl rfl (by omega) ?_
        refine s_mv 51 rfl rfl ?_
        refine s_mv 52 rfl rfl ?_
        refine s_add 53 rfl rfl rfl (r := (((cf (exL (bl p)) i + sh) : Nat) : Int)) (addn _ _ (by omega)) ?_
        refine s_rem 54 rfl rfl rfl (by omega) (tmod8 _) ?_
        refine s_shl 55 rfl rfl rfl (by omega) (r := ((2 ^ ((cf (exL (bl p)) i + sh) % 8) : Nat) : Int)) (by rw [show (1 : Int) = ((1 : Nat) : Int) from rfl, shl_u8 (by omega), Nat.one_mul, Nat.mod_eq_of_lt (Nat.pow_lt_pow_right (n := 8) (by omega) (Nat.mod_lt _ (by omega)))]) ?_
        refine s_ldO 50 0 rfl rfl rfl (natsAt8 (by omega)) ?_
        refine s_bit 56 rfl rfl rfl rfl (ibit_or_u8 (cf_lt8 hlt _) (Nat.pow_lt_pow_right (n := 8) (by omega) (Nat.mod_lt _ (by omega)))) ?_
        refine s_iaO 57 0 ((cf (exL (bl p)) i + sh) / 8) rfl rfl rfl rfl rfl (by omega) ?_
        refine s_stO 0 rfl rfl rfl rfl rfl (by omega) (fun _ h => h.dropR) ?_
        refine SX.end_ ?_
        refine KN.blk ?_
        refine KN.code ?_
        refine CW.reg [0, 1] rfl ?_   -- 12, binpoly.go:158
        refine s_add 58 rfl rfl rfl (r := ((i + 1 : Nat) : Int)) (w64 (by omega)) ?_
        refine s_mv 36 rfl rfl ?_
        refine SX.end_ ?_
        exact KN.back (i + 1, (L.set ((cf (exL (bl p)) i + sh) / 8) (cf L ((cf (exL (bl p)) i + sh) / 8) ||| 2 ^ ((cf (exL (bl p)) i + sh) % 8)))) ⟨rfl, rfl, rfl, rfl, rfl, trivial⟩ (fun _ h => by simp only; rw [← nats_set]; exact h) (hz2.nextU hi (by omega)) (by simp only; omega)
      · skip
        obtain rfl : i = (exL (bl p)).length := by omega
        have hdn := hz2.doneU
        refine CW.exit rfl ?_
        refine KN.code ?_
        refine CW.seq ?_
        refine CW.reg [0, 1, 2, 3] rfl ?_   -- 13, binpoly.go:163
        refine s_mv 59 rfl rfl ?_
        refine s_call 60 rfl rfl rfl rfl (fun w hw => by have := trimmed_spec (some ⟨go, 0, none⟩) (((bl p).length - 1 + sh) / 8 + 1) (((bl p).length - 1 + sh) / 8 + 1) L w ((hw.has (i := 0) rfl).of_own) hlt (by omega) (Nat.le_refl _); rw [hdn] at this; exact this) (fun _ _ => trivial) (fun q4 hq4 => ?_)
        refine s_as 4 rfl rfl ?_
        refine s_as 5 rfl rfl ?_
        refine SX.next ?_
        refine CW.ret ?_
        exact KN.ret (rs := [.tmp 4, .tmp 5]) Tryd.results16 rfl (fun w hw => ⟨q4, rfl, hq4, hw.pick [0] rfl⟩)

theorem bshd_spec (A : Option Addr) (n c : Nat) (p : List Nat) (sh : Nat) (w : World) (ha : Has (sl 1 A n (nats .u8 p)) w) (hp : ∀ x ∈ p, x < 256) (hn : n ≤ 1073741824) (hcp : n ≤ c) (hnl : sh ≤ 1000000) (hbl4 : (bl p).length ≤ 4097) : SpecBE Tryd.prog 16 [.slice A n c, .int .i64 (-((sh : Nat) : Int))] w (bys (dnP sh (bl p))) := by
  have hla := nats_len ha
  subst hla
  have hbl := bl_len p
  refine spec_of Tryd.func16 rfl Tryd.ntmps16 rfl ?_
  refine CW.seq ?_
  refine CW.reg [0, 1] rfl ?_   -- 0, binpoly.go:149
  refine s_as 4 rfl rfl ?_
  refine s_as 5 rfl rfl ?_
  refine SX.next ?_
  refine CW.seq ?_
  refine CW.reg [0, 1, 2] rfl ?_   -- 1, binpoly.go:150
  refine s_mv 10 rfl rfl ?_
  refine s_call1 11 rfl rfl rfl rfl (fun w hw => bdeg_spec A p.length c p w (hw.old ha) hp hn hcp) (fun _ _ => trivial) ?_
  refine s_as 6 rfl rfl ?_
  refine SX.next ?_
  refine CW.seq ?_
  refine CW.block ?_
  refine CW.seq ?_
  refine CW.reg [0, 1, 2, 3, 4, 5, 6, 7, 8] rfl ?_   -- 2, binpoly.go:152
  refine s_mv 13 rfl rfl ?_
  refine s_lt 14 rfl rfl rfl rfl ?_
  refine s_mv 15 rfl rfl ?_
  refine SX.bool 15 rfl (fun hb => ?_) (fun hb => ?_)
  · skip
    replace hb := of_decide_eq_true hb
    have hz : (bys (dnP sh (bl p))) = [] := by rw [List.eq_nil_of_length_eq_zero (show (bl p).length = 0 by omega)]; rw [dnP_out nil_b1 (Nat.zero_le _)]; rfl
    refine SX.skip rfl ?_
    refine SX.skip rfl ?_
    refine SX.skip rfl ?_
    refine SX.skip rfl ?_
    refine s_pickT 20 rfl rfl rfl ?_
    refine s_as 12 rfl rfl ?_
    refine SX.next ?_
    refine CW.condT rfl ?_
    refine CW.seq ?_
    refine CW.reg [0, 1] rfl ?_   -- 3, binpoly.go:153
    refine s_as 4 rfl rfl ?_
    refine s_as 5 rfl rfl ?_
    refine SX.next ?_
    refine CW.ret ?_
    exact KN.ret (rs := [.tmp 4, .tmp 5]) Tryd.results16 rfl (fun w hw => ⟨(none, 0), by rw [hz]; rfl, by rw [hz]; exact Nat.le_refl _, by rw [hz]; exact hw.dropR.begin_ _ 1⟩)
  · skip
    replace hb := of_decide_eq_false hb
    refine s_mv 16 rfl rfl ?_
    refine s_mv 17 rfl rfl ?_
    refine s_neg 18 rfl rfl (r := 1 - ((bl p).length : Nat)) (by rw [show (0 : Int) - (((bl p).length : Nat) - 1) = 1 - ((bl p).length : Nat) by omega]; exact w64 (by omega)) ?_
    refine s_lt 19 rfl rfl rfl rfl ?_
    refine s_pickF 20 rfl rfl rfl ?_
    refine s_as 12 rfl rfl ?_
    refine SX.next ?_
    refine CW.test rfl (fun hc2 => ?_) (fun hc2 => ?_)
    · skip
      have hz : (bys (dnP sh (bl p))) = [] := by rw [dnP_out (bl_b1 p) (by omega)]; rfl
      refine CW.seq ?_
      refine CW.reg [0, 1] rfl ?_   -- 3, binpoly.go:153
      refine s_as 4 rfl rfl ?_
      refine s_as 5 rfl rfl ?_
      refine SX.next ?_
      refine CW.ret ?_
      exact KN.ret (rs := [.tmp 4, .tmp 5]) Tryd.results16 rfl (fun w hw => ⟨(none, 0), by rw [hz]; rfl, by rw [hz]; exact Nat.le_refl _, by rw [hz]; exact hw.dropR.begin_ _ 1⟩)
    · skip
      refine CW.seq ?_
      refine CW.reg [0, 1, 2, 3, 4] rfl ?_   -- 4, binpoly.go:154
      refine s_mv 22 rfl rfl ?_
      refine s_mv 23 rfl rfl ?_
      refine s_sub 24 rfl rfl rfl (r := 4097 - ((bl p).length : Nat)) (by rw [show (4096 : Int) - (((bl p).length : Nat) - 1) = 4097 - ((bl p).length : Nat) by omega]; exact w64 (by omega)) ?_
      refine s_gt 25 rfl rfl rfl (decide_eq_false (by omega)) ?_
      refine s_as 21 rfl rfl ?_
      refine SX.next ?_
      refine CW.condF rfl ?_
      refine CW.skip ?_
      refine KN.blk ?_
      refine KN.code ?_
      refine CW.seq ?_
      refine CW.reg [0, 1, 2, 3, 4, 5, 6] rfl ?_   -- 6, binpoly.go:157
      refine s_mv 27 rfl rfl ?_
      refine s_mv 28 rfl rfl ?_
      refine s_add 29 rfl rfl rfl (r := (((bl p).length - 1 - sh : Nat) : Int)) (by rw [show ((bl p).length : Int) - 1 + -((sh : Nat) : Int) = (((bl p).length - 1 - sh : Nat) : Int) by omega]; exact w64 (by omega)) ?_
      refine s_quo 30 rfl rfl rfl (by omega) (quo8 _ (by omega)) ?_
      refine s_add 31 rfl rfl rfl (r := (((((bl p).length - 1 - sh) / 8 + 1) : Nat) : Int)) (w64 (by omega)) ?_
      refine s_make 32 (((bl p).length - 1 - sh) / 8 + 1) rfl rfl rfl rfl rfl (by omega) (fun _ _ => trivial) (fun go => ?_)
      refine s_as 7 rfl rfl ?_
      refine SX.next ?_
      refine CW.seq ?_
      refine CW.seq ?_
      refine CW.reg [0, 1, 2, 3] rfl ?_   -- 7, binpoly.go:158
      refine s_mv 33 rfl rfl ?_
      refine s_call 34 rfl rfl rfl rfl (fun w hw => bexp_spec A p.length c p w (hw.old ha) hp hn hcp) (fun _ _ => trivial) (fun q3 hq3 => ?_)
      refine SX.pre (C' := Sto w [own 5 1 (some ⟨go, 0, none⟩) (((bl p).length - 1 - sh) / 8 + 1) (((bl p).length - 1 - sh) / 8 + 1) (nats .u8 (List.replicate (((bl p).length - 1 - sh) / 8 + 1) 0)), own 3 1 q3.1 (exL (bl p)).length q3.2 (nats .i64 (exL (bl p)))]) (fun _ h => by
        have := h.blkOwnM (q := 1) (m := (((bl p).length - 1 - sh) / 8 + 1)) (c := (((bl p).length - 1 - sh) / 8 + 1)) (sz := 1) rfl (by simp) (Nat.le_refl _) (by unfold maxLen; omega)
        rw [zeros8] at this
        exact this.pick [1, 0] rfl) ?_
      refine s_len 35 rfl rfl ?_
      refine s_mv 36 rfl rfl ?_
      refine SX.next ?_
      refine CW.block ?_
      refine CW.loop (G := Nat × List Nat) (fun z => [(1, .int .i64 (-((sh : Nat) : Int))), (7, .slice (some ⟨go, 0, none⟩) (((bl p).length - 1 - sh) / 8 + 1) (((bl p).length - 1 - sh) / 8 + 1)), (34, .slice q3.1 (exL (bl p)).length q3.2), (35, .int .i64 ((exL (bl p)).length : Nat)), (36, .int .i64 (z.1 : Nat))]) (fun z => Sto w [own 5 1 (some ⟨go, 0, none⟩) (((bl p).length - 1 - sh) / 8 + 1) (((bl p).length - 1 - sh) / 8 + 1) (nats .u8 z.2), own 3 1 q3.1 (exL (bl p)).length q3.2 (nats .i64 (exL (bl p)))]) (ShG p false sh (((bl p).length - 1 - sh) / 8 + 1)) (fun z => (exL (bl p)).length - z.1) (0, List.replicate (((bl p).length - 1 - sh) / 8 + 1) 0) ⟨rfl, rfl, rfl, rfl, rfl, trivial⟩ (fun _ h => h) (ShG.start p false sh _) ?_
      rintro ⟨i, L⟩ hz2
      have hle := hz2.le
      have hlen := hz2.len
      have hlt := hz2.lt
      simp only at hle hlen hlt
      dsimp only
      have hexl : (exL (bl p)).length ≤ (bl p).length := exU_len (bl p) (bl p).length (bl p).length
      refine CW.seq ?_
      refine CW.reg [0] rfl ?_   -- 8, binpoly.go:158
      refine s_lt 37 rfl rfl rfl rfl ?_
      refine SX.next ?_
      refine CW.seq ?_
      refine CW.test rfl (fun hc => ?_) (fun hc => ?_)
      · skip
        have hi : i < (exL (bl p)).length := by omega
        have hcl : cf (exL (bl p)) i < (bl p).length := exU_lt (by omega) (cf_mem hi)
        refine CW.skip ?_
        refine KN.code ?_
        refine CW.seq ?_
        refine CW.block ?_
        refine CW.seq ?_
        refine CW.reg [0, 1, 2] rfl ?_   -- 9, binpoly.go:158
        refine s_iaO 38 1 i rfl rfl rfl rfl rfl (by omega) ?_
        refine s_ldO 39 1 rfl rfl rfl (natsAtC hi) ?_
        refine s_as 9 rfl rfl ?_
        refine SX.next ?_
        refine CW.seq ?_
        refine CW.reg [0, 1, 2, 3] rfl ?_   -- 10, binpoly.go:159
        refine s_mv 40 rfl rfl ?_
        refine s_mv 41 rfl rfl ?_
        refine s_add 42 rfl rfl rfl (r := (cf (exL (bl p)) i : Nat) + -((sh : Nat) : Int)) (w64 (by omega)) ?_
        refine s_ge 43 rfl rfl rfl rfl ?_
        refine SX.next ?_
        refine CW.test rfl (fun hc => ?_) (fun hc => ?_)
        · skip
          have hk : sh ≤ cf (exL (bl p)) i := by omega
          refine CW.regD (.st true 0 (.st true 1 (.st true 2 (.st true 3 (.st true 4 (.st true 5 (.st true 7 (.st true 8 (.st true 9 (.st true 10 (.st true 11 (.st false 6 (.st true 12 (.st true 13 (.st false 14 .done))))))))))))))) (Sto w []) mixed (by kernel_rfl) (fun _ h => h.drew) (fun _ h => h.dropR) ?_
          refine s_mv 44 rfl rfl ?_
          refine s_mv 45 rfl rfl ?_
          refine s_mv 46 rfl rfl ?_
          refine s_add 47 rfl rfl rfl (r := (((cf (exL (bl p)) i - sh) : Nat) : Int)) (subn hk (by omega)) ?_
          refine s_quo 48 rfl rfl rfl (by omega) (quo8 _ (by omega)) ?_
          refine s_iaO 49 0 ((cf (exL (bl p)) i - sh) / 8) rfl rfl rfl rfl rfl (by omega) ?_
          refine s_mv 51 rfl rfl ?_
          refine s_mv 52 rfl rfl ?_
          refine s_add 53 rfl rfl rfl (r := (((cf (exL (bl p)) i - sh) : Nat) : Int)) (subn hk (by omega)) ?_
          refine s_rem 54 rfl rfl rfl (by omega) (tmod8 _) ?_
          refine s_shl 55 rfl rfl rfl (by omega) (r := ((2 ^ ((cf (exL (bl p)) i - sh) % 8) : Nat) : Int)) (by rw [show (1 : Int) = ((1 : Nat) : Int) from rfl, shl_u8 (by omega), Nat.one_mul, Nat.mod_eq_of_lt (Nat.pow_lt_pow_right (n := 8) (by omega) (Nat.mod_lt _ (by omega)))]) ?_
          refine s_ldO 50 0 rfl rfl rfl (natsAt8 (by omega)) ?_
          refine s_bit 56 rfl rfl rfl rfl (ibit_or_u8 (cf_lt8 hlt _) (Nat.pow_lt_pow_right (n := 8) (by omega) (Nat.mod_lt _ (by omega)))) ?_
          refine s_iaO 57 0 ((cf (exL (bl p)) i - sh) / 8) rfl rfl rfl rfl rfl (by omega) ?_
          refine s_stO 0 rfl rfl rfl rfl rfl (by omega) (fun _ h => h.dropR) ?_
          refine SX.end_ ?_
          refine KN.blk ?_
          refine KN.code ?_
          refine CW.reg [0, 1] rfl ?_   -- 12, binpoly.go:158
          refine s_add 58 rfl rfl rfl (r := ((i + 1 : Nat) : Int)) (w64 (by omega)) ?_
          refine s_mv 36 rfl rfl ?_
          refine SX.end_ ?_
          exact KN.back (i + 1, (L.set ((cf (exL (bl p)) i - sh) / 8) (cf L ((cf (exL (bl p)) i - sh) / 8) ||| 2 ^ ((cf (exL (bl p)) i - sh) % 8)))) ⟨rfl, rfl, rfl, rfl, rfl, trivial⟩ (fun _ h => by simp only; rw [← nats_set]; exact h) (hz2.nextD hi hk (by omega)) (by simp only; omega)
        · skip
          have hk : cf (exL (bl p)) i < (sh) := by omega
          refine CW.skip ?_
          refine KN.blk ?_
          refine KN.code ?_
          refine CW.reg [0, 1] rfl ?_   -- 12, binpoly.go:158
          refine s_add 58 rfl rfl rfl (r := ((i + 1 : Nat) : Int)) (w64 (by omega)) ?_
          refine s_mv 36 rfl rfl ?_
          refine SX.end_ ?_
          exact KN.back (i + 1, L) ⟨rfl, rfl, rfl, rfl, rfl, trivial⟩ (fun _ h => h) (hz2.skipD hi hk) (by simp only; omega)
      · skip
        obtain rfl : i = (exL (bl p)).length := by omega
        have hdn := hz2.doneD
        refine CW.exit rfl ?_
        refine KN.code ?_
        refine CW.seq ?_
        refine CW.reg [0, 1, 2, 3] rfl ?_   -- 13, binpoly.go:163
        refine s_mv 59 rfl rfl ?_
        refine s_call 60 rfl rfl rfl rfl (fun w hw => by have := trimmed_spec (some ⟨go, 0, none⟩) (((bl p).length - 1 - sh) / 8 + 1) (((bl p).length - 1 - sh) / 8 + 1) L w ((hw.has (i := 0) rfl).of_own) hlt (by omega) (Nat.le_refl _); rw [hdn] at this; exact this) (fun _ _ => trivial) (fun q4 hq4 => ?_)
        refine s_as 4 rfl rfl ?_
        refine s_as 5 rfl rfl ?_
        refine SX.next ?_
        refine CW.ret ?_
        exact KN.ret (rs := [.tmp 4, .tmp 5]) Tryd.results16 rfl (fun w hw => ⟨q4, rfl, hq4, hw.pick [0] rfl⟩)
