/- The contracts of package binpoly: products, quotients, divisors. Conditions: the lists are bytes, read where they lie. -/
import Derived.Test.YtcjddlcinaedaaaDoorBin2
namespace Go.Proofs.YtcjddlcinaedaaaDoor
open Go Go.Lib Go.Sx Go.Fm
set_option maxRecDepth 100000
abbrev SpecBE (P : Program) (f : FuncId) (args : List Value) (w : World) (E : List Nat) : Prop :=
  SpecX P f args w (X := Option Addr × Nat) (fun q => two (.slice q.1 E.length q.2) .nilIface) (fun q => E.length ≤ q.2) (fun q => [own 5 1 q.1 E.length q.2 (nats .u8 E)])
theorem bys_nil : bys [] = [] := rfl
theorem bl_nil : bl [] = [] := rfl
theorem trim_lt8 {p : List Nat} (h : ∀ x ∈ p, x < 256) : ∀ x ∈ trim p, x < 256 := fun x hx => trim_lt h x hx
/-- Of bytes without noughts at the end the last holds the highest bit. -/
theorem bl_len_ge {p : List Nat} (h : ∀ x ∈ p, x < 256) (h0 : (trim p).length ≠ 0) : 8 * ((trim p).length - 1) < (bl p).length := by
  have ht : Tr 8 (trim p) := ⟨trim_lt8 h, trim_trim p⟩
  have h1 := deg_at (p := trim p) (i := (trim p).length - 1) (fun j hj => cf_out (by omega)) (ht.c _) (ht.top h0)
  rw [bl_trim] at h1
  have h2 := (bln_all _ (ht.c ((trim p).length - 1))).2.2.2 (ht.top h0)
  omega
theorem bl_zero {p : List Nat} (h : ∀ x ∈ p, x < 256) (h0 : (trim p).length = 0) : bl p = [] := by
  rw [← bl_trim, List.eq_nil_of_length_eq_zero h0]
  rfl
/-- What the product's loop keeps. -/
structure BmG (p q : List Nat) (N : Nat) (z : Nat × List Nat) : Prop where
  le : z.1 ≤ (exL (bl p)).length
  len : z.2.length = N
  lt : ∀ x ∈ z.2, x < 256
  bit : ∀ j, bitN z.2 j = SS ((exL (bl p)).take z.1) (bl q) j
theorem zeros8 (N : Nat) : ((List.replicate N (Value.int .u8 0)).toArray.toList.take (N * 1)) = nats .u8 (List.replicate N 0) := by simp [nats]
theorem zeros_lt (N : Nat) : ∀ x ∈ List.replicate N 0, x < 256 := fun x hx => by rw [(List.mem_replicate.1 hx).2]; omega
theorem zeros_bit (N j : Nat) : bitN (List.replicate N 0) j = 0 := bitN_zero (by unfold cf; simp only [List.getD_eq_getElem?_getD]; rw [List.getElem?_replicate]; split <;> rfl)
theorem BmG.start (p q : List Nat) (N : Nat) : BmG p q N (0, List.replicate N 0) := ⟨Nat.zero_le _, by simp, zeros_lt N, fun j => zeros_bit N j⟩
theorem cf_mem {l : List Nat} {i : Nat} (h : i < l.length) : cf l i ∈ l := List.mem_of_getElem? (cf_in h)
theorem take_cf {l : List Nat} {i : Nat} (h : i < l.length) : l.take (i + 1) = l.take i ++ [cf l i] := by
  rw [List.take_add_one, cf_in h]
  rfl
theorem BmG.next {p q L L2 : List Nat} {N i : Nat} (h : BmG p q N (i, L)) (hi : i < (exL (bl p)).length) (h2 : L2.length = L.length ∧ (∀ x ∈ L2, x < 256) ∧ ∀ j, bitN L2 j = bitN L j ^^^ (if cf (exL (bl p)) i ≤ j then bitN (trim q) (j - cf (exL (bl p)) i) else 0)) : BmG p q N (i + 1, L2) := by
  refine ⟨hi, h2.1.trans h.len, h2.2.1, fun j => ?_⟩
  simp only
  rw [h2.2.2, h.bit, take_cf hi, SS_snoc]
  congr 1
  split
  · rw [← cf_bl, bl_trim]
  · rfl
theorem BmG.done {p q L : List Nat} {N : Nat} (h : BmG p q N ((exL (bl p)).length, L)) : trim L = bys (mulP 3 (bl p) (bl q)) :=
  bys_of h.lt (mulP_b1 (bl_b1 p) (bl_b1 q)) (fun j => by
    rw [h.bit]
    simp only
    rw [List.take_length, SS_exL (bl_b1 p) (bl_b1 q)])

theorem bmul_spec (A : Option Addr) (n c : Nat) (p : List Nat) (A2 : Option Addr) (n2 c2 : Nat) (p2 : List Nat) (w : World) (ha : Has (sl 1 A n (nats .u8 p)) w) (hp : ∀ x ∈ p, x < 256) (hn : n ≤ 1073741824) (hcp : n ≤ c) (ha2 : Has (sl 1 A2 n2 (nats .u8 p2)) w) (hp2 : ∀ x ∈ p2, x < 256) (hn2 : n2 ≤ 1073741824) (hcp2 : n2 ≤ c2) (hsm : (bl p).length + (bl p2).length ≤ 4098) : SpecBE Tryd.prog 51 [.slice A n c, .slice A2 n2 c2] w (bys (mulP 3 (bl p) (bl p2))) := by
  have hla := nats_len ha
  subst hla
  have hla2 := nats_len ha2
  subst hla2
  have ht1 := tl_le p
  have ht2 := tl_le p2
  have hl1 := trim_length p
  have hl2 := trim_length p2
  have h81 := trim_lt8 hp
  have h82 := trim_lt8 hp2
  have hbl1 := bl_len p
  have hbl2 := bl_len p2
  have hbt1 := bl_len (trim p)
  rw [bl_trim] at hbt1
  have hbt2 := bl_len (trim p2)
  rw [bl_trim] at hbt2
  refine spec_of Tryd.func51 rfl Tryd.ntmps51 rfl ?_
  refine CW.seq ?_
  refine CW.reg [0, 1] rfl ?_   -- 0, binpoly.go:108
  refine s_as 4 rfl rfl ?_
  refine s_as 5 rfl rfl ?_
  refine SX.next ?_
  refine CW.seq ?_
  refine CW.reg [0, 1, 2, 3, 4, 5] rfl ?_   -- 1, binpoly.go:109
  refine s_mv 9 rfl rfl ?_
  refine s_call 10 rfl rfl rfl rfl (fun w hw => trimmed_spec A p.length c p w (hw.old ha) hp hn hcp) (fun _ _ => trivial) (fun q1 hq1 => ?_)
  refine s_mv 11 rfl rfl ?_
  refine s_call 12 rfl rfl rfl rfl (fun w hw => trimmed_spec A2 p2.length c2 p2 w (hw.old ha2) hp2 hn2 hcp2) (fun _ _ => trivial) (fun q2 hq2 => ?_)
  refine s_as 0 rfl rfl ?_
  refine s_as 1 rfl rfl ?_
  refine SX.next ?_
  refine CW.seq ?_
  refine CW.seq ?_
  refine CW.reg [0, 1, 2, 3, 4, 5, 6, 7] rfl ?_   -- 2, binpoly.go:110
  refine s_mv 13 rfl rfl ?_
  refine s_len 14 rfl rfl ?_
  refine s_eq 15 rfl rfl rfl rfl ?_
  refine s_mv 16 rfl rfl ?_
  refine SX.bool 16 rfl (fun hb => ?_) (fun hb => ?_)
  · skip
    replace hb := of_decide_eq_true hb
    have hz : bys (mulP 3 (bl p) (bl p2)) = [] := by rw [bl_zero hp (by omega), mulP_nil_l]; rfl
    refine SX.skip rfl ?_
    refine SX.skip rfl ?_
    refine SX.skip rfl ?_
    refine s_pickT 20 rfl rfl rfl ?_
    refine SX.next ?_
    refine CW.condT rfl ?_
    refine CW.seq ?_
    refine CW.reg [0, 1] rfl ?_   -- 3, binpoly.go:111
    refine s_as 4 rfl rfl ?_
    refine s_as 5 rfl rfl ?_
    refine SX.next ?_
    refine CW.ret ?_
    exact KN.ret (rs := [.tmp 4, .tmp 5]) Tryd.results51 rfl (fun w hw => ⟨(none, 0), by rw [hz]; rfl, by rw [hz]; exact Nat.le_refl _, by rw [hz]; exact (hw.pick [] rfl).begin_ _ 1⟩)
  · skip
    replace hb := of_decide_eq_false hb
    refine s_mv 17 rfl rfl ?_
    refine s_len 18 rfl rfl ?_
    refine s_eq 19 rfl rfl rfl rfl ?_
    refine s_pickF 20 rfl rfl rfl ?_
    refine SX.next ?_
    refine CW.test rfl (fun hc2 => ?_) (fun hc2 => ?_)
    · skip
      have hz : bys (mulP 3 (bl p) (bl p2)) = [] := by rw [bl_zero hp2 (by omega), mulP_nil_r]; rfl
      refine CW.seq ?_
      refine CW.reg [0, 1] rfl ?_   -- 3, binpoly.go:111
      refine s_as 4 rfl rfl ?_
      refine s_as 5 rfl rfl ?_
      refine SX.next ?_
      refine CW.ret ?_
      exact KN.ret (rs := [.tmp 4, .tmp 5]) Tryd.results51 rfl (fun w hw => ⟨(none, 0), by rw [hz]; rfl, by rw [hz]; exact Nat.le_refl _, by rw [hz]; exact (hw.pick [] rfl).begin_ _ 1⟩)
    · skip
      have hge1 := bl_len_ge hp (by omega)
      have hge2 := bl_len_ge hp2 (by omega)
      refine CW.skip ?_
      refine KN.code ?_
      refine CW.seq ?_
      refine CW.seq ?_
      refine CW.reg [0, 1, 2, 3, 4, 5] rfl ?_   -- 4, binpoly.go:113
      refine s_mv 21 rfl rfl ?_
      refine s_call1 22 rfl rfl rfl rfl (v := .int .i64 ((bl p).length - 1 : Int)) (fun w hw => by have := bdeg_spec q1.1 (trim p).length q1.2 (trim p) w ((hw.has (i := 1) rfl).of_own) h81 (by omega) hq1; rw [bl_trim] at this; exact this) (fun _ _ => trivial) ?_
      refine s_mv 23 rfl rfl ?_
      refine s_call1 24 rfl rfl rfl rfl (v := .int .i64 ((bl p2).length - 1 : Int)) (fun w hw => by have := bdeg_spec q2.1 (trim p2).length q2.2 (trim p2) w ((hw.has (i := 0) rfl).of_own) h82 (by omega) hq2; rw [bl_trim] at this; exact this) (fun _ _ => trivial) ?_
      refine s_add 25 rfl rfl rfl (w64 (by omega)) ?_
      refine s_gt 26 rfl rfl rfl (decide_eq_false (by omega)) ?_
      refine SX.next ?_
      refine CW.condF rfl ?_
      refine CW.skip ?_
      refine KN.code ?_
      refine CW.seq ?_
      refine CW.reg [0, 1, 2, 3, 4, 5, 6, 7] rfl ?_   -- 6, binpoly.go:116
      refine s_mv 28 rfl rfl ?_
      refine s_len 29 rfl rfl ?_
      refine s_mv 30 rfl rfl ?_
      refine s_len 31 rfl rfl ?_
      refine s_add 32 rfl rfl rfl (w64 (by omega)) ?_
      refine s_add 33 rfl rfl rfl (r := ((((trim p).length + (trim p2).length + 1) : Nat) : Int)) (by rw [show ((trim p).length : Int) + (trim p2).length + 1 = ((((trim p).length + (trim p2).length + 1) : Nat) : Int) by omega]; exact w64 (by omega)) ?_
      refine s_make 34 ((trim p).length + (trim p2).length + 1) rfl rfl rfl rfl rfl (by omega) (fun _ _ => trivial) (fun go => ?_)
      refine s_as 6 rfl rfl ?_
      refine SX.next ?_
      refine CW.seq ?_
      refine CW.seq ?_
      refine CW.reg [0, 1, 2, 3] rfl ?_   -- 7, binpoly.go:117
      refine s_mv 35 rfl rfl ?_
      refine s_call 36 rfl rfl rfl rfl (fun w hw => by have := bexp_spec q1.1 (trim p).length q1.2 (trim p) w ((hw.has (i := 2) rfl).of_own) h81 (by omega) hq1; rw [bl_trim] at this; exact this) (fun _ _ => trivial) (fun q3 hq3 => ?_)
      refine SX.pre (fun _ h => h.blkOwnM (q := 1) (m := ((trim p).length + (trim p2).length + 1)) (c := ((trim p).length + (trim p2).length + 1)) (sz := 1) rfl (by simp) (Nat.le_refl _) (by unfold maxLen; omega)) ?_
      refine s_len 37 rfl rfl ?_
      refine s_mv 38 rfl rfl ?_
      refine SX.next ?_
      refine CW.block ?_
      refine CW.loop (G := Nat × List Nat) (fun z => [(1, .slice q2.1 (trim p2).length q2.2), (6, .slice (some ⟨go, 0, none⟩) ((trim p).length + (trim p2).length + 1) ((trim p).length + (trim p2).length + 1)), (36, .slice q3.1 (exL (bl p)).length q3.2), (37, .int .i64 ((exL (bl p)).length : Nat)), (38, .int .i64 (z.1 : Nat))]) (fun z => Sto w [own 5 1 (some ⟨go, 0, none⟩) ((trim p).length + (trim p2).length + 1) ((trim p).length + (trim p2).length + 1) (nats .u8 z.2), own 5 1 q2.1 (trim p2).length q2.2 (nats .u8 (trim p2)), own 3 1 q3.1 (exL (bl p)).length q3.2 (nats .i64 (exL (bl p)))]) (BmG p p2 ((trim p).length + (trim p2).length + 1)) (fun z => (exL (bl p)).length - z.1) (0, List.replicate ((trim p).length + (trim p2).length + 1) 0) ⟨rfl, rfl, rfl, rfl, rfl, trivial⟩ (fun _ h => by rw [zeros8] at h; exact h.pick [1, 1, 0] rfl) (BmG.start p p2 _) ?_
      rintro ⟨i, L⟩ hz
      have hle := hz.le
      have hlen := hz.len
      have hlt := hz.lt
      simp only at hle hlen hlt
      dsimp only
      have hexl : (exL (bl p)).length ≤ (bl p).length := exU_len (bl p) (bl p).length (bl p).length
      refine CW.seq ?_
      refine CW.reg [0] rfl ?_   -- 8, binpoly.go:117
      refine s_lt 39 rfl rfl rfl rfl ?_
      refine SX.next ?_
      refine CW.seq ?_
      refine CW.test rfl (fun hc => ?_) (fun hc => ?_)
      · skip
        have hi : i < (exL (bl p)).length := by omega
        have hcl : cf (exL (bl p)) i < (bl p).length := exU_lt (by omega) (cf_mem hi)
        refine CW.skip ?_
        refine KN.code ?_
        refine CW.seq ?_
        refine CW.block ?_
        refine CW.seq ?_
        refine CW.reg [0, 1, 2] rfl ?_   -- 9, binpoly.go:117
        refine s_iaO 40 2 i rfl rfl rfl rfl rfl (by omega) ?_
        refine s_ldO 41 2 rfl rfl rfl (natsAtC hi) ?_
        refine s_as 8 rfl rfl ?_
        refine SX.next ?_
        refine CW.reg [0, 1, 2, 3] rfl ?_   -- 10, binpoly.go:118
        refine s_mv 42 rfl rfl ?_
        refine s_mv 43 rfl rfl ?_
        refine s_mv 44 rfl rfl ?_
        refine s_callM 45 (v := fun _ => oneOf []) (L' := fun o' => [own 5 1 (some ⟨go, 0, none⟩) ((trim p).length + (trim p2).length + 1) ((trim p).length + (trim p2).length + 1) (nats .u8 o'), own 5 1 q2.1 (trim p2).length q2.2 (nats .u8 (trim p2)), own 3 1 q3.1 (exL (bl p)).length q3.2 (nats .i64 (exL (bl p)))]) rfl rfl rfl rfl (fun w hw => by have := into_spec _ _ w [own 3 1 q3.1 (exL (bl p)).length q3.2 (nats .i64 (exL (bl p)))] (some ⟨go, 0, none⟩) ((trim p).length + (trim p2).length + 1) L q2.1 q2.2 (trim p2) (cf (exL (bl p)) i) hlt h82 (by omega) (by omega) (by rw [hlen]; exact hw); rw [hlen] at this; exact this) (fun _ _ _ => trivial) (fun L2 hL2 => ?_)
        refine SX.end_ ?_
        refine KN.blk ?_
        refine KN.code ?_
        refine CW.reg [0, 1] rfl ?_   -- 11, binpoly.go:117
        refine s_add 46 rfl rfl rfl (r := ((i + 1 : Nat) : Int)) (w64 (by omega)) ?_
        refine s_mv 38 rfl rfl ?_
        refine SX.end_ ?_
        exact KN.back (i + 1, L2) ⟨rfl, rfl, rfl, rfl, rfl, trivial⟩ (fun _ h => h) (hz.next hi ⟨hL2.1.trans hlen.symm, hL2.2⟩) (by simp only; omega)
      · skip
        obtain rfl : i = (exL (bl p)).length := by omega
        have hdn := hz.done
        refine CW.exit rfl ?_
        refine KN.code ?_
        refine CW.seq ?_
        refine CW.reg [0, 1, 2, 3] rfl ?_   -- 12, binpoly.go:120
        refine s_mv 47 rfl rfl ?_
        refine s_call 48 rfl rfl rfl rfl (fun w hw => by have := trimmed_spec (some ⟨go, 0, none⟩) ((trim p).length + (trim p2).length + 1) ((trim p).length + (trim p2).length + 1) L w ((hw.has (i := 0) rfl).of_own) hlt (by omega) (Nat.le_refl _); rw [hdn] at this; exact this) (fun _ _ => trivial) (fun q4 hq4 => ?_)
        refine s_as 4 rfl rfl ?_
        refine s_as 5 rfl rfl ?_
        refine SX.next ?_
        refine CW.ret ?_
        exact KN.ret (rs := [.tmp 4, .tmp 5]) Tryd.results51 rfl (fun w hw => ⟨q4, rfl, hq4, hw.pick [0] rfl⟩)
