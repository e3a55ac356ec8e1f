/- The contracts of package binpoly: quotients and common divisors. Conditions: the lists are bytes, read where they lie. -/
import Derived.Test.YtcjddlcinaedaaaDoorBin7
namespace Go.Proofs.YtcjddlcinaedaaaDoor
open Go Go.Lib Go.Sx Go.Fm
set_option maxRecDepth 100000
/-- What the division's loop keeps. -/
structure BdG (p q : List Nat) (z : List Nat × List Nat) : Prop where
  l1 : z.1.length = p.length + 1
  b1 : ∀ x ∈ z.1, x < 256
  l2 : z.2.length = p.length + 1
  b2 : ∀ x ∈ z.2, x < 256
  le : (bl z.1).length ≤ (bl p).length
  lo : ∀ j, j + (bl q).length ≤ (bl z.1).length → cf (bl z.2) j = 0
  eq : addP (mulP 3 (bl z.2) (bl q)) (bl z.1) = bl p
theorem bl_app (p : List Nat) : bl (p ++ [0]) = bl p := (bl_b1 _).tr.ext (bl_b1 _).tr (fun j => by rw [cf_bl, cf_bl, bitN_app])
theorem bl_zeros (n : Nat) : bl (List.replicate n 0) = [] := (bl_b1 _).tr.nil_of (fun j => by rw [cf_bl, zeros_bit])
theorem app_lt {p : List Nat} (h : ∀ x ∈ p, x < 256) : ∀ x ∈ p ++ [0], x < 256 := fun x hx => by
  rcases List.mem_append.1 hx with hx | hx
  · exact h x hx
  · simp at hx; omega
theorem BdG.start {p : List Nat} (hp : ∀ x ∈ p, x < 256) (q : List Nat) : BdG p q (p ++ [0], List.replicate (p.length + 1) 0) := by
  refine ⟨by simp, app_lt hp, by simp, zeros_lt _, by simp only; rw [bl_app]; exact Nat.le_refl _, fun j _ => by simp only; rw [bl_zeros, cf_nil], ?_⟩
  simp only
  rw [bl_zeros, mulP_nil_l, nil_addP ok3 (bl_b1 _).tr, bl_app]
set_option maxHeartbeats 1600000 in
theorem BdG.next {p q L Q L2 : List Nat} {s : Nat} (h : BdG p q (L, Q)) (h0 : (bl q).length ≠ 0) (hs : s + (bl q).length = (bl L).length) (hs2 : s / 8 < Q.length)
    (h2 : L2.length = L.length ∧ (∀ x ∈ L2, x < 256) ∧ ∀ j, bitN L2 j = bitN L j ^^^ (if s ≤ j then bitN (trim q) (j - s) else 0)) :
    BdG p q (L2, Q.set (s / 8) (cf Q (s / 8) ||| 2 ^ (s % 8))) ∧ (bl L2).length < (bl L).length := by
  obtain ⟨k1, k2, k3, k4, k5, k6, k7⟩ := h
  simp only at k1 k2 k3 k4 k5 k6 k7
  have hq := bl_b1 q
  have hl := bl_b1 L
  have hQ := bl_b1 Q
  have eL : bl L2 = addP (bl L) (upP s (bl q)) := (bl_b1 _).tr.ext (addP_b1 hl (upP_b1 hq s)).tr (fun j => by
    rw [cf_bl, h2.2.2, cf_addP, cf_upP, cf_bl]
    congr 1
    split
    · rw [← cf_bl, bl_trim]
    · rfl)
  have eQ : bl (Q.set (s / 8) (cf Q (s / 8) ||| 2 ^ (s % 8))) = addP (bl Q) (xP s) := (bl_b1 _).tr.ext (addP_b1 hQ (xP_b1 s)).tr (fun j => by
    rw [cf_bl, bitN_or hs2, cf_addP, cf_xP]
    by_cases hj : j = s
    · subst hj
      rw [if_pos rfl, if_pos rfl, k6 j (by omega)]
      rfl
    · rw [if_neg hj, if_neg hj, Nat.xor_zero, cf_bl])
  have hlen : (bl L2).length ≤ (bl L).length - 1 := len_le_of (bl_b1 L2).tr (fun j hj => by
    rw [eL, cf_addP, cf_upP]
    by_cases he : j = (bl L).length - 1
    · subst he
      rw [hl.top (by omega), if_pos (by omega), show (bl L).length - 1 - s = (bl q).length - 1 by omega, hq.top h0]
      rfl
    · rw [cf_out (l := bl L) (by omega)]
      split
      · rw [cf_out (by omega)]; rfl
      · rfl)
  refine ⟨⟨by simp only; rw [h2.1, k1], h2.2.1, by simp only; rw [List.length_set, k3], set_lt k4 (or8 (cf_lt8 k4 _) (Nat.mod_lt _ (by omega))), by simp only; omega, fun j hj => ?_, ?_⟩, by omega⟩
  · simp only at hj ⊢
    rw [eQ, cf_addP, cf_xP, if_neg (by omega), k6 j (by omega)]
    rfl
  · simp only
    rw [eQ, eL, mulP_add_left ok3 hQ.tr (xP_b1 s).tr hq.tr, mulP_comm ok3 (xP_b1 s).tr hq.tr, mul_xP hq s, ← k7]
    refine (addP_tr ok3 (addP_tr ok3 (mulP_tr ok3 hQ.tr hq.tr) (upP_b1 hq s).tr) (addP_tr ok3 hl.tr (upP_b1 hq s).tr)).ext (addP_tr ok3 (mulP_tr ok3 hQ.tr hq.tr) hl.tr) (fun j => ?_)
    simp only [cf_addP]
    generalize cf (mulP 3 (bl Q) (bl q)) j = x
    generalize cf (upP s (bl q)) j = y
    generalize cf (bl L) j = z
    rw [Nat.xor_assoc, Nat.xor_comm z y, xcc]
theorem trim_bys {l : List Nat} (h : ∀ x ∈ l, x < 256) : trim l = bys (bl l) := bys_of h (bl_b1 l) (fun j => (cf_bl l j).symm)
theorem BdG.done {p q L Q : List Nat} (h : BdG p q (L, Q)) (h0 : (bl q).length ≠ 0) (hl : (bl L).length < (bl q).length) : trim Q = bys (quotP 3 (bl p) (bl q)) ∧ trim L = bys (restP 3 (bl p) (bl q)) := by
  obtain ⟨e1, e2⟩ := div_uniq ok3 (bl_b1 p).tr (bl_b1 q).tr h0 (bl_b1 Q).tr (bl_b1 L).tr hl h.eq
  exact ⟨by rw [← e1]; exact trim_bys h.b2, by rw [← e2]; exact trim_bys h.b1⟩
abbrev SpecBB (P : Program) (f : FuncId) (args : List Value) (w : World) (E G : List Nat) : Prop :=
  SpecX P f args w (X := (Option Addr × Nat) × (Option Addr × Nat)) (fun q => .tuple #[.slice q.1.1 E.length q.1.2, .slice q.2.1 G.length q.2.2, .nilIface]) (fun q => E.length ≤ q.1.2 ∧ G.length ≤ q.2.2)
    (fun q => [own 5 1 q.2.1 G.length q.2.2 (nats .u8 G), own 5 1 q.1.1 E.length q.1.2 (nats .u8 E)])
theorem nz_trim {q : List Nat} (hq : ∀ x ∈ q, x < 256) (h0 : (bl q).length ≠ 0) : (trim q).length ≠ 0 := fun h => h0 (by rw [bl_zero hq h]; rfl)

theorem bdiv_spec (A : Option Addr) (n c : Nat) (p : List Nat) (A2 : Option Addr) (n2 c2 : Nat) (p2 : List Nat) (w : World) (ha : Has (sl 1 A n (nats .u8 p)) w) (hp : ∀ x ∈ p, x < 256) (hn : n ≤ 1073741824) (hcp : n ≤ c) (ha2 : Has (sl 1 A2 n2 (nats .u8 p2)) w) (hp2 : ∀ x ∈ p2, x < 256) (hn2 : n2 ≤ 1073741824) (hcp2 : n2 ≤ c2) (h0 : (bl p2).length ≠ 0) (hsz : n ≤ 2000000) : SpecBB Tryd.prog 48 [.slice A n c, .slice A2 n2 c2] w (bys (quotP 3 (bl p) (bl p2))) (bys (restP 3 (bl p) (bl p2))) := by
  have hla := nats_len ha
  subst hla
  have hla2 := nats_len ha2
  subst hla2
  have hnz := nz_trim hp2 h0
  have h82 := trim_lt8 hp2
  have ht2 := tl_le p2
  have hl2 := trim_length p2
  have hge := bl_len_ge hp2 hnz
  have hbl1 := bl_len p
  have hbl2 := bl_len p2
  refine spec_of Tryd.func48 rfl Tryd.ntmps48 rfl ?_
  refine CW.seq ?_
  refine CW.reg [0, 1, 2] rfl ?_   -- 0, binpoly.go:124
  refine s_as 4 rfl rfl ?_
  refine s_as 5 rfl rfl ?_
  refine s_as 6 rfl rfl ?_
  refine SX.next ?_
  refine CW.seq ?_
  refine CW.reg [0, 1, 2] rfl ?_   -- 1, binpoly.go:125
  refine s_mv 11 rfl rfl ?_
  refine s_call 12 rfl rfl rfl rfl (fun w hw => trimmed_spec A2 p2.length c2 p2 w (hw.old ha2) hp2 hn2 hcp2) (fun _ _ => trivial) (fun q2 hq2 => ?_)
  refine s_as 1 rfl rfl ?_
  refine SX.next ?_
  refine CW.seq ?_
  refine CW.seq ?_
  refine CW.reg [0, 1, 2] rfl ?_   -- 2, binpoly.go:126
  refine s_mv 13 rfl rfl ?_
  refine s_len 14 rfl rfl ?_
  refine s_eq 15 rfl rfl rfl (decide_eq_false (by omega)) ?_
  refine SX.next ?_
  refine CW.condF rfl ?_
  refine CW.skip ?_
  refine KN.code ?_
  refine CW.seq ?_
  refine CW.reg [0, 1, 2, 3, 4] rfl ?_   -- 4, binpoly.go:129
  refine s_mv 17 rfl rfl ?_
  refine s_app0 18 (m2 := p.length) rfl rfl rfl (ys := nats .u8 p) (fun w hw => hw.old ha) (nats_one _ _) rfl (by omega) (by unfold maxLen; omega) (by omega) (fun _ _ _ _ => trivial) (fun A4 c4 hc4 => ?_)
  refine s_bsl 19 rfl rfl (cells := #[.int .u8 0]) (by kernel_rfl) rfl (fun _ _ => trivial) (fun gb => ?_)
  refine s_app 20 1 rfl rfl rfl rfl (ys := [.int .u8 0]) (fun w hw => Has.cong ((hw.has (i := 0) rfl).blk_sl (m := 1) rfl) rfl) rfl rfl (by omega) (by unfold maxLen; omega) (by omega) (fun _ _ _ _ => trivial) (fun A5 c5 hc5 => ?_)
  refine SX.pre (C' := Sto w [own 5 1 A5 (p.length + 1) c5 (nats .u8 (p ++ [0])), own 5 1 q2.1 (trim p2).length q2.2 (nats .u8 (trim p2))]) (fun _ h => by rw [nats8_snoc] at h; exact h.pick [1, 1] rfl) ?_
  refine s_as 7 rfl rfl ?_
  refine SX.next ?_
  refine CW.seq ?_
  refine CW.regD (.st true 0 (.st true 2 (.st true 3 (.st true 4 (.alt 1 (.st true 6 (.st false 5 (.st true 7 .done))) (.st false 5 (.st false 1 (.st true 6 (.st true 7 .done))))))))) (Sto w [own 5 1 A5 (p.length + 1) c5 (nats .u8 (p ++ [0])), own 5 1 q2.1 (trim p2).length q2.2 (nats .u8 (trim p2))]) mixed (by kernel_rfl) (fun _ h => h.drew) (fun _ h => h) ?_
  refine s_mv 21 rfl rfl ?_
  refine s_mv 23 rfl rfl ?_
  refine s_len 24 rfl rfl ?_
  refine s_add 25 rfl rfl rfl (r := (((p.length + 1) : Nat) : Int)) (w64 (by omega)) ?_
  refine SX.alt ?_ ?_
  · skip
    refine s_call1 22 rfl rfl rfl rfl (v := .int .i64 ((bl p2).length - 1 : Int)) (fun w hw => by have := bdeg_spec q2.1 (trim p2).length q2.2 (trim p2) w (by first | exact (hw.has (i := 1) rfl).of_own | exact (hw.has (i := 2) rfl).of_own) h82 (by omega) hq2; rw [bl_trim] at this; exact this) (fun _ h => by first | exact h | exact h.tail) ?_
    refine s_as 8 rfl rfl ?_
    refine s_make 26 (p.length + 1) rfl rfl rfl rfl rfl (by omega) (fun _ h => h) (fun go => ?_)
    refine s_as 9 rfl rfl ?_
    refine SX.next ?_
    refine CW.seq ?_
    refine CW.seq ?_
    refine CW.pre (C' := Sto w [own 5 1 A5 (p.length + 1) c5 (nats .u8 (p ++ [0])), own 5 1 q2.1 (trim p2).length q2.2 (nats .u8 (trim p2)), own 5 1 (some ⟨go, 0, none⟩) (p.length + 1) (p.length + 1) (nats .u8 (List.replicate (p.length + 1) 0))]) (fun _ h => by
      have := h.blkOwnM (q := 0) (m := (p.length + 1)) (c := (p.length + 1)) (sz := 1) rfl (by simp) (Nat.le_refl _) (by unfold maxLen; omega)
      rw [zeros8] at this
      exact this.pick [1, 1, 0] rfl) ?_
    have hst := BdG.start hp p2
    have hb0 := bl_app p
    refine CW.reg [0, 1, 2, 3, 4] rfl ?_   -- 6, binpoly.go:131
    refine s_mv 27 rfl rfl ?_
    refine s_call1 28 rfl rfl rfl rfl (fun w hw => bdeg_spec A5 (p.length + 1) c5 (p ++ [0]) w ((hw.has (i := 0) rfl).of_own) (app_lt hp) (by omega) (by omega)) (fun _ _ => trivial) ?_
    refine s_mv 29 rfl rfl ?_
    refine s_sub 30 rfl rfl rfl (r := ((bl (p ++ [0])).length : Nat) - ((bl p2).length : Nat)) (by rw [hb0, show (((bl p).length : Nat) : Int) - 1 - (((bl p2).length : Nat) - 1) = ((bl p).length : Nat) - ((bl p2).length : Nat) by omega]; exact w64 (by omega)) ?_
    refine s_as 10 rfl rfl ?_
    refine SX.next ?_
    refine CW.block ?_
    refine CW.loop (G := List Nat × List Nat) (fun z => [(1, .slice q2.1 (trim p2).length q2.2), (7, .slice A5 (p.length + 1) c5), (8, .int .i64 ((bl p2).length - 1 : Int)), (9, .slice (some ⟨go, 0, none⟩) (p.length + 1) (p.length + 1)), (10, .int .i64 (((bl z.1).length : Nat) - ((bl p2).length : Nat)))]) (fun z => Sto w [own 5 1 A5 (p.length + 1) c5 (nats .u8 z.1), own 5 1 q2.1 (trim p2).length q2.2 (nats .u8 (trim p2)), own 5 1 (some ⟨go, 0, none⟩) (p.length + 1) (p.length + 1) (nats .u8 z.2)]) (BdG p p2) (fun z => (bl z.1).length) (p ++ [0], List.replicate (p.length + 1) 0) ⟨rfl, rfl, rfl, rfl, rfl, trivial⟩ (fun _ h => h) hst ?_
    rintro ⟨L, Q⟩ hz
    have hz1 := hz.l1
    have hz2 := hz.l2
    have hz3 := hz.b1
    have hz4 := hz.b2
    have hz5 := hz.le
    simp only at hz1 hz2 hz3 hz4 hz5
    dsimp only
    refine CW.seq ?_
    refine CW.seq ?_
    refine CW.reg [0, 1] rfl ?_   -- 7, binpoly.go:131
    refine s_mv 31 rfl rfl ?_
    refine s_ge 32 rfl rfl rfl rfl ?_
    refine SX.next ?_
    refine CW.test rfl (fun hc => ?_) (fun hc => ?_)
    · skip
      have hs : ((bl L).length - (bl p2).length) + (bl p2).length = (bl L).length := by omega
      have hs8 : ((bl L).length - (bl p2).length) / 8 < Q.length := by omega
      refine CW.skip ?_
      refine KN.code ?_
      refine CW.seq ?_
      refine CW.block ?_
      refine CW.seq ?_
      refine CW.regD (.st true 0 (.st true 1 (.st true 2 (.st true 3 (.st true 5 (.st true 6 (.st true 7 (.st false 4 (.st true 8 (.st true 9 (.st false 10 .done))))))))))) (Sto w []) mixed (by kernel_rfl) (fun _ h => h.drew) (fun _ h => h.dropR) ?_
      refine s_mv 40 rfl rfl ?_
      refine s_mv 41 (v := .int .i64 (((bl L).length - (bl p2).length) : Nat)) rfl (by rw [show ((((bl L).length - (bl p2).length) : Nat) : Int) = ((bl L).length : Nat) - ((bl p2).length : Nat) by omega]; rfl) ?_
      refine s_quo 42 rfl rfl rfl (by omega) (quo8 ((bl L).length - (bl p2).length) (by omega)) ?_
      refine s_iaO 43 2 (((bl L).length - (bl p2).length) / 8) rfl rfl rfl rfl rfl (by omega) ?_
      refine s_mv 45 (v := .int .i64 (((bl L).length - (bl p2).length) : Nat)) rfl (by rw [show ((((bl L).length - (bl p2).length) : Nat) : Int) = ((bl L).length : Nat) - ((bl p2).length : Nat) by omega]; rfl) ?_
      refine s_rem 46 rfl rfl rfl (by omega) (tmod8 ((bl L).length - (bl p2).length)) ?_
      refine s_shl 47 rfl rfl rfl (by omega) (r := ((2 ^ (((bl L).length - (bl p2).length) % 8) : Nat) : Int)) (by rw [show (1 : Int) = ((1 : Nat) : Int) from rfl, shl_u8 (by omega), Nat.one_mul, Nat.mod_eq_of_lt (Nat.pow_lt_pow_right (n := 8) (by omega) (Nat.mod_lt _ (by omega)))]) ?_
      refine s_ldO 44 2 rfl rfl rfl (natsAt8 hs8) ?_
      refine s_bit 48 rfl rfl rfl rfl (ibit_or_u8 (cf_lt8 hz4 _) (Nat.pow_lt_pow_right (n := 8) (by omega) (Nat.mod_lt _ (by omega)))) ?_
      refine s_iaO 49 2 (((bl L).length - (bl p2).length) / 8) rfl rfl rfl rfl rfl (by omega) ?_
      refine s_stO 2 rfl rfl rfl rfl rfl (by omega) (fun _ h => h.dropR) ?_
      refine SX.next ?_
      refine CW.pre (C' := Sto w [own 5 1 A5 (p.length + 1) c5 (nats .u8 L), own 5 1 q2.1 (trim p2).length q2.2 (nats .u8 (trim p2)), own 5 1 (some ⟨go, 0, none⟩) (p.length + 1) (p.length + 1) (nats .u8 (Q.set (((bl L).length - (bl p2).length) / 8) (cf Q (((bl L).length - (bl p2).length) / 8) ||| 2 ^ (((bl L).length - (bl p2).length) % 8))))]) (fun _ h => by rw [← nats_set]; exact h) ?_
      refine CW.reg [0, 1, 2, 3] rfl ?_   -- 10, binpoly.go:133
      refine s_mv 50 rfl rfl ?_
      refine s_mv 51 rfl rfl ?_
      refine s_mv 52 (v := .int .i64 (((bl L).length - (bl p2).length) : Nat)) rfl (by rw [show ((((bl L).length - (bl p2).length) : Nat) : Int) = ((bl L).length : Nat) - ((bl p2).length : Nat) by omega]; rfl) ?_
      refine s_callM 53 (v := fun _ => oneOf []) (L' := fun o' => [own 5 1 A5 (p.length + 1) c5 (nats .u8 o'), own 5 1 q2.1 (trim p2).length q2.2 (nats .u8 (trim p2)), own 5 1 (some ⟨go, 0, none⟩) (p.length + 1) (p.length + 1) (nats .u8 (Q.set (((bl L).length - (bl p2).length) / 8) (cf Q (((bl L).length - (bl p2).length) / 8) ||| 2 ^ (((bl L).length - (bl p2).length) % 8))))]) rfl rfl rfl rfl (fun w hw => by have := into_spec _ _ w [own 5 1 (some ⟨go, 0, none⟩) (p.length + 1) (p.length + 1) (nats .u8 (Q.set (((bl L).length - (bl p2).length) / 8) (cf Q (((bl L).length - (bl p2).length) / 8) ||| 2 ^ (((bl L).length - (bl p2).length) % 8))))] A5 c5 L q2.1 q2.2 (trim p2) ((bl L).length - (bl p2).length) hz3 h82 (by omega) (by omega) (by rw [hz1]; exact hw); rw [hz1] at this; exact this) (fun _ _ _ => trivial) (fun L2 hL2 => ?_)
      obtain ⟨hnx, hlt2⟩ := hz.next h0 hs hs8 ⟨hL2.1.trans hz1.symm, hL2.2⟩
      refine SX.end_ ?_
      refine KN.blk ?_
      refine KN.code ?_
      refine CW.reg [0, 1, 2, 3, 4, 5, 6, 7] rfl ?_   -- 8, binpoly.go:131
      refine s_mv 33 rfl rfl ?_
      refine s_sub 34 rfl rfl rfl (r := ((bl L).length : Nat) - ((bl p2).length : Nat) - 1) (w64 (by omega)) ?_
      refine s_mv 35 rfl rfl ?_
      refine s_call1 36 rfl rfl rfl rfl (fun w hw => bdeg_spec A5 (p.length + 1) c5 L2 w ((hw.has (i := 0) rfl).of_own) hL2.2.1 (by omega) (by omega)) (fun _ _ => trivial) ?_
      refine s_mv 37 rfl rfl ?_
      refine s_sub 38 rfl rfl rfl (r := ((bl L2).length : Nat) - ((bl p2).length : Nat)) (by rw [show (((bl L2).length : Nat) : Int) - 1 - (((bl p2).length : Nat) - 1) = ((bl L2).length : Nat) - ((bl p2).length : Nat) by omega]; exact w64 (by omega)) ?_
      refine s_min 39 rfl rfl rfl (r := ((bl L2).length : Nat) - ((bl p2).length : Nat)) (by split <;> omega) ?_
      refine s_as 10 rfl rfl ?_
      refine SX.end_ ?_
      exact KN.back (L2, Q.set (((bl L).length - (bl p2).length) / 8) (cf Q (((bl L).length - (bl p2).length) / 8) ||| 2 ^ (((bl L).length - (bl p2).length) % 8))) ⟨rfl, rfl, rfl, rfl, rfl, trivial⟩ (fun _ h => h) hnx hlt2
    · skip
      obtain ⟨hdQ, hdR⟩ := hz.done h0 (by omega)
      refine CW.exit rfl ?_
      refine KN.code ?_
      refine CW.seq ?_
      refine CW.reg [0, 1, 2, 3, 4, 5, 6] rfl ?_   -- 11, binpoly.go:135
      refine s_mv 54 rfl rfl ?_
      refine s_call 55 rfl rfl rfl rfl (fun w hw => by have := trimmed_spec (some ⟨go, 0, none⟩) (p.length + 1) (p.length + 1) Q w ((hw.has (i := 2) rfl).of_own) hz4 (by omega) (Nat.le_refl _); rw [hdQ] at this; exact this) (fun _ _ => trivial) (fun q3 hq3 => ?_)
      refine s_mv 56 rfl rfl ?_
      refine s_call 57 rfl rfl rfl rfl (fun w hw => by have := trimmed_spec A5 (p.length + 1) c5 L w ((hw.has (i := 1) rfl).of_own) hz3 (by omega) (by omega); rw [hdR] at this; exact this) (fun _ _ => trivial) (fun q4 hq4 => ?_)
      refine s_as 4 rfl rfl ?_
      refine s_as 5 rfl rfl ?_
      refine s_as 6 rfl rfl ?_
      refine SX.next ?_
      refine CW.ret ?_
      exact KN.ret (rs := [.tmp 4, .tmp 5, .tmp 6]) Tryd.results48 rfl (fun w hw => ⟨(q3, q4), rfl, ⟨hq3, hq4⟩, hw.pick [0, 0] rfl⟩)
  · skip
    refine s_make 26 (p.length + 1) rfl rfl rfl rfl rfl (by omega) (fun _ h => h) (fun go => ?_)
    refine s_call1 22 rfl rfl rfl rfl (v := .int .i64 ((bl p2).length - 1 : Int)) (fun w hw => by have := bdeg_spec q2.1 (trim p2).length q2.2 (trim p2) w (by first | exact (hw.has (i := 1) rfl).of_own | exact (hw.has (i := 2) rfl).of_own) h82 (by omega) hq2; rw [bl_trim] at this; exact this) (fun _ h => by first | exact h | exact h.tail) ?_
    refine s_as 8 rfl rfl ?_
    refine s_as 9 rfl rfl ?_
    refine SX.next ?_
    refine CW.seq ?_
    refine CW.seq ?_
    refine CW.pre (C' := Sto w [own 5 1 A5 (p.length + 1) c5 (nats .u8 (p ++ [0])), own 5 1 q2.1 (trim p2).length q2.2 (nats .u8 (trim p2)), own 5 1 (some ⟨go, 0, none⟩) (p.length + 1) (p.length + 1) (nats .u8 (List.replicate (p.length + 1) 0))]) (fun _ h => by
      have := h.blkOwnM (q := 0) (m := (p.length + 1)) (c := (p.length + 1)) (sz := 1) rfl (by simp) (Nat.le_refl _) (by unfold maxLen; omega)
      rw [zeros8] at this
      exact this.pick [1, 1, 0] rfl) ?_
    have hst := BdG.start hp p2
    have hb0 := bl_app p
    refine CW.reg [0, 1, 2, 3, 4] rfl ?_   -- 6, binpoly.go:131
    refine s_mv 27 rfl rfl ?_
    refine s_call1 28 rfl rfl rfl rfl (fun w hw => bdeg_spec A5 (p.length + 1) c5 (p ++ [0]) w ((hw.has (i := 0) rfl).of_own) (app_lt hp) (by omega) (by omega)) (fun _ _ => trivial) ?_
    refine s_mv 29 rfl rfl ?_
    refine s_sub 30 rfl rfl rfl (r := ((bl (p ++ [0])).length : Nat) - ((bl p2).length : Nat)) (by rw [hb0, show (((bl p).length : Nat) : Int) - 1 - (((bl p2).length : Nat) - 1) = ((bl p).length : Nat) - ((bl p2).length : Nat) by omega]; exact w64 (by omega)) ?_
    refine s_as 10 rfl rfl ?_
    refine SX.next ?_
    refine CW.block ?_
    refine CW.loop (G := List Nat × List Nat) (fun z => [(1, .slice q2.1 (trim p2).length q2.2), (7, .slice A5 (p.length + 1) c5), (8, .int .i64 ((bl p2).length - 1 : Int)), (9, .slice (some ⟨go, 0, none⟩) (p.length + 1) (p.length + 1)), (10, .int .i64 (((bl z.1).length : Nat) - ((bl p2).length : Nat)))]) (fun z => Sto w [own 5 1 A5 (p.length + 1) c5 (nats .u8 z.1), own 5 1 q2.1 (trim p2).length q2.2 (nats .u8 (trim p2)), own 5 1 (some ⟨go, 0, none⟩) (p.length + 1) (p.length + 1) (nats .u8 z.2)]) (BdG p p2) (fun z => (bl z.1).length) (p ++ [0], List.replicate (p.length + 1) 0) ⟨rfl, rfl, rfl, rfl, rfl, trivial⟩ (fun _ h => h) hst ?_
    rintro ⟨L, Q⟩ hz
    have hz1 := hz.l1
    have hz2 := hz.l2
    have hz3 := hz.b1
    have hz4 := hz.b2
    have hz5 := hz.le
    simp only at hz1 hz2 hz3 hz4 hz5
    dsimp only
    refine CW.seq ?_
    refine CW.seq ?_
    refine CW.reg [0, 1] rfl ?_   -- 7, binpoly.go:131
    refine s_mv 31 rfl rfl ?_
    refine s_ge 32 rfl rfl rfl rfl ?_
    refine SX.next ?_
    refine CW.test rfl (fun hc => ?_) (fun hc => ?_)
    · skip
      have hs : ((bl L).length - (bl p2).length) + (bl p2).length = (bl L).length := by omega
      have hs8 : ((bl L).length - (bl p2).length) / 8 < Q.length := by omega
      refine CW.skip ?_
      refine KN.code ?_
      refine CW.seq ?_
      refine CW.block ?_
      refine CW.seq ?_
      refine CW.regD (.st true 0 (.st true 1 (.st true 2 (.st true 3 (.st true 5 (.st true 6 (.st true 7 (.st false 4 (.st true 8 (.st true 9 (.st false 10 .done))))))))))) (Sto w []) mixed (by kernel_rfl) (fun _ h => h.drew) (fun _ h => h.dropR) ?_
      refine s_mv 40 rfl rfl ?_
      refine s_mv 41 (v := .int .i64 (((bl L).length - (bl p2).length) : Nat)) rfl (by rw [show ((((bl L).length - (bl p2).length) : Nat) : Int) = ((bl L).length : Nat) - ((bl p2).length : Nat) by omega]; rfl) ?_
      refine s_quo 42 rfl rfl rfl (by omega) (quo8 ((bl L).length - (bl p2).length) (by omega)) ?_
      refine s_iaO 43 2 (((bl L).length - (bl p2).length) / 8) rfl rfl rfl rfl rfl (by omega) ?_
      refine s_mv 45 (v := .int .i64 (((bl L).length - (bl p2).length) : Nat)) rfl (by rw [show ((((bl L).length - (bl p2).length) : Nat) : Int) = ((bl L).length : Nat) - ((bl p2).length : Nat) by omega]; rfl) ?_
      refine s_rem 46 rfl rfl rfl (by omega) (tmod8 ((bl L).length - (bl p2).length)) ?_
      refine s_shl 47 rfl rfl rfl (by omega) (r := ((2 ^ (((bl L).length - (bl p2).length) % 8) : Nat) : Int)) (by rw [show (1 : Int) = ((1 : Nat) : Int) from rfl, shl_u8 (by omega), Nat.one_mul, Nat.mod_eq_of_lt (Nat.pow_lt_pow_right (n := 8) (by omega) (Nat.mod_lt _ (by omega)))]) ?_
      refine s_ldO 44 2 rfl rfl rfl (natsAt8 hs8) ?_
      refine s_bit 48 rfl rfl rfl rfl (ibit_or_u8 (cf_lt8 hz4 _) (Nat.pow_lt_pow_right (n := 8) (by omega) (Nat.mod_lt _ (by omega)))) ?_
      refine s_iaO 49 2 (((bl L).length - (bl p2).length) / 8) rfl rfl rfl rfl rfl (by omega) ?_
      refine s_stO 2 rfl rfl rfl rfl rfl (by omega) (fun _ h => h.dropR) ?_
      refine SX.next ?_
      refine CW.pre (C' := Sto w [own 5 1 A5 (p.length + 1) c5 (nats .u8 L), own 5 1 q2.1 (trim p2).length q2.2 (nats .u8 (trim p2)), own 5 1 (some ⟨go, 0, none⟩) (p.length + 1) (p.length + 1) (nats .u8 (Q.set (((bl L).length - (bl p2).length) / 8) (cf Q (((bl L).length - (bl p2).length) / 8) ||| 2 ^ (((bl L).length - (bl p2).length) % 8))))]) (fun _ h => by rw [← nats_set]; exact h) ?_
      refine CW.reg [0, 1, 2, 3] rfl ?_   -- 10, binpoly.go:133
      refine s_mv 50 rfl rfl ?_
      refine s_mv 51 rfl rfl ?_
      refine s_mv 52 (v := .int .i64 (((bl L).length - (bl p2).length) : Nat)) rfl (by rw [show ((((bl L).length - (bl p2).length) : Nat) : Int) = ((bl L).length : Nat) - ((bl p2).length : Nat) by omega]; rfl) ?_
      refine s_callM 53 (v := fun _ => oneOf []) (L' := fun o' => [own 5 1 A5 (p.length + 1) c5 (nats .u8 o'), own 5 1 q2.1 (trim p2).length q2.2 (nats .u8 (trim p2)), own 5 1 (some ⟨go, 0, none⟩) (p.length + 1) (p.length + 1) (nats .u8 (Q.set (((bl L).length - (bl p2).length) / 8) (cf Q (((bl L).length - (bl p2).length) / 8) ||| 2 ^ (((bl L).length - (bl p2).length) % 8))))]) rfl rfl rfl rfl (fun w hw => by have := into_spec _ _ w [own 5 1 (some ⟨go, 0, none⟩) (p.length + 1) (p.length + 1) (nats .u8 (Q.set (((bl L).length - (bl p2).length) / 8) (cf Q (((bl L).length - (bl p2).length) / 8) ||| 2 ^ (((bl L).length - (bl p2).length) % 8))))] A5 c5 L q2.1 q2.2 (trim p2) ((bl L).length - (bl p2).length) hz3 h82 (by omega) (by omega) (by rw [hz1]; exact hw); rw [hz1] at this; exact this) (fun _ _ _ => trivial) (fun L2 hL2 => ?_)
      obtain ⟨hnx, hlt2⟩ := hz.next h0 hs hs8 ⟨hL2.1.trans hz1.symm, hL2.2⟩
      refine SX.end_ ?_
      refine KN.blk ?_
      refine KN.code ?_
      refine CW.reg [0, 1, 2, 3, 4, 5, 6, 7] rfl ?_   -- 8, binpoly.go:131
      refine s_mv 33 rfl rfl ?_
      refine s_sub 34 rfl rfl rfl (r := ((bl L).length : Nat) - ((bl p2).length : Nat) - 1) (w64 (by omega)) ?_
      refine s_mv 35 rfl rfl ?_
      refine s_call1 36 rfl rfl rfl rfl (fun w hw => bdeg_spec A5 (p.length + 1) c5 L2 w ((hw.has (i := 0) rfl).of_own) hL2.2.1 (by omega) (by omega)) (fun _ _ => trivial) ?_
      refine s_mv 37 rfl rfl ?_
      refine s_sub 38 rfl rfl rfl (r := ((bl L2).length : Nat) - ((bl p2).length : Nat)) (by rw [show (((bl L2).length : Nat) : Int) - 1 - (((bl p2).length : Nat) - 1) = ((bl L2).length : Nat) - ((bl p2).length : Nat) by omega]; exact w64 (by omega)) ?_
      refine s_min 39 rfl rfl rfl (r := ((bl L2).length : Nat) - ((bl p2).length : Nat)) (by split <;> omega) ?_
      refine s_as 10 rfl rfl ?_
      refine SX.end_ ?_
      exact KN.back (L2, Q.set (((bl L).length - (bl p2).length) / 8) (cf Q (((bl L).length - (bl p2).length) / 8) ||| 2 ^ (((bl L).length - (bl p2).length) % 8))) ⟨rfl, rfl, rfl, rfl, rfl, trivial⟩ (fun _ h => h) hnx hlt2
    · skip
      obtain ⟨hdQ, hdR⟩ := hz.done h0 (by omega)
      refine CW.exit rfl ?_
      refine KN.code ?_
      refine CW.seq ?_
      refine CW.reg [0, 1, 2, 3, 4, 5, 6] rfl ?_   -- 11, binpoly.go:135
      refine s_mv 54 rfl rfl ?_
      refine s_call 55 rfl rfl rfl rfl (fun w hw => by have := trimmed_spec (some ⟨go, 0, none⟩) (p.length + 1) (p.length + 1) Q w ((hw.has (i := 2) rfl).of_own) hz4 (by omega) (Nat.le_refl _); rw [hdQ] at this; exact this) (fun _ _ => trivial) (fun q3 hq3 => ?_)
      refine s_mv 56 rfl rfl ?_
      refine s_call 57 rfl rfl rfl rfl (fun w hw => by have := trimmed_spec A5 (p.length + 1) c5 L w ((hw.has (i := 1) rfl).of_own) hz3 (by omega) (by omega); rw [hdR] at this; exact this) (fun _ _ => trivial) (fun q4 hq4 => ?_)
      refine s_as 4 rfl rfl ?_
      refine s_as 5 rfl rfl ?_
      refine s_as 6 rfl rfl ?_
      refine SX.next ?_
      refine CW.ret ?_
      exact KN.ret (rs := [.tmp 4, .tmp 5, .tmp 6]) Tryd.results48 rfl (fun w hw => ⟨(q3, q4), rfl, ⟨hq3, hq4⟩, hw.pick [0, 0] rfl⟩)
