/- The walk of the statement BufferPlays, text 3. Conditions: each theorem tells its own. -/
import Derived.Test.YtcdmmfpgeagimaaDoorWBufferPlaysB
import Derived.Test.YtcdmmfpgeagimaaDoorWBufferPlaysA
import Derived.Deep.Strs
section
/- The contracts of package binpoly: quotients and common divisors. Conditions: the lists are bytes, read where they lie. -/
namespace Go.Proofs.YtcdmmfpgeagimaaDoor
open Go Go.Lib Go.Sx Go.Fm
set_option maxRecDepth 100000
/-- What the division's loop keeps. -/
structure BdG (p q : List Nat) (z : List Nat × List Nat) : Prop where
  l1 : z.1.length = p.length + 1
  b1 : ∀ x ∈ z.1, x < 256
  l2 : z.2.length = p.length + 1
  b2 : ∀ x ∈ z.2, x < 256
  le : (bl z.1).length ≤ (bl p).length
  lo : ∀ j, j + (bl q).length ≤ (bl z.1).length → cf (bl z.2) j = 0
  eq : addP (mulP 3 (bl z.2) (bl q)) (bl z.1) = bl p
theorem bl_app (p : List Nat) : bl (p ++ [0]) = bl p := (bl_b1 _).tr.ext (bl_b1 _).tr (fun j => by rw [cf_bl, cf_bl, bitN_app])
theorem bl_zeros (n : Nat) : bl (List.replicate n 0) = [] := (bl_b1 _).tr.nil_of (fun j => by rw [cf_bl, zeros_bit])
theorem app_lt {p : List Nat} (h : ∀ x ∈ p, x < 256) : ∀ x ∈ p ++ [0], x < 256 := fun x hx => by
  rcases List.mem_append.1 hx with hx | hx
  · exact h x hx
  · simp at hx; omega
theorem BdG.start {p : List Nat} (hp : ∀ x ∈ p, x < 256) (q : List Nat) : BdG p q (p ++ [0], List.replicate (p.length + 1) 0) := by
  refine ⟨by simp, app_lt hp, by simp, zeros_lt _, by simp only; rw [bl_app]; exact Nat.le_refl _, fun j _ => by simp only; rw [bl_zeros, cf_nil], ?_⟩
  simp only
  rw [bl_zeros, mulP_nil_l, nil_addP ok3 (bl_b1 _).tr, bl_app]
set_option maxHeartbeats 1600000 in
theorem BdG.next {p q L Q L2 : List Nat} {s : Nat} (h : BdG p q (L, Q)) (h0 : (bl q).length ≠ 0) (hs : s + (bl q).length = (bl L).length) (hs2 : s / 8 < Q.length)
    (h2 : L2.length = L.length ∧ (∀ x ∈ L2, x < 256) ∧ ∀ j, bitN L2 j = bitN L j ^^^ (if s ≤ j then bitN (trim q) (j - s) else 0)) :
    BdG p q (L2, Q.set (s / 8) (cf Q (s / 8) ||| 2 ^ (s % 8))) ∧ (bl L2).length < (bl L).length := by
  obtain ⟨k1, k2, k3, k4, k5, k6, k7⟩ := h
  simp only at k1 k2 k3 k4 k5 k6 k7
  have hq := bl_b1 q
  have hl := bl_b1 L
  have hQ := bl_b1 Q
  have eL : bl L2 = addP (bl L) (upP s (bl q)) := (bl_b1 _).tr.ext (addP_b1 hl (upP_b1 hq s)).tr (fun j => by
    rw [cf_bl, h2.2.2, cf_addP, cf_upP, cf_bl]
    congr 1
    split
    · rw [← cf_bl, bl_trim]
    · rfl)
  have eQ : bl (Q.set (s / 8) (cf Q (s / 8) ||| 2 ^ (s % 8))) = addP (bl Q) (xP s) := (bl_b1 _).tr.ext (addP_b1 hQ (xP_b1 s)).tr (fun j => by
    rw [cf_bl, bitN_or hs2, cf_addP, cf_xP]
    by_cases hj : j = s
    · subst hj
      rw [if_pos rfl, if_pos rfl, k6 j (by omega)]
      rfl
    · rw [if_neg hj, if_neg hj, Nat.xor_zero, cf_bl])
  have hlen : (bl L2).length ≤ (bl L).length - 1 := len_le_of (bl_b1 L2).tr (fun j hj => by
    rw [eL, cf_addP, cf_upP]
    by_cases he : j = (bl L).length - 1
    · subst he
      rw [hl.top (by omega), if_pos (by omega), show (bl L).length - 1 - s = (bl q).length - 1 by omega, hq.top h0]
      rfl
    · rw [cf_out (l := bl L) (by omega)]
      split
      · rw [cf_out (by omega)]; rfl
      · rfl)
  refine ⟨⟨by simp only; rw [h2.1, k1], h2.2.1, by simp only; rw [List.length_set, k3], set_lt k4 (or8 (cf_lt8 k4 _) (Nat.mod_lt _ (by omega))), by simp only; omega, fun j hj => ?_, ?_⟩, by omega⟩
  · simp only at hj ⊢
    rw [eQ, cf_addP, cf_xP, if_neg (by omega), k6 j (by omega)]
    rfl
  · simp only
    rw [eQ, eL, mulP_add_left ok3 hQ.tr (xP_b1 s).tr hq.tr, mulP_comm ok3 (xP_b1 s).tr hq.tr, mul_xP hq s, ← k7]
    refine (addP_tr ok3 (addP_tr ok3 (mulP_tr ok3 hQ.tr hq.tr) (upP_b1 hq s).tr) (addP_tr ok3 hl.tr (upP_b1 hq s).tr)).ext (addP_tr ok3 (mulP_tr ok3 hQ.tr hq.tr) hl.tr) (fun j => ?_)
    simp only [cf_addP]
    generalize cf (mulP 3 (bl Q) (bl q)) j = x
    generalize cf (upP s (bl q)) j = y
    generalize cf (bl L) j = z
    rw [Nat.xor_assoc, Nat.xor_comm z y, xcc]
theorem trim_bys {l : List Nat} (h : ∀ x ∈ l, x < 256) : trim l = bys (bl l) := bys_of h (bl_b1 l) (fun j => (cf_bl l j).symm)
theorem BdG.done {p q L Q : List Nat} (h : BdG p q (L, Q)) (h0 : (bl q).length ≠ 0) (hl : (bl L).length < (bl q).length) : trim Q = bys (quotP 3 (bl p) (bl q)) ∧ trim L = bys (restP 3 (bl p) (bl q)) := by
  obtain ⟨e1, e2⟩ := div_uniq ok3 (bl_b1 p).tr (bl_b1 q).tr h0 (bl_b1 Q).tr (bl_b1 L).tr hl h.eq
  exact ⟨by rw [← e1]; exact trim_bys h.b2, by rw [← e2]; exact trim_bys h.b1⟩
abbrev SpecBB (P : Program) (f : FuncId) (args : List Value) (w : World) (E G : List Nat) : Prop :=
  SpecX P f args w (X := (Option Addr × Nat) × (Option Addr × Nat)) (fun q => .tuple #[.slice q.1.1 E.length q.1.2, .slice q.2.1 G.length q.2.2, .nilIface]) (fun q => E.length ≤ q.1.2 ∧ G.length ≤ q.2.2)
    (fun q => [own 5 1 q.2.1 G.length q.2.2 (nats .u8 G), own 5 1 q.1.1 E.length q.1.2 (nats .u8 E)])
end Go.Proofs.YtcdmmfpgeagimaaDoor
end
section
/- The contracts of package binpoly: common divisors, sameness, values. Conditions: the lists are bytes, read where they lie. -/
namespace Go.Proofs.YtcdmmfpgeagimaaDoor
open Go Go.Lib Go.Sx Go.Fm
set_option maxRecDepth 100000
/-- What the common divisor's loop keeps. -/
structure BgG (a b : List Nat) (q : List Nat × List Nat × (Option Addr × Nat) × (Option Addr × Nat)) : Prop where
  h1 : B1 q.1
  h2 : B1 q.2.1
  l1 : q.1.length ≤ 8000000
  l2 : q.2.1.length ≤ 8000000
  c1 : (bys q.1).length ≤ q.2.2.1.2
  c2 : (bys q.2.1).length ≤ q.2.2.2.2
  eq : gcdE 3 q.1 q.2.1 = gcdE 3 a b
/-- How many bits stand, but for twos. -/
def parB (p : List Nat) (i : Nat) : Nat := xs (bitN p) (8 * i)
theorem rbytes_spec (A : Option Addr) (n c : Nat) (p : List Nat) (w : World) (ha : Has (sl 1 A n (nats .u8 p)) w) (hn : n ≤ 1000000) : SpecB Tryd.prog 27 [.slice A n c] w p := by
  have hla := nats_len ha
  subst hla
  refine spec_of Tryd.func27 rfl Tryd.ntmps27 rfl ?_
  refine CW.seq ?_
  refine CW.reg [0] rfl ?_
  refine s_as 2 rfl rfl ?_
  refine SX.next ?_
  refine CW.seq ?_
  refine CW.reg [0, 1, 2, 3, 4, 5] rfl ?_
  refine s_mv 3 rfl rfl ?_
  refine s_len 4 rfl rfl ?_
  refine s_makeC 5 p.length rfl rfl rfl rfl rfl (by unfold maxLen; omega) (fun _ _ => trivial) (fun g0 => ?_)
  refine s_mv 6 rfl rfl ?_
  refine s_app 7 0 rfl rfl rfl rfl (ys := nats .u8 p) (fun w hw => hw.old ha) (nats_one _ _) rfl (by omega) (by unfold maxLen; omega) (by omega) (fun _ _ _ _ => trivial) (fun A2 c2 hc2 => ?_)
  refine s_as 2 rfl rfl ?_
  refine SX.next ?_
  refine CW.ret ?_
  exact KN.ret (rs := [.tmp 2]) Tryd.results27 rfl (fun w hw => ⟨(A2, c2), by rw [Nat.zero_add]; rfl, by omega, by rw [Nat.zero_add] at hw; exact hw⟩)
end Go.Proofs.YtcdmmfpgeagimaaDoor
end
section
/- The document's buffer; lists of entries that are the same; Get, whatever waits. Conditions: the buffer is lent, or read where it lies. -/
namespace Go.Proofs.YtcdmmfpgeagimaaDoor
open Go Go.Lib Go.Sx Go.Fm
set_option maxRecDepth 100000

theorem dput_num (F : Nat → Prop) (b : Nat) (size most sectors : Int) (u : BufG) (key : Int) (w : World) (_hn : u.es.length ≤ 1000) (h : key < 0 ∨ sectors ≤ key) (hw : St F w [blk b 90 #[.int .i64 size, .int .i64 most, .int .i64 sectors, .slice u.A u.es.length u.c], own 73 3 u.A u.es.length u.c (rowsE u.es), starA (datsE u.es)] w) : SpecP Tryd.prog 61 [.pointer (some ⟨b, 0, none⟩), .int .i64 key, .slice none 0 0, .bool true] F w (X := BufG × Option Addr × Nat) (fun _ => .int .i64 102) (fun x => x.1.es = u.es) (fun x => [blk b 90 #[.int .i64 size, .int .i64 most, .int .i64 sectors, .slice x.1.A x.1.es.length x.1.c], own 73 3 x.1.A x.1.es.length x.1.c (rowsE x.1.es), starA (datsE x.1.es)]) := by
  refine spec_ofC Tryd.func61 rfl Tryd.ntmps61 rfl hw ?_
  refine CW.seq ?_
  refine CW.reg [0] rfl ?_
  refine s_as 8 rfl rfl ?_
  refine SX.next ?_
  refine CW.seq ?_
  refine CW.seq ?_
  refine CW.reg [0, 1, 2, 3, 4, 5, 6, 7, 8, 9] rfl ?_
  refine s_mv 12 rfl rfl ?_
  refine s_lt 13 rfl rfl rfl rfl ?_
  refine s_mv 14 rfl rfl ?_
  refine SX.bool 14 rfl (fun hb => ?_) (fun hb => ?_)
  · skip
    refine SX.skip rfl ?_
    refine SX.skip rfl ?_
    refine SX.skip rfl ?_
    refine SX.skip rfl ?_
    refine SX.skip rfl ?_
    refine SX.skip rfl ?_
    refine s_pickT 21 rfl rfl rfl ?_
    refine SX.next ?_
    refine CW.condT rfl ?_
    refine CW.seq ?_
    refine CW.reg [0] rfl ?_
    refine s_as 8 rfl rfl ?_
    refine SX.next ?_
    refine CW.ret ?_
    exact KN.ret (rs := [.tmp 8]) Tryd.results61 rfl (fun w hw => ⟨(u, none, 0), rfl, rfl, hw.pick [0, 0, 0] rfl⟩)
  · skip
    have hb1 := of_decide_eq_false hb
    refine s_mv 15 rfl rfl ?_
    refine s_mv 16 rfl rfl ?_
    refine s_nil 17 rfl rfl ?_
    refine s_fa 18 rfl rfl ?_
    refine s_ldB 19 0 rfl rfl rfl (v := .int .i64 sectors) rfl ?_
    refine s_ge 20 rfl rfl rfl (decide_eq_true (by omega)) ?_
    refine s_pickF 21 rfl rfl rfl ?_
    refine SX.next ?_
    refine CW.condT rfl ?_
    refine CW.seq ?_
    refine CW.reg [0] rfl ?_
    refine s_as 8 rfl rfl ?_
    refine SX.next ?_
    refine CW.ret ?_
    exact KN.ret (rs := [.tmp 8]) Tryd.results61 rfl (fun w hw => ⟨(u, none, 0), rfl, rfl, hw.pick [0, 0, 0] rfl⟩)

theorem dput_num2 (F : Nat → Prop) (b : Nat) (size most sectors : Int) (u : BufG) (key : Int) (A : Option Addr) (n c : Nat) (p : List Nat) (w : World) (_hn : u.es.length ≤ 1000) (hd : ∀ w', Fr F w w' → Has (sl 1 A n (nats .u8 p)) w') (_hp : n ≤ 1000000) (h : key < 0 ∨ sectors ≤ key) (hw : St F w [blk b 90 #[.int .i64 size, .int .i64 most, .int .i64 sectors, .slice u.A u.es.length u.c], own 73 3 u.A u.es.length u.c (rowsE u.es), starA (datsE u.es)] w) : SpecP Tryd.prog 61 [.pointer (some ⟨b, 0, none⟩), .int .i64 key, .slice A n c, .bool false] F w (X := BufG × Option Addr × Nat) (fun _ => .int .i64 102) (fun x => x.1.es = u.es) (fun x => [blk b 90 #[.int .i64 size, .int .i64 most, .int .i64 sectors, .slice x.1.A x.1.es.length x.1.c], own 73 3 x.1.A x.1.es.length x.1.c (rowsE x.1.es), starA (datsE x.1.es)]) := by
  have hla := nats_len (hd w (Fr.refl _ _))
  subst hla
  refine spec_ofC Tryd.func61 rfl Tryd.ntmps61 rfl hw ?_
  refine CW.seq ?_
  refine CW.reg [0] rfl ?_
  refine s_as 8 rfl rfl ?_
  refine SX.next ?_
  refine CW.seq ?_
  refine CW.seq ?_
  refine CW.reg [0, 1, 2, 3, 4, 5, 6, 7, 8, 9] rfl ?_
  refine s_mv 12 rfl rfl ?_
  refine s_lt 13 rfl rfl rfl rfl ?_
  refine s_mv 14 rfl rfl ?_
  refine SX.bool 14 rfl (fun hb => ?_) (fun hb => ?_)
  · skip
    refine SX.skip rfl ?_
    refine SX.skip rfl ?_
    refine SX.skip rfl ?_
    refine SX.skip rfl ?_
    refine SX.skip rfl ?_
    refine SX.skip rfl ?_
    refine s_pickT 21 rfl rfl rfl ?_
    refine SX.next ?_
    refine CW.condT rfl ?_
    refine CW.seq ?_
    refine CW.reg [0] rfl ?_
    refine s_as 8 rfl rfl ?_
    refine SX.next ?_
    refine CW.ret ?_
    exact KN.ret (rs := [.tmp 8]) Tryd.results61 rfl (fun w hw => ⟨(u, none, 0), rfl, rfl, hw.pick [0, 0, 0] rfl⟩)
  · skip
    have hb1 := of_decide_eq_false hb
    refine s_mv 15 rfl rfl ?_
    refine s_mv 16 rfl rfl ?_
    refine s_nil 17 rfl rfl ?_
    refine s_fa 18 rfl rfl ?_
    refine s_ldB 19 0 rfl rfl rfl (v := .int .i64 sectors) rfl ?_
    refine s_ge 20 rfl rfl rfl (decide_eq_true (by omega)) ?_
    refine s_pickF 21 rfl rfl rfl ?_
    refine SX.next ?_
    refine CW.condT rfl ?_
    refine CW.seq ?_
    refine CW.reg [0] rfl ?_
    refine s_as 8 rfl rfl ?_
    refine SX.next ?_
    refine CW.ret ?_
    exact KN.ret (rs := [.tmp 8]) Tryd.results61 rfl (fun w hw => ⟨(u, none, 0), rfl, rfl, hw.pick [0, 0, 0] rfl⟩)

theorem dput_size (F : Nat → Prop) (b : Nat) (size most sectors : Int) (u : BufG) (key : Int) (A : Option Addr) (n c : Nat) (p : List Nat) (w : World) (_hn : u.es.length ≤ 1000) (hd : ∀ w', Fr F w w' → Has (sl 1 A n (nats .u8 p)) w') (_hp : n ≤ 1000000) (h0 : 0 ≤ key) (h1 : key < sectors) (hsz : (p.length : Int) ≠ size) (hw : St F w [blk b 90 #[.int .i64 size, .int .i64 most, .int .i64 sectors, .slice u.A u.es.length u.c], own 73 3 u.A u.es.length u.c (rowsE u.es), starA (datsE u.es)] w) : SpecP Tryd.prog 61 [.pointer (some ⟨b, 0, none⟩), .int .i64 key, .slice A n c, .bool false] F w (X := BufG × Option Addr × Nat) (fun _ => .int .i64 116) (fun x => x.1.es = u.es) (fun x => [blk b 90 #[.int .i64 size, .int .i64 most, .int .i64 sectors, .slice x.1.A x.1.es.length x.1.c], own 73 3 x.1.A x.1.es.length x.1.c (rowsE x.1.es), starA (datsE x.1.es)]) := by
  have hla := nats_len (hd w (Fr.refl _ _))
  subst hla
  refine spec_ofC Tryd.func61 rfl Tryd.ntmps61 rfl hw ?_
  refine CW.seq ?_
  refine CW.reg [0] rfl ?_
  refine s_as 8 rfl rfl ?_
  refine SX.next ?_
  refine CW.seq ?_
  refine CW.seq ?_
  refine CW.reg [0, 1, 2, 3, 4, 5, 6, 7, 8, 9] rfl ?_
  refine s_mv 12 rfl rfl ?_
  refine s_lt 13 rfl rfl rfl (decide_eq_false (by omega)) ?_
  refine s_mv 14 rfl rfl ?_
  refine s_mv 15 rfl rfl ?_
  refine s_mv 16 rfl rfl ?_
  refine s_nil 17 rfl rfl ?_
  refine s_fa 18 rfl rfl ?_
  refine s_ldB 19 0 rfl rfl rfl (v := .int .i64 sectors) rfl ?_
  refine s_ge 20 rfl rfl rfl (decide_eq_false (by omega)) ?_
  refine s_pickF 21 rfl rfl rfl ?_
  refine SX.next ?_
  refine CW.condF rfl ?_
  refine CW.skip ?_
  refine KN.code ?_
  refine CW.seq ?_
  refine CW.seq ?_
  refine CW.reg [0, 1, 2, 3, 4, 5, 6, 7, 8, 9, 10] rfl ?_
  refine s_mv 22 rfl rfl ?_
  refine s_not 23 rfl rfl ?_
  refine s_mv 24 rfl rfl ?_
  refine s_mv 25 rfl rfl ?_
  refine s_len 26 rfl rfl ?_
  refine s_mv 27 rfl rfl ?_
  refine s_nil 28 rfl rfl ?_
  refine s_fa 29 rfl rfl ?_
  refine s_ldB 30 0 rfl rfl rfl (v := .int .i64 size) rfl ?_
  refine s_ne 31 rfl rfl rfl (decide_eq_true (by omega)) ?_
  refine s_pickT 32 rfl rfl rfl ?_
  refine SX.next ?_
  refine CW.condT rfl ?_
  refine CW.seq ?_
  refine CW.reg [0] rfl ?_
  refine s_as 8 rfl rfl ?_
  refine SX.next ?_
  refine CW.ret ?_
  exact KN.ret (rs := [.tmp 8]) Tryd.results61 rfl (fun w hw => ⟨(u, none, 0), rfl, rfl, hw.pick [0, 0, 0] rfl⟩)

theorem dput_full (F : Nat → Prop) (b : Nat) (size most sectors : Int) (u : BufG) (key : Int) (w : World) (hn : u.es.length ≤ 1000) (h0 : 0 ≤ key) (h1 : key < sectors) (hpl : plI key u.es = -1) (hfu : most ≤ (u.es.length : Int)) (hw : St F w [blk b 90 #[.int .i64 size, .int .i64 most, .int .i64 sectors, .slice u.A u.es.length u.c], own 73 3 u.A u.es.length u.c (rowsE u.es), starA (datsE u.es)] w) : SpecP Tryd.prog 61 [.pointer (some ⟨b, 0, none⟩), .int .i64 key, .slice none 0 0, .bool true] F w (X := BufG × Option Addr × Nat) (fun _ => .int .i64 114) (fun x => x.1.es = u.es) (fun x => [blk b 90 #[.int .i64 size, .int .i64 most, .int .i64 sectors, .slice x.1.A x.1.es.length x.1.c], own 73 3 x.1.A x.1.es.length x.1.c (rowsE x.1.es), starA (datsE x.1.es)]) := by
  refine spec_ofC Tryd.func61 rfl Tryd.ntmps61 rfl hw ?_
  refine CW.seq ?_
  refine CW.reg [0] rfl ?_
  refine s_as 8 rfl rfl ?_
  refine SX.next ?_
  refine CW.seq ?_
  refine CW.seq ?_
  refine CW.reg [0, 1, 2, 3, 4, 5, 6, 7, 8, 9] rfl ?_
  refine s_mv 12 rfl rfl ?_
  refine s_lt 13 rfl rfl rfl (decide_eq_false (by omega)) ?_
  refine s_mv 14 rfl rfl ?_
  refine s_mv 15 rfl rfl ?_
  refine s_mv 16 rfl rfl ?_
  refine s_nil 17 rfl rfl ?_
  refine s_fa 18 rfl rfl ?_
  refine s_ldB 19 0 rfl rfl rfl (v := .int .i64 sectors) rfl ?_
  refine s_ge 20 rfl rfl rfl (decide_eq_false (by omega)) ?_
  refine s_pickF 21 rfl rfl rfl ?_
  refine SX.next ?_
  refine CW.condF rfl ?_
  refine CW.skip ?_
  refine KN.code ?_
  refine CW.seq ?_
  refine CW.seq ?_
  refine CW.reg [0, 1, 2, 3, 4, 5, 6, 7, 8, 9, 10] rfl ?_
  refine s_mv 22 rfl rfl ?_
  refine s_not 23 rfl rfl ?_
  refine s_mv 24 rfl rfl ?_
  refine SX.skip rfl ?_
  refine SX.skip rfl ?_
  refine SX.skip rfl ?_
  refine SX.skip rfl ?_
  refine SX.skip rfl ?_
  refine SX.skip rfl ?_
  refine SX.skip rfl ?_
  refine s_pickF 32 rfl rfl rfl ?_
  refine SX.next ?_
  refine CW.condF rfl ?_
  refine CW.skip ?_
  refine KN.code ?_
  refine CW.seq ?_
  refine CW.reg [0] rfl ?_
  refine s_as 9 rfl rfl ?_
  refine SX.next ?_
  refine CW.seq ?_
  refine CW.seq ?_
  refine CW.reg [0] rfl ?_
  refine s_as 10 rfl rfl ?_
  refine SX.next ?_
  refine CW.block ?_
  refine CW.loop (G := Nat × BufG) (fun z => [(0, .pointer (some ⟨b, 0, none⟩)), (1, .int .i64 key), (2, .slice none 0 0), (3, .bool true), (9, .slice z.2.A z.2.es.length z.2.c), (10, .int .i64 (z.1 : Nat))]) (fun z => (St F w [own 73 3 z.2.A z.2.es.length z.2.c (rowsE z.2.es), blk b 90 #[.int .i64 size, .int .i64 most, .int .i64 sectors, .slice u.A u.es.length u.c], own 73 3 u.A u.es.length u.c (rowsE u.es), starA (datsE u.es)])) (fun z => z.1 ≤ u.es.length ∧ z.2.es = fltE key (u.es.take z.1) ∧ z.2.es.length ≤ z.2.c) (fun z => u.es.length - z.1) (0, ⟨none, 0, []⟩) ⟨rfl, rfl, rfl, rfl, rfl, rfl, trivial⟩ (fun _ h => h.begin_ 73 3) ⟨Nat.zero_le _, rfl, Nat.le_refl _⟩ ?_
  rintro ⟨i, y⟩ ⟨hi, hye, hyc⟩
  simp only at hi hye hyc
  dsimp only
  have hyl : y.es.length ≤ u.es.length := by rw [hye]; exact Nat.le_trans (fltE_len_le _ _) (by rw [List.length_take]; omega)
  refine CW.seq ?_
  refine CW.seq ?_
  refine CW.reg [0, 1, 2, 3, 4, 5, 6] rfl ?_
  refine s_mv 33 rfl rfl ?_
  refine s_mv 34 rfl rfl ?_
  refine s_nil 35 rfl rfl ?_
  refine s_fa 36 rfl rfl ?_
  refine s_ldB 37 1 rfl rfl rfl (v := .slice u.A u.es.length u.c) rfl ?_
  refine s_len 38 rfl rfl ?_
  refine s_lt 39 rfl rfl rfl rfl ?_
  refine SX.next ?_
  refine CW.test rfl (fun hc => ?_) (fun hc => ?_)
  · skip
    have hil : i < u.es.length := by omega
    have he := gE_at hil
    have hfl := fltE_take (k := key) he
    refine CW.skip ?_
    refine KN.code ?_
    refine CW.seq ?_
    refine CW.block ?_
    refine CW.seq ?_
    refine CW.reg [0, 1, 2, 3, 4, 5, 6, 7, 8, 9] rfl ?_
    refine s_mv 42 rfl rfl ?_
    refine s_nil 43 rfl rfl ?_
    refine s_fa 44 rfl rfl ?_
    refine s_ldB 45 1 rfl rfl rfl (v := .slice u.A u.es.length u.c) rfl ?_
    refine s_mv 46 rfl rfl ?_
    refine s_iaV 47 i (fun w hw => (hw.has (i := 2) rfl).of_own) rfl rfl rfl rfl hil ?_
    refine s_fa 48 rfl rfl ?_
    refine s_ld 49 rfl rfl (v := .int .i64 (gE u.es i).k) (fun _ hw => ((hw.has (i := 2) rfl).of_own).entRow he 0 _ rfl) ?_
    refine s_mv 50 rfl rfl ?_
    refine s_ne 51 rfl rfl rfl rfl ?_
    refine SX.next ?_
    refine CW.test rfl (fun hc => ?_) (fun hc => ?_)
    · skip
      refine CW.reg [0, 1, 2, 3, 4, 5, 6, 7, 8, 9, 10] rfl ?_
      refine s_mv 52 rfl rfl ?_
      refine s_mv 53 rfl rfl ?_
      refine s_nil 54 rfl rfl ?_
      refine s_fa 55 rfl rfl ?_
      refine s_ldB 56 1 rfl rfl rfl (v := .slice u.A u.es.length u.c) rfl ?_
      refine s_mv 57 rfl rfl ?_
      refine s_iaV 58 i (fun w hw => (hw.has (i := 2) rfl).of_own) rfl rfl rfl rfl hil ?_
      refine s_ldR 59 (cs := (gE u.es i).row) rfl rfl rfl (fun w hw => ((hw.has (i := 2) rfl).of_own).entRow he) ?_
      refine s_bsl 60 rfl rfl (cells := #[.int .i64 (gE u.es i).k, .bool (gE u.es i).tr, .slice (gE u.es i).A (gE u.es i).l.length (gE u.es i).c]) (by kernel_rfl) rfl (fun _ _ => trivial) (fun gb => ?_)
      refine s_app 61 1 rfl rfl rfl rfl (ys := (gE u.es i).row) (fun w hw => Has.cong ((hw.has (i := 0) rfl).blk_sl (m := 1) rfl) rfl) rfl rfl (by omega) (by unfold maxLen; omega) (by omega) (fun _ _ _ _ => trivial) (fun A2 c2 hc2 => ?_)
      refine s_as 9 rfl rfl ?_
      refine SX.end_ ?_
      refine KN.blk ?_
      refine KN.code ?_
      refine CW.reg [0, 1, 2] rfl ?_
      refine s_mv 40 rfl rfl ?_
      refine s_add 41 rfl rfl rfl (r := ((i + 1 : Nat) : Int)) (w64 (by omega)) ?_
      refine s_as 10 rfl rfl ?_
      refine SX.end_ ?_
      exact KN.back (i + 1, ⟨A2, c2, y.es ++ [(gE u.es i)]⟩) ⟨rfl, rfl, rfl, rfl, (by show some (Value.slice A2 (y.es.length + 1) c2) = some (.slice A2 (y.es ++ [(gE u.es i)]).length c2); rw [List.length_append]; rfl), rfl, trivial⟩ (fun _ h => by
        have h1 := h.pick [1, 1, 1, 1] rfl
        have e1 : (y.es ++ [(gE u.es i)]).length = y.es.length + 1 := by rw [List.length_append]; rfl
        have e2 : rowsE (y.es ++ [(gE u.es i)]) = rowsE y.es ++ (gE u.es i).row := by rw [rowsE_app]; rfl
        simp only [e1, e2]
        exact h1) ⟨by simp only; omega, by simp only; rw [hfl, if_neg hc, hye], by simp only [List.length_append, List.length_singleton]; exact hc2⟩ (by simp only; omega)
    · skip
      have hck : (gE u.es i).k = key := Decidable.of_not_not hc
      refine CW.skip ?_
      refine KN.blk ?_
      refine KN.code ?_
      refine CW.reg [0, 1, 2] rfl ?_
      refine s_mv 40 rfl rfl ?_
      refine s_add 41 rfl rfl rfl (r := ((i + 1 : Nat) : Int)) (w64 (by omega)) ?_
      refine s_as 10 rfl rfl ?_
      refine SX.end_ ?_
      exact KN.back (i + 1, y) ⟨rfl, rfl, rfl, rfl, rfl, rfl, trivial⟩ (fun _ h => h) ⟨by simp only; omega, by simp only; rw [hfl, if_pos hck]; exact hye, hyc⟩ (by simp only; omega)
  · skip
    obtain rfl : i = u.es.length := by omega
    rw [List.take_length] at hye
    have hyl2 : y.es.length = (fltE key u.es).length := by rw [hye]
    have hfl := fltE_len key u.es
    refine CW.exit rfl ?_
    refine KN.code ?_
    refine CW.seq ?_
    refine CW.seq ?_
    refine CW.regD (.st true 0 (.st true 1 (.st true 2 (.st true 3 (.st true 4 (.st true 5 (.st true 6 (.st true 7 (.st true 8 (.st true 9 (.st true 10 (.st true 11 (.st true 12 (.st true 13 (.st true 14 (.st true 15 (.st true 16 (.st true 17 (.st true 18 (.st true 19 .done)))))))))))))))))))) (fun w2 => w2.cell? ⟨b, 3, none⟩ = some (.slice u.A u.es.length u.c) ∧ w2.cell? ⟨b, 1, none⟩ = some (.int .i64 most)) mixed (by kernel_rfl) (fun _ h => h.drew) (fun _ hw => ⟨hw.blkCell (i := 1) rfl rfl, hw.blkCell (i := 1) rfl rfl⟩) ?_
    refine s_mv 62 rfl rfl ?_
    refine s_len 63 rfl rfl ?_
    refine s_mv 64 rfl rfl ?_
    refine s_nil 65 rfl rfl ?_
    refine s_fa 66 rfl rfl ?_
    refine s_ldS 67 rfl rfl (v := .slice u.A u.es.length u.c) (fun _ hw => hw.1) ?_
    refine s_len 68 rfl rfl ?_
    refine s_eq 69 rfl rfl rfl (decide_eq_true (by rw [hyl2, hfl.2 hpl])) ?_
    refine s_mv 70 rfl rfl ?_
    refine s_mv 71 rfl rfl ?_
    refine s_nil 72 rfl rfl ?_
    refine s_fa 73 rfl rfl ?_
    refine s_ldS 74 rfl rfl (v := .slice u.A u.es.length u.c) (fun _ hw => hw.1) ?_
    refine s_len 75 rfl rfl ?_
    refine s_mv 76 rfl rfl ?_
    refine s_nil 77 rfl rfl ?_
    refine s_fa 78 rfl rfl ?_
    refine s_ldS 79 rfl rfl (v := .int .i64 most) (fun _ hw => hw.2) ?_
    refine s_ge 80 rfl rfl rfl (decide_eq_true (by omega)) ?_
    refine s_pickT 81 rfl rfl rfl ?_
    refine SX.next ?_
    refine CW.condT rfl ?_
    refine CW.seq ?_
    refine CW.reg [0] rfl ?_
    refine s_as 8 rfl rfl ?_
    refine SX.next ?_
    refine CW.ret ?_
    exact KN.ret (rs := [.tmp 8]) Tryd.results61 rfl (fun w hw => ⟨(u, none, 0), rfl, rfl, hw.pick [1, 1, 1] rfl⟩)

set_option maxHeartbeats 1600000 in

theorem dput_ok (F : Nat → Prop) (b : Nat) (size most sectors : Int) (u : BufG) (key : Int) (w : World) (hn : u.es.length ≤ 1000) (h0 : 0 ≤ key) (h1 : key < sectors) (hno : ¬ (plI key u.es = -1 ∧ most ≤ (u.es.length : Int))) (hw : St F w [blk b 90 #[.int .i64 size, .int .i64 most, .int .i64 sectors, .slice u.A u.es.length u.c], own 73 3 u.A u.es.length u.c (rowsE u.es), starA (datsE u.es)] w) : SpecP Tryd.prog 61 [.pointer (some ⟨b, 0, none⟩), .int .i64 key, .slice none 0 0, .bool true] F w (X := BufG × Option Addr × Nat) (fun _ => .int .i64 0) (fun x => x.1.es = fltE key u.es ++ [⟨key, true, none, 0, []⟩]) (fun x => [blk b 90 #[.int .i64 size, .int .i64 most, .int .i64 sectors, .slice x.1.A x.1.es.length x.1.c], own 73 3 x.1.A x.1.es.length x.1.c (rowsE x.1.es), starA (datsE x.1.es)]) := by
  refine spec_ofC Tryd.func61 rfl Tryd.ntmps61 rfl hw ?_
  refine CW.seq ?_
  refine CW.reg [0] rfl ?_
  refine s_as 8 rfl rfl ?_
  refine SX.next ?_
  refine CW.seq ?_
  refine CW.seq ?_
  refine CW.reg [0, 1, 2, 3, 4, 5, 6, 7, 8, 9] rfl ?_
  refine s_mv 12 rfl rfl ?_
  refine s_lt 13 rfl rfl rfl (decide_eq_false (by omega)) ?_
  refine s_mv 14 rfl rfl ?_
  refine s_mv 15 rfl rfl ?_
  refine s_mv 16 rfl rfl ?_
  refine s_nil 17 rfl rfl ?_
  refine s_fa 18 rfl rfl ?_
  refine s_ldB 19 0 rfl rfl rfl (v := .int .i64 sectors) rfl ?_
  refine s_ge 20 rfl rfl rfl (decide_eq_false (by omega)) ?_
  refine s_pickF 21 rfl rfl rfl ?_
  refine SX.next ?_
  refine CW.condF rfl ?_
  refine CW.skip ?_
  refine KN.code ?_
  refine CW.seq ?_
  refine CW.seq ?_
  refine CW.reg [0, 1, 2, 3, 4, 5, 6, 7, 8, 9, 10] rfl ?_
  refine s_mv 22 rfl rfl ?_
  refine s_not 23 rfl rfl ?_
  refine s_mv 24 rfl rfl ?_
  refine SX.skip rfl ?_
  refine SX.skip rfl ?_
  refine SX.skip rfl ?_
  refine SX.skip rfl ?_
  refine SX.skip rfl ?_
  refine SX.skip rfl ?_
  refine SX.skip rfl ?_
  refine s_pickF 32 rfl rfl rfl ?_
  refine SX.next ?_
  refine CW.condF rfl ?_
  refine CW.skip ?_
  refine KN.code ?_
  refine CW.seq ?_
  refine CW.reg [0] rfl ?_
  refine s_as 9 rfl rfl ?_
  refine SX.next ?_
  refine CW.seq ?_
  refine CW.seq ?_
  refine CW.reg [0] rfl ?_
  refine s_as 10 rfl rfl ?_
  refine SX.next ?_
  refine CW.block ?_
  refine CW.loop (G := Nat × BufG) (fun z => [(0, .pointer (some ⟨b, 0, none⟩)), (1, .int .i64 key), (2, .slice none 0 0), (3, .bool true), (9, .slice z.2.A z.2.es.length z.2.c), (10, .int .i64 (z.1 : Nat))]) (fun z => (St F w [own 73 3 z.2.A z.2.es.length z.2.c (rowsE z.2.es), blk b 90 #[.int .i64 size, .int .i64 most, .int .i64 sectors, .slice u.A u.es.length u.c], own 73 3 u.A u.es.length u.c (rowsE u.es), starA (datsE u.es)])) (fun z => z.1 ≤ u.es.length ∧ z.2.es = fltE key (u.es.take z.1) ∧ z.2.es.length ≤ z.2.c) (fun z => u.es.length - z.1) (0, ⟨none, 0, []⟩) ⟨rfl, rfl, rfl, rfl, rfl, rfl, trivial⟩ (fun _ h => h.begin_ 73 3) ⟨Nat.zero_le _, rfl, Nat.le_refl _⟩ ?_
  rintro ⟨i, y⟩ ⟨hi, hye, hyc⟩
  simp only at hi hye hyc
  dsimp only
  have hyl : y.es.length ≤ u.es.length := by rw [hye]; exact Nat.le_trans (fltE_len_le _ _) (by rw [List.length_take]; omega)
  refine CW.seq ?_
  refine CW.seq ?_
  refine CW.reg [0, 1, 2, 3, 4, 5, 6] rfl ?_
  refine s_mv 33 rfl rfl ?_
  refine s_mv 34 rfl rfl ?_
  refine s_nil 35 rfl rfl ?_
  refine s_fa 36 rfl rfl ?_
  refine s_ldB 37 1 rfl rfl rfl (v := .slice u.A u.es.length u.c) rfl ?_
  refine s_len 38 rfl rfl ?_
  refine s_lt 39 rfl rfl rfl rfl ?_
  refine SX.next ?_
  refine CW.test rfl (fun hc => ?_) (fun hc => ?_)
  · skip
    have hil : i < u.es.length := by omega
    have he := gE_at hil
    have hfl := fltE_take (k := key) he
    refine CW.skip ?_
    refine KN.code ?_
    refine CW.seq ?_
    refine CW.block ?_
    refine CW.seq ?_
    refine CW.reg [0, 1, 2, 3, 4, 5, 6, 7, 8, 9] rfl ?_
    refine s_mv 42 rfl rfl ?_
    refine s_nil 43 rfl rfl ?_
    refine s_fa 44 rfl rfl ?_
    refine s_ldB 45 1 rfl rfl rfl (v := .slice u.A u.es.length u.c) rfl ?_
    refine s_mv 46 rfl rfl ?_
    refine s_iaV 47 i (fun w hw => (hw.has (i := 2) rfl).of_own) rfl rfl rfl rfl hil ?_
    refine s_fa 48 rfl rfl ?_
    refine s_ld 49 rfl rfl (v := .int .i64 (gE u.es i).k) (fun _ hw => ((hw.has (i := 2) rfl).of_own).entRow he 0 _ rfl) ?_
    refine s_mv 50 rfl rfl ?_
    refine s_ne 51 rfl rfl rfl rfl ?_
    refine SX.next ?_
    refine CW.test rfl (fun hc => ?_) (fun hc => ?_)
    · skip
      refine CW.reg [0, 1, 2, 3, 4, 5, 6, 7, 8, 9, 10] rfl ?_
      refine s_mv 52 rfl rfl ?_
      refine s_mv 53 rfl rfl ?_
      refine s_nil 54 rfl rfl ?_
      refine s_fa 55 rfl rfl ?_
      refine s_ldB 56 1 rfl rfl rfl (v := .slice u.A u.es.length u.c) rfl ?_
      refine s_mv 57 rfl rfl ?_
      refine s_iaV 58 i (fun w hw => (hw.has (i := 2) rfl).of_own) rfl rfl rfl rfl hil ?_
      refine s_ldR 59 (cs := (gE u.es i).row) rfl rfl rfl (fun w hw => ((hw.has (i := 2) rfl).of_own).entRow he) ?_
      refine s_bsl 60 rfl rfl (cells := #[.int .i64 (gE u.es i).k, .bool (gE u.es i).tr, .slice (gE u.es i).A (gE u.es i).l.length (gE u.es i).c]) (by kernel_rfl) rfl (fun _ _ => trivial) (fun gb => ?_)
      refine s_app 61 1 rfl rfl rfl rfl (ys := (gE u.es i).row) (fun w hw => Has.cong ((hw.has (i := 0) rfl).blk_sl (m := 1) rfl) rfl) rfl rfl (by omega) (by unfold maxLen; omega) (by omega) (fun _ _ _ _ => trivial) (fun A2 c2 hc2 => ?_)
      refine s_as 9 rfl rfl ?_
      refine SX.end_ ?_
      refine KN.blk ?_
      refine KN.code ?_
      refine CW.reg [0, 1, 2] rfl ?_
      refine s_mv 40 rfl rfl ?_
      refine s_add 41 rfl rfl rfl (r := ((i + 1 : Nat) : Int)) (w64 (by omega)) ?_
      refine s_as 10 rfl rfl ?_
      refine SX.end_ ?_
      exact KN.back (i + 1, ⟨A2, c2, y.es ++ [(gE u.es i)]⟩) ⟨rfl, rfl, rfl, rfl, (by show some (Value.slice A2 (y.es.length + 1) c2) = some (.slice A2 (y.es ++ [(gE u.es i)]).length c2); rw [List.length_append]; rfl), rfl, trivial⟩ (fun _ h => by
        have h1 := h.pick [1, 1, 1, 1] rfl
        have e1 : (y.es ++ [(gE u.es i)]).length = y.es.length + 1 := by rw [List.length_append]; rfl
        have e2 : rowsE (y.es ++ [(gE u.es i)]) = rowsE y.es ++ (gE u.es i).row := by rw [rowsE_app]; rfl
        simp only [e1, e2]
        exact h1) ⟨by simp only; omega, by simp only; rw [hfl, if_neg hc, hye], by simp only [List.length_append, List.length_singleton]; exact hc2⟩ (by simp only; omega)
    · skip
      have hck : (gE u.es i).k = key := Decidable.of_not_not hc
      refine CW.skip ?_
      refine KN.blk ?_
      refine KN.code ?_
      refine CW.reg [0, 1, 2] rfl ?_
      refine s_mv 40 rfl rfl ?_
      refine s_add 41 rfl rfl rfl (r := ((i + 1 : Nat) : Int)) (w64 (by omega)) ?_
      refine s_as 10 rfl rfl ?_
      refine SX.end_ ?_
      exact KN.back (i + 1, y) ⟨rfl, rfl, rfl, rfl, rfl, rfl, trivial⟩ (fun _ h => h) ⟨by simp only; omega, by simp only; rw [hfl, if_pos hck]; exact hye, hyc⟩ (by simp only; omega)
  · skip
    obtain rfl : i = u.es.length := by omega
    rw [List.take_length] at hye
    have hyl2 : y.es.length = (fltE key u.es).length := by rw [hye]
    have hfl := fltE_len key u.es
    refine CW.exit rfl ?_
    refine KN.code ?_
    refine CW.seq ?_
    refine CW.seq ?_
    refine CW.regD (.st true 0 (.st true 1 (.st true 2 (.st true 3 (.st true 4 (.st true 5 (.st true 6 (.st true 7 (.st true 8 (.st true 9 (.st true 10 (.st true 11 (.st true 12 (.st true 13 (.st true 14 (.st true 15 (.st true 16 (.st true 17 (.st true 18 (.st true 19 .done)))))))))))))))))))) (fun w2 => w2.cell? ⟨b, 3, none⟩ = some (.slice u.A u.es.length u.c) ∧ w2.cell? ⟨b, 1, none⟩ = some (.int .i64 most)) mixed (by kernel_rfl) (fun _ h => h.drew) (fun _ hw => ⟨hw.blkCell (i := 1) rfl rfl, hw.blkCell (i := 1) rfl rfl⟩) ?_
    refine s_mv 62 rfl rfl ?_
    refine s_len 63 rfl rfl ?_
    refine s_mv 64 rfl rfl ?_
    refine s_nil 65 rfl rfl ?_
    refine s_fa 66 rfl rfl ?_
    refine s_ldS 67 rfl rfl (v := .slice u.A u.es.length u.c) (fun _ hw => hw.1) ?_
    refine s_len 68 rfl rfl ?_
    refine s_eq 69 rfl rfl rfl rfl ?_
    refine s_mv 70 rfl rfl ?_
    refine SX.bool 70 rfl (fun hb => ?_) (fun hb => ?_)
    · skip
      have hq := of_decide_eq_true hb
      have hq2 := hfl.1 (by omega)
      refine s_mv 71 rfl rfl ?_
      refine s_nil 72 rfl rfl ?_
      refine s_fa 73 rfl rfl ?_
      refine s_ldS 74 rfl rfl (v := .slice u.A u.es.length u.c) (fun _ hw => hw.1) ?_
      refine s_len 75 rfl rfl ?_
      refine s_mv 76 rfl rfl ?_
      refine s_nil 77 rfl rfl ?_
      refine s_fa 78 rfl rfl ?_
      refine s_ldS 79 rfl rfl (v := .int .i64 most) (fun _ hw => hw.2) ?_
      refine s_ge 80 rfl rfl rfl (decide_eq_false (by omega)) ?_
      refine s_pickT 81 rfl rfl rfl ?_
      refine SX.next ?_
      refine CW.condF rfl ?_
      refine CW.skip ?_
      refine KN.code ?_
      refine CW.seq ?_
      refine CW.reg [0, 1, 2, 3, 4] rfl ?_
      refine s_mv 82 rfl rfl ?_
      refine s_mv 83 rfl rfl ?_
      refine s_build 84 rfl rfl (cells := #[.int .i64 key, .bool true, .slice none 0 0]) (by kernel_rfl) ?_
      refine s_alloc 11 rfl (fun _ _ => trivial) (fun b11 => ?_)
      refine s_stAll 0 rfl rfl (by kernel_rfl) rfl rfl rfl rfl (fun _ _ => trivial) ?_
      refine SX.next ?_
      refine CW.seq ?_
      refine CW.seq ?_
      refine CW.reg [0, 1] rfl ?_
      refine s_mv 85 rfl rfl ?_
      refine s_not 86 rfl rfl ?_
      refine SX.next ?_
      refine CW.condF rfl ?_
      refine CW.skip ?_
      refine KN.code ?_
      refine CW.seq ?_
      refine CW.reg [0, 1, 2, 3, 4, 5, 6, 7] rfl ?_
      refine s_mv 90 rfl rfl ?_
      refine s_mv 91 rfl rfl ?_
      refine s_ldW 92 0 rfl rfl rfl ?_
      refine s_bsl 93 rfl rfl (cells := #[.int .i64 key, .bool true, .slice none 0 0]) (by kernel_rfl) rfl (fun _ _ => trivial) (fun gb => ?_)
      refine s_app 94 2 rfl rfl rfl rfl (ys := (⟨key, true, none, 0, []⟩ : EntG).row) (fun w hw => Has.cong ((hw.has (i := 0) rfl).blk_sl (m := 1) rfl) rfl) rfl rfl (by omega) (by unfold maxLen; omega) (by omega) (fun _ _ _ _ => trivial) (fun A2 c2 hc2 => ?_)
      refine s_nil 95 rfl rfl ?_
      refine s_fa 96 rfl rfl ?_
      refine s_stB 3 rfl rfl rfl rfl rfl (by show 3 < 4; decide) (fun _ _ => trivial) ?_
      refine SX.next ?_
      refine CW.seq ?_
      refine CW.reg [0] rfl ?_
      refine s_as 8 rfl rfl ?_
      refine SX.next ?_
      refine CW.ret ?_
      exact KN.ret (rs := [.tmp 8]) Tryd.results61 rfl (fun w hw => ⟨(⟨A2, c2, y.es ++ [(⟨key, true, none, 0, []⟩ : EntG)]⟩, none, 0), rfl, by simp only; rw [hye], by
  have h1 := (hw.pick [5, 3, 2] rfl).starLess (X' := datsE y.es) (by rw [hye]; exact (fltE_sub key u.es).map _)
  have h1 := h1.begin_ 5 1
  have h2 := h1.starMore
  have e1 : (y.es ++ [(⟨key, true, none, 0, []⟩ : EntG)]).length = y.es.length + 1 := by rw [List.length_append]; rfl
  have e2 : rowsE (y.es ++ [(⟨key, true, none, 0, []⟩ : EntG)]) = rowsE y.es ++ (⟨key, true, none, 0, []⟩ : EntG).row := by rw [rowsE_app]; rfl
  have e3 : datsE (y.es ++ [(⟨key, true, none, 0, []⟩ : EntG)]) = datsE y.es ++ [(⟨key, true, none, 0, []⟩ : EntG).dat] := List.map_append
  simp only [e1, e2, e3]
  exact h2.pick [1, 1, 0] rfl⟩)
    · skip
      refine SX.skip rfl ?_
      refine SX.skip rfl ?_
      refine SX.skip rfl ?_
      refine SX.skip rfl ?_
      refine SX.skip rfl ?_
      refine SX.skip rfl ?_
      refine SX.skip rfl ?_
      refine SX.skip rfl ?_
      refine SX.skip rfl ?_
      refine SX.skip rfl ?_
      refine s_pickF 81 rfl rfl rfl ?_
      refine SX.next ?_
      refine CW.condF rfl ?_
      refine CW.skip ?_
      refine KN.code ?_
      refine CW.seq ?_
      refine CW.reg [0, 1, 2, 3, 4] rfl ?_
      refine s_mv 82 rfl rfl ?_
      refine s_mv 83 rfl rfl ?_
      refine s_build 84 rfl rfl (cells := #[.int .i64 key, .bool true, .slice none 0 0]) (by kernel_rfl) ?_
      refine s_alloc 11 rfl (fun _ _ => trivial) (fun b11 => ?_)
      refine s_stAll 0 rfl rfl (by kernel_rfl) rfl rfl rfl rfl (fun _ _ => trivial) ?_
      refine SX.next ?_
      refine CW.seq ?_
      refine CW.seq ?_
      refine CW.reg [0, 1] rfl ?_
      refine s_mv 85 rfl rfl ?_
      refine s_not 86 rfl rfl ?_
      refine SX.next ?_
      refine CW.condF rfl ?_
      refine CW.skip ?_
      refine KN.code ?_
      refine CW.seq ?_
      refine CW.reg [0, 1, 2, 3, 4, 5, 6, 7] rfl ?_
      refine s_mv 90 rfl rfl ?_
      refine s_mv 91 rfl rfl ?_
      refine s_ldW 92 0 rfl rfl rfl ?_
      refine s_bsl 93 rfl rfl (cells := #[.int .i64 key, .bool true, .slice none 0 0]) (by kernel_rfl) rfl (fun _ _ => trivial) (fun gb => ?_)
      refine s_app 94 2 rfl rfl rfl rfl (ys := (⟨key, true, none, 0, []⟩ : EntG).row) (fun w hw => Has.cong ((hw.has (i := 0) rfl).blk_sl (m := 1) rfl) rfl) rfl rfl (by omega) (by unfold maxLen; omega) (by omega) (fun _ _ _ _ => trivial) (fun A2 c2 hc2 => ?_)
      refine s_nil 95 rfl rfl ?_
      refine s_fa 96 rfl rfl ?_
      refine s_stB 3 rfl rfl rfl rfl rfl (by show 3 < 4; decide) (fun _ _ => trivial) ?_
      refine SX.next ?_
      refine CW.seq ?_
      refine CW.reg [0] rfl ?_
      refine s_as 8 rfl rfl ?_
      refine SX.next ?_
      refine CW.ret ?_
      exact KN.ret (rs := [.tmp 8]) Tryd.results61 rfl (fun w hw => ⟨(⟨A2, c2, y.es ++ [(⟨key, true, none, 0, []⟩ : EntG)]⟩, none, 0), rfl, by simp only; rw [hye], by
  have h1 := (hw.pick [5, 3, 2] rfl).starLess (X' := datsE y.es) (by rw [hye]; exact (fltE_sub key u.es).map _)
  have h1 := h1.begin_ 5 1
  have h2 := h1.starMore
  have e1 : (y.es ++ [(⟨key, true, none, 0, []⟩ : EntG)]).length = y.es.length + 1 := by rw [List.length_append]; rfl
  have e2 : rowsE (y.es ++ [(⟨key, true, none, 0, []⟩ : EntG)]) = rowsE y.es ++ (⟨key, true, none, 0, []⟩ : EntG).row := by rw [rowsE_app]; rfl
  have e3 : datsE (y.es ++ [(⟨key, true, none, 0, []⟩ : EntG)]) = datsE y.es ++ [(⟨key, true, none, 0, []⟩ : EntG).dat] := List.map_append
  simp only [e1, e2, e3]
  exact h2.pick [1, 1, 0] rfl⟩)

theorem dput_full2 (F : Nat → Prop) (b : Nat) (size most sectors : Int) (u : BufG) (key : Int) (A : Option Addr) (n c : Nat) (p : List Nat) (w : World) (hn : u.es.length ≤ 1000) (hd : ∀ w', Fr F w w' → Has (sl 1 A n (nats .u8 p)) w') (hp : n ≤ 1000000) (h0 : 0 ≤ key) (h1 : key < sectors) (hsz : (p.length : Int) = size) (hpl : plI key u.es = -1) (hfu : most ≤ (u.es.length : Int)) (hw : St F w [blk b 90 #[.int .i64 size, .int .i64 most, .int .i64 sectors, .slice u.A u.es.length u.c], own 73 3 u.A u.es.length u.c (rowsE u.es), starA (datsE u.es)] w) : SpecP Tryd.prog 61 [.pointer (some ⟨b, 0, none⟩), .int .i64 key, .slice A n c, .bool false] F w (X := BufG × Option Addr × Nat) (fun _ => .int .i64 114) (fun x => x.1.es = u.es) (fun x => [blk b 90 #[.int .i64 size, .int .i64 most, .int .i64 sectors, .slice x.1.A x.1.es.length x.1.c], own 73 3 x.1.A x.1.es.length x.1.c (rowsE x.1.es), starA (datsE x.1.es)]) := by
  have hla := nats_len (hd w (Fr.refl _ _))
  subst hla
  refine spec_ofC Tryd.func61 rfl Tryd.ntmps61 rfl hw ?_
  refine CW.seq ?_
  refine CW.reg [0] rfl ?_
  refine s_as 8 rfl rfl ?_
  refine SX.next ?_
  refine CW.seq ?_
  refine CW.seq ?_
  refine CW.reg [0, 1, 2, 3, 4, 5, 6, 7, 8, 9] rfl ?_
  refine s_mv 12 rfl rfl ?_
  refine s_lt 13 rfl rfl rfl (decide_eq_false (by omega)) ?_
  refine s_mv 14 rfl rfl ?_
  refine s_mv 15 rfl rfl ?_
  refine s_mv 16 rfl rfl ?_
  refine s_nil 17 rfl rfl ?_
  refine s_fa 18 rfl rfl ?_
  refine s_ldB 19 0 rfl rfl rfl (v := .int .i64 sectors) rfl ?_
  refine s_ge 20 rfl rfl rfl (decide_eq_false (by omega)) ?_
  refine s_pickF 21 rfl rfl rfl ?_
  refine SX.next ?_
  refine CW.condF rfl ?_
  refine CW.skip ?_
  refine KN.code ?_
  refine CW.seq ?_
  refine CW.seq ?_
  refine CW.reg [0, 1, 2, 3, 4, 5, 6, 7, 8, 9, 10] rfl ?_
  refine s_mv 22 rfl rfl ?_
  refine s_not 23 rfl rfl ?_
  refine s_mv 24 rfl rfl ?_
  refine s_mv 25 rfl rfl ?_
  refine s_len 26 rfl rfl ?_
  refine s_mv 27 rfl rfl ?_
  refine s_nil 28 rfl rfl ?_
  refine s_fa 29 rfl rfl ?_
  refine s_ldB 30 0 rfl rfl rfl (v := .int .i64 size) rfl ?_
  refine s_ne 31 rfl rfl rfl (decide_eq_false (by omega)) ?_
  refine s_pickT 32 rfl rfl rfl ?_
  refine SX.next ?_
  refine CW.condF rfl ?_
  refine CW.skip ?_
  refine KN.code ?_
  refine CW.seq ?_
  refine CW.reg [0] rfl ?_
  refine s_as 9 rfl rfl ?_
  refine SX.next ?_
  refine CW.seq ?_
  refine CW.seq ?_
  refine CW.reg [0] rfl ?_
  refine s_as 10 rfl rfl ?_
  refine SX.next ?_
  refine CW.block ?_
  refine CW.loop (G := Nat × BufG) (fun z => [(0, .pointer (some ⟨b, 0, none⟩)), (1, .int .i64 key), (2, .slice A p.length c), (3, .bool false), (9, .slice z.2.A z.2.es.length z.2.c), (10, .int .i64 (z.1 : Nat))]) (fun z => (St F w [own 73 3 z.2.A z.2.es.length z.2.c (rowsE z.2.es), blk b 90 #[.int .i64 size, .int .i64 most, .int .i64 sectors, .slice u.A u.es.length u.c], own 73 3 u.A u.es.length u.c (rowsE u.es), starA (datsE u.es)])) (fun z => z.1 ≤ u.es.length ∧ z.2.es = fltE key (u.es.take z.1) ∧ z.2.es.length ≤ z.2.c) (fun z => u.es.length - z.1) (0, ⟨none, 0, []⟩) ⟨rfl, rfl, rfl, rfl, rfl, rfl, trivial⟩ (fun _ h => h.begin_ 73 3) ⟨Nat.zero_le _, rfl, Nat.le_refl _⟩ ?_
  rintro ⟨i, y⟩ ⟨hi, hye, hyc⟩
  simp only at hi hye hyc
  dsimp only
  have hyl : y.es.length ≤ u.es.length := by rw [hye]; exact Nat.le_trans (fltE_len_le _ _) (by rw [List.length_take]; omega)
  refine CW.seq ?_
  refine CW.seq ?_
  refine CW.reg [0, 1, 2, 3, 4, 5, 6] rfl ?_
  refine s_mv 33 rfl rfl ?_
  refine s_mv 34 rfl rfl ?_
  refine s_nil 35 rfl rfl ?_
  refine s_fa 36 rfl rfl ?_
  refine s_ldB 37 1 rfl rfl rfl (v := .slice u.A u.es.length u.c) rfl ?_
  refine s_len 38 rfl rfl ?_
  refine s_lt 39 rfl rfl rfl rfl ?_
  refine SX.next ?_
  refine CW.test rfl (fun hc => ?_) (fun hc => ?_)
  · skip
    have hil : i < u.es.length := by omega
    have he := gE_at hil
    have hfl := fltE_take (k := key) he
    refine CW.skip ?_
    refine KN.code ?_
    refine CW.seq ?_
    refine CW.block ?_
    refine CW.seq ?_
    refine CW.reg [0, 1, 2, 3, 4, 5, 6, 7, 8, 9] rfl ?_
    refine s_mv 42 rfl rfl ?_
    refine s_nil 43 rfl rfl ?_
    refine s_fa 44 rfl rfl ?_
    refine s_ldB 45 1 rfl rfl rfl (v := .slice u.A u.es.length u.c) rfl ?_
    refine s_mv 46 rfl rfl ?_
    refine s_iaV 47 i (fun w hw => (hw.has (i := 2) rfl).of_own) rfl rfl rfl rfl hil ?_
    refine s_fa 48 rfl rfl ?_
    refine s_ld 49 rfl rfl (v := .int .i64 (gE u.es i).k) (fun _ hw => ((hw.has (i := 2) rfl).of_own).entRow he 0 _ rfl) ?_
    refine s_mv 50 rfl rfl ?_
    refine s_ne 51 rfl rfl rfl rfl ?_
    refine SX.next ?_
    refine CW.test rfl (fun hc => ?_) (fun hc => ?_)
    · skip
      refine CW.reg [0, 1, 2, 3, 4, 5, 6, 7, 8, 9, 10] rfl ?_
      refine s_mv 52 rfl rfl ?_
      refine s_mv 53 rfl rfl ?_
      refine s_nil 54 rfl rfl ?_
      refine s_fa 55 rfl rfl ?_
      refine s_ldB 56 1 rfl rfl rfl (v := .slice u.A u.es.length u.c) rfl ?_
      refine s_mv 57 rfl rfl ?_
      refine s_iaV 58 i (fun w hw => (hw.has (i := 2) rfl).of_own) rfl rfl rfl rfl hil ?_
      refine s_ldR 59 (cs := (gE u.es i).row) rfl rfl rfl (fun w hw => ((hw.has (i := 2) rfl).of_own).entRow he) ?_
      refine s_bsl 60 rfl rfl (cells := #[.int .i64 (gE u.es i).k, .bool (gE u.es i).tr, .slice (gE u.es i).A (gE u.es i).l.length (gE u.es i).c]) (by kernel_rfl) rfl (fun _ _ => trivial) (fun gb => ?_)
      refine s_app 61 1 rfl rfl rfl rfl (ys := (gE u.es i).row) (fun w hw => Has.cong ((hw.has (i := 0) rfl).blk_sl (m := 1) rfl) rfl) rfl rfl (by omega) (by unfold maxLen; omega) (by omega) (fun _ _ _ _ => trivial) (fun A2 c2 hc2 => ?_)
      refine s_as 9 rfl rfl ?_
      refine SX.end_ ?_
      refine KN.blk ?_
      refine KN.code ?_
      refine CW.reg [0, 1, 2] rfl ?_
      refine s_mv 40 rfl rfl ?_
      refine s_add 41 rfl rfl rfl (r := ((i + 1 : Nat) : Int)) (w64 (by omega)) ?_
      refine s_as 10 rfl rfl ?_
      refine SX.end_ ?_
      exact KN.back (i + 1, ⟨A2, c2, y.es ++ [(gE u.es i)]⟩) ⟨rfl, rfl, rfl, rfl, (by show some (Value.slice A2 (y.es.length + 1) c2) = some (.slice A2 (y.es ++ [(gE u.es i)]).length c2); rw [List.length_append]; rfl), rfl, trivial⟩ (fun _ h => by
        have h1 := h.pick [1, 1, 1, 1] rfl
        have e1 : (y.es ++ [(gE u.es i)]).length = y.es.length + 1 := by rw [List.length_append]; rfl
        have e2 : rowsE (y.es ++ [(gE u.es i)]) = rowsE y.es ++ (gE u.es i).row := by rw [rowsE_app]; rfl
        simp only [e1, e2]
        exact h1) ⟨by simp only; omega, by simp only; rw [hfl, if_neg hc, hye], by simp only [List.length_append, List.length_singleton]; exact hc2⟩ (by simp only; omega)
    · skip
      have hck : (gE u.es i).k = key := Decidable.of_not_not hc
      refine CW.skip ?_
      refine KN.blk ?_
      refine KN.code ?_
      refine CW.reg [0, 1, 2] rfl ?_
      refine s_mv 40 rfl rfl ?_
      refine s_add 41 rfl rfl rfl (r := ((i + 1 : Nat) : Int)) (w64 (by omega)) ?_
      refine s_as 10 rfl rfl ?_
      refine SX.end_ ?_
      exact KN.back (i + 1, y) ⟨rfl, rfl, rfl, rfl, rfl, rfl, trivial⟩ (fun _ h => h) ⟨by simp only; omega, by simp only; rw [hfl, if_pos hck]; exact hye, hyc⟩ (by simp only; omega)
  · skip
    obtain rfl : i = u.es.length := by omega
    rw [List.take_length] at hye
    have hyl2 : y.es.length = (fltE key u.es).length := by rw [hye]
    have hfl := fltE_len key u.es
    refine CW.exit rfl ?_
    refine KN.code ?_
    refine CW.seq ?_
    refine CW.seq ?_
    refine CW.regD (.st true 0 (.st true 1 (.st true 2 (.st true 3 (.st true 4 (.st true 5 (.st true 6 (.st true 7 (.st true 8 (.st true 9 (.st true 10 (.st true 11 (.st true 12 (.st true 13 (.st true 14 (.st true 15 (.st true 16 (.st true 17 (.st true 18 (.st true 19 .done)))))))))))))))))))) (fun w2 => w2.cell? ⟨b, 3, none⟩ = some (.slice u.A u.es.length u.c) ∧ w2.cell? ⟨b, 1, none⟩ = some (.int .i64 most)) mixed (by kernel_rfl) (fun _ h => h.drew) (fun _ hw => ⟨hw.blkCell (i := 1) rfl rfl, hw.blkCell (i := 1) rfl rfl⟩) ?_
    refine s_mv 62 rfl rfl ?_
    refine s_len 63 rfl rfl ?_
    refine s_mv 64 rfl rfl ?_
    refine s_nil 65 rfl rfl ?_
    refine s_fa 66 rfl rfl ?_
    refine s_ldS 67 rfl rfl (v := .slice u.A u.es.length u.c) (fun _ hw => hw.1) ?_
    refine s_len 68 rfl rfl ?_
    refine s_eq 69 rfl rfl rfl (decide_eq_true (by rw [hyl2, hfl.2 hpl])) ?_
    refine s_mv 70 rfl rfl ?_
    refine s_mv 71 rfl rfl ?_
    refine s_nil 72 rfl rfl ?_
    refine s_fa 73 rfl rfl ?_
    refine s_ldS 74 rfl rfl (v := .slice u.A u.es.length u.c) (fun _ hw => hw.1) ?_
    refine s_len 75 rfl rfl ?_
    refine s_mv 76 rfl rfl ?_
    refine s_nil 77 rfl rfl ?_
    refine s_fa 78 rfl rfl ?_
    refine s_ldS 79 rfl rfl (v := .int .i64 most) (fun _ hw => hw.2) ?_
    refine s_ge 80 rfl rfl rfl (decide_eq_true (by omega)) ?_
    refine s_pickT 81 rfl rfl rfl ?_
    refine SX.next ?_
    refine CW.condT rfl ?_
    refine CW.seq ?_
    refine CW.reg [0] rfl ?_
    refine s_as 8 rfl rfl ?_
    refine SX.next ?_
    refine CW.ret ?_
    exact KN.ret (rs := [.tmp 8]) Tryd.results61 rfl (fun w hw => ⟨(u, none, 0), rfl, rfl, hw.pick [1, 1, 1] rfl⟩)

set_option maxHeartbeats 1600000 in

theorem dput_ok2 (F : Nat → Prop) (b : Nat) (size most sectors : Int) (u : BufG) (key : Int) (A : Option Addr) (n c : Nat) (p : List Nat) (w : World) (hn : u.es.length ≤ 1000) (hd : ∀ w', Fr F w w' → Has (sl 1 A n (nats .u8 p)) w') (hp : n ≤ 1000000) (h0 : 0 ≤ key) (h1 : key < sectors) (hsz : (p.length : Int) = size) (hno : ¬ (plI key u.es = -1 ∧ most ≤ (u.es.length : Int))) (hw : St F w [blk b 90 #[.int .i64 size, .int .i64 most, .int .i64 sectors, .slice u.A u.es.length u.c], own 73 3 u.A u.es.length u.c (rowsE u.es), starA (datsE u.es)] w) : SpecP Tryd.prog 61 [.pointer (some ⟨b, 0, none⟩), .int .i64 key, .slice A n c, .bool false] F w (X := BufG × Option Addr × Nat) (fun _ => .int .i64 0) (fun x => x.1.es = fltE key u.es ++ [⟨key, false, x.2.1, x.2.2, p⟩]) (fun x => [blk b 90 #[.int .i64 size, .int .i64 most, .int .i64 sectors, .slice x.1.A x.1.es.length x.1.c], own 73 3 x.1.A x.1.es.length x.1.c (rowsE x.1.es), starA (datsE x.1.es)]) := by
  have hla := nats_len (hd w (Fr.refl _ _))
  subst hla
  refine spec_ofC Tryd.func61 rfl Tryd.ntmps61 rfl hw ?_
  refine CW.seq ?_
  refine CW.reg [0] rfl ?_
  refine s_as 8 rfl rfl ?_
  refine SX.next ?_
  refine CW.seq ?_
  refine CW.seq ?_
  refine CW.reg [0, 1, 2, 3, 4, 5, 6, 7, 8, 9] rfl ?_
  refine s_mv 12 rfl rfl ?_
  refine s_lt 13 rfl rfl rfl (decide_eq_false (by omega)) ?_
  refine s_mv 14 rfl rfl ?_
  refine s_mv 15 rfl rfl ?_
  refine s_mv 16 rfl rfl ?_
  refine s_nil 17 rfl rfl ?_
  refine s_fa 18 rfl rfl ?_
  refine s_ldB 19 0 rfl rfl rfl (v := .int .i64 sectors) rfl ?_
  refine s_ge 20 rfl rfl rfl (decide_eq_false (by omega)) ?_
  refine s_pickF 21 rfl rfl rfl ?_
  refine SX.next ?_
  refine CW.condF rfl ?_
  refine CW.skip ?_
  refine KN.code ?_
  refine CW.seq ?_
  refine CW.seq ?_
  refine CW.reg [0, 1, 2, 3, 4, 5, 6, 7, 8, 9, 10] rfl ?_
  refine s_mv 22 rfl rfl ?_
  refine s_not 23 rfl rfl ?_
  refine s_mv 24 rfl rfl ?_
  refine s_mv 25 rfl rfl ?_
  refine s_len 26 rfl rfl ?_
  refine s_mv 27 rfl rfl ?_
  refine s_nil 28 rfl rfl ?_
  refine s_fa 29 rfl rfl ?_
  refine s_ldB 30 0 rfl rfl rfl (v := .int .i64 size) rfl ?_
  refine s_ne 31 rfl rfl rfl (decide_eq_false (by omega)) ?_
  refine s_pickT 32 rfl rfl rfl ?_
  refine SX.next ?_
  refine CW.condF rfl ?_
  refine CW.skip ?_
  refine KN.code ?_
  refine CW.seq ?_
  refine CW.reg [0] rfl ?_
  refine s_as 9 rfl rfl ?_
  refine SX.next ?_
  refine CW.seq ?_
  refine CW.seq ?_
  refine CW.reg [0] rfl ?_
  refine s_as 10 rfl rfl ?_
  refine SX.next ?_
  refine CW.block ?_
  refine CW.loop (G := Nat × BufG) (fun z => [(0, .pointer (some ⟨b, 0, none⟩)), (1, .int .i64 key), (2, .slice A p.length c), (3, .bool false), (9, .slice z.2.A z.2.es.length z.2.c), (10, .int .i64 (z.1 : Nat))]) (fun z => (St F w [own 73 3 z.2.A z.2.es.length z.2.c (rowsE z.2.es), blk b 90 #[.int .i64 size, .int .i64 most, .int .i64 sectors, .slice u.A u.es.length u.c], own 73 3 u.A u.es.length u.c (rowsE u.es), starA (datsE u.es)])) (fun z => z.1 ≤ u.es.length ∧ z.2.es = fltE key (u.es.take z.1) ∧ z.2.es.length ≤ z.2.c) (fun z => u.es.length - z.1) (0, ⟨none, 0, []⟩) ⟨rfl, rfl, rfl, rfl, rfl, rfl, trivial⟩ (fun _ h => h.begin_ 73 3) ⟨Nat.zero_le _, rfl, Nat.le_refl _⟩ ?_
  rintro ⟨i, y⟩ ⟨hi, hye, hyc⟩
  simp only at hi hye hyc
  dsimp only
  have hyl : y.es.length ≤ u.es.length := by rw [hye]; exact Nat.le_trans (fltE_len_le _ _) (by rw [List.length_take]; omega)
  refine CW.seq ?_
  refine CW.seq ?_
  refine CW.reg [0, 1, 2, 3, 4, 5, 6] rfl ?_
  refine s_mv 33 rfl rfl ?_
  refine s_mv 34 rfl rfl ?_
  refine s_nil 35 rfl rfl ?_
  refine s_fa 36 rfl rfl ?_
  refine s_ldB 37 1 rfl rfl rfl (v := .slice u.A u.es.length u.c) rfl ?_
  refine s_len 38 rfl rfl ?_
  refine s_lt 39 rfl rfl rfl rfl ?_
  refine SX.next ?_
  refine CW.test rfl (fun hc => ?_) (fun hc => ?_)
  · skip
    have hil : i < u.es.length := by omega
    have he := gE_at hil
    have hfl := fltE_take (k := key) he
    refine CW.skip ?_
    refine KN.code ?_
    refine CW.seq ?_
    refine CW.block ?_
    refine CW.seq ?_
    refine CW.reg [0, 1, 2, 3, 4, 5, 6, 7, 8, 9] rfl ?_
    refine s_mv 42 rfl rfl ?_
    refine s_nil 43 rfl rfl ?_
    refine s_fa 44 rfl rfl ?_
    refine s_ldB 45 1 rfl rfl rfl (v := .slice u.A u.es.length u.c) rfl ?_
    refine s_mv 46 rfl rfl ?_
    refine s_iaV 47 i (fun w hw => (hw.has (i := 2) rfl).of_own) rfl rfl rfl rfl hil ?_
    refine s_fa 48 rfl rfl ?_
    refine s_ld 49 rfl rfl (v := .int .i64 (gE u.es i).k) (fun _ hw => ((hw.has (i := 2) rfl).of_own).entRow he 0 _ rfl) ?_
    refine s_mv 50 rfl rfl ?_
    refine s_ne 51 rfl rfl rfl rfl ?_
    refine SX.next ?_
    refine CW.test rfl (fun hc => ?_) (fun hc => ?_)
    · skip
      refine CW.reg [0, 1, 2, 3, 4, 5, 6, 7, 8, 9, 10] rfl ?_
      refine s_mv 52 rfl rfl ?_
      refine s_mv 53 rfl rfl ?_
      refine s_nil 54 rfl rfl ?_
      refine s_fa 55 rfl rfl ?_
      refine s_ldB 56 1 rfl rfl rfl (v := .slice u.A u.es.length u.c) rfl ?_
      refine s_mv 57 rfl rfl ?_
      refine s_iaV 58 i (fun w hw => (hw.has (i := 2) rfl).of_own) rfl rfl rfl rfl hil ?_
      refine s_ldR 59 (cs := (gE u.es i).row) rfl rfl rfl (fun w hw => ((hw.has (i := 2) rfl).of_own).entRow he) ?_
      refine s_bsl 60 rfl rfl (cells := #[.int .i64 (gE u.es i).k, .bool (gE u.es i).tr, .slice (gE u.es i).A (gE u.es i).l.length (gE u.es i).c]) (by kernel_rfl) rfl (fun _ _ => trivial) (fun gb => ?_)
      refine s_app 61 1 rfl rfl rfl rfl (ys := (gE u.es i).row) (fun w hw => Has.cong ((hw.has (i := 0) rfl).blk_sl (m := 1) rfl) rfl) rfl rfl (by omega) (by unfold maxLen; omega) (by omega) (fun _ _ _ _ => trivial) (fun A2 c2 hc2 => ?_)
      refine s_as 9 rfl rfl ?_
      refine SX.end_ ?_
      refine KN.blk ?_
      refine KN.code ?_
      refine CW.reg [0, 1, 2] rfl ?_
      refine s_mv 40 rfl rfl ?_
      refine s_add 41 rfl rfl rfl (r := ((i + 1 : Nat) : Int)) (w64 (by omega)) ?_
      refine s_as 10 rfl rfl ?_
      refine SX.end_ ?_
      exact KN.back (i + 1, ⟨A2, c2, y.es ++ [(gE u.es i)]⟩) ⟨rfl, rfl, rfl, rfl, (by show some (Value.slice A2 (y.es.length + 1) c2) = some (.slice A2 (y.es ++ [(gE u.es i)]).length c2); rw [List.length_append]; rfl), rfl, trivial⟩ (fun _ h => by
        have h1 := h.pick [1, 1, 1, 1] rfl
        have e1 : (y.es ++ [(gE u.es i)]).length = y.es.length + 1 := by rw [List.length_append]; rfl
        have e2 : rowsE (y.es ++ [(gE u.es i)]) = rowsE y.es ++ (gE u.es i).row := by rw [rowsE_app]; rfl
        simp only [e1, e2]
        exact h1) ⟨by simp only; omega, by simp only; rw [hfl, if_neg hc, hye], by simp only [List.length_append, List.length_singleton]; exact hc2⟩ (by simp only; omega)
    · skip
      have hck : (gE u.es i).k = key := Decidable.of_not_not hc
      refine CW.skip ?_
      refine KN.blk ?_
      refine KN.code ?_
      refine CW.reg [0, 1, 2] rfl ?_
      refine s_mv 40 rfl rfl ?_
      refine s_add 41 rfl rfl rfl (r := ((i + 1 : Nat) : Int)) (w64 (by omega)) ?_
      refine s_as 10 rfl rfl ?_
      refine SX.end_ ?_
      exact KN.back (i + 1, y) ⟨rfl, rfl, rfl, rfl, rfl, rfl, trivial⟩ (fun _ h => h) ⟨by simp only; omega, by simp only; rw [hfl, if_pos hck]; exact hye, hyc⟩ (by simp only; omega)
  · skip
    obtain rfl : i = u.es.length := by omega
    rw [List.take_length] at hye
    have hyl2 : y.es.length = (fltE key u.es).length := by rw [hye]
    have hfl := fltE_len key u.es
    refine CW.exit rfl ?_
    refine KN.code ?_
    refine CW.seq ?_
    refine CW.seq ?_
    refine CW.regD (.st true 0 (.st true 1 (.st true 2 (.st true 3 (.st true 4 (.st true 5 (.st true 6 (.st true 7 (.st true 8 (.st true 9 (.st true 10 (.st true 11 (.st true 12 (.st true 13 (.st true 14 (.st true 15 (.st true 16 (.st true 17 (.st true 18 (.st true 19 .done)))))))))))))))))))) (fun w2 => w2.cell? ⟨b, 3, none⟩ = some (.slice u.A u.es.length u.c) ∧ w2.cell? ⟨b, 1, none⟩ = some (.int .i64 most)) mixed (by kernel_rfl) (fun _ h => h.drew) (fun _ hw => ⟨hw.blkCell (i := 1) rfl rfl, hw.blkCell (i := 1) rfl rfl⟩) ?_
    refine s_mv 62 rfl rfl ?_
    refine s_len 63 rfl rfl ?_
    refine s_mv 64 rfl rfl ?_
    refine s_nil 65 rfl rfl ?_
    refine s_fa 66 rfl rfl ?_
    refine s_ldS 67 rfl rfl (v := .slice u.A u.es.length u.c) (fun _ hw => hw.1) ?_
    refine s_len 68 rfl rfl ?_
    refine s_eq 69 rfl rfl rfl rfl ?_
    refine s_mv 70 rfl rfl ?_
    refine SX.bool 70 rfl (fun hb => ?_) (fun hb => ?_)
    · skip
      have hq := of_decide_eq_true hb
      have hq2 := hfl.1 (by omega)
      refine s_mv 71 rfl rfl ?_
      refine s_nil 72 rfl rfl ?_
      refine s_fa 73 rfl rfl ?_
      refine s_ldS 74 rfl rfl (v := .slice u.A u.es.length u.c) (fun _ hw => hw.1) ?_
      refine s_len 75 rfl rfl ?_
      refine s_mv 76 rfl rfl ?_
      refine s_nil 77 rfl rfl ?_
      refine s_fa 78 rfl rfl ?_
      refine s_ldS 79 rfl rfl (v := .int .i64 most) (fun _ hw => hw.2) ?_
      refine s_ge 80 rfl rfl rfl (decide_eq_false (by omega)) ?_
      refine s_pickT 81 rfl rfl rfl ?_
      refine SX.next ?_
      refine CW.condF rfl ?_
      refine CW.skip ?_
      refine KN.code ?_
      refine CW.seq ?_
      refine CW.reg [0, 1, 2, 3, 4] rfl ?_
      refine s_mv 82 rfl rfl ?_
      refine s_mv 83 rfl rfl ?_
      refine s_build 84 rfl rfl (cells := #[.int .i64 key, .bool false, .slice none 0 0]) (by kernel_rfl) ?_
      refine s_alloc 11 rfl (fun _ _ => trivial) (fun b11 => ?_)
      refine s_stAll 0 rfl rfl (by kernel_rfl) rfl rfl rfl rfl (fun _ _ => trivial) ?_
      refine SX.next ?_
      refine CW.seq ?_
      refine CW.seq ?_
      refine CW.reg [0, 1] rfl ?_
      refine s_mv 85 rfl rfl ?_
      refine s_not 86 rfl rfl ?_
      refine SX.next ?_
      refine CW.condT rfl ?_
      refine CW.reg [0, 1, 2, 3] rfl ?_
      refine s_mv 87 rfl rfl ?_
      refine s_call 88 rfl rfl rfl rfl (fun w2 hw => rbytes_spec A p.length c p w2 (hd _ hw.fr) hp) (fun _ _ => trivial) (fun z hz => ?_)
      refine s_fa 89 rfl rfl ?_
      refine s_stB 1 rfl rfl rfl rfl rfl (by show 2 < 3; decide) (fun _ _ => trivial) ?_
      refine SX.next ?_
      refine CW.seq ?_
      refine CW.reg [0, 1, 2, 3, 4, 5, 6, 7] rfl ?_
      refine s_mv 90 rfl rfl ?_
      refine s_mv 91 rfl rfl ?_
      refine s_ldW 92 1 rfl rfl rfl ?_
      refine s_bsl 93 rfl rfl (cells := #[.int .i64 key, .bool false, .slice z.1 p.length z.2]) (by kernel_rfl) rfl (fun _ _ => trivial) (fun gb => ?_)
      refine s_app 94 3 rfl rfl rfl rfl (ys := (⟨key, false, z.1, z.2, p⟩ : EntG).row) (fun w hw => Has.cong ((hw.has (i := 0) rfl).blk_sl (m := 1) rfl) rfl) rfl rfl (by omega) (by unfold maxLen; omega) (by omega) (fun _ _ _ _ => trivial) (fun A2 c2 hc2 => ?_)
      refine s_nil 95 rfl rfl ?_
      refine s_fa 96 rfl rfl ?_
      refine s_stB 4 rfl rfl rfl rfl rfl (by show 3 < 4; decide) (fun _ _ => trivial) ?_
      refine SX.next ?_
      refine CW.seq ?_
      refine CW.reg [0] rfl ?_
      refine s_as 8 rfl rfl ?_
      refine SX.next ?_
      refine CW.ret ?_
      exact KN.ret (rs := [.tmp 8]) Tryd.results61 rfl (fun w hw => ⟨(⟨A2, c2, y.es ++ [(⟨key, false, z.1, z.2, p⟩ : EntG)]⟩, z), rfl, by simp only; rw [hye], by
  have h1 := (hw.pick [6, 1, 3, 2] rfl).starLess (X' := datsE y.es) (by rw [hye]; exact (fltE_sub key u.es).map _)
  have h1 := h1.pick [1, 0, 0, 0] rfl
  have h2 := h1.starMore
  have e1 : (y.es ++ [(⟨key, false, z.1, z.2, p⟩ : EntG)]).length = y.es.length + 1 := by rw [List.length_append]; rfl
  have e2 : rowsE (y.es ++ [(⟨key, false, z.1, z.2, p⟩ : EntG)]) = rowsE y.es ++ (⟨key, false, z.1, z.2, p⟩ : EntG).row := by rw [rowsE_app]; rfl
  have e3 : datsE (y.es ++ [(⟨key, false, z.1, z.2, p⟩ : EntG)]) = datsE y.es ++ [(⟨key, false, z.1, z.2, p⟩ : EntG).dat] := List.map_append
  simp only [e1, e2, e3]
  exact h2.pick [1, 1, 0] rfl⟩)
    · skip
      refine SX.skip rfl ?_
      refine SX.skip rfl ?_
      refine SX.skip rfl ?_
      refine SX.skip rfl ?_
      refine SX.skip rfl ?_
      refine SX.skip rfl ?_
      refine SX.skip rfl ?_
      refine SX.skip rfl ?_
      refine SX.skip rfl ?_
      refine SX.skip rfl ?_
      refine s_pickF 81 rfl rfl rfl ?_
      refine SX.next ?_
      refine CW.condF rfl ?_
      refine CW.skip ?_
      refine KN.code ?_
      refine CW.seq ?_
      refine CW.reg [0, 1, 2, 3, 4] rfl ?_
      refine s_mv 82 rfl rfl ?_
      refine s_mv 83 rfl rfl ?_
      refine s_build 84 rfl rfl (cells := #[.int .i64 key, .bool false, .slice none 0 0]) (by kernel_rfl) ?_
      refine s_alloc 11 rfl (fun _ _ => trivial) (fun b11 => ?_)
      refine s_stAll 0 rfl rfl (by kernel_rfl) rfl rfl rfl rfl (fun _ _ => trivial) ?_
      refine SX.next ?_
      refine CW.seq ?_
      refine CW.seq ?_
      refine CW.reg [0, 1] rfl ?_
      refine s_mv 85 rfl rfl ?_
      refine s_not 86 rfl rfl ?_
      refine SX.next ?_
      refine CW.condT rfl ?_
      refine CW.reg [0, 1, 2, 3] rfl ?_
      refine s_mv 87 rfl rfl ?_
      refine s_call 88 rfl rfl rfl rfl (fun w2 hw => rbytes_spec A p.length c p w2 (hd _ hw.fr) hp) (fun _ _ => trivial) (fun z hz => ?_)
      refine s_fa 89 rfl rfl ?_
      refine s_stB 1 rfl rfl rfl rfl rfl (by show 2 < 3; decide) (fun _ _ => trivial) ?_
      refine SX.next ?_
      refine CW.seq ?_
      refine CW.reg [0, 1, 2, 3, 4, 5, 6, 7] rfl ?_
      refine s_mv 90 rfl rfl ?_
      refine s_mv 91 rfl rfl ?_
      refine s_ldW 92 1 rfl rfl rfl ?_
      refine s_bsl 93 rfl rfl (cells := #[.int .i64 key, .bool false, .slice z.1 p.length z.2]) (by kernel_rfl) rfl (fun _ _ => trivial) (fun gb => ?_)
      refine s_app 94 3 rfl rfl rfl rfl (ys := (⟨key, false, z.1, z.2, p⟩ : EntG).row) (fun w hw => Has.cong ((hw.has (i := 0) rfl).blk_sl (m := 1) rfl) rfl) rfl rfl (by omega) (by unfold maxLen; omega) (by omega) (fun _ _ _ _ => trivial) (fun A2 c2 hc2 => ?_)
      refine s_nil 95 rfl rfl ?_
      refine s_fa 96 rfl rfl ?_
      refine s_stB 4 rfl rfl rfl rfl rfl (by show 3 < 4; decide) (fun _ _ => trivial) ?_
      refine SX.next ?_
      refine CW.seq ?_
      refine CW.reg [0] rfl ?_
      refine s_as 8 rfl rfl ?_
      refine SX.next ?_
      refine CW.ret ?_
      exact KN.ret (rs := [.tmp 8]) Tryd.results61 rfl (fun w hw => ⟨(⟨A2, c2, y.es ++ [(⟨key, false, z.1, z.2, p⟩ : EntG)]⟩, z), rfl, by simp only; rw [hye], by
  have h1 := (hw.pick [6, 1, 3, 2] rfl).starLess (X' := datsE y.es) (by rw [hye]; exact (fltE_sub key u.es).map _)
  have h1 := h1.pick [1, 0, 0, 0] rfl
  have h2 := h1.starMore
  have e1 : (y.es ++ [(⟨key, false, z.1, z.2, p⟩ : EntG)]).length = y.es.length + 1 := by rw [List.length_append]; rfl
  have e2 : rowsE (y.es ++ [(⟨key, false, z.1, z.2, p⟩ : EntG)]) = rowsE y.es ++ (⟨key, false, z.1, z.2, p⟩ : EntG).row := by rw [rowsE_app]; rfl
  have e3 : datsE (y.es ++ [(⟨key, false, z.1, z.2, p⟩ : EntG)]) = datsE y.es ++ [(⟨key, false, z.1, z.2, p⟩ : EntG).dat] := List.map_append
  simp only [e1, e2, e3]
  exact h2.pick [1, 1, 0] rfl⟩)

theorem dput_trim (F : Nat → Prop) (b : Nat) (size most sectors : Int) (u : BufG) (key : Int) (w : World) (hn : u.es.length ≤ 1000) (hw : St F w [blk b 90 #[.int .i64 size, .int .i64 most, .int .i64 sectors, .slice u.A u.es.length u.c], own 73 3 u.A u.es.length u.c (rowsE u.es), starA (datsE u.es)] w) : SpecP Tryd.prog 61 [.pointer (some ⟨b, 0, none⟩), .int .i64 key, .slice none 0 0, .bool true] F w (X := BufG × Option Addr × Nat) (fun _ => .int .i64 (dV most sectors true u.es key)) (fun x => x.1.es = dRes most sectors true u.es ⟨key, true, none, 0, []⟩) (fun x => [blk b 90 #[.int .i64 size, .int .i64 most, .int .i64 sectors, .slice x.1.A x.1.es.length x.1.c], own 73 3 x.1.A x.1.es.length x.1.c (rowsE x.1.es), starA (datsE x.1.es)]) := by
  unfold dV dRes
  by_cases h1 : key < 0 ∨ sectors ≤ key
  · rw [if_pos h1]
    simp only [if_pos h1]
    exact dput_num F b size most sectors u key w hn h1 hw
  · rw [if_neg h1, if_neg (by decide)]
    simp only [if_neg h1, Bool.true_eq_false, if_false]
    by_cases h3 : plI key u.es = -1 ∧ most ≤ (u.es.length : Int)
    · rw [if_pos h3]
      simp only [if_pos h3]
      exact dput_full F b size most sectors u key w hn (by omega) (by omega) h3.1 h3.2 hw
    · rw [if_neg h3]
      simp only [if_neg h3]
      exact dput_ok F b size most sectors u key w hn (by omega) (by omega) h3 hw
theorem dput_data (F : Nat → Prop) (b : Nat) (size most sectors : Int) (u : BufG) (key : Int) (A : Option Addr) (n c : Nat) (p : List Nat) (w : World) (hn : u.es.length ≤ 1000) (hd : ∀ w', Fr F w w' → Has (sl 1 A n (nats .u8 p)) w') (hp : n ≤ 1000000) (hw : St F w [blk b 90 #[.int .i64 size, .int .i64 most, .int .i64 sectors, .slice u.A u.es.length u.c], own 73 3 u.A u.es.length u.c (rowsE u.es), starA (datsE u.es)] w) : SpecP Tryd.prog 61 [.pointer (some ⟨b, 0, none⟩), .int .i64 key, .slice A n c, .bool false] F w (X := BufG × Option Addr × Nat) (fun _ => .int .i64 (dV most sectors (decide ((p.length : Int) = size)) u.es key)) (fun x => x.1.es = dRes most sectors (decide ((p.length : Int) = size)) u.es ⟨key, false, x.2.1, x.2.2, p⟩) (fun x => [blk b 90 #[.int .i64 size, .int .i64 most, .int .i64 sectors, .slice x.1.A x.1.es.length x.1.c], own 73 3 x.1.A x.1.es.length x.1.c (rowsE x.1.es), starA (datsE x.1.es)]) := by
  unfold dV dRes
  by_cases h1 : key < 0 ∨ sectors ≤ key
  · rw [if_pos h1]
    simp only [if_pos h1]
    exact dput_num2 F b size most sectors u key A n c p w hn hd hp h1 hw
  · rw [if_neg h1]
    simp only [if_neg h1]
    by_cases h2 : (p.length : Int) = size
    · simp only [decide_eq_true h2, Bool.true_eq_false, if_false]
      by_cases h3 : plI key u.es = -1 ∧ most ≤ (u.es.length : Int)
      · simp only [if_pos h3]
        exact dput_full2 F b size most sectors u key A n c p w hn hd hp (by omega) (by omega) h2 h3.1 h3.2 hw
      · simp only [if_neg h3]
        exact dput_ok2 F b size most sectors u key A n c p w hn hd hp (by omega) (by omega) h2 h3 hw
    · simp only [decide_eq_false h2, if_true]
      exact dput_size F b size most sectors u key A n c p w hn hd hp (by omega) (by omega) h2 hw

theorem sameEs_spec (A : Option Addr) (c : Nat) (xs : List EntG) (B : Option Addr) (c2 : Nat) (ys : List EntG) (w : World) (hs : Has (sl 3 A xs.length (rowsE xs)) w) (hs2 : Has (sl 3 B ys.length (rowsE ys)) w) (hn : xs.length ≤ 100000) (hd : ∀ e ∈ xs, Has (sl 1 e.A e.l.length (nats .u8 e.l)) w) (hd2 : ∀ e ∈ ys, Has (sl 1 e.A e.l.length (nats .u8 e.l)) w) (h8 : ∀ e ∈ xs, ∀ t ∈ e.l, t < 256) (h82 : ∀ e ∈ ys, ∀ t ∈ e.l, t < 256) (hab : absE xs = absE ys) : Spec1 Tryd.prog 63 [.slice A xs.length c, .slice B ys.length c2] w (.bool true) := by
  have hll := absE_len hab
  refine spec_of Tryd.func63 rfl Tryd.ntmps63 rfl ?_
  refine CW.seq ?_
  refine CW.reg [0] rfl ?_
  refine s_as 4 rfl rfl ?_
  refine SX.next ?_
  refine CW.seq ?_
  refine CW.seq ?_
  refine CW.reg [0, 1, 2, 3, 4] rfl ?_
  refine s_mv 7 rfl rfl ?_
  refine s_len 8 rfl rfl ?_
  refine s_mv 9 rfl rfl ?_
  refine s_len 10 rfl rfl ?_
  refine s_ne 11 rfl rfl rfl (decide_eq_false (by omega)) ?_
  refine SX.next ?_
  refine CW.condF rfl ?_
  refine CW.skip ?_
  refine KN.code ?_
  refine CW.seq ?_
  refine CW.seq ?_
  refine CW.reg [0] rfl ?_
  refine s_as 5 rfl rfl ?_
  refine SX.next ?_
  refine CW.block ?_
  refine CW.loop (G := Nat) (fun i => [(0, .slice A xs.length c), (1, .slice B ys.length c2), (5, .int .i64 (i : Nat))]) (fun _ => Sto w []) (fun i => i ≤ xs.length) (fun i => xs.length - i) 0 ⟨rfl, rfl, rfl, trivial⟩ (fun _ h => h) (Nat.zero_le _) ?_
  intro i hi
  refine CW.seq ?_
  refine CW.seq ?_
  refine CW.reg [0, 1, 2, 3] rfl ?_
  refine s_mv 12 rfl rfl ?_
  refine s_mv 13 rfl rfl ?_
  refine s_len 14 rfl rfl ?_
  refine s_lt 15 rfl rfl rfl rfl ?_
  refine SX.next ?_
  refine CW.test rfl (fun hc => ?_) (fun hc => ?_)
  · skip
    have hil : i < xs.length := by omega
    have he := gE_at hil
    have hil2 : i < ys.length := by omega
    have he2 := gE_at hil2
    have heq : (gE xs i).abs = (gE ys i).abs := by
      have h1 := congrArg (fun l => l[i]?) hab
      simp only [absE, List.getElem?_map, he, he2, Option.map_some] at h1
      exact Option.some.inj h1
    refine CW.skip ?_
    refine KN.code ?_
    refine CW.seq ?_
    refine CW.block ?_
    refine CW.seq ?_
    refine CW.regD (.st true 0 (.st true 1 (.st true 2 (.st true 3 (.st true 4 (.st true 5 (.st true 6 (.st true 7 (.st false 8 (.st true 9 .done)))))))))) (Sto w []) mixed (by kernel_rfl) (fun _ h => h.drew) (fun _ h => h) ?_
    refine s_mv 18 rfl rfl ?_
    refine s_mv 19 rfl rfl ?_
    refine s_iaV 20 i (fun w hw => hw.old hs) rfl rfl rfl rfl hil ?_
    refine s_ldRS 21 (cs := (gE xs i).row) rfl rfl rfl (fun w hw => (hw.old hs).entRow he) ?_
    refine s_mv 22 rfl rfl ?_
    refine s_mv 23 rfl rfl ?_
    refine s_iaV 24 i (fun w hw => hw.old hs2) rfl rfl rfl rfl hil2 ?_
    refine s_ldRS 25 (cs := (gE ys i).row) rfl rfl rfl (fun w hw => (hw.old hs2).entRow he2) ?_
    refine s_call1 26 rfl rfl rfl rfl (v := .bool true) (fun w hw => by have := sameEntry_spec (gE xs i) (gE ys i) w (hw.old (hd _ (gE_mem hil))) (hw.old (hd2 _ (gE_mem hil2))) (h8 _ (gE_mem hil)) (h82 _ (gE_mem hil2)); rw [decide_eq_true heq] at this; exact this) (fun _ h => h) ?_
    refine s_as 6 rfl rfl ?_
    refine SX.next ?_
    refine CW.seq ?_
    refine CW.reg [0, 1] rfl ?_
    refine s_mv 27 rfl rfl ?_
    refine s_not 28 rfl rfl ?_
    refine SX.next ?_
    refine CW.condF rfl ?_
    refine CW.skip ?_
    refine KN.blk ?_
    refine KN.code ?_
    refine CW.reg [0, 1, 2] rfl ?_
    refine s_mv 16 rfl rfl ?_
    refine s_add 17 rfl rfl rfl (r := ((i + 1 : Nat) : Int)) (w64 (by omega)) ?_
    refine s_as 5 rfl rfl ?_
    refine SX.end_ ?_
    exact KN.back (i + 1) ⟨rfl, rfl, rfl, trivial⟩ (fun _ h => h) (by omega) (by omega)
  · skip
    refine CW.exit rfl ?_
    refine KN.code ?_
    refine CW.seq ?_
    refine CW.reg [0] rfl ?_
    refine s_as 4 rfl rfl ?_
    refine SX.next ?_
    refine CW.ret ?_
    exact KN.ret (rs := [.tmp 4]) Tryd.results63 rfl (fun w hw => ⟨rfl, hw.nothing⟩)

theorem get_any (b : Nat) (A : Option Addr) (c : Nat) (es : List EntG) (key : Int) (w : World) (hs : Has (sl 3 A es.length (rowsE es)) w) (hn : es.length ≤ 100000) (hb : w.cell? ⟨b, 3, none⟩ = some (.slice A es.length c)) (hd : ∀ e ∈ es, Has (sl 1 e.A e.l.length (nats .u8 e.l)) w) (hl : ∀ e ∈ es, e.l.length ≤ 1000000) :
    SpecX Tryd.prog 55 [.pointer (some ⟨b, 0, none⟩), .int .i64 key] w (X := EntG × Bool) (fun z => two z.1.agg (.bool z.2)) (fun z => (z.2 = false ∧ plI key es = -1 ∧ z.1.l = []) ∨ (z.2 = true ∧ ∃ (j : Nat) (en : EntG), plI key es = (j : Nat) ∧ es[j]? = some en ∧ z.1.abs = en.abs)) (fun z => [z.1.dat]) := by
  by_cases hp : plI key es = -1
  · exact Calls.mono (get_none b A c es key w hs hn hb hp) (fun _ w' ⟨h1, h2⟩ => ⟨(⟨0, false, none, 0, []⟩, false), h1, .inl ⟨rfl, hp, rfl⟩, St.begin_ 5 1 h2⟩)
  · obtain ⟨j, en, he, _, hpl⟩ := plI_mem hp
    exact Calls.mono (get_some b A c es key j en w hs hn hb hd hl hpl he) (fun _ w' ⟨z, h1, _, h2⟩ => ⟨(⟨en.k, en.tr, z.1, z.2, en.l⟩, true), h1, .inr ⟨rfl, j, en, hpl, he, rfl⟩, h2⟩)
end Go.Proofs.YtcdmmfpgeagimaaDoor
end
section
/- The contracts of shalesee, and of what it leans on: an error of package api, seen as its number. Conditions: the errors' variables each hold a pointer of its own. -/
namespace Go.Proofs.YtcdmmfpgeagimaaDoor
open Go.Sx
set_option maxRecDepth 100000
/-- A fault with nothing around it. -/
def fltV (c : Int) : Value := .agg #[.int .i64 c, .slice none 0 0]
theorem ers_at {j k : Nat} (h : apiErrs[j]? = some k) : k ∈ apiErrs := List.mem_of_getElem? h
theorem ers_one {i j k : Nat} (hi : apiErrs[i]? = some k) (hj : apiErrs[j]? = some k) : i = j := by
  have hn : ∀ i < 19, ∀ j < 19, apiErrs[i]? = apiErrs[j]? → i = j := by decide
  obtain ⟨h1, _⟩ := List.getElem?_eq_some_iff.1 hi
  obtain ⟨h3, _⟩ := List.getElem?_eq_some_iff.1 hj
  exact hn i h1 j h3 (hi.trans hj.symm)
theorem ers_lt {j k : Nat} (h : apiErrs[j]? = some k) : j < 19 := by
  obtain ⟨h1, _⟩ := List.getElem?_eq_some_iff.1 h
  exact h1

theorem none_spec (w : World) : Spec1 Tryd.prog 144 [] w (fltV 0) := by
  refine spec_of Tryd.func144 rfl Tryd.ntmps144 rfl ?_
  refine CW.seq ?_
  refine CW.reg [0] rfl ?_
  refine s_alloc 0 rfl (fun _ _ => trivial) (fun g => ?_)
  refine SX.next ?_
  refine CW.seq ?_
  refine CW.reg [0, 1] rfl ?_
  refine s_build 1 rfl rfl rfl ?_
  refine s_stAll 0 rfl rfl (by kernel_rfl) rfl rfl rfl rfl (fun _ _ => trivial) ?_
  refine SX.next ?_
  refine CW.ret ?_
  exact KN.retC (rs := [.cell 0 148]) Tryd.results144 (fun w hw => ⟨[_], ⟨⟨_, rfl, hw.ldRow (q := 0) rfl (by rfl)⟩, trivial⟩, rfl, hw.nothing⟩)

theorem sbare_spec (c : Int) (w : World) : Spec1 Tryd.prog 108 [.int .i64 c] w (fltV c) := by
  refine spec_of Tryd.func108 rfl Tryd.ntmps108 rfl ?_
  refine CW.seq ?_
  refine CW.reg [0] rfl ?_
  refine s_alloc 2 rfl (fun _ _ => trivial) (fun g => ?_)
  refine SX.next ?_
  refine CW.seq ?_
  refine CW.reg [0, 1, 2] rfl ?_
  refine s_mv 3 rfl rfl ?_
  refine s_build 4 rfl rfl rfl ?_
  refine s_stAll 0 rfl rfl (by kernel_rfl) rfl rfl rfl rfl (fun _ _ => trivial) ?_
  refine SX.next ?_
  refine CW.ret ?_
  exact KN.retC (rs := [.cell 2 148]) Tryd.results108 (fun w hw => ⟨[_], ⟨⟨_, rfl, hw.ldRow (q := 0) rfl (by rfl)⟩, trivial⟩, rfl, hw.nothing⟩)

theorem alike_same (i : Nat) (e : Nat → Addr) (w : World) : Spec1 Tryd.prog 161 [errV e i, errV e i] w (.bool true) := by
  refine spec_of Tryd.func161 rfl Tryd.ntmps161 rfl ?_
  refine CW.seq ?_
  refine CW.reg [0] rfl ?_
  refine s_as 4 rfl rfl ?_
  refine SX.next ?_
  refine CW.seq ?_
  refine CW.seq ?_
  refine CW.reg [0, 1, 2, 3, 4, 5] rfl ?_
  refine s_mv 5 rfl rfl ?_
  refine s_eqHN 6 rfl rfl ?_
  refine s_mv 7 rfl rfl ?_
  refine s_mv 8 rfl rfl ?_
  refine s_eqHN 9 rfl rfl ?_
  refine s_pickF 10 rfl rfl rfl ?_
  refine SX.next ?_
  refine CW.condF rfl ?_
  refine CW.skip ?_
  refine KN.code ?_
  refine CW.seq ?_
  refine CW.reg [0, 1, 2, 3] rfl ?_
  refine s_mv 17 rfl rfl ?_
  refine s_mv 18 rfl rfl ?_
  refine s_eqE 19 rfl rfl rfl ?_
  refine s_as 4 rfl rfl ?_
  refine SX.next ?_
  refine CW.ret ?_
  exact KN.ret (rs := [.tmp 4]) Tryd.results161 rfl (fun w hw => ⟨rfl, hw.nothing⟩)

theorem alike_not (i j : Nat) (e : Nat → Addr) (w : World) (he : Has (ersA e apiErrs) w) (hi : i ∈ apiErrs) (hj : j ∈ apiErrs) (hne : i ≠ j) : Spec1 Tryd.prog 161 [errV e i, errV e j] w (.bool false) := by
  refine spec_of Tryd.func161 rfl Tryd.ntmps161 rfl ?_
  refine CW.seq ?_
  refine CW.reg [0] rfl ?_
  refine s_as 4 rfl rfl ?_
  refine SX.next ?_
  refine CW.seq ?_
  refine CW.seq ?_
  refine CW.reg [0, 1, 2, 3, 4, 5] rfl ?_
  refine s_mv 5 rfl rfl ?_
  refine s_eqHN 6 rfl rfl ?_
  refine s_mv 7 rfl rfl ?_
  refine s_mv 8 rfl rfl ?_
  refine s_eqHN 9 rfl rfl ?_
  refine s_pickF 10 rfl rfl rfl ?_
  refine SX.next ?_
  refine CW.condF rfl ?_
  refine CW.skip ?_
  refine KN.code ?_
  refine CW.seq ?_
  refine CW.reg [0, 1, 2, 3] rfl ?_
  refine s_mv 17 rfl rfl ?_
  refine s_mv 18 rfl rfl ?_
  refine s_eqD 19 rfl rfl rfl (he.apart hi hj hne) (fun w hw => ⟨(hw.old he).live hi, (hw.old he).live hj⟩) ?_
  refine s_as 4 rfl rfl ?_
  refine SX.next ?_
  refine CW.ret ?_
  exact KN.ret (rs := [.tmp 4]) Tryd.results161 rfl (fun w hw => ⟨rfl, hw.nothing⟩)

theorem alike_spec (i j : Nat) (e : Nat → Addr) (w : World) (he : Has (ersA e apiErrs) w) (hi : i ∈ apiErrs) (hj : j ∈ apiErrs) : Spec1 Tryd.prog 161 [errV e i, errV e j] w (.bool (decide (i = j))) := by
  by_cases h : i = j
  · subst h; rw [decide_eq_true rfl]; exact alike_same i e w
  · rw [decide_eq_false h]; exact alike_not i j e w he hi hj h
def errCs (e : Nat → Addr) : Array Value := (apiErrs.map (errV e)).toArray
theorem errCs_at {e : Nat → Addr} {j k : Nat} (h : apiErrs[j]? = some k) : (errCs e)[j]? = some (errV e k) := by
  unfold errCs
  simp [h]

theorem sentinels_spec (e : Nat → Addr) (w : World) (he : Has (ersA e apiErrs) w) : SpecX Tryd.prog 160 [] w (X := Nat) (fun g => .slice (some ⟨g, 0, none⟩) 19 19) (fun _ => True) (fun g => [blk g 32 (errCs e)]) := by
  refine spec_of Tryd.func160 rfl Tryd.ntmps160 rfl ?_
  refine CW.seq ?_
  refine CW.reg [0] rfl ?_
  refine s_as 0 rfl rfl ?_
  refine SX.next ?_
  refine CW.seq ?_
  refine CW.reg [0, 1, 2, 3, 4, 5, 6, 7, 8, 9, 10, 11, 12, 13, 14, 15, 16, 17, 18, 19, 20] rfl ?_
  refine s_ld 1 rfl rfl (fun _ h => (h.old he).ers (by decide)) ?_
  refine s_ld 2 rfl rfl (fun _ h => (h.old he).ers (by decide)) ?_
  refine s_ld 3 rfl rfl (fun _ h => (h.old he).ers (by decide)) ?_
  refine s_ld 4 rfl rfl (fun _ h => (h.old he).ers (by decide)) ?_
  refine s_ld 5 rfl rfl (fun _ h => (h.old he).ers (by decide)) ?_
  refine s_ld 6 rfl rfl (fun _ h => (h.old he).ers (by decide)) ?_
  refine s_ld 7 rfl rfl (fun _ h => (h.old he).ers (by decide)) ?_
  refine s_ld 8 rfl rfl (fun _ h => (h.old he).ers (by decide)) ?_
  refine s_ld 9 rfl rfl (fun _ h => (h.old he).ers (by decide)) ?_
  refine s_ld 10 rfl rfl (fun _ h => (h.old he).ers (by decide)) ?_
  refine s_ld 11 rfl rfl (fun _ h => (h.old he).ers (by decide)) ?_
  refine s_ld 12 rfl rfl (fun _ h => (h.old he).ers (by decide)) ?_
  refine s_ld 13 rfl rfl (fun _ h => (h.old he).ers (by decide)) ?_
  refine s_ld 14 rfl rfl (fun _ h => (h.old he).ers (by decide)) ?_
  refine s_ld 15 rfl rfl (fun _ h => (h.old he).ers (by decide)) ?_
  refine s_ld 16 rfl rfl (fun _ h => (h.old he).ers (by decide)) ?_
  refine s_ld 17 rfl rfl (fun _ h => (h.old he).ers (by decide)) ?_
  refine s_ld 18 rfl rfl (fun _ h => (h.old he).ers (by decide)) ?_
  refine s_ld 19 rfl rfl (fun _ h => (h.old he).ers (by decide)) ?_
  refine s_bsl 20 rfl rfl (cells := errCs e) (by kernel_rfl) rfl (fun _ _ => trivial) (fun g => ?_)
  refine s_as 0 rfl rfl ?_
  refine SX.next ?_
  refine CW.ret ?_
  exact KN.ret (rs := [.tmp 0]) Tryd.results160 rfl (fun w hw => ⟨g, rfl, trivial, hw⟩)

theorem sentinel_spec (j k : Nat) (e : Nat → Addr) (w : World) (he : Has (ersA e apiErrs) w) (hj : apiErrs[j]? = some k) : Spec1 Tryd.prog 155 [errV e k] w (.int .i64 (101 + (j : Nat))) := by
  have hj19 := ers_lt hj
  refine spec_of Tryd.func155 rfl Tryd.ntmps155 rfl ?_
  refine CW.seq ?_
  refine CW.reg [0] rfl ?_
  refine s_as 2 rfl rfl ?_
  refine SX.next ?_
  refine CW.seq ?_
  refine CW.reg [0, 1] rfl ?_
  refine s_call 5 rfl rfl rfl rfl (fun w hw => sentinels_spec e w (hw.old he)) (fun _ _ => trivial) (fun g _ => ?_)
  refine s_as 3 rfl rfl ?_
  refine SX.next ?_
  refine CW.seq ?_
  refine CW.seq ?_
  refine CW.reg [0] rfl ?_
  refine s_as 4 rfl rfl ?_
  refine SX.next ?_
  refine CW.block ?_
  refine CW.loop (G := Nat) (fun i => [(0, errV e k), (3, .slice (some ⟨g, 0, none⟩) 19 19), (4, .int .i64 (i : Nat))]) (fun _ => Sto w [blk g 32 (errCs e)]) (fun i => i ≤ j) (fun i => j - i) 0 ⟨rfl, rfl, rfl, trivial⟩ (fun _ h => h) (Nat.zero_le _) ?_
  intro i hi
  obtain ⟨k2, hk2⟩ : ∃ k2, apiErrs[i]? = some k2 := ⟨_, List.getElem?_eq_getElem (show i < apiErrs.length from (by show i < 19; omega))⟩
  have hcell := errCs_at (e := e) hk2
  refine CW.seq ?_
  refine CW.seq ?_
  refine CW.reg [0, 1, 2, 3] rfl ?_
  refine s_mv 6 rfl rfl ?_
  refine s_mv 7 rfl rfl ?_
  refine s_len 8 rfl rfl ?_
  refine s_lt 9 rfl rfl rfl (decide_eq_true (by omega)) ?_
  refine SX.next ?_
  refine CW.condT rfl ?_
  refine CW.skip ?_
  refine KN.code ?_
  refine CW.seq ?_
  refine CW.block ?_
  refine CW.seq ?_
  refine CW.reg [0, 1, 2, 3, 4, 5] rfl ?_
  refine s_mv 12 rfl rfl ?_
  refine s_mv 13 rfl rfl ?_
  refine s_mv 14 rfl rfl ?_
  refine s_ia0 15 i rfl rfl rfl rfl (by omega) ?_
  refine s_ldB 16 0 rfl rfl rfl hcell ?_
  refine s_call1 17 rfl rfl rfl rfl (fun w hw => alike_spec k k2 e _ (hw.old he) (ers_at hj) (ers_at hk2)) (fun _ _ => trivial) ?_
  refine SX.next ?_
  refine CW.test rfl (fun hc => ?_) (fun hc => ?_)
  · skip
    obtain rfl : i = j := ers_one (by rw [hk2, hc]) hj
    refine CW.seq ?_
    refine CW.reg [0, 1, 2] rfl ?_
    refine s_mv 18 rfl rfl ?_
    refine s_add 19 rfl rfl rfl (w64 (by omega)) ?_
    refine s_as 2 rfl rfl ?_
    refine SX.next ?_
    refine CW.ret ?_
    exact KN.ret (rs := [.tmp 2]) Tryd.results155 rfl (fun w hw => ⟨rfl, hw.nothing⟩)
  · skip
    have hlt : i < j := by
      rcases Nat.lt_or_eq_of_le hi with h | h
      · exact h
      · subst h; rw [hk2] at hj; exact absurd (Option.some.inj hj).symm hc
    refine CW.skip ?_
    refine KN.blk ?_
    refine KN.code ?_
    refine CW.reg [0, 1, 2] rfl ?_
    refine s_mv 10 rfl rfl ?_
    refine s_add 11 rfl rfl rfl (r := ((i + 1 : Nat) : Int)) (w64 (by omega)) ?_
    refine s_as 4 rfl rfl ?_
    refine SX.end_ ?_
    exact KN.back (i + 1) ⟨rfl, rfl, rfl, trivial⟩ (fun _ h => h) (by omega) (by omega)

theorem fault_spec (j k : Nat) (n : Int) (e : Nat → Addr) (w : World) (he : Has (ersA e apiErrs) w) (hj : apiErrs[j]? = some k) (hn : n ≠ 0) : Spec1 Tryd.prog 145 [errV e k, .int .i64 n] w (fltV (101 + (j : Nat))) := by
  refine spec_of Tryd.func145 rfl Tryd.ntmps145 rfl ?_
  refine CW.seq ?_
  refine CW.reg [0] rfl ?_
  refine s_alloc 4 rfl (fun _ _ => trivial) (fun g => ?_)
  refine SX.next ?_
  refine CW.seq ?_
  refine CW.seq ?_
  refine CW.reg [0, 1, 2, 3, 4, 5] rfl ?_
  refine s_mv 7 rfl rfl ?_
  refine s_eqHN 8 rfl rfl ?_
  refine s_mv 9 rfl rfl ?_
  refine s_mv 10 rfl rfl ?_
  refine s_eq 11 rfl rfl rfl (decide_eq_false hn) ?_
  refine s_pickF 12 rfl rfl rfl ?_
  refine SX.next ?_
  refine CW.condF rfl ?_
  refine CW.skip ?_
  refine KN.code ?_
  refine CW.seq ?_
  refine CW.seq ?_
  refine CW.reg [0] rfl ?_
  refine s_mv 14 rfl rfl ?_
  refine SX.next ?_
  refine CW.block ?_
  refine CW.seq ?_
  refine CW.reg [0, 1, 2] rfl ?_
  refine s_taF 15 rfl rfl rfl ?_
  refine s_ext 16 rfl rfl rfl ?_
  refine s_ext 17 rfl rfl rfl ?_
  refine SX.next ?_
  refine CW.condF rfl ?_
  refine CW.skip ?_
  refine KN.blk ?_
  refine KN.code ?_
  refine CW.seq ?_
  refine CW.reg [0, 1, 2, 3] rfl ?_
  refine s_mv 34 rfl rfl ?_
  refine s_call1 35 rfl rfl rfl rfl (fun w hw => sentinel_spec j k e _ (hw.old he) hj) (fun _ _ => trivial) ?_
  refine s_call1 36 rfl rfl rfl rfl (fun w hw => sbare_spec _ _) (fun _ _ => trivial) ?_
  refine s_stAll 0 rfl rfl (by kernel_rfl) rfl rfl rfl rfl (fun _ _ => trivial) ?_
  refine SX.next ?_
  refine CW.ret ?_
  exact KN.retC (rs := [.cell 4 148]) Tryd.results145 (fun w hw => ⟨[_], ⟨⟨_, rfl, hw.ldRow (q := 0) rfl (by rfl)⟩, trivial⟩, rfl, hw.nothing⟩)

theorem see_spec (j k : Nat) (e : Nat → Addr) (w : World) (he : Has (ersA e apiErrs) w) (hj : apiErrs[j]? = some k) : Spec1 Tryd.prog 134 [errV e k] w (fltV (101 + (j : Nat))) := by
  refine spec_of Tryd.func134 rfl Tryd.ntmps134 rfl ?_
  refine CW.seq ?_
  refine CW.reg [0] rfl ?_
  refine s_alloc 2 rfl (fun _ _ => trivial) (fun g => ?_)
  refine SX.next ?_
  refine CW.seq ?_
  refine CW.seq ?_
  refine CW.reg [0, 1] rfl ?_
  refine s_mv 3 rfl rfl ?_
  refine s_eqHN 4 rfl rfl ?_
  refine SX.next ?_
  refine CW.condF rfl ?_
  refine CW.skip ?_
  refine KN.code ?_
  refine CW.seq ?_
  refine CW.reg [0, 1, 2] rfl ?_
  refine s_mv 6 rfl rfl ?_
  refine s_call1 7 rfl rfl rfl rfl (fun w hw => fault_spec j k 9 e _ (hw.old he) hj (by decide)) (fun _ _ => trivial) ?_
  refine s_stAll 0 rfl rfl (by kernel_rfl) rfl rfl rfl rfl (fun _ _ => trivial) ?_
  refine SX.next ?_
  refine CW.ret ?_
  exact KN.retC (rs := [.cell 2 148]) Tryd.results134 (fun w hw => ⟨[_], ⟨⟨_, rfl, hw.ldRow (q := 0) rfl (by rfl)⟩, trivial⟩, rfl, hw.nothing⟩)

theorem see_none (w : World) : Spec1 Tryd.prog 134 [.nilIface] w (fltV 0) := by
  refine spec_of Tryd.func134 rfl Tryd.ntmps134 rfl ?_
  refine CW.seq ?_
  refine CW.reg [0] rfl ?_
  refine s_alloc 2 rfl (fun _ _ => trivial) (fun g => ?_)
  refine SX.next ?_
  refine CW.seq ?_
  refine CW.seq ?_
  refine CW.reg [0, 1] rfl ?_
  refine s_mv 3 rfl rfl ?_
  refine s_eqNN 4 rfl rfl ?_
  refine SX.next ?_
  refine CW.condT rfl ?_
  refine CW.seq ?_
  refine CW.reg [0, 1] rfl ?_
  refine s_call1 5 rfl rfl rfl rfl (fun w hw => none_spec _) (fun _ _ => trivial) ?_
  refine s_stAll 0 rfl rfl (by kernel_rfl) rfl rfl rfl rfl (fun _ _ => trivial) ?_
  refine SX.next ?_
  refine CW.ret ?_
  exact KN.retC (rs := [.cell 2 148]) Tryd.results134 (fun w hw => ⟨[_], ⟨⟨_, rfl, hw.ldRow (q := 0) rfl (by rfl)⟩, trivial⟩, rfl, hw.nothing⟩)

theorem sameInts_nil (w : World) : Spec1 Tryd.prog 15 [.slice none 0 0, .slice none 0 0] w (.bool true) := by
  refine spec_of Tryd.func15 rfl Tryd.ntmps15 rfl ?_
  refine CW.seq ?_
  refine CW.reg [0] rfl ?_
  refine s_as 4 rfl rfl ?_
  refine SX.next ?_
  refine CW.seq ?_
  refine CW.seq ?_
  refine CW.reg [0, 1, 2, 3, 4] rfl ?_
  refine s_mv 7 rfl rfl ?_
  refine s_len 8 rfl rfl ?_
  refine s_mv 9 rfl rfl ?_
  refine s_len 10 rfl rfl ?_
  refine s_ne 11 rfl rfl rfl (decide_eq_false (fun h => h rfl)) ?_
  refine SX.next ?_
  refine CW.condF rfl ?_
  refine CW.skip ?_
  refine KN.code ?_
  refine CW.seq ?_
  refine CW.seq ?_
  refine CW.reg [0] rfl ?_
  refine s_as 5 rfl rfl ?_
  refine SX.next ?_
  refine CW.block ?_
  refine CW.loop (G := Unit) (fun _ => [(0, .slice none 0 0), (1, .slice none 0 0), (5, .int .i64 0)]) (fun _ => Sto w []) (fun _ => True) (fun _ => 0) () ⟨rfl, rfl, rfl, trivial⟩ (fun _ h => h) trivial ?_
  intro _ _
  refine CW.seq ?_
  refine CW.seq ?_
  refine CW.reg [0, 1, 2, 3] rfl ?_
  refine s_mv 12 rfl rfl ?_
  refine s_mv 13 rfl rfl ?_
  refine s_len 14 rfl rfl ?_
  refine s_lt 15 rfl rfl rfl (decide_eq_false (by decide)) ?_
  refine SX.next ?_
  refine CW.condF rfl ?_
  refine CW.exit rfl ?_
  refine KN.code ?_
  refine CW.seq ?_
  refine CW.reg [0] rfl ?_
  refine s_as 4 rfl rfl ?_
  refine SX.next ?_
  refine CW.ret ?_
  exact KN.ret (rs := [.tmp 4]) Tryd.results15 rfl (fun w hw => ⟨rfl, hw.nothing⟩)

theorem sameFault_bare (c d : Int) (w : World) : Spec1 Tryd.prog 135 [fltV c, fltV d] w (.bool (decide (c = d))) := by
  refine spec_of Tryd.func135 rfl Tryd.ntmps135 rfl ?_
  refine CW.seq ?_
  refine CW.reg [0, 1, 2] rfl ?_
  refine s_box 2 rfl rfl (fun _ _ => trivial) (fun g => ?_)
  refine s_box 3 rfl rfl (fun _ _ => trivial) (fun g2 => ?_)
  refine s_as 4 rfl rfl ?_
  refine SX.next ?_
  refine CW.seq ?_
  refine CW.reg [0, 1, 2, 3, 4, 5] rfl ?_
  refine s_fa 6 rfl rfl ?_
  refine s_ldB 7 1 rfl rfl rfl rfl ?_
  refine s_fa 8 rfl rfl ?_
  refine s_ldB 9 0 rfl rfl rfl rfl ?_
  refine s_call1 10 rfl rfl rfl rfl (fun w hw => sameInts_nil _) (fun _ _ => trivial) ?_
  refine s_as 5 rfl rfl ?_
  refine SX.next ?_
  refine CW.seq ?_
  refine CW.reg [0, 1, 2, 3, 4, 5, 6, 7, 8] rfl ?_
  refine s_fa 11 rfl rfl ?_
  refine s_ldB 12 1 rfl rfl rfl rfl ?_
  refine s_fa 13 rfl rfl ?_
  refine s_ldB 14 0 rfl rfl rfl rfl ?_
  refine s_eq 15 rfl rfl rfl rfl ?_
  refine s_mv 16 rfl rfl ?_
  refine SX.bool 16 rfl (fun hb => ?_) (fun hb => ?_)
  · skip
    refine s_mv 17 rfl rfl ?_
    refine s_pickT 18 rfl rfl rfl ?_
    refine s_as 4 rfl rfl ?_
    refine SX.next ?_
    refine CW.ret ?_
    exact KN.ret (rs := [.tmp 4]) Tryd.results135 rfl (fun w hw => ⟨by rw [hb]; rfl, hw.nothing⟩)
  · skip
    refine SX.skip rfl ?_
    refine s_pickF 18 rfl rfl rfl ?_
    refine s_as 4 rfl rfl ?_
    refine SX.next ?_
    refine CW.ret ?_
    exact KN.ret (rs := [.tmp 4]) Tryd.results135 rfl (fun w hw => ⟨by rw [hb]; rfl, hw.nothing⟩)

theorem same_spec (j k : Nat) (d : Int) (e : Nat → Addr) (w : World) (he : Has (ersA e apiErrs) w) (hj : apiErrs[j]? = some k) : Spec1 Tryd.prog 107 [errV e k, fltV d] w (.bool (decide ((101 + (j : Nat) : Int) = d))) := by
  refine spec_of Tryd.func107 rfl Tryd.ntmps107 rfl ?_
  refine CW.seq ?_
  refine CW.reg [0, 1] rfl ?_
  refine s_box 3 rfl rfl (fun _ _ => trivial) (fun g => ?_)
  refine s_as 4 rfl rfl ?_
  refine SX.next ?_
  refine CW.seq ?_
  refine CW.reg [0, 1, 2, 3] rfl ?_
  refine s_mv 6 rfl rfl ?_
  refine s_call1 7 rfl rfl rfl rfl (fun w hw => see_spec j k e _ (hw.old he) hj) (fun _ _ => trivial) ?_
  refine s_alloc 5 rfl (fun _ _ => trivial) (fun g2 => ?_)
  refine s_stAll 0 rfl rfl (by kernel_rfl) rfl rfl rfl rfl (fun _ _ => trivial) ?_
  refine SX.next ?_
  refine CW.seq ?_
  refine CW.reg [0, 1, 2, 3] rfl ?_
  refine s_ldW 8 0 rfl rfl rfl ?_
  refine s_ldW 9 1 rfl rfl rfl ?_
  refine s_call1 10 rfl rfl rfl rfl (fun w hw => sameFault_bare _ d _) (fun _ _ => trivial) ?_
  refine s_as 4 rfl rfl ?_
  refine SX.next ?_
  refine CW.ret ?_
  exact KN.ret (rs := [.tmp 4]) Tryd.results107 rfl (fun w hw => ⟨rfl, hw.nothing⟩)

theorem is_err (j k : Nat) (d : Int) (e : Nat → Addr) (w : World) (he : Has (ersA e apiErrs) w) (hj : apiErrs[j]? = some k) : Spec1 Tryd.prog 62 [errV e k, .int .i64 d] w (.bool (decide ((101 + (j : Nat) : Int) = d))) := by
  refine spec_of Tryd.func62 rfl Tryd.ntmps62 rfl ?_
  refine CW.seq ?_
  refine CW.reg [0] rfl ?_
  refine s_as 4 rfl rfl ?_
  refine SX.next ?_
  refine CW.seq ?_
  refine CW.reg [0, 1, 2, 3, 4] rfl ?_
  refine s_mv 5 rfl rfl ?_
  refine s_mv 6 rfl rfl ?_
  refine s_call1 7 rfl rfl rfl rfl (fun w hw => sbare_spec _ _) (fun _ _ => trivial) ?_
  refine s_call1 8 rfl rfl rfl rfl (fun w hw => same_spec j k d e _ (hw.old he) hj) (fun _ _ => trivial) ?_
  refine s_as 4 rfl rfl ?_
  refine SX.next ?_
  refine CW.ret ?_
  exact KN.ret (rs := [.tmp 4]) Tryd.results62 rfl (fun w hw => ⟨rfl, hw.nothing⟩)

theorem same_none (d : Int) (w : World) : Spec1 Tryd.prog 107 [.nilIface, fltV d] w (.bool (decide ((0 : Int) = d))) := by
  refine spec_of Tryd.func107 rfl Tryd.ntmps107 rfl ?_
  refine CW.seq ?_
  refine CW.reg [0, 1] rfl ?_
  refine s_box 3 rfl rfl (fun _ _ => trivial) (fun g => ?_)
  refine s_as 4 rfl rfl ?_
  refine SX.next ?_
  refine CW.seq ?_
  refine CW.reg [0, 1, 2, 3] rfl ?_
  refine s_mv 6 rfl rfl ?_
  refine s_call1 7 rfl rfl rfl rfl (fun w hw => see_none _) (fun _ _ => trivial) ?_
  refine s_alloc 5 rfl (fun _ _ => trivial) (fun g2 => ?_)
  refine s_stAll 0 rfl rfl (by kernel_rfl) rfl rfl rfl rfl (fun _ _ => trivial) ?_
  refine SX.next ?_
  refine CW.seq ?_
  refine CW.reg [0, 1, 2, 3] rfl ?_
  refine s_ldW 8 0 rfl rfl rfl ?_
  refine s_ldW 9 1 rfl rfl rfl ?_
  refine s_call1 10 rfl rfl rfl rfl (fun w hw => sameFault_bare _ d _) (fun _ _ => trivial) ?_
  refine s_as 4 rfl rfl ?_
  refine SX.next ?_
  refine CW.ret ?_
  exact KN.ret (rs := [.tmp 4]) Tryd.results107 rfl (fun w hw => ⟨rfl, hw.nothing⟩)

theorem is_none (d : Int) (w : World) : Spec1 Tryd.prog 62 [.nilIface, .int .i64 d] w (.bool (decide ((0 : Int) = d))) := by
  refine spec_of Tryd.func62 rfl Tryd.ntmps62 rfl ?_
  refine CW.seq ?_
  refine CW.reg [0] rfl ?_
  refine s_as 4 rfl rfl ?_
  refine SX.next ?_
  refine CW.seq ?_
  refine CW.reg [0, 1, 2, 3, 4] rfl ?_
  refine s_mv 5 rfl rfl ?_
  refine s_mv 6 rfl rfl ?_
  refine s_call1 7 rfl rfl rfl rfl (fun w hw => sbare_spec _ _) (fun _ _ => trivial) ?_
  refine s_call1 8 rfl rfl rfl rfl (fun w hw => same_none d _) (fun _ _ => trivial) ?_
  refine s_as 4 rfl rfl ?_
  refine SX.next ?_
  refine CW.ret ?_
  exact KN.ret (rs := [.tmp 4]) Tryd.results62 rfl (fun w hw => ⟨rfl, hw.nothing⟩)
end Go.Proofs.YtcdmmfpgeagimaaDoor
end
section
/- What a slice of bytes that comes in gives a walk. No condition. -/
namespace Go.Sx
open Go Go.ChangeShapes Go.WideShapes
end Go.Sx
end
section
/- What slices of entries, and of things that a buffer or a model is told, give a walk. No condition. -/
namespace Go.Sx
open Go Go.ChangeShapes Go.WideShapes Go.Proofs.YtcdmmfpgeagimaaDoor Go.Deep
section
variable {H : Type} {enc : TypeId × Value → H} {P : Program} {W : World} {base b0 : Nat} {spare : Nat → Bool} {held : Bool}
/-- The rows of a slice's elements, each with its own reading. -/
theorem open_slS {t e : TypeId} {s : Nat} {v : Value} {d : DataW H} {ps : List MemPlace} (ht : P.underlying t = some (.slice e)) (hc : P.cellsOf e = s) (hs : 0 < s) (hval : Value.okWide P W .any b0 t v) (hd : DataW.Trod enc P W base spare held t v d ps) :
    ∃ (A : Option Addr) (n c : Nat) (rows : List (List Value)), v = .slice A n c ∧ n ≤ c ∧ (c : Int) ≤ 9223372036854775807 ∧ rows.length = n ∧ (∀ r ∈ rows, r.length = s ∧ ∃ m y, DataW.trod enc P W base spare held m e r = some y) ∧ Has (sl s A n rows.flatten) W := by
  obtain ⟨A, n, c, rfl⟩ := okWide_slice ht hval
  obtain ⟨fuel, hf⟩ := hd
  rcases DataW.trod_slice ht hf with ⟨hcs, _⟩ | ⟨a, len, cap, elems, rest, m, _, hcs, _, hb, hl, hm, hlen, hel, _, _⟩
  · have hcs2 : [Value.slice A n c] = [.slice none 0 0] := hcs
    simp only [List.cons.injEq, Value.slice.injEq, and_true] at hcs2
    obtain ⟨rfl, rfl, rfl⟩ := hcs2
    exact ⟨none, 0, 0, [], rfl, Nat.le_refl _, by omega, rfl, (fun r hr => absurd hr (List.not_mem_nil)), Has.sl_nil W s none⟩
  · have hcs2 : [Value.slice A n c] = [.slice (some a) len cap] := hcs
    simp only [List.cons.injEq, Value.slice.injEq, and_true] at hcs2
    obtain ⟨rfl, rfl, rfl⟩ := hcs2
    subst hc
    have key : ∀ i, i < n → ∃ r, W.cells? base (a.add (i * P.cellsOf e)) (P.cellsOf e) = some r ∧ ∃ y, DataW.trod enc P W base spare held m e r = some y := fun i hi => by
      have h1 := hel i hi
      rw [List.getElem?_eq_getElem (by omega), Option.bind_eq_some_iff] at h1
      obtain ⟨r, h2, h3⟩ := h1
      exact ⟨r, h2, _, h3⟩
    have hrows : ∀ k, k ≤ n → ∃ rows : List (List Value), rows.length = k ∧ (∀ r ∈ rows, r.length = P.cellsOf e ∧ ∃ m y, DataW.trod enc P W base spare held m e r = some y) ∧ ∀ i, i < k → W.cells? base (a.add (i * P.cellsOf e)) (P.cellsOf e) = rows[i]? := by
      intro k
      induction k with
      | zero => exact fun _ => ⟨[], rfl, (fun r hr => absurd hr (List.not_mem_nil)), fun i hi => by omega⟩
      | succ k ih =>
        intro hk
        obtain ⟨rows, k1, k2, k3⟩ := ih (by omega)
        obtain ⟨r, h1, h2⟩ := key k (by omega)
        refine ⟨rows ++ [r], by simp [k1], fun r2 hr2 => ?_, fun i hi => ?_⟩
        · rcases List.mem_append.1 hr2 with h | h
          · exact k2 r2 h
          · obtain rfl : r2 = r := by simpa using h
            exact ⟨(World.cells?_some h1).2.1, m, h2⟩
        · by_cases hik : i < k
          · rw [k3 i hik, List.getElem?_append_left (by omega)]
          · obtain rfl : i = k := by omega
            rw [h1, List.getElem?_append_right (by omega), k1, Nat.sub_self]
            rfl
    obtain ⟨rows, k1, k2, k3⟩ := hrows n (Nat.le_refl _)
    refine ⟨some a, n, c, rows, rfl, hl, by unfold maxLen at hm; omega, k1, k2, ?_⟩
    by_cases hn : n = 0
    · subst hn
      obtain rfl := List.eq_nil_of_length_eq_zero k1
      exact Has.sl_nil W _ (some a)
    · have hcell : ∀ i, i < n → ∀ j, j < P.cellsOf e → W.cell? (a.add (i * P.cellsOf e + j)) = rows.flatten[i * P.cellsOf e + j]? := by
        intro i hi j hj
        have h1 : ∃ r, rows[i]? = some r := ⟨_, List.getElem?_eq_getElem (by omega)⟩
        obtain ⟨r, hr⟩ := h1
        have h2 := (World.cells?_some ((k3 i hi).trans hr)).2.2 j hj
        have e1 : (a.add (i * P.cellsOf e)).add j = a.add (i * P.cellsOf e + j) := by
          unfold Addr.add
          by_cases z1 : i * P.cellsOf e = 0
          · rw [if_pos z1, z1, Nat.zero_add]
          · by_cases z2 : j = 0
            · subst z2; simp
            · rw [if_neg z1, if_neg z2, if_neg (by omega)]
              simp [Nat.add_assoc]
        rw [e1] at h2
        rw [h2]
        clear h2 e1 hel key hrows k3
        have hl2 : ∀ (rows : List (List Value)) (i : Nat), (∀ r ∈ rows, r.length = P.cellsOf e) → rows[i]? = some r → rows.flatten[i * P.cellsOf e + j]? = r[j]? := by
          intro rows
          induction rows with
          | nil => intro i _ h; simp at h
          | cons r0 rows ih =>
            intro i hrl h
            have hr0 := hrl r0 (by simp)
            cases i with
            | zero =>
              obtain rfl : r0 = r := by simpa using h
              rw [List.flatten_cons, List.getElem?_append_left (by omega)]
              congr 1
              omega
            | succ i =>
              rw [List.flatten_cons, List.getElem?_append_right (by rw [hr0, Nat.succ_mul]; omega), hr0, ← ih i (fun r hr => hrl r (by simp [hr])) (by simpa using h)]
              congr 1
              rw [Nat.succ_mul]
              omega
        exact (hl2 rows i (fun r hr => (k2 r hr).1) hr).symm
      have hfl : rows.flatten.length = n * P.cellsOf e := by
        have : ∀ rows : List (List Value), (∀ r ∈ rows, r.length = P.cellsOf e) → rows.flatten.length = rows.length * P.cellsOf e := by
          intro rows
          induction rows with
          | nil => intro _; simp
          | cons r0 rows ih =>
            intro hrl
            rw [List.flatten_cons, List.length_append, ih (fun r hr => hrl r (by simp [hr])), hrl r0 (by simp), List.length_cons, Nat.succ_mul]
            omega
        rw [this rows (fun r hr => (k2 r hr).1), k1]
      have hall : ∀ q, q < n * P.cellsOf e → W.cell? (a.add q) = rows.flatten[q]? := fun q hq => by
        have hq1 : q / P.cellsOf e < n := (Nat.div_lt_iff_lt_mul hs).2 hq
        have := hcell _ hq1 (q % P.cellsOf e) (Nat.mod_lt _ hs)
        rwa [Nat.div_add_mod'] at this
      have hpos : 0 < n * P.cellsOf e := Nat.mul_pos (by omega) hs
      have h0 := hall 0 hpos
      rw [List.getElem?_eq_getElem (by omega)] at h0
      have ha : a = ⟨a.block, a.off, none⟩ := by
        cases a with
        | mk b o sp =>
          cases sp with
          | none => rfl
          | some x => simp [Addr.add, World.cell?] at h0; split at h0 <;> simp_all
      refine ⟨fun b => b = a.block, ⟨hfl, fun _ => ⟨by simp only [ob, oo]; rw [← ha], rfl, fun j v hj => ?_⟩⟩, fun b hb => ?_⟩
      · have hjn := (List.getElem?_eq_some_iff.1 hj).1
        have h1 := hall j (by omega)
        rw [ha, add_at, hj] at h1
        exact h1
      · subst hb
        have := World.block_lt_of_cell? W _ h0
        rwa [block_add] at this
/-- A slice of bytes inside of a value. -/
theorem open_rowB {t e : TypeId} (ht : P.underlying t = some (.slice e)) (he : P.underlying e = some (.int .u8)) (hc : P.cellsOf e = 1) {fuel : Nat} {v : Value} {x : DataW H × List MemPlace} (hf : DataW.trod enc P W base spare held fuel t [v] = some x) :
    ∃ A n c p, v = .slice A n c ∧ n ≤ c ∧ (c : Int) ≤ 9223372036854775807 ∧ p.length = n ∧ Has (sl 1 A n (nats .u8 p)) W ∧ ∀ x ∈ p, x < 256 := by
  rcases open_ints ht he hc hf with ⟨hcs2, _⟩ | ⟨a, n, c, zs, hcs2, _, hl, hm, hz, _, hcell, hw⟩
  · simp only [List.cons.injEq, and_true] at hcs2
    subst hcs2
    exact ⟨none, 0, 0, [], rfl, Nat.le_refl _, by omega, rfl, Has.sl_nil W 1 none, fun z hz => by simp at hz⟩
  · simp only [List.cons.injEq, and_true] at hcs2
    subst hcs2
    have hlz : n ≤ zs.length := by rw [hz]; split <;> omega
    have hlen : (zs.take n).length = n := by rw [List.length_take]; exact Nat.min_eq_left hlz
    have hb : ∀ z ∈ zs.take n, 0 ≤ z ∧ z < 256 := fun z hz => by
      have := hw z (List.mem_of_mem_take hz)
      simp only [Lit.wf, Bool.and_eq_true, decide_eq_true_eq] at this
      have e1 : IntKind.u8.min = 0 := by decide
      have e2 : IntKind.u8.max = 255 := by decide
      omega
    refine ⟨some a, n, c, (zs.take n).map Int.toNat, rfl, hl, by unfold maxLen at hm; omega, by rw [List.length_map]; exact hlen, ?_, fun x hx => ?_⟩
    · have e2 : nats .u8 ((zs.take n).map Int.toNat) = ints .u8 (zs.take n) := by
        unfold nats ints
        rw [List.map_map]
        exact List.map_congr_left (fun z hz => by
          show Value.int .u8 ((z.toNat : Nat) : Int) = Value.int .u8 z
          rw [Int.toNat_of_nonneg (hb z hz).1])
      rw [e2]
      by_cases hn : n = 0
      · subst hn
        exact Has.sl_nil W 1 (some a)
      · have h0 := hcell 0 (by omega)
        have ha : a = ⟨a.block, a.off, none⟩ := by
          cases a with
          | mk b o sp =>
            cases sp with
            | none => rfl
            | some x => simp [Addr.add, World.cell?] at h0; split at h0 <;> simp_all
        refine ⟨fun b => b = a.block, ⟨by simp only [ints, List.length_map, hlen, Nat.mul_one], fun _ => ⟨by simp only [ob, oo]; rw [← ha], rfl, fun j v hj => ?_⟩⟩, fun b hb => ?_⟩
        · have hjn : j < n := by
            have := (List.getElem?_eq_some_iff.1 hj).1
            simp only [ints, List.length_map, hlen] at this
            exact this
          rw [intsAt (by omega)] at hj
          have hc2 := hcell j (by omega)
          rw [ha, add_at] at hc2
          simp only [ob, oo]
          rw [hc2, ← hj]
          simp [hjn]
        · subst hb
          have hc2 := hcell 0 (by omega)
          have := World.block_lt_of_cell? W _ hc2
          rwa [block_add] at this
    · obtain ⟨z, hz, rfl⟩ := List.mem_map.1 hx
      have := hb z hz
      omega
/-- What an entry that comes in is. -/
def EntIn (W : World) (en : EntG) : Prop := Has (sl 1 en.A en.l.length (nats .u8 en.l)) W ∧ (∀ x ∈ en.l, x < 256) ∧ (-9223372036854775808 ≤ en.k ∧ en.k ≤ 9223372036854775807) ∧ en.l.length ≤ en.c ∧ (en.c : Int) ≤ 9223372036854775807
theorem open_rowE {t e : TypeId} {f0 f1 f2 : Field} (ht : P.underlying t = some (.struct #[f0, f1, f2])) (hi : P.underlying f0.type = some (.int .i64)) (hb : P.underlying f1.type = some .bool) (hs : P.underlying f2.type = some (.slice e)) (he : P.underlying e = some (.int .u8))
    (hct : P.cellsOf t = 3) (hci : P.cellsOf f0.type = 1) (hcb : P.cellsOf f1.type = 1) (hcs : P.cellsOf f2.type = 1) (hce : P.cellsOf e = 1) (h0 : f0.offset = 0) (h1 : f1.offset = 1) (h2 : f2.offset = 2) {fuel : Nat} {r : List Value} {x : DataW H × List MemPlace} (hf : DataW.trod enc P W base spare held fuel t r = some x) :
    ∃ en : EntG, r = en.row ∧ EntIn W en := by
  obtain ⟨y0, y1, y2, m, _, hl, k0, k1, k2⟩ := trod_struct3 ht hf
  rw [hct] at hl
  match r, hl with
  | [v0, v1, v2], _ =>
    simp only [hci, hcb, hcs, h0, h1, h2, List.drop, List.take] at k0 k1 k2
    obtain ⟨z, hz, _, hw⟩ := DataW.trod_int hi k0
    obtain ⟨b, hb2, _⟩ := DataW.trod_bool hb k1
    obtain ⟨A, n, c, p, rfl, g1, g2, g3, g4, g5⟩ := open_rowB hs he hce k2
    simp only [List.cons.injEq, and_true] at hz hb2
    subst hz hb2 g3
    refine ⟨⟨z, b, A, c, p⟩, rfl, g4, g5, ?_, g1, g2⟩
    simp only [Lit.wf, Bool.and_eq_true, decide_eq_true_eq] at hw
    have e1 : IntKind.i64.min = -9223372036854775808 := by decide
    have e2 : IntKind.i64.max = 9223372036854775807 := by decide
    simp only
    omega
theorem rows_do {Q : List Value → Prop} {R : DoG → Prop} (hQ : ∀ r, Q r → ∃ d : DoG, r = d.row ∧ R d) : ∀ rows : List (List Value), (∀ r ∈ rows, Q r) → ∃ ds : List DoG, ds.length = rows.length ∧ rows.flatten = rowsD ds ∧ ∀ d ∈ ds, R d
  | [], _ => ⟨[], rfl, rfl, fun e he => by cases he⟩
  | r :: rows, h => by
    obtain ⟨ds, h1, h2, h3⟩ := rows_do hQ rows (fun r hr => h r (by simp [hr]))
    obtain ⟨d, rfl, h4⟩ := hQ r (h r (by simp))
    refine ⟨d :: ds, by simp [h1], by rw [List.flatten_cons, h2]; rfl, fun e he => ?_⟩
    rcases List.mem_cons.1 he with rfl | he
    · exact h4
    · exact h3 e he
theorem open_slD {t td e : TypeId} {g0 g1 f0 f1 f2 : Field} {v : Value} {d : DataW H} {ps : List MemPlace} (ht : P.underlying t = some (.slice td)) (htd : P.underlying td = some (.struct #[g0, g1])) (hte : P.underlying g0.type = some (.struct #[f0, f1, f2])) (hcl : P.underlying g1.type = some .bool) (hi : P.underlying f0.type = some (.int .i64)) (hb : P.underlying f1.type = some .bool) (hs : P.underlying f2.type = some (.slice e)) (he : P.underlying e = some (.int .u8))
    (hctd : P.cellsOf td = 4) (hct : P.cellsOf g0.type = 3) (hccl : P.cellsOf g1.type = 1) (hci : P.cellsOf f0.type = 1) (hcb : P.cellsOf f1.type = 1) (hcs : P.cellsOf f2.type = 1) (hce : P.cellsOf e = 1) (m0 : g0.offset = 0) (m1 : g1.offset = 3) (h0 : f0.offset = 0) (h1 : f1.offset = 1) (h2 : f2.offset = 2) (hval : Value.okWide P W .any b0 t v) (hd : DataW.Trod enc P W base spare held t v d ps) :
    ∃ A n c ds, v = .slice A n c ∧ n ≤ c ∧ (c : Int) ≤ 9223372036854775807 ∧ ds.length = n ∧ Has (sl 4 A n (rowsD ds)) W ∧ ∀ d ∈ ds, EntIn W d.e := by
  obtain ⟨A, n, c, rows, rfl, k1, k2, k3, k4, k5⟩ := open_slS ht hctd (by omega) hval hd
  obtain ⟨ds, j1, j2, j3⟩ := rows_do (Q := fun r => r.length = 4 ∧ ∃ m y, DataW.trod enc P W base spare held m td r = some y) (R := fun d => EntIn W d.e) (fun r ⟨hl, m, y, hr⟩ => by
    obtain ⟨y0, y1, m2, _, _, q0, q1⟩ := trod_struct2 htd hr
    match r, hl with
    | [v0, v1, v2, v3], _ =>
      simp only [hct, hccl, m0, m1, List.drop, List.take] at q0 q1
      obtain ⟨en, hrow, hen⟩ := open_rowE hte hi hb hs he hct hci hcb hcs hce h0 h1 h2 q0
      obtain ⟨b, hb2, _⟩ := DataW.trod_bool hcl q1
      simp only [List.cons.injEq, and_true] at hb2
      subst hb2
      refine ⟨⟨en, b⟩, ?_, hen⟩
      show _ = en.row ++ [.bool b]
      rw [← hrow]
      rfl) rows k4
  exact ⟨A, n, c, ds, rfl, k1, k2, j1.trans k3, j2 ▸ k5, j3⟩
end
end Go.Sx
end
section
/- The statement BufferPlays, walked. Conditions: the errors' variables, each a pointer of its own; what comes in. -/
namespace Go.Proofs.YtcdmmfpgeagimaaDoor
open Go Go.Lib Go.Sx Go.Fm
set_option maxRecDepth 100000
/-- An error, and its number. -/
def IsOK (e : Nat → Addr) (f : Value) (g : Int) : Prop := (f = .nilIface ∧ g = 0) ∨ ∃ j k : Nat, apiErrs[j]? = some k ∧ f = errV e k ∧ g = 101 + (j : Nat)
theorem is_any (e : Nat → Addr) (f : Value) (g : Int) (w : World) (he : Has (ersA e apiErrs) w) (h : IsOK e f g) : Spec1 Tryd.prog 62 [f, .int .i64 g] w (.bool true) := by
  rcases h with ⟨rfl, rfl⟩ | ⟨j, k, hj, rfl, rfl⟩
  · exact is_none 0 w
  · have := is_err j k (101 + (j : Nat)) e w he hj
    rw [decide_eq_true rfl] at this
    exact this
theorem natsSet (l : List Nat) (k : Nat) : nats .u8 (l.set k 238) = (nats .u8 l).set k (.int .u8 238) := by simp [nats, List.map_set]
theorem wd_ok (e : Nat → Addr) (most sectors : Int) (sized : Bool) (es : List EntG) (k : Int) : IsOK e (wV e most sectors sized es k) (dV most sectors sized es k) := by
  unfold wV dV
  split
  · exact .inr ⟨1, _, rfl, rfl, rfl⟩
  · split
    · exact .inr ⟨15, _, rfl, rfl, rfl⟩
    · split
      · exact .inr ⟨13, _, rfl, rfl, rfl⟩
      · exact .inl ⟨rfl, rfl⟩
theorem _root_.Go.Sx.Has.doEnt {A : Option Addr} {ds : List DoG} {w : World} (h : Has (sl 4 A ds.length (rowsD ds)) w) {i : Nat} {d : DoG} (hd : ds[i]? = some d) : ∀ j v, d.e.row[j]? = some v → w.cell? ⟨ob A, oo A + i * 4 + 0 + j, none⟩ = some v := fun j v hj => by
  rw [Nat.add_zero]
  refine h.doRow hd j v ?_
  unfold DoG.row
  rw [List.getElem?_append_left (List.getElem?_eq_some_iff.1 hj).1]
  exact hj

theorem bnew_bad (size most sectors : Int) (e : Nat → Addr) (w : World) (hE : Er e w 4) (hbad : ¬ (1 ≤ size ∧ size ≤ 1024 ∧ 1 ≤ most ∧ most ≤ 64 ∧ 1 ≤ sectors ∧ sectors ≤ 1073741824)) : Spec1 Tryd.prog 51 [.int .i64 size, .int .i64 most, .int .i64 sectors] w (two (.pointer none) (errV e 4)) := by
  refine spec_of Tryd.func51 rfl Tryd.ntmps51 rfl ?_
  refine CW.seq ?_
  refine CW.reg [0, 1] rfl ?_
  refine s_as 6 rfl rfl ?_
  refine s_as 7 rfl rfl ?_
  refine SX.next ?_
  refine CW.seq ?_
  refine CW.seq ?_
  refine CW.reg [0, 1, 2, 3, 4, 5, 6, 7, 8] rfl ?_
  refine s_mv 10 rfl rfl ?_
  refine s_buildA 11 rfl rfl (cells := #[.int .i64 size, .int .i64 1024]) (by kernel_rfl) ?_
  refine s_mv 12 rfl rfl ?_
  refine s_buildA 13 rfl rfl (cells := #[.int .i64 most, .int .i64 64]) (by kernel_rfl) ?_
  refine s_mv 14 rfl rfl ?_
  refine s_buildA 15 rfl rfl (cells := #[.int .i64 sectors, .int .i64 1073741824]) (by kernel_rfl) ?_
  refine s_bsl 16 rfl rfl (cells := #[.int .i64 size, .int .i64 1024, .int .i64 most, .int .i64 64, .int .i64 sectors, .int .i64 1073741824]) (by kernel_rfl) rfl (fun _ _ => trivial) (fun g => ?_)
  refine s_len 17 rfl rfl ?_
  refine s_mv 18 rfl rfl ?_
  refine SX.next ?_
  refine CW.block ?_
  refine CW.loop (G := Nat) (fun i => [(0, .int .i64 size), (1, .int .i64 most), (2, .int .i64 sectors), (16, .slice (some ⟨g, 0, none⟩) 3 3), (17, .int .i64 3), (18, .int .i64 (i : Nat))]) (fun _ => Sto w [blk g 138 #[.int .i64 size, .int .i64 1024, .int .i64 most, .int .i64 64, .int .i64 sectors, .int .i64 1073741824]]) (fun i => i ≤ 3 ∧ (0 < i → 1 ≤ size ∧ size ≤ 1024) ∧ (1 < i → 1 ≤ most ∧ most ≤ 64) ∧ (2 < i → 1 ≤ sectors ∧ sectors ≤ 1073741824)) (fun i => 3 - i) 0 ⟨rfl, rfl, rfl, rfl, rfl, rfl, trivial⟩ (fun _ h => h) (by omega) ?_
  intro i hi
  refine CW.seq ?_
  refine CW.reg [0] rfl ?_
  refine s_lt 19 rfl rfl rfl rfl ?_
  refine SX.next ?_
  refine CW.seq ?_
  refine CW.test rfl (fun hc => ?_) (fun hc => ?_)
  · skip
    have hi3 : i < 3 := by omega
    refine CW.skip ?_
    refine KN.code ?_
    refine CW.seq ?_
    refine CW.block ?_
    refine CW.seq ?_
    rcases (show i = 0 ∨ i = 1 ∨ i = 2 by omega) with rfl | rfl | rfl
    · skip
      refine CW.reg [0, 1, 2, 3] rfl ?_
      refine s_ia 20 rfl rfl rfl (by omega) ?_
      refine s_ldR 21 (cs := [.int .i64 size, .int .i64 1024]) rfl rfl rfl (fun w hw => hw.blkPart (i := 0) rfl (two_at rfl rfl)) ?_
      refine s_alloc 9 rfl (fun _ _ => trivial) (fun b9 => ?_)
      refine s_stAll 0 rfl rfl (by kernel_rfl) rfl rfl rfl rfl (fun _ _ => trivial) ?_
      refine SX.next ?_
      refine CW.seq ?_
      refine CW.reg [0, 1, 2, 3, 4, 5, 6, 7, 8, 9] rfl ?_
      refine s_iaR 22 0 rfl rfl rfl rfl (by omega) ?_
      refine s_ldB 23 0 rfl rfl rfl (v := .int .i64 size) rfl ?_
      refine s_lt 24 rfl rfl rfl rfl ?_
      refine s_mv 25 rfl rfl ?_
      refine SX.bool 25 rfl (fun hb => ?_) (fun hb => ?_)
      · skip
        skip
        refine SX.skip rfl ?_
        refine SX.skip rfl ?_
        refine SX.skip rfl ?_
        refine SX.skip rfl ?_
        refine SX.skip rfl ?_
        refine s_pickT 31 rfl rfl rfl ?_
        refine SX.next ?_
        refine CW.condT rfl ?_
        refine CW.seq ?_
        refine CW.regD (.st true 0 (.st true 1 (.st true 2 .done))) (Sto w []) mixed (by kernel_rfl) (fun _ h => h.drew) (fun _ h => h.pick [] rfl) ?_
        refine s_ldS 32 rfl rfl (fun _ h => h.cell hE) ?_
        refine s_as 6 rfl rfl ?_
        refine s_as 7 rfl rfl ?_
        refine SX.next ?_
        refine CW.ret ?_
        exact KN.ret (rs := [.tmp 6, .tmp 7]) Tryd.results51 rfl (fun w hw => ⟨rfl, hw.nothing⟩)
      · skip
        have hq1 := of_decide_eq_false hb
        refine s_iaR 26 0 rfl rfl rfl rfl (by omega) ?_
        refine s_ldB 27 0 rfl rfl rfl (v := .int .i64 size) rfl ?_
        refine s_iaR 28 1 rfl rfl rfl rfl (by omega) ?_
        refine s_ldB 29 0 rfl rfl rfl (v := .int .i64 1024) rfl ?_
        refine s_gt 30 rfl rfl rfl rfl ?_
        refine s_pickF 31 rfl rfl rfl ?_
        refine SX.next ?_
        refine CW.test rfl (fun hc => ?_) (fun hc => ?_)
        · skip
          refine CW.seq ?_
          refine CW.regD (.st true 0 (.st true 1 (.st true 2 .done))) (Sto w []) mixed (by kernel_rfl) (fun _ h => h.drew) (fun _ h => h.pick [] rfl) ?_
          refine s_ldS 32 rfl rfl (fun _ h => h.cell hE) ?_
          refine s_as 6 rfl rfl ?_
          refine s_as 7 rfl rfl ?_
          refine SX.next ?_
          refine CW.ret ?_
          exact KN.ret (rs := [.tmp 6, .tmp 7]) Tryd.results51 rfl (fun w hw => ⟨rfl, hw.nothing⟩)
        · skip
          refine CW.skip ?_
          refine KN.blk ?_
          refine KN.code ?_
          refine CW.reg [0, 1] rfl ?_
          refine s_add 33 rfl rfl rfl (r := ((1 : Nat) : Int)) rfl ?_
          refine s_mv 18 rfl rfl ?_
          refine SX.end_ ?_
          exact KN.back 1 ⟨rfl, rfl, rfl, rfl, rfl, rfl, trivial⟩ (fun _ h => h.pick [1] rfl) (by omega) (by omega)
    · skip
      refine CW.reg [0, 1, 2, 3] rfl ?_
      refine s_ia 20 rfl rfl rfl (by omega) ?_
      refine s_ldR 21 (cs := [.int .i64 most, .int .i64 64]) rfl rfl rfl (fun w hw => hw.blkPart (i := 0) rfl (two_at rfl rfl)) ?_
      refine s_alloc 9 rfl (fun _ _ => trivial) (fun b9 => ?_)
      refine s_stAll 0 rfl rfl (by kernel_rfl) rfl rfl rfl rfl (fun _ _ => trivial) ?_
      refine SX.next ?_
      refine CW.seq ?_
      refine CW.reg [0, 1, 2, 3, 4, 5, 6, 7, 8, 9] rfl ?_
      refine s_iaR 22 0 rfl rfl rfl rfl (by omega) ?_
      refine s_ldB 23 0 rfl rfl rfl (v := .int .i64 most) rfl ?_
      refine s_lt 24 rfl rfl rfl rfl ?_
      refine s_mv 25 rfl rfl ?_
      refine SX.bool 25 rfl (fun hb => ?_) (fun hb => ?_)
      · skip
        skip
        refine SX.skip rfl ?_
        refine SX.skip rfl ?_
        refine SX.skip rfl ?_
        refine SX.skip rfl ?_
        refine SX.skip rfl ?_
        refine s_pickT 31 rfl rfl rfl ?_
        refine SX.next ?_
        refine CW.condT rfl ?_
        refine CW.seq ?_
        refine CW.regD (.st true 0 (.st true 1 (.st true 2 .done))) (Sto w []) mixed (by kernel_rfl) (fun _ h => h.drew) (fun _ h => h.pick [] rfl) ?_
        refine s_ldS 32 rfl rfl (fun _ h => h.cell hE) ?_
        refine s_as 6 rfl rfl ?_
        refine s_as 7 rfl rfl ?_
        refine SX.next ?_
        refine CW.ret ?_
        exact KN.ret (rs := [.tmp 6, .tmp 7]) Tryd.results51 rfl (fun w hw => ⟨rfl, hw.nothing⟩)
      · skip
        have hq1 := of_decide_eq_false hb
        refine s_iaR 26 0 rfl rfl rfl rfl (by omega) ?_
        refine s_ldB 27 0 rfl rfl rfl (v := .int .i64 most) rfl ?_
        refine s_iaR 28 1 rfl rfl rfl rfl (by omega) ?_
        refine s_ldB 29 0 rfl rfl rfl (v := .int .i64 64) rfl ?_
        refine s_gt 30 rfl rfl rfl rfl ?_
        refine s_pickF 31 rfl rfl rfl ?_
        refine SX.next ?_
        refine CW.test rfl (fun hc => ?_) (fun hc => ?_)
        · skip
          refine CW.seq ?_
          refine CW.regD (.st true 0 (.st true 1 (.st true 2 .done))) (Sto w []) mixed (by kernel_rfl) (fun _ h => h.drew) (fun _ h => h.pick [] rfl) ?_
          refine s_ldS 32 rfl rfl (fun _ h => h.cell hE) ?_
          refine s_as 6 rfl rfl ?_
          refine s_as 7 rfl rfl ?_
          refine SX.next ?_
          refine CW.ret ?_
          exact KN.ret (rs := [.tmp 6, .tmp 7]) Tryd.results51 rfl (fun w hw => ⟨rfl, hw.nothing⟩)
        · skip
          refine CW.skip ?_
          refine KN.blk ?_
          refine KN.code ?_
          refine CW.reg [0, 1] rfl ?_
          refine s_add 33 rfl rfl rfl (r := ((2 : Nat) : Int)) rfl ?_
          refine s_mv 18 rfl rfl ?_
          refine SX.end_ ?_
          exact KN.back 2 ⟨rfl, rfl, rfl, rfl, rfl, rfl, trivial⟩ (fun _ h => h.pick [1] rfl) (by omega) (by omega)
    · skip
      refine CW.reg [0, 1, 2, 3] rfl ?_
      refine s_ia 20 rfl rfl rfl (by omega) ?_
      refine s_ldR 21 (cs := [.int .i64 sectors, .int .i64 1073741824]) rfl rfl rfl (fun w hw => hw.blkPart (i := 0) rfl (two_at rfl rfl)) ?_
      refine s_alloc 9 rfl (fun _ _ => trivial) (fun b9 => ?_)
      refine s_stAll 0 rfl rfl (by kernel_rfl) rfl rfl rfl rfl (fun _ _ => trivial) ?_
      refine SX.next ?_
      refine CW.seq ?_
      refine CW.reg [0, 1, 2, 3, 4, 5, 6, 7, 8, 9] rfl ?_
      refine s_iaR 22 0 rfl rfl rfl rfl (by omega) ?_
      refine s_ldB 23 0 rfl rfl rfl (v := .int .i64 sectors) rfl ?_
      refine s_lt 24 rfl rfl rfl rfl ?_
      refine s_mv 25 rfl rfl ?_
      refine SX.bool 25 rfl (fun hb => ?_) (fun hb => ?_)
      · skip
        skip
        refine SX.skip rfl ?_
        refine SX.skip rfl ?_
        refine SX.skip rfl ?_
        refine SX.skip rfl ?_
        refine SX.skip rfl ?_
        refine s_pickT 31 rfl rfl rfl ?_
        refine SX.next ?_
        refine CW.condT rfl ?_
        refine CW.seq ?_
        refine CW.regD (.st true 0 (.st true 1 (.st true 2 .done))) (Sto w []) mixed (by kernel_rfl) (fun _ h => h.drew) (fun _ h => h.pick [] rfl) ?_
        refine s_ldS 32 rfl rfl (fun _ h => h.cell hE) ?_
        refine s_as 6 rfl rfl ?_
        refine s_as 7 rfl rfl ?_
        refine SX.next ?_
        refine CW.ret ?_
        exact KN.ret (rs := [.tmp 6, .tmp 7]) Tryd.results51 rfl (fun w hw => ⟨rfl, hw.nothing⟩)
      · skip
        have hq1 := of_decide_eq_false hb
        refine s_iaR 26 0 rfl rfl rfl rfl (by omega) ?_
        refine s_ldB 27 0 rfl rfl rfl (v := .int .i64 sectors) rfl ?_
        refine s_iaR 28 1 rfl rfl rfl rfl (by omega) ?_
        refine s_ldB 29 0 rfl rfl rfl (v := .int .i64 1073741824) rfl ?_
        refine s_gt 30 rfl rfl rfl rfl ?_
        refine s_pickF 31 rfl rfl rfl ?_
        refine SX.next ?_
        refine CW.test rfl (fun hc => ?_) (fun hc => ?_)
        · skip
          refine CW.seq ?_
          refine CW.regD (.st true 0 (.st true 1 (.st true 2 .done))) (Sto w []) mixed (by kernel_rfl) (fun _ h => h.drew) (fun _ h => h.pick [] rfl) ?_
          refine s_ldS 32 rfl rfl (fun _ h => h.cell hE) ?_
          refine s_as 6 rfl rfl ?_
          refine s_as 7 rfl rfl ?_
          refine SX.next ?_
          refine CW.ret ?_
          exact KN.ret (rs := [.tmp 6, .tmp 7]) Tryd.results51 rfl (fun w hw => ⟨rfl, hw.nothing⟩)
        · skip
          refine CW.skip ?_
          refine KN.blk ?_
          refine KN.code ?_
          refine CW.reg [0, 1] rfl ?_
          refine s_add 33 rfl rfl rfl (r := ((3 : Nat) : Int)) rfl ?_
          refine s_mv 18 rfl rfl ?_
          refine SX.end_ ?_
          exact KN.back 3 ⟨rfl, rfl, rfl, rfl, rfl, rfl, trivial⟩ (fun _ h => h.pick [1] rfl) (by omega) (by omega)
  · skip
    omega

theorem bplay_long (a0 a1 a2 : Int) (A3 : Option Addr) (c3 : Nat) (l3 : List DoG) (a4 a5 : Int) (e : Nat → Addr) (w : World) (_hs3 : Has (sl 4 A3 l3.length (rowsD l3)) w) (_hz3 : ∀ d ∈ l3, EntIn w d.e) (he : Has (ersA e apiErrs) w) (_hn3 : l3.length ≤ 9223372036854775807) (hlong : 100 < l3.length) : Spec1 Tryd.prog 7 [.int .i64 a0, .int .i64 a1, .int .i64 a2, .slice A3 l3.length c3, .int .i64 a4, .int .i64 a5] w (.bool true) := by
  have he1 : Er e w 1 := he.ers (by decide)
  have he2 : Er e w 5 := he.ers (by decide)
  have he3 : Er e w 3 := he.ers (by decide)
  have he4 : Er e w 4 := he.ers (by decide)
  refine calls_ofI Tryd.func7 rfl Tryd.ntmps7 rfl (C := Sto w []) (St.start w) ?_
  refine CWI.seq ?_
  refine CWI.reg [0, 1] rfl (by kernel_rfl) ?_
  refine SXI.of1 (pf := fun _ => True) (fun _ hK => s_box 11 rfl rfl (fun _ _ => trivial) (fun x => SX.done (hK x trivial))) (fun b11 _ => ?_)
  refine SXI.of1 (pf := fun _ => True) (fun _ hK => s_alloc 12 rfl (fun _ _ => trivial) (fun x => SX.done (hK x trivial))) (fun b12 _ => ?_)
  refine SXI.next ?_
  refine CWI.seq ?_
  refine CWI.reg [0, 1] rfl (by kernel_rfl) ?_
  refine SXI.of (fun _ hK => s_call1 33 rfl rfl rfl rfl (fun w hw => first19_spec e w (hw.er he1) (hw.er he2) (hw.er he3)) (fun _ _ => trivial) (SX.done hK)) ?_
  refine SXI.of (fun _ hK => s_as 13 rfl rfl (SX.done hK)) ?_
  refine SXI.next ?_
  refine CWI.seq ?_
  refine CWI.seq ?_
  refine CWI.reg [0, 1, 2, 3, 4, 5, 6] rfl (by kernel_rfl) ?_
  refine SXI.of (fun _ hK => s_mv 34 rfl rfl (SX.done hK)) ?_
  refine SXI.of (fun _ hK => s_len 35 rfl rfl (SX.done hK)) ?_
  refine SXI.of (fun _ hK => s_gt 36 rfl rfl rfl (decide_eq_true (by omega)) (SX.done hK)) ?_
  refine SXI.of (fun _ hK => s_mv 37 rfl rfl (SX.done hK)) ?_
  refine SXI.of (fun _ hK => SX.skip rfl (SX.done hK)) ?_
  refine SXI.of (fun _ hK => SX.skip rfl (SX.done hK)) ?_
  refine SXI.of (fun _ hK => s_pickT 40 rfl rfl rfl (SX.done hK)) ?_
  refine SXI.next ?_
  refine CWI.condT rfl ?_
  refine CWI.seq ?_
  refine CWI.reg [0, 1] rfl (by kernel_rfl) ?_
  refine SXI.of (fun _ hK => s_mv 41 rfl rfl (SX.done hK)) ?_
  refine SXI.of (fun _ hK => s_stB 0 rfl rfl rfl rfl rfl (Nat.lt_succ_self 0) (fun _ _ => trivial) (SX.done hK)) ?_
  refine SXI.next ?_
  refine CWI.ret ?_
  exact retMC (rs := [.cell 12 4]) (L := [blk b12 4 #[.bool true]]) [] rfl Tryd.results7 (fun _ h => h.pick [0] rfl) (fun w hw => ⟨[_], ⟨⟨_, rfl, run_loadVar1 (hw.blkCell (i := 0) (j := 0) rfl rfl)⟩, trivial⟩, rfl, hw.pick [] rfl⟩)

theorem bplay_bad (a0 a1 a2 : Int) (A3 : Option Addr) (c3 : Nat) (l3 : List DoG) (a4 a5 : Int) (e : Nat → Addr) (w : World) (_hs3 : Has (sl 4 A3 l3.length (rowsD l3)) w) (_hz3 : ∀ d ∈ l3, EntIn w d.e) (he : Has (ersA e apiErrs) w) (_hn3 : l3.length ≤ 9223372036854775807) (h100 : l3.length ≤ 100) (hbad : ¬ (1 ≤ a0 ∧ a0 ≤ 1024 ∧ 1 ≤ a1 ∧ a1 ≤ 64 ∧ 1 ≤ a2 ∧ a2 ≤ 1073741824)) : Spec1 Tryd.prog 7 [.int .i64 a0, .int .i64 a1, .int .i64 a2, .slice A3 l3.length c3, .int .i64 a4, .int .i64 a5] w (.bool true) := by
  have he1 : Er e w 1 := he.ers (by decide)
  have he2 : Er e w 5 := he.ers (by decide)
  have he3 : Er e w 3 := he.ers (by decide)
  have he4 : Er e w 4 := he.ers (by decide)
  refine calls_ofI Tryd.func7 rfl Tryd.ntmps7 rfl (C := Sto w []) (St.start w) ?_
  refine CWI.seq ?_
  refine CWI.reg [0, 1] rfl (by kernel_rfl) ?_
  refine SXI.of1 (pf := fun _ => True) (fun _ hK => s_box 11 rfl rfl (fun _ _ => trivial) (fun x => SX.done (hK x trivial))) (fun b11 _ => ?_)
  refine SXI.of1 (pf := fun _ => True) (fun _ hK => s_alloc 12 rfl (fun _ _ => trivial) (fun x => SX.done (hK x trivial))) (fun b12 _ => ?_)
  refine SXI.next ?_
  refine CWI.seq ?_
  refine CWI.reg [0, 1] rfl (by kernel_rfl) ?_
  refine SXI.of (fun _ hK => s_call1 33 rfl rfl rfl rfl (fun w hw => first19_spec e w (hw.er he1) (hw.er he2) (hw.er he3)) (fun _ _ => trivial) (SX.done hK)) ?_
  refine SXI.of (fun _ hK => s_as 13 rfl rfl (SX.done hK)) ?_
  refine SXI.next ?_
  refine CWI.seq ?_
  refine CWI.seq ?_
  refine CWI.reg [0, 1, 2, 3, 4, 5, 6] rfl (by kernel_rfl) ?_
  refine SXI.of (fun _ hK => s_mv 34 rfl rfl (SX.done hK)) ?_
  refine SXI.of (fun _ hK => s_len 35 rfl rfl (SX.done hK)) ?_
  refine SXI.of (fun _ hK => s_gt 36 rfl rfl rfl (decide_eq_false (by omega)) (SX.done hK)) ?_
  refine SXI.of (fun _ hK => s_mv 37 rfl rfl (SX.done hK)) ?_
  refine SXI.of (fun _ hK => s_mv 38 rfl rfl (SX.done hK)) ?_
  refine SXI.of (fun _ hK => s_not 39 rfl rfl (SX.done hK)) ?_
  refine SXI.of (fun _ hK => s_pickF 40 rfl rfl rfl (SX.done hK)) ?_
  refine SXI.next ?_
  refine CWI.condF rfl ?_
  refine CWI.skip ?_
  refine KNI.code ?_
  refine CWI.seq ?_
  refine CWI.reg [0, 1, 2, 3, 4, 5, 6, 7, 8] rfl (by kernel_rfl) ?_
  refine SXI.of (fun _ hK => s_mv 43 rfl rfl (SX.done hK)) ?_
  refine SXI.of (fun _ hK => s_mv 44 rfl rfl (SX.done hK)) ?_
  refine SXI.of (fun _ hK => s_mv 45 rfl rfl (SX.done hK)) ?_
  refine SXI.of (fun _ hK => s_call1 46 rfl rfl rfl rfl (fun w hw => bnew_bad a0 a1 a2 e w (hw.er he4) hbad) (fun _ _ => trivial) (SX.done hK)) ?_
  refine SXI.of (fun _ hK => s_mv 42 rfl rfl (SX.done hK)) ?_
  refine SXI.of (fun _ hK => s_ext 47 rfl rfl rfl (SX.done hK)) ?_
  refine SXI.of (fun _ hK => s_ext 48 rfl rfl rfl (SX.done hK)) ?_
  refine SXI.of (fun _ hK => s_as 14 rfl rfl (SX.done hK)) ?_
  refine SXI.of (fun _ hK => s_as 15 rfl rfl (SX.done hK)) ?_
  refine SXI.next ?_
  refine CWI.seq ?_
  refine CWI.reg [0, 1, 2, 3, 4, 5, 6, 7, 8, 9, 10, 11, 12, 13, 14, 15, 16, 17, 18, 19, 20, 21, 22] rfl (by kernel_rfl) ?_
  refine SXI.of (fun _ hK => s_mv 49 rfl rfl (SX.done hK)) ?_
  refine SXI.of (fun _ hK => s_ge 50 rfl rfl rfl rfl (SX.done hK)) ?_
  refine SXI.of (fun _ hK => s_mv 51 rfl rfl (SX.done hK)) ?_
  refine SXI.bool 51 rfl (fun hb => ?_) (fun hb => ?_)
  · skip
    have q1 := of_decide_eq_true hb
    refine SXI.of (fun _ hK => s_mv 52 rfl rfl (SX.done hK)) ?_
    refine SXI.of (fun _ hK => s_le 53 rfl rfl rfl rfl (SX.done hK)) ?_
    refine SXI.of (fun _ hK => s_pickT 54 rfl rfl rfl (SX.done hK)) ?_
    refine SXI.of (fun _ hK => s_mv 55 rfl rfl (SX.done hK)) ?_
    refine SXI.bool 55 rfl (fun hb => ?_) (fun hb => ?_)
    · skip
      have q2 := of_decide_eq_true hb
      refine SXI.of (fun _ hK => s_mv 56 rfl rfl (SX.done hK)) ?_
      refine SXI.of (fun _ hK => s_ge 57 rfl rfl rfl rfl (SX.done hK)) ?_
      refine SXI.of (fun _ hK => s_pickT 58 rfl rfl rfl (SX.done hK)) ?_
      refine SXI.of (fun _ hK => s_mv 59 rfl rfl (SX.done hK)) ?_
      refine SXI.bool 59 rfl (fun hb => ?_) (fun hb => ?_)
      · skip
        have q3 := of_decide_eq_true hb
        refine SXI.of (fun _ hK => s_mv 60 rfl rfl (SX.done hK)) ?_
        refine SXI.of (fun _ hK => s_le 61 rfl rfl rfl rfl (SX.done hK)) ?_
        refine SXI.of (fun _ hK => s_pickT 62 rfl rfl rfl (SX.done hK)) ?_
        refine SXI.of (fun _ hK => s_mv 63 rfl rfl (SX.done hK)) ?_
        refine SXI.bool 63 rfl (fun hb => ?_) (fun hb => ?_)
        · skip
          have q4 := of_decide_eq_true hb
          refine SXI.of (fun _ hK => s_mv 64 rfl rfl (SX.done hK)) ?_
          refine SXI.of (fun _ hK => s_ge 65 rfl rfl rfl rfl (SX.done hK)) ?_
          refine SXI.of (fun _ hK => s_pickT 66 rfl rfl rfl (SX.done hK)) ?_
          refine SXI.of (fun _ hK => s_mv 67 rfl rfl (SX.done hK)) ?_
          refine SXI.bool 67 rfl (fun hb => ?_) (fun hb => ?_)
          · skip
            have q5 := of_decide_eq_true hb
            refine SXI.of (fun _ hK => s_mv 68 rfl rfl (SX.done hK)) ?_
            refine SXI.of (fun _ hK => s_le 69 rfl rfl rfl rfl (SX.done hK)) ?_
            refine SXI.of (fun _ hK => s_pickT 70 rfl rfl rfl (SX.done hK)) ?_
            refine SXI.of (fun _ hK => s_as 16 rfl rfl (SX.done hK)) ?_
            refine SXI.next ?_
            refine CWI.seq ?_
            refine CWI.seq ?_
            refine CWI.reg [0, 1] rfl (by kernel_rfl) ?_
            refine SXI.of (fun _ hK => s_mv 71 rfl rfl (SX.done hK)) ?_
            refine SXI.of (fun _ hK => s_not 72 rfl rfl (SX.done hK)) ?_
            refine SXI.next ?_
            refine CWI.cond rfl (fun hc => ?_) (fun hc => ?_)
            · skip
              refine CWI.seq ?_
              refine CWI.reg [0, 1, 2, 3, 4, 5, 6, 7] rfl (by kernel_rfl) ?_
              refine SXI.of (fun _ hK => s_mv 73 rfl rfl (SX.done hK)) ?_
              refine SXI.of (fun _ hK => s_eqPNn 74 rfl rfl (SX.done hK)) ?_
              refine SXI.of (fun _ hK => s_mv 75 rfl rfl (SX.done hK)) ?_
              refine SXI.of (fun _ hK => s_mv 76 rfl rfl (SX.done hK)) ?_
              refine SXI.of (fun _ hK => s_ld 77 rfl rfl (fun _ h => h.cell he4) (SX.done hK)) ?_
              refine SXI.of (fun _ hK => s_eqE 78 rfl rfl rfl (SX.done hK)) ?_
              refine SXI.of (fun _ hK => s_pickT 79 rfl rfl rfl (SX.done hK)) ?_
              refine SXI.of (fun _ hK => s_stB 0 rfl rfl rfl rfl rfl (Nat.lt_succ_self 0) (fun _ _ => trivial) (SX.done hK)) ?_
              refine SXI.next ?_
              refine CWI.ret ?_
              exact retMC (rs := [.cell 12 4]) (L := [blk b12 4 #[.bool true]]) [] rfl Tryd.results7 (fun _ h => h.pick [0] rfl) (fun w hw => ⟨[_], ⟨⟨_, rfl, run_loadVar1 (hw.blkCell (i := 0) (j := 0) rfl rfl)⟩, trivial⟩, rfl, hw.pick [] rfl⟩)
            · skip
              have hq : a2 ≤ 1073741824 := by simpa using hc
              omega
          · skip
            refine SXI.of (fun _ hK => SX.skip rfl (SX.done hK)) ?_
            refine SXI.of (fun _ hK => SX.skip rfl (SX.done hK)) ?_
            refine SXI.of (fun _ hK => s_pickF 70 rfl rfl rfl (SX.done hK)) ?_
            refine SXI.of (fun _ hK => s_as 16 rfl rfl (SX.done hK)) ?_
            refine SXI.next ?_
            refine CWI.seq ?_
            refine CWI.seq ?_
            refine CWI.reg [0, 1] rfl (by kernel_rfl) ?_
            refine SXI.of (fun _ hK => s_mv 71 rfl rfl (SX.done hK)) ?_
            refine SXI.of (fun _ hK => s_not 72 rfl rfl (SX.done hK)) ?_
            refine SXI.next ?_
            refine CWI.condT rfl ?_
            refine CWI.seq ?_
            refine CWI.reg [0, 1, 2, 3, 4, 5, 6, 7] rfl (by kernel_rfl) ?_
            refine SXI.of (fun _ hK => s_mv 73 rfl rfl (SX.done hK)) ?_
            refine SXI.of (fun _ hK => s_eqPNn 74 rfl rfl (SX.done hK)) ?_
            refine SXI.of (fun _ hK => s_mv 75 rfl rfl (SX.done hK)) ?_
            refine SXI.of (fun _ hK => s_mv 76 rfl rfl (SX.done hK)) ?_
            refine SXI.of (fun _ hK => s_ld 77 rfl rfl (fun _ h => h.cell he4) (SX.done hK)) ?_
            refine SXI.of (fun _ hK => s_eqE 78 rfl rfl rfl (SX.done hK)) ?_
            refine SXI.of (fun _ hK => s_pickT 79 rfl rfl rfl (SX.done hK)) ?_
            refine SXI.of (fun _ hK => s_stB 0 rfl rfl rfl rfl rfl (Nat.lt_succ_self 0) (fun _ _ => trivial) (SX.done hK)) ?_
            refine SXI.next ?_
            refine CWI.ret ?_
            exact retMC (rs := [.cell 12 4]) (L := [blk b12 4 #[.bool true]]) [] rfl Tryd.results7 (fun _ h => h.pick [0] rfl) (fun w hw => ⟨[_], ⟨⟨_, rfl, run_loadVar1 (hw.blkCell (i := 0) (j := 0) rfl rfl)⟩, trivial⟩, rfl, hw.pick [] rfl⟩)
        · skip
          refine SXI.of (fun _ hK => SX.skip rfl (SX.done hK)) ?_
          refine SXI.of (fun _ hK => SX.skip rfl (SX.done hK)) ?_
          refine SXI.of (fun _ hK => s_pickF 66 rfl rfl rfl (SX.done hK)) ?_
          refine SXI.of (fun _ hK => s_mv 67 rfl rfl (SX.done hK)) ?_
          refine SXI.of (fun _ hK => SX.skip rfl (SX.done hK)) ?_
          refine SXI.of (fun _ hK => SX.skip rfl (SX.done hK)) ?_
          refine SXI.of (fun _ hK => s_pickF 70 rfl rfl rfl (SX.done hK)) ?_
          refine SXI.of (fun _ hK => s_as 16 rfl rfl (SX.done hK)) ?_
          refine SXI.next ?_
          refine CWI.seq ?_
          refine CWI.seq ?_
          refine CWI.reg [0, 1] rfl (by kernel_rfl) ?_
          refine SXI.of (fun _ hK => s_mv 71 rfl rfl (SX.done hK)) ?_
          refine SXI.of (fun _ hK => s_not 72 rfl rfl (SX.done hK)) ?_
          refine SXI.next ?_
          refine CWI.condT rfl ?_
          refine CWI.seq ?_
          refine CWI.reg [0, 1, 2, 3, 4, 5, 6, 7] rfl (by kernel_rfl) ?_
          refine SXI.of (fun _ hK => s_mv 73 rfl rfl (SX.done hK)) ?_
          refine SXI.of (fun _ hK => s_eqPNn 74 rfl rfl (SX.done hK)) ?_
          refine SXI.of (fun _ hK => s_mv 75 rfl rfl (SX.done hK)) ?_
          refine SXI.of (fun _ hK => s_mv 76 rfl rfl (SX.done hK)) ?_
          refine SXI.of (fun _ hK => s_ld 77 rfl rfl (fun _ h => h.cell he4) (SX.done hK)) ?_
          refine SXI.of (fun _ hK => s_eqE 78 rfl rfl rfl (SX.done hK)) ?_
          refine SXI.of (fun _ hK => s_pickT 79 rfl rfl rfl (SX.done hK)) ?_
          refine SXI.of (fun _ hK => s_stB 0 rfl rfl rfl rfl rfl (Nat.lt_succ_self 0) (fun _ _ => trivial) (SX.done hK)) ?_
          refine SXI.next ?_
          refine CWI.ret ?_
          exact retMC (rs := [.cell 12 4]) (L := [blk b12 4 #[.bool true]]) [] rfl Tryd.results7 (fun _ h => h.pick [0] rfl) (fun w hw => ⟨[_], ⟨⟨_, rfl, run_loadVar1 (hw.blkCell (i := 0) (j := 0) rfl rfl)⟩, trivial⟩, rfl, hw.pick [] rfl⟩)
      · skip
        refine SXI.of (fun _ hK => SX.skip rfl (SX.done hK)) ?_
        refine SXI.of (fun _ hK => SX.skip rfl (SX.done hK)) ?_
        refine SXI.of (fun _ hK => s_pickF 62 rfl rfl rfl (SX.done hK)) ?_
        refine SXI.of (fun _ hK => s_mv 63 rfl rfl (SX.done hK)) ?_
        refine SXI.of (fun _ hK => SX.skip rfl (SX.done hK)) ?_
        refine SXI.of (fun _ hK => SX.skip rfl (SX.done hK)) ?_
        refine SXI.of (fun _ hK => s_pickF 66 rfl rfl rfl (SX.done hK)) ?_
        refine SXI.of (fun _ hK => s_mv 67 rfl rfl (SX.done hK)) ?_
        refine SXI.of (fun _ hK => SX.skip rfl (SX.done hK)) ?_
        refine SXI.of (fun _ hK => SX.skip rfl (SX.done hK)) ?_
        refine SXI.of (fun _ hK => s_pickF 70 rfl rfl rfl (SX.done hK)) ?_
        refine SXI.of (fun _ hK => s_as 16 rfl rfl (SX.done hK)) ?_
        refine SXI.next ?_
        refine CWI.seq ?_
        refine CWI.seq ?_
        refine CWI.reg [0, 1] rfl (by kernel_rfl) ?_
        refine SXI.of (fun _ hK => s_mv 71 rfl rfl (SX.done hK)) ?_
        refine SXI.of (fun _ hK => s_not 72 rfl rfl (SX.done hK)) ?_
        refine SXI.next ?_
        refine CWI.condT rfl ?_
        refine CWI.seq ?_
        refine CWI.reg [0, 1, 2, 3, 4, 5, 6, 7] rfl (by kernel_rfl) ?_
        refine SXI.of (fun _ hK => s_mv 73 rfl rfl (SX.done hK)) ?_
        refine SXI.of (fun _ hK => s_eqPNn 74 rfl rfl (SX.done hK)) ?_
        refine SXI.of (fun _ hK => s_mv 75 rfl rfl (SX.done hK)) ?_
        refine SXI.of (fun _ hK => s_mv 76 rfl rfl (SX.done hK)) ?_
        refine SXI.of (fun _ hK => s_ld 77 rfl rfl (fun _ h => h.cell he4) (SX.done hK)) ?_
        refine SXI.of (fun _ hK => s_eqE 78 rfl rfl rfl (SX.done hK)) ?_
        refine SXI.of (fun _ hK => s_pickT 79 rfl rfl rfl (SX.done hK)) ?_
        refine SXI.of (fun _ hK => s_stB 0 rfl rfl rfl rfl rfl (Nat.lt_succ_self 0) (fun _ _ => trivial) (SX.done hK)) ?_
        refine SXI.next ?_
        refine CWI.ret ?_
        exact retMC (rs := [.cell 12 4]) (L := [blk b12 4 #[.bool true]]) [] rfl Tryd.results7 (fun _ h => h.pick [0] rfl) (fun w hw => ⟨[_], ⟨⟨_, rfl, run_loadVar1 (hw.blkCell (i := 0) (j := 0) rfl rfl)⟩, trivial⟩, rfl, hw.pick [] rfl⟩)
    · skip
      refine SXI.of (fun _ hK => SX.skip rfl (SX.done hK)) ?_
      refine SXI.of (fun _ hK => SX.skip rfl (SX.done hK)) ?_
      refine SXI.of (fun _ hK => s_pickF 58 rfl rfl rfl (SX.done hK)) ?_
      refine SXI.of (fun _ hK => s_mv 59 rfl rfl (SX.done hK)) ?_
      refine SXI.of (fun _ hK => SX.skip rfl (SX.done hK)) ?_
      refine SXI.of (fun _ hK => SX.skip rfl (SX.done hK)) ?_
      refine SXI.of (fun _ hK => s_pickF 62 rfl rfl rfl (SX.done hK)) ?_
      refine SXI.of (fun _ hK => s_mv 63 rfl rfl (SX.done hK)) ?_
      refine SXI.of (fun _ hK => SX.skip rfl (SX.done hK)) ?_
      refine SXI.of (fun _ hK => SX.skip rfl (SX.done hK)) ?_
      refine SXI.of (fun _ hK => s_pickF 66 rfl rfl rfl (SX.done hK)) ?_
      refine SXI.of (fun _ hK => s_mv 67 rfl rfl (SX.done hK)) ?_
      refine SXI.of (fun _ hK => SX.skip rfl (SX.done hK)) ?_
      refine SXI.of (fun _ hK => SX.skip rfl (SX.done hK)) ?_
      refine SXI.of (fun _ hK => s_pickF 70 rfl rfl rfl (SX.done hK)) ?_
      refine SXI.of (fun _ hK => s_as 16 rfl rfl (SX.done hK)) ?_
      refine SXI.next ?_
      refine CWI.seq ?_
      refine CWI.seq ?_
      refine CWI.reg [0, 1] rfl (by kernel_rfl) ?_
      refine SXI.of (fun _ hK => s_mv 71 rfl rfl (SX.done hK)) ?_
      refine SXI.of (fun _ hK => s_not 72 rfl rfl (SX.done hK)) ?_
      refine SXI.next ?_
      refine CWI.condT rfl ?_
      refine CWI.seq ?_
      refine CWI.reg [0, 1, 2, 3, 4, 5, 6, 7] rfl (by kernel_rfl) ?_
      refine SXI.of (fun _ hK => s_mv 73 rfl rfl (SX.done hK)) ?_
      refine SXI.of (fun _ hK => s_eqPNn 74 rfl rfl (SX.done hK)) ?_
      refine SXI.of (fun _ hK => s_mv 75 rfl rfl (SX.done hK)) ?_
      refine SXI.of (fun _ hK => s_mv 76 rfl rfl (SX.done hK)) ?_
      refine SXI.of (fun _ hK => s_ld 77 rfl rfl (fun _ h => h.cell he4) (SX.done hK)) ?_
      refine SXI.of (fun _ hK => s_eqE 78 rfl rfl rfl (SX.done hK)) ?_
      refine SXI.of (fun _ hK => s_pickT 79 rfl rfl rfl (SX.done hK)) ?_
      refine SXI.of (fun _ hK => s_stB 0 rfl rfl rfl rfl rfl (Nat.lt_succ_self 0) (fun _ _ => trivial) (SX.done hK)) ?_
      refine SXI.next ?_
      refine CWI.ret ?_
      exact retMC (rs := [.cell 12 4]) (L := [blk b12 4 #[.bool true]]) [] rfl Tryd.results7 (fun _ h => h.pick [0] rfl) (fun w hw => ⟨[_], ⟨⟨_, rfl, run_loadVar1 (hw.blkCell (i := 0) (j := 0) rfl rfl)⟩, trivial⟩, rfl, hw.pick [] rfl⟩)
  · skip
    refine SXI.of (fun _ hK => SX.skip rfl (SX.done hK)) ?_
    refine SXI.of (fun _ hK => SX.skip rfl (SX.done hK)) ?_
    refine SXI.of (fun _ hK => s_pickF 54 rfl rfl rfl (SX.done hK)) ?_
    refine SXI.of (fun _ hK => s_mv 55 rfl rfl (SX.done hK)) ?_
    refine SXI.of (fun _ hK => SX.skip rfl (SX.done hK)) ?_
    refine SXI.of (fun _ hK => SX.skip rfl (SX.done hK)) ?_
    refine SXI.of (fun _ hK => s_pickF 58 rfl rfl rfl (SX.done hK)) ?_
    refine SXI.of (fun _ hK => s_mv 59 rfl rfl (SX.done hK)) ?_
    refine SXI.of (fun _ hK => SX.skip rfl (SX.done hK)) ?_
    refine SXI.of (fun _ hK => SX.skip rfl (SX.done hK)) ?_
    refine SXI.of (fun _ hK => s_pickF 62 rfl rfl rfl (SX.done hK)) ?_
    refine SXI.of (fun _ hK => s_mv 63 rfl rfl (SX.done hK)) ?_
    refine SXI.of (fun _ hK => SX.skip rfl (SX.done hK)) ?_
    refine SXI.of (fun _ hK => SX.skip rfl (SX.done hK)) ?_
    refine SXI.of (fun _ hK => s_pickF 66 rfl rfl rfl (SX.done hK)) ?_
    refine SXI.of (fun _ hK => s_mv 67 rfl rfl (SX.done hK)) ?_
    refine SXI.of (fun _ hK => SX.skip rfl (SX.done hK)) ?_
    refine SXI.of (fun _ hK => SX.skip rfl (SX.done hK)) ?_
    refine SXI.of (fun _ hK => s_pickF 70 rfl rfl rfl (SX.done hK)) ?_
    refine SXI.of (fun _ hK => s_as 16 rfl rfl (SX.done hK)) ?_
    refine SXI.next ?_
    refine CWI.seq ?_
    refine CWI.seq ?_
    refine CWI.reg [0, 1] rfl (by kernel_rfl) ?_
    refine SXI.of (fun _ hK => s_mv 71 rfl rfl (SX.done hK)) ?_
    refine SXI.of (fun _ hK => s_not 72 rfl rfl (SX.done hK)) ?_
    refine SXI.next ?_
    refine CWI.condT rfl ?_
    refine CWI.seq ?_
    refine CWI.reg [0, 1, 2, 3, 4, 5, 6, 7] rfl (by kernel_rfl) ?_
    refine SXI.of (fun _ hK => s_mv 73 rfl rfl (SX.done hK)) ?_
    refine SXI.of (fun _ hK => s_eqPNn 74 rfl rfl (SX.done hK)) ?_
    refine SXI.of (fun _ hK => s_mv 75 rfl rfl (SX.done hK)) ?_
    refine SXI.of (fun _ hK => s_mv 76 rfl rfl (SX.done hK)) ?_
    refine SXI.of (fun _ hK => s_ld 77 rfl rfl (fun _ h => h.cell he4) (SX.done hK)) ?_
    refine SXI.of (fun _ hK => s_eqE 78 rfl rfl rfl (SX.done hK)) ?_
    refine SXI.of (fun _ hK => s_pickT 79 rfl rfl rfl (SX.done hK)) ?_
    refine SXI.of (fun _ hK => s_stB 0 rfl rfl rfl rfl rfl (Nat.lt_succ_self 0) (fun _ _ => trivial) (SX.done hK)) ?_
    refine SXI.next ?_
    refine CWI.ret ?_
    exact retMC (rs := [.cell 12 4]) (L := [blk b12 4 #[.bool true]]) [] rfl Tryd.results7 (fun _ h => h.pick [0] rfl) (fun w hw => ⟨[_], ⟨⟨_, rfl, run_loadVar1 (hw.blkCell (i := 0) (j := 0) rfl rfl)⟩, trivial⟩, rfl, hw.pick [] rfl⟩)

theorem PlayI.one {most : Int} {a b : List EntG} (h : PlayI most a b) : ∀ e ∈ a, e.l.length ≤ 1000000 := fun e he => Nat.le_trans (h.ok e he).1 (by omega)
theorem PlayI.one2 {most : Int} {a b : List EntG} (h : PlayI most a b) : ∀ e ∈ b, e.l.length ≤ 1000000 := fun e he => Nat.le_trans (h.okb e he).1 (by omega)
set_option maxHeartbeats 6400000 in

theorem bplay_ok (a0 a1 a2 : Int) (A3 : Option Addr) (c3 : Nat) (l3 : List DoG) (a4 a5 : Int) (e : Nat → Addr) (w : World) (hs3 : Has (sl 4 A3 l3.length (rowsD l3)) w) (hz3 : ∀ d ∈ l3, EntIn w d.e) (he : Has (ersA e apiErrs) w) (hn3 : l3.length ≤ 9223372036854775807) (h100 : l3.length ≤ 100) (hOK : (1 ≤ a0 ∧ a0 ≤ 1024 ∧ 1 ≤ a1 ∧ a1 ≤ 64 ∧ 1 ≤ a2 ∧ a2 ≤ 1073741824)) : Spec1 Tryd.prog 7 [.int .i64 a0, .int .i64 a1, .int .i64 a2, .slice A3 l3.length c3, .int .i64 a4, .int .i64 a5] w (.bool true) := by
  have he1 : Er e w 1 := he.ers (by decide)
  have he2 : Er e w 5 := he.ers (by decide)
  have he3 : Er e w 3 := he.ers (by decide)
  have he4 : Er e w 4 := he.ers (by decide)
  refine calls_ofI Tryd.func7 rfl Tryd.ntmps7 rfl (C := Sto w []) (St.start w) ?_
  refine CWI.seq ?_
  refine CWI.reg [0, 1] rfl (by kernel_rfl) ?_
  refine SXI.of1 (pf := fun _ => True) (fun _ hK => s_box 11 rfl rfl (fun _ _ => trivial) (fun x => SX.done (hK x trivial))) (fun b11 _ => ?_)
  refine SXI.of1 (pf := fun _ => True) (fun _ hK => s_alloc 12 rfl (fun _ _ => trivial) (fun x => SX.done (hK x trivial))) (fun b12 _ => ?_)
  refine SXI.next ?_
  refine CWI.seq ?_
  refine CWI.reg [0, 1] rfl (by kernel_rfl) ?_
  refine SXI.of (fun _ hK => s_call1 33 rfl rfl rfl rfl (fun w hw => first19_spec e w (hw.er he1) (hw.er he2) (hw.er he3)) (fun _ _ => trivial) (SX.done hK)) ?_
  refine SXI.of (fun _ hK => s_as 13 rfl rfl (SX.done hK)) ?_
  refine SXI.next ?_
  refine CWI.seq ?_
  refine CWI.seq ?_
  refine CWI.reg [0, 1, 2, 3, 4, 5, 6] rfl (by kernel_rfl) ?_
  refine SXI.of (fun _ hK => s_mv 34 rfl rfl (SX.done hK)) ?_
  refine SXI.of (fun _ hK => s_len 35 rfl rfl (SX.done hK)) ?_
  refine SXI.of (fun _ hK => s_gt 36 rfl rfl rfl (decide_eq_false (by omega)) (SX.done hK)) ?_
  refine SXI.of (fun _ hK => s_mv 37 rfl rfl (SX.done hK)) ?_
  refine SXI.of (fun _ hK => s_mv 38 rfl rfl (SX.done hK)) ?_
  refine SXI.of (fun _ hK => s_not 39 rfl rfl (SX.done hK)) ?_
  refine SXI.of (fun _ hK => s_pickF 40 rfl rfl rfl (SX.done hK)) ?_
  refine SXI.next ?_
  refine CWI.condF rfl ?_
  refine CWI.skip ?_
  refine KNI.code ?_
  refine CWI.seq ?_
  refine CWI.reg [0, 1, 2, 3, 4, 5, 6, 7, 8] rfl (by kernel_rfl) ?_
  refine SXI.of (fun _ hK => s_mv 43 rfl rfl (SX.done hK)) ?_
  refine SXI.of (fun _ hK => s_mv 44 rfl rfl (SX.done hK)) ?_
  refine SXI.of (fun _ hK => s_mv 45 rfl rfl (SX.done hK)) ?_
  refine SXI.of1 (fun _ hK => s_call 46 rfl rfl rfl rfl (fun w hw => bnew_ok a0 a1 a2 w (by omega) (by omega) (by omega) (by omega) (by omega) (by omega)) (fun _ _ => trivial) (fun x hx => SX.done (hK x hx))) (fun b _ => ?_)
  refine SXI.of (fun _ hK => s_mv 42 rfl rfl (SX.done hK)) ?_
  refine SXI.of (fun _ hK => s_ext 47 rfl rfl rfl (SX.done hK)) ?_
  refine SXI.of (fun _ hK => s_ext 48 rfl rfl rfl (SX.done hK)) ?_
  refine SXI.of (fun _ hK => s_as 14 rfl rfl (SX.done hK)) ?_
  refine SXI.of (fun _ hK => s_as 15 rfl rfl (SX.done hK)) ?_
  refine SXI.next ?_
  refine CWI.seq ?_
  refine CWI.reg [0, 1, 2, 3, 4, 5, 6, 7, 8, 9, 10, 11, 12, 13, 14, 15, 16, 17, 18, 19, 20, 21, 22] rfl (by kernel_rfl) ?_
  refine SXI.of (fun _ hK => s_mv 49 rfl rfl (SX.done hK)) ?_
  refine SXI.of (fun _ hK => s_ge 50 rfl rfl rfl (decide_eq_true (by omega)) (SX.done hK)) ?_
  refine SXI.of (fun _ hK => s_mv 51 rfl rfl (SX.done hK)) ?_
  refine SXI.of (fun _ hK => s_mv 52 rfl rfl (SX.done hK)) ?_
  refine SXI.of (fun _ hK => s_le 53 rfl rfl rfl (decide_eq_true (by omega)) (SX.done hK)) ?_
  refine SXI.of (fun _ hK => s_pickT 54 rfl rfl rfl (SX.done hK)) ?_
  refine SXI.of (fun _ hK => s_mv 55 rfl rfl (SX.done hK)) ?_
  refine SXI.of (fun _ hK => s_mv 56 rfl rfl (SX.done hK)) ?_
  refine SXI.of (fun _ hK => s_ge 57 rfl rfl rfl (decide_eq_true (by omega)) (SX.done hK)) ?_
  refine SXI.of (fun _ hK => s_pickT 58 rfl rfl rfl (SX.done hK)) ?_
  refine SXI.of (fun _ hK => s_mv 59 rfl rfl (SX.done hK)) ?_
  refine SXI.of (fun _ hK => s_mv 60 rfl rfl (SX.done hK)) ?_
  refine SXI.of (fun _ hK => s_le 61 rfl rfl rfl (decide_eq_true (by omega)) (SX.done hK)) ?_
  refine SXI.of (fun _ hK => s_pickT 62 rfl rfl rfl (SX.done hK)) ?_
  refine SXI.of (fun _ hK => s_mv 63 rfl rfl (SX.done hK)) ?_
  refine SXI.of (fun _ hK => s_mv 64 rfl rfl (SX.done hK)) ?_
  refine SXI.of (fun _ hK => s_ge 65 rfl rfl rfl (decide_eq_true (by omega)) (SX.done hK)) ?_
  refine SXI.of (fun _ hK => s_pickT 66 rfl rfl rfl (SX.done hK)) ?_
  refine SXI.of (fun _ hK => s_mv 67 rfl rfl (SX.done hK)) ?_
  refine SXI.of (fun _ hK => s_mv 68 rfl rfl (SX.done hK)) ?_
  refine SXI.of (fun _ hK => s_le 69 rfl rfl rfl (decide_eq_true (by omega)) (SX.done hK)) ?_
  refine SXI.of (fun _ hK => s_pickT 70 rfl rfl rfl (SX.done hK)) ?_
  refine SXI.of (fun _ hK => s_as 16 rfl rfl (SX.done hK)) ?_
  refine SXI.next ?_
  refine CWI.seq ?_
  refine CWI.seq ?_
  refine CWI.reg [0, 1] rfl (by kernel_rfl) ?_
  refine SXI.of (fun _ hK => s_mv 71 rfl rfl (SX.done hK)) ?_
  refine SXI.of (fun _ hK => s_not 72 rfl rfl (SX.done hK)) ?_
  refine SXI.next ?_
  refine CWI.condF rfl ?_
  refine CWI.skip ?_
  refine KNI.code ?_
  refine CWI.seq ?_
  refine CWI.seq ?_
  refine CWI.reg [0, 1, 2, 3, 4, 5] rfl (by kernel_rfl) ?_
  refine SXI.of (fun _ hK => s_mv 80 rfl rfl (SX.done hK)) ?_
  refine SXI.of (fun _ hK => s_eqPN 81 rfl rfl (SX.done hK)) ?_
  refine SXI.of (fun _ hK => s_mv 82 rfl rfl (SX.done hK)) ?_
  refine SXI.of (fun _ hK => s_mv 83 rfl rfl (SX.done hK)) ?_
  refine SXI.of (fun _ hK => s_neNN 84 rfl rfl (SX.done hK)) ?_
  refine SXI.of (fun _ hK => s_pickF 85 rfl rfl rfl (SX.done hK)) ?_
  refine SXI.next ?_
  refine CWI.condF rfl ?_
  refine CWI.skip ?_
  refine KNI.code ?_
  refine CWI.seq ?_
  refine CWI.reg [0, 1, 2, 3, 4, 5, 6] rfl (by kernel_rfl) ?_
  refine SXI.of (fun _ hK => s_mv 86 rfl rfl (SX.done hK)) ?_
  refine SXI.of (fun _ hK => s_mv 87 rfl rfl (SX.done hK)) ?_
  refine SXI.of (fun _ hK => s_mv 88 rfl rfl (SX.done hK)) ?_
  refine SXI.of (fun _ hK => s_build 89 rfl rfl (cells := #[.int .i64 a0, .int .i64 a1, .int .i64 a2, .slice none 0 0]) (by kernel_rfl) (SX.done hK)) ?_
  refine SXI.of1 (pf := fun _ => True) (fun _ hK => s_box 90 rfl rfl (fun _ _ => trivial) (fun x => SX.done (hK x trivial))) (fun xb _ => ?_)
  refine SXI.of1 (pf := fun _ => True) (fun _ hK => s_alloc 17 rfl (fun _ _ => trivial) (fun x => SX.done (hK x trivial))) (fun b17 _ => ?_)
  refine SXI.of (fun _ hK => s_stB 0 rfl rfl rfl rfl rfl (Nat.lt_succ_self 0) (fun _ _ => trivial) (SX.done hK)) ?_
  refine SXI.next ?_
  refine CWI.seq ?_
  refine CWI.seq ?_
  refine CWI.reg [0] rfl (by kernel_rfl) ?_
  refine SXI.of (fun _ hK => s_as 18 rfl rfl (SX.done hK)) ?_
  refine SXI.next ?_
  refine CWI.block ?_
  refine CWI.loop (G := Nat × BufG × BufG) (fun _ => []) (fun z => [(1, .int .i64 a1), (3, .slice A3 l3.length c3), (4, .int .i64 a4), (11, .pointer (some ⟨b11, 0, none⟩)), (12, .pointer (some ⟨b12, 0, none⟩)), (14, .pointer (some ⟨b, 0, none⟩)), (17, .pointer (some ⟨b17, 0, none⟩)), (18, .int .i64 (z.1 : Nat))]) (fun z => Sto w [blk b17 88 #[.pointer (some ⟨xb, 0, none⟩)], blk xb 90 #[.int .i64 a0, .int .i64 a1, .int .i64 a2, .slice z.2.2.A z.2.2.es.length z.2.2.c], own 73 3 z.2.2.A z.2.2.es.length z.2.2.c (rowsE z.2.2.es), starA (datsE z.2.2.es), blk b 141 #[.int .i64 a0, .int .i64 a1, .int .i64 a2, .slice z.2.1.A z.2.1.es.length z.2.1.c], own 73 3 z.2.1.A z.2.1.es.length z.2.1.c (rowsE z.2.1.es), starA (datsE z.2.1.es), blk b12 4 #[.bool false], blk b11 3 #[.int .i64 a5]]) (fun z => z.1 ≤ l3.length ∧ PlayI a1 z.2.1.es z.2.2.es) (fun z => l3.length - z.1) (0, ⟨none, 0, []⟩, ⟨none, 0, []⟩) rfl ⟨rfl, rfl, rfl, rfl, rfl, rfl, rfl, rfl, trivial⟩ (fun _ h => (((h.begin_ 73 3).nilStarS.begin_ 73 3).nilStarS).pick [4, 4, 1, 0, 2, 1, 0, 0, 0] rfl) ⟨Nat.zero_le _, PlayI.nil (by omega)⟩ ?_
  rintro ⟨i, u, u2⟩ ⟨hi, hP⟩
  simp only at hi hP
  dsimp only
  have hfw := hP.few
  have hab := hP.same
  have hll := absE_len hab
  have hone := hP.one
  have hone2 := hP.one2
  refine CWI.seq ?_
  refine CWI.seq ?_
  refine CWI.reg [0, 1, 2, 3] rfl (by kernel_rfl) ?_
  refine SXI.of (fun _ hK => s_mv 91 rfl rfl (SX.done hK)) ?_
  refine SXI.of (fun _ hK => s_mv 92 rfl rfl (SX.done hK)) ?_
  refine SXI.of (fun _ hK => s_len 93 rfl rfl (SX.done hK)) ?_
  refine SXI.of (fun _ hK => s_lt 94 rfl rfl rfl rfl (SX.done hK)) ?_
  refine SXI.next ?_
  refine CWI.test rfl (fun hc => ?_) (fun hc => ?_)
  · skip
    have hil : i < l3.length := by omega
    obtain ⟨d, hd⟩ : ∃ d, l3[i]? = some d := ⟨_, List.getElem?_eq_getElem hil⟩
    obtain ⟨hdd, hd8, hdk, hdc, hdc2⟩ := hz3 d (List.mem_of_getElem? hd)
    refine CWI.skip ?_
    refine KNI.code ?_
    refine CWI.seq ?_
    refine CWI.block ?_
    refine CWI.seq ?_
    refine CWI.reg [0, 1, 2, 3, 4, 5, 6] rfl (by kernel_rfl) ?_
    refine SXI.of (fun _ hK => s_mv 97 rfl rfl (SX.done hK)) ?_
    refine SXI.of (fun _ hK => s_mv 98 rfl rfl (SX.done hK)) ?_
    refine SXI.of (fun _ hK => s_iaV 99 i (fun w hw => hw.old hs3) rfl rfl rfl rfl hil (SX.done hK)) ?_
    refine SXI.of (fun _ hK => s_fa 100 rfl rfl (SX.done hK)) ?_
    refine SXI.of (fun _ hK => s_ldR 101 (cs := d.e.row) rfl rfl rfl (fun w hw => (hw.old hs3).doEnt hd) (SX.done hK)) ?_
    refine SXI.of1 (pf := fun _ => True) (fun _ hK => s_alloc 19 rfl (fun _ _ => trivial) (fun x => SX.done (hK x trivial))) (fun b19 _ => ?_)
    refine SXI.of (fun _ hK => s_stAll 0 rfl rfl (by kernel_rfl) rfl rfl rfl rfl (fun _ _ => trivial) (SX.done hK)) ?_
    refine SXI.next ?_
    refine CWI.seq ?_
    refine CWI.seq ?_
    refine CWI.reg [0, 1, 2, 3] rfl (by kernel_rfl) ?_
    refine SXI.of (fun _ hK => s_fa 102 rfl rfl (SX.done hK)) ?_
    refine SXI.of (fun _ hK => s_ld 103 rfl rfl (v := .slice d.e.A d.e.l.length d.e.c) (fun _ hw => hw.blkCell (i := 0) (j := 2) rfl rfl) (SX.done hK)) ?_
    refine SXI.of (fun _ hK => s_len 104 rfl rfl (SX.done hK)) ?_
    refine SXI.of (fun _ hK => s_gt 105 rfl rfl rfl rfl (SX.done hK)) ?_
    refine SXI.next ?_
    refine CWI.test rfl (fun hc => ?_) (fun hc => ?_)
    · skip
      skip
      refine CWI.seq ?_
      refine CWI.reg [0] rfl (by kernel_rfl) ?_
      refine SXI.of (fun _ hK => s_stB 8 rfl rfl rfl rfl rfl (Nat.lt_succ_self 0) (fun _ _ => trivial) (SX.done hK)) ?_
      refine SXI.next ?_
      refine CWI.ret ?_
      exact retMC (rs := [.cell 12 4]) (L := [blk b12 4 #[.bool true]]) [] rfl Tryd.results7 (fun _ h => h.pick [8] rfl) (fun w hw => ⟨[_], ⟨⟨_, rfl, run_loadVar1 (hw.blkCell (i := 0) (j := 0) rfl rfl)⟩, trivial⟩, rfl, hw.pick [] rfl⟩)
    · skip
      have hd2 : d.e.l.length ≤ 2000 := by omega
      refine CWI.skip ?_
      refine KNI.code ?_
      refine CWI.seq ?_
      refine CWI.reg [0] rfl (by kernel_rfl) ?_
      refine SXI.of (fun _ hK => s_as 20 rfl rfl (SX.done hK)) ?_
      refine SXI.next ?_
      refine CWI.seq ?_
      refine CWI.reg [0] rfl (by kernel_rfl) ?_
      refine SXI.of (fun _ hK => s_as 21 rfl rfl (SX.done hK)) ?_
      refine SXI.next ?_
      refine CWI.cut (G := BufG × BufG × Value × Int) (fun z => [(1, .int .i64 a1), (3, .slice A3 l3.length c3), (4, .int .i64 a4), (11, .pointer (some ⟨b11, 0, none⟩)), (12, .pointer (some ⟨b12, 0, none⟩)), (14, .pointer (some ⟨b, 0, none⟩)), (17, .pointer (some ⟨b17, 0, none⟩)), (18, .int .i64 (i : Nat)), (20, z.2.2.1), (21, .int .i64 z.2.2.2)]) (fun z => Sto w [blk b17 88 #[.pointer (some ⟨xb, 0, none⟩)], blk xb 90 #[.int .i64 a0, .int .i64 a1, .int .i64 a2, .slice z.2.1.A z.2.1.es.length z.2.1.c], own 73 3 z.2.1.A z.2.1.es.length z.2.1.c (rowsE z.2.1.es), starA (datsE z.2.1.es), blk b 141 #[.int .i64 a0, .int .i64 a1, .int .i64 a2, .slice z.1.A z.1.es.length z.1.c], own 73 3 z.1.A z.1.es.length z.1.c (rowsE z.1.es), starA (datsE z.1.es), blk b12 4 #[.bool false], blk b11 3 #[.int .i64 a5]]) (fun z => PlayI a1 z.1.es z.2.1.es ∧ IsOK e z.2.2.1 z.2.2.2) ?_ ?_
      · skip
        refine CWI.block ?_
        refine CWI.seq ?_
        refine CWI.reg [0, 1, 2, 3, 4, 5] rfl (by kernel_rfl) ?_
        refine SXI.of (fun _ hK => s_mv 130 rfl rfl (SX.done hK)) ?_
        refine SXI.of (fun _ hK => s_mv 131 rfl rfl (SX.done hK)) ?_
        refine SXI.of (fun _ hK => s_iaV 132 i (fun w hw => hw.old hs3) rfl rfl rfl rfl hil (SX.done hK)) ?_
        refine SXI.of (fun _ hK => s_fa 133 rfl rfl (SX.done hK)) ?_
        refine SXI.of (fun _ hK => s_ld 134 rfl rfl (v := .bool d.cl) (fun _ hw => (hw.old hs3).doRow hd 3 _ rfl) (SX.done hK)) ?_
        refine SXI.of (fun _ hK => s_as 129 rfl rfl (SX.done hK)) ?_
        refine SXI.next ?_
        refine CWI.cond rfl (fun hc => ?_) (fun hc => ?_)
        · skip
          refine CWI.seq ?_
          refine CWI.reg [0, 1] rfl (by kernel_rfl) ?_
          refine SXI.of (fun _ hK => s_mv 135 rfl rfl (SX.done hK)) ?_
          refine SXI.of1 (fun _ hK => s_callP 136 [5, 5, 5, 0, 0, 0, 0, 0, 0, 0] (M := [blk b 141 #[.int .i64 a0, .int .i64 a1, .int .i64 a2, .slice u.A u.es.length u.c], own 73 3 u.A u.es.length u.c (rowsE u.es), starA (datsE u.es)]) (R := [blk b19 73 #[.int .i64 d.e.k, .bool d.e.tr, .slice d.e.A d.e.l.length d.e.c], blk b17 88 #[.pointer (some ⟨xb, 0, none⟩)], blk xb 90 #[.int .i64 a0, .int .i64 a1, .int .i64 a2, .slice u2.A u2.es.length u2.c], own 73 3 u2.A u2.es.length u2.c (rowsE u2.es), starA (datsE u2.es), blk b12 4 #[.bool false], blk b11 3 #[.int .i64 a5]]) (X := Unit) (v := fun _ => oneOf []) (pf := fun x => True) (M' := fun x => [blk b 141 #[.int .i64 a0, .int .i64 a1, .int .i64 a2, .slice (⟨none, 0, []⟩ : BufG).A (⟨none, 0, []⟩ : BufG).es.length (⟨none, 0, []⟩ : BufG).c], own 73 3 (⟨none, 0, []⟩ : BufG).A (⟨none, 0, []⟩ : BufG).es.length (⟨none, 0, []⟩ : BufG).c (rowsE (⟨none, 0, []⟩ : BufG).es), starA (datsE (⟨none, 0, []⟩ : BufG).es)]) rfl rfl rfl rfl rfl (fun F' w' hR hM => clear_spec F' b a0 a1 a2 u w' hM) (fun _ _ _ => trivial) (fun x hx => SX.done (hK x hx))) (fun _ _ => ?_)
          refine SXI.next ?_
          refine CWI.reg [0, 1, 2, 3] rfl (by kernel_rfl) ?_
          refine SXI.of (fun _ hK => s_ld 137 rfl rfl (v := .pointer (some ⟨xb, 0, none⟩)) (fun _ hw => hw.blkCell (i := 4) (j := 0) rfl rfl) (SX.done hK)) ?_
          refine SXI.of (fun _ hK => s_nil 138 rfl rfl (SX.done hK)) ?_
          refine SXI.of (fun _ hK => s_fa 139 rfl rfl (SX.done hK)) ?_
          refine SXI.of (fun _ hK => s_stB 5 rfl rfl rfl rfl rfl (by show 3 < 4; decide) (fun _ _ => trivial) (SX.done hK)) ?_
          refine SXI.end_ ?_
          refine KNI.blk ?_
          exact KNI.join (⟨none, 0, []⟩, ⟨none, 0, []⟩, .nilIface, 0) ⟨rfl, rfl, rfl, rfl, rfl, rfl, rfl, rfl, rfl, rfl, trivial⟩ (fun _ h => ((((h.pick [0, 0, 0, 0, 0, 0, 2, 2] rfl).begin_ 73 3).nilStarS).pick [6, 6, 1, 0, 0, 0, 0, 1, 1] rfl)) ⟨PlayI.nil (by omega), .inl ⟨rfl, rfl⟩⟩
        · skip
          refine CWI.seq ?_
          refine CWI.reg [0, 1, 2] rfl (by kernel_rfl) ?_
          refine SXI.of (fun _ hK => s_fa 141 rfl rfl (SX.done hK)) ?_
          refine SXI.of (fun _ hK => s_ld 142 rfl rfl (v := .bool d.e.tr) (fun _ hw => hw.blkCell (i := 0) (j := 1) rfl rfl) (SX.done hK)) ?_
          refine SXI.of (fun _ hK => s_as 140 rfl rfl (SX.done hK)) ?_
          refine SXI.next ?_
          refine CWI.cond rfl (fun hc => ?_) (fun hc => ?_)
          · skip
            refine CWI.seq ?_
            refine CWI.reg [0, 1, 2, 3, 4] rfl (by kernel_rfl) ?_
            refine SXI.of (fun _ hK => s_mv 143 rfl rfl (SX.done hK)) ?_
            refine SXI.of (fun _ hK => s_fa 144 rfl rfl (SX.done hK)) ?_
            refine SXI.of (fun _ hK => s_ld 145 rfl rfl (v := .int .i64 d.e.k) (fun _ hw => hw.blkCell (i := 0) (j := 0) rfl rfl) (SX.done hK)) ?_
            refine SXI.of1 (fun _ hK => s_callP 146 [5, 5, 5, 0, 0, 0, 0, 0, 0, 0] (M := [blk b 141 #[.int .i64 a0, .int .i64 a1, .int .i64 a2, .slice u.A u.es.length u.c], own 73 3 u.A u.es.length u.c (rowsE u.es), starA (datsE u.es)]) (R := [blk b19 73 #[.int .i64 d.e.k, .bool d.e.tr, .slice d.e.A d.e.l.length d.e.c], blk b17 88 #[.pointer (some ⟨xb, 0, none⟩)], blk xb 90 #[.int .i64 a0, .int .i64 a1, .int .i64 a2, .slice u2.A u2.es.length u2.c], own 73 3 u2.A u2.es.length u2.c (rowsE u2.es), starA (datsE u2.es), blk b12 4 #[.bool false], blk b11 3 #[.int .i64 a5]]) (X := BufG) (v := fun x => wV e a1 a2 true u.es d.e.k) (pf := fun x => x.es = wRes a1 a2 true u.es ⟨d.e.k, true, none, 0, []⟩) (M' := fun x => [blk b 141 #[.int .i64 a0, .int .i64 a1, .int .i64 a2, .slice x.A x.es.length x.c], own 73 3 x.A x.es.length x.c (rowsE x.es), starA (datsE x.es)]) rfl rfl rfl rfl rfl (fun F' w' hR hM => drop_spec e F' b a0 a1 a2 u d.e.k w' (by omega) (fun w2 hf => (hR w2 hf).er he1) (fun w2 hf => (hR w2 hf).er he2) (fun w2 hf => (hR w2 hf).er he3) hM) (fun _ _ _ => trivial) (fun x hx => SX.done (hK x hx))) (fun x hx => ?_)
            refine SXI.of (fun _ hK => s_as 20 rfl rfl (SX.done hK)) ?_
            refine SXI.next ?_
            refine CWI.reg [0, 1, 2, 3, 4] rfl (by kernel_rfl) ?_
            refine SXI.of (fun _ hK => s_ld 147 rfl rfl (v := .pointer (some ⟨xb, 0, none⟩)) (fun _ hw => hw.blkCell (i := 4) (j := 0) rfl rfl) (SX.done hK)) ?_
            refine SXI.of (fun _ hK => s_fa 148 rfl rfl (SX.done hK)) ?_
            refine SXI.of (fun _ hK => s_ld 149 rfl rfl (v := .int .i64 d.e.k) (fun _ hw => hw.blkCell (i := 3) (j := 0) rfl rfl) (SX.done hK)) ?_
            refine SXI.of1 (fun _ hK => s_callP 150 [5, 5, 5, 0, 0, 0, 0, 0, 0, 0] (M := [blk xb 90 #[.int .i64 a0, .int .i64 a1, .int .i64 a2, .slice u2.A u2.es.length u2.c], own 73 3 u2.A u2.es.length u2.c (rowsE u2.es), starA (datsE u2.es)]) (R := [blk b 141 #[.int .i64 a0, .int .i64 a1, .int .i64 a2, .slice x.A x.es.length x.c], own 73 3 x.A x.es.length x.c (rowsE x.es), starA (datsE x.es), blk b19 73 #[.int .i64 d.e.k, .bool d.e.tr, .slice d.e.A d.e.l.length d.e.c], blk b17 88 #[.pointer (some ⟨xb, 0, none⟩)], blk b12 4 #[.bool false], blk b11 3 #[.int .i64 a5]]) (X := BufG × Option Addr × Nat) (v := fun x => .int .i64 (dV a1 a2 true u2.es d.e.k)) (pf := fun x => x.1.es = dRes a1 a2 true u2.es ⟨d.e.k, true, none, 0, []⟩) (M' := fun x => [blk xb 90 #[.int .i64 a0, .int .i64 a1, .int .i64 a2, .slice x.1.A x.1.es.length x.1.c], own 73 3 x.1.A x.1.es.length x.1.c (rowsE x.1.es), starA (datsE x.1.es)]) rfl rfl rfl rfl rfl (fun F' w' hR hM => dput_trim F' xb a0 a1 a2 u2 d.e.k w' (by omega) hM) (fun _ _ _ => trivial) (fun x hx => SX.done (hK x hx))) (fun y hy => ?_)
            refine SXI.of (fun _ hK => s_as 21 rfl rfl (SX.done hK)) ?_
            refine SXI.end_ ?_
            refine KNI.blk ?_
            exact KNI.join (x, y.1, wV e a1 a2 true u.es d.e.k, dV a1 a2 true u2.es d.e.k) ⟨rfl, rfl, rfl, rfl, rfl, rfl, rfl, rfl, rfl, rfl, trivial⟩ (fun _ h => h.pick [7, 0, 0, 0, 0, 0, 0, 1, 1] rfl) ⟨by rw [hx, hy]; exact hP.put rfl ⟨Nat.zero_le _, fun x hx => absurd hx List.not_mem_nil⟩, by rw [dV_same hab]; exact wd_ok e a1 a2 true u.es d.e.k⟩
          · skip
            refine CWI.seq ?_
            refine CWI.reg [0, 1, 2, 3] rfl (by kernel_rfl) ?_
            refine SXI.of (fun _ hK => s_fa 106 rfl rfl (SX.done hK)) ?_
            refine SXI.of (fun _ hK => s_ld 107 rfl rfl (v := .slice d.e.A d.e.l.length d.e.c) (fun _ hw => hw.blkCell (i := 0) (j := 2) rfl rfl) (SX.done hK)) ?_
            refine SXI.of1 (fun _ hK => s_call 108 rfl rfl rfl rfl (fun w2 hw => rbytes_spec d.e.A d.e.l.length d.e.c d.e.l w2 (hw.old hdd) (by omega)) (fun _ _ => trivial) (fun x hx => SX.done (hK x hx))) (fun z hz => ?_)
            refine SXI.of (fun _ hK => s_as 22 rfl rfl (SX.done hK)) ?_
            refine SXI.next ?_
            refine CWI.seq ?_
            refine CWI.reg [0, 1, 2, 3, 4, 5] rfl (by kernel_rfl) ?_
            refine SXI.of (fun _ hK => s_mv 109 rfl rfl (SX.done hK)) ?_
            refine SXI.of (fun _ hK => s_fa 110 rfl rfl (SX.done hK)) ?_
            refine SXI.of (fun _ hK => s_ld 111 rfl rfl (v := .int .i64 d.e.k) (fun _ hw => hw.blkCell (i := 1) (j := 0) rfl rfl) (SX.done hK)) ?_
            refine SXI.of (fun _ hK => s_mv 112 rfl rfl (SX.done hK)) ?_
            refine SXI.of1 (fun _ hK => s_callP 113 [6, 6, 6, 0, 0, 0, 0, 0, 0, 0, 0] (M := [blk b 141 #[.int .i64 a0, .int .i64 a1, .int .i64 a2, .slice u.A u.es.length u.c], own 73 3 u.A u.es.length u.c (rowsE u.es), starA (datsE u.es)]) (R := [own 5 1 z.1 d.e.l.length z.2 (nats .u8 d.e.l), blk b19 73 #[.int .i64 d.e.k, .bool d.e.tr, .slice d.e.A d.e.l.length d.e.c], blk b17 88 #[.pointer (some ⟨xb, 0, none⟩)], blk xb 90 #[.int .i64 a0, .int .i64 a1, .int .i64 a2, .slice u2.A u2.es.length u2.c], own 73 3 u2.A u2.es.length u2.c (rowsE u2.es), starA (datsE u2.es), blk b12 4 #[.bool false], blk b11 3 #[.int .i64 a5]]) (X := BufG × Option Addr × Nat) (v := fun x => wV e a1 a2 (decide ((d.e.l.length : Int) = a0)) u.es d.e.k) (pf := fun x => x.1.es = wRes a1 a2 (decide ((d.e.l.length : Int) = a0)) u.es ⟨d.e.k, false, x.2.1, x.2.2, d.e.l⟩) (M' := fun x => [blk b 141 #[.int .i64 a0, .int .i64 a1, .int .i64 a2, .slice x.1.A x.1.es.length x.1.c], own 73 3 x.1.A x.1.es.length x.1.c (rowsE x.1.es), starA (datsE x.1.es)]) rfl rfl rfl rfl rfl (fun F' w' hR hM => put_spec e F' b a0 a1 a2 u d.e.k z.1 d.e.l.length z.2 d.e.l w' (by omega) (fun w2 hf => (hR w2 hf).er he1) (fun w2 hf => (hR w2 hf).er he2) (fun w2 hf => (hR w2 hf).er he3) (fun w2 hf => ((hR w2 hf).has (i := 0) rfl).of_own) (by omega) hM) (fun _ _ _ => trivial) (fun x hx => SX.done (hK x hx))) (fun x hx => ?_)
            refine SXI.of (fun _ hK => s_as 20 rfl rfl (SX.done hK)) ?_
            refine SXI.next ?_
            refine CWI.seq ?_
            refine CWI.reg [0, 1, 2, 3, 4, 5, 6] rfl (by kernel_rfl) ?_
            refine SXI.of (fun _ hK => s_ld 114 rfl rfl (v := .pointer (some ⟨xb, 0, none⟩)) (fun _ hw => hw.blkCell (i := 5) (j := 0) rfl rfl) (SX.done hK)) ?_
            refine SXI.of (fun _ hK => s_fa 115 rfl rfl (SX.done hK)) ?_
            refine SXI.of (fun _ hK => s_ld 116 rfl rfl (v := .int .i64 d.e.k) (fun _ hw => hw.blkCell (i := 4) (j := 0) rfl rfl) (SX.done hK)) ?_
            refine SXI.of (fun _ hK => s_fa 117 rfl rfl (SX.done hK)) ?_
            refine SXI.of (fun _ hK => s_ld 118 rfl rfl (v := .slice d.e.A d.e.l.length d.e.c) (fun _ hw => hw.blkCell (i := 4) (j := 2) rfl rfl) (SX.done hK)) ?_
            refine SXI.of1 (fun _ hK => s_callP 119 [6, 6, 6, 0, 0, 0, 0, 0, 0, 0, 0] (M := [blk xb 90 #[.int .i64 a0, .int .i64 a1, .int .i64 a2, .slice u2.A u2.es.length u2.c], own 73 3 u2.A u2.es.length u2.c (rowsE u2.es), starA (datsE u2.es)]) (R := [blk b 141 #[.int .i64 a0, .int .i64 a1, .int .i64 a2, .slice x.1.A x.1.es.length x.1.c], own 73 3 x.1.A x.1.es.length x.1.c (rowsE x.1.es), starA (datsE x.1.es), own 5 1 z.1 d.e.l.length z.2 (nats .u8 d.e.l), blk b19 73 #[.int .i64 d.e.k, .bool d.e.tr, .slice d.e.A d.e.l.length d.e.c], blk b17 88 #[.pointer (some ⟨xb, 0, none⟩)], blk b12 4 #[.bool false], blk b11 3 #[.int .i64 a5]]) (X := BufG × Option Addr × Nat) (v := fun x => .int .i64 (dV a1 a2 (decide ((d.e.l.length : Int) = a0)) u2.es d.e.k)) (pf := fun x => x.1.es = dRes a1 a2 (decide ((d.e.l.length : Int) = a0)) u2.es ⟨d.e.k, false, x.2.1, x.2.2, d.e.l⟩) (M' := fun x => [blk xb 90 #[.int .i64 a0, .int .i64 a1, .int .i64 a2, .slice x.1.A x.1.es.length x.1.c], own 73 3 x.1.A x.1.es.length x.1.c (rowsE x.1.es), starA (datsE x.1.es)]) rfl rfl rfl rfl rfl (fun F' w' hR hM => dput_data F' xb a0 a1 a2 u2 d.e.k d.e.A d.e.l.length d.e.c d.e.l w' (by omega) (fun w2 hf => (hR w2 hf).old hdd) (by omega) hM) (fun _ _ _ => trivial) (fun x hx => SX.done (hK x hx))) (fun y hy => ?_)
            refine SXI.of (fun _ hK => s_as 21 rfl rfl (SX.done hK)) ?_
            refine SXI.next ?_
            refine CWI.seq ?_
            refine CWI.reg [0] rfl (by kernel_rfl) ?_
            refine SXI.of (fun _ hK => s_as 23 rfl rfl (SX.done hK)) ?_
            refine SXI.next ?_
            refine CWI.block ?_
            refine CWI.loop (G := Nat × List Nat) (fun _ => []) (fun q => [(1, .int .i64 a1), (3, .slice A3 l3.length c3), (4, .int .i64 a4), (11, .pointer (some ⟨b11, 0, none⟩)), (12, .pointer (some ⟨b12, 0, none⟩)), (14, .pointer (some ⟨b, 0, none⟩)), (17, .pointer (some ⟨b17, 0, none⟩)), (18, .int .i64 (i : Nat)), (20, wV e a1 a2 (decide ((d.e.l.length : Int) = a0)) u.es d.e.k), (21, .int .i64 (dV a1 a2 (decide ((d.e.l.length : Int) = a0)) u2.es d.e.k)), (22, .slice z.1 d.e.l.length z.2), (23, .int .i64 (q.1 : Nat))]) (fun q => Sto w [own 5 1 z.1 d.e.l.length z.2 (nats .u8 q.2), blk xb 90 #[.int .i64 a0, .int .i64 a1, .int .i64 a2, .slice y.1.A y.1.es.length y.1.c], own 73 3 y.1.A y.1.es.length y.1.c (rowsE y.1.es), starA (datsE y.1.es), blk b 141 #[.int .i64 a0, .int .i64 a1, .int .i64 a2, .slice x.1.A x.1.es.length x.1.c], own 73 3 x.1.A x.1.es.length x.1.c (rowsE x.1.es), starA (datsE x.1.es), blk b19 73 #[.int .i64 d.e.k, .bool d.e.tr, .slice d.e.A d.e.l.length d.e.c], blk b17 88 #[.pointer (some ⟨xb, 0, none⟩)], blk b12 4 #[.bool false], blk b11 3 #[.int .i64 a5]]) (fun q => q.1 ≤ d.e.l.length ∧ q.2.length = d.e.l.length) (fun q => d.e.l.length - q.1) (0, d.e.l) rfl ⟨rfl, rfl, rfl, rfl, rfl, rfl, rfl, rfl, rfl, rfl, rfl, rfl, trivial⟩ (fun _ h => h.pick [6, 0, 0, 0, 0, 0, 0, 0, 0, 0, 0] rfl) ⟨Nat.zero_le _, rfl⟩ ?_
            rintro ⟨k, ml⟩ ⟨hk, hml⟩
            simp only at hk hml
            dsimp only
            refine CWI.seq ?_
            refine CWI.seq ?_
            refine CWI.reg [0, 1, 2, 3] rfl (by kernel_rfl) ?_
            refine SXI.of (fun _ hK => s_mv 120 rfl rfl (SX.done hK)) ?_
            refine SXI.of (fun _ hK => s_mv 121 rfl rfl (SX.done hK)) ?_
            refine SXI.of (fun _ hK => s_len 122 rfl rfl (SX.done hK)) ?_
            refine SXI.of (fun _ hK => s_lt 123 rfl rfl rfl rfl (SX.done hK)) ?_
            refine SXI.next ?_
            refine CWI.test rfl (fun hc => ?_) (fun hc => ?_)
            · skip
              have hkl : k < d.e.l.length := by omega
              refine CWI.skip ?_
              refine KNI.code ?_
              refine CWI.seq ?_
              refine CWI.block ?_
              refine CWI.reg [0, 1, 2, 3] rfl (by kernel_rfl) ?_
              refine SXI.of (fun _ hK => s_mv 126 rfl rfl (SX.done hK)) ?_
              refine SXI.of (fun _ hK => s_mv 127 rfl rfl (SX.done hK)) ?_
              refine SXI.of (fun _ hK => s_iaO 128 0 k rfl rfl rfl rfl rfl hkl (SX.done hK)) ?_
              refine SXI.of (fun _ hK => s_stO 0 rfl rfl rfl rfl rfl hkl (fun _ _ => trivial) (SX.done hK)) ?_
              refine SXI.end_ ?_
              refine KNI.blk ?_
              refine KNI.code ?_
              refine CWI.reg [0, 1, 2] rfl (by kernel_rfl) ?_
              refine SXI.of (fun _ hK => s_mv 124 rfl rfl (SX.done hK)) ?_
              refine SXI.of (fun _ hK => s_add 125 rfl rfl rfl (r := ((k + 1 : Nat) : Int)) (w64 (by omega)) (SX.done hK)) ?_
              refine SXI.of (fun _ hK => s_as 23 rfl rfl (SX.done hK)) ?_
              refine SXI.end_ ?_
              exact KNI.back (k + 1, ml.set k 238) rfl ⟨rfl, rfl, rfl, rfl, rfl, rfl, rfl, rfl, rfl, rfl, rfl, rfl, trivial⟩ (fun _ h => by simp only [natsSet]; exact h) ⟨by simp only; omega, by simp only [List.length_set]; exact hml⟩ (by simp only; omega)
            · skip
              refine CWI.exit rfl ?_
              refine KNI.blk ?_
              exact KNI.join (x.1, y.1, wV e a1 a2 (decide ((d.e.l.length : Int) = a0)) u.es d.e.k, dV a1 a2 (decide ((d.e.l.length : Int) = a0)) u2.es d.e.k) ⟨rfl, rfl, rfl, rfl, rfl, rfl, rfl, rfl, rfl, rfl, trivial⟩ (fun _ h => h.pick [8, 1, 1, 1, 1, 1, 1, 2, 2] rfl) ⟨by rw [hx, hy]; exact hP.put rfl ⟨hd2, hd8⟩, by rw [dV_same hab]; exact wd_ok e a1 a2 (decide ((d.e.l.length : Int) = a0)) u.es d.e.k⟩
      · skip
        rintro ⟨u, u2, fv, gv⟩ ⟨hP, hok⟩
        simp only at hP hok
        dsimp only
        have hfw := hP.few
        have hab := hP.same
        have hll := absE_len hab
        have hone := hP.one
        have hone2 := hP.one2
        have hplq := plI_abs hab a4
        have hnd2 := keysU_abs hab hP.nd
        refine CWI.seq ?_
        refine CWI.reg [0, 1, 2, 3, 4, 5, 6, 7, 8] rfl (by kernel_rfl) ?_
        refine SXI.of (fun _ hK => s_mv 152 rfl rfl (SX.done hK)) ?_
        refine SXI.of (fun _ hK => s_mv 153 rfl rfl (SX.done hK)) ?_
        refine SXI.of1 (fun _ hK => s_call 154 rfl rfl rfl rfl (fun w hw => get_any b u.A u.c u.es a4 w ((hw.has (i := 5) rfl).of_own) (by omega) (hw.blkCell (i := 4) rfl rfl) (fun e he => (Has.starM (hw.has (i := 6) rfl) (List.mem_map_of_mem he)).of_own) hone) (fun _ _ => trivial) (fun x hx => SX.done (hK x hx))) (fun z hz => ?_)
        have hzl : z.1.l.length ≤ 2000 := by
          rcases hz with ⟨_, _, h⟩ | ⟨_, j, en, _, hen, hza⟩
          · rw [h]; exact Nat.zero_le _
          · rw [show z.1.l = en.l from congrArg (fun t => t.2.2) hza]
            exact (hP.ok _ (List.mem_of_getElem? hen)).1
        refine SXI.of (fun _ hK => s_mv 151 rfl rfl (SX.done hK)) ?_
        refine SXI.of (fun _ hK => s_ext 155 rfl rfl rfl (SX.done hK)) ?_
        refine SXI.of (fun _ hK => s_ext 156 rfl rfl rfl (SX.done hK)) ?_
        refine SXI.of1 (pf := fun _ => True) (fun _ hK => s_alloc 24 rfl (fun _ _ => trivial) (fun x => SX.done (hK x trivial))) (fun b24 _ => ?_)
        refine SXI.of (fun _ hK => s_stAll 0 rfl rfl (by kernel_rfl) rfl rfl rfl rfl (fun _ _ => trivial) (SX.done hK)) ?_
        refine SXI.of (fun _ hK => s_as 25 rfl rfl (SX.done hK)) ?_
        refine SXI.next ?_
        refine CWI.seq ?_
        refine CWI.reg [0] rfl (by kernel_rfl) ?_
        refine SXI.of (fun _ hK => s_as 26 rfl rfl (SX.done hK)) ?_
        refine SXI.next ?_
        refine CWI.seq ?_
        refine CWI.seq ?_
        refine CWI.reg [0] rfl (by kernel_rfl) ?_
        refine SXI.of (fun _ hK => s_as 27 rfl rfl (SX.done hK)) ?_
        refine SXI.next ?_
        refine CWI.block ?_
        refine CWI.loop (G := Nat) (fun _ => []) (fun k => [(1, .int .i64 a1), (3, .slice A3 l3.length c3), (4, .int .i64 a4), (11, .pointer (some ⟨b11, 0, none⟩)), (12, .pointer (some ⟨b12, 0, none⟩)), (14, .pointer (some ⟨b, 0, none⟩)), (17, .pointer (some ⟨b17, 0, none⟩)), (18, .int .i64 (i : Nat)), (20, fv), (21, .int .i64 gv), (24, .pointer (some ⟨b24, 0, none⟩)), (25, .bool z.2), (26, .int .i64 (atI a4 u2.es k)), (27, .int .i64 (k : Nat))]) (fun _ => Sto w [blk b24 73 #[.int .i64 z.1.k, .bool z.1.tr, .slice z.1.A z.1.l.length z.1.c], z.1.dat, blk b17 88 #[.pointer (some ⟨xb, 0, none⟩)], blk xb 90 #[.int .i64 a0, .int .i64 a1, .int .i64 a2, .slice u2.A u2.es.length u2.c], own 73 3 u2.A u2.es.length u2.c (rowsE u2.es), starA (datsE u2.es), blk b 141 #[.int .i64 a0, .int .i64 a1, .int .i64 a2, .slice u.A u.es.length u.c], own 73 3 u.A u.es.length u.c (rowsE u.es), starA (datsE u.es), blk b12 4 #[.bool false], blk b11 3 #[.int .i64 a5]]) (fun k => k ≤ u2.es.length) (fun k => u2.es.length - k) 0 rfl ⟨rfl, rfl, rfl, rfl, rfl, rfl, rfl, rfl, rfl, rfl, rfl, rfl, by rw [atI_zero]; rfl, rfl, trivial⟩ (fun _ h => h) (Nat.zero_le _) ?_
        intro k hk
        refine CWI.seq ?_
        refine CWI.seq ?_
        refine CWI.reg [0, 1, 2, 3, 4, 5, 6] rfl (by kernel_rfl) ?_
        refine SXI.of (fun _ hK => s_mv 157 rfl rfl (SX.done hK)) ?_
        refine SXI.of (fun _ hK => s_ld 158 rfl rfl (v := .pointer (some ⟨xb, 0, none⟩)) (fun _ hw => hw.blkCell (i := 2) (j := 0) rfl rfl) (SX.done hK)) ?_
        refine SXI.of (fun _ hK => s_nil 159 rfl rfl (SX.done hK)) ?_
        refine SXI.of (fun _ hK => s_fa 160 rfl rfl (SX.done hK)) ?_
        refine SXI.of (fun _ hK => s_ld 161 rfl rfl (v := .slice u2.A u2.es.length u2.c) (fun _ hw => hw.blkCell (i := 3) (j := 3) rfl rfl) (SX.done hK)) ?_
        refine SXI.of (fun _ hK => s_len 162 rfl rfl (SX.done hK)) ?_
        refine SXI.of (fun _ hK => s_lt 163 rfl rfl rfl rfl (SX.done hK)) ?_
        refine SXI.next ?_
        refine CWI.test rfl (fun hc => ?_) (fun hc => ?_)
        · skip
          have hkl : k < u2.es.length := by omega
          have hke := gE_at hkl
          refine CWI.skip ?_
          refine KNI.code ?_
          refine CWI.seq ?_
          refine CWI.block ?_
          refine CWI.seq ?_
          refine CWI.reg [0, 1, 2, 3, 4, 5, 6, 7, 8, 9] rfl (by kernel_rfl) ?_
          refine SXI.of (fun _ hK => s_ld 166 rfl rfl (v := .pointer (some ⟨xb, 0, none⟩)) (fun _ hw => hw.blkCell (i := 2) (j := 0) rfl rfl) (SX.done hK)) ?_
          refine SXI.of (fun _ hK => s_nil 167 rfl rfl (SX.done hK)) ?_
          refine SXI.of (fun _ hK => s_fa 168 rfl rfl (SX.done hK)) ?_
          refine SXI.of (fun _ hK => s_ld 169 rfl rfl (v := .slice u2.A u2.es.length u2.c) (fun _ hw => hw.blkCell (i := 3) (j := 3) rfl rfl) (SX.done hK)) ?_
          refine SXI.of (fun _ hK => s_mv 170 rfl rfl (SX.done hK)) ?_
          refine SXI.of (fun _ hK => s_iaV 171 k (fun w hw => (hw.has (i := 4) rfl).of_own) rfl rfl rfl rfl hkl (SX.done hK)) ?_
          refine SXI.of (fun _ hK => s_fa 172 rfl rfl (SX.done hK)) ?_
          refine SXI.of (fun _ hK => s_ld 173 rfl rfl (v := .int .i64 (gE u2.es k).k) (fun _ hw => ((hw.has (i := 4) rfl).of_own).entRow hke 0 _ rfl) (SX.done hK)) ?_
          refine SXI.of (fun _ hK => s_mv 174 rfl rfl (SX.done hK)) ?_
          refine SXI.of (fun _ hK => s_eq 175 rfl rfl rfl rfl (SX.done hK)) ?_
          refine SXI.next ?_
          refine CWI.test rfl (fun hc => ?_) (fun hc => ?_)
          · skip
            refine CWI.reg [0, 1] rfl (by kernel_rfl) ?_
            refine SXI.of (fun _ hK => s_mv 176 rfl rfl (SX.done hK)) ?_
            refine SXI.of (fun _ hK => s_as 26 rfl rfl (SX.done hK)) ?_
            refine SXI.end_ ?_
            refine KNI.blk ?_
            refine KNI.code ?_
            refine CWI.reg [0, 1, 2] rfl (by kernel_rfl) ?_
            refine SXI.of (fun _ hK => s_mv 164 rfl rfl (SX.done hK)) ?_
            refine SXI.of (fun _ hK => s_add 165 rfl rfl rfl (r := ((k + 1 : Nat) : Int)) (w64 (by omega)) (SX.done hK)) ?_
            refine SXI.of (fun _ hK => s_as 27 rfl rfl (SX.done hK)) ?_
            refine SXI.end_ ?_
            exact KNI.back (k + 1) rfl ⟨rfl, rfl, rfl, rfl, rfl, rfl, rfl, rfl, rfl, rfl, rfl, rfl, by rw [atI_yes hnd2 hke hc]; rfl, rfl, trivial⟩ (fun _ h => h) (by omega) (by omega)
          · skip
            refine CWI.skip ?_
            refine KNI.blk ?_
            refine KNI.code ?_
            refine CWI.reg [0, 1, 2] rfl (by kernel_rfl) ?_
            refine SXI.of (fun _ hK => s_mv 164 rfl rfl (SX.done hK)) ?_
            refine SXI.of (fun _ hK => s_add 165 rfl rfl rfl (r := ((k + 1 : Nat) : Int)) (w64 (by omega)) (SX.done hK)) ?_
            refine SXI.of (fun _ hK => s_as 27 rfl rfl (SX.done hK)) ?_
            refine SXI.end_ ?_
            exact KNI.back (k + 1) rfl ⟨rfl, rfl, rfl, rfl, rfl, rfl, rfl, rfl, rfl, rfl, rfl, rfl, by rw [atI_no hke hc]; rfl, rfl, trivial⟩ (fun _ h => h) (by omega) (by omega)
        · skip
          obtain rfl : k = u2.es.length := by omega
          have hat : atI a4 u2.es u2.es.length = plI a4 u.es := by rw [atI_all, hplq]
          rw [hat]
          refine CWI.exit rfl ?_
          refine KNI.code ?_
          refine CWI.seq ?_
          refine CWI.seq ?_
          obtain ⟨hz1, hz2, _⟩ | ⟨hz1, j, en, hz2, hen, hza⟩ := hz
          · skip
            rw [hz1, hz2]
            refine CWI.regD (.st true 0 (.st true 1 (.st false 2 (.st true 3 (.st true 4 (.st true 5 (.st true 6 (.st true 7 (.st true 8 (.st true 9 (.st true 10 (.st true 11 (.st true 12 (.st true 13 (.st true 14 (.st true 15 (.st true 16 (.st true 17 (.st true 18 (.st true 19 (.st true 20 (.st false 21 (.st true 22 (.st true 23 (.st true 24 (.st true 25 (.st true 26 (.st true 28 (.st true 29 (.st true 30 (.st true 31 (.st true 32 (.st false 27 (.st true 33 (.st true 34 (.st true 35 (.st true 36 (.st true 38 (.st true 39 (.st true 40 (.st true 41 (.st true 42 (.st true 43 (.st true 44 (.st false 37 (.st true 45 (.st true 46 .done))))))))))))))))))))))))))))))))))))))))))))))) (Sto w [blk b24 73 #[.int .i64 z.1.k, .bool z.1.tr, .slice z.1.A z.1.l.length z.1.c], z.1.dat, blk b17 88 #[.pointer (some ⟨xb, 0, none⟩)], blk xb 90 #[.int .i64 a0, .int .i64 a1, .int .i64 a2, .slice u2.A u2.es.length u2.c], own 73 3 u2.A u2.es.length u2.c (rowsE u2.es), starA (datsE u2.es), blk b 141 #[.int .i64 a0, .int .i64 a1, .int .i64 a2, .slice u.A u.es.length u.c], own 73 3 u.A u.es.length u.c (rowsE u.es), starA (datsE u.es), blk b12 4 #[.bool false], blk b11 3 #[.int .i64 a5]]) mixed (by kernel_rfl) (fun _ h => h.drew) (fun _ h => h) ?_
            refine SXI.of (fun _ hK => s_mv 177 rfl rfl (SX.done hK)) ?_
            refine SXI.of (fun _ hK => s_mv 178 rfl rfl (SX.done hK)) ?_
            refine SXI.of (fun _ hK => s_call1 179 rfl rfl rfl rfl (v := .bool true) (fun w hw => is_any e fv gv w (hw.old he) hok) (fun _ h => h) (SX.done hK)) ?_
            refine SXI.of (fun _ hK => s_not 180 rfl rfl (SX.done hK)) ?_
            refine SXI.of (fun _ hK => s_mv 181 rfl rfl (SX.done hK)) ?_
            refine SXI.of (fun _ hK => s_mv 182 rfl rfl (SX.done hK)) ?_
            refine SXI.of (fun _ hK => s_mv 183 rfl rfl (SX.done hK)) ?_
            refine SXI.of (fun _ hK => s_ge 184 rfl rfl rfl (decide_eq_false (by omega)) (SX.done hK)) ?_
            refine SXI.of (fun _ hK => s_neB 185 rfl rfl rfl (r := false) rfl (SX.done hK)) ?_
            refine SXI.of (fun _ hK => s_pickF 186 rfl rfl rfl (SX.done hK)) ?_
            refine SXI.of (fun _ hK => s_mv 187 rfl rfl (SX.done hK)) ?_
            refine SXI.of (fun _ hK => s_mv 188 rfl rfl (SX.done hK)) ?_
            refine SXI.of (fun _ hK => s_mv 189 rfl rfl (SX.done hK)) ?_
            refine SXI.of (fun _ hK => SX.skip rfl (SX.done hK)) ?_
            refine SXI.of (fun _ hK => SX.skip rfl (SX.done hK)) ?_
            refine SXI.of (fun _ hK => SX.skip rfl (SX.done hK)) ?_
            refine SXI.of (fun _ hK => SX.skip rfl (SX.done hK)) ?_
            refine SXI.of (fun _ hK => SX.skip rfl (SX.done hK)) ?_
            refine SXI.of (fun _ hK => SX.skip rfl (SX.done hK)) ?_
            refine SXI.of (fun _ hK => SX.skip rfl (SX.done hK)) ?_
            refine SXI.of (fun _ hK => SX.skip rfl (SX.done hK)) ?_
            refine SXI.of (fun _ hK => SX.skip rfl (SX.done hK)) ?_
            refine SXI.of (fun _ hK => SX.skip rfl (SX.done hK)) ?_
            refine SXI.of (fun _ hK => s_pickF 200 rfl rfl rfl (SX.done hK)) ?_
            refine SXI.of (fun _ hK => s_pickF 201 rfl rfl rfl (SX.done hK)) ?_
            refine SXI.of (fun _ hK => s_mv 202 rfl rfl (SX.done hK)) ?_
            refine SXI.of (fun _ hK => s_mv 203 rfl rfl (SX.done hK)) ?_
            refine SXI.of (fun _ hK => s_ldS 205 rfl rfl (v := .pointer (some ⟨xb, 0, none⟩)) (fun _ hw => hw.blkCell (i := 2) (j := 0) rfl rfl) (SX.done hK)) ?_
            refine SXI.of (fun _ hK => s_nil 206 rfl rfl (SX.done hK)) ?_
            refine SXI.of (fun _ hK => s_fa 207 rfl rfl (SX.done hK)) ?_
            refine SXI.of (fun _ hK => s_ldS 208 rfl rfl (v := .slice u2.A u2.es.length u2.c) (fun _ hw => hw.blkCell (i := 3) (j := 3) rfl rfl) (SX.done hK)) ?_
            refine SXI.of (fun _ hK => s_len 209 rfl rfl (SX.done hK)) ?_
            refine SXI.of (fun _ hK => s_call1 204 rfl rfl rfl rfl (fun w hw => blen_spec b u.A u.c u.es w (hw.blkCell (i := 6) rfl rfl)) (fun _ h => h) (SX.done hK)) ?_
            refine SXI.of (fun _ hK => s_ne 210 rfl rfl rfl (decide_eq_false (by omega)) (SX.done hK)) ?_
            refine SXI.of (fun _ hK => s_pickF 211 rfl rfl rfl (SX.done hK)) ?_
            refine SXI.of (fun _ hK => s_mv 212 rfl rfl (SX.done hK)) ?_
            refine SXI.of (fun _ hK => s_mv 213 rfl rfl (SX.done hK)) ?_
            refine SXI.of (fun _ hK => s_ldS 215 rfl rfl (v := .pointer (some ⟨xb, 0, none⟩)) (fun _ hw => hw.blkCell (i := 2) (j := 0) rfl rfl) (SX.done hK)) ?_
            refine SXI.of (fun _ hK => s_nil 216 rfl rfl (SX.done hK)) ?_
            refine SXI.of (fun _ hK => s_fa 217 rfl rfl (SX.done hK)) ?_
            refine SXI.of (fun _ hK => s_ldS 218 rfl rfl (v := .slice u2.A u2.es.length u2.c) (fun _ hw => hw.blkCell (i := 3) (j := 3) rfl rfl) (SX.done hK)) ?_
            refine SXI.of (fun _ hK => s_len 219 rfl rfl (SX.done hK)) ?_
            refine SXI.of (fun _ hK => s_mv 220 rfl rfl (SX.done hK)) ?_
            refine SXI.of (fun _ hK => s_ge 221 rfl rfl rfl (r := decide ((u.es.length : Int) ≥ a1)) (decide_eq_decide.2 (by omega)) (SX.done hK)) ?_
            refine SXI.of (fun _ hK => s_call1 214 rfl rfl rfl rfl (fun w hw => bfull_spec b u.A u.c u.es a1 w (hw.blkCell (i := 6) rfl rfl) (hw.blkCell (i := 6) rfl rfl)) (fun _ h => h) (SX.done hK)) ?_
            refine SXI.of (fun _ hK => s_neB 222 rfl rfl rfl (r := false) (by simp) (SX.done hK)) ?_
            refine SXI.of (fun _ hK => s_pickF 223 rfl rfl rfl (SX.done hK)) ?_
            refine SXI.next ?_
            refine CWI.condF rfl ?_
            refine CWI.skip ?_
            refine KNI.code ?_
            refine CWI.seq ?_
            refine CWI.reg [0] rfl (by kernel_rfl) ?_
            refine SXI.of (fun _ hK => s_as 28 rfl rfl (SX.done hK)) ?_
            refine SXI.next ?_
            refine CWI.block ?_
            refine CWI.loop (G := Nat × List Nat) (fun _ => []) (fun q => [(1, .int .i64 a1), (3, .slice A3 l3.length c3), (4, .int .i64 a4), (11, .pointer (some ⟨b11, 0, none⟩)), (12, .pointer (some ⟨b12, 0, none⟩)), (14, .pointer (some ⟨b, 0, none⟩)), (17, .pointer (some ⟨b17, 0, none⟩)), (18, .int .i64 (i : Nat)), (24, .pointer (some ⟨b24, 0, none⟩)), (28, .int .i64 (q.1 : Nat))]) (fun q => Sto w [own 5 1 z.1.A z.1.l.length z.1.c (nats .u8 q.2), blk b24 73 #[.int .i64 z.1.k, .bool z.1.tr, .slice z.1.A z.1.l.length z.1.c], blk b17 88 #[.pointer (some ⟨xb, 0, none⟩)], blk xb 90 #[.int .i64 a0, .int .i64 a1, .int .i64 a2, .slice u2.A u2.es.length u2.c], own 73 3 u2.A u2.es.length u2.c (rowsE u2.es), starA (datsE u2.es), blk b 141 #[.int .i64 a0, .int .i64 a1, .int .i64 a2, .slice u.A u.es.length u.c], own 73 3 u.A u.es.length u.c (rowsE u.es), starA (datsE u.es), blk b12 4 #[.bool false], blk b11 3 #[.int .i64 a5]]) (fun q => q.1 ≤ z.1.l.length ∧ q.2.length = z.1.l.length) (fun q => z.1.l.length - q.1) (0, z.1.l) rfl ⟨rfl, rfl, rfl, rfl, rfl, rfl, rfl, rfl, rfl, rfl, trivial⟩ (fun _ h => h.pick [1, 0, 0, 0, 0, 0, 0, 0, 0, 0, 0] rfl) ⟨Nat.zero_le _, rfl⟩ ?_
            rintro ⟨k, ml⟩ ⟨hk, hml⟩
            simp only at hk hml
            dsimp only
            refine CWI.seq ?_
            refine CWI.seq ?_
            refine CWI.reg [0, 1, 2, 3, 4] rfl (by kernel_rfl) ?_
            refine SXI.of (fun _ hK => s_mv 224 rfl rfl (SX.done hK)) ?_
            refine SXI.of (fun _ hK => s_fa 225 rfl rfl (SX.done hK)) ?_
            refine SXI.of (fun _ hK => s_ld 226 rfl rfl (v := .slice z.1.A z.1.l.length z.1.c) (fun _ hw => hw.blkCell (i := 1) (j := 2) rfl rfl) (SX.done hK)) ?_
            refine SXI.of (fun _ hK => s_len 227 rfl rfl (SX.done hK)) ?_
            refine SXI.of (fun _ hK => s_lt 228 rfl rfl rfl rfl (SX.done hK)) ?_
            refine SXI.next ?_
            refine CWI.test rfl (fun hc => ?_) (fun hc => ?_)
            · skip
              have hkl : k < z.1.l.length := by omega
              refine CWI.skip ?_
              refine KNI.code ?_
              refine CWI.seq ?_
              refine CWI.block ?_
              refine CWI.reg [0, 1, 2, 3, 4] rfl (by kernel_rfl) ?_
              refine SXI.of (fun _ hK => s_fa 231 rfl rfl (SX.done hK)) ?_
              refine SXI.of (fun _ hK => s_ld 232 rfl rfl (v := .slice z.1.A z.1.l.length z.1.c) (fun _ hw => hw.blkCell (i := 1) (j := 2) rfl rfl) (SX.done hK)) ?_
              refine SXI.of (fun _ hK => s_mv 233 rfl rfl (SX.done hK)) ?_
              refine SXI.of (fun _ hK => s_iaO 234 0 k rfl rfl rfl rfl rfl hkl (SX.done hK)) ?_
              refine SXI.of (fun _ hK => s_stO 0 rfl rfl rfl rfl rfl hkl (fun _ _ => trivial) (SX.done hK)) ?_
              refine SXI.end_ ?_
              refine KNI.blk ?_
              refine KNI.code ?_
              refine CWI.reg [0, 1, 2] rfl (by kernel_rfl) ?_
              refine SXI.of (fun _ hK => s_mv 229 rfl rfl (SX.done hK)) ?_
              refine SXI.of (fun _ hK => s_add 230 rfl rfl rfl (r := ((k + 1 : Nat) : Int)) (w64 (by omega)) (SX.done hK)) ?_
              refine SXI.of (fun _ hK => s_as 28 rfl rfl (SX.done hK)) ?_
              refine SXI.end_ ?_
              exact KNI.back (k + 1, ml.set k 238) rfl ⟨rfl, rfl, rfl, rfl, rfl, rfl, rfl, rfl, rfl, rfl, trivial⟩ (fun _ h => by simp only [natsSet]; exact h) ⟨by simp only; omega, by simp only [List.length_set]; exact hml⟩ (by simp only; omega)
            · skip
              refine CWI.exit rfl ?_
              refine KNI.blk ?_
              refine KNI.code ?_
              refine CWI.reg [0, 1, 2] rfl (by kernel_rfl) ?_
              refine SXI.of (fun _ hK => s_mv 95 rfl rfl (SX.done hK)) ?_
              refine SXI.of (fun _ hK => s_add 96 rfl rfl rfl (r := ((i + 1 : Nat) : Int)) (w64 (by omega)) (SX.done hK)) ?_
              refine SXI.of (fun _ hK => s_as 18 rfl rfl (SX.done hK)) ?_
              refine SXI.end_ ?_
              exact KNI.back (i + 1, u, u2) rfl ⟨rfl, rfl, rfl, rfl, rfl, rfl, rfl, rfl, trivial⟩ (fun _ h => h.pick [2, 2, 2, 2, 2, 2, 2, 2, 2] rfl) ⟨by simp only; omega, hP⟩ (by simp only; omega)
          · skip
            rw [hz1, hz2]
            have hjl := (List.getElem?_eq_some_iff.1 hen).1
            have hj2 : j < u2.es.length := by omega
            have hen2 := gE_at hj2
            have hzq : z.1.abs = (gE u2.es j).abs := by
              have h1 := congrArg (fun l => l[j]?) hab
              simp only [absE, List.getElem?_map, hen, hen2, Option.map_some] at h1
              rw [hza]
              exact Option.some.inj h1
            have hz8 : ∀ t ∈ z.1.l, t < 256 := by
              rw [show z.1.l = en.l from congrArg (fun t => t.2.2) hza]
              exact (hP.ok _ (List.mem_of_getElem? hen)).2
            refine CWI.regD (.st true 0 (.st true 1 (.st false 2 (.st true 3 (.st true 4 (.st true 5 (.st true 6 (.st true 7 (.st true 8 (.st true 9 (.st true 10 (.st true 11 (.st true 12 (.st true 13 (.st true 14 (.st true 15 (.st true 16 (.st true 17 (.st true 18 (.st true 19 (.st true 20 (.st false 21 (.st true 22 (.st true 23 (.st true 24 (.st true 25 (.st true 26 (.st true 28 (.st true 29 (.st true 30 (.st true 31 (.st true 32 (.st false 27 (.st true 33 (.st true 34 (.st true 35 (.st true 36 (.st true 38 (.st true 39 (.st true 40 (.st true 41 (.st true 42 (.st true 43 (.st true 44 (.st false 37 (.st true 45 (.st true 46 .done))))))))))))))))))))))))))))))))))))))))))))))) (Sto w [blk b24 73 #[.int .i64 z.1.k, .bool z.1.tr, .slice z.1.A z.1.l.length z.1.c], z.1.dat, blk b17 88 #[.pointer (some ⟨xb, 0, none⟩)], blk xb 90 #[.int .i64 a0, .int .i64 a1, .int .i64 a2, .slice u2.A u2.es.length u2.c], own 73 3 u2.A u2.es.length u2.c (rowsE u2.es), starA (datsE u2.es), blk b 141 #[.int .i64 a0, .int .i64 a1, .int .i64 a2, .slice u.A u.es.length u.c], own 73 3 u.A u.es.length u.c (rowsE u.es), starA (datsE u.es), blk b12 4 #[.bool false], blk b11 3 #[.int .i64 a5]]) mixed (by kernel_rfl) (fun _ h => h.drew) (fun _ h => h) ?_
            refine SXI.of (fun _ hK => s_mv 177 rfl rfl (SX.done hK)) ?_
            refine SXI.of (fun _ hK => s_mv 178 rfl rfl (SX.done hK)) ?_
            refine SXI.of (fun _ hK => s_call1 179 rfl rfl rfl rfl (v := .bool true) (fun w hw => is_any e fv gv w (hw.old he) hok) (fun _ h => h) (SX.done hK)) ?_
            refine SXI.of (fun _ hK => s_not 180 rfl rfl (SX.done hK)) ?_
            refine SXI.of (fun _ hK => s_mv 181 rfl rfl (SX.done hK)) ?_
            refine SXI.of (fun _ hK => s_mv 182 rfl rfl (SX.done hK)) ?_
            refine SXI.of (fun _ hK => s_mv 183 rfl rfl (SX.done hK)) ?_
            refine SXI.of (fun _ hK => s_ge 184 rfl rfl rfl (decide_eq_true (by omega)) (SX.done hK)) ?_
            refine SXI.of (fun _ hK => s_neB 185 rfl rfl rfl (r := false) rfl (SX.done hK)) ?_
            refine SXI.of (fun _ hK => s_pickF 186 rfl rfl rfl (SX.done hK)) ?_
            refine SXI.of (fun _ hK => s_mv 187 rfl rfl (SX.done hK)) ?_
            refine SXI.of (fun _ hK => s_mv 188 rfl rfl (SX.done hK)) ?_
            refine SXI.of (fun _ hK => s_mv 189 rfl rfl (SX.done hK)) ?_
            refine SXI.of (fun _ hK => s_ldRS 190 (cs := z.1.row) rfl rfl rfl (fun _ hw => hw.blkRow (i := 0) rfl) (SX.done hK)) ?_
            refine SXI.of (fun _ hK => s_ldS 191 rfl rfl (v := .pointer (some ⟨xb, 0, none⟩)) (fun _ hw => hw.blkCell (i := 2) (j := 0) rfl rfl) (SX.done hK)) ?_
            refine SXI.of (fun _ hK => s_nil 192 rfl rfl (SX.done hK)) ?_
            refine SXI.of (fun _ hK => s_fa 193 rfl rfl (SX.done hK)) ?_
            refine SXI.of (fun _ hK => s_ldS 194 rfl rfl (v := .slice u2.A u2.es.length u2.c) (fun _ hw => hw.blkCell (i := 3) (j := 3) rfl rfl) (SX.done hK)) ?_
            refine SXI.of (fun _ hK => s_mv 195 rfl rfl (SX.done hK)) ?_
            refine SXI.of (fun _ hK => s_iaV 196 j (fun w hw => (hw.has (i := 4) rfl).of_own) rfl rfl rfl rfl hj2 (SX.done hK)) ?_
            refine SXI.of (fun _ hK => s_ldRS 197 (cs := (gE u2.es j).row) rfl rfl rfl (fun _ hw => ((hw.has (i := 4) rfl).of_own).entRow hen2) (SX.done hK)) ?_
            refine SXI.of (fun _ hK => s_call1 198 rfl rfl rfl rfl (v := .bool true) (fun w hw => by have := sameEntry_spec z.1 (gE u2.es j) w ((hw.has (i := 1) rfl).of_own) ((Has.starM (hw.has (i := 5) rfl) (List.mem_map_of_mem (gE_mem hj2))).of_own) hz8 (hP.okb _ (gE_mem hj2)).2; rw [decide_eq_true hzq] at this; exact this) (fun _ h => h) (SX.done hK)) ?_
            refine SXI.of (fun _ hK => s_not 199 rfl rfl (SX.done hK)) ?_
            refine SXI.of (fun _ hK => s_pickT 200 rfl rfl rfl (SX.done hK)) ?_
            refine SXI.of (fun _ hK => s_pickF 201 rfl rfl rfl (SX.done hK)) ?_
            refine SXI.of (fun _ hK => s_mv 202 rfl rfl (SX.done hK)) ?_
            refine SXI.of (fun _ hK => s_mv 203 rfl rfl (SX.done hK)) ?_
            refine SXI.of (fun _ hK => s_ldS 205 rfl rfl (v := .pointer (some ⟨xb, 0, none⟩)) (fun _ hw => hw.blkCell (i := 2) (j := 0) rfl rfl) (SX.done hK)) ?_
            refine SXI.of (fun _ hK => s_nil 206 rfl rfl (SX.done hK)) ?_
            refine SXI.of (fun _ hK => s_fa 207 rfl rfl (SX.done hK)) ?_
            refine SXI.of (fun _ hK => s_ldS 208 rfl rfl (v := .slice u2.A u2.es.length u2.c) (fun _ hw => hw.blkCell (i := 3) (j := 3) rfl rfl) (SX.done hK)) ?_
            refine SXI.of (fun _ hK => s_len 209 rfl rfl (SX.done hK)) ?_
            refine SXI.of (fun _ hK => s_call1 204 rfl rfl rfl rfl (fun w hw => blen_spec b u.A u.c u.es w (hw.blkCell (i := 6) rfl rfl)) (fun _ h => h) (SX.done hK)) ?_
            refine SXI.of (fun _ hK => s_ne 210 rfl rfl rfl (decide_eq_false (by omega)) (SX.done hK)) ?_
            refine SXI.of (fun _ hK => s_pickF 211 rfl rfl rfl (SX.done hK)) ?_
            refine SXI.of (fun _ hK => s_mv 212 rfl rfl (SX.done hK)) ?_
            refine SXI.of (fun _ hK => s_mv 213 rfl rfl (SX.done hK)) ?_
            refine SXI.of (fun _ hK => s_ldS 215 rfl rfl (v := .pointer (some ⟨xb, 0, none⟩)) (fun _ hw => hw.blkCell (i := 2) (j := 0) rfl rfl) (SX.done hK)) ?_
            refine SXI.of (fun _ hK => s_nil 216 rfl rfl (SX.done hK)) ?_
            refine SXI.of (fun _ hK => s_fa 217 rfl rfl (SX.done hK)) ?_
            refine SXI.of (fun _ hK => s_ldS 218 rfl rfl (v := .slice u2.A u2.es.length u2.c) (fun _ hw => hw.blkCell (i := 3) (j := 3) rfl rfl) (SX.done hK)) ?_
            refine SXI.of (fun _ hK => s_len 219 rfl rfl (SX.done hK)) ?_
            refine SXI.of (fun _ hK => s_mv 220 rfl rfl (SX.done hK)) ?_
            refine SXI.of (fun _ hK => s_ge 221 rfl rfl rfl (r := decide ((u.es.length : Int) ≥ a1)) (decide_eq_decide.2 (by omega)) (SX.done hK)) ?_
            refine SXI.of (fun _ hK => s_call1 214 rfl rfl rfl rfl (fun w hw => bfull_spec b u.A u.c u.es a1 w (hw.blkCell (i := 6) rfl rfl) (hw.blkCell (i := 6) rfl rfl)) (fun _ h => h) (SX.done hK)) ?_
            refine SXI.of (fun _ hK => s_neB 222 rfl rfl rfl (r := false) (by simp) (SX.done hK)) ?_
            refine SXI.of (fun _ hK => s_pickF 223 rfl rfl rfl (SX.done hK)) ?_
            refine SXI.next ?_
            refine CWI.condF rfl ?_
            refine CWI.skip ?_
            refine KNI.code ?_
            refine CWI.seq ?_
            refine CWI.reg [0] rfl (by kernel_rfl) ?_
            refine SXI.of (fun _ hK => s_as 28 rfl rfl (SX.done hK)) ?_
            refine SXI.next ?_
            refine CWI.block ?_
            refine CWI.loop (G := Nat × List Nat) (fun _ => []) (fun q => [(1, .int .i64 a1), (3, .slice A3 l3.length c3), (4, .int .i64 a4), (11, .pointer (some ⟨b11, 0, none⟩)), (12, .pointer (some ⟨b12, 0, none⟩)), (14, .pointer (some ⟨b, 0, none⟩)), (17, .pointer (some ⟨b17, 0, none⟩)), (18, .int .i64 (i : Nat)), (24, .pointer (some ⟨b24, 0, none⟩)), (28, .int .i64 (q.1 : Nat))]) (fun q => Sto w [own 5 1 z.1.A z.1.l.length z.1.c (nats .u8 q.2), blk b24 73 #[.int .i64 z.1.k, .bool z.1.tr, .slice z.1.A z.1.l.length z.1.c], blk b17 88 #[.pointer (some ⟨xb, 0, none⟩)], blk xb 90 #[.int .i64 a0, .int .i64 a1, .int .i64 a2, .slice u2.A u2.es.length u2.c], own 73 3 u2.A u2.es.length u2.c (rowsE u2.es), starA (datsE u2.es), blk b 141 #[.int .i64 a0, .int .i64 a1, .int .i64 a2, .slice u.A u.es.length u.c], own 73 3 u.A u.es.length u.c (rowsE u.es), starA (datsE u.es), blk b12 4 #[.bool false], blk b11 3 #[.int .i64 a5]]) (fun q => q.1 ≤ z.1.l.length ∧ q.2.length = z.1.l.length) (fun q => z.1.l.length - q.1) (0, z.1.l) rfl ⟨rfl, rfl, rfl, rfl, rfl, rfl, rfl, rfl, rfl, rfl, trivial⟩ (fun _ h => h.pick [1, 0, 0, 0, 0, 0, 0, 0, 0, 0, 0] rfl) ⟨Nat.zero_le _, rfl⟩ ?_
            rintro ⟨k, ml⟩ ⟨hk, hml⟩
            simp only at hk hml
            dsimp only
            refine CWI.seq ?_
            refine CWI.seq ?_
            refine CWI.reg [0, 1, 2, 3, 4] rfl (by kernel_rfl) ?_
            refine SXI.of (fun _ hK => s_mv 224 rfl rfl (SX.done hK)) ?_
            refine SXI.of (fun _ hK => s_fa 225 rfl rfl (SX.done hK)) ?_
            refine SXI.of (fun _ hK => s_ld 226 rfl rfl (v := .slice z.1.A z.1.l.length z.1.c) (fun _ hw => hw.blkCell (i := 1) (j := 2) rfl rfl) (SX.done hK)) ?_
            refine SXI.of (fun _ hK => s_len 227 rfl rfl (SX.done hK)) ?_
            refine SXI.of (fun _ hK => s_lt 228 rfl rfl rfl rfl (SX.done hK)) ?_
            refine SXI.next ?_
            refine CWI.test rfl (fun hc => ?_) (fun hc => ?_)
            · skip
              have hkl : k < z.1.l.length := by omega
              refine CWI.skip ?_
              refine KNI.code ?_
              refine CWI.seq ?_
              refine CWI.block ?_
              refine CWI.reg [0, 1, 2, 3, 4] rfl (by kernel_rfl) ?_
              refine SXI.of (fun _ hK => s_fa 231 rfl rfl (SX.done hK)) ?_
              refine SXI.of (fun _ hK => s_ld 232 rfl rfl (v := .slice z.1.A z.1.l.length z.1.c) (fun _ hw => hw.blkCell (i := 1) (j := 2) rfl rfl) (SX.done hK)) ?_
              refine SXI.of (fun _ hK => s_mv 233 rfl rfl (SX.done hK)) ?_
              refine SXI.of (fun _ hK => s_iaO 234 0 k rfl rfl rfl rfl rfl hkl (SX.done hK)) ?_
              refine SXI.of (fun _ hK => s_stO 0 rfl rfl rfl rfl rfl hkl (fun _ _ => trivial) (SX.done hK)) ?_
              refine SXI.end_ ?_
              refine KNI.blk ?_
              refine KNI.code ?_
              refine CWI.reg [0, 1, 2] rfl (by kernel_rfl) ?_
              refine SXI.of (fun _ hK => s_mv 229 rfl rfl (SX.done hK)) ?_
              refine SXI.of (fun _ hK => s_add 230 rfl rfl rfl (r := ((k + 1 : Nat) : Int)) (w64 (by omega)) (SX.done hK)) ?_
              refine SXI.of (fun _ hK => s_as 28 rfl rfl (SX.done hK)) ?_
              refine SXI.end_ ?_
              exact KNI.back (k + 1, ml.set k 238) rfl ⟨rfl, rfl, rfl, rfl, rfl, rfl, rfl, rfl, rfl, rfl, trivial⟩ (fun _ h => by simp only [natsSet]; exact h) ⟨by simp only; omega, by simp only [List.length_set]; exact hml⟩ (by simp only; omega)
            · skip
              refine CWI.exit rfl ?_
              refine KNI.blk ?_
              refine KNI.code ?_
              refine CWI.reg [0, 1, 2] rfl (by kernel_rfl) ?_
              refine SXI.of (fun _ hK => s_mv 95 rfl rfl (SX.done hK)) ?_
              refine SXI.of (fun _ hK => s_add 96 rfl rfl rfl (r := ((i + 1 : Nat) : Int)) (w64 (by omega)) (SX.done hK)) ?_
              refine SXI.of (fun _ hK => s_as 18 rfl rfl (SX.done hK)) ?_
              refine SXI.end_ ?_
              exact KNI.back (i + 1, u, u2) rfl ⟨rfl, rfl, rfl, rfl, rfl, rfl, rfl, rfl, trivial⟩ (fun _ h => h.pick [2, 2, 2, 2, 2, 2, 2, 2, 2] rfl) ⟨by simp only; omega, hP⟩ (by simp only; omega)
  · skip
    skip
    refine CWI.exit rfl ?_
    refine KNI.code ?_
    refine CWI.seq ?_
    refine CWI.seq ?_
    refine CWI.reg [0, 1] rfl (by kernel_rfl) ?_
    refine SXI.of1 (pf := fun _ => True) (fun _ hK => s_alloc 29 rfl (fun _ _ => trivial) (fun x => SX.done (hK x trivial))) (fun b29 _ => ?_)
    refine SXI.of (fun _ hK => s_stB 0 rfl rfl rfl rfl rfl (Nat.lt_succ_self 0) (fun _ _ => trivial) (SX.done hK)) ?_
    refine SXI.next ?_
    refine CWI.block ?_
    refine CWI.loop (G := Nat × List Nat × Nat) (fun q => q.2.1.map Go.Sx.mark) (fun q => [(11, .pointer (some ⟨b11, 0, none⟩)), (12, .pointer (some ⟨b12, 0, none⟩)), (14, .pointer (some ⟨b, 0, none⟩)), (17, .pointer (some ⟨b17, 0, none⟩)), (29, .pointer (some ⟨q.2.2, 0, none⟩))]) (fun q => Sto w [blk q.2.2 3 #[.int .i64 (q.1 : Nat)], blk b17 88 #[.pointer (some ⟨xb, 0, none⟩)], blk xb 90 #[.int .i64 a0, .int .i64 a1, .int .i64 a2, .slice u2.A u2.es.length u2.c], own 73 3 u2.A u2.es.length u2.c (rowsE u2.es), starA (datsE u2.es), blk b 141 #[.int .i64 a0, .int .i64 a1, .int .i64 a2, .slice u.A u.es.length u.c], own 73 3 u.A u.es.length u.c (rowsE u.es), starA (datsE u.es), blk b12 4 #[.bool false], blk b11 3 #[.int .i64 a5], starA (q.2.1.map defB)]) (fun q => q.1 ≤ 2) (fun q => 2 - q.1) (0, [], b29) rfl ⟨rfl, rfl, rfl, rfl, rfl, trivial⟩ (fun _ h => by have h2 := (h.pick [0, 0, 0, 0, 0, 0, 0, 0, 0, 0] rfl).nilStar; exact h2) (Nat.zero_le _) ?_
    rintro q hq
    refine CWI.seq ?_
    refine CWI.seq ?_
    refine CWI.reg [0, 1] rfl (by kernel_rfl) ?_
    refine SXI.of (fun _ hK => s_ld 235 rfl rfl (fun _ h => h.blkCell (i := 0) (j := 0) rfl rfl) (SX.done hK)) ?_
    refine SXI.of (fun _ hK => s_lt 236 rfl rfl rfl rfl (SX.done hK)) ?_
    refine SXI.next ?_
    refine CWI.test rfl (fun hc => ?_) (fun hc => ?_)
    · skip
      refine CWI.skip ?_
      refine KNI.code ?_
      refine CWI.seq ?_
      refine CWI.block ?_
      refine CWI.seq ?_
      refine CWI.reg [0, 1] rfl (by kernel_rfl) ?_
      refine SXI.of1 (pf := fun _ => True) (fun _ hK => s_alloc 30 rfl (fun _ _ => trivial) (fun x => SX.done (hK x trivial))) (fun b30 _ => ?_)
      refine SXI.of (fun _ hK => s_stB 0 rfl rfl rfl rfl rfl (Nat.lt_succ_self 0) (fun _ _ => trivial) (SX.done hK)) ?_
      refine SXI.next ?_
      refine CWI.seq ?_
      refine CWI.seq ?_
      refine CWI.reg [0, 1] rfl (by kernel_rfl) ?_
      refine SXI.of (fun _ hK => s_mv 239 rfl rfl (SX.done hK)) ?_
      refine SXI.of1 (fun _ hK => s_call 240 rfl rfl rfl rfl (fun w hw => each_spec b w) (fun _ _ => trivial) (fun x hx => SX.done (hK x hx))) (fun bx _ => ?_)
      refine SXI.next ?_
      refine CWI.block ?_
      refine CWI.rangeFuncY (G := Unit) (GX := Unit) (X := Option Addr × Nat) (Y := Nat) (fun i _ => [blk b30 3 #[.int .i64 (i : Nat)], blk q.2.2 3 #[.int .i64 (q.1 : Nat)], blk b17 88 #[.pointer (some ⟨xb, 0, none⟩)], blk xb 90 #[.int .i64 a0, .int .i64 a1, .int .i64 a2, .slice u2.A u2.es.length u2.c], own 73 3 u2.A u2.es.length u2.c (rowsE u2.es), starA (datsE u2.es), blk b11 3 #[.int .i64 a5]]) (fun _ _ => True) (fun i _ => [blk b30 3 #[.int .i64 (i : Nat)], blk q.2.2 3 #[.int .i64 (q.1 : Nat)], blk b17 88 #[.pointer (some ⟨xb, 0, none⟩)], blk xb 90 #[.int .i64 a0, .int .i64 a1, .int .i64 a2, .slice u2.A u2.es.length u2.c], own 73 3 u2.A u2.es.length u2.c (rowsE u2.es), starA (datsE u2.es), blk b11 3 #[.int .i64 a5]]) (fun i _ => q.1 = 0 ∧ ((i : Nat) : Int) = a5) (fun _ => .exit 11) () [blk bx 69 #[.pointer (some ⟨b, 0, none⟩)], blk b 141 #[.int .i64 a0, .int .i64 a1, .int .i64 a2, .slice u.A u.es.length u.c], own 73 3 u.A u.es.length u.c (rowsE u.es), starA (datsE u.es)] [blk b12 4 #[.bool false], starA (q.2.1.map defB)] (fun i x y => [blk y 73 #[.int .i64 (gE u.es i).k, .bool (gE u.es i).tr, .slice x.1 (gE u.es i).l.length x.2]]) (fun i x y => [(11, .pointer (some ⟨b11, 0, none⟩)), (12, .pointer (some ⟨b12, 0, none⟩)), (14, .pointer (some ⟨b, 0, none⟩)), (17, .pointer (some ⟨b17, 0, none⟩)), (29, .pointer (some ⟨q.2.2, 0, none⟩)), (30, .pointer (some ⟨b30, 0, none⟩)), (31, .int .i64 (i : Nat)), (32, .pointer (some ⟨y, 0, none⟩))]) rfl (eachItB b bx a0 a1 a2 u w (by omega) hone) [1, 1, 1, 1, 1, 1, 5, 0, 0, 0, 0, 0, 0] rfl trivial (fun _ _ => rfl) (by simp) ?_ ?_ ?_ ?_
      · intro lr i x B hi hx
        refine CWI.seq ?_
        refine CWI.reg [0] rfl (by kernel_rfl) ?_
        refine SXI.of (fun _ hK => s_as 31 rfl rfl (SX.done hK)) ?_
        refine SXI.next ?_
        refine CWI.reg [0, 1] rfl (by kernel_rfl) ?_
        refine SXI.of1 (pf := fun _ => True) (fun _ hK => s_alloc 32 rfl (fun _ _ => trivial) (fun x => SX.done (hK x trivial))) (fun b32 _ => ?_)
        refine SXI.of (fun _ hK => s_stAll 0 rfl rfl (by kernel_rfl) rfl rfl rfl rfl (fun _ _ => trivial) (SX.done hK)) ?_
        refine SXI.end_ ?_
        exact ⟨fun a w he hc => ⟨b32, he.sub (SubL.sub ⟨rfl, rfl, rfl, rfl, rfl, rfl, rfl, rfl, trivial⟩), hc⟩⟩
      · intro lr T i g x y hi hg hx
        have hi2 : i < u2.es.length := by omega
        have hen := gE_at hi
        have hen2 := gE_at hi2
        have hq2 : (⟨(gE u.es i).k, (gE u.es i).tr, x.1, x.2, (gE u.es i).l⟩ : EntG).abs = (gE u2.es i).abs := by
          have h1 := congrArg (fun l => l[i]?) hab
          simp only [absE, List.getElem?_map, hen, hen2, Option.map_some] at h1
          exact Option.some.inj h1
        refine CWI.block ?_
        refine CWI.seq ?_
        refine CWI.seq ?_
        refine CWI.regD (.st true 0 (.st true 1 (.st true 2 (.st true 3 (.st true 4 (.st true 5 (.st true 6 (.st true 7 (.st true 8 (.st true 9 (.st true 10 (.st true 11 (.st true 12 (.st true 13 (.st true 14 (.st true 15 (.st true 16 (.st true 17 (.st true 18 (.st true 19 (.st true 20 (.st false 21 (.st true 22 (.st true 23 .done)))))))))))))))))))))))) (Sto w [blk y 73 #[.int .i64 (gE u.es i).k, .bool (gE u.es i).tr, .slice x.1 (gE u.es i).l.length x.2], own 5 1 x.1 (gE u.es i).l.length x.2 (nats .u8 (gE u.es i).l), blk b30 3 #[.int .i64 (i : Nat)], blk q.2.2 3 #[.int .i64 (q.1 : Nat)], blk b17 88 #[.pointer (some ⟨xb, 0, none⟩)], blk xb 90 #[.int .i64 a0, .int .i64 a1, .int .i64 a2, .slice u2.A u2.es.length u2.c], own 73 3 u2.A u2.es.length u2.c (rowsE u2.es), starA (datsE u2.es), blk b11 3 #[.int .i64 a5], T]) mixed (by kernel_rfl) (fun _ h => h.drew) (fun _ h => h) ?_
        refine SXI.of (fun _ hK => s_ldS 243 rfl rfl (v := .int .i64 (i : Nat)) (fun _ hw => hw.blkCell (i := 2) (j := 0) rfl rfl) (SX.done hK)) ?_
        refine SXI.of (fun _ hK => s_ldS 244 rfl rfl (v := .pointer (some ⟨xb, 0, none⟩)) (fun _ hw => hw.blkCell (i := 4) (j := 0) rfl rfl) (SX.done hK)) ?_
        refine SXI.of (fun _ hK => s_nil 245 rfl rfl (SX.done hK)) ?_
        refine SXI.of (fun _ hK => s_fa 246 rfl rfl (SX.done hK)) ?_
        refine SXI.of (fun _ hK => s_ldS 247 rfl rfl (v := .slice u2.A u2.es.length u2.c) (fun _ hw => hw.blkCell (i := 5) (j := 3) rfl rfl) (SX.done hK)) ?_
        refine SXI.of (fun _ hK => s_len 248 rfl rfl (SX.done hK)) ?_
        refine SXI.of (fun _ hK => s_ge 249 rfl rfl rfl (decide_eq_false (by omega)) (SX.done hK)) ?_
        refine SXI.of (fun _ hK => s_mv 250 rfl rfl (SX.done hK)) ?_
        refine SXI.of (fun _ hK => s_mv 251 rfl rfl (SX.done hK)) ?_
        refine SXI.of (fun _ hK => s_ldS 252 rfl rfl (v := .int .i64 (i : Nat)) (fun _ hw => hw.blkCell (i := 2) (j := 0) rfl rfl) (SX.done hK)) ?_
        refine SXI.of (fun _ hK => s_ne 253 rfl rfl rfl (decide_eq_false (fun h => h rfl)) (SX.done hK)) ?_
        refine SXI.of (fun _ hK => s_pickF 254 rfl rfl rfl (SX.done hK)) ?_
        refine SXI.of (fun _ hK => s_mv 255 rfl rfl (SX.done hK)) ?_
        refine SXI.of (fun _ hK => s_ldRS 256 (cs := (⟨(gE u.es i).k, (gE u.es i).tr, x.1, x.2, (gE u.es i).l⟩ : EntG).row) rfl rfl rfl (fun _ hw => hw.blkRow (i := 0) rfl) (SX.done hK)) ?_
        refine SXI.of (fun _ hK => s_ldS 257 rfl rfl (v := .pointer (some ⟨xb, 0, none⟩)) (fun _ hw => hw.blkCell (i := 4) (j := 0) rfl rfl) (SX.done hK)) ?_
        refine SXI.of (fun _ hK => s_nil 258 rfl rfl (SX.done hK)) ?_
        refine SXI.of (fun _ hK => s_fa 259 rfl rfl (SX.done hK)) ?_
        refine SXI.of (fun _ hK => s_ldS 260 rfl rfl (v := .slice u2.A u2.es.length u2.c) (fun _ hw => hw.blkCell (i := 5) (j := 3) rfl rfl) (SX.done hK)) ?_
        refine SXI.of (fun _ hK => s_ldS 261 rfl rfl (v := .int .i64 (i : Nat)) (fun _ hw => hw.blkCell (i := 2) (j := 0) rfl rfl) (SX.done hK)) ?_
        refine SXI.of (fun _ hK => s_iaV 262 i (fun w hw => (hw.has (i := 6) rfl).of_own) rfl rfl rfl rfl hi2 (SX.done hK)) ?_
        refine SXI.of (fun _ hK => s_ldRS 263 (cs := (gE u2.es i).row) rfl rfl rfl (fun _ hw => ((hw.has (i := 6) rfl).of_own).entRow hen2) (SX.done hK)) ?_
        refine SXI.of (fun _ hK => s_call1 264 rfl rfl rfl rfl (v := .bool true) (fun w hw => by have := sameEntry_spec ⟨(gE u.es i).k, (gE u.es i).tr, x.1, x.2, (gE u.es i).l⟩ (gE u2.es i) w ((hw.has (i := 1) rfl).of_own) ((Has.starM (hw.has (i := 7) rfl) (List.mem_map_of_mem (gE_mem hi2))).of_own) (hP.ok _ (gE_mem hi)).2 (hP.okb _ (gE_mem hi2)).2; rw [decide_eq_true hq2] at this; exact this) (fun _ h => h) (SX.done hK)) ?_
        refine SXI.of (fun _ hK => s_not 265 rfl rfl (SX.done hK)) ?_
        refine SXI.of (fun _ hK => s_pickF 266 rfl rfl rfl (SX.done hK)) ?_
        refine SXI.next ?_
        refine CWI.condF rfl ?_
        refine CWI.skip ?_
        refine KNI.code ?_
        refine CWI.seq ?_
        refine CWI.reg [0, 1, 2] rfl (by kernel_rfl) ?_
        refine SXI.of (fun _ hK => s_ld 267 rfl rfl (v := .int .i64 (i : Nat)) (fun _ hw => hw.blkCell (i := 2) (j := 0) rfl rfl) (SX.done hK)) ?_
        refine SXI.of (fun _ hK => s_add 268 rfl rfl rfl (r := ((i + 1 : Nat) : Int)) (w64 (by omega)) (SX.done hK)) ?_
        refine SXI.of (fun _ hK => s_stB 2 rfl rfl rfl rfl rfl (Nat.lt_succ_self 0) (fun _ _ => trivial) (SX.done hK)) ?_
        refine SXI.next ?_
        refine CWI.seq ?_
        refine CWI.reg [0, 1, 2, 3, 4, 5, 6] rfl (by kernel_rfl) ?_
        refine SXI.of (fun _ hK => s_ld 269 rfl rfl (v := .int .i64 (q.1 : Nat)) (fun _ hw => hw.blkCell (i := 3) (j := 0) rfl rfl) (SX.done hK)) ?_
        refine SXI.of (fun _ hK => s_eq 270 rfl rfl rfl rfl (SX.done hK)) ?_
        refine SXI.of (fun _ hK => s_mv 271 rfl rfl (SX.done hK)) ?_
        refine SXI.bool 271 rfl (fun hb => ?_) (fun hb => ?_)
        · skip
          have hr0 := of_decide_eq_true hb
          refine SXI.of (fun _ hK => s_ld 272 rfl rfl (v := .int .i64 ((i + 1 : Nat) : Int)) (fun _ hw => hw.blkCell (i := 2) (j := 0) rfl rfl) (SX.done hK)) ?_
          refine SXI.of (fun _ hK => s_ld 273 rfl rfl (v := .int .i64 a5) (fun _ hw => hw.blkCell (i := 8) (j := 0) rfl rfl) (SX.done hK)) ?_
          refine SXI.of (fun _ hK => s_eq 274 rfl rfl rfl rfl (SX.done hK)) ?_
          refine SXI.of (fun _ hK => s_pickT 275 rfl rfl rfl (SX.done hK)) ?_
          refine SXI.next ?_
          refine CWI.test rfl (fun hst => ?_) (fun hst => ?_)
          · skip
            exact CWI.out rfl (fun a w he hc => ⟨(), ⟨by omega, hst⟩, rfl, hc.pick [2, 2, 2, 2, 2, 2, 2, 2] rfl⟩)
          · skip
            refine CWI.skip ?_
            refine KNI.blk ?_
            exact ⟨fun a w he hc => ⟨(), trivial, hc.pick [2, 2, 2, 2, 2, 2, 2, 2] rfl⟩⟩
        · skip
          skip
          refine SXI.of (fun _ hK => SX.skip rfl (SX.done hK)) ?_
          refine SXI.of (fun _ hK => SX.skip rfl (SX.done hK)) ?_
          refine SXI.of (fun _ hK => SX.skip rfl (SX.done hK)) ?_
          refine SXI.of (fun _ hK => s_pickF 275 rfl rfl rfl (SX.done hK)) ?_
          refine SXI.next ?_
          refine CWI.condF rfl ?_
          refine CWI.skip ?_
          refine KNI.blk ?_
          exact ⟨fun a w he hc => ⟨(), trivial, hc.pick [2, 2, 2, 2, 2, 2, 2, 2] rfl⟩⟩
      · intro D g hg
        have hdn : u.es.length = u.es.length ∨ (q.1 = 0 ∧ ((u.es.length : Nat) : Int) = a5) := .inl rfl
        refine KNI.blk ?_
        refine KNI.code ?_
        refine CWI.seq ?_
        refine CWI.regD (.st true 0 (.st true 1 (.st true 2 (.st true 3 (.st true 4 (.st true 5 (.st true 6 (.st true 7 (.st true 8 (.st true 9 (.st true 10 (.st true 11 (.st true 12 (.st true 13 (.st true 14 (.st true 15 (.st true 16 .done))))))))))))))))) (Sto w [blk b30 3 #[.int .i64 (u.es.length : Nat)], blk q.2.2 3 #[.int .i64 (q.1 : Nat)], blk b17 88 #[.pointer (some ⟨xb, 0, none⟩)], blk xb 90 #[.int .i64 a0, .int .i64 a1, .int .i64 a2, .slice u2.A u2.es.length u2.c], own 73 3 u2.A u2.es.length u2.c (rowsE u2.es), starA (datsE u2.es), blk b11 3 #[.int .i64 a5]]) mixed (by kernel_rfl) (fun _ h => h.drew) (fun _ h => h.pick [1, 1, 1, 1, 1, 1, 1] rfl) ?_
        refine SXI.of (fun _ hK => s_ldS 276 rfl rfl (v := .int .i64 ((u.es.length : Nat) : Int)) (fun _ hw => hw.blkCell (i := 0) (j := 0) rfl rfl) (SX.done hK)) ?_
        refine SXI.of (fun _ hK => s_ldS 277 rfl rfl (v := .pointer (some ⟨xb, 0, none⟩)) (fun _ hw => hw.blkCell (i := 2) (j := 0) rfl rfl) (SX.done hK)) ?_
        refine SXI.of (fun _ hK => s_nil 278 rfl rfl (SX.done hK)) ?_
        refine SXI.of (fun _ hK => s_fa 279 rfl rfl (SX.done hK)) ?_
        refine SXI.of (fun _ hK => s_ldS 280 rfl rfl (v := .slice u2.A u2.es.length u2.c) (fun _ hw => hw.blkCell (i := 3) (j := 3) rfl rfl) (SX.done hK)) ?_
        refine SXI.of (fun _ hK => s_len 281 rfl rfl (SX.done hK)) ?_
        refine SXI.of (fun _ hK => s_ne 282 rfl rfl rfl rfl (SX.done hK)) ?_
        refine SXI.of (fun _ hK => s_mv 283 rfl rfl (SX.done hK)) ?_
        refine SXI.bool 283 rfl (fun hb => ?_) (fun hb => ?_)
        · skip
          have hne := of_decide_eq_true hb
          have hdn2 := hdn.resolve_left (fun h => hne (by omega))
          refine SXI.of (fun _ hK => s_ldS 284 rfl rfl (v := .int .i64 (q.1 : Nat)) (fun _ hw => hw.blkCell (i := 1) (j := 0) rfl rfl) (SX.done hK)) ?_
          refine SXI.of (fun _ hK => s_eq 285 rfl rfl rfl (decide_eq_true (by have := hdn2.1; omega)) (SX.done hK)) ?_
          refine SXI.of (fun _ hK => s_mv 286 rfl rfl (SX.done hK)) ?_
          refine SXI.of (fun _ hK => s_ldS 287 rfl rfl (v := .int .i64 ((u.es.length : Nat) : Int)) (fun _ hw => hw.blkCell (i := 0) (j := 0) rfl rfl) (SX.done hK)) ?_
          refine SXI.of (fun _ hK => s_ldS 288 rfl rfl (v := .int .i64 a5) (fun _ hw => hw.blkCell (i := 6) (j := 0) rfl rfl) (SX.done hK)) ?_
          refine SXI.of (fun _ hK => s_eq 289 rfl rfl rfl (decide_eq_true hdn2.2) (SX.done hK)) ?_
          refine SXI.of (fun _ hK => s_pickT 290 rfl rfl rfl (SX.done hK)) ?_
          refine SXI.of (fun _ hK => s_not 291 rfl rfl (SX.done hK)) ?_
          refine SXI.of (fun _ hK => s_pickT 292 rfl rfl rfl (SX.done hK)) ?_
          refine SXI.next ?_
          refine CWI.condF rfl ?_
          refine CWI.skip ?_
          refine KNI.blk ?_
          refine KNI.code ?_
          refine CWI.seq ?_
          refine CWI.seq ?_
          refine CWI.reg [0] rfl (by kernel_rfl) ?_
          refine SXI.of (fun _ hK => s_ld 293 rfl rfl (v := .int .i64 (q.1 : Nat)) (fun _ hw => hw.blkCell (i := 2) (j := 0) rfl rfl) (SX.done hK)) ?_
          refine SXI.next ?_
          refine CWI.reg [0, 1] rfl (by kernel_rfl) ?_
          refine SXI.of1 (pf := fun _ => True) (fun _ hK => s_alloc 29 rfl (fun _ _ => trivial) (fun x => SX.done (hK x trivial))) (fun b29b _ => ?_)
          refine SXI.of (fun _ hK => s_stB 0 rfl rfl rfl rfl rfl (Nat.lt_succ_self 0) (fun _ _ => trivial) (SX.done hK)) ?_
          refine SXI.next ?_
          refine CWI.reg [0, 1, 2] rfl (by kernel_rfl) ?_
          refine SXI.of (fun _ hK => s_ld 237 rfl rfl (v := .int .i64 (q.1 : Nat)) (fun _ hw => hw.blkCell (i := 0) (j := 0) rfl rfl) (SX.done hK)) ?_
          refine SXI.of (fun _ hK => s_add 238 rfl rfl rfl (r := ((q.1 + 1 : Nat) : Int)) (w64 (by omega)) (SX.done hK)) ?_
          refine SXI.of (fun _ hK => s_stB 0 rfl rfl rfl rfl rfl (Nat.lt_succ_self 0) (fun _ _ => trivial) (SX.done hK)) ?_
          refine SXI.end_ ?_
          exact KNI.back (q.1 + 1, D :: q.2.1, b29b) rfl ⟨rfl, rfl, rfl, rfl, rfl, trivial⟩ (fun _ h => ((h.pick [1, 13, 0, 2, 2, 2, 2, 4, 4, 4, 4, 2] rfl).markStar).pick [1, 1, 1, 1, 1, 1, 1, 1, 1, 1, 0] rfl) (by simp only; omega) (by simp only; omega)
        · skip
          skip
          refine SXI.of (fun _ hK => SX.skip rfl (SX.done hK)) ?_
          refine SXI.of (fun _ hK => SX.skip rfl (SX.done hK)) ?_
          refine SXI.of (fun _ hK => SX.skip rfl (SX.done hK)) ?_
          refine SXI.of (fun _ hK => SX.skipU rfl (SX.done hK)) ?_
          refine SXI.of (fun _ hK => SX.skipU rfl (SX.done hK)) ?_
          refine SXI.of (fun _ hK => SX.skipU rfl (SX.done hK)) ?_
          refine SXI.of (fun _ hK => SX.skip rfl (SX.done hK)) ?_
          refine SXI.of (fun _ hK => SX.skip rfl (SX.done hK)) ?_
          refine SXI.of (fun _ hK => s_pickF 292 rfl rfl rfl (SX.done hK)) ?_
          refine SXI.next ?_
          refine CWI.condF rfl ?_
          refine CWI.skip ?_
          refine KNI.blk ?_
          refine KNI.code ?_
          refine CWI.seq ?_
          refine CWI.seq ?_
          refine CWI.reg [0] rfl (by kernel_rfl) ?_
          refine SXI.of (fun _ hK => s_ld 293 rfl rfl (v := .int .i64 (q.1 : Nat)) (fun _ hw => hw.blkCell (i := 2) (j := 0) rfl rfl) (SX.done hK)) ?_
          refine SXI.next ?_
          refine CWI.reg [0, 1] rfl (by kernel_rfl) ?_
          refine SXI.of1 (pf := fun _ => True) (fun _ hK => s_alloc 29 rfl (fun _ _ => trivial) (fun x => SX.done (hK x trivial))) (fun b29b _ => ?_)
          refine SXI.of (fun _ hK => s_stB 0 rfl rfl rfl rfl rfl (Nat.lt_succ_self 0) (fun _ _ => trivial) (SX.done hK)) ?_
          refine SXI.next ?_
          refine CWI.reg [0, 1, 2] rfl (by kernel_rfl) ?_
          refine SXI.of (fun _ hK => s_ld 237 rfl rfl (v := .int .i64 (q.1 : Nat)) (fun _ hw => hw.blkCell (i := 0) (j := 0) rfl rfl) (SX.done hK)) ?_
          refine SXI.of (fun _ hK => s_add 238 rfl rfl rfl (r := ((q.1 + 1 : Nat) : Int)) (w64 (by omega)) (SX.done hK)) ?_
          refine SXI.of (fun _ hK => s_stB 0 rfl rfl rfl rfl rfl (Nat.lt_succ_self 0) (fun _ _ => trivial) (SX.done hK)) ?_
          refine SXI.end_ ?_
          exact KNI.back (q.1 + 1, D :: q.2.1, b29b) rfl ⟨rfl, rfl, rfl, rfl, rfl, trivial⟩ (fun _ h => ((h.pick [1, 13, 0, 2, 2, 2, 2, 4, 4, 4, 4, 2] rfl).markStar).pick [1, 1, 1, 1, 1, 1, 1, 1, 1, 1, 0] rfl) (by simp only; omega) (by simp only; omega)
      · intro D i g hi hg
        have hdn : i + 1 = u.es.length ∨ (q.1 = 0 ∧ ((i + 1 : Nat) : Int) = a5) := .inr hg
        refine CWI.exit rfl ?_
        refine KNI.code ?_
        refine CWI.seq ?_
        refine CWI.regD (.st true 0 (.st true 1 (.st true 2 (.st true 3 (.st true 4 (.st true 5 (.st true 6 (.st true 7 (.st true 8 (.st true 9 (.st true 10 (.st true 11 (.st true 12 (.st true 13 (.st true 14 (.st true 15 (.st true 16 .done))))))))))))))))) (Sto w [blk b30 3 #[.int .i64 (i + 1 : Nat)], blk q.2.2 3 #[.int .i64 (q.1 : Nat)], blk b17 88 #[.pointer (some ⟨xb, 0, none⟩)], blk xb 90 #[.int .i64 a0, .int .i64 a1, .int .i64 a2, .slice u2.A u2.es.length u2.c], own 73 3 u2.A u2.es.length u2.c (rowsE u2.es), starA (datsE u2.es), blk b11 3 #[.int .i64 a5]]) mixed (by kernel_rfl) (fun _ h => h.drew) (fun _ h => h.pick [1, 1, 1, 1, 1, 1, 1] rfl) ?_
        refine SXI.of (fun _ hK => s_ldS 276 rfl rfl (v := .int .i64 ((i + 1 : Nat) : Int)) (fun _ hw => hw.blkCell (i := 0) (j := 0) rfl rfl) (SX.done hK)) ?_
        refine SXI.of (fun _ hK => s_ldS 277 rfl rfl (v := .pointer (some ⟨xb, 0, none⟩)) (fun _ hw => hw.blkCell (i := 2) (j := 0) rfl rfl) (SX.done hK)) ?_
        refine SXI.of (fun _ hK => s_nil 278 rfl rfl (SX.done hK)) ?_
        refine SXI.of (fun _ hK => s_fa 279 rfl rfl (SX.done hK)) ?_
        refine SXI.of (fun _ hK => s_ldS 280 rfl rfl (v := .slice u2.A u2.es.length u2.c) (fun _ hw => hw.blkCell (i := 3) (j := 3) rfl rfl) (SX.done hK)) ?_
        refine SXI.of (fun _ hK => s_len 281 rfl rfl (SX.done hK)) ?_
        refine SXI.of (fun _ hK => s_ne 282 rfl rfl rfl rfl (SX.done hK)) ?_
        refine SXI.of (fun _ hK => s_mv 283 rfl rfl (SX.done hK)) ?_
        refine SXI.bool 283 rfl (fun hb => ?_) (fun hb => ?_)
        · skip
          have hne := of_decide_eq_true hb
          have hdn2 := hdn.resolve_left (fun h => hne (by omega))
          refine SXI.of (fun _ hK => s_ldS 284 rfl rfl (v := .int .i64 (q.1 : Nat)) (fun _ hw => hw.blkCell (i := 1) (j := 0) rfl rfl) (SX.done hK)) ?_
          refine SXI.of (fun _ hK => s_eq 285 rfl rfl rfl (decide_eq_true (by have := hdn2.1; omega)) (SX.done hK)) ?_
          refine SXI.of (fun _ hK => s_mv 286 rfl rfl (SX.done hK)) ?_
          refine SXI.of (fun _ hK => s_ldS 287 rfl rfl (v := .int .i64 ((i + 1 : Nat) : Int)) (fun _ hw => hw.blkCell (i := 0) (j := 0) rfl rfl) (SX.done hK)) ?_
          refine SXI.of (fun _ hK => s_ldS 288 rfl rfl (v := .int .i64 a5) (fun _ hw => hw.blkCell (i := 6) (j := 0) rfl rfl) (SX.done hK)) ?_
          refine SXI.of (fun _ hK => s_eq 289 rfl rfl rfl (decide_eq_true hdn2.2) (SX.done hK)) ?_
          refine SXI.of (fun _ hK => s_pickT 290 rfl rfl rfl (SX.done hK)) ?_
          refine SXI.of (fun _ hK => s_not 291 rfl rfl (SX.done hK)) ?_
          refine SXI.of (fun _ hK => s_pickT 292 rfl rfl rfl (SX.done hK)) ?_
          refine SXI.next ?_
          refine CWI.condF rfl ?_
          refine CWI.skip ?_
          refine KNI.blk ?_
          refine KNI.code ?_
          refine CWI.seq ?_
          refine CWI.seq ?_
          refine CWI.reg [0] rfl (by kernel_rfl) ?_
          refine SXI.of (fun _ hK => s_ld 293 rfl rfl (v := .int .i64 (q.1 : Nat)) (fun _ hw => hw.blkCell (i := 2) (j := 0) rfl rfl) (SX.done hK)) ?_
          refine SXI.next ?_
          refine CWI.reg [0, 1] rfl (by kernel_rfl) ?_
          refine SXI.of1 (pf := fun _ => True) (fun _ hK => s_alloc 29 rfl (fun _ _ => trivial) (fun x => SX.done (hK x trivial))) (fun b29b _ => ?_)
          refine SXI.of (fun _ hK => s_stB 0 rfl rfl rfl rfl rfl (Nat.lt_succ_self 0) (fun _ _ => trivial) (SX.done hK)) ?_
          refine SXI.next ?_
          refine CWI.reg [0, 1, 2] rfl (by kernel_rfl) ?_
          refine SXI.of (fun _ hK => s_ld 237 rfl rfl (v := .int .i64 (q.1 : Nat)) (fun _ hw => hw.blkCell (i := 0) (j := 0) rfl rfl) (SX.done hK)) ?_
          refine SXI.of (fun _ hK => s_add 238 rfl rfl rfl (r := ((q.1 + 1 : Nat) : Int)) (w64 (by omega)) (SX.done hK)) ?_
          refine SXI.of (fun _ hK => s_stB 0 rfl rfl rfl rfl rfl (Nat.lt_succ_self 0) (fun _ _ => trivial) (SX.done hK)) ?_
          refine SXI.end_ ?_
          exact KNI.back (q.1 + 1, D :: q.2.1, b29b) rfl ⟨rfl, rfl, rfl, rfl, rfl, trivial⟩ (fun _ h => ((h.pick [1, 13, 0, 2, 2, 2, 2, 4, 4, 4, 4, 2] rfl).markStar).pick [1, 1, 1, 1, 1, 1, 1, 1, 1, 1, 0] rfl) (by simp only; omega) (by simp only; omega)
        · skip
          skip
          refine SXI.of (fun _ hK => SX.skip rfl (SX.done hK)) ?_
          refine SXI.of (fun _ hK => SX.skip rfl (SX.done hK)) ?_
          refine SXI.of (fun _ hK => SX.skip rfl (SX.done hK)) ?_
          refine SXI.of (fun _ hK => SX.skipU rfl (SX.done hK)) ?_
          refine SXI.of (fun _ hK => SX.skipU rfl (SX.done hK)) ?_
          refine SXI.of (fun _ hK => SX.skipU rfl (SX.done hK)) ?_
          refine SXI.of (fun _ hK => SX.skip rfl (SX.done hK)) ?_
          refine SXI.of (fun _ hK => SX.skip rfl (SX.done hK)) ?_
          refine SXI.of (fun _ hK => s_pickF 292 rfl rfl rfl (SX.done hK)) ?_
          refine SXI.next ?_
          refine CWI.condF rfl ?_
          refine CWI.skip ?_
          refine KNI.blk ?_
          refine KNI.code ?_
          refine CWI.seq ?_
          refine CWI.seq ?_
          refine CWI.reg [0] rfl (by kernel_rfl) ?_
          refine SXI.of (fun _ hK => s_ld 293 rfl rfl (v := .int .i64 (q.1 : Nat)) (fun _ hw => hw.blkCell (i := 2) (j := 0) rfl rfl) (SX.done hK)) ?_
          refine SXI.next ?_
          refine CWI.reg [0, 1] rfl (by kernel_rfl) ?_
          refine SXI.of1 (pf := fun _ => True) (fun _ hK => s_alloc 29 rfl (fun _ _ => trivial) (fun x => SX.done (hK x trivial))) (fun b29b _ => ?_)
          refine SXI.of (fun _ hK => s_stB 0 rfl rfl rfl rfl rfl (Nat.lt_succ_self 0) (fun _ _ => trivial) (SX.done hK)) ?_
          refine SXI.next ?_
          refine CWI.reg [0, 1, 2] rfl (by kernel_rfl) ?_
          refine SXI.of (fun _ hK => s_ld 237 rfl rfl (v := .int .i64 (q.1 : Nat)) (fun _ hw => hw.blkCell (i := 0) (j := 0) rfl rfl) (SX.done hK)) ?_
          refine SXI.of (fun _ hK => s_add 238 rfl rfl rfl (r := ((q.1 + 1 : Nat) : Int)) (w64 (by omega)) (SX.done hK)) ?_
          refine SXI.of (fun _ hK => s_stB 0 rfl rfl rfl rfl rfl (Nat.lt_succ_self 0) (fun _ _ => trivial) (SX.done hK)) ?_
          refine SXI.end_ ?_
          exact KNI.back (q.1 + 1, D :: q.2.1, b29b) rfl ⟨rfl, rfl, rfl, rfl, rfl, trivial⟩ (fun _ h => ((h.pick [1, 13, 0, 2, 2, 2, 2, 4, 4, 4, 4, 2] rfl).markStar).pick [1, 1, 1, 1, 1, 1, 1, 1, 1, 1, 0] rfl) (by simp only; omega) (by simp only; omega)
    · skip
      refine CWI.exit rfl ?_
      refine KNI.code ?_
      refine CWI.seq ?_
      refine CWI.regD (.st true 0 (.st true 2 (.st true 3 (.st true 4 (.st true 5 (.st false 1 (.st false 6 (.st false 7 .done)))))))) (Sto w [blk b17 88 #[.pointer (some ⟨xb, 0, none⟩)], blk xb 90 #[.int .i64 a0, .int .i64 a1, .int .i64 a2, .slice u2.A u2.es.length u2.c], own 73 3 u2.A u2.es.length u2.c (rowsE u2.es), starA (datsE u2.es)]) mixed (by kernel_rfl) (fun _ h => h.drew) (fun _ h => h.pick [1, 1, 1, 1] rfl) ?_
      refine SXI.of (fun _ hK => s_mv 294 rfl rfl (SX.done hK)) ?_
      refine SXI.of (fun _ hK => s_ldS 296 rfl rfl (v := .pointer (some ⟨xb, 0, none⟩)) (fun _ hw => hw.blkCell (i := 0) (j := 0) rfl rfl) (SX.done hK)) ?_
      refine SXI.of (fun _ hK => s_nil 297 rfl rfl (SX.done hK)) ?_
      refine SXI.of (fun _ hK => s_fa 298 rfl rfl (SX.done hK)) ?_
      refine SXI.of (fun _ hK => s_ldS 299 rfl rfl (v := .slice u2.A u2.es.length u2.c) (fun _ hw => hw.blkCell (i := 1) (j := 3) rfl rfl) (SX.done hK)) ?_
      refine SXI.of1 (fun _ hK => s_call 295 rfl rfl rfl rfl (fun w hw => entries_spec b u.A u.c u.es w ((hw.has (i := 6) rfl).of_own) (by omega) (hw.blkCell (i := 5) rfl rfl) (fun e he => (Has.starM (hw.has (i := 7) rfl) (List.mem_map_of_mem he)).of_own) hone) (fun _ h => h.pick [1, 1, 1, 1] rfl) (fun x hx => SX.done (hK x hx))) (fun y hy => ?_)
      obtain ⟨hy1, hy2⟩ := hy
      have hyl := absE_len hy1
      have hPy : PlayI a1 y.es u2.es := ⟨keysU_abs hy1.symm hP.nd, hy1.trans hab, by omega, PlayI.okb (a := u.es) ⟨hP.nd, hy1.symm, hfw, hP.ok⟩⟩
      refine SXI.of (fun _ hK => s_call1 300 rfl rfl rfl rfl (v := .bool true) (fun w hw => sameEs_spec y.A y.c y.es u2.A u2.c u2.es w ((hw.has (i := 0) rfl).of_own) ((hw.has (i := 5) rfl).of_own) (by omega) (fun e he => (Has.starM (hw.has (i := 1) rfl) (List.mem_map_of_mem he)).of_own) (fun e he => (Has.starM (hw.has (i := 6) rfl) (List.mem_map_of_mem he)).of_own) (fun e he => (hPy.ok e he).2) (fun e he => (hP.okb e he).2) (hy1.trans hab)) (fun _ h => h.pick [3, 3, 3, 3] rfl) (SX.done hK)) ?_
      refine SXI.of (fun _ hK => s_stB 10 rfl rfl rfl rfl rfl (Nat.lt_succ_self 0) (fun _ h => h.pick [3, 3, 3, 3] rfl) (SX.done hK)) ?_
      refine SXI.next ?_
      refine CWI.ret ?_
      exact retMC (rs := [.cell 12 4]) (L := [blk b12 4 #[.bool true]]) q.2.1 rfl Tryd.results7 (fun _ h => (St.star _).2 (h.pick [12, 10] rfl)) (fun w hw => ⟨[_], ⟨⟨_, rfl, run_loadVar1 (hw.blkCell (i := 0) (j := 0) rfl rfl)⟩, trivial⟩, rfl, hw.pick [] rfl⟩)

theorem walk_BufferPlays (a0 a1 a2 : Int) (A3 : Option Addr) (n3 c3 : Nat) (l3 : List DoG) (a4 a5 : Int) (e : Nat → Addr) (w : World) (hs3 : Has (sl 4 A3 n3 (rowsD l3)) w) (hz3 : ∀ d ∈ l3, EntIn w d.e) (hn3 : n3 ≤ 9223372036854775807) (he : Has (ersA e apiErrs) w) : Spec1 Tryd.prog 7 [.int .i64 a0, .int .i64 a1, .int .i64 a2, .slice A3 n3 c3, .int .i64 a4, .int .i64 a5] w (.bool true) := by
  have hl3 : l3.length = n3 := by
    obtain ⟨D, ⟨h1, _⟩, _⟩ := hs3
    rw [rowsD_len] at h1
    omega
  subst hl3
  by_cases h : l3.length ≤ 100
  · by_cases hOK : (1 ≤ a0 ∧ a0 ≤ 1024 ∧ 1 ≤ a1 ∧ a1 ≤ 64 ∧ 1 ≤ a2 ∧ a2 ≤ 1073741824)
    · exact bplay_ok a0 a1 a2 A3 c3 l3 a4 a5 e w hs3 hz3 he hn3 h hOK
    · exact bplay_bad a0 a1 a2 A3 c3 l3 a4 a5 e w hs3 hz3 he hn3 h hOK
  · exact bplay_long a0 a1 a2 A3 c3 l3 a4 a5 e w hs3 hz3 he hn3 (by omega)
end Go.Proofs.YtcdmmfpgeagimaaDoor
end
