/- The statements of chapter 8, walked: what they share, LocateMakes. No condition but the errors' variables. -/
import Derived.Test.YtfhfckoemgkdlaaDoorLocate3
import Derived.Test.YtfhfckoemgkdlaaDoorLaws9b
import Derived.Test.YtfhfckoemgkdlaaDoorOps7
namespace Go.Proofs.YtfhfckoemgkdlaaDoor
open Go Go.Sx Go.Fm
set_option maxRecDepth 100000
noncomputable def BL (m : Nat) (l : List Int) : Bm := bmG m (stL m) (lowL m l) l.length
theorem locL_spec (g m : Nat) (A : Option Addr) (n c : Nat) (l : List Int) (w : World) (hm : Ok m) (hf : Has (fieldA g m) w) (ha : Has (sl 1 A n (ints .i64 l)) w) (hn : n ≤ 80) (hcp : n ≤ c) :
    SpecX Tryd.prog 35 [.pointer (some ⟨g, 0, none⟩), .slice A n c] w (X := Option Addr × Nat) (fun q => two (.slice q.1 (BL m l).c.length q.2) (.int .i64 ((BL m l).L : Nat))) (fun q => (BL m l).c.length ≤ q.2) (fun q => [own 3 1 q.1 (BL m l).c.length q.2 (nats .i64 (BL m l).c)]) := by
  have hla := ints_len ha
  subst hla
  have := locate_spec g m A c l w hm hf ha (by omega) hcp
  rw [List.take_of_length_le hn, Nat.min_eq_left hn] at this
  exact this
theorem ints_take_snoc {k : IntKind} {l : List Int} {i : Nat} (h : i < l.length) : ints k (l.take i) ++ [.int k (l.getD i 0)] = ints k (l.take (i + 1)) := by
  have h1 : l.take (i + 1) = l.take i ++ [l.getD i 0] := by
    rw [List.take_add_one]
    simp [h]
  rw [h1]
  simp [ints]
theorem ints_setL {k : IntKind} {l : List Int} {i : Nat} (z : Int) : (ints k l).set i (.int k z) = ints k (l.set i z) := by simp [ints, List.map_set]
theorem ints_setA {k : IntKind} {l : List Int} {i : Nat} (z : Int) : (ints k l).toArray.setIfInBounds i (.int k z) = (ints k (l.set i z)).toArray := by rw [List.setIfInBounds_toArray, ints_setL]
/-! ### What is found makes the values -/
theorem sum_cut (m : Nat) (p s : List Nat) (n t : Nat) : sumP m p s n t = xs (fun i => gm m (if i < t then cf p i else 0) (cf s (n - i))) t := xs_congr (fun i hi => by rw [if_pos hi])
theorem mkB_found {m : Nat} (hm : Ok m) (l : List Int) : mkB m ((BL m l).c.map Int.ofNat) l ((BL m l).L : Nat) = true := by
  have hi : BmI m (lowL m l) (BL m l) l.length := bm_inv hm (lowL_lt m l) l.length
  refine mkB_yes ?_ (by omega) (by have := hi.Ln; omega) (fun j h1 h2 => ?_)
  · have h0 := cf_low m ((BL m l).c.map Int.ofNat) 0
    rw [lowN hi.tc.lt, hi.c0] at h0
    rw [← h0]; decide
  · rw [Int.toNat_natCast] at h2 ⊢
    rw [lowN hi.tc.lt, sumP_cv h2 hi.dc]
    exact hi.zc j h2 h1
theorem mkB_short {m : Nat} (hm : Ok m) {p l : List Int} (h0 : p.getD 0 0 = 1) {t : Nat} (ht : t < (BL m l).L) : mkB m p l (t : Nat) = false := by
  refine decide_eq_false (fun ⟨h1, h2, h3, h4⟩ => ?_)
  have hl : cf (lowL m p) 0 = 1 := by rw [cf_low, h0, lo_one hm]
  have := bm_min hm (lowL_lt m l) (g := fun i => if i < t + 1 then cf (lowL m p) i else 0) (fun j => by
    show (if j < t + 1 then _ else _) < _
    split
    · exact cf_lt (lowL_lt m p) (Nat.two_pow_pos m) j
    · exact Nat.two_pow_pos m) (K := t) (fun j hj => if_neg (by omega)) (by show (if 0 < t + 1 then _ else _) ≠ 0; rw [if_pos (by omega), hl]; decide) l.length (fun j h5 h6 => by
      have e := h4 j h6 (by omega)
      rw [Int.toNat_natCast, sum_cut] at e
      have e2 := xs_more (f := fun i => gm m (if i < t + 1 then cf (lowL m p) i else 0) (cf (lowL m l) (j - i))) (n := t + 1) (k := j - t) (fun i hi => by rw [if_neg (by omega), gm_zero_left])
      rw [show t + 1 + (j - t) = j + 1 by omega, e] at e2
      exact e2)
  unfold BL at ht
  omega
theorem BL_len {m : Nat} (hm : Ok m) (l : List Int) : 1 ≤ (BL m l).c.length ∧ (BL m l).c.length ≤ (BL m l).L + 1 ∧ (BL m l).L ≤ l.length := by
  have hi : BmI m (lowL m l) (BL m l) l.length := bm_inv hm (lowL_lt m l) l.length
  refine ⟨Nat.pos_of_ne_zero fun h => ?_, len_le_of hi.tc (fun j hj => hi.dc j (by omega)), hi.Ln⟩
  have h1 := hi.c0
  skip
  rw [cf_out (by omega)] at h1
  cases h1

theorem rints8_spec (A : Option Addr) (n c : Nat) (l : List Int) (w : World) (ha : Has (sl 1 A n (ints .i64 l)) w) (hn : n ≤ 4294967296) : SpecX Tryd.prog 36 [.slice A n c] w (X := Option Addr × Nat) (fun q => .slice q.1 l.length q.2) (fun q => l.length ≤ q.2) (fun q => [own 3 1 q.1 l.length q.2 (ints .i64 l)]) := by
  have hla := ints_len ha
  subst hla
  refine spec_of Tryd.func36 rfl Tryd.ntmps36 rfl ?_
  refine CW.seq ?_
  refine CW.reg [0] rfl ?_   -- 0, ref.go:123
  refine s_as 2 rfl rfl ?_
  refine SX.next ?_
  refine CW.seq ?_
  refine CW.reg [0, 1, 2, 3] rfl ?_   -- 1, ref.go:124
  refine s_mv 5 rfl rfl ?_
  refine s_len 6 rfl rfl ?_
  refine s_makeC 7 l.length rfl rfl rfl rfl rfl (by unfold maxLen; omega) (fun _ _ => trivial) (fun g0 => ?_)
  refine s_as 3 rfl rfl ?_
  refine SX.next ?_
  refine CW.seq ?_
  refine CW.seq ?_
  refine CW.reg [0] rfl ?_   -- 2, ref.go:125
  refine s_as 4 rfl rfl ?_
  refine SX.next ?_
  refine CW.block ?_
  refine CW.loop (G := Nat × Option Addr × Nat) (fun q => [(0, .slice A l.length c), (3, .slice q.2.1 q.1 q.2.2), (4, .int .i64 (q.1 : Nat))]) (fun q => Sto w [own 3 1 q.2.1 q.1 q.2.2 (ints .i64 (l.take q.1))]) (fun q => q.1 ≤ l.length ∧ q.1 ≤ q.2.2) (fun q => l.length - q.1) (0, some ⟨g0, 0, none⟩, l.length) ⟨rfl, rfl, rfl, trivial⟩ (fun _ h => h) ⟨Nat.zero_le _, Nat.zero_le _⟩ ?_
  intro q hq
  have hq0 := hq.1
  refine CW.seq ?_
  refine CW.seq ?_
  refine CW.reg [0, 1, 2, 3] rfl ?_   -- 3, ref.go:125
  refine s_mv 8 rfl rfl ?_
  refine s_mv 9 rfl rfl ?_
  refine s_len 10 rfl rfl ?_
  refine s_lt 11 rfl rfl rfl rfl ?_
  refine SX.next ?_
  refine CW.test rfl (fun hc => ?_) (fun hc => ?_)
  · skip
    refine CW.skip ?_
    refine KN.code ?_
    refine CW.seq ?_
    refine CW.block ?_
    refine CW.reg [0, 1, 2, 3, 4, 5, 6, 7] rfl ?_   -- 5, ref.go:126
    refine s_mv 14 rfl rfl ?_
    refine s_mv 15 rfl rfl ?_
    refine s_mv 16 rfl rfl ?_
    refine s_iaV 17 q.1 (fun w hw => hw.old ha) rfl rfl rfl rfl (by omega) ?_
    refine s_ldV 18 (fun w hw => hw.old ha) rfl rfl (by rw [Nat.mul_one]; exact intsAt (by omega)) (by omega) ?_
    refine s_bsl 19 rfl rfl (cells := #[.int .i64 (l.getD q.1 0)]) (by kernel_rfl) rfl (fun _ _ => trivial) (fun gb => ?_)
    refine s_app 20 1 rfl rfl rfl rfl (ys := [.int .i64 (l.getD q.1 0)]) (fun w hw => Has.cong ((hw.has (i := 0) rfl).blk_sl (m := 1) rfl) rfl) rfl rfl (by omega) (by unfold maxLen; omega) (by omega) (fun _ _ _ _ => trivial) (fun A2 c2 hc2 => ?_)
    refine s_as 3 rfl rfl ?_
    refine SX.end_ ?_
    refine KN.blk ?_
    refine KN.code ?_
    refine CW.reg [0, 1, 2] rfl ?_   -- 4, ref.go:125
    refine s_mv 12 rfl rfl ?_
    refine s_add 13 rfl rfl rfl (r := ((q.1 + 1 : Nat) : Int)) (w64 (by omega)) ?_
    refine s_as 4 rfl rfl ?_
    refine SX.end_ ?_
    exact KN.back (q.1 + 1, A2, c2) ⟨rfl, rfl, rfl, trivial⟩ (fun _ h => by simp only; rw [← ints_take_snoc (by omega)]; exact h.pick [1] rfl) ⟨by simp only; omega, by simp only; omega⟩ (by simp only; omega)
  · skip
    have hqe : q.1 = l.length := by omega
    refine CW.exit rfl ?_
    refine KN.code ?_
    refine CW.seq ?_
    refine CW.reg [0, 1] rfl ?_   -- 6, ref.go:128
    refine s_mv 21 rfl rfl ?_
    refine s_as 2 rfl rfl ?_
    refine SX.next ?_
    refine CW.ret ?_
    exact KN.ret (rs := [.tmp 2]) Tryd.results36 rfl (fun w hw => ⟨(q.2.1, q.2.2), by rw [← hqe]; rfl, by rw [← hqe]; exact hq.2, by rw [hqe, List.take_length] at hw; exact hw⟩)

theorem made8_spec (m : Int) (w : World) : SpecX Tryd.prog 34 [.int .i64 m] w (X := Nat) (fun q => two (.pointer (some ⟨q, 0, none⟩)) (.int .i64 (mkm 7 m : Nat))) (fun _ => True) (fun q => [fieldA q (mkm 7 m)]) := by
  have hm := mkm_ok (k := 7) (by omega) (by omega) m
  have hb := tmod_lt (k := 7) (by omega) m
  have hv := mkm_val (k := 7) (by omega) m
  have hmb := mkm_bd (k := 7) (by omega) m
  refine spec_of Tryd.func34 rfl Tryd.ntmps34 rfl ?_
  refine CW.seq ?_
  refine CW.reg [0, 1] rfl ?_   -- 0, law.go:14
  refine s_as 2 rfl rfl ?_
  refine s_as 3 rfl rfl ?_
  refine SX.next ?_
  refine CW.seq ?_
  refine CW.reg [0, 1, 2, 3, 4, 5] rfl ?_   -- 1, law.go:15
  refine s_mv 6 rfl rfl ?_
  refine s_rem 7 rfl rfl rfl (by omega) rfl ?_
  refine s_add 8 rfl rfl rfl (w64 (by omega)) ?_
  refine s_rem 9 rfl rfl rfl (by omega) hv ?_
  refine s_add 10 rfl rfl rfl (r := (mkm 7 m : Nat)) (by rw [show (((m % 7).toNat : Nat) : Int) + 3 = (mkm 7 m : Nat) by unfold mkm; omega]; exact w64 (by omega)) ?_
  refine s_as 0 rfl rfl ?_
  refine SX.next ?_
  refine CW.seq ?_
  refine CW.reg [0, 1, 2, 3, 4, 5, 6] rfl ?_   -- 2, law.go:16
  refine s_mv 12 rfl rfl ?_
  refine s_call 13 rfl rfl rfl rfl (fun w hw => new_spec _ w hm) (fun _ _ => trivial) (fun g _ => ?_)
  refine s_mv 11 rfl rfl ?_
  refine s_ext 14 rfl rfl rfl ?_
  refine s_ext 15 rfl rfl rfl ?_
  refine s_as 4 rfl rfl ?_
  refine s_as 5 rfl rfl ?_
  refine SX.next ?_
  refine CW.seq ?_
  refine CW.seq ?_
  refine CW.reg [0, 1] rfl ?_   -- 3, law.go:17
  refine s_mv 16 rfl rfl ?_
  refine s_neNN 17 rfl rfl ?_
  refine SX.next ?_
  refine CW.condF rfl ?_
  refine CW.skip ?_
  refine KN.code ?_
  refine CW.seq ?_
  refine CW.reg [0, 1, 2, 3] rfl ?_   -- 5, law.go:20
  refine s_mv 19 rfl rfl ?_
  refine s_mv 20 rfl rfl ?_
  refine s_as 2 rfl rfl ?_
  refine s_as 3 rfl rfl ?_
  refine SX.next ?_
  refine CW.ret ?_
  exact KN.ret (rs := [.tmp 2, .tmp 3]) Tryd.results34 rfl (fun w hw => ⟨g, rfl, trivial, hw⟩)

theorem ex_l0 : (BL 4 []).c = [1] ∧ (BL 4 []).L = 0 := ⟨rfl, rfl⟩
theorem ex_l1 : (BL 4 [1, 1, 1, 1]).c = [1, 1] ∧ (BL 4 [1, 1, 1, 1]).L = 1 := by
  have h := bm_finds ok4 (P := [0]) (by decide +kernel) (by decide) (s := lowL 4 [1, 1, 1, 1]) (lowL_lt 4 _) (n := 4) (by decide +kernel) (by decide)
  refine ⟨?_, h.1⟩
  have h2 := h.2
  rw [show ofP 4 (([0] : List Nat).map Int.ofNat) (([0] : List Nat).map Int.ofNat).length = [1, 1] by decide +kernel] at h2
  exact h2
theorem ex_l2 : ofP 4 [0, 1] ([0, 1] : List Int).length = [1, 3, 2] := by decide +kernel

theorem first8_spec (w : World) : Spec1 Tryd.prog 33 [] w (.bool true) := by
  refine spec_of Tryd.func33 rfl Tryd.ntmps33 rfl ?_
  refine CW.seq ?_
  refine CW.reg [0] rfl ?_   -- 0, law.go:24
  refine s_as 0 rfl rfl ?_
  refine SX.next ?_
  refine CW.seq ?_
  refine CW.reg [0, 1, 2, 3, 4, 5] rfl ?_   -- 1, law.go:25
  refine s_call 10 rfl rfl rfl rfl (fun w hw => new_spec 4 w ok4) (fun _ _ => trivial) (fun g _ => ?_)
  refine s_mv 9 rfl rfl ?_
  refine s_ext 11 rfl rfl rfl ?_
  refine s_ext 12 rfl rfl rfl ?_
  refine s_as 1 rfl rfl ?_
  refine s_as 2 rfl rfl ?_
  refine SX.next ?_
  refine CW.seq ?_
  refine CW.seq ?_
  refine CW.reg [0, 1, 2, 3, 4, 5] rfl ?_   -- 2, law.go:26
  refine s_mv 13 rfl rfl ?_
  refine s_eqPN 14 rfl rfl ?_
  refine s_mv 15 rfl rfl ?_
  refine s_mv 16 rfl rfl ?_
  refine s_neNN 17 rfl rfl ?_
  refine s_pickF 18 rfl rfl rfl ?_
  refine SX.next ?_
  refine CW.condF rfl ?_
  refine CW.skip ?_
  refine KN.code ?_
  refine CW.seq ?_
  refine CW.reg [0, 1, 2, 3, 4, 5, 6] rfl ?_   -- 4, law.go:29
  refine s_mv 20 rfl rfl ?_
  refine s_call 21 rfl rfl rfl rfl (fun w hw => by have := locL_spec g 4 none 0 0 [] w ok4 (hw.has (i := 0) rfl) (Has.sl_nil _ 1 none) (by decide) (by decide); rw [ex_l0.1, ex_l0.2] at this; exact this) (fun _ _ => trivial) (fun q21 hq21 => ?_)
  refine s_mv 19 rfl rfl ?_
  refine s_ext 22 rfl rfl rfl ?_
  refine s_ext 23 rfl rfl rfl ?_
  refine s_as 3 rfl rfl ?_
  refine s_as 4 rfl rfl ?_
  refine SX.next ?_
  refine CW.seq ?_
  refine CW.reg [0, 1, 2, 3, 4, 5, 6, 7] rfl ?_   -- 5, law.go:30
  refine s_mv 25 rfl rfl ?_
  refine s_bsl 26 rfl rfl (cells := #[.int .i64 1, .int .i64 1, .int .i64 1, .int .i64 1]) (by kernel_rfl) rfl (fun _ _ => trivial) (fun b26 => ?_)
  refine s_call 27 rfl rfl rfl rfl (fun w hw => by have := locL_spec g 4 (some ⟨b26, 0, none⟩) 4 4 [1, 1, 1, 1] w ok4 (hw.has (i := 2) rfl) (Has.cong ((hw.has (i := 0) rfl).blk_sl (m := 4) rfl) rfl) (by decide) (by decide); rw [ex_l1.1, ex_l1.2] at this; exact this) (fun _ _ => trivial) (fun q27 hq27 => ?_)
  refine s_mv 24 rfl rfl ?_
  refine s_ext 28 rfl rfl rfl ?_
  refine s_ext 29 rfl rfl rfl ?_
  refine s_as 5 rfl rfl ?_
  refine s_as 6 rfl rfl ?_
  refine SX.next ?_
  refine CW.seq ?_
  refine CW.reg [0, 1, 2, 3, 4, 5, 6, 7] rfl ?_   -- 6, law.go:31
  refine s_mv 31 rfl rfl ?_
  refine s_bsl 32 rfl rfl (cells := #[.int .i64 0, .int .i64 1]) (by kernel_rfl) rfl (fun _ _ => trivial) (fun b32 => ?_)
  refine s_call 33 rfl rfl rfl rfl (fun w hw => by have := of_spec g 4 (some ⟨b32, 0, none⟩) 2 2 [0, 1] w ok4 (hw.has (i := 4) rfl) (Has.cong ((hw.has (i := 0) rfl).blk_sl (m := 2) rfl) rfl) (by decide); rw [ex_l2] at this; exact this) (fun _ _ => trivial) (fun q33 hq33 => ?_)
  refine s_mv 30 rfl rfl ?_
  refine s_ext 34 rfl rfl rfl ?_
  refine s_ext 35 rfl rfl rfl ?_
  refine s_as 7 rfl rfl ?_
  refine s_as 8 rfl rfl ?_
  refine SX.next ?_
  refine CW.seq ?_
  refine CW.reg [0, 1, 2, 3, 4, 5, 6, 7, 8, 9, 10, 11, 12, 13, 14, 15, 16, 17, 18, 19, 20, 21, 22, 23, 24, 25] rfl ?_   -- 7, law.go:32
  refine s_mv 36 rfl rfl ?_
  refine s_bsl 37 rfl rfl (cells := #[.int .i64 1]) (by kernel_rfl) rfl (fun _ _ => trivial) (fun b37 => ?_)
  refine s_call1 38 rfl rfl rfl rfl (v := .bool true) (fun w hw => by have := sameInts_spec q21.1 (some ⟨b37, 0, none⟩) 1 q21.2 1 1 ([1].map Int.ofNat) [1] _ (by rw [← nats_ints]; exact (hw.has (i := 5) rfl).of_own) (Has.cong ((hw.has (i := 0) rfl).blk_sl (m := 1) rfl) rfl) (by decide); exact this) (fun _ _ => trivial) ?_
  refine s_mv 39 rfl rfl ?_
  refine s_mv 40 rfl rfl ?_
  refine s_eq 41 rfl rfl rfl (decide_eq_true rfl) ?_
  refine s_pickT 42 rfl rfl rfl ?_
  refine s_mv 43 rfl rfl ?_
  refine s_mv 44 rfl rfl ?_
  refine s_bsl 45 rfl rfl (cells := #[.int .i64 1, .int .i64 1]) (by kernel_rfl) rfl (fun _ _ => trivial) (fun b45 => ?_)
  refine s_call1 46 rfl rfl rfl rfl (v := .bool true) (fun w hw => by have := sameInts_spec q27.1 (some ⟨b45, 0, none⟩) 2 q27.2 2 2 ([1, 1].map Int.ofNat) [1, 1] _ (by rw [← nats_ints]; exact (hw.has (i := 4) rfl).of_own) (Has.cong ((hw.has (i := 0) rfl).blk_sl (m := 2) rfl) rfl) (by decide); exact this) (fun _ _ => trivial) ?_
  refine s_pickT 47 rfl rfl rfl ?_
  refine s_mv 48 rfl rfl ?_
  refine s_mv 49 rfl rfl ?_
  refine s_eq 50 rfl rfl rfl (decide_eq_true rfl) ?_
  refine s_pickT 51 rfl rfl rfl ?_
  refine s_mv 52 rfl rfl ?_
  refine s_mv 53 rfl rfl ?_
  refine s_eqNN 54 rfl rfl ?_
  refine s_pickT 55 rfl rfl rfl ?_
  refine s_mv 56 rfl rfl ?_
  refine s_mv 57 rfl rfl ?_
  refine s_bsl 58 rfl rfl (cells := #[.int .i64 1, .int .i64 3, .int .i64 2]) (by kernel_rfl) rfl (fun _ _ => trivial) (fun b58 => ?_)
  refine s_call1 59 rfl rfl rfl rfl (v := .bool true) (fun w hw => by have := sameInts_spec q33.1 (some ⟨b58, 0, none⟩) 3 q33.2 3 3 ([1, 3, 2].map Int.ofNat) [1, 3, 2] _ (by rw [← nats_ints]; exact (hw.has (i := 3) rfl).of_own) (Has.cong ((hw.has (i := 0) rfl).blk_sl (m := 3) rfl) rfl) (by decide); exact this) (fun _ _ => trivial) ?_
  refine s_pickT 60 rfl rfl rfl ?_
  refine s_as 0 rfl rfl ?_
  refine SX.next ?_
  refine CW.ret ?_
  exact KN.ret (rs := [.tmp 0]) Tryd.results33 rfl (fun w hw => ⟨rfl, hw.nothing⟩)

theorem walk_LocateMakes (a0 : Int) (A1 : Option Addr) (n1 c1 : Nat) (l1 : List Int) (A2 : Option Addr) (n2 c2 : Nat) (l2 : List Int) (a3 : Int) (e : Nat → Addr) (w : World) (hs1 : Has (sl 1 A1 n1 (ints .i64 l1)) w) (hn1 : n1 ≤ 9223372036854775807) (hc1 : n1 ≤ c1) (hs2 : Has (sl 1 A2 n2 (ints .i64 l2)) w) (hn2 : n2 ≤ 9223372036854775807) (hc2 : n2 ≤ c2) (_hf : Er e w 2) (_hz : Er e w 1) (_hl : Er e w 0) : Spec1 Tryd.prog 11 [.int .i64 a0, .slice A1 n1 c1, .slice A2 n2 c2, .int .i64 a3] w (.bool true) := by
  have hm := mkm_ok (k := 7) (by omega) (by omega) a0
  have hla := ints_len hs1
  subst hla
  have h14 := pow_le14 hm
  have hNs := N_succ (mkm 7 a0)
  have hNp := N_pos hm
  have hmh := hm.hi
  have hlb := ints_len hs2
  subst hlb
  refine spec_of Tryd.func11 rfl Tryd.ntmps11 rfl ?_
  refine CW.seq ?_
  refine CW.reg [0] rfl ?_   -- 0, law.go:65
  refine s_as 8 rfl rfl ?_
  refine SX.next ?_
  refine CW.seq ?_
  refine CW.reg [0, 1] rfl ?_   -- 1, law.go:66
  refine s_call1 16 rfl rfl rfl rfl (fun w hw => first8_spec w) (fun _ _ => trivial) ?_
  refine s_as 9 rfl rfl ?_
  refine SX.next ?_
  refine CW.seq ?_
  refine CW.reg [0, 1, 2, 3, 4, 5, 6] rfl ?_   -- 2, law.go:67
  refine s_mv 18 rfl rfl ?_
  refine s_call 19 rfl rfl rfl rfl (fun w hw => made8_spec a0 w) (fun _ _ => trivial) (fun g _ => ?_)
  refine s_mv 17 rfl rfl ?_
  refine s_ext 20 rfl rfl rfl ?_
  refine s_ext 21 rfl rfl rfl ?_
  refine s_as 10 rfl rfl ?_
  refine s_as 11 rfl rfl ?_
  refine SX.next ?_
  refine CW.seq ?_
  refine CW.seq ?_
  refine CW.reg [0, 1, 2, 3, 4, 5, 6, 7, 8, 9, 10, 11, 12, 13, 14, 15] rfl ?_   -- 3, law.go:68
  refine s_mv 22 rfl rfl ?_
  refine s_eqPN 23 rfl rfl ?_
  refine s_mv 24 rfl rfl ?_
  refine s_mv 25 rfl rfl ?_
  refine s_len 26 rfl rfl ?_
  refine s_gt 27 rfl rfl rfl rfl ?_
  refine s_pickF 28 rfl rfl rfl ?_
  refine s_mv 29 rfl rfl ?_
  refine SX.bool 29 rfl (fun hb => ?_) (fun hb => ?_)
  · skip
    skip
    refine SX.skip rfl ?_
    refine SX.skip rfl ?_
    refine SX.skip rfl ?_
    refine s_pickT 33 rfl rfl rfl ?_
    refine s_mv 34 rfl rfl ?_
    refine SX.skip rfl ?_
    refine SX.skip rfl ?_
    refine s_pickT 37 rfl rfl rfl ?_
    refine SX.next ?_
    refine CW.condT rfl ?_
    refine CW.seq ?_
    refine CW.reg [0, 1, 2, 3, 4, 5] rfl ?_   -- 4, law.go:69
    refine s_mv 38 rfl rfl ?_
    refine s_mv 39 rfl rfl ?_
    refine s_mv 40 rfl rfl ?_
    refine s_nePN 41 rfl rfl ?_
    refine s_pickT 42 rfl rfl rfl ?_
    refine s_as 8 rfl rfl ?_
    refine SX.next ?_
    refine CW.ret ?_
    exact KN.ret (rs := [.tmp 8]) Tryd.results11 rfl (fun w hw => ⟨rfl, hw.nothing⟩)
  · skip
    have hp1 := of_decide_eq_false hb
    have hx1 : l1.length ≤ 40 := by omega
    refine s_mv 30 rfl rfl ?_
    refine s_len 31 rfl rfl ?_
    refine s_gt 32 rfl rfl rfl rfl ?_
    refine s_pickF 33 rfl rfl rfl ?_
    refine s_mv 34 rfl rfl ?_
    refine SX.bool 34 rfl (fun hb => ?_) (fun hb => ?_)
    · skip
      skip
      refine SX.skip rfl ?_
      refine SX.skip rfl ?_
      refine s_pickT 37 rfl rfl rfl ?_
      refine SX.next ?_
      refine CW.condT rfl ?_
      refine CW.seq ?_
      refine CW.reg [0, 1, 2, 3, 4, 5] rfl ?_   -- 4, law.go:69
      refine s_mv 38 rfl rfl ?_
      refine s_mv 39 rfl rfl ?_
      refine s_mv 40 rfl rfl ?_
      refine s_nePN 41 rfl rfl ?_
      refine s_pickT 42 rfl rfl rfl ?_
      refine s_as 8 rfl rfl ?_
      refine SX.next ?_
      refine CW.ret ?_
      exact KN.ret (rs := [.tmp 8]) Tryd.results11 rfl (fun w hw => ⟨rfl, hw.nothing⟩)
    · skip
      have hp2 := of_decide_eq_false hb
      have hx2 : l2.length ≤ 40 := by omega
      refine s_mv 35 rfl rfl ?_
      refine s_not 36 rfl rfl ?_
      refine s_pickF 37 rfl rfl rfl ?_
      refine SX.next ?_
      refine CW.condF rfl ?_
      refine CW.skip ?_
      refine KN.code ?_
      refine CW.seq ?_
      obtain ⟨hb1, hb2, hb3⟩ := BL_len hm l1
      have hi : BmI (mkm 7 a0) (lowL (mkm 7 a0) l1) (BL (mkm 7 a0) l1) l1.length := bm_inv hm (lowL_lt (mkm 7 a0) l1) l1.length
      have hfo := mkB_found hm l1
      refine CW.reg [0, 1, 2, 3, 4, 5, 6, 7] rfl ?_   -- 5, law.go:71
      refine s_mv 44 rfl rfl ?_
      refine s_mv 45 rfl rfl ?_
      refine s_call 46 rfl rfl rfl rfl (fun w hw => locL_spec g (mkm 7 a0) A1 l1.length c1 l1 w hm (hw.has (i := 0) rfl) (hw.old hs1) (by omega) hc1) (fun _ _ => trivial) (fun q46 hq46 => ?_)
      refine s_mv 43 rfl rfl ?_
      refine s_ext 47 rfl rfl rfl ?_
      refine s_ext 48 rfl rfl rfl ?_
      refine s_as 12 rfl rfl ?_
      refine s_as 13 rfl rfl ?_
      refine SX.next ?_
      refine CW.seq ?_
      refine CW.seq ?_
      refine CW.reg [0, 1, 2, 3, 4, 5, 6, 7, 8, 9, 10, 11, 12, 13, 14, 15, 16, 17, 18, 19, 20, 21, 22, 23, 24, 25, 26, 27, 28, 29, 30, 31, 32, 33] rfl ?_   -- 6, law.go:72
      refine s_mv 49 rfl rfl ?_
      refine s_mv 50 rfl rfl ?_
      refine s_mv 51 rfl rfl ?_
      refine s_mv 52 rfl rfl ?_
      refine s_call1 53 rfl rfl rfl rfl (v := .bool true) (fun w hw => by have := makes_spec g (mkm 7 a0) q46.1 (BL (mkm 7 a0) l1).c.length q46.2 ((BL (mkm 7 a0) l1).c.map Int.ofNat) ((BL (mkm 7 a0) l1).L : Nat) A1 l1.length c1 l1 w hm (hw.has (i := 1) rfl) (by rw [← nats_ints]; exact (hw.has (i := 0) rfl).of_own) (hw.old hs1) (by omega) (by omega); rw [hfo] at this; exact this) (fun _ _ => trivial) ?_
      refine s_not 54 rfl rfl ?_
      refine s_mv 55 rfl rfl ?_
      refine s_mv 56 rfl rfl ?_
      refine s_lt 57 rfl rfl rfl (decide_eq_false (by omega)) ?_
      refine s_pickF 58 rfl rfl rfl ?_
      refine s_mv 59 rfl rfl ?_
      refine s_mv 60 rfl rfl ?_
      refine s_mv 61 rfl rfl ?_
      refine s_len 62 rfl rfl ?_
      refine s_gt 63 rfl rfl rfl (decide_eq_false (by omega)) ?_
      refine s_pickF 64 rfl rfl rfl ?_
      refine s_mv 65 rfl rfl ?_
      refine s_mv 66 rfl rfl ?_
      refine s_len 67 rfl rfl ?_
      refine s_mv 68 rfl rfl ?_
      refine s_add 69 rfl rfl rfl (r := (((BL (mkm 7 a0) l1).L + 1 : Nat) : Int)) (w64 (by omega)) ?_
      refine s_gt 70 rfl rfl rfl (decide_eq_false (by omega)) ?_
      refine s_pickF 71 rfl rfl rfl ?_
      refine s_mv 72 rfl rfl ?_
      refine s_mv 73 rfl rfl ?_
      refine s_len 74 rfl rfl ?_
      refine s_lt 75 rfl rfl rfl (decide_eq_false (by omega)) ?_
      refine s_pickF 76 rfl rfl rfl ?_
      refine s_mv 77 rfl rfl ?_
      refine s_mv 78 rfl rfl ?_
      refine s_iaO 79 0 0 rfl rfl rfl rfl rfl (by omega) ?_
      refine s_ldO 80 0 rfl rfl rfl (natsAtC (by omega)) ?_
      refine s_ne 81 rfl rfl rfl (decide_eq_false (by rw [show cf (BL (mkm 7 a0) l1).c 0 = 1 from hi.c0]; decide)) ?_
      refine s_pickF 82 rfl rfl rfl ?_
      refine SX.next ?_
      refine CW.condF rfl ?_
      refine CW.skip ?_
      refine KN.code ?_
      refine CW.seq ?_
      refine CW.reg [0, 1, 2] rfl ?_   -- 8, law.go:75
      refine s_mv 83 rfl rfl ?_
      refine s_call 84 rfl rfl rfl rfl (fun w hw => rints8_spec A2 l2.length c2 l2 w (hw.old hs2) (by omega)) (fun _ _ => trivial) (fun q84 hq84 => ?_)
      refine s_as 14 rfl rfl ?_
      refine SX.next ?_
      refine CW.seq ?_
      refine CW.seq ?_
      refine CW.reg [0, 1, 2, 3, 4, 5, 6] rfl ?_   -- 9, law.go:76
      refine s_mv 85 rfl rfl ?_
      refine s_len 86 rfl rfl ?_
      refine s_eq 87 rfl rfl rfl rfl ?_
      refine s_mv 88 rfl rfl ?_
      refine SX.bool 88 rfl (fun hb => ?_) (fun hb => ?_)
      · skip
        skip
        refine SX.skip rfl ?_
        refine SX.skip rfl ?_
        refine s_pickT 91 rfl rfl rfl ?_
        refine SX.next ?_
        refine CW.condT rfl ?_
        refine CW.seq ?_
        refine CW.reg [0] rfl ?_   -- 10, law.go:77
        refine s_as 8 rfl rfl ?_
        refine SX.next ?_
        refine CW.ret ?_
        exact KN.ret (rs := [.tmp 8]) Tryd.results11 rfl (fun w hw => ⟨rfl, hw.nothing⟩)
      · skip
        have hd1 := of_decide_eq_false hb
        refine s_mv 89 rfl rfl ?_
        refine s_eq 90 rfl rfl rfl rfl ?_
        refine s_pickF 91 rfl rfl rfl ?_
        refine SX.next ?_
        refine CW.test rfl (fun hc => ?_) (fun hc => ?_)
        · skip
          refine CW.seq ?_
          refine CW.reg [0] rfl ?_   -- 10, law.go:77
          refine s_as 8 rfl rfl ?_
          refine SX.next ?_
          refine CW.ret ?_
          exact KN.ret (rs := [.tmp 8]) Tryd.results11 rfl (fun w hw => ⟨rfl, hw.nothing⟩)
        · skip
          refine CW.skip ?_
          refine KN.code ?_
          refine CW.seq ?_
          have hL0 : 0 < (((BL (mkm 7 a0) l1).L : Nat) : Int) := by omega
          have htb := tmod_lt hL0 a3
          have hmv := mkm_val hL0 a3
          have hme := Int.emod_lt_of_pos a3 hL0
          have hme2 := Int.emod_nonneg a3 (b := (((BL (mkm 7 a0) l1).L : Nat) : Int)) (by omega)
          refine CW.reg [0, 1, 2] rfl ?_   -- 11, law.go:79
          refine s_mv 92 rfl rfl ?_
          refine s_iaO 93 0 0 rfl rfl rfl rfl rfl (by omega) ?_
          refine s_stO 0 rfl rfl rfl rfl rfl (by omega) (fun _ _ => trivial) ?_
          refine SX.next ?_
          refine CW.seq ?_
          refine CW.reg [0, 1, 2, 3, 4, 5, 6, 7] rfl ?_   -- 12, law.go:80
          refine s_mv 94 rfl rfl ?_
          refine s_mv 95 rfl rfl ?_
          refine s_rem 96 rfl rfl rfl (by omega) rfl ?_
          refine s_mv 97 rfl rfl ?_
          refine s_add 98 rfl rfl rfl (w64 (by omega)) ?_
          refine s_mv 99 rfl rfl ?_
          refine s_rem 100 rfl rfl rfl (by omega) hmv ?_
          refine s_as 15 rfl rfl ?_
          refine SX.next ?_
          refine CW.cut (G := Option Addr × Nat × List Int) (fun q => [(1, .slice A1 l1.length c1), (10, .pointer (some ⟨g, 0, none⟩)), (14, .slice q.1 q.2.2.length q.2.1), (15, .int .i64 ((a3 % (((BL (mkm 7 a0) l1).L : Nat) : Int)).toNat : Nat))]) (fun q => Sto w [own 3 1 q.1 q.2.2.length q.2.1 (ints .i64 q.2.2), fieldA g (mkm 7 a0)]) (fun q => q.2.2.getD 0 0 = 1 ∧ q.2.2.length ≤ 40) ?_ ?_
          · skip
            refine CW.seq ?_
            refine CW.reg [0, 1, 2, 3, 4] rfl ?_   -- 13, law.go:81
            refine s_mv 101 rfl rfl ?_
            refine s_len 102 rfl rfl ?_
            refine s_mv 103 rfl rfl ?_
            refine s_add 104 rfl rfl rfl (r := (((a3 % (((BL (mkm 7 a0) l1).L : Nat) : Int)).toNat + 1 : Nat) : Int)) (w64 (by omega)) ?_
            refine s_gt 105 rfl rfl rfl rfl ?_
            refine SX.next ?_
            refine CW.test rfl (fun hc => ?_) (fun hc => ?_)
            · skip
              refine CW.reg [0, 1, 2, 3, 4] rfl ?_   -- 14, law.go:82
              refine s_mv 106 rfl rfl ?_
              refine s_mv 107 rfl rfl ?_
              refine s_add 108 rfl rfl rfl (r := (((a3 % (((BL (mkm 7 a0) l1).L : Nat) : Int)).toNat + 1 : Nat) : Int)) (w64 (by omega)) ?_
              refine s_slH 109 ((a3 % (((BL (mkm 7 a0) l1).L : Nat) : Int)).toNat + 1) rfl rfl rfl rfl (by omega) ?_
              refine SX.pre (fun _ h => h.ownCut (q := 0) (k := (a3 % (((BL (mkm 7 a0) l1).L : Nat) : Int)).toNat + 1) rfl (by omega)) ?_
              refine s_as 14 rfl rfl ?_
              refine SX.end_ ?_
              exact KN.join (q84.1, q84.2, (l2.set 0 1).take ((a3 % (((BL (mkm 7 a0) l1).L : Nat) : Int)).toNat + 1)) ⟨rfl, rfl, by rw [List.length_take, List.length_set, Nat.min_eq_left (by omega)]; rfl, rfl, trivial⟩ (fun _ h => by
                rw [List.length_take, List.length_set, Nat.min_eq_left (by omega)]
                rw [Nat.mul_one] at h
                have h2 := h.pick [0, 1] rfl
                rw [ints_setL, show (ints IntKind.i64 (l2.set 0 1)).take ((a3 % (((BL (mkm 7 a0) l1).L : Nat) : Int)).toNat + 1) = ints .i64 ((l2.set 0 1).take ((a3 % (((BL (mkm 7 a0) l1).L : Nat) : Int)).toNat + 1)) from List.map_take.symm] at h2
                exact h2) ⟨by rw [List.getD_eq_getElem?_getD, List.getElem?_take, if_pos (by omega), List.getElem?_set_self (by omega)]; rfl, by rw [List.length_take, List.length_set]; omega⟩
            · skip
              refine CW.skip ?_
              exact KN.join (q84.1, q84.2, l2.set 0 1) ⟨rfl, rfl, by rw [List.length_set]; rfl, rfl, trivial⟩ (fun _ h => by
                rw [List.length_set, ← ints_setL]
                exact h.pick [0, 1] rfl) ⟨by rw [List.getD_eq_getElem?_getD, List.getElem?_set_self (by omega)]; rfl, by rw [List.length_set]; omega⟩
          · skip
            rintro ⟨qa, qc, ql⟩ ⟨hq1, hq2⟩
            simp only at hq1 hq2
            dsimp only
            have hsh := mkB_short hm (p := ql) (l := l1) hq1 (t := (a3 % (((BL (mkm 7 a0) l1).L : Nat) : Int)).toNat) (by omega)
            refine CW.seq ?_
            refine CW.reg [0, 1, 2, 3, 4, 5, 6] rfl ?_   -- 15, law.go:84
            refine s_mv 110 rfl rfl ?_
            refine s_mv 111 rfl rfl ?_
            refine s_mv 112 rfl rfl ?_
            refine s_mv 113 rfl rfl ?_
            refine s_call1 114 rfl rfl rfl rfl (v := .bool false) (fun w hw => by have := makes_spec g (mkm 7 a0) qa ql.length qc ql ((a3 % (((BL (mkm 7 a0) l1).L : Nat) : Int)).toNat : Nat) A1 l1.length c1 l1 w hm (hw.has (i := 1) rfl) ((hw.has (i := 0) rfl).of_own) (hw.old hs1) (by omega) (by omega); rw [hsh] at this; exact this) (fun _ _ => trivial) ?_
            refine s_not 115 rfl rfl ?_
            refine s_as 8 rfl rfl ?_
            refine SX.next ?_
            refine CW.ret ?_
            exact KN.ret (rs := [.tmp 8]) Tryd.results11 rfl (fun w hw => ⟨rfl, hw.nothing⟩)
