/- The contracts of the document's own field: what each of its functions answers. Conditions: an m that may be. -/
import Derived.Test.YtfhfckoemgkdlaaDoorFieldb
import Derived.Test.YtfhfckoemgkdlaaDoorFm2
namespace Go.Proofs.YtfhfckoemgkdlaaDoor
open Go.Sx Go.Fm
set_option maxRecDepth 100000
theorem eq0 {x : Nat} (h : ¬ (0 : Int) < (x : Nat)) : x = 0 := by omega
theorem u64_nat {m : Nat} (h : Ok m) : IntKind.u64.wrap ((m : Nat) : Int) = (m : Nat) := wu64 (by have := h.hi; omega)

theorem rlow_spec (m : Nat) (a : Int) (w : World) (hm : Ok m) : Spec1 Tryd.prog 38 [.int .i64 (m : Nat), .int .i64 a] w (.int .i64 (lo m a : Nat)) := by
  have hp := N_pos hm
  have hlo := hm.lo
  have hhi := hm.hi
  have hN := N_succ m
  refine spec_of Tryd.func38 rfl Tryd.ntmps38 rfl ?_
  refine CW.seq ?_
  refine CW.reg [0] rfl ?_   -- 0, field.go:15
  refine s_as 4 rfl rfl ?_
  refine SX.next ?_
  refine CW.seq ?_
  refine CW.reg [0, 1, 2, 3, 4, 5, 6] rfl ?_   -- 1, field.go:15
  refine s_mv 5 rfl rfl ?_
  refine s_mv 6 rfl rfl ?_
  refine s_conv 7 rfl rfl (u64_nat hm) ?_
  refine s_shl 8 rfl rfl rfl (by omega) (shl_one hm) ?_
  refine s_sub 9 rfl rfl rfl (w64 (by omega)) ?_
  refine s_bit 10 rfl rfl rfl rfl (low_eq hm a) ?_
  refine s_as 4 rfl rfl ?_
  refine SX.next ?_
  refine CW.ret ?_
  exact KN.ret (rs := [.tmp 4]) Tryd.results38 rfl (fun w hw => ⟨rfl, hw.nothing⟩)

theorem rmul_spec (m : Nat) (a b : Int) (w : World) (hm : Ok m) : Spec1 Tryd.prog 37 [.int .i64 (m : Nat), .int .i64 a, .int .i64 b] w (.int .i64 (gm m (lo m a) (lo m b) : Nat)) := by
  have hp := N_pos hm
  have hlo := hm.lo
  have hhi := hm.hi
  have hN := N_succ m
  have hx := lo_lt m a
  have hb := lo_lt m b
  have hle := pow_le14 hm
  have hpl := poly_lt (m : Nat)
  refine spec_of Tryd.func37 rfl Tryd.ntmps37 rfl ?_
  refine CW.seq ?_
  refine CW.reg [0] rfl ?_   -- 0, field.go:18
  refine s_as 6 rfl rfl ?_
  refine SX.next ?_
  refine CW.seq ?_
  refine CW.reg [0, 1, 2, 3] rfl ?_   -- 1, field.go:19
  refine s_mv 9 rfl rfl ?_
  refine s_mv 10 rfl rfl ?_
  refine s_call1 11 rfl rfl rfl rfl (fun w hw => rlow_spec m _ _ hm) (fun _ _ => trivial) ?_
  refine s_as 1 rfl rfl ?_
  refine SX.next ?_
  refine CW.seq ?_
  refine CW.reg [0, 1, 2, 3] rfl ?_   -- 2, field.go:20
  refine s_mv 12 rfl rfl ?_
  refine s_mv 13 rfl rfl ?_
  refine s_call1 14 rfl rfl rfl rfl (fun w hw => rlow_spec m _ _ hm) (fun _ _ => trivial) ?_
  refine s_as 2 rfl rfl ?_
  refine SX.next ?_
  refine CW.seq ?_
  refine CW.reg [0, 1, 2] rfl ?_   -- 3, field.go:21
  refine s_mv 15 rfl rfl ?_
  refine s_call1 16 rfl rfl rfl rfl (fun w hw => rpoly_spec _ _ (by omega)) (fun _ _ => trivial) ?_
  refine s_as 7 rfl rfl ?_
  refine SX.next ?_
  refine CW.seq ?_
  refine CW.reg [0] rfl ?_   -- 4, field.go:22
  refine s_as 8 rfl rfl ?_
  refine SX.next ?_
  refine CW.seq ?_
  refine CW.block ?_
  refine CW.loop (G := Nat) (fun k => [(0, .int .i64 (m : Nat)), (1, .int .i64 (xtk m k (lo m a) : Nat)), (2, .int .i64 (lo m b >>> k : Nat)), (7, .int .i64 (polyI (m : Nat) : Nat)), (8, .int .i64 (gmk m (lo m a) (lo m b) k : Nat))]) (fun _ => Sto w []) (fun k => k ≤ m) (fun k => lo m b >>> k) 0 ⟨rfl, rfl, rfl, rfl, rfl, trivial⟩ (fun _ h => h) (Nat.zero_le _) ?_
  intro k hk
  have hak := xtk_lt hm k hx
  have hgk := gmk_lt hm hx (lo m b) k
  have hbk : lo m b >>> k < 2 ^ m := Nat.lt_of_le_of_lt (Nat.shiftRight_le _ _) hb
  refine CW.seq ?_
  refine CW.seq ?_
  refine CW.reg [0, 1] rfl ?_   -- 5, field.go:23
  refine s_mv 17 rfl rfl ?_
  refine s_gt 18 rfl rfl rfl rfl ?_
  refine SX.next ?_
  refine CW.test rfl (fun hc => ?_) (fun hc => ?_)
  · skip
    have hkm := shr_lt hb (k := k) (by omega)
    refine CW.skip ?_
    refine KN.code ?_
    refine CW.block ?_
    refine CW.cut (G := Unit) (fun _ => [(0, .int .i64 (m : Nat)), (1, .int .i64 (xtk m k (lo m a) : Nat)), (2, .int .i64 (lo m b >>> k : Nat)), (7, .int .i64 (polyI (m : Nat) : Nat)), (8, .int .i64 (gmk m (lo m a) (lo m b) (k + 1) : Nat))]) (fun _ => Sto w []) (fun _ => True) ?_ ?_
    · skip
      refine CW.seq ?_
      refine CW.reg [0, 1, 2] rfl ?_   -- 6, field.go:24
      refine s_mv 19 rfl rfl ?_
      refine s_bit 20 rfl rfl rfl rfl (ibit_and_one (by omega)) ?_
      refine s_eq 21 rfl rfl rfl rfl ?_
      refine SX.next ?_
      refine CW.test rfl (fun hc => ?_) (fun hc => ?_)
      · skip
        refine CW.reg [0, 1, 2, 3] rfl ?_   -- 7, field.go:25
        refine s_mv 22 rfl rfl ?_
        refine s_mv 23 rfl rfl ?_
        refine s_bit 24 rfl rfl rfl rfl (by rw [ibit_xor_nat (by omega) (by omega), ← gmk_odd hc]) ?_
        refine s_as 8 rfl rfl ?_
        refine SX.end_ ?_
        exact KN.join () ⟨rfl, rfl, rfl, rfl, rfl, trivial⟩ (fun _ h => h) trivial
      · skip
        refine CW.skip ?_
        exact KN.join () ⟨rfl, rfl, rfl, rfl, by rw [gmk_even hc]; rfl, trivial⟩ (fun _ h => h) trivial
    · skip
      intro _ _
      refine CW.seq ?_
      refine CW.reg [0, 1, 2] rfl ?_   -- 8, field.go:27
      refine s_mv 25 rfl rfl ?_
      refine s_shl 26 rfl rfl rfl (by omega) (r := ((2 * xtk m k (lo m a) : Nat) : Int)) (shl1 (by omega)) ?_
      refine s_as 1 rfl rfl ?_
      refine SX.next ?_
      refine CW.cut (G := Unit) (fun _ => [(0, .int .i64 (m : Nat)), (1, .int .i64 (xtk m (k + 1) (lo m a) : Nat)), (2, .int .i64 (lo m b >>> k : Nat)), (7, .int .i64 (polyI (m : Nat) : Nat)), (8, .int .i64 (gmk m (lo m a) (lo m b) (k + 1) : Nat))]) (fun _ => Sto w []) (fun _ => True) ?_ ?_
      · skip
        refine CW.seq ?_
        refine CW.reg [0, 1, 2, 3, 4, 5] rfl ?_   -- 9, field.go:28
        refine s_mv 27 rfl rfl ?_
        refine s_mv 28 rfl rfl ?_
        refine s_conv 29 rfl rfl (u64_nat hm) ?_
        refine s_shr 30 rfl rfl rfl (by omega) (shr_nat (by omega)) ?_
        refine s_bit 31 rfl rfl rfl rfl (ibit_and_one (Nat.lt_of_le_of_lt (Nat.shiftRight_le _ _) (by omega))) ?_
        refine s_eq 32 rfl rfl rfl rfl ?_
        refine SX.next ?_
        refine CW.test rfl (fun hc => ?_) (fun hc => ?_)
        · skip
          refine CW.reg [0, 1, 2, 3] rfl ?_   -- 10, field.go:29
          refine s_mv 33 rfl rfl ?_
          refine s_mv 34 rfl rfl ?_
          refine s_bit 35 rfl rfl rfl rfl (by rw [ibit_xor_nat (by omega) hpl, polyI_ok hm, ← xtk_hi hm hx hc]) ?_
          refine s_as 1 rfl rfl ?_
          refine SX.end_ ?_
          exact KN.join () ⟨rfl, rfl, rfl, rfl, rfl, trivial⟩ (fun _ h => h) trivial
        · skip
          refine CW.skip ?_
          exact KN.join () ⟨rfl, by rw [xtk_lo hm hx hc]; rfl, rfl, rfl, rfl, trivial⟩ (fun _ h => h) trivial
      · skip
        intro _ _
        refine CW.reg [0, 1, 2] rfl ?_   -- 11, field.go:31
        refine s_mv 36 rfl rfl ?_
        refine s_shr 37 rfl rfl rfl (by omega) (r := ((lo m b >>> (k + 1) : Nat) : Int)) (by rw [shr1, shr_succ]) ?_
        refine s_as 2 rfl rfl ?_
        refine SX.end_ ?_
        refine KN.blk ?_
        exact KN.back (k + 1) ⟨rfl, rfl, rfl, rfl, rfl, trivial⟩ (fun _ h => h) hkm (by rw [← shr_succ]; exact shr1_lt (by omega))
  · skip
    have hstop := gm_stop (m := m) (a := lo m a) (b := lo m b) (k := k) (eq0 hc) hk
    refine CW.exit rfl ?_
    refine KN.code ?_
    refine CW.seq ?_
    refine CW.reg [0, 1] rfl ?_   -- 12, field.go:33
    refine s_mv 38 rfl rfl ?_
    refine s_as 6 rfl rfl ?_
    refine SX.next ?_
    refine CW.ret ?_
    exact KN.ret (rs := [.tmp 6]) Tryd.results37 rfl (fun w hw => ⟨by rw [oneOf, hstop], hw⟩)

structure PowG (m a n : Nat) (q : Nat × Nat × Nat) : Prop where
  hx : q.1 < 2 ^ m
  ha : q.2.1 < 2 ^ m
  hn : q.2.2 < 2 ^ 63
  inv : gm m q.1 (fpw m q.2.1 q.2.2) = fpw m a n
theorem PowG.odd {m a n : Nat} (h : Ok m) {q : Nat × Nat × Nat} (hq : PowG m a n q) (hc : ((q.2.2 % 2 : Nat) : Int) = 1) : PowG m a n (gm m q.1 q.2.1, gm m q.2.1 q.2.1, q.2.2 >>> 1) := by
  obtain ⟨h1, h2, h3, h4⟩ := hq
  have e : q.2.2 = 1 + 2 * (q.2.2 >>> 1) := by rw [Nat.shiftRight_eq_div_pow]; omega
  refine ⟨gm_lt h h1 _, gm_lt h h2 _, Nat.lt_of_le_of_lt (Nat.shiftRight_le _ _) h3, ?_⟩
  have h5 : fpw m q.2.1 1 = q.2.1 := gm_one_left h h2
  show gm m (gm m q.1 q.2.1) (fpw m (gm m q.2.1 q.2.1) (q.2.2 >>> 1)) = _
  rw [← h4, fpw_sq h h2, gm_assoc h h1 h2 (fpw_lt h _ _)]
  conv => rhs; rw [e, fpw_add h h2, h5]
theorem PowG.even {m a n : Nat} (h : Ok m) {q : Nat × Nat × Nat} (hq : PowG m a n q) (hc : ¬ ((q.2.2 % 2 : Nat) : Int) = 1) : PowG m a n (q.1, gm m q.2.1 q.2.1, q.2.2 >>> 1) := by
  obtain ⟨h1, h2, h3, h4⟩ := hq
  have e : q.2.2 = 2 * (q.2.2 >>> 1) := by rw [Nat.shiftRight_eq_div_pow]; omega
  refine ⟨h1, gm_lt h h2 _, Nat.lt_of_le_of_lt (Nat.shiftRight_le _ _) h3, ?_⟩
  show gm m q.1 (fpw m (gm m q.2.1 q.2.1) (q.2.2 >>> 1)) = _
  rw [← h4, fpw_sq h h2]
  conv => rhs; rw [e]
theorem PowG.last {m a n : Nat} (h : Ok m) {q : Nat × Nat × Nat} (hq : PowG m a n q) (hc : ¬ 0 < q.2.2) : q.1 = fpw m a n := by
  obtain ⟨h1, h2, h3, h4⟩ := hq
  rw [show q.2.2 = 0 by omega] at h4
  rw [← h4]
  exact (gm_one_right h h1).symm
theorem mulz {m x y : Nat} {w : World} (hm : Ok m) (hx : x < 2 ^ m) (hy : y < 2 ^ m) : Spec1 Tryd.prog 37 [.int .i64 (m : Nat), .int .i64 (x : Nat), .int .i64 (y : Nat)] w (.int .i64 (gm m x y : Nat)) := by
  have := rmul_spec m (x : Nat) (y : Nat) w hm
  rw [lo_nat hx, lo_nat hy] at this
  exact this

theorem power_spec (m : Nat) (a : Int) (n : Nat) (w : World) (hm : Ok m) (hn : n < 2 ^ 63) : Spec1 Tryd.prog 82 [.int .i64 (m : Nat), .int .i64 a, .int .i64 (n : Nat)] w (.int .i64 (fpw m (lo m a) n : Nat)) := by
  have hp := N_pos hm
  have hlo := hm.lo
  have hhi := hm.hi
  have hN := N_succ m
  have hx := lo_lt m a
  have hle := pow_le14 hm
  refine spec_of Tryd.func82 rfl Tryd.ntmps82 rfl ?_
  refine CW.seq ?_
  refine CW.reg [0] rfl ?_   -- 0, field.go:37
  refine s_as 6 rfl rfl ?_
  refine SX.next ?_
  refine CW.seq ?_
  refine CW.reg [0] rfl ?_   -- 1, field.go:38
  refine s_as 7 rfl rfl ?_
  refine SX.next ?_
  refine CW.seq ?_
  refine CW.reg [0, 1, 2, 3] rfl ?_   -- 2, field.go:39
  refine s_mv 8 rfl rfl ?_
  refine s_mv 9 rfl rfl ?_
  refine s_call1 10 rfl rfl rfl rfl (fun w hw => rlow_spec m _ _ hm) (fun _ _ => trivial) ?_
  refine s_as 1 rfl rfl ?_
  refine SX.next ?_
  refine CW.seq ?_
  refine CW.block ?_
  refine CW.loop (G := Nat × Nat × Nat) (fun q => [(0, .int .i64 (m : Nat)), (1, .int .i64 (q.2.1 : Nat)), (2, .int .i64 (q.2.2 : Nat)), (7, .int .i64 (q.1 : Nat))]) (fun _ => Sto w []) (PowG m (lo m a) n) (fun q => q.2.2) (1, lo m a, n) ⟨rfl, rfl, rfl, rfl, trivial⟩ (fun _ h => h) ⟨one_lt hm, hx, hn, gm_one_left hm (fpw_lt hm _ _)⟩ ?_
  rintro ⟨x, y, k⟩ hq
  have hq1 := hq.hx
  have hq2 := hq.ha
  have hq3 := hq.hn
  simp only at hq1 hq2 hq3 ⊢
  refine CW.seq ?_
  refine CW.seq ?_
  refine CW.reg [0, 1] rfl ?_   -- 3, field.go:40
  refine s_mv 11 rfl rfl ?_
  refine s_gt 12 rfl rfl rfl rfl ?_
  refine SX.next ?_
  refine CW.test rfl (fun hc => ?_) (fun hc => ?_)
  · skip
    refine CW.skip ?_
    refine KN.code ?_
    refine CW.block ?_
    refine CW.cut (G := Nat) (fun z => [(0, .int .i64 (m : Nat)), (1, .int .i64 (y : Nat)), (2, .int .i64 (k : Nat)), (7, .int .i64 (z : Nat))]) (fun _ => Sto w []) (fun z => PowG m (lo m a) n (z, gm m y y, k >>> 1)) ?_ ?_
    · skip
      refine CW.seq ?_
      refine CW.reg [0, 1, 2] rfl ?_   -- 4, field.go:41
      refine s_mv 13 rfl rfl ?_
      refine s_bit 14 rfl rfl rfl rfl (ibit_and_one hq3) ?_
      refine s_eq 15 rfl rfl rfl rfl ?_
      refine SX.next ?_
      refine CW.test rfl (fun hc => ?_) (fun hc => ?_)
      · skip
        refine CW.reg [0, 1, 2, 3, 4] rfl ?_   -- 5, field.go:42
        refine s_mv 16 rfl rfl ?_
        refine s_mv 17 rfl rfl ?_
        refine s_mv 18 rfl rfl ?_
        refine s_call1 19 rfl rfl rfl rfl (fun w _ => mulz hm hq1 hq2) (fun _ _ => trivial) ?_
        refine s_as 7 rfl rfl ?_
        refine SX.end_ ?_
        exact KN.join _ ⟨rfl, rfl, rfl, rfl, trivial⟩ (fun _ h => h) (hq.odd hm hc)
      · skip
        refine CW.skip ?_
        exact KN.join _ ⟨rfl, rfl, rfl, rfl, trivial⟩ (fun _ h => h) (hq.even hm hc)
    · skip
      intro z hz
      refine CW.seq ?_
      refine CW.reg [0, 1, 2, 3, 4] rfl ?_   -- 6, field.go:44
      refine s_mv 20 rfl rfl ?_
      refine s_mv 21 rfl rfl ?_
      refine s_mv 22 rfl rfl ?_
      refine s_call1 23 rfl rfl rfl rfl (fun w _ => mulz hm hq2 hq2) (fun _ _ => trivial) ?_
      refine s_as 1 rfl rfl ?_
      refine SX.next ?_
      refine CW.reg [0, 1, 2] rfl ?_   -- 7, field.go:45
      refine s_mv 24 rfl rfl ?_
      refine s_shr 25 rfl rfl rfl (by omega) (r := ((k >>> 1 : Nat) : Int)) (shr1 k) ?_
      refine s_as 2 rfl rfl ?_
      refine SX.end_ ?_
      refine KN.blk ?_
      exact KN.back (z, gm m y y, k >>> 1) ⟨rfl, rfl, rfl, rfl, trivial⟩ (fun _ h => h) hz (shr1_lt (by omega))
  · skip
    refine CW.exit rfl ?_
    refine KN.code ?_
    refine CW.seq ?_
    refine CW.reg [0, 1] rfl ?_   -- 8, field.go:47
    refine s_mv 26 rfl rfl ?_
    refine s_as 6 rfl rfl ?_
    refine SX.next ?_
    refine CW.ret ?_
    exact KN.ret (rs := [.tmp 6]) Tryd.results82 rfl (fun w hw => ⟨by rw [oneOf, ← hq.last hm (by simp only; omega)], hw⟩)

theorem em_pos2 {m : Nat} (h : Ok m) (n : Int) : (n.tmod ((N m : Nat) : Int) + (N m : Nat)).tmod ((N m : Nat) : Int) = (em m n : Nat) := by
  have hp := N_pos h
  have hb := em_lt h n
  by_cases hc : n.tmod ((N m : Nat) : Int) < 0
  · rw [em_neg h hc]
    exact Int.tmod_eq_of_lt (by omega) (by omega)
  · rw [em_pos h hc]
    show (((em m n + N m) % N m : Nat) : Int) = _
    rw [Nat.add_mod_right, Nat.mod_eq_of_lt hb]
theorem lo_two {m : Nat} (h : Ok m) : lo m 2 = 2 := lo_nat (x := 2) (two_lt h)

theorem rpow_zero (m : Nat) (a n : Int) (w : World) (hm : Ok m) (h0 : lo m a = 0) : Spec1 Tryd.prog 71 [.int .i64 (m : Nat), .int .i64 a, .int .i64 n] w (.int .i64 (pw m (lo m a) n : Nat)) := by
  have hp := N_pos hm
  have hlo := hm.lo
  have hhi := hm.hi
  have hN := N_succ m
  have hx := lo_lt m a
  have hb := tmod_bd hm n
  refine spec_of Tryd.func71 rfl Tryd.ntmps71 rfl ?_
  refine CW.seq ?_
  refine CW.reg [0] rfl ?_   -- 0, field.go:51
  refine s_as 6 rfl rfl ?_
  refine SX.next ?_
  refine CW.seq ?_
  refine CW.reg [0, 1, 2, 3, 4] rfl ?_   -- 1, field.go:52
  refine s_mv 8 rfl rfl ?_
  refine s_conv 9 rfl rfl (u64_nat hm) ?_
  refine s_shl 10 rfl rfl rfl (by omega) (shl_one hm) ?_
  refine s_sub 11 rfl rfl rfl (r := (N m : Nat)) (by rw [sizem1]; exact w64 (by omega)) ?_
  refine s_as 7 rfl rfl ?_
  refine SX.next ?_
  refine CW.seq ?_
  refine CW.seq ?_
  refine CW.reg [0, 1, 2, 3] rfl ?_   -- 2, field.go:53
  refine s_mv 12 rfl rfl ?_
  refine s_mv 13 rfl rfl ?_
  refine s_call1 14 rfl rfl rfl rfl (fun w hw => rlow_spec m _ _ hm) (fun _ _ => trivial) ?_
  refine s_eq 15 rfl rfl rfl (decide_eq_true (by omega)) ?_
  refine SX.next ?_
  refine CW.condT rfl ?_
  refine CW.seq ?_
  refine CW.seq ?_
  refine CW.reg [0, 1] rfl ?_   -- 3, field.go:54
  refine s_mv 16 rfl rfl ?_
  refine s_eq 17 rfl rfl rfl rfl ?_
  refine SX.next ?_
  refine CW.test rfl (fun hc => ?_) (fun hc => ?_)
  · skip
    refine CW.seq ?_
    refine CW.reg [0] rfl ?_   -- 4, field.go:55
    refine s_as 6 rfl rfl ?_
    refine SX.next ?_
    refine CW.ret ?_
    exact KN.ret (rs := [.tmp 6]) Tryd.results71 rfl (fun w hw => ⟨by rw [pw_zero h0, if_pos hc]; rfl, hw⟩)
  · skip
    refine CW.skip ?_
    refine KN.code ?_
    refine CW.seq ?_
    refine CW.reg [0] rfl ?_   -- 5, field.go:57
    refine s_as 6 rfl rfl ?_
    refine SX.next ?_
    refine CW.ret ?_
    exact KN.ret (rs := [.tmp 6]) Tryd.results71 rfl (fun w hw => ⟨by rw [pw_zero h0, if_neg hc]; rfl, hw⟩)

theorem rpow_some (m : Nat) (a n : Int) (w : World) (hm : Ok m) (h0 : lo m a ≠ 0) : Spec1 Tryd.prog 71 [.int .i64 (m : Nat), .int .i64 a, .int .i64 n] w (.int .i64 (pw m (lo m a) n : Nat)) := by
  have hp := N_pos hm
  have hlo := hm.lo
  have hhi := hm.hi
  have hN := N_succ m
  have hx := lo_lt m a
  have hb := tmod_bd hm n
  refine spec_of Tryd.func71 rfl Tryd.ntmps71 rfl ?_
  refine CW.seq ?_
  refine CW.reg [0] rfl ?_   -- 0, field.go:51
  refine s_as 6 rfl rfl ?_
  refine SX.next ?_
  refine CW.seq ?_
  refine CW.reg [0, 1, 2, 3, 4] rfl ?_   -- 1, field.go:52
  refine s_mv 8 rfl rfl ?_
  refine s_conv 9 rfl rfl (u64_nat hm) ?_
  refine s_shl 10 rfl rfl rfl (by omega) (shl_one hm) ?_
  refine s_sub 11 rfl rfl rfl (r := (N m : Nat)) (by rw [sizem1]; exact w64 (by omega)) ?_
  refine s_as 7 rfl rfl ?_
  refine SX.next ?_
  refine CW.seq ?_
  refine CW.seq ?_
  refine CW.reg [0, 1, 2, 3] rfl ?_   -- 2, field.go:53
  refine s_mv 12 rfl rfl ?_
  refine s_mv 13 rfl rfl ?_
  refine s_call1 14 rfl rfl rfl rfl (fun w hw => rlow_spec m _ _ hm) (fun _ _ => trivial) ?_
  refine s_eq 15 rfl rfl rfl (decide_eq_false (by omega)) ?_
  refine SX.next ?_
  refine CW.condF rfl ?_
  refine CW.skip ?_
  refine KN.code ?_
  refine CW.seq ?_
  refine CW.reg [0, 1, 2, 3, 4, 5, 6, 7, 8, 9, 10] rfl ?_   -- 6, field.go:59
  refine s_mv 18 rfl rfl ?_
  refine s_mv 19 rfl rfl ?_
  refine s_mv 20 rfl rfl ?_
  refine s_mv 21 rfl rfl ?_
  refine s_rem 22 rfl rfl rfl (by omega) rfl ?_
  refine s_mv 23 rfl rfl ?_
  refine s_add 24 rfl rfl rfl (w64 (by omega)) ?_
  refine s_mv 25 rfl rfl ?_
  refine s_rem 26 rfl rfl rfl (by omega) (em_pos2 hm n) ?_
  refine s_call1 27 rfl rfl rfl rfl (v := .int .i64 (pw m (lo m a) n : Nat)) (fun w _ => by rw [pw_fpw hm hx h0]; exact power_spec m _ _ _ hm (by have := em_lt hm n; omega)) (fun _ _ => trivial) ?_
  refine s_as 6 rfl rfl ?_
  refine SX.next ?_
  refine CW.ret ?_
  exact KN.ret (rs := [.tmp 6]) Tryd.results71 rfl (fun w hw => ⟨rfl, hw.nothing⟩)

theorem rpow_spec (m : Nat) (a n : Int) (w : World) (hm : Ok m) : Spec1 Tryd.prog 71 [.int .i64 (m : Nat), .int .i64 a, .int .i64 n] w (.int .i64 (pw m (lo m a) n : Nat)) := by
  by_cases h0 : lo m a = 0
  · exact rpow_zero m a n w hm h0
  · exact rpow_some m a n w hm h0

theorem rinv_spec (m : Nat) (a : Int) (w : World) (hm : Ok m) (h0 : lo m a ≠ 0) : Spec1 Tryd.prog 49 [.int .i64 (m : Nat), .int .i64 a] w (.int .i64 (inv m (lo m a) : Nat)) := by
  have hp := N_pos hm
  have hlo := hm.lo
  have hhi := hm.hi
  have hN := N_succ m
  have hx := lo_lt m a
  refine spec_of Tryd.func49 rfl Tryd.ntmps49 rfl ?_
  refine CW.seq ?_
  refine CW.reg [0] rfl ?_   -- 0, field.go:63
  refine s_as 4 rfl rfl ?_
  refine SX.next ?_
  refine CW.seq ?_
  refine CW.reg [0, 1, 2, 3, 4, 5, 6, 7] rfl ?_   -- 1, field.go:63
  refine s_mv 5 rfl rfl ?_
  refine s_mv 6 rfl rfl ?_
  refine s_mv 7 rfl rfl ?_
  refine s_conv 8 rfl rfl (u64_nat hm) ?_
  refine s_shl 9 rfl rfl rfl (by omega) (shl_one hm) ?_
  refine s_sub 10 rfl rfl rfl (r := ((N m - 1 : Nat) : Int)) (by rw [show ((N m + 1 : Nat) : Int) - 2 = ((N m - 1 : Nat) : Int) by omega]; exact w64 (by omega)) ?_
  refine s_call1 11 rfl rfl rfl rfl (v := .int .i64 (inv m (lo m a) : Nat)) (fun w _ => by rw [inv_fpw hm hx h0]; exact power_spec m _ _ _ hm (by omega)) (fun _ _ => trivial) ?_
  refine s_as 4 rfl rfl ?_
  refine SX.next ?_
  refine CW.ret ?_
  exact KN.ret (rs := [.tmp 4]) Tryd.results49 rfl (fun w hw => ⟨rfl, hw.nothing⟩)

theorem rexp_spec (m : Nat) (n : Int) (w : World) (hm : Ok m) : Spec1 Tryd.prog 31 [.int .i64 (m : Nat), .int .i64 n] w (.int .i64 (ex m (em m n) : Nat)) := by
  refine spec_of Tryd.func31 rfl Tryd.ntmps31 rfl ?_
  refine CW.seq ?_
  refine CW.reg [0] rfl ?_   -- 0, field.go:66
  refine s_as 4 rfl rfl ?_
  refine SX.next ?_
  refine CW.seq ?_
  refine CW.reg [0, 1, 2, 3] rfl ?_   -- 1, field.go:66
  refine s_mv 5 rfl rfl ?_
  refine s_mv 6 rfl rfl ?_
  refine s_call1 7 rfl rfl rfl rfl (v := .int .i64 (ex m (em m n) : Nat)) (fun w _ => by have := rpow_spec m 2 n w hm; rw [lo_two hm, pw_two hm] at this; exact this) (fun _ _ => trivial) ?_
  refine s_as 4 rfl rfl ?_
  refine SX.next ?_
  refine CW.ret ?_
  exact KN.ret (rs := [.tmp 4]) Tryd.results31 rfl (fun w hw => ⟨rfl, hw.nothing⟩)
