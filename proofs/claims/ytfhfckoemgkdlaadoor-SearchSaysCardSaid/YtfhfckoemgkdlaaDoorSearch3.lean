/- Package search where its memory is the caller's own: the iterator, Steps; the document's Search. Conditions: the field was made by New. -/
import Derived.Test.YtfhfckoemgkdlaaDoorSearch2
import Derived.Test.YtfhfckoemgkdlaaDoorRf4
import Derived.Test.YtfhfckoemgkdlaaDoorRpoly
namespace Go.Proofs.YtfhfckoemgkdlaaDoor
open Go Go.Sx Go.Fm
set_option maxRecDepth 100000

theorem chienItB (g m b : Nat) (A : Option Addr) (c : Nat) (a : List Nat) (z : Int) (w : World) (hm : Ok m) (hn : a.length ≤ 4294967296) (hal : ∀ x ∈ a, x < 2 ^ m) (hz : z ≤ 65536) : IterC Tryd.prog w 87 [.pointer (some ⟨b, 0, none⟩)] [blk b 76 #[.pointer (some ⟨g, 0, none⟩), .slice A a.length c, .int .i64 z], own 3 1 A a.length c (nats .i64 a), fieldA g m] (fun i => [.int .i64 (i : Nat), .int .i64 (sfF m a i a.length : Nat)]) z.toNat := by
  intro lr J Jx R w1 hY hw
  have h14 := pow_le14 hm
  refine calls_ofI Tryd.func87 rfl Tryd.ntmps87 rfl (C := Sto w [J 0, blk b 76 #[.pointer (some ⟨g, 0, none⟩), .slice A a.length c, .int .i64 z], own 3 1 A a.length c (nats .i64 a), fieldA g m, R]) hw ?_
  refine CWI.seq ?_
  refine CWI.reg [0, 1, 2, 3] rfl (by kernel_rfl) ?_   -- 0, search.go:28
  refine SXI.of (fun _ hK => s_fa 8 rfl rfl (SX.done hK)) ?_
  refine SXI.of (fun _ hK => s_ld 9 rfl rfl (fun _ h => h.blkCell (i := 1) (j := 1) rfl rfl) (SX.done hK)) ?_
  refine SXI.of2 (fun _ hK => s_app0 10 (m2 := a.length) (sz := 1) rfl rfl rfl (ys := nats .i64 a) (fun w hw => (hw.has (i := 2) rfl).of_own) (nats_one _ _) rfl (by omega) (by unfold maxLen; omega) (by omega) (fun _ _ _ _ => trivial) (fun x y hx => SX.done (hK x y hx))) (fun A2 c2 hc2 => ?_)
  refine SXI.of (fun _ hK => s_as 3 rfl rfl (SX.done hK)) ?_
  refine SXI.next ?_
  refine CWI.seq ?_
  refine CWI.reg [0, 1, 2, 3] rfl (by kernel_rfl) ?_   -- 1, search.go:29
  refine SXI.of (fun _ hK => s_fa 11 rfl rfl (SX.done hK)) ?_
  refine SXI.of (fun _ hK => s_ld 12 rfl rfl (fun _ h => h.blkCell (i := 2) (j := 2) rfl rfl) (SX.done hK)) ?_
  refine SXI.of (fun _ hK => s_max 13 rfl rfl rfl (r := (z.toNat : Int)) (by split <;> omega) (SX.done hK)) ?_
  refine SXI.of (fun _ hK => s_mv 14 rfl rfl (SX.done hK)) ?_
  refine SXI.next ?_
  refine CWI.block ?_
  refine CWI.loop (G := Nat) (fun _ => []) (fun i => [(0, .func (.yield lr) #[] #[]), (1, .pointer (some ⟨b, 0, none⟩)), (3, .slice A2 a.length c2), (13, .int .i64 (z.toNat : Int)), (14, .int .i64 (i : Nat))]) (fun i => Sto w [own 3 1 A2 a.length c2 (ints .i64 (tab a.length (fun k => (tfF m a i k : Nat)))), J i, blk b 76 #[.pointer (some ⟨g, 0, none⟩), .slice A a.length c, .int .i64 z], own 3 1 A a.length c (nats .i64 a), fieldA g m, R]) (fun i => i ≤ z.toNat) (fun i => z.toNat - i) 0 rfl ⟨rfl, rfl, rfl, rfl, rfl, trivial⟩ (fun _ h => by rw [mx_start]; exact h) (Nat.zero_le _) ?_
  intro i hi
  refine CWI.seq ?_
  refine CWI.reg [0] rfl (by kernel_rfl) ?_   -- 2, search.go:29
  refine SXI.of (fun _ hK => s_lt 15 rfl rfl rfl rfl (SX.done hK)) ?_
  refine SXI.next ?_
  refine CWI.seq ?_
  refine CWI.test rfl (fun hc => ?_) (fun hc => ?_)
  · skip
    refine CWI.skip ?_
    refine KNI.code ?_
    refine CWI.seq ?_
    refine CWI.block ?_
    refine CWI.seq ?_
    refine CWI.reg [0, 1] rfl (by kernel_rfl) ?_   -- 3, search.go:29
    refine SXI.of (fun _ hK => s_mv 16 rfl rfl (SX.done hK)) ?_
    refine SXI.of (fun _ hK => s_as 4 rfl rfl (SX.done hK)) ?_
    refine SXI.next ?_
    refine CWI.seq ?_
    refine CWI.reg [0] rfl (by kernel_rfl) ?_   -- 4, search.go:30
    refine SXI.of (fun _ hK => s_as 5 rfl rfl (SX.done hK)) ?_
    refine SXI.next ?_
    refine CWI.seq ?_
    refine CWI.seq ?_
    refine CWI.reg [0, 1, 2] rfl (by kernel_rfl) ?_   -- 5, search.go:31
    refine SXI.of (fun _ hK => s_mv 17 rfl rfl (SX.done hK)) ?_
    refine SXI.of (fun _ hK => s_len 18 rfl rfl (SX.done hK)) ?_
    refine SXI.of (fun _ hK => s_mv 19 rfl rfl (SX.done hK)) ?_
    refine SXI.next ?_
    refine CWI.block ?_
    refine CWI.loop (G := Nat) (fun _ => []) (fun j => [(0, .func (.yield lr) #[] #[]), (1, .pointer (some ⟨b, 0, none⟩)), (3, .slice A2 a.length c2), (4, .int .i64 (i : Nat)), (5, .int .i64 (sfF m a i j : Nat)), (13, .int .i64 (z.toNat : Int)), (14, .int .i64 (i : Nat)), (17, .slice A2 a.length c2), (18, .int .i64 (a.length : Nat)), (19, .int .i64 (j : Nat))]) (fun j => Sto w [own 3 1 A2 a.length c2 (ints .i64 (tab a.length (fun k => (mxF m a i j k : Nat)))), J i, blk b 76 #[.pointer (some ⟨g, 0, none⟩), .slice A a.length c, .int .i64 z], own 3 1 A a.length c (nats .i64 a), fieldA g m, R]) (fun j => j ≤ a.length) (fun j => a.length - j) 0 rfl ⟨rfl, rfl, rfl, rfl, rfl, rfl, rfl, rfl, rfl, rfl, trivial⟩ (fun _ h => by rw [mx_zero]; exact h) (Nat.zero_le _) ?_
    intro j hj
    have ht := tfF_lt hm hal i j
    have hs := sfF_lt hm hal i j
    refine CWI.seq ?_
    refine CWI.reg [0] rfl (by kernel_rfl) ?_   -- 6, search.go:31
    refine SXI.of (fun _ hK => s_lt 20 rfl rfl rfl rfl (SX.done hK)) ?_
    refine SXI.next ?_
    refine CWI.seq ?_
    refine CWI.test rfl (fun hc => ?_) (fun hc => ?_)
    · skip
      refine CWI.skip ?_
      refine KNI.code ?_
      refine CWI.seq ?_
      refine CWI.block ?_
      refine CWI.seq ?_
      refine CWI.reg [0, 1, 2, 3, 4] rfl (by kernel_rfl) ?_   -- 7, search.go:31
      refine SXI.of (fun _ hK => s_mv 21 rfl rfl (SX.done hK)) ?_
      refine SXI.of (fun _ hK => s_iaO 22 0 j rfl rfl rfl rfl rfl (by omega) (SX.done hK)) ?_
      refine SXI.of (fun _ hK => s_ldO 23 0 rfl rfl rfl (v := .int .i64 (tfF m a i j : Nat)) (by rw [tab_at (by omega)]; simp [mxF]) (SX.done hK)) ?_
      refine SXI.of (fun _ hK => s_as 6 rfl rfl (SX.done hK)) ?_
      refine SXI.of (fun _ hK => s_as 7 rfl rfl (SX.done hK)) ?_
      refine SXI.next ?_
      refine CWI.seq ?_
      refine CWI.reg [0, 1, 2, 3] rfl (by kernel_rfl) ?_   -- 8, search.go:32
      refine SXI.of (fun _ hK => s_mv 24 rfl rfl (SX.done hK)) ?_
      refine SXI.of (fun _ hK => s_mv 25 rfl rfl (SX.done hK)) ?_
      refine SXI.of (fun _ hK => s_bit 26 rfl rfl rfl rfl (ibit_xor_nat (Nat.lt_of_lt_of_le hs (by omega)) (Nat.lt_of_lt_of_le ht (by omega))) (SX.done hK)) ?_
      refine SXI.of (fun _ hK => s_as 5 rfl rfl (SX.done hK)) ?_
      refine SXI.next ?_
      refine CWI.regD (.st true 0 (.st true 1 (.st true 2 (.st true 3 (.st true 4 (.st true 5 (.st true 6 (.st true 7 (.st true 8 (.st false 9 (.st false 10 (.st true 11 (.st false 12 .done))))))))))))) (Sto w [blk b 76 #[.pointer (some ⟨g, 0, none⟩), .slice A a.length c, .int .i64 z]]) mixed (by kernel_rfl) (fun _ h => h.drew) (fun _ h => h.pick [2] rfl) ?_
      refine SXI.of (fun _ hK => s_mv 27 rfl rfl (SX.done hK)) ?_
      refine SXI.of (fun _ hK => s_mv 28 rfl rfl (SX.done hK)) ?_
      refine SXI.of (fun _ hK => s_fa 29 rfl rfl (SX.done hK)) ?_
      refine SXI.of (fun _ hK => s_ldS 30 rfl rfl (fun _ h => h.blkCell (i := 0) (j := 0) rfl rfl) (SX.done hK)) ?_
      refine SXI.of (fun _ hK => s_mv 31 rfl rfl (SX.done hK)) ?_
      refine SXI.of (fun _ hK => s_fa 32 rfl rfl (SX.done hK)) ?_
      refine SXI.of (fun _ hK => s_ldS 33 rfl rfl (fun _ h => h.blkCell (i := 0) (j := 0) rfl rfl) (SX.done hK)) ?_
      refine SXI.of (fun _ hK => s_mv 34 rfl rfl (SX.done hK)) ?_
      refine SXI.of (fun _ hK => s_neg 35 rfl rfl (w64 (by omega)) (SX.done hK)) ?_
      refine SXI.of (fun _ hK => s_call1 36 rfl rfl rfl rfl (fun w hw => exp_spec g m _ w hm (hw.has (i := 4) rfl)) (fun _ h => h.pick [2] rfl) (SX.done hK)) ?_
      refine SXI.of (fun _ hK => s_call1 37 rfl rfl rfl rfl (fun w hw => mulE g m (tfF m a i j) _ w hm (hw.has (i := 4) rfl) ht) (fun _ h => h.pick [2] rfl) (SX.done hK)) ?_
      refine SXI.of (fun _ hK => s_iaO 38 0 j rfl rfl rfl rfl rfl (by omega) (SX.done hK)) ?_
      refine SXI.of (fun _ hK => s_stO 0 rfl rfl rfl rfl rfl (by omega) (fun _ h => h.pick [2] rfl) (SX.done hK)) ?_
      refine SXI.end_ ?_
      refine KNI.blk ?_
      refine KNI.code ?_
      refine CWI.reg [0, 1] rfl (by kernel_rfl) ?_   -- 10, search.go:31
      refine SXI.of (fun _ hK => s_add 39 rfl rfl rfl (r := ((j + 1 : Nat) : Int)) (w64 (by omega)) (SX.done hK)) ?_
      refine SXI.of (fun _ hK => s_mv 19 rfl rfl (SX.done hK)) ?_
      refine SXI.end_ ?_
      exact KNI.back (j + 1) rfl ⟨rfl, rfl, rfl, rfl, rfl, rfl, rfl, rfl, rfl, rfl, trivial⟩ (fun _ h => by rw [← mx_next, ← tab_setL]; exact h) (by omega) (by omega)
    · skip
      obtain rfl : j = a.length := by omega
      refine CWI.exit rfl ?_
      refine KNI.code ?_
      refine CWI.seq ?_
      refine CWI.reg [0, 1, 2, 3, 4] rfl (by kernel_rfl) ?_   -- 11, search.go:35
      refine SXI.of (fun _ hK => s_mv 40 rfl rfl (SX.done hK)) ?_
      refine SXI.of (fun _ hK => s_mv 41 rfl rfl (SX.done hK)) ?_
      refine SXI.of (fun _ hK => s_mv 42 rfl rfl (SX.done hK)) ?_
      refine s_yield 43 1 hY (by omega) rfl rfl rfl rfl (fun _ _ _ => trivial) ?_ ?_
      · skip
        refine SXI.of (fun _ hK => s_not 44 rfl rfl (SX.done hK)) ?_
        refine SXI.next ?_
        refine CWI.condF rfl ?_
        refine CWI.skip ?_
        refine KNI.blk ?_
        refine KNI.code ?_
        refine CWI.reg [0, 1] rfl (by kernel_rfl) ?_   -- 12, search.go:29
        refine SXI.of (fun _ hK => s_add 45 rfl rfl rfl (r := ((i + 1 : Nat) : Int)) (w64 (by omega)) (SX.done hK)) ?_
        refine SXI.of (fun _ hK => s_mv 14 rfl rfl (SX.done hK)) ?_
        refine SXI.end_ ?_
        exact KNI.back (i + 1) rfl ⟨rfl, rfl, rfl, rfl, rfl, trivial⟩ (fun _ h => by rw [← mx_all]; exact h.pick [1, 0, 0, 0, 0, 0] rfl) (by omega) (by omega)
      · skip
        refine SXI.of (fun _ hK => s_not 44 rfl rfl (SX.done hK)) ?_
        refine SXI.next ?_
        refine CWI.condT rfl ?_
        refine CWI.ret ?_
        exact retM (rs := []) (vs := []) (L := [Jx (i + 1), blk b 76 #[.pointer (some ⟨g, 0, none⟩), .slice A a.length c, .int .i64 z], own 3 1 A a.length c (nats .i64 a), fieldA g m, R]) [] rfl Tryd.results87 rfl (fun _ h => h.pick [0, 1, 1, 1, 1] rfl) (fun w hw => ⟨_, rfl, .inr ⟨i, by omega, hw⟩⟩)
  · skip
    obtain rfl : i = z.toNat := by omega
    refine CWI.exit rfl ?_
    exact ⟨retM (rs := []) (vs := []) (L := [J z.toNat, blk b 76 #[.pointer (some ⟨g, 0, none⟩), .slice A a.length c, .int .i64 z], own 3 1 A a.length c (nats .i64 a), fieldA g m, R]) [] rfl Tryd.results87 rfl (fun _ h => h.pick [1, 1, 1, 1, 1] rfl) (fun w hw => ⟨_, rfl, .inl hw⟩)⟩

theorem steps_spec (g m : Nat) (A : Option Addr) (c : Nat) (l : List Int) (z : Int) (w : World) (hm : Ok m) (hf : Has (fieldA g m) w) (ha : Has (sl 1 A l.length (ints .i64 l)) w) (hn : l.length ≤ 2048) (hcp : l.length ≤ c) : SpecX Tryd.prog 29 [.pointer (some ⟨g, 0, none⟩), .slice A l.length c, .int .i64 z] w (X := Nat × Option Addr × Nat) (fun q => .func (.func 87) #[] #[.pointer (some ⟨q.1, 0, none⟩)]) (fun q => (trim (lowL m l)).length ≤ q.2.2) (fun q => [blk q.1 76 #[.pointer (some ⟨g, 0, none⟩), .slice q.2.1 (trim (lowL m l)).length q.2.2, .int .i64 (min z (N m : Nat))], own 3 1 q.2.1 (trim (lowL m l)).length q.2.2 (nats .i64 (trim (lowL m l)))]) := by
  have htk : l.take 2048 = l := List.take_of_length_le hn
  refine spec_of Tryd.func29 rfl Tryd.ntmps29 rfl ?_
  refine CW.seq ?_
  refine CW.reg [0] rfl ?_   -- 0, search.go:72
  refine s_as 6 rfl rfl ?_
  refine SX.next ?_
  refine CW.seq ?_
  refine CW.reg [0, 1, 2, 3, 4, 5] rfl ?_   -- 1, search.go:72
  refine s_mv 7 rfl rfl ?_
  refine s_mv 8 rfl rfl ?_
  refine s_mv 9 rfl rfl ?_
  refine s_call 10 rfl rfl rfl rfl (fun w hw => by have := begun_spec g m A c l z w hm (hw.old hf) (hw.old ha) (by omega) hcp; rw [htk] at this; exact this) (fun _ _ => trivial) (fun q hq => ?_)
  refine s_call 11 rfl rfl rfl rfl (fun w hw => chien_spec _ _ _ w) (fun _ _ => trivial) (fun b _ => ?_)
  refine s_as 6 rfl rfl ?_
  refine SX.next ?_
  refine CW.ret ?_
  exact KN.ret (rs := [.tmp 6]) Tryd.results29 rfl (fun w hw => ⟨(b, q), rfl, hq, hw⟩)

theorem revalE (m : Nat) (A : Option Addr) (n c : Nat) (l : List Int) (k : Int) (w : World) (hm : Ok m) (ha : Has (sl 1 A n (ints .i64 l)) w) (hn : n ≤ 4294967296) : Spec1 Tryd.prog 30 [.int .i64 (m : Nat), .slice A n c, .int .i64 (ex m (em m k) : Nat)] w (.int .i64 (evL m (lowL m l) (ex m (em m k)) : Nat)) := by
  have := reval_spec m A n c l (ex m (em m k) : Nat) w hm ha hn
  rw [lo_nat (ex_lt hm _).2] at this
  exact this
theorem inv_two {m : Nat} (hm : Ok m) : inv m 2 = exz m (-1) := by unfold inv exz; rw [lg_two hm]; rfl
theorem back_two {m : Nat} (hm : Ok m) (i : Nat) : gm m (ex m (em m (0 - (i : Int)))) (inv m 2) = ex m (em m (0 - ((i + 1 : Nat) : Int))) := by
  rw [inv_two hm, show ex m (em m (0 - (i : Int))) = exz m (0 - (i : Int)) from rfl, exz_add hm, show (0 - (i : Int)) + -1 = 0 - ((i + 1 : Nat) : Int) by omega]; rfl
noncomputable def bxE (m : Nat) : Nat → Nat
  | 0 => 1
  | i + 1 => gm m (bxE m i) (inv m 2)
theorem bxE_eq {m : Nat} (hm : Ok m) : ∀ i : Nat, bxE m i = ex m (em m (0 - (i : Int)))
  | 0 => (exz_zero hm).symm
  | i + 1 => by rw [← back_two hm i, ← bxE_eq hm i]; rfl
theorem bxE_lt {m : Nat} (hm : Ok m) (i : Nat) : bxE m i < 2 ^ m := by rw [bxE_eq hm]; exact (ex_lt hm _).2
theorem rinv2 (m : Nat) (w : World) (hm : Ok m) : Spec1 Tryd.prog 49 [.int .i64 (m : Nat), .int .i64 2] w (.int .i64 (inv m 2 : Nat)) := by
  have := rinv_spec m 2 w hm (by rw [lo_two hm]; decide)
  rw [lo_two hm] at this
  exact this

theorem rsearch_spec (m : Nat) (A : Option Addr) (c : Nat) (l : List Int) (z : Int) (w : World) (hm : Ok m) (ha : Has (sl 1 A l.length (ints .i64 l)) w) (hn : l.length ≤ 2048) (hcp : l.length ≤ c) : SpecL Tryd.prog 28 [.int .i64 (m : Nat), .slice A l.length c, .int .i64 z] w (zerosN (plc m (lowL m l)) (min z (N m : Nat)).toNat) := by
  have h14 := pow_le14 hm
  have hNs := N_succ m
  refine spec_of Tryd.func28 rfl Tryd.ntmps28 rfl ?_
  refine CW.seq ?_
  refine CW.reg [0] rfl ?_   -- 0, code.go:185
  refine s_as 6 rfl rfl ?_
  refine SX.next ?_
  refine CW.seq ?_
  refine CW.reg [0, 1, 2, 3, 4, 5] rfl ?_   -- 1, code.go:186
  refine s_mv 11 rfl rfl ?_
  refine s_mv 12 rfl rfl ?_
  refine s_len 13 rfl rfl ?_
  refine s_min 14 rfl rfl rfl (r := ((l.length : Nat) : Int)) (by split <;> omega) ?_
  refine s_slH 15 l.length rfl rfl rfl rfl (by omega) ?_
  refine s_as 1 rfl rfl ?_
  refine SX.next ?_
  refine CW.seq ?_
  refine CW.reg [0] rfl ?_   -- 2, code.go:187
  refine s_as 7 rfl rfl ?_
  refine SX.next ?_
  refine CW.seq ?_
  refine CW.reg [0] rfl ?_   -- 3, code.go:188
  refine s_as 8 rfl rfl ?_
  refine SX.next ?_
  refine CW.seq ?_
  refine CW.reg [0, 1, 2] rfl ?_   -- 4, code.go:189
  refine s_mv 16 rfl rfl ?_
  refine s_call1 17 rfl rfl rfl rfl (fun w hw => rinv2 m w hm) (fun _ _ => trivial) ?_
  refine s_as 9 rfl rfl ?_
  refine SX.next ?_
  refine CW.seq ?_
  refine CW.seq ?_
  refine CW.reg [0] rfl ?_   -- 5, code.go:190
  refine s_as 10 rfl rfl ?_
  refine SX.next ?_
  refine CW.block ?_
  refine CW.loop (G := Nat × Option Addr × Nat) (fun q => [(0, .int .i64 (m : Nat)), (1, .slice A l.length c), (2, .int .i64 z), (7, .slice q.2.1 (zerosN (plc m (lowL m l)) q.1).length q.2.2), (8, .int .i64 (bxE m q.1 : Nat)), (9, .int .i64 (inv m 2 : Nat)), (10, .int .i64 (q.1 : Nat))]) (fun q => Sto w [own 3 1 q.2.1 (zerosN (plc m (lowL m l)) q.1).length q.2.2 (nats .i64 (zerosN (plc m (lowL m l)) q.1))]) (fun q => q.1 ≤ (min z (N m : Nat)).toNat ∧ (zerosN (plc m (lowL m l)) q.1).length ≤ q.2.2) (fun q => (min z (N m : Nat)).toNat - q.1) (0, none, 0) ⟨rfl, rfl, rfl, rfl, rfl, rfl, rfl, trivial⟩ (fun _ h => h.begin_ 3 1) ⟨Nat.zero_le _, Nat.le_refl _⟩ ?_
  rintro q ⟨hq, hqc⟩
  have hzl := zerosN_len (plc m (lowL m l)) q.1
  refine CW.seq ?_
  refine CW.seq ?_
  refine CW.reg [0, 1, 2, 3, 4, 5, 6, 7] rfl ?_   -- 6, code.go:190
  refine s_mv 18 rfl rfl ?_
  refine s_mv 19 rfl rfl ?_
  refine s_mv 20 rfl rfl ?_
  refine s_conv 21 rfl rfl (u64_nat hm) ?_
  refine s_shl 22 rfl rfl rfl (by have := hm.hi; omega) (shl_one hm) ?_
  refine s_sub 23 rfl rfl rfl (r := ((N m : Nat) : Int)) (by rw [show ((N m + 1 : Nat) : Int) - 1 = ((N m : Nat) : Int) by omega]; exact w64 (by omega)) ?_
  refine s_min 24 rfl rfl rfl (r := min z (N m : Nat)) (by split <;> omega) ?_
  refine s_lt 25 rfl rfl rfl rfl ?_
  refine SX.next ?_
  refine CW.test rfl (fun hc => ?_) (fun hc => ?_)
  · skip
    refine CW.skip ?_
    refine KN.code ?_
    refine CW.seq ?_
    refine CW.block ?_
    refine CW.cut (G := Option Addr × Nat) (fun p => [(0, .int .i64 (m : Nat)), (1, .slice A l.length c), (2, .int .i64 z), (7, .slice p.1 (zerosN (plc m (lowL m l)) (q.1 + 1)).length p.2), (8, .int .i64 (bxE m q.1 : Nat)), (9, .int .i64 (inv m 2 : Nat)), (10, .int .i64 (q.1 : Nat))]) (fun p => Sto w [own 3 1 p.1 (zerosN (plc m (lowL m l)) (q.1 + 1)).length p.2 (nats .i64 (zerosN (plc m (lowL m l)) (q.1 + 1)))]) (fun p => (zerosN (plc m (lowL m l)) (q.1 + 1)).length ≤ p.2) ?_ ?_
    · skip
      refine CW.seq ?_
      refine CW.reg [0, 1, 2, 3, 4] rfl ?_   -- 8, code.go:191
      refine s_mv 28 rfl rfl ?_
      refine s_mv 29 rfl rfl ?_
      refine s_mv 30 rfl rfl ?_
      refine s_call1 31 rfl rfl rfl rfl (fun w hw => by have := revalE m A l.length c l (0 - ((q.1 : Nat) : Int)) w hm (hw.old ha) (by omega); rw [← bxE_eq hm] at this; exact this) (fun _ _ => trivial) ?_
      refine s_eq 32 rfl rfl rfl rfl ?_
      refine SX.next ?_
      refine CW.test rfl (fun hc => ?_) (fun hc => ?_)
      · skip
        have hnx := zerosN_yes (v := (plc m (lowL m l))) (i := q.1) (by have := hc; rw [bxE_eq hm] at this; unfold plc; omega)
        refine CW.reg [0, 1, 2, 3, 4] rfl ?_   -- 9, code.go:192
        refine s_mv 33 rfl rfl ?_
        refine s_mv 34 rfl rfl ?_
        refine s_bsl 35 rfl rfl (cells := #[.int .i64 (q.1 : Nat)]) (by kernel_rfl) rfl (fun _ _ => trivial) (fun gb => ?_)
        refine s_app 36 1 rfl rfl rfl rfl (ys := [.int .i64 (q.1 : Nat)]) (fun w hw => Has.cong ((hw.has (i := 0) rfl).blk_sl (m := 1) rfl) rfl) rfl rfl (by omega) (by unfold maxLen; omega) (by omega) (fun _ _ _ _ => trivial) (fun A2 c2 hc2 => ?_)
        refine s_as 7 rfl rfl ?_
        refine SX.end_ ?_
        exact KN.join (A2, c2) ⟨rfl, rfl, rfl, by rw [hnx, List.length_append]; rfl, rfl, rfl, rfl, trivial⟩ (fun _ h => by rw [hnx, ← nats_snoc, List.length_append]; exact h.pick [1] rfl) (by rw [hnx, List.length_append]; exact hc2)
      · skip
        have hnx := zerosN_no (v := (plc m (lowL m l))) (i := q.1) (by have := hc; rw [bxE_eq hm] at this; unfold plc; omega)
        refine CW.skip ?_
        exact KN.join q.2 ⟨rfl, rfl, rfl, by rw [hnx]; rfl, rfl, rfl, rfl, trivial⟩ (fun _ h => by rw [hnx]; exact h) (by rw [hnx]; exact hqc)
    · skip
      intro p hp
      refine CW.reg [0, 1, 2, 3, 4] rfl ?_   -- 10, code.go:194
      refine s_mv 37 rfl rfl ?_
      refine s_mv 38 rfl rfl ?_
      refine s_mv 39 rfl rfl ?_
      refine s_call1 40 rfl rfl rfl rfl (fun w hw => rmulN hm (bxE_lt hm _) (inv_lt hm _)) (fun _ _ => trivial) ?_
      refine s_as 8 rfl rfl ?_
      refine SX.end_ ?_
      refine KN.blk ?_
      refine KN.code ?_
      refine CW.reg [0, 1, 2] rfl ?_   -- 7, code.go:190
      refine s_mv 26 rfl rfl ?_
      refine s_add 27 rfl rfl rfl (r := ((q.1 + 1 : Nat) : Int)) (w64 (by omega)) ?_
      refine s_as 10 rfl rfl ?_
      refine SX.end_ ?_
      exact KN.back (q.1 + 1, p) ⟨rfl, rfl, rfl, rfl, rfl, rfl, rfl, trivial⟩ (fun _ h => h) ⟨by simp only; omega, hp⟩ (by simp only; omega)
  · skip
    have hqe : q.1 = (min z (N m : Nat)).toNat := by omega
    refine CW.exit rfl ?_
    refine KN.code ?_
    refine CW.seq ?_
    refine CW.reg [0, 1] rfl ?_   -- 11, code.go:196
    refine s_mv 41 rfl rfl ?_
    refine s_as 6 rfl rfl ?_
    refine SX.next ?_
    refine CW.ret ?_
    rw [hqe] at hqc
    exact KN.ret (rs := [.tmp 6]) Tryd.results28 rfl (fun w hw => ⟨q.2, by rw [← hqe]; rfl, hqc, by rw [← hqe]; exact hw.pick [0] rfl⟩)
