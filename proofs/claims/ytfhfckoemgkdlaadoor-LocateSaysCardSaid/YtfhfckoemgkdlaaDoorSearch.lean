/- The contracts of package search: its iterators, by their values, and what ranges over them. Conditions: the field was made by New; the list is read where it lies. -/
import Derived.Test.YtfhfckoemgkdlaaDoorPoly
import Derived.Test.YtfhfckoemgkdlaaDoorRf3
namespace Go.Proofs.YtfhfckoemgkdlaaDoor
open Go Go.Sx Go.Fm
set_option maxRecDepth 100000
/-- The places below i whose value is 0. -/
def zerosN (v : Nat → Nat) (i : Nat) : List Nat := (List.range i).filter (fun k => v k == 0)
theorem zerosN_yes {v : Nat → Nat} {i : Nat} (h : v i = 0) : zerosN v (i + 1) = zerosN v i ++ [i] := by
  unfold zerosN; rw [List.range_succ, List.filter_append]; simp [h]
theorem zerosN_no {v : Nat → Nat} {i : Nat} (h : v i ≠ 0) : zerosN v (i + 1) = zerosN v i := by
  unfold zerosN; rw [List.range_succ, List.filter_append]; simp [h]
theorem zerosN_len (v : Nat → Nat) (i : Nat) : (zerosN v i).length ≤ i := by
  have := List.length_filter_le (fun k => v k == 0) (List.range i); simpa [zerosN] using this

theorem roots_spec (gby gf : Nat) (x1 x2 x3 : Value) (v : Nat → Nat) (N : Nat) (w : World) [Enters Tryd.prog gby] [Enters Tryd.prog gf] (hN : N ≤ 4294967296) (hby : ∀ w, SpecX Tryd.prog gby [.agg #[x1, x2, x3]] w (X := Nat) (fun b => .func (.func gf) #[] #[.pointer (some ⟨b, 0, none⟩)]) (fun _ => True) (fun b => [blk b 76 #[x1, x2, x3]]))
    (hit : ∀ b, IterC Tryd.prog w gf [.pointer (some ⟨b, 0, none⟩)] [blk b 76 #[x1, x2, x3]] (fun i => [.int .i64 (i : Nat), .int .i64 (v i : Nat)]) N) : SpecL Tryd.prog 67 [.agg #[x1, x2, x3], .func (.func gby) #[] #[]] w (zerosN v N) := by
  refine calls_ofI Tryd.func67 rfl Tryd.ntmps67 rfl (C := Sto w []) (St.start w) ?_
  refine CWI.seq ?_
  refine CWI.reg [0, 1] rfl (by kernel_rfl) ?_   -- 0, search.go:55
  refine SXI.of1 (pf := fun _ => True) (fun _ hK => s_box 2 rfl rfl (fun _ _ => trivial) (fun x => SX.done (hK x trivial))) (fun g2 _ => ?_)
  refine SXI.of (fun _ hK => s_as 4 rfl rfl (SX.done hK)) ?_
  refine SXI.next ?_
  refine CWI.seq ?_
  refine CWI.reg [0] rfl (by kernel_rfl) ?_   -- 1, search.go:56
  refine SXI.of1 (pf := fun _ => True) (fun _ hK => s_alloc 5 rfl (fun _ _ => trivial) (fun x => SX.done (hK x trivial))) (fun go _ => ?_)
  refine SXI.next ?_
  refine CWI.seq ?_
  refine CWI.seq ?_
  refine CWI.reg [0, 1, 2] rfl (by kernel_rfl) ?_   -- 2, search.go:57
  refine SXI.of (fun _ hK => s_mv 8 rfl rfl (SX.done hK)) ?_
  refine SXI.of (fun _ hK => s_ldW 9 1 rfl rfl rfl (SX.done hK)) ?_
  refine SXI.of1 (fun _ hK => s_call 10 rfl rfl rfl rfl (fun w hw => hby w) (fun _ _ => trivial) (fun x hx => SX.done (hK x hx))) (fun b hb => ?_)
  refine SXI.next ?_
  refine CWI.block ?_
  refine CWI.pre (fun _ h => h.begin_ 3 1) ?_
  refine CWI.rangeFunc (G := Option Addr × Nat) (GX := Empty) (fun i q => [blk go 22 #[.slice q.1 (zerosN v i).length q.2], own 3 1 q.1 (zerosN v i).length q.2 (nats .i64 (zerosN v i))]) (fun i q => (zerosN v i).length ≤ q.2) (fun _ x => x.elim) (fun _ _ => False) (fun x => x.elim) (none, 0) [blk b 76 #[x1, x2, x3]] [blk g2 76 #[x1, x2, x3]] (fun i => [(5, .pointer (some ⟨go, 0, none⟩)), (6, .int .i64 (i : Nat)), (7, .int .i64 (v i : Nat))]) rfl (hit b) [2, 0, 0, 0] rfl (Nat.le_refl _) (fun _ => rfl) (by simp) ?_ ?_ ?_ ?_
  · intro lr i C hi
    refine CWI.seq ?_
    refine CWI.reg [0] rfl (by kernel_rfl) ?_   -- 3, search.go:57
    refine SXI.of (fun _ hK => s_as 6 rfl rfl (SX.done hK)) ?_
    refine SXI.next ?_
    refine CWI.reg [0] rfl (by kernel_rfl) ?_   -- 4, search.go:57
    refine SXI.of (fun _ hK => s_as 7 rfl rfl (SX.done hK)) ?_
    refine SXI.end_ ?_
    exact ⟨fun a w he hc => ⟨he.sub (SubL.sub ⟨rfl, rfl, rfl, trivial⟩), hc⟩⟩
  · intro lr T i g hi hg
    have hzl := zerosN_len v i
    refine CWI.block ?_
    refine CWI.seq ?_
    refine CWI.reg [0, 1] rfl (by kernel_rfl) ?_   -- 5, search.go:58
    refine SXI.of (fun _ hK => s_mv 13 rfl rfl (SX.done hK)) ?_
    refine SXI.of (fun _ hK => s_eq 14 rfl rfl rfl rfl (SX.done hK)) ?_
    refine SXI.next ?_
    refine CWI.test rfl (fun hcz => ?_) (fun hcz => ?_)
    · skip
      have hnx := zerosN_yes (v := v) (i := i) (by omega)
      refine CWI.reg [0, 1, 2, 3, 4] rfl (by kernel_rfl) ?_   -- 6, search.go:59
      refine SXI.of (fun _ hK => s_ld 15 rfl rfl (fun _ h => h.blkCell (i := 0) (j := 0) rfl rfl) (SX.done hK)) ?_
      refine SXI.of (fun _ hK => s_mv 16 rfl rfl (SX.done hK)) ?_
      refine SXI.of1 (pf := fun _ => True) (fun _ hK => s_bsl 17 rfl rfl (cells := #[.int .i64 (i : Nat)]) (by kernel_rfl) rfl (fun _ _ => trivial) (fun x => SX.done (hK x trivial))) (fun gb _ => ?_)
      refine SXI.of2 (fun _ hK => s_app 18 2 rfl rfl rfl rfl (ys := [.int .i64 (i : Nat)]) (fun w hw => Has.cong ((hw.has (i := 0) rfl).blk_sl (m := 1) rfl) rfl) rfl rfl (by omega) (by unfold maxLen; omega) (by omega) (fun _ _ _ _ => trivial) (fun x y hx => SX.done (hK x y hx))) (fun A2 c2 hc2 => ?_)
      refine SXI.of (fun _ hK => s_stB 1 rfl rfl rfl rfl rfl (Nat.lt_succ_self 0) (fun _ _ => trivial) (SX.done hK)) ?_
      refine SXI.end_ ?_
      refine KNI.blk ?_
      exact ⟨fun a w he hc => ⟨(A2, c2), by simp only [hnx, List.length_append, List.length_singleton]; exact hc2, by simp only [hnx]; rw [← nats_snoc, List.length_append]; exact hc.pick [1, 1, 1] rfl⟩⟩
    · skip
      have hnx := zerosN_no (v := v) (i := i) (by omega)
      refine CWI.skip ?_
      refine KNI.blk ?_
      exact ⟨fun a w he hc => ⟨g, by simp only [hnx]; exact hg, by simp only [hnx]; exact hc⟩⟩
  · intro D g hg
    refine KNI.blk ?_
    refine KNI.code ?_
    refine CWI.seq ?_
    refine CWI.reg [0, 1] rfl (by kernel_rfl) ?_   -- 7, search.go:62
    refine SXI.of (fun _ hK => s_ld 19 rfl rfl (fun _ h => h.blkCell (i := 1) (j := 0) rfl rfl) (SX.done hK)) ?_
    refine SXI.of (fun _ hK => s_as 4 rfl rfl (SX.done hK)) ?_
    refine SXI.next ?_
    refine CWI.ret ?_
    exact retM (rs := [.tmp 4]) [D] rfl Tryd.results67 rfl (fun _ h => h.pick [0, 1] rfl) (fun w hw => ⟨g, rfl, hg, hw⟩)
  · intro D i g hi hg
    exact hg.elim

theorem pevalE (r g m : Nat) (A : Option Addr) (n c : Nat) (l : List Int) (k : Int) (w : World) (hm : Ok m) (hr : Has (ringA r g m) w) (ha : Has (sl 1 A n (ints .i64 l)) w) (hn : n ≤ 4294967296) :
    Spec1 Tryd.prog 56 [.pointer (some ⟨r, 0, none⟩), .slice A n c, .int .i64 (ex m (em m k) : Nat)] w (.int .i64 (evL m (lowL m l) (ex m (em m k)) : Nat)) := by
  have := peval_spec r g m A n c l (ex m (em m k) : Nat) w hm hr ha hn
  rw [lo_nat (ex_lt hm _).2] at this
  exact this

theorem plainIt (g m b : Nat) (A : Option Addr) (n c : Nat) (l : List Int) (z : Int) (w : World) (hm : Ok m) (hf : Has (fieldA g m) w) (ha : Has (sl 1 A n (ints .i64 l)) w) (hn : n ≤ 4294967296) (hz : z ≤ 65536) : IterC Tryd.prog w 88 [.pointer (some ⟨b, 0, none⟩)] [blk b 76 #[.pointer (some ⟨g, 0, none⟩), .slice A n c, .int .i64 z]] (fun i => [.int .i64 (i : Nat), .int .i64 (evL m (lowL m l) (ex m (em m (0 - (i : Int)))) : Nat)]) z.toNat := by
  intro lr J Jx R w1 hY hw
  refine calls_ofI Tryd.func88 rfl Tryd.ntmps88 rfl (C := Sto w [J 0, blk b 76 #[.pointer (some ⟨g, 0, none⟩), .slice A n c, .int .i64 z], R]) hw ?_
  refine CWI.seq ?_
  refine CWI.reg [0, 1, 2, 3] rfl (by kernel_rfl) ?_   -- 0, search.go:45
  refine SXI.of (fun _ hK => s_fa 5 rfl rfl (SX.done hK)) ?_
  refine SXI.of (fun _ hK => s_ld 6 rfl rfl (fun _ h => h.blkCell (i := 1) (j := 0) rfl rfl) (SX.done hK)) ?_
  refine SXI.of1 (fun _ hK => s_call 7 rfl rfl rfl rfl (fun w hw => ring_spec g w) (fun _ _ => trivial) (fun x hx => SX.done (hK x hx))) (fun r hr => ?_)
  refine SXI.of (fun _ hK => s_as 3 rfl rfl (SX.done hK)) ?_
  refine SXI.next ?_
  refine CWI.seq ?_
  refine CWI.reg [0, 1, 2, 3] rfl (by kernel_rfl) ?_   -- 1, search.go:46
  refine SXI.of (fun _ hK => s_fa 8 rfl rfl (SX.done hK)) ?_
  refine SXI.of (fun _ hK => s_ld 9 rfl rfl (fun _ h => h.blkCell (i := 2) (j := 2) rfl rfl) (SX.done hK)) ?_
  refine SXI.of (fun _ hK => s_max 10 rfl rfl rfl (r := (z.toNat : Int)) (by split <;> omega) (SX.done hK)) ?_
  refine SXI.of (fun _ hK => s_mv 11 rfl rfl (SX.done hK)) ?_
  refine SXI.next ?_
  refine CWI.block ?_
  refine CWI.loop (G := Nat) (fun _ => []) (fun i => [(0, .func (.yield lr) #[] #[]), (1, .pointer (some ⟨b, 0, none⟩)), (3, .pointer (some ⟨r, 0, none⟩)), (10, .int .i64 (z.toNat : Int)), (11, .int .i64 (i : Nat))]) (fun i => Sto w [blk r 90 #[.pointer (some ⟨g, 0, none⟩)], J i, blk b 76 #[.pointer (some ⟨g, 0, none⟩), .slice A n c, .int .i64 z], R]) (fun i => i ≤ z.toNat) (fun i => z.toNat - i) 0 rfl ⟨rfl, rfl, rfl, rfl, rfl, trivial⟩ (fun _ h => h) (Nat.zero_le _) ?_
  intro i hi
  refine CWI.seq ?_
  refine CWI.reg [0] rfl (by kernel_rfl) ?_   -- 2, search.go:46
  refine SXI.of (fun _ hK => s_lt 12 rfl rfl rfl rfl (SX.done hK)) ?_
  refine SXI.next ?_
  refine CWI.seq ?_
  refine CWI.test rfl (fun hc => ?_) (fun hc => ?_)
  · skip
    refine CWI.skip ?_
    refine KNI.code ?_
    refine CWI.seq ?_
    refine CWI.block ?_
    refine CWI.seq ?_
    refine CWI.reg [0, 1] rfl (by kernel_rfl) ?_   -- 3, search.go:46
    refine SXI.of (fun _ hK => s_mv 13 rfl rfl (SX.done hK)) ?_
    refine SXI.of (fun _ hK => s_as 4 rfl rfl (SX.done hK)) ?_
    refine SXI.next ?_
    refine CWI.seq ?_
    refine CWI.regD (.st true 0 (.st true 1 (.st true 2 (.st true 3 (.st true 4 (.st true 5 (.st true 6 (.st true 7 (.st true 8 (.st false 9 (.st false 10 (.st false 11 (.st true 12 .done))))))))))))) (Sto w [blk b 76 #[.pointer (some ⟨g, 0, none⟩), .slice A n c, .int .i64 z]]) mixed (by kernel_rfl) (fun _ h => h.drew) (fun _ h => h.pick [2] rfl) ?_
    refine SXI.of (fun _ hK => s_mv 14 rfl rfl (SX.done hK)) ?_
    refine SXI.of (fun _ hK => s_mv 15 rfl rfl (SX.done hK)) ?_
    refine SXI.of (fun _ hK => s_mv 16 rfl rfl (SX.done hK)) ?_
    refine SXI.of (fun _ hK => s_fa 17 rfl rfl (SX.done hK)) ?_
    refine SXI.of (fun _ hK => s_ldS 18 rfl rfl (fun _ h => h.blkCell (i := 0) (j := 1) rfl rfl) (SX.done hK)) ?_
    refine SXI.of (fun _ hK => s_fa 19 rfl rfl (SX.done hK)) ?_
    refine SXI.of (fun _ hK => s_ldS 20 rfl rfl (fun _ h => h.blkCell (i := 0) (j := 0) rfl rfl) (SX.done hK)) ?_
    refine SXI.of (fun _ hK => s_mv 21 rfl rfl (SX.done hK)) ?_
    refine SXI.of (fun _ hK => s_neg 22 rfl rfl (w64 (by omega)) (SX.done hK)) ?_
    refine SXI.of (fun _ hK => s_call1 23 rfl rfl rfl rfl (fun w hw => exp_spec g m _ _ hm (hw.old hf)) (fun _ h => h.pick [2] rfl) (SX.done hK)) ?_
    refine SXI.of (fun _ hK => s_call1 24 rfl rfl rfl rfl (fun w hw => pevalE r g m A n c l _ w hm (ring_of (hw.old hf) (hw.has (i := 0) rfl)) (hw.old ha) hn) (fun _ h => h.pick [2] rfl) (SX.done hK)) ?_
    refine s_yield 25 1 hY (by omega) rfl rfl rfl rfl (fun _ _ h => h.pick [2] rfl) ?_ ?_
    · skip
      refine SXI.of (fun _ hK => s_not 26 rfl rfl (SX.done hK)) ?_
      refine SXI.next ?_
      refine CWI.condF rfl ?_
      refine CWI.skip ?_
      refine KNI.blk ?_
      refine KNI.code ?_
      refine CWI.reg [0, 1] rfl (by kernel_rfl) ?_   -- 5, search.go:46
      refine SXI.of (fun _ hK => s_add 27 rfl rfl rfl (r := ((i + 1 : Nat) : Int)) (w64 (by omega)) (SX.done hK)) ?_
      refine SXI.of (fun _ hK => s_mv 11 rfl rfl (SX.done hK)) ?_
      refine SXI.end_ ?_
      exact KNI.back (i + 1) rfl ⟨rfl, rfl, rfl, rfl, rfl, trivial⟩ (fun _ h => h.pick [1, 0, 0, 0] rfl) (by omega) (by omega)
    · skip
      refine SXI.of (fun _ hK => s_not 26 rfl rfl (SX.done hK)) ?_
      refine SXI.next ?_
      refine CWI.condT rfl ?_
      refine CWI.ret ?_
      exact retM (rs := []) (vs := []) (L := [Jx (i + 1), blk b 76 #[.pointer (some ⟨g, 0, none⟩), .slice A n c, .int .i64 z], R]) [] rfl Tryd.results88 rfl (fun _ h => h.pick [0, 1, 1] rfl) (fun w hw => ⟨_, rfl, .inr ⟨i, by omega, hw⟩⟩)
  · skip
    obtain rfl : i = z.toNat := by omega
    refine CWI.exit rfl ?_
    exact ⟨retM (rs := []) (vs := []) (L := [J z.toNat, blk b 76 #[.pointer (some ⟨g, 0, none⟩), .slice A n c, .int .i64 z], R]) [] rfl Tryd.results88 rfl (fun _ h => h.pick [1, 1, 1] rfl) (fun w hw => ⟨_, rfl, .inl hw⟩)⟩

/-! ### Each term goes on by its own factor -/
def tfF (m : Nat) (a : List Nat) : Nat → Nat → Nat
  | 0, k => cf a k
  | i + 1, k => gm m (tfF m a i k) (ex m (em m (0 - (k : Int))))
def sfF (m : Nat) (a : List Nat) (i : Nat) : Nat → Nat
  | 0 => 0
  | j + 1 => sfF m a i j ^^^ tfF m a i j
def mxF (m : Nat) (a : List Nat) (i j k : Nat) : Nat := if k < j then tfF m a (i + 1) k else tfF m a i k
theorem tfF_lt {m : Nat} (hm : Ok m) {a : List Nat} (ha : ∀ x ∈ a, x < 2 ^ m) : ∀ (i k : Nat), tfF m a i k < 2 ^ m
  | 0, k => cf_lt ha (Nat.two_pow_pos m) k
  | i + 1, k => gm_lt hm (tfF_lt hm ha i k) _
theorem sfF_lt {m : Nat} (hm : Ok m) {a : List Nat} (ha : ∀ x ∈ a, x < 2 ^ m) (i : Nat) : ∀ j, sfF m a i j < 2 ^ m
  | 0 => Nat.two_pow_pos m
  | j + 1 => Nat.xor_lt_two_pow (sfF_lt hm ha i j) (tfF_lt hm ha i j)
theorem mx_start (m : Nat) (a : List Nat) : ints .i64 (tab a.length (fun k => (tfF m a 0 k : Nat))) = nats .i64 a := by
  rw [tab_nats]
  congr 1
  apply List.ext_getElem
  · simp
  · intro i h1 h2; simp [tfF, cf, h2]
theorem mx_zero (m : Nat) (a : List Nat) (i : Nat) : (fun k => ((mxF m a i 0 k : Nat) : Int)) = fun k => ((tfF m a i k : Nat) : Int) := by funext k; simp [mxF]
theorem mx_all (m : Nat) (a : List Nat) (i : Nat) : tab a.length (fun k => ((mxF m a i a.length k : Nat) : Int)) = tab a.length (fun k => (tfF m a (i + 1) k : Nat)) := tab_cong (fun k hk => by simp [mxF, hk])
theorem mx_next (m : Nat) (a : List Nat) (i j : Nat) : (fun k => if k = j then ((gm m (tfF m a i j) (ex m (em m (0 - (j : Int)))) : Nat) : Int) else (mxF m a i j k : Nat)) = fun k => ((mxF m a i (j + 1) k : Nat) : Int) := by
  funext k
  unfold mxF
  by_cases h : k = j
  · subst h; rw [if_pos rfl, if_pos (Nat.lt_succ_self k)]; rfl
  · rw [if_neg h]
    by_cases h2 : k < j
    · rw [if_pos h2, if_pos (by omega)]
    · rw [if_neg h2, if_neg (by omega)]
theorem mulE (g m x : Nat) (k : Int) (w : World) (hm : Ok m) (hf : Has (fieldA g m) w) (hx : x < 2 ^ m) : Spec1 Tryd.prog 24 [.pointer (some ⟨g, 0, none⟩), .int .i64 (x : Nat), .int .i64 (ex m (em m k) : Nat)] w (.int .i64 (gm m x (ex m (em m k)) : Nat)) := by
  have := mul_spec g m (x : Nat) (ex m (em m k) : Nat) w hm hf
  rw [lo_nat hx, lo_nat (ex_lt hm _).2] at this
  exact this

theorem chienIt (g m b : Nat) (A : Option Addr) (c : Nat) (a : List Nat) (z : Int) (w : World) (hm : Ok m) (hf : Has (fieldA g m) w) (ha : Has (sl 1 A a.length (nats .i64 a)) w) (hn : a.length ≤ 4294967296) (hal : ∀ x ∈ a, x < 2 ^ m) (hz : z ≤ 65536) : IterC Tryd.prog w 87 [.pointer (some ⟨b, 0, none⟩)] [blk b 76 #[.pointer (some ⟨g, 0, none⟩), .slice A a.length c, .int .i64 z]] (fun i => [.int .i64 (i : Nat), .int .i64 (sfF m a i a.length : Nat)]) z.toNat := by
  intro lr J Jx R w1 hY hw
  have h14 := pow_le14 hm
  refine calls_ofI Tryd.func87 rfl Tryd.ntmps87 rfl (C := Sto w [J 0, blk b 76 #[.pointer (some ⟨g, 0, none⟩), .slice A a.length c, .int .i64 z], R]) hw ?_
  refine CWI.seq ?_
  refine CWI.reg [0, 1, 2, 3] rfl (by kernel_rfl) ?_   -- 0, search.go:28
  refine SXI.of (fun _ hK => s_fa 8 rfl rfl (SX.done hK)) ?_
  refine SXI.of (fun _ hK => s_ld 9 rfl rfl (fun _ h => h.blkCell (i := 1) (j := 1) rfl rfl) (SX.done hK)) ?_
  refine SXI.of2 (fun _ hK => s_app0 10 (m2 := a.length) rfl rfl rfl (ys := nats .i64 a) (fun w hw => hw.old ha) (nats_one _ _) rfl (by omega) (by unfold maxLen; omega) (by omega) (fun _ _ _ _ => trivial) (fun x y hx => SX.done (hK x y hx))) (fun A2 c2 hc2 => ?_)
  refine SXI.of (fun _ hK => s_as 3 rfl rfl (SX.done hK)) ?_
  refine SXI.next ?_
  refine CWI.seq ?_
  refine CWI.reg [0, 1, 2, 3] rfl (by kernel_rfl) ?_   -- 1, search.go:29
  refine SXI.of (fun _ hK => s_fa 11 rfl rfl (SX.done hK)) ?_
  refine SXI.of (fun _ hK => s_ld 12 rfl rfl (fun _ h => h.blkCell (i := 2) (j := 2) rfl rfl) (SX.done hK)) ?_
  refine SXI.of (fun _ hK => s_max 13 rfl rfl rfl (r := (z.toNat : Int)) (by split <;> omega) (SX.done hK)) ?_
  refine SXI.of (fun _ hK => s_mv 14 rfl rfl (SX.done hK)) ?_
  refine SXI.next ?_
  refine CWI.block ?_
  refine CWI.loop (G := Nat) (fun _ => []) (fun i => [(0, .func (.yield lr) #[] #[]), (1, .pointer (some ⟨b, 0, none⟩)), (3, .slice A2 a.length c2), (13, .int .i64 (z.toNat : Int)), (14, .int .i64 (i : Nat))]) (fun i => Sto w [own 3 1 A2 a.length c2 (ints .i64 (tab a.length (fun k => (tfF m a i k : Nat)))), J i, blk b 76 #[.pointer (some ⟨g, 0, none⟩), .slice A a.length c, .int .i64 z], R]) (fun i => i ≤ z.toNat) (fun i => z.toNat - i) 0 rfl ⟨rfl, rfl, rfl, rfl, rfl, trivial⟩ (fun _ h => by rw [mx_start]; exact h) (Nat.zero_le _) ?_
  intro i hi
  refine CWI.seq ?_
  refine CWI.reg [0] rfl (by kernel_rfl) ?_   -- 2, search.go:29
  refine SXI.of (fun _ hK => s_lt 15 rfl rfl rfl rfl (SX.done hK)) ?_
  refine SXI.next ?_
  refine CWI.seq ?_
  refine CWI.test rfl (fun hc => ?_) (fun hc => ?_)
  · skip
    refine CWI.skip ?_
    refine KNI.code ?_
    refine CWI.seq ?_
    refine CWI.block ?_
    refine CWI.seq ?_
    refine CWI.reg [0, 1] rfl (by kernel_rfl) ?_   -- 3, search.go:29
    refine SXI.of (fun _ hK => s_mv 16 rfl rfl (SX.done hK)) ?_
    refine SXI.of (fun _ hK => s_as 4 rfl rfl (SX.done hK)) ?_
    refine SXI.next ?_
    refine CWI.seq ?_
    refine CWI.reg [0] rfl (by kernel_rfl) ?_   -- 4, search.go:30
    refine SXI.of (fun _ hK => s_as 5 rfl rfl (SX.done hK)) ?_
    refine SXI.next ?_
    refine CWI.seq ?_
    refine CWI.seq ?_
    refine CWI.reg [0, 1, 2] rfl (by kernel_rfl) ?_   -- 5, search.go:31
    refine SXI.of (fun _ hK => s_mv 17 rfl rfl (SX.done hK)) ?_
    refine SXI.of (fun _ hK => s_len 18 rfl rfl (SX.done hK)) ?_
    refine SXI.of (fun _ hK => s_mv 19 rfl rfl (SX.done hK)) ?_
    refine SXI.next ?_
    refine CWI.block ?_
    refine CWI.loop (G := Nat) (fun _ => []) (fun j => [(0, .func (.yield lr) #[] #[]), (1, .pointer (some ⟨b, 0, none⟩)), (3, .slice A2 a.length c2), (4, .int .i64 (i : Nat)), (5, .int .i64 (sfF m a i j : Nat)), (13, .int .i64 (z.toNat : Int)), (14, .int .i64 (i : Nat)), (17, .slice A2 a.length c2), (18, .int .i64 (a.length : Nat)), (19, .int .i64 (j : Nat))]) (fun j => Sto w [own 3 1 A2 a.length c2 (ints .i64 (tab a.length (fun k => (mxF m a i j k : Nat)))), J i, blk b 76 #[.pointer (some ⟨g, 0, none⟩), .slice A a.length c, .int .i64 z], R]) (fun j => j ≤ a.length) (fun j => a.length - j) 0 rfl ⟨rfl, rfl, rfl, rfl, rfl, rfl, rfl, rfl, rfl, rfl, trivial⟩ (fun _ h => by rw [mx_zero]; exact h) (Nat.zero_le _) ?_
    intro j hj
    have ht := tfF_lt hm hal i j
    have hs := sfF_lt hm hal i j
    refine CWI.seq ?_
    refine CWI.reg [0] rfl (by kernel_rfl) ?_   -- 6, search.go:31
    refine SXI.of (fun _ hK => s_lt 20 rfl rfl rfl rfl (SX.done hK)) ?_
    refine SXI.next ?_
    refine CWI.seq ?_
    refine CWI.test rfl (fun hc => ?_) (fun hc => ?_)
    · skip
      refine CWI.skip ?_
      refine KNI.code ?_
      refine CWI.seq ?_
      refine CWI.block ?_
      refine CWI.seq ?_
      refine CWI.reg [0, 1, 2, 3, 4] rfl (by kernel_rfl) ?_   -- 7, search.go:31
      refine SXI.of (fun _ hK => s_mv 21 rfl rfl (SX.done hK)) ?_
      refine SXI.of (fun _ hK => s_iaO 22 0 j rfl rfl rfl rfl rfl (by omega) (SX.done hK)) ?_
      refine SXI.of (fun _ hK => s_ldO 23 0 rfl rfl rfl (v := .int .i64 (tfF m a i j : Nat)) (by rw [tab_at (by omega)]; simp [mxF]) (SX.done hK)) ?_
      refine SXI.of (fun _ hK => s_as 6 rfl rfl (SX.done hK)) ?_
      refine SXI.of (fun _ hK => s_as 7 rfl rfl (SX.done hK)) ?_
      refine SXI.next ?_
      refine CWI.seq ?_
      refine CWI.reg [0, 1, 2, 3] rfl (by kernel_rfl) ?_   -- 8, search.go:32
      refine SXI.of (fun _ hK => s_mv 24 rfl rfl (SX.done hK)) ?_
      refine SXI.of (fun _ hK => s_mv 25 rfl rfl (SX.done hK)) ?_
      refine SXI.of (fun _ hK => s_bit 26 rfl rfl rfl rfl (ibit_xor_nat (Nat.lt_of_lt_of_le hs (by omega)) (Nat.lt_of_lt_of_le ht (by omega))) (SX.done hK)) ?_
      refine SXI.of (fun _ hK => s_as 5 rfl rfl (SX.done hK)) ?_
      refine SXI.next ?_
      refine CWI.regD (.st true 0 (.st true 1 (.st true 2 (.st true 3 (.st true 4 (.st true 5 (.st true 6 (.st true 7 (.st true 8 (.st false 9 (.st false 10 (.st true 11 (.st false 12 .done))))))))))))) (Sto w [blk b 76 #[.pointer (some ⟨g, 0, none⟩), .slice A a.length c, .int .i64 z]]) mixed (by kernel_rfl) (fun _ h => h.drew) (fun _ h => h.pick [2] rfl) ?_
      refine SXI.of (fun _ hK => s_mv 27 rfl rfl (SX.done hK)) ?_
      refine SXI.of (fun _ hK => s_mv 28 rfl rfl (SX.done hK)) ?_
      refine SXI.of (fun _ hK => s_fa 29 rfl rfl (SX.done hK)) ?_
      refine SXI.of (fun _ hK => s_ldS 30 rfl rfl (fun _ h => h.blkCell (i := 0) (j := 0) rfl rfl) (SX.done hK)) ?_
      refine SXI.of (fun _ hK => s_mv 31 rfl rfl (SX.done hK)) ?_
      refine SXI.of (fun _ hK => s_fa 32 rfl rfl (SX.done hK)) ?_
      refine SXI.of (fun _ hK => s_ldS 33 rfl rfl (fun _ h => h.blkCell (i := 0) (j := 0) rfl rfl) (SX.done hK)) ?_
      refine SXI.of (fun _ hK => s_mv 34 rfl rfl (SX.done hK)) ?_
      refine SXI.of (fun _ hK => s_neg 35 rfl rfl (w64 (by omega)) (SX.done hK)) ?_
      refine SXI.of (fun _ hK => s_call1 36 rfl rfl rfl rfl (fun w hw => exp_spec g m _ _ hm (hw.old hf)) (fun _ h => h.pick [2] rfl) (SX.done hK)) ?_
      refine SXI.of (fun _ hK => s_call1 37 rfl rfl rfl rfl (fun w hw => mulE g m (tfF m a i j) _ w hm (hw.old hf) ht) (fun _ h => h.pick [2] rfl) (SX.done hK)) ?_
      refine SXI.of (fun _ hK => s_iaO 38 0 j rfl rfl rfl rfl rfl (by omega) (SX.done hK)) ?_
      refine SXI.of (fun _ hK => s_stO 0 rfl rfl rfl rfl rfl (by omega) (fun _ h => h.pick [2] rfl) (SX.done hK)) ?_
      refine SXI.end_ ?_
      refine KNI.blk ?_
      refine KNI.code ?_
      refine CWI.reg [0, 1] rfl (by kernel_rfl) ?_   -- 10, search.go:31
      refine SXI.of (fun _ hK => s_add 39 rfl rfl rfl (r := ((j + 1 : Nat) : Int)) (w64 (by omega)) (SX.done hK)) ?_
      refine SXI.of (fun _ hK => s_mv 19 rfl rfl (SX.done hK)) ?_
      refine SXI.end_ ?_
      exact KNI.back (j + 1) rfl ⟨rfl, rfl, rfl, rfl, rfl, rfl, rfl, rfl, rfl, rfl, trivial⟩ (fun _ h => by rw [← mx_next, ← tab_setL]; exact h) (by omega) (by omega)
    · skip
      obtain rfl : j = a.length := by omega
      refine CWI.exit rfl ?_
      refine KNI.code ?_
      refine CWI.seq ?_
      refine CWI.reg [0, 1, 2, 3, 4] rfl (by kernel_rfl) ?_   -- 11, search.go:35
      refine SXI.of (fun _ hK => s_mv 40 rfl rfl (SX.done hK)) ?_
      refine SXI.of (fun _ hK => s_mv 41 rfl rfl (SX.done hK)) ?_
      refine SXI.of (fun _ hK => s_mv 42 rfl rfl (SX.done hK)) ?_
      refine s_yield 43 1 hY (by omega) rfl rfl rfl rfl (fun _ _ _ => trivial) ?_ ?_
      · skip
        refine SXI.of (fun _ hK => s_not 44 rfl rfl (SX.done hK)) ?_
        refine SXI.next ?_
        refine CWI.condF rfl ?_
        refine CWI.skip ?_
        refine KNI.blk ?_
        refine KNI.code ?_
        refine CWI.reg [0, 1] rfl (by kernel_rfl) ?_   -- 12, search.go:29
        refine SXI.of (fun _ hK => s_add 45 rfl rfl rfl (r := ((i + 1 : Nat) : Int)) (w64 (by omega)) (SX.done hK)) ?_
        refine SXI.of (fun _ hK => s_mv 14 rfl rfl (SX.done hK)) ?_
        refine SXI.end_ ?_
        exact KNI.back (i + 1) rfl ⟨rfl, rfl, rfl, rfl, rfl, trivial⟩ (fun _ h => by rw [← mx_all]; exact h.pick [1, 0, 0, 0] rfl) (by omega) (by omega)
      · skip
        refine SXI.of (fun _ hK => s_not 44 rfl rfl (SX.done hK)) ?_
        refine SXI.next ?_
        refine CWI.condT rfl ?_
        refine CWI.ret ?_
        exact retM (rs := []) (vs := []) (L := [Jx (i + 1), blk b 76 #[.pointer (some ⟨g, 0, none⟩), .slice A a.length c, .int .i64 z], R]) [] rfl Tryd.results87 rfl (fun _ h => h.pick [0, 1, 1] rfl) (fun w hw => ⟨_, rfl, .inr ⟨i, by omega, hw⟩⟩)
  · skip
    obtain rfl : i = z.toNat := by omega
    refine CWI.exit rfl ?_
    exact ⟨retM (rs := []) (vs := []) (L := [J z.toNat, blk b 76 #[.pointer (some ⟨g, 0, none⟩), .slice A a.length c, .int .i64 z], R]) [] rfl Tryd.results87 rfl (fun _ h => h.pick [1, 1, 1] rfl) (fun w hw => ⟨_, rfl, .inl hw⟩)⟩

theorem take_min {α : Type} (l : List α) (k : Nat) : l.take (min l.length k) = l.take k := by
  rcases Nat.le_total l.length k with h | h
  · rw [Nat.min_eq_left h, List.take_of_length_le (Nat.le_refl _), List.take_of_length_le h]
  · rw [Nat.min_eq_right h]
theorem ints_take2 (l : List Int) (k : Nat) : (ints .i64 l).take (min l.length k * 1) = ints .i64 (l.take k) := by
  rw [Nat.mul_one]; unfold ints; rw [← List.map_take, take_min]

theorem chien_spec (x1 x2 x3 : Value) (w : World) : SpecX Tryd.prog 68 [.agg #[x1, x2, x3]] w (X := Nat) (fun b => .func (.func 87) #[] #[.pointer (some ⟨b, 0, none⟩)]) (fun _ => True) (fun b => [blk b 76 #[x1, x2, x3]]) := by
  refine spec_of Tryd.func68 rfl Tryd.ntmps68 rfl ?_
  refine CW.seq ?_
  refine CW.reg [0, 1] rfl ?_   -- 0, search.go:26
  refine s_box 1 rfl rfl (fun _ _ => trivial) (fun g1 => ?_)
  refine s_as 2 rfl rfl ?_
  refine SX.next ?_
  refine CW.seq ?_
  refine CW.reg [0, 1] rfl ?_   -- 1, search.go:27
  refine s_mkf 3 rfl rfl rfl ?_
  refine s_as 2 rfl rfl ?_
  refine SX.next ?_
  refine CW.ret ?_
  exact KN.ret (rs := [.tmp 2]) Tryd.results68 rfl (fun w hw => ⟨g1, rfl, trivial, hw⟩)

theorem plain_spec (x1 x2 x3 : Value) (w : World) : SpecX Tryd.prog 70 [.agg #[x1, x2, x3]] w (X := Nat) (fun b => .func (.func 88) #[] #[.pointer (some ⟨b, 0, none⟩)]) (fun _ => True) (fun b => [blk b 76 #[x1, x2, x3]]) := by
  refine spec_of Tryd.func70 rfl Tryd.ntmps70 rfl ?_
  refine CW.seq ?_
  refine CW.reg [0, 1] rfl ?_   -- 0, search.go:43
  refine s_box 1 rfl rfl (fun _ _ => trivial) (fun g1 => ?_)
  refine s_as 2 rfl rfl ?_
  refine SX.next ?_
  refine CW.seq ?_
  refine CW.reg [0, 1] rfl ?_   -- 1, search.go:44
  refine s_mkf 3 rfl rfl rfl ?_
  refine s_as 2 rfl rfl ?_
  refine SX.next ?_
  refine CW.ret ?_
  exact KN.ret (rs := [.tmp 2]) Tryd.results70 rfl (fun w hw => ⟨g1, rfl, trivial, hw⟩)

theorem begun_spec (g m : Nat) (A : Option Addr) (c : Nat) (l : List Int) (z : Int) (w : World) (hm : Ok m) (hf : Has (fieldA g m) w) (ha : Has (sl 1 A l.length (ints .i64 l)) w) (hn : l.length ≤ 4294967296) (hcp : l.length ≤ c) : SpecX Tryd.prog 66 [.pointer (some ⟨g, 0, none⟩), .slice A l.length c, .int .i64 z] w (X := Option Addr × Nat) (fun q => .agg #[.pointer (some ⟨g, 0, none⟩), .slice q.1 (trim (lowL m (l.take 2048))).length q.2, .int .i64 (min z (N m : Nat))]) (fun q => (trim (lowL m (l.take 2048))).length ≤ q.2) (fun q => [own 3 1 q.1 (trim (lowL m (l.take 2048))).length q.2 (nats .i64 (trim (lowL m (l.take 2048))))]) := by
  have h14 := pow_le14 hm
  have hNs := N_succ m
  refine spec_of Tryd.func66 rfl Tryd.ntmps66 rfl ?_
  refine CW.seq ?_
  refine CW.reg [0] rfl ?_   -- 0, search.go:20
  refine s_alloc 6 rfl (fun _ _ => trivial) (fun g6 => ?_)
  refine SX.next ?_
  refine CW.seq ?_
  refine CW.reg [0, 1, 2] rfl ?_   -- 1, search.go:21
  refine s_mv 8 rfl rfl ?_
  refine s_call 9 rfl rfl rfl rfl (fun w hw => ring_spec g w) (fun _ _ => trivial) (fun r hr => ?_)
  refine s_as 7 rfl rfl ?_
  refine SX.next ?_
  refine CW.seq ?_
  refine CW.reg [0, 1, 2, 3, 4, 5, 6, 7, 8, 9, 10, 11, 12, 13, 14] rfl ?_   -- 2, search.go:22
  refine s_mv 10 rfl rfl ?_
  refine s_mv 11 rfl rfl ?_
  refine s_mv 12 rfl rfl ?_
  refine s_mv 13 rfl rfl ?_
  refine s_len 14 rfl rfl ?_
  refine s_min 15 rfl rfl rfl (r := ((min l.length 2048 : Nat) : Int)) (by split <;> omega) ?_
  refine s_slH 16 (min l.length 2048) rfl rfl rfl rfl (by omega) ?_
  refine s_call 17 rfl rfl rfl rfl (fun w hw => trim_spec r g m A (min l.length 2048) c (l.take 2048) w hm (ring_of (hw.old hf) (hw.has (i := 0) rfl)) (Has.cong ((hw.old ha).sl_take (q := min l.length 2048) (by omega)) (ints_take2 l 2048)) (by omega)) (fun _ _ => trivial) (fun q hq => ?_)
  refine s_mv 18 rfl rfl ?_
  refine s_mv 19 rfl rfl ?_
  refine s_call1 20 rfl rfl rfl rfl (fun w hw => size_spec g m w hm (hw.old hf)) (fun _ _ => trivial) ?_
  refine s_sub 21 rfl rfl rfl (w64 (by omega)) ?_
  refine s_min 22 rfl rfl rfl (r := min z (N m : Nat)) (by split <;> omega) ?_
  refine s_build 23 rfl rfl (cells := #[.pointer (some ⟨g, 0, none⟩), .slice q.1 (trim (lowL m (l.take 2048))).length q.2, .int .i64 (min z (N m : Nat))]) rfl ?_
  refine s_stAll 2 rfl rfl (by kernel_rfl) rfl rfl rfl rfl (fun _ _ => trivial) ?_
  refine SX.next ?_
  refine CW.ret ?_
  exact KN.retC (rs := [.cell 6 76]) Tryd.results66 (fun w hw => ⟨[_], ⟨⟨_, rfl, hw.ldRow (q := 2) rfl (by rfl)⟩, trivial⟩, q, rfl, hq, hw.pick [0] rfl⟩)
