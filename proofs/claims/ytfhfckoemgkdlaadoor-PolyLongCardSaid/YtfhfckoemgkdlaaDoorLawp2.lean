/- The statement PolyLong, walked. No condition but the errors' variables. -/
import Derived.Test.YtfhfckoemgkdlaaDoorLawp
namespace Go.Proofs.YtfhfckoemgkdlaaDoor
open Go.Sx Go.Fm
set_option maxRecDepth 100000

theorem pfrom_long (r g m : Nat) (A : Option Addr) (n c : Nat) (l : List Int) (e : Nat → Addr) (w : World) (hm : Ok m) (hr : Has (ringA r g m) w) (hn : 2048 < n) (he : Er e w 0) : Spec1 Tryd.prog 43 [.pointer (some ⟨r, 0, none⟩), .slice A n c] w (errRes e 0) := by
  refine spec_of Tryd.func43 rfl Tryd.ntmps43 rfl ?_
  refine CW.seq ?_
  refine CW.reg [0, 1] rfl ?_   -- 0, fieldpoly.go:126
  refine s_as 4 rfl rfl ?_
  refine s_as 5 rfl rfl ?_
  refine SX.next ?_
  refine CW.seq ?_
  refine CW.seq ?_
  refine CW.reg [0, 1, 2] rfl ?_   -- 1, fieldpoly.go:127
  refine s_mv 10 rfl rfl ?_
  refine s_len 11 rfl rfl ?_
  refine s_gt 12 rfl rfl rfl (decide_eq_true (by omega)) ?_
  refine SX.next ?_
  refine CW.condT rfl ?_
  refine CW.seq ?_
  refine CW.regD (.st true 0 (.st true 1 (.st true 2 .done))) (Sto w []) mixed (by kernel_rfl) (fun _ h => h.drew) (fun _ h => h) ?_
  refine s_ldS 13 rfl rfl (fun _ h => h.cell he) ?_
  refine s_as 4 rfl rfl ?_
  refine s_as 5 rfl rfl ?_
  refine SX.next ?_
  refine CW.ret ?_
  exact KN.ret (rs := [.tmp 4, .tmp 5]) Tryd.results43 rfl (fun w hw => ⟨rfl, hw.nothing⟩)

/-- The lowest eleven bits. -/
def m11 (n : Int) : Nat := (n % 2048).toNat
theorem m11_lt (n : Int) : m11 n < 2048 := by unfold m11; omega
theorem m11_eq (n : Int) : ibit .and .i64 n 2047 = (m11 n : Nat) := by
  rw [ibit_and_mask n (m := 11) (by omega) (by decide)]
  unfold m11
  show n % 2048 = _
  omega
def kk (n k : Nat) : Nat := if 200000 < n * k then 200000 / n else k
theorem kk_bd {n k : Nat} (hk : k < 2048) : kk n k < 2048 := by
  unfold kk
  split
  · rename_i h
    refine Nat.div_lt_of_lt_mul (Nat.lt_of_lt_of_le h ?_)
    exact Nat.mul_le_mul_left n (by omega)
  · exact hk
theorem mul11 {n k : Nat} (hn : n < 2048) (hk : k < 2048) : n * k ≤ 4194304 := Nat.mul_le_mul (show n ≤ 2048 by omega) (show k ≤ 2048 by omega)
theorem mul11i {n k : Nat} (hn : n < 2048) (hk : k < 2048) : IntKind.i64.wrap (((n : Nat) : Int) * (k : Nat)) = ((n * k : Nat) : Int) := by
  have := mul11 hn hk
  rw [← Int.natCast_mul]
  generalize n * k = z at this ⊢
  exact w64 (by omega)
theorem quo11 (n : Nat) : IntKind.i64.wrap ((200000 : Int).tdiv ((n : Nat) : Int)) = ((200000 / n : Nat) : Int) := by
  rw [show (200000 : Int).tdiv ((n : Nat) : Int) = ((200000 / n : Nat) : Int) from rfl]
  have := Nat.div_le_self 200000 n
  generalize 200000 / n = z at this ⊢
  exact w64 (by omega)
/-- Ones, so far. -/
def oneF (i j : Nat) : Int := if j < i then 1 else 0
theorem oneF_next (i : Nat) : (fun j => if j = i then 1 else oneF i j) = oneF (i + 1) := by
  funext j
  unfold oneF
  by_cases h : j = i
  · subst h; simp
  · rw [if_neg h]
    by_cases h2 : j < i
    · rw [if_pos h2, if_pos (by omega)]
    · rw [if_neg h2, if_neg (by omega)]
theorem ones_len {m : Nat} (hm : Ok m) (n : Nat) : (trim (lowL m (tab n (oneF n)))).length = n := by
  have hc : ∀ j, j < n → cf (lowL m (tab n (oneF n))) j = 1 := fun j hj => by
    rw [cf_low, tab_getD, if_pos hj]
    unfold oneF
    rw [if_pos hj, lo_one hm]
  rw [trim_length]
  have h1 := tl_le (lowL m (tab n (oneF n)))
  rw [lowL_len, tab_len] at h1
  refine Nat.le_antisymm h1 (Nat.le_of_not_lt fun hlt => ?_)
  have h2 := cf_hi (lowL m (tab n (oneF n))) (n - 1) (by omega)
  rw [hc _ (by omega)] at h2
  cases h2
theorem tabs_n {k : IntKind} {n : Nat} {F : Nat → Int} : (ints k (tab n F)).toArray.size = n * 1 := tab_size.trans (Nat.mul_one _).symm

theorem polyLong_a (a0 a1 : Int) (e : Nat → Addr) (w : World) (hz : Er e w 1) (hl : Er e w 0) (hlen : 2048 < m11 a0 + (kk (m11 a0) (m11 a1))) : Spec1 Tryd.prog 10 [.int .i64 a0, .int .i64 a1] w (.bool true) := by
  have hm : Ok (mkm 6 0) := mkm_ok (by omega) (by omega) 0
  have hn := m11_lt a0
  have hk := m11_lt a1
  refine spec_of Tryd.func10 rfl Tryd.ntmps10 rfl ?_
  refine CW.seq ?_
  refine CW.reg [0] rfl ?_   -- 0, law.go:115
  refine s_as 4 rfl rfl ?_
  refine SX.next ?_
  refine CW.seq ?_
  refine CW.reg [0, 1] rfl ?_   -- 1, law.go:116
  refine s_call1 16 rfl rfl rfl rfl (fun w hw => first4_spec w) (fun _ _ => trivial) ?_
  refine s_as 5 rfl rfl ?_
  refine SX.next ?_
  refine CW.seq ?_
  refine CW.reg [0, 1, 2, 3, 4, 5] rfl ?_   -- 2, law.go:117
  refine s_call 18 rfl rfl rfl rfl (fun w hw => ring4_spec 0 w) (fun _ _ => trivial) (fun q0 _ => ?_)
  refine s_mv 17 rfl rfl ?_
  refine s_ext 19 rfl rfl rfl ?_
  refine s_ext 20 rfl rfl rfl ?_
  refine s_as 6 rfl rfl ?_
  refine s_as 7 rfl rfl ?_
  refine SX.next ?_
  refine CW.seq ?_
  refine CW.seq ?_
  refine CW.reg [0, 1, 2, 3, 4, 5] rfl ?_   -- 3, law.go:118
  refine s_mv 21 rfl rfl ?_
  refine s_eqPN 22 rfl rfl ?_
  refine s_mv 23 rfl rfl ?_
  refine s_mv 24 rfl rfl ?_
  refine s_not 25 rfl rfl ?_
  refine s_pickF 26 rfl rfl rfl ?_
  refine SX.next ?_
  refine CW.condF rfl ?_
  refine CW.skip ?_
  refine KN.code ?_
  refine CW.seq ?_
  refine CW.reg [0, 1, 2] rfl ?_   -- 5, law.go:121
  refine s_mv 27 rfl rfl ?_
  refine s_bit 28 rfl rfl rfl rfl (m11_eq a0) ?_
  refine s_as 0 rfl rfl ?_
  refine SX.next ?_
  refine CW.seq ?_
  refine CW.reg [0, 1, 2] rfl ?_   -- 6, law.go:122
  refine s_mv 29 rfl rfl ?_
  refine s_bit 30 rfl rfl rfl rfl (m11_eq a1) ?_
  refine s_as 1 rfl rfl ?_
  refine SX.next ?_
  refine CW.cut (G := Unit) (fun _ => [(0, .int .i64 (m11 a0 : Nat)), (1, .int .i64 ((kk (m11 a0) (m11 a1)) : Nat)), (6, .pointer (some ⟨q0.1, 0, none⟩))]) (fun _ => Sto w [blk q0.1 90 #[.pointer (some ⟨q0.2, 0, none⟩)], fieldA q0.2 (mkm 6 0)]) (fun _ => True) ?_ ?_
  · skip
    refine CW.seq ?_
    refine CW.reg [0, 1, 2, 3] rfl ?_   -- 7, law.go:123
    refine s_mv 31 rfl rfl ?_
    refine s_mv 32 rfl rfl ?_
    refine s_mul 33 rfl rfl rfl (mul11i hn hk) ?_
    refine s_gt 34 rfl rfl rfl rfl ?_
    refine SX.next ?_
    refine CW.test rfl (fun hc => ?_) (fun hc => ?_)
    · skip
      have hkk : kk (m11 a0) (m11 a1) = 200000 / m11 a0 := if_pos (by omega)
      have hn0 : m11 a0 ≠ 0 := fun h => by rw [h] at hc; simp at hc
      refine CW.reg [0, 1, 2] rfl ?_   -- 8, law.go:124
      refine s_mv 35 rfl rfl ?_
      refine s_quo 36 rfl rfl rfl (by omega) (r := ((kk (m11 a0) (m11 a1) : Nat) : Int)) (by rw [hkk]; exact quo11 _) ?_
      refine s_as 1 rfl rfl ?_
      refine SX.end_ ?_
      exact KN.join () ⟨rfl, rfl, rfl, trivial⟩ (fun _ h => h) trivial
    · skip
      have hkk : kk (m11 a0) (m11 a1) = m11 a1 := if_neg (by omega)
      refine CW.skip ?_
      exact KN.join () ⟨rfl, by rw [hkk]; rfl, rfl, trivial⟩ (fun _ h => h) trivial
  · skip
    intro _ _
    have hkb := kk_bd (n := m11 a0) hk
    have hs1 := ones_len hm (m11 a0)
    have hs2 := ones_len hm (kk (m11 a0) (m11 a1))
    refine CW.seq ?_
    refine CW.reg [0, 1, 2] rfl ?_   -- 9, law.go:126
    refine s_mv 37 rfl rfl ?_
    refine s_make 38 (m11 a0) rfl rfl rfl rfl rfl (by omega) (fun _ _ => trivial) (fun gp => ?_)
    refine s_as 8 rfl rfl ?_
    refine SX.next ?_
    refine CW.seq ?_
    refine CW.reg [0, 1, 2] rfl ?_   -- 10, law.go:127
    refine s_mv 39 rfl rfl ?_
    refine s_make 40 (kk (m11 a0) (m11 a1)) rfl rfl rfl rfl rfl (by omega) (fun _ _ => trivial) (fun gq => ?_)
    refine s_as 9 rfl rfl ?_
    refine SX.next ?_
    refine CW.seq ?_
    refine CW.seq ?_
    refine CW.reg [0] rfl ?_   -- 11, law.go:128
    refine s_as 10 rfl rfl ?_
    refine SX.next ?_
    refine CW.block ?_
    refine CW.loop (G := Nat) (fun i => [(0, .int .i64 (m11 a0 : Nat)), (1, .int .i64 ((kk (m11 a0) (m11 a1)) : Nat)), (6, .pointer (some ⟨q0.1, 0, none⟩)), (8, .slice (some ⟨gp, 0, none⟩) (m11 a0) (m11 a0)), (9, .slice (some ⟨gq, 0, none⟩) (kk (m11 a0) (m11 a1)) (kk (m11 a0) (m11 a1))), (10, .int .i64 (i : Nat))]) (fun i => Sto w [blk gq 3 (ints .i64 (tab (kk (m11 a0) (m11 a1)) (oneF 0))).toArray, blk gp 3 (ints .i64 (tab (m11 a0) (oneF i))).toArray, blk q0.1 90 #[.pointer (some ⟨q0.2, 0, none⟩)], fieldA q0.2 (mkm 6 0)]) (fun i => i ≤ m11 a0) (fun i => m11 a0 - i) 0 ⟨rfl, rfl, rfl, rfl, rfl, rfl, trivial⟩ (fun _ h => by rw [show tab (kk (m11 a0) (m11 a1)) (oneF 0) = tab (kk (m11 a0) (m11 a1)) (fun _ => 0) from tab_cong (fun j _ => by simp [oneF]), show tab (m11 a0) (oneF 0) = tab (m11 a0) (fun _ => 0) from tab_cong (fun j _ => by simp [oneF]), ← tab_zero, ← tab_zero]; exact h) (Nat.zero_le _) ?_
    intro i hi
    refine CW.seq ?_
    refine CW.seq ?_
    refine CW.reg [0, 1, 2] rfl ?_   -- 12, law.go:128
    refine s_mv 41 rfl rfl ?_
    refine s_mv 42 rfl rfl ?_
    refine s_lt 43 rfl rfl rfl rfl ?_
    refine SX.next ?_
    refine CW.test rfl (fun hc => ?_) (fun hc => ?_)
    · skip
      refine CW.skip ?_
      refine KN.code ?_
      refine CW.seq ?_
      refine CW.block ?_
      refine CW.reg [0, 1, 2, 3] rfl ?_   -- 14, law.go:129
      refine s_mv 46 rfl rfl ?_
      refine s_mv 47 rfl rfl ?_
      refine s_ia0 48 i rfl rfl rfl rfl (by omega) ?_
      refine s_stB 1 rfl rfl rfl rfl rfl (by rw [tab_size]; omega) (fun _ _ => trivial) ?_
      refine SX.end_ ?_
      refine KN.blk ?_
      refine KN.code ?_
      refine CW.reg [0, 1, 2] rfl ?_   -- 13, law.go:128
      refine s_mv 44 rfl rfl ?_
      refine s_add 45 rfl rfl rfl (r := ((i + 1 : Nat) : Int)) (w64 (by omega)) ?_
      refine s_as 10 rfl rfl ?_
      refine SX.end_ ?_
      exact KN.back (i + 1) ⟨rfl, rfl, rfl, rfl, rfl, rfl, trivial⟩ (fun _ h => by rw [← oneF_next, ← tab_set]; exact h) (by omega) (by omega)
    · skip
      obtain rfl : i = m11 a0 := by omega
      refine CW.exit rfl ?_
      refine KN.code ?_
      refine CW.seq ?_
      refine CW.seq ?_
      refine CW.reg [0] rfl ?_   -- 15, law.go:131
      refine s_as 11 rfl rfl ?_
      refine SX.next ?_
      refine CW.block ?_
      refine CW.loop (G := Nat) (fun i => [(0, .int .i64 (m11 a0 : Nat)), (1, .int .i64 ((kk (m11 a0) (m11 a1)) : Nat)), (6, .pointer (some ⟨q0.1, 0, none⟩)), (8, .slice (some ⟨gp, 0, none⟩) (m11 a0) (m11 a0)), (9, .slice (some ⟨gq, 0, none⟩) (kk (m11 a0) (m11 a1)) (kk (m11 a0) (m11 a1))), (11, .int .i64 (i : Nat))]) (fun i => Sto w [blk gq 3 (ints .i64 (tab (kk (m11 a0) (m11 a1)) (oneF i))).toArray, blk gp 3 (ints .i64 (tab (m11 a0) (oneF (m11 a0)))).toArray, blk q0.1 90 #[.pointer (some ⟨q0.2, 0, none⟩)], fieldA q0.2 (mkm 6 0)]) (fun i => i ≤ (kk (m11 a0) (m11 a1))) (fun i => (kk (m11 a0) (m11 a1)) - i) 0 ⟨rfl, rfl, rfl, rfl, rfl, rfl, trivial⟩ (fun _ h => h) (Nat.zero_le _) ?_
      intro i hi
      refine CW.seq ?_
      refine CW.seq ?_
      refine CW.reg [0, 1, 2] rfl ?_   -- 16, law.go:131
      refine s_mv 49 rfl rfl ?_
      refine s_mv 50 rfl rfl ?_
      refine s_lt 51 rfl rfl rfl rfl ?_
      refine SX.next ?_
      refine CW.test rfl (fun hc => ?_) (fun hc => ?_)
      · skip
        refine CW.skip ?_
        refine KN.code ?_
        refine CW.seq ?_
        refine CW.block ?_
        refine CW.reg [0, 1, 2, 3] rfl ?_   -- 18, law.go:132
        refine s_mv 54 rfl rfl ?_
        refine s_mv 55 rfl rfl ?_
        refine s_ia0 56 i rfl rfl rfl rfl (by omega) ?_
        refine s_stB 0 rfl rfl rfl rfl rfl (by rw [tab_size]; omega) (fun _ _ => trivial) ?_
        refine SX.end_ ?_
        refine KN.blk ?_
        refine KN.code ?_
        refine CW.reg [0, 1, 2] rfl ?_   -- 17, law.go:131
        refine s_mv 52 rfl rfl ?_
        refine s_add 53 rfl rfl rfl (r := ((i + 1 : Nat) : Int)) (w64 (by omega)) ?_
        refine s_as 11 rfl rfl ?_
        refine SX.end_ ?_
        exact KN.back (i + 1) ⟨rfl, rfl, rfl, rfl, rfl, rfl, trivial⟩ (fun _ h => by rw [← oneF_next, ← tab_set]; exact h) (by omega) (by omega)
      · skip
        obtain rfl : i = (kk (m11 a0) (m11 a1)) := by omega
        refine CW.exit rfl ?_
        refine KN.code ?_
        refine CW.seq ?_
        refine CW.reg [0, 1, 2, 3, 4, 5, 6, 7, 8] rfl ?_   -- 19, law.go:134
        refine s_mv 58 rfl rfl ?_
        refine s_mv 59 rfl rfl ?_
        refine s_mv 60 rfl rfl ?_
        refine s_call1 61 rfl rfl rfl rfl (fun w hw => pmul_long q0.1 q0.2 _ (some ⟨gp, 0, none⟩) (m11 a0) (m11 a0) (tab (m11 a0) (oneF (m11 a0))) (some ⟨gq, 0, none⟩) (kk (m11 a0) (m11 a1)) (kk (m11 a0) (m11 a1)) (tab (kk (m11 a0) (m11 a1)) (oneF (kk (m11 a0) (m11 a1)))) e _ hm (ring_of (hw.has (i := 3) rfl) (hw.has (i := 2) rfl)) ((hw.has (i := 1) rfl).blk_sl (m := (m11 a0)) tabs_n) ((hw.has (i := 0) rfl).blk_sl (m := (kk (m11 a0) (m11 a1))) tabs_n) (by omega) (by omega) (hw.er hl) (by rw [hs1, hs2]; exact hlen)) (fun _ _ => trivial) ?_
        refine s_mv 57 rfl rfl ?_
        refine s_ext 62 rfl rfl rfl ?_
        refine s_ext 63 rfl rfl rfl ?_
        refine s_as 12 rfl rfl ?_
        refine s_as 13 rfl rfl ?_
        refine SX.next ?_
        refine CW.seq ?_
        refine CW.seq ?_
        refine CW.reg [0, 1, 2, 3, 4, 5, 6, 7, 8, 9, 10, 11] rfl ?_   -- 20, law.go:135
        refine s_mv 64 rfl rfl ?_
        refine s_mv 65 rfl rfl ?_
        refine s_add 66 rfl rfl rfl (w64 (by omega)) ?_
        refine s_gt 67 rfl rfl rfl (decide_eq_true (by omega)) ?_
        refine s_mv 68 rfl rfl ?_
        refine s_mv 69 rfl rfl ?_
        refine s_gt 70 rfl rfl rfl (decide_eq_true (by omega)) ?_
        refine s_pickT 71 rfl rfl rfl ?_
        refine s_mv 72 rfl rfl ?_
        refine s_mv 73 rfl rfl ?_
        refine s_gt 74 rfl rfl rfl (decide_eq_true (by omega)) ?_
        refine s_pickT 75 rfl rfl rfl ?_
        refine SX.next ?_
        refine CW.condT rfl ?_
        refine CW.seq ?_
        refine CW.reg [0, 1, 2, 3, 4, 5, 6, 7] rfl ?_   -- 21, law.go:136
        refine s_mv 76 rfl rfl ?_
        refine s_ld 77 rfl rfl (fun _ h => h.cell hl) ?_
        refine s_neE 78 rfl rfl rfl ?_
        refine s_mv 79 rfl rfl ?_
        refine s_mv 80 rfl rfl ?_
        refine s_len 81 rfl rfl ?_
        refine s_ne 82 rfl rfl rfl (decide_eq_false (by omega)) ?_
        refine s_pickF 83 rfl rfl rfl ?_
        refine SX.next ?_
        refine CW.condF rfl ?_
        refine CW.skip ?_
        refine KN.code ?_
        refine CW.seq ?_
        refine CW.reg [0, 1, 2, 3, 4, 5, 6, 7] rfl ?_   -- 25, law.go:142
        refine s_mv 110 rfl rfl ?_
        refine s_make 111 2049 rfl rfl rfl rfl rfl (by omega) (fun _ _ => trivial) (fun gz => ?_)
        refine s_call1 112 rfl rfl rfl rfl (fun w hw => pfrom_long q0.1 q0.2 _ (some ⟨gz, 0, none⟩) 2049 2049 (List.replicate 2049 0) e _ hm (ring_of (hw.has (i := 4) rfl) (hw.has (i := 3) rfl)) (by omega) (hw.er hl)) (fun _ _ => trivial) ?_
        refine s_mv 109 rfl rfl ?_
        refine s_ext 113 rfl rfl rfl ?_
        refine s_ext 114 rfl rfl rfl ?_
        refine s_as 14 rfl rfl ?_
        refine s_as 15 rfl rfl ?_
        refine SX.next ?_
        refine CW.seq ?_
        refine CW.reg [0, 1, 2, 3] rfl ?_   -- 26, law.go:143
        refine s_mv 115 rfl rfl ?_
        refine s_ld 116 rfl rfl (fun _ h => h.cell hl) ?_
        refine s_eqE 117 rfl rfl rfl ?_
        refine s_as 4 rfl rfl ?_
        refine SX.next ?_
        refine CW.ret ?_
        exact KN.ret (rs := [.tmp 4]) Tryd.results10 rfl (fun w hw => ⟨rfl, hw.nothing⟩)

theorem polyLong_b (a0 a1 : Int) (e : Nat → Addr) (w : World) (hz : Er e w 1) (hl : Er e w 0) (hlen : ¬ 2048 < m11 a0 + (kk (m11 a0) (m11 a1))) : Spec1 Tryd.prog 10 [.int .i64 a0, .int .i64 a1] w (.bool true) := by
  have hm : Ok (mkm 6 0) := mkm_ok (by omega) (by omega) 0
  have hn := m11_lt a0
  have hk := m11_lt a1
  refine spec_of Tryd.func10 rfl Tryd.ntmps10 rfl ?_
  refine CW.seq ?_
  refine CW.reg [0] rfl ?_   -- 0, law.go:115
  refine s_as 4 rfl rfl ?_
  refine SX.next ?_
  refine CW.seq ?_
  refine CW.reg [0, 1] rfl ?_   -- 1, law.go:116
  refine s_call1 16 rfl rfl rfl rfl (fun w hw => first4_spec w) (fun _ _ => trivial) ?_
  refine s_as 5 rfl rfl ?_
  refine SX.next ?_
  refine CW.seq ?_
  refine CW.reg [0, 1, 2, 3, 4, 5] rfl ?_   -- 2, law.go:117
  refine s_call 18 rfl rfl rfl rfl (fun w hw => ring4_spec 0 w) (fun _ _ => trivial) (fun q0 _ => ?_)
  refine s_mv 17 rfl rfl ?_
  refine s_ext 19 rfl rfl rfl ?_
  refine s_ext 20 rfl rfl rfl ?_
  refine s_as 6 rfl rfl ?_
  refine s_as 7 rfl rfl ?_
  refine SX.next ?_
  refine CW.seq ?_
  refine CW.seq ?_
  refine CW.reg [0, 1, 2, 3, 4, 5] rfl ?_   -- 3, law.go:118
  refine s_mv 21 rfl rfl ?_
  refine s_eqPN 22 rfl rfl ?_
  refine s_mv 23 rfl rfl ?_
  refine s_mv 24 rfl rfl ?_
  refine s_not 25 rfl rfl ?_
  refine s_pickF 26 rfl rfl rfl ?_
  refine SX.next ?_
  refine CW.condF rfl ?_
  refine CW.skip ?_
  refine KN.code ?_
  refine CW.seq ?_
  refine CW.reg [0, 1, 2] rfl ?_   -- 5, law.go:121
  refine s_mv 27 rfl rfl ?_
  refine s_bit 28 rfl rfl rfl rfl (m11_eq a0) ?_
  refine s_as 0 rfl rfl ?_
  refine SX.next ?_
  refine CW.seq ?_
  refine CW.reg [0, 1, 2] rfl ?_   -- 6, law.go:122
  refine s_mv 29 rfl rfl ?_
  refine s_bit 30 rfl rfl rfl rfl (m11_eq a1) ?_
  refine s_as 1 rfl rfl ?_
  refine SX.next ?_
  refine CW.cut (G := Unit) (fun _ => [(0, .int .i64 (m11 a0 : Nat)), (1, .int .i64 ((kk (m11 a0) (m11 a1)) : Nat)), (6, .pointer (some ⟨q0.1, 0, none⟩))]) (fun _ => Sto w [blk q0.1 90 #[.pointer (some ⟨q0.2, 0, none⟩)], fieldA q0.2 (mkm 6 0)]) (fun _ => True) ?_ ?_
  · skip
    refine CW.seq ?_
    refine CW.reg [0, 1, 2, 3] rfl ?_   -- 7, law.go:123
    refine s_mv 31 rfl rfl ?_
    refine s_mv 32 rfl rfl ?_
    refine s_mul 33 rfl rfl rfl (mul11i hn hk) ?_
    refine s_gt 34 rfl rfl rfl rfl ?_
    refine SX.next ?_
    refine CW.test rfl (fun hc => ?_) (fun hc => ?_)
    · skip
      have hkk : kk (m11 a0) (m11 a1) = 200000 / m11 a0 := if_pos (by omega)
      have hn0 : m11 a0 ≠ 0 := fun h => by rw [h] at hc; simp at hc
      refine CW.reg [0, 1, 2] rfl ?_   -- 8, law.go:124
      refine s_mv 35 rfl rfl ?_
      refine s_quo 36 rfl rfl rfl (by omega) (r := ((kk (m11 a0) (m11 a1) : Nat) : Int)) (by rw [hkk]; exact quo11 _) ?_
      refine s_as 1 rfl rfl ?_
      refine SX.end_ ?_
      exact KN.join () ⟨rfl, rfl, rfl, trivial⟩ (fun _ h => h) trivial
    · skip
      have hkk : kk (m11 a0) (m11 a1) = m11 a1 := if_neg (by omega)
      refine CW.skip ?_
      exact KN.join () ⟨rfl, by rw [hkk]; rfl, rfl, trivial⟩ (fun _ h => h) trivial
  · skip
    intro _ _
    have hkb := kk_bd (n := m11 a0) hk
    have hs1 := ones_len hm (m11 a0)
    have hs2 := ones_len hm (kk (m11 a0) (m11 a1))
    refine CW.seq ?_
    refine CW.reg [0, 1, 2] rfl ?_   -- 9, law.go:126
    refine s_mv 37 rfl rfl ?_
    refine s_make 38 (m11 a0) rfl rfl rfl rfl rfl (by omega) (fun _ _ => trivial) (fun gp => ?_)
    refine s_as 8 rfl rfl ?_
    refine SX.next ?_
    refine CW.seq ?_
    refine CW.reg [0, 1, 2] rfl ?_   -- 10, law.go:127
    refine s_mv 39 rfl rfl ?_
    refine s_make 40 (kk (m11 a0) (m11 a1)) rfl rfl rfl rfl rfl (by omega) (fun _ _ => trivial) (fun gq => ?_)
    refine s_as 9 rfl rfl ?_
    refine SX.next ?_
    refine CW.seq ?_
    refine CW.seq ?_
    refine CW.reg [0] rfl ?_   -- 11, law.go:128
    refine s_as 10 rfl rfl ?_
    refine SX.next ?_
    refine CW.block ?_
    refine CW.loop (G := Nat) (fun i => [(0, .int .i64 (m11 a0 : Nat)), (1, .int .i64 ((kk (m11 a0) (m11 a1)) : Nat)), (6, .pointer (some ⟨q0.1, 0, none⟩)), (8, .slice (some ⟨gp, 0, none⟩) (m11 a0) (m11 a0)), (9, .slice (some ⟨gq, 0, none⟩) (kk (m11 a0) (m11 a1)) (kk (m11 a0) (m11 a1))), (10, .int .i64 (i : Nat))]) (fun i => Sto w [blk gq 3 (ints .i64 (tab (kk (m11 a0) (m11 a1)) (oneF 0))).toArray, blk gp 3 (ints .i64 (tab (m11 a0) (oneF i))).toArray, blk q0.1 90 #[.pointer (some ⟨q0.2, 0, none⟩)], fieldA q0.2 (mkm 6 0)]) (fun i => i ≤ m11 a0) (fun i => m11 a0 - i) 0 ⟨rfl, rfl, rfl, rfl, rfl, rfl, trivial⟩ (fun _ h => by rw [show tab (kk (m11 a0) (m11 a1)) (oneF 0) = tab (kk (m11 a0) (m11 a1)) (fun _ => 0) from tab_cong (fun j _ => by simp [oneF]), show tab (m11 a0) (oneF 0) = tab (m11 a0) (fun _ => 0) from tab_cong (fun j _ => by simp [oneF]), ← tab_zero, ← tab_zero]; exact h) (Nat.zero_le _) ?_
    intro i hi
    refine CW.seq ?_
    refine CW.seq ?_
    refine CW.reg [0, 1, 2] rfl ?_   -- 12, law.go:128
    refine s_mv 41 rfl rfl ?_
    refine s_mv 42 rfl rfl ?_
    refine s_lt 43 rfl rfl rfl rfl ?_
    refine SX.next ?_
    refine CW.test rfl (fun hc => ?_) (fun hc => ?_)
    · skip
      refine CW.skip ?_
      refine KN.code ?_
      refine CW.seq ?_
      refine CW.block ?_
      refine CW.reg [0, 1, 2, 3] rfl ?_   -- 14, law.go:129
      refine s_mv 46 rfl rfl ?_
      refine s_mv 47 rfl rfl ?_
      refine s_ia0 48 i rfl rfl rfl rfl (by omega) ?_
      refine s_stB 1 rfl rfl rfl rfl rfl (by rw [tab_size]; omega) (fun _ _ => trivial) ?_
      refine SX.end_ ?_
      refine KN.blk ?_
      refine KN.code ?_
      refine CW.reg [0, 1, 2] rfl ?_   -- 13, law.go:128
      refine s_mv 44 rfl rfl ?_
      refine s_add 45 rfl rfl rfl (r := ((i + 1 : Nat) : Int)) (w64 (by omega)) ?_
      refine s_as 10 rfl rfl ?_
      refine SX.end_ ?_
      exact KN.back (i + 1) ⟨rfl, rfl, rfl, rfl, rfl, rfl, trivial⟩ (fun _ h => by rw [← oneF_next, ← tab_set]; exact h) (by omega) (by omega)
    · skip
      obtain rfl : i = m11 a0 := by omega
      refine CW.exit rfl ?_
      refine KN.code ?_
      refine CW.seq ?_
      refine CW.seq ?_
      refine CW.reg [0] rfl ?_   -- 15, law.go:131
      refine s_as 11 rfl rfl ?_
      refine SX.next ?_
      refine CW.block ?_
      refine CW.loop (G := Nat) (fun i => [(0, .int .i64 (m11 a0 : Nat)), (1, .int .i64 ((kk (m11 a0) (m11 a1)) : Nat)), (6, .pointer (some ⟨q0.1, 0, none⟩)), (8, .slice (some ⟨gp, 0, none⟩) (m11 a0) (m11 a0)), (9, .slice (some ⟨gq, 0, none⟩) (kk (m11 a0) (m11 a1)) (kk (m11 a0) (m11 a1))), (11, .int .i64 (i : Nat))]) (fun i => Sto w [blk gq 3 (ints .i64 (tab (kk (m11 a0) (m11 a1)) (oneF i))).toArray, blk gp 3 (ints .i64 (tab (m11 a0) (oneF (m11 a0)))).toArray, blk q0.1 90 #[.pointer (some ⟨q0.2, 0, none⟩)], fieldA q0.2 (mkm 6 0)]) (fun i => i ≤ (kk (m11 a0) (m11 a1))) (fun i => (kk (m11 a0) (m11 a1)) - i) 0 ⟨rfl, rfl, rfl, rfl, rfl, rfl, trivial⟩ (fun _ h => h) (Nat.zero_le _) ?_
      intro i hi
      refine CW.seq ?_
      refine CW.seq ?_
      refine CW.reg [0, 1, 2] rfl ?_   -- 16, law.go:131
      refine s_mv 49 rfl rfl ?_
      refine s_mv 50 rfl rfl ?_
      refine s_lt 51 rfl rfl rfl rfl ?_
      refine SX.next ?_
      refine CW.test rfl (fun hc => ?_) (fun hc => ?_)
      · skip
        refine CW.skip ?_
        refine KN.code ?_
        refine CW.seq ?_
        refine CW.block ?_
        refine CW.reg [0, 1, 2, 3] rfl ?_   -- 18, law.go:132
        refine s_mv 54 rfl rfl ?_
        refine s_mv 55 rfl rfl ?_
        refine s_ia0 56 i rfl rfl rfl rfl (by omega) ?_
        refine s_stB 0 rfl rfl rfl rfl rfl (by rw [tab_size]; omega) (fun _ _ => trivial) ?_
        refine SX.end_ ?_
        refine KN.blk ?_
        refine KN.code ?_
        refine CW.reg [0, 1, 2] rfl ?_   -- 17, law.go:131
        refine s_mv 52 rfl rfl ?_
        refine s_add 53 rfl rfl rfl (r := ((i + 1 : Nat) : Int)) (w64 (by omega)) ?_
        refine s_as 11 rfl rfl ?_
        refine SX.end_ ?_
        exact KN.back (i + 1) ⟨rfl, rfl, rfl, rfl, rfl, rfl, trivial⟩ (fun _ h => by rw [← oneF_next, ← tab_set]; exact h) (by omega) (by omega)
      · skip
        obtain rfl : i = (kk (m11 a0) (m11 a1)) := by omega
        refine CW.exit rfl ?_
        refine KN.code ?_
        refine CW.seq ?_
        refine CW.reg [0, 1, 2, 3, 4, 5, 6, 7, 8] rfl ?_   -- 19, law.go:134
        refine s_mv 58 rfl rfl ?_
        refine s_mv 59 rfl rfl ?_
        refine s_mv 60 rfl rfl ?_
        refine s_call 61 rfl rfl rfl rfl (fun w hw => pmul_spec q0.1 q0.2 _ (some ⟨gp, 0, none⟩) (m11 a0) (m11 a0) (tab (m11 a0) (oneF (m11 a0))) (some ⟨gq, 0, none⟩) (kk (m11 a0) (m11 a1)) (kk (m11 a0) (m11 a1)) (tab (kk (m11 a0) (m11 a1)) (oneF (kk (m11 a0) (m11 a1)))) _ hm (ring_of (hw.has (i := 3) rfl) (hw.has (i := 2) rfl)) ((hw.has (i := 1) rfl).blk_sl (m := (m11 a0)) tabs_n) ((hw.has (i := 0) rfl).blk_sl (m := (kk (m11 a0) (m11 a1))) tabs_n) (by omega) (by omega) (by rw [hs1, hs2]; omega)) (fun _ _ => trivial) (fun q1 hq1 => ?_)
        refine s_mv 57 rfl rfl ?_
        refine s_ext 62 rfl rfl rfl ?_
        refine s_ext 63 rfl rfl rfl ?_
        refine s_as 12 rfl rfl ?_
        refine s_as 13 rfl rfl ?_
        refine SX.next ?_
        refine CW.seq ?_
        refine CW.seq ?_
        refine CW.reg [0, 1, 2, 3, 4, 5, 6, 7, 8, 9, 10, 11] rfl ?_   -- 20, law.go:135
        refine s_mv 64 rfl rfl ?_
        refine s_mv 65 rfl rfl ?_
        refine s_add 66 rfl rfl rfl (w64 (by omega)) ?_
        refine s_gt 67 rfl rfl rfl (decide_eq_false (by omega)) ?_
        refine s_mv 68 rfl rfl ?_
        refine SX.skip rfl ?_
        refine SX.skip rfl ?_
        refine s_pickF 71 rfl rfl rfl ?_
        refine s_mv 72 rfl rfl ?_
        refine SX.skip rfl ?_
        refine SX.skip rfl ?_
        refine s_pickF 75 rfl rfl rfl ?_
        refine SX.next ?_
        refine CW.condF rfl ?_
        refine CW.seq ?_
        refine CW.reg [0, 1, 2, 3, 4, 5, 6, 7, 8, 9, 10, 11, 12, 13, 14, 15, 16, 17, 18, 19, 20, 21, 22, 23, 24] rfl ?_   -- 23, law.go:139
        refine s_mv 84 rfl rfl ?_
        refine s_mv 85 rfl rfl ?_
        refine s_add 86 rfl rfl rfl (w64 (by omega)) ?_
        refine s_le 87 rfl rfl rfl (decide_eq_true (by omega)) ?_
        refine s_mv 88 rfl rfl ?_
        refine s_mv 89 rfl rfl ?_
        refine s_neNN 90 rfl rfl ?_
        refine s_mv 91 rfl rfl ?_
        refine s_mv 92 rfl rfl ?_
        refine s_gt 93 rfl rfl rfl rfl ?_
        refine s_mv 94 rfl rfl ?_
        refine SX.bool 94 rfl (fun hb => ?_) (fun hb => ?_)
        · skip
          replace hb := of_decide_eq_true hb
          refine s_mv 95 rfl rfl ?_
          refine s_gt 96 rfl rfl rfl rfl ?_
          refine s_pickT 97 rfl rfl rfl ?_
          refine s_mv 98 rfl rfl ?_
          refine SX.bool 98 rfl (fun hb => ?_) (fun hb => ?_)
          · skip
            have hb3 := of_decide_eq_true hb
            have hml := mulP_len hm (trimLow_tr _ (tab (m11 a0) (oneF (m11 a0)))) (trimLow_tr _ (tab (kk (m11 a0) (m11 a1)) (oneF (kk (m11 a0) (m11 a1))))) (by omega) (by omega)
            rw [hs1, hs2] at hml
            refine s_mv 99 rfl rfl ?_
            refine s_len 100 rfl rfl ?_
            refine s_mv 101 rfl rfl ?_
            refine s_mv 102 rfl rfl ?_
            refine s_add 103 rfl rfl rfl (w64 (by omega)) ?_
            refine s_sub 104 rfl rfl rfl (r := ((m11 a0 + (kk (m11 a0) (m11 a1)) - 1 : Nat) : Int)) (by rw [show ((m11 a0 : Nat) : Int) + ((kk (m11 a0) (m11 a1)) : Nat) - 1 = ((m11 a0 + (kk (m11 a0) (m11 a1)) - 1 : Nat) : Int) by omega]; exact w64 (by omega)) ?_
            refine s_ne 105 rfl rfl rfl (decide_eq_false (by rw [hml]; omega)) ?_
            refine s_pickT 106 rfl rfl rfl ?_
            refine s_pickF 107 rfl rfl rfl ?_
            refine s_pickT 108 rfl rfl rfl ?_
            refine SX.next ?_
            refine CW.condF rfl ?_
            refine CW.skip ?_
            refine KN.code ?_
            refine CW.seq ?_
            refine CW.reg [0, 1, 2, 3, 4, 5, 6, 7] rfl ?_   -- 25, law.go:142
            refine s_mv 110 rfl rfl ?_
            refine s_make 111 2049 rfl rfl rfl rfl rfl (by omega) (fun _ _ => trivial) (fun gz => ?_)
            refine s_call1 112 rfl rfl rfl rfl (fun w hw => pfrom_long q0.1 q0.2 _ (some ⟨gz, 0, none⟩) 2049 2049 (List.replicate 2049 0) e _ hm (ring_of (hw.has (i := 5) rfl) (hw.has (i := 4) rfl)) (by omega) (hw.er hl)) (fun _ _ => trivial) ?_
            refine s_mv 109 rfl rfl ?_
            refine s_ext 113 rfl rfl rfl ?_
            refine s_ext 114 rfl rfl rfl ?_
            refine s_as 14 rfl rfl ?_
            refine s_as 15 rfl rfl ?_
            refine SX.next ?_
            refine CW.seq ?_
            refine CW.reg [0, 1, 2, 3] rfl ?_   -- 26, law.go:143
            refine s_mv 115 rfl rfl ?_
            refine s_ld 116 rfl rfl (fun _ h => h.cell hl) ?_
            refine s_eqE 117 rfl rfl rfl ?_
            refine s_as 4 rfl rfl ?_
            refine SX.next ?_
            refine CW.ret ?_
            exact KN.ret (rs := [.tmp 4]) Tryd.results10 rfl (fun w hw => ⟨rfl, hw.nothing⟩)
          · skip
            refine SX.skip rfl ?_
            refine SX.skip rfl ?_
            refine SX.skip rfl ?_
            refine SX.skip rfl ?_
            refine SX.skip rfl ?_
            refine SX.skip rfl ?_
            refine SX.skip rfl ?_
            refine s_pickF 106 rfl rfl rfl ?_
            refine s_pickF 107 rfl rfl rfl ?_
            refine s_pickT 108 rfl rfl rfl ?_
            refine SX.next ?_
            refine CW.condF rfl ?_
            refine CW.skip ?_
            refine KN.code ?_
            refine CW.seq ?_
            refine CW.reg [0, 1, 2, 3, 4, 5, 6, 7] rfl ?_   -- 25, law.go:142
            refine s_mv 110 rfl rfl ?_
            refine s_make 111 2049 rfl rfl rfl rfl rfl (by omega) (fun _ _ => trivial) (fun gz => ?_)
            refine s_call1 112 rfl rfl rfl rfl (fun w hw => pfrom_long q0.1 q0.2 _ (some ⟨gz, 0, none⟩) 2049 2049 (List.replicate 2049 0) e _ hm (ring_of (hw.has (i := 5) rfl) (hw.has (i := 4) rfl)) (by omega) (hw.er hl)) (fun _ _ => trivial) ?_
            refine s_mv 109 rfl rfl ?_
            refine s_ext 113 rfl rfl rfl ?_
            refine s_ext 114 rfl rfl rfl ?_
            refine s_as 14 rfl rfl ?_
            refine s_as 15 rfl rfl ?_
            refine SX.next ?_
            refine CW.seq ?_
            refine CW.reg [0, 1, 2, 3] rfl ?_   -- 26, law.go:143
            refine s_mv 115 rfl rfl ?_
            refine s_ld 116 rfl rfl (fun _ h => h.cell hl) ?_
            refine s_eqE 117 rfl rfl rfl ?_
            refine s_as 4 rfl rfl ?_
            refine SX.next ?_
            refine CW.ret ?_
            exact KN.ret (rs := [.tmp 4]) Tryd.results10 rfl (fun w hw => ⟨rfl, hw.nothing⟩)
        · skip
          refine SX.skip rfl ?_
          refine SX.skip rfl ?_
          refine s_pickF 97 rfl rfl rfl ?_
          refine s_mv 98 rfl rfl ?_
          refine SX.skip rfl ?_
          refine SX.skip rfl ?_
          refine SX.skip rfl ?_
          refine SX.skip rfl ?_
          refine SX.skip rfl ?_
          refine SX.skip rfl ?_
          refine SX.skip rfl ?_
          refine s_pickF 106 rfl rfl rfl ?_
          refine s_pickF 107 rfl rfl rfl ?_
          refine s_pickT 108 rfl rfl rfl ?_
          refine SX.next ?_
          refine CW.condF rfl ?_
          refine CW.skip ?_
          refine KN.code ?_
          refine CW.seq ?_
          refine CW.reg [0, 1, 2, 3, 4, 5, 6, 7] rfl ?_   -- 25, law.go:142
          refine s_mv 110 rfl rfl ?_
          refine s_make 111 2049 rfl rfl rfl rfl rfl (by omega) (fun _ _ => trivial) (fun gz => ?_)
          refine s_call1 112 rfl rfl rfl rfl (fun w hw => pfrom_long q0.1 q0.2 _ (some ⟨gz, 0, none⟩) 2049 2049 (List.replicate 2049 0) e _ hm (ring_of (hw.has (i := 5) rfl) (hw.has (i := 4) rfl)) (by omega) (hw.er hl)) (fun _ _ => trivial) ?_
          refine s_mv 109 rfl rfl ?_
          refine s_ext 113 rfl rfl rfl ?_
          refine s_ext 114 rfl rfl rfl ?_
          refine s_as 14 rfl rfl ?_
          refine s_as 15 rfl rfl ?_
          refine SX.next ?_
          refine CW.seq ?_
          refine CW.reg [0, 1, 2, 3] rfl ?_   -- 26, law.go:143
          refine s_mv 115 rfl rfl ?_
          refine s_ld 116 rfl rfl (fun _ h => h.cell hl) ?_
          refine s_eqE 117 rfl rfl rfl ?_
          refine s_as 4 rfl rfl ?_
          refine SX.next ?_
          refine CW.ret ?_
          exact KN.ret (rs := [.tmp 4]) Tryd.results10 rfl (fun w hw => ⟨rfl, hw.nothing⟩)

theorem walk_PolyLong (a0 a1 : Int) (e : Nat → Addr) (w : World) (hz : Er e w 1) (hl : Er e w 0) : Spec1 Tryd.prog 10 [.int .i64 a0, .int .i64 a1] w (.bool true) := by
  by_cases h : 2048 < m11 a0 + kk (m11 a0) (m11 a1)
  · exact polyLong_a a0 a1 e w hz hl h
  · exact polyLong_b a0 a1 e w hz hl h
