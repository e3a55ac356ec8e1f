/- More statements of chapter 2, walked. No condition. -/
import Derived.Test.YtjnahakojhindaaDoorLawf
import Derived.Test.YtjnahakojhindaaDoorFacts2
namespace Go.Proofs.YtjnahakojhindaaDoor
open Go.Sx Go.Fm
set_option maxRecDepth 100000
theorem isA {a n : Int} (h : 0 ≤ a) : (decide (0 ≤ a ∧ a < n) == decide (a < n)) = true := by
  by_cases h2 : a < n <;> simp [h, h2]
theorem isB {a n : Int} (h : ¬ 0 ≤ a) : (decide (0 ≤ a ∧ a < n) == false) = true := by
  simp [h]

theorem poly_any (m : Int) (w : World) : Spec1 Tryd.prog 29 [.int .i64 m] w (.int .i64 (polyI m : Nat)) := by
  refine spec_of Tryd.func29 rfl Tryd.ntmps29 rfl ?_
  refine CW.seq ?_
  refine CW.reg [0] rfl ?_   -- 0, field.go:13
  refine s_as 2 rfl rfl ?_
  refine SX.next ?_
  refine CW.seq ?_
  refine CW.reg [0, 1, 2] rfl ?_   -- 1, field.go:14
  refine s_buildA 4 rfl rfl (cells := polyC) rfl ?_
  refine s_alloc 3 rfl (fun _ _ => trivial) (fun ga => ?_)
  refine s_stAll 0 rfl rfl (by kernel_rfl) rfl rfl rfl (by decide) (fun _ _ => trivial) ?_
  refine SX.next ?_
  refine CW.seq ?_
  refine CW.seq ?_
  refine CW.reg [0, 1, 2, 3, 4, 5] rfl ?_   -- 2, field.go:15
  refine s_mv 5 rfl rfl ?_
  refine s_lt 6 rfl rfl rfl rfl ?_
  refine s_mv 7 rfl rfl ?_
  refine SX.bool 7 rfl (fun hb => ?_) (fun hb => ?_)
  · skip
    replace hb := of_decide_eq_true hb
    refine SX.skip rfl ?_
    refine SX.skip rfl ?_
    refine s_pickT 10 rfl rfl rfl ?_
    refine SX.next ?_
    refine CW.condT rfl ?_
    refine CW.seq ?_
    refine CW.reg [0] rfl ?_   -- 3, field.go:16
    refine s_as 2 rfl rfl ?_
    refine SX.next ?_
    refine CW.ret ?_
    exact KN.ret (rs := [.tmp 2]) Tryd.results29 rfl (fun w hw => ⟨by rw [oneOf, ← polyI_bad (.inl hb)]; rfl, hw.nothing⟩)
  · skip
    replace hb := of_decide_eq_false hb
    refine s_mv 8 rfl rfl ?_
    refine s_gt 9 rfl rfl rfl rfl ?_
    refine s_pickF 10 rfl rfl rfl ?_
    refine SX.next ?_
    refine CW.test rfl (fun hc => ?_) (fun hc => ?_)
    · skip
      refine CW.seq ?_
      refine CW.reg [0] rfl ?_   -- 3, field.go:16
      refine s_as 2 rfl rfl ?_
      refine SX.next ?_
      refine CW.ret ?_
      exact KN.ret (rs := [.tmp 2]) Tryd.results29 rfl (fun w hw => ⟨by rw [oneOf, ← polyI_bad (.inr hc)]; rfl, hw.nothing⟩)
    · skip
      refine CW.skip ?_
      refine KN.code ?_
      refine CW.seq ?_
      refine CW.reg [0, 1, 2, 3, 4] rfl ?_   -- 4, field.go:18
      refine s_mv 11 rfl rfl ?_
      refine s_sub 12 rfl rfl rfl (w64 (by omega)) ?_
      refine s_iaR 13 (m - 3).toNat rfl rfl rfl (by omega) (by omega) ?_
      refine s_ldB 14 0 rfl rfl rfl (by rw [Nat.zero_add, Nat.mul_one]; exact polyC_at hb hc) ?_
      refine s_as 2 rfl rfl ?_
      refine SX.next ?_
      refine CW.ret ?_
      exact KN.ret (rs := [.tmp 2]) Tryd.results29 rfl (fun w hw => ⟨rfl, hw.nothing⟩)

theorem rpoly_any (m : Int) (w : World) : Spec1 Tryd.prog 30 [.int .i64 m] w (.int .i64 (polyI m : Nat)) := by
  refine spec_of Tryd.func30 rfl Tryd.ntmps30 rfl ?_
  refine CW.seq ?_
  refine CW.reg [0] rfl ?_   -- 0, field.go:7
  refine s_as 2 rfl rfl ?_
  refine SX.next ?_
  refine CW.seq ?_
  refine CW.seq ?_
  refine CW.reg [0, 1, 2, 3, 4, 5] rfl ?_   -- 1, field.go:8
  refine s_mv 3 rfl rfl ?_
  refine s_lt 4 rfl rfl rfl rfl ?_
  refine s_mv 5 rfl rfl ?_
  refine SX.bool 5 rfl (fun hb => ?_) (fun hb => ?_)
  · skip
    replace hb := of_decide_eq_true hb
    refine SX.skip rfl ?_
    refine SX.skip rfl ?_
    refine s_pickT 8 rfl rfl rfl ?_
    refine SX.next ?_
    refine CW.condT rfl ?_
    refine CW.seq ?_
    refine CW.reg [0] rfl ?_   -- 2, field.go:9
    refine s_as 2 rfl rfl ?_
    refine SX.next ?_
    refine CW.ret ?_
    exact KN.ret (rs := [.tmp 2]) Tryd.results30 rfl (fun w hw => ⟨by rw [oneOf, ← polyI_bad (.inl hb)]; rfl, hw.nothing⟩)
  · skip
    replace hb := of_decide_eq_false hb
    refine s_mv 6 rfl rfl ?_
    refine s_gt 7 rfl rfl rfl rfl ?_
    refine s_pickF 8 rfl rfl rfl ?_
    refine SX.next ?_
    refine CW.test rfl (fun hc => ?_) (fun hc => ?_)
    · skip
      refine CW.seq ?_
      refine CW.reg [0] rfl ?_   -- 2, field.go:9
      refine s_as 2 rfl rfl ?_
      refine SX.next ?_
      refine CW.ret ?_
      exact KN.ret (rs := [.tmp 2]) Tryd.results30 rfl (fun w hw => ⟨by rw [oneOf, ← polyI_bad (.inr hc)]; rfl, hw.nothing⟩)
    · skip
      refine CW.skip ?_
      refine KN.code ?_
      refine CW.seq ?_
      refine CW.reg [0, 1, 2, 3, 4, 5] rfl ?_   -- 3, field.go:11
      refine s_bsl 9 rfl rfl (cells := polyC) (by kernel_rfl) rfl (fun _ _ => trivial) (fun ga => ?_)
      refine s_mv 10 rfl rfl ?_
      refine s_sub 11 rfl rfl rfl (w64 (by omega)) ?_
      refine s_ia0 12 (m - 3).toNat rfl rfl rfl (by omega) (by omega) ?_
      refine s_ldB 13 0 rfl rfl rfl (polyC_at hb hc) ?_
      refine s_as 2 rfl rfl ?_
      refine SX.next ?_
      refine CW.ret ?_
      exact KN.ret (rs := [.tmp 2]) Tryd.results30 rfl (fun w hw => ⟨rfl, hw.nothing⟩)

theorem new_any (m : Int) (e : Nat → Addr) (w : World) (hz : Er e w 1) (hb : m < 3 ∨ 14 < m) : Spec1 Tryd.prog 22 [.int .i64 m] w (two (.pointer none) (errV e ErrFieldN)) := by
  refine spec_of Tryd.func22 rfl Tryd.ntmps22 rfl ?_
  refine CW.seq ?_
  refine CW.reg [0, 1] rfl ?_   -- 0, field.go:22
  refine s_as 2 rfl rfl ?_
  refine s_as 3 rfl rfl ?_
  refine SX.next ?_
  refine CW.seq ?_
  refine CW.seq ?_
  refine CW.reg [0, 1, 2] rfl ?_   -- 1, field.go:23
  refine s_mv 7 rfl rfl ?_
  refine s_call1 8 rfl rfl rfl rfl (fun w hw => poly_any _ _) (fun _ _ => trivial) ?_
  refine s_eq 9 rfl rfl rfl (decide_eq_true ((polyI_zero m).2 hb)) ?_
  refine SX.next ?_
  refine CW.condT rfl ?_
  refine CW.seq ?_
  refine CW.regD (.st true 0 (.st true 1 (.st true 2 .done))) (Sto w []) mixed (by kernel_rfl) (fun _ h => h.drew) (fun _ h => h) ?_
  refine s_ldS 10 rfl rfl (fun _ h => h.cell (by assumption)) ?_
  refine s_as 2 rfl rfl ?_
  refine s_as 3 rfl rfl ?_
  refine SX.next ?_
  refine CW.ret ?_
  exact KN.ret (rs := [.tmp 2, .tmp 3]) Tryd.results22 rfl (fun w hw => ⟨rfl, hw.nothing⟩)

theorem says_111 (a0 : Int) (hbd : a0 < 3 ∨ 14 < a0) (a1 a2 a3 : Int) (e : Nat → Addr) (w : World) (hz : Er e w 0) (hfe : Er e w 1) (h0 : lo (mkm 10 a0) a1 = 0) (h1 : lo (mkm 10 a0) a2 = 0) : Spec1 Tryd.prog 8 [.int .i64 a0, .int .i64 a1, .int .i64 a2, .int .i64 a3] w (.bool true) := by
  have hm := mkm_ok (k := 10) (by omega) (by omega) a0
  refine spec_of Tryd.func8 rfl Tryd.ntmps8 rfl ?_
  refine CW.seq ?_
  refine CW.reg [0] rfl ?_   -- 0, law.go:37
  refine s_as 8 rfl rfl ?_
  refine SX.next ?_
  refine CW.seq ?_
  refine CW.reg [0, 1] rfl ?_   -- 1, law.go:38
  refine s_call1 23 rfl rfl rfl rfl (fun w hw => first_spec e _ (hw.er hz) (hw.er hfe)) (fun _ _ => trivial) ?_
  refine s_as 9 rfl rfl ?_
  refine SX.next ?_
  refine CW.seq ?_
  refine CW.seq ?_
  refine CW.reg [0, 1, 2, 3, 4, 5, 6, 7, 8] rfl ?_   -- 2, law.go:39
  refine s_mv 24 rfl rfl ?_
  refine s_call1 25 rfl rfl rfl rfl (fun w hw => poly_any _ _) (fun _ _ => trivial) ?_
  refine s_mv 26 rfl rfl ?_
  refine s_call1 27 rfl rfl rfl rfl (fun w hw => rpoly_any _ _) (fun _ _ => trivial) ?_
  refine s_ne 28 rfl rfl rfl (decide_eq_false (fun h => h rfl)) ?_
  refine s_mv 29 rfl rfl ?_
  refine s_mv 30 rfl rfl ?_
  refine s_not 31 rfl rfl ?_
  refine s_pickF 32 rfl rfl rfl ?_
  refine SX.next ?_
  refine CW.condF rfl ?_
  refine CW.skip ?_
  refine KN.code ?_
  refine CW.seq ?_
  refine CW.reg [0, 1, 2, 3, 4, 5, 6] rfl ?_   -- 4, law.go:42
  refine s_mv 34 rfl rfl ?_
  refine s_call1 35 rfl rfl rfl rfl (fun w hw => new_any _ e _ (hw.er hfe) hbd) (fun _ _ => trivial) ?_
  refine s_mv 33 rfl rfl ?_
  refine s_ext 36 rfl rfl rfl ?_
  refine s_ext 37 rfl rfl rfl ?_
  refine s_as 10 rfl rfl ?_
  refine s_as 11 rfl rfl ?_
  refine SX.next ?_
  refine CW.seq ?_
  refine CW.seq ?_
  refine CW.reg [0, 1, 2, 3, 4, 5, 6, 7, 8, 9, 10, 11, 12, 13, 14, 15, 16, 17] rfl ?_   -- 5, law.go:43
  refine s_mv 38 rfl rfl ?_
  refine s_eqHN 39 rfl rfl ?_
  refine s_mv 40 rfl rfl ?_
  refine s_ge 41 rfl rfl rfl rfl ?_
  refine s_mv 42 rfl rfl ?_
  refine SX.bool 42 rfl (fun hb => ?_) (fun hb => ?_)
  · skip
    replace hb := of_decide_eq_true hb
    refine s_mv 43 rfl rfl ?_
    refine s_le 44 rfl rfl rfl (decide_eq_false (by omega)) ?_
    refine s_pickT 45 rfl rfl rfl ?_
    refine s_neB 46 rfl rfl rfl rfl ?_
    refine s_mv 47 rfl rfl ?_
    refine s_mv 48 rfl rfl ?_
    refine s_neHN 49 rfl rfl ?_
    refine s_mv 50 rfl rfl ?_
    refine s_mv 51 rfl rfl ?_
    refine s_ld 52 rfl rfl (fun _ h => h.cell (by assumption)) ?_
    refine s_neE 53 rfl rfl rfl ?_
    refine s_pickT 54 rfl rfl rfl ?_
    refine s_pickF 55 rfl rfl rfl ?_
    refine SX.next ?_
    refine CW.condF rfl ?_
    refine CW.skip ?_
    refine KN.code ?_
    refine CW.seq ?_
    refine CW.reg [0, 1, 2, 3, 4, 5, 6] rfl ?_   -- 7, law.go:46
    refine s_mv 57 rfl rfl ?_
    refine s_call 58 rfl rfl rfl rfl (fun w hw => made_spec _ w) (fun _ _ => trivial) (fun g _ => ?_)
    refine s_mv 56 rfl rfl ?_
    refine s_ext 59 rfl rfl rfl ?_
    refine s_ext 60 rfl rfl rfl ?_
    refine s_as 12 rfl rfl ?_
    refine s_as 13 rfl rfl ?_
    refine SX.next ?_
    refine CW.seq ?_
    refine CW.seq ?_
    refine CW.reg [0, 1, 2, 3, 4, 5, 6, 7, 8, 9, 10, 11, 12, 13, 14, 15] rfl ?_   -- 8, law.go:47
    refine s_mv 61 rfl rfl ?_
    refine s_eqPN 62 rfl rfl ?_
    refine s_mv 63 rfl rfl ?_
    refine s_mv 64 rfl rfl ?_
    refine s_call1 65 rfl rfl rfl rfl (fun w hw => m_spec g _ _ hm (hw.has (i := 0) rfl)) (fun _ _ => trivial) ?_
    refine s_mv 66 rfl rfl ?_
    refine s_ne 67 rfl rfl rfl (decide_eq_false (fun h => h rfl)) ?_
    refine s_pickF 68 rfl rfl rfl ?_
    refine s_mv 69 rfl rfl ?_
    refine s_mv 70 rfl rfl ?_
    refine s_call1 71 rfl rfl rfl rfl (fun w hw => size_spec g _ _ hm (hw.has (i := 0) rfl)) (fun _ _ => trivial) ?_
    refine s_mv 72 rfl rfl ?_
    refine s_conv 73 rfl rfl (u64_nat hm) ?_
    refine s_shl 74 rfl rfl rfl (by omega) (shl_one hm) ?_
    refine s_ne 75 rfl rfl rfl (decide_eq_false (fun h => h rfl)) ?_
    refine s_pickF 76 rfl rfl rfl ?_
    refine SX.next ?_
    refine CW.condF rfl ?_
    refine CW.skip ?_
    refine KN.code ?_
    refine CW.seq ?_
    refine CW.reg [0, 1, 2, 3, 4, 5, 6, 7] rfl ?_   -- 10, law.go:50
    refine s_mv 78 rfl rfl ?_
    refine s_mv 79 rfl rfl ?_
    refine s_call1 80 rfl rfl rfl rfl (fun w hw => inv_zero g _ _ e _ hm (hw.has (i := 0) rfl) (hw.er hz) h0) (fun _ _ => trivial) ?_
    refine s_mv 77 rfl rfl ?_
    refine s_ext 81 rfl rfl rfl ?_
    refine s_ext 82 rfl rfl rfl ?_
    refine s_as 14 rfl rfl ?_
    refine s_as 15 rfl rfl ?_
    refine SX.next ?_
    refine CW.seq ?_
    refine CW.reg [0, 1, 2, 3, 4, 5, 6, 7, 8] rfl ?_   -- 11, law.go:51
    refine s_mv 84 rfl rfl ?_
    refine s_mv 85 rfl rfl ?_
    refine s_mv 86 rfl rfl ?_
    refine s_call1 87 rfl rfl rfl rfl (fun w hw => div_zero g _ _ _ e _ hm (hw.has (i := 0) rfl) (hw.er hz) h1) (fun _ _ => trivial) ?_
    refine s_mv 83 rfl rfl ?_
    refine s_ext 88 rfl rfl rfl ?_
    refine s_ext 89 rfl rfl rfl ?_
    refine s_as 16 rfl rfl ?_
    refine s_as 17 rfl rfl ?_
    refine SX.next ?_
    refine CW.seq ?_
    refine CW.reg [0, 1, 2, 3, 4] rfl ?_   -- 12, law.go:52
    refine s_mv 90 rfl rfl ?_
    refine s_mv 91 rfl rfl ?_
    refine s_call1 92 rfl rfl rfl rfl (fun w hw => rlow_spec _ _ _ hm) (fun _ _ => trivial) ?_
    refine s_eq 93 rfl rfl rfl (decide_eq_true (by omega)) ?_
    refine s_as 18 rfl rfl ?_
    refine SX.next ?_
    refine CW.seq ?_
    refine CW.reg [0, 1, 2, 3, 4] rfl ?_   -- 13, law.go:53
    refine s_mv 94 rfl rfl ?_
    refine s_mv 95 rfl rfl ?_
    refine s_call1 96 rfl rfl rfl rfl (fun w hw => rlow_spec _ _ _ hm) (fun _ _ => trivial) ?_
    refine s_eq 97 rfl rfl rfl (decide_eq_true (by omega)) ?_
    refine s_as 19 rfl rfl ?_
    refine SX.next ?_
    refine CW.seq ?_
    refine CW.reg [0, 1, 2, 3, 4, 5, 6, 7, 8, 9, 10, 11, 12, 13, 14, 15, 16, 17, 18, 19, 20, 21, 22, 23, 24, 25, 26, 27, 28, 29, 30, 31, 32, 33, 34, 35, 36, 37, 38, 39, 40, 41, 42, 43, 44, 45, 46, 47, 48, 49, 50, 51, 52, 53, 54, 55, 56, 57, 58, 59, 60, 61, 62, 63, 64, 65] rfl ?_   -- 14, law.go:54
    refine s_mv 98 rfl rfl ?_
    refine s_mv 99 rfl rfl ?_
    refine s_mv 100 rfl rfl ?_
    refine s_call1 101 rfl rfl rfl rfl (fun w hw => add_spec g _ _ _ _ hm (hw.has (i := 0) rfl)) (fun _ _ => trivial) ?_
    refine s_mv 102 rfl rfl ?_
    refine s_mv 103 rfl rfl ?_
    refine s_mv 104 rfl rfl ?_
    refine s_bit 105 rfl rfl rfl rfl rfl ?_
    refine s_call1 106 rfl rfl rfl rfl (fun w hw => rlow_spec _ _ _ hm) (fun _ _ => trivial) ?_
    refine s_eq 107 rfl rfl rfl (decide_eq_true (cst (lo_xor hm _ _).symm)) ?_
    refine s_mv 108 rfl rfl ?_
    refine s_mv 109 rfl rfl ?_
    refine s_mv 110 rfl rfl ?_
    refine s_mv 111 rfl rfl ?_
    refine s_call1 112 rfl rfl rfl rfl (fun w hw => mul_spec g _ _ _ _ hm (hw.has (i := 0) rfl)) (fun _ _ => trivial) ?_
    refine s_mv 113 rfl rfl ?_
    refine s_mv 114 rfl rfl ?_
    refine s_mv 115 rfl rfl ?_
    refine s_call1 116 rfl rfl rfl rfl (fun w hw => rmul_spec _ _ _ _ hm) (fun _ _ => trivial) ?_
    refine s_eq 117 rfl rfl rfl (decide_eq_true rfl) ?_
    refine s_pickT 118 rfl rfl rfl ?_
    refine s_mv 119 rfl rfl ?_
    refine s_mv 120 rfl rfl ?_
    refine s_mv 121 rfl rfl ?_
    refine s_mv 122 rfl rfl ?_
    refine s_call1 123 rfl rfl rfl rfl (fun w hw => pow_spec g _ _ _ e _ hm (hw.has (i := 0) rfl) (hw.er hz)) (fun _ _ => trivial) ?_
    refine s_mv 124 rfl rfl ?_
    refine s_mv 125 rfl rfl ?_
    refine s_mv 126 rfl rfl ?_
    refine s_call1 127 rfl rfl rfl rfl (fun w hw => rpow_spec _ _ _ _ hm) (fun _ _ => trivial) ?_
    refine s_eq 128 rfl rfl rfl (decide_eq_true rfl) ?_
    refine s_pickT 129 rfl rfl rfl ?_
    refine s_mv 130 rfl rfl ?_
    refine s_mv 131 rfl rfl ?_
    refine s_mv 132 rfl rfl ?_
    refine s_call1 133 rfl rfl rfl rfl (fun w hw => exp_spec g _ _ _ hm (hw.has (i := 0) rfl)) (fun _ _ => trivial) ?_
    refine s_mv 134 rfl rfl ?_
    refine s_mv 135 rfl rfl ?_
    refine s_call1 136 rfl rfl rfl rfl (fun w hw => rexp_spec _ _ _ hm) (fun _ _ => trivial) ?_
    refine s_eq 137 rfl rfl rfl (decide_eq_true rfl) ?_
    refine s_pickT 138 rfl rfl rfl ?_
    refine s_mv 139 rfl rfl ?_
    refine s_mv 140 rfl rfl ?_
    refine s_mv 141 rfl rfl ?_
    refine s_call1 142 rfl rfl rfl rfl (fun w hw => trace_spec g _ _ _ hm (hw.has (i := 0) rfl)) (fun _ _ => trivial) ?_
    refine s_mv 143 rfl rfl ?_
    refine s_mv 144 rfl rfl ?_
    refine s_call1 145 rfl rfl rfl rfl (fun w hw => rtrace_spec _ _ _ hm) (fun _ _ => trivial) ?_
    refine s_eq 146 rfl rfl rfl (decide_eq_true rfl) ?_
    refine s_pickT 147 rfl rfl rfl ?_
    refine s_mv 148 rfl rfl ?_
    refine s_mv 149 rfl rfl ?_
    refine s_mv 150 rfl rfl ?_
    refine s_call1 151 rfl rfl rfl rfl (fun w hw => is_spec g _ _ _ hm (hw.has (i := 0) rfl)) (fun _ _ => trivial) ?_
    refine s_mv 152 rfl rfl ?_
    refine s_ge 153 rfl rfl rfl rfl ?_
    refine s_mv 154 rfl rfl ?_
    refine SX.bool 154 rfl (fun hb => ?_) (fun hb => ?_)
    · skip
      refine s_mv 155 rfl rfl ?_
      refine s_mv 156 rfl rfl ?_
      refine s_conv 157 rfl rfl (u64_nat hm) ?_
      refine s_shl 158 rfl rfl rfl (by omega) (shl_one hm) ?_
      refine s_lt 159 rfl rfl rfl rfl ?_
      refine s_pickT 160 rfl rfl rfl ?_
      refine s_eqB 161 rfl rfl rfl (isA (of_decide_eq_true hb)) ?_
      refine s_pickT 162 rfl rfl rfl ?_
      refine s_as 20 rfl rfl ?_
      refine SX.next ?_
      refine CW.seq ?_
      refine CW.reg [0, 1, 2, 3, 4, 5, 6, 7, 8, 9, 10, 11, 12, 13, 14, 15, 16, 17, 18, 19, 20, 21, 22, 23, 24, 25] rfl ?_   -- 15, law.go:55
      refine s_mv 163 rfl rfl ?_
      refine s_mv 164 rfl rfl ?_
      refine s_mv 165 rfl rfl ?_
      refine s_ld 166 rfl rfl (fun _ h => h.cell (by assumption)) ?_
      refine s_eqE 167 rfl rfl rfl ?_
      refine s_pickT 168 rfl rfl rfl ?_
      refine s_mv 169 rfl rfl ?_
      refine s_mv 170 rfl rfl ?_
      refine s_eq 171 rfl rfl rfl (decide_eq_true rfl) ?_
      refine s_pickT 172 rfl rfl rfl ?_
      refine s_mv 173 rfl rfl ?_
      refine SX.skip rfl ?_
      refine SX.skip rfl ?_
      refine SX.skip rfl ?_
      refine SX.skipU rfl ?_
      refine SX.skipU rfl ?_
      refine SX.skip rfl ?_
      refine SX.skip rfl ?_
      refine SX.skipU rfl ?_
      refine SX.skipU rfl ?_
      refine SX.skipU rfl ?_
      refine SX.skipU rfl ?_
      refine SX.skipU rfl ?_
      refine SX.skip rfl ?_
      refine s_pickT 187 rfl rfl rfl ?_
      refine s_as 21 rfl rfl ?_
      refine SX.next ?_
      refine CW.seq ?_
      refine CW.reg [0, 1, 2, 3, 4, 5, 6, 7, 8, 9, 10, 11, 12, 13, 14, 15, 16, 17, 18, 19, 20, 21, 22, 23, 24, 25, 26, 27, 28] rfl ?_   -- 16, law.go:56
      refine s_mv 188 rfl rfl ?_
      refine s_mv 189 rfl rfl ?_
      refine s_mv 190 rfl rfl ?_
      refine s_ld 191 rfl rfl (fun _ h => h.cell (by assumption)) ?_
      refine s_eqE 192 rfl rfl rfl ?_
      refine s_pickT 193 rfl rfl rfl ?_
      refine s_mv 194 rfl rfl ?_
      refine s_mv 195 rfl rfl ?_
      refine s_eq 196 rfl rfl rfl (decide_eq_true rfl) ?_
      refine s_pickT 197 rfl rfl rfl ?_
      refine s_mv 198 rfl rfl ?_
      refine SX.skip rfl ?_
      refine SX.skip rfl ?_
      refine SX.skip rfl ?_
      refine SX.skipU rfl ?_
      refine SX.skipU rfl ?_
      refine SX.skip rfl ?_
      refine SX.skip rfl ?_
      refine SX.skipU rfl ?_
      refine SX.skipU rfl ?_
      refine SX.skipU rfl ?_
      refine SX.skipU rfl ?_
      refine SX.skipU rfl ?_
      refine SX.skipU rfl ?_
      refine SX.skipU rfl ?_
      refine SX.skipU rfl ?_
      refine SX.skip rfl ?_
      refine s_pickT 215 rfl rfl rfl ?_
      refine s_as 22 rfl rfl ?_
      refine SX.next ?_
      refine CW.seq ?_
      refine CW.reg [0, 1, 2, 3, 4, 5, 6, 7] rfl ?_   -- 17, law.go:57
      refine s_mv 216 rfl rfl ?_
      refine s_mv 217 rfl rfl ?_
      refine s_mv 218 rfl rfl ?_
      refine s_pickT 219 rfl rfl rfl ?_
      refine s_mv 220 rfl rfl ?_
      refine s_mv 221 rfl rfl ?_
      refine s_pickT 222 rfl rfl rfl ?_
      refine s_as 8 rfl rfl ?_
      refine SX.next ?_
      refine CW.ret ?_
      exact KN.ret (rs := [.tmp 8]) Tryd.results8 rfl (fun w hw => ⟨rfl, hw.nothing⟩)
    · skip
      refine SX.skip rfl ?_
      refine SX.skip rfl ?_
      refine SX.skip rfl ?_
      refine SX.skip rfl ?_
      refine SX.skip rfl ?_
      refine s_pickF 160 rfl rfl rfl ?_
      refine s_eqB 161 rfl rfl rfl (isB (of_decide_eq_false hb)) ?_
      refine s_pickT 162 rfl rfl rfl ?_
      refine s_as 20 rfl rfl ?_
      refine SX.next ?_
      refine CW.seq ?_
      refine CW.reg [0, 1, 2, 3, 4, 5, 6, 7, 8, 9, 10, 11, 12, 13, 14, 15, 16, 17, 18, 19, 20, 21, 22, 23, 24, 25] rfl ?_   -- 15, law.go:55
      refine s_mv 163 rfl rfl ?_
      refine s_mv 164 rfl rfl ?_
      refine s_mv 165 rfl rfl ?_
      refine s_ld 166 rfl rfl (fun _ h => h.cell (by assumption)) ?_
      refine s_eqE 167 rfl rfl rfl ?_
      refine s_pickT 168 rfl rfl rfl ?_
      refine s_mv 169 rfl rfl ?_
      refine s_mv 170 rfl rfl ?_
      refine s_eq 171 rfl rfl rfl (decide_eq_true rfl) ?_
      refine s_pickT 172 rfl rfl rfl ?_
      refine s_mv 173 rfl rfl ?_
      refine SX.skip rfl ?_
      refine SX.skip rfl ?_
      refine SX.skip rfl ?_
      refine SX.skipU rfl ?_
      refine SX.skipU rfl ?_
      refine SX.skip rfl ?_
      refine SX.skip rfl ?_
      refine SX.skipU rfl ?_
      refine SX.skipU rfl ?_
      refine SX.skipU rfl ?_
      refine SX.skipU rfl ?_
      refine SX.skipU rfl ?_
      refine SX.skip rfl ?_
      refine s_pickT 187 rfl rfl rfl ?_
      refine s_as 21 rfl rfl ?_
      refine SX.next ?_
      refine CW.seq ?_
      refine CW.reg [0, 1, 2, 3, 4, 5, 6, 7, 8, 9, 10, 11, 12, 13, 14, 15, 16, 17, 18, 19, 20, 21, 22, 23, 24, 25, 26, 27, 28] rfl ?_   -- 16, law.go:56
      refine s_mv 188 rfl rfl ?_
      refine s_mv 189 rfl rfl ?_
      refine s_mv 190 rfl rfl ?_
      refine s_ld 191 rfl rfl (fun _ h => h.cell (by assumption)) ?_
      refine s_eqE 192 rfl rfl rfl ?_
      refine s_pickT 193 rfl rfl rfl ?_
      refine s_mv 194 rfl rfl ?_
      refine s_mv 195 rfl rfl ?_
      refine s_eq 196 rfl rfl rfl (decide_eq_true rfl) ?_
      refine s_pickT 197 rfl rfl rfl ?_
      refine s_mv 198 rfl rfl ?_
      refine SX.skip rfl ?_
      refine SX.skip rfl ?_
      refine SX.skip rfl ?_
      refine SX.skipU rfl ?_
      refine SX.skipU rfl ?_
      refine SX.skip rfl ?_
      refine SX.skip rfl ?_
      refine SX.skipU rfl ?_
      refine SX.skipU rfl ?_
      refine SX.skipU rfl ?_
      refine SX.skipU rfl ?_
      refine SX.skipU rfl ?_
      refine SX.skipU rfl ?_
      refine SX.skipU rfl ?_
      refine SX.skipU rfl ?_
      refine SX.skip rfl ?_
      refine s_pickT 215 rfl rfl rfl ?_
      refine s_as 22 rfl rfl ?_
      refine SX.next ?_
      refine CW.seq ?_
      refine CW.reg [0, 1, 2, 3, 4, 5, 6, 7] rfl ?_   -- 17, law.go:57
      refine s_mv 216 rfl rfl ?_
      refine s_mv 217 rfl rfl ?_
      refine s_mv 218 rfl rfl ?_
      refine s_pickT 219 rfl rfl rfl ?_
      refine s_mv 220 rfl rfl ?_
      refine s_mv 221 rfl rfl ?_
      refine s_pickT 222 rfl rfl rfl ?_
      refine s_as 8 rfl rfl ?_
      refine SX.next ?_
      refine CW.ret ?_
      exact KN.ret (rs := [.tmp 8]) Tryd.results8 rfl (fun w hw => ⟨rfl, hw.nothing⟩)
  · skip
    refine SX.skip rfl ?_
    refine SX.skip rfl ?_
    refine s_pickF 45 rfl rfl rfl ?_
    refine s_neB 46 rfl rfl rfl rfl ?_
    refine s_mv 47 rfl rfl ?_
    refine s_mv 48 rfl rfl ?_
    refine s_neHN 49 rfl rfl ?_
    refine s_mv 50 rfl rfl ?_
    refine s_mv 51 rfl rfl ?_
    refine s_ld 52 rfl rfl (fun _ h => h.cell (by assumption)) ?_
    refine s_neE 53 rfl rfl rfl ?_
    refine s_pickT 54 rfl rfl rfl ?_
    refine s_pickF 55 rfl rfl rfl ?_
    refine SX.next ?_
    refine CW.condF rfl ?_
    refine CW.skip ?_
    refine KN.code ?_
    refine CW.seq ?_
    refine CW.reg [0, 1, 2, 3, 4, 5, 6] rfl ?_   -- 7, law.go:46
    refine s_mv 57 rfl rfl ?_
    refine s_call 58 rfl rfl rfl rfl (fun w hw => made_spec _ w) (fun _ _ => trivial) (fun g _ => ?_)
    refine s_mv 56 rfl rfl ?_
    refine s_ext 59 rfl rfl rfl ?_
    refine s_ext 60 rfl rfl rfl ?_
    refine s_as 12 rfl rfl ?_
    refine s_as 13 rfl rfl ?_
    refine SX.next ?_
    refine CW.seq ?_
    refine CW.seq ?_
    refine CW.reg [0, 1, 2, 3, 4, 5, 6, 7, 8, 9, 10, 11, 12, 13, 14, 15] rfl ?_   -- 8, law.go:47
    refine s_mv 61 rfl rfl ?_
    refine s_eqPN 62 rfl rfl ?_
    refine s_mv 63 rfl rfl ?_
    refine s_mv 64 rfl rfl ?_
    refine s_call1 65 rfl rfl rfl rfl (fun w hw => m_spec g _ _ hm (hw.has (i := 0) rfl)) (fun _ _ => trivial) ?_
    refine s_mv 66 rfl rfl ?_
    refine s_ne 67 rfl rfl rfl (decide_eq_false (fun h => h rfl)) ?_
    refine s_pickF 68 rfl rfl rfl ?_
    refine s_mv 69 rfl rfl ?_
    refine s_mv 70 rfl rfl ?_
    refine s_call1 71 rfl rfl rfl rfl (fun w hw => size_spec g _ _ hm (hw.has (i := 0) rfl)) (fun _ _ => trivial) ?_
    refine s_mv 72 rfl rfl ?_
    refine s_conv 73 rfl rfl (u64_nat hm) ?_
    refine s_shl 74 rfl rfl rfl (by omega) (shl_one hm) ?_
    refine s_ne 75 rfl rfl rfl (decide_eq_false (fun h => h rfl)) ?_
    refine s_pickF 76 rfl rfl rfl ?_
    refine SX.next ?_
    refine CW.condF rfl ?_
    refine CW.skip ?_
    refine KN.code ?_
    refine CW.seq ?_
    refine CW.reg [0, 1, 2, 3, 4, 5, 6, 7] rfl ?_   -- 10, law.go:50
    refine s_mv 78 rfl rfl ?_
    refine s_mv 79 rfl rfl ?_
    refine s_call1 80 rfl rfl rfl rfl (fun w hw => inv_zero g _ _ e _ hm (hw.has (i := 0) rfl) (hw.er hz) h0) (fun _ _ => trivial) ?_
    refine s_mv 77 rfl rfl ?_
    refine s_ext 81 rfl rfl rfl ?_
    refine s_ext 82 rfl rfl rfl ?_
    refine s_as 14 rfl rfl ?_
    refine s_as 15 rfl rfl ?_
    refine SX.next ?_
    refine CW.seq ?_
    refine CW.reg [0, 1, 2, 3, 4, 5, 6, 7, 8] rfl ?_   -- 11, law.go:51
    refine s_mv 84 rfl rfl ?_
    refine s_mv 85 rfl rfl ?_
    refine s_mv 86 rfl rfl ?_
    refine s_call1 87 rfl rfl rfl rfl (fun w hw => div_zero g _ _ _ e _ hm (hw.has (i := 0) rfl) (hw.er hz) h1) (fun _ _ => trivial) ?_
    refine s_mv 83 rfl rfl ?_
    refine s_ext 88 rfl rfl rfl ?_
    refine s_ext 89 rfl rfl rfl ?_
    refine s_as 16 rfl rfl ?_
    refine s_as 17 rfl rfl ?_
    refine SX.next ?_
    refine CW.seq ?_
    refine CW.reg [0, 1, 2, 3, 4] rfl ?_   -- 12, law.go:52
    refine s_mv 90 rfl rfl ?_
    refine s_mv 91 rfl rfl ?_
    refine s_call1 92 rfl rfl rfl rfl (fun w hw => rlow_spec _ _ _ hm) (fun _ _ => trivial) ?_
    refine s_eq 93 rfl rfl rfl (decide_eq_true (by omega)) ?_
    refine s_as 18 rfl rfl ?_
    refine SX.next ?_
    refine CW.seq ?_
    refine CW.reg [0, 1, 2, 3, 4] rfl ?_   -- 13, law.go:53
    refine s_mv 94 rfl rfl ?_
    refine s_mv 95 rfl rfl ?_
    refine s_call1 96 rfl rfl rfl rfl (fun w hw => rlow_spec _ _ _ hm) (fun _ _ => trivial) ?_
    refine s_eq 97 rfl rfl rfl (decide_eq_true (by omega)) ?_
    refine s_as 19 rfl rfl ?_
    refine SX.next ?_
    refine CW.seq ?_
    refine CW.reg [0, 1, 2, 3, 4, 5, 6, 7, 8, 9, 10, 11, 12, 13, 14, 15, 16, 17, 18, 19, 20, 21, 22, 23, 24, 25, 26, 27, 28, 29, 30, 31, 32, 33, 34, 35, 36, 37, 38, 39, 40, 41, 42, 43, 44, 45, 46, 47, 48, 49, 50, 51, 52, 53, 54, 55, 56, 57, 58, 59, 60, 61, 62, 63, 64, 65] rfl ?_   -- 14, law.go:54
    refine s_mv 98 rfl rfl ?_
    refine s_mv 99 rfl rfl ?_
    refine s_mv 100 rfl rfl ?_
    refine s_call1 101 rfl rfl rfl rfl (fun w hw => add_spec g _ _ _ _ hm (hw.has (i := 0) rfl)) (fun _ _ => trivial) ?_
    refine s_mv 102 rfl rfl ?_
    refine s_mv 103 rfl rfl ?_
    refine s_mv 104 rfl rfl ?_
    refine s_bit 105 rfl rfl rfl rfl rfl ?_
    refine s_call1 106 rfl rfl rfl rfl (fun w hw => rlow_spec _ _ _ hm) (fun _ _ => trivial) ?_
    refine s_eq 107 rfl rfl rfl (decide_eq_true (cst (lo_xor hm _ _).symm)) ?_
    refine s_mv 108 rfl rfl ?_
    refine s_mv 109 rfl rfl ?_
    refine s_mv 110 rfl rfl ?_
    refine s_mv 111 rfl rfl ?_
    refine s_call1 112 rfl rfl rfl rfl (fun w hw => mul_spec g _ _ _ _ hm (hw.has (i := 0) rfl)) (fun _ _ => trivial) ?_
    refine s_mv 113 rfl rfl ?_
    refine s_mv 114 rfl rfl ?_
    refine s_mv 115 rfl rfl ?_
    refine s_call1 116 rfl rfl rfl rfl (fun w hw => rmul_spec _ _ _ _ hm) (fun _ _ => trivial) ?_
    refine s_eq 117 rfl rfl rfl (decide_eq_true rfl) ?_
    refine s_pickT 118 rfl rfl rfl ?_
    refine s_mv 119 rfl rfl ?_
    refine s_mv 120 rfl rfl ?_
    refine s_mv 121 rfl rfl ?_
    refine s_mv 122 rfl rfl ?_
    refine s_call1 123 rfl rfl rfl rfl (fun w hw => pow_spec g _ _ _ e _ hm (hw.has (i := 0) rfl) (hw.er hz)) (fun _ _ => trivial) ?_
    refine s_mv 124 rfl rfl ?_
    refine s_mv 125 rfl rfl ?_
    refine s_mv 126 rfl rfl ?_
    refine s_call1 127 rfl rfl rfl rfl (fun w hw => rpow_spec _ _ _ _ hm) (fun _ _ => trivial) ?_
    refine s_eq 128 rfl rfl rfl (decide_eq_true rfl) ?_
    refine s_pickT 129 rfl rfl rfl ?_
    refine s_mv 130 rfl rfl ?_
    refine s_mv 131 rfl rfl ?_
    refine s_mv 132 rfl rfl ?_
    refine s_call1 133 rfl rfl rfl rfl (fun w hw => exp_spec g _ _ _ hm (hw.has (i := 0) rfl)) (fun _ _ => trivial) ?_
    refine s_mv 134 rfl rfl ?_
    refine s_mv 135 rfl rfl ?_
    refine s_call1 136 rfl rfl rfl rfl (fun w hw => rexp_spec _ _ _ hm) (fun _ _ => trivial) ?_
    refine s_eq 137 rfl rfl rfl (decide_eq_true rfl) ?_
    refine s_pickT 138 rfl rfl rfl ?_
    refine s_mv 139 rfl rfl ?_
    refine s_mv 140 rfl rfl ?_
    refine s_mv 141 rfl rfl ?_
    refine s_call1 142 rfl rfl rfl rfl (fun w hw => trace_spec g _ _ _ hm (hw.has (i := 0) rfl)) (fun _ _ => trivial) ?_
    refine s_mv 143 rfl rfl ?_
    refine s_mv 144 rfl rfl ?_
    refine s_call1 145 rfl rfl rfl rfl (fun w hw => rtrace_spec _ _ _ hm) (fun _ _ => trivial) ?_
    refine s_eq 146 rfl rfl rfl (decide_eq_true rfl) ?_
    refine s_pickT 147 rfl rfl rfl ?_
    refine s_mv 148 rfl rfl ?_
    refine s_mv 149 rfl rfl ?_
    refine s_mv 150 rfl rfl ?_
    refine s_call1 151 rfl rfl rfl rfl (fun w hw => is_spec g _ _ _ hm (hw.has (i := 0) rfl)) (fun _ _ => trivial) ?_
    refine s_mv 152 rfl rfl ?_
    refine s_ge 153 rfl rfl rfl rfl ?_
    refine s_mv 154 rfl rfl ?_
    refine SX.bool 154 rfl (fun hb => ?_) (fun hb => ?_)
    · skip
      refine s_mv 155 rfl rfl ?_
      refine s_mv 156 rfl rfl ?_
      refine s_conv 157 rfl rfl (u64_nat hm) ?_
      refine s_shl 158 rfl rfl rfl (by omega) (shl_one hm) ?_
      refine s_lt 159 rfl rfl rfl rfl ?_
      refine s_pickT 160 rfl rfl rfl ?_
      refine s_eqB 161 rfl rfl rfl (isA (of_decide_eq_true hb)) ?_
      refine s_pickT 162 rfl rfl rfl ?_
      refine s_as 20 rfl rfl ?_
      refine SX.next ?_
      refine CW.seq ?_
      refine CW.reg [0, 1, 2, 3, 4, 5, 6, 7, 8, 9, 10, 11, 12, 13, 14, 15, 16, 17, 18, 19, 20, 21, 22, 23, 24, 25] rfl ?_   -- 15, law.go:55
      refine s_mv 163 rfl rfl ?_
      refine s_mv 164 rfl rfl ?_
      refine s_mv 165 rfl rfl ?_
      refine s_ld 166 rfl rfl (fun _ h => h.cell (by assumption)) ?_
      refine s_eqE 167 rfl rfl rfl ?_
      refine s_pickT 168 rfl rfl rfl ?_
      refine s_mv 169 rfl rfl ?_
      refine s_mv 170 rfl rfl ?_
      refine s_eq 171 rfl rfl rfl (decide_eq_true rfl) ?_
      refine s_pickT 172 rfl rfl rfl ?_
      refine s_mv 173 rfl rfl ?_
      refine SX.skip rfl ?_
      refine SX.skip rfl ?_
      refine SX.skip rfl ?_
      refine SX.skipU rfl ?_
      refine SX.skipU rfl ?_
      refine SX.skip rfl ?_
      refine SX.skip rfl ?_
      refine SX.skipU rfl ?_
      refine SX.skipU rfl ?_
      refine SX.skipU rfl ?_
      refine SX.skipU rfl ?_
      refine SX.skipU rfl ?_
      refine SX.skip rfl ?_
      refine s_pickT 187 rfl rfl rfl ?_
      refine s_as 21 rfl rfl ?_
      refine SX.next ?_
      refine CW.seq ?_
      refine CW.reg [0, 1, 2, 3, 4, 5, 6, 7, 8, 9, 10, 11, 12, 13, 14, 15, 16, 17, 18, 19, 20, 21, 22, 23, 24, 25, 26, 27, 28] rfl ?_   -- 16, law.go:56
      refine s_mv 188 rfl rfl ?_
      refine s_mv 189 rfl rfl ?_
      refine s_mv 190 rfl rfl ?_
      refine s_ld 191 rfl rfl (fun _ h => h.cell (by assumption)) ?_
      refine s_eqE 192 rfl rfl rfl ?_
      refine s_pickT 193 rfl rfl rfl ?_
      refine s_mv 194 rfl rfl ?_
      refine s_mv 195 rfl rfl ?_
      refine s_eq 196 rfl rfl rfl (decide_eq_true rfl) ?_
      refine s_pickT 197 rfl rfl rfl ?_
      refine s_mv 198 rfl rfl ?_
      refine SX.skip rfl ?_
      refine SX.skip rfl ?_
      refine SX.skip rfl ?_
      refine SX.skipU rfl ?_
      refine SX.skipU rfl ?_
      refine SX.skip rfl ?_
      refine SX.skip rfl ?_
      refine SX.skipU rfl ?_
      refine SX.skipU rfl ?_
      refine SX.skipU rfl ?_
      refine SX.skipU rfl ?_
      refine SX.skipU rfl ?_
      refine SX.skipU rfl ?_
      refine SX.skipU rfl ?_
      refine SX.skipU rfl ?_
      refine SX.skip rfl ?_
      refine s_pickT 215 rfl rfl rfl ?_
      refine s_as 22 rfl rfl ?_
      refine SX.next ?_
      refine CW.seq ?_
      refine CW.reg [0, 1, 2, 3, 4, 5, 6, 7] rfl ?_   -- 17, law.go:57
      refine s_mv 216 rfl rfl ?_
      refine s_mv 217 rfl rfl ?_
      refine s_mv 218 rfl rfl ?_
      refine s_pickT 219 rfl rfl rfl ?_
      refine s_mv 220 rfl rfl ?_
      refine s_mv 221 rfl rfl ?_
      refine s_pickT 222 rfl rfl rfl ?_
      refine s_as 8 rfl rfl ?_
      refine SX.next ?_
      refine CW.ret ?_
      exact KN.ret (rs := [.tmp 8]) Tryd.results8 rfl (fun w hw => ⟨rfl, hw.nothing⟩)
    · skip
      refine SX.skip rfl ?_
      refine SX.skip rfl ?_
      refine SX.skip rfl ?_
      refine SX.skip rfl ?_
      refine SX.skip rfl ?_
      refine s_pickF 160 rfl rfl rfl ?_
      refine s_eqB 161 rfl rfl rfl (isB (of_decide_eq_false hb)) ?_
      refine s_pickT 162 rfl rfl rfl ?_
      refine s_as 20 rfl rfl ?_
      refine SX.next ?_
      refine CW.seq ?_
      refine CW.reg [0, 1, 2, 3, 4, 5, 6, 7, 8, 9, 10, 11, 12, 13, 14, 15, 16, 17, 18, 19, 20, 21, 22, 23, 24, 25] rfl ?_   -- 15, law.go:55
      refine s_mv 163 rfl rfl ?_
      refine s_mv 164 rfl rfl ?_
      refine s_mv 165 rfl rfl ?_
      refine s_ld 166 rfl rfl (fun _ h => h.cell (by assumption)) ?_
      refine s_eqE 167 rfl rfl rfl ?_
      refine s_pickT 168 rfl rfl rfl ?_
      refine s_mv 169 rfl rfl ?_
      refine s_mv 170 rfl rfl ?_
      refine s_eq 171 rfl rfl rfl (decide_eq_true rfl) ?_
      refine s_pickT 172 rfl rfl rfl ?_
      refine s_mv 173 rfl rfl ?_
      refine SX.skip rfl ?_
      refine SX.skip rfl ?_
      refine SX.skip rfl ?_
      refine SX.skipU rfl ?_
      refine SX.skipU rfl ?_
      refine SX.skip rfl ?_
      refine SX.skip rfl ?_
      refine SX.skipU rfl ?_
      refine SX.skipU rfl ?_
      refine SX.skipU rfl ?_
      refine SX.skipU rfl ?_
      refine SX.skipU rfl ?_
      refine SX.skip rfl ?_
      refine s_pickT 187 rfl rfl rfl ?_
      refine s_as 21 rfl rfl ?_
      refine SX.next ?_
      refine CW.seq ?_
      refine CW.reg [0, 1, 2, 3, 4, 5, 6, 7, 8, 9, 10, 11, 12, 13, 14, 15, 16, 17, 18, 19, 20, 21, 22, 23, 24, 25, 26, 27, 28] rfl ?_   -- 16, law.go:56
      refine s_mv 188 rfl rfl ?_
      refine s_mv 189 rfl rfl ?_
      refine s_mv 190 rfl rfl ?_
      refine s_ld 191 rfl rfl (fun _ h => h.cell (by assumption)) ?_
      refine s_eqE 192 rfl rfl rfl ?_
      refine s_pickT 193 rfl rfl rfl ?_
      refine s_mv 194 rfl rfl ?_
      refine s_mv 195 rfl rfl ?_
      refine s_eq 196 rfl rfl rfl (decide_eq_true rfl) ?_
      refine s_pickT 197 rfl rfl rfl ?_
      refine s_mv 198 rfl rfl ?_
      refine SX.skip rfl ?_
      refine SX.skip rfl ?_
      refine SX.skip rfl ?_
      refine SX.skipU rfl ?_
      refine SX.skipU rfl ?_
      refine SX.skip rfl ?_
      refine SX.skip rfl ?_
      refine SX.skipU rfl ?_
      refine SX.skipU rfl ?_
      refine SX.skipU rfl ?_
      refine SX.skipU rfl ?_
      refine SX.skipU rfl ?_
      refine SX.skipU rfl ?_
      refine SX.skipU rfl ?_
      refine SX.skipU rfl ?_
      refine SX.skip rfl ?_
      refine s_pickT 215 rfl rfl rfl ?_
      refine s_as 22 rfl rfl ?_
      refine SX.next ?_
      refine CW.seq ?_
      refine CW.reg [0, 1, 2, 3, 4, 5, 6, 7] rfl ?_   -- 17, law.go:57
      refine s_mv 216 rfl rfl ?_
      refine s_mv 217 rfl rfl ?_
      refine s_mv 218 rfl rfl ?_
      refine s_pickT 219 rfl rfl rfl ?_
      refine s_mv 220 rfl rfl ?_
      refine s_mv 221 rfl rfl ?_
      refine s_pickT 222 rfl rfl rfl ?_
      refine s_as 8 rfl rfl ?_
      refine SX.next ?_
      refine CW.ret ?_
      exact KN.ret (rs := [.tmp 8]) Tryd.results8 rfl (fun w hw => ⟨rfl, hw.nothing⟩)

theorem says_110 (a0 : Int) (hbd : a0 < 3 ∨ 14 < a0) (a1 a2 a3 : Int) (e : Nat → Addr) (w : World) (hz : Er e w 0) (hfe : Er e w 1) (h0 : lo (mkm 10 a0) a1 = 0) (h1 : lo (mkm 10 a0) a2 ≠ 0) : Spec1 Tryd.prog 8 [.int .i64 a0, .int .i64 a1, .int .i64 a2, .int .i64 a3] w (.bool true) := by
  have hm := mkm_ok (k := 10) (by omega) (by omega) a0
  refine spec_of Tryd.func8 rfl Tryd.ntmps8 rfl ?_
  refine CW.seq ?_
  refine CW.reg [0] rfl ?_   -- 0, law.go:37
  refine s_as 8 rfl rfl ?_
  refine SX.next ?_
  refine CW.seq ?_
  refine CW.reg [0, 1] rfl ?_   -- 1, law.go:38
  refine s_call1 23 rfl rfl rfl rfl (fun w hw => first_spec e _ (hw.er hz) (hw.er hfe)) (fun _ _ => trivial) ?_
  refine s_as 9 rfl rfl ?_
  refine SX.next ?_
  refine CW.seq ?_
  refine CW.seq ?_
  refine CW.reg [0, 1, 2, 3, 4, 5, 6, 7, 8] rfl ?_   -- 2, law.go:39
  refine s_mv 24 rfl rfl ?_
  refine s_call1 25 rfl rfl rfl rfl (fun w hw => poly_any _ _) (fun _ _ => trivial) ?_
  refine s_mv 26 rfl rfl ?_
  refine s_call1 27 rfl rfl rfl rfl (fun w hw => rpoly_any _ _) (fun _ _ => trivial) ?_
  refine s_ne 28 rfl rfl rfl (decide_eq_false (fun h => h rfl)) ?_
  refine s_mv 29 rfl rfl ?_
  refine s_mv 30 rfl rfl ?_
  refine s_not 31 rfl rfl ?_
  refine s_pickF 32 rfl rfl rfl ?_
  refine SX.next ?_
  refine CW.condF rfl ?_
  refine CW.skip ?_
  refine KN.code ?_
  refine CW.seq ?_
  refine CW.reg [0, 1, 2, 3, 4, 5, 6] rfl ?_   -- 4, law.go:42
  refine s_mv 34 rfl rfl ?_
  refine s_call1 35 rfl rfl rfl rfl (fun w hw => new_any _ e _ (hw.er hfe) hbd) (fun _ _ => trivial) ?_
  refine s_mv 33 rfl rfl ?_
  refine s_ext 36 rfl rfl rfl ?_
  refine s_ext 37 rfl rfl rfl ?_
  refine s_as 10 rfl rfl ?_
  refine s_as 11 rfl rfl ?_
  refine SX.next ?_
  refine CW.seq ?_
  refine CW.seq ?_
  refine CW.reg [0, 1, 2, 3, 4, 5, 6, 7, 8, 9, 10, 11, 12, 13, 14, 15, 16, 17] rfl ?_   -- 5, law.go:43
  refine s_mv 38 rfl rfl ?_
  refine s_eqHN 39 rfl rfl ?_
  refine s_mv 40 rfl rfl ?_
  refine s_ge 41 rfl rfl rfl rfl ?_
  refine s_mv 42 rfl rfl ?_
  refine SX.bool 42 rfl (fun hb => ?_) (fun hb => ?_)
  · skip
    replace hb := of_decide_eq_true hb
    refine s_mv 43 rfl rfl ?_
    refine s_le 44 rfl rfl rfl (decide_eq_false (by omega)) ?_
    refine s_pickT 45 rfl rfl rfl ?_
    refine s_neB 46 rfl rfl rfl rfl ?_
    refine s_mv 47 rfl rfl ?_
    refine s_mv 48 rfl rfl ?_
    refine s_neHN 49 rfl rfl ?_
    refine s_mv 50 rfl rfl ?_
    refine s_mv 51 rfl rfl ?_
    refine s_ld 52 rfl rfl (fun _ h => h.cell (by assumption)) ?_
    refine s_neE 53 rfl rfl rfl ?_
    refine s_pickT 54 rfl rfl rfl ?_
    refine s_pickF 55 rfl rfl rfl ?_
    refine SX.next ?_
    refine CW.condF rfl ?_
    refine CW.skip ?_
    refine KN.code ?_
    refine CW.seq ?_
    refine CW.reg [0, 1, 2, 3, 4, 5, 6] rfl ?_   -- 7, law.go:46
    refine s_mv 57 rfl rfl ?_
    refine s_call 58 rfl rfl rfl rfl (fun w hw => made_spec _ w) (fun _ _ => trivial) (fun g _ => ?_)
    refine s_mv 56 rfl rfl ?_
    refine s_ext 59 rfl rfl rfl ?_
    refine s_ext 60 rfl rfl rfl ?_
    refine s_as 12 rfl rfl ?_
    refine s_as 13 rfl rfl ?_
    refine SX.next ?_
    refine CW.seq ?_
    refine CW.seq ?_
    refine CW.reg [0, 1, 2, 3, 4, 5, 6, 7, 8, 9, 10, 11, 12, 13, 14, 15] rfl ?_   -- 8, law.go:47
    refine s_mv 61 rfl rfl ?_
    refine s_eqPN 62 rfl rfl ?_
    refine s_mv 63 rfl rfl ?_
    refine s_mv 64 rfl rfl ?_
    refine s_call1 65 rfl rfl rfl rfl (fun w hw => m_spec g _ _ hm (hw.has (i := 0) rfl)) (fun _ _ => trivial) ?_
    refine s_mv 66 rfl rfl ?_
    refine s_ne 67 rfl rfl rfl (decide_eq_false (fun h => h rfl)) ?_
    refine s_pickF 68 rfl rfl rfl ?_
    refine s_mv 69 rfl rfl ?_
    refine s_mv 70 rfl rfl ?_
    refine s_call1 71 rfl rfl rfl rfl (fun w hw => size_spec g _ _ hm (hw.has (i := 0) rfl)) (fun _ _ => trivial) ?_
    refine s_mv 72 rfl rfl ?_
    refine s_conv 73 rfl rfl (u64_nat hm) ?_
    refine s_shl 74 rfl rfl rfl (by omega) (shl_one hm) ?_
    refine s_ne 75 rfl rfl rfl (decide_eq_false (fun h => h rfl)) ?_
    refine s_pickF 76 rfl rfl rfl ?_
    refine SX.next ?_
    refine CW.condF rfl ?_
    refine CW.skip ?_
    refine KN.code ?_
    refine CW.seq ?_
    refine CW.reg [0, 1, 2, 3, 4, 5, 6, 7] rfl ?_   -- 10, law.go:50
    refine s_mv 78 rfl rfl ?_
    refine s_mv 79 rfl rfl ?_
    refine s_call1 80 rfl rfl rfl rfl (fun w hw => inv_zero g _ _ e _ hm (hw.has (i := 0) rfl) (hw.er hz) h0) (fun _ _ => trivial) ?_
    refine s_mv 77 rfl rfl ?_
    refine s_ext 81 rfl rfl rfl ?_
    refine s_ext 82 rfl rfl rfl ?_
    refine s_as 14 rfl rfl ?_
    refine s_as 15 rfl rfl ?_
    refine SX.next ?_
    refine CW.seq ?_
    refine CW.reg [0, 1, 2, 3, 4, 5, 6, 7, 8] rfl ?_   -- 11, law.go:51
    refine s_mv 84 rfl rfl ?_
    refine s_mv 85 rfl rfl ?_
    refine s_mv 86 rfl rfl ?_
    refine s_call1 87 rfl rfl rfl rfl (fun w hw => div_spec g _ _ _ _ hm (hw.has (i := 0) rfl) h1) (fun _ _ => trivial) ?_
    refine s_mv 83 rfl rfl ?_
    refine s_ext 88 rfl rfl rfl ?_
    refine s_ext 89 rfl rfl rfl ?_
    refine s_as 16 rfl rfl ?_
    refine s_as 17 rfl rfl ?_
    refine SX.next ?_
    refine CW.seq ?_
    refine CW.reg [0, 1, 2, 3, 4] rfl ?_   -- 12, law.go:52
    refine s_mv 90 rfl rfl ?_
    refine s_mv 91 rfl rfl ?_
    refine s_call1 92 rfl rfl rfl rfl (fun w hw => rlow_spec _ _ _ hm) (fun _ _ => trivial) ?_
    refine s_eq 93 rfl rfl rfl (decide_eq_true (by omega)) ?_
    refine s_as 18 rfl rfl ?_
    refine SX.next ?_
    refine CW.seq ?_
    refine CW.reg [0, 1, 2, 3, 4] rfl ?_   -- 13, law.go:53
    refine s_mv 94 rfl rfl ?_
    refine s_mv 95 rfl rfl ?_
    refine s_call1 96 rfl rfl rfl rfl (fun w hw => rlow_spec _ _ _ hm) (fun _ _ => trivial) ?_
    refine s_eq 97 rfl rfl rfl (decide_eq_false (by omega)) ?_
    refine s_as 19 rfl rfl ?_
    refine SX.next ?_
    refine CW.seq ?_
    refine CW.reg [0, 1, 2, 3, 4, 5, 6, 7, 8, 9, 10, 11, 12, 13, 14, 15, 16, 17, 18, 19, 20, 21, 22, 23, 24, 25, 26, 27, 28, 29, 30, 31, 32, 33, 34, 35, 36, 37, 38, 39, 40, 41, 42, 43, 44, 45, 46, 47, 48, 49, 50, 51, 52, 53, 54, 55, 56, 57, 58, 59, 60, 61, 62, 63, 64, 65] rfl ?_   -- 14, law.go:54
    refine s_mv 98 rfl rfl ?_
    refine s_mv 99 rfl rfl ?_
    refine s_mv 100 rfl rfl ?_
    refine s_call1 101 rfl rfl rfl rfl (fun w hw => add_spec g _ _ _ _ hm (hw.has (i := 0) rfl)) (fun _ _ => trivial) ?_
    refine s_mv 102 rfl rfl ?_
    refine s_mv 103 rfl rfl ?_
    refine s_mv 104 rfl rfl ?_
    refine s_bit 105 rfl rfl rfl rfl rfl ?_
    refine s_call1 106 rfl rfl rfl rfl (fun w hw => rlow_spec _ _ _ hm) (fun _ _ => trivial) ?_
    refine s_eq 107 rfl rfl rfl (decide_eq_true (cst (lo_xor hm _ _).symm)) ?_
    refine s_mv 108 rfl rfl ?_
    refine s_mv 109 rfl rfl ?_
    refine s_mv 110 rfl rfl ?_
    refine s_mv 111 rfl rfl ?_
    refine s_call1 112 rfl rfl rfl rfl (fun w hw => mul_spec g _ _ _ _ hm (hw.has (i := 0) rfl)) (fun _ _ => trivial) ?_
    refine s_mv 113 rfl rfl ?_
    refine s_mv 114 rfl rfl ?_
    refine s_mv 115 rfl rfl ?_
    refine s_call1 116 rfl rfl rfl rfl (fun w hw => rmul_spec _ _ _ _ hm) (fun _ _ => trivial) ?_
    refine s_eq 117 rfl rfl rfl (decide_eq_true rfl) ?_
    refine s_pickT 118 rfl rfl rfl ?_
    refine s_mv 119 rfl rfl ?_
    refine s_mv 120 rfl rfl ?_
    refine s_mv 121 rfl rfl ?_
    refine s_mv 122 rfl rfl ?_
    refine s_call1 123 rfl rfl rfl rfl (fun w hw => pow_spec g _ _ _ e _ hm (hw.has (i := 0) rfl) (hw.er hz)) (fun _ _ => trivial) ?_
    refine s_mv 124 rfl rfl ?_
    refine s_mv 125 rfl rfl ?_
    refine s_mv 126 rfl rfl ?_
    refine s_call1 127 rfl rfl rfl rfl (fun w hw => rpow_spec _ _ _ _ hm) (fun _ _ => trivial) ?_
    refine s_eq 128 rfl rfl rfl (decide_eq_true rfl) ?_
    refine s_pickT 129 rfl rfl rfl ?_
    refine s_mv 130 rfl rfl ?_
    refine s_mv 131 rfl rfl ?_
    refine s_mv 132 rfl rfl ?_
    refine s_call1 133 rfl rfl rfl rfl (fun w hw => exp_spec g _ _ _ hm (hw.has (i := 0) rfl)) (fun _ _ => trivial) ?_
    refine s_mv 134 rfl rfl ?_
    refine s_mv 135 rfl rfl ?_
    refine s_call1 136 rfl rfl rfl rfl (fun w hw => rexp_spec _ _ _ hm) (fun _ _ => trivial) ?_
    refine s_eq 137 rfl rfl rfl (decide_eq_true rfl) ?_
    refine s_pickT 138 rfl rfl rfl ?_
    refine s_mv 139 rfl rfl ?_
    refine s_mv 140 rfl rfl ?_
    refine s_mv 141 rfl rfl ?_
    refine s_call1 142 rfl rfl rfl rfl (fun w hw => trace_spec g _ _ _ hm (hw.has (i := 0) rfl)) (fun _ _ => trivial) ?_
    refine s_mv 143 rfl rfl ?_
    refine s_mv 144 rfl rfl ?_
    refine s_call1 145 rfl rfl rfl rfl (fun w hw => rtrace_spec _ _ _ hm) (fun _ _ => trivial) ?_
    refine s_eq 146 rfl rfl rfl (decide_eq_true rfl) ?_
    refine s_pickT 147 rfl rfl rfl ?_
    refine s_mv 148 rfl rfl ?_
    refine s_mv 149 rfl rfl ?_
    refine s_mv 150 rfl rfl ?_
    refine s_call1 151 rfl rfl rfl rfl (fun w hw => is_spec g _ _ _ hm (hw.has (i := 0) rfl)) (fun _ _ => trivial) ?_
    refine s_mv 152 rfl rfl ?_
    refine s_ge 153 rfl rfl rfl rfl ?_
    refine s_mv 154 rfl rfl ?_
    refine SX.bool 154 rfl (fun hb => ?_) (fun hb => ?_)
    · skip
      refine s_mv 155 rfl rfl ?_
      refine s_mv 156 rfl rfl ?_
      refine s_conv 157 rfl rfl (u64_nat hm) ?_
      refine s_shl 158 rfl rfl rfl (by omega) (shl_one hm) ?_
      refine s_lt 159 rfl rfl rfl rfl ?_
      refine s_pickT 160 rfl rfl rfl ?_
      refine s_eqB 161 rfl rfl rfl (isA (of_decide_eq_true hb)) ?_
      refine s_pickT 162 rfl rfl rfl ?_
      refine s_as 20 rfl rfl ?_
      refine SX.next ?_
      refine CW.seq ?_
      refine CW.reg [0, 1, 2, 3, 4, 5, 6, 7, 8, 9, 10, 11, 12, 13, 14, 15, 16, 17, 18, 19, 20, 21, 22, 23, 24, 25] rfl ?_   -- 15, law.go:55
      refine s_mv 163 rfl rfl ?_
      refine s_mv 164 rfl rfl ?_
      refine s_mv 165 rfl rfl ?_
      refine s_ld 166 rfl rfl (fun _ h => h.cell (by assumption)) ?_
      refine s_eqE 167 rfl rfl rfl ?_
      refine s_pickT 168 rfl rfl rfl ?_
      refine s_mv 169 rfl rfl ?_
      refine s_mv 170 rfl rfl ?_
      refine s_eq 171 rfl rfl rfl (decide_eq_true rfl) ?_
      refine s_pickT 172 rfl rfl rfl ?_
      refine s_mv 173 rfl rfl ?_
      refine SX.skip rfl ?_
      refine SX.skip rfl ?_
      refine SX.skip rfl ?_
      refine SX.skipU rfl ?_
      refine SX.skipU rfl ?_
      refine SX.skip rfl ?_
      refine SX.skip rfl ?_
      refine SX.skipU rfl ?_
      refine SX.skipU rfl ?_
      refine SX.skipU rfl ?_
      refine SX.skipU rfl ?_
      refine SX.skipU rfl ?_
      refine SX.skip rfl ?_
      refine s_pickT 187 rfl rfl rfl ?_
      refine s_as 21 rfl rfl ?_
      refine SX.next ?_
      refine CW.seq ?_
      refine CW.reg [0, 1, 2, 3, 4, 5, 6, 7, 8, 9, 10, 11, 12, 13, 14, 15, 16, 17, 18, 19, 20, 21, 22, 23, 24, 25, 26, 27, 28] rfl ?_   -- 16, law.go:56
      refine s_mv 188 rfl rfl ?_
      refine s_mv 189 rfl rfl ?_
      refine SX.skip rfl ?_
      refine SX.skip rfl ?_
      refine SX.skip rfl ?_
      refine s_pickF 193 rfl rfl rfl ?_
      refine s_mv 194 rfl rfl ?_
      refine SX.skip rfl ?_
      refine SX.skip rfl ?_
      refine s_pickF 197 rfl rfl rfl ?_
      refine s_mv 198 rfl rfl ?_
      refine s_mv 199 rfl rfl ?_
      refine s_not 200 rfl rfl ?_
      refine s_mv 201 rfl rfl ?_
      refine s_mv 202 rfl rfl ?_
      refine s_eqNN 203 rfl rfl ?_
      refine s_pickT 204 rfl rfl rfl ?_
      refine s_mv 205 rfl rfl ?_
      refine s_mv 206 rfl rfl ?_
      refine s_mv 207 rfl rfl ?_
      refine s_mv 208 rfl rfl ?_
      refine s_mv 209 rfl rfl ?_
      refine s_mv 210 rfl rfl ?_
      refine s_call1 211 rfl rfl rfl rfl (fun w hw => rinv_spec _ _ _ hm h1) (fun _ _ => trivial) ?_
      refine s_call1 212 rfl rfl rfl rfl (fun w hw => (by have := rmul_spec (mkm 10 a0) a1 (inv (mkm 10 a0) (lo (mkm 10 a0) a2) : Nat) w hm; rw [lo_nat (inv_lt hm _)] at this; exact this)) (fun _ _ => trivial) ?_
      refine s_eq 213 rfl rfl rfl (decide_eq_true rfl) ?_
      refine s_pickT 214 rfl rfl rfl ?_
      refine s_pickF 215 rfl rfl rfl ?_
      refine s_as 22 rfl rfl ?_
      refine SX.next ?_
      refine CW.seq ?_
      refine CW.reg [0, 1, 2, 3, 4, 5, 6, 7] rfl ?_   -- 17, law.go:57
      refine s_mv 216 rfl rfl ?_
      refine s_mv 217 rfl rfl ?_
      refine s_mv 218 rfl rfl ?_
      refine s_pickT 219 rfl rfl rfl ?_
      refine s_mv 220 rfl rfl ?_
      refine s_mv 221 rfl rfl ?_
      refine s_pickT 222 rfl rfl rfl ?_
      refine s_as 8 rfl rfl ?_
      refine SX.next ?_
      refine CW.ret ?_
      exact KN.ret (rs := [.tmp 8]) Tryd.results8 rfl (fun w hw => ⟨rfl, hw.nothing⟩)
    · skip
      refine SX.skip rfl ?_
      refine SX.skip rfl ?_
      refine SX.skip rfl ?_
      refine SX.skip rfl ?_
      refine SX.skip rfl ?_
      refine s_pickF 160 rfl rfl rfl ?_
      refine s_eqB 161 rfl rfl rfl (isB (of_decide_eq_false hb)) ?_
      refine s_pickT 162 rfl rfl rfl ?_
      refine s_as 20 rfl rfl ?_
      refine SX.next ?_
      refine CW.seq ?_
      refine CW.reg [0, 1, 2, 3, 4, 5, 6, 7, 8, 9, 10, 11, 12, 13, 14, 15, 16, 17, 18, 19, 20, 21, 22, 23, 24, 25] rfl ?_   -- 15, law.go:55
      refine s_mv 163 rfl rfl ?_
      refine s_mv 164 rfl rfl ?_
      refine s_mv 165 rfl rfl ?_
      refine s_ld 166 rfl rfl (fun _ h => h.cell (by assumption)) ?_
      refine s_eqE 167 rfl rfl rfl ?_
      refine s_pickT 168 rfl rfl rfl ?_
      refine s_mv 169 rfl rfl ?_
      refine s_mv 170 rfl rfl ?_
      refine s_eq 171 rfl rfl rfl (decide_eq_true rfl) ?_
      refine s_pickT 172 rfl rfl rfl ?_
      refine s_mv 173 rfl rfl ?_
      refine SX.skip rfl ?_
      refine SX.skip rfl ?_
      refine SX.skip rfl ?_
      refine SX.skipU rfl ?_
      refine SX.skipU rfl ?_
      refine SX.skip rfl ?_
      refine SX.skip rfl ?_
      refine SX.skipU rfl ?_
      refine SX.skipU rfl ?_
      refine SX.skipU rfl ?_
      refine SX.skipU rfl ?_
      refine SX.skipU rfl ?_
      refine SX.skip rfl ?_
      refine s_pickT 187 rfl rfl rfl ?_
      refine s_as 21 rfl rfl ?_
      refine SX.next ?_
      refine CW.seq ?_
      refine CW.reg [0, 1, 2, 3, 4, 5, 6, 7, 8, 9, 10, 11, 12, 13, 14, 15, 16, 17, 18, 19, 20, 21, 22, 23, 24, 25, 26, 27, 28] rfl ?_   -- 16, law.go:56
      refine s_mv 188 rfl rfl ?_
      refine s_mv 189 rfl rfl ?_
      refine SX.skip rfl ?_
      refine SX.skip rfl ?_
      refine SX.skip rfl ?_
      refine s_pickF 193 rfl rfl rfl ?_
      refine s_mv 194 rfl rfl ?_
      refine SX.skip rfl ?_
      refine SX.skip rfl ?_
      refine s_pickF 197 rfl rfl rfl ?_
      refine s_mv 198 rfl rfl ?_
      refine s_mv 199 rfl rfl ?_
      refine s_not 200 rfl rfl ?_
      refine s_mv 201 rfl rfl ?_
      refine s_mv 202 rfl rfl ?_
      refine s_eqNN 203 rfl rfl ?_
      refine s_pickT 204 rfl rfl rfl ?_
      refine s_mv 205 rfl rfl ?_
      refine s_mv 206 rfl rfl ?_
      refine s_mv 207 rfl rfl ?_
      refine s_mv 208 rfl rfl ?_
      refine s_mv 209 rfl rfl ?_
      refine s_mv 210 rfl rfl ?_
      refine s_call1 211 rfl rfl rfl rfl (fun w hw => rinv_spec _ _ _ hm h1) (fun _ _ => trivial) ?_
      refine s_call1 212 rfl rfl rfl rfl (fun w hw => (by have := rmul_spec (mkm 10 a0) a1 (inv (mkm 10 a0) (lo (mkm 10 a0) a2) : Nat) w hm; rw [lo_nat (inv_lt hm _)] at this; exact this)) (fun _ _ => trivial) ?_
      refine s_eq 213 rfl rfl rfl (decide_eq_true rfl) ?_
      refine s_pickT 214 rfl rfl rfl ?_
      refine s_pickF 215 rfl rfl rfl ?_
      refine s_as 22 rfl rfl ?_
      refine SX.next ?_
      refine CW.seq ?_
      refine CW.reg [0, 1, 2, 3, 4, 5, 6, 7] rfl ?_   -- 17, law.go:57
      refine s_mv 216 rfl rfl ?_
      refine s_mv 217 rfl rfl ?_
      refine s_mv 218 rfl rfl ?_
      refine s_pickT 219 rfl rfl rfl ?_
      refine s_mv 220 rfl rfl ?_
      refine s_mv 221 rfl rfl ?_
      refine s_pickT 222 rfl rfl rfl ?_
      refine s_as 8 rfl rfl ?_
      refine SX.next ?_
      refine CW.ret ?_
      exact KN.ret (rs := [.tmp 8]) Tryd.results8 rfl (fun w hw => ⟨rfl, hw.nothing⟩)
  · skip
    refine SX.skip rfl ?_
    refine SX.skip rfl ?_
    refine s_pickF 45 rfl rfl rfl ?_
    refine s_neB 46 rfl rfl rfl rfl ?_
    refine s_mv 47 rfl rfl ?_
    refine s_mv 48 rfl rfl ?_
    refine s_neHN 49 rfl rfl ?_
    refine s_mv 50 rfl rfl ?_
    refine s_mv 51 rfl rfl ?_
    refine s_ld 52 rfl rfl (fun _ h => h.cell (by assumption)) ?_
    refine s_neE 53 rfl rfl rfl ?_
    refine s_pickT 54 rfl rfl rfl ?_
    refine s_pickF 55 rfl rfl rfl ?_
    refine SX.next ?_
    refine CW.condF rfl ?_
    refine CW.skip ?_
    refine KN.code ?_
    refine CW.seq ?_
    refine CW.reg [0, 1, 2, 3, 4, 5, 6] rfl ?_   -- 7, law.go:46
    refine s_mv 57 rfl rfl ?_
    refine s_call 58 rfl rfl rfl rfl (fun w hw => made_spec _ w) (fun _ _ => trivial) (fun g _ => ?_)
    refine s_mv 56 rfl rfl ?_
    refine s_ext 59 rfl rfl rfl ?_
    refine s_ext 60 rfl rfl rfl ?_
    refine s_as 12 rfl rfl ?_
    refine s_as 13 rfl rfl ?_
    refine SX.next ?_
    refine CW.seq ?_
    refine CW.seq ?_
    refine CW.reg [0, 1, 2, 3, 4, 5, 6, 7, 8, 9, 10, 11, 12, 13, 14, 15] rfl ?_   -- 8, law.go:47
    refine s_mv 61 rfl rfl ?_
    refine s_eqPN 62 rfl rfl ?_
    refine s_mv 63 rfl rfl ?_
    refine s_mv 64 rfl rfl ?_
    refine s_call1 65 rfl rfl rfl rfl (fun w hw => m_spec g _ _ hm (hw.has (i := 0) rfl)) (fun _ _ => trivial) ?_
    refine s_mv 66 rfl rfl ?_
    refine s_ne 67 rfl rfl rfl (decide_eq_false (fun h => h rfl)) ?_
    refine s_pickF 68 rfl rfl rfl ?_
    refine s_mv 69 rfl rfl ?_
    refine s_mv 70 rfl rfl ?_
    refine s_call1 71 rfl rfl rfl rfl (fun w hw => size_spec g _ _ hm (hw.has (i := 0) rfl)) (fun _ _ => trivial) ?_
    refine s_mv 72 rfl rfl ?_
    refine s_conv 73 rfl rfl (u64_nat hm) ?_
    refine s_shl 74 rfl rfl rfl (by omega) (shl_one hm) ?_
    refine s_ne 75 rfl rfl rfl (decide_eq_false (fun h => h rfl)) ?_
    refine s_pickF 76 rfl rfl rfl ?_
    refine SX.next ?_
    refine CW.condF rfl ?_
    refine CW.skip ?_
    refine KN.code ?_
    refine CW.seq ?_
    refine CW.reg [0, 1, 2, 3, 4, 5, 6, 7] rfl ?_   -- 10, law.go:50
    refine s_mv 78 rfl rfl ?_
    refine s_mv 79 rfl rfl ?_
    refine s_call1 80 rfl rfl rfl rfl (fun w hw => inv_zero g _ _ e _ hm (hw.has (i := 0) rfl) (hw.er hz) h0) (fun _ _ => trivial) ?_
    refine s_mv 77 rfl rfl ?_
    refine s_ext 81 rfl rfl rfl ?_
    refine s_ext 82 rfl rfl rfl ?_
    refine s_as 14 rfl rfl ?_
    refine s_as 15 rfl rfl ?_
    refine SX.next ?_
    refine CW.seq ?_
    refine CW.reg [0, 1, 2, 3, 4, 5, 6, 7, 8] rfl ?_   -- 11, law.go:51
    refine s_mv 84 rfl rfl ?_
    refine s_mv 85 rfl rfl ?_
    refine s_mv 86 rfl rfl ?_
    refine s_call1 87 rfl rfl rfl rfl (fun w hw => div_spec g _ _ _ _ hm (hw.has (i := 0) rfl) h1) (fun _ _ => trivial) ?_
    refine s_mv 83 rfl rfl ?_
    refine s_ext 88 rfl rfl rfl ?_
    refine s_ext 89 rfl rfl rfl ?_
    refine s_as 16 rfl rfl ?_
    refine s_as 17 rfl rfl ?_
    refine SX.next ?_
    refine CW.seq ?_
    refine CW.reg [0, 1, 2, 3, 4] rfl ?_   -- 12, law.go:52
    refine s_mv 90 rfl rfl ?_
    refine s_mv 91 rfl rfl ?_
    refine s_call1 92 rfl rfl rfl rfl (fun w hw => rlow_spec _ _ _ hm) (fun _ _ => trivial) ?_
    refine s_eq 93 rfl rfl rfl (decide_eq_true (by omega)) ?_
    refine s_as 18 rfl rfl ?_
    refine SX.next ?_
    refine CW.seq ?_
    refine CW.reg [0, 1, 2, 3, 4] rfl ?_   -- 13, law.go:53
    refine s_mv 94 rfl rfl ?_
    refine s_mv 95 rfl rfl ?_
    refine s_call1 96 rfl rfl rfl rfl (fun w hw => rlow_spec _ _ _ hm) (fun _ _ => trivial) ?_
    refine s_eq 97 rfl rfl rfl (decide_eq_false (by omega)) ?_
    refine s_as 19 rfl rfl ?_
    refine SX.next ?_
    refine CW.seq ?_
    refine CW.reg [0, 1, 2, 3, 4, 5, 6, 7, 8, 9, 10, 11, 12, 13, 14, 15, 16, 17, 18, 19, 20, 21, 22, 23, 24, 25, 26, 27, 28, 29, 30, 31, 32, 33, 34, 35, 36, 37, 38, 39, 40, 41, 42, 43, 44, 45, 46, 47, 48, 49, 50, 51, 52, 53, 54, 55, 56, 57, 58, 59, 60, 61, 62, 63, 64, 65] rfl ?_   -- 14, law.go:54
    refine s_mv 98 rfl rfl ?_
    refine s_mv 99 rfl rfl ?_
    refine s_mv 100 rfl rfl ?_
    refine s_call1 101 rfl rfl rfl rfl (fun w hw => add_spec g _ _ _ _ hm (hw.has (i := 0) rfl)) (fun _ _ => trivial) ?_
    refine s_mv 102 rfl rfl ?_
    refine s_mv 103 rfl rfl ?_
    refine s_mv 104 rfl rfl ?_
    refine s_bit 105 rfl rfl rfl rfl rfl ?_
    refine s_call1 106 rfl rfl rfl rfl (fun w hw => rlow_spec _ _ _ hm) (fun _ _ => trivial) ?_
    refine s_eq 107 rfl rfl rfl (decide_eq_true (cst (lo_xor hm _ _).symm)) ?_
    refine s_mv 108 rfl rfl ?_
    refine s_mv 109 rfl rfl ?_
    refine s_mv 110 rfl rfl ?_
    refine s_mv 111 rfl rfl ?_
    refine s_call1 112 rfl rfl rfl rfl (fun w hw => mul_spec g _ _ _ _ hm (hw.has (i := 0) rfl)) (fun _ _ => trivial) ?_
    refine s_mv 113 rfl rfl ?_
    refine s_mv 114 rfl rfl ?_
    refine s_mv 115 rfl rfl ?_
    refine s_call1 116 rfl rfl rfl rfl (fun w hw => rmul_spec _ _ _ _ hm) (fun _ _ => trivial) ?_
    refine s_eq 117 rfl rfl rfl (decide_eq_true rfl) ?_
    refine s_pickT 118 rfl rfl rfl ?_
    refine s_mv 119 rfl rfl ?_
    refine s_mv 120 rfl rfl ?_
    refine s_mv 121 rfl rfl ?_
    refine s_mv 122 rfl rfl ?_
    refine s_call1 123 rfl rfl rfl rfl (fun w hw => pow_spec g _ _ _ e _ hm (hw.has (i := 0) rfl) (hw.er hz)) (fun _ _ => trivial) ?_
    refine s_mv 124 rfl rfl ?_
    refine s_mv 125 rfl rfl ?_
    refine s_mv 126 rfl rfl ?_
    refine s_call1 127 rfl rfl rfl rfl (fun w hw => rpow_spec _ _ _ _ hm) (fun _ _ => trivial) ?_
    refine s_eq 128 rfl rfl rfl (decide_eq_true rfl) ?_
    refine s_pickT 129 rfl rfl rfl ?_
    refine s_mv 130 rfl rfl ?_
    refine s_mv 131 rfl rfl ?_
    refine s_mv 132 rfl rfl ?_
    refine s_call1 133 rfl rfl rfl rfl (fun w hw => exp_spec g _ _ _ hm (hw.has (i := 0) rfl)) (fun _ _ => trivial) ?_
    refine s_mv 134 rfl rfl ?_
    refine s_mv 135 rfl rfl ?_
    refine s_call1 136 rfl rfl rfl rfl (fun w hw => rexp_spec _ _ _ hm) (fun _ _ => trivial) ?_
    refine s_eq 137 rfl rfl rfl (decide_eq_true rfl) ?_
    refine s_pickT 138 rfl rfl rfl ?_
    refine s_mv 139 rfl rfl ?_
    refine s_mv 140 rfl rfl ?_
    refine s_mv 141 rfl rfl ?_
    refine s_call1 142 rfl rfl rfl rfl (fun w hw => trace_spec g _ _ _ hm (hw.has (i := 0) rfl)) (fun _ _ => trivial) ?_
    refine s_mv 143 rfl rfl ?_
    refine s_mv 144 rfl rfl ?_
    refine s_call1 145 rfl rfl rfl rfl (fun w hw => rtrace_spec _ _ _ hm) (fun _ _ => trivial) ?_
    refine s_eq 146 rfl rfl rfl (decide_eq_true rfl) ?_
    refine s_pickT 147 rfl rfl rfl ?_
    refine s_mv 148 rfl rfl ?_
    refine s_mv 149 rfl rfl ?_
    refine s_mv 150 rfl rfl ?_
    refine s_call1 151 rfl rfl rfl rfl (fun w hw => is_spec g _ _ _ hm (hw.has (i := 0) rfl)) (fun _ _ => trivial) ?_
    refine s_mv 152 rfl rfl ?_
    refine s_ge 153 rfl rfl rfl rfl ?_
    refine s_mv 154 rfl rfl ?_
    refine SX.bool 154 rfl (fun hb => ?_) (fun hb => ?_)
    · skip
      refine s_mv 155 rfl rfl ?_
      refine s_mv 156 rfl rfl ?_
      refine s_conv 157 rfl rfl (u64_nat hm) ?_
      refine s_shl 158 rfl rfl rfl (by omega) (shl_one hm) ?_
      refine s_lt 159 rfl rfl rfl rfl ?_
      refine s_pickT 160 rfl rfl rfl ?_
      refine s_eqB 161 rfl rfl rfl (isA (of_decide_eq_true hb)) ?_
      refine s_pickT 162 rfl rfl rfl ?_
      refine s_as 20 rfl rfl ?_
      refine SX.next ?_
      refine CW.seq ?_
      refine CW.reg [0, 1, 2, 3, 4, 5, 6, 7, 8, 9, 10, 11, 12, 13, 14, 15, 16, 17, 18, 19, 20, 21, 22, 23, 24, 25] rfl ?_   -- 15, law.go:55
      refine s_mv 163 rfl rfl ?_
      refine s_mv 164 rfl rfl ?_
      refine s_mv 165 rfl rfl ?_
      refine s_ld 166 rfl rfl (fun _ h => h.cell (by assumption)) ?_
      refine s_eqE 167 rfl rfl rfl ?_
      refine s_pickT 168 rfl rfl rfl ?_
      refine s_mv 169 rfl rfl ?_
      refine s_mv 170 rfl rfl ?_
      refine s_eq 171 rfl rfl rfl (decide_eq_true rfl) ?_
      refine s_pickT 172 rfl rfl rfl ?_
      refine s_mv 173 rfl rfl ?_
      refine SX.skip rfl ?_
      refine SX.skip rfl ?_
      refine SX.skip rfl ?_
      refine SX.skipU rfl ?_
      refine SX.skipU rfl ?_
      refine SX.skip rfl ?_
      refine SX.skip rfl ?_
      refine SX.skipU rfl ?_
      refine SX.skipU rfl ?_
      refine SX.skipU rfl ?_
      refine SX.skipU rfl ?_
      refine SX.skipU rfl ?_
      refine SX.skip rfl ?_
      refine s_pickT 187 rfl rfl rfl ?_
      refine s_as 21 rfl rfl ?_
      refine SX.next ?_
      refine CW.seq ?_
      refine CW.reg [0, 1, 2, 3, 4, 5, 6, 7, 8, 9, 10, 11, 12, 13, 14, 15, 16, 17, 18, 19, 20, 21, 22, 23, 24, 25, 26, 27, 28] rfl ?_   -- 16, law.go:56
      refine s_mv 188 rfl rfl ?_
      refine s_mv 189 rfl rfl ?_
      refine SX.skip rfl ?_
      refine SX.skip rfl ?_
      refine SX.skip rfl ?_
      refine s_pickF 193 rfl rfl rfl ?_
      refine s_mv 194 rfl rfl ?_
      refine SX.skip rfl ?_
      refine SX.skip rfl ?_
      refine s_pickF 197 rfl rfl rfl ?_
      refine s_mv 198 rfl rfl ?_
      refine s_mv 199 rfl rfl ?_
      refine s_not 200 rfl rfl ?_
      refine s_mv 201 rfl rfl ?_
      refine s_mv 202 rfl rfl ?_
      refine s_eqNN 203 rfl rfl ?_
      refine s_pickT 204 rfl rfl rfl ?_
      refine s_mv 205 rfl rfl ?_
      refine s_mv 206 rfl rfl ?_
      refine s_mv 207 rfl rfl ?_
      refine s_mv 208 rfl rfl ?_
      refine s_mv 209 rfl rfl ?_
      refine s_mv 210 rfl rfl ?_
      refine s_call1 211 rfl rfl rfl rfl (fun w hw => rinv_spec _ _ _ hm h1) (fun _ _ => trivial) ?_
      refine s_call1 212 rfl rfl rfl rfl (fun w hw => (by have := rmul_spec (mkm 10 a0) a1 (inv (mkm 10 a0) (lo (mkm 10 a0) a2) : Nat) w hm; rw [lo_nat (inv_lt hm _)] at this; exact this)) (fun _ _ => trivial) ?_
      refine s_eq 213 rfl rfl rfl (decide_eq_true rfl) ?_
      refine s_pickT 214 rfl rfl rfl ?_
      refine s_pickF 215 rfl rfl rfl ?_
      refine s_as 22 rfl rfl ?_
      refine SX.next ?_
      refine CW.seq ?_
      refine CW.reg [0, 1, 2, 3, 4, 5, 6, 7] rfl ?_   -- 17, law.go:57
      refine s_mv 216 rfl rfl ?_
      refine s_mv 217 rfl rfl ?_
      refine s_mv 218 rfl rfl ?_
      refine s_pickT 219 rfl rfl rfl ?_
      refine s_mv 220 rfl rfl ?_
      refine s_mv 221 rfl rfl ?_
      refine s_pickT 222 rfl rfl rfl ?_
      refine s_as 8 rfl rfl ?_
      refine SX.next ?_
      refine CW.ret ?_
      exact KN.ret (rs := [.tmp 8]) Tryd.results8 rfl (fun w hw => ⟨rfl, hw.nothing⟩)
    · skip
      refine SX.skip rfl ?_
      refine SX.skip rfl ?_
      refine SX.skip rfl ?_
      refine SX.skip rfl ?_
      refine SX.skip rfl ?_
      refine s_pickF 160 rfl rfl rfl ?_
      refine s_eqB 161 rfl rfl rfl (isB (of_decide_eq_false hb)) ?_
      refine s_pickT 162 rfl rfl rfl ?_
      refine s_as 20 rfl rfl ?_
      refine SX.next ?_
      refine CW.seq ?_
      refine CW.reg [0, 1, 2, 3, 4, 5, 6, 7, 8, 9, 10, 11, 12, 13, 14, 15, 16, 17, 18, 19, 20, 21, 22, 23, 24, 25] rfl ?_   -- 15, law.go:55
      refine s_mv 163 rfl rfl ?_
      refine s_mv 164 rfl rfl ?_
      refine s_mv 165 rfl rfl ?_
      refine s_ld 166 rfl rfl (fun _ h => h.cell (by assumption)) ?_
      refine s_eqE 167 rfl rfl rfl ?_
      refine s_pickT 168 rfl rfl rfl ?_
      refine s_mv 169 rfl rfl ?_
      refine s_mv 170 rfl rfl ?_
      refine s_eq 171 rfl rfl rfl (decide_eq_true rfl) ?_
      refine s_pickT 172 rfl rfl rfl ?_
      refine s_mv 173 rfl rfl ?_
      refine SX.skip rfl ?_
      refine SX.skip rfl ?_
      refine SX.skip rfl ?_
      refine SX.skipU rfl ?_
      refine SX.skipU rfl ?_
      refine SX.skip rfl ?_
      refine SX.skip rfl ?_
      refine SX.skipU rfl ?_
      refine SX.skipU rfl ?_
      refine SX.skipU rfl ?_
      refine SX.skipU rfl ?_
      refine SX.skipU rfl ?_
      refine SX.skip rfl ?_
      refine s_pickT 187 rfl rfl rfl ?_
      refine s_as 21 rfl rfl ?_
      refine SX.next ?_
      refine CW.seq ?_
      refine CW.reg [0, 1, 2, 3, 4, 5, 6, 7, 8, 9, 10, 11, 12, 13, 14, 15, 16, 17, 18, 19, 20, 21, 22, 23, 24, 25, 26, 27, 28] rfl ?_   -- 16, law.go:56
      refine s_mv 188 rfl rfl ?_
      refine s_mv 189 rfl rfl ?_
      refine SX.skip rfl ?_
      refine SX.skip rfl ?_
      refine SX.skip rfl ?_
      refine s_pickF 193 rfl rfl rfl ?_
      refine s_mv 194 rfl rfl ?_
      refine SX.skip rfl ?_
      refine SX.skip rfl ?_
      refine s_pickF 197 rfl rfl rfl ?_
      refine s_mv 198 rfl rfl ?_
      refine s_mv 199 rfl rfl ?_
      refine s_not 200 rfl rfl ?_
      refine s_mv 201 rfl rfl ?_
      refine s_mv 202 rfl rfl ?_
      refine s_eqNN 203 rfl rfl ?_
      refine s_pickT 204 rfl rfl rfl ?_
      refine s_mv 205 rfl rfl ?_
      refine s_mv 206 rfl rfl ?_
      refine s_mv 207 rfl rfl ?_
      refine s_mv 208 rfl rfl ?_
      refine s_mv 209 rfl rfl ?_
      refine s_mv 210 rfl rfl ?_
      refine s_call1 211 rfl rfl rfl rfl (fun w hw => rinv_spec _ _ _ hm h1) (fun _ _ => trivial) ?_
      refine s_call1 212 rfl rfl rfl rfl (fun w hw => (by have := rmul_spec (mkm 10 a0) a1 (inv (mkm 10 a0) (lo (mkm 10 a0) a2) : Nat) w hm; rw [lo_nat (inv_lt hm _)] at this; exact this)) (fun _ _ => trivial) ?_
      refine s_eq 213 rfl rfl rfl (decide_eq_true rfl) ?_
      refine s_pickT 214 rfl rfl rfl ?_
      refine s_pickF 215 rfl rfl rfl ?_
      refine s_as 22 rfl rfl ?_
      refine SX.next ?_
      refine CW.seq ?_
      refine CW.reg [0, 1, 2, 3, 4, 5, 6, 7] rfl ?_   -- 17, law.go:57
      refine s_mv 216 rfl rfl ?_
      refine s_mv 217 rfl rfl ?_
      refine s_mv 218 rfl rfl ?_
      refine s_pickT 219 rfl rfl rfl ?_
      refine s_mv 220 rfl rfl ?_
      refine s_mv 221 rfl rfl ?_
      refine s_pickT 222 rfl rfl rfl ?_
      refine s_as 8 rfl rfl ?_
      refine SX.next ?_
      refine CW.ret ?_
      exact KN.ret (rs := [.tmp 8]) Tryd.results8 rfl (fun w hw => ⟨rfl, hw.nothing⟩)

theorem says_101 (a0 : Int) (hbd : a0 < 3 ∨ 14 < a0) (a1 a2 a3 : Int) (e : Nat → Addr) (w : World) (hz : Er e w 0) (hfe : Er e w 1) (h0 : lo (mkm 10 a0) a1 ≠ 0) (h1 : lo (mkm 10 a0) a2 = 0) : Spec1 Tryd.prog 8 [.int .i64 a0, .int .i64 a1, .int .i64 a2, .int .i64 a3] w (.bool true) := by
  have hm := mkm_ok (k := 10) (by omega) (by omega) a0
  refine spec_of Tryd.func8 rfl Tryd.ntmps8 rfl ?_
  refine CW.seq ?_
  refine CW.reg [0] rfl ?_   -- 0, law.go:37
  refine s_as 8 rfl rfl ?_
  refine SX.next ?_
  refine CW.seq ?_
  refine CW.reg [0, 1] rfl ?_   -- 1, law.go:38
  refine s_call1 23 rfl rfl rfl rfl (fun w hw => first_spec e _ (hw.er hz) (hw.er hfe)) (fun _ _ => trivial) ?_
  refine s_as 9 rfl rfl ?_
  refine SX.next ?_
  refine CW.seq ?_
  refine CW.seq ?_
  refine CW.reg [0, 1, 2, 3, 4, 5, 6, 7, 8] rfl ?_   -- 2, law.go:39
  refine s_mv 24 rfl rfl ?_
  refine s_call1 25 rfl rfl rfl rfl (fun w hw => poly_any _ _) (fun _ _ => trivial) ?_
  refine s_mv 26 rfl rfl ?_
  refine s_call1 27 rfl rfl rfl rfl (fun w hw => rpoly_any _ _) (fun _ _ => trivial) ?_
  refine s_ne 28 rfl rfl rfl (decide_eq_false (fun h => h rfl)) ?_
  refine s_mv 29 rfl rfl ?_
  refine s_mv 30 rfl rfl ?_
  refine s_not 31 rfl rfl ?_
  refine s_pickF 32 rfl rfl rfl ?_
  refine SX.next ?_
  refine CW.condF rfl ?_
  refine CW.skip ?_
  refine KN.code ?_
  refine CW.seq ?_
  refine CW.reg [0, 1, 2, 3, 4, 5, 6] rfl ?_   -- 4, law.go:42
  refine s_mv 34 rfl rfl ?_
  refine s_call1 35 rfl rfl rfl rfl (fun w hw => new_any _ e _ (hw.er hfe) hbd) (fun _ _ => trivial) ?_
  refine s_mv 33 rfl rfl ?_
  refine s_ext 36 rfl rfl rfl ?_
  refine s_ext 37 rfl rfl rfl ?_
  refine s_as 10 rfl rfl ?_
  refine s_as 11 rfl rfl ?_
  refine SX.next ?_
  refine CW.seq ?_
  refine CW.seq ?_
  refine CW.reg [0, 1, 2, 3, 4, 5, 6, 7, 8, 9, 10, 11, 12, 13, 14, 15, 16, 17] rfl ?_   -- 5, law.go:43
  refine s_mv 38 rfl rfl ?_
  refine s_eqHN 39 rfl rfl ?_
  refine s_mv 40 rfl rfl ?_
  refine s_ge 41 rfl rfl rfl rfl ?_
  refine s_mv 42 rfl rfl ?_
  refine SX.bool 42 rfl (fun hb => ?_) (fun hb => ?_)
  · skip
    replace hb := of_decide_eq_true hb
    refine s_mv 43 rfl rfl ?_
    refine s_le 44 rfl rfl rfl (decide_eq_false (by omega)) ?_
    refine s_pickT 45 rfl rfl rfl ?_
    refine s_neB 46 rfl rfl rfl rfl ?_
    refine s_mv 47 rfl rfl ?_
    refine s_mv 48 rfl rfl ?_
    refine s_neHN 49 rfl rfl ?_
    refine s_mv 50 rfl rfl ?_
    refine s_mv 51 rfl rfl ?_
    refine s_ld 52 rfl rfl (fun _ h => h.cell (by assumption)) ?_
    refine s_neE 53 rfl rfl rfl ?_
    refine s_pickT 54 rfl rfl rfl ?_
    refine s_pickF 55 rfl rfl rfl ?_
    refine SX.next ?_
    refine CW.condF rfl ?_
    refine CW.skip ?_
    refine KN.code ?_
    refine CW.seq ?_
    refine CW.reg [0, 1, 2, 3, 4, 5, 6] rfl ?_   -- 7, law.go:46
    refine s_mv 57 rfl rfl ?_
    refine s_call 58 rfl rfl rfl rfl (fun w hw => made_spec _ w) (fun _ _ => trivial) (fun g _ => ?_)
    refine s_mv 56 rfl rfl ?_
    refine s_ext 59 rfl rfl rfl ?_
    refine s_ext 60 rfl rfl rfl ?_
    refine s_as 12 rfl rfl ?_
    refine s_as 13 rfl rfl ?_
    refine SX.next ?_
    refine CW.seq ?_
    refine CW.seq ?_
    refine CW.reg [0, 1, 2, 3, 4, 5, 6, 7, 8, 9, 10, 11, 12, 13, 14, 15] rfl ?_   -- 8, law.go:47
    refine s_mv 61 rfl rfl ?_
    refine s_eqPN 62 rfl rfl ?_
    refine s_mv 63 rfl rfl ?_
    refine s_mv 64 rfl rfl ?_
    refine s_call1 65 rfl rfl rfl rfl (fun w hw => m_spec g _ _ hm (hw.has (i := 0) rfl)) (fun _ _ => trivial) ?_
    refine s_mv 66 rfl rfl ?_
    refine s_ne 67 rfl rfl rfl (decide_eq_false (fun h => h rfl)) ?_
    refine s_pickF 68 rfl rfl rfl ?_
    refine s_mv 69 rfl rfl ?_
    refine s_mv 70 rfl rfl ?_
    refine s_call1 71 rfl rfl rfl rfl (fun w hw => size_spec g _ _ hm (hw.has (i := 0) rfl)) (fun _ _ => trivial) ?_
    refine s_mv 72 rfl rfl ?_
    refine s_conv 73 rfl rfl (u64_nat hm) ?_
    refine s_shl 74 rfl rfl rfl (by omega) (shl_one hm) ?_
    refine s_ne 75 rfl rfl rfl (decide_eq_false (fun h => h rfl)) ?_
    refine s_pickF 76 rfl rfl rfl ?_
    refine SX.next ?_
    refine CW.condF rfl ?_
    refine CW.skip ?_
    refine KN.code ?_
    refine CW.seq ?_
    refine CW.reg [0, 1, 2, 3, 4, 5, 6, 7] rfl ?_   -- 10, law.go:50
    refine s_mv 78 rfl rfl ?_
    refine s_mv 79 rfl rfl ?_
    refine s_call1 80 rfl rfl rfl rfl (fun w hw => inv_spec g _ _ _ hm (hw.has (i := 0) rfl) h0) (fun _ _ => trivial) ?_
    refine s_mv 77 rfl rfl ?_
    refine s_ext 81 rfl rfl rfl ?_
    refine s_ext 82 rfl rfl rfl ?_
    refine s_as 14 rfl rfl ?_
    refine s_as 15 rfl rfl ?_
    refine SX.next ?_
    refine CW.seq ?_
    refine CW.reg [0, 1, 2, 3, 4, 5, 6, 7, 8] rfl ?_   -- 11, law.go:51
    refine s_mv 84 rfl rfl ?_
    refine s_mv 85 rfl rfl ?_
    refine s_mv 86 rfl rfl ?_
    refine s_call1 87 rfl rfl rfl rfl (fun w hw => div_zero g _ _ _ e _ hm (hw.has (i := 0) rfl) (hw.er hz) h1) (fun _ _ => trivial) ?_
    refine s_mv 83 rfl rfl ?_
    refine s_ext 88 rfl rfl rfl ?_
    refine s_ext 89 rfl rfl rfl ?_
    refine s_as 16 rfl rfl ?_
    refine s_as 17 rfl rfl ?_
    refine SX.next ?_
    refine CW.seq ?_
    refine CW.reg [0, 1, 2, 3, 4] rfl ?_   -- 12, law.go:52
    refine s_mv 90 rfl rfl ?_
    refine s_mv 91 rfl rfl ?_
    refine s_call1 92 rfl rfl rfl rfl (fun w hw => rlow_spec _ _ _ hm) (fun _ _ => trivial) ?_
    refine s_eq 93 rfl rfl rfl (decide_eq_false (by omega)) ?_
    refine s_as 18 rfl rfl ?_
    refine SX.next ?_
    refine CW.seq ?_
    refine CW.reg [0, 1, 2, 3, 4] rfl ?_   -- 13, law.go:53
    refine s_mv 94 rfl rfl ?_
    refine s_mv 95 rfl rfl ?_
    refine s_call1 96 rfl rfl rfl rfl (fun w hw => rlow_spec _ _ _ hm) (fun _ _ => trivial) ?_
    refine s_eq 97 rfl rfl rfl (decide_eq_true (by omega)) ?_
    refine s_as 19 rfl rfl ?_
    refine SX.next ?_
    refine CW.seq ?_
    refine CW.reg [0, 1, 2, 3, 4, 5, 6, 7, 8, 9, 10, 11, 12, 13, 14, 15, 16, 17, 18, 19, 20, 21, 22, 23, 24, 25, 26, 27, 28, 29, 30, 31, 32, 33, 34, 35, 36, 37, 38, 39, 40, 41, 42, 43, 44, 45, 46, 47, 48, 49, 50, 51, 52, 53, 54, 55, 56, 57, 58, 59, 60, 61, 62, 63, 64, 65] rfl ?_   -- 14, law.go:54
    refine s_mv 98 rfl rfl ?_
    refine s_mv 99 rfl rfl ?_
    refine s_mv 100 rfl rfl ?_
    refine s_call1 101 rfl rfl rfl rfl (fun w hw => add_spec g _ _ _ _ hm (hw.has (i := 0) rfl)) (fun _ _ => trivial) ?_
    refine s_mv 102 rfl rfl ?_
    refine s_mv 103 rfl rfl ?_
    refine s_mv 104 rfl rfl ?_
    refine s_bit 105 rfl rfl rfl rfl rfl ?_
    refine s_call1 106 rfl rfl rfl rfl (fun w hw => rlow_spec _ _ _ hm) (fun _ _ => trivial) ?_
    refine s_eq 107 rfl rfl rfl (decide_eq_true (cst (lo_xor hm _ _).symm)) ?_
    refine s_mv 108 rfl rfl ?_
    refine s_mv 109 rfl rfl ?_
    refine s_mv 110 rfl rfl ?_
    refine s_mv 111 rfl rfl ?_
    refine s_call1 112 rfl rfl rfl rfl (fun w hw => mul_spec g _ _ _ _ hm (hw.has (i := 0) rfl)) (fun _ _ => trivial) ?_
    refine s_mv 113 rfl rfl ?_
    refine s_mv 114 rfl rfl ?_
    refine s_mv 115 rfl rfl ?_
    refine s_call1 116 rfl rfl rfl rfl (fun w hw => rmul_spec _ _ _ _ hm) (fun _ _ => trivial) ?_
    refine s_eq 117 rfl rfl rfl (decide_eq_true rfl) ?_
    refine s_pickT 118 rfl rfl rfl ?_
    refine s_mv 119 rfl rfl ?_
    refine s_mv 120 rfl rfl ?_
    refine s_mv 121 rfl rfl ?_
    refine s_mv 122 rfl rfl ?_
    refine s_call1 123 rfl rfl rfl rfl (fun w hw => pow_spec g _ _ _ e _ hm (hw.has (i := 0) rfl) (hw.er hz)) (fun _ _ => trivial) ?_
    refine s_mv 124 rfl rfl ?_
    refine s_mv 125 rfl rfl ?_
    refine s_mv 126 rfl rfl ?_
    refine s_call1 127 rfl rfl rfl rfl (fun w hw => rpow_spec _ _ _ _ hm) (fun _ _ => trivial) ?_
    refine s_eq 128 rfl rfl rfl (decide_eq_true rfl) ?_
    refine s_pickT 129 rfl rfl rfl ?_
    refine s_mv 130 rfl rfl ?_
    refine s_mv 131 rfl rfl ?_
    refine s_mv 132 rfl rfl ?_
    refine s_call1 133 rfl rfl rfl rfl (fun w hw => exp_spec g _ _ _ hm (hw.has (i := 0) rfl)) (fun _ _ => trivial) ?_
    refine s_mv 134 rfl rfl ?_
    refine s_mv 135 rfl rfl ?_
    refine s_call1 136 rfl rfl rfl rfl (fun w hw => rexp_spec _ _ _ hm) (fun _ _ => trivial) ?_
    refine s_eq 137 rfl rfl rfl (decide_eq_true rfl) ?_
    refine s_pickT 138 rfl rfl rfl ?_
    refine s_mv 139 rfl rfl ?_
    refine s_mv 140 rfl rfl ?_
    refine s_mv 141 rfl rfl ?_
    refine s_call1 142 rfl rfl rfl rfl (fun w hw => trace_spec g _ _ _ hm (hw.has (i := 0) rfl)) (fun _ _ => trivial) ?_
    refine s_mv 143 rfl rfl ?_
    refine s_mv 144 rfl rfl ?_
    refine s_call1 145 rfl rfl rfl rfl (fun w hw => rtrace_spec _ _ _ hm) (fun _ _ => trivial) ?_
    refine s_eq 146 rfl rfl rfl (decide_eq_true rfl) ?_
    refine s_pickT 147 rfl rfl rfl ?_
    refine s_mv 148 rfl rfl ?_
    refine s_mv 149 rfl rfl ?_
    refine s_mv 150 rfl rfl ?_
    refine s_call1 151 rfl rfl rfl rfl (fun w hw => is_spec g _ _ _ hm (hw.has (i := 0) rfl)) (fun _ _ => trivial) ?_
    refine s_mv 152 rfl rfl ?_
    refine s_ge 153 rfl rfl rfl rfl ?_
    refine s_mv 154 rfl rfl ?_
    refine SX.bool 154 rfl (fun hb => ?_) (fun hb => ?_)
    · skip
      refine s_mv 155 rfl rfl ?_
      refine s_mv 156 rfl rfl ?_
      refine s_conv 157 rfl rfl (u64_nat hm) ?_
      refine s_shl 158 rfl rfl rfl (by omega) (shl_one hm) ?_
      refine s_lt 159 rfl rfl rfl rfl ?_
      refine s_pickT 160 rfl rfl rfl ?_
      refine s_eqB 161 rfl rfl rfl (isA (of_decide_eq_true hb)) ?_
      refine s_pickT 162 rfl rfl rfl ?_
      refine s_as 20 rfl rfl ?_
      refine SX.next ?_
      refine CW.seq ?_
      refine CW.reg [0, 1, 2, 3, 4, 5, 6, 7, 8, 9, 10, 11, 12, 13, 14, 15, 16, 17, 18, 19, 20, 21, 22, 23, 24, 25] rfl ?_   -- 15, law.go:55
      refine s_mv 163 rfl rfl ?_
      refine s_mv 164 rfl rfl ?_
      refine SX.skip rfl ?_
      refine SX.skip rfl ?_
      refine SX.skip rfl ?_
      refine s_pickF 168 rfl rfl rfl ?_
      refine s_mv 169 rfl rfl ?_
      refine SX.skip rfl ?_
      refine SX.skip rfl ?_
      refine s_pickF 172 rfl rfl rfl ?_
      refine s_mv 173 rfl rfl ?_
      refine s_mv 174 rfl rfl ?_
      refine s_not 175 rfl rfl ?_
      refine s_mv 176 rfl rfl ?_
      refine s_mv 177 rfl rfl ?_
      refine s_eqNN 178 rfl rfl ?_
      refine s_pickT 179 rfl rfl rfl ?_
      refine s_mv 180 rfl rfl ?_
      refine s_mv 181 rfl rfl ?_
      refine s_mv 182 rfl rfl ?_
      refine s_mv 183 rfl rfl ?_
      refine s_call1 184 rfl rfl rfl rfl (fun w hw => rinv_spec _ _ _ hm h0) (fun _ _ => trivial) ?_
      refine s_eq 185 rfl rfl rfl (decide_eq_true rfl) ?_
      refine s_pickT 186 rfl rfl rfl ?_
      refine s_pickF 187 rfl rfl rfl ?_
      refine s_as 21 rfl rfl ?_
      refine SX.next ?_
      refine CW.seq ?_
      refine CW.reg [0, 1, 2, 3, 4, 5, 6, 7, 8, 9, 10, 11, 12, 13, 14, 15, 16, 17, 18, 19, 20, 21, 22, 23, 24, 25, 26, 27, 28] rfl ?_   -- 16, law.go:56
      refine s_mv 188 rfl rfl ?_
      refine s_mv 189 rfl rfl ?_
      refine s_mv 190 rfl rfl ?_
      refine s_ld 191 rfl rfl (fun _ h => h.cell (by assumption)) ?_
      refine s_eqE 192 rfl rfl rfl ?_
      refine s_pickT 193 rfl rfl rfl ?_
      refine s_mv 194 rfl rfl ?_
      refine s_mv 195 rfl rfl ?_
      refine s_eq 196 rfl rfl rfl (decide_eq_true rfl) ?_
      refine s_pickT 197 rfl rfl rfl ?_
      refine s_mv 198 rfl rfl ?_
      refine SX.skip rfl ?_
      refine SX.skip rfl ?_
      refine SX.skip rfl ?_
      refine SX.skipU rfl ?_
      refine SX.skipU rfl ?_
      refine SX.skip rfl ?_
      refine SX.skip rfl ?_
      refine SX.skipU rfl ?_
      refine SX.skipU rfl ?_
      refine SX.skipU rfl ?_
      refine SX.skipU rfl ?_
      refine SX.skipU rfl ?_
      refine SX.skipU rfl ?_
      refine SX.skipU rfl ?_
      refine SX.skipU rfl ?_
      refine SX.skip rfl ?_
      refine s_pickT 215 rfl rfl rfl ?_
      refine s_as 22 rfl rfl ?_
      refine SX.next ?_
      refine CW.seq ?_
      refine CW.reg [0, 1, 2, 3, 4, 5, 6, 7] rfl ?_   -- 17, law.go:57
      refine s_mv 216 rfl rfl ?_
      refine s_mv 217 rfl rfl ?_
      refine s_mv 218 rfl rfl ?_
      refine s_pickT 219 rfl rfl rfl ?_
      refine s_mv 220 rfl rfl ?_
      refine s_mv 221 rfl rfl ?_
      refine s_pickT 222 rfl rfl rfl ?_
      refine s_as 8 rfl rfl ?_
      refine SX.next ?_
      refine CW.ret ?_
      exact KN.ret (rs := [.tmp 8]) Tryd.results8 rfl (fun w hw => ⟨rfl, hw.nothing⟩)
    · skip
      refine SX.skip rfl ?_
      refine SX.skip rfl ?_
      refine SX.skip rfl ?_
      refine SX.skip rfl ?_
      refine SX.skip rfl ?_
      refine s_pickF 160 rfl rfl rfl ?_
      refine s_eqB 161 rfl rfl rfl (isB (of_decide_eq_false hb)) ?_
      refine s_pickT 162 rfl rfl rfl ?_
      refine s_as 20 rfl rfl ?_
      refine SX.next ?_
      refine CW.seq ?_
      refine CW.reg [0, 1, 2, 3, 4, 5, 6, 7, 8, 9, 10, 11, 12, 13, 14, 15, 16, 17, 18, 19, 20, 21, 22, 23, 24, 25] rfl ?_   -- 15, law.go:55
      refine s_mv 163 rfl rfl ?_
      refine s_mv 164 rfl rfl ?_
      refine SX.skip rfl ?_
      refine SX.skip rfl ?_
      refine SX.skip rfl ?_
      refine s_pickF 168 rfl rfl rfl ?_
      refine s_mv 169 rfl rfl ?_
      refine SX.skip rfl ?_
      refine SX.skip rfl ?_
      refine s_pickF 172 rfl rfl rfl ?_
      refine s_mv 173 rfl rfl ?_
      refine s_mv 174 rfl rfl ?_
      refine s_not 175 rfl rfl ?_
      refine s_mv 176 rfl rfl ?_
      refine s_mv 177 rfl rfl ?_
      refine s_eqNN 178 rfl rfl ?_
      refine s_pickT 179 rfl rfl rfl ?_
      refine s_mv 180 rfl rfl ?_
      refine s_mv 181 rfl rfl ?_
      refine s_mv 182 rfl rfl ?_
      refine s_mv 183 rfl rfl ?_
      refine s_call1 184 rfl rfl rfl rfl (fun w hw => rinv_spec _ _ _ hm h0) (fun _ _ => trivial) ?_
      refine s_eq 185 rfl rfl rfl (decide_eq_true rfl) ?_
      refine s_pickT 186 rfl rfl rfl ?_
      refine s_pickF 187 rfl rfl rfl ?_
      refine s_as 21 rfl rfl ?_
      refine SX.next ?_
      refine CW.seq ?_
      refine CW.reg [0, 1, 2, 3, 4, 5, 6, 7, 8, 9, 10, 11, 12, 13, 14, 15, 16, 17, 18, 19, 20, 21, 22, 23, 24, 25, 26, 27, 28] rfl ?_   -- 16, law.go:56
      refine s_mv 188 rfl rfl ?_
      refine s_mv 189 rfl rfl ?_
      refine s_mv 190 rfl rfl ?_
      refine s_ld 191 rfl rfl (fun _ h => h.cell (by assumption)) ?_
      refine s_eqE 192 rfl rfl rfl ?_
      refine s_pickT 193 rfl rfl rfl ?_
      refine s_mv 194 rfl rfl ?_
      refine s_mv 195 rfl rfl ?_
      refine s_eq 196 rfl rfl rfl (decide_eq_true rfl) ?_
      refine s_pickT 197 rfl rfl rfl ?_
      refine s_mv 198 rfl rfl ?_
      refine SX.skip rfl ?_
      refine SX.skip rfl ?_
      refine SX.skip rfl ?_
      refine SX.skipU rfl ?_
      refine SX.skipU rfl ?_
      refine SX.skip rfl ?_
      refine SX.skip rfl ?_
      refine SX.skipU rfl ?_
      refine SX.skipU rfl ?_
      refine SX.skipU rfl ?_
      refine SX.skipU rfl ?_
      refine SX.skipU rfl ?_
      refine SX.skipU rfl ?_
      refine SX.skipU rfl ?_
      refine SX.skipU rfl ?_
      refine SX.skip rfl ?_
      refine s_pickT 215 rfl rfl rfl ?_
      refine s_as 22 rfl rfl ?_
      refine SX.next ?_
      refine CW.seq ?_
      refine CW.reg [0, 1, 2, 3, 4, 5, 6, 7] rfl ?_   -- 17, law.go:57
      refine s_mv 216 rfl rfl ?_
      refine s_mv 217 rfl rfl ?_
      refine s_mv 218 rfl rfl ?_
      refine s_pickT 219 rfl rfl rfl ?_
      refine s_mv 220 rfl rfl ?_
      refine s_mv 221 rfl rfl ?_
      refine s_pickT 222 rfl rfl rfl ?_
      refine s_as 8 rfl rfl ?_
      refine SX.next ?_
      refine CW.ret ?_
      exact KN.ret (rs := [.tmp 8]) Tryd.results8 rfl (fun w hw => ⟨rfl, hw.nothing⟩)
  · skip
    refine SX.skip rfl ?_
    refine SX.skip rfl ?_
    refine s_pickF 45 rfl rfl rfl ?_
    refine s_neB 46 rfl rfl rfl rfl ?_
    refine s_mv 47 rfl rfl ?_
    refine s_mv 48 rfl rfl ?_
    refine s_neHN 49 rfl rfl ?_
    refine s_mv 50 rfl rfl ?_
    refine s_mv 51 rfl rfl ?_
    refine s_ld 52 rfl rfl (fun _ h => h.cell (by assumption)) ?_
    refine s_neE 53 rfl rfl rfl ?_
    refine s_pickT 54 rfl rfl rfl ?_
    refine s_pickF 55 rfl rfl rfl ?_
    refine SX.next ?_
    refine CW.condF rfl ?_
    refine CW.skip ?_
    refine KN.code ?_
    refine CW.seq ?_
    refine CW.reg [0, 1, 2, 3, 4, 5, 6] rfl ?_   -- 7, law.go:46
    refine s_mv 57 rfl rfl ?_
    refine s_call 58 rfl rfl rfl rfl (fun w hw => made_spec _ w) (fun _ _ => trivial) (fun g _ => ?_)
    refine s_mv 56 rfl rfl ?_
    refine s_ext 59 rfl rfl rfl ?_
    refine s_ext 60 rfl rfl rfl ?_
    refine s_as 12 rfl rfl ?_
    refine s_as 13 rfl rfl ?_
    refine SX.next ?_
    refine CW.seq ?_
    refine CW.seq ?_
    refine CW.reg [0, 1, 2, 3, 4, 5, 6, 7, 8, 9, 10, 11, 12, 13, 14, 15] rfl ?_   -- 8, law.go:47
    refine s_mv 61 rfl rfl ?_
    refine s_eqPN 62 rfl rfl ?_
    refine s_mv 63 rfl rfl ?_
    refine s_mv 64 rfl rfl ?_
    refine s_call1 65 rfl rfl rfl rfl (fun w hw => m_spec g _ _ hm (hw.has (i := 0) rfl)) (fun _ _ => trivial) ?_
    refine s_mv 66 rfl rfl ?_
    refine s_ne 67 rfl rfl rfl (decide_eq_false (fun h => h rfl)) ?_
    refine s_pickF 68 rfl rfl rfl ?_
    refine s_mv 69 rfl rfl ?_
    refine s_mv 70 rfl rfl ?_
    refine s_call1 71 rfl rfl rfl rfl (fun w hw => size_spec g _ _ hm (hw.has (i := 0) rfl)) (fun _ _ => trivial) ?_
    refine s_mv 72 rfl rfl ?_
    refine s_conv 73 rfl rfl (u64_nat hm) ?_
    refine s_shl 74 rfl rfl rfl (by omega) (shl_one hm) ?_
    refine s_ne 75 rfl rfl rfl (decide_eq_false (fun h => h rfl)) ?_
    refine s_pickF 76 rfl rfl rfl ?_
    refine SX.next ?_
    refine CW.condF rfl ?_
    refine CW.skip ?_
    refine KN.code ?_
    refine CW.seq ?_
    refine CW.reg [0, 1, 2, 3, 4, 5, 6, 7] rfl ?_   -- 10, law.go:50
    refine s_mv 78 rfl rfl ?_
    refine s_mv 79 rfl rfl ?_
    refine s_call1 80 rfl rfl rfl rfl (fun w hw => inv_spec g _ _ _ hm (hw.has (i := 0) rfl) h0) (fun _ _ => trivial) ?_
    refine s_mv 77 rfl rfl ?_
    refine s_ext 81 rfl rfl rfl ?_
    refine s_ext 82 rfl rfl rfl ?_
    refine s_as 14 rfl rfl ?_
    refine s_as 15 rfl rfl ?_
    refine SX.next ?_
    refine CW.seq ?_
    refine CW.reg [0, 1, 2, 3, 4, 5, 6, 7, 8] rfl ?_   -- 11, law.go:51
    refine s_mv 84 rfl rfl ?_
    refine s_mv 85 rfl rfl ?_
    refine s_mv 86 rfl rfl ?_
    refine s_call1 87 rfl rfl rfl rfl (fun w hw => div_zero g _ _ _ e _ hm (hw.has (i := 0) rfl) (hw.er hz) h1) (fun _ _ => trivial) ?_
    refine s_mv 83 rfl rfl ?_
    refine s_ext 88 rfl rfl rfl ?_
    refine s_ext 89 rfl rfl rfl ?_
    refine s_as 16 rfl rfl ?_
    refine s_as 17 rfl rfl ?_
    refine SX.next ?_
    refine CW.seq ?_
    refine CW.reg [0, 1, 2, 3, 4] rfl ?_   -- 12, law.go:52
    refine s_mv 90 rfl rfl ?_
    refine s_mv 91 rfl rfl ?_
    refine s_call1 92 rfl rfl rfl rfl (fun w hw => rlow_spec _ _ _ hm) (fun _ _ => trivial) ?_
    refine s_eq 93 rfl rfl rfl (decide_eq_false (by omega)) ?_
    refine s_as 18 rfl rfl ?_
    refine SX.next ?_
    refine CW.seq ?_
    refine CW.reg [0, 1, 2, 3, 4] rfl ?_   -- 13, law.go:53
    refine s_mv 94 rfl rfl ?_
    refine s_mv 95 rfl rfl ?_
    refine s_call1 96 rfl rfl rfl rfl (fun w hw => rlow_spec _ _ _ hm) (fun _ _ => trivial) ?_
    refine s_eq 97 rfl rfl rfl (decide_eq_true (by omega)) ?_
    refine s_as 19 rfl rfl ?_
    refine SX.next ?_
    refine CW.seq ?_
    refine CW.reg [0, 1, 2, 3, 4, 5, 6, 7, 8, 9, 10, 11, 12, 13, 14, 15, 16, 17, 18, 19, 20, 21, 22, 23, 24, 25, 26, 27, 28, 29, 30, 31, 32, 33, 34, 35, 36, 37, 38, 39, 40, 41, 42, 43, 44, 45, 46, 47, 48, 49, 50, 51, 52, 53, 54, 55, 56, 57, 58, 59, 60, 61, 62, 63, 64, 65] rfl ?_   -- 14, law.go:54
    refine s_mv 98 rfl rfl ?_
    refine s_mv 99 rfl rfl ?_
    refine s_mv 100 rfl rfl ?_
    refine s_call1 101 rfl rfl rfl rfl (fun w hw => add_spec g _ _ _ _ hm (hw.has (i := 0) rfl)) (fun _ _ => trivial) ?_
    refine s_mv 102 rfl rfl ?_
    refine s_mv 103 rfl rfl ?_
    refine s_mv 104 rfl rfl ?_
    refine s_bit 105 rfl rfl rfl rfl rfl ?_
    refine s_call1 106 rfl rfl rfl rfl (fun w hw => rlow_spec _ _ _ hm) (fun _ _ => trivial) ?_
    refine s_eq 107 rfl rfl rfl (decide_eq_true (cst (lo_xor hm _ _).symm)) ?_
    refine s_mv 108 rfl rfl ?_
    refine s_mv 109 rfl rfl ?_
    refine s_mv 110 rfl rfl ?_
    refine s_mv 111 rfl rfl ?_
    refine s_call1 112 rfl rfl rfl rfl (fun w hw => mul_spec g _ _ _ _ hm (hw.has (i := 0) rfl)) (fun _ _ => trivial) ?_
    refine s_mv 113 rfl rfl ?_
    refine s_mv 114 rfl rfl ?_
    refine s_mv 115 rfl rfl ?_
    refine s_call1 116 rfl rfl rfl rfl (fun w hw => rmul_spec _ _ _ _ hm) (fun _ _ => trivial) ?_
    refine s_eq 117 rfl rfl rfl (decide_eq_true rfl) ?_
    refine s_pickT 118 rfl rfl rfl ?_
    refine s_mv 119 rfl rfl ?_
    refine s_mv 120 rfl rfl ?_
    refine s_mv 121 rfl rfl ?_
    refine s_mv 122 rfl rfl ?_
    refine s_call1 123 rfl rfl rfl rfl (fun w hw => pow_spec g _ _ _ e _ hm (hw.has (i := 0) rfl) (hw.er hz)) (fun _ _ => trivial) ?_
    refine s_mv 124 rfl rfl ?_
    refine s_mv 125 rfl rfl ?_
    refine s_mv 126 rfl rfl ?_
    refine s_call1 127 rfl rfl rfl rfl (fun w hw => rpow_spec _ _ _ _ hm) (fun _ _ => trivial) ?_
    refine s_eq 128 rfl rfl rfl (decide_eq_true rfl) ?_
    refine s_pickT 129 rfl rfl rfl ?_
    refine s_mv 130 rfl rfl ?_
    refine s_mv 131 rfl rfl ?_
    refine s_mv 132 rfl rfl ?_
    refine s_call1 133 rfl rfl rfl rfl (fun w hw => exp_spec g _ _ _ hm (hw.has (i := 0) rfl)) (fun _ _ => trivial) ?_
    refine s_mv 134 rfl rfl ?_
    refine s_mv 135 rfl rfl ?_
    refine s_call1 136 rfl rfl rfl rfl (fun w hw => rexp_spec _ _ _ hm) (fun _ _ => trivial) ?_
    refine s_eq 137 rfl rfl rfl (decide_eq_true rfl) ?_
    refine s_pickT 138 rfl rfl rfl ?_
    refine s_mv 139 rfl rfl ?_
    refine s_mv 140 rfl rfl ?_
    refine s_mv 141 rfl rfl ?_
    refine s_call1 142 rfl rfl rfl rfl (fun w hw => trace_spec g _ _ _ hm (hw.has (i := 0) rfl)) (fun _ _ => trivial) ?_
    refine s_mv 143 rfl rfl ?_
    refine s_mv 144 rfl rfl ?_
    refine s_call1 145 rfl rfl rfl rfl (fun w hw => rtrace_spec _ _ _ hm) (fun _ _ => trivial) ?_
    refine s_eq 146 rfl rfl rfl (decide_eq_true rfl) ?_
    refine s_pickT 147 rfl rfl rfl ?_
    refine s_mv 148 rfl rfl ?_
    refine s_mv 149 rfl rfl ?_
    refine s_mv 150 rfl rfl ?_
    refine s_call1 151 rfl rfl rfl rfl (fun w hw => is_spec g _ _ _ hm (hw.has (i := 0) rfl)) (fun _ _ => trivial) ?_
    refine s_mv 152 rfl rfl ?_
    refine s_ge 153 rfl rfl rfl rfl ?_
    refine s_mv 154 rfl rfl ?_
    refine SX.bool 154 rfl (fun hb => ?_) (fun hb => ?_)
    · skip
      refine s_mv 155 rfl rfl ?_
      refine s_mv 156 rfl rfl ?_
      refine s_conv 157 rfl rfl (u64_nat hm) ?_
      refine s_shl 158 rfl rfl rfl (by omega) (shl_one hm) ?_
      refine s_lt 159 rfl rfl rfl rfl ?_
      refine s_pickT 160 rfl rfl rfl ?_
      refine s_eqB 161 rfl rfl rfl (isA (of_decide_eq_true hb)) ?_
      refine s_pickT 162 rfl rfl rfl ?_
      refine s_as 20 rfl rfl ?_
      refine SX.next ?_
      refine CW.seq ?_
      refine CW.reg [0, 1, 2, 3, 4, 5, 6, 7, 8, 9, 10, 11, 12, 13, 14, 15, 16, 17, 18, 19, 20, 21, 22, 23, 24, 25] rfl ?_   -- 15, law.go:55
      refine s_mv 163 rfl rfl ?_
      refine s_mv 164 rfl rfl ?_
      refine SX.skip rfl ?_
      refine SX.skip rfl ?_
      refine SX.skip rfl ?_
      refine s_pickF 168 rfl rfl rfl ?_
      refine s_mv 169 rfl rfl ?_
      refine SX.skip rfl ?_
      refine SX.skip rfl ?_
      refine s_pickF 172 rfl rfl rfl ?_
      refine s_mv 173 rfl rfl ?_
      refine s_mv 174 rfl rfl ?_
      refine s_not 175 rfl rfl ?_
      refine s_mv 176 rfl rfl ?_
      refine s_mv 177 rfl rfl ?_
      refine s_eqNN 178 rfl rfl ?_
      refine s_pickT 179 rfl rfl rfl ?_
      refine s_mv 180 rfl rfl ?_
      refine s_mv 181 rfl rfl ?_
      refine s_mv 182 rfl rfl ?_
      refine s_mv 183 rfl rfl ?_
      refine s_call1 184 rfl rfl rfl rfl (fun w hw => rinv_spec _ _ _ hm h0) (fun _ _ => trivial) ?_
      refine s_eq 185 rfl rfl rfl (decide_eq_true rfl) ?_
      refine s_pickT 186 rfl rfl rfl ?_
      refine s_pickF 187 rfl rfl rfl ?_
      refine s_as 21 rfl rfl ?_
      refine SX.next ?_
      refine CW.seq ?_
      refine CW.reg [0, 1, 2, 3, 4, 5, 6, 7, 8, 9, 10, 11, 12, 13, 14, 15, 16, 17, 18, 19, 20, 21, 22, 23, 24, 25, 26, 27, 28] rfl ?_   -- 16, law.go:56
      refine s_mv 188 rfl rfl ?_
      refine s_mv 189 rfl rfl ?_
      refine s_mv 190 rfl rfl ?_
      refine s_ld 191 rfl rfl (fun _ h => h.cell (by assumption)) ?_
      refine s_eqE 192 rfl rfl rfl ?_
      refine s_pickT 193 rfl rfl rfl ?_
      refine s_mv 194 rfl rfl ?_
      refine s_mv 195 rfl rfl ?_
      refine s_eq 196 rfl rfl rfl (decide_eq_true rfl) ?_
      refine s_pickT 197 rfl rfl rfl ?_
      refine s_mv 198 rfl rfl ?_
      refine SX.skip rfl ?_
      refine SX.skip rfl ?_
      refine SX.skip rfl ?_
      refine SX.skipU rfl ?_
      refine SX.skipU rfl ?_
      refine SX.skip rfl ?_
      refine SX.skip rfl ?_
      refine SX.skipU rfl ?_
      refine SX.skipU rfl ?_
      refine SX.skipU rfl ?_
      refine SX.skipU rfl ?_
      refine SX.skipU rfl ?_
      refine SX.skipU rfl ?_
      refine SX.skipU rfl ?_
      refine SX.skipU rfl ?_
      refine SX.skip rfl ?_
      refine s_pickT 215 rfl rfl rfl ?_
      refine s_as 22 rfl rfl ?_
      refine SX.next ?_
      refine CW.seq ?_
      refine CW.reg [0, 1, 2, 3, 4, 5, 6, 7] rfl ?_   -- 17, law.go:57
      refine s_mv 216 rfl rfl ?_
      refine s_mv 217 rfl rfl ?_
      refine s_mv 218 rfl rfl ?_
      refine s_pickT 219 rfl rfl rfl ?_
      refine s_mv 220 rfl rfl ?_
      refine s_mv 221 rfl rfl ?_
      refine s_pickT 222 rfl rfl rfl ?_
      refine s_as 8 rfl rfl ?_
      refine SX.next ?_
      refine CW.ret ?_
      exact KN.ret (rs := [.tmp 8]) Tryd.results8 rfl (fun w hw => ⟨rfl, hw.nothing⟩)
    · skip
      refine SX.skip rfl ?_
      refine SX.skip rfl ?_
      refine SX.skip rfl ?_
      refine SX.skip rfl ?_
      refine SX.skip rfl ?_
      refine s_pickF 160 rfl rfl rfl ?_
      refine s_eqB 161 rfl rfl rfl (isB (of_decide_eq_false hb)) ?_
      refine s_pickT 162 rfl rfl rfl ?_
      refine s_as 20 rfl rfl ?_
      refine SX.next ?_
      refine CW.seq ?_
      refine CW.reg [0, 1, 2, 3, 4, 5, 6, 7, 8, 9, 10, 11, 12, 13, 14, 15, 16, 17, 18, 19, 20, 21, 22, 23, 24, 25] rfl ?_   -- 15, law.go:55
      refine s_mv 163 rfl rfl ?_
      refine s_mv 164 rfl rfl ?_
      refine SX.skip rfl ?_
      refine SX.skip rfl ?_
      refine SX.skip rfl ?_
      refine s_pickF 168 rfl rfl rfl ?_
      refine s_mv 169 rfl rfl ?_
      refine SX.skip rfl ?_
      refine SX.skip rfl ?_
      refine s_pickF 172 rfl rfl rfl ?_
      refine s_mv 173 rfl rfl ?_
      refine s_mv 174 rfl rfl ?_
      refine s_not 175 rfl rfl ?_
      refine s_mv 176 rfl rfl ?_
      refine s_mv 177 rfl rfl ?_
      refine s_eqNN 178 rfl rfl ?_
      refine s_pickT 179 rfl rfl rfl ?_
      refine s_mv 180 rfl rfl ?_
      refine s_mv 181 rfl rfl ?_
      refine s_mv 182 rfl rfl ?_
      refine s_mv 183 rfl rfl ?_
      refine s_call1 184 rfl rfl rfl rfl (fun w hw => rinv_spec _ _ _ hm h0) (fun _ _ => trivial) ?_
      refine s_eq 185 rfl rfl rfl (decide_eq_true rfl) ?_
      refine s_pickT 186 rfl rfl rfl ?_
      refine s_pickF 187 rfl rfl rfl ?_
      refine s_as 21 rfl rfl ?_
      refine SX.next ?_
      refine CW.seq ?_
      refine CW.reg [0, 1, 2, 3, 4, 5, 6, 7, 8, 9, 10, 11, 12, 13, 14, 15, 16, 17, 18, 19, 20, 21, 22, 23, 24, 25, 26, 27, 28] rfl ?_   -- 16, law.go:56
      refine s_mv 188 rfl rfl ?_
      refine s_mv 189 rfl rfl ?_
      refine s_mv 190 rfl rfl ?_
      refine s_ld 191 rfl rfl (fun _ h => h.cell (by assumption)) ?_
      refine s_eqE 192 rfl rfl rfl ?_
      refine s_pickT 193 rfl rfl rfl ?_
      refine s_mv 194 rfl rfl ?_
      refine s_mv 195 rfl rfl ?_
      refine s_eq 196 rfl rfl rfl (decide_eq_true rfl) ?_
      refine s_pickT 197 rfl rfl rfl ?_
      refine s_mv 198 rfl rfl ?_
      refine SX.skip rfl ?_
      refine SX.skip rfl ?_
      refine SX.skip rfl ?_
      refine SX.skipU rfl ?_
      refine SX.skipU rfl ?_
      refine SX.skip rfl ?_
      refine SX.skip rfl ?_
      refine SX.skipU rfl ?_
      refine SX.skipU rfl ?_
      refine SX.skipU rfl ?_
      refine SX.skipU rfl ?_
      refine SX.skipU rfl ?_
      refine SX.skipU rfl ?_
      refine SX.skipU rfl ?_
      refine SX.skipU rfl ?_
      refine SX.skip rfl ?_
      refine s_pickT 215 rfl rfl rfl ?_
      refine s_as 22 rfl rfl ?_
      refine SX.next ?_
      refine CW.seq ?_
      refine CW.reg [0, 1, 2, 3, 4, 5, 6, 7] rfl ?_   -- 17, law.go:57
      refine s_mv 216 rfl rfl ?_
      refine s_mv 217 rfl rfl ?_
      refine s_mv 218 rfl rfl ?_
      refine s_pickT 219 rfl rfl rfl ?_
      refine s_mv 220 rfl rfl ?_
      refine s_mv 221 rfl rfl ?_
      refine s_pickT 222 rfl rfl rfl ?_
      refine s_as 8 rfl rfl ?_
      refine SX.next ?_
      refine CW.ret ?_
      exact KN.ret (rs := [.tmp 8]) Tryd.results8 rfl (fun w hw => ⟨rfl, hw.nothing⟩)

theorem says_100 (a0 : Int) (hbd : a0 < 3 ∨ 14 < a0) (a1 a2 a3 : Int) (e : Nat → Addr) (w : World) (hz : Er e w 0) (hfe : Er e w 1) (h0 : lo (mkm 10 a0) a1 ≠ 0) (h1 : lo (mkm 10 a0) a2 ≠ 0) : Spec1 Tryd.prog 8 [.int .i64 a0, .int .i64 a1, .int .i64 a2, .int .i64 a3] w (.bool true) := by
  have hm := mkm_ok (k := 10) (by omega) (by omega) a0
  refine spec_of Tryd.func8 rfl Tryd.ntmps8 rfl ?_
  refine CW.seq ?_
  refine CW.reg [0] rfl ?_   -- 0, law.go:37
  refine s_as 8 rfl rfl ?_
  refine SX.next ?_
  refine CW.seq ?_
  refine CW.reg [0, 1] rfl ?_   -- 1, law.go:38
  refine s_call1 23 rfl rfl rfl rfl (fun w hw => first_spec e _ (hw.er hz) (hw.er hfe)) (fun _ _ => trivial) ?_
  refine s_as 9 rfl rfl ?_
  refine SX.next ?_
  refine CW.seq ?_
  refine CW.seq ?_
  refine CW.reg [0, 1, 2, 3, 4, 5, 6, 7, 8] rfl ?_   -- 2, law.go:39
  refine s_mv 24 rfl rfl ?_
  refine s_call1 25 rfl rfl rfl rfl (fun w hw => poly_any _ _) (fun _ _ => trivial) ?_
  refine s_mv 26 rfl rfl ?_
  refine s_call1 27 rfl rfl rfl rfl (fun w hw => rpoly_any _ _) (fun _ _ => trivial) ?_
  refine s_ne 28 rfl rfl rfl (decide_eq_false (fun h => h rfl)) ?_
  refine s_mv 29 rfl rfl ?_
  refine s_mv 30 rfl rfl ?_
  refine s_not 31 rfl rfl ?_
  refine s_pickF 32 rfl rfl rfl ?_
  refine SX.next ?_
  refine CW.condF rfl ?_
  refine CW.skip ?_
  refine KN.code ?_
  refine CW.seq ?_
  refine CW.reg [0, 1, 2, 3, 4, 5, 6] rfl ?_   -- 4, law.go:42
  refine s_mv 34 rfl rfl ?_
  refine s_call1 35 rfl rfl rfl rfl (fun w hw => new_any _ e _ (hw.er hfe) hbd) (fun _ _ => trivial) ?_
  refine s_mv 33 rfl rfl ?_
  refine s_ext 36 rfl rfl rfl ?_
  refine s_ext 37 rfl rfl rfl ?_
  refine s_as 10 rfl rfl ?_
  refine s_as 11 rfl rfl ?_
  refine SX.next ?_
  refine CW.seq ?_
  refine CW.seq ?_
  refine CW.reg [0, 1, 2, 3, 4, 5, 6, 7, 8, 9, 10, 11, 12, 13, 14, 15, 16, 17] rfl ?_   -- 5, law.go:43
  refine s_mv 38 rfl rfl ?_
  refine s_eqHN 39 rfl rfl ?_
  refine s_mv 40 rfl rfl ?_
  refine s_ge 41 rfl rfl rfl rfl ?_
  refine s_mv 42 rfl rfl ?_
  refine SX.bool 42 rfl (fun hb => ?_) (fun hb => ?_)
  · skip
    replace hb := of_decide_eq_true hb
    refine s_mv 43 rfl rfl ?_
    refine s_le 44 rfl rfl rfl (decide_eq_false (by omega)) ?_
    refine s_pickT 45 rfl rfl rfl ?_
    refine s_neB 46 rfl rfl rfl rfl ?_
    refine s_mv 47 rfl rfl ?_
    refine s_mv 48 rfl rfl ?_
    refine s_neHN 49 rfl rfl ?_
    refine s_mv 50 rfl rfl ?_
    refine s_mv 51 rfl rfl ?_
    refine s_ld 52 rfl rfl (fun _ h => h.cell (by assumption)) ?_
    refine s_neE 53 rfl rfl rfl ?_
    refine s_pickT 54 rfl rfl rfl ?_
    refine s_pickF 55 rfl rfl rfl ?_
    refine SX.next ?_
    refine CW.condF rfl ?_
    refine CW.skip ?_
    refine KN.code ?_
    refine CW.seq ?_
    refine CW.reg [0, 1, 2, 3, 4, 5, 6] rfl ?_   -- 7, law.go:46
    refine s_mv 57 rfl rfl ?_
    refine s_call 58 rfl rfl rfl rfl (fun w hw => made_spec _ w) (fun _ _ => trivial) (fun g _ => ?_)
    refine s_mv 56 rfl rfl ?_
    refine s_ext 59 rfl rfl rfl ?_
    refine s_ext 60 rfl rfl rfl ?_
    refine s_as 12 rfl rfl ?_
    refine s_as 13 rfl rfl ?_
    refine SX.next ?_
    refine CW.seq ?_
    refine CW.seq ?_
    refine CW.reg [0, 1, 2, 3, 4, 5, 6, 7, 8, 9, 10, 11, 12, 13, 14, 15] rfl ?_   -- 8, law.go:47
    refine s_mv 61 rfl rfl ?_
    refine s_eqPN 62 rfl rfl ?_
    refine s_mv 63 rfl rfl ?_
    refine s_mv 64 rfl rfl ?_
    refine s_call1 65 rfl rfl rfl rfl (fun w hw => m_spec g _ _ hm (hw.has (i := 0) rfl)) (fun _ _ => trivial) ?_
    refine s_mv 66 rfl rfl ?_
    refine s_ne 67 rfl rfl rfl (decide_eq_false (fun h => h rfl)) ?_
    refine s_pickF 68 rfl rfl rfl ?_
    refine s_mv 69 rfl rfl ?_
    refine s_mv 70 rfl rfl ?_
    refine s_call1 71 rfl rfl rfl rfl (fun w hw => size_spec g _ _ hm (hw.has (i := 0) rfl)) (fun _ _ => trivial) ?_
    refine s_mv 72 rfl rfl ?_
    refine s_conv 73 rfl rfl (u64_nat hm) ?_
    refine s_shl 74 rfl rfl rfl (by omega) (shl_one hm) ?_
    refine s_ne 75 rfl rfl rfl (decide_eq_false (fun h => h rfl)) ?_
    refine s_pickF 76 rfl rfl rfl ?_
    refine SX.next ?_
    refine CW.condF rfl ?_
    refine CW.skip ?_
    refine KN.code ?_
    refine CW.seq ?_
    refine CW.reg [0, 1, 2, 3, 4, 5, 6, 7] rfl ?_   -- 10, law.go:50
    refine s_mv 78 rfl rfl ?_
    refine s_mv 79 rfl rfl ?_
    refine s_call1 80 rfl rfl rfl rfl (fun w hw => inv_spec g _ _ _ hm (hw.has (i := 0) rfl) h0) (fun _ _ => trivial) ?_
    refine s_mv 77 rfl rfl ?_
    refine s_ext 81 rfl rfl rfl ?_
    refine s_ext 82 rfl rfl rfl ?_
    refine s_as 14 rfl rfl ?_
    refine s_as 15 rfl rfl ?_
    refine SX.next ?_
    refine CW.seq ?_
    refine CW.reg [0, 1, 2, 3, 4, 5, 6, 7, 8] rfl ?_   -- 11, law.go:51
    refine s_mv 84 rfl rfl ?_
    refine s_mv 85 rfl rfl ?_
    refine s_mv 86 rfl rfl ?_
    refine s_call1 87 rfl rfl rfl rfl (fun w hw => div_spec g _ _ _ _ hm (hw.has (i := 0) rfl) h1) (fun _ _ => trivial) ?_
    refine s_mv 83 rfl rfl ?_
    refine s_ext 88 rfl rfl rfl ?_
    refine s_ext 89 rfl rfl rfl ?_
    refine s_as 16 rfl rfl ?_
    refine s_as 17 rfl rfl ?_
    refine SX.next ?_
    refine CW.seq ?_
    refine CW.reg [0, 1, 2, 3, 4] rfl ?_   -- 12, law.go:52
    refine s_mv 90 rfl rfl ?_
    refine s_mv 91 rfl rfl ?_
    refine s_call1 92 rfl rfl rfl rfl (fun w hw => rlow_spec _ _ _ hm) (fun _ _ => trivial) ?_
    refine s_eq 93 rfl rfl rfl (decide_eq_false (by omega)) ?_
    refine s_as 18 rfl rfl ?_
    refine SX.next ?_
    refine CW.seq ?_
    refine CW.reg [0, 1, 2, 3, 4] rfl ?_   -- 13, law.go:53
    refine s_mv 94 rfl rfl ?_
    refine s_mv 95 rfl rfl ?_
    refine s_call1 96 rfl rfl rfl rfl (fun w hw => rlow_spec _ _ _ hm) (fun _ _ => trivial) ?_
    refine s_eq 97 rfl rfl rfl (decide_eq_false (by omega)) ?_
    refine s_as 19 rfl rfl ?_
    refine SX.next ?_
    refine CW.seq ?_
    refine CW.reg [0, 1, 2, 3, 4, 5, 6, 7, 8, 9, 10, 11, 12, 13, 14, 15, 16, 17, 18, 19, 20, 21, 22, 23, 24, 25, 26, 27, 28, 29, 30, 31, 32, 33, 34, 35, 36, 37, 38, 39, 40, 41, 42, 43, 44, 45, 46, 47, 48, 49, 50, 51, 52, 53, 54, 55, 56, 57, 58, 59, 60, 61, 62, 63, 64, 65] rfl ?_   -- 14, law.go:54
    refine s_mv 98 rfl rfl ?_
    refine s_mv 99 rfl rfl ?_
    refine s_mv 100 rfl rfl ?_
    refine s_call1 101 rfl rfl rfl rfl (fun w hw => add_spec g _ _ _ _ hm (hw.has (i := 0) rfl)) (fun _ _ => trivial) ?_
    refine s_mv 102 rfl rfl ?_
    refine s_mv 103 rfl rfl ?_
    refine s_mv 104 rfl rfl ?_
    refine s_bit 105 rfl rfl rfl rfl rfl ?_
    refine s_call1 106 rfl rfl rfl rfl (fun w hw => rlow_spec _ _ _ hm) (fun _ _ => trivial) ?_
    refine s_eq 107 rfl rfl rfl (decide_eq_true (cst (lo_xor hm _ _).symm)) ?_
    refine s_mv 108 rfl rfl ?_
    refine s_mv 109 rfl rfl ?_
    refine s_mv 110 rfl rfl ?_
    refine s_mv 111 rfl rfl ?_
    refine s_call1 112 rfl rfl rfl rfl (fun w hw => mul_spec g _ _ _ _ hm (hw.has (i := 0) rfl)) (fun _ _ => trivial) ?_
    refine s_mv 113 rfl rfl ?_
    refine s_mv 114 rfl rfl ?_
    refine s_mv 115 rfl rfl ?_
    refine s_call1 116 rfl rfl rfl rfl (fun w hw => rmul_spec _ _ _ _ hm) (fun _ _ => trivial) ?_
    refine s_eq 117 rfl rfl rfl (decide_eq_true rfl) ?_
    refine s_pickT 118 rfl rfl rfl ?_
    refine s_mv 119 rfl rfl ?_
    refine s_mv 120 rfl rfl ?_
    refine s_mv 121 rfl rfl ?_
    refine s_mv 122 rfl rfl ?_
    refine s_call1 123 rfl rfl rfl rfl (fun w hw => pow_spec g _ _ _ e _ hm (hw.has (i := 0) rfl) (hw.er hz)) (fun _ _ => trivial) ?_
    refine s_mv 124 rfl rfl ?_
    refine s_mv 125 rfl rfl ?_
    refine s_mv 126 rfl rfl ?_
    refine s_call1 127 rfl rfl rfl rfl (fun w hw => rpow_spec _ _ _ _ hm) (fun _ _ => trivial) ?_
    refine s_eq 128 rfl rfl rfl (decide_eq_true rfl) ?_
    refine s_pickT 129 rfl rfl rfl ?_
    refine s_mv 130 rfl rfl ?_
    refine s_mv 131 rfl rfl ?_
    refine s_mv 132 rfl rfl ?_
    refine s_call1 133 rfl rfl rfl rfl (fun w hw => exp_spec g _ _ _ hm (hw.has (i := 0) rfl)) (fun _ _ => trivial) ?_
    refine s_mv 134 rfl rfl ?_
    refine s_mv 135 rfl rfl ?_
    refine s_call1 136 rfl rfl rfl rfl (fun w hw => rexp_spec _ _ _ hm) (fun _ _ => trivial) ?_
    refine s_eq 137 rfl rfl rfl (decide_eq_true rfl) ?_
    refine s_pickT 138 rfl rfl rfl ?_
    refine s_mv 139 rfl rfl ?_
    refine s_mv 140 rfl rfl ?_
    refine s_mv 141 rfl rfl ?_
    refine s_call1 142 rfl rfl rfl rfl (fun w hw => trace_spec g _ _ _ hm (hw.has (i := 0) rfl)) (fun _ _ => trivial) ?_
    refine s_mv 143 rfl rfl ?_
    refine s_mv 144 rfl rfl ?_
    refine s_call1 145 rfl rfl rfl rfl (fun w hw => rtrace_spec _ _ _ hm) (fun _ _ => trivial) ?_
    refine s_eq 146 rfl rfl rfl (decide_eq_true rfl) ?_
    refine s_pickT 147 rfl rfl rfl ?_
    refine s_mv 148 rfl rfl ?_
    refine s_mv 149 rfl rfl ?_
    refine s_mv 150 rfl rfl ?_
    refine s_call1 151 rfl rfl rfl rfl (fun w hw => is_spec g _ _ _ hm (hw.has (i := 0) rfl)) (fun _ _ => trivial) ?_
    refine s_mv 152 rfl rfl ?_
    refine s_ge 153 rfl rfl rfl rfl ?_
    refine s_mv 154 rfl rfl ?_
    refine SX.bool 154 rfl (fun hb => ?_) (fun hb => ?_)
    · skip
      refine s_mv 155 rfl rfl ?_
      refine s_mv 156 rfl rfl ?_
      refine s_conv 157 rfl rfl (u64_nat hm) ?_
      refine s_shl 158 rfl rfl rfl (by omega) (shl_one hm) ?_
      refine s_lt 159 rfl rfl rfl rfl ?_
      refine s_pickT 160 rfl rfl rfl ?_
      refine s_eqB 161 rfl rfl rfl (isA (of_decide_eq_true hb)) ?_
      refine s_pickT 162 rfl rfl rfl ?_
      refine s_as 20 rfl rfl ?_
      refine SX.next ?_
      refine CW.seq ?_
      refine CW.reg [0, 1, 2, 3, 4, 5, 6, 7, 8, 9, 10, 11, 12, 13, 14, 15, 16, 17, 18, 19, 20, 21, 22, 23, 24, 25] rfl ?_   -- 15, law.go:55
      refine s_mv 163 rfl rfl ?_
      refine s_mv 164 rfl rfl ?_
      refine SX.skip rfl ?_
      refine SX.skip rfl ?_
      refine SX.skip rfl ?_
      refine s_pickF 168 rfl rfl rfl ?_
      refine s_mv 169 rfl rfl ?_
      refine SX.skip rfl ?_
      refine SX.skip rfl ?_
      refine s_pickF 172 rfl rfl rfl ?_
      refine s_mv 173 rfl rfl ?_
      refine s_mv 174 rfl rfl ?_
      refine s_not 175 rfl rfl ?_
      refine s_mv 176 rfl rfl ?_
      refine s_mv 177 rfl rfl ?_
      refine s_eqNN 178 rfl rfl ?_
      refine s_pickT 179 rfl rfl rfl ?_
      refine s_mv 180 rfl rfl ?_
      refine s_mv 181 rfl rfl ?_
      refine s_mv 182 rfl rfl ?_
      refine s_mv 183 rfl rfl ?_
      refine s_call1 184 rfl rfl rfl rfl (fun w hw => rinv_spec _ _ _ hm h0) (fun _ _ => trivial) ?_
      refine s_eq 185 rfl rfl rfl (decide_eq_true rfl) ?_
      refine s_pickT 186 rfl rfl rfl ?_
      refine s_pickF 187 rfl rfl rfl ?_
      refine s_as 21 rfl rfl ?_
      refine SX.next ?_
      refine CW.seq ?_
      refine CW.reg [0, 1, 2, 3, 4, 5, 6, 7, 8, 9, 10, 11, 12, 13, 14, 15, 16, 17, 18, 19, 20, 21, 22, 23, 24, 25, 26, 27, 28] rfl ?_   -- 16, law.go:56
      refine s_mv 188 rfl rfl ?_
      refine s_mv 189 rfl rfl ?_
      refine SX.skip rfl ?_
      refine SX.skip rfl ?_
      refine SX.skip rfl ?_
      refine s_pickF 193 rfl rfl rfl ?_
      refine s_mv 194 rfl rfl ?_
      refine SX.skip rfl ?_
      refine SX.skip rfl ?_
      refine s_pickF 197 rfl rfl rfl ?_
      refine s_mv 198 rfl rfl ?_
      refine s_mv 199 rfl rfl ?_
      refine s_not 200 rfl rfl ?_
      refine s_mv 201 rfl rfl ?_
      refine s_mv 202 rfl rfl ?_
      refine s_eqNN 203 rfl rfl ?_
      refine s_pickT 204 rfl rfl rfl ?_
      refine s_mv 205 rfl rfl ?_
      refine s_mv 206 rfl rfl ?_
      refine s_mv 207 rfl rfl ?_
      refine s_mv 208 rfl rfl ?_
      refine s_mv 209 rfl rfl ?_
      refine s_mv 210 rfl rfl ?_
      refine s_call1 211 rfl rfl rfl rfl (fun w hw => rinv_spec _ _ _ hm h1) (fun _ _ => trivial) ?_
      refine s_call1 212 rfl rfl rfl rfl (fun w hw => (by have := rmul_spec (mkm 10 a0) a1 (inv (mkm 10 a0) (lo (mkm 10 a0) a2) : Nat) w hm; rw [lo_nat (inv_lt hm _)] at this; exact this)) (fun _ _ => trivial) ?_
      refine s_eq 213 rfl rfl rfl (decide_eq_true rfl) ?_
      refine s_pickT 214 rfl rfl rfl ?_
      refine s_pickF 215 rfl rfl rfl ?_
      refine s_as 22 rfl rfl ?_
      refine SX.next ?_
      refine CW.seq ?_
      refine CW.reg [0, 1, 2, 3, 4, 5, 6, 7] rfl ?_   -- 17, law.go:57
      refine s_mv 216 rfl rfl ?_
      refine s_mv 217 rfl rfl ?_
      refine s_mv 218 rfl rfl ?_
      refine s_pickT 219 rfl rfl rfl ?_
      refine s_mv 220 rfl rfl ?_
      refine s_mv 221 rfl rfl ?_
      refine s_pickT 222 rfl rfl rfl ?_
      refine s_as 8 rfl rfl ?_
      refine SX.next ?_
      refine CW.ret ?_
      exact KN.ret (rs := [.tmp 8]) Tryd.results8 rfl (fun w hw => ⟨rfl, hw.nothing⟩)
    · skip
      refine SX.skip rfl ?_
      refine SX.skip rfl ?_
      refine SX.skip rfl ?_
      refine SX.skip rfl ?_
      refine SX.skip rfl ?_
      refine s_pickF 160 rfl rfl rfl ?_
      refine s_eqB 161 rfl rfl rfl (isB (of_decide_eq_false hb)) ?_
      refine s_pickT 162 rfl rfl rfl ?_
      refine s_as 20 rfl rfl ?_
      refine SX.next ?_
      refine CW.seq ?_
      refine CW.reg [0, 1, 2, 3, 4, 5, 6, 7, 8, 9, 10, 11, 12, 13, 14, 15, 16, 17, 18, 19, 20, 21, 22, 23, 24, 25] rfl ?_   -- 15, law.go:55
      refine s_mv 163 rfl rfl ?_
      refine s_mv 164 rfl rfl ?_
      refine SX.skip rfl ?_
      refine SX.skip rfl ?_
      refine SX.skip rfl ?_
      refine s_pickF 168 rfl rfl rfl ?_
      refine s_mv 169 rfl rfl ?_
      refine SX.skip rfl ?_
      refine SX.skip rfl ?_
      refine s_pickF 172 rfl rfl rfl ?_
      refine s_mv 173 rfl rfl ?_
      refine s_mv 174 rfl rfl ?_
      refine s_not 175 rfl rfl ?_
      refine s_mv 176 rfl rfl ?_
      refine s_mv 177 rfl rfl ?_
      refine s_eqNN 178 rfl rfl ?_
      refine s_pickT 179 rfl rfl rfl ?_
      refine s_mv 180 rfl rfl ?_
      refine s_mv 181 rfl rfl ?_
      refine s_mv 182 rfl rfl ?_
      refine s_mv 183 rfl rfl ?_
      refine s_call1 184 rfl rfl rfl rfl (fun w hw => rinv_spec _ _ _ hm h0) (fun _ _ => trivial) ?_
      refine s_eq 185 rfl rfl rfl (decide_eq_true rfl) ?_
      refine s_pickT 186 rfl rfl rfl ?_
      refine s_pickF 187 rfl rfl rfl ?_
      refine s_as 21 rfl rfl ?_
      refine SX.next ?_
      refine CW.seq ?_
      refine CW.reg [0, 1, 2, 3, 4, 5, 6, 7, 8, 9, 10, 11, 12, 13, 14, 15, 16, 17, 18, 19, 20, 21, 22, 23, 24, 25, 26, 27, 28] rfl ?_   -- 16, law.go:56
      refine s_mv 188 rfl rfl ?_
      refine s_mv 189 rfl rfl ?_
      refine SX.skip rfl ?_
      refine SX.skip rfl ?_
      refine SX.skip rfl ?_
      refine s_pickF 193 rfl rfl rfl ?_
      refine s_mv 194 rfl rfl ?_
      refine SX.skip rfl ?_
      refine SX.skip rfl ?_
      refine s_pickF 197 rfl rfl rfl ?_
      refine s_mv 198 rfl rfl ?_
      refine s_mv 199 rfl rfl ?_
      refine s_not 200 rfl rfl ?_
      refine s_mv 201 rfl rfl ?_
      refine s_mv 202 rfl rfl ?_
      refine s_eqNN 203 rfl rfl ?_
      refine s_pickT 204 rfl rfl rfl ?_
      refine s_mv 205 rfl rfl ?_
      refine s_mv 206 rfl rfl ?_
      refine s_mv 207 rfl rfl ?_
      refine s_mv 208 rfl rfl ?_
      refine s_mv 209 rfl rfl ?_
      refine s_mv 210 rfl rfl ?_
      refine s_call1 211 rfl rfl rfl rfl (fun w hw => rinv_spec _ _ _ hm h1) (fun _ _ => trivial) ?_
      refine s_call1 212 rfl rfl rfl rfl (fun w hw => (by have := rmul_spec (mkm 10 a0) a1 (inv (mkm 10 a0) (lo (mkm 10 a0) a2) : Nat) w hm; rw [lo_nat (inv_lt hm _)] at this; exact this)) (fun _ _ => trivial) ?_
      refine s_eq 213 rfl rfl rfl (decide_eq_true rfl) ?_
      refine s_pickT 214 rfl rfl rfl ?_
      refine s_pickF 215 rfl rfl rfl ?_
      refine s_as 22 rfl rfl ?_
      refine SX.next ?_
      refine CW.seq ?_
      refine CW.reg [0, 1, 2, 3, 4, 5, 6, 7] rfl ?_   -- 17, law.go:57
      refine s_mv 216 rfl rfl ?_
      refine s_mv 217 rfl rfl ?_
      refine s_mv 218 rfl rfl ?_
      refine s_pickT 219 rfl rfl rfl ?_
      refine s_mv 220 rfl rfl ?_
      refine s_mv 221 rfl rfl ?_
      refine s_pickT 222 rfl rfl rfl ?_
      refine s_as 8 rfl rfl ?_
      refine SX.next ?_
      refine CW.ret ?_
      exact KN.ret (rs := [.tmp 8]) Tryd.results8 rfl (fun w hw => ⟨rfl, hw.nothing⟩)
  · skip
    refine SX.skip rfl ?_
    refine SX.skip rfl ?_
    refine s_pickF 45 rfl rfl rfl ?_
    refine s_neB 46 rfl rfl rfl rfl ?_
    refine s_mv 47 rfl rfl ?_
    refine s_mv 48 rfl rfl ?_
    refine s_neHN 49 rfl rfl ?_
    refine s_mv 50 rfl rfl ?_
    refine s_mv 51 rfl rfl ?_
    refine s_ld 52 rfl rfl (fun _ h => h.cell (by assumption)) ?_
    refine s_neE 53 rfl rfl rfl ?_
    refine s_pickT 54 rfl rfl rfl ?_
    refine s_pickF 55 rfl rfl rfl ?_
    refine SX.next ?_
    refine CW.condF rfl ?_
    refine CW.skip ?_
    refine KN.code ?_
    refine CW.seq ?_
    refine CW.reg [0, 1, 2, 3, 4, 5, 6] rfl ?_   -- 7, law.go:46
    refine s_mv 57 rfl rfl ?_
    refine s_call 58 rfl rfl rfl rfl (fun w hw => made_spec _ w) (fun _ _ => trivial) (fun g _ => ?_)
    refine s_mv 56 rfl rfl ?_
    refine s_ext 59 rfl rfl rfl ?_
    refine s_ext 60 rfl rfl rfl ?_
    refine s_as 12 rfl rfl ?_
    refine s_as 13 rfl rfl ?_
    refine SX.next ?_
    refine CW.seq ?_
    refine CW.seq ?_
    refine CW.reg [0, 1, 2, 3, 4, 5, 6, 7, 8, 9, 10, 11, 12, 13, 14, 15] rfl ?_   -- 8, law.go:47
    refine s_mv 61 rfl rfl ?_
    refine s_eqPN 62 rfl rfl ?_
    refine s_mv 63 rfl rfl ?_
    refine s_mv 64 rfl rfl ?_
    refine s_call1 65 rfl rfl rfl rfl (fun w hw => m_spec g _ _ hm (hw.has (i := 0) rfl)) (fun _ _ => trivial) ?_
    refine s_mv 66 rfl rfl ?_
    refine s_ne 67 rfl rfl rfl (decide_eq_false (fun h => h rfl)) ?_
    refine s_pickF 68 rfl rfl rfl ?_
    refine s_mv 69 rfl rfl ?_
    refine s_mv 70 rfl rfl ?_
    refine s_call1 71 rfl rfl rfl rfl (fun w hw => size_spec g _ _ hm (hw.has (i := 0) rfl)) (fun _ _ => trivial) ?_
    refine s_mv 72 rfl rfl ?_
    refine s_conv 73 rfl rfl (u64_nat hm) ?_
    refine s_shl 74 rfl rfl rfl (by omega) (shl_one hm) ?_
    refine s_ne 75 rfl rfl rfl (decide_eq_false (fun h => h rfl)) ?_
    refine s_pickF 76 rfl rfl rfl ?_
    refine SX.next ?_
    refine CW.condF rfl ?_
    refine CW.skip ?_
    refine KN.code ?_
    refine CW.seq ?_
    refine CW.reg [0, 1, 2, 3, 4, 5, 6, 7] rfl ?_   -- 10, law.go:50
    refine s_mv 78 rfl rfl ?_
    refine s_mv 79 rfl rfl ?_
    refine s_call1 80 rfl rfl rfl rfl (fun w hw => inv_spec g _ _ _ hm (hw.has (i := 0) rfl) h0) (fun _ _ => trivial) ?_
    refine s_mv 77 rfl rfl ?_
    refine s_ext 81 rfl rfl rfl ?_
    refine s_ext 82 rfl rfl rfl ?_
    refine s_as 14 rfl rfl ?_
    refine s_as 15 rfl rfl ?_
    refine SX.next ?_
    refine CW.seq ?_
    refine CW.reg [0, 1, 2, 3, 4, 5, 6, 7, 8] rfl ?_   -- 11, law.go:51
    refine s_mv 84 rfl rfl ?_
    refine s_mv 85 rfl rfl ?_
    refine s_mv 86 rfl rfl ?_
    refine s_call1 87 rfl rfl rfl rfl (fun w hw => div_spec g _ _ _ _ hm (hw.has (i := 0) rfl) h1) (fun _ _ => trivial) ?_
    refine s_mv 83 rfl rfl ?_
    refine s_ext 88 rfl rfl rfl ?_
    refine s_ext 89 rfl rfl rfl ?_
    refine s_as 16 rfl rfl ?_
    refine s_as 17 rfl rfl ?_
    refine SX.next ?_
    refine CW.seq ?_
    refine CW.reg [0, 1, 2, 3, 4] rfl ?_   -- 12, law.go:52
    refine s_mv 90 rfl rfl ?_
    refine s_mv 91 rfl rfl ?_
    refine s_call1 92 rfl rfl rfl rfl (fun w hw => rlow_spec _ _ _ hm) (fun _ _ => trivial) ?_
    refine s_eq 93 rfl rfl rfl (decide_eq_false (by omega)) ?_
    refine s_as 18 rfl rfl ?_
    refine SX.next ?_
    refine CW.seq ?_
    refine CW.reg [0, 1, 2, 3, 4] rfl ?_   -- 13, law.go:53
    refine s_mv 94 rfl rfl ?_
    refine s_mv 95 rfl rfl ?_
    refine s_call1 96 rfl rfl rfl rfl (fun w hw => rlow_spec _ _ _ hm) (fun _ _ => trivial) ?_
    refine s_eq 97 rfl rfl rfl (decide_eq_false (by omega)) ?_
    refine s_as 19 rfl rfl ?_
    refine SX.next ?_
    refine CW.seq ?_
    refine CW.reg [0, 1, 2, 3, 4, 5, 6, 7, 8, 9, 10, 11, 12, 13, 14, 15, 16, 17, 18, 19, 20, 21, 22, 23, 24, 25, 26, 27, 28, 29, 30, 31, 32, 33, 34, 35, 36, 37, 38, 39, 40, 41, 42, 43, 44, 45, 46, 47, 48, 49, 50, 51, 52, 53, 54, 55, 56, 57, 58, 59, 60, 61, 62, 63, 64, 65] rfl ?_   -- 14, law.go:54
    refine s_mv 98 rfl rfl ?_
    refine s_mv 99 rfl rfl ?_
    refine s_mv 100 rfl rfl ?_
    refine s_call1 101 rfl rfl rfl rfl (fun w hw => add_spec g _ _ _ _ hm (hw.has (i := 0) rfl)) (fun _ _ => trivial) ?_
    refine s_mv 102 rfl rfl ?_
    refine s_mv 103 rfl rfl ?_
    refine s_mv 104 rfl rfl ?_
    refine s_bit 105 rfl rfl rfl rfl rfl ?_
    refine s_call1 106 rfl rfl rfl rfl (fun w hw => rlow_spec _ _ _ hm) (fun _ _ => trivial) ?_
    refine s_eq 107 rfl rfl rfl (decide_eq_true (cst (lo_xor hm _ _).symm)) ?_
    refine s_mv 108 rfl rfl ?_
    refine s_mv 109 rfl rfl ?_
    refine s_mv 110 rfl rfl ?_
    refine s_mv 111 rfl rfl ?_
    refine s_call1 112 rfl rfl rfl rfl (fun w hw => mul_spec g _ _ _ _ hm (hw.has (i := 0) rfl)) (fun _ _ => trivial) ?_
    refine s_mv 113 rfl rfl ?_
    refine s_mv 114 rfl rfl ?_
    refine s_mv 115 rfl rfl ?_
    refine s_call1 116 rfl rfl rfl rfl (fun w hw => rmul_spec _ _ _ _ hm) (fun _ _ => trivial) ?_
    refine s_eq 117 rfl rfl rfl (decide_eq_true rfl) ?_
    refine s_pickT 118 rfl rfl rfl ?_
    refine s_mv 119 rfl rfl ?_
    refine s_mv 120 rfl rfl ?_
    refine s_mv 121 rfl rfl ?_
    refine s_mv 122 rfl rfl ?_
    refine s_call1 123 rfl rfl rfl rfl (fun w hw => pow_spec g _ _ _ e _ hm (hw.has (i := 0) rfl) (hw.er hz)) (fun _ _ => trivial) ?_
    refine s_mv 124 rfl rfl ?_
    refine s_mv 125 rfl rfl ?_
    refine s_mv 126 rfl rfl ?_
    refine s_call1 127 rfl rfl rfl rfl (fun w hw => rpow_spec _ _ _ _ hm) (fun _ _ => trivial) ?_
    refine s_eq 128 rfl rfl rfl (decide_eq_true rfl) ?_
    refine s_pickT 129 rfl rfl rfl ?_
    refine s_mv 130 rfl rfl ?_
    refine s_mv 131 rfl rfl ?_
    refine s_mv 132 rfl rfl ?_
    refine s_call1 133 rfl rfl rfl rfl (fun w hw => exp_spec g _ _ _ hm (hw.has (i := 0) rfl)) (fun _ _ => trivial) ?_
    refine s_mv 134 rfl rfl ?_
    refine s_mv 135 rfl rfl ?_
    refine s_call1 136 rfl rfl rfl rfl (fun w hw => rexp_spec _ _ _ hm) (fun _ _ => trivial) ?_
    refine s_eq 137 rfl rfl rfl (decide_eq_true rfl) ?_
    refine s_pickT 138 rfl rfl rfl ?_
    refine s_mv 139 rfl rfl ?_
    refine s_mv 140 rfl rfl ?_
    refine s_mv 141 rfl rfl ?_
    refine s_call1 142 rfl rfl rfl rfl (fun w hw => trace_spec g _ _ _ hm (hw.has (i := 0) rfl)) (fun _ _ => trivial) ?_
    refine s_mv 143 rfl rfl ?_
    refine s_mv 144 rfl rfl ?_
    refine s_call1 145 rfl rfl rfl rfl (fun w hw => rtrace_spec _ _ _ hm) (fun _ _ => trivial) ?_
    refine s_eq 146 rfl rfl rfl (decide_eq_true rfl) ?_
    refine s_pickT 147 rfl rfl rfl ?_
    refine s_mv 148 rfl rfl ?_
    refine s_mv 149 rfl rfl ?_
    refine s_mv 150 rfl rfl ?_
    refine s_call1 151 rfl rfl rfl rfl (fun w hw => is_spec g _ _ _ hm (hw.has (i := 0) rfl)) (fun _ _ => trivial) ?_
    refine s_mv 152 rfl rfl ?_
    refine s_ge 153 rfl rfl rfl rfl ?_
    refine s_mv 154 rfl rfl ?_
    refine SX.bool 154 rfl (fun hb => ?_) (fun hb => ?_)
    · skip
      refine s_mv 155 rfl rfl ?_
      refine s_mv 156 rfl rfl ?_
      refine s_conv 157 rfl rfl (u64_nat hm) ?_
      refine s_shl 158 rfl rfl rfl (by omega) (shl_one hm) ?_
      refine s_lt 159 rfl rfl rfl rfl ?_
      refine s_pickT 160 rfl rfl rfl ?_
      refine s_eqB 161 rfl rfl rfl (isA (of_decide_eq_true hb)) ?_
      refine s_pickT 162 rfl rfl rfl ?_
      refine s_as 20 rfl rfl ?_
      refine SX.next ?_
      refine CW.seq ?_
      refine CW.reg [0, 1, 2, 3, 4, 5, 6, 7, 8, 9, 10, 11, 12, 13, 14, 15, 16, 17, 18, 19, 20, 21, 22, 23, 24, 25] rfl ?_   -- 15, law.go:55
      refine s_mv 163 rfl rfl ?_
      refine s_mv 164 rfl rfl ?_
      refine SX.skip rfl ?_
      refine SX.skip rfl ?_
      refine SX.skip rfl ?_
      refine s_pickF 168 rfl rfl rfl ?_
      refine s_mv 169 rfl rfl ?_
      refine SX.skip rfl ?_
      refine SX.skip rfl ?_
      refine s_pickF 172 rfl rfl rfl ?_
      refine s_mv 173 rfl rfl ?_
      refine s_mv 174 rfl rfl ?_
      refine s_not 175 rfl rfl ?_
      refine s_mv 176 rfl rfl ?_
      refine s_mv 177 rfl rfl ?_
      refine s_eqNN 178 rfl rfl ?_
      refine s_pickT 179 rfl rfl rfl ?_
      refine s_mv 180 rfl rfl ?_
      refine s_mv 181 rfl rfl ?_
      refine s_mv 182 rfl rfl ?_
      refine s_mv 183 rfl rfl ?_
      refine s_call1 184 rfl rfl rfl rfl (fun w hw => rinv_spec _ _ _ hm h0) (fun _ _ => trivial) ?_
      refine s_eq 185 rfl rfl rfl (decide_eq_true rfl) ?_
      refine s_pickT 186 rfl rfl rfl ?_
      refine s_pickF 187 rfl rfl rfl ?_
      refine s_as 21 rfl rfl ?_
      refine SX.next ?_
      refine CW.seq ?_
      refine CW.reg [0, 1, 2, 3, 4, 5, 6, 7, 8, 9, 10, 11, 12, 13, 14, 15, 16, 17, 18, 19, 20, 21, 22, 23, 24, 25, 26, 27, 28] rfl ?_   -- 16, law.go:56
      refine s_mv 188 rfl rfl ?_
      refine s_mv 189 rfl rfl ?_
      refine SX.skip rfl ?_
      refine SX.skip rfl ?_
      refine SX.skip rfl ?_
      refine s_pickF 193 rfl rfl rfl ?_
      refine s_mv 194 rfl rfl ?_
      refine SX.skip rfl ?_
      refine SX.skip rfl ?_
      refine s_pickF 197 rfl rfl rfl ?_
      refine s_mv 198 rfl rfl ?_
      refine s_mv 199 rfl rfl ?_
      refine s_not 200 rfl rfl ?_
      refine s_mv 201 rfl rfl ?_
      refine s_mv 202 rfl rfl ?_
      refine s_eqNN 203 rfl rfl ?_
      refine s_pickT 204 rfl rfl rfl ?_
      refine s_mv 205 rfl rfl ?_
      refine s_mv 206 rfl rfl ?_
      refine s_mv 207 rfl rfl ?_
      refine s_mv 208 rfl rfl ?_
      refine s_mv 209 rfl rfl ?_
      refine s_mv 210 rfl rfl ?_
      refine s_call1 211 rfl rfl rfl rfl (fun w hw => rinv_spec _ _ _ hm h1) (fun _ _ => trivial) ?_
      refine s_call1 212 rfl rfl rfl rfl (fun w hw => (by have := rmul_spec (mkm 10 a0) a1 (inv (mkm 10 a0) (lo (mkm 10 a0) a2) : Nat) w hm; rw [lo_nat (inv_lt hm _)] at this; exact this)) (fun _ _ => trivial) ?_
      refine s_eq 213 rfl rfl rfl (decide_eq_true rfl) ?_
      refine s_pickT 214 rfl rfl rfl ?_
      refine s_pickF 215 rfl rfl rfl ?_
      refine s_as 22 rfl rfl ?_
      refine SX.next ?_
      refine CW.seq ?_
      refine CW.reg [0, 1, 2, 3, 4, 5, 6, 7] rfl ?_   -- 17, law.go:57
      refine s_mv 216 rfl rfl ?_
      refine s_mv 217 rfl rfl ?_
      refine s_mv 218 rfl rfl ?_
      refine s_pickT 219 rfl rfl rfl ?_
      refine s_mv 220 rfl rfl ?_
      refine s_mv 221 rfl rfl ?_
      refine s_pickT 222 rfl rfl rfl ?_
      refine s_as 8 rfl rfl ?_
      refine SX.next ?_
      refine CW.ret ?_
      exact KN.ret (rs := [.tmp 8]) Tryd.results8 rfl (fun w hw => ⟨rfl, hw.nothing⟩)
    · skip
      refine SX.skip rfl ?_
      refine SX.skip rfl ?_
      refine SX.skip rfl ?_
      refine SX.skip rfl ?_
      refine SX.skip rfl ?_
      refine s_pickF 160 rfl rfl rfl ?_
      refine s_eqB 161 rfl rfl rfl (isB (of_decide_eq_false hb)) ?_
      refine s_pickT 162 rfl rfl rfl ?_
      refine s_as 20 rfl rfl ?_
      refine SX.next ?_
      refine CW.seq ?_
      refine CW.reg [0, 1, 2, 3, 4, 5, 6, 7, 8, 9, 10, 11, 12, 13, 14, 15, 16, 17, 18, 19, 20, 21, 22, 23, 24, 25] rfl ?_   -- 15, law.go:55
      refine s_mv 163 rfl rfl ?_
      refine s_mv 164 rfl rfl ?_
      refine SX.skip rfl ?_
      refine SX.skip rfl ?_
      refine SX.skip rfl ?_
      refine s_pickF 168 rfl rfl rfl ?_
      refine s_mv 169 rfl rfl ?_
      refine SX.skip rfl ?_
      refine SX.skip rfl ?_
      refine s_pickF 172 rfl rfl rfl ?_
      refine s_mv 173 rfl rfl ?_
      refine s_mv 174 rfl rfl ?_
      refine s_not 175 rfl rfl ?_
      refine s_mv 176 rfl rfl ?_
      refine s_mv 177 rfl rfl ?_
      refine s_eqNN 178 rfl rfl ?_
      refine s_pickT 179 rfl rfl rfl ?_
      refine s_mv 180 rfl rfl ?_
      refine s_mv 181 rfl rfl ?_
      refine s_mv 182 rfl rfl ?_
      refine s_mv 183 rfl rfl ?_
      refine s_call1 184 rfl rfl rfl rfl (fun w hw => rinv_spec _ _ _ hm h0) (fun _ _ => trivial) ?_
      refine s_eq 185 rfl rfl rfl (decide_eq_true rfl) ?_
      refine s_pickT 186 rfl rfl rfl ?_
      refine s_pickF 187 rfl rfl rfl ?_
      refine s_as 21 rfl rfl ?_
      refine SX.next ?_
      refine CW.seq ?_
      refine CW.reg [0, 1, 2, 3, 4, 5, 6, 7, 8, 9, 10, 11, 12, 13, 14, 15, 16, 17, 18, 19, 20, 21, 22, 23, 24, 25, 26, 27, 28] rfl ?_   -- 16, law.go:56
      refine s_mv 188 rfl rfl ?_
      refine s_mv 189 rfl rfl ?_
      refine SX.skip rfl ?_
      refine SX.skip rfl ?_
      refine SX.skip rfl ?_
      refine s_pickF 193 rfl rfl rfl ?_
      refine s_mv 194 rfl rfl ?_
      refine SX.skip rfl ?_
      refine SX.skip rfl ?_
      refine s_pickF 197 rfl rfl rfl ?_
      refine s_mv 198 rfl rfl ?_
      refine s_mv 199 rfl rfl ?_
      refine s_not 200 rfl rfl ?_
      refine s_mv 201 rfl rfl ?_
      refine s_mv 202 rfl rfl ?_
      refine s_eqNN 203 rfl rfl ?_
      refine s_pickT 204 rfl rfl rfl ?_
      refine s_mv 205 rfl rfl ?_
      refine s_mv 206 rfl rfl ?_
      refine s_mv 207 rfl rfl ?_
      refine s_mv 208 rfl rfl ?_
      refine s_mv 209 rfl rfl ?_
      refine s_mv 210 rfl rfl ?_
      refine s_call1 211 rfl rfl rfl rfl (fun w hw => rinv_spec _ _ _ hm h1) (fun _ _ => trivial) ?_
      refine s_call1 212 rfl rfl rfl rfl (fun w hw => (by have := rmul_spec (mkm 10 a0) a1 (inv (mkm 10 a0) (lo (mkm 10 a0) a2) : Nat) w hm; rw [lo_nat (inv_lt hm _)] at this; exact this)) (fun _ _ => trivial) ?_
      refine s_eq 213 rfl rfl rfl (decide_eq_true rfl) ?_
      refine s_pickT 214 rfl rfl rfl ?_
      refine s_pickF 215 rfl rfl rfl ?_
      refine s_as 22 rfl rfl ?_
      refine SX.next ?_
      refine CW.seq ?_
      refine CW.reg [0, 1, 2, 3, 4, 5, 6, 7] rfl ?_   -- 17, law.go:57
      refine s_mv 216 rfl rfl ?_
      refine s_mv 217 rfl rfl ?_
      refine s_mv 218 rfl rfl ?_
      refine s_pickT 219 rfl rfl rfl ?_
      refine s_mv 220 rfl rfl ?_
      refine s_mv 221 rfl rfl ?_
      refine s_pickT 222 rfl rfl rfl ?_
      refine s_as 8 rfl rfl ?_
      refine SX.next ?_
      refine CW.ret ?_
      exact KN.ret (rs := [.tmp 8]) Tryd.results8 rfl (fun w hw => ⟨rfl, hw.nothing⟩)

theorem says_011 (k : Nat) (hk : Ok k) (a1 a2 a3 : Int) (e : Nat → Addr) (w : World) (hz : Er e w 0) (hfe : Er e w 1) (h0 : lo (mkm 10 ((k : Nat) : Int)) a1 = 0) (h1 : lo (mkm 10 ((k : Nat) : Int)) a2 = 0) : Spec1 Tryd.prog 8 [.int .i64 ((k : Nat) : Int), .int .i64 a1, .int .i64 a2, .int .i64 a3] w (.bool true) := by
  have hm := mkm_ok (k := 10) (by omega) (by omega) ((k : Nat) : Int)
  have hk1 := hk.lo
  have hk2 := hk.hi
  refine spec_of Tryd.func8 rfl Tryd.ntmps8 rfl ?_
  refine CW.seq ?_
  refine CW.reg [0] rfl ?_   -- 0, law.go:37
  refine s_as 8 rfl rfl ?_
  refine SX.next ?_
  refine CW.seq ?_
  refine CW.reg [0, 1] rfl ?_   -- 1, law.go:38
  refine s_call1 23 rfl rfl rfl rfl (fun w hw => first_spec e _ (hw.er hz) (hw.er hfe)) (fun _ _ => trivial) ?_
  refine s_as 9 rfl rfl ?_
  refine SX.next ?_
  refine CW.seq ?_
  refine CW.seq ?_
  refine CW.reg [0, 1, 2, 3, 4, 5, 6, 7, 8] rfl ?_   -- 2, law.go:39
  refine s_mv 24 rfl rfl ?_
  refine s_call1 25 rfl rfl rfl rfl (fun w hw => poly_any _ _) (fun _ _ => trivial) ?_
  refine s_mv 26 rfl rfl ?_
  refine s_call1 27 rfl rfl rfl rfl (fun w hw => rpoly_any _ _) (fun _ _ => trivial) ?_
  refine s_ne 28 rfl rfl rfl (decide_eq_false (fun h => h rfl)) ?_
  refine s_mv 29 rfl rfl ?_
  refine s_mv 30 rfl rfl ?_
  refine s_not 31 rfl rfl ?_
  refine s_pickF 32 rfl rfl rfl ?_
  refine SX.next ?_
  refine CW.condF rfl ?_
  refine CW.skip ?_
  refine KN.code ?_
  refine CW.seq ?_
  refine CW.reg [0, 1, 2, 3, 4, 5, 6] rfl ?_   -- 4, law.go:42
  refine s_mv 34 rfl rfl ?_
  refine s_call 35 rfl rfl rfl rfl (fun w hw => new_spec k w hk) (fun _ _ => trivial) (fun g0 _ => ?_)
  refine s_mv 33 rfl rfl ?_
  refine s_ext 36 rfl rfl rfl ?_
  refine s_ext 37 rfl rfl rfl ?_
  refine s_as 10 rfl rfl ?_
  refine s_as 11 rfl rfl ?_
  refine SX.next ?_
  refine CW.seq ?_
  refine CW.seq ?_
  refine CW.reg [0, 1, 2, 3, 4, 5, 6, 7, 8, 9, 10, 11, 12, 13, 14, 15, 16, 17] rfl ?_   -- 5, law.go:43
  refine s_mv 38 rfl rfl ?_
  refine s_eqNN 39 rfl rfl ?_
  refine s_mv 40 rfl rfl ?_
  refine s_ge 41 rfl rfl rfl (decide_eq_true (by omega)) ?_
  refine s_mv 42 rfl rfl ?_
  refine s_mv 43 rfl rfl ?_
  refine s_le 44 rfl rfl rfl (decide_eq_true (by omega)) ?_
  refine s_pickT 45 rfl rfl rfl ?_
  refine s_neB 46 rfl rfl rfl rfl ?_
  refine s_mv 47 rfl rfl ?_
  refine s_mv 48 rfl rfl ?_
  refine s_neNN 49 rfl rfl ?_
  refine s_mv 50 rfl rfl ?_
  refine SX.skip rfl ?_
  refine SX.skip rfl ?_
  refine SX.skip rfl ?_
  refine s_pickF 54 rfl rfl rfl ?_
  refine s_pickF 55 rfl rfl rfl ?_
  refine SX.next ?_
  refine CW.condF rfl ?_
  refine CW.skip ?_
  refine KN.code ?_
  refine CW.seq ?_
  refine CW.reg [0, 1, 2, 3, 4, 5, 6] rfl ?_   -- 7, law.go:46
  refine s_mv 57 rfl rfl ?_
  refine s_call 58 rfl rfl rfl rfl (fun w hw => made_spec _ w) (fun _ _ => trivial) (fun g _ => ?_)
  refine s_mv 56 rfl rfl ?_
  refine s_ext 59 rfl rfl rfl ?_
  refine s_ext 60 rfl rfl rfl ?_
  refine s_as 12 rfl rfl ?_
  refine s_as 13 rfl rfl ?_
  refine SX.next ?_
  refine CW.seq ?_
  refine CW.seq ?_
  refine CW.reg [0, 1, 2, 3, 4, 5, 6, 7, 8, 9, 10, 11, 12, 13, 14, 15] rfl ?_   -- 8, law.go:47
  refine s_mv 61 rfl rfl ?_
  refine s_eqPN 62 rfl rfl ?_
  refine s_mv 63 rfl rfl ?_
  refine s_mv 64 rfl rfl ?_
  refine s_call1 65 rfl rfl rfl rfl (fun w hw => m_spec g _ _ hm (hw.has (i := 0) rfl)) (fun _ _ => trivial) ?_
  refine s_mv 66 rfl rfl ?_
  refine s_ne 67 rfl rfl rfl (decide_eq_false (fun h => h rfl)) ?_
  refine s_pickF 68 rfl rfl rfl ?_
  refine s_mv 69 rfl rfl ?_
  refine s_mv 70 rfl rfl ?_
  refine s_call1 71 rfl rfl rfl rfl (fun w hw => size_spec g _ _ hm (hw.has (i := 0) rfl)) (fun _ _ => trivial) ?_
  refine s_mv 72 rfl rfl ?_
  refine s_conv 73 rfl rfl (u64_nat hm) ?_
  refine s_shl 74 rfl rfl rfl (by omega) (shl_one hm) ?_
  refine s_ne 75 rfl rfl rfl (decide_eq_false (fun h => h rfl)) ?_
  refine s_pickF 76 rfl rfl rfl ?_
  refine SX.next ?_
  refine CW.condF rfl ?_
  refine CW.skip ?_
  refine KN.code ?_
  refine CW.seq ?_
  refine CW.reg [0, 1, 2, 3, 4, 5, 6, 7] rfl ?_   -- 10, law.go:50
  refine s_mv 78 rfl rfl ?_
  refine s_mv 79 rfl rfl ?_
  refine s_call1 80 rfl rfl rfl rfl (fun w hw => inv_zero g _ _ e _ hm (hw.has (i := 0) rfl) (hw.er hz) h0) (fun _ _ => trivial) ?_
  refine s_mv 77 rfl rfl ?_
  refine s_ext 81 rfl rfl rfl ?_
  refine s_ext 82 rfl rfl rfl ?_
  refine s_as 14 rfl rfl ?_
  refine s_as 15 rfl rfl ?_
  refine SX.next ?_
  refine CW.seq ?_
  refine CW.reg [0, 1, 2, 3, 4, 5, 6, 7, 8] rfl ?_   -- 11, law.go:51
  refine s_mv 84 rfl rfl ?_
  refine s_mv 85 rfl rfl ?_
  refine s_mv 86 rfl rfl ?_
  refine s_call1 87 rfl rfl rfl rfl (fun w hw => div_zero g _ _ _ e _ hm (hw.has (i := 0) rfl) (hw.er hz) h1) (fun _ _ => trivial) ?_
  refine s_mv 83 rfl rfl ?_
  refine s_ext 88 rfl rfl rfl ?_
  refine s_ext 89 rfl rfl rfl ?_
  refine s_as 16 rfl rfl ?_
  refine s_as 17 rfl rfl ?_
  refine SX.next ?_
  refine CW.seq ?_
  refine CW.reg [0, 1, 2, 3, 4] rfl ?_   -- 12, law.go:52
  refine s_mv 90 rfl rfl ?_
  refine s_mv 91 rfl rfl ?_
  refine s_call1 92 rfl rfl rfl rfl (fun w hw => rlow_spec _ _ _ hm) (fun _ _ => trivial) ?_
  refine s_eq 93 rfl rfl rfl (decide_eq_true (by omega)) ?_
  refine s_as 18 rfl rfl ?_
  refine SX.next ?_
  refine CW.seq ?_
  refine CW.reg [0, 1, 2, 3, 4] rfl ?_   -- 13, law.go:53
  refine s_mv 94 rfl rfl ?_
  refine s_mv 95 rfl rfl ?_
  refine s_call1 96 rfl rfl rfl rfl (fun w hw => rlow_spec _ _ _ hm) (fun _ _ => trivial) ?_
  refine s_eq 97 rfl rfl rfl (decide_eq_true (by omega)) ?_
  refine s_as 19 rfl rfl ?_
  refine SX.next ?_
  refine CW.seq ?_
  refine CW.reg [0, 1, 2, 3, 4, 5, 6, 7, 8, 9, 10, 11, 12, 13, 14, 15, 16, 17, 18, 19, 20, 21, 22, 23, 24, 25, 26, 27, 28, 29, 30, 31, 32, 33, 34, 35, 36, 37, 38, 39, 40, 41, 42, 43, 44, 45, 46, 47, 48, 49, 50, 51, 52, 53, 54, 55, 56, 57, 58, 59, 60, 61, 62, 63, 64, 65] rfl ?_   -- 14, law.go:54
  refine s_mv 98 rfl rfl ?_
  refine s_mv 99 rfl rfl ?_
  refine s_mv 100 rfl rfl ?_
  refine s_call1 101 rfl rfl rfl rfl (fun w hw => add_spec g _ _ _ _ hm (hw.has (i := 0) rfl)) (fun _ _ => trivial) ?_
  refine s_mv 102 rfl rfl ?_
  refine s_mv 103 rfl rfl ?_
  refine s_mv 104 rfl rfl ?_
  refine s_bit 105 rfl rfl rfl rfl rfl ?_
  refine s_call1 106 rfl rfl rfl rfl (fun w hw => rlow_spec _ _ _ hm) (fun _ _ => trivial) ?_
  refine s_eq 107 rfl rfl rfl (decide_eq_true (cst (lo_xor hm _ _).symm)) ?_
  refine s_mv 108 rfl rfl ?_
  refine s_mv 109 rfl rfl ?_
  refine s_mv 110 rfl rfl ?_
  refine s_mv 111 rfl rfl ?_
  refine s_call1 112 rfl rfl rfl rfl (fun w hw => mul_spec g _ _ _ _ hm (hw.has (i := 0) rfl)) (fun _ _ => trivial) ?_
  refine s_mv 113 rfl rfl ?_
  refine s_mv 114 rfl rfl ?_
  refine s_mv 115 rfl rfl ?_
  refine s_call1 116 rfl rfl rfl rfl (fun w hw => rmul_spec _ _ _ _ hm) (fun _ _ => trivial) ?_
  refine s_eq 117 rfl rfl rfl (decide_eq_true rfl) ?_
  refine s_pickT 118 rfl rfl rfl ?_
  refine s_mv 119 rfl rfl ?_
  refine s_mv 120 rfl rfl ?_
  refine s_mv 121 rfl rfl ?_
  refine s_mv 122 rfl rfl ?_
  refine s_call1 123 rfl rfl rfl rfl (fun w hw => pow_spec g _ _ _ e _ hm (hw.has (i := 0) rfl) (hw.er hz)) (fun _ _ => trivial) ?_
  refine s_mv 124 rfl rfl ?_
  refine s_mv 125 rfl rfl ?_
  refine s_mv 126 rfl rfl ?_
  refine s_call1 127 rfl rfl rfl rfl (fun w hw => rpow_spec _ _ _ _ hm) (fun _ _ => trivial) ?_
  refine s_eq 128 rfl rfl rfl (decide_eq_true rfl) ?_
  refine s_pickT 129 rfl rfl rfl ?_
  refine s_mv 130 rfl rfl ?_
  refine s_mv 131 rfl rfl ?_
  refine s_mv 132 rfl rfl ?_
  refine s_call1 133 rfl rfl rfl rfl (fun w hw => exp_spec g _ _ _ hm (hw.has (i := 0) rfl)) (fun _ _ => trivial) ?_
  refine s_mv 134 rfl rfl ?_
  refine s_mv 135 rfl rfl ?_
  refine s_call1 136 rfl rfl rfl rfl (fun w hw => rexp_spec _ _ _ hm) (fun _ _ => trivial) ?_
  refine s_eq 137 rfl rfl rfl (decide_eq_true rfl) ?_
  refine s_pickT 138 rfl rfl rfl ?_
  refine s_mv 139 rfl rfl ?_
  refine s_mv 140 rfl rfl ?_
  refine s_mv 141 rfl rfl ?_
  refine s_call1 142 rfl rfl rfl rfl (fun w hw => trace_spec g _ _ _ hm (hw.has (i := 0) rfl)) (fun _ _ => trivial) ?_
  refine s_mv 143 rfl rfl ?_
  refine s_mv 144 rfl rfl ?_
  refine s_call1 145 rfl rfl rfl rfl (fun w hw => rtrace_spec _ _ _ hm) (fun _ _ => trivial) ?_
  refine s_eq 146 rfl rfl rfl (decide_eq_true rfl) ?_
  refine s_pickT 147 rfl rfl rfl ?_
  refine s_mv 148 rfl rfl ?_
  refine s_mv 149 rfl rfl ?_
  refine s_mv 150 rfl rfl ?_
  refine s_call1 151 rfl rfl rfl rfl (fun w hw => is_spec g _ _ _ hm (hw.has (i := 0) rfl)) (fun _ _ => trivial) ?_
  refine s_mv 152 rfl rfl ?_
  refine s_ge 153 rfl rfl rfl rfl ?_
  refine s_mv 154 rfl rfl ?_
  refine SX.bool 154 rfl (fun hb => ?_) (fun hb => ?_)
  · skip
    refine s_mv 155 rfl rfl ?_
    refine s_mv 156 rfl rfl ?_
    refine s_conv 157 rfl rfl (u64_nat hm) ?_
    refine s_shl 158 rfl rfl rfl (by omega) (shl_one hm) ?_
    refine s_lt 159 rfl rfl rfl rfl ?_
    refine s_pickT 160 rfl rfl rfl ?_
    refine s_eqB 161 rfl rfl rfl (isA (of_decide_eq_true hb)) ?_
    refine s_pickT 162 rfl rfl rfl ?_
    refine s_as 20 rfl rfl ?_
    refine SX.next ?_
    refine CW.seq ?_
    refine CW.reg [0, 1, 2, 3, 4, 5, 6, 7, 8, 9, 10, 11, 12, 13, 14, 15, 16, 17, 18, 19, 20, 21, 22, 23, 24, 25] rfl ?_   -- 15, law.go:55
    refine s_mv 163 rfl rfl ?_
    refine s_mv 164 rfl rfl ?_
    refine s_mv 165 rfl rfl ?_
    refine s_ld 166 rfl rfl (fun _ h => h.cell (by assumption)) ?_
    refine s_eqE 167 rfl rfl rfl ?_
    refine s_pickT 168 rfl rfl rfl ?_
    refine s_mv 169 rfl rfl ?_
    refine s_mv 170 rfl rfl ?_
    refine s_eq 171 rfl rfl rfl (decide_eq_true rfl) ?_
    refine s_pickT 172 rfl rfl rfl ?_
    refine s_mv 173 rfl rfl ?_
    refine SX.skip rfl ?_
    refine SX.skip rfl ?_
    refine SX.skip rfl ?_
    refine SX.skipU rfl ?_
    refine SX.skipU rfl ?_
    refine SX.skip rfl ?_
    refine SX.skip rfl ?_
    refine SX.skipU rfl ?_
    refine SX.skipU rfl ?_
    refine SX.skipU rfl ?_
    refine SX.skipU rfl ?_
    refine SX.skipU rfl ?_
    refine SX.skip rfl ?_
    refine s_pickT 187 rfl rfl rfl ?_
    refine s_as 21 rfl rfl ?_
    refine SX.next ?_
    refine CW.seq ?_
    refine CW.reg [0, 1, 2, 3, 4, 5, 6, 7, 8, 9, 10, 11, 12, 13, 14, 15, 16, 17, 18, 19, 20, 21, 22, 23, 24, 25, 26, 27, 28] rfl ?_   -- 16, law.go:56
    refine s_mv 188 rfl rfl ?_
    refine s_mv 189 rfl rfl ?_
    refine s_mv 190 rfl rfl ?_
    refine s_ld 191 rfl rfl (fun _ h => h.cell (by assumption)) ?_
    refine s_eqE 192 rfl rfl rfl ?_
    refine s_pickT 193 rfl rfl rfl ?_
    refine s_mv 194 rfl rfl ?_
    refine s_mv 195 rfl rfl ?_
    refine s_eq 196 rfl rfl rfl (decide_eq_true rfl) ?_
    refine s_pickT 197 rfl rfl rfl ?_
    refine s_mv 198 rfl rfl ?_
    refine SX.skip rfl ?_
    refine SX.skip rfl ?_
    refine SX.skip rfl ?_
    refine SX.skipU rfl ?_
    refine SX.skipU rfl ?_
    refine SX.skip rfl ?_
    refine SX.skip rfl ?_
    refine SX.skipU rfl ?_
    refine SX.skipU rfl ?_
    refine SX.skipU rfl ?_
    refine SX.skipU rfl ?_
    refine SX.skipU rfl ?_
    refine SX.skipU rfl ?_
    refine SX.skipU rfl ?_
    refine SX.skipU rfl ?_
    refine SX.skip rfl ?_
    refine s_pickT 215 rfl rfl rfl ?_
    refine s_as 22 rfl rfl ?_
    refine SX.next ?_
    refine CW.seq ?_
    refine CW.reg [0, 1, 2, 3, 4, 5, 6, 7] rfl ?_   -- 17, law.go:57
    refine s_mv 216 rfl rfl ?_
    refine s_mv 217 rfl rfl ?_
    refine s_mv 218 rfl rfl ?_
    refine s_pickT 219 rfl rfl rfl ?_
    refine s_mv 220 rfl rfl ?_
    refine s_mv 221 rfl rfl ?_
    refine s_pickT 222 rfl rfl rfl ?_
    refine s_as 8 rfl rfl ?_
    refine SX.next ?_
    refine CW.ret ?_
    exact KN.ret (rs := [.tmp 8]) Tryd.results8 rfl (fun w hw => ⟨rfl, hw.nothing⟩)
  · skip
    refine SX.skip rfl ?_
    refine SX.skip rfl ?_
    refine SX.skip rfl ?_
    refine SX.skip rfl ?_
    refine SX.skip rfl ?_
    refine s_pickF 160 rfl rfl rfl ?_
    refine s_eqB 161 rfl rfl rfl (isB (of_decide_eq_false hb)) ?_
    refine s_pickT 162 rfl rfl rfl ?_
    refine s_as 20 rfl rfl ?_
    refine SX.next ?_
    refine CW.seq ?_
    refine CW.reg [0, 1, 2, 3, 4, 5, 6, 7, 8, 9, 10, 11, 12, 13, 14, 15, 16, 17, 18, 19, 20, 21, 22, 23, 24, 25] rfl ?_   -- 15, law.go:55
    refine s_mv 163 rfl rfl ?_
    refine s_mv 164 rfl rfl ?_
    refine s_mv 165 rfl rfl ?_
    refine s_ld 166 rfl rfl (fun _ h => h.cell (by assumption)) ?_
    refine s_eqE 167 rfl rfl rfl ?_
    refine s_pickT 168 rfl rfl rfl ?_
    refine s_mv 169 rfl rfl ?_
    refine s_mv 170 rfl rfl ?_
    refine s_eq 171 rfl rfl rfl (decide_eq_true rfl) ?_
    refine s_pickT 172 rfl rfl rfl ?_
    refine s_mv 173 rfl rfl ?_
    refine SX.skip rfl ?_
    refine SX.skip rfl ?_
    refine SX.skip rfl ?_
    refine SX.skipU rfl ?_
    refine SX.skipU rfl ?_
    refine SX.skip rfl ?_
    refine SX.skip rfl ?_
    refine SX.skipU rfl ?_
    refine SX.skipU rfl ?_
    refine SX.skipU rfl ?_
    refine SX.skipU rfl ?_
    refine SX.skipU rfl ?_
    refine SX.skip rfl ?_
    refine s_pickT 187 rfl rfl rfl ?_
    refine s_as 21 rfl rfl ?_
    refine SX.next ?_
    refine CW.seq ?_
    refine CW.reg [0, 1, 2, 3, 4, 5, 6, 7, 8, 9, 10, 11, 12, 13, 14, 15, 16, 17, 18, 19, 20, 21, 22, 23, 24, 25, 26, 27, 28] rfl ?_   -- 16, law.go:56
    refine s_mv 188 rfl rfl ?_
    refine s_mv 189 rfl rfl ?_
    refine s_mv 190 rfl rfl ?_
    refine s_ld 191 rfl rfl (fun _ h => h.cell (by assumption)) ?_
    refine s_eqE 192 rfl rfl rfl ?_
    refine s_pickT 193 rfl rfl rfl ?_
    refine s_mv 194 rfl rfl ?_
    refine s_mv 195 rfl rfl ?_
    refine s_eq 196 rfl rfl rfl (decide_eq_true rfl) ?_
    refine s_pickT 197 rfl rfl rfl ?_
    refine s_mv 198 rfl rfl ?_
    refine SX.skip rfl ?_
    refine SX.skip rfl ?_
    refine SX.skip rfl ?_
    refine SX.skipU rfl ?_
    refine SX.skipU rfl ?_
    refine SX.skip rfl ?_
    refine SX.skip rfl ?_
    refine SX.skipU rfl ?_
    refine SX.skipU rfl ?_
    refine SX.skipU rfl ?_
    refine SX.skipU rfl ?_
    refine SX.skipU rfl ?_
    refine SX.skipU rfl ?_
    refine SX.skipU rfl ?_
    refine SX.skipU rfl ?_
    refine SX.skip rfl ?_
    refine s_pickT 215 rfl rfl rfl ?_
    refine s_as 22 rfl rfl ?_
    refine SX.next ?_
    refine CW.seq ?_
    refine CW.reg [0, 1, 2, 3, 4, 5, 6, 7] rfl ?_   -- 17, law.go:57
    refine s_mv 216 rfl rfl ?_
    refine s_mv 217 rfl rfl ?_
    refine s_mv 218 rfl rfl ?_
    refine s_pickT 219 rfl rfl rfl ?_
    refine s_mv 220 rfl rfl ?_
    refine s_mv 221 rfl rfl ?_
    refine s_pickT 222 rfl rfl rfl ?_
    refine s_as 8 rfl rfl ?_
    refine SX.next ?_
    refine CW.ret ?_
    exact KN.ret (rs := [.tmp 8]) Tryd.results8 rfl (fun w hw => ⟨rfl, hw.nothing⟩)

theorem says_010 (k : Nat) (hk : Ok k) (a1 a2 a3 : Int) (e : Nat → Addr) (w : World) (hz : Er e w 0) (hfe : Er e w 1) (h0 : lo (mkm 10 ((k : Nat) : Int)) a1 = 0) (h1 : lo (mkm 10 ((k : Nat) : Int)) a2 ≠ 0) : Spec1 Tryd.prog 8 [.int .i64 ((k : Nat) : Int), .int .i64 a1, .int .i64 a2, .int .i64 a3] w (.bool true) := by
  have hm := mkm_ok (k := 10) (by omega) (by omega) ((k : Nat) : Int)
  have hk1 := hk.lo
  have hk2 := hk.hi
  refine spec_of Tryd.func8 rfl Tryd.ntmps8 rfl ?_
  refine CW.seq ?_
  refine CW.reg [0] rfl ?_   -- 0, law.go:37
  refine s_as 8 rfl rfl ?_
  refine SX.next ?_
  refine CW.seq ?_
  refine CW.reg [0, 1] rfl ?_   -- 1, law.go:38
  refine s_call1 23 rfl rfl rfl rfl (fun w hw => first_spec e _ (hw.er hz) (hw.er hfe)) (fun _ _ => trivial) ?_
  refine s_as 9 rfl rfl ?_
  refine SX.next ?_
  refine CW.seq ?_
  refine CW.seq ?_
  refine CW.reg [0, 1, 2, 3, 4, 5, 6, 7, 8] rfl ?_   -- 2, law.go:39
  refine s_mv 24 rfl rfl ?_
  refine s_call1 25 rfl rfl rfl rfl (fun w hw => poly_any _ _) (fun _ _ => trivial) ?_
  refine s_mv 26 rfl rfl ?_
  refine s_call1 27 rfl rfl rfl rfl (fun w hw => rpoly_any _ _) (fun _ _ => trivial) ?_
  refine s_ne 28 rfl rfl rfl (decide_eq_false (fun h => h rfl)) ?_
  refine s_mv 29 rfl rfl ?_
  refine s_mv 30 rfl rfl ?_
  refine s_not 31 rfl rfl ?_
  refine s_pickF 32 rfl rfl rfl ?_
  refine SX.next ?_
  refine CW.condF rfl ?_
  refine CW.skip ?_
  refine KN.code ?_
  refine CW.seq ?_
  refine CW.reg [0, 1, 2, 3, 4, 5, 6] rfl ?_   -- 4, law.go:42
  refine s_mv 34 rfl rfl ?_
  refine s_call 35 rfl rfl rfl rfl (fun w hw => new_spec k w hk) (fun _ _ => trivial) (fun g0 _ => ?_)
  refine s_mv 33 rfl rfl ?_
  refine s_ext 36 rfl rfl rfl ?_
  refine s_ext 37 rfl rfl rfl ?_
  refine s_as 10 rfl rfl ?_
  refine s_as 11 rfl rfl ?_
  refine SX.next ?_
  refine CW.seq ?_
  refine CW.seq ?_
  refine CW.reg [0, 1, 2, 3, 4, 5, 6, 7, 8, 9, 10, 11, 12, 13, 14, 15, 16, 17] rfl ?_   -- 5, law.go:43
  refine s_mv 38 rfl rfl ?_
  refine s_eqNN 39 rfl rfl ?_
  refine s_mv 40 rfl rfl ?_
  refine s_ge 41 rfl rfl rfl (decide_eq_true (by omega)) ?_
  refine s_mv 42 rfl rfl ?_
  refine s_mv 43 rfl rfl ?_
  refine s_le 44 rfl rfl rfl (decide_eq_true (by omega)) ?_
  refine s_pickT 45 rfl rfl rfl ?_
  refine s_neB 46 rfl rfl rfl rfl ?_
  refine s_mv 47 rfl rfl ?_
  refine s_mv 48 rfl rfl ?_
  refine s_neNN 49 rfl rfl ?_
  refine s_mv 50 rfl rfl ?_
  refine SX.skip rfl ?_
  refine SX.skip rfl ?_
  refine SX.skip rfl ?_
  refine s_pickF 54 rfl rfl rfl ?_
  refine s_pickF 55 rfl rfl rfl ?_
  refine SX.next ?_
  refine CW.condF rfl ?_
  refine CW.skip ?_
  refine KN.code ?_
  refine CW.seq ?_
  refine CW.reg [0, 1, 2, 3, 4, 5, 6] rfl ?_   -- 7, law.go:46
  refine s_mv 57 rfl rfl ?_
  refine s_call 58 rfl rfl rfl rfl (fun w hw => made_spec _ w) (fun _ _ => trivial) (fun g _ => ?_)
  refine s_mv 56 rfl rfl ?_
  refine s_ext 59 rfl rfl rfl ?_
  refine s_ext 60 rfl rfl rfl ?_
  refine s_as 12 rfl rfl ?_
  refine s_as 13 rfl rfl ?_
  refine SX.next ?_
  refine CW.seq ?_
  refine CW.seq ?_
  refine CW.reg [0, 1, 2, 3, 4, 5, 6, 7, 8, 9, 10, 11, 12, 13, 14, 15] rfl ?_   -- 8, law.go:47
  refine s_mv 61 rfl rfl ?_
  refine s_eqPN 62 rfl rfl ?_
  refine s_mv 63 rfl rfl ?_
  refine s_mv 64 rfl rfl ?_
  refine s_call1 65 rfl rfl rfl rfl (fun w hw => m_spec g _ _ hm (hw.has (i := 0) rfl)) (fun _ _ => trivial) ?_
  refine s_mv 66 rfl rfl ?_
  refine s_ne 67 rfl rfl rfl (decide_eq_false (fun h => h rfl)) ?_
  refine s_pickF 68 rfl rfl rfl ?_
  refine s_mv 69 rfl rfl ?_
  refine s_mv 70 rfl rfl ?_
  refine s_call1 71 rfl rfl rfl rfl (fun w hw => size_spec g _ _ hm (hw.has (i := 0) rfl)) (fun _ _ => trivial) ?_
  refine s_mv 72 rfl rfl ?_
  refine s_conv 73 rfl rfl (u64_nat hm) ?_
  refine s_shl 74 rfl rfl rfl (by omega) (shl_one hm) ?_
  refine s_ne 75 rfl rfl rfl (decide_eq_false (fun h => h rfl)) ?_
  refine s_pickF 76 rfl rfl rfl ?_
  refine SX.next ?_
  refine CW.condF rfl ?_
  refine CW.skip ?_
  refine KN.code ?_
  refine CW.seq ?_
  refine CW.reg [0, 1, 2, 3, 4, 5, 6, 7] rfl ?_   -- 10, law.go:50
  refine s_mv 78 rfl rfl ?_
  refine s_mv 79 rfl rfl ?_
  refine s_call1 80 rfl rfl rfl rfl (fun w hw => inv_zero g _ _ e _ hm (hw.has (i := 0) rfl) (hw.er hz) h0) (fun _ _ => trivial) ?_
  refine s_mv 77 rfl rfl ?_
  refine s_ext 81 rfl rfl rfl ?_
  refine s_ext 82 rfl rfl rfl ?_
  refine s_as 14 rfl rfl ?_
  refine s_as 15 rfl rfl ?_
  refine SX.next ?_
  refine CW.seq ?_
  refine CW.reg [0, 1, 2, 3, 4, 5, 6, 7, 8] rfl ?_   -- 11, law.go:51
  refine s_mv 84 rfl rfl ?_
  refine s_mv 85 rfl rfl ?_
  refine s_mv 86 rfl rfl ?_
  refine s_call1 87 rfl rfl rfl rfl (fun w hw => div_spec g _ _ _ _ hm (hw.has (i := 0) rfl) h1) (fun _ _ => trivial) ?_
  refine s_mv 83 rfl rfl ?_
  refine s_ext 88 rfl rfl rfl ?_
  refine s_ext 89 rfl rfl rfl ?_
  refine s_as 16 rfl rfl ?_
  refine s_as 17 rfl rfl ?_
  refine SX.next ?_
  refine CW.seq ?_
  refine CW.reg [0, 1, 2, 3, 4] rfl ?_   -- 12, law.go:52
  refine s_mv 90 rfl rfl ?_
  refine s_mv 91 rfl rfl ?_
  refine s_call1 92 rfl rfl rfl rfl (fun w hw => rlow_spec _ _ _ hm) (fun _ _ => trivial) ?_
  refine s_eq 93 rfl rfl rfl (decide_eq_true (by omega)) ?_
  refine s_as 18 rfl rfl ?_
  refine SX.next ?_
  refine CW.seq ?_
  refine CW.reg [0, 1, 2, 3, 4] rfl ?_   -- 13, law.go:53
  refine s_mv 94 rfl rfl ?_
  refine s_mv 95 rfl rfl ?_
  refine s_call1 96 rfl rfl rfl rfl (fun w hw => rlow_spec _ _ _ hm) (fun _ _ => trivial) ?_
  refine s_eq 97 rfl rfl rfl (decide_eq_false (by omega)) ?_
  refine s_as 19 rfl rfl ?_
  refine SX.next ?_
  refine CW.seq ?_
  refine CW.reg [0, 1, 2, 3, 4, 5, 6, 7, 8, 9, 10, 11, 12, 13, 14, 15, 16, 17, 18, 19, 20, 21, 22, 23, 24, 25, 26, 27, 28, 29, 30, 31, 32, 33, 34, 35, 36, 37, 38, 39, 40, 41, 42, 43, 44, 45, 46, 47, 48, 49, 50, 51, 52, 53, 54, 55, 56, 57, 58, 59, 60, 61, 62, 63, 64, 65] rfl ?_   -- 14, law.go:54
  refine s_mv 98 rfl rfl ?_
  refine s_mv 99 rfl rfl ?_
  refine s_mv 100 rfl rfl ?_
  refine s_call1 101 rfl rfl rfl rfl (fun w hw => add_spec g _ _ _ _ hm (hw.has (i := 0) rfl)) (fun _ _ => trivial) ?_
  refine s_mv 102 rfl rfl ?_
  refine s_mv 103 rfl rfl ?_
  refine s_mv 104 rfl rfl ?_
  refine s_bit 105 rfl rfl rfl rfl rfl ?_
  refine s_call1 106 rfl rfl rfl rfl (fun w hw => rlow_spec _ _ _ hm) (fun _ _ => trivial) ?_
  refine s_eq 107 rfl rfl rfl (decide_eq_true (cst (lo_xor hm _ _).symm)) ?_
  refine s_mv 108 rfl rfl ?_
  refine s_mv 109 rfl rfl ?_
  refine s_mv 110 rfl rfl ?_
  refine s_mv 111 rfl rfl ?_
  refine s_call1 112 rfl rfl rfl rfl (fun w hw => mul_spec g _ _ _ _ hm (hw.has (i := 0) rfl)) (fun _ _ => trivial) ?_
  refine s_mv 113 rfl rfl ?_
  refine s_mv 114 rfl rfl ?_
  refine s_mv 115 rfl rfl ?_
  refine s_call1 116 rfl rfl rfl rfl (fun w hw => rmul_spec _ _ _ _ hm) (fun _ _ => trivial) ?_
  refine s_eq 117 rfl rfl rfl (decide_eq_true rfl) ?_
  refine s_pickT 118 rfl rfl rfl ?_
  refine s_mv 119 rfl rfl ?_
  refine s_mv 120 rfl rfl ?_
  refine s_mv 121 rfl rfl ?_
  refine s_mv 122 rfl rfl ?_
  refine s_call1 123 rfl rfl rfl rfl (fun w hw => pow_spec g _ _ _ e _ hm (hw.has (i := 0) rfl) (hw.er hz)) (fun _ _ => trivial) ?_
  refine s_mv 124 rfl rfl ?_
  refine s_mv 125 rfl rfl ?_
  refine s_mv 126 rfl rfl ?_
  refine s_call1 127 rfl rfl rfl rfl (fun w hw => rpow_spec _ _ _ _ hm) (fun _ _ => trivial) ?_
  refine s_eq 128 rfl rfl rfl (decide_eq_true rfl) ?_
  refine s_pickT 129 rfl rfl rfl ?_
  refine s_mv 130 rfl rfl ?_
  refine s_mv 131 rfl rfl ?_
  refine s_mv 132 rfl rfl ?_
  refine s_call1 133 rfl rfl rfl rfl (fun w hw => exp_spec g _ _ _ hm (hw.has (i := 0) rfl)) (fun _ _ => trivial) ?_
  refine s_mv 134 rfl rfl ?_
  refine s_mv 135 rfl rfl ?_
  refine s_call1 136 rfl rfl rfl rfl (fun w hw => rexp_spec _ _ _ hm) (fun _ _ => trivial) ?_
  refine s_eq 137 rfl rfl rfl (decide_eq_true rfl) ?_
  refine s_pickT 138 rfl rfl rfl ?_
  refine s_mv 139 rfl rfl ?_
  refine s_mv 140 rfl rfl ?_
  refine s_mv 141 rfl rfl ?_
  refine s_call1 142 rfl rfl rfl rfl (fun w hw => trace_spec g _ _ _ hm (hw.has (i := 0) rfl)) (fun _ _ => trivial) ?_
  refine s_mv 143 rfl rfl ?_
  refine s_mv 144 rfl rfl ?_
  refine s_call1 145 rfl rfl rfl rfl (fun w hw => rtrace_spec _ _ _ hm) (fun _ _ => trivial) ?_
  refine s_eq 146 rfl rfl rfl (decide_eq_true rfl) ?_
  refine s_pickT 147 rfl rfl rfl ?_
  refine s_mv 148 rfl rfl ?_
  refine s_mv 149 rfl rfl ?_
  refine s_mv 150 rfl rfl ?_
  refine s_call1 151 rfl rfl rfl rfl (fun w hw => is_spec g _ _ _ hm (hw.has (i := 0) rfl)) (fun _ _ => trivial) ?_
  refine s_mv 152 rfl rfl ?_
  refine s_ge 153 rfl rfl rfl rfl ?_
  refine s_mv 154 rfl rfl ?_
  refine SX.bool 154 rfl (fun hb => ?_) (fun hb => ?_)
  · skip
    refine s_mv 155 rfl rfl ?_
    refine s_mv 156 rfl rfl ?_
    refine s_conv 157 rfl rfl (u64_nat hm) ?_
    refine s_shl 158 rfl rfl rfl (by omega) (shl_one hm) ?_
    refine s_lt 159 rfl rfl rfl rfl ?_
    refine s_pickT 160 rfl rfl rfl ?_
    refine s_eqB 161 rfl rfl rfl (isA (of_decide_eq_true hb)) ?_
    refine s_pickT 162 rfl rfl rfl ?_
    refine s_as 20 rfl rfl ?_
    refine SX.next ?_
    refine CW.seq ?_
    refine CW.reg [0, 1, 2, 3, 4, 5, 6, 7, 8, 9, 10, 11, 12, 13, 14, 15, 16, 17, 18, 19, 20, 21, 22, 23, 24, 25] rfl ?_   -- 15, law.go:55
    refine s_mv 163 rfl rfl ?_
    refine s_mv 164 rfl rfl ?_
    refine s_mv 165 rfl rfl ?_
    refine s_ld 166 rfl rfl (fun _ h => h.cell (by assumption)) ?_
    refine s_eqE 167 rfl rfl rfl ?_
    refine s_pickT 168 rfl rfl rfl ?_
    refine s_mv 169 rfl rfl ?_
    refine s_mv 170 rfl rfl ?_
    refine s_eq 171 rfl rfl rfl (decide_eq_true rfl) ?_
    refine s_pickT 172 rfl rfl rfl ?_
    refine s_mv 173 rfl rfl ?_
    refine SX.skip rfl ?_
    refine SX.skip rfl ?_
    refine SX.skip rfl ?_
    refine SX.skipU rfl ?_
    refine SX.skipU rfl ?_
    refine SX.skip rfl ?_
    refine SX.skip rfl ?_
    refine SX.skipU rfl ?_
    refine SX.skipU rfl ?_
    refine SX.skipU rfl ?_
    refine SX.skipU rfl ?_
    refine SX.skipU rfl ?_
    refine SX.skip rfl ?_
    refine s_pickT 187 rfl rfl rfl ?_
    refine s_as 21 rfl rfl ?_
    refine SX.next ?_
    refine CW.seq ?_
    refine CW.reg [0, 1, 2, 3, 4, 5, 6, 7, 8, 9, 10, 11, 12, 13, 14, 15, 16, 17, 18, 19, 20, 21, 22, 23, 24, 25, 26, 27, 28] rfl ?_   -- 16, law.go:56
    refine s_mv 188 rfl rfl ?_
    refine s_mv 189 rfl rfl ?_
    refine SX.skip rfl ?_
    refine SX.skip rfl ?_
    refine SX.skip rfl ?_
    refine s_pickF 193 rfl rfl rfl ?_
    refine s_mv 194 rfl rfl ?_
    refine SX.skip rfl ?_
    refine SX.skip rfl ?_
    refine s_pickF 197 rfl rfl rfl ?_
    refine s_mv 198 rfl rfl ?_
    refine s_mv 199 rfl rfl ?_
    refine s_not 200 rfl rfl ?_
    refine s_mv 201 rfl rfl ?_
    refine s_mv 202 rfl rfl ?_
    refine s_eqNN 203 rfl rfl ?_
    refine s_pickT 204 rfl rfl rfl ?_
    refine s_mv 205 rfl rfl ?_
    refine s_mv 206 rfl rfl ?_
    refine s_mv 207 rfl rfl ?_
    refine s_mv 208 rfl rfl ?_
    refine s_mv 209 rfl rfl ?_
    refine s_mv 210 rfl rfl ?_
    refine s_call1 211 rfl rfl rfl rfl (fun w hw => rinv_spec _ _ _ hm h1) (fun _ _ => trivial) ?_
    refine s_call1 212 rfl rfl rfl rfl (fun w hw => (by have := rmul_spec (mkm 10 ((k : Nat) : Int)) a1 (inv (mkm 10 ((k : Nat) : Int)) (lo (mkm 10 ((k : Nat) : Int)) a2) : Nat) w hm; rw [lo_nat (inv_lt hm _)] at this; exact this)) (fun _ _ => trivial) ?_
    refine s_eq 213 rfl rfl rfl (decide_eq_true rfl) ?_
    refine s_pickT 214 rfl rfl rfl ?_
    refine s_pickF 215 rfl rfl rfl ?_
    refine s_as 22 rfl rfl ?_
    refine SX.next ?_
    refine CW.seq ?_
    refine CW.reg [0, 1, 2, 3, 4, 5, 6, 7] rfl ?_   -- 17, law.go:57
    refine s_mv 216 rfl rfl ?_
    refine s_mv 217 rfl rfl ?_
    refine s_mv 218 rfl rfl ?_
    refine s_pickT 219 rfl rfl rfl ?_
    refine s_mv 220 rfl rfl ?_
    refine s_mv 221 rfl rfl ?_
    refine s_pickT 222 rfl rfl rfl ?_
    refine s_as 8 rfl rfl ?_
    refine SX.next ?_
    refine CW.ret ?_
    exact KN.ret (rs := [.tmp 8]) Tryd.results8 rfl (fun w hw => ⟨rfl, hw.nothing⟩)
  · skip
    refine SX.skip rfl ?_
    refine SX.skip rfl ?_
    refine SX.skip rfl ?_
    refine SX.skip rfl ?_
    refine SX.skip rfl ?_
    refine s_pickF 160 rfl rfl rfl ?_
    refine s_eqB 161 rfl rfl rfl (isB (of_decide_eq_false hb)) ?_
    refine s_pickT 162 rfl rfl rfl ?_
    refine s_as 20 rfl rfl ?_
    refine SX.next ?_
    refine CW.seq ?_
    refine CW.reg [0, 1, 2, 3, 4, 5, 6, 7, 8, 9, 10, 11, 12, 13, 14, 15, 16, 17, 18, 19, 20, 21, 22, 23, 24, 25] rfl ?_   -- 15, law.go:55
    refine s_mv 163 rfl rfl ?_
    refine s_mv 164 rfl rfl ?_
    refine s_mv 165 rfl rfl ?_
    refine s_ld 166 rfl rfl (fun _ h => h.cell (by assumption)) ?_
    refine s_eqE 167 rfl rfl rfl ?_
    refine s_pickT 168 rfl rfl rfl ?_
    refine s_mv 169 rfl rfl ?_
    refine s_mv 170 rfl rfl ?_
    refine s_eq 171 rfl rfl rfl (decide_eq_true rfl) ?_
    refine s_pickT 172 rfl rfl rfl ?_
    refine s_mv 173 rfl rfl ?_
    refine SX.skip rfl ?_
    refine SX.skip rfl ?_
    refine SX.skip rfl ?_
    refine SX.skipU rfl ?_
    refine SX.skipU rfl ?_
    refine SX.skip rfl ?_
    refine SX.skip rfl ?_
    refine SX.skipU rfl ?_
    refine SX.skipU rfl ?_
    refine SX.skipU rfl ?_
    refine SX.skipU rfl ?_
    refine SX.skipU rfl ?_
    refine SX.skip rfl ?_
    refine s_pickT 187 rfl rfl rfl ?_
    refine s_as 21 rfl rfl ?_
    refine SX.next ?_
    refine CW.seq ?_
    refine CW.reg [0, 1, 2, 3, 4, 5, 6, 7, 8, 9, 10, 11, 12, 13, 14, 15, 16, 17, 18, 19, 20, 21, 22, 23, 24, 25, 26, 27, 28] rfl ?_   -- 16, law.go:56
    refine s_mv 188 rfl rfl ?_
    refine s_mv 189 rfl rfl ?_
    refine SX.skip rfl ?_
    refine SX.skip rfl ?_
    refine SX.skip rfl ?_
    refine s_pickF 193 rfl rfl rfl ?_
    refine s_mv 194 rfl rfl ?_
    refine SX.skip rfl ?_
    refine SX.skip rfl ?_
    refine s_pickF 197 rfl rfl rfl ?_
    refine s_mv 198 rfl rfl ?_
    refine s_mv 199 rfl rfl ?_
    refine s_not 200 rfl rfl ?_
    refine s_mv 201 rfl rfl ?_
    refine s_mv 202 rfl rfl ?_
    refine s_eqNN 203 rfl rfl ?_
    refine s_pickT 204 rfl rfl rfl ?_
    refine s_mv 205 rfl rfl ?_
    refine s_mv 206 rfl rfl ?_
    refine s_mv 207 rfl rfl ?_
    refine s_mv 208 rfl rfl ?_
    refine s_mv 209 rfl rfl ?_
    refine s_mv 210 rfl rfl ?_
    refine s_call1 211 rfl rfl rfl rfl (fun w hw => rinv_spec _ _ _ hm h1) (fun _ _ => trivial) ?_
    refine s_call1 212 rfl rfl rfl rfl (fun w hw => (by have := rmul_spec (mkm 10 ((k : Nat) : Int)) a1 (inv (mkm 10 ((k : Nat) : Int)) (lo (mkm 10 ((k : Nat) : Int)) a2) : Nat) w hm; rw [lo_nat (inv_lt hm _)] at this; exact this)) (fun _ _ => trivial) ?_
    refine s_eq 213 rfl rfl rfl (decide_eq_true rfl) ?_
    refine s_pickT 214 rfl rfl rfl ?_
    refine s_pickF 215 rfl rfl rfl ?_
    refine s_as 22 rfl rfl ?_
    refine SX.next ?_
    refine CW.seq ?_
    refine CW.reg [0, 1, 2, 3, 4, 5, 6, 7] rfl ?_   -- 17, law.go:57
    refine s_mv 216 rfl rfl ?_
    refine s_mv 217 rfl rfl ?_
    refine s_mv 218 rfl rfl ?_
    refine s_pickT 219 rfl rfl rfl ?_
    refine s_mv 220 rfl rfl ?_
    refine s_mv 221 rfl rfl ?_
    refine s_pickT 222 rfl rfl rfl ?_
    refine s_as 8 rfl rfl ?_
    refine SX.next ?_
    refine CW.ret ?_
    exact KN.ret (rs := [.tmp 8]) Tryd.results8 rfl (fun w hw => ⟨rfl, hw.nothing⟩)

theorem says_001 (k : Nat) (hk : Ok k) (a1 a2 a3 : Int) (e : Nat → Addr) (w : World) (hz : Er e w 0) (hfe : Er e w 1) (h0 : lo (mkm 10 ((k : Nat) : Int)) a1 ≠ 0) (h1 : lo (mkm 10 ((k : Nat) : Int)) a2 = 0) : Spec1 Tryd.prog 8 [.int .i64 ((k : Nat) : Int), .int .i64 a1, .int .i64 a2, .int .i64 a3] w (.bool true) := by
  have hm := mkm_ok (k := 10) (by omega) (by omega) ((k : Nat) : Int)
  have hk1 := hk.lo
  have hk2 := hk.hi
  refine spec_of Tryd.func8 rfl Tryd.ntmps8 rfl ?_
  refine CW.seq ?_
  refine CW.reg [0] rfl ?_   -- 0, law.go:37
  refine s_as 8 rfl rfl ?_
  refine SX.next ?_
  refine CW.seq ?_
  refine CW.reg [0, 1] rfl ?_   -- 1, law.go:38
  refine s_call1 23 rfl rfl rfl rfl (fun w hw => first_spec e _ (hw.er hz) (hw.er hfe)) (fun _ _ => trivial) ?_
  refine s_as 9 rfl rfl ?_
  refine SX.next ?_
  refine CW.seq ?_
  refine CW.seq ?_
  refine CW.reg [0, 1, 2, 3, 4, 5, 6, 7, 8] rfl ?_   -- 2, law.go:39
  refine s_mv 24 rfl rfl ?_
  refine s_call1 25 rfl rfl rfl rfl (fun w hw => poly_any _ _) (fun _ _ => trivial) ?_
  refine s_mv 26 rfl rfl ?_
  refine s_call1 27 rfl rfl rfl rfl (fun w hw => rpoly_any _ _) (fun _ _ => trivial) ?_
  refine s_ne 28 rfl rfl rfl (decide_eq_false (fun h => h rfl)) ?_
  refine s_mv 29 rfl rfl ?_
  refine s_mv 30 rfl rfl ?_
  refine s_not 31 rfl rfl ?_
  refine s_pickF 32 rfl rfl rfl ?_
  refine SX.next ?_
  refine CW.condF rfl ?_
  refine CW.skip ?_
  refine KN.code ?_
  refine CW.seq ?_
  refine CW.reg [0, 1, 2, 3, 4, 5, 6] rfl ?_   -- 4, law.go:42
  refine s_mv 34 rfl rfl ?_
  refine s_call 35 rfl rfl rfl rfl (fun w hw => new_spec k w hk) (fun _ _ => trivial) (fun g0 _ => ?_)
  refine s_mv 33 rfl rfl ?_
  refine s_ext 36 rfl rfl rfl ?_
  refine s_ext 37 rfl rfl rfl ?_
  refine s_as 10 rfl rfl ?_
  refine s_as 11 rfl rfl ?_
  refine SX.next ?_
  refine CW.seq ?_
  refine CW.seq ?_
  refine CW.reg [0, 1, 2, 3, 4, 5, 6, 7, 8, 9, 10, 11, 12, 13, 14, 15, 16, 17] rfl ?_   -- 5, law.go:43
  refine s_mv 38 rfl rfl ?_
  refine s_eqNN 39 rfl rfl ?_
  refine s_mv 40 rfl rfl ?_
  refine s_ge 41 rfl rfl rfl (decide_eq_true (by omega)) ?_
  refine s_mv 42 rfl rfl ?_
  refine s_mv 43 rfl rfl ?_
  refine s_le 44 rfl rfl rfl (decide_eq_true (by omega)) ?_
  refine s_pickT 45 rfl rfl rfl ?_
  refine s_neB 46 rfl rfl rfl rfl ?_
  refine s_mv 47 rfl rfl ?_
  refine s_mv 48 rfl rfl ?_
  refine s_neNN 49 rfl rfl ?_
  refine s_mv 50 rfl rfl ?_
  refine SX.skip rfl ?_
  refine SX.skip rfl ?_
  refine SX.skip rfl ?_
  refine s_pickF 54 rfl rfl rfl ?_
  refine s_pickF 55 rfl rfl rfl ?_
  refine SX.next ?_
  refine CW.condF rfl ?_
  refine CW.skip ?_
  refine KN.code ?_
  refine CW.seq ?_
  refine CW.reg [0, 1, 2, 3, 4, 5, 6] rfl ?_   -- 7, law.go:46
  refine s_mv 57 rfl rfl ?_
  refine s_call 58 rfl rfl rfl rfl (fun w hw => made_spec _ w) (fun _ _ => trivial) (fun g _ => ?_)
  refine s_mv 56 rfl rfl ?_
  refine s_ext 59 rfl rfl rfl ?_
  refine s_ext 60 rfl rfl rfl ?_
  refine s_as 12 rfl rfl ?_
  refine s_as 13 rfl rfl ?_
  refine SX.next ?_
  refine CW.seq ?_
  refine CW.seq ?_
  refine CW.reg [0, 1, 2, 3, 4, 5, 6, 7, 8, 9, 10, 11, 12, 13, 14, 15] rfl ?_   -- 8, law.go:47
  refine s_mv 61 rfl rfl ?_
  refine s_eqPN 62 rfl rfl ?_
  refine s_mv 63 rfl rfl ?_
  refine s_mv 64 rfl rfl ?_
  refine s_call1 65 rfl rfl rfl rfl (fun w hw => m_spec g _ _ hm (hw.has (i := 0) rfl)) (fun _ _ => trivial) ?_
  refine s_mv 66 rfl rfl ?_
  refine s_ne 67 rfl rfl rfl (decide_eq_false (fun h => h rfl)) ?_
  refine s_pickF 68 rfl rfl rfl ?_
  refine s_mv 69 rfl rfl ?_
  refine s_mv 70 rfl rfl ?_
  refine s_call1 71 rfl rfl rfl rfl (fun w hw => size_spec g _ _ hm (hw.has (i := 0) rfl)) (fun _ _ => trivial) ?_
  refine s_mv 72 rfl rfl ?_
  refine s_conv 73 rfl rfl (u64_nat hm) ?_
  refine s_shl 74 rfl rfl rfl (by omega) (shl_one hm) ?_
  refine s_ne 75 rfl rfl rfl (decide_eq_false (fun h => h rfl)) ?_
  refine s_pickF 76 rfl rfl rfl ?_
  refine SX.next ?_
  refine CW.condF rfl ?_
  refine CW.skip ?_
  refine KN.code ?_
  refine CW.seq ?_
  refine CW.reg [0, 1, 2, 3, 4, 5, 6, 7] rfl ?_   -- 10, law.go:50
  refine s_mv 78 rfl rfl ?_
  refine s_mv 79 rfl rfl ?_
  refine s_call1 80 rfl rfl rfl rfl (fun w hw => inv_spec g _ _ _ hm (hw.has (i := 0) rfl) h0) (fun _ _ => trivial) ?_
  refine s_mv 77 rfl rfl ?_
  refine s_ext 81 rfl rfl rfl ?_
  refine s_ext 82 rfl rfl rfl ?_
  refine s_as 14 rfl rfl ?_
  refine s_as 15 rfl rfl ?_
  refine SX.next ?_
  refine CW.seq ?_
  refine CW.reg [0, 1, 2, 3, 4, 5, 6, 7, 8] rfl ?_   -- 11, law.go:51
  refine s_mv 84 rfl rfl ?_
  refine s_mv 85 rfl rfl ?_
  refine s_mv 86 rfl rfl ?_
  refine s_call1 87 rfl rfl rfl rfl (fun w hw => div_zero g _ _ _ e _ hm (hw.has (i := 0) rfl) (hw.er hz) h1) (fun _ _ => trivial) ?_
  refine s_mv 83 rfl rfl ?_
  refine s_ext 88 rfl rfl rfl ?_
  refine s_ext 89 rfl rfl rfl ?_
  refine s_as 16 rfl rfl ?_
  refine s_as 17 rfl rfl ?_
  refine SX.next ?_
  refine CW.seq ?_
  refine CW.reg [0, 1, 2, 3, 4] rfl ?_   -- 12, law.go:52
  refine s_mv 90 rfl rfl ?_
  refine s_mv 91 rfl rfl ?_
  refine s_call1 92 rfl rfl rfl rfl (fun w hw => rlow_spec _ _ _ hm) (fun _ _ => trivial) ?_
  refine s_eq 93 rfl rfl rfl (decide_eq_false (by omega)) ?_
  refine s_as 18 rfl rfl ?_
  refine SX.next ?_
  refine CW.seq ?_
  refine CW.reg [0, 1, 2, 3, 4] rfl ?_   -- 13, law.go:53
  refine s_mv 94 rfl rfl ?_
  refine s_mv 95 rfl rfl ?_
  refine s_call1 96 rfl rfl rfl rfl (fun w hw => rlow_spec _ _ _ hm) (fun _ _ => trivial) ?_
  refine s_eq 97 rfl rfl rfl (decide_eq_true (by omega)) ?_
  refine s_as 19 rfl rfl ?_
  refine SX.next ?_
  refine CW.seq ?_
  refine CW.reg [0, 1, 2, 3, 4, 5, 6, 7, 8, 9, 10, 11, 12, 13, 14, 15, 16, 17, 18, 19, 20, 21, 22, 23, 24, 25, 26, 27, 28, 29, 30, 31, 32, 33, 34, 35, 36, 37, 38, 39, 40, 41, 42, 43, 44, 45, 46, 47, 48, 49, 50, 51, 52, 53, 54, 55, 56, 57, 58, 59, 60, 61, 62, 63, 64, 65] rfl ?_   -- 14, law.go:54
  refine s_mv 98 rfl rfl ?_
  refine s_mv 99 rfl rfl ?_
  refine s_mv 100 rfl rfl ?_
  refine s_call1 101 rfl rfl rfl rfl (fun w hw => add_spec g _ _ _ _ hm (hw.has (i := 0) rfl)) (fun _ _ => trivial) ?_
  refine s_mv 102 rfl rfl ?_
  refine s_mv 103 rfl rfl ?_
  refine s_mv 104 rfl rfl ?_
  refine s_bit 105 rfl rfl rfl rfl rfl ?_
  refine s_call1 106 rfl rfl rfl rfl (fun w hw => rlow_spec _ _ _ hm) (fun _ _ => trivial) ?_
  refine s_eq 107 rfl rfl rfl (decide_eq_true (cst (lo_xor hm _ _).symm)) ?_
  refine s_mv 108 rfl rfl ?_
  refine s_mv 109 rfl rfl ?_
  refine s_mv 110 rfl rfl ?_
  refine s_mv 111 rfl rfl ?_
  refine s_call1 112 rfl rfl rfl rfl (fun w hw => mul_spec g _ _ _ _ hm (hw.has (i := 0) rfl)) (fun _ _ => trivial) ?_
  refine s_mv 113 rfl rfl ?_
  refine s_mv 114 rfl rfl ?_
  refine s_mv 115 rfl rfl ?_
  refine s_call1 116 rfl rfl rfl rfl (fun w hw => rmul_spec _ _ _ _ hm) (fun _ _ => trivial) ?_
  refine s_eq 117 rfl rfl rfl (decide_eq_true rfl) ?_
  refine s_pickT 118 rfl rfl rfl ?_
  refine s_mv 119 rfl rfl ?_
  refine s_mv 120 rfl rfl ?_
  refine s_mv 121 rfl rfl ?_
  refine s_mv 122 rfl rfl ?_
  refine s_call1 123 rfl rfl rfl rfl (fun w hw => pow_spec g _ _ _ e _ hm (hw.has (i := 0) rfl) (hw.er hz)) (fun _ _ => trivial) ?_
  refine s_mv 124 rfl rfl ?_
  refine s_mv 125 rfl rfl ?_
  refine s_mv 126 rfl rfl ?_
  refine s_call1 127 rfl rfl rfl rfl (fun w hw => rpow_spec _ _ _ _ hm) (fun _ _ => trivial) ?_
  refine s_eq 128 rfl rfl rfl (decide_eq_true rfl) ?_
  refine s_pickT 129 rfl rfl rfl ?_
  refine s_mv 130 rfl rfl ?_
  refine s_mv 131 rfl rfl ?_
  refine s_mv 132 rfl rfl ?_
  refine s_call1 133 rfl rfl rfl rfl (fun w hw => exp_spec g _ _ _ hm (hw.has (i := 0) rfl)) (fun _ _ => trivial) ?_
  refine s_mv 134 rfl rfl ?_
  refine s_mv 135 rfl rfl ?_
  refine s_call1 136 rfl rfl rfl rfl (fun w hw => rexp_spec _ _ _ hm) (fun _ _ => trivial) ?_
  refine s_eq 137 rfl rfl rfl (decide_eq_true rfl) ?_
  refine s_pickT 138 rfl rfl rfl ?_
  refine s_mv 139 rfl rfl ?_
  refine s_mv 140 rfl rfl ?_
  refine s_mv 141 rfl rfl ?_
  refine s_call1 142 rfl rfl rfl rfl (fun w hw => trace_spec g _ _ _ hm (hw.has (i := 0) rfl)) (fun _ _ => trivial) ?_
  refine s_mv 143 rfl rfl ?_
  refine s_mv 144 rfl rfl ?_
  refine s_call1 145 rfl rfl rfl rfl (fun w hw => rtrace_spec _ _ _ hm) (fun _ _ => trivial) ?_
  refine s_eq 146 rfl rfl rfl (decide_eq_true rfl) ?_
  refine s_pickT 147 rfl rfl rfl ?_
  refine s_mv 148 rfl rfl ?_
  refine s_mv 149 rfl rfl ?_
  refine s_mv 150 rfl rfl ?_
  refine s_call1 151 rfl rfl rfl rfl (fun w hw => is_spec g _ _ _ hm (hw.has (i := 0) rfl)) (fun _ _ => trivial) ?_
  refine s_mv 152 rfl rfl ?_
  refine s_ge 153 rfl rfl rfl rfl ?_
  refine s_mv 154 rfl rfl ?_
  refine SX.bool 154 rfl (fun hb => ?_) (fun hb => ?_)
  · skip
    refine s_mv 155 rfl rfl ?_
    refine s_mv 156 rfl rfl ?_
    refine s_conv 157 rfl rfl (u64_nat hm) ?_
    refine s_shl 158 rfl rfl rfl (by omega) (shl_one hm) ?_
    refine s_lt 159 rfl rfl rfl rfl ?_
    refine s_pickT 160 rfl rfl rfl ?_
    refine s_eqB 161 rfl rfl rfl (isA (of_decide_eq_true hb)) ?_
    refine s_pickT 162 rfl rfl rfl ?_
    refine s_as 20 rfl rfl ?_
    refine SX.next ?_
    refine CW.seq ?_
    refine CW.reg [0, 1, 2, 3, 4, 5, 6, 7, 8, 9, 10, 11, 12, 13, 14, 15, 16, 17, 18, 19, 20, 21, 22, 23, 24, 25] rfl ?_   -- 15, law.go:55
    refine s_mv 163 rfl rfl ?_
    refine s_mv 164 rfl rfl ?_
    refine SX.skip rfl ?_
    refine SX.skip rfl ?_
    refine SX.skip rfl ?_
    refine s_pickF 168 rfl rfl rfl ?_
    refine s_mv 169 rfl rfl ?_
    refine SX.skip rfl ?_
    refine SX.skip rfl ?_
    refine s_pickF 172 rfl rfl rfl ?_
    refine s_mv 173 rfl rfl ?_
    refine s_mv 174 rfl rfl ?_
    refine s_not 175 rfl rfl ?_
    refine s_mv 176 rfl rfl ?_
    refine s_mv 177 rfl rfl ?_
    refine s_eqNN 178 rfl rfl ?_
    refine s_pickT 179 rfl rfl rfl ?_
    refine s_mv 180 rfl rfl ?_
    refine s_mv 181 rfl rfl ?_
    refine s_mv 182 rfl rfl ?_
    refine s_mv 183 rfl rfl ?_
    refine s_call1 184 rfl rfl rfl rfl (fun w hw => rinv_spec _ _ _ hm h0) (fun _ _ => trivial) ?_
    refine s_eq 185 rfl rfl rfl (decide_eq_true rfl) ?_
    refine s_pickT 186 rfl rfl rfl ?_
    refine s_pickF 187 rfl rfl rfl ?_
    refine s_as 21 rfl rfl ?_
    refine SX.next ?_
    refine CW.seq ?_
    refine CW.reg [0, 1, 2, 3, 4, 5, 6, 7, 8, 9, 10, 11, 12, 13, 14, 15, 16, 17, 18, 19, 20, 21, 22, 23, 24, 25, 26, 27, 28] rfl ?_   -- 16, law.go:56
    refine s_mv 188 rfl rfl ?_
    refine s_mv 189 rfl rfl ?_
    refine s_mv 190 rfl rfl ?_
    refine s_ld 191 rfl rfl (fun _ h => h.cell (by assumption)) ?_
    refine s_eqE 192 rfl rfl rfl ?_
    refine s_pickT 193 rfl rfl rfl ?_
    refine s_mv 194 rfl rfl ?_
    refine s_mv 195 rfl rfl ?_
    refine s_eq 196 rfl rfl rfl (decide_eq_true rfl) ?_
    refine s_pickT 197 rfl rfl rfl ?_
    refine s_mv 198 rfl rfl ?_
    refine SX.skip rfl ?_
    refine SX.skip rfl ?_
    refine SX.skip rfl ?_
    refine SX.skipU rfl ?_
    refine SX.skipU rfl ?_
    refine SX.skip rfl ?_
    refine SX.skip rfl ?_
    refine SX.skipU rfl ?_
    refine SX.skipU rfl ?_
    refine SX.skipU rfl ?_
    refine SX.skipU rfl ?_
    refine SX.skipU rfl ?_
    refine SX.skipU rfl ?_
    refine SX.skipU rfl ?_
    refine SX.skipU rfl ?_
    refine SX.skip rfl ?_
    refine s_pickT 215 rfl rfl rfl ?_
    refine s_as 22 rfl rfl ?_
    refine SX.next ?_
    refine CW.seq ?_
    refine CW.reg [0, 1, 2, 3, 4, 5, 6, 7] rfl ?_   -- 17, law.go:57
    refine s_mv 216 rfl rfl ?_
    refine s_mv 217 rfl rfl ?_
    refine s_mv 218 rfl rfl ?_
    refine s_pickT 219 rfl rfl rfl ?_
    refine s_mv 220 rfl rfl ?_
    refine s_mv 221 rfl rfl ?_
    refine s_pickT 222 rfl rfl rfl ?_
    refine s_as 8 rfl rfl ?_
    refine SX.next ?_
    refine CW.ret ?_
    exact KN.ret (rs := [.tmp 8]) Tryd.results8 rfl (fun w hw => ⟨rfl, hw.nothing⟩)
  · skip
    refine SX.skip rfl ?_
    refine SX.skip rfl ?_
    refine SX.skip rfl ?_
    refine SX.skip rfl ?_
    refine SX.skip rfl ?_
    refine s_pickF 160 rfl rfl rfl ?_
    refine s_eqB 161 rfl rfl rfl (isB (of_decide_eq_false hb)) ?_
    refine s_pickT 162 rfl rfl rfl ?_
    refine s_as 20 rfl rfl ?_
    refine SX.next ?_
    refine CW.seq ?_
    refine CW.reg [0, 1, 2, 3, 4, 5, 6, 7, 8, 9, 10, 11, 12, 13, 14, 15, 16, 17, 18, 19, 20, 21, 22, 23, 24, 25] rfl ?_   -- 15, law.go:55
    refine s_mv 163 rfl rfl ?_
    refine s_mv 164 rfl rfl ?_
    refine SX.skip rfl ?_
    refine SX.skip rfl ?_
    refine SX.skip rfl ?_
    refine s_pickF 168 rfl rfl rfl ?_
    refine s_mv 169 rfl rfl ?_
    refine SX.skip rfl ?_
    refine SX.skip rfl ?_
    refine s_pickF 172 rfl rfl rfl ?_
    refine s_mv 173 rfl rfl ?_
    refine s_mv 174 rfl rfl ?_
    refine s_not 175 rfl rfl ?_
    refine s_mv 176 rfl rfl ?_
    refine s_mv 177 rfl rfl ?_
    refine s_eqNN 178 rfl rfl ?_
    refine s_pickT 179 rfl rfl rfl ?_
    refine s_mv 180 rfl rfl ?_
    refine s_mv 181 rfl rfl ?_
    refine s_mv 182 rfl rfl ?_
    refine s_mv 183 rfl rfl ?_
    refine s_call1 184 rfl rfl rfl rfl (fun w hw => rinv_spec _ _ _ hm h0) (fun _ _ => trivial) ?_
    refine s_eq 185 rfl rfl rfl (decide_eq_true rfl) ?_
    refine s_pickT 186 rfl rfl rfl ?_
    refine s_pickF 187 rfl rfl rfl ?_
    refine s_as 21 rfl rfl ?_
    refine SX.next ?_
    refine CW.seq ?_
    refine CW.reg [0, 1, 2, 3, 4, 5, 6, 7, 8, 9, 10, 11, 12, 13, 14, 15, 16, 17, 18, 19, 20, 21, 22, 23, 24, 25, 26, 27, 28] rfl ?_   -- 16, law.go:56
    refine s_mv 188 rfl rfl ?_
    refine s_mv 189 rfl rfl ?_
    refine s_mv 190 rfl rfl ?_
    refine s_ld 191 rfl rfl (fun _ h => h.cell (by assumption)) ?_
    refine s_eqE 192 rfl rfl rfl ?_
    refine s_pickT 193 rfl rfl rfl ?_
    refine s_mv 194 rfl rfl ?_
    refine s_mv 195 rfl rfl ?_
    refine s_eq 196 rfl rfl rfl (decide_eq_true rfl) ?_
    refine s_pickT 197 rfl rfl rfl ?_
    refine s_mv 198 rfl rfl ?_
    refine SX.skip rfl ?_
    refine SX.skip rfl ?_
    refine SX.skip rfl ?_
    refine SX.skipU rfl ?_
    refine SX.skipU rfl ?_
    refine SX.skip rfl ?_
    refine SX.skip rfl ?_
    refine SX.skipU rfl ?_
    refine SX.skipU rfl ?_
    refine SX.skipU rfl ?_
    refine SX.skipU rfl ?_
    refine SX.skipU rfl ?_
    refine SX.skipU rfl ?_
    refine SX.skipU rfl ?_
    refine SX.skipU rfl ?_
    refine SX.skip rfl ?_
    refine s_pickT 215 rfl rfl rfl ?_
    refine s_as 22 rfl rfl ?_
    refine SX.next ?_
    refine CW.seq ?_
    refine CW.reg [0, 1, 2, 3, 4, 5, 6, 7] rfl ?_   -- 17, law.go:57
    refine s_mv 216 rfl rfl ?_
    refine s_mv 217 rfl rfl ?_
    refine s_mv 218 rfl rfl ?_
    refine s_pickT 219 rfl rfl rfl ?_
    refine s_mv 220 rfl rfl ?_
    refine s_mv 221 rfl rfl ?_
    refine s_pickT 222 rfl rfl rfl ?_
    refine s_as 8 rfl rfl ?_
    refine SX.next ?_
    refine CW.ret ?_
    exact KN.ret (rs := [.tmp 8]) Tryd.results8 rfl (fun w hw => ⟨rfl, hw.nothing⟩)

theorem says_000 (k : Nat) (hk : Ok k) (a1 a2 a3 : Int) (e : Nat → Addr) (w : World) (hz : Er e w 0) (hfe : Er e w 1) (h0 : lo (mkm 10 ((k : Nat) : Int)) a1 ≠ 0) (h1 : lo (mkm 10 ((k : Nat) : Int)) a2 ≠ 0) : Spec1 Tryd.prog 8 [.int .i64 ((k : Nat) : Int), .int .i64 a1, .int .i64 a2, .int .i64 a3] w (.bool true) := by
  have hm := mkm_ok (k := 10) (by omega) (by omega) ((k : Nat) : Int)
  have hk1 := hk.lo
  have hk2 := hk.hi
  refine spec_of Tryd.func8 rfl Tryd.ntmps8 rfl ?_
  refine CW.seq ?_
  refine CW.reg [0] rfl ?_   -- 0, law.go:37
  refine s_as 8 rfl rfl ?_
  refine SX.next ?_
  refine CW.seq ?_
  refine CW.reg [0, 1] rfl ?_   -- 1, law.go:38
  refine s_call1 23 rfl rfl rfl rfl (fun w hw => first_spec e _ (hw.er hz) (hw.er hfe)) (fun _ _ => trivial) ?_
  refine s_as 9 rfl rfl ?_
  refine SX.next ?_
  refine CW.seq ?_
  refine CW.seq ?_
  refine CW.reg [0, 1, 2, 3, 4, 5, 6, 7, 8] rfl ?_   -- 2, law.go:39
  refine s_mv 24 rfl rfl ?_
  refine s_call1 25 rfl rfl rfl rfl (fun w hw => poly_any _ _) (fun _ _ => trivial) ?_
  refine s_mv 26 rfl rfl ?_
  refine s_call1 27 rfl rfl rfl rfl (fun w hw => rpoly_any _ _) (fun _ _ => trivial) ?_
  refine s_ne 28 rfl rfl rfl (decide_eq_false (fun h => h rfl)) ?_
  refine s_mv 29 rfl rfl ?_
  refine s_mv 30 rfl rfl ?_
  refine s_not 31 rfl rfl ?_
  refine s_pickF 32 rfl rfl rfl ?_
  refine SX.next ?_
  refine CW.condF rfl ?_
  refine CW.skip ?_
  refine KN.code ?_
  refine CW.seq ?_
  refine CW.reg [0, 1, 2, 3, 4, 5, 6] rfl ?_   -- 4, law.go:42
  refine s_mv 34 rfl rfl ?_
  refine s_call 35 rfl rfl rfl rfl (fun w hw => new_spec k w hk) (fun _ _ => trivial) (fun g0 _ => ?_)
  refine s_mv 33 rfl rfl ?_
  refine s_ext 36 rfl rfl rfl ?_
  refine s_ext 37 rfl rfl rfl ?_
  refine s_as 10 rfl rfl ?_
  refine s_as 11 rfl rfl ?_
  refine SX.next ?_
  refine CW.seq ?_
  refine CW.seq ?_
  refine CW.reg [0, 1, 2, 3, 4, 5, 6, 7, 8, 9, 10, 11, 12, 13, 14, 15, 16, 17] rfl ?_   -- 5, law.go:43
  refine s_mv 38 rfl rfl ?_
  refine s_eqNN 39 rfl rfl ?_
  refine s_mv 40 rfl rfl ?_
  refine s_ge 41 rfl rfl rfl (decide_eq_true (by omega)) ?_
  refine s_mv 42 rfl rfl ?_
  refine s_mv 43 rfl rfl ?_
  refine s_le 44 rfl rfl rfl (decide_eq_true (by omega)) ?_
  refine s_pickT 45 rfl rfl rfl ?_
  refine s_neB 46 rfl rfl rfl rfl ?_
  refine s_mv 47 rfl rfl ?_
  refine s_mv 48 rfl rfl ?_
  refine s_neNN 49 rfl rfl ?_
  refine s_mv 50 rfl rfl ?_
  refine SX.skip rfl ?_
  refine SX.skip rfl ?_
  refine SX.skip rfl ?_
  refine s_pickF 54 rfl rfl rfl ?_
  refine s_pickF 55 rfl rfl rfl ?_
  refine SX.next ?_
  refine CW.condF rfl ?_
  refine CW.skip ?_
  refine KN.code ?_
  refine CW.seq ?_
  refine CW.reg [0, 1, 2, 3, 4, 5, 6] rfl ?_   -- 7, law.go:46
  refine s_mv 57 rfl rfl ?_
  refine s_call 58 rfl rfl rfl rfl (fun w hw => made_spec _ w) (fun _ _ => trivial) (fun g _ => ?_)
  refine s_mv 56 rfl rfl ?_
  refine s_ext 59 rfl rfl rfl ?_
  refine s_ext 60 rfl rfl rfl ?_
  refine s_as 12 rfl rfl ?_
  refine s_as 13 rfl rfl ?_
  refine SX.next ?_
  refine CW.seq ?_
  refine CW.seq ?_
  refine CW.reg [0, 1, 2, 3, 4, 5, 6, 7, 8, 9, 10, 11, 12, 13, 14, 15] rfl ?_   -- 8, law.go:47
  refine s_mv 61 rfl rfl ?_
  refine s_eqPN 62 rfl rfl ?_
  refine s_mv 63 rfl rfl ?_
  refine s_mv 64 rfl rfl ?_
  refine s_call1 65 rfl rfl rfl rfl (fun w hw => m_spec g _ _ hm (hw.has (i := 0) rfl)) (fun _ _ => trivial) ?_
  refine s_mv 66 rfl rfl ?_
  refine s_ne 67 rfl rfl rfl (decide_eq_false (fun h => h rfl)) ?_
  refine s_pickF 68 rfl rfl rfl ?_
  refine s_mv 69 rfl rfl ?_
  refine s_mv 70 rfl rfl ?_
  refine s_call1 71 rfl rfl rfl rfl (fun w hw => size_spec g _ _ hm (hw.has (i := 0) rfl)) (fun _ _ => trivial) ?_
  refine s_mv 72 rfl rfl ?_
  refine s_conv 73 rfl rfl (u64_nat hm) ?_
  refine s_shl 74 rfl rfl rfl (by omega) (shl_one hm) ?_
  refine s_ne 75 rfl rfl rfl (decide_eq_false (fun h => h rfl)) ?_
  refine s_pickF 76 rfl rfl rfl ?_
  refine SX.next ?_
  refine CW.condF rfl ?_
  refine CW.skip ?_
  refine KN.code ?_
  refine CW.seq ?_
  refine CW.reg [0, 1, 2, 3, 4, 5, 6, 7] rfl ?_   -- 10, law.go:50
  refine s_mv 78 rfl rfl ?_
  refine s_mv 79 rfl rfl ?_
  refine s_call1 80 rfl rfl rfl rfl (fun w hw => inv_spec g _ _ _ hm (hw.has (i := 0) rfl) h0) (fun _ _ => trivial) ?_
  refine s_mv 77 rfl rfl ?_
  refine s_ext 81 rfl rfl rfl ?_
  refine s_ext 82 rfl rfl rfl ?_
  refine s_as 14 rfl rfl ?_
  refine s_as 15 rfl rfl ?_
  refine SX.next ?_
  refine CW.seq ?_
  refine CW.reg [0, 1, 2, 3, 4, 5, 6, 7, 8] rfl ?_   -- 11, law.go:51
  refine s_mv 84 rfl rfl ?_
  refine s_mv 85 rfl rfl ?_
  refine s_mv 86 rfl rfl ?_
  refine s_call1 87 rfl rfl rfl rfl (fun w hw => div_spec g _ _ _ _ hm (hw.has (i := 0) rfl) h1) (fun _ _ => trivial) ?_
  refine s_mv 83 rfl rfl ?_
  refine s_ext 88 rfl rfl rfl ?_
  refine s_ext 89 rfl rfl rfl ?_
  refine s_as 16 rfl rfl ?_
  refine s_as 17 rfl rfl ?_
  refine SX.next ?_
  refine CW.seq ?_
  refine CW.reg [0, 1, 2, 3, 4] rfl ?_   -- 12, law.go:52
  refine s_mv 90 rfl rfl ?_
  refine s_mv 91 rfl rfl ?_
  refine s_call1 92 rfl rfl rfl rfl (fun w hw => rlow_spec _ _ _ hm) (fun _ _ => trivial) ?_
  refine s_eq 93 rfl rfl rfl (decide_eq_false (by omega)) ?_
  refine s_as 18 rfl rfl ?_
  refine SX.next ?_
  refine CW.seq ?_
  refine CW.reg [0, 1, 2, 3, 4] rfl ?_   -- 13, law.go:53
  refine s_mv 94 rfl rfl ?_
  refine s_mv 95 rfl rfl ?_
  refine s_call1 96 rfl rfl rfl rfl (fun w hw => rlow_spec _ _ _ hm) (fun _ _ => trivial) ?_
  refine s_eq 97 rfl rfl rfl (decide_eq_false (by omega)) ?_
  refine s_as 19 rfl rfl ?_
  refine SX.next ?_
  refine CW.seq ?_
  refine CW.reg [0, 1, 2, 3, 4, 5, 6, 7, 8, 9, 10, 11, 12, 13, 14, 15, 16, 17, 18, 19, 20, 21, 22, 23, 24, 25, 26, 27, 28, 29, 30, 31, 32, 33, 34, 35, 36, 37, 38, 39, 40, 41, 42, 43, 44, 45, 46, 47, 48, 49, 50, 51, 52, 53, 54, 55, 56, 57, 58, 59, 60, 61, 62, 63, 64, 65] rfl ?_   -- 14, law.go:54
  refine s_mv 98 rfl rfl ?_
  refine s_mv 99 rfl rfl ?_
  refine s_mv 100 rfl rfl ?_
  refine s_call1 101 rfl rfl rfl rfl (fun w hw => add_spec g _ _ _ _ hm (hw.has (i := 0) rfl)) (fun _ _ => trivial) ?_
  refine s_mv 102 rfl rfl ?_
  refine s_mv 103 rfl rfl ?_
  refine s_mv 104 rfl rfl ?_
  refine s_bit 105 rfl rfl rfl rfl rfl ?_
  refine s_call1 106 rfl rfl rfl rfl (fun w hw => rlow_spec _ _ _ hm) (fun _ _ => trivial) ?_
  refine s_eq 107 rfl rfl rfl (decide_eq_true (cst (lo_xor hm _ _).symm)) ?_
  refine s_mv 108 rfl rfl ?_
  refine s_mv 109 rfl rfl ?_
  refine s_mv 110 rfl rfl ?_
  refine s_mv 111 rfl rfl ?_
  refine s_call1 112 rfl rfl rfl rfl (fun w hw => mul_spec g _ _ _ _ hm (hw.has (i := 0) rfl)) (fun _ _ => trivial) ?_
  refine s_mv 113 rfl rfl ?_
  refine s_mv 114 rfl rfl ?_
  refine s_mv 115 rfl rfl ?_
  refine s_call1 116 rfl rfl rfl rfl (fun w hw => rmul_spec _ _ _ _ hm) (fun _ _ => trivial) ?_
  refine s_eq 117 rfl rfl rfl (decide_eq_true rfl) ?_
  refine s_pickT 118 rfl rfl rfl ?_
  refine s_mv 119 rfl rfl ?_
  refine s_mv 120 rfl rfl ?_
  refine s_mv 121 rfl rfl ?_
  refine s_mv 122 rfl rfl ?_
  refine s_call1 123 rfl rfl rfl rfl (fun w hw => pow_spec g _ _ _ e _ hm (hw.has (i := 0) rfl) (hw.er hz)) (fun _ _ => trivial) ?_
  refine s_mv 124 rfl rfl ?_
  refine s_mv 125 rfl rfl ?_
  refine s_mv 126 rfl rfl ?_
  refine s_call1 127 rfl rfl rfl rfl (fun w hw => rpow_spec _ _ _ _ hm) (fun _ _ => trivial) ?_
  refine s_eq 128 rfl rfl rfl (decide_eq_true rfl) ?_
  refine s_pickT 129 rfl rfl rfl ?_
  refine s_mv 130 rfl rfl ?_
  refine s_mv 131 rfl rfl ?_
  refine s_mv 132 rfl rfl ?_
  refine s_call1 133 rfl rfl rfl rfl (fun w hw => exp_spec g _ _ _ hm (hw.has (i := 0) rfl)) (fun _ _ => trivial) ?_
  refine s_mv 134 rfl rfl ?_
  refine s_mv 135 rfl rfl ?_
  refine s_call1 136 rfl rfl rfl rfl (fun w hw => rexp_spec _ _ _ hm) (fun _ _ => trivial) ?_
  refine s_eq 137 rfl rfl rfl (decide_eq_true rfl) ?_
  refine s_pickT 138 rfl rfl rfl ?_
  refine s_mv 139 rfl rfl ?_
  refine s_mv 140 rfl rfl ?_
  refine s_mv 141 rfl rfl ?_
  refine s_call1 142 rfl rfl rfl rfl (fun w hw => trace_spec g _ _ _ hm (hw.has (i := 0) rfl)) (fun _ _ => trivial) ?_
  refine s_mv 143 rfl rfl ?_
  refine s_mv 144 rfl rfl ?_
  refine s_call1 145 rfl rfl rfl rfl (fun w hw => rtrace_spec _ _ _ hm) (fun _ _ => trivial) ?_
  refine s_eq 146 rfl rfl rfl (decide_eq_true rfl) ?_
  refine s_pickT 147 rfl rfl rfl ?_
  refine s_mv 148 rfl rfl ?_
  refine s_mv 149 rfl rfl ?_
  refine s_mv 150 rfl rfl ?_
  refine s_call1 151 rfl rfl rfl rfl (fun w hw => is_spec g _ _ _ hm (hw.has (i := 0) rfl)) (fun _ _ => trivial) ?_
  refine s_mv 152 rfl rfl ?_
  refine s_ge 153 rfl rfl rfl rfl ?_
  refine s_mv 154 rfl rfl ?_
  refine SX.bool 154 rfl (fun hb => ?_) (fun hb => ?_)
  · skip
    refine s_mv 155 rfl rfl ?_
    refine s_mv 156 rfl rfl ?_
    refine s_conv 157 rfl rfl (u64_nat hm) ?_
    refine s_shl 158 rfl rfl rfl (by omega) (shl_one hm) ?_
    refine s_lt 159 rfl rfl rfl rfl ?_
    refine s_pickT 160 rfl rfl rfl ?_
    refine s_eqB 161 rfl rfl rfl (isA (of_decide_eq_true hb)) ?_
    refine s_pickT 162 rfl rfl rfl ?_
    refine s_as 20 rfl rfl ?_
    refine SX.next ?_
    refine CW.seq ?_
    refine CW.reg [0, 1, 2, 3, 4, 5, 6, 7, 8, 9, 10, 11, 12, 13, 14, 15, 16, 17, 18, 19, 20, 21, 22, 23, 24, 25] rfl ?_   -- 15, law.go:55
    refine s_mv 163 rfl rfl ?_
    refine s_mv 164 rfl rfl ?_
    refine SX.skip rfl ?_
    refine SX.skip rfl ?_
    refine SX.skip rfl ?_
    refine s_pickF 168 rfl rfl rfl ?_
    refine s_mv 169 rfl rfl ?_
    refine SX.skip rfl ?_
    refine SX.skip rfl ?_
    refine s_pickF 172 rfl rfl rfl ?_
    refine s_mv 173 rfl rfl ?_
    refine s_mv 174 rfl rfl ?_
    refine s_not 175 rfl rfl ?_
    refine s_mv 176 rfl rfl ?_
    refine s_mv 177 rfl rfl ?_
    refine s_eqNN 178 rfl rfl ?_
    refine s_pickT 179 rfl rfl rfl ?_
    refine s_mv 180 rfl rfl ?_
    refine s_mv 181 rfl rfl ?_
    refine s_mv 182 rfl rfl ?_
    refine s_mv 183 rfl rfl ?_
    refine s_call1 184 rfl rfl rfl rfl (fun w hw => rinv_spec _ _ _ hm h0) (fun _ _ => trivial) ?_
    refine s_eq 185 rfl rfl rfl (decide_eq_true rfl) ?_
    refine s_pickT 186 rfl rfl rfl ?_
    refine s_pickF 187 rfl rfl rfl ?_
    refine s_as 21 rfl rfl ?_
    refine SX.next ?_
    refine CW.seq ?_
    refine CW.reg [0, 1, 2, 3, 4, 5, 6, 7, 8, 9, 10, 11, 12, 13, 14, 15, 16, 17, 18, 19, 20, 21, 22, 23, 24, 25, 26, 27, 28] rfl ?_   -- 16, law.go:56
    refine s_mv 188 rfl rfl ?_
    refine s_mv 189 rfl rfl ?_
    refine SX.skip rfl ?_
    refine SX.skip rfl ?_
    refine SX.skip rfl ?_
    refine s_pickF 193 rfl rfl rfl ?_
    refine s_mv 194 rfl rfl ?_
    refine SX.skip rfl ?_
    refine SX.skip rfl ?_
    refine s_pickF 197 rfl rfl rfl ?_
    refine s_mv 198 rfl rfl ?_
    refine s_mv 199 rfl rfl ?_
    refine s_not 200 rfl rfl ?_
    refine s_mv 201 rfl rfl ?_
    refine s_mv 202 rfl rfl ?_
    refine s_eqNN 203 rfl rfl ?_
    refine s_pickT 204 rfl rfl rfl ?_
    refine s_mv 205 rfl rfl ?_
    refine s_mv 206 rfl rfl ?_
    refine s_mv 207 rfl rfl ?_
    refine s_mv 208 rfl rfl ?_
    refine s_mv 209 rfl rfl ?_
    refine s_mv 210 rfl rfl ?_
    refine s_call1 211 rfl rfl rfl rfl (fun w hw => rinv_spec _ _ _ hm h1) (fun _ _ => trivial) ?_
    refine s_call1 212 rfl rfl rfl rfl (fun w hw => (by have := rmul_spec (mkm 10 ((k : Nat) : Int)) a1 (inv (mkm 10 ((k : Nat) : Int)) (lo (mkm 10 ((k : Nat) : Int)) a2) : Nat) w hm; rw [lo_nat (inv_lt hm _)] at this; exact this)) (fun _ _ => trivial) ?_
    refine s_eq 213 rfl rfl rfl (decide_eq_true rfl) ?_
    refine s_pickT 214 rfl rfl rfl ?_
    refine s_pickF 215 rfl rfl rfl ?_
    refine s_as 22 rfl rfl ?_
    refine SX.next ?_
    refine CW.seq ?_
    refine CW.reg [0, 1, 2, 3, 4, 5, 6, 7] rfl ?_   -- 17, law.go:57
    refine s_mv 216 rfl rfl ?_
    refine s_mv 217 rfl rfl ?_
    refine s_mv 218 rfl rfl ?_
    refine s_pickT 219 rfl rfl rfl ?_
    refine s_mv 220 rfl rfl ?_
    refine s_mv 221 rfl rfl ?_
    refine s_pickT 222 rfl rfl rfl ?_
    refine s_as 8 rfl rfl ?_
    refine SX.next ?_
    refine CW.ret ?_
    exact KN.ret (rs := [.tmp 8]) Tryd.results8 rfl (fun w hw => ⟨rfl, hw.nothing⟩)
  · skip
    refine SX.skip rfl ?_
    refine SX.skip rfl ?_
    refine SX.skip rfl ?_
    refine SX.skip rfl ?_
    refine SX.skip rfl ?_
    refine s_pickF 160 rfl rfl rfl ?_
    refine s_eqB 161 rfl rfl rfl (isB (of_decide_eq_false hb)) ?_
    refine s_pickT 162 rfl rfl rfl ?_
    refine s_as 20 rfl rfl ?_
    refine SX.next ?_
    refine CW.seq ?_
    refine CW.reg [0, 1, 2, 3, 4, 5, 6, 7, 8, 9, 10, 11, 12, 13, 14, 15, 16, 17, 18, 19, 20, 21, 22, 23, 24, 25] rfl ?_   -- 15, law.go:55
    refine s_mv 163 rfl rfl ?_
    refine s_mv 164 rfl rfl ?_
    refine SX.skip rfl ?_
    refine SX.skip rfl ?_
    refine SX.skip rfl ?_
    refine s_pickF 168 rfl rfl rfl ?_
    refine s_mv 169 rfl rfl ?_
    refine SX.skip rfl ?_
    refine SX.skip rfl ?_
    refine s_pickF 172 rfl rfl rfl ?_
    refine s_mv 173 rfl rfl ?_
    refine s_mv 174 rfl rfl ?_
    refine s_not 175 rfl rfl ?_
    refine s_mv 176 rfl rfl ?_
    refine s_mv 177 rfl rfl ?_
    refine s_eqNN 178 rfl rfl ?_
    refine s_pickT 179 rfl rfl rfl ?_
    refine s_mv 180 rfl rfl ?_
    refine s_mv 181 rfl rfl ?_
    refine s_mv 182 rfl rfl ?_
    refine s_mv 183 rfl rfl ?_
    refine s_call1 184 rfl rfl rfl rfl (fun w hw => rinv_spec _ _ _ hm h0) (fun _ _ => trivial) ?_
    refine s_eq 185 rfl rfl rfl (decide_eq_true rfl) ?_
    refine s_pickT 186 rfl rfl rfl ?_
    refine s_pickF 187 rfl rfl rfl ?_
    refine s_as 21 rfl rfl ?_
    refine SX.next ?_
    refine CW.seq ?_
    refine CW.reg [0, 1, 2, 3, 4, 5, 6, 7, 8, 9, 10, 11, 12, 13, 14, 15, 16, 17, 18, 19, 20, 21, 22, 23, 24, 25, 26, 27, 28] rfl ?_   -- 16, law.go:56
    refine s_mv 188 rfl rfl ?_
    refine s_mv 189 rfl rfl ?_
    refine SX.skip rfl ?_
    refine SX.skip rfl ?_
    refine SX.skip rfl ?_
    refine s_pickF 193 rfl rfl rfl ?_
    refine s_mv 194 rfl rfl ?_
    refine SX.skip rfl ?_
    refine SX.skip rfl ?_
    refine s_pickF 197 rfl rfl rfl ?_
    refine s_mv 198 rfl rfl ?_
    refine s_mv 199 rfl rfl ?_
    refine s_not 200 rfl rfl ?_
    refine s_mv 201 rfl rfl ?_
    refine s_mv 202 rfl rfl ?_
    refine s_eqNN 203 rfl rfl ?_
    refine s_pickT 204 rfl rfl rfl ?_
    refine s_mv 205 rfl rfl ?_
    refine s_mv 206 rfl rfl ?_
    refine s_mv 207 rfl rfl ?_
    refine s_mv 208 rfl rfl ?_
    refine s_mv 209 rfl rfl ?_
    refine s_mv 210 rfl rfl ?_
    refine s_call1 211 rfl rfl rfl rfl (fun w hw => rinv_spec _ _ _ hm h1) (fun _ _ => trivial) ?_
    refine s_call1 212 rfl rfl rfl rfl (fun w hw => (by have := rmul_spec (mkm 10 ((k : Nat) : Int)) a1 (inv (mkm 10 ((k : Nat) : Int)) (lo (mkm 10 ((k : Nat) : Int)) a2) : Nat) w hm; rw [lo_nat (inv_lt hm _)] at this; exact this)) (fun _ _ => trivial) ?_
    refine s_eq 213 rfl rfl rfl (decide_eq_true rfl) ?_
    refine s_pickT 214 rfl rfl rfl ?_
    refine s_pickF 215 rfl rfl rfl ?_
    refine s_as 22 rfl rfl ?_
    refine SX.next ?_
    refine CW.seq ?_
    refine CW.reg [0, 1, 2, 3, 4, 5, 6, 7] rfl ?_   -- 17, law.go:57
    refine s_mv 216 rfl rfl ?_
    refine s_mv 217 rfl rfl ?_
    refine s_mv 218 rfl rfl ?_
    refine s_pickT 219 rfl rfl rfl ?_
    refine s_mv 220 rfl rfl ?_
    refine s_mv 221 rfl rfl ?_
    refine s_pickT 222 rfl rfl rfl ?_
    refine s_as 8 rfl rfl ?_
    refine SX.next ?_
    refine CW.ret ?_
    exact KN.ret (rs := [.tmp 8]) Tryd.results8 rfl (fun w hw => ⟨rfl, hw.nothing⟩)

theorem walk_FieldSays (a0 a1 a2 a3 : Int) (e : Nat → Addr) (w : World) (hz : Er e w 0) (hfe : Er e w 1) : Spec1 Tryd.prog 8 [.int .i64 a0, .int .i64 a1, .int .i64 a2, .int .i64 a3] w (.bool true) := by
  by_cases hb : a0 < 3 ∨ 14 < a0
  · by_cases h0 : lo (mkm 10 a0) a1 = 0 <;> by_cases h1 : lo (mkm 10 a0) a2 = 0
    · exact says_111 a0 hb a1 a2 a3 e w hz hfe h0 h1
    · exact says_110 a0 hb a1 a2 a3 e w hz hfe h0 h1
    · exact says_101 a0 hb a1 a2 a3 e w hz hfe h0 h1
    · exact says_100 a0 hb a1 a2 a3 e w hz hfe h0 h1
  · obtain ⟨k, rfl⟩ : ∃ k : Nat, a0 = (k : Nat) := ⟨a0.toNat, by omega⟩
    have hk : Ok k := ⟨by omega, by omega⟩
    by_cases h0 : lo (mkm 10 (k : Nat)) a1 = 0 <;> by_cases h1 : lo (mkm 10 (k : Nat)) a2 = 0
    · exact says_011 k hk a1 a2 a3 e w hz hfe h0 h1
    · exact says_010 k hk a1 a2 a3 e w hz hfe h0 h1
    · exact says_001 k hk a1 a2 a3 e w hz hfe h0 h1
    · exact says_000 k hk a1 a2 a3 e w hz hfe h0 h1
