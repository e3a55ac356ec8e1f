/- The statements of chapter 2, walked: each answers true. No condition. -/
import Derived.Test.YtjnahakojhindaaDoorReff
import Derived.Test.YtjnahakojhindaaDoorFm3
namespace Go.Proofs.YtjnahakojhindaaDoor
open Go.Sx Go.Fm
set_option maxRecDepth 100000
theorem ok4 : Ok 4 := ⟨by decide, by decide⟩
theorem lg43 : lg 4 (lo 4 3) = 4 := lg_ex ok4 (i := 4) (by decide)
theorem lg42 : lg 4 (lo 4 2) = 1 := lg_two ok4
theorem lg48 : lg 4 (lo 4 8) = 3 := lg_ex ok4 (i := 3) (by decide)
theorem inv42 : inv 4 (lo 4 2) = 9 := by unfold inv; rw [lg42]; decide
theorem ord48 : ord 4 (lo 4 8) = 5 := by unfold ord; rw [lg48]; decide
theorem pw42 : pw 4 (lo 4 2) (-1) = 9 := by unfold pw; rw [if_neg (by decide), lg42]; decide
theorem pw40 : pw 4 (lo 4 0) 0 = 1 := by unfold pw; rw [if_pos (by decide)]; rfl
/-- Which m a number makes, of those from 3 on. -/
def mkm (k : Int) (m : Int) : Nat := (m % k).toNat + 3
theorem tmod_lt {k : Int} (hk : 0 < k) (m : Int) : -k < m.tmod k ∧ m.tmod k < k := by
  have h1 := Int.emod_nonneg m (b := k) (by omega)
  have h2 := Int.emod_lt_of_pos m hk
  rw [Int.tmod_eq_emod]
  split <;> omega
theorem mkm_val {k : Int} (hk : 0 < k) (m : Int) : (m.tmod k + k).tmod k = (((m % k).toNat : Nat) : Int) := by
  have h1 := Int.emod_nonneg m (b := k) (by omega)
  have hb := tmod_lt hk m
  rw [Int.tmod_eq_emod_of_nonneg (by omega), Int.add_emod_right, tmod_emod]
  omega
theorem mkm_bd {k : Int} (hk : 0 < k) (m : Int) : 3 ≤ mkm k m ∧ ((mkm k m : Nat) : Int) < k + 3 := by
  have h1 := Int.emod_nonneg m (b := k) (by omega)
  have h2 := Int.emod_lt_of_pos m hk
  unfold mkm
  omega
theorem mkm_ok {k : Int} (hk : 0 < k) (hk2 : k ≤ 12) (m : Int) : Ok (mkm k m) := by
  have := mkm_bd hk m
  exact ⟨this.1, by omega⟩

theorem first_spec (e : Nat → Addr) (w : World) (hz : Er e w 0) (hfe : Er e w 1) : Spec1 Tryd.prog 11 [] w (.bool true) := by
  have h48 : gm 4 (lo 4 8) (lo 4 2) = 3 := by decide
  have h52 : gm 4 (lo 4 9) (lo 4 9) = 13 := by decide
  have h65 : ex 4 (em 4 4) = 3 := by decide
  have h96 : tr 4 (lo 4 8) = 1 := by decide
  have hi := inv42
  have hl := lg43
  have ho := ord48
  have hp1 := pw42
  have hp2 := pw40
  refine spec_of Tryd.func11 rfl Tryd.ntmps11 rfl ?_
  refine CW.seq ?_
  refine CW.reg [0] rfl ?_   -- 0, law.go:23
  refine s_as 0 rfl rfl ?_
  refine SX.next ?_
  refine CW.seq ?_
  refine CW.reg [0, 1, 2, 3, 4, 5] rfl ?_   -- 1, law.go:24
  refine s_call 14 rfl rfl rfl rfl (fun w hw => new_spec 4 w ok4) (fun _ _ => trivial) (fun g _ => ?_)
  refine s_mv 13 rfl rfl ?_
  refine s_ext 15 rfl rfl rfl ?_
  refine s_ext 16 rfl rfl rfl ?_
  refine s_as 1 rfl rfl ?_
  refine s_as 2 rfl rfl ?_
  refine SX.next ?_
  refine CW.seq ?_
  refine CW.seq ?_
  refine CW.reg [0, 1, 2, 3, 4, 5] rfl ?_   -- 2, law.go:25
  refine s_mv 17 rfl rfl ?_
  refine s_eqPN 18 rfl rfl ?_
  refine s_mv 19 rfl rfl ?_
  refine s_mv 20 rfl rfl ?_
  refine s_neNN 21 rfl rfl ?_
  refine s_pickF 22 rfl rfl rfl ?_
  refine SX.next ?_
  refine CW.condF rfl ?_
  refine CW.skip ?_
  refine KN.code ?_
  refine CW.seq ?_
  refine CW.reg [0, 1, 2, 3, 4, 5, 6] rfl ?_   -- 4, law.go:28
  refine s_mv 24 rfl rfl ?_
  refine s_call1 25 rfl rfl rfl rfl (fun w hw => inv_spec g 4 2 _ ok4 (hw.has (i := 0) rfl) (by decide)) (fun _ _ => trivial) ?_
  refine s_mv 23 rfl rfl ?_
  refine s_ext 26 rfl rfl rfl ?_
  refine s_ext 27 rfl rfl rfl ?_
  refine s_as 3 rfl rfl ?_
  refine s_as 4 rfl rfl ?_
  refine SX.next ?_
  refine CW.seq ?_
  refine CW.reg [0, 1, 2, 3, 4, 5, 6] rfl ?_   -- 5, law.go:29
  refine s_mv 29 rfl rfl ?_
  refine s_call1 30 rfl rfl rfl rfl (fun w hw => log_spec g 4 3 _ ok4 (hw.has (i := 0) rfl) (by decide)) (fun _ _ => trivial) ?_
  refine s_mv 28 rfl rfl ?_
  refine s_ext 31 rfl rfl rfl ?_
  refine s_ext 32 rfl rfl rfl ?_
  refine s_as 5 rfl rfl ?_
  refine s_as 6 rfl rfl ?_
  refine SX.next ?_
  refine CW.seq ?_
  refine CW.reg [0, 1, 2, 3, 4, 5, 6] rfl ?_   -- 6, law.go:30
  refine s_mv 34 rfl rfl ?_
  refine s_call1 35 rfl rfl rfl rfl (fun w hw => order_spec g 4 8 _ ok4 (hw.has (i := 0) rfl) (by decide)) (fun _ _ => trivial) ?_
  refine s_mv 33 rfl rfl ?_
  refine s_ext 36 rfl rfl rfl ?_
  refine s_ext 37 rfl rfl rfl ?_
  refine s_as 7 rfl rfl ?_
  refine s_as 8 rfl rfl ?_
  refine SX.next ?_
  refine CW.seq ?_
  refine CW.reg [0, 1, 2, 3, 4, 5, 6] rfl ?_   -- 7, law.go:31
  refine s_mv 39 rfl rfl ?_
  refine s_call1 40 rfl rfl rfl rfl (fun w hw => inv_zero g 4 16 e _ ok4 (hw.has (i := 0) rfl) (hw.er hz) (by decide)) (fun _ _ => trivial) ?_
  refine s_mv 38 rfl rfl ?_
  refine s_ext 41 rfl rfl rfl ?_
  refine s_ext 42 rfl rfl rfl ?_
  refine s_as 9 rfl rfl ?_
  refine s_as 10 rfl rfl ?_
  refine SX.next ?_
  refine CW.seq ?_
  refine CW.reg [0, 1, 2, 3, 4, 5] rfl ?_   -- 8, law.go:32
  refine s_call1 44 rfl rfl rfl rfl (fun w hw => new_bad 2 e w (hw.er hfe) (by omega) (by omega)) (fun _ _ => trivial) ?_
  refine s_mv 43 rfl rfl ?_
  refine s_ext 45 rfl rfl rfl ?_
  refine s_ext 46 rfl rfl rfl ?_
  refine s_as 11 rfl rfl ?_
  refine s_as 12 rfl rfl ?_
  refine SX.next ?_
  refine CW.seq ?_
  refine CW.reg [0, 1, 2, 3, 4, 5, 6, 7, 8, 9, 10, 11, 12, 13, 14, 15, 16, 17, 18, 19, 20, 21, 22, 23, 24, 25, 26, 27, 28, 29, 30, 31, 32, 33, 34, 35, 36, 37, 38, 39, 40, 41, 42, 43, 44, 45, 46, 47, 48, 49, 50, 51, 52, 53, 54, 55, 56, 57, 58, 59, 60, 61, 62] rfl ?_   -- 9, law.go:33
  refine s_mv 47 rfl rfl ?_
  refine s_call1 48 rfl rfl rfl rfl (fun w hw => mul_spec g 4 _ _ _ ok4 (hw.has (i := 0) rfl)) (fun _ _ => trivial) ?_
  refine s_eq 49 rfl rfl rfl (decide_eq_true (by omega)) ?_
  refine s_mv 50 rfl rfl ?_
  refine s_mv 51 rfl rfl ?_
  refine s_call1 52 rfl rfl rfl rfl (fun w hw => mul_spec g 4 _ _ _ ok4 (hw.has (i := 0) rfl)) (fun _ _ => trivial) ?_
  refine s_eq 53 rfl rfl rfl (decide_eq_true (by omega)) ?_
  refine s_pickT 54 rfl rfl rfl ?_
  refine s_mv 55 rfl rfl ?_
  refine s_mv 56 rfl rfl ?_
  refine s_eq 57 rfl rfl rfl (decide_eq_true (by omega)) ?_
  refine s_pickT 58 rfl rfl rfl ?_
  refine s_mv 59 rfl rfl ?_
  refine s_mv 60 rfl rfl ?_
  refine s_eqNN 61 rfl rfl ?_
  refine s_pickT 62 rfl rfl rfl ?_
  refine s_mv 63 rfl rfl ?_
  refine s_mv 64 rfl rfl ?_
  refine s_call1 65 rfl rfl rfl rfl (fun w hw => exp_spec g 4 _ _ ok4 (hw.has (i := 0) rfl)) (fun _ _ => trivial) ?_
  refine s_eq 66 rfl rfl rfl (decide_eq_true (by omega)) ?_
  refine s_pickT 67 rfl rfl rfl ?_
  refine s_mv 68 rfl rfl ?_
  refine s_mv 69 rfl rfl ?_
  refine s_eq 70 rfl rfl rfl (decide_eq_true (by omega)) ?_
  refine s_pickT 71 rfl rfl rfl ?_
  refine s_mv 72 rfl rfl ?_
  refine s_mv 73 rfl rfl ?_
  refine s_eqNN 74 rfl rfl ?_
  refine s_pickT 75 rfl rfl rfl ?_
  refine s_mv 76 rfl rfl ?_
  refine s_mv 77 rfl rfl ?_
  refine s_call1 78 rfl rfl rfl rfl (fun w hw => pow_spec g 4 _ _ e _ ok4 (hw.has (i := 0) rfl) (hw.er hz)) (fun _ _ => trivial) ?_
  refine s_eq 79 rfl rfl rfl (decide_eq_true (by omega)) ?_
  refine s_pickT 80 rfl rfl rfl ?_
  refine s_mv 81 rfl rfl ?_
  refine s_mv 82 rfl rfl ?_
  refine s_call1 83 rfl rfl rfl rfl (fun w hw => pow_spec g 4 _ _ e _ ok4 (hw.has (i := 0) rfl) (hw.er hz)) (fun _ _ => trivial) ?_
  refine s_eq 84 rfl rfl rfl (decide_eq_true (by omega)) ?_
  refine s_pickT 85 rfl rfl rfl ?_
  refine s_mv 86 rfl rfl ?_
  refine s_mv 87 rfl rfl ?_
  refine s_eq 88 rfl rfl rfl (decide_eq_true (by omega)) ?_
  refine s_pickT 89 rfl rfl rfl ?_
  refine s_mv 90 rfl rfl ?_
  refine s_mv 91 rfl rfl ?_
  refine s_eqNN 92 rfl rfl ?_
  refine s_pickT 93 rfl rfl rfl ?_
  refine s_mv 94 rfl rfl ?_
  refine s_mv 95 rfl rfl ?_
  refine s_call1 96 rfl rfl rfl rfl (fun w hw => trace_spec g 4 _ _ ok4 (hw.has (i := 0) rfl)) (fun _ _ => trivial) ?_
  refine s_eq 97 rfl rfl rfl (decide_eq_true (by omega)) ?_
  refine s_pickT 98 rfl rfl rfl ?_
  refine s_mv 99 rfl rfl ?_
  refine s_mv 100 rfl rfl ?_
  refine s_ld 101 rfl rfl (fun _ h => h.cell (by assumption)) ?_
  refine s_eqE 102 rfl rfl rfl ?_
  refine s_pickT 103 rfl rfl rfl ?_
  refine s_mv 104 rfl rfl ?_
  refine s_mv 105 rfl rfl ?_
  refine s_ld 106 rfl rfl (fun _ h => h.cell (by assumption)) ?_
  refine s_eqE 107 rfl rfl rfl ?_
  refine s_pickT 108 rfl rfl rfl ?_
  refine s_as 0 rfl rfl ?_
  refine SX.next ?_
  refine CW.ret ?_
  exact KN.ret (rs := [.tmp 0]) Tryd.results11 rfl (fun w hw => ⟨rfl, hw.nothing⟩)

theorem made_spec (m : Int) (w : World) : SpecX Tryd.prog 12 [.int .i64 m] w (X := Nat) (fun g => two (.pointer (some ⟨g, 0, none⟩)) (.int .i64 (mkm 10 m : Nat))) (fun _ => True) (fun g => [fieldA g (mkm 10 m)]) := by
  have hm := mkm_ok (k := 10) (by omega) (by omega) m
  have hb := tmod_lt (k := 10) (by omega) m
  have hv := mkm_val (k := 10) (by omega) m
  have hmb := mkm_bd (k := 10) (by omega) m
  refine spec_of Tryd.func12 rfl Tryd.ntmps12 rfl ?_
  refine CW.seq ?_
  refine CW.reg [0, 1] rfl ?_   -- 0, law.go:13
  refine s_as 2 rfl rfl ?_
  refine s_as 3 rfl rfl ?_
  refine SX.next ?_
  refine CW.seq ?_
  refine CW.reg [0, 1, 2, 3, 4, 5] rfl ?_   -- 1, law.go:14
  refine s_mv 6 rfl rfl ?_
  refine s_rem 7 rfl rfl rfl (by omega) rfl ?_
  refine s_add 8 rfl rfl rfl (w64 (by omega)) ?_
  refine s_rem 9 rfl rfl rfl (by omega) hv ?_
  refine s_add 10 rfl rfl rfl (r := (mkm 10 m : Nat)) (by rw [show (((m % 10).toNat : Nat) : Int) + 3 = (mkm 10 m : Nat) by unfold mkm; omega]; exact w64 (by omega)) ?_
  refine s_as 0 rfl rfl ?_
  refine SX.next ?_
  refine CW.seq ?_
  refine CW.reg [0, 1, 2, 3, 4, 5, 6] rfl ?_   -- 2, law.go:15
  refine s_mv 12 rfl rfl ?_
  refine s_call 13 rfl rfl rfl rfl (fun w hw => new_spec _ w hm) (fun _ _ => trivial) (fun g _ => ?_)
  refine s_mv 11 rfl rfl ?_
  refine s_ext 14 rfl rfl rfl ?_
  refine s_ext 15 rfl rfl rfl ?_
  refine s_as 4 rfl rfl ?_
  refine s_as 5 rfl rfl ?_
  refine SX.next ?_
  refine CW.seq ?_
  refine CW.seq ?_
  refine CW.reg [0, 1] rfl ?_   -- 3, law.go:16
  refine s_mv 16 rfl rfl ?_
  refine s_neNN 17 rfl rfl ?_
  refine SX.next ?_
  refine CW.condF rfl ?_
  refine CW.skip ?_
  refine KN.code ?_
  refine CW.seq ?_
  refine CW.reg [0, 1, 2, 3] rfl ?_   -- 5, law.go:19
  refine s_mv 19 rfl rfl ?_
  refine s_mv 20 rfl rfl ?_
  refine s_as 2 rfl rfl ?_
  refine s_as 3 rfl rfl ?_
  refine SX.next ?_
  refine CW.ret ?_
  exact KN.ret (rs := [.tmp 2, .tmp 3]) Tryd.results12 rfl (fun w hw => ⟨g, rfl, trivial, hw⟩)

theorem lo_ne {m : Nat} {a : Int} (h : ¬ ((lo m a : Nat) : Int) = 0) : lo m a ≠ 0 := by omega

theorem logs_zero (a0 a1 : Int) (e : Nat → Addr) (w : World) (hz : Er e w 0) (hfe : Er e w 1) (h0 : lo (mkm 10 a0) a1 = 0) : Spec1 Tryd.prog 3 [.int .i64 a0, .int .i64 a1] w (.bool true) := by
  have hm := mkm_ok (k := 10) (by omega) (by omega) a0
  have hN := N_pos hm
  have hN1 := N_succ (mkm 10 a0)
  refine spec_of Tryd.func3 rfl Tryd.ntmps3 rfl ?_
  refine CW.seq ?_
  refine CW.reg [0] rfl ?_   -- 0, law.go:61
  refine s_as 4 rfl rfl ?_
  refine SX.next ?_
  refine CW.seq ?_
  refine CW.reg [0, 1] rfl ?_   -- 1, law.go:62
  refine s_call1 12 rfl rfl rfl rfl (fun w hw => first_spec e _ (hw.er hz) (hw.er hfe)) (fun _ _ => trivial) ?_
  refine s_as 5 rfl rfl ?_
  refine SX.next ?_
  refine CW.seq ?_
  refine CW.reg [0, 1, 2, 3, 4, 5, 6] rfl ?_   -- 2, law.go:63
  refine s_mv 14 rfl rfl ?_
  refine s_call 15 rfl rfl rfl rfl (fun w hw => made_spec a0 w) (fun _ _ => trivial) (fun g _ => ?_)
  refine s_mv 13 rfl rfl ?_
  refine s_ext 16 rfl rfl rfl ?_
  refine s_ext 17 rfl rfl rfl ?_
  refine s_as 6 rfl rfl ?_
  refine s_as 7 rfl rfl ?_
  refine SX.next ?_
  refine CW.seq ?_
  refine CW.seq ?_
  refine CW.reg [0, 1, 2, 3, 4, 5] rfl ?_   -- 3, law.go:64
  refine s_mv 18 rfl rfl ?_
  refine s_eqPN 19 rfl rfl ?_
  refine s_mv 20 rfl rfl ?_
  refine s_mv 21 rfl rfl ?_
  refine s_not 22 rfl rfl ?_
  refine s_pickF 23 rfl rfl rfl ?_
  refine SX.next ?_
  refine CW.condF rfl ?_
  refine CW.skip ?_
  refine KN.code ?_
  refine CW.seq ?_
  refine CW.reg [0, 1, 2, 3, 4, 5, 6, 7] rfl ?_   -- 5, law.go:67
  refine s_mv 25 rfl rfl ?_
  refine s_mv 26 rfl rfl ?_
  refine s_call1 27 rfl rfl rfl rfl (fun w hw => log_zero g _ _ e _ hm (hw.has (i := 0) rfl) (hw.er hz) h0) (fun _ _ => trivial) ?_
  refine s_mv 24 rfl rfl ?_
  refine s_ext 28 rfl rfl rfl ?_
  refine s_ext 29 rfl rfl rfl ?_
  refine s_as 8 rfl rfl ?_
  refine s_as 9 rfl rfl ?_
  refine SX.next ?_
  refine CW.seq ?_
  refine CW.reg [0, 1, 2, 3, 4, 5, 6, 7] rfl ?_   -- 6, law.go:68
  refine s_mv 31 rfl rfl ?_
  refine s_mv 32 rfl rfl ?_
  refine s_call1 33 rfl rfl rfl rfl (fun w hw => order_zero g _ _ e _ hm (hw.has (i := 0) rfl) (hw.er hz) h0) (fun _ _ => trivial) ?_
  refine s_mv 30 rfl rfl ?_
  refine s_ext 34 rfl rfl rfl ?_
  refine s_ext 35 rfl rfl rfl ?_
  refine s_as 10 rfl rfl ?_
  refine s_as 11 rfl rfl ?_
  refine SX.next ?_
  refine CW.seq ?_
  refine CW.seq ?_
  refine CW.reg [0, 1, 2, 3] rfl ?_   -- 7, law.go:69
  refine s_mv 36 rfl rfl ?_
  refine s_mv 37 rfl rfl ?_
  refine s_call1 38 rfl rfl rfl rfl (fun w hw => rlow_spec _ _ _ hm) (fun _ _ => trivial) ?_
  refine s_eq 39 rfl rfl rfl (decide_eq_true (by omega)) ?_
  refine SX.next ?_
  refine CW.condT rfl ?_
  refine CW.seq ?_
  refine CW.reg [0, 1, 2, 3, 4, 5, 6, 7, 8, 9, 10, 11, 12, 13, 14, 15, 16] rfl ?_   -- 8, law.go:70
  refine s_mv 40 rfl rfl ?_
  refine s_ld 41 rfl rfl (fun _ h => h.cell (by assumption)) ?_
  refine s_eqE 42 rfl rfl rfl ?_
  refine s_mv 43 rfl rfl ?_
  refine s_mv 44 rfl rfl ?_
  refine s_ld 45 rfl rfl (fun _ h => h.cell (by assumption)) ?_
  refine s_eqE 46 rfl rfl rfl ?_
  refine s_pickT 47 rfl rfl rfl ?_
  refine s_mv 48 rfl rfl ?_
  refine s_mv 49 rfl rfl ?_
  refine s_eq 50 rfl rfl rfl (decide_eq_true (by omega)) ?_
  refine s_pickT 51 rfl rfl rfl ?_
  refine s_mv 52 rfl rfl ?_
  refine s_mv 53 rfl rfl ?_
  refine s_eq 54 rfl rfl rfl (decide_eq_true (by omega)) ?_
  refine s_pickT 55 rfl rfl rfl ?_
  refine s_as 4 rfl rfl ?_
  refine SX.next ?_
  refine CW.ret ?_
  exact KN.ret (rs := [.tmp 4]) Tryd.results3 rfl (fun w hw => ⟨rfl, hw.nothing⟩)

theorem logs_some (a0 a1 : Int) (e : Nat → Addr) (w : World) (hz : Er e w 0) (hfe : Er e w 1) (h0 : lo (mkm 10 a0) a1 ≠ 0) : Spec1 Tryd.prog 3 [.int .i64 a0, .int .i64 a1] w (.bool true) := by
  have hm := mkm_ok (k := 10) (by omega) (by omega) a0
  have hN := N_pos hm
  have hN1 := N_succ (mkm 10 a0)
  refine spec_of Tryd.func3 rfl Tryd.ntmps3 rfl ?_
  refine CW.seq ?_
  refine CW.reg [0] rfl ?_   -- 0, law.go:61
  refine s_as 4 rfl rfl ?_
  refine SX.next ?_
  refine CW.seq ?_
  refine CW.reg [0, 1] rfl ?_   -- 1, law.go:62
  refine s_call1 12 rfl rfl rfl rfl (fun w hw => first_spec e _ (hw.er hz) (hw.er hfe)) (fun _ _ => trivial) ?_
  refine s_as 5 rfl rfl ?_
  refine SX.next ?_
  refine CW.seq ?_
  refine CW.reg [0, 1, 2, 3, 4, 5, 6] rfl ?_   -- 2, law.go:63
  refine s_mv 14 rfl rfl ?_
  refine s_call 15 rfl rfl rfl rfl (fun w hw => made_spec a0 w) (fun _ _ => trivial) (fun g _ => ?_)
  refine s_mv 13 rfl rfl ?_
  refine s_ext 16 rfl rfl rfl ?_
  refine s_ext 17 rfl rfl rfl ?_
  refine s_as 6 rfl rfl ?_
  refine s_as 7 rfl rfl ?_
  refine SX.next ?_
  refine CW.seq ?_
  refine CW.seq ?_
  refine CW.reg [0, 1, 2, 3, 4, 5] rfl ?_   -- 3, law.go:64
  refine s_mv 18 rfl rfl ?_
  refine s_eqPN 19 rfl rfl ?_
  refine s_mv 20 rfl rfl ?_
  refine s_mv 21 rfl rfl ?_
  refine s_not 22 rfl rfl ?_
  refine s_pickF 23 rfl rfl rfl ?_
  refine SX.next ?_
  refine CW.condF rfl ?_
  refine CW.skip ?_
  refine KN.code ?_
  refine CW.seq ?_
  refine CW.reg [0, 1, 2, 3, 4, 5, 6, 7] rfl ?_   -- 5, law.go:67
  refine s_mv 25 rfl rfl ?_
  refine s_mv 26 rfl rfl ?_
  refine s_call1 27 rfl rfl rfl rfl (fun w hw => log_spec g _ _ _ hm (hw.has (i := 0) rfl) h0) (fun _ _ => trivial) ?_
  refine s_mv 24 rfl rfl ?_
  refine s_ext 28 rfl rfl rfl ?_
  refine s_ext 29 rfl rfl rfl ?_
  refine s_as 8 rfl rfl ?_
  refine s_as 9 rfl rfl ?_
  refine SX.next ?_
  refine CW.seq ?_
  refine CW.reg [0, 1, 2, 3, 4, 5, 6, 7] rfl ?_   -- 6, law.go:68
  refine s_mv 31 rfl rfl ?_
  refine s_mv 32 rfl rfl ?_
  refine s_call1 33 rfl rfl rfl rfl (fun w hw => order_spec g _ _ _ hm (hw.has (i := 0) rfl) h0) (fun _ _ => trivial) ?_
  refine s_mv 30 rfl rfl ?_
  refine s_ext 34 rfl rfl rfl ?_
  refine s_ext 35 rfl rfl rfl ?_
  refine s_as 10 rfl rfl ?_
  refine s_as 11 rfl rfl ?_
  refine SX.next ?_
  refine CW.seq ?_
  refine CW.seq ?_
  refine CW.reg [0, 1, 2, 3] rfl ?_   -- 7, law.go:69
  refine s_mv 36 rfl rfl ?_
  refine s_mv 37 rfl rfl ?_
  refine s_call1 38 rfl rfl rfl rfl (fun w hw => rlow_spec _ _ _ hm) (fun _ _ => trivial) ?_
  refine s_eq 39 rfl rfl rfl (decide_eq_false (by omega)) ?_
  refine SX.next ?_
  refine CW.condF rfl ?_
  refine CW.skip ?_
  refine KN.code ?_
  refine CW.seq ?_
  refine CW.reg [0, 1, 2, 3, 4, 5, 6, 7, 8, 9, 10, 11, 12, 13, 14, 15, 16, 17, 18, 19, 20] rfl ?_   -- 9, law.go:72
  refine s_mv 56 rfl rfl ?_
  refine s_eqNN 57 rfl rfl ?_
  refine s_mv 58 rfl rfl ?_
  refine s_mv 59 rfl rfl ?_
  refine s_eqNN 60 rfl rfl ?_
  refine s_pickT 61 rfl rfl rfl ?_
  refine s_mv 62 rfl rfl ?_
  refine s_mv 63 rfl rfl ?_
  refine s_mv 64 rfl rfl ?_
  refine s_mv 65 rfl rfl ?_
  refine s_call1 66 rfl rfl rfl rfl (fun w hw => rlog_spec _ _ _ hm h0) (fun _ _ => trivial) ?_
  refine s_eq 67 rfl rfl rfl (decide_eq_true rfl) ?_
  refine s_pickT 68 rfl rfl rfl ?_
  refine s_mv 69 rfl rfl ?_
  refine s_mv 70 rfl rfl ?_
  refine s_mv 71 rfl rfl ?_
  refine s_mv 72 rfl rfl ?_
  refine s_call1 73 rfl rfl rfl rfl (fun w hw => rorder_spec _ _ _ hm h0) (fun _ _ => trivial) ?_
  refine s_eq 74 rfl rfl rfl (decide_eq_true rfl) ?_
  refine s_pickT 75 rfl rfl rfl ?_
  refine s_as 4 rfl rfl ?_
  refine SX.next ?_
  refine CW.ret ?_
  exact KN.ret (rs := [.tmp 4]) Tryd.results3 rfl (fun w hw => ⟨rfl, hw.nothing⟩)

theorem walk_FieldLogs (a0 a1 : Int) (e : Nat → Addr) (w : World) (hz : Er e w 0) (hfe : Er e w 1) : Spec1 Tryd.prog 3 [.int .i64 a0, .int .i64 a1] w (.bool true) := by
  by_cases h0 : lo (mkm 10 a0) a1 = 0
  · exact logs_zero a0 a1 e w hz hfe h0
  · exact logs_some a0 a1 e w hz hfe h0

/-! ### The contracts, for elements -/
theorem cst {a b : Nat} (h : a = b) : ((a : Nat) : Int) = ((b : Nat) : Int) := by rw [h]
theorem cne {a b : Nat} (h : a ≠ b) : ((a : Nat) : Int) ≠ ((b : Nat) : Int) := by omega
section
variable {g m : Nat} {w : World}
theorem addN {x y : Nat} (hm : Ok m) (hf : Has (fieldA g m) w) (hx : x < 2 ^ m) (hy : y < 2 ^ m) : Spec1 Tryd.prog 21 [.pointer (some ⟨g, 0, none⟩), .int .i64 (x : Nat), .int .i64 (y : Nat)] w (.int .i64 (x ^^^ y : Nat)) := by
  have := add_spec g m x y w hm hf; rw [lo_nat hx, lo_nat hy] at this; exact this
theorem mulN {x y : Nat} (hm : Ok m) (hf : Has (fieldA g m) w) (hx : x < 2 ^ m) (hy : y < 2 ^ m) : Spec1 Tryd.prog 20 [.pointer (some ⟨g, 0, none⟩), .int .i64 (x : Nat), .int .i64 (y : Nat)] w (.int .i64 (gm m x y : Nat)) := by
  have := mul_spec g m x y w hm hf; rw [lo_nat hx, lo_nat hy] at this; exact this
theorem traceN {x : Nat} (hm : Ok m) (hf : Has (fieldA g m) w) (hx : x < 2 ^ m) : Spec1 Tryd.prog 25 [.pointer (some ⟨g, 0, none⟩), .int .i64 (x : Nat)] w (.int .i64 (tr m x : Nat)) := by
  have := trace_spec g m x w hm hf; rw [lo_nat hx] at this; exact this
theorem powN {x : Nat} {n : Int} {e : Nat → Addr} (hm : Ok m) (hf : Has (fieldA g m) w) (hz : Er e w 0) (hx : x < 2 ^ m) : Spec1 Tryd.prog 19 [.pointer (some ⟨g, 0, none⟩), .int .i64 (x : Nat), .int .i64 n] w (.int .i64 (pw m x n : Nat)) := by
  have := pow_spec g m x n e w hm hf hz; rw [lo_nat hx] at this; exact this
theorem invN {x : Nat} (hm : Ok m) (hf : Has (fieldA g m) w) (hx : x < 2 ^ m) (h0 : x ≠ 0) : Spec1 Tryd.prog 27 [.pointer (some ⟨g, 0, none⟩), .int .i64 (x : Nat)] w (two (.int .i64 (inv m x : Nat)) .nilIface) := by
  have := inv_spec g m x w hm hf (by rw [lo_nat hx]; exact h0); rw [lo_nat hx] at this; exact this
theorem logN {x : Nat} (hm : Ok m) (hf : Has (fieldA g m) w) (hx : x < 2 ^ m) (h0 : x ≠ 0) : Spec1 Tryd.prog 13 [.pointer (some ⟨g, 0, none⟩), .int .i64 (x : Nat)] w (two (.int .i64 (lg m x : Nat)) .nilIface) := by
  have := log_spec g m x w hm hf (by rw [lo_nat hx]; exact h0); rw [lo_nat hx] at this; exact this
theorem orderN {x : Nat} (hm : Ok m) (hf : Has (fieldA g m) w) (hx : x < 2 ^ m) (h0 : x ≠ 0) : Spec1 Tryd.prog 14 [.pointer (some ⟨g, 0, none⟩), .int .i64 (x : Nat)] w (two (.int .i64 (ord m x : Nat)) .nilIface) := by
  have := order_spec g m x w hm hf (by rw [lo_nat hx]; exact h0); rw [lo_nat hx] at this; exact this
theorem divN {x y : Nat} (hm : Ok m) (hf : Has (fieldA g m) w) (hx : x < 2 ^ m) (hy : y < 2 ^ m) (h0 : y ≠ 0) : Spec1 Tryd.prog 28 [.pointer (some ⟨g, 0, none⟩), .int .i64 (x : Nat), .int .i64 (y : Nat)] w (two (.int .i64 (gm m x (inv m y) : Nat)) .nilIface) := by
  have := div_spec g m x y w hm hf (by rw [lo_nat hy]; exact h0); rw [lo_nat hx, lo_nat hy] at this; exact this
theorem expN {n : Nat} (hm : Ok m) (hf : Has (fieldA g m) w) (hn : n < N m) : Spec1 Tryd.prog 18 [.pointer (some ⟨g, 0, none⟩), .int .i64 (n : Nat)] w (.int .i64 (ex m n : Nat)) := by
  have := exp_spec g m n w hm hf; rw [em_nat, Nat.mod_eq_of_lt hn] at this; exact this
end
theorem cor {a b : Nat} (h : a = b) : decide (((a : Nat) : Int) = ((b : Nat) : Int)) = true := by rw [h]; exact decide_eq_true rfl
/-- Two numbers on the way to their common divisor. -/
structure GcdG (m n : Nat) (q : Nat × Nat) : Prop where
  le : q.1 ≤ 16383 ∧ q.2 ≤ 16383
  gcd : Nat.gcd q.1 q.2 = Nat.gcd n (N m)
theorem GcdG.next {m n : Nat} {q : Nat × Nat} (h : GcdG m n q) (hy : 0 < q.2) : GcdG m n (q.2, q.1 % q.2) :=
  ⟨⟨h.le.2, Nat.le_of_lt (Nat.lt_of_lt_of_le (Nat.mod_lt _ hy) h.le.2)⟩, by show Nat.gcd q.2 (q.1 % q.2) = _; rw [← h.gcd, Nat.gcd_comm q.1 q.2, Nat.gcd_rec q.2 q.1, Nat.gcd_comm]⟩
theorem GcdG.last {m n : Nat} {q : Nat × Nat} (h : GcdG m n q) (hy : ¬ ((q.2 : Nat) : Int) ≠ 0) : q.1 = Nat.gcd n (N m) := by
  have h2 : q.2 = 0 := by omega
  have := h.gcd
  rw [h2, Nat.gcd_zero_right] at this
  exact this
theorem gcd_pos {m : Nat} (h : Ok m) (n : Nat) : 0 < Nat.gcd n (N m) := Nat.gcd_pos_of_pos_right _ (by have := N_pos h; omega)
theorem shl_one1 {m : Nat} (h : Ok m) : IntKind.i64.wrap (1 * 2 ^ (min ((m - 1 : Nat) : Int).toNat IntKind.i64.bits)) = ((2 ^ (m - 1) : Nat) : Int) := by
  have h2 := h.hi
  have hle : 2 ^ (m - 1) ≤ 2 ^ 14 := Nat.pow_le_pow_right (by omega) (by omega)
  rw [Int.toNat_natCast, show min (m - 1) IntKind.i64.bits = m - 1 from Nat.min_eq_left (by show m - 1 ≤ 64; omega), Int.one_mul, show (2 : Int) ^ (m - 1) = ((2 ^ (m - 1) : Nat) : Int) by rw [Int.natCast_pow]; rfl]
  generalize 2 ^ (m - 1) = z at hle ⊢
  exact w64 (by omega)
theorem natdiv_tdiv (a b : Nat) : ((a : Nat) : Int).tdiv ((b : Nat) : Int) = ((a / b : Nat) : Int) := rfl
theorem quoN (a b : Nat) (h : a ≤ 16384) : IntKind.i64.wrap (((a : Nat) : Int).tdiv ((b : Nat) : Int)) = ((a / b : Nat) : Int) := by
  rw [natdiv_tdiv]
  have := Nat.div_le_self a b
  generalize a / b = z at this ⊢
  exact w64 (by omega)

theorem walk_FieldOrders (a0 : Int) (a1 : Int) (e : Nat → Addr) (w : World) (hz : Er e w 0) (hfe : Er e w 1) : Spec1 Tryd.prog 4 [.int .i64 a0, .int .i64 a1] w (.bool true) := by
  have hm := mkm_ok (k := 10) (by omega) (by omega) a0
  have hN := N_pos hm
  have hN1 := N_succ (mkm 10 a0)
  have hn := em_lt hm a1
  have htb := tmod_bd hm a1
  have hne : ex (mkm 10 a0) (em (mkm 10 a0) a1) ≠ 0 := by have := (ex_lt hm (em (mkm 10 a0) a1)).1; omega
  refine spec_of Tryd.func4 rfl Tryd.ntmps4 rfl ?_
  refine CW.seq ?_
  refine CW.reg [0] rfl ?_   -- 0, more.go:8
  refine s_as 4 rfl rfl ?_
  refine SX.next ?_
  refine CW.seq ?_
  refine CW.reg [0, 1] rfl ?_   -- 1, more.go:9
  refine s_call1 13 rfl rfl rfl rfl (fun w hw => first_spec e _ (hw.er hz) (hw.er hfe)) (fun _ _ => trivial) ?_
  refine s_as 5 rfl rfl ?_
  refine SX.next ?_
  refine CW.seq ?_
  refine CW.reg [0, 1, 2, 3, 4, 5, 6] rfl ?_   -- 2, more.go:10
  refine s_mv 15 rfl rfl ?_
  refine s_call 16 rfl rfl rfl rfl (fun w hw => made_spec a0 w) (fun _ _ => trivial) (fun g _ => ?_)
  refine s_mv 14 rfl rfl ?_
  refine s_ext 17 rfl rfl rfl ?_
  refine s_ext 18 rfl rfl rfl ?_
  refine s_as 6 rfl rfl ?_
  refine s_as 7 rfl rfl ?_
  refine SX.next ?_
  refine CW.seq ?_
  refine CW.seq ?_
  refine CW.reg [0, 1, 2, 3, 4, 5] rfl ?_   -- 3, more.go:11
  refine s_mv 19 rfl rfl ?_
  refine s_eqPN 20 rfl rfl ?_
  refine s_mv 21 rfl rfl ?_
  refine s_mv 22 rfl rfl ?_
  refine s_not 23 rfl rfl ?_
  refine s_pickF 24 rfl rfl rfl ?_
  refine SX.next ?_
  refine CW.condF rfl ?_
  refine CW.skip ?_
  refine KN.code ?_
  refine CW.seq ?_
  refine CW.reg [0, 1, 2, 3, 4] rfl ?_   -- 5, more.go:14
  refine s_mv 25 rfl rfl ?_
  refine s_conv 26 rfl rfl (u64_nat hm) ?_
  refine s_shl 27 rfl rfl rfl (by omega) (shl_one hm) ?_
  refine s_sub 28 rfl rfl rfl (r := (N (mkm 10 a0) : Nat)) (by rw [sizem1]; exact w64 (by omega)) ?_
  refine s_as 8 rfl rfl ?_
  refine SX.next ?_
  refine CW.seq ?_
  refine CW.reg [0, 1, 2, 3, 4, 5, 6, 7] rfl ?_   -- 6, more.go:15
  refine s_mv 29 rfl rfl ?_
  refine s_mv 30 rfl rfl ?_
  refine s_rem 31 rfl rfl rfl (by omega) rfl ?_
  refine s_mv 32 rfl rfl ?_
  refine s_add 33 rfl rfl rfl (w64 (by omega)) ?_
  refine s_mv 34 rfl rfl ?_
  refine s_rem 35 rfl rfl rfl (by omega) (em_pos2 hm a1) ?_
  refine s_as 1 rfl rfl ?_
  refine SX.next ?_
  refine CW.seq ?_
  refine CW.reg [0, 1] rfl ?_   -- 7, more.go:16
  refine s_mv 36 rfl rfl ?_
  refine s_as 9 rfl rfl ?_
  refine SX.next ?_
  refine CW.seq ?_
  refine CW.reg [0, 1] rfl ?_   -- 8, more.go:17
  refine s_mv 37 rfl rfl ?_
  refine s_as 10 rfl rfl ?_
  refine SX.next ?_
  refine CW.seq ?_
  refine CW.block ?_
  refine CW.loop (G := Nat × Nat) (fun q => [(6, .pointer (some ⟨g, 0, none⟩)), (1, .int .i64 (em (mkm 10 a0) a1 : Nat)), (8, .int .i64 (N (mkm 10 a0) : Nat)), (9, .int .i64 (q.1 : Nat)), (10, .int .i64 (q.2 : Nat))]) (fun _ => (Sto w [fieldA g (mkm 10 a0)])) (GcdG (mkm 10 a0) (em (mkm 10 a0) a1)) (fun q => q.2) (em (mkm 10 a0) a1, N (mkm 10 a0)) ⟨rfl, rfl, rfl, rfl, rfl, trivial⟩ (fun _ h => h) ⟨⟨by simp; omega, by simp; omega⟩, rfl⟩ ?_
  intro q hq
  have hq2 := hq.le
  refine CW.seq ?_
  refine CW.seq ?_
  refine CW.reg [0, 1] rfl ?_   -- 9, more.go:18
  refine s_mv 38 rfl rfl ?_
  refine s_ne 39 rfl rfl rfl rfl ?_
  refine SX.next ?_
  refine CW.test rfl (fun hc => ?_) (fun hc => ?_)
  · skip
    refine CW.skip ?_
    refine KN.code ?_
    refine CW.block ?_
    refine CW.regD (.st true 0 (.st true 1 (.st true 2 (.st true 3 (.st true 4 (.st true 5 .done)))))) (Sto w [fieldA g (mkm 10 a0)]) mixed (by kernel_rfl) (fun _ h => h.drew) (fun _ h => h) ?_
    refine s_mv 40 rfl rfl ?_
    refine s_mv 41 rfl rfl ?_
    refine s_mv 42 rfl rfl ?_
    refine s_rem 43 rfl rfl rfl (by omega) (natmod_tmod _ _) ?_
    refine s_as 9 rfl rfl ?_
    refine s_as 10 rfl rfl ?_
    refine SX.end_ ?_
    refine KN.blk ?_
    exact KN.back (q.2, q.1 % q.2) ⟨rfl, rfl, rfl, rfl, rfl, trivial⟩ (fun _ h => h) (hq.next (by omega)) (Nat.mod_lt _ (by omega))
  · skip
    have hl := hq.last hc
    refine CW.exit rfl ?_
    refine KN.code ?_
    refine CW.seq ?_
    refine CW.reg [0, 1, 2, 3, 4, 5, 6, 7, 8, 9] rfl ?_   -- 11, more.go:21
    refine s_mv 45 rfl rfl ?_
    refine s_mv 46 rfl rfl ?_
    refine s_mv 47 rfl rfl ?_
    refine s_call1 48 rfl rfl rfl rfl (fun w hw => expN hm (hw.has (i := 0) rfl) hn) (fun _ _ => trivial) ?_
    refine s_call1 49 rfl rfl rfl rfl (fun w hw => orderN hm (hw.has (i := 0) rfl) (ex_lt hm _).2 hne) (fun _ _ => trivial) ?_
    refine s_mv 44 rfl rfl ?_
    refine s_ext 50 rfl rfl rfl ?_
    refine s_ext 51 rfl rfl rfl ?_
    refine s_as 11 rfl rfl ?_
    refine s_as 12 rfl rfl ?_
    refine SX.next ?_
    refine CW.seq ?_
    refine CW.reg [0, 1, 2, 3, 4, 5, 6, 7, 8, 9] rfl ?_   -- 12, more.go:22
    refine s_mv 52 rfl rfl ?_
    refine s_eqNN 53 rfl rfl ?_
    refine s_mv 54 rfl rfl ?_
    refine s_mv 55 rfl rfl ?_
    refine s_mv 56 rfl rfl ?_
    refine s_mv 57 rfl rfl ?_
    refine s_quo 58 rfl rfl rfl (by have := gcd_pos hm (em (mkm 10 a0) a1); omega) (quoN _ _ (by omega)) ?_
    refine s_eq 59 rfl rfl rfl (cor (by rw [hl]; exact ord_ex hm hn)) ?_
    refine s_pickT 60 rfl rfl rfl ?_
    refine s_as 4 rfl rfl ?_
    refine SX.next ?_
    refine CW.ret ?_
    exact KN.ret (rs := [.tmp 4]) Tryd.results4 rfl (fun w hw => ⟨rfl, hw.nothing⟩)

theorem walk_FieldRoots (a0 : Int) (a1 : Int) (e : Nat → Addr) (w : World) (hz : Er e w 0) (hfe : Er e w 1) : Spec1 Tryd.prog 5 [.int .i64 a0, .int .i64 a1] w (.bool true) := by
  have hm := mkm_ok (k := 10) (by omega) (by omega) a0
  have hN := N_pos hm
  have hN1 := N_succ (mkm 10 a0)
  have ha := lo_lt (mkm 10 a0) a1
  have hr := pw_lt hm (lo (mkm 10 a0) a1) ((2 ^ (mkm 10 a0 - 1) : Nat) : Int)
  have hk14 := hm.hi
  have hk3 := hm.lo
  refine spec_of Tryd.func5 rfl Tryd.ntmps5 rfl ?_
  refine CW.seq ?_
  refine CW.reg [0] rfl ?_   -- 0, more.go:26
  refine s_as 4 rfl rfl ?_
  refine SX.next ?_
  refine CW.seq ?_
  refine CW.reg [0, 1] rfl ?_   -- 1, more.go:27
  refine s_call1 12 rfl rfl rfl rfl (fun w hw => first_spec e _ (hw.er hz) (hw.er hfe)) (fun _ _ => trivial) ?_
  refine s_as 5 rfl rfl ?_
  refine SX.next ?_
  refine CW.seq ?_
  refine CW.reg [0, 1, 2, 3, 4, 5, 6] rfl ?_   -- 2, more.go:28
  refine s_mv 14 rfl rfl ?_
  refine s_call 15 rfl rfl rfl rfl (fun w hw => made_spec a0 w) (fun _ _ => trivial) (fun g _ => ?_)
  refine s_mv 13 rfl rfl ?_
  refine s_ext 16 rfl rfl rfl ?_
  refine s_ext 17 rfl rfl rfl ?_
  refine s_as 6 rfl rfl ?_
  refine s_as 7 rfl rfl ?_
  refine SX.next ?_
  refine CW.seq ?_
  refine CW.seq ?_
  refine CW.reg [0, 1, 2, 3, 4, 5] rfl ?_   -- 3, more.go:29
  refine s_mv 18 rfl rfl ?_
  refine s_eqPN 19 rfl rfl ?_
  refine s_mv 20 rfl rfl ?_
  refine s_mv 21 rfl rfl ?_
  refine s_not 22 rfl rfl ?_
  refine s_pickF 23 rfl rfl rfl ?_
  refine SX.next ?_
  refine CW.condF rfl ?_
  refine CW.skip ?_
  refine KN.code ?_
  refine CW.seq ?_
  refine CW.reg [0, 1, 2, 3] rfl ?_   -- 5, more.go:32
  refine s_mv 24 rfl rfl ?_
  refine s_mv 25 rfl rfl ?_
  refine s_call1 26 rfl rfl rfl rfl (fun w hw => rlow_spec _ _ _ hm) (fun _ _ => trivial) ?_
  refine s_as 1 rfl rfl ?_
  refine SX.next ?_
  refine CW.seq ?_
  refine CW.reg [0, 1, 2, 3, 4, 5, 6, 7] rfl ?_   -- 6, more.go:33
  refine s_mv 27 rfl rfl ?_
  refine s_mv 28 rfl rfl ?_
  refine s_mv 29 rfl rfl ?_
  refine s_sub 30 rfl rfl rfl (r := ((mkm 10 a0 - 1 : Nat) : Int)) (by rw [show ((mkm 10 a0 : Nat) : Int) - 1 = ((mkm 10 a0 - 1 : Nat) : Int) by omega]; exact w64 (by omega)) ?_
  refine s_conv 31 rfl rfl (wu64 (by omega)) ?_
  refine s_shl 32 rfl rfl rfl (by omega) (r := ((2 ^ (mkm 10 a0 - 1) : Nat) : Int)) (shl_one1 hm) ?_
  refine s_call1 33 rfl rfl rfl rfl (fun w hw => powN hm (hw.has (i := 0) rfl) (hw.er hz) ha) (fun _ _ => trivial) ?_
  refine s_as 8 rfl rfl ?_
  refine SX.next ?_
  refine CW.seq ?_
  refine CW.reg [0, 1] rfl ?_   -- 7, more.go:34
  refine s_mv 34 rfl rfl ?_
  refine s_as 9 rfl rfl ?_
  refine SX.next ?_
  refine CW.seq ?_
  refine CW.seq ?_
  refine CW.reg [0] rfl ?_   -- 8, more.go:35
  refine s_as 10 rfl rfl ?_
  refine SX.next ?_
  refine CW.block ?_
  refine CW.loop (G := Nat) (fun k => [(6, .pointer (some ⟨g, 0, none⟩)), (7, .int .i64 (mkm 10 a0 : Nat)), (1, .int .i64 (lo (mkm 10 a0) a1 : Nat)), (8, .int .i64 (pw (mkm 10 a0) (lo (mkm 10 a0) a1) ((2 ^ (mkm 10 a0 - 1) : Nat)) : Nat)), (9, .int .i64 (sqk (mkm 10 a0) k (lo (mkm 10 a0) a1) : Nat)), (10, .int .i64 (k : Nat))]) (fun _ => (Sto w [fieldA g (mkm 10 a0)])) (fun k => k ≤ mkm 10 a0) (fun k => mkm 10 a0 - k) 0 ⟨rfl, rfl, rfl, rfl, rfl, rfl, trivial⟩ (fun _ h => h) (Nat.zero_le _) ?_
  intro k hk
  refine CW.seq ?_
  refine CW.seq ?_
  refine CW.reg [0, 1, 2] rfl ?_   -- 9, more.go:35
  refine s_mv 35 rfl rfl ?_
  refine s_mv 36 rfl rfl ?_
  refine s_lt 37 rfl rfl rfl rfl ?_
  refine SX.next ?_
  refine CW.test rfl (fun hc => ?_) (fun hc => ?_)
  · skip
    refine CW.skip ?_
    refine KN.code ?_
    refine CW.seq ?_
    refine CW.block ?_
    refine CW.reg [0, 1, 2, 3, 4] rfl ?_   -- 11, more.go:36
    refine s_mv 40 rfl rfl ?_
    refine s_mv 41 rfl rfl ?_
    refine s_mv 42 rfl rfl ?_
    refine s_call1 43 rfl rfl rfl rfl (fun w hw => mulN hm (hw.has (i := 0) rfl) (sqk_lt hm k ha) (sqk_lt hm k ha)) (fun _ _ => trivial) ?_
    refine s_as 9 rfl rfl ?_
    refine SX.end_ ?_
    refine KN.blk ?_
    refine KN.code ?_
    refine CW.reg [0, 1, 2] rfl ?_   -- 10, more.go:35
    refine s_mv 38 rfl rfl ?_
    refine s_add 39 rfl rfl rfl (r := ((k + 1 : Nat) : Int)) (w64 (by omega)) ?_
    refine s_as 10 rfl rfl ?_
    refine SX.end_ ?_
    exact KN.back (k + 1) ⟨rfl, rfl, rfl, rfl, rfl, rfl, trivial⟩ (fun _ h => h) (by omega) (by omega)
  · skip
    obtain rfl : k = mkm 10 a0 := by omega
    refine CW.exit rfl ?_
    refine KN.code ?_
    refine CW.seq ?_
    refine CW.reg [0, 1, 2, 3] rfl ?_   -- 12, more.go:38
    refine s_mv 44 rfl rfl ?_
    refine s_mv 45 rfl rfl ?_
    refine s_call1 46 rfl rfl rfl rfl (fun w hw => addN hm (hw.has (i := 0) rfl) hr (one_lt hm)) (fun _ _ => trivial) ?_
    refine s_as 11 rfl rfl ?_
    refine SX.next ?_
    refine CW.seq ?_
    refine CW.reg [0, 1, 2, 3, 4, 5, 6, 7, 8, 9, 10, 11, 12, 13, 14, 15, 16, 17, 18, 19] rfl ?_   -- 13, more.go:39
    refine s_mv 47 rfl rfl ?_
    refine s_mv 48 rfl rfl ?_
    refine s_mv 49 rfl rfl ?_
    refine s_call1 50 rfl rfl rfl rfl (fun w hw => mulN hm (hw.has (i := 0) rfl) hr hr) (fun _ _ => trivial) ?_
    refine s_mv 51 rfl rfl ?_
    refine s_eq 52 rfl rfl rfl (cor (root_sq hm ha)) ?_
    refine s_mv 53 rfl rfl ?_
    refine s_mv 54 rfl rfl ?_
    refine s_mv 55 rfl rfl ?_
    refine s_eq 56 rfl rfl rfl (cor (sqk_m hm ha)) ?_
    refine s_pickT 57 rfl rfl rfl ?_
    refine s_mv 58 rfl rfl ?_
    refine s_mv 59 rfl rfl ?_
    refine s_mv 60 rfl rfl ?_
    refine s_mv 61 rfl rfl ?_
    refine s_call1 62 rfl rfl rfl rfl (fun w hw => mulN hm (hw.has (i := 0) rfl) (xor_lt hr (one_lt hm)) (xor_lt hr (one_lt hm))) (fun _ _ => trivial) ?_
    refine s_mv 63 rfl rfl ?_
    refine s_ne 64 rfl rfl rfl (decide_eq_true (cne (root_other hm hr (root_sq hm ha)))) ?_
    refine s_pickT 65 rfl rfl rfl ?_
    refine s_as 4 rfl rfl ?_
    refine SX.next ?_
    refine CW.ret ?_
    exact KN.ret (rs := [.tmp 4]) Tryd.results5 rfl (fun w hw => ⟨rfl, hw.nothing⟩)

/-- The lowest sixteen bits. -/
def msk (n : Int) : Nat := (n % 65536).toNat
theorem msk_lt (n : Int) : msk n < 65536 := by unfold msk; omega
theorem msk_eq (n : Int) : ibit .and .i64 n 65535 = (msk n : Nat) := by
  rw [ibit_and_mask n (m := 16) (by omega) (by decide)]
  unfold msk
  show n % 65536 = _
  omega
theorem msk_mul (n o : Int) : IntKind.i64.wrap (((msk n : Nat) : Int) * (msk o : Nat)) = ((msk n : Nat) : Int) * (msk o : Nat) := by
  have h1 := msk_lt n
  have h2 := msk_lt o
  have : msk n * msk o ≤ 65536 * 65536 := Nat.mul_le_mul (by omega) (by omega)
  rw [← Int.natCast_mul]
  generalize msk n * msk o = z at this ⊢
  exact w64 (by omega)

theorem walk_FieldLaws (a0 : Int) (a1 : Int) (a2 : Int) (a3 : Int) (a4 : Int) (a5 : Int) (e : Nat → Addr) (w : World) (hz : Er e w 0) (hfe : Er e w 1) : Spec1 Tryd.prog 7 [.int .i64 a0, .int .i64 a1, .int .i64 a2, .int .i64 a3, .int .i64 a4, .int .i64 a5] w (.bool true) := by
  have hm := mkm_ok (k := 10) (by omega) (by omega) a0
  have hN := N_pos hm
  have hN1 := N_succ (mkm 10 a0)
  have hA := lo_lt (mkm 10 a0) a1
  have hB := lo_lt (mkm 10 a0) a2
  have hC := lo_lt (mkm 10 a0) a3
  have hn := msk_lt a4
  have ho := msk_lt a5
  refine spec_of Tryd.func7 rfl Tryd.ntmps7 rfl ?_
  refine CW.seq ?_
  refine CW.reg [0] rfl ?_   -- 0, law.go:76
  refine s_as 12 rfl rfl ?_
  refine SX.next ?_
  refine CW.seq ?_
  refine CW.reg [0, 1] rfl ?_   -- 1, law.go:77
  refine s_call1 29 rfl rfl rfl rfl (fun w hw => first_spec e _ (hw.er hz) (hw.er hfe)) (fun _ _ => trivial) ?_
  refine s_as 13 rfl rfl ?_
  refine SX.next ?_
  refine CW.seq ?_
  refine CW.reg [0, 1, 2, 3, 4, 5, 6] rfl ?_   -- 2, law.go:78
  refine s_mv 31 rfl rfl ?_
  refine s_call 32 rfl rfl rfl rfl (fun w hw => made_spec a0 w) (fun _ _ => trivial) (fun g _ => ?_)
  refine s_mv 30 rfl rfl ?_
  refine s_ext 33 rfl rfl rfl ?_
  refine s_ext 34 rfl rfl rfl ?_
  refine s_as 14 rfl rfl ?_
  refine s_as 15 rfl rfl ?_
  refine SX.next ?_
  refine CW.seq ?_
  refine CW.seq ?_
  refine CW.reg [0, 1, 2, 3, 4, 5] rfl ?_   -- 3, law.go:79
  refine s_mv 35 rfl rfl ?_
  refine s_eqPN 36 rfl rfl ?_
  refine s_mv 37 rfl rfl ?_
  refine s_mv 38 rfl rfl ?_
  refine s_not 39 rfl rfl ?_
  refine s_pickF 40 rfl rfl rfl ?_
  refine SX.next ?_
  refine CW.condF rfl ?_
  refine CW.skip ?_
  refine KN.code ?_
  refine CW.seq ?_
  refine CW.reg [0, 1, 2, 3, 4] rfl ?_   -- 5, law.go:82
  refine s_mv 41 rfl rfl ?_
  refine s_conv 42 rfl rfl (u64_nat hm) ?_
  refine s_shl 43 rfl rfl rfl (by omega) (shl_one hm) ?_
  refine s_sub 44 rfl rfl rfl (r := (N (mkm 10 a0) : Nat)) (by rw [sizem1]; exact w64 (by omega)) ?_
  refine s_as 16 rfl rfl ?_
  refine SX.next ?_
  refine CW.seq ?_
  refine CW.reg [0, 1, 2, 3] rfl ?_   -- 6, law.go:83
  refine s_mv 45 rfl rfl ?_
  refine s_mv 46 rfl rfl ?_
  refine s_call1 47 rfl rfl rfl rfl (fun w hw => rlow_spec _ _ _ hm) (fun _ _ => trivial) ?_
  refine s_as 1 rfl rfl ?_
  refine SX.next ?_
  refine CW.seq ?_
  refine CW.reg [0, 1, 2, 3] rfl ?_   -- 7, law.go:84
  refine s_mv 48 rfl rfl ?_
  refine s_mv 49 rfl rfl ?_
  refine s_call1 50 rfl rfl rfl rfl (fun w hw => rlow_spec _ _ _ hm) (fun _ _ => trivial) ?_
  refine s_as 2 rfl rfl ?_
  refine SX.next ?_
  refine CW.seq ?_
  refine CW.reg [0, 1, 2, 3] rfl ?_   -- 8, law.go:85
  refine s_mv 51 rfl rfl ?_
  refine s_mv 52 rfl rfl ?_
  refine s_call1 53 rfl rfl rfl rfl (fun w hw => rlow_spec _ _ _ hm) (fun _ _ => trivial) ?_
  refine s_as 3 rfl rfl ?_
  refine SX.next ?_
  refine CW.seq ?_
  refine CW.reg [0, 1, 2] rfl ?_   -- 9, law.go:86
  refine s_mv 54 rfl rfl ?_
  refine s_bit 55 rfl rfl rfl rfl (msk_eq a4) ?_
  refine s_as 4 rfl rfl ?_
  refine SX.next ?_
  refine CW.seq ?_
  refine CW.reg [0, 1, 2] rfl ?_   -- 10, law.go:87
  refine s_mv 56 rfl rfl ?_
  refine s_bit 57 rfl rfl rfl rfl (msk_eq a5) ?_
  refine s_as 5 rfl rfl ?_
  refine SX.next ?_
  refine CW.seq ?_
  refine CW.reg [0, 1, 2, 3, 4, 5, 6, 7, 8, 9, 10, 11, 12, 13, 14, 15, 16, 17, 18, 19, 20, 21, 22, 23, 24, 25, 26, 27, 28, 29, 30, 31, 32, 33, 34, 35, 36, 37, 38, 39, 40, 41, 42, 43, 44, 45, 46, 47, 48, 49, 50, 51, 52, 53, 54, 55, 56, 57, 58, 59, 60, 61, 62, 63, 64, 65, 66, 67, 68, 69, 70, 71, 72, 73, 74, 75, 76, 77, 78, 79, 80, 81, 82, 83] rfl ?_   -- 11, law.go:88
  refine s_mv 58 rfl rfl ?_
  refine s_mv 59 rfl rfl ?_
  refine s_mv 60 rfl rfl ?_
  refine s_mv 61 rfl rfl ?_
  refine s_mv 62 rfl rfl ?_
  refine s_call1 63 rfl rfl rfl rfl (fun w hw => mulN hm (hw.has (i := 0) rfl) hB hC) (fun _ _ => trivial) ?_
  refine s_call1 64 rfl rfl rfl rfl (fun w hw => mulN hm (hw.has (i := 0) rfl) hA (gm_lt hm hB _)) (fun _ _ => trivial) ?_
  refine s_mv 65 rfl rfl ?_
  refine s_mv 66 rfl rfl ?_
  refine s_mv 67 rfl rfl ?_
  refine s_mv 68 rfl rfl ?_
  refine s_call1 69 rfl rfl rfl rfl (fun w hw => mulN hm (hw.has (i := 0) rfl) hA hB) (fun _ _ => trivial) ?_
  refine s_mv 70 rfl rfl ?_
  refine s_call1 71 rfl rfl rfl rfl (fun w hw => mulN hm (hw.has (i := 0) rfl) (gm_lt hm hA _) hC) (fun _ _ => trivial) ?_
  refine s_eq 72 rfl rfl rfl (decide_eq_true (cst (gm_assoc hm hA hB hC).symm)) ?_
  refine s_mv 73 rfl rfl ?_
  refine s_mv 74 rfl rfl ?_
  refine s_mv 75 rfl rfl ?_
  refine s_mv 76 rfl rfl ?_
  refine s_call1 77 rfl rfl rfl rfl (fun w hw => mulN hm (hw.has (i := 0) rfl) hA hB) (fun _ _ => trivial) ?_
  refine s_mv 78 rfl rfl ?_
  refine s_mv 79 rfl rfl ?_
  refine s_mv 80 rfl rfl ?_
  refine s_call1 81 rfl rfl rfl rfl (fun w hw => mulN hm (hw.has (i := 0) rfl) hB hA) (fun _ _ => trivial) ?_
  refine s_eq 82 rfl rfl rfl (decide_eq_true (cst (gm_comm hm hA hB))) ?_
  refine s_pickT 83 rfl rfl rfl ?_
  refine s_mv 84 rfl rfl ?_
  refine s_mv 85 rfl rfl ?_
  refine s_mv 86 rfl rfl ?_
  refine s_mv 87 rfl rfl ?_
  refine s_mv 88 rfl rfl ?_
  refine s_mv 89 rfl rfl ?_
  refine s_call1 90 rfl rfl rfl rfl (fun w hw => addN hm (hw.has (i := 0) rfl) hB hC) (fun _ _ => trivial) ?_
  refine s_call1 91 rfl rfl rfl rfl (fun w hw => mulN hm (hw.has (i := 0) rfl) hA (xor_lt hB hC)) (fun _ _ => trivial) ?_
  refine s_mv 92 rfl rfl ?_
  refine s_mv 93 rfl rfl ?_
  refine s_mv 94 rfl rfl ?_
  refine s_mv 95 rfl rfl ?_
  refine s_call1 96 rfl rfl rfl rfl (fun w hw => mulN hm (hw.has (i := 0) rfl) hA hB) (fun _ _ => trivial) ?_
  refine s_mv 97 rfl rfl ?_
  refine s_mv 98 rfl rfl ?_
  refine s_mv 99 rfl rfl ?_
  refine s_call1 100 rfl rfl rfl rfl (fun w hw => mulN hm (hw.has (i := 0) rfl) hA hC) (fun _ _ => trivial) ?_
  refine s_call1 101 rfl rfl rfl rfl (fun w hw => addN hm (hw.has (i := 0) rfl) (gm_lt hm hA _) (gm_lt hm hA _)) (fun _ _ => trivial) ?_
  refine s_eq 102 rfl rfl rfl (decide_eq_true (cst (gm_xor_right _ _ _ _))) ?_
  refine s_pickT 103 rfl rfl rfl ?_
  refine s_mv 104 rfl rfl ?_
  refine s_mv 105 rfl rfl ?_
  refine s_mv 106 rfl rfl ?_
  refine s_mv 107 rfl rfl ?_
  refine s_mv 108 rfl rfl ?_
  refine s_mv 109 rfl rfl ?_
  refine s_call1 110 rfl rfl rfl rfl (fun w hw => addN hm (hw.has (i := 0) rfl) hB hC) (fun _ _ => trivial) ?_
  refine s_call1 111 rfl rfl rfl rfl (fun w hw => addN hm (hw.has (i := 0) rfl) hA (xor_lt hB hC)) (fun _ _ => trivial) ?_
  refine s_mv 112 rfl rfl ?_
  refine s_mv 113 rfl rfl ?_
  refine s_mv 114 rfl rfl ?_
  refine s_mv 115 rfl rfl ?_
  refine s_call1 116 rfl rfl rfl rfl (fun w hw => addN hm (hw.has (i := 0) rfl) hA hB) (fun _ _ => trivial) ?_
  refine s_mv 117 rfl rfl ?_
  refine s_call1 118 rfl rfl rfl rfl (fun w hw => addN hm (hw.has (i := 0) rfl) (xor_lt hA hB) hC) (fun _ _ => trivial) ?_
  refine s_eq 119 rfl rfl rfl (decide_eq_true (cst (Nat.xor_assoc _ _ _).symm)) ?_
  refine s_pickT 120 rfl rfl rfl ?_
  refine s_mv 121 rfl rfl ?_
  refine s_mv 122 rfl rfl ?_
  refine s_mv 123 rfl rfl ?_
  refine s_mv 124 rfl rfl ?_
  refine s_call1 125 rfl rfl rfl rfl (fun w hw => addN hm (hw.has (i := 0) rfl) hA hA) (fun _ _ => trivial) ?_
  refine s_eq 126 rfl rfl rfl (decide_eq_true (cst (Nat.xor_self _))) ?_
  refine s_pickT 127 rfl rfl rfl ?_
  refine s_mv 128 rfl rfl ?_
  refine s_mv 129 rfl rfl ?_
  refine s_mv 130 rfl rfl ?_
  refine s_call1 131 rfl rfl rfl rfl (fun w hw => mulN hm (hw.has (i := 0) rfl) hA (one_lt hm)) (fun _ _ => trivial) ?_
  refine s_mv 132 rfl rfl ?_
  refine s_eq 133 rfl rfl rfl (decide_eq_true (cst (gm_one_right hm hA))) ?_
  refine s_pickT 134 rfl rfl rfl ?_
  refine s_mv 135 rfl rfl ?_
  refine s_mv 136 rfl rfl ?_
  refine s_mv 137 rfl rfl ?_
  refine s_call1 138 rfl rfl rfl rfl (fun w hw => mulN hm (hw.has (i := 0) rfl) hA (Nat.two_pow_pos _)) (fun _ _ => trivial) ?_
  refine s_eq 139 rfl rfl rfl (decide_eq_true (cst (gm_zero_right _ _))) ?_
  refine s_pickT 140 rfl rfl rfl ?_
  refine s_as 17 rfl rfl ?_
  refine SX.next ?_
  refine CW.seq ?_
  refine CW.reg [0, 1, 2, 3, 4, 5, 6, 7, 8, 9, 10, 11, 12, 13, 14, 15, 16, 17, 18, 19, 20, 21, 22, 23, 24, 25, 26, 27, 28, 29, 30] rfl ?_   -- 12, law.go:89
  refine s_mv 141 rfl rfl ?_
  refine s_mv 142 rfl rfl ?_
  refine s_mv 143 rfl rfl ?_
  refine s_mv 144 rfl rfl ?_
  refine s_call1 145 rfl rfl rfl rfl (fun w hw => addN hm (hw.has (i := 0) rfl) hA hB) (fun _ _ => trivial) ?_
  refine s_mv 146 rfl rfl ?_
  refine s_mv 147 rfl rfl ?_
  refine s_mv 148 rfl rfl ?_
  refine s_call1 149 rfl rfl rfl rfl (fun w hw => addN hm (hw.has (i := 0) rfl) hA hB) (fun _ _ => trivial) ?_
  refine s_call1 150 rfl rfl rfl rfl (fun w hw => mulN hm (hw.has (i := 0) rfl) (xor_lt hA hB) (xor_lt hA hB)) (fun _ _ => trivial) ?_
  refine s_mv 151 rfl rfl ?_
  refine s_mv 152 rfl rfl ?_
  refine s_mv 153 rfl rfl ?_
  refine s_mv 154 rfl rfl ?_
  refine s_call1 155 rfl rfl rfl rfl (fun w hw => mulN hm (hw.has (i := 0) rfl) hA hA) (fun _ _ => trivial) ?_
  refine s_mv 156 rfl rfl ?_
  refine s_mv 157 rfl rfl ?_
  refine s_mv 158 rfl rfl ?_
  refine s_call1 159 rfl rfl rfl rfl (fun w hw => mulN hm (hw.has (i := 0) rfl) hB hB) (fun _ _ => trivial) ?_
  refine s_call1 160 rfl rfl rfl rfl (fun w hw => addN hm (hw.has (i := 0) rfl) (gm_lt hm hA _) (gm_lt hm hB _)) (fun _ _ => trivial) ?_
  refine s_eq 161 rfl rfl rfl (decide_eq_true (cst (sq_xor hm hA hB))) ?_
  refine s_mv 162 rfl rfl ?_
  refine s_mv 163 rfl rfl ?_
  refine s_mv 164 rfl rfl ?_
  refine s_mv 165 rfl rfl ?_
  refine s_add 166 rfl rfl rfl (r := ((N (mkm 10 a0) : Nat) : Int) + 1) (w64 (by omega)) ?_
  refine s_call1 167 rfl rfl rfl rfl (fun w hw => powN hm (hw.has (i := 0) rfl) (hw.er hz) hA) (fun _ _ => trivial) ?_
  refine s_mv 168 rfl rfl ?_
  refine s_eq 169 rfl rfl rfl (decide_eq_true (cst (pw_N1 hm hA))) ?_
  refine s_pickT 170 rfl rfl rfl ?_
  refine s_as 18 rfl rfl ?_
  refine SX.next ?_
  refine CW.seq ?_
  refine CW.reg [0, 1, 2, 3, 4, 5, 6, 7, 8, 9, 10, 11, 12, 13, 14, 15, 16, 17, 18, 19, 20, 21, 22, 23, 24, 25, 26, 27, 28, 29, 30, 31, 32, 33, 34] rfl ?_   -- 13, law.go:90
  refine s_mv 171 rfl rfl ?_
  refine s_mv 172 rfl rfl ?_
  refine s_mv 173 rfl rfl ?_
  refine s_add 174 rfl rfl rfl (w64 (by omega)) ?_
  refine s_call1 175 rfl rfl rfl rfl (fun w hw => exp_spec g _ _ _ hm (hw.has (i := 0) rfl)) (fun _ _ => trivial) ?_
  refine s_mv 176 rfl rfl ?_
  refine s_mv 177 rfl rfl ?_
  refine s_mv 178 rfl rfl ?_
  refine s_call1 179 rfl rfl rfl rfl (fun w hw => exp_spec g _ _ _ hm (hw.has (i := 0) rfl)) (fun _ _ => trivial) ?_
  refine s_mv 180 rfl rfl ?_
  refine s_mv 181 rfl rfl ?_
  refine s_call1 182 rfl rfl rfl rfl (fun w hw => exp_spec g _ _ _ hm (hw.has (i := 0) rfl)) (fun _ _ => trivial) ?_
  refine s_call1 183 rfl rfl rfl rfl (fun w hw => mulN hm (hw.has (i := 0) rfl) (ex_lt hm _).2 (ex_lt hm _).2) (fun _ _ => trivial) ?_
  refine s_eq 184 rfl rfl rfl (decide_eq_true (cst (ex_em_add hm _ _))) ?_
  refine s_mv 185 rfl rfl ?_
  refine s_mv 186 rfl rfl ?_
  refine s_mv 187 rfl rfl ?_
  refine s_call1 188 rfl rfl rfl rfl (fun w hw => exp_spec g _ _ _ hm (hw.has (i := 0) rfl)) (fun _ _ => trivial) ?_
  refine s_eq 189 rfl rfl rfl (decide_eq_true (cst (ex_em_N hm))) ?_
  refine s_pickT 190 rfl rfl rfl ?_
  refine s_mv 191 rfl rfl ?_
  refine s_mv 192 rfl rfl ?_
  refine s_mv 193 rfl rfl ?_
  refine s_mv 194 rfl rfl ?_
  refine s_call1 195 rfl rfl rfl rfl (fun w hw => exp_spec g _ _ _ hm (hw.has (i := 0) rfl)) (fun _ _ => trivial) ?_
  refine s_mv 196 rfl rfl ?_
  refine s_call1 197 rfl rfl rfl rfl (fun w hw => powN hm (hw.has (i := 0) rfl) (hw.er hz) (ex_lt hm _).2) (fun _ _ => trivial) ?_
  refine s_mv 198 rfl rfl ?_
  refine s_mv 199 rfl rfl ?_
  refine s_mv 200 rfl rfl ?_
  refine s_mul 201 rfl rfl rfl (msk_mul a4 a5) ?_
  refine s_call1 202 rfl rfl rfl rfl (fun w hw => exp_spec g _ _ _ hm (hw.has (i := 0) rfl)) (fun _ _ => trivial) ?_
  refine s_eq 203 rfl rfl rfl (decide_eq_true (cst (pw_ex hm _ _))) ?_
  refine s_pickT 204 rfl rfl rfl ?_
  refine s_as 19 rfl rfl ?_
  refine SX.next ?_
  refine CW.seq ?_
  refine CW.reg [0, 1, 2, 3, 4, 5, 6, 7, 8, 9, 10, 11, 12, 13, 14, 15, 16, 17, 18, 19, 20, 21, 22, 23, 24, 25, 26] rfl ?_   -- 14, law.go:91
  refine s_mv 205 rfl rfl ?_
  refine s_mv 206 rfl rfl ?_
  refine s_mv 207 rfl rfl ?_
  refine s_mv 208 rfl rfl ?_
  refine s_call1 209 rfl rfl rfl rfl (fun w hw => addN hm (hw.has (i := 0) rfl) hA hB) (fun _ _ => trivial) ?_
  refine s_call1 210 rfl rfl rfl rfl (fun w hw => traceN hm (hw.has (i := 0) rfl) (xor_lt hA hB)) (fun _ _ => trivial) ?_
  refine s_mv 211 rfl rfl ?_
  refine s_mv 212 rfl rfl ?_
  refine s_call1 213 rfl rfl rfl rfl (fun w hw => traceN hm (hw.has (i := 0) rfl) hA) (fun _ _ => trivial) ?_
  refine s_mv 214 rfl rfl ?_
  refine s_mv 215 rfl rfl ?_
  refine s_call1 216 rfl rfl rfl rfl (fun w hw => traceN hm (hw.has (i := 0) rfl) hB) (fun _ _ => trivial) ?_
  refine s_bit 217 rfl rfl rfl rfl (ibit_xor_nat (pow63 hm (trk_lt hm _ hA)) (pow63 hm (trk_lt hm _ hB))) ?_
  refine s_eq 218 rfl rfl rfl (decide_eq_true (cst (tr_xor hm hA hB))) ?_
  refine s_mv 219 rfl rfl ?_
  refine s_mv 220 rfl rfl ?_
  refine s_mv 221 rfl rfl ?_
  refine s_mv 222 rfl rfl ?_
  refine s_mv 223 rfl rfl ?_
  refine s_call1 224 rfl rfl rfl rfl (fun w hw => mulN hm (hw.has (i := 0) rfl) hA hA) (fun _ _ => trivial) ?_
  refine s_call1 225 rfl rfl rfl rfl (fun w hw => traceN hm (hw.has (i := 0) rfl) (gm_lt hm hA _)) (fun _ _ => trivial) ?_
  refine s_mv 226 rfl rfl ?_
  refine s_mv 227 rfl rfl ?_
  refine s_call1 228 rfl rfl rfl rfl (fun w hw => traceN hm (hw.has (i := 0) rfl) hA) (fun _ _ => trivial) ?_
  refine s_eq 229 rfl rfl rfl (decide_eq_true (cst (tr_sq hm hA))) ?_
  refine s_pickT 230 rfl rfl rfl ?_
  refine s_as 20 rfl rfl ?_
  refine SX.next ?_
  refine CW.seq ?_
  refine CW.seq ?_
  refine CW.reg [0, 1, 2, 3, 4, 5, 6, 7, 8, 9, 10, 11, 12, 13] rfl ?_   -- 15, law.go:92
  refine s_mv 231 rfl rfl ?_
  refine s_not 232 rfl rfl ?_
  refine s_mv 233 rfl rfl ?_
  refine s_mv 234 rfl rfl ?_
  refine s_not 235 rfl rfl ?_
  refine s_pickF 236 rfl rfl rfl ?_
  refine s_mv 237 rfl rfl ?_
  refine s_mv 238 rfl rfl ?_
  refine s_not 239 rfl rfl ?_
  refine s_pickF 240 rfl rfl rfl ?_
  refine s_mv 241 rfl rfl ?_
  refine s_mv 242 rfl rfl ?_
  refine s_not 243 rfl rfl ?_
  refine s_pickF 244 rfl rfl rfl ?_
  refine SX.next ?_
  refine CW.condF rfl ?_
  refine CW.skip ?_
  refine KN.code ?_
  refine CW.seq ?_
  refine CW.seq ?_
  refine CW.reg [0, 1] rfl ?_   -- 17, law.go:95
  refine s_mv 245 rfl rfl ?_
  refine s_eq 246 rfl rfl rfl rfl ?_
  refine SX.next ?_
  refine CW.test rfl (fun hc => ?_) (fun hc => ?_)
  · skip
    refine CW.seq ?_
    refine CW.reg [0] rfl ?_   -- 18, law.go:96
    refine s_as 12 rfl rfl ?_
    refine SX.next ?_
    refine CW.ret ?_
    exact KN.ret (rs := [.tmp 12]) Tryd.results7 rfl (fun w hw => ⟨rfl, hw.nothing⟩)
  · skip
    have h0 : lo (mkm 10 a0) a1 ≠ 0 := fun h => hc (cst h)
    have hob := ord_pos hm (lo (mkm 10 a0) a1)
    have hob2 := ord_bd hm (lo (mkm 10 a0) a1)
    have hlg := lg_bd hm (x := lo (mkm 10 a0) a1) (by omega) hA
    refine CW.skip ?_
    refine KN.code ?_
    refine CW.seq ?_
    refine CW.reg [0, 1, 2, 3, 4, 5, 6, 7] rfl ?_   -- 19, law.go:98
    refine s_mv 248 rfl rfl ?_
    refine s_mv 249 rfl rfl ?_
    refine s_call1 250 rfl rfl rfl rfl (fun w hw => invN hm (hw.has (i := 0) rfl) hA h0) (fun _ _ => trivial) ?_
    refine s_mv 247 rfl rfl ?_
    refine s_ext 251 rfl rfl rfl ?_
    refine s_ext 252 rfl rfl rfl ?_
    refine s_as 21 rfl rfl ?_
    refine s_as 22 rfl rfl ?_
    refine SX.next ?_
    refine CW.seq ?_
    refine CW.reg [0, 1, 2, 3, 4, 5, 6, 7] rfl ?_   -- 20, law.go:99
    refine s_mv 254 rfl rfl ?_
    refine s_mv 255 rfl rfl ?_
    refine s_call1 256 rfl rfl rfl rfl (fun w hw => logN hm (hw.has (i := 0) rfl) hA h0) (fun _ _ => trivial) ?_
    refine s_mv 253 rfl rfl ?_
    refine s_ext 257 rfl rfl rfl ?_
    refine s_ext 258 rfl rfl rfl ?_
    refine s_as 23 rfl rfl ?_
    refine s_as 24 rfl rfl ?_
    refine SX.next ?_
    refine CW.seq ?_
    refine CW.reg [0, 1, 2, 3, 4, 5, 6, 7] rfl ?_   -- 21, law.go:100
    refine s_mv 260 rfl rfl ?_
    refine s_mv 261 rfl rfl ?_
    refine s_call1 262 rfl rfl rfl rfl (fun w hw => orderN hm (hw.has (i := 0) rfl) hA h0) (fun _ _ => trivial) ?_
    refine s_mv 259 rfl rfl ?_
    refine s_ext 263 rfl rfl rfl ?_
    refine s_ext 264 rfl rfl rfl ?_
    refine s_as 25 rfl rfl ?_
    refine s_as 26 rfl rfl ?_
    refine SX.next ?_
    refine CW.seq ?_
    refine CW.reg [0, 1, 2, 3, 4, 5, 6, 7, 8, 9, 10, 11] rfl ?_   -- 22, law.go:101
    refine s_mv 266 rfl rfl ?_
    refine s_mv 267 rfl rfl ?_
    refine s_mv 268 rfl rfl ?_
    refine s_mv 269 rfl rfl ?_
    refine s_call1 270 rfl rfl rfl rfl (fun w hw => mulN hm (hw.has (i := 0) rfl) hA hB) (fun _ _ => trivial) ?_
    refine s_mv 271 rfl rfl ?_
    refine s_call1 272 rfl rfl rfl rfl (fun w hw => divN hm (hw.has (i := 0) rfl) (gm_lt hm hA _) hA h0) (fun _ _ => trivial) ?_
    refine s_mv 265 rfl rfl ?_
    refine s_ext 273 rfl rfl rfl ?_
    refine s_ext 274 rfl rfl rfl ?_
    refine s_as 27 rfl rfl ?_
    refine s_as 28 rfl rfl ?_
    refine SX.next ?_
    refine CW.seq ?_
    refine CW.reg [0, 1, 2, 3, 4, 5, 6, 7, 8, 9, 10, 11, 12, 13, 14, 15, 16, 17, 18, 19, 20, 21, 22, 23, 24, 25, 26, 27, 28, 29, 30, 31, 32, 33, 34, 35, 36, 37, 38, 39, 40, 41, 42, 43, 44, 45, 46, 47, 48, 49, 50, 51, 52, 53, 54, 55, 56, 57, 58, 59, 60, 61, 62, 63, 64, 65, 66, 67, 68, 69, 70, 71, 72, 73, 74, 75, 76, 77] rfl ?_   -- 23, law.go:102
    refine s_mv 275 rfl rfl ?_
    refine s_eqNN 276 rfl rfl ?_
    refine s_mv 277 rfl rfl ?_
    refine s_mv 278 rfl rfl ?_
    refine s_eqNN 279 rfl rfl ?_
    refine s_pickT 280 rfl rfl rfl ?_
    refine s_mv 281 rfl rfl ?_
    refine s_mv 282 rfl rfl ?_
    refine s_eqNN 283 rfl rfl ?_
    refine s_pickT 284 rfl rfl rfl ?_
    refine s_mv 285 rfl rfl ?_
    refine s_mv 286 rfl rfl ?_
    refine s_eqNN 287 rfl rfl ?_
    refine s_pickT 288 rfl rfl rfl ?_
    refine s_mv 289 rfl rfl ?_
    refine s_mv 290 rfl rfl ?_
    refine s_mv 291 rfl rfl ?_
    refine s_mv 292 rfl rfl ?_
    refine s_call1 293 rfl rfl rfl rfl (fun w hw => mulN hm (hw.has (i := 0) rfl) hA (inv_lt hm _)) (fun _ _ => trivial) ?_
    refine s_eq 294 rfl rfl rfl (decide_eq_true (cst (gm_inv hm hA h0))) ?_
    refine s_pickT 295 rfl rfl rfl ?_
    refine s_mv 296 rfl rfl ?_
    refine s_mv 297 rfl rfl ?_
    refine s_mv 298 rfl rfl ?_
    refine s_call1 299 rfl rfl rfl rfl (fun w hw => exp_spec g _ _ _ hm (hw.has (i := 0) rfl)) (fun _ _ => trivial) ?_
    refine s_mv 300 rfl rfl ?_
    refine s_eq 301 rfl rfl rfl (decide_eq_true (cst (ex_em_lg hm hA h0))) ?_
    refine s_pickT 302 rfl rfl rfl ?_
    refine s_mv 303 rfl rfl ?_
    refine s_mv 304 rfl rfl ?_
    refine s_ge 305 rfl rfl rfl (decide_eq_true (by omega)) ?_
    refine s_pickT 306 rfl rfl rfl ?_
    refine s_mv 307 rfl rfl ?_
    refine s_mv 308 rfl rfl ?_
    refine s_mv 309 rfl rfl ?_
    refine s_lt 310 rfl rfl rfl (decide_eq_true (by omega)) ?_
    refine s_pickT 311 rfl rfl rfl ?_
    refine s_mv 312 rfl rfl ?_
    refine s_mv 313 rfl rfl ?_
    refine s_gt 314 rfl rfl rfl (decide_eq_true (by omega)) ?_
    refine s_pickT 315 rfl rfl rfl ?_
    refine s_mv 316 rfl rfl ?_
    refine s_mv 317 rfl rfl ?_
    refine s_mv 318 rfl rfl ?_
    refine s_rem 319 rfl rfl rfl (by omega) (natmod_tmod _ _) ?_
    refine s_eq 320 rfl rfl rfl (decide_eq_true (cst (ord_dvd _ _))) ?_
    refine s_pickT 321 rfl rfl rfl ?_
    refine s_mv 322 rfl rfl ?_
    refine s_mv 323 rfl rfl ?_
    refine s_mv 324 rfl rfl ?_
    refine s_mv 325 rfl rfl ?_
    refine s_call1 326 rfl rfl rfl rfl (fun w hw => powN hm (hw.has (i := 0) rfl) (hw.er hz) hA) (fun _ _ => trivial) ?_
    refine s_eq 327 rfl rfl rfl (decide_eq_true (cst (pw_ord hm hA h0))) ?_
    refine s_pickT 328 rfl rfl rfl ?_
    refine s_mv 329 rfl rfl ?_
    refine s_mv 330 rfl rfl ?_
    refine s_mv 331 rfl rfl ?_
    refine s_eq 332 rfl rfl rfl (decide_eq_true (cst (div_back hm hA hB h0))) ?_
    refine s_pickT 333 rfl rfl rfl ?_
    refine s_mv 334 rfl rfl ?_
    refine s_mv 335 rfl rfl ?_
    refine s_mv 336 rfl rfl ?_
    refine s_call1 337 rfl rfl rfl rfl (fun w hw => powN hm (hw.has (i := 0) rfl) (hw.er hz) hA) (fun _ _ => trivial) ?_
    refine s_mv 338 rfl rfl ?_
    refine s_eq 339 rfl rfl rfl (decide_eq_true (cst (pw_neg hm h0))) ?_
    refine s_pickT 340 rfl rfl rfl ?_
    refine s_mv 341 rfl rfl ?_
    refine s_mv 342 rfl rfl ?_
    refine s_eq 343 rfl rfl rfl rfl ?_
    refine s_mv 344 rfl rfl ?_
    refine SX.bool 344 rfl (fun hb => ?_) (fun hb => ?_)
    · skip
      skip
      refine SX.skip rfl ?_
      refine SX.skip rfl ?_
      refine SX.skip rfl ?_
      refine SX.skip rfl ?_
      refine SX.skip rfl ?_
      refine s_pickT 350 rfl rfl rfl ?_
      refine s_pickT 351 rfl rfl rfl ?_
      refine s_as 12 rfl rfl ?_
      refine SX.next ?_
      refine CW.ret ?_
      exact KN.ret (rs := [.tmp 12]) Tryd.results7 rfl (fun w hw => ⟨rfl, hw.nothing⟩)
    · skip
      have hb0 : lo (mkm 10 a0) a2 ≠ 0 := fun h => (of_decide_eq_false hb) (cst h)
      refine s_mv 345 rfl rfl ?_
      refine s_mv 346 rfl rfl ?_
      refine s_mv 347 rfl rfl ?_
      refine s_call1 348 rfl rfl rfl rfl (fun w hw => mulN hm (hw.has (i := 0) rfl) hA hB) (fun _ _ => trivial) ?_
      refine s_ne 349 rfl rfl rfl (decide_eq_true (cne (gm_ne_zero hm hA hB h0 hb0))) ?_
      refine s_pickF 350 rfl rfl rfl ?_
      refine s_pickT 351 rfl rfl rfl ?_
      refine s_as 12 rfl rfl ?_
      refine SX.next ?_
      refine CW.ret ?_
      exact KN.ret (rs := [.tmp 12]) Tryd.results7 rfl (fun w hw => ⟨rfl, hw.nothing⟩)
