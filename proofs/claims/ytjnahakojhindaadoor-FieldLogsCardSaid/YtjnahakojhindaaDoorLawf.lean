/- The statements of chapter 2, walked: each answers true. No condition. -/
import Derived.Test.YtjnahakojhindaaDoorReff
namespace Go.Proofs.YtjnahakojhindaaDoor
open Go.Sx Go.Fm
set_option maxRecDepth 100000
theorem ok4 : Ok 4 := ⟨by decide, by decide⟩
theorem lg43 : lg 4 (lo 4 3) = 4 := lg_ex ok4 (i := 4) (by decide)
theorem lg42 : lg 4 (lo 4 2) = 1 := lg_two ok4
theorem lg48 : lg 4 (lo 4 8) = 3 := lg_ex ok4 (i := 3) (by decide)
theorem inv42 : inv 4 (lo 4 2) = 9 := by unfold inv; rw [lg42]; decide
theorem ord48 : ord 4 (lo 4 8) = 5 := by unfold ord; rw [lg48]; decide
theorem pw42 : pw 4 (lo 4 2) (-1) = 9 := by unfold pw; rw [if_neg (by decide), lg42]; decide
theorem pw40 : pw 4 (lo 4 0) 0 = 1 := by unfold pw; rw [if_pos (by decide)]; rfl
/-- Which m a number makes, of those from 3 on. -/
def mkm (k : Int) (m : Int) : Nat := (m % k).toNat + 3
theorem tmod_lt {k : Int} (hk : 0 < k) (m : Int) : -k < m.tmod k ∧ m.tmod k < k := by
  have h1 := Int.emod_nonneg m (b := k) (by omega)
  have h2 := Int.emod_lt_of_pos m hk
  rw [Int.tmod_eq_emod]
  split <;> omega
theorem mkm_val {k : Int} (hk : 0 < k) (m : Int) : (m.tmod k + k).tmod k = (((m % k).toNat : Nat) : Int) := by
  have h1 := Int.emod_nonneg m (b := k) (by omega)
  have hb := tmod_lt hk m
  rw [Int.tmod_eq_emod_of_nonneg (by omega), Int.add_emod_right, tmod_emod]
  omega
theorem mkm_bd {k : Int} (hk : 0 < k) (m : Int) : 3 ≤ mkm k m ∧ ((mkm k m : Nat) : Int) < k + 3 := by
  have h1 := Int.emod_nonneg m (b := k) (by omega)
  have h2 := Int.emod_lt_of_pos m hk
  unfold mkm
  omega
theorem mkm_ok {k : Int} (hk : 0 < k) (hk2 : k ≤ 12) (m : Int) : Ok (mkm k m) := by
  have := mkm_bd hk m
  exact ⟨this.1, by omega⟩

theorem first_spec (e : Nat → Addr) (w : World) (hz : Er e w 0) (hfe : Er e w 1) : Spec1 Tryd.prog 11 [] w (.bool true) := by
  have h48 : gm 4 (lo 4 8) (lo 4 2) = 3 := by decide
  have h52 : gm 4 (lo 4 9) (lo 4 9) = 13 := by decide
  have h65 : ex 4 (em 4 4) = 3 := by decide
  have h96 : tr 4 (lo 4 8) = 1 := by decide
  have hi := inv42
  have hl := lg43
  have ho := ord48
  have hp1 := pw42
  have hp2 := pw40
  refine spec_of Tryd.func11 rfl Tryd.ntmps11 rfl ?_
  refine CW.seq ?_
  refine CW.reg [0] rfl ?_   -- 0, law.go:23
  refine s_as 0 rfl rfl ?_
  refine SX.next ?_
  refine CW.seq ?_
  refine CW.reg [0, 1, 2, 3, 4, 5] rfl ?_   -- 1, law.go:24
  refine s_call 14 rfl rfl rfl rfl (fun w hw => new_spec 4 w ok4) (fun _ _ => trivial) (fun g _ => ?_)
  refine s_mv 13 rfl rfl ?_
  refine s_ext 15 rfl rfl rfl ?_
  refine s_ext 16 rfl rfl rfl ?_
  refine s_as 1 rfl rfl ?_
  refine s_as 2 rfl rfl ?_
  refine SX.next ?_
  refine CW.seq ?_
  refine CW.seq ?_
  refine CW.reg [0, 1, 2, 3, 4, 5] rfl ?_   -- 2, law.go:25
  refine s_mv 17 rfl rfl ?_
  refine s_eqPN 18 rfl rfl ?_
  refine s_mv 19 rfl rfl ?_
  refine s_mv 20 rfl rfl ?_
  refine s_neNN 21 rfl rfl ?_
  refine s_pickF 22 rfl rfl rfl ?_
  refine SX.next ?_
  refine CW.condF rfl ?_
  refine CW.skip ?_
  refine KN.code ?_
  refine CW.seq ?_
  refine CW.reg [0, 1, 2, 3, 4, 5, 6] rfl ?_   -- 4, law.go:28
  refine s_mv 24 rfl rfl ?_
  refine s_call1 25 rfl rfl rfl rfl (fun w hw => inv_spec g 4 2 _ ok4 (hw.has (i := 0) rfl) (by decide)) (fun _ _ => trivial) ?_
  refine s_mv 23 rfl rfl ?_
  refine s_ext 26 rfl rfl rfl ?_
  refine s_ext 27 rfl rfl rfl ?_
  refine s_as 3 rfl rfl ?_
  refine s_as 4 rfl rfl ?_
  refine SX.next ?_
  refine CW.seq ?_
  refine CW.reg [0, 1, 2, 3, 4, 5, 6] rfl ?_   -- 5, law.go:29
  refine s_mv 29 rfl rfl ?_
  refine s_call1 30 rfl rfl rfl rfl (fun w hw => log_spec g 4 3 _ ok4 (hw.has (i := 0) rfl) (by decide)) (fun _ _ => trivial) ?_
  refine s_mv 28 rfl rfl ?_
  refine s_ext 31 rfl rfl rfl ?_
  refine s_ext 32 rfl rfl rfl ?_
  refine s_as 5 rfl rfl ?_
  refine s_as 6 rfl rfl ?_
  refine SX.next ?_
  refine CW.seq ?_
  refine CW.reg [0, 1, 2, 3, 4, 5, 6] rfl ?_   -- 6, law.go:30
  refine s_mv 34 rfl rfl ?_
  refine s_call1 35 rfl rfl rfl rfl (fun w hw => order_spec g 4 8 _ ok4 (hw.has (i := 0) rfl) (by decide)) (fun _ _ => trivial) ?_
  refine s_mv 33 rfl rfl ?_
  refine s_ext 36 rfl rfl rfl ?_
  refine s_ext 37 rfl rfl rfl ?_
  refine s_as 7 rfl rfl ?_
  refine s_as 8 rfl rfl ?_
  refine SX.next ?_
  refine CW.seq ?_
  refine CW.reg [0, 1, 2, 3, 4, 5, 6] rfl ?_   -- 7, law.go:31
  refine s_mv 39 rfl rfl ?_
  refine s_call1 40 rfl rfl rfl rfl (fun w hw => inv_zero g 4 16 e _ ok4 (hw.has (i := 0) rfl) (hw.er hz) (by decide)) (fun _ _ => trivial) ?_
  refine s_mv 38 rfl rfl ?_
  refine s_ext 41 rfl rfl rfl ?_
  refine s_ext 42 rfl rfl rfl ?_
  refine s_as 9 rfl rfl ?_
  refine s_as 10 rfl rfl ?_
  refine SX.next ?_
  refine CW.seq ?_
  refine CW.reg [0, 1, 2, 3, 4, 5] rfl ?_   -- 8, law.go:32
  refine s_call1 44 rfl rfl rfl rfl (fun w hw => new_bad 2 e w (hw.er hfe) (by omega) (by omega)) (fun _ _ => trivial) ?_
  refine s_mv 43 rfl rfl ?_
  refine s_ext 45 rfl rfl rfl ?_
  refine s_ext 46 rfl rfl rfl ?_
  refine s_as 11 rfl rfl ?_
  refine s_as 12 rfl rfl ?_
  refine SX.next ?_
  refine CW.seq ?_
  refine CW.reg [0, 1, 2, 3, 4, 5, 6, 7, 8, 9, 10, 11, 12, 13, 14, 15, 16, 17, 18, 19, 20, 21, 22, 23, 24, 25, 26, 27, 28, 29, 30, 31, 32, 33, 34, 35, 36, 37, 38, 39, 40, 41, 42, 43, 44, 45, 46, 47, 48, 49, 50, 51, 52, 53, 54, 55, 56, 57, 58, 59, 60, 61, 62] rfl ?_   -- 9, law.go:33
  refine s_mv 47 rfl rfl ?_
  refine s_call1 48 rfl rfl rfl rfl (fun w hw => mul_spec g 4 _ _ _ ok4 (hw.has (i := 0) rfl)) (fun _ _ => trivial) ?_
  refine s_eq 49 rfl rfl rfl (decide_eq_true (by omega)) ?_
  refine s_mv 50 rfl rfl ?_
  refine s_mv 51 rfl rfl ?_
  refine s_call1 52 rfl rfl rfl rfl (fun w hw => mul_spec g 4 _ _ _ ok4 (hw.has (i := 0) rfl)) (fun _ _ => trivial) ?_
  refine s_eq 53 rfl rfl rfl (decide_eq_true (by omega)) ?_
  refine s_pickT 54 rfl rfl rfl ?_
  refine s_mv 55 rfl rfl ?_
  refine s_mv 56 rfl rfl ?_
  refine s_eq 57 rfl rfl rfl (decide_eq_true (by omega)) ?_
  refine s_pickT 58 rfl rfl rfl ?_
  refine s_mv 59 rfl rfl ?_
  refine s_mv 60 rfl rfl ?_
  refine s_eqNN 61 rfl rfl ?_
  refine s_pickT 62 rfl rfl rfl ?_
  refine s_mv 63 rfl rfl ?_
  refine s_mv 64 rfl rfl ?_
  refine s_call1 65 rfl rfl rfl rfl (fun w hw => exp_spec g 4 _ _ ok4 (hw.has (i := 0) rfl)) (fun _ _ => trivial) ?_
  refine s_eq 66 rfl rfl rfl (decide_eq_true (by omega)) ?_
  refine s_pickT 67 rfl rfl rfl ?_
  refine s_mv 68 rfl rfl ?_
  refine s_mv 69 rfl rfl ?_
  refine s_eq 70 rfl rfl rfl (decide_eq_true (by omega)) ?_
  refine s_pickT 71 rfl rfl rfl ?_
  refine s_mv 72 rfl rfl ?_
  refine s_mv 73 rfl rfl ?_
  refine s_eqNN 74 rfl rfl ?_
  refine s_pickT 75 rfl rfl rfl ?_
  refine s_mv 76 rfl rfl ?_
  refine s_mv 77 rfl rfl ?_
  refine s_call1 78 rfl rfl rfl rfl (fun w hw => pow_spec g 4 _ _ e _ ok4 (hw.has (i := 0) rfl) (hw.er hz)) (fun _ _ => trivial) ?_
  refine s_eq 79 rfl rfl rfl (decide_eq_true (by omega)) ?_
  refine s_pickT 80 rfl rfl rfl ?_
  refine s_mv 81 rfl rfl ?_
  refine s_mv 82 rfl rfl ?_
  refine s_call1 83 rfl rfl rfl rfl (fun w hw => pow_spec g 4 _ _ e _ ok4 (hw.has (i := 0) rfl) (hw.er hz)) (fun _ _ => trivial) ?_
  refine s_eq 84 rfl rfl rfl (decide_eq_true (by omega)) ?_
  refine s_pickT 85 rfl rfl rfl ?_
  refine s_mv 86 rfl rfl ?_
  refine s_mv 87 rfl rfl ?_
  refine s_eq 88 rfl rfl rfl (decide_eq_true (by omega)) ?_
  refine s_pickT 89 rfl rfl rfl ?_
  refine s_mv 90 rfl rfl ?_
  refine s_mv 91 rfl rfl ?_
  refine s_eqNN 92 rfl rfl ?_
  refine s_pickT 93 rfl rfl rfl ?_
  refine s_mv 94 rfl rfl ?_
  refine s_mv 95 rfl rfl ?_
  refine s_call1 96 rfl rfl rfl rfl (fun w hw => trace_spec g 4 _ _ ok4 (hw.has (i := 0) rfl)) (fun _ _ => trivial) ?_
  refine s_eq 97 rfl rfl rfl (decide_eq_true (by omega)) ?_
  refine s_pickT 98 rfl rfl rfl ?_
  refine s_mv 99 rfl rfl ?_
  refine s_mv 100 rfl rfl ?_
  refine s_ld 101 rfl rfl (fun _ h => h.cell (by assumption)) ?_
  refine s_eqE 102 rfl rfl rfl ?_
  refine s_pickT 103 rfl rfl rfl ?_
  refine s_mv 104 rfl rfl ?_
  refine s_mv 105 rfl rfl ?_
  refine s_ld 106 rfl rfl (fun _ h => h.cell (by assumption)) ?_
  refine s_eqE 107 rfl rfl rfl ?_
  refine s_pickT 108 rfl rfl rfl ?_
  refine s_as 0 rfl rfl ?_
  refine SX.next ?_
  refine CW.ret ?_
  exact KN.ret (rs := [.tmp 0]) Tryd.results11 rfl (fun w hw => ⟨rfl, hw.nothing⟩)

theorem made_spec (m : Int) (w : World) : SpecX Tryd.prog 12 [.int .i64 m] w (X := Nat) (fun g => two (.pointer (some ⟨g, 0, none⟩)) (.int .i64 (mkm 10 m : Nat))) (fun _ => True) (fun g => [fieldA g (mkm 10 m)]) := by
  have hm := mkm_ok (k := 10) (by omega) (by omega) m
  have hb := tmod_lt (k := 10) (by omega) m
  have hv := mkm_val (k := 10) (by omega) m
  have hmb := mkm_bd (k := 10) (by omega) m
  refine spec_of Tryd.func12 rfl Tryd.ntmps12 rfl ?_
  refine CW.seq ?_
  refine CW.reg [0, 1] rfl ?_   -- 0, law.go:13
  refine s_as 2 rfl rfl ?_
  refine s_as 3 rfl rfl ?_
  refine SX.next ?_
  refine CW.seq ?_
  refine CW.reg [0, 1, 2, 3, 4, 5] rfl ?_   -- 1, law.go:14
  refine s_mv 6 rfl rfl ?_
  refine s_rem 7 rfl rfl rfl (by omega) rfl ?_
  refine s_add 8 rfl rfl rfl (w64 (by omega)) ?_
  refine s_rem 9 rfl rfl rfl (by omega) hv ?_
  refine s_add 10 rfl rfl rfl (r := (mkm 10 m : Nat)) (by rw [show (((m % 10).toNat : Nat) : Int) + 3 = (mkm 10 m : Nat) by unfold mkm; omega]; exact w64 (by omega)) ?_
  refine s_as 0 rfl rfl ?_
  refine SX.next ?_
  refine CW.seq ?_
  refine CW.reg [0, 1, 2, 3, 4, 5, 6] rfl ?_   -- 2, law.go:15
  refine s_mv 12 rfl rfl ?_
  refine s_call 13 rfl rfl rfl rfl (fun w hw => new_spec _ w hm) (fun _ _ => trivial) (fun g _ => ?_)
  refine s_mv 11 rfl rfl ?_
  refine s_ext 14 rfl rfl rfl ?_
  refine s_ext 15 rfl rfl rfl ?_
  refine s_as 4 rfl rfl ?_
  refine s_as 5 rfl rfl ?_
  refine SX.next ?_
  refine CW.seq ?_
  refine CW.seq ?_
  refine CW.reg [0, 1] rfl ?_   -- 3, law.go:16
  refine s_mv 16 rfl rfl ?_
  refine s_neNN 17 rfl rfl ?_
  refine SX.next ?_
  refine CW.condF rfl ?_
  refine CW.skip ?_
  refine KN.code ?_
  refine CW.seq ?_
  refine CW.reg [0, 1, 2, 3] rfl ?_   -- 5, law.go:19
  refine s_mv 19 rfl rfl ?_
  refine s_mv 20 rfl rfl ?_
  refine s_as 2 rfl rfl ?_
  refine s_as 3 rfl rfl ?_
  refine SX.next ?_
  refine CW.ret ?_
  exact KN.ret (rs := [.tmp 2, .tmp 3]) Tryd.results12 rfl (fun w hw => ⟨g, rfl, trivial, hw⟩)

theorem lo_ne {m : Nat} {a : Int} (h : ¬ ((lo m a : Nat) : Int) = 0) : lo m a ≠ 0 := by omega

theorem logs_zero (a0 a1 : Int) (e : Nat → Addr) (w : World) (hz : Er e w 0) (hfe : Er e w 1) (h0 : lo (mkm 10 a0) a1 = 0) : Spec1 Tryd.prog 3 [.int .i64 a0, .int .i64 a1] w (.bool true) := by
  have hm := mkm_ok (k := 10) (by omega) (by omega) a0
  have hN := N_pos hm
  have hN1 := N_succ (mkm 10 a0)
  refine spec_of Tryd.func3 rfl Tryd.ntmps3 rfl ?_
  refine CW.seq ?_
  refine CW.reg [0] rfl ?_   -- 0, law.go:61
  refine s_as 4 rfl rfl ?_
  refine SX.next ?_
  refine CW.seq ?_
  refine CW.reg [0, 1] rfl ?_   -- 1, law.go:62
  refine s_call1 12 rfl rfl rfl rfl (fun w hw => first_spec e _ (hw.er hz) (hw.er hfe)) (fun _ _ => trivial) ?_
  refine s_as 5 rfl rfl ?_
  refine SX.next ?_
  refine CW.seq ?_
  refine CW.reg [0, 1, 2, 3, 4, 5, 6] rfl ?_   -- 2, law.go:63
  refine s_mv 14 rfl rfl ?_
  refine s_call 15 rfl rfl rfl rfl (fun w hw => made_spec a0 w) (fun _ _ => trivial) (fun g _ => ?_)
  refine s_mv 13 rfl rfl ?_
  refine s_ext 16 rfl rfl rfl ?_
  refine s_ext 17 rfl rfl rfl ?_
  refine s_as 6 rfl rfl ?_
  refine s_as 7 rfl rfl ?_
  refine SX.next ?_
  refine CW.seq ?_
  refine CW.seq ?_
  refine CW.reg [0, 1, 2, 3, 4, 5] rfl ?_   -- 3, law.go:64
  refine s_mv 18 rfl rfl ?_
  refine s_eqPN 19 rfl rfl ?_
  refine s_mv 20 rfl rfl ?_
  refine s_mv 21 rfl rfl ?_
  refine s_not 22 rfl rfl ?_
  refine s_pickF 23 rfl rfl rfl ?_
  refine SX.next ?_
  refine CW.condF rfl ?_
  refine CW.skip ?_
  refine KN.code ?_
  refine CW.seq ?_
  refine CW.reg [0, 1, 2, 3, 4, 5, 6, 7] rfl ?_   -- 5, law.go:67
  refine s_mv 25 rfl rfl ?_
  refine s_mv 26 rfl rfl ?_
  refine s_call1 27 rfl rfl rfl rfl (fun w hw => log_zero g _ _ e _ hm (hw.has (i := 0) rfl) (hw.er hz) h0) (fun _ _ => trivial) ?_
  refine s_mv 24 rfl rfl ?_
  refine s_ext 28 rfl rfl rfl ?_
  refine s_ext 29 rfl rfl rfl ?_
  refine s_as 8 rfl rfl ?_
  refine s_as 9 rfl rfl ?_
  refine SX.next ?_
  refine CW.seq ?_
  refine CW.reg [0, 1, 2, 3, 4, 5, 6, 7] rfl ?_   -- 6, law.go:68
  refine s_mv 31 rfl rfl ?_
  refine s_mv 32 rfl rfl ?_
  refine s_call1 33 rfl rfl rfl rfl (fun w hw => order_zero g _ _ e _ hm (hw.has (i := 0) rfl) (hw.er hz) h0) (fun _ _ => trivial) ?_
  refine s_mv 30 rfl rfl ?_
  refine s_ext 34 rfl rfl rfl ?_
  refine s_ext 35 rfl rfl rfl ?_
  refine s_as 10 rfl rfl ?_
  refine s_as 11 rfl rfl ?_
  refine SX.next ?_
  refine CW.seq ?_
  refine CW.seq ?_
  refine CW.reg [0, 1, 2, 3] rfl ?_   -- 7, law.go:69
  refine s_mv 36 rfl rfl ?_
  refine s_mv 37 rfl rfl ?_
  refine s_call1 38 rfl rfl rfl rfl (fun w hw => rlow_spec _ _ _ hm) (fun _ _ => trivial) ?_
  refine s_eq 39 rfl rfl rfl (decide_eq_true (by omega)) ?_
  refine SX.next ?_
  refine CW.condT rfl ?_
  refine CW.seq ?_
  refine CW.reg [0, 1, 2, 3, 4, 5, 6, 7, 8, 9, 10, 11, 12, 13, 14, 15, 16] rfl ?_   -- 8, law.go:70
  refine s_mv 40 rfl rfl ?_
  refine s_ld 41 rfl rfl (fun _ h => h.cell (by assumption)) ?_
  refine s_eqE 42 rfl rfl rfl ?_
  refine s_mv 43 rfl rfl ?_
  refine s_mv 44 rfl rfl ?_
  refine s_ld 45 rfl rfl (fun _ h => h.cell (by assumption)) ?_
  refine s_eqE 46 rfl rfl rfl ?_
  refine s_pickT 47 rfl rfl rfl ?_
  refine s_mv 48 rfl rfl ?_
  refine s_mv 49 rfl rfl ?_
  refine s_eq 50 rfl rfl rfl (decide_eq_true (by omega)) ?_
  refine s_pickT 51 rfl rfl rfl ?_
  refine s_mv 52 rfl rfl ?_
  refine s_mv 53 rfl rfl ?_
  refine s_eq 54 rfl rfl rfl (decide_eq_true (by omega)) ?_
  refine s_pickT 55 rfl rfl rfl ?_
  refine s_as 4 rfl rfl ?_
  refine SX.next ?_
  refine CW.ret ?_
  exact KN.ret (rs := [.tmp 4]) Tryd.results3 rfl (fun w hw => ⟨rfl, hw.nothing⟩)

theorem logs_some (a0 a1 : Int) (e : Nat → Addr) (w : World) (hz : Er e w 0) (hfe : Er e w 1) (h0 : lo (mkm 10 a0) a1 ≠ 0) : Spec1 Tryd.prog 3 [.int .i64 a0, .int .i64 a1] w (.bool true) := by
  have hm := mkm_ok (k := 10) (by omega) (by omega) a0
  have hN := N_pos hm
  have hN1 := N_succ (mkm 10 a0)
  refine spec_of Tryd.func3 rfl Tryd.ntmps3 rfl ?_
  refine CW.seq ?_
  refine CW.reg [0] rfl ?_   -- 0, law.go:61
  refine s_as 4 rfl rfl ?_
  refine SX.next ?_
  refine CW.seq ?_
  refine CW.reg [0, 1] rfl ?_   -- 1, law.go:62
  refine s_call1 12 rfl rfl rfl rfl (fun w hw => first_spec e _ (hw.er hz) (hw.er hfe)) (fun _ _ => trivial) ?_
  refine s_as 5 rfl rfl ?_
  refine SX.next ?_
  refine CW.seq ?_
  refine CW.reg [0, 1, 2, 3, 4, 5, 6] rfl ?_   -- 2, law.go:63
  refine s_mv 14 rfl rfl ?_
  refine s_call 15 rfl rfl rfl rfl (fun w hw => made_spec a0 w) (fun _ _ => trivial) (fun g _ => ?_)
  refine s_mv 13 rfl rfl ?_
  refine s_ext 16 rfl rfl rfl ?_
  refine s_ext 17 rfl rfl rfl ?_
  refine s_as 6 rfl rfl ?_
  refine s_as 7 rfl rfl ?_
  refine SX.next ?_
  refine CW.seq ?_
  refine CW.seq ?_
  refine CW.reg [0, 1, 2, 3, 4, 5] rfl ?_   -- 3, law.go:64
  refine s_mv 18 rfl rfl ?_
  refine s_eqPN 19 rfl rfl ?_
  refine s_mv 20 rfl rfl ?_
  refine s_mv 21 rfl rfl ?_
  refine s_not 22 rfl rfl ?_
  refine s_pickF 23 rfl rfl rfl ?_
  refine SX.next ?_
  refine CW.condF rfl ?_
  refine CW.skip ?_
  refine KN.code ?_
  refine CW.seq ?_
  refine CW.reg [0, 1, 2, 3, 4, 5, 6, 7] rfl ?_   -- 5, law.go:67
  refine s_mv 25 rfl rfl ?_
  refine s_mv 26 rfl rfl ?_
  refine s_call1 27 rfl rfl rfl rfl (fun w hw => log_spec g _ _ _ hm (hw.has (i := 0) rfl) h0) (fun _ _ => trivial) ?_
  refine s_mv 24 rfl rfl ?_
  refine s_ext 28 rfl rfl rfl ?_
  refine s_ext 29 rfl rfl rfl ?_
  refine s_as 8 rfl rfl ?_
  refine s_as 9 rfl rfl ?_
  refine SX.next ?_
  refine CW.seq ?_
  refine CW.reg [0, 1, 2, 3, 4, 5, 6, 7] rfl ?_   -- 6, law.go:68
  refine s_mv 31 rfl rfl ?_
  refine s_mv 32 rfl rfl ?_
  refine s_call1 33 rfl rfl rfl rfl (fun w hw => order_spec g _ _ _ hm (hw.has (i := 0) rfl) h0) (fun _ _ => trivial) ?_
  refine s_mv 30 rfl rfl ?_
  refine s_ext 34 rfl rfl rfl ?_
  refine s_ext 35 rfl rfl rfl ?_
  refine s_as 10 rfl rfl ?_
  refine s_as 11 rfl rfl ?_
  refine SX.next ?_
  refine CW.seq ?_
  refine CW.seq ?_
  refine CW.reg [0, 1, 2, 3] rfl ?_   -- 7, law.go:69
  refine s_mv 36 rfl rfl ?_
  refine s_mv 37 rfl rfl ?_
  refine s_call1 38 rfl rfl rfl rfl (fun w hw => rlow_spec _ _ _ hm) (fun _ _ => trivial) ?_
  refine s_eq 39 rfl rfl rfl (decide_eq_false (by omega)) ?_
  refine SX.next ?_
  refine CW.condF rfl ?_
  refine CW.skip ?_
  refine KN.code ?_
  refine CW.seq ?_
  refine CW.reg [0, 1, 2, 3, 4, 5, 6, 7, 8, 9, 10, 11, 12, 13, 14, 15, 16, 17, 18, 19, 20] rfl ?_   -- 9, law.go:72
  refine s_mv 56 rfl rfl ?_
  refine s_eqNN 57 rfl rfl ?_
  refine s_mv 58 rfl rfl ?_
  refine s_mv 59 rfl rfl ?_
  refine s_eqNN 60 rfl rfl ?_
  refine s_pickT 61 rfl rfl rfl ?_
  refine s_mv 62 rfl rfl ?_
  refine s_mv 63 rfl rfl ?_
  refine s_mv 64 rfl rfl ?_
  refine s_mv 65 rfl rfl ?_
  refine s_call1 66 rfl rfl rfl rfl (fun w hw => rlog_spec _ _ _ hm h0) (fun _ _ => trivial) ?_
  refine s_eq 67 rfl rfl rfl (decide_eq_true rfl) ?_
  refine s_pickT 68 rfl rfl rfl ?_
  refine s_mv 69 rfl rfl ?_
  refine s_mv 70 rfl rfl ?_
  refine s_mv 71 rfl rfl ?_
  refine s_mv 72 rfl rfl ?_
  refine s_call1 73 rfl rfl rfl rfl (fun w hw => rorder_spec _ _ _ hm h0) (fun _ _ => trivial) ?_
  refine s_eq 74 rfl rfl rfl (decide_eq_true rfl) ?_
  refine s_pickT 75 rfl rfl rfl ?_
  refine s_as 4 rfl rfl ?_
  refine SX.next ?_
  refine CW.ret ?_
  exact KN.ret (rs := [.tmp 4]) Tryd.results3 rfl (fun w hw => ⟨rfl, hw.nothing⟩)

theorem walk_FieldLogs (a0 a1 : Int) (e : Nat → Addr) (w : World) (hz : Er e w 0) (hfe : Er e w 1) : Spec1 Tryd.prog 3 [.int .i64 a0, .int .i64 a1] w (.bool true) := by
  by_cases h0 : lo (mkm 10 a0) a1 = 0
  · exact logs_zero a0 a1 e w hz hfe h0
  · exact logs_some a0 a1 e w hz hfe h0
