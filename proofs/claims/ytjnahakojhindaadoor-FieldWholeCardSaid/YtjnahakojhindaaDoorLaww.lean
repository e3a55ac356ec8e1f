/- The statement FieldWhole of chapter 2, walked: it answers true. Conditions: the errors' variables each hold a pointer of its own. -/
import Derived.Test.YtjnahakojhindaaDoorLawf2
import Derived.Test.YtjnahakojhindaaDoorSee
namespace Go.Proofs.YtjnahakojhindaaDoor
open Go.Sx Go.Fm
set_option maxRecDepth 100000
/-- The sum of the traces of the first n elements. -/
def trS (m : Nat) : Nat → Nat
  | 0 => 0
  | n + 1 => trS m n + tr m n
def trB (m : Nat) : Nat → Bool
  | 0 => true
  | n + 1 => Nat.ble (tr m n) 1 && trB m n
theorem half (m : Nat) (h1 : 3 ≤ m) (h2 : m ≤ 8) : (trB m (2 ^ m) && Nat.beq (2 * trS m (2 ^ m)) (2 ^ m)) = true := by
  have : m = 3 ∨ m = 4 ∨ m = 5 ∨ m = 6 ∨ m = 7 ∨ m = 8 := by omega
  rcases this with rfl | rfl | rfl | rfl | rfl | rfl <;> decide +kernel
theorem trB_le {m : Nat} : ∀ {n : Nat}, trB m n = true → ∀ x, x < n → tr m x ≤ 1
  | 0, _, _, hx => by omega
  | n + 1, h, x, hx => by
    unfold trB at h
    rw [Bool.and_eq_true] at h
    rcases Nat.lt_or_eq_of_le (Nat.le_of_lt_succ hx) with hlt | rfl
    · exact trB_le h.2 x hlt
    · exact Nat.le_of_ble_eq_true h.1
theorem trS_le {m n : Nat} (h : ∀ x, x < n → tr m x ≤ 1) : trS m n ≤ n := by
  induction n with
  | zero => exact Nat.le_refl _
  | succ n ih =>
    have h1 := ih (fun x hx => h x (by omega))
    have h2 := h n (by omega)
    unfold trS
    omega
/-- Which elements the first i powers of 2, and 0, are. -/
noncomputable def seenC (m i : Nat) : Array Value := ((List.range (N m + 1)).map (fun x => .bool (decide (x = 0 ∨ lg m x < i)))).toArray
theorem seen_size (m i : Nat) : (seenC m i).size = N m + 1 := by simp [seenC]
theorem lg_pos {m : Nat} (x : Nat) : ¬ lg m x < 0 := by omega
theorem seen_zero (m : Nat) : ((List.replicate (N m + 1) (.bool false)).toArray).setIfInBounds 0 (.bool true) = seenC m 0 := by
  rw [rep_range, set_range]
  unfold seenC
  congr 1
  apply List.map_congr_left
  intro j _
  by_cases h : j = 0 <;> simp [h]
theorem seen_set {m i : Nat} (h : Ok m) (hi : i < N m) : (seenC m i).setIfInBounds (ex m i) (.bool true) = seenC m (i + 1) := by
  unfold seenC
  rw [set_range]
  congr 1
  apply List.map_congr_left
  intro j hj
  have hj := List.mem_range.1 hj
  have hl := lg_ex h hi
  by_cases h2 : j = ex m i
  · subst h2
    rw [if_pos rfl, hl]
    simp
  · rw [if_neg h2]
    by_cases h0 : j = 0
    · simp [h0]
    · have h3 : lg m j ≠ i := fun he => h2 (by rw [← he]; exact (lg_spec h (by omega) (by have := N_succ m; omega)).2.symm)
      have : lg m j < i ↔ lg m j < i + 1 := by omega
      simp [h0, this]
theorem seen_not {m i : Nat} (h : Ok m) (hi : i < N m) : (seenC m i)[ex m i]? = some (.bool false) := by
  have hl := lg_ex h hi
  have h1 := ex_lt h i
  have h2 := N_succ m
  unfold seenC
  simp only [List.getElem?_toArray, List.getElem?_map]
  rw [List.getElem?_range (by omega)]
  simp [hl]
  omega
theorem isN {g m : Nat} {w : World} {x : Nat} (hm : Ok m) (hf : Has (fieldA g m) w) (hx : x < 2 ^ m) : Spec1 Tryd.prog 24 [.pointer (some ⟨g, 0, none⟩), .int .i64 (x : Nat)] w (.bool true) := by
  have := is_spec g m x w hm hf
  rw [show decide (0 ≤ ((x : Nat) : Int) ∧ ((x : Nat) : Int) < ((N m + 1 : Nat) : Int)) = true from decide_eq_true ⟨by omega, by have := N_succ m; omega⟩] at this
  exact this

theorem walk_FieldWhole (a0 : Int) (e : Nat → Addr) (w : World) (he : Has (ersA e apiErrs) w) : Spec1 Tryd.prog 6 [.int .i64 a0] w (.bool true) := by
  have hz : Er e w 0 := he.ers (by decide)
  have hfe : Er e w 1 := he.ers (by decide)
  have hm := mkm_ok (k := 6) (by omega) (by omega) a0
  have hb6 := tmod_lt (k := 6) (by omega) a0
  have hv := mkm_val (k := 6) (by omega) a0
  have hmb := mkm_bd (k := 6) (by omega) a0
  have hN := N_pos hm
  have hN1 := N_succ (mkm 6 a0)
  have hhalf := half (mkm 6 a0) hmb.1 (by omega)
  rw [Bool.and_eq_true] at hhalf
  have htr := trB_le hhalf.1
  have hsum : 2 * trS (mkm 6 a0) (2 ^ mkm 6 a0) = 2 ^ mkm 6 a0 := Nat.eq_of_beq_eq_true hhalf.2
  have hall := trS_le htr
  refine spec_of Tryd.func6 rfl Tryd.ntmps6 rfl ?_
  refine CW.seq ?_
  refine CW.reg [0] rfl ?_   -- 0, law.go:106
  refine s_as 2 rfl rfl ?_
  refine SX.next ?_
  refine CW.seq ?_
  refine CW.reg [0, 1] rfl ?_   -- 1, law.go:107
  refine s_call1 14 rfl rfl rfl rfl (fun w hw => first_spec e _ (hw.er hz) (hw.er hfe)) (fun _ _ => trivial) ?_
  refine s_as 3 rfl rfl ?_
  refine SX.next ?_
  refine CW.seq ?_
  refine CW.reg [0, 1, 2, 3, 4, 5] rfl ?_   -- 2, law.go:108
  refine s_mv 15 rfl rfl ?_
  refine s_rem 16 rfl rfl rfl (by omega) rfl ?_
  refine s_add 17 rfl rfl rfl (w64 (by omega)) ?_
  refine s_rem 18 rfl rfl rfl (by omega) hv ?_
  refine s_add 19 rfl rfl rfl (r := ((mkm 6 a0 : Nat) : Int)) (by rw [show (((a0 % 6).toNat : Nat) : Int) + 3 = (mkm 6 a0 : Nat) by unfold mkm; omega]; exact w64 (by omega)) ?_
  refine s_as 0 rfl rfl ?_
  refine SX.next ?_
  refine CW.seq ?_
  refine CW.reg [0, 1, 2, 3, 4, 5, 6] rfl ?_   -- 3, law.go:109
  refine s_mv 21 rfl rfl ?_
  refine s_call 22 rfl rfl rfl rfl (fun w hw => new_spec _ w hm) (fun _ _ => trivial) (fun g _ => ?_)
  refine s_mv 20 rfl rfl ?_
  refine s_ext 23 rfl rfl rfl ?_
  refine s_ext 24 rfl rfl rfl ?_
  refine s_as 4 rfl rfl ?_
  refine s_as 5 rfl rfl ?_
  refine SX.next ?_
  refine CW.seq ?_
  refine CW.seq ?_
  refine CW.reg [0, 1, 2, 3, 4, 5, 6, 7, 8, 9] rfl ?_   -- 4, law.go:110
  refine s_mv 25 rfl rfl ?_
  refine s_eqPN 26 rfl rfl ?_
  refine s_mv 27 rfl rfl ?_
  refine s_mv 28 rfl rfl ?_
  refine s_neNN 29 rfl rfl ?_
  refine s_pickF 30 rfl rfl rfl ?_
  refine s_mv 31 rfl rfl ?_
  refine s_mv 32 rfl rfl ?_
  refine s_not 33 rfl rfl ?_
  refine s_pickF 34 rfl rfl rfl ?_
  refine SX.next ?_
  refine CW.condF rfl ?_
  refine CW.skip ?_
  refine KN.code ?_
  refine CW.seq ?_
  refine CW.reg [0, 1, 2, 3] rfl ?_   -- 6, law.go:113
  refine s_mv 35 rfl rfl ?_
  refine s_call1 36 rfl rfl rfl rfl (fun w hw => size_spec g _ _ hm (hw.has (i := 0) rfl)) (fun _ _ => trivial) ?_
  refine s_make 37 (N (mkm 6 a0) + 1) rfl rfl rfl rfl rfl (by omega) (fun _ _ => trivial) (fun gs => ?_)
  refine s_as 6 rfl rfl ?_
  refine SX.next ?_
  refine CW.seq ?_
  refine CW.reg [0, 1, 2] rfl ?_   -- 7, law.go:114
  refine s_mv 38 rfl rfl ?_
  refine s_ia0 39 0 rfl rfl rfl rfl (by omega) ?_
  refine s_stB 0 rfl rfl rfl rfl rfl (by simp) (fun _ _ => trivial) ?_
  refine SX.next ?_
  refine CW.seq ?_
  refine CW.reg [0] rfl ?_   -- 8, law.go:115
  refine s_as 7 rfl rfl ?_
  refine SX.next ?_
  refine CW.seq ?_
  refine CW.seq ?_
  refine CW.reg [0] rfl ?_   -- 9, law.go:116
  refine s_as 8 rfl rfl ?_
  refine SX.next ?_
  refine CW.block ?_
  refine CW.loop (G := Nat) (fun i => [(0, .int .i64 (mkm 6 a0 : Nat)), (4, .pointer (some ⟨g, 0, none⟩)), (6, .slice (some ⟨gs, 0, none⟩) (N (mkm 6 a0) + 1) (N (mkm 6 a0) + 1)), (7, .int .i64 0), (8, .int .i64 (i : Nat))]) (fun i => Sto w [blk gs 4 (seenC (mkm 6 a0) i), fieldA g (mkm 6 a0)]) (fun i => i ≤ N (mkm 6 a0)) (fun i => N (mkm 6 a0) - i) 0 ⟨rfl, rfl, rfl, rfl, rfl, trivial⟩ (fun _ h => by rw [← seen_zero]; exact h) (Nat.zero_le _) ?_
  intro i hi
  refine CW.seq ?_
  refine CW.seq ?_
  refine CW.reg [0, 1, 2, 3, 4] rfl ?_   -- 10, law.go:116
  refine s_mv 40 rfl rfl ?_
  refine s_mv 41 rfl rfl ?_
  refine s_call1 42 rfl rfl rfl rfl (fun w hw => size_spec g _ _ hm (hw.has (i := 1) rfl)) (fun _ _ => trivial) ?_
  refine s_sub 43 rfl rfl rfl (r := (N (mkm 6 a0) : Nat)) (by rw [sizem1]; exact w64 (by omega)) ?_
  refine s_lt 44 rfl rfl rfl rfl ?_
  refine SX.next ?_
  refine CW.test rfl (fun hc => ?_) (fun hc => ?_)
  · skip
    have hi2 : i < N (mkm 6 a0) := by omega
    have hxl := ex_lt hm i
    have hns := seen_not hm hi2
    refine CW.skip ?_
    refine KN.code ?_
    refine CW.seq ?_
    refine CW.block ?_
    refine CW.seq ?_
    refine CW.reg [0, 1, 2, 3] rfl ?_   -- 12, law.go:117
    refine s_mv 47 rfl rfl ?_
    refine s_mv 48 rfl rfl ?_
    refine s_call1 49 rfl rfl rfl rfl (fun w hw => expN hm (hw.has (i := 1) rfl) hi2) (fun _ _ => trivial) ?_
    refine s_as 9 rfl rfl ?_
    refine SX.next ?_
    refine CW.seq ?_
    refine CW.seq ?_
    refine CW.reg [0, 1, 2, 3, 4, 5, 6, 7, 8, 9] rfl ?_   -- 13, law.go:118
    refine s_mv 50 rfl rfl ?_
    refine s_mv 51 rfl rfl ?_
    refine s_call1 52 rfl rfl rfl rfl (fun w hw => isN hm (hw.has (i := 1) rfl) hxl.2) (fun _ _ => trivial) ?_
    refine s_not 53 rfl rfl ?_
    refine s_mv 54 rfl rfl ?_
    refine s_mv 55 rfl rfl ?_
    refine s_mv 56 rfl rfl ?_
    refine s_ia0 57 (ex (mkm 6 a0) i) rfl rfl rfl rfl (by omega) ?_
    refine s_ldB 58 0 rfl rfl rfl hns ?_
    refine s_pickF 59 rfl rfl rfl ?_
    refine SX.next ?_
    refine CW.condF rfl ?_
    refine CW.skip ?_
    refine KN.code ?_
    refine CW.reg [0, 1, 2, 3] rfl ?_   -- 15, law.go:121
    refine s_mv 60 rfl rfl ?_
    refine s_mv 61 rfl rfl ?_
    refine s_ia0 62 (ex (mkm 6 a0) i) rfl rfl rfl rfl (by omega) ?_
    refine s_stB 0 rfl rfl rfl rfl rfl (by rw [seen_size]; omega) (fun _ _ => trivial) ?_
    refine SX.end_ ?_
    refine KN.blk ?_
    refine KN.code ?_
    refine CW.reg [0, 1, 2] rfl ?_   -- 11, law.go:116
    refine s_mv 45 rfl rfl ?_
    refine s_add 46 rfl rfl rfl (r := ((i + 1 : Nat) : Int)) (w64 (by omega)) ?_
    refine s_as 8 rfl rfl ?_
    refine SX.end_ ?_
    exact KN.back (i + 1) ⟨rfl, rfl, rfl, rfl, rfl, trivial⟩ (fun _ h => by rw [← seen_set hm hi2]; exact h) (by omega) (by omega)
  · skip
    obtain rfl : i = N (mkm 6 a0) := by omega
    refine CW.exit rfl ?_
    refine KN.code ?_
    refine CW.seq ?_
    refine CW.seq ?_
    refine CW.reg [0] rfl ?_   -- 16, law.go:123
    refine s_as 10 rfl rfl ?_
    refine SX.next ?_
    refine CW.block ?_
    refine CW.loop (G := Nat) (fun i => [(0, .int .i64 (mkm 6 a0 : Nat)), (4, .pointer (some ⟨g, 0, none⟩)), (7, .int .i64 (trS (mkm 6 a0) i : Nat)), (10, .int .i64 (i : Nat))]) (fun _ => Sto w [blk gs 4 (seenC (mkm 6 a0) (N (mkm 6 a0))), fieldA g (mkm 6 a0)]) (fun i => i ≤ N (mkm 6 a0) + 1) (fun i => N (mkm 6 a0) + 1 - i) 0 ⟨rfl, rfl, rfl, rfl, trivial⟩ (fun _ h => h) (Nat.zero_le _) ?_
    intro i hi
    refine CW.seq ?_
    refine CW.seq ?_
    refine CW.reg [0, 1, 2, 3] rfl ?_   -- 17, law.go:123
    refine s_mv 63 rfl rfl ?_
    refine s_mv 64 rfl rfl ?_
    refine s_call1 65 rfl rfl rfl rfl (fun w hw => size_spec g _ _ hm (hw.has (i := 1) rfl)) (fun _ _ => trivial) ?_
    refine s_lt 66 rfl rfl rfl rfl ?_
    refine SX.next ?_
    refine CW.test rfl (fun hc => ?_) (fun hc => ?_)
    · skip
      have hi2 : i < 2 ^ (mkm 6 a0) := by omega
      have ht := htr i hi2
      have htl := trS_le (m := (mkm 6 a0)) (n := i) (fun x hx => htr x (by omega))
      refine CW.skip ?_
      refine KN.code ?_
      refine CW.seq ?_
      refine CW.block ?_
      refine CW.seq ?_
      refine CW.reg [0, 1, 2, 3] rfl ?_   -- 19, law.go:124
      refine s_mv 69 rfl rfl ?_
      refine s_mv 70 rfl rfl ?_
      refine s_call1 71 rfl rfl rfl rfl (fun w hw => traceN hm (hw.has (i := 1) rfl) hi2) (fun _ _ => trivial) ?_
      refine s_as 11 rfl rfl ?_
      refine SX.next ?_
      refine CW.seq ?_
      refine CW.seq ?_
      refine CW.reg [0, 1, 2, 3, 4, 5] rfl ?_   -- 20, law.go:125
      refine s_mv 72 rfl rfl ?_
      refine s_ne 73 rfl rfl rfl rfl ?_
      refine s_mv 74 rfl rfl ?_
      refine SX.bool 74 rfl (fun hb => ?_) (fun hb => ?_)
      · skip
        replace hb := of_decide_eq_true hb
        refine s_mv 75 rfl rfl ?_
        refine s_ne 76 rfl rfl rfl (decide_eq_false (by omega)) ?_
        refine s_pickT 77 rfl rfl rfl ?_
        refine SX.next ?_
        refine CW.condF rfl ?_
        refine CW.skip ?_
        refine KN.code ?_
        refine CW.reg [0, 1, 2, 3] rfl ?_   -- 22, law.go:128
        refine s_mv 78 rfl rfl ?_
        refine s_mv 79 rfl rfl ?_
        refine s_add 80 rfl rfl rfl (r := ((trS (mkm 6 a0) (i + 1) : Nat) : Int)) (by rw [trS, Int.natCast_add]; exact w64 (by omega)) ?_
        refine s_as 7 rfl rfl ?_
        refine SX.end_ ?_
        refine KN.blk ?_
        refine KN.code ?_
        refine CW.reg [0, 1, 2] rfl ?_   -- 18, law.go:123
        refine s_mv 67 rfl rfl ?_
        refine s_add 68 rfl rfl rfl (r := ((i + 1 : Nat) : Int)) (w64 (by omega)) ?_
        refine s_as 10 rfl rfl ?_
        refine SX.end_ ?_
        exact KN.back (i + 1) ⟨rfl, rfl, rfl, rfl, trivial⟩ (fun _ h => h) (by omega) (by omega)
      · skip
        refine SX.skip rfl ?_
        refine SX.skip rfl ?_
        refine s_pickF 77 rfl rfl rfl ?_
        refine SX.next ?_
        refine CW.condF rfl ?_
        refine CW.skip ?_
        refine KN.code ?_
        refine CW.reg [0, 1, 2, 3] rfl ?_   -- 22, law.go:128
        refine s_mv 78 rfl rfl ?_
        refine s_mv 79 rfl rfl ?_
        refine s_add 80 rfl rfl rfl (r := ((trS (mkm 6 a0) (i + 1) : Nat) : Int)) (by rw [trS, Int.natCast_add]; exact w64 (by omega)) ?_
        refine s_as 7 rfl rfl ?_
        refine SX.end_ ?_
        refine KN.blk ?_
        refine KN.code ?_
        refine CW.reg [0, 1, 2] rfl ?_   -- 18, law.go:123
        refine s_mv 67 rfl rfl ?_
        refine s_add 68 rfl rfl rfl (r := ((i + 1 : Nat) : Int)) (w64 (by omega)) ?_
        refine s_as 10 rfl rfl ?_
        refine SX.end_ ?_
        exact KN.back (i + 1) ⟨rfl, rfl, rfl, rfl, trivial⟩ (fun _ h => h) (by omega) (by omega)
    · skip
      obtain rfl : i = N (mkm 6 a0) + 1 := by omega
      rw [hN1]
      refine CW.exit rfl ?_
      refine KN.code ?_
      refine CW.seq ?_
      refine CW.reg [0, 1, 2, 3, 4, 5, 6, 7] rfl ?_   -- 23, law.go:130
      refine s_mv 82 rfl rfl ?_
      refine s_sub 83 rfl rfl rfl (w64 (by omega)) ?_
      refine s_call1 84 rfl rfl rfl rfl (fun w hw => new_any _ e _ (hw.er hfe) (by omega)) (fun _ _ => trivial) ?_
      refine s_mv 81 rfl rfl ?_
      refine s_ext 85 rfl rfl rfl ?_
      refine s_ext 86 rfl rfl rfl ?_
      refine s_as 12 rfl rfl ?_
      refine s_as 13 rfl rfl ?_
      refine SX.next ?_
      refine CW.seq ?_
      refine CW.reg [0, 1, 2, 3, 4, 5, 6, 7, 8, 9, 10, 11, 12, 13] rfl ?_   -- 24, law.go:131
      refine s_mv 87 rfl rfl ?_
      refine s_mul 88 rfl rfl rfl (w64 (by omega)) ?_
      refine s_mv 89 rfl rfl ?_
      refine s_call1 90 rfl rfl rfl rfl (fun w hw => size_spec g _ _ hm (hw.has (i := 1) rfl)) (fun _ _ => trivial) ?_
      refine s_eq 91 rfl rfl rfl (decide_eq_true (by rw [hN1]; exact_mod_cast hsum)) ?_
      refine s_mv 92 rfl rfl ?_
      refine s_mv 93 rfl rfl ?_
      refine s_eqPNn 94 rfl rfl ?_
      refine s_pickT 95 rfl rfl rfl ?_
      refine s_mv 96 rfl rfl ?_
      refine s_mv 97 rfl rfl ?_
      refine s_call1 98 rfl rfl rfl rfl (v := .bool true) (fun w hw => is_err 0 _ 101 e _ (hw.old he) rfl) (fun _ _ => trivial) ?_
      refine s_pickT 99 rfl rfl rfl ?_
      refine s_as 2 rfl rfl ?_
      refine SX.next ?_
      refine CW.ret ?_
      exact KN.ret (rs := [.tmp 2]) Tryd.results6 rfl (fun w hw => ⟨rfl, hw.nothing⟩)
