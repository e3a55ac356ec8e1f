/- The contracts of the making of a field, and of the document's own field. Conditions: an m that may be, where a field's m is asked for. -/
import Derived.Test.YtcjddlcinaedaaaDoorField
namespace Go.Proofs.YtcjddlcinaedaaaDoor
open Go.Sx Go.Fm
set_option maxRecDepth 100000

def polyI (m : Int) : Nat := if m < 3 ∨ 14 < m then 0 else polyOf m.toNat
def polyC : Array Value := #[.int .i64 11, .int .i64 19, .int .i64 37, .int .i64 67, .int .i64 137, .int .i64 285, .int .i64 529, .int .i64 1033, .int .i64 2053, .int .i64 4179, .int .i64 8219, .int .i64 17475]
theorem polyC_at {m : Int} (h1 : ¬ m < 3) (h2 : ¬ 14 < m) : polyC[(m - 3).toNat]? = some (.int .i64 (polyI m : Nat)) := by
  have : m = 3 ∨ m = 4 ∨ m = 5 ∨ m = 6 ∨ m = 7 ∨ m = 8 ∨ m = 9 ∨ m = 10 ∨ m = 11 ∨ m = 12 ∨ m = 13 ∨ m = 14 := by omega
  rcases this with rfl | rfl | rfl | rfl | rfl | rfl | rfl | rfl | rfl | rfl | rfl | rfl <;> rfl
theorem polyI_ok {m : Nat} (h : Ok m) : polyI (m : Nat) = polyOf m := by
  have h1 := h.lo
  have h2 := h.hi
  unfold polyI
  rw [if_neg (by omega)]
  rfl
theorem polyI_zero (m : Int) : ((polyI m : Nat) : Int) = 0 ↔ (m < 3 ∨ 14 < m) := by
  unfold polyI
  by_cases h : m < 3 ∨ 14 < m
  · simp [h]
  · rw [if_neg h]
    have hm : Ok m.toNat := ⟨by omega, by omega⟩
    have := (poly_spec hm).1
    have := Nat.two_pow_pos m.toNat
    constructor
    · intro h3; omega
    · intro h3; exact absurd h3 h
theorem polyI_bad {m : Int} (h : m < 3 ∨ 14 < m) : ((0 : Nat) : Int) = (polyI m : Nat) := ((polyI_zero m).2 h).symm
theorem poly_lt (m : Int) : polyI m < 2 ^ 63 := by
  unfold polyI
  split
  · exact Nat.two_pow_pos 63
  · have hm : Ok m.toNat := ⟨by omega, by omega⟩
    exact Nat.lt_of_lt_of_le (poly_spec hm).2 (Nat.pow_le_pow_right (by omega) (by have := hm.hi; omega))

theorem poly_spec1 (m : Int) (w : World) (hm : -9223372036854775000 ≤ m ∧ m ≤ 9223372036854775000) : Spec1 Tryd.prog 97 [.int .i64 m] w (.int .i64 (polyI m : Nat)) := by
  refine spec_of Tryd.func97 rfl Tryd.ntmps97 rfl ?_
  refine CW.seq ?_
  refine CW.reg [0] rfl ?_   -- 0, field.go:13
  refine s_as 2 rfl rfl ?_
  refine SX.next ?_
  refine CW.seq ?_
  refine CW.reg [0, 1, 2] rfl ?_   -- 1, field.go:14
  refine s_buildA 4 rfl rfl (cells := polyC) rfl ?_
  refine s_alloc 3 rfl (fun _ _ => trivial) (fun ga => ?_)
  refine s_stAll 0 rfl rfl (by kernel_rfl) rfl rfl rfl (by decide) (fun _ _ => trivial) ?_
  refine SX.next ?_
  refine CW.seq ?_
  refine CW.seq ?_
  refine CW.reg [0, 1, 2, 3, 4, 5] rfl ?_   -- 2, field.go:15
  refine s_mv 5 rfl rfl ?_
  refine s_lt 6 rfl rfl rfl rfl ?_
  refine s_mv 7 rfl rfl ?_
  refine SX.bool 7 rfl (fun hb => ?_) (fun hb => ?_)
  · skip
    replace hb := of_decide_eq_true hb
    refine SX.skip rfl ?_
    refine SX.skip rfl ?_
    refine s_pickT 10 rfl rfl rfl ?_
    refine SX.next ?_
    refine CW.condT rfl ?_
    refine CW.seq ?_
    refine CW.reg [0] rfl ?_   -- 3, field.go:16
    refine s_as 2 rfl rfl ?_
    refine SX.next ?_
    refine CW.ret ?_
    exact KN.ret (rs := [.tmp 2]) Tryd.results97 rfl (fun w hw => ⟨by rw [oneOf, ← polyI_bad (.inl hb)]; rfl, hw.nothing⟩)
  · skip
    replace hb := of_decide_eq_false hb
    refine s_mv 8 rfl rfl ?_
    refine s_gt 9 rfl rfl rfl rfl ?_
    refine s_pickF 10 rfl rfl rfl ?_
    refine SX.next ?_
    refine CW.test rfl (fun hc => ?_) (fun hc => ?_)
    · skip
      refine CW.seq ?_
      refine CW.reg [0] rfl ?_   -- 3, field.go:16
      refine s_as 2 rfl rfl ?_
      refine SX.next ?_
      refine CW.ret ?_
      exact KN.ret (rs := [.tmp 2]) Tryd.results97 rfl (fun w hw => ⟨by rw [oneOf, ← polyI_bad (.inr hc)]; rfl, hw.nothing⟩)
    · skip
      refine CW.skip ?_
      refine KN.code ?_
      refine CW.seq ?_
      refine CW.reg [0, 1, 2, 3, 4] rfl ?_   -- 4, field.go:18
      refine s_mv 11 rfl rfl ?_
      refine s_sub 12 rfl rfl rfl (w64 (by omega)) ?_
      refine s_iaR 13 (m - 3).toNat rfl rfl rfl (by omega) (by omega) ?_
      refine s_ldB 14 0 rfl rfl rfl (by rw [Nat.zero_add, Nat.mul_one]; exact polyC_at hb hc) ?_
      refine s_as 2 rfl rfl ?_
      refine SX.next ?_
      refine CW.ret ?_
      exact KN.ret (rs := [.tmp 2]) Tryd.results97 rfl (fun w hw => ⟨rfl, hw.nothing⟩)

theorem rpoly_spec (m : Int) (w : World) (hm : -9223372036854775000 ≤ m ∧ m ≤ 9223372036854775000) : Spec1 Tryd.prog 92 [.int .i64 m] w (.int .i64 (polyI m : Nat)) := by
  refine spec_of Tryd.func92 rfl Tryd.ntmps92 rfl ?_
  refine CW.seq ?_
  refine CW.reg [0] rfl ?_   -- 0, field.go:7
  refine s_as 2 rfl rfl ?_
  refine SX.next ?_
  refine CW.seq ?_
  refine CW.seq ?_
  refine CW.reg [0, 1, 2, 3, 4, 5] rfl ?_   -- 1, field.go:8
  refine s_mv 3 rfl rfl ?_
  refine s_lt 4 rfl rfl rfl rfl ?_
  refine s_mv 5 rfl rfl ?_
  refine SX.bool 5 rfl (fun hb => ?_) (fun hb => ?_)
  · skip
    replace hb := of_decide_eq_true hb
    refine SX.skip rfl ?_
    refine SX.skip rfl ?_
    refine s_pickT 8 rfl rfl rfl ?_
    refine SX.next ?_
    refine CW.condT rfl ?_
    refine CW.seq ?_
    refine CW.reg [0] rfl ?_   -- 2, field.go:9
    refine s_as 2 rfl rfl ?_
    refine SX.next ?_
    refine CW.ret ?_
    exact KN.ret (rs := [.tmp 2]) Tryd.results92 rfl (fun w hw => ⟨by rw [oneOf, ← polyI_bad (.inl hb)]; rfl, hw.nothing⟩)
  · skip
    replace hb := of_decide_eq_false hb
    refine s_mv 6 rfl rfl ?_
    refine s_gt 7 rfl rfl rfl rfl ?_
    refine s_pickF 8 rfl rfl rfl ?_
    refine SX.next ?_
    refine CW.test rfl (fun hc => ?_) (fun hc => ?_)
    · skip
      refine CW.seq ?_
      refine CW.reg [0] rfl ?_   -- 2, field.go:9
      refine s_as 2 rfl rfl ?_
      refine SX.next ?_
      refine CW.ret ?_
      exact KN.ret (rs := [.tmp 2]) Tryd.results92 rfl (fun w hw => ⟨by rw [oneOf, ← polyI_bad (.inr hc)]; rfl, hw.nothing⟩)
    · skip
      refine CW.skip ?_
      refine KN.code ?_
      refine CW.seq ?_
      refine CW.reg [0, 1, 2, 3, 4, 5] rfl ?_   -- 3, field.go:11
      refine s_bsl 9 rfl rfl (cells := polyC) (by kernel_rfl) rfl (fun _ _ => trivial) (fun ga => ?_)
      refine s_mv 10 rfl rfl ?_
      refine s_sub 11 rfl rfl rfl (w64 (by omega)) ?_
      refine s_ia0 12 (m - 3).toNat rfl rfl rfl (by omega) (by omega) ?_
      refine s_ldB 13 0 rfl rfl rfl (polyC_at hb hc) ?_
      refine s_as 2 rfl rfl ?_
      refine SX.next ?_
      refine CW.ret ?_
      exact KN.ret (rs := [.tmp 2]) Tryd.results92 rfl (fun w hw => ⟨rfl, hw.nothing⟩)

def ErrFieldN : Nat := 2
/-- The logarithms that the first i powers lay. -/
def lgs (m : Nat) : Nat → Nat → Nat
  | 0, _ => 0
  | i + 1, x => if x = ex m i then i else lgs m i x
def newExp (m i : Nat) : Array Value := ((List.range (N m)).map (fun j => .int .i64 ((if j < i then ex m j else 0 : Nat)))).toArray
def newLog (m i : Nat) : Array Value := ((List.range (N m + 1)).map (fun x => .int .i64 (lgs m i x : Nat))).toArray
def newCells (m ge gl : Nat) : Array Value := #[.int .i64 (m : Nat), .int .i64 ((N m + 1 : Nat) : Int), .slice (some ⟨ge, 0, none⟩) (N m) (N m), .slice (some ⟨gl, 0, none⟩) (N m + 1) (N m + 1)]
theorem newExp_zero (m : Nat) : (List.replicate (N m) (.int .i64 0)).toArray = newExp m 0 := by
  rw [rep_range]; unfold newExp; simp
theorem newLog_zero (m : Nat) : (List.replicate (N m + 1) (.int .i64 0)).toArray = newLog m 0 := by
  rw [rep_range]; unfold newLog; simp [lgs]
theorem newExp_set {m i : Nat} (_hi : i < N m) : (newExp m i).setIfInBounds i (.int .i64 (ex m i : Nat)) = newExp m (i + 1) := by
  unfold newExp
  rw [set_range]
  congr 1
  apply List.map_congr_left
  intro j _
  by_cases h : j = i
  · subst h; simp
  · rw [if_neg h]
    by_cases h2 : j < i
    · rw [if_pos h2, if_pos (by omega)]
    · rw [if_neg h2, if_neg (by omega)]
theorem newLog_set (m i : Nat) : (newLog m i).setIfInBounds (ex m i) (.int .i64 (i : Nat)) = newLog m (i + 1) := by
  unfold newLog
  rw [set_range]
  congr 1
  apply List.map_congr_left
  intro j _
  by_cases h : j = ex m i
  · rw [if_pos h]; simp [lgs, h]
  · rw [if_neg h]; simp [lgs, h]
theorem size_newExp (m i : Nat) : (newExp m i).size = N m := by simp [newExp]
theorem size_newLog (m i : Nat) : (newLog m i).size = N m + 1 := by simp [newLog]
theorem newExp_all (m : Nat) : newExp m (N m) = (expCells m).toArray := by
  unfold newExp expCells
  congr 1
  apply List.map_congr_left
  intro j hj
  rw [if_pos (by simpa using hj)]
theorem lgs_zero {m : Nat} (h : Ok m) (i : Nat) : lgs m i 0 = 0 := by
  induction i with
  | zero => rfl
  | succ i ih => have := (ex_lt h i).1; unfold lgs; rw [if_neg (by omega), ih]
theorem lgs_ex {m : Nat} (h : Ok m) : ∀ i, i ≤ N m → ∀ j, j < i → lgs m i (ex m j) = j
  | 0, _, j, hj => by omega
  | i + 1, hi, j, hj => by
    unfold lgs
    by_cases hji : j = i
    · subst hji; simp
    · rw [if_neg (fun he => hji (ex_inj h (by omega) (by omega) he))]
      exact lgs_ex h i (by omega) j (by omega)
theorem newLog_all {m : Nat} (h : Ok m) : newLog m (N m) = (logCells m).toArray := by
  unfold newLog logCells
  congr 1
  apply List.map_congr_left
  intro x hx
  by_cases h0 : x = 0
  · subst h0; rw [lgs_zero h]; simp
  · rw [if_neg h0]
    have hx2 : x < 2 ^ m := by rw [← N_succ]; simpa using hx
    obtain ⟨i, hi, rfl⟩ := ex_onto h (by omega) hx2
    rw [lgs_ex h _ (Nat.le_refl _) i hi, lg_ex h hi]
theorem shl_one {m : Nat} (h : Ok m) : IntKind.i64.wrap (1 * 2 ^ (min ((m : Nat) : Int).toNat IntKind.i64.bits)) = ((N m + 1 : Nat) : Int) := by
  have hp := N_pos h
  have h2 := h.hi
  have e : ((1 : Nat) : Int) * 2 ^ (min ((m : Nat) : Int).toNat IntKind.i64.bits) = 1 * 2 ^ (min ((m : Nat) : Int).toNat IntKind.i64.bits) := rfl
  have hs := N_succ m
  rw [← e, shl_nat (by omega) (by omega)]
  omega
theorem xt_val {m i : Nat} (h : Ok m) (hc : ((N m + 1 : Nat) : Int) ≤ ((2 * ex m i : Nat) : Int)) : ibit .xor .i64 ((2 * ex m i : Nat) : Int) (polyI (m : Nat) : Nat) = (ex m (i + 1) : Nat) := by
  have h1 := (ex_lt h i).2
  have hp := N_pos h
  have hs := N_succ m
  rw [ibit_xor_nat (by omega) (poly_lt _), polyI_ok h, ex_succ, xt_eq, if_pos (by omega)]
theorem xt_val2 {m i : Nat} (hc : ¬ ((N m + 1 : Nat) : Int) ≤ ((2 * ex m i : Nat) : Int)) : ((2 * ex m i : Nat) : Int) = (ex m (i + 1) : Nat) := by
  have hs := N_succ m
  rw [ex_succ, xt_eq, if_neg (by omega)]
/-- The field that is made. -/
theorem field_made {m : Nat} (h : Ok m) {g ge gl TF TI : Nat} {F : Nat → Prop} {w₀ w : World} (hTF : TF = 174) (hTI : TI = 3) (hst : St F w₀ [blk gl TI (newLog m (N m)), blk ge TI (newExp m (N m)), blk g TF (newCells m ge gl)] w) : St F w₀ [fieldA g m] w := by
  subst hTF hTI
  obtain ⟨h1, h2, h3⟩ := hst
  refine ⟨h1, h2, ?_⟩
  obtain ⟨D1, ⟨a1, a2⟩, a3, D2, ⟨b1, b2⟩, b3, D3, ⟨c1, c2⟩, c3, _⟩ := h3
  refine ⟨fun k => D1 k ∨ D2 k ∨ D3 k, ⟨ge, gl, .inr (.inr ((c1 _).2 rfl)), .inr (.inl ((b1 _).2 rfl)), .inl ((a1 _).2 rfl), c2, by rw [← newExp_all]; exact b2, by rw [← newLog_all h]; exact a2⟩, ?_, trivial⟩
  rintro k (hk | hk | hk)
  · exact a3 k hk
  · exact ⟨fun hf => (b3 k hk).1 (.inl hf), (b3 k hk).2⟩
  · exact ⟨fun hf => (c3 k hk).1 (.inl (.inl hf)), (c3 k hk).2⟩

theorem new_bad (m : Int) (e : Nat → Addr) (w : World) (hz : Er e w 2) (hm : -9223372036854775000 ≤ m ∧ m ≤ 9223372036854775000) (hb : m < 3 ∨ 14 < m) : Spec1 Tryd.prog 80 [.int .i64 m] w (two (.pointer none) (errV e ErrFieldN)) := by
  refine spec_of Tryd.func80 rfl Tryd.ntmps80 rfl ?_
  refine CW.seq ?_
  refine CW.reg [0, 1] rfl ?_   -- 0, field.go:22
  refine s_as 2 rfl rfl ?_
  refine s_as 3 rfl rfl ?_
  refine SX.next ?_
  refine CW.seq ?_
  refine CW.seq ?_
  refine CW.reg [0, 1, 2] rfl ?_   -- 1, field.go:23
  refine s_mv 7 rfl rfl ?_
  refine s_call1 8 rfl rfl rfl rfl (fun w hw => poly_spec1 _ _ (by omega)) (fun _ _ => trivial) ?_
  refine s_eq 9 rfl rfl rfl (decide_eq_true ((polyI_zero m).2 hb)) ?_
  refine SX.next ?_
  refine CW.condT rfl ?_
  refine CW.seq ?_
  refine CW.regD (.st true 0 (.st true 1 (.st true 2 .done))) (Sto w []) mixed (by kernel_rfl) (fun _ h => h.drew) (fun _ h => h) ?_
  refine s_ldS 10 rfl rfl (fun _ h => h.cell (by assumption)) ?_
  refine s_as 2 rfl rfl ?_
  refine s_as 3 rfl rfl ?_
  refine SX.next ?_
  refine CW.ret ?_
  exact KN.ret (rs := [.tmp 2, .tmp 3]) Tryd.results80 rfl (fun w hw => ⟨rfl, hw.nothing⟩)

theorem new_spec (m : Nat) (w : World) (hm : Ok m) : SpecX Tryd.prog 80 [.int .i64 (m : Nat)] w (X := Nat) (fun g => two (.pointer (some ⟨g, 0, none⟩)) .nilIface) (fun _ => True) (fun g => [fieldA g m]) := by
  have hp := N_pos hm
  have hs := N_succ m
  have hlo := hm.lo
  have hhi := hm.hi
  have hpz : ¬ ((polyI (m : Nat) : Nat) : Int) = 0 := fun h => by have := (polyI_zero _).1 h; omega
  refine spec_of Tryd.func80 rfl Tryd.ntmps80 rfl ?_
  refine CW.seq ?_
  refine CW.reg [0, 1] rfl ?_   -- 0, field.go:22
  refine s_as 2 rfl rfl ?_
  refine s_as 3 rfl rfl ?_
  refine SX.next ?_
  refine CW.seq ?_
  refine CW.seq ?_
  refine CW.reg [0, 1, 2] rfl ?_   -- 1, field.go:23
  refine s_mv 7 rfl rfl ?_
  refine s_call1 8 rfl rfl rfl rfl (fun w hw => poly_spec1 _ _ (by omega)) (fun _ _ => trivial) ?_
  refine s_eq 9 rfl rfl rfl (decide_eq_false hpz) ?_
  refine SX.next ?_
  refine CW.condF rfl ?_
  refine CW.skip ?_
  refine KN.code ?_
  refine CW.seq ?_
  refine CW.reg [0, 1, 2, 3, 4, 5] rfl ?_   -- 3, field.go:26
  refine s_mv 11 rfl rfl ?_
  refine s_mv 12 rfl rfl ?_
  refine s_shl 13 rfl rfl rfl (by omega) (shl_one hm) ?_
  refine s_build 14 rfl rfl (cells := #[.int .i64 (m : Nat), .int .i64 ((N m + 1 : Nat) : Int), .slice none 0 0, .slice none 0 0]) rfl ?_
  refine s_box 15 rfl rfl (fun _ _ => trivial) (fun g => ?_)
  refine s_as 4 rfl rfl ?_
  refine SX.next ?_
  refine CW.cut (G := Nat × Nat × Nat × Nat) (fun q => [(0, .int .i64 (m : Nat)), (4, .pointer (some ⟨q.2.2.1, 0, none⟩))]) (fun q => Sto w [blk q.1 3 (newLog m 0), blk q.2.1 3 (newExp m 0), blk q.2.2.1 174 (newCells m q.2.1 q.1)]) (fun _ => True) ?_ ?_
  · skip
    refine CW.regD (.st true 0 (.st true 1 (.st true 2 (.st true 3 (.st true 4 (.st true 5 (.st true 6 (.st true 8 (.st true 9 (.st true 10 (.st true 11 (.alt 7 (.st true 13 (.st true 14 (.alt 12 (.st false 15 (.st true 16 (.st true 17 (.st false 18 .done)))) (.st false 15 (.st false 12 (.st true 16 (.st true 17 (.st false 18 .done)))))))) (.st false 12 (.st false 7 (.st true 13 (.st true 14 (.st false 15 (.st true 16 (.st true 17 (.st false 18 .done)))))))))))))))))))) (fun w => w.cell? ⟨g, 1, none⟩ = some (.int .i64 ((N m + 1 : Nat) : Int))) mixed (by kernel_rfl) (fun _ h => h.drew) (fun _ h => h.blkCell (i := 0) rfl rfl) ?_
    refine s_mv 16 rfl rfl ?_
    refine s_mv 17 rfl rfl ?_
    refine s_mv 18 rfl rfl ?_
    refine s_nil 19 rfl rfl ?_
    refine s_fa 20 rfl rfl ?_
    refine s_ldS 21 rfl rfl (fun _ h => h) ?_
    refine s_sub 22 rfl rfl rfl (r := (N m : Nat)) (by rw [sizem1]; exact w64 (by omega)) ?_
    refine s_mv 24 rfl rfl ?_
    refine s_nil 25 rfl rfl ?_
    refine s_fa 26 rfl rfl ?_
    refine s_ldS 27 rfl rfl (fun _ h => h) ?_
    refine SX.alt ?_ ?_
    · skip
      refine s_make 23 (N m) rfl rfl rfl rfl rfl (by omega) (fun _ h => h.blkCell (i := 0) rfl rfl) (fun ge => ?_)
      refine s_nil 29 rfl rfl ?_
      refine s_fa 30 rfl rfl ?_
      refine SX.alt ?_ ?_
      · skip
        refine s_make 28 (N m + 1) rfl rfl rfl rfl rfl (by omega) (fun _ h => h.blkCell (i := 1) rfl rfl) (fun gl => ?_)
        refine s_stB 2 rfl rfl rfl rfl rfl (by simp [Value.cells]) (fun _ h => h.blkCell (i := 2) rfl rfl) ?_
        refine s_nil 31 rfl rfl ?_
        refine s_fa 32 rfl rfl ?_
        refine s_stB 2 rfl rfl rfl rfl rfl (by simp [Value.cells]) (fun _ h => h.blkCell (i := 2) rfl rfl) ?_
        refine SX.end_ ?_
        exact KN.join (gl, ge, g, 0) ⟨rfl, rfl, trivial⟩ (fun w h => by have := h.pick [0, 0, 0] rfl; rw [newLog_zero, newExp_zero] at this; exact this) trivial
      · skip
        refine s_stB 1 rfl rfl rfl rfl rfl (by simp [Value.cells]) (fun _ h => h.blkCell (i := 1) rfl rfl) ?_
        refine s_make 28 (N m + 1) rfl rfl rfl rfl rfl (by omega) (fun _ h => h.blkCell (i := 1) rfl rfl) (fun gl => ?_)
        refine s_nil 31 rfl rfl ?_
        refine s_fa 32 rfl rfl ?_
        refine s_stB 2 rfl rfl rfl rfl rfl (by simp [Value.cells]) (fun _ h => h.blkCell (i := 2) rfl rfl) ?_
        refine SX.end_ ?_
        exact KN.join (gl, ge, g, 0) ⟨rfl, rfl, trivial⟩ (fun w h => by have := h.pick [0, 0, 0] rfl; rw [newLog_zero, newExp_zero] at this; exact this) trivial
    · skip
      refine s_make 28 (N m + 1) rfl rfl rfl rfl rfl (by omega) (fun _ h => h.blkCell (i := 0) rfl rfl) (fun gl => ?_)
      refine s_make 23 (N m) rfl rfl rfl rfl rfl (by omega) (fun _ h => h.blkCell (i := 1) rfl rfl) (fun ge => ?_)
      refine s_nil 29 rfl rfl ?_
      refine s_fa 30 rfl rfl ?_
      refine s_stB 2 rfl rfl rfl rfl rfl (by simp [Value.cells]) (fun _ h => h.blkCell (i := 2) rfl rfl) ?_
      refine s_nil 31 rfl rfl ?_
      refine s_fa 32 rfl rfl ?_
      refine s_stB 2 rfl rfl rfl rfl rfl (by simp [Value.cells]) (fun _ h => h.blkCell (i := 2) rfl rfl) ?_
      refine SX.end_ ?_
      exact KN.join (gl, ge, g, 0) ⟨rfl, rfl, trivial⟩ (fun w h => by have := h.pick [1, 0, 0] rfl; rw [newLog_zero, newExp_zero] at this; exact this) trivial
  · skip
    intro q _
    refine CW.seq ?_
    refine CW.reg [0] rfl ?_   -- 5, field.go:28
    refine s_as 5 rfl rfl ?_
    refine SX.next ?_
    refine CW.seq ?_
    refine CW.seq ?_
    refine CW.reg [0, 1, 2, 3, 4, 5] rfl ?_   -- 6, field.go:29
    refine s_mv 33 rfl rfl ?_
    refine s_nil 34 rfl rfl ?_
    refine s_fa 35 rfl rfl ?_
    refine s_ldB 36 2 rfl rfl rfl rfl ?_
    refine s_len 37 rfl rfl ?_
    refine s_mv 38 rfl rfl ?_
    refine SX.next ?_
    refine CW.block ?_
    refine CW.loop (G := Nat × Nat × Nat × Nat) (fun q => [(0, .int .i64 (m : Nat)), (4, .pointer (some ⟨q.2.2.1, 0, none⟩)), (5, .int .i64 (ex m q.2.2.2 : Nat)), (37, .int .i64 (N m : Nat)), (38, .int .i64 (q.2.2.2 : Nat))]) (fun q => Sto w [blk q.1 3 (newLog m q.2.2.2), blk q.2.1 3 (newExp m q.2.2.2), blk q.2.2.1 174 (newCells m q.2.1 q.1)]) (fun q => q.2.2.2 ≤ N m) (fun q => N m - q.2.2.2) (q.1, q.2.1, q.2.2.1, 0) ⟨rfl, rfl, rfl, rfl, rfl, trivial⟩ (fun _ h => h) (Nat.zero_le _) ?_
    rintro ⟨gl, ge, g, i⟩ hi
    simp only at hi ⊢
    have hex := ex_lt hm i
    have hse := size_newExp m i
    have hsl := size_newLog m i
    refine CW.seq ?_
    refine CW.reg [0] rfl ?_   -- 7, field.go:29
    refine s_lt 39 rfl rfl rfl rfl ?_
    refine SX.next ?_
    refine CW.seq ?_
    refine CW.test rfl (fun hc => ?_) (fun hc => ?_)
    · skip
      replace hc : i < N m := by omega
      refine CW.skip ?_
      refine KN.code ?_
      refine CW.cut (G := Unit) (fun _ => [(0, .int .i64 (m : Nat)), (4, .pointer (some ⟨g, 0, none⟩)), (5, .int .i64 (ex m (i + 1) : Nat)), (37, .int .i64 (N m : Nat)), (38, .int .i64 (i : Nat))]) (fun _ => Sto w [blk gl 3 (newLog m (i + 1)), blk ge 3 (newExp m (i + 1)), blk g 174 (newCells m ge gl)]) (fun _ => True) ?_ ?_
      · skip
        refine CW.block ?_
        refine CW.seq ?_
        refine CW.reg [0, 1] rfl ?_   -- 8, field.go:29
        refine s_mv 40 rfl rfl ?_
        refine s_as 6 rfl rfl ?_
        refine SX.next ?_
        refine CW.cut (G := Unit) (fun _ => [(0, .int .i64 (m : Nat)), (4, .pointer (some ⟨g, 0, none⟩)), (5, .int .i64 (ex m i : Nat)), (37, .int .i64 (N m : Nat)), (38, .int .i64 (i : Nat))]) (fun _ => Sto w [blk gl 3 (newLog m (i + 1)), blk ge 3 (newExp m (i + 1)), blk g 174 (newCells m ge gl)]) (fun _ => True) ?_ ?_
        · skip
          refine CW.regD (.st true 0 (.st true 1 (.st true 2 (.st true 3 (.st true 4 (.st true 5 (.st true 6 (.st true 7 (.st true 8 (.st true 9 (.st true 10 (.st true 11 (.st true 12 (.st false 13 (.st true 14 (.st false 15 .done)))))))))))))))) (Sto w [blk g 174 (newCells m ge gl)]) mixed (by kernel_rfl) (fun _ h => h.drew) (fun _ h => h.pick [2] rfl) ?_
          refine s_mv 41 rfl rfl ?_
          refine s_nil 42 rfl rfl ?_
          refine s_fa 43 rfl rfl ?_
          refine s_ldS 44 rfl rfl (fun _ h => h.blkCell (i := 0) rfl rfl) ?_
          refine s_mv 45 rfl rfl ?_
          refine s_mv 46 rfl rfl ?_
          refine s_nil 47 rfl rfl ?_
          refine s_fa 48 rfl rfl ?_
          refine s_ldS 49 rfl rfl (fun _ h => h.blkCell (i := 0) rfl rfl) ?_
          refine s_mv 50 rfl rfl ?_
          refine s_mv 51 rfl rfl ?_
          refine s_mv 52 rfl rfl ?_
          refine s_ia0 53 i rfl rfl rfl rfl hc ?_
          refine s_stB 1 rfl rfl rfl rfl rfl (by omega) (fun _ h => h.pick [2] rfl) ?_
          refine s_ia0 54 (ex m i) rfl rfl rfl rfl (by omega) ?_
          refine s_stB 0 rfl rfl rfl rfl rfl (by omega) (fun _ h => h.pick [2] rfl) ?_
          refine SX.end_ ?_
          exact KN.join () ⟨rfl, rfl, rfl, rfl, rfl, trivial⟩ (fun w h => by rw [← newLog_set, ← newExp_set hc]; exact h) trivial
        · skip
          intro _ _
          refine CW.seq ?_
          refine CW.reg [0, 1, 2] rfl ?_   -- 10, field.go:31
          refine s_mv 55 rfl rfl ?_
          refine s_mul 56 rfl rfl rfl (r := ((2 * ex m i : Nat) : Int)) (by rw [show ((ex m i : Nat) : Int) * 2 = ((2 * ex m i : Nat) : Int) by omega]; exact w64 (by omega)) ?_
          refine s_as 5 rfl rfl ?_
          refine SX.next ?_
          refine CW.seq ?_
          refine CW.reg [0, 1, 2, 3, 4, 5] rfl ?_   -- 11, field.go:31
          refine s_mv 57 rfl rfl ?_
          refine s_mv 58 rfl rfl ?_
          refine s_nil 59 rfl rfl ?_
          refine s_fa 60 rfl rfl ?_
          refine s_ldB 61 2 rfl rfl rfl rfl ?_
          refine s_ge 62 rfl rfl rfl rfl ?_
          refine SX.next ?_
          refine CW.test rfl (fun hc => ?_) (fun hc => ?_)
          · skip
            refine CW.reg [0, 1, 2, 3, 4] rfl ?_   -- 12, field.go:32
            refine s_mv 63 rfl rfl ?_
            refine s_mv 64 rfl rfl ?_
            refine s_call1 65 rfl rfl rfl rfl (fun w hw => poly_spec1 _ _ (by omega)) (fun _ _ => trivial) ?_
            refine s_bit 66 rfl rfl rfl rfl (xt_val hm hc) ?_
            refine s_as 5 rfl rfl ?_
            refine SX.end_ ?_
            refine KN.blk ?_
            exact KN.join () ⟨rfl, rfl, rfl, rfl, rfl, trivial⟩ (fun w h => h) trivial
          · skip
            refine CW.skip ?_
            refine KN.blk ?_
            exact KN.join () ⟨rfl, rfl, by rw [← xt_val2 hc]; rfl, rfl, rfl, trivial⟩ (fun w h => h) trivial
      · skip
        intro _ _
        refine CW.reg [0, 1] rfl ?_   -- 13, field.go:29
        refine s_add 67 rfl rfl rfl (r := ((i + 1 : Nat) : Int)) (w64 (by omega)) ?_
        refine s_mv 38 rfl rfl ?_
        refine SX.end_ ?_
        exact KN.back (gl, ge, g, i + 1) ⟨rfl, rfl, rfl, rfl, rfl, trivial⟩ (fun _ h => h) hc (by simp only; omega)
    · skip
      obtain rfl : i = N m := by omega
      refine CW.exit rfl ?_
      refine KN.code ?_
      refine CW.seq ?_
      refine CW.reg [0, 1, 2] rfl ?_   -- 14, field.go:35
      refine s_mv 68 rfl rfl ?_
      refine s_as 2 rfl rfl ?_
      refine s_as 3 rfl rfl ?_
      refine SX.next ?_
      refine CW.ret ?_
      exact KN.ret (rs := [.tmp 2, .tmp 3]) Tryd.results80 rfl (fun w hw => ⟨g, rfl, trivial, field_made hm rfl rfl hw⟩)
