/- The contracts of package field: what each of its functions answers, over the fields of 2^m elements. Conditions: the field was made by New. -/
import Derived.Test.YtcjddlcinaedaaaDoorFacts
import Derived.Test.YtcjddlcinaedaaaDoorFm
import Derived.Test.YtcjddlcinaedaaaDoorBits
namespace Go.Proofs.YtcjddlcinaedaaaDoor
open Go.Sx Go.Fm
set_option maxRecDepth 100000

def expCells (m : Nat) : List Value := (List.range (N m)).map (fun i => .int .i64 (ex m i : Nat))
noncomputable def logCells (m : Nat) : List Value := (List.range (N m + 1)).map (fun x => .int .i64 ((if x = 0 then 0 else lg m x : Nat)))

/-- A field that New made, in block g. -/
def fieldA (g m : Nat) : Atom where
  ok w D := ∃ ge gl, D g ∧ D ge ∧ D gl ∧ w.heap[g]? = some (.cells #[.int .i64 (m : Nat), .int .i64 ((N m + 1 : Nat) : Int), .slice (some ⟨ge, 0, none⟩) (N m) (N m), .slice (some ⟨gl, 0, none⟩) (N m + 1) (N m + 1)] 174 (0, 0)) ∧
    w.heap[ge]? = some (.cells (expCells m).toArray 3 (0, 0)) ∧ w.heap[gl]? = some (.cells (logCells m).toArray 3 (0, 0))
  loc := by
    rintro w w' D ⟨ge, gl, h1, h2, h3, h4, h5, h6⟩ hb
    exact ⟨ge, gl, h1, h2, h3, by rw [hb g h1]; exact h4, by rw [hb ge h2]; exact h5, by rw [hb gl h3]; exact h6⟩

structure FieldAt (w : World) (g m ge gl : Nat) : Prop where
  cm : w.cell? ⟨g, 0, none⟩ = some (.int .i64 (m : Nat))
  csize : w.cell? ⟨g, 1, none⟩ = some (.int .i64 ((N m + 1 : Nat) : Int))
  cexp : w.cell? ⟨g, 2, none⟩ = some (.slice (some ⟨ge, 0, none⟩) (N m) (N m))
  clog : w.cell? ⟨g, 3, none⟩ = some (.slice (some ⟨gl, 0, none⟩) (N m + 1) (N m + 1))
  exps : ∀ i : Nat, i < N m → w.cell? ⟨ge, i, none⟩ = some (.int .i64 (ex m i : Nat))
  logs : ∀ x : Nat, x < N m + 1 → x ≠ 0 → w.cell? ⟨gl, x, none⟩ = some (.int .i64 (lg m x : Nat))

theorem field_at {w : World} {g m : Nat} (h : Has (fieldA g m) w) : ∃ ge gl, FieldAt w g m ge gl := by
  obtain ⟨D, ⟨ge, gl, _, _, _, h4, h5, h6⟩, _⟩ := h
  refine ⟨ge, gl, cell_of_blk h4 0, cell_of_blk h4 1, cell_of_blk h4 2, cell_of_blk h4 3, fun i hi => ?_, fun x hx h0 => ?_⟩
  · rw [cell_of_blk h5]; simp [expCells, hi]
  · rw [cell_of_blk h6]; simp [logCells, hx, h0]

/-- The element that a number counts as. -/
def lo (m : Nat) (a : Int) : Nat := (a % ((2 ^ m : Nat) : Int)).toNat
/-- The exponent that a number counts as. -/
def em (m : Nat) (n : Int) : Nat := (n % ((N m : Nat) : Int)).toNat

theorem lo_lt (m : Nat) (a : Int) : lo m a < 2 ^ m := by
  have h := Nat.two_pow_pos m
  have h1 := Int.emod_nonneg a (b := ((2 ^ m : Nat) : Int)) (by omega)
  have h2 := Int.emod_lt_of_pos a (b := ((2 ^ m : Nat) : Int)) (by omega)
  unfold lo; omega
theorem lo_lt' (m : Nat) (a : Int) : lo m a < N m + 1 := by rw [N_succ]; exact lo_lt m a
theorem lo_nat {m : Nat} {x : Nat} (h : x < 2 ^ m) : lo m (x : Nat) = x := by
  unfold lo
  rw [Int.emod_eq_of_lt (by omega) (by omega)]; omega
theorem low_eq {m : Nat} (h : Ok m) (a : Int) : ibit .and .i64 a (((N m + 1 : Nat) : Int) - 1) = (lo m a : Nat) := by
  have h2 := h.hi
  have hp := Nat.two_pow_pos m
  have h1 := Int.emod_nonneg a (b := ((2 ^ m : Nat) : Int)) (by omega)
  rw [ibit_and_mask a (m := m) (by omega) (by rw [N_succ])]
  unfold lo; omega
theorem lo_xor {m : Nat} (h : Ok m) (a b : Int) : lo m (ibit .xor .i64 a b) = lo m a ^^^ lo m b := by
  have := h.hi
  exact ibit_xor_low a b (by omega)
theorem em_lt {m : Nat} (h : Ok m) (n : Int) : em m n < N m := by
  have hp := N_pos h
  have h1 := Int.emod_nonneg n (b := ((N m : Nat) : Int)) (by omega)
  have h2 := Int.emod_lt_of_pos n (b := ((N m : Nat) : Int)) (by omega)
  unfold em; omega
theorem em_nat {m : Nat} (k : Nat) : em m (k : Nat) = k % N m := by
  unfold em
  rw [← Int.natCast_emod, Int.toNat_natCast]
theorem em_neg {m : Nat} (h : Ok m) {n : Int} (hn : n.tmod ((N m : Nat) : Int) < 0) : n.tmod ((N m : Nat) : Int) + (N m : Nat) = (em m n : Nat) := by
  have hp := N_pos h
  have h1 := Int.emod_nonneg n (b := ((N m : Nat) : Int)) (by omega)
  unfold em
  rw [Int.tmod_eq_emod] at hn ⊢
  split at hn <;> split <;> omega
theorem em_pos {m : Nat} (h : Ok m) {n : Int} (hn : ¬ n.tmod ((N m : Nat) : Int) < 0) : n.tmod ((N m : Nat) : Int) = (em m n : Nat) := by
  have hp := N_pos h
  have h1 := Int.emod_nonneg n (b := ((N m : Nat) : Int)) (by omega)
  have h2 := Int.emod_lt_of_pos n (b := ((N m : Nat) : Int)) (by omega)
  unfold em
  rw [Int.tmod_eq_emod] at hn ⊢
  split at hn <;> split <;> omega
theorem sizem1 (m : Nat) : (((N m + 1 : Nat) : Int) - 1) = ((N m : Nat) : Int) := by omega

/-! ### The errors -/
def errV (e : Nat → Addr) (k : Nat) : Value := .iface 213 (.pointer (some (e k)))
/-- The error variable number k holds an error of its own. -/
def Er (e : Nat → Addr) (w : World) (k : Nat) : Prop := w.cell? ⟨k, 0, none⟩ = some (errV e k)
theorem _root_.Go.Sx.St.er {e : Nat → Addr} {w₀ w : World} {L : List Atom} {k : Nat} (h : Sto w₀ L w) (hz : Er e w₀ k) : Er e w k := h.cell hz

theorem low_spec (g m : Nat) (a : Int) (w : World) (hm : Ok m) (hf : Has (fieldA g m) w) : Spec1 Tryd.prog 134 [.pointer (some ⟨g, 0, none⟩), .int .i64 a] w (.int .i64 (lo m a : Nat)) := by
  obtain ⟨ge, gl, hF⟩ := field_at hf
  have hp := N_pos hm
  have hsz := hF.csize
  refine spec_of Tryd.func134 rfl Tryd.ntmps134 rfl ?_
  refine CW.seq ?_
  refine CW.reg [0] rfl ?_   -- 0, field.go:48
  refine s_as 4 rfl rfl ?_
  refine SX.next ?_
  refine CW.seq ?_
  refine CW.reg [0, 1, 2, 3, 4, 5, 6, 7] rfl ?_   -- 1, field.go:48
  refine s_mv 5 rfl rfl ?_
  refine s_mv 6 rfl rfl ?_
  refine s_nil 7 rfl rfl ?_
  refine s_fa 8 rfl rfl ?_
  refine s_ld 9 rfl rfl (fun _ h => h.cell (by assumption)) ?_
  refine s_sub 10 rfl rfl rfl (w64 (by omega)) ?_
  refine s_bit 11 rfl rfl rfl rfl (low_eq hm a) ?_
  refine s_as 4 rfl rfl ?_
  refine SX.next ?_
  refine CW.ret ?_
  exact KN.ret (rs := [.tmp 4]) Tryd.results134 rfl (fun w hw => ⟨rfl, hw.nothing⟩)

theorem add_spec (g m : Nat) (a b : Int) (w : World) (hm : Ok m) (hf : Has (fieldA g m) w) : Spec1 Tryd.prog 133 [.pointer (some ⟨g, 0, none⟩), .int .i64 a, .int .i64 b] w (.int .i64 (lo m a ^^^ lo m b : Nat)) := by
  refine spec_of Tryd.func133 rfl Tryd.ntmps133 rfl ?_
  refine CW.seq ?_
  refine CW.reg [0] rfl ?_   -- 0, field.go:51
  refine s_as 6 rfl rfl ?_
  refine SX.next ?_
  refine CW.seq ?_
  refine CW.reg [0, 1, 2, 3, 4, 5] rfl ?_   -- 1, field.go:51
  refine s_mv 7 rfl rfl ?_
  refine s_mv 8 rfl rfl ?_
  refine s_mv 9 rfl rfl ?_
  refine s_bit 10 rfl rfl rfl rfl rfl ?_
  refine s_call1 11 rfl rfl rfl rfl (v := .int .i64 (lo m a ^^^ lo m b : Nat)) (fun w hw => by rw [← lo_xor hm]; exact low_spec g m _ _ hm (hw.old hf)) (fun _ _ => trivial) ?_
  refine s_as 6 rfl rfl ?_
  refine SX.next ?_
  refine CW.ret ?_
  exact KN.ret (rs := [.tmp 6]) Tryd.results133 rfl (fun w hw => ⟨rfl, hw.nothing⟩)

theorem m_spec (g m : Nat)  (w : World) (hm : Ok m) (hf : Has (fieldA g m) w) : Spec1 Tryd.prog 82 [.pointer (some ⟨g, 0, none⟩)] w (.int .i64 (m : Nat)) := by
  obtain ⟨ge, gl, hF⟩ := field_at hf
  have hp := N_pos hm
  have hsz := hF.csize
  have hmm := hF.cm
  refine spec_of Tryd.func82 rfl Tryd.ntmps82 rfl ?_
  refine CW.seq ?_
  refine CW.reg [0] rfl ?_   -- 0, field.go:39
  refine s_as 2 rfl rfl ?_
  refine SX.next ?_
  refine CW.seq ?_
  refine CW.reg [0, 1, 2, 3, 4] rfl ?_   -- 1, field.go:39
  refine s_mv 3 rfl rfl ?_
  refine s_nil 4 rfl rfl ?_
  refine s_fa 5 rfl rfl ?_
  refine s_ld 6 rfl rfl (fun _ h => h.cell (by assumption)) ?_
  refine s_as 2 rfl rfl ?_
  refine SX.next ?_
  refine CW.ret ?_
  exact KN.ret (rs := [.tmp 2]) Tryd.results82 rfl (fun w hw => ⟨rfl, hw.nothing⟩)

theorem size_spec (g m : Nat)  (w : World) (hm : Ok m) (hf : Has (fieldA g m) w) : Spec1 Tryd.prog 96 [.pointer (some ⟨g, 0, none⟩)] w (.int .i64 (N m + 1 : Nat)) := by
  obtain ⟨ge, gl, hF⟩ := field_at hf
  have hp := N_pos hm
  have hsz := hF.csize
  refine spec_of Tryd.func96 rfl Tryd.ntmps96 rfl ?_
  refine CW.seq ?_
  refine CW.reg [0] rfl ?_   -- 0, field.go:42
  refine s_as 2 rfl rfl ?_
  refine SX.next ?_
  refine CW.seq ?_
  refine CW.reg [0, 1, 2, 3, 4] rfl ?_   -- 1, field.go:42
  refine s_mv 3 rfl rfl ?_
  refine s_nil 4 rfl rfl ?_
  refine s_fa 5 rfl rfl ?_
  refine s_ld 6 rfl rfl (fun _ h => h.cell (by assumption)) ?_
  refine s_as 2 rfl rfl ?_
  refine SX.next ?_
  refine CW.ret ?_
  exact KN.ret (rs := [.tmp 2]) Tryd.results96 rfl (fun w hw => ⟨rfl, hw.nothing⟩)

theorem exp_spec (g m : Nat) (n : Int) (w : World) (hm : Ok m) (hf : Has (fieldA g m) w) : Spec1 Tryd.prog 85 [.pointer (some ⟨g, 0, none⟩), .int .i64 n] w (.int .i64 (ex m (em m n) : Nat)) := by
  obtain ⟨ge, gl, hF⟩ := field_at hf
  have hp := N_pos hm
  have hsz := hF.csize
  have hE := hF.cexp
  have hlt := em_lt hm n
  have hx := hF.exps _ hlt
  refine spec_of Tryd.func85 rfl Tryd.ntmps85 rfl ?_
  refine CW.seq ?_
  refine CW.reg [0] rfl ?_   -- 0, field.go:63
  refine s_as 4 rfl rfl ?_
  refine SX.next ?_
  refine CW.seq ?_
  refine CW.reg [0, 1, 2, 3, 4, 5, 6, 7] rfl ?_   -- 1, field.go:64
  refine s_mv 5 rfl rfl ?_
  refine s_mv 6 rfl rfl ?_
  refine s_nil 7 rfl rfl ?_
  refine s_fa 8 rfl rfl ?_
  refine s_ld 9 rfl rfl (fun _ h => h.cell (by assumption)) ?_
  refine s_sub 10 rfl rfl rfl (w64 (by omega)) ?_
  refine s_rem 11 rfl rfl rfl (by omega) (r := n.tmod ((N m : Nat) : Int)) (by rw [sizem1]) ?_
  refine s_as 1 rfl rfl ?_
  refine SX.next ?_
  refine CW.seq ?_
  refine CW.seq ?_
  refine CW.reg [0, 1] rfl ?_   -- 2, field.go:65
  refine s_mv 12 rfl rfl ?_
  refine s_lt 13 rfl rfl rfl rfl ?_
  refine SX.next ?_
  refine CW.test rfl (fun hc => ?_) (fun hc => ?_)
  · skip
    refine CW.reg [0, 1, 2, 3, 4, 5, 6, 7] rfl ?_   -- 3, field.go:66
    refine s_mv 14 rfl rfl ?_
    refine s_mv 15 rfl rfl ?_
    refine s_nil 16 rfl rfl ?_
    refine s_fa 17 rfl rfl ?_
    refine s_ld 18 rfl rfl (fun _ h => h.cell (by assumption)) ?_
    refine s_sub 19 rfl rfl rfl (w64 (by omega)) ?_
    refine s_add 20 rfl rfl rfl (r := (em m n : Nat)) (by rw [sizem1, em_neg hm hc]; exact w64 (by omega)) ?_
    refine s_as 1 rfl rfl ?_
    refine SX.next ?_
    refine CW.seq ?_
    refine CW.reg [0, 1, 2, 3, 4, 5, 6, 7] rfl ?_   -- 4, field.go:68
    refine s_mv 21 rfl rfl ?_
    refine s_nil 22 rfl rfl ?_
    refine s_fa 23 rfl rfl ?_
    refine s_ld 24 rfl rfl (fun _ h => h.cell (by assumption)) ?_
    refine s_mv 25 rfl rfl ?_
    refine s_ia0 26 (em m n) rfl rfl rfl rfl hlt ?_
    refine s_ld 27 rfl rfl (fun _ h => h.cell hx) ?_
    refine s_as 4 rfl rfl ?_
    refine SX.next ?_
    refine CW.ret ?_
    exact KN.ret (rs := [.tmp 4]) Tryd.results85 rfl (fun w hw => ⟨rfl, hw.nothing⟩)
  · skip
    refine CW.skip ?_
    refine KN.code ?_
    refine CW.seq ?_
    refine CW.reg [0, 1, 2, 3, 4, 5, 6, 7] rfl ?_   -- 4, field.go:68
    refine s_mv 21 rfl rfl ?_
    refine s_nil 22 rfl rfl ?_
    refine s_fa 23 rfl rfl ?_
    refine s_ld 24 rfl rfl (fun _ h => h.cell (by assumption)) ?_
    refine s_mv 25 rfl rfl ?_
    refine s_ia0 26 (em m n) rfl rfl rfl (em_pos hm hc) hlt ?_
    refine s_ld 27 rfl rfl (fun _ h => h.cell hx) ?_
    refine s_as 4 rfl rfl ?_
    refine SX.next ?_
    refine CW.ret ?_
    exact KN.ret (rs := [.tmp 4]) Tryd.results85 rfl (fun w hw => ⟨rfl, hw.nothing⟩)

theorem log0 {w : World} {g m ge gl : Nat} (hF : FieldAt w g m ge gl) {a : Int} (h0 : ¬ ((lo m a : Nat) : Int) = 0) : w.cell? ⟨gl, lo m a, none⟩ = some (.int .i64 (lg m (lo m a) : Nat)) := hF.logs _ (lo_lt' m a) (by omega)
theorem lg_bd {m : Nat} (h : Ok m) {x : Nat} (h1 : ¬ ((x : Nat) : Int) = 0) (h2 : x < 2 ^ m) : lg m x < N m := (lg_spec h (by omega) h2).1
theorem mul_val {m : Nat} (h : Ok m) {a b : Int} (ha : ¬ ((lo m a : Nat) : Int) = 0) (hb : ¬ ((lo m b : Nat) : Int) = 0) : ex m (em m ((lg m (lo m a) : Nat) + (lg m (lo m b) : Nat))) = gm m (lo m a) (lo m b) := by
  rw [gm_lg h (lo_lt m a) (lo_lt m b) (by omega) (by omega), show (((lg m (lo m a) : Nat) : Int) + (lg m (lo m b) : Nat)) = ((lg m (lo m a) + lg m (lo m b) : Nat) : Int) by omega, em_nat, ex_mod h]
theorem mul_zero {m : Nat} {a b : Int} (h : ((lo m a : Nat) : Int) = 0 ∨ ((lo m b : Nat) : Int) = 0) : 0 = gm m (lo m a) (lo m b) := by
  rcases h with h | h
  · rw [show lo m a = 0 by omega, gm_zero_left]
  · rw [show lo m b = 0 by omega, gm_zero_right]

theorem mul_spec (g m : Nat) (a b : Int) (w : World) (hm : Ok m) (hf : Has (fieldA g m) w) : Spec1 Tryd.prog 124 [.pointer (some ⟨g, 0, none⟩), .int .i64 a, .int .i64 b] w (.int .i64 (gm m (lo m a) (lo m b) : Nat)) := by
  obtain ⟨ge, gl, hF⟩ := field_at hf
  have hp := N_pos hm
  have hsz := hF.csize
  have hL := hF.clog
  have hla := lo_lt' m a
  have hlb := lo_lt' m b
  refine spec_of Tryd.func124 rfl Tryd.ntmps124 rfl ?_
  refine CW.seq ?_
  refine CW.reg [0] rfl ?_   -- 0, field.go:54
  refine s_as 6 rfl rfl ?_
  refine SX.next ?_
  refine CW.seq ?_
  refine CW.reg [0, 1, 2, 3, 4, 5, 6, 7] rfl ?_   -- 1, field.go:55
  refine s_mv 7 rfl rfl ?_
  refine s_mv 8 rfl rfl ?_
  refine s_call1 9 rfl rfl rfl rfl (fun w hw => low_spec g m _ _ hm (hw.old hf)) (fun _ _ => trivial) ?_
  refine s_mv 10 rfl rfl ?_
  refine s_mv 11 rfl rfl ?_
  refine s_call1 12 rfl rfl rfl rfl (fun w hw => low_spec g m _ _ hm (hw.old hf)) (fun _ _ => trivial) ?_
  refine s_as 1 rfl rfl ?_
  refine s_as 2 rfl rfl ?_
  refine SX.next ?_
  refine CW.seq ?_
  refine CW.seq ?_
  refine CW.reg [0, 1, 2, 3, 4, 5] rfl ?_   -- 2, field.go:56
  refine s_mv 13 rfl rfl ?_
  refine s_eq 14 rfl rfl rfl rfl ?_
  refine s_mv 15 rfl rfl ?_
  refine SX.bool 15 rfl (fun hb => ?_) (fun hb => ?_)
  · skip
    replace hb := of_decide_eq_true hb
    refine SX.skip rfl ?_
    refine SX.skip rfl ?_
    refine s_pickT 18 rfl rfl rfl ?_
    refine SX.next ?_
    refine CW.condT rfl ?_
    refine CW.seq ?_
    refine CW.reg [0] rfl ?_   -- 3, field.go:57
    refine s_as 6 rfl rfl ?_
    refine SX.next ?_
    refine CW.ret ?_
    exact KN.ret (rs := [.tmp 6]) Tryd.results124 rfl (fun w hw => ⟨by rw [oneOf, ← mul_zero (.inl hb)]; rfl, hw⟩)
  · skip
    replace hb := of_decide_eq_false hb
    have hca := log0 hF hb
    have hba := lg_bd hm hb (lo_lt m a)
    refine s_mv 16 rfl rfl ?_
    refine s_eq 17 rfl rfl rfl rfl ?_
    refine s_pickF 18 rfl rfl rfl ?_
    refine SX.next ?_
    refine CW.test rfl (fun hc => ?_) (fun hc => ?_)
    · skip
      refine CW.seq ?_
      refine CW.reg [0] rfl ?_   -- 3, field.go:57
      refine s_as 6 rfl rfl ?_
      refine SX.next ?_
      refine CW.ret ?_
      exact KN.ret (rs := [.tmp 6]) Tryd.results124 rfl (fun w hw => ⟨by rw [oneOf, ← mul_zero (.inr hc)]; rfl, hw⟩)
    · skip
      have hcb := log0 hF hc
      have hbb := lg_bd hm hc (lo_lt m b)
      refine CW.skip ?_
      refine KN.code ?_
      refine CW.seq ?_
      refine CW.regD (.st true 0 (.st true 1 (.st true 2 (.st true 3 (.st true 4 (.st true 5 (.st true 6 (.st true 7 (.st true 8 (.st true 9 (.st true 10 (.st true 11 (.st true 12 (.st true 13 (.st true 14 (.st true 15 (.st false 16 (.st true 17 .done)))))))))))))))))) (Sto w []) mixed (by kernel_rfl) (fun _ h => h.drew) (fun _ h => h) ?_
      refine s_mv 19 rfl rfl ?_
      refine s_mv 20 rfl rfl ?_
      refine s_nil 21 rfl rfl ?_
      refine s_fa 22 rfl rfl ?_
      refine s_ldS 23 rfl rfl (fun _ h => h.cell (by assumption)) ?_
      refine s_mv 24 rfl rfl ?_
      refine s_ia0 25 (lo m a) rfl rfl rfl rfl hla ?_
      refine s_ldS 26 rfl rfl (fun _ h => h.cell hca) ?_
      refine s_mv 27 rfl rfl ?_
      refine s_nil 28 rfl rfl ?_
      refine s_fa 29 rfl rfl ?_
      refine s_ldS 30 rfl rfl (fun _ h => h.cell (by assumption)) ?_
      refine s_mv 31 rfl rfl ?_
      refine s_ia0 32 (lo m b) rfl rfl rfl rfl hlb ?_
      refine s_ldS 33 rfl rfl (fun _ h => h.cell hcb) ?_
      refine s_add 34 rfl rfl rfl (w64 (by omega)) ?_
      refine s_call1 35 rfl rfl rfl rfl (fun w hw => exp_spec g m _ _ hm (hw.old hf)) (fun _ h => h) ?_
      refine s_as 6 rfl rfl ?_
      refine SX.next ?_
      refine CW.ret ?_
      exact KN.ret (rs := [.tmp 6]) Tryd.results124 rfl (fun w hw => ⟨by rw [oneOf, ← mul_val hm hb hc], hw⟩)

def two (a b : Value) : Value := .tuple #[a, b]

theorem em_minus {m : Nat} (h : Ok m) (x : Nat) : gm m (ex m (em m (-(x : Nat)))) (ex m x) = 1 := by
  have hp := N_pos h
  rw [gm_ex h, ← ex_zero m, ex_eq_iff h]
  have h1 := Int.emod_nonneg (-(x : Int)) (b := ((N m : Nat) : Int)) (by omega)
  have h2 : ((em m (-(x : Nat)) + x : Nat) : Int) % ((N m : Nat) : Int) = 0 := by
    unfold em
    rw [Int.natCast_add, Int.toNat_of_nonneg h1, Int.emod_add_emod, Int.add_left_neg, Int.zero_emod]
  rw [Nat.zero_mod]
  omega
/-- The inverse of an element that is not 0. -/
noncomputable def inv (m : Nat) (x : Nat) : Nat := ex m (em m (-(lg m x : Nat)))
theorem inv_lt {m : Nat} (h : Ok m) (x : Nat) : inv m x < 2 ^ m := (ex_lt h _).2
theorem inv_ne {m : Nat} (h : Ok m) (x : Nat) : inv m x ≠ 0 := by have := (ex_lt h (em m (-(lg m x : Nat)))).1; unfold inv; omega
theorem gm_inv {m : Nat} (h : Ok m) {x : Nat} (hx : x < 2 ^ m) (h0 : x ≠ 0) : gm m x (inv m x) = 1 := by
  have := em_minus h (lg m x)
  rw [(lg_spec h (by omega) hx).2] at this
  rw [gm_comm h hx (inv_lt h x)]
  exact this

theorem em_congr {m : Nat} {x y : Int} (h : x % ((N m : Nat) : Int) = y % ((N m : Nat) : Int)) : em m x = em m y := by unfold em; rw [h]
theorem tmod_emod (n k : Int) : n.tmod k % k = n % k := by
  rw [Int.tmod_eq_emod]
  split
  · rw [show ((0 : Nat) : Int) = 0 from rfl, Int.sub_zero, Int.emod_emod]
  · rw [Int.sub_emod, Int.emod_emod]
    have : (k.natAbs : Int) % k = 0 := Int.emod_eq_zero_of_dvd (Int.dvd_natAbs.2 (Int.dvd_refl k))
    rw [this, Int.sub_zero, Int.emod_emod]
theorem em_mul_tmod (m : Nat) (l n : Int) : em m (l * n.tmod ((N m : Nat) : Int)) = em m (l * n) := by
  apply em_congr
  rw [Int.mul_emod, tmod_emod, ← Int.mul_emod]
theorem tmod_bd {m : Nat} (h : Ok m) (n : Int) : -16383 ≤ n.tmod ((N m : Nat) : Int) ∧ n.tmod ((N m : Nat) : Int) ≤ 16383 := by
  have hp := N_pos h
  have h1 := Int.emod_nonneg n (b := ((N m : Nat) : Int)) (by omega)
  have h2 := Int.emod_lt_of_pos n (b := ((N m : Nat) : Int)) (by omega)
  rw [Int.tmod_eq_emod]
  split <;> omega
theorem mul_bd {a b : Int} (h0 : 0 ≤ a) (ha : a ≤ 16383) (hb : -16383 ≤ b ∧ b ≤ 16383) : -9223372036854775808 ≤ a * b ∧ a * b ≤ 9223372036854775807 := by
  have h1 : a * b ≤ a * 16383 := Int.mul_le_mul_of_nonneg_left hb.2 h0
  have h2 : a * (-16383) ≤ a * b := Int.mul_le_mul_of_nonneg_left hb.1 h0
  omega
/-- A power, n any number. -/
noncomputable def pw (m : Nat) (x : Nat) (n : Int) : Nat := if x = 0 then (if n = 0 then 1 else 0) else ex m (em m ((lg m x : Nat) * n))
theorem pw_zero {m : Nat} {a : Int} (h0 : lo m a = 0) (n : Int) : pw m (lo m a) n = if n = 0 then 1 else 0 := by unfold pw; rw [if_pos h0]
theorem pw_some {m : Nat} {a : Int} (h0 : lo m a ≠ 0) (n : Int) : ex m (em m ((lg m (lo m a) : Nat) * n.tmod ((N m : Nat) : Int))) = pw m (lo m a) n := by unfold pw; rw [if_neg h0, em_mul_tmod]



/-- The order of an element that is not 0. -/
noncomputable def ord (m x : Nat) : Nat := N m / Nat.gcd (N m) (lg m x)
structure OrdG (m x0 : Nat) (g : Nat × Nat) : Prop where
  pos : 0 < g.1
  le : g.1 ≤ 16383 ∧ g.2 ≤ 16383
  gcd : Nat.gcd g.1 g.2 = Nat.gcd (N m) (lg m x0)
theorem OrdG.next {m x0 : Nat} {g : Nat × Nat} (h : OrdG m x0 g) (hy : 0 < g.2) : OrdG m x0 (g.2, g.1 % g.2) :=
  ⟨hy, ⟨h.le.2, Nat.le_of_lt (Nat.lt_of_lt_of_le (Nat.mod_lt _ hy) h.le.2)⟩, by show Nat.gcd g.2 (g.1 % g.2) = _; rw [← h.gcd, Nat.gcd_comm g.1 g.2, Nat.gcd_rec g.2 g.1, Nat.gcd_comm]⟩
theorem OrdG.last {m x0 : Nat} {g : Nat × Nat} (h : OrdG m x0 g) (hy : ¬ (0 : Int) < (g.2 : Nat)) : ((N m : Nat) : Int).tdiv ((g.1 : Nat) : Int) = (ord m x0 : Nat) := by
  have h2 : g.2 = 0 := by omega
  have := h.gcd
  rw [h2, Nat.gcd_zero_right] at this
  unfold ord
  rw [← this]
  rfl
theorem ord_bd {m : Nat} (h : Ok m) (x : Nat) : ord m x ≤ 16383 := by
  have hp := N_pos h
  have := Nat.div_le_self (N m) (Nat.gcd (N m) (lg m x))
  unfold ord
  omega
theorem natmod_tmod (a b : Nat) : ((a : Nat) : Int).tmod ((b : Nat) : Int) = ((a % b : Nat) : Int) := rfl

/-- Squared so often. -/
def sqk (m : Nat) : Nat → Nat → Nat
  | 0, x => x
  | k + 1, x => gm m (sqk m k x) (sqk m k x)
/-- The sum of so many squares. -/
def trk (m : Nat) : Nat → Nat → Nat
  | 0, _ => 0
  | k + 1, x => trk m k x ^^^ sqk m k x
def tr (m x : Nat) : Nat := trk m m x
theorem sqk_lt {m : Nat} (h : Ok m) (k : Nat) {x : Nat} (hx : x < 2 ^ m) : sqk m k x < 2 ^ m := by
  induction k with
  | zero => exact hx
  | succ k ih => exact gm_lt h ih _
theorem trk_lt {m : Nat} (h : Ok m) (k : Nat) {x : Nat} (hx : x < 2 ^ m) : trk m k x < 2 ^ m := by
  induction k with
  | zero => exact Nat.two_pow_pos m
  | succ k ih => exact xor_lt ih (sqk_lt h k hx)
theorem pow63 {m : Nat} (h : Ok m) {x : Nat} (hx : x < 2 ^ m) : x < 2 ^ 63 := Nat.lt_of_lt_of_le hx (Nat.pow_le_pow_right (by omega) (by have := h.hi; omega))
