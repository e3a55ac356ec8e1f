/- The walk of the statement SyndromeSays, text 4. Conditions: each theorem tells its own. -/
import Derived.Test.YtcdmmfpgeagimaaDoorWSyndromeSaysC
import Derived.Test.YtcdmmfpgeagimaaDoorWSyndromeSaysB
section
/- The document's Least and Generator, and the statement MinimalGenerators, walked. Conditions: the errors' variables. -/
namespace Go.Proofs.YtcdmmfpgeagimaaDoor
open Go Go.Sx Go.Fm Nb
set_option maxRecDepth 100000
/-- The odd numbers whose cosets are new. -/
def ldo (m : Nat) : Nat → List Nat
  | 0 => []
  | k + 1 => if hdP m (2 * k + 1) ∈ (ldr m k).1 then ldo m k else ldo m k ++ [2 * k + 1]
theorem ldo_old {m k : Nat} (h : hdP m (2 * k + 1) ∈ (ldr m k).1) : ldo m (k + 1) = ldo m k := if_pos h
theorem ldo_new {m k : Nat} (h : hdP m (2 * k + 1) ∉ (ldr m k).1) : ldo m (k + 1) = ldo m k ++ [2 * k + 1] := if_neg h
theorem ldo_len (m : Nat) : ∀ k, (ldo m k).length ≤ k
  | 0 => Nat.le_refl _
  | k + 1 => by
    have := ldo_len m k
    unfold ldo
    split
    · omega
    · simp; omega
theorem ldo_hd (m : Nat) : ∀ k, (ldr m k).1 = (ldo m k).map (hdP m)
  | 0 => rfl
  | k + 1 => by
    have ih := ldo_hd m k
    by_cases h : hdP m (2 * k + 1) ∈ (ldr m k).1
    · rw [ldr_old h, ldo_old h, ih]
    · rw [ldr_new h, ldo_new h]
      show (ldr m k).1 ++ [hdP m (2 * k + 1)] = _
      rw [List.map_append, ih]; rfl
theorem gen_hd {m : Nat} (hm : Ok m) (L : List Nat) : genL m (L.map (hdP m)) = genL m L := snoc_ind (P := fun L => genL m (L.map (hdP m)) = genL m L) rfl (fun L k ih => by
  rw [List.map_append]
  show genL m (L.map (hdP m) ++ [hdP m k]) = _
  rw [gen_snoc hm, gen_snoc hm, ih, minP_same hm (hd_mem hm k)]) L
theorem gen_ldo {m : Nat} (hm : Ok m) (t : Nat) : genL m (ldo m t) = genL m (ldr m t).1 := by rw [ldo_hd, gen_hd hm]
/-- Whether a number's coset was met. -/
def seenB (m k x : Nat) : Bool := decide (hdP m x ∈ (ldr m k).1)
def seenM (m k j x : Nat) : Bool := seenB m k x || decide (x ∈ orb m (2 * k + 1) j)
theorem seenB_zero (m : Nat) : seenB m 0 = fun _ => false := by funext x; unfold seenB; exact decide_eq_false (fun h => by cases h)
theorem seenM_zero (m k : Nat) : seenM m k 0 = seenB m k := by funext x; unfold seenM; rw [decide_eq_false (fun h => by simp [orb] at h), Bool.or_false]
theorem seenM_next (m k j : Nat) : (fun x => if x = cst m (2 * k + 1) j then true else seenM m k j x) = seenM m k (j + 1) := by
  funext x
  unfold seenM
  rw [orb_succ]
  by_cases h : x = cst m (2 * k + 1) j
  · subst h; simp
  · rw [if_neg h]
    congr 1
    rw [decide_eq_decide, List.mem_append, List.mem_singleton]
    exact ⟨.inl, fun h2 => h2.resolve_right h⟩
theorem hd_cst {m : Nat} (hm : Ok m) (i j : Nat) : hdP m (cst m i j) = hdP m i := hd_same hm ((cos_mem hm).2 ⟨j, rfl⟩)
theorem hd_iff {m : Nat} (hm : Ok m) {i x : Nat} (hx : x < N m) : hdP m x = hdP m i ↔ x ∈ cosP m i := ⟨fun h => by
  have h1 := cos_self hm x hx
  rw [← hd_cos hm x, h, hd_cos hm i] at h1
  exact h1, fun h => hd_same hm h⟩
theorem seenM_full {m : Nat} (hm : Ok m) {k j : Nat} (hnew : hdP m (2 * k + 1) ∉ (ldr m k).1) (h : cst m (2 * k + 1) j ∈ orb m (2 * k + 1) j) {x : Nat} (hx : x < N m) : seenM m k j x = seenB m (k + 1) x := by
  unfold seenM seenB
  rw [ldr_new hnew, ← Bool.decide_or, decide_eq_decide, List.mem_append, List.mem_singleton, hd_iff hm hx, orb_all hm h]
theorem seenB_old {m k : Nat} (h : hdP m (2 * k + 1) ∈ (ldr m k).1) : seenB m (k + 1) = seenB m k := by funext x; unfold seenB; rw [ldr_old h]
/-! ### What Least tells -/
def leastC (m t : Int) : Nat := if m < 3 ∨ 14 < m then 101 else if t < 1 ∨ 40 < t then 102 else if (ldr m.toNat t.toNat).2 < N m.toNat then 0 else 105
def leastD (m t : Int) : Int := if leastC m t = 0 then ((ldr m.toNat t.toNat).2 : Nat) else 0
def ldoA (m t : Int) : List Nat := if leastC m t = 0 then ldo m.toNat t.toNat else []
def genA (m t : Int) : List Nat := if leastC m t = 0 then bys (genL m.toNat (ldr m.toNat t.toNat).1) else []
def errC (e : Nat → Addr) : Nat → Value
  | 0 => .nilIface
  | 101 => errV e 7
  | 102 => errV e 1
  | _ => errV e 6
theorem lc_num {M : Nat} {t : Int} (hm : Ok M) (h : t < 1 ∨ 40 < t) : leastC M t = 102 := by
  have h1 := hm.lo; have h2 := hm.hi
  unfold leastC; rw [if_neg (by omega), if_pos h]
theorem lc_field {m t : Int} (h : m < 3 ∨ 14 < m) : leastC m t = 101 := if_pos h
theorem lc_ok {M T : Nat} (hm : Ok M) (h1 : 1 ≤ T) (h40 : T ≤ 40) (h : (ldr M T).2 < N M) : leastC M T = 0 := by
  have h2 := hm.lo; have h3 := hm.hi
  unfold leastC; rw [if_neg (by omega), if_neg (by omega)]; exact if_pos h
theorem lc_code {M T : Nat} (hm : Ok M) (h1 : 1 ≤ T) (h40 : T ≤ 40) (h : ¬ (ldr M T).2 < N M) : leastC M T = 105 := by
  have h2 := hm.lo; have h3 := hm.hi
  unfold leastC; rw [if_neg (by omega), if_neg (by omega)]; exact if_neg h
theorem lc_cases (m t : Int) : (m < 3 ∨ 14 < m) ∨ ∃ M : Nat, m = (M : Nat) ∧ Ok M ∧ ((t < 1 ∨ 40 < t) ∨ ∃ T : Nat, t = (T : Nat) ∧ 1 ≤ T ∧ T ≤ 40 ∧ ((ldr M T).2 < N M ∨ ¬ (ldr M T).2 < N M)) := by
  by_cases h : m < 3 ∨ 14 < m
  · exact .inl h
  · refine .inr ⟨m.toNat, by omega, ⟨by omega, by omega⟩, ?_⟩
    by_cases h2 : t < 1 ∨ 40 < t
    · exact .inl h2
    · exact .inr ⟨t.toNat, by omega, by omega, by omega, Classical.em _⟩
/-- Where nothing is told, an empty list is. -/
theorem spec_nil {P : Program} {f : FuncId} {args : List Value} {w : World} {v : Value} (E : TypeId) (k : IntKind) {V : Option Addr × Nat → Value} (h : Spec1 P f args w v) (hv : V (none, 0) = v) : SpecX P f args w (X := Option Addr × Nat) V (fun q => ([] : List Nat).length ≤ q.2) (fun q => [own E 1 q.1 ([] : List Nat).length q.2 (nats k [])]) :=
  Calls.mono h (fun _ _ ⟨h1, h2⟩ => ⟨(none, 0), by rw [h1, hv], Nat.le_refl _, h2.begin_ E 1⟩)

theorem rleast_field (m t : Int) (w : World) (h : m < 3 ∨ 14 < m) : Spec1 Tryd.prog 122 [.int .i64 m, .int .i64 t] w (tri (.int .i64 0) (.slice none 0 0) (.int .i64 101)) := by
  refine spec_of Tryd.func122 rfl Tryd.ntmps122 rfl ?_
  refine CW.seq ?_
  refine CW.reg [0, 1, 2] rfl ?_
  refine s_as 4 rfl rfl ?_
  refine s_as 5 rfl rfl ?_
  refine s_as 6 rfl rfl ?_
  refine SX.next ?_
  refine CW.seq ?_
  refine CW.seq ?_
  refine CW.reg [0, 1, 2, 3, 4, 5] rfl ?_
  refine s_mv 13 rfl rfl ?_
  refine s_lt 14 rfl rfl rfl rfl ?_
  refine s_mv 15 rfl rfl ?_
  refine SX.bool 15 rfl (fun hb => ?_) (fun hb => ?_)
  · skip
    skip
    refine SX.skip rfl ?_
    refine SX.skip rfl ?_
    refine s_pickT 18 rfl rfl rfl ?_
    refine SX.next ?_
    refine CW.condT rfl ?_
    refine CW.seq ?_
    refine CW.reg [0, 1, 2] rfl ?_
    refine s_as 4 rfl rfl ?_
    refine s_as 5 rfl rfl ?_
    refine s_as 6 rfl rfl ?_
    refine SX.next ?_
    refine CW.ret ?_
    exact KN.ret (rs := [.tmp 4, .tmp 5, .tmp 6]) Tryd.results122 rfl (fun w hw => ⟨rfl, hw.nothing⟩)
  · skip
    have hp1 := of_decide_eq_false hb
    refine s_mv 16 rfl rfl ?_
    refine s_gt 17 rfl rfl rfl (decide_eq_true (by omega)) ?_
    refine s_pickF 18 rfl rfl rfl ?_
    refine SX.next ?_
    refine CW.condT rfl ?_
    refine CW.seq ?_
    refine CW.reg [0, 1, 2] rfl ?_
    refine s_as 4 rfl rfl ?_
    refine s_as 5 rfl rfl ?_
    refine s_as 6 rfl rfl ?_
    refine SX.next ?_
    refine CW.ret ?_
    exact KN.ret (rs := [.tmp 4, .tmp 5, .tmp 6]) Tryd.results122 rfl (fun w hw => ⟨rfl, hw.nothing⟩)

theorem rleast_num (m : Nat) (t : Int) (w : World) (hm : Ok m) (h : t < 1 ∨ 40 < t) : Spec1 Tryd.prog 122 [.int .i64 (m : Nat), .int .i64 t] w (tri (.int .i64 0) (.slice none 0 0) (.int .i64 102)) := by
  have hlo := hm.lo
  have hhi := hm.hi
  refine spec_of Tryd.func122 rfl Tryd.ntmps122 rfl ?_
  refine CW.seq ?_
  refine CW.reg [0, 1, 2] rfl ?_
  refine s_as 4 rfl rfl ?_
  refine s_as 5 rfl rfl ?_
  refine s_as 6 rfl rfl ?_
  refine SX.next ?_
  refine CW.seq ?_
  refine CW.seq ?_
  refine CW.reg [0, 1, 2, 3, 4, 5] rfl ?_
  refine s_mv 13 rfl rfl ?_
  refine s_lt 14 rfl rfl rfl (decide_eq_false (by omega)) ?_
  refine s_mv 15 rfl rfl ?_
  refine s_mv 16 rfl rfl ?_
  refine s_gt 17 rfl rfl rfl (decide_eq_false (by omega)) ?_
  refine s_pickF 18 rfl rfl rfl ?_
  refine SX.next ?_
  refine CW.condF rfl ?_
  refine CW.skip ?_
  refine KN.code ?_
  refine CW.seq ?_
  refine CW.seq ?_
  refine CW.reg [0, 1, 2, 3, 4, 5] rfl ?_
  refine s_mv 19 rfl rfl ?_
  refine s_lt 20 rfl rfl rfl rfl ?_
  refine s_mv 21 rfl rfl ?_
  refine SX.bool 21 rfl (fun hb => ?_) (fun hb => ?_)
  · skip
    skip
    refine SX.skip rfl ?_
    refine SX.skip rfl ?_
    refine s_pickT 24 rfl rfl rfl ?_
    refine SX.next ?_
    refine CW.condT rfl ?_
    refine CW.seq ?_
    refine CW.reg [0, 1, 2] rfl ?_
    refine s_as 4 rfl rfl ?_
    refine s_as 5 rfl rfl ?_
    refine s_as 6 rfl rfl ?_
    refine SX.next ?_
    refine CW.ret ?_
    exact KN.ret (rs := [.tmp 4, .tmp 5, .tmp 6]) Tryd.results122 rfl (fun w hw => ⟨rfl, hw.nothing⟩)
  · skip
    have hp1 := of_decide_eq_false hb
    refine s_mv 22 rfl rfl ?_
    refine s_gt 23 rfl rfl rfl (decide_eq_true (by omega)) ?_
    refine s_pickF 24 rfl rfl rfl ?_
    refine SX.next ?_
    refine CW.condT rfl ?_
    refine CW.seq ?_
    refine CW.reg [0, 1, 2] rfl ?_
    refine s_as 4 rfl rfl ?_
    refine s_as 5 rfl rfl ?_
    refine s_as 6 rfl rfl ?_
    refine SX.next ?_
    refine CW.ret ?_
    exact KN.ret (rs := [.tmp 4, .tmp 5, .tmp 6]) Tryd.results122 rfl (fun w hw => ⟨rfl, hw.nothing⟩)

theorem rleast_ok (m t : Nat) (w : World) (hm : Ok m) (h1 : 1 ≤ t) (h40 : t ≤ 40) (hd : (ldr m t).2 < N m) : SpecX Tryd.prog 122 [.int .i64 (m : Nat), .int .i64 (t : Nat)] w (X := Option Addr × Nat) (fun q => tri (.int .i64 ((ldr m t).2 : Nat)) (.slice q.1 (ldo m t).length q.2) (.int .i64 0)) (fun q => (ldo m t).length ≤ q.2) (fun q => [own 3 1 q.1 (ldo m t).length q.2 (nats .i64 (ldo m t))]) := by
  have hNs := N_succ m
  have hNp := N_pos hm
  have hmh := hm.hi
  have hml := hm.lo
  refine spec_of Tryd.func122 rfl Tryd.ntmps122 rfl ?_
  refine CW.seq ?_
  refine CW.reg [0, 1, 2] rfl ?_
  refine s_as 4 rfl rfl ?_
  refine s_as 5 rfl rfl ?_
  refine s_as 6 rfl rfl ?_
  refine SX.next ?_
  refine CW.seq ?_
  refine CW.seq ?_
  refine CW.reg [0, 1, 2, 3, 4, 5] rfl ?_
  refine s_mv 13 rfl rfl ?_
  refine s_lt 14 rfl rfl rfl (decide_eq_false (by omega)) ?_
  refine s_mv 15 rfl rfl ?_
  refine s_mv 16 rfl rfl ?_
  refine s_gt 17 rfl rfl rfl (decide_eq_false (by omega)) ?_
  refine s_pickF 18 rfl rfl rfl ?_
  refine SX.next ?_
  refine CW.condF rfl ?_
  refine CW.skip ?_
  refine KN.code ?_
  refine CW.seq ?_
  refine CW.seq ?_
  refine CW.reg [0, 1, 2, 3, 4, 5] rfl ?_
  refine s_mv 19 rfl rfl ?_
  refine s_lt 20 rfl rfl rfl (decide_eq_false (by omega)) ?_
  refine s_mv 21 rfl rfl ?_
  refine s_mv 22 rfl rfl ?_
  refine s_gt 23 rfl rfl rfl (decide_eq_false (by omega)) ?_
  refine s_pickF 24 rfl rfl rfl ?_
  refine SX.next ?_
  refine CW.condF rfl ?_
  refine CW.skip ?_
  refine KN.code ?_
  refine CW.seq ?_
  refine CW.reg [0, 1, 2, 3, 4] rfl ?_
  refine s_mv 25 rfl rfl ?_
  refine s_conv 26 rfl rfl (u64_nat hm) ?_
  refine s_shl 27 rfl rfl rfl (by omega) (shl_one hm) ?_
  refine s_sub 28 rfl rfl rfl (r := ((N m : Nat) : Int)) (by rw [show ((N m + 1 : Nat) : Int) - 1 = ((N m : Nat) : Int) by omega]; exact w64 (by omega)) ?_
  refine s_as 7 rfl rfl ?_
  refine SX.next ?_
  refine CW.seq ?_
  refine CW.reg [0, 1, 2] rfl ?_
  refine s_mv 29 rfl rfl ?_
  refine s_make 30 (N m) rfl rfl rfl rfl rfl (by omega) (fun _ _ => trivial) (fun gs => ?_)
  refine s_as 8 rfl rfl ?_
  refine SX.next ?_
  refine CW.seq ?_
  refine CW.reg [0] rfl ?_
  refine s_as 9 rfl rfl ?_
  refine SX.next ?_
  refine CW.seq ?_
  refine CW.reg [0] rfl ?_
  refine s_as 10 rfl rfl ?_
  refine SX.next ?_
  refine CW.seq ?_
  refine CW.seq ?_
  refine CW.reg [0] rfl ?_
  refine s_as 11 rfl rfl ?_
  refine SX.next ?_
  refine CW.block ?_
  refine CW.loop (G := Nat × Option Addr × Nat) (fun q => [(1, .int .i64 (t : Nat)), (7, .int .i64 (N m : Nat)), (8, .slice (some ⟨gs, 0, none⟩) (N m) (N m)), (9, .int .i64 ((ldr m q.1).2 : Nat)), (10, .slice q.2.1 (ldo m q.1).length q.2.2), (11, .int .i64 ((2 * q.1 + 1 : Nat) : Int))]) (fun q => Sto w [own 3 1 q.2.1 (ldo m q.1).length q.2.2 (nats .i64 (ldo m q.1)), blk gs 4 (btab (N m) (seenB m q.1))]) (fun q => q.1 ≤ t ∧ (ldo m q.1).length ≤ q.2.2) (fun q => t - q.1) (0, none, 0) ⟨rfl, rfl, rfl, rfl, rfl, rfl, trivial⟩ (fun _ h => by rw [seenB_zero, ← btab_zero]; exact h.begin_ 3 1) ⟨Nat.zero_le _, Nat.le_refl _⟩ ?_
  rintro ⟨k, qa, qc⟩ ⟨hk, hqc⟩
  simp only at hk hqc
  dsimp only
  have hll := ldo_len m k
  have hld := ldr_le hm k
  have hmk := Nat.mul_le_mul hmh hk
  have hcl0 := cst_lt hm (2 * k + 1) 0
  have hhc := hd_cst hm (2 * k + 1)
  refine CW.seq ?_
  refine CW.seq ?_
  refine CW.reg [0, 1, 2, 3] rfl ?_
  refine s_mv 31 rfl rfl ?_
  refine s_mv 32 rfl rfl ?_
  refine s_mul 33 rfl rfl rfl (r := ((2 * t : Nat) : Int)) (by rw [show (2 : Int) * ((t : Nat) : Int) = ((2 * t : Nat) : Int) by omega]; exact w64 (by omega)) ?_
  refine s_lt 34 rfl rfl rfl rfl ?_
  refine SX.next ?_
  refine CW.test rfl (fun hc => ?_) (fun hc => ?_)
  · skip
    refine CW.skip ?_
    refine KN.code ?_
    refine CW.seq ?_
    refine CW.block ?_
    refine CW.seq ?_
    refine CW.reg [0, 1, 2, 3] rfl ?_
    refine s_mv 37 rfl rfl ?_
    refine s_mv 38 rfl rfl ?_
    refine s_rem 39 rfl rfl rfl (by omega) (r := ((cst m (2 * k + 1) 0 : Nat) : Int)) (by unfold cst; rw [Nat.pow_zero, Nat.mul_one]; rfl) ?_
    refine s_as 12 rfl rfl ?_
    refine SX.next ?_
    refine CW.seq ?_
    refine CW.seq ?_
    refine CW.reg [0, 1, 2, 3] rfl ?_
    refine s_mv 40 rfl rfl ?_
    refine s_mv 41 rfl rfl ?_
    refine s_ia0 42 (cst m (2 * k + 1) 0) rfl rfl rfl rfl (by omega) ?_
    refine s_ldB 43 1 rfl rfl rfl (btab_at (by omega)) ?_
    refine SX.next ?_
    refine CW.cond rfl (fun hc => ?_) (fun hc => ?_)
    · skip
      have hyes : hdP m (2 * k + 1) ∈ (ldr m k).1 := by rw [← hhc 0]; simpa [seenB] using hc
      have hnx := ldr_old hyes
      have hnl := ldo_old hyes
      have hns := seenB_old hyes
      refine CW.exit rfl ?_
      refine KN.code ?_
      refine CW.reg [0, 1, 2] rfl ?_
      refine s_mv 35 rfl rfl ?_
      refine s_add 36 rfl rfl rfl (r := ((2 * (k + 1) + 1 : Nat) : Int)) (by rw [show ((2 * k + 1 : Nat) : Int) + 2 = ((2 * (k + 1) + 1 : Nat) : Int) by omega]; exact w64 (by omega)) ?_
      refine s_as 11 rfl rfl ?_
      refine SX.end_ ?_
      exact KN.back (k + 1, qa, qc) ⟨rfl, rfl, rfl, by simp only [hnx]; rfl, by simp only [hnl]; rfl, rfl, trivial⟩ (fun _ h => by simp only [hnl, hns]; exact h) ⟨by simp only; omega, by simp only [hnl]; exact hqc⟩ (by simp only; omega)
    · skip
      have hno : hdP m (2 * k + 1) ∉ (ldr m k).1 := by rw [← hhc 0]; simpa [seenB] using hc
      have hnx := ldr_new hno
      have hnl := ldo_new hno
      refine CW.skip ?_
      refine KN.code ?_
      refine CW.seq ?_
      refine CW.reg [0, 1, 2, 3, 4] rfl ?_
      refine s_mv 44 rfl rfl ?_
      refine s_mv 45 rfl rfl ?_
      refine s_bsl 46 rfl rfl (cells := #[.int .i64 ((2 * k + 1 : Nat) : Int)]) (by kernel_rfl) rfl (fun _ _ => trivial) (fun gb => ?_)
      refine s_app 47 1 rfl rfl rfl rfl (ys := [.int .i64 ((2 * k + 1 : Nat) : Int)]) (fun w hw => Has.cong ((hw.has (i := 0) rfl).blk_sl (m := 1) rfl) rfl) rfl rfl (by omega) (by unfold maxLen; omega) (by omega) (fun _ _ _ _ => trivial) (fun A2 c2 hc2 => ?_)
      refine s_as 10 rfl rfl ?_
      refine SX.next ?_
      refine CW.block ?_
      refine CW.loop (G := Nat) (fun j => [(1, .int .i64 (t : Nat)), (7, .int .i64 (N m : Nat)), (8, .slice (some ⟨gs, 0, none⟩) (N m) (N m)), (9, .int .i64 ((ldr m k).2 + j : Nat)), (10, .slice A2 ((ldo m k).length + 1) c2), (11, .int .i64 ((2 * k + 1 : Nat) : Int)), (12, .int .i64 (cst m (2 * k + 1) j : Nat))]) (fun j => Sto w [own 3 1 A2 ((ldo m k).length + 1) c2 (nats .i64 (ldo m k) ++ [.int .i64 ((2 * k + 1 : Nat) : Int)]), blk gs 4 (btab (N m) (seenM m k j))]) (fun j => j ≤ m ∧ (orb m (2 * k + 1) j).Nodup) (fun j => m - j) 0 ⟨rfl, rfl, rfl, rfl, rfl, rfl, rfl, trivial⟩ (fun _ h => by rw [seenM_zero]; exact h.pick [1, 1] rfl) ⟨Nat.zero_le _, by simp [orb]⟩ ?_
      rintro j ⟨hj, hnd⟩
      have hcl := cst_lt hm (2 * k + 1) j
      refine CW.seq ?_
      refine CW.seq ?_
      refine CW.reg [0, 1, 2, 3, 4] rfl ?_
      refine s_mv 48 rfl rfl ?_
      refine s_mv 49 rfl rfl ?_
      refine s_ia0 50 (cst m (2 * k + 1) j) rfl rfl rfl rfl (by omega) ?_
      refine s_ldB 51 1 rfl rfl rfl (btab_at (by omega)) ?_
      refine s_not 52 rfl rfl ?_
      refine SX.next ?_
      refine CW.cond rfl (fun hc3 => ?_) (fun hc3 => ?_)
      · skip
        have hno2 : cst m (2 * k + 1) j ∉ orb m (2 * k + 1) j := fun h => by simp [seenM, h] at hc3
        have hlt : j < m := Nat.lt_of_le_of_ne hj (fun h => hno2 (by rw [h]; exact orb_end hm _))
        refine CW.skip ?_
        refine KN.code ?_
        refine CW.block ?_
        refine CW.seq ?_
        refine CW.reg [0, 1, 2, 3] rfl ?_
        refine s_mv 53 rfl rfl ?_
        refine s_mv 54 rfl rfl ?_
        refine s_ia0 55 (cst m (2 * k + 1) j) rfl rfl rfl rfl (by omega) ?_
        refine s_stB 1 rfl rfl rfl rfl rfl (by rw [btab_size]; omega) (fun _ _ => trivial) ?_
        refine SX.next ?_
        refine CW.seq ?_
        refine CW.reg [0, 1, 2] rfl ?_
        refine s_mv 56 rfl rfl ?_
        refine s_add 57 rfl rfl rfl (r := ((ldr m k).2 + (j + 1) : Nat)) (by rw [show (((ldr m k).2 + j : Nat) : Int) + 1 = (((ldr m k).2 + (j + 1) : Nat) : Int) by omega]; exact w64 (by omega)) ?_
        refine s_as 9 rfl rfl ?_
        refine SX.next ?_
        refine CW.reg [0, 1, 2, 3, 4] rfl ?_
        refine s_mv 58 rfl rfl ?_
        refine s_mul 59 rfl rfl rfl (r := ((2 * cst m (2 * k + 1) j : Nat) : Int)) (by rw [show (2 : Int) * ((cst m (2 * k + 1) j : Nat) : Int) = ((2 * cst m (2 * k + 1) j : Nat) : Int) by omega]; exact w64 (by omega)) ?_
        refine s_mv 60 rfl rfl ?_
        refine s_rem 61 rfl rfl rfl (by omega) (r := ((cst m (2 * k + 1) (j + 1) : Nat) : Int)) (by rw [cst_succ]; rfl) ?_
        refine s_as 12 rfl rfl ?_
        refine SX.end_ ?_
        refine KN.blk ?_
        exact KN.back (j + 1) ⟨rfl, rfl, rfl, rfl, rfl, rfl, rfl, trivial⟩ (fun _ h => by rw [← seenM_next, ← btab_set]; exact h) ⟨by omega, orb_nodup hnd hno2⟩ (by omega)
      · skip
        have hyes : cst m (2 * k + 1) j ∈ orb m (2 * k + 1) j := by
          have h1 : seenM m k j (cst m (2 * k + 1) j) = true := by simpa using hc3
          unfold seenM seenB at h1
          rw [hhc j, decide_eq_false hno, Bool.false_or] at h1
          exact of_decide_eq_true h1
        have hcl2 := cos_len hm hyes hnd
        have hbt : btab (N m) (seenM m k j) = btab (N m) (seenB m (k + 1)) := btab_cong (fun x hx => seenM_full hm hno hyes hx)
        refine CW.exit rfl ?_
        refine KN.blk ?_
        refine KN.code ?_
        refine CW.reg [0, 1, 2] rfl ?_
        refine s_mv 35 rfl rfl ?_
        refine s_add 36 rfl rfl rfl (r := ((2 * (k + 1) + 1 : Nat) : Int)) (by rw [show ((2 * k + 1 : Nat) : Int) + 2 = ((2 * (k + 1) + 1 : Nat) : Int) by omega]; exact w64 (by omega)) ?_
        refine s_as 11 rfl rfl ?_
        refine SX.end_ ?_
        exact KN.back (k + 1, A2, c2) ⟨rfl, rfl, rfl, by simp only [hnx, hcl2]; rfl, by simp only [hnl, List.length_append]; rfl, rfl, trivial⟩ (fun _ h => by
          rw [hbt, nats_snoc] at h
          simp only [hnl, List.length_append, List.length_singleton]
          exact h) ⟨by simp only; omega, by simp only [hnl, List.length_append, List.length_singleton]; exact hc2⟩ (by simp only; omega)
  · skip
    have hke : k = t := by omega
    subst hke
    refine CW.exit rfl ?_
    refine KN.code ?_
    refine CW.seq ?_
    refine CW.seq ?_
    refine CW.reg [0, 1, 2] rfl ?_
    refine s_mv 62 rfl rfl ?_
    refine s_mv 63 rfl rfl ?_
    refine s_ge 64 rfl rfl rfl (decide_eq_false (by omega)) ?_
    refine SX.next ?_
    refine CW.condF rfl ?_
    refine CW.skip ?_
    refine KN.code ?_
    refine CW.seq ?_
    refine CW.reg [0, 1, 2, 3, 4] rfl ?_
    refine s_mv 65 rfl rfl ?_
    refine s_mv 66 rfl rfl ?_
    refine s_as 4 rfl rfl ?_
    refine s_as 5 rfl rfl ?_
    refine s_as 6 rfl rfl ?_
    refine SX.next ?_
    refine CW.ret ?_
    exact KN.ret (rs := [.tmp 4, .tmp 5, .tmp 6]) Tryd.results122 rfl (fun w hw => ⟨(qa, qc), rfl, hqc, hw.pick [0] rfl⟩)

theorem rleast_code (m t : Nat) (w : World) (hm : Ok m) (h1 : 1 ≤ t) (h40 : t ≤ 40) (hd : ¬ (ldr m t).2 < N m) : Spec1 Tryd.prog 122 [.int .i64 (m : Nat), .int .i64 (t : Nat)] w (tri (.int .i64 0) (.slice none 0 0) (.int .i64 105)) := by
  have hNs := N_succ m
  have hNp := N_pos hm
  have hmh := hm.hi
  have hml := hm.lo
  refine spec_of Tryd.func122 rfl Tryd.ntmps122 rfl ?_
  refine CW.seq ?_
  refine CW.reg [0, 1, 2] rfl ?_
  refine s_as 4 rfl rfl ?_
  refine s_as 5 rfl rfl ?_
  refine s_as 6 rfl rfl ?_
  refine SX.next ?_
  refine CW.seq ?_
  refine CW.seq ?_
  refine CW.reg [0, 1, 2, 3, 4, 5] rfl ?_
  refine s_mv 13 rfl rfl ?_
  refine s_lt 14 rfl rfl rfl (decide_eq_false (by omega)) ?_
  refine s_mv 15 rfl rfl ?_
  refine s_mv 16 rfl rfl ?_
  refine s_gt 17 rfl rfl rfl (decide_eq_false (by omega)) ?_
  refine s_pickF 18 rfl rfl rfl ?_
  refine SX.next ?_
  refine CW.condF rfl ?_
  refine CW.skip ?_
  refine KN.code ?_
  refine CW.seq ?_
  refine CW.seq ?_
  refine CW.reg [0, 1, 2, 3, 4, 5] rfl ?_
  refine s_mv 19 rfl rfl ?_
  refine s_lt 20 rfl rfl rfl (decide_eq_false (by omega)) ?_
  refine s_mv 21 rfl rfl ?_
  refine s_mv 22 rfl rfl ?_
  refine s_gt 23 rfl rfl rfl (decide_eq_false (by omega)) ?_
  refine s_pickF 24 rfl rfl rfl ?_
  refine SX.next ?_
  refine CW.condF rfl ?_
  refine CW.skip ?_
  refine KN.code ?_
  refine CW.seq ?_
  refine CW.reg [0, 1, 2, 3, 4] rfl ?_
  refine s_mv 25 rfl rfl ?_
  refine s_conv 26 rfl rfl (u64_nat hm) ?_
  refine s_shl 27 rfl rfl rfl (by omega) (shl_one hm) ?_
  refine s_sub 28 rfl rfl rfl (r := ((N m : Nat) : Int)) (by rw [show ((N m + 1 : Nat) : Int) - 1 = ((N m : Nat) : Int) by omega]; exact w64 (by omega)) ?_
  refine s_as 7 rfl rfl ?_
  refine SX.next ?_
  refine CW.seq ?_
  refine CW.reg [0, 1, 2] rfl ?_
  refine s_mv 29 rfl rfl ?_
  refine s_make 30 (N m) rfl rfl rfl rfl rfl (by omega) (fun _ _ => trivial) (fun gs => ?_)
  refine s_as 8 rfl rfl ?_
  refine SX.next ?_
  refine CW.seq ?_
  refine CW.reg [0] rfl ?_
  refine s_as 9 rfl rfl ?_
  refine SX.next ?_
  refine CW.seq ?_
  refine CW.reg [0] rfl ?_
  refine s_as 10 rfl rfl ?_
  refine SX.next ?_
  refine CW.seq ?_
  refine CW.seq ?_
  refine CW.reg [0] rfl ?_
  refine s_as 11 rfl rfl ?_
  refine SX.next ?_
  refine CW.block ?_
  refine CW.loop (G := Nat × Option Addr × Nat) (fun q => [(1, .int .i64 (t : Nat)), (7, .int .i64 (N m : Nat)), (8, .slice (some ⟨gs, 0, none⟩) (N m) (N m)), (9, .int .i64 ((ldr m q.1).2 : Nat)), (10, .slice q.2.1 (ldo m q.1).length q.2.2), (11, .int .i64 ((2 * q.1 + 1 : Nat) : Int))]) (fun q => Sto w [own 3 1 q.2.1 (ldo m q.1).length q.2.2 (nats .i64 (ldo m q.1)), blk gs 4 (btab (N m) (seenB m q.1))]) (fun q => q.1 ≤ t ∧ (ldo m q.1).length ≤ q.2.2) (fun q => t - q.1) (0, none, 0) ⟨rfl, rfl, rfl, rfl, rfl, rfl, trivial⟩ (fun _ h => by rw [seenB_zero, ← btab_zero]; exact h.begin_ 3 1) ⟨Nat.zero_le _, Nat.le_refl _⟩ ?_
  rintro ⟨k, qa, qc⟩ ⟨hk, hqc⟩
  simp only at hk hqc
  dsimp only
  have hll := ldo_len m k
  have hld := ldr_le hm k
  have hmk := Nat.mul_le_mul hmh hk
  have hcl0 := cst_lt hm (2 * k + 1) 0
  have hhc := hd_cst hm (2 * k + 1)
  refine CW.seq ?_
  refine CW.seq ?_
  refine CW.reg [0, 1, 2, 3] rfl ?_
  refine s_mv 31 rfl rfl ?_
  refine s_mv 32 rfl rfl ?_
  refine s_mul 33 rfl rfl rfl (r := ((2 * t : Nat) : Int)) (by rw [show (2 : Int) * ((t : Nat) : Int) = ((2 * t : Nat) : Int) by omega]; exact w64 (by omega)) ?_
  refine s_lt 34 rfl rfl rfl rfl ?_
  refine SX.next ?_
  refine CW.test rfl (fun hc => ?_) (fun hc => ?_)
  · skip
    refine CW.skip ?_
    refine KN.code ?_
    refine CW.seq ?_
    refine CW.block ?_
    refine CW.seq ?_
    refine CW.reg [0, 1, 2, 3] rfl ?_
    refine s_mv 37 rfl rfl ?_
    refine s_mv 38 rfl rfl ?_
    refine s_rem 39 rfl rfl rfl (by omega) (r := ((cst m (2 * k + 1) 0 : Nat) : Int)) (by unfold cst; rw [Nat.pow_zero, Nat.mul_one]; rfl) ?_
    refine s_as 12 rfl rfl ?_
    refine SX.next ?_
    refine CW.seq ?_
    refine CW.seq ?_
    refine CW.reg [0, 1, 2, 3] rfl ?_
    refine s_mv 40 rfl rfl ?_
    refine s_mv 41 rfl rfl ?_
    refine s_ia0 42 (cst m (2 * k + 1) 0) rfl rfl rfl rfl (by omega) ?_
    refine s_ldB 43 1 rfl rfl rfl (btab_at (by omega)) ?_
    refine SX.next ?_
    refine CW.cond rfl (fun hc => ?_) (fun hc => ?_)
    · skip
      have hyes : hdP m (2 * k + 1) ∈ (ldr m k).1 := by rw [← hhc 0]; simpa [seenB] using hc
      have hnx := ldr_old hyes
      have hnl := ldo_old hyes
      have hns := seenB_old hyes
      refine CW.exit rfl ?_
      refine KN.code ?_
      refine CW.reg [0, 1, 2] rfl ?_
      refine s_mv 35 rfl rfl ?_
      refine s_add 36 rfl rfl rfl (r := ((2 * (k + 1) + 1 : Nat) : Int)) (by rw [show ((2 * k + 1 : Nat) : Int) + 2 = ((2 * (k + 1) + 1 : Nat) : Int) by omega]; exact w64 (by omega)) ?_
      refine s_as 11 rfl rfl ?_
      refine SX.end_ ?_
      exact KN.back (k + 1, qa, qc) ⟨rfl, rfl, rfl, by simp only [hnx]; rfl, by simp only [hnl]; rfl, rfl, trivial⟩ (fun _ h => by simp only [hnl, hns]; exact h) ⟨by simp only; omega, by simp only [hnl]; exact hqc⟩ (by simp only; omega)
    · skip
      have hno : hdP m (2 * k + 1) ∉ (ldr m k).1 := by rw [← hhc 0]; simpa [seenB] using hc
      have hnx := ldr_new hno
      have hnl := ldo_new hno
      refine CW.skip ?_
      refine KN.code ?_
      refine CW.seq ?_
      refine CW.reg [0, 1, 2, 3, 4] rfl ?_
      refine s_mv 44 rfl rfl ?_
      refine s_mv 45 rfl rfl ?_
      refine s_bsl 46 rfl rfl (cells := #[.int .i64 ((2 * k + 1 : Nat) : Int)]) (by kernel_rfl) rfl (fun _ _ => trivial) (fun gb => ?_)
      refine s_app 47 1 rfl rfl rfl rfl (ys := [.int .i64 ((2 * k + 1 : Nat) : Int)]) (fun w hw => Has.cong ((hw.has (i := 0) rfl).blk_sl (m := 1) rfl) rfl) rfl rfl (by omega) (by unfold maxLen; omega) (by omega) (fun _ _ _ _ => trivial) (fun A2 c2 hc2 => ?_)
      refine s_as 10 rfl rfl ?_
      refine SX.next ?_
      refine CW.block ?_
      refine CW.loop (G := Nat) (fun j => [(1, .int .i64 (t : Nat)), (7, .int .i64 (N m : Nat)), (8, .slice (some ⟨gs, 0, none⟩) (N m) (N m)), (9, .int .i64 ((ldr m k).2 + j : Nat)), (10, .slice A2 ((ldo m k).length + 1) c2), (11, .int .i64 ((2 * k + 1 : Nat) : Int)), (12, .int .i64 (cst m (2 * k + 1) j : Nat))]) (fun j => Sto w [own 3 1 A2 ((ldo m k).length + 1) c2 (nats .i64 (ldo m k) ++ [.int .i64 ((2 * k + 1 : Nat) : Int)]), blk gs 4 (btab (N m) (seenM m k j))]) (fun j => j ≤ m ∧ (orb m (2 * k + 1) j).Nodup) (fun j => m - j) 0 ⟨rfl, rfl, rfl, rfl, rfl, rfl, rfl, trivial⟩ (fun _ h => by rw [seenM_zero]; exact h.pick [1, 1] rfl) ⟨Nat.zero_le _, by simp [orb]⟩ ?_
      rintro j ⟨hj, hnd⟩
      have hcl := cst_lt hm (2 * k + 1) j
      refine CW.seq ?_
      refine CW.seq ?_
      refine CW.reg [0, 1, 2, 3, 4] rfl ?_
      refine s_mv 48 rfl rfl ?_
      refine s_mv 49 rfl rfl ?_
      refine s_ia0 50 (cst m (2 * k + 1) j) rfl rfl rfl rfl (by omega) ?_
      refine s_ldB 51 1 rfl rfl rfl (btab_at (by omega)) ?_
      refine s_not 52 rfl rfl ?_
      refine SX.next ?_
      refine CW.cond rfl (fun hc3 => ?_) (fun hc3 => ?_)
      · skip
        have hno2 : cst m (2 * k + 1) j ∉ orb m (2 * k + 1) j := fun h => by simp [seenM, h] at hc3
        have hlt : j < m := Nat.lt_of_le_of_ne hj (fun h => hno2 (by rw [h]; exact orb_end hm _))
        refine CW.skip ?_
        refine KN.code ?_
        refine CW.block ?_
        refine CW.seq ?_
        refine CW.reg [0, 1, 2, 3] rfl ?_
        refine s_mv 53 rfl rfl ?_
        refine s_mv 54 rfl rfl ?_
        refine s_ia0 55 (cst m (2 * k + 1) j) rfl rfl rfl rfl (by omega) ?_
        refine s_stB 1 rfl rfl rfl rfl rfl (by rw [btab_size]; omega) (fun _ _ => trivial) ?_
        refine SX.next ?_
        refine CW.seq ?_
        refine CW.reg [0, 1, 2] rfl ?_
        refine s_mv 56 rfl rfl ?_
        refine s_add 57 rfl rfl rfl (r := ((ldr m k).2 + (j + 1) : Nat)) (by rw [show (((ldr m k).2 + j : Nat) : Int) + 1 = (((ldr m k).2 + (j + 1) : Nat) : Int) by omega]; exact w64 (by omega)) ?_
        refine s_as 9 rfl rfl ?_
        refine SX.next ?_
        refine CW.reg [0, 1, 2, 3, 4] rfl ?_
        refine s_mv 58 rfl rfl ?_
        refine s_mul 59 rfl rfl rfl (r := ((2 * cst m (2 * k + 1) j : Nat) : Int)) (by rw [show (2 : Int) * ((cst m (2 * k + 1) j : Nat) : Int) = ((2 * cst m (2 * k + 1) j : Nat) : Int) by omega]; exact w64 (by omega)) ?_
        refine s_mv 60 rfl rfl ?_
        refine s_rem 61 rfl rfl rfl (by omega) (r := ((cst m (2 * k + 1) (j + 1) : Nat) : Int)) (by rw [cst_succ]; rfl) ?_
        refine s_as 12 rfl rfl ?_
        refine SX.end_ ?_
        refine KN.blk ?_
        exact KN.back (j + 1) ⟨rfl, rfl, rfl, rfl, rfl, rfl, rfl, trivial⟩ (fun _ h => by rw [← seenM_next, ← btab_set]; exact h) ⟨by omega, orb_nodup hnd hno2⟩ (by omega)
      · skip
        have hyes : cst m (2 * k + 1) j ∈ orb m (2 * k + 1) j := by
          have h1 : seenM m k j (cst m (2 * k + 1) j) = true := by simpa using hc3
          unfold seenM seenB at h1
          rw [hhc j, decide_eq_false hno, Bool.false_or] at h1
          exact of_decide_eq_true h1
        have hcl2 := cos_len hm hyes hnd
        have hbt : btab (N m) (seenM m k j) = btab (N m) (seenB m (k + 1)) := btab_cong (fun x hx => seenM_full hm hno hyes hx)
        refine CW.exit rfl ?_
        refine KN.blk ?_
        refine KN.code ?_
        refine CW.reg [0, 1, 2] rfl ?_
        refine s_mv 35 rfl rfl ?_
        refine s_add 36 rfl rfl rfl (r := ((2 * (k + 1) + 1 : Nat) : Int)) (by rw [show ((2 * k + 1 : Nat) : Int) + 2 = ((2 * (k + 1) + 1 : Nat) : Int) by omega]; exact w64 (by omega)) ?_
        refine s_as 11 rfl rfl ?_
        refine SX.end_ ?_
        exact KN.back (k + 1, A2, c2) ⟨rfl, rfl, rfl, by simp only [hnx, hcl2]; rfl, by simp only [hnl, List.length_append]; rfl, rfl, trivial⟩ (fun _ h => by
          rw [hbt, nats_snoc] at h
          simp only [hnl, List.length_append, List.length_singleton]
          exact h) ⟨by simp only; omega, by simp only [hnl, List.length_append, List.length_singleton]; exact hc2⟩ (by simp only; omega)
  · skip
    have hke : k = t := by omega
    subst hke
    refine CW.exit rfl ?_
    refine KN.code ?_
    refine CW.seq ?_
    refine CW.seq ?_
    refine CW.reg [0, 1, 2] rfl ?_
    refine s_mv 62 rfl rfl ?_
    refine s_mv 63 rfl rfl ?_
    refine s_ge 64 rfl rfl rfl (decide_eq_true (by omega)) ?_
    refine SX.next ?_
    refine CW.condT rfl ?_
    refine CW.seq ?_
    refine CW.reg [0, 1, 2] rfl ?_
    refine s_as 4 rfl rfl ?_
    refine s_as 5 rfl rfl ?_
    refine s_as 6 rfl rfl ?_
    refine SX.next ?_
    refine CW.ret ?_
    exact KN.ret (rs := [.tmp 4, .tmp 5, .tmp 6]) Tryd.results122 rfl (fun w hw => ⟨rfl, hw.nothing⟩)

theorem rleast_any (m t : Int) (w : World) : SpecX Tryd.prog 122 [.int .i64 m, .int .i64 t] w (X := Option Addr × Nat) (fun q => tri (.int .i64 (leastD m t)) (.slice q.1 (ldoA m t).length q.2) (.int .i64 (leastC m t : Nat))) (fun q => (ldoA m t).length ≤ q.2) (fun q => [own 3 1 q.1 (ldoA m t).length q.2 (nats .i64 (ldoA m t))]) := by
  unfold leastD ldoA
  rcases lc_cases m t with h | ⟨M, rfl, hm, h | ⟨T, rfl, h1, h40, h | h⟩⟩
  · rw [lc_field h]; exact spec_nil 3 .i64 (rleast_field m t w h) rfl
  · rw [lc_num hm h]; exact spec_nil 3 .i64 (rleast_num M t w hm h) rfl
  · rw [lc_ok hm h1 h40 h]; exact rleast_ok M T w hm h1 h40 h
  · rw [lc_code hm h1 h40 h]; exact spec_nil 3 .i64 (rleast_code M T w hm h1 h40 h) rfl

theorem lc_zero {m : Nat} {t : Int} (hm : Ok m) (h : leastC (m : Nat) t = 0) : ∃ T : Nat, t = (T : Nat) ∧ 1 ≤ T ∧ T ≤ 40 ∧ (ldr m T).2 < N m := by
  have hlo := hm.lo
  have hhi := hm.hi
  rcases lc_cases m t with h2 | ⟨M, hM, _, h2 | ⟨T, rfl, h1, h40, h2 | h2⟩⟩
  · omega
  · rw [lc_num hm h2] at h; cases h
  · obtain rfl : m = M := by omega
    exact ⟨T, rfl, h1, h40, h2⟩
  · obtain rfl : m = M := by omega
    rw [lc_code hm h1 h40 h2] at h; cases h

theorem rgen_spec (m : Nat) (t : Int) (w : World) (hm : Ok m) : SpecX Tryd.prog 123 [.int .i64 (m : Nat), .int .i64 t] w (X := Option Addr × Nat) (fun q => two (.slice q.1 (genA (m : Nat) t).length q.2) (.int .i64 (leastC (m : Nat) t : Nat))) (fun q => (genA (m : Nat) t).length ≤ q.2) (fun q => [own 5 1 q.1 (genA (m : Nat) t).length q.2 (nats .u8 (genA (m : Nat) t))]) := by
  have hmh := hm.hi
  refine spec_of Tryd.func123 rfl Tryd.ntmps123 rfl ?_
  refine CW.seq ?_
  refine CW.reg [0, 1] rfl ?_
  refine s_as 4 rfl rfl ?_
  refine s_as 5 rfl rfl ?_
  refine SX.next ?_
  refine CW.seq ?_
  refine CW.reg [0, 1, 2, 3, 4, 5, 6, 7, 8, 9] rfl ?_
  refine s_mv 12 rfl rfl ?_
  refine s_mv 13 rfl rfl ?_
  refine s_call 14 rfl rfl rfl rfl (fun w hw => rleast_any m t w) (fun _ _ => trivial) (fun q14 hq14 => ?_)
  refine s_mv 11 rfl rfl ?_
  refine s_ext 15 rfl rfl rfl ?_
  refine s_ext 16 rfl rfl rfl ?_
  refine s_ext 17 rfl rfl rfl ?_
  refine s_as 6 rfl rfl ?_
  refine s_as 7 rfl rfl ?_
  refine s_as 8 rfl rfl ?_
  refine SX.next ?_
  refine CW.seq ?_
  refine CW.seq ?_
  refine CW.reg [0, 1] rfl ?_
  refine s_mv 18 rfl rfl ?_
  refine s_ne 19 rfl rfl rfl rfl ?_
  refine SX.next ?_
  refine CW.test rfl (fun hc => ?_) (fun hc => ?_)
  · skip
    have hgn : genA (m : Nat) t = [] := if_neg (by omega)
    refine CW.seq ?_
    refine CW.reg [0, 1, 2] rfl ?_
    refine s_mv 20 rfl rfl ?_
    refine s_as 4 rfl rfl ?_
    refine s_as 5 rfl rfl ?_
    refine SX.next ?_
    refine CW.ret ?_
    exact KN.ret (rs := [.tmp 4, .tmp 5]) Tryd.results123 rfl (fun w hw => ⟨(none, 0), by rw [hgn]; rfl, by rw [hgn]; exact Nat.le_refl _, by rw [hgn]; exact (hw.pick [] rfl).begin_ _ 1⟩)
  · skip
    have hc0 : leastC (m : Nat) t = 0 := by omega
    have hlA : ldoA (m : Nat) t = ldo m t.toNat := if_pos hc0
    have hgA : genA (m : Nat) t = bys (genL m (ldr m t.toNat).1) := if_pos hc0
    obtain ⟨T, rfl, hT1, hT40, hTd⟩ := lc_zero hm hc0
    rw [Int.toNat_natCast] at hlA hgA
    have hol := ldo_len m T
    rw [hlA] at hq14 ⊢
    refine CW.skip ?_
    refine KN.code ?_
    refine CW.seq ?_
    refine CW.reg [0, 1] rfl ?_
    refine s_bsl 21 rfl rfl (cells := #[.int .u8 1]) (by kernel_rfl) rfl (fun _ _ => trivial) (fun gb => ?_)
    refine s_as 9 rfl rfl ?_
    refine SX.next ?_
    refine CW.seq ?_
    refine CW.seq ?_
    refine CW.reg [0] rfl ?_
    refine s_as 10 rfl rfl ?_
    refine SX.next ?_
    refine CW.block ?_
    refine CW.loop (G := Nat × Option Addr × Nat) (fun q => [(0, .int .i64 (m : Nat)), (7, .slice q14.1 (ldo m T).length q14.2), (8, .int .i64 (leastC (m : Nat) (T : Nat) : Nat)), (9, .slice q.2.1 (bys (genL m ((ldo m T).take q.1))).length q.2.2), (10, .int .i64 (q.1 : Nat))]) (fun q => Sto w [own 5 1 q.2.1 (bys (genL m ((ldo m T).take q.1))).length q.2.2 (nats .u8 (bys (genL m ((ldo m T).take q.1)))), own 3 1 q14.1 (ldo m T).length q14.2 (nats .i64 (ldo m T))]) (fun q => q.1 ≤ (ldo m T).length ∧ (bys (genL m ((ldo m T).take q.1))).length ≤ q.2.2) (fun q => (ldo m T).length - q.1) (0, some ⟨gb, 0, none⟩, 1) ⟨rfl, rfl, rfl, by rw [show (bys (genL m ((ldo m T).take 0))) = [1] from bys_one]; rfl, rfl, trivial⟩ (fun _ h => by
  have h1 := h.blkOwn (q := 0) (c := 1) (sz := 1) rfl rfl (by unfold maxLen; omega)
  have e : (bys (genL m ((ldo m T).take 0))) = [1] := bys_one
  simp only [e]
  exact h1) ⟨Nat.zero_le _, by rw [show (bys (genL m ((ldo m T).take 0))) = [1] from bys_one]; exact Nat.le_refl _⟩ ?_
    rintro ⟨i, qa, qc⟩ ⟨hi, hqc⟩
    simp only at hi hqc
    dsimp only
    refine CW.seq ?_
    refine CW.seq ?_
    refine CW.reg [0, 1, 2, 3] rfl ?_
    refine s_mv 22 rfl rfl ?_
    refine s_mv 23 rfl rfl ?_
    refine s_len 24 rfl rfl ?_
    refine s_lt 25 rfl rfl rfl rfl ?_
    refine SX.next ?_
    refine CW.test rfl (fun hc => ?_) (fun hc => ?_)
    · skip
      have hil : i < (ldo m T).length := by omega
      have hki := cf_in hil
      have hgt2 := gen_take hm hki
      have hgb := gen_b1 hm ((ldo m T).take i)
      have hgl := gen_len hm ((ldo m T).take i)
      have hgs := gen_deg hm ((ldo m T).take i)
      have hgt : ((ldo m T).take i).length ≤ 40 := by rw [List.length_take]; omega
      have hmm := Nat.mul_le_mul hmh hgt
      have hbl := bys_len (genL m ((ldo m T).take i))
      have hmb := minP_b1 hm (em m ((cf (ldo m T) i : Nat) : Int))
      have hml := minP_len hm (em m ((cf (ldo m T) i : Nat) : Int))
      have hcl := cos_len_pos hm (em m ((cf (ldo m T) i : Nat) : Int))
      have hbm := bys_len (minP m (em m ((cf (ldo m T) i : Nat) : Int)))
      have hme : minP m (em m ((cf (ldo m T) i : Nat) : Int)) = minP m (cf (ldo m T) i) := by rw [em_nat]; unfold minP; rw [cos_mod]
      rw [← hme] at hgt2
      refine CW.skip ?_
      refine KN.code ?_
      refine CW.seq ?_
      refine CW.block ?_
      refine CW.reg [0, 1, 2, 3, 4, 5, 6, 7, 8] rfl ?_
      refine s_mv 28 rfl rfl ?_
      refine s_mv 29 rfl rfl ?_
      refine s_mv 30 rfl rfl ?_
      refine s_mv 31 rfl rfl ?_
      refine s_iaO 32 1 i rfl rfl rfl rfl rfl (by omega) ?_
      refine s_ldO 33 1 rfl rfl rfl (natsAtC hil) ?_
      refine s_call 34 rfl rfl rfl rfl (fun w hw => rmin_spec m ((cf (ldo m T) i : Nat) : Int) w hm) (fun _ _ => trivial) (fun q34 hq34 => ?_)
      refine s_call 35 rfl rfl rfl rfl (fun w hw => by have := rbinmul_spec qa (bys (genL m ((ldo m T).take i))).length qc (bys (genL m ((ldo m T).take i))) q34.1 (bys (minP m (em m ((cf (ldo m T) i : Nat) : Int)))).length q34.2 (bys (minP m (em m ((cf (ldo m T) i : Nat) : Int)))) w ((hw.has (i := 1) rfl).of_own) (bys_lt hgb) (by omega) hqc ((hw.has (i := 0) rfl).of_own) (bys_lt hmb) (by omega) hq34 (by rw [bl_bys hgb, bl_bys hmb]; omega); rw [bl_bys hgb, bl_bys hmb, ← hgt2] at this; exact this) (fun _ _ => trivial) (fun q35 hq35 => ?_)
      refine s_as 9 rfl rfl ?_
      refine SX.end_ ?_
      refine KN.blk ?_
      refine KN.code ?_
      refine CW.reg [0, 1, 2] rfl ?_
      refine s_mv 26 rfl rfl ?_
      refine s_add 27 rfl rfl rfl (r := ((i + 1 : Nat) : Int)) (w64 (by omega)) ?_
      refine s_as 10 rfl rfl ?_
      refine SX.end_ ?_
      exact KN.back (i + 1, q35.1, q35.2) ⟨rfl, rfl, rfl, rfl, rfl, trivial⟩ (fun _ h => h.pick [0, 2] rfl) ⟨by simp only; omega, hq35⟩ (by simp only; omega)
    · skip
      have hie : i = (ldo m T).length := by omega
      have hfin : bys (genL m ((ldo m T).take i)) = genA (m : Nat) (T : Nat) := by rw [hgA, hie, List.take_length, gen_ldo hm]
      rw [hfin] at hqc
      refine CW.exit rfl ?_
      refine KN.code ?_
      refine CW.seq ?_
      refine CW.reg [0, 1, 2, 3] rfl ?_
      refine s_mv 36 rfl rfl ?_
      refine s_mv 37 rfl rfl ?_
      refine s_as 4 rfl rfl ?_
      refine s_as 5 rfl rfl ?_
      refine SX.next ?_
      refine CW.ret ?_
      exact KN.ret (rs := [.tmp 4, .tmp 5]) Tryd.results123 rfl (fun w hw => ⟨(qa, qc), by rw [← hfin]; rfl, hqc, by rw [hfin] at hw; exact hw.pick [0] rfl⟩)
end Go.Proofs.YtcdmmfpgeagimaaDoor
end
section
/- New, walked: the code with its table, and what stands against it. Conditions: the errors' variables. -/
namespace Go.Proofs.YtcdmmfpgeagimaaDoor
open Go Go.Sx Go.Fm Nb
set_option maxRecDepth 100000
theorem ibit_clr_u8 {x y : Nat} (hx : x < 256) (hy : y < 256) : ibit .andNot .u8 x y = ((x &&& (2 ^ 8 - (y + 1)) : Nat) : Int) := by
  show IntKind.u8.wrap ((BitVec.ofInt 8 (x : Int) &&& ~~~ BitVec.ofInt 8 (y : Int)).toNat : Nat) = _
  rw [BitVec.toNat_and, BitVec.toNat_not, toNat_ofInt8 hx, toNat_ofInt8 hy]
  have e : 2 ^ 8 - 1 - y = 2 ^ 8 - (y + 1) := by omega
  rw [e]
  exact w8 (Nat.lt_of_le_of_lt Nat.and_le_left hx)
theorem clr_test {x k s : Nat} (hs : s < 8) : (x &&& (2 ^ 8 - (2 ^ (k % 8) + 1))).testBit s = (x.testBit s && !decide (k % 8 = s)) := by
  rw [Nat.testBit_and, Nat.testBit_two_pow_sub_succ (Nat.pow_lt_pow_right (by omega) (Nat.mod_lt _ (by omega))), decide_eq_true hs, Bool.true_and, Nat.testBit_two_pow]
theorem gn_more {m t : Nat} (h : MT m t) : (gnB m t).length = dg m t / 8 + 1 := by
  have h1 := bys_len (genL m (ldr m t).1)
  have h2 := h.g2
  have hb := h.gb
  have h3 : bitN (gnB m t) (dg m t) = 1 := by
    unfold gnB
    rw [bitN_bys hb.le]
    exact hb.top (by omega)
  have h4 : ¬ 8 * (gnB m t).length ≤ dg m t := fun hl => by rw [bitN_out hl] at h3; cases h3
  unfold gnB dg at *
  omega
/-- The generator's bytes without the highest bit. -/
def lwL (m t : Nat) : List Nat := (gnB m t).set (dg m t / 8) (cf (gnB m t) (dg m t / 8) &&& (2 ^ 8 - (2 ^ (dg m t % 8) + 1)))
theorem gn_lt {m t : Nat} (h : MT m t) : ∀ x ∈ gnB m t, x < 256 := bys_lt h.gb
theorem lwL_len (m t : Nat) : (lwL m t).length = (gnB m t).length := by simp [lwL]
theorem lwL_lt {m t : Nat} (h : MT m t) : ∀ x ∈ lwL m t, x < 256 := set_lt (gn_lt h) (Nat.lt_of_le_of_lt Nat.and_le_left (cf_lt8 (gn_lt h) _))
theorem low_list {m t : Nat} (h : MT m t) : (lwL m t).take (prB m t) = lwB m t := by
  have hgl := gn_more h
  have hb := h.gb
  have h2 := h.g2
  have hpd : prB m t = (dg m t + 7) / 8 := rfl
  have hdg : (genL m (ldr m t).1).length - 1 = dg m t := rfl
  have hl : ((lwL m t).take (prB m t)).length = prB m t := by rw [List.length_take, lwL_len]; omega
  have key := pb_of (L := (lwL m t).take (prB m t)) (lowG_b1 hb h2) (fun x hx => lwL_lt h x (List.mem_of_mem_take hx)) (fun i s hi hs => by
    rw [hl] at hi
    have e : cf ((lwL m t).take (prB m t)) i = cf (lwL m t) i := by
      unfold cf
      rw [List.getD_eq_getElem?_getD, List.getD_eq_getElem?_getD, List.getElem?_take, if_pos hi]
    have eg : ((cf (gnB m t) i).testBit s).toNat = cf (genL m (ldr m t).1) (8 * i + s) := by
      rw [← bitN_test _ _ _ hs]
      exact bitN_bys hb.le _
    rw [e, cf_lowG hb h2, hdg]
    unfold lwL
    rw [cf_set (by omega)]
    by_cases hid : i = dg m t / 8
    · rw [if_pos hid, clr_test hs, ← hid]
      by_cases hsd : dg m t % 8 = s
      · rw [decide_eq_true hsd, if_neg (by omega)]
        simp
      · rw [decide_eq_false hsd, Bool.not_false, Bool.and_true, eg]
        split
        · rfl
        · exact cf_out (by omega)
    · rw [if_neg hid, eg, if_pos (by omega)])
  rw [hl] at key
  exact key
theorem code_set {m t D i r : Nat} (q : CodeG) (h : q.gs.length = i) (v : Value) (hv : v = .slice (some ⟨r, 0, none⟩) (prB m t) (prB m t)) : (codeL m t D q).toArray.setIfInBounds (0 + 7 + i * 1) v = (codeL m t D ⟨q.f, q.A1, q.c1, q.A2, q.c2, q.gs ++ [r], q.X⟩).toArray := by
  subst hv
  subst h
  rw [List.setIfInBounds_toArray, show 0 + 7 + q.gs.length * 1 = q.gs.length + 7 by omega]
  unfold codeL
  simp only [List.set_cons_succ]
  rw [tabL_set]
theorem cf_bl1 (y : Nat) {k : Nat} (hk : k < 8) : cf (bl [y]) k = (y >>> k) % 2 := by
  rw [cf_bl]
  unfold bitN
  rw [Nat.div_eq_of_lt hk, Nat.mod_eq_of_lt hk]
  rfl

set_option maxHeartbeats 1600000 in

theorem new_ok (m t D : Nat) (e : Nat → Addr) (w : World) (hMT : MT m t) (h1D : 1 ≤ D) (hDm : D ≤ 2048) (hfit : 8 * D + dg m t ≤ N m) : SpecX Tryd.prog 78 [.int .i64 (m : Nat), .int .i64 (t : Nat), .int .i64 (D : Nat)] w (X := Nat × CodeG) (fun z => two (.pointer (some ⟨z.1, 0, none⟩)) .nilIface) (fun z => z.2.Fine m t) (fun z => [codeA z.1 m t D z.2]) := by
  have hm := hMT.ok
  have hNs := N_succ m
  have hmh := hm.hi
  have hml := hm.lo
  have h14 := pow_le14 hm
  have hdeg := hMT.deg
  have hd1 := hMT.d1
  have hd5 := hMT.d560
  have hp1 := hMT.p1
  have hp7 := hMT.p70
  have hgl := gn_more hMT
  have hgl2 := gn_len hMT
  have hmk := cut_mask (dg m t)
  have hglt := gn_lt hMT
  have hd : (ldr m t).2 < N m := by omega
  have hpd : prB m t = (dg m t + 7) / 8 := rfl
  refine spec_of Tryd.func78 rfl Tryd.ntmps78 rfl ?_
  refine CW.seq ?_
  refine CW.reg [0, 1] rfl ?_
  refine s_as 6 rfl rfl ?_
  refine s_as 7 rfl rfl ?_
  refine SX.next ?_
  refine CW.seq ?_
  refine CW.reg [0, 1, 2, 3, 4, 5, 6, 7] rfl ?_
  refine s_mv 15 rfl rfl ?_
  refine s_mv 16 rfl rfl ?_
  refine s_call1 17 rfl rfl rfl rfl (fun w hw => by have := least_ok m t e w hm hMT.t1 hMT.t40 hd; rw [hdeg] at this; exact this) (fun _ _ => trivial) ?_
  refine s_mv 14 rfl rfl ?_
  refine s_ext 18 rfl rfl rfl ?_
  refine s_ext 19 rfl rfl rfl ?_
  refine s_as 8 rfl rfl ?_
  refine s_as 9 rfl rfl ?_
  refine SX.next ?_
  refine CW.seq ?_
  refine CW.block ?_
  refine CW.seq ?_
  refine CW.reg [0, 1, 2] rfl ?_
  refine s_mv 21 rfl rfl ?_
  refine s_neNN 22 rfl rfl ?_
  refine s_as 20 rfl rfl ?_
  refine SX.next ?_
  refine CW.condF rfl ?_
  refine CW.seq ?_
  refine CW.reg [0, 1, 2, 3, 4, 5, 6] rfl ?_
  refine s_mv 25 rfl rfl ?_
  refine s_lt 26 rfl rfl rfl (decide_eq_false (by omega)) ?_
  refine s_mv 27 rfl rfl ?_
  refine s_mv 28 rfl rfl ?_
  refine s_gt 29 rfl rfl rfl (decide_eq_false (by omega)) ?_
  refine s_pickF 30 rfl rfl rfl ?_
  refine s_as 24 rfl rfl ?_
  refine SX.next ?_
  refine CW.condF rfl ?_
  refine CW.seq ?_
  refine CW.reg [0, 1, 2, 3, 4, 5, 6, 7, 8] rfl ?_
  refine s_mv 33 rfl rfl ?_
  refine s_mul 34 rfl rfl rfl (r := ((8 * D : Nat) : Int)) (by rw [show (8 : Int) * ((D : Nat) : Int) = ((8 * D : Nat) : Int) by omega]; exact w64 (by omega)) ?_
  refine s_mv 35 rfl rfl ?_
  refine s_add 36 rfl rfl rfl (r := ((8 * D + dg m t : Nat) : Int)) (w64 (by omega)) ?_
  refine s_mv 37 rfl rfl ?_
  refine s_shl 38 rfl rfl rfl (by omega) (shl_one hm) ?_
  refine s_sub 39 rfl rfl rfl (r := ((N m : Nat) : Int)) (by rw [show ((N m + 1 : Nat) : Int) - 1 = ((N m : Nat) : Int) by omega]; exact w64 (by omega)) ?_
  refine s_gt 40 rfl rfl rfl (decide_eq_false (by omega)) ?_
  refine s_as 32 rfl rfl ?_
  refine SX.next ?_
  refine CW.condF rfl ?_
  refine CW.skip ?_
  refine KN.blk ?_
  refine KN.code ?_
  refine CW.seq ?_
  refine CW.reg [0, 1, 2, 3, 4, 5, 6, 7, 8] rfl ?_
  refine s_mv 42 rfl rfl ?_
  refine s_mv 43 rfl rfl ?_
  refine s_mv 44 rfl rfl ?_
  refine s_mv 45 rfl rfl ?_
  refine s_add 46 rfl rfl rfl (r := ((dg m t + 7 : Nat) : Int)) (w64 (by omega)) ?_
  refine s_quo 47 rfl rfl rfl (by omega) (quo8 (dg m t + 7) (by omega)) ?_
  refine s_build 48 rfl rfl (cells := (.pointer none :: .int .i64 (t : Nat) :: .int .i64 (D : Nat) :: .int .i64 (dg m t : Nat) :: .int .i64 (prB m t : Nat) :: .slice none 0 0 :: .slice none 0 0 :: List.replicate 256 (.slice none 0 0)).toArray) (by kernel_rfl) ?_
  refine s_box 49 rfl rfl (fun _ _ => trivial) (fun c => ?_)
  refine s_as 10 rfl rfl ?_
  refine SX.next ?_
  refine CW.seq ?_
  refine CW.seq ?_
  refine CW.reg [0, 1, 2, 3, 4, 5, 6, 7, 8, 9] rfl ?_
  refine s_mv 51 rfl rfl ?_
  refine s_mv 52 rfl rfl ?_
  refine s_call 53 rfl rfl rfl rfl (fun w hw => new_spec m w hm) (fun _ _ => trivial) (fun f _ => ?_)
  refine s_mv 50 rfl rfl ?_
  refine s_ext 54 rfl rfl rfl ?_
  refine s_ext 55 rfl rfl rfl ?_
  refine s_nil 56 rfl rfl ?_
  refine s_fa 57 rfl rfl ?_
  refine s_stB 1 rfl rfl rfl rfl rfl (by simp [Value.cells]) (fun _ _ => trivial) ?_
  refine s_as 9 rfl rfl ?_
  refine SX.next ?_
  refine CW.seq ?_
  refine CW.pre (C' := Sto w [fieldA f m, blk c CT (.pointer (some ⟨f, 0, none⟩) :: .int .i64 (t : Nat) :: .int .i64 (D : Nat) :: .int .i64 (dg m t : Nat) :: .int .i64 (prB m t : Nat) :: .slice none 0 0 :: .slice none 0 0 :: List.replicate 256 (.slice none 0 0)).toArray]) (fun _ hw => by rw [show (0 : Nat) + 0 = 0 from rfl, show (Value.agg (.pointer none :: .int .i64 (t : Nat) :: .int .i64 (D : Nat) :: .int .i64 (dg m t : Nat) :: .int .i64 (prB m t : Nat) :: .slice none 0 0 :: .slice none 0 0 :: List.replicate 256 (.slice none 0 0)).toArray).cells = (.pointer none :: .int .i64 (t : Nat) :: .int .i64 (D : Nat) :: .int .i64 (dg m t : Nat) :: .int .i64 (prB m t : Nat) :: .slice none 0 0 :: .slice none 0 0 :: List.replicate 256 (.slice none 0 0)).toArray from rfl, List.setIfInBounds_toArray] at hw; exact hw) ?_
  refine CW.reg [0, 1] rfl ?_
  refine s_mv 58 rfl rfl ?_
  refine s_neNN 59 rfl rfl ?_
  refine SX.next ?_
  refine CW.condF rfl ?_
  refine CW.skip ?_
  refine KN.code ?_
  refine CW.seq ?_
  refine CW.seq ?_
  refine CW.reg [0, 1, 2, 3, 4, 5, 6, 7, 8, 9, 10, 11, 12, 13] rfl ?_
  refine s_mv 62 rfl rfl ?_
  refine s_mv 63 rfl rfl ?_
  refine s_nil 64 rfl rfl ?_
  refine s_fa 65 rfl rfl ?_
  refine s_ldB 66 1 rfl rfl rfl (v := .pointer (some ⟨f, 0, none⟩)) rfl ?_
  refine s_mv 67 rfl rfl ?_
  refine s_call 68 rfl rfl rfl rfl (fun w hw => gen_ok f m t e w hm (hw.has (i := 0) rfl) hMT.t1 hMT.t40 hd) (fun _ _ => trivial) (fun g hg => ?_)
  refine s_mv 61 rfl rfl ?_
  refine s_ext 69 rfl rfl rfl ?_
  refine s_ext 70 rfl rfl rfl ?_
  refine s_nil 71 rfl rfl ?_
  refine s_fa 72 rfl rfl ?_
  refine s_stB 2 rfl rfl rfl rfl rfl (by simp) (fun _ _ => trivial) ?_
  refine s_as 9 rfl rfl ?_
  refine SX.next ?_
  refine CW.seq ?_
  refine CW.pre (C' := Sto w [own 5 1 g.1 (gnB m t).length g.2 (nats .u8 (gnB m t)), fieldA f m, blk c CT (.pointer (some ⟨f, 0, none⟩) :: .int .i64 (t : Nat) :: .int .i64 (D : Nat) :: .int .i64 (dg m t : Nat) :: .int .i64 (prB m t : Nat) :: .slice g.1 (gnB m t).length g.2 :: .slice none 0 0 :: List.replicate 256 (.slice none 0 0)).toArray]) (fun _ hw => by rw [List.setIfInBounds_toArray] at hw; exact hw) ?_
  refine CW.reg [0, 1] rfl ?_
  refine s_mv 73 rfl rfl ?_
  refine s_neNN 74 rfl rfl ?_
  refine SX.next ?_
  refine CW.condF rfl ?_
  refine CW.skip ?_
  refine KN.code ?_
  refine CW.seq ?_
  refine CW.regD (.st true 0 (.st true 1 (.st true 2 (.st true 3 (.st true 4 (.st true 5 (.st true 7 (.st true 8 (.st true 9 (.st true 10 (.st false 6 (.st false 11 (.st true 12 (.st true 13 (.st false 14 .done))))))))))))))) (fun w2 => w2.cell? ⟨c, 4, none⟩ = some (.int .i64 (prB m t : Nat)) ∧ w2.cell? ⟨c, 5, none⟩ = some (.slice g.1 (gnB m t).length g.2)) mixed (by kernel_rfl) (fun _ h => h.drew) (fun _ hw => ⟨hw.blkCell (i := 2) rfl rfl, hw.blkCell (i := 2) rfl rfl⟩) ?_
  refine s_mv 76 rfl rfl ?_
  refine s_mv 77 rfl rfl ?_
  refine s_nil 78 rfl rfl ?_
  refine s_fa 79 rfl rfl ?_
  refine s_ldS 80 rfl rfl (fun _ hw => hw.1) ?_
  refine s_add 81 rfl rfl rfl (r := ((prB m t + 1 : Nat) : Int)) (w64 (by omega)) ?_
  refine s_mv 83 rfl rfl ?_
  refine s_nil 84 rfl rfl ?_
  refine s_fa 85 rfl rfl ?_
  refine s_ldS 86 rfl rfl (fun _ hw => hw.2) ?_
  refine s_makeC 82 (prB m t + 1) rfl rfl rfl rfl rfl (by unfold maxLen; omega) (fun _ hw => ⟨hw.blkCell (i := 2) rfl rfl, hw.blkCell (i := 2) rfl rfl⟩) (fun lg => ?_)
  refine s_app2 87 0 rfl rfl rfl rfl (ys := nats .u8 (gnB m t)) (fun w hw => (hw.has (i := 1) rfl).of_own) (nats_one _ _) rfl (by omega) (by unfold maxLen; omega) (by omega) (fun _ _ _ hw => ⟨hw.blkCell (i := 3) rfl rfl, hw.blkCell (i := 3) rfl rfl⟩) (fun A2 c2 hc2 => ?_)
  refine s_nil 88 rfl rfl ?_
  refine s_fa 89 rfl rfl ?_
  refine s_stB 3 rfl rfl rfl rfl rfl (by simp) (fun _ hw => ⟨hw.blkCell (i := 3) rfl rfl, hw.blkCell (i := 3) rfl rfl⟩) ?_
  refine SX.next ?_
  refine CW.seq ?_
  refine CW.pre (C' := Sto w [own 5 1 A2 (gnB m t).length c2 (nats .u8 (gnB m t)), own 5 1 g.1 (gnB m t).length g.2 (nats .u8 (gnB m t)), fieldA f m, blk c CT (.pointer (some ⟨f, 0, none⟩) :: .int .i64 (t : Nat) :: .int .i64 (D : Nat) :: .int .i64 (dg m t : Nat) :: .int .i64 (prB m t : Nat) :: .slice g.1 (gnB m t).length g.2 :: .slice A2 (gnB m t).length c2 :: List.replicate 256 (.slice none 0 0)).toArray]) (fun _ hw => by rw [List.setIfInBounds_toArray] at hw; simp only [Nat.zero_add, List.nil_append] at hw; exact hw) ?_
  refine CW.regD (.st true 0 (.st true 1 (.st true 2 (.st true 3 (.st true 4 (.st true 5 (.st true 6 (.st true 8 (.st true 9 (.st true 10 (.st false 7 (.st true 11 (.st true 12 (.st false 13 .done)))))))))))))) (fun w2 => w2.cell? ⟨c, 6, none⟩ = some (.slice A2 (gnB m t).length c2)) mixed (by kernel_rfl) (fun _ h => h.drew) (fun _ hw => hw.blkCell (i := 3) rfl rfl) ?_
  refine s_mv 90 rfl rfl ?_
  refine s_nil 91 rfl rfl ?_
  refine s_fa 92 rfl rfl ?_
  refine s_ldS 93 rfl rfl (fun _ hw => hw) ?_
  refine s_mv 94 rfl rfl ?_
  refine s_quo 95 rfl rfl rfl (by omega) (quo8 (dg m t) (by omega)) ?_
  refine s_iaO 96 0 (dg m t / 8) rfl rfl rfl rfl rfl (by omega) ?_
  refine s_mv 98 rfl rfl ?_
  refine s_rem 99 rfl rfl rfl (by omega) (tmod8 (dg m t)) ?_
  refine s_shl 100 rfl rfl rfl (by omega) (r := ((2 ^ (dg m t % 8) : Nat) : Int)) (by rw [show (1 : Int) = ((1 : Nat) : Int) from rfl, shl_u8 (by omega), Nat.one_mul, Nat.mod_eq_of_lt hmk.2]) ?_
  refine s_ldO 97 0 rfl rfl rfl (natsAt8 (by omega)) ?_
  refine s_bit 101 rfl rfl rfl rfl (ibit_clr_u8 (cf_lt8 hglt _) hmk.2) ?_
  refine s_iaO 102 0 (dg m t / 8) rfl rfl rfl rfl rfl (by omega) ?_
  refine s_stO 0 rfl rfl rfl rfl rfl (by omega) (fun _ hw => hw.blkCell (i := 3) rfl rfl) ?_
  refine SX.next ?_
  refine CW.seq ?_
  refine CW.pre (C' := Sto w [own 5 1 A2 (gnB m t).length c2 (nats .u8 (lwL m t)), own 5 1 g.1 (gnB m t).length g.2 (nats .u8 (gnB m t)), fieldA f m, blk c CT (.pointer (some ⟨f, 0, none⟩) :: .int .i64 (t : Nat) :: .int .i64 (D : Nat) :: .int .i64 (dg m t : Nat) :: .int .i64 (prB m t : Nat) :: .slice g.1 (gnB m t).length g.2 :: .slice A2 (gnB m t).length c2 :: List.replicate 256 (.slice none 0 0)).toArray]) (fun _ hw => by rw [nats_set] at hw; exact hw) ?_
  refine CW.regD (.st true 0 (.st true 1 (.st true 2 (.st true 3 (.st true 5 (.st true 6 (.st true 7 (.st true 8 (.st false 4 (.st true 9 (.st true 10 (.st true 11 (.st false 12 .done))))))))))))) (fun w2 => w2.cell? ⟨c, 4, none⟩ = some (.int .i64 (prB m t : Nat))) mixed (by kernel_rfl) (fun _ h => h.drew) (fun _ hw => hw.blkCell (i := 3) rfl rfl) ?_
  refine s_mv 103 rfl rfl ?_
  refine s_mv 104 rfl rfl ?_
  refine s_nil 105 rfl rfl ?_
  refine s_fa 106 rfl rfl ?_
  refine s_mv 108 rfl rfl ?_
  refine s_nil 109 rfl rfl ?_
  refine s_fa 110 rfl rfl ?_
  refine s_ldS 111 rfl rfl (fun _ hw => hw) ?_
  refine s_ldB 107 3 rfl rfl rfl (v := .slice A2 (gnB m t).length c2) rfl ?_
  refine s_slH 112 (prB m t) rfl rfl rfl rfl (by omega) ?_
  refine s_nil 113 rfl rfl ?_
  refine s_fa 114 rfl rfl ?_
  refine s_stB 3 rfl rfl rfl rfl rfl (by simp) (fun _ hw => hw.blkCell (i := 3) rfl rfl) ?_
  refine SX.next ?_
  refine CW.seq ?_
  refine CW.seq ?_
  refine CW.pre (C' := Sto w [lowO m t ⟨f, g.1, g.2, A2, c2, [], []⟩, own 5 1 g.1 (gnB m t).length g.2 (nats .u8 (gnB m t)), fieldA f m, blk c CT (.pointer (some ⟨f, 0, none⟩) :: .int .i64 (t : Nat) :: .int .i64 (D : Nat) :: .int .i64 (dg m t : Nat) :: .int .i64 (prB m t : Nat) :: .slice g.1 (gnB m t).length g.2 :: .slice A2 (prB m t) c2 :: List.replicate 256 (.slice none 0 0)).toArray]) (fun _ hw => by
    have h1 := St.ownCutP (q := 0) (m' := prB m t) rfl (by omega) hw
    rw [Nat.mul_one] at h1
    have e : (nats .u8 (lwL m t)).take (prB m t) = nats .u8 (lwB m t) := by
      rw [← low_list hMT]
      simp [nats, List.map_take]
    rw [e] at h1
    exact h1) ?_
  refine CW.reg [0] rfl ?_
  refine s_mv 115 rfl rfl ?_
  refine SX.next ?_
  refine CW.block ?_
  refine CW.loop (G := Nat × List Nat × List Atom) (fun p => [(10, .pointer (some ⟨c, 0, none⟩)), (115, .int .i64 (p.1 : Nat))]) (fun p => Sto w [blk c CT (codeL m t D ⟨f, g.1, g.2, A2, c2, p.2.1, p.2.2⟩).toArray, lowO m t ⟨f, g.1, g.2, A2, c2, p.2.1, p.2.2⟩, genO m t ⟨f, g.1, g.2, A2, c2, p.2.1, p.2.2⟩, fieldA f m, starA p.2.2]) (fun p => p.1 ≤ 256 ∧ p.2.1.length = p.1 ∧ ∀ y g2, p.2.1[y]? = some g2 → rowB m t g2 y ∈ p.2.2) (fun p => 256 - p.1) (0, [], []) ⟨rfl, rfl, trivial⟩ (fun _ hw => by
  have h1 := hw.nilStar'
  unfold codeL
  rw [tabL_nil]
  exact h1.pick [3, 0, 0, 0, 0] rfl) ⟨by omega, rfl, fun y g2 hy => by simp at hy⟩ ?_
  rintro ⟨i, gs, X⟩ ⟨hi, hgs, hX⟩
  simp only at hi hgs hX
  dsimp only
  refine CW.seq ?_
  refine CW.reg [0] rfl ?_
  refine s_lt 116 rfl rfl rfl rfl ?_
  refine SX.next ?_
  refine CW.seq ?_
  refine CW.test rfl (fun hc => ?_) (fun hc => ?_)
  · skip
    refine CW.skip ?_
    refine KN.code ?_
    refine CW.seq ?_
    refine CW.block ?_
    refine CW.seq ?_
    refine CW.reg [0, 1] rfl ?_
    refine s_mv 117 rfl rfl ?_
    refine s_as 11 rfl rfl ?_
    refine SX.next ?_
    refine CW.seq ?_
    refine CW.reg [0, 1, 2, 3, 4, 5] rfl ?_
    refine s_mv 118 rfl rfl ?_
    refine s_nil 119 rfl rfl ?_
    refine s_fa 120 rfl rfl ?_
    refine s_ldB 121 0 rfl rfl rfl (v := .int .i64 (prB m t : Nat)) rfl ?_
    refine s_make 122 (prB m t) rfl rfl rfl rfl rfl (by omega) (fun _ _ => trivial) (fun r => ?_)
    refine s_as 12 rfl rfl ?_
    refine SX.next ?_
    refine CW.seq ?_
    refine CW.seq ?_
    refine CW.reg [0] rfl ?_
    refine s_as 13 rfl rfl ?_
    refine SX.next ?_
    refine CW.block ?_
    refine CW.loop (G := Nat) (fun k => [(10, .pointer (some ⟨c, 0, none⟩)), (11, .int .i64 (i : Nat)), (12, .slice (some ⟨r, 0, none⟩) (prB m t) (prB m t)), (13, .int .i64 (((k : Nat) : Int) - 1)), (115, .int .i64 (i : Nat))]) (fun k => Sto w [blk r 5 (rgB m t (dnP k (bl [i]))), blk c CT (codeL m t D ⟨f, g.1, g.2, A2, c2, gs, X⟩).toArray, lowO m t ⟨f, g.1, g.2, A2, c2, gs, X⟩, genO m t ⟨f, g.1, g.2, A2, c2, gs, X⟩, fieldA f m, starA X]) (fun k => k ≤ 8) (fun k => k) 8 ⟨rfl, rfl, rfl, rfl, rfl, trivial⟩ (fun _ hw => by rw [dnP_out (bl_b1 _) (show (bl [i]).length ≤ 8 from bl_len [i]), ← hMT.zero]; exact hw) (Nat.le_refl _) ?_
    intro k hk
    refine CW.seq ?_
    refine CW.seq ?_
    refine CW.reg [0, 1] rfl ?_
    refine s_mv 123 rfl rfl ?_
    refine s_ge 124 rfl rfl rfl rfl ?_
    refine SX.next ?_
    refine CW.test rfl (fun hc => ?_) (fun hc => ?_)
    · skip
      obtain ⟨j, rfl⟩ : ∃ j, k = j + 1 := ⟨k - 1, by omega⟩
      refine CW.skip ?_
      refine KN.code ?_
      refine CW.seq ?_
      refine CW.block ?_
      refine CW.reg [0, 1, 2, 3, 4, 5, 6] rfl ?_
      refine s_mv 127 rfl rfl ?_
      refine s_mv 128 rfl rfl ?_
      refine s_mv 129 rfl rfl ?_
      refine s_mv 130 rfl rfl ?_
      refine s_shr 131 rfl rfl rfl (by omega) (r := ((i >>> j : Nat) : Int)) (by rw [show ((j + 1 : Nat) : Int) - 1 = ((j : Nat) : Int) by omega]; exact shr_nat (by omega)) ?_
      refine s_bit 132 rfl rfl rfl rfl (r := (((i >>> j) % 2 : Nat) : Int)) (by have := shr8 (show i < 256 by omega) j; rw [show (1 : Int) = ((1 : Nat) : Int) from rfl, ibit_and_nat (by omega) (by omega), Nat.and_one_is_mod]) ?_
      refine s_callW 133 0 rfl rfl rfl rfl rfl (fun w2 hw2 => shift_ok c r m t (codeL m t D ⟨f, g.1, g.2, A2, c2, gs, X⟩).toArray A2 c2 (prB m t) (dnP (j + 1) (bl [i])) ((i >>> j) % 2) w2 hMT ⟨hw2.hasN (i := 0) (j := 0) rfl rfl, rfl, rfl, (hw2.hasN (i := 0) (j := 1) rfl rfl).of_own⟩ (dnP_b1 (bl_b1 _) _) (Nat.mod_lt _ (by omega)) (hw2.heapOf (i := 0) rfl)) (fun _ _ => trivial) ?_
      refine SX.end_ ?_
      refine KN.blk ?_
      refine KN.code ?_
      refine CW.reg [0, 1, 2] rfl ?_
      refine s_mv 125 rfl rfl ?_
      refine s_sub 126 rfl rfl rfl (r := ((j : Nat) : Int) - 1) (by rw [show ((j + 1 : Nat) : Int) - 1 - 1 = ((j : Nat) : Int) - 1 by omega]; exact w64 (by omega)) ?_
      refine s_as 13 rfl rfl ?_
      refine SX.end_ ?_
      exact KN.back j ⟨rfl, rfl, rfl, rfl, rfl, trivial⟩ (fun _ hw => by rw [dnP_cons (bl_b1 _), cf_bl1 i (by omega)]; exact hw) (by omega) (by omega)
    · skip
      obtain rfl : k = 0 := by omega
      refine CW.exit rfl ?_
      refine KN.code ?_
      refine CW.reg [0, 1, 2, 3, 4, 5, 6] rfl ?_
      refine s_mv 134 rfl rfl ?_
      refine s_mv 135 rfl rfl ?_
      refine s_mv 136 rfl rfl ?_
      refine s_nil 137 rfl rfl ?_
      refine s_fa 138 rfl rfl ?_
      refine s_iaR 139 i rfl rfl rfl rfl (by omega) ?_
      refine s_stB 1 rfl rfl rfl rfl rfl (by simp [codeL, tabL]; omega) (fun _ _ => trivial) ?_
      refine SX.end_ ?_
      refine KN.blk ?_
      refine KN.code ?_
      refine CW.reg [0, 1] rfl ?_
      refine s_add 140 rfl rfl rfl (r := ((i + 1 : Nat) : Int)) (w64 (by omega)) ?_
      refine s_mv 115 rfl rfl ?_
      refine SX.end_ ?_
      exact KN.back (i + 1, gs ++ [r], rowB m t r i :: X) ⟨rfl, rfl, trivial⟩ (fun _ hw => by
        have e := code_set (m := m) (t := t) (D := D) (r := r) (⟨f, g.1, g.2, A2, c2, gs, X⟩ : CodeG) hgs _ rfl
        have h0 := hw.pick [0, 4, 0, 0, 0, 0] rfl
        simp only [e, dnP_zero (bl_b1 _)] at h0
        have h1 := h0.moreStar
        exact h1.pick [1, 1, 1, 1, 0] rfl) ⟨by simp only; omega, by simp only [List.length_append, List.length_singleton]; omega, fun y g2 hy => by
        by_cases hyl : y < gs.length
        · rw [List.getElem?_append_left hyl] at hy
          exact List.mem_cons_of_mem _ (hX y g2 hy)
        · have hy2 := (List.getElem?_eq_some_iff.1 hy).1
          simp only [List.length_append, List.length_singleton] at hy2
          obtain rfl : y = i := by omega
          rw [List.getElem?_append_right (by omega), hgs, Nat.sub_self] at hy
          obtain rfl : r = g2 := by simpa using hy
          exact List.mem_cons_self ..⟩ (by simp only; omega)
  · skip
    have hi6 : i = 256 := by omega
    refine CW.exit rfl ?_
    refine KN.code ?_
    refine CW.seq ?_
    refine CW.reg [0, 1, 2] rfl ?_
    refine s_mv 141 rfl rfl ?_
    refine s_as 6 rfl rfl ?_
    refine s_as 7 rfl rfl ?_
    refine SX.next ?_
    refine CW.ret ?_
    exact KN.ret (rs := [.tmp 6, .tmp 7]) Tryd.results78 rfl (fun w hw => ⟨(c, ⟨f, g.1, g.2, A2, c2, gs, X⟩), rfl, ⟨hg, (show prB m t ≤ c2 by omega), (show gs.length = 256 by omega), hX⟩, (St.star (L := []) _).1 (by rw [List.append_nil]; exact hw.pick [0, 1, 0, 0, 0] rfl)⟩)
end Go.Proofs.YtcdmmfpgeagimaaDoor
end
section
/- The chapter's code, made, and the laws' own helpers, walked. Conditions: the errors' variables. -/
namespace Go.Proofs.YtcdmmfpgeagimaaDoor
open Go Go.Sx Go.Fm Nb
set_option maxRecDepth 100000
/-- A code that may be. -/
structure COk (m t D : Nat) : Prop where
  mt : MT m t
  d1 : 1 ≤ D
  dm : D ≤ 2048
  fit : 8 * D + dg m t ≤ N m
/-- The chapter's code as data. -/
def refC (m t D : Nat) (g : Option Addr × Nat) : Array Value := #[.int .i64 (m : Nat), .int .i64 (t : Nat), .int .i64 (D : Nat), .slice g.1 (gnB m t).length g.2, .int .i64 (dg m t : Nat)]
def refZ : Array Value := #[.int .i64 0, .int .i64 0, .int .i64 0, .slice none 0 0, .int .i64 0]
def genOf (m t : Nat) (g : Option Addr × Nat) : Atom := own 5 1 g.1 (gnB m t).length g.2 (nats .u8 (gnB m t))
theorem COk.deg {m t D : Nat} (h : COk m t D) : (ldr m t).2 < N m := by
  have := h.mt.deg
  have := h.fit
  have := h.d1
  omega
theorem COk.gA {m t D : Nat} (h : COk m t D) : genA (m : Nat) (t : Nat) = gnB m t := by
  unfold genA
  rw [lc_ok h.mt.ok h.mt.t1 h.mt.t40 h.deg]
  rfl
theorem mt52 : MT 5 2 := ⟨⟨by decide, by decide⟩, by decide, by decide⟩
theorem dg52 : dg 5 2 = 10 := by rw [← mt52.deg]; decide +kernel
theorem cok52 : COk 5 2 2 := ⟨mt52, by decide, by decide, by rw [dg52]; decide⟩
/-- Any number brought between b and b + k. -/
def md (k b : Nat) (x : Int) : Nat := (x % (k : Int)).toNat + b
theorem md_bd {k : Nat} (hk : 0 < k) (b : Nat) (x : Int) : b ≤ md k b x ∧ md k b x < k + b := by
  have h1 := Int.emod_nonneg x (b := (k : Int)) (by omega)
  have h2 := Int.emod_lt_of_pos x (b := (k : Int)) (by omega)
  unfold md
  omega
/-- Bytes brought to a length. -/
def fitL (b : List Nat) (n : Nat) : List Nat := b.take (min b.length n) ++ List.replicate (n - min b.length n) 0
theorem fitL_len (b : List Nat) (n : Nat) : (fitL b n).length = n := by simp [fitL]; omega
theorem fitL_lt {b : List Nat} (hb : ∀ x ∈ b, x < 256) (n : Nat) : ∀ x ∈ fitL b n, x < 256 := fun x hx => by
  rcases List.mem_append.1 hx with h | h
  · exact hb x (List.mem_of_mem_take h)
  · rw [(List.mem_replicate.1 h).2]; decide
theorem fit_cells (b : List Nat) (n : Nat) : ((List.replicate n (Value.int .u8 0)).toArray.toList.take 0 ++ (nats .u8 b).take (min b.length n) ++ (List.replicate n (Value.int .u8 0)).toArray.toList.drop (0 + min b.length n)).toArray = (nats .u8 (fitL b n)).toArray := by
  rw [List.take_zero, List.nil_append, Nat.zero_add, show (List.replicate n (Value.int .u8 0)).toArray.toList = List.replicate n (Value.int .u8 0) from rfl, List.drop_replicate]
  simp [fitL, nats, List.map_take]

theorem rNew_ok (m t D : Nat) (w : World) (hC : COk m t D) : SpecX Tryd.prog 79 [.int .i64 (m : Nat), .int .i64 (t : Nat), .int .i64 (D : Nat)] w (X := Option Addr × Nat) (fun g => two (.agg (refC m t D g)) (.int .i64 0)) (fun g => (gnB m t).length ≤ g.2) (fun g => [genOf m t g]) := by
  obtain ⟨hMT, h1D, hDm, hfit⟩ := hC
  have hd := COk.deg ⟨hMT, h1D, hDm, hfit⟩
  have hgA := COk.gA ⟨hMT, h1D, hDm, hfit⟩
  have hm := hMT.ok
  have hNs := N_succ m
  have hmh := hm.hi
  have hml := hm.lo
  have h14 := pow_le14 hm
  have hdeg := hMT.deg
  have hd1 := hMT.d1
  have hd5 := hMT.d560
  have hp1 := hMT.p1
  have hp7 := hMT.p70
  have hlc := lc_ok hm hMT.t1 hMT.t40 hd
  refine spec_of Tryd.func79 rfl Tryd.ntmps79 rfl ?_
  refine CW.seq ?_
  refine CW.reg [0, 1] rfl ?_
  refine s_alloc 6 rfl (fun _ _ => trivial) (fun rs => ?_)
  refine s_as 7 rfl rfl ?_
  refine SX.next ?_
  refine CW.seq ?_
  refine CW.reg [0, 1, 2, 3, 4, 5, 6, 7, 8, 9] rfl ?_
  refine s_mv 14 rfl rfl ?_
  refine s_mv 15 rfl rfl ?_
  refine s_call 16 rfl rfl rfl rfl (fun w hw => by have := rleast_ok m t w hm hMT.t1 hMT.t40 hd; rw [hdeg] at this; exact this) (fun _ _ => trivial) (fun z hz => ?_)
  refine s_mv 13 rfl rfl ?_
  refine s_ext 17 rfl rfl rfl ?_
  refine s_ext 18 rfl rfl rfl ?_
  refine s_ext 19 rfl rfl rfl ?_
  refine s_as 8 rfl rfl ?_
  refine s_as 9 rfl rfl ?_
  refine s_as 10 rfl rfl ?_
  refine SX.next ?_
  refine CW.seq ?_
  refine CW.seq ?_
  refine CW.reg [0, 1] rfl ?_
  refine s_mv 20 rfl rfl ?_
  refine s_ne 21 rfl rfl rfl (decide_eq_false (fun h => h rfl)) ?_
  refine SX.next ?_
  refine CW.condF rfl ?_
  refine CW.skip ?_
  refine KN.code ?_
  refine CW.seq ?_
  refine CW.seq ?_
  refine CW.reg [0, 1, 2, 3, 4, 5] rfl ?_
  refine s_mv 24 rfl rfl ?_
  refine s_lt 25 rfl rfl rfl (decide_eq_false (by omega)) ?_
  refine s_mv 26 rfl rfl ?_
  refine s_mv 27 rfl rfl ?_
  refine s_gt 28 rfl rfl rfl (decide_eq_false (by omega)) ?_
  refine s_pickF 29 rfl rfl rfl ?_
  refine SX.next ?_
  refine CW.condF rfl ?_
  refine CW.skip ?_
  refine KN.code ?_
  refine CW.seq ?_
  refine CW.seq ?_
  refine CW.reg [0, 1, 2, 3, 4, 5, 6, 7, 8] rfl ?_
  refine s_mv 31 rfl rfl ?_
  refine s_mul 32 rfl rfl rfl (r := ((8 * D : Nat) : Int)) (by rw [show (8 : Int) * ((D : Nat) : Int) = ((8 * D : Nat) : Int) by omega]; exact w64 (by omega)) ?_
  refine s_mv 33 rfl rfl ?_
  refine s_add 34 rfl rfl rfl (r := ((8 * D + dg m t : Nat) : Int)) (w64 (by omega)) ?_
  refine s_mv 35 rfl rfl ?_
  refine s_conv 36 rfl rfl (u64_nat hm) ?_
  refine s_shl 37 rfl rfl rfl (by omega) (shl_one hm) ?_
  refine s_sub 38 rfl rfl rfl (r := ((N m : Nat) : Int)) (by rw [show ((N m + 1 : Nat) : Int) - 1 = ((N m : Nat) : Int) by omega]; exact w64 (by omega)) ?_
  refine s_gt 39 rfl rfl rfl (decide_eq_false (by omega)) ?_
  refine SX.next ?_
  refine CW.condF rfl ?_
  refine CW.skip ?_
  refine KN.code ?_
  refine CW.seq ?_
  refine CW.reg [0, 1, 2, 3, 4, 5, 6, 7] rfl ?_
  refine s_mv 42 rfl rfl ?_
  refine s_mv 43 rfl rfl ?_
  refine s_call 44 rfl rfl rfl rfl (fun w hw => by have := rgen_spec m (t : Nat) w hm; rw [hgA, hlc] at this; exact this) (fun _ _ => trivial) (fun g hg => ?_)
  refine s_mv 41 rfl rfl ?_
  refine s_ext 45 rfl rfl rfl ?_
  refine s_ext 46 rfl rfl rfl ?_
  refine s_as 11 rfl rfl ?_
  refine s_as 12 rfl rfl ?_
  refine SX.next ?_
  refine CW.seq ?_
  refine CW.reg [0, 1, 2, 3, 4, 5, 6, 7, 8] rfl ?_
  refine s_mv 47 rfl rfl ?_
  refine s_mv 48 rfl rfl ?_
  refine s_mv 49 rfl rfl ?_
  refine s_mv 50 rfl rfl ?_
  refine s_mv 51 rfl rfl ?_
  refine s_build 52 rfl rfl (cells := refC m t D g) rfl ?_
  refine s_mv 53 rfl rfl ?_
  refine s_stAll 2 rfl rfl (by kernel_rfl) rfl rfl rfl rfl (fun _ _ => trivial) ?_
  refine s_as 7 rfl rfl ?_
  refine SX.next ?_
  refine CW.ret ?_
  exact KN.retC (rs := [.cell 6 27, .tmp 7]) Tryd.results79 (fun w hw => ⟨[_, _], ⟨⟨_, rfl, hw.ldRow (q := 2) rfl (by rfl)⟩, rfl, trivial⟩, ⟨g, rfl, hg, hw.pick [0] rfl⟩⟩)

theorem rNew_bad1 (m t D : Nat) (w : World) (hMT : MT m t) (h1D : 1 ≤ D) (hDm : D ≤ 2048) (hd : (ldr m t).2 < N m) (hfit : N m < 8 * D + dg m t) : Spec1 Tryd.prog 79 [.int .i64 (m : Nat), .int .i64 (t : Nat), .int .i64 (D : Nat)] w (two (.agg refZ) (.int .i64 105)) := by
  have hm := hMT.ok
  have hNs := N_succ m
  have hmh := hm.hi
  have hml := hm.lo
  have h14 := pow_le14 hm
  have hdeg := hMT.deg
  have hd1 := hMT.d1
  have hd5 := hMT.d560
  have hp1 := hMT.p1
  have hp7 := hMT.p70
  refine spec_of Tryd.func79 rfl Tryd.ntmps79 rfl ?_
  refine CW.seq ?_
  refine CW.reg [0, 1] rfl ?_
  refine s_alloc 6 rfl (fun _ _ => trivial) (fun rs => ?_)
  refine s_as 7 rfl rfl ?_
  refine SX.next ?_
  refine CW.seq ?_
  refine CW.reg [0, 1, 2, 3, 4, 5, 6, 7, 8, 9] rfl ?_
  refine s_mv 14 rfl rfl ?_
  refine s_mv 15 rfl rfl ?_
  refine s_call 16 rfl rfl rfl rfl (fun w hw => by have := rleast_ok m t w hm hMT.t1 hMT.t40 hd; rw [hdeg] at this; exact this) (fun _ _ => trivial) (fun z hz => ?_)
  refine s_mv 13 rfl rfl ?_
  refine s_ext 17 rfl rfl rfl ?_
  refine s_ext 18 rfl rfl rfl ?_
  refine s_ext 19 rfl rfl rfl ?_
  refine s_as 8 rfl rfl ?_
  refine s_as 9 rfl rfl ?_
  refine s_as 10 rfl rfl ?_
  refine SX.next ?_
  refine CW.seq ?_
  refine CW.seq ?_
  refine CW.reg [0, 1] rfl ?_
  refine s_mv 20 rfl rfl ?_
  refine s_ne 21 rfl rfl rfl (decide_eq_false (fun h => h rfl)) ?_
  refine SX.next ?_
  refine CW.condF rfl ?_
  refine CW.skip ?_
  refine KN.code ?_
  refine CW.seq ?_
  refine CW.seq ?_
  refine CW.reg [0, 1, 2, 3, 4, 5] rfl ?_
  refine s_mv 24 rfl rfl ?_
  refine s_lt 25 rfl rfl rfl (decide_eq_false (by omega)) ?_
  refine s_mv 26 rfl rfl ?_
  refine s_mv 27 rfl rfl ?_
  refine s_gt 28 rfl rfl rfl (decide_eq_false (by omega)) ?_
  refine s_pickF 29 rfl rfl rfl ?_
  refine SX.next ?_
  refine CW.condF rfl ?_
  refine CW.skip ?_
  refine KN.code ?_
  refine CW.seq ?_
  refine CW.seq ?_
  refine CW.reg [0, 1, 2, 3, 4, 5, 6, 7, 8] rfl ?_
  refine s_mv 31 rfl rfl ?_
  refine s_mul 32 rfl rfl rfl (r := ((8 * D : Nat) : Int)) (by rw [show (8 : Int) * ((D : Nat) : Int) = ((8 * D : Nat) : Int) by omega]; exact w64 (by omega)) ?_
  refine s_mv 33 rfl rfl ?_
  refine s_add 34 rfl rfl rfl (r := ((8 * D + dg m t : Nat) : Int)) (w64 (by omega)) ?_
  refine s_mv 35 rfl rfl ?_
  refine s_conv 36 rfl rfl (u64_nat hm) ?_
  refine s_shl 37 rfl rfl rfl (by omega) (shl_one hm) ?_
  refine s_sub 38 rfl rfl rfl (r := ((N m : Nat) : Int)) (by rw [show ((N m + 1 : Nat) : Int) - 1 = ((N m : Nat) : Int) by omega]; exact w64 (by omega)) ?_
  refine s_gt 39 rfl rfl rfl (decide_eq_true (by omega)) ?_
  refine SX.next ?_
  refine CW.condT rfl ?_
  refine CW.seq ?_
  refine CW.reg [0, 1, 2] rfl ?_
  refine s_build 40 rfl rfl (cells := refZ) rfl ?_
  refine s_stAll 1 rfl rfl (by kernel_rfl) rfl rfl rfl rfl (fun _ _ => trivial) ?_
  refine s_as 7 rfl rfl ?_
  refine SX.next ?_
  refine CW.ret ?_
  exact KN.retC (rs := [.cell 6 27, .tmp 7]) Tryd.results79 (fun w hw => ⟨[_, _], ⟨⟨_, rfl, hw.ldRow (q := 1) rfl (by rfl)⟩, rfl, trivial⟩, rfl, hw.nothing⟩)

theorem rNew_bad2 (m t D : Nat) (w : World) (hMT : MT m t) (hd : ¬ (ldr m t).2 < N m) : Spec1 Tryd.prog 79 [.int .i64 (m : Nat), .int .i64 (t : Nat), .int .i64 (D : Nat)] w (two (.agg refZ) (.int .i64 105)) := by
  refine spec_of Tryd.func79 rfl Tryd.ntmps79 rfl ?_
  refine CW.seq ?_
  refine CW.reg [0, 1] rfl ?_
  refine s_alloc 6 rfl (fun _ _ => trivial) (fun rs => ?_)
  refine s_as 7 rfl rfl ?_
  refine SX.next ?_
  refine CW.seq ?_
  refine CW.reg [0, 1, 2, 3, 4, 5, 6, 7, 8, 9] rfl ?_
  refine s_mv 14 rfl rfl ?_
  refine s_mv 15 rfl rfl ?_
  refine s_call1 16 rfl rfl rfl rfl (fun w hw => rleast_code m t w hMT.ok hMT.t1 hMT.t40 hd) (fun _ _ => trivial) ?_
  refine s_mv 13 rfl rfl ?_
  refine s_ext 17 rfl rfl rfl ?_
  refine s_ext 18 rfl rfl rfl ?_
  refine s_ext 19 rfl rfl rfl ?_
  refine s_as 8 rfl rfl ?_
  refine s_as 9 rfl rfl ?_
  refine s_as 10 rfl rfl ?_
  refine SX.next ?_
  refine CW.seq ?_
  refine CW.seq ?_
  refine CW.reg [0, 1] rfl ?_
  refine s_mv 20 rfl rfl ?_
  refine s_ne 21 rfl rfl rfl (decide_eq_true (by omega)) ?_
  refine SX.next ?_
  refine CW.condT rfl ?_
  refine CW.seq ?_
  refine CW.reg [0, 1, 2, 3] rfl ?_
  refine s_build 22 rfl rfl (cells := refZ) rfl ?_
  refine s_mv 23 rfl rfl ?_
  refine s_stAll 0 rfl rfl (by kernel_rfl) rfl rfl rfl rfl (fun _ _ => trivial) ?_
  refine s_as 7 rfl rfl ?_
  refine SX.next ?_
  refine CW.ret ?_
  exact KN.retC (rs := [.cell 6 27, .tmp 7]) Tryd.results79 (fun w hw => ⟨[_, _], ⟨⟨_, rfl, hw.ldRow (q := 0) rfl (by rfl)⟩, rfl, trivial⟩, rfl, hw.nothing⟩)

theorem rNew_bad (m t D : Nat) (w : World) (hMT : MT m t) (h1D : 1 ≤ D) (hDm : D ≤ 2048) (hfit : N m < 8 * D + dg m t) : Spec1 Tryd.prog 79 [.int .i64 (m : Nat), .int .i64 (t : Nat), .int .i64 (D : Nat)] w (two (.agg refZ) (.int .i64 105)) := by
  by_cases hd : (ldr m t).2 < N m
  · exact rNew_bad1 m t D w hMT h1D hDm hd hfit
  · exact rNew_bad2 m t D w hMT hd
/-- A code that was made, with the chapter's. -/
structure MadeG where
  c : Nat
  q : CodeG
  m : Nat
  t : Nat
  D : Nat
  g : Option Addr × Nat
structure MadeG.Fine (M T B : Nat) (z : MadeG) : Prop where
  ok : COk z.m z.t z.D
  q : z.q.Fine z.m z.t
  g : (gnB z.m z.t).length ≤ z.g.2
  mM : z.m ≤ M
  tT : z.t ≤ T
  dB : z.D ≤ B
  m6 : 6 ≤ z.m
def MadeG.val (z : MadeG) : Value := tri (.pointer (some ⟨z.c, 0, none⟩)) (.agg (refC z.m z.t z.D z.g)) (.bool true)
noncomputable def MadeG.mem (z : MadeG) : List Atom := [codeA z.c z.m z.t z.D z.q, genOf z.m z.t z.g]



theorem shalelaw7_fit (A : Option Addr) (n c : Nat) (p : List Nat) (k : Nat) (w : World) (ha : Has (sl 1 A n (nats .u8 p)) w) (_hp : ∀ x ∈ p, x < 256) (_hn : n ≤ 9223372036854775807) (hcp : n ≤ c) (hk : k ≤ 100000) : SpecB Tryd.prog 14 [.slice A n c, .int .i64 (k : Nat)] w (fitL p k) := by
  have hla := nats_len ha
  subst hla
  have hfl := fitL_len p k
  refine spec_of Tryd.func14 rfl Tryd.ntmps14 rfl ?_
  refine CW.seq ?_
  refine CW.reg [0] rfl ?_
  refine s_as 4 rfl rfl ?_
  refine SX.next ?_
  refine CW.seq ?_
  refine CW.reg [0, 1, 2] rfl ?_
  refine s_mv 6 rfl rfl ?_
  refine s_make 7 k rfl rfl rfl rfl rfl (by omega) (fun _ _ => trivial) (fun go => ?_)
  refine s_as 5 rfl rfl ?_
  refine SX.next ?_
  refine CW.seq ?_
  refine CW.reg [0, 1, 2] rfl ?_
  refine s_mv 8 rfl rfl ?_
  refine s_mv 9 rfl rfl ?_
  refine (s_copyB (ys := nats .u8 p) 0 (g := go) (off := 0) rfl rfl rfl rfl (fun _ => rfl) (fun w hw => hw.old ha) (nats_one _ _) (by simp) (fun _ _ => trivial) ?_)
  refine SX.next ?_
  refine CW.seq ?_
  refine CW.reg [0, 1] rfl ?_
  refine s_mv 11 rfl rfl ?_
  refine s_as 4 rfl rfl ?_
  refine SX.next ?_
  refine CW.ret ?_
  exact KN.ret (rs := [.tmp 4]) Tryd.results14 rfl (fun w hw => ⟨(some ⟨go, 0, none⟩, k), by rw [hfl]; rfl, by rw [hfl]; exact Nat.le_refl _, by
  rw [fit_cells] at hw
  rw [hfl]
  exact hw.blkOwn (q := 0) (c := k) (sz := 1) rfl (by simp [hfl]) (by unfold maxLen; omega)⟩)
end Go.Proofs.YtcdmmfpgeagimaaDoor
end
section
/- The chapter's examples and what the laws of chapter 6 lean on, walked. Conditions: the errors' variables. -/
namespace Go.Proofs.YtcdmmfpgeagimaaDoor
open Go Go.Sx Go.Fm Nb
set_option maxRecDepth 100000
/-- The sums of bytes, so far. -/
def fx (d e : List Nat) (i j : Nat) : Nat := if j < i then cf d j ^^^ cf e j else 0
def xorL (d e : List Nat) : List Nat := tb d.length (fun j => cf d j ^^^ cf e j)
theorem rPar_spec (m t D : Nat) (g : Option Addr × Nat) (w : World) (hMT : MT m t) : Spec1 Tryd.prog 12 [.agg (refC m t D g)] w (.int .i64 ((prB m t : Nat) : Int)) := by
  have hd5 := hMT.d560
  refine spec_of Tryd.func12 rfl Tryd.ntmps12 rfl ?_
  refine CW.seq ?_
  refine CW.reg [0, 1] rfl ?_
  refine s_box 1 rfl rfl (fun _ _ => trivial) (fun b => ?_)
  refine s_as 2 rfl rfl ?_
  refine SX.next ?_
  refine CW.seq ?_
  refine CW.reg [0, 1, 2, 3, 4] rfl ?_
  refine s_fa 3 rfl rfl ?_
  refine s_ldB 4 0 rfl rfl rfl rfl ?_
  refine s_add 5 rfl rfl rfl (r := ((dg m t + 7 : Nat) : Int)) (w64 (by omega)) ?_
  refine s_quo 6 rfl rfl rfl (by omega) (quo8 (dg m t + 7) (by omega)) ?_
  refine s_as 2 rfl rfl ?_
  refine SX.next ?_
  refine CW.ret ?_
  exact KN.ret (rs := [.tmp 2]) Tryd.results12 rfl (fun w hw => ⟨rfl, hw.nothing⟩)

theorem rBits_spec (m t D : Nat) (g : Option Addr × Nat) (w : World) (hMT : MT m t) (hDm : D ≤ 2048) : Spec1 Tryd.prog 18 [.agg (refC m t D g)] w (.int .i64 ((8 * D + dg m t : Nat) : Int)) := by
  have hd5 := hMT.d560
  refine spec_of Tryd.func18 rfl Tryd.ntmps18 rfl ?_
  refine CW.seq ?_
  refine CW.reg [0, 1] rfl ?_
  refine s_box 1 rfl rfl (fun _ _ => trivial) (fun b => ?_)
  refine s_as 2 rfl rfl ?_
  refine SX.next ?_
  refine CW.seq ?_
  refine CW.reg [0, 1, 2, 3, 4, 5, 6] rfl ?_
  refine s_fa 3 rfl rfl ?_
  refine s_ldB 4 0 rfl rfl rfl rfl ?_
  refine s_mul 5 rfl rfl rfl (r := ((8 * D : Nat) : Int)) (by rw [show (8 : Int) * ((D : Nat) : Int) = ((8 * D : Nat) : Int) by omega]; exact w64 (by omega)) ?_
  refine s_fa 6 rfl rfl ?_
  refine s_ldB 7 0 rfl rfl rfl rfl ?_
  refine s_add 8 rfl rfl rfl (r := ((8 * D + dg m t : Nat) : Int)) (w64 (by omega)) ?_
  refine s_as 2 rfl rfl ?_
  refine SX.next ?_
  refine CW.ret ?_
  exact KN.ret (rs := [.tmp 2]) Tryd.results18 rfl (fun w hw => ⟨rfl, hw.nothing⟩)
end Go.Proofs.YtcdmmfpgeagimaaDoor
end
section
/- How many places differ, walked; places turned. Conditions: the lists are read where they lie. -/
namespace Go.Proofs.YtcdmmfpgeagimaaDoor
open Go Go.Sx Go.Fm Nb
set_option maxRecDepth 100000
section
variable {m t D : Nat} (h : MT m t)
include h
omit h
end
end Go.Proofs.YtcdmmfpgeagimaaDoor
end
section
/- Values of words and of places. No program. -/
namespace Go.Proofs.YtcdmmfpgeagimaaDoor
open Go Go.Sx Go.Fm Nb
/-- The sum of the powers of some places. -/
def sv (m : Nat) (L : List Nat) (i : Nat) : Nat := xl L (fun p => exz m ((p * i : Nat) : Int))
def synL (m t : Nat) (L : List Nat) : List Nat := tb (2 * t) (fun i => sv m L (i + 1))
theorem synL_len (m t : Nat) (L : List Nat) : (synL m t L).length = 2 * t := tb_len _ _
theorem sv_lt {m : Nat} (hm : Ok m) (L : List Nat) (i : Nat) : sv m L i < 2 ^ m := xl_lt (fun _ _ => exz_lt hm _)
theorem sv_snoc (m : Nat) (L : List Nat) (p i : Nat) : sv m (L ++ [p]) i = sv m L i ^^^ exz m ((p * i : Nat) : Int) := xl_snoc _ _ _
theorem sv_sq {m : Nat} (hm : Ok m) (i : Nat) (L : List Nat) : gm m (sv m L i) (sv m L i) = sv m L (2 * i) :=
  snoc_ind (P := fun L => gm m (sv m L i) (sv m L i) = sv m L (2 * i)) (gm_zero_right m 0) (fun L p ih => by
    rw [sv_snoc, sv_snoc, sq_xor hm (sv_lt hm _ _) (exz_lt hm _), ih, exz_add hm]
    rw [Nat.two_mul, Nat.mul_add, Int.natCast_add]) L
/-- The numbers below n that are chosen. -/
def selL (f : Nat → Bool) : Nat → List Nat
  | 0 => []
  | k + 1 => selL f k ++ (if f k then [k] else [])
theorem sv_sel (m : Nat) (f : Nat → Bool) (i : Nat) : ∀ n, sv m (selL f n) i = xs (fun k => if f k then exz m ((k * i : Nat) : Int) else 0) n
  | 0 => rfl
  | n + 1 => by
    show sv m (selL f n ++ (if f n then [n] else [])) i = xs _ n ^^^ (if f n then exz m ((n * i : Nat) : Int) else 0)
    rw [← sv_sel m f i n]
    split
    · exact sv_snoc m _ _ _
    · rw [List.append_nil, Nat.xor_zero]
/-! ### Words -/
/-- A word's coefficient. -/
def wc (m t : Nat) (d p : List Nat) (k : Nat) : Nat := if k < dg m t then bitN p k else bitN d (k - dg m t)
theorem wc_lt (m t : Nat) (d p : List Nat) (k : Nat) : wc m t d p k < 2 := by unfold wc; split <;> exact bitN_lt _ _
def wf (m t : Nat) (d p : List Nat) (k : Nat) : Bool := decide (0 < wc m t d p k)
/-- Where a word is not 0. -/
def posL (m t : Nat) (d p : List Nat) (n : Nat) : List Nat := selL (wf m t d p) n
theorem posL_succ (m t : Nat) (d p : List Nat) (n : Nat) : posL m t d p (n + 1) = posL m t d p n ++ (if 0 < wc m t d p n then [n] else []) := by
  show selL _ n ++ _ = selL _ n ++ _
  congr 1
  unfold wf
  by_cases h : 0 < wc m t d p n
  · rw [if_pos (decide_eq_true h), if_pos h]
  · rw [if_neg (by simp [h]), if_neg h]
theorem evL_sel {m : Nat} (hm : Ok m) {W : List Nat} (hW : B1 W) {n : Nat} (hl : W.length ≤ n) (i : Nat) : evL m W (exz m (i : Nat)) = xs (fun k => if 0 < cf W k then exz m ((k * i : Nat) : Int) else 0) n := by
  have e1 : xs (fun k => gm m (cf W k) (fpw m (exz m (i : Nat)) k)) W.length = xs (fun k => gm m (cf W k) (fpw m (exz m (i : Nat)) k)) n := xs_any (fun k hk => by rw [cf_out hk, gm_zero_left]) (fun k hk => by rw [cf_out (by omega), gm_zero_left])
  rw [evL_xs hm (exz_lt hm _) (b1_tr hm hW).lt, e1]
  refine xs_congr (fun k _ => ?_)
  have := hW.le k
  rcases (show cf W k = 0 ∨ cf W k = 1 by omega) with h0 | h0
  · rw [h0, gm_zero_left, if_neg (by omega)]
  · rw [h0, if_pos (by omega), gm_comm hm (one_lt hm) (fpw_lt hm _ _), gm_one_right hm (fpw_lt hm _ _), exz_fpw hm]
    congr 1
    push_cast
    exact Int.mul_comm _ _
section
variable {m t : Nat} (h : MT m t)
include h
omit h
end
end Go.Proofs.YtcdmmfpgeagimaaDoor
end
section
/- Package syndrome, walked. Conditions: the code was made by New; the errors' variables. -/
namespace Go.Proofs.YtcdmmfpgeagimaaDoor
open Go Go.Sx Go.Fm Nb
set_option maxRecDepth 100000
theorem rI_at' {n i : Nat} {f : Nat → Nat} (h : i < n) : (nats .i64 (tb n f)).toArray[i]? = some (.int .i64 (f i : Nat)) := by
  rw [List.getElem?_toArray, nats, List.getElem?_map, tb_get h]
  rfl
def sI (n : Nat) (f : Nat → Nat) : Array Value := (nats .i64 (tb n f)).toArray
theorem sI_at {n i : Nat} {f : Nat → Nat} (h : i < n) : (sI n f)[i]? = some (.int .i64 (f i : Nat)) := rI_at' h
theorem sI_set (n : Nat) (f : Nat → Nat) (i v : Nat) : (sI n f).setIfInBounds i (.int .i64 (v : Nat)) = sI n (fun j => if j = i then v else f j) := by
  unfold sI
  rw [List.setIfInBounds_toArray, nats_set, tb_set]
theorem sI_size (n : Nat) (f : Nat → Nat) : (sI n f).size = n := by simp [sI, nats, tb_len]
theorem sI_zero (n : Nat) : (List.replicate n (Value.int .i64 0)).toArray = sI n (fun _ => 0) := by
  unfold sI tb nats
  rw [List.map_map]
  show _ = ((List.range n).map (fun _ => Value.int .i64 0)).toArray
  rw [List.map_const', List.length_range]
/-- The values, as far as they are summed. -/
def vq (m : Nat) (L : List Nat) (p i j : Nat) : Nat := if j < i then sv m (L ++ [p]) (j + 1) else sv m L (j + 1)
theorem vq_zero (m : Nat) (L : List Nat) (p : Nat) : vq m L p 0 = fun j => sv m L (j + 1) := by funext j; unfold vq; rw [if_neg (by omega)]
theorem vq_next (m : Nat) (L : List Nat) (p i : Nat) : (fun j => if j = i then sv m L (i + 1) ^^^ exz m ((p * (i + 1) : Nat) : Int) else vq m L p i j) = vq m L p (i + 1) := by
  funext j
  unfold vq
  by_cases h : j = i
  · subst h; rw [if_pos rfl, if_pos (by omega), sv_snoc]
  · rw [if_neg h]
    by_cases h2 : j < i
    · rw [if_pos h2, if_pos (by omega)]
    · rw [if_neg h2, if_neg (by omega)]
theorem vq_all (m t : Nat) (L : List Nat) (p : Nat) : sI (2 * t) (vq m L p (2 * t)) = sI (2 * t) (fun j => sv m (L ++ [p]) (j + 1)) := by
  unfold sI
  rw [tb_congr (fun i hi => by unfold vq; rw [if_pos hi])]
theorem sv_nil (m : Nat) : (fun j => sv m [] (j + 1)) = fun _ => 0 := rfl
theorem exz_step {m : Nat} (hm : Ok m) (p j : Nat) : gm m (exz m ((p * j : Nat) : Int)) (exz m (p : Nat)) = exz m ((p * (j + 1) : Nat) : Int) := by
  rw [exz_add hm, Nat.mul_succ, Int.natCast_add]

theorem values_spec (cc m t D : Nat) (q : CodeG) (A : Option Addr) (c : Nat) (l : List Nat) (w : World) (hMT : MT m t) (hcd : Has (codeA cc m t D q) w) (ha : Has (sl 1 A l.length (nats .i64 l)) w) (hln : l.length ≤ 1073741824) : SpecX Tryd.prog 84 [.pointer (some ⟨cc, 0, none⟩), .slice A l.length c] w (X := Option Addr × Nat) (fun z => .slice z.1 (synL m t l).length z.2) (fun z => (synL m t l).length ≤ z.2) (fun z => [own 3 1 z.1 (synL m t l).length z.2 (nats .i64 (synL m t l))]) := by
  obtain ⟨hcb, hgn, hlw, hfd, hst⟩ := code_at hcd
  have hm := hMT.ok
  have h40 := hMT.t40
  refine spec_of Tryd.func84 rfl Tryd.ntmps84 rfl ?_
  refine CW.seq ?_
  refine CW.reg [0] rfl ?_
  refine s_as 4 rfl rfl ?_
  refine SX.next ?_
  refine CW.seq ?_
  refine CW.reg [0, 1, 2, 3, 4] rfl ?_
  refine s_mv 13 rfl rfl ?_
  refine s_call1 14 rfl rfl rfl rfl (fun w hw => cT_spec cc m t D q w (hw.old hcd)) (fun _ _ => trivial) ?_
  refine s_mul 15 rfl rfl rfl (r := ((2 * t : Nat) : Int)) (by rw [show (2 : Int) * ((t : Nat) : Int) = ((2 * t : Nat) : Int) by omega]; exact w64 (by omega)) ?_
  refine s_make 16 (2 * t) rfl rfl rfl rfl rfl (by omega) (fun _ _ => trivial) (fun b => ?_)
  refine s_as 5 rfl rfl ?_
  refine SX.next ?_
  refine CW.seq ?_
  refine CW.reg [0, 1, 2] rfl ?_
  refine s_mv 17 rfl rfl ?_
  refine s_call1 18 rfl rfl rfl rfl (fun w hw => cField_spec cc m t D q w (hw.old hcd)) (fun _ _ => trivial) ?_
  refine s_as 6 rfl rfl ?_
  refine SX.next ?_
  refine CW.seq ?_
  refine CW.reg [0, 1, 2] rfl ?_
  refine s_mv 19 rfl rfl ?_
  refine s_mkf 20 rfl rfl rfl ?_
  refine s_as 7 rfl rfl ?_
  refine SX.next ?_
  refine CW.seq ?_
  refine CW.seq ?_
  refine CW.reg [0, 1, 2] rfl ?_
  refine s_mv 21 rfl rfl ?_
  refine s_len 22 rfl rfl ?_
  refine s_mv 23 rfl rfl ?_
  refine SX.next ?_
  refine CW.block ?_
  refine CW.loop (G := Nat) (fun i => [(5, .slice (some ⟨b, 0, none⟩) (2 * t) (2 * t)), (6, .pointer (some ⟨q.f, 0, none⟩)), (7, .func (.func 90) #[.pointer (some ⟨q.f, 0, none⟩)] #[]), (21, .slice A l.length c), (22, .int .i64 (l.length : Nat)), (23, .int .i64 (i : Nat))]) (fun i => Sto w [blk b 3 (sI (2 * t) (fun j => sv m (l.take i) (j + 1)))]) (fun i => i ≤ l.length) (fun i => l.length - i) 0 ⟨rfl, rfl, rfl, rfl, rfl, rfl, trivial⟩ (fun _ hw => by rw [List.take_zero, sv_nil, ← sI_zero]; exact hw) (Nat.zero_le _) ?_
  intro i hi
  refine CW.seq ?_
  refine CW.reg [0] rfl ?_
  refine s_lt 24 rfl rfl rfl rfl ?_
  refine SX.next ?_
  refine CW.seq ?_
  refine CW.test rfl (fun hc => ?_) (fun hc => ?_)
  · skip
    obtain ⟨p, hp⟩ : ∃ p, l[i]? = some p := ⟨_, List.getElem?_eq_getElem (by omega)⟩
    have htk : l.take (i + 1) = l.take i ++ [p] := by rw [List.take_add_one, hp]; rfl
    refine CW.skip ?_
    refine KN.code ?_
    refine CW.seq ?_
    refine CW.block ?_
    refine CW.seq ?_
    refine CW.reg [0, 1, 2] rfl ?_
    refine s_iaV 25 i (fun w hw => hw.old ha) rfl rfl rfl rfl (by omega) ?_
    refine s_ldV 26 (v := .int .i64 (p : Nat)) (fun w hw => hw.old ha) rfl rfl (by rw [Nat.mul_one, nats, List.getElem?_map, hp]; rfl) (by omega) ?_
    refine s_as 9 rfl rfl ?_
    refine SX.next ?_
    refine CW.seq ?_
    refine CW.reg [0, 1, 2, 3] rfl ?_
    refine s_mv 27 rfl rfl ?_
    refine s_mv 28 rfl rfl ?_
    refine s_call1 29 rfl rfl rfl rfl (v := .int .i64 (exz m (p : Nat) : Nat)) (fun w hw => exp_spec q.f m (p : Nat) w hm (hw.old hfd)) (fun _ _ => trivial) ?_
    refine s_as 10 rfl rfl ?_
    refine SX.next ?_
    refine CW.seq ?_
    refine CW.reg [0] rfl ?_
    refine s_as 11 rfl rfl ?_
    refine SX.next ?_
    refine CW.seq ?_
    refine CW.reg [0, 1, 2] rfl ?_
    refine s_mv 30 rfl rfl ?_
    refine s_len 31 rfl rfl ?_
    refine s_mv 32 rfl rfl ?_
    refine SX.next ?_
    refine CW.block ?_
    refine CW.loop (G := Nat) (fun j => [(5, .slice (some ⟨b, 0, none⟩) (2 * t) (2 * t)), (6, .pointer (some ⟨q.f, 0, none⟩)), (7, .func (.func 90) #[.pointer (some ⟨q.f, 0, none⟩)] #[]), (10, .int .i64 (exz m (p : Nat) : Nat)), (11, .int .i64 (exz m ((p * j : Nat) : Int) : Nat)), (21, .slice A l.length c), (22, .int .i64 (l.length : Nat)), (23, .int .i64 (i : Nat)), (31, .int .i64 (2 * t : Nat)), (32, .int .i64 (j : Nat))]) (fun j => Sto w [blk b 3 (sI (2 * t) (vq m (l.take i) p j))]) (fun j => j ≤ 2 * t) (fun j => 2 * t - j) 0 ⟨rfl, rfl, rfl, rfl, by rw [Nat.mul_zero, show ((0 : Nat) : Int) = 0 from rfl, exz_zero hm]; rfl, rfl, rfl, rfl, rfl, rfl, trivial⟩ (fun _ hw => by rw [vq_zero]; exact hw) (Nat.zero_le _) ?_
    intro j hj
    have hx1 := exz_lt hm ((p * (j + 1) : Nat) : Int)
    have hx0 := exz_lt hm ((p * j : Nat) : Int)
    have hxs := exz_lt hm (p : Nat)
    have hsv := sv_lt hm (l.take i) (j + 1)
    refine CW.seq ?_
    refine CW.reg [0] rfl ?_
    refine s_lt 33 rfl rfl rfl rfl ?_
    refine SX.next ?_
    refine CW.seq ?_
    refine CW.test rfl (fun hc => ?_) (fun hc => ?_)
    · skip
      refine CW.skip ?_
      refine KN.code ?_
      refine CW.seq ?_
      refine CW.block ?_
      refine CW.seq ?_
      refine CW.reg [0, 1] rfl ?_
      refine s_mv 34 rfl rfl ?_
      refine s_as 12 rfl rfl ?_
      refine SX.next ?_
      refine CW.seq ?_
      refine CW.reg [0, 1, 2, 3, 4] rfl ?_
      refine s_mv 35 rfl rfl ?_
      refine s_mv 36 rfl rfl ?_
      refine s_mv 37 rfl rfl ?_
      refine s_call1 38 rfl rfl rfl rfl (v := .int .i64 (exz m ((p * (j + 1) : Nat) : Int) : Nat)) (fun w hw => by have := mul_spec q.f m (exz m ((p * j : Nat) : Int) : Nat) (exz m (p : Nat) : Nat) w hm (hw.old hfd); rw [lo_nat hx0, lo_nat hxs, exz_step hm] at this; exact this) (fun _ _ => trivial) ?_
      refine s_as 11 rfl rfl ?_
      refine SX.next ?_
      refine CW.reg [0, 1, 2, 3, 4, 5, 6, 7, 8, 9, 10] rfl ?_
      refine s_mv 39 rfl rfl ?_
      refine s_mv 40 rfl rfl ?_
      refine s_mv 41 rfl rfl ?_
      refine s_mv 42 rfl rfl ?_
      refine s_mv 43 rfl rfl ?_
      refine s_ia0 44 j rfl rfl rfl rfl (by omega) ?_
      refine s_ldB 45 0 rfl rfl rfl (v := .int .i64 (sv m (l.take i) (j + 1) : Nat)) (by rw [sI_at (by omega)]; unfold vq; rw [if_neg (by omega)]) ?_
      refine s_mv 46 rfl rfl ?_
      refine s_call1 47 rfl rfl rfl rfl (v := .int .i64 ((sv m (l.take i) (j + 1) ^^^ exz m ((p * (j + 1) : Nat) : Int) : Nat) : Int)) (fun w hw => by have := add_spec q.f m (sv m (l.take i) (j + 1) : Nat) (exz m ((p * (j + 1) : Nat) : Int) : Nat) w hm (hw.old hfd); rw [lo_nat hsv, lo_nat hx1] at this; exact this) (fun _ _ => trivial) ?_
      refine s_ia0 48 j rfl rfl rfl rfl (by omega) ?_
      refine s_stB 0 rfl rfl rfl rfl rfl (by rw [sI_size]; omega) (fun _ _ => trivial) ?_
      refine SX.end_ ?_
      refine KN.blk ?_
      refine KN.code ?_
      refine CW.reg [0, 1] rfl ?_
      refine s_add 49 rfl rfl rfl (r := ((j + 1 : Nat) : Int)) (w64 (by omega)) ?_
      refine s_mv 32 rfl rfl ?_
      refine SX.end_ ?_
      exact KN.back (j + 1) ⟨rfl, rfl, rfl, rfl, rfl, rfl, rfl, rfl, rfl, rfl, trivial⟩ (fun _ hw => by rw [← vq_next, ← sI_set]; exact hw) (by omega) (by omega)
    · skip
      obtain rfl : j = 2 * t := by omega
      refine CW.exit rfl ?_
      refine KN.blk ?_
      refine KN.code ?_
      refine CW.reg [0, 1] rfl ?_
      refine s_add 50 rfl rfl rfl (r := ((i + 1 : Nat) : Int)) (w64 (by omega)) ?_
      refine s_mv 23 rfl rfl ?_
      refine SX.end_ ?_
      exact KN.back (i + 1) ⟨rfl, rfl, rfl, rfl, rfl, rfl, trivial⟩ (fun _ hw => by rw [htk, ← vq_all]; exact hw) (by omega) (by omega)
  · skip
    obtain rfl : i = l.length := by omega
    refine CW.exit rfl ?_
    refine KN.code ?_
    refine CW.seq ?_
    refine CW.reg [0, 1] rfl ?_
    refine s_mv 51 rfl rfl ?_
    refine s_as 4 rfl rfl ?_
    refine SX.next ?_
    refine CW.ret ?_
    exact KN.ret (rs := [.tmp 4]) Tryd.results84 rfl (fun w hw => ⟨(some ⟨b, 0, none⟩, 2 * t), by rw [synL_len]; rfl, by rw [synL_len]; exact Nat.le_refl _, by
  rw [List.take_length] at hw
  rw [synL_len]
  exact hw.blkOwn (q := 0) (c := 2 * t) (sz := 1) rfl (by simp [synL_len]) (by unfold maxLen; omega)⟩)

theorem of7_ok (cc m t D : Nat) (q : CodeG) (A : Option Addr) (n c : Nat) (p : List Nat) (A2 : Option Addr) (n2 c2 : Nat) (p2 : List Nat) (w : World) (hMT : MT m t) (hDm : D ≤ 2048) (hcd : Has (codeA cc m t D q) w) (ha : Has (sl 1 A n (nats .u8 p)) w) (hp : ∀ x ∈ p, x < 256) (hn : n ≤ 1073741824) (hcp : n ≤ c) (ha2 : Has (sl 1 A2 n2 (nats .u8 p2)) w) (hp2 : ∀ x ∈ p2, x < 256) (hn2 : n2 ≤ 1073741824) (hcp2 : n2 ≤ c2) (hnD : n = D) (hn2 : n2 = prB m t) : SpecX Tryd.prog 13 [.pointer (some ⟨cc, 0, none⟩), .slice A n c, .slice A2 n2 c2] w (X := Option Addr × Nat) (fun z => two (.slice z.1 (synL m t (posL m t p p2 (8 * D + dg m t))).length z.2) .nilIface) (fun z => (synL m t (posL m t p p2 (8 * D + dg m t))).length ≤ z.2) (fun z => [own 3 1 z.1 (synL m t (posL m t p p2 (8 * D + dg m t))).length z.2 (nats .i64 (synL m t (posL m t p p2 (8 * D + dg m t))))]) := by
  have hla := nats_len ha
  subst hla
  have hla2 := nats_len ha2
  subst hla2
  have hd5 := hMT.d560
  have hpd := prB_dg m t
  refine spec_of Tryd.func13 rfl Tryd.ntmps13 rfl ?_
  refine CW.seq ?_
  refine CW.reg [0, 1] rfl ?_
  refine s_as 6 rfl rfl ?_
  refine s_as 7 rfl rfl ?_
  refine SX.next ?_
  refine CW.seq ?_
  refine CW.seq ?_
  refine CW.reg [0, 1, 2, 3, 4, 5, 6, 7, 8, 9, 10, 11] rfl ?_
  refine s_mv 12 rfl rfl ?_
  refine s_len 13 rfl rfl ?_
  refine s_mv 14 rfl rfl ?_
  refine s_call1 15 rfl rfl rfl rfl (fun w hw => cData_spec cc m t D q w (hw.old hcd)) (fun _ _ => trivial) ?_
  refine s_ne 16 rfl rfl rfl (decide_eq_false (by omega)) ?_
  refine s_mv 17 rfl rfl ?_
  refine s_mv 18 rfl rfl ?_
  refine s_len 19 rfl rfl ?_
  refine s_mv 20 rfl rfl ?_
  refine s_call1 21 rfl rfl rfl rfl (fun w hw => cPar_spec cc m t D q w (hw.old hcd)) (fun _ _ => trivial) ?_
  refine s_ne 22 rfl rfl rfl (decide_eq_false (by omega)) ?_
  refine s_pickF 23 rfl rfl rfl ?_
  refine SX.next ?_
  refine CW.condF rfl ?_
  refine CW.skip ?_
  refine KN.code ?_
  refine CW.seq ?_
  refine CW.reg [0] rfl ?_
  refine s_as 8 rfl rfl ?_
  refine SX.next ?_
  refine CW.seq ?_
  refine CW.seq ?_
  refine CW.reg [0, 1, 2] rfl ?_
  refine s_mv 25 rfl rfl ?_
  refine s_call1 26 rfl rfl rfl rfl (fun w hw => cBits_spec cc m t D q w hMT hDm (hw.old hcd)) (fun _ _ => trivial) ?_
  refine s_mv 27 rfl rfl ?_
  refine SX.next ?_
  refine CW.block ?_
  refine CW.loop (G := Nat × Option Addr × Nat) (fun z => [(0, .pointer (some ⟨cc, 0, none⟩)), (1, .slice A p.length c), (2, .slice A2 p2.length c2), (8, .slice z.2.1 (posL m t p p2 z.1).length z.2.2), (26, .int .i64 (8 * D + dg m t : Nat)), (27, .int .i64 (z.1 : Nat))]) (fun z => Sto w [own 3 1 z.2.1 (posL m t p p2 z.1).length z.2.2 (nats .i64 (posL m t p p2 z.1))]) (fun z => z.1 ≤ 8 * D + dg m t ∧ (posL m t p p2 z.1).length ≤ z.2.2 ∧ (posL m t p p2 z.1).length ≤ z.1) (fun z => 8 * D + dg m t - z.1) (0, none, 0) ⟨rfl, rfl, rfl, rfl, rfl, rfl, trivial⟩ (fun _ hw => hw.begin_ 3 1) ⟨Nat.zero_le _, Nat.le_refl _, Nat.le_refl _⟩ ?_
  rintro ⟨i, za, zc⟩ ⟨hi, hzc, hzl⟩
  simp only at hi hzc hzl
  dsimp only
  have hps := posL_succ m t p p2 i
  refine CW.seq ?_
  refine CW.reg [0] rfl ?_
  refine s_lt 28 rfl rfl rfl rfl ?_
  refine SX.next ?_
  refine CW.seq ?_
  refine CW.test rfl (fun hc => ?_) (fun hc => ?_)
  · skip
    refine CW.skip ?_
    refine KN.code ?_
    refine CW.seq ?_
    refine CW.block ?_
    refine CW.seq ?_
    refine CW.reg [0, 1] rfl ?_
    refine s_mv 29 rfl rfl ?_
    refine s_as 9 rfl rfl ?_
    refine SX.next ?_
    refine CW.seq ?_
    refine CW.reg [0, 1, 2, 3] rfl ?_
    refine s_mv 30 rfl rfl ?_
    refine s_mv 31 rfl rfl ?_
    refine s_as 10 rfl rfl ?_
    refine s_as 11 rfl rfl ?_
    refine SX.next ?_
    refine CW.cut (G := BlG × Nat) (fun y => [(0, .pointer (some ⟨cc, 0, none⟩)), (1, .slice A p.length c), (2, .slice A2 p2.length c2), (8, .slice za (posL m t p p2 i).length zc), (9, .int .i64 (i : Nat)), (10, .slice y.1.A y.1.l.length y.1.c), (11, .int .i64 (y.2 : Nat)), (26, .int .i64 (8 * D + dg m t : Nat)), (27, .int .i64 (i : Nat))]) (fun _ => Sto w [own 3 1 za (posL m t p p2 i).length zc (nats .i64 (posL m t p p2 i))]) (fun y => Has (sl 1 y.1.A y.1.l.length (nats .u8 y.1.l)) w ∧ (∀ x ∈ y.1.l, x < 256) ∧ y.2 < 8 * y.1.l.length ∧ y.2 < 20000 ∧ bitN y.1.l y.2 = (wc m t p p2 i)) ?_ ?_
    · skip
      refine CW.seq ?_
      refine CW.reg [0, 1, 2, 3] rfl ?_
      refine s_mv 32 rfl rfl ?_
      refine s_mv 33 rfl rfl ?_
      refine s_call1 34 rfl rfl rfl rfl (fun w hw => cDeg_spec cc m t D q w (hw.old hcd)) (fun _ _ => trivial) ?_
      refine s_ge 35 rfl rfl rfl rfl ?_
      refine SX.next ?_
      refine CW.test rfl (fun hc => ?_) (fun hc => ?_)
      · skip
        have hdk : dg m t ≤ i := by omega
        refine CW.reg [0, 1, 2, 3, 4, 5, 6] rfl ?_
        refine s_mv 36 rfl rfl ?_
        refine s_mv 37 rfl rfl ?_
        refine s_mv 38 rfl rfl ?_
        refine s_call1 39 rfl rfl rfl rfl (fun w hw => cDeg_spec cc m t D q w (hw.old hcd)) (fun _ _ => trivial) ?_
        refine s_sub 40 rfl rfl rfl (r := ((i - dg m t : Nat) : Int)) (by rw [show ((i : Nat) : Int) - ((dg m t : Nat) : Int) = ((i - dg m t : Nat) : Int) by omega]; exact w64 (by omega)) ?_
        refine s_as 10 rfl rfl ?_
        refine s_as 11 rfl rfl ?_
        refine SX.end_ ?_
        exact KN.join (⟨A, c, p⟩, i - dg m t) ⟨rfl, rfl, rfl, rfl, rfl, rfl, rfl, rfl, rfl, trivial⟩ (fun _ hw => hw) ⟨ha, hp, by simp only; omega, by simp only; omega, by unfold wc; rw [if_neg (by omega)]⟩
      · skip
        refine CW.skip ?_
        exact KN.join (⟨A2, c2, p2⟩, i) ⟨rfl, rfl, rfl, rfl, rfl, rfl, rfl, rfl, rfl, trivial⟩ (fun _ hw => hw) ⟨ha2, hp2, by simp only; omega, by simp only; omega, by unfold wc; rw [if_pos (by omega)]⟩
    · skip
      rintro ⟨⟨A3, c3, l3⟩, k⟩ ⟨h3, hl3, hk1, hk2, hbk⟩
      simp only at h3 hl3 hk1 hk2 hbk
      have hbu : (cf l3 (k / 8) >>> (k % 8)) % 2 = wc m t p p2 i := hbk
      have hw2 := wc_lt m t p p2 i
      refine CW.seq ?_
      refine CW.reg [0, 1, 2, 3, 4, 5, 6, 7, 8, 9] rfl ?_
      refine s_mv 41 rfl rfl ?_
      refine s_mv 42 rfl rfl ?_
      refine s_quo 43 rfl rfl rfl (by omega) (quo8 k (by omega)) ?_
      refine s_iaV 44 (k / 8) (fun w hw => hw.old h3) rfl rfl rfl rfl (by omega) ?_
      refine s_ldV 45 (fun w hw => hw.old h3) rfl rfl (by rw [Nat.mul_one]; exact natsAt8 (by omega)) (by omega) ?_
      refine s_mv 46 rfl rfl ?_
      refine s_rem 47 rfl rfl rfl (by omega) (tmod8 k) ?_
      refine s_shr 48 rfl rfl rfl (by omega) (shr_u8 (by omega)) ?_
      refine s_bit 49 rfl rfl rfl rfl (r := ((wc m t p p2 i : Nat) : Int)) (by rw [ibit_and1_u8 (shr8 (cf_lt8 hl3 _) _), hbu]) ?_
      refine s_gt 50 rfl rfl rfl rfl ?_
      refine SX.next ?_
      refine CW.test rfl (fun hc => ?_) (fun hc => ?_)
      · skip
        rw [if_pos (by omega)] at hps
        refine CW.reg [0, 1, 2, 3, 4] rfl ?_
        refine s_mv 51 rfl rfl ?_
        refine s_mv 52 rfl rfl ?_
        refine s_bsl 53 rfl rfl (cells := #[.int .i64 ((i : Nat) : Int)]) (by kernel_rfl) rfl (fun _ _ => trivial) (fun gb => ?_)
        refine s_app 54 1 rfl rfl rfl rfl (ys := [.int .i64 ((i : Nat) : Int)]) (fun w hw => Has.cong ((hw.has (i := 0) rfl).blk_sl (m := 1) rfl) rfl) rfl rfl (by omega) (by unfold maxLen; omega) (by omega) (fun _ _ _ _ => trivial) (fun A2 c2 hc2 => ?_)
        refine s_as 8 rfl rfl ?_
        refine SX.end_ ?_
        refine KN.blk ?_
        refine KN.code ?_
        refine CW.reg [0, 1] rfl ?_
        refine s_add 55 rfl rfl rfl (r := ((i + 1 : Nat) : Int)) (w64 (by omega)) ?_
        refine s_mv 27 rfl rfl ?_
        refine SX.end_ ?_
        exact KN.back (i + 1, A2, c2) ⟨rfl, rfl, rfl, by simp only [hps, List.length_append, List.length_singleton]; rfl, rfl, rfl, trivial⟩ (fun _ hw => by
          simp only [hps, List.length_append, List.length_singleton]
          rw [← nats_snoc]
          exact hw.pick [1] rfl) ⟨by simp only; omega, by simp only [hps, List.length_append, List.length_singleton]; omega, by simp only [hps, List.length_append, List.length_singleton]; omega⟩ (by simp only; omega)
      · skip
        rw [if_neg (by omega), List.append_nil] at hps
        refine CW.skip ?_
        refine KN.blk ?_
        refine KN.code ?_
        refine CW.reg [0, 1] rfl ?_
        refine s_add 55 rfl rfl rfl (r := ((i + 1 : Nat) : Int)) (w64 (by omega)) ?_
        refine s_mv 27 rfl rfl ?_
        refine SX.end_ ?_
        exact KN.back (i + 1, za, zc) ⟨rfl, rfl, rfl, by simp only [hps]; rfl, rfl, rfl, trivial⟩ (fun _ hw => by simp only [hps]; exact hw) ⟨by simp only; omega, by simp only [hps]; exact hzc, by simp only [hps]; omega⟩ (by simp only; omega)
  · skip
    obtain rfl : i = 8 * D + dg m t := by omega
    refine CW.exit rfl ?_
    refine KN.code ?_
    refine CW.seq ?_
    refine CW.reg [0, 1, 2, 3, 4] rfl ?_
    refine s_mv 56 rfl rfl ?_
    refine s_mv 57 rfl rfl ?_
    refine s_call 58 rfl rfl rfl rfl (fun w hw => values_spec cc m t D q za zc (posL m t p p2 (8 * D + dg m t)) w hMT (hw.old hcd) ((hw.has (i := 0) rfl).of_own) (by omega)) (fun _ _ => trivial) (fun z hz => ?_)
    refine s_as 6 rfl rfl ?_
    refine s_as 7 rfl rfl ?_
    refine SX.next ?_
    refine CW.ret ?_
    exact KN.ret (rs := [.tmp 6, .tmp 7]) Tryd.results13 rfl (fun w hw => ⟨z, rfl, hz, hw.pick [0] rfl⟩)
end Go.Proofs.YtcdmmfpgeagimaaDoor
end
section
/- Package syndrome: places, sums, what is asked of values; the laws' own helpers, walked. Conditions: the errors' variables. -/
namespace Go.Proofs.YtcdmmfpgeagimaaDoor
open Go Go.Sx Go.Fm Nb
set_option maxRecDepth 100000
theorem mt72 : MT 7 2 := ⟨⟨by decide, by decide⟩, by decide, by decide⟩
theorem dg72 : dg 7 2 = 14 := by rw [← mt72.deg]; decide +kernel
theorem cok72 : COk 7 2 5 := ⟨mt72, by decide, by decide, by rw [dg72]; decide⟩

theorem of7_long (cc m t D : Nat) (q : CodeG) (A : Option Addr) (n c : Nat) (_p : List Nat) (A2 : Option Addr) (n2 c2 : Nat) (_p2 : List Nat) (e : Nat → Addr) (w : World) (hcd : Has (codeA cc m t D q) w) (heL : Er e w 0) (hnD : n ≠ D ∨ n2 ≠ prB m t) : Spec1 Tryd.prog 13 [.pointer (some ⟨cc, 0, none⟩), .slice A n c, .slice A2 n2 c2] w (errRes e 0) := by
  refine spec_of Tryd.func13 rfl Tryd.ntmps13 rfl ?_
  refine CW.seq ?_
  refine CW.reg [0, 1] rfl ?_
  refine s_as 6 rfl rfl ?_
  refine s_as 7 rfl rfl ?_
  refine SX.next ?_
  refine CW.seq ?_
  refine CW.seq ?_
  refine CW.reg [0, 1, 2, 3, 4, 5, 6, 7, 8, 9, 10, 11] rfl ?_
  refine s_mv 12 rfl rfl ?_
  refine s_len 13 rfl rfl ?_
  refine s_mv 14 rfl rfl ?_
  refine s_call1 15 rfl rfl rfl rfl (fun w hw => cData_spec cc m t D q w (hw.old hcd)) (fun _ _ => trivial) ?_
  refine s_ne 16 rfl rfl rfl rfl ?_
  refine s_mv 17 rfl rfl ?_
  refine SX.bool 17 rfl (fun hb => ?_) (fun hb => ?_)
  · skip
    skip
    refine SX.skip rfl ?_
    refine SX.skip rfl ?_
    refine SX.skip rfl ?_
    refine SX.skip rfl ?_
    refine SX.skip rfl ?_
    refine s_pickT 23 rfl rfl rfl ?_
    refine SX.next ?_
    refine CW.condT rfl ?_
    refine CW.seq ?_
    refine CW.regD (.st true 0 (.st true 1 (.st true 2 .done))) (Sto w []) mixed (by kernel_rfl) (fun _ h => h.drew) (fun _ h => h) ?_
    refine s_ldS 24 rfl rfl (fun _ h => h.cell heL) ?_
    refine s_as 6 rfl rfl ?_
    refine s_as 7 rfl rfl ?_
    refine SX.next ?_
    refine CW.ret ?_
    exact KN.ret (rs := [.tmp 6, .tmp 7]) Tryd.results13 rfl (fun w hw => ⟨rfl, hw.nothing⟩)
  · skip
    have hx := of_decide_eq_false hb
    refine s_mv 18 rfl rfl ?_
    refine s_len 19 rfl rfl ?_
    refine s_mv 20 rfl rfl ?_
    refine s_call1 21 rfl rfl rfl rfl (fun w hw => cPar_spec cc m t D q w (hw.old hcd)) (fun _ _ => trivial) ?_
    refine s_ne 22 rfl rfl rfl (decide_eq_true (by omega)) ?_
    refine s_pickF 23 rfl rfl rfl ?_
    refine SX.next ?_
    refine CW.condT rfl ?_
    refine CW.seq ?_
    refine CW.regD (.st true 0 (.st true 1 (.st true 2 .done))) (Sto w []) mixed (by kernel_rfl) (fun _ h => h.drew) (fun _ h => h) ?_
    refine s_ldS 24 rfl rfl (fun _ h => h.cell heL) ?_
    refine s_as 6 rfl rfl ?_
    refine s_as 7 rfl rfl ?_
    refine SX.next ?_
    refine CW.ret ?_
    exact KN.ret (rs := [.tmp 6, .tmp 7]) Tryd.results13 rfl (fun w hw => ⟨rfl, hw.nothing⟩)

theorem bits7_ok (cc m t D : Nat) (q : CodeG) (A : Option Addr) (c : Nat) (l : List Nat) (w : World) (hMT : MT m t) (hDm : D ≤ 2048) (hcd : Has (codeA cc m t D q) w) (ha : Has (sl 1 A l.length (nats .i64 l)) w) (hln : l.length ≤ 1073741824) (hall : ∀ x ∈ l, x < 8 * D + dg m t) : SpecX Tryd.prog 17 [.pointer (some ⟨cc, 0, none⟩), .slice A l.length c] w (X := Option Addr × Nat) (fun z => two (.slice z.1 (synL m t l).length z.2) .nilIface) (fun z => (synL m t l).length ≤ z.2) (fun z => [own 3 1 z.1 (synL m t l).length z.2 (nats .i64 (synL m t l))]) := by
  have hd5 := hMT.d560
  refine spec_of Tryd.func17 rfl Tryd.ntmps17 rfl ?_
  refine CW.seq ?_
  refine CW.reg [0, 1] rfl ?_
  refine s_as 4 rfl rfl ?_
  refine s_as 5 rfl rfl ?_
  refine SX.next ?_
  refine CW.seq ?_
  refine CW.seq ?_
  refine CW.reg [0, 1, 2] rfl ?_
  refine s_mv 8 rfl rfl ?_
  refine s_len 9 rfl rfl ?_
  refine s_mv 10 rfl rfl ?_
  refine SX.next ?_
  refine CW.block ?_
  refine CW.loop (G := Nat) (fun i => [(0, .pointer (some ⟨cc, 0, none⟩)), (1, .slice A l.length c), (8, .slice A l.length c), (9, .int .i64 (l.length : Nat)), (10, .int .i64 (i : Nat))]) (fun _ => Sto w []) (fun i => i ≤ l.length) (fun i => l.length - i) 0 ⟨rfl, rfl, rfl, rfl, rfl, trivial⟩ (fun _ hw => hw) (Nat.zero_le _) ?_
  intro i hi
  refine CW.seq ?_
  refine CW.reg [0] rfl ?_
  refine s_lt 11 rfl rfl rfl rfl ?_
  refine SX.next ?_
  refine CW.seq ?_
  refine CW.test rfl (fun hc => ?_) (fun hc => ?_)
  · skip
    have hil : i < l.length := by omega
    have hcl := hall _ (cf_mem hil)
    refine CW.skip ?_
    refine KN.code ?_
    refine CW.seq ?_
    refine CW.block ?_
    refine CW.seq ?_
    refine CW.reg [0, 1, 2] rfl ?_
    refine s_iaV 12 i (fun w hw => hw.old ha) rfl rfl rfl rfl (by omega) ?_
    refine s_ldV 13 (fun w hw => hw.old ha) rfl rfl (by rw [Nat.mul_one]; exact natsAtC hil) (by omega) ?_
    refine s_as 7 rfl rfl ?_
    refine SX.next ?_
    refine CW.seq ?_
    refine CW.reg [0, 1, 2, 3, 4, 5, 6, 7] rfl ?_
    refine s_mv 14 rfl rfl ?_
    refine s_lt 15 rfl rfl rfl (decide_eq_false (by omega)) ?_
    refine s_mv 16 rfl rfl ?_
    refine s_mv 17 rfl rfl ?_
    refine s_mv 18 rfl rfl ?_
    refine s_call1 19 rfl rfl rfl rfl (fun w hw => cBits_spec cc m t D q w hMT hDm (hw.old hcd)) (fun _ _ => trivial) ?_
    refine s_ge 20 rfl rfl rfl (decide_eq_false (by omega)) ?_
    refine s_pickF 21 rfl rfl rfl ?_
    refine SX.next ?_
    refine CW.condF rfl ?_
    refine CW.skip ?_
    refine KN.blk ?_
    refine KN.code ?_
    refine CW.reg [0, 1] rfl ?_
    refine s_add 23 rfl rfl rfl (r := ((i + 1 : Nat) : Int)) (w64 (by omega)) ?_
    refine s_mv 10 rfl rfl ?_
    refine SX.end_ ?_
    exact KN.back (i + 1) ⟨rfl, rfl, rfl, rfl, rfl, trivial⟩ (fun _ hw => hw) (by omega) (by omega)
  · skip
    refine CW.exit rfl ?_
    refine KN.code ?_
    refine CW.seq ?_
    refine CW.reg [0, 1, 2, 3, 4] rfl ?_
    refine s_mv 24 rfl rfl ?_
    refine s_mv 25 rfl rfl ?_
    refine s_call 26 rfl rfl rfl rfl (fun w hw => values_spec cc m t D q A c l w hMT (hw.old hcd) (hw.old ha) hln) (fun _ _ => trivial) (fun z hz => ?_)
    refine s_as 4 rfl rfl ?_
    refine s_as 5 rfl rfl ?_
    refine SX.next ?_
    refine CW.ret ?_
    exact KN.ret (rs := [.tmp 4, .tmp 5]) Tryd.results17 rfl (fun w hw => ⟨z, rfl, hz, hw⟩)

theorem bits7_num (cc m t D : Nat) (q : CodeG) (A : Option Addr) (n c : Nat) (l : List Int) (j : Nat) (e : Nat → Addr) (w : World) (hMT : MT m t) (hDm : D ≤ 2048) (hcd : Has (codeA cc m t D q) w) (ha : Has (sl 1 A n (ints .i64 l)) w) (hn : n ≤ 1073741824) (heN : Er e w 1) (hj : j < n) (hgood : ∀ i, i < j → 0 ≤ l.getD i 0 ∧ l.getD i 0 < ((8 * D + dg m t : Nat) : Int)) (hbad : l.getD j 0 < 0 ∨ ((8 * D + dg m t : Nat) : Int) ≤ l.getD j 0) : Spec1 Tryd.prog 17 [.pointer (some ⟨cc, 0, none⟩), .slice A n c] w (errRes e 1) := by
  have hla := ints_len ha
  subst hla
  have hd5 := hMT.d560
  refine spec_of Tryd.func17 rfl Tryd.ntmps17 rfl ?_
  refine CW.seq ?_
  refine CW.reg [0, 1] rfl ?_
  refine s_as 4 rfl rfl ?_
  refine s_as 5 rfl rfl ?_
  refine SX.next ?_
  refine CW.seq ?_
  refine CW.seq ?_
  refine CW.reg [0, 1, 2] rfl ?_
  refine s_mv 8 rfl rfl ?_
  refine s_len 9 rfl rfl ?_
  refine s_mv 10 rfl rfl ?_
  refine SX.next ?_
  refine CW.block ?_
  refine CW.loop (G := Nat) (fun i => [(0, .pointer (some ⟨cc, 0, none⟩)), (1, .slice A l.length c), (8, .slice A l.length c), (9, .int .i64 (l.length : Nat)), (10, .int .i64 (i : Nat))]) (fun _ => Sto w []) (fun i => i ≤ j) (fun i => l.length - i) 0 ⟨rfl, rfl, rfl, rfl, rfl, trivial⟩ (fun _ hw => hw) (Nat.zero_le _) ?_
  intro i hi
  refine CW.seq ?_
  refine CW.reg [0] rfl ?_
  refine s_lt 11 rfl rfl rfl (decide_eq_true (by omega)) ?_
  refine SX.next ?_
  refine CW.seq ?_
  refine CW.condT rfl ?_
  refine CW.skip ?_
  refine KN.code ?_
  refine CW.seq ?_
  refine CW.block ?_
  refine CW.seq ?_
  refine CW.reg [0, 1, 2] rfl ?_
  refine s_iaV 12 i (fun w hw => hw.old ha) rfl rfl rfl rfl (by omega) ?_
  refine s_ldV 13 (fun w hw => hw.old ha) rfl rfl (by rw [Nat.mul_one]; exact intsAt (by omega)) (by omega) ?_
  refine s_as 7 rfl rfl ?_
  refine SX.next ?_
  refine CW.seq ?_
  refine CW.reg [0, 1, 2, 3, 4, 5, 6, 7] rfl ?_
  refine s_mv 14 rfl rfl ?_
  refine s_lt 15 rfl rfl rfl rfl ?_
  refine s_mv 16 rfl rfl ?_
  refine SX.bool 16 rfl (fun hb => ?_) (fun hb => ?_)
  · skip
    replace hb := of_decide_eq_true hb
    obtain rfl : i = j := Classical.byContradiction fun hne => by have := hgood i (by omega); omega
    refine SX.skip rfl ?_
    refine SX.skip rfl ?_
    refine SX.skip rfl ?_
    refine SX.skip rfl ?_
    refine s_pickT 21 rfl rfl rfl ?_
    refine SX.next ?_
    refine CW.condT rfl ?_
    refine CW.seq ?_
    refine CW.regD (.st true 0 (.st true 1 (.st true 2 .done))) (Sto w []) mixed (by kernel_rfl) (fun _ h => h.drew) (fun _ h => h) ?_
    refine s_ldS 22 rfl rfl (fun _ h => h.cell heN) ?_
    refine s_as 4 rfl rfl ?_
    refine s_as 5 rfl rfl ?_
    refine SX.next ?_
    refine CW.ret ?_
    exact KN.ret (rs := [.tmp 4, .tmp 5]) Tryd.results17 rfl (fun w hw => ⟨rfl, hw.nothing⟩)
  · skip
    replace hb := of_decide_eq_false hb
    refine s_mv 17 rfl rfl ?_
    refine s_mv 18 rfl rfl ?_
    refine s_call1 19 rfl rfl rfl rfl (fun w hw => cBits_spec cc m t D q w hMT hDm (hw.old hcd)) (fun _ _ => trivial) ?_
    refine s_ge 20 rfl rfl rfl rfl ?_
    refine s_pickF 21 rfl rfl rfl ?_
    refine SX.next ?_
    refine CW.test rfl (fun hc => ?_) (fun hc => ?_)
    · skip
      skip
      refine CW.seq ?_
      refine CW.regD (.st true 0 (.st true 1 (.st true 2 .done))) (Sto w []) mixed (by kernel_rfl) (fun _ h => h.drew) (fun _ h => h) ?_
      refine s_ldS 22 rfl rfl (fun _ h => h.cell heN) ?_
      refine s_as 4 rfl rfl ?_
      refine s_as 5 rfl rfl ?_
      refine SX.next ?_
      refine CW.ret ?_
      exact KN.ret (rs := [.tmp 4, .tmp 5]) Tryd.results17 rfl (fun w hw => ⟨rfl, hw.nothing⟩)
    · skip
      have hij : i < j := Nat.lt_of_le_of_ne hi (fun h => by subst h; omega)
      refine CW.skip ?_
      refine KN.blk ?_
      refine KN.code ?_
      refine CW.reg [0, 1] rfl ?_
      refine s_add 23 rfl rfl rfl (r := ((i + 1 : Nat) : Int)) (w64 (by omega)) ?_
      refine s_mv 10 rfl rfl ?_
      refine SX.end_ ?_
      exact KN.back (i + 1) ⟨rfl, rfl, rfl, rfl, rfl, trivial⟩ (fun _ hw => hw) (by omega) (by omega)

/-! ### Sums, what is asked -/
def x64 (a b : Int) : Int := ibit .xor .i64 a b
theorem x64_comm (a b : Int) : x64 a b = x64 b a := by
  unfold x64
  rw [ibit_xor64, ibit_xor64, BitVec.xor_comm]
/-- A list's numbers, summed below i. -/
def aqL (s u : List Int) : Nat → List Int
  | 0 => s
  | i + 1 => (aqL s u i).set i (x64 ((aqL s u i).getD i 0) (u.getD i 0))
theorem aqL_len (s u : List Int) : ∀ i, (aqL s u i).length = s.length
  | 0 => rfl
  | i + 1 => by show ((aqL s u i).set i _).length = _; rw [List.length_set, aqL_len s u i]
theorem aqL_at (s u : List Int) (j : Nat) (hj : j < s.length) : ∀ i, (aqL s u i).getD j 0 = if j < i then x64 (s.getD j 0) (u.getD j 0) else s.getD j 0
  | 0 => by rw [if_neg (by omega)]; rfl
  | i + 1 => by
    have ih := aqL_at s u j hj i
    have hl := aqL_len s u i
    show ((aqL s u i).set i _).getD j 0 = _
    rw [List.getD_eq_getElem?_getD, List.getElem?_set]
    by_cases h : i = j
    · subst h
      rw [if_pos rfl, if_pos (by omega), if_pos (by omega), Option.getD_some, ih, if_neg (by omega)]
    · rw [if_neg h, ← List.getD_eq_getElem?_getD, ih]
      by_cases h2 : j < i
      · rw [if_pos h2, if_pos (by omega)]
      · rw [if_neg h2, if_neg (by omega)]
/-- The sums of two lists. -/
def addL (s u : List Int) : List Int := if s.length < u.length then aqL u s s.length else aqL s u u.length
theorem addL_len (s u : List Int) : (addL s u).length = max s.length u.length := by
  unfold addL
  split <;> rw [aqL_len] <;> omega
structure SlI where
  A : Option Addr
  c : Nat
  l : List Int

theorem add7_spec (A1 : Option Addr) (n1 c1 : Nat) (l1 : List Int) (A2 : Option Addr) (n2 c2 : Nat) (l2 : List Int) (w : World) (ha1 : Has (sl 1 A1 n1 (ints .i64 l1)) w) (hn1 : n1 ≤ 1073741824) (ha2 : Has (sl 1 A2 n2 (ints .i64 l2)) w) (hn2 : n2 ≤ 1073741824) : SpecX Tryd.prog 20 [.slice A1 n1 c1, .slice A2 n2 c2] w (X := Option Addr × Nat) (fun z => .slice z.1 (addL l1 l2).length z.2) (fun z => (addL l1 l2).length ≤ z.2) (fun z => [own 3 1 z.1 (addL l1 l2).length z.2 (ints .i64 (addL l1 l2))]) := by
  have hla1 := ints_len ha1
  subst hla1
  have hla2 := ints_len ha2
  subst hla2
  refine spec_of Tryd.func20 rfl Tryd.ntmps20 rfl ?_
  refine CW.seq ?_
  refine CW.reg [0] rfl ?_
  refine s_as 4 rfl rfl ?_
  refine SX.next ?_
  refine CW.cut (G := SlI × SlI) (fun y => [(0, .slice y.1.A y.1.l.length y.1.c), (1, .slice y.2.A y.2.l.length y.2.c)]) (fun _ => Sto w []) (fun y => Has (sl 1 y.1.A y.1.l.length (ints .i64 y.1.l)) w ∧ Has (sl 1 y.2.A y.2.l.length (ints .i64 y.2.l)) w ∧ y.2.l.length ≤ y.1.l.length ∧ y.1.l.length ≤ 1073741824 ∧ addL l1 l2 = aqL y.1.l y.2.l y.2.l.length) ?_ ?_
  · skip
    refine CW.seq ?_
    refine CW.reg [0, 1, 2, 3, 4] rfl ?_
    refine s_mv 8 rfl rfl ?_
    refine s_len 9 rfl rfl ?_
    refine s_mv 10 rfl rfl ?_
    refine s_len 11 rfl rfl ?_
    refine s_lt 12 rfl rfl rfl rfl ?_
    refine SX.next ?_
    refine CW.test rfl (fun hc => ?_) (fun hc => ?_)
    · skip
      refine CW.reg [0, 1, 2, 3] rfl ?_
      refine s_mv 13 rfl rfl ?_
      refine s_mv 14 rfl rfl ?_
      refine s_as 0 rfl rfl ?_
      refine s_as 1 rfl rfl ?_
      refine SX.end_ ?_
      exact KN.join (⟨A2, c2, l2⟩, ⟨A1, c1, l1⟩) ⟨rfl, rfl, trivial⟩ (fun _ hw => hw) ⟨ha2, ha1, by simp only; omega, hn2, if_pos (by omega)⟩
    · skip
      refine CW.skip ?_
      exact KN.join (⟨A1, c1, l1⟩, ⟨A2, c2, l2⟩) ⟨rfl, rfl, trivial⟩ (fun _ hw => hw) ⟨ha1, ha2, by simp only; omega, hn1, if_neg (by omega)⟩
  · skip
    rintro ⟨y1, y2⟩ ⟨h1, h2, hle, hb1, hre⟩
    simp only at h1 h2 hle hb1 hre
    refine CW.seq ?_
    refine CW.reg [0, 1, 2] rfl ?_
    refine s_mv 15 rfl rfl ?_
    refine s_app0 16 (m2 := y1.l.length) rfl rfl rfl (ys := ints .i64 y1.l) (fun w hw => hw.old h1) (ints_one _ _) rfl (by omega) (by unfold maxLen; omega) (by omega) (fun _ _ _ _ => trivial) (fun A5 c5 hc5 => ?_)
    refine s_as 5 rfl rfl ?_
    refine SX.next ?_
    refine CW.seq ?_
    refine CW.seq ?_
    refine CW.reg [0, 1, 2] rfl ?_
    refine s_mv 17 rfl rfl ?_
    refine s_len 18 rfl rfl ?_
    refine s_mv 19 rfl rfl ?_
    refine SX.next ?_
    refine CW.block ?_
    refine CW.loop (G := Nat) (fun i => [(5, .slice A5 y1.l.length c5), (17, .slice y2.A y2.l.length y2.c), (18, .int .i64 (y2.l.length : Nat)), (19, .int .i64 (i : Nat))]) (fun i => Sto w [own 3 1 A5 y1.l.length c5 (ints .i64 (aqL y1.l y2.l i))]) (fun i => i ≤ y2.l.length) (fun i => y2.l.length - i) 0 ⟨rfl, rfl, rfl, rfl, trivial⟩ (fun _ hw => hw) (Nat.zero_le _) ?_
    intro i hi
    have hal := aqL_len y1.l y2.l i
    refine CW.seq ?_
    refine CW.reg [0] rfl ?_
    refine s_lt 20 rfl rfl rfl rfl ?_
    refine SX.next ?_
    refine CW.seq ?_
    refine CW.test rfl (fun hc => ?_) (fun hc => ?_)
    · skip
      refine CW.skip ?_
      refine KN.code ?_
      refine CW.seq ?_
      refine CW.block ?_
      refine CW.seq ?_
      refine CW.reg [0, 1, 2, 3, 4] rfl ?_
      refine s_mv 21 rfl rfl ?_
      refine s_iaV 22 i (fun w hw => hw.old h2) rfl rfl rfl rfl (by omega) ?_
      refine s_ldV 23 (fun w hw => hw.old h2) rfl rfl (by rw [Nat.mul_one]; exact intsAt (by omega)) (by omega) ?_
      refine s_as 6 rfl rfl ?_
      refine s_as 7 rfl rfl ?_
      refine SX.next ?_
      refine CW.reg [0, 1, 2, 3, 4, 5, 6, 7] rfl ?_
      refine s_mv 24 rfl rfl ?_
      refine s_mv 25 rfl rfl ?_
      refine s_iaO 26 0 i rfl rfl rfl rfl rfl (by omega) ?_
      refine s_ldO 27 0 rfl rfl rfl (intsAt (by omega)) ?_
      refine s_mv 28 rfl rfl ?_
      refine s_bit 29 rfl rfl rfl rfl (r := x64 ((aqL y1.l y2.l i).getD i 0) (y2.l.getD i 0)) rfl ?_
      refine s_iaO 30 0 i rfl rfl rfl rfl rfl (by omega) ?_
      refine s_stO 0 rfl rfl rfl rfl rfl (by omega) (fun _ _ => trivial) ?_
      refine SX.end_ ?_
      refine KN.blk ?_
      refine KN.code ?_
      refine CW.reg [0, 1] rfl ?_
      refine s_add 31 rfl rfl rfl (r := ((i + 1 : Nat) : Int)) (w64 (by omega)) ?_
      refine s_mv 19 rfl rfl ?_
      refine SX.end_ ?_
      exact KN.back (i + 1) ⟨rfl, rfl, rfl, rfl, trivial⟩ (fun _ hw => by
  have e : (ints .i64 (aqL y1.l y2.l i)).set i (.int .i64 (x64 ((aqL y1.l y2.l i).getD i 0) (y2.l.getD i 0))) = ints .i64 (aqL y1.l y2.l (i + 1)) := by simp [ints, aqL, List.map_set]
  rw [← e]
  exact hw) (by omega) (by omega)
    · skip
      obtain rfl : i = y2.l.length := by omega
      refine CW.exit rfl ?_
      refine KN.code ?_
      refine CW.seq ?_
      refine CW.reg [0, 1] rfl ?_
      refine s_mv 32 rfl rfl ?_
      refine s_as 4 rfl rfl ?_
      refine SX.next ?_
      refine CW.ret ?_
      exact KN.ret (rs := [.tmp 4]) Tryd.results20 rfl (fun w hw => ⟨(A5, c5), by rw [hre, aqL_len]; rfl, by rw [hre, aqL_len]; exact hc5, by rw [hre, aqL_len]; exact hw⟩)

def cleanB (l : List Int) : Bool := l.all (fun x => decide (x = 0))
theorem clean_true {l : List Int} (h : ∀ i, i < l.length → l.getD i 0 = 0) : cleanB l = true := by
  unfold cleanB
  rw [List.all_eq_true]
  intro x hx
  obtain ⟨i, hi, e⟩ := List.mem_iff_getElem.1 hx
  have := h i hi
  rw [List.getD_eq_getElem?_getD, List.getElem?_eq_getElem hi, Option.getD_some, e] at this
  exact decide_eq_true this
theorem clean_false {l : List Int} {i : Nat} (hi : i < l.length) (h : l.getD i 0 ≠ 0) : cleanB l = false := by
  cases hc : cleanB l
  · rfl
  · unfold cleanB at hc
    rw [List.all_eq_true] at hc
    have h2 := hc _ (List.getElem_mem hi)
    rw [List.getD_eq_getElem?_getD, List.getElem?_eq_getElem hi, Option.getD_some] at h
    exact absurd (of_decide_eq_true h2) h
/-- Each even one the square of the one at its half. -/
def fitP (m : Nat) (l : List Int) (i : Nat) : Prop := lo m (l.getD (2 * i + 1) 0) = gm m (lo m (l.getD i 0)) (lo m (l.getD i 0))
def fitsB (m : Nat) (l : List Int) : Bool := (List.range (l.length / 2)).all (fun i => decide (lo m (l.getD (2 * i + 1) 0) = gm m (lo m (l.getD i 0)) (lo m (l.getD i 0))))
theorem fits_true {m : Nat} {l : List Int} (h : ∀ i, 2 * i + 1 < l.length → fitP m l i) : fitsB m l = true := by
  unfold fitsB
  rw [List.all_eq_true]
  intro i hi
  exact decide_eq_true (h i (by have := List.mem_range.1 hi; omega))
theorem fits_false {m : Nat} {l : List Int} {i : Nat} (hi : 2 * i + 1 < l.length) (h : ¬ fitP m l i) : fitsB m l = false := by
  cases hc : fitsB m l
  · rfl
  · unfold fitsB at hc
    rw [List.all_eq_true] at hc
    exact absurd (of_decide_eq_true (hc i (List.mem_range.2 (by omega)))) h

theorem clean7_spec (A : Option Addr) (n c : Nat) (l : List Int) (w : World) (ha : Has (sl 1 A n (ints .i64 l)) w) (hn : n ≤ 1073741824) : Spec1 Tryd.prog 21 [.slice A n c] w (.bool (cleanB l)) := by
  have hla := ints_len ha
  subst hla
  refine spec_of Tryd.func21 rfl Tryd.ntmps21 rfl ?_
  refine CW.seq ?_
  refine CW.reg [0] rfl ?_
  refine s_as 2 rfl rfl ?_
  refine SX.next ?_
  refine CW.seq ?_
  refine CW.seq ?_
  refine CW.reg [0, 1, 2] rfl ?_
  refine s_mv 5 rfl rfl ?_
  refine s_len 6 rfl rfl ?_
  refine s_mv 7 rfl rfl ?_
  refine SX.next ?_
  refine CW.block ?_
  refine CW.loop (G := Nat) (fun i => [(5, .slice A l.length c), (6, .int .i64 (l.length : Nat)), (7, .int .i64 (i : Nat))]) (fun _ => Sto w []) (fun i => i ≤ l.length ∧ ∀ k, k < i → l.getD k 0 = 0) (fun i => l.length - i) 0 ⟨rfl, rfl, rfl, trivial⟩ (fun _ hw => hw) ⟨Nat.zero_le _, fun k hk => by omega⟩ ?_
  rintro i ⟨hi, hz⟩
  refine CW.seq ?_
  refine CW.reg [0] rfl ?_
  refine s_lt 8 rfl rfl rfl rfl ?_
  refine SX.next ?_
  refine CW.seq ?_
  refine CW.test rfl (fun hc => ?_) (fun hc => ?_)
  · skip
    refine CW.skip ?_
    refine KN.code ?_
    refine CW.seq ?_
    refine CW.block ?_
    refine CW.seq ?_
    refine CW.reg [0, 1, 2] rfl ?_
    refine s_iaV 9 i (fun w hw => hw.old ha) rfl rfl rfl rfl (by omega) ?_
    refine s_ldV 10 (fun w hw => hw.old ha) rfl rfl (by rw [Nat.mul_one]; exact intsAt (by omega)) (by omega) ?_
    refine s_as 4 rfl rfl ?_
    refine SX.next ?_
    refine CW.seq ?_
    refine CW.reg [0, 1] rfl ?_
    refine s_mv 11 rfl rfl ?_
    refine s_ne 12 rfl rfl rfl rfl ?_
    refine SX.next ?_
    refine CW.test rfl (fun hc2 => ?_) (fun hc2 => ?_)
    · skip
      refine CW.seq ?_
      refine CW.reg [0] rfl ?_
      refine s_as 2 rfl rfl ?_
      refine SX.next ?_
      refine CW.ret ?_
      exact KN.ret (rs := [.tmp 2]) Tryd.results21 rfl (fun w hw => ⟨by rw [clean_false (i := i) (by omega) hc2]; rfl, hw⟩)
    · skip
      refine CW.skip ?_
      refine KN.blk ?_
      refine KN.code ?_
      refine CW.reg [0, 1] rfl ?_
      refine s_add 13 rfl rfl rfl (r := ((i + 1 : Nat) : Int)) (w64 (by omega)) ?_
      refine s_mv 7 rfl rfl ?_
      refine SX.end_ ?_
      exact KN.back (i + 1) ⟨rfl, rfl, rfl, trivial⟩ (fun _ hw => hw) ⟨by omega, fun k hk => by
  by_cases hki : k = i
  · subst hki; exact Classical.byContradiction hc2
  · exact hz k (by omega)⟩ (by omega)
  · skip
    obtain rfl : i = l.length := by omega
    refine CW.exit rfl ?_
    refine KN.code ?_
    refine CW.seq ?_
    refine CW.reg [0] rfl ?_
    refine s_as 2 rfl rfl ?_
    refine SX.next ?_
    refine CW.ret ?_
    exact KN.ret (rs := [.tmp 2]) Tryd.results21 rfl (fun w hw => ⟨by rw [clean_true hz]; rfl, hw⟩)
end Go.Proofs.YtcdmmfpgeagimaaDoor
end
section
/- Whether values fit; the chapter's examples, a code made, walked. Conditions: the errors' variables. -/
namespace Go.Proofs.YtcdmmfpgeagimaaDoor
open Go Go.Sx Go.Fm Nb
set_option maxRecDepth 100000
theorem syn_0 : synL 5 2 [0] = [1, 1, 1, 1] := by decide +kernel
theorem syn_1 : synL 5 2 [1] = [2, 4, 8, 16] := by decide +kernel
theorem syn_n : cleanB ((synL 5 2 []).map Int.ofNat) = true := by decide +kernel

theorem fit1_spec (f m b : Nat) (a : Int) (w : World) (hm : Ok m) (hf : Has (fieldA f m) w) (hb : w.cell? ⟨b, 0, none⟩ = some (.pointer (some ⟨f, 0, none⟩))) : Spec1 Tryd.prog 88 [.int .i64 a, .pointer (some ⟨b, 0, none⟩)] w (.int .i64 (gm m (lo m a) (lo m a) : Nat)) := by
  refine spec_of Tryd.func88 rfl Tryd.ntmps88 rfl ?_
  refine CW.seq ?_
  refine CW.reg [0] rfl ?_
  refine s_as 3 rfl rfl ?_
  refine SX.next ?_
  refine CW.seq ?_
  refine CW.reg [0, 1, 2, 3, 4] rfl ?_
  refine s_ld 4 rfl rfl (fun _ hw => hw.cell hb) ?_
  refine s_mv 5 rfl rfl ?_
  refine s_mv 6 rfl rfl ?_
  refine s_call1 7 rfl rfl rfl rfl (fun w hw => mul_spec f m a a w hm (hw.old hf)) (fun _ _ => trivial) ?_
  refine s_as 3 rfl rfl ?_
  refine SX.next ?_
  refine CW.ret ?_
  exact KN.ret (rs := [.tmp 3]) Tryd.results88 rfl (fun w hw => ⟨rfl, hw.nothing⟩)

theorem fits7_spec (f m : Nat) (A : Option Addr) (n c : Nat) (l : List Int) (w : World) (hm : Ok m) (hf : Has (fieldA f m) w) (ha : Has (sl 1 A n (ints .i64 l)) w) (hn : n ≤ 1073741824) : Spec1 Tryd.prog 23 [.pointer (some ⟨f, 0, none⟩), .slice A n c] w (.bool (fitsB m l)) := by
  have hla := ints_len ha
  subst hla
  refine spec_of Tryd.func23 rfl Tryd.ntmps23 rfl ?_
  refine CW.seq ?_
  refine CW.reg [0, 1] rfl ?_
  refine s_box 2 rfl rfl (fun _ _ => trivial) (fun b => ?_)
  refine s_as 4 rfl rfl ?_
  refine SX.next ?_
  refine CW.seq ?_
  refine CW.reg [0, 1] rfl ?_
  refine s_mkf 7 rfl rfl rfl ?_
  refine s_as 5 rfl rfl ?_
  refine SX.next ?_
  refine CW.seq ?_
  refine CW.seq ?_
  refine CW.reg [0] rfl ?_
  refine s_as 6 rfl rfl ?_
  refine SX.next ?_
  refine CW.block ?_
  refine CW.loop (G := Nat) (fun k => [(1, .slice A l.length c), (2, .pointer (some ⟨b, 0, none⟩)), (5, .func (.func 88) #[] #[.pointer (some ⟨b, 0, none⟩)]), (6, .int .i64 ((k + 1 : Nat) : Int))]) (fun _ => Sto w [blk b 43 #[.pointer (some ⟨f, 0, none⟩)]]) (fun k => 2 * k ≤ l.length ∧ ∀ i, i < k → fitP m l i) (fun k => l.length - k) 0 ⟨rfl, rfl, rfl, rfl, trivial⟩ (fun _ hw => hw) ⟨Nat.zero_le _, fun i hi => by omega⟩ ?_
  rintro k ⟨hk, hz⟩
  refine CW.seq ?_
  refine CW.seq ?_
  refine CW.reg [0, 1, 2, 3, 4] rfl ?_
  refine s_mv 8 rfl rfl ?_
  refine s_mul 9 rfl rfl rfl (r := ((2 * k + 2 : Nat) : Int)) (by rw [show (2 : Int) * ((k + 1 : Nat) : Int) = ((2 * k + 2 : Nat) : Int) by omega]; exact w64 (by omega)) ?_
  refine s_mv 10 rfl rfl ?_
  refine s_len 11 rfl rfl ?_
  refine s_le 12 rfl rfl rfl rfl ?_
  refine SX.next ?_
  refine CW.test rfl (fun hc => ?_) (fun hc => ?_)
  · skip
    have hk2 : 2 * k + 2 ≤ l.length := by omega
    refine CW.skip ?_
    refine KN.code ?_
    refine CW.seq ?_
    refine CW.block ?_
    refine CW.seq ?_
    refine CW.regD (.st true 0 (.st true 1 (.st true 2 (.st true 3 (.st true 4 (.st true 5 (.st true 6 (.st true 8 (.st true 9 (.st true 10 (.st true 11 (.st true 12 (.st true 13 (.st false 7 (.st false 14 (.st true 15 .done)))))))))))))))) (Sto w [blk b 43 #[.pointer (some ⟨f, 0, none⟩)]]) mixed (by kernel_rfl) (fun _ h => h.drew) (fun _ hw => hw) ?_
    refine s_ldS 15 rfl rfl (v := .pointer (some ⟨f, 0, none⟩)) (fun _ hw => hw.blkCell (i := 0) rfl rfl) ?_
    refine s_mv 16 rfl rfl ?_
    refine s_mv 17 rfl rfl ?_
    refine s_mul 18 rfl rfl rfl (r := ((2 * k + 2 : Nat) : Int)) (by rw [show (2 : Int) * ((k + 1 : Nat) : Int) = ((2 * k + 2 : Nat) : Int) by omega]; exact w64 (by omega)) ?_
    refine s_sub 19 rfl rfl rfl (r := ((2 * k + 1 : Nat) : Int)) (by rw [show ((2 * k + 2 : Nat) : Int) - 1 = ((2 * k + 1 : Nat) : Int) by omega]; exact w64 (by omega)) ?_
    refine s_iaV 20 (2 * k + 1) (fun w hw => hw.old ha) rfl rfl rfl rfl (by omega) ?_
    refine s_ldVS 21 (fun w hw => hw.old ha) rfl rfl (by rw [Nat.mul_one]; exact intsAt (by omega)) (by omega) ?_
    refine s_mv 23 rfl rfl ?_
    refine s_mv 24 rfl rfl ?_
    refine s_mv 25 rfl rfl ?_
    refine s_sub 26 rfl rfl rfl (r := ((k : Nat) : Int)) (by rw [show ((k + 1 : Nat) : Int) - 1 = ((k : Nat) : Int) by omega]; exact w64 (by omega)) ?_
    refine s_iaV 27 k (fun w hw => hw.old ha) rfl rfl rfl rfl (by omega) ?_
    refine s_ldVS 28 (fun w hw => hw.old ha) rfl rfl (by rw [Nat.mul_one]; exact intsAt (by omega)) (by omega) ?_
    refine s_call1 22 rfl rfl rfl rfl (v := .int .i64 (lo m (l.getD (2 * k + 1) 0) : Nat)) (fun w hw => by have := add_spec f m (l.getD (2 * k + 1) 0) 0 w hm (hw.old hf); rw [show lo m 0 = 0 from lo_nat (x := 0) (Nat.two_pow_pos m), Nat.xor_zero] at this; exact this) (fun _ hw => hw) ?_
    refine s_call1 29 rfl rfl rfl rfl (fun w hw => fit1_spec f m b (l.getD k 0) w hm (hw.old hf) (hw.blkCell (i := 0) rfl rfl)) (fun _ hw => hw) ?_
    refine s_ne 30 rfl rfl rfl rfl ?_
    refine SX.next ?_
    refine CW.test rfl (fun hc2 => ?_) (fun hc2 => ?_)
    · skip
      have hne : ¬ fitP m l k := fun h => hc2 (by unfold fitP at h; rw [h])
      refine CW.seq ?_
      refine CW.reg [0] rfl ?_
      refine s_as 4 rfl rfl ?_
      refine SX.next ?_
      refine CW.ret ?_
      exact KN.ret (rs := [.tmp 4]) Tryd.results23 rfl (fun w hw => ⟨by rw [fits_false (i := k) (by omega) hne]; rfl, hw.nothing⟩)
    · skip
      have heq : fitP m l k := by unfold fitP; exact Classical.byContradiction fun h => hc2 (by omega)
      refine CW.skip ?_
      refine KN.blk ?_
      refine KN.code ?_
      refine CW.reg [0, 1, 2] rfl ?_
      refine s_mv 13 rfl rfl ?_
      refine s_add 14 rfl rfl rfl (r := ((k + 1 + 1 : Nat) : Int)) (w64 (by omega)) ?_
      refine s_as 6 rfl rfl ?_
      refine SX.end_ ?_
      exact KN.back (k + 1) ⟨rfl, rfl, rfl, rfl, trivial⟩ (fun _ hw => hw) ⟨by omega, fun i hi => by
  by_cases hik : i = k
  · subst hik; exact heq
  · exact hz i (by omega)⟩ (by omega)
  · skip
    refine CW.exit rfl ?_
    refine KN.code ?_
    refine CW.seq ?_
    refine CW.reg [0] rfl ?_
    refine s_as 4 rfl rfl ?_
    refine SX.next ?_
    refine CW.ret ?_
    exact KN.ret (rs := [.tmp 4]) Tryd.results23 rfl (fun w hw => ⟨by rw [fits_true (fun i hi => hz i (by omega))]; rfl, hw.nothing⟩)

theorem shalelaw7_made_ok (m t bytes : Int) (w : World) (hC : COk (md 4 6 m) (md 5 1 t) (md 12 1 bytes)) : SpecX Tryd.prog 11 [.int .i64 m, .int .i64 t, .int .i64 bytes] w MadeG.val (MadeG.Fine 9 5 12) MadeG.mem := by
  have hbm := md_bd (k := 4) (by omega) 6 m
  have hbt := md_bd (k := 5) (by omega) 1 t
  have hbd := md_bd (k := 12) (by omega) 1 bytes
  have hMT : MT (md 4 6 m) (md 5 1 t) := ⟨⟨by omega, by omega⟩, by omega, by omega⟩
  refine spec_of Tryd.func11 rfl Tryd.ntmps11 rfl ?_
  refine CW.seq ?_
  refine CW.reg [0, 1, 2] rfl ?_
  refine s_as 6 rfl rfl ?_
  refine s_alloc 7 rfl (fun _ _ => trivial) (fun rs => ?_)
  refine s_as 8 rfl rfl ?_
  refine SX.next ?_
  refine CW.seq ?_
  refine CW.reg [0, 1, 2, 3, 4, 5] rfl ?_
  refine s_mv 13 rfl rfl ?_
  refine s_rem 14 rfl rfl rfl (by omega) rfl ?_
  refine s_add 15 rfl rfl rfl (r := m.tmod 4 + 4) (w64 (by have := tmod_lt2 (k := 4) (by omega) m; omega)) ?_
  refine s_rem 16 rfl rfl rfl (by omega) (mkm_val (k := 4) (by omega) m) ?_
  refine s_add 17 rfl rfl rfl (r := ((md 4 6 m : Nat) : Int)) (by rw [show (((m % 4).toNat : Nat) : Int) + 6 = ((md 4 6 m : Nat) : Int) by unfold md; push_cast; rfl]; have := md_bd (k := 4) (by omega) 6 m; exact w64 (by omega)) ?_
  refine s_as 0 rfl rfl ?_
  refine SX.next ?_
  refine CW.seq ?_
  refine CW.reg [0, 1, 2, 3, 4, 5] rfl ?_
  refine s_mv 18 rfl rfl ?_
  refine s_rem 19 rfl rfl rfl (by omega) rfl ?_
  refine s_add 20 rfl rfl rfl (r := t.tmod 5 + 5) (w64 (by have := tmod_lt2 (k := 5) (by omega) t; omega)) ?_
  refine s_rem 21 rfl rfl rfl (by omega) (mkm_val (k := 5) (by omega) t) ?_
  refine s_add 22 rfl rfl rfl (r := ((md 5 1 t : Nat) : Int)) (by rw [show (((t % 5).toNat : Nat) : Int) + 1 = ((md 5 1 t : Nat) : Int) by unfold md; push_cast; rfl]; have := md_bd (k := 5) (by omega) 1 t; exact w64 (by omega)) ?_
  refine s_as 1 rfl rfl ?_
  refine SX.next ?_
  refine CW.seq ?_
  refine CW.reg [0, 1, 2, 3, 4, 5] rfl ?_
  refine s_mv 23 rfl rfl ?_
  refine s_rem 24 rfl rfl rfl (by omega) rfl ?_
  refine s_add 25 rfl rfl rfl (r := bytes.tmod 12 + 12) (w64 (by have := tmod_lt2 (k := 12) (by omega) bytes; omega)) ?_
  refine s_rem 26 rfl rfl rfl (by omega) (mkm_val (k := 12) (by omega) bytes) ?_
  refine s_add 27 rfl rfl rfl (r := ((md 12 1 bytes : Nat) : Int)) (by rw [show (((bytes % 12).toNat : Nat) : Int) + 1 = ((md 12 1 bytes : Nat) : Int) by unfold md; push_cast; rfl]; have := md_bd (k := 12) (by omega) 1 bytes; exact w64 (by omega)) ?_
  refine s_as 2 rfl rfl ?_
  refine SX.next ?_
  refine CW.seq ?_
  refine CW.reg [0, 1, 2, 3, 4, 5, 6, 7, 8, 9] rfl ?_
  refine s_mv 29 rfl rfl ?_
  refine s_mv 30 rfl rfl ?_
  refine s_mv 31 rfl rfl ?_
  refine s_call 32 rfl rfl rfl rfl (fun w hw => rNew_ok (md 4 6 m) (md 5 1 t) (md 12 1 bytes) w hC) (fun _ _ => trivial) (fun g hg => ?_)
  refine s_mv 28 rfl rfl ?_
  refine s_ext 33 rfl rfl rfl ?_
  refine s_ext 34 rfl rfl rfl ?_
  refine s_alloc 9 rfl (fun _ _ => trivial) (fun rx => ?_)
  refine s_stAll 0 rfl rfl (by kernel_rfl) rfl rfl rfl rfl (fun _ _ => trivial) ?_
  refine s_as 10 rfl rfl ?_
  refine SX.next ?_
  refine CW.seq ?_
  refine CW.seq ?_
  refine CW.reg [0, 1] rfl ?_
  refine s_mv 35 rfl rfl ?_
  refine s_ne 36 rfl rfl rfl (decide_eq_false (fun h => h rfl)) ?_
  refine SX.next ?_
  refine CW.condF rfl ?_
  refine CW.skip ?_
  refine KN.code ?_
  refine CW.seq ?_
  refine CW.reg [0, 1, 2, 3, 4, 5, 6, 7, 8, 9, 10, 11] rfl ?_
  refine s_fa 42 rfl rfl ?_
  refine s_ldB 43 0 rfl rfl rfl rfl ?_
  refine s_fa 44 rfl rfl ?_
  refine s_ldB 45 0 rfl rfl rfl rfl ?_
  refine s_fa 46 rfl rfl ?_
  refine s_ldB 47 0 rfl rfl rfl rfl ?_
  refine s_call 48 rfl rfl rfl rfl (fun w hw => new_ok (md 4 6 m) (md 5 1 t) (md 12 1 bytes) (fun _ => default) w hC.mt hC.d1 hC.dm hC.fit) (fun _ _ => trivial) (fun z hz => ?_)
  refine s_mv 41 rfl rfl ?_
  refine s_ext 49 rfl rfl rfl ?_
  refine s_ext 50 rfl rfl rfl ?_
  refine s_as 11 rfl rfl ?_
  refine s_as 12 rfl rfl ?_
  refine SX.next ?_
  refine CW.seq ?_
  refine CW.regD (.st true 0 (.st true 2 (.st true 3 (.st true 4 (.st true 5 (.st true 6 (.st true 7 (.st true 8 (.st false 1 (.st false 9 (.st true 10 .done))))))))))) (Sto w []) mixed (by kernel_rfl) (fun _ h => h.drew) (fun _ h => h.pick [] rfl) ?_
  refine s_mv 51 rfl rfl ?_
  refine s_mv 53 rfl rfl ?_
  refine s_nePN 54 rfl rfl ?_
  refine s_mv 55 rfl rfl ?_
  refine s_mv 56 rfl rfl ?_
  refine s_eqNN 57 rfl rfl ?_
  refine s_pickT 58 rfl rfl rfl ?_
  refine s_as 6 rfl rfl ?_
  refine s_ldW 52 1 rfl rfl rfl ?_
  refine s_stAll 3 rfl rfl (by kernel_rfl) rfl rfl rfl rfl (fun _ h => h.pick [] rfl) ?_
  refine s_as 8 rfl rfl ?_
  refine SX.next ?_
  refine CW.ret ?_
  exact KN.retC (rs := [.tmp 6, .cell 7 27, .tmp 8]) Tryd.results11 (fun w hw => ⟨[_, _, _], ⟨rfl, ⟨_, rfl, hw.ldRow (q := 3) rfl (by rfl)⟩, rfl, trivial⟩, ⟨⟨z.1, z.2, (md 4 6 m), (md 5 1 t), (md 12 1 bytes), g⟩, rfl, ⟨hC, hz, hg, by show (md 4 6 m) ≤ 9; omega, by show (md 5 1 t) ≤ 5; omega, by show (md 12 1 bytes) ≤ 12; omega, by show 6 ≤ (md 4 6 m); omega⟩, hw.pick [0, 1] rfl⟩⟩)

theorem shalelaw7_made_else (m t bytes : Int) (w : World) (hbad : N (md 4 6 m) < 8 * (md 12 1 bytes) + dg (md 4 6 m) (md 5 1 t)) : SpecX Tryd.prog 11 [.int .i64 m, .int .i64 t, .int .i64 bytes] w MadeG.val (MadeG.Fine 9 5 12) MadeG.mem := by
  have hbm := md_bd (k := 4) (by omega) 6 m
  have hbt := md_bd (k := 5) (by omega) 1 t
  have hbd := md_bd (k := 12) (by omega) 1 bytes
  have hMT : MT (md 4 6 m) (md 5 1 t) := ⟨⟨by omega, by omega⟩, by omega, by omega⟩
  refine spec_of Tryd.func11 rfl Tryd.ntmps11 rfl ?_
  refine CW.seq ?_
  refine CW.reg [0, 1, 2] rfl ?_
  refine s_as 6 rfl rfl ?_
  refine s_alloc 7 rfl (fun _ _ => trivial) (fun rs => ?_)
  refine s_as 8 rfl rfl ?_
  refine SX.next ?_
  refine CW.seq ?_
  refine CW.reg [0, 1, 2, 3, 4, 5] rfl ?_
  refine s_mv 13 rfl rfl ?_
  refine s_rem 14 rfl rfl rfl (by omega) rfl ?_
  refine s_add 15 rfl rfl rfl (r := m.tmod 4 + 4) (w64 (by have := tmod_lt2 (k := 4) (by omega) m; omega)) ?_
  refine s_rem 16 rfl rfl rfl (by omega) (mkm_val (k := 4) (by omega) m) ?_
  refine s_add 17 rfl rfl rfl (r := ((md 4 6 m : Nat) : Int)) (by rw [show (((m % 4).toNat : Nat) : Int) + 6 = ((md 4 6 m : Nat) : Int) by unfold md; push_cast; rfl]; have := md_bd (k := 4) (by omega) 6 m; exact w64 (by omega)) ?_
  refine s_as 0 rfl rfl ?_
  refine SX.next ?_
  refine CW.seq ?_
  refine CW.reg [0, 1, 2, 3, 4, 5] rfl ?_
  refine s_mv 18 rfl rfl ?_
  refine s_rem 19 rfl rfl rfl (by omega) rfl ?_
  refine s_add 20 rfl rfl rfl (r := t.tmod 5 + 5) (w64 (by have := tmod_lt2 (k := 5) (by omega) t; omega)) ?_
  refine s_rem 21 rfl rfl rfl (by omega) (mkm_val (k := 5) (by omega) t) ?_
  refine s_add 22 rfl rfl rfl (r := ((md 5 1 t : Nat) : Int)) (by rw [show (((t % 5).toNat : Nat) : Int) + 1 = ((md 5 1 t : Nat) : Int) by unfold md; push_cast; rfl]; have := md_bd (k := 5) (by omega) 1 t; exact w64 (by omega)) ?_
  refine s_as 1 rfl rfl ?_
  refine SX.next ?_
  refine CW.seq ?_
  refine CW.reg [0, 1, 2, 3, 4, 5] rfl ?_
  refine s_mv 23 rfl rfl ?_
  refine s_rem 24 rfl rfl rfl (by omega) rfl ?_
  refine s_add 25 rfl rfl rfl (r := bytes.tmod 12 + 12) (w64 (by have := tmod_lt2 (k := 12) (by omega) bytes; omega)) ?_
  refine s_rem 26 rfl rfl rfl (by omega) (mkm_val (k := 12) (by omega) bytes) ?_
  refine s_add 27 rfl rfl rfl (r := ((md 12 1 bytes : Nat) : Int)) (by rw [show (((bytes % 12).toNat : Nat) : Int) + 1 = ((md 12 1 bytes : Nat) : Int) by unfold md; push_cast; rfl]; have := md_bd (k := 12) (by omega) 1 bytes; exact w64 (by omega)) ?_
  refine s_as 2 rfl rfl ?_
  refine SX.next ?_
  refine CW.seq ?_
  refine CW.reg [0, 1, 2, 3, 4, 5, 6, 7, 8, 9] rfl ?_
  refine s_mv 29 rfl rfl ?_
  refine s_mv 30 rfl rfl ?_
  refine s_mv 31 rfl rfl ?_
  refine s_call1 32 rfl rfl rfl rfl (fun w hw => rNew_bad (md 4 6 m) (md 5 1 t) (md 12 1 bytes) w hMT (by omega) (by omega) hbad) (fun _ _ => trivial) ?_
  refine s_mv 28 rfl rfl ?_
  refine s_ext 33 rfl rfl rfl ?_
  refine s_ext 34 rfl rfl rfl ?_
  refine s_alloc 9 rfl (fun _ _ => trivial) (fun rx => ?_)
  refine s_stAll 0 rfl rfl (by kernel_rfl) rfl rfl rfl rfl (fun _ _ => trivial) ?_
  refine s_as 10 rfl rfl ?_
  refine SX.next ?_
  refine CW.seq ?_
  refine CW.seq ?_
  refine CW.reg [0, 1] rfl ?_
  refine s_mv 35 rfl rfl ?_
  refine s_ne 36 rfl rfl rfl (decide_eq_true (by omega)) ?_
  refine SX.next ?_
  refine CW.condT rfl ?_
  refine CW.reg [0, 1, 2, 3, 4] rfl ?_
  refine s_call 38 rfl rfl rfl rfl (fun w hw => rNew_ok 7 2 5 w cok72) (fun _ _ => trivial) (fun g hg => ?_)
  refine s_mv 37 rfl rfl ?_
  refine s_ext 39 rfl rfl rfl ?_
  refine s_ext 40 rfl rfl rfl ?_
  refine s_stAll 1 rfl rfl (by kernel_rfl) rfl rfl rfl rfl (fun _ _ => trivial) ?_
  refine SX.next ?_
  refine CW.seq ?_
  refine CW.pre (C' := Sto w [blk rx 27 (refC 7 2 5 g), genOf 7 2 g, blk rs 27 refZ]) (fun _ hw => hw.pick [1, 0, 0] rfl) ?_
  refine CW.reg [0, 1, 2, 3, 4, 5, 6, 7, 8, 9, 10, 11] rfl ?_
  refine s_fa 42 rfl rfl ?_
  refine s_ldB 43 0 rfl rfl rfl rfl ?_
  refine s_fa 44 rfl rfl ?_
  refine s_ldB 45 0 rfl rfl rfl rfl ?_
  refine s_fa 46 rfl rfl ?_
  refine s_ldB 47 0 rfl rfl rfl rfl ?_
  refine s_call 48 rfl rfl rfl rfl (fun w hw => new_ok 7 2 5 (fun _ => default) w cok72.mt cok72.d1 cok72.dm cok72.fit) (fun _ _ => trivial) (fun z hz => ?_)
  refine s_mv 41 rfl rfl ?_
  refine s_ext 49 rfl rfl rfl ?_
  refine s_ext 50 rfl rfl rfl ?_
  refine s_as 11 rfl rfl ?_
  refine s_as 12 rfl rfl ?_
  refine SX.next ?_
  refine CW.seq ?_
  refine CW.regD (.st true 0 (.st true 2 (.st true 3 (.st true 4 (.st true 5 (.st true 6 (.st true 7 (.st true 8 (.st false 1 (.st false 9 (.st true 10 .done))))))))))) (Sto w []) mixed (by kernel_rfl) (fun _ h => h.drew) (fun _ h => h.pick [] rfl) ?_
  refine s_mv 51 rfl rfl ?_
  refine s_mv 53 rfl rfl ?_
  refine s_nePN 54 rfl rfl ?_
  refine s_mv 55 rfl rfl ?_
  refine s_mv 56 rfl rfl ?_
  refine s_eqNN 57 rfl rfl ?_
  refine s_pickT 58 rfl rfl rfl ?_
  refine s_as 6 rfl rfl ?_
  refine s_ldW 52 1 rfl rfl rfl ?_
  refine s_stAll 3 rfl rfl (by kernel_rfl) rfl rfl rfl rfl (fun _ h => h.pick [] rfl) ?_
  refine s_as 8 rfl rfl ?_
  refine SX.next ?_
  refine CW.ret ?_
  exact KN.retC (rs := [.tmp 6, .cell 7 27, .tmp 8]) Tryd.results11 (fun w hw => ⟨[_, _, _], ⟨rfl, ⟨_, rfl, hw.ldRow (q := 3) rfl (by rfl)⟩, rfl, trivial⟩, ⟨⟨z.1, z.2, 7, 2, 5, g⟩, rfl, ⟨cok72, hz, hg, by show 7 ≤ 9; decide, by show 2 ≤ 5; decide, by show 5 ≤ 12; decide, by show 6 ≤ 7; decide⟩, hw.pick [0, 1] rfl⟩⟩)

theorem shalelaw7_made (m t bytes : Int) (w : World) : SpecX Tryd.prog 11 [.int .i64 m, .int .i64 t, .int .i64 bytes] w MadeG.val (MadeG.Fine 9 5 12) MadeG.mem := by
  have hbm := md_bd (k := 4) (by omega) 6 m
  have hbt := md_bd (k := 5) (by omega) 1 t
  have hbd := md_bd (k := 12) (by omega) 1 bytes
  have hMT : MT (md 4 6 m) (md 5 1 t) := ⟨⟨by omega, by omega⟩, by omega, by omega⟩
  by_cases h : 8 * (md 12 1 bytes) + dg (md 4 6 m) (md 5 1 t) ≤ N (md 4 6 m)
  · exact shalelaw7_made_ok m t bytes w ⟨hMT, by omega, by omega, h⟩
  · exact shalelaw7_made_else m t bytes w (by omega)

theorem first7_spec (e : Nat → Addr) (w : World) (heN : Er e w 1) : Spec1 Tryd.prog 10 [] w (.bool true) := by
  refine spec_of Tryd.func10 rfl Tryd.ntmps10 rfl ?_
  refine CW.seq ?_
  refine CW.reg [0] rfl ?_
  refine s_as 0 rfl rfl ?_
  refine SX.next ?_
  refine CW.seq ?_
  refine CW.reg [0, 1, 2, 3, 4, 5] rfl ?_
  refine s_call 12 rfl rfl rfl rfl (fun w hw => new_ok 5 2 2 e w cok52.mt cok52.d1 cok52.dm cok52.fit) (fun _ _ => trivial) (fun z hz => ?_)
  refine s_mv 11 rfl rfl ?_
  refine s_ext 13 rfl rfl rfl ?_
  refine s_ext 14 rfl rfl rfl ?_
  refine s_as 1 rfl rfl ?_
  refine s_as 2 rfl rfl ?_
  refine SX.next ?_
  refine CW.seq ?_
  refine CW.seq ?_
  refine CW.reg [0, 1, 2, 3, 4, 5] rfl ?_
  refine s_mv 15 rfl rfl ?_
  refine s_eqPN 16 rfl rfl ?_
  refine s_mv 17 rfl rfl ?_
  refine s_mv 18 rfl rfl ?_
  refine s_neNN 19 rfl rfl ?_
  refine s_pickF 20 rfl rfl rfl ?_
  refine SX.next ?_
  refine CW.condF rfl ?_
  refine CW.skip ?_
  refine KN.code ?_
  refine CW.seq ?_
  refine CW.reg [0, 1, 2, 3, 4, 5, 6] rfl ?_
  refine s_mv 22 rfl rfl ?_
  refine s_call 23 rfl rfl rfl rfl (fun w hw => by have := bits7_ok z.1 5 2 2 z.2 none 0 [] w mt52 (by decide) (hw.has (i := 0) rfl) (Has.sl_nil _ 1 none) (by decide) (by rw [dg52]; decide); exact this) (fun _ _ => trivial) (fun q23 hq23 => ?_)
  refine s_mv 21 rfl rfl ?_
  refine s_ext 24 rfl rfl rfl ?_
  refine s_ext 25 rfl rfl rfl ?_
  refine s_as 3 rfl rfl ?_
  refine s_as 4 rfl rfl ?_
  refine SX.next ?_
  refine CW.seq ?_
  refine CW.reg [0, 1, 2, 3, 4, 5, 6, 7] rfl ?_
  refine s_mv 27 rfl rfl ?_
  refine s_bsl 28 rfl rfl (cells := #[.int .i64 0]) (by kernel_rfl) rfl (fun _ _ => trivial) (fun b28 => ?_)
  refine s_call 29 rfl rfl rfl rfl (fun w hw => by have := bits7_ok z.1 5 2 2 z.2 (some ⟨b28, 0, none⟩) 1 [0] w mt52 (by decide) (hw.has (i := 2) rfl) (Has.cong ((hw.has (i := 0) rfl).blk_sl (m := 1) rfl) rfl) (by decide) (by rw [dg52]; decide); rw [syn_0] at this; exact this) (fun _ _ => trivial) (fun q29 hq29 => ?_)
  refine s_mv 26 rfl rfl ?_
  refine s_ext 30 rfl rfl rfl ?_
  refine s_ext 31 rfl rfl rfl ?_
  refine s_as 5 rfl rfl ?_
  refine s_as 6 rfl rfl ?_
  refine SX.next ?_
  refine CW.seq ?_
  refine CW.reg [0, 1, 2, 3, 4, 5, 6, 7] rfl ?_
  refine s_mv 33 rfl rfl ?_
  refine s_bsl 34 rfl rfl (cells := #[.int .i64 1]) (by kernel_rfl) rfl (fun _ _ => trivial) (fun b34 => ?_)
  refine s_call 35 rfl rfl rfl rfl (fun w hw => by have := bits7_ok z.1 5 2 2 z.2 (some ⟨b34, 0, none⟩) 1 [1] w mt52 (by decide) (hw.has (i := 4) rfl) (Has.cong ((hw.has (i := 0) rfl).blk_sl (m := 1) rfl) rfl) (by decide) (by rw [dg52]; decide); rw [syn_1] at this; exact this) (fun _ _ => trivial) (fun q35 hq35 => ?_)
  refine s_mv 32 rfl rfl ?_
  refine s_ext 36 rfl rfl rfl ?_
  refine s_ext 37 rfl rfl rfl ?_
  refine s_as 7 rfl rfl ?_
  refine s_as 8 rfl rfl ?_
  refine SX.next ?_
  refine CW.seq ?_
  refine CW.reg [0, 1, 2, 3, 4, 5, 6, 7] rfl ?_
  refine s_mv 39 rfl rfl ?_
  refine s_bsl 40 rfl rfl (cells := #[.int .i64 26]) (by kernel_rfl) rfl (fun _ _ => trivial) (fun b40 => ?_)
  refine s_call1 41 rfl rfl rfl rfl (fun w hw => bits7_num z.1 5 2 2 z.2 (some ⟨b40, 0, none⟩) 1 1 [26] 0 e w mt52 (by decide) (hw.has (i := 6) rfl) (Has.cong ((hw.has (i := 0) rfl).blk_sl (m := 1) rfl) rfl) (by decide) (hw.er heN) (by decide) (fun i hi => by omega) (.inr (by rw [dg52]; decide))) (fun _ _ => trivial) ?_
  refine s_mv 38 rfl rfl ?_
  refine s_ext 42 rfl rfl rfl ?_
  refine s_ext 43 rfl rfl rfl ?_
  refine s_as 9 rfl rfl ?_
  refine s_as 10 rfl rfl ?_
  refine SX.next ?_
  refine CW.seq ?_
  refine CW.reg [0, 1, 2, 3, 4, 5, 6, 7, 8, 9, 10, 11, 12, 13, 14, 15, 16, 17, 18, 19, 20, 21, 22, 23, 24, 25, 26, 27, 28, 29, 30, 31, 32, 33, 34] rfl ?_
  refine s_mv 44 rfl rfl ?_
  refine s_eqNN 45 rfl rfl ?_
  refine s_mv 46 rfl rfl ?_
  refine s_mv 47 rfl rfl ?_
  refine s_eqNN 48 rfl rfl ?_
  refine s_pickT 49 rfl rfl rfl ?_
  refine s_mv 50 rfl rfl ?_
  refine s_mv 51 rfl rfl ?_
  refine s_eqNN 52 rfl rfl ?_
  refine s_pickT 53 rfl rfl rfl ?_
  refine s_mv 54 rfl rfl ?_
  refine s_mv 55 rfl rfl ?_
  refine s_call1 56 rfl rfl rfl rfl (v := .bool true) (fun w hw => by have := clean7_spec q23.1 (synL 5 2 []).length q23.2 ((synL 5 2 []).map Int.ofNat) w (by rw [← nats_ints]; exact (hw.has (i := 5) rfl).of_own) (by decide); rw [syn_n] at this; exact this) (fun _ _ => trivial) ?_
  refine s_pickT 57 rfl rfl rfl ?_
  refine s_mv 58 rfl rfl ?_
  refine s_mv 59 rfl rfl ?_
  refine s_len 60 rfl rfl ?_
  refine s_eq 61 rfl rfl rfl (decide_eq_true (by rw [synL_len]; rfl)) ?_
  refine s_pickT 62 rfl rfl rfl ?_
  refine s_mv 63 rfl rfl ?_
  refine s_mv 64 rfl rfl ?_
  refine s_bsl 65 rfl rfl (cells := #[.int .i64 1, .int .i64 1, .int .i64 1, .int .i64 1]) (by kernel_rfl) rfl (fun _ _ => trivial) (fun b65 => ?_)
  refine s_call1 66 rfl rfl rfl rfl (v := .bool true) (fun w hw => by have := sameInts_spec q29.1 (some ⟨b65, 0, none⟩) 4 q29.2 4 4 ([1, 1, 1, 1].map Int.ofNat) [1, 1, 1, 1] _ (by rw [← nats_ints]; exact (hw.has (i := 4) rfl).of_own) (Has.cong ((hw.has (i := 0) rfl).blk_sl (m := 4) rfl) rfl) (by decide); exact this) (fun _ _ => trivial) ?_
  refine s_pickT 67 rfl rfl rfl ?_
  refine s_mv 68 rfl rfl ?_
  refine s_mv 69 rfl rfl ?_
  refine s_bsl 70 rfl rfl (cells := #[.int .i64 2, .int .i64 4, .int .i64 8, .int .i64 16]) (by kernel_rfl) rfl (fun _ _ => trivial) (fun b70 => ?_)
  refine s_call1 71 rfl rfl rfl rfl (v := .bool true) (fun w hw => by have := sameInts_spec q35.1 (some ⟨b70, 0, none⟩) 4 q35.2 4 4 ([2, 4, 8, 16].map Int.ofNat) [2, 4, 8, 16] _ (by rw [← nats_ints]; exact (hw.has (i := 3) rfl).of_own) (Has.cong ((hw.has (i := 0) rfl).blk_sl (m := 4) rfl) rfl) (by decide); exact this) (fun _ _ => trivial) ?_
  refine s_pickT 72 rfl rfl rfl ?_
  refine s_mv 73 rfl rfl ?_
  refine s_mv 74 rfl rfl ?_
  refine s_ld 75 rfl rfl (fun _ h => h.cell heN) ?_
  refine s_eqE 76 rfl rfl rfl ?_
  refine s_pickT 77 rfl rfl rfl ?_
  refine s_as 0 rfl rfl ?_
  refine SX.next ?_
  refine CW.ret ?_
  exact KN.ret (rs := [.tmp 0]) Tryd.results10 rfl (fun w hw => ⟨rfl, hw.nothing⟩)
end Go.Proofs.YtcdmmfpgeagimaaDoor
end
section
/- Chapter 7's document: coefficients, values of words and of places, what is asked, walked. -/
namespace Go.Proofs.YtcdmmfpgeagimaaDoor
open Go Go.Sx Go.Fm Nb
set_option maxRecDepth 100000
/-- What the first so many values are, the others 0. -/
def qf (m : Nat) (P : List Nat) (i : Nat) : Nat → Nat := fun j => if j < i then sv m P (j + 1) else 0
theorem qf_zero (m : Nat) (P : List Nat) : qf m P 0 = fun _ => 0 := by funext j; unfold qf; rw [if_neg (by omega)]
theorem qf_next (m : Nat) (P : List Nat) (i : Nat) : (fun j => if j = i then sv m P (i + 1) else qf m P i j) = qf m P (i + 1) := by
  funext j
  unfold qf
  by_cases h : j = i
  · subst h; rw [if_pos rfl, if_pos (by omega)]
  · rw [if_neg h]
    by_cases h2 : j < i
    · rw [if_pos h2, if_pos (by omega)]
    · rw [if_neg h2, if_neg (by omega)]
theorem qf_all (m t : Nat) (P : List Nat) : sI (2 * t) (qf m P (2 * t)) = (nats .i64 (synL m t P)).toArray := by
  unfold sI synL
  rw [tb_congr (fun i hi => by unfold qf; rw [if_pos hi])]
/-- The word as a polynomial. -/
def wl (m t : Nat) (d p : List Nat) (n : Nat) : List Nat := tb n (wc m t d p)
theorem wl_len (m t : Nat) (d p : List Nat) (n : Nat) : (wl m t d p n).length = n := tb_len _ _
theorem wl_lt (m t : Nat) (d p : List Nat) (n : Nat) : ∀ x ∈ wl m t d p n, x < 2 := tb_lt (fun i _ => wc_lt m t d p i)
/-- From the place j on. -/
noncomputable def hv (m t : Nat) (d p : List Nat) (n i j : Nat) : Nat := evL m ((wl m t d p n).drop j) (exz m (i : Nat))
theorem hv_lt {m : Nat} (hm : Ok m) (t : Nat) (d p : List Nat) (n i j : Nat) : hv m t d p n i j < 2 ^ m := evL_lt hm _ (fun a ha => by
  have h1 := wl_lt m t d p n a (List.mem_of_mem_drop ha)
  have h2 : 2 ^ 2 ≤ 2 ^ m := Nat.pow_le_pow_right (by omega) (by have := hm.lo; omega)
  omega)
theorem hv_top (m t : Nat) (d p : List Nat) (n i : Nat) : hv m t d p n i n = 0 := by
  unfold hv
  rw [List.drop_of_length_le (by rw [wl_len]; exact Nat.le_refl _)]
  rfl
theorem hv_step {m t : Nat} {d p : List Nat} {n i j : Nat} (h : j < n) : gm m (hv m t d p n i (j + 1)) (exz m (i : Nat)) ^^^ wc m t d p j = hv m t d p n i j := by
  unfold hv
  rw [List.drop_eq_getElem_cons (show j < (wl m t d p n).length by rw [wl_len]; exact h)]
  have e : (wl m t d p n)[j]'(by rw [wl_len]; exact h) = wc m t d p j := by simp [wl, tb]
  rw [e]
  rfl
theorem hv_zero {m : Nat} (hm : Ok m) (t : Nat) (d p : List Nat) (n i : Nat) : hv m t d p n i 0 = sv m (posL m t d p n) i := by
  unfold hv posL
  have hb : B1 (pl n (wc m t d p)) := ⟨pl_tr (fun j => Nat.lt_trans (wc_lt m t d p j) (by decide)), fun j => by
    rw [cf_pl]
    split
    · exact wc_lt m t d p j
    · omega⟩
  have he : evL m (wl m t d p n) (exz m (i : Nat)) = evL m (pl n (wc m t d p)) (exz m (i : Nat)) := evL_congr (fun j => by
    rw [cf_pl]
    unfold wl
    by_cases h : j < n
    · rw [if_pos h, cf_tb h]
    · rw [if_neg h, cf_out (by rw [tb_len]; omega)]) _
  rw [List.drop_zero, he, evL_sel hm hb (n := n) (b1_len hb (fun j hj => by rw [cf_pl, if_neg (by omega)])), sv_sel]
  refine xs_congr (fun k hk => ?_)
  unfold wf
  rw [cf_pl, if_pos hk]
  by_cases h : 0 < wc m t d p k
  · rw [if_pos h, if_pos (decide_eq_true h)]
  · rw [if_neg h, if_neg (by rw [decide_eq_false h]; decide)]
/-- The values of places, the i-th begun. -/
def qo (m : Nat) (l : List Nat) (i k : Nat) : Nat → Nat := fun j => if j < i then sv m l (j + 1) else if j = i then sv m (l.take k) (j + 1) else 0
theorem qo_first (m : Nat) (l : List Nat) (i : Nat) : qo m l i 0 = qf m l i := by
  funext j
  unfold qo qf
  by_cases h : j < i
  · rw [if_pos h, if_pos h]
  · rw [if_neg h, if_neg h]
    by_cases h2 : j = i
    · rw [if_pos h2]; rfl
    · rw [if_neg h2]
theorem qo_last (m : Nat) (l : List Nat) (i : Nat) : qo m l i l.length = qf m l (i + 1) := by
  funext j
  unfold qo qf
  rw [List.take_length]
  by_cases h : j < i
  · rw [if_pos h, if_pos (by omega)]
  · rw [if_neg h]
    by_cases h2 : j = i
    · rw [if_pos h2, if_pos (by omega)]
    · rw [if_neg h2, if_neg (by omega)]
theorem qo_at (m : Nat) (l : List Nat) (i k : Nat) : qo m l i k i = sv m (l.take k) (i + 1) := by unfold qo; rw [if_neg (by omega), if_pos rfl]
theorem qo_next (m : Nat) {l : List Nat} {i k p : Nat} (h : l.take (k + 1) = l.take k ++ [p]) : (fun j => if j = i then sv m (l.take k) (i + 1) ^^^ exz m ((p * (i + 1) : Nat) : Int) else qo m l i k j) = qo m l i (k + 1) := by
  funext j
  unfold qo
  by_cases h2 : j = i
  · subst h2; rw [if_pos rfl, if_neg (by omega), if_pos rfl, h, sv_snoc]
  · rw [if_neg h2, if_neg h2, if_neg h2]

theorem rCoef_spec (m t D : Nat) (g : Option Addr × Nat) (A : Option Addr) (n c : Nat) (p : List Nat) (A2 : Option Addr) (n2 c2 : Nat) (p2 : List Nat) (k : Nat) (w : World) (ha : Has (sl 1 A n (nats .u8 p)) w) (hp : ∀ x ∈ p, x < 256) (hn : n ≤ 1073741824) (hcp : n ≤ c) (ha2 : Has (sl 1 A2 n2 (nats .u8 p2)) w) (hp2 : ∀ x ∈ p2, x < 256) (hn2 : n2 ≤ 1073741824) (hcp2 : n2 ≤ c2) (hk : k ≤ 100000) (hdg : dg m t ≤ 560) : Spec1 Tryd.prog 87 [.agg (refC m t D g), .slice A n c, .slice A2 n2 c2, .int .i64 (k : Nat)] w (.int .i64 (wc m t p p2 k : Nat)) := by
  have hla := nats_len ha
  subst hla
  have hla2 := nats_len ha2
  subst hla2
  refine spec_of Tryd.func87 rfl Tryd.ntmps87 rfl ?_
  refine CW.seq ?_
  refine CW.reg [0, 1] rfl ?_
  refine s_box 4 rfl rfl (fun _ _ => trivial) (fun b => ?_)
  refine s_as 8 rfl rfl ?_
  refine SX.next ?_
  refine CW.seq ?_
  refine CW.seq ?_
  refine CW.reg [0, 1, 2, 3] rfl ?_
  refine s_mv 9 rfl rfl ?_
  refine s_fa 10 rfl rfl ?_
  refine s_ldB 11 0 rfl rfl rfl (v := .int .i64 (dg m t : Nat)) rfl ?_
  refine s_lt 12 rfl rfl rfl rfl ?_
  refine SX.next ?_
  refine CW.test rfl (fun hc => ?_) (fun hc => ?_)
  · skip
    have hkd : k < dg m t := by omega
    refine CW.seq ?_
    refine CW.reg [0, 1, 2, 3] rfl ?_
    refine s_mv 13 rfl rfl ?_
    refine s_mv 14 rfl rfl ?_
    refine s_call1 15 rfl rfl rfl rfl (v := .int .i64 (wc m t p p2 k : Nat)) (fun w hw => by have := rBit_spec A2 p2.length c2 p2 (k : Nat) w (hw.old ha2) hp2 hn2 hcp2 (by omega); rw [bitI_nat] at this; unfold wc; rw [if_pos hkd]; exact this) (fun _ _ => trivial) ?_
    refine s_as 8 rfl rfl ?_
    refine SX.next ?_
    refine CW.ret ?_
    exact KN.ret (rs := [.tmp 8]) Tryd.results87 rfl (fun w hw => ⟨rfl, hw.nothing⟩)
  · skip
    have hkd : ¬ k < dg m t := by omega
    refine CW.skip ?_
    refine KN.code ?_
    refine CW.seq ?_
    refine CW.reg [0, 1, 2, 3, 4, 5, 6] rfl ?_
    refine s_mv 16 rfl rfl ?_
    refine s_mv 17 rfl rfl ?_
    refine s_fa 18 rfl rfl ?_
    refine s_ldB 19 0 rfl rfl rfl (v := .int .i64 (dg m t : Nat)) rfl ?_
    refine s_sub 20 rfl rfl rfl (r := ((k - dg m t : Nat) : Int)) (by rw [show ((k : Nat) : Int) - ((dg m t : Nat) : Int) = ((k - dg m t : Nat) : Int) by omega]; exact w64 (by omega)) ?_
    refine s_call1 21 rfl rfl rfl rfl (v := .int .i64 (wc m t p p2 k : Nat)) (fun w hw => by have := rBit_spec A p.length c p (k - dg m t : Nat) w (hw.old ha) hp hn hcp (by omega); rw [bitI_nat] at this; unfold wc; rw [if_neg hkd]; exact this) (fun _ _ => trivial) ?_
    refine s_as 8 rfl rfl ?_
    refine SX.next ?_
    refine CW.ret ?_
    exact KN.ret (rs := [.tmp 8]) Tryd.results87 rfl (fun w hw => ⟨rfl, hw.nothing⟩)

theorem rSyn_spec (m t D : Nat) (g : Option Addr × Nat) (A : Option Addr) (n c : Nat) (p : List Nat) (A2 : Option Addr) (n2 c2 : Nat) (p2 : List Nat) (w : World) (hMT : MT m t) (hDm : D ≤ 2048) (ha : Has (sl 1 A n (nats .u8 p)) w) (hp : ∀ x ∈ p, x < 256) (hn : n ≤ 1073741824) (hcp : n ≤ c) (ha2 : Has (sl 1 A2 n2 (nats .u8 p2)) w) (hp2 : ∀ x ∈ p2, x < 256) (hn2 : n2 ≤ 1073741824) (hcp2 : n2 ≤ c2) : SpecX Tryd.prog 16 [.agg (refC m t D g), .slice A n c, .slice A2 n2 c2] w (X := Option Addr × Nat) (fun z => .slice z.1 (synL m t (posL m t p p2 (8 * D + dg m t))).length z.2) (fun z => (synL m t (posL m t p p2 (8 * D + dg m t))).length ≤ z.2) (fun z => [own 3 1 z.1 (synL m t (posL m t p p2 (8 * D + dg m t))).length z.2 (nats .i64 (synL m t (posL m t p p2 (8 * D + dg m t))))]) := by
  have hla := nats_len ha
  subst hla
  have hla2 := nats_len ha2
  subst hla2
  have hm := hMT.ok
  have hd5 := hMT.d560
  have h40 := hMT.t40
  refine spec_of Tryd.func16 rfl Tryd.ntmps16 rfl ?_
  refine CW.seq ?_
  refine CW.reg [0, 1] rfl ?_
  refine s_box 3 rfl rfl (fun _ _ => trivial) (fun b3 => ?_)
  refine s_as 6 rfl rfl ?_
  refine SX.next ?_
  refine CW.seq ?_
  refine CW.reg [0, 1, 2, 3, 4] rfl ?_
  refine s_fa 12 rfl rfl ?_
  refine s_ldB 13 0 rfl rfl rfl (v := .int .i64 (t : Nat)) rfl ?_
  refine s_mul 14 rfl rfl rfl (r := ((2 * t : Nat) : Int)) (by rw [show (2 : Int) * ((t : Nat) : Int) = ((2 * t : Nat) : Int) by omega]; exact w64 (by omega)) ?_
  refine s_make 15 (2 * t) rfl rfl rfl rfl rfl (by omega) (fun _ _ => trivial) (fun b => ?_)
  refine s_as 7 rfl rfl ?_
  refine SX.next ?_
  refine CW.seq ?_
  refine CW.seq ?_
  refine CW.reg [0] rfl ?_
  refine s_as 8 rfl rfl ?_
  refine SX.next ?_
  refine CW.block ?_
  refine CW.loop (G := Nat) (fun i => [(1, .slice A p.length c), (2, .slice A2 p2.length c2), (3, .pointer (some ⟨b3, 0, none⟩)), (7, .slice (some ⟨b, 0, none⟩) (2 * t) (2 * t)), (8, .int .i64 (i : Nat))]) (fun i => Sto w [blk b 3 (sI (2 * t) (qf m (posL m t p p2 (8 * D + dg m t)) i)), blk b3 27 (refC m t D g)]) (fun i => i ≤ 2 * t) (fun i => 2 * t - i) 0 ⟨rfl, rfl, rfl, rfl, rfl, trivial⟩ (fun _ hw => by rw [qf_zero, ← sI_zero]; exact hw) (Nat.zero_le _) ?_
  intro i hi
  refine CW.seq ?_
  refine CW.seq ?_
  refine CW.reg [0, 1, 2, 3] rfl ?_
  refine s_mv 16 rfl rfl ?_
  refine s_mv 17 rfl rfl ?_
  refine s_len 18 rfl rfl ?_
  refine s_lt 19 rfl rfl rfl rfl ?_
  refine SX.next ?_
  refine CW.test rfl (fun hc => ?_) (fun hc => ?_)
  · skip
    refine CW.skip ?_
    refine KN.code ?_
    refine CW.seq ?_
    refine CW.block ?_
    refine CW.seq ?_
    refine CW.seq ?_
    refine CW.reg [0, 1, 2] rfl ?_
    refine s_mv 22 rfl rfl ?_
    refine s_rem 23 rfl rfl rfl (by omega) (r := ((i % 2 : Nat) : Int)) rfl ?_
    refine s_eq 24 rfl rfl rfl rfl ?_
    refine SX.next ?_
    refine CW.test rfl (fun hc => ?_) (fun hc => ?_)
    · skip
      obtain ⟨h, rfl⟩ : ∃ h, i = 2 * h + 1 := ⟨i / 2, by omega⟩
      have hsl := sv_lt hm (posL m t p p2 (8 * D + dg m t)) (h + 1)
      refine CW.seq ?_
      refine CW.regD (.st true 0 (.st true 1 (.st true 2 (.st true 3 (.st true 4 (.st true 5 (.st true 6 (.st true 7 (.st true 8 (.st true 9 (.st true 10 (.st true 11 (.st true 12 (.st true 13 (.st false 14 (.st true 15 (.st false 16 .done))))))))))))))))) (fun w2 => w2.cell? ⟨b, h, none⟩ = some (.int .i64 (sv m (posL m t p p2 (8 * D + dg m t)) (h + 1) : Nat)) ∧ w2.cell? ⟨b3, 0, none⟩ = some (.int .i64 (m : Nat))) mixed (by kernel_rfl) (fun _ h => h.drew) (fun _ hw => ⟨hw.blkCell (i := 0) rfl (by rw [sI_at (by omega)]; unfold qf; rw [if_pos (by omega)]), hw.blkCell (i := 1) rfl rfl⟩) ?_
      refine s_mv 25 rfl rfl ?_
      refine s_mv 26 rfl rfl ?_
      refine s_fa 27 rfl rfl ?_
      refine s_ldS 28 rfl rfl (v := .int .i64 (m : Nat)) (fun _ hw => hw.2) ?_
      refine s_mv 29 rfl rfl ?_
      refine s_mv 30 rfl rfl ?_
      refine s_quo 31 rfl rfl rfl (by omega) (r := ((h : Nat) : Int)) (by rw [quo2 (2 * h + 1) (by omega), show (2 * h + 1) / 2 = h by omega]) ?_
      refine s_ia0 32 h rfl rfl rfl rfl (by omega) ?_
      refine s_ldS 33 rfl rfl (fun _ hw => hw.1) ?_
      refine s_mv 34 rfl rfl ?_
      refine s_mv 35 rfl rfl ?_
      refine s_quo 36 rfl rfl rfl (by omega) (r := ((h : Nat) : Int)) (by rw [quo2 (2 * h + 1) (by omega), show (2 * h + 1) / 2 = h by omega]) ?_
      refine s_ia0 37 h rfl rfl rfl rfl (by omega) ?_
      refine s_ldS 38 rfl rfl (fun _ hw => hw.1) ?_
      refine s_call1 39 rfl rfl rfl rfl (v := .int .i64 (sv m (posL m t p p2 (8 * D + dg m t)) (2 * (h + 1)) : Nat)) (fun w hw => by have := rmul_spec m (sv m (posL m t p p2 (8 * D + dg m t)) (h + 1) : Nat) (sv m (posL m t p p2 (8 * D + dg m t)) (h + 1) : Nat) w hm; rw [lo_nat hsl, sv_sq hm] at this; exact this) (fun _ hw => ⟨hw.blkCell (i := 0) rfl (by rw [sI_at (by omega)]; unfold qf; rw [if_pos (by omega)]), hw.blkCell (i := 1) rfl rfl⟩) ?_
      refine s_ia0 40 (2 * h + 1) rfl rfl rfl rfl (by omega) ?_
      refine s_stB 0 rfl rfl rfl rfl rfl (by rw [sI_size]; omega) (fun _ hw => ⟨hw.blkCell (i := 0) rfl (by rw [sI_set, sI_at (by omega), if_neg (by omega)]; unfold qf; rw [if_pos (by omega)]), hw.blkCell (i := 1) rfl rfl⟩) ?_
      refine SX.next ?_
      refine CW.exit rfl ?_
      refine KN.code ?_
      refine CW.reg [0, 1, 2] rfl ?_
      refine s_mv 20 rfl rfl ?_
      refine s_add 21 rfl rfl rfl (r := ((2 * h + 1 + 1 : Nat) : Int)) (w64 (by omega)) ?_
      refine s_as 8 rfl rfl ?_
      refine SX.end_ ?_
      exact KN.back (2 * h + 1 + 1) ⟨rfl, rfl, rfl, rfl, rfl, trivial⟩ (fun _ hw => by rw [← qf_next, ← sI_set]; exact hw) (by omega) (by omega)
    · skip
      have hx0 := exz_lt hm (((i + 1 : Nat) : Int))
      refine CW.skip ?_
      refine KN.code ?_
      refine CW.seq ?_
      refine CW.reg [0, 1, 2, 3, 4, 5] rfl ?_
      refine s_fa 41 rfl rfl ?_
      refine s_ldB 42 1 rfl rfl rfl (v := .int .i64 (m : Nat)) rfl ?_
      refine s_mv 43 rfl rfl ?_
      refine s_add 44 rfl rfl rfl (r := ((i + 1 : Nat) : Int)) (w64 (by omega)) ?_
      refine s_call1 45 rfl rfl rfl rfl (v := .int .i64 (exz m ((i + 1 : Nat) : Int) : Nat)) (fun w hw => rexp_spec m ((i + 1 : Nat) : Int) w hm) (fun _ _ => trivial) ?_
      refine s_as 9 rfl rfl ?_
      refine SX.next ?_
      refine CW.seq ?_
      refine CW.reg [0] rfl ?_
      refine s_as 10 rfl rfl ?_
      refine SX.next ?_
      refine CW.seq ?_
      refine CW.seq ?_
      refine CW.reg [0, 1, 2, 3] rfl ?_
      refine s_ldW 46 1 rfl rfl rfl ?_
      refine s_call1 47 rfl rfl rfl rfl (fun w hw => rBits_spec m t D g w hMT hDm) (fun _ _ => trivial) ?_
      refine s_sub 48 rfl rfl rfl (r := (((8 * D + dg m t) : Nat) : Int) - 1) (w64 (by omega)) ?_
      refine s_as 11 rfl rfl ?_
      refine SX.next ?_
      refine CW.block ?_
      refine CW.loop (G := Nat) (fun j => [(1, .slice A p.length c), (2, .slice A2 p2.length c2), (3, .pointer (some ⟨b3, 0, none⟩)), (7, .slice (some ⟨b, 0, none⟩) (2 * t) (2 * t)), (8, .int .i64 (i : Nat)), (9, .int .i64 (exz m ((i + 1 : Nat) : Int) : Nat)), (10, .int .i64 ((hv m t p p2 (8 * D + dg m t) (i + 1) j) : Nat)), (11, .int .i64 (((j : Nat) : Int) - 1))]) (fun _ => Sto w [blk b 3 (sI (2 * t) (qf m (posL m t p p2 (8 * D + dg m t)) i)), blk b3 27 (refC m t D g)]) (fun j => j ≤ (8 * D + dg m t)) (fun j => j) (8 * D + dg m t) ⟨rfl, rfl, rfl, rfl, rfl, rfl, by rw [hv_top]; rfl, rfl, trivial⟩ (fun _ hw => hw) (Nat.le_refl _) ?_
      intro j0 hj0
      refine CW.seq ?_
      refine CW.seq ?_
      refine CW.reg [0, 1] rfl ?_
      refine s_mv 49 rfl rfl ?_
      refine s_ge 50 rfl rfl rfl rfl ?_
      refine SX.next ?_
      refine CW.test rfl (fun hc => ?_) (fun hc => ?_)
      · skip
        obtain ⟨j, rfl⟩ : ∃ j, j0 = j + 1 := ⟨j0 - 1, by omega⟩
        have hvl := hv_lt hm t p p2 (8 * D + dg m t) (i + 1) (j + 1)
        have hwl := wc_lt m t p p2 j
        have hgl := gm_lt hm hvl (exz m ((i + 1 : Nat) : Int))
        refine CW.skip ?_
        refine KN.code ?_
        refine CW.seq ?_
        refine CW.block ?_
        refine CW.regD (.st true 0 (.st true 1 (.st true 2 (.st true 3 (.st true 5 (.st true 6 (.st true 7 (.st true 8 (.st false 4 (.st false 9 (.st true 10 (.st true 11 .done)))))))))))) (Sto w [blk b 3 (sI (2 * t) (qf m (posL m t p p2 (8 * D + dg m t)) i)), blk b3 27 (refC m t D g)]) mixed (by kernel_rfl) (fun _ h => h.drew) (fun _ hw => hw) ?_
        refine s_fa 53 rfl rfl ?_
        refine s_ldS 54 rfl rfl (v := .int .i64 (m : Nat)) (fun _ hw => hw.blkCell (i := 1) rfl rfl) ?_
        refine s_mv 55 rfl rfl ?_
        refine s_mv 56 rfl rfl ?_
        refine s_ldRS 58 (cs := (refC m t D g).toList) rfl rfl rfl (fun _ hw => hw.blkRow (i := 1) rfl) ?_
        refine s_mv 59 rfl rfl ?_
        refine s_mv 60 rfl rfl ?_
        refine s_mv 61 rfl rfl ?_
        refine s_call1 57 rfl rfl rfl rfl (v := .int .i64 (gm m (hv m t p p2 (8 * D + dg m t) (i + 1) (j + 1)) (exz m ((i + 1 : Nat) : Int)) : Nat)) (fun w hw => by have := rmul_spec m ((hv m t p p2 (8 * D + dg m t) (i + 1) (j + 1)) : Nat) (exz m ((i + 1 : Nat) : Int) : Nat) w hm; rw [lo_nat hvl, lo_nat hx0] at this; exact this) (fun _ hw => hw) ?_
        refine s_call1 62 rfl rfl rfl rfl (v := .int .i64 (wc m t p p2 j : Nat)) (fun w hw => by have := rCoef_spec m t D g A p.length c p A2 p2.length c2 p2 j w (hw.old ha) hp hn hcp (hw.old ha2) hp2 hn2 hcp2 (by omega) hd5; rw [show ((j + 1 : Nat) : Int) - 1 = ((j : Nat) : Int) by omega]; exact this) (fun _ hw => hw) ?_
        refine s_bit 63 rfl rfl rfl rfl (r := (((hv m t p p2 (8 * D + dg m t) (i + 1) j) : Nat) : Int)) (by rw [ibit_xor_nat (pow63 hm hgl) (by omega), hv_step (by omega)]) ?_
        refine s_as 10 rfl rfl ?_
        refine SX.end_ ?_
        refine KN.blk ?_
        refine KN.code ?_
        refine CW.reg [0, 1, 2] rfl ?_
        refine s_mv 51 rfl rfl ?_
        refine s_sub 52 rfl rfl rfl (r := ((j : Nat) : Int) - 1) (by rw [show ((j + 1 : Nat) : Int) - 1 - 1 = ((j : Nat) : Int) - 1 by omega]; exact w64 (by omega)) ?_
        refine s_as 11 rfl rfl ?_
        refine SX.end_ ?_
        exact KN.back j ⟨rfl, rfl, rfl, rfl, rfl, rfl, rfl, rfl, trivial⟩ (fun _ hw => hw) (by omega) (by omega)
      · skip
        obtain rfl : j0 = 0 := by omega
        refine CW.exit rfl ?_
        refine KN.code ?_
        refine CW.reg [0, 1, 2, 3, 4] rfl ?_
        refine s_mv 64 rfl rfl ?_
        refine s_mv 65 rfl rfl ?_
        refine s_mv 66 rfl rfl ?_
        refine s_ia0 67 i rfl rfl rfl rfl (by omega) ?_
        refine s_stB 0 rfl rfl rfl rfl rfl (by rw [sI_size]; omega) (fun _ _ => trivial) ?_
        refine SX.end_ ?_
        refine KN.blk ?_
        refine KN.code ?_
        refine CW.reg [0, 1, 2] rfl ?_
        refine s_mv 20 rfl rfl ?_
        refine s_add 21 rfl rfl rfl (r := ((i + 1 : Nat) : Int)) (w64 (by omega)) ?_
        refine s_as 8 rfl rfl ?_
        refine SX.end_ ?_
        exact KN.back (i + 1) ⟨rfl, rfl, rfl, rfl, rfl, trivial⟩ (fun _ hw => by rw [← qf_next, ← hv_zero hm, ← sI_set]; exact hw) (by omega) (by omega)
  · skip
    obtain rfl : i = 2 * t := by omega
    refine CW.exit rfl ?_
    refine KN.code ?_
    refine CW.seq ?_
    refine CW.reg [0, 1] rfl ?_
    refine s_mv 68 rfl rfl ?_
    refine s_as 6 rfl rfl ?_
    refine SX.next ?_
    refine CW.ret ?_
    exact KN.ret (rs := [.tmp 6]) Tryd.results16 rfl (fun w hw => ⟨(some ⟨b, 0, none⟩, 2 * t), by rw [synL_len]; rfl, by rw [synL_len]; exact Nat.le_refl _, by
  rw [qf_all] at hw
  rw [synL_len]
  exact (hw.pick [0] rfl).blkOwn (q := 0) (c := 2 * t) (sz := 1) rfl (by simp [synL_len]) (by unfold maxLen; omega)⟩)

theorem rSynOf_spec (m t D : Nat) (g : Option Addr × Nat) (A : Option Addr) (c : Nat) (l : List Nat) (w : World) (hMT : MT m t) (ha : Has (sl 1 A l.length (nats .i64 l)) w) (hln : l.length ≤ 1073741824) (hall : ∀ x ∈ l, x ≤ 100000) : SpecX Tryd.prog 19 [.agg (refC m t D g), .slice A l.length c] w (X := Option Addr × Nat) (fun z => .slice z.1 (synL m t l).length z.2) (fun z => (synL m t l).length ≤ z.2) (fun z => [own 3 1 z.1 (synL m t l).length z.2 (nats .i64 (synL m t l))]) := by
  have hm := hMT.ok
  have h40 := hMT.t40
  refine spec_of Tryd.func19 rfl Tryd.ntmps19 rfl ?_
  refine CW.seq ?_
  refine CW.reg [0, 1] rfl ?_
  refine s_box 2 rfl rfl (fun _ _ => trivial) (fun b2 => ?_)
  refine s_as 4 rfl rfl ?_
  refine SX.next ?_
  refine CW.seq ?_
  refine CW.reg [0, 1, 2, 3, 4] rfl ?_
  refine s_fa 8 rfl rfl ?_
  refine s_ldB 9 0 rfl rfl rfl (v := .int .i64 (t : Nat)) rfl ?_
  refine s_mul 10 rfl rfl rfl (r := ((2 * t : Nat) : Int)) (by rw [show (2 : Int) * ((t : Nat) : Int) = ((2 * t : Nat) : Int) by omega]; exact w64 (by omega)) ?_
  refine s_make 11 (2 * t) rfl rfl rfl rfl rfl (by omega) (fun _ _ => trivial) (fun b => ?_)
  refine s_as 5 rfl rfl ?_
  refine SX.next ?_
  refine CW.seq ?_
  refine CW.seq ?_
  refine CW.reg [0] rfl ?_
  refine s_as 6 rfl rfl ?_
  refine SX.next ?_
  refine CW.block ?_
  refine CW.loop (G := Nat) (fun i => [(1, .slice A l.length c), (2, .pointer (some ⟨b2, 0, none⟩)), (5, .slice (some ⟨b, 0, none⟩) (2 * t) (2 * t)), (6, .int .i64 (i : Nat))]) (fun i => Sto w [blk b 3 (sI (2 * t) (qf m l i)), blk b2 27 (refC m t D g)]) (fun i => i ≤ 2 * t) (fun i => 2 * t - i) 0 ⟨rfl, rfl, rfl, rfl, trivial⟩ (fun _ hw => by rw [qf_zero, ← sI_zero]; exact hw) (Nat.zero_le _) ?_
  intro i hi
  refine CW.seq ?_
  refine CW.seq ?_
  refine CW.reg [0, 1, 2, 3] rfl ?_
  refine s_mv 12 rfl rfl ?_
  refine s_mv 13 rfl rfl ?_
  refine s_len 14 rfl rfl ?_
  refine s_lt 15 rfl rfl rfl rfl ?_
  refine SX.next ?_
  refine CW.test rfl (fun hc => ?_) (fun hc => ?_)
  · skip
    refine CW.skip ?_
    refine KN.code ?_
    refine CW.seq ?_
    refine CW.block ?_
    refine CW.seq ?_
    refine CW.reg [0] rfl ?_
    refine s_as 7 rfl rfl ?_
    refine SX.next ?_
    refine CW.block ?_
    refine CW.loop (G := Nat) (fun k => [(1, .slice A l.length c), (2, .pointer (some ⟨b2, 0, none⟩)), (5, .slice (some ⟨b, 0, none⟩) (2 * t) (2 * t)), (6, .int .i64 (i : Nat)), (7, .int .i64 (k : Nat))]) (fun k => Sto w [blk b 3 (sI (2 * t) (qo m l i k)), blk b2 27 (refC m t D g)]) (fun k => k ≤ l.length) (fun k => l.length - k) 0 ⟨rfl, rfl, rfl, rfl, rfl, trivial⟩ (fun _ hw => by rw [qo_first]; exact hw) (Nat.zero_le _) ?_
    intro k hk
    refine CW.seq ?_
    refine CW.seq ?_
    refine CW.reg [0, 1, 2, 3] rfl ?_
    refine s_mv 18 rfl rfl ?_
    refine s_mv 19 rfl rfl ?_
    refine s_len 20 rfl rfl ?_
    refine s_lt 21 rfl rfl rfl rfl ?_
    refine SX.next ?_
    refine CW.test rfl (fun hc => ?_) (fun hc => ?_)
    · skip
      obtain ⟨p, hp⟩ : ∃ p, l[k]? = some p := ⟨_, List.getElem?_eq_getElem (by omega)⟩
      have htk : l.take (k + 1) = l.take k ++ [p] := by rw [List.take_add_one, hp]; rfl
      have hpb := hall p (List.mem_of_getElem? hp)
      have hpm := Nat.mul_le_mul hpb (show i + 1 ≤ 100 by omega)
      have hsl := sv_lt hm (l.take k) (i + 1)
      have hxl := exz_lt hm ((p * (i + 1) : Nat) : Int)
      refine CW.skip ?_
      refine KN.code ?_
      refine CW.seq ?_
      refine CW.block ?_
      refine CW.regD (.st true 0 (.st true 1 (.st true 2 (.st true 3 (.st true 4 (.st true 6 (.st true 7 (.st true 8 (.st true 9 (.st true 10 (.st true 11 (.st true 12 (.st true 13 (.st true 14 (.alt 5 (.st false 15 (.st true 16 (.st true 17 (.st false 18 .done)))) (.st false 15 (.st false 5 (.st true 16 (.st true 17 (.st false 18 .done)))))))))))))))))))) (Sto w [blk b2 27 (refC m t D g)]) mixed (by kernel_rfl) (fun _ h => h.drew) (fun _ hw => hw.tail) ?_
      refine s_mv 24 rfl rfl ?_
      refine s_mv 25 rfl rfl ?_
      refine s_mv 26 rfl rfl ?_
      refine s_mv 27 rfl rfl ?_
      refine s_ia0 28 i rfl rfl rfl rfl (by omega) ?_
      refine s_fa 30 rfl rfl ?_
      refine s_ldS 31 rfl rfl (v := .int .i64 (m : Nat)) (fun _ hw => hw.blkCell (i := 0) rfl rfl) ?_
      refine s_mv 32 rfl rfl ?_
      refine s_mv 33 rfl rfl ?_
      refine s_iaV 34 k (fun w hw => hw.old ha) rfl rfl rfl rfl (by omega) ?_
      refine s_ldVS 35 (v := .int .i64 (p : Nat)) (fun w hw => hw.old ha) rfl rfl (by rw [Nat.mul_one, nats, List.getElem?_map, hp]; rfl) (by omega) ?_
      refine s_mv 36 rfl rfl ?_
      refine s_add 37 rfl rfl rfl (r := ((i + 1 : Nat) : Int)) (w64 (by omega)) ?_
      refine s_mul 38 rfl rfl rfl (r := ((p * (i + 1) : Nat) : Int)) (by rw [← Int.natCast_mul]; exact w64 (by omega)) ?_
      refine SX.alt ?_ ?_
      · skip
        refine s_ldB 29 0 rfl rfl rfl (v := .int .i64 (sv m (l.take k) (i + 1) : Nat)) (by rw [sI_at (by omega), qo_at]) ?_
        refine s_call1 39 rfl rfl rfl rfl (v := .int .i64 (exz m ((p * (i + 1) : Nat) : Int) : Nat)) (fun w hw => rexp_spec m ((p * (i + 1) : Nat) : Int) w hm) (fun _ hw => hw.tail) ?_
        refine s_bit 40 rfl rfl rfl rfl (ibit_xor_nat (pow63 hm hsl) (pow63 hm hxl)) ?_
        refine s_ia0 41 i rfl rfl rfl rfl (by omega) ?_
        refine s_stB 0 rfl rfl rfl rfl rfl (by rw [sI_size]; omega) (fun _ hw => hw.tail) ?_
        refine SX.end_ ?_
        refine KN.blk ?_
        refine KN.code ?_
        refine CW.reg [0, 1, 2] rfl ?_
        refine s_mv 22 rfl rfl ?_
        refine s_add 23 rfl rfl rfl (r := ((k + 1 : Nat) : Int)) (w64 (by omega)) ?_
        refine s_as 7 rfl rfl ?_
        refine SX.end_ ?_
        exact KN.back (k + 1) ⟨rfl, rfl, rfl, rfl, rfl, trivial⟩ (fun _ hw => by rw [← qo_next m htk, ← sI_set]; exact hw) (by omega) (by omega)
      · skip
        refine s_call1 39 rfl rfl rfl rfl (v := .int .i64 (exz m ((p * (i + 1) : Nat) : Int) : Nat)) (fun w hw => rexp_spec m ((p * (i + 1) : Nat) : Int) w hm) (fun _ hw => hw.tail) ?_
        refine s_ldB 29 0 rfl rfl rfl (v := .int .i64 (sv m (l.take k) (i + 1) : Nat)) (by rw [sI_at (by omega), qo_at]) ?_
        refine s_bit 40 rfl rfl rfl rfl (ibit_xor_nat (pow63 hm hsl) (pow63 hm hxl)) ?_
        refine s_ia0 41 i rfl rfl rfl rfl (by omega) ?_
        refine s_stB 0 rfl rfl rfl rfl rfl (by rw [sI_size]; omega) (fun _ hw => hw.tail) ?_
        refine SX.end_ ?_
        refine KN.blk ?_
        refine KN.code ?_
        refine CW.reg [0, 1, 2] rfl ?_
        refine s_mv 22 rfl rfl ?_
        refine s_add 23 rfl rfl rfl (r := ((k + 1 : Nat) : Int)) (w64 (by omega)) ?_
        refine s_as 7 rfl rfl ?_
        refine SX.end_ ?_
        exact KN.back (k + 1) ⟨rfl, rfl, rfl, rfl, rfl, trivial⟩ (fun _ hw => by rw [← qo_next m htk, ← sI_set]; exact hw) (by omega) (by omega)
    · skip
      obtain rfl : k = l.length := by omega
      refine CW.exit rfl ?_
      refine KN.blk ?_
      refine KN.code ?_
      refine CW.reg [0, 1, 2] rfl ?_
      refine s_mv 16 rfl rfl ?_
      refine s_add 17 rfl rfl rfl (r := ((i + 1 : Nat) : Int)) (w64 (by omega)) ?_
      refine s_as 6 rfl rfl ?_
      refine SX.end_ ?_
      exact KN.back (i + 1) ⟨rfl, rfl, rfl, rfl, trivial⟩ (fun _ hw => by rw [← qo_last]; exact hw) (by omega) (by omega)
  · skip
    obtain rfl : i = 2 * t := by omega
    refine CW.exit rfl ?_
    refine KN.code ?_
    refine CW.seq ?_
    refine CW.reg [0, 1] rfl ?_
    refine s_mv 42 rfl rfl ?_
    refine s_as 4 rfl rfl ?_
    refine SX.next ?_
    refine CW.ret ?_
    exact KN.ret (rs := [.tmp 4]) Tryd.results19 rfl (fun w hw => ⟨(some ⟨b, 0, none⟩, 2 * t), by rw [synL_len]; rfl, by rw [synL_len]; exact Nat.le_refl _, by
  rw [qf_all] at hw
  rw [synL_len]
  exact (hw.pick [0] rfl).blkOwn (q := 0) (c := 2 * t) (sz := 1) rfl (by simp [synL_len]) (by unfold maxLen; omega)⟩)

theorem rClean_spec (A : Option Addr) (n c : Nat) (l : List Int) (w : World) (ha : Has (sl 1 A n (ints .i64 l)) w) (hn : n ≤ 1073741824) : Spec1 Tryd.prog 22 [.slice A n c] w (.bool (cleanB l)) := by
  have hla := ints_len ha
  subst hla
  refine spec_of Tryd.func22 rfl Tryd.ntmps22 rfl ?_
  refine CW.seq ?_
  refine CW.reg [0] rfl ?_
  refine s_as 2 rfl rfl ?_
  refine SX.next ?_
  refine CW.seq ?_
  refine CW.seq ?_
  refine CW.reg [0] rfl ?_
  refine s_as 3 rfl rfl ?_
  refine SX.next ?_
  refine CW.block ?_
  refine CW.loop (G := Nat) (fun i => [(0, .slice A l.length c), (3, .int .i64 (i : Nat))]) (fun _ => Sto w []) (fun i => i ≤ l.length ∧ ∀ k, k < i → l.getD k 0 = 0) (fun i => l.length - i) 0 ⟨rfl, rfl, trivial⟩ (fun _ hw => hw) ⟨Nat.zero_le _, fun k hk => by omega⟩ ?_
  rintro i ⟨hi, hz⟩
  refine CW.seq ?_
  refine CW.seq ?_
  refine CW.reg [0, 1, 2, 3] rfl ?_
  refine s_mv 4 rfl rfl ?_
  refine s_mv 5 rfl rfl ?_
  refine s_len 6 rfl rfl ?_
  refine s_lt 7 rfl rfl rfl rfl ?_
  refine SX.next ?_
  refine CW.test rfl (fun hc => ?_) (fun hc => ?_)
  · skip
    refine CW.skip ?_
    refine KN.code ?_
    refine CW.seq ?_
    refine CW.block ?_
    refine CW.seq ?_
    refine CW.reg [0, 1, 2, 3, 4] rfl ?_
    refine s_mv 10 rfl rfl ?_
    refine s_mv 11 rfl rfl ?_
    refine s_iaV 12 i (fun w hw => hw.old ha) rfl rfl rfl rfl (by omega) ?_
    refine s_ldV 13 (fun w hw => hw.old ha) rfl rfl (by rw [Nat.mul_one]; exact intsAt (by omega)) (by omega) ?_
    refine s_ne 14 rfl rfl rfl rfl ?_
    refine SX.next ?_
    refine CW.test rfl (fun hc2 => ?_) (fun hc2 => ?_)
    · skip
      refine CW.seq ?_
      refine CW.reg [0] rfl ?_
      refine s_as 2 rfl rfl ?_
      refine SX.next ?_
      refine CW.ret ?_
      exact KN.ret (rs := [.tmp 2]) Tryd.results22 rfl (fun w hw => ⟨by rw [clean_false (i := i) (by omega) hc2]; rfl, hw⟩)
    · skip
      refine CW.skip ?_
      refine KN.blk ?_
      refine KN.code ?_
      refine CW.reg [0, 1, 2] rfl ?_
      refine s_mv 8 rfl rfl ?_
      refine s_add 9 rfl rfl rfl (r := ((i + 1 : Nat) : Int)) (w64 (by omega)) ?_
      refine s_as 3 rfl rfl ?_
      refine SX.end_ ?_
      exact KN.back (i + 1) ⟨rfl, rfl, trivial⟩ (fun _ hw => hw) ⟨by omega, fun k hk => by
  by_cases hki : k = i
  · subst hki; exact Classical.byContradiction hc2
  · exact hz k (by omega)⟩ (by omega)
  · skip
    obtain rfl : i = l.length := by omega
    refine CW.exit rfl ?_
    refine KN.code ?_
    refine CW.seq ?_
    refine CW.reg [0] rfl ?_
    refine s_as 2 rfl rfl ?_
    refine SX.next ?_
    refine CW.ret ?_
    exact KN.ret (rs := [.tmp 2]) Tryd.results22 rfl (fun w hw => ⟨by rw [clean_true hz]; rfl, hw⟩)

theorem rFits_spec (m : Nat) (A : Option Addr) (n c : Nat) (l : List Int) (w : World) (hm : Ok m) (ha : Has (sl 1 A n (ints .i64 l)) w) (hn : n ≤ 1073741824) : Spec1 Tryd.prog 25 [.int .i64 (m : Nat), .slice A n c] w (.bool (fitsB m l)) := by
  have hla := ints_len ha
  subst hla
  refine spec_of Tryd.func25 rfl Tryd.ntmps25 rfl ?_
  refine CW.seq ?_
  refine CW.reg [0] rfl ?_
  refine s_as 4 rfl rfl ?_
  refine SX.next ?_
  refine CW.seq ?_
  refine CW.seq ?_
  refine CW.reg [0] rfl ?_
  refine s_as 5 rfl rfl ?_
  refine SX.next ?_
  refine CW.block ?_
  refine CW.loop (G := Nat) (fun k => [(0, .int .i64 (m : Nat)), (1, .slice A l.length c), (5, .int .i64 ((k + 1 : Nat) : Int))]) (fun _ => Sto w []) (fun k => 2 * k ≤ l.length ∧ ∀ i, i < k → fitP m l i) (fun k => l.length - k) 0 ⟨rfl, rfl, rfl, trivial⟩ (fun _ hw => hw) ⟨Nat.zero_le _, fun i hi => by omega⟩ ?_
  rintro k ⟨hk, hz⟩
  refine CW.seq ?_
  refine CW.seq ?_
  refine CW.reg [0, 1, 2, 3, 4] rfl ?_
  refine s_mv 6 rfl rfl ?_
  refine s_mul 7 rfl rfl rfl (r := ((2 * k + 2 : Nat) : Int)) (by rw [show (2 : Int) * ((k + 1 : Nat) : Int) = ((2 * k + 2 : Nat) : Int) by omega]; exact w64 (by omega)) ?_
  refine s_mv 8 rfl rfl ?_
  refine s_len 9 rfl rfl ?_
  refine s_le 10 rfl rfl rfl rfl ?_
  refine SX.next ?_
  refine CW.test rfl (fun hc => ?_) (fun hc => ?_)
  · skip
    have hk2 : 2 * k + 2 ≤ l.length := by omega
    refine CW.skip ?_
    refine KN.code ?_
    refine CW.seq ?_
    refine CW.block ?_
    refine CW.seq ?_
    refine CW.regD (.st true 0 (.st true 1 (.st true 2 (.st true 3 (.st true 4 (.st true 5 (.st true 6 (.st true 8 (.st true 9 (.st true 10 (.st true 11 (.st true 12 (.st true 13 (.st true 14 (.st true 15 (.st true 16 (.st true 17 (.st true 18 (.st false 7 (.st false 19 (.st true 20 .done))))))))))))))))))))) (Sto w []) mixed (by kernel_rfl) (fun _ h => h.drew) (fun _ h => h) ?_
    refine s_mv 13 rfl rfl ?_
    refine s_mv 14 rfl rfl ?_
    refine s_mv 15 rfl rfl ?_
    refine s_mul 16 rfl rfl rfl (r := ((2 * k + 2 : Nat) : Int)) (by rw [show (2 : Int) * ((k + 1 : Nat) : Int) = ((2 * k + 2 : Nat) : Int) by omega]; exact w64 (by omega)) ?_
    refine s_sub 17 rfl rfl rfl (r := ((2 * k + 1 : Nat) : Int)) (by rw [show ((2 * k + 2 : Nat) : Int) - 1 = ((2 * k + 1 : Nat) : Int) by omega]; exact w64 (by omega)) ?_
    refine s_iaV 18 (2 * k + 1) (fun w hw => hw.old ha) rfl rfl rfl rfl (by omega) ?_
    refine s_ldVS 19 (fun w hw => hw.old ha) rfl rfl (by rw [Nat.mul_one]; exact intsAt (by omega)) (by omega) ?_
    refine s_mv 21 rfl rfl ?_
    refine s_mv 22 rfl rfl ?_
    refine s_mv 23 rfl rfl ?_
    refine s_sub 24 rfl rfl rfl (r := ((k : Nat) : Int)) (by rw [show ((k + 1 : Nat) : Int) - 1 = ((k : Nat) : Int) by omega]; exact w64 (by omega)) ?_
    refine s_iaV 25 k (fun w hw => hw.old ha) rfl rfl rfl rfl (by omega) ?_
    refine s_ldVS 26 (fun w hw => hw.old ha) rfl rfl (by rw [Nat.mul_one]; exact intsAt (by omega)) (by omega) ?_
    refine s_mv 27 rfl rfl ?_
    refine s_mv 28 rfl rfl ?_
    refine s_sub 29 rfl rfl rfl (r := ((k : Nat) : Int)) (by rw [show ((k + 1 : Nat) : Int) - 1 = ((k : Nat) : Int) by omega]; exact w64 (by omega)) ?_
    refine s_iaV 30 k (fun w hw => hw.old ha) rfl rfl rfl rfl (by omega) ?_
    refine s_ldVS 31 (fun w hw => hw.old ha) rfl rfl (by rw [Nat.mul_one]; exact intsAt (by omega)) (by omega) ?_
    refine s_call1 20 rfl rfl rfl rfl (fun w hw => rlow_spec m (l.getD (2 * k + 1) 0) w hm) (fun _ hw => hw) ?_
    refine s_call1 32 rfl rfl rfl rfl (fun w hw => rmul_spec m (l.getD k 0) (l.getD k 0) w hm) (fun _ hw => hw) ?_
    refine s_ne 33 rfl rfl rfl rfl ?_
    refine SX.next ?_
    refine CW.test rfl (fun hc2 => ?_) (fun hc2 => ?_)
    · skip
      have hne : ¬ fitP m l k := fun h => hc2 (by unfold fitP at h; rw [h])
      refine CW.seq ?_
      refine CW.reg [0] rfl ?_
      refine s_as 4 rfl rfl ?_
      refine SX.next ?_
      refine CW.ret ?_
      exact KN.ret (rs := [.tmp 4]) Tryd.results25 rfl (fun w hw => ⟨by rw [fits_false (i := k) (by omega) hne]; rfl, hw.nothing⟩)
    · skip
      have heq : fitP m l k := by unfold fitP; exact Classical.byContradiction fun h => hc2 (by omega)
      refine CW.skip ?_
      refine KN.blk ?_
      refine KN.code ?_
      refine CW.reg [0, 1, 2] rfl ?_
      refine s_mv 11 rfl rfl ?_
      refine s_add 12 rfl rfl rfl (r := ((k + 1 + 1 : Nat) : Int)) (w64 (by omega)) ?_
      refine s_as 5 rfl rfl ?_
      refine SX.end_ ?_
      exact KN.back (k + 1) ⟨rfl, rfl, rfl, trivial⟩ (fun _ hw => hw) ⟨by omega, fun i hi => by
  by_cases hik : i = k
  · subst hik; exact heq
  · exact hz i (by omega)⟩ (by omega)
  · skip
    refine CW.exit rfl ?_
    refine KN.code ?_
    refine CW.seq ?_
    refine CW.reg [0] rfl ?_
    refine s_as 4 rfl rfl ?_
    refine SX.next ?_
    refine CW.ret ?_
    exact KN.ret (rs := [.tmp 4]) Tryd.results25 rfl (fun w hw => ⟨by rw [fits_true (fun i hi => hz i (by omega))]; rfl, hw.nothing⟩)
end Go.Proofs.YtcdmmfpgeagimaaDoor
end
section
/- The statement SyndromeSays, walked. Conditions: the errors' variables; the numbers' range. -/
namespace Go.Proofs.YtcdmmfpgeagimaaDoor
open Go Go.Sx Go.Fm Nb
set_option maxRecDepth 100000
theorem i64_wf {a : Int} (h : (Lit.int .i64 a).wf = true) : -9223372036854775808 ≤ a ∧ a ≤ 9223372036854775807 := by
  simp only [Lit.wf, Bool.and_eq_true, decide_eq_true_eq] at h
  have e1 : IntKind.i64.min = -9223372036854775808 := by decide
  have e2 : IntKind.i64.max = 9223372036854775807 := by decide
  omega
theorem x64_zero {a : Int} (h : -9223372036854775808 ≤ a ∧ a ≤ 9223372036854775807) : x64 0 a = a := by
  unfold x64
  rw [ibit_xor64, BitVec.toNat_xor, toNat_ofInt64, toNat_ofInt64, show ((0 : Int) % 18446744073709551616).toNat = 0 from rfl, Nat.zero_xor]
  simp only [IntKind.wrap, IntKind.signed, IntKind.bits]
  simp
  split <;> omega
theorem getD_wf {l : List Int} (hz : ∀ z ∈ l, (Lit.int .i64 z).wf = true) {i : Nat} (h : i < l.length) : -9223372036854775808 ≤ l.getD i 0 ∧ l.getD i 0 ≤ 9223372036854775807 := by
  rw [List.getD_eq_getElem?_getD, List.getElem?_eq_getElem h, Option.getD_some]
  exact i64_wf (hz _ (List.getElem_mem h))
/-- The sums, one by one, as the document has them. -/
theorem add_both {s u : List Int} (hz : ∀ z ∈ u, (Lit.int .i64 z).wf = true) {i : Nat} (h : i < u.length) : x64 (if i < s.length then s.getD i 0 else 0) (u.getD i 0) = (addL s u).getD i 0 := by
  unfold addL
  by_cases hs : s.length < u.length
  · rw [if_pos hs, aqL_at u s i h]
    by_cases h2 : i < s.length
    · rw [if_pos h2, if_pos h2, x64_comm]
    · rw [if_neg h2, if_neg h2, x64_zero (getD_wf hz h)]
  · rw [if_neg hs, aqL_at s u i (by omega), if_pos h, if_pos (by omega)]
theorem add_left {s u : List Int} {i : Nat} (h : ¬ i < u.length) (h2 : i < max s.length u.length) : (if i < s.length then s.getD i 0 else 0) = (addL s u).getD i 0 := by
  have hs : ¬ s.length < u.length := by omega
  unfold addL
  rw [if_neg hs, aqL_at s u i (by omega), if_neg h, if_pos (by omega)]
/-- Places that may be, all of them. -/
def okAll (m t D : Nat) (l : List Int) : Prop := ∀ i, i < l.length → 0 ≤ l.getD i 0 ∧ l.getD i 0 < ((8 * D + dg m t : Nat) : Int)
theorem okAll_nat {m t D : Nat} {l : List Int} (h : okAll m t D l) : ∃ L : List Nat, l = L.map Int.ofNat ∧ ∀ x ∈ L, x < 8 * D + dg m t := by
  refine ⟨l.map Int.toNat, ?_, fun x hx => ?_⟩
  · rw [List.map_map]
    refine (List.map_id l).symm.trans (List.map_congr_left fun z hz => ?_)
    obtain ⟨i, hi, e⟩ := List.mem_iff_getElem.1 hz
    have := h i hi
    rw [List.getD_eq_getElem?_getD, List.getElem?_eq_getElem hi, Option.getD_some, e] at this
    show z = ((z.toNat : Nat) : Int)
    omega
  · obtain ⟨z, hz, rfl⟩ := List.mem_map.1 hx
    obtain ⟨i, hi, e⟩ := List.mem_iff_getElem.1 hz
    have := h i hi
    rw [List.getD_eq_getElem?_getD, List.getElem?_eq_getElem hi, Option.getD_some, e] at this
    omega
theorem first_of {P : Nat → Prop} : ∀ {n : Nat}, (∃ i, i < n ∧ ¬ P i) → ∃ j, j < n ∧ ¬ P j ∧ ∀ i, i < j → P i
  | 0, h => by obtain ⟨i, hi, _⟩ := h; omega
  | n + 1, h => by
    by_cases h2 : ∃ i, i < n ∧ ¬ P i
    · obtain ⟨j, h3, h4, h5⟩ := first_of h2
      exact ⟨j, by omega, h4, h5⟩
    · obtain ⟨i, hi, hP⟩ := h
      refine ⟨i, hi, hP, fun k hk => Classical.byContradiction fun hn => h2 ⟨k, by omega, hn⟩⟩
theorem first_bad {m t D : Nat} {l : List Int} (h : ¬ okAll m t D l) : ∃ j, j < l.length ∧ (l.getD j 0 < 0 ∨ ((8 * D + dg m t : Nat) : Int) ≤ l.getD j 0) ∧ ∀ i, i < j → 0 ≤ l.getD i 0 ∧ l.getD i 0 < ((8 * D + dg m t : Nat) : Int) := by
  obtain ⟨i, hi⟩ := Classical.not_forall.1 h
  obtain ⟨h1, h2⟩ := Classical.not_imp.1 hi
  obtain ⟨j, h3, h4, h5⟩ := first_of (P := fun i => 0 ≤ l.getD i 0 ∧ l.getD i 0 < ((8 * D + dg m t : Nat) : Int)) ⟨i, h1, h2⟩
  exact ⟨j, h3, by omega, h5⟩

theorem says7_long (a0 a1 a2 : Int) (A3 : Option Addr) (n3 c3 : Nat) (p3 : List Nat) (A4 : Option Addr) (n4 c4 : Nat) (p4 : List Nat) (A5 : Option Addr) (n5 c5 : Nat) (l5 : List Int) (A6 : Option Addr) (n6 c6 : Nat) (l6 : List Int) (A7 : Option Addr) (n7 c7 : Nat) (l7 : List Int) (e : Nat → Addr) (w : World) (ha3 : Has (sl 1 A3 n3 (nats .u8 p3)) w) (_hp3 : ∀ x ∈ p3, x < 256) (hn3 : n3 ≤ 9223372036854775807) (hcp3 : n3 ≤ c3) (ha4 : Has (sl 1 A4 n4 (nats .u8 p4)) w) (_hp4 : ∀ x ∈ p4, x < 256) (hn4 : n4 ≤ 9223372036854775807) (hcp4 : n4 ≤ c4) (hs5 : Has (sl 1 A5 n5 (ints .i64 l5)) w) (hn5 : n5 ≤ 9223372036854775807) (_hz5 : ∀ z ∈ l5, (Lit.int .i64 z).wf = true) (hs6 : Has (sl 1 A6 n6 (ints .i64 l6)) w) (hn6 : n6 ≤ 9223372036854775807) (_hz6 : ∀ z ∈ l6, (Lit.int .i64 z).wf = true) (hs7 : Has (sl 1 A7 n7 (ints .i64 l7)) w) (hn7 : n7 ≤ 9223372036854775807) (_hz7 : ∀ z ∈ l7, (Lit.int .i64 z).wf = true) (he : Er e w 1) (_heL : Er e w 0) (h50 : 50 < n5 ∨ 50 < n6 ∨ 50 < n7) : Spec1 Tryd.prog 3 [.int .i64 a0, .int .i64 a1, .int .i64 a2, .slice A3 n3 c3, .slice A4 n4 c4, .slice A5 n5 c5, .slice A6 n6 c6, .slice A7 n7 c7] w (.bool true) := by
  have hla3 := nats_len ha3
  subst hla3
  have hla4 := nats_len ha4
  subst hla4
  have hla5 := ints_len hs5
  subst hla5
  have hla6 := ints_len hs6
  subst hla6
  have hla7 := ints_len hs7
  subst hla7
  refine spec_of Tryd.func3 rfl Tryd.ntmps3 rfl ?_
  refine CW.seq ?_
  refine CW.reg [0] rfl ?_
  refine s_as 16 rfl rfl ?_
  refine SX.next ?_
  refine CW.seq ?_
  refine CW.reg [0, 1] rfl ?_
  refine s_call1 34 rfl rfl rfl rfl (fun w hw => first7_spec e w (hw.er he)) (fun _ _ => trivial) ?_
  refine s_as 17 rfl rfl ?_
  refine SX.next ?_
  refine CW.seq ?_
  refine CW.reg [0, 1, 2, 3, 4, 5, 6, 7, 8, 9, 10, 11] rfl ?_
  refine s_mv 36 rfl rfl ?_
  refine s_mv 37 rfl rfl ?_
  refine s_mv 38 rfl rfl ?_
  refine s_call 39 rfl rfl rfl rfl (fun w hw => shalelaw7_made a0 a1 a2 w) (fun _ _ => trivial) (fun z hz => ?_)
  obtain ⟨c, q, m, t, D, g⟩ := z
  obtain ⟨hC, hq, hg, hmM, htT, hdB, hm6⟩ := hz
  simp only at hC hq hg hmM htT hdB hm6
  obtain ⟨hMT, h1D, hDm, hfit⟩ := hC
  have hm := hMT.ok
  have hd1 := hMT.d1
  have hd5 := hMT.d560
  have hp1 := hMT.p1
  have hp7 := hMT.p70
  refine SX.pre (C' := Sto w [codeA c m t D q, genOf m t g]) (fun _ hw => hw) ?_
  refine s_mv 35 rfl rfl ?_
  refine s_ext 40 rfl rfl rfl ?_
  refine s_ext 41 rfl rfl rfl ?_
  refine s_ext 42 rfl rfl rfl ?_
  refine s_alloc 19 rfl (fun _ _ => trivial) (fun b19 => ?_)
  refine s_as 18 rfl rfl ?_
  refine s_stAll 0 rfl rfl (by kernel_rfl) rfl rfl rfl rfl (fun _ _ => trivial) ?_
  refine s_as 20 rfl rfl ?_
  refine SX.next ?_
  refine CW.seq ?_
  refine CW.seq ?_
  refine CW.reg [0, 1, 2, 3, 4, 5, 6, 7, 8, 9, 10, 11, 12, 13, 14, 15, 16, 17, 18, 19, 20] rfl ?_
  refine s_mv 43 rfl rfl ?_
  refine s_not 44 rfl rfl ?_
  refine s_mv 45 rfl rfl ?_
  refine s_mv 46 rfl rfl ?_
  refine s_len 47 rfl rfl ?_
  refine s_gt 48 rfl rfl rfl rfl ?_
  refine s_pickF 49 rfl rfl rfl ?_
  refine s_mv 50 rfl rfl ?_
  refine SX.bool 50 rfl (fun hb => ?_) (fun hb => ?_)
  · skip
    skip
    refine SX.skip rfl ?_
    refine SX.skip rfl ?_
    refine SX.skip rfl ?_
    refine s_pickT 54 rfl rfl rfl ?_
    refine s_mv 55 rfl rfl ?_
    refine SX.skip rfl ?_
    refine SX.skip rfl ?_
    refine SX.skip rfl ?_
    refine s_pickT 59 rfl rfl rfl ?_
    refine s_mv 60 rfl rfl ?_
    refine SX.skip rfl ?_
    refine SX.skip rfl ?_
    refine s_pickT 63 rfl rfl rfl ?_
    refine SX.next ?_
    refine CW.condT rfl ?_
    refine CW.seq ?_
    refine CW.reg [0, 1, 2, 3, 4] rfl ?_
    refine s_mv 64 rfl rfl ?_
    refine s_mv 65 rfl rfl ?_
    refine s_mv 66 rfl rfl ?_
    refine s_pickT 67 rfl rfl rfl ?_
    refine s_as 16 rfl rfl ?_
    refine SX.next ?_
    refine CW.ret ?_
    exact KN.ret (rs := [.tmp 16]) Tryd.results3 rfl (fun w hw => ⟨rfl, hw.nothing⟩)
  · skip
    have h5 := of_decide_eq_false hb
    refine s_mv 51 rfl rfl ?_
    refine s_len 52 rfl rfl ?_
    refine s_gt 53 rfl rfl rfl rfl ?_
    refine s_pickF 54 rfl rfl rfl ?_
    refine s_mv 55 rfl rfl ?_
    refine SX.bool 55 rfl (fun hb => ?_) (fun hb => ?_)
    · skip
      skip
      refine SX.skip rfl ?_
      refine SX.skip rfl ?_
      refine SX.skip rfl ?_
      refine s_pickT 59 rfl rfl rfl ?_
      refine s_mv 60 rfl rfl ?_
      refine SX.skip rfl ?_
      refine SX.skip rfl ?_
      refine s_pickT 63 rfl rfl rfl ?_
      refine SX.next ?_
      refine CW.condT rfl ?_
      refine CW.seq ?_
      refine CW.reg [0, 1, 2, 3, 4] rfl ?_
      refine s_mv 64 rfl rfl ?_
      refine s_mv 65 rfl rfl ?_
      refine s_mv 66 rfl rfl ?_
      refine s_pickT 67 rfl rfl rfl ?_
      refine s_as 16 rfl rfl ?_
      refine SX.next ?_
      refine CW.ret ?_
      exact KN.ret (rs := [.tmp 16]) Tryd.results3 rfl (fun w hw => ⟨rfl, hw.nothing⟩)
    · skip
      have h6 := of_decide_eq_false hb
      refine s_mv 56 rfl rfl ?_
      refine s_len 57 rfl rfl ?_
      refine s_gt 58 rfl rfl rfl rfl ?_
      refine s_pickF 59 rfl rfl rfl ?_
      refine s_mv 60 rfl rfl ?_
      refine SX.bool 60 rfl (fun hb => ?_) (fun hb => ?_)
      · skip
        skip
        refine SX.skip rfl ?_
        refine SX.skip rfl ?_
        refine s_pickT 63 rfl rfl rfl ?_
        refine SX.next ?_
        refine CW.condT rfl ?_
        refine CW.seq ?_
        refine CW.reg [0, 1, 2, 3, 4] rfl ?_
        refine s_mv 64 rfl rfl ?_
        refine s_mv 65 rfl rfl ?_
        refine s_mv 66 rfl rfl ?_
        refine s_pickT 67 rfl rfl rfl ?_
        refine s_as 16 rfl rfl ?_
        refine SX.next ?_
        refine CW.ret ?_
        exact KN.ret (rs := [.tmp 16]) Tryd.results3 rfl (fun w hw => ⟨rfl, hw.nothing⟩)
      · skip
        have h7 := of_decide_eq_false hb
        omega

set_option maxHeartbeats 1600000 in

theorem says7_ok (a0 a1 a2 : Int) (A3 : Option Addr) (n3 c3 : Nat) (p3 : List Nat) (A4 : Option Addr) (n4 c4 : Nat) (p4 : List Nat) (A5 : Option Addr) (n5 c5 : Nat) (l5 : List Int) (A6 : Option Addr) (n6 c6 : Nat) (l6 : List Int) (A7 : Option Addr) (n7 c7 : Nat) (l7 : List Int) (e : Nat → Addr) (w : World) (ha3 : Has (sl 1 A3 n3 (nats .u8 p3)) w) (hp3 : ∀ x ∈ p3, x < 256) (hn3 : n3 ≤ 9223372036854775807) (hcp3 : n3 ≤ c3) (ha4 : Has (sl 1 A4 n4 (nats .u8 p4)) w) (hp4 : ∀ x ∈ p4, x < 256) (hn4 : n4 ≤ 9223372036854775807) (hcp4 : n4 ≤ c4) (hs5 : Has (sl 1 A5 n5 (ints .i64 l5)) w) (hn5 : n5 ≤ 9223372036854775807) (hz5 : ∀ z ∈ l5, (Lit.int .i64 z).wf = true) (hs6 : Has (sl 1 A6 n6 (ints .i64 l6)) w) (hn6 : n6 ≤ 9223372036854775807) (hz6 : ∀ z ∈ l6, (Lit.int .i64 z).wf = true) (hs7 : Has (sl 1 A7 n7 (ints .i64 l7)) w) (hn7 : n7 ≤ 9223372036854775807) (hz7 : ∀ z ∈ l7, (Lit.int .i64 z).wf = true) (he : Er e w 1) (heL : Er e w 0) (h5 : n5 ≤ 50) (h6 : n6 ≤ 50) (h7 : n7 ≤ 50) : Spec1 Tryd.prog 3 [.int .i64 a0, .int .i64 a1, .int .i64 a2, .slice A3 n3 c3, .slice A4 n4 c4, .slice A5 n5 c5, .slice A6 n6 c6, .slice A7 n7 c7] w (.bool true) := by
  have hla3 := nats_len ha3
  subst hla3
  have hla4 := nats_len ha4
  subst hla4
  have hla5 := ints_len hs5
  subst hla5
  have hla6 := ints_len hs6
  subst hla6
  have hla7 := ints_len hs7
  subst hla7
  refine spec_of Tryd.func3 rfl Tryd.ntmps3 rfl ?_
  refine CW.seq ?_
  refine CW.reg [0] rfl ?_
  refine s_as 16 rfl rfl ?_
  refine SX.next ?_
  refine CW.seq ?_
  refine CW.reg [0, 1] rfl ?_
  refine s_call1 34 rfl rfl rfl rfl (fun w hw => first7_spec e w (hw.er he)) (fun _ _ => trivial) ?_
  refine s_as 17 rfl rfl ?_
  refine SX.next ?_
  refine CW.seq ?_
  refine CW.reg [0, 1, 2, 3, 4, 5, 6, 7, 8, 9, 10, 11] rfl ?_
  refine s_mv 36 rfl rfl ?_
  refine s_mv 37 rfl rfl ?_
  refine s_mv 38 rfl rfl ?_
  refine s_call 39 rfl rfl rfl rfl (fun w hw => shalelaw7_made a0 a1 a2 w) (fun _ _ => trivial) (fun z hz => ?_)
  obtain ⟨c, q, m, t, D, g⟩ := z
  obtain ⟨hC, hq, hg, hmM, htT, hdB, hm6⟩ := hz
  simp only at hC hq hg hmM htT hdB hm6
  obtain ⟨hMT, h1D, hDm, hfit⟩ := hC
  have hm := hMT.ok
  have hd1 := hMT.d1
  have hd5 := hMT.d560
  have hp1 := hMT.p1
  have hp7 := hMT.p70
  refine SX.pre (C' := Sto w [codeA c m t D q, genOf m t g]) (fun _ hw => hw) ?_
  refine s_mv 35 rfl rfl ?_
  refine s_ext 40 rfl rfl rfl ?_
  refine s_ext 41 rfl rfl rfl ?_
  refine s_ext 42 rfl rfl rfl ?_
  refine s_alloc 19 rfl (fun _ _ => trivial) (fun b19 => ?_)
  refine s_as 18 rfl rfl ?_
  refine s_stAll 0 rfl rfl (by kernel_rfl) rfl rfl rfl rfl (fun _ _ => trivial) ?_
  refine s_as 20 rfl rfl ?_
  refine SX.next ?_
  refine CW.seq ?_
  refine CW.seq ?_
  refine CW.reg [0, 1, 2, 3, 4, 5, 6, 7, 8, 9, 10, 11, 12, 13, 14, 15, 16, 17, 18, 19, 20] rfl ?_
  refine s_mv 43 rfl rfl ?_
  refine s_not 44 rfl rfl ?_
  refine s_mv 45 rfl rfl ?_
  refine s_mv 46 rfl rfl ?_
  refine s_len 47 rfl rfl ?_
  refine s_gt 48 rfl rfl rfl (decide_eq_false (by omega)) ?_
  refine s_pickF 49 rfl rfl rfl ?_
  refine s_mv 50 rfl rfl ?_
  refine s_mv 51 rfl rfl ?_
  refine s_len 52 rfl rfl ?_
  refine s_gt 53 rfl rfl rfl (decide_eq_false (by omega)) ?_
  refine s_pickF 54 rfl rfl rfl ?_
  refine s_mv 55 rfl rfl ?_
  refine s_mv 56 rfl rfl ?_
  refine s_len 57 rfl rfl ?_
  refine s_gt 58 rfl rfl rfl (decide_eq_false (by omega)) ?_
  refine s_pickF 59 rfl rfl rfl ?_
  refine s_mv 60 rfl rfl ?_
  refine s_mv 61 rfl rfl ?_
  refine s_not 62 rfl rfl ?_
  refine s_pickF 63 rfl rfl rfl ?_
  refine SX.next ?_
  refine CW.condF rfl ?_
  refine CW.skip ?_
  refine KN.code ?_
  refine CW.cut (G := Unit) (fun _ => [(3, .slice A3 p3.length c3), (4, .slice A4 p4.length c4), (5, .slice A5 l5.length c5), (6, .slice A6 l6.length c6), (7, .slice A7 l7.length c7), (18, .pointer (some ⟨c, 0, none⟩)), (19, .pointer (some ⟨b19, 0, none⟩))]) (fun _ => Sto w [blk b19 27 (refC m t D g), codeA c m t D q, genOf m t g]) (fun _ => True) ?_ ?_
  · skip
    refine CW.seq ?_
    refine CW.reg [0, 1, 2, 3, 4, 5, 6, 7, 8, 9, 10, 11] rfl ?_
    refine s_mv 68 rfl rfl ?_
    refine s_len 69 rfl rfl ?_
    refine s_fa 70 rfl rfl ?_
    refine s_ldB 71 0 rfl rfl rfl (v := .int .i64 (D : Nat)) rfl ?_
    refine s_ne 72 rfl rfl rfl rfl ?_
    refine s_mv 73 rfl rfl ?_
    refine SX.bool 73 rfl (fun hb => ?_) (fun hb => ?_)
    · skip
      have hne := of_decide_eq_true hb
      refine SX.skip rfl ?_
      refine SX.skip rfl ?_
      refine SX.skip rfl ?_
      refine SX.skip rfl ?_
      refine SX.skip rfl ?_
      refine s_pickT 79 rfl rfl rfl ?_
      refine SX.next ?_
      refine CW.condT rfl ?_
      refine CW.seq ?_
      refine CW.reg [0, 1, 2, 3, 4, 5, 6, 7, 8] rfl ?_
      refine s_mv 81 rfl rfl ?_
      refine s_mv 82 rfl rfl ?_
      refine s_mv 83 rfl rfl ?_
      refine s_call1 84 rfl rfl rfl rfl (fun w hw => of7_long c m t D q A3 p3.length c3 p3 A4 p4.length c4 p4 e w (hw.has (i := 1) rfl) (hw.er heL) (by omega)) (fun _ _ => trivial) ?_
      refine s_mv 80 rfl rfl ?_
      refine s_ext 85 rfl rfl rfl ?_
      refine s_ext 86 rfl rfl rfl ?_
      refine s_as 21 rfl rfl ?_
      refine s_as 22 rfl rfl ?_
      refine SX.next ?_
      refine CW.seq ?_
      refine CW.reg [0, 1, 2, 3, 4, 5, 6, 7] rfl ?_
      refine s_mv 87 rfl rfl ?_
      refine s_ld 88 rfl rfl (fun _ h => h.cell heL) ?_
      refine s_neE 89 rfl rfl rfl ?_
      refine s_mv 90 rfl rfl ?_
      refine s_mv 91 rfl rfl ?_
      refine s_len 92 rfl rfl ?_
      refine s_ne 93 rfl rfl rfl (decide_eq_false (fun h => h rfl)) ?_
      refine s_pickF 94 rfl rfl rfl ?_
      refine SX.next ?_
      refine CW.condF rfl ?_
      refine CW.skip ?_
      exact KN.join () ⟨rfl, rfl, rfl, rfl, rfl, rfl, rfl, trivial⟩ (fun _ hw => hw) trivial
    · skip
      skip
      refine s_mv 74 rfl rfl ?_
      refine s_len 75 rfl rfl ?_
      refine s_ldW 76 0 rfl rfl rfl ?_
      refine s_call1 77 rfl rfl rfl rfl (fun w hw => rPar_spec m t D g w hMT) (fun _ _ => trivial) ?_
      refine s_ne 78 rfl rfl rfl rfl ?_
      refine s_pickF 79 rfl rfl rfl ?_
      refine SX.next ?_
      refine CW.test rfl (fun hc => ?_) (fun hc => ?_)
      · skip
        refine CW.seq ?_
        refine CW.reg [0, 1, 2, 3, 4, 5, 6, 7, 8] rfl ?_
        refine s_mv 81 rfl rfl ?_
        refine s_mv 82 rfl rfl ?_
        refine s_mv 83 rfl rfl ?_
        refine s_call1 84 rfl rfl rfl rfl (fun w hw => of7_long c m t D q A3 p3.length c3 p3 A4 p4.length c4 p4 e w (hw.has (i := 1) rfl) (hw.er heL) (by omega)) (fun _ _ => trivial) ?_
        refine s_mv 80 rfl rfl ?_
        refine s_ext 85 rfl rfl rfl ?_
        refine s_ext 86 rfl rfl rfl ?_
        refine s_as 21 rfl rfl ?_
        refine s_as 22 rfl rfl ?_
        refine SX.next ?_
        refine CW.seq ?_
        refine CW.reg [0, 1, 2, 3, 4, 5, 6, 7] rfl ?_
        refine s_mv 87 rfl rfl ?_
        refine s_ld 88 rfl rfl (fun _ h => h.cell heL) ?_
        refine s_neE 89 rfl rfl rfl ?_
        refine s_mv 90 rfl rfl ?_
        refine s_mv 91 rfl rfl ?_
        refine s_len 92 rfl rfl ?_
        refine s_ne 93 rfl rfl rfl (decide_eq_false (fun h => h rfl)) ?_
        refine s_pickF 94 rfl rfl rfl ?_
        refine SX.next ?_
        refine CW.condF rfl ?_
        refine CW.skip ?_
        exact KN.join () ⟨rfl, rfl, rfl, rfl, rfl, rfl, rfl, trivial⟩ (fun _ hw => hw) trivial
      · skip
        refine CW.skip ?_
        exact KN.join () ⟨rfl, rfl, rfl, rfl, rfl, rfl, rfl, trivial⟩ (fun _ hw => hw) trivial
  · skip
    intro _ _
    refine CW.seq ?_
    refine CW.reg [0, 1, 2, 3, 4] rfl ?_
    refine s_mv 95 rfl rfl ?_
    refine s_fa 96 rfl rfl ?_
    refine s_ldB 97 0 rfl rfl rfl (v := .int .i64 (D : Nat)) rfl ?_
    refine s_call 98 rfl rfl rfl rfl (fun w hw => shalelaw7_fit A3 p3.length c3 p3 D w (hw.old ha3) hp3 (by omega) hcp3 (by omega)) (fun _ _ => trivial) (fun q98 hq98 => ?_)
    refine s_as 23 rfl rfl ?_
    refine SX.next ?_
    refine CW.seq ?_
    refine CW.reg [0, 1, 2, 3, 4] rfl ?_
    refine s_mv 99 rfl rfl ?_
    refine s_ldW 100 1 rfl rfl rfl ?_
    refine s_call1 101 rfl rfl rfl rfl (fun w hw => rPar_spec m t D g w hMT) (fun _ _ => trivial) ?_
    refine s_call 102 rfl rfl rfl rfl (fun w hw => shalelaw7_fit A4 p4.length c4 p4 (prB m t) w (hw.old ha4) hp4 (by omega) hcp4 (by omega)) (fun _ _ => trivial) (fun q102 hq102 => ?_)
    refine s_as 24 rfl rfl ?_
    refine SX.next ?_
    refine CW.seq ?_
    refine CW.reg [0, 1, 2, 3, 4, 5, 6, 7, 8] rfl ?_
    refine s_mv 104 rfl rfl ?_
    refine s_mv 105 rfl rfl ?_
    refine s_mv 106 rfl rfl ?_
    have hfl := fitL_len p3 D
    have hflt := fitL_lt hp3 D
    have hrl := fitL_len p4 (prB m t)
    have hrlt := fitL_lt hp4 (prB m t)
    have h40 := hMT.t40
    have hsl := synL_len m t (posL m t (fitL p3 D) (fitL p4 (prB m t)) (8 * D + dg m t))
    refine s_call 107 rfl rfl rfl rfl (fun w hw => of7_ok c m t D q q98.1 (fitL p3 D).length q98.2 (fitL p3 D) q102.1 (fitL p4 (prB m t)).length q102.2 (fitL p4 (prB m t)) w hMT hDm (hw.has (i := 3) rfl) ((hw.has (i := 1) rfl).of_own) hflt (by omega) hq98 ((hw.has (i := 0) rfl).of_own) hrlt (by omega) hq102 hfl hrl) (fun _ _ => trivial) (fun q107 hq107 => ?_)
    refine s_mv 103 rfl rfl ?_
    refine s_ext 108 rfl rfl rfl ?_
    refine s_ext 109 rfl rfl rfl ?_
    refine s_as 25 rfl rfl ?_
    refine s_as 26 rfl rfl ?_
    refine SX.next ?_
    refine CW.seq ?_
    refine CW.seq ?_
    refine CW.reg [0, 1, 2, 3, 4, 5, 6, 7, 8, 9, 10] rfl ?_
    refine s_mv 110 rfl rfl ?_
    refine s_neNN 111 rfl rfl ?_
    refine s_mv 112 rfl rfl ?_
    refine s_mv 113 rfl rfl ?_
    refine s_ldW 114 3 rfl rfl rfl ?_
    refine s_mv 115 rfl rfl ?_
    refine s_mv 116 rfl rfl ?_
    refine s_call 117 rfl rfl rfl rfl (fun w hw => rSyn_spec m t D g q98.1 (fitL p3 D).length q98.2 (fitL p3 D) q102.1 (fitL p4 (prB m t)).length q102.2 (fitL p4 (prB m t)) w hMT hDm ((hw.has (i := 2) rfl).of_own) hflt (by omega) hq98 ((hw.has (i := 1) rfl).of_own) hrlt (by omega) hq102) (fun _ _ => trivial) (fun q117 hq117 => ?_)
    refine s_call1 118 rfl rfl rfl rfl (v := .bool true) (fun w hw => by have := sameInts_spec q107.1 q117.1 (synL m t (posL m t (fitL p3 D) (fitL p4 (prB m t)) (8 * D + dg m t))).length q107.2 (synL m t (posL m t (fitL p3 D) (fitL p4 (prB m t)) (8 * D + dg m t))).length q117.2 ((synL m t (posL m t (fitL p3 D) (fitL p4 (prB m t)) (8 * D + dg m t))).map Int.ofNat) ((synL m t (posL m t (fitL p3 D) (fitL p4 (prB m t)) (8 * D + dg m t))).map Int.ofNat) w (by rw [← nats_ints]; exact (hw.has (i := 1) rfl).of_own) (by rw [← nats_ints]; exact (hw.has (i := 0) rfl).of_own) (by omega); rw [decide_eq_true rfl] at this; exact this) (fun _ _ => trivial) ?_
    refine s_not 119 rfl rfl ?_
    refine s_pickF 120 rfl rfl rfl ?_
    refine SX.next ?_
    refine CW.condF rfl ?_
    refine CW.skip ?_
    refine KN.code ?_
    refine CW.seq ?_
    by_cases hok : okAll m t D l5
    · skip
      obtain ⟨L5, rfl, hL5⟩ := okAll_nat hok
      rw [List.length_map] at h5
      rw [← nats_ints, List.length_map] at hs5
      rw [List.length_map]
      have hsl5 := synL_len m t L5
      refine CW.reg [0, 1, 2, 3, 4, 5, 6, 7] rfl ?_
      refine s_mv 122 rfl rfl ?_
      refine s_mv 123 rfl rfl ?_
      refine s_call 124 rfl rfl rfl rfl (fun w hw => bits7_ok c m t D q A5 c5 L5 w hMT hDm (hw.has (i := 5) rfl) (hw.old hs5) (by omega) hL5) (fun _ _ => trivial) (fun q124 hq124 => ?_)
      refine s_mv 121 rfl rfl ?_
      refine s_ext 125 rfl rfl rfl ?_
      refine s_ext 126 rfl rfl rfl ?_
      refine s_as 27 rfl rfl ?_
      refine s_as 28 rfl rfl ?_
      refine SX.next ?_
      refine CW.seq ?_
      refine CW.reg [0] rfl ?_
      refine s_as 29 rfl rfl ?_
      refine SX.next ?_
      refine CW.seq ?_
      refine CW.seq ?_
      refine CW.reg [0] rfl ?_
      refine s_as 30 rfl rfl ?_
      refine SX.next ?_
      refine CW.block ?_
      refine CW.loop (G := Nat) (fun i => [(5, .slice A5 L5.length c5), (6, .slice A6 l6.length c6), (7, .slice A7 l7.length c7), (18, .pointer (some ⟨c, 0, none⟩)), (19, .pointer (some ⟨b19, 0, none⟩)), (27, .slice q124.1 (synL m t L5).length q124.2), (28, .nilIface), (29, .bool false), (30, .int .i64 (i : Nat))]) (fun _ => Sto w [own 3 1 q124.1 (synL m t L5).length q124.2 (nats .i64 (synL m t L5)), own 3 1 q117.1 (synL m t (posL m t (fitL p3 D) (fitL p4 (prB m t)) (8 * D + dg m t))).length q117.2 (nats .i64 (synL m t (posL m t (fitL p3 D) (fitL p4 (prB m t)) (8 * D + dg m t)))), own 3 1 q107.1 (synL m t (posL m t (fitL p3 D) (fitL p4 (prB m t)) (8 * D + dg m t))).length q107.2 (nats .i64 (synL m t (posL m t (fitL p3 D) (fitL p4 (prB m t)) (8 * D + dg m t)))), own 5 1 q102.1 (fitL p4 (prB m t)).length q102.2 (nats .u8 (fitL p4 (prB m t))), own 5 1 q98.1 (fitL p3 D).length q98.2 (nats .u8 (fitL p3 D)), blk b19 27 (refC m t D g), codeA c m t D q, genOf m t g]) (fun i => i ≤ L5.length) (fun i => L5.length - i) 0 ⟨rfl, rfl, rfl, rfl, rfl, rfl, rfl, rfl, rfl, trivial⟩ (fun _ hw => hw) (Nat.zero_le _) ?_
      intro i hi
      refine CW.seq ?_
      refine CW.seq ?_
      refine CW.reg [0, 1, 2, 3] rfl ?_
      refine s_mv 127 rfl rfl ?_
      refine s_mv 128 rfl rfl ?_
      refine s_len 129 rfl rfl ?_
      refine s_lt 130 rfl rfl rfl rfl ?_
      refine SX.next ?_
      refine CW.test rfl (fun hc => ?_) (fun hc => ?_)
      · skip
        have hcl := hL5 _ (cf_mem (show i < L5.length by omega))
        refine CW.skip ?_
        refine KN.code ?_
        refine CW.seq ?_
        refine CW.block ?_
        refine CW.regD (.st true 0 (.st true 1 (.st true 2 (.st true 3 (.st true 4 (.st true 5 (.st true 6 (.st true 7 (.st true 8 (.st true 9 (.st true 10 (.st true 11 (.st true 12 (.st true 13 (.st false 14 (.st true 15 (.st true 16 (.st true 17 .done)))))))))))))))))) (Sto w [own 3 1 q124.1 (synL m t L5).length q124.2 (nats .i64 (synL m t L5)), own 3 1 q117.1 (synL m t (posL m t (fitL p3 D) (fitL p4 (prB m t)) (8 * D + dg m t))).length q117.2 (nats .i64 (synL m t (posL m t (fitL p3 D) (fitL p4 (prB m t)) (8 * D + dg m t)))), own 3 1 q107.1 (synL m t (posL m t (fitL p3 D) (fitL p4 (prB m t)) (8 * D + dg m t))).length q107.2 (nats .i64 (synL m t (posL m t (fitL p3 D) (fitL p4 (prB m t)) (8 * D + dg m t)))), own 5 1 q102.1 (fitL p4 (prB m t)).length q102.2 (nats .u8 (fitL p4 (prB m t))), own 5 1 q98.1 (fitL p3 D).length q98.2 (nats .u8 (fitL p3 D)), blk b19 27 (refC m t D g), codeA c m t D q, genOf m t g]) mixed (by kernel_rfl) (fun _ h => h.drew) (fun _ hw => hw) ?_
        refine s_mv 133 rfl rfl ?_
        refine s_mv 134 rfl rfl ?_
        refine s_mv 135 rfl rfl ?_
        refine s_mv 136 rfl rfl ?_
        refine s_iaV 137 i (fun w hw => hw.old hs5) rfl rfl rfl rfl (by omega) ?_
        refine s_ldVS 138 (fun w hw => hw.old hs5) rfl rfl (by rw [Nat.mul_one]; exact natsAtC (show i < L5.length by omega)) (by omega) ?_
        refine s_lt 139 rfl rfl rfl (decide_eq_false (by omega)) ?_
        refine s_pickF 140 rfl rfl rfl ?_
        refine s_mv 141 rfl rfl ?_
        refine s_mv 142 rfl rfl ?_
        refine s_mv 143 rfl rfl ?_
        refine s_iaV 144 i (fun w hw => hw.old hs5) rfl rfl rfl rfl (by omega) ?_
        refine s_ldVS 145 (fun w hw => hw.old hs5) rfl rfl (by rw [Nat.mul_one]; exact natsAtC (show i < L5.length by omega)) (by omega) ?_
        refine s_ldRS 146 (cs := (refC m t D g).toList) rfl rfl rfl (fun _ hw => hw.blkRow (i := 5) rfl) ?_
        refine s_call1 147 rfl rfl rfl rfl (fun w hw => rBits_spec m t D g w hMT hDm) (fun _ hw => hw) ?_
        refine s_ge 148 rfl rfl rfl (decide_eq_false (by omega)) ?_
        refine s_pickF 149 rfl rfl rfl ?_
        refine s_as 29 rfl rfl ?_
        refine SX.end_ ?_
        refine KN.blk ?_
        refine KN.code ?_
        refine CW.reg [0, 1, 2] rfl ?_
        refine s_mv 131 rfl rfl ?_
        refine s_add 132 rfl rfl rfl (r := ((i + 1 : Nat) : Int)) (w64 (by omega)) ?_
        refine s_as 30 rfl rfl ?_
        refine SX.end_ ?_
        exact KN.back (i + 1) ⟨rfl, rfl, rfl, rfl, rfl, rfl, rfl, rfl, rfl, trivial⟩ (fun _ hw => hw) (by omega) (by omega)
      · skip
        obtain rfl : i = L5.length := by omega
        refine CW.exit rfl ?_
        refine KN.code ?_
        refine CW.seq ?_
        refine CW.seq ?_
        refine CW.reg [0, 1, 2, 3, 4, 5, 6, 7, 8, 9, 10, 11, 12, 13, 14, 15, 16, 17, 18, 19, 20, 21, 22, 23, 24, 25, 26] rfl ?_
        refine s_mv 150 rfl rfl ?_
        refine s_mv 151 rfl rfl ?_
        refine SX.skip rfl ?_
        refine SX.skip rfl ?_
        refine SX.skip rfl ?_
        refine SX.skip rfl ?_
        refine SX.skipU rfl ?_
        refine SX.skipU rfl ?_
        refine SX.skipU rfl ?_
        refine SX.skip rfl ?_
        refine s_pickF 160 rfl rfl rfl ?_
        refine s_mv 161 rfl rfl ?_
        refine s_mv 162 rfl rfl ?_
        refine s_not 163 rfl rfl ?_
        refine s_mv 164 rfl rfl ?_
        refine s_mv 165 rfl rfl ?_
        refine s_neNN 166 rfl rfl ?_
        refine s_mv 167 rfl rfl ?_
        refine s_mv 168 rfl rfl ?_
        refine s_ldW 169 5 rfl rfl rfl ?_
        refine s_mv 170 rfl rfl ?_
        refine s_call 171 rfl rfl rfl rfl (fun w hw => rSynOf_spec m t D g A5 c5 L5 w hMT (hw.old hs5) (by omega) (fun x hx => by have := hL5 x hx; have := hMT.d560; omega)) (fun _ _ => trivial) (fun q171 hq171 => ?_)
        refine s_call1 172 rfl rfl rfl rfl (v := .bool true) (fun w hw => by have := sameInts_spec q124.1 q171.1 (synL m t L5).length q124.2 (synL m t L5).length q171.2 ((synL m t L5).map Int.ofNat) ((synL m t L5).map Int.ofNat) w (by rw [← nats_ints]; exact (hw.has (i := 1) rfl).of_own) (by rw [← nats_ints]; exact (hw.has (i := 0) rfl).of_own) (by omega); rw [decide_eq_true rfl] at this; exact this) (fun _ _ => trivial) ?_
        refine s_not 173 rfl rfl ?_
        refine s_pickF 174 rfl rfl rfl ?_
        refine s_pickT 175 rfl rfl rfl ?_
        refine s_pickF 176 rfl rfl rfl ?_
        refine SX.next ?_
        refine CW.condF rfl ?_
        refine CW.skip ?_
        refine KN.code ?_
        refine CW.seq ?_
        refine CW.reg [0, 1, 2, 3] rfl ?_
        refine s_mv 177 rfl rfl ?_
        refine s_mv 178 rfl rfl ?_
        refine s_call 179 rfl rfl rfl rfl (fun w hw => add7_spec A6 l6.length c6 l6 A7 l7.length c7 l7 w (hw.old hs6) (by omega) (hw.old hs7) (by omega)) (fun _ _ => trivial) (fun q179 hq179 => ?_)
        refine s_as 31 rfl rfl ?_
        refine SX.next ?_
        refine CW.seq ?_
        refine CW.seq ?_
        refine CW.reg [0] rfl ?_
        refine s_as 32 rfl rfl ?_
        refine SX.next ?_
        refine CW.block ?_
        refine CW.loop (G := Nat) (fun i => [(6, .slice A6 l6.length c6), (7, .slice A7 l7.length c7), (18, .pointer (some ⟨c, 0, none⟩)), (19, .pointer (some ⟨b19, 0, none⟩)), (31, .slice q179.1 (addL l6 l7).length q179.2), (32, .int .i64 (i : Nat))]) (fun _ => Sto w [own 3 1 q179.1 (addL l6 l7).length q179.2 (ints .i64 (addL l6 l7)), own 3 1 q171.1 (synL m t L5).length q171.2 (nats .i64 (synL m t L5)), own 3 1 q124.1 (synL m t L5).length q124.2 (nats .i64 (synL m t L5)), own 3 1 q117.1 (synL m t (posL m t (fitL p3 D) (fitL p4 (prB m t)) (8 * D + dg m t))).length q117.2 (nats .i64 (synL m t (posL m t (fitL p3 D) (fitL p4 (prB m t)) (8 * D + dg m t)))), own 3 1 q107.1 (synL m t (posL m t (fitL p3 D) (fitL p4 (prB m t)) (8 * D + dg m t))).length q107.2 (nats .i64 (synL m t (posL m t (fitL p3 D) (fitL p4 (prB m t)) (8 * D + dg m t)))), own 5 1 q102.1 (fitL p4 (prB m t)).length q102.2 (nats .u8 (fitL p4 (prB m t))), own 5 1 q98.1 (fitL p3 D).length q98.2 (nats .u8 (fitL p3 D)), blk b19 27 (refC m t D g), codeA c m t D q, genOf m t g]) (fun i => i ≤ max l6.length l7.length) (fun i => max l6.length l7.length - i) 0 ⟨rfl, rfl, rfl, rfl, rfl, rfl, trivial⟩ (fun _ hw => hw) (Nat.zero_le _) ?_
        intro i hi
        have hal := addL_len l6 l7
        refine CW.seq ?_
        refine CW.seq ?_
        refine CW.reg [0, 1, 2, 3, 4, 5, 6] rfl ?_
        refine s_mv 180 rfl rfl ?_
        refine s_mv 181 rfl rfl ?_
        refine s_len 182 rfl rfl ?_
        refine s_mv 183 rfl rfl ?_
        refine s_len 184 rfl rfl ?_
        refine s_max 185 rfl rfl rfl (r := ((max l6.length l7.length : Nat) : Int)) (by split <;> omega) ?_
        refine s_lt 186 rfl rfl rfl rfl ?_
        refine SX.next ?_
        refine CW.test rfl (fun hc => ?_) (fun hc => ?_)
        · skip
          have him : i < max l6.length l7.length := by omega
          refine CW.skip ?_
          refine KN.code ?_
          refine CW.seq ?_
          refine CW.block ?_
          refine CW.seq ?_
          refine CW.reg [0] rfl ?_
          refine s_as 33 rfl rfl ?_
          refine SX.next ?_
          refine CW.cut (G := Int) (fun v => [(6, .slice A6 l6.length c6), (7, .slice A7 l7.length c7), (18, .pointer (some ⟨c, 0, none⟩)), (19, .pointer (some ⟨b19, 0, none⟩)), (31, .slice q179.1 (addL l6 l7).length q179.2), (32, .int .i64 (i : Nat)), (33, .int .i64 v)]) (fun _ => Sto w [own 3 1 q179.1 (addL l6 l7).length q179.2 (ints .i64 (addL l6 l7)), own 3 1 q171.1 (synL m t L5).length q171.2 (nats .i64 (synL m t L5)), own 3 1 q124.1 (synL m t L5).length q124.2 (nats .i64 (synL m t L5)), own 3 1 q117.1 (synL m t (posL m t (fitL p3 D) (fitL p4 (prB m t)) (8 * D + dg m t))).length q117.2 (nats .i64 (synL m t (posL m t (fitL p3 D) (fitL p4 (prB m t)) (8 * D + dg m t)))), own 3 1 q107.1 (synL m t (posL m t (fitL p3 D) (fitL p4 (prB m t)) (8 * D + dg m t))).length q107.2 (nats .i64 (synL m t (posL m t (fitL p3 D) (fitL p4 (prB m t)) (8 * D + dg m t)))), own 5 1 q102.1 (fitL p4 (prB m t)).length q102.2 (nats .u8 (fitL p4 (prB m t))), own 5 1 q98.1 (fitL p3 D).length q98.2 (nats .u8 (fitL p3 D)), blk b19 27 (refC m t D g), codeA c m t D q, genOf m t g]) (fun v => v = (if i < l6.length then l6.getD i 0 else 0)) ?_ ?_
          · skip
            refine CW.seq ?_
            refine CW.reg [0, 1, 2, 3] rfl ?_
            refine s_mv 189 rfl rfl ?_
            refine s_mv 190 rfl rfl ?_
            refine s_len 191 rfl rfl ?_
            refine s_lt 192 rfl rfl rfl rfl ?_
            refine SX.next ?_
            refine CW.test rfl (fun hc => ?_) (fun hc => ?_)
            · skip
              refine CW.reg [0, 1, 2, 3, 4] rfl ?_
              refine s_mv 193 rfl rfl ?_
              refine s_mv 194 rfl rfl ?_
              refine s_iaV 195 i (fun w hw => hw.old hs6) rfl rfl rfl rfl (by omega) ?_
              refine s_ldV 196 (fun w hw => hw.old hs6) rfl rfl (by rw [Nat.mul_one]; exact intsAt (by omega)) (by omega) ?_
              refine s_as 33 rfl rfl ?_
              refine SX.end_ ?_
              exact KN.join (l6.getD i 0) ⟨rfl, rfl, rfl, rfl, rfl, rfl, rfl, trivial⟩ (fun _ hw => hw) (by rw [if_pos (by omega)])
            · skip
              refine CW.skip ?_
              exact KN.join 0 ⟨rfl, rfl, rfl, rfl, rfl, rfl, rfl, trivial⟩ (fun _ hw => hw) (by rw [if_neg (by omega)])
          · skip
            intro v hv
            refine CW.cut (G := Int) (fun v2 => [(6, .slice A6 l6.length c6), (7, .slice A7 l7.length c7), (18, .pointer (some ⟨c, 0, none⟩)), (19, .pointer (some ⟨b19, 0, none⟩)), (31, .slice q179.1 (addL l6 l7).length q179.2), (32, .int .i64 (i : Nat)), (33, .int .i64 v2)]) (fun _ => Sto w [own 3 1 q179.1 (addL l6 l7).length q179.2 (ints .i64 (addL l6 l7)), own 3 1 q171.1 (synL m t L5).length q171.2 (nats .i64 (synL m t L5)), own 3 1 q124.1 (synL m t L5).length q124.2 (nats .i64 (synL m t L5)), own 3 1 q117.1 (synL m t (posL m t (fitL p3 D) (fitL p4 (prB m t)) (8 * D + dg m t))).length q117.2 (nats .i64 (synL m t (posL m t (fitL p3 D) (fitL p4 (prB m t)) (8 * D + dg m t)))), own 3 1 q107.1 (synL m t (posL m t (fitL p3 D) (fitL p4 (prB m t)) (8 * D + dg m t))).length q107.2 (nats .i64 (synL m t (posL m t (fitL p3 D) (fitL p4 (prB m t)) (8 * D + dg m t)))), own 5 1 q102.1 (fitL p4 (prB m t)).length q102.2 (nats .u8 (fitL p4 (prB m t))), own 5 1 q98.1 (fitL p3 D).length q98.2 (nats .u8 (fitL p3 D)), blk b19 27 (refC m t D g), codeA c m t D q, genOf m t g]) (fun v2 => v2 = ((addL l6 l7).getD i 0)) ?_ ?_
            · skip
              refine CW.seq ?_
              refine CW.reg [0, 1, 2, 3] rfl ?_
              refine s_mv 197 rfl rfl ?_
              refine s_mv 198 rfl rfl ?_
              refine s_len 199 rfl rfl ?_
              refine s_lt 200 rfl rfl rfl rfl ?_
              refine SX.next ?_
              refine CW.test rfl (fun hc => ?_) (fun hc => ?_)
              · skip
                refine CW.reg [0, 1, 2, 3, 4, 5, 6] rfl ?_
                refine s_mv 201 rfl rfl ?_
                refine s_mv 202 rfl rfl ?_
                refine s_mv 203 rfl rfl ?_
                refine s_iaV 204 i (fun w hw => hw.old hs7) rfl rfl rfl rfl (by omega) ?_
                refine s_ldV 205 (fun w hw => hw.old hs7) rfl rfl (by rw [Nat.mul_one]; exact intsAt (by omega)) (by omega) ?_
                refine s_bit 206 rfl rfl rfl rfl (r := ((addL l6 l7).getD i 0)) (by rw [hv]; exact add_both hz7 (by omega)) ?_
                refine s_as 33 rfl rfl ?_
                refine SX.end_ ?_
                exact KN.join ((addL l6 l7).getD i 0) ⟨rfl, rfl, rfl, rfl, rfl, rfl, rfl, trivial⟩ (fun _ hw => hw) rfl
              · skip
                refine CW.skip ?_
                exact KN.join v ⟨rfl, rfl, rfl, rfl, rfl, rfl, rfl, trivial⟩ (fun _ hw => hw) (by rw [hv]; exact add_left (by omega) him)
            · skip
              intro v2 hv2
              refine CW.seq ?_
              refine CW.reg [0, 1, 2, 3, 4, 5, 6, 7, 8, 9, 10, 11] rfl ?_
              refine s_mv 207 rfl rfl ?_
              refine s_mv 208 rfl rfl ?_
              refine s_len 209 rfl rfl ?_
              refine s_ge 210 rfl rfl rfl (decide_eq_false (by omega)) ?_
              refine s_mv 211 rfl rfl ?_
              refine s_mv 212 rfl rfl ?_
              refine s_mv 213 rfl rfl ?_
              refine s_iaO 214 0 i rfl rfl rfl rfl rfl (by omega) ?_
              refine s_ldO 215 0 rfl rfl rfl (intsAt (by omega)) ?_
              refine s_mv 216 rfl rfl ?_
              refine s_ne 217 rfl rfl rfl (decide_eq_false (fun h => h hv2.symm)) ?_
              refine s_pickF 218 rfl rfl rfl ?_
              refine SX.next ?_
              refine CW.condF rfl ?_
              refine CW.skip ?_
              refine KN.blk ?_
              refine KN.code ?_
              refine CW.reg [0, 1, 2] rfl ?_
              refine s_mv 187 rfl rfl ?_
              refine s_add 188 rfl rfl rfl (r := ((i + 1 : Nat) : Int)) (w64 (by omega)) ?_
              refine s_as 32 rfl rfl ?_
              refine SX.end_ ?_
              exact KN.back (i + 1) ⟨rfl, rfl, rfl, rfl, rfl, rfl, trivial⟩ (fun _ hw => hw) (by omega) (by omega)
        · skip
          have hie : i = max l6.length l7.length := by omega
          refine CW.exit rfl ?_
          refine KN.code ?_
          refine CW.seq ?_
          refine CW.regD (.st true 0 (.st true 1 (.st true 2 (.st true 3 (.st true 4 (.st true 5 (.st true 6 (.st true 7 (.st true 8 (.st true 9 (.st true 11 (.st false 10 (.st false 12 (.st true 13 (.st true 14 (.st true 15 (.st true 16 (.st true 18 (.st true 20 (.st true 21 (.st true 22 (.st false 17 (.st false 19 (.st false 23 (.st true 24 (.st true 25 (.st true 26 .done))))))))))))))))))))))))))) (Sto w [own 3 1 q179.1 (addL l6 l7).length q179.2 (ints .i64 (addL l6 l7)), own 3 1 q171.1 (synL m t L5).length q171.2 (nats .i64 (synL m t L5)), own 3 1 q124.1 (synL m t L5).length q124.2 (nats .i64 (synL m t L5)), own 3 1 q117.1 (synL m t (posL m t (fitL p3 D) (fitL p4 (prB m t)) (8 * D + dg m t))).length q117.2 (nats .i64 (synL m t (posL m t (fitL p3 D) (fitL p4 (prB m t)) (8 * D + dg m t)))), own 3 1 q107.1 (synL m t (posL m t (fitL p3 D) (fitL p4 (prB m t)) (8 * D + dg m t))).length q107.2 (nats .i64 (synL m t (posL m t (fitL p3 D) (fitL p4 (prB m t)) (8 * D + dg m t)))), own 5 1 q102.1 (fitL p4 (prB m t)).length q102.2 (nats .u8 (fitL p4 (prB m t))), own 5 1 q98.1 (fitL p3 D).length q98.2 (nats .u8 (fitL p3 D)), blk b19 27 (refC m t D g), codeA c m t D q, genOf m t g]) mixed (by kernel_rfl) (fun _ h => h.drew) (fun _ hw => hw) ?_
          refine s_mv 219 rfl rfl ?_
          refine s_len 220 rfl rfl ?_
          refine s_mv 221 rfl rfl ?_
          refine s_len 222 rfl rfl ?_
          refine s_mv 223 rfl rfl ?_
          refine s_len 224 rfl rfl ?_
          refine s_max 225 rfl rfl rfl (r := ((max l6.length l7.length : Nat) : Int)) (by split <;> omega) ?_
          refine s_eq 226 rfl rfl rfl (decide_eq_true (by omega)) ?_
          refine s_mv 227 rfl rfl ?_
          refine s_mv 228 rfl rfl ?_
          refine s_mv 230 rfl rfl ?_
          refine s_call1 229 rfl rfl rfl rfl (fun w hw => clean7_spec A6 l6.length c6 l6 w (hw.old hs6) (by omega)) (fun _ hw => hw) ?_
          refine s_call1 231 rfl rfl rfl rfl (fun w hw => rClean_spec A6 l6.length c6 l6 w (hw.old hs6) (by omega)) (fun _ hw => hw) ?_
          refine s_eqB 232 rfl rfl rfl (r := true) (beq_self_eq_true _) ?_
          refine s_pickT 233 rfl rfl rfl ?_
          refine s_mv 234 rfl rfl ?_
          refine s_mv 235 rfl rfl ?_
          refine s_mv 237 rfl rfl ?_
          refine s_fa 239 rfl rfl ?_
          refine s_ldS 240 rfl rfl (v := .int .i64 (m : Nat)) (fun _ hw => hw.blkCell (i := 7) rfl rfl) ?_
          refine s_mv 241 rfl rfl ?_
          refine s_call1 236 rfl rfl rfl rfl (fun w hw => cField_spec c m t D q w (hw.has (i := 8) rfl)) (fun _ hw => hw) ?_
          refine s_call1 238 rfl rfl rfl rfl (fun w hw => fits7_spec q.f m A6 l6.length c6 l6 w hm (code_at (hw.has (i := 8) rfl)).2.2.2.1 (hw.old hs6) (by omega)) (fun _ hw => hw) ?_
          refine s_call1 242 rfl rfl rfl rfl (fun w hw => rFits_spec m A6 l6.length c6 l6 w hm (hw.old hs6) (by omega)) (fun _ hw => hw) ?_
          refine s_eqB 243 rfl rfl rfl (r := true) (beq_self_eq_true _) ?_
          refine s_pickT 244 rfl rfl rfl ?_
          refine s_as 16 rfl rfl ?_
          refine SX.next ?_
          refine CW.ret ?_
          exact KN.ret (rs := [.tmp 16]) Tryd.results3 rfl (fun w hw => ⟨rfl, hw.nothing⟩)
    · skip
      obtain ⟨j, hj, hbad, hgood⟩ := first_bad hok
      refine CW.reg [0, 1, 2, 3, 4, 5, 6, 7] rfl ?_
      refine s_mv 122 rfl rfl ?_
      refine s_mv 123 rfl rfl ?_
      refine s_call1 124 rfl rfl rfl rfl (fun w hw => bits7_num c m t D q A5 l5.length c5 l5 j e w hMT hDm (hw.has (i := 5) rfl) (hw.old hs5) (by omega) (hw.er he) hj hgood hbad) (fun _ _ => trivial) ?_
      refine s_mv 121 rfl rfl ?_
      refine s_ext 125 rfl rfl rfl ?_
      refine s_ext 126 rfl rfl rfl ?_
      refine s_as 27 rfl rfl ?_
      refine s_as 28 rfl rfl ?_
      refine SX.next ?_
      refine CW.seq ?_
      refine CW.reg [0] rfl ?_
      refine s_as 29 rfl rfl ?_
      refine SX.next ?_
      refine CW.seq ?_
      refine CW.seq ?_
      refine CW.reg [0] rfl ?_
      refine s_as 30 rfl rfl ?_
      refine SX.next ?_
      refine CW.block ?_
      refine CW.loop (G := Nat) (fun i => [(5, .slice A5 l5.length c5), (6, .slice A6 l6.length c6), (7, .slice A7 l7.length c7), (18, .pointer (some ⟨c, 0, none⟩)), (19, .pointer (some ⟨b19, 0, none⟩)), (27, .slice none 0 0), (28, errV e 1), (29, .bool (decide (j < i))), (30, .int .i64 (i : Nat))]) (fun _ => Sto w [own 3 1 q117.1 (synL m t (posL m t (fitL p3 D) (fitL p4 (prB m t)) (8 * D + dg m t))).length q117.2 (nats .i64 (synL m t (posL m t (fitL p3 D) (fitL p4 (prB m t)) (8 * D + dg m t)))), own 3 1 q107.1 (synL m t (posL m t (fitL p3 D) (fitL p4 (prB m t)) (8 * D + dg m t))).length q107.2 (nats .i64 (synL m t (posL m t (fitL p3 D) (fitL p4 (prB m t)) (8 * D + dg m t)))), own 5 1 q102.1 (fitL p4 (prB m t)).length q102.2 (nats .u8 (fitL p4 (prB m t))), own 5 1 q98.1 (fitL p3 D).length q98.2 (nats .u8 (fitL p3 D)), blk b19 27 (refC m t D g), codeA c m t D q, genOf m t g]) (fun i => i ≤ l5.length) (fun i => l5.length - i) 0 ⟨rfl, rfl, rfl, rfl, rfl, rfl, rfl, rfl, rfl, trivial⟩ (fun _ hw => hw) (Nat.zero_le _) ?_
      intro i hi
      refine CW.seq ?_
      refine CW.seq ?_
      refine CW.reg [0, 1, 2, 3] rfl ?_
      refine s_mv 127 rfl rfl ?_
      refine s_mv 128 rfl rfl ?_
      refine s_len 129 rfl rfl ?_
      refine s_lt 130 rfl rfl rfl rfl ?_
      refine SX.next ?_
      refine CW.test rfl (fun hc => ?_) (fun hc => ?_)
      · skip
        refine CW.skip ?_
        refine KN.code ?_
        refine CW.seq ?_
        refine CW.block ?_
        refine CW.regD (.st true 0 (.st true 1 (.st true 2 (.st true 3 (.st true 4 (.st true 5 (.st true 6 (.st true 7 (.st true 8 (.st true 9 (.st true 10 (.st true 11 (.st true 12 (.st true 13 (.st false 14 (.st true 15 (.st true 16 (.st true 17 .done)))))))))))))))))) (Sto w [own 3 1 q117.1 (synL m t (posL m t (fitL p3 D) (fitL p4 (prB m t)) (8 * D + dg m t))).length q117.2 (nats .i64 (synL m t (posL m t (fitL p3 D) (fitL p4 (prB m t)) (8 * D + dg m t)))), own 3 1 q107.1 (synL m t (posL m t (fitL p3 D) (fitL p4 (prB m t)) (8 * D + dg m t))).length q107.2 (nats .i64 (synL m t (posL m t (fitL p3 D) (fitL p4 (prB m t)) (8 * D + dg m t)))), own 5 1 q102.1 (fitL p4 (prB m t)).length q102.2 (nats .u8 (fitL p4 (prB m t))), own 5 1 q98.1 (fitL p3 D).length q98.2 (nats .u8 (fitL p3 D)), blk b19 27 (refC m t D g), codeA c m t D q, genOf m t g]) mixed (by kernel_rfl) (fun _ h => h.drew) (fun _ hw => hw) ?_
        refine s_mv 133 rfl rfl ?_
        refine s_mv 134 rfl rfl ?_
        refine SX.bool 134 rfl (fun hb => ?_) (fun hb => ?_)
        · skip
          have hij := of_decide_eq_true hb
          refine SX.skip rfl ?_
          refine SX.skip rfl ?_
          refine SX.skip rfl ?_
          refine SX.skip rfl ?_
          refine SX.skip rfl ?_
          refine s_pickT 140 rfl rfl rfl ?_
          refine s_mv 141 rfl rfl ?_
          refine SX.skip rfl ?_
          refine SX.skip rfl ?_
          refine SX.skip rfl ?_
          refine SX.skip rfl ?_
          refine SX.skip rfl ?_
          refine SX.skip rfl ?_
          refine SX.skip rfl ?_
          refine s_pickT 149 rfl rfl rfl ?_
          refine s_as 29 rfl rfl ?_
          refine SX.end_ ?_
          refine KN.blk ?_
          refine KN.code ?_
          refine CW.reg [0, 1, 2] rfl ?_
          refine s_mv 131 rfl rfl ?_
          refine s_add 132 rfl rfl rfl (r := ((i + 1 : Nat) : Int)) (w64 (by omega)) ?_
          refine s_as 30 rfl rfl ?_
          refine SX.end_ ?_
          exact KN.back (i + 1) ⟨rfl, rfl, rfl, rfl, rfl, rfl, rfl, by rw [decide_eq_true (show j < i + 1 by omega)]; rfl, rfl, trivial⟩ (fun _ hw => hw) (by omega) (by omega)
        · skip
          have hij := of_decide_eq_false hb
          refine s_mv 135 rfl rfl ?_
          refine s_mv 136 rfl rfl ?_
          refine s_iaV 137 i (fun w hw => hw.old hs5) rfl rfl rfl rfl (by omega) ?_
          refine s_ldVS 138 (fun w hw => hw.old hs5) rfl rfl (by rw [Nat.mul_one]; exact intsAt (by omega)) (by omega) ?_
          refine s_lt 139 rfl rfl rfl rfl ?_
          refine s_pickF 140 rfl rfl rfl ?_
          refine s_mv 141 rfl rfl ?_
          refine SX.bool 141 rfl (fun hb => ?_) (fun hb => ?_)
          · skip
            have hng := of_decide_eq_true hb
            have hie : i = j := Classical.byContradiction fun hne => by have := hgood i (by omega); omega
            refine SX.skip rfl ?_
            refine SX.skip rfl ?_
            refine SX.skip rfl ?_
            refine SX.skip rfl ?_
            refine SX.skip rfl ?_
            refine SX.skip rfl ?_
            refine SX.skip rfl ?_
            refine s_pickT 149 rfl rfl rfl ?_
            refine s_as 29 rfl rfl ?_
            refine SX.end_ ?_
            refine KN.blk ?_
            refine KN.code ?_
            refine CW.reg [0, 1, 2] rfl ?_
            refine s_mv 131 rfl rfl ?_
            refine s_add 132 rfl rfl rfl (r := ((i + 1 : Nat) : Int)) (w64 (by omega)) ?_
            refine s_as 30 rfl rfl ?_
            refine SX.end_ ?_
            exact KN.back (i + 1) ⟨rfl, rfl, rfl, rfl, rfl, rfl, rfl, by rw [decide_eq_true (show j < i + 1 by omega)]; rfl, rfl, trivial⟩ (fun _ hw => hw) (by omega) (by omega)
          · skip
            have hng := of_decide_eq_false hb
            refine s_mv 142 rfl rfl ?_
            refine s_mv 143 rfl rfl ?_
            refine s_iaV 144 i (fun w hw => hw.old hs5) rfl rfl rfl rfl (by omega) ?_
            refine s_ldVS 145 (fun w hw => hw.old hs5) rfl rfl (by rw [Nat.mul_one]; exact intsAt (by omega)) (by omega) ?_
            refine s_ldRS 146 (cs := (refC m t D g).toList) rfl rfl rfl (fun _ hw => hw.blkRow (i := 4) rfl) ?_
            refine s_call1 147 rfl rfl rfl rfl (fun w hw => rBits_spec m t D g w hMT hDm) (fun _ hw => hw) ?_
            refine s_ge 148 rfl rfl rfl (r := decide (j < i + 1)) (decide_eq_decide.2 ⟨fun h => Nat.lt_of_not_le fun hl => by have := hgood i (by omega); omega, fun h => by
              obtain rfl : i = j := (by omega)
              omega⟩) ?_
            refine s_pickF 149 rfl rfl rfl ?_
            refine s_as 29 rfl rfl ?_
            refine SX.end_ ?_
            refine KN.blk ?_
            refine KN.code ?_
            refine CW.reg [0, 1, 2] rfl ?_
            refine s_mv 131 rfl rfl ?_
            refine s_add 132 rfl rfl rfl (r := ((i + 1 : Nat) : Int)) (w64 (by omega)) ?_
            refine s_as 30 rfl rfl ?_
            refine SX.end_ ?_
            exact KN.back (i + 1) ⟨rfl, rfl, rfl, rfl, rfl, rfl, rfl, rfl, rfl, trivial⟩ (fun _ hw => hw) (by omega) (by omega)
      · skip
        obtain rfl : i = l5.length := by omega
        refine CW.exit rfl ?_
        refine KN.code ?_
        refine CW.seq ?_
        refine CW.seq ?_
        refine CW.reg [0, 1, 2, 3, 4, 5, 6, 7, 8, 9, 10, 11, 12, 13, 14, 15, 16, 17, 18, 19, 20, 21, 22, 23, 24, 25, 26] rfl ?_
        rw [decide_eq_true hj]
        refine s_mv 150 rfl rfl ?_
        refine s_mv 151 rfl rfl ?_
        refine s_mv 152 rfl rfl ?_
        refine s_ld 153 rfl rfl (fun _ h => h.cell he) ?_
        refine s_neE 154 rfl rfl rfl ?_
        refine s_mv 155 rfl rfl ?_
        refine s_mv 156 rfl rfl ?_
        refine s_len 157 rfl rfl ?_
        refine s_ne 158 rfl rfl rfl (decide_eq_false (fun h => h rfl)) ?_
        refine s_pickF 159 rfl rfl rfl ?_
        refine s_pickT 160 rfl rfl rfl ?_
        refine s_mv 161 rfl rfl ?_
        refine s_mv 162 rfl rfl ?_
        refine s_not 163 rfl rfl ?_
        refine s_mv 164 rfl rfl ?_
        refine SX.skip rfl ?_
        refine SX.skip rfl ?_
        refine SX.skip rfl ?_
        refine SX.skipU rfl ?_
        refine SX.skipU rfl ?_
        refine SX.skipU rfl ?_
        refine SX.skipU rfl ?_
        refine SX.skipU rfl ?_
        refine SX.skipU rfl ?_
        refine SX.skip rfl ?_
        refine s_pickF 175 rfl rfl rfl ?_
        refine s_pickF 176 rfl rfl rfl ?_
        refine SX.next ?_
        refine CW.condF rfl ?_
        refine CW.skip ?_
        refine KN.code ?_
        refine CW.seq ?_
        refine CW.reg [0, 1, 2, 3] rfl ?_
        refine s_mv 177 rfl rfl ?_
        refine s_mv 178 rfl rfl ?_
        refine s_call 179 rfl rfl rfl rfl (fun w hw => add7_spec A6 l6.length c6 l6 A7 l7.length c7 l7 w (hw.old hs6) (by omega) (hw.old hs7) (by omega)) (fun _ _ => trivial) (fun q179 hq179 => ?_)
        refine s_as 31 rfl rfl ?_
        refine SX.next ?_
        refine CW.seq ?_
        refine CW.seq ?_
        refine CW.reg [0] rfl ?_
        refine s_as 32 rfl rfl ?_
        refine SX.next ?_
        refine CW.block ?_
        refine CW.loop (G := Nat) (fun i => [(6, .slice A6 l6.length c6), (7, .slice A7 l7.length c7), (18, .pointer (some ⟨c, 0, none⟩)), (19, .pointer (some ⟨b19, 0, none⟩)), (31, .slice q179.1 (addL l6 l7).length q179.2), (32, .int .i64 (i : Nat))]) (fun _ => Sto w [own 3 1 q179.1 (addL l6 l7).length q179.2 (ints .i64 (addL l6 l7)), own 3 1 q117.1 (synL m t (posL m t (fitL p3 D) (fitL p4 (prB m t)) (8 * D + dg m t))).length q117.2 (nats .i64 (synL m t (posL m t (fitL p3 D) (fitL p4 (prB m t)) (8 * D + dg m t)))), own 3 1 q107.1 (synL m t (posL m t (fitL p3 D) (fitL p4 (prB m t)) (8 * D + dg m t))).length q107.2 (nats .i64 (synL m t (posL m t (fitL p3 D) (fitL p4 (prB m t)) (8 * D + dg m t)))), own 5 1 q102.1 (fitL p4 (prB m t)).length q102.2 (nats .u8 (fitL p4 (prB m t))), own 5 1 q98.1 (fitL p3 D).length q98.2 (nats .u8 (fitL p3 D)), blk b19 27 (refC m t D g), codeA c m t D q, genOf m t g]) (fun i => i ≤ max l6.length l7.length) (fun i => max l6.length l7.length - i) 0 ⟨rfl, rfl, rfl, rfl, rfl, rfl, trivial⟩ (fun _ hw => hw) (Nat.zero_le _) ?_
        intro i hi
        have hal := addL_len l6 l7
        refine CW.seq ?_
        refine CW.seq ?_
        refine CW.reg [0, 1, 2, 3, 4, 5, 6] rfl ?_
        refine s_mv 180 rfl rfl ?_
        refine s_mv 181 rfl rfl ?_
        refine s_len 182 rfl rfl ?_
        refine s_mv 183 rfl rfl ?_
        refine s_len 184 rfl rfl ?_
        refine s_max 185 rfl rfl rfl (r := ((max l6.length l7.length : Nat) : Int)) (by split <;> omega) ?_
        refine s_lt 186 rfl rfl rfl rfl ?_
        refine SX.next ?_
        refine CW.test rfl (fun hc => ?_) (fun hc => ?_)
        · skip
          have him : i < max l6.length l7.length := by omega
          refine CW.skip ?_
          refine KN.code ?_
          refine CW.seq ?_
          refine CW.block ?_
          refine CW.seq ?_
          refine CW.reg [0] rfl ?_
          refine s_as 33 rfl rfl ?_
          refine SX.next ?_
          refine CW.cut (G := Int) (fun v => [(6, .slice A6 l6.length c6), (7, .slice A7 l7.length c7), (18, .pointer (some ⟨c, 0, none⟩)), (19, .pointer (some ⟨b19, 0, none⟩)), (31, .slice q179.1 (addL l6 l7).length q179.2), (32, .int .i64 (i : Nat)), (33, .int .i64 v)]) (fun _ => Sto w [own 3 1 q179.1 (addL l6 l7).length q179.2 (ints .i64 (addL l6 l7)), own 3 1 q117.1 (synL m t (posL m t (fitL p3 D) (fitL p4 (prB m t)) (8 * D + dg m t))).length q117.2 (nats .i64 (synL m t (posL m t (fitL p3 D) (fitL p4 (prB m t)) (8 * D + dg m t)))), own 3 1 q107.1 (synL m t (posL m t (fitL p3 D) (fitL p4 (prB m t)) (8 * D + dg m t))).length q107.2 (nats .i64 (synL m t (posL m t (fitL p3 D) (fitL p4 (prB m t)) (8 * D + dg m t)))), own 5 1 q102.1 (fitL p4 (prB m t)).length q102.2 (nats .u8 (fitL p4 (prB m t))), own 5 1 q98.1 (fitL p3 D).length q98.2 (nats .u8 (fitL p3 D)), blk b19 27 (refC m t D g), codeA c m t D q, genOf m t g]) (fun v => v = (if i < l6.length then l6.getD i 0 else 0)) ?_ ?_
          · skip
            refine CW.seq ?_
            refine CW.reg [0, 1, 2, 3] rfl ?_
            refine s_mv 189 rfl rfl ?_
            refine s_mv 190 rfl rfl ?_
            refine s_len 191 rfl rfl ?_
            refine s_lt 192 rfl rfl rfl rfl ?_
            refine SX.next ?_
            refine CW.test rfl (fun hc => ?_) (fun hc => ?_)
            · skip
              refine CW.reg [0, 1, 2, 3, 4] rfl ?_
              refine s_mv 193 rfl rfl ?_
              refine s_mv 194 rfl rfl ?_
              refine s_iaV 195 i (fun w hw => hw.old hs6) rfl rfl rfl rfl (by omega) ?_
              refine s_ldV 196 (fun w hw => hw.old hs6) rfl rfl (by rw [Nat.mul_one]; exact intsAt (by omega)) (by omega) ?_
              refine s_as 33 rfl rfl ?_
              refine SX.end_ ?_
              exact KN.join (l6.getD i 0) ⟨rfl, rfl, rfl, rfl, rfl, rfl, rfl, trivial⟩ (fun _ hw => hw) (by rw [if_pos (by omega)])
            · skip
              refine CW.skip ?_
              exact KN.join 0 ⟨rfl, rfl, rfl, rfl, rfl, rfl, rfl, trivial⟩ (fun _ hw => hw) (by rw [if_neg (by omega)])
          · skip
            intro v hv
            refine CW.cut (G := Int) (fun v2 => [(6, .slice A6 l6.length c6), (7, .slice A7 l7.length c7), (18, .pointer (some ⟨c, 0, none⟩)), (19, .pointer (some ⟨b19, 0, none⟩)), (31, .slice q179.1 (addL l6 l7).length q179.2), (32, .int .i64 (i : Nat)), (33, .int .i64 v2)]) (fun _ => Sto w [own 3 1 q179.1 (addL l6 l7).length q179.2 (ints .i64 (addL l6 l7)), own 3 1 q117.1 (synL m t (posL m t (fitL p3 D) (fitL p4 (prB m t)) (8 * D + dg m t))).length q117.2 (nats .i64 (synL m t (posL m t (fitL p3 D) (fitL p4 (prB m t)) (8 * D + dg m t)))), own 3 1 q107.1 (synL m t (posL m t (fitL p3 D) (fitL p4 (prB m t)) (8 * D + dg m t))).length q107.2 (nats .i64 (synL m t (posL m t (fitL p3 D) (fitL p4 (prB m t)) (8 * D + dg m t)))), own 5 1 q102.1 (fitL p4 (prB m t)).length q102.2 (nats .u8 (fitL p4 (prB m t))), own 5 1 q98.1 (fitL p3 D).length q98.2 (nats .u8 (fitL p3 D)), blk b19 27 (refC m t D g), codeA c m t D q, genOf m t g]) (fun v2 => v2 = ((addL l6 l7).getD i 0)) ?_ ?_
            · skip
              refine CW.seq ?_
              refine CW.reg [0, 1, 2, 3] rfl ?_
              refine s_mv 197 rfl rfl ?_
              refine s_mv 198 rfl rfl ?_
              refine s_len 199 rfl rfl ?_
              refine s_lt 200 rfl rfl rfl rfl ?_
              refine SX.next ?_
              refine CW.test rfl (fun hc => ?_) (fun hc => ?_)
              · skip
                refine CW.reg [0, 1, 2, 3, 4, 5, 6] rfl ?_
                refine s_mv 201 rfl rfl ?_
                refine s_mv 202 rfl rfl ?_
                refine s_mv 203 rfl rfl ?_
                refine s_iaV 204 i (fun w hw => hw.old hs7) rfl rfl rfl rfl (by omega) ?_
                refine s_ldV 205 (fun w hw => hw.old hs7) rfl rfl (by rw [Nat.mul_one]; exact intsAt (by omega)) (by omega) ?_
                refine s_bit 206 rfl rfl rfl rfl (r := ((addL l6 l7).getD i 0)) (by rw [hv]; exact add_both hz7 (by omega)) ?_
                refine s_as 33 rfl rfl ?_
                refine SX.end_ ?_
                exact KN.join ((addL l6 l7).getD i 0) ⟨rfl, rfl, rfl, rfl, rfl, rfl, rfl, trivial⟩ (fun _ hw => hw) rfl
              · skip
                refine CW.skip ?_
                exact KN.join v ⟨rfl, rfl, rfl, rfl, rfl, rfl, rfl, trivial⟩ (fun _ hw => hw) (by rw [hv]; exact add_left (by omega) him)
            · skip
              intro v2 hv2
              refine CW.seq ?_
              refine CW.reg [0, 1, 2, 3, 4, 5, 6, 7, 8, 9, 10, 11] rfl ?_
              refine s_mv 207 rfl rfl ?_
              refine s_mv 208 rfl rfl ?_
              refine s_len 209 rfl rfl ?_
              refine s_ge 210 rfl rfl rfl (decide_eq_false (by omega)) ?_
              refine s_mv 211 rfl rfl ?_
              refine s_mv 212 rfl rfl ?_
              refine s_mv 213 rfl rfl ?_
              refine s_iaO 214 0 i rfl rfl rfl rfl rfl (by omega) ?_
              refine s_ldO 215 0 rfl rfl rfl (intsAt (by omega)) ?_
              refine s_mv 216 rfl rfl ?_
              refine s_ne 217 rfl rfl rfl (decide_eq_false (fun h => h hv2.symm)) ?_
              refine s_pickF 218 rfl rfl rfl ?_
              refine SX.next ?_
              refine CW.condF rfl ?_
              refine CW.skip ?_
              refine KN.blk ?_
              refine KN.code ?_
              refine CW.reg [0, 1, 2] rfl ?_
              refine s_mv 187 rfl rfl ?_
              refine s_add 188 rfl rfl rfl (r := ((i + 1 : Nat) : Int)) (w64 (by omega)) ?_
              refine s_as 32 rfl rfl ?_
              refine SX.end_ ?_
              exact KN.back (i + 1) ⟨rfl, rfl, rfl, rfl, rfl, rfl, trivial⟩ (fun _ hw => hw) (by omega) (by omega)
        · skip
          have hie : i = max l6.length l7.length := by omega
          refine CW.exit rfl ?_
          refine KN.code ?_
          refine CW.seq ?_
          refine CW.regD (.st true 0 (.st true 1 (.st true 2 (.st true 3 (.st true 4 (.st true 5 (.st true 6 (.st true 7 (.st true 8 (.st true 9 (.st true 11 (.st false 10 (.st false 12 (.st true 13 (.st true 14 (.st true 15 (.st true 16 (.st true 18 (.st true 20 (.st true 21 (.st true 22 (.st false 17 (.st false 19 (.st false 23 (.st true 24 (.st true 25 (.st true 26 .done))))))))))))))))))))))))))) (Sto w [own 3 1 q179.1 (addL l6 l7).length q179.2 (ints .i64 (addL l6 l7)), own 3 1 q117.1 (synL m t (posL m t (fitL p3 D) (fitL p4 (prB m t)) (8 * D + dg m t))).length q117.2 (nats .i64 (synL m t (posL m t (fitL p3 D) (fitL p4 (prB m t)) (8 * D + dg m t)))), own 3 1 q107.1 (synL m t (posL m t (fitL p3 D) (fitL p4 (prB m t)) (8 * D + dg m t))).length q107.2 (nats .i64 (synL m t (posL m t (fitL p3 D) (fitL p4 (prB m t)) (8 * D + dg m t)))), own 5 1 q102.1 (fitL p4 (prB m t)).length q102.2 (nats .u8 (fitL p4 (prB m t))), own 5 1 q98.1 (fitL p3 D).length q98.2 (nats .u8 (fitL p3 D)), blk b19 27 (refC m t D g), codeA c m t D q, genOf m t g]) mixed (by kernel_rfl) (fun _ h => h.drew) (fun _ hw => hw) ?_
          refine s_mv 219 rfl rfl ?_
          refine s_len 220 rfl rfl ?_
          refine s_mv 221 rfl rfl ?_
          refine s_len 222 rfl rfl ?_
          refine s_mv 223 rfl rfl ?_
          refine s_len 224 rfl rfl ?_
          refine s_max 225 rfl rfl rfl (r := ((max l6.length l7.length : Nat) : Int)) (by split <;> omega) ?_
          refine s_eq 226 rfl rfl rfl (decide_eq_true (by omega)) ?_
          refine s_mv 227 rfl rfl ?_
          refine s_mv 228 rfl rfl ?_
          refine s_mv 230 rfl rfl ?_
          refine s_call1 229 rfl rfl rfl rfl (fun w hw => clean7_spec A6 l6.length c6 l6 w (hw.old hs6) (by omega)) (fun _ hw => hw) ?_
          refine s_call1 231 rfl rfl rfl rfl (fun w hw => rClean_spec A6 l6.length c6 l6 w (hw.old hs6) (by omega)) (fun _ hw => hw) ?_
          refine s_eqB 232 rfl rfl rfl (r := true) (beq_self_eq_true _) ?_
          refine s_pickT 233 rfl rfl rfl ?_
          refine s_mv 234 rfl rfl ?_
          refine s_mv 235 rfl rfl ?_
          refine s_mv 237 rfl rfl ?_
          refine s_fa 239 rfl rfl ?_
          refine s_ldS 240 rfl rfl (v := .int .i64 (m : Nat)) (fun _ hw => hw.blkCell (i := 5) rfl rfl) ?_
          refine s_mv 241 rfl rfl ?_
          refine s_call1 236 rfl rfl rfl rfl (fun w hw => cField_spec c m t D q w (hw.has (i := 6) rfl)) (fun _ hw => hw) ?_
          refine s_call1 238 rfl rfl rfl rfl (fun w hw => fits7_spec q.f m A6 l6.length c6 l6 w hm (code_at (hw.has (i := 6) rfl)).2.2.2.1 (hw.old hs6) (by omega)) (fun _ hw => hw) ?_
          refine s_call1 242 rfl rfl rfl rfl (fun w hw => rFits_spec m A6 l6.length c6 l6 w hm (hw.old hs6) (by omega)) (fun _ hw => hw) ?_
          refine s_eqB 243 rfl rfl rfl (r := true) (beq_self_eq_true _) ?_
          refine s_pickT 244 rfl rfl rfl ?_
          refine s_as 16 rfl rfl ?_
          refine SX.next ?_
          refine CW.ret ?_
          exact KN.ret (rs := [.tmp 16]) Tryd.results3 rfl (fun w hw => ⟨rfl, hw.nothing⟩)

theorem walk_SyndromeSays (a0 a1 a2 : Int) (A3 : Option Addr) (n3 c3 : Nat) (p3 : List Nat) (A4 : Option Addr) (n4 c4 : Nat) (p4 : List Nat) (A5 : Option Addr) (n5 c5 : Nat) (l5 : List Int) (A6 : Option Addr) (n6 c6 : Nat) (l6 : List Int) (A7 : Option Addr) (n7 c7 : Nat) (l7 : List Int) (e : Nat → Addr) (w : World) (ha3 : Has (sl 1 A3 n3 (nats .u8 p3)) w) (hp3 : ∀ x ∈ p3, x < 256) (hn3 : n3 ≤ 9223372036854775807) (hcp3 : n3 ≤ c3) (ha4 : Has (sl 1 A4 n4 (nats .u8 p4)) w) (hp4 : ∀ x ∈ p4, x < 256) (hn4 : n4 ≤ 9223372036854775807) (hcp4 : n4 ≤ c4) (hs5 : Has (sl 1 A5 n5 (ints .i64 l5)) w) (hn5 : n5 ≤ 9223372036854775807) (hz5 : ∀ z ∈ l5, (Lit.int .i64 z).wf = true) (hs6 : Has (sl 1 A6 n6 (ints .i64 l6)) w) (hn6 : n6 ≤ 9223372036854775807) (hz6 : ∀ z ∈ l6, (Lit.int .i64 z).wf = true) (hs7 : Has (sl 1 A7 n7 (ints .i64 l7)) w) (hn7 : n7 ≤ 9223372036854775807) (hz7 : ∀ z ∈ l7, (Lit.int .i64 z).wf = true) (he : Er e w 1) (heL : Er e w 0) : Spec1 Tryd.prog 3 [.int .i64 a0, .int .i64 a1, .int .i64 a2, .slice A3 n3 c3, .slice A4 n4 c4, .slice A5 n5 c5, .slice A6 n6 c6, .slice A7 n7 c7] w (.bool true) := by
  by_cases h : 50 < n5 ∨ 50 < n6 ∨ 50 < n7
  · exact says7_long a0 a1 a2 A3 n3 c3 p3 A4 n4 c4 p4 A5 n5 c5 l5 A6 n6 c6 l6 A7 n7 c7 l7 e w ha3 hp3 hn3 hcp3 ha4 hp4 hn4 hcp4 hs5 hn5 hz5 hs6 hn6 hz6 hs7 hn7 hz7 he heL h
  · exact says7_ok a0 a1 a2 A3 n3 c3 p3 A4 n4 c4 p4 A5 n5 c5 l5 A6 n6 c6 l6 A7 n7 c7 l7 e w ha3 hp3 hn3 hcp3 ha4 hp4 hn4 hcp4 hs5 hn5 hz5 hs6 hn6 hz6 hs7 hn7 hz7 he heL (by omega) (by omega) (by omega)
end Go.Proofs.YtcdmmfpgeagimaaDoor
end
section
/- What a slice of bytes that comes in gives a walk. No condition. -/
namespace Go.Sx
open Go Go.ChangeShapes Go.WideShapes
theorem open_slB {H : Type} {enc : TypeId × Value → H} {P : Program} {W : World} {base b0 : Nat} {spare : Nat → Bool} {held : Bool} {t e : TypeId} {v : Value} {d : DataW H} {ps : List MemPlace}
    (ht : P.underlying t = some (.slice e)) (he : P.underlying e = some (.int .u8)) (hc : P.cellsOf e = 1) (hval : Value.okWide P W .any b0 t v) (hd : DataW.Trod enc P W base spare held t v d ps) :
    ∃ A n c p, v = .slice A n c ∧ n ≤ c ∧ (c : Int) ≤ 9223372036854775807 ∧ p.length = n ∧ Has (sl 1 A n (nats .u8 p)) W ∧ ∀ x ∈ p, x < 256 := by
  obtain ⟨A, n, c, zs, hv, h1, h2, h3, h4, h5⟩ := open_slI ht he hc hval hd
  have hb : ∀ z ∈ zs, 0 ≤ z ∧ z < 256 := fun z hz => by
    have := h5 z hz
    simp only [Lit.wf, Bool.and_eq_true, decide_eq_true_eq] at this
    have e1 : IntKind.u8.min = 0 := by decide
    have e2 : IntKind.u8.max = 255 := by decide
    omega
  refine ⟨A, n, c, zs.map Int.toNat, hv, h1, h2, by simpa using h3, ?_, fun x hx => ?_⟩
  · have e2 : nats .u8 (zs.map Int.toNat) = ints .u8 zs := by
      unfold nats ints
      rw [List.map_map]
      exact List.map_congr_left (fun z hz => by
        show Value.int .u8 ((z.toNat : Nat) : Int) = Value.int .u8 z
        rw [Int.toNat_of_nonneg (hb z hz).1])
    rw [e2]
    exact h4
  · obtain ⟨z, hz, rfl⟩ := List.mem_map.1 hx
    have := hb z hz
    omega
end Go.Sx
end
