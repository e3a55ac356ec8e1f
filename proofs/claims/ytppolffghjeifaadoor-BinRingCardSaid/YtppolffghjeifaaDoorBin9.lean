/- The statements BinOf and BinCounts, walked. No condition but the errors' variables. -/
import Derived.Test.YtppolffghjeifaaDoorBin8
namespace Go.Proofs.YtppolffghjeifaaDoor
open Go Go.Lib Go.Sx Go.Fm
set_option maxRecDepth 100000
theorem sumY_tr (l : List Int) (i : Nat) : Tr 8 (sumY (eX l) i) := by rw [sumY_eq]; exact bys_tr (sumF_b1 (eX_b1 l) i).le
theorem xP_le {k : Nat} (h : k ≤ 2048) : (xP k).length ≤ 2049 := by
  unfold xP upP pl
  rw [trim_length]
  have := tl_le ((List.range (k + [1].length)).map fun j => if k ≤ j then cf [1] (j - k) else 0)
  simp at this
  simp
  omega

theorem binOf_ok (A1 : Option Addr) (n1 c1 : Nat) (l1 : List Int) (e : Nat → Addr) (w : World) (hs1 : Has (sl 1 A1 n1 (ints .i64 l1)) w) (hn1 : n1 ≤ 9223372036854775807) (hnu : Er e w 0) (hr : ∀ j, j < l1.length → 0 ≤ l1.getD j 0 ∧ l1.getD j 0 ≤ 2048) : Spec1 Tryd.prog 3 [.slice A1 n1 c1] w (.bool true) := by
  have hla := ints_len hs1
  subst hla
  refine spec_of Tryd.func3 rfl Tryd.ntmps3 rfl ?_
  refine CW.seq ?_
  refine CW.reg [0] rfl ?_   -- 0, law.go:67
  refine s_as 2 rfl rfl ?_
  refine SX.next ?_
  refine CW.seq ?_
  refine CW.reg [0, 1] rfl ?_   -- 1, law.go:68
  refine s_call1 7 rfl rfl rfl rfl (fun w hw => first3_spec e w (hw.er hnu)) (fun _ _ => trivial) ?_
  refine s_as 3 rfl rfl ?_
  refine SX.next ?_
  refine CW.seq ?_
  refine CW.seq ?_
  refine CW.reg [0, 1, 2, 3, 4, 5, 6] rfl ?_   -- 2, law.go:69
  refine s_mv 8 rfl rfl ?_
  refine s_len 9 rfl rfl ?_
  refine s_gt 10 rfl rfl rfl rfl ?_
  refine s_mv 11 rfl rfl ?_
  refine SX.bool 11 rfl (fun hb => ?_) (fun hb => ?_)
  · skip
    skip
    refine SX.skip rfl ?_
    refine SX.skip rfl ?_
    refine s_pickT 14 rfl rfl rfl ?_
    refine SX.next ?_
    refine CW.condT rfl ?_
    refine CW.seq ?_
    refine CW.reg [0, 1] rfl ?_   -- 3, law.go:70
    refine s_mv 15 rfl rfl ?_
    refine s_as 2 rfl rfl ?_
    refine SX.next ?_
    refine CW.ret ?_
    exact KN.ret (rs := [.tmp 2]) Tryd.results3 rfl (fun w hw => ⟨rfl, hw.nothing⟩)
  · skip
    have hlen := of_decide_eq_false hb
    refine s_mv 12 rfl rfl ?_
    refine s_not 13 rfl rfl ?_
    refine s_pickF 14 rfl rfl rfl ?_
    refine SX.next ?_
    refine CW.condF rfl ?_
    refine CW.skip ?_
    refine KN.code ?_
    refine CW.seq ?_
    refine CW.reg [0, 1, 2, 3, 4, 5, 6] rfl ?_   -- 4, law.go:72
    refine s_mv 17 rfl rfl ?_
    refine s_call 18 rfl rfl rfl rfl (fun w hw => of_spec A1 l1.length c1 l1 w (hw.old hs1) (by omega) hr) (fun _ _ => trivial) (fun q1 hq1 => ?_)
    refine s_mv 16 rfl rfl ?_
    refine s_ext 19 rfl rfl rfl ?_
    refine s_ext 20 rfl rfl rfl ?_
    refine s_as 4 rfl rfl ?_
    refine s_as 5 rfl rfl ?_
    refine SX.next ?_
    refine CW.seq ?_
    refine CW.seq ?_
    refine CW.reg [0] rfl ?_   -- 5, law.go:73
    refine s_as 6 rfl rfl ?_
    refine SX.next ?_
    refine CW.block ?_
    refine CW.loop (G := Nat) (fun i => [(0, .slice A1 l1.length c1), (4, .slice q1.1 (sumY (eX l1) l1.length).length q1.2), (5, .nilIface), (6, .int .i64 (i : Nat))]) (fun _ => Sto w [own 5 1 q1.1 (sumY (eX l1) l1.length).length q1.2 (nats .u8 (sumY (eX l1) l1.length))]) (fun i => i ≤ l1.length) (fun i => l1.length - i) 0 ⟨rfl, rfl, rfl, rfl, trivial⟩ (fun _ h => h) (Nat.zero_le _) ?_
    intro i hi
    refine CW.seq ?_
    refine CW.seq ?_
    refine CW.reg [0, 1, 2, 3] rfl ?_   -- 6, law.go:73
    refine s_mv 21 rfl rfl ?_
    refine s_mv 22 rfl rfl ?_
    refine s_len 23 rfl rfl ?_
    refine s_lt 24 rfl rfl rfl rfl ?_
    refine SX.next ?_
    refine CW.test rfl (fun hc => ?_) (fun hc => ?_)
    · skip
      have hri := hr i (by omega)
      refine CW.skip ?_
      refine KN.code ?_
      refine CW.seq ?_
      refine CW.block ?_
      refine CW.seq ?_
      refine CW.reg [0, 1, 2, 3, 4, 5, 6, 7, 8, 9, 10, 11] rfl ?_   -- 8, law.go:74
      refine s_mv 27 rfl rfl ?_
      refine s_mv 28 rfl rfl ?_
      refine s_iaV 29 i (fun w hw => hw.old hs1) rfl rfl rfl rfl (by omega) ?_
      refine s_ldV 30 (fun w hw => hw.old hs1) rfl rfl (by rw [Nat.mul_one]; exact intsAt (by omega)) (by omega) ?_
      refine s_lt 31 rfl rfl rfl (decide_eq_false (by omega)) ?_
      refine s_mv 32 rfl rfl ?_
      refine s_mv 33 rfl rfl ?_
      refine s_mv 34 rfl rfl ?_
      refine s_iaV 35 i (fun w hw => hw.old hs1) rfl rfl rfl rfl (by omega) ?_
      refine s_ldV 36 (fun w hw => hw.old hs1) rfl rfl (by rw [Nat.mul_one]; exact intsAt (by omega)) (by omega) ?_
      refine s_gt 37 rfl rfl rfl (decide_eq_false (by omega)) ?_
      refine s_pickF 38 rfl rfl rfl ?_
      refine SX.next ?_
      refine CW.condF rfl ?_
      refine CW.skip ?_
      refine KN.blk ?_
      refine KN.code ?_
      refine CW.reg [0, 1, 2] rfl ?_   -- 7, law.go:73
      refine s_mv 25 rfl rfl ?_
      refine s_add 26 rfl rfl rfl (r := ((i + 1 : Nat) : Int)) (w64 (by omega)) ?_
      refine s_as 6 rfl rfl ?_
      refine SX.end_ ?_
      exact KN.back (i + 1) ⟨rfl, rfl, rfl, rfl, trivial⟩ (fun _ h => h) (by omega) (by omega)
    · skip
      have htr := sumY_tr l1 l1.length
      have hfl := sumF_le (f := eX l1) (K := 2049) (i := l1.length) (fun j hj => xP_le (by have := (hr j hj).2; have := (hr j hj).1; omega))
      have hbl := bys_len (sumF (eX l1) l1.length)
      rw [← sumY_eq] at hbl
      refine CW.exit rfl ?_
      refine KN.code ?_
      refine CW.seq ?_
      refine CW.reg [0, 1, 2, 3, 4, 5, 6, 7, 8] rfl ?_   -- 10, law.go:78
      refine s_mv 47 rfl rfl ?_
      refine s_eqNN 48 rfl rfl ?_
      refine s_mv 49 rfl rfl ?_
      refine s_mv 50 rfl rfl ?_
      refine s_mv 51 rfl rfl ?_
      refine s_call 52 rfl rfl rfl rfl (fun w hw => by have := rof_spec A1 l1.length c1 l1 w (hw.old hs1) (by omega) hr; rw [← sumY_eq] at this; exact this) (fun _ _ => trivial) (fun q2 hq2 => ?_)
      refine s_call1 53 rfl rfl rfl rfl (v := .bool true) (fun w hw => by have := bsame_spec q1.1 (sumY (eX l1) l1.length).length q1.2 (sumY (eX l1) l1.length) q2.1 (sumY (eX l1) l1.length).length q2.2 (sumY (eX l1) l1.length) w ((hw.has (i := 1) rfl).of_own) htr.lt (by omega) hq1 htr.eq ((hw.has (i := 0) rfl).of_own) htr.lt; rw [decide_eq_true rfl] at this; exact this) (fun _ _ => trivial) ?_
      refine s_pickT 54 rfl rfl rfl ?_
      refine s_as 2 rfl rfl ?_
      refine SX.next ?_
      refine CW.ret ?_
      exact KN.ret (rs := [.tmp 2]) Tryd.results3 rfl (fun w hw => ⟨rfl, hw.nothing⟩)

theorem binOf_bad (A1 : Option Addr) (n1 c1 : Nat) (l1 : List Int) (e : Nat → Addr) (w : World) (hs1 : Has (sl 1 A1 n1 (ints .i64 l1)) w) (hn1 : n1 ≤ 9223372036854775807) (hnu : Er e w 0) (jb : Nat) (hjb : jb < l1.length) (hbad : ¬ (0 ≤ l1.getD jb 0 ∧ l1.getD jb 0 ≤ 2048)) : Spec1 Tryd.prog 3 [.slice A1 n1 c1] w (.bool true) := by
  have hla := ints_len hs1
  subst hla
  refine spec_of Tryd.func3 rfl Tryd.ntmps3 rfl ?_
  refine CW.seq ?_
  refine CW.reg [0] rfl ?_   -- 0, law.go:67
  refine s_as 2 rfl rfl ?_
  refine SX.next ?_
  refine CW.seq ?_
  refine CW.reg [0, 1] rfl ?_   -- 1, law.go:68
  refine s_call1 7 rfl rfl rfl rfl (fun w hw => first3_spec e w (hw.er hnu)) (fun _ _ => trivial) ?_
  refine s_as 3 rfl rfl ?_
  refine SX.next ?_
  refine CW.seq ?_
  refine CW.seq ?_
  refine CW.reg [0, 1, 2, 3, 4, 5, 6] rfl ?_   -- 2, law.go:69
  refine s_mv 8 rfl rfl ?_
  refine s_len 9 rfl rfl ?_
  refine s_gt 10 rfl rfl rfl rfl ?_
  refine s_mv 11 rfl rfl ?_
  refine SX.bool 11 rfl (fun hb => ?_) (fun hb => ?_)
  · skip
    skip
    refine SX.skip rfl ?_
    refine SX.skip rfl ?_
    refine s_pickT 14 rfl rfl rfl ?_
    refine SX.next ?_
    refine CW.condT rfl ?_
    refine CW.seq ?_
    refine CW.reg [0, 1] rfl ?_   -- 3, law.go:70
    refine s_mv 15 rfl rfl ?_
    refine s_as 2 rfl rfl ?_
    refine SX.next ?_
    refine CW.ret ?_
    exact KN.ret (rs := [.tmp 2]) Tryd.results3 rfl (fun w hw => ⟨rfl, hw.nothing⟩)
  · skip
    have hlen := of_decide_eq_false hb
    refine s_mv 12 rfl rfl ?_
    refine s_not 13 rfl rfl ?_
    refine s_pickF 14 rfl rfl rfl ?_
    refine SX.next ?_
    refine CW.condF rfl ?_
    refine CW.skip ?_
    refine KN.code ?_
    refine CW.seq ?_
    refine CW.reg [0, 1, 2, 3, 4, 5, 6] rfl ?_   -- 4, law.go:72
    refine s_mv 17 rfl rfl ?_
    refine s_call1 18 rfl rfl rfl rfl (fun w hw => of_bad A1 l1.length c1 l1 e w (hw.old hs1) (by omega) (hw.er hnu) jb hjb hbad) (fun _ _ => trivial) ?_
    refine s_mv 16 rfl rfl ?_
    refine s_ext 19 rfl rfl rfl ?_
    refine s_ext 20 rfl rfl rfl ?_
    refine s_as 4 rfl rfl ?_
    refine s_as 5 rfl rfl ?_
    refine SX.next ?_
    refine CW.seq ?_
    refine CW.seq ?_
    refine CW.reg [0] rfl ?_   -- 5, law.go:73
    refine s_as 6 rfl rfl ?_
    refine SX.next ?_
    refine CW.block ?_
    refine CW.loop (G := Nat) (fun i => [(0, .slice A1 l1.length c1), (4, .slice none 0 0), (5, errV e 0), (6, .int .i64 (i : Nat))]) (fun _ => Sto w []) (fun i => i ≤ l1.length ∧ ∀ j, j < i → 0 ≤ l1.getD j 0 ∧ l1.getD j 0 ≤ 2048) (fun i => l1.length - i) 0 ⟨rfl, rfl, rfl, rfl, trivial⟩ (fun _ h => h) ⟨Nat.zero_le _, fun j hj => by omega⟩ ?_
    rintro i ⟨hi, hri⟩
    refine CW.seq ?_
    refine CW.seq ?_
    refine CW.reg [0, 1, 2, 3] rfl ?_   -- 6, law.go:73
    refine s_mv 21 rfl rfl ?_
    refine s_mv 22 rfl rfl ?_
    refine s_len 23 rfl rfl ?_
    refine s_lt 24 rfl rfl rfl rfl ?_
    refine SX.next ?_
    refine CW.test rfl (fun hc => ?_) (fun hc => ?_)
    · skip
      refine CW.skip ?_
      refine KN.code ?_
      refine CW.seq ?_
      refine CW.block ?_
      refine CW.seq ?_
      refine CW.reg [0, 1, 2, 3, 4, 5, 6, 7, 8, 9, 10, 11] rfl ?_   -- 8, law.go:74
      refine s_mv 27 rfl rfl ?_
      refine s_mv 28 rfl rfl ?_
      refine s_iaV 29 i (fun w hw => hw.old hs1) rfl rfl rfl rfl (by omega) ?_
      refine s_ldV 30 (fun w hw => hw.old hs1) rfl rfl (by rw [Nat.mul_one]; exact intsAt (by omega)) (by omega) ?_
      refine s_lt 31 rfl rfl rfl rfl ?_
      refine s_mv 32 rfl rfl ?_
      refine SX.bool 32 rfl (fun hb => ?_) (fun hb => ?_)
      · skip
        skip
        refine SX.skip rfl ?_
        refine SX.skip rfl ?_
        refine SX.skip rfl ?_
        refine SX.skip rfl ?_
        refine SX.skip rfl ?_
        refine s_pickT 38 rfl rfl rfl ?_
        refine SX.next ?_
        refine CW.condT rfl ?_
        refine CW.seq ?_
        refine CW.reg [0, 1, 2, 3, 4, 5, 6, 7, 8] rfl ?_   -- 9, law.go:75
        refine s_mv 39 rfl rfl ?_
        refine s_ld 40 rfl rfl (fun _ h => h.cell hnu) ?_
        refine s_eqE 41 rfl rfl rfl ?_
        refine s_mv 42 rfl rfl ?_
        refine s_mv 43 rfl rfl ?_
        refine s_len 44 rfl rfl ?_
        refine s_eq 45 rfl rfl rfl (decide_eq_true rfl) ?_
        refine s_pickT 46 rfl rfl rfl ?_
        refine s_as 2 rfl rfl ?_
        refine SX.next ?_
        refine CW.ret ?_
        exact KN.ret (rs := [.tmp 2]) Tryd.results3 rfl (fun w hw => ⟨rfl, hw.nothing⟩)
      · skip
        replace hb := of_decide_eq_false hb
        refine s_mv 33 rfl rfl ?_
        refine s_mv 34 rfl rfl ?_
        refine s_iaV 35 i (fun w hw => hw.old hs1) rfl rfl rfl rfl (by omega) ?_
        refine s_ldV 36 (fun w hw => hw.old hs1) rfl rfl (by rw [Nat.mul_one]; exact intsAt (by omega)) (by omega) ?_
        refine s_gt 37 rfl rfl rfl rfl ?_
        refine s_pickF 38 rfl rfl rfl ?_
        refine SX.next ?_
        refine CW.test rfl (fun hc2 => ?_) (fun hc2 => ?_)
        · skip
          refine CW.seq ?_
          refine CW.reg [0, 1, 2, 3, 4, 5, 6, 7, 8] rfl ?_   -- 9, law.go:75
          refine s_mv 39 rfl rfl ?_
          refine s_ld 40 rfl rfl (fun _ h => h.cell hnu) ?_
          refine s_eqE 41 rfl rfl rfl ?_
          refine s_mv 42 rfl rfl ?_
          refine s_mv 43 rfl rfl ?_
          refine s_len 44 rfl rfl ?_
          refine s_eq 45 rfl rfl rfl (decide_eq_true rfl) ?_
          refine s_pickT 46 rfl rfl rfl ?_
          refine s_as 2 rfl rfl ?_
          refine SX.next ?_
          refine CW.ret ?_
          exact KN.ret (rs := [.tmp 2]) Tryd.results3 rfl (fun w hw => ⟨rfl, hw.nothing⟩)
        · skip
          refine CW.skip ?_
          refine KN.blk ?_
          refine KN.code ?_
          refine CW.reg [0, 1, 2] rfl ?_   -- 7, law.go:73
          refine s_mv 25 rfl rfl ?_
          refine s_add 26 rfl rfl rfl (r := ((i + 1 : Nat) : Int)) (w64 (by omega)) ?_
          refine s_as 6 rfl rfl ?_
          refine SX.end_ ?_
          exact KN.back (i + 1) ⟨rfl, rfl, rfl, rfl, trivial⟩ (fun _ h => h) ⟨by omega, fun j hj => by
  by_cases h : j = i
  · subst h; omega
  · exact hri j (by omega)⟩ (by omega)
    · skip
      exact absurd (hri jb (by omega)) hbad

theorem walk_BinOf (A1 : Option Addr) (n1 c1 : Nat) (l1 : List Int) (e : Nat → Addr) (w : World) (hs1 : Has (sl 1 A1 n1 (ints .i64 l1)) w) (hn1 : n1 ≤ 9223372036854775807) (hnu : Er e w 0) : Spec1 Tryd.prog 3 [.slice A1 n1 c1] w (.bool true) := by
  by_cases h : ∀ j, j < l1.length → 0 ≤ l1.getD j 0 ∧ l1.getD j 0 ≤ 2048
  · exact binOf_ok A1 n1 c1 l1 e w hs1 hn1 hnu h
  · obtain ⟨j, hj⟩ := Classical.not_forall.1 h
    obtain ⟨hj1, hj2⟩ := Classical.not_imp.1 hj
    exact binOf_bad A1 n1 c1 l1 e w hs1 hn1 hnu j hj1 hj2
/-! ### Counting -/
theorem tmod_lt8 (m : Int) : -8 < m.tmod 8 ∧ m.tmod 8 < 8 := by
  have h1 := Int.emod_nonneg m (b := 8) (by omega)
  have h2 := Int.emod_lt_of_pos m (b := 8) (by omega)
  rw [Int.tmod_eq_emod]
  split <;> omega
theorem dB_val (m : Int) : (m.tmod 8 + 8).tmod 8 = (((m % 8).toNat : Nat) : Int) := by
  have h1 := Int.emod_nonneg m (b := 8) (by omega)
  have h2 := tmod_lt8 m
  rw [Int.tmod_eq_emod_of_nonneg (by omega)]
  have h3 : (m.tmod 8 + 8) % 8 = m % 8 := by
    rw [Int.tmod_eq_emod]
    split <;> omega
  rw [h3]
  omega
/-- Which degree a number makes. -/
def dB (m : Int) : Nat := (m % 8).toNat + 1
theorem dB_bd (m : Int) : 1 ≤ dB m ∧ dB m ≤ 8 := by unfold dB; omega
def by2 (x : Nat) : List Nat := [x % 256, (x >>> 8) % 256]
def irrX (x : Nat) : Bool := irrP (bl (by2 x))
theorem by2_lt (x : Nat) : ∀ y ∈ by2 x, y < 256 := fun y hy => by
  simp [by2] at hy
  omega
theorem deg_all : (List.range 9).all (fun D => (List.range (2 ^ D)).all (fun k => (bl (by2 (2 ^ D + k))).length == D + 1)) = true := by decide +kernel
theorem deg_by2 {D k : Nat} (hD : D ≤ 8) (hk : k < 2 ^ D) : (bl (by2 (2 ^ D + k))).length = D + 1 := by
  have := List.all_eq_true.1 deg_all D (List.mem_range.2 (by omega))
  have := List.all_eq_true.1 this k (List.mem_range.2 hk)
  simpa using this
def cntR (a : Nat) : Nat → Nat
  | 0 => 0
  | k + 1 => if irrX (a + k) then cntR a k + 1 else cntR a k
theorem cntR_le (a : Nat) : ∀ k, cntR a k ≤ k
  | 0 => Nat.le_refl _
  | k + 1 => by
    have := cntR_le a k
    unfold cntR
    split <;> omega
theorem cnt_all : (List.range 8).all (fun i => cntR (2 ^ (i + 1)) (2 ^ (i + 1)) == [2, 1, 2, 3, 6, 9, 18, 30].getD i 0) = true := by decide +kernel
theorem cnt_tab {D : Nat} (h1 : 1 ≤ D) (h2 : D ≤ 8) : (#[Value.int .i64 0, .int .i64 2, .int .i64 1, .int .i64 2, .int .i64 3, .int .i64 6, .int .i64 9, .int .i64 18, .int .i64 30] : Array Value)[D]? = some (.int .i64 (cntR (2 ^ D) (2 ^ D) : Nat)) := by
  have h := List.all_eq_true.1 cnt_all (D - 1) (List.mem_range.2 (by omega))
  rw [show D - 1 + 1 = D by omega, beq_iff_eq] at h
  rw [h]
  have : D = 1 ∨ D = 2 ∨ D = 3 ∨ D = 4 ∨ D = 5 ∨ D = 6 ∨ D = 7 ∨ D = 8 := by omega
  rcases this with rfl | rfl | rfl | rfl | rfl | rfl | rfl | rfl <;> rfl
theorem shlD {D : Nat} (h : D ≤ 62) : IntKind.i64.wrap ((1 : Int) * 2 ^ (min (D : Int).toNat IntKind.i64.bits)) = ((2 ^ D : Nat) : Int) := by
  have := shl_nat (x := 1) h (by rw [Nat.one_mul]; exact Nat.pow_lt_pow_right (by omega) (by omega))
  rw [Nat.one_mul] at this
  exact this

theorem walk_BinCounts (a0 : Int) (e : Nat → Addr) (w : World) (hnu : Er e w 0) : Spec1 Tryd.prog 4 [.int .i64 a0] w (.bool true) := by
  have hv := dB_val a0
  have hb8 := tmod_lt8 a0
  have hD := dB_bd a0
  have hpw : 2 ^ dB a0 ≤ 2 ^ 8 := Nat.pow_le_pow_right (by omega) hD.2
  have hp2 : 2 ^ (dB a0 + 1) = 2 * 2 ^ dB a0 := Nat.pow_succ'
  refine spec_of Tryd.func4 rfl Tryd.ntmps4 rfl ?_
  refine CW.seq ?_
  refine CW.reg [0] rfl ?_   -- 0, more.go:25
  refine s_as 2 rfl rfl ?_
  refine SX.next ?_
  refine CW.seq ?_
  refine CW.reg [0, 1] rfl ?_   -- 1, more.go:26
  refine s_call1 7 rfl rfl rfl rfl (fun w hw => first3_spec e w (hw.er hnu)) (fun _ _ => trivial) ?_
  refine s_as 3 rfl rfl ?_
  refine SX.next ?_
  refine CW.seq ?_
  refine CW.reg [0, 1, 2, 3, 4, 5] rfl ?_   -- 2, more.go:27
  refine s_mv 8 rfl rfl ?_
  refine s_rem 9 rfl rfl rfl (by omega) rfl ?_
  refine s_add 10 rfl rfl rfl (w64 (by omega)) ?_
  refine s_rem 11 rfl rfl rfl (by omega) hv ?_
  refine s_add 12 rfl rfl rfl (r := ((dB a0 : Nat) : Int)) (by rw [show (((a0 % 8).toNat : Nat) : Int) + 1 = ((dB a0 : Nat) : Int) by unfold dB; omega]; exact w64 (by omega)) ?_
  refine s_as 0 rfl rfl ?_
  refine SX.next ?_
  refine CW.seq ?_
  refine CW.reg [0] rfl ?_   -- 3, more.go:28
  refine s_as 4 rfl rfl ?_
  refine SX.next ?_
  refine CW.seq ?_
  refine CW.seq ?_
  refine CW.reg [0, 1, 2, 3] rfl ?_   -- 4, more.go:29
  refine s_mv 13 rfl rfl ?_
  refine s_conv 14 rfl rfl (wu64 (by omega)) ?_
  refine s_shl 15 rfl rfl rfl (by omega) (shlD (by omega)) ?_
  refine s_as 5 rfl rfl ?_
  refine SX.next ?_
  refine CW.block ?_
  refine CW.loop (G := Nat) (fun k => [(0, .int .i64 (dB a0 : Nat)), (3, .bool true), (4, .int .i64 (cntR (2 ^ dB a0) k : Nat)), (5, .int .i64 ((2 ^ dB a0 + k) : Nat))]) (fun _ => Sto w []) (fun k => k ≤ 2 ^ dB a0) (fun k => 2 ^ dB a0 - k) 0 ⟨rfl, rfl, rfl, rfl, trivial⟩ (fun _ h => h) (Nat.zero_le _) ?_
  intro k hk
  have hcl := cntR_le (2 ^ dB a0) k
  refine CW.seq ?_
  refine CW.seq ?_
  refine CW.reg [0, 1, 2, 3, 4, 5] rfl ?_   -- 5, more.go:29
  refine s_mv 16 rfl rfl ?_
  refine s_mv 17 rfl rfl ?_
  refine s_add 18 rfl rfl rfl (r := ((dB a0 + 1 : Nat) : Int)) (w64 (by omega)) ?_
  refine s_conv 19 rfl rfl (wu64 (by omega)) ?_
  refine s_shl 20 rfl rfl rfl (by omega) (shlD (by omega)) ?_
  refine s_lt 21 rfl rfl rfl rfl ?_
  refine SX.next ?_
  refine CW.test rfl (fun hc => ?_) (fun hc => ?_)
  · skip
    have hdg := deg_by2 hD.2 (k := k) (by omega)
    refine CW.skip ?_
    refine KN.code ?_
    refine CW.seq ?_
    refine CW.block ?_
    refine CW.seq ?_
    refine CW.reg [0, 1, 2, 3, 4, 5, 6] rfl ?_   -- 7, more.go:30
    refine s_mv 24 rfl rfl ?_
    refine s_conv 25 rfl rfl (w8_mod (2 ^ dB a0 + k)) ?_
    refine s_mv 26 rfl rfl ?_
    refine s_shr 27 rfl rfl rfl (by omega) (shr_nat (x := (2 ^ dB a0 + k)) (k := 8) (by omega)) ?_
    refine s_conv 28 rfl rfl (w8_mod ((2 ^ dB a0 + k) >>> 8)) ?_
    refine s_bsl 29 rfl rfl (cells := #[.int .u8 ((2 ^ dB a0 + k) % 256 : Nat), .int .u8 (((2 ^ dB a0 + k) >>> 8) % 256 : Nat)]) (by kernel_rfl) rfl (fun _ _ => trivial) (fun gb => ?_)
    refine s_as 6 rfl rfl ?_
    refine SX.next ?_
    refine CW.seq ?_
    refine CW.seq ?_
    refine CW.reg [0, 1, 2, 3] rfl ?_   -- 8, more.go:31
    refine s_mv 30 rfl rfl ?_
    refine s_call1 31 rfl rfl rfl rfl (fun w hw => bdeg_spec (some ⟨gb, 0, none⟩) 2 2 (by2 (2 ^ dB a0 + k)) w (Has.cong ((hw.has (i := 0) rfl).blk_sl (m := 2) rfl) rfl) (by2_lt _) (by omega) (by omega)) (fun _ _ => trivial) ?_
    refine s_mv 32 rfl rfl ?_
    refine s_ne 33 rfl rfl rfl (decide_eq_false (by rw [hdg]; omega)) ?_
    refine SX.next ?_
    refine CW.condF rfl ?_
    refine CW.skip ?_
    refine KN.code ?_
    refine CW.seq ?_
    refine CW.reg [0, 1] rfl ?_   -- 10, more.go:34
    refine s_mv 34 rfl rfl ?_
    refine s_call1 35 rfl rfl rfl rfl (v := .bool (irrX (2 ^ dB a0 + k))) (fun w hw => birr_spec (some ⟨gb, 0, none⟩) 2 2 (by2 (2 ^ dB a0 + k)) w (Has.cong ((hw.has (i := 0) rfl).blk_sl (m := 2) rfl) rfl) (by2_lt _) (by omega) (by omega)) (fun _ _ => trivial) ?_
    refine SX.next ?_
    refine CW.cond rfl (fun hc => ?_) (fun hc => ?_)
    · skip
      have hnx : cntR (2 ^ dB a0) (k + 1) = cntR (2 ^ dB a0) k + 1 := if_pos hc
      refine CW.reg [0, 1, 2] rfl ?_   -- 11, more.go:35
      refine s_mv 36 rfl rfl ?_
      refine s_add 37 rfl rfl rfl (r := ((cntR (2 ^ dB a0) k + 1 : Nat) : Int)) (w64 (by omega)) ?_
      refine s_as 4 rfl rfl ?_
      refine SX.end_ ?_
      refine KN.blk ?_
      refine KN.code ?_
      refine CW.reg [0, 1, 2] rfl ?_   -- 6, more.go:29
      refine s_mv 22 rfl rfl ?_
      refine s_add 23 rfl rfl rfl (r := ((2 ^ dB a0 + (k + 1) : Nat) : Int)) (by rw [show (((2 ^ dB a0 + k) : Nat) : Int) + 1 = ((2 ^ dB a0 + (k + 1) : Nat) : Int) by omega]; exact w64 (by omega)) ?_
      refine s_as 5 rfl rfl ?_
      refine SX.end_ ?_
      exact KN.back (k + 1) ⟨rfl, rfl, by rw [hnx]; rfl, rfl, trivial⟩ (fun _ h => h.pick [] rfl) (by omega) (by omega)
    · skip
      have hnx : cntR (2 ^ dB a0) (k + 1) = cntR (2 ^ dB a0) k := if_neg (by rw [hc]; decide)
      refine CW.skip ?_
      refine KN.blk ?_
      refine KN.code ?_
      refine CW.reg [0, 1, 2] rfl ?_   -- 6, more.go:29
      refine s_mv 22 rfl rfl ?_
      refine s_add 23 rfl rfl rfl (r := ((2 ^ dB a0 + (k + 1) : Nat) : Int)) (by rw [show (((2 ^ dB a0 + k) : Nat) : Int) + 1 = ((2 ^ dB a0 + (k + 1) : Nat) : Int) by omega]; exact w64 (by omega)) ?_
      refine s_as 5 rfl rfl ?_
      refine SX.end_ ?_
      exact KN.back (k + 1) ⟨rfl, rfl, by rw [hnx]; rfl, rfl, trivial⟩ (fun _ h => h.pick [] rfl) (by omega) (by omega)
  · skip
    obtain rfl : k = 2 ^ dB a0 := by omega
    refine CW.exit rfl ?_
    refine KN.code ?_
    refine CW.seq ?_
    refine CW.reg [0, 1, 2, 3, 4, 5, 6, 7, 8, 9] rfl ?_   -- 12, more.go:38
    refine s_mv 38 rfl rfl ?_
    refine s_mv 39 rfl rfl ?_
    refine s_mv 40 rfl rfl ?_
    refine s_bsl 41 rfl rfl (cells := #[Value.int .i64 0, .int .i64 2, .int .i64 1, .int .i64 2, .int .i64 3, .int .i64 6, .int .i64 9, .int .i64 18, .int .i64 30]) (by kernel_rfl) rfl (fun _ _ => trivial) (fun gt => ?_)
    refine s_mv 42 rfl rfl ?_
    refine s_ia0 43 (dB a0) rfl rfl rfl rfl (by omega) ?_
    refine s_ldB 44 0 rfl rfl rfl (cnt_tab hD.1 hD.2) ?_
    refine s_eq 45 rfl rfl rfl (decide_eq_true rfl) ?_
    refine s_pickT 46 rfl rfl rfl ?_
    refine s_as 2 rfl rfl ?_
    refine SX.next ?_
    refine CW.ret ?_
    exact KN.ret (rs := [.tmp 2]) Tryd.results4 rfl (fun w hw => ⟨rfl, hw.nothing⟩)
