/- The statement LocateFinds, walked. No condition but the errors' variables. -/
import Derived.Test.YtfhfckoemgkdlaaDoorLaws8b
namespace Go.Proofs.YtfhfckoemgkdlaaDoor
open Go Go.Sx Go.Fm
set_option maxRecDepth 100000
/-- The lowest two bits. -/
theorem low2 (n : Int) : ibit .and .i64 n 3 = ((n % 4).toNat : Nat) := by
  rw [ibit_and_mask n (m := 2) (by omega) (by decide)]
  show n % 4 = _
  omega
/-- The first i values whole, the next by its first j terms. -/
def psF (m : Nat) (P : List Nat) (i j k : Nat) : Nat := if k < i then psum m P k else if k = i then xs (fun t => exz m ((cf P t : Nat) * ((i : Nat) + 1 : Int))) j else 0
theorem psF_at (m : Nat) (P : List Nat) (i j : Nat) : psF m P i j i = xs (fun t => exz m ((cf P t : Nat) * ((i : Nat) + 1 : Int))) j := by unfold psF; rw [if_neg (Nat.lt_irrefl _), if_pos rfl]
theorem psF_next (m : Nat) (P : List Nat) (i j : Nat) : (fun k => if k = i then psF m P i j i ^^^ exz m ((cf P j : Nat) * ((i : Nat) + 1 : Int)) else psF m P i j k) = psF m P i (j + 1) := by
  funext k
  by_cases h : k = i
  · subst h; rw [if_pos rfl, psF_at, psF_at]; rfl
  · rw [if_neg h]; unfold psF; rw [if_neg h, if_neg h]
theorem psF_all (m : Nat) (P : List Nat) (i : Nat) : psF m P i P.length = psF m P (i + 1) 0 := by
  funext k
  unfold psF
  by_cases h : k < i
  · rw [if_pos h, if_pos (by omega)]
  · rw [if_neg h]
    by_cases h2 : k = i
    · subst h2; rw [if_pos rfl, if_pos (by omega)]; rfl
    · rw [if_neg h2, if_neg (by omega)]
      split <;> rfl
theorem psF_lt {m : Nat} (hm : Ok m) (P : List Nat) (i j k : Nat) : psF m P i j k < 2 ^ m := by
  unfold psF
  split
  · exact psum_lt hm P k
  · split
    · exact xs_lt (fun _ _ => exz_lt hm _)
    · exact Nat.two_pow_pos m
theorem finds_BL {m : Nat} (hm : Ok m) {P : List Nat} (hP : ∀ p ∈ P, p < N m) (hnd : P.Nodup) {n : Nat} (hn : 2 * P.length ≤ n) : (BL m (tabN n (psF m P n 0))).L = P.length ∧ (BL m (tabN n (psF m P n 0))).c = ofP m (P.map Int.ofNat) (P.map Int.ofNat).length := by
  unfold BL
  rw [tabN_len]
  refine bm_finds hm hP hnd (lowL_lt m _) (fun i hi => ?_) hn
  rw [cf_low]
  unfold tabN
  rw [tab_getD, if_pos hi, lo_nat (psF_lt hm P _ _ _)]
  unfold psF
  rw [if_pos hi]
theorem tabNs_n {k : IntKind} {n : Nat} {F : Nat → Nat} : (ints k (tabN n F)).toArray.size = n * 1 := by unfold tabN; exact tabs_n
theorem tabN_sz {k : IntKind} {n : Nat} {F : Nat → Nat} : (ints k (tabN n F)).toArray.size = n := by unfold tabN; exact tab_size
theorem tabN_atA {k : IntKind} {n j : Nat} {F : Nat → Nat} (h : j < n) : (ints k (tabN n F)).toArray[j]? = some (.int k (F j : Nat)) := by unfold tabN; exact tab_atA h

theorem walk_LocateFinds (a0 : Int) (A1 : Option Addr) (n1 c1 : Nat) (l1 : List Int) (a2 : Int) (e : Nat → Addr) (w : World) (hs1 : Has (sl 1 A1 n1 (ints .i64 l1)) w) (hn1 : n1 ≤ 9223372036854775807) (hc1 : n1 ≤ c1) (_hf : Er e w 2) (_hz : Er e w 1) (_hl : Er e w 0) : Spec1 Tryd.prog 12 [.int .i64 a0, .slice A1 n1 c1, .int .i64 a2] w (.bool true) := by
  have hm := mkm_ok (k := 7) (by omega) (by omega) a0
  have hla := ints_len hs1
  subst hla
  have h14 := pow_le14 hm
  have hNs := N_succ (mkm 7 a0)
  have hNp := N_pos hm
  have hmh := hm.hi
  refine spec_of Tryd.func12 rfl Tryd.ntmps12 rfl ?_
  refine CW.seq ?_
  refine CW.reg [0] rfl ?_   -- 0, law.go:88
  refine s_as 6 rfl rfl ?_
  refine SX.next ?_
  refine CW.seq ?_
  refine CW.reg [0, 1] rfl ?_   -- 1, law.go:89
  refine s_call1 23 rfl rfl rfl rfl (fun w hw => first8_spec w) (fun _ _ => trivial) ?_
  refine s_as 7 rfl rfl ?_
  refine SX.next ?_
  refine CW.seq ?_
  refine CW.reg [0, 1, 2, 3, 4, 5, 6] rfl ?_   -- 2, law.go:90
  refine s_mv 25 rfl rfl ?_
  refine s_call 26 rfl rfl rfl rfl (fun w hw => made8_spec a0 w) (fun _ _ => trivial) (fun g _ => ?_)
  refine s_mv 24 rfl rfl ?_
  refine s_ext 27 rfl rfl rfl ?_
  refine s_ext 28 rfl rfl rfl ?_
  refine s_as 8 rfl rfl ?_
  refine s_as 9 rfl rfl ?_
  refine SX.next ?_
  refine CW.seq ?_
  refine CW.seq ?_
  refine CW.reg [0, 1, 2, 3, 4, 5] rfl ?_   -- 3, law.go:91
  refine s_mv 29 rfl rfl ?_
  refine s_eqPN 30 rfl rfl ?_
  refine s_mv 31 rfl rfl ?_
  refine s_mv 32 rfl rfl ?_
  refine s_not 33 rfl rfl ?_
  refine s_pickF 34 rfl rfl rfl ?_
  refine SX.next ?_
  refine CW.condF rfl ?_
  refine CW.skip ?_
  refine KN.code ?_
  refine CW.seq ?_
  refine CW.reg [0, 1, 2, 3, 4] rfl ?_   -- 5, law.go:94
  refine s_mv 35 rfl rfl ?_
  refine s_conv 36 rfl rfl (u64_nat hm) ?_
  refine s_shl 37 rfl rfl rfl (by omega) (shl_one hm) ?_
  refine s_sub 38 rfl rfl rfl (r := (((N (mkm 7 a0)) : Nat) : Int)) (by rw [show (((N (mkm 7 a0)) + 1 : Nat) : Int) - 1 = (((N (mkm 7 a0)) : Nat) : Int) by omega]; exact w64 (by omega)) ?_
  refine s_as 10 rfl rfl ?_
  refine SX.next ?_
  refine CW.seq ?_
  refine CW.reg [0, 1, 2] rfl ?_   -- 6, law.go:95
  refine s_mv 39 rfl rfl ?_
  refine s_make 40 (N (mkm 7 a0)) rfl rfl rfl rfl rfl (by omega) (fun _ _ => trivial) (fun gh => ?_)
  refine s_as 11 rfl rfl ?_
  refine SX.next ?_
  refine CW.seq ?_
  refine CW.reg [0] rfl ?_   -- 7, law.go:96
  refine s_as 12 rfl rfl ?_
  refine SX.next ?_
  refine CW.cut (G := List Nat × Option Addr × Nat) (fun p => [(2, .int .i64 a2), (8, .pointer (some ⟨g, 0, none⟩)), (10, .int .i64 ((N (mkm 7 a0)) : Nat)), (11, .slice (some ⟨gh, 0, none⟩) (N (mkm 7 a0)) (N (mkm 7 a0))), (12, .slice p.2.1 p.1.length p.2.2)]) (fun p => Sto w [own 3 1 p.2.1 p.1.length p.2.2 (nats .i64 p.1), blk gh 4 (btab (N (mkm 7 a0)) (memF p.1)), fieldA g (mkm 7 a0)]) (fun p => p.1.length ≤ 20 ∧ p.1.Nodup ∧ ∀ x ∈ p.1, x < (N (mkm 7 a0))) ?_ ?_
  · skip
    refine CW.seq ?_
    refine CW.reg [0] rfl ?_   -- 8, law.go:97
    refine s_as 13 rfl rfl ?_
    refine SX.next ?_
    refine CW.block ?_
    refine CW.loop (G := Nat × List Nat × Option Addr × Nat) (fun q => [(1, .slice A1 l1.length c1), (2, .int .i64 a2), (8, .pointer (some ⟨g, 0, none⟩)), (10, .int .i64 ((N (mkm 7 a0)) : Nat)), (11, .slice (some ⟨gh, 0, none⟩) (N (mkm 7 a0)) (N (mkm 7 a0))), (12, .slice q.2.2.1 q.2.1.length q.2.2.2), (13, .int .i64 (q.1 : Nat))]) (fun q => Sto w [own 3 1 q.2.2.1 q.2.1.length q.2.2.2 (nats .i64 q.2.1), blk gh 4 (btab (N (mkm 7 a0)) (memF q.2.1)), fieldA g (mkm 7 a0)]) (fun q => q.1 ≤ l1.length ∧ q.2.1.length ≤ 20 ∧ q.2.1.Nodup ∧ ∀ x ∈ q.2.1, x < (N (mkm 7 a0))) (fun q => l1.length - q.1) (0, [], none, 0) ⟨rfl, rfl, rfl, rfl, rfl, rfl, rfl, trivial⟩ (fun _ h => by rw [show btab (N (mkm 7 a0)) (memF []) = btab (N (mkm 7 a0)) (fun _ => false) from btab_cong (fun k _ => by simp [memF]), ← btab_zero]; exact h.begin_ 3 1) ⟨Nat.zero_le _, Nat.zero_le _, List.nodup_nil, fun x hx => by cases hx⟩ ?_
    rintro ⟨i, Z, qa, qc⟩ ⟨hi, hZ40, hZd, hZN⟩
    simp only at hi hZ40 hZd hZN
    dsimp only
    refine CW.seq ?_
    refine CW.seq ?_
    refine CW.reg [0, 1, 2, 3, 4, 5, 6, 7, 8, 9, 10, 11] rfl ?_   -- 9, law.go:97
    refine s_mv 41 rfl rfl ?_
    refine s_mv 42 rfl rfl ?_
    refine s_len 43 rfl rfl ?_
    refine s_lt 44 rfl rfl rfl rfl ?_
    refine s_mv 45 rfl rfl ?_
    refine SX.bool 45 rfl (fun hb => ?_) (fun hb => ?_)
    · skip
      have hil := of_decide_eq_true hb
      refine s_mv 46 rfl rfl ?_
      refine s_len 47 rfl rfl ?_
      refine s_mv 48 rfl rfl ?_
      refine s_quo 49 rfl rfl rfl (by omega) (quo2 (by omega)) ?_
      refine s_min 50 rfl rfl rfl (r := ((min 20 ((N (mkm 7 a0)) / 2) : Nat) : Int)) (by split <;> omega) ?_
      refine s_lt 51 rfl rfl rfl rfl ?_
      refine s_pickT 52 rfl rfl rfl ?_
      refine SX.next ?_
      refine CW.test rfl (fun hc => ?_) (fun hc => ?_)
      · skip
        have hel := em_lt hm (l1.getD i 0)
        have htb2 := tmod_lt (k := ((N (mkm 7 a0)) : Nat)) (by omega) (l1.getD i 0)
        refine CW.skip ?_
        refine KN.code ?_
        refine CW.seq ?_
        refine CW.block ?_
        refine CW.seq ?_
        refine CW.reg [0, 1, 2, 3, 4, 5, 6, 7, 8, 9, 10] rfl ?_   -- 11, law.go:98
        refine s_mv 55 rfl rfl ?_
        refine s_mv 56 rfl rfl ?_
        refine s_iaV 57 i (fun w hw => hw.old hs1) rfl rfl rfl rfl (by omega) ?_
        refine s_ldV 58 (fun w hw => hw.old hs1) rfl rfl (by rw [Nat.mul_one]; exact intsAt (by omega)) (by omega) ?_
        refine s_mv 59 rfl rfl ?_
        refine s_rem 60 rfl rfl rfl (by omega) rfl ?_
        refine s_mv 61 rfl rfl ?_
        refine s_add 62 rfl rfl rfl (w64 (by omega)) ?_
        refine s_mv 63 rfl rfl ?_
        refine s_rem 64 rfl rfl rfl (by omega) (em_pos2 hm _) ?_
        refine s_as 14 rfl rfl ?_
        refine SX.next ?_
        refine CW.seq ?_
        refine CW.reg [0, 1, 2, 3, 4] rfl ?_   -- 12, law.go:99
        refine s_mv 65 rfl rfl ?_
        refine s_mv 66 rfl rfl ?_
        refine s_ia0 67 (em (mkm 7 a0) (l1.getD i 0)) rfl rfl rfl rfl hel ?_
        refine s_ldB 68 1 rfl rfl rfl (btab_at hel) ?_
        refine s_not 69 rfl rfl ?_
        refine SX.next ?_
        refine CW.cond rfl (fun hc => ?_) (fun hc => ?_)
        · skip
          have hnm : (em (mkm 7 a0) (l1.getD i 0)) ∉ Z := by simpa [memF] using hc
          refine CW.seq ?_
          refine CW.reg [0, 1, 2, 3] rfl ?_   -- 13, law.go:100
          refine s_mv 70 rfl rfl ?_
          refine s_mv 71 rfl rfl ?_
          refine s_ia0 72 (em (mkm 7 a0) (l1.getD i 0)) rfl rfl rfl rfl hel ?_
          refine s_stB 1 rfl rfl rfl rfl rfl (by rw [btab_size]; exact hel) (fun _ _ => trivial) ?_
          refine SX.next ?_
          refine CW.reg [0, 1, 2, 3, 4] rfl ?_   -- 14, law.go:101
          refine s_mv 73 rfl rfl ?_
          refine s_mv 74 rfl rfl ?_
          refine s_bsl 75 rfl rfl (cells := #[.int .i64 ((em (mkm 7 a0) (l1.getD i 0)) : Nat)]) (by kernel_rfl) rfl (fun _ _ => trivial) (fun gb => ?_)
          refine s_app 76 1 rfl rfl rfl rfl (ys := [.int .i64 ((em (mkm 7 a0) (l1.getD i 0)) : Nat)]) (fun w hw => Has.cong ((hw.has (i := 0) rfl).blk_sl (m := 1) rfl) rfl) rfl rfl (by omega) (by unfold maxLen; omega) (by omega) (fun _ _ _ _ => trivial) (fun A2 c2 hc2 => ?_)
          refine s_as 12 rfl rfl ?_
          refine SX.end_ ?_
          refine KN.blk ?_
          refine KN.code ?_
          refine CW.reg [0, 1, 2] rfl ?_   -- 10, law.go:97
          refine s_mv 53 rfl rfl ?_
          refine s_add 54 rfl rfl rfl (r := ((i + 1 : Nat) : Int)) (w64 (by omega)) ?_
          refine s_as 13 rfl rfl ?_
          refine SX.end_ ?_
          exact KN.back (i + 1, Z ++ [(em (mkm 7 a0) (l1.getD i 0))], A2, c2) ⟨rfl, rfl, rfl, rfl, rfl, by rw [List.length_append]; rfl, rfl, trivial⟩ (fun _ h => by rw [← memF_next, ← btab_set, ← nats_snoc, List.length_append]; exact h.pick [1, 1, 1] rfl) ⟨by simp only; omega, by rw [List.length_append, List.length_singleton]; omega, List.nodup_append.2 ⟨hZd, List.pairwise_singleton _ _, fun x hx y hy hxy => by rw [List.mem_singleton.1 hy] at hxy; exact hnm (hxy ▸ hx)⟩, fun x hx => (List.mem_append.1 hx).elim (hZN x) (fun h => by rw [List.mem_singleton.1 h]; exact hel)⟩ (by simp only; omega)
        · skip
          refine CW.skip ?_
          refine KN.blk ?_
          refine KN.code ?_
          refine CW.reg [0, 1, 2] rfl ?_   -- 10, law.go:97
          refine s_mv 53 rfl rfl ?_
          refine s_add 54 rfl rfl rfl (r := ((i + 1 : Nat) : Int)) (w64 (by omega)) ?_
          refine s_as 13 rfl rfl ?_
          refine SX.end_ ?_
          exact KN.back (i + 1, Z, qa, qc) ⟨rfl, rfl, rfl, rfl, rfl, rfl, rfl, trivial⟩ (fun _ h => h) ⟨by simp only; omega, hZ40, hZd, hZN⟩ (by simp only; omega)
      · skip
        refine CW.exit rfl ?_
        exact KN.join (Z, qa, qc) ⟨rfl, rfl, rfl, rfl, rfl, trivial⟩ (fun _ h => h) ⟨hZ40, hZd, hZN⟩
    · skip
      skip
      refine SX.skip rfl ?_
      refine SX.skip rfl ?_
      refine SX.skip rfl ?_
      refine SX.skip rfl ?_
      refine SX.skip rfl ?_
      refine SX.skip rfl ?_
      refine s_pickF 52 rfl rfl rfl ?_
      refine SX.next ?_
      refine CW.condF rfl ?_
      refine CW.exit rfl ?_
      exact KN.join (Z, qa, qc) ⟨rfl, rfl, rfl, rfl, rfl, trivial⟩ (fun _ h => h) ⟨hZ40, hZd, hZN⟩
  · skip
    rintro p ⟨hp20, hpd, hpN⟩
    have hOT := ofP_tr hm (p.1.map Int.ofNat) (p.1.map Int.ofNat).length
    have hOl := ofP_le hm (p.1.map Int.ofNat) (p.1.map Int.ofNat).length
    have hLl : (p.1.map Int.ofNat).length = p.1.length := List.length_map _
    have hm4 := Int.emod_nonneg a2 (b := 4) (by omega)
    have hm5 := Int.emod_lt_of_pos a2 (b := 4) (by omega)
    have hfin := finds_BL hm hpN hpd (n := (2 * (p.1.length + (a2 % 4).toNat))) (by omega)
    have hBl := BL_len hm (tabN (2 * (p.1.length + (a2 % 4).toNat)) (psF (mkm 7 a0) p.1 (2 * (p.1.length + (a2 % 4).toNat)) 0))
    have hmb := mkB_found hm (tabN (2 * (p.1.length + (a2 % 4).toNat)) (psF (mkm 7 a0) p.1 (2 * (p.1.length + (a2 % 4).toNat)) 0))
    have hTl : (tabN (2 * (p.1.length + (a2 % 4).toNat)) (psF (mkm 7 a0) p.1 (2 * (p.1.length + (a2 % 4).toNat)) 0)).length = (2 * (p.1.length + (a2 % 4).toNat)) := tabN_len _ _
    refine CW.seq ?_
    refine CW.reg [0, 1, 2, 3, 4, 5] rfl ?_   -- 15, law.go:104
    refine s_mv 77 rfl rfl ?_
    refine s_len 78 rfl rfl ?_
    refine s_mv 79 rfl rfl ?_
    refine s_bit 80 rfl rfl rfl rfl (low2 a2) ?_
    refine s_add 81 rfl rfl rfl (r := (((p.1.length + (a2 % 4).toNat) : Nat) : Int)) (by rw [show ((p.1.length : Nat) : Int) + ((a2 % 4).toNat : Nat) = (((p.1.length + (a2 % 4).toNat) : Nat) : Int) by omega]; exact w64 (by omega)) ?_
    refine s_as 15 rfl rfl ?_
    refine SX.next ?_
    refine CW.seq ?_
    refine CW.reg [0, 1, 2, 3, 4] rfl ?_   -- 16, law.go:105
    refine s_mv 82 rfl rfl ?_
    refine s_mul 83 rfl rfl rfl (r := (((2 * (p.1.length + (a2 % 4).toNat)) : Nat) : Int)) (by rw [show (2 : Int) * (((p.1.length + (a2 % 4).toNat) : Nat) : Int) = (((2 * (p.1.length + (a2 % 4).toNat)) : Nat) : Int) by omega]; exact w64 (by omega)) ?_
    refine s_min 84 rfl rfl rfl (r := (((2 * (p.1.length + (a2 % 4).toNat)) : Nat) : Int)) (by split <;> omega) ?_
    refine s_make 85 (2 * (p.1.length + (a2 % 4).toNat)) rfl rfl rfl rfl rfl (by omega) (fun _ _ => trivial) (fun gs => ?_)
    refine s_as 16 rfl rfl ?_
    refine SX.next ?_
    refine CW.seq ?_
    refine CW.seq ?_
    refine CW.reg [0] rfl ?_   -- 17, law.go:106
    refine s_as 17 rfl rfl ?_
    refine SX.next ?_
    refine CW.block ?_
    refine CW.loop (G := Nat) (fun i => [(8, .pointer (some ⟨g, 0, none⟩)), (10, .int .i64 ((N (mkm 7 a0)) : Nat)), (11, .slice (some ⟨gh, 0, none⟩) (N (mkm 7 a0)) (N (mkm 7 a0))), (12, .slice p.2.1 p.1.length p.2.2), (16, .slice (some ⟨gs, 0, none⟩) (2 * (p.1.length + (a2 % 4).toNat)) (2 * (p.1.length + (a2 % 4).toNat))), (17, .int .i64 (i : Nat))]) (fun i => Sto w [blk gs 3 (ints .i64 (tabN (2 * (p.1.length + (a2 % 4).toNat)) (psF (mkm 7 a0) p.1 i 0))).toArray, own 3 1 p.2.1 p.1.length p.2.2 (nats .i64 p.1), blk gh 4 (btab (N (mkm 7 a0)) (memF p.1)), fieldA g (mkm 7 a0)]) (fun i => i ≤ (2 * (p.1.length + (a2 % 4).toNat))) (fun i => (2 * (p.1.length + (a2 % 4).toNat)) - i) 0 ⟨rfl, rfl, rfl, rfl, rfl, rfl, trivial⟩ (fun _ h => by rw [show tabN (2 * (p.1.length + (a2 % 4).toNat)) (psF (mkm 7 a0) p.1 0 0) = tab (2 * (p.1.length + (a2 % 4).toNat)) (fun _ => 0) from tab_cong (fun k _ => by unfold psF; rw [if_neg (Nat.not_lt_zero _)]; split <;> rfl), ← tab_zero]; exact h) (Nat.zero_le _) ?_
    intro i hi
    refine CW.seq ?_
    refine CW.seq ?_
    refine CW.reg [0, 1, 2, 3] rfl ?_   -- 18, law.go:106
    refine s_mv 86 rfl rfl ?_
    refine s_mv 87 rfl rfl ?_
    refine s_len 88 rfl rfl ?_
    refine s_lt 89 rfl rfl rfl rfl ?_
    refine SX.next ?_
    refine CW.test rfl (fun hc => ?_) (fun hc => ?_)
    · skip
      refine CW.skip ?_
      refine KN.code ?_
      refine CW.seq ?_
      refine CW.block ?_
      refine CW.seq ?_
      refine CW.reg [0] rfl ?_   -- 20, law.go:107
      refine s_as 18 rfl rfl ?_
      refine SX.next ?_
      refine CW.block ?_
      refine CW.loop (G := Nat) (fun j => [(8, .pointer (some ⟨g, 0, none⟩)), (10, .int .i64 ((N (mkm 7 a0)) : Nat)), (11, .slice (some ⟨gh, 0, none⟩) (N (mkm 7 a0)) (N (mkm 7 a0))), (12, .slice p.2.1 p.1.length p.2.2), (16, .slice (some ⟨gs, 0, none⟩) (2 * (p.1.length + (a2 % 4).toNat)) (2 * (p.1.length + (a2 % 4).toNat))), (17, .int .i64 (i : Nat)), (18, .int .i64 (j : Nat))]) (fun j => Sto w [blk gs 3 (ints .i64 (tabN (2 * (p.1.length + (a2 % 4).toNat)) (psF (mkm 7 a0) p.1 i j))).toArray, own 3 1 p.2.1 p.1.length p.2.2 (nats .i64 p.1), blk gh 4 (btab (N (mkm 7 a0)) (memF p.1)), fieldA g (mkm 7 a0)]) (fun j => j ≤ p.1.length) (fun j => p.1.length - j) 0 ⟨rfl, rfl, rfl, rfl, rfl, rfl, rfl, trivial⟩ (fun _ h => h) (Nat.zero_le _) ?_
      intro j hj
      have hpl := psF_lt hm p.1 i j i
      refine CW.seq ?_
      refine CW.seq ?_
      refine CW.reg [0, 1, 2, 3] rfl ?_   -- 21, law.go:107
      refine s_mv 92 rfl rfl ?_
      refine s_mv 93 rfl rfl ?_
      refine s_len 94 rfl rfl ?_
      refine s_lt 95 rfl rfl rfl rfl ?_
      refine SX.next ?_
      refine CW.test rfl (fun hc => ?_) (fun hc => ?_)
      · skip
        refine CW.skip ?_
        refine KN.code ?_
        refine CW.seq ?_
        refine CW.block ?_
        refine CW.regD (.st true 0 (.st true 1 (.st true 2 (.st true 3 (.st true 4 (.st true 6 (.st true 7 (.st true 8 (.st true 9 (.st true 11 (.st true 12 (.alt 5 (.st false 10 (.st true 13 (.st false 14 (.st true 15 (.st true 16 (.st false 17 .done)))))) (.st false 10 (.st true 13 (.alt 5 (.st false 14 (.st true 15 (.st true 16 (.st false 17 .done)))) (.st false 14 (.st false 5 (.st true 15 (.st true 16 (.st false 17 .done)))))))))))))))))))) (Sto w [own 3 1 p.2.1 p.1.length p.2.2 (nats .i64 p.1), fieldA g (mkm 7 a0)]) mixed (by kernel_rfl) (fun _ h => h.drew) (fun _ h => h.pick [1, 2] rfl) ?_
        refine s_mv 98 rfl rfl ?_
        refine s_mv 99 rfl rfl ?_
        refine s_mv 100 rfl rfl ?_
        refine s_mv 101 rfl rfl ?_
        refine s_ia0 102 i rfl rfl rfl rfl (by omega) ?_
        refine s_mv 104 rfl rfl ?_
        refine s_mv 105 rfl rfl ?_
        refine s_mv 106 rfl rfl ?_
        refine s_iaO 107 1 j rfl rfl rfl rfl rfl (by omega) ?_
        refine s_mv 109 rfl rfl ?_
        refine s_add 110 rfl rfl rfl (r := ((i + 1 : Nat) : Int)) (w64 (by omega)) ?_
        refine SX.alt ?_ ?_
        · skip
          refine s_ldB 103 0 rfl rfl rfl (tabN_atA (by omega)) ?_
          refine s_ldO 108 1 rfl rfl rfl (natsAtC (by omega)) ?_
          refine s_mul 111 rfl rfl rfl (mulw (show cf p.1 j ≤ 16383 by have := hpN _ (List.mem_of_getElem? (cf_in (l := p.1) (j := j) (by omega))); omega) (show i + 1 ≤ 60 by omega) (by decide)) ?_
          refine s_call1 112 rfl rfl rfl rfl (v := .int .i64 (exz (mkm 7 a0) ((cf p.1 j : Nat) * ((i : Nat) + 1 : Int)) : Nat)) (fun w hw => by have := exp_spec g (mkm 7 a0) ((cf p.1 j * (i + 1) : Nat) : Int) w hm (hw.has (i := 3) rfl); rw [Int.natCast_mul] at this; exact this) (fun _ h => h.pick [1, 2] rfl) ?_
          refine s_bit 113 rfl rfl rfl rfl (ibit_xor_nat (pow63 hm hpl) (pow63 hm (exz_lt hm _))) ?_
          refine s_ia0 114 i rfl rfl rfl rfl (by omega) ?_
          refine s_stB 0 rfl rfl rfl rfl rfl (by rw [tabN_sz]; omega) (fun _ h => h.pick [1, 2] rfl) ?_
          refine SX.end_ ?_
          refine KN.blk ?_
          refine KN.code ?_
          refine CW.reg [0, 1, 2] rfl ?_   -- 22, law.go:107
          refine s_mv 96 rfl rfl ?_
          refine s_add 97 rfl rfl rfl (r := ((j + 1 : Nat) : Int)) (w64 (by omega)) ?_
          refine s_as 18 rfl rfl ?_
          refine SX.end_ ?_
          exact KN.back (j + 1) ⟨rfl, rfl, rfl, rfl, rfl, rfl, rfl, trivial⟩ (fun _ h => by rw [← psF_next, ← tabN_set]; exact h) (by omega) (by omega)
        · skip
          refine s_ldO 108 1 rfl rfl rfl (natsAtC (by omega)) ?_
          refine s_mul 111 rfl rfl rfl (mulw (show cf p.1 j ≤ 16383 by have := hpN _ (List.mem_of_getElem? (cf_in (l := p.1) (j := j) (by omega))); omega) (show i + 1 ≤ 60 by omega) (by decide)) ?_
          refine SX.alt ?_ ?_
          · skip
            refine s_ldB 103 0 rfl rfl rfl (tabN_atA (by omega)) ?_
            refine s_call1 112 rfl rfl rfl rfl (v := .int .i64 (exz (mkm 7 a0) ((cf p.1 j : Nat) * ((i : Nat) + 1 : Int)) : Nat)) (fun w hw => by have := exp_spec g (mkm 7 a0) ((cf p.1 j * (i + 1) : Nat) : Int) w hm (hw.has (i := 3) rfl); rw [Int.natCast_mul] at this; exact this) (fun _ h => h.pick [1, 2] rfl) ?_
            refine s_bit 113 rfl rfl rfl rfl (ibit_xor_nat (pow63 hm hpl) (pow63 hm (exz_lt hm _))) ?_
            refine s_ia0 114 i rfl rfl rfl rfl (by omega) ?_
            refine s_stB 0 rfl rfl rfl rfl rfl (by rw [tabN_sz]; omega) (fun _ h => h.pick [1, 2] rfl) ?_
            refine SX.end_ ?_
            refine KN.blk ?_
            refine KN.code ?_
            refine CW.reg [0, 1, 2] rfl ?_   -- 22, law.go:107
            refine s_mv 96 rfl rfl ?_
            refine s_add 97 rfl rfl rfl (r := ((j + 1 : Nat) : Int)) (w64 (by omega)) ?_
            refine s_as 18 rfl rfl ?_
            refine SX.end_ ?_
            exact KN.back (j + 1) ⟨rfl, rfl, rfl, rfl, rfl, rfl, rfl, trivial⟩ (fun _ h => by rw [← psF_next, ← tabN_set]; exact h) (by omega) (by omega)
          · skip
            refine s_call1 112 rfl rfl rfl rfl (v := .int .i64 (exz (mkm 7 a0) ((cf p.1 j : Nat) * ((i : Nat) + 1 : Int)) : Nat)) (fun w hw => by have := exp_spec g (mkm 7 a0) ((cf p.1 j * (i + 1) : Nat) : Int) w hm (hw.has (i := 3) rfl); rw [Int.natCast_mul] at this; exact this) (fun _ h => h.pick [1, 2] rfl) ?_
            refine s_ldB 103 0 rfl rfl rfl (tabN_atA (by omega)) ?_
            refine s_bit 113 rfl rfl rfl rfl (ibit_xor_nat (pow63 hm hpl) (pow63 hm (exz_lt hm _))) ?_
            refine s_ia0 114 i rfl rfl rfl rfl (by omega) ?_
            refine s_stB 0 rfl rfl rfl rfl rfl (by rw [tabN_sz]; omega) (fun _ h => h.pick [1, 2] rfl) ?_
            refine SX.end_ ?_
            refine KN.blk ?_
            refine KN.code ?_
            refine CW.reg [0, 1, 2] rfl ?_   -- 22, law.go:107
            refine s_mv 96 rfl rfl ?_
            refine s_add 97 rfl rfl rfl (r := ((j + 1 : Nat) : Int)) (w64 (by omega)) ?_
            refine s_as 18 rfl rfl ?_
            refine SX.end_ ?_
            exact KN.back (j + 1) ⟨rfl, rfl, rfl, rfl, rfl, rfl, rfl, trivial⟩ (fun _ h => by rw [← psF_next, ← tabN_set]; exact h) (by omega) (by omega)
      · skip
        have hje : j = p.1.length := by omega
        refine CW.exit rfl ?_
        refine KN.blk ?_
        refine KN.code ?_
        refine CW.reg [0, 1, 2] rfl ?_   -- 19, law.go:106
        refine s_mv 90 rfl rfl ?_
        refine s_add 91 rfl rfl rfl (r := ((i + 1 : Nat) : Int)) (w64 (by omega)) ?_
        refine s_as 17 rfl rfl ?_
        refine SX.end_ ?_
        exact KN.back (i + 1) ⟨rfl, rfl, rfl, rfl, rfl, rfl, trivial⟩ (fun _ h => by rw [← psF_all]; rw [hje] at h; exact h) (by omega) (by omega)
    · skip
      have hie : i = (2 * (p.1.length + (a2 % 4).toNat)) := by omega
      subst hie
      refine CW.exit rfl ?_
      refine KN.code ?_
      refine CW.seq ?_
      refine CW.reg [0, 1, 2, 3, 4, 5, 6, 7] rfl ?_   -- 24, law.go:111
      refine s_mv 116 rfl rfl ?_
      refine s_mv 117 rfl rfl ?_
      refine s_call 118 rfl rfl rfl rfl (fun w hw => locL_spec g (mkm 7 a0) (some ⟨gs, 0, none⟩) (2 * (p.1.length + (a2 % 4).toNat)) (2 * (p.1.length + (a2 % 4).toNat)) (tabN (2 * (p.1.length + (a2 % 4).toNat)) (psF (mkm 7 a0) p.1 (2 * (p.1.length + (a2 % 4).toNat)) 0)) w hm (hw.has (i := 3) rfl) ((hw.has (i := 0) rfl).blk_sl (m := (2 * (p.1.length + (a2 % 4).toNat))) tabNs_n) (by omega) (by omega)) (fun _ _ => trivial) (fun q118 hq118 => ?_)
      refine s_mv 115 rfl rfl ?_
      refine s_ext 119 rfl rfl rfl ?_
      refine s_ext 120 rfl rfl rfl ?_
      refine s_as 19 rfl rfl ?_
      refine s_as 20 rfl rfl ?_
      refine SX.next ?_
      refine CW.seq ?_
      refine CW.reg [0, 1, 2, 3, 4, 5, 6, 7] rfl ?_   -- 25, law.go:112
      refine s_mv 122 rfl rfl ?_
      refine s_mv 123 rfl rfl ?_
      refine s_call 124 rfl rfl rfl rfl (fun w hw => of_spec g (mkm 7 a0) p.2.1 p.1.length p.2.2 (p.1.map Int.ofNat) w hm (hw.has (i := 4) rfl) (by rw [← nats_ints]; exact (hw.has (i := 2) rfl).of_own) (by omega)) (fun _ _ => trivial) (fun q124 hq124 => ?_)
      refine s_mv 121 rfl rfl ?_
      refine s_ext 125 rfl rfl rfl ?_
      refine s_ext 126 rfl rfl rfl ?_
      refine s_as 21 rfl rfl ?_
      refine s_as 22 rfl rfl ?_
      refine SX.next ?_
      refine CW.seq ?_
      refine CW.reg [0, 1, 2, 3, 4, 5, 6, 7, 8, 9, 10, 11, 12, 13, 14, 15, 16, 17, 18, 19, 20] rfl ?_   -- 26, law.go:113
      refine s_mv 127 rfl rfl ?_
      refine s_eqNN 128 rfl rfl ?_
      refine s_mv 129 rfl rfl ?_
      refine s_mv 130 rfl rfl ?_
      refine s_mv 131 rfl rfl ?_
      refine s_len 132 rfl rfl ?_
      refine s_eq 133 rfl rfl rfl (decide_eq_true (by rw [hfin.1])) ?_
      refine s_pickT 134 rfl rfl rfl ?_
      refine s_mv 135 rfl rfl ?_
      refine s_mv 136 rfl rfl ?_
      refine s_mv 137 rfl rfl ?_
      refine s_call1 138 rfl rfl rfl rfl (v := .bool true) (fun w hw => by have := sameInts_spec q118.1 q124.1 (BL (mkm 7 a0) (tabN (2 * (p.1.length + (a2 % 4).toNat)) (psF (mkm 7 a0) p.1 (2 * (p.1.length + (a2 % 4).toNat)) 0))).c.length q118.2 (ofP (mkm 7 a0) (p.1.map Int.ofNat) (p.1.map Int.ofNat).length).length q124.2 ((BL (mkm 7 a0) (tabN (2 * (p.1.length + (a2 % 4).toNat)) (psF (mkm 7 a0) p.1 (2 * (p.1.length + (a2 % 4).toNat)) 0))).c.map Int.ofNat) ((ofP (mkm 7 a0) (p.1.map Int.ofNat) (p.1.map Int.ofNat).length).map Int.ofNat) _ (by rw [← nats_ints]; exact (hw.has (i := 1) rfl).of_own) (by rw [← nats_ints]; exact (hw.has (i := 0) rfl).of_own) (by omega); rw [decide_eq_true (by rw [hfin.2])] at this; exact this) (fun _ _ => trivial) ?_
      refine s_pickT 139 rfl rfl rfl ?_
      refine s_mv 140 rfl rfl ?_
      refine s_mv 141 rfl rfl ?_
      refine s_mv 142 rfl rfl ?_
      refine s_mv 143 rfl rfl ?_
      refine s_mv 144 rfl rfl ?_
      refine s_call1 145 rfl rfl rfl rfl (v := .bool true) (fun w hw => by have := makes_spec g (mkm 7 a0) q124.1 (ofP (mkm 7 a0) (p.1.map Int.ofNat) (p.1.map Int.ofNat).length).length q124.2 ((ofP (mkm 7 a0) (p.1.map Int.ofNat) (p.1.map Int.ofNat).length).map Int.ofNat) ((BL (mkm 7 a0) (tabN (2 * (p.1.length + (a2 % 4).toNat)) (psF (mkm 7 a0) p.1 (2 * (p.1.length + (a2 % 4).toNat)) 0))).L : Nat) (some ⟨gs, 0, none⟩) (2 * (p.1.length + (a2 % 4).toNat)) (2 * (p.1.length + (a2 % 4).toNat)) (tabN (2 * (p.1.length + (a2 % 4).toNat)) (psF (mkm 7 a0) p.1 (2 * (p.1.length + (a2 % 4).toNat)) 0)) w hm (hw.has (i := 5) rfl) (by rw [← nats_ints]; exact (hw.has (i := 0) rfl).of_own) ((hw.has (i := 2) rfl).blk_sl (m := (2 * (p.1.length + (a2 % 4).toNat))) tabNs_n) (by omega) (by omega); rw [← hfin.2, hmb] at this; rw [← hfin.2]; exact this) (fun _ _ => trivial) ?_
      refine s_pickT 146 rfl rfl rfl ?_
      refine s_as 6 rfl rfl ?_
      refine SX.next ?_
      refine CW.ret ?_
      exact KN.ret (rs := [.tmp 6]) Tryd.results12 rfl (fun w hw => ⟨rfl, hw.nothing⟩)
