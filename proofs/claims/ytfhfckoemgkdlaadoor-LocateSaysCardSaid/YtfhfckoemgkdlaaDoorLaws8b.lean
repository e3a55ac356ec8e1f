/- The statements LocateSquares and LocateFinds, walked. No condition but the errors' variables. -/
import Derived.Test.YtfhfckoemgkdlaaDoorLaws8
import Derived.Test.YtfhfckoemgkdlaaDoorLaws9c
namespace Go.Proofs.YtfhfckoemgkdlaaDoor
open Go Go.Sx Go.Fm
set_option maxRecDepth 100000
theorem ints_rep (k : IntKind) (n : Nat) : (List.replicate n (.int k 0)).toArray = (ints k (List.replicate n 0)).toArray := by simp [ints]
theorem intsAtA {k : IntKind} {l : List Int} {i : Nat} (h : i < l.length) : (ints k l).toArray[i]? = some (.int k (l.getD i 0)) := by rw [List.getElem?_toArray]; exact intsAt h
theorem ints_sz (k : IntKind) (l : List Int) : (ints k l).toArray.size = l.length := by simp [ints]
theorem quo2 {i : Nat} (h : i < 2 ^ 62) : IntKind.i64.wrap (((i : Nat) : Int).tdiv 2) = ((i / 2 : Nat) : Int) := by
  rw [show ((i : Nat) : Int).tdiv 2 = ((i / 2 : Nat) : Int) from rfl]; exact w64 (by omega)
theorem BL_take {m : Nat} (hm : Ok m) (X : List Int) {n : Nat} (h : n ≤ X.length) : BL m (X.take n) = bmG m (stL m) (lowL m X) n := by
  unfold BL
  rw [List.length_take, Nat.min_eq_left h]
  refine bmG_ext hm (stL_ok hm) n (fun i hi => ?_)
  rw [cf_low, cf_low, List.getD_eq_getElem?_getD, List.getElem?_take, if_pos hi, ← List.getD_eq_getElem?_getD]
theorem sq_BL {m : Nat} (hm : Ok m) {X : List Int} (hsq : ∀ k, 2 * k + 1 < X.length → X.getD (2 * k + 1) 0 = ((gm m (lo m (X.getD k 0)) (lo m (X.getD k 0)) : Nat) : Int)) {t : Nat} (h : 2 * t + 2 ≤ X.length) :
    (BL m (X.take (2 * t + 2))).c = (BL m (X.take (2 * t + 1))).c ∧ (BL m (X.take (2 * t + 2))).L = (BL m (X.take (2 * t + 1))).L := by
  rw [BL_take hm X h, BL_take hm X (by omega)]
  refine sq_fits hm (lowL_lt m X) (fun i hi => ?_) (by rw [lowL_len]; exact h)
  rw [lowL_len] at hi
  rw [cf_low, cf_low, hsq i hi, lo_nat (gm_lt hm (lo_lt m _) _)]
theorem getD_set_ne {l : List Int} {i j : Nat} {z : Int} (h : i ≠ j) : (l.set i z).getD j 0 = l.getD j 0 := by
  rw [List.getD_eq_getElem?_getD, List.getElem?_set_ne h, ← List.getD_eq_getElem?_getD]
theorem getD_set_eq {l : List Int} {i : Nat} {z : Int} (h : i < l.length) : (l.set i z).getD i 0 = z := by
  rw [List.getD_eq_getElem?_getD, List.getElem?_set_self h]; rfl
def SqX (m : Nat) (X : List Int) (n : Nat) : Prop := ∀ k, 2 * k + 1 < n → X.getD (2 * k + 1) 0 = ((gm m (lo m (X.getD k 0)) (lo m (X.getD k 0)) : Nat) : Int)
theorem SqX.even {m : Nat} {X : List Int} {i : Nat} (h : SqX m X i) (he : i % 2 = 0) (z : Int) : SqX m (X.set i z) (i + 1) := fun k hk => by
  rw [getD_set_ne (by omega), getD_set_ne (by omega)]; exact h k (by omega)
theorem SqX.odd {m : Nat} {X : List Int} {i : Nat} (h : SqX m X i) (he : i % 2 = 1) (hi : i < X.length) : SqX m (X.set i ((gm m (lo m (X.getD (i / 2) 0)) (lo m (X.getD (i / 2) 0)) : Nat) : Int)) (i + 1) := fun k hk => by
  rw [getD_set_ne (j := k) (by omega)]
  by_cases h2 : 2 * k + 1 = i
  · rw [h2, getD_set_eq hi, show i / 2 = k by omega]
  · rw [getD_set_ne (by omega)]; exact h k (by omega)

theorem walk_LocateSquares (a0 : Int) (A1 : Option Addr) (n1 c1 : Nat) (l1 : List Int) (e : Nat → Addr) (w : World) (hs1 : Has (sl 1 A1 n1 (ints .i64 l1)) w) (hn1 : n1 ≤ 9223372036854775807) (hc1 : n1 ≤ c1) (_hf : Er e w 2) (_hz : Er e w 1) (_hl : Er e w 0) : Spec1 Tryd.prog 7 [.int .i64 a0, .slice A1 n1 c1] w (.bool true) := by
  have hm := mkm_ok (k := 7) (by omega) (by omega) a0
  have hla := ints_len hs1
  subst hla
  have h14 := pow_le14 hm
  have hNs := N_succ (mkm 7 a0)
  have hNp := N_pos hm
  have hmh := hm.hi
  refine spec_of Tryd.func7 rfl Tryd.ntmps7 rfl ?_
  refine CW.seq ?_
  refine CW.reg [0] rfl ?_   -- 0, last.go:9
  refine s_as 4 rfl rfl ?_
  refine SX.next ?_
  refine CW.seq ?_
  refine CW.reg [0, 1] rfl ?_   -- 1, last.go:10
  refine s_call1 15 rfl rfl rfl rfl (fun w hw => first8_spec w) (fun _ _ => trivial) ?_
  refine s_as 5 rfl rfl ?_
  refine SX.next ?_
  refine CW.seq ?_
  refine CW.reg [0, 1, 2, 3, 4, 5, 6] rfl ?_   -- 2, last.go:11
  refine s_mv 17 rfl rfl ?_
  refine s_call 18 rfl rfl rfl rfl (fun w hw => made8_spec a0 w) (fun _ _ => trivial) (fun g _ => ?_)
  refine s_mv 16 rfl rfl ?_
  refine s_ext 19 rfl rfl rfl ?_
  refine s_ext 20 rfl rfl rfl ?_
  refine s_as 6 rfl rfl ?_
  refine s_as 7 rfl rfl ?_
  refine SX.next ?_
  refine CW.seq ?_
  refine CW.seq ?_
  refine CW.reg [0, 1, 2, 3, 4, 5, 6, 7, 8, 9, 10] rfl ?_   -- 3, last.go:12
  refine s_mv 21 rfl rfl ?_
  refine s_eqPN 22 rfl rfl ?_
  refine s_mv 23 rfl rfl ?_
  refine s_mv 24 rfl rfl ?_
  refine s_len 25 rfl rfl ?_
  refine s_gt 26 rfl rfl rfl rfl ?_
  refine s_pickF 27 rfl rfl rfl ?_
  refine s_mv 28 rfl rfl ?_
  refine SX.bool 28 rfl (fun hb => ?_) (fun hb => ?_)
  · skip
    skip
    refine SX.skip rfl ?_
    refine SX.skip rfl ?_
    refine s_pickT 31 rfl rfl rfl ?_
    refine SX.next ?_
    refine CW.condT rfl ?_
    refine CW.seq ?_
    refine CW.reg [0, 1, 2, 3, 4, 5] rfl ?_   -- 4, last.go:13
    refine s_mv 32 rfl rfl ?_
    refine s_mv 33 rfl rfl ?_
    refine s_mv 34 rfl rfl ?_
    refine s_nePN 35 rfl rfl ?_
    refine s_pickT 36 rfl rfl rfl ?_
    refine s_as 4 rfl rfl ?_
    refine SX.next ?_
    refine CW.ret ?_
    exact KN.ret (rs := [.tmp 4]) Tryd.results7 rfl (fun w hw => ⟨rfl, hw.nothing⟩)
  · skip
    have hp1 := of_decide_eq_false hb
    have hx1 : l1.length ≤ 20 := by omega
    refine s_mv 29 rfl rfl ?_
    refine s_not 30 rfl rfl ?_
    refine s_pickF 31 rfl rfl rfl ?_
    refine SX.next ?_
    refine CW.condF rfl ?_
    refine CW.skip ?_
    refine KN.code ?_
    refine CW.seq ?_
    refine CW.reg [0, 1, 2, 3, 4] rfl ?_   -- 5, last.go:15
    refine s_mv 37 rfl rfl ?_
    refine s_len 38 rfl rfl ?_
    refine s_mul 39 rfl rfl rfl (r := (((2 * l1.length) : Nat) : Int)) (by rw [show (2 : Int) * ((l1.length : Nat) : Int) = (((2 * l1.length) : Nat) : Int) by omega]; exact w64 (by omega)) ?_
    refine s_make 40 (2 * l1.length) rfl rfl rfl rfl rfl (by omega) (fun _ _ => trivial) (fun gx => ?_)
    refine s_as 8 rfl rfl ?_
    refine SX.next ?_
    refine CW.seq ?_
    refine CW.seq ?_
    refine CW.reg [0] rfl ?_   -- 6, last.go:16
    refine s_as 9 rfl rfl ?_
    refine SX.next ?_
    refine CW.block ?_
    refine CW.loop (G := Nat × List Int) (fun q => [(1, .slice A1 l1.length c1), (6, .pointer (some ⟨g, 0, none⟩)), (8, .slice (some ⟨gx, 0, none⟩) (2 * l1.length) (2 * l1.length)), (9, .int .i64 (q.1 : Nat))]) (fun q => Sto w [blk gx 3 (ints .i64 q.2).toArray, fieldA g (mkm 7 a0)]) (fun q => q.1 ≤ (2 * l1.length) ∧ q.2.length = (2 * l1.length) ∧ SqX (mkm 7 a0) q.2 q.1) (fun q => (2 * l1.length) - q.1) (0, List.replicate (2 * l1.length) 0) ⟨rfl, rfl, rfl, rfl, trivial⟩ (fun _ h => by rw [← ints_rep]; exact h) ⟨Nat.zero_le _, List.length_replicate, fun k hk => absurd hk (Nat.not_lt_zero _)⟩ ?_
    rintro q ⟨hi, hXl, hsq⟩
    refine CW.seq ?_
    refine CW.seq ?_
    refine CW.reg [0, 1, 2, 3] rfl ?_   -- 7, last.go:16
    refine s_mv 41 rfl rfl ?_
    refine s_mv 42 rfl rfl ?_
    refine s_len 43 rfl rfl ?_
    refine s_lt 44 rfl rfl rfl rfl ?_
    refine SX.next ?_
    refine CW.test rfl (fun hc => ?_) (fun hc => ?_)
    · skip
      refine CW.skip ?_
      refine KN.code ?_
      refine CW.seq ?_
      refine CW.block ?_
      refine CW.seq ?_
      refine CW.reg [0, 1, 2] rfl ?_   -- 9, last.go:17
      refine s_mv 47 rfl rfl ?_
      refine s_rem 48 rfl rfl rfl (by omega) (r := ((q.1 % 2 : Nat) : Int)) rfl ?_
      refine s_eq 49 rfl rfl rfl rfl ?_
      refine SX.next ?_
      refine CW.test rfl (fun hc => ?_) (fun hc => ?_)
      · skip
        refine CW.reg [0, 1, 2, 3, 4, 5, 6, 7, 8] rfl ?_   -- 10, last.go:18
        refine s_mv 50 rfl rfl ?_
        refine s_mv 51 rfl rfl ?_
        refine s_mv 52 rfl rfl ?_
        refine s_mv 53 rfl rfl ?_
        refine s_quo 54 rfl rfl rfl (by omega) (quo2 (by omega)) ?_
        refine s_iaV 55 (q.1 / 2) (fun w hw => hw.old hs1) rfl rfl rfl rfl (by omega) ?_
        refine s_ldV 56 (fun w hw => hw.old hs1) rfl rfl (by rw [Nat.mul_one]; exact intsAt (by omega)) (by omega) ?_
        refine s_ia0 57 q.1 rfl rfl rfl rfl (by omega) ?_
        refine s_stB 0 rfl rfl rfl rfl rfl (by rw [ints_sz]; omega) (fun _ _ => trivial) ?_
        refine SX.end_ ?_
        refine KN.blk ?_
        refine KN.code ?_
        refine CW.reg [0, 1, 2] rfl ?_   -- 8, last.go:16
        refine s_mv 45 rfl rfl ?_
        refine s_add 46 rfl rfl rfl (r := ((q.1 + 1 : Nat) : Int)) (w64 (by omega)) ?_
        refine s_as 9 rfl rfl ?_
        refine SX.end_ ?_
        exact KN.back (q.1 + 1, q.2.set q.1 (l1.getD (q.1 / 2) 0)) ⟨rfl, rfl, rfl, rfl, trivial⟩ (fun _ h => by rw [← ints_setA]; exact h) ⟨by simp only; omega, by rw [List.length_set]; exact hXl, hsq.even (by omega) _⟩ (by simp only; omega)
      · skip
        refine CW.regD (.st true 0 (.st true 1 (.st true 2 (.st true 3 (.st true 4 (.st true 5 (.st true 6 (.st true 8 (.st true 9 (.st true 10 (.st true 11 (.alt 7 (.st false 12 (.st false 13 (.st true 14 (.st false 15 .done)))) (.st false 12 (.st false 7 (.st false 13 (.st true 14 (.st false 15 .done))))))))))))))))) (Sto w [fieldA g (mkm 7 a0)]) mixed (by kernel_rfl) (fun _ h => h.drew) (fun _ h => h.pick [1] rfl) ?_
        refine s_mv 58 rfl rfl ?_
        refine s_mv 59 rfl rfl ?_
        refine s_mv 60 rfl rfl ?_
        refine s_mv 61 rfl rfl ?_
        refine s_mv 62 rfl rfl ?_
        refine s_quo 63 rfl rfl rfl (by omega) (quo2 (by omega)) ?_
        refine s_ia0 64 (q.1 / 2) rfl rfl rfl rfl (by omega) ?_
        refine s_mv 66 rfl rfl ?_
        refine s_mv 67 rfl rfl ?_
        refine s_quo 68 rfl rfl rfl (by omega) (quo2 (by omega)) ?_
        refine s_ia0 69 (q.1 / 2) rfl rfl rfl rfl (by omega) ?_
        refine SX.alt ?_ ?_
        · skip
          refine s_ldB 65 0 rfl rfl rfl (intsAtA (by omega)) ?_
          refine s_ldB 70 0 rfl rfl rfl (intsAtA (by omega)) ?_
          refine s_call1 71 rfl rfl rfl rfl (fun w hw => mul_spec g (mkm 7 a0) _ _ w hm (hw.has (i := 1) rfl)) (fun _ h => h.pick [1] rfl) ?_
          refine s_ia0 72 q.1 rfl rfl rfl rfl (by omega) ?_
          refine s_stB 0 rfl rfl rfl rfl rfl (by rw [ints_sz]; omega) (fun _ h => h.pick [1] rfl) ?_
          refine SX.end_ ?_
          refine KN.blk ?_
          refine KN.code ?_
          refine CW.reg [0, 1, 2] rfl ?_   -- 8, last.go:16
          refine s_mv 45 rfl rfl ?_
          refine s_add 46 rfl rfl rfl (r := ((q.1 + 1 : Nat) : Int)) (w64 (by omega)) ?_
          refine s_as 9 rfl rfl ?_
          refine SX.end_ ?_
          exact KN.back (q.1 + 1, q.2.set q.1 ((gm (mkm 7 a0) (lo (mkm 7 a0) (q.2.getD (q.1 / 2) 0)) (lo (mkm 7 a0) (q.2.getD (q.1 / 2) 0)) : Nat) : Int)) ⟨rfl, rfl, rfl, rfl, trivial⟩ (fun _ h => by rw [← ints_setA]; exact h) ⟨by simp only; omega, by rw [List.length_set]; exact hXl, hsq.odd (by omega) (by omega)⟩ (by simp only; omega)
        · skip
          refine s_ldB 70 0 rfl rfl rfl (intsAtA (by omega)) ?_
          refine s_ldB 65 0 rfl rfl rfl (intsAtA (by omega)) ?_
          refine s_call1 71 rfl rfl rfl rfl (fun w hw => mul_spec g (mkm 7 a0) _ _ w hm (hw.has (i := 1) rfl)) (fun _ h => h.pick [1] rfl) ?_
          refine s_ia0 72 q.1 rfl rfl rfl rfl (by omega) ?_
          refine s_stB 0 rfl rfl rfl rfl rfl (by rw [ints_sz]; omega) (fun _ h => h.pick [1] rfl) ?_
          refine SX.end_ ?_
          refine KN.blk ?_
          refine KN.code ?_
          refine CW.reg [0, 1, 2] rfl ?_   -- 8, last.go:16
          refine s_mv 45 rfl rfl ?_
          refine s_add 46 rfl rfl rfl (r := ((q.1 + 1 : Nat) : Int)) (w64 (by omega)) ?_
          refine s_as 9 rfl rfl ?_
          refine SX.end_ ?_
          exact KN.back (q.1 + 1, q.2.set q.1 ((gm (mkm 7 a0) (lo (mkm 7 a0) (q.2.getD (q.1 / 2) 0)) (lo (mkm 7 a0) (q.2.getD (q.1 / 2) 0)) : Nat) : Int)) ⟨rfl, rfl, rfl, rfl, trivial⟩ (fun _ h => by rw [← ints_setA]; exact h) ⟨by simp only; omega, by rw [List.length_set]; exact hXl, hsq.odd (by omega) (by omega)⟩ (by simp only; omega)
    · skip
      have hqe : q.1 = (2 * l1.length) := by omega
      refine CW.exit rfl ?_
      refine KN.code ?_
      refine CW.seq ?_
      refine CW.seq ?_
      refine CW.reg [0] rfl ?_   -- 12, last.go:23
      refine s_as 10 rfl rfl ?_
      refine SX.next ?_
      refine CW.block ?_
      refine CW.loop (G := Nat) (fun t => [(6, .pointer (some ⟨g, 0, none⟩)), (8, .slice (some ⟨gx, 0, none⟩) (2 * l1.length) (2 * l1.length)), (10, .int .i64 ((2 * t + 1 : Nat) : Int))]) (fun _ => Sto w [blk gx 3 (ints .i64 q.2).toArray, fieldA g (mkm 7 a0)]) (fun t => t ≤ l1.length) (fun t => l1.length - t) 0 ⟨rfl, rfl, rfl, trivial⟩ (fun _ h => h) (Nat.zero_le _) ?_
      intro t ht
      refine CW.seq ?_
      refine CW.seq ?_
      refine CW.reg [0, 1, 2, 3] rfl ?_   -- 13, last.go:23
      refine s_mv 73 rfl rfl ?_
      refine s_mv 74 rfl rfl ?_
      refine s_len 75 rfl rfl ?_
      refine s_lt 76 rfl rfl rfl rfl ?_
      refine SX.next ?_
      refine CW.test rfl (fun hc => ?_) (fun hc => ?_)
      · skip
        have hE := sq_BL hm (X := q.2) (fun k hk => hsq k (by omega)) (t := t) (by omega)
        have hB := BL_len hm (q.2.take (2 * t + 1))
        have hBl : (BL (mkm 7 a0) (q.2.take (2 * t + 1))).c.length < 2 ^ 62 := by rw [List.length_take] at hB; omega
        refine CW.skip ?_
        refine KN.code ?_
        refine CW.seq ?_
        refine CW.block ?_
        refine CW.seq ?_
        refine CW.reg [0, 1, 2, 3, 4, 5, 6, 7, 8, 9] rfl ?_   -- 15, last.go:24
        refine s_mv 80 rfl rfl ?_
        refine s_mv 81 rfl rfl ?_
        refine s_mv 82 rfl rfl ?_
        refine s_slH 83 (2 * t + 1) rfl rfl rfl rfl (by omega) ?_
        refine s_call 84 rfl rfl rfl rfl (fun w hw => locL_spec g (mkm 7 a0) (some ⟨gx, 0, none⟩) (2 * t + 1) (2 * l1.length) (q.2.take (2 * t + 1)) w hm (hw.has (i := 1) rfl) (Has.cong (((hw.has (i := 0) rfl).blk_sl (m := (2 * l1.length)) (by rw [ints_sz, hXl, Nat.mul_one])).sl_take (q := (2 * t + 1)) (by omega)) (by rw [Nat.mul_one]; exact List.map_take.symm)) (by omega) (by omega)) (fun _ _ => trivial) (fun q84 hq84 => ?_)
        refine s_mv 79 rfl rfl ?_
        refine s_ext 85 rfl rfl rfl ?_
        refine s_ext 86 rfl rfl rfl ?_
        refine s_as 11 rfl rfl ?_
        refine s_as 12 rfl rfl ?_
        refine SX.next ?_
        refine CW.seq ?_
        refine CW.reg [0, 1, 2, 3, 4, 5, 6, 7, 8, 9, 10] rfl ?_   -- 16, last.go:25
        refine s_mv 88 rfl rfl ?_
        refine s_mv 89 rfl rfl ?_
        refine s_mv 90 rfl rfl ?_
        refine s_add 91 rfl rfl rfl (r := ((2 * t + 2 : Nat) : Int)) (w64 (by omega)) ?_
        refine s_slH 92 (2 * t + 2) rfl rfl rfl rfl (by omega) ?_
        refine s_call 93 rfl rfl rfl rfl (fun w hw => locL_spec g (mkm 7 a0) (some ⟨gx, 0, none⟩) (2 * t + 2) (2 * l1.length) (q.2.take (2 * t + 2)) w hm (hw.has (i := 2) rfl) (Has.cong (((hw.has (i := 1) rfl).blk_sl (m := (2 * l1.length)) (by rw [ints_sz, hXl, Nat.mul_one])).sl_take (q := (2 * t + 2)) (by omega)) (by rw [Nat.mul_one]; exact List.map_take.symm)) (by omega) (by omega)) (fun _ _ => trivial) (fun q93 hq93 => ?_)
        refine s_mv 87 rfl rfl ?_
        refine s_ext 94 rfl rfl rfl ?_
        refine s_ext 95 rfl rfl rfl ?_
        refine s_as 13 rfl rfl ?_
        refine s_as 14 rfl rfl ?_
        refine SX.next ?_
        refine CW.seq ?_
        refine CW.reg [0, 1, 2, 3, 4, 5, 6, 7, 8] rfl ?_   -- 17, last.go:26
        refine s_mv 96 rfl rfl ?_
        refine s_mv 97 rfl rfl ?_
        refine s_ne 98 rfl rfl rfl (decide_eq_false (by rw [hE.2]; exact fun h => h rfl)) ?_
        refine s_mv 99 rfl rfl ?_
        refine s_mv 100 rfl rfl ?_
        refine s_mv 101 rfl rfl ?_
        refine s_call1 102 rfl rfl rfl rfl (v := .bool true) (fun w hw => by have := sameInts_spec q84.1 q93.1 (BL (mkm 7 a0) (q.2.take (2 * t + 1))).c.length q84.2 (BL (mkm 7 a0) (q.2.take (2 * t + 2))).c.length q93.2 ((BL (mkm 7 a0) (q.2.take (2 * t + 1))).c.map Int.ofNat) ((BL (mkm 7 a0) (q.2.take (2 * t + 2))).c.map Int.ofNat) _ (by rw [← nats_ints]; exact (hw.has (i := 1) rfl).of_own) (by rw [← nats_ints]; exact (hw.has (i := 0) rfl).of_own) (by omega); rw [decide_eq_true (by rw [hE.1])] at this; exact this) (fun _ _ => trivial) ?_
        refine s_not 103 rfl rfl ?_
        refine s_pickF 104 rfl rfl rfl ?_
        refine SX.next ?_
        refine CW.condF rfl ?_
        refine CW.skip ?_
        refine KN.blk ?_
        refine KN.code ?_
        refine CW.reg [0, 1, 2] rfl ?_   -- 14, last.go:23
        refine s_mv 77 rfl rfl ?_
        refine s_add 78 rfl rfl rfl (r := ((2 * (t + 1) + 1 : Nat) : Int)) (by rw [show ((2 * t + 1 : Nat) : Int) + 2 = ((2 * (t + 1) + 1 : Nat) : Int) by omega]; exact w64 (by omega)) ?_
        refine s_as 10 rfl rfl ?_
        refine SX.end_ ?_
        exact KN.back (t + 1) ⟨rfl, rfl, rfl, trivial⟩ (fun _ h => h.pick [2, 2] rfl) (by omega) (by omega)
      · skip
        refine CW.exit rfl ?_
        refine KN.code ?_
        refine CW.seq ?_
        refine CW.reg [0] rfl ?_   -- 19, last.go:30
        refine s_as 4 rfl rfl ?_
        refine SX.next ?_
        refine CW.ret ?_
        exact KN.ret (rs := [.tmp 4]) Tryd.results7 rfl (fun w hw => ⟨rfl, hw.nothing⟩)
