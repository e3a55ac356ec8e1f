/- The statement SearchFew, walked. No condition. -/
import Derived.Test.YtfhfckoemgkdlaaDoorSearch2
import Derived.Test.YtfhfckoemgkdlaaDoorRpoly
namespace Go.Proofs.YtfhfckoemgkdlaaDoor
open Go Go.Sx Go.Fm
set_option maxRecDepth 100000
theorem addE (g m x : Nat) (z : Int) (w : World) (hm : Ok m) (hf : Has (fieldA g m) w) (hx : x < 2 ^ m) : Spec1 Tryd.prog 23 [.pointer (some ⟨g, 0, none⟩), .int .i64 (x : Nat), .int .i64 z] w (.int .i64 (x ^^^ lo m z : Nat)) := by
  have := add_spec g m (x : Nat) z w hm hf
  rw [lo_nat hx] at this
  exact this
theorem places_few {m : Nat} (hm : Ok m) (l : List Int) (h0 : (trim (lowL m l)).length ≠ 0) {n : Nat} (hn : n ≤ N m) : (zerosN (plc m (lowL m l)) n).length ≤ (trim (lowL m l)).length - 1 := by
  have := zeros_few hm (trimLow_tr m l) h0 hn
  rwa [show plc m (trim (lowL m l)) = plc m (lowL m l) from funext (plc_trim _)] at this
/-- The value, by the first so many of the coefficients from above. -/
def evD (m : Nat) (l : List Int) (x : Nat) : Nat → Nat
  | 0 => 0
  | d + 1 => gm m (evD m l x d) x ^^^ lo m (l.getD (l.length - 1 - d) 0)
theorem evD_drop (m : Nat) (l : List Int) (x : Nat) : ∀ d, d ≤ l.length → evD m l x d = evL m ((lowL m l).drop (l.length - d)) x
  | 0, _ => by rw [List.drop_of_length_le (by rw [lowL_len]; omega)]; rfl
  | d + 1, h => by
    have := ev_drop (m := m) l (k := l.length - 1 - d) (by omega) x
    rw [show l.length - (d + 1) = l.length - 1 - d by omega, this, show l.length - 1 - d + 1 = l.length - d by omega, ← evD_drop m l x d (by omega)]; rfl
theorem evD_all (m : Nat) (l : List Int) (x : Nat) : evD m l x l.length = evL m (lowL m l) x := by rw [evD_drop m l x _ (Nat.le_refl _), Nat.sub_self]; rfl
theorem evD_lt {m : Nat} (hm : Ok m) (l : List Int) (x : Nat) : ∀ d, evD m l x d < 2 ^ m
  | 0 => Nat.two_pow_pos m
  | d + 1 => xor_lt (gm_lt hm (evD_lt hm l x d) _) (lo_lt m _)
theorem places_all (m : Nat) (l : List Int) (h0 : (trim (lowL m l)).length = 0) (n : Nat) : (zerosN (plc m (lowL m l)) n).length = n := by
  refine zeros_all (fun i => ?_)
  rw [← plc_trim, List.eq_nil_of_length_eq_zero h0]; rfl

theorem trimLow_len2 (m : Nat) (l : List Int) : (trim (lowL m l)).length ≤ l.length := by
  rw [trim_length, ← lowL_len m l]
  exact tl_le _

theorem walk_SearchFew (a0 : Int) (A1 : Option Addr) (n1 c1 : Nat) (l1 : List Int) (a2 : Int) (_e : Nat → Addr) (w : World) (hs1 : Has (sl 1 A1 n1 (ints .i64 l1)) w) (hn1 : n1 ≤ 9223372036854775807) (hc1 : n1 ≤ c1) : Spec1 Tryd.prog 3 [.int .i64 a0, .slice A1 n1 c1, .int .i64 a2] w (.bool true) := by
  have hm := mkm_ok (k := 6) (by omega) (by omega) a0
  have hla := ints_len hs1
  subst hla
  have h14 := pow_le14 hm
  have hNs := N_succ (mkm 6 a0)
  have hNp := N_pos hm
  have hmh := hm.hi
  refine spec_of Tryd.func3 rfl Tryd.ntmps3 rfl ?_
  refine CW.seq ?_
  refine CW.reg [0] rfl ?_   -- 0, law.go:98
  refine s_as 6 rfl rfl ?_
  refine SX.next ?_
  refine CW.seq ?_
  refine CW.reg [0, 1] rfl ?_   -- 1, law.go:99
  refine s_call1 15 rfl rfl rfl rfl (fun w hw => first9_spec w) (fun _ _ => trivial) ?_
  refine s_as 7 rfl rfl ?_
  refine SX.next ?_
  refine CW.seq ?_
  refine CW.reg [0, 1, 2, 3, 4, 5, 6] rfl ?_   -- 2, law.go:100
  refine s_mv 17 rfl rfl ?_
  refine s_call 18 rfl rfl rfl rfl (fun w hw => made9_spec a0 w) (fun _ _ => trivial) (fun g _ => ?_)
  refine s_mv 16 rfl rfl ?_
  refine s_ext 19 rfl rfl rfl ?_
  refine s_ext 20 rfl rfl rfl ?_
  refine s_as 8 rfl rfl ?_
  refine s_as 9 rfl rfl ?_
  refine SX.next ?_
  refine CW.seq ?_
  refine CW.seq ?_
  refine CW.reg [0, 1, 2, 3, 4, 5, 6, 7, 8, 9, 10] rfl ?_   -- 3, law.go:101
  refine s_mv 21 rfl rfl ?_
  refine s_eqPN 22 rfl rfl ?_
  refine s_mv 23 rfl rfl ?_
  refine s_mv 24 rfl rfl ?_
  refine s_len 25 rfl rfl ?_
  refine s_gt 26 rfl rfl rfl rfl ?_
  refine s_pickF 27 rfl rfl rfl ?_
  refine s_mv 28 rfl rfl ?_
  refine SX.bool 28 rfl (fun hb => ?_) (fun hb => ?_)
  · skip
    skip
    refine SX.skip rfl ?_
    refine SX.skip rfl ?_
    refine s_pickT 31 rfl rfl rfl ?_
    refine SX.next ?_
    refine CW.condT rfl ?_
    refine CW.seq ?_
    refine CW.reg [0, 1, 2, 3, 4, 5] rfl ?_   -- 4, law.go:102
    refine s_mv 32 rfl rfl ?_
    refine s_mv 33 rfl rfl ?_
    refine s_mv 34 rfl rfl ?_
    refine s_nePN 35 rfl rfl ?_
    refine s_pickT 36 rfl rfl rfl ?_
    refine s_as 6 rfl rfl ?_
    refine SX.next ?_
    refine CW.ret ?_
    exact KN.ret (rs := [.tmp 6]) Tryd.results3 rfl (fun w hw => ⟨rfl, hw.nothing⟩)
  · skip
    have hp1 := of_decide_eq_false hb
    have hx1 : l1.length ≤ 60 := by omega
    refine s_mv 29 rfl rfl ?_
    refine s_not 30 rfl rfl ?_
    refine s_pickF 31 rfl rfl rfl ?_
    refine SX.next ?_
    refine CW.condF rfl ?_
    refine CW.skip ?_
    refine KN.code ?_
    refine CW.seq ?_
    have hlt := lowL_lt (mkm 6 a0) l1
    have hT := trimLow_len2 (mkm 6 a0) l1
    have hZl := zerosN_len (plc (mkm 6 a0) (lowL (mkm 6 a0) l1)) (min a2 (N (mkm 6 a0) : Nat)).toNat
    have hfew := fun h => places_few hm l1 h (n := (min a2 (N (mkm 6 a0) : Nat)).toNat) (by omega)
    have hall := fun h => places_all (mkm 6 a0) l1 h (min a2 (N (mkm 6 a0) : Nat)).toNat
    refine CW.reg [0, 1, 2, 3, 4] rfl ?_   -- 5, law.go:104
    refine s_mv 37 rfl rfl ?_
    refine s_mv 38 rfl rfl ?_
    refine s_mv 39 rfl rfl ?_
    refine s_call 40 rfl rfl rfl rfl (fun w hw => ssearch_spec g (mkm 6 a0) A1 c1 l1 a2 w hm (hw.has (i := 0) rfl) (hw.old hs1) (by omega) hc1) (fun _ _ => trivial) (fun q40 hq40 => ?_)
    refine s_as 10 rfl rfl ?_
    refine SX.next ?_
    refine CW.seq ?_
    refine CW.reg [0, 1, 2, 3, 4, 5] rfl ?_   -- 6, law.go:105
    refine s_mv 41 rfl rfl ?_
    refine s_mv 42 rfl rfl ?_
    refine s_call 43 rfl rfl rfl rfl (fun w hw => rtrim_spec (mkm 6 a0) A1 l1.length c1 l1 w hm (hw.old hs1) (by omega)) (fun _ _ => trivial) (fun q43 hq43 => ?_)
    refine s_len 44 rfl rfl ?_
    refine s_sub 45 rfl rfl rfl (r := (((trim (lowL (mkm 6 a0) l1)).length : Nat) : Int) - 1) (w64 (by omega)) ?_
    refine s_as 11 rfl rfl ?_
    refine SX.next ?_
    refine CW.cut (G := Unit) (fun _ => [(1, .slice A1 l1.length c1), (2, .int .i64 a2), (8, .pointer (some ⟨g, 0, none⟩)), (9, .int .i64 ((mkm 6 a0) : Nat)), (10, .slice q40.1 (zerosN (plc (mkm 6 a0) (lowL (mkm 6 a0) l1)) (min a2 (N (mkm 6 a0) : Nat)).toNat).length q40.2), (11, .int .i64 (((trim (lowL (mkm 6 a0) l1)).length : Nat) - 1))]) (fun _ => Sto w [own 3 1 q40.1 (zerosN (plc (mkm 6 a0) (lowL (mkm 6 a0) l1)) (min a2 (N (mkm 6 a0) : Nat)).toNat).length q40.2 (nats .i64 (zerosN (plc (mkm 6 a0) (lowL (mkm 6 a0) l1)) (min a2 (N (mkm 6 a0) : Nat)).toNat)), fieldA g (mkm 6 a0)]) (fun _ => True) ?_ ?_
    · skip
      refine CW.seq ?_
      refine CW.reg [0, 1, 2, 3, 4, 5, 6, 7] rfl ?_   -- 7, law.go:106
      refine s_mv 46 rfl rfl ?_
      refine s_ge 47 rfl rfl rfl rfl ?_
      refine s_mv 48 rfl rfl ?_
      refine SX.bool 48 rfl (fun hb => ?_) (fun hb => ?_)
      · skip
        have hd := of_decide_eq_true hb
        have hfw := hfew (by omega)
        refine s_mv 49 rfl rfl ?_
        refine s_len 50 rfl rfl ?_
        refine s_mv 51 rfl rfl ?_
        refine s_gt 52 rfl rfl rfl (decide_eq_false (by omega)) ?_
        refine s_pickT 53 rfl rfl rfl ?_
        refine SX.next ?_
        refine CW.condF rfl ?_
        refine CW.skip ?_
        exact KN.join () ⟨rfl, rfl, rfl, rfl, rfl, rfl, trivial⟩ (fun _ h => h.pick [1, 1] rfl) trivial
      · skip
        skip
        refine SX.skip rfl ?_
        refine SX.skip rfl ?_
        refine SX.skip rfl ?_
        refine SX.skip rfl ?_
        refine s_pickF 53 rfl rfl rfl ?_
        refine SX.next ?_
        refine CW.condF rfl ?_
        refine CW.skip ?_
        exact KN.join () ⟨rfl, rfl, rfl, rfl, rfl, rfl, trivial⟩ (fun _ h => h.pick [1, 1] rfl) trivial
    · skip
      intro _ _
      refine CW.seq ?_
      refine CW.seq ?_
      refine CW.reg [0] rfl ?_   -- 9, law.go:109
      refine s_as 12 rfl rfl ?_
      refine SX.next ?_
      refine CW.block ?_
      refine CW.loop (G := Nat) (fun i => [(1, .slice A1 l1.length c1), (2, .int .i64 a2), (8, .pointer (some ⟨g, 0, none⟩)), (9, .int .i64 ((mkm 6 a0) : Nat)), (10, .slice q40.1 (zerosN (plc (mkm 6 a0) (lowL (mkm 6 a0) l1)) (min a2 (N (mkm 6 a0) : Nat)).toNat).length q40.2), (11, .int .i64 (((trim (lowL (mkm 6 a0) l1)).length : Nat) - 1)), (12, .int .i64 (i : Nat))]) (fun _ => Sto w [own 3 1 q40.1 (zerosN (plc (mkm 6 a0) (lowL (mkm 6 a0) l1)) (min a2 (N (mkm 6 a0) : Nat)).toNat).length q40.2 (nats .i64 (zerosN (plc (mkm 6 a0) (lowL (mkm 6 a0) l1)) (min a2 (N (mkm 6 a0) : Nat)).toNat)), fieldA g (mkm 6 a0)]) (fun i => i ≤ (zerosN (plc (mkm 6 a0) (lowL (mkm 6 a0) l1)) (min a2 (N (mkm 6 a0) : Nat)).toNat).length) (fun i => (zerosN (plc (mkm 6 a0) (lowL (mkm 6 a0) l1)) (min a2 (N (mkm 6 a0) : Nat)).toNat).length - i) 0 ⟨rfl, rfl, rfl, rfl, rfl, rfl, rfl, trivial⟩ (fun _ h => h) (Nat.zero_le _) ?_
      intro i hi
      refine CW.seq ?_
      refine CW.seq ?_
      refine CW.reg [0, 1, 2, 3] rfl ?_   -- 10, law.go:109
      refine s_mv 54 rfl rfl ?_
      refine s_mv 55 rfl rfl ?_
      refine s_len 56 rfl rfl ?_
      refine s_lt 57 rfl rfl rfl rfl ?_
      refine SX.next ?_
      refine CW.test rfl (fun hc => ?_) (fun hc => ?_)
      · skip
        have hil : i < (zerosN (plc (mkm 6 a0) (lowL (mkm 6 a0) l1)) (min a2 (N (mkm 6 a0) : Nat)).toNat).length := by omega
        have hza := zeros_at hil
        refine CW.skip ?_
        refine KN.code ?_
        refine CW.seq ?_
        refine CW.block ?_
        refine CW.cut (G := Unit) (fun _ => [(1, .slice A1 l1.length c1), (2, .int .i64 a2), (8, .pointer (some ⟨g, 0, none⟩)), (9, .int .i64 ((mkm 6 a0) : Nat)), (10, .slice q40.1 (zerosN (plc (mkm 6 a0) (lowL (mkm 6 a0) l1)) (min a2 (N (mkm 6 a0) : Nat)).toNat).length q40.2), (11, .int .i64 (((trim (lowL (mkm 6 a0) l1)).length : Nat) - 1)), (12, .int .i64 (i : Nat))]) (fun _ => Sto w [own 3 1 q40.1 (zerosN (plc (mkm 6 a0) (lowL (mkm 6 a0) l1)) (min a2 (N (mkm 6 a0) : Nat)).toNat).length q40.2 (nats .i64 (zerosN (plc (mkm 6 a0) (lowL (mkm 6 a0) l1)) (min a2 (N (mkm 6 a0) : Nat)).toNat)), fieldA g (mkm 6 a0)]) (fun _ => True) ?_ ?_
        · skip
          refine CW.seq ?_
          refine CW.regD (.st true 0 (.st true 1 (.st true 2 (.st true 3 (.st true 4 (.st true 5 (.st true 6 (.st true 7 (.st true 8 (.st true 9 (.st true 10 (.st true 11 (.st true 12 (.st true 13 (.st true 14 (.st true 15 (.st true 16 (.st true 17 (.st true 18 (.st true 19 (.st true 20 (.st true 21 (.st true 22 (.st true 23 (.st true 24 (.st true 25 (.st true 26 (.st true 27 (.st true 28 .done))))))))))))))))))))))))))))) (Sto w [own 3 1 q40.1 (zerosN (plc (mkm 6 a0) (lowL (mkm 6 a0) l1)) (min a2 (N (mkm 6 a0) : Nat)).toNat).length q40.2 (nats .i64 (zerosN (plc (mkm 6 a0) (lowL (mkm 6 a0) l1)) (min a2 (N (mkm 6 a0) : Nat)).toNat)), fieldA g (mkm 6 a0)]) mixed (by kernel_rfl) (fun _ h => h.drew) (fun _ h => h) ?_
          refine s_mv 60 rfl rfl ?_
          refine s_mv 61 rfl rfl ?_
          refine s_iaO 62 0 i rfl rfl rfl rfl rfl (by omega) ?_
          refine s_ldS 63 rfl rfl (fun _ h => h.ownCell (q := 0) rfl (natsAtC hil)) ?_
          refine s_lt 64 rfl rfl rfl (decide_eq_false (by omega)) ?_
          refine s_mv 65 rfl rfl ?_
          refine s_mv 66 rfl rfl ?_
          refine s_mv 67 rfl rfl ?_
          refine s_iaO 68 0 i rfl rfl rfl rfl rfl (by omega) ?_
          refine s_ldS 69 rfl rfl (fun _ h => h.ownCell (q := 0) rfl (natsAtC hil)) ?_
          refine s_mv 70 rfl rfl ?_
          refine s_ge 71 rfl rfl rfl (decide_eq_false (by omega)) ?_
          refine s_pickF 72 rfl rfl rfl ?_
          refine s_mv 73 rfl rfl ?_
          refine s_mv 74 rfl rfl ?_
          refine s_gt 75 rfl rfl rfl rfl ?_
          refine s_mv 76 rfl rfl ?_
          refine SX.bool 76 rfl (fun hb => ?_) (fun hb => ?_)
          · skip
            have hi0 := of_decide_eq_true hb
            obtain ⟨i1, rfl⟩ : ∃ k, i = k + 1 := ⟨i - 1, by omega⟩
            have hzi := zeros_inc hil
            refine s_mv 77 rfl rfl ?_
            refine s_mv 78 rfl rfl ?_
            refine s_sub 79 rfl rfl rfl (r := ((i1 : Nat) : Int)) (by rw [show ((i1 + 1 : Nat) : Int) - 1 = ((i1 : Nat) : Int) by omega]; exact w64 (by omega)) ?_
            refine s_iaO 80 0 i1 rfl rfl rfl rfl rfl (by omega) ?_
            refine s_ldS 81 rfl rfl (fun _ h => h.ownCell (q := 0) rfl (natsAtC (by omega))) ?_
            refine s_mv 82 rfl rfl ?_
            refine s_mv 83 rfl rfl ?_
            refine s_iaO 84 0 (i1 + 1) rfl rfl rfl rfl rfl (by omega) ?_
            refine s_ldS 85 rfl rfl (fun _ h => h.ownCell (q := 0) rfl (natsAtC hil)) ?_
            refine s_ge 86 rfl rfl rfl (decide_eq_false (by omega)) ?_
            refine s_pickT 87 rfl rfl rfl ?_
            refine s_pickF 88 rfl rfl rfl ?_
            refine SX.next ?_
            refine CW.condF rfl ?_
            refine CW.skip ?_
            exact KN.join () ⟨rfl, rfl, rfl, rfl, rfl, rfl, rfl, trivial⟩ (fun _ h => h) trivial
          · skip
            skip
            refine SX.skip rfl ?_
            refine SX.skip rfl ?_
            refine SX.skip rfl ?_
            refine SX.skip rfl ?_
            refine SX.skip rfl ?_
            refine SX.skip rfl ?_
            refine SX.skip rfl ?_
            refine SX.skip rfl ?_
            refine SX.skip rfl ?_
            refine SX.skip rfl ?_
            refine s_pickF 87 rfl rfl rfl ?_
            refine s_pickF 88 rfl rfl rfl ?_
            refine SX.next ?_
            refine CW.condF rfl ?_
            refine CW.skip ?_
            exact KN.join () ⟨rfl, rfl, rfl, rfl, rfl, rfl, rfl, trivial⟩ (fun _ h => h) trivial
        · skip
          intro _ _
          refine CW.seq ?_
          refine CW.reg [0] rfl ?_   -- 14, law.go:113
          refine s_as 13 rfl rfl ?_
          refine SX.next ?_
          refine CW.seq ?_
          refine CW.seq ?_
          refine CW.reg [0, 1, 2, 3] rfl ?_   -- 15, law.go:114
          refine s_mv 89 rfl rfl ?_
          refine s_len 90 rfl rfl ?_
          refine s_sub 91 rfl rfl rfl (r := ((l1.length : Nat) : Int) - 1 - ((0 : Nat) : Int)) ((w64 (by omega)).trans (by omega)) ?_
          refine s_as 14 rfl rfl ?_
          refine SX.next ?_
          refine CW.block ?_
          refine CW.loop (G := Nat) (fun k => [(1, .slice A1 l1.length c1), (2, .int .i64 a2), (8, .pointer (some ⟨g, 0, none⟩)), (9, .int .i64 ((mkm 6 a0) : Nat)), (10, .slice q40.1 (zerosN (plc (mkm 6 a0) (lowL (mkm 6 a0) l1)) (min a2 (N (mkm 6 a0) : Nat)).toNat).length q40.2), (11, .int .i64 (((trim (lowL (mkm 6 a0) l1)).length : Nat) - 1)), (12, .int .i64 (i : Nat)), (13, .int .i64 (evD (mkm 6 a0) l1 (ex (mkm 6 a0) (em (mkm 6 a0) (0 - ((cf (zerosN (plc (mkm 6 a0) (lowL (mkm 6 a0) l1)) (min a2 (N (mkm 6 a0) : Nat)).toNat) i : Nat) : Int)))) k : Nat)), (14, .int .i64 (((l1.length : Nat) : Int) - 1 - (k : Nat)))]) (fun _ => Sto w [own 3 1 q40.1 (zerosN (plc (mkm 6 a0) (lowL (mkm 6 a0) l1)) (min a2 (N (mkm 6 a0) : Nat)).toNat).length q40.2 (nats .i64 (zerosN (plc (mkm 6 a0) (lowL (mkm 6 a0) l1)) (min a2 (N (mkm 6 a0) : Nat)).toNat)), fieldA g (mkm 6 a0)]) (fun k => k ≤ l1.length) (fun k => l1.length - k) 0 ⟨rfl, rfl, rfl, rfl, rfl, rfl, rfl, rfl, rfl, trivial⟩ (fun _ h => h) (Nat.zero_le _) ?_
          intro k hk
          have hel := evD_lt hm l1 (ex (mkm 6 a0) (em (mkm 6 a0) (0 - ((cf (zerosN (plc (mkm 6 a0) (lowL (mkm 6 a0) l1)) (min a2 (N (mkm 6 a0) : Nat)).toNat) i : Nat) : Int)))) k
          refine CW.seq ?_
          refine CW.seq ?_
          refine CW.reg [0, 1] rfl ?_   -- 16, law.go:114
          refine s_mv 92 rfl rfl ?_
          refine s_ge 93 rfl rfl rfl rfl ?_
          refine SX.next ?_
          refine CW.test rfl (fun hc => ?_) (fun hc => ?_)
          · skip
            refine CW.skip ?_
            refine KN.code ?_
            refine CW.seq ?_
            refine CW.block ?_
            refine CW.regD (.st true 0 (.st true 1 (.st true 2 (.st true 3 (.st true 4 (.st true 5 (.st true 6 (.st true 7 (.st true 8 (.st true 11 (.st true 12 (.st true 13 (.st true 14 (.st false 9 (.st false 10 (.st false 15 (.st true 16 .done))))))))))))))))) (Sto w [own 3 1 q40.1 (zerosN (plc (mkm 6 a0) (lowL (mkm 6 a0) l1)) (min a2 (N (mkm 6 a0) : Nat)).toNat).length q40.2 (nats .i64 (zerosN (plc (mkm 6 a0) (lowL (mkm 6 a0) l1)) (min a2 (N (mkm 6 a0) : Nat)).toNat)), fieldA g (mkm 6 a0)]) mixed (by kernel_rfl) (fun _ h => h.drew) (fun _ h => h) ?_
            refine s_mv 96 rfl rfl ?_
            refine s_mv 97 rfl rfl ?_
            refine s_mv 98 rfl rfl ?_
            refine s_mv 99 rfl rfl ?_
            refine s_mv 100 rfl rfl ?_
            refine s_mv 101 rfl rfl ?_
            refine s_iaO 102 0 i rfl rfl rfl rfl rfl (by omega) ?_
            refine s_ldS 103 rfl rfl (fun _ h => h.ownCell (q := 0) rfl (natsAtC hil)) ?_
            refine s_neg 104 rfl rfl (w64 (by omega)) ?_
            refine s_mv 107 rfl rfl ?_
            refine s_mv 108 rfl rfl ?_
            refine s_iaV 109 (l1.length - 1 - k) (fun w hw => hw.old hs1) rfl rfl rfl (by omega) (by omega) ?_
            refine s_ldVS 110 (fun w hw => hw.old hs1) rfl rfl (by rw [Nat.mul_one]; exact intsAt (by omega)) (by omega) ?_
            refine s_call1 105 rfl rfl rfl rfl (fun w hw => exp_spec g (mkm 6 a0) _ w hm (hw.has (i := 1) rfl)) (fun _ h => h) ?_
            refine s_call1 106 rfl rfl rfl rfl (fun w hw => mulE g (mkm 6 a0) _ _ w hm (hw.has (i := 1) rfl) hel) (fun _ h => h) ?_
            refine s_call1 111 rfl rfl rfl rfl (fun w hw => addE g (mkm 6 a0) _ _ w hm (hw.has (i := 1) rfl) (gm_lt hm hel _)) (fun _ h => h) ?_
            refine s_as 13 rfl rfl ?_
            refine SX.end_ ?_
            refine KN.blk ?_
            refine KN.code ?_
            refine CW.reg [0, 1, 2] rfl ?_   -- 17, law.go:114
            refine s_mv 94 rfl rfl ?_
            refine s_sub 95 rfl rfl rfl (r := ((l1.length : Nat) : Int) - 1 - ((k + 1 : Nat) : Int)) (by rw [show ((l1.length : Nat) : Int) - 1 - (k : Nat) - 1 = ((l1.length : Nat) : Int) - 1 - ((k + 1 : Nat) : Int) by omega]; exact w64 (by omega)) ?_
            refine s_as 14 rfl rfl ?_
            refine SX.end_ ?_
            exact KN.back (k + 1) ⟨rfl, rfl, rfl, rfl, rfl, rfl, rfl, rfl, rfl, trivial⟩ (fun _ h => h) (by omega) (by omega)
          · skip
            obtain rfl : k = l1.length := by omega
            have hz0 : evD (mkm 6 a0) l1 (ex (mkm 6 a0) (em (mkm 6 a0) (0 - ((cf (zerosN (plc (mkm 6 a0) (lowL (mkm 6 a0) l1)) (min a2 (N (mkm 6 a0) : Nat)).toNat) i : Nat) : Int)))) l1.length = 0 := (evD_all _ _ _).trans hza.2
            refine CW.exit rfl ?_
            refine KN.code ?_
            refine CW.seq ?_
            refine CW.reg [0, 1] rfl ?_   -- 19, law.go:117
            refine s_mv 112 rfl rfl ?_
            refine s_ne 113 rfl rfl rfl (decide_eq_false (by rw [hz0]; decide)) ?_
            refine SX.next ?_
            refine CW.condF rfl ?_
            refine CW.skip ?_
            refine KN.blk ?_
            refine KN.code ?_
            refine CW.reg [0, 1, 2] rfl ?_   -- 11, law.go:109
            refine s_mv 58 rfl rfl ?_
            refine s_add 59 rfl rfl rfl (r := ((i + 1 : Nat) : Int)) (w64 (by omega)) ?_
            refine s_as 12 rfl rfl ?_
            refine SX.end_ ?_
            exact KN.back (i + 1) ⟨rfl, rfl, rfl, rfl, rfl, rfl, rfl, trivial⟩ (fun _ h => h) (by omega) (by omega)
      · skip
        obtain rfl : i = (zerosN (plc (mkm 6 a0) (lowL (mkm 6 a0) l1)) (min a2 (N (mkm 6 a0) : Nat)).toNat).length := by omega
        refine CW.exit rfl ?_
        refine KN.code ?_
        refine CW.seq ?_
        refine CW.reg [0, 1, 2, 3, 4, 5, 6, 7, 8, 9, 10, 11, 12, 13, 14] rfl ?_   -- 21, law.go:121
        refine s_mv 114 rfl rfl ?_
        refine s_ge 115 rfl rfl rfl rfl ?_
        refine s_mv 116 rfl rfl ?_
        refine SX.bool 116 rfl (fun hb => ?_) (fun hb => ?_)
        · skip
          skip
          refine SX.skip rfl ?_
          refine SX.skip rfl ?_
          refine SX.skip rfl ?_
          refine SX.skip rfl ?_
          refine SX.skip rfl ?_
          refine SX.skip rfl ?_
          refine SX.skip rfl ?_
          refine SX.skip rfl ?_
          refine SX.skip rfl ?_
          refine SX.skip rfl ?_
          refine s_pickT 127 rfl rfl rfl ?_
          refine s_as 6 rfl rfl ?_
          refine SX.next ?_
          refine CW.ret ?_
          exact KN.ret (rs := [.tmp 6]) Tryd.results3 rfl (fun w hw => ⟨rfl, hw.nothing⟩)
        · skip
          have hd := of_decide_eq_false hb
          have hal := hall (by omega)
          refine s_mv 117 rfl rfl ?_
          refine s_len 118 rfl rfl ?_
          refine s_mv 119 rfl rfl ?_
          refine s_mv 120 rfl rfl ?_
          refine s_conv 121 rfl rfl (u64_nat hm) ?_
          refine s_shl 122 rfl rfl rfl (by omega) (shl_one hm) ?_
          refine s_sub 123 rfl rfl rfl (r := ((N (mkm 6 a0) : Nat) : Int)) (by rw [show ((N (mkm 6 a0) + 1 : Nat) : Int) - 1 = ((N (mkm 6 a0) : Nat) : Int) by omega]; exact w64 (by omega)) ?_
          refine s_min 124 rfl rfl rfl (r := min a2 (N (mkm 6 a0) : Nat)) (by split <;> omega) ?_
          refine s_max 125 rfl rfl rfl (r := ((min a2 (N (mkm 6 a0) : Nat)).toNat : Int)) (by split <;> omega) ?_
          refine s_eq 126 rfl rfl rfl (decide_eq_true (by rw [hal])) ?_
          refine s_pickF 127 rfl rfl rfl ?_
          refine s_as 6 rfl rfl ?_
          refine SX.next ?_
          refine CW.ret ?_
          exact KN.ret (rs := [.tmp 6]) Tryd.results3 rfl (fun w hw => ⟨rfl, hw.nothing⟩)
