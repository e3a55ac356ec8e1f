/- The statement SearchFinds, walked. No condition. -/
import Derived.Test.YtfhfckoemgkdlaaDoorLaws9b
import Derived.Test.YtfhfckoemgkdlaaDoorLocate
namespace Go.Proofs.YtfhfckoemgkdlaaDoor
open Go Go.Sx Go.Fm
set_option maxRecDepth 100000
def memF (Z : List Nat) (k : Nat) : Bool := decide (k ∈ Z)
theorem memF_next (Z : List Nat) (x : Nat) : (fun k => if k = x then true else memF Z k) = memF (Z ++ [x]) := by
  funext k
  unfold memF
  by_cases hk : k = x
  · rw [if_pos hk, hk]; simp
  · rw [if_neg hk]; simp [hk]
theorem of_zero {m : Nat} (hm : Ok m) {Z : List Nat} (hZ : ∀ x ∈ Z, x < N m) {j : Nat} (hj : j < N m) : plc m (ofP m (Z.map Int.ofNat) (Z.map Int.ofNat).length) j = 0 ↔ j ∈ Z := by
  have hN := N_pos hm
  rw [plc_ofP hm, List.length_map]
  have hg : ∀ k, k < Z.length → ((Z.map Int.ofNat).getD k 0) = ((cf Z k : Nat) : Int) := fun k hk => by simp [cf, hk]
  constructor
  · rintro ⟨k, hk, e⟩
    have hm2 := List.mem_of_getElem? (cf_in hk)
    have := hZ _ hm2
    rw [hg k hk, Int.emod_eq_of_lt (by omega) (by omega), Int.emod_eq_of_lt (by omega) (by omega)] at e
    have e2 : cf Z k = j := by omega
    rw [← e2]; exact hm2
  · intro h
    obtain ⟨k, hk, e⟩ := List.getElem_of_mem h
    have e2 : cf Z k = j := by rw [← e]; simp [cf, hk]
    exact ⟨k, hk, by rw [hg k hk, e2]⟩
theorem min_nN {n k : Nat} (h : n ≤ k) : (min ((n : Nat) : Int) ((k : Nat) : Int)).toNat = n := by omega

theorem walk_SearchFinds (a0 : Int) (A1 : Option Addr) (n1 c1 : Nat) (l1 : List Int) (a2 : Int) (_e : Nat → Addr) (w : World) (hs1 : Has (sl 1 A1 n1 (ints .i64 l1)) w) (hn1 : n1 ≤ 9223372036854775807) (hc1 : n1 ≤ c1) : Spec1 Tryd.prog 6 [.int .i64 a0, .slice A1 n1 c1, .int .i64 a2] w (.bool true) := by
  have hm := mkm_ok (k := 6) (by omega) (by omega) a0
  have hla := ints_len hs1
  subst hla
  have h14 := pow_le14 hm
  have hNs := N_succ (mkm 6 a0)
  have hNp := N_pos hm
  have hmh := hm.hi
  refine spec_of Tryd.func6 rfl Tryd.ntmps6 rfl ?_
  refine CW.seq ?_
  refine CW.reg [0] rfl ?_   -- 0, law.go:67
  refine s_as 6 rfl rfl ?_
  refine SX.next ?_
  refine CW.seq ?_
  refine CW.reg [0, 1] rfl ?_   -- 1, law.go:68
  refine s_call1 19 rfl rfl rfl rfl (fun w hw => first9_spec w) (fun _ _ => trivial) ?_
  refine s_as 7 rfl rfl ?_
  refine SX.next ?_
  refine CW.seq ?_
  refine CW.reg [0, 1, 2, 3, 4, 5, 6] rfl ?_   -- 2, law.go:69
  refine s_mv 21 rfl rfl ?_
  refine s_call 22 rfl rfl rfl rfl (fun w hw => made9_spec a0 w) (fun _ _ => trivial) (fun g _ => ?_)
  refine s_mv 20 rfl rfl ?_
  refine s_ext 23 rfl rfl rfl ?_
  refine s_ext 24 rfl rfl rfl ?_
  refine s_as 8 rfl rfl ?_
  refine s_as 9 rfl rfl ?_
  refine SX.next ?_
  refine CW.seq ?_
  refine CW.seq ?_
  refine CW.reg [0, 1, 2, 3, 4, 5] rfl ?_   -- 3, law.go:70
  refine s_mv 25 rfl rfl ?_
  refine s_eqPN 26 rfl rfl ?_
  refine s_mv 27 rfl rfl ?_
  refine s_mv 28 rfl rfl ?_
  refine s_not 29 rfl rfl ?_
  refine s_pickF 30 rfl rfl rfl ?_
  refine SX.next ?_
  refine CW.condF rfl ?_
  refine CW.skip ?_
  refine KN.code ?_
  refine CW.seq ?_
  have hsl := em_lt hm a2
  have htb := tmod_lt (k := ((N (mkm 6 a0)) : Nat)) (by omega) a2
  have hSle : (em (mkm 6 a0) a2 + 1) ≤ (N (mkm 6 a0)) := by omega
  refine CW.reg [0, 1, 2, 3, 4] rfl ?_   -- 5, law.go:73
  refine s_mv 31 rfl rfl ?_
  refine s_conv 32 rfl rfl (u64_nat hm) ?_
  refine s_shl 33 rfl rfl rfl (by omega) (shl_one hm) ?_
  refine s_sub 34 rfl rfl rfl (r := (((N (mkm 6 a0)) : Nat) : Int)) (by rw [show (((N (mkm 6 a0)) + 1 : Nat) : Int) - 1 = (((N (mkm 6 a0)) : Nat) : Int) by omega]; exact w64 (by omega)) ?_
  refine s_as 10 rfl rfl ?_
  refine SX.next ?_
  refine CW.seq ?_
  refine CW.reg [0, 1, 2, 3, 4, 5, 6, 7, 8] rfl ?_   -- 6, law.go:74
  refine s_mv 35 rfl rfl ?_
  refine s_mv 36 rfl rfl ?_
  refine s_rem 37 rfl rfl rfl (by omega) rfl ?_
  refine s_mv 38 rfl rfl ?_
  refine s_add 39 rfl rfl rfl (w64 (by omega)) ?_
  refine s_mv 40 rfl rfl ?_
  refine s_rem 41 rfl rfl rfl (by omega) (em_pos2 hm a2) ?_
  refine s_add 42 rfl rfl rfl (r := (((em (mkm 6 a0) a2 + 1) : Nat) : Int)) (w64 (by omega)) ?_
  refine s_as 2 rfl rfl ?_
  refine SX.next ?_
  refine CW.seq ?_
  refine CW.reg [0, 1, 2] rfl ?_   -- 7, law.go:75
  refine s_mv 43 rfl rfl ?_
  refine s_make 44 (N (mkm 6 a0)) rfl rfl rfl rfl rfl (by omega) (fun _ _ => trivial) (fun gh => ?_)
  refine s_as 11 rfl rfl ?_
  refine SX.next ?_
  refine CW.seq ?_
  refine CW.reg [0] rfl ?_   -- 8, law.go:76
  refine s_as 12 rfl rfl ?_
  refine SX.next ?_
  refine CW.cut (G := List Nat × Option Addr × Nat) (fun p => [(2, .int .i64 ((em (mkm 6 a0) a2 + 1) : Nat)), (8, .pointer (some ⟨g, 0, none⟩)), (10, .int .i64 ((N (mkm 6 a0)) : Nat)), (11, .slice (some ⟨gh, 0, none⟩) (N (mkm 6 a0)) (N (mkm 6 a0))), (12, .slice p.2.1 p.1.length p.2.2)]) (fun p => Sto w [own 3 1 p.2.1 p.1.length p.2.2 (nats .i64 p.1), blk gh 4 (btab (N (mkm 6 a0)) (memF p.1)), fieldA g (mkm 6 a0)]) (fun p => p.1.length ≤ 40 ∧ ∀ x ∈ p.1, x < (N (mkm 6 a0))) ?_ ?_
  · skip
    refine CW.seq ?_
    refine CW.reg [0] rfl ?_   -- 9, law.go:77
    refine s_as 13 rfl rfl ?_
    refine SX.next ?_
    refine CW.block ?_
    refine CW.loop (G := Nat × List Nat × Option Addr × Nat) (fun q => [(1, .slice A1 l1.length c1), (2, .int .i64 ((em (mkm 6 a0) a2 + 1) : Nat)), (8, .pointer (some ⟨g, 0, none⟩)), (10, .int .i64 ((N (mkm 6 a0)) : Nat)), (11, .slice (some ⟨gh, 0, none⟩) (N (mkm 6 a0)) (N (mkm 6 a0))), (12, .slice q.2.2.1 q.2.1.length q.2.2.2), (13, .int .i64 (q.1 : Nat))]) (fun q => Sto w [own 3 1 q.2.2.1 q.2.1.length q.2.2.2 (nats .i64 q.2.1), blk gh 4 (btab (N (mkm 6 a0)) (memF q.2.1)), fieldA g (mkm 6 a0)]) (fun q => q.1 ≤ l1.length ∧ q.2.1.length ≤ 40 ∧ ∀ x ∈ q.2.1, x < (N (mkm 6 a0))) (fun q => l1.length - q.1) (0, [], none, 0) ⟨rfl, rfl, rfl, rfl, rfl, rfl, rfl, trivial⟩ (fun _ h => by rw [show btab (N (mkm 6 a0)) (memF []) = btab (N (mkm 6 a0)) (fun _ => false) from btab_cong (fun k _ => by simp [memF]), ← btab_zero]; exact h.begin_ 3 1) ⟨Nat.zero_le _, Nat.zero_le _, fun x hx => by cases hx⟩ ?_
    rintro ⟨i, Z, qa, qc⟩ ⟨hi, hZ40, hZN⟩
    simp only at hi hZ40 hZN
    dsimp only
    refine CW.seq ?_
    refine CW.seq ?_
    refine CW.reg [0, 1, 2, 3, 4, 5, 6, 7, 8] rfl ?_   -- 10, law.go:77
    refine s_mv 45 rfl rfl ?_
    refine s_mv 46 rfl rfl ?_
    refine s_len 47 rfl rfl ?_
    refine s_lt 48 rfl rfl rfl rfl ?_
    refine s_mv 49 rfl rfl ?_
    refine SX.bool 49 rfl (fun hb => ?_) (fun hb => ?_)
    · skip
      have hil := of_decide_eq_true hb
      refine s_mv 50 rfl rfl ?_
      refine s_len 51 rfl rfl ?_
      refine s_lt 52 rfl rfl rfl rfl ?_
      refine s_pickT 53 rfl rfl rfl ?_
      refine SX.next ?_
      refine CW.test rfl (fun hc => ?_) (fun hc => ?_)
      · skip
        have hel := em_lt hm (l1.getD i 0)
        have htb2 := tmod_lt (k := ((N (mkm 6 a0)) : Nat)) (by omega) (l1.getD i 0)
        refine CW.skip ?_
        refine KN.code ?_
        refine CW.seq ?_
        refine CW.block ?_
        refine CW.seq ?_
        refine CW.reg [0, 1, 2, 3, 4, 5, 6, 7, 8, 9, 10] rfl ?_   -- 12, law.go:78
        refine s_mv 56 rfl rfl ?_
        refine s_mv 57 rfl rfl ?_
        refine s_iaV 58 i (fun w hw => hw.old hs1) rfl rfl rfl rfl (by omega) ?_
        refine s_ldV 59 (fun w hw => hw.old hs1) rfl rfl (by rw [Nat.mul_one]; exact intsAt (by omega)) (by omega) ?_
        refine s_mv 60 rfl rfl ?_
        refine s_rem 61 rfl rfl rfl (by omega) rfl ?_
        refine s_mv 62 rfl rfl ?_
        refine s_add 63 rfl rfl rfl (w64 (by omega)) ?_
        refine s_mv 64 rfl rfl ?_
        refine s_rem 65 rfl rfl rfl (by omega) (em_pos2 hm _) ?_
        refine s_as 14 rfl rfl ?_
        refine SX.next ?_
        refine CW.seq ?_
        refine CW.reg [0, 1, 2, 3, 4] rfl ?_   -- 13, law.go:79
        refine s_mv 66 rfl rfl ?_
        refine s_mv 67 rfl rfl ?_
        refine s_ia0 68 (em (mkm 6 a0) (l1.getD i 0)) rfl rfl rfl rfl hel ?_
        refine s_ldB 69 1 rfl rfl rfl (btab_at hel) ?_
        refine s_not 70 rfl rfl ?_
        refine SX.next ?_
        refine CW.cond rfl (fun hc => ?_) (fun hc => ?_)
        · skip
          refine CW.seq ?_
          refine CW.reg [0, 1, 2, 3] rfl ?_   -- 14, law.go:80
          refine s_mv 71 rfl rfl ?_
          refine s_mv 72 rfl rfl ?_
          refine s_ia0 73 (em (mkm 6 a0) (l1.getD i 0)) rfl rfl rfl rfl hel ?_
          refine s_stB 1 rfl rfl rfl rfl rfl (by rw [btab_size]; exact hel) (fun _ _ => trivial) ?_
          refine SX.next ?_
          refine CW.reg [0, 1, 2, 3, 4] rfl ?_   -- 15, law.go:81
          refine s_mv 74 rfl rfl ?_
          refine s_mv 75 rfl rfl ?_
          refine s_bsl 76 rfl rfl (cells := #[.int .i64 ((em (mkm 6 a0) (l1.getD i 0)) : Nat)]) (by kernel_rfl) rfl (fun _ _ => trivial) (fun gb => ?_)
          refine s_app 77 1 rfl rfl rfl rfl (ys := [.int .i64 ((em (mkm 6 a0) (l1.getD i 0)) : Nat)]) (fun w hw => Has.cong ((hw.has (i := 0) rfl).blk_sl (m := 1) rfl) rfl) rfl rfl (by omega) (by unfold maxLen; omega) (by omega) (fun _ _ _ _ => trivial) (fun A2 c2 hc2 => ?_)
          refine s_as 12 rfl rfl ?_
          refine SX.end_ ?_
          refine KN.blk ?_
          refine KN.code ?_
          refine CW.reg [0, 1, 2] rfl ?_   -- 11, law.go:77
          refine s_mv 54 rfl rfl ?_
          refine s_add 55 rfl rfl rfl (r := ((i + 1 : Nat) : Int)) (w64 (by omega)) ?_
          refine s_as 13 rfl rfl ?_
          refine SX.end_ ?_
          exact KN.back (i + 1, Z ++ [(em (mkm 6 a0) (l1.getD i 0))], A2, c2) ⟨rfl, rfl, rfl, rfl, rfl, by rw [List.length_append]; rfl, rfl, trivial⟩ (fun _ h => by rw [← memF_next, ← btab_set, ← nats_snoc, List.length_append]; exact h.pick [1, 1, 1] rfl) ⟨by simp only; omega, by rw [List.length_append, List.length_singleton]; omega, fun x hx => (List.mem_append.1 hx).elim (hZN x) (fun h => by rw [List.mem_singleton.1 h]; exact hel)⟩ (by simp only; omega)
        · skip
          refine CW.skip ?_
          refine KN.blk ?_
          refine KN.code ?_
          refine CW.reg [0, 1, 2] rfl ?_   -- 11, law.go:77
          refine s_mv 54 rfl rfl ?_
          refine s_add 55 rfl rfl rfl (r := ((i + 1 : Nat) : Int)) (w64 (by omega)) ?_
          refine s_as 13 rfl rfl ?_
          refine SX.end_ ?_
          exact KN.back (i + 1, Z, qa, qc) ⟨rfl, rfl, rfl, rfl, rfl, rfl, rfl, trivial⟩ (fun _ h => h) ⟨by simp only; omega, hZ40, hZN⟩ (by simp only; omega)
      · skip
        refine CW.exit rfl ?_
        exact KN.join (Z, qa, qc) ⟨rfl, rfl, rfl, rfl, rfl, trivial⟩ (fun _ h => h) ⟨hZ40, hZN⟩
    · skip
      skip
      refine SX.skip rfl ?_
      refine SX.skip rfl ?_
      refine SX.skip rfl ?_
      refine s_pickF 53 rfl rfl rfl ?_
      refine SX.next ?_
      refine CW.condF rfl ?_
      refine CW.exit rfl ?_
      exact KN.join (Z, qa, qc) ⟨rfl, rfl, rfl, rfl, rfl, trivial⟩ (fun _ h => h) ⟨hZ40, hZN⟩
  · skip
    rintro p ⟨hp40, hpN⟩
    have hOT := ofP_tr hm (p.1.map Int.ofNat) (p.1.map Int.ofNat).length
    have hOl := ofP_le hm (p.1.map Int.ofNat) (p.1.map Int.ofNat).length
    have hLl : (p.1.map Int.ofNat).length = p.1.length := List.length_map _
    have hz := fun j hj => of_zero hm hpN (j := j) hj
    refine CW.seq ?_
    refine CW.reg [0, 1, 2, 3, 4, 5, 6, 7] rfl ?_   -- 16, law.go:84
    refine s_mv 79 rfl rfl ?_
    refine s_mv 80 rfl rfl ?_
    refine s_call 81 rfl rfl rfl rfl (fun w hw => of_spec g (mkm 6 a0) p.2.1 p.1.length p.2.2 (p.1.map Int.ofNat) w hm (hw.has (i := 2) rfl) (by rw [← nats_ints]; exact (hw.has (i := 0) rfl).of_own) hp40) (fun _ _ => trivial) (fun q81 hq81 => ?_)
    refine s_mv 78 rfl rfl ?_
    refine s_ext 82 rfl rfl rfl ?_
    refine s_ext 83 rfl rfl rfl ?_
    refine s_as 15 rfl rfl ?_
    refine s_as 16 rfl rfl ?_
    refine SX.next ?_
    refine CW.seq ?_
    refine CW.seq ?_
    refine CW.reg [0, 1] rfl ?_   -- 17, law.go:85
    refine s_mv 84 rfl rfl ?_
    refine s_neNN 85 rfl rfl ?_
    refine SX.next ?_
    refine CW.condF rfl ?_
    refine CW.skip ?_
    refine KN.code ?_
    refine CW.seq ?_
    refine CW.reg [0] rfl ?_   -- 19, law.go:88
    refine s_as 17 rfl rfl ?_
    refine SX.next ?_
    refine CW.seq ?_
    refine CW.seq ?_
    refine CW.reg [0] rfl ?_   -- 20, law.go:89
    refine s_as 18 rfl rfl ?_
    refine SX.next ?_
    refine CW.block ?_
    refine CW.loop (G := Nat × Option Addr × Nat) (fun q => [(2, .int .i64 ((em (mkm 6 a0) a2 + 1) : Nat)), (8, .pointer (some ⟨g, 0, none⟩)), (10, .int .i64 ((N (mkm 6 a0)) : Nat)), (11, .slice (some ⟨gh, 0, none⟩) (N (mkm 6 a0)) (N (mkm 6 a0))), (15, .slice q81.1 (ofP (mkm 6 a0) (p.1.map Int.ofNat) (p.1.map Int.ofNat).length).length q81.2), (17, .slice q.2.1 (zerosN (plc (mkm 6 a0) (ofP (mkm 6 a0) (p.1.map Int.ofNat) (p.1.map Int.ofNat).length)) q.1).length q.2.2), (18, .int .i64 (q.1 : Nat))]) (fun q => Sto w [own 3 1 q.2.1 (zerosN (plc (mkm 6 a0) (ofP (mkm 6 a0) (p.1.map Int.ofNat) (p.1.map Int.ofNat).length)) q.1).length q.2.2 (nats .i64 (zerosN (plc (mkm 6 a0) (ofP (mkm 6 a0) (p.1.map Int.ofNat) (p.1.map Int.ofNat).length)) q.1)), own 3 1 q81.1 (ofP (mkm 6 a0) (p.1.map Int.ofNat) (p.1.map Int.ofNat).length).length q81.2 (nats .i64 (ofP (mkm 6 a0) (p.1.map Int.ofNat) (p.1.map Int.ofNat).length)), blk gh 4 (btab (N (mkm 6 a0)) (memF p.1)), fieldA g (mkm 6 a0)]) (fun q => q.1 ≤ (em (mkm 6 a0) a2 + 1) ∧ (zerosN (plc (mkm 6 a0) (ofP (mkm 6 a0) (p.1.map Int.ofNat) (p.1.map Int.ofNat).length)) q.1).length ≤ q.2.2) (fun q => (em (mkm 6 a0) a2 + 1) - q.1) (0, none, 0) ⟨rfl, rfl, rfl, rfl, rfl, rfl, rfl, trivial⟩ (fun _ h => (h.pick [0, 1, 1] rfl).begin_ 3 1) ⟨Nat.zero_le _, Nat.le_refl _⟩ ?_
    rintro q ⟨hi, hqc⟩
    have hzl := zerosN_len (plc (mkm 6 a0) (ofP (mkm 6 a0) (p.1.map Int.ofNat) (p.1.map Int.ofNat).length)) q.1
    refine CW.seq ?_
    refine CW.seq ?_
    refine CW.reg [0, 1, 2] rfl ?_   -- 21, law.go:89
    refine s_mv 86 rfl rfl ?_
    refine s_mv 87 rfl rfl ?_
    refine s_lt 88 rfl rfl rfl rfl ?_
    refine SX.next ?_
    refine CW.test rfl (fun hc => ?_) (fun hc => ?_)
    · skip
      have hzi := hz q.1 (by omega)
      refine CW.skip ?_
      refine KN.code ?_
      refine CW.seq ?_
      refine CW.block ?_
      refine CW.seq ?_
      refine CW.reg [0, 1, 2, 3] rfl ?_   -- 23, law.go:90
      refine s_mv 91 rfl rfl ?_
      refine s_mv 92 rfl rfl ?_
      refine s_ia0 93 q.1 rfl rfl rfl rfl (by omega) ?_
      refine s_ldB 94 2 rfl rfl rfl (btab_at (by omega)) ?_
      refine SX.next ?_
      refine CW.test rfl (fun hcz => ?_) (fun hcz => ?_)
      · skip
        have hnx := zerosN_yes (hzi.2 hcz)
        refine CW.reg [0, 1, 2, 3, 4] rfl ?_   -- 24, law.go:91
        refine s_mv 95 rfl rfl ?_
        refine s_mv 96 rfl rfl ?_
        refine s_bsl 97 rfl rfl (cells := #[.int .i64 (q.1 : Nat)]) (by kernel_rfl) rfl (fun _ _ => trivial) (fun gb => ?_)
        refine s_app 98 1 rfl rfl rfl rfl (ys := [.int .i64 (q.1 : Nat)]) (fun w hw => Has.cong ((hw.has (i := 0) rfl).blk_sl (m := 1) rfl) rfl) rfl rfl (by omega) (by unfold maxLen; omega) (by omega) (fun _ _ _ _ => trivial) (fun A2 c2 hc2 => ?_)
        refine s_as 17 rfl rfl ?_
        refine SX.end_ ?_
        refine KN.blk ?_
        refine KN.code ?_
        refine CW.reg [0, 1, 2] rfl ?_   -- 22, law.go:89
        refine s_mv 89 rfl rfl ?_
        refine s_add 90 rfl rfl rfl (r := ((q.1 + 1 : Nat) : Int)) (w64 (by omega)) ?_
        refine s_as 18 rfl rfl ?_
        refine SX.end_ ?_
        exact KN.back (q.1 + 1, A2, c2) ⟨rfl, rfl, rfl, rfl, rfl, by rw [hnx, List.length_append]; rfl, rfl, trivial⟩ (fun _ h => by
          simp only [hnx]
          rw [← nats_snoc, List.length_append]
          exact h.pick [1, 1, 1, 1] rfl) ⟨by simp only; omega, by simp only [hnx]; rw [List.length_append]; exact hc2⟩ (by simp only; omega)
      · skip
        have hnx := zerosN_no (fun h => hcz (hzi.1 h))
        refine CW.skip ?_
        refine KN.blk ?_
        refine KN.code ?_
        refine CW.reg [0, 1, 2] rfl ?_   -- 22, law.go:89
        refine s_mv 89 rfl rfl ?_
        refine s_add 90 rfl rfl rfl (r := ((q.1 + 1 : Nat) : Int)) (w64 (by omega)) ?_
        refine s_as 18 rfl rfl ?_
        refine SX.end_ ?_
        exact KN.back (q.1 + 1, q.2) ⟨rfl, rfl, rfl, rfl, rfl, by simp only [hnx]; rfl, rfl, trivial⟩ (fun _ h => by simp only [hnx]; exact h) ⟨by simp only; omega, by simp only [hnx]; exact hqc⟩ (by simp only; omega)
    · skip
      have hqe : q.1 = (em (mkm 6 a0) a2 + 1) := by omega
      rw [hqe] at hzl
      rw [hqe]
      refine CW.exit rfl ?_
      refine KN.code ?_
      refine CW.seq ?_
      refine CW.reg [0, 1, 2, 3, 4, 5, 6, 7, 8, 9, 10, 11, 12, 13, 14] rfl ?_   -- 25, law.go:94
      refine s_mv 99 rfl rfl ?_
      refine s_mv 100 rfl rfl ?_
      refine s_mv 101 rfl rfl ?_
      refine s_call 102 rfl rfl rfl rfl (fun w hw => by have := ssearch_spec g (mkm 6 a0) q81.1 q81.2 ((ofP (mkm 6 a0) (p.1.map Int.ofNat) (p.1.map Int.ofNat).length).map Int.ofNat) ((em (mkm 6 a0) a2 + 1) : Nat) w hm (hw.has (i := 3) rfl) (by rw [List.length_map, ← nats_ints]; exact (hw.has (i := 1) rfl).of_own) (by rw [List.length_map]; omega) (by rw [List.length_map]; exact hq81); rw [List.length_map, lowL_ofNat hOT.lt, min_nN hSle] at this; exact this) (fun _ _ => trivial) (fun q102 hq102 => ?_)
      refine s_mv 103 rfl rfl ?_
      refine s_call1 104 rfl rfl rfl rfl (v := .bool true) (fun w hw => by have := sameInts_spec q102.1 q.2.1 (zerosN (plc (mkm 6 a0) (ofP (mkm 6 a0) (p.1.map Int.ofNat) (p.1.map Int.ofNat).length)) (em (mkm 6 a0) a2 + 1)).length q102.2 (zerosN (plc (mkm 6 a0) (ofP (mkm 6 a0) (p.1.map Int.ofNat) (p.1.map Int.ofNat).length)) (em (mkm 6 a0) a2 + 1)).length q.2.2 ((zerosN (plc (mkm 6 a0) (ofP (mkm 6 a0) (p.1.map Int.ofNat) (p.1.map Int.ofNat).length)) (em (mkm 6 a0) a2 + 1)).map Int.ofNat) ((zerosN (plc (mkm 6 a0) (ofP (mkm 6 a0) (p.1.map Int.ofNat) (p.1.map Int.ofNat).length)) (em (mkm 6 a0) a2 + 1)).map Int.ofNat) _ (by rw [← nats_ints]; exact (hw.has (i := 0) rfl).of_own) (by rw [← nats_ints]; exact (hw.has (i := 1) rfl).of_own) (by omega); rw [decide_eq_true rfl] at this; exact this) (fun _ _ => trivial) ?_
      refine s_mv 105 rfl rfl ?_
      refine s_mv 106 rfl rfl ?_
      refine s_mv 107 rfl rfl ?_
      refine s_mv 108 rfl rfl ?_
      refine s_call 109 rfl rfl rfl rfl (fun w hw => by have := splain_spec g (mkm 6 a0) q81.1 q81.2 ((ofP (mkm 6 a0) (p.1.map Int.ofNat) (p.1.map Int.ofNat).length).map Int.ofNat) ((em (mkm 6 a0) a2 + 1) : Nat) w hm (hw.has (i := 4) rfl) (by rw [List.length_map, ← nats_ints]; exact (hw.has (i := 2) rfl).of_own) (by rw [List.length_map]; omega) (by rw [List.length_map]; exact hq81); rw [List.length_map, lowL_ofNat hOT.lt, min_nN hSle] at this; exact this) (fun _ _ => trivial) (fun q109 hq109 => ?_)
      refine s_mv 110 rfl rfl ?_
      refine s_call1 111 rfl rfl rfl rfl (v := .bool true) (fun w hw => by have := sameInts_spec q109.1 q.2.1 (zerosN (plc (mkm 6 a0) (ofP (mkm 6 a0) (p.1.map Int.ofNat) (p.1.map Int.ofNat).length)) (em (mkm 6 a0) a2 + 1)).length q109.2 (zerosN (plc (mkm 6 a0) (ofP (mkm 6 a0) (p.1.map Int.ofNat) (p.1.map Int.ofNat).length)) (em (mkm 6 a0) a2 + 1)).length q.2.2 ((zerosN (plc (mkm 6 a0) (ofP (mkm 6 a0) (p.1.map Int.ofNat) (p.1.map Int.ofNat).length)) (em (mkm 6 a0) a2 + 1)).map Int.ofNat) ((zerosN (plc (mkm 6 a0) (ofP (mkm 6 a0) (p.1.map Int.ofNat) (p.1.map Int.ofNat).length)) (em (mkm 6 a0) a2 + 1)).map Int.ofNat) _ (by rw [← nats_ints]; exact (hw.has (i := 0) rfl).of_own) (by rw [← nats_ints]; exact (hw.has (i := 2) rfl).of_own) (by omega); rw [decide_eq_true rfl] at this; exact this) (fun _ _ => trivial) ?_
      refine s_pickT 112 rfl rfl rfl ?_
      refine s_as 6 rfl rfl ?_
      refine SX.next ?_
      refine CW.ret ?_
      exact KN.ret (rs := [.tmp 6]) Tryd.results6 rfl (fun w hw => ⟨rfl, hw.nothing⟩)
