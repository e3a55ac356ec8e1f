/- The statement SearchTurns, walked. No condition. -/
import Derived.Test.YtfhfckoemgkdlaaDoorLaws9
namespace Go.Proofs.YtfhfckoemgkdlaaDoor
open Go Go.Sx Go.Fm
set_option maxRecDepth 100000
/-! ### Tables of truth values -/
def btab (n : Nat) (p : Nat → Bool) : Array Value := ((List.range n).map (fun k => .bool (p k))).toArray
theorem btab_size (n : Nat) (p : Nat → Bool) : (btab n p).size = n := by simp [btab]
theorem btab_at {n k : Nat} {p : Nat → Bool} (h : k < n) : (btab n p)[k]? = some (.bool (p k)) := by simp [btab, h]
theorem btab_cong {n : Nat} {p q : Nat → Bool} (h : ∀ k, k < n → p k = q k) : btab n p = btab n q := by
  unfold btab
  congr 1
  exact List.map_congr_left (fun k hk => by rw [h k (List.mem_range.1 hk)])
theorem btab_zero (n : Nat) : (List.replicate n (.bool false)).toArray = btab n (fun _ => false) := by
  unfold btab
  congr 1
  exact (List.map_const' ..).symm ▸ by simp
theorem btab_set {n i : Nat} {p : Nat → Bool} (b : Bool) : (btab n p).setIfInBounds i (.bool b) = btab n (fun k => if k = i then b else p k) := by
  unfold btab
  rw [List.setIfInBounds_toArray]
  congr 1
  apply List.ext_getElem
  · simp
  · intro j h1 h2
    rw [List.getElem_set]
    simp only [List.getElem_map, List.getElem_range]
    by_cases h : i = j
    · rw [if_pos h, if_pos h.symm]
    · rw [if_neg h, if_neg (fun e => h e.symm)]
def hasF (Z : List Nat) (i k : Nat) : Bool := decide (k ∈ Z.take i)
theorem hasF_next {Z : List Nat} {i : Nat} (h : i < Z.length) : (fun k => if k = cf Z i then true else hasF Z i k) = hasF Z (i + 1) := by
  have hi : Z[i]? = some (cf Z i) := cf_in h
  funext k
  unfold hasF
  rw [List.take_add_one, hi]
  by_cases hk : k = cf Z i
  · rw [if_pos hk, hk]; simp
  · rw [if_neg hk]; simp [hk]
theorem hasF_all (Z : List Nat) (k : Nat) : hasF Z Z.length k = decide (k ∈ Z) := by unfold hasF; rw [List.take_length]
theorem tabs_n {k : IntKind} {n : Nat} {F : Nat → Int} : (ints k (tab n F)).toArray.size = n * 1 := tab_size.trans (Nat.mul_one _).symm
theorem mulw {a b A B : Nat} (ha : a ≤ A) (hb : b ≤ B) (h : A * B < 2 ^ 62) : IntKind.i64.wrap (((a : Nat) : Int) * (b : Nat)) = ((a * b : Nat) : Int) := by
  have := Nat.mul_le_mul ha hb
  rw [← Int.natCast_mul]
  generalize a * b = z at this ⊢
  exact w64 (by omega)
theorem mulZ (g m : Nat) (z k : Int) (w : World) (hm : Ok m) (hf : Has (fieldA g m) w) : Spec1 Tryd.prog 24 [.pointer (some ⟨g, 0, none⟩), .int .i64 z, .int .i64 (ex m (em m k) : Nat)] w (.int .i64 (gm m (lo m z) (ex m (em m k)) : Nat)) := by
  have := mul_spec g m z (ex m (em m k) : Nat) w hm hf
  rw [lo_nat (ex_lt hm _).2] at this
  exact this
/-! ### Turned -/
def qF (m : Nat) (l : List Int) (s i k : Nat) : Int := if k < i then (gm m (lo m (l.getD k 0)) (ex m (em m ((s * k : Nat) : Int))) : Nat) else 0
theorem qF_next (m : Nat) (l : List Int) (s i : Nat) : (fun k => if k = i then ((gm m (lo m (l.getD i 0)) (ex m (em m ((s * i : Nat) : Int))) : Nat) : Int) else qF m l s i k) = qF m l s (i + 1) := by
  funext k
  unfold qF
  by_cases h : k = i
  · subst h; simp
  · rw [if_neg h]
    by_cases h2 : k < i
    · rw [if_pos h2, if_pos (by omega)]
    · rw [if_neg h2, if_neg (by omega)]
def qL (m : Nat) (l : List Int) (s : Nat) : List Int := tab l.length (qF m l s l.length)
theorem cf_qL {m : Nat} (hm : Ok m) (l : List Int) (s : Nat) {k : Nat} (hk : k < l.length) : cf (lowL m (qL m l s)) k = gm m (cf (lowL m l) k) (exz m ((s : Int) * (k : Nat))) := by
  rw [cf_low, cf_low]
  unfold qL
  rw [tab_getD, if_pos hk]
  unfold qF
  rw [if_pos hk, lo_nat (gm_lt hm (lo_lt m _) _), Int.natCast_mul]; rfl
theorem plc_qL {m : Nat} (hm : Ok m) (l : List Int) {s i j : Nat} (h : (i : Int) % ((N m : Nat) : Int) = ((j : Int) - (s : Nat)) % ((N m : Nat) : Int)) : plc m (lowL m (qL m l s)) j = plc m (lowL m l) i := by
  refine plc_turn hm (lowL_lt m l) (lowL_lt m _) (by unfold qL; rw [lowL_len, lowL_len, tab_len]) (fun k hk => cf_qL hm l s (by rwa [lowL_len] at hk)) h
theorem qL_zeros {m : Nat} (hm : Ok m) (l : List Int) (s : Nat) (hs : s < N m) : (zerosN (plc m (lowL m (qL m l s))) (N m)).length = (zerosN (plc m (lowL m l)) (N m)).length := by
  refine zeros_turn (b := s) (by omega) (fun k hk => plc_qL hm l ?_) (fun k hk => plc_qL hm l ?_)
  · rw [show ((N m - s + k : Nat) : Int) = ((k : Int) - (s : Nat)) + (N m : Nat) by omega, Int.add_emod_right]
  · rw [show (((s + k : Nat) : Int) - (s : Nat)) = ((k : Nat) : Int) by omega]
theorem min_NN (n : Nat) : (min ((n : Nat) : Int) ((n : Nat) : Int)).toNat = n := by simp

theorem walk_SearchTurns (a0 : Int) (A1 : Option Addr) (n1 c1 : Nat) (l1 : List Int) (a2 : Int) (_e : Nat → Addr) (w : World) (hs1 : Has (sl 1 A1 n1 (ints .i64 l1)) w) (hn1 : n1 ≤ 9223372036854775807) (hc1 : n1 ≤ c1) : Spec1 Tryd.prog 4 [.int .i64 a0, .slice A1 n1 c1, .int .i64 a2] w (.bool true) := by
  have hm := mkm_ok (k := 6) (by omega) (by omega) a0
  have hla := ints_len hs1
  subst hla
  have h14 := pow_le14 hm
  have hNs := N_succ (mkm 6 a0)
  have hNp := N_pos hm
  have hmh := hm.hi
  refine spec_of Tryd.func4 rfl Tryd.ntmps4 rfl ?_
  refine CW.seq ?_
  refine CW.reg [0] rfl ?_   -- 0, more.go:9
  refine s_as 6 rfl rfl ?_
  refine SX.next ?_
  refine CW.seq ?_
  refine CW.reg [0, 1] rfl ?_   -- 1, more.go:10
  refine s_call1 19 rfl rfl rfl rfl (fun w hw => first9_spec w) (fun _ _ => trivial) ?_
  refine s_as 7 rfl rfl ?_
  refine SX.next ?_
  refine CW.seq ?_
  refine CW.reg [0, 1, 2, 3, 4, 5, 6] rfl ?_   -- 2, more.go:11
  refine s_mv 21 rfl rfl ?_
  refine s_call 22 rfl rfl rfl rfl (fun w hw => made9_spec a0 w) (fun _ _ => trivial) (fun g _ => ?_)
  refine s_mv 20 rfl rfl ?_
  refine s_ext 23 rfl rfl rfl ?_
  refine s_ext 24 rfl rfl rfl ?_
  refine s_as 8 rfl rfl ?_
  refine s_as 9 rfl rfl ?_
  refine SX.next ?_
  refine CW.seq ?_
  refine CW.seq ?_
  refine CW.reg [0, 1, 2, 3, 4, 5, 6, 7, 8, 9, 10] rfl ?_   -- 3, more.go:12
  refine s_mv 25 rfl rfl ?_
  refine s_eqPN 26 rfl rfl ?_
  refine s_mv 27 rfl rfl ?_
  refine s_mv 28 rfl rfl ?_
  refine s_len 29 rfl rfl ?_
  refine s_gt 30 rfl rfl rfl rfl ?_
  refine s_pickF 31 rfl rfl rfl ?_
  refine s_mv 32 rfl rfl ?_
  refine SX.bool 32 rfl (fun hb => ?_) (fun hb => ?_)
  · skip
    skip
    refine SX.skip rfl ?_
    refine SX.skip rfl ?_
    refine s_pickT 35 rfl rfl rfl ?_
    refine SX.next ?_
    refine CW.condT rfl ?_
    refine CW.seq ?_
    refine CW.reg [0, 1, 2, 3, 4, 5] rfl ?_   -- 4, more.go:13
    refine s_mv 36 rfl rfl ?_
    refine s_mv 37 rfl rfl ?_
    refine s_mv 38 rfl rfl ?_
    refine s_nePN 39 rfl rfl ?_
    refine s_pickT 40 rfl rfl rfl ?_
    refine s_as 6 rfl rfl ?_
    refine SX.next ?_
    refine CW.ret ?_
    exact KN.ret (rs := [.tmp 6]) Tryd.results4 rfl (fun w hw => ⟨rfl, hw.nothing⟩)
  · skip
    have hp1 := of_decide_eq_false hb
    have hx1 : l1.length ≤ 60 := by omega
    refine s_mv 33 rfl rfl ?_
    refine s_not 34 rfl rfl ?_
    refine s_pickF 35 rfl rfl rfl ?_
    refine SX.next ?_
    refine CW.condF rfl ?_
    refine CW.skip ?_
    refine KN.code ?_
    refine CW.seq ?_
    have hsl := em_lt hm a2
    have htb := tmod_lt (k := ((N (mkm 6 a0)) : Nat)) (by omega) a2
    have hlen := qL_zeros hm l1 (em (mkm 6 a0) a2) hsl
    refine CW.reg [0, 1, 2, 3, 4] rfl ?_   -- 5, more.go:15
    refine s_mv 41 rfl rfl ?_
    refine s_conv 42 rfl rfl (u64_nat hm) ?_
    refine s_shl 43 rfl rfl rfl (by omega) (shl_one hm) ?_
    refine s_sub 44 rfl rfl rfl (r := (((N (mkm 6 a0)) : Nat) : Int)) (by rw [show (((N (mkm 6 a0)) + 1 : Nat) : Int) - 1 = (((N (mkm 6 a0)) : Nat) : Int) by omega]; exact w64 (by omega)) ?_
    refine s_as 10 rfl rfl ?_
    refine SX.next ?_
    refine CW.seq ?_
    refine CW.reg [0, 1, 2, 3, 4, 5, 6, 7] rfl ?_   -- 6, more.go:16
    refine s_mv 45 rfl rfl ?_
    refine s_mv 46 rfl rfl ?_
    refine s_rem 47 rfl rfl rfl (by omega) rfl ?_
    refine s_mv 48 rfl rfl ?_
    refine s_add 49 rfl rfl rfl (w64 (by omega)) ?_
    refine s_mv 50 rfl rfl ?_
    refine s_rem 51 rfl rfl rfl (by omega) (em_pos2 hm a2) ?_
    refine s_as 2 rfl rfl ?_
    refine SX.next ?_
    refine CW.seq ?_
    refine CW.reg [0, 1, 2, 3] rfl ?_   -- 7, more.go:17
    refine s_mv 52 rfl rfl ?_
    refine s_len 53 rfl rfl ?_
    refine s_make 54 l1.length rfl rfl rfl rfl rfl (by omega) (fun _ _ => trivial) (fun gq => ?_)
    refine s_as 11 rfl rfl ?_
    refine SX.next ?_
    refine CW.seq ?_
    refine CW.seq ?_
    refine CW.reg [0] rfl ?_   -- 8, more.go:18
    refine s_as 12 rfl rfl ?_
    refine SX.next ?_
    refine CW.block ?_
    refine CW.loop (G := Nat) (fun i => [(1, .slice A1 l1.length c1), (2, .int .i64 ((em (mkm 6 a0) a2) : Nat)), (8, .pointer (some ⟨g, 0, none⟩)), (10, .int .i64 ((N (mkm 6 a0)) : Nat)), (11, .slice (some ⟨gq, 0, none⟩) l1.length l1.length), (12, .int .i64 (i : Nat))]) (fun i => Sto w [blk gq 3 (ints .i64 (tab l1.length (qF (mkm 6 a0) l1 (em (mkm 6 a0) a2) i))).toArray, fieldA g (mkm 6 a0)]) (fun i => i ≤ l1.length) (fun i => l1.length - i) 0 ⟨rfl, rfl, rfl, rfl, rfl, rfl, trivial⟩ (fun _ h => by rw [show tab l1.length (qF (mkm 6 a0) l1 (em (mkm 6 a0) a2) 0) = tab l1.length (fun _ => 0) from tab_cong (fun j _ => by simp [qF]), ← tab_zero]; exact h) (Nat.zero_le _) ?_
    intro i hi
    refine CW.seq ?_
    refine CW.seq ?_
    refine CW.reg [0, 1, 2, 3] rfl ?_   -- 9, more.go:18
    refine s_mv 55 rfl rfl ?_
    refine s_mv 56 rfl rfl ?_
    refine s_len 57 rfl rfl ?_
    refine s_lt 58 rfl rfl rfl rfl ?_
    refine SX.next ?_
    refine CW.test rfl (fun hc => ?_) (fun hc => ?_)
    · skip
      refine CW.skip ?_
      refine KN.code ?_
      refine CW.seq ?_
      refine CW.block ?_
      refine CW.regD (.st true 0 (.st true 1 (.st true 2 (.st true 3 (.st true 4 (.st true 5 (.st true 6 (.st true 7 (.st true 8 (.st true 9 (.st true 10 (.st false 11 (.st false 12 (.st true 13 (.st false 14 .done))))))))))))))) (Sto w [fieldA g (mkm 6 a0)]) mixed (by kernel_rfl) (fun _ h => h.drew) (fun _ h => h.pick [1] rfl) ?_
      refine s_mv 61 rfl rfl ?_
      refine s_mv 62 rfl rfl ?_
      refine s_mv 63 rfl rfl ?_
      refine s_mv 64 rfl rfl ?_
      refine s_mv 65 rfl rfl ?_
      refine s_iaV 66 i (fun w hw => hw.old hs1) rfl rfl rfl rfl (by omega) ?_
      refine s_ldVS 67 (fun w hw => hw.old hs1) rfl rfl (by rw [Nat.mul_one]; exact intsAt (by omega)) (by omega) ?_
      refine s_mv 68 rfl rfl ?_
      refine s_mv 69 rfl rfl ?_
      refine s_mv 70 rfl rfl ?_
      refine s_mul 71 rfl rfl rfl (mulw (show (em (mkm 6 a0) a2) ≤ 16383 by omega) (show i ≤ 60 by omega) (by decide)) ?_
      refine s_call1 72 rfl rfl rfl rfl (fun w hw => exp_spec g (mkm 6 a0) _ w hm (hw.has (i := 1) rfl)) (fun _ h => h.pick [1] rfl) ?_
      refine s_call1 73 rfl rfl rfl rfl (fun w hw => mulZ g (mkm 6 a0) _ _ w hm (hw.has (i := 1) rfl)) (fun _ h => h.pick [1] rfl) ?_
      refine s_ia0 74 i rfl rfl rfl rfl (by omega) ?_
      refine s_stB 0 rfl rfl rfl rfl rfl (by rw [tab_size]; omega) (fun _ h => h.pick [1] rfl) ?_
      refine SX.end_ ?_
      refine KN.blk ?_
      refine KN.code ?_
      refine CW.reg [0, 1, 2] rfl ?_   -- 10, more.go:18
      refine s_mv 59 rfl rfl ?_
      refine s_add 60 rfl rfl rfl (r := ((i + 1 : Nat) : Int)) (w64 (by omega)) ?_
      refine s_as 12 rfl rfl ?_
      refine SX.end_ ?_
      exact KN.back (i + 1) ⟨rfl, rfl, rfl, rfl, rfl, rfl, trivial⟩ (fun _ h => by rw [← qF_next, ← tab_set]; exact h) (by omega) (by omega)
    · skip
      obtain rfl : i = l1.length := by omega
      refine CW.exit rfl ?_
      refine KN.code ?_
      refine CW.seq ?_
      refine CW.reg [0, 1, 2, 3, 4] rfl ?_   -- 12, more.go:21
      refine s_mv 75 rfl rfl ?_
      refine s_mv 76 rfl rfl ?_
      refine s_mv 77 rfl rfl ?_
      refine s_call 78 rfl rfl rfl rfl (fun w hw => by have := ssearch_spec g (mkm 6 a0) A1 c1 l1 ((N (mkm 6 a0)) : Nat) w hm (hw.has (i := 1) rfl) (hw.old hs1) (by omega) hc1; rw [min_NN] at this; exact this) (fun _ _ => trivial) (fun q78 hq78 => ?_)
      refine s_as 13 rfl rfl ?_
      refine SX.next ?_
      refine CW.seq ?_
      refine CW.reg [0, 1, 2, 3, 4] rfl ?_   -- 13, more.go:22
      refine s_mv 79 rfl rfl ?_
      refine s_mv 80 rfl rfl ?_
      refine s_mv 81 rfl rfl ?_
      refine s_call 82 rfl rfl rfl rfl (fun w hw => by have := ssearch_spec g (mkm 6 a0) (some ⟨gq, 0, none⟩) l1.length (qL (mkm 6 a0) l1 (em (mkm 6 a0) a2)) ((N (mkm 6 a0)) : Nat) w hm (hw.has (i := 2) rfl) (by rw [show (qL (mkm 6 a0) l1 (em (mkm 6 a0) a2)).length = l1.length from tab_len _ _]; exact (hw.has (i := 1) rfl).blk_sl (m := l1.length) tabs_n) (by unfold qL; rw [tab_len]; omega) (by unfold qL; rw [tab_len]; omega); rw [min_NN, show (qL (mkm 6 a0) l1 (em (mkm 6 a0) a2)).length = l1.length from tab_len _ _] at this; exact this) (fun _ _ => trivial) (fun q82 hq82 => ?_)
      refine s_as 14 rfl rfl ?_
      refine SX.next ?_
      refine CW.seq ?_
      have hZ1 := zerosN_len (plc (mkm 6 a0) (lowL (mkm 6 a0) l1)) (N (mkm 6 a0))
      have hZ2 := zerosN_len (plc (mkm 6 a0) (lowL (mkm 6 a0) (qL (mkm 6 a0) l1 (em (mkm 6 a0) a2)))) (N (mkm 6 a0))
      refine CW.reg [0, 1, 2] rfl ?_   -- 14, more.go:23
      refine s_mv 83 rfl rfl ?_
      refine s_make 84 (N (mkm 6 a0)) rfl rfl rfl rfl rfl (by omega) (fun _ _ => trivial) (fun gh => ?_)
      refine s_as 15 rfl rfl ?_
      refine SX.next ?_
      refine CW.seq ?_
      refine CW.seq ?_
      refine CW.reg [0] rfl ?_   -- 15, more.go:24
      refine s_as 16 rfl rfl ?_
      refine SX.next ?_
      refine CW.block ?_
      refine CW.loop (G := Nat) (fun i => [(1, .slice A1 l1.length c1), (2, .int .i64 ((em (mkm 6 a0) a2) : Nat)), (8, .pointer (some ⟨g, 0, none⟩)), (10, .int .i64 ((N (mkm 6 a0)) : Nat)), (11, .slice (some ⟨gq, 0, none⟩) l1.length l1.length), (13, .slice q78.1 (zerosN (plc (mkm 6 a0) (lowL (mkm 6 a0) l1)) (N (mkm 6 a0))).length q78.2), (14, .slice q82.1 (zerosN (plc (mkm 6 a0) (lowL (mkm 6 a0) (qL (mkm 6 a0) l1 (em (mkm 6 a0) a2)))) (N (mkm 6 a0))).length q82.2), (15, .slice (some ⟨gh, 0, none⟩) (N (mkm 6 a0)) (N (mkm 6 a0))), (16, .int .i64 (i : Nat))]) (fun i => Sto w [blk gh 4 (btab (N (mkm 6 a0)) (hasF (zerosN (plc (mkm 6 a0) (lowL (mkm 6 a0) l1)) (N (mkm 6 a0))) i)), own 3 1 q82.1 (zerosN (plc (mkm 6 a0) (lowL (mkm 6 a0) (qL (mkm 6 a0) l1 (em (mkm 6 a0) a2)))) (N (mkm 6 a0))).length q82.2 (nats .i64 (zerosN (plc (mkm 6 a0) (lowL (mkm 6 a0) (qL (mkm 6 a0) l1 (em (mkm 6 a0) a2)))) (N (mkm 6 a0)))), own 3 1 q78.1 (zerosN (plc (mkm 6 a0) (lowL (mkm 6 a0) l1)) (N (mkm 6 a0))).length q78.2 (nats .i64 (zerosN (plc (mkm 6 a0) (lowL (mkm 6 a0) l1)) (N (mkm 6 a0)))), blk gq 3 (ints .i64 (tab l1.length (qF (mkm 6 a0) l1 (em (mkm 6 a0) a2) l1.length))).toArray, fieldA g (mkm 6 a0)]) (fun i => i ≤ (zerosN (plc (mkm 6 a0) (lowL (mkm 6 a0) l1)) (N (mkm 6 a0))).length) (fun i => (zerosN (plc (mkm 6 a0) (lowL (mkm 6 a0) l1)) (N (mkm 6 a0))).length - i) 0 ⟨rfl, rfl, rfl, rfl, rfl, rfl, rfl, rfl, rfl, trivial⟩ (fun _ h => by rw [show btab (N (mkm 6 a0)) (hasF (zerosN (plc (mkm 6 a0) (lowL (mkm 6 a0) l1)) (N (mkm 6 a0))) 0) = btab (N (mkm 6 a0)) (fun _ => false) from btab_cong (fun k _ => by simp [hasF]), ← btab_zero]; exact h) (Nat.zero_le _) ?_
      intro i hi
      refine CW.seq ?_
      refine CW.seq ?_
      refine CW.reg [0, 1, 2, 3] rfl ?_   -- 16, more.go:24
      refine s_mv 85 rfl rfl ?_
      refine s_mv 86 rfl rfl ?_
      refine s_len 87 rfl rfl ?_
      refine s_lt 88 rfl rfl rfl rfl ?_
      refine SX.next ?_
      refine CW.test rfl (fun hc => ?_) (fun hc => ?_)
      · skip
        have hil : i < (zerosN (plc (mkm 6 a0) (lowL (mkm 6 a0) l1)) (N (mkm 6 a0))).length := by omega
        have hza := zeros_at hil
        refine CW.skip ?_
        refine KN.code ?_
        refine CW.seq ?_
        refine CW.block ?_
        refine CW.seq ?_
        refine CW.seq ?_
        refine CW.reg [0, 1, 2, 3, 4, 5, 6, 7, 8, 9, 10, 11, 12] rfl ?_   -- 18, more.go:25
        refine s_mv 91 rfl rfl ?_
        refine s_mv 92 rfl rfl ?_
        refine s_iaO 93 2 i rfl rfl rfl rfl rfl (by omega) ?_
        refine s_ldO 94 2 rfl rfl rfl (natsAtC hil) ?_
        refine s_lt 95 rfl rfl rfl (decide_eq_false (by omega)) ?_
        refine s_mv 96 rfl rfl ?_
        refine s_mv 97 rfl rfl ?_
        refine s_mv 98 rfl rfl ?_
        refine s_iaO 99 2 i rfl rfl rfl rfl rfl (by omega) ?_
        refine s_ldO 100 2 rfl rfl rfl (natsAtC hil) ?_
        refine s_mv 101 rfl rfl ?_
        refine s_ge 102 rfl rfl rfl (decide_eq_false (by omega)) ?_
        refine s_pickF 103 rfl rfl rfl ?_
        refine SX.next ?_
        refine CW.condF rfl ?_
        refine CW.skip ?_
        refine KN.code ?_
        refine CW.reg [0, 1, 2, 3, 4, 5, 6] rfl ?_   -- 20, more.go:28
        refine s_mv 104 rfl rfl ?_
        refine s_mv 105 rfl rfl ?_
        refine s_mv 106 rfl rfl ?_
        refine s_iaO 107 2 i rfl rfl rfl rfl rfl (by omega) ?_
        refine s_ldO 108 2 rfl rfl rfl (natsAtC hil) ?_
        refine s_ia0 109 (cf (zerosN (plc (mkm 6 a0) (lowL (mkm 6 a0) l1)) (N (mkm 6 a0))) i) rfl rfl rfl rfl (by omega) ?_
        refine s_stB 0 rfl rfl rfl rfl rfl (by rw [btab_size]; omega) (fun _ _ => trivial) ?_
        refine SX.end_ ?_
        refine KN.blk ?_
        refine KN.code ?_
        refine CW.reg [0, 1, 2] rfl ?_   -- 17, more.go:24
        refine s_mv 89 rfl rfl ?_
        refine s_add 90 rfl rfl rfl (r := ((i + 1 : Nat) : Int)) (w64 (by omega)) ?_
        refine s_as 16 rfl rfl ?_
        refine SX.end_ ?_
        exact KN.back (i + 1) ⟨rfl, rfl, rfl, rfl, rfl, rfl, rfl, rfl, rfl, trivial⟩ (fun _ h => by rw [← hasF_next hil, ← btab_set]; exact h) (by omega) (by omega)
      · skip
        obtain rfl : i = (zerosN (plc (mkm 6 a0) (lowL (mkm 6 a0) l1)) (N (mkm 6 a0))).length := by omega
        refine CW.exit rfl ?_
        refine KN.code ?_
        refine CW.seq ?_
        refine CW.seq ?_
        refine CW.reg [0] rfl ?_   -- 21, more.go:30
        refine s_as 17 rfl rfl ?_
        refine SX.next ?_
        refine CW.block ?_
        refine CW.loop (G := Nat) (fun i => [(1, .slice A1 l1.length c1), (2, .int .i64 ((em (mkm 6 a0) a2) : Nat)), (8, .pointer (some ⟨g, 0, none⟩)), (10, .int .i64 ((N (mkm 6 a0)) : Nat)), (11, .slice (some ⟨gq, 0, none⟩) l1.length l1.length), (13, .slice q78.1 (zerosN (plc (mkm 6 a0) (lowL (mkm 6 a0) l1)) (N (mkm 6 a0))).length q78.2), (14, .slice q82.1 (zerosN (plc (mkm 6 a0) (lowL (mkm 6 a0) (qL (mkm 6 a0) l1 (em (mkm 6 a0) a2)))) (N (mkm 6 a0))).length q82.2), (15, .slice (some ⟨gh, 0, none⟩) (N (mkm 6 a0)) (N (mkm 6 a0))), (17, .int .i64 (i : Nat))]) (fun _ => Sto w [blk gh 4 (btab (N (mkm 6 a0)) (hasF (zerosN (plc (mkm 6 a0) (lowL (mkm 6 a0) l1)) (N (mkm 6 a0))) (zerosN (plc (mkm 6 a0) (lowL (mkm 6 a0) l1)) (N (mkm 6 a0))).length)), own 3 1 q82.1 (zerosN (plc (mkm 6 a0) (lowL (mkm 6 a0) (qL (mkm 6 a0) l1 (em (mkm 6 a0) a2)))) (N (mkm 6 a0))).length q82.2 (nats .i64 (zerosN (plc (mkm 6 a0) (lowL (mkm 6 a0) (qL (mkm 6 a0) l1 (em (mkm 6 a0) a2)))) (N (mkm 6 a0)))), own 3 1 q78.1 (zerosN (plc (mkm 6 a0) (lowL (mkm 6 a0) l1)) (N (mkm 6 a0))).length q78.2 (nats .i64 (zerosN (plc (mkm 6 a0) (lowL (mkm 6 a0) l1)) (N (mkm 6 a0)))), blk gq 3 (ints .i64 (tab l1.length (qF (mkm 6 a0) l1 (em (mkm 6 a0) a2) l1.length))).toArray, fieldA g (mkm 6 a0)]) (fun i => i ≤ (zerosN (plc (mkm 6 a0) (lowL (mkm 6 a0) (qL (mkm 6 a0) l1 (em (mkm 6 a0) a2)))) (N (mkm 6 a0))).length) (fun i => (zerosN (plc (mkm 6 a0) (lowL (mkm 6 a0) (qL (mkm 6 a0) l1 (em (mkm 6 a0) a2)))) (N (mkm 6 a0))).length - i) 0 ⟨rfl, rfl, rfl, rfl, rfl, rfl, rfl, rfl, rfl, trivial⟩ (fun _ h => h) (Nat.zero_le _) ?_
        intro i hi
        refine CW.seq ?_
        refine CW.seq ?_
        refine CW.reg [0, 1, 2, 3] rfl ?_   -- 22, more.go:30
        refine s_mv 110 rfl rfl ?_
        refine s_mv 111 rfl rfl ?_
        refine s_len 112 rfl rfl ?_
        refine s_lt 113 rfl rfl rfl rfl ?_
        refine SX.next ?_
        refine CW.test rfl (fun hc => ?_) (fun hc => ?_)
        · skip
          have hil : i < (zerosN (plc (mkm 6 a0) (lowL (mkm 6 a0) (qL (mkm 6 a0) l1 (em (mkm 6 a0) a2)))) (N (mkm 6 a0))).length := by omega
          have hza := zeros_at hil
          have htb2 := tmod_lt (k := ((N (mkm 6 a0)) : Nat)) (by omega) (((cf (zerosN (plc (mkm 6 a0) (lowL (mkm 6 a0) (qL (mkm 6 a0) l1 (em (mkm 6 a0) a2)))) (N (mkm 6 a0))) i : Nat) : Int) - ((em (mkm 6 a0) a2) : Nat))
          have hel := em_lt hm (((cf (zerosN (plc (mkm 6 a0) (lowL (mkm 6 a0) (qL (mkm 6 a0) l1 (em (mkm 6 a0) a2)))) (N (mkm 6 a0))) i : Nat) : Int) - ((em (mkm 6 a0) a2) : Nat))
          have hat : (btab (N (mkm 6 a0)) (hasF (zerosN (plc (mkm 6 a0) (lowL (mkm 6 a0) l1)) (N (mkm 6 a0))) (zerosN (plc (mkm 6 a0) (lowL (mkm 6 a0) l1)) (N (mkm 6 a0))).length))[em (mkm 6 a0) (((cf (zerosN (plc (mkm 6 a0) (lowL (mkm 6 a0) (qL (mkm 6 a0) l1 (em (mkm 6 a0) a2)))) (N (mkm 6 a0))) i : Nat) : Int) - ((em (mkm 6 a0) a2) : Nat))]? = some (.bool true) := by
            rw [btab_at hel, hasF_all, decide_eq_true (zerosN_mem.2 ⟨hel, ?_⟩)]
            rw [← plc_qL hm l1 (s := (em (mkm 6 a0) a2)) (j := cf (zerosN (plc (mkm 6 a0) (lowL (mkm 6 a0) (qL (mkm 6 a0) l1 (em (mkm 6 a0) a2)))) (N (mkm 6 a0))) i) (by rw [em_cast _ (by omega), Int.emod_emod_of_dvd _ (Int.dvd_refl _)])]
            exact hza.2
          refine CW.skip ?_
          refine KN.code ?_
          refine CW.seq ?_
          refine CW.block ?_
          refine CW.seq ?_
          refine CW.reg [0, 1, 2, 3, 4, 5, 6, 7, 8, 9, 10, 11, 12] rfl ?_   -- 24, more.go:32
          refine s_mv 116 rfl rfl ?_
          refine s_mv 117 rfl rfl ?_
          refine s_iaO 118 1 i rfl rfl rfl rfl rfl (by omega) ?_
          refine s_ldO 119 1 rfl rfl rfl (natsAtC hil) ?_
          refine s_mv 120 rfl rfl ?_
          refine s_sub 121 rfl rfl rfl (w64 (by omega)) ?_
          refine s_mv 122 rfl rfl ?_
          refine s_rem 123 rfl rfl rfl (by omega) rfl ?_
          refine s_mv 124 rfl rfl ?_
          refine s_add 125 rfl rfl rfl (w64 (by omega)) ?_
          refine s_mv 126 rfl rfl ?_
          refine s_rem 127 rfl rfl rfl (by omega) (em_pos2 hm _) ?_
          refine s_as 18 rfl rfl ?_
          refine SX.next ?_
          refine CW.seq ?_
          refine CW.reg [0, 1, 2, 3, 4] rfl ?_   -- 25, more.go:33
          refine s_mv 128 rfl rfl ?_
          refine s_mv 129 rfl rfl ?_
          refine s_ia0 130 (em (mkm 6 a0) (((cf (zerosN (plc (mkm 6 a0) (lowL (mkm 6 a0) (qL (mkm 6 a0) l1 (em (mkm 6 a0) a2)))) (N (mkm 6 a0))) i : Nat) : Int) - ((em (mkm 6 a0) a2) : Nat))) rfl rfl rfl rfl hel ?_
          refine s_ldB 131 0 rfl rfl rfl hat ?_
          refine s_not 132 rfl rfl ?_
          refine SX.next ?_
          refine CW.condF rfl ?_
          refine CW.skip ?_
          refine KN.blk ?_
          refine KN.code ?_
          refine CW.reg [0, 1, 2] rfl ?_   -- 23, more.go:30
          refine s_mv 114 rfl rfl ?_
          refine s_add 115 rfl rfl rfl (r := ((i + 1 : Nat) : Int)) (w64 (by omega)) ?_
          refine s_as 17 rfl rfl ?_
          refine SX.end_ ?_
          exact KN.back (i + 1) ⟨rfl, rfl, rfl, rfl, rfl, rfl, rfl, rfl, rfl, trivial⟩ (fun _ h => h) (by omega) (by omega)
        · skip
          obtain rfl : i = (zerosN (plc (mkm 6 a0) (lowL (mkm 6 a0) (qL (mkm 6 a0) l1 (em (mkm 6 a0) a2)))) (N (mkm 6 a0))).length := by omega
          refine CW.exit rfl ?_
          refine KN.code ?_
          refine CW.seq ?_
          refine CW.reg [0, 1, 2, 3, 4, 5, 6, 7, 8, 9, 10, 11, 12, 13] rfl ?_   -- 27, more.go:37
          refine s_mv 133 rfl rfl ?_
          refine s_len 134 rfl rfl ?_
          refine s_mv 135 rfl rfl ?_
          refine s_len 136 rfl rfl ?_
          refine s_eq 137 rfl rfl rfl (decide_eq_true (by rw [hlen])) ?_
          refine s_mv 138 rfl rfl ?_
          refine s_mv 139 rfl rfl ?_
          refine s_mv 140 rfl rfl ?_
          refine s_mv 141 rfl rfl ?_
          refine s_call 142 rfl rfl rfl rfl (fun w hw => by have := splain_spec g (mkm 6 a0) (some ⟨gq, 0, none⟩) l1.length (qL (mkm 6 a0) l1 (em (mkm 6 a0) a2)) ((N (mkm 6 a0)) : Nat) w hm (hw.has (i := 4) rfl) (by rw [show (qL (mkm 6 a0) l1 (em (mkm 6 a0) a2)).length = l1.length from tab_len _ _]; exact (hw.has (i := 3) rfl).blk_sl (m := l1.length) tabs_n) (by unfold qL; rw [tab_len]; omega) (by unfold qL; rw [tab_len]; omega); rw [min_NN, show (qL (mkm 6 a0) l1 (em (mkm 6 a0) a2)).length = l1.length from tab_len _ _] at this; exact this) (fun _ _ => trivial) (fun q142 hq142 => ?_)
          refine s_mv 143 rfl rfl ?_
          refine s_call1 144 rfl rfl rfl rfl (v := .bool true) (fun w hw => by have := sameInts_spec q142.1 q82.1 (zerosN (plc (mkm 6 a0) (lowL (mkm 6 a0) (qL (mkm 6 a0) l1 (em (mkm 6 a0) a2)))) (N (mkm 6 a0))).length q142.2 (zerosN (plc (mkm 6 a0) (lowL (mkm 6 a0) (qL (mkm 6 a0) l1 (em (mkm 6 a0) a2)))) (N (mkm 6 a0))).length q82.2 ((zerosN (plc (mkm 6 a0) (lowL (mkm 6 a0) (qL (mkm 6 a0) l1 (em (mkm 6 a0) a2)))) (N (mkm 6 a0))).map Int.ofNat) ((zerosN (plc (mkm 6 a0) (lowL (mkm 6 a0) (qL (mkm 6 a0) l1 (em (mkm 6 a0) a2)))) (N (mkm 6 a0))).map Int.ofNat) _ (by rw [← nats_ints]; exact (hw.has (i := 0) rfl).of_own) (by rw [← nats_ints]; exact (hw.has (i := 2) rfl).of_own) (by omega); rw [decide_eq_true rfl] at this; exact this) (fun _ _ => trivial) ?_
          refine s_pickT 145 rfl rfl rfl ?_
          refine s_as 6 rfl rfl ?_
          refine SX.next ?_
          refine CW.ret ?_
          exact KN.ret (rs := [.tmp 6]) Tryd.results4 rfl (fun w hw => ⟨rfl, hw.nothing⟩)
