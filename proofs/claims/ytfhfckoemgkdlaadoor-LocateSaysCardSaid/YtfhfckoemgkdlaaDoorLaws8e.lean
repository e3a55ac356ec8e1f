/- The statement LocateScales, walked. No condition but the errors' variables. -/
import Derived.Test.YtfhfckoemgkdlaaDoorLaws8b
namespace Go.Proofs.YtfhfckoemgkdlaaDoor
open Go Go.Sx Go.Fm
set_option maxRecDepth 100000
def scF (F : Nat → Nat) (i k : Nat) : Nat := if k < i then F k else 0
theorem scF_next (F : Nat → Nat) (i : Nat) : (fun k => if k = i then F i else scF F i k) = scF F (i + 1) := by
  funext k
  unfold scF
  by_cases h : k = i
  · subst h; rw [if_pos rfl, if_pos (Nat.lt_succ_self k)]
  · rw [if_neg h]
    by_cases h2 : k < i
    · rw [if_pos h2, if_pos (by omega)]
    · rw [if_neg h2, if_neg (by omega)]
theorem scF_zero (n : Nat) (F : Nat → Nat) : tabN n (scF F 0) = tab n (fun _ => 0) := tab_cong (fun k _ => by unfold scF; rw [if_neg (Nat.not_lt_zero _)]; rfl)
theorem cf_scF {m : Nat} {n : Nat} {F : Nat → Nat} (hF : ∀ k, F k < 2 ^ m) {i : Nat} (hi : i < n) : cf (lowL m (tabN n (scF F n))) i = F i := by
  rw [cf_low]
  unfold tabN
  rw [tab_getD, if_pos hi]
  unfold scF
  rw [if_pos hi, lo_nat (hF i)]
theorem inv_inv {m : Nat} (hm : Ok m) {a : Nat} (ha : a < 2 ^ m) (h0 : a ≠ 0) {x : Nat} (hx : x < 2 ^ m) : gm m (gm m x a) (inv m a) = x := by
  rw [gm_assoc hm hx ha (inv_lt hm _), gm_inv hm ha h0, gm_one_right hm hx]
theorem fpw_inv {m : Nat} (hm : Ok m) {b : Nat} (hb : b < 2 ^ m) (h0 : b ≠ 0) (k : Nat) : gm m (fpw m b k) (fpw m (inv m b) k) = 1 := by
  have e1 : b = exz m (lg m b : Nat) := (ex_em_lg hm hb h0).symm
  have e2 : inv m b = exz m (-(lg m b : Nat)) := rfl
  rw [e2]
  rw [show fpw m b k = fpw m (exz m (lg m b : Nat)) k by rw [← e1], exz_fpw hm, exz_fpw hm, exz_add hm]
  rw [show ((lg m b : Nat) : Int) * (k : Nat) + -((lg m b : Nat) : Int) * (k : Nat) = 0 by rw [Int.neg_mul]; omega]
  exact exz_zero hm
theorem fpw_ne {m : Nat} (hm : Ok m) {b : Nat} (hb : b < 2 ^ m) (h0 : b ≠ 0) (k : Nat) : fpw m b k ≠ 0 := fun h => by
  have := fpw_inv hm hb h0 k
  rw [h, gm_zero_left] at this
  cases this
theorem one_BL {m : Nat} (hm : Ok m) (l : List Int) : cf (BL m l).c 0 = 1 := (bm_inv hm (lowL_lt m l) l.length).c0
theorem mk_BL {m : Nat} (hm : Ok m) (l : List Int) : Mk m (cf (BL m l).c) (cf (lowL m l)) (BL m l).L l.length := bm_mk hm (lowL_lt m l) l.length
theorem tr_BL {m : Nat} (hm : Ok m) (l : List Int) : Tr m (BL m l).c := (bm_inv hm (lowL_lt m l) l.length).tc
/-- Two lists, each of which is made by what makes the other, turned. -/
theorem scale_BL {m : Nat} (hm : Ok m) (l : List Int) {a : Nat} (ha : a < 2 ^ m) (h0 : a ≠ 0) : (BL m (tabN l.length (scF (fun k => gm m (lo m (l.getD k 0)) a) l.length))).L = (BL m l).L ∧
    (2 * (BL m l).L ≤ l.length → (BL m (tabN l.length (scF (fun k => gm m (lo m (l.getD k 0)) a) l.length))).c = (BL m l).c) := by
  have hF : ∀ k, gm m (lo m (l.getD k 0)) a < 2 ^ m := fun k => gm_lt hm (lo_lt m _) a
  have hs : ∀ j, cf (lowL m l) j < 2 ^ m := fun j => cf_lt (lowL_lt m l) (Nat.two_pow_pos m) j
  have hX : ∀ j, j < l.length → cf (lowL m (tabN l.length (scF (fun k => gm m (lo m (l.getD k 0)) a) l.length))) j = gm m (cf (lowL m l) j) a := fun j hj => by rw [cf_scF hF hj, cf_low]
  have hXl : (tabN l.length (scF (fun k => gm m (lo m (l.getD k 0)) a) l.length)).length = l.length := tabN_len _ _
  generalize tabN l.length (scF (fun k => gm m (lo m (l.getD k 0)) a) l.length) = X at *
  have hsX : ∀ j, cf (lowL m X) j < 2 ^ m := fun j => cf_lt (lowL_lt m X) (Nat.two_pow_pos m) j
  have h1 : Mk m (cf (BL m l).c) (cf (lowL m X)) (BL m l).L X.length := by rw [hXl]; exact (mk_BL hm l).scale hm hs ha hX
  have h2 : Mk m (cf (BL m X).c) (cf (lowL m l)) (BL m X).L l.length := by
    have := (mk_BL hm X).scale hm hsX (inv_lt hm a) (u := cf (lowL m l)) (fun j hj => by rw [hX j (by omega), inv_inv hm ha h0 (hs j)])
    rwa [hXl] at this
  have hle := bm_least hm (lowL_lt m X) X.length h1 (by rw [one_BL hm]; decide)
  have hge := bm_least hm (lowL_lt m l) l.length h2 (by rw [one_BL hm]; decide)
  have hL : (BL m X).L = (BL m l).L := Nat.le_antisymm hle hge
  refine ⟨hL, fun h3 => (tr_BL hm X).ext (tr_BL hm l) (bm_one hm (lowL_lt m X) X.length (u := cf (BL m l).c) ?_ (one_BL hm l) ?_)⟩
  · show Mk m _ _ (BL m X).L _; rw [hL]; exact h1
  · show 2 * (BL m X).L ≤ _; omega
theorem turn_BL {m : Nat} (hm : Ok m) (l : List Int) {b : Nat} (hb : b < 2 ^ m) (h0 : b ≠ 0) : (BL m (tabN l.length (scF (fun k => gm m (lo m (l.getD k 0)) (fpw m b k)) l.length))).L = (BL m l).L ∧
    (2 * (BL m l).L ≤ l.length → ∀ j, cf (BL m (tabN l.length (scF (fun k => gm m (lo m (l.getD k 0)) (fpw m b k)) l.length))).c j = gm m (cf (BL m l).c j) (fpw m b j)) := by
  have hF : ∀ k, gm m (lo m (l.getD k 0)) (fpw m b k) < 2 ^ m := fun k => gm_lt hm (lo_lt m _) _
  have hs : ∀ j, cf (lowL m l) j < 2 ^ m := fun j => cf_lt (lowL_lt m l) (Nat.two_pow_pos m) j
  have hX : ∀ j, j < l.length → cf (lowL m (tabN l.length (scF (fun k => gm m (lo m (l.getD k 0)) (fpw m b k)) l.length))) j = gm m (cf (lowL m l) j) (fpw m b j) := fun j hj => by rw [cf_scF hF hj, cf_low]
  have hXl : (tabN l.length (scF (fun k => gm m (lo m (l.getD k 0)) (fpw m b k)) l.length)).length = l.length := tabN_len _ _
  generalize tabN l.length (scF (fun k => gm m (lo m (l.getD k 0)) (fpw m b k)) l.length) = X at *
  have hsX : ∀ j, cf (lowL m X) j < 2 ^ m := fun j => cf_lt (lowL_lt m X) (Nat.two_pow_pos m) j
  have hi := inv_lt hm b
  have h1 : Mk m (fun j => gm m (cf (BL m l).c j) (fpw m b j)) (cf (lowL m X)) (BL m l).L X.length := by rw [hXl]; exact (mk_BL hm l).turn hm hs hb hX (fun _ => rfl)
  have h2 : Mk m (fun j => gm m (cf (BL m X).c j) (fpw m (inv m b) j)) (cf (lowL m l)) (BL m X).L l.length := by
    have := (mk_BL hm X).turn hm hsX hi (u := cf (lowL m l)) (fun j hj => by
      rw [hX j (by omega), gm_assoc hm (hs j) (fpw_lt hm _ _) (fpw_lt hm _ _), fpw_inv hm hb h0, gm_one_right hm (hs j)]) (g := fun j => gm m (cf (BL m X).c j) (fpw m (inv m b) j)) (fun _ => rfl)
    rwa [hXl] at this
  have e1 : gm m (cf (BL m l).c 0) (fpw m b 0) = 1 := by rw [one_BL hm]; exact gm_one_right hm (one_lt hm)
  have e2 : gm m (cf (BL m X).c 0) (fpw m (inv m b) 0) = 1 := by rw [one_BL hm]; exact gm_one_right hm (one_lt hm)
  have hle := bm_least hm (lowL_lt m X) X.length h1 (by show gm m _ _ ≠ 0; rw [e1]; decide)
  have hge := bm_least hm (lowL_lt m l) l.length h2 (by show gm m _ _ ≠ 0; rw [e2]; decide)
  have hL : (BL m X).L = (BL m l).L := Nat.le_antisymm hle hge
  refine ⟨hL, fun h3 => bm_one hm (lowL_lt m X) X.length (u := fun j => gm m (cf (BL m l).c j) (fpw m b j)) ?_ e1 ?_⟩
  · show Mk m _ _ (BL m X).L _; rw [hL]; exact h1
  · show 2 * (BL m X).L ≤ _; omega
theorem len_same {m : Nat} (hm : Ok m) {a c : List Nat} (ha : Tr m a) (hc : Tr m c) {f : Nat → Nat} (hf : ∀ j, f j < 2 ^ m) (h0 : ∀ j, f j ≠ 0) (h : ∀ j, cf a j = gm m (cf c j) (f j)) : a.length = c.length := by
  refine Nat.le_antisymm (len_le_of ha (fun j hj => by rw [h, cf_out hj, gm_zero_left])) (len_le_of hc (fun j hj => ?_))
  have := h j
  rw [cf_out hj] at this
  exact Classical.byContradiction fun hx => gm_ne_zero hm (hc.c j) (hf j) hx (h0 j) this.symm
theorem powE (g m b : Nat) (n : Nat) (e : Nat → Addr) (w : World) (hm : Ok m) (hf : Has (fieldA g m) w) (hz : Er e w 1) (hb : b < 2 ^ m) : Spec1 Tryd.prog 39 [.pointer (some ⟨g, 0, none⟩), .int .i64 (b : Nat), .int .i64 (n : Nat)] w (.int .i64 (fpw m b n : Nat)) := by
  have := pow_spec g m (b : Nat) (n : Nat) e w hm hf hz
  rw [lo_nat hb, pw_nat hm hb] at this
  exact this
theorem mulS (g m : Nat) (z : Int) (x : Nat) (w : World) (hm : Ok m) (hf : Has (fieldA g m) w) (hx : x < 2 ^ m) : Spec1 Tryd.prog 24 [.pointer (some ⟨g, 0, none⟩), .int .i64 z, .int .i64 (x : Nat)] w (.int .i64 (gm m (lo m z) x : Nat)) := by
  have := mul_spec g m z (x : Nat) w hm hf
  rw [lo_nat hx] at this
  exact this
theorem tabNs_n2 {k : IntKind} {n : Nat} {F : Nat → Nat} : (ints k (tabN n F)).toArray.size = n * 1 := by unfold tabN; exact tabs_n
theorem tabN_sz2 {k : IntKind} {n : Nat} {F : Nat → Nat} : (ints k (tabN n F)).toArray.size = n := by unfold tabN; exact tab_size

theorem walk_LocateScales (a0 : Int) (A1 : Option Addr) (n1 c1 : Nat) (l1 : List Int) (a2 a3 : Int) (e : Nat → Addr) (w : World) (hs1 : Has (sl 1 A1 n1 (ints .i64 l1)) w) (hn1 : n1 ≤ 9223372036854775807) (hc1 : n1 ≤ c1) (_hf : Er e w 2) (hz : Er e w 1) (_hl : Er e w 0) : Spec1 Tryd.prog 9 [.int .i64 a0, .slice A1 n1 c1, .int .i64 a2, .int .i64 a3] w (.bool true) := by
  have hm := mkm_ok (k := 7) (by omega) (by omega) a0
  have hla := ints_len hs1
  subst hla
  have h14 := pow_le14 hm
  have hNs := N_succ (mkm 7 a0)
  have hNp := N_pos hm
  have hmh := hm.hi
  refine spec_of Tryd.func9 rfl Tryd.ntmps9 rfl ?_
  refine CW.seq ?_
  refine CW.reg [0] rfl ?_   -- 0, more.go:10
  refine s_as 8 rfl rfl ?_
  refine SX.next ?_
  refine CW.seq ?_
  refine CW.reg [0, 1] rfl ?_   -- 1, more.go:11
  refine s_call1 22 rfl rfl rfl rfl (fun w hw => first8_spec w) (fun _ _ => trivial) ?_
  refine s_as 9 rfl rfl ?_
  refine SX.next ?_
  refine CW.seq ?_
  refine CW.reg [0, 1, 2, 3, 4, 5, 6] rfl ?_   -- 2, more.go:12
  refine s_mv 24 rfl rfl ?_
  refine s_call 25 rfl rfl rfl rfl (fun w hw => made8_spec a0 w) (fun _ _ => trivial) (fun g _ => ?_)
  refine s_mv 23 rfl rfl ?_
  refine s_ext 26 rfl rfl rfl ?_
  refine s_ext 27 rfl rfl rfl ?_
  refine s_as 10 rfl rfl ?_
  refine s_as 11 rfl rfl ?_
  refine SX.next ?_
  refine CW.seq ?_
  refine CW.seq ?_
  refine CW.reg [0, 1, 2, 3, 4, 5, 6, 7, 8, 9, 10] rfl ?_   -- 3, more.go:13
  refine s_mv 28 rfl rfl ?_
  refine s_eqPN 29 rfl rfl ?_
  refine s_mv 30 rfl rfl ?_
  refine s_mv 31 rfl rfl ?_
  refine s_len 32 rfl rfl ?_
  refine s_gt 33 rfl rfl rfl rfl ?_
  refine s_pickF 34 rfl rfl rfl ?_
  refine s_mv 35 rfl rfl ?_
  refine SX.bool 35 rfl (fun hb => ?_) (fun hb => ?_)
  · skip
    skip
    refine SX.skip rfl ?_
    refine SX.skip rfl ?_
    refine s_pickT 38 rfl rfl rfl ?_
    refine SX.next ?_
    refine CW.condT rfl ?_
    refine CW.seq ?_
    refine CW.reg [0, 1, 2, 3, 4, 5] rfl ?_   -- 4, more.go:14
    refine s_mv 39 rfl rfl ?_
    refine s_mv 40 rfl rfl ?_
    refine s_mv 41 rfl rfl ?_
    refine s_nePN 42 rfl rfl ?_
    refine s_pickT 43 rfl rfl rfl ?_
    refine s_as 8 rfl rfl ?_
    refine SX.next ?_
    refine CW.ret ?_
    exact KN.ret (rs := [.tmp 8]) Tryd.results9 rfl (fun w hw => ⟨rfl, hw.nothing⟩)
  · skip
    have hp1 := of_decide_eq_false hb
    have hx1 : l1.length ≤ 40 := by omega
    refine s_mv 36 rfl rfl ?_
    refine s_not 37 rfl rfl ?_
    refine s_pickF 38 rfl rfl rfl ?_
    refine SX.next ?_
    refine CW.condF rfl ?_
    refine CW.skip ?_
    refine KN.code ?_
    refine CW.seq ?_
    refine CW.reg [0, 1, 2, 3] rfl ?_   -- 5, more.go:16
    refine s_mv 44 rfl rfl ?_
    refine s_mv 45 rfl rfl ?_
    refine s_call1 46 rfl rfl rfl rfl (fun w hw => rlow_spec _ _ _ hm) (fun _ _ => trivial) ?_
    refine s_as 2 rfl rfl ?_
    refine SX.next ?_
    refine CW.seq ?_
    refine CW.reg [0, 1, 2, 3] rfl ?_   -- 6, more.go:17
    refine s_mv 47 rfl rfl ?_
    refine s_mv 48 rfl rfl ?_
    refine s_call1 49 rfl rfl rfl rfl (fun w hw => rlow_spec _ _ _ hm) (fun _ _ => trivial) ?_
    refine s_as 3 rfl rfl ?_
    refine SX.next ?_
    refine CW.seq ?_
    refine CW.seq ?_
    refine CW.reg [0, 1, 2, 3, 4, 5] rfl ?_   -- 7, more.go:18
    refine s_mv 50 rfl rfl ?_
    refine s_eq 51 rfl rfl rfl rfl ?_
    refine s_mv 52 rfl rfl ?_
    refine SX.bool 52 rfl (fun hb => ?_) (fun hb => ?_)
    · skip
      skip
      refine SX.skip rfl ?_
      refine SX.skip rfl ?_
      refine s_pickT 55 rfl rfl rfl ?_
      refine SX.next ?_
      refine CW.condT rfl ?_
      refine CW.seq ?_
      refine CW.reg [0] rfl ?_   -- 8, more.go:19
      refine s_as 8 rfl rfl ?_
      refine SX.next ?_
      refine CW.ret ?_
      exact KN.ret (rs := [.tmp 8]) Tryd.results9 rfl (fun w hw => ⟨rfl, hw.nothing⟩)
    · skip
      have hd1 := of_decide_eq_false hb
      refine s_mv 53 rfl rfl ?_
      refine s_eq 54 rfl rfl rfl rfl ?_
      refine s_pickF 55 rfl rfl rfl ?_
      refine SX.next ?_
      refine CW.test rfl (fun hc => ?_) (fun hc => ?_)
      · skip
        refine CW.seq ?_
        refine CW.reg [0] rfl ?_   -- 8, more.go:19
        refine s_as 8 rfl rfl ?_
        refine SX.next ?_
        refine CW.ret ?_
        exact KN.ret (rs := [.tmp 8]) Tryd.results9 rfl (fun w hw => ⟨rfl, hw.nothing⟩)
      · skip
        refine CW.skip ?_
        refine KN.code ?_
        refine CW.seq ?_
        have hal := lo_lt (mkm 7 a0) a2
        have hbl := lo_lt (mkm 7 a0) a3
        have ha0 : (lo (mkm 7 a0) a2) ≠ 0 := by omega
        have hb0 : (lo (mkm 7 a0) a3) ≠ 0 := by omega
        obtain ⟨hx2, hx3⟩ := scale_BL hm l1 hal ha0
        obtain ⟨hy2, hy3⟩ := turn_BL hm l1 hbl hb0
        obtain ⟨hb1, hb2, hb3⟩ := BL_len hm l1
        have hfl := fpw_lt hm (lo (mkm 7 a0) a3)
        refine CW.reg [0, 1, 2, 3, 4, 5, 6, 7] rfl ?_   -- 9, more.go:21
        refine s_mv 57 rfl rfl ?_
        refine s_mv 58 rfl rfl ?_
        refine s_call 59 rfl rfl rfl rfl (fun w hw => locL_spec g (mkm 7 a0) A1 l1.length c1 l1 w hm (hw.has (i := 0) rfl) (hw.old hs1) (by omega) hc1) (fun _ _ => trivial) (fun q59 hq59 => ?_)
        refine s_mv 56 rfl rfl ?_
        refine s_ext 60 rfl rfl rfl ?_
        refine s_ext 61 rfl rfl rfl ?_
        refine s_as 12 rfl rfl ?_
        refine s_as 13 rfl rfl ?_
        refine SX.next ?_
        refine CW.seq ?_
        refine CW.reg [0, 1, 2, 3] rfl ?_   -- 10, more.go:22
        refine s_mv 62 rfl rfl ?_
        refine s_len 63 rfl rfl ?_
        refine s_make 64 l1.length rfl rfl rfl rfl rfl (by omega) (fun _ _ => trivial) (fun gx => ?_)
        refine s_as 14 rfl rfl ?_
        refine SX.next ?_
        refine CW.seq ?_
        refine CW.reg [0, 1, 2, 3] rfl ?_   -- 11, more.go:23
        refine s_mv 65 rfl rfl ?_
        refine s_len 66 rfl rfl ?_
        refine s_make 67 l1.length rfl rfl rfl rfl rfl (by omega) (fun _ _ => trivial) (fun gy => ?_)
        refine s_as 15 rfl rfl ?_
        refine SX.next ?_
        refine CW.seq ?_
        refine CW.seq ?_
        refine CW.reg [0] rfl ?_   -- 12, more.go:24
        refine s_as 16 rfl rfl ?_
        refine SX.next ?_
        refine CW.block ?_
        refine CW.loop (G := Nat) (fun i => [(1, .slice A1 l1.length c1), (2, .int .i64 ((lo (mkm 7 a0) a2) : Nat)), (3, .int .i64 ((lo (mkm 7 a0) a3) : Nat)), (10, .pointer (some ⟨g, 0, none⟩)), (12, .slice q59.1 (BL (mkm 7 a0) l1).c.length q59.2), (13, .int .i64 ((BL (mkm 7 a0) l1).L : Nat)), (14, .slice (some ⟨gx, 0, none⟩) l1.length l1.length), (15, .slice (some ⟨gy, 0, none⟩) l1.length l1.length), (16, .int .i64 (i : Nat))]) (fun i => Sto w [blk gy 3 (ints .i64 (tabN l1.length (scF (fun k => gm (mkm 7 a0) (lo (mkm 7 a0) (l1.getD k 0)) (fpw (mkm 7 a0) (lo (mkm 7 a0) a3) k)) i))).toArray, blk gx 3 (ints .i64 (tabN l1.length (scF (fun k => gm (mkm 7 a0) (lo (mkm 7 a0) (l1.getD k 0)) (lo (mkm 7 a0) a2)) i))).toArray, own 3 1 q59.1 (BL (mkm 7 a0) l1).c.length q59.2 (nats .i64 (BL (mkm 7 a0) l1).c), fieldA g (mkm 7 a0)]) (fun i => i ≤ l1.length) (fun i => l1.length - i) 0 ⟨rfl, rfl, rfl, rfl, rfl, rfl, rfl, rfl, rfl, trivial⟩ (fun _ h => by rw [scF_zero, scF_zero, ← tab_zero]; exact h) (Nat.zero_le _) ?_
        intro i hi
        refine CW.seq ?_
        refine CW.seq ?_
        refine CW.reg [0, 1, 2, 3] rfl ?_   -- 13, more.go:24
        refine s_mv 68 rfl rfl ?_
        refine s_mv 69 rfl rfl ?_
        refine s_len 70 rfl rfl ?_
        refine s_lt 71 rfl rfl rfl rfl ?_
        refine SX.next ?_
        refine CW.test rfl (fun hc => ?_) (fun hc => ?_)
        · skip
          refine CW.skip ?_
          refine KN.code ?_
          refine CW.seq ?_
          refine CW.block ?_
          refine CW.seq ?_
          refine CW.reg [0, 1, 2, 3, 4, 5, 6, 7, 8, 9, 10] rfl ?_   -- 15, more.go:25
          refine s_mv 74 rfl rfl ?_
          refine s_mv 75 rfl rfl ?_
          refine s_mv 76 rfl rfl ?_
          refine s_mv 77 rfl rfl ?_
          refine s_mv 78 rfl rfl ?_
          refine s_iaV 79 i (fun w hw => hw.old hs1) rfl rfl rfl rfl (by omega) ?_
          refine s_ldV 80 (fun w hw => hw.old hs1) rfl rfl (by rw [Nat.mul_one]; exact intsAt (by omega)) (by omega) ?_
          refine s_mv 81 rfl rfl ?_
          refine s_call1 82 rfl rfl rfl rfl (fun w hw => mulS g (mkm 7 a0) _ _ w hm (hw.has (i := 3) rfl) hal) (fun _ _ => trivial) ?_
          refine s_ia0 83 i rfl rfl rfl rfl (by omega) ?_
          refine s_stB 1 rfl rfl rfl rfl rfl (by rw [tabN_sz2]; omega) (fun _ _ => trivial) ?_
          refine SX.next ?_
          refine CW.regD (.st true 0 (.st true 1 (.st true 2 (.st true 3 (.st true 4 (.st true 5 (.st true 6 (.st true 7 (.st true 8 (.st true 9 (.st false 10 (.st false 11 (.st true 12 (.st false 13 .done)))))))))))))) (Sto w [fieldA g (mkm 7 a0)]) mixed (by kernel_rfl) (fun _ h => h.drew) (fun _ h => h.pick [3] rfl) ?_
          refine s_mv 84 rfl rfl ?_
          refine s_mv 85 rfl rfl ?_
          refine s_mv 86 rfl rfl ?_
          refine s_mv 87 rfl rfl ?_
          refine s_mv 88 rfl rfl ?_
          refine s_iaV 89 i (fun w hw => hw.old hs1) rfl rfl rfl rfl (by omega) ?_
          refine s_ldVS 90 (fun w hw => hw.old hs1) rfl rfl (by rw [Nat.mul_one]; exact intsAt (by omega)) (by omega) ?_
          refine s_mv 91 rfl rfl ?_
          refine s_mv 92 rfl rfl ?_
          refine s_mv 93 rfl rfl ?_
          refine s_call1 94 rfl rfl rfl rfl (fun w hw => powE g (mkm 7 a0) (lo (mkm 7 a0) a3) i e w hm (hw.has (i := 3) rfl) (hw.er hz) hbl) (fun _ h => h.pick [3] rfl) ?_
          refine s_call1 95 rfl rfl rfl rfl (fun w hw => mulS g (mkm 7 a0) _ _ w hm (hw.has (i := 3) rfl) (hfl i)) (fun _ h => h.pick [3] rfl) ?_
          refine s_ia0 96 i rfl rfl rfl rfl (by omega) ?_
          refine s_stB 0 rfl rfl rfl rfl rfl (by rw [tabN_sz2]; omega) (fun _ h => h.pick [3] rfl) ?_
          refine SX.end_ ?_
          refine KN.blk ?_
          refine KN.code ?_
          refine CW.reg [0, 1, 2] rfl ?_   -- 14, more.go:24
          refine s_mv 72 rfl rfl ?_
          refine s_add 73 rfl rfl rfl (r := ((i + 1 : Nat) : Int)) (w64 (by omega)) ?_
          refine s_as 16 rfl rfl ?_
          refine SX.end_ ?_
          exact KN.back (i + 1) ⟨rfl, rfl, rfl, rfl, rfl, rfl, rfl, rfl, rfl, trivial⟩ (fun _ h => by rw [← scF_next, ← scF_next, ← tabN_set, ← tabN_set]; exact h) (by omega) (by omega)
        · skip
          obtain rfl : i = l1.length := by omega
          refine CW.exit rfl ?_
          refine KN.code ?_
          refine CW.seq ?_
          refine CW.reg [0, 1, 2, 3, 4, 5, 6, 7] rfl ?_   -- 17, more.go:28
          refine s_mv 98 rfl rfl ?_
          refine s_mv 99 rfl rfl ?_
          refine s_call 100 rfl rfl rfl rfl (fun w hw => locL_spec g (mkm 7 a0) (some ⟨gx, 0, none⟩) l1.length l1.length (tabN l1.length (scF (fun k => gm (mkm 7 a0) (lo (mkm 7 a0) (l1.getD k 0)) (lo (mkm 7 a0) a2)) l1.length)) w hm (hw.has (i := 3) rfl) ((hw.has (i := 1) rfl).blk_sl (m := l1.length) tabNs_n2) (by omega) (by omega)) (fun _ _ => trivial) (fun q100 hq100 => ?_)
          refine s_mv 97 rfl rfl ?_
          refine s_ext 101 rfl rfl rfl ?_
          refine s_ext 102 rfl rfl rfl ?_
          refine s_as 17 rfl rfl ?_
          refine s_as 18 rfl rfl ?_
          refine SX.next ?_
          refine CW.seq ?_
          refine CW.reg [0, 1, 2, 3, 4, 5, 6, 7] rfl ?_   -- 18, more.go:29
          refine s_mv 104 rfl rfl ?_
          refine s_mv 105 rfl rfl ?_
          refine s_call 106 rfl rfl rfl rfl (fun w hw => locL_spec g (mkm 7 a0) (some ⟨gy, 0, none⟩) l1.length l1.length (tabN l1.length (scF (fun k => gm (mkm 7 a0) (lo (mkm 7 a0) (l1.getD k 0)) (fpw (mkm 7 a0) (lo (mkm 7 a0) a3) k)) l1.length)) w hm (hw.has (i := 4) rfl) ((hw.has (i := 1) rfl).blk_sl (m := l1.length) tabNs_n2) (by omega) (by omega)) (fun _ _ => trivial) (fun q106 hq106 => ?_)
          refine s_mv 103 rfl rfl ?_
          refine s_ext 107 rfl rfl rfl ?_
          refine s_ext 108 rfl rfl rfl ?_
          refine s_as 19 rfl rfl ?_
          refine s_as 20 rfl rfl ?_
          refine SX.next ?_
          refine CW.seq ?_
          refine CW.seq ?_
          refine CW.reg [0, 1, 2, 3, 4, 5, 6, 7] rfl ?_   -- 19, more.go:30
          refine s_mv 109 rfl rfl ?_
          refine s_mv 110 rfl rfl ?_
          refine s_ne 111 rfl rfl rfl (decide_eq_false (by rw [hx2]; exact fun h => h rfl)) ?_
          refine s_mv 112 rfl rfl ?_
          refine s_mv 113 rfl rfl ?_
          refine s_mv 114 rfl rfl ?_
          refine s_ne 115 rfl rfl rfl (decide_eq_false (by rw [hy2]; exact fun h => h rfl)) ?_
          refine s_pickF 116 rfl rfl rfl ?_
          refine SX.next ?_
          refine CW.condF rfl ?_
          refine CW.skip ?_
          refine KN.code ?_
          refine CW.seq ?_
          refine CW.seq ?_
          refine CW.reg [0, 1, 2, 3, 4] rfl ?_   -- 21, more.go:33
          refine s_mv 117 rfl rfl ?_
          refine s_mul 118 rfl rfl rfl (r := ((2 * (BL (mkm 7 a0) l1).L : Nat) : Int)) (by rw [show (2 : Int) * (((BL (mkm 7 a0) l1).L : Nat) : Int) = ((2 * (BL (mkm 7 a0) l1).L : Nat) : Int) by omega]; exact w64 (by omega)) ?_
          refine s_mv 119 rfl rfl ?_
          refine s_len 120 rfl rfl ?_
          refine s_gt 121 rfl rfl rfl rfl ?_
          refine SX.next ?_
          refine CW.test rfl (fun hc => ?_) (fun hc => ?_)
          · skip
            refine CW.seq ?_
            refine CW.reg [0] rfl ?_   -- 22, more.go:35
            refine s_as 8 rfl rfl ?_
            refine SX.next ?_
            refine CW.ret ?_
            exact KN.ret (rs := [.tmp 8]) Tryd.results9 rfl (fun w hw => ⟨rfl, hw.nothing⟩)
          · skip
            have hxc := hx3 (by omega)
            have hyc := hy3 (by omega)
            have hyl := len_same hm (tr_BL hm (tabN l1.length (scF (fun k => gm (mkm 7 a0) (lo (mkm 7 a0) (l1.getD k 0)) (fpw (mkm 7 a0) (lo (mkm 7 a0) a3) k)) l1.length))) (tr_BL hm l1) hfl (fpw_ne hm hbl hb0) hyc
            refine CW.skip ?_
            refine KN.code ?_
            refine CW.seq ?_
            refine CW.seq ?_
            refine CW.reg [0, 1, 2, 3, 4, 5, 6, 7, 8, 9, 10] rfl ?_   -- 23, more.go:37
            refine s_mv 122 rfl rfl ?_
            refine s_mv 123 rfl rfl ?_
            refine s_call1 124 rfl rfl rfl rfl (v := .bool true) (fun w hw => by have := sameInts_spec q59.1 q100.1 (BL (mkm 7 a0) l1).c.length q59.2 (BL (mkm 7 a0) (tabN l1.length (scF (fun k => gm (mkm 7 a0) (lo (mkm 7 a0) (l1.getD k 0)) (lo (mkm 7 a0) a2)) l1.length))).c.length q100.2 ((BL (mkm 7 a0) l1).c.map Int.ofNat) ((BL (mkm 7 a0) (tabN l1.length (scF (fun k => gm (mkm 7 a0) (lo (mkm 7 a0) (l1.getD k 0)) (lo (mkm 7 a0) a2)) l1.length))).c.map Int.ofNat) _ (by rw [← nats_ints]; exact (hw.has (i := 4) rfl).of_own) (by rw [← nats_ints]; exact (hw.has (i := 1) rfl).of_own) (by omega); rw [decide_eq_true (by rw [hxc])] at this; exact this) (fun _ _ => trivial) ?_
            refine s_not 125 rfl rfl ?_
            refine s_mv 126 rfl rfl ?_
            refine s_mv 127 rfl rfl ?_
            refine s_len 128 rfl rfl ?_
            refine s_mv 129 rfl rfl ?_
            refine s_len 130 rfl rfl ?_
            refine s_ne 131 rfl rfl rfl (decide_eq_false (by rw [hyl]; exact fun h => h rfl)) ?_
            refine s_pickF 132 rfl rfl rfl ?_
            refine SX.next ?_
            refine CW.condF rfl ?_
            refine CW.skip ?_
            refine KN.code ?_
            refine CW.seq ?_
            refine CW.seq ?_
            refine CW.reg [0] rfl ?_   -- 25, more.go:40
            refine s_as 21 rfl rfl ?_
            refine SX.next ?_
            refine CW.block ?_
            refine CW.loop (G := Nat) (fun i => [(3, .int .i64 ((lo (mkm 7 a0) a3) : Nat)), (10, .pointer (some ⟨g, 0, none⟩)), (12, .slice q59.1 (BL (mkm 7 a0) l1).c.length q59.2), (19, .slice q106.1 (BL (mkm 7 a0) (tabN l1.length (scF (fun k => gm (mkm 7 a0) (lo (mkm 7 a0) (l1.getD k 0)) (fpw (mkm 7 a0) (lo (mkm 7 a0) a3) k)) l1.length))).c.length q106.2), (21, .int .i64 (i : Nat))]) (fun _ => Sto w [own 3 1 q106.1 (BL (mkm 7 a0) (tabN l1.length (scF (fun k => gm (mkm 7 a0) (lo (mkm 7 a0) (l1.getD k 0)) (fpw (mkm 7 a0) (lo (mkm 7 a0) a3) k)) l1.length))).c.length q106.2 (nats .i64 (BL (mkm 7 a0) (tabN l1.length (scF (fun k => gm (mkm 7 a0) (lo (mkm 7 a0) (l1.getD k 0)) (fpw (mkm 7 a0) (lo (mkm 7 a0) a3) k)) l1.length))).c), own 3 1 q59.1 (BL (mkm 7 a0) l1).c.length q59.2 (nats .i64 (BL (mkm 7 a0) l1).c), fieldA g (mkm 7 a0)]) (fun i => i ≤ (BL (mkm 7 a0) (tabN l1.length (scF (fun k => gm (mkm 7 a0) (lo (mkm 7 a0) (l1.getD k 0)) (fpw (mkm 7 a0) (lo (mkm 7 a0) a3) k)) l1.length))).c.length) (fun i => (BL (mkm 7 a0) (tabN l1.length (scF (fun k => gm (mkm 7 a0) (lo (mkm 7 a0) (l1.getD k 0)) (fpw (mkm 7 a0) (lo (mkm 7 a0) a3) k)) l1.length))).c.length - i) 0 ⟨rfl, rfl, rfl, rfl, rfl, trivial⟩ (fun _ h => h.pick [0, 3, 3] rfl) (Nat.zero_le _) ?_
            intro i hi
            refine CW.seq ?_
            refine CW.seq ?_
            refine CW.reg [0, 1, 2, 3] rfl ?_   -- 26, more.go:40
            refine s_mv 133 rfl rfl ?_
            refine s_mv 134 rfl rfl ?_
            refine s_len 135 rfl rfl ?_
            refine s_lt 136 rfl rfl rfl rfl ?_
            refine SX.next ?_
            refine CW.test rfl (fun hc => ?_) (fun hc => ?_)
            · skip
              refine CW.skip ?_
              refine KN.code ?_
              refine CW.seq ?_
              refine CW.block ?_
              refine CW.seq ?_
              refine CW.regD (.st true 0 (.st true 1 (.st true 2 (.st true 3 (.st true 4 (.st true 5 (.st true 6 (.st true 7 (.st true 8 (.st true 9 (.st true 10 (.st true 11 (.st false 12 (.st false 13 (.st true 14 .done))))))))))))))) (Sto w [own 3 1 q106.1 (BL (mkm 7 a0) (tabN l1.length (scF (fun k => gm (mkm 7 a0) (lo (mkm 7 a0) (l1.getD k 0)) (fpw (mkm 7 a0) (lo (mkm 7 a0) a3) k)) l1.length))).c.length q106.2 (nats .i64 (BL (mkm 7 a0) (tabN l1.length (scF (fun k => gm (mkm 7 a0) (lo (mkm 7 a0) (l1.getD k 0)) (fpw (mkm 7 a0) (lo (mkm 7 a0) a3) k)) l1.length))).c), own 3 1 q59.1 (BL (mkm 7 a0) l1).c.length q59.2 (nats .i64 (BL (mkm 7 a0) l1).c), fieldA g (mkm 7 a0)]) mixed (by kernel_rfl) (fun _ h => h.drew) (fun _ h => h) ?_
              refine s_mv 139 rfl rfl ?_
              refine s_mv 140 rfl rfl ?_
              refine s_iaO 141 0 i rfl rfl rfl rfl rfl (by omega) ?_
              refine s_ldS 142 rfl rfl (fun _ h => h.ownCell (q := 0) rfl (natsAtC (by omega))) ?_
              refine s_mv 143 rfl rfl ?_
              refine s_mv 144 rfl rfl ?_
              refine s_mv 145 rfl rfl ?_
              refine s_iaO 146 1 i rfl rfl rfl rfl rfl (by omega) ?_
              refine s_ldS 147 rfl rfl (fun _ h => h.ownCell (q := 1) rfl (natsAtC (by omega))) ?_
              refine s_mv 148 rfl rfl ?_
              refine s_mv 149 rfl rfl ?_
              refine s_mv 150 rfl rfl ?_
              refine s_call1 151 rfl rfl rfl rfl (fun w hw => powE g (mkm 7 a0) (lo (mkm 7 a0) a3) i e w hm (hw.has (i := 2) rfl) (hw.er hz) hbl) (fun _ h => h) ?_
              refine s_call1 152 rfl rfl rfl rfl (fun w hw => by have := mulS g (mkm 7 a0) (cf (BL (mkm 7 a0) l1).c i : Nat) (fpw (mkm 7 a0) (lo (mkm 7 a0) a3) i) w hm (hw.has (i := 2) rfl) (hfl i); rw [lo_nat ((tr_BL hm l1).c i), ← hyc] at this; exact this) (fun _ h => h) ?_
              refine s_ne 153 rfl rfl rfl (decide_eq_false (fun h => h rfl)) ?_
              refine SX.next ?_
              refine CW.condF rfl ?_
              refine CW.skip ?_
              refine KN.blk ?_
              refine KN.code ?_
              refine CW.reg [0, 1, 2] rfl ?_   -- 27, more.go:40
              refine s_mv 137 rfl rfl ?_
              refine s_add 138 rfl rfl rfl (r := ((i + 1 : Nat) : Int)) (w64 (by omega)) ?_
              refine s_as 21 rfl rfl ?_
              refine SX.end_ ?_
              exact KN.back (i + 1) ⟨rfl, rfl, rfl, rfl, rfl, trivial⟩ (fun _ h => h) (by omega) (by omega)
            · skip
              refine CW.exit rfl ?_
              refine KN.code ?_
              refine CW.seq ?_
              refine CW.reg [0] rfl ?_   -- 30, more.go:45
              refine s_as 8 rfl rfl ?_
              refine SX.next ?_
              refine CW.ret ?_
              exact KN.ret (rs := [.tmp 8]) Tryd.results9 rfl (fun w hw => ⟨rfl, hw.nothing⟩)
