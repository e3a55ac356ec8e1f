/- Texts that all walks share, as one. Conditions: each theorem tells its own. -/
import Derived.Test.YtompcfingkoldaaDoorGB
import Derived.Test.YtompcfingkoldaaDoorGD
import Derived.Test.YtompcfingkoldaaDoorGC
import Derived.Test.YtompcfingkoldaaDoorGA
section
/- The contracts of shaleref2's polynomials: they are those of package fieldpoly. Conditions: an m that may be; the lists are read where they lie. -/
namespace Go.Proofs.YtompcfingkoldaaDoor
open Go.Sx Go.Fm
set_option maxRecDepth 100000
theorem _root_.Go.Sx.St.ownCut {F : Nat → Prop} {w₀ w : World} {L : List Atom} {q k E sz m c : Nat} {A : Option Addr} {xs : List Value} (hi : L[q]? = some (own E sz A m c xs)) (hk : k ≤ m) (h : St F w₀ L w) : St F w₀ (L.set q (own E sz A k c (xs.take (k * sz)))) w :=
  h.swap hi (fun _ D ⟨⟨h1, h2⟩, hD⟩ _ => ⟨D, ⟨⟨by rw [List.length_take, h1]; exact Nat.min_eq_left (Nat.mul_le_mul_right _ hk), by
    rcases h2 with ⟨h2, h3⟩ | ⟨g, cap, cur, hv, hb, hh, hc, hm, hs, ht⟩
    · injection h2 with h4 h5 h6
      exact .inl ⟨by rw [h4, h6, show k = 0 by omega], by omega⟩
    · injection hv with h4 h5 h6
      refine .inr ⟨g, cap, cur, by rw [h4, h6], hb, hh, by omega, hm, hs, ?_⟩
      rw [← ht, List.take_take, Nat.min_eq_left (Nat.mul_le_mul_right _ hk)]⟩, hD⟩, fun _ h => h⟩)

theorem lowL_take2 {m : Nat} {l : List Int} {i : Nat} (h : i < l.length) : (lowL m l).take (i + 1) = (lowL m l).take i ++ [lo m (l.getD i 0)] := by
  have e1 : (lowL m l).take (i + 1) = lowL m (l.take (i + 1)) := by simp [lowL, List.map_take]
  have e2 : (lowL m l).take i = lowL m (l.take i) := by simp [lowL, List.map_take]
  rw [e1, e2, lowL_take m l h]
theorem cf_take {a : List Nat} {k j : Nat} (h : j < k) : cf (a.take k) j = cf a j := by
  unfold cf
  simp only [List.getD_eq_getElem?_getD]
  rw [List.getElem?_take, if_pos h]

theorem rtrim_spec (m : Nat) (A : Option Addr) (n c : Nat) (l : List Int) (w : World) (hm : Ok m) (ha : Has (sl 1 A n (ints .i64 l)) w) (hn : n ≤ 4294967296) : SpecL Tryd.prog 201 [.int .i64 (m : Nat), .slice A n c] w (trim (lowL m l)) := by
  have hla := ints_len ha
  subst hla
  have hlen := lowL_len m l
  have htl := tl_le (lowL m l)
  refine spec_of Tryd.func201 rfl Tryd.ntmps201 rfl ?_
  refine CW.seq ?_
  refine CW.reg [0] rfl ?_   -- 0, field.go:104
  refine s_as 4 rfl rfl ?_
  refine SX.next ?_
  refine CW.seq ?_
  refine CW.reg [0] rfl ?_   -- 1, field.go:105
  refine s_as 5 rfl rfl ?_
  refine SX.next ?_
  refine CW.seq ?_
  refine CW.seq ?_
  refine CW.reg [0] rfl ?_   -- 2, field.go:106
  refine s_as 6 rfl rfl ?_
  refine SX.next ?_
  refine CW.block ?_
  refine CW.loop (G := Nat × Option Addr × Nat) (fun q => [(0, .int .i64 (m : Nat)), (1, .slice A l.length c), (5, .slice q.2.1 q.1 q.2.2), (6, .int .i64 (q.1 : Nat))]) (fun q => Sto w [own 3 1 q.2.1 q.1 q.2.2 (nats .i64 ((lowL m l).take q.1))]) (fun q => q.1 ≤ l.length ∧ q.1 ≤ q.2.2) (fun q => l.length - q.1) (0, none, 0) ⟨rfl, rfl, rfl, rfl, trivial⟩ (fun _ h => h.begin_ _ 1) ⟨Nat.zero_le _, Nat.le_refl _⟩ ?_
  intro q hq
  have hq0 := hq.1
  have hqc := hq.2
  refine CW.seq ?_
  refine CW.seq ?_
  refine CW.reg [0, 1, 2, 3] rfl ?_   -- 3, field.go:106
  refine s_mv 7 rfl rfl ?_
  refine s_mv 8 rfl rfl ?_
  refine s_len 9 rfl rfl ?_
  refine s_lt 10 rfl rfl rfl rfl ?_
  refine SX.next ?_
  refine CW.test rfl (fun hc => ?_) (fun hc => ?_)
  · skip
    refine CW.skip ?_
    refine KN.code ?_
    refine CW.seq ?_
    refine CW.block ?_
    refine CW.reg [0, 1, 2, 3, 4, 5, 6, 7, 8, 9] rfl ?_   -- 5, field.go:107
    refine s_mv 13 rfl rfl ?_
    refine s_mv 14 rfl rfl ?_
    refine s_mv 15 rfl rfl ?_
    refine s_mv 16 rfl rfl ?_
    refine s_iaV 17 q.1 (fun w hw => hw.old ha) rfl rfl rfl rfl (by omega) ?_
    refine s_ldV 18 (fun w hw => hw.old ha) rfl rfl (by rw [Nat.mul_one]; exact intsAt (by omega)) (by omega) ?_
    refine s_call1 19 rfl rfl rfl rfl (fun w hw => rlow_spec m _ _ hm) (fun _ _ => trivial) ?_
    refine s_bsl 20 rfl rfl (cells := #[.int .i64 (lo m (l.getD q.1 0) : Nat)]) (by kernel_rfl) rfl (fun _ _ => trivial) (fun gb => ?_)
    refine s_app 21 1 rfl rfl rfl rfl (ys := [.int .i64 (lo m (l.getD q.1 0) : Nat)]) (fun w hw => Has.cong ((hw.has (i := 0) rfl).blk_sl (m := 1) rfl) rfl) rfl rfl (by omega) (by unfold maxLen; omega) (by omega) (fun _ _ _ _ => trivial) (fun A2 c2 hc2 => ?_)
    refine s_as 5 rfl rfl ?_
    refine SX.end_ ?_
    refine KN.blk ?_
    refine KN.code ?_
    refine CW.reg [0, 1, 2] rfl ?_   -- 4, field.go:106
    refine s_mv 11 rfl rfl ?_
    refine s_add 12 rfl rfl rfl (r := ((q.1 + 1 : Nat) : Int)) (w64 (by omega)) ?_
    refine s_as 6 rfl rfl ?_
    refine SX.end_ ?_
    exact KN.back (q.1 + 1, A2, c2) ⟨rfl, rfl, rfl, rfl, trivial⟩ (fun _ h => by simp only; rw [lowL_take2 (by omega), ← nats_snoc]; exact h.pick [1] rfl) ⟨by simp only; omega, hc2⟩ (by simp only; omega)
  · skip
    have hqe : q.1 = l.length := by omega
    refine CW.exit rfl ?_
    refine KN.code ?_
    refine CW.seq ?_
    refine CW.block ?_
    refine CW.loop (G := Nat) (fun k => [(5, .slice q.2.1 k q.2.2)]) (fun k => Sto w [own 3 1 q.2.1 k q.2.2 (nats .i64 ((lowL m l).take k))]) (fun k => tl (lowL m l) ≤ k ∧ k ≤ l.length) (fun k => k) q.1 ⟨rfl, trivial⟩ (fun _ h => h) ⟨by omega, by omega⟩ ?_
    intro k hk0
    obtain ⟨hk1, hk2⟩ := hk0
    refine CW.seq ?_
    refine CW.seq ?_
    refine CW.reg [0, 1, 2, 3, 4, 5, 6, 7, 8, 9, 10, 11] rfl ?_   -- 6, field.go:109
    refine s_mv 22 rfl rfl ?_
    refine s_len 23 rfl rfl ?_
    refine s_gt 24 rfl rfl rfl rfl ?_
    refine s_mv 25 rfl rfl ?_
    refine SX.bool 25 rfl (fun hb => ?_) (fun hb => ?_)
    · skip
      replace hb := of_decide_eq_true hb
      refine s_mv 26 rfl rfl ?_
      refine s_mv 27 rfl rfl ?_
      refine s_len 28 rfl rfl ?_
      refine s_sub 29 rfl rfl rfl (r := ((k - 1 : Nat) : Int)) (by rw [show ((k : Nat) : Int) - 1 = ((k - 1 : Nat) : Int) by omega]; exact w64 (by omega)) ?_
      refine s_iaO 30 0 (k - 1) rfl rfl rfl rfl rfl (by omega) ?_
      refine s_ldO 31 0 rfl rfl rfl (v := .int .i64 (cf (lowL m l) (k - 1) : Nat)) (by rw [natsAtC (by rw [List.length_take]; omega), cf_take (by omega)]) ?_
      refine s_eq 32 rfl rfl rfl rfl ?_
      refine s_pickT 33 rfl rfl rfl ?_
      refine SX.next ?_
      refine CW.test rfl (fun hc => ?_) (fun hc => ?_)
      · skip
        have hk3 : tl (lowL m l) ≤ k - 1 := by
          by_cases h : tl (lowL m l) = k
          · have := cf_top (lowL m l) (by omega)
            rw [h] at this
            omega
          · omega
        refine CW.skip ?_
        refine KN.code ?_
        refine CW.block ?_
        refine CW.reg [0, 1, 2, 3, 4, 5] rfl ?_   -- 7, field.go:110
        refine s_mv 34 rfl rfl ?_
        refine s_mv 35 rfl rfl ?_
        refine s_len 36 rfl rfl ?_
        refine s_sub 37 rfl rfl rfl (r := ((k - 1 : Nat) : Int)) (by rw [show ((k : Nat) : Int) - 1 = ((k - 1 : Nat) : Int) by omega]; exact w64 (by omega)) ?_
        refine s_slH 38 (k - 1) rfl rfl rfl rfl (by omega) ?_
        refine SX.pre (fun _ h => h.ownCut (q := 0) (k := k - 1) rfl (by omega)) ?_
        refine s_as 5 rfl rfl ?_
        refine SX.end_ ?_
        refine KN.blk ?_
        exact KN.back (k - 1) ⟨rfl, trivial⟩ (fun _ h => by rw [nats_take, List.take_take, Nat.mul_one, Nat.min_eq_left (by omega)] at h; exact h) ⟨hk3, by omega⟩ (by omega)
      · skip
        have hk3 : k ≤ tl (lowL m l) := Nat.le_of_not_lt (fun h => hc (by rw [cf_hi (lowL m l) (k - 1) (by omega)]; rfl))
        have hE : (lowL m l).take k = trim (lowL m l) := by unfold trim; rw [show k = tl (lowL m l) by omega]
        have hk : (trim (lowL m l)).length = k := by rw [trim_length]; omega
        refine CW.exit rfl ?_
        refine KN.code ?_
        refine CW.seq ?_
        refine CW.reg [0, 1] rfl ?_   -- 8, field.go:112
        refine s_mv 39 rfl rfl ?_
        refine s_as 4 rfl rfl ?_
        refine SX.next ?_
        refine CW.ret ?_
        exact KN.ret (rs := [.tmp 4]) Tryd.results201 rfl (fun w hw => ⟨(q.2.1, q.2.2), by rw [hk]; rfl, by rw [hk]; show k ≤ q.2.2; omega, by rw [hk, ← hE]; exact hw⟩)
    · skip
      replace hb := of_decide_eq_false hb
      refine SX.skip rfl ?_
      refine SX.skip rfl ?_
      refine SX.skip rfl ?_
      refine SX.skip rfl ?_
      refine SX.skip rfl ?_
      refine SX.skip rfl ?_
      refine SX.skip rfl ?_
      refine s_pickF 33 rfl rfl rfl ?_
      refine SX.next ?_
      refine CW.condF rfl ?_
      refine CW.exit rfl ?_
      refine KN.code ?_
      refine CW.seq ?_
      have hE : (lowL m l).take k = trim (lowL m l) := by unfold trim; rw [show k = tl (lowL m l) by omega]
      have hk : (trim (lowL m l)).length = k := by rw [trim_length]; omega
      refine CW.reg [0, 1] rfl ?_   -- 8, field.go:112
      refine s_mv 39 rfl rfl ?_
      refine s_as 4 rfl rfl ?_
      refine SX.next ?_
      refine CW.ret ?_
      exact KN.ret (rs := [.tmp 4]) Tryd.results201 rfl (fun w hw => ⟨(q.2.1, q.2.2), by rw [hk]; rfl, by rw [hk]; show k ≤ q.2.2; omega, by rw [hk, ← hE]; exact hw⟩)

theorem rder_all {m : Nat} (l : List Int) : trim (lowL m (tab (l.length - 1) (fun j => if (j + 1) % 2 = 1 then l.getD (j + 1) 0 else 0))) = derP (lowL m l) := by
  rw [trim_tab]
  unfold derP
  refine pl_eq (fun j => ?_)
  rw [lowL_len, cf_low]
  split
  · split
    · rfl
    · exact lo_zero m
  · rfl

/-- The sum's coefficient, as the document's polynomials make it. -/
def raddV (l l2 : List Int) (j : Nat) : Int := if j < l2.length then ibit .xor .i64 (l.getD j 0) (l2.getD j 0) else l.getD j 0
def raddF (l l2 : List Int) (i j : Nat) : Int := if j < i then raddV l l2 j else 0
theorem getD_out {l : List Int} {j : Nat} (h : l.length ≤ j) : l.getD j 0 = 0 := by simp [List.getElem?_eq_none h]
theorem radd_all {m : Nat} (hm : Ok m) (l l2 : List Int) : trim (lowL m (tab (max l.length l2.length) (raddF l l2 (max l.length l2.length)))) = addP (lowL m l) (lowL m l2) := by
  rw [trim_tab]
  unfold addP
  refine pl_eq (fun j => ?_)
  rw [lowL_len, lowL_len, cf_low, cf_low]
  split
  · unfold raddF raddV
    rw [if_pos (by assumption)]
    split
    · exact lo_xor hm _ _
    · rw [getD_out (l := l2) (by omega), lo_zero, Nat.xor_zero]
  · rfl
theorem radd_next {l l2 : List Int} {i n : Nat} {F : Nat → Int} (h0 : ∀ j, j ≠ i → F j = raddF l l2 i j) (h : F i = raddV l l2 i) : tab n F = tab n (raddF l l2 (i + 1)) := by
  refine tab_cong (fun j _ => ?_)
  by_cases hj : j = i
  · subst hj
    rw [h]
    unfold raddF
    rw [if_pos (by omega)]
  · rw [h0 j hj]
    unfold raddF
    by_cases h2 : j < i
    · rw [if_pos h2, if_pos (by omega)]
    · rw [if_neg h2, if_neg (by omega)]

theorem mul_all2 {m : Nat} (hm : Ok m) {a b : List Nat} (ha : ∀ x ∈ a, x < 2 ^ m) : trim (lowL m (tab (a.length + b.length) (mulF m a b a.length 0))) = mulP m a b := by
  rw [← mul_all hm ha, trim_tab, trim_tab]
  refine pl_eq (fun j => ?_)
  by_cases h : j < a.length + b.length - 1
  · rw [if_pos h, if_pos (by omega)]
  · rw [if_neg h]
    split
    · have h0 : mulF m a b a.length 0 j = 0 := by
        unfold mulF
        rw [if_neg (by omega), Nat.xor_zero]
        rw [xs_zero (fun i hi => ?_)]
        · rfl
        · unfold rowF
          split
          · rw [cf_out (l := b) (by omega), gm_zero_right]
          · rfl
      rw [h0, lo_zero]
    · rfl
theorem rmulN {m : Nat} {w : World} {x y : Nat} (hm : Ok m) (hx : x < 2 ^ m) (hy : y < 2 ^ m) : Spec1 Tryd.prog 126 [.int .i64 (m : Nat), .int .i64 (x : Nat), .int .i64 (y : Nat)] w (.int .i64 (gm m x y : Nat)) := by
  have := rmul_spec m x y w hm; rw [lo_nat hx, lo_nat hy] at this; exact this

theorem rtimes_spec (m : Nat) (A : Option Addr) (n c : Nat) (l : List Int) (B : Option Addr) (k d : Nat) (l2 : List Int) (w : World) (hm : Ok m) (ha : Has (sl 1 A n (ints .i64 l)) w) (hb : Has (sl 1 B k (ints .i64 l2)) w) (hn : n ≤ 1073741824) (hk : k ≤ 1073741824) : SpecL Tryd.prog 188 [.int .i64 (m : Nat), .slice A n c, .slice B k d] w (mulP m (trim (lowL m l)) (trim (lowL m l2))) := by
  have hla := ints_len ha
  subst hla
  have hlb := ints_len hb
  subst hlb
  have hA := trimLow_lt m l
  have hB := trimLow_lt m l2
  have hta := trim_length (lowL m l)
  have htb := trim_length (lowL m l2)
  have hla1 := tl_le (lowL m l)
  have hlb1 := tl_le (lowL m l2)
  have hll1 := lowL_len m l
  have hll2 := lowL_len m l2
  generalize ea : trim (lowL m l) = a at *
  generalize eb : trim (lowL m l2) = b at *
  refine spec_of Tryd.func188 rfl Tryd.ntmps188 rfl ?_
  refine CW.seq ?_
  refine CW.reg [0] rfl ?_   -- 0, field.go:130
  refine s_as 6 rfl rfl ?_
  refine SX.next ?_
  refine CW.seq ?_
  refine CW.reg [0, 1, 2, 3] rfl ?_   -- 1, field.go:131
  refine s_mv 10 rfl rfl ?_
  refine s_mv 11 rfl rfl ?_
  refine s_call 12 rfl rfl rfl rfl (fun w hw => by have := rtrim_spec m A l.length c l w hm (hw.old ha) (by omega); rw [ea] at this; exact this) (fun _ _ => trivial) (fun q1 hq1 => ?_)
  refine s_as 1 rfl rfl ?_
  refine SX.next ?_
  refine CW.seq ?_
  refine CW.reg [0, 1, 2, 3] rfl ?_   -- 2, field.go:132
  refine s_mv 13 rfl rfl ?_
  refine s_mv 14 rfl rfl ?_
  refine s_call 15 rfl rfl rfl rfl (fun w hw => by have := rtrim_spec m B l2.length d l2 w hm (hw.old hb) (by omega); rw [eb] at this; exact this) (fun _ _ => trivial) (fun q2 hq2 => ?_)
  refine s_as 2 rfl rfl ?_
  refine SX.next ?_
  refine CW.seq ?_
  refine CW.reg [0, 1, 2, 3, 4, 5, 6] rfl ?_   -- 3, field.go:133
  refine s_mv 16 rfl rfl ?_
  refine s_len 17 rfl rfl ?_
  refine s_mv 18 rfl rfl ?_
  refine s_len 19 rfl rfl ?_
  refine s_add 20 rfl rfl rfl (r := (((a.length + b.length) : Nat) : Int)) (w64 (by omega)) ?_
  refine s_make 21 (a.length + b.length) rfl rfl rfl rfl rfl (by omega) (fun _ _ => trivial) (fun go => ?_)
  refine s_as 7 rfl rfl ?_
  refine SX.next ?_
  refine CW.seq ?_
  refine CW.seq ?_
  refine CW.reg [0] rfl ?_   -- 4, field.go:134
  refine s_as 8 rfl rfl ?_
  refine SX.next ?_
  refine CW.block ?_
  refine CW.loop (G := Nat) (fun i => [(0, .int .i64 (m : Nat)), (1, .slice q1.1 a.length q1.2), (2, .slice q2.1 b.length q2.2), (7, .slice (some ⟨go, 0, none⟩) (a.length + b.length) (a.length + b.length)), (8, .int .i64 (i : Nat))]) (fun i => Sto w [blk go 3 (ints .i64 (tab (a.length + b.length) (mulF m a b i 0))).toArray, own 3 1 q2.1 b.length q2.2 (nats .i64 b), own 3 1 q1.1 a.length q1.2 (nats .i64 a)]) (fun i => i ≤ a.length) (fun i => a.length - i) 0 ⟨rfl, rfl, rfl, rfl, rfl, trivial⟩ (fun _ h => by rw [show tab (a.length + b.length) (mulF m a b 0 0) = tab (a.length + b.length) (fun _ => 0) from tab_cong (fun j _ => mulF_zero m a b j), ← tab_zero]; exact h) (Nat.zero_le _) ?_
  intro i hi
  refine CW.seq ?_
  refine CW.seq ?_
  refine CW.reg [0, 1, 2, 3] rfl ?_   -- 5, field.go:134
  refine s_mv 22 rfl rfl ?_
  refine s_mv 23 rfl rfl ?_
  refine s_len 24 rfl rfl ?_
  refine s_lt 25 rfl rfl rfl rfl ?_
  refine SX.next ?_
  refine CW.test rfl (fun hc => ?_) (fun hc => ?_)
  · skip
    refine CW.skip ?_
    refine KN.code ?_
    refine CW.seq ?_
    refine CW.block ?_
    refine CW.seq ?_
    refine CW.reg [0] rfl ?_   -- 7, field.go:135
    refine s_as 9 rfl rfl ?_
    refine SX.next ?_
    refine CW.block ?_
    refine CW.loop (G := Nat) (fun k => [(0, .int .i64 (m : Nat)), (1, .slice q1.1 a.length q1.2), (2, .slice q2.1 b.length q2.2), (7, .slice (some ⟨go, 0, none⟩) (a.length + b.length) (a.length + b.length)), (8, .int .i64 (i : Nat)), (9, .int .i64 (k : Nat))]) (fun k => Sto w [blk go 3 (ints .i64 (tab (a.length + b.length) (mulF m a b i k))).toArray, own 3 1 q2.1 b.length q2.2 (nats .i64 b), own 3 1 q1.1 a.length q1.2 (nats .i64 a)]) (fun k => k ≤ b.length) (fun k => b.length - k) 0 ⟨rfl, rfl, rfl, rfl, rfl, rfl, trivial⟩ (fun _ h => h) (Nat.zero_le _) ?_
    intro k hk2
    refine CW.seq ?_
    refine CW.seq ?_
    refine CW.reg [0, 1, 2, 3] rfl ?_   -- 8, field.go:135
    refine s_mv 28 rfl rfl ?_
    refine s_mv 29 rfl rfl ?_
    refine s_len 30 rfl rfl ?_
    refine s_lt 31 rfl rfl rfl rfl ?_
    refine SX.next ?_
    refine CW.test rfl (fun hc => ?_) (fun hc => ?_)
    · skip
      refine CW.skip ?_
      refine KN.code ?_
      refine CW.seq ?_
      refine CW.block ?_
      refine CW.regD (.st true 0 (.st true 1 (.st true 2 (.st true 3 (.st true 4 (.st true 5 (.st true 6 (.st true 7 (.st true 8 (.st true 10 (.st true 11 (.st true 12 (.st true 13 (.st true 14 (.st true 15 (.st true 16 (.st true 17 (.st true 18 (.alt 9 (.st false 19 (.st true 20 (.st true 21 (.st false 22 .done)))) (.st false 19 (.st false 9 (.st true 20 (.st true 21 (.st false 22 .done)))))))))))))))))))))))) (Sto w [own 3 1 q2.1 b.length q2.2 (nats .i64 b), own 3 1 q1.1 a.length q1.2 (nats .i64 a)]) mixed (by kernel_rfl) (fun _ h => h.drew) (fun _ h => h.pick [1, 1] rfl) ?_
      refine s_mv 34 rfl rfl ?_
      refine s_mv 35 rfl rfl ?_
      refine s_mv 36 rfl rfl ?_
      refine s_add 37 rfl rfl rfl (r := ((i + k : Nat) : Int)) (w64 (by omega)) ?_
      refine s_mv 38 rfl rfl ?_
      refine s_mv 39 rfl rfl ?_
      refine s_mv 40 rfl rfl ?_
      refine s_add 41 rfl rfl rfl (r := ((i + k : Nat) : Int)) (w64 (by omega)) ?_
      refine s_ia0 42 (i + k) rfl rfl rfl rfl (by omega) ?_
      refine s_mv 44 rfl rfl ?_
      refine s_mv 45 rfl rfl ?_
      refine s_mv 46 rfl rfl ?_
      refine s_iaO 47 2 i rfl rfl rfl rfl rfl (by omega) ?_
      refine s_ldS 48 rfl rfl (fun _ h => h.ownCell (q := 1) rfl (natsAtC (by omega))) ?_
      refine s_mv 49 rfl rfl ?_
      refine s_mv 50 rfl rfl ?_
      refine s_iaO 51 1 k rfl rfl rfl rfl rfl (by omega) ?_
      refine s_ldS 52 rfl rfl (fun _ h => h.ownCell (q := 0) rfl (natsAtC (by omega))) ?_
      refine SX.alt ?_ ?_
      · skip
        refine s_ldB 43 0 rfl rfl rfl (tab_atA (by omega)) ?_
        refine s_call1 53 rfl rfl rfl rfl (fun w hw => rmulN hm (cf_lt hA (Nat.two_pow_pos m) i) (cf_lt hB (Nat.two_pow_pos m) k)) (fun _ h => h.pick [1, 1] rfl) ?_
        refine s_bit 54 rfl rfl rfl rfl rfl ?_
        refine s_ia0 55 (i + k) rfl rfl rfl rfl (by omega) ?_
        refine s_stB 0 rfl rfl rfl rfl rfl (by rw [tab_size]; omega) (fun _ h => h.pick [1, 1] rfl) ?_
        refine SX.end_ ?_
        refine KN.blk ?_
        refine KN.code ?_
        refine CW.reg [0, 1, 2] rfl ?_   -- 9, field.go:135
        refine s_mv 32 rfl rfl ?_
        refine s_add 33 rfl rfl rfl (r := ((k + 1 : Nat) : Int)) (w64 (by omega)) ?_
        refine s_as 9 rfl rfl ?_
        refine SX.end_ ?_
        exact KN.back (k + 1) ⟨rfl, rfl, rfl, rfl, rfl, rfl, trivial⟩ (fun _ h => by rw [← mulF_next hm hA, ← tab_set]; exact h) (by omega) (by omega)
      · skip
        refine s_call1 53 rfl rfl rfl rfl (fun w hw => rmulN hm (cf_lt hA (Nat.two_pow_pos m) i) (cf_lt hB (Nat.two_pow_pos m) k)) (fun _ h => h.pick [1, 1] rfl) ?_
        refine s_ldB 43 0 rfl rfl rfl (tab_atA (by omega)) ?_
        refine s_bit 54 rfl rfl rfl rfl rfl ?_
        refine s_ia0 55 (i + k) rfl rfl rfl rfl (by omega) ?_
        refine s_stB 0 rfl rfl rfl rfl rfl (by rw [tab_size]; omega) (fun _ h => h.pick [1, 1] rfl) ?_
        refine SX.end_ ?_
        refine KN.blk ?_
        refine KN.code ?_
        refine CW.reg [0, 1, 2] rfl ?_   -- 9, field.go:135
        refine s_mv 32 rfl rfl ?_
        refine s_add 33 rfl rfl rfl (r := ((k + 1 : Nat) : Int)) (w64 (by omega)) ?_
        refine s_as 9 rfl rfl ?_
        refine SX.end_ ?_
        exact KN.back (k + 1) ⟨rfl, rfl, rfl, rfl, rfl, rfl, trivial⟩ (fun _ h => by rw [← mulF_next hm hA, ← tab_set]; exact h) (by omega) (by omega)
    · skip
      obtain rfl : k = b.length := by omega
      refine CW.exit rfl ?_
      refine KN.blk ?_
      refine KN.code ?_
      refine CW.reg [0, 1, 2] rfl ?_   -- 6, field.go:134
      refine s_mv 26 rfl rfl ?_
      refine s_add 27 rfl rfl rfl (r := ((i + 1 : Nat) : Int)) (w64 (by omega)) ?_
      refine s_as 8 rfl rfl ?_
      refine SX.end_ ?_
      exact KN.back (i + 1) ⟨rfl, rfl, rfl, rfl, rfl, trivial⟩ (fun _ h => by rw [← tab_cong (fun j _ => mulF_row m a b i b.length (Nat.le_refl _) j)]; exact h) (by omega) (by omega)
  · skip
    obtain rfl : i = a.length := by omega
    refine CW.exit rfl ?_
    refine KN.code ?_
    refine CW.seq ?_
    refine CW.reg [0, 1, 2, 3] rfl ?_   -- 11, field.go:139
    refine s_mv 56 rfl rfl ?_
    refine s_mv 57 rfl rfl ?_
    refine s_call 58 rfl rfl rfl rfl (fun w hw => by have := rtrim_spec m (some ⟨go, 0, none⟩) (a.length + b.length) (a.length + b.length) (tab (a.length + b.length) (mulF m a b a.length 0)) w hm (Has.cong ((hw.has (i := 0) rfl).blk_sl (m := (a.length + b.length)) (by exact tab_size.trans (Nat.mul_one _).symm)) rfl) (by omega); rw [mul_all2 hm hA] at this; exact this) (fun _ _ => trivial) (fun q3 hq3 => ?_)
    refine s_as 6 rfl rfl ?_
    refine SX.next ?_
    refine CW.ret ?_
    exact KN.ret (rs := [.tmp 6]) Tryd.results188 rfl (fun w hw => ⟨q3, rfl, hq3, hw.pick [0] rfl⟩)

/-! ### Quotients -/
/-- What the document's division keeps. -/
structure DivR (m : Nat) (a b : List Nat) (q : List Nat × (Nat → Nat) × (Option Addr × Nat)) : Prop where
  tr : Tr m q.1
  le : q.1.length ≤ a.length
  lt : ∀ j, q.2.1 j < 2 ^ m
  lo : ∀ j, j + b.length ≤ q.1.length → q.2.1 j = 0
  hi : ∀ j, a.length < j + b.length → q.2.1 j = 0
  eq : ∀ j, cv m q.2.1 (cf b) j ^^^ cf q.1 j = cf a j
theorem divR_start (m : Nat) {a : List Nat} (ha : Tr m a) (b : List Nat) (A : Option Addr × Nat) : DivR m a b (a, fun _ => 0, A) :=
  ⟨ha, Nat.le_refl _, fun _ => Nat.two_pow_pos m, fun _ _ => rfl, fun _ _ => rfl, fun j => by simp only; rw [cv_zero, Nat.zero_xor]⟩
theorem cf_rep (s : Nat) (x : List Nat) (j : Nat) : cf (List.replicate s 0 ++ x) j = if j < s then 0 else cf x (j - s) := by
  unfold cf
  simp only [List.getD_eq_getElem?_getD]
  split
  · rw [List.getElem?_append_left (by simpa using by assumption)]
    rw [List.getElem?_replicate]
    split <;> rfl
  · rw [List.getElem?_append_right (by simp; omega)]
    simp
theorem DivR.next {m : Nat} (hm : Ok m) {a b a1 : List Nat} {Q : Nat → Nat} {A A2 : Option Addr × Nat} (h : DivR m a b (a1, Q, A)) (hb : Tr m b) (hb0 : b.length ≠ 0) (hl : b.length ≤ a1.length) :
    DivR m a b (addP a1 (List.replicate (a1.length - b.length) 0 ++ scaleP m b (gm m (cf a1 (a1.length - 1)) (inv m (cf b (b.length - 1))))), fun j => if j = a1.length - b.length then gm m (cf a1 (a1.length - 1)) (inv m (cf b (b.length - 1))) else Q j, A2) ∧
    (addP a1 (List.replicate (a1.length - b.length) 0 ++ scaleP m b (gm m (cf a1 (a1.length - 1)) (inv m (cf b (b.length - 1)))))).length < a1.length := by
  obtain ⟨h1, h2, h3, h4, h5, h6⟩ := h
  simp only at h1 h2 h3 h4 h5 h6
  have hc : gm m (cf a1 (a1.length - 1)) (inv m (cf b (b.length - 1))) < 2 ^ m := gm_lt hm (h1.c _) _
  have hdiv := gm_div hm (h1.c (a1.length - 1)) (hb.c (b.length - 1)) (hb.top hb0)
  generalize gm m (cf a1 (a1.length - 1)) (inv m (cf b (b.length - 1))) = c at *
  generalize hs : a1.length - b.length = s at *
  have hX : ∀ j, cf (addP a1 (List.replicate s 0 ++ scaleP m b c)) j = cf a1 j ^^^ (if s ≤ j then gm m c (cf b (j - s)) else 0) := fun j => by
    rw [cf_addP, cf_rep]
    congr 1
    by_cases h : j < s
    · rw [if_pos h, if_neg (by omega)]
    · rw [if_neg h, if_pos (by omega), cf_scaleP, gm_comm hm (hb.c _) hc]
  have hsc := (scaleP_tr hm hb c).lt
  have htr : Tr m (addP a1 (List.replicate s 0 ++ scaleP m b c)) := pl_tr (fun j => xor_lt (h1.c j) (cf_lt (fun x hx => by
    rcases List.mem_append.1 hx with hx | hx
    · rw [(List.mem_replicate.1 hx).2]; exact Nat.two_pow_pos m
    · exact hsc x hx) (Nat.two_pow_pos m) j))
  have hlen : (addP a1 (List.replicate s 0 ++ scaleP m b c)).length ≤ a1.length - 1 := len_le_of htr (fun j hj => by
    rw [hX, if_pos (by omega)]
    by_cases he : j = a1.length - 1
    · subst he
      rw [show a1.length - 1 - s = b.length - 1 by omega, hdiv, Nat.xor_self]
    · rw [cf_out (l := a1) (by omega), cf_out (l := b) (by omega), gm_zero_right]
      rfl)
  refine ⟨⟨htr, by simp only; omega, fun j => by simp only; split; exact hc; exact h3 j, fun j hj => ?_, fun j hj => ?_, fun j => ?_⟩, by omega⟩
  · simp only at hj ⊢
    rw [if_neg (by omega)]
    exact h4 j (by omega)
  · simp only at hj ⊢
    rw [if_neg (by omega)]
    exact h5 j hj
  · simp only
    have e : cv m (fun j => if j = s then c else Q j) (cf b) j = cv m (fun i => (if i = s then c else 0) ^^^ Q i) (cf b) j := cv_congr (fun i _ => by
      by_cases h : i = s
      · rw [if_pos h, if_pos h, h4 i (by omega), Nat.xor_zero]
      · rw [if_neg h, if_neg h, Nat.zero_xor]) (fun _ _ => rfl)
    rw [e, cv_add_left hm (fun i => by split; exact hc; exact Nat.two_pow_pos m) h3, cv_one, hX]
    generalize (if s ≤ j then gm m c (cf b (j - s)) else 0) = z
    rw [← h6 j, Nat.xor_comm (cf a1 j) z, Nat.xor_comm z (cv m Q (cf b) j), Nat.xor_assoc, xcc]
theorem DivR.done {m : Nat} (hm : Ok m) {a b a1 : List Nat} {Q : Nat → Nat} {A : Option Addr × Nat} (h : DivR m a b (a1, Q, A)) (ha : Tr m a) (hb : Tr m b) (hb0 : b.length ≠ 0) (hl : a1.length < b.length) :
    trim (lowL m (tabN (a.length + 1) Q)) = quotP m a b ∧ a1 = restP m a b := by
  obtain ⟨h1, h2, h3, h4, h5, h6⟩ := h
  simp only at h1 h2 h3 h4 h5 h6
  rw [trim_tabN h3]
  have hq : Tr m (pl (a.length + 1) Q) := pl_tr h3
  refine div_uniq hm ha hb hb0 hq h1 hl ((addP_tr hm (mulP_tr hm hq hb) h1).ext ha (fun j => ?_))
  rw [cf_addP, cf_mulP, ← h6 j]
  congr 1
  refine cv_congr (fun i _ => ?_) (fun _ _ => rfl)
  rw [cf_pl]
  split
  · rfl
  · exact (h5 i (by omega)).symm
abbrev SpecL2 (P : Program) (f : FuncId) (args : List Value) (w : World) (E G : List Nat) : Prop :=
  SpecX P f args w (X := (Option Addr × Nat) × (Option Addr × Nat)) (fun q => two (.slice q.1.1 E.length q.1.2) (.slice q.2.1 G.length q.2.2)) (fun q => E.length ≤ q.1.2)
    (fun q => [own 3 1 q.1.1 E.length q.1.2 (nats .i64 E), own 3 1 q.2.1 G.length q.2.2 (nats .i64 G)])
theorem nats_rep (k : IntKind) (s : Nat) : List.replicate s (.int k 0) = nats k (List.replicate s 0) := by simp [nats]

/-! ### Divisors and roots -/
/-- What the common divisor's loop keeps. -/
structure GcdR (m : Nat) (a b : List Nat) (q : List Nat × List Nat × (Option Addr × Nat) × (Option Addr × Nat)) : Prop where
  h1 : Tr m q.1
  h2 : Tr m q.2.1
  l1 : q.1.length ≤ 1073741824
  l2 : q.2.1.length ≤ 1073741824
  eq : gcdE m q.1 q.2.1 = gcdE m a b
theorem lowL_one {m : Nat} {x : Nat} (h : x < 2 ^ m) : lowL m [((x : Nat) : Int)] = [x] := congrArg (fun z => [z]) (lo_nat h)
end Go.Proofs.YtompcfingkoldaaDoor
end
section
/- The document's bits, products of bits, minimal polynomials, walked. Conditions: an m that may be; the lists are read where they lie. -/
namespace Go.Proofs.YtompcfingkoldaaDoor
open Go Go.Sx Go.Fm Nb
set_option maxRecDepth 100000
theorem tr_len_le2 {m : Nat} {a : List Nat} (h : Tr m a) {n : Nat} (hz : ∀ j, n ≤ j → cf a j = 0) : a.length ≤ n := Nat.le_of_not_lt fun hl => h.top (by omega) (hz _ (by omega))
theorem mulF_skip {a b : List Nat} {i : Nat} (h : cf a i = 0) (j : Nat) : mulF 3 a b i 0 j = mulF 3 a b (i + 1) 0 j := by
  rw [← mulF_row 3 a b i b.length (Nat.le_refl _) j]
  unfold mulF
  rw [h, gm_zero_left, ite_self, ite_self]
theorem mul_bits {a b : List Nat} (ha : B1 a) (hb : B1 b) : nzP (tab (a.length + b.length - 1) (mulF 3 a b a.length 0)) (tab (a.length + b.length - 1) (mulF 3 a b a.length 0)).length = mulP 3 a b := by
  have hm := mulP_b1 ha hb
  refine (nzP_b1 _ _).tr.ext hm.tr (fun j => ?_)
  have h1 := mul_all ok3 (a := a) (b := b) ha.tr.lt
  have h2 : cf (mulP 3 a b) j = lo 3 ((tab (a.length + b.length - 1) (mulF 3 a b a.length 0)).getD j 0) := by
    rw [← h1, cf_trim]; exact cf_low _ _ _
  have h3 := hm.le j
  rw [cf_nzP, tab_len]
  rw [tab_getD] at h2
  split
  · rename_i hj
    rw [if_pos hj] at h2
    obtain ⟨z, hz, e⟩ := mulF_bd ok3 (b := b) ha.tr.lt a.length 0 j
    rw [e, lo_nat hz] at h2
    unfold nzF
    rw [tab_getD, if_pos hj, e, h2]
    split <;> omega
  · rename_i hj
    rw [if_neg hj, lo_zero] at h2
    rw [h2]

theorem rbit_spec (A : Option Addr) (n c : Nat) (p : List Nat) (i : Int) (w : World) (ha : Has (sl 1 A n (nats .u8 p)) w) (hp : ∀ x ∈ p, x < 256) (hn : n ≤ 1073741824) (hcp : n ≤ c) (hi : i ≤ 9223372036854775807) : Spec1 Tryd.prog 144 [.slice A n c, .int .i64 i] w (.int .i64 (bitI p i : Nat)) := by
  have hla := nats_len ha
  subst hla
  have hbi := bitI_lt p i
  refine spec_of Tryd.func144 rfl Tryd.ntmps144 rfl ?_
  refine CW.seq ?_
  refine CW.reg [0] rfl ?_   -- 0, binpoly.go:4
  refine s_as 4 rfl rfl ?_
  refine SX.next ?_
  refine CW.seq ?_
  refine CW.seq ?_
  refine CW.reg [0, 1, 2, 3, 4, 5, 6, 7, 8] rfl ?_   -- 1, binpoly.go:5
  refine s_mv 5 rfl rfl ?_
  refine s_lt 6 rfl rfl rfl rfl ?_
  refine s_mv 7 rfl rfl ?_
  refine SX.bool 7 rfl (fun hb => ?_) (fun hb => ?_)
  · skip
    replace hb := of_decide_eq_true hb
    have hz : bitI p i = 0 := if_pos hb
    refine SX.skip rfl ?_
    refine SX.skip rfl ?_
    refine SX.skip rfl ?_
    refine SX.skip rfl ?_
    refine SX.skip rfl ?_
    refine s_pickT 13 rfl rfl rfl ?_
    refine SX.next ?_
    refine CW.condT rfl ?_
    refine CW.seq ?_
    refine CW.reg [0] rfl ?_   -- 2, binpoly.go:6
    refine s_as 4 rfl rfl ?_
    refine SX.next ?_
    refine CW.ret ?_
    exact KN.ret (rs := [.tmp 4]) Tryd.results144 rfl (fun w hw => ⟨by rw [hz]; rfl, hw.nothing⟩)
  · skip
    replace hb := of_decide_eq_false hb
    obtain ⟨j, rfl⟩ := Int.eq_ofNat_of_zero_le (show 0 ≤ i by omega)
    have hbj := bitI_nat p j
    refine s_mv 8 rfl rfl ?_
    refine s_quo 9 rfl rfl rfl (by omega) (quo8 j (by omega)) ?_
    refine s_mv 10 rfl rfl ?_
    refine s_len 11 rfl rfl ?_
    refine s_ge 12 rfl rfl rfl rfl ?_
    refine s_pickF 13 rfl rfl rfl ?_
    refine SX.next ?_
    refine CW.test rfl (fun hc2 => ?_) (fun hc2 => ?_)
    · skip
      have hz : bitI p j = 0 := by rw [hbj]; exact bitN_out (by omega)
      refine CW.seq ?_
      refine CW.reg [0] rfl ?_   -- 2, binpoly.go:6
      refine s_as 4 rfl rfl ?_
      refine SX.next ?_
      refine CW.ret ?_
      exact KN.ret (rs := [.tmp 4]) Tryd.results144 rfl (fun w hw => ⟨by rw [hz]; rfl, hw.nothing⟩)
    · skip
      refine CW.skip ?_
      refine KN.code ?_
      refine CW.seq ?_
      refine CW.reg [0, 1, 2, 3, 4, 5, 6, 7, 8, 9, 10, 11] rfl ?_   -- 3, binpoly.go:8
      refine s_mv 14 rfl rfl ?_
      refine s_mv 15 rfl rfl ?_
      refine s_quo 16 rfl rfl rfl (by omega) (quo8 j (by omega)) ?_
      refine s_iaV 17 (j / 8) (fun w hw => hw.old ha) rfl rfl rfl rfl (by omega) ?_
      refine s_ldV 18 (fun w hw => hw.old ha) rfl rfl (by rw [Nat.mul_one]; exact natsAt8 (by omega)) (by omega) ?_
      refine s_mv 19 rfl rfl ?_
      refine s_rem 20 rfl rfl rfl (by omega) (tmod8 j) ?_
      refine s_conv 21 rfl rfl (r := ((j % 8 : Nat) : Int)) (wu64 (by omega)) ?_
      refine s_shr 22 rfl rfl rfl (by omega) (shr_u8 (by omega)) ?_
      have hsh := Nat.lt_of_le_of_lt (Nat.shiftRight_le (cf p (j / 8)) (j % 8)) (cf_lt8 hp (j / 8))
      refine s_conv 23 rfl rfl (r := ((cf p (j / 8) >>> (j % 8) : Nat) : Int)) (by generalize cf p (j / 8) >>> (j % 8) = z at hsh ⊢; exact w64 (by omega)) ?_
      refine s_bit 24 rfl rfl rfl rfl (r := ((bitI p j : Nat) : Int)) (by rw [hbj]; exact ibit_and_one (Nat.lt_trans hsh (by decide))) ?_
      refine s_as 4 rfl rfl ?_
      refine SX.next ?_
      refine CW.ret ?_
      exact KN.ret (rs := [.tmp 4]) Tryd.results144 rfl (fun w hw => ⟨rfl, hw.nothing⟩)

theorem rBit_spec (A : Option Addr) (n c : Nat) (p : List Nat) (i : Int) (w : World) (ha : Has (sl 1 A n (nats .u8 p)) w) (hp : ∀ x ∈ p, x < 256) (hn : n ≤ 1073741824) (hcp : n ≤ c) (hi : i ≤ 9223372036854775807) : Spec1 Tryd.prog 74 [.slice A n c, .int .i64 i] w (.int .i64 (bitI p i : Nat)) := by
  refine spec_of Tryd.func74 rfl Tryd.ntmps74 rfl ?_
  refine CW.seq ?_
  refine CW.reg [0] rfl ?_   -- 0, binpoly.go:12
  refine s_as 4 rfl rfl ?_
  refine SX.next ?_
  refine CW.seq ?_
  refine CW.reg [0, 1, 2, 3] rfl ?_   -- 1, binpoly.go:12
  refine s_mv 5 rfl rfl ?_
  refine s_mv 6 rfl rfl ?_
  refine s_call1 7 rfl rfl rfl rfl (fun w hw => rbit_spec A n c p i w (hw.old ha) hp hn hcp hi) (fun _ _ => trivial) ?_
  refine s_as 4 rfl rfl ?_
  refine SX.next ?_
  refine CW.ret ?_
  exact KN.ret (rs := [.tmp 4]) Tryd.results74 rfl (fun w hw => ⟨rfl, hw.nothing⟩)

theorem rdeg_spec (A : Option Addr) (n c : Nat) (p : List Nat) (w : World) (ha : Has (sl 1 A n (nats .u8 p)) w) (hp : ∀ x ∈ p, x < 256) (hn : n ≤ 1073741824) (hcp : n ≤ c) : Spec1 Tryd.prog 72 [.slice A n c] w (.int .i64 (((bl p).length : Nat) - 1 : Int)) := by
  have hla := nats_len ha
  subst hla
  have hbl := bl_len p
  have hbt := (bl_b1 p).tr
  refine spec_of Tryd.func72 rfl Tryd.ntmps72 rfl ?_
  refine CW.seq ?_
  refine CW.reg [0] rfl ?_   -- 0, binpoly.go:15
  refine s_as 2 rfl rfl ?_
  refine SX.next ?_
  refine CW.seq ?_
  refine CW.seq ?_
  refine CW.reg [0, 1, 2, 3, 4] rfl ?_   -- 1, binpoly.go:16
  refine s_mv 4 rfl rfl ?_
  refine s_len 5 rfl rfl ?_
  refine s_mul 6 rfl rfl rfl (r := ((8 * p.length : Nat) : Int)) (by rw [show (8 : Int) * ((p.length : Nat) : Int) = ((8 * p.length : Nat) : Int) by omega]; exact w64 (by omega)) ?_
  refine s_sub 7 rfl rfl rfl (r := ((8 * p.length : Nat) : Int) - 1) (w64 (by omega)) ?_
  refine s_as 3 rfl rfl ?_
  refine SX.next ?_
  refine CW.block ?_
  refine CW.loop (G := Nat) (fun k => [(0, .slice A p.length c), (3, .int .i64 ((k : Nat) - 1))]) (fun _ => Sto w []) (fun k => k ≤ 8 * p.length ∧ ∀ j, k ≤ j → cf (bl p) j = 0) (fun k => k) (8 * p.length) ⟨rfl, rfl, trivial⟩ (fun _ h => h) ⟨Nat.le_refl _, fun j hj => cf_out (by omega)⟩ ?_
  intro k hk0
  obtain ⟨hk1, hk2⟩ := hk0
  refine CW.seq ?_
  refine CW.seq ?_
  refine CW.reg [0, 1] rfl ?_   -- 2, binpoly.go:16
  refine s_mv 8 rfl rfl ?_
  refine s_ge 9 rfl rfl rfl rfl ?_
  refine SX.next ?_
  refine CW.test rfl (fun hc => ?_) (fun hc => ?_)
  · skip
    refine CW.skip ?_
    refine KN.code ?_
    refine CW.seq ?_
    refine CW.block ?_
    refine CW.seq ?_
    refine CW.reg [0, 1, 2, 3] rfl ?_   -- 4, binpoly.go:17
    refine s_mv 12 rfl rfl ?_
    refine s_mv 13 rfl rfl ?_
    refine s_call1 14 rfl rfl rfl rfl (v := .int .i64 (cf (bl p) (k - 1) : Nat)) (fun w hw => by have := rbit_spec A p.length c p (k - 1 : Nat) w (hw.old ha) hp hn hcp (by omega); rw [bitI_nat, ← cf_bl, show ((k - 1 : Nat) : Int) = (k : Nat) - 1 by omega] at this; exact this) (fun _ _ => trivial) ?_
    refine s_eq 15 rfl rfl rfl rfl ?_
    refine SX.next ?_
    refine CW.test rfl (fun hc => ?_) (fun hc => ?_)
    · skip
      have hd : (bl p).length = k := Nat.le_antisymm (tr_len_le2 hbt hk2) (Nat.le_of_not_lt fun h => by have := cf_out (l := bl p) (j := k - 1) (by omega); omega)
      refine CW.seq ?_
      refine CW.reg [0, 1] rfl ?_   -- 5, binpoly.go:18
      refine s_mv 16 rfl rfl ?_
      refine s_as 2 rfl rfl ?_
      refine SX.next ?_
      refine CW.ret ?_
      exact KN.ret (rs := [.tmp 2]) Tryd.results72 rfl (fun w hw => ⟨by rw [hd]; rfl, hw.nothing⟩)
    · skip
      refine CW.skip ?_
      refine KN.blk ?_
      refine KN.code ?_
      refine CW.reg [0, 1, 2] rfl ?_   -- 3, binpoly.go:16
      refine s_mv 10 rfl rfl ?_
      refine s_sub 11 rfl rfl rfl (r := ((k - 1 : Nat) : Int) - 1) (by rw [show ((k : Nat) : Int) - 1 - 1 = ((k - 1 : Nat) : Int) - 1 by omega]; exact w64 (by omega)) ?_
      refine s_as 3 rfl rfl ?_
      refine SX.end_ ?_
      exact KN.back (k - 1) ⟨rfl, rfl, trivial⟩ (fun _ h => h) ⟨by omega, fun j hj => by
  by_cases h : j = k - 1
  · subst h; have := (bl_b1 p).le (k - 1); omega
  · exact hk2 j (by omega)⟩ (by omega)
  · skip
    have hd : (bl p).length = 0 := Nat.le_zero.1 (tr_len_le2 hbt (fun j _ => hk2 j (by omega)))
    refine CW.exit rfl ?_
    refine KN.code ?_
    refine CW.seq ?_
    refine CW.reg [0] rfl ?_   -- 6, binpoly.go:21
    refine s_as 2 rfl rfl ?_
    refine SX.next ?_
    refine CW.ret ?_
    exact KN.ret (rs := [.tmp 2]) Tryd.results72 rfl (fun w hw => ⟨by rw [hd]; rfl, hw.nothing⟩)

theorem rbinmul_spec (A : Option Addr) (n c : Nat) (p : List Nat) (A2 : Option Addr) (n2 c2 : Nat) (p2 : List Nat) (w : World) (ha : Has (sl 1 A n (nats .u8 p)) w) (hp : ∀ x ∈ p, x < 256) (hn : n ≤ 1073741824) (hcp : n ≤ c) (ha2 : Has (sl 1 A2 n2 (nats .u8 p2)) w) (hp2 : ∀ x ∈ p2, x < 256) (hn2 : n2 ≤ 1073741824) (hcp2 : n2 ≤ c2) (hsz : (bl p).length + (bl p2).length ≤ 1000000) : SpecB Tryd.prog 79 [.slice A n c, .slice A2 n2 c2] w (bys (mulP 3 (bl p) (bl p2))) := by
  have hla := nats_len ha
  subst hla
  have hla2 := nats_len ha2
  subst hla2
  have hA := bl_b1 p
  have hB := bl_b1 p2
  have hdp := rdeg_spec A p.length c p
  have hdq := rdeg_spec A2 p2.length c2 p2
  generalize ea : bl p = a at *
  generalize eb : bl p2 = b at *
  refine spec_of Tryd.func79 rfl Tryd.ntmps79 rfl ?_
  refine CW.seq ?_
  refine CW.reg [0] rfl ?_   -- 0, binpoly.go:75
  refine s_as 4 rfl rfl ?_
  refine SX.next ?_
  refine CW.seq ?_
  refine CW.reg [0, 1, 2] rfl ?_   -- 1, binpoly.go:76
  refine s_mv 10 rfl rfl ?_
  refine s_call1 11 rfl rfl rfl rfl (fun w hw => hdp w (hw.old ha) hp hn hcp) (fun _ _ => trivial) ?_
  refine s_as 5 rfl rfl ?_
  refine SX.next ?_
  refine CW.seq ?_
  refine CW.reg [0, 1, 2] rfl ?_   -- 2, binpoly.go:77
  refine s_mv 12 rfl rfl ?_
  refine s_call1 13 rfl rfl rfl rfl (fun w hw => hdq w (hw.old ha2) hp2 hn2 hcp2) (fun _ _ => trivial) ?_
  refine s_as 6 rfl rfl ?_
  refine SX.next ?_
  refine CW.seq ?_
  refine CW.seq ?_
  refine CW.reg [0, 1, 2, 3, 4, 5] rfl ?_   -- 3, binpoly.go:78
  refine s_mv 14 rfl rfl ?_
  refine s_lt 15 rfl rfl rfl rfl ?_
  refine s_mv 16 rfl rfl ?_
  refine SX.bool 16 rfl (fun hb => ?_) (fun hb => ?_)
  · skip
    replace hb := of_decide_eq_true hb
    have ha0 : a = [] := List.eq_nil_of_length_eq_zero (by omega)
    have hz : mulP 3 a b = [] := by rw [ha0, mulP_nil_l]
    refine SX.skip rfl ?_
    refine SX.skip rfl ?_
    refine s_pickT 19 rfl rfl rfl ?_
    refine SX.next ?_
    refine CW.condT rfl ?_
    refine CW.seq ?_
    refine CW.reg [0] rfl ?_   -- 4, binpoly.go:79
    refine s_as 4 rfl rfl ?_
    refine SX.next ?_
    refine CW.ret ?_
    exact KN.ret (rs := [.tmp 4]) Tryd.results79 rfl (fun w hw => ⟨(none, 0), by rw [hz]; rfl, by rw [hz]; exact Nat.le_refl _, by rw [hz]; exact (hw.pick [] rfl).begin_ _ 1⟩)
  · skip
    replace hb := of_decide_eq_false hb
    refine s_mv 17 rfl rfl ?_
    refine s_lt 18 rfl rfl rfl rfl ?_
    refine s_pickF 19 rfl rfl rfl ?_
    refine SX.next ?_
    refine CW.test rfl (fun hc2 => ?_) (fun hc2 => ?_)
    · skip
      have hb0 : b = [] := List.eq_nil_of_length_eq_zero (by omega)
      have hz : mulP 3 a b = [] := by rw [hb0, mulP_nil_r]
      refine CW.seq ?_
      refine CW.reg [0] rfl ?_   -- 4, binpoly.go:79
      refine s_as 4 rfl rfl ?_
      refine SX.next ?_
      refine CW.ret ?_
      exact KN.ret (rs := [.tmp 4]) Tryd.results79 rfl (fun w hw => ⟨(none, 0), by rw [hz]; rfl, by rw [hz]; exact Nat.le_refl _, by rw [hz]; exact (hw.pick [] rfl).begin_ _ 1⟩)
    · skip
      refine CW.skip ?_
      refine KN.code ?_
      refine CW.seq ?_
      refine CW.reg [0, 1, 2, 3, 4, 5] rfl ?_   -- 5, binpoly.go:81
      refine s_mv 20 rfl rfl ?_
      refine s_mv 21 rfl rfl ?_
      refine s_add 22 rfl rfl rfl (r := ((a.length : Nat) : Int) - 1 + ((b.length : Nat) - 1)) (w64 (by omega)) ?_
      refine s_add 23 rfl rfl rfl (r := (((a.length + b.length - 1) : Nat) : Int)) (by rw [show ((a.length : Nat) : Int) - 1 + ((b.length : Nat) - 1) + 1 = (((a.length + b.length - 1) : Nat) : Int) by omega]; exact w64 (by omega)) ?_
      refine s_make 24 (a.length + b.length - 1) rfl rfl rfl rfl rfl (by omega) (fun _ _ => trivial) (fun go => ?_)
      refine s_as 7 rfl rfl ?_
      refine SX.next ?_
      refine CW.seq ?_
      refine CW.seq ?_
      refine CW.reg [0] rfl ?_   -- 6, binpoly.go:82
      refine s_as 8 rfl rfl ?_
      refine SX.next ?_
      refine CW.block ?_
      refine CW.loop (G := Nat) (fun i => [(0, .slice A p.length c), (1, .slice A2 p2.length c2), (5, .int .i64 ((a.length : Nat) - 1)), (6, .int .i64 ((b.length : Nat) - 1)), (7, .slice (some ⟨go, 0, none⟩) (a.length + b.length - 1) (a.length + b.length - 1)), (8, .int .i64 (i : Nat))]) (fun i => Sto w [blk go 3 (ints .i64 (tab (a.length + b.length - 1) (mulF 3 a b i 0))).toArray]) (fun i => i ≤ a.length) (fun i => a.length - i) 0 ⟨rfl, rfl, rfl, rfl, rfl, rfl, trivial⟩ (fun _ h => by rw [show tab (a.length + b.length - 1) (mulF 3 a b 0 0) = tab (a.length + b.length - 1) (fun _ => 0) from tab_cong (fun j _ => mulF_zero 3 a b j), ← tab_zero]; exact h) (Nat.zero_le _) ?_
      intro i hi
      have hai := hA.le i
      refine CW.seq ?_
      refine CW.seq ?_
      refine CW.reg [0, 1, 2] rfl ?_   -- 7, binpoly.go:82
      refine s_mv 25 rfl rfl ?_
      refine s_mv 26 rfl rfl ?_
      refine s_le 27 rfl rfl rfl rfl ?_
      refine SX.next ?_
      refine CW.test rfl (fun hc => ?_) (fun hc => ?_)
      · skip
        refine CW.skip ?_
        refine KN.code ?_
        refine CW.seq ?_
        refine CW.block ?_
        refine CW.seq ?_
        refine CW.seq ?_
        refine CW.reg [0, 1, 2, 3] rfl ?_   -- 9, binpoly.go:83
        refine s_mv 30 rfl rfl ?_
        refine s_mv 31 rfl rfl ?_
        refine s_call1 32 rfl rfl rfl rfl (v := .int .i64 (cf a i : Nat)) (fun w hw => by have := rbit_spec A p.length c p (i : Nat) w (hw.old ha) hp hn hcp (by omega); rw [bitI_nat, ← cf_bl, ea] at this; exact this) (fun _ _ => trivial) ?_
        refine s_eq 33 rfl rfl rfl rfl ?_
        refine SX.next ?_
        refine CW.test rfl (fun hc3 => ?_) (fun hc3 => ?_)
        · skip
          have hsk := mulF_skip (a := a) (b := b) (i := i) (by omega)
          refine CW.exit rfl ?_
          refine KN.code ?_
          refine CW.reg [0, 1, 2] rfl ?_   -- 8, binpoly.go:82
          refine s_mv 28 rfl rfl ?_
          refine s_add 29 rfl rfl rfl (r := ((i + 1 : Nat) : Int)) (w64 (by omega)) ?_
          refine s_as 8 rfl rfl ?_
          refine SX.end_ ?_
          exact KN.back (i + 1) ⟨rfl, rfl, rfl, rfl, rfl, rfl, trivial⟩ (fun _ h => by rw [← tab_cong (fun j _ => hsk j)]; exact h) (by omega) (by omega)
        · skip
          have ha1 : cf a i = 1 := by omega
          refine CW.skip ?_
          refine KN.code ?_
          refine CW.seq ?_
          refine CW.reg [0] rfl ?_   -- 10, binpoly.go:86
          refine s_as 9 rfl rfl ?_
          refine SX.next ?_
          refine CW.block ?_
          refine CW.loop (G := Nat) (fun k => [(0, .slice A p.length c), (1, .slice A2 p2.length c2), (5, .int .i64 ((a.length : Nat) - 1)), (6, .int .i64 ((b.length : Nat) - 1)), (7, .slice (some ⟨go, 0, none⟩) (a.length + b.length - 1) (a.length + b.length - 1)), (8, .int .i64 (i : Nat)), (9, .int .i64 (k : Nat))]) (fun k => Sto w [blk go 3 (ints .i64 (tab (a.length + b.length - 1) (mulF 3 a b i k))).toArray]) (fun k => k ≤ b.length) (fun k => b.length - k) 0 ⟨rfl, rfl, rfl, rfl, rfl, rfl, rfl, trivial⟩ (fun _ h => h) (Nat.zero_le _) ?_
          intro k hk2
          have hbk := hB.tr.c k
          have hg1 : gm 3 (cf a i) (cf b k) = cf b k := by rw [ha1]; exact gm_one_left ok3 hbk
          refine CW.seq ?_
          refine CW.seq ?_
          refine CW.reg [0, 1, 2] rfl ?_   -- 11, binpoly.go:86
          refine s_mv 34 rfl rfl ?_
          refine s_mv 35 rfl rfl ?_
          refine s_le 36 rfl rfl rfl rfl ?_
          refine SX.next ?_
          refine CW.test rfl (fun hc => ?_) (fun hc => ?_)
          · skip
            refine CW.skip ?_
            refine KN.code ?_
            refine CW.seq ?_
            refine CW.block ?_
            refine CW.regD (.st true 0 (.st true 1 (.st true 2 (.st true 3 (.st true 4 (.st true 5 (.st true 6 (.st true 7 (.st true 8 (.st true 10 (.st true 11 (.alt 9 (.st false 12 (.st true 13 (.st true 14 (.st false 15 .done)))) (.st false 12 (.st false 9 (.st true 13 (.st true 14 (.st false 15 .done))))))))))))))))) (Sto w []) mixed (by kernel_rfl) (fun _ h => h.drew) (fun _ h => h.pick [] rfl) ?_
            refine s_mv 39 rfl rfl ?_
            refine s_mv 40 rfl rfl ?_
            refine s_mv 41 rfl rfl ?_
            refine s_add 42 rfl rfl rfl (r := ((i + k : Nat) : Int)) (w64 (by omega)) ?_
            refine s_mv 43 rfl rfl ?_
            refine s_mv 44 rfl rfl ?_
            refine s_mv 45 rfl rfl ?_
            refine s_add 46 rfl rfl rfl (r := ((i + k : Nat) : Int)) (w64 (by omega)) ?_
            refine s_ia0 47 (i + k) rfl rfl rfl rfl (by omega) ?_
            refine s_mv 49 rfl rfl ?_
            refine s_mv 50 rfl rfl ?_
            refine SX.alt ?_ ?_
            · skip
              refine s_ldB 48 0 rfl rfl rfl (tab_atA (by omega)) ?_
              refine s_call1 51 rfl rfl rfl rfl (v := .int .i64 (cf b k : Nat)) (fun w hw => by have := rbit_spec A2 p2.length c2 p2 (k : Nat) w (hw.old ha2) hp2 hn2 hcp2 (by omega); rw [bitI_nat, ← cf_bl, eb] at this; exact this) (fun _ h => h.pick [] rfl) ?_
              refine s_bit 52 rfl rfl rfl rfl (r := ibit .xor .i64 (mulF 3 a b i k (i + k)) (gm 3 (cf a i) (cf b k) : Nat)) (by rw [hg1]) ?_
              refine s_ia0 53 (i + k) rfl rfl rfl rfl (by omega) ?_
              refine s_stB 0 rfl rfl rfl rfl rfl (by rw [tab_size]; omega) (fun _ h => h.pick [] rfl) ?_
              refine SX.end_ ?_
              refine KN.blk ?_
              refine KN.code ?_
              refine CW.reg [0, 1, 2] rfl ?_   -- 12, binpoly.go:86
              refine s_mv 37 rfl rfl ?_
              refine s_add 38 rfl rfl rfl (r := ((k + 1 : Nat) : Int)) (w64 (by omega)) ?_
              refine s_as 9 rfl rfl ?_
              refine SX.end_ ?_
              exact KN.back (k + 1) ⟨rfl, rfl, rfl, rfl, rfl, rfl, rfl, trivial⟩ (fun _ h => by rw [← mulF_next ok3 hA.tr.lt, ← tab_set]; exact h) (by omega) (by omega)
            · skip
              refine s_call1 51 rfl rfl rfl rfl (v := .int .i64 (cf b k : Nat)) (fun w hw => by have := rbit_spec A2 p2.length c2 p2 (k : Nat) w (hw.old ha2) hp2 hn2 hcp2 (by omega); rw [bitI_nat, ← cf_bl, eb] at this; exact this) (fun _ h => h.pick [] rfl) ?_
              refine s_ldB 48 0 rfl rfl rfl (tab_atA (by omega)) ?_
              refine s_bit 52 rfl rfl rfl rfl (r := ibit .xor .i64 (mulF 3 a b i k (i + k)) (gm 3 (cf a i) (cf b k) : Nat)) (by rw [hg1]) ?_
              refine s_ia0 53 (i + k) rfl rfl rfl rfl (by omega) ?_
              refine s_stB 0 rfl rfl rfl rfl rfl (by rw [tab_size]; omega) (fun _ h => h.pick [] rfl) ?_
              refine SX.end_ ?_
              refine KN.blk ?_
              refine KN.code ?_
              refine CW.reg [0, 1, 2] rfl ?_   -- 12, binpoly.go:86
              refine s_mv 37 rfl rfl ?_
              refine s_add 38 rfl rfl rfl (r := ((k + 1 : Nat) : Int)) (w64 (by omega)) ?_
              refine s_as 9 rfl rfl ?_
              refine SX.end_ ?_
              exact KN.back (k + 1) ⟨rfl, rfl, rfl, rfl, rfl, rfl, rfl, trivial⟩ (fun _ h => by rw [← mulF_next ok3 hA.tr.lt, ← tab_set]; exact h) (by omega) (by omega)
          · skip
            obtain rfl : k = b.length := by omega
            refine CW.exit rfl ?_
            refine KN.blk ?_
            refine KN.code ?_
            refine CW.reg [0, 1, 2] rfl ?_   -- 8, binpoly.go:82
            refine s_mv 28 rfl rfl ?_
            refine s_add 29 rfl rfl rfl (r := ((i + 1 : Nat) : Int)) (w64 (by omega)) ?_
            refine s_as 8 rfl rfl ?_
            refine SX.end_ ?_
            exact KN.back (i + 1) ⟨rfl, rfl, rfl, rfl, rfl, rfl, trivial⟩ (fun _ h => by rw [← tab_cong (fun j _ => mulF_row 3 a b i b.length (Nat.le_refl _) j)]; exact h) (by omega) (by omega)
      · skip
        obtain rfl : i = a.length := by omega
        have hfin := mul_bits hA hB
        refine CW.exit rfl ?_
        refine KN.code ?_
        refine CW.seq ?_
        refine CW.reg [0, 1, 2] rfl ?_   -- 14, binpoly.go:90
        refine s_mv 54 rfl rfl ?_
        refine s_call 55 rfl rfl rfl rfl (fun w hw => by have := rbits_spec (some ⟨go, 0, none⟩) (a.length + b.length - 1) (a.length + b.length - 1) (tab (a.length + b.length - 1) (mulF 3 a b a.length 0)) w (Has.cong ((hw.has (i := 0) rfl).blk_sl (m := (a.length + b.length - 1)) (by exact tab_size.trans (Nat.mul_one _).symm)) rfl) (by omega); rw [hfin] at this; exact this) (fun _ _ => trivial) (fun q hq => ?_)
        refine s_as 4 rfl rfl ?_
        refine SX.next ?_
        refine CW.ret ?_
        exact KN.ret (rs := [.tmp 4]) Tryd.results79 rfl (fun w hw => ⟨q, rfl, hq, hw.pick [0] rfl⟩)

/-! ### The document's minimal polynomials -/
theorem lowL_lin {m : Nat} (hm : Ok m) (z : Int) : trim (lowL m [z, 1]) = [lo m z, 1] := by
  have e : lowL m [z, 1] = [lo m z, 1] := by show [lo m _, lo m 1] = _; rw [lo1 hm]
  rw [e, (lin_tr hm (lo_lt m z)).eq]
/-- The places at which there is 1. -/
def onesL (p : List Nat) : Nat → List Nat
  | 0 => []
  | k + 1 => if cf p k = 1 then onesL p k ++ [k] else onesL p k
theorem onesL_lt {p : List Nat} : ∀ {k x : Nat}, x ∈ onesL p k → x < k
  | 0, _, h => by cases h
  | k + 1, x, h => by
    unfold onesL at h
    split at h
    · rcases List.mem_append.1 h with h | h
      · have := onesL_lt h; omega
      · rw [List.mem_singleton.1 h]; omega
    · have := onesL_lt h; omega
theorem onesL_len (p : List Nat) : ∀ k, (onesL p k).length ≤ k
  | 0 => Nat.le_refl _
  | k + 1 => by
    have := onesL_len p k
    unfold onesL
    split
    · simp; omega
    · omega
theorem sumF_snoc (l : List Int) (x : Int) : sumF (eX (l ++ [x])) (l.length + 1) = addP (sumF (eX l) l.length) (xP x.toNat) := by
  show addP (sumF (eX (l ++ [x])) l.length) (eX (l ++ [x]) l.length) = _
  rw [sumF_congr (f := eX (l ++ [x])) (g := eX l) (fun j hj => by unfold eX; rw [List.getD_eq_getElem?_getD, List.getElem?_append_left hj, ← List.getD_eq_getElem?_getD])]
  congr 1
  unfold eX
  rw [List.getD_eq_getElem?_getD, List.getElem?_append_right (Nat.le_refl _), Nat.sub_self]
  rfl
theorem ones_cf (p : List Nat) (j : Nat) : ∀ k, cf (sumF (eX ((onesL p k).map Int.ofNat)) (onesL p k).length) j = if j < k ∧ cf p j = 1 then 1 else 0
  | 0 => by rw [if_neg (by omega)]; exact cf_nil j
  | k + 1 => by
    have ih := ones_cf p j k
    unfold onesL
    split
    · rename_i h1
      have h2 := sumF_snoc ((onesL p k).map Int.ofNat) (k : Int)
      rw [List.length_map] at h2
      rw [List.map_append, List.length_append]
      show cf (sumF (eX ((onesL p k).map Int.ofNat ++ [(k : Int)])) ((onesL p k).length + 1)) j = _
      rw [h2, cf_addP, ih, cf_xP, Int.toNat_natCast]
      by_cases hj : j = k
      · subst hj; rw [if_neg (by omega), if_pos rfl, if_pos ⟨by omega, h1⟩]; rfl
      · rw [if_neg hj, Nat.xor_zero]
        by_cases h3 : j < k ∧ cf p j = 1
        · rw [if_pos h3, if_pos ⟨by omega, h3.2⟩]
        · rw [if_neg h3, if_neg (by omega)]
    · rename_i h1
      rw [ih]
      by_cases h3 : j < k ∧ cf p j = 1
      · rw [if_pos h3, if_pos ⟨by omega, h3.2⟩]
      · rw [if_neg h3, if_neg (fun h => h3 ⟨by rcases Nat.lt_succ_iff_lt_or_eq.1 h.1 with h4 | h4; exact h4; subst h4; exact absurd h.2 h1, h.2⟩)]
theorem ones_all {p : List Nat} (hp : B1 p) : sumF (eX ((onesL p p.length).map Int.ofNat)) ((onesL p p.length).map Int.ofNat).length = p := by
  rw [List.length_map]
  refine (sumF_b1 (eX_b1 _) _).tr.ext hp.tr (fun j => ?_)
  rw [ones_cf]
  have := hp.le j
  by_cases h : j < p.length
  · by_cases h1 : cf p j = 1
    · rw [if_pos ⟨h, h1⟩, h1]
    · rw [if_neg (fun h2 => h1 h2.2)]; omega
  · rw [if_neg (fun h2 => h h2.1), cf_out (by omega)]
theorem ones_in {p : List Nat} {k : Nat} (hk : k ≤ 2048) : ∀ j, j < ((onesL p k).map Int.ofNat).length → 0 ≤ ((onesL p k).map Int.ofNat).getD j 0 ∧ ((onesL p k).map Int.ofNat).getD j 0 ≤ 2048 := fun j hj => by
  rw [List.length_map] at hj
  rw [List.getD_eq_getElem?_getD, List.getElem?_map, List.getElem?_eq_getElem hj]
  have := onesL_lt (List.getElem_mem hj)
  show 0 ≤ ((_ : Nat) : Int) ∧ ((_ : Nat) : Int) ≤ 2048
  omega

theorem rfrom_spec (m : Nat) (A : Option Addr) (n c : Nat) (l : List Int) (w : World) (hm : Ok m) (ha : Has (sl 1 A n (ints .i64 l)) w) (hn : n ≤ 100) : SpecL Tryd.prog 180 [.int .i64 (m : Nat), .slice A n c] w (frP m l l.length) := by
  have hla := ints_len ha
  subst hla
  refine spec_of Tryd.func180 rfl Tryd.ntmps180 rfl ?_
  refine CW.seq ?_
  refine CW.reg [0] rfl ?_   -- 0, field.go:209
  refine s_as 4 rfl rfl ?_
  refine SX.next ?_
  refine CW.seq ?_
  refine CW.reg [0, 1] rfl ?_   -- 1, field.go:210
  refine s_bsl 7 rfl rfl (cells := #[.int .i64 1]) (by kernel_rfl) rfl (fun _ _ => trivial) (fun gb => ?_)
  refine s_as 5 rfl rfl ?_
  refine SX.next ?_
  refine CW.seq ?_
  refine CW.seq ?_
  refine CW.reg [0] rfl ?_   -- 2, field.go:211
  refine s_as 6 rfl rfl ?_
  refine SX.next ?_
  refine CW.block ?_
  refine CW.loop (G := Nat × Option Addr × Nat) (fun q => [(0, .int .i64 (m : Nat)), (1, .slice A l.length c), (5, .slice q.2.1 (frP m l q.1).length q.2.2), (6, .int .i64 (q.1 : Nat))]) (fun q => Sto w [own 3 1 q.2.1 (frP m l q.1).length q.2.2 (nats .i64 (frP m l q.1))]) (fun q => q.1 ≤ l.length ∧ (frP m l q.1).length ≤ q.2.2) (fun q => l.length - q.1) (0, some ⟨gb, 0, none⟩, 1) ⟨rfl, rfl, rfl, rfl, trivial⟩ (fun _ h => h.blkOwn (q := 0) (c := 1) rfl rfl (by unfold maxLen; omega)) ⟨Nat.zero_le _, Nat.le_refl _⟩ ?_
  rintro ⟨i, qa, qc⟩ ⟨hi, hqc⟩
  simp only at hi hqc
  dsimp only
  have hfl := frP_len m l i
  have hft := frP_tr hm l i
  have hnx := frP_next hm l i
  refine CW.seq ?_
  refine CW.seq ?_
  refine CW.reg [0, 1, 2, 3] rfl ?_   -- 3, field.go:211
  refine s_mv 8 rfl rfl ?_
  refine s_mv 9 rfl rfl ?_
  refine s_len 10 rfl rfl ?_
  refine s_lt 11 rfl rfl rfl rfl ?_
  refine SX.next ?_
  refine CW.test rfl (fun hc => ?_) (fun hc => ?_)
  · skip
    have hil : i < l.length := by omega
    have hfs : mulP m (trim (lowL m ((frP m l i).map Int.ofNat))) (trim (lowL m [l.getD i 0, 1])) = (frP m l (i + 1)) := by rw [hft.low, lowL_lin hm]; exact hnx
    refine CW.skip ?_
    refine KN.code ?_
    refine CW.seq ?_
    refine CW.block ?_
    refine CW.reg [0, 1, 2, 3, 4, 5, 6, 7, 8] rfl ?_   -- 5, field.go:212
    refine s_mv 14 rfl rfl ?_
    refine s_mv 15 rfl rfl ?_
    refine s_mv 16 rfl rfl ?_
    refine s_mv 17 rfl rfl ?_
    refine s_iaV 18 i (fun w hw => hw.old ha) rfl rfl rfl rfl (by omega) ?_
    refine s_ldV 19 (fun w hw => hw.old ha) rfl rfl (by rw [Nat.mul_one]; exact intsAt hil) (by omega) ?_
    refine s_bsl 20 rfl rfl (cells := #[.int .i64 (l.getD i 0), .int .i64 1]) (by kernel_rfl) rfl (fun _ _ => trivial) (fun g20 => ?_)
    refine s_call 21 rfl rfl rfl rfl (fun w hw => by have := rtimes_spec m qa (frP m l i).length qc ((frP m l i).map Int.ofNat) (some ⟨g20, 0, none⟩) 2 2 [l.getD i 0, 1] w hm (by rw [← nats_ints]; exact (hw.has (i := 1) rfl).of_own) (Has.cong ((hw.has (i := 0) rfl).blk_sl (m := 2) rfl) rfl) (by omega) (by omega); rw [hfs] at this; exact this) (fun _ _ => trivial) (fun q21 hq21 => ?_)
    refine s_as 5 rfl rfl ?_
    refine SX.end_ ?_
    refine KN.blk ?_
    refine KN.code ?_
    refine CW.reg [0, 1, 2] rfl ?_   -- 4, field.go:211
    refine s_mv 12 rfl rfl ?_
    refine s_add 13 rfl rfl rfl (r := ((i + 1 : Nat) : Int)) (w64 (by omega)) ?_
    refine s_as 6 rfl rfl ?_
    refine SX.end_ ?_
    exact KN.back (i + 1, q21.1, q21.2) ⟨rfl, rfl, rfl, rfl, trivial⟩ (fun _ h => h.pick [0] rfl) ⟨by simp only; omega, hq21⟩ (by simp only; omega)
  · skip
    have hie : i = l.length := by omega
    subst hie
    refine CW.exit rfl ?_
    refine KN.code ?_
    refine CW.seq ?_
    refine CW.reg [0, 1] rfl ?_   -- 6, field.go:214
    refine s_mv 22 rfl rfl ?_
    refine s_as 4 rfl rfl ?_
    refine SX.next ?_
    refine CW.ret ?_
    exact KN.ret (rs := [.tmp 4]) Tryd.results180 rfl (fun w hw => ⟨(qa, qc), rfl, hqc, hw⟩)

theorem rmin_spec (m : Nat) (i : Int) (w : World) (hm : Ok m) : SpecB Tryd.prog 164 [.int .i64 (m : Nat), .int .i64 i] w (bys (minP m (em m i))) := by
  have hmh := hm.hi
  have hcl := cos_len_pos hm (em m i)
  have hPB := minP_b1 hm (em m i)
  have hPl := minP_len hm (em m i)
  refine spec_of Tryd.func164 rfl Tryd.ntmps164 rfl ?_
  refine CW.seq ?_
  refine CW.reg [0] rfl ?_   -- 0, field.go:237
  refine s_as 4 rfl rfl ?_
  refine SX.next ?_
  refine CW.seq ?_
  refine CW.reg [0, 1, 2, 3] rfl ?_   -- 1, field.go:238
  refine s_mv 11 rfl rfl ?_
  refine s_mv 12 rfl rfl ?_
  refine s_call 13 rfl rfl rfl rfl (fun w hw => rcoset_spec m i w hm) (fun _ _ => trivial) (fun q13 hq13 => ?_)
  refine s_as 5 rfl rfl ?_
  refine SX.next ?_
  refine CW.seq ?_
  refine CW.reg [0] rfl ?_   -- 2, field.go:239
  refine s_as 6 rfl rfl ?_
  refine SX.next ?_
  refine CW.seq ?_
  refine CW.seq ?_
  refine CW.reg [0] rfl ?_   -- 3, field.go:240
  refine s_as 7 rfl rfl ?_
  refine SX.next ?_
  refine CW.block ?_
  refine CW.loop (G := Nat × Option Addr × Nat) (fun q => [(0, .int .i64 (m : Nat)), (5, .slice q13.1 (cosP m (em m i)).length q13.2), (6, .slice q.2.1 q.1 q.2.2), (7, .int .i64 (q.1 : Nat))]) (fun q => Sto w [own 3 1 q.2.1 q.1 q.2.2 (ints .i64 (RL m ((cosP m (em m i)).take q.1))), own 3 1 q13.1 (cosP m (em m i)).length q13.2 (nats .i64 (cosP m (em m i)))]) (fun q => q.1 ≤ (cosP m (em m i)).length ∧ q.1 ≤ q.2.2) (fun q => (cosP m (em m i)).length - q.1) (0, none, 0) ⟨rfl, rfl, rfl, rfl, trivial⟩ (fun _ h => h.begin_ 3 1) ⟨Nat.zero_le _, Nat.le_refl _⟩ ?_
  rintro ⟨k, qa, qc⟩ ⟨hk, hqc⟩
  simp only at hk hqc
  dsimp only
  refine CW.seq ?_
  refine CW.seq ?_
  refine CW.reg [0, 1, 2, 3] rfl ?_   -- 4, field.go:240
  refine s_mv 14 rfl rfl ?_
  refine s_mv 15 rfl rfl ?_
  refine s_len 16 rfl rfl ?_
  refine s_lt 17 rfl rfl rfl rfl ?_
  refine SX.next ?_
  refine CW.test rfl (fun hc => ?_) (fun hc => ?_)
  · skip
    have hkl : k < (cosP m (em m i)).length := by omega
    have hRn : ints .i64 (RL m ((cosP m (em m i)).take k)) ++ [.int .i64 (exz m ((cf (cosP m (em m i)) k : Nat) : Int) : Nat)] = ints .i64 (RL m ((cosP m (em m i)).take (k + 1))) := by rw [take_cf hkl]; simp [RL, ints]
    refine CW.skip ?_
    refine KN.code ?_
    refine CW.seq ?_
    refine CW.block ?_
    refine CW.reg [0, 1, 2, 3, 4, 5, 6, 7, 8, 9] rfl ?_   -- 6, field.go:241
    refine s_mv 20 rfl rfl ?_
    refine s_mv 21 rfl rfl ?_
    refine s_mv 22 rfl rfl ?_
    refine s_mv 23 rfl rfl ?_
    refine s_iaO 24 1 k rfl rfl rfl rfl rfl (by omega) ?_
    refine s_ldO 25 1 rfl rfl rfl (natsAtC hkl) ?_
    refine s_call1 26 rfl rfl rfl rfl (v := .int .i64 (exz m ((cf (cosP m (em m i)) k : Nat) : Int) : Nat)) (fun w hw => rexp_spec m _ w hm) (fun _ _ => trivial) ?_
    refine s_bsl 27 rfl rfl (cells := #[.int .i64 (exz m ((cf (cosP m (em m i)) k : Nat) : Int) : Nat)]) (by kernel_rfl) rfl (fun _ _ => trivial) (fun gb => ?_)
    refine s_app 28 1 rfl rfl rfl rfl (ys := [.int .i64 (exz m ((cf (cosP m (em m i)) k : Nat) : Int) : Nat)]) (fun w hw => Has.cong ((hw.has (i := 0) rfl).blk_sl (m := 1) rfl) rfl) rfl rfl (by omega) (by unfold maxLen; omega) (by omega) (fun _ _ _ _ => trivial) (fun A2 c2 hc2 => ?_)
    refine s_as 6 rfl rfl ?_
    refine SX.end_ ?_
    refine KN.blk ?_
    refine KN.code ?_
    refine CW.reg [0, 1, 2] rfl ?_   -- 5, field.go:240
    refine s_mv 18 rfl rfl ?_
    refine s_add 19 rfl rfl rfl (r := ((k + 1 : Nat) : Int)) (w64 (by omega)) ?_
    refine s_as 7 rfl rfl ?_
    refine SX.end_ ?_
    exact KN.back (k + 1, A2, c2) ⟨rfl, rfl, rfl, rfl, trivial⟩ (fun _ h => by
      have h1 := h.pick [1, 1] rfl
      rw [hRn] at h1
      exact h1) ⟨by simp only; omega, hc2⟩ (by simp only; omega)
  · skip
    have hke : k = (cosP m (em m i)).length := by omega
    have hRL : (RL m ((cosP m (em m i)).take k)) = RL m (cosP m (em m i)) := by rw [hke, List.take_length]
    have hRl : (RL m (cosP m (em m i))).length = k := by unfold RL; rw [List.length_map, hke]
    have hfm : frP m (RL m (cosP m (em m i))) (RL m (cosP m (em m i))).length = (minP m (em m i)) := by rw [hRl, hke]; exact frP_min hm _
    refine CW.exit rfl ?_
    refine KN.code ?_
    refine CW.seq ?_
    refine CW.reg [0, 1, 2, 3] rfl ?_   -- 7, field.go:243
    refine s_mv 29 rfl rfl ?_
    refine s_mv 30 rfl rfl ?_
    refine s_call 31 rfl rfl rfl rfl (fun w hw => by have := rfrom_spec m qa k qc (RL m (cosP m (em m i))) w hm (by rw [← hRL]; exact (hw.has (i := 0) rfl).of_own) (by omega); rw [hfm] at this; exact this) (fun _ _ => trivial) (fun q31 hq31 => ?_)
    refine s_as 8 rfl rfl ?_
    refine SX.next ?_
    refine CW.seq ?_
    refine CW.reg [0] rfl ?_   -- 8, field.go:244
    refine s_as 9 rfl rfl ?_
    refine SX.next ?_
    refine CW.seq ?_
    refine CW.seq ?_
    refine CW.reg [0] rfl ?_   -- 9, field.go:245
    refine s_as 10 rfl rfl ?_
    refine SX.next ?_
    refine CW.block ?_
    refine CW.loop (G := Nat × Option Addr × Nat) (fun q => [(8, .slice q31.1 (minP m (em m i)).length q31.2), (9, .slice q.2.1 (onesL (minP m (em m i)) q.1).length q.2.2), (10, .int .i64 (q.1 : Nat))]) (fun q => Sto w [own 3 1 q.2.1 (onesL (minP m (em m i)) q.1).length q.2.2 (nats .i64 (onesL (minP m (em m i)) q.1)), own 3 1 q31.1 (minP m (em m i)).length q31.2 (nats .i64 (minP m (em m i)))]) (fun q => q.1 ≤ (minP m (em m i)).length ∧ (onesL (minP m (em m i)) q.1).length ≤ q.2.2) (fun q => (minP m (em m i)).length - q.1) (0, none, 0) ⟨rfl, rfl, rfl, trivial⟩ (fun _ h => (h.pick [0] rfl).begin_ 3 1) ⟨Nat.zero_le _, Nat.le_refl _⟩ ?_
    rintro ⟨k, ra, rc⟩ ⟨hk, hrc⟩
    simp only at hk hrc
    dsimp only
    have hol := onesL_len (minP m (em m i)) k
    refine CW.seq ?_
    refine CW.seq ?_
    refine CW.reg [0, 1, 2, 3] rfl ?_   -- 10, field.go:245
    refine s_mv 32 rfl rfl ?_
    refine s_mv 33 rfl rfl ?_
    refine s_len 34 rfl rfl ?_
    refine s_lt 35 rfl rfl rfl rfl ?_
    refine SX.next ?_
    refine CW.test rfl (fun hc => ?_) (fun hc => ?_)
    · skip
      have hkl : k < (minP m (em m i)).length := by omega
      refine CW.skip ?_
      refine KN.code ?_
      refine CW.seq ?_
      refine CW.block ?_
      refine CW.seq ?_
      refine CW.reg [0, 1, 2, 3, 4] rfl ?_   -- 12, field.go:246
      refine s_mv 38 rfl rfl ?_
      refine s_mv 39 rfl rfl ?_
      refine s_iaO 40 1 k rfl rfl rfl rfl rfl (by omega) ?_
      refine s_ldO 41 1 rfl rfl rfl (natsAtC hkl) ?_
      refine s_eq 42 rfl rfl rfl (r := decide (cf (minP m (em m i)) k = 1)) (decide_eq_decide.2 (by omega)) ?_
      refine SX.next ?_
      refine CW.cond rfl (fun hc => ?_) (fun hc => ?_)
      · skip
        have hnx : (onesL (minP m (em m i)) (k + 1)) = (onesL (minP m (em m i)) k) ++ [k] := if_pos (by simpa using hc)
        refine CW.reg [0, 1, 2, 3, 4] rfl ?_   -- 13, field.go:247
        refine s_mv 43 rfl rfl ?_
        refine s_mv 44 rfl rfl ?_
        refine s_bsl 45 rfl rfl (cells := #[.int .i64 (k : Nat)]) (by kernel_rfl) rfl (fun _ _ => trivial) (fun gb => ?_)
        refine s_app 46 1 rfl rfl rfl rfl (ys := [.int .i64 (k : Nat)]) (fun w hw => Has.cong ((hw.has (i := 0) rfl).blk_sl (m := 1) rfl) rfl) rfl rfl (by omega) (by unfold maxLen; omega) (by omega) (fun _ _ _ _ => trivial) (fun A2 c2 hc2 => ?_)
        refine s_as 9 rfl rfl ?_
        refine SX.end_ ?_
        refine KN.blk ?_
        refine KN.code ?_
        refine CW.reg [0, 1, 2] rfl ?_   -- 11, field.go:245
        refine s_mv 36 rfl rfl ?_
        refine s_add 37 rfl rfl rfl (r := ((k + 1 : Nat) : Int)) (w64 (by omega)) ?_
        refine s_as 10 rfl rfl ?_
        refine SX.end_ ?_
        exact KN.back (k + 1, A2, c2) ⟨rfl, by simp only [hnx, List.length_append]; rfl, rfl, trivial⟩ (fun _ h => by
          have h1 := h.pick [1, 1] rfl
          simp only [hnx, List.length_append, List.length_singleton]
          rw [nats_snoc] at h1
          exact h1) ⟨by simp only; omega, by simp only [hnx, List.length_append, List.length_singleton]; exact hc2⟩ (by simp only; omega)
      · skip
        have hnx : (onesL (minP m (em m i)) (k + 1)) = (onesL (minP m (em m i)) k) := if_neg (by simpa using hc)
        refine CW.skip ?_
        refine KN.blk ?_
        refine KN.code ?_
        refine CW.reg [0, 1, 2] rfl ?_   -- 11, field.go:245
        refine s_mv 36 rfl rfl ?_
        refine s_add 37 rfl rfl rfl (r := ((k + 1 : Nat) : Int)) (w64 (by omega)) ?_
        refine s_as 10 rfl rfl ?_
        refine SX.end_ ?_
        exact KN.back (k + 1, ra, rc) ⟨rfl, by simp only [hnx]; rfl, rfl, trivial⟩ (fun _ h => by simp only [hnx]; exact h) ⟨by simp only; omega, by simp only [hnx]; exact hrc⟩ (by simp only; omega)
    · skip
      have hke2 : k = (minP m (em m i)).length := by omega
      subst hke2
      have hoa := ones_all hPB
      refine CW.exit rfl ?_
      refine KN.code ?_
      refine CW.seq ?_
      refine CW.reg [0, 1, 2] rfl ?_   -- 14, field.go:250
      refine s_mv 47 rfl rfl ?_
      refine s_call 48 rfl rfl rfl rfl (fun w hw => by have := rof_spec ra (onesL (minP m (em m i)) (minP m (em m i)).length).length rc ((onesL (minP m (em m i)) (minP m (em m i)).length).map Int.ofNat) w (by rw [← nats_ints]; exact (hw.has (i := 0) rfl).of_own) (by omega) (ones_in (by omega)); rw [hoa] at this; exact this) (fun _ _ => trivial) (fun q48 hq48 => ?_)
      refine s_as 4 rfl rfl ?_
      refine SX.next ?_
      refine CW.ret ?_
      exact KN.ret (rs := [.tmp 4]) Tryd.results164 rfl (fun w hw => ⟨q48, rfl, hq48, hw.pick [0] rfl⟩)
end Go.Proofs.YtompcfingkoldaaDoor
end
section
/- The errors of package api, as a table: each variable holds a pointer of its own. No condition. -/
namespace Go.Proofs.YtompcfingkoldaaDoor
open Go.Sx

/-- The error variables ks, each with a pointer of its own. -/
def ersA (e : Nat → Addr) (ks : List Nat) : Atom where
  ok w D := (∀ k ∈ ks, D k ∧ D (e k).block ∧ w.cell? ⟨k, 0, none⟩ = some (errV e k) ∧ Live (e k) w) ∧ ∀ i ∈ ks, ∀ j ∈ ks, i ≠ j → e i ≠ e j
  loc := by
    rintro w w' D ⟨h1, h2⟩ hb
    refine ⟨fun k hk => ?_, h2⟩
    obtain ⟨a, b, c, ct, t, d⟩ := h1 k hk
    exact ⟨a, b, (World.cell?_of_block (hb _ a)).trans c, ct, t, by rw [hb _ b]; exact d⟩
section
variable {e : Nat → Addr} {ks : List Nat} {w : World}
theorem _root_.Go.Sx.Has.ers (h : Has (ersA e ks) w) {k : Nat} (hk : k ∈ ks) : Er e w k := let ⟨_, ⟨h1, _⟩, _⟩ := h; (h1 k hk).2.2.1
theorem _root_.Go.Sx.Has.live (h : Has (ersA e ks) w) {k : Nat} (hk : k ∈ ks) : Live (e k) w := let ⟨_, ⟨h1, _⟩, _⟩ := h; (h1 k hk).2.2.2
theorem _root_.Go.Sx.Has.apart (h : Has (ersA e ks) w) {i j : Nat} (hi : i ∈ ks) (hj : j ∈ ks) (hne : i ≠ j) : e i ≠ e j := let ⟨_, ⟨_, h2⟩, _⟩ := h; h2 i hi j hj hne
theorem _root_.Go.Sx.Has.fewer (h : Has (ersA e ks) w) {ks' : List Nat} (hs : ∀ k ∈ ks', k ∈ ks) : Has (ersA e ks') w :=
  let ⟨D, ⟨h1, h2⟩, h3⟩ := h
  ⟨D, ⟨fun k hk => h1 k (hs k hk), fun i hi j hj => h2 i (hs i hi) j (hs j hj)⟩, h3⟩
end
/-- Package api's errors, in the order of their numbers from 101. -/
def apiErrs : List Nat := [7, 1, 3, 0, 2, 8, 9, 5, 10, 11, 12, 13, 14, 4, 15, 6, 16, 17, 18]
end Go.Proofs.YtompcfingkoldaaDoor
end
section
/- The contracts of shalesee, and of what it leans on: an error of package api, seen as its number. Conditions: the errors' variables each hold a pointer of its own. -/
namespace Go.Proofs.YtompcfingkoldaaDoor
open Go.Sx
set_option maxRecDepth 100000
/-- A fault with nothing around it. -/
def fltV (c : Int) : Value := .agg #[.int .i64 c, .slice none 0 0]
theorem ers_at {j k : Nat} (h : apiErrs[j]? = some k) : k ∈ apiErrs := List.mem_of_getElem? h
theorem ers_one {i j k : Nat} (hi : apiErrs[i]? = some k) (hj : apiErrs[j]? = some k) : i = j := by
  have hn : ∀ i < 19, ∀ j < 19, apiErrs[i]? = apiErrs[j]? → i = j := by decide
  obtain ⟨h1, _⟩ := List.getElem?_eq_some_iff.1 hi
  obtain ⟨h3, _⟩ := List.getElem?_eq_some_iff.1 hj
  exact hn i h1 j h3 (hi.trans hj.symm)
theorem ers_lt {j k : Nat} (h : apiErrs[j]? = some k) : j < 19 := by
  obtain ⟨h1, _⟩ := List.getElem?_eq_some_iff.1 h
  exact h1

theorem none_spec (w : World) : Spec1 Tryd.prog 182 [] w (fltV 0) := by
  refine spec_of Tryd.func182 rfl Tryd.ntmps182 rfl ?_
  refine CW.seq ?_
  refine CW.reg [0] rfl ?_   -- 0, ref.go:69
  refine s_alloc 0 rfl (fun _ _ => trivial) (fun g => ?_)
  refine SX.next ?_
  refine CW.seq ?_
  refine CW.reg [0, 1] rfl ?_   -- 1, ref.go:69
  refine s_build 1 rfl rfl rfl ?_
  refine s_stAll 0 rfl rfl (by kernel_rfl) rfl rfl rfl rfl (fun _ _ => trivial) ?_
  refine SX.next ?_
  refine CW.ret ?_
  exact KN.retC (rs := [.cell 0 167]) Tryd.results182 (fun w hw => ⟨[_], ⟨⟨_, rfl, hw.ldRow (q := 0) rfl (by rfl)⟩, trivial⟩, rfl, hw.nothing⟩)

theorem sbare_spec (c : Int) (w : World) : Spec1 Tryd.prog 123 [.int .i64 c] w (fltV c) := by
  refine spec_of Tryd.func123 rfl Tryd.ntmps123 rfl ?_
  refine CW.seq ?_
  refine CW.reg [0] rfl ?_   -- 0, ref.go:72
  refine s_alloc 2 rfl (fun _ _ => trivial) (fun g => ?_)
  refine SX.next ?_
  refine CW.seq ?_
  refine CW.reg [0, 1, 2] rfl ?_   -- 1, ref.go:72
  refine s_mv 3 rfl rfl ?_
  refine s_build 4 rfl rfl rfl ?_
  refine s_stAll 0 rfl rfl (by kernel_rfl) rfl rfl rfl rfl (fun _ _ => trivial) ?_
  refine SX.next ?_
  refine CW.ret ?_
  exact KN.retC (rs := [.cell 2 167]) Tryd.results123 (fun w hw => ⟨[_], ⟨⟨_, rfl, hw.ldRow (q := 0) rfl (by rfl)⟩, trivial⟩, rfl, hw.nothing⟩)

theorem alike_same (i : Nat) (e : Nat → Addr) (w : World) : Spec1 Tryd.prog 203 [errV e i, errV e i] w (.bool true) := by
  refine spec_of Tryd.func203 rfl Tryd.ntmps203 rfl ?_
  refine CW.seq ?_
  refine CW.reg [0] rfl ?_   -- 0, see.go:88
  refine s_as 4 rfl rfl ?_
  refine SX.next ?_
  refine CW.seq ?_
  refine CW.seq ?_
  refine CW.reg [0, 1, 2, 3, 4, 5] rfl ?_   -- 1, see.go:89
  refine s_mv 5 rfl rfl ?_
  refine s_eqHN 6 rfl rfl ?_
  refine s_mv 7 rfl rfl ?_
  refine s_mv 8 rfl rfl ?_
  refine s_eqHN 9 rfl rfl ?_
  refine s_pickF 10 rfl rfl rfl ?_
  refine SX.next ?_
  refine CW.condF rfl ?_
  refine CW.skip ?_
  refine KN.code ?_
  refine CW.seq ?_
  refine CW.reg [0, 1, 2, 3] rfl ?_   -- 3, see.go:92
  refine s_mv 17 rfl rfl ?_
  refine s_mv 18 rfl rfl ?_
  refine s_eqE 19 rfl rfl rfl ?_
  refine s_as 4 rfl rfl ?_
  refine SX.next ?_
  refine CW.ret ?_
  exact KN.ret (rs := [.tmp 4]) Tryd.results203 rfl (fun w hw => ⟨rfl, hw.nothing⟩)

theorem alike_not (i j : Nat) (e : Nat → Addr) (w : World) (he : Has (ersA e apiErrs) w) (hi : i ∈ apiErrs) (hj : j ∈ apiErrs) (hne : i ≠ j) : Spec1 Tryd.prog 203 [errV e i, errV e j] w (.bool false) := by
  refine spec_of Tryd.func203 rfl Tryd.ntmps203 rfl ?_
  refine CW.seq ?_
  refine CW.reg [0] rfl ?_   -- 0, see.go:88
  refine s_as 4 rfl rfl ?_
  refine SX.next ?_
  refine CW.seq ?_
  refine CW.seq ?_
  refine CW.reg [0, 1, 2, 3, 4, 5] rfl ?_   -- 1, see.go:89
  refine s_mv 5 rfl rfl ?_
  refine s_eqHN 6 rfl rfl ?_
  refine s_mv 7 rfl rfl ?_
  refine s_mv 8 rfl rfl ?_
  refine s_eqHN 9 rfl rfl ?_
  refine s_pickF 10 rfl rfl rfl ?_
  refine SX.next ?_
  refine CW.condF rfl ?_
  refine CW.skip ?_
  refine KN.code ?_
  refine CW.seq ?_
  refine CW.reg [0, 1, 2, 3] rfl ?_   -- 3, see.go:92
  refine s_mv 17 rfl rfl ?_
  refine s_mv 18 rfl rfl ?_
  refine s_eqD 19 rfl rfl rfl (he.apart hi hj hne) (fun w hw => ⟨(hw.old he).live hi, (hw.old he).live hj⟩) ?_
  refine s_as 4 rfl rfl ?_
  refine SX.next ?_
  refine CW.ret ?_
  exact KN.ret (rs := [.tmp 4]) Tryd.results203 rfl (fun w hw => ⟨rfl, hw.nothing⟩)

theorem alike_spec (i j : Nat) (e : Nat → Addr) (w : World) (he : Has (ersA e apiErrs) w) (hi : i ∈ apiErrs) (hj : j ∈ apiErrs) : Spec1 Tryd.prog 203 [errV e i, errV e j] w (.bool (decide (i = j))) := by
  by_cases h : i = j
  · subst h; rw [decide_eq_true rfl]; exact alike_same i e w
  · rw [decide_eq_false h]; exact alike_not i j e w he hi hj h
def errCs (e : Nat → Addr) : Array Value := (apiErrs.map (errV e)).toArray
theorem errCs_at {e : Nat → Addr} {j k : Nat} (h : apiErrs[j]? = some k) : (errCs e)[j]? = some (errV e k) := by
  unfold errCs
  simp [h]

theorem sentinels_spec (e : Nat → Addr) (w : World) (he : Has (ersA e apiErrs) w) : SpecX Tryd.prog 202 [] w (X := Nat) (fun g => .slice (some ⟨g, 0, none⟩) 19 19) (fun _ => True) (fun g => [blk g 34 (errCs e)]) := by
  refine spec_of Tryd.func202 rfl Tryd.ntmps202 rfl ?_
  refine CW.seq ?_
  refine CW.reg [0] rfl ?_   -- 0, see.go:45
  refine s_as 0 rfl rfl ?_
  refine SX.next ?_
  refine CW.seq ?_
  refine CW.reg [0, 1, 2, 3, 4, 5, 6, 7, 8, 9, 10, 11, 12, 13, 14, 15, 16, 17, 18, 19, 20] rfl ?_   -- 1, see.go:46
  refine s_ld 1 rfl rfl (fun _ h => (h.old he).ers (by decide)) ?_
  refine s_ld 2 rfl rfl (fun _ h => (h.old he).ers (by decide)) ?_
  refine s_ld 3 rfl rfl (fun _ h => (h.old he).ers (by decide)) ?_
  refine s_ld 4 rfl rfl (fun _ h => (h.old he).ers (by decide)) ?_
  refine s_ld 5 rfl rfl (fun _ h => (h.old he).ers (by decide)) ?_
  refine s_ld 6 rfl rfl (fun _ h => (h.old he).ers (by decide)) ?_
  refine s_ld 7 rfl rfl (fun _ h => (h.old he).ers (by decide)) ?_
  refine s_ld 8 rfl rfl (fun _ h => (h.old he).ers (by decide)) ?_
  refine s_ld 9 rfl rfl (fun _ h => (h.old he).ers (by decide)) ?_
  refine s_ld 10 rfl rfl (fun _ h => (h.old he).ers (by decide)) ?_
  refine s_ld 11 rfl rfl (fun _ h => (h.old he).ers (by decide)) ?_
  refine s_ld 12 rfl rfl (fun _ h => (h.old he).ers (by decide)) ?_
  refine s_ld 13 rfl rfl (fun _ h => (h.old he).ers (by decide)) ?_
  refine s_ld 14 rfl rfl (fun _ h => (h.old he).ers (by decide)) ?_
  refine s_ld 15 rfl rfl (fun _ h => (h.old he).ers (by decide)) ?_
  refine s_ld 16 rfl rfl (fun _ h => (h.old he).ers (by decide)) ?_
  refine s_ld 17 rfl rfl (fun _ h => (h.old he).ers (by decide)) ?_
  refine s_ld 18 rfl rfl (fun _ h => (h.old he).ers (by decide)) ?_
  refine s_ld 19 rfl rfl (fun _ h => (h.old he).ers (by decide)) ?_
  refine s_bsl 20 rfl rfl (cells := errCs e) (by kernel_rfl) rfl (fun _ _ => trivial) (fun g => ?_)
  refine s_as 0 rfl rfl ?_
  refine SX.next ?_
  refine CW.ret ?_
  exact KN.ret (rs := [.tmp 0]) Tryd.results202 rfl (fun w hw => ⟨g, rfl, trivial, hw⟩)

theorem sentinel_spec (j k : Nat) (e : Nat → Addr) (w : World) (he : Has (ersA e apiErrs) w) (hj : apiErrs[j]? = some k) : Spec1 Tryd.prog 190 [errV e k] w (.int .i64 (101 + (j : Nat))) := by
  have hj19 := ers_lt hj
  refine spec_of Tryd.func190 rfl Tryd.ntmps190 rfl ?_
  refine CW.seq ?_
  refine CW.reg [0] rfl ?_   -- 0, see.go:34
  refine s_as 2 rfl rfl ?_
  refine SX.next ?_
  refine CW.seq ?_
  refine CW.reg [0, 1] rfl ?_   -- 1, see.go:35
  refine s_call 5 rfl rfl rfl rfl (fun w hw => sentinels_spec e w (hw.old he)) (fun _ _ => trivial) (fun g _ => ?_)
  refine s_as 3 rfl rfl ?_
  refine SX.next ?_
  refine CW.seq ?_
  refine CW.seq ?_
  refine CW.reg [0] rfl ?_   -- 2, see.go:36
  refine s_as 4 rfl rfl ?_
  refine SX.next ?_
  refine CW.block ?_
  refine CW.loop (G := Nat) (fun i => [(0, errV e k), (3, .slice (some ⟨g, 0, none⟩) 19 19), (4, .int .i64 (i : Nat))]) (fun _ => Sto w [blk g 34 (errCs e)]) (fun i => i ≤ j) (fun i => j - i) 0 ⟨rfl, rfl, rfl, trivial⟩ (fun _ h => h) (Nat.zero_le _) ?_
  intro i hi
  obtain ⟨k2, hk2⟩ : ∃ k2, apiErrs[i]? = some k2 := ⟨_, List.getElem?_eq_getElem (show i < apiErrs.length from (by show i < 19; omega))⟩
  have hcell := errCs_at (e := e) hk2
  refine CW.seq ?_
  refine CW.seq ?_
  refine CW.reg [0, 1, 2, 3] rfl ?_   -- 3, see.go:36
  refine s_mv 6 rfl rfl ?_
  refine s_mv 7 rfl rfl ?_
  refine s_len 8 rfl rfl ?_
  refine s_lt 9 rfl rfl rfl (decide_eq_true (by omega)) ?_
  refine SX.next ?_
  refine CW.condT rfl ?_
  refine CW.skip ?_
  refine KN.code ?_
  refine CW.seq ?_
  refine CW.block ?_
  refine CW.seq ?_
  refine CW.reg [0, 1, 2, 3, 4, 5] rfl ?_   -- 5, see.go:37
  refine s_mv 12 rfl rfl ?_
  refine s_mv 13 rfl rfl ?_
  refine s_mv 14 rfl rfl ?_
  refine s_ia0 15 i rfl rfl rfl rfl (by omega) ?_
  refine s_ldB 16 0 rfl rfl rfl hcell ?_
  refine s_call1 17 rfl rfl rfl rfl (fun w hw => alike_spec k k2 e _ (hw.old he) (ers_at hj) (ers_at hk2)) (fun _ _ => trivial) ?_
  refine SX.next ?_
  refine CW.test rfl (fun hc => ?_) (fun hc => ?_)
  · skip
    obtain rfl : i = j := ers_one (by rw [hk2, hc]) hj
    refine CW.seq ?_
    refine CW.reg [0, 1, 2] rfl ?_   -- 6, see.go:38
    refine s_mv 18 rfl rfl ?_
    refine s_add 19 rfl rfl rfl (w64 (by omega)) ?_
    refine s_as 2 rfl rfl ?_
    refine SX.next ?_
    refine CW.ret ?_
    exact KN.ret (rs := [.tmp 2]) Tryd.results190 rfl (fun w hw => ⟨rfl, hw.nothing⟩)
  · skip
    have hlt : i < j := by
      rcases Nat.lt_or_eq_of_le hi with h | h
      · exact h
      · subst h; rw [hk2] at hj; exact absurd (Option.some.inj hj).symm hc
    refine CW.skip ?_
    refine KN.blk ?_
    refine KN.code ?_
    refine CW.reg [0, 1, 2] rfl ?_   -- 4, see.go:36
    refine s_mv 10 rfl rfl ?_
    refine s_add 11 rfl rfl rfl (r := ((i + 1 : Nat) : Int)) (w64 (by omega)) ?_
    refine s_as 4 rfl rfl ?_
    refine SX.end_ ?_
    exact KN.back (i + 1) ⟨rfl, rfl, rfl, trivial⟩ (fun _ h => h) (by omega) (by omega)

theorem fault_spec (j k : Nat) (n : Int) (e : Nat → Addr) (w : World) (he : Has (ersA e apiErrs) w) (hj : apiErrs[j]? = some k) (hn : n ≠ 0) : Spec1 Tryd.prog 183 [errV e k, .int .i64 n] w (fltV (101 + (j : Nat))) := by
  refine spec_of Tryd.func183 rfl Tryd.ntmps183 rfl ?_
  refine CW.seq ?_
  refine CW.reg [0] rfl ?_   -- 0, see.go:18
  refine s_alloc 4 rfl (fun _ _ => trivial) (fun g => ?_)
  refine SX.next ?_
  refine CW.seq ?_
  refine CW.seq ?_
  refine CW.reg [0, 1, 2, 3, 4, 5] rfl ?_   -- 1, see.go:19
  refine s_mv 7 rfl rfl ?_
  refine s_eqHN 8 rfl rfl ?_
  refine s_mv 9 rfl rfl ?_
  refine s_mv 10 rfl rfl ?_
  refine s_eq 11 rfl rfl rfl (decide_eq_false hn) ?_
  refine s_pickF 12 rfl rfl rfl ?_
  refine SX.next ?_
  refine CW.condF rfl ?_
  refine CW.skip ?_
  refine KN.code ?_
  refine CW.seq ?_
  refine CW.seq ?_
  refine CW.reg [0] rfl ?_   -- 3, see.go:22
  refine s_mv 14 rfl rfl ?_
  refine SX.next ?_
  refine CW.block ?_
  refine CW.seq ?_
  refine CW.reg [0, 1, 2] rfl ?_   -- 4, see.go:22
  refine s_taF 15 rfl rfl rfl ?_
  refine s_ext 16 rfl rfl rfl ?_
  refine s_ext 17 rfl rfl rfl ?_
  refine SX.next ?_
  refine CW.condF rfl ?_
  refine CW.skip ?_
  refine KN.blk ?_
  refine KN.code ?_
  refine CW.seq ?_
  refine CW.reg [0, 1, 2, 3] rfl ?_   -- 10, see.go:30
  refine s_mv 34 rfl rfl ?_
  refine s_call1 35 rfl rfl rfl rfl (fun w hw => sentinel_spec j k e _ (hw.old he) hj) (fun _ _ => trivial) ?_
  refine s_call1 36 rfl rfl rfl rfl (fun w hw => sbare_spec _ _) (fun _ _ => trivial) ?_
  refine s_stAll 0 rfl rfl (by kernel_rfl) rfl rfl rfl rfl (fun _ _ => trivial) ?_
  refine SX.next ?_
  refine CW.ret ?_
  exact KN.retC (rs := [.cell 4 167]) Tryd.results183 (fun w hw => ⟨[_], ⟨⟨_, rfl, hw.ldRow (q := 0) rfl (by rfl)⟩, trivial⟩, rfl, hw.nothing⟩)

theorem see_spec (j k : Nat) (e : Nat → Addr) (w : World) (he : Has (ersA e apiErrs) w) (hj : apiErrs[j]? = some k) : Spec1 Tryd.prog 167 [errV e k] w (fltV (101 + (j : Nat))) := by
  refine spec_of Tryd.func167 rfl Tryd.ntmps167 rfl ?_
  refine CW.seq ?_
  refine CW.reg [0] rfl ?_   -- 0, see.go:10
  refine s_alloc 2 rfl (fun _ _ => trivial) (fun g => ?_)
  refine SX.next ?_
  refine CW.seq ?_
  refine CW.seq ?_
  refine CW.reg [0, 1] rfl ?_   -- 1, see.go:11
  refine s_mv 3 rfl rfl ?_
  refine s_eqHN 4 rfl rfl ?_
  refine SX.next ?_
  refine CW.condF rfl ?_
  refine CW.skip ?_
  refine KN.code ?_
  refine CW.seq ?_
  refine CW.reg [0, 1, 2] rfl ?_   -- 3, see.go:14
  refine s_mv 6 rfl rfl ?_
  refine s_call1 7 rfl rfl rfl rfl (fun w hw => fault_spec j k 9 e _ (hw.old he) hj (by decide)) (fun _ _ => trivial) ?_
  refine s_stAll 0 rfl rfl (by kernel_rfl) rfl rfl rfl rfl (fun _ _ => trivial) ?_
  refine SX.next ?_
  refine CW.ret ?_
  exact KN.retC (rs := [.cell 2 167]) Tryd.results167 (fun w hw => ⟨[_], ⟨⟨_, rfl, hw.ldRow (q := 0) rfl (by rfl)⟩, trivial⟩, rfl, hw.nothing⟩)

theorem see_none (w : World) : Spec1 Tryd.prog 167 [.nilIface] w (fltV 0) := by
  refine spec_of Tryd.func167 rfl Tryd.ntmps167 rfl ?_
  refine CW.seq ?_
  refine CW.reg [0] rfl ?_   -- 0, see.go:10
  refine s_alloc 2 rfl (fun _ _ => trivial) (fun g => ?_)
  refine SX.next ?_
  refine CW.seq ?_
  refine CW.seq ?_
  refine CW.reg [0, 1] rfl ?_   -- 1, see.go:11
  refine s_mv 3 rfl rfl ?_
  refine s_eqNN 4 rfl rfl ?_
  refine SX.next ?_
  refine CW.condT rfl ?_
  refine CW.seq ?_
  refine CW.reg [0, 1] rfl ?_   -- 2, see.go:12
  refine s_call1 5 rfl rfl rfl rfl (fun w hw => none_spec _) (fun _ _ => trivial) ?_
  refine s_stAll 0 rfl rfl (by kernel_rfl) rfl rfl rfl rfl (fun _ _ => trivial) ?_
  refine SX.next ?_
  refine CW.ret ?_
  exact KN.retC (rs := [.cell 2 167]) Tryd.results167 (fun w hw => ⟨[_], ⟨⟨_, rfl, hw.ldRow (q := 0) rfl (by rfl)⟩, trivial⟩, rfl, hw.nothing⟩)

theorem sameInts_nil (w : World) : Spec1 Tryd.prog 47 [.slice none 0 0, .slice none 0 0] w (.bool true) := by
  refine spec_of Tryd.func47 rfl Tryd.ntmps47 rfl ?_
  refine CW.seq ?_
  refine CW.reg [0] rfl ?_   -- 0, ref.go:132
  refine s_as 4 rfl rfl ?_
  refine SX.next ?_
  refine CW.seq ?_
  refine CW.seq ?_
  refine CW.reg [0, 1, 2, 3, 4] rfl ?_   -- 1, ref.go:133
  refine s_mv 7 rfl rfl ?_
  refine s_len 8 rfl rfl ?_
  refine s_mv 9 rfl rfl ?_
  refine s_len 10 rfl rfl ?_
  refine s_ne 11 rfl rfl rfl (decide_eq_false (fun h => h rfl)) ?_
  refine SX.next ?_
  refine CW.condF rfl ?_
  refine CW.skip ?_
  refine KN.code ?_
  refine CW.seq ?_
  refine CW.seq ?_
  refine CW.reg [0] rfl ?_   -- 3, ref.go:136
  refine s_as 5 rfl rfl ?_
  refine SX.next ?_
  refine CW.block ?_
  refine CW.loop (G := Unit) (fun _ => [(0, .slice none 0 0), (1, .slice none 0 0), (5, .int .i64 0)]) (fun _ => Sto w []) (fun _ => True) (fun _ => 0) () ⟨rfl, rfl, rfl, trivial⟩ (fun _ h => h) trivial ?_
  intro _ _
  refine CW.seq ?_
  refine CW.seq ?_
  refine CW.reg [0, 1, 2, 3] rfl ?_   -- 4, ref.go:136
  refine s_mv 12 rfl rfl ?_
  refine s_mv 13 rfl rfl ?_
  refine s_len 14 rfl rfl ?_
  refine s_lt 15 rfl rfl rfl (decide_eq_false (by decide)) ?_
  refine SX.next ?_
  refine CW.condF rfl ?_
  refine CW.exit rfl ?_
  refine KN.code ?_
  refine CW.seq ?_
  refine CW.reg [0] rfl ?_   -- 9, ref.go:142
  refine s_as 4 rfl rfl ?_
  refine SX.next ?_
  refine CW.ret ?_
  exact KN.ret (rs := [.tmp 4]) Tryd.results47 rfl (fun w hw => ⟨rfl, hw.nothing⟩)

theorem sameFault_bare (c d : Int) (w : World) : Spec1 Tryd.prog 168 [fltV c, fltV d] w (.bool (decide (c = d))) := by
  refine spec_of Tryd.func168 rfl Tryd.ntmps168 rfl ?_
  refine CW.seq ?_
  refine CW.reg [0, 1, 2] rfl ?_   -- 0, ref.go:91
  refine s_box 2 rfl rfl (fun _ _ => trivial) (fun g => ?_)
  refine s_box 3 rfl rfl (fun _ _ => trivial) (fun g2 => ?_)
  refine s_as 4 rfl rfl ?_
  refine SX.next ?_
  refine CW.seq ?_
  refine CW.reg [0, 1, 2, 3, 4, 5] rfl ?_   -- 1, ref.go:92
  refine s_fa 6 rfl rfl ?_
  refine s_ldB 7 1 rfl rfl rfl rfl ?_
  refine s_fa 8 rfl rfl ?_
  refine s_ldB 9 0 rfl rfl rfl rfl ?_
  refine s_call1 10 rfl rfl rfl rfl (fun w hw => sameInts_nil _) (fun _ _ => trivial) ?_
  refine s_as 5 rfl rfl ?_
  refine SX.next ?_
  refine CW.seq ?_
  refine CW.reg [0, 1, 2, 3, 4, 5, 6, 7, 8] rfl ?_   -- 2, ref.go:93
  refine s_fa 11 rfl rfl ?_
  refine s_ldB 12 1 rfl rfl rfl rfl ?_
  refine s_fa 13 rfl rfl ?_
  refine s_ldB 14 0 rfl rfl rfl rfl ?_
  refine s_eq 15 rfl rfl rfl rfl ?_
  refine s_mv 16 rfl rfl ?_
  refine SX.bool 16 rfl (fun hb => ?_) (fun hb => ?_)
  · skip
    refine s_mv 17 rfl rfl ?_
    refine s_pickT 18 rfl rfl rfl ?_
    refine s_as 4 rfl rfl ?_
    refine SX.next ?_
    refine CW.ret ?_
    exact KN.ret (rs := [.tmp 4]) Tryd.results168 rfl (fun w hw => ⟨by rw [hb]; rfl, hw.nothing⟩)
  · skip
    refine SX.skip rfl ?_
    refine s_pickF 18 rfl rfl rfl ?_
    refine s_as 4 rfl rfl ?_
    refine SX.next ?_
    refine CW.ret ?_
    exact KN.ret (rs := [.tmp 4]) Tryd.results168 rfl (fun w hw => ⟨by rw [hb]; rfl, hw.nothing⟩)

theorem same_spec (j k : Nat) (d : Int) (e : Nat → Addr) (w : World) (he : Has (ersA e apiErrs) w) (hj : apiErrs[j]? = some k) : Spec1 Tryd.prog 122 [errV e k, fltV d] w (.bool (decide ((101 + (j : Nat) : Int) = d))) := by
  refine spec_of Tryd.func122 rfl Tryd.ntmps122 rfl ?_
  refine CW.seq ?_
  refine CW.reg [0, 1] rfl ?_   -- 0, see.go:70
  refine s_box 3 rfl rfl (fun _ _ => trivial) (fun g => ?_)
  refine s_as 4 rfl rfl ?_
  refine SX.next ?_
  refine CW.seq ?_
  refine CW.reg [0, 1, 2, 3] rfl ?_   -- 1, see.go:71
  refine s_mv 6 rfl rfl ?_
  refine s_call1 7 rfl rfl rfl rfl (fun w hw => see_spec j k e _ (hw.old he) hj) (fun _ _ => trivial) ?_
  refine s_alloc 5 rfl (fun _ _ => trivial) (fun g2 => ?_)
  refine s_stAll 0 rfl rfl (by kernel_rfl) rfl rfl rfl rfl (fun _ _ => trivial) ?_
  refine SX.next ?_
  refine CW.seq ?_
  refine CW.reg [0, 1, 2, 3] rfl ?_   -- 2, see.go:72
  refine s_ldW 8 0 rfl rfl rfl ?_
  refine s_ldW 9 1 rfl rfl rfl ?_
  refine s_call1 10 rfl rfl rfl rfl (fun w hw => sameFault_bare _ d _) (fun _ _ => trivial) ?_
  refine s_as 4 rfl rfl ?_
  refine SX.next ?_
  refine CW.ret ?_
  exact KN.ret (rs := [.tmp 4]) Tryd.results122 rfl (fun w hw => ⟨rfl, hw.nothing⟩)

theorem is_err (j k : Nat) (d : Int) (e : Nat → Addr) (w : World) (he : Has (ersA e apiErrs) w) (hj : apiErrs[j]? = some k) : Spec1 Tryd.prog 31 [errV e k, .int .i64 d] w (.bool (decide ((101 + (j : Nat) : Int) = d))) := by
  refine spec_of Tryd.func31 rfl Tryd.ntmps31 rfl ?_
  refine CW.seq ?_
  refine CW.reg [0] rfl ?_   -- 0, see.go:76
  refine s_as 4 rfl rfl ?_
  refine SX.next ?_
  refine CW.seq ?_
  refine CW.reg [0, 1, 2, 3, 4] rfl ?_   -- 1, see.go:76
  refine s_mv 5 rfl rfl ?_
  refine s_mv 6 rfl rfl ?_
  refine s_call1 7 rfl rfl rfl rfl (fun w hw => sbare_spec _ _) (fun _ _ => trivial) ?_
  refine s_call1 8 rfl rfl rfl rfl (fun w hw => same_spec j k d e _ (hw.old he) hj) (fun _ _ => trivial) ?_
  refine s_as 4 rfl rfl ?_
  refine SX.next ?_
  refine CW.ret ?_
  exact KN.ret (rs := [.tmp 4]) Tryd.results31 rfl (fun w hw => ⟨rfl, hw.nothing⟩)

theorem same_none (d : Int) (w : World) : Spec1 Tryd.prog 122 [.nilIface, fltV d] w (.bool (decide ((0 : Int) = d))) := by
  refine spec_of Tryd.func122 rfl Tryd.ntmps122 rfl ?_
  refine CW.seq ?_
  refine CW.reg [0, 1] rfl ?_   -- 0, see.go:70
  refine s_box 3 rfl rfl (fun _ _ => trivial) (fun g => ?_)
  refine s_as 4 rfl rfl ?_
  refine SX.next ?_
  refine CW.seq ?_
  refine CW.reg [0, 1, 2, 3] rfl ?_   -- 1, see.go:71
  refine s_mv 6 rfl rfl ?_
  refine s_call1 7 rfl rfl rfl rfl (fun w hw => see_none _) (fun _ _ => trivial) ?_
  refine s_alloc 5 rfl (fun _ _ => trivial) (fun g2 => ?_)
  refine s_stAll 0 rfl rfl (by kernel_rfl) rfl rfl rfl rfl (fun _ _ => trivial) ?_
  refine SX.next ?_
  refine CW.seq ?_
  refine CW.reg [0, 1, 2, 3] rfl ?_   -- 2, see.go:72
  refine s_ldW 8 0 rfl rfl rfl ?_
  refine s_ldW 9 1 rfl rfl rfl ?_
  refine s_call1 10 rfl rfl rfl rfl (fun w hw => sameFault_bare _ d _) (fun _ _ => trivial) ?_
  refine s_as 4 rfl rfl ?_
  refine SX.next ?_
  refine CW.ret ?_
  exact KN.ret (rs := [.tmp 4]) Tryd.results122 rfl (fun w hw => ⟨rfl, hw.nothing⟩)

theorem is_none (d : Int) (w : World) : Spec1 Tryd.prog 31 [.nilIface, .int .i64 d] w (.bool (decide ((0 : Int) = d))) := by
  refine spec_of Tryd.func31 rfl Tryd.ntmps31 rfl ?_
  refine CW.seq ?_
  refine CW.reg [0] rfl ?_   -- 0, see.go:76
  refine s_as 4 rfl rfl ?_
  refine SX.next ?_
  refine CW.seq ?_
  refine CW.reg [0, 1, 2, 3, 4] rfl ?_   -- 1, see.go:76
  refine s_mv 5 rfl rfl ?_
  refine s_mv 6 rfl rfl ?_
  refine s_call1 7 rfl rfl rfl rfl (fun w hw => sbare_spec _ _) (fun _ _ => trivial) ?_
  refine s_call1 8 rfl rfl rfl rfl (fun w hw => same_none d _) (fun _ _ => trivial) ?_
  refine s_as 4 rfl rfl ?_
  refine SX.next ?_
  refine CW.ret ?_
  exact KN.ret (rs := [.tmp 4]) Tryd.results31 rfl (fun w hw => ⟨rfl, hw.nothing⟩)
end Go.Proofs.YtompcfingkoldaaDoor
end
section
/- The document's Least and Generator, and the statement MinimalGenerators, walked. Conditions: the errors' variables. -/
namespace Go.Proofs.YtompcfingkoldaaDoor
open Go Go.Sx Go.Fm Nb
set_option maxRecDepth 100000
/-- The odd numbers whose cosets are new. -/
def ldo (m : Nat) : Nat → List Nat
  | 0 => []
  | k + 1 => if hdP m (2 * k + 1) ∈ (ldr m k).1 then ldo m k else ldo m k ++ [2 * k + 1]
theorem ldo_old {m k : Nat} (h : hdP m (2 * k + 1) ∈ (ldr m k).1) : ldo m (k + 1) = ldo m k := if_pos h
theorem ldo_new {m k : Nat} (h : hdP m (2 * k + 1) ∉ (ldr m k).1) : ldo m (k + 1) = ldo m k ++ [2 * k + 1] := if_neg h
theorem ldo_len (m : Nat) : ∀ k, (ldo m k).length ≤ k
  | 0 => Nat.le_refl _
  | k + 1 => by
    have := ldo_len m k
    unfold ldo
    split
    · omega
    · simp; omega
theorem ldo_hd (m : Nat) : ∀ k, (ldr m k).1 = (ldo m k).map (hdP m)
  | 0 => rfl
  | k + 1 => by
    have ih := ldo_hd m k
    by_cases h : hdP m (2 * k + 1) ∈ (ldr m k).1
    · rw [ldr_old h, ldo_old h, ih]
    · rw [ldr_new h, ldo_new h]
      show (ldr m k).1 ++ [hdP m (2 * k + 1)] = _
      rw [List.map_append, ih]; rfl
theorem gen_hd {m : Nat} (hm : Ok m) (L : List Nat) : genL m (L.map (hdP m)) = genL m L := snoc_ind (P := fun L => genL m (L.map (hdP m)) = genL m L) rfl (fun L k ih => by
  rw [List.map_append]
  show genL m (L.map (hdP m) ++ [hdP m k]) = _
  rw [gen_snoc hm, gen_snoc hm, ih, minP_same hm (hd_mem hm k)]) L
theorem gen_ldo {m : Nat} (hm : Ok m) (t : Nat) : genL m (ldo m t) = genL m (ldr m t).1 := by rw [ldo_hd, gen_hd hm]
/-- Whether a number's coset was met. -/
def seenB (m k x : Nat) : Bool := decide (hdP m x ∈ (ldr m k).1)
def seenM (m k j x : Nat) : Bool := seenB m k x || decide (x ∈ orb m (2 * k + 1) j)
theorem seenB_zero (m : Nat) : seenB m 0 = fun _ => false := by funext x; unfold seenB; exact decide_eq_false (fun h => by cases h)
theorem seenM_zero (m k : Nat) : seenM m k 0 = seenB m k := by funext x; unfold seenM; rw [decide_eq_false (fun h => by simp [orb] at h), Bool.or_false]
theorem seenM_next (m k j : Nat) : (fun x => if x = cst m (2 * k + 1) j then true else seenM m k j x) = seenM m k (j + 1) := by
  funext x
  unfold seenM
  rw [orb_succ]
  by_cases h : x = cst m (2 * k + 1) j
  · subst h; simp
  · rw [if_neg h]
    congr 1
    rw [decide_eq_decide, List.mem_append, List.mem_singleton]
    exact ⟨.inl, fun h2 => h2.resolve_right h⟩
theorem hd_cst {m : Nat} (hm : Ok m) (i j : Nat) : hdP m (cst m i j) = hdP m i := hd_same hm ((cos_mem hm).2 ⟨j, rfl⟩)
theorem hd_iff {m : Nat} (hm : Ok m) {i x : Nat} (hx : x < N m) : hdP m x = hdP m i ↔ x ∈ cosP m i := ⟨fun h => by
  have h1 := cos_self hm x hx
  rw [← hd_cos hm x, h, hd_cos hm i] at h1
  exact h1, fun h => hd_same hm h⟩
theorem seenM_full {m : Nat} (hm : Ok m) {k j : Nat} (hnew : hdP m (2 * k + 1) ∉ (ldr m k).1) (h : cst m (2 * k + 1) j ∈ orb m (2 * k + 1) j) {x : Nat} (hx : x < N m) : seenM m k j x = seenB m (k + 1) x := by
  unfold seenM seenB
  rw [ldr_new hnew, ← Bool.decide_or, decide_eq_decide, List.mem_append, List.mem_singleton, hd_iff hm hx, orb_all hm h]
theorem seenB_old {m k : Nat} (h : hdP m (2 * k + 1) ∈ (ldr m k).1) : seenB m (k + 1) = seenB m k := by funext x; unfold seenB; rw [ldr_old h]
/-! ### What Least tells -/
def leastC (m t : Int) : Nat := if m < 3 ∨ 14 < m then 101 else if t < 1 ∨ 40 < t then 102 else if (ldr m.toNat t.toNat).2 < N m.toNat then 0 else 105
def leastD (m t : Int) : Int := if leastC m t = 0 then ((ldr m.toNat t.toNat).2 : Nat) else 0
def ldoA (m t : Int) : List Nat := if leastC m t = 0 then ldo m.toNat t.toNat else []
def genA (m t : Int) : List Nat := if leastC m t = 0 then bys (genL m.toNat (ldr m.toNat t.toNat).1) else []
def errC (e : Nat → Addr) : Nat → Value
  | 0 => .nilIface
  | 101 => errV e 7
  | 102 => errV e 1
  | _ => errV e 2
theorem lc_num {M : Nat} {t : Int} (hm : Ok M) (h : t < 1 ∨ 40 < t) : leastC M t = 102 := by
  have h1 := hm.lo; have h2 := hm.hi
  unfold leastC; rw [if_neg (by omega), if_pos h]
theorem lc_field {m t : Int} (h : m < 3 ∨ 14 < m) : leastC m t = 101 := if_pos h
theorem lc_ok {M T : Nat} (hm : Ok M) (h1 : 1 ≤ T) (h40 : T ≤ 40) (h : (ldr M T).2 < N M) : leastC M T = 0 := by
  have h2 := hm.lo; have h3 := hm.hi
  unfold leastC; rw [if_neg (by omega), if_neg (by omega)]; exact if_pos h
theorem lc_code {M T : Nat} (hm : Ok M) (h1 : 1 ≤ T) (h40 : T ≤ 40) (h : ¬ (ldr M T).2 < N M) : leastC M T = 105 := by
  have h2 := hm.lo; have h3 := hm.hi
  unfold leastC; rw [if_neg (by omega), if_neg (by omega)]; exact if_neg h
theorem lc_cases (m t : Int) : (m < 3 ∨ 14 < m) ∨ ∃ M : Nat, m = (M : Nat) ∧ Ok M ∧ ((t < 1 ∨ 40 < t) ∨ ∃ T : Nat, t = (T : Nat) ∧ 1 ≤ T ∧ T ≤ 40 ∧ ((ldr M T).2 < N M ∨ ¬ (ldr M T).2 < N M)) := by
  by_cases h : m < 3 ∨ 14 < m
  · exact .inl h
  · refine .inr ⟨m.toNat, by omega, ⟨by omega, by omega⟩, ?_⟩
    by_cases h2 : t < 1 ∨ 40 < t
    · exact .inl h2
    · exact .inr ⟨t.toNat, by omega, by omega, by omega, Classical.em _⟩
theorem least_any (m t : Int) (e : Nat → Addr) (w : World) (he : Has (ersA e apiErrs) w) : Spec1 Tryd.prog 118 [.int .i64 m, .int .i64 t] w (two (.int .i64 (leastD m t)) (errC e (leastC m t))) := by
  unfold leastD
  rcases lc_cases m t with h | ⟨M, rfl, hm, h | ⟨T, rfl, h1, h40, h | h⟩⟩
  · rw [lc_field h]; exact least_field m t e w h (he.ers (by decide))
  · rw [lc_num hm h]; exact least_num M t e w hm h (he.ers (by decide))
  · rw [lc_ok hm h1 h40 h]; exact least_ok M T e w hm h1 h40 h
  · rw [lc_code hm h1 h40 h]; exact least_code M T e w hm h1 h40 (he.ers (by decide)) h
theorem is_any (m t : Int) (e : Nat → Addr) (w : World) (he : Has (ersA e apiErrs) w) : Spec1 Tryd.prog 31 [errC e (leastC m t), .int .i64 (leastC m t : Nat)] w (.bool true) := by
  rcases lc_cases m t with h | ⟨M, rfl, hm, h | ⟨T, rfl, h1, h40, h | h⟩⟩
  · rw [lc_field h]; exact is_err 0 _ 101 e w he rfl
  · rw [lc_num hm h]; exact is_err 1 _ 102 e w he rfl
  · rw [lc_ok hm h1 h40 h]; exact is_none 0 w
  · rw [lc_code hm h1 h40 h]; exact is_err 4 _ 105 e w he rfl
/-- Where nothing is told, an empty list is. -/
theorem spec_nil {P : Program} {f : FuncId} {args : List Value} {w : World} {v : Value} (E : TypeId) (k : IntKind) {V : Option Addr × Nat → Value} (h : Spec1 P f args w v) (hv : V (none, 0) = v) : SpecX P f args w (X := Option Addr × Nat) V (fun q => ([] : List Nat).length ≤ q.2) (fun q => [own E 1 q.1 ([] : List Nat).length q.2 (nats k [])]) :=
  Calls.mono h (fun _ _ ⟨h1, h2⟩ => ⟨(none, 0), by rw [h1, hv], Nat.le_refl _, h2.begin_ E 1⟩)

theorem gen_any (g m : Nat) (t : Int) (e : Nat → Addr) (w : World) (hm : Ok m) (hf : Has (fieldA g m) w) (he : Has (ersA e apiErrs) w) : SpecX Tryd.prog 120 [.pointer (some ⟨g, 0, none⟩), .int .i64 t] w (X := Option Addr × Nat) (fun q => two (.slice q.1 (genA (m : Nat) t).length q.2) (errC e (leastC (m : Nat) t))) (fun q => (genA (m : Nat) t).length ≤ q.2) (fun q => [own 5 1 q.1 (genA (m : Nat) t).length q.2 (nats .u8 (genA (m : Nat) t))]) := by
  unfold genA
  have hlo := hm.lo
  have hhi := hm.hi
  rcases lc_cases m t with h | ⟨M, hM, _, h | ⟨T, rfl, h1, h40, h | h⟩⟩
  · omega
  · obtain rfl : m = M := by omega
    rw [lc_num hm h]; exact spec_nil 5 .u8 (gen_num g m t e w hm hf h (he.ers (by decide))) rfl
  · obtain rfl : m = M := by omega
    rw [lc_ok hm h1 h40 h]; exact gen_ok g m T e w hm hf h1 h40 h
  · obtain rfl : m = M := by omega
    rw [lc_code hm h1 h40 h]; exact spec_nil 5 .u8 (gen_code g m T e w hm hf h1 h40 (he.ers (by decide)) h) rfl

theorem rleast_field (m t : Int) (w : World) (h : m < 3 ∨ 14 < m) : Spec1 Tryd.prog 116 [.int .i64 m, .int .i64 t] w (tri (.int .i64 0) (.slice none 0 0) (.int .i64 101)) := by
  refine spec_of Tryd.func116 rfl Tryd.ntmps116 rfl ?_
  refine CW.seq ?_
  refine CW.reg [0, 1, 2] rfl ?_   -- 0, field.go:254
  refine s_as 4 rfl rfl ?_
  refine s_as 5 rfl rfl ?_
  refine s_as 6 rfl rfl ?_
  refine SX.next ?_
  refine CW.seq ?_
  refine CW.seq ?_
  refine CW.reg [0, 1, 2, 3, 4, 5] rfl ?_   -- 1, field.go:255
  refine s_mv 13 rfl rfl ?_
  refine s_lt 14 rfl rfl rfl rfl ?_
  refine s_mv 15 rfl rfl ?_
  refine SX.bool 15 rfl (fun hb => ?_) (fun hb => ?_)
  · skip
    skip
    refine SX.skip rfl ?_
    refine SX.skip rfl ?_
    refine s_pickT 18 rfl rfl rfl ?_
    refine SX.next ?_
    refine CW.condT rfl ?_
    refine CW.seq ?_
    refine CW.reg [0, 1, 2] rfl ?_   -- 2, field.go:256
    refine s_as 4 rfl rfl ?_
    refine s_as 5 rfl rfl ?_
    refine s_as 6 rfl rfl ?_
    refine SX.next ?_
    refine CW.ret ?_
    exact KN.ret (rs := [.tmp 4, .tmp 5, .tmp 6]) Tryd.results116 rfl (fun w hw => ⟨rfl, hw.nothing⟩)
  · skip
    have hp1 := of_decide_eq_false hb
    refine s_mv 16 rfl rfl ?_
    refine s_gt 17 rfl rfl rfl (decide_eq_true (by omega)) ?_
    refine s_pickF 18 rfl rfl rfl ?_
    refine SX.next ?_
    refine CW.condT rfl ?_
    refine CW.seq ?_
    refine CW.reg [0, 1, 2] rfl ?_   -- 2, field.go:256
    refine s_as 4 rfl rfl ?_
    refine s_as 5 rfl rfl ?_
    refine s_as 6 rfl rfl ?_
    refine SX.next ?_
    refine CW.ret ?_
    exact KN.ret (rs := [.tmp 4, .tmp 5, .tmp 6]) Tryd.results116 rfl (fun w hw => ⟨rfl, hw.nothing⟩)

theorem rleast_num (m : Nat) (t : Int) (w : World) (hm : Ok m) (h : t < 1 ∨ 40 < t) : Spec1 Tryd.prog 116 [.int .i64 (m : Nat), .int .i64 t] w (tri (.int .i64 0) (.slice none 0 0) (.int .i64 102)) := by
  have hlo := hm.lo
  have hhi := hm.hi
  refine spec_of Tryd.func116 rfl Tryd.ntmps116 rfl ?_
  refine CW.seq ?_
  refine CW.reg [0, 1, 2] rfl ?_   -- 0, field.go:254
  refine s_as 4 rfl rfl ?_
  refine s_as 5 rfl rfl ?_
  refine s_as 6 rfl rfl ?_
  refine SX.next ?_
  refine CW.seq ?_
  refine CW.seq ?_
  refine CW.reg [0, 1, 2, 3, 4, 5] rfl ?_   -- 1, field.go:255
  refine s_mv 13 rfl rfl ?_
  refine s_lt 14 rfl rfl rfl (decide_eq_false (by omega)) ?_
  refine s_mv 15 rfl rfl ?_
  refine s_mv 16 rfl rfl ?_
  refine s_gt 17 rfl rfl rfl (decide_eq_false (by omega)) ?_
  refine s_pickF 18 rfl rfl rfl ?_
  refine SX.next ?_
  refine CW.condF rfl ?_
  refine CW.skip ?_
  refine KN.code ?_
  refine CW.seq ?_
  refine CW.seq ?_
  refine CW.reg [0, 1, 2, 3, 4, 5] rfl ?_   -- 3, field.go:258
  refine s_mv 19 rfl rfl ?_
  refine s_lt 20 rfl rfl rfl rfl ?_
  refine s_mv 21 rfl rfl ?_
  refine SX.bool 21 rfl (fun hb => ?_) (fun hb => ?_)
  · skip
    skip
    refine SX.skip rfl ?_
    refine SX.skip rfl ?_
    refine s_pickT 24 rfl rfl rfl ?_
    refine SX.next ?_
    refine CW.condT rfl ?_
    refine CW.seq ?_
    refine CW.reg [0, 1, 2] rfl ?_   -- 4, field.go:259
    refine s_as 4 rfl rfl ?_
    refine s_as 5 rfl rfl ?_
    refine s_as 6 rfl rfl ?_
    refine SX.next ?_
    refine CW.ret ?_
    exact KN.ret (rs := [.tmp 4, .tmp 5, .tmp 6]) Tryd.results116 rfl (fun w hw => ⟨rfl, hw.nothing⟩)
  · skip
    have hp1 := of_decide_eq_false hb
    refine s_mv 22 rfl rfl ?_
    refine s_gt 23 rfl rfl rfl (decide_eq_true (by omega)) ?_
    refine s_pickF 24 rfl rfl rfl ?_
    refine SX.next ?_
    refine CW.condT rfl ?_
    refine CW.seq ?_
    refine CW.reg [0, 1, 2] rfl ?_   -- 4, field.go:259
    refine s_as 4 rfl rfl ?_
    refine s_as 5 rfl rfl ?_
    refine s_as 6 rfl rfl ?_
    refine SX.next ?_
    refine CW.ret ?_
    exact KN.ret (rs := [.tmp 4, .tmp 5, .tmp 6]) Tryd.results116 rfl (fun w hw => ⟨rfl, hw.nothing⟩)

theorem rleast_ok (m t : Nat) (w : World) (hm : Ok m) (h1 : 1 ≤ t) (h40 : t ≤ 40) (hd : (ldr m t).2 < N m) : SpecX Tryd.prog 116 [.int .i64 (m : Nat), .int .i64 (t : Nat)] w (X := Option Addr × Nat) (fun q => tri (.int .i64 ((ldr m t).2 : Nat)) (.slice q.1 (ldo m t).length q.2) (.int .i64 0)) (fun q => (ldo m t).length ≤ q.2) (fun q => [own 3 1 q.1 (ldo m t).length q.2 (nats .i64 (ldo m t))]) := by
  have hNs := N_succ m
  have hNp := N_pos hm
  have hmh := hm.hi
  have hml := hm.lo
  refine spec_of Tryd.func116 rfl Tryd.ntmps116 rfl ?_
  refine CW.seq ?_
  refine CW.reg [0, 1, 2] rfl ?_   -- 0, field.go:254
  refine s_as 4 rfl rfl ?_
  refine s_as 5 rfl rfl ?_
  refine s_as 6 rfl rfl ?_
  refine SX.next ?_
  refine CW.seq ?_
  refine CW.seq ?_
  refine CW.reg [0, 1, 2, 3, 4, 5] rfl ?_   -- 1, field.go:255
  refine s_mv 13 rfl rfl ?_
  refine s_lt 14 rfl rfl rfl (decide_eq_false (by omega)) ?_
  refine s_mv 15 rfl rfl ?_
  refine s_mv 16 rfl rfl ?_
  refine s_gt 17 rfl rfl rfl (decide_eq_false (by omega)) ?_
  refine s_pickF 18 rfl rfl rfl ?_
  refine SX.next ?_
  refine CW.condF rfl ?_
  refine CW.skip ?_
  refine KN.code ?_
  refine CW.seq ?_
  refine CW.seq ?_
  refine CW.reg [0, 1, 2, 3, 4, 5] rfl ?_   -- 3, field.go:258
  refine s_mv 19 rfl rfl ?_
  refine s_lt 20 rfl rfl rfl (decide_eq_false (by omega)) ?_
  refine s_mv 21 rfl rfl ?_
  refine s_mv 22 rfl rfl ?_
  refine s_gt 23 rfl rfl rfl (decide_eq_false (by omega)) ?_
  refine s_pickF 24 rfl rfl rfl ?_
  refine SX.next ?_
  refine CW.condF rfl ?_
  refine CW.skip ?_
  refine KN.code ?_
  refine CW.seq ?_
  refine CW.reg [0, 1, 2, 3, 4] rfl ?_   -- 5, field.go:261
  refine s_mv 25 rfl rfl ?_
  refine s_conv 26 rfl rfl (u64_nat hm) ?_
  refine s_shl 27 rfl rfl rfl (by omega) (shl_one hm) ?_
  refine s_sub 28 rfl rfl rfl (r := ((N m : Nat) : Int)) (by rw [show ((N m + 1 : Nat) : Int) - 1 = ((N m : Nat) : Int) by omega]; exact w64 (by omega)) ?_
  refine s_as 7 rfl rfl ?_
  refine SX.next ?_
  refine CW.seq ?_
  refine CW.reg [0, 1, 2] rfl ?_   -- 6, field.go:262
  refine s_mv 29 rfl rfl ?_
  refine s_make 30 (N m) rfl rfl rfl rfl rfl (by omega) (fun _ _ => trivial) (fun gs => ?_)
  refine s_as 8 rfl rfl ?_
  refine SX.next ?_
  refine CW.seq ?_
  refine CW.reg [0] rfl ?_   -- 7, field.go:263
  refine s_as 9 rfl rfl ?_
  refine SX.next ?_
  refine CW.seq ?_
  refine CW.reg [0] rfl ?_   -- 8, field.go:264
  refine s_as 10 rfl rfl ?_
  refine SX.next ?_
  refine CW.seq ?_
  refine CW.seq ?_
  refine CW.reg [0] rfl ?_   -- 9, field.go:265
  refine s_as 11 rfl rfl ?_
  refine SX.next ?_
  refine CW.block ?_
  refine CW.loop (G := Nat × Option Addr × Nat) (fun q => [(1, .int .i64 (t : Nat)), (7, .int .i64 (N m : Nat)), (8, .slice (some ⟨gs, 0, none⟩) (N m) (N m)), (9, .int .i64 ((ldr m q.1).2 : Nat)), (10, .slice q.2.1 (ldo m q.1).length q.2.2), (11, .int .i64 ((2 * q.1 + 1 : Nat) : Int))]) (fun q => Sto w [own 3 1 q.2.1 (ldo m q.1).length q.2.2 (nats .i64 (ldo m q.1)), blk gs 4 (btab (N m) (seenB m q.1))]) (fun q => q.1 ≤ t ∧ (ldo m q.1).length ≤ q.2.2) (fun q => t - q.1) (0, none, 0) ⟨rfl, rfl, rfl, rfl, rfl, rfl, trivial⟩ (fun _ h => by rw [seenB_zero, ← btab_zero]; exact h.begin_ 3 1) ⟨Nat.zero_le _, Nat.le_refl _⟩ ?_
  rintro ⟨k, qa, qc⟩ ⟨hk, hqc⟩
  simp only at hk hqc
  dsimp only
  have hll := ldo_len m k
  have hld := ldr_le hm k
  have hmk := Nat.mul_le_mul hmh hk
  have hcl0 := cst_lt hm (2 * k + 1) 0
  have hhc := hd_cst hm (2 * k + 1)
  refine CW.seq ?_
  refine CW.seq ?_
  refine CW.reg [0, 1, 2, 3] rfl ?_   -- 10, field.go:265
  refine s_mv 31 rfl rfl ?_
  refine s_mv 32 rfl rfl ?_
  refine s_mul 33 rfl rfl rfl (r := ((2 * t : Nat) : Int)) (by rw [show (2 : Int) * ((t : Nat) : Int) = ((2 * t : Nat) : Int) by omega]; exact w64 (by omega)) ?_
  refine s_lt 34 rfl rfl rfl rfl ?_
  refine SX.next ?_
  refine CW.test rfl (fun hc => ?_) (fun hc => ?_)
  · skip
    refine CW.skip ?_
    refine KN.code ?_
    refine CW.seq ?_
    refine CW.block ?_
    refine CW.seq ?_
    refine CW.reg [0, 1, 2, 3] rfl ?_   -- 12, field.go:266
    refine s_mv 37 rfl rfl ?_
    refine s_mv 38 rfl rfl ?_
    refine s_rem 39 rfl rfl rfl (by omega) (r := ((cst m (2 * k + 1) 0 : Nat) : Int)) (by unfold cst; rw [Nat.pow_zero, Nat.mul_one]; rfl) ?_
    refine s_as 12 rfl rfl ?_
    refine SX.next ?_
    refine CW.seq ?_
    refine CW.seq ?_
    refine CW.reg [0, 1, 2, 3] rfl ?_   -- 13, field.go:267
    refine s_mv 40 rfl rfl ?_
    refine s_mv 41 rfl rfl ?_
    refine s_ia0 42 (cst m (2 * k + 1) 0) rfl rfl rfl rfl (by omega) ?_
    refine s_ldB 43 1 rfl rfl rfl (btab_at (by omega)) ?_
    refine SX.next ?_
    refine CW.cond rfl (fun hc => ?_) (fun hc => ?_)
    · skip
      have hyes : hdP m (2 * k + 1) ∈ (ldr m k).1 := by rw [← hhc 0]; simpa [seenB] using hc
      have hnx := ldr_old hyes
      have hnl := ldo_old hyes
      have hns := seenB_old hyes
      refine CW.exit rfl ?_
      refine KN.code ?_
      refine CW.reg [0, 1, 2] rfl ?_   -- 11, field.go:265
      refine s_mv 35 rfl rfl ?_
      refine s_add 36 rfl rfl rfl (r := ((2 * (k + 1) + 1 : Nat) : Int)) (by rw [show ((2 * k + 1 : Nat) : Int) + 2 = ((2 * (k + 1) + 1 : Nat) : Int) by omega]; exact w64 (by omega)) ?_
      refine s_as 11 rfl rfl ?_
      refine SX.end_ ?_
      exact KN.back (k + 1, qa, qc) ⟨rfl, rfl, rfl, by simp only [hnx]; rfl, by simp only [hnl]; rfl, rfl, trivial⟩ (fun _ h => by simp only [hnl, hns]; exact h) ⟨by simp only; omega, by simp only [hnl]; exact hqc⟩ (by simp only; omega)
    · skip
      have hno : hdP m (2 * k + 1) ∉ (ldr m k).1 := by rw [← hhc 0]; simpa [seenB] using hc
      have hnx := ldr_new hno
      have hnl := ldo_new hno
      refine CW.skip ?_
      refine KN.code ?_
      refine CW.seq ?_
      refine CW.reg [0, 1, 2, 3, 4] rfl ?_   -- 14, field.go:270
      refine s_mv 44 rfl rfl ?_
      refine s_mv 45 rfl rfl ?_
      refine s_bsl 46 rfl rfl (cells := #[.int .i64 ((2 * k + 1 : Nat) : Int)]) (by kernel_rfl) rfl (fun _ _ => trivial) (fun gb => ?_)
      refine s_app 47 1 rfl rfl rfl rfl (ys := [.int .i64 ((2 * k + 1 : Nat) : Int)]) (fun w hw => Has.cong ((hw.has (i := 0) rfl).blk_sl (m := 1) rfl) rfl) rfl rfl (by omega) (by unfold maxLen; omega) (by omega) (fun _ _ _ _ => trivial) (fun A2 c2 hc2 => ?_)
      refine s_as 10 rfl rfl ?_
      refine SX.next ?_
      refine CW.block ?_
      refine CW.loop (G := Nat) (fun j => [(1, .int .i64 (t : Nat)), (7, .int .i64 (N m : Nat)), (8, .slice (some ⟨gs, 0, none⟩) (N m) (N m)), (9, .int .i64 ((ldr m k).2 + j : Nat)), (10, .slice A2 ((ldo m k).length + 1) c2), (11, .int .i64 ((2 * k + 1 : Nat) : Int)), (12, .int .i64 (cst m (2 * k + 1) j : Nat))]) (fun j => Sto w [own 3 1 A2 ((ldo m k).length + 1) c2 (nats .i64 (ldo m k) ++ [.int .i64 ((2 * k + 1 : Nat) : Int)]), blk gs 4 (btab (N m) (seenM m k j))]) (fun j => j ≤ m ∧ (orb m (2 * k + 1) j).Nodup) (fun j => m - j) 0 ⟨rfl, rfl, rfl, rfl, rfl, rfl, rfl, trivial⟩ (fun _ h => by rw [seenM_zero]; exact h.pick [1, 1] rfl) ⟨Nat.zero_le _, by simp [orb]⟩ ?_
      rintro j ⟨hj, hnd⟩
      have hcl := cst_lt hm (2 * k + 1) j
      refine CW.seq ?_
      refine CW.seq ?_
      refine CW.reg [0, 1, 2, 3, 4] rfl ?_   -- 15, field.go:271
      refine s_mv 48 rfl rfl ?_
      refine s_mv 49 rfl rfl ?_
      refine s_ia0 50 (cst m (2 * k + 1) j) rfl rfl rfl rfl (by omega) ?_
      refine s_ldB 51 1 rfl rfl rfl (btab_at (by omega)) ?_
      refine s_not 52 rfl rfl ?_
      refine SX.next ?_
      refine CW.cond rfl (fun hc3 => ?_) (fun hc3 => ?_)
      · skip
        have hno2 : cst m (2 * k + 1) j ∉ orb m (2 * k + 1) j := fun h => by simp [seenM, h] at hc3
        have hlt : j < m := Nat.lt_of_le_of_ne hj (fun h => hno2 (by rw [h]; exact orb_end hm _))
        refine CW.skip ?_
        refine KN.code ?_
        refine CW.block ?_
        refine CW.seq ?_
        refine CW.reg [0, 1, 2, 3] rfl ?_   -- 16, field.go:272
        refine s_mv 53 rfl rfl ?_
        refine s_mv 54 rfl rfl ?_
        refine s_ia0 55 (cst m (2 * k + 1) j) rfl rfl rfl rfl (by omega) ?_
        refine s_stB 1 rfl rfl rfl rfl rfl (by rw [btab_size]; omega) (fun _ _ => trivial) ?_
        refine SX.next ?_
        refine CW.seq ?_
        refine CW.reg [0, 1, 2] rfl ?_   -- 17, field.go:273
        refine s_mv 56 rfl rfl ?_
        refine s_add 57 rfl rfl rfl (r := ((ldr m k).2 + (j + 1) : Nat)) (by rw [show (((ldr m k).2 + j : Nat) : Int) + 1 = (((ldr m k).2 + (j + 1) : Nat) : Int) by omega]; exact w64 (by omega)) ?_
        refine s_as 9 rfl rfl ?_
        refine SX.next ?_
        refine CW.reg [0, 1, 2, 3, 4] rfl ?_   -- 18, field.go:274
        refine s_mv 58 rfl rfl ?_
        refine s_mul 59 rfl rfl rfl (r := ((2 * cst m (2 * k + 1) j : Nat) : Int)) (by rw [show (2 : Int) * ((cst m (2 * k + 1) j : Nat) : Int) = ((2 * cst m (2 * k + 1) j : Nat) : Int) by omega]; exact w64 (by omega)) ?_
        refine s_mv 60 rfl rfl ?_
        refine s_rem 61 rfl rfl rfl (by omega) (r := ((cst m (2 * k + 1) (j + 1) : Nat) : Int)) (by rw [cst_succ]; rfl) ?_
        refine s_as 12 rfl rfl ?_
        refine SX.end_ ?_
        refine KN.blk ?_
        exact KN.back (j + 1) ⟨rfl, rfl, rfl, rfl, rfl, rfl, rfl, trivial⟩ (fun _ h => by rw [← seenM_next, ← btab_set]; exact h) ⟨by omega, orb_nodup hnd hno2⟩ (by omega)
      · skip
        have hyes : cst m (2 * k + 1) j ∈ orb m (2 * k + 1) j := by
          have h1 : seenM m k j (cst m (2 * k + 1) j) = true := by simpa using hc3
          unfold seenM seenB at h1
          rw [hhc j, decide_eq_false hno, Bool.false_or] at h1
          exact of_decide_eq_true h1
        have hcl2 := cos_len hm hyes hnd
        have hbt : btab (N m) (seenM m k j) = btab (N m) (seenB m (k + 1)) := btab_cong (fun x hx => seenM_full hm hno hyes hx)
        refine CW.exit rfl ?_
        refine KN.blk ?_
        refine KN.code ?_
        refine CW.reg [0, 1, 2] rfl ?_   -- 11, field.go:265
        refine s_mv 35 rfl rfl ?_
        refine s_add 36 rfl rfl rfl (r := ((2 * (k + 1) + 1 : Nat) : Int)) (by rw [show ((2 * k + 1 : Nat) : Int) + 2 = ((2 * (k + 1) + 1 : Nat) : Int) by omega]; exact w64 (by omega)) ?_
        refine s_as 11 rfl rfl ?_
        refine SX.end_ ?_
        exact KN.back (k + 1, A2, c2) ⟨rfl, rfl, rfl, by simp only [hnx, hcl2]; rfl, by simp only [hnl, List.length_append]; rfl, rfl, trivial⟩ (fun _ h => by
          rw [hbt, nats_snoc] at h
          simp only [hnl, List.length_append, List.length_singleton]
          exact h) ⟨by simp only; omega, by simp only [hnl, List.length_append, List.length_singleton]; exact hc2⟩ (by simp only; omega)
  · skip
    have hke : k = t := by omega
    subst hke
    refine CW.exit rfl ?_
    refine KN.code ?_
    refine CW.seq ?_
    refine CW.seq ?_
    refine CW.reg [0, 1, 2] rfl ?_   -- 19, field.go:277
    refine s_mv 62 rfl rfl ?_
    refine s_mv 63 rfl rfl ?_
    refine s_ge 64 rfl rfl rfl (decide_eq_false (by omega)) ?_
    refine SX.next ?_
    refine CW.condF rfl ?_
    refine CW.skip ?_
    refine KN.code ?_
    refine CW.seq ?_
    refine CW.reg [0, 1, 2, 3, 4] rfl ?_   -- 21, field.go:280
    refine s_mv 65 rfl rfl ?_
    refine s_mv 66 rfl rfl ?_
    refine s_as 4 rfl rfl ?_
    refine s_as 5 rfl rfl ?_
    refine s_as 6 rfl rfl ?_
    refine SX.next ?_
    refine CW.ret ?_
    exact KN.ret (rs := [.tmp 4, .tmp 5, .tmp 6]) Tryd.results116 rfl (fun w hw => ⟨(qa, qc), rfl, hqc, hw.pick [0] rfl⟩)

theorem rleast_code (m t : Nat) (w : World) (hm : Ok m) (h1 : 1 ≤ t) (h40 : t ≤ 40) (hd : ¬ (ldr m t).2 < N m) : Spec1 Tryd.prog 116 [.int .i64 (m : Nat), .int .i64 (t : Nat)] w (tri (.int .i64 0) (.slice none 0 0) (.int .i64 105)) := by
  have hNs := N_succ m
  have hNp := N_pos hm
  have hmh := hm.hi
  have hml := hm.lo
  refine spec_of Tryd.func116 rfl Tryd.ntmps116 rfl ?_
  refine CW.seq ?_
  refine CW.reg [0, 1, 2] rfl ?_   -- 0, field.go:254
  refine s_as 4 rfl rfl ?_
  refine s_as 5 rfl rfl ?_
  refine s_as 6 rfl rfl ?_
  refine SX.next ?_
  refine CW.seq ?_
  refine CW.seq ?_
  refine CW.reg [0, 1, 2, 3, 4, 5] rfl ?_   -- 1, field.go:255
  refine s_mv 13 rfl rfl ?_
  refine s_lt 14 rfl rfl rfl (decide_eq_false (by omega)) ?_
  refine s_mv 15 rfl rfl ?_
  refine s_mv 16 rfl rfl ?_
  refine s_gt 17 rfl rfl rfl (decide_eq_false (by omega)) ?_
  refine s_pickF 18 rfl rfl rfl ?_
  refine SX.next ?_
  refine CW.condF rfl ?_
  refine CW.skip ?_
  refine KN.code ?_
  refine CW.seq ?_
  refine CW.seq ?_
  refine CW.reg [0, 1, 2, 3, 4, 5] rfl ?_   -- 3, field.go:258
  refine s_mv 19 rfl rfl ?_
  refine s_lt 20 rfl rfl rfl (decide_eq_false (by omega)) ?_
  refine s_mv 21 rfl rfl ?_
  refine s_mv 22 rfl rfl ?_
  refine s_gt 23 rfl rfl rfl (decide_eq_false (by omega)) ?_
  refine s_pickF 24 rfl rfl rfl ?_
  refine SX.next ?_
  refine CW.condF rfl ?_
  refine CW.skip ?_
  refine KN.code ?_
  refine CW.seq ?_
  refine CW.reg [0, 1, 2, 3, 4] rfl ?_   -- 5, field.go:261
  refine s_mv 25 rfl rfl ?_
  refine s_conv 26 rfl rfl (u64_nat hm) ?_
  refine s_shl 27 rfl rfl rfl (by omega) (shl_one hm) ?_
  refine s_sub 28 rfl rfl rfl (r := ((N m : Nat) : Int)) (by rw [show ((N m + 1 : Nat) : Int) - 1 = ((N m : Nat) : Int) by omega]; exact w64 (by omega)) ?_
  refine s_as 7 rfl rfl ?_
  refine SX.next ?_
  refine CW.seq ?_
  refine CW.reg [0, 1, 2] rfl ?_   -- 6, field.go:262
  refine s_mv 29 rfl rfl ?_
  refine s_make 30 (N m) rfl rfl rfl rfl rfl (by omega) (fun _ _ => trivial) (fun gs => ?_)
  refine s_as 8 rfl rfl ?_
  refine SX.next ?_
  refine CW.seq ?_
  refine CW.reg [0] rfl ?_   -- 7, field.go:263
  refine s_as 9 rfl rfl ?_
  refine SX.next ?_
  refine CW.seq ?_
  refine CW.reg [0] rfl ?_   -- 8, field.go:264
  refine s_as 10 rfl rfl ?_
  refine SX.next ?_
  refine CW.seq ?_
  refine CW.seq ?_
  refine CW.reg [0] rfl ?_   -- 9, field.go:265
  refine s_as 11 rfl rfl ?_
  refine SX.next ?_
  refine CW.block ?_
  refine CW.loop (G := Nat × Option Addr × Nat) (fun q => [(1, .int .i64 (t : Nat)), (7, .int .i64 (N m : Nat)), (8, .slice (some ⟨gs, 0, none⟩) (N m) (N m)), (9, .int .i64 ((ldr m q.1).2 : Nat)), (10, .slice q.2.1 (ldo m q.1).length q.2.2), (11, .int .i64 ((2 * q.1 + 1 : Nat) : Int))]) (fun q => Sto w [own 3 1 q.2.1 (ldo m q.1).length q.2.2 (nats .i64 (ldo m q.1)), blk gs 4 (btab (N m) (seenB m q.1))]) (fun q => q.1 ≤ t ∧ (ldo m q.1).length ≤ q.2.2) (fun q => t - q.1) (0, none, 0) ⟨rfl, rfl, rfl, rfl, rfl, rfl, trivial⟩ (fun _ h => by rw [seenB_zero, ← btab_zero]; exact h.begin_ 3 1) ⟨Nat.zero_le _, Nat.le_refl _⟩ ?_
  rintro ⟨k, qa, qc⟩ ⟨hk, hqc⟩
  simp only at hk hqc
  dsimp only
  have hll := ldo_len m k
  have hld := ldr_le hm k
  have hmk := Nat.mul_le_mul hmh hk
  have hcl0 := cst_lt hm (2 * k + 1) 0
  have hhc := hd_cst hm (2 * k + 1)
  refine CW.seq ?_
  refine CW.seq ?_
  refine CW.reg [0, 1, 2, 3] rfl ?_   -- 10, field.go:265
  refine s_mv 31 rfl rfl ?_
  refine s_mv 32 rfl rfl ?_
  refine s_mul 33 rfl rfl rfl (r := ((2 * t : Nat) : Int)) (by rw [show (2 : Int) * ((t : Nat) : Int) = ((2 * t : Nat) : Int) by omega]; exact w64 (by omega)) ?_
  refine s_lt 34 rfl rfl rfl rfl ?_
  refine SX.next ?_
  refine CW.test rfl (fun hc => ?_) (fun hc => ?_)
  · skip
    refine CW.skip ?_
    refine KN.code ?_
    refine CW.seq ?_
    refine CW.block ?_
    refine CW.seq ?_
    refine CW.reg [0, 1, 2, 3] rfl ?_   -- 12, field.go:266
    refine s_mv 37 rfl rfl ?_
    refine s_mv 38 rfl rfl ?_
    refine s_rem 39 rfl rfl rfl (by omega) (r := ((cst m (2 * k + 1) 0 : Nat) : Int)) (by unfold cst; rw [Nat.pow_zero, Nat.mul_one]; rfl) ?_
    refine s_as 12 rfl rfl ?_
    refine SX.next ?_
    refine CW.seq ?_
    refine CW.seq ?_
    refine CW.reg [0, 1, 2, 3] rfl ?_   -- 13, field.go:267
    refine s_mv 40 rfl rfl ?_
    refine s_mv 41 rfl rfl ?_
    refine s_ia0 42 (cst m (2 * k + 1) 0) rfl rfl rfl rfl (by omega) ?_
    refine s_ldB 43 1 rfl rfl rfl (btab_at (by omega)) ?_
    refine SX.next ?_
    refine CW.cond rfl (fun hc => ?_) (fun hc => ?_)
    · skip
      have hyes : hdP m (2 * k + 1) ∈ (ldr m k).1 := by rw [← hhc 0]; simpa [seenB] using hc
      have hnx := ldr_old hyes
      have hnl := ldo_old hyes
      have hns := seenB_old hyes
      refine CW.exit rfl ?_
      refine KN.code ?_
      refine CW.reg [0, 1, 2] rfl ?_   -- 11, field.go:265
      refine s_mv 35 rfl rfl ?_
      refine s_add 36 rfl rfl rfl (r := ((2 * (k + 1) + 1 : Nat) : Int)) (by rw [show ((2 * k + 1 : Nat) : Int) + 2 = ((2 * (k + 1) + 1 : Nat) : Int) by omega]; exact w64 (by omega)) ?_
      refine s_as 11 rfl rfl ?_
      refine SX.end_ ?_
      exact KN.back (k + 1, qa, qc) ⟨rfl, rfl, rfl, by simp only [hnx]; rfl, by simp only [hnl]; rfl, rfl, trivial⟩ (fun _ h => by simp only [hnl, hns]; exact h) ⟨by simp only; omega, by simp only [hnl]; exact hqc⟩ (by simp only; omega)
    · skip
      have hno : hdP m (2 * k + 1) ∉ (ldr m k).1 := by rw [← hhc 0]; simpa [seenB] using hc
      have hnx := ldr_new hno
      have hnl := ldo_new hno
      refine CW.skip ?_
      refine KN.code ?_
      refine CW.seq ?_
      refine CW.reg [0, 1, 2, 3, 4] rfl ?_   -- 14, field.go:270
      refine s_mv 44 rfl rfl ?_
      refine s_mv 45 rfl rfl ?_
      refine s_bsl 46 rfl rfl (cells := #[.int .i64 ((2 * k + 1 : Nat) : Int)]) (by kernel_rfl) rfl (fun _ _ => trivial) (fun gb => ?_)
      refine s_app 47 1 rfl rfl rfl rfl (ys := [.int .i64 ((2 * k + 1 : Nat) : Int)]) (fun w hw => Has.cong ((hw.has (i := 0) rfl).blk_sl (m := 1) rfl) rfl) rfl rfl (by omega) (by unfold maxLen; omega) (by omega) (fun _ _ _ _ => trivial) (fun A2 c2 hc2 => ?_)
      refine s_as 10 rfl rfl ?_
      refine SX.next ?_
      refine CW.block ?_
      refine CW.loop (G := Nat) (fun j => [(1, .int .i64 (t : Nat)), (7, .int .i64 (N m : Nat)), (8, .slice (some ⟨gs, 0, none⟩) (N m) (N m)), (9, .int .i64 ((ldr m k).2 + j : Nat)), (10, .slice A2 ((ldo m k).length + 1) c2), (11, .int .i64 ((2 * k + 1 : Nat) : Int)), (12, .int .i64 (cst m (2 * k + 1) j : Nat))]) (fun j => Sto w [own 3 1 A2 ((ldo m k).length + 1) c2 (nats .i64 (ldo m k) ++ [.int .i64 ((2 * k + 1 : Nat) : Int)]), blk gs 4 (btab (N m) (seenM m k j))]) (fun j => j ≤ m ∧ (orb m (2 * k + 1) j).Nodup) (fun j => m - j) 0 ⟨rfl, rfl, rfl, rfl, rfl, rfl, rfl, trivial⟩ (fun _ h => by rw [seenM_zero]; exact h.pick [1, 1] rfl) ⟨Nat.zero_le _, by simp [orb]⟩ ?_
      rintro j ⟨hj, hnd⟩
      have hcl := cst_lt hm (2 * k + 1) j
      refine CW.seq ?_
      refine CW.seq ?_
      refine CW.reg [0, 1, 2, 3, 4] rfl ?_   -- 15, field.go:271
      refine s_mv 48 rfl rfl ?_
      refine s_mv 49 rfl rfl ?_
      refine s_ia0 50 (cst m (2 * k + 1) j) rfl rfl rfl rfl (by omega) ?_
      refine s_ldB 51 1 rfl rfl rfl (btab_at (by omega)) ?_
      refine s_not 52 rfl rfl ?_
      refine SX.next ?_
      refine CW.cond rfl (fun hc3 => ?_) (fun hc3 => ?_)
      · skip
        have hno2 : cst m (2 * k + 1) j ∉ orb m (2 * k + 1) j := fun h => by simp [seenM, h] at hc3
        have hlt : j < m := Nat.lt_of_le_of_ne hj (fun h => hno2 (by rw [h]; exact orb_end hm _))
        refine CW.skip ?_
        refine KN.code ?_
        refine CW.block ?_
        refine CW.seq ?_
        refine CW.reg [0, 1, 2, 3] rfl ?_   -- 16, field.go:272
        refine s_mv 53 rfl rfl ?_
        refine s_mv 54 rfl rfl ?_
        refine s_ia0 55 (cst m (2 * k + 1) j) rfl rfl rfl rfl (by omega) ?_
        refine s_stB 1 rfl rfl rfl rfl rfl (by rw [btab_size]; omega) (fun _ _ => trivial) ?_
        refine SX.next ?_
        refine CW.seq ?_
        refine CW.reg [0, 1, 2] rfl ?_   -- 17, field.go:273
        refine s_mv 56 rfl rfl ?_
        refine s_add 57 rfl rfl rfl (r := ((ldr m k).2 + (j + 1) : Nat)) (by rw [show (((ldr m k).2 + j : Nat) : Int) + 1 = (((ldr m k).2 + (j + 1) : Nat) : Int) by omega]; exact w64 (by omega)) ?_
        refine s_as 9 rfl rfl ?_
        refine SX.next ?_
        refine CW.reg [0, 1, 2, 3, 4] rfl ?_   -- 18, field.go:274
        refine s_mv 58 rfl rfl ?_
        refine s_mul 59 rfl rfl rfl (r := ((2 * cst m (2 * k + 1) j : Nat) : Int)) (by rw [show (2 : Int) * ((cst m (2 * k + 1) j : Nat) : Int) = ((2 * cst m (2 * k + 1) j : Nat) : Int) by omega]; exact w64 (by omega)) ?_
        refine s_mv 60 rfl rfl ?_
        refine s_rem 61 rfl rfl rfl (by omega) (r := ((cst m (2 * k + 1) (j + 1) : Nat) : Int)) (by rw [cst_succ]; rfl) ?_
        refine s_as 12 rfl rfl ?_
        refine SX.end_ ?_
        refine KN.blk ?_
        exact KN.back (j + 1) ⟨rfl, rfl, rfl, rfl, rfl, rfl, rfl, trivial⟩ (fun _ h => by rw [← seenM_next, ← btab_set]; exact h) ⟨by omega, orb_nodup hnd hno2⟩ (by omega)
      · skip
        have hyes : cst m (2 * k + 1) j ∈ orb m (2 * k + 1) j := by
          have h1 : seenM m k j (cst m (2 * k + 1) j) = true := by simpa using hc3
          unfold seenM seenB at h1
          rw [hhc j, decide_eq_false hno, Bool.false_or] at h1
          exact of_decide_eq_true h1
        have hcl2 := cos_len hm hyes hnd
        have hbt : btab (N m) (seenM m k j) = btab (N m) (seenB m (k + 1)) := btab_cong (fun x hx => seenM_full hm hno hyes hx)
        refine CW.exit rfl ?_
        refine KN.blk ?_
        refine KN.code ?_
        refine CW.reg [0, 1, 2] rfl ?_   -- 11, field.go:265
        refine s_mv 35 rfl rfl ?_
        refine s_add 36 rfl rfl rfl (r := ((2 * (k + 1) + 1 : Nat) : Int)) (by rw [show ((2 * k + 1 : Nat) : Int) + 2 = ((2 * (k + 1) + 1 : Nat) : Int) by omega]; exact w64 (by omega)) ?_
        refine s_as 11 rfl rfl ?_
        refine SX.end_ ?_
        exact KN.back (k + 1, A2, c2) ⟨rfl, rfl, rfl, by simp only [hnx, hcl2]; rfl, by simp only [hnl, List.length_append]; rfl, rfl, trivial⟩ (fun _ h => by
          rw [hbt, nats_snoc] at h
          simp only [hnl, List.length_append, List.length_singleton]
          exact h) ⟨by simp only; omega, by simp only [hnl, List.length_append, List.length_singleton]; exact hc2⟩ (by simp only; omega)
  · skip
    have hke : k = t := by omega
    subst hke
    refine CW.exit rfl ?_
    refine KN.code ?_
    refine CW.seq ?_
    refine CW.seq ?_
    refine CW.reg [0, 1, 2] rfl ?_   -- 19, field.go:277
    refine s_mv 62 rfl rfl ?_
    refine s_mv 63 rfl rfl ?_
    refine s_ge 64 rfl rfl rfl (decide_eq_true (by omega)) ?_
    refine SX.next ?_
    refine CW.condT rfl ?_
    refine CW.seq ?_
    refine CW.reg [0, 1, 2] rfl ?_   -- 20, field.go:278
    refine s_as 4 rfl rfl ?_
    refine s_as 5 rfl rfl ?_
    refine s_as 6 rfl rfl ?_
    refine SX.next ?_
    refine CW.ret ?_
    exact KN.ret (rs := [.tmp 4, .tmp 5, .tmp 6]) Tryd.results116 rfl (fun w hw => ⟨rfl, hw.nothing⟩)

theorem rleast_any (m t : Int) (w : World) : SpecX Tryd.prog 116 [.int .i64 m, .int .i64 t] w (X := Option Addr × Nat) (fun q => tri (.int .i64 (leastD m t)) (.slice q.1 (ldoA m t).length q.2) (.int .i64 (leastC m t : Nat))) (fun q => (ldoA m t).length ≤ q.2) (fun q => [own 3 1 q.1 (ldoA m t).length q.2 (nats .i64 (ldoA m t))]) := by
  unfold leastD ldoA
  rcases lc_cases m t with h | ⟨M, rfl, hm, h | ⟨T, rfl, h1, h40, h | h⟩⟩
  · rw [lc_field h]; exact spec_nil 3 .i64 (rleast_field m t w h) rfl
  · rw [lc_num hm h]; exact spec_nil 3 .i64 (rleast_num M t w hm h) rfl
  · rw [lc_ok hm h1 h40 h]; exact rleast_ok M T w hm h1 h40 h
  · rw [lc_code hm h1 h40 h]; exact spec_nil 3 .i64 (rleast_code M T w hm h1 h40 h) rfl

theorem lc_zero {m : Nat} {t : Int} (hm : Ok m) (h : leastC (m : Nat) t = 0) : ∃ T : Nat, t = (T : Nat) ∧ 1 ≤ T ∧ T ≤ 40 ∧ (ldr m T).2 < N m := by
  have hlo := hm.lo
  have hhi := hm.hi
  rcases lc_cases m t with h2 | ⟨M, hM, _, h2 | ⟨T, rfl, h1, h40, h2 | h2⟩⟩
  · omega
  · rw [lc_num hm h2] at h; cases h
  · obtain rfl : m = M := by omega
    exact ⟨T, rfl, h1, h40, h2⟩
  · obtain rfl : m = M := by omega
    rw [lc_code hm h1 h40 h2] at h; cases h

theorem rgen_spec (m : Nat) (t : Int) (w : World) (hm : Ok m) : SpecX Tryd.prog 117 [.int .i64 (m : Nat), .int .i64 t] w (X := Option Addr × Nat) (fun q => two (.slice q.1 (genA (m : Nat) t).length q.2) (.int .i64 (leastC (m : Nat) t : Nat))) (fun q => (genA (m : Nat) t).length ≤ q.2) (fun q => [own 5 1 q.1 (genA (m : Nat) t).length q.2 (nats .u8 (genA (m : Nat) t))]) := by
  have hmh := hm.hi
  refine spec_of Tryd.func117 rfl Tryd.ntmps117 rfl ?_
  refine CW.seq ?_
  refine CW.reg [0, 1] rfl ?_   -- 0, field.go:284
  refine s_as 4 rfl rfl ?_
  refine s_as 5 rfl rfl ?_
  refine SX.next ?_
  refine CW.seq ?_
  refine CW.reg [0, 1, 2, 3, 4, 5, 6, 7, 8, 9] rfl ?_   -- 1, field.go:285
  refine s_mv 12 rfl rfl ?_
  refine s_mv 13 rfl rfl ?_
  refine s_call 14 rfl rfl rfl rfl (fun w hw => rleast_any m t w) (fun _ _ => trivial) (fun q14 hq14 => ?_)
  refine s_mv 11 rfl rfl ?_
  refine s_ext 15 rfl rfl rfl ?_
  refine s_ext 16 rfl rfl rfl ?_
  refine s_ext 17 rfl rfl rfl ?_
  refine s_as 6 rfl rfl ?_
  refine s_as 7 rfl rfl ?_
  refine s_as 8 rfl rfl ?_
  refine SX.next ?_
  refine CW.seq ?_
  refine CW.seq ?_
  refine CW.reg [0, 1] rfl ?_   -- 2, field.go:286
  refine s_mv 18 rfl rfl ?_
  refine s_ne 19 rfl rfl rfl rfl ?_
  refine SX.next ?_
  refine CW.test rfl (fun hc => ?_) (fun hc => ?_)
  · skip
    have hgn : genA (m : Nat) t = [] := if_neg (by omega)
    refine CW.seq ?_
    refine CW.reg [0, 1, 2] rfl ?_   -- 3, field.go:287
    refine s_mv 20 rfl rfl ?_
    refine s_as 4 rfl rfl ?_
    refine s_as 5 rfl rfl ?_
    refine SX.next ?_
    refine CW.ret ?_
    exact KN.ret (rs := [.tmp 4, .tmp 5]) Tryd.results117 rfl (fun w hw => ⟨(none, 0), by rw [hgn]; rfl, by rw [hgn]; exact Nat.le_refl _, by rw [hgn]; exact (hw.pick [] rfl).begin_ _ 1⟩)
  · skip
    have hc0 : leastC (m : Nat) t = 0 := by omega
    have hlA : ldoA (m : Nat) t = ldo m t.toNat := if_pos hc0
    have hgA : genA (m : Nat) t = bys (genL m (ldr m t.toNat).1) := if_pos hc0
    obtain ⟨T, rfl, hT1, hT40, hTd⟩ := lc_zero hm hc0
    rw [Int.toNat_natCast] at hlA hgA
    have hol := ldo_len m T
    rw [hlA] at hq14 ⊢
    refine CW.skip ?_
    refine KN.code ?_
    refine CW.seq ?_
    refine CW.reg [0, 1] rfl ?_   -- 4, field.go:289
    refine s_bsl 21 rfl rfl (cells := #[.int .u8 1]) (by kernel_rfl) rfl (fun _ _ => trivial) (fun gb => ?_)
    refine s_as 9 rfl rfl ?_
    refine SX.next ?_
    refine CW.seq ?_
    refine CW.seq ?_
    refine CW.reg [0] rfl ?_   -- 5, field.go:290
    refine s_as 10 rfl rfl ?_
    refine SX.next ?_
    refine CW.block ?_
    refine CW.loop (G := Nat × Option Addr × Nat) (fun q => [(0, .int .i64 (m : Nat)), (7, .slice q14.1 (ldo m T).length q14.2), (8, .int .i64 (leastC (m : Nat) (T : Nat) : Nat)), (9, .slice q.2.1 (bys (genL m ((ldo m T).take q.1))).length q.2.2), (10, .int .i64 (q.1 : Nat))]) (fun q => Sto w [own 5 1 q.2.1 (bys (genL m ((ldo m T).take q.1))).length q.2.2 (nats .u8 (bys (genL m ((ldo m T).take q.1)))), own 3 1 q14.1 (ldo m T).length q14.2 (nats .i64 (ldo m T))]) (fun q => q.1 ≤ (ldo m T).length ∧ (bys (genL m ((ldo m T).take q.1))).length ≤ q.2.2) (fun q => (ldo m T).length - q.1) (0, some ⟨gb, 0, none⟩, 1) ⟨rfl, rfl, rfl, by rw [show (bys (genL m ((ldo m T).take 0))) = [1] from bys_one]; rfl, rfl, trivial⟩ (fun _ h => by
  have h1 := h.blkOwn (q := 0) (c := 1) (sz := 1) rfl rfl (by unfold maxLen; omega)
  have e : (bys (genL m ((ldo m T).take 0))) = [1] := bys_one
  simp only [e]
  exact h1) ⟨Nat.zero_le _, by rw [show (bys (genL m ((ldo m T).take 0))) = [1] from bys_one]; exact Nat.le_refl _⟩ ?_
    rintro ⟨i, qa, qc⟩ ⟨hi, hqc⟩
    simp only at hi hqc
    dsimp only
    refine CW.seq ?_
    refine CW.seq ?_
    refine CW.reg [0, 1, 2, 3] rfl ?_   -- 6, field.go:290
    refine s_mv 22 rfl rfl ?_
    refine s_mv 23 rfl rfl ?_
    refine s_len 24 rfl rfl ?_
    refine s_lt 25 rfl rfl rfl rfl ?_
    refine SX.next ?_
    refine CW.test rfl (fun hc => ?_) (fun hc => ?_)
    · skip
      have hil : i < (ldo m T).length := by omega
      have hki := cf_in hil
      have hgt2 := gen_take hm hki
      have hgb := gen_b1 hm ((ldo m T).take i)
      have hgl := gen_len hm ((ldo m T).take i)
      have hgs := gen_deg hm ((ldo m T).take i)
      have hgt : ((ldo m T).take i).length ≤ 40 := by rw [List.length_take]; omega
      have hmm := Nat.mul_le_mul hmh hgt
      have hbl := bys_len (genL m ((ldo m T).take i))
      have hmb := minP_b1 hm (em m ((cf (ldo m T) i : Nat) : Int))
      have hml := minP_len hm (em m ((cf (ldo m T) i : Nat) : Int))
      have hcl := cos_len_pos hm (em m ((cf (ldo m T) i : Nat) : Int))
      have hbm := bys_len (minP m (em m ((cf (ldo m T) i : Nat) : Int)))
      have hme : minP m (em m ((cf (ldo m T) i : Nat) : Int)) = minP m (cf (ldo m T) i) := by rw [em_nat]; unfold minP; rw [cos_mod]
      rw [← hme] at hgt2
      refine CW.skip ?_
      refine KN.code ?_
      refine CW.seq ?_
      refine CW.block ?_
      refine CW.reg [0, 1, 2, 3, 4, 5, 6, 7, 8] rfl ?_   -- 8, field.go:291
      refine s_mv 28 rfl rfl ?_
      refine s_mv 29 rfl rfl ?_
      refine s_mv 30 rfl rfl ?_
      refine s_mv 31 rfl rfl ?_
      refine s_iaO 32 1 i rfl rfl rfl rfl rfl (by omega) ?_
      refine s_ldO 33 1 rfl rfl rfl (natsAtC hil) ?_
      refine s_call 34 rfl rfl rfl rfl (fun w hw => rmin_spec m ((cf (ldo m T) i : Nat) : Int) w hm) (fun _ _ => trivial) (fun q34 hq34 => ?_)
      refine s_call 35 rfl rfl rfl rfl (fun w hw => by have := rbinmul_spec qa (bys (genL m ((ldo m T).take i))).length qc (bys (genL m ((ldo m T).take i))) q34.1 (bys (minP m (em m ((cf (ldo m T) i : Nat) : Int)))).length q34.2 (bys (minP m (em m ((cf (ldo m T) i : Nat) : Int)))) w ((hw.has (i := 1) rfl).of_own) (bys_lt hgb) (by omega) hqc ((hw.has (i := 0) rfl).of_own) (bys_lt hmb) (by omega) hq34 (by rw [bl_bys hgb, bl_bys hmb]; omega); rw [bl_bys hgb, bl_bys hmb, ← hgt2] at this; exact this) (fun _ _ => trivial) (fun q35 hq35 => ?_)
      refine s_as 9 rfl rfl ?_
      refine SX.end_ ?_
      refine KN.blk ?_
      refine KN.code ?_
      refine CW.reg [0, 1, 2] rfl ?_   -- 7, field.go:290
      refine s_mv 26 rfl rfl ?_
      refine s_add 27 rfl rfl rfl (r := ((i + 1 : Nat) : Int)) (w64 (by omega)) ?_
      refine s_as 10 rfl rfl ?_
      refine SX.end_ ?_
      exact KN.back (i + 1, q35.1, q35.2) ⟨rfl, rfl, rfl, rfl, rfl, trivial⟩ (fun _ h => h.pick [0, 2] rfl) ⟨by simp only; omega, hq35⟩ (by simp only; omega)
    · skip
      have hie : i = (ldo m T).length := by omega
      have hfin : bys (genL m ((ldo m T).take i)) = genA (m : Nat) (T : Nat) := by rw [hgA, hie, List.take_length, gen_ldo hm]
      rw [hfin] at hqc
      refine CW.exit rfl ?_
      refine KN.code ?_
      refine CW.seq ?_
      refine CW.reg [0, 1, 2, 3] rfl ?_   -- 9, field.go:293
      refine s_mv 36 rfl rfl ?_
      refine s_mv 37 rfl rfl ?_
      refine s_as 4 rfl rfl ?_
      refine s_as 5 rfl rfl ?_
      refine SX.next ?_
      refine CW.ret ?_
      exact KN.ret (rs := [.tmp 4, .tmp 5]) Tryd.results117 rfl (fun w hw => ⟨(qa, qc), by rw [← hfin]; rfl, hqc, by rw [hfin] at hw; exact hw.pick [0] rfl⟩)

theorem genA_lt {m : Nat} (hm : Ok m) (t : Int) : ∀ x ∈ genA (m : Nat) t, x < 256 := by
  unfold genA
  split
  · exact bys_lt (gen_b1 hm _)
  · intro x h; cases h
end Go.Proofs.YtompcfingkoldaaDoor
end
