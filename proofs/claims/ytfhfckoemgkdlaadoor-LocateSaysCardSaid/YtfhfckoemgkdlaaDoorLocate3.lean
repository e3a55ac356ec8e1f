/- The contracts of Locate, Fast and Makes. Conditions: the field was made by New; the lists are read where they lie. -/
import Derived.Test.YtfhfckoemgkdlaaDoorLocate2
namespace Go.Proofs.YtfhfckoemgkdlaaDoor
open Go Go.Sx Go.Fm
set_option maxRecDepth 100000

theorem lstep_spec (gf gr r g m : Nat) (A : Option Addr) (c : Nat) (a : List Nat) (B : Option Addr) (k : Nat) (b : List Nat) (d e : Nat) (w : World) (hm : Ok m) (hr : Has (ringA r g m) w) (hcr : w.cell? ⟨gr, 0, none⟩ = some (.pointer (some ⟨r, 0, none⟩))) (hcf : w.cell? ⟨gf, 0, none⟩ = some (.pointer (some ⟨g, 0, none⟩))) (e0 : e ≠ 0) (ha : Has (sl 1 A a.length (nats .i64 a)) w) (hb : Has (sl 1 B b.length (nats .i64 b)) w) (hal : ∀ x ∈ a, x < 2 ^ m) (hbl : ∀ x ∈ b, x < 2 ^ m) (hn : a.length ≤ 100) (hk : b.length ≤ 100) (hd : d < 2 ^ m) (he : e < 2 ^ m) : SpecL Tryd.prog 75 [.slice A a.length c, .slice B b.length k, .int .i64 (d : Nat), .int .i64 (e : Nat), .pointer (some ⟨gf, 0, none⟩), .pointer (some ⟨gr, 0, none⟩)] w (stL m a b d e) := by
  obtain ⟨hrc, hf⟩ := ring_at hr
  have hql : (gm m d (inv m e)) < 2 ^ m := gm_lt hm hd _
  have hsl := scaleP_lt hm hbl (gm m d (inv m e))
  have hsn := scaleP_lq m b (gm m d (inv m e))
  refine spec_of Tryd.func75 rfl Tryd.ntmps75 rfl ?_
  refine CW.seq ?_
  refine CW.reg [0] rfl ?_   -- 0, locate.go:59
  refine s_as 10 rfl rfl ?_
  refine SX.next ?_
  refine CW.seq ?_
  refine CW.reg [0, 1, 2, 3, 4, 5, 6, 7, 8] rfl ?_   -- 1, locate.go:60
  refine s_ld 14 rfl rfl (fun _ h => h.cell hcf) ?_
  refine s_mv 15 rfl rfl ?_
  refine s_mv 16 rfl rfl ?_
  refine s_call1 17 rfl rfl rfl rfl (v := two (.int .i64 ((gm m d (inv m e)) : Nat)) .nilIface) (fun w hw => by have := div_spec g m (d : Nat) (e : Nat) w hm (hw.old hf) (by rw [lo_nat he]; exact e0); rw [lo_nat hd, lo_nat he] at this; exact this) (fun _ _ => trivial) ?_
  refine s_mv 13 rfl rfl ?_
  refine s_ext 18 rfl rfl rfl ?_
  refine s_ext 19 rfl rfl rfl ?_
  refine s_as 11 rfl rfl ?_
  refine s_as 12 rfl rfl ?_
  refine SX.next ?_
  refine CW.seq ?_
  refine CW.regD (.st true 0 (.st true 1 (.st true 2 (.st true 3 (.st true 4 (.st false 5 (.st false 6 (.st true 7 .done)))))))) (Sto w []) mixed (by kernel_rfl) (fun _ h => h.drew) (fun _ h => h) ?_
  refine s_ldS 20 rfl rfl (fun _ h => h.cell hcr) ?_
  refine s_mv 21 rfl rfl ?_
  refine s_ldS 22 rfl rfl (fun _ h => h.cell hcr) ?_
  refine s_mv 23 rfl rfl ?_
  refine s_mv 24 rfl rfl ?_
  refine s_call 25 rfl rfl rfl rfl (fun w hw => by have := scale_spec r g m B b.length k (b.map Int.ofNat) ((gm m d (inv m e)) : Nat) w hm (hw.old hr) (by rw [← nats_ints]; exact (hw.old hb)) (by omega); rw [lowL_ofNat hbl, lo_nat hql] at this; exact this) (fun _ h => h.pick [] rfl) (fun q1 hq1 => ?_)
  refine s_call 26 rfl rfl rfl rfl (fun w hw => by have := padd_spec r g m A a.length c (a.map Int.ofNat) q1.1 (scaleP m b (gm m d (inv m e))).length q1.2 ((scaleP m b (gm m d (inv m e))).map Int.ofNat) w hm (hw.old hr) (by rw [← nats_ints]; exact (hw.old ha)) (by rw [← nats_ints]; exact ((hw.has (i := 0) rfl).of_own)) (by omega) (by omega); rw [lowL_ofNat hal, lowL_ofNat hsl] at this; exact this) (fun _ h => h.pick [] rfl) (fun q2 hq2 => ?_)
  refine s_as 10 rfl rfl ?_
  refine SX.next ?_
  refine CW.ret ?_
  exact KN.ret (rs := [.tmp 10]) Tryd.results75 rfl (fun w hw => ⟨q2, rfl, hq2, hw.pick [0] rfl⟩)

theorem fstep_spec (gr r g m : Nat) (A : Option Addr) (c : Nat) (a : List Nat) (B : Option Addr) (k : Nat) (b : List Nat) (d e : Nat) (w : World) (hm : Ok m) (hr : Has (ringA r g m) w) (hcr : w.cell? ⟨gr, 0, none⟩ = some (.pointer (some ⟨r, 0, none⟩))) (ha : Has (sl 1 A a.length (nats .i64 a)) w) (hb : Has (sl 1 B b.length (nats .i64 b)) w) (hal : ∀ x ∈ a, x < 2 ^ m) (hbl : ∀ x ∈ b, x < 2 ^ m) (hn : a.length ≤ 100) (hk : b.length ≤ 100) (hd : d < 2 ^ m) (he : e < 2 ^ m) : SpecL Tryd.prog 83 [.slice A a.length c, .slice B b.length k, .int .i64 (d : Nat), .int .i64 (e : Nat), .pointer (some ⟨gr, 0, none⟩)] w (stF m a b d e) := by
  obtain ⟨hrc, hf⟩ := ring_at hr
  have hsl := scaleP_lt hm hbl d
  have hsn := scaleP_lq m b d
  have hsl2 := scaleP_lt hm hal e
  have hsn2 := scaleP_lq m a e
  refine spec_of Tryd.func83 rfl Tryd.ntmps83 rfl ?_
  refine CW.seq ?_
  refine CW.reg [0] rfl ?_   -- 0, locate.go:68
  refine s_as 9 rfl rfl ?_
  refine SX.next ?_
  refine CW.seq ?_
  refine CW.regD (.st true 0 (.st true 1 (.st true 2 (.st true 3 (.st true 5 (.st true 6 (.st true 7 (.st false 4 (.st false 8 (.st false 9 (.st true 10 .done))))))))))) (Sto w []) mixed (by kernel_rfl) (fun _ h => h.drew) (fun _ h => h) ?_
  refine s_ldS 10 rfl rfl (fun _ h => h.cell hcr) ?_
  refine s_ldS 11 rfl rfl (fun _ h => h.cell hcr) ?_
  refine s_mv 12 rfl rfl ?_
  refine s_mv 13 rfl rfl ?_
  refine s_ldS 15 rfl rfl (fun _ h => h.cell hcr) ?_
  refine s_mv 16 rfl rfl ?_
  refine s_mv 17 rfl rfl ?_
  refine s_call 14 rfl rfl rfl rfl (fun w hw => by have := scale_spec r g m A a.length c (a.map Int.ofNat) (e : Nat) w hm (hw.old hr) (by rw [← nats_ints]; exact (hw.old ha)) (by omega); rw [lowL_ofNat hal, lo_nat he] at this; exact this) (fun _ h => h.pick [] rfl) (fun q0 hq0 => ?_)
  refine s_call 18 rfl rfl rfl rfl (fun w hw => by have := scale_spec r g m B b.length k (b.map Int.ofNat) (d : Nat) w hm (hw.old hr) (by rw [← nats_ints]; exact (hw.old hb)) (by omega); rw [lowL_ofNat hbl, lo_nat hd] at this; exact this) (fun _ h => h.pick [] rfl) (fun q1 hq1 => ?_)
  refine s_call 19 rfl rfl rfl rfl (fun w hw => by have := padd_spec r g m q0.1 (scaleP m a e).length q0.2 ((scaleP m a e).map Int.ofNat) q1.1 (scaleP m b d).length q1.2 ((scaleP m b d).map Int.ofNat) w hm (hw.old hr) (by rw [← nats_ints]; exact ((hw.has (i := 1) rfl).of_own)) (by rw [← nats_ints]; exact ((hw.has (i := 0) rfl).of_own)) (by omega) (by omega); rw [lowL_ofNat hsl2, lowL_ofNat hsl] at this; exact this) (fun _ h => h.pick [] rfl) (fun q2 hq2 => ?_)
  refine s_as 9 rfl rfl ?_
  refine SX.next ?_
  refine CW.ret ?_
  exact KN.ret (rs := [.tmp 9]) Tryd.results83 rfl (fun w hw => ⟨q2, rfl, hq2, hw.pick [0] rfl⟩)

theorem locate_spec (g m : Nat) (A : Option Addr) (c : Nat) (l : List Int) (w : World) (hm : Ok m) (hf : Has (fieldA g m) w) (ha : Has (sl 1 A l.length (ints .i64 l)) w) (hn : l.length ≤ 4294967296) (hcp : l.length ≤ c) : SpecX Tryd.prog 35 [.pointer (some ⟨g, 0, none⟩), .slice A l.length c] w (X := Option Addr × Nat) (fun q => two (.slice q.1 (bmG m (stL m) (lowL m (l.take 80)) (min l.length 80)).c.length q.2) (.int .i64 ((bmG m (stL m) (lowL m (l.take 80)) (min l.length 80)).L : Nat))) (fun q => (bmG m (stL m) (lowL m (l.take 80)) (min l.length 80)).c.length ≤ q.2) (fun q => [own 3 1 q.1 (bmG m (stL m) (lowL m (l.take 80)) (min l.length 80)).c.length q.2 (nats .i64 (bmG m (stL m) (lowL m (l.take 80)) (min l.length 80)).c)]) := by
  refine spec_of Tryd.func35 rfl Tryd.ntmps35 rfl ?_
  refine CW.seq ?_
  refine CW.reg [0, 1, 2] rfl ?_   -- 0, locate.go:57
  refine s_box 2 rfl rfl (fun _ _ => trivial) (fun gf => ?_)
  refine s_as 4 rfl rfl ?_
  refine s_as 5 rfl rfl ?_
  refine SX.next ?_
  refine CW.seq ?_
  refine CW.reg [0, 1, 2, 3] rfl ?_   -- 1, locate.go:58
  refine s_ld 7 rfl rfl (fun _ h => h.blkCell (i := 0) (j := 0) rfl rfl) ?_
  refine s_call 8 rfl rfl rfl rfl (fun w hw => ring_spec g w) (fun _ _ => trivial) (fun r hr => ?_)
  refine s_alloc 6 rfl (fun _ _ => trivial) (fun gr => ?_)
  refine s_stB 0 rfl rfl rfl rfl rfl (Nat.lt_succ_self 0) (fun _ _ => trivial) ?_
  refine SX.next ?_
  refine CW.seq ?_
  refine CW.reg [0, 1, 2, 3, 4, 5, 6, 7] rfl ?_   -- 2, locate.go:59
  refine s_ld 9 rfl rfl (fun _ h => h.blkCell (i := 2) (j := 0) rfl rfl) ?_
  refine s_mv 10 rfl rfl ?_
  refine s_mkf 11 rfl rfl rfl ?_
  refine s_call 12 rfl rfl rfl rfl (fun w hw => walk_spec g m A c l 75 #[] #[.pointer (some ⟨gf, 0, none⟩), .pointer (some ⟨gr, 0, none⟩)] (stL m) (fun w2 => w2.cell? ⟨gf, 0, none⟩ = some (.pointer (some ⟨g, 0, none⟩)) ∧ w2.cell? ⟨gr, 0, none⟩ = some (.pointer (some ⟨r, 0, none⟩)) ∧ Has (ringA r g m) w2) w hm (stL_ok hm) (hw.old hf) (hw.old ha) hn hcp (fun L w2 h => ⟨h.cell (hw.blkCell (i := 2) (j := 0) rfl rfl), h.cell (hw.blkCell (i := 0) (j := 0) rfl rfl), h.old (ring_of (hw.old hf) (hw.has (i := 1) rfl))⟩) (fun w2 A1 c1 a B1 c2 b d e ⟨h1, h2, h3⟩ ha hb hal hbl hn hk hd he e0 => lstep_spec gf gr r g m A1 c1 a B1 c2 b d e w2 hm h3 h2 h1 e0 ha hb hal hbl hn hk hd he)) (fun _ _ => trivial) (fun q hq => ?_)
  refine s_ext 13 rfl rfl rfl ?_
  refine s_ext 14 rfl rfl rfl ?_
  refine s_as 4 rfl rfl ?_
  refine s_as 5 rfl rfl ?_
  refine SX.next ?_
  refine CW.ret ?_
  exact KN.ret (rs := [.tmp 4, .tmp 5]) Tryd.results35 rfl (fun w hw => ⟨q, rfl, hq, hw.pick [0] rfl⟩)

theorem fast_spec (g m : Nat) (A : Option Addr) (c : Nat) (l : List Int) (w : World) (hm : Ok m) (hf : Has (fieldA g m) w) (ha : Has (sl 1 A l.length (ints .i64 l)) w) (hn : l.length ≤ 4294967296) (hcp : l.length ≤ c) : SpecX Tryd.prog 51 [.pointer (some ⟨g, 0, none⟩), .slice A l.length c] w (X := Option Addr × Nat) (fun q => two (.slice q.1 (bmG m (stF m) (lowL m (l.take 80)) (min l.length 80)).c.length q.2) (.int .i64 ((bmG m (stF m) (lowL m (l.take 80)) (min l.length 80)).L : Nat))) (fun q => (bmG m (stF m) (lowL m (l.take 80)) (min l.length 80)).c.length ≤ q.2) (fun q => [own 3 1 q.1 (bmG m (stF m) (lowL m (l.take 80)) (min l.length 80)).c.length q.2 (nats .i64 (bmG m (stF m) (lowL m (l.take 80)) (min l.length 80)).c)]) := by
  refine spec_of Tryd.func51 rfl Tryd.ntmps51 rfl ?_
  refine CW.seq ?_
  refine CW.reg [0, 1] rfl ?_   -- 0, locate.go:66
  refine s_as 4 rfl rfl ?_
  refine s_as 5 rfl rfl ?_
  refine SX.next ?_
  refine CW.seq ?_
  refine CW.reg [0, 1, 2, 3] rfl ?_   -- 1, locate.go:67
  refine s_mv 7 rfl rfl ?_
  refine s_call 8 rfl rfl rfl rfl (fun w hw => ring_spec g w) (fun _ _ => trivial) (fun r hr => ?_)
  refine s_alloc 6 rfl (fun _ _ => trivial) (fun gr => ?_)
  refine s_stB 0 rfl rfl rfl rfl rfl (Nat.lt_succ_self 0) (fun _ _ => trivial) ?_
  refine SX.next ?_
  refine CW.seq ?_
  refine CW.reg [0, 1, 2, 3, 4, 5, 6, 7] rfl ?_   -- 2, locate.go:68
  refine s_mv 9 rfl rfl ?_
  refine s_mv 10 rfl rfl ?_
  refine s_mkf 11 rfl rfl rfl ?_
  refine s_call 12 rfl rfl rfl rfl (fun w hw => walk_spec g m A c l 83 #[] #[.pointer (some ⟨gr, 0, none⟩)] (stF m) (fun w2 => w2.cell? ⟨gr, 0, none⟩ = some (.pointer (some ⟨r, 0, none⟩)) ∧ Has (ringA r g m) w2) w hm (stF_ok hm) (hw.old hf) (hw.old ha) hn hcp (fun L w2 h => ⟨h.cell (hw.blkCell (i := 0) (j := 0) rfl rfl), h.old (ring_of (hw.old hf) (hw.has (i := 1) rfl))⟩) (fun w2 A1 c1 a B1 c2 b d e ⟨h2, h3⟩ ha hb hal hbl hn hk hd he e0 => fstep_spec gr r g m A1 c1 a B1 c2 b d e w2 hm h3 h2 ha hb hal hbl hn hk hd he)) (fun _ _ => trivial) (fun q hq => ?_)
  refine s_ext 13 rfl rfl rfl ?_
  refine s_ext 14 rfl rfl rfl ?_
  refine s_as 4 rfl rfl ?_
  refine s_as 5 rfl rfl ?_
  refine SX.next ?_
  refine CW.ret ?_
  exact KN.ret (rs := [.tmp 4, .tmp 5]) Tryd.results51 rfl (fun w hw => ⟨q, rfl, hq, hw.pick [0] rfl⟩)

/-- Whether a polynomial makes values. -/
def mkB (m : Nat) (p s : List Int) (L : Int) : Bool := decide (lo m (p.getD 0 0) ≠ 0 ∧ 0 ≤ L ∧ L ≤ s.length ∧ ∀ j, j < s.length → L.toNat ≤ j → sumP m (lowL m p) (lowL m s) j (L.toNat + 1) = 0)
theorem mkB_no {m : Nat} {p s : List Int} {L : Int} (h : lo m (p.getD 0 0) = 0 ∨ L < 0 ∨ (s.length : Int) < L) : mkB m p s L = false := decide_eq_false (fun ⟨h1, h2, h3, _⟩ => by omega)
theorem mkB_bad {m : Nat} {p s : List Int} {L : Int} {j : Nat} (hj : j < s.length) (hL : L.toNat ≤ j) (h : sumP m (lowL m p) (lowL m s) j (L.toNat + 1) ≠ 0) : mkB m p s L = false := decide_eq_false (fun ⟨_, _, _, h4⟩ => h (h4 j hj hL))
theorem mkB_yes {m : Nat} {p s : List Int} {L : Int} (h1 : lo m (p.getD 0 0) ≠ 0) (h2 : 0 ≤ L) (h3 : L ≤ s.length) (h : ∀ j, j < s.length → L.toNat ≤ j → sumP m (lowL m p) (lowL m s) j (L.toNat + 1) = 0) : mkB m p s L = true := decide_eq_true ⟨h1, h2, h3, h⟩

theorem makes_spec (g m : Nat) (A : Option Addr) (n c : Nat) (l : List Int) (z : Int) (B : Option Addr) (k d : Nat) (l2 : List Int) (w : World) (hm : Ok m) (hf : Has (fieldA g m) w) (ha : Has (sl 1 A n (ints .i64 l)) w) (hbb : Has (sl 1 B k (ints .i64 l2)) w) (hn : n ≤ 4294967296) (hk : k ≤ 4294967296) : Spec1 Tryd.prog 44 [.pointer (some ⟨g, 0, none⟩), .slice A n c, .int .i64 z, .slice B k d] w (.bool (mkB m l l2 z)) := by
  have hla := ints_len ha
  subst hla
  have hlb := ints_len hbb
  subst hlb
  have hll := lowL_lt m l
  refine spec_of Tryd.func44 rfl Tryd.ntmps44 rfl ?_
  refine CW.seq ?_
  refine CW.reg [0] rfl ?_   -- 0, locate.go:85
  refine s_as 8 rfl rfl ?_
  refine SX.next ?_
  refine CW.seq ?_
  refine CW.seq ?_
  refine CW.reg [0, 1, 2, 3, 4, 5, 6, 7, 8, 9, 10, 11, 12, 13, 14] rfl ?_   -- 1, locate.go:86
  refine s_mv 10 rfl rfl ?_
  refine s_mv 11 rfl rfl ?_
  refine s_call1 12 rfl rfl rfl rfl (fun w hw => at_spec A l.length c l 0 w (hw.old ha) hn) (fun _ _ => trivial) ?_
  refine s_call1 13 rfl rfl rfl rfl (v := .int .i64 (lo m (l.getD 0 0) : Nat)) (fun w hw => by have := add_spec g m (l.getD 0 0) 0 w hm (hw.old hf); rw [lo_zero, Nat.xor_zero] at this; exact this) (fun _ _ => trivial) ?_
  refine s_eq 14 rfl rfl rfl rfl ?_
  refine s_mv 15 rfl rfl ?_
  refine SX.bool 15 rfl (fun hb => ?_) (fun hb => ?_)
  · skip
    have hno : mkB m l l2 z = false := mkB_no (.inl (by have := of_decide_eq_true hb; omega))
    refine SX.skip rfl ?_
    refine SX.skip rfl ?_
    refine s_pickT 18 rfl rfl rfl ?_
    refine s_mv 19 rfl rfl ?_
    refine SX.skip rfl ?_
    refine SX.skip rfl ?_
    refine SX.skip rfl ?_
    refine SX.skip rfl ?_
    refine s_pickT 24 rfl rfl rfl ?_
    refine SX.next ?_
    refine CW.condT rfl ?_
    refine CW.seq ?_
    refine CW.reg [0] rfl ?_   -- 2, locate.go:87
    refine s_as 8 rfl rfl ?_
    refine SX.next ?_
    refine CW.ret ?_
    exact KN.ret (rs := [.tmp 8]) Tryd.results44 rfl (fun w hw => ⟨by rw [hno]; rfl, hw.nothing⟩)
  · skip
    have hp1 := of_decide_eq_false hb
    refine s_mv 16 rfl rfl ?_
    refine s_lt 17 rfl rfl rfl rfl ?_
    refine s_pickF 18 rfl rfl rfl ?_
    refine s_mv 19 rfl rfl ?_
    refine SX.bool 19 rfl (fun hb => ?_) (fun hb => ?_)
    · skip
      have hno : mkB m l l2 z = false := mkB_no (.inr (.inl (of_decide_eq_true hb)))
      refine SX.skip rfl ?_
      refine SX.skip rfl ?_
      refine SX.skip rfl ?_
      refine SX.skip rfl ?_
      refine s_pickT 24 rfl rfl rfl ?_
      refine SX.next ?_
      refine CW.condT rfl ?_
      refine CW.seq ?_
      refine CW.reg [0] rfl ?_   -- 2, locate.go:87
      refine s_as 8 rfl rfl ?_
      refine SX.next ?_
      refine CW.ret ?_
      exact KN.ret (rs := [.tmp 8]) Tryd.results44 rfl (fun w hw => ⟨by rw [hno]; rfl, hw.nothing⟩)
    · skip
      have hp2 := of_decide_eq_false hb
      refine s_mv 20 rfl rfl ?_
      refine s_mv 21 rfl rfl ?_
      refine s_len 22 rfl rfl ?_
      refine s_gt 23 rfl rfl rfl rfl ?_
      refine s_pickF 24 rfl rfl rfl ?_
      refine SX.next ?_
      refine CW.test rfl (fun hc => ?_) (fun hc => ?_)
      · skip
        have hno : mkB m l l2 z = false := mkB_no (.inr (.inr (by omega)))
        refine CW.seq ?_
        refine CW.reg [0] rfl ?_   -- 2, locate.go:87
        refine s_as 8 rfl rfl ?_
        refine SX.next ?_
        refine CW.ret ?_
        exact KN.ret (rs := [.tmp 8]) Tryd.results44 rfl (fun w hw => ⟨by rw [hno]; rfl, hw.nothing⟩)
      · skip
        refine CW.skip ?_
        refine KN.code ?_
        refine CW.seq ?_
        refine CW.seq ?_
        have hzt : z = ((z.toNat : Nat) : Int) := by omega
        rw [hzt]
        refine CW.reg [0, 1] rfl ?_   -- 3, locate.go:89
        refine s_mv 25 rfl rfl ?_
        refine s_as 9 rfl rfl ?_
        refine SX.next ?_
        refine CW.block ?_
        refine CW.loop (G := Nat) (fun j => [(0, .pointer (some ⟨g, 0, none⟩)), (1, .slice A l.length c), (2, .int .i64 (z.toNat : Nat)), (3, .slice B l2.length d), (9, .int .i64 (j : Nat))]) (fun _ => Sto w []) (fun j => j ≤ l2.length ∧ z.toNat ≤ j ∧ ∀ i, i < j → z.toNat ≤ i → sumP m (lowL m l) (lowL m l2) i (z.toNat + 1) = 0) (fun j => l2.length - j) z.toNat ⟨rfl, rfl, rfl, rfl, rfl, trivial⟩ (fun _ h => h) ⟨by omega, Nat.le_refl _, fun i h1 h2 => by omega⟩ ?_
        rintro j ⟨hj1, hj2, hj3⟩
        have hsl := sumP_lt hm hll (s := lowL m l2) j (z.toNat + 1)
        refine CW.seq ?_
        refine CW.seq ?_
        refine CW.reg [0, 1, 2, 3] rfl ?_   -- 4, locate.go:89
        refine s_mv 26 rfl rfl ?_
        refine s_mv 27 rfl rfl ?_
        refine s_len 28 rfl rfl ?_
        refine s_lt 29 rfl rfl rfl rfl ?_
        refine SX.next ?_
        refine CW.test rfl (fun hc => ?_) (fun hc => ?_)
        · skip
          refine CW.skip ?_
          refine KN.code ?_
          refine CW.seq ?_
          refine CW.block ?_
          refine CW.seq ?_
          refine CW.reg [0, 1, 2, 3, 4, 5, 6, 7] rfl ?_   -- 6, locate.go:90
          refine s_mv 32 rfl rfl ?_
          refine s_mv 33 rfl rfl ?_
          refine s_mv 34 rfl rfl ?_
          refine s_mv 35 rfl rfl ?_
          refine s_mv 36 rfl rfl ?_
          refine s_mkf 37 rfl rfl rfl ?_
          refine s_call1 38 rfl rfl rfl rfl (fun w hw => sum_spec g m A l.length c l B l2.length d l2 j z.toNat w hm (hw.old hf) (hw.old ha) (hw.old hbb) hn hk hj2 (by omega)) (fun _ _ => trivial) ?_
          refine s_ne 39 rfl rfl rfl rfl ?_
          refine SX.next ?_
          refine CW.test rfl (fun hc => ?_) (fun hc => ?_)
          · skip
            have hno : mkB m l l2 z = false := mkB_bad (j := j) (by omega) hj2 (by omega)
            refine CW.seq ?_
            refine CW.reg [0] rfl ?_   -- 7, locate.go:91
            refine s_as 8 rfl rfl ?_
            refine SX.next ?_
            refine CW.ret ?_
            exact KN.ret (rs := [.tmp 8]) Tryd.results44 rfl (fun w hw => ⟨by rw [← hzt, hno]; rfl, hw.nothing⟩)
          · skip
            refine CW.skip ?_
            refine KN.blk ?_
            refine KN.code ?_
            refine CW.reg [0, 1, 2] rfl ?_   -- 5, locate.go:89
            refine s_mv 30 rfl rfl ?_
            refine s_add 31 rfl rfl rfl (r := ((j + 1 : Nat) : Int)) (w64 (by omega)) ?_
            refine s_as 9 rfl rfl ?_
            refine SX.end_ ?_
            exact KN.back (j + 1) ⟨rfl, rfl, rfl, rfl, rfl, trivial⟩ (fun _ h => h) ⟨by omega, by omega, fun i h1 h2 => by by_cases h : i = j; (subst h; omega); exact hj3 i (by omega) h2⟩ (by omega)
        · skip
          have hyes : mkB m l l2 z = true := mkB_yes (by omega) (by omega) (by omega) (fun i h1 h2 => hj3 i (by omega) h2)
          refine CW.exit rfl ?_
          refine KN.code ?_
          refine CW.seq ?_
          refine CW.reg [0] rfl ?_   -- 8, locate.go:94
          refine s_as 8 rfl rfl ?_
          refine SX.next ?_
          refine CW.ret ?_
          exact KN.ret (rs := [.tmp 8]) Tryd.results44 rfl (fun w hw => ⟨by rw [← hzt, hyes]; rfl, hw.nothing⟩)
