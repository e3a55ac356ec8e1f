/- The document's Locate, Places and Makes. Conditions: the field may be; the lists are read where they lie. -/
import Derived.Test.YtfhfckoemgkdlaaDoorLocate3
import Derived.Test.YtfhfckoemgkdlaaDoorRpoly
namespace Go.Proofs.YtfhfckoemgkdlaaDoor
open Go Go.Sx Go.Fm
set_option maxRecDepth 100000
theorem cf_zp (s : Nat) (x : List Nat) (j : Nat) : cf (List.replicate s 0 ++ x) j = if s ≤ j then cf x (j - s) else 0 := cf_zs s x j
theorem stL_ref {m : Nat} (hm : Ok m) {c b : List Nat} (hc : ∀ x ∈ c, x < 2 ^ m) (hb : ∀ x ∈ b, x < 2 ^ m) (k d e : Nat) : addP c (List.replicate k 0 ++ scaleP m b (gm m d (inv m e))) = stL m c (List.replicate k 0 ++ b) d e := by
  have hsl := scaleP_lt hm hb (gm m d (inv m e))
  have hz : ∀ (y : List Nat), (∀ x ∈ y, x < 2 ^ m) → ∀ x ∈ List.replicate k 0 ++ y, x < 2 ^ m := fun y hy x hx => by
    rcases List.mem_append.1 hx with hx | hx
    · rw [(List.mem_replicate.1 hx).2]; exact Nat.two_pow_pos m
    · exact hy x hx
  refine (addS_ok (m := m) hc (hz _ hsl)).ext (stL_ok hm c (List.replicate k 0 ++ b) d e hc (hz _ hb)).1 (fun j => ?_)
  unfold stL
  rw [cf_addP, cf_addP, cf_scaleP, cf_zp, cf_zp]
  split
  · rw [cf_scaleP]
  · rw [gm_zero_left]
theorem times_one {m : Nat} (hm : Ok m) {b : List Nat} (hb : Tr m b) {q : Nat} (hq : q < 2 ^ m) : mulP m (trim (lowL m (b.map Int.ofNat))) (trim (lowL m [((q : Nat) : Int)])) = scaleP m b q := by
  rw [hb.low, show lowL m [((q : Nat) : Int)] = [q] from by show [lo m _] = _; rw [lo_nat hq], mulP_unit hm hb hq]
theorem sum_first {m : Nat} (hm : Ok m) {c : List Nat} (h0 : cf c 0 = 1) (l : List Int) (n : Nat) : sumP m c (lowL m l) n 1 = lo m (l.getD n 0) := by
  show 0 ^^^ gm m (cf c 0) (cf (lowL m l) (n - 0)) = _
  rw [Nat.zero_xor, h0, Nat.sub_zero, cf_low, gm_one_left hm (lo_lt m _)]
theorem rmulC {m : Nat} {w : World} {x : Nat} {z : Int} (hm : Ok m) (hx : x < 2 ^ m) : Spec1 Tryd.prog 37 [.int .i64 (m : Nat), .int .i64 (x : Nat), .int .i64 z] w (.int .i64 (gm m x (lo m z) : Nat)) := by
  have := rmul_spec m (x : Nat) z w hm
  rw [lo_nat hx] at this
  exact this

theorem rlocate_spec (m : Nat) (A : Option Addr) (c : Nat) (l : List Int) (w : World) (hm : Ok m) (ha : Has (sl 1 A l.length (ints .i64 l)) w) (hn : l.length ≤ 4294967296) (hcp : l.length ≤ c) : SpecX Tryd.prog 50 [.int .i64 (m : Nat), .slice A l.length c] w (X := Option Addr × Nat) (fun q => two (.slice q.1 (bmG m (stL m) (lowL m (l.take 80)) (min l.length 80)).c.length q.2) (.int .i64 ((bmG m (stL m) (lowL m (l.take 80)) (min l.length 80)).L : Nat))) (fun q => (bmG m (stL m) (lowL m (l.take 80)) (min l.length 80)).c.length ≤ q.2) (fun q => [own 3 1 q.1 (bmG m (stL m) (lowL m (l.take 80)) (min l.length 80)).c.length q.2 (nats .i64 (bmG m (stL m) (lowL m (l.take 80)) (min l.length 80)).c)]) := by
  have h14 := pow_le14 hm
  have hlt := lowL_lt m (l.take 80)
  have hK : (min l.length 80) ≤ 80 := by omega
  have haT := Has.cong (ha.sl_take (q := (min l.length 80)) (by omega)) (ints_take2 l 80)
  have hlen : (l.take 80).length = (min l.length 80) := by rw [List.length_take]; omega
  refine spec_of Tryd.func50 rfl Tryd.ntmps50 rfl ?_
  refine CW.seq ?_
  refine CW.reg [0, 1] rfl ?_   -- 0, code.go:123
  refine s_as 4 rfl rfl ?_
  refine s_as 5 rfl rfl ?_
  refine SX.next ?_
  refine CW.seq ?_
  refine CW.reg [0, 1, 2, 3, 4, 5] rfl ?_   -- 1, code.go:124
  refine s_mv 17 rfl rfl ?_
  refine s_mv 18 rfl rfl ?_
  refine s_len 19 rfl rfl ?_
  refine s_min 20 rfl rfl rfl (r := (((min l.length 80) : Nat) : Int)) (by split <;> omega) ?_
  refine s_slH 21 (min l.length 80) rfl rfl rfl rfl (by omega) ?_
  refine s_as 1 rfl rfl ?_
  refine SX.next ?_
  refine CW.seq ?_
  refine CW.reg [0, 1] rfl ?_   -- 2, code.go:125
  refine s_bsl 22 rfl rfl (cells := #[.int .i64 1]) (by kernel_rfl) rfl (fun _ _ => trivial) (fun b22 => ?_)
  refine s_as 6 rfl rfl ?_
  refine SX.next ?_
  refine CW.seq ?_
  refine CW.reg [0, 1] rfl ?_   -- 3, code.go:126
  refine s_bsl 23 rfl rfl (cells := #[.int .i64 1]) (by kernel_rfl) rfl (fun _ _ => trivial) (fun b23 => ?_)
  refine s_as 7 rfl rfl ?_
  refine SX.next ?_
  refine CW.seq ?_
  refine CW.reg [0] rfl ?_   -- 4, code.go:127
  refine s_as 8 rfl rfl ?_
  refine SX.next ?_
  refine CW.seq ?_
  refine CW.reg [0] rfl ?_   -- 5, code.go:128
  refine s_as 9 rfl rfl ?_
  refine SX.next ?_
  refine CW.seq ?_
  refine CW.reg [0] rfl ?_   -- 6, code.go:129
  refine s_as 10 rfl rfl ?_
  refine SX.next ?_
  refine CW.seq ?_
  refine CW.seq ?_
  refine CW.reg [0] rfl ?_   -- 7, code.go:130
  refine s_as 11 rfl rfl ?_
  refine SX.next ?_
  refine CW.block ?_
  refine CW.loop (G := Nat × (Option Addr × Nat) × (Option Addr × Nat)) (fun q => [(0, .int .i64 (m : Nat)), (1, .slice A (min l.length 80) c), (6, .slice q.2.1.1 (bmG m (stL m) (lowL m (l.take 80)) q.1).c.length q.2.1.2), (7, .slice q.2.2.1 (bmG m (stL m) (lowL m (l.take 80)) q.1).b.length q.2.2.2), (8, .int .i64 ((bmG m (stL m) (lowL m (l.take 80)) q.1).L : Nat)), (9, .int .i64 ((bmG m (stL m) (lowL m (l.take 80)) q.1).k : Nat)), (10, .int .i64 ((bmG m (stL m) (lowL m (l.take 80)) q.1).e : Nat)), (11, .int .i64 (q.1 : Nat))]) (fun q => Sto w [own 3 1 q.2.1.1 (bmG m (stL m) (lowL m (l.take 80)) q.1).c.length q.2.1.2 (nats .i64 (bmG m (stL m) (lowL m (l.take 80)) q.1).c), own 3 1 q.2.2.1 (bmG m (stL m) (lowL m (l.take 80)) q.1).b.length q.2.2.2 (nats .i64 (bmG m (stL m) (lowL m (l.take 80)) q.1).b)]) (fun q => q.1 ≤ (min l.length 80)) (fun q => (min l.length 80) - q.1) (0, (some ⟨b22, 0, none⟩, 1), (some ⟨b23, 0, none⟩, 1)) ⟨rfl, rfl, rfl, rfl, rfl, rfl, rfl, rfl, trivial⟩ (fun _ h => by
  have h1 := h.pick [1, 0] rfl
  have h2 := h1.blkOwn (q := 0) (c := 1) (sz := 1) rfl rfl (by unfold maxLen; omega)
  have h3 := h2.blkOwn (q := 1) (c := 1) (sz := 1) rfl rfl (by unfold maxLen; omega)
  exact h3) (Nat.zero_le _) ?_
  rintro ⟨i, ca, ba⟩ hi
  simp only at hi
  dsimp only
  have ho := bm_inv hm hlt i
  obtain ⟨hc0, htc, htb, hdc, hzc, hdb, hzb, hLn, he0, hel, hk1, hkb, hcl⟩ := ho
  have hdl : ((bmG m (stL m) (lowL m (l.take 80)) i).d m (lowL m (l.take 80)) i) < 2 ^ m := sumP_lt hm htc.lt _ _
  have hs1 := sum_first hm hc0 (l.take 80) i
  have hql : (gm m ((bmG m (stL m) (lowL m (l.take 80)) i).d m (lowL m (l.take 80)) i) (inv m (bmG m (stL m) (lowL m (l.take 80)) i).e)) < 2 ^ m := gm_lt hm hdl _
  have hsq := scaleP_lq m (bmG m (stL m) (lowL m (l.take 80)) i).b (gm m ((bmG m (stL m) (lowL m (l.take 80)) i).d m (lowL m (l.take 80)) i) (inv m (bmG m (stL m) (lowL m (l.take 80)) i).e))
  have hsql := scaleP_lt hm htb.lt (gm m ((bmG m (stL m) (lowL m (l.take 80)) i).d m (lowL m (l.take 80)) i) (inv m (bmG m (stL m) (lowL m (l.take 80)) i).e))
  refine CW.seq ?_
  refine CW.seq ?_
  refine CW.reg [0, 1, 2, 3] rfl ?_   -- 8, code.go:130
  refine s_mv 24 rfl rfl ?_
  refine s_mv 25 rfl rfl ?_
  refine s_len 26 rfl rfl ?_
  refine s_lt 27 rfl rfl rfl rfl ?_
  refine SX.next ?_
  refine CW.test rfl (fun hc => ?_) (fun hc => ?_)
  · skip
    refine CW.skip ?_
    refine KN.code ?_
    refine CW.seq ?_
    refine CW.block ?_
    refine CW.seq ?_
    refine CW.reg [0, 1, 2, 3, 4, 5, 6] rfl ?_   -- 10, code.go:131
    refine s_mv 30 rfl rfl ?_
    refine s_mv 31 rfl rfl ?_
    refine s_mv 32 rfl rfl ?_
    refine s_iaV 33 i (fun w hw => hw.old haT) rfl rfl rfl rfl (by omega) ?_
    refine s_ldV 34 (fun w hw => hw.old haT) rfl rfl (by rw [Nat.mul_one]; exact intsAt (by omega)) (by omega) ?_
    refine s_call1 35 rfl rfl rfl rfl (v := .int .i64 (sumP m (bmG m (stL m) (lowL m (l.take 80)) i).c (lowL m (l.take 80)) i 1 : Nat)) (fun w hw => by have := rlow_spec m ((l.take 80).getD i 0) w hm; rw [← hs1] at this; exact this) (fun _ _ => trivial) ?_
    refine s_as 12 rfl rfl ?_
    refine SX.next ?_
    refine CW.seq ?_
    refine CW.seq ?_
    refine CW.reg [0] rfl ?_   -- 11, code.go:132
    refine s_as 13 rfl rfl ?_
    refine SX.next ?_
    refine CW.block ?_
    refine CW.loop (G := Nat) (fun j => [(0, .int .i64 (m : Nat)), (1, .slice A (min l.length 80) c), (6, .slice ca.1 (bmG m (stL m) (lowL m (l.take 80)) i).c.length ca.2), (7, .slice ba.1 (bmG m (stL m) (lowL m (l.take 80)) i).b.length ba.2), (8, .int .i64 ((bmG m (stL m) (lowL m (l.take 80)) i).L : Nat)), (9, .int .i64 ((bmG m (stL m) (lowL m (l.take 80)) i).k : Nat)), (10, .int .i64 ((bmG m (stL m) (lowL m (l.take 80)) i).e : Nat)), (11, .int .i64 (i : Nat)), (12, .int .i64 (sumP m (bmG m (stL m) (lowL m (l.take 80)) i).c (lowL m (l.take 80)) i (j + 1) : Nat)), (13, .int .i64 ((j + 1 : Nat) : Int))]) (fun _ => Sto w [own 3 1 ca.1 (bmG m (stL m) (lowL m (l.take 80)) i).c.length ca.2 (nats .i64 (bmG m (stL m) (lowL m (l.take 80)) i).c), own 3 1 ba.1 (bmG m (stL m) (lowL m (l.take 80)) i).b.length ba.2 (nats .i64 (bmG m (stL m) (lowL m (l.take 80)) i).b)]) (fun j => j ≤ (bmG m (stL m) (lowL m (l.take 80)) i).L) (fun j => (bmG m (stL m) (lowL m (l.take 80)) i).L - j) 0 ⟨rfl, rfl, rfl, rfl, rfl, rfl, rfl, rfl, rfl, rfl, trivial⟩ (fun _ h => h) (Nat.zero_le _) ?_
    intro j hj
    have hsj := sumP_lt hm htc.lt (s := (lowL m (l.take 80))) i (j + 1)
    have hgj := gm_lt hm (htc.c (j + 1)) (cf (lowL m (l.take 80)) (i - (j + 1)))
    refine CW.seq ?_
    refine CW.seq ?_
    refine CW.reg [0, 1, 2] rfl ?_   -- 12, code.go:132
    refine s_mv 36 rfl rfl ?_
    refine s_mv 37 rfl rfl ?_
    refine s_le 38 rfl rfl rfl rfl ?_
    refine SX.next ?_
    refine CW.test rfl (fun hc => ?_) (fun hc => ?_)
    · skip
      refine CW.skip ?_
      refine KN.code ?_
      refine CW.seq ?_
      refine CW.block ?_
      refine CW.seq ?_
      refine CW.reg [0, 1, 2, 3] rfl ?_   -- 14, code.go:133
      refine s_mv 41 rfl rfl ?_
      refine s_mv 42 rfl rfl ?_
      refine s_len 43 rfl rfl ?_
      refine s_lt 44 rfl rfl rfl rfl ?_
      refine SX.next ?_
      refine CW.test rfl (fun hc => ?_) (fun hc => ?_)
      · skip
        refine CW.regD (.st true 0 (.st true 1 (.st true 2 (.st true 3 (.st true 4 (.st true 5 (.st true 6 (.st true 7 (.st true 8 (.st true 9 (.st true 10 (.st true 11 (.st false 12 (.st true 13 (.st true 14 .done))))))))))))))) (Sto w [own 3 1 ca.1 (bmG m (stL m) (lowL m (l.take 80)) i).c.length ca.2 (nats .i64 (bmG m (stL m) (lowL m (l.take 80)) i).c), own 3 1 ba.1 (bmG m (stL m) (lowL m (l.take 80)) i).b.length ba.2 (nats .i64 (bmG m (stL m) (lowL m (l.take 80)) i).b)]) mixed (by kernel_rfl) (fun _ h => h.drew) (fun _ h => h) ?_
        refine s_mv 45 rfl rfl ?_
        refine s_mv 46 rfl rfl ?_
        refine s_mv 47 rfl rfl ?_
        refine s_mv 48 rfl rfl ?_
        refine s_iaO 49 0 (j + 1) rfl rfl rfl rfl rfl (by omega) ?_
        refine s_ldS 50 rfl rfl (fun _ h => h.ownCell (q := 0) rfl (natsAtC (by omega))) ?_
        refine s_mv 51 rfl rfl ?_
        refine s_mv 52 rfl rfl ?_
        refine s_mv 53 rfl rfl ?_
        refine s_sub 54 rfl rfl rfl (r := ((i - (j + 1) : Nat) : Int)) (by rw [show ((i : Nat) : Int) - ((j + 1 : Nat) : Int) = ((i - (j + 1) : Nat) : Int) by omega]; exact w64 (by omega)) ?_
        refine s_iaV 55 (i - (j + 1)) (fun w hw => hw.old haT) rfl rfl rfl rfl (by omega) ?_
        refine s_ldVS 56 (fun w hw => hw.old haT) rfl rfl (by rw [Nat.mul_one]; exact intsAt (by omega)) (by omega) ?_
        refine s_call1 57 rfl rfl rfl rfl (fun w hw => by have := rmulC (z := (l.take 80).getD (i - (j + 1)) 0) (w := w) hm (htc.c (j + 1)); rw [← cf_low] at this; exact this) (fun _ h => h) ?_
        refine s_bit 58 rfl rfl rfl rfl (ibit_xor_nat (pow63 hm hsj) (pow63 hm hgj)) ?_
        refine s_as 12 rfl rfl ?_
        refine SX.end_ ?_
        refine KN.blk ?_
        refine KN.code ?_
        refine CW.reg [0, 1, 2] rfl ?_   -- 13, code.go:132
        refine s_mv 39 rfl rfl ?_
        refine s_add 40 rfl rfl rfl (r := ((j + 1 + 1 : Nat) : Int)) (w64 (by omega)) ?_
        refine s_as 13 rfl rfl ?_
        refine SX.end_ ?_
        exact KN.back (j + 1) ⟨rfl, rfl, rfl, rfl, rfl, rfl, rfl, rfl, rfl, rfl, trivial⟩ (fun _ h => h) (by omega) (by omega)
      · skip
        have hno : sumP m (bmG m (stL m) (lowL m (l.take 80)) i).c (lowL m (l.take 80)) i (j + 1 + 1) = sumP m (bmG m (stL m) (lowL m (l.take 80)) i).c (lowL m (l.take 80)) i (j + 1) := by
          show _ ^^^ gm m (cf _ (j + 1)) _ = _
          rw [cf_out (by omega), gm_zero_left, Nat.xor_zero]; rfl
        refine CW.skip ?_
        refine KN.blk ?_
        refine KN.code ?_
        refine CW.reg [0, 1, 2] rfl ?_   -- 13, code.go:132
        refine s_mv 39 rfl rfl ?_
        refine s_add 40 rfl rfl rfl (r := ((j + 1 + 1 : Nat) : Int)) (w64 (by omega)) ?_
        refine s_as 13 rfl rfl ?_
        refine SX.end_ ?_
        exact KN.back (j + 1) ⟨rfl, rfl, rfl, rfl, rfl, rfl, rfl, rfl, by rw [hno]; rfl, rfl, trivial⟩ (fun _ h => h) (by omega) (by omega)
    · skip
      have hje : j = (bmG m (stL m) (lowL m (l.take 80)) i).L := by omega
      subst hje
      refine CW.exit rfl ?_
      refine KN.code ?_
      refine CW.seq ?_
      refine CW.seq ?_
      refine CW.reg [0, 1] rfl ?_   -- 16, code.go:137
      refine s_mv 59 rfl rfl ?_
      refine s_eq 60 rfl rfl rfl rfl ?_
      refine SX.next ?_
      refine CW.test rfl (fun hc => ?_) (fun hc => ?_)
      · skip
        have hB : (bmG m (stL m) (lowL m (l.take 80)) (i + 1)) = ⟨(bmG m (stL m) (lowL m (l.take 80)) i).c, (bmG m (stL m) (lowL m (l.take 80)) i).b, (bmG m (stL m) (lowL m (l.take 80)) i).L, (bmG m (stL m) (lowL m (l.take 80)) i).k + 1, (bmG m (stL m) (lowL m (l.take 80)) i).e⟩ := if_pos (by unfold Bm.d; omega)
        refine CW.seq ?_
        refine CW.reg [0, 1, 2] rfl ?_   -- 17, code.go:138
        refine s_mv 61 rfl rfl ?_
        refine s_add 62 rfl rfl rfl (r := (((bmG m (stL m) (lowL m (l.take 80)) i).k + 1 : Nat) : Int)) (w64 (by omega)) ?_
        refine s_as 9 rfl rfl ?_
        refine SX.next ?_
        refine CW.exit rfl ?_
        refine KN.code ?_
        refine CW.reg [0, 1, 2] rfl ?_   -- 9, code.go:130
        refine s_mv 28 rfl rfl ?_
        refine s_add 29 rfl rfl rfl (r := ((i + 1 : Nat) : Int)) (w64 (by omega)) ?_
        refine s_as 11 rfl rfl ?_
        refine SX.end_ ?_
        exact KN.back (i + 1, ca, ba) ⟨rfl, rfl, by simp only [hB]; rfl, by simp only [hB]; rfl, by simp only [hB]; rfl, by simp only [hB]; rfl, by simp only [hB]; rfl, rfl, trivial⟩ (fun _ h => by simp only [hB]; exact h) (by simp only; omega) (by simp only; omega)
      · skip
        have hd0 : ¬ ((bmG m (stL m) (lowL m (l.take 80)) i).d m (lowL m (l.take 80)) i) = 0 := fun h => hc (by unfold Bm.d at h; rw [h]; rfl)
        refine CW.skip ?_
        refine KN.code ?_
        refine CW.seq ?_
        refine CW.reg [0, 1, 2, 3, 4, 5, 6] rfl ?_   -- 18, code.go:141
        refine s_mv 63 rfl rfl ?_
        refine s_mv 64 rfl rfl ?_
        refine s_mv 65 rfl rfl ?_
        refine s_mv 66 rfl rfl ?_
        refine s_call1 67 rfl rfl rfl rfl (fun w hw => rinvN hm hel he0) (fun _ _ => trivial) ?_
        refine s_call1 68 rfl rfl rfl rfl (fun w hw => rmulN hm hdl (inv_lt hm _)) (fun _ _ => trivial) ?_
        refine s_as 14 rfl rfl ?_
        refine SX.next ?_
        refine CW.seq ?_
        refine CW.regD (.st true 0 (.st true 2 (.st true 3 (.st true 4 (.alt 1 (.st false 5 (.st false 6 (.st false 7 (.st true 8 .done)))) (.st false 5 (.alt 1 (.st false 6 (.st false 7 (.st true 8 .done))) (.st false 6 (.st false 1 (.st false 7 (.st true 8 .done))))))))))) (Sto w []) mixed (by kernel_rfl) (fun _ h => h.drew) (fun _ h => h.pick [] rfl) ?_
        refine s_mv 69 rfl rfl ?_
        refine s_mv 71 rfl rfl ?_
        refine s_mv 72 rfl rfl ?_
        refine s_mv 73 rfl rfl ?_
        refine SX.alt ?_ ?_
        · skip
          refine s_make 70 (bmG m (stL m) (lowL m (l.take 80)) i).k rfl rfl rfl rfl rfl (by omega) (fun _ h => h.pick [] rfl) (fun g70 => ?_)
          refine SX.pre (fun _ h => h.blkOwn (q := 0) (c := (bmG m (stL m) (lowL m (l.take 80)) i).k) (sz := 1) rfl (by simp) (by unfold maxLen; omega)) ?_
          refine s_bsl 74 rfl rfl (cells := #[.int .i64 ((gm m ((bmG m (stL m) (lowL m (l.take 80)) i).d m (lowL m (l.take 80)) i) (inv m (bmG m (stL m) (lowL m (l.take 80)) i).e)) : Nat)]) (by kernel_rfl) rfl (fun _ h => h.pick [] rfl) (fun b74 => ?_)
          refine s_call 75 rfl rfl rfl rfl (fun w hw => by have := rtimes_spec m ba.1 (bmG m (stL m) (lowL m (l.take 80)) i).b.length ba.2 ((bmG m (stL m) (lowL m (l.take 80)) i).b.map Int.ofNat) (some ⟨b74, 0, none⟩) 1 1 [(((gm m ((bmG m (stL m) (lowL m (l.take 80)) i).d m (lowL m (l.take 80)) i) (inv m (bmG m (stL m) (lowL m (l.take 80)) i).e)) : Nat) : Int)] w hm (by rw [← nats_ints]; exact (hw.has (i := 3) rfl).of_own) (Has.cong ((hw.has (i := 0) rfl).blk_sl (m := 1) rfl) rfl) (by omega) (by omega); rw [times_one hm htb hql] at this; exact this) (fun _ h => h.pick [] rfl) (fun q75 hq75 => ?_)
          refine s_app 76 2 (sz := 1) rfl rfl rfl rfl (ys := nats .i64 (scaleP m (bmG m (stL m) (lowL m (l.take 80)) i).b (gm m ((bmG m (stL m) (lowL m (l.take 80)) i).d m (lowL m (l.take 80)) i) (inv m (bmG m (stL m) (lowL m (l.take 80)) i).e)))) (fun w hw => (hw.has (i := 0) rfl).of_own) (nats_one _ _) rfl (by omega) (by unfold maxLen; omega) (by omega) (fun _ _ _ h => h.pick [] rfl) (fun A2 c2 hc2 => ?_)
          refine s_as 15 rfl rfl ?_
          refine SX.next ?_
          refine CW.seq ?_
          refine CW.reg [0, 1, 2, 3, 4] rfl ?_   -- 20, code.go:143
          refine s_mv 77 rfl rfl ?_
          refine s_mv 78 rfl rfl ?_
          refine s_mv 79 rfl rfl ?_
          refine s_call 80 rfl rfl rfl rfl (fun w hw => by have := radd_spec m ca.1 (bmG m (stL m) (lowL m (l.take 80)) i).c.length ca.2 ((bmG m (stL m) (lowL m (l.take 80)) i).c.map Int.ofNat) A2 ((bmG m (stL m) (lowL m (l.take 80)) i).k + (scaleP m (bmG m (stL m) (lowL m (l.take 80)) i).b (gm m ((bmG m (stL m) (lowL m (l.take 80)) i).d m (lowL m (l.take 80)) i) (inv m (bmG m (stL m) (lowL m (l.take 80)) i).e))).length) c2 ((List.replicate (bmG m (stL m) (lowL m (l.take 80)) i).k 0 ++ scaleP m (bmG m (stL m) (lowL m (l.take 80)) i).b (gm m ((bmG m (stL m) (lowL m (l.take 80)) i).d m (lowL m (l.take 80)) i) (inv m (bmG m (stL m) (lowL m (l.take 80)) i).e))).map Int.ofNat) w hm (by rw [← nats_ints]; exact (hw.has (i := 3) rfl).of_own) (Has.cong ((hw.has (i := 2) rfl).of_own) (by rw [← nats_ints, ← nats_app, ← rep_nats])) (by omega) (by omega); rw [lowL_ofNat htc.lt, lowL_ofNat (fun x hx => (List.mem_append.1 hx).elim (fun h => by rw [(List.mem_replicate.1 h).2]; exact Nat.two_pow_pos m) (hsql x)), stL_ref hm htc.lt htb.lt] at this; exact this) (fun _ _ => trivial) (fun q80 hq80 => ?_)
          refine s_as 16 rfl rfl ?_
          refine SX.next ?_
          refine CW.seq ?_
          refine CW.seq ?_
          refine CW.reg [0, 1, 2, 3] rfl ?_   -- 21, code.go:144
          refine s_mv 81 rfl rfl ?_
          refine s_mul 82 rfl rfl rfl (r := ((2 * (bmG m (stL m) (lowL m (l.take 80)) i).L : Nat) : Int)) (by rw [show (2 : Int) * (((bmG m (stL m) (lowL m (l.take 80)) i).L : Nat) : Int) = ((2 * (bmG m (stL m) (lowL m (l.take 80)) i).L : Nat) : Int) by omega]; exact w64 (by omega)) ?_
          refine s_mv 83 rfl rfl ?_
          refine s_gt 84 rfl rfl rfl rfl ?_
          refine SX.next ?_
          refine CW.test rfl (fun hc2 => ?_) (fun hc2 => ?_)
          · skip
            have hB : (bmG m (stL m) (lowL m (l.take 80)) (i + 1)) = ⟨(stL m (bmG m (stL m) (lowL m (l.take 80)) i).c (List.replicate (bmG m (stL m) (lowL m (l.take 80)) i).k 0 ++ (bmG m (stL m) (lowL m (l.take 80)) i).b) ((bmG m (stL m) (lowL m (l.take 80)) i).d m (lowL m (l.take 80)) i) (bmG m (stL m) (lowL m (l.take 80)) i).e), (bmG m (stL m) (lowL m (l.take 80)) i).b, (bmG m (stL m) (lowL m (l.take 80)) i).L, (bmG m (stL m) (lowL m (l.take 80)) i).k + 1, (bmG m (stL m) (lowL m (l.take 80)) i).e⟩ := (if_neg hd0).trans (if_pos (by omega))
            refine CW.seq ?_
            refine CW.reg [0, 1] rfl ?_   -- 22, code.go:145
            refine s_mv 85 rfl rfl ?_
            refine s_as 6 rfl rfl ?_
            refine SX.next ?_
            refine CW.seq ?_
            refine CW.reg [0, 1, 2] rfl ?_   -- 23, code.go:146
            refine s_mv 86 rfl rfl ?_
            refine s_add 87 rfl rfl rfl (r := (((bmG m (stL m) (lowL m (l.take 80)) i).k + 1 : Nat) : Int)) (w64 (by omega)) ?_
            refine s_as 9 rfl rfl ?_
            refine SX.next ?_
            refine CW.exit rfl ?_
            refine KN.code ?_
            refine CW.reg [0, 1, 2] rfl ?_   -- 9, code.go:130
            refine s_mv 28 rfl rfl ?_
            refine s_add 29 rfl rfl rfl (r := ((i + 1 : Nat) : Int)) (w64 (by omega)) ?_
            refine s_as 11 rfl rfl ?_
            refine SX.end_ ?_
            exact KN.back (i + 1, q80, ba) ⟨rfl, rfl, by simp only [hB]; rfl, by simp only [hB]; rfl, by simp only [hB]; rfl, by simp only [hB]; rfl, by simp only [hB]; rfl, rfl, trivial⟩ (fun _ h => by simp only [hB]; exact h.pick [0, 4] rfl) (by simp only; omega) (by simp only; omega)
          · skip
            have hB : (bmG m (stL m) (lowL m (l.take 80)) (i + 1)) = ⟨(stL m (bmG m (stL m) (lowL m (l.take 80)) i).c (List.replicate (bmG m (stL m) (lowL m (l.take 80)) i).k 0 ++ (bmG m (stL m) (lowL m (l.take 80)) i).b) ((bmG m (stL m) (lowL m (l.take 80)) i).d m (lowL m (l.take 80)) i) (bmG m (stL m) (lowL m (l.take 80)) i).e), (bmG m (stL m) (lowL m (l.take 80)) i).c, i + 1 - (bmG m (stL m) (lowL m (l.take 80)) i).L, 1, ((bmG m (stL m) (lowL m (l.take 80)) i).d m (lowL m (l.take 80)) i)⟩ := (if_neg hd0).trans (if_neg (by omega))
            refine CW.skip ?_
            refine KN.code ?_
            refine CW.seq ?_
            refine CW.reg [0, 1] rfl ?_   -- 24, code.go:149
            refine s_mv 88 rfl rfl ?_
            refine s_as 7 rfl rfl ?_
            refine SX.next ?_
            refine CW.seq ?_
            refine CW.reg [0, 1] rfl ?_   -- 25, code.go:150
            refine s_mv 89 rfl rfl ?_
            refine s_as 6 rfl rfl ?_
            refine SX.next ?_
            refine CW.seq ?_
            refine CW.reg [0, 1, 2, 3, 4] rfl ?_   -- 26, code.go:151
            refine s_mv 90 rfl rfl ?_
            refine s_add 91 rfl rfl rfl (r := ((i + 1 : Nat) : Int)) (w64 (by omega)) ?_
            refine s_mv 92 rfl rfl ?_
            refine s_sub 93 rfl rfl rfl (r := ((i + 1 - (bmG m (stL m) (lowL m (l.take 80)) i).L : Nat) : Int)) (by rw [show ((i + 1 : Nat) : Int) - ((bmG m (stL m) (lowL m (l.take 80)) i).L : Nat) = ((i + 1 - (bmG m (stL m) (lowL m (l.take 80)) i).L : Nat) : Int) by omega]; exact w64 (by omega)) ?_
            refine s_as 8 rfl rfl ?_
            refine SX.next ?_
            refine CW.seq ?_
            refine CW.reg [0, 1] rfl ?_   -- 27, code.go:152
            refine s_mv 94 rfl rfl ?_
            refine s_as 10 rfl rfl ?_
            refine SX.next ?_
            refine CW.reg [0] rfl ?_   -- 28, code.go:153
            refine s_as 9 rfl rfl ?_
            refine SX.end_ ?_
            refine KN.blk ?_
            refine KN.code ?_
            refine CW.reg [0, 1, 2] rfl ?_   -- 9, code.go:130
            refine s_mv 28 rfl rfl ?_
            refine s_add 29 rfl rfl rfl (r := ((i + 1 : Nat) : Int)) (w64 (by omega)) ?_
            refine s_as 11 rfl rfl ?_
            refine SX.end_ ?_
            exact KN.back (i + 1, q80, ca) ⟨rfl, rfl, by simp only [hB]; rfl, by simp only [hB]; rfl, by simp only [hB]; rfl, by simp only [hB]; rfl, by simp only [hB]; rfl, rfl, trivial⟩ (fun _ h => by simp only [hB]; exact h.pick [0, 3] rfl) (by simp only; omega) (by simp only; omega)
        · skip
          refine s_bsl 74 rfl rfl (cells := #[.int .i64 ((gm m ((bmG m (stL m) (lowL m (l.take 80)) i).d m (lowL m (l.take 80)) i) (inv m (bmG m (stL m) (lowL m (l.take 80)) i).e)) : Nat)]) (by kernel_rfl) rfl (fun _ h => h.pick [] rfl) (fun b74 => ?_)
          refine SX.alt ?_ ?_
          · skip
            refine s_make 70 (bmG m (stL m) (lowL m (l.take 80)) i).k rfl rfl rfl rfl rfl (by omega) (fun _ h => h.pick [] rfl) (fun g70 => ?_)
            refine SX.pre (fun _ h => h.blkOwn (q := 0) (c := (bmG m (stL m) (lowL m (l.take 80)) i).k) (sz := 1) rfl (by simp) (by unfold maxLen; omega)) ?_
            refine s_call 75 rfl rfl rfl rfl (fun w hw => by have := rtimes_spec m ba.1 (bmG m (stL m) (lowL m (l.take 80)) i).b.length ba.2 ((bmG m (stL m) (lowL m (l.take 80)) i).b.map Int.ofNat) (some ⟨b74, 0, none⟩) 1 1 [(((gm m ((bmG m (stL m) (lowL m (l.take 80)) i).d m (lowL m (l.take 80)) i) (inv m (bmG m (stL m) (lowL m (l.take 80)) i).e)) : Nat) : Int)] w hm (by rw [← nats_ints]; exact (hw.has (i := 3) rfl).of_own) (Has.cong ((hw.has (i := 1) rfl).blk_sl (m := 1) rfl) rfl) (by omega) (by omega); rw [times_one hm htb hql] at this; exact this) (fun _ h => h.pick [] rfl) (fun q75 hq75 => ?_)
            refine s_app 76 1 (sz := 1) rfl rfl rfl rfl (ys := nats .i64 (scaleP m (bmG m (stL m) (lowL m (l.take 80)) i).b (gm m ((bmG m (stL m) (lowL m (l.take 80)) i).d m (lowL m (l.take 80)) i) (inv m (bmG m (stL m) (lowL m (l.take 80)) i).e)))) (fun w hw => (hw.has (i := 0) rfl).of_own) (nats_one _ _) rfl (by omega) (by unfold maxLen; omega) (by omega) (fun _ _ _ h => h.pick [] rfl) (fun A2 c2 hc2 => ?_)
            refine s_as 15 rfl rfl ?_
            refine SX.next ?_
            refine CW.seq ?_
            refine CW.reg [0, 1, 2, 3, 4] rfl ?_   -- 20, code.go:143
            refine s_mv 77 rfl rfl ?_
            refine s_mv 78 rfl rfl ?_
            refine s_mv 79 rfl rfl ?_
            refine s_call 80 rfl rfl rfl rfl (fun w hw => by have := radd_spec m ca.1 (bmG m (stL m) (lowL m (l.take 80)) i).c.length ca.2 ((bmG m (stL m) (lowL m (l.take 80)) i).c.map Int.ofNat) A2 ((bmG m (stL m) (lowL m (l.take 80)) i).k + (scaleP m (bmG m (stL m) (lowL m (l.take 80)) i).b (gm m ((bmG m (stL m) (lowL m (l.take 80)) i).d m (lowL m (l.take 80)) i) (inv m (bmG m (stL m) (lowL m (l.take 80)) i).e))).length) c2 ((List.replicate (bmG m (stL m) (lowL m (l.take 80)) i).k 0 ++ scaleP m (bmG m (stL m) (lowL m (l.take 80)) i).b (gm m ((bmG m (stL m) (lowL m (l.take 80)) i).d m (lowL m (l.take 80)) i) (inv m (bmG m (stL m) (lowL m (l.take 80)) i).e))).map Int.ofNat) w hm (by rw [← nats_ints]; exact (hw.has (i := 3) rfl).of_own) (Has.cong ((hw.has (i := 1) rfl).of_own) (by rw [← nats_ints, ← nats_app, ← rep_nats])) (by omega) (by omega); rw [lowL_ofNat htc.lt, lowL_ofNat (fun x hx => (List.mem_append.1 hx).elim (fun h => by rw [(List.mem_replicate.1 h).2]; exact Nat.two_pow_pos m) (hsql x)), stL_ref hm htc.lt htb.lt] at this; exact this) (fun _ _ => trivial) (fun q80 hq80 => ?_)
            refine s_as 16 rfl rfl ?_
            refine SX.next ?_
            refine CW.seq ?_
            refine CW.seq ?_
            refine CW.reg [0, 1, 2, 3] rfl ?_   -- 21, code.go:144
            refine s_mv 81 rfl rfl ?_
            refine s_mul 82 rfl rfl rfl (r := ((2 * (bmG m (stL m) (lowL m (l.take 80)) i).L : Nat) : Int)) (by rw [show (2 : Int) * (((bmG m (stL m) (lowL m (l.take 80)) i).L : Nat) : Int) = ((2 * (bmG m (stL m) (lowL m (l.take 80)) i).L : Nat) : Int) by omega]; exact w64 (by omega)) ?_
            refine s_mv 83 rfl rfl ?_
            refine s_gt 84 rfl rfl rfl rfl ?_
            refine SX.next ?_
            refine CW.test rfl (fun hc2 => ?_) (fun hc2 => ?_)
            · skip
              have hB : (bmG m (stL m) (lowL m (l.take 80)) (i + 1)) = ⟨(stL m (bmG m (stL m) (lowL m (l.take 80)) i).c (List.replicate (bmG m (stL m) (lowL m (l.take 80)) i).k 0 ++ (bmG m (stL m) (lowL m (l.take 80)) i).b) ((bmG m (stL m) (lowL m (l.take 80)) i).d m (lowL m (l.take 80)) i) (bmG m (stL m) (lowL m (l.take 80)) i).e), (bmG m (stL m) (lowL m (l.take 80)) i).b, (bmG m (stL m) (lowL m (l.take 80)) i).L, (bmG m (stL m) (lowL m (l.take 80)) i).k + 1, (bmG m (stL m) (lowL m (l.take 80)) i).e⟩ := (if_neg hd0).trans (if_pos (by omega))
              refine CW.seq ?_
              refine CW.reg [0, 1] rfl ?_   -- 22, code.go:145
              refine s_mv 85 rfl rfl ?_
              refine s_as 6 rfl rfl ?_
              refine SX.next ?_
              refine CW.seq ?_
              refine CW.reg [0, 1, 2] rfl ?_   -- 23, code.go:146
              refine s_mv 86 rfl rfl ?_
              refine s_add 87 rfl rfl rfl (r := (((bmG m (stL m) (lowL m (l.take 80)) i).k + 1 : Nat) : Int)) (w64 (by omega)) ?_
              refine s_as 9 rfl rfl ?_
              refine SX.next ?_
              refine CW.exit rfl ?_
              refine KN.code ?_
              refine CW.reg [0, 1, 2] rfl ?_   -- 9, code.go:130
              refine s_mv 28 rfl rfl ?_
              refine s_add 29 rfl rfl rfl (r := ((i + 1 : Nat) : Int)) (w64 (by omega)) ?_
              refine s_as 11 rfl rfl ?_
              refine SX.end_ ?_
              exact KN.back (i + 1, q80, ba) ⟨rfl, rfl, by simp only [hB]; rfl, by simp only [hB]; rfl, by simp only [hB]; rfl, by simp only [hB]; rfl, by simp only [hB]; rfl, rfl, trivial⟩ (fun _ h => by simp only [hB]; exact h.pick [0, 4] rfl) (by simp only; omega) (by simp only; omega)
            · skip
              have hB : (bmG m (stL m) (lowL m (l.take 80)) (i + 1)) = ⟨(stL m (bmG m (stL m) (lowL m (l.take 80)) i).c (List.replicate (bmG m (stL m) (lowL m (l.take 80)) i).k 0 ++ (bmG m (stL m) (lowL m (l.take 80)) i).b) ((bmG m (stL m) (lowL m (l.take 80)) i).d m (lowL m (l.take 80)) i) (bmG m (stL m) (lowL m (l.take 80)) i).e), (bmG m (stL m) (lowL m (l.take 80)) i).c, i + 1 - (bmG m (stL m) (lowL m (l.take 80)) i).L, 1, ((bmG m (stL m) (lowL m (l.take 80)) i).d m (lowL m (l.take 80)) i)⟩ := (if_neg hd0).trans (if_neg (by omega))
              refine CW.skip ?_
              refine KN.code ?_
              refine CW.seq ?_
              refine CW.reg [0, 1] rfl ?_   -- 24, code.go:149
              refine s_mv 88 rfl rfl ?_
              refine s_as 7 rfl rfl ?_
              refine SX.next ?_
              refine CW.seq ?_
              refine CW.reg [0, 1] rfl ?_   -- 25, code.go:150
              refine s_mv 89 rfl rfl ?_
              refine s_as 6 rfl rfl ?_
              refine SX.next ?_
              refine CW.seq ?_
              refine CW.reg [0, 1, 2, 3, 4] rfl ?_   -- 26, code.go:151
              refine s_mv 90 rfl rfl ?_
              refine s_add 91 rfl rfl rfl (r := ((i + 1 : Nat) : Int)) (w64 (by omega)) ?_
              refine s_mv 92 rfl rfl ?_
              refine s_sub 93 rfl rfl rfl (r := ((i + 1 - (bmG m (stL m) (lowL m (l.take 80)) i).L : Nat) : Int)) (by rw [show ((i + 1 : Nat) : Int) - ((bmG m (stL m) (lowL m (l.take 80)) i).L : Nat) = ((i + 1 - (bmG m (stL m) (lowL m (l.take 80)) i).L : Nat) : Int) by omega]; exact w64 (by omega)) ?_
              refine s_as 8 rfl rfl ?_
              refine SX.next ?_
              refine CW.seq ?_
              refine CW.reg [0, 1] rfl ?_   -- 27, code.go:152
              refine s_mv 94 rfl rfl ?_
              refine s_as 10 rfl rfl ?_
              refine SX.next ?_
              refine CW.reg [0] rfl ?_   -- 28, code.go:153
              refine s_as 9 rfl rfl ?_
              refine SX.end_ ?_
              refine KN.blk ?_
              refine KN.code ?_
              refine CW.reg [0, 1, 2] rfl ?_   -- 9, code.go:130
              refine s_mv 28 rfl rfl ?_
              refine s_add 29 rfl rfl rfl (r := ((i + 1 : Nat) : Int)) (w64 (by omega)) ?_
              refine s_as 11 rfl rfl ?_
              refine SX.end_ ?_
              exact KN.back (i + 1, q80, ca) ⟨rfl, rfl, by simp only [hB]; rfl, by simp only [hB]; rfl, by simp only [hB]; rfl, by simp only [hB]; rfl, by simp only [hB]; rfl, rfl, trivial⟩ (fun _ h => by simp only [hB]; exact h.pick [0, 3] rfl) (by simp only; omega) (by simp only; omega)
          · skip
            refine s_call 75 rfl rfl rfl rfl (fun w hw => by have := rtimes_spec m ba.1 (bmG m (stL m) (lowL m (l.take 80)) i).b.length ba.2 ((bmG m (stL m) (lowL m (l.take 80)) i).b.map Int.ofNat) (some ⟨b74, 0, none⟩) 1 1 [(((gm m ((bmG m (stL m) (lowL m (l.take 80)) i).d m (lowL m (l.take 80)) i) (inv m (bmG m (stL m) (lowL m (l.take 80)) i).e)) : Nat) : Int)] w hm (by rw [← nats_ints]; exact (hw.has (i := 2) rfl).of_own) (Has.cong ((hw.has (i := 0) rfl).blk_sl (m := 1) rfl) rfl) (by omega) (by omega); rw [times_one hm htb hql] at this; exact this) (fun _ h => h.pick [] rfl) (fun q75 hq75 => ?_)
            refine s_make 70 (bmG m (stL m) (lowL m (l.take 80)) i).k rfl rfl rfl rfl rfl (by omega) (fun _ h => h.pick [] rfl) (fun g70 => ?_)
            refine SX.pre (fun _ h => h.blkOwn (q := 0) (c := (bmG m (stL m) (lowL m (l.take 80)) i).k) (sz := 1) rfl (by simp) (by unfold maxLen; omega)) ?_
            refine s_app 76 0 (sz := 1) rfl rfl rfl rfl (ys := nats .i64 (scaleP m (bmG m (stL m) (lowL m (l.take 80)) i).b (gm m ((bmG m (stL m) (lowL m (l.take 80)) i).d m (lowL m (l.take 80)) i) (inv m (bmG m (stL m) (lowL m (l.take 80)) i).e)))) (fun w hw => (hw.has (i := 1) rfl).of_own) (nats_one _ _) rfl (by omega) (by unfold maxLen; omega) (by omega) (fun _ _ _ h => h.pick [] rfl) (fun A2 c2 hc2 => ?_)
            refine s_as 15 rfl rfl ?_
            refine SX.next ?_
            refine CW.seq ?_
            refine CW.reg [0, 1, 2, 3, 4] rfl ?_   -- 20, code.go:143
            refine s_mv 77 rfl rfl ?_
            refine s_mv 78 rfl rfl ?_
            refine s_mv 79 rfl rfl ?_
            refine s_call 80 rfl rfl rfl rfl (fun w hw => by have := radd_spec m ca.1 (bmG m (stL m) (lowL m (l.take 80)) i).c.length ca.2 ((bmG m (stL m) (lowL m (l.take 80)) i).c.map Int.ofNat) A2 ((bmG m (stL m) (lowL m (l.take 80)) i).k + (scaleP m (bmG m (stL m) (lowL m (l.take 80)) i).b (gm m ((bmG m (stL m) (lowL m (l.take 80)) i).d m (lowL m (l.take 80)) i) (inv m (bmG m (stL m) (lowL m (l.take 80)) i).e))).length) c2 ((List.replicate (bmG m (stL m) (lowL m (l.take 80)) i).k 0 ++ scaleP m (bmG m (stL m) (lowL m (l.take 80)) i).b (gm m ((bmG m (stL m) (lowL m (l.take 80)) i).d m (lowL m (l.take 80)) i) (inv m (bmG m (stL m) (lowL m (l.take 80)) i).e))).map Int.ofNat) w hm (by rw [← nats_ints]; exact (hw.has (i := 3) rfl).of_own) (Has.cong ((hw.has (i := 0) rfl).of_own) (by rw [← nats_ints, ← nats_app, ← rep_nats])) (by omega) (by omega); rw [lowL_ofNat htc.lt, lowL_ofNat (fun x hx => (List.mem_append.1 hx).elim (fun h => by rw [(List.mem_replicate.1 h).2]; exact Nat.two_pow_pos m) (hsql x)), stL_ref hm htc.lt htb.lt] at this; exact this) (fun _ _ => trivial) (fun q80 hq80 => ?_)
            refine s_as 16 rfl rfl ?_
            refine SX.next ?_
            refine CW.seq ?_
            refine CW.seq ?_
            refine CW.reg [0, 1, 2, 3] rfl ?_   -- 21, code.go:144
            refine s_mv 81 rfl rfl ?_
            refine s_mul 82 rfl rfl rfl (r := ((2 * (bmG m (stL m) (lowL m (l.take 80)) i).L : Nat) : Int)) (by rw [show (2 : Int) * (((bmG m (stL m) (lowL m (l.take 80)) i).L : Nat) : Int) = ((2 * (bmG m (stL m) (lowL m (l.take 80)) i).L : Nat) : Int) by omega]; exact w64 (by omega)) ?_
            refine s_mv 83 rfl rfl ?_
            refine s_gt 84 rfl rfl rfl rfl ?_
            refine SX.next ?_
            refine CW.test rfl (fun hc2 => ?_) (fun hc2 => ?_)
            · skip
              have hB : (bmG m (stL m) (lowL m (l.take 80)) (i + 1)) = ⟨(stL m (bmG m (stL m) (lowL m (l.take 80)) i).c (List.replicate (bmG m (stL m) (lowL m (l.take 80)) i).k 0 ++ (bmG m (stL m) (lowL m (l.take 80)) i).b) ((bmG m (stL m) (lowL m (l.take 80)) i).d m (lowL m (l.take 80)) i) (bmG m (stL m) (lowL m (l.take 80)) i).e), (bmG m (stL m) (lowL m (l.take 80)) i).b, (bmG m (stL m) (lowL m (l.take 80)) i).L, (bmG m (stL m) (lowL m (l.take 80)) i).k + 1, (bmG m (stL m) (lowL m (l.take 80)) i).e⟩ := (if_neg hd0).trans (if_pos (by omega))
              refine CW.seq ?_
              refine CW.reg [0, 1] rfl ?_   -- 22, code.go:145
              refine s_mv 85 rfl rfl ?_
              refine s_as 6 rfl rfl ?_
              refine SX.next ?_
              refine CW.seq ?_
              refine CW.reg [0, 1, 2] rfl ?_   -- 23, code.go:146
              refine s_mv 86 rfl rfl ?_
              refine s_add 87 rfl rfl rfl (r := (((bmG m (stL m) (lowL m (l.take 80)) i).k + 1 : Nat) : Int)) (w64 (by omega)) ?_
              refine s_as 9 rfl rfl ?_
              refine SX.next ?_
              refine CW.exit rfl ?_
              refine KN.code ?_
              refine CW.reg [0, 1, 2] rfl ?_   -- 9, code.go:130
              refine s_mv 28 rfl rfl ?_
              refine s_add 29 rfl rfl rfl (r := ((i + 1 : Nat) : Int)) (w64 (by omega)) ?_
              refine s_as 11 rfl rfl ?_
              refine SX.end_ ?_
              exact KN.back (i + 1, q80, ba) ⟨rfl, rfl, by simp only [hB]; rfl, by simp only [hB]; rfl, by simp only [hB]; rfl, by simp only [hB]; rfl, by simp only [hB]; rfl, rfl, trivial⟩ (fun _ h => by simp only [hB]; exact h.pick [0, 4] rfl) (by simp only; omega) (by simp only; omega)
            · skip
              have hB : (bmG m (stL m) (lowL m (l.take 80)) (i + 1)) = ⟨(stL m (bmG m (stL m) (lowL m (l.take 80)) i).c (List.replicate (bmG m (stL m) (lowL m (l.take 80)) i).k 0 ++ (bmG m (stL m) (lowL m (l.take 80)) i).b) ((bmG m (stL m) (lowL m (l.take 80)) i).d m (lowL m (l.take 80)) i) (bmG m (stL m) (lowL m (l.take 80)) i).e), (bmG m (stL m) (lowL m (l.take 80)) i).c, i + 1 - (bmG m (stL m) (lowL m (l.take 80)) i).L, 1, ((bmG m (stL m) (lowL m (l.take 80)) i).d m (lowL m (l.take 80)) i)⟩ := (if_neg hd0).trans (if_neg (by omega))
              refine CW.skip ?_
              refine KN.code ?_
              refine CW.seq ?_
              refine CW.reg [0, 1] rfl ?_   -- 24, code.go:149
              refine s_mv 88 rfl rfl ?_
              refine s_as 7 rfl rfl ?_
              refine SX.next ?_
              refine CW.seq ?_
              refine CW.reg [0, 1] rfl ?_   -- 25, code.go:150
              refine s_mv 89 rfl rfl ?_
              refine s_as 6 rfl rfl ?_
              refine SX.next ?_
              refine CW.seq ?_
              refine CW.reg [0, 1, 2, 3, 4] rfl ?_   -- 26, code.go:151
              refine s_mv 90 rfl rfl ?_
              refine s_add 91 rfl rfl rfl (r := ((i + 1 : Nat) : Int)) (w64 (by omega)) ?_
              refine s_mv 92 rfl rfl ?_
              refine s_sub 93 rfl rfl rfl (r := ((i + 1 - (bmG m (stL m) (lowL m (l.take 80)) i).L : Nat) : Int)) (by rw [show ((i + 1 : Nat) : Int) - ((bmG m (stL m) (lowL m (l.take 80)) i).L : Nat) = ((i + 1 - (bmG m (stL m) (lowL m (l.take 80)) i).L : Nat) : Int) by omega]; exact w64 (by omega)) ?_
              refine s_as 8 rfl rfl ?_
              refine SX.next ?_
              refine CW.seq ?_
              refine CW.reg [0, 1] rfl ?_   -- 27, code.go:152
              refine s_mv 94 rfl rfl ?_
              refine s_as 10 rfl rfl ?_
              refine SX.next ?_
              refine CW.reg [0] rfl ?_   -- 28, code.go:153
              refine s_as 9 rfl rfl ?_
              refine SX.end_ ?_
              refine KN.blk ?_
              refine KN.code ?_
              refine CW.reg [0, 1, 2] rfl ?_   -- 9, code.go:130
              refine s_mv 28 rfl rfl ?_
              refine s_add 29 rfl rfl rfl (r := ((i + 1 : Nat) : Int)) (w64 (by omega)) ?_
              refine s_as 11 rfl rfl ?_
              refine SX.end_ ?_
              exact KN.back (i + 1, q80, ca) ⟨rfl, rfl, by simp only [hB]; rfl, by simp only [hB]; rfl, by simp only [hB]; rfl, by simp only [hB]; rfl, by simp only [hB]; rfl, rfl, trivial⟩ (fun _ h => by simp only [hB]; exact h.pick [0, 3] rfl) (by simp only; omega) (by simp only; omega)
  · skip
    obtain rfl : i = (min l.length 80) := by omega
    refine CW.exit rfl ?_
    refine KN.code ?_
    refine CW.seq ?_
    refine CW.reg [0, 1, 2, 3, 4, 5] rfl ?_   -- 29, code.go:155
    refine s_mv 95 rfl rfl ?_
    refine s_mv 96 rfl rfl ?_
    refine s_call 97 rfl rfl rfl rfl (fun w hw => by have := rtrim_spec m ca.1 (bmG m (stL m) (lowL m (l.take 80)) (min l.length 80)).c.length ca.2 ((bmG m (stL m) (lowL m (l.take 80)) (min l.length 80)).c.map Int.ofNat) w hm (by rw [← nats_ints]; exact (hw.has (i := 0) rfl).of_own) (by omega); rw [htc.low] at this; exact this) (fun _ _ => trivial) (fun q97 hq97 => ?_)
    refine s_mv 98 rfl rfl ?_
    refine s_as 4 rfl rfl ?_
    refine s_as 5 rfl rfl ?_
    refine SX.next ?_
    refine CW.ret ?_
    exact KN.ret (rs := [.tmp 4, .tmp 5]) Tryd.results50 rfl (fun w hw => ⟨q97, rfl, hq97, hw.pick [0] rfl⟩)
