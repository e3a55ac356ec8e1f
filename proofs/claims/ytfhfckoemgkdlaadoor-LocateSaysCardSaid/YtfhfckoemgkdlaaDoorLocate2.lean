/- The contracts of package locate: the way of Berlekamp and Massey, with quotients and without. Conditions: the field was made by New; the lists are read where they lie. -/
import Derived.Test.YtfhfckoemgkdlaaDoorLocate
import Derived.Test.YtfhfckoemgkdlaaDoorBm4
namespace Go.Proofs.YtfhfckoemgkdlaaDoor
open Go Go.Sx Go.Fm
set_option maxRecDepth 100000
theorem addZ (g m x : Nat) (w : World) (hm : Ok m) (hf : Has (fieldA g m) w) (hx : x < 2 ^ m) : Spec1 Tryd.prog 23 [.pointer (some ⟨g, 0, none⟩), .int .i64 (x : Nat), .int .i64 0] w (.int .i64 (x : Nat)) := by
  have := add_spec g m (x : Nat) 0 w hm hf
  rw [lo_nat hx, lo_zero, Nat.xor_zero] at this
  exact this
theorem getD_none {l : List Int} {i : Nat} (h : l.length ≤ i) : l.getD i 0 = 0 := by simp [List.getElem?_eq_none h]
theorem lowN {m : Nat} {a : List Nat} (h : ∀ x ∈ a, x < 2 ^ m) : lowL m (a.map Int.ofNat) = a := lowL_ofNat h

theorem at_spec (A : Option Addr) (n c : Nat) (l : List Int) (i : Nat) (w : World) (ha : Has (sl 1 A n (ints .i64 l)) w) (hn : n ≤ 4294967296) : Spec1 Tryd.prog 79 [.slice A n c, .int .i64 (i : Nat)] w (.int .i64 (l.getD i 0)) := by
  have hla := ints_len ha
  subst hla
  refine spec_of Tryd.func79 rfl Tryd.ntmps79 rfl ?_
  refine CW.seq ?_
  refine CW.reg [0] rfl ?_   -- 0, locate.go:14
  refine s_as 4 rfl rfl ?_
  refine SX.next ?_
  refine CW.seq ?_
  refine CW.seq ?_
  refine CW.reg [0, 1, 2, 3, 4, 5, 6, 7] rfl ?_   -- 1, locate.go:15
  refine s_mv 5 rfl rfl ?_
  refine s_lt 6 rfl rfl rfl (decide_eq_false (by omega)) ?_
  refine s_mv 7 rfl rfl ?_
  refine s_mv 8 rfl rfl ?_
  refine s_mv 9 rfl rfl ?_
  refine s_len 10 rfl rfl ?_
  refine s_ge 11 rfl rfl rfl rfl ?_
  refine s_pickF 12 rfl rfl rfl ?_
  refine SX.next ?_
  refine CW.test rfl (fun hc => ?_) (fun hc => ?_)
  · skip
    have hgz := getD_none (l := l) (i := i) (by omega)
    refine CW.seq ?_
    refine CW.reg [0] rfl ?_   -- 2, locate.go:16
    refine s_as 4 rfl rfl ?_
    refine SX.next ?_
    refine CW.ret ?_
    exact KN.ret (rs := [.tmp 4]) Tryd.results79 rfl (fun w hw => ⟨by rw [hgz]; rfl, hw.nothing⟩)
  · skip
    refine CW.skip ?_
    refine KN.code ?_
    refine CW.seq ?_
    refine CW.reg [0, 1, 2, 3, 4] rfl ?_   -- 3, locate.go:18
    refine s_mv 13 rfl rfl ?_
    refine s_mv 14 rfl rfl ?_
    refine s_iaV 15 i (fun w hw => hw.old ha) rfl rfl rfl rfl (by omega) ?_
    refine s_ldV 16 (fun w hw => hw.old ha) rfl rfl (by rw [Nat.mul_one]; exact intsAt (by omega)) (by omega) ?_
    refine s_as 4 rfl rfl ?_
    refine SX.next ?_
    refine CW.ret ?_
    exact KN.ret (rs := [.tmp 4]) Tryd.results79 rfl (fun w hw => ⟨rfl, hw.nothing⟩)

theorem sum_spec (g m : Nat) (A : Option Addr) (n c : Nat) (l : List Int) (B : Option Addr) (k d : Nat) (l2 : List Int) (j t : Nat) (w : World) (hm : Ok m) (hf : Has (fieldA g m) w) (ha : Has (sl 1 A n (ints .i64 l)) w) (hb : Has (sl 1 B k (ints .i64 l2)) w) (hn : n ≤ 4294967296) (hk : k ≤ 4294967296) (ht : t ≤ j) (hj : j < k) : Spec1 Tryd.prog 80 [.slice A n c, .slice B k d, .int .i64 (j : Nat), .int .i64 0, .int .i64 (t : Nat), .func (.func 24) #[.pointer (some ⟨g, 0, none⟩)] #[]] w (.int .i64 (sumP m (lowL m l) (lowL m l2) j (t + 1) : Nat)) := by
  have hla := ints_len ha
  subst hla
  have hlb := ints_len hb
  subst hlb
  have hll := lowL_lt m l
  refine spec_of Tryd.func80 rfl Tryd.ntmps80 rfl ?_
  refine CW.seq ?_
  refine CW.reg [0] rfl ?_   -- 0, locate.go:22
  refine s_as 12 rfl rfl ?_
  refine SX.next ?_
  refine CW.seq ?_
  refine CW.reg [0] rfl ?_   -- 1, locate.go:23
  refine s_as 13 rfl rfl ?_
  refine SX.next ?_
  refine CW.seq ?_
  refine CW.seq ?_
  refine CW.reg [0, 1] rfl ?_   -- 2, locate.go:24
  refine s_mv 15 rfl rfl ?_
  refine s_as 14 rfl rfl ?_
  refine SX.next ?_
  refine CW.block ?_
  refine CW.loop (G := Nat) (fun i => [(0, .slice A l.length c), (1, .slice B l2.length d), (2, .int .i64 (j : Nat)), (4, .int .i64 (t : Nat)), (5, .func (.func 24) #[.pointer (some ⟨g, 0, none⟩)] #[]), (13, .int .i64 (sumP m (lowL m l) (lowL m l2) j (i) : Nat)), (14, .int .i64 (i : Nat))]) (fun _ => Sto w []) (fun i => i ≤ t + 1) (fun i => t + 1 - i) 0 ⟨rfl, rfl, rfl, rfl, rfl, rfl, rfl, trivial⟩ (fun _ h => h) (Nat.zero_le _) ?_
  intro i hi
  have hsl := sumP_lt hm hll (s := lowL m l2) j i
  have hxl := gm_lt hm (cf_lt hll (Nat.two_pow_pos m) i) (cf (lowL m l2) (j - i))
  refine CW.seq ?_
  refine CW.seq ?_
  refine CW.reg [0, 1, 2] rfl ?_   -- 3, locate.go:24
  refine s_mv 16 rfl rfl ?_
  refine s_mv 17 rfl rfl ?_
  refine s_le 18 rfl rfl rfl rfl ?_
  refine SX.next ?_
  refine CW.test rfl (fun hc => ?_) (fun hc => ?_)
  · skip
    refine CW.skip ?_
    refine KN.code ?_
    refine CW.seq ?_
    refine CW.block ?_
    refine CW.regD (.st true 0 (.st true 1 (.st true 2 (.st true 3 (.st true 5 (.st true 6 (.st true 7 (.st true 8 (.st true 9 (.st true 10 (.st false 4 (.st false 11 (.st true 12 (.st true 13 .done)))))))))))))) (Sto w []) mixed (by kernel_rfl) (fun _ h => h.drew) (fun _ h => h) ?_
    refine s_mv 21 rfl rfl ?_
    refine s_mv 22 rfl rfl ?_
    refine s_mv 23 rfl rfl ?_
    refine s_mv 24 rfl rfl ?_
    refine s_mv 26 rfl rfl ?_
    refine s_mv 27 rfl rfl ?_
    refine s_mv 28 rfl rfl ?_
    refine s_sub 29 rfl rfl rfl (r := ((j - i : Nat) : Int)) (by rw [show ((j : Nat) : Int) - (i : Nat) = ((j - i : Nat) : Int) by omega]; exact w64 (by omega)) ?_
    refine s_iaV 30 (j - i) (fun w hw => hw.old hb) rfl rfl rfl rfl (by omega) ?_
    refine s_ldVS 31 (fun w hw => hw.old hb) rfl rfl (by rw [Nat.mul_one]; exact intsAt (by omega)) (by omega) ?_
    refine s_call1 25 rfl rfl rfl rfl (fun w hw => at_spec A l.length c l i w (hw.old ha) hn) (fun _ h => h) ?_
    refine s_call1 32 rfl rfl rfl rfl (fun w hw => by have := mul_spec g m (l.getD i 0) (l2.getD (j - i) 0) w hm (hw.old hf); rw [← cf_low, ← cf_low] at this; exact this) (fun _ h => h) ?_
    refine s_bit 33 rfl rfl rfl rfl (ibit_xor_nat (pow63 hm hsl) (pow63 hm hxl)) ?_
    refine s_as 13 rfl rfl ?_
    refine SX.end_ ?_
    refine KN.blk ?_
    refine KN.code ?_
    refine CW.reg [0, 1, 2] rfl ?_   -- 4, locate.go:24
    refine s_mv 19 rfl rfl ?_
    refine s_add 20 rfl rfl rfl (r := ((i + 1 : Nat) : Int)) (w64 (by omega)) ?_
    refine s_as 14 rfl rfl ?_
    refine SX.end_ ?_
    exact KN.back (i + 1) ⟨rfl, rfl, rfl, rfl, rfl, rfl, rfl, trivial⟩ (fun _ h => h) (by omega) (by omega)
  · skip
    obtain rfl : i = t + 1 := by omega
    refine CW.exit rfl ?_
    refine KN.code ?_
    refine CW.seq ?_
    refine CW.reg [0, 1] rfl ?_   -- 6, locate.go:27
    refine s_mv 34 rfl rfl ?_
    refine s_as 12 rfl rfl ?_
    refine SX.next ?_
    refine CW.ret ?_
    exact KN.ret (rs := [.tmp 12]) Tryd.results80 rfl (fun w hw => ⟨rfl, hw.nothing⟩)

theorem walk_spec (g m : Nat) (A : Option Addr) (c : Nat) (l : List Int) (gst : Nat) (fs cs : Array Value) (stp : List Nat → List Nat → Nat → Nat → List Nat) (Q : World → Prop) (w : World) [Enters Tryd.prog gst] (hm : Ok m) (hst : StOk m stp) (hf : Has (fieldA g m) w) (ha : Has (sl 1 A l.length (ints .i64 l)) w) (hn : l.length ≤ 4294967296) (hcp : l.length ≤ c) (hQ : ∀ L w2, Sto w L w2 → Q w2)
    (hstep : ∀ (w2 : World) (A1 : Option Addr) (c1 : Nat) (a : List Nat) (B1 : Option Addr) (c2 : Nat) (b : List Nat) (d e : Nat), Q w2 → Has (sl 1 A1 a.length (nats .i64 a)) w2 → Has (sl 1 B1 b.length (nats .i64 b)) w2 → (∀ x ∈ a, x < 2 ^ m) → (∀ x ∈ b, x < 2 ^ m) → a.length ≤ 100 → b.length ≤ 100 → d < 2 ^ m → e < 2 ^ m → e ≠ 0 → SpecL Tryd.prog gst (fs.toList ++ [.slice A1 a.length c1, .slice B1 b.length c2, .int .i64 (d : Nat), .int .i64 (e : Nat)] ++ cs.toList) w2 (stp a b d e)) : SpecX Tryd.prog 74 [.pointer (some ⟨g, 0, none⟩), .slice A l.length c, .func (.func gst) fs cs] w (X := Option Addr × Nat) (fun q => two (.slice q.1 (bmG m stp (lowL m (l.take 80)) (min l.length 80)).c.length q.2) (.int .i64 ((bmG m stp (lowL m (l.take 80)) (min l.length 80)).L : Nat))) (fun q => (bmG m stp (lowL m (l.take 80)) (min l.length 80)).c.length ≤ q.2) (fun q => [own 3 1 q.1 (bmG m stp (lowL m (l.take 80)) (min l.length 80)).c.length q.2 (nats .i64 (bmG m stp (lowL m (l.take 80)) (min l.length 80)).c)]) := by
  have h14 := pow_le14 hm
  have hlt := lowL_lt m (l.take 80)
  have hK : (min l.length 80) ≤ 80 := by omega
  have haT := Has.cong (ha.sl_take (q := (min l.length 80)) (by omega)) (ints_take2 l 80)
  refine spec_of Tryd.func74 rfl Tryd.ntmps74 rfl ?_
  refine CW.seq ?_
  refine CW.reg [0, 1] rfl ?_   -- 0, locate.go:34
  refine s_as 6 rfl rfl ?_
  refine s_as 7 rfl rfl ?_
  refine SX.next ?_
  refine CW.seq ?_
  refine CW.reg [0, 1, 2, 3, 4, 5] rfl ?_   -- 1, locate.go:35
  refine s_mv 17 rfl rfl ?_
  refine s_mv 18 rfl rfl ?_
  refine s_len 19 rfl rfl ?_
  refine s_min 20 rfl rfl rfl (r := (((min l.length 80) : Nat) : Int)) (by split <;> omega) ?_
  refine s_slH 21 (min l.length 80) rfl rfl rfl rfl (by omega) ?_
  refine s_as 1 rfl rfl ?_
  refine SX.next ?_
  refine CW.seq ?_
  refine CW.reg [0, 1, 2] rfl ?_   -- 2, locate.go:36
  refine s_mv 22 rfl rfl ?_
  refine s_call 23 rfl rfl rfl rfl (fun w hw => ring_spec g w) (fun _ _ => trivial) (fun r hr => ?_)
  refine s_as 8 rfl rfl ?_
  refine SX.next ?_
  refine CW.seq ?_
  refine CW.reg [0, 1, 2, 3] rfl ?_   -- 3, locate.go:37
  refine s_bsl 24 rfl rfl (cells := #[.int .i64 1]) (by kernel_rfl) rfl (fun _ _ => trivial) (fun b24 => ?_)
  refine s_bsl 25 rfl rfl (cells := #[.int .i64 1]) (by kernel_rfl) rfl (fun _ _ => trivial) (fun b25 => ?_)
  refine s_as 9 rfl rfl ?_
  refine s_as 10 rfl rfl ?_
  refine SX.next ?_
  refine CW.seq ?_
  refine CW.reg [0, 1, 2] rfl ?_   -- 4, locate.go:38
  refine s_as 11 rfl rfl ?_
  refine s_as 12 rfl rfl ?_
  refine s_as 13 rfl rfl ?_
  refine SX.next ?_
  refine CW.seq ?_
  refine CW.seq ?_
  refine CW.reg [0, 1, 2] rfl ?_   -- 5, locate.go:39
  refine s_mv 26 rfl rfl ?_
  refine s_len 27 rfl rfl ?_
  refine s_mv 28 rfl rfl ?_
  refine SX.next ?_
  refine CW.block ?_
  refine CW.loop (G := Nat × (Option Addr × Nat) × (Option Addr × Nat)) (fun q => [(0, .pointer (some ⟨g, 0, none⟩)), (1, .slice A (min l.length 80) c), (2, .func (.func gst) fs cs), (8, .pointer (some ⟨r, 0, none⟩)), (9, .slice q.2.1.1 (bmG m stp (lowL m (l.take 80)) q.1).c.length q.2.1.2), (10, .slice q.2.2.1 (bmG m stp (lowL m (l.take 80)) q.1).b.length q.2.2.2), (11, .int .i64 ((bmG m stp (lowL m (l.take 80)) q.1).L : Nat)), (12, .int .i64 ((bmG m stp (lowL m (l.take 80)) q.1).k : Nat)), (13, .int .i64 ((bmG m stp (lowL m (l.take 80)) q.1).e : Nat)), (27, .int .i64 ((min l.length 80) : Nat)), (28, .int .i64 (q.1 : Nat))]) (fun q => Sto w [own 3 1 q.2.1.1 (bmG m stp (lowL m (l.take 80)) q.1).c.length q.2.1.2 (nats .i64 (bmG m stp (lowL m (l.take 80)) q.1).c), own 3 1 q.2.2.1 (bmG m stp (lowL m (l.take 80)) q.1).b.length q.2.2.2 (nats .i64 (bmG m stp (lowL m (l.take 80)) q.1).b), blk r 90 #[.pointer (some ⟨g, 0, none⟩)]]) (fun q => q.1 ≤ (min l.length 80)) (fun q => (min l.length 80) - q.1) (0, (some ⟨b24, 0, none⟩, 1), (some ⟨b25, 0, none⟩, 1)) ⟨rfl, rfl, rfl, rfl, rfl, rfl, rfl, rfl, rfl, rfl, rfl, trivial⟩ (fun _ h => by
  have h1 := h.pick [1, 0, 0] rfl
  have h2 := h1.blkOwn (q := 0) (c := 1) (sz := 1) rfl rfl (by unfold maxLen; omega)
  have h3 := h2.blkOwn (q := 1) (c := 1) (sz := 1) rfl rfl (by unfold maxLen; omega)
  exact h3) (Nat.zero_le _) ?_
  rintro ⟨i, ⟨ca, cc⟩, ⟨ba, bc⟩⟩ hi
  simp only at hi
  dsimp only
  have ho := bmG_ok hm hst (lowL m (l.take 80)) i
  obtain ⟨htc, htb, hLn, he0, hel, hk1, hkb, hcl⟩ := ho
  have hdl : (bmG m stp (lowL m (l.take 80)) i).d m (lowL m (l.take 80)) i < 2 ^ m := sumP_lt hm htc.lt _ _
  have hsbl := sb_lt htb.lt
  have hsL : (List.replicate (bmG m stp (lowL m (l.take 80)) i).k 0 ++ (bmG m stp (lowL m (l.take 80)) i).b).length = (bmG m stp (lowL m (l.take 80)) i).k + (bmG m stp (lowL m (l.take 80)) i).b.length := by rw [List.length_append, List.length_replicate]
  refine CW.seq ?_
  refine CW.reg [0] rfl ?_   -- 6, locate.go:39
  refine s_lt 29 rfl rfl rfl rfl ?_
  refine SX.next ?_
  refine CW.seq ?_
  refine CW.test rfl (fun hc => ?_) (fun hc => ?_)
  · skip
    refine CW.skip ?_
    refine KN.code ?_
    refine CW.seq ?_
    refine CW.block ?_
    refine CW.seq ?_
    refine CW.reg [0, 1] rfl ?_   -- 7, locate.go:39
    refine s_mv 30 rfl rfl ?_
    refine s_as 14 rfl rfl ?_
    refine SX.next ?_
    refine CW.seq ?_
    refine CW.reg [0, 1, 2, 3, 4, 5, 6, 7, 8, 9] rfl ?_   -- 8, locate.go:40
    refine s_mv 31 rfl rfl ?_
    refine s_mv 32 rfl rfl ?_
    refine s_mv 33 rfl rfl ?_
    refine s_mv 34 rfl rfl ?_
    refine s_mv 35 rfl rfl ?_
    refine s_mv 36 rfl rfl ?_
    refine s_mkf 37 rfl rfl rfl ?_
    refine s_call1 38 rfl rfl rfl rfl (v := .int .i64 ((bmG m stp (lowL m (l.take 80)) i).d m (lowL m (l.take 80)) i : Nat)) (fun w hw => by have := sum_spec g m ca (bmG m stp (lowL m (l.take 80)) i).c.length cc ((bmG m stp (lowL m (l.take 80)) i).c.map Int.ofNat) A (min l.length 80) c (l.take 80) i (bmG m stp (lowL m (l.take 80)) i).L w hm (hw.old hf) (by rw [← nats_ints]; exact (hw.has (i := 0) rfl).of_own) (hw.old haT) (by omega) (by omega) hLn (by omega); rw [lowL_ofNat htc.lt] at this; exact this) (fun _ _ => trivial) ?_
    refine s_call1 39 rfl rfl rfl rfl (fun w hw => addZ g m _ w hm (hw.old hf) hdl) (fun _ _ => trivial) ?_
    refine s_as 15 rfl rfl ?_
    refine SX.next ?_
    refine CW.seq ?_
    refine CW.seq ?_
    refine CW.reg [0, 1] rfl ?_   -- 9, locate.go:41
    refine s_mv 40 rfl rfl ?_
    refine s_eq 41 rfl rfl rfl rfl ?_
    refine SX.next ?_
    refine CW.test rfl (fun hc => ?_) (fun hc => ?_)
    · skip
      have hB : (bmG m stp (lowL m (l.take 80)) (i + 1)) = ⟨(bmG m stp (lowL m (l.take 80)) i).c, (bmG m stp (lowL m (l.take 80)) i).b, (bmG m stp (lowL m (l.take 80)) i).L, (bmG m stp (lowL m (l.take 80)) i).k + 1, (bmG m stp (lowL m (l.take 80)) i).e⟩ := if_pos (by omega)
      refine CW.seq ?_
      refine CW.reg [0, 1, 2] rfl ?_   -- 10, locate.go:42
      refine s_mv 42 rfl rfl ?_
      refine s_add 43 rfl rfl rfl (r := (((bmG m stp (lowL m (l.take 80)) i).k + 1 : Nat) : Int)) (w64 (by omega)) ?_
      refine s_as 12 rfl rfl ?_
      refine SX.next ?_
      refine CW.exit rfl ?_
      refine KN.code ?_
      refine CW.reg [0, 1] rfl ?_   -- 16, locate.go:39
      refine s_add 65 rfl rfl rfl (r := ((i + 1 : Nat) : Int)) (w64 (by omega)) ?_
      refine s_mv 28 rfl rfl ?_
      refine SX.end_ ?_
      exact KN.back (i + 1, (ca, cc), (ba, bc)) ⟨rfl, rfl, rfl, rfl, by simp only [hB]; rfl, by simp only [hB]; rfl, by simp only [hB]; rfl, by simp only [hB]; rfl, by simp only [hB]; rfl, rfl, rfl, trivial⟩ (fun _ h => by simp only [hB]; exact h) (by simp only; omega) (by simp only; omega)
    · skip
      have hd0 : ¬ (bmG m stp (lowL m (l.take 80)) i).d m (lowL m (l.take 80)) i = 0 := fun h => hc (by rw [h]; rfl)
      refine CW.skip ?_
      refine KN.code ?_
      refine CW.seq ?_
      refine CW.reg [0, 1, 2, 3, 4, 5, 6, 7, 8] rfl ?_   -- 11, locate.go:45
      refine s_mv 44 rfl rfl ?_
      refine s_mv 45 rfl rfl ?_
      refine s_mv 46 rfl rfl ?_
      refine s_mv 47 rfl rfl ?_
      refine s_call 48 rfl rfl rfl rfl (fun w hw => shifted_spec ba bc (bmG m stp (lowL m (l.take 80)) i).b (bmG m stp (lowL m (l.take 80)) i).k w ((hw.has (i := 1) rfl).of_own) (by omega) (by omega)) (fun _ _ => trivial) (fun q48 hq48 => ?_)
      refine s_mv 49 rfl rfl ?_
      refine s_mv 50 rfl rfl ?_
      refine s_call 51 rfl rfl rfl rfl (fun w hw => hstep w ca cc _ q48.1 q48.2 _ _ _ (hQ _ _ hw) ((hw.has (i := 1) rfl).of_own) ((hw.has (i := 0) rfl).of_own) htc.lt hsbl (by omega) (by rw [hsL]; omega) hdl hel he0) (fun _ _ => trivial) (fun q51 hq51 => ?_)
      refine s_as 16 rfl rfl ?_
      refine SX.next ?_
      refine CW.seq ?_
      refine CW.seq ?_
      refine CW.reg [0, 1, 2, 3] rfl ?_   -- 12, locate.go:46
      refine s_mv 52 rfl rfl ?_
      refine s_mul 53 rfl rfl rfl (r := ((2 * (bmG m stp (lowL m (l.take 80)) i).L : Nat) : Int)) (by rw [show (2 : Int) * (((bmG m stp (lowL m (l.take 80)) i).L : Nat) : Int) = ((2 * (bmG m stp (lowL m (l.take 80)) i).L : Nat) : Int) by omega]; exact w64 (by omega)) ?_
      refine s_mv 54 rfl rfl ?_
      refine s_gt 55 rfl rfl rfl rfl ?_
      refine SX.next ?_
      refine CW.test rfl (fun hc2 => ?_) (fun hc2 => ?_)
      · skip
        have hB : (bmG m stp (lowL m (l.take 80)) (i + 1)) = ⟨stp (bmG m stp (lowL m (l.take 80)) i).c (List.replicate (bmG m stp (lowL m (l.take 80)) i).k 0 ++ (bmG m stp (lowL m (l.take 80)) i).b) ((bmG m stp (lowL m (l.take 80)) i).d m (lowL m (l.take 80)) i) (bmG m stp (lowL m (l.take 80)) i).e, (bmG m stp (lowL m (l.take 80)) i).b, (bmG m stp (lowL m (l.take 80)) i).L, (bmG m stp (lowL m (l.take 80)) i).k + 1, (bmG m stp (lowL m (l.take 80)) i).e⟩ := (if_neg hd0).trans (if_pos (by omega))
        refine CW.reg [0, 1, 2] rfl ?_   -- 13, locate.go:47
        refine s_mv 56 rfl rfl ?_
        refine s_add 57 rfl rfl rfl (r := (((bmG m stp (lowL m (l.take 80)) i).k + 1 : Nat) : Int)) (w64 (by omega)) ?_
        refine s_as 12 rfl rfl ?_
        refine SX.next ?_
        refine CW.reg [0, 1] rfl ?_   -- 15, locate.go:51
        refine s_mv 64 rfl rfl ?_
        refine s_as 9 rfl rfl ?_
        refine SX.end_ ?_
        refine KN.blk ?_
        refine KN.code ?_
        refine CW.reg [0, 1] rfl ?_   -- 16, locate.go:39
        refine s_add 65 rfl rfl rfl (r := ((i + 1 : Nat) : Int)) (w64 (by omega)) ?_
        refine s_mv 28 rfl rfl ?_
        refine SX.end_ ?_
        exact KN.back (i + 1, q51, (ba, bc)) ⟨rfl, rfl, rfl, rfl, by simp only [hB]; rfl, by simp only [hB]; rfl, by simp only [hB]; rfl, by simp only [hB]; rfl, by simp only [hB]; rfl, rfl, rfl, trivial⟩ (fun _ h => by simp only [hB]; exact h.pick [0, 2, 2] rfl) (by simp only; omega) (by simp only; omega)
      · skip
        have hB : (bmG m stp (lowL m (l.take 80)) (i + 1)) = ⟨stp (bmG m stp (lowL m (l.take 80)) i).c (List.replicate (bmG m stp (lowL m (l.take 80)) i).k 0 ++ (bmG m stp (lowL m (l.take 80)) i).b) ((bmG m stp (lowL m (l.take 80)) i).d m (lowL m (l.take 80)) i) (bmG m stp (lowL m (l.take 80)) i).e, (bmG m stp (lowL m (l.take 80)) i).c, i + 1 - (bmG m stp (lowL m (l.take 80)) i).L, 1, (bmG m stp (lowL m (l.take 80)) i).d m (lowL m (l.take 80)) i⟩ := (if_neg hd0).trans (if_neg (by omega))
        refine CW.reg [0, 1, 2, 3, 4, 5, 6, 7, 8, 9] rfl ?_   -- 14, locate.go:49
        refine s_mv 58 rfl rfl ?_
        refine s_mv 59 rfl rfl ?_
        refine s_add 60 rfl rfl rfl (r := ((i + 1 : Nat) : Int)) (w64 (by omega)) ?_
        refine s_mv 61 rfl rfl ?_
        refine s_sub 62 rfl rfl rfl (r := ((i + 1 - (bmG m stp (lowL m (l.take 80)) i).L : Nat) : Int)) (by rw [show ((i + 1 : Nat) : Int) - ((bmG m stp (lowL m (l.take 80)) i).L : Nat) = ((i + 1 - (bmG m stp (lowL m (l.take 80)) i).L : Nat) : Int) by omega]; exact w64 (by omega)) ?_
        refine s_mv 63 rfl rfl ?_
        refine s_as 10 rfl rfl ?_
        refine s_as 11 rfl rfl ?_
        refine s_as 13 rfl rfl ?_
        refine s_as 12 rfl rfl ?_
        refine SX.next ?_
        refine CW.reg [0, 1] rfl ?_   -- 15, locate.go:51
        refine s_mv 64 rfl rfl ?_
        refine s_as 9 rfl rfl ?_
        refine SX.end_ ?_
        refine KN.blk ?_
        refine KN.code ?_
        refine CW.reg [0, 1] rfl ?_   -- 16, locate.go:39
        refine s_add 65 rfl rfl rfl (r := ((i + 1 : Nat) : Int)) (w64 (by omega)) ?_
        refine s_mv 28 rfl rfl ?_
        refine SX.end_ ?_
        exact KN.back (i + 1, q51, (ca, cc)) ⟨rfl, rfl, rfl, rfl, by simp only [hB]; rfl, by simp only [hB]; rfl, by simp only [hB]; rfl, by simp only [hB]; rfl, by simp only [hB]; rfl, rfl, rfl, trivial⟩ (fun _ h => by simp only [hB]; exact h.pick [0, 1, 2] rfl) (by simp only; omega) (by simp only; omega)
  · skip
    obtain rfl : i = (min l.length 80) := by omega
    refine CW.exit rfl ?_
    refine KN.code ?_
    refine CW.seq ?_
    refine CW.reg [0, 1, 2, 3, 4, 5] rfl ?_   -- 17, locate.go:53
    refine s_mv 66 rfl rfl ?_
    refine s_mv 67 rfl rfl ?_
    refine s_call 68 rfl rfl rfl rfl (fun w hw => by have := trim_spec r g m ca (bmG m stp (lowL m (l.take 80)) (min l.length 80)).c.length cc ((bmG m stp (lowL m (l.take 80)) (min l.length 80)).c.map Int.ofNat) w hm (ring_of (hw.old hf) (hw.has (i := 2) rfl)) (by rw [← nats_ints]; exact (hw.has (i := 0) rfl).of_own) (by omega); rw [htc.low] at this; exact this) (fun _ _ => trivial) (fun q68 hq68 => ?_)
    refine s_mv 69 rfl rfl ?_
    refine s_as 6 rfl rfl ?_
    refine s_as 7 rfl rfl ?_
    refine SX.next ?_
    refine CW.ret ?_
    exact KN.ret (rs := [.tmp 6, .tmp 7]) Tryd.results74 rfl (fun w hw => ⟨q68, rfl, hq68, hw.pick [0] rfl⟩)
