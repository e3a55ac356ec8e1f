/- The statement SearchSays, walked. No condition. -/
import Derived.Test.YtfhfckoemgkdlaaDoorLaws9b
import Derived.Test.YtfhfckoemgkdlaaDoorSearch3
namespace Go.Proofs.YtfhfckoemgkdlaaDoor
open Go Go.Sx Go.Fm
set_option maxRecDepth 100000

theorem walk_SearchSays (a0 : Int) (A1 : Option Addr) (n1 c1 : Nat) (l1 : List Int) (a2 a3 : Int) (e : Nat → Addr) (w : World) (hs1 : Has (sl 1 A1 n1 (ints .i64 l1)) w) (hn1 : n1 ≤ 9223372036854775807) (hc1 : n1 ≤ c1) : Spec1 Tryd.prog 5 [.int .i64 a0, .slice A1 n1 c1, .int .i64 a2, .int .i64 a3] w (.bool true) := by
  have hm := mkm_ok (k := 6) (by omega) (by omega) a0
  have hla := ints_len hs1
  subst hla
  have h14 := pow_le14 hm
  have hNs := N_succ (mkm 6 a0)
  have hNp := N_pos hm
  have hmh := hm.hi
  refine calls_ofI Tryd.func5 rfl Tryd.ntmps5 rfl (C := Sto w []) (St.start w) ?_
  refine CWI.seq ?_
  refine CWI.reg [0, 1, 2] rfl (by kernel_rfl) ?_   -- 0, law.go:33
  refine SXI.of1 (pf := fun _ => True) (fun _ hK => s_box 5 rfl rfl (fun _ _ => trivial) (fun x => SX.done (hK x trivial))) (fun g5 _ => ?_)
  refine SXI.of1 (pf := fun _ => True) (fun _ hK => s_box 7 rfl rfl (fun _ _ => trivial) (fun x => SX.done (hK x trivial))) (fun g7 _ => ?_)
  refine SXI.of1 (pf := fun _ => True) (fun _ hK => s_alloc 8 rfl (fun _ _ => trivial) (fun x => SX.done (hK x trivial))) (fun g8 _ => ?_)
  refine SXI.next ?_
  refine CWI.seq ?_
  refine CWI.reg [0, 1] rfl (by kernel_rfl) ?_   -- 1, law.go:34
  refine SXI.of (fun _ hK => s_call1 19 rfl rfl rfl rfl (fun w hw => first9_spec w) (fun _ _ => trivial) (SX.done hK)) ?_
  refine SXI.of (fun _ hK => s_as 9 rfl rfl (SX.done hK)) ?_
  refine SXI.next ?_
  refine CWI.seq ?_
  refine CWI.reg [0, 1, 2, 3, 4, 5, 6, 7] rfl (by kernel_rfl) ?_   -- 2, law.go:35
  refine SXI.of (fun _ hK => s_mv 21 rfl rfl (SX.done hK)) ?_
  refine SXI.of1 (fun _ hK => s_call 22 rfl rfl rfl rfl (fun w hw => made9_spec a0 w) (fun _ _ => trivial) (fun x hx => SX.done (hK x hx))) (fun g _ => ?_)
  refine SXI.of (fun _ hK => s_mv 20 rfl rfl (SX.done hK)) ?_
  refine SXI.of (fun _ hK => s_ext 23 rfl rfl rfl (SX.done hK)) ?_
  refine SXI.of (fun _ hK => s_ext 24 rfl rfl rfl (SX.done hK)) ?_
  refine SXI.of1 (pf := fun _ => True) (fun _ hK => s_alloc 11 rfl (fun _ _ => trivial) (fun x => SX.done (hK x trivial))) (fun g11 _ => ?_)
  refine SXI.of (fun _ hK => s_as 10 rfl rfl (SX.done hK)) ?_
  refine SXI.of (fun _ hK => s_stB 0 rfl rfl rfl rfl rfl (Nat.lt_succ_self 0) (fun _ _ => trivial) (SX.done hK)) ?_
  refine SXI.next ?_
  refine CWI.seq ?_
  refine CWI.seq ?_
  refine CWI.reg [0, 1, 2, 3, 4, 5, 6, 7, 8, 9, 10] rfl (by kernel_rfl) ?_   -- 3, law.go:36
  refine SXI.of (fun _ hK => s_mv 25 rfl rfl (SX.done hK)) ?_
  refine SXI.of (fun _ hK => s_eqPN 26 rfl rfl (SX.done hK)) ?_
  refine SXI.of (fun _ hK => s_mv 27 rfl rfl (SX.done hK)) ?_
  refine SXI.of (fun _ hK => s_ld 28 rfl rfl (fun _ h => h.blkCell (i := 4) (j := 0) rfl rfl) (SX.done hK)) ?_
  refine SXI.of (fun _ hK => s_len 29 rfl rfl (SX.done hK)) ?_
  refine SXI.of (fun _ hK => s_gt 30 rfl rfl rfl rfl (SX.done hK)) ?_
  refine SXI.of (fun _ hK => s_pickF 31 rfl rfl rfl (SX.done hK)) ?_
  refine SXI.of (fun _ hK => s_mv 32 rfl rfl (SX.done hK)) ?_
  refine SXI.bool 32 rfl (fun hb => ?_) (fun hb => ?_)
  · skip
    skip
    refine SXI.of (fun _ hK => SX.skip rfl (SX.done hK)) ?_
    refine SXI.of (fun _ hK => SX.skip rfl (SX.done hK)) ?_
    refine SXI.of (fun _ hK => s_pickT 35 rfl rfl rfl (SX.done hK)) ?_
    refine SXI.next ?_
    refine CWI.condT rfl ?_
    refine CWI.seq ?_
    refine CWI.reg [0, 1, 2, 3, 4, 5] rfl (by kernel_rfl) ?_   -- 4, law.go:37
    refine SXI.of (fun _ hK => s_mv 36 rfl rfl (SX.done hK)) ?_
    refine SXI.of (fun _ hK => s_mv 37 rfl rfl (SX.done hK)) ?_
    refine SXI.of (fun _ hK => s_mv 38 rfl rfl (SX.done hK)) ?_
    refine SXI.of (fun _ hK => s_nePN 39 rfl rfl (SX.done hK)) ?_
    refine SXI.of (fun _ hK => s_pickT 40 rfl rfl rfl (SX.done hK)) ?_
    refine SXI.of (fun _ hK => s_stB 2 rfl rfl rfl rfl rfl (Nat.lt_succ_self 0) (fun _ _ => trivial) (SX.done hK)) ?_
    refine SXI.next ?_
    refine CWI.ret ?_
    exact retMC (rs := [.cell 8 4]) (L := [blk g8 4 #[.bool true]]) [] rfl Tryd.results5 (fun _ h => h.pick [2] rfl) (fun w hw => ⟨[_], ⟨⟨_, rfl, run_loadVar1 (hw.blkCell (i := 0) (j := 0) rfl rfl)⟩, trivial⟩, rfl, hw.pick [] rfl⟩)
  · skip
    have hp1 := of_decide_eq_false hb
    have hx1 : l1.length ≤ 60 := by omega
    refine SXI.of (fun _ hK => s_mv 33 rfl rfl (SX.done hK)) ?_
    refine SXI.of (fun _ hK => s_not 34 rfl rfl (SX.done hK)) ?_
    refine SXI.of (fun _ hK => s_pickF 35 rfl rfl rfl (SX.done hK)) ?_
    refine SXI.next ?_
    refine CWI.condF rfl ?_
    refine CWI.skip ?_
    refine KNI.code ?_
    refine CWI.seq ?_
    have hZl := zerosN_len (plc (mkm 6 a0) (lowL (mkm 6 a0) l1)) (min a2 (N (mkm 6 a0) : Nat)).toNat
    have hTl := trimLow_len2 (mkm 6 a0) l1
    refine CWI.reg [0, 1, 2, 3, 4] rfl (by kernel_rfl) ?_   -- 5, law.go:39
    refine SXI.of (fun _ hK => s_ld 41 rfl rfl (fun _ h => h.blkCell (i := 0) (j := 0) rfl rfl) (SX.done hK)) ?_
    refine SXI.of (fun _ hK => s_ld 42 rfl rfl (fun _ h => h.blkCell (i := 4) (j := 0) rfl rfl) (SX.done hK)) ?_
    refine SXI.of (fun _ hK => s_mv 43 rfl rfl (SX.done hK)) ?_
    refine SXI.of1 (fun _ hK => s_call 44 rfl rfl rfl rfl (fun w hw => rsearch_spec (mkm 6 a0) A1 c1 l1 a2 w hm (hw.old hs1) (by omega) hc1) (fun _ _ => trivial) (fun x hx => SX.done (hK x hx))) (fun q44 hq44 => ?_)
    refine SXI.of (fun _ hK => s_as 12 rfl rfl (SX.done hK)) ?_
    refine SXI.next ?_
    refine CWI.seq ?_
    refine CWI.seq ?_
    refine CWI.reg [0, 1, 2, 3, 4, 5, 6, 7, 8, 9, 10, 11, 12, 13, 14, 15] rfl (by kernel_rfl) ?_   -- 6, law.go:40
    refine SXI.of (fun _ hK => s_mv 45 rfl rfl (SX.done hK)) ?_
    refine SXI.of (fun _ hK => s_ld 46 rfl rfl (fun _ h => h.blkCell (i := 5) (j := 0) rfl rfl) (SX.done hK)) ?_
    refine SXI.of (fun _ hK => s_mv 47 rfl rfl (SX.done hK)) ?_
    refine SXI.of1 (fun _ hK => s_call 48 rfl rfl rfl rfl (fun w hw => ssearch_spec g (mkm 6 a0) A1 c1 l1 a2 w hm (hw.has (i := 2) rfl) (hw.old hs1) (by omega) hc1) (fun _ _ => trivial) (fun x hx => SX.done (hK x hx))) (fun q48 hq48 => ?_)
    refine SXI.of (fun _ hK => s_mv 49 rfl rfl (SX.done hK)) ?_
    refine SXI.of (fun _ hK => s_call1 50 rfl rfl rfl rfl (v := .bool true) (fun w hw => by have := sameInts_spec q48.1 q44.1 (zerosN (plc (mkm 6 a0) (lowL (mkm 6 a0) l1)) (min a2 (N (mkm 6 a0) : Nat)).toNat).length q48.2 (zerosN (plc (mkm 6 a0) (lowL (mkm 6 a0) l1)) (min a2 (N (mkm 6 a0) : Nat)).toNat).length q44.2 ((zerosN (plc (mkm 6 a0) (lowL (mkm 6 a0) l1)) (min a2 (N (mkm 6 a0) : Nat)).toNat).map Int.ofNat) ((zerosN (plc (mkm 6 a0) (lowL (mkm 6 a0) l1)) (min a2 (N (mkm 6 a0) : Nat)).toNat).map Int.ofNat) _ (by rw [← nats_ints]; exact (hw.has (i := 0) rfl).of_own) (by rw [← nats_ints]; exact (hw.has (i := 1) rfl).of_own) (by omega); rw [decide_eq_true rfl] at this; exact this) (fun _ _ => trivial) (SX.done hK)) ?_
    refine SXI.of (fun _ hK => s_not 51 rfl rfl (SX.done hK)) ?_
    refine SXI.of (fun _ hK => s_mv 52 rfl rfl (SX.done hK)) ?_
    refine SXI.of (fun _ hK => s_mv 53 rfl rfl (SX.done hK)) ?_
    refine SXI.of (fun _ hK => s_ld 54 rfl rfl (fun _ h => h.blkCell (i := 6) (j := 0) rfl rfl) (SX.done hK)) ?_
    refine SXI.of (fun _ hK => s_mv 55 rfl rfl (SX.done hK)) ?_
    refine SXI.of1 (fun _ hK => s_call 56 rfl rfl rfl rfl (fun w hw => splain_spec g (mkm 6 a0) A1 c1 l1 a2 w hm (hw.has (i := 3) rfl) (hw.old hs1) (by omega) hc1) (fun _ _ => trivial) (fun x hx => SX.done (hK x hx))) (fun q56 hq56 => ?_)
    refine SXI.of (fun _ hK => s_mv 57 rfl rfl (SX.done hK)) ?_
    refine SXI.of (fun _ hK => s_call1 58 rfl rfl rfl rfl (v := .bool true) (fun w hw => by have := sameInts_spec q56.1 q44.1 (zerosN (plc (mkm 6 a0) (lowL (mkm 6 a0) l1)) (min a2 (N (mkm 6 a0) : Nat)).toNat).length q56.2 (zerosN (plc (mkm 6 a0) (lowL (mkm 6 a0) l1)) (min a2 (N (mkm 6 a0) : Nat)).toNat).length q44.2 ((zerosN (plc (mkm 6 a0) (lowL (mkm 6 a0) l1)) (min a2 (N (mkm 6 a0) : Nat)).toNat).map Int.ofNat) ((zerosN (plc (mkm 6 a0) (lowL (mkm 6 a0) l1)) (min a2 (N (mkm 6 a0) : Nat)).toNat).map Int.ofNat) _ (by rw [← nats_ints]; exact (hw.has (i := 0) rfl).of_own) (by rw [← nats_ints]; exact (hw.has (i := 2) rfl).of_own) (by omega); rw [decide_eq_true rfl] at this; exact this) (fun _ _ => trivial) (SX.done hK)) ?_
    refine SXI.of (fun _ hK => s_not 59 rfl rfl (SX.done hK)) ?_
    refine SXI.of (fun _ hK => s_pickF 60 rfl rfl rfl (SX.done hK)) ?_
    refine SXI.next ?_
    refine CWI.condF rfl ?_
    refine CWI.skip ?_
    refine KNI.code ?_
    refine CWI.seq ?_
    refine CWI.reg [0, 1, 2, 3, 4] rfl (by kernel_rfl) ?_   -- 8, law.go:43
    refine SXI.of (fun _ hK => s_mv 61 rfl rfl (SX.done hK)) ?_
    refine SXI.of (fun _ hK => s_ld 62 rfl rfl (fun _ h => h.blkCell (i := 7) (j := 0) rfl rfl) (SX.done hK)) ?_
    refine SXI.of (fun _ hK => s_mv 63 rfl rfl (SX.done hK)) ?_
    refine SXI.of1 (fun _ hK => s_call 64 rfl rfl rfl rfl (fun w hw => steps_spec g (mkm 6 a0) A1 c1 l1 a2 w hm (hw.has (i := 4) rfl) (hw.old hs1) (by omega) hc1) (fun _ _ => trivial) (fun x hx => SX.done (hK x hx))) (fun q64 hq64 => ?_)
    refine SXI.of (fun _ hK => s_as 13 rfl rfl (SX.done hK)) ?_
    refine SXI.next ?_
    refine CWI.seq ?_
    refine CWI.seq ?_
    refine CWI.reg [0, 1] rfl (by kernel_rfl) ?_   -- 9, law.go:44
    refine SXI.of (fun _ hK => s_mv 65 rfl rfl (SX.done hK)) ?_
    refine SXI.of (fun _ hK => s_eqF 66 rfl (by kernel_rfl) rfl (SX.done hK)) ?_
    refine SXI.next ?_
    refine CWI.condF rfl ?_
    refine CWI.skip ?_
    refine KNI.code ?_
    refine CWI.seq ?_
    refine CWI.reg [0, 1, 2, 3, 4, 5, 6, 7, 8] rfl (by kernel_rfl) ?_   -- 11, law.go:47
    refine SXI.of (fun _ hK => s_mv 67 rfl rfl (SX.done hK)) ?_
    refine SXI.of (fun _ hK => s_ld 68 rfl rfl (fun _ h => h.blkCell (i := 5) (j := 0) rfl rfl) (SX.done hK)) ?_
    refine SXI.of (fun _ hK => s_conv 69 rfl rfl (u64_nat hm) (SX.done hK)) ?_
    refine SXI.of (fun _ hK => s_shl 70 rfl rfl rfl (by omega) (shl_one hm) (SX.done hK)) ?_
    refine SXI.of (fun _ hK => s_sub 71 rfl rfl rfl (r := (((N (mkm 6 a0)) : Nat) : Int)) (by rw [show (((N (mkm 6 a0)) + 1 : Nat) : Int) - 1 = (((N (mkm 6 a0)) : Nat) : Int) by omega]; exact w64 (by omega)) (SX.done hK)) ?_
    refine SXI.of (fun _ hK => s_min 72 rfl rfl rfl (r := min a2 (N (mkm 6 a0) : Nat)) (by split <;> omega) (SX.done hK)) ?_
    refine SXI.of (fun _ hK => s_max 73 rfl rfl rfl (r := ((min a2 (N (mkm 6 a0) : Nat)).toNat : Int)) (by split <;> omega) (SX.done hK)) ?_
    refine SXI.of1 (pf := fun _ => True) (fun _ hK => s_alloc 14 rfl (fun _ _ => trivial) (fun x => SX.done (hK x trivial))) (fun g14 _ => ?_)
    refine SXI.of (fun _ hK => s_stB 0 rfl rfl rfl rfl rfl (Nat.lt_succ_self 0) (fun _ _ => trivial) (SX.done hK)) ?_
    refine SXI.next ?_
    refine CWI.seq ?_
    refine CWI.seq ?_
    refine CWI.reg [0, 1] rfl (by kernel_rfl) ?_   -- 12, law.go:48
    refine SXI.of1 (pf := fun _ => True) (fun _ hK => s_alloc 15 rfl (fun _ _ => trivial) (fun x => SX.done (hK x trivial))) (fun g15 _ => ?_)
    refine SXI.of (fun _ hK => s_stB 0 rfl rfl rfl rfl rfl (Nat.lt_succ_self 0) (fun _ _ => trivial) (SX.done hK)) ?_
    refine SXI.next ?_
    refine CWI.block ?_
    refine CWI.loop (G := Nat × List Nat × Nat) (fun q => q.2.1.map Go.Sx.mark) (fun q => [(5, .pointer (some ⟨g5, 0, none⟩)), (7, .pointer (some ⟨g7, 0, none⟩)), (8, .pointer (some ⟨g8, 0, none⟩)), (11, .pointer (some ⟨g11, 0, none⟩)), (13, .func (.func 87) #[] #[.pointer (some ⟨q64.1, 0, none⟩)]), (14, .pointer (some ⟨g14, 0, none⟩)), (15, .pointer (some ⟨q.2.2, 0, none⟩))]) (fun q => Sto w [blk g14 3 #[.int .i64 ((min a2 (N (mkm 6 a0) : Nat)).toNat : Nat)], blk g11 3 #[.int .i64 ((mkm 6 a0) : Nat)], blk q.2.2 3 #[.int .i64 (q.1 : Nat)], blk g7 3 #[.int .i64 a3], blk g5 22 #[.slice A1 l1.length c1], blk q64.1 76 #[.pointer (some ⟨g, 0, none⟩), .slice q64.2.1 (trim (lowL (mkm 6 a0) l1)).length q64.2.2, .int .i64 (min a2 (N (mkm 6 a0) : Nat))], own 3 1 q64.2.1 (trim (lowL (mkm 6 a0) l1)).length q64.2.2 (nats .i64 (trim (lowL (mkm 6 a0) l1))), fieldA g (mkm 6 a0), blk g8 4 #[.bool false], starA (q.2.1.map defB)]) (fun q => q.1 ≤ 2) (fun q => 2 - q.1) (0, [], g15) rfl ⟨rfl, rfl, rfl, rfl, rfl, rfl, rfl, trivial⟩ (fun _ h => by have h2 := (h.pick [1, 6, 0, 7, 7, 0, 0, 3, 3] rfl).nilStar; exact h2) (Nat.zero_le _) ?_
    rintro q hq
    refine CWI.seq ?_
    refine CWI.seq ?_
    refine CWI.reg [0, 1] rfl (by kernel_rfl) ?_   -- 13, law.go:48
    refine SXI.of (fun _ hK => s_ld 74 rfl rfl (fun _ h => h.blkCell (i := 2) (j := 0) rfl rfl) (SX.done hK)) ?_
    refine SXI.of (fun _ hK => s_lt 75 rfl rfl rfl rfl (SX.done hK)) ?_
    refine SXI.next ?_
    refine CWI.test rfl (fun hc => ?_) (fun hc => ?_)
    · skip
      refine CWI.skip ?_
      refine KNI.code ?_
      refine CWI.seq ?_
      refine CWI.block ?_
      refine CWI.seq ?_
      refine CWI.reg [0, 1] rfl (by kernel_rfl) ?_   -- 15, law.go:49
      refine SXI.of1 (pf := fun _ => True) (fun _ hK => s_alloc 16 rfl (fun _ _ => trivial) (fun x => SX.done (hK x trivial))) (fun g16 _ => ?_)
      refine SXI.of (fun _ hK => s_stB 0 rfl rfl rfl rfl rfl (Nat.lt_succ_self 0) (fun _ _ => trivial) (SX.done hK)) ?_
      refine SXI.next ?_
      refine CWI.seq ?_
      refine CWI.seq ?_
      refine CWI.reg [0] rfl (by kernel_rfl) ?_   -- 16, law.go:50
      refine SXI.of (fun _ hK => s_mv 78 rfl rfl (SX.done hK)) ?_
      refine SXI.next ?_
      refine CWI.block ?_
      refine CWI.rangeFunc (G := Unit) (GX := Unit) (fun i _ => [blk g16 3 #[.int .i64 (i : Nat)], blk g14 3 #[.int .i64 ((min a2 (N (mkm 6 a0) : Nat)).toNat : Nat)], blk g11 3 #[.int .i64 ((mkm 6 a0) : Nat)], blk q.2.2 3 #[.int .i64 (q.1 : Nat)], blk g7 3 #[.int .i64 a3], blk g5 22 #[.slice A1 l1.length c1]]) (fun _ _ => True) (fun i _ => [blk g16 3 #[.int .i64 (i : Nat)], blk g14 3 #[.int .i64 ((min a2 (N (mkm 6 a0) : Nat)).toNat : Nat)], blk g11 3 #[.int .i64 ((mkm 6 a0) : Nat)], blk q.2.2 3 #[.int .i64 (q.1 : Nat)], blk g7 3 #[.int .i64 a3], blk g5 22 #[.slice A1 l1.length c1]]) (fun i _ => q.1 = 0 ∧ ((i : Nat) : Int) = a3) (fun _ => .exit 2) () [blk q64.1 76 #[.pointer (some ⟨g, 0, none⟩), .slice q64.2.1 (trim (lowL (mkm 6 a0) l1)).length q64.2.2, .int .i64 (min a2 (N (mkm 6 a0) : Nat))], own 3 1 q64.2.1 (trim (lowL (mkm 6 a0) l1)).length q64.2.2 (nats .i64 (trim (lowL (mkm 6 a0) l1))), fieldA g (mkm 6 a0)] [blk g8 4 #[.bool false], starA (q.2.1.map defB)] (fun i => [(5, .pointer (some ⟨g5, 0, none⟩)), (7, .pointer (some ⟨g7, 0, none⟩)), (8, .pointer (some ⟨g8, 0, none⟩)), (11, .pointer (some ⟨g11, 0, none⟩)), (13, .func (.func 87) #[] #[.pointer (some ⟨q64.1, 0, none⟩)]), (14, .pointer (some ⟨g14, 0, none⟩)), (15, .pointer (some ⟨q.2.2, 0, none⟩)), (16, .pointer (some ⟨g16, 0, none⟩)), (17, .int .i64 (i : Nat)), (18, .int .i64 ((plc (mkm 6 a0) (lowL (mkm 6 a0) l1)) i : Nat))]) rfl (by have := chienItB g (mkm 6 a0) q64.1 q64.2.1 q64.2.2 (trim (lowL (mkm 6 a0) l1)) (min a2 (N (mkm 6 a0) : Nat)) w hm (by omega) (trimLow_lt _ l1) (by omega); simp only [sfF_plc hm (trimLow_lt _ l1), plc_trim] at this; exact this) [0, 0, 0, 0, 0, 0, 0, 0, 0, 0, 0] rfl trivial (fun _ => rfl) (by simp) ?_ ?_ ?_ ?_
      · intro lr i C hi
        refine CWI.seq ?_
        refine CWI.reg [0] rfl (by kernel_rfl) ?_   -- 17, law.go:50
        refine SXI.of (fun _ hK => s_as 17 rfl rfl (SX.done hK)) ?_
        refine SXI.next ?_
        refine CWI.reg [0] rfl (by kernel_rfl) ?_   -- 18, law.go:50
        refine SXI.of (fun _ hK => s_as 18 rfl rfl (SX.done hK)) ?_
        refine SXI.end_ ?_
        exact ⟨fun a w he hc => ⟨he.sub (SubL.sub ⟨rfl, rfl, rfl, rfl, rfl, rfl, rfl, rfl, rfl, rfl, trivial⟩), hc⟩⟩
      · intro lr T i g hi hg
        refine CWI.block ?_
        refine CWI.seq ?_
        refine CWI.seq ?_
        refine CWI.regD (.st true 0 (.st true 1 (.st true 2 (.st true 3 (.st true 4 (.st true 5 (.st true 6 (.st true 7 (.st true 8 (.st true 9 (.st true 10 (.st true 11 (.st true 12 (.st true 13 (.st true 14 (.st false 15 (.st false 16 (.st true 17 (.st true 18 .done))))))))))))))))))) (Sto w [blk g16 3 #[.int .i64 (i : Nat)], blk g14 3 #[.int .i64 ((min a2 (N (mkm 6 a0) : Nat)).toNat : Nat)], blk g11 3 #[.int .i64 ((mkm 6 a0) : Nat)], blk q.2.2 3 #[.int .i64 (q.1 : Nat)], blk g7 3 #[.int .i64 a3], blk g5 22 #[.slice A1 l1.length c1]]) mixed (by kernel_rfl) (fun _ h => h.drew) (fun _ h => h.pick [0, 0, 0, 0, 0, 0] rfl) ?_
        refine SXI.of (fun _ hK => s_ldS 81 rfl rfl (fun _ h => h.blkCell (i := 0) (j := 0) rfl rfl) (SX.done hK)) ?_
        refine SXI.of (fun _ hK => s_ldS 82 rfl rfl (fun _ h => h.blkCell (i := 1) (j := 0) rfl rfl) (SX.done hK)) ?_
        refine SXI.of (fun _ hK => s_ge 83 rfl rfl rfl (decide_eq_false (by omega)) (SX.done hK)) ?_
        refine SXI.of (fun _ hK => s_mv 84 rfl rfl (SX.done hK)) ?_
        refine SXI.of (fun _ hK => s_mv 85 rfl rfl (SX.done hK)) ?_
        refine SXI.of (fun _ hK => s_ldS 86 rfl rfl (fun _ h => h.blkCell (i := 0) (j := 0) rfl rfl) (SX.done hK)) ?_
        refine SXI.of (fun _ hK => s_ne 87 rfl rfl rfl (decide_eq_false (fun h => h rfl)) (SX.done hK)) ?_
        refine SXI.of (fun _ hK => s_pickF 88 rfl rfl rfl (SX.done hK)) ?_
        refine SXI.of (fun _ hK => s_mv 89 rfl rfl (SX.done hK)) ?_
        refine SXI.of (fun _ hK => s_mv 90 rfl rfl (SX.done hK)) ?_
        refine SXI.of (fun _ hK => s_ldS 91 rfl rfl (fun _ h => h.blkCell (i := 2) (j := 0) rfl rfl) (SX.done hK)) ?_
        refine SXI.of (fun _ hK => s_ldS 92 rfl rfl (fun _ h => h.blkCell (i := 5) (j := 0) rfl rfl) (SX.done hK)) ?_
        refine SXI.of (fun _ hK => s_ldS 93 rfl rfl (fun _ h => h.blkCell (i := 2) (j := 0) rfl rfl) (SX.done hK)) ?_
        refine SXI.of (fun _ hK => s_ldS 94 rfl rfl (fun _ h => h.blkCell (i := 0) (j := 0) rfl rfl) (SX.done hK)) ?_
        refine SXI.of (fun _ hK => s_neg 95 rfl rfl (w64 (by omega)) (SX.done hK)) ?_
        refine SXI.of (fun _ hK => s_call1 96 rfl rfl rfl rfl (fun w hw => rexp_spec (mkm 6 a0) _ w hm) (fun _ h => h.pick [0, 0, 0, 0, 0, 0] rfl) (SX.done hK)) ?_
        refine SXI.of (fun _ hK => s_call1 97 rfl rfl rfl rfl (fun w hw => revalE (mkm 6 a0) A1 l1.length c1 l1 _ w hm (hw.old hs1) (by omega)) (fun _ h => h.pick [0, 0, 0, 0, 0, 0] rfl) (SX.done hK)) ?_
        refine SXI.of (fun _ hK => s_ne 98 rfl rfl rfl (decide_eq_false (fun h => h rfl)) (SX.done hK)) ?_
        refine SXI.of (fun _ hK => s_pickF 99 rfl rfl rfl (SX.done hK)) ?_
        refine SXI.next ?_
        refine CWI.condF rfl ?_
        refine CWI.skip ?_
        refine KNI.code ?_
        refine CWI.seq ?_
        refine CWI.reg [0, 1, 2] rfl (by kernel_rfl) ?_   -- 21, law.go:54
        refine SXI.of (fun _ hK => s_ld 100 rfl rfl (fun _ h => h.blkCell (i := 0) (j := 0) rfl rfl) (SX.done hK)) ?_
        refine SXI.of (fun _ hK => s_add 101 rfl rfl rfl (r := ((i + 1 : Nat) : Int)) (w64 (by omega)) (SX.done hK)) ?_
        refine SXI.of (fun _ hK => s_stB 0 rfl rfl rfl rfl rfl (Nat.lt_succ_self 0) (fun _ _ => trivial) (SX.done hK)) ?_
        refine SXI.next ?_
        refine CWI.seq ?_
        refine CWI.reg [0, 1, 2, 3, 4, 5, 6] rfl (by kernel_rfl) ?_   -- 22, law.go:55
        refine SXI.of (fun _ hK => s_ld 102 rfl rfl (fun _ h => h.blkCell (i := 3) (j := 0) rfl rfl) (SX.done hK)) ?_
        refine SXI.of (fun _ hK => s_eq 103 rfl rfl rfl rfl (SX.done hK)) ?_
        refine SXI.of (fun _ hK => s_mv 104 rfl rfl (SX.done hK)) ?_
        refine SXI.bool 104 rfl (fun hb => ?_) (fun hb => ?_)
        · skip
          have hr0 := of_decide_eq_true hb
          refine SXI.of (fun _ hK => s_ld 105 rfl rfl (fun _ h => h.blkCell (i := 0) (j := 0) rfl rfl) (SX.done hK)) ?_
          refine SXI.of (fun _ hK => s_ld 106 rfl rfl (fun _ h => h.blkCell (i := 4) (j := 0) rfl rfl) (SX.done hK)) ?_
          refine SXI.of (fun _ hK => s_eq 107 rfl rfl rfl rfl (SX.done hK)) ?_
          refine SXI.of (fun _ hK => s_pickT 108 rfl rfl rfl (SX.done hK)) ?_
          refine SXI.next ?_
          refine CWI.test rfl (fun hst => ?_) (fun hst => ?_)
          · skip
            exact CWI.out rfl (fun a w he hc => ⟨(), ⟨by omega, hst⟩, rfl, hc⟩)
          · skip
            refine CWI.skip ?_
            refine KNI.blk ?_
            exact ⟨fun a w he hc => ⟨(), trivial, hc⟩⟩
        · skip
          skip
          refine SXI.of (fun _ hK => SX.skip rfl (SX.done hK)) ?_
          refine SXI.of (fun _ hK => SX.skip rfl (SX.done hK)) ?_
          refine SXI.of (fun _ hK => SX.skip rfl (SX.done hK)) ?_
          refine SXI.of (fun _ hK => s_pickF 108 rfl rfl rfl (SX.done hK)) ?_
          refine SXI.next ?_
          refine CWI.condF rfl ?_
          refine CWI.skip ?_
          refine KNI.blk ?_
          exact ⟨fun a w he hc => ⟨(), trivial, hc⟩⟩
      · intro D g hg
        have hdn : (min a2 (N (mkm 6 a0) : Nat)).toNat = (min a2 (N (mkm 6 a0) : Nat)).toNat ∨ (q.1 = 0 ∧ (((min a2 (N (mkm 6 a0) : Nat)).toNat : Nat) : Int) = a3) := .inl rfl
        refine KNI.blk ?_
        refine KNI.code ?_
        refine CWI.seq ?_
        refine CWI.reg [0, 1, 2, 3, 4, 5, 6, 7, 8, 9, 10, 11, 12] rfl (by kernel_rfl) ?_   -- 23, law.go:59
        refine SXI.of (fun _ hK => s_ld 109 rfl rfl (fun _ h => h.blkCell (i := 1) (j := 0) rfl rfl) (SX.done hK)) ?_
        refine SXI.of (fun _ hK => s_ld 110 rfl rfl (fun _ h => h.blkCell (i := 2) (j := 0) rfl rfl) (SX.done hK)) ?_
        refine SXI.of (fun _ hK => s_ne 111 rfl rfl rfl rfl (SX.done hK)) ?_
        refine SXI.of (fun _ hK => s_mv 112 rfl rfl (SX.done hK)) ?_
        refine SXI.bool 112 rfl (fun hb => ?_) (fun hb => ?_)
        · skip
          have hne := of_decide_eq_true hb
          have hdn2 := hdn.resolve_left (fun h => hne (by rw [h]))
          refine SXI.of (fun _ hK => s_ld 113 rfl rfl (fun _ h => h.blkCell (i := 4) (j := 0) rfl rfl) (SX.done hK)) ?_
          refine SXI.of (fun _ hK => s_eq 114 rfl rfl rfl (decide_eq_true (by have := hdn2.1; omega)) (SX.done hK)) ?_
          refine SXI.of (fun _ hK => s_mv 115 rfl rfl (SX.done hK)) ?_
          refine SXI.of (fun _ hK => s_ld 116 rfl rfl (fun _ h => h.blkCell (i := 1) (j := 0) rfl rfl) (SX.done hK)) ?_
          refine SXI.of (fun _ hK => s_ld 117 rfl rfl (fun _ h => h.blkCell (i := 5) (j := 0) rfl rfl) (SX.done hK)) ?_
          refine SXI.of (fun _ hK => s_eq 118 rfl rfl rfl (decide_eq_true hdn2.2) (SX.done hK)) ?_
          refine SXI.of (fun _ hK => s_pickT 119 rfl rfl rfl (SX.done hK)) ?_
          refine SXI.of (fun _ hK => s_not 120 rfl rfl (SX.done hK)) ?_
          refine SXI.of (fun _ hK => s_pickT 121 rfl rfl rfl (SX.done hK)) ?_
          refine SXI.next ?_
          refine CWI.condF rfl ?_
          refine CWI.skip ?_
          refine KNI.blk ?_
          refine KNI.code ?_
          refine CWI.seq ?_
          refine CWI.seq ?_
          refine CWI.reg [0] rfl (by kernel_rfl) ?_   -- 25, law.go:48
          refine SXI.of (fun _ hK => s_ld 122 rfl rfl (fun _ h => h.blkCell (i := 4) (j := 0) rfl rfl) (SX.done hK)) ?_
          refine SXI.next ?_
          refine CWI.reg [0, 1] rfl (by kernel_rfl) ?_   -- 26, law.go:48
          refine SXI.of1 (pf := fun _ => True) (fun _ hK => s_alloc 15 rfl (fun _ _ => trivial) (fun x => SX.done (hK x trivial))) (fun g15b _ => ?_)
          refine SXI.of (fun _ hK => s_stB 0 rfl rfl rfl rfl rfl (Nat.lt_succ_self 0) (fun _ _ => trivial) (SX.done hK)) ?_
          refine SXI.next ?_
          refine CWI.reg [0, 1, 2] rfl (by kernel_rfl) ?_   -- 14, law.go:48
          refine SXI.of (fun _ hK => s_ld 76 rfl rfl (fun _ h => h.blkCell (i := 0) (j := 0) rfl rfl) (SX.done hK)) ?_
          refine SXI.of (fun _ hK => s_add 77 rfl rfl rfl (r := ((q.1 + 1 : Nat) : Int)) (w64 (by omega)) (SX.done hK)) ?_
          refine SXI.of (fun _ hK => s_stB 0 rfl rfl rfl rfl rfl (Nat.lt_succ_self 0) (fun _ _ => trivial) (SX.done hK)) ?_
          refine SXI.end_ ?_
          exact KNI.back (q.1 + 1, D :: q.2.1, g15b) rfl ⟨rfl, rfl, rfl, rfl, rfl, rfl, rfl, trivial⟩ (fun _ h => ((h.pick [1, 11, 2, 2, 0, 2, 2, 2, 2, 2, 2] rfl).markStar).pick [1, 1, 1, 1, 1, 1, 1, 1, 1, 0] rfl) (by simp only; omega) (by simp only; omega)
        · skip
          skip
          refine SXI.of (fun _ hK => SX.skip rfl (SX.done hK)) ?_
          refine SXI.of (fun _ hK => SX.skip rfl (SX.done hK)) ?_
          refine SXI.of (fun _ hK => SX.skip rfl (SX.done hK)) ?_
          refine SXI.of (fun _ hK => SX.skipU rfl (SX.done hK)) ?_
          refine SXI.of (fun _ hK => SX.skipU rfl (SX.done hK)) ?_
          refine SXI.of (fun _ hK => SX.skipU rfl (SX.done hK)) ?_
          refine SXI.of (fun _ hK => SX.skip rfl (SX.done hK)) ?_
          refine SXI.of (fun _ hK => SX.skip rfl (SX.done hK)) ?_
          refine SXI.of (fun _ hK => s_pickF 121 rfl rfl rfl (SX.done hK)) ?_
          refine SXI.next ?_
          refine CWI.condF rfl ?_
          refine CWI.skip ?_
          refine KNI.blk ?_
          refine KNI.code ?_
          refine CWI.seq ?_
          refine CWI.seq ?_
          refine CWI.reg [0] rfl (by kernel_rfl) ?_   -- 25, law.go:48
          refine SXI.of (fun _ hK => s_ld 122 rfl rfl (fun _ h => h.blkCell (i := 4) (j := 0) rfl rfl) (SX.done hK)) ?_
          refine SXI.next ?_
          refine CWI.reg [0, 1] rfl (by kernel_rfl) ?_   -- 26, law.go:48
          refine SXI.of1 (pf := fun _ => True) (fun _ hK => s_alloc 15 rfl (fun _ _ => trivial) (fun x => SX.done (hK x trivial))) (fun g15b _ => ?_)
          refine SXI.of (fun _ hK => s_stB 0 rfl rfl rfl rfl rfl (Nat.lt_succ_self 0) (fun _ _ => trivial) (SX.done hK)) ?_
          refine SXI.next ?_
          refine CWI.reg [0, 1, 2] rfl (by kernel_rfl) ?_   -- 14, law.go:48
          refine SXI.of (fun _ hK => s_ld 76 rfl rfl (fun _ h => h.blkCell (i := 0) (j := 0) rfl rfl) (SX.done hK)) ?_
          refine SXI.of (fun _ hK => s_add 77 rfl rfl rfl (r := ((q.1 + 1 : Nat) : Int)) (w64 (by omega)) (SX.done hK)) ?_
          refine SXI.of (fun _ hK => s_stB 0 rfl rfl rfl rfl rfl (Nat.lt_succ_self 0) (fun _ _ => trivial) (SX.done hK)) ?_
          refine SXI.end_ ?_
          exact KNI.back (q.1 + 1, D :: q.2.1, g15b) rfl ⟨rfl, rfl, rfl, rfl, rfl, rfl, rfl, trivial⟩ (fun _ h => ((h.pick [1, 11, 2, 2, 0, 2, 2, 2, 2, 2, 2] rfl).markStar).pick [1, 1, 1, 1, 1, 1, 1, 1, 1, 0] rfl) (by simp only; omega) (by simp only; omega)
      · intro D i g hi hg
        have hdn : i + 1 = (min a2 (N (mkm 6 a0) : Nat)).toNat ∨ (q.1 = 0 ∧ ((i + 1 : Nat) : Int) = a3) := .inr hg
        refine CWI.exit rfl ?_
        refine KNI.code ?_
        refine CWI.seq ?_
        refine CWI.reg [0, 1, 2, 3, 4, 5, 6, 7, 8, 9, 10, 11, 12] rfl (by kernel_rfl) ?_   -- 23, law.go:59
        refine SXI.of (fun _ hK => s_ld 109 rfl rfl (fun _ h => h.blkCell (i := 1) (j := 0) rfl rfl) (SX.done hK)) ?_
        refine SXI.of (fun _ hK => s_ld 110 rfl rfl (fun _ h => h.blkCell (i := 2) (j := 0) rfl rfl) (SX.done hK)) ?_
        refine SXI.of (fun _ hK => s_ne 111 rfl rfl rfl rfl (SX.done hK)) ?_
        refine SXI.of (fun _ hK => s_mv 112 rfl rfl (SX.done hK)) ?_
        refine SXI.bool 112 rfl (fun hb => ?_) (fun hb => ?_)
        · skip
          have hne := of_decide_eq_true hb
          have hdn2 := hdn.resolve_left (fun h => hne (by rw [h]))
          refine SXI.of (fun _ hK => s_ld 113 rfl rfl (fun _ h => h.blkCell (i := 4) (j := 0) rfl rfl) (SX.done hK)) ?_
          refine SXI.of (fun _ hK => s_eq 114 rfl rfl rfl (decide_eq_true (by have := hdn2.1; omega)) (SX.done hK)) ?_
          refine SXI.of (fun _ hK => s_mv 115 rfl rfl (SX.done hK)) ?_
          refine SXI.of (fun _ hK => s_ld 116 rfl rfl (fun _ h => h.blkCell (i := 1) (j := 0) rfl rfl) (SX.done hK)) ?_
          refine SXI.of (fun _ hK => s_ld 117 rfl rfl (fun _ h => h.blkCell (i := 5) (j := 0) rfl rfl) (SX.done hK)) ?_
          refine SXI.of (fun _ hK => s_eq 118 rfl rfl rfl (decide_eq_true hdn2.2) (SX.done hK)) ?_
          refine SXI.of (fun _ hK => s_pickT 119 rfl rfl rfl (SX.done hK)) ?_
          refine SXI.of (fun _ hK => s_not 120 rfl rfl (SX.done hK)) ?_
          refine SXI.of (fun _ hK => s_pickT 121 rfl rfl rfl (SX.done hK)) ?_
          refine SXI.next ?_
          refine CWI.condF rfl ?_
          refine CWI.skip ?_
          refine KNI.blk ?_
          refine KNI.code ?_
          refine CWI.seq ?_
          refine CWI.seq ?_
          refine CWI.reg [0] rfl (by kernel_rfl) ?_   -- 25, law.go:48
          refine SXI.of (fun _ hK => s_ld 122 rfl rfl (fun _ h => h.blkCell (i := 4) (j := 0) rfl rfl) (SX.done hK)) ?_
          refine SXI.next ?_
          refine CWI.reg [0, 1] rfl (by kernel_rfl) ?_   -- 26, law.go:48
          refine SXI.of1 (pf := fun _ => True) (fun _ hK => s_alloc 15 rfl (fun _ _ => trivial) (fun x => SX.done (hK x trivial))) (fun g15b _ => ?_)
          refine SXI.of (fun _ hK => s_stB 0 rfl rfl rfl rfl rfl (Nat.lt_succ_self 0) (fun _ _ => trivial) (SX.done hK)) ?_
          refine SXI.next ?_
          refine CWI.reg [0, 1, 2] rfl (by kernel_rfl) ?_   -- 14, law.go:48
          refine SXI.of (fun _ hK => s_ld 76 rfl rfl (fun _ h => h.blkCell (i := 0) (j := 0) rfl rfl) (SX.done hK)) ?_
          refine SXI.of (fun _ hK => s_add 77 rfl rfl rfl (r := ((q.1 + 1 : Nat) : Int)) (w64 (by omega)) (SX.done hK)) ?_
          refine SXI.of (fun _ hK => s_stB 0 rfl rfl rfl rfl rfl (Nat.lt_succ_self 0) (fun _ _ => trivial) (SX.done hK)) ?_
          refine SXI.end_ ?_
          exact KNI.back (q.1 + 1, D :: q.2.1, g15b) rfl ⟨rfl, rfl, rfl, rfl, rfl, rfl, rfl, trivial⟩ (fun _ h => ((h.pick [1, 11, 2, 2, 0, 2, 2, 2, 2, 2, 2] rfl).markStar).pick [1, 1, 1, 1, 1, 1, 1, 1, 1, 0] rfl) (by simp only; omega) (by simp only; omega)
        · skip
          skip
          refine SXI.of (fun _ hK => SX.skip rfl (SX.done hK)) ?_
          refine SXI.of (fun _ hK => SX.skip rfl (SX.done hK)) ?_
          refine SXI.of (fun _ hK => SX.skip rfl (SX.done hK)) ?_
          refine SXI.of (fun _ hK => SX.skipU rfl (SX.done hK)) ?_
          refine SXI.of (fun _ hK => SX.skipU rfl (SX.done hK)) ?_
          refine SXI.of (fun _ hK => SX.skipU rfl (SX.done hK)) ?_
          refine SXI.of (fun _ hK => SX.skip rfl (SX.done hK)) ?_
          refine SXI.of (fun _ hK => SX.skip rfl (SX.done hK)) ?_
          refine SXI.of (fun _ hK => s_pickF 121 rfl rfl rfl (SX.done hK)) ?_
          refine SXI.next ?_
          refine CWI.condF rfl ?_
          refine CWI.skip ?_
          refine KNI.blk ?_
          refine KNI.code ?_
          refine CWI.seq ?_
          refine CWI.seq ?_
          refine CWI.reg [0] rfl (by kernel_rfl) ?_   -- 25, law.go:48
          refine SXI.of (fun _ hK => s_ld 122 rfl rfl (fun _ h => h.blkCell (i := 4) (j := 0) rfl rfl) (SX.done hK)) ?_
          refine SXI.next ?_
          refine CWI.reg [0, 1] rfl (by kernel_rfl) ?_   -- 26, law.go:48
          refine SXI.of1 (pf := fun _ => True) (fun _ hK => s_alloc 15 rfl (fun _ _ => trivial) (fun x => SX.done (hK x trivial))) (fun g15b _ => ?_)
          refine SXI.of (fun _ hK => s_stB 0 rfl rfl rfl rfl rfl (Nat.lt_succ_self 0) (fun _ _ => trivial) (SX.done hK)) ?_
          refine SXI.next ?_
          refine CWI.reg [0, 1, 2] rfl (by kernel_rfl) ?_   -- 14, law.go:48
          refine SXI.of (fun _ hK => s_ld 76 rfl rfl (fun _ h => h.blkCell (i := 0) (j := 0) rfl rfl) (SX.done hK)) ?_
          refine SXI.of (fun _ hK => s_add 77 rfl rfl rfl (r := ((q.1 + 1 : Nat) : Int)) (w64 (by omega)) (SX.done hK)) ?_
          refine SXI.of (fun _ hK => s_stB 0 rfl rfl rfl rfl rfl (Nat.lt_succ_self 0) (fun _ _ => trivial) (SX.done hK)) ?_
          refine SXI.end_ ?_
          exact KNI.back (q.1 + 1, D :: q.2.1, g15b) rfl ⟨rfl, rfl, rfl, rfl, rfl, rfl, rfl, trivial⟩ (fun _ h => ((h.pick [1, 11, 2, 2, 0, 2, 2, 2, 2, 2, 2] rfl).markStar).pick [1, 1, 1, 1, 1, 1, 1, 1, 1, 0] rfl) (by simp only; omega) (by simp only; omega)
    · skip
      refine CWI.exit rfl ?_
      refine KNI.code ?_
      refine CWI.seq ?_
      refine CWI.reg [0] rfl (by kernel_rfl) ?_   -- 27, law.go:63
      refine SXI.of (fun _ hK => s_stB 8 rfl rfl rfl rfl rfl (Nat.lt_succ_self 0) (fun _ _ => trivial) (SX.done hK)) ?_
      refine SXI.next ?_
      refine CWI.ret ?_
      exact retMC (rs := [.cell 8 4]) (L := [blk g8 4 #[.bool true]]) q.2.1 rfl Tryd.results5 (fun _ h => (St.star _).2 (h.pick [9, 8] rfl)) (fun w hw => ⟨[_], ⟨⟨_, rfl, run_loadVar1 (hw.blkCell (i := 0) (j := 0) rfl rfl)⟩, trivial⟩, rfl, hw.pick [] rfl⟩)
