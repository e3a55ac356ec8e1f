/- The statement PolyRoots, walked. No condition but the errors' variables. -/
import Derived.Test.YtfhfckoemgkdlaaDoorLawp3
namespace Go.Proofs.YtfhfckoemgkdlaaDoor
open Go.Sx Go.Fm
set_option maxRecDepth 100000
theorem rootsP_some {m : Nat} {a : List Nat} (h : a.length ≠ 0) : rootsP m a = rootsN m a (2 ^ m) := if_neg h
theorem roots_natsAt {k : IntKind} {m : Nat} {a : List Nat} {x n : Nat} (hx : x < n) (h : evL m a x = 0) : (nats k (rootsN m a n))[(rootsN m a x).length]? = some (.int k (x : Nat)) := by
  have := rootsN_at hx h
  unfold nats
  rw [List.getElem?_map, this]
  rfl
theorem roots_lt {m : Nat} {a : List Nat} {x n : Nat} (hx : x < n) (h : evL m a x = 0) : (rootsN m a x).length < (rootsN m a n).length := (List.getElem?_eq_some_iff.1 (rootsN_at hx h)).1
theorem cnt_le (m : Nat) (l : List Int) (x : Nat) : ∀ i, cnt m l x i ≤ i
  | 0 => Nat.le_refl _
  | i + 1 => by
    have := cnt_le m l x i
    unfold cnt
    split <;> omega
theorem neB_false {p q : Prop} [Decidable p] [Decidable q] (h : p ↔ q) : (!(decide p == decide q)) = false := by
  by_cases hp : p
  · rw [decide_eq_true hp, decide_eq_true (h.1 hp)]; rfl
  · rw [decide_eq_false hp, decide_eq_false (fun hq => hp (h.2 hq))]; rfl

theorem walk_PolyRoots (a0 : Int) (A1 : Option Addr) (n1 c1 : Nat) (l1 : List Int) (e : Nat → Addr) (w : World) (hs1 : Has (sl 1 A1 n1 (ints .i64 l1)) w) (hn1 : n1 ≤ 9223372036854775807) (hz : Er e w 1) (hl : Er e w 0) : Spec1 Tryd.prog 15 [.int .i64 a0, .slice A1 n1 c1] w (.bool true) := by
  have hm := mkm_ok (k := 6) (by omega) (by omega) a0
  have hla := ints_len hs1
  subst hla
  refine spec_of Tryd.func15 rfl Tryd.ntmps15 rfl ?_
  refine CW.seq ?_
  refine CW.reg [0] rfl ?_   -- 0, law.go:56
  refine s_as 4 rfl rfl ?_
  refine SX.next ?_
  refine CW.seq ?_
  refine CW.reg [0, 1] rfl ?_   -- 1, law.go:57
  refine s_call1 16 rfl rfl rfl rfl (fun w hw => first4_spec w) (fun _ _ => trivial) ?_
  refine s_as 5 rfl rfl ?_
  refine SX.next ?_
  refine CW.seq ?_
  refine CW.reg [0, 1, 2, 3, 4, 5, 6] rfl ?_   -- 2, law.go:58
  refine s_mv 18 rfl rfl ?_
  refine s_call 19 rfl rfl rfl rfl (fun w hw => ring4_spec a0 w) (fun _ _ => trivial) (fun q0 _ => ?_)
  refine s_mv 17 rfl rfl ?_
  refine s_ext 20 rfl rfl rfl ?_
  refine s_ext 21 rfl rfl rfl ?_
  refine s_as 6 rfl rfl ?_
  refine s_as 7 rfl rfl ?_
  refine SX.next ?_
  refine CW.seq ?_
  refine CW.seq ?_
  refine CW.reg [0, 1, 2, 3, 4, 5, 6, 7, 8, 9, 10] rfl ?_   -- 3, law.go:59
  refine s_mv 22 rfl rfl ?_
  refine s_eqPN 23 rfl rfl ?_
  refine s_mv 24 rfl rfl ?_
  refine s_mv 25 rfl rfl ?_
  refine s_len 26 rfl rfl ?_
  refine s_gt 27 rfl rfl rfl rfl ?_
  refine s_pickF 28 rfl rfl rfl ?_
  refine s_mv 29 rfl rfl ?_
  refine SX.bool 29 rfl (fun hb => ?_) (fun hb => ?_)
  · skip
    skip
    refine SX.skip rfl ?_
    refine SX.skip rfl ?_
    refine s_pickT 32 rfl rfl rfl ?_
    refine SX.next ?_
    refine CW.condT rfl ?_
    refine CW.seq ?_
    refine CW.reg [0, 1, 2, 3, 4, 5] rfl ?_   -- 4, law.go:60
    refine s_mv 33 rfl rfl ?_
    refine s_mv 34 rfl rfl ?_
    refine s_mv 35 rfl rfl ?_
    refine s_nePN 36 rfl rfl ?_
    refine s_pickT 37 rfl rfl rfl ?_
    refine s_as 4 rfl rfl ?_
    refine SX.next ?_
    refine CW.ret ?_
    exact KN.ret (rs := [.tmp 4]) Tryd.results15 rfl (fun w hw => ⟨rfl, hw.nothing⟩)
  · skip
    have hp1 := of_decide_eq_false hb
    have hx1 : l1.length ≤ 16 := by omega
    have hF := frP_tr hm l1 l1.length
    have lF := frP_len (mkm 6 a0) l1 l1.length
    have hD := derP_lt hm hF.lt
    have lD := derP_le (frP (mkm 6 a0) l1 l1.length)
    have lR := rootsN_len (mkm 6 a0) (frP (mkm 6 a0) l1 l1.length) (2 ^ (mkm 6 a0))
    have hle := pow_le14 hm
    have hroot : rootsP (mkm 6 a0) (frP (mkm 6 a0) l1 l1.length) = (rootsN (mkm 6 a0) (frP (mkm 6 a0) l1 l1.length) (2 ^ (mkm 6 a0))) := rootsP_some (by omega)
    have hme := hm.hi
    refine s_mv 30 rfl rfl ?_
    refine s_not 31 rfl rfl ?_
    refine s_pickF 32 rfl rfl rfl ?_
    refine SX.next ?_
    refine CW.condF rfl ?_
    refine CW.skip ?_
    refine KN.code ?_
    refine CW.seq ?_
    refine CW.reg [0, 1, 2, 3, 4, 5, 6, 7] rfl ?_   -- 5, law.go:62
    refine s_mv 39 rfl rfl ?_
    refine s_mv 40 rfl rfl ?_
    refine s_call 41 rfl rfl rfl rfl (fun w hw => by have := pfrom_spec q0.1 q0.2 (mkm 6 a0) A1 l1.length c1 l1 _ hm (ring_of (hw.has (i := 1) rfl) (hw.has (i := 0) rfl)) (hw.old hs1) (by omega); rw [hF.eq] at this; exact this) (fun _ _ => trivial) (fun q41 hq41 => ?_)
    refine s_mv 38 rfl rfl ?_
    refine s_ext 42 rfl rfl rfl ?_
    refine s_ext 43 rfl rfl rfl ?_
    refine s_as 8 rfl rfl ?_
    refine s_as 9 rfl rfl ?_
    refine SX.next ?_
    refine CW.seq ?_
    refine CW.seq ?_
    refine CW.reg [0, 1, 2, 3, 4, 5, 6, 7, 8, 9] rfl ?_   -- 6, law.go:63
    refine s_mv 44 rfl rfl ?_
    refine s_neNN 45 rfl rfl ?_
    refine s_mv 46 rfl rfl ?_
    refine s_mv 47 rfl rfl ?_
    refine s_mv 48 rfl rfl ?_
    refine s_call1 49 rfl rfl rfl rfl (v := .int .i64 (((frP (mkm 6 a0) l1 l1.length).length : Nat) - 1)) (fun w hw => by have := degree_spec q0.1 q0.2 (mkm 6 a0) q41.1 (frP (mkm 6 a0) l1 l1.length).length q41.2 ((frP (mkm 6 a0) l1 l1.length).map Int.ofNat) _ hm (ring_of (hw.has (i := 2) rfl) (hw.has (i := 1) rfl)) (by rw [← nats_ints]; exact (hw.has (i := 0) rfl).of_own) (by omega); rw [← trim_length, hF.low] at this; exact this) (fun _ _ => trivial) ?_
    refine s_mv 50 rfl rfl ?_
    refine s_len 51 rfl rfl ?_
    refine s_ne 52 rfl rfl rfl (decide_eq_false (by omega)) ?_
    refine s_pickF 53 rfl rfl rfl ?_
    refine SX.next ?_
    refine CW.condF rfl ?_
    refine CW.skip ?_
    refine KN.code ?_
    refine CW.seq ?_
    refine CW.reg [0, 1, 2, 3] rfl ?_   -- 8, law.go:66
    refine s_mv 54 rfl rfl ?_
    refine s_mv 55 rfl rfl ?_
    refine s_call 56 rfl rfl rfl rfl (fun w hw => by have := derive_spec q0.1 q0.2 (mkm 6 a0) q41.1 (frP (mkm 6 a0) l1 l1.length).length q41.2 ((frP (mkm 6 a0) l1 l1.length).map Int.ofNat) _ hm (ring_of (hw.has (i := 2) rfl) (hw.has (i := 1) rfl)) (by rw [← nats_ints]; exact (hw.has (i := 0) rfl).of_own) (by omega); rw [lowL_ofNat hF.lt] at this; exact this) (fun _ _ => trivial) (fun q56 hq56 => ?_)
    refine s_as 10 rfl rfl ?_
    refine SX.next ?_
    refine CW.seq ?_
    refine CW.reg [0] rfl ?_   -- 9, law.go:67
    refine s_as 11 rfl rfl ?_
    refine SX.next ?_
    refine CW.seq ?_
    refine CW.reg [0, 1, 2, 3] rfl ?_   -- 10, law.go:68
    refine s_mv 57 rfl rfl ?_
    refine s_mv 58 rfl rfl ?_
    refine s_call 59 rfl rfl rfl rfl (fun w hw => by have := proots_spec q0.1 q0.2 (mkm 6 a0) q41.1 (frP (mkm 6 a0) l1 l1.length).length q41.2 ((frP (mkm 6 a0) l1 l1.length).map Int.ofNat) _ hm (ring_of (hw.has (i := 3) rfl) (hw.has (i := 2) rfl)) (by rw [← nats_ints]; exact (hw.has (i := 1) rfl).of_own) (by omega); rw [hF.low, hroot] at this; exact this) (fun _ _ => trivial) (fun q59 hq59 => ?_)
    refine s_as 12 rfl rfl ?_
    refine SX.next ?_
    refine CW.seq ?_
    refine CW.seq ?_
    refine CW.reg [0] rfl ?_   -- 11, law.go:69
    refine s_as 13 rfl rfl ?_
    refine SX.next ?_
    refine CW.block ?_
    refine CW.loop (G := Nat) (fun x => [(1, .slice A1 l1.length c1), (6, .pointer (some ⟨q0.1, 0, none⟩)), (7, .int .i64 ((mkm 6 a0) : Nat)), (8, .slice q41.1 (frP (mkm 6 a0) l1 l1.length).length q41.2), (10, .slice q56.1 (derP (frP (mkm 6 a0) l1 l1.length)).length q56.2), (11, .int .i64 ((rootsN (mkm 6 a0) (frP (mkm 6 a0) l1 l1.length) x).length : Nat)), (12, .slice q59.1 (rootsN (mkm 6 a0) (frP (mkm 6 a0) l1 l1.length) (2 ^ (mkm 6 a0))).length q59.2), (13, .int .i64 (x : Nat))]) (fun _ => Sto w [own 3 1 q59.1 (rootsN (mkm 6 a0) (frP (mkm 6 a0) l1 l1.length) (2 ^ (mkm 6 a0))).length q59.2 (nats .i64 (rootsN (mkm 6 a0) (frP (mkm 6 a0) l1 l1.length) (2 ^ (mkm 6 a0)))), own 3 1 q56.1 (derP (frP (mkm 6 a0) l1 l1.length)).length q56.2 (nats .i64 (derP (frP (mkm 6 a0) l1 l1.length))), own 3 1 q41.1 (frP (mkm 6 a0) l1 l1.length).length q41.2 (nats .i64 (frP (mkm 6 a0) l1 l1.length)), blk q0.1 90 #[.pointer (some ⟨q0.2, 0, none⟩)], fieldA q0.2 (mkm 6 a0)]) (fun x => x ≤ 2 ^ (mkm 6 a0)) (fun x => 2 ^ (mkm 6 a0) - x) 0 ⟨rfl, rfl, rfl, rfl, rfl, rfl, rfl, rfl, trivial⟩ (fun _ h => h) (Nat.zero_le _) ?_
    intro x hx
    have hrx := rootsN_len (mkm 6 a0) (frP (mkm 6 a0) l1 l1.length) x
    have hNs := N_succ (mkm 6 a0)
    refine CW.seq ?_
    refine CW.seq ?_
    refine CW.reg [0, 1, 2, 3, 4] rfl ?_   -- 12, law.go:69
    refine s_mv 60 rfl rfl ?_
    refine s_mv 61 rfl rfl ?_
    refine s_conv 62 rfl rfl (u64_nat hm) ?_
    refine s_shl 63 rfl rfl rfl (by omega) (shl_one hm) ?_
    refine s_lt 64 rfl rfl rfl rfl ?_
    refine SX.next ?_
    refine CW.test rfl (fun hc => ?_) (fun hc => ?_)
    · skip
      have hxl : x < 2 ^ (mkm 6 a0) := by omega
      have hfr := frP_root hm l1 hxl l1.length
      have hfd := frP_der hm l1 hxl l1.length
      rw [← evL_der hm hF.lt x] at hfd
      have hcl := cnt_le (mkm 6 a0) l1 x l1.length
      refine CW.skip ?_
      refine KN.code ?_
      refine CW.seq ?_
      refine CW.block ?_
      refine CW.seq ?_
      refine CW.reg [0] rfl ?_   -- 14, law.go:70
      refine s_as 14 rfl rfl ?_
      refine SX.next ?_
      refine CW.seq ?_
      refine CW.seq ?_
      refine CW.reg [0] rfl ?_   -- 15, law.go:71
      refine s_as 15 rfl rfl ?_
      refine SX.next ?_
      refine CW.block ?_
      refine CW.loop (G := Nat) (fun i => [(1, .slice A1 l1.length c1), (6, .pointer (some ⟨q0.1, 0, none⟩)), (7, .int .i64 ((mkm 6 a0) : Nat)), (8, .slice q41.1 (frP (mkm 6 a0) l1 l1.length).length q41.2), (10, .slice q56.1 (derP (frP (mkm 6 a0) l1 l1.length)).length q56.2), (11, .int .i64 ((rootsN (mkm 6 a0) (frP (mkm 6 a0) l1 l1.length) x).length : Nat)), (12, .slice q59.1 (rootsN (mkm 6 a0) (frP (mkm 6 a0) l1 l1.length) (2 ^ (mkm 6 a0))).length q59.2), (13, .int .i64 (x : Nat)), (14, .int .i64 ((cnt (mkm 6 a0) l1 x i) : Nat)), (15, .int .i64 (i : Nat))]) (fun _ => Sto w [own 3 1 q59.1 (rootsN (mkm 6 a0) (frP (mkm 6 a0) l1 l1.length) (2 ^ (mkm 6 a0))).length q59.2 (nats .i64 (rootsN (mkm 6 a0) (frP (mkm 6 a0) l1 l1.length) (2 ^ (mkm 6 a0)))), own 3 1 q56.1 (derP (frP (mkm 6 a0) l1 l1.length)).length q56.2 (nats .i64 (derP (frP (mkm 6 a0) l1 l1.length))), own 3 1 q41.1 (frP (mkm 6 a0) l1 l1.length).length q41.2 (nats .i64 (frP (mkm 6 a0) l1 l1.length)), blk q0.1 90 #[.pointer (some ⟨q0.2, 0, none⟩)], fieldA q0.2 (mkm 6 a0)]) (fun i => i ≤ l1.length) (fun i => l1.length - i) 0 ⟨rfl, rfl, rfl, rfl, rfl, rfl, rfl, rfl, rfl, rfl, trivial⟩ (fun _ h => h) (Nat.zero_le _) ?_
      intro i hi
      have hci := cnt_le (mkm 6 a0) l1 x i
      refine CW.seq ?_
      refine CW.seq ?_
      refine CW.reg [0, 1, 2, 3] rfl ?_   -- 16, law.go:71
      refine s_mv 67 rfl rfl ?_
      refine s_mv 68 rfl rfl ?_
      refine s_len 69 rfl rfl ?_
      refine s_lt 70 rfl rfl rfl rfl ?_
      refine SX.next ?_
      refine CW.test rfl (fun hc => ?_) (fun hc => ?_)
      · skip
        refine CW.skip ?_
        refine KN.code ?_
        refine CW.seq ?_
        refine CW.block ?_
        refine CW.seq ?_
        refine CW.reg [0, 1, 2, 3, 4, 5, 6, 7] rfl ?_   -- 18, law.go:72
        refine s_mv 73 rfl rfl ?_
        refine s_mv 74 rfl rfl ?_
        refine s_mv 75 rfl rfl ?_
        refine s_iaV 76 i (fun w hw => hw.old hs1) rfl rfl rfl rfl (by omega) ?_
        refine s_ldV 77 (fun w hw => hw.old hs1) rfl rfl (by rw [Nat.mul_one]; exact intsAt (by omega)) (by omega) ?_
        refine s_call1 78 rfl rfl rfl rfl (fun w hw => rlow_spec _ _ _ hm) (fun _ _ => trivial) ?_
        refine s_mv 79 rfl rfl ?_
        refine s_eq 80 rfl rfl rfl rfl ?_
        refine SX.next ?_
        refine CW.test rfl (fun hc => ?_) (fun hc => ?_)
        · skip
          have hcn : cnt (mkm 6 a0) l1 x (i + 1) = cnt (mkm 6 a0) l1 x i + 1 := if_pos (by omega)
          refine CW.reg [0, 1, 2] rfl ?_   -- 19, law.go:73
          refine s_mv 81 rfl rfl ?_
          refine s_add 82 rfl rfl rfl (r := ((cnt (mkm 6 a0) l1 x i + 1 : Nat) : Int)) (w64 (by omega)) ?_
          refine s_as 14 rfl rfl ?_
          refine SX.end_ ?_
          refine KN.blk ?_
          refine KN.code ?_
          refine CW.reg [0, 1, 2] rfl ?_   -- 17, law.go:71
          refine s_mv 71 rfl rfl ?_
          refine s_add 72 rfl rfl rfl (r := ((i + 1 : Nat) : Int)) (w64 (by omega)) ?_
          refine s_as 15 rfl rfl ?_
          refine SX.end_ ?_
          exact KN.back (i + 1) ⟨rfl, rfl, rfl, rfl, rfl, rfl, rfl, rfl, by rw [hcn]; rfl, rfl, trivial⟩ (fun _ h => h) (by omega) (by omega)
        · skip
          have hcn : cnt (mkm 6 a0) l1 x (i + 1) = cnt (mkm 6 a0) l1 x i := if_neg (by omega)
          refine CW.skip ?_
          refine KN.blk ?_
          refine KN.code ?_
          refine CW.reg [0, 1, 2] rfl ?_   -- 17, law.go:71
          refine s_mv 71 rfl rfl ?_
          refine s_add 72 rfl rfl rfl (r := ((i + 1 : Nat) : Int)) (w64 (by omega)) ?_
          refine s_as 15 rfl rfl ?_
          refine SX.end_ ?_
          exact KN.back (i + 1) ⟨rfl, rfl, rfl, rfl, rfl, rfl, rfl, rfl, by rw [hcn]; rfl, rfl, trivial⟩ (fun _ h => h) (by omega) (by omega)
      · skip
        obtain rfl : i = l1.length := by omega
        refine CW.exit rfl ?_
        refine KN.code ?_
        refine CW.seq ?_
        refine CW.seq ?_
        refine CW.reg [0, 1, 2, 3, 4, 5, 6, 7] rfl ?_   -- 20, law.go:76
        refine s_mv 83 rfl rfl ?_
        refine s_gt 84 rfl rfl rfl rfl ?_
        refine s_mv 85 rfl rfl ?_
        refine s_mv 86 rfl rfl ?_
        refine s_mv 87 rfl rfl ?_
        refine s_call1 88 rfl rfl rfl rfl (v := .int .i64 (evL (mkm 6 a0) (frP (mkm 6 a0) l1 l1.length) x : Nat)) (fun w hw => by have := peval_spec q0.1 q0.2 (mkm 6 a0) q41.1 (frP (mkm 6 a0) l1 l1.length).length q41.2 ((frP (mkm 6 a0) l1 l1.length).map Int.ofNat) (x : Nat) _ hm (ring_of (hw.has (i := 4) rfl) (hw.has (i := 3) rfl)) (by rw [← nats_ints]; exact (hw.has (i := 2) rfl).of_own) (by omega); rw [lowL_ofNat hF.lt, lo_nat hxl] at this; exact this) (fun _ _ => trivial) ?_
        refine s_eq 89 rfl rfl rfl rfl ?_
        refine s_neB 90 rfl rfl rfl (neB_false (by rw [show ((0 : Int) < (((cnt (mkm 6 a0) l1 x l1.length) : Nat) : Int) ↔ 0 < (cnt (mkm 6 a0) l1 x l1.length)) by omega, ← hfr]; omega)) ?_
        refine SX.next ?_
        refine CW.condF rfl ?_
        refine CW.skip ?_
        refine KN.code ?_
        refine CW.seq ?_
        refine CW.reg [0, 1] rfl ?_   -- 22, law.go:79
        refine s_mv 91 rfl rfl ?_
        refine s_gt 92 rfl rfl rfl rfl ?_
        refine SX.next ?_
        refine CW.test rfl (fun hc => ?_) (fun hc => ?_)
        · skip
          have hez := hfr.2 (by omega)
          have hat := roots_natsAt (k := .i64) hxl hez
          have hlt := roots_lt hxl hez
          have hfd2 := hfd (by omega)
          have hnx : rootsN (mkm 6 a0) (frP (mkm 6 a0) l1 l1.length) (x + 1) = rootsN (mkm 6 a0) (frP (mkm 6 a0) l1 l1.length) x ++ [x] := if_pos hez
          refine CW.seq ?_
          refine CW.seq ?_
          refine CW.reg [0, 1, 2, 3, 4, 5, 6, 7, 8, 9, 10, 11, 12, 13, 14, 15, 16, 17, 18, 19, 20, 21] rfl ?_   -- 23, law.go:80
          refine s_mv 93 rfl rfl ?_
          refine s_mv 94 rfl rfl ?_
          refine s_len 95 rfl rfl ?_
          refine s_ge 96 rfl rfl rfl (decide_eq_false (by omega)) ?_
          refine s_mv 97 rfl rfl ?_
          refine s_mv 98 rfl rfl ?_
          refine s_mv 99 rfl rfl ?_
          refine s_iaO 100 0 (rootsN (mkm 6 a0) (frP (mkm 6 a0) l1 l1.length) x).length rfl rfl rfl rfl rfl (by omega) ?_
          refine s_ldO 101 0 rfl rfl rfl hat ?_
          refine s_mv 102 rfl rfl ?_
          refine s_ne 103 rfl rfl rfl (decide_eq_false (by omega)) ?_
          refine s_pickF 104 rfl rfl rfl ?_
          refine s_mv 105 rfl rfl ?_
          refine s_mv 106 rfl rfl ?_
          refine s_gt 107 rfl rfl rfl rfl ?_
          refine s_mv 108 rfl rfl ?_
          refine s_mv 109 rfl rfl ?_
          refine s_mv 110 rfl rfl ?_
          refine s_call1 111 rfl rfl rfl rfl (v := .int .i64 (evL (mkm 6 a0) (derP (frP (mkm 6 a0) l1 l1.length)) x : Nat)) (fun w hw => by have := peval_spec q0.1 q0.2 (mkm 6 a0) q56.1 (derP (frP (mkm 6 a0) l1 l1.length)).length q56.2 ((derP (frP (mkm 6 a0) l1 l1.length)).map Int.ofNat) (x : Nat) _ hm (ring_of (hw.has (i := 4) rfl) (hw.has (i := 3) rfl)) (by rw [← nats_ints]; exact (hw.has (i := 1) rfl).of_own) (by omega); rw [lowL_ofNat hD, lo_nat hxl] at this; exact this) (fun _ _ => trivial) ?_
          refine s_eq 112 rfl rfl rfl rfl ?_
          refine s_neB 113 rfl rfl rfl (neB_false (by rw [show ((1 : Int) < (((cnt (mkm 6 a0) l1 x l1.length) : Nat) : Int) ↔ 1 < (cnt (mkm 6 a0) l1 x l1.length)) by omega, ← hfd2]; omega)) ?_
          refine s_pickF 114 rfl rfl rfl ?_
          refine SX.next ?_
          refine CW.condF rfl ?_
          refine CW.skip ?_
          refine KN.code ?_
          refine CW.reg [0, 1, 2] rfl ?_   -- 25, law.go:83
          refine s_mv 115 rfl rfl ?_
          refine s_add 116 rfl rfl rfl (r := (((rootsN (mkm 6 a0) (frP (mkm 6 a0) l1 l1.length) x).length + 1 : Nat) : Int)) (w64 (by omega)) ?_
          refine s_as 11 rfl rfl ?_
          refine SX.end_ ?_
          refine KN.blk ?_
          refine KN.code ?_
          refine CW.reg [0, 1, 2] rfl ?_   -- 13, law.go:69
          refine s_mv 65 rfl rfl ?_
          refine s_add 66 rfl rfl rfl (r := ((x + 1 : Nat) : Int)) (w64 (by omega)) ?_
          refine s_as 13 rfl rfl ?_
          refine SX.end_ ?_
          exact KN.back (x + 1) ⟨rfl, rfl, rfl, rfl, rfl, by rw [hnx, List.length_append]; rfl, rfl, rfl, trivial⟩ (fun _ h => h) (by omega) (by omega)
        · skip
          have hnx : rootsN (mkm 6 a0) (frP (mkm 6 a0) l1 l1.length) (x + 1) = rootsN (mkm 6 a0) (frP (mkm 6 a0) l1 l1.length) x := if_neg (fun h => by have := hfr.1 h; omega)
          refine CW.skip ?_
          refine KN.blk ?_
          refine KN.code ?_
          refine CW.reg [0, 1, 2] rfl ?_   -- 13, law.go:69
          refine s_mv 65 rfl rfl ?_
          refine s_add 66 rfl rfl rfl (r := ((x + 1 : Nat) : Int)) (w64 (by omega)) ?_
          refine s_as 13 rfl rfl ?_
          refine SX.end_ ?_
          exact KN.back (x + 1) ⟨rfl, rfl, rfl, rfl, rfl, by rw [hnx]; rfl, rfl, rfl, trivial⟩ (fun _ h => h) (by omega) (by omega)
    · skip
      obtain rfl : x = 2 ^ (mkm 6 a0) := by omega
      refine CW.exit rfl ?_
      refine KN.code ?_
      refine CW.seq ?_
      refine CW.reg [0, 1, 2, 3, 4] rfl ?_   -- 26, law.go:86
      refine s_mv 117 rfl rfl ?_
      refine s_mv 118 rfl rfl ?_
      refine s_len 119 rfl rfl ?_
      refine s_eq 120 rfl rfl rfl (decide_eq_true rfl) ?_
      refine s_as 4 rfl rfl ?_
      refine SX.next ?_
      refine CW.ret ?_
      exact KN.ret (rs := [.tmp 4]) Tryd.results15 rfl (fun w hw => ⟨rfl, hw.nothing⟩)
