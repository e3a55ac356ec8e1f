/- The contracts of Search and Plain, the chapter's examples. Conditions: the field was made by New; the list is read where it lies. -/
import Derived.Test.YtfhfckoemgkdlaaDoorSr
import Derived.Test.YtfhfckoemgkdlaaDoorInts
namespace Go.Proofs.YtfhfckoemgkdlaaDoor
open Go Go.Sx Go.Fm
set_option maxRecDepth 100000

theorem ssearch_spec (g m : Nat) (A : Option Addr) (c : Nat) (l : List Int) (z : Int) (w : World) (hm : Ok m) (hf : Has (fieldA g m) w) (ha : Has (sl 1 A l.length (ints .i64 l)) w) (hn : l.length ≤ 2048) (hcp : l.length ≤ c) : SpecL Tryd.prog 21 [.pointer (some ⟨g, 0, none⟩), .slice A l.length c, .int .i64 z] w (zerosN (plc m (lowL m l)) (min z (N m : Nat)).toNat) := by
  have h14 := pow_le14 hm
  have hNs := N_succ m
  have htk : l.take 2048 = l := List.take_of_length_le hn
  have hT : (trim (lowL m l)).length ≤ l.length := by rw [trim_length, ← lowL_len m l]; exact tl_le _
  refine spec_of Tryd.func21 rfl Tryd.ntmps21 rfl ?_
  refine CW.seq ?_
  refine CW.reg [0] rfl ?_   -- 0, search.go:66
  refine s_as 6 rfl rfl ?_
  refine SX.next ?_
  refine CW.seq ?_
  refine CW.reg [0, 1, 2, 3, 4, 5] rfl ?_   -- 1, search.go:66
  refine s_mv 7 rfl rfl ?_
  refine s_mv 8 rfl rfl ?_
  refine s_mv 9 rfl rfl ?_
  refine s_call 10 rfl rfl rfl rfl (fun w hw => by have := begun_spec g m A c l z w hm (hw.old hf) (hw.old ha) (by omega) hcp; rw [htk] at this; exact this) (fun _ _ => trivial) (fun q hq => ?_)
  refine s_call 11 rfl rfl rfl rfl (fun w hw => roots_spec 68 87 _ _ _ (plc m (lowL m l)) (min z (N m : Nat)).toNat w (by omega) (fun w => chien_spec _ _ _ w) (fun b => by have := (chienIt g m b q.1 q.2 (trim (lowL m l)) (min z (N m : Nat)) w hm (hw.old hf) ((hw.has (i := 0) rfl).of_own) (by omega) (trimLow_lt m l) (by omega)); simp only [sfF_plc hm (trimLow_lt m l), plc_trim] at this; exact this)) (fun _ _ => trivial) (fun q2 hq2 => ?_)
  refine s_as 6 rfl rfl ?_
  refine SX.next ?_
  refine CW.ret ?_
  exact KN.ret (rs := [.tmp 6]) Tryd.results21 rfl (fun w hw => ⟨q2, rfl, hq2, hw.pick [0] rfl⟩)

theorem splain_spec (g m : Nat) (A : Option Addr) (c : Nat) (l : List Int) (z : Int) (w : World) (hm : Ok m) (hf : Has (fieldA g m) w) (ha : Has (sl 1 A l.length (ints .i64 l)) w) (hn : l.length ≤ 2048) (hcp : l.length ≤ c) : SpecL Tryd.prog 27 [.pointer (some ⟨g, 0, none⟩), .slice A l.length c, .int .i64 z] w (zerosN (plc m (lowL m l)) (min z (N m : Nat)).toNat) := by
  have h14 := pow_le14 hm
  have hNs := N_succ m
  have htk : l.take 2048 = l := List.take_of_length_le hn
  have hT : (trim (lowL m l)).length ≤ l.length := by rw [trim_length, ← lowL_len m l]; exact tl_le _
  refine spec_of Tryd.func27 rfl Tryd.ntmps27 rfl ?_
  refine CW.seq ?_
  refine CW.reg [0] rfl ?_   -- 0, search.go:69
  refine s_as 6 rfl rfl ?_
  refine SX.next ?_
  refine CW.seq ?_
  refine CW.reg [0, 1, 2, 3, 4, 5] rfl ?_   -- 1, search.go:69
  refine s_mv 7 rfl rfl ?_
  refine s_mv 8 rfl rfl ?_
  refine s_mv 9 rfl rfl ?_
  refine s_call 10 rfl rfl rfl rfl (fun w hw => by have := begun_spec g m A c l z w hm (hw.old hf) (hw.old ha) (by omega) hcp; rw [htk] at this; exact this) (fun _ _ => trivial) (fun q hq => ?_)
  refine s_call 11 rfl rfl rfl rfl (fun w hw => roots_spec 70 88 _ _ _ (plc m (lowL m l)) (min z (N m : Nat)).toNat w (by omega) (fun w => plain_spec _ _ _ w) (fun b => by have := (plainIt g m b q.1 (trim (lowL m l)).length q.2 ((trim (lowL m l)).map Int.ofNat) (min z (N m : Nat)) w hm (hw.old hf) (by rw [← nats_ints]; exact (hw.has (i := 0) rfl).of_own) (by omega) (by omega)); rw [lowL_ofNat (trimLow_lt m l)] at this; simp only [evL_trim] at this; exact this)) (fun _ _ => trivial) (fun q2 hq2 => ?_)
  refine s_as 6 rfl rfl ?_
  refine SX.next ?_
  refine CW.ret ?_
  exact KN.ret (rs := [.tmp 6]) Tryd.results27 rfl (fun w hw => ⟨q2, rfl, hq2, hw.pick [0] rfl⟩)

theorem ok4 : Ok 4 := ⟨by decide, by decide⟩
theorem ex_s1 : zerosN (plc 4 (lowL 4 [1, 3, 2])) (min (15 : Int) (N 4 : Nat)).toNat = [0, 1] := by decide +kernel
theorem ex_s2 : zerosN (plc 4 (lowL 4 [1, 1])) (min (15 : Int) (N 4 : Nat)).toNat = [0] := by decide +kernel
theorem ex_s3 : zerosN (plc 4 (lowL 4 [1])) (min (15 : Int) (N 4 : Nat)).toNat = [] := by decide +kernel
theorem ex_s4 : zerosN (plc 4 (lowL 4 [1, 3, 2])) (min (1 : Int) (N 4 : Nat)).toNat = [0] := by decide +kernel
/-- Which m a number makes, of those from 3 on. -/
def mkm (k : Int) (m : Int) : Nat := (m % k).toNat + 3
theorem tmod_lt {k : Int} (hk : 0 < k) (m : Int) : -k < m.tmod k ∧ m.tmod k < k := by
  have h1 := Int.emod_nonneg m (b := k) (by omega)
  have h2 := Int.emod_lt_of_pos m hk
  rw [Int.tmod_eq_emod]
  split <;> omega
theorem mkm_val {k : Int} (hk : 0 < k) (m : Int) : (m.tmod k + k).tmod k = (((m % k).toNat : Nat) : Int) := by
  have h1 := Int.emod_nonneg m (b := k) (by omega)
  have hb := tmod_lt hk m
  rw [Int.tmod_eq_emod_of_nonneg (by omega), Int.add_emod_right, tmod_emod]
  omega
theorem mkm_bd {k : Int} (hk : 0 < k) (m : Int) : 3 ≤ mkm k m ∧ ((mkm k m : Nat) : Int) < k + 3 := by
  have h1 := Int.emod_nonneg m (b := k) (by omega)
  have h2 := Int.emod_lt_of_pos m hk
  unfold mkm
  omega
theorem mkm_ok {k : Int} (hk : 0 < k) (hk2 : k ≤ 12) (m : Int) : Ok (mkm k m) := by
  have := mkm_bd hk m
  exact ⟨this.1, by omega⟩

theorem made9_spec (m : Int) (w : World) : SpecX Tryd.prog 20 [.int .i64 m] w (X := Nat) (fun q => two (.pointer (some ⟨q, 0, none⟩)) (.int .i64 (mkm 6 m : Nat))) (fun _ => True) (fun q => [fieldA q (mkm 6 m)]) := by
  have hm := mkm_ok (k := 6) (by omega) (by omega) m
  have hb := tmod_lt (k := 6) (by omega) m
  have hv := mkm_val (k := 6) (by omega) m
  have hmb := mkm_bd (k := 6) (by omega) m
  refine spec_of Tryd.func20 rfl Tryd.ntmps20 rfl ?_
  refine CW.seq ?_
  refine CW.reg [0, 1] rfl ?_   -- 0, law.go:14
  refine s_as 2 rfl rfl ?_
  refine s_as 3 rfl rfl ?_
  refine SX.next ?_
  refine CW.seq ?_
  refine CW.reg [0, 1, 2, 3, 4, 5] rfl ?_   -- 1, law.go:15
  refine s_mv 6 rfl rfl ?_
  refine s_rem 7 rfl rfl rfl (by omega) rfl ?_
  refine s_add 8 rfl rfl rfl (w64 (by omega)) ?_
  refine s_rem 9 rfl rfl rfl (by omega) hv ?_
  refine s_add 10 rfl rfl rfl (r := (mkm 6 m : Nat)) (by rw [show (((m % 6).toNat : Nat) : Int) + 3 = (mkm 6 m : Nat) by unfold mkm; omega]; exact w64 (by omega)) ?_
  refine s_as 0 rfl rfl ?_
  refine SX.next ?_
  refine CW.seq ?_
  refine CW.reg [0, 1, 2, 3, 4, 5, 6] rfl ?_   -- 2, law.go:16
  refine s_mv 12 rfl rfl ?_
  refine s_call 13 rfl rfl rfl rfl (fun w hw => new_spec _ w hm) (fun _ _ => trivial) (fun g _ => ?_)
  refine s_mv 11 rfl rfl ?_
  refine s_ext 14 rfl rfl rfl ?_
  refine s_ext 15 rfl rfl rfl ?_
  refine s_as 4 rfl rfl ?_
  refine s_as 5 rfl rfl ?_
  refine SX.next ?_
  refine CW.seq ?_
  refine CW.seq ?_
  refine CW.reg [0, 1] rfl ?_   -- 3, law.go:17
  refine s_mv 16 rfl rfl ?_
  refine s_neNN 17 rfl rfl ?_
  refine SX.next ?_
  refine CW.condF rfl ?_
  refine CW.skip ?_
  refine KN.code ?_
  refine CW.seq ?_
  refine CW.reg [0, 1, 2, 3] rfl ?_   -- 5, law.go:20
  refine s_mv 19 rfl rfl ?_
  refine s_mv 20 rfl rfl ?_
  refine s_as 2 rfl rfl ?_
  refine s_as 3 rfl rfl ?_
  refine SX.next ?_
  refine CW.ret ?_
  exact KN.ret (rs := [.tmp 2, .tmp 3]) Tryd.results20 rfl (fun w hw => ⟨g, rfl, trivial, hw⟩)

theorem first9_spec (w : World) : Spec1 Tryd.prog 19 [] w (.bool true) := by
  refine spec_of Tryd.func19 rfl Tryd.ntmps19 rfl ?_
  refine CW.seq ?_
  refine CW.reg [0] rfl ?_   -- 0, law.go:24
  refine s_as 0 rfl rfl ?_
  refine SX.next ?_
  refine CW.seq ?_
  refine CW.reg [0, 1, 2, 3, 4, 5] rfl ?_   -- 1, law.go:25
  refine s_call 4 rfl rfl rfl rfl (fun w hw => new_spec 4 w ok4) (fun _ _ => trivial) (fun g _ => ?_)
  refine s_mv 3 rfl rfl ?_
  refine s_ext 5 rfl rfl rfl ?_
  refine s_ext 6 rfl rfl rfl ?_
  refine s_as 1 rfl rfl ?_
  refine s_as 2 rfl rfl ?_
  refine SX.next ?_
  refine CW.seq ?_
  refine CW.seq ?_
  refine CW.reg [0, 1, 2, 3, 4, 5] rfl ?_   -- 2, law.go:26
  refine s_mv 7 rfl rfl ?_
  refine s_eqPN 8 rfl rfl ?_
  refine s_mv 9 rfl rfl ?_
  refine s_mv 10 rfl rfl ?_
  refine s_neNN 11 rfl rfl ?_
  refine s_pickF 12 rfl rfl rfl ?_
  refine SX.next ?_
  refine CW.condF rfl ?_
  refine CW.skip ?_
  refine KN.code ?_
  refine CW.seq ?_
  refine CW.reg [0, 1, 2, 3, 4, 5, 6, 7, 8, 9, 10, 11, 12, 13, 14, 15, 16, 17, 18, 19, 20, 21, 22, 23, 24, 25, 26] rfl ?_   -- 4, law.go:29
  refine s_mv 13 rfl rfl ?_
  refine s_bsl 14 rfl rfl (cells := #[.int .i64 1, .int .i64 3, .int .i64 2]) (by kernel_rfl) rfl (fun _ _ => trivial) (fun b14 => ?_)
  refine s_call 15 rfl rfl rfl rfl (fun w hw => by have := ssearch_spec g 4 (some ⟨b14, 0, none⟩) 3 [1, 3, 2] 15 _ ok4 (hw.has (i := 1) rfl) (Has.cong ((hw.has (i := 0) rfl).blk_sl (m := 3) rfl) rfl) (by decide) (by decide); rw [ex_s1] at this; exact this) (fun _ _ => trivial) (fun q15 hq15 => ?_)
  refine s_bsl 16 rfl rfl (cells := #[.int .i64 0, .int .i64 1]) (by kernel_rfl) rfl (fun _ _ => trivial) (fun b16 => ?_)
  refine s_call1 17 rfl rfl rfl rfl (v := .bool true) (fun w hw => by have := sameInts_spec q15.1 (some ⟨b16, 0, none⟩) 2 q15.2 2 2 ([0, 1].map Int.ofNat) [0, 1] _ (by rw [← nats_ints]; exact (hw.has (i := 1) rfl).of_own) (Has.cong ((hw.has (i := 0) rfl).blk_sl (m := 2) rfl) rfl) (by decide); exact this) (fun _ _ => trivial) ?_
  refine s_mv 18 rfl rfl ?_
  refine s_mv 19 rfl rfl ?_
  refine s_bsl 20 rfl rfl (cells := #[.int .i64 1, .int .i64 1]) (by kernel_rfl) rfl (fun _ _ => trivial) (fun b20 => ?_)
  refine s_call 21 rfl rfl rfl rfl (fun w hw => by have := ssearch_spec g 4 (some ⟨b20, 0, none⟩) 2 [1, 1] 15 _ ok4 (hw.has (i := 4) rfl) (Has.cong ((hw.has (i := 0) rfl).blk_sl (m := 2) rfl) rfl) (by decide) (by decide); rw [ex_s2] at this; exact this) (fun _ _ => trivial) (fun q21 hq21 => ?_)
  refine s_bsl 22 rfl rfl (cells := #[.int .i64 0]) (by kernel_rfl) rfl (fun _ _ => trivial) (fun b22 => ?_)
  refine s_call1 23 rfl rfl rfl rfl (v := .bool true) (fun w hw => by have := sameInts_spec q21.1 (some ⟨b22, 0, none⟩) 1 q21.2 1 1 ([0].map Int.ofNat) [0] _ (by rw [← nats_ints]; exact (hw.has (i := 1) rfl).of_own) (Has.cong ((hw.has (i := 0) rfl).blk_sl (m := 1) rfl) rfl) (by decide); exact this) (fun _ _ => trivial) ?_
  refine s_pickT 24 rfl rfl rfl ?_
  refine s_mv 25 rfl rfl ?_
  refine s_mv 26 rfl rfl ?_
  refine s_bsl 27 rfl rfl (cells := #[.int .i64 1]) (by kernel_rfl) rfl (fun _ _ => trivial) (fun b27 => ?_)
  refine s_call 28 rfl rfl rfl rfl (fun w hw => by have := ssearch_spec g 4 (some ⟨b27, 0, none⟩) 1 [1] 15 _ ok4 (hw.has (i := 7) rfl) (Has.cong ((hw.has (i := 0) rfl).blk_sl (m := 1) rfl) rfl) (by decide) (by decide); rw [ex_s3] at this; exact this) (fun _ _ => trivial) (fun q28 hq28 => ?_)
  refine s_len 29 rfl rfl ?_
  refine s_eq 30 rfl rfl rfl (decide_eq_true rfl) ?_
  refine s_pickT 31 rfl rfl rfl ?_
  refine s_mv 32 rfl rfl ?_
  refine s_mv 33 rfl rfl ?_
  refine s_bsl 34 rfl rfl (cells := #[.int .i64 1, .int .i64 3, .int .i64 2]) (by kernel_rfl) rfl (fun _ _ => trivial) (fun b34 => ?_)
  refine s_call 35 rfl rfl rfl rfl (fun w hw => by have := splain_spec g 4 (some ⟨b34, 0, none⟩) 3 [1, 3, 2] 1 _ ok4 (hw.has (i := 9) rfl) (Has.cong ((hw.has (i := 0) rfl).blk_sl (m := 3) rfl) rfl) (by decide) (by decide); rw [ex_s4] at this; exact this) (fun _ _ => trivial) (fun q35 hq35 => ?_)
  refine s_bsl 36 rfl rfl (cells := #[.int .i64 0]) (by kernel_rfl) rfl (fun _ _ => trivial) (fun b36 => ?_)
  refine s_call1 37 rfl rfl rfl rfl (v := .bool true) (fun w hw => by have := sameInts_spec q35.1 (some ⟨b36, 0, none⟩) 1 q35.2 1 1 ([0].map Int.ofNat) [0] _ (by rw [← nats_ints]; exact (hw.has (i := 1) rfl).of_own) (Has.cong ((hw.has (i := 0) rfl).blk_sl (m := 1) rfl) rfl) (by decide); exact this) (fun _ _ => trivial) ?_
  refine s_pickT 38 rfl rfl rfl ?_
  refine s_as 0 rfl rfl ?_
  refine SX.next ?_
  refine CW.ret ?_
  exact KN.ret (rs := [.tmp 0]) Tryd.results19 rfl (fun w hw => ⟨rfl, hw.nothing⟩)
