/- The contracts of shalesee, and of what it leans on: an error of package api, seen as its number. Conditions: the errors' variables each hold a pointer of its own. -/
import Derived.Test.YtjnahakojhindaaDoorErs
namespace Go.Proofs.YtjnahakojhindaaDoor
open Go.Sx
set_option maxRecDepth 100000
/-- A fault with nothing around it. -/
def fltV (c : Int) : Value := .agg #[.int .i64 c, .slice none 0 0]
theorem ers_at {j k : Nat} (h : apiErrs[j]? = some k) : k ∈ apiErrs := List.mem_of_getElem? h
theorem ers_one {i j k : Nat} (hi : apiErrs[i]? = some k) (hj : apiErrs[j]? = some k) : i = j := by
  have hn : ∀ i < 19, ∀ j < 19, apiErrs[i]? = apiErrs[j]? → i = j := by decide
  obtain ⟨h1, _⟩ := List.getElem?_eq_some_iff.1 hi
  obtain ⟨h3, _⟩ := List.getElem?_eq_some_iff.1 hj
  exact hn i h1 j h3 (hi.trans hj.symm)
theorem ers_lt {j k : Nat} (h : apiErrs[j]? = some k) : j < 19 := by
  obtain ⟨h1, _⟩ := List.getElem?_eq_some_iff.1 h
  exact h1

theorem none_spec (w : World) : Spec1 Tryd.prog 71 [] w (fltV 0) := by
  refine spec_of Tryd.func71 rfl Tryd.ntmps71 rfl ?_
  refine CW.seq ?_
  refine CW.reg [0] rfl ?_   -- 0, ref.go:69
  refine s_alloc 0 rfl (fun _ _ => trivial) (fun g => ?_)
  refine SX.next ?_
  refine CW.seq ?_
  refine CW.reg [0, 1] rfl ?_   -- 1, ref.go:69
  refine s_build 1 rfl rfl rfl ?_
  refine s_stAll 0 rfl rfl (by kernel_rfl) rfl rfl rfl rfl (fun _ _ => trivial) ?_
  refine SX.next ?_
  refine CW.ret ?_
  exact KN.retC (rs := [.cell 0 82]) Tryd.results71 (fun w hw => ⟨[_], ⟨⟨_, rfl, hw.ldRow (q := 0) rfl (by rfl)⟩, trivial⟩, rfl, hw.nothing⟩)

theorem bare_spec (c : Int) (w : World) : Spec1 Tryd.prog 56 [.int .i64 c] w (fltV c) := by
  refine spec_of Tryd.func56 rfl Tryd.ntmps56 rfl ?_
  refine CW.seq ?_
  refine CW.reg [0] rfl ?_   -- 0, ref.go:72
  refine s_alloc 2 rfl (fun _ _ => trivial) (fun g => ?_)
  refine SX.next ?_
  refine CW.seq ?_
  refine CW.reg [0, 1, 2] rfl ?_   -- 1, ref.go:72
  refine s_mv 3 rfl rfl ?_
  refine s_build 4 rfl rfl rfl ?_
  refine s_stAll 0 rfl rfl (by kernel_rfl) rfl rfl rfl rfl (fun _ _ => trivial) ?_
  refine SX.next ?_
  refine CW.ret ?_
  exact KN.retC (rs := [.cell 2 82]) Tryd.results56 (fun w hw => ⟨[_], ⟨⟨_, rfl, hw.ldRow (q := 0) rfl (by rfl)⟩, trivial⟩, rfl, hw.nothing⟩)

theorem alike_same (i : Nat) (e : Nat → Addr) (w : World) : Spec1 Tryd.prog 77 [errV e i, errV e i] w (.bool true) := by
  refine spec_of Tryd.func77 rfl Tryd.ntmps77 rfl ?_
  refine CW.seq ?_
  refine CW.reg [0] rfl ?_   -- 0, see.go:88
  refine s_as 4 rfl rfl ?_
  refine SX.next ?_
  refine CW.seq ?_
  refine CW.seq ?_
  refine CW.reg [0, 1, 2, 3, 4, 5] rfl ?_   -- 1, see.go:89
  refine s_mv 5 rfl rfl ?_
  refine s_eqHN 6 rfl rfl ?_
  refine s_mv 7 rfl rfl ?_
  refine s_mv 8 rfl rfl ?_
  refine s_eqHN 9 rfl rfl ?_
  refine s_pickF 10 rfl rfl rfl ?_
  refine SX.next ?_
  refine CW.condF rfl ?_
  refine CW.skip ?_
  refine KN.code ?_
  refine CW.seq ?_
  refine CW.reg [0, 1, 2, 3] rfl ?_   -- 3, see.go:92
  refine s_mv 17 rfl rfl ?_
  refine s_mv 18 rfl rfl ?_
  refine s_eqE 19 rfl rfl rfl ?_
  refine s_as 4 rfl rfl ?_
  refine SX.next ?_
  refine CW.ret ?_
  exact KN.ret (rs := [.tmp 4]) Tryd.results77 rfl (fun w hw => ⟨rfl, hw.nothing⟩)

theorem alike_not (i j : Nat) (e : Nat → Addr) (w : World) (he : Has (ersA e apiErrs) w) (hi : i ∈ apiErrs) (hj : j ∈ apiErrs) (hne : i ≠ j) : Spec1 Tryd.prog 77 [errV e i, errV e j] w (.bool false) := by
  refine spec_of Tryd.func77 rfl Tryd.ntmps77 rfl ?_
  refine CW.seq ?_
  refine CW.reg [0] rfl ?_   -- 0, see.go:88
  refine s_as 4 rfl rfl ?_
  refine SX.next ?_
  refine CW.seq ?_
  refine CW.seq ?_
  refine CW.reg [0, 1, 2, 3, 4, 5] rfl ?_   -- 1, see.go:89
  refine s_mv 5 rfl rfl ?_
  refine s_eqHN 6 rfl rfl ?_
  refine s_mv 7 rfl rfl ?_
  refine s_mv 8 rfl rfl ?_
  refine s_eqHN 9 rfl rfl ?_
  refine s_pickF 10 rfl rfl rfl ?_
  refine SX.next ?_
  refine CW.condF rfl ?_
  refine CW.skip ?_
  refine KN.code ?_
  refine CW.seq ?_
  refine CW.reg [0, 1, 2, 3] rfl ?_   -- 3, see.go:92
  refine s_mv 17 rfl rfl ?_
  refine s_mv 18 rfl rfl ?_
  refine s_eqD 19 rfl rfl rfl (he.apart hi hj hne) (fun w hw => ⟨(hw.old he).live hi, (hw.old he).live hj⟩) ?_
  refine s_as 4 rfl rfl ?_
  refine SX.next ?_
  refine CW.ret ?_
  exact KN.ret (rs := [.tmp 4]) Tryd.results77 rfl (fun w hw => ⟨rfl, hw.nothing⟩)

theorem alike_spec (i j : Nat) (e : Nat → Addr) (w : World) (he : Has (ersA e apiErrs) w) (hi : i ∈ apiErrs) (hj : j ∈ apiErrs) : Spec1 Tryd.prog 77 [errV e i, errV e j] w (.bool (decide (i = j))) := by
  by_cases h : i = j
  · subst h; rw [decide_eq_true rfl]; exact alike_same i e w
  · rw [decide_eq_false h]; exact alike_not i j e w he hi hj h
def errCs (e : Nat → Addr) : Array Value := (apiErrs.map (errV e)).toArray
theorem errCs_at {e : Nat → Addr} {j k : Nat} (h : apiErrs[j]? = some k) : (errCs e)[j]? = some (errV e k) := by
  unfold errCs
  simp [h]

theorem sentinels_spec (e : Nat → Addr) (w : World) (he : Has (ersA e apiErrs) w) : SpecX Tryd.prog 76 [] w (X := Nat) (fun g => .slice (some ⟨g, 0, none⟩) 19 19) (fun _ => True) (fun g => [blk g 27 (errCs e)]) := by
  refine spec_of Tryd.func76 rfl Tryd.ntmps76 rfl ?_
  refine CW.seq ?_
  refine CW.reg [0] rfl ?_   -- 0, see.go:45
  refine s_as 0 rfl rfl ?_
  refine SX.next ?_
  refine CW.seq ?_
  refine CW.reg [0, 1, 2, 3, 4, 5, 6, 7, 8, 9, 10, 11, 12, 13, 14, 15, 16, 17, 18, 19, 20] rfl ?_   -- 1, see.go:46
  refine s_ld 1 rfl rfl (fun _ h => (h.old he).ers (by decide)) ?_
  refine s_ld 2 rfl rfl (fun _ h => (h.old he).ers (by decide)) ?_
  refine s_ld 3 rfl rfl (fun _ h => (h.old he).ers (by decide)) ?_
  refine s_ld 4 rfl rfl (fun _ h => (h.old he).ers (by decide)) ?_
  refine s_ld 5 rfl rfl (fun _ h => (h.old he).ers (by decide)) ?_
  refine s_ld 6 rfl rfl (fun _ h => (h.old he).ers (by decide)) ?_
  refine s_ld 7 rfl rfl (fun _ h => (h.old he).ers (by decide)) ?_
  refine s_ld 8 rfl rfl (fun _ h => (h.old he).ers (by decide)) ?_
  refine s_ld 9 rfl rfl (fun _ h => (h.old he).ers (by decide)) ?_
  refine s_ld 10 rfl rfl (fun _ h => (h.old he).ers (by decide)) ?_
  refine s_ld 11 rfl rfl (fun _ h => (h.old he).ers (by decide)) ?_
  refine s_ld 12 rfl rfl (fun _ h => (h.old he).ers (by decide)) ?_
  refine s_ld 13 rfl rfl (fun _ h => (h.old he).ers (by decide)) ?_
  refine s_ld 14 rfl rfl (fun _ h => (h.old he).ers (by decide)) ?_
  refine s_ld 15 rfl rfl (fun _ h => (h.old he).ers (by decide)) ?_
  refine s_ld 16 rfl rfl (fun _ h => (h.old he).ers (by decide)) ?_
  refine s_ld 17 rfl rfl (fun _ h => (h.old he).ers (by decide)) ?_
  refine s_ld 18 rfl rfl (fun _ h => (h.old he).ers (by decide)) ?_
  refine s_ld 19 rfl rfl (fun _ h => (h.old he).ers (by decide)) ?_
  refine s_bsl 20 rfl rfl (cells := errCs e) (by kernel_rfl) rfl (fun _ _ => trivial) (fun g => ?_)
  refine s_as 0 rfl rfl ?_
  refine SX.next ?_
  refine CW.ret ?_
  exact KN.ret (rs := [.tmp 0]) Tryd.results76 rfl (fun w hw => ⟨g, rfl, trivial, hw⟩)

theorem sentinel_spec (j k : Nat) (e : Nat → Addr) (w : World) (he : Has (ersA e apiErrs) w) (hj : apiErrs[j]? = some k) : Spec1 Tryd.prog 75 [errV e k] w (.int .i64 (101 + (j : Nat))) := by
  have hj19 := ers_lt hj
  refine spec_of Tryd.func75 rfl Tryd.ntmps75 rfl ?_
  refine CW.seq ?_
  refine CW.reg [0] rfl ?_   -- 0, see.go:34
  refine s_as 2 rfl rfl ?_
  refine SX.next ?_
  refine CW.seq ?_
  refine CW.reg [0, 1] rfl ?_   -- 1, see.go:35
  refine s_call 5 rfl rfl rfl rfl (fun w hw => sentinels_spec e w (hw.old he)) (fun _ _ => trivial) (fun g _ => ?_)
  refine s_as 3 rfl rfl ?_
  refine SX.next ?_
  refine CW.seq ?_
  refine CW.seq ?_
  refine CW.reg [0] rfl ?_   -- 2, see.go:36
  refine s_as 4 rfl rfl ?_
  refine SX.next ?_
  refine CW.block ?_
  refine CW.loop (G := Nat) (fun i => [(0, errV e k), (3, .slice (some ⟨g, 0, none⟩) 19 19), (4, .int .i64 (i : Nat))]) (fun _ => Sto w [blk g 27 (errCs e)]) (fun i => i ≤ j) (fun i => j - i) 0 ⟨rfl, rfl, rfl, trivial⟩ (fun _ h => h) (Nat.zero_le _) ?_
  intro i hi
  obtain ⟨k2, hk2⟩ : ∃ k2, apiErrs[i]? = some k2 := ⟨_, List.getElem?_eq_getElem (show i < apiErrs.length from (by show i < 19; omega))⟩
  have hcell := errCs_at (e := e) hk2
  refine CW.seq ?_
  refine CW.seq ?_
  refine CW.reg [0, 1, 2, 3] rfl ?_   -- 3, see.go:36
  refine s_mv 6 rfl rfl ?_
  refine s_mv 7 rfl rfl ?_
  refine s_len 8 rfl rfl ?_
  refine s_lt 9 rfl rfl rfl (decide_eq_true (by omega)) ?_
  refine SX.next ?_
  refine CW.condT rfl ?_
  refine CW.skip ?_
  refine KN.code ?_
  refine CW.seq ?_
  refine CW.block ?_
  refine CW.seq ?_
  refine CW.reg [0, 1, 2, 3, 4, 5] rfl ?_   -- 5, see.go:37
  refine s_mv 12 rfl rfl ?_
  refine s_mv 13 rfl rfl ?_
  refine s_mv 14 rfl rfl ?_
  refine s_ia0 15 i rfl rfl rfl rfl (by omega) ?_
  refine s_ldB 16 0 rfl rfl rfl hcell ?_
  refine s_call1 17 rfl rfl rfl rfl (fun w hw => alike_spec k k2 e _ (hw.old he) (ers_at hj) (ers_at hk2)) (fun _ _ => trivial) ?_
  refine SX.next ?_
  refine CW.test rfl (fun hc => ?_) (fun hc => ?_)
  · skip
    obtain rfl : i = j := ers_one (by rw [hk2, hc]) hj
    refine CW.seq ?_
    refine CW.reg [0, 1, 2] rfl ?_   -- 6, see.go:38
    refine s_mv 18 rfl rfl ?_
    refine s_add 19 rfl rfl rfl (w64 (by omega)) ?_
    refine s_as 2 rfl rfl ?_
    refine SX.next ?_
    refine CW.ret ?_
    exact KN.ret (rs := [.tmp 2]) Tryd.results75 rfl (fun w hw => ⟨rfl, hw.nothing⟩)
  · skip
    have hlt : i < j := by
      rcases Nat.lt_or_eq_of_le hi with h | h
      · exact h
      · subst h; rw [hk2] at hj; exact absurd (Option.some.inj hj).symm hc
    refine CW.skip ?_
    refine KN.blk ?_
    refine KN.code ?_
    refine CW.reg [0, 1, 2] rfl ?_   -- 4, see.go:36
    refine s_mv 10 rfl rfl ?_
    refine s_add 11 rfl rfl rfl (r := ((i + 1 : Nat) : Int)) (w64 (by omega)) ?_
    refine s_as 4 rfl rfl ?_
    refine SX.end_ ?_
    exact KN.back (i + 1) ⟨rfl, rfl, rfl, trivial⟩ (fun _ h => h) (by omega) (by omega)

theorem fault_spec (j k : Nat) (n : Int) (e : Nat → Addr) (w : World) (he : Has (ersA e apiErrs) w) (hj : apiErrs[j]? = some k) (hn : n ≠ 0) : Spec1 Tryd.prog 72 [errV e k, .int .i64 n] w (fltV (101 + (j : Nat))) := by
  refine spec_of Tryd.func72 rfl Tryd.ntmps72 rfl ?_
  refine CW.seq ?_
  refine CW.reg [0] rfl ?_   -- 0, see.go:18
  refine s_alloc 4 rfl (fun _ _ => trivial) (fun g => ?_)
  refine SX.next ?_
  refine CW.seq ?_
  refine CW.seq ?_
  refine CW.reg [0, 1, 2, 3, 4, 5] rfl ?_   -- 1, see.go:19
  refine s_mv 7 rfl rfl ?_
  refine s_eqHN 8 rfl rfl ?_
  refine s_mv 9 rfl rfl ?_
  refine s_mv 10 rfl rfl ?_
  refine s_eq 11 rfl rfl rfl (decide_eq_false hn) ?_
  refine s_pickF 12 rfl rfl rfl ?_
  refine SX.next ?_
  refine CW.condF rfl ?_
  refine CW.skip ?_
  refine KN.code ?_
  refine CW.seq ?_
  refine CW.seq ?_
  refine CW.reg [0] rfl ?_   -- 3, see.go:22
  refine s_mv 14 rfl rfl ?_
  refine SX.next ?_
  refine CW.block ?_
  refine CW.seq ?_
  refine CW.reg [0, 1, 2] rfl ?_   -- 4, see.go:22
  refine s_taF 15 rfl rfl rfl ?_
  refine s_ext 16 rfl rfl rfl ?_
  refine s_ext 17 rfl rfl rfl ?_
  refine SX.next ?_
  refine CW.condF rfl ?_
  refine CW.skip ?_
  refine KN.blk ?_
  refine KN.code ?_
  refine CW.seq ?_
  refine CW.reg [0, 1, 2, 3] rfl ?_   -- 10, see.go:30
  refine s_mv 34 rfl rfl ?_
  refine s_call1 35 rfl rfl rfl rfl (fun w hw => sentinel_spec j k e _ (hw.old he) hj) (fun _ _ => trivial) ?_
  refine s_call1 36 rfl rfl rfl rfl (fun w hw => bare_spec _ _) (fun _ _ => trivial) ?_
  refine s_stAll 0 rfl rfl (by kernel_rfl) rfl rfl rfl rfl (fun _ _ => trivial) ?_
  refine SX.next ?_
  refine CW.ret ?_
  exact KN.retC (rs := [.cell 4 82]) Tryd.results72 (fun w hw => ⟨[_], ⟨⟨_, rfl, hw.ldRow (q := 0) rfl (by rfl)⟩, trivial⟩, rfl, hw.nothing⟩)

theorem see_spec (j k : Nat) (e : Nat → Addr) (w : World) (he : Has (ersA e apiErrs) w) (hj : apiErrs[j]? = some k) : Spec1 Tryd.prog 68 [errV e k] w (fltV (101 + (j : Nat))) := by
  refine spec_of Tryd.func68 rfl Tryd.ntmps68 rfl ?_
  refine CW.seq ?_
  refine CW.reg [0] rfl ?_   -- 0, see.go:10
  refine s_alloc 2 rfl (fun _ _ => trivial) (fun g => ?_)
  refine SX.next ?_
  refine CW.seq ?_
  refine CW.seq ?_
  refine CW.reg [0, 1] rfl ?_   -- 1, see.go:11
  refine s_mv 3 rfl rfl ?_
  refine s_eqHN 4 rfl rfl ?_
  refine SX.next ?_
  refine CW.condF rfl ?_
  refine CW.skip ?_
  refine KN.code ?_
  refine CW.seq ?_
  refine CW.reg [0, 1, 2] rfl ?_   -- 3, see.go:14
  refine s_mv 6 rfl rfl ?_
  refine s_call1 7 rfl rfl rfl rfl (fun w hw => fault_spec j k 9 e _ (hw.old he) hj (by decide)) (fun _ _ => trivial) ?_
  refine s_stAll 0 rfl rfl (by kernel_rfl) rfl rfl rfl rfl (fun _ _ => trivial) ?_
  refine SX.next ?_
  refine CW.ret ?_
  exact KN.retC (rs := [.cell 2 82]) Tryd.results68 (fun w hw => ⟨[_], ⟨⟨_, rfl, hw.ldRow (q := 0) rfl (by rfl)⟩, trivial⟩, rfl, hw.nothing⟩)

theorem see_none (w : World) : Spec1 Tryd.prog 68 [.nilIface] w (fltV 0) := by
  refine spec_of Tryd.func68 rfl Tryd.ntmps68 rfl ?_
  refine CW.seq ?_
  refine CW.reg [0] rfl ?_   -- 0, see.go:10
  refine s_alloc 2 rfl (fun _ _ => trivial) (fun g => ?_)
  refine SX.next ?_
  refine CW.seq ?_
  refine CW.seq ?_
  refine CW.reg [0, 1] rfl ?_   -- 1, see.go:11
  refine s_mv 3 rfl rfl ?_
  refine s_eqNN 4 rfl rfl ?_
  refine SX.next ?_
  refine CW.condT rfl ?_
  refine CW.seq ?_
  refine CW.reg [0, 1] rfl ?_   -- 2, see.go:12
  refine s_call1 5 rfl rfl rfl rfl (fun w hw => none_spec _) (fun _ _ => trivial) ?_
  refine s_stAll 0 rfl rfl (by kernel_rfl) rfl rfl rfl rfl (fun _ _ => trivial) ?_
  refine SX.next ?_
  refine CW.ret ?_
  exact KN.retC (rs := [.cell 2 82]) Tryd.results68 (fun w hw => ⟨[_], ⟨⟨_, rfl, hw.ldRow (q := 0) rfl (by rfl)⟩, trivial⟩, rfl, hw.nothing⟩)

theorem sameInts_nil (w : World) : Spec1 Tryd.prog 73 [.slice none 0 0, .slice none 0 0] w (.bool true) := by
  refine spec_of Tryd.func73 rfl Tryd.ntmps73 rfl ?_
  refine CW.seq ?_
  refine CW.reg [0] rfl ?_   -- 0, ref.go:132
  refine s_as 4 rfl rfl ?_
  refine SX.next ?_
  refine CW.seq ?_
  refine CW.seq ?_
  refine CW.reg [0, 1, 2, 3, 4] rfl ?_   -- 1, ref.go:133
  refine s_mv 7 rfl rfl ?_
  refine s_len 8 rfl rfl ?_
  refine s_mv 9 rfl rfl ?_
  refine s_len 10 rfl rfl ?_
  refine s_ne 11 rfl rfl rfl (decide_eq_false (fun h => h rfl)) ?_
  refine SX.next ?_
  refine CW.condF rfl ?_
  refine CW.skip ?_
  refine KN.code ?_
  refine CW.seq ?_
  refine CW.seq ?_
  refine CW.reg [0] rfl ?_   -- 3, ref.go:136
  refine s_as 5 rfl rfl ?_
  refine SX.next ?_
  refine CW.block ?_
  refine CW.loop (G := Unit) (fun _ => [(0, .slice none 0 0), (1, .slice none 0 0), (5, .int .i64 0)]) (fun _ => Sto w []) (fun _ => True) (fun _ => 0) () ⟨rfl, rfl, rfl, trivial⟩ (fun _ h => h) trivial ?_
  intro _ _
  refine CW.seq ?_
  refine CW.seq ?_
  refine CW.reg [0, 1, 2, 3] rfl ?_   -- 4, ref.go:136
  refine s_mv 12 rfl rfl ?_
  refine s_mv 13 rfl rfl ?_
  refine s_len 14 rfl rfl ?_
  refine s_lt 15 rfl rfl rfl (decide_eq_false (by decide)) ?_
  refine SX.next ?_
  refine CW.condF rfl ?_
  refine CW.exit rfl ?_
  refine KN.code ?_
  refine CW.seq ?_
  refine CW.reg [0] rfl ?_   -- 9, ref.go:142
  refine s_as 4 rfl rfl ?_
  refine SX.next ?_
  refine CW.ret ?_
  exact KN.ret (rs := [.tmp 4]) Tryd.results73 rfl (fun w hw => ⟨rfl, hw.nothing⟩)

theorem sameFault_bare (c d : Int) (w : World) : Spec1 Tryd.prog 69 [fltV c, fltV d] w (.bool (decide (c = d))) := by
  refine spec_of Tryd.func69 rfl Tryd.ntmps69 rfl ?_
  refine CW.seq ?_
  refine CW.reg [0, 1, 2] rfl ?_   -- 0, ref.go:91
  refine s_box 2 rfl rfl (fun _ _ => trivial) (fun g => ?_)
  refine s_box 3 rfl rfl (fun _ _ => trivial) (fun g2 => ?_)
  refine s_as 4 rfl rfl ?_
  refine SX.next ?_
  refine CW.seq ?_
  refine CW.reg [0, 1, 2, 3, 4, 5] rfl ?_   -- 1, ref.go:92
  refine s_fa 6 rfl rfl ?_
  refine s_ldB 7 1 rfl rfl rfl rfl ?_
  refine s_fa 8 rfl rfl ?_
  refine s_ldB 9 0 rfl rfl rfl rfl ?_
  refine s_call1 10 rfl rfl rfl rfl (fun w hw => sameInts_nil _) (fun _ _ => trivial) ?_
  refine s_as 5 rfl rfl ?_
  refine SX.next ?_
  refine CW.seq ?_
  refine CW.reg [0, 1, 2, 3, 4, 5, 6, 7, 8] rfl ?_   -- 2, ref.go:93
  refine s_fa 11 rfl rfl ?_
  refine s_ldB 12 1 rfl rfl rfl rfl ?_
  refine s_fa 13 rfl rfl ?_
  refine s_ldB 14 0 rfl rfl rfl rfl ?_
  refine s_eq 15 rfl rfl rfl rfl ?_
  refine s_mv 16 rfl rfl ?_
  refine SX.bool 16 rfl (fun hb => ?_) (fun hb => ?_)
  · skip
    refine s_mv 17 rfl rfl ?_
    refine s_pickT 18 rfl rfl rfl ?_
    refine s_as 4 rfl rfl ?_
    refine SX.next ?_
    refine CW.ret ?_
    exact KN.ret (rs := [.tmp 4]) Tryd.results69 rfl (fun w hw => ⟨by rw [hb]; rfl, hw.nothing⟩)
  · skip
    refine SX.skip rfl ?_
    refine s_pickF 18 rfl rfl rfl ?_
    refine s_as 4 rfl rfl ?_
    refine SX.next ?_
    refine CW.ret ?_
    exact KN.ret (rs := [.tmp 4]) Tryd.results69 rfl (fun w hw => ⟨by rw [hb]; rfl, hw.nothing⟩)

theorem same_spec (j k : Nat) (d : Int) (e : Nat → Addr) (w : World) (he : Has (ersA e apiErrs) w) (hj : apiErrs[j]? = some k) : Spec1 Tryd.prog 55 [errV e k, fltV d] w (.bool (decide ((101 + (j : Nat) : Int) = d))) := by
  refine spec_of Tryd.func55 rfl Tryd.ntmps55 rfl ?_
  refine CW.seq ?_
  refine CW.reg [0, 1] rfl ?_   -- 0, see.go:70
  refine s_box 3 rfl rfl (fun _ _ => trivial) (fun g => ?_)
  refine s_as 4 rfl rfl ?_
  refine SX.next ?_
  refine CW.seq ?_
  refine CW.reg [0, 1, 2, 3] rfl ?_   -- 1, see.go:71
  refine s_mv 6 rfl rfl ?_
  refine s_call1 7 rfl rfl rfl rfl (fun w hw => see_spec j k e _ (hw.old he) hj) (fun _ _ => trivial) ?_
  refine s_alloc 5 rfl (fun _ _ => trivial) (fun g2 => ?_)
  refine s_stAll 0 rfl rfl (by kernel_rfl) rfl rfl rfl rfl (fun _ _ => trivial) ?_
  refine SX.next ?_
  refine CW.seq ?_
  refine CW.reg [0, 1, 2, 3] rfl ?_   -- 2, see.go:72
  refine s_ldW 8 0 rfl rfl rfl ?_
  refine s_ldW 9 1 rfl rfl rfl ?_
  refine s_call1 10 rfl rfl rfl rfl (fun w hw => sameFault_bare _ d _) (fun _ _ => trivial) ?_
  refine s_as 4 rfl rfl ?_
  refine SX.next ?_
  refine CW.ret ?_
  exact KN.ret (rs := [.tmp 4]) Tryd.results55 rfl (fun w hw => ⟨rfl, hw.nothing⟩)

theorem is_err (j k : Nat) (d : Int) (e : Nat → Addr) (w : World) (he : Has (ersA e apiErrs) w) (hj : apiErrs[j]? = some k) : Spec1 Tryd.prog 26 [errV e k, .int .i64 d] w (.bool (decide ((101 + (j : Nat) : Int) = d))) := by
  refine spec_of Tryd.func26 rfl Tryd.ntmps26 rfl ?_
  refine CW.seq ?_
  refine CW.reg [0] rfl ?_   -- 0, see.go:76
  refine s_as 4 rfl rfl ?_
  refine SX.next ?_
  refine CW.seq ?_
  refine CW.reg [0, 1, 2, 3, 4] rfl ?_   -- 1, see.go:76
  refine s_mv 5 rfl rfl ?_
  refine s_mv 6 rfl rfl ?_
  refine s_call1 7 rfl rfl rfl rfl (fun w hw => bare_spec _ _) (fun _ _ => trivial) ?_
  refine s_call1 8 rfl rfl rfl rfl (fun w hw => same_spec j k d e _ (hw.old he) hj) (fun _ _ => trivial) ?_
  refine s_as 4 rfl rfl ?_
  refine SX.next ?_
  refine CW.ret ?_
  exact KN.ret (rs := [.tmp 4]) Tryd.results26 rfl (fun w hw => ⟨rfl, hw.nothing⟩)
