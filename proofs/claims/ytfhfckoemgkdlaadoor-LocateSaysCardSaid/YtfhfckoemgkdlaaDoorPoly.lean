/- The contracts of package fieldpoly: what each of its functions answers, over the fields of 2^m elements. Conditions: the ring was made by New over a field that New made; the lists are read where they lie. -/
import Derived.Test.YtfhfckoemgkdlaaDoorFieldb
import Derived.Test.YtfhfckoemgkdlaaDoorInts
import Derived.Test.YtfhfckoemgkdlaaDoorPl
namespace Go.Proofs.YtfhfckoemgkdlaaDoor
open Go.Sx Go.Fm
set_option maxRecDepth 100000

/-- A ring that New made, in block r, over the field in block g. -/
def ringA (r g m : Nat) : Atom where
  ok w D := D r ∧ w.cell? ⟨r, 0, none⟩ = some (.pointer (some ⟨g, 0, none⟩)) ∧ (fieldA g m).ok w D
  loc := fun ⟨h1, h2, h3⟩ hb => ⟨h1, (World.cell?_of_block (hb _ h1)).trans h2, (fieldA _ _).loc h3 hb⟩
theorem ring_at {w : World} {r g m : Nat} (h : Has (ringA r g m) w) : w.cell? ⟨r, 0, none⟩ = some (.pointer (some ⟨g, 0, none⟩)) ∧ Has (fieldA g m) w :=
  let ⟨D, ⟨_, h2, h3⟩, h4⟩ := h
  ⟨h2, D, h3, h4⟩
theorem field_mono {w : World} {g m : Nat} {D D' : Nat → Prop} (h : (fieldA g m).ok w D) (hd : ∀ k, D k → D' k) : (fieldA g m).ok w D' := by
  obtain ⟨ge, gl, h1, h2, h3, h4⟩ := h
  exact ⟨ge, gl, hd _ h1, hd _ h2, hd _ h3, h4⟩
theorem ring_of {w : World} {r g m T : Nat} (hf : Has (fieldA g m) w) (hb : Has (blk r T #[.pointer (some ⟨g, 0, none⟩)]) w) : Has (ringA r g m) w := by
  obtain ⟨D, h1, h2⟩ := hf
  obtain ⟨D', ⟨h3, h4⟩, h5⟩ := hb
  refine ⟨fun k => D k ∨ D' k, ⟨.inr ((h3 r).2 rfl), by rw [cell_of_blk h4]; rfl, field_mono h1 (fun k => .inl)⟩, fun k hk => hk.elim (h2 k) (h5 k)⟩
/-- A list of elements is answered, in memory of its own. -/
abbrev SpecL (P : Program) (f : FuncId) (args : List Value) (w : World) (E : List Nat) : Prop :=
  SpecX P f args w (X := Option Addr × Nat) (fun q => .slice q.1 E.length q.2) (fun q => E.length ≤ q.2) (fun q => [own 3 1 q.1 E.length q.2 (nats .i64 E)])
/-- The elements that numbers count as. -/
def lowL (m : Nat) (l : List Int) : List Nat := l.map (lo m)
theorem lowL_len (m : Nat) (l : List Int) : (lowL m l).length = l.length := by simp [lowL]
theorem lo_zero (m : Nat) : lo m 0 = 0 := by unfold lo; simp
theorem cf_low (m : Nat) (l : List Int) (j : Nat) : cf (lowL m l) j = lo m (l.getD j 0) := by
  by_cases h : j < l.length
  · simp [cf, lowL, h]
  · simp [cf, lowL, h, lo_zero]
theorem lowL_lt (m : Nat) (l : List Int) : ∀ x ∈ lowL m l, x < 2 ^ m := by
  intro x hx
  obtain ⟨y, _, rfl⟩ := List.mem_map.1 hx
  exact lo_lt m y
theorem lowL_take (m : Nat) (l : List Int) {i : Nat} (h : i < l.length) : lowL m (l.take (i + 1)) = lowL m (l.take i) ++ [lo m (l.getD i 0)] := by
  have h1 : l.take (i + 1) = l.take i ++ [l.getD i 0] := by
    rw [List.take_add_one]
    simp [h]
  unfold lowL
  rw [h1, List.map_append]
  rfl
def trimC (m : Nat) (l : List Int) (i : Nat) : Array Value := ((List.range l.length).map (fun j => .int .i64 ((if j < i then lo m (l.getD j 0) else 0 : Nat)))).toArray
theorem trimC_zero (m : Nat) (l : List Int) : (List.replicate l.length (.int .i64 0)).toArray = trimC m l 0 := by
  rw [rep_range]; unfold trimC; simp
theorem trimC_size (m : Nat) (l : List Int) (i : Nat) : (trimC m l i).size = l.length := by simp [trimC]
theorem trimC_set (m : Nat) (l : List Int) (i : Nat) : (trimC m l i).setIfInBounds i (.int .i64 (lo m (l.getD i 0) : Nat)) = trimC m l (i + 1) := by
  unfold trimC
  rw [set_range]
  congr 1
  apply List.map_congr_left
  intro j _
  by_cases h : j = i
  · subst h; simp
  · rw [if_neg h]
    by_cases h2 : j < i
    · rw [if_pos h2, if_pos (by omega)]
    · rw [if_neg h2, if_neg (by omega)]
theorem trimC_at (m : Nat) (l : List Int) {i k : Nat} (h : k < i) (hk : k < l.length) : (trimC m l i)[k]? = some (.int .i64 (lo m (l.getD k 0) : Nat)) := by
  unfold trimC
  simp [hk, h]
theorem trimC_all (m : Nat) (l : List Int) : (trimC m l l.length).toList = nats .i64 (lowL m l) := by
  unfold trimC nats lowL
  apply List.ext_getElem?
  intro j
  by_cases hj : j < l.length
  · simp [hj]
  · simp [hj]
theorem nats_take (k : IntKind) (l : List Nat) (n : Nat) : (nats k l).take n = nats k (l.take n) := by simp [nats, List.map_take]
theorem trimC_take (m : Nat) (l : List Int) : (trimC m l l.length).toList.take ((trim (lowL m l)).length * 1) = nats .i64 (trim (lowL m l)) := by
  rw [trimC_all, nats_take, Nat.mul_one, trim_length]
  rfl
theorem Has.cong {w : World} {sz n : Nat} {A : Option Addr} {vs us : List Value} (h : Has (sl sz A n vs) w) (he : vs = us) : Has (sl sz A n us) w := by rw [← he]; exact h

theorem ring_spec (g : Nat) (w : World) : SpecX Tryd.prog 72 [.pointer (some ⟨g, 0, none⟩)] w (X := Nat) (fun r => .pointer (some ⟨r, 0, none⟩)) (fun _ => True) (fun r => [blk r 90 #[.pointer (some ⟨g, 0, none⟩)]]) := by
  refine spec_of Tryd.func72 rfl Tryd.ntmps72 rfl ?_
  refine CW.seq ?_
  refine CW.reg [0] rfl ?_   -- 0, fieldpoly.go:13
  refine s_as 2 rfl rfl ?_
  refine SX.next ?_
  refine CW.seq ?_
  refine CW.reg [0, 1, 2, 3] rfl ?_   -- 1, fieldpoly.go:13
  refine s_mv 3 rfl rfl ?_
  refine s_build 4 rfl rfl rfl ?_
  refine s_box 5 rfl rfl (fun _ _ => trivial) (fun r => ?_)
  refine s_as 2 rfl rfl ?_
  refine SX.next ?_
  refine CW.ret ?_
  exact KN.ret (rs := [.tmp 2]) Tryd.results72 rfl (fun w hw => ⟨r, rfl, trivial, hw⟩)

theorem trim_spec (r g m : Nat) (A : Option Addr) (n c : Nat) (l : List Int) (w : World) (hm : Ok m) (hr : Has (ringA r g m) w) (ha : Has (sl 1 A n (ints .i64 l)) w) (hn : n ≤ 4294967296) : SpecL Tryd.prog 47 [.pointer (some ⟨r, 0, none⟩), .slice A n c] w (trim (lowL m l)) := by
  obtain ⟨hrc, hf⟩ := ring_at hr
  have hla := ints_len ha
  subst hla
  have htl := tl_le (lowL m l)
  have hll := lowL_len m l
  refine spec_of Tryd.func47 rfl Tryd.ntmps47 rfl ?_
  refine CW.seq ?_
  refine CW.reg [0] rfl ?_   -- 0, fieldpoly.go:16
  refine s_as 4 rfl rfl ?_
  refine SX.next ?_
  refine CW.seq ?_
  refine CW.reg [0, 1, 2, 3] rfl ?_   -- 1, fieldpoly.go:17
  refine s_mv 9 rfl rfl ?_
  refine s_len 10 rfl rfl ?_
  refine s_make 11 l.length rfl rfl rfl rfl rfl (by omega) (fun _ _ => trivial) (fun gs => ?_)
  refine s_as 5 rfl rfl ?_
  refine SX.next ?_
  refine CW.seq ?_
  refine CW.reg [0] rfl ?_   -- 2, fieldpoly.go:18
  refine s_as 6 rfl rfl ?_
  refine SX.next ?_
  refine CW.seq ?_
  refine CW.seq ?_
  refine CW.reg [0, 1, 2] rfl ?_   -- 3, fieldpoly.go:19
  refine s_mv 12 rfl rfl ?_
  refine s_len 13 rfl rfl ?_
  refine s_mv 14 rfl rfl ?_
  refine SX.next ?_
  refine CW.block ?_
  refine CW.loop (G := Nat × Nat) (fun q => [(0, .pointer (some ⟨r, 0, none⟩)), (5, .slice (some ⟨gs, 0, none⟩) l.length l.length), (6, .int .i64 (q.2 : Nat)), (12, .slice A l.length c), (13, .int .i64 (l.length : Nat)), (14, .int .i64 (q.1 : Nat))]) (fun q => Sto w [blk gs 3 (trimC m l q.1)]) (fun q => q.1 ≤ l.length ∧ q.2 = tl (lowL m (l.take q.1))) (fun q => l.length - q.1) (0, 0) ⟨rfl, rfl, rfl, rfl, rfl, rfl, trivial⟩ (fun _ h => by rw [← trimC_zero]; exact h) ⟨Nat.zero_le _, rfl⟩ ?_
  rintro ⟨i, k⟩ ⟨hi, hk⟩
  simp only at hi hk
  refine CW.seq ?_
  refine CW.reg [0] rfl ?_   -- 4, fieldpoly.go:19
  refine s_lt 15 rfl rfl rfl rfl ?_
  refine SX.next ?_
  refine CW.seq ?_
  refine CW.test rfl (fun hc => ?_) (fun hc => ?_)
  · skip
    have hi2 : i < l.length := by omega
    have hsn := tl_snoc (lowL m (l.take i)) (lo m (l.getD i 0))
    rw [← lowL_take m l hi2] at hsn
    have hli : (lowL m (l.take i)).length = i := by rw [lowL_len, List.length_take]; omega
    refine CW.skip ?_
    refine KN.code ?_
    refine CW.seq ?_
    refine CW.block ?_
    refine CW.seq ?_
    refine CW.reg [0, 1, 2, 3, 4] rfl ?_   -- 5, fieldpoly.go:19
    refine s_mv 16 rfl rfl ?_
    refine s_iaV 17 i (fun w hw => hw.old ha) rfl rfl rfl rfl hi2 ?_
    refine s_ldV 18 (fun w hw => hw.old ha) rfl rfl (by rw [Nat.mul_one]; exact intsAt hi2) (by omega) ?_
    refine s_as 7 rfl rfl ?_
    refine s_as 8 rfl rfl ?_
    refine SX.next ?_
    refine CW.seq ?_
    refine CW.reg [0, 1, 2, 3, 4, 5, 6, 7, 8, 9] rfl ?_   -- 6, fieldpoly.go:20
    refine s_mv 19 rfl rfl ?_
    refine s_mv 20 rfl rfl ?_
    refine s_mv 21 rfl rfl ?_
    refine s_nil 22 rfl rfl ?_
    refine s_fa 23 rfl rfl ?_
    refine s_ld 24 rfl rfl (fun _ h => h.cell hrc) ?_
    refine s_mv 25 rfl rfl ?_
    refine s_call1 26 rfl rfl rfl rfl (v := .int .i64 (lo m (l.getD i 0) : Nat)) (fun w hw => by have := add_spec g m (l.getD i 0) 0 w hm (hw.old hf); rw [lo_zero, Nat.xor_zero] at this; exact this) (fun _ _ => trivial) ?_
    refine s_ia0 27 i rfl rfl rfl rfl hi2 ?_
    refine s_stB 0 rfl rfl rfl rfl rfl (by rw [trimC_size]; exact hi2) (fun _ _ => trivial) ?_
    refine SX.next ?_
    refine CW.seq ?_
    refine CW.reg [0, 1, 2, 3, 4] rfl ?_   -- 7, fieldpoly.go:20
    refine s_mv 28 rfl rfl ?_
    refine s_mv 29 rfl rfl ?_
    refine s_ia0 30 i rfl rfl rfl rfl hi2 ?_
    refine s_ldB 31 0 rfl rfl rfl (by rw [trimC_set]; exact trimC_at m l (Nat.lt_succ_self i) hi2) ?_
    refine s_ne 32 rfl rfl rfl rfl ?_
    refine SX.next ?_
    refine CW.test rfl (fun hc => ?_) (fun hc => ?_)
    · skip
      refine CW.reg [0, 1, 2] rfl ?_   -- 8, fieldpoly.go:21
      refine s_mv 33 rfl rfl ?_
      refine s_add 34 rfl rfl rfl (r := ((i + 1 : Nat) : Int)) (w64 (by omega)) ?_
      refine s_as 6 rfl rfl ?_
      refine SX.end_ ?_
      refine KN.blk ?_
      refine KN.code ?_
      refine CW.reg [0, 1] rfl ?_   -- 9, fieldpoly.go:19
      refine s_add 35 rfl rfl rfl (r := ((i + 1 : Nat) : Int)) (w64 (by omega)) ?_
      refine s_mv 14 rfl rfl ?_
      refine SX.end_ ?_
      exact KN.back (i + 1, i + 1) ⟨rfl, rfl, rfl, rfl, rfl, rfl, trivial⟩ (fun _ h => by rw [← trimC_set]; exact h) ⟨hi2, by rw [hsn, if_neg (by omega), hli]⟩ (by simp only; omega)
    · skip
      refine CW.skip ?_
      refine KN.blk ?_
      refine KN.code ?_
      refine CW.reg [0, 1] rfl ?_   -- 9, fieldpoly.go:19
      refine s_add 35 rfl rfl rfl (r := ((i + 1 : Nat) : Int)) (w64 (by omega)) ?_
      refine s_mv 14 rfl rfl ?_
      refine SX.end_ ?_
      exact KN.back (i + 1, k) ⟨rfl, rfl, rfl, rfl, rfl, rfl, trivial⟩ (fun _ h => by rw [← trimC_set]; exact h) ⟨hi2, by rw [hsn, if_pos (by omega)]; exact hk⟩ (by simp only; omega)
  · skip
    obtain rfl : i = l.length := by omega
    rw [List.take_length] at hk
    have htt := trim_length (lowL m l)
    refine CW.exit rfl ?_
    refine KN.code ?_
    refine CW.seq ?_
    refine CW.reg [0, 1, 2, 3, 4] rfl ?_   -- 10, fieldpoly.go:24
    refine s_mv 36 rfl rfl ?_
    refine s_mv 37 rfl rfl ?_
    refine s_slH 38 (trim (lowL m l)).length rfl rfl rfl (by rw [hk, htt]) (by omega) ?_
    refine s_app0 39 rfl rfl rfl (ys := nats .i64 (trim (lowL m l))) (fun w hw => Has.cong (((hw.has (i := 0) rfl).blk_sl (m := l.length) (by rw [trimC_size, Nat.mul_one])).sl_take (by omega)) (trimC_take m l)) (nats_one _ _) rfl (by omega) (by unfold maxLen; omega) (by omega) (fun _ _ _ _ => trivial) (fun A2 c2 hc2 => ?_)
    refine s_as 4 rfl rfl ?_
    refine SX.next ?_
    refine CW.ret ?_
    exact KN.ret (rs := [.tmp 4]) Tryd.results47 rfl (fun w hw => ⟨(A2, c2), rfl, hc2, hw.pick [0] rfl⟩)

/-! ### Tables -/
/-- The numbers F 0, F 1 .. -/
def tab (n : Nat) (F : Nat → Int) : List Int := (List.range n).map F
theorem tab_len (n : Nat) (F : Nat → Int) : (tab n F).length = n := by simp [tab]
theorem tab_cong {n : Nat} {F G : Nat → Int} (h : ∀ j, j < n → F j = G j) : tab n F = tab n G := by
  unfold tab
  apply List.map_congr_left
  intro j hj
  exact h j (List.mem_range.1 hj)
theorem tab_getD (n : Nat) (F : Nat → Int) (j : Nat) : (tab n F).getD j 0 = if j < n then F j else 0 := by
  unfold tab
  by_cases h : j < n <;> simp [h]
theorem tab_of (l : List Int) : tab l.length (fun j => l.getD j 0) = l := by
  apply List.ext_getElem?
  intro j
  unfold tab
  by_cases h : j < l.length <;> simp [h]
theorem tab_at {k : IntKind} {n j : Nat} {F : Nat → Int} (h : j < n) : (ints k (tab n F))[j]? = some (.int k (F j)) := by
  rw [intsAt (by rw [tab_len]; exact h), tab_getD, if_pos h]
theorem tab_atA {k : IntKind} {n j : Nat} {F : Nat → Int} (h : j < n) : (ints k (tab n F)).toArray[j]? = some (.int k (F j)) := by
  rw [List.getElem?_toArray]; exact tab_at h
theorem tab_size {k : IntKind} {n : Nat} {F : Nat → Int} : (ints k (tab n F)).toArray.size = n := by simp [ints, tab]
theorem tab_setL {k : IntKind} {n i : Nat} {F : Nat → Int} (z : Int) : (ints k (tab n F)).set i (.int k z) = ints k (tab n (fun j => if j = i then z else F j)) := by
  unfold ints tab
  apply List.ext_getElem?
  intro j
  rw [List.getElem?_set]
  by_cases hj : j < n
  · by_cases hij : i = j
    · subst hij; simp [hj]
    · simp [hj, hij, Ne.symm hij]
  · by_cases hij : i = j
    · subst hij; simp [hj]
    · simp [hj, hij]
theorem tab_set {k : IntKind} {n i : Nat} {F : Nat → Int} (z : Int) : (ints k (tab n F)).toArray.setIfInBounds i (.int k z) = (ints k (tab n (fun j => if j = i then z else F j))).toArray := by
  rw [List.setIfInBounds_toArray, tab_setL]
theorem tab_zero (k : IntKind) (n : Nat) : (List.replicate n (.int k 0)).toArray = (ints k (tab n (fun _ => 0))).toArray := by
  congr 1
  unfold ints tab
  apply List.ext_getElem?
  intro j
  by_cases h : j < n <;> simp [h]
theorem tab_nats (n : Nat) (f : Nat → Nat) : ints .i64 (tab n (fun j => (f j : Nat))) = nats .i64 ((List.range n).map f) := by
  simp [ints, tab, nats]
theorem trim_tab (m n : Nat) (F : Nat → Int) : trim (lowL m (tab n F)) = pl n (fun j => lo m (F j)) := by
  unfold pl lowL tab
  rw [List.map_map]
  rfl
theorem trim_low (m : Nat) (l : List Int) : trim (lowL m l) = pl l.length (fun j => lo m (l.getD j 0)) := by
  conv => lhs; rw [← tab_of l]
  exact trim_tab m _ _
/-- The sum of two. -/
def addP (a b : List Nat) : List Nat := pl (max a.length b.length) (fun j => cf a j ^^^ cf b j)
theorem addP_comm (a b : List Nat) : addP a b = addP b a := by
  unfold addP
  rw [Nat.max_comm]
  congr 1
  funext j
  exact Nat.xor_comm _ _
theorem cf_addP (a b : List Nat) (j : Nat) : cf (addP a b) j = cf a j ^^^ cf b j := by
  unfold addP
  rw [cf_pl]
  split
  · rfl
  · rw [cf_out (by omega), cf_out (by omega)]; rfl
def addF (l l2 : List Int) (i : Nat) (j : Nat) : Int := if j < i then ibit .xor .i64 (l.getD j 0) (l2.getD j 0) else l.getD j 0
theorem add_all {m : Nat} (hm : Ok m) (l l2 : List Int) (h : l2.length ≤ l.length) : trim (lowL m (tab l.length (addF l l2 l2.length))) = addP (lowL m l) (lowL m l2) := by
  rw [trim_tab]
  unfold addP
  refine pl_eq (fun j => ?_)
  rw [lowL_len, lowL_len, Nat.max_eq_left h, cf_low, cf_low]
  split
  · unfold addF
    split
    · exact lo_xor hm _ _
    · rw [show l2.getD j 0 = 0 by simp [List.getElem?_eq_none (show l2.length ≤ j by omega)], lo_zero, Nat.xor_zero]
  · rfl
theorem addF_next (l l2 : List Int) (i : Nat) : (fun j => if j = i then ibit .xor .i64 (l.getD i 0) (l2.getD i 0) else addF l l2 i j) = addF l l2 (i + 1) := by
  funext j
  unfold addF
  by_cases h : j = i
  · subst h; simp
  · rw [if_neg h]
    by_cases h2 : j < i
    · rw [if_pos h2, if_pos (by omega)]
    · rw [if_neg h2, if_neg (by omega)]
/-- A list in memory. -/
structure SlG where
  A : Option Addr
  c : Nat
  l : List Int
structure AddG (w : World) (m : Nat) (a b : List Int) (q : SlG × SlG) : Prop where
  h1 : Has (sl 1 q.1.A q.1.l.length (ints .i64 q.1.l)) w
  h2 : Has (sl 1 q.2.A q.2.l.length (ints .i64 q.2.l)) w
  le : q.2.l.length ≤ q.1.l.length
  bd : q.1.l.length ≤ 4294967296
  eq : addP (lowL m q.1.l) (lowL m q.2.l) = addP (lowL m a) (lowL m b)

theorem degree_spec (r g m : Nat) (A : Option Addr) (n c : Nat) (l : List Int) (w : World) (hm : Ok m) (hr : Has (ringA r g m) w) (ha : Has (sl 1 A n (ints .i64 l)) w) (hn : n ≤ 4294967296) : Spec1 Tryd.prog 45 [.pointer (some ⟨r, 0, none⟩), .slice A n c] w (.int .i64 ((tl (lowL m l) : Nat) - 1)) := by
  have hla := ints_len ha
  have htl := tl_le (lowL m l)
  have hll := lowL_len m l
  have htt := trim_length (lowL m l)
  refine spec_of Tryd.func45 rfl Tryd.ntmps45 rfl ?_
  refine CW.seq ?_
  refine CW.reg [0] rfl ?_   -- 0, fieldpoly.go:28
  refine s_as 4 rfl rfl ?_
  refine SX.next ?_
  refine CW.seq ?_
  refine CW.reg [0, 1, 2, 3, 4, 5] rfl ?_   -- 1, fieldpoly.go:28
  refine s_mv 5 rfl rfl ?_
  refine s_mv 6 rfl rfl ?_
  refine s_call 7 rfl rfl rfl rfl (fun w hw => trim_spec r g m A n c l w hm (hw.old hr) (hw.old ha) hn) (fun _ _ => trivial) (fun q hq => ?_)
  refine s_len 8 rfl rfl ?_
  refine s_sub 9 rfl rfl rfl (r := ((tl (lowL m l) : Nat) : Int) - 1) (by rw [htt]; exact w64 (by omega)) ?_
  refine s_as 4 rfl rfl ?_
  refine SX.next ?_
  refine CW.ret ?_
  exact KN.ret (rs := [.tmp 4]) Tryd.results45 rfl (fun w hw => ⟨rfl, hw.nothing⟩)

theorem padd_spec (r g m : Nat) (A : Option Addr) (n c : Nat) (l : List Int) (B : Option Addr) (k d : Nat) (l2 : List Int) (w : World) (hm : Ok m) (hr : Has (ringA r g m) w) (ha : Has (sl 1 A n (ints .i64 l)) w) (hb : Has (sl 1 B k (ints .i64 l2)) w) (hn : n ≤ 4294967296) (hk : k ≤ 4294967296) : SpecL Tryd.prog 58 [.pointer (some ⟨r, 0, none⟩), .slice A n c, .slice B k d] w (addP (lowL m l) (lowL m l2)) := by
  obtain ⟨hrc, hf⟩ := ring_at hr
  have hla := ints_len ha
  subst hla
  have hlb := ints_len hb
  subst hlb
  refine spec_of Tryd.func58 rfl Tryd.ntmps58 rfl ?_
  refine CW.seq ?_
  refine CW.reg [0] rfl ?_   -- 0, fieldpoly.go:31
  refine s_as 6 rfl rfl ?_
  refine SX.next ?_
  refine CW.cut (G := SlG × SlG) (fun q => [(0, .pointer (some ⟨r, 0, none⟩)), (1, .slice q.1.A q.1.l.length q.1.c), (2, .slice q.2.A q.2.l.length q.2.c)]) (fun _ => Sto w []) (AddG w m l l2) ?_ ?_
  · skip
    refine CW.seq ?_
    refine CW.reg [0, 1, 2, 3, 4] rfl ?_   -- 1, fieldpoly.go:32
    refine s_mv 10 rfl rfl ?_
    refine s_len 11 rfl rfl ?_
    refine s_mv 12 rfl rfl ?_
    refine s_len 13 rfl rfl ?_
    refine s_lt 14 rfl rfl rfl rfl ?_
    refine SX.next ?_
    refine CW.test rfl (fun hc => ?_) (fun hc => ?_)
    · skip
      refine CW.reg [0, 1, 2, 3] rfl ?_   -- 2, fieldpoly.go:33
      refine s_mv 15 rfl rfl ?_
      refine s_mv 16 rfl rfl ?_
      refine s_as 1 rfl rfl ?_
      refine s_as 2 rfl rfl ?_
      refine SX.end_ ?_
      exact KN.join (⟨B, d, l2⟩, ⟨A, c, l⟩) ⟨rfl, rfl, rfl, trivial⟩ (fun _ h => h) ⟨hb, ha, by simp only; omega, hk, addP_comm _ _⟩
    · skip
      refine CW.skip ?_
      exact KN.join (⟨A, c, l⟩, ⟨B, d, l2⟩) ⟨rfl, rfl, rfl, trivial⟩ (fun _ h => h) ⟨ha, hb, by simp only; omega, hn, rfl⟩
  · skip
    rintro ⟨⟨A3, c3, l3⟩, ⟨A4, c4, l4⟩⟩ ⟨h3, h4, hle, hbd, heq⟩
    simp only at h3 h4 hle hbd heq
    refine CW.seq ?_
    refine CW.reg [0, 1, 2] rfl ?_   -- 3, fieldpoly.go:35
    refine s_mv 17 rfl rfl ?_
    refine s_app0 18 (m2 := l3.length) rfl rfl rfl (ys := ints .i64 l3) (fun w hw => hw.old h3) (ints_one _ _) rfl (by omega) (by unfold maxLen; omega) (by omega) (fun _ _ _ _ => trivial) (fun A2 c2 hc2 => ?_)
    refine s_as 7 rfl rfl ?_
    refine SX.next ?_
    refine CW.seq ?_
    refine CW.seq ?_
    refine CW.reg [0, 1, 2] rfl ?_   -- 4, fieldpoly.go:36
    refine s_mv 19 rfl rfl ?_
    refine s_len 20 rfl rfl ?_
    refine s_mv 21 rfl rfl ?_
    refine SX.next ?_
    refine CW.block ?_
    refine CW.loop (G := Nat) (fun i => [(0, .pointer (some ⟨r, 0, none⟩)), (7, .slice A2 l3.length c2), (19, .slice A4 l4.length c4), (20, .int .i64 (l4.length : Nat)), (21, .int .i64 (i : Nat))]) (fun i => Sto w [own 3 1 A2 l3.length c2 (ints .i64 (tab l3.length (addF l3 l4 i)))]) (fun i => i ≤ l4.length) (fun i => l4.length - i) 0 ⟨rfl, rfl, rfl, rfl, rfl, trivial⟩ (fun _ h => by rw [show tab l3.length (addF l3 l4 0) = l3 from tab_of l3]; exact h) (Nat.zero_le _) ?_
    intro i hi
    refine CW.seq ?_
    refine CW.reg [0] rfl ?_   -- 5, fieldpoly.go:36
    refine s_lt 22 rfl rfl rfl rfl ?_
    refine SX.next ?_
    refine CW.seq ?_
    refine CW.test rfl (fun hc => ?_) (fun hc => ?_)
    · skip
      refine CW.skip ?_
      refine KN.code ?_
      refine CW.seq ?_
      refine CW.block ?_
      refine CW.seq ?_
      refine CW.reg [0, 1, 2, 3, 4] rfl ?_   -- 6, fieldpoly.go:36
      refine s_mv 23 rfl rfl ?_
      refine s_iaV 24 i (fun w hw => hw.old h4) rfl rfl rfl rfl (by omega) ?_
      refine s_ldV 25 (fun w hw => hw.old h4) rfl rfl (by rw [Nat.mul_one]; exact intsAt (by omega)) (by omega) ?_
      refine s_as 8 rfl rfl ?_
      refine s_as 9 rfl rfl ?_
      refine SX.next ?_
      refine CW.reg [0, 1, 2, 3, 4, 5, 6, 7] rfl ?_   -- 7, fieldpoly.go:37
      refine s_mv 26 rfl rfl ?_
      refine s_mv 27 rfl rfl ?_
      refine s_iaO 28 0 i rfl rfl rfl rfl rfl (by omega) ?_
      refine s_ldO 29 0 rfl rfl rfl (v := .int .i64 (l3.getD i 0)) (by rw [tab_at (by omega), addF, if_neg (by omega)]) ?_
      refine s_mv 30 rfl rfl ?_
      refine s_bit 31 rfl rfl rfl rfl rfl ?_
      refine s_iaO 32 0 i rfl rfl rfl rfl rfl (by omega) ?_
      refine s_stO 0 rfl rfl rfl rfl rfl (by omega) (fun _ _ => trivial) ?_
      refine SX.end_ ?_
      refine KN.blk ?_
      refine KN.code ?_
      refine CW.reg [0, 1] rfl ?_   -- 8, fieldpoly.go:36
      refine s_add 33 rfl rfl rfl (r := ((i + 1 : Nat) : Int)) (w64 (by omega)) ?_
      refine s_mv 21 rfl rfl ?_
      refine SX.end_ ?_
      exact KN.back (i + 1) ⟨rfl, rfl, rfl, rfl, rfl, trivial⟩ (fun _ h => by rw [← addF_next, ← tab_setL]; exact h) (by omega) (by omega)
    · skip
      obtain rfl : i = l4.length := by omega
      refine CW.exit rfl ?_
      refine KN.code ?_
      refine CW.seq ?_
      refine CW.reg [0, 1, 2, 3] rfl ?_   -- 9, fieldpoly.go:39
      refine s_mv 34 rfl rfl ?_
      refine s_mv 35 rfl rfl ?_
      refine s_call 36 rfl rfl rfl rfl (fun w hw => by have := trim_spec r g m A2 l3.length c2 (tab l3.length (addF l3 l4 l4.length)) w hm (hw.old hr) (hw.has (i := 0) rfl).of_own (by omega); rw [add_all hm l3 l4 hle, heq] at this; exact this) (fun _ _ => trivial) (fun q hq => ?_)
      refine s_as 6 rfl rfl ?_
      refine SX.next ?_
      refine CW.ret ?_
      exact KN.ret (rs := [.tmp 6]) Tryd.results58 rfl (fun w hw => ⟨q, rfl, hq, hw.pick [0] rfl⟩)

/-- Each coefficient times x. -/
def scaleP (m : Nat) (a : List Nat) (x : Nat) : List Nat := pl a.length (fun j => gm m (cf a j) x)
theorem cf_scaleP (m : Nat) (a : List Nat) (x j : Nat) : cf (scaleP m a x) j = gm m (cf a j) x := by
  unfold scaleP
  rw [cf_pl]
  split
  · rfl
  · rw [cf_out (by omega), gm_zero_left]
def scaleF (m : Nat) (l : List Int) (x i j : Nat) : Int := ((if j < i then gm m (lo m (l.getD j 0)) x else 0 : Nat) : Int)
theorem scaleF_next (m : Nat) (l : List Int) (x i : Nat) : (fun j => if j = i then ((gm m (lo m (l.getD i 0)) x : Nat) : Int) else scaleF m l x i j) = scaleF m l x (i + 1) := by
  funext j
  unfold scaleF
  by_cases h : j = i
  · subst h; simp
  · rw [if_neg h]
    by_cases h2 : j < i
    · rw [if_pos h2, if_pos (by omega)]
    · rw [if_neg h2, if_neg (by omega)]
theorem scale_all {m : Nat} (hm : Ok m) (l : List Int) (x : Nat) : trim (lowL m (tab l.length (scaleF m l x l.length))) = scaleP m (lowL m l) x := by
  rw [trim_tab]
  unfold scaleP
  refine pl_eq (fun j => ?_)
  rw [lowL_len, cf_low]
  split
  · unfold scaleF
    rw [if_pos (by assumption), lo_nat (gm_lt hm (lo_lt m _) x)]
  · rfl

theorem scale_spec (r g m : Nat) (A : Option Addr) (n c : Nat) (l : List Int) (x : Int) (w : World) (hm : Ok m) (hr : Has (ringA r g m) w) (ha : Has (sl 1 A n (ints .i64 l)) w) (hn : n ≤ 4294967296) : SpecL Tryd.prog 48 [.pointer (some ⟨r, 0, none⟩), .slice A n c, .int .i64 x] w (scaleP m (lowL m l) (lo m x)) := by
  obtain ⟨hrc, hf⟩ := ring_at hr
  have hla := ints_len ha
  subst hla
  refine spec_of Tryd.func48 rfl Tryd.ntmps48 rfl ?_
  refine CW.seq ?_
  refine CW.reg [0] rfl ?_   -- 0, fieldpoly.go:43
  refine s_as 6 rfl rfl ?_
  refine SX.next ?_
  refine CW.seq ?_
  refine CW.reg [0, 1, 2, 3] rfl ?_   -- 1, fieldpoly.go:44
  refine s_mv 10 rfl rfl ?_
  refine s_len 11 rfl rfl ?_
  refine s_make 12 l.length rfl rfl rfl rfl rfl (by omega) (fun _ _ => trivial) (fun gs => ?_)
  refine s_as 7 rfl rfl ?_
  refine SX.next ?_
  refine CW.seq ?_
  refine CW.seq ?_
  refine CW.reg [0, 1, 2] rfl ?_   -- 2, fieldpoly.go:45
  refine s_mv 13 rfl rfl ?_
  refine s_len 14 rfl rfl ?_
  refine s_mv 15 rfl rfl ?_
  refine SX.next ?_
  refine CW.block ?_
  refine CW.loop (G := Nat) (fun i => [(0, .pointer (some ⟨r, 0, none⟩)), (2, .int .i64 x), (7, .slice (some ⟨gs, 0, none⟩) l.length l.length), (13, .slice A l.length c), (14, .int .i64 (l.length : Nat)), (15, .int .i64 (i : Nat))]) (fun i => Sto w [blk gs 3 (ints .i64 (tab l.length (scaleF m l (lo m x) i))).toArray]) (fun i => i ≤ l.length) (fun i => l.length - i) 0 ⟨rfl, rfl, rfl, rfl, rfl, rfl, trivial⟩ (fun _ h => by rw [show tab l.length (scaleF m l (lo m x) 0) = tab l.length (fun _ => 0) from tab_cong (fun j _ => by simp [scaleF]), ← tab_zero]; exact h) (Nat.zero_le _) ?_
  intro i hi
  refine CW.seq ?_
  refine CW.reg [0] rfl ?_   -- 3, fieldpoly.go:45
  refine s_lt 16 rfl rfl rfl rfl ?_
  refine SX.next ?_
  refine CW.seq ?_
  refine CW.test rfl (fun hc => ?_) (fun hc => ?_)
  · skip
    refine CW.skip ?_
    refine KN.code ?_
    refine CW.seq ?_
    refine CW.block ?_
    refine CW.seq ?_
    refine CW.reg [0, 1, 2, 3, 4] rfl ?_   -- 4, fieldpoly.go:45
    refine s_mv 17 rfl rfl ?_
    refine s_iaV 18 i (fun w hw => hw.old ha) rfl rfl rfl rfl (by omega) ?_
    refine s_ldV 19 (fun w hw => hw.old ha) rfl rfl (by rw [Nat.mul_one]; exact intsAt (by omega)) (by omega) ?_
    refine s_as 8 rfl rfl ?_
    refine s_as 9 rfl rfl ?_
    refine SX.next ?_
    refine CW.reg [0, 1, 2, 3, 4, 5, 6, 7, 8, 9, 10] rfl ?_   -- 5, fieldpoly.go:46
    refine s_mv 20 rfl rfl ?_
    refine s_mv 21 rfl rfl ?_
    refine s_mv 22 rfl rfl ?_
    refine s_nil 23 rfl rfl ?_
    refine s_fa 24 rfl rfl ?_
    refine s_ld 25 rfl rfl (fun _ h => h.cell hrc) ?_
    refine s_mv 26 rfl rfl ?_
    refine s_mv 27 rfl rfl ?_
    refine s_call1 28 rfl rfl rfl rfl (fun w hw => mul_spec g m _ _ w hm (hw.old hf)) (fun _ _ => trivial) ?_
    refine s_ia0 29 i rfl rfl rfl rfl (by omega) ?_
    refine s_stB 0 rfl rfl rfl rfl rfl (by rw [tab_size]; omega) (fun _ _ => trivial) ?_
    refine SX.end_ ?_
    refine KN.blk ?_
    refine KN.code ?_
    refine CW.reg [0, 1] rfl ?_   -- 6, fieldpoly.go:45
    refine s_add 30 rfl rfl rfl (r := ((i + 1 : Nat) : Int)) (w64 (by omega)) ?_
    refine s_mv 15 rfl rfl ?_
    refine SX.end_ ?_
    exact KN.back (i + 1) ⟨rfl, rfl, rfl, rfl, rfl, rfl, trivial⟩ (fun _ h => by rw [← scaleF_next, ← tab_set]; exact h) (by omega) (by omega)
  · skip
    obtain rfl : i = l.length := by omega
    refine CW.exit rfl ?_
    refine KN.code ?_
    refine CW.seq ?_
    refine CW.reg [0, 1, 2, 3] rfl ?_   -- 7, fieldpoly.go:48
    refine s_mv 31 rfl rfl ?_
    refine s_mv 32 rfl rfl ?_
    refine s_call 33 rfl rfl rfl rfl (fun w hw => by have := trim_spec r g m (some ⟨gs, 0, none⟩) l.length l.length (tab l.length (scaleF m l (lo m x) l.length)) w hm (hw.old hr) (Has.cong ((hw.has (i := 0) rfl).blk_sl (m := l.length) (by exact tab_size.trans (Nat.mul_one _).symm)) rfl) (by omega); rw [scale_all hm] at this; exact this) (fun _ _ => trivial) (fun q hq => ?_)
    refine s_as 6 rfl rfl ?_
    refine SX.next ?_
    refine CW.ret ?_
    exact KN.ret (rs := [.tmp 6]) Tryd.results48 rfl (fun w hw => ⟨q, rfl, hq, hw.pick [0] rfl⟩)

/-! ### Values -/
/-- The value at x, from the highest coefficient down. -/
def evL (m : Nat) : List Nat → Nat → Nat
  | [], _ => 0
  | a :: r, x => gm m (evL m r x) x ^^^ a
theorem evL_lt {m : Nat} (h : Ok m) (x : Nat) : ∀ {l : List Nat}, (∀ a ∈ l, a < 2 ^ m) → evL m l x < 2 ^ m
  | [], _ => Nat.two_pow_pos m
  | a :: _, hl => xor_lt (gm_lt h (evL_lt h x (fun b hb => hl b (List.mem_cons_of_mem a hb))) x) (hl a List.mem_cons_self)
theorem low_drop {m : Nat} {l : List Int} {j : Nat} (h0 : 0 < j) (hj : j ≤ l.length) : (lowL m l).drop (j - 1) = lo m (l.getD (j - 1) 0) :: (lowL m l).drop j := by
  rw [List.drop_eq_getElem_cons (by rw [lowL_len]; omega), show j - 1 + 1 = j by omega]
  congr 1
  simp [lowL, show j - 1 < l.length by omega]
theorem lo_one {m : Nat} (hm : Ok m) : lo m 1 = 1 := lo_nat (x := 1) (one_lt hm)
theorem lo_xorN {m : Nat} (hm : Ok m) {a : Nat} (ha : a < 2 ^ m) (b : Int) : lo m (ibit .xor .i64 (a : Nat) b) = a ^^^ lo m b := by
  rw [lo_xor hm, lo_nat ha]

theorem value_spec (g m : Nat) (A : Option Addr) (n c : Nat) (l : List Int) (x : Int) (w : World) (hm : Ok m) (hf : Has (fieldA g m) w) (ha : Has (sl 1 A n (ints .i64 l)) w) (hn : n ≤ 4294967296) : Spec1 Tryd.prog 85 [.slice A n c, .int .i64 x, .func (.func 24) #[.pointer (some ⟨g, 0, none⟩)] #[]] w (.int .i64 (evL m (lowL m l) (lo m x) : Nat)) := by
  have hla := ints_len ha
  subst hla
  have hlen := lowL_len m l
  refine spec_of Tryd.func85 rfl Tryd.ntmps85 rfl ?_
  refine CW.seq ?_
  refine CW.reg [0] rfl ?_   -- 0, fieldpoly.go:90
  refine s_as 6 rfl rfl ?_
  refine SX.next ?_
  refine CW.seq ?_
  refine CW.reg [0] rfl ?_   -- 1, fieldpoly.go:91
  refine s_as 7 rfl rfl ?_
  refine SX.next ?_
  refine CW.seq ?_
  refine CW.seq ?_
  refine CW.reg [0, 1, 2, 3] rfl ?_   -- 2, fieldpoly.go:92
  refine s_mv 9 rfl rfl ?_
  refine s_len 10 rfl rfl ?_
  refine s_sub 11 rfl rfl rfl (w64 (by omega)) ?_
  refine s_as 8 rfl rfl ?_
  refine SX.next ?_
  refine CW.block ?_
  refine CW.loop (G := Nat × Int) (fun q => [(0, .slice A l.length c), (1, .int .i64 x), (2, .func (.func 24) #[.pointer (some ⟨g, 0, none⟩)] #[]), (7, .int .i64 q.2), (8, .int .i64 ((q.1 : Nat) - 1))]) (fun _ => Sto w []) (fun q => q.1 ≤ l.length ∧ lo m q.2 = evL m ((lowL m l).drop q.1) (lo m x)) (fun q => q.1) (l.length, 0) ⟨rfl, rfl, rfl, rfl, rfl, trivial⟩ (fun _ h => h) ⟨Nat.le_refl _, by rw [← hlen, List.drop_length, lo_zero]; rfl⟩ ?_
  intro q hq
  have hq1 := hq.1
  refine CW.seq ?_
  refine CW.seq ?_
  refine CW.reg [0, 1] rfl ?_   -- 3, fieldpoly.go:92
  refine s_mv 12 rfl rfl ?_
  refine s_ge 13 rfl rfl rfl rfl ?_
  refine SX.next ?_
  refine CW.test rfl (fun hc => ?_) (fun hc => ?_)
  · skip
    have h0 : 0 < q.1 := by omega
    have hdr := low_drop (m := m) h0 hq1
    refine CW.skip ?_
    refine KN.code ?_
    refine CW.seq ?_
    refine CW.block ?_
    refine CW.regD (.st true 0 (.st true 1 (.st true 2 (.st true 4 (.st true 5 (.st true 6 (.st true 7 (.st false 3 (.st true 8 (.st true 9 .done)))))))))) (Sto w []) mixed (by kernel_rfl) (fun _ h => h.drew) (fun _ h => h) ?_
    refine s_mv 16 rfl rfl ?_
    refine s_mv 17 rfl rfl ?_
    refine s_mv 18 rfl rfl ?_
    refine s_mv 20 rfl rfl ?_
    refine s_mv 21 rfl rfl ?_
    refine s_iaV 22 (q.1 - 1) (fun w hw => hw.old ha) rfl rfl rfl (by omega) (by omega) ?_
    refine s_ldVS 23 (fun w hw => hw.old ha) rfl rfl (by rw [Nat.mul_one]; exact intsAt (by omega)) (by omega) ?_
    refine s_call1 19 rfl rfl rfl rfl (fun w hw => mul_spec g m _ _ w hm (hw.old hf)) (fun _ h => h) ?_
    refine s_bit 24 rfl rfl rfl rfl rfl ?_
    refine s_as 7 rfl rfl ?_
    refine SX.end_ ?_
    refine KN.blk ?_
    refine KN.code ?_
    refine CW.reg [0, 1, 2] rfl ?_   -- 4, fieldpoly.go:92
    refine s_mv 14 rfl rfl ?_
    refine s_sub 15 rfl rfl rfl (r := ((q.1 - 1 : Nat) : Int) - 1) (by rw [show ((q.1 : Nat) : Int) - 1 - 1 = ((q.1 - 1 : Nat) : Int) - 1 by omega]; exact w64 (by omega)) ?_
    refine s_as 8 rfl rfl ?_
    refine SX.end_ ?_
    exact KN.back (q.1 - 1, ibit .xor .i64 (gm m (lo m q.2) (lo m x) : Nat) (l.getD (q.1 - 1) 0)) ⟨rfl, rfl, rfl, rfl, rfl, trivial⟩ (fun _ h => h) ⟨by simp only; omega, by simp only; rw [hdr, lo_xorN hm (gm_lt hm (lo_lt m _) _), hq.2]; rfl⟩ (by simp only; omega)
  · skip
    have hz : q.1 = 0 := by omega
    rw [hz, List.drop_zero] at hq
    refine CW.exit rfl ?_
    refine KN.code ?_
    refine CW.seq ?_
    refine CW.reg [0, 1, 2, 3] rfl ?_   -- 6, fieldpoly.go:95
    refine s_mv 25 rfl rfl ?_
    refine s_mv 26 rfl rfl ?_
    refine s_call1 27 rfl rfl rfl rfl (v := .int .i64 (evL m (lowL m l) (lo m x) : Nat)) (fun w hw => by have := mul_spec g m q.2 1 w hm (hw.old hf); rw [lo_one hm, gm_one_right hm (lo_lt m _), hq.2] at this; exact this) (fun _ _ => trivial) ?_
    refine s_as 6 rfl rfl ?_
    refine SX.next ?_
    refine CW.ret ?_
    exact KN.ret (rs := [.tmp 6]) Tryd.results85 rfl (fun w hw => ⟨rfl, hw.nothing⟩)

theorem peval_spec (r g m : Nat) (A : Option Addr) (n c : Nat) (l : List Int) (x : Int) (w : World) (hm : Ok m) (hr : Has (ringA r g m) w) (ha : Has (sl 1 A n (ints .i64 l)) w) (hn : n ≤ 4294967296) : Spec1 Tryd.prog 56 [.pointer (some ⟨r, 0, none⟩), .slice A n c, .int .i64 x] w (.int .i64 (evL m (lowL m l) (lo m x) : Nat)) := by
  obtain ⟨hrc, hf⟩ := ring_at hr
  refine spec_of Tryd.func56 rfl Tryd.ntmps56 rfl ?_
  refine CW.seq ?_
  refine CW.reg [0] rfl ?_   -- 0, fieldpoly.go:99
  refine s_as 6 rfl rfl ?_
  refine SX.next ?_
  refine CW.seq ?_
  refine CW.reg [0, 1, 2, 3, 4, 5, 6, 7, 8] rfl ?_   -- 1, fieldpoly.go:99
  refine s_mv 7 rfl rfl ?_
  refine s_mv 8 rfl rfl ?_
  refine s_mv 9 rfl rfl ?_
  refine s_nil 10 rfl rfl ?_
  refine s_fa 11 rfl rfl ?_
  refine s_ld 12 rfl rfl (fun _ h => h.cell hrc) ?_
  refine s_mkf 13 rfl rfl rfl ?_
  refine s_call1 14 rfl rfl rfl rfl (fun w hw => value_spec g m A n c l x w hm (hw.old hf) (hw.old ha) hn) (fun _ _ => trivial) ?_
  refine s_as 6 rfl rfl ?_
  refine SX.next ?_
  refine CW.ret ?_
  exact KN.ret (rs := [.tmp 6]) Tryd.results56 rfl (fun w hw => ⟨rfl, hw.nothing⟩)

/-! ### The derivative -/
theorem lo_wrap {m : Nat} (hm : Ok m) (z : Int) : lo m (IntKind.i64.wrap z) = lo m z := by
  have h2 := hm.hi
  have hd : ((2 ^ m : Nat) : Int) ∣ 18446744073709551616 := by
    have : 2 ^ m ∣ 2 ^ 64 := Nat.pow_dvd_pow 2 (by omega)
    exact Int.natCast_dvd_natCast.2 this
  have h : ∃ t : Int, IntKind.i64.wrap z = z + t * 18446744073709551616 := by
    simp only [IntKind.wrap, IntKind.signed, IntKind.bits]
    refine ⟨-((z + 9223372036854775808) / 18446744073709551616), ?_⟩
    simp
    omega
  obtain ⟨t, ht⟩ := h
  obtain ⟨u, hu⟩ := hd
  unfold lo
  rw [ht, hu, ← Int.mul_assoc, Int.mul_comm t, Int.mul_assoc, Int.add_mul_emod_self_left]
def derF (l : List Int) (j : Nat) : Int := IntKind.i64.wrap (l.getD (j + 1) 0 * (((j + 1) % 2 : Nat) : Int))
/-- The derivative. -/
def derP (a : List Nat) : List Nat := pl (a.length - 1) (fun j => if (j + 1) % 2 = 1 then cf a (j + 1) else 0)
theorem cf_derP (a : List Nat) (j : Nat) : cf (derP a) j = if (j + 1) % 2 = 1 then cf a (j + 1) else 0 := by
  unfold derP
  rw [cf_pl]
  split
  · rfl
  · rw [cf_out (by omega)]; simp
theorem der_all {m : Nat} (hm : Ok m) (l : List Int) : trim (lowL m (tab (l.length - 1) (derF l))) = derP (lowL m l) := by
  rw [trim_tab]
  unfold derP
  refine pl_eq (fun j => ?_)
  rw [lowL_len, cf_low]
  split
  · unfold derF
    rw [lo_wrap hm]
    rcases Nat.mod_two_eq_zero_or_one (j + 1) with h | h
    · rw [h]; simp [lo_zero]
    · rw [h]; simp
  · rfl
theorem tab_snoc (k : IntKind) (n : Nat) (F : Nat → Int) : ints k (tab n F) ++ [.int k (F n)] = ints k (tab (n + 1) F) := by
  simp [ints, tab, List.range_succ]

theorem derive_spec (r g m : Nat) (A : Option Addr) (n c : Nat) (l : List Int) (w : World) (hm : Ok m) (hr : Has (ringA r g m) w) (ha : Has (sl 1 A n (ints .i64 l)) w) (hn : n ≤ 4294967296) : SpecL Tryd.prog 54 [.pointer (some ⟨r, 0, none⟩), .slice A n c] w (derP (lowL m l)) := by
  obtain ⟨hrc, hf⟩ := ring_at hr
  have hla := ints_len ha
  subst hla
  refine spec_of Tryd.func54 rfl Tryd.ntmps54 rfl ?_
  refine CW.seq ?_
  refine CW.reg [0] rfl ?_   -- 0, fieldpoly.go:102
  refine s_as 4 rfl rfl ?_
  refine SX.next ?_
  refine CW.seq ?_
  refine CW.reg [0] rfl ?_   -- 1, fieldpoly.go:103
  refine s_as 5 rfl rfl ?_
  refine SX.next ?_
  refine CW.seq ?_
  refine CW.seq ?_
  refine CW.reg [0] rfl ?_   -- 2, fieldpoly.go:104
  refine s_as 6 rfl rfl ?_
  refine SX.next ?_
  refine CW.block ?_
  refine CW.loop (G := Nat × Option Addr × Nat) (fun q => [(0, .pointer (some ⟨r, 0, none⟩)), (1, .slice A l.length c), (5, .slice q.2.1 q.1 q.2.2), (6, .int .i64 ((q.1 + 1 : Nat) : Int))]) (fun q => Sto w [own 3 1 q.2.1 q.1 q.2.2 (ints .i64 (tab q.1 (derF l)))]) (fun q => q.1 ≤ l.length - 1) (fun q => l.length - q.1) (0, none, 0) ⟨rfl, rfl, rfl, rfl, trivial⟩ (fun _ h => h.begin_ _ 1) (Nat.zero_le _) ?_
  intro q hq
  refine CW.seq ?_
  refine CW.seq ?_
  refine CW.reg [0, 1, 2, 3] rfl ?_   -- 3, fieldpoly.go:104
  refine s_mv 7 rfl rfl ?_
  refine s_mv 8 rfl rfl ?_
  refine s_len 9 rfl rfl ?_
  refine s_lt 10 rfl rfl rfl rfl ?_
  refine SX.next ?_
  refine CW.test rfl (fun hc => ?_) (fun hc => ?_)
  · skip
    refine CW.skip ?_
    refine KN.code ?_
    refine CW.seq ?_
    refine CW.block ?_
    refine CW.reg [0, 1, 2, 3, 4, 5, 6, 7, 8, 9, 10] rfl ?_   -- 5, fieldpoly.go:105
    refine s_mv 13 rfl rfl ?_
    refine s_mv 14 rfl rfl ?_
    refine s_mv 15 rfl rfl ?_
    refine s_iaV 16 (q.1 + 1) (fun w hw => hw.old ha) rfl rfl rfl rfl (by omega) ?_
    refine s_ldV 17 (fun w hw => hw.old ha) rfl rfl (by rw [Nat.mul_one]; exact intsAt (by omega)) (by omega) ?_
    refine s_mv 18 rfl rfl ?_
    refine s_rem 19 rfl rfl rfl (by omega) (r := (((q.1 + 1) % 2 : Nat) : Int)) rfl ?_
    refine s_mul 20 rfl rfl rfl (r := derF l q.1) rfl ?_
    refine s_bsl 21 rfl rfl (cells := #[.int .i64 (derF l q.1)]) (by kernel_rfl) rfl (fun _ _ => trivial) (fun gb => ?_)
    refine s_app 22 1 rfl rfl rfl rfl (ys := [.int .i64 (derF l q.1)]) (fun w hw => Has.cong ((hw.has (i := 0) rfl).blk_sl (m := 1) rfl) rfl) rfl rfl (by omega) (by unfold maxLen; omega) (by omega) (fun _ _ _ _ => trivial) (fun A2 c2 hc2 => ?_)
    refine s_as 5 rfl rfl ?_
    refine SX.end_ ?_
    refine KN.blk ?_
    refine KN.code ?_
    refine CW.reg [0, 1, 2] rfl ?_   -- 4, fieldpoly.go:104
    refine s_mv 11 rfl rfl ?_
    refine s_add 12 rfl rfl rfl (r := ((q.1 + 1 + 1 : Nat) : Int)) (w64 (by omega)) ?_
    refine s_as 6 rfl rfl ?_
    refine SX.end_ ?_
    exact KN.back (q.1 + 1, A2, c2) ⟨rfl, rfl, rfl, rfl, trivial⟩ (fun _ h => by simp only; rw [← tab_snoc]; exact h.pick [1] rfl) (by simp only; omega) (by simp only; omega)
  · skip
    have he : trim (lowL m (tab q.1 (derF l))) = derP (lowL m l) := by rw [show q.1 = l.length - 1 by omega]; exact der_all hm l
    refine CW.exit rfl ?_
    refine KN.code ?_
    refine CW.seq ?_
    refine CW.reg [0, 1, 2, 3] rfl ?_   -- 6, fieldpoly.go:107
    refine s_mv 23 rfl rfl ?_
    refine s_mv 24 rfl rfl ?_
    refine s_call 25 rfl rfl rfl rfl (fun w hw => by have := trim_spec r g m q.2.1 q.1 q.2.2 (tab q.1 (derF l)) w hm (hw.old hr) (hw.has (i := 0) rfl).of_own (by omega); rw [he] at this; exact this) (fun _ _ => trivial) (fun q2 hq2 => ?_)
    refine s_as 4 rfl rfl ?_
    refine SX.next ?_
    refine CW.ret ?_
    exact KN.ret (rs := [.tmp 4]) Tryd.results54 rfl (fun w hw => ⟨q2, rfl, hq2, hw.pick [0] rfl⟩)

/-! ### Products -/
/-- A coefficient of the product. -/
def cv (m : Nat) (f g : Nat → Nat) (j : Nat) : Nat := xs (fun i => gm m (f i) (g (j - i))) (j + 1)
/-- The product. -/
def mulP (m : Nat) (a b : List Nat) : List Nat := pl (a.length + b.length - 1) (fun j => cv m (cf a) (cf b) j)
def rowF (m : Nat) (a b : List Nat) (j i : Nat) : Nat := if i ≤ j then gm m (cf a i) (cf b (j - i)) else 0
def mulF (m : Nat) (a b : List Nat) (i k : Nat) (j : Nat) : Int := ((xs (rowF m a b j) i ^^^ (if i ≤ j ∧ j < i + k then gm m (cf a i) (cf b (j - i)) else 0) : Nat) : Int)
theorem mulF_zero (m : Nat) (a b : List Nat) (j : Nat) : mulF m a b 0 0 j = 0 := by
  unfold mulF
  rw [if_neg (by omega)]
  simp [xs]
theorem cf_lt {a : List Nat} {b : Nat} (h : ∀ x ∈ a, x < b) (hb : 0 < b) (j : Nat) : cf a j < b := by
  by_cases hj : j < a.length
  · exact h _ (List.mem_of_getElem? (cf_in hj))
  · rw [cf_out (by omega)]; exact hb
theorem rowF_lt {m : Nat} (hm : Ok m) {a b : List Nat} (ha : ∀ x ∈ a, x < 2 ^ m) (j i : Nat) : rowF m a b j i < 2 ^ m := by
  unfold rowF
  split
  · exact gm_lt hm (cf_lt ha (Nat.two_pow_pos m) i) _
  · exact Nat.two_pow_pos m
theorem mulF_row (m : Nat) (a b : List Nat) (i k : Nat) (hk : b.length ≤ k) (j : Nat) : mulF m a b i k j = mulF m a b (i + 1) 0 j := by
  unfold mulF
  rw [if_neg (show ¬ (i + 1 ≤ j ∧ j < i + 1 + 0) by omega), Nat.xor_zero]
  show _ = ((xs (rowF m a b j) i ^^^ rowF m a b j i : Nat) : Int)
  unfold rowF
  by_cases h1 : i ≤ j
  · by_cases h2 : j < i + k
    · rw [if_pos ⟨h1, h2⟩, if_pos h1]
    · rw [if_neg (by omega), if_pos h1, cf_out (show b.length ≤ j - i by omega), gm_zero_right]
  · rw [if_neg (by omega), if_neg h1]
theorem mulF_bd {m : Nat} (hm : Ok m) {a b : List Nat} (ha : ∀ x ∈ a, x < 2 ^ m) (i k j : Nat) : ∃ z : Nat, z < 2 ^ m ∧ mulF m a b i k j = (z : Nat) := by
  refine ⟨_, xor_lt (xs_lt (fun i _ => rowF_lt hm ha j i)) ?_, rfl⟩
  split
  · exact gm_lt hm (cf_lt ha (Nat.two_pow_pos m) i) _
  · exact Nat.two_pow_pos m
theorem mulF_next {m : Nat} (hm : Ok m) {a b : List Nat} (ha : ∀ x ∈ a, x < 2 ^ m) (i k : Nat) : (fun j => if j = i + k then ibit .xor .i64 (mulF m a b i k (i + k)) (gm m (cf a i) (cf b k) : Nat) else mulF m a b i k j) = mulF m a b i (k + 1) := by
  funext j
  by_cases h : j = i + k
  · subst h
    rw [if_pos rfl]
    have h1 : mulF m a b i k (i + k) = (xs (rowF m a b (i + k)) i : Nat) := by
      unfold mulF
      rw [if_neg (by omega), Nat.xor_zero]
    rw [h1, ibit_xor_nat (pow63 hm (xs_lt (fun i' _ => rowF_lt hm ha (i + k) i'))) (pow63 hm (gm_lt hm (cf_lt ha (Nat.two_pow_pos m) i) _))]
    unfold mulF
    rw [if_pos (by omega), show i + k - i = k by omega]
  · rw [if_neg h]
    unfold mulF
    by_cases h2 : i ≤ j ∧ j < i + k
    · rw [if_pos h2, if_pos (by omega)]
    · rw [if_neg h2, if_neg (by omega)]
theorem mul_all {m : Nat} (hm : Ok m) {a b : List Nat} (ha : ∀ x ∈ a, x < 2 ^ m) : trim (lowL m (tab (a.length + b.length - 1) (mulF m a b a.length 0))) = mulP m a b := by
  rw [trim_tab]
  unfold mulP
  refine pl_eq (fun j => ?_)
  split
  · unfold mulF
    rw [if_neg (by omega), Nat.xor_zero, lo_nat (xs_lt (fun i _ => rowF_lt hm ha j i))]
    unfold cv
    have e1 : xs (rowF m a b j) a.length = xs (rowF m a b j) (j + 1) := by
      refine xs_any (fun i hi => ?_) (fun i hi => ?_)
      · unfold rowF
        rw [cf_out hi, gm_zero_left]
        simp
      · unfold rowF
        rw [if_neg (by omega)]
    rw [e1]
    exact xs_congr (fun i hi => by unfold rowF; rw [if_pos (by omega)])
  · rfl
theorem mulP_nil {m : Nat} {a b : List Nat} (h : a.length = 0 ∨ b.length = 0) : mulP m a b = [] := by
  have hz : ∀ j, cv m (cf a) (cf b) j = 0 := fun j => xs_zero (fun i _ => by
    rcases h with h | h
    · rw [cf_out (l := a) (by omega), gm_zero_left]
    · rw [cf_out (l := b) (by omega), gm_zero_right])
  have : mulP m a b = trim [] := trim_eq (fun j => by
    rw [cf_range, hz, cf_nil]
    split <;> rfl)
  exact this
theorem natsAtC {a : List Nat} {i : Nat} (h : i < a.length) : (nats .i64 a)[i]? = some (.int .i64 (cf a i : Nat)) := by
  rw [natsAt h]; rfl
theorem pmulN {g m : Nat} {w : World} {x y : Nat} (hm : Ok m) (hf : Has (fieldA g m) w) (hx : x < 2 ^ m) (hy : y < 2 ^ m) : Spec1 Tryd.prog 24 [.pointer (some ⟨g, 0, none⟩), .int .i64 (x : Nat), .int .i64 (y : Nat)] w (.int .i64 (gm m x y : Nat)) := by
  have := mul_spec g m x y w hm hf; rw [lo_nat hx, lo_nat hy] at this; exact this
theorem trimLow_lt (m : Nat) (l : List Int) : ∀ x ∈ trim (lowL m l), x < 2 ^ m := trim_lt (lowL_lt m l)
abbrev SpecLE (P : Program) (f : FuncId) (args : List Value) (w : World) (E : List Nat) : Prop :=
  SpecX P f args w (X := Option Addr × Nat) (fun q => two (.slice q.1 E.length q.2) .nilIface) (fun q => E.length ≤ q.2) (fun q => [own 3 1 q.1 E.length q.2 (nats .i64 E)])

theorem pmul_spec (r g m : Nat) (A : Option Addr) (n c : Nat) (l : List Int) (B : Option Addr) (k d : Nat) (l2 : List Int) (w : World) (hm : Ok m) (hr : Has (ringA r g m) w) (ha : Has (sl 1 A n (ints .i64 l)) w) (hb : Has (sl 1 B k (ints .i64 l2)) w) (hn : n ≤ 4294967296) (hk : k ≤ 4294967296) (hsm : (trim (lowL m l)).length + (trim (lowL m l2)).length ≤ 2048) : SpecLE Tryd.prog 42 [.pointer (some ⟨r, 0, none⟩), .slice A n c, .slice B k d] w (mulP m (trim (lowL m l)) (trim (lowL m l2))) := by
  obtain ⟨hrc, hf⟩ := ring_at hr
  have hla := ints_len ha
  subst hla
  have hlb := ints_len hb
  subst hlb
  have hA := trimLow_lt m l
  have hB := trimLow_lt m l2
  have hta := trim_length (lowL m l)
  have htb := trim_length (lowL m l2)
  have hla1 := tl_le (lowL m l)
  have hlb1 := tl_le (lowL m l2)
  have hll1 := lowL_len m l
  have hll2 := lowL_len m l2
  generalize ea : trim (lowL m l) = a at *
  generalize eb : trim (lowL m l2) = b at *
  refine spec_of Tryd.func42 rfl Tryd.ntmps42 rfl ?_
  refine CW.seq ?_
  refine CW.reg [0, 1] rfl ?_   -- 0, fieldpoly.go:52
  refine s_as 6 rfl rfl ?_
  refine s_as 7 rfl rfl ?_
  refine SX.next ?_
  refine CW.seq ?_
  refine CW.reg [0, 1, 2, 3, 4, 5, 6, 7] rfl ?_   -- 1, fieldpoly.go:53
  refine s_mv 13 rfl rfl ?_
  refine s_mv 14 rfl rfl ?_
  refine s_call 15 rfl rfl rfl rfl (fun w hw => by have := trim_spec r g m A l.length c l w hm (hw.old hr) (hw.old ha) (by omega); rw [ea] at this; exact this) (fun _ _ => trivial) (fun q1 hq1 => ?_)
  refine s_mv 16 rfl rfl ?_
  refine s_mv 17 rfl rfl ?_
  refine s_call 18 rfl rfl rfl rfl (fun w hw => by have := trim_spec r g m B l2.length d l2 w hm (hw.old hr) (hw.old hb) (by omega); rw [eb] at this; exact this) (fun _ _ => trivial) (fun q2 hq2 => ?_)
  refine s_as 1 rfl rfl ?_
  refine s_as 2 rfl rfl ?_
  refine SX.next ?_
  refine CW.seq ?_
  refine CW.block ?_
  refine CW.seq ?_
  refine CW.reg [0, 1, 2, 3, 4, 5, 6] rfl ?_   -- 2, fieldpoly.go:55
  refine s_mv 20 rfl rfl ?_
  refine s_len 21 rfl rfl ?_
  refine s_mv 22 rfl rfl ?_
  refine s_len 23 rfl rfl ?_
  refine s_add 24 rfl rfl rfl (w64 (by omega)) ?_
  refine s_gt 25 rfl rfl rfl (decide_eq_false (by omega)) ?_
  refine s_as 19 rfl rfl ?_
  refine SX.next ?_
  refine CW.condF rfl ?_
  refine CW.seq ?_
  refine CW.reg [0, 1, 2, 3, 4, 5, 6, 7, 8] rfl ?_   -- 4, fieldpoly.go:57
  refine s_mv 28 rfl rfl ?_
  refine s_len 29 rfl rfl ?_
  refine s_eq 30 rfl rfl rfl rfl ?_
  refine s_mv 31 rfl rfl ?_
  refine SX.bool 31 rfl (fun hb => ?_) (fun hb => ?_)
  · skip
    replace hb := of_decide_eq_true hb
    refine SX.skip rfl ?_
    refine SX.skip rfl ?_
    refine SX.skip rfl ?_
    refine s_pickT 35 rfl rfl rfl ?_
    refine s_as 27 rfl rfl ?_
    refine SX.next ?_
    refine CW.condT rfl ?_
    refine CW.seq ?_
    refine CW.reg [0, 1] rfl ?_   -- 5, fieldpoly.go:58
    refine s_as 6 rfl rfl ?_
    refine s_as 7 rfl rfl ?_
    refine SX.next ?_
    refine CW.ret ?_
    exact KN.ret (rs := [.tmp 6, .tmp 7]) Tryd.results42 rfl (fun w hw => ⟨(none, 0), by rw [mulP_nil (.inl (by omega))]; rfl, by rw [mulP_nil (.inl (by omega))]; exact Nat.le_refl _, by rw [mulP_nil (.inl (by omega))]; exact (hw.pick [] rfl).begin_ _ 1⟩)
  · skip
    replace hb := of_decide_eq_false hb
    refine s_mv 32 rfl rfl ?_
    refine s_len 33 rfl rfl ?_
    refine s_eq 34 rfl rfl rfl rfl ?_
    refine s_pickF 35 rfl rfl rfl ?_
    refine s_as 27 rfl rfl ?_
    refine SX.next ?_
    refine CW.test rfl (fun hc => ?_) (fun hc => ?_)
    · skip
      refine CW.seq ?_
      refine CW.reg [0, 1] rfl ?_   -- 5, fieldpoly.go:58
      refine s_as 6 rfl rfl ?_
      refine s_as 7 rfl rfl ?_
      refine SX.next ?_
      refine CW.ret ?_
      exact KN.ret (rs := [.tmp 6, .tmp 7]) Tryd.results42 rfl (fun w hw => ⟨(none, 0), by rw [mulP_nil (.inr (by omega))]; rfl, by rw [mulP_nil (.inr (by omega))]; exact Nat.le_refl _, by rw [mulP_nil (.inr (by omega))]; exact (hw.pick [] rfl).begin_ _ 1⟩)
    · skip
      refine CW.skip ?_
      refine KN.blk ?_
      refine KN.code ?_
      refine CW.seq ?_
      refine CW.reg [0, 1, 2, 3, 4, 5, 6, 7] rfl ?_   -- 6, fieldpoly.go:60
      refine s_mv 36 rfl rfl ?_
      refine s_len 37 rfl rfl ?_
      refine s_mv 38 rfl rfl ?_
      refine s_len 39 rfl rfl ?_
      refine s_add 40 rfl rfl rfl (w64 (by omega)) ?_
      refine s_sub 41 rfl rfl rfl (r := ((a.length + b.length - 1 : Nat) : Int)) (by rw [show ((a.length : Nat) : Int) + (b.length : Nat) - 1 = ((a.length + b.length - 1 : Nat) : Int) by omega]; exact w64 (by omega)) ?_
      refine s_make 42 (a.length + b.length - 1) rfl rfl rfl rfl rfl (by omega) (fun _ _ => trivial) (fun go => ?_)
      refine s_as 8 rfl rfl ?_
      refine SX.next ?_
      refine CW.seq ?_
      refine CW.seq ?_
      refine CW.reg [0, 1, 2] rfl ?_   -- 7, fieldpoly.go:61
      refine s_mv 43 rfl rfl ?_
      refine s_len 44 rfl rfl ?_
      refine s_mv 45 rfl rfl ?_
      refine SX.next ?_
      refine CW.block ?_
      refine CW.loop (G := Nat) (fun i => [(0, .pointer (some ⟨r, 0, none⟩)), (2, .slice q2.1 b.length q2.2), (8, .slice (some ⟨go, 0, none⟩) (a.length + b.length - 1) (a.length + b.length - 1)), (43, .slice q1.1 a.length q1.2), (44, .int .i64 (a.length : Nat)), (45, .int .i64 (i : Nat))]) (fun i => Sto w [blk go 3 (ints .i64 (tab (a.length + b.length - 1) (mulF m a b i 0))).toArray, own 3 1 q2.1 b.length q2.2 (nats .i64 b), own 3 1 q1.1 a.length q1.2 (nats .i64 a)]) (fun i => i ≤ a.length) (fun i => a.length - i) 0 ⟨rfl, rfl, rfl, rfl, rfl, rfl, trivial⟩ (fun _ h => by rw [show tab (a.length + b.length - 1) (mulF m a b 0 0) = tab (a.length + b.length - 1) (fun _ => 0) from tab_cong (fun j _ => mulF_zero m a b j), ← tab_zero]; exact h) (Nat.zero_le _) ?_
      intro i hi
      refine CW.seq ?_
      refine CW.reg [0] rfl ?_   -- 8, fieldpoly.go:61
      refine s_lt 46 rfl rfl rfl rfl ?_
      refine SX.next ?_
      refine CW.seq ?_
      refine CW.test rfl (fun hc => ?_) (fun hc => ?_)
      · skip
        refine CW.skip ?_
        refine KN.code ?_
        refine CW.seq ?_
        refine CW.block ?_
        refine CW.seq ?_
        refine CW.reg [0, 1, 2, 3, 4] rfl ?_   -- 9, fieldpoly.go:61
        refine s_mv 47 rfl rfl ?_
        refine s_iaO 48 2 i rfl rfl rfl rfl rfl (by omega) ?_
        refine s_ldO 49 2 rfl rfl rfl (natsAtC (by omega)) ?_
        refine s_as 9 rfl rfl ?_
        refine s_as 10 rfl rfl ?_
        refine SX.next ?_
        refine CW.seq ?_
        refine CW.reg [0, 1, 2] rfl ?_   -- 10, fieldpoly.go:62
        refine s_mv 50 rfl rfl ?_
        refine s_len 51 rfl rfl ?_
        refine s_mv 52 rfl rfl ?_
        refine SX.next ?_
        refine CW.block ?_
        refine CW.loop (G := Nat) (fun k => [(0, .pointer (some ⟨r, 0, none⟩)), (2, .slice q2.1 b.length q2.2), (8, .slice (some ⟨go, 0, none⟩) (a.length + b.length - 1) (a.length + b.length - 1)), (9, .int .i64 (i : Nat)), (10, .int .i64 (cf a i : Nat)), (43, .slice q1.1 a.length q1.2), (44, .int .i64 (a.length : Nat)), (45, .int .i64 (i : Nat)), (50, .slice q2.1 b.length q2.2), (51, .int .i64 (b.length : Nat)), (52, .int .i64 (k : Nat))]) (fun k => Sto w [blk go 3 (ints .i64 (tab (a.length + b.length - 1) (mulF m a b i k))).toArray, own 3 1 q2.1 b.length q2.2 (nats .i64 b), own 3 1 q1.1 a.length q1.2 (nats .i64 a)]) (fun k => k ≤ b.length) (fun k => b.length - k) 0 ⟨rfl, rfl, rfl, rfl, rfl, rfl, rfl, rfl, rfl, rfl, rfl, trivial⟩ (fun _ h => h) (Nat.zero_le _) ?_
        intro k hk2
        refine CW.seq ?_
        refine CW.reg [0] rfl ?_   -- 11, fieldpoly.go:62
        refine s_lt 53 rfl rfl rfl rfl ?_
        refine SX.next ?_
        refine CW.seq ?_
        refine CW.test rfl (fun hc => ?_) (fun hc => ?_)
        · skip
          refine CW.skip ?_
          refine KN.code ?_
          refine CW.seq ?_
          refine CW.block ?_
          refine CW.seq ?_
          refine CW.reg [0, 1, 2, 3, 4] rfl ?_   -- 12, fieldpoly.go:62
          refine s_mv 54 rfl rfl ?_
          refine s_iaO 55 1 k rfl rfl rfl rfl rfl (by omega) ?_
          refine s_ldO 56 1 rfl rfl rfl (natsAtC (by omega)) ?_
          refine s_as 11 rfl rfl ?_
          refine s_as 12 rfl rfl ?_
          refine SX.next ?_
          refine CW.regD (.st true 0 (.st true 1 (.st true 2 (.st true 3 (.st true 4 (.st true 6 (.st true 7 (.st true 8 (.st true 9 (.st true 10 (.st true 11 (.alt 5 (.st false 12 (.st true 13 (.st true 14 (.st false 15 .done)))) (.st false 12 (.st false 5 (.st true 13 (.st true 14 (.st false 15 .done))))))))))))))))) (Sto w []) mixed (by kernel_rfl) (fun _ h => h.drew) (fun _ h => h.pick [] rfl) ?_
          refine s_mv 57 rfl rfl ?_
          refine s_mv 58 rfl rfl ?_
          refine s_mv 59 rfl rfl ?_
          refine s_add 60 rfl rfl rfl (r := ((i + k : Nat) : Int)) (w64 (by omega)) ?_
          refine s_ia0 61 (i + k) rfl rfl rfl rfl (by omega) ?_
          refine s_mv 63 rfl rfl ?_
          refine s_nil 64 rfl rfl ?_
          refine s_fa 65 rfl rfl ?_
          refine s_ldS 66 rfl rfl (fun _ h => h.cell hrc) ?_
          refine s_mv 67 rfl rfl ?_
          refine s_mv 68 rfl rfl ?_
          refine SX.alt ?_ ?_
          · skip
            refine s_ldB 62 0 rfl rfl rfl (tab_atA (by omega)) ?_
            refine s_call1 69 rfl rfl rfl rfl (fun w hw => pmulN hm (hw.old hf) (cf_lt hA (Nat.two_pow_pos m) i) (cf_lt hB (Nat.two_pow_pos m) k)) (fun _ h => h.pick [] rfl) ?_
            refine s_bit 70 rfl rfl rfl rfl rfl ?_
            refine s_ia0 71 (i + k) rfl rfl rfl rfl (by omega) ?_
            refine s_stB 0 rfl rfl rfl rfl rfl (by rw [tab_size]; omega) (fun _ h => h.pick [] rfl) ?_
            refine SX.end_ ?_
            refine KN.blk ?_
            refine KN.code ?_
            refine CW.reg [0, 1] rfl ?_   -- 14, fieldpoly.go:62
            refine s_add 72 rfl rfl rfl (r := ((k + 1 : Nat) : Int)) (w64 (by omega)) ?_
            refine s_mv 52 rfl rfl ?_
            refine SX.end_ ?_
            exact KN.back (k + 1) ⟨rfl, rfl, rfl, rfl, rfl, rfl, rfl, rfl, rfl, rfl, rfl, trivial⟩ (fun _ h => by rw [← mulF_next hm hA, ← tab_set]; exact h) (by omega) (by omega)
          · skip
            refine s_call1 69 rfl rfl rfl rfl (fun w hw => pmulN hm (hw.old hf) (cf_lt hA (Nat.two_pow_pos m) i) (cf_lt hB (Nat.two_pow_pos m) k)) (fun _ h => h.pick [] rfl) ?_
            refine s_ldB 62 0 rfl rfl rfl (tab_atA (by omega)) ?_
            refine s_bit 70 rfl rfl rfl rfl rfl ?_
            refine s_ia0 71 (i + k) rfl rfl rfl rfl (by omega) ?_
            refine s_stB 0 rfl rfl rfl rfl rfl (by rw [tab_size]; omega) (fun _ h => h.pick [] rfl) ?_
            refine SX.end_ ?_
            refine KN.blk ?_
            refine KN.code ?_
            refine CW.reg [0, 1] rfl ?_   -- 14, fieldpoly.go:62
            refine s_add 72 rfl rfl rfl (r := ((k + 1 : Nat) : Int)) (w64 (by omega)) ?_
            refine s_mv 52 rfl rfl ?_
            refine SX.end_ ?_
            exact KN.back (k + 1) ⟨rfl, rfl, rfl, rfl, rfl, rfl, rfl, rfl, rfl, rfl, rfl, trivial⟩ (fun _ h => by rw [← mulF_next hm hA, ← tab_set]; exact h) (by omega) (by omega)
        · skip
          obtain rfl : k = b.length := by omega
          refine CW.exit rfl ?_
          refine KN.blk ?_
          refine KN.code ?_
          refine CW.reg [0, 1] rfl ?_   -- 15, fieldpoly.go:61
          refine s_add 73 rfl rfl rfl (r := ((i + 1 : Nat) : Int)) (w64 (by omega)) ?_
          refine s_mv 45 rfl rfl ?_
          refine SX.end_ ?_
          exact KN.back (i + 1) ⟨rfl, rfl, rfl, rfl, rfl, rfl, trivial⟩ (fun _ h => by rw [← tab_cong (fun j _ => mulF_row m a b i b.length (Nat.le_refl _) j)]; exact h) (by omega) (by omega)
      · skip
        obtain rfl : i = a.length := by omega
        refine CW.exit rfl ?_
        refine KN.code ?_
        refine CW.seq ?_
        refine CW.reg [0, 1, 2, 3, 4] rfl ?_   -- 16, fieldpoly.go:66
        refine s_mv 74 rfl rfl ?_
        refine s_mv 75 rfl rfl ?_
        refine s_call 76 rfl rfl rfl rfl (fun w hw => by have := trim_spec r g m (some ⟨go, 0, none⟩) (a.length + b.length - 1) (a.length + b.length - 1) (tab (a.length + b.length - 1) (mulF m a b a.length 0)) w hm (hw.old hr) (Has.cong ((hw.has (i := 0) rfl).blk_sl (m := (a.length + b.length - 1)) (by exact tab_size.trans (Nat.mul_one _).symm)) rfl) (by omega); rw [mul_all hm hA] at this; exact this) (fun _ _ => trivial) (fun q3 hq3 => ?_)
        refine s_as 6 rfl rfl ?_
        refine s_as 7 rfl rfl ?_
        refine SX.next ?_
        refine CW.ret ?_
        exact KN.ret (rs := [.tmp 6, .tmp 7]) Tryd.results42 rfl (fun w hw => ⟨q3, rfl, hq3, hw.pick [0] rfl⟩)

/-! ### Quotients -/
/-- The quotient's coefficient n. -/
noncomputable def dC (m : Nat) (b : List Nat) (R : Nat → Nat) (n : Nat) : Nat := gm m (R (n + b.length - 1)) (inv m (cf b (b.length - 1)))
/-- What is left behind it, up to coefficient n + i. -/
def dSi (m : Nat) (b : List Nat) (R : Nat → Nat) (n c i : Nat) (j : Nat) : Nat := if n ≤ j ∧ j < n + i then R j ^^^ gm m c (cf b (j - n)) else R j
noncomputable def divR (m : Nat) (b : List Nat) : Nat → (Nat → Nat) → Nat → Nat
  | 0, R => R
  | n + 1, R => divR m b n (dSi m b R n (dC m b R n) b.length)
noncomputable def divQ (m : Nat) (b : List Nat) : Nat → (Nat → Nat) → Nat → Nat
  | 0, _, _ => 0
  | n + 1, R, j => if j = n then dC m b R n else divQ m b n (dSi m b R n (dC m b R n) b.length) j
theorem divQ_hi (m : Nat) (b : List Nat) : ∀ (n : Nat) (R : Nat → Nat) (j : Nat), n ≤ j → divQ m b n R j = 0
  | 0, _, _, _ => rfl
  | n + 1, R, j, h => by
    unfold divQ
    rw [if_neg (by omega)]
    exact divQ_hi m b n _ j (by omega)
noncomputable def quotP (m : Nat) (a b : List Nat) : List Nat := pl (a.length + 1 - b.length) (divQ m b (a.length + 1 - b.length) (cf a))
noncomputable def restP (m : Nat) (a b : List Nat) : List Nat := pl a.length (divR m b (a.length + 1 - b.length) (cf a))
theorem dSi_lt {m : Nat} (hm : Ok m) {b : List Nat} {R : Nat → Nat} (hR : ∀ j, R j < 2 ^ m) {n c i : Nat} (hc : c < 2 ^ m) (j : Nat) : dSi m b R n c i j < 2 ^ m := by
  unfold dSi
  split
  · exact xor_lt (hR j) (gm_lt hm hc _)
  · exact hR j
theorem divR_lt {m : Nat} (hm : Ok m) {b : List Nat} : ∀ (n : Nat) {R : Nat → Nat}, (∀ j, R j < 2 ^ m) → ∀ j, divR m b n R j < 2 ^ m
  | 0, _, hR, j => hR j
  | n + 1, _, hR, j => divR_lt hm n (fun j => dSi_lt hm hR (gm_lt hm (hR _) _) j) j
theorem divQ_lt {m : Nat} (hm : Ok m) {b : List Nat} : ∀ (n : Nat) {R : Nat → Nat}, (∀ j, R j < 2 ^ m) → ∀ j, divQ m b n R j < 2 ^ m
  | 0, _, _, _ => Nat.two_pow_pos m
  | n + 1, R, hR, j => by
    unfold divQ
    split
    · exact gm_lt hm (hR _) _
    · exact divQ_lt hm n (fun j => dSi_lt hm hR (gm_lt hm (hR _) _) j) j
theorem dSi_zero (m : Nat) (b : List Nat) (R : Nat → Nat) (n c : Nat) : dSi m b R n c 0 = R := by
  funext j
  unfold dSi
  rw [if_neg (by omega)]
theorem dSi_at (m : Nat) (b : List Nat) (R : Nat → Nat) (n c i : Nat) : dSi m b R n c i (n + i) = R (n + i) := by
  unfold dSi
  rw [if_neg (by omega)]
/-- A table of elements. -/
def tabN (n : Nat) (f : Nat → Nat) : List Int := tab n (fun j => (f j : Nat))
theorem tabN_len (n : Nat) (f : Nat → Nat) : (tabN n f).length = n := tab_len _ _
theorem tabN_at {k : IntKind} {n j : Nat} {f : Nat → Nat} (h : j < n) : (ints k (tabN n f))[j]? = some (.int k (f j : Nat)) := tab_at h
theorem tabN_set {k : IntKind} {n i : Nat} {f : Nat → Nat} (z : Nat) : (ints k (tabN n f)).toArray.setIfInBounds i (.int k (z : Nat)) = (ints k (tabN n (fun j => if j = i then z else f j))).toArray := by
  unfold tabN
  rw [tab_set]
  congr 2
  exact tab_cong (fun j _ => by by_cases h : j = i <;> simp [h])
theorem tabN_setL {k : IntKind} {n i : Nat} {f : Nat → Nat} (z : Nat) : (ints k (tabN n f)).set i (.int k (z : Nat)) = ints k (tabN n (fun j => if j = i then z else f j)) := by
  unfold tabN
  rw [tab_setL]
  congr 1
  exact tab_cong (fun j _ => by by_cases h : j = i <;> simp [h])
theorem nats_tabN (k : IntKind) (a : List Nat) : nats k a = ints k (tabN a.length (cf a)) := by
  unfold nats ints tabN tab
  apply List.ext_getElem?
  intro j
  by_cases h : j < a.length <;> simp [h, cf]
theorem trim_tabN {m n : Nat} {f : Nat → Nat} (h : ∀ j, f j < 2 ^ m) : trim (lowL m (tabN n f)) = pl n f := by
  unfold tabN
  rw [trim_tab]
  exact pl_eq (fun j => by rw [lo_nat (h j)])
theorem dSi_next {m : Nat} (b : List Nat) (R : Nat → Nat) (n c i : Nat) : (fun j => if j = n + i then R (n + i) ^^^ gm m c (cf b i) else dSi m b R n c i j) = dSi m b R n c (i + 1) := by
  funext j
  by_cases h : j = n + i
  · subst h
    rw [if_pos rfl]
    unfold dSi
    rw [if_pos (by omega), show n + i - n = i by omega]
  · rw [if_neg h]
    unfold dSi
    by_cases h2 : n ≤ j ∧ j < n + i
    · rw [if_pos h2, if_pos (by omega)]
    · rw [if_neg h2, if_neg (by omega)]
theorem pdivN {g m : Nat} {w : World} {x y : Nat} (hm : Ok m) (hf : Has (fieldA g m) w) (hx : x < 2 ^ m) (hy : y < 2 ^ m) (h0 : y ≠ 0) : Spec1 Tryd.prog 76 [.pointer (some ⟨g, 0, none⟩), .int .i64 (x : Nat), .int .i64 (y : Nat)] w (two (.int .i64 (gm m x (inv m y) : Nat)) .nilIface) := by
  have := div_spec g m x y w hm hf (by rw [lo_nat hy]; exact h0); rw [lo_nat hx, lo_nat hy] at this; exact this
structure DivG (m : Nat) (a b : List Nat) (q : Nat × (Nat → Nat) × (Nat → Nat)) : Prop where
  le : q.1 ≤ a.length + 1 - b.length
  lt : ∀ j, q.2.1 j < 2 ^ m
  rest : divR m b q.1 q.2.1 = divR m b (a.length + 1 - b.length) (cf a)
  quot : ∀ j, (if q.1 ≤ j then q.2.2 j else divQ m b q.1 q.2.1 j) = divQ m b (a.length + 1 - b.length) (cf a) j
theorem divG_start (m : Nat) {a : List Nat} (hA : ∀ x ∈ a, x < 2 ^ m) (b : List Nat) : DivG m a b (a.length + 1 - b.length, cf a, fun _ => 0) := by
  refine ⟨Nat.le_refl _, cf_lt hA (Nat.two_pow_pos m), rfl, fun j => ?_⟩
  show (if a.length + 1 - b.length ≤ j then 0 else divQ m b (a.length + 1 - b.length) (cf a) j) = _
  split
  · exact (divQ_hi m b _ _ j (by assumption)).symm
  · rfl
theorem DivG.next {m k : Nat} (hm : Ok m) {a b : List Nat} {R Q : Nat → Nat} (h : DivG m a b (k + 1, R, Q)) : DivG m a b (k, dSi m b R k (dC m b R k) b.length, fun j => if j = k then dC m b R k else Q j) := by
  refine ⟨by have := h.le; simp only at this ⊢; omega, fun j => dSi_lt hm h.lt (gm_lt hm (h.lt _) _) j, h.rest, fun j => ?_⟩
  rw [← h.quot j]
  simp only
  by_cases h1 : j = k
  · subst h1
    rw [if_pos (Nat.le_refl _), if_pos rfl, if_neg (by omega)]
    unfold divQ
    rw [if_pos rfl]
  · by_cases h2 : k + 1 ≤ j
    · rw [if_pos (by omega), if_neg h1, if_pos h2]
    · rw [if_neg (by omega), if_neg h2]
      show _ = divQ m b (k + 1) R j
      conv => rhs; unfold divQ
      rw [if_neg h1]
abbrev SpecLL (P : Program) (f : FuncId) (args : List Value) (w : World) (E G : List Nat) : Prop :=
  SpecX P f args w (X := (Option Addr × Nat) × (Option Addr × Nat)) (fun q => .tuple #[.slice q.1.1 E.length q.1.2, .slice q.2.1 G.length q.2.2, .nilIface]) (fun q => E.length ≤ q.1.2 ∧ G.length ≤ q.2.2)
    (fun q => [own 3 1 q.2.1 G.length q.2.2 (nats .i64 G), own 3 1 q.1.1 E.length q.1.2 (nats .i64 E)])

theorem pdiv_spec (r g m : Nat) (A : Option Addr) (n c : Nat) (l : List Int) (B : Option Addr) (k d : Nat) (l2 : List Int) (w : World) (hm : Ok m) (hr : Has (ringA r g m) w) (ha : Has (sl 1 A n (ints .i64 l)) w) (hb : Has (sl 1 B k (ints .i64 l2)) w) (hn : n ≤ 4294967296) (hk : k ≤ 4294967296) (hb0 : (trim (lowL m l2)).length ≠ 0) : SpecLL Tryd.prog 57 [.pointer (some ⟨r, 0, none⟩), .slice A n c, .slice B k d] w (quotP m (trim (lowL m l)) (trim (lowL m l2))) (restP m (trim (lowL m l)) (trim (lowL m l2))) := by
  obtain ⟨hrc, hf⟩ := ring_at hr
  have hla := ints_len ha
  subst hla
  have hlb := ints_len hb
  subst hlb
  have hA := trimLow_lt m l
  have hB := trimLow_lt m l2
  have hta := trim_length (lowL m l)
  have htb := trim_length (lowL m l2)
  have hla1 := tl_le (lowL m l)
  have hlb1 := tl_le (lowL m l2)
  have hll1 := lowL_len m l
  have hll2 := lowL_len m l2
  generalize ea : trim (lowL m l) = a at *
  generalize eb : trim (lowL m l2) = b at *
  have hla5 : a.length ≤ 4294967296 := by omega
  have hlb5 : b.length ≤ 4294967296 := by omega
  have htop : cf b (b.length - 1) ≠ 0 := by rw [← eb, trim_length, cf_trim]; exact cf_top _ (by omega)
  refine spec_of Tryd.func57 rfl Tryd.ntmps57 rfl ?_
  refine CW.seq ?_
  refine CW.reg [0, 1, 2] rfl ?_   -- 0, fieldpoly.go:70
  refine s_as 6 rfl rfl ?_
  refine s_as 7 rfl rfl ?_
  refine s_as 8 rfl rfl ?_
  refine SX.next ?_
  refine CW.seq ?_
  refine CW.reg [0, 1, 2, 3, 4, 5, 6, 7] rfl ?_   -- 1, fieldpoly.go:71
  refine s_mv 16 rfl rfl ?_
  refine s_mv 17 rfl rfl ?_
  refine s_call 18 rfl rfl rfl rfl (fun w hw => by have := trim_spec r g m A l.length c l w hm (hw.old hr) (hw.old ha) (by omega); rw [ea] at this; exact this) (fun _ _ => trivial) (fun q1 hq1 => ?_)
  refine s_mv 19 rfl rfl ?_
  refine s_mv 20 rfl rfl ?_
  refine s_call 21 rfl rfl rfl rfl (fun w hw => by have := trim_spec r g m B l2.length d l2 w hm (hw.old hr) (hw.old hb) (by omega); rw [eb] at this; exact this) (fun _ _ => trivial) (fun q2 hq2 => ?_)
  refine s_as 9 rfl rfl ?_
  refine s_as 2 rfl rfl ?_
  refine SX.next ?_
  refine CW.seq ?_
  refine CW.seq ?_
  refine CW.reg [0, 1, 2] rfl ?_   -- 2, fieldpoly.go:72
  refine s_mv 22 rfl rfl ?_
  refine s_len 23 rfl rfl ?_
  refine s_eq 24 rfl rfl rfl (decide_eq_false (by omega)) ?_
  refine SX.next ?_
  refine CW.condF rfl ?_
  refine CW.skip ?_
  refine KN.code ?_
  refine CW.seq ?_
  refine CW.reg [0, 1, 2, 3, 4, 5, 6, 7, 8] rfl ?_   -- 4, fieldpoly.go:75
  refine s_mv 26 rfl rfl ?_
  refine s_len 27 rfl rfl ?_
  refine s_mv 28 rfl rfl ?_
  refine s_len 29 rfl rfl ?_
  refine s_sub 30 rfl rfl rfl (w64 (by omega)) ?_
  refine s_add 31 rfl rfl rfl (w64 (by omega)) ?_
  refine s_max 32 rfl rfl rfl (r := (((a.length + 1 - b.length) : Nat) : Int)) (by split <;> omega) ?_
  refine s_make 33 (a.length + 1 - b.length) rfl rfl rfl rfl rfl (by omega) (fun _ _ => trivial) (fun go => ?_)
  refine s_as 10 rfl rfl ?_
  refine SX.next ?_
  refine CW.seq ?_
  refine CW.seq ?_
  refine CW.reg [0, 1, 2, 3] rfl ?_   -- 5, fieldpoly.go:76
  refine s_mv 34 rfl rfl ?_
  refine s_len 35 rfl rfl ?_
  refine s_sub 36 rfl rfl rfl (w64 (by omega)) ?_
  refine s_as 11 rfl rfl ?_
  refine SX.next ?_
  refine CW.block ?_
  refine CW.loop (G := Nat × (Nat → Nat) × (Nat → Nat)) (fun q => [(0, .pointer (some ⟨r, 0, none⟩)), (2, .slice q2.1 b.length q2.2), (9, .slice q1.1 a.length q1.2), (10, .slice (some ⟨go, 0, none⟩) (a.length + 1 - b.length) (a.length + 1 - b.length)), (11, .int .i64 ((q.1 : Nat) - 1))]) (fun q => Sto w [blk go 3 (ints .i64 (tabN (a.length + 1 - b.length) q.2.2)).toArray, own 3 1 q2.1 b.length q2.2 (nats .i64 b), own 3 1 q1.1 a.length q1.2 (ints .i64 (tabN a.length q.2.1))]) (DivG m a b) (fun q => q.1) ((a.length + 1 - b.length), cf a, fun _ => 0) ⟨rfl, rfl, rfl, rfl, rfl, trivial⟩ (fun _ h => by rw [← nats_tabN, show tabN (a.length + 1 - b.length) (fun _ => 0) = tab (a.length + 1 - b.length) (fun _ => 0) from rfl, ← tab_zero]; exact h) (divG_start m hA b) ?_
  rintro ⟨n1, R, Q⟩ hq
  have hq1 := hq.le
  simp only at hq1
  refine CW.seq ?_
  refine CW.seq ?_
  refine CW.reg [0, 1] rfl ?_   -- 6, fieldpoly.go:76
  refine s_mv 37 rfl rfl ?_
  refine s_ge 38 rfl rfl rfl rfl ?_
  refine SX.next ?_
  refine CW.test rfl (fun hc => ?_) (fun hc => ?_)
  · skip
    obtain ⟨k, rfl⟩ : ∃ k, n1 = k + 1 := ⟨n1 - 1, by omega⟩
    have hRt := hq.lt
    simp only at hRt
    refine CW.skip ?_
    refine KN.code ?_
    refine CW.seq ?_
    refine CW.block ?_
    refine CW.seq ?_
    refine CW.regD (.st true 0 (.st true 1 (.st true 2 (.st true 3 (.st true 4 (.st true 5 (.st true 6 (.st true 7 (.st true 8 (.st true 9 (.st true 10 (.st true 11 (.st true 12 (.st true 13 (.st true 14 (.st true 15 (.st true 16 (.st true 17 (.st false 18 (.st true 19 (.st true 20 (.st true 21 (.st true 22 (.st true 23 .done)))))))))))))))))))))))) (Sto w [blk go 3 (ints .i64 (tabN (a.length + 1 - b.length) Q)).toArray, own 3 1 q2.1 b.length q2.2 (nats .i64 b), own 3 1 q1.1 a.length q1.2 (ints .i64 (tabN a.length R))]) mixed (by kernel_rfl) (fun _ h => h.drew) (fun _ h => h) ?_
    refine s_mv 42 rfl rfl ?_
    refine s_nil 43 rfl rfl ?_
    refine s_fa 44 rfl rfl ?_
    refine s_ldS 45 rfl rfl (fun _ h => h.cell hrc) ?_
    refine s_mv 46 rfl rfl ?_
    refine s_mv 47 rfl rfl ?_
    refine s_mv 48 rfl rfl ?_
    refine s_len 49 rfl rfl ?_
    refine s_add 50 rfl rfl rfl (r := ((k + b.length : Nat) : Int)) (by rw [show ((k + 1 : Nat) : Int) - 1 + (b.length : Nat) = ((k + b.length : Nat) : Int) by omega]; exact w64 (by omega)) ?_
    refine s_sub 51 rfl rfl rfl (r := ((k + b.length - 1 : Nat) : Int)) (by rw [show ((k + b.length : Nat) : Int) - 1 = ((k + b.length - 1 : Nat) : Int) by omega]; exact w64 (by omega)) ?_
    refine s_iaO 52 2 (k + b.length - 1) rfl rfl rfl rfl rfl (by omega) ?_
    refine s_ldS 53 rfl rfl (fun _ h => h.ownCell (q := 2) rfl (tabN_at (by omega))) ?_
    refine s_mv 54 rfl rfl ?_
    refine s_mv 55 rfl rfl ?_
    refine s_len 56 rfl rfl ?_
    refine s_sub 57 rfl rfl rfl (r := ((b.length - 1 : Nat) : Int)) (by rw [show ((b.length : Nat) : Int) - 1 = ((b.length - 1 : Nat) : Int) by omega]; exact w64 (by omega)) ?_
    refine s_iaO 58 1 (b.length - 1) rfl rfl rfl rfl rfl (by omega) ?_
    refine s_ldS 59 rfl rfl (fun _ h => h.ownCell (q := 1) rfl (natsAtC (by omega))) ?_
    refine s_call1 60 rfl rfl rfl rfl (v := two (.int .i64 (dC m b R k : Nat)) .nilIface) (fun w hw => pdivN hm (hw.old hf) (hRt _) (cf_lt hB (Nat.two_pow_pos m) _) htop) (fun _ h => h) ?_
    refine s_mv 41 rfl rfl ?_
    refine s_ext 61 rfl rfl rfl ?_
    refine s_ext 62 rfl rfl rfl ?_
    refine s_as 12 rfl rfl ?_
    refine s_as 13 rfl rfl ?_
    refine SX.next ?_
    refine CW.seq ?_
    refine CW.seq ?_
    refine CW.reg [0, 1] rfl ?_   -- 9, fieldpoly.go:78
    refine s_mv 63 rfl rfl ?_
    refine s_neNN 64 rfl rfl ?_
    refine SX.next ?_
    refine CW.condF rfl ?_
    refine CW.skip ?_
    refine KN.code ?_
    refine CW.seq ?_
    refine CW.reg [0, 1, 2, 3, 4] rfl ?_   -- 11, fieldpoly.go:81
    refine s_mv 66 rfl rfl ?_
    refine s_mv 67 rfl rfl ?_
    refine s_mv 68 rfl rfl ?_
    refine s_ia0 69 k rfl rfl rfl (by omega) (by omega) ?_
    refine s_stB 0 rfl rfl rfl rfl rfl (by rw [show (ints .i64 (tabN (a.length + 1 - b.length) Q)).toArray.size = (a.length + 1 - b.length) from tab_size]; omega) (fun _ _ => trivial) ?_
    refine SX.next ?_
    refine CW.seq ?_
    refine CW.reg [0, 1, 2] rfl ?_   -- 12, fieldpoly.go:82
    refine s_mv 70 rfl rfl ?_
    refine s_len 71 rfl rfl ?_
    refine s_mv 72 rfl rfl ?_
    refine SX.next ?_
    refine CW.block ?_
    refine CW.loop (G := Nat) (fun i => [(0, .pointer (some ⟨r, 0, none⟩)), (2, .slice q2.1 b.length q2.2), (9, .slice q1.1 a.length q1.2), (10, .slice (some ⟨go, 0, none⟩) (a.length + 1 - b.length) (a.length + 1 - b.length)), (11, .int .i64 ((k + 1 : Nat) - 1)), (12, .int .i64 (dC m b R k : Nat)), (70, .slice q2.1 b.length q2.2), (71, .int .i64 (b.length : Nat)), (72, .int .i64 (i : Nat))]) (fun i => Sto w [blk go 3 (ints .i64 (tabN (a.length + 1 - b.length) (fun j => if j = k then dC m b R k else Q j))).toArray, own 3 1 q2.1 b.length q2.2 (nats .i64 b), own 3 1 q1.1 a.length q1.2 (ints .i64 (tabN a.length (dSi m b R k (dC m b R k) i)))]) (fun i => i ≤ b.length) (fun i => b.length - i) 0 ⟨rfl, rfl, rfl, rfl, rfl, rfl, rfl, rfl, rfl, trivial⟩ (fun _ h => by rw [← tabN_set, dSi_zero]; exact h) (Nat.zero_le _) ?_
    intro i hi
    refine CW.seq ?_
    refine CW.reg [0] rfl ?_   -- 13, fieldpoly.go:82
    refine s_lt 73 rfl rfl rfl rfl ?_
    refine SX.next ?_
    refine CW.seq ?_
    refine CW.test rfl (fun hc => ?_) (fun hc => ?_)
    · skip
      refine CW.skip ?_
      refine KN.code ?_
      refine CW.seq ?_
      refine CW.block ?_
      refine CW.seq ?_
      refine CW.reg [0, 1, 2, 3, 4] rfl ?_   -- 14, fieldpoly.go:82
      refine s_mv 74 rfl rfl ?_
      refine s_iaO 75 1 i rfl rfl rfl rfl rfl (by omega) ?_
      refine s_ldO 76 1 rfl rfl rfl (natsAtC (by omega)) ?_
      refine s_as 14 rfl rfl ?_
      refine s_as 15 rfl rfl ?_
      refine SX.next ?_
      refine CW.regD (.st true 0 (.st true 1 (.st true 2 (.st true 3 (.st true 4 (.st true 6 (.st true 7 (.st true 8 (.st true 9 (.st true 10 (.st true 11 (.alt 5 (.st false 12 (.st true 13 (.st true 14 (.st false 15 .done)))) (.st false 12 (.st false 5 (.st true 13 (.st true 14 (.st false 15 .done))))))))))))))))) (Sto w []) mixed (by kernel_rfl) (fun _ h => h.drew) (fun _ h => h.pick [] rfl) ?_
      refine s_mv 77 rfl rfl ?_
      refine s_mv 78 rfl rfl ?_
      refine s_mv 79 rfl rfl ?_
      refine s_add 80 rfl rfl rfl (r := ((k + i : Nat) : Int)) (by rw [show ((k + 1 : Nat) : Int) - 1 + (i : Nat) = ((k + i : Nat) : Int) by omega]; exact w64 (by omega)) ?_
      refine s_iaO 81 2 (k + i) rfl rfl rfl rfl rfl (by omega) ?_
      refine s_mv 83 rfl rfl ?_
      refine s_nil 84 rfl rfl ?_
      refine s_fa 85 rfl rfl ?_
      refine s_ldS 86 rfl rfl (fun _ h => h.cell hrc) ?_
      refine s_mv 87 rfl rfl ?_
      refine s_mv 88 rfl rfl ?_
      refine SX.alt ?_ ?_
      · skip
        refine s_ldO 82 2 rfl rfl rfl (v := .int .i64 (R (k + i) : Nat)) (by rw [tabN_at (by omega), dSi_at]) ?_
        refine s_call1 89 rfl rfl rfl rfl (fun w hw => pmulN hm (hw.old hf) (gm_lt hm (hRt _) _) (cf_lt hB (Nat.two_pow_pos m) i)) (fun _ h => h.pick [] rfl) ?_
        refine s_bit 90 rfl rfl rfl rfl (r := ((R (k + i) ^^^ gm m (dC m b R k) (cf b i) : Nat) : Int)) (ibit_xor_nat (pow63 hm (hRt _)) (pow63 hm (gm_lt hm (gm_lt hm (hRt _) _) _))) ?_
        refine s_iaO 91 2 (k + i) rfl rfl rfl rfl rfl (by omega) ?_
        refine s_stO 2 rfl rfl rfl rfl rfl (by omega) (fun _ h => h.pick [] rfl) ?_
        refine SX.end_ ?_
        refine KN.blk ?_
        refine KN.code ?_
        refine CW.reg [0, 1] rfl ?_   -- 16, fieldpoly.go:82
        refine s_add 92 rfl rfl rfl (r := ((i + 1 : Nat) : Int)) (w64 (by omega)) ?_
        refine s_mv 72 rfl rfl ?_
        refine SX.end_ ?_
        exact KN.back (i + 1) ⟨rfl, rfl, rfl, rfl, rfl, rfl, rfl, rfl, rfl, trivial⟩ (fun _ h => by rw [← dSi_next, ← tabN_setL (n := a.length)]; exact h) (by omega) (by omega)
      · skip
        refine s_call1 89 rfl rfl rfl rfl (fun w hw => pmulN hm (hw.old hf) (gm_lt hm (hRt _) _) (cf_lt hB (Nat.two_pow_pos m) i)) (fun _ h => h.pick [] rfl) ?_
        refine s_ldO 82 2 rfl rfl rfl (v := .int .i64 (R (k + i) : Nat)) (by rw [tabN_at (by omega), dSi_at]) ?_
        refine s_bit 90 rfl rfl rfl rfl (r := ((R (k + i) ^^^ gm m (dC m b R k) (cf b i) : Nat) : Int)) (ibit_xor_nat (pow63 hm (hRt _)) (pow63 hm (gm_lt hm (gm_lt hm (hRt _) _) _))) ?_
        refine s_iaO 91 2 (k + i) rfl rfl rfl rfl rfl (by omega) ?_
        refine s_stO 2 rfl rfl rfl rfl rfl (by omega) (fun _ h => h.pick [] rfl) ?_
        refine SX.end_ ?_
        refine KN.blk ?_
        refine KN.code ?_
        refine CW.reg [0, 1] rfl ?_   -- 16, fieldpoly.go:82
        refine s_add 92 rfl rfl rfl (r := ((i + 1 : Nat) : Int)) (w64 (by omega)) ?_
        refine s_mv 72 rfl rfl ?_
        refine SX.end_ ?_
        exact KN.back (i + 1) ⟨rfl, rfl, rfl, rfl, rfl, rfl, rfl, rfl, rfl, trivial⟩ (fun _ h => by rw [← dSi_next, ← tabN_setL (n := a.length)]; exact h) (by omega) (by omega)
    · skip
      obtain rfl : i = b.length := by omega
      refine CW.exit rfl ?_
      refine KN.blk ?_
      refine KN.code ?_
      refine CW.reg [0, 1, 2] rfl ?_   -- 7, fieldpoly.go:76
      refine s_mv 39 rfl rfl ?_
      refine s_sub 40 rfl rfl rfl (r := ((k : Nat) : Int) - 1) (by rw [show ((k + 1 : Nat) : Int) - 1 - 1 = ((k : Nat) : Int) - 1 by omega]; exact w64 (by omega)) ?_
      refine s_as 11 rfl rfl ?_
      refine SX.end_ ?_
      exact KN.back (k, dSi m b R k (dC m b R k) b.length, fun j => if j = k then dC m b R k else Q j) ⟨rfl, rfl, rfl, rfl, rfl, trivial⟩ (fun _ h => h) (hq.next hm) (by simp only; omega)
  · skip
    obtain rfl : n1 = 0 := by omega
    have hRe : R = divR m b (a.length + 1 - b.length) (cf a) := hq.rest
    have hQe : Q = divQ m b (a.length + 1 - b.length) (cf a) := by funext j; exact hq.quot j
    have eQ : trim (lowL m (tabN (a.length + 1 - b.length) Q)) = quotP m a b := by rw [hQe]; exact trim_tabN (divQ_lt hm _ (cf_lt hA (Nat.two_pow_pos m)))
    have eR : trim (lowL m (tabN a.length R)) = restP m a b := by rw [hRe]; exact trim_tabN (divR_lt hm _ (cf_lt hA (Nat.two_pow_pos m)))
    refine CW.exit rfl ?_
    refine KN.code ?_
    refine CW.seq ?_
    refine CW.reg [0, 1, 2, 3, 4, 5, 6, 7, 8] rfl ?_   -- 17, fieldpoly.go:86
    refine s_mv 93 rfl rfl ?_
    refine s_mv 94 rfl rfl ?_
    refine s_call 95 rfl rfl rfl rfl (fun w hw => by have := trim_spec r g m (some ⟨go, 0, none⟩) (a.length + 1 - b.length) (a.length + 1 - b.length) (tabN (a.length + 1 - b.length) Q) w hm (hw.old hr) (Has.cong ((hw.has (i := 0) rfl).blk_sl (m := (a.length + 1 - b.length)) (by exact tab_size.trans (Nat.mul_one _).symm)) rfl) (by omega); rw [eQ] at this; exact this) (fun _ _ => trivial) (fun q3 hq3 => ?_)
    refine s_mv 96 rfl rfl ?_
    refine s_mv 97 rfl rfl ?_
    refine s_call 98 rfl rfl rfl rfl (fun w hw => by have := trim_spec r g m q1.1 a.length q1.2 (tabN a.length R) w hm (hw.old hr) ((hw.has (i := 3) rfl).of_own) (by omega); rw [eR] at this; exact this) (fun _ _ => trivial) (fun q4 hq4 => ?_)
    refine s_as 6 rfl rfl ?_
    refine s_as 7 rfl rfl ?_
    refine s_as 8 rfl rfl ?_
    refine SX.next ?_
    refine CW.ret ?_
    exact KN.ret (rs := [.tmp 6, .tmp 7, .tmp 8]) Tryd.results57 rfl (fun w hw => ⟨(q3, q4), rfl, ⟨hq3, hq4⟩, hw.pick [0, 0] rfl⟩)

/-! ### What is refused -/
/-- Two numbers on the way. -/
def errRes (e : Nat → Addr) (k : Nat) : Value := two (.slice none 0 0) (errV e k)

theorem pmul_long (r g m : Nat) (A : Option Addr) (n c : Nat) (l : List Int) (B : Option Addr) (k d : Nat) (l2 : List Int) (e : Nat → Addr) (w : World) (hm : Ok m) (hr : Has (ringA r g m) w) (ha : Has (sl 1 A n (ints .i64 l)) w) (hb : Has (sl 1 B k (ints .i64 l2)) w) (hn : n ≤ 4294967296) (hk : k ≤ 4294967296) (he : Er e w 0) (hsm : 2048 < (trim (lowL m l)).length + (trim (lowL m l2)).length) : Spec1 Tryd.prog 42 [.pointer (some ⟨r, 0, none⟩), .slice A n c, .slice B k d] w (errRes e 0) := by
  obtain ⟨hrc, hf⟩ := ring_at hr
  have hla := ints_len ha
  subst hla
  have hlb := ints_len hb
  subst hlb
  have hA := trimLow_lt m l
  have hB := trimLow_lt m l2
  have hta := trim_length (lowL m l)
  have htb := trim_length (lowL m l2)
  have hla1 := tl_le (lowL m l)
  have hlb1 := tl_le (lowL m l2)
  have hll1 := lowL_len m l
  have hll2 := lowL_len m l2
  generalize ea : trim (lowL m l) = a at *
  generalize eb : trim (lowL m l2) = b at *
  have hla5 : a.length ≤ 4294967296 := by omega
  have hlb5 : b.length ≤ 4294967296 := by omega
  refine spec_of Tryd.func42 rfl Tryd.ntmps42 rfl ?_
  refine CW.seq ?_
  refine CW.reg [0, 1] rfl ?_   -- 0, fieldpoly.go:52
  refine s_as 6 rfl rfl ?_
  refine s_as 7 rfl rfl ?_
  refine SX.next ?_
  refine CW.seq ?_
  refine CW.reg [0, 1, 2, 3, 4, 5, 6, 7] rfl ?_   -- 1, fieldpoly.go:53
  refine s_mv 13 rfl rfl ?_
  refine s_mv 14 rfl rfl ?_
  refine s_call 15 rfl rfl rfl rfl (fun w hw => by have := trim_spec r g m A l.length c l w hm (hw.old hr) (hw.old ha) (by omega); rw [ea] at this; exact this) (fun _ _ => trivial) (fun q1 hq1 => ?_)
  refine s_mv 16 rfl rfl ?_
  refine s_mv 17 rfl rfl ?_
  refine s_call 18 rfl rfl rfl rfl (fun w hw => by have := trim_spec r g m B l2.length d l2 w hm (hw.old hr) (hw.old hb) (by omega); rw [eb] at this; exact this) (fun _ _ => trivial) (fun q2 hq2 => ?_)
  refine s_as 1 rfl rfl ?_
  refine s_as 2 rfl rfl ?_
  refine SX.next ?_
  refine CW.seq ?_
  refine CW.block ?_
  refine CW.seq ?_
  refine CW.reg [0, 1, 2, 3, 4, 5, 6] rfl ?_   -- 2, fieldpoly.go:55
  refine s_mv 20 rfl rfl ?_
  refine s_len 21 rfl rfl ?_
  refine s_mv 22 rfl rfl ?_
  refine s_len 23 rfl rfl ?_
  refine s_add 24 rfl rfl rfl (w64 (by omega)) ?_
  refine s_gt 25 rfl rfl rfl (decide_eq_true (by omega)) ?_
  refine s_as 19 rfl rfl ?_
  refine SX.next ?_
  refine CW.condT rfl ?_
  refine CW.seq ?_
  refine CW.regD (.st true 0 (.st true 1 (.st true 2 .done))) (Sto w []) mixed (by kernel_rfl) (fun _ h => h.drew) (fun _ h => h.pick [] rfl) ?_
  refine s_ldS 26 rfl rfl (fun _ h => h.cell he) ?_
  refine s_as 6 rfl rfl ?_
  refine s_as 7 rfl rfl ?_
  refine SX.next ?_
  refine CW.ret ?_
  exact KN.ret (rs := [.tmp 6, .tmp 7]) Tryd.results42 rfl (fun w hw => ⟨rfl, hw.nothing⟩)

theorem pdiv_zero (r g m : Nat) (A : Option Addr) (n c : Nat) (l : List Int) (B : Option Addr) (k d : Nat) (l2 : List Int) (e : Nat → Addr) (w : World) (hm : Ok m) (hr : Has (ringA r g m) w) (ha : Has (sl 1 A n (ints .i64 l)) w) (hb : Has (sl 1 B k (ints .i64 l2)) w) (hn : n ≤ 4294967296) (hk : k ≤ 4294967296) (he : Er e w 1) (hb0 : (trim (lowL m l2)).length = 0) : Spec1 Tryd.prog 57 [.pointer (some ⟨r, 0, none⟩), .slice A n c, .slice B k d] w (.tuple #[.slice none 0 0, .slice none 0 0, errV e 1]) := by
  obtain ⟨hrc, hf⟩ := ring_at hr
  have hla := ints_len ha
  subst hla
  have hlb := ints_len hb
  subst hlb
  have hA := trimLow_lt m l
  have hB := trimLow_lt m l2
  have hta := trim_length (lowL m l)
  have htb := trim_length (lowL m l2)
  have hla1 := tl_le (lowL m l)
  have hlb1 := tl_le (lowL m l2)
  have hll1 := lowL_len m l
  have hll2 := lowL_len m l2
  generalize ea : trim (lowL m l) = a at *
  generalize eb : trim (lowL m l2) = b at *
  refine spec_of Tryd.func57 rfl Tryd.ntmps57 rfl ?_
  refine CW.seq ?_
  refine CW.reg [0, 1, 2] rfl ?_   -- 0, fieldpoly.go:70
  refine s_as 6 rfl rfl ?_
  refine s_as 7 rfl rfl ?_
  refine s_as 8 rfl rfl ?_
  refine SX.next ?_
  refine CW.seq ?_
  refine CW.reg [0, 1, 2, 3, 4, 5, 6, 7] rfl ?_   -- 1, fieldpoly.go:71
  refine s_mv 16 rfl rfl ?_
  refine s_mv 17 rfl rfl ?_
  refine s_call 18 rfl rfl rfl rfl (fun w hw => by have := trim_spec r g m A l.length c l w hm (hw.old hr) (hw.old ha) (by omega); rw [ea] at this; exact this) (fun _ _ => trivial) (fun q1 hq1 => ?_)
  refine s_mv 19 rfl rfl ?_
  refine s_mv 20 rfl rfl ?_
  refine s_call 21 rfl rfl rfl rfl (fun w hw => by have := trim_spec r g m B l2.length d l2 w hm (hw.old hr) (hw.old hb) (by omega); rw [eb] at this; exact this) (fun _ _ => trivial) (fun q2 hq2 => ?_)
  refine s_as 9 rfl rfl ?_
  refine s_as 2 rfl rfl ?_
  refine SX.next ?_
  refine CW.seq ?_
  refine CW.seq ?_
  refine CW.reg [0, 1, 2] rfl ?_   -- 2, fieldpoly.go:72
  refine s_mv 22 rfl rfl ?_
  refine s_len 23 rfl rfl ?_
  refine s_eq 24 rfl rfl rfl (decide_eq_true (by omega)) ?_
  refine SX.next ?_
  refine CW.condT rfl ?_
  refine CW.seq ?_
  refine CW.regD (.st true 0 (.st true 1 (.st true 2 (.st true 3 .done)))) (Sto w []) mixed (by kernel_rfl) (fun _ h => h.drew) (fun _ h => h.pick [] rfl) ?_
  refine s_ldS 25 rfl rfl (fun _ h => h.cell he) ?_
  refine s_as 6 rfl rfl ?_
  refine s_as 7 rfl rfl ?_
  refine s_as 8 rfl rfl ?_
  refine SX.next ?_
  refine CW.ret ?_
  exact KN.ret (rs := [.tmp 6, .tmp 7, .tmp 8]) Tryd.results57 rfl (fun w hw => ⟨rfl, hw.nothing⟩)

/-! ### Roots -/
/-- The first n elements at which it is 0. -/
def rootsN (m : Nat) (a : List Nat) : Nat → List Nat
  | 0 => []
  | n + 1 => if evL m a n = 0 then rootsN m a n ++ [n] else rootsN m a n
def rootsP (m : Nat) (a : List Nat) : List Nat := if a.length = 0 then [] else rootsN m a (2 ^ m)
theorem rootsN_len (m : Nat) (a : List Nat) : ∀ n, (rootsN m a n).length ≤ n
  | 0 => Nat.le_refl _
  | n + 1 => by
    have := rootsN_len m a n
    unfold rootsN
    split
    · simp; omega
    · omega
theorem nats_snoc (k : IntKind) (a : List Nat) (x : Nat) : nats k a ++ [.int k (x : Nat)] = nats k (a ++ [x]) := by simp [nats]
theorem lowL_ofNat {m : Nat} {a : List Nat} (h : ∀ x ∈ a, x < 2 ^ m) : lowL m (a.map Int.ofNat) = a := by
  unfold lowL
  rw [List.map_map]
  conv => rhs; rw [← List.map_id a]
  exact List.map_congr_left (fun x hx => lo_nat (h x hx))

theorem proots_spec (r g m : Nat) (A : Option Addr) (n c : Nat) (l : List Int) (w : World) (hm : Ok m) (hr : Has (ringA r g m) w) (ha : Has (sl 1 A n (ints .i64 l)) w) (hn : n ≤ 4294967296) : SpecL Tryd.prog 55 [.pointer (some ⟨r, 0, none⟩), .slice A n c] w (rootsP m (trim (lowL m l))) := by
  obtain ⟨hrc, hf⟩ := ring_at hr
  have hla := ints_len ha
  subst hla
  have hA := trimLow_lt m l
  have hta := trim_length (lowL m l)
  have hla1 := tl_le (lowL m l)
  have hll1 := lowL_len m l
  have hle := pow_le14 hm
  have hNs := N_succ m
  generalize ea : trim (lowL m l) = a at *
  have hlo := lowL_ofNat hA
  refine spec_of Tryd.func55 rfl Tryd.ntmps55 rfl ?_
  refine CW.seq ?_
  refine CW.reg [0] rfl ?_   -- 0, fieldpoly.go:111
  refine s_as 4 rfl rfl ?_
  refine SX.next ?_
  refine CW.seq ?_
  refine CW.reg [0, 1, 2, 3] rfl ?_   -- 1, fieldpoly.go:112
  refine s_mv 7 rfl rfl ?_
  refine s_mv 8 rfl rfl ?_
  refine s_call 9 rfl rfl rfl rfl (fun w hw => by have := trim_spec r g m A l.length c l w hm (hw.old hr) (hw.old ha) (by omega); rw [ea] at this; exact this) (fun _ _ => trivial) (fun q1 hq1 => ?_)
  refine s_as 1 rfl rfl ?_
  refine SX.next ?_
  refine CW.seq ?_
  refine CW.seq ?_
  refine CW.reg [0, 1, 2] rfl ?_   -- 2, fieldpoly.go:113
  refine s_mv 10 rfl rfl ?_
  refine s_len 11 rfl rfl ?_
  refine s_eq 12 rfl rfl rfl rfl ?_
  refine SX.next ?_
  refine CW.test rfl (fun hc => ?_) (fun hc => ?_)
  · skip
    have h0 : rootsP m a = [] := if_pos (by omega)
    refine CW.seq ?_
    refine CW.reg [0] rfl ?_   -- 3, fieldpoly.go:114
    refine s_as 4 rfl rfl ?_
    refine SX.next ?_
    refine CW.ret ?_
    exact KN.ret (rs := [.tmp 4]) Tryd.results55 rfl (fun w hw => ⟨(none, 0), by rw [h0]; rfl, by rw [h0]; exact Nat.le_refl _, by rw [h0]; exact (hw.pick [] rfl).begin_ _ 1⟩)
  · skip
    have h0 : rootsP m a = rootsN m a (2 ^ m) := if_neg (by omega)
    refine CW.skip ?_
    refine KN.code ?_
    refine CW.seq ?_
    refine CW.reg [0] rfl ?_   -- 4, fieldpoly.go:116
    refine s_as 5 rfl rfl ?_
    refine SX.next ?_
    refine CW.seq ?_
    refine CW.seq ?_
    refine CW.reg [0, 1, 2, 3, 4, 5] rfl ?_   -- 5, fieldpoly.go:117
    refine s_mv 13 rfl rfl ?_
    refine s_nil 14 rfl rfl ?_
    refine s_fa 15 rfl rfl ?_
    refine s_ld 16 rfl rfl (fun _ h => h.cell hrc) ?_
    refine s_call1 17 rfl rfl rfl rfl (fun w hw => size_spec g m w hm (hw.old hf)) (fun _ _ => trivial) ?_
    refine s_mv 18 rfl rfl ?_
    refine SX.next ?_
    refine CW.block ?_
    refine CW.loop (G := Nat × Option Addr × Nat) (fun q => [(0, .pointer (some ⟨r, 0, none⟩)), (1, .slice q1.1 a.length q1.2), (5, .slice q.2.1 (rootsN m a q.1).length q.2.2), (17, .int .i64 ((N m + 1 : Nat) : Int)), (18, .int .i64 (q.1 : Nat))]) (fun q => Sto w [own 3 1 q.2.1 (rootsN m a q.1).length q.2.2 (nats .i64 (rootsN m a q.1)), own 3 1 q1.1 a.length q1.2 (nats .i64 a)]) (fun q => q.1 ≤ N m + 1 ∧ (rootsN m a q.1).length ≤ q.2.2) (fun q => N m + 1 - q.1) (0, none, 0) ⟨rfl, rfl, rfl, rfl, rfl, trivial⟩ (fun _ h => h.begin_ _ 1) ⟨Nat.zero_le _, Nat.le_refl _⟩ ?_
    intro q hq
    have hq0 := hq.1
    have hrl := rootsN_len m a q.1
    refine CW.seq ?_
    refine CW.reg [0] rfl ?_   -- 6, fieldpoly.go:117
    refine s_lt 19 rfl rfl rfl rfl ?_
    refine SX.next ?_
    refine CW.seq ?_
    refine CW.test rfl (fun hc => ?_) (fun hc => ?_)
    · skip
      refine CW.skip ?_
      refine KN.code ?_
      refine CW.seq ?_
      refine CW.block ?_
      refine CW.seq ?_
      refine CW.reg [0, 1] rfl ?_   -- 7, fieldpoly.go:117
      refine s_mv 20 rfl rfl ?_
      refine s_as 6 rfl rfl ?_
      refine SX.next ?_
      refine CW.seq ?_
      refine CW.reg [0, 1, 2, 3, 4] rfl ?_   -- 8, fieldpoly.go:118
      refine s_mv 21 rfl rfl ?_
      refine s_mv 22 rfl rfl ?_
      refine s_mv 23 rfl rfl ?_
      refine s_call1 24 rfl rfl rfl rfl (v := .int .i64 (evL m a q.1 : Nat)) (fun w hw => by have := peval_spec r g m q1.1 a.length q1.2 (a.map Int.ofNat) (q.1 : Nat) w hm (hw.old hr) (by rw [← nats_ints]; exact (hw.has (i := 1) rfl).of_own) (by omega); rw [hlo, lo_nat (by omega)] at this; exact this) (fun _ _ => trivial) ?_
      refine s_eq 25 rfl rfl rfl rfl ?_
      refine SX.next ?_
      refine CW.test rfl (fun hcz => ?_) (fun hcz => ?_)
      · skip
        have hnx : rootsN m a (q.1 + 1) = rootsN m a q.1 ++ [q.1] := if_pos (by omega)
        refine CW.reg [0, 1, 2, 3, 4] rfl ?_   -- 9, fieldpoly.go:119
        refine s_mv 26 rfl rfl ?_
        refine s_mv 27 rfl rfl ?_
        refine s_bsl 28 rfl rfl (cells := #[.int .i64 (q.1 : Nat)]) (by kernel_rfl) rfl (fun _ _ => trivial) (fun gb => ?_)
        refine s_app 29 1 rfl rfl rfl rfl (ys := [.int .i64 (q.1 : Nat)]) (fun w hw => Has.cong ((hw.has (i := 0) rfl).blk_sl (m := 1) rfl) rfl) rfl rfl (by omega) (by unfold maxLen; omega) (by omega) (fun _ _ _ _ => trivial) (fun A2 c2 hc2 => ?_)
        refine s_as 5 rfl rfl ?_
        refine SX.end_ ?_
        refine KN.blk ?_
        refine KN.code ?_
        refine CW.reg [0, 1] rfl ?_   -- 10, fieldpoly.go:117
        refine s_add 30 rfl rfl rfl (r := ((q.1 + 1 : Nat) : Int)) (w64 (by omega)) ?_
        refine s_mv 18 rfl rfl ?_
        refine SX.end_ ?_
        exact KN.back (q.1 + 1, A2, c2) ⟨rfl, rfl, by simp only [hnx, List.length_append, List.length_singleton]; rfl, rfl, rfl, trivial⟩ (fun _ h => by simp only [hnx]; rw [← nats_snoc, List.length_append]; exact h.pick [1, 1] rfl) ⟨by simp only; omega, by simp only [hnx, List.length_append, List.length_singleton]; exact hc2⟩ (by simp only; omega)
      · skip
        have hnx : rootsN m a (q.1 + 1) = rootsN m a q.1 := if_neg (by omega)
        refine CW.skip ?_
        refine KN.blk ?_
        refine KN.code ?_
        refine CW.reg [0, 1] rfl ?_   -- 10, fieldpoly.go:117
        refine s_add 30 rfl rfl rfl (r := ((q.1 + 1 : Nat) : Int)) (w64 (by omega)) ?_
        refine s_mv 18 rfl rfl ?_
        refine SX.end_ ?_
        exact KN.back (q.1 + 1, q.2) ⟨rfl, rfl, by simp only [hnx]; rfl, rfl, rfl, trivial⟩ (fun _ h => by simp only [hnx]; exact h) ⟨by simp only; omega, by simp only [hnx]; exact hq.2⟩ (by simp only; omega)
    · skip
      have hz : rootsN m a q.1 = rootsN m a (2 ^ m) := by rw [show q.1 = 2 ^ m by omega]
      refine CW.exit rfl ?_
      refine KN.code ?_
      refine CW.seq ?_
      refine CW.reg [0, 1] rfl ?_   -- 11, fieldpoly.go:122
      refine s_mv 31 rfl rfl ?_
      refine s_as 4 rfl rfl ?_
      refine SX.next ?_
      refine CW.ret ?_
      exact KN.ret (rs := [.tmp 4]) Tryd.results55 rfl (fun w hw => ⟨q.2, by rw [h0, ← hz]; rfl, by rw [h0, ← hz]; exact hq.2, by rw [h0, ← hz]; exact hw.pick [0] rfl⟩)

/-! ### The product of x + a -/
theorem _root_.Go.Sx.St.blkOwn {F : Nat → Prop} {w₀ w : World} {L : List Atom} {q g E sz c : Nat} {cs : Array Value} (hi : L[q]? = some (blk g E cs)) (hc : cs.size = c * sz) (hm : c ≤ maxLen) (h : St F w₀ L w) : St F w₀ (L.set q (own E sz (some ⟨g, 0, none⟩) c c cs.toList)) w :=
  h.swap hi (fun _ D ⟨h1, h2⟩ _ => ⟨D, ⟨⟨by simpa using hc, .inr ⟨g, c, cs, rfl, Nat.zero_le _, h2, Nat.le_refl _, hm, hc, by rw [List.take_of_length_le (by simp [hc])]⟩⟩, fun k => by rw [h1]; simp [ob]⟩, fun _ h => h⟩)
/-- Times x + a, so far. -/
def frF (m : Nat) (p : List Nat) (a i j : Nat) : Nat := if j < i then cf (0 :: p) j ^^^ gm m (cf p j) a else cf (0 :: p) j
def frS (m : Nat) (p : List Nat) (a : Nat) : List Nat := (List.range (p.length + 1)).map (frF m p a p.length)
def frP (m : Nat) (l : List Int) : Nat → List Nat
  | 0 => [1]
  | i + 1 => frS m (frP m l i) (lo m (l.getD i 0))
theorem frP_len (m : Nat) (l : List Int) : ∀ i, (frP m l i).length = i + 1
  | 0 => rfl
  | i + 1 => by simp [frP, frS, frP_len m l i]
theorem frF_lt {m : Nat} (hm : Ok m) {p : List Nat} (hp : ∀ x ∈ p, x < 2 ^ m) (a i j : Nat) : frF m p a i j < 2 ^ m := by
  have h0 : ∀ x ∈ (0 :: p), x < 2 ^ m := fun x hx => by
    rcases List.mem_cons.1 hx with rfl | hx
    · exact Nat.two_pow_pos m
    · exact hp x hx
  unfold frF
  split
  · exact xor_lt (cf_lt h0 (Nat.two_pow_pos m) j) (gm_lt hm (cf_lt hp (Nat.two_pow_pos m) j) a)
  · exact cf_lt h0 (Nat.two_pow_pos m) j
theorem frP_lt {m : Nat} (hm : Ok m) (l : List Int) : ∀ i, ∀ x ∈ frP m l i, x < 2 ^ m
  | 0, x, hx => by
    simp [frP] at hx
    subst hx
    exact one_lt hm
  | i + 1, x, hx => by
    obtain ⟨j, _, rfl⟩ := List.mem_map.1 hx
    exact frF_lt hm (frP_lt hm l i) _ _ j
theorem frF_next (m : Nat) (p : List Nat) (a i : Nat) : (fun j => if j = i then cf (0 :: p) i ^^^ gm m (cf p i) a else frF m p a i j) = frF m p a (i + 1) := by
  funext j
  unfold frF
  by_cases h : j = i
  · subst h; simp
  · rw [if_neg h]
    by_cases h2 : j < i
    · rw [if_pos h2, if_pos (by omega)]
    · rw [if_neg h2, if_neg (by omega)]
theorem frF_zero (m : Nat) (p : List Nat) (a : Nat) : nats .i64 (0 :: p) = ints .i64 (tabN (p.length + 1) (frF m p a 0)) := by
  rw [nats_tabN]
  rfl
theorem frF_all (m : Nat) (p : List Nat) (a : Nat) : ints .i64 (tabN (p.length + 1) (frF m p a p.length)) = nats .i64 (frS m p a) := by
  unfold frS tabN
  exact tab_nats _ _
theorem trim_nats {m : Nat} {p : List Nat} (hp : ∀ x ∈ p, x < 2 ^ m) : trim (lowL m (p.map Int.ofNat)) = trim p := by rw [lowL_ofNat hp]

theorem pfrom_spec (r g m : Nat) (A : Option Addr) (n c : Nat) (l : List Int) (w : World) (hm : Ok m) (hr : Has (ringA r g m) w) (ha : Has (sl 1 A n (ints .i64 l)) w) (hn : n ≤ 2048) : SpecLE Tryd.prog 43 [.pointer (some ⟨r, 0, none⟩), .slice A n c] w (trim (frP m l l.length)) := by
  obtain ⟨hrc, hf⟩ := ring_at hr
  have hla := ints_len ha
  subst hla
  refine spec_of Tryd.func43 rfl Tryd.ntmps43 rfl ?_
  refine CW.seq ?_
  refine CW.reg [0, 1] rfl ?_   -- 0, fieldpoly.go:126
  refine s_as 4 rfl rfl ?_
  refine s_as 5 rfl rfl ?_
  refine SX.next ?_
  refine CW.seq ?_
  refine CW.seq ?_
  refine CW.reg [0, 1, 2] rfl ?_   -- 1, fieldpoly.go:127
  refine s_mv 10 rfl rfl ?_
  refine s_len 11 rfl rfl ?_
  refine s_gt 12 rfl rfl rfl (decide_eq_false (by omega)) ?_
  refine SX.next ?_
  refine CW.condF rfl ?_
  refine CW.skip ?_
  refine KN.code ?_
  refine CW.seq ?_
  refine CW.reg [0, 1] rfl ?_   -- 3, fieldpoly.go:130
  refine s_bsl 14 rfl rfl (cells := #[.int .i64 1]) (by kernel_rfl) rfl (fun _ _ => trivial) (fun gb => ?_)
  refine s_as 6 rfl rfl ?_
  refine SX.next ?_
  refine CW.seq ?_
  refine CW.seq ?_
  refine CW.reg [0, 1, 2] rfl ?_   -- 4, fieldpoly.go:131
  refine s_mv 15 rfl rfl ?_
  refine s_len 16 rfl rfl ?_
  refine s_mv 17 rfl rfl ?_
  refine SX.next ?_
  refine CW.block ?_
  refine CW.loop (G := Nat × Option Addr × Nat) (fun q => [(0, .pointer (some ⟨r, 0, none⟩)), (6, .slice q.2.1 (q.1 + 1) q.2.2), (15, .slice A l.length c), (16, .int .i64 (l.length : Nat)), (17, .int .i64 (q.1 : Nat))]) (fun q => Sto w [own 3 1 q.2.1 (q.1 + 1) q.2.2 (nats .i64 (frP m l q.1))]) (fun q => q.1 ≤ l.length) (fun q => l.length - q.1) (0, some ⟨gb, 0, none⟩, 1) ⟨rfl, rfl, rfl, rfl, rfl, trivial⟩ (fun _ h => h.blkOwn (q := 0) (c := 1) rfl rfl (by unfold maxLen; omega)) (Nat.zero_le _) ?_
  intro q hq
  have hpl := frP_len m l q.1
  have hpt := frP_lt hm l q.1
  refine CW.seq ?_
  refine CW.reg [0] rfl ?_   -- 5, fieldpoly.go:131
  refine s_lt 18 rfl rfl rfl rfl ?_
  refine SX.next ?_
  refine CW.seq ?_
  refine CW.test rfl (fun hc => ?_) (fun hc => ?_)
  · skip
    refine CW.skip ?_
    refine KN.code ?_
    refine CW.seq ?_
    refine CW.block ?_
    refine CW.seq ?_
    refine CW.reg [0, 1, 2] rfl ?_   -- 6, fieldpoly.go:131
    refine s_iaV 19 q.1 (fun w hw => hw.old ha) rfl rfl rfl rfl (by omega) ?_
    refine s_ldV 20 (fun w hw => hw.old ha) rfl rfl (by rw [Nat.mul_one]; exact intsAt (by omega)) (by omega) ?_
    refine s_as 8 rfl rfl ?_
    refine SX.next ?_
    refine CW.seq ?_
    refine CW.reg [0, 1, 2, 3] rfl ?_   -- 7, fieldpoly.go:132
    refine s_bsl 21 rfl rfl (cells := #[.int .i64 0]) (by kernel_rfl) rfl (fun _ _ => trivial) (fun g3 => ?_)
    refine SX.pre (fun _ h => h.blkOwn (q := 0) (c := 1) (sz := 1) rfl rfl (by unfold maxLen; omega)) ?_
    refine s_mv 22 rfl rfl ?_
    refine s_app 23 0 rfl rfl rfl rfl (ys := nats .i64 (frP m l q.1)) (fun w hw => (hw.has (i := 1) rfl).of_own) (nats_one _ _) rfl (by omega) (by unfold maxLen; omega) (by omega) (fun _ _ _ _ => trivial) (fun A2 c2 hc2 => ?_)
    refine s_as 6 rfl rfl ?_
    refine SX.next ?_
    refine CW.seq ?_
    refine CW.reg [0, 1, 2, 3] rfl ?_   -- 8, fieldpoly.go:133
    refine s_mv 24 rfl rfl ?_
    refine s_len 25 rfl rfl ?_
    refine s_sub 26 rfl rfl rfl (r := ((q.1 + 1 : Nat) : Int)) (by rw [show ((1 + (q.1 + 1) : Nat) : Int) - 1 = ((q.1 + 1 : Nat) : Int) by omega]; exact w64 (by omega)) ?_
    refine s_mv 27 rfl rfl ?_
    refine SX.next ?_
    refine CW.block ?_
    refine CW.loop (G := Nat) (fun i => [(0, .pointer (some ⟨r, 0, none⟩)), (6, .slice A2 (1 + (q.1 + 1)) c2), (8, .int .i64 (l.getD q.1 0)), (15, .slice A l.length c), (16, .int .i64 (l.length : Nat)), (17, .int .i64 (q.1 : Nat)), (26, .int .i64 ((q.1 + 1 : Nat) : Int)), (27, .int .i64 (i : Nat))]) (fun i => Sto w [own 3 1 A2 (1 + (q.1 + 1)) c2 (ints .i64 (tabN ((frP m l q.1).length + 1) (frF m (frP m l q.1) (lo m (l.getD q.1 0)) i)))]) (fun i => i ≤ q.1 + 1) (fun i => q.1 + 1 - i) 0 ⟨rfl, rfl, rfl, rfl, rfl, rfl, rfl, rfl, trivial⟩ (fun _ h => by rw [← frF_zero]; exact h.pick [0] rfl) (Nat.zero_le _) ?_
    intro i hi
    refine CW.seq ?_
    refine CW.reg [0] rfl ?_   -- 9, fieldpoly.go:133
    refine s_lt 28 rfl rfl rfl rfl ?_
    refine SX.next ?_
    refine CW.seq ?_
    refine CW.test rfl (fun hc => ?_) (fun hc => ?_)
    · skip
      refine CW.skip ?_
      refine KN.code ?_
      refine CW.seq ?_
      refine CW.block ?_
      refine CW.seq ?_
      refine CW.reg [0, 1] rfl ?_   -- 10, fieldpoly.go:133
      refine s_mv 29 rfl rfl ?_
      refine s_as 9 rfl rfl ?_
      refine SX.next ?_
      refine CW.regD (.st true 0 (.st true 1 (.st true 2 (.st true 4 (.st true 5 (.st true 6 (.st true 7 (.st true 8 (.st true 9 (.st true 10 (.st true 11 (.st true 13 (.alt 3 (.st false 12 (.st false 14 (.st true 15 (.st true 16 (.st false 17 .done))))) (.st false 12 (.alt 3 (.st false 14 (.st true 15 (.st true 16 (.st false 17 .done)))) (.st false 14 (.st false 3 (.st true 15 (.st true 16 (.st false 17 .done)))))))))))))))))))) (Sto w []) mixed (by kernel_rfl) (fun _ h => h.drew) (fun _ h => h.pick [] rfl) ?_
      refine s_mv 30 rfl rfl ?_
      refine s_mv 31 rfl rfl ?_
      refine s_iaO 32 0 i rfl rfl rfl rfl rfl (by omega) ?_
      refine s_mv 34 rfl rfl ?_
      refine s_nil 35 rfl rfl ?_
      refine s_fa 36 rfl rfl ?_
      refine s_ldS 37 rfl rfl (fun _ h => h.cell hrc) ?_
      refine s_mv 38 rfl rfl ?_
      refine s_mv 39 rfl rfl ?_
      refine s_add 40 rfl rfl rfl (r := ((i + 1 : Nat) : Int)) (w64 (by omega)) ?_
      refine s_iaO 41 0 (i + 1) rfl rfl rfl rfl rfl (by omega) ?_
      refine s_mv 43 rfl rfl ?_
      refine SX.alt ?_ ?_
      · skip
        refine s_ldO 33 0 rfl rfl rfl (v := .int .i64 (cf (0 :: (frP m l q.1)) i : Nat)) (by rw [tabN_at (by omega)]; unfold frF; rw [if_neg (by omega)]) ?_
        refine s_ldO 42 0 rfl rfl rfl (v := .int .i64 (cf (frP m l q.1) i : Nat)) (by rw [tabN_at (by omega)]; unfold frF; rw [if_neg (by omega), cf_cons_succ]) ?_
        refine s_call1 44 rfl rfl rfl rfl (v := .int .i64 (gm m (cf (frP m l q.1) i) (lo m (l.getD q.1 0)) : Nat)) (fun w hw => by have := mul_spec g m (cf (frP m l q.1) i : Nat) (l.getD q.1 0) w hm (hw.old hf); rw [lo_nat (cf_lt hpt (Nat.two_pow_pos m) i)] at this; exact this) (fun _ h => h.pick [] rfl) ?_
        refine s_bit 45 rfl rfl rfl rfl (ibit_xor_nat (pow63 hm (by have := frF_lt hm hpt (lo m (l.getD q.1 0)) 0 i; unfold frF at this; rw [if_neg (by omega)] at this; exact this)) (pow63 hm (gm_lt hm (cf_lt hpt (Nat.two_pow_pos m) i) _))) ?_
        refine s_iaO 46 0 i rfl rfl rfl rfl rfl (by omega) ?_
        refine s_stO 0 rfl rfl rfl rfl rfl (by omega) (fun _ h => h.pick [] rfl) ?_
        refine SX.end_ ?_
        refine KN.blk ?_
        refine KN.code ?_
        refine CW.reg [0, 1] rfl ?_   -- 12, fieldpoly.go:133
        refine s_add 47 rfl rfl rfl (r := ((i + 1 : Nat) : Int)) (w64 (by omega)) ?_
        refine s_mv 27 rfl rfl ?_
        refine SX.end_ ?_
        exact KN.back (i + 1) ⟨rfl, rfl, rfl, rfl, rfl, rfl, rfl, rfl, trivial⟩ (fun _ h => by rw [← frF_next, ← tabN_setL]; exact h) (by omega) (by omega)
      · skip
        refine s_ldO 42 0 rfl rfl rfl (v := .int .i64 (cf (frP m l q.1) i : Nat)) (by rw [tabN_at (by omega)]; unfold frF; rw [if_neg (by omega), cf_cons_succ]) ?_
        refine SX.alt ?_ ?_
        · skip
          refine s_ldO 33 0 rfl rfl rfl (v := .int .i64 (cf (0 :: (frP m l q.1)) i : Nat)) (by rw [tabN_at (by omega)]; unfold frF; rw [if_neg (by omega)]) ?_
          refine s_call1 44 rfl rfl rfl rfl (v := .int .i64 (gm m (cf (frP m l q.1) i) (lo m (l.getD q.1 0)) : Nat)) (fun w hw => by have := mul_spec g m (cf (frP m l q.1) i : Nat) (l.getD q.1 0) w hm (hw.old hf); rw [lo_nat (cf_lt hpt (Nat.two_pow_pos m) i)] at this; exact this) (fun _ h => h.pick [] rfl) ?_
          refine s_bit 45 rfl rfl rfl rfl (ibit_xor_nat (pow63 hm (by have := frF_lt hm hpt (lo m (l.getD q.1 0)) 0 i; unfold frF at this; rw [if_neg (by omega)] at this; exact this)) (pow63 hm (gm_lt hm (cf_lt hpt (Nat.two_pow_pos m) i) _))) ?_
          refine s_iaO 46 0 i rfl rfl rfl rfl rfl (by omega) ?_
          refine s_stO 0 rfl rfl rfl rfl rfl (by omega) (fun _ h => h.pick [] rfl) ?_
          refine SX.end_ ?_
          refine KN.blk ?_
          refine KN.code ?_
          refine CW.reg [0, 1] rfl ?_   -- 12, fieldpoly.go:133
          refine s_add 47 rfl rfl rfl (r := ((i + 1 : Nat) : Int)) (w64 (by omega)) ?_
          refine s_mv 27 rfl rfl ?_
          refine SX.end_ ?_
          exact KN.back (i + 1) ⟨rfl, rfl, rfl, rfl, rfl, rfl, rfl, rfl, trivial⟩ (fun _ h => by rw [← frF_next, ← tabN_setL]; exact h) (by omega) (by omega)
        · skip
          refine s_call1 44 rfl rfl rfl rfl (v := .int .i64 (gm m (cf (frP m l q.1) i) (lo m (l.getD q.1 0)) : Nat)) (fun w hw => by have := mul_spec g m (cf (frP m l q.1) i : Nat) (l.getD q.1 0) w hm (hw.old hf); rw [lo_nat (cf_lt hpt (Nat.two_pow_pos m) i)] at this; exact this) (fun _ h => h.pick [] rfl) ?_
          refine s_ldO 33 0 rfl rfl rfl (v := .int .i64 (cf (0 :: (frP m l q.1)) i : Nat)) (by rw [tabN_at (by omega)]; unfold frF; rw [if_neg (by omega)]) ?_
          refine s_bit 45 rfl rfl rfl rfl (ibit_xor_nat (pow63 hm (by have := frF_lt hm hpt (lo m (l.getD q.1 0)) 0 i; unfold frF at this; rw [if_neg (by omega)] at this; exact this)) (pow63 hm (gm_lt hm (cf_lt hpt (Nat.two_pow_pos m) i) _))) ?_
          refine s_iaO 46 0 i rfl rfl rfl rfl rfl (by omega) ?_
          refine s_stO 0 rfl rfl rfl rfl rfl (by omega) (fun _ h => h.pick [] rfl) ?_
          refine SX.end_ ?_
          refine KN.blk ?_
          refine KN.code ?_
          refine CW.reg [0, 1] rfl ?_   -- 12, fieldpoly.go:133
          refine s_add 47 rfl rfl rfl (r := ((i + 1 : Nat) : Int)) (w64 (by omega)) ?_
          refine s_mv 27 rfl rfl ?_
          refine SX.end_ ?_
          exact KN.back (i + 1) ⟨rfl, rfl, rfl, rfl, rfl, rfl, rfl, rfl, trivial⟩ (fun _ h => by rw [← frF_next, ← tabN_setL]; exact h) (by omega) (by omega)
    · skip
      obtain rfl : i = q.1 + 1 := by omega
      have hall := frF_all m (frP m l q.1) (lo m (l.getD q.1 0))
      rw [hpl] at hall
      refine CW.exit rfl ?_
      refine KN.blk ?_
      refine KN.code ?_
      refine CW.reg [0, 1] rfl ?_   -- 13, fieldpoly.go:131
      refine s_add 48 rfl rfl rfl (r := ((q.1 + 1 : Nat) : Int)) (w64 (by omega)) ?_
      refine s_mv 17 rfl rfl ?_
      refine SX.end_ ?_
      exact KN.back (q.1 + 1, A2, c2) ⟨rfl, by rw [show 1 + (q.1 + 1) = q.1 + 1 + 1 by omega]; rfl, rfl, rfl, rfl, trivial⟩ (fun _ h => by
        show Sto w [own 3 1 A2 (q.1 + 1 + 1) c2 (nats .i64 (frS m (frP m l q.1) (lo m (l.getD q.1 0))))] _
        rw [hpl, show 1 + (q.1 + 1) = q.1 + 1 + 1 by omega, hall] at h
        exact h) (by simp only; omega) (by simp only; omega)
  · skip
    have hqe : q.1 = l.length := by omega
    have htn := trim_nats hpt
    refine CW.exit rfl ?_
    refine KN.code ?_
    refine CW.seq ?_
    refine CW.reg [0, 1, 2, 3, 4] rfl ?_   -- 14, fieldpoly.go:137
    refine s_mv 49 rfl rfl ?_
    refine s_mv 50 rfl rfl ?_
    refine s_call 51 rfl rfl rfl rfl (fun w hw => by have := trim_spec r g m q.2.1 (q.1 + 1) q.2.2 ((frP m l q.1).map Int.ofNat) w hm (hw.old hr) (by rw [← nats_ints]; exact (hw.has (i := 0) rfl).of_own) (by omega); rw [htn] at this; exact this) (fun _ _ => trivial) (fun q5 hq5 => ?_)
    refine s_as 4 rfl rfl ?_
    refine s_as 5 rfl rfl ?_
    refine SX.next ?_
    refine CW.ret ?_
    exact KN.ret (rs := [.tmp 4, .tmp 5]) Tryd.results43 rfl (fun w hw => ⟨q5, by rw [← hqe]; rfl, by rw [← hqe]; exact hq5, by rw [← hqe]; exact hw.pick [0] rfl⟩)

/-! ### Divisors -/
theorem tl_le_cf {l : List Nat} {K : Nat} (h : ∀ j, K ≤ j → cf l j = 0) : tl l ≤ K := by
  by_cases h0 : tl l = 0
  · omega
  · exact Nat.le_of_not_lt (fun hlt => cf_top l h0 (h _ (by omega)))
theorem gm_div {m : Nat} (hm : Ok m) {x y : Nat} (hx : x < 2 ^ m) (hy : y < 2 ^ m) (h0 : y ≠ 0) : gm m (gm m x (inv m y)) y = x := by
  rw [gm_assoc hm hx (inv_lt hm y) hy, gm_comm hm (inv_lt hm y) hy, gm_inv hm hy h0, gm_one_right hm hx]
theorem divR_hi {m : Nat} (hm : Ok m) {b : List Nat} (hb : ∀ x ∈ b, x < 2 ^ m) (h0 : b.length ≠ 0) (ht : cf b (b.length - 1) ≠ 0) : ∀ (n : Nat) {R : Nat → Nat}, (∀ j, R j < 2 ^ m) → (∀ j, n + b.length - 1 ≤ j → R j = 0) → ∀ j, b.length - 1 ≤ j → divR m b n R j = 0
  | 0, _, _, hz, j, hj => hz j (by omega)
  | n + 1, R, hR, hz, j, hj => by
    refine divR_hi hm hb h0 ht n (fun j => dSi_lt hm hR (gm_lt hm (hR _) _) j) (fun i hi => ?_) j hj
    unfold dSi
    by_cases h : i = n + b.length - 1
    · rw [if_pos (by omega)]
      rw [← h, show i - n = b.length - 1 by omega, gm_div hm (hR i) (cf_lt hb (Nat.two_pow_pos m) _) ht, Nat.xor_self]
    · rw [if_neg (by omega)]
      exact hz i (by omega)
theorem rest_hi {m : Nat} (hm : Ok m) {a b : List Nat} (ha : ∀ x ∈ a, x < 2 ^ m) (hb : ∀ x ∈ b, x < 2 ^ m) (h0 : b.length ≠ 0) (ht : cf b (b.length - 1) ≠ 0) (j : Nat) (hj : b.length - 1 ≤ j) : divR m b (a.length + 1 - b.length) (cf a) j = 0 :=
  divR_hi hm hb h0 ht _ (cf_lt ha (Nat.two_pow_pos m)) (fun i hi => cf_out (by omega)) j hj
theorem restP_len {m : Nat} (hm : Ok m) {a b : List Nat} (ha : ∀ x ∈ a, x < 2 ^ m) (hb : ∀ x ∈ b, x < 2 ^ m) (h0 : b.length ≠ 0) (ht : cf b (b.length - 1) ≠ 0) : (restP m a b).length < b.length := by
  have : tl ((List.range a.length).map (divR m b (a.length + 1 - b.length) (cf a))) ≤ b.length - 1 := tl_le_cf (fun j hj => by
    rw [cf_range]
    split
    · exact rest_hi hm ha hb h0 ht j hj
    · rfl)
  unfold restP pl
  rw [trim_length]
  omega
/-- Elements, without noughts at the end. -/
structure Tr (m : Nat) (a : List Nat) : Prop where
  lt : ∀ x ∈ a, x < 2 ^ m
  eq : trim a = a
theorem Tr.top {m : Nat} {a : List Nat} (h : Tr m a) (h0 : a.length ≠ 0) : cf a (a.length - 1) ≠ 0 := by
  have h1 : tl a = a.length := by rw [← trim_length, h.eq]
  rw [← h1]
  exact cf_top a (by omega)
theorem pl_tr {m n : Nat} {f : Nat → Nat} (h : ∀ j, f j < 2 ^ m) : Tr m (pl n f) := by
  refine ⟨trim_lt (fun x hx => ?_), trim_pl n f⟩
  obtain ⟨j, _, rfl⟩ := List.mem_map.1 hx
  exact h j
theorem trimLow_tr (m : Nat) (l : List Int) : Tr m (trim (lowL m l)) := ⟨trimLow_lt m l, trim_trim _⟩
theorem restP_tr {m : Nat} (hm : Ok m) {a b : List Nat} (ha : Tr m a) : Tr m (restP m a b) := pl_tr (divR_lt hm _ (cf_lt ha.lt (Nat.two_pow_pos m)))
/-- The greatest common divisor, but for a factor. -/
noncomputable def gcdP (m : Nat) : Nat → List Nat → List Nat → List Nat
  | 0, a, _ => a
  | k + 1, a, b => if b.length = 0 then a else gcdP m k b (restP m a b)
theorem gcdP_more {m : Nat} (hm : Ok m) : ∀ {k i : Nat} {a b : List Nat}, Tr m a → Tr m b → b.length < k → b.length < i → gcdP m k a b = gcdP m i a b
  | 0, _, _, _, _, _, h, _ => by omega
  | _ + 1, 0, _, _, _, _, _, h => by omega
  | k + 1, i + 1, a, b, ha, hb, h1, h2 => by
    unfold gcdP
    split
    · rfl
    · rename_i h0
      have := restP_len hm ha.lt hb.lt h0 (hb.top h0)
      exact gcdP_more hm hb (restP_tr hm ha) (by omega) (by omega)
noncomputable def gcdE (m : Nat) (a b : List Nat) : List Nat := gcdP m (b.length + 1) a b
theorem gcdE_step {m : Nat} (hm : Ok m) {a b : List Nat} (ha : Tr m a) (hb : Tr m b) (h0 : b.length ≠ 0) : gcdE m b (restP m a b) = gcdE m a b := by
  unfold gcdE
  have := restP_len hm ha.lt hb.lt h0 (hb.top h0)
  rw [gcdP_more hm hb (restP_tr hm ha) (Nat.lt_succ_self _) (show _ < b.length by omega)]
  show _ = gcdP m (b.length + 1) a b
  conv => rhs; unfold gcdP
  rw [if_neg h0]
theorem gcdE_last {m : Nat} {a b : List Nat} (h0 : b.length = 0) : gcdE m a b = a := by
  unfold gcdE gcdP
  rw [if_pos h0]
noncomputable def monicP (m : Nat) (a : List Nat) : List Nat := if a.length = 0 then [] else scaleP m a (inv m (cf a (a.length - 1)))

/-- What the common divisor's loop keeps. -/
structure GcdL (m : Nat) (a b : List Nat) (q : List Nat × List Nat × (Option Addr × Nat) × (Option Addr × Nat)) : Prop where
  h1 : Tr m q.1
  h2 : Tr m q.2.1
  l1 : q.1.length ≤ 4294967296
  l2 : q.2.1.length ≤ 4294967296
  eq : gcdE m q.1 q.2.1 = gcdE m a b
theorem pinvN {g m : Nat} {w : World} {x : Nat} (hm : Ok m) (hf : Has (fieldA g m) w) (hx : x < 2 ^ m) (h0 : x ≠ 0) : Spec1 Tryd.prog 81 [.pointer (some ⟨g, 0, none⟩), .int .i64 (x : Nat)] w (two (.int .i64 (inv m x : Nat)) .nilIface) := by
  have := inv_spec g m x w hm hf (by rw [lo_nat hx]; exact h0); rw [lo_nat hx] at this; exact this
theorem Tr.low {m : Nat} {a : List Nat} (h : Tr m a) : trim (lowL m (a.map Int.ofNat)) = a := by rw [lowL_ofNat h.lt, h.eq]

theorem pgcd_spec (r g m : Nat) (A : Option Addr) (n c : Nat) (l : List Int) (B : Option Addr) (k d : Nat) (l2 : List Int) (w : World) (hm : Ok m) (hr : Has (ringA r g m) w) (ha : Has (sl 1 A n (ints .i64 l)) w) (hb : Has (sl 1 B k (ints .i64 l2)) w) (hn : n ≤ 4294967296) (hk : k ≤ 4294967296) : SpecL Tryd.prog 46 [.pointer (some ⟨r, 0, none⟩), .slice A n c, .slice B k d] w (monicP m (gcdE m (trim (lowL m l)) (trim (lowL m l2)))) := by
  obtain ⟨hrc, hf⟩ := ring_at hr
  have hla := ints_len ha
  subst hla
  have hlb := ints_len hb
  subst hlb
  have hA := trimLow_lt m l
  have hB := trimLow_lt m l2
  have hta := trim_length (lowL m l)
  have htb := trim_length (lowL m l2)
  have hla1 := tl_le (lowL m l)
  have hlb1 := tl_le (lowL m l2)
  have hll1 := lowL_len m l
  have hll2 := lowL_len m l2
  generalize ea : trim (lowL m l) = a at *
  generalize eb : trim (lowL m l2) = b at *
  have hta2 : Tr m a := by rw [← ea]; exact trimLow_tr m l
  have htb2 : Tr m b := by rw [← eb]; exact trimLow_tr m l2
  have hla5 : a.length ≤ 4294967296 := by omega
  have hlb5 : b.length ≤ 4294967296 := by omega
  refine spec_of Tryd.func46 rfl Tryd.ntmps46 rfl ?_
  refine CW.seq ?_
  refine CW.reg [0] rfl ?_   -- 0, fieldpoly.go:141
  refine s_as 6 rfl rfl ?_
  refine SX.next ?_
  refine CW.seq ?_
  refine CW.reg [0, 1, 2, 3, 4, 5, 6, 7] rfl ?_   -- 1, fieldpoly.go:142
  refine s_mv 12 rfl rfl ?_
  refine s_mv 13 rfl rfl ?_
  refine s_call 14 rfl rfl rfl rfl (fun w hw => by have := trim_spec r g m A l.length c l w hm (hw.old hr) (hw.old ha) (by omega); rw [ea] at this; exact this) (fun _ _ => trivial) (fun q1 hq1 => ?_)
  refine s_mv 15 rfl rfl ?_
  refine s_mv 16 rfl rfl ?_
  refine s_call 17 rfl rfl rfl rfl (fun w hw => by have := trim_spec r g m B l2.length d l2 w hm (hw.old hr) (hw.old hb) (by omega); rw [eb] at this; exact this) (fun _ _ => trivial) (fun q2 hq2 => ?_)
  refine s_as 1 rfl rfl ?_
  refine s_as 2 rfl rfl ?_
  refine SX.next ?_
  refine CW.seq ?_
  refine CW.block ?_
  refine CW.loop (G := List Nat × List Nat × (Option Addr × Nat) × (Option Addr × Nat)) (fun q => [(0, .pointer (some ⟨r, 0, none⟩)), (1, .slice q.2.2.1.1 q.1.length q.2.2.1.2), (2, .slice q.2.2.2.1 q.2.1.length q.2.2.2.2)]) (fun q => Sto w [own 3 1 q.2.2.2.1 q.2.1.length q.2.2.2.2 (nats .i64 q.2.1), own 3 1 q.2.2.1.1 q.1.length q.2.2.1.2 (nats .i64 q.1)]) (GcdL m a b) (fun q => q.2.1.length) (a, b, q1, q2) ⟨rfl, rfl, rfl, trivial⟩ (fun _ h => h) ⟨hta2, htb2, hla5, hlb5, rfl⟩ ?_
  rintro ⟨a1, b1, q3, q4⟩ hq
  obtain ⟨hq1, hq2, hq3, hq4, hq5⟩ := hq
  simp only at hq1 hq2 hq3 hq4 hq5
  refine CW.seq ?_
  refine CW.seq ?_
  refine CW.reg [0, 1, 2] rfl ?_   -- 2, fieldpoly.go:143
  refine s_mv 18 rfl rfl ?_
  refine s_len 19 rfl rfl ?_
  refine s_gt 20 rfl rfl rfl rfl ?_
  refine SX.next ?_
  refine CW.test rfl (fun hc => ?_) (fun hc => ?_)
  · skip
    dsimp only at hc
    have hb10 : b1.length ≠ 0 := by omega
    have hrl := restP_len hm hq1.lt hq2.lt hb10 (hq2.top hb10)
    refine CW.skip ?_
    refine KN.code ?_
    refine CW.block ?_
    refine CW.seq ?_
    refine CW.reg [0, 1, 2, 3, 4, 5, 6, 7, 8, 9, 10] rfl ?_   -- 3, fieldpoly.go:144
    refine s_mv 22 rfl rfl ?_
    refine s_mv 23 rfl rfl ?_
    refine s_mv 24 rfl rfl ?_
    refine s_call 25 rfl rfl rfl rfl (fun w hw => by have := pdiv_spec r g m q3.1 a1.length q3.2 (a1.map Int.ofNat) q4.1 b1.length q4.2 (b1.map Int.ofNat) w hm (hw.old hr) (by rw [← nats_ints]; exact (hw.has (i := 1) rfl).of_own) (by rw [← nats_ints]; exact (hw.has (i := 0) rfl).of_own) hq3 hq4 (by rw [hq2.low]; exact hb10); rw [hq1.low, hq2.low] at this; exact this) (fun _ _ => trivial) (fun q5 hq6 => ?_)
    refine s_mv 21 rfl rfl ?_
    refine s_ext 26 rfl rfl rfl ?_
    refine s_ext 27 rfl rfl rfl ?_
    refine s_ext 28 rfl rfl rfl ?_
    refine s_as 7 rfl rfl ?_
    refine s_as 8 rfl rfl ?_
    refine s_as 9 rfl rfl ?_
    refine SX.next ?_
    refine CW.reg [0, 1, 2, 3] rfl ?_   -- 4, fieldpoly.go:145
    refine s_mv 29 rfl rfl ?_
    refine s_mv 30 rfl rfl ?_
    refine s_as 1 rfl rfl ?_
    refine s_as 2 rfl rfl ?_
    refine SX.end_ ?_
    refine KN.blk ?_
    exact KN.back (b1, restP m a1 b1, q4, q5.2) ⟨rfl, rfl, rfl, trivial⟩ (fun _ h => h.pick [0, 1] rfl) ⟨hq2, restP_tr hm hq1, hq4, by simp only; omega, (gcdE_step hm hq1 hq2 hb10).trans hq5⟩ (by simp only; omega)
  · skip
    dsimp only at hc
    have hg : gcdE m a b = a1 := by rw [← hq5]; exact gcdE_last (by omega)
    rw [hg]
    refine CW.exit rfl ?_
    refine KN.code ?_
    refine CW.seq ?_
    refine CW.seq ?_
    refine CW.reg [0, 1, 2] rfl ?_   -- 5, fieldpoly.go:147
    refine s_mv 31 rfl rfl ?_
    refine s_len 32 rfl rfl ?_
    refine s_eq 33 rfl rfl rfl rfl ?_
    refine SX.next ?_
    refine CW.test rfl (fun hz => ?_) (fun hz => ?_)
    · skip
      dsimp only at hz
      have h0 : monicP m a1 = [] := if_pos (by omega)
      refine CW.seq ?_
      refine CW.reg [0] rfl ?_   -- 6, fieldpoly.go:148
      refine s_as 6 rfl rfl ?_
      refine SX.next ?_
      refine CW.ret ?_
      exact KN.ret (rs := [.tmp 6]) Tryd.results46 rfl (fun w hw => ⟨(none, 0), by rw [h0]; rfl, by rw [h0]; exact Nat.le_refl _, by rw [h0]; exact (hw.pick [] rfl).begin_ _ 1⟩)
    · skip
      dsimp only at hz
      have ha10 : a1.length ≠ 0 := by omega
      have h0 : monicP m a1 = scaleP m a1 (inv m (cf a1 (a1.length - 1))) := if_neg ha10
      rw [h0]
      refine CW.skip ?_
      refine KN.code ?_
      refine CW.seq ?_
      refine CW.regD (.st true 0 (.st true 1 (.st true 2 (.st true 3 (.st true 4 (.st true 5 (.st true 6 (.st true 7 (.st true 8 (.st true 9 (.st false 10 (.st true 11 (.st true 12 (.st true 13 (.st true 14 (.st true 15 .done)))))))))))))))) (Sto w [own 3 1 q4.1 b1.length q4.2 (nats .i64 b1), own 3 1 q3.1 a1.length q3.2 (nats .i64 a1)]) mixed (by kernel_rfl) (fun _ h => h.drew) (fun _ h => h) ?_
      refine s_mv 35 rfl rfl ?_
      refine s_nil 36 rfl rfl ?_
      refine s_fa 37 rfl rfl ?_
      refine s_ldS 38 rfl rfl (fun _ h => h.cell hrc) ?_
      refine s_mv 39 rfl rfl ?_
      refine s_mv 40 rfl rfl ?_
      refine s_len 41 rfl rfl ?_
      refine s_sub 42 rfl rfl rfl (r := ((a1.length - 1 : Nat) : Int)) (by show IntKind.i64.wrap (((a1.length : Nat) : Int) - 1) = _; rw [show ((a1.length : Nat) : Int) - 1 = ((a1.length - 1 : Nat) : Int) by omega]; exact w64 (by omega)) ?_
      refine s_iaO 43 1 (a1.length - 1) rfl rfl rfl rfl rfl (by show a1.length - 1 < a1.length; omega) ?_
      refine s_ldS 44 rfl rfl (fun _ h => h.ownCell (q := 1) rfl (natsAtC (by omega))) ?_
      refine s_call1 45 rfl rfl rfl rfl (fun w hw => pinvN hm (hw.old hf) (cf_lt hq1.lt (Nat.two_pow_pos m) _) (hq1.top ha10)) (fun _ h => h) ?_
      refine s_mv 34 rfl rfl ?_
      refine s_ext 46 rfl rfl rfl ?_
      refine s_ext 47 rfl rfl rfl ?_
      refine s_as 10 rfl rfl ?_
      refine s_as 11 rfl rfl ?_
      refine SX.next ?_
      refine CW.seq ?_
      refine CW.reg [0, 1, 2, 3, 4] rfl ?_   -- 8, fieldpoly.go:151
      refine s_mv 48 rfl rfl ?_
      refine s_mv 49 rfl rfl ?_
      refine s_mv 50 rfl rfl ?_
      refine s_call 51 rfl rfl rfl rfl (fun w hw => by have := scale_spec r g m q3.1 a1.length q3.2 (a1.map Int.ofNat) (inv m (cf a1 (a1.length - 1)) : Nat) w hm (hw.old hr) (by rw [← nats_ints]; exact (hw.has (i := 1) rfl).of_own) hq3; rw [lowL_ofNat hq1.lt, lo_nat (inv_lt hm _)] at this; exact this) (fun _ _ => trivial) (fun q6 hq7 => ?_)
      refine s_as 6 rfl rfl ?_
      refine SX.next ?_
      refine CW.ret ?_
      exact KN.ret (rs := [.tmp 6]) Tryd.results46 rfl (fun w hw => ⟨q6, rfl, hq7, hw.pick [0] rfl⟩)
