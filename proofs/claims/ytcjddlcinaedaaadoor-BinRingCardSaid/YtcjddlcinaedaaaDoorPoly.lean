/- The contracts of package fieldpoly: what each of its functions answers, over the fields of 2^m elements. Conditions: the ring was made by New over a field that New made; the lists are read where they lie. -/
import Derived.Test.YtcjddlcinaedaaaDoorFieldb
import Derived.Test.YtcjddlcinaedaaaDoorInts
import Derived.Test.YtcjddlcinaedaaaDoorPl
namespace Go.Proofs.YtcjddlcinaedaaaDoor
open Go.Sx Go.Fm
set_option maxRecDepth 100000

/-- A ring that New made, in block r, over the field in block g. -/
def ringA (r g m : Nat) : Atom where
  ok w D := D r ∧ w.cell? ⟨r, 0, none⟩ = some (.pointer (some ⟨g, 0, none⟩)) ∧ (fieldA g m).ok w D
  loc := fun ⟨h1, h2, h3⟩ hb => ⟨h1, (World.cell?_of_block (hb _ h1)).trans h2, (fieldA _ _).loc h3 hb⟩
theorem ring_at {w : World} {r g m : Nat} (h : Has (ringA r g m) w) : w.cell? ⟨r, 0, none⟩ = some (.pointer (some ⟨g, 0, none⟩)) ∧ Has (fieldA g m) w :=
  let ⟨D, ⟨_, h2, h3⟩, h4⟩ := h
  ⟨h2, D, h3, h4⟩
theorem field_mono {w : World} {g m : Nat} {D D' : Nat → Prop} (h : (fieldA g m).ok w D) (hd : ∀ k, D k → D' k) : (fieldA g m).ok w D' := by
  obtain ⟨ge, gl, h1, h2, h3, h4⟩ := h
  exact ⟨ge, gl, hd _ h1, hd _ h2, hd _ h3, h4⟩
theorem ring_of {w : World} {r g m T : Nat} (hf : Has (fieldA g m) w) (hb : Has (blk r T #[.pointer (some ⟨g, 0, none⟩)]) w) : Has (ringA r g m) w := by
  obtain ⟨D, h1, h2⟩ := hf
  obtain ⟨D', ⟨h3, h4⟩, h5⟩ := hb
  refine ⟨fun k => D k ∨ D' k, ⟨.inr ((h3 r).2 rfl), by rw [cell_of_blk h4]; rfl, field_mono h1 (fun k => .inl)⟩, fun k hk => hk.elim (h2 k) (h5 k)⟩
/-- A list of elements is answered, in memory of its own. -/
abbrev SpecL (P : Program) (f : FuncId) (args : List Value) (w : World) (E : List Nat) : Prop :=
  SpecX P f args w (X := Option Addr × Nat) (fun q => .slice q.1 E.length q.2) (fun q => E.length ≤ q.2) (fun q => [own 3 1 q.1 E.length q.2 (nats .i64 E)])
/-- The elements that numbers count as. -/
def lowL (m : Nat) (l : List Int) : List Nat := l.map (lo m)
theorem lowL_len (m : Nat) (l : List Int) : (lowL m l).length = l.length := by simp [lowL]
theorem lo_zero (m : Nat) : lo m 0 = 0 := by unfold lo; simp
theorem cf_low (m : Nat) (l : List Int) (j : Nat) : cf (lowL m l) j = lo m (l.getD j 0) := by
  by_cases h : j < l.length
  · simp [cf, lowL, h]
  · simp [cf, lowL, h, lo_zero]
theorem lowL_lt (m : Nat) (l : List Int) : ∀ x ∈ lowL m l, x < 2 ^ m := by
  intro x hx
  obtain ⟨y, _, rfl⟩ := List.mem_map.1 hx
  exact lo_lt m y
theorem lowL_take (m : Nat) (l : List Int) {i : Nat} (h : i < l.length) : lowL m (l.take (i + 1)) = lowL m (l.take i) ++ [lo m (l.getD i 0)] := by
  have h1 : l.take (i + 1) = l.take i ++ [l.getD i 0] := by
    rw [List.take_add_one]
    simp [h]
  unfold lowL
  rw [h1, List.map_append]
  rfl
def trimC (m : Nat) (l : List Int) (i : Nat) : Array Value := ((List.range l.length).map (fun j => .int .i64 ((if j < i then lo m (l.getD j 0) else 0 : Nat)))).toArray
theorem trimC_zero (m : Nat) (l : List Int) : (List.replicate l.length (.int .i64 0)).toArray = trimC m l 0 := by
  rw [rep_range]; unfold trimC; simp
theorem trimC_size (m : Nat) (l : List Int) (i : Nat) : (trimC m l i).size = l.length := by simp [trimC]
theorem trimC_set (m : Nat) (l : List Int) (i : Nat) : (trimC m l i).setIfInBounds i (.int .i64 (lo m (l.getD i 0) : Nat)) = trimC m l (i + 1) := by
  unfold trimC
  rw [set_range]
  congr 1
  apply List.map_congr_left
  intro j _
  by_cases h : j = i
  · subst h; simp
  · rw [if_neg h]
    by_cases h2 : j < i
    · rw [if_pos h2, if_pos (by omega)]
    · rw [if_neg h2, if_neg (by omega)]
theorem trimC_at (m : Nat) (l : List Int) {i k : Nat} (h : k < i) (hk : k < l.length) : (trimC m l i)[k]? = some (.int .i64 (lo m (l.getD k 0) : Nat)) := by
  unfold trimC
  simp [hk, h]
theorem trimC_all (m : Nat) (l : List Int) : (trimC m l l.length).toList = nats .i64 (lowL m l) := by
  unfold trimC nats lowL
  apply List.ext_getElem?
  intro j
  by_cases hj : j < l.length
  · simp [hj]
  · simp [hj]
theorem nats_take (k : IntKind) (l : List Nat) (n : Nat) : (nats k l).take n = nats k (l.take n) := by simp [nats, List.map_take]
theorem trimC_take (m : Nat) (l : List Int) : (trimC m l l.length).toList.take ((trim (lowL m l)).length * 1) = nats .i64 (trim (lowL m l)) := by
  rw [trimC_all, nats_take, Nat.mul_one, trim_length]
  rfl
theorem Has.cong {w : World} {sz n : Nat} {A : Option Addr} {vs us : List Value} (h : Has (sl sz A n vs) w) (he : vs = us) : Has (sl sz A n us) w := by rw [← he]; exact h

theorem ring_spec (g : Nat) (w : World) : SpecX Tryd.prog 87 [.pointer (some ⟨g, 0, none⟩)] w (X := Nat) (fun r => .pointer (some ⟨r, 0, none⟩)) (fun _ => True) (fun r => [blk r 177 #[.pointer (some ⟨g, 0, none⟩)]]) := by
  refine spec_of Tryd.func87 rfl Tryd.ntmps87 rfl ?_
  refine CW.seq ?_
  refine CW.reg [0] rfl ?_   -- 0, fieldpoly.go:13
  refine s_as 2 rfl rfl ?_
  refine SX.next ?_
  refine CW.seq ?_
  refine CW.reg [0, 1, 2, 3] rfl ?_   -- 1, fieldpoly.go:13
  refine s_mv 3 rfl rfl ?_
  refine s_build 4 rfl rfl rfl ?_
  refine s_box 5 rfl rfl (fun _ _ => trivial) (fun r => ?_)
  refine s_as 2 rfl rfl ?_
  refine SX.next ?_
  refine CW.ret ?_
  exact KN.ret (rs := [.tmp 2]) Tryd.results87 rfl (fun w hw => ⟨r, rfl, trivial, hw⟩)

theorem trim_spec (r g m : Nat) (A : Option Addr) (n c : Nat) (l : List Int) (w : World) (hm : Ok m) (hr : Has (ringA r g m) w) (ha : Has (sl 1 A n (ints .i64 l)) w) (hn : n ≤ 4294967296) : SpecL Tryd.prog 123 [.pointer (some ⟨r, 0, none⟩), .slice A n c] w (trim (lowL m l)) := by
  obtain ⟨hrc, hf⟩ := ring_at hr
  have hla := ints_len ha
  subst hla
  have htl := tl_le (lowL m l)
  have hll := lowL_len m l
  refine spec_of Tryd.func123 rfl Tryd.ntmps123 rfl ?_
  refine CW.seq ?_
  refine CW.reg [0] rfl ?_   -- 0, fieldpoly.go:16
  refine s_as 4 rfl rfl ?_
  refine SX.next ?_
  refine CW.seq ?_
  refine CW.reg [0, 1, 2, 3] rfl ?_   -- 1, fieldpoly.go:17
  refine s_mv 9 rfl rfl ?_
  refine s_len 10 rfl rfl ?_
  refine s_make 11 l.length rfl rfl rfl rfl rfl (by omega) (fun _ _ => trivial) (fun gs => ?_)
  refine s_as 5 rfl rfl ?_
  refine SX.next ?_
  refine CW.seq ?_
  refine CW.reg [0] rfl ?_   -- 2, fieldpoly.go:18
  refine s_as 6 rfl rfl ?_
  refine SX.next ?_
  refine CW.seq ?_
  refine CW.seq ?_
  refine CW.reg [0, 1, 2] rfl ?_   -- 3, fieldpoly.go:19
  refine s_mv 12 rfl rfl ?_
  refine s_len 13 rfl rfl ?_
  refine s_mv 14 rfl rfl ?_
  refine SX.next ?_
  refine CW.block ?_
  refine CW.loop (G := Nat × Nat) (fun q => [(0, .pointer (some ⟨r, 0, none⟩)), (5, .slice (some ⟨gs, 0, none⟩) l.length l.length), (6, .int .i64 (q.2 : Nat)), (12, .slice A l.length c), (13, .int .i64 (l.length : Nat)), (14, .int .i64 (q.1 : Nat))]) (fun q => Sto w [blk gs 3 (trimC m l q.1)]) (fun q => q.1 ≤ l.length ∧ q.2 = tl (lowL m (l.take q.1))) (fun q => l.length - q.1) (0, 0) ⟨rfl, rfl, rfl, rfl, rfl, rfl, trivial⟩ (fun _ h => by rw [← trimC_zero]; exact h) ⟨Nat.zero_le _, rfl⟩ ?_
  rintro ⟨i, k⟩ ⟨hi, hk⟩
  simp only at hi hk
  refine CW.seq ?_
  refine CW.reg [0] rfl ?_   -- 4, fieldpoly.go:19
  refine s_lt 15 rfl rfl rfl rfl ?_
  refine SX.next ?_
  refine CW.seq ?_
  refine CW.test rfl (fun hc => ?_) (fun hc => ?_)
  · skip
    have hi2 : i < l.length := by omega
    have hsn := tl_snoc (lowL m (l.take i)) (lo m (l.getD i 0))
    rw [← lowL_take m l hi2] at hsn
    have hli : (lowL m (l.take i)).length = i := by rw [lowL_len, List.length_take]; omega
    refine CW.skip ?_
    refine KN.code ?_
    refine CW.seq ?_
    refine CW.block ?_
    refine CW.seq ?_
    refine CW.reg [0, 1, 2, 3, 4] rfl ?_   -- 5, fieldpoly.go:19
    refine s_mv 16 rfl rfl ?_
    refine s_iaV 17 i (fun w hw => hw.old ha) rfl rfl rfl rfl hi2 ?_
    refine s_ldV 18 (fun w hw => hw.old ha) rfl rfl (by rw [Nat.mul_one]; exact intsAt hi2) (by omega) ?_
    refine s_as 7 rfl rfl ?_
    refine s_as 8 rfl rfl ?_
    refine SX.next ?_
    refine CW.seq ?_
    refine CW.reg [0, 1, 2, 3, 4, 5, 6, 7, 8, 9] rfl ?_   -- 6, fieldpoly.go:20
    refine s_mv 19 rfl rfl ?_
    refine s_mv 20 rfl rfl ?_
    refine s_mv 21 rfl rfl ?_
    refine s_nil 22 rfl rfl ?_
    refine s_fa 23 rfl rfl ?_
    refine s_ld 24 rfl rfl (fun _ h => h.cell hrc) ?_
    refine s_mv 25 rfl rfl ?_
    refine s_call1 26 rfl rfl rfl rfl (v := .int .i64 (lo m (l.getD i 0) : Nat)) (fun w hw => by have := add_spec g m (l.getD i 0) 0 w hm (hw.old hf); rw [lo_zero, Nat.xor_zero] at this; exact this) (fun _ _ => trivial) ?_
    refine s_ia0 27 i rfl rfl rfl rfl hi2 ?_
    refine s_stB 0 rfl rfl rfl rfl rfl (by rw [trimC_size]; exact hi2) (fun _ _ => trivial) ?_
    refine SX.next ?_
    refine CW.seq ?_
    refine CW.reg [0, 1, 2, 3, 4] rfl ?_   -- 7, fieldpoly.go:20
    refine s_mv 28 rfl rfl ?_
    refine s_mv 29 rfl rfl ?_
    refine s_ia0 30 i rfl rfl rfl rfl hi2 ?_
    refine s_ldB 31 0 rfl rfl rfl (by rw [trimC_set]; exact trimC_at m l (Nat.lt_succ_self i) hi2) ?_
    refine s_ne 32 rfl rfl rfl rfl ?_
    refine SX.next ?_
    refine CW.test rfl (fun hc => ?_) (fun hc => ?_)
    · skip
      refine CW.reg [0, 1, 2] rfl ?_   -- 8, fieldpoly.go:21
      refine s_mv 33 rfl rfl ?_
      refine s_add 34 rfl rfl rfl (r := ((i + 1 : Nat) : Int)) (w64 (by omega)) ?_
      refine s_as 6 rfl rfl ?_
      refine SX.end_ ?_
      refine KN.blk ?_
      refine KN.code ?_
      refine CW.reg [0, 1] rfl ?_   -- 9, fieldpoly.go:19
      refine s_add 35 rfl rfl rfl (r := ((i + 1 : Nat) : Int)) (w64 (by omega)) ?_
      refine s_mv 14 rfl rfl ?_
      refine SX.end_ ?_
      exact KN.back (i + 1, i + 1) ⟨rfl, rfl, rfl, rfl, rfl, rfl, trivial⟩ (fun _ h => by rw [← trimC_set]; exact h) ⟨hi2, by rw [hsn, if_neg (by omega), hli]⟩ (by simp only; omega)
    · skip
      refine CW.skip ?_
      refine KN.blk ?_
      refine KN.code ?_
      refine CW.reg [0, 1] rfl ?_   -- 9, fieldpoly.go:19
      refine s_add 35 rfl rfl rfl (r := ((i + 1 : Nat) : Int)) (w64 (by omega)) ?_
      refine s_mv 14 rfl rfl ?_
      refine SX.end_ ?_
      exact KN.back (i + 1, k) ⟨rfl, rfl, rfl, rfl, rfl, rfl, trivial⟩ (fun _ h => by rw [← trimC_set]; exact h) ⟨hi2, by rw [hsn, if_pos (by omega)]; exact hk⟩ (by simp only; omega)
  · skip
    obtain rfl : i = l.length := by omega
    rw [List.take_length] at hk
    have htt := trim_length (lowL m l)
    refine CW.exit rfl ?_
    refine KN.code ?_
    refine CW.seq ?_
    refine CW.reg [0, 1, 2, 3, 4] rfl ?_   -- 10, fieldpoly.go:24
    refine s_mv 36 rfl rfl ?_
    refine s_mv 37 rfl rfl ?_
    refine s_slH 38 (trim (lowL m l)).length rfl rfl rfl (by rw [hk, htt]) (by omega) ?_
    refine s_app0 39 rfl rfl rfl (ys := nats .i64 (trim (lowL m l))) (fun w hw => Has.cong (((hw.has (i := 0) rfl).blk_sl (m := l.length) (by rw [trimC_size, Nat.mul_one])).sl_take (by omega)) (trimC_take m l)) (nats_one _ _) rfl (by omega) (by unfold maxLen; omega) (by omega) (fun _ _ _ _ => trivial) (fun A2 c2 hc2 => ?_)
    refine s_as 4 rfl rfl ?_
    refine SX.next ?_
    refine CW.ret ?_
    exact KN.ret (rs := [.tmp 4]) Tryd.results123 rfl (fun w hw => ⟨(A2, c2), rfl, hc2, hw.pick [0] rfl⟩)

/-! ### Tables -/
/-- The numbers F 0, F 1 .. -/
def tab (n : Nat) (F : Nat → Int) : List Int := (List.range n).map F
theorem tab_len (n : Nat) (F : Nat → Int) : (tab n F).length = n := by simp [tab]
theorem tab_cong {n : Nat} {F G : Nat → Int} (h : ∀ j, j < n → F j = G j) : tab n F = tab n G := by
  unfold tab
  apply List.map_congr_left
  intro j hj
  exact h j (List.mem_range.1 hj)
theorem tab_getD (n : Nat) (F : Nat → Int) (j : Nat) : (tab n F).getD j 0 = if j < n then F j else 0 := by
  unfold tab
  by_cases h : j < n <;> simp [h]
theorem tab_of (l : List Int) : tab l.length (fun j => l.getD j 0) = l := by
  apply List.ext_getElem?
  intro j
  unfold tab
  by_cases h : j < l.length <;> simp [h]
theorem tab_at {k : IntKind} {n j : Nat} {F : Nat → Int} (h : j < n) : (ints k (tab n F))[j]? = some (.int k (F j)) := by
  rw [intsAt (by rw [tab_len]; exact h), tab_getD, if_pos h]
theorem tab_atA {k : IntKind} {n j : Nat} {F : Nat → Int} (h : j < n) : (ints k (tab n F)).toArray[j]? = some (.int k (F j)) := by
  rw [List.getElem?_toArray]; exact tab_at h
theorem tab_size {k : IntKind} {n : Nat} {F : Nat → Int} : (ints k (tab n F)).toArray.size = n := by simp [ints, tab]
theorem tab_setL {k : IntKind} {n i : Nat} {F : Nat → Int} (z : Int) : (ints k (tab n F)).set i (.int k z) = ints k (tab n (fun j => if j = i then z else F j)) := by
  unfold ints tab
  apply List.ext_getElem?
  intro j
  rw [List.getElem?_set]
  by_cases hj : j < n
  · by_cases hij : i = j
    · subst hij; simp [hj]
    · simp [hj, hij, Ne.symm hij]
  · by_cases hij : i = j
    · subst hij; simp [hj]
    · simp [hj, hij]
theorem tab_set {k : IntKind} {n i : Nat} {F : Nat → Int} (z : Int) : (ints k (tab n F)).toArray.setIfInBounds i (.int k z) = (ints k (tab n (fun j => if j = i then z else F j))).toArray := by
  rw [List.setIfInBounds_toArray, tab_setL]
theorem tab_zero (k : IntKind) (n : Nat) : (List.replicate n (.int k 0)).toArray = (ints k (tab n (fun _ => 0))).toArray := by
  congr 1
  unfold ints tab
  apply List.ext_getElem?
  intro j
  by_cases h : j < n <;> simp [h]
theorem tab_nats (n : Nat) (f : Nat → Nat) : ints .i64 (tab n (fun j => (f j : Nat))) = nats .i64 ((List.range n).map f) := by
  simp [ints, tab, nats]
theorem trim_tab (m n : Nat) (F : Nat → Int) : trim (lowL m (tab n F)) = pl n (fun j => lo m (F j)) := by
  unfold pl lowL tab
  rw [List.map_map]
  rfl
theorem trim_low (m : Nat) (l : List Int) : trim (lowL m l) = pl l.length (fun j => lo m (l.getD j 0)) := by
  conv => lhs; rw [← tab_of l]
  exact trim_tab m _ _
/-- The sum of two. -/
def addP (a b : List Nat) : List Nat := pl (max a.length b.length) (fun j => cf a j ^^^ cf b j)
theorem addP_comm (a b : List Nat) : addP a b = addP b a := by
  unfold addP
  rw [Nat.max_comm]
  congr 1
  funext j
  exact Nat.xor_comm _ _
theorem cf_addP (a b : List Nat) (j : Nat) : cf (addP a b) j = cf a j ^^^ cf b j := by
  unfold addP
  rw [cf_pl]
  split
  · rfl
  · rw [cf_out (by omega), cf_out (by omega)]; rfl
def addF (l l2 : List Int) (i : Nat) (j : Nat) : Int := if j < i then ibit .xor .i64 (l.getD j 0) (l2.getD j 0) else l.getD j 0
theorem add_all {m : Nat} (hm : Ok m) (l l2 : List Int) (h : l2.length ≤ l.length) : trim (lowL m (tab l.length (addF l l2 l2.length))) = addP (lowL m l) (lowL m l2) := by
  rw [trim_tab]
  unfold addP
  refine pl_eq (fun j => ?_)
  rw [lowL_len, lowL_len, Nat.max_eq_left h, cf_low, cf_low]
  split
  · unfold addF
    split
    · exact lo_xor hm _ _
    · rw [show l2.getD j 0 = 0 by simp [List.getElem?_eq_none (show l2.length ≤ j by omega)], lo_zero, Nat.xor_zero]
  · rfl
theorem addF_next (l l2 : List Int) (i : Nat) : (fun j => if j = i then ibit .xor .i64 (l.getD i 0) (l2.getD i 0) else addF l l2 i j) = addF l l2 (i + 1) := by
  funext j
  unfold addF
  by_cases h : j = i
  · subst h; simp
  · rw [if_neg h]
    by_cases h2 : j < i
    · rw [if_pos h2, if_pos (by omega)]
    · rw [if_neg h2, if_neg (by omega)]
/-- A list in memory. -/
structure SlG where
  A : Option Addr
  c : Nat
  l : List Int
structure AddG (w : World) (m : Nat) (a b : List Int) (q : SlG × SlG) : Prop where
  h1 : Has (sl 1 q.1.A q.1.l.length (ints .i64 q.1.l)) w
  h2 : Has (sl 1 q.2.A q.2.l.length (ints .i64 q.2.l)) w
  le : q.2.l.length ≤ q.1.l.length
  bd : q.1.l.length ≤ 4294967296
  eq : addP (lowL m q.1.l) (lowL m q.2.l) = addP (lowL m a) (lowL m b)

/-- Each coefficient times x. -/
def scaleP (m : Nat) (a : List Nat) (x : Nat) : List Nat := pl a.length (fun j => gm m (cf a j) x)
theorem cf_scaleP (m : Nat) (a : List Nat) (x j : Nat) : cf (scaleP m a x) j = gm m (cf a j) x := by
  unfold scaleP
  rw [cf_pl]
  split
  · rfl
  · rw [cf_out (by omega), gm_zero_left]
def scaleF (m : Nat) (l : List Int) (x i j : Nat) : Int := ((if j < i then gm m (lo m (l.getD j 0)) x else 0 : Nat) : Int)
theorem scaleF_next (m : Nat) (l : List Int) (x i : Nat) : (fun j => if j = i then ((gm m (lo m (l.getD i 0)) x : Nat) : Int) else scaleF m l x i j) = scaleF m l x (i + 1) := by
  funext j
  unfold scaleF
  by_cases h : j = i
  · subst h; simp
  · rw [if_neg h]
    by_cases h2 : j < i
    · rw [if_pos h2, if_pos (by omega)]
    · rw [if_neg h2, if_neg (by omega)]
theorem scale_all {m : Nat} (hm : Ok m) (l : List Int) (x : Nat) : trim (lowL m (tab l.length (scaleF m l x l.length))) = scaleP m (lowL m l) x := by
  rw [trim_tab]
  unfold scaleP
  refine pl_eq (fun j => ?_)
  rw [lowL_len, cf_low]
  split
  · unfold scaleF
    rw [if_pos (by assumption), lo_nat (gm_lt hm (lo_lt m _) x)]
  · rfl

/-! ### Values -/
/-- The value at x, from the highest coefficient down. -/
def evL (m : Nat) : List Nat → Nat → Nat
  | [], _ => 0
  | a :: r, x => gm m (evL m r x) x ^^^ a
theorem evL_lt {m : Nat} (h : Ok m) (x : Nat) : ∀ {l : List Nat}, (∀ a ∈ l, a < 2 ^ m) → evL m l x < 2 ^ m
  | [], _ => Nat.two_pow_pos m
  | a :: _, hl => xor_lt (gm_lt h (evL_lt h x (fun b hb => hl b (List.mem_cons_of_mem a hb))) x) (hl a List.mem_cons_self)
theorem low_drop {m : Nat} {l : List Int} {j : Nat} (h0 : 0 < j) (hj : j ≤ l.length) : (lowL m l).drop (j - 1) = lo m (l.getD (j - 1) 0) :: (lowL m l).drop j := by
  rw [List.drop_eq_getElem_cons (by rw [lowL_len]; omega), show j - 1 + 1 = j by omega]
  congr 1
  simp [lowL, show j - 1 < l.length by omega]
theorem lo_one {m : Nat} (hm : Ok m) : lo m 1 = 1 := lo_nat (x := 1) (one_lt hm)
theorem lo_xorN {m : Nat} (hm : Ok m) {a : Nat} (ha : a < 2 ^ m) (b : Int) : lo m (ibit .xor .i64 (a : Nat) b) = a ^^^ lo m b := by
  rw [lo_xor hm, lo_nat ha]

/-! ### The derivative -/
theorem lo_wrap {m : Nat} (hm : Ok m) (z : Int) : lo m (IntKind.i64.wrap z) = lo m z := by
  have h2 := hm.hi
  have hd : ((2 ^ m : Nat) : Int) ∣ 18446744073709551616 := by
    have : 2 ^ m ∣ 2 ^ 64 := Nat.pow_dvd_pow 2 (by omega)
    exact Int.natCast_dvd_natCast.2 this
  have h : ∃ t : Int, IntKind.i64.wrap z = z + t * 18446744073709551616 := by
    simp only [IntKind.wrap, IntKind.signed, IntKind.bits]
    refine ⟨-((z + 9223372036854775808) / 18446744073709551616), ?_⟩
    simp
    omega
  obtain ⟨t, ht⟩ := h
  obtain ⟨u, hu⟩ := hd
  unfold lo
  rw [ht, hu, ← Int.mul_assoc, Int.mul_comm t, Int.mul_assoc, Int.add_mul_emod_self_left]
def derF (l : List Int) (j : Nat) : Int := IntKind.i64.wrap (l.getD (j + 1) 0 * (((j + 1) % 2 : Nat) : Int))
/-- The derivative. -/
def derP (a : List Nat) : List Nat := pl (a.length - 1) (fun j => if (j + 1) % 2 = 1 then cf a (j + 1) else 0)
theorem cf_derP (a : List Nat) (j : Nat) : cf (derP a) j = if (j + 1) % 2 = 1 then cf a (j + 1) else 0 := by
  unfold derP
  rw [cf_pl]
  split
  · rfl
  · rw [cf_out (by omega)]; simp
theorem der_all {m : Nat} (hm : Ok m) (l : List Int) : trim (lowL m (tab (l.length - 1) (derF l))) = derP (lowL m l) := by
  rw [trim_tab]
  unfold derP
  refine pl_eq (fun j => ?_)
  rw [lowL_len, cf_low]
  split
  · unfold derF
    rw [lo_wrap hm]
    rcases Nat.mod_two_eq_zero_or_one (j + 1) with h | h
    · rw [h]; simp [lo_zero]
    · rw [h]; simp
  · rfl
theorem tab_snoc (k : IntKind) (n : Nat) (F : Nat → Int) : ints k (tab n F) ++ [.int k (F n)] = ints k (tab (n + 1) F) := by
  simp [ints, tab, List.range_succ]

/-! ### Products -/
/-- A coefficient of the product. -/
def cv (m : Nat) (f g : Nat → Nat) (j : Nat) : Nat := xs (fun i => gm m (f i) (g (j - i))) (j + 1)
/-- The product. -/
def mulP (m : Nat) (a b : List Nat) : List Nat := pl (a.length + b.length - 1) (fun j => cv m (cf a) (cf b) j)
def rowF (m : Nat) (a b : List Nat) (j i : Nat) : Nat := if i ≤ j then gm m (cf a i) (cf b (j - i)) else 0
def mulF (m : Nat) (a b : List Nat) (i k : Nat) (j : Nat) : Int := ((xs (rowF m a b j) i ^^^ (if i ≤ j ∧ j < i + k then gm m (cf a i) (cf b (j - i)) else 0) : Nat) : Int)
theorem mulF_zero (m : Nat) (a b : List Nat) (j : Nat) : mulF m a b 0 0 j = 0 := by
  unfold mulF
  rw [if_neg (by omega)]
  simp [xs]
theorem cf_lt {a : List Nat} {b : Nat} (h : ∀ x ∈ a, x < b) (hb : 0 < b) (j : Nat) : cf a j < b := by
  by_cases hj : j < a.length
  · exact h _ (List.mem_of_getElem? (cf_in hj))
  · rw [cf_out (by omega)]; exact hb
theorem rowF_lt {m : Nat} (hm : Ok m) {a b : List Nat} (ha : ∀ x ∈ a, x < 2 ^ m) (j i : Nat) : rowF m a b j i < 2 ^ m := by
  unfold rowF
  split
  · exact gm_lt hm (cf_lt ha (Nat.two_pow_pos m) i) _
  · exact Nat.two_pow_pos m
theorem mulF_row (m : Nat) (a b : List Nat) (i k : Nat) (hk : b.length ≤ k) (j : Nat) : mulF m a b i k j = mulF m a b (i + 1) 0 j := by
  unfold mulF
  rw [if_neg (show ¬ (i + 1 ≤ j ∧ j < i + 1 + 0) by omega), Nat.xor_zero]
  show _ = ((xs (rowF m a b j) i ^^^ rowF m a b j i : Nat) : Int)
  unfold rowF
  by_cases h1 : i ≤ j
  · by_cases h2 : j < i + k
    · rw [if_pos ⟨h1, h2⟩, if_pos h1]
    · rw [if_neg (by omega), if_pos h1, cf_out (show b.length ≤ j - i by omega), gm_zero_right]
  · rw [if_neg (by omega), if_neg h1]
theorem mulF_bd {m : Nat} (hm : Ok m) {a b : List Nat} (ha : ∀ x ∈ a, x < 2 ^ m) (i k j : Nat) : ∃ z : Nat, z < 2 ^ m ∧ mulF m a b i k j = (z : Nat) := by
  refine ⟨_, xor_lt (xs_lt (fun i _ => rowF_lt hm ha j i)) ?_, rfl⟩
  split
  · exact gm_lt hm (cf_lt ha (Nat.two_pow_pos m) i) _
  · exact Nat.two_pow_pos m
theorem mulF_next {m : Nat} (hm : Ok m) {a b : List Nat} (ha : ∀ x ∈ a, x < 2 ^ m) (i k : Nat) : (fun j => if j = i + k then ibit .xor .i64 (mulF m a b i k (i + k)) (gm m (cf a i) (cf b k) : Nat) else mulF m a b i k j) = mulF m a b i (k + 1) := by
  funext j
  by_cases h : j = i + k
  · subst h
    rw [if_pos rfl]
    have h1 : mulF m a b i k (i + k) = (xs (rowF m a b (i + k)) i : Nat) := by
      unfold mulF
      rw [if_neg (by omega), Nat.xor_zero]
    rw [h1, ibit_xor_nat (pow63 hm (xs_lt (fun i' _ => rowF_lt hm ha (i + k) i'))) (pow63 hm (gm_lt hm (cf_lt ha (Nat.two_pow_pos m) i) _))]
    unfold mulF
    rw [if_pos (by omega), show i + k - i = k by omega]
  · rw [if_neg h]
    unfold mulF
    by_cases h2 : i ≤ j ∧ j < i + k
    · rw [if_pos h2, if_pos (by omega)]
    · rw [if_neg h2, if_neg (by omega)]
theorem mul_all {m : Nat} (hm : Ok m) {a b : List Nat} (ha : ∀ x ∈ a, x < 2 ^ m) : trim (lowL m (tab (a.length + b.length - 1) (mulF m a b a.length 0))) = mulP m a b := by
  rw [trim_tab]
  unfold mulP
  refine pl_eq (fun j => ?_)
  split
  · unfold mulF
    rw [if_neg (by omega), Nat.xor_zero, lo_nat (xs_lt (fun i _ => rowF_lt hm ha j i))]
    unfold cv
    have e1 : xs (rowF m a b j) a.length = xs (rowF m a b j) (j + 1) := by
      refine xs_any (fun i hi => ?_) (fun i hi => ?_)
      · unfold rowF
        rw [cf_out hi, gm_zero_left]
        simp
      · unfold rowF
        rw [if_neg (by omega)]
    rw [e1]
    exact xs_congr (fun i hi => by unfold rowF; rw [if_pos (by omega)])
  · rfl
theorem mulP_nil {m : Nat} {a b : List Nat} (h : a.length = 0 ∨ b.length = 0) : mulP m a b = [] := by
  have hz : ∀ j, cv m (cf a) (cf b) j = 0 := fun j => xs_zero (fun i _ => by
    rcases h with h | h
    · rw [cf_out (l := a) (by omega), gm_zero_left]
    · rw [cf_out (l := b) (by omega), gm_zero_right])
  have : mulP m a b = trim [] := trim_eq (fun j => by
    rw [cf_range, hz, cf_nil]
    split <;> rfl)
  exact this
theorem natsAtC {a : List Nat} {i : Nat} (h : i < a.length) : (nats .i64 a)[i]? = some (.int .i64 (cf a i : Nat)) := by
  rw [natsAt h]; rfl
theorem pmulN {g m : Nat} {w : World} {x y : Nat} (hm : Ok m) (hf : Has (fieldA g m) w) (hx : x < 2 ^ m) (hy : y < 2 ^ m) : Spec1 Tryd.prog 124 [.pointer (some ⟨g, 0, none⟩), .int .i64 (x : Nat), .int .i64 (y : Nat)] w (.int .i64 (gm m x y : Nat)) := by
  have := mul_spec g m x y w hm hf; rw [lo_nat hx, lo_nat hy] at this; exact this
theorem trimLow_lt (m : Nat) (l : List Int) : ∀ x ∈ trim (lowL m l), x < 2 ^ m := trim_lt (lowL_lt m l)
abbrev SpecLE (P : Program) (f : FuncId) (args : List Value) (w : World) (E : List Nat) : Prop :=
  SpecX P f args w (X := Option Addr × Nat) (fun q => two (.slice q.1 E.length q.2) .nilIface) (fun q => E.length ≤ q.2) (fun q => [own 3 1 q.1 E.length q.2 (nats .i64 E)])

theorem pmul_spec (r g m : Nat) (A : Option Addr) (n c : Nat) (l : List Int) (B : Option Addr) (k d : Nat) (l2 : List Int) (w : World) (hm : Ok m) (hr : Has (ringA r g m) w) (ha : Has (sl 1 A n (ints .i64 l)) w) (hb : Has (sl 1 B k (ints .i64 l2)) w) (hn : n ≤ 4294967296) (hk : k ≤ 4294967296) (hsm : (trim (lowL m l)).length + (trim (lowL m l2)).length ≤ 2048) : SpecLE Tryd.prog 88 [.pointer (some ⟨r, 0, none⟩), .slice A n c, .slice B k d] w (mulP m (trim (lowL m l)) (trim (lowL m l2))) := by
  obtain ⟨hrc, hf⟩ := ring_at hr
  have hla := ints_len ha
  subst hla
  have hlb := ints_len hb
  subst hlb
  have hA := trimLow_lt m l
  have hB := trimLow_lt m l2
  have hta := trim_length (lowL m l)
  have htb := trim_length (lowL m l2)
  have hla1 := tl_le (lowL m l)
  have hlb1 := tl_le (lowL m l2)
  have hll1 := lowL_len m l
  have hll2 := lowL_len m l2
  generalize ea : trim (lowL m l) = a at *
  generalize eb : trim (lowL m l2) = b at *
  refine spec_of Tryd.func88 rfl Tryd.ntmps88 rfl ?_
  refine CW.seq ?_
  refine CW.reg [0, 1] rfl ?_   -- 0, fieldpoly.go:52
  refine s_as 6 rfl rfl ?_
  refine s_as 7 rfl rfl ?_
  refine SX.next ?_
  refine CW.seq ?_
  refine CW.reg [0, 1, 2, 3, 4, 5, 6, 7] rfl ?_   -- 1, fieldpoly.go:53
  refine s_mv 13 rfl rfl ?_
  refine s_mv 14 rfl rfl ?_
  refine s_call 15 rfl rfl rfl rfl (fun w hw => by have := trim_spec r g m A l.length c l w hm (hw.old hr) (hw.old ha) (by omega); rw [ea] at this; exact this) (fun _ _ => trivial) (fun q1 hq1 => ?_)
  refine s_mv 16 rfl rfl ?_
  refine s_mv 17 rfl rfl ?_
  refine s_call 18 rfl rfl rfl rfl (fun w hw => by have := trim_spec r g m B l2.length d l2 w hm (hw.old hr) (hw.old hb) (by omega); rw [eb] at this; exact this) (fun _ _ => trivial) (fun q2 hq2 => ?_)
  refine s_as 1 rfl rfl ?_
  refine s_as 2 rfl rfl ?_
  refine SX.next ?_
  refine CW.seq ?_
  refine CW.block ?_
  refine CW.seq ?_
  refine CW.reg [0, 1, 2, 3, 4, 5, 6] rfl ?_   -- 2, fieldpoly.go:55
  refine s_mv 20 rfl rfl ?_
  refine s_len 21 rfl rfl ?_
  refine s_mv 22 rfl rfl ?_
  refine s_len 23 rfl rfl ?_
  refine s_add 24 rfl rfl rfl (w64 (by omega)) ?_
  refine s_gt 25 rfl rfl rfl (decide_eq_false (by omega)) ?_
  refine s_as 19 rfl rfl ?_
  refine SX.next ?_
  refine CW.condF rfl ?_
  refine CW.seq ?_
  refine CW.reg [0, 1, 2, 3, 4, 5, 6, 7, 8] rfl ?_   -- 4, fieldpoly.go:57
  refine s_mv 28 rfl rfl ?_
  refine s_len 29 rfl rfl ?_
  refine s_eq 30 rfl rfl rfl rfl ?_
  refine s_mv 31 rfl rfl ?_
  refine SX.bool 31 rfl (fun hb => ?_) (fun hb => ?_)
  · skip
    replace hb := of_decide_eq_true hb
    refine SX.skip rfl ?_
    refine SX.skip rfl ?_
    refine SX.skip rfl ?_
    refine s_pickT 35 rfl rfl rfl ?_
    refine s_as 27 rfl rfl ?_
    refine SX.next ?_
    refine CW.condT rfl ?_
    refine CW.seq ?_
    refine CW.reg [0, 1] rfl ?_   -- 5, fieldpoly.go:58
    refine s_as 6 rfl rfl ?_
    refine s_as 7 rfl rfl ?_
    refine SX.next ?_
    refine CW.ret ?_
    exact KN.ret (rs := [.tmp 6, .tmp 7]) Tryd.results88 rfl (fun w hw => ⟨(none, 0), by rw [mulP_nil (.inl (by omega))]; rfl, by rw [mulP_nil (.inl (by omega))]; exact Nat.le_refl _, by rw [mulP_nil (.inl (by omega))]; exact (hw.pick [] rfl).begin_ _ 1⟩)
  · skip
    replace hb := of_decide_eq_false hb
    refine s_mv 32 rfl rfl ?_
    refine s_len 33 rfl rfl ?_
    refine s_eq 34 rfl rfl rfl rfl ?_
    refine s_pickF 35 rfl rfl rfl ?_
    refine s_as 27 rfl rfl ?_
    refine SX.next ?_
    refine CW.test rfl (fun hc => ?_) (fun hc => ?_)
    · skip
      refine CW.seq ?_
      refine CW.reg [0, 1] rfl ?_   -- 5, fieldpoly.go:58
      refine s_as 6 rfl rfl ?_
      refine s_as 7 rfl rfl ?_
      refine SX.next ?_
      refine CW.ret ?_
      exact KN.ret (rs := [.tmp 6, .tmp 7]) Tryd.results88 rfl (fun w hw => ⟨(none, 0), by rw [mulP_nil (.inr (by omega))]; rfl, by rw [mulP_nil (.inr (by omega))]; exact Nat.le_refl _, by rw [mulP_nil (.inr (by omega))]; exact (hw.pick [] rfl).begin_ _ 1⟩)
    · skip
      refine CW.skip ?_
      refine KN.blk ?_
      refine KN.code ?_
      refine CW.seq ?_
      refine CW.reg [0, 1, 2, 3, 4, 5, 6, 7] rfl ?_   -- 6, fieldpoly.go:60
      refine s_mv 36 rfl rfl ?_
      refine s_len 37 rfl rfl ?_
      refine s_mv 38 rfl rfl ?_
      refine s_len 39 rfl rfl ?_
      refine s_add 40 rfl rfl rfl (w64 (by omega)) ?_
      refine s_sub 41 rfl rfl rfl (r := ((a.length + b.length - 1 : Nat) : Int)) (by rw [show ((a.length : Nat) : Int) + (b.length : Nat) - 1 = ((a.length + b.length - 1 : Nat) : Int) by omega]; exact w64 (by omega)) ?_
      refine s_make 42 (a.length + b.length - 1) rfl rfl rfl rfl rfl (by omega) (fun _ _ => trivial) (fun go => ?_)
      refine s_as 8 rfl rfl ?_
      refine SX.next ?_
      refine CW.seq ?_
      refine CW.seq ?_
      refine CW.reg [0, 1, 2] rfl ?_   -- 7, fieldpoly.go:61
      refine s_mv 43 rfl rfl ?_
      refine s_len 44 rfl rfl ?_
      refine s_mv 45 rfl rfl ?_
      refine SX.next ?_
      refine CW.block ?_
      refine CW.loop (G := Nat) (fun i => [(0, .pointer (some ⟨r, 0, none⟩)), (2, .slice q2.1 b.length q2.2), (8, .slice (some ⟨go, 0, none⟩) (a.length + b.length - 1) (a.length + b.length - 1)), (43, .slice q1.1 a.length q1.2), (44, .int .i64 (a.length : Nat)), (45, .int .i64 (i : Nat))]) (fun i => Sto w [blk go 3 (ints .i64 (tab (a.length + b.length - 1) (mulF m a b i 0))).toArray, own 3 1 q2.1 b.length q2.2 (nats .i64 b), own 3 1 q1.1 a.length q1.2 (nats .i64 a)]) (fun i => i ≤ a.length) (fun i => a.length - i) 0 ⟨rfl, rfl, rfl, rfl, rfl, rfl, trivial⟩ (fun _ h => by rw [show tab (a.length + b.length - 1) (mulF m a b 0 0) = tab (a.length + b.length - 1) (fun _ => 0) from tab_cong (fun j _ => mulF_zero m a b j), ← tab_zero]; exact h) (Nat.zero_le _) ?_
      intro i hi
      refine CW.seq ?_
      refine CW.reg [0] rfl ?_   -- 8, fieldpoly.go:61
      refine s_lt 46 rfl rfl rfl rfl ?_
      refine SX.next ?_
      refine CW.seq ?_
      refine CW.test rfl (fun hc => ?_) (fun hc => ?_)
      · skip
        refine CW.skip ?_
        refine KN.code ?_
        refine CW.seq ?_
        refine CW.block ?_
        refine CW.seq ?_
        refine CW.reg [0, 1, 2, 3, 4] rfl ?_   -- 9, fieldpoly.go:61
        refine s_mv 47 rfl rfl ?_
        refine s_iaO 48 2 i rfl rfl rfl rfl rfl (by omega) ?_
        refine s_ldO 49 2 rfl rfl rfl (natsAtC (by omega)) ?_
        refine s_as 9 rfl rfl ?_
        refine s_as 10 rfl rfl ?_
        refine SX.next ?_
        refine CW.seq ?_
        refine CW.reg [0, 1, 2] rfl ?_   -- 10, fieldpoly.go:62
        refine s_mv 50 rfl rfl ?_
        refine s_len 51 rfl rfl ?_
        refine s_mv 52 rfl rfl ?_
        refine SX.next ?_
        refine CW.block ?_
        refine CW.loop (G := Nat) (fun k => [(0, .pointer (some ⟨r, 0, none⟩)), (2, .slice q2.1 b.length q2.2), (8, .slice (some ⟨go, 0, none⟩) (a.length + b.length - 1) (a.length + b.length - 1)), (9, .int .i64 (i : Nat)), (10, .int .i64 (cf a i : Nat)), (43, .slice q1.1 a.length q1.2), (44, .int .i64 (a.length : Nat)), (45, .int .i64 (i : Nat)), (50, .slice q2.1 b.length q2.2), (51, .int .i64 (b.length : Nat)), (52, .int .i64 (k : Nat))]) (fun k => Sto w [blk go 3 (ints .i64 (tab (a.length + b.length - 1) (mulF m a b i k))).toArray, own 3 1 q2.1 b.length q2.2 (nats .i64 b), own 3 1 q1.1 a.length q1.2 (nats .i64 a)]) (fun k => k ≤ b.length) (fun k => b.length - k) 0 ⟨rfl, rfl, rfl, rfl, rfl, rfl, rfl, rfl, rfl, rfl, rfl, trivial⟩ (fun _ h => h) (Nat.zero_le _) ?_
        intro k hk2
        refine CW.seq ?_
        refine CW.reg [0] rfl ?_   -- 11, fieldpoly.go:62
        refine s_lt 53 rfl rfl rfl rfl ?_
        refine SX.next ?_
        refine CW.seq ?_
        refine CW.test rfl (fun hc => ?_) (fun hc => ?_)
        · skip
          refine CW.skip ?_
          refine KN.code ?_
          refine CW.seq ?_
          refine CW.block ?_
          refine CW.seq ?_
          refine CW.reg [0, 1, 2, 3, 4] rfl ?_   -- 12, fieldpoly.go:62
          refine s_mv 54 rfl rfl ?_
          refine s_iaO 55 1 k rfl rfl rfl rfl rfl (by omega) ?_
          refine s_ldO 56 1 rfl rfl rfl (natsAtC (by omega)) ?_
          refine s_as 11 rfl rfl ?_
          refine s_as 12 rfl rfl ?_
          refine SX.next ?_
          refine CW.regD (.st true 0 (.st true 1 (.st true 2 (.st true 3 (.st true 4 (.st true 6 (.st true 7 (.st true 8 (.st true 9 (.st true 10 (.st true 11 (.alt 5 (.st false 12 (.st true 13 (.st true 14 (.st false 15 .done)))) (.st false 12 (.st false 5 (.st true 13 (.st true 14 (.st false 15 .done))))))))))))))))) (Sto w []) mixed (by kernel_rfl) (fun _ h => h.drew) (fun _ h => h.pick [] rfl) ?_
          refine s_mv 57 rfl rfl ?_
          refine s_mv 58 rfl rfl ?_
          refine s_mv 59 rfl rfl ?_
          refine s_add 60 rfl rfl rfl (r := ((i + k : Nat) : Int)) (w64 (by omega)) ?_
          refine s_ia0 61 (i + k) rfl rfl rfl rfl (by omega) ?_
          refine s_mv 63 rfl rfl ?_
          refine s_nil 64 rfl rfl ?_
          refine s_fa 65 rfl rfl ?_
          refine s_ldS 66 rfl rfl (fun _ h => h.cell hrc) ?_
          refine s_mv 67 rfl rfl ?_
          refine s_mv 68 rfl rfl ?_
          refine SX.alt ?_ ?_
          · skip
            refine s_ldB 62 0 rfl rfl rfl (tab_atA (by omega)) ?_
            refine s_call1 69 rfl rfl rfl rfl (fun w hw => pmulN hm (hw.old hf) (cf_lt hA (Nat.two_pow_pos m) i) (cf_lt hB (Nat.two_pow_pos m) k)) (fun _ h => h.pick [] rfl) ?_
            refine s_bit 70 rfl rfl rfl rfl rfl ?_
            refine s_ia0 71 (i + k) rfl rfl rfl rfl (by omega) ?_
            refine s_stB 0 rfl rfl rfl rfl rfl (by rw [tab_size]; omega) (fun _ h => h.pick [] rfl) ?_
            refine SX.end_ ?_
            refine KN.blk ?_
            refine KN.code ?_
            refine CW.reg [0, 1] rfl ?_   -- 14, fieldpoly.go:62
            refine s_add 72 rfl rfl rfl (r := ((k + 1 : Nat) : Int)) (w64 (by omega)) ?_
            refine s_mv 52 rfl rfl ?_
            refine SX.end_ ?_
            exact KN.back (k + 1) ⟨rfl, rfl, rfl, rfl, rfl, rfl, rfl, rfl, rfl, rfl, rfl, trivial⟩ (fun _ h => by rw [← mulF_next hm hA, ← tab_set]; exact h) (by omega) (by omega)
          · skip
            refine s_call1 69 rfl rfl rfl rfl (fun w hw => pmulN hm (hw.old hf) (cf_lt hA (Nat.two_pow_pos m) i) (cf_lt hB (Nat.two_pow_pos m) k)) (fun _ h => h.pick [] rfl) ?_
            refine s_ldB 62 0 rfl rfl rfl (tab_atA (by omega)) ?_
            refine s_bit 70 rfl rfl rfl rfl rfl ?_
            refine s_ia0 71 (i + k) rfl rfl rfl rfl (by omega) ?_
            refine s_stB 0 rfl rfl rfl rfl rfl (by rw [tab_size]; omega) (fun _ h => h.pick [] rfl) ?_
            refine SX.end_ ?_
            refine KN.blk ?_
            refine KN.code ?_
            refine CW.reg [0, 1] rfl ?_   -- 14, fieldpoly.go:62
            refine s_add 72 rfl rfl rfl (r := ((k + 1 : Nat) : Int)) (w64 (by omega)) ?_
            refine s_mv 52 rfl rfl ?_
            refine SX.end_ ?_
            exact KN.back (k + 1) ⟨rfl, rfl, rfl, rfl, rfl, rfl, rfl, rfl, rfl, rfl, rfl, trivial⟩ (fun _ h => by rw [← mulF_next hm hA, ← tab_set]; exact h) (by omega) (by omega)
        · skip
          obtain rfl : k = b.length := by omega
          refine CW.exit rfl ?_
          refine KN.blk ?_
          refine KN.code ?_
          refine CW.reg [0, 1] rfl ?_   -- 15, fieldpoly.go:61
          refine s_add 73 rfl rfl rfl (r := ((i + 1 : Nat) : Int)) (w64 (by omega)) ?_
          refine s_mv 45 rfl rfl ?_
          refine SX.end_ ?_
          exact KN.back (i + 1) ⟨rfl, rfl, rfl, rfl, rfl, rfl, trivial⟩ (fun _ h => by rw [← tab_cong (fun j _ => mulF_row m a b i b.length (Nat.le_refl _) j)]; exact h) (by omega) (by omega)
      · skip
        obtain rfl : i = a.length := by omega
        refine CW.exit rfl ?_
        refine KN.code ?_
        refine CW.seq ?_
        refine CW.reg [0, 1, 2, 3, 4] rfl ?_   -- 16, fieldpoly.go:66
        refine s_mv 74 rfl rfl ?_
        refine s_mv 75 rfl rfl ?_
        refine s_call 76 rfl rfl rfl rfl (fun w hw => by have := trim_spec r g m (some ⟨go, 0, none⟩) (a.length + b.length - 1) (a.length + b.length - 1) (tab (a.length + b.length - 1) (mulF m a b a.length 0)) w hm (hw.old hr) (Has.cong ((hw.has (i := 0) rfl).blk_sl (m := (a.length + b.length - 1)) (by exact tab_size.trans (Nat.mul_one _).symm)) rfl) (by omega); rw [mul_all hm hA] at this; exact this) (fun _ _ => trivial) (fun q3 hq3 => ?_)
        refine s_as 6 rfl rfl ?_
        refine s_as 7 rfl rfl ?_
        refine SX.next ?_
        refine CW.ret ?_
        exact KN.ret (rs := [.tmp 6, .tmp 7]) Tryd.results88 rfl (fun w hw => ⟨q3, rfl, hq3, hw.pick [0] rfl⟩)

/-! ### Quotients -/
/-- The quotient's coefficient n. -/
noncomputable def dC (m : Nat) (b : List Nat) (R : Nat → Nat) (n : Nat) : Nat := gm m (R (n + b.length - 1)) (inv m (cf b (b.length - 1)))
/-- What is left behind it, up to coefficient n + i. -/
def dSi (m : Nat) (b : List Nat) (R : Nat → Nat) (n c i : Nat) (j : Nat) : Nat := if n ≤ j ∧ j < n + i then R j ^^^ gm m c (cf b (j - n)) else R j
noncomputable def divR (m : Nat) (b : List Nat) : Nat → (Nat → Nat) → Nat → Nat
  | 0, R => R
  | n + 1, R => divR m b n (dSi m b R n (dC m b R n) b.length)
noncomputable def divQ (m : Nat) (b : List Nat) : Nat → (Nat → Nat) → Nat → Nat
  | 0, _, _ => 0
  | n + 1, R, j => if j = n then dC m b R n else divQ m b n (dSi m b R n (dC m b R n) b.length) j
theorem divQ_hi (m : Nat) (b : List Nat) : ∀ (n : Nat) (R : Nat → Nat) (j : Nat), n ≤ j → divQ m b n R j = 0
  | 0, _, _, _ => rfl
  | n + 1, R, j, h => by
    unfold divQ
    rw [if_neg (by omega)]
    exact divQ_hi m b n _ j (by omega)
noncomputable def quotP (m : Nat) (a b : List Nat) : List Nat := pl (a.length + 1 - b.length) (divQ m b (a.length + 1 - b.length) (cf a))
noncomputable def restP (m : Nat) (a b : List Nat) : List Nat := pl a.length (divR m b (a.length + 1 - b.length) (cf a))
theorem dSi_lt {m : Nat} (hm : Ok m) {b : List Nat} {R : Nat → Nat} (hR : ∀ j, R j < 2 ^ m) {n c i : Nat} (hc : c < 2 ^ m) (j : Nat) : dSi m b R n c i j < 2 ^ m := by
  unfold dSi
  split
  · exact xor_lt (hR j) (gm_lt hm hc _)
  · exact hR j
theorem divR_lt {m : Nat} (hm : Ok m) {b : List Nat} : ∀ (n : Nat) {R : Nat → Nat}, (∀ j, R j < 2 ^ m) → ∀ j, divR m b n R j < 2 ^ m
  | 0, _, hR, j => hR j
  | n + 1, _, hR, j => divR_lt hm n (fun j => dSi_lt hm hR (gm_lt hm (hR _) _) j) j
theorem divQ_lt {m : Nat} (hm : Ok m) {b : List Nat} : ∀ (n : Nat) {R : Nat → Nat}, (∀ j, R j < 2 ^ m) → ∀ j, divQ m b n R j < 2 ^ m
  | 0, _, _, _ => Nat.two_pow_pos m
  | n + 1, R, hR, j => by
    unfold divQ
    split
    · exact gm_lt hm (hR _) _
    · exact divQ_lt hm n (fun j => dSi_lt hm hR (gm_lt hm (hR _) _) j) j
theorem dSi_zero (m : Nat) (b : List Nat) (R : Nat → Nat) (n c : Nat) : dSi m b R n c 0 = R := by
  funext j
  unfold dSi
  rw [if_neg (by omega)]
theorem dSi_at (m : Nat) (b : List Nat) (R : Nat → Nat) (n c i : Nat) : dSi m b R n c i (n + i) = R (n + i) := by
  unfold dSi
  rw [if_neg (by omega)]
/-- A table of elements. -/
def tabN (n : Nat) (f : Nat → Nat) : List Int := tab n (fun j => (f j : Nat))
theorem tabN_len (n : Nat) (f : Nat → Nat) : (tabN n f).length = n := tab_len _ _
theorem tabN_at {k : IntKind} {n j : Nat} {f : Nat → Nat} (h : j < n) : (ints k (tabN n f))[j]? = some (.int k (f j : Nat)) := tab_at h
theorem tabN_set {k : IntKind} {n i : Nat} {f : Nat → Nat} (z : Nat) : (ints k (tabN n f)).toArray.setIfInBounds i (.int k (z : Nat)) = (ints k (tabN n (fun j => if j = i then z else f j))).toArray := by
  unfold tabN
  rw [tab_set]
  congr 2
  exact tab_cong (fun j _ => by by_cases h : j = i <;> simp [h])
theorem tabN_setL {k : IntKind} {n i : Nat} {f : Nat → Nat} (z : Nat) : (ints k (tabN n f)).set i (.int k (z : Nat)) = ints k (tabN n (fun j => if j = i then z else f j)) := by
  unfold tabN
  rw [tab_setL]
  congr 1
  exact tab_cong (fun j _ => by by_cases h : j = i <;> simp [h])
theorem nats_tabN (k : IntKind) (a : List Nat) : nats k a = ints k (tabN a.length (cf a)) := by
  unfold nats ints tabN tab
  apply List.ext_getElem?
  intro j
  by_cases h : j < a.length <;> simp [h, cf]
theorem trim_tabN {m n : Nat} {f : Nat → Nat} (h : ∀ j, f j < 2 ^ m) : trim (lowL m (tabN n f)) = pl n f := by
  unfold tabN
  rw [trim_tab]
  exact pl_eq (fun j => by rw [lo_nat (h j)])
theorem dSi_next {m : Nat} (b : List Nat) (R : Nat → Nat) (n c i : Nat) : (fun j => if j = n + i then R (n + i) ^^^ gm m c (cf b i) else dSi m b R n c i j) = dSi m b R n c (i + 1) := by
  funext j
  by_cases h : j = n + i
  · subst h
    rw [if_pos rfl]
    unfold dSi
    rw [if_pos (by omega), show n + i - n = i by omega]
  · rw [if_neg h]
    unfold dSi
    by_cases h2 : n ≤ j ∧ j < n + i
    · rw [if_pos h2, if_pos (by omega)]
    · rw [if_neg h2, if_neg (by omega)]
structure DivG (m : Nat) (a b : List Nat) (q : Nat × (Nat → Nat) × (Nat → Nat)) : Prop where
  le : q.1 ≤ a.length + 1 - b.length
  lt : ∀ j, q.2.1 j < 2 ^ m
  rest : divR m b q.1 q.2.1 = divR m b (a.length + 1 - b.length) (cf a)
  quot : ∀ j, (if q.1 ≤ j then q.2.2 j else divQ m b q.1 q.2.1 j) = divQ m b (a.length + 1 - b.length) (cf a) j
theorem divG_start (m : Nat) {a : List Nat} (hA : ∀ x ∈ a, x < 2 ^ m) (b : List Nat) : DivG m a b (a.length + 1 - b.length, cf a, fun _ => 0) := by
  refine ⟨Nat.le_refl _, cf_lt hA (Nat.two_pow_pos m), rfl, fun j => ?_⟩
  show (if a.length + 1 - b.length ≤ j then 0 else divQ m b (a.length + 1 - b.length) (cf a) j) = _
  split
  · exact (divQ_hi m b _ _ j (by assumption)).symm
  · rfl
theorem DivG.next {m k : Nat} (hm : Ok m) {a b : List Nat} {R Q : Nat → Nat} (h : DivG m a b (k + 1, R, Q)) : DivG m a b (k, dSi m b R k (dC m b R k) b.length, fun j => if j = k then dC m b R k else Q j) := by
  refine ⟨by have := h.le; simp only at this ⊢; omega, fun j => dSi_lt hm h.lt (gm_lt hm (h.lt _) _) j, h.rest, fun j => ?_⟩
  rw [← h.quot j]
  simp only
  by_cases h1 : j = k
  · subst h1
    rw [if_pos (Nat.le_refl _), if_pos rfl, if_neg (by omega)]
    unfold divQ
    rw [if_pos rfl]
  · by_cases h2 : k + 1 ≤ j
    · rw [if_pos (by omega), if_neg h1, if_pos h2]
    · rw [if_neg (by omega), if_neg h2]
      show _ = divQ m b (k + 1) R j
      conv => rhs; unfold divQ
      rw [if_neg h1]
abbrev SpecLL (P : Program) (f : FuncId) (args : List Value) (w : World) (E G : List Nat) : Prop :=
  SpecX P f args w (X := (Option Addr × Nat) × (Option Addr × Nat)) (fun q => .tuple #[.slice q.1.1 E.length q.1.2, .slice q.2.1 G.length q.2.2, .nilIface]) (fun q => E.length ≤ q.1.2 ∧ G.length ≤ q.2.2)
    (fun q => [own 3 1 q.2.1 G.length q.2.2 (nats .i64 G), own 3 1 q.1.1 E.length q.1.2 (nats .i64 E)])

/-! ### What is refused -/
/-- Two numbers on the way. -/
def errRes (e : Nat → Addr) (k : Nat) : Value := two (.slice none 0 0) (errV e k)

theorem pmul_long (r g m : Nat) (A : Option Addr) (n c : Nat) (l : List Int) (B : Option Addr) (k d : Nat) (l2 : List Int) (e : Nat → Addr) (w : World) (hm : Ok m) (hr : Has (ringA r g m) w) (ha : Has (sl 1 A n (ints .i64 l)) w) (hb : Has (sl 1 B k (ints .i64 l2)) w) (hn : n ≤ 4294967296) (hk : k ≤ 4294967296) (he : Er e w 7) (hsm : 2048 < (trim (lowL m l)).length + (trim (lowL m l2)).length) : Spec1 Tryd.prog 88 [.pointer (some ⟨r, 0, none⟩), .slice A n c, .slice B k d] w (errRes e 7) := by
  obtain ⟨hrc, hf⟩ := ring_at hr
  have hla := ints_len ha
  subst hla
  have hlb := ints_len hb
  subst hlb
  have hA := trimLow_lt m l
  have hB := trimLow_lt m l2
  have hta := trim_length (lowL m l)
  have htb := trim_length (lowL m l2)
  have hla1 := tl_le (lowL m l)
  have hlb1 := tl_le (lowL m l2)
  have hll1 := lowL_len m l
  have hll2 := lowL_len m l2
  generalize ea : trim (lowL m l) = a at *
  generalize eb : trim (lowL m l2) = b at *
  have hla5 : a.length ≤ 4294967296 := by omega
  have hlb5 : b.length ≤ 4294967296 := by omega
  refine spec_of Tryd.func88 rfl Tryd.ntmps88 rfl ?_
  refine CW.seq ?_
  refine CW.reg [0, 1] rfl ?_   -- 0, fieldpoly.go:52
  refine s_as 6 rfl rfl ?_
  refine s_as 7 rfl rfl ?_
  refine SX.next ?_
  refine CW.seq ?_
  refine CW.reg [0, 1, 2, 3, 4, 5, 6, 7] rfl ?_   -- 1, fieldpoly.go:53
  refine s_mv 13 rfl rfl ?_
  refine s_mv 14 rfl rfl ?_
  refine s_call 15 rfl rfl rfl rfl (fun w hw => by have := trim_spec r g m A l.length c l w hm (hw.old hr) (hw.old ha) (by omega); rw [ea] at this; exact this) (fun _ _ => trivial) (fun q1 hq1 => ?_)
  refine s_mv 16 rfl rfl ?_
  refine s_mv 17 rfl rfl ?_
  refine s_call 18 rfl rfl rfl rfl (fun w hw => by have := trim_spec r g m B l2.length d l2 w hm (hw.old hr) (hw.old hb) (by omega); rw [eb] at this; exact this) (fun _ _ => trivial) (fun q2 hq2 => ?_)
  refine s_as 1 rfl rfl ?_
  refine s_as 2 rfl rfl ?_
  refine SX.next ?_
  refine CW.seq ?_
  refine CW.block ?_
  refine CW.seq ?_
  refine CW.reg [0, 1, 2, 3, 4, 5, 6] rfl ?_   -- 2, fieldpoly.go:55
  refine s_mv 20 rfl rfl ?_
  refine s_len 21 rfl rfl ?_
  refine s_mv 22 rfl rfl ?_
  refine s_len 23 rfl rfl ?_
  refine s_add 24 rfl rfl rfl (w64 (by omega)) ?_
  refine s_gt 25 rfl rfl rfl (decide_eq_true (by omega)) ?_
  refine s_as 19 rfl rfl ?_
  refine SX.next ?_
  refine CW.condT rfl ?_
  refine CW.seq ?_
  refine CW.regD (.st true 0 (.st true 1 (.st true 2 .done))) (Sto w []) mixed (by kernel_rfl) (fun _ h => h.drew) (fun _ h => h.pick [] rfl) ?_
  refine s_ldS 26 rfl rfl (fun _ h => h.cell he) ?_
  refine s_as 6 rfl rfl ?_
  refine s_as 7 rfl rfl ?_
  refine SX.next ?_
  refine CW.ret ?_
  exact KN.ret (rs := [.tmp 6, .tmp 7]) Tryd.results88 rfl (fun w hw => ⟨rfl, hw.nothing⟩)

/-! ### Roots -/
/-- The first n elements at which it is 0. -/
def rootsN (m : Nat) (a : List Nat) : Nat → List Nat
  | 0 => []
  | n + 1 => if evL m a n = 0 then rootsN m a n ++ [n] else rootsN m a n
def rootsP (m : Nat) (a : List Nat) : List Nat := if a.length = 0 then [] else rootsN m a (2 ^ m)
theorem rootsN_len (m : Nat) (a : List Nat) : ∀ n, (rootsN m a n).length ≤ n
  | 0 => Nat.le_refl _
  | n + 1 => by
    have := rootsN_len m a n
    unfold rootsN
    split
    · simp; omega
    · omega
theorem nats_snoc (k : IntKind) (a : List Nat) (x : Nat) : nats k a ++ [.int k (x : Nat)] = nats k (a ++ [x]) := by simp [nats]
theorem lowL_ofNat {m : Nat} {a : List Nat} (h : ∀ x ∈ a, x < 2 ^ m) : lowL m (a.map Int.ofNat) = a := by
  unfold lowL
  rw [List.map_map]
  conv => rhs; rw [← List.map_id a]
  exact List.map_congr_left (fun x hx => lo_nat (h x hx))

/-! ### The product of x + a -/
theorem _root_.Go.Sx.St.blkOwn {F : Nat → Prop} {w₀ w : World} {L : List Atom} {q g E sz c : Nat} {cs : Array Value} (hi : L[q]? = some (blk g E cs)) (hc : cs.size = c * sz) (hm : c ≤ maxLen) (h : St F w₀ L w) : St F w₀ (L.set q (own E sz (some ⟨g, 0, none⟩) c c cs.toList)) w :=
  h.swap hi (fun _ D ⟨h1, h2⟩ _ => ⟨D, ⟨⟨by simpa using hc, .inr ⟨g, c, cs, rfl, Nat.zero_le _, h2, Nat.le_refl _, hm, hc, by rw [List.take_of_length_le (by simp [hc])]⟩⟩, fun k => by rw [h1]; simp [ob]⟩, fun _ h => h⟩)
/-- Times x + a, so far. -/
def frF (m : Nat) (p : List Nat) (a i j : Nat) : Nat := if j < i then cf (0 :: p) j ^^^ gm m (cf p j) a else cf (0 :: p) j
def frS (m : Nat) (p : List Nat) (a : Nat) : List Nat := (List.range (p.length + 1)).map (frF m p a p.length)
def frP (m : Nat) (l : List Int) : Nat → List Nat
  | 0 => [1]
  | i + 1 => frS m (frP m l i) (lo m (l.getD i 0))
theorem frP_len (m : Nat) (l : List Int) : ∀ i, (frP m l i).length = i + 1
  | 0 => rfl
  | i + 1 => by simp [frP, frS, frP_len m l i]
theorem frF_lt {m : Nat} (hm : Ok m) {p : List Nat} (hp : ∀ x ∈ p, x < 2 ^ m) (a i j : Nat) : frF m p a i j < 2 ^ m := by
  have h0 : ∀ x ∈ (0 :: p), x < 2 ^ m := fun x hx => by
    rcases List.mem_cons.1 hx with rfl | hx
    · exact Nat.two_pow_pos m
    · exact hp x hx
  unfold frF
  split
  · exact xor_lt (cf_lt h0 (Nat.two_pow_pos m) j) (gm_lt hm (cf_lt hp (Nat.two_pow_pos m) j) a)
  · exact cf_lt h0 (Nat.two_pow_pos m) j
theorem frP_lt {m : Nat} (hm : Ok m) (l : List Int) : ∀ i, ∀ x ∈ frP m l i, x < 2 ^ m
  | 0, x, hx => by
    simp [frP] at hx
    subst hx
    exact one_lt hm
  | i + 1, x, hx => by
    obtain ⟨j, _, rfl⟩ := List.mem_map.1 hx
    exact frF_lt hm (frP_lt hm l i) _ _ j
theorem frF_next (m : Nat) (p : List Nat) (a i : Nat) : (fun j => if j = i then cf (0 :: p) i ^^^ gm m (cf p i) a else frF m p a i j) = frF m p a (i + 1) := by
  funext j
  unfold frF
  by_cases h : j = i
  · subst h; simp
  · rw [if_neg h]
    by_cases h2 : j < i
    · rw [if_pos h2, if_pos (by omega)]
    · rw [if_neg h2, if_neg (by omega)]
theorem frF_zero (m : Nat) (p : List Nat) (a : Nat) : nats .i64 (0 :: p) = ints .i64 (tabN (p.length + 1) (frF m p a 0)) := by
  rw [nats_tabN]
  rfl
theorem frF_all (m : Nat) (p : List Nat) (a : Nat) : ints .i64 (tabN (p.length + 1) (frF m p a p.length)) = nats .i64 (frS m p a) := by
  unfold frS tabN
  exact tab_nats _ _
theorem trim_nats {m : Nat} {p : List Nat} (hp : ∀ x ∈ p, x < 2 ^ m) : trim (lowL m (p.map Int.ofNat)) = trim p := by rw [lowL_ofNat hp]

/-! ### Divisors -/
theorem tl_le_cf {l : List Nat} {K : Nat} (h : ∀ j, K ≤ j → cf l j = 0) : tl l ≤ K := by
  by_cases h0 : tl l = 0
  · omega
  · exact Nat.le_of_not_lt (fun hlt => cf_top l h0 (h _ (by omega)))
theorem gm_div {m : Nat} (hm : Ok m) {x y : Nat} (hx : x < 2 ^ m) (hy : y < 2 ^ m) (h0 : y ≠ 0) : gm m (gm m x (inv m y)) y = x := by
  rw [gm_assoc hm hx (inv_lt hm y) hy, gm_comm hm (inv_lt hm y) hy, gm_inv hm hy h0, gm_one_right hm hx]
theorem divR_hi {m : Nat} (hm : Ok m) {b : List Nat} (hb : ∀ x ∈ b, x < 2 ^ m) (h0 : b.length ≠ 0) (ht : cf b (b.length - 1) ≠ 0) : ∀ (n : Nat) {R : Nat → Nat}, (∀ j, R j < 2 ^ m) → (∀ j, n + b.length - 1 ≤ j → R j = 0) → ∀ j, b.length - 1 ≤ j → divR m b n R j = 0
  | 0, _, _, hz, j, hj => hz j (by omega)
  | n + 1, R, hR, hz, j, hj => by
    refine divR_hi hm hb h0 ht n (fun j => dSi_lt hm hR (gm_lt hm (hR _) _) j) (fun i hi => ?_) j hj
    unfold dSi
    by_cases h : i = n + b.length - 1
    · rw [if_pos (by omega)]
      rw [← h, show i - n = b.length - 1 by omega, gm_div hm (hR i) (cf_lt hb (Nat.two_pow_pos m) _) ht, Nat.xor_self]
    · rw [if_neg (by omega)]
      exact hz i (by omega)
theorem rest_hi {m : Nat} (hm : Ok m) {a b : List Nat} (ha : ∀ x ∈ a, x < 2 ^ m) (hb : ∀ x ∈ b, x < 2 ^ m) (h0 : b.length ≠ 0) (ht : cf b (b.length - 1) ≠ 0) (j : Nat) (hj : b.length - 1 ≤ j) : divR m b (a.length + 1 - b.length) (cf a) j = 0 :=
  divR_hi hm hb h0 ht _ (cf_lt ha (Nat.two_pow_pos m)) (fun i hi => cf_out (by omega)) j hj
theorem restP_len {m : Nat} (hm : Ok m) {a b : List Nat} (ha : ∀ x ∈ a, x < 2 ^ m) (hb : ∀ x ∈ b, x < 2 ^ m) (h0 : b.length ≠ 0) (ht : cf b (b.length - 1) ≠ 0) : (restP m a b).length < b.length := by
  have : tl ((List.range a.length).map (divR m b (a.length + 1 - b.length) (cf a))) ≤ b.length - 1 := tl_le_cf (fun j hj => by
    rw [cf_range]
    split
    · exact rest_hi hm ha hb h0 ht j hj
    · rfl)
  unfold restP pl
  rw [trim_length]
  omega
/-- Elements, without noughts at the end. -/
structure Tr (m : Nat) (a : List Nat) : Prop where
  lt : ∀ x ∈ a, x < 2 ^ m
  eq : trim a = a
theorem Tr.top {m : Nat} {a : List Nat} (h : Tr m a) (h0 : a.length ≠ 0) : cf a (a.length - 1) ≠ 0 := by
  have h1 : tl a = a.length := by rw [← trim_length, h.eq]
  rw [← h1]
  exact cf_top a (by omega)
theorem pl_tr {m n : Nat} {f : Nat → Nat} (h : ∀ j, f j < 2 ^ m) : Tr m (pl n f) := by
  refine ⟨trim_lt (fun x hx => ?_), trim_pl n f⟩
  obtain ⟨j, _, rfl⟩ := List.mem_map.1 hx
  exact h j
theorem trimLow_tr (m : Nat) (l : List Int) : Tr m (trim (lowL m l)) := ⟨trimLow_lt m l, trim_trim _⟩
theorem restP_tr {m : Nat} (hm : Ok m) {a b : List Nat} (ha : Tr m a) : Tr m (restP m a b) := pl_tr (divR_lt hm _ (cf_lt ha.lt (Nat.two_pow_pos m)))
/-- The greatest common divisor, but for a factor. -/
noncomputable def gcdP (m : Nat) : Nat → List Nat → List Nat → List Nat
  | 0, a, _ => a
  | k + 1, a, b => if b.length = 0 then a else gcdP m k b (restP m a b)
theorem gcdP_more {m : Nat} (hm : Ok m) : ∀ {k i : Nat} {a b : List Nat}, Tr m a → Tr m b → b.length < k → b.length < i → gcdP m k a b = gcdP m i a b
  | 0, _, _, _, _, _, h, _ => by omega
  | _ + 1, 0, _, _, _, _, _, h => by omega
  | k + 1, i + 1, a, b, ha, hb, h1, h2 => by
    unfold gcdP
    split
    · rfl
    · rename_i h0
      have := restP_len hm ha.lt hb.lt h0 (hb.top h0)
      exact gcdP_more hm hb (restP_tr hm ha) (by omega) (by omega)
noncomputable def gcdE (m : Nat) (a b : List Nat) : List Nat := gcdP m (b.length + 1) a b
theorem gcdE_step {m : Nat} (hm : Ok m) {a b : List Nat} (ha : Tr m a) (hb : Tr m b) (h0 : b.length ≠ 0) : gcdE m b (restP m a b) = gcdE m a b := by
  unfold gcdE
  have := restP_len hm ha.lt hb.lt h0 (hb.top h0)
  rw [gcdP_more hm hb (restP_tr hm ha) (Nat.lt_succ_self _) (show _ < b.length by omega)]
  show _ = gcdP m (b.length + 1) a b
  conv => rhs; unfold gcdP
  rw [if_neg h0]
theorem gcdE_last {m : Nat} {a b : List Nat} (h0 : b.length = 0) : gcdE m a b = a := by
  unfold gcdE gcdP
  rw [if_pos h0]
noncomputable def monicP (m : Nat) (a : List Nat) : List Nat := if a.length = 0 then [] else scaleP m a (inv m (cf a (a.length - 1)))

/-- What the common divisor's loop keeps. -/
structure GcdL (m : Nat) (a b : List Nat) (q : List Nat × List Nat × (Option Addr × Nat) × (Option Addr × Nat)) : Prop where
  h1 : Tr m q.1
  h2 : Tr m q.2.1
  l1 : q.1.length ≤ 4294967296
  l2 : q.2.1.length ≤ 4294967296
  eq : gcdE m q.1 q.2.1 = gcdE m a b
theorem Tr.low {m : Nat} {a : List Nat} (h : Tr m a) : trim (lowL m (a.map Int.ofNat)) = a := by rw [lowL_ofNat h.lt, h.eq]
