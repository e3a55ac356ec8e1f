/- The walk of the statement ModelPlays, text 3. Conditions: each theorem tells its own. -/
import Derived.Test.YtaamaifnmppbgaaDoorWModelPlaysB
section
/- The statement ModelPlays, walked: where the geometry may be. Conditions: the errors' variables; what is told is read where it lies. -/
namespace Go.Proofs.YtaamaifnmppbgaaDoor
open Go Go.Sx
set_option maxRecDepth 100000
theorem _root_.Go.Sx.Has.doEnt {A : Option Addr} {ds : List DoG} {w : World} (h : Has (sl 4 A ds.length (rowsD ds)) w) {i : Nat} {d : DoG} (hd : ds[i]? = some d) : ∀ j v, d.e.row[j]? = some v → w.cell? ⟨ob A, oo A + i * 4 + 0 + j, none⟩ = some v := fun j v hj => by
  have := h.doRow hd j v (by
    unfold DoG.row
    rw [List.getElem?_append_left (List.getElem?_eq_some_iff.1 hj).1]
    exact hj)
  exact this
/-- Both models are in the same state. -/
structure Both (u : MdG) (d : DmG) (ns sz i : Nat) : Prop where
  m : MS u sz u.th.abs u.wa.abs
  d : DS d sz u.th.abs u.wa.abs
  n : u.th.l.length = ns
  w : u.wa.l.length ≤ i
def errC (u : MdG) (sz : Nat) (en : EntG) : Nat := u.wrC en.k (if en.tr then sz else en.l.length)
def putL (sz : Nat) (en : EntG) : List Nat := if en.tr then List.replicate sz 0 else en.l
theorem errC_is {u : MdG} {d : DmG} {ns sz i : Nat} (h : Both u d ns sz i) (en : EntG) : errC u sz en = if 0 ≤ en.k ∧ en.k < (ns : Int) then (if en.tr = false ∧ en.l.length ≠ sz then 2 else 0) else 1 := by
  have hl : u.th.abs.length = ns := by rw [LsG.abs_len, h.n]
  unfold errC
  rw [h.m.wr, hl]
  by_cases hk : 0 ≤ en.k ∧ en.k < (ns : Int)
  · rw [if_pos hk, if_pos hk]
    cases ht : en.tr
    · by_cases hz : en.l.length = sz
      · simp [hz]
      · simp [hz]
    · simp
  · rw [if_neg hk, if_neg hk]

theorem Both.flushed {u z : MdG} {d : DmG} {ns sz i : Nat} {f : LsG} (h : Both u d ns sz i) (hz : z.size = u.size ∧ z.th.abs = frontL u.th.abs u.wa.abs ∧ z.wa = WsG.nil ∧ z.th.l.length ≤ z.th.c) (hf : f.abs = frontL d.th.abs (d.waits.take d.es.length) ∧ f.l.length ≤ f.c) : Both z ⟨d.size, f, none, 0, []⟩ ns sz (i + 1) := by
  have h1 := h.m.flush hz.1 hz.2.1 hz.2.2.1
  have hf1 : f.abs = frontL u.th.abs u.wa.abs := by
    have h2 := hf.1
    rw [← DmG.wlen, List.take_length, h.d.t, h.d.a] at h2
    exact h2
  have h3 : DS ⟨d.size, f, none, 0, []⟩ sz (frontL u.th.abs u.wa.abs) [] := h.d.settled rfl hf1 rfl (frontL_len ..) h.m.allF
  refine ⟨by rw [h1.t, h1.a]; exact h1, by rw [h1.t, h1.a]; exact h3, ?_, by rw [h1.wl]; exact Nat.zero_le _⟩
  rw [h1.tl, frontL_len, LsG.abs_len, h.n]

theorem Both.put {u z : MdG} {d : DmG} {ns sz i : Nat} {en : EntG} {A O2 : Option Addr} {c2 oc2 : Nat} (h : Both u d ns sz i) (hE : errC u sz en = 0) (hP : u.Put z en.k.toNat (putL sz en)) (hd2 : en.l.length ≤ 2000) (hb : ∀ v ∈ en.l, v < 256) (hi : i < 60) (hc : d.es.length + 1 ≤ oc2) : Both z ⟨d.size, d.th, O2, oc2, d.es ++ [⟨en.k, en.tr, A, c2, en.l⟩]⟩ ns sz (i + 1) := by
  have hl : u.th.abs.length = ns := by rw [LsG.abs_len, h.n]
  have hwl := h.w
  have hal : u.wa.abs.length = u.wa.l.length := WsG.abs_len _
  rw [errC_is h] at hE
  by_cases hk : 0 ≤ en.k ∧ en.k < (ns : Int)
  · rw [if_pos hk] at hE
    have hsz : en.tr = false → en.l.length = sz := fun ht => Classical.byContradiction fun hne => by rw [if_pos ⟨ht, hne⟩] at hE; cases hE
    have hpl : (putL sz en).length = sz ∧ ∀ v ∈ putL sz en, v < 256 := by
      unfold putL
      cases ht : en.tr
      · exact ⟨hsz ht, hb⟩
      · exact ⟨List.length_replicate, fun v hv => by rw [(List.mem_replicate.1 hv).2]; decide⟩
    have h1 := h.m.put hP (by rw [hl]; omega) hpl.1 hpl.2 (by omega)
    have h2 := h.d.put (A := O2) (c := oc2) (e := ⟨en.k, en.tr, A, c2, en.l⟩) hk.1 (by rw [hl]; exact hk.2) hd2 hsz hb (by omega) hc
    exact ⟨by rw [h1.t, h1.a]; exact h1, by rw [h1.t, h1.a]; exact h2, by rw [hP.t, h.n], by rw [h1.wl, List.length_append, hal]; show _ + 1 ≤ _; omega⟩
  · rw [if_neg hk] at hE
    cases hE
theorem Both.more {u : MdG} {d : DmG} {ns sz i : Nat} (h : Both u d ns sz i) : Both u d ns sz (i + 1) := ⟨h.m, h.d, h.n, by have := h.w; omega⟩

theorem sameLs_yes (q1 q2 : LsG) (w : World) (h1 : Has (sl 1 q1.A q1.l.length (q1.l.flatMap ByG.row)) w) (s1 : Has q1.star w) (b1 : ∀ b ∈ q1.l, ∀ v ∈ b.l, v < 256) (h2 : Has (sl 1 q2.A q2.l.length (q2.l.flatMap ByG.row)) w) (s2 : Has q2.star w) (b2 : ∀ b ∈ q2.l, ∀ v ∈ b.l, v < 256) (n1 : q1.l.length ≤ 1000) (he : q1.abs = q2.abs) : Spec1 Tryd.prog 16 [q1.hdr, q2.hdr] w (.bool true) := by
  have h5 := sameLsM_spec q1 q2 w h1 s1 b1 h2 s2 b2 n1
  rw [decide_eq_true he] at h5
  exact h5
theorem sameBy_yes (b d : ByG) (w : World) (ha : Has (sl 1 b.A b.l.length (nats .u8 b.l)) w) (hb : Has (sl 1 d.A d.l.length (nats .u8 d.l)) w) (hd : ∀ x ∈ d.l, x < 256) (he : b.l = d.l) : Spec1 Tryd.prog 14 [.slice b.A b.l.length b.c, .slice d.A d.l.length d.c] w (.bool true) := by
  have h5 := sameBytesM_spec b.A b.l.length b.c b.l d.A d.l.length d.c d.l w ha (by rw [he]; exact hd) hb hd
  rw [decide_eq_true he] at h5
  exact h5

theorem dm_push {F : Nat → Prop} {w₀ w : World} {L : List Atom} {x gT : Nat} {c0 : Array Value} {d : DmG} {en : EntG} {O : Option Addr} {oc : Nat} (h : St F w₀ (blk gT 33 c0 :: en.dat :: blk x 40 #[.int .i64 (d.size : Nat), d.th.hdr, .slice O (d.es.length + 1) oc] :: d.th.out :: d.th.star :: own 33 3 O (d.es.length + 1) oc (rowsE d.es ++ en.row) :: d.was :: L) w) : St F w₀ (dmA x ⟨d.size, d.th, O, oc, d.es ++ [en]⟩ :: L) w := by
  have h1 : St F w₀ (en.dat :: d.was :: blk x 40 #[.int .i64 (d.size : Nat), d.th.hdr, .slice O (d.es.length + 1) oc] :: d.th.out :: d.th.star :: own 33 3 O (d.es.length + 1) oc (rowsE d.es ++ en.row) :: L) w := h.tail.perm (List.Perm.cons _ (List.perm_middle (l₁ := [blk x 40 #[.int .i64 (d.size : Nat), d.th.hdr, .slice O (d.es.length + 1) oc], d.th.out, d.th.star, own 33 3 O (d.es.length + 1) oc (rowsE d.es ++ en.row)])))
  have h2 := St.starPush (A := en.dat) h1
  have h3 := h2.perm (List.perm_middle (l₁ := [blk x 40 #[.int .i64 (d.size : Nat), d.th.hdr, .slice O (d.es.length + 1) oc], d.th.out, d.th.star, own 33 3 O (d.es.length + 1) oc (rowsE d.es ++ en.row)])).symm
  refine St.dmC (x := ⟨d.size, d.th, O, oc, d.es ++ [en]⟩) ?_
  have e1 : (d.es ++ [en]).length = d.es.length + 1 := by rw [List.length_append]; rfl
  have e2 : rowsE (d.es ++ [en]) = rowsE d.es ++ en.row := by rw [rowsE_app]; simp [rowsE]
  have e3 : datsE (d.es ++ [en]) = datsE d.es ++ [en.dat] := List.map_append
  unfold DmG.hd DmG.cells DmG.wao DmG.was
  simp only [e1, e2, e3]
  exact h3

def ByG.sig (b : ByG) : Option Addr × Nat × Nat := (b.A, b.c, b.l.length)
theorem sig_set {l : List ByG} {j : Nat} {b b2 : ByG} (h : l[j]? = some b) (hs : b2.sig = b.sig) : (l.set j b2).map ByG.sig = l.map ByG.sig := by
  rw [List.map_set, hs]
  have e : (l.map ByG.sig)[j]? = some b.sig := by rw [List.getElem?_map, h]; rfl
  obtain ⟨h1, h2⟩ := List.getElem?_eq_some_iff.1 e
  rw [← h2, List.set_getElem_self]
theorem sig_row {a b : ByG} (h : a.sig = b.sig) : a.row = b.row := by
  unfold ByG.sig at h
  simp only [Prod.mk.injEq] at h
  unfold ByG.row
  rw [h.1, h.2.1, h.2.2]
theorem sig_rows {l l2 : List ByG} (h : l2.map ByG.sig = l.map ByG.sig) : l2.flatMap ByG.row = l.flatMap ByG.row := by
  have e : ∀ l : List ByG, l.flatMap ByG.row = (l.map ByG.sig).flatMap (fun s => [.slice s.1 s.2.2 s.2.1]) := fun l => by rw [List.flatMap_map]; rfl
  rw [e, e, h]
theorem sig_at {l l2 : List ByG} (h : l2.map ByG.sig = l.map ByG.sig) {j : Nat} {b : ByG} (hb : l[j]? = some b) : ∃ b2, l2[j]? = some b2 ∧ b2.sig = b.sig := by
  have e := congrArg (·[j]?) h
  simp only [List.getElem?_map, hb, Option.map_some] at e
  obtain ⟨b2, h1, h2⟩ := Option.map_eq_some_iff.1 e
  exact ⟨b2, h1, h2⟩

set_option maxHeartbeats 8000000 in

theorem plays_main (ns sz : Nat) (A : Option Addr) (c : Nat) (ds : List DoG) (a3 a4 a5 : Int) (e : Nat → Addr) (w : World) (heN : ∀ w', Fr (Old w) w w' → Er e w' 1) (heS : ∀ w', Fr (Old w) w w' → Er e w' 2) (hn : ds.length ≤ 60) (h1 : 1 ≤ ns) (h2 : ns ≤ 40) (h3 : 1 ≤ sz) (h4 : sz ≤ 1024) (hs : Has (sl 4 A ds.length (rowsD ds)) w) (hz : ∀ d ∈ ds, EntIn w d.e) : Spec1 Tryd.prog 3 [.int .i64 (ns : Nat), .int .i64 (sz : Nat), .slice A ds.length c, .int .i64 a3, .int .i64 a4, .int .i64 a5] w (.bool true) := by
  refine calls_ofI Tryd.func3 rfl Tryd.ntmps3 rfl (C := Sto w []) (St.start w) ?_
  refine CWI.seq ?_
  refine CWI.reg [0, 1] rfl (by kernel_rfl) ?_
  refine SXI.of1 (pf := fun _ => True) (fun _ hK => s_box 11 rfl rfl (fun _ _ => trivial) (fun x => SX.done (hK x trivial))) (fun b11 _ => ?_)
  refine SXI.of1 (pf := fun _ => True) (fun _ hK => s_alloc 12 rfl (fun _ _ => trivial) (fun x => SX.done (hK x trivial))) (fun b12 _ => ?_)
  refine SXI.next ?_
  refine CWI.seq ?_
  refine CWI.reg [0, 1] rfl (by kernel_rfl) ?_
  refine SXI.of (fun _ hK => s_call1 37 rfl rfl rfl rfl (fun w hw => first_spec e w (fun w2 hf => heN _ (hw.fr.trans (hf.mono (fun k hk => Nat.lt_of_lt_of_le hk hw.fr.size)))) (fun w2 hf => heS _ (hw.fr.trans (hf.mono (fun k hk => Nat.lt_of_lt_of_le hk hw.fr.size))))) (fun _ _ => trivial) (SX.done hK)) ?_
  refine SXI.of (fun _ hK => s_as 13 rfl rfl (SX.done hK)) ?_
  refine SXI.next ?_
  refine CWI.seq ?_
  refine CWI.seq ?_
  refine CWI.reg [0, 1, 2, 3, 4, 5, 6] rfl (by kernel_rfl) ?_
  refine SXI.of (fun _ hK => s_mv 38 rfl rfl (SX.done hK)) ?_
  refine SXI.of (fun _ hK => s_len 39 rfl rfl (SX.done hK)) ?_
  refine SXI.of (fun _ hK => s_gt 40 rfl rfl rfl (decide_eq_false (by omega)) (SX.done hK)) ?_
  refine SXI.of (fun _ hK => s_mv 41 rfl rfl (SX.done hK)) ?_
  refine SXI.of (fun _ hK => s_mv 42 rfl rfl (SX.done hK)) ?_
  refine SXI.of (fun _ hK => s_not 43 rfl rfl (SX.done hK)) ?_
  refine SXI.of (fun _ hK => s_pickF 44 rfl rfl rfl (SX.done hK)) ?_
  refine SXI.next ?_
  refine CWI.condF rfl ?_
  refine CWI.skip ?_
  refine KNI.code ?_
  refine CWI.seq ?_
  refine CWI.reg [0, 1, 2, 3, 4, 5, 6, 7, 8, 9, 10, 11, 12, 13, 14] rfl (by kernel_rfl) ?_
  refine SXI.of (fun _ hK => s_mv 46 rfl rfl (SX.done hK)) ?_
  refine SXI.of (fun _ hK => s_ge 47 rfl rfl rfl (decide_eq_true (by omega)) (SX.done hK)) ?_
  refine SXI.of (fun _ hK => s_mv 48 rfl rfl (SX.done hK)) ?_
  refine SXI.of (fun _ hK => s_mv 49 rfl rfl (SX.done hK)) ?_
  refine SXI.of (fun _ hK => s_le 50 rfl rfl rfl (decide_eq_true (by omega)) (SX.done hK)) ?_
  refine SXI.of (fun _ hK => s_pickT 51 rfl rfl rfl (SX.done hK)) ?_
  refine SXI.of (fun _ hK => s_mv 52 rfl rfl (SX.done hK)) ?_
  refine SXI.of (fun _ hK => s_mv 53 rfl rfl (SX.done hK)) ?_
  refine SXI.of (fun _ hK => s_ge 54 rfl rfl rfl (decide_eq_true (by omega)) (SX.done hK)) ?_
  refine SXI.of (fun _ hK => s_pickT 55 rfl rfl rfl (SX.done hK)) ?_
  refine SXI.of (fun _ hK => s_mv 56 rfl rfl (SX.done hK)) ?_
  refine SXI.of (fun _ hK => s_mv 57 rfl rfl (SX.done hK)) ?_
  refine SXI.of (fun _ hK => s_le 58 rfl rfl rfl (decide_eq_true (by omega)) (SX.done hK)) ?_
  refine SXI.of (fun _ hK => s_pickT 59 rfl rfl rfl (SX.done hK)) ?_
  refine SXI.of (fun _ hK => s_as 14 rfl rfl (SX.done hK)) ?_
  refine SXI.next ?_
  refine CWI.seq ?_
  refine CWI.seq ?_
  refine CWI.reg [0, 1, 2, 3, 4] rfl (by kernel_rfl) ?_
  refine SXI.of (fun _ hK => s_mv 60 rfl rfl (SX.done hK)) ?_
  refine SXI.of (fun _ hK => s_mv 61 rfl rfl (SX.done hK)) ?_
  refine SXI.of (fun _ hK => s_mv 62 rfl rfl (SX.done hK)) ?_
  refine SXI.of (fun _ hK => s_gt 63 rfl rfl rfl (decide_eq_false (by omega)) (SX.done hK)) ?_
  refine SXI.of (fun _ hK => s_pickT 64 rfl rfl rfl (SX.done hK)) ?_
  refine SXI.next ?_
  refine CWI.condF rfl ?_
  refine CWI.skip ?_
  refine KNI.code ?_
  refine CWI.seq ?_
  refine CWI.reg [0, 1, 2, 3, 4, 5, 6, 7] rfl (by kernel_rfl) ?_
  refine SXI.of (fun _ hK => s_mv 66 rfl rfl (SX.done hK)) ?_
  refine SXI.of (fun _ hK => s_mv 67 rfl rfl (SX.done hK)) ?_
  refine SXI.of1 (fun _ hK => s_call 68 rfl rfl rfl rfl (fun w hw => newM_ok ns sz w h1 h2 h3 h4) (fun _ _ => trivial) (fun x hx => SX.done (hK x hx))) (fun zz hzz => ?_)
  obtain ⟨m, u0⟩ := zz
  obtain ⟨hz1, hz2, hz3, _⟩ := hzz
  simp only at hz1 hz2 hz3
  have hU0 := MS.new hz1 hz2 hz3 h1 h2 h3 h4
  dsimp only
  refine SXI.of (fun _ hK => s_mv 65 rfl rfl (SX.done hK)) ?_
  refine SXI.of (fun _ hK => s_ext 69 rfl rfl rfl (SX.done hK)) ?_
  refine SXI.of (fun _ hK => s_ext 70 rfl rfl rfl (SX.done hK)) ?_
  refine SXI.of (fun _ hK => s_as 15 rfl rfl (SX.done hK)) ?_
  refine SXI.of (fun _ hK => s_as 16 rfl rfl (SX.done hK)) ?_
  refine SXI.next ?_
  refine CWI.seq ?_
  refine CWI.seq ?_
  refine CWI.reg [0, 1] rfl (by kernel_rfl) ?_
  refine SXI.of (fun _ hK => s_mv 71 rfl rfl (SX.done hK)) ?_
  refine SXI.of (fun _ hK => s_not 72 rfl rfl (SX.done hK)) ?_
  refine SXI.next ?_
  refine CWI.condF rfl ?_
  refine CWI.skip ?_
  refine KNI.code ?_
  refine CWI.seq ?_
  refine CWI.seq ?_
  refine CWI.reg [0, 1, 2, 3, 4, 5] rfl (by kernel_rfl) ?_
  refine SXI.of (fun _ hK => s_mv 80 rfl rfl (SX.done hK)) ?_
  refine SXI.of (fun _ hK => s_eqPN 81 rfl rfl (SX.done hK)) ?_
  refine SXI.of (fun _ hK => s_mv 82 rfl rfl (SX.done hK)) ?_
  refine SXI.of (fun _ hK => s_mv 83 rfl rfl (SX.done hK)) ?_
  refine SXI.of (fun _ hK => s_neNN 84 rfl rfl (SX.done hK)) ?_
  refine SXI.of (fun _ hK => s_pickF 85 rfl rfl rfl (SX.done hK)) ?_
  refine SXI.next ?_
  refine CWI.condF rfl ?_
  refine CWI.skip ?_
  refine KNI.code ?_
  refine CWI.seq ?_
  refine CWI.reg [0, 1, 2, 3, 4] rfl (by kernel_rfl) ?_
  refine SXI.of (fun _ hK => s_mv 86 rfl rfl (SX.done hK)) ?_
  refine SXI.of (fun _ hK => s_mv 87 rfl rfl (SX.done hK)) ?_
  refine SXI.of1 (fun _ hK => s_call 88 rfl rfl rfl rfl (fun w hw => newDm_ok ns sz w h1 h2 h3 h4) (fun _ _ => trivial) (fun x hx => SX.done (hK x hx))) (fun zz hzz => ?_)
  obtain ⟨xp, d0⟩ := zz
  obtain ⟨hy1, hy2, hy3, _⟩ := hzz
  simp only at hy1 hy2 hy3
  have hD0 := DS.new hy1 hy2 hy3 h1 h2 h3 h4
  dsimp only
  have hB0 : Both u0 d0 ns sz 0 := ⟨by rw [hU0.t, hU0.a]; exact hU0, by rw [hU0.t, hU0.a]; exact hD0, by rw [hU0.tl, List.length_replicate], by rw [hU0.wl]; exact Nat.le_refl _⟩
  refine SXI.of1 (pf := fun _ => True) (fun _ hK => s_alloc 17 rfl (fun _ _ => trivial) (fun x => SX.done (hK x trivial))) (fun b17 _ => ?_)
  refine SXI.of (fun _ hK => s_stB 0 rfl rfl rfl rfl rfl (by show 0 < 1; decide) (fun _ _ => trivial) (SX.done hK)) ?_
  refine SXI.next ?_
  refine CWI.seq ?_
  refine CWI.seq ?_
  refine CWI.reg [0] rfl (by kernel_rfl) ?_
  refine SXI.of (fun _ hK => s_as 18 rfl rfl (SX.done hK)) ?_
  refine SXI.next ?_
  refine CWI.block ?_
  refine CWI.loop (G := Nat × MdG × DmG) (fun _ => []) (fun z => [(0, .int .i64 (ns : Nat)), (1, .int .i64 (sz : Nat)), (2, .slice A ds.length c), (3, .int .i64 a3), (4, .int .i64 a4), (11, .pointer (some ⟨b11, 0, none⟩)), (12, .pointer (some ⟨b12, 0, none⟩)), (15, .pointer (some ⟨m, 0, none⟩)), (17, .pointer (some ⟨b17, 0, none⟩)), (18, .int .i64 (z.1 : Nat))]) (fun z => Sto w [modelA m z.2.1, dmA xp z.2.2, blk b17 29 #[.pointer (some ⟨xp, 0, none⟩)], blk b12 4 #[.bool false], blk b11 3 #[.int .i64 a5]]) (fun z => z.1 ≤ ds.length ∧ Both z.2.1 z.2.2 ns sz z.1) (fun z => ds.length - z.1) (0, u0, d0) rfl ⟨rfl, rfl, rfl, rfl, rfl, rfl, rfl, rfl, rfl, rfl, trivial⟩ (fun _ h => h.pick [2, 1, 0, 0, 0] rfl) ⟨Nat.zero_le _, hB0⟩ ?_
  clear hU0 hD0 hB0 hz1 hz2 hz3 hy1 hy2 hy3
  rintro ⟨i, u, d⟩ ⟨hi, hB⟩
  simp only at hi hB
  dsimp only
  refine CWI.seq ?_
  refine CWI.seq ?_
  refine CWI.reg [0, 1, 2, 3] rfl (by kernel_rfl) ?_
  refine SXI.of (fun _ hK => s_mv 89 rfl rfl (SX.done hK)) ?_
  refine SXI.of (fun _ hK => s_mv 90 rfl rfl (SX.done hK)) ?_
  refine SXI.of (fun _ hK => s_len 91 rfl rfl (SX.done hK)) ?_
  refine SXI.of (fun _ hK => s_lt 92 rfl rfl rfl rfl (SX.done hK)) ?_
  refine SXI.next ?_
  refine CWI.test rfl (fun hc => ?_) (fun hc => ?_)
  · skip
    have hil : i < ds.length := by omega
    obtain ⟨dd, hdd⟩ : ∃ dd, ds[i]? = some dd := ⟨_, List.getElem?_eq_getElem hil⟩
    obtain ⟨en, hen⟩ : ∃ en, en = dd.e := ⟨_, rfl⟩
    have hrow := fun {w2 : World} {L} (hw : Sto w L w2) => (hw.old hs).doEnt hdd
    rw [← hen] at hrow
    have hin := hz dd (List.mem_of_getElem? hdd)
    rw [← hen] at hin
    obtain ⟨hin1, hin2, _⟩ := hin
    refine CWI.skip ?_
    refine KNI.code ?_
    refine CWI.seq ?_
    refine CWI.block ?_
    refine CWI.seq ?_
    refine CWI.reg [0, 1, 2, 3, 4, 5, 6] rfl (by kernel_rfl) ?_
    refine SXI.of (fun _ hK => s_mv 95 rfl rfl (SX.done hK)) ?_
    refine SXI.of (fun _ hK => s_mv 96 rfl rfl (SX.done hK)) ?_
    refine SXI.of (fun _ hK => s_iaV 97 i (fun w hw => hw.old hs) rfl rfl rfl rfl hil (SX.done hK)) ?_
    refine SXI.of (fun _ hK => s_fa 98 rfl rfl (SX.done hK)) ?_
    refine SXI.of (fun _ hK => s_ldR 99 (cs := en.row) rfl rfl rfl (fun w hw => hrow hw) (SX.done hK)) ?_
    refine SXI.of1 (pf := fun _ => True) (fun _ hK => s_alloc 19 rfl (fun _ _ => trivial) (fun x => SX.done (hK x trivial))) (fun b19 _ => ?_)
    refine SXI.of (fun _ hK => s_stAll 0 rfl rfl (by kernel_rfl) rfl rfl rfl rfl (fun _ _ => trivial) (SX.done hK)) ?_
    refine SXI.next ?_
    refine CWI.seq ?_
    refine CWI.seq ?_
    refine CWI.reg [0, 1, 2, 3] rfl (by kernel_rfl) ?_
    refine SXI.of (fun _ hK => s_fa 100 rfl rfl (SX.done hK)) ?_
    refine SXI.of (fun _ hK => s_ldB 101 0 rfl rfl rfl (v := .slice en.A en.l.length en.c) rfl (SX.done hK)) ?_
    refine SXI.of (fun _ hK => s_len 102 rfl rfl (SX.done hK)) ?_
    refine SXI.of (fun _ hK => s_gt 103 rfl rfl rfl rfl (SX.done hK)) ?_
    refine SXI.next ?_
    refine CWI.test rfl (fun hc2 => ?_) (fun hc2 => ?_)
    · skip
      refine CWI.seq ?_
      refine CWI.reg [0] rfl (by kernel_rfl) ?_
      refine SXI.of (fun _ hK => s_stB 4 rfl rfl rfl rfl rfl (by show 0 < 1; decide) (fun _ _ => trivial) (SX.done hK)) ?_
      refine SXI.next ?_
      refine CWI.ret ?_
      exact retMC (rs := [.cell 12 4]) (L := [blk b12 4 #[.bool true]]) [] rfl Tryd.results3 (fun _ h => h.pick [4] rfl) (fun w hw => ⟨[_], ⟨⟨_, rfl, run_loadVar1 (hw.blkCell (i := 0) (j := 0) rfl rfl)⟩, trivial⟩, rfl, hw.nothing⟩)
    · skip
      have hd2 : en.l.length ≤ 2000 := by omega
      refine CWI.skip ?_
      refine KNI.code ?_
      refine CWI.seq ?_
      refine CWI.seq ?_
      refine CWI.reg [0, 1, 2, 3, 4] rfl (by kernel_rfl) ?_
      refine SXI.of (fun _ hK => s_mv 104 rfl rfl (SX.done hK)) ?_
      refine SXI.of (fun _ hK => s_mv 105 rfl rfl (SX.done hK)) ?_
      refine SXI.of (fun _ hK => s_iaV 106 i (fun w hw => hw.old hs) rfl rfl rfl rfl hil (SX.done hK)) ?_
      refine SXI.of (fun _ hK => s_fa 107 rfl rfl (SX.done hK)) ?_
      refine SXI.of (fun _ hK => s_ld 108 rfl rfl (v := .bool dd.cl) (fun _ hw => (hw.old hs).doRow hdd 3 _ rfl) (SX.done hK)) ?_
      refine SXI.next ?_
      refine CWI.cond rfl (fun hcl => ?_) (fun hcl => ?_)
      · skip
        refine CWI.seq ?_
        refine CWI.reg [0, 1] rfl (by kernel_rfl) ?_
        refine SXI.of (fun _ hK => s_mv 109 rfl rfl (SX.done hK)) ?_
        refine SXI.of1 (fun _ hK => s_callP 110 [1, 0, 0, 0, 0, 0] (M := [modelA m u]) (R := [blk b19 33 en.row.toArray, dmA xp d, blk b17 29 #[.pointer (some ⟨xp, 0, none⟩)], blk b12 4 #[.bool false], blk b11 3 #[.int .i64 a5]]) (X := MdG) (v := fun _ => oneOf []) (pf := fun z => z.size = u.size ∧ z.th.abs = frontL u.th.abs u.wa.abs ∧ z.wa = WsG.nil ∧ z.th.l.length ≤ z.th.c) (M' := fun z => [modelA m z]) rfl rfl rfl rfl rfl (fun F' w' hR hM => flushM_spec F' m u w' hB.m.ok hM) (fun _ _ _ => trivial) (fun x hx => SX.done (hK x hx))) (fun z hz => ?_)
        refine SXI.next ?_
        refine CWI.seq ?_
        refine CWI.pre (fun _ h => St.dmO (h.pick [2, 0, 0, 0, 0, 0] rfl)) ?_
        refine CWI.regD (.st true 0 (.st true 1 (.st true 2 (.st true 3 (.st true 4 (.st true 5 (.st true 6 (.st false 7 (.st true 8 (.st true 9 (.st false 10 .done))))))))))) (fun w' => w'.cell? ⟨xp, 2, none⟩ = some (.slice d.A d.es.length d.c) ∧ Sto w [blk b17 29 #[.pointer (some ⟨xp, 0, none⟩)]] w') mixed (by kernel_rfl) (fun _ h => h.drew) (fun _ h => by first | exact ⟨h.blkCell (i := 0) (j := 2) rfl rfl, h.pick [7] rfl⟩ | exact ⟨h.blkCell (i := 2) (j := 2) rfl rfl, h.pick [9] rfl⟩) ?_
        refine SXI.of (fun _ hK => s_ldS 111 rfl rfl (v := .pointer (some ⟨xp, 0, none⟩)) (fun _ h => h.2.blkCell (i := 0) (j := 0) rfl rfl) (SX.done hK)) ?_
        refine SXI.of (fun _ hK => s_ldS 112 rfl rfl (v := .pointer (some ⟨xp, 0, none⟩)) (fun _ h => h.2.blkCell (i := 0) (j := 0) rfl rfl) (SX.done hK)) ?_
        refine SXI.of (fun _ hK => s_ldS 113 rfl rfl (v := .pointer (some ⟨xp, 0, none⟩)) (fun _ h => h.2.blkCell (i := 0) (j := 0) rfl rfl) (SX.done hK)) ?_
        refine SXI.of (fun _ hK => s_nil 114 rfl rfl (SX.done hK)) ?_
        refine SXI.of (fun _ hK => s_fa 115 rfl rfl (SX.done hK)) ?_
        refine SXI.of (fun _ hK => s_ldS 116 rfl rfl (v := .slice d.A d.es.length d.c) (fun _ h => h.1) (SX.done hK)) ?_
        refine SXI.of (fun _ hK => s_len 117 rfl rfl (SX.done hK)) ?_
        refine SXI.of1 (fun _ hK => s_call 118 rfl rfl rfl rfl (fun w hw => dfront_spec xp d d.es.length w hB.d.ok (Nat.le_refl _) ⟨fun j v hj => hw.blkCell (i := 0) rfl hj, (hw.has (i := 1) rfl).of_own, hw.has (i := 2) rfl, (hw.has (i := 3) rfl).of_own, hw.has (i := 4) rfl⟩) (fun _ h => by first | exact ⟨h.blkCell (i := 0) (j := 2) rfl rfl, h.pick [7] rfl⟩ | exact ⟨h.blkCell (i := 2) (j := 2) rfl rfl, h.pick [9] rfl⟩) (fun x hx => SX.done (hK x hx))) (fun f hf => ?_)
        refine SXI.of (fun _ hK => s_nil 119 rfl rfl (SX.done hK)) ?_
        refine SXI.of (fun _ hK => s_fa 120 rfl rfl (SX.done hK)) ?_
        refine SXI.of (fun _ hK => s_stB 2 rfl rfl rfl rfl rfl (by show 1 < 3; decide) (fun _ h => by first | exact ⟨h.blkCell (i := 0) (j := 2) rfl rfl, h.pick [7] rfl⟩ | exact ⟨h.blkCell (i := 2) (j := 2) rfl rfl, h.pick [9] rfl⟩) (SX.done hK)) ?_
        refine SXI.next ?_
        refine CWI.seq ?_
        refine CWI.reg [0, 1, 2, 3] rfl (by kernel_rfl) ?_
        refine SXI.of (fun _ hK => s_ldB 121 9 rfl rfl rfl (v := .pointer (some ⟨xp, 0, none⟩)) rfl (SX.done hK)) ?_
        refine SXI.of (fun _ hK => s_nil 122 rfl rfl (SX.done hK)) ?_
        refine SXI.of (fun _ hK => s_fa 123 rfl rfl (SX.done hK)) ?_
        refine SXI.of (fun _ hK => s_stB 2 rfl rfl rfl rfl rfl (by show 2 < 3; decide) (fun _ _ => trivial) (SX.done hK)) ?_
        refine SXI.next ?_
        refine CWI.exit rfl ?_
        refine KNI.code ?_
        refine CWI.reg [0, 1, 2] rfl (by kernel_rfl) ?_
        refine SXI.of (fun _ hK => s_mv 93 rfl rfl (SX.done hK)) ?_
        refine SXI.of (fun _ hK => s_add 94 rfl rfl rfl (r := ((i + 1 : Nat) : Int)) (w64 (by omega)) (SX.done hK)) ?_
        refine SXI.of (fun _ hK => s_as 18 rfl rfl (SX.done hK)) ?_
        refine SXI.end_ ?_
        exact KNI.back (i + 1, z, (⟨d.size, f, none, 0, []⟩ : DmG)) rfl ⟨rfl, rfl, rfl, rfl, rfl, rfl, rfl, rfl, rfl, rfl, trivial⟩ (fun _ h => by
          have h1 := h.pick [2, 0, 0, 4, 5, 5, 5] rfl
          have h2 := (h1.begin_ 33 3).starNil
          exact (St.dmC (x := (⟨d.size, f, none, 0, []⟩ : DmG)) (h2.pick [2, 2, 2, 1, 0, 0, 0, 0, 0] rfl)).pick [1, 0, 0, 0, 0] rfl) ⟨by simp only; omega, hB.flushed hz hf⟩ (by simp only; omega)
      · skip
        skip
        refine CWI.skip ?_
        refine KNI.code ?_
        refine CWI.seq ?_
        refine CWI.reg [0] rfl (by kernel_rfl) ?_
        refine SXI.of (fun _ hK => s_as 20 rfl rfl (SX.done hK)) ?_
        refine SXI.next ?_
        refine CWI.seq ?_
        refine CWI.reg [0, 1, 2, 3] rfl (by kernel_rfl) ?_
        refine SXI.of (fun _ hK => s_fa 124 rfl rfl (SX.done hK)) ?_
        refine SXI.of (fun _ hK => s_ldB 125 0 rfl rfl rfl (v := .slice en.A en.l.length en.c) rfl (SX.done hK)) ?_
        refine SXI.of1 (fun _ hK => s_call 126 rfl rfl rfl rfl (fun w hw => rbytesM_spec en.A en.l.length en.c en.l w (hw.old hin1) (by omega)) (fun _ _ => trivial) (fun x hx => SX.done (hK x hx))) (fun zo hzo => ?_)
        refine SXI.of (fun _ hK => s_as 21 rfl rfl (SX.done hK)) ?_
        refine SXI.next ?_
        refine CWI.cut (G := MdG) (fun z => [(0, .int .i64 (ns : Nat)), (1, .int .i64 (sz : Nat)), (2, .slice A ds.length c), (3, .int .i64 a3), (4, .int .i64 a4), (11, .pointer (some ⟨b11, 0, none⟩)), (12, .pointer (some ⟨b12, 0, none⟩)), (15, .pointer (some ⟨m, 0, none⟩)), (17, .pointer (some ⟨b17, 0, none⟩)), (18, .int .i64 (i : Nat)), (19, .pointer (some ⟨b19, 0, none⟩)), (20, wrV e (errC u sz en)), (21, .slice zo.1 en.l.length zo.2)]) (fun z => Sto w [modelA m z, own 5 1 zo.1 en.l.length zo.2 (nats .u8 en.l), blk b19 33 en.row.toArray, dmA xp d, blk b17 29 #[.pointer (some ⟨xp, 0, none⟩)], blk b12 4 #[.bool false], blk b11 3 #[.int .i64 a5]]) (fun z => (errC u sz en = 0 → u.Put z en.k.toNat (putL sz en)) ∧ (errC u sz en ≠ 0 → z = u)) ?_ ?_
        · skip
          refine CWI.seq ?_
          refine CWI.reg [0, 1] rfl (by kernel_rfl) ?_
          refine SXI.of (fun _ hK => s_fa 127 rfl rfl (SX.done hK)) ?_
          refine SXI.of (fun _ hK => s_ldB 128 1 rfl rfl rfl (v := .bool en.tr) rfl (SX.done hK)) ?_
          refine SXI.next ?_
          refine CWI.cond rfl (fun htr => ?_) (fun htr => ?_)
          · skip
            refine CWI.reg [0, 1, 2, 3, 4] rfl (by kernel_rfl) ?_
            refine SXI.of (fun _ hK => s_mv 129 rfl rfl (SX.done hK)) ?_
            refine SXI.of (fun _ hK => s_fa 130 rfl rfl (SX.done hK)) ?_
            refine SXI.of (fun _ hK => s_ldB 131 1 rfl rfl rfl (v := .int .i64 en.k) rfl (SX.done hK)) ?_
            refine SXI.of1 (fun _ hK => s_callP 132 [2, 0, 0, 0, 0, 0, 0] (M := [modelA m u]) (R := [own 5 1 zo.1 en.l.length zo.2 (nats .u8 en.l), blk b19 33 en.row.toArray, dmA xp d, blk b17 29 #[.pointer (some ⟨xp, 0, none⟩)], blk b12 4 #[.bool false], blk b11 3 #[.int .i64 a5]]) (X := MdG) (v := fun _ => wrV e (u.wrC en.k u.size)) (pf := fun z => (u.wrC en.k u.size = 0 → u.Put z (en.k : Int).toNat (List.replicate u.size 0)) ∧ (u.wrC en.k u.size ≠ 0 → z = u)) (M' := fun z => [modelA m z]) rfl rfl rfl rfl rfl (fun F' w' hR hM => trimM_spec F' m u en.k e w' hB.m.ok (fun w2 hf => heN _ (hR w2 hf).fr) (fun w2 hf => heS _ (hR w2 hf).fr) hM) (fun _ _ _ => trivial) (fun x hx => SX.done (hK x hx))) (fun z hz => ?_)
            have hcE : u.wrC en.k u.size = errC u sz en := by unfold errC; rw [htr, hB.m.s]; rfl
            have hcP : List.replicate u.size 0 = putL sz en := by unfold putL; rw [htr, hB.m.s]; rfl
            rw [hcE, hcP] at hz
            rw [hcE]
            refine SXI.of (fun _ hK => s_as 20 rfl rfl (SX.done hK)) ?_
            refine SXI.end_ ?_
            exact KNI.join z ⟨rfl, rfl, rfl, rfl, rfl, rfl, rfl, rfl, rfl, rfl, rfl, rfl, rfl, trivial⟩ (fun _ h => h) hz
          · skip
            refine CWI.reg [0, 1, 2, 3, 4, 5] rfl (by kernel_rfl) ?_
            refine SXI.of (fun _ hK => s_mv 133 rfl rfl (SX.done hK)) ?_
            refine SXI.of (fun _ hK => s_fa 134 rfl rfl (SX.done hK)) ?_
            refine SXI.of (fun _ hK => s_ldB 135 1 rfl rfl rfl (v := .int .i64 en.k) rfl (SX.done hK)) ?_
            refine SXI.of (fun _ hK => s_mv 136 rfl rfl (SX.done hK)) ?_
            refine SXI.of1 (fun _ hK => s_callP 137 [2, 0, 0, 0, 0, 0, 0] (M := [modelA m u]) (R := [own 5 1 zo.1 en.l.length zo.2 (nats .u8 en.l), blk b19 33 en.row.toArray, dmA xp d, blk b17 29 #[.pointer (some ⟨xp, 0, none⟩)], blk b12 4 #[.bool false], blk b11 3 #[.int .i64 a5]]) (X := MdG) (v := fun _ => wrV e (u.wrC en.k en.l.length)) (pf := fun z => (u.wrC en.k en.l.length = 0 → u.Put z en.k.toNat en.l) ∧ (u.wrC en.k en.l.length ≠ 0 → z = u)) (M' := fun z => [modelA m z]) rfl rfl rfl rfl rfl (fun F' w' hR hM => writeM_spec F' m u en.k zo.1 zo.2 en.l e w' hB.m.ok (fun w2 hf => heN _ (hR w2 hf).fr) (fun w2 hf => heS _ (hR w2 hf).fr) (fun w2 hf => ((hR w2 hf).has (i := 0) rfl).of_own) hM) (fun _ _ _ => trivial) (fun x hx => SX.done (hK x hx))) (fun z hz => ?_)
            have hcE : u.wrC en.k en.l.length = errC u sz en := by unfold errC; rw [htr]; rfl
            have hcP : en.l = putL sz en := by unfold putL; rw [htr]; rfl
            rw [hcE] at hz
            rw [hcE]
            refine SXI.of (fun _ hK => s_as 20 rfl rfl (SX.done hK)) ?_
            refine SXI.end_ ?_
            exact KNI.join z ⟨rfl, rfl, rfl, rfl, rfl, rfl, rfl, rfl, rfl, rfl, rfl, rfl, rfl, trivial⟩ (fun _ h => h) ⟨fun h => by rw [← hcP]; exact hz.1 h, hz.2⟩
        · skip
          intro z hz
          refine CWI.seq ?_
          refine CWI.seq ?_
          refine CWI.reg [0] rfl (by kernel_rfl) ?_
          refine SXI.of (fun _ hK => s_as 22 rfl rfl (SX.done hK)) ?_
          refine SXI.next ?_
          refine CWI.block ?_
          refine CWI.loop (G := Nat × List Nat) (fun _ => []) (fun q => [(0, .int .i64 (ns : Nat)), (1, .int .i64 (sz : Nat)), (2, .slice A ds.length c), (3, .int .i64 a3), (4, .int .i64 a4), (11, .pointer (some ⟨b11, 0, none⟩)), (12, .pointer (some ⟨b12, 0, none⟩)), (15, .pointer (some ⟨m, 0, none⟩)), (17, .pointer (some ⟨b17, 0, none⟩)), (18, .int .i64 (i : Nat)), (19, .pointer (some ⟨b19, 0, none⟩)), (20, wrV e (errC u sz en)), (21, .slice zo.1 en.l.length zo.2), (22, .int .i64 (q.1 : Nat))]) (fun q => Sto w [own 5 1 zo.1 en.l.length zo.2 (nats .u8 q.2), modelA m z, blk b19 33 en.row.toArray, dmA xp d, blk b17 29 #[.pointer (some ⟨xp, 0, none⟩)], blk b12 4 #[.bool false], blk b11 3 #[.int .i64 a5]]) (fun q => q.1 ≤ en.l.length ∧ q.2.length = en.l.length) (fun q => en.l.length - q.1) (0, en.l) rfl ⟨rfl, rfl, rfl, rfl, rfl, rfl, rfl, rfl, rfl, rfl, rfl, rfl, rfl, rfl, trivial⟩ (fun _ h => h.pick [1, 0, 0, 0, 0, 0, 0] rfl) ⟨Nat.zero_le _, rfl⟩ ?_
          rintro ⟨k, ml⟩ ⟨hk, hml⟩
          simp only at hk hml
          dsimp only
          refine CWI.seq ?_
          refine CWI.seq ?_
          refine CWI.reg [0, 1, 2, 3] rfl (by kernel_rfl) ?_
          refine SXI.of (fun _ hK => s_mv 138 rfl rfl (SX.done hK)) ?_
          refine SXI.of (fun _ hK => s_mv 139 rfl rfl (SX.done hK)) ?_
          refine SXI.of (fun _ hK => s_len 140 rfl rfl (SX.done hK)) ?_
          refine SXI.of (fun _ hK => s_lt 141 rfl rfl rfl rfl (SX.done hK)) ?_
          refine SXI.next ?_
          refine CWI.test rfl (fun hc => ?_) (fun hc => ?_)
          · skip
            have hkl : k < en.l.length := by omega
            refine CWI.skip ?_
            refine KNI.code ?_
            refine CWI.seq ?_
            refine CWI.block ?_
            refine CWI.reg [0, 1, 2, 3] rfl (by kernel_rfl) ?_
            refine SXI.of (fun _ hK => s_mv 144 rfl rfl (SX.done hK)) ?_
            refine SXI.of (fun _ hK => s_mv 145 rfl rfl (SX.done hK)) ?_
            refine SXI.of (fun _ hK => s_iaO 146 0 k rfl rfl rfl rfl rfl hkl (SX.done hK)) ?_
            refine SXI.of (fun _ hK => s_stO 0 rfl rfl rfl rfl rfl hkl (fun _ _ => trivial) (SX.done hK)) ?_
            refine SXI.end_ ?_
            refine KNI.blk ?_
            refine KNI.code ?_
            refine CWI.reg [0, 1, 2] rfl (by kernel_rfl) ?_
            refine SXI.of (fun _ hK => s_mv 142 rfl rfl (SX.done hK)) ?_
            refine SXI.of (fun _ hK => s_add 143 rfl rfl rfl (r := ((k + 1 : Nat) : Int)) (w64 (by omega)) (SX.done hK)) ?_
            refine SXI.of (fun _ hK => s_as 22 rfl rfl (SX.done hK)) ?_
            refine SXI.end_ ?_
            exact KNI.back (k + 1, ml.set k 238) rfl ⟨rfl, rfl, rfl, rfl, rfl, rfl, rfl, rfl, rfl, rfl, rfl, rfl, rfl, rfl, trivial⟩ (fun _ h => by simp only [natsm_set]; exact h) ⟨by simp only; omega, by simp only [List.length_set]; exact hml⟩ (by simp only; omega)
          · skip
            refine CWI.exit rfl ?_
            refine KNI.code ?_
            refine CWI.cut (G := MdG × DmG) (fun z => [(0, .int .i64 (ns : Nat)), (1, .int .i64 (sz : Nat)), (2, .slice A ds.length c), (3, .int .i64 a3), (4, .int .i64 a4), (11, .pointer (some ⟨b11, 0, none⟩)), (12, .pointer (some ⟨b12, 0, none⟩)), (15, .pointer (some ⟨m, 0, none⟩)), (17, .pointer (some ⟨b17, 0, none⟩)), (18, .int .i64 (i : Nat))]) (fun z => Sto w [modelA m z.1, dmA xp z.2, blk b17 29 #[.pointer (some ⟨xp, 0, none⟩)], blk b12 4 #[.bool false], blk b11 3 #[.int .i64 a5]]) (fun z => Both z.1 z.2 ns sz (i + 1)) ?_ ?_
            · skip
              refine CWI.block ?_
              refine CWI.seq ?_
              refine CWI.reg [0, 1, 2, 3, 4, 5, 6, 7, 8, 9] rfl (by kernel_rfl) ?_
              refine SXI.of (fun _ hK => s_fa 167 rfl rfl (SX.done hK)) ?_
              refine SXI.of (fun _ hK => s_ldB 168 2 rfl rfl rfl (v := .int .i64 en.k) rfl (SX.done hK)) ?_
              refine SXI.of (fun _ hK => s_lt 169 rfl rfl rfl rfl (SX.done hK)) ?_
              refine SXI.of (fun _ hK => s_mv 170 rfl rfl (SX.done hK)) ?_
              refine SXI.bool 170 rfl (fun hb => ?_) (fun hb => ?_)
              · skip
                have hout : ¬ (0 ≤ en.k ∧ en.k < (ns : Int)) := by have := of_decide_eq_true hb; omega
                refine SXI.of (fun _ hK => SX.skip rfl (SX.done hK)) ?_
                refine SXI.of (fun _ hK => SX.skip rfl (SX.done hK)) ?_
                refine SXI.of (fun _ hK => SX.skip rfl (SX.done hK)) ?_
                refine SXI.of (fun _ hK => SX.skip rfl (SX.done hK)) ?_
                refine SXI.of (fun _ hK => s_pickT 175 rfl rfl rfl (SX.done hK)) ?_
                refine SXI.of (fun _ hK => s_as 166 rfl rfl (SX.done hK)) ?_
                refine SXI.next ?_
                refine CWI.condT rfl ?_
                refine CWI.seq ?_
                refine CWI.reg [0, 1, 2] rfl (by kernel_rfl) ?_
                have hE : errC u sz en = 1 := by rw [errC_is hB, if_neg hout]
                obtain rfl := hz.2 (by rw [hE]; decide)
                rw [hE]
                refine SXI.of (fun _ hK => s_mv 176 rfl rfl (SX.done hK)) ?_
                refine SXI.of (fun _ hK => s_ld 177 rfl rfl (fun _ h => heN _ h.fr) (SX.done hK)) ?_
                refine SXI.of (fun _ hK => s_neE 178 rfl rfl rfl (SX.done hK)) ?_
                refine SXI.next ?_
                refine CWI.condF rfl ?_
                refine CWI.skip ?_
                refine KNI.blk ?_
                exact KNI.join (z, d) ⟨rfl, rfl, rfl, rfl, rfl, rfl, rfl, rfl, rfl, rfl, trivial⟩ (fun _ h => h.pick [1, 2, 2, 2, 2] rfl) hB.more
              · skip
                have hk0 := of_decide_eq_false hb
                refine SXI.of (fun _ hK => s_fa 171 rfl rfl (SX.done hK)) ?_
                refine SXI.of (fun _ hK => s_ldB 172 2 rfl rfl rfl (v := .int .i64 en.k) rfl (SX.done hK)) ?_
                refine SXI.of (fun _ hK => s_mv 173 rfl rfl (SX.done hK)) ?_
                refine SXI.of (fun _ hK => s_ge 174 rfl rfl rfl rfl (SX.done hK)) ?_
                refine SXI.of (fun _ hK => s_pickF 175 rfl rfl rfl (SX.done hK)) ?_
                refine SXI.of (fun _ hK => s_as 166 rfl rfl (SX.done hK)) ?_
                refine SXI.next ?_
                refine CWI.cond rfl (fun hc5 => ?_) (fun hc5 => ?_)
                · skip
                  have hout : ¬ (0 ≤ en.k ∧ en.k < (ns : Int)) := by have := of_decide_eq_true hc5; omega
                  refine CWI.seq ?_
                  refine CWI.reg [0, 1, 2] rfl (by kernel_rfl) ?_
                  have hE : errC u sz en = 1 := by rw [errC_is hB, if_neg hout]
                  obtain rfl := hz.2 (by rw [hE]; decide)
                  rw [hE]
                  refine SXI.of (fun _ hK => s_mv 176 rfl rfl (SX.done hK)) ?_
                  refine SXI.of (fun _ hK => s_ld 177 rfl rfl (fun _ h => heN _ h.fr) (SX.done hK)) ?_
                  refine SXI.of (fun _ hK => s_neE 178 rfl rfl rfl (SX.done hK)) ?_
                  refine SXI.next ?_
                  refine CWI.condF rfl ?_
                  refine CWI.skip ?_
                  refine KNI.blk ?_
                  exact KNI.join (z, d) ⟨rfl, rfl, rfl, rfl, rfl, rfl, rfl, rfl, rfl, rfl, trivial⟩ (fun _ h => h.pick [1, 2, 2, 2, 2] rfl) hB.more
                · skip
                  have hkin : 0 ≤ en.k ∧ en.k < (ns : Int) := by have := of_decide_eq_false hc5; omega
                  refine CWI.seq ?_
                  refine CWI.reg [0, 1, 2, 3, 4, 5, 6, 7, 8, 9, 10] rfl (by kernel_rfl) ?_
                  refine SXI.of (fun _ hK => s_fa 180 rfl rfl (SX.done hK)) ?_
                  refine SXI.of (fun _ hK => s_ldB 181 2 rfl rfl rfl (v := .bool en.tr) rfl (SX.done hK)) ?_
                  refine SXI.of (fun _ hK => s_not 182 rfl rfl (SX.done hK)) ?_
                  refine SXI.of (fun _ hK => s_mv 183 rfl rfl (SX.done hK)) ?_
                  refine SXI.bool 183 rfl (fun hb => ?_) (fun hb => ?_)
                  · skip
                    have htr : en.tr = false := by simpa using hb
                    refine SXI.of (fun _ hK => s_fa 184 rfl rfl (SX.done hK)) ?_
                    refine SXI.of (fun _ hK => s_ldB 185 2 rfl rfl rfl (v := .slice en.A en.l.length en.c) rfl (SX.done hK)) ?_
                    refine SXI.of (fun _ hK => s_len 186 rfl rfl (SX.done hK)) ?_
                    refine SXI.of (fun _ hK => s_mv 187 rfl rfl (SX.done hK)) ?_
                    refine SXI.of (fun _ hK => s_ne 188 rfl rfl rfl rfl (SX.done hK)) ?_
                    refine SXI.of (fun _ hK => s_pickT 189 rfl rfl rfl (SX.done hK)) ?_
                    refine SXI.of (fun _ hK => s_as 179 rfl rfl (SX.done hK)) ?_
                    refine SXI.next ?_
                    refine CWI.cond rfl (fun hc6 => ?_) (fun hc6 => ?_)
                    · skip
                      have hE : errC u sz en = 2 := by
                        have h5 := of_decide_eq_true hc6
                        rw [errC_is hB, if_pos hkin, if_pos ⟨htr, fun h => h5 (by rw [h])⟩]
                      obtain rfl := hz.2 (by rw [hE]; decide)
                      rw [hE]
                      refine CWI.seq ?_
                      refine CWI.reg [0, 1, 2] rfl (by kernel_rfl) ?_
                      refine SXI.of (fun _ hK => s_mv 190 rfl rfl (SX.done hK)) ?_
                      refine SXI.of (fun _ hK => s_ld 191 rfl rfl (fun _ h => heS _ h.fr) (SX.done hK)) ?_
                      refine SXI.of (fun _ hK => s_neE 192 rfl rfl rfl (SX.done hK)) ?_
                      refine SXI.next ?_
                      refine CWI.condF rfl ?_
                      refine CWI.skip ?_
                      refine KNI.blk ?_
                      exact KNI.join (z, d) ⟨rfl, rfl, rfl, rfl, rfl, rfl, rfl, rfl, rfl, rfl, trivial⟩ (fun _ h => h.pick [1, 2, 2, 2, 2] rfl) hB.more
                    · skip
                      refine CWI.seq ?_
                      refine CWI.seq ?_
                      refine CWI.reg [0, 1] rfl (by kernel_rfl) ?_
                      have hE : errC u sz en = 0 := by
                        rw [errC_is hB, if_pos hkin]
                        by_cases hx : en.tr = false ∧ en.l.length ≠ sz
                        · exfalso
                          first | (have h5 := of_decide_eq_false hc6; have h6 := hx.2; omega) | (rw [htr] at hx; exact (nomatch hx.1))
                        · rw [if_neg hx]
                      rw [hE]
                      refine SXI.of (fun _ hK => s_mv 147 rfl rfl (SX.done hK)) ?_
                      refine SXI.of (fun _ hK => s_neNN 148 rfl rfl (SX.done hK)) ?_
                      refine SXI.next ?_
                      refine CWI.condF rfl ?_
                      refine CWI.skip ?_
                      refine KNI.code ?_
                      have hdl : d.es.length ≤ 100 := hB.d.ok.wn
                      refine CWI.pre (fun _ h => St.dmO (h.pick [3, 0, 0, 0, 0, 0, 0] rfl)) ?_
                      refine CWI.regD (.st true 0 (.st true 1 (.st true 2 (.st true 3 (.st true 5 (.st true 6 (.st true 7 (.st true 8 (.st true 9 (.st true 10 (.alt 4 (.st false 11 (.st false 12 (.st false 13 (.st false 14 (.st true 15 (.st true 16 (.st false 17 .done))))))) (.st false 11 (.alt 4 (.st false 12 (.st false 13 (.st false 14 (.st true 15 (.st true 16 (.st false 17 .done)))))) (.st false 12 (.alt 4 (.st false 13 (.st false 14 (.st true 15 (.st true 16 (.st false 17 .done))))) (.st false 13 (.st false 4 (.st false 14 (.st true 15 (.st true 16 (.st false 17 .done))))))))))))))))))))) (Sto w [blk b17 29 #[.pointer (some ⟨xp, 0, none⟩)], blk b19 33 en.row.toArray]) mixed (by kernel_rfl) (fun _ h => h.drew) (fun _ h => by first | exact h.pick [8, 7] rfl | exact h.pick [9, 8] rfl | exact h.pick [10, 9] rfl) ?_
                      refine SXI.of (fun _ hK => s_ldS 149 rfl rfl (v := .pointer (some ⟨xp, 0, none⟩)) (fun _ h => h.blkCell (i := 0) (j := 0) rfl rfl) (SX.done hK)) ?_
                      refine SXI.of (fun _ hK => s_ldS 150 rfl rfl (v := .pointer (some ⟨xp, 0, none⟩)) (fun _ h => h.blkCell (i := 0) (j := 0) rfl rfl) (SX.done hK)) ?_
                      refine SXI.of (fun _ hK => s_nil 151 rfl rfl (SX.done hK)) ?_
                      refine SXI.of (fun _ hK => s_fa 152 rfl rfl (SX.done hK)) ?_
                      refine SXI.of (fun _ hK => s_fa 154 rfl rfl (SX.done hK)) ?_
                      refine SXI.of (fun _ hK => s_ldS 155 rfl rfl (v := .int .i64 en.k) (fun _ h => h.blkCell (i := 1) (j := 0) rfl rfl) (SX.done hK)) ?_
                      refine SXI.of (fun _ hK => s_fa 156 rfl rfl (SX.done hK)) ?_
                      refine SXI.of (fun _ hK => s_ldS 157 rfl rfl (v := .bool en.tr) (fun _ h => h.blkCell (i := 1) (j := 1) rfl rfl) (SX.done hK)) ?_
                      refine SXI.of (fun _ hK => s_fa 158 rfl rfl (SX.done hK)) ?_
                      refine SXI.of (fun _ hK => s_ldS 159 rfl rfl (v := .slice en.A en.l.length en.c) (fun _ h => h.blkCell (i := 1) (j := 2) rfl rfl) (SX.done hK)) ?_
                      refine SXI.alt ?_ ?_
                      · skip
                        refine SXI.of (fun _ hK => s_ldB 153 0 rfl rfl rfl (v := .slice d.A d.es.length d.c) rfl (SX.done hK)) ?_
                        refine SXI.of1 (fun _ hK => s_call 160 rfl rfl rfl rfl (fun w hw => rbytesM_spec en.A en.l.length en.c en.l w (hw.old hin1) (by omega)) (fun _ h => by first | exact h.pick [8, 7] rfl | exact h.pick [9, 8] rfl | exact h.pick [10, 9] rfl) (fun x hx => SX.done (hK x hx))) (fun zq hzq => ?_)
                        refine SXI.of (fun _ hK => s_build 161 rfl rfl (cells := #[.int .i64 en.k, .bool en.tr, .slice zq.1 en.l.length zq.2]) (by kernel_rfl) (SX.done hK)) ?_
                        refine SXI.of1 (pf := fun _ => True) (fun _ hK => s_bsl 162 rfl rfl (cells := #[.int .i64 en.k, .bool en.tr, .slice zq.1 en.l.length zq.2]) (by kernel_rfl) rfl (fun _ h => by first | exact h.pick [8, 7] rfl | exact h.pick [9, 8] rfl | exact h.pick [10, 9] rfl) (fun x => SX.done (hK x trivial))) (fun gT _ => ?_)
                        refine SXI.of2 (fun _ hK => s_app 163 5 rfl rfl rfl rfl (ys := (⟨en.k, en.tr, zq.1, zq.2, en.l⟩ : EntG).row) (fun w hw => hasCong ((hw.has (i := 0) rfl).blk_sl (m := 1) rfl) rfl) rfl rfl (by omega) (by unfold maxLen; omega) (by omega) (fun _ _ _ h => by first | exact h.pick [10, 9] rfl | exact h.pick [9, 8] rfl) (fun x y hx => SX.done (hK x y hx))) (fun O2 oc2 hoc2 => ?_)
                        refine SXI.of (fun _ hK => s_nil 164 rfl rfl (SX.done hK)) ?_
                        refine SXI.of (fun _ hK => s_fa 165 rfl rfl (SX.done hK)) ?_
                        refine SXI.of (fun _ hK => s_stB 2 rfl rfl rfl rfl rfl (by show 2 < 3; decide) (fun _ h => by first | exact h.pick [8, 7] rfl | exact h.pick [9, 8] rfl | exact h.pick [10, 9] rfl) (SX.done hK)) ?_
                        refine SXI.end_ ?_
                        refine KNI.blk ?_
                        exact KNI.join (z, (⟨d.size, d.th, O2, oc2, d.es ++ [(⟨en.k, en.tr, zq.1, zq.2, en.l⟩ : EntG)]⟩ : DmG)) ⟨rfl, rfl, rfl, rfl, rfl, rfl, rfl, rfl, rfl, rfl, trivial⟩ (fun _ h => (dm_push (d := d) (en := (⟨en.k, en.tr, zq.1, zq.2, en.l⟩ : EntG)) (O := O2) (oc := oc2) (x := xp) h).pick [2, 0, 2, 2, 2] rfl) (hB.put hE (hz.1 hE) hd2 hin2 (by omega) (by omega))
                      · skip
                        refine SXI.of1 (fun _ hK => s_call 160 rfl rfl rfl rfl (fun w hw => rbytesM_spec en.A en.l.length en.c en.l w (hw.old hin1) (by omega)) (fun _ h => by first | exact h.pick [8, 7] rfl | exact h.pick [9, 8] rfl | exact h.pick [10, 9] rfl) (fun x hx => SX.done (hK x hx))) (fun zq hzq => ?_)
                        refine SXI.alt ?_ ?_
                        · skip
                          refine SXI.of (fun _ hK => s_ldB 153 1 rfl rfl rfl (v := .slice d.A d.es.length d.c) rfl (SX.done hK)) ?_
                          refine SXI.of (fun _ hK => s_build 161 rfl rfl (cells := #[.int .i64 en.k, .bool en.tr, .slice zq.1 en.l.length zq.2]) (by kernel_rfl) (SX.done hK)) ?_
                          refine SXI.of1 (pf := fun _ => True) (fun _ hK => s_bsl 162 rfl rfl (cells := #[.int .i64 en.k, .bool en.tr, .slice zq.1 en.l.length zq.2]) (by kernel_rfl) rfl (fun _ h => by first | exact h.pick [8, 7] rfl | exact h.pick [9, 8] rfl | exact h.pick [10, 9] rfl) (fun x => SX.done (hK x trivial))) (fun gT _ => ?_)
                          refine SXI.of2 (fun _ hK => s_app 163 5 rfl rfl rfl rfl (ys := (⟨en.k, en.tr, zq.1, zq.2, en.l⟩ : EntG).row) (fun w hw => hasCong ((hw.has (i := 0) rfl).blk_sl (m := 1) rfl) rfl) rfl rfl (by omega) (by unfold maxLen; omega) (by omega) (fun _ _ _ h => by first | exact h.pick [10, 9] rfl | exact h.pick [9, 8] rfl) (fun x y hx => SX.done (hK x y hx))) (fun O2 oc2 hoc2 => ?_)
                          refine SXI.of (fun _ hK => s_nil 164 rfl rfl (SX.done hK)) ?_
                          refine SXI.of (fun _ hK => s_fa 165 rfl rfl (SX.done hK)) ?_
                          refine SXI.of (fun _ hK => s_stB 2 rfl rfl rfl rfl rfl (by show 2 < 3; decide) (fun _ h => by first | exact h.pick [8, 7] rfl | exact h.pick [9, 8] rfl | exact h.pick [10, 9] rfl) (SX.done hK)) ?_
                          refine SXI.end_ ?_
                          refine KNI.blk ?_
                          exact KNI.join (z, (⟨d.size, d.th, O2, oc2, d.es ++ [(⟨en.k, en.tr, zq.1, zq.2, en.l⟩ : EntG)]⟩ : DmG)) ⟨rfl, rfl, rfl, rfl, rfl, rfl, rfl, rfl, rfl, rfl, trivial⟩ (fun _ h => (dm_push (d := d) (en := (⟨en.k, en.tr, zq.1, zq.2, en.l⟩ : EntG)) (O := O2) (oc := oc2) (x := xp) h).pick [2, 0, 2, 2, 2] rfl) (hB.put hE (hz.1 hE) hd2 hin2 (by omega) (by omega))
                        · skip
                          refine SXI.of (fun _ hK => s_build 161 rfl rfl (cells := #[.int .i64 en.k, .bool en.tr, .slice zq.1 en.l.length zq.2]) (by kernel_rfl) (SX.done hK)) ?_
                          refine SXI.alt ?_ ?_
                          · skip
                            refine SXI.of (fun _ hK => s_ldB 153 1 rfl rfl rfl (v := .slice d.A d.es.length d.c) rfl (SX.done hK)) ?_
                            refine SXI.of1 (pf := fun _ => True) (fun _ hK => s_bsl 162 rfl rfl (cells := #[.int .i64 en.k, .bool en.tr, .slice zq.1 en.l.length zq.2]) (by kernel_rfl) rfl (fun _ h => by first | exact h.pick [8, 7] rfl | exact h.pick [9, 8] rfl | exact h.pick [10, 9] rfl) (fun x => SX.done (hK x trivial))) (fun gT _ => ?_)
                            refine SXI.of2 (fun _ hK => s_app 163 5 rfl rfl rfl rfl (ys := (⟨en.k, en.tr, zq.1, zq.2, en.l⟩ : EntG).row) (fun w hw => hasCong ((hw.has (i := 0) rfl).blk_sl (m := 1) rfl) rfl) rfl rfl (by omega) (by unfold maxLen; omega) (by omega) (fun _ _ _ h => by first | exact h.pick [10, 9] rfl | exact h.pick [9, 8] rfl) (fun x y hx => SX.done (hK x y hx))) (fun O2 oc2 hoc2 => ?_)
                            refine SXI.of (fun _ hK => s_nil 164 rfl rfl (SX.done hK)) ?_
                            refine SXI.of (fun _ hK => s_fa 165 rfl rfl (SX.done hK)) ?_
                            refine SXI.of (fun _ hK => s_stB 2 rfl rfl rfl rfl rfl (by show 2 < 3; decide) (fun _ h => by first | exact h.pick [8, 7] rfl | exact h.pick [9, 8] rfl | exact h.pick [10, 9] rfl) (SX.done hK)) ?_
                            refine SXI.end_ ?_
                            refine KNI.blk ?_
                            exact KNI.join (z, (⟨d.size, d.th, O2, oc2, d.es ++ [(⟨en.k, en.tr, zq.1, zq.2, en.l⟩ : EntG)]⟩ : DmG)) ⟨rfl, rfl, rfl, rfl, rfl, rfl, rfl, rfl, rfl, rfl, trivial⟩ (fun _ h => (dm_push (d := d) (en := (⟨en.k, en.tr, zq.1, zq.2, en.l⟩ : EntG)) (O := O2) (oc := oc2) (x := xp) h).pick [2, 0, 2, 2, 2] rfl) (hB.put hE (hz.1 hE) hd2 hin2 (by omega) (by omega))
                          · skip
                            refine SXI.of1 (pf := fun _ => True) (fun _ hK => s_bsl 162 rfl rfl (cells := #[.int .i64 en.k, .bool en.tr, .slice zq.1 en.l.length zq.2]) (by kernel_rfl) rfl (fun _ h => by first | exact h.pick [8, 7] rfl | exact h.pick [9, 8] rfl | exact h.pick [10, 9] rfl) (fun x => SX.done (hK x trivial))) (fun gT _ => ?_)
                            refine SXI.of (fun _ hK => s_ldB 153 2 rfl rfl rfl (v := .slice d.A d.es.length d.c) rfl (SX.done hK)) ?_
                            refine SXI.of2 (fun _ hK => s_app 163 5 rfl rfl rfl rfl (ys := (⟨en.k, en.tr, zq.1, zq.2, en.l⟩ : EntG).row) (fun w hw => hasCong ((hw.has (i := 0) rfl).blk_sl (m := 1) rfl) rfl) rfl rfl (by omega) (by unfold maxLen; omega) (by omega) (fun _ _ _ h => by first | exact h.pick [10, 9] rfl | exact h.pick [9, 8] rfl) (fun x y hx => SX.done (hK x y hx))) (fun O2 oc2 hoc2 => ?_)
                            refine SXI.of (fun _ hK => s_nil 164 rfl rfl (SX.done hK)) ?_
                            refine SXI.of (fun _ hK => s_fa 165 rfl rfl (SX.done hK)) ?_
                            refine SXI.of (fun _ hK => s_stB 2 rfl rfl rfl rfl rfl (by show 2 < 3; decide) (fun _ h => by first | exact h.pick [8, 7] rfl | exact h.pick [9, 8] rfl | exact h.pick [10, 9] rfl) (SX.done hK)) ?_
                            refine SXI.end_ ?_
                            refine KNI.blk ?_
                            exact KNI.join (z, (⟨d.size, d.th, O2, oc2, d.es ++ [(⟨en.k, en.tr, zq.1, zq.2, en.l⟩ : EntG)]⟩ : DmG)) ⟨rfl, rfl, rfl, rfl, rfl, rfl, rfl, rfl, rfl, rfl, trivial⟩ (fun _ h => (dm_push (d := d) (en := (⟨en.k, en.tr, zq.1, zq.2, en.l⟩ : EntG)) (O := O2) (oc := oc2) (x := xp) h).pick [2, 0, 2, 2, 2] rfl) (hB.put hE (hz.1 hE) hd2 hin2 (by omega) (by omega))
                  · skip
                    have htr : en.tr = true := by simpa using hb
                    refine SXI.of (fun _ hK => SX.skip rfl (SX.done hK)) ?_
                    refine SXI.of (fun _ hK => SX.skip rfl (SX.done hK)) ?_
                    refine SXI.of (fun _ hK => SX.skip rfl (SX.done hK)) ?_
                    refine SXI.of (fun _ hK => SX.skip rfl (SX.done hK)) ?_
                    refine SXI.of (fun _ hK => SX.skip rfl (SX.done hK)) ?_
                    refine SXI.of (fun _ hK => s_pickF 189 rfl rfl rfl (SX.done hK)) ?_
                    refine SXI.of (fun _ hK => s_as 179 rfl rfl (SX.done hK)) ?_
                    refine SXI.next ?_
                    refine CWI.condF rfl ?_
                    refine CWI.seq ?_
                    refine CWI.seq ?_
                    refine CWI.reg [0, 1] rfl (by kernel_rfl) ?_
                    have hE : errC u sz en = 0 := by
                      rw [errC_is hB, if_pos hkin]
                      by_cases hx : en.tr = false ∧ en.l.length ≠ sz
                      · exfalso
                        first | (have h5 := of_decide_eq_false hc6; have h6 := hx.2; omega) | (rw [htr] at hx; exact (nomatch hx.1))
                      · rw [if_neg hx]
                    rw [hE]
                    refine SXI.of (fun _ hK => s_mv 147 rfl rfl (SX.done hK)) ?_
                    refine SXI.of (fun _ hK => s_neNN 148 rfl rfl (SX.done hK)) ?_
                    refine SXI.next ?_
                    refine CWI.condF rfl ?_
                    refine CWI.skip ?_
                    refine KNI.code ?_
                    have hdl : d.es.length ≤ 100 := hB.d.ok.wn
                    refine CWI.pre (fun _ h => St.dmO (h.pick [3, 0, 0, 0, 0, 0, 0] rfl)) ?_
                    refine CWI.regD (.st true 0 (.st true 1 (.st true 2 (.st true 3 (.st true 5 (.st true 6 (.st true 7 (.st true 8 (.st true 9 (.st true 10 (.alt 4 (.st false 11 (.st false 12 (.st false 13 (.st false 14 (.st true 15 (.st true 16 (.st false 17 .done))))))) (.st false 11 (.alt 4 (.st false 12 (.st false 13 (.st false 14 (.st true 15 (.st true 16 (.st false 17 .done)))))) (.st false 12 (.alt 4 (.st false 13 (.st false 14 (.st true 15 (.st true 16 (.st false 17 .done))))) (.st false 13 (.st false 4 (.st false 14 (.st true 15 (.st true 16 (.st false 17 .done))))))))))))))))))))) (Sto w [blk b17 29 #[.pointer (some ⟨xp, 0, none⟩)], blk b19 33 en.row.toArray]) mixed (by kernel_rfl) (fun _ h => h.drew) (fun _ h => by first | exact h.pick [8, 7] rfl | exact h.pick [9, 8] rfl | exact h.pick [10, 9] rfl) ?_
                    refine SXI.of (fun _ hK => s_ldS 149 rfl rfl (v := .pointer (some ⟨xp, 0, none⟩)) (fun _ h => h.blkCell (i := 0) (j := 0) rfl rfl) (SX.done hK)) ?_
                    refine SXI.of (fun _ hK => s_ldS 150 rfl rfl (v := .pointer (some ⟨xp, 0, none⟩)) (fun _ h => h.blkCell (i := 0) (j := 0) rfl rfl) (SX.done hK)) ?_
                    refine SXI.of (fun _ hK => s_nil 151 rfl rfl (SX.done hK)) ?_
                    refine SXI.of (fun _ hK => s_fa 152 rfl rfl (SX.done hK)) ?_
                    refine SXI.of (fun _ hK => s_fa 154 rfl rfl (SX.done hK)) ?_
                    refine SXI.of (fun _ hK => s_ldS 155 rfl rfl (v := .int .i64 en.k) (fun _ h => h.blkCell (i := 1) (j := 0) rfl rfl) (SX.done hK)) ?_
                    refine SXI.of (fun _ hK => s_fa 156 rfl rfl (SX.done hK)) ?_
                    refine SXI.of (fun _ hK => s_ldS 157 rfl rfl (v := .bool en.tr) (fun _ h => h.blkCell (i := 1) (j := 1) rfl rfl) (SX.done hK)) ?_
                    refine SXI.of (fun _ hK => s_fa 158 rfl rfl (SX.done hK)) ?_
                    refine SXI.of (fun _ hK => s_ldS 159 rfl rfl (v := .slice en.A en.l.length en.c) (fun _ h => h.blkCell (i := 1) (j := 2) rfl rfl) (SX.done hK)) ?_
                    refine SXI.alt ?_ ?_
                    · skip
                      refine SXI.of (fun _ hK => s_ldB 153 0 rfl rfl rfl (v := .slice d.A d.es.length d.c) rfl (SX.done hK)) ?_
                      refine SXI.of1 (fun _ hK => s_call 160 rfl rfl rfl rfl (fun w hw => rbytesM_spec en.A en.l.length en.c en.l w (hw.old hin1) (by omega)) (fun _ h => by first | exact h.pick [8, 7] rfl | exact h.pick [9, 8] rfl | exact h.pick [10, 9] rfl) (fun x hx => SX.done (hK x hx))) (fun zq hzq => ?_)
                      refine SXI.of (fun _ hK => s_build 161 rfl rfl (cells := #[.int .i64 en.k, .bool en.tr, .slice zq.1 en.l.length zq.2]) (by kernel_rfl) (SX.done hK)) ?_
                      refine SXI.of1 (pf := fun _ => True) (fun _ hK => s_bsl 162 rfl rfl (cells := #[.int .i64 en.k, .bool en.tr, .slice zq.1 en.l.length zq.2]) (by kernel_rfl) rfl (fun _ h => by first | exact h.pick [8, 7] rfl | exact h.pick [9, 8] rfl | exact h.pick [10, 9] rfl) (fun x => SX.done (hK x trivial))) (fun gT _ => ?_)
                      refine SXI.of2 (fun _ hK => s_app 163 5 rfl rfl rfl rfl (ys := (⟨en.k, en.tr, zq.1, zq.2, en.l⟩ : EntG).row) (fun w hw => hasCong ((hw.has (i := 0) rfl).blk_sl (m := 1) rfl) rfl) rfl rfl (by omega) (by unfold maxLen; omega) (by omega) (fun _ _ _ h => by first | exact h.pick [10, 9] rfl | exact h.pick [9, 8] rfl) (fun x y hx => SX.done (hK x y hx))) (fun O2 oc2 hoc2 => ?_)
                      refine SXI.of (fun _ hK => s_nil 164 rfl rfl (SX.done hK)) ?_
                      refine SXI.of (fun _ hK => s_fa 165 rfl rfl (SX.done hK)) ?_
                      refine SXI.of (fun _ hK => s_stB 2 rfl rfl rfl rfl rfl (by show 2 < 3; decide) (fun _ h => by first | exact h.pick [8, 7] rfl | exact h.pick [9, 8] rfl | exact h.pick [10, 9] rfl) (SX.done hK)) ?_
                      refine SXI.end_ ?_
                      refine KNI.blk ?_
                      exact KNI.join (z, (⟨d.size, d.th, O2, oc2, d.es ++ [(⟨en.k, en.tr, zq.1, zq.2, en.l⟩ : EntG)]⟩ : DmG)) ⟨rfl, rfl, rfl, rfl, rfl, rfl, rfl, rfl, rfl, rfl, trivial⟩ (fun _ h => (dm_push (d := d) (en := (⟨en.k, en.tr, zq.1, zq.2, en.l⟩ : EntG)) (O := O2) (oc := oc2) (x := xp) h).pick [2, 0, 2, 2, 2] rfl) (hB.put hE (hz.1 hE) hd2 hin2 (by omega) (by omega))
                    · skip
                      refine SXI.of1 (fun _ hK => s_call 160 rfl rfl rfl rfl (fun w hw => rbytesM_spec en.A en.l.length en.c en.l w (hw.old hin1) (by omega)) (fun _ h => by first | exact h.pick [8, 7] rfl | exact h.pick [9, 8] rfl | exact h.pick [10, 9] rfl) (fun x hx => SX.done (hK x hx))) (fun zq hzq => ?_)
                      refine SXI.alt ?_ ?_
                      · skip
                        refine SXI.of (fun _ hK => s_ldB 153 1 rfl rfl rfl (v := .slice d.A d.es.length d.c) rfl (SX.done hK)) ?_
                        refine SXI.of (fun _ hK => s_build 161 rfl rfl (cells := #[.int .i64 en.k, .bool en.tr, .slice zq.1 en.l.length zq.2]) (by kernel_rfl) (SX.done hK)) ?_
                        refine SXI.of1 (pf := fun _ => True) (fun _ hK => s_bsl 162 rfl rfl (cells := #[.int .i64 en.k, .bool en.tr, .slice zq.1 en.l.length zq.2]) (by kernel_rfl) rfl (fun _ h => by first | exact h.pick [8, 7] rfl | exact h.pick [9, 8] rfl | exact h.pick [10, 9] rfl) (fun x => SX.done (hK x trivial))) (fun gT _ => ?_)
                        refine SXI.of2 (fun _ hK => s_app 163 5 rfl rfl rfl rfl (ys := (⟨en.k, en.tr, zq.1, zq.2, en.l⟩ : EntG).row) (fun w hw => hasCong ((hw.has (i := 0) rfl).blk_sl (m := 1) rfl) rfl) rfl rfl (by omega) (by unfold maxLen; omega) (by omega) (fun _ _ _ h => by first | exact h.pick [10, 9] rfl | exact h.pick [9, 8] rfl) (fun x y hx => SX.done (hK x y hx))) (fun O2 oc2 hoc2 => ?_)
                        refine SXI.of (fun _ hK => s_nil 164 rfl rfl (SX.done hK)) ?_
                        refine SXI.of (fun _ hK => s_fa 165 rfl rfl (SX.done hK)) ?_
                        refine SXI.of (fun _ hK => s_stB 2 rfl rfl rfl rfl rfl (by show 2 < 3; decide) (fun _ h => by first | exact h.pick [8, 7] rfl | exact h.pick [9, 8] rfl | exact h.pick [10, 9] rfl) (SX.done hK)) ?_
                        refine SXI.end_ ?_
                        refine KNI.blk ?_
                        exact KNI.join (z, (⟨d.size, d.th, O2, oc2, d.es ++ [(⟨en.k, en.tr, zq.1, zq.2, en.l⟩ : EntG)]⟩ : DmG)) ⟨rfl, rfl, rfl, rfl, rfl, rfl, rfl, rfl, rfl, rfl, trivial⟩ (fun _ h => (dm_push (d := d) (en := (⟨en.k, en.tr, zq.1, zq.2, en.l⟩ : EntG)) (O := O2) (oc := oc2) (x := xp) h).pick [2, 0, 2, 2, 2] rfl) (hB.put hE (hz.1 hE) hd2 hin2 (by omega) (by omega))
                      · skip
                        refine SXI.of (fun _ hK => s_build 161 rfl rfl (cells := #[.int .i64 en.k, .bool en.tr, .slice zq.1 en.l.length zq.2]) (by kernel_rfl) (SX.done hK)) ?_
                        refine SXI.alt ?_ ?_
                        · skip
                          refine SXI.of (fun _ hK => s_ldB 153 1 rfl rfl rfl (v := .slice d.A d.es.length d.c) rfl (SX.done hK)) ?_
                          refine SXI.of1 (pf := fun _ => True) (fun _ hK => s_bsl 162 rfl rfl (cells := #[.int .i64 en.k, .bool en.tr, .slice zq.1 en.l.length zq.2]) (by kernel_rfl) rfl (fun _ h => by first | exact h.pick [8, 7] rfl | exact h.pick [9, 8] rfl | exact h.pick [10, 9] rfl) (fun x => SX.done (hK x trivial))) (fun gT _ => ?_)
                          refine SXI.of2 (fun _ hK => s_app 163 5 rfl rfl rfl rfl (ys := (⟨en.k, en.tr, zq.1, zq.2, en.l⟩ : EntG).row) (fun w hw => hasCong ((hw.has (i := 0) rfl).blk_sl (m := 1) rfl) rfl) rfl rfl (by omega) (by unfold maxLen; omega) (by omega) (fun _ _ _ h => by first | exact h.pick [10, 9] rfl | exact h.pick [9, 8] rfl) (fun x y hx => SX.done (hK x y hx))) (fun O2 oc2 hoc2 => ?_)
                          refine SXI.of (fun _ hK => s_nil 164 rfl rfl (SX.done hK)) ?_
                          refine SXI.of (fun _ hK => s_fa 165 rfl rfl (SX.done hK)) ?_
                          refine SXI.of (fun _ hK => s_stB 2 rfl rfl rfl rfl rfl (by show 2 < 3; decide) (fun _ h => by first | exact h.pick [8, 7] rfl | exact h.pick [9, 8] rfl | exact h.pick [10, 9] rfl) (SX.done hK)) ?_
                          refine SXI.end_ ?_
                          refine KNI.blk ?_
                          exact KNI.join (z, (⟨d.size, d.th, O2, oc2, d.es ++ [(⟨en.k, en.tr, zq.1, zq.2, en.l⟩ : EntG)]⟩ : DmG)) ⟨rfl, rfl, rfl, rfl, rfl, rfl, rfl, rfl, rfl, rfl, trivial⟩ (fun _ h => (dm_push (d := d) (en := (⟨en.k, en.tr, zq.1, zq.2, en.l⟩ : EntG)) (O := O2) (oc := oc2) (x := xp) h).pick [2, 0, 2, 2, 2] rfl) (hB.put hE (hz.1 hE) hd2 hin2 (by omega) (by omega))
                        · skip
                          refine SXI.of1 (pf := fun _ => True) (fun _ hK => s_bsl 162 rfl rfl (cells := #[.int .i64 en.k, .bool en.tr, .slice zq.1 en.l.length zq.2]) (by kernel_rfl) rfl (fun _ h => by first | exact h.pick [8, 7] rfl | exact h.pick [9, 8] rfl | exact h.pick [10, 9] rfl) (fun x => SX.done (hK x trivial))) (fun gT _ => ?_)
                          refine SXI.of (fun _ hK => s_ldB 153 2 rfl rfl rfl (v := .slice d.A d.es.length d.c) rfl (SX.done hK)) ?_
                          refine SXI.of2 (fun _ hK => s_app 163 5 rfl rfl rfl rfl (ys := (⟨en.k, en.tr, zq.1, zq.2, en.l⟩ : EntG).row) (fun w hw => hasCong ((hw.has (i := 0) rfl).blk_sl (m := 1) rfl) rfl) rfl rfl (by omega) (by unfold maxLen; omega) (by omega) (fun _ _ _ h => by first | exact h.pick [10, 9] rfl | exact h.pick [9, 8] rfl) (fun x y hx => SX.done (hK x y hx))) (fun O2 oc2 hoc2 => ?_)
                          refine SXI.of (fun _ hK => s_nil 164 rfl rfl (SX.done hK)) ?_
                          refine SXI.of (fun _ hK => s_fa 165 rfl rfl (SX.done hK)) ?_
                          refine SXI.of (fun _ hK => s_stB 2 rfl rfl rfl rfl rfl (by show 2 < 3; decide) (fun _ h => by first | exact h.pick [8, 7] rfl | exact h.pick [9, 8] rfl | exact h.pick [10, 9] rfl) (SX.done hK)) ?_
                          refine SXI.end_ ?_
                          refine KNI.blk ?_
                          exact KNI.join (z, (⟨d.size, d.th, O2, oc2, d.es ++ [(⟨en.k, en.tr, zq.1, zq.2, en.l⟩ : EntG)]⟩ : DmG)) ⟨rfl, rfl, rfl, rfl, rfl, rfl, rfl, rfl, rfl, rfl, trivial⟩ (fun _ h => (dm_push (d := d) (en := (⟨en.k, en.tr, zq.1, zq.2, en.l⟩ : EntG)) (O := O2) (oc := oc2) (x := xp) h).pick [2, 0, 2, 2, 2] rfl) (hB.put hE (hz.1 hE) hd2 hin2 (by omega) (by omega))
            · skip
              rintro ⟨u2, d2⟩ hB2
              simp only at hB2
              dsimp only
              clear hB
              refine CWI.seq ?_
              refine CWI.regD (.st true 0 (.st true 1 (.st true 2 (.st true 3 (.st true 4 (.st true 5 (.st false 6 (.st true 7 .done)))))))) (Sto w [dmA xp d2, blk b17 29 #[.pointer (some ⟨xp, 0, none⟩)]]) mixed (by kernel_rfl) (fun _ h => h.drew) (fun _ h => by first | exact h.pick [1, 1] rfl | exact h.pick [3, 3] rfl | exact h.pick [5, 5] rfl) ?_
              refine SXI.of (fun _ hK => s_ldS 193 rfl rfl (v := .pointer (some ⟨xp, 0, none⟩)) (fun _ h => h.blkCell (i := 1) (j := 0) rfl rfl) (SX.done hK)) ?_
              refine SXI.of (fun _ hK => s_ldS 194 rfl rfl (v := .pointer (some ⟨xp, 0, none⟩)) (fun _ h => h.blkCell (i := 1) (j := 0) rfl rfl) (SX.done hK)) ?_
              refine SXI.of (fun _ hK => s_nil 195 rfl rfl (SX.done hK)) ?_
              refine SXI.of (fun _ hK => s_fa 196 rfl rfl (SX.done hK)) ?_
              refine SXI.of (fun _ hK => s_ldS 197 rfl rfl (v := .slice d2.A d2.es.length d2.c) (fun _ h => dm_cell (h.has (i := 0) rfl) (j := 2) rfl) (SX.done hK)) ?_
              refine SXI.of (fun _ hK => s_len 198 rfl rfl (SX.done hK)) ?_
              refine SXI.of1 (fun _ hK => s_call 199 rfl rfl rfl rfl (fun w hw => dfront_spec xp d2 d2.es.length w hB2.d.ok (Nat.le_refl _) (dmP_of (hw.has (i := 1) rfl))) (fun _ h => by first | exact h.pick [1, 1] rfl | exact h.pick [3, 3] rfl | exact h.pick [5, 5] rfl) (fun x hx => SX.done (hK x hx))) (fun f hf => ?_)
              refine SXI.of (fun _ hK => s_as 23 rfl rfl (SX.done hK)) ?_
              refine SXI.next ?_
              refine CWI.seq ?_
              refine CWI.reg [0, 1, 2, 3, 4, 5, 6, 7] rfl (by kernel_rfl) ?_
              refine SXI.of (fun _ hK => s_mv 201 rfl rfl (SX.done hK)) ?_
              refine SXI.of (fun _ hK => s_mv 202 rfl rfl (SX.done hK)) ?_
              refine SXI.of1 (fun _ hK => s_call 203 rfl rfl rfl rfl (fun w hw => readM_spec m u2 a4 w hB2.m.ok (mdP_of (hw.has (i := 2) rfl))) (fun _ _ => trivial) (fun x hx => SX.done (hK x hx))) (fun b hb => ?_)
              refine SXI.of (fun _ hK => s_mv 200 rfl rfl (SX.done hK)) ?_
              refine SXI.of (fun _ hK => s_ext 204 rfl rfl rfl (SX.done hK)) ?_
              refine SXI.of (fun _ hK => s_ext 205 rfl rfl rfl (SX.done hK)) ?_
              refine SXI.of (fun _ hK => s_as 24 rfl rfl (SX.done hK)) ?_
              refine SXI.of (fun _ hK => s_as 25 rfl rfl (SX.done hK)) ?_
              refine SXI.next ?_
              refine CWI.seq ?_
              rcases Bool.eq_false_or_eq_true (u2.has a4) with hh | hh
              · skip
                have hf1 : f.abs = frontL u2.th.abs u2.wa.abs := by
                  have h5 := hf.1
                  rw [← DmG.wlen, List.take_length, hB2.d.t, hB2.d.a] at h5
                  exact h5
                have hfl : f.l.length = ns := by rw [← LsG.abs_len, hf1, frontL_len, LsG.abs_len, hB2.n]
                obtain ⟨h0, h9⟩ : 0 ≤ a4 ∧ a4 < (ns : Int) := by
                  have h5 := of_decide_eq_true hh
                  rw [hB2.n] at h5
                  exact h5
                obtain ⟨fb, hfb1⟩ : ∃ fb, f.l[a4.toNat]? = some fb := ⟨_, List.getElem?_eq_getElem (by omega)⟩
                have hfb2 := LsG.at_ hfb1
                rw [hf1, hb.2.1 hh] at hfb2
                have hfb3 : b.l = fb.l := Option.some.inj hfb2
                have hbok : ∀ v ∈ fb.l, v < 256 := ((LsG.all_ (p := fun l => l.length = sz ∧ ∀ v ∈ l, v < 256) hf1 hB2.m.allF) fb (List.mem_of_getElem? hfb1)).2
                rw [hh]
                refine CWI.regD (.st true 0 (.st true 1 (.st true 2 (.st true 3 (.st true 4 (.st true 5 (.st true 6 (.st true 7 (.st true 8 (.st true 9 (.st true 10 (.st true 11 (.st true 12 (.st true 13 (.st true 14 (.st true 15 (.st true 16 (.st false 17 (.st true 18 (.st true 19 (.st true 20 (.st true 21 (.st true 22 (.st true 23 (.st true 24 (.st true 25 (.st true 26 (.st true 27 (.st true 28 (.st true 29 (.st true 30 (.st true 31 (.st true 33 (.st true 34 (.st true 35 (.st true 36 (.st true 37 (.st false 32 (.st true 38 (.st true 39 .done)))))))))))))))))))))))))))))))))))))))) (Sto w [b.dat, f.out, f.star, modelA m u2, dmA xp d2, blk b17 29 #[.pointer (some ⟨xp, 0, none⟩)]]) mixed (by kernel_rfl) (fun _ h => h.drew) (fun _ h => h.pick [0, 0, 0, 0, 0, 0] rfl) ?_
                refine SXI.of (fun _ hK => s_mv 206 rfl rfl (SX.done hK)) ?_
                refine SXI.of (fun _ hK => s_mv 207 rfl rfl (SX.done hK)) ?_
                refine SXI.of (fun _ hK => s_ge 208 rfl rfl rfl (decide_eq_true (by omega)) (SX.done hK)) ?_
                refine SXI.of (fun _ hK => s_mv 209 rfl rfl (SX.done hK)) ?_
                refine SXI.of (fun _ hK => s_mv 210 rfl rfl (SX.done hK)) ?_
                refine SXI.of (fun _ hK => s_mv 211 rfl rfl (SX.done hK)) ?_
                refine SXI.of (fun _ hK => s_lt 212 rfl rfl rfl (decide_eq_true (by omega)) (SX.done hK)) ?_
                refine SXI.of (fun _ hK => s_pickT 213 rfl rfl rfl (SX.done hK)) ?_
                refine SXI.of (fun _ hK => s_neB 214 rfl rfl rfl (r := false) rfl (SX.done hK)) ?_
                refine SXI.of (fun _ hK => s_mv 215 rfl rfl (SX.done hK)) ?_
                refine SXI.of (fun _ hK => s_mv 216 rfl rfl (SX.done hK)) ?_
                refine SXI.of (fun _ hK => s_mv 217 rfl rfl (SX.done hK)) ?_
                refine SXI.of (fun _ hK => s_mv 218 rfl rfl (SX.done hK)) ?_
                refine SXI.of (fun _ hK => s_mv 219 rfl rfl (SX.done hK)) ?_
                refine SXI.of (fun _ hK => s_mv 220 rfl rfl (SX.done hK)) ?_
                refine SXI.of (fun _ hK => s_iaV 221 a4.toNat (fun w hw => (hw.has (A := f.out) (i := 1) rfl).of_own) rfl rfl rfl (by omega) (by omega) (SX.done hK)) ?_
                refine SXI.of (fun _ hK => s_ldS 222 rfl rfl (v := .slice fb.A fb.l.length fb.c) (fun _ hw => (hw.has (A := f.out) (i := 1) rfl).of_own.rowAt byRow_len hfb1 (by omega) 0 _ rfl) (SX.done hK)) ?_
                refine SXI.of (fun _ hK => s_call1 223 rfl rfl rfl rfl (v := .bool true) (fun w hw => sameBy_yes b fb w (hw.has (A := b.dat) (i := 0) rfl).of_own (ls_dat (hw.has (A := f.star) (i := 2) rfl) (List.mem_of_getElem? hfb1)) hbok hfb3) (fun _ h => h.pick [0, 0, 0, 0, 0, 0] rfl) (SX.done hK)) ?_
                refine SXI.of (fun _ hK => s_not 224 rfl rfl (SX.done hK)) ?_
                refine SXI.of (fun _ hK => s_pickT 225 rfl rfl rfl (SX.done hK)) ?_
                refine SXI.of (fun _ hK => s_pickF 226 rfl rfl rfl (SX.done hK)) ?_
                refine SXI.of (fun _ hK => s_mv 227 rfl rfl (SX.done hK)) ?_
                refine SXI.of (fun _ hK => s_mv 228 rfl rfl (SX.done hK)) ?_
                refine SXI.of (fun _ hK => s_not 229 rfl rfl (SX.done hK)) ?_
                refine SXI.of (fun _ hK => s_mv 230 rfl rfl (SX.done hK)) ?_
                refine SXI.of (fun _ hK => SX.skip rfl (SX.done hK)) ?_
                refine SXI.of (fun _ hK => SX.skip rfl (SX.done hK)) ?_
                refine SXI.of (fun _ hK => SX.skip rfl (SX.done hK)) ?_
                refine SXI.of (fun _ hK => s_pickF 234 rfl rfl rfl (SX.done hK)) ?_
                refine SXI.of (fun _ hK => s_pickF 235 rfl rfl rfl (SX.done hK)) ?_
                refine SXI.of (fun _ hK => s_mv 236 rfl rfl (SX.done hK)) ?_
                refine SXI.of (fun _ hK => s_mv 237 rfl rfl (SX.done hK)) ?_
                refine SXI.of (fun _ hK => s_ldS 239 rfl rfl (v := .pointer (some ⟨xp, 0, none⟩)) (fun _ h => h.blkCell (i := 5) (j := 0) rfl rfl) (SX.done hK)) ?_
                refine SXI.of (fun _ hK => s_nil 240 rfl rfl (SX.done hK)) ?_
                refine SXI.of (fun _ hK => s_fa 241 rfl rfl (SX.done hK)) ?_
                refine SXI.of (fun _ hK => s_ldS 242 rfl rfl (v := .slice d2.A d2.es.length d2.c) (fun _ h => dm_cell (h.has (i := 4) rfl) (j := 2) rfl) (SX.done hK)) ?_
                refine SXI.of (fun _ hK => s_len 243 rfl rfl (SX.done hK)) ?_
                refine SXI.of (fun _ hK => s_call1 238 rfl rfl rfl rfl (fun w hw => waitingM_spec m u2 w (mdH_of (hw.has (i := 3) rfl))) (fun _ h => h.pick [0, 0, 0, 0, 0, 0] rfl) (SX.done hK)) ?_
                refine SXI.of (fun _ hK => s_ne 244 rfl rfl rfl (decide_eq_false (by have h5 := hB2.m.wl; have h6 := hB2.d.wl; omega)) (SX.done hK)) ?_
                refine SXI.of (fun _ hK => s_pickF 245 rfl rfl rfl (SX.done hK)) ?_
                refine SXI.next ?_
                refine CWI.condF rfl ?_
                refine CWI.skip ?_
                refine KNI.blk ?_
                refine KNI.code ?_
                refine CWI.reg [0, 1, 2] rfl (by kernel_rfl) ?_
                refine SXI.of (fun _ hK => s_mv 93 rfl rfl (SX.done hK)) ?_
                refine SXI.of (fun _ hK => s_add 94 rfl rfl rfl (r := ((i + 1 : Nat) : Int)) (w64 (by omega)) (SX.done hK)) ?_
                refine SXI.of (fun _ hK => s_as 18 rfl rfl (SX.done hK)) ?_
                refine SXI.end_ ?_
                exact KNI.back (i + 1, u2, d2) rfl ⟨rfl, rfl, rfl, rfl, rfl, rfl, rfl, rfl, rfl, rfl, trivial⟩ (fun _ h => h.pick [3, 3, 3, 3, 3] rfl) ⟨by simp only; omega, hB2⟩ (by simp only; omega)
              · skip
                have hno : ¬ (0 ≤ a4 ∧ a4 < (ns : Int)) := by
                  have h5 := of_decide_eq_false hh
                  rw [hB2.n] at h5
                  exact h5
                have hbn := hb.2.2 hh
                rw [hh]
                refine CWI.regD (.st true 0 (.st true 1 (.st true 2 (.st true 3 (.st true 4 (.st true 5 (.st true 6 (.st true 7 (.st true 8 (.st true 9 (.st true 10 (.st true 11 (.st true 12 (.st true 13 (.st true 14 (.st true 15 (.st true 16 (.st false 17 (.st true 18 (.st true 19 (.st true 20 (.st true 21 (.st true 22 (.st true 23 (.st true 24 (.st true 25 (.st true 26 (.st true 27 (.st true 28 (.st true 29 (.st true 30 (.st true 31 (.st true 33 (.st true 34 (.st true 35 (.st true 36 (.st true 37 (.st false 32 (.st true 38 (.st true 39 .done)))))))))))))))))))))))))))))))))))))))) (Sto w [b.dat, f.out, f.star, modelA m u2, dmA xp d2, blk b17 29 #[.pointer (some ⟨xp, 0, none⟩)]]) mixed (by kernel_rfl) (fun _ h => h.drew) (fun _ h => h.pick [0, 0, 0, 0, 0, 0] rfl) ?_
                refine SXI.of (fun _ hK => s_mv 206 rfl rfl (SX.done hK)) ?_
                refine SXI.of (fun _ hK => s_mv 207 rfl rfl (SX.done hK)) ?_
                refine SXI.of (fun _ hK => s_ge 208 rfl rfl rfl rfl (SX.done hK)) ?_
                refine SXI.of (fun _ hK => s_mv 209 rfl rfl (SX.done hK)) ?_
                refine SXI.bool 209 rfl (fun hb => ?_) (fun hb => ?_)
                · skip
                  have h5 := of_decide_eq_true hb
                  refine SXI.of (fun _ hK => s_mv 210 rfl rfl (SX.done hK)) ?_
                  refine SXI.of (fun _ hK => s_mv 211 rfl rfl (SX.done hK)) ?_
                  refine SXI.of (fun _ hK => s_lt 212 rfl rfl rfl (decide_eq_false (by omega)) (SX.done hK)) ?_
                  refine SXI.of (fun _ hK => s_pickT 213 rfl rfl rfl (SX.done hK)) ?_
                  refine SXI.of (fun _ hK => s_neB 214 rfl rfl rfl (r := false) rfl (SX.done hK)) ?_
                  refine SXI.of (fun _ hK => s_mv 215 rfl rfl (SX.done hK)) ?_
                  refine SXI.of (fun _ hK => s_mv 216 rfl rfl (SX.done hK)) ?_
                  refine SXI.of (fun _ hK => s_mv 217 rfl rfl (SX.done hK)) ?_
                  refine SXI.of (fun _ hK => SX.skip rfl (SX.done hK)) ?_
                  refine SXI.of (fun _ hK => SX.skip rfl (SX.done hK)) ?_
                  refine SXI.of (fun _ hK => SX.skip rfl (SX.done hK)) ?_
                  refine SXI.of (fun _ hK => SX.skip rfl (SX.done hK)) ?_
                  refine SXI.of (fun _ hK => SX.skip rfl (SX.done hK)) ?_
                  refine SXI.of (fun _ hK => SX.skip rfl (SX.done hK)) ?_
                  refine SXI.of (fun _ hK => SX.skip rfl (SX.done hK)) ?_
                  refine SXI.of (fun _ hK => s_pickF 225 rfl rfl rfl (SX.done hK)) ?_
                  refine SXI.of (fun _ hK => s_pickF 226 rfl rfl rfl (SX.done hK)) ?_
                  refine SXI.of (fun _ hK => s_mv 227 rfl rfl (SX.done hK)) ?_
                  refine SXI.of (fun _ hK => s_mv 228 rfl rfl (SX.done hK)) ?_
                  refine SXI.of (fun _ hK => s_not 229 rfl rfl (SX.done hK)) ?_
                  refine SXI.of (fun _ hK => s_mv 230 rfl rfl (SX.done hK)) ?_
                  refine SXI.of (fun _ hK => s_mv 231 rfl rfl (SX.done hK)) ?_
                  refine SXI.of (fun _ hK => s_len 232 rfl rfl (SX.done hK)) ?_
                  refine SXI.of (fun _ hK => s_ne 233 rfl rfl rfl (decide_eq_false (by rw [hbn]; exact fun h => h rfl)) (SX.done hK)) ?_
                  refine SXI.of (fun _ hK => s_pickT 234 rfl rfl rfl (SX.done hK)) ?_
                  refine SXI.of (fun _ hK => s_pickF 235 rfl rfl rfl (SX.done hK)) ?_
                  refine SXI.of (fun _ hK => s_mv 236 rfl rfl (SX.done hK)) ?_
                  refine SXI.of (fun _ hK => s_mv 237 rfl rfl (SX.done hK)) ?_
                  refine SXI.of (fun _ hK => s_ldS 239 rfl rfl (v := .pointer (some ⟨xp, 0, none⟩)) (fun _ h => h.blkCell (i := 5) (j := 0) rfl rfl) (SX.done hK)) ?_
                  refine SXI.of (fun _ hK => s_nil 240 rfl rfl (SX.done hK)) ?_
                  refine SXI.of (fun _ hK => s_fa 241 rfl rfl (SX.done hK)) ?_
                  refine SXI.of (fun _ hK => s_ldS 242 rfl rfl (v := .slice d2.A d2.es.length d2.c) (fun _ h => dm_cell (h.has (i := 4) rfl) (j := 2) rfl) (SX.done hK)) ?_
                  refine SXI.of (fun _ hK => s_len 243 rfl rfl (SX.done hK)) ?_
                  refine SXI.of (fun _ hK => s_call1 238 rfl rfl rfl rfl (fun w hw => waitingM_spec m u2 w (mdH_of (hw.has (i := 3) rfl))) (fun _ h => h.pick [0, 0, 0, 0, 0, 0] rfl) (SX.done hK)) ?_
                  refine SXI.of (fun _ hK => s_ne 244 rfl rfl rfl (decide_eq_false (by have h5 := hB2.m.wl; have h6 := hB2.d.wl; omega)) (SX.done hK)) ?_
                  refine SXI.of (fun _ hK => s_pickF 245 rfl rfl rfl (SX.done hK)) ?_
                  refine SXI.next ?_
                  refine CWI.condF rfl ?_
                  refine CWI.skip ?_
                  refine KNI.blk ?_
                  refine KNI.code ?_
                  refine CWI.reg [0, 1, 2] rfl (by kernel_rfl) ?_
                  refine SXI.of (fun _ hK => s_mv 93 rfl rfl (SX.done hK)) ?_
                  refine SXI.of (fun _ hK => s_add 94 rfl rfl rfl (r := ((i + 1 : Nat) : Int)) (w64 (by omega)) (SX.done hK)) ?_
                  refine SXI.of (fun _ hK => s_as 18 rfl rfl (SX.done hK)) ?_
                  refine SXI.end_ ?_
                  exact KNI.back (i + 1, u2, d2) rfl ⟨rfl, rfl, rfl, rfl, rfl, rfl, rfl, rfl, rfl, rfl, trivial⟩ (fun _ h => h.pick [3, 3, 3, 3, 3] rfl) ⟨by simp only; omega, hB2⟩ (by simp only; omega)
                · skip
                  skip
                  refine SXI.of (fun _ hK => SX.skip rfl (SX.done hK)) ?_
                  refine SXI.of (fun _ hK => SX.skip rfl (SX.done hK)) ?_
                  refine SXI.of (fun _ hK => SX.skip rfl (SX.done hK)) ?_
                  refine SXI.of (fun _ hK => s_pickF 213 rfl rfl rfl (SX.done hK)) ?_
                  refine SXI.of (fun _ hK => s_neB 214 rfl rfl rfl (r := false) rfl (SX.done hK)) ?_
                  refine SXI.of (fun _ hK => s_mv 215 rfl rfl (SX.done hK)) ?_
                  refine SXI.of (fun _ hK => s_mv 216 rfl rfl (SX.done hK)) ?_
                  refine SXI.of (fun _ hK => s_mv 217 rfl rfl (SX.done hK)) ?_
                  refine SXI.of (fun _ hK => SX.skip rfl (SX.done hK)) ?_
                  refine SXI.of (fun _ hK => SX.skip rfl (SX.done hK)) ?_
                  refine SXI.of (fun _ hK => SX.skip rfl (SX.done hK)) ?_
                  refine SXI.of (fun _ hK => SX.skip rfl (SX.done hK)) ?_
                  refine SXI.of (fun _ hK => SX.skip rfl (SX.done hK)) ?_
                  refine SXI.of (fun _ hK => SX.skip rfl (SX.done hK)) ?_
                  refine SXI.of (fun _ hK => SX.skip rfl (SX.done hK)) ?_
                  refine SXI.of (fun _ hK => s_pickF 225 rfl rfl rfl (SX.done hK)) ?_
                  refine SXI.of (fun _ hK => s_pickF 226 rfl rfl rfl (SX.done hK)) ?_
                  refine SXI.of (fun _ hK => s_mv 227 rfl rfl (SX.done hK)) ?_
                  refine SXI.of (fun _ hK => s_mv 228 rfl rfl (SX.done hK)) ?_
                  refine SXI.of (fun _ hK => s_not 229 rfl rfl (SX.done hK)) ?_
                  refine SXI.of (fun _ hK => s_mv 230 rfl rfl (SX.done hK)) ?_
                  refine SXI.of (fun _ hK => s_mv 231 rfl rfl (SX.done hK)) ?_
                  refine SXI.of (fun _ hK => s_len 232 rfl rfl (SX.done hK)) ?_
                  refine SXI.of (fun _ hK => s_ne 233 rfl rfl rfl (decide_eq_false (by rw [hbn]; exact fun h => h rfl)) (SX.done hK)) ?_
                  refine SXI.of (fun _ hK => s_pickT 234 rfl rfl rfl (SX.done hK)) ?_
                  refine SXI.of (fun _ hK => s_pickF 235 rfl rfl rfl (SX.done hK)) ?_
                  refine SXI.of (fun _ hK => s_mv 236 rfl rfl (SX.done hK)) ?_
                  refine SXI.of (fun _ hK => s_mv 237 rfl rfl (SX.done hK)) ?_
                  refine SXI.of (fun _ hK => s_ldS 239 rfl rfl (v := .pointer (some ⟨xp, 0, none⟩)) (fun _ h => h.blkCell (i := 5) (j := 0) rfl rfl) (SX.done hK)) ?_
                  refine SXI.of (fun _ hK => s_nil 240 rfl rfl (SX.done hK)) ?_
                  refine SXI.of (fun _ hK => s_fa 241 rfl rfl (SX.done hK)) ?_
                  refine SXI.of (fun _ hK => s_ldS 242 rfl rfl (v := .slice d2.A d2.es.length d2.c) (fun _ h => dm_cell (h.has (i := 4) rfl) (j := 2) rfl) (SX.done hK)) ?_
                  refine SXI.of (fun _ hK => s_len 243 rfl rfl (SX.done hK)) ?_
                  refine SXI.of (fun _ hK => s_call1 238 rfl rfl rfl rfl (fun w hw => waitingM_spec m u2 w (mdH_of (hw.has (i := 3) rfl))) (fun _ h => h.pick [0, 0, 0, 0, 0, 0] rfl) (SX.done hK)) ?_
                  refine SXI.of (fun _ hK => s_ne 244 rfl rfl rfl (decide_eq_false (by have h5 := hB2.m.wl; have h6 := hB2.d.wl; omega)) (SX.done hK)) ?_
                  refine SXI.of (fun _ hK => s_pickF 245 rfl rfl rfl (SX.done hK)) ?_
                  refine SXI.next ?_
                  refine CWI.condF rfl ?_
                  refine CWI.skip ?_
                  refine KNI.blk ?_
                  refine KNI.code ?_
                  refine CWI.reg [0, 1, 2] rfl (by kernel_rfl) ?_
                  refine SXI.of (fun _ hK => s_mv 93 rfl rfl (SX.done hK)) ?_
                  refine SXI.of (fun _ hK => s_add 94 rfl rfl rfl (r := ((i + 1 : Nat) : Int)) (w64 (by omega)) (SX.done hK)) ?_
                  refine SXI.of (fun _ hK => s_as 18 rfl rfl (SX.done hK)) ?_
                  refine SXI.end_ ?_
                  exact KNI.back (i + 1, u2, d2) rfl ⟨rfl, rfl, rfl, rfl, rfl, rfl, rfl, rfl, rfl, rfl, trivial⟩ (fun _ h => h.pick [3, 3, 3, 3, 3] rfl) ⟨by simp only; omega, hB2⟩ (by simp only; omega)
  · skip
    obtain rfl : i = ds.length := by omega
    have hwl : u.wa.l.length = d.es.length := by rw [hB.m.wl, hB.d.wl]
    have hw60 := hB.w
    have hDa : d.waits = u.wa.abs := hB.d.a
    have hDt : d.th.abs = u.th.abs := hB.d.t
    refine CWI.exit rfl ?_
    refine KNI.code ?_
    refine CWI.seq ?_
    refine CWI.seq ?_
    refine CWI.regD (.st true 0 (.st true 2 (.st true 3 (.st true 4 (.st true 5 (.st true 6 (.st true 7 (.st false 1 (.st false 8 (.st false 9 (.st true 10 .done))))))))))) (Sto w [dmA xp d, blk b17 29 #[.pointer (some ⟨xp, 0, none⟩)]]) mixed (by kernel_rfl) (fun _ h => h.drew) (fun _ h => by first | exact h.pick [1, 1] rfl | exact h.pick [3, 3] rfl | exact h.pick [5, 5] rfl) ?_
    refine SXI.of (fun _ hK => s_mv 246 rfl rfl (SX.done hK)) ?_
    refine SXI.of (fun _ hK => s_ldS 248 rfl rfl (v := .pointer (some ⟨xp, 0, none⟩)) (fun _ h => h.blkCell (i := 1) (j := 0) rfl rfl) (SX.done hK)) ?_
    refine SXI.of (fun _ hK => s_ldS 249 rfl rfl (v := .pointer (some ⟨xp, 0, none⟩)) (fun _ h => h.blkCell (i := 1) (j := 0) rfl rfl) (SX.done hK)) ?_
    refine SXI.of (fun _ hK => s_nil 250 rfl rfl (SX.done hK)) ?_
    refine SXI.of (fun _ hK => s_fa 251 rfl rfl (SX.done hK)) ?_
    refine SXI.of (fun _ hK => s_ldS 252 rfl rfl (v := .slice d.A d.es.length d.c) (fun _ h => dm_cell (h.has (i := 0) rfl) (j := 2) rfl) (SX.done hK)) ?_
    refine SXI.of (fun _ hK => s_len 253 rfl rfl (SX.done hK)) ?_
    refine SXI.of1 (fun _ hK => s_call 247 rfl rfl rfl rfl (fun w hw => sectorsM_spec m u w hB.m.ok (mdP_of (hw.has (A := modelA m u) (i := 0) rfl))) (fun _ h => by first | exact h.pick [1, 1] rfl | exact h.pick [3, 3] rfl | exact h.pick [5, 5] rfl) (fun x hx => SX.done (hK x hx))) (fun q hq => ?_)
    refine SXI.of1 (fun _ hK => s_call 254 rfl rfl rfl rfl (fun w hw => dfront_spec xp d d.es.length w hB.d.ok (Nat.le_refl _) (dmP_of (hw.has (i := 3) rfl))) (fun _ h => by first | exact h.pick [1, 1] rfl | exact h.pick [3, 3] rfl | exact h.pick [5, 5] rfl) (fun x hx => SX.done (hK x hx))) (fun f hf => ?_)
    have hf1 : f.abs = frontL u.th.abs u.wa.abs := by
      have h5 := hf.1
      rw [← DmG.wlen, List.take_length, hDt, hDa] at h5
      exact h5
    obtain ⟨hq1, _⟩ := hq
    have hqn : q.l.length ≤ 1000 := by have h5 := hB.n; rw [← LsG.abs_len, hq1, frontL_len, LsG.abs_len]; omega
    refine SXI.of (fun _ hK => s_call1 255 rfl rfl rfl rfl (v := .bool true) (fun w hw => sameLs_yes q f w (hw.has (A := q.out) (i := 2) rfl).of_own (hw.has (A := q.star) (i := 3) rfl) (fun b hb => (LsG.all_ (p := fun l => l.length = sz ∧ ∀ v ∈ l, v < 256) hq1 hB.m.allF b hb).2) (hw.has (A := f.out) (i := 0) rfl).of_own (hw.has (A := f.star) (i := 1) rfl) (fun b hb => (LsG.all_ (p := fun l => l.length = sz ∧ ∀ v ∈ l, v < 256) hf1 hB.m.allF b hb).2) hqn (hq1.trans hf1.symm)) (fun _ h => by first | exact h.pick [1, 1] rfl | exact h.pick [3, 3] rfl | exact h.pick [5, 5] rfl) (SX.done hK)) ?_
    refine SXI.of (fun _ hK => s_not 256 rfl rfl (SX.done hK)) ?_
    refine SXI.next ?_
    refine CWI.condF rfl ?_
    refine CWI.skip ?_
    refine KNI.code ?_
    refine CWI.seq ?_
    refine CWI.reg [0, 1] rfl (by kernel_rfl) ?_
    refine SXI.of1 (pf := fun _ => True) (fun _ hK => s_alloc 26 rfl (fun _ _ => trivial) (fun x => SX.done (hK x trivial))) (fun b26 _ => ?_)
    refine SXI.of (fun _ hK => s_stB 0 rfl rfl rfl rfl rfl (by show 0 < 1; decide) (fun _ _ => trivial) (SX.done hK)) ?_
    refine SXI.next ?_
    refine CWI.seq ?_
    refine CWI.seq ?_
    refine CWI.reg [0, 1] rfl (by kernel_rfl) ?_
    refine SXI.of (fun _ hK => s_mv 257 rfl rfl (SX.done hK)) ?_
    refine SXI.of1 (fun _ hK => s_call 258 rfl rfl rfl rfl (fun w hw => frontsM_spec m w) (fun _ _ => trivial) (fun x hx => SX.done (hK x hx))) (fun bx _ => ?_)
    refine SXI.next ?_
    refine CWI.block ?_
    refine CWI.pre (fun _ h => St.mdO (h.pick [6, 0, 0, 7, 6, 4, 4] rfl)) ?_
    refine CWI.rangeFuncF (F := Old w) (G := Unit) (GX := Unit) (X := LsG) (fun i _ => [blk b26 3 #[.int .i64 (i : Nat)], blk b11 3 #[.int .i64 a5], blk b12 4 #[.bool false], dmA xp d, blk b17 29 #[.pointer (some ⟨xp, 0, none⟩)], u.hd m]) (fun _ _ => True) (fun i _ => [blk b26 3 #[.int .i64 (i : Nat)], blk b11 3 #[.int .i64 a5], blk b12 4 #[.bool false], dmA xp d, blk b17 29 #[.pointer (some ⟨xp, 0, none⟩)], u.hd m]) (fun i _ => ((i : Nat) : Int) = a5) (fun _ => .exit 5) () [blk bx 24 #[.pointer (some ⟨m, 0, none⟩)], u.th.out, u.th.star, u.wa.out, u.wa.star] [] (fun r z => [(11, .pointer (some ⟨b11, 0, none⟩)), (12, .pointer (some ⟨b12, 0, none⟩)), (17, .pointer (some ⟨b17, 0, none⟩)), (26, .pointer (some ⟨b26, 0, none⟩)), (27, .int .i64 (r : Nat)), (28, z.hdr)]) rfl (frontsIt (Old w) bx m u w hB.m.ok) (fun _ _ w2 _ h => fun j v hj => h.blkCell (i := 5) rfl hj) [6, 6, 6, 6, 6, 0, 4, 0, 0, 0, 0] rfl trivial (fun _ _ => rfl) (by simp) ?_ ?_ ?_ ?_
    · intro lr i x C hi hx
      refine CWI.seq ?_
      refine CWI.reg [0] rfl (by kernel_rfl) ?_
      refine SXI.of (fun _ hK => s_as 27 rfl rfl (SX.done hK)) ?_
      refine SXI.next ?_
      refine CWI.reg [0] rfl (by kernel_rfl) ?_
      refine SXI.of (fun _ hK => s_as 28 rfl rfl (SX.done hK)) ?_
      refine SXI.end_ ?_
      exact ⟨fun a w he hc => ⟨he.sub (SubL.sub ⟨rfl, rfl, rfl, rfl, rfl, rfl, trivial⟩), hc⟩⟩
    · intro lr T i g x hi hg hx
      obtain ⟨hx1, hx2⟩ := hx
      have hxl : x.l.length = ns := by rw [← LsG.abs_len, hx1, frontL_len, LsG.abs_len, hB.n]
      have hxb := LsG.all_ (p := fun l => l.length = sz ∧ ∀ v ∈ l, v < 256) hx1 (hB.m.all i)
      refine CWI.block ?_
      refine CWI.seq ?_
      refine CWI.seq ?_
      refine CWI.reg [0, 1, 2, 3, 4, 5, 6, 7, 8, 9, 10] rfl (by kernel_rfl) ?_
      refine SXI.of (fun _ hK => s_mv 261 rfl rfl (SX.done hK)) ?_
      refine SXI.of (fun _ hK => s_ldB 262 2 rfl rfl rfl (v := .int .i64 (i : Nat)) rfl (SX.done hK)) ?_
      refine SXI.of (fun _ hK => s_ne 263 rfl rfl rfl (decide_eq_false (fun h => h rfl)) (SX.done hK)) ?_
      refine SXI.of (fun _ hK => s_mv 264 rfl rfl (SX.done hK)) ?_
      refine SXI.of (fun _ hK => s_mv 265 rfl rfl (SX.done hK)) ?_
      refine SXI.of (fun _ hK => s_ldB 266 6 rfl rfl rfl (v := .pointer (some ⟨xp, 0, none⟩)) rfl (SX.done hK)) ?_
      refine SXI.of (fun _ hK => s_mv 267 rfl rfl (SX.done hK)) ?_
      refine SXI.of1 (fun _ hK => s_call 268 rfl rfl rfl rfl (fun w hw => dfront_spec xp d i w hB.d.ok (by omega) (dmP_of (hw.has (i := 5) rfl))) (fun _ _ => trivial) (fun x hx => SX.done (hK x hx))) (fun y hy => ?_)
      have hy1 : y.abs = frontL u.th.abs (u.wa.abs.take i) := by
        have h5 := hy.1
        rw [hDt, hDa] at h5
        exact h5
      refine SXI.of (fun _ hK => s_call1 269 rfl rfl rfl rfl (v := .bool true) (fun w hw => sameLs_yes x y w (hw.has (A := x.out) (i := 2) rfl).of_own (hw.has (A := x.star) (i := 3) rfl) (fun b hb => (hxb b hb).2) (hw.has (A := y.out) (i := 0) rfl).of_own (hw.has (A := y.star) (i := 1) rfl) (fun b hb => (LsG.all_ (p := fun l => l.length = sz ∧ ∀ v ∈ l, v < 256) hy1 (hB.m.all i) b hb).2) (by omega) (hx1.trans hy1.symm)) (fun _ _ => trivial) (SX.done hK)) ?_
      refine SXI.of (fun _ hK => s_not 270 rfl rfl (SX.done hK)) ?_
      refine SXI.of (fun _ hK => s_pickF 271 rfl rfl rfl (SX.done hK)) ?_
      refine SXI.next ?_
      refine CWI.condF rfl ?_
      refine CWI.skip ?_
      refine KNI.code ?_
      refine CWI.seq ?_
      refine CWI.seq ?_
      refine CWI.reg [0] rfl (by kernel_rfl) ?_
      refine SXI.of (fun _ hK => s_as 29 rfl rfl (SX.done hK)) ?_
      refine SXI.next ?_
      refine CWI.block ?_
      refine CWI.loop (G := Nat × List ByG) (fun _ => []) (fun q => [(11, .pointer (some ⟨b11, 0, none⟩)), (12, .pointer (some ⟨b12, 0, none⟩)), (17, .pointer (some ⟨b17, 0, none⟩)), (26, .pointer (some ⟨b26, 0, none⟩)), (27, .int .i64 (i : Nat)), (28, x.hdr), (29, .int .i64 (q.1 : Nat))]) (fun q => Sto w [x.out, starA (q.2.map ByG.dat), blk b26 3 #[.int .i64 (i : Nat)], blk b11 3 #[.int .i64 a5], blk b12 4 #[.bool false], dmA xp d, blk b17 29 #[.pointer (some ⟨xp, 0, none⟩)], u.hd m, T]) (fun q => q.1 ≤ x.l.length ∧ q.2.map ByG.sig = x.l.map ByG.sig) (fun q => x.l.length - q.1) (0, x.l) rfl ⟨rfl, rfl, rfl, rfl, rfl, rfl, rfl, trivial⟩ (fun _ h => h.pick [2, 2, 2, 2, 2, 2, 2, 2, 2] rfl) ⟨Nat.zero_le _, rfl⟩ ?_
      rintro ⟨j, l2⟩ ⟨hj, hl2⟩
      simp only at hj hl2
      dsimp only
      refine CWI.seq ?_
      refine CWI.seq ?_
      refine CWI.reg [0, 1, 2, 3] rfl (by kernel_rfl) ?_
      refine SXI.of (fun _ hK => s_mv 272 rfl rfl (SX.done hK)) ?_
      refine SXI.of (fun _ hK => s_mv 273 rfl rfl (SX.done hK)) ?_
      refine SXI.of (fun _ hK => s_len 274 rfl rfl (SX.done hK)) ?_
      refine SXI.of (fun _ hK => s_lt 275 rfl rfl rfl rfl (SX.done hK)) ?_
      refine SXI.next ?_
      refine CWI.test rfl (fun hc => ?_) (fun hc => ?_)
      · skip
        have hjl : j < x.l.length := by omega
        obtain ⟨b, hb⟩ : ∃ b, x.l[j]? = some b := ⟨_, List.getElem?_eq_getElem hjl⟩
        have hbl := (hxb b (List.mem_of_getElem? hb)).1
        obtain ⟨b2, hb2, hbs⟩ := sig_at hl2 hb
        have hb2l : b2.l.length = b.l.length := congrArg (fun s => s.2.2) hbs
        have hb2r := sig_row hbs
        refine CWI.skip ?_
        refine KNI.code ?_
        refine CWI.seq ?_
        refine CWI.block ?_
        refine CWI.reg [0, 1, 2, 3, 4, 5] rfl (by kernel_rfl) ?_
        refine SXI.of (fun _ hK => s_mv 278 rfl rfl (SX.done hK)) ?_
        refine SXI.of (fun _ hK => s_mv 279 rfl rfl (SX.done hK)) ?_
        refine SXI.of (fun _ hK => s_iaV 280 j (fun w hw => (hw.has (A := x.out) (i := 0) rfl).of_own) rfl rfl rfl rfl hjl (SX.done hK)) ?_
        refine SXI.of (fun _ hK => s_ld 281 rfl rfl (v := .slice b2.A b2.l.length b2.c) (fun _ hw => (hw.has (A := x.out) (i := 0) rfl).of_own.rowAt byRow_len hb (by omega) 0 _ (by rw [← hb2r]; rfl)) (SX.done hK)) ?_
        refine SXI.pre (fun _ h => St.focus (A := b2.dat) (i := j) (by rw [List.getElem?_map, hb2]; rfl) (h.pick [1, 0, 0, 0, 0, 0, 0, 0, 0] rfl)) ?_
        refine SXI.of (fun _ hK => s_iaO 282 0 0 rfl rfl rfl rfl rfl (by omega) (SX.done hK)) ?_
        refine SXI.of (fun _ hK => s_stO 0 rfl rfl rfl rfl rfl (by omega) (fun _ _ => trivial) (SX.done hK)) ?_
        refine SXI.end_ ?_
        refine KNI.blk ?_
        refine KNI.code ?_
        refine CWI.reg [0, 1, 2] rfl (by kernel_rfl) ?_
        refine SXI.of (fun _ hK => s_mv 276 rfl rfl (SX.done hK)) ?_
        refine SXI.of (fun _ hK => s_add 277 rfl rfl rfl (r := ((j + 1 : Nat) : Int)) (w64 (by omega)) (SX.done hK)) ?_
        refine SXI.of (fun _ hK => s_as 29 rfl rfl (SX.done hK)) ?_
        refine SXI.end_ ?_
        exact KNI.back (j + 1, l2.set j ⟨b2.A, b2.c, b2.l.set 0 238⟩) rfl ⟨rfl, rfl, rfl, rfl, rfl, rfl, rfl, trivial⟩ (fun _ h => by
          have h2 := St.unfocus (A' := (⟨b2.A, b2.c, b2.l.set 0 238⟩ : ByG).dat) (X := l2.map ByG.dat) (i := j) (by rw [List.length_map]; exact (List.getElem?_eq_some_iff.1 hb2).1) (by
            unfold ByG.dat
            simp only [List.length_set]
            rw [natsm_set]
            exact h)
          have h3 := h2.pick [1, 0, 0, 0, 0, 0, 0, 0, 0] rfl
          simp only
          rw [List.map_set]
          exact h3) ⟨by simp only; omega, by simp only; rw [sig_set hb2 (by unfold ByG.sig; simp only [List.length_set])]; exact hl2⟩ (by simp only; omega)
      · skip
        refine CWI.exit rfl ?_
        refine KNI.code ?_
        refine CWI.seq ?_
        refine CWI.reg [0, 1, 2] rfl (by kernel_rfl) ?_
        refine SXI.of (fun _ hK => s_ldB 283 2 rfl rfl rfl (v := .int .i64 (i : Nat)) rfl (SX.done hK)) ?_
        refine SXI.of (fun _ hK => s_add 284 rfl rfl rfl (r := ((i + 1 : Nat) : Int)) (w64 (by omega)) (SX.done hK)) ?_
        refine SXI.of (fun _ hK => s_stB 2 rfl rfl rfl rfl rfl (by show 0 < 1; decide) (fun _ _ => trivial) (SX.done hK)) ?_
        refine SXI.next ?_
        refine CWI.seq ?_
        refine CWI.reg [0, 1, 2] rfl (by kernel_rfl) ?_
        refine SXI.of (fun _ hK => s_ldB 285 2 rfl rfl rfl (v := .int .i64 ((i + 1 : Nat) : Int)) rfl (SX.done hK)) ?_
        refine SXI.of (fun _ hK => s_ldB 286 3 rfl rfl rfl (v := .int .i64 a5) rfl (SX.done hK)) ?_
        refine SXI.of (fun _ hK => s_eq 287 rfl rfl rfl rfl (SX.done hK)) ?_
        refine SXI.next ?_
        refine CWI.test rfl (fun hst => ?_) (fun hst => ?_)
        · skip
          exact CWI.out rfl (fun a w he hc => ⟨(), hst, rfl, hc.pick [2, 2, 2, 2, 2, 2, 2] rfl⟩)
        · skip
          refine CWI.skip ?_
          refine KNI.blk ?_
          exact ⟨fun a w he2 hc2 => ⟨(), trivial, hc2.pick [2, 2, 2, 2, 2, 2, 2] rfl⟩⟩
    · intro D g hg
      obtain ⟨kf, hkf⟩ : ∃ kf, kf = u.wa.l.length + 1 := ⟨_, rfl⟩
      rw [← hkf]
      have hdn : kf = u.wa.l.length + 1 ∨ ((kf : Nat) : Int) = a5 := .inl hkf
      have hkb : kf ≤ 61 := by omega
      clear hkf
      refine KNI.blk ?_
      refine KNI.code ?_
      refine CWI.cut (G := Unit) (fun _ => [(0, .int .i64 (ns : Nat)), (1, .int .i64 (sz : Nat)), (2, .slice A ds.length c), (3, .int .i64 a3), (4, .int .i64 a4), (11, .pointer (some ⟨b11, 0, none⟩)), (12, .pointer (some ⟨b12, 0, none⟩)), (15, .pointer (some ⟨m, 0, none⟩)), (17, .pointer (some ⟨b17, 0, none⟩))]) (fun _ => Sto w [defB D, blk b26 3 #[.int .i64 (kf : Nat)], blk b11 3 #[.int .i64 a5], blk b12 4 #[.bool false], dmA xp d, blk b17 29 #[.pointer (some ⟨xp, 0, none⟩)], u.hd m, blk bx 24 #[.pointer (some ⟨m, 0, none⟩)], u.th.out, u.th.star, u.wa.out, u.wa.star]) (fun _ => True) ?_ ?_
      · skip
        refine CWI.seq ?_
        refine CWI.regD (.st true 0 (.st true 1 (.st true 2 (.st true 3 (.st true 4 (.st true 5 (.st true 6 (.st true 7 (.st true 8 (.st true 9 (.st true 10 (.st true 11 (.st true 12 .done))))))))))))) (Sto w [blk b26 3 #[.int .i64 (kf : Nat)], blk b11 3 #[.int .i64 a5], dmA xp d, blk b17 29 #[.pointer (some ⟨xp, 0, none⟩)]]) mixed (by kernel_rfl) (fun _ h => h.drew) (fun _ h => h.pick [1, 1, 2, 2] rfl) ?_
        refine SXI.of (fun _ hK => s_ldS 288 rfl rfl (v := .int .i64 (kf : Nat)) (fun _ h => h.blkCell (i := 0) (j := 0) rfl rfl) (SX.done hK)) ?_
        refine SXI.of (fun _ hK => s_ldS 289 rfl rfl (v := .pointer (some ⟨xp, 0, none⟩)) (fun _ h => h.blkCell (i := 3) (j := 0) rfl rfl) (SX.done hK)) ?_
        refine SXI.of (fun _ hK => s_nil 290 rfl rfl (SX.done hK)) ?_
        refine SXI.of (fun _ hK => s_fa 291 rfl rfl (SX.done hK)) ?_
        refine SXI.of (fun _ hK => s_ldS 292 rfl rfl (v := .slice d.A d.es.length d.c) (fun _ h => dm_cell (h.has (i := 2) rfl) (j := 2) rfl) (SX.done hK)) ?_
        refine SXI.of (fun _ hK => s_len 293 rfl rfl (SX.done hK)) ?_
        refine SXI.of (fun _ hK => s_add 294 rfl rfl rfl (r := ((d.es.length + 1 : Nat) : Int)) (w64 (by omega)) (SX.done hK)) ?_
        refine SXI.of (fun _ hK => s_ne 295 rfl rfl rfl rfl (SX.done hK)) ?_
        refine SXI.of (fun _ hK => s_mv 296 rfl rfl (SX.done hK)) ?_
        refine SXI.bool 296 rfl (fun hb => ?_) (fun hb => ?_)
        · skip
          have h5 := of_decide_eq_true hb
          have h6 : ((kf : Nat) : Int) = a5 := hdn.resolve_left (fun h7 => h5 (by rw [h7, hwl]))
          refine SXI.of (fun _ hK => s_ldS 297 rfl rfl (v := .int .i64 (kf : Nat)) (fun _ h => h.blkCell (i := 0) (j := 0) rfl rfl) (SX.done hK)) ?_
          refine SXI.of (fun _ hK => s_ldS 298 rfl rfl (v := .int .i64 a5) (fun _ h => h.blkCell (i := 1) (j := 0) rfl rfl) (SX.done hK)) ?_
          refine SXI.of (fun _ hK => s_ne 299 rfl rfl rfl (decide_eq_false (fun h7 => h7 h6)) (SX.done hK)) ?_
          refine SXI.of (fun _ hK => s_pickT 300 rfl rfl rfl (SX.done hK)) ?_
          refine SXI.next ?_
          refine CWI.condF rfl ?_
          refine CWI.skip ?_
          exact KNI.join () ⟨rfl, rfl, rfl, rfl, rfl, rfl, rfl, rfl, rfl, trivial⟩ (fun _ h => h) trivial
        · skip
          skip
          refine SXI.of (fun _ hK => SX.skip rfl (SX.done hK)) ?_
          refine SXI.of (fun _ hK => SX.skip rfl (SX.done hK)) ?_
          refine SXI.of (fun _ hK => SX.skip rfl (SX.done hK)) ?_
          refine SXI.of (fun _ hK => s_pickF 300 rfl rfl rfl (SX.done hK)) ?_
          refine SXI.next ?_
          refine CWI.condF rfl ?_
          refine CWI.skip ?_
          exact KNI.join () ⟨rfl, rfl, rfl, rfl, rfl, rfl, rfl, rfl, rfl, trivial⟩ (fun _ h => h) trivial
      · skip
        intro _ _
        have htb := tmodm_lt (k := ((d.es.length + 1 : Nat) : Int)) (by omega) a3
        obtain ⟨k, hk, hkn⟩ := at_norm d.es.length a3
        refine CWI.seq ?_
        refine CWI.regD (.st true 0 (.st true 1 (.st true 2 (.st true 3 (.st true 4 (.st true 5 (.st true 6 (.st true 7 (.st true 8 (.st true 9 (.st true 10 (.st true 11 (.st true 12 (.st true 13 (.st true 14 (.st true 15 (.st true 16 (.st true 17 (.st true 18 (.st true 19 (.st true 20 (.st true 21 (.st true 22 .done))))))))))))))))))))))) (Sto w [dmA xp d, blk b17 29 #[.pointer (some ⟨xp, 0, none⟩)]]) mixed (by kernel_rfl) (fun _ h => h.drew) (fun _ h => h.pick [4, 4] rfl) ?_
        refine SXI.of (fun _ hK => s_mv 301 rfl rfl (SX.done hK)) ?_
        refine SXI.of (fun _ hK => s_ldS 302 rfl rfl (v := .pointer (some ⟨xp, 0, none⟩)) (fun _ h => h.blkCell (i := 1) (j := 0) rfl rfl) (SX.done hK)) ?_
        refine SXI.of (fun _ hK => s_nil 303 rfl rfl (SX.done hK)) ?_
        refine SXI.of (fun _ hK => s_fa 304 rfl rfl (SX.done hK)) ?_
        refine SXI.of (fun _ hK => s_ldS 305 rfl rfl (v := .slice d.A d.es.length d.c) (fun _ h => dm_cell (h.has (i := 0) rfl) (j := 2) rfl) (SX.done hK)) ?_
        refine SXI.of (fun _ hK => s_len 306 rfl rfl (SX.done hK)) ?_
        refine SXI.of (fun _ hK => s_add 307 rfl rfl rfl (r := ((d.es.length + 1 : Nat) : Int)) (w64 (by omega)) (SX.done hK)) ?_
        refine SXI.of (fun _ hK => s_rem 308 rfl rfl rfl (by omega) rfl (SX.done hK)) ?_
        refine SXI.of (fun _ hK => s_ldS 309 rfl rfl (v := .pointer (some ⟨xp, 0, none⟩)) (fun _ h => h.blkCell (i := 1) (j := 0) rfl rfl) (SX.done hK)) ?_
        refine SXI.of (fun _ hK => s_nil 310 rfl rfl (SX.done hK)) ?_
        refine SXI.of (fun _ hK => s_fa 311 rfl rfl (SX.done hK)) ?_
        refine SXI.of (fun _ hK => s_ldS 312 rfl rfl (v := .slice d.A d.es.length d.c) (fun _ h => dm_cell (h.has (i := 0) rfl) (j := 2) rfl) (SX.done hK)) ?_
        refine SXI.of (fun _ hK => s_len 313 rfl rfl (SX.done hK)) ?_
        refine SXI.of (fun _ hK => s_add 314 rfl rfl rfl (w64 (by omega)) (SX.done hK)) ?_
        refine SXI.of (fun _ hK => s_add 315 rfl rfl rfl (w64 (by omega)) (SX.done hK)) ?_
        refine SXI.of (fun _ hK => s_ldS 316 rfl rfl (v := .pointer (some ⟨xp, 0, none⟩)) (fun _ h => h.blkCell (i := 1) (j := 0) rfl rfl) (SX.done hK)) ?_
        refine SXI.of (fun _ hK => s_nil 317 rfl rfl (SX.done hK)) ?_
        refine SXI.of (fun _ hK => s_fa 318 rfl rfl (SX.done hK)) ?_
        refine SXI.of (fun _ hK => s_ldS 319 rfl rfl (v := .slice d.A d.es.length d.c) (fun _ h => dm_cell (h.has (i := 0) rfl) (j := 2) rfl) (SX.done hK)) ?_
        refine SXI.of (fun _ hK => s_len 320 rfl rfl (SX.done hK)) ?_
        refine SXI.of (fun _ hK => s_add 321 rfl rfl rfl (r := ((d.es.length + 1 : Nat) : Int)) (w64 (by omega)) (SX.done hK)) ?_
        refine SXI.of (fun _ hK => s_rem 322 rfl rfl rfl (by omega) hkn (SX.done hK)) ?_
        refine SXI.of (fun _ hK => s_as 30 rfl rfl (SX.done hK)) ?_
        refine SXI.next ?_
        refine CWI.seq ?_
        refine CWI.pre (fun _ h => St.mdC (x := u) (h.pick [6, 7, 7, 7, 7, 0, 2, 2, 2] rfl)) ?_
        refine CWI.reg [0, 1, 2, 3] rfl (by kernel_rfl) ?_
        refine SXI.of (fun _ hK => s_ldB 323 4 rfl rfl rfl (v := .pointer (some ⟨xp, 0, none⟩)) rfl (SX.done hK)) ?_
        refine SXI.of (fun _ hK => s_mv 324 rfl rfl (SX.done hK)) ?_
        refine SXI.of1 (fun _ hK => s_call 325 rfl rfl rfl rfl (fun w hw => dfront_spec xp d k w hB.d.ok hk (dmP_of (hw.has (i := 3) rfl))) (fun _ _ => trivial) (fun x hx => SX.done (hK x hx))) (fun q2 hq2 => ?_)
        have hv1 : q2.abs = frontL u.th.abs (u.wa.abs.take k) := by
          have h5 := hq2.1
          rw [hDt, hDa] at h5
          exact h5
        have hvb := LsG.all_ (p := fun l => l.length = sz ∧ ∀ v ∈ l, v < 256) hv1 (hB.m.all k)
        obtain ⟨s, hs1, hs2⟩ := settle_front (t := u.th.abs) (ws := u.wa.abs) (k := k) (by rw [WsG.abs_len]; omega)
        rw [← hv1] at hs1
        have hvl : q2.l.length = ns := by rw [← LsG.abs_len, hv1, frontL_len, LsG.abs_len, hB.n]
        refine SXI.of (fun _ hK => s_as 31 rfl rfl (SX.done hK)) ?_
        refine SXI.next ?_
        refine CWI.seq ?_
        refine CWI.reg [0, 1, 2, 3, 4, 5, 6, 7] rfl (by kernel_rfl) ?_
        refine SXI.of (fun _ hK => s_mv 327 rfl rfl (SX.done hK)) ?_
        refine SXI.of (fun _ hK => s_mv 328 rfl rfl (SX.done hK)) ?_
        refine SXI.of1 (fun _ hK => s_callP 329 [2, 0, 0, 0, 0, 0, 0] (M := [modelA m u]) (R := [q2.out, q2.star, defB D, blk b12 4 #[.bool false], dmA xp d, blk b17 29 #[.pointer (some ⟨xp, 0, none⟩)]]) (X := MdG) (v := fun _ => two (.int .i64 ((settleN u.th.abs u.wa.abs q2.abs).getD 0 : Nat)) (.bool (settleN u.th.abs u.wa.abs q2.abs).isSome)) (pf := fun z => (∀ n, settleN u.th.abs u.wa.abs q2.abs = some n → u.Is z q2.abs) ∧ (settleN u.th.abs u.wa.abs q2.abs = none → z = u)) (M' := fun z => [modelA m z]) rfl rfl rfl rfl rfl (fun F' w' hR hM => settleM_spec F' m u q2 w' hB.m.ok (fun b hb => (hvb b hb).2) (fun w2 hf => ls_has ((hR w2 hf).has (i := 0) rfl) ((hR w2 hf).has (i := 1) rfl)) hM) (fun _ _ _ => trivial) (fun x hx => SX.done (hK x hx))) (fun z hz => ?_)
        rw [hs1] at hz ⊢
        have hZ := hB.m.is hs1 (hz.1 s rfl)
        clear hz
        refine SXI.of (fun _ hK => s_mv 326 rfl rfl (SX.done hK)) ?_
        refine SXI.of (fun _ hK => s_ext 330 rfl rfl rfl (SX.done hK)) ?_
        refine SXI.of (fun _ hK => s_ext 331 rfl rfl rfl (SX.done hK)) ?_
        refine SXI.of (fun _ hK => s_as 32 rfl rfl (SX.done hK)) ?_
        refine SXI.of (fun _ hK => s_as 33 rfl rfl (SX.done hK)) ?_
        refine SXI.next ?_
        refine CWI.seq ?_
        refine CWI.reg [0, 1, 2, 3] rfl (by kernel_rfl) ?_
        refine SXI.of (fun _ hK => s_ldB 332 6 rfl rfl rfl (v := .pointer (some ⟨xp, 0, none⟩)) rfl (SX.done hK)) ?_
        refine SXI.of (fun _ hK => s_mv 333 rfl rfl (SX.done hK)) ?_
        refine SXI.of1 (fun _ hK => s_callP 334 [5, 1, 1, 0, 0, 0, 0] (M := [dmA xp d]) (R := [q2.out, q2.star, modelA m z, defB D, blk b12 4 #[.bool false], blk b17 29 #[.pointer (some ⟨xp, 0, none⟩)]]) (X := DmG) (v := fun _ => .int .i64 (setI (settleN d.th.abs d.waits q2.abs))) (pf := fun z => (∀ n, settleN d.th.abs d.waits q2.abs = some n → d.Is z q2.abs) ∧ (settleN d.th.abs d.waits q2.abs = none → z = d)) (M' := fun z => [dmA xp z]) rfl rfl rfl rfl rfl (fun F' w' hR hM => dsettle_spec F' xp d q2 w' hB.d.ok (fun b hb => (hvb b hb).2) (fun w2 hf => ls_has ((hR w2 hf).has (i := 0) rfl) ((hR w2 hf).has (i := 1) rfl)) hM) (fun _ _ _ => trivial) (fun x hx => SX.done (hK x hx))) (fun d9 hd9 => ?_)
        rw [hDt, hDa, hs1]
        refine SXI.of (fun _ hK => s_as 34 rfl rfl (SX.done hK)) ?_
        refine SXI.next ?_
        refine CWI.seq ?_
        refine CWI.seq ?_
        refine CWI.reg [0, 1, 2, 3, 4, 5, 6, 7, 8, 9, 10, 11, 12, 13, 14, 15, 16, 17, 18] rfl (by kernel_rfl) ?_
        refine SXI.of (fun _ hK => s_mv 335 rfl rfl (SX.done hK)) ?_
        refine SXI.of (fun _ hK => s_not 336 rfl rfl (SX.done hK)) ?_
        refine SXI.of (fun _ hK => s_mv 337 rfl rfl (SX.done hK)) ?_
        refine SXI.of (fun _ hK => s_mv 338 rfl rfl (SX.done hK)) ?_
        refine SXI.of (fun _ hK => s_mv 339 rfl rfl (SX.done hK)) ?_
        refine SXI.of (fun _ hK => s_ne 340 rfl rfl rfl (decide_eq_false (fun h => h rfl)) (SX.done hK)) ?_
        refine SXI.of (fun _ hK => s_pickF 341 rfl rfl rfl (SX.done hK)) ?_
        refine SXI.of (fun _ hK => s_mv 342 rfl rfl (SX.done hK)) ?_
        refine SXI.of (fun _ hK => s_mv 343 rfl rfl (SX.done hK)) ?_
        refine SXI.of (fun _ hK => s_call1 344 rfl rfl rfl rfl (fun w hw => waitingM_spec m z w (mdH_of (hw.has (i := 3) rfl))) (fun _ _ => trivial) (SX.done hK)) ?_
        refine SXI.of (fun _ hK => s_ne 345 rfl rfl rfl (decide_eq_false (by rw [hZ.wl]; exact fun h => h rfl)) (SX.done hK)) ?_
        refine SXI.of (fun _ hK => s_pickF 346 rfl rfl rfl (SX.done hK)) ?_
        refine SXI.of (fun _ hK => s_mv 347 rfl rfl (SX.done hK)) ?_
        refine SXI.of (fun _ hK => s_mv 348 rfl rfl (SX.done hK)) ?_
        refine SXI.of1 (fun _ hK => s_call 349 rfl rfl rfl rfl (fun w hw => sectorsM_spec m z w hZ.ok (mdP_of (hw.has (i := 3) rfl))) (fun _ _ => trivial) (fun x hx => SX.done (hK x hx))) (fun y hy => ?_)
        have hy1 : y.abs = q2.abs := by
          have h5 := hy.1
          rw [hZ.t, hZ.a] at h5
          exact h5
        refine SXI.of (fun _ hK => s_mv 350 rfl rfl (SX.done hK)) ?_
        refine SXI.of (fun _ hK => s_call1 351 rfl rfl rfl rfl (v := .bool true) (fun w hw => sameLs_yes y q2 w (hw.has (A := y.out) (i := 0) rfl).of_own (hw.has (A := y.star) (i := 1) rfl) (fun b hb => (LsG.all_ (p := fun l => l.length = sz ∧ ∀ v ∈ l, v < 256) (hy1.trans hv1) (hB.m.all k) b hb).2) (hw.has (A := q2.out) (i := 3) rfl).of_own (hw.has (A := q2.star) (i := 4) rfl) (fun b hb => (hvb b hb).2) (by rw [← LsG.abs_len, hy1, LsG.abs_len]; omega) hy1) (fun _ _ => trivial) (SX.done hK)) ?_
        refine SXI.of (fun _ hK => s_not 352 rfl rfl (SX.done hK)) ?_
        refine SXI.of (fun _ hK => s_pickF 353 rfl rfl rfl (SX.done hK)) ?_
        refine SXI.next ?_
        refine CWI.condF rfl ?_
        refine CWI.skip ?_
        refine KNI.code ?_
        refine CWI.seq ?_
        obtain ⟨b, hb⟩ : ∃ b, q2.l[0]? = some b := ⟨_, List.getElem?_eq_getElem (by omega)⟩
        have hbl := (hvb b (List.mem_of_getElem? hb)).1
        obtain ⟨v, hv⟩ : ∃ v, b.l[0]? = some v := ⟨_, List.getElem?_eq_getElem (by omega)⟩
        have hv256 := (hvb b (List.mem_of_getElem? hb)).2 v (List.mem_of_getElem? hv)
        refine CWI.pre (fun _ h => St.focus (A := b.dat) (X := q2.l.map ByG.dat) (i := 0) (by rw [List.getElem?_map, hb]; rfl) (h.pick [4, 3, 3, 3, 3] rfl)) ?_
        refine CWI.regD (.st true 0 (.st true 1 (.st true 2 (.st true 3 (.st true 4 (.st true 5 (.st true 6 (.st false 7 (.st true 8 (.st true 9 (.st false 10 .done))))))))))) (Sto w [q2.out]) mixed (by kernel_rfl) (fun _ h => h.drew) (fun _ h => h.pick [2] rfl) ?_
        refine SXI.of (fun _ hK => s_mv 354 rfl rfl (SX.done hK)) ?_
        refine SXI.of (fun _ hK => s_iaV 355 0 (fun w hw => (hw.has (A := q2.out) (i := 2) rfl).of_own) rfl rfl rfl rfl (by omega) (SX.done hK)) ?_
        refine SXI.of (fun _ hK => s_ldS 356 rfl rfl (v := .slice b.A b.l.length b.c) (fun _ hw => (hw.has (A := q2.out) (i := 0) rfl).of_own.rowAt byRow_len hb (by omega) 0 _ rfl) (SX.done hK)) ?_
        refine SXI.of (fun _ hK => s_mv 357 rfl rfl (SX.done hK)) ?_
        refine SXI.of (fun _ hK => s_iaV 358 0 (fun w hw => (hw.has (A := q2.out) (i := 2) rfl).of_own) rfl rfl rfl rfl (by omega) (SX.done hK)) ?_
        refine SXI.of (fun _ hK => s_ldS 359 rfl rfl (v := .slice b.A b.l.length b.c) (fun _ hw => (hw.has (A := q2.out) (i := 0) rfl).of_own.rowAt byRow_len hb (by omega) 0 _ rfl) (SX.done hK)) ?_
        refine SXI.of (fun _ hK => s_iaO 360 0 0 rfl rfl rfl rfl rfl (by omega) (SX.done hK)) ?_
        refine SXI.of (fun _ hK => s_ldO 361 0 rfl rfl rfl (j := 0) (v := .int .u8 (v : Nat)) (by simp [nats, hv]) (SX.done hK)) ?_
        refine SXI.of (fun _ hK => s_add 362 rfl rfl rfl (r := (((v + 1) % 256) : Nat)) (by simp [IntKind.wrap, IntKind.signed, IntKind.bits]) (SX.done hK)) ?_
        refine SXI.of (fun _ hK => s_iaO 363 0 0 rfl rfl rfl rfl rfl (by omega) (SX.done hK)) ?_
        refine SXI.of (fun _ hK => s_stO 0 rfl rfl rfl rfl rfl (by omega) (fun _ h => h.pick [2] rfl) (SX.done hK)) ?_
        refine SXI.next ?_
        refine CWI.seq ?_
        obtain ⟨q3, hq3⟩ : ∃ q3, q3 = (⟨q2.A, q2.c, q2.l.set 0 ⟨b.A, b.c, b.l.set 0 ((v + 1) % 256)⟩⟩ : LsG) := ⟨_, rfl⟩
        have hq3l : q3.l.length = q2.l.length := by rw [hq3]; simp only [List.length_set]
        have hq3b : ∀ b ∈ q3.l, ∀ v ∈ b.l, v < 256 := by
          intro b5 hb5 v5 hv5
          rw [hq3] at hb5
          rcases List.mem_or_eq_of_mem_set hb5 with h5 | h5
          · exact (hvb b5 h5).2 v5 hv5
          · rw [h5] at hv5
            rcases List.mem_or_eq_of_mem_set hv5 with h6 | h6
            · exact (hvb b (List.mem_of_getElem? hb)).2 v5 h6
            · omega
        have hq3n : settleN q2.abs [] q3.abs = none := settle_none (fun j hj h5 => by
          have h6 := congrArg (·[0]?) h5
          have h7 : (frontL q2.abs (List.take j []))[0]? = some b.l := by rw [List.take_nil]; exact LsG.at_ hb
          have h8 : q3.abs[0]? = some (b.l.set 0 ((v + 1) % 256)) := by
            rw [hq3]
            exact LsG.at_ (b := ⟨b.A, b.c, b.l.set 0 ((v + 1) % 256)⟩) (by
              show (q2.l.set 0 _)[0]? = _
              rw [List.getElem?_set, if_pos rfl, if_pos (by omega)])
          have h9 : b.l = b.l.set 0 ((v + 1) % 256) := Option.some.inj (h7.symm.trans (h6.trans h8))
          have h10 := congrArg (·[0]?) h9
          simp only [hv] at h10
          rw [List.getElem?_set, if_pos rfl, if_pos (by omega)] at h10
          have h11 := Option.some.inj h10
          omega)
        have hq3h : q2.hdr = q3.hdr := by unfold LsG.hdr; rw [hq3l, hq3]
        rw [hq3h]
        refine CWI.pre (C' := Sto w [q3.out, q3.star, modelA m z, defB D, blk b12 4 #[.bool false]]) (fun _ h => ?_) ?_
        · have h2 := St.unfocus (A' := (⟨b.A, b.c, b.l.set 0 ((v + 1) % 256)⟩ : ByG).dat) (X := q2.l.map ByG.dat) (i := 0) (by rw [List.length_map]; omega) (by
            unfold ByG.dat
            simp only [List.length_set]
            rw [natsm_set]
            exact h)
          have h3 := h2.pick [1, 0, 0, 0, 0] rfl
          have e1 : q3.out = q2.out := by
            unfold LsG.out
            rw [hq3l, hq3]
            simp only
            rw [sig_rows (sig_set hb (by unfold ByG.sig; simp only [List.length_set]))]
          have e2 : q3.star = starA ((q2.l.map ByG.dat).set 0 (⟨b.A, b.c, b.l.set 0 ((v + 1) % 256)⟩ : ByG).dat) := by
            unfold LsG.star
            rw [hq3, List.map_set]
          rw [e1, e2]
          exact h3
        refine CWI.reg [0, 1, 2, 3, 4, 5, 6, 7] rfl (by kernel_rfl) ?_
        refine SXI.of (fun _ hK => s_mv 365 rfl rfl (SX.done hK)) ?_
        refine SXI.of (fun _ hK => s_mv 366 rfl rfl (SX.done hK)) ?_
        refine SXI.of1 (fun _ hK => s_callP 367 [2, 0, 0, 0, 0] (M := [modelA m z]) (R := [q3.out, q3.star, defB D, blk b12 4 #[.bool false]]) (X := MdG) (v := fun _ => two (.int .i64 ((settleN z.th.abs z.wa.abs q3.abs).getD 0 : Nat)) (.bool (settleN z.th.abs z.wa.abs q3.abs).isSome)) (pf := fun z9 => (∀ n, settleN z.th.abs z.wa.abs q3.abs = some n → z.Is z9 q3.abs) ∧ (settleN z.th.abs z.wa.abs q3.abs = none → z9 = z)) (M' := fun z9 => [modelA m z9]) rfl rfl rfl rfl rfl (fun F' w' hR hM => settleM_spec F' m z q3 w' hZ.ok hq3b (fun w2 hf => ls_has ((hR w2 hf).has (i := 0) rfl) ((hR w2 hf).has (i := 1) rfl)) hM) (fun _ _ _ => trivial) (fun x hx => SX.done (hK x hx))) (fun z9 hz9 => ?_)
        rw [hZ.t, hZ.a, hq3n]
        refine SXI.of (fun _ hK => s_mv 364 rfl rfl (SX.done hK)) ?_
        refine SXI.of (fun _ hK => s_ext 368 rfl rfl rfl (SX.done hK)) ?_
        refine SXI.of (fun _ hK => s_ext 369 rfl rfl rfl (SX.done hK)) ?_
        refine SXI.of (fun _ hK => s_as 35 rfl rfl (SX.done hK)) ?_
        refine SXI.of (fun _ hK => s_as 36 rfl rfl (SX.done hK)) ?_
        refine SXI.next ?_
        refine CWI.seq ?_
        refine CWI.reg [0, 1, 2] rfl (by kernel_rfl) ?_
        refine SXI.of (fun _ hK => s_mv 370 rfl rfl (SX.done hK)) ?_
        refine SXI.of (fun _ hK => s_not 371 rfl rfl (SX.done hK)) ?_
        refine SXI.of (fun _ hK => s_stB 4 rfl rfl rfl rfl rfl (by show 0 < 1; decide) (fun _ _ => trivial) (SX.done hK)) ?_
        refine SXI.next ?_
        refine CWI.ret ?_
        exact retMC (rs := [.cell 12 4]) (L := [blk b12 4 #[.bool true]]) [D] rfl Tryd.results3 (fun _ h => h.pick [3, 3] rfl) (fun w hw => ⟨[_], ⟨⟨_, rfl, run_loadVar1 (hw.blkCell (i := 0) (j := 0) rfl rfl)⟩, trivial⟩, rfl, hw.nothing⟩)
    · intro D i g hi hg
      obtain ⟨kf, hkf⟩ : ∃ kf, kf = i + 1 := ⟨_, rfl⟩
      rw [← hkf] at hg ⊢
      have hdn : kf = u.wa.l.length + 1 ∨ ((kf : Nat) : Int) = a5 := .inr hg
      have hkb : kf ≤ 61 := by omega
      clear hkf hg
      refine CWI.exit rfl ?_
      refine KNI.code ?_
      refine CWI.cut (G := Unit) (fun _ => [(0, .int .i64 (ns : Nat)), (1, .int .i64 (sz : Nat)), (2, .slice A ds.length c), (3, .int .i64 a3), (4, .int .i64 a4), (11, .pointer (some ⟨b11, 0, none⟩)), (12, .pointer (some ⟨b12, 0, none⟩)), (15, .pointer (some ⟨m, 0, none⟩)), (17, .pointer (some ⟨b17, 0, none⟩))]) (fun _ => Sto w [defB D, blk b26 3 #[.int .i64 (kf : Nat)], blk b11 3 #[.int .i64 a5], blk b12 4 #[.bool false], dmA xp d, blk b17 29 #[.pointer (some ⟨xp, 0, none⟩)], u.hd m, blk bx 24 #[.pointer (some ⟨m, 0, none⟩)], u.th.out, u.th.star, u.wa.out, u.wa.star]) (fun _ => True) ?_ ?_
      · skip
        refine CWI.seq ?_
        refine CWI.regD (.st true 0 (.st true 1 (.st true 2 (.st true 3 (.st true 4 (.st true 5 (.st true 6 (.st true 7 (.st true 8 (.st true 9 (.st true 10 (.st true 11 (.st true 12 .done))))))))))))) (Sto w [blk b26 3 #[.int .i64 (kf : Nat)], blk b11 3 #[.int .i64 a5], dmA xp d, blk b17 29 #[.pointer (some ⟨xp, 0, none⟩)]]) mixed (by kernel_rfl) (fun _ h => h.drew) (fun _ h => h.pick [1, 1, 2, 2] rfl) ?_
        refine SXI.of (fun _ hK => s_ldS 288 rfl rfl (v := .int .i64 (kf : Nat)) (fun _ h => h.blkCell (i := 0) (j := 0) rfl rfl) (SX.done hK)) ?_
        refine SXI.of (fun _ hK => s_ldS 289 rfl rfl (v := .pointer (some ⟨xp, 0, none⟩)) (fun _ h => h.blkCell (i := 3) (j := 0) rfl rfl) (SX.done hK)) ?_
        refine SXI.of (fun _ hK => s_nil 290 rfl rfl (SX.done hK)) ?_
        refine SXI.of (fun _ hK => s_fa 291 rfl rfl (SX.done hK)) ?_
        refine SXI.of (fun _ hK => s_ldS 292 rfl rfl (v := .slice d.A d.es.length d.c) (fun _ h => dm_cell (h.has (i := 2) rfl) (j := 2) rfl) (SX.done hK)) ?_
        refine SXI.of (fun _ hK => s_len 293 rfl rfl (SX.done hK)) ?_
        refine SXI.of (fun _ hK => s_add 294 rfl rfl rfl (r := ((d.es.length + 1 : Nat) : Int)) (w64 (by omega)) (SX.done hK)) ?_
        refine SXI.of (fun _ hK => s_ne 295 rfl rfl rfl rfl (SX.done hK)) ?_
        refine SXI.of (fun _ hK => s_mv 296 rfl rfl (SX.done hK)) ?_
        refine SXI.bool 296 rfl (fun hb => ?_) (fun hb => ?_)
        · skip
          have h5 := of_decide_eq_true hb
          have h6 : ((kf : Nat) : Int) = a5 := hdn.resolve_left (fun h7 => h5 (by rw [h7, hwl]))
          refine SXI.of (fun _ hK => s_ldS 297 rfl rfl (v := .int .i64 (kf : Nat)) (fun _ h => h.blkCell (i := 0) (j := 0) rfl rfl) (SX.done hK)) ?_
          refine SXI.of (fun _ hK => s_ldS 298 rfl rfl (v := .int .i64 a5) (fun _ h => h.blkCell (i := 1) (j := 0) rfl rfl) (SX.done hK)) ?_
          refine SXI.of (fun _ hK => s_ne 299 rfl rfl rfl (decide_eq_false (fun h7 => h7 h6)) (SX.done hK)) ?_
          refine SXI.of (fun _ hK => s_pickT 300 rfl rfl rfl (SX.done hK)) ?_
          refine SXI.next ?_
          refine CWI.condF rfl ?_
          refine CWI.skip ?_
          exact KNI.join () ⟨rfl, rfl, rfl, rfl, rfl, rfl, rfl, rfl, rfl, trivial⟩ (fun _ h => h) trivial
        · skip
          skip
          refine SXI.of (fun _ hK => SX.skip rfl (SX.done hK)) ?_
          refine SXI.of (fun _ hK => SX.skip rfl (SX.done hK)) ?_
          refine SXI.of (fun _ hK => SX.skip rfl (SX.done hK)) ?_
          refine SXI.of (fun _ hK => s_pickF 300 rfl rfl rfl (SX.done hK)) ?_
          refine SXI.next ?_
          refine CWI.condF rfl ?_
          refine CWI.skip ?_
          exact KNI.join () ⟨rfl, rfl, rfl, rfl, rfl, rfl, rfl, rfl, rfl, trivial⟩ (fun _ h => h) trivial
      · skip
        intro _ _
        have htb := tmodm_lt (k := ((d.es.length + 1 : Nat) : Int)) (by omega) a3
        obtain ⟨k, hk, hkn⟩ := at_norm d.es.length a3
        refine CWI.seq ?_
        refine CWI.regD (.st true 0 (.st true 1 (.st true 2 (.st true 3 (.st true 4 (.st true 5 (.st true 6 (.st true 7 (.st true 8 (.st true 9 (.st true 10 (.st true 11 (.st true 12 (.st true 13 (.st true 14 (.st true 15 (.st true 16 (.st true 17 (.st true 18 (.st true 19 (.st true 20 (.st true 21 (.st true 22 .done))))))))))))))))))))))) (Sto w [dmA xp d, blk b17 29 #[.pointer (some ⟨xp, 0, none⟩)]]) mixed (by kernel_rfl) (fun _ h => h.drew) (fun _ h => h.pick [4, 4] rfl) ?_
        refine SXI.of (fun _ hK => s_mv 301 rfl rfl (SX.done hK)) ?_
        refine SXI.of (fun _ hK => s_ldS 302 rfl rfl (v := .pointer (some ⟨xp, 0, none⟩)) (fun _ h => h.blkCell (i := 1) (j := 0) rfl rfl) (SX.done hK)) ?_
        refine SXI.of (fun _ hK => s_nil 303 rfl rfl (SX.done hK)) ?_
        refine SXI.of (fun _ hK => s_fa 304 rfl rfl (SX.done hK)) ?_
        refine SXI.of (fun _ hK => s_ldS 305 rfl rfl (v := .slice d.A d.es.length d.c) (fun _ h => dm_cell (h.has (i := 0) rfl) (j := 2) rfl) (SX.done hK)) ?_
        refine SXI.of (fun _ hK => s_len 306 rfl rfl (SX.done hK)) ?_
        refine SXI.of (fun _ hK => s_add 307 rfl rfl rfl (r := ((d.es.length + 1 : Nat) : Int)) (w64 (by omega)) (SX.done hK)) ?_
        refine SXI.of (fun _ hK => s_rem 308 rfl rfl rfl (by omega) rfl (SX.done hK)) ?_
        refine SXI.of (fun _ hK => s_ldS 309 rfl rfl (v := .pointer (some ⟨xp, 0, none⟩)) (fun _ h => h.blkCell (i := 1) (j := 0) rfl rfl) (SX.done hK)) ?_
        refine SXI.of (fun _ hK => s_nil 310 rfl rfl (SX.done hK)) ?_
        refine SXI.of (fun _ hK => s_fa 311 rfl rfl (SX.done hK)) ?_
        refine SXI.of (fun _ hK => s_ldS 312 rfl rfl (v := .slice d.A d.es.length d.c) (fun _ h => dm_cell (h.has (i := 0) rfl) (j := 2) rfl) (SX.done hK)) ?_
        refine SXI.of (fun _ hK => s_len 313 rfl rfl (SX.done hK)) ?_
        refine SXI.of (fun _ hK => s_add 314 rfl rfl rfl (w64 (by omega)) (SX.done hK)) ?_
        refine SXI.of (fun _ hK => s_add 315 rfl rfl rfl (w64 (by omega)) (SX.done hK)) ?_
        refine SXI.of (fun _ hK => s_ldS 316 rfl rfl (v := .pointer (some ⟨xp, 0, none⟩)) (fun _ h => h.blkCell (i := 1) (j := 0) rfl rfl) (SX.done hK)) ?_
        refine SXI.of (fun _ hK => s_nil 317 rfl rfl (SX.done hK)) ?_
        refine SXI.of (fun _ hK => s_fa 318 rfl rfl (SX.done hK)) ?_
        refine SXI.of (fun _ hK => s_ldS 319 rfl rfl (v := .slice d.A d.es.length d.c) (fun _ h => dm_cell (h.has (i := 0) rfl) (j := 2) rfl) (SX.done hK)) ?_
        refine SXI.of (fun _ hK => s_len 320 rfl rfl (SX.done hK)) ?_
        refine SXI.of (fun _ hK => s_add 321 rfl rfl rfl (r := ((d.es.length + 1 : Nat) : Int)) (w64 (by omega)) (SX.done hK)) ?_
        refine SXI.of (fun _ hK => s_rem 322 rfl rfl rfl (by omega) hkn (SX.done hK)) ?_
        refine SXI.of (fun _ hK => s_as 30 rfl rfl (SX.done hK)) ?_
        refine SXI.next ?_
        refine CWI.seq ?_
        refine CWI.pre (fun _ h => St.mdC (x := u) (h.pick [6, 7, 7, 7, 7, 0, 2, 2, 2] rfl)) ?_
        refine CWI.reg [0, 1, 2, 3] rfl (by kernel_rfl) ?_
        refine SXI.of (fun _ hK => s_ldB 323 4 rfl rfl rfl (v := .pointer (some ⟨xp, 0, none⟩)) rfl (SX.done hK)) ?_
        refine SXI.of (fun _ hK => s_mv 324 rfl rfl (SX.done hK)) ?_
        refine SXI.of1 (fun _ hK => s_call 325 rfl rfl rfl rfl (fun w hw => dfront_spec xp d k w hB.d.ok hk (dmP_of (hw.has (i := 3) rfl))) (fun _ _ => trivial) (fun x hx => SX.done (hK x hx))) (fun q2 hq2 => ?_)
        have hv1 : q2.abs = frontL u.th.abs (u.wa.abs.take k) := by
          have h5 := hq2.1
          rw [hDt, hDa] at h5
          exact h5
        have hvb := LsG.all_ (p := fun l => l.length = sz ∧ ∀ v ∈ l, v < 256) hv1 (hB.m.all k)
        obtain ⟨s, hs1, hs2⟩ := settle_front (t := u.th.abs) (ws := u.wa.abs) (k := k) (by rw [WsG.abs_len]; omega)
        rw [← hv1] at hs1
        have hvl : q2.l.length = ns := by rw [← LsG.abs_len, hv1, frontL_len, LsG.abs_len, hB.n]
        refine SXI.of (fun _ hK => s_as 31 rfl rfl (SX.done hK)) ?_
        refine SXI.next ?_
        refine CWI.seq ?_
        refine CWI.reg [0, 1, 2, 3, 4, 5, 6, 7] rfl (by kernel_rfl) ?_
        refine SXI.of (fun _ hK => s_mv 327 rfl rfl (SX.done hK)) ?_
        refine SXI.of (fun _ hK => s_mv 328 rfl rfl (SX.done hK)) ?_
        refine SXI.of1 (fun _ hK => s_callP 329 [2, 0, 0, 0, 0, 0, 0] (M := [modelA m u]) (R := [q2.out, q2.star, defB D, blk b12 4 #[.bool false], dmA xp d, blk b17 29 #[.pointer (some ⟨xp, 0, none⟩)]]) (X := MdG) (v := fun _ => two (.int .i64 ((settleN u.th.abs u.wa.abs q2.abs).getD 0 : Nat)) (.bool (settleN u.th.abs u.wa.abs q2.abs).isSome)) (pf := fun z => (∀ n, settleN u.th.abs u.wa.abs q2.abs = some n → u.Is z q2.abs) ∧ (settleN u.th.abs u.wa.abs q2.abs = none → z = u)) (M' := fun z => [modelA m z]) rfl rfl rfl rfl rfl (fun F' w' hR hM => settleM_spec F' m u q2 w' hB.m.ok (fun b hb => (hvb b hb).2) (fun w2 hf => ls_has ((hR w2 hf).has (i := 0) rfl) ((hR w2 hf).has (i := 1) rfl)) hM) (fun _ _ _ => trivial) (fun x hx => SX.done (hK x hx))) (fun z hz => ?_)
        rw [hs1] at hz ⊢
        have hZ := hB.m.is hs1 (hz.1 s rfl)
        clear hz
        refine SXI.of (fun _ hK => s_mv 326 rfl rfl (SX.done hK)) ?_
        refine SXI.of (fun _ hK => s_ext 330 rfl rfl rfl (SX.done hK)) ?_
        refine SXI.of (fun _ hK => s_ext 331 rfl rfl rfl (SX.done hK)) ?_
        refine SXI.of (fun _ hK => s_as 32 rfl rfl (SX.done hK)) ?_
        refine SXI.of (fun _ hK => s_as 33 rfl rfl (SX.done hK)) ?_
        refine SXI.next ?_
        refine CWI.seq ?_
        refine CWI.reg [0, 1, 2, 3] rfl (by kernel_rfl) ?_
        refine SXI.of (fun _ hK => s_ldB 332 6 rfl rfl rfl (v := .pointer (some ⟨xp, 0, none⟩)) rfl (SX.done hK)) ?_
        refine SXI.of (fun _ hK => s_mv 333 rfl rfl (SX.done hK)) ?_
        refine SXI.of1 (fun _ hK => s_callP 334 [5, 1, 1, 0, 0, 0, 0] (M := [dmA xp d]) (R := [q2.out, q2.star, modelA m z, defB D, blk b12 4 #[.bool false], blk b17 29 #[.pointer (some ⟨xp, 0, none⟩)]]) (X := DmG) (v := fun _ => .int .i64 (setI (settleN d.th.abs d.waits q2.abs))) (pf := fun z => (∀ n, settleN d.th.abs d.waits q2.abs = some n → d.Is z q2.abs) ∧ (settleN d.th.abs d.waits q2.abs = none → z = d)) (M' := fun z => [dmA xp z]) rfl rfl rfl rfl rfl (fun F' w' hR hM => dsettle_spec F' xp d q2 w' hB.d.ok (fun b hb => (hvb b hb).2) (fun w2 hf => ls_has ((hR w2 hf).has (i := 0) rfl) ((hR w2 hf).has (i := 1) rfl)) hM) (fun _ _ _ => trivial) (fun x hx => SX.done (hK x hx))) (fun d9 hd9 => ?_)
        rw [hDt, hDa, hs1]
        refine SXI.of (fun _ hK => s_as 34 rfl rfl (SX.done hK)) ?_
        refine SXI.next ?_
        refine CWI.seq ?_
        refine CWI.seq ?_
        refine CWI.reg [0, 1, 2, 3, 4, 5, 6, 7, 8, 9, 10, 11, 12, 13, 14, 15, 16, 17, 18] rfl (by kernel_rfl) ?_
        refine SXI.of (fun _ hK => s_mv 335 rfl rfl (SX.done hK)) ?_
        refine SXI.of (fun _ hK => s_not 336 rfl rfl (SX.done hK)) ?_
        refine SXI.of (fun _ hK => s_mv 337 rfl rfl (SX.done hK)) ?_
        refine SXI.of (fun _ hK => s_mv 338 rfl rfl (SX.done hK)) ?_
        refine SXI.of (fun _ hK => s_mv 339 rfl rfl (SX.done hK)) ?_
        refine SXI.of (fun _ hK => s_ne 340 rfl rfl rfl (decide_eq_false (fun h => h rfl)) (SX.done hK)) ?_
        refine SXI.of (fun _ hK => s_pickF 341 rfl rfl rfl (SX.done hK)) ?_
        refine SXI.of (fun _ hK => s_mv 342 rfl rfl (SX.done hK)) ?_
        refine SXI.of (fun _ hK => s_mv 343 rfl rfl (SX.done hK)) ?_
        refine SXI.of (fun _ hK => s_call1 344 rfl rfl rfl rfl (fun w hw => waitingM_spec m z w (mdH_of (hw.has (i := 3) rfl))) (fun _ _ => trivial) (SX.done hK)) ?_
        refine SXI.of (fun _ hK => s_ne 345 rfl rfl rfl (decide_eq_false (by rw [hZ.wl]; exact fun h => h rfl)) (SX.done hK)) ?_
        refine SXI.of (fun _ hK => s_pickF 346 rfl rfl rfl (SX.done hK)) ?_
        refine SXI.of (fun _ hK => s_mv 347 rfl rfl (SX.done hK)) ?_
        refine SXI.of (fun _ hK => s_mv 348 rfl rfl (SX.done hK)) ?_
        refine SXI.of1 (fun _ hK => s_call 349 rfl rfl rfl rfl (fun w hw => sectorsM_spec m z w hZ.ok (mdP_of (hw.has (i := 3) rfl))) (fun _ _ => trivial) (fun x hx => SX.done (hK x hx))) (fun y hy => ?_)
        have hy1 : y.abs = q2.abs := by
          have h5 := hy.1
          rw [hZ.t, hZ.a] at h5
          exact h5
        refine SXI.of (fun _ hK => s_mv 350 rfl rfl (SX.done hK)) ?_
        refine SXI.of (fun _ hK => s_call1 351 rfl rfl rfl rfl (v := .bool true) (fun w hw => sameLs_yes y q2 w (hw.has (A := y.out) (i := 0) rfl).of_own (hw.has (A := y.star) (i := 1) rfl) (fun b hb => (LsG.all_ (p := fun l => l.length = sz ∧ ∀ v ∈ l, v < 256) (hy1.trans hv1) (hB.m.all k) b hb).2) (hw.has (A := q2.out) (i := 3) rfl).of_own (hw.has (A := q2.star) (i := 4) rfl) (fun b hb => (hvb b hb).2) (by rw [← LsG.abs_len, hy1, LsG.abs_len]; omega) hy1) (fun _ _ => trivial) (SX.done hK)) ?_
        refine SXI.of (fun _ hK => s_not 352 rfl rfl (SX.done hK)) ?_
        refine SXI.of (fun _ hK => s_pickF 353 rfl rfl rfl (SX.done hK)) ?_
        refine SXI.next ?_
        refine CWI.condF rfl ?_
        refine CWI.skip ?_
        refine KNI.code ?_
        refine CWI.seq ?_
        obtain ⟨b, hb⟩ : ∃ b, q2.l[0]? = some b := ⟨_, List.getElem?_eq_getElem (by omega)⟩
        have hbl := (hvb b (List.mem_of_getElem? hb)).1
        obtain ⟨v, hv⟩ : ∃ v, b.l[0]? = some v := ⟨_, List.getElem?_eq_getElem (by omega)⟩
        have hv256 := (hvb b (List.mem_of_getElem? hb)).2 v (List.mem_of_getElem? hv)
        refine CWI.pre (fun _ h => St.focus (A := b.dat) (X := q2.l.map ByG.dat) (i := 0) (by rw [List.getElem?_map, hb]; rfl) (h.pick [4, 3, 3, 3, 3] rfl)) ?_
        refine CWI.regD (.st true 0 (.st true 1 (.st true 2 (.st true 3 (.st true 4 (.st true 5 (.st true 6 (.st false 7 (.st true 8 (.st true 9 (.st false 10 .done))))))))))) (Sto w [q2.out]) mixed (by kernel_rfl) (fun _ h => h.drew) (fun _ h => h.pick [2] rfl) ?_
        refine SXI.of (fun _ hK => s_mv 354 rfl rfl (SX.done hK)) ?_
        refine SXI.of (fun _ hK => s_iaV 355 0 (fun w hw => (hw.has (A := q2.out) (i := 2) rfl).of_own) rfl rfl rfl rfl (by omega) (SX.done hK)) ?_
        refine SXI.of (fun _ hK => s_ldS 356 rfl rfl (v := .slice b.A b.l.length b.c) (fun _ hw => (hw.has (A := q2.out) (i := 0) rfl).of_own.rowAt byRow_len hb (by omega) 0 _ rfl) (SX.done hK)) ?_
        refine SXI.of (fun _ hK => s_mv 357 rfl rfl (SX.done hK)) ?_
        refine SXI.of (fun _ hK => s_iaV 358 0 (fun w hw => (hw.has (A := q2.out) (i := 2) rfl).of_own) rfl rfl rfl rfl (by omega) (SX.done hK)) ?_
        refine SXI.of (fun _ hK => s_ldS 359 rfl rfl (v := .slice b.A b.l.length b.c) (fun _ hw => (hw.has (A := q2.out) (i := 0) rfl).of_own.rowAt byRow_len hb (by omega) 0 _ rfl) (SX.done hK)) ?_
        refine SXI.of (fun _ hK => s_iaO 360 0 0 rfl rfl rfl rfl rfl (by omega) (SX.done hK)) ?_
        refine SXI.of (fun _ hK => s_ldO 361 0 rfl rfl rfl (j := 0) (v := .int .u8 (v : Nat)) (by simp [nats, hv]) (SX.done hK)) ?_
        refine SXI.of (fun _ hK => s_add 362 rfl rfl rfl (r := (((v + 1) % 256) : Nat)) (by simp [IntKind.wrap, IntKind.signed, IntKind.bits]) (SX.done hK)) ?_
        refine SXI.of (fun _ hK => s_iaO 363 0 0 rfl rfl rfl rfl rfl (by omega) (SX.done hK)) ?_
        refine SXI.of (fun _ hK => s_stO 0 rfl rfl rfl rfl rfl (by omega) (fun _ h => h.pick [2] rfl) (SX.done hK)) ?_
        refine SXI.next ?_
        refine CWI.seq ?_
        obtain ⟨q3, hq3⟩ : ∃ q3, q3 = (⟨q2.A, q2.c, q2.l.set 0 ⟨b.A, b.c, b.l.set 0 ((v + 1) % 256)⟩⟩ : LsG) := ⟨_, rfl⟩
        have hq3l : q3.l.length = q2.l.length := by rw [hq3]; simp only [List.length_set]
        have hq3b : ∀ b ∈ q3.l, ∀ v ∈ b.l, v < 256 := by
          intro b5 hb5 v5 hv5
          rw [hq3] at hb5
          rcases List.mem_or_eq_of_mem_set hb5 with h5 | h5
          · exact (hvb b5 h5).2 v5 hv5
          · rw [h5] at hv5
            rcases List.mem_or_eq_of_mem_set hv5 with h6 | h6
            · exact (hvb b (List.mem_of_getElem? hb)).2 v5 h6
            · omega
        have hq3n : settleN q2.abs [] q3.abs = none := settle_none (fun j hj h5 => by
          have h6 := congrArg (·[0]?) h5
          have h7 : (frontL q2.abs (List.take j []))[0]? = some b.l := by rw [List.take_nil]; exact LsG.at_ hb
          have h8 : q3.abs[0]? = some (b.l.set 0 ((v + 1) % 256)) := by
            rw [hq3]
            exact LsG.at_ (b := ⟨b.A, b.c, b.l.set 0 ((v + 1) % 256)⟩) (by
              show (q2.l.set 0 _)[0]? = _
              rw [List.getElem?_set, if_pos rfl, if_pos (by omega)])
          have h9 : b.l = b.l.set 0 ((v + 1) % 256) := Option.some.inj (h7.symm.trans (h6.trans h8))
          have h10 := congrArg (·[0]?) h9
          simp only [hv] at h10
          rw [List.getElem?_set, if_pos rfl, if_pos (by omega)] at h10
          have h11 := Option.some.inj h10
          omega)
        have hq3h : q2.hdr = q3.hdr := by unfold LsG.hdr; rw [hq3l, hq3]
        rw [hq3h]
        refine CWI.pre (C' := Sto w [q3.out, q3.star, modelA m z, defB D, blk b12 4 #[.bool false]]) (fun _ h => ?_) ?_
        · have h2 := St.unfocus (A' := (⟨b.A, b.c, b.l.set 0 ((v + 1) % 256)⟩ : ByG).dat) (X := q2.l.map ByG.dat) (i := 0) (by rw [List.length_map]; omega) (by
            unfold ByG.dat
            simp only [List.length_set]
            rw [natsm_set]
            exact h)
          have h3 := h2.pick [1, 0, 0, 0, 0] rfl
          have e1 : q3.out = q2.out := by
            unfold LsG.out
            rw [hq3l, hq3]
            simp only
            rw [sig_rows (sig_set hb (by unfold ByG.sig; simp only [List.length_set]))]
          have e2 : q3.star = starA ((q2.l.map ByG.dat).set 0 (⟨b.A, b.c, b.l.set 0 ((v + 1) % 256)⟩ : ByG).dat) := by
            unfold LsG.star
            rw [hq3, List.map_set]
          rw [e1, e2]
          exact h3
        refine CWI.reg [0, 1, 2, 3, 4, 5, 6, 7] rfl (by kernel_rfl) ?_
        refine SXI.of (fun _ hK => s_mv 365 rfl rfl (SX.done hK)) ?_
        refine SXI.of (fun _ hK => s_mv 366 rfl rfl (SX.done hK)) ?_
        refine SXI.of1 (fun _ hK => s_callP 367 [2, 0, 0, 0, 0] (M := [modelA m z]) (R := [q3.out, q3.star, defB D, blk b12 4 #[.bool false]]) (X := MdG) (v := fun _ => two (.int .i64 ((settleN z.th.abs z.wa.abs q3.abs).getD 0 : Nat)) (.bool (settleN z.th.abs z.wa.abs q3.abs).isSome)) (pf := fun z9 => (∀ n, settleN z.th.abs z.wa.abs q3.abs = some n → z.Is z9 q3.abs) ∧ (settleN z.th.abs z.wa.abs q3.abs = none → z9 = z)) (M' := fun z9 => [modelA m z9]) rfl rfl rfl rfl rfl (fun F' w' hR hM => settleM_spec F' m z q3 w' hZ.ok hq3b (fun w2 hf => ls_has ((hR w2 hf).has (i := 0) rfl) ((hR w2 hf).has (i := 1) rfl)) hM) (fun _ _ _ => trivial) (fun x hx => SX.done (hK x hx))) (fun z9 hz9 => ?_)
        rw [hZ.t, hZ.a, hq3n]
        refine SXI.of (fun _ hK => s_mv 364 rfl rfl (SX.done hK)) ?_
        refine SXI.of (fun _ hK => s_ext 368 rfl rfl rfl (SX.done hK)) ?_
        refine SXI.of (fun _ hK => s_ext 369 rfl rfl rfl (SX.done hK)) ?_
        refine SXI.of (fun _ hK => s_as 35 rfl rfl (SX.done hK)) ?_
        refine SXI.of (fun _ hK => s_as 36 rfl rfl (SX.done hK)) ?_
        refine SXI.next ?_
        refine CWI.seq ?_
        refine CWI.reg [0, 1, 2] rfl (by kernel_rfl) ?_
        refine SXI.of (fun _ hK => s_mv 370 rfl rfl (SX.done hK)) ?_
        refine SXI.of (fun _ hK => s_not 371 rfl rfl (SX.done hK)) ?_
        refine SXI.of (fun _ hK => s_stB 4 rfl rfl rfl rfl rfl (by show 0 < 1; decide) (fun _ _ => trivial) (SX.done hK)) ?_
        refine SXI.next ?_
        refine CWI.ret ?_
        exact retMC (rs := [.cell 12 4]) (L := [blk b12 4 #[.bool true]]) [D] rfl Tryd.results3 (fun _ h => h.pick [3, 3] rfl) (fun w hw => ⟨[_], ⟨⟨_, rfl, run_loadVar1 (hw.blkCell (i := 0) (j := 0) rfl rfl)⟩, trivial⟩, rfl, hw.nothing⟩)

theorem walk_ModelPlays (a0 a1 : Int) (A : Option Addr) (n c : Nat) (ds : List DoG) (a3 a4 a5 : Int) (e : Nat → Addr) (w : World) (hs : Has (sl 4 A ds.length (rowsD ds)) w) (hz : ∀ d ∈ ds, EntIn w d.e) (hn : ds.length ≤ 9223372036854775807) (heN : Er e w 1) (heS : Er e w 2) (heG : Er e w 0) :
    Spec1 Tryd.prog 3 [.int .i64 a0, .int .i64 a1, .slice A ds.length c, .int .i64 a3, .int .i64 a4, .int .i64 a5] w (.bool true) := by
  have hN := fun (w2 : World) (hf : Fr (Old w) w w2) => er_fr hf heN
  have hS := fun (w2 : World) (hf : Fr (Old w) w w2) => er_fr hf heS
  by_cases h1 : 60 < ds.length
  · exact plays_long a0 a1 A c ds a3 a4 a5 e w hN hS h1
  by_cases h2 : 1 ≤ a0 ∧ a0 ≤ 1048576 ∧ 1 ≤ a1 ∧ a1 ≤ 1024
  · by_cases h3 : 40 < a0
    · exact plays_wide a0 a1 A c ds a3 a4 a5 e w hN hS (by omega) h2 h3
    · obtain ⟨ns, rfl⟩ : ∃ ns : Nat, a0 = (ns : Int) := ⟨a0.toNat, by omega⟩
      obtain ⟨sz, rfl⟩ : ∃ sz : Nat, a1 = (sz : Int) := ⟨a1.toNat, by omega⟩
      exact plays_main ns sz A c ds a3 a4 a5 e w hN hS (by omega) (by omega) (by omega) (by omega) (by omega) hs hz
  · exact plays_bad a0 a1 A c ds a3 a4 a5 e w hN hS heG (by omega) h2
end Go.Proofs.YtaamaifnmppbgaaDoor
end
