/- The walk of the statement DrivePlays, text 5. Conditions: each theorem tells its own. -/
import Derived.Test.YtcapijdokbkgaaaDoorWDrivePlaysD
import Derived.Test.YtcapijdokbkgaaaDoorWDrivePlaysC
section
/- The statement DrivePlays, walked. Conditions: what comes in is read where it lies; the errors' variables each hold a pointer of its own. -/
namespace Go.Proofs.YtcapijdokbkgaaaDoor
open Go Go.Sx Go.Fm
set_option maxRecDepth 100000
structure D4G where
  x : DrG
  y : ChG
  u : DdG
  v : DcG
/-- Both drivers, over both chips. -/
structure D4I (gc gx : Nat) (B : Option Addr) (pc : Nat) (pl : List FtG) (z : D4G) : Prop where
  at_ : z.x.At gc 3 4
  wt : z.y.watch = .nilFunc
  ok : z.y.abs.Ok
  e : z.v.abs = z.y.abs
  p : z.y.abs.pages = 3
  s : z.y.abs.size = 4
  b : z.y.abs.blocks.length = 4
  n : z.x.abs.next.length = 4
  rel : Rel z.x.abs z.u.abs
  at2 : z.u.At gx 4
  a : z.v.pA = B
  c : z.v.pc = pc
  l : z.v.plan = pl
theorem drRd_code (d : DrS) (s : ChS) (b p v : Int) : codeOk (drRd d s b p v).1 := by
  unfold drRd
  split
  · exact .inr ⟨by show (101 : Int) ≤ 112; decide, by show (112 : Int) ≤ 119; decide⟩
  · exact rd_code _ _ _ _
theorem askB_code (d : DrS) (b : Int) : codeOk (d.askB b) := by
  unfold DrS.askB
  split
  · split
    · exact .inr ⟨by decide, by decide⟩
    · exact .inl rfl
  · exact .inr ⟨by decide, by decide⟩
theorem drAp_code (pg sz : Int) (d : DrS) (s : ChS) (b : Int) (l : List Nat) : codeOk (drAp pg sz d s b l).2.1 := by
  by_cases ha : d.askO pg b = 0
  · by_cases hl : (l.length : Int) = sz
    · by_cases hz : (s.pr b (d.nx b) l).1 = 0
      · rw [drAp_ok ha hl hz]
        exact .inl rfl
      · rw [drAp_err ha hl hz]
        exact pr_code _ _ _ _
    · rw [drAp_size ha hl]
      exact .inr ⟨by show (101 : Int) ≤ 116; decide, by show (116 : Int) ≤ 119; decide⟩
  · rw [drAp_ask ha]
    show codeOk (d.askO pg b)
    unfold DrS.askO
    split
    · split
      · exact .inr ⟨by decide, by decide⟩
      · exact .inl rfl
    · exact askB_code d b
theorem drEr_code (pg : Int) (d : DrS) (s : ChS) (b : Int) : codeOk (drEr pg d s b).1 := by
  unfold drEr
  split
  · exact askB_code d b
  · exact er_code _ _
theorem drRd_sh (d : DrS) (s : ChS) (b p v : Int) : s.As (drRd d s b p v).2.2.2 := by
  unfold drRd
  split
  · exact ChS.As.refl s
  · exact (rd_as _ _ _ _).1
theorem drAp_sh (pg sz : Int) (d : DrS) (s : ChS) (b : Int) (l : List Nat) : s.As (drAp pg sz d s b l).2.2.2 := by
  by_cases ha : d.askO pg b = 0
  · by_cases hl : (l.length : Int) = sz
    · by_cases hz : (s.pr b (d.nx b) l).1 = 0
      · rw [drAp_ok ha hl hz]; exact pr_as _ _ _ _
      · rw [drAp_err ha hl hz]; exact pr_as _ _ _ _
    · rw [drAp_size ha hl]; exact ChS.As.refl s
  · rw [drAp_ask ha]; exact ChS.As.refl s
theorem drEr_sh (pg : Int) (d : DrS) (s : ChS) (b : Int) : s.As (drEr pg d s b).2.2 := by
  unfold drEr
  split
  · exact ChS.As.refl s
  · exact er_as _ _
section
variable {gc gx : Nat} {B : Option Addr} {pc : Nat} {pl : List FtG} {z z' : D4G}
theorem D4I.vb (h : D4I gc gx B pc pl z) : z.v.blocks.length = 4 := by
  have h1 := congrArg (fun s => s.blocks.length) h.e
  have h2 : (z.v.blocks.map DbG.abs).length = z.y.abs.blocks.length := h1
  rw [List.length_map] at h2
  exact h2.trans h.b
theorem D4I.at2' (h : D4I gc gx B pc pl z) : z.u.At gx z.v.blocks.length := by rw [h.vb]; exact h.at2
theorem D4I.vok (h : D4I gc gx B pc pl z) : z.v.abs.Ok := by rw [h.e]; exact h.ok
theorem D4I.step (h : D4I gc gx B pc pl z) (ha : z'.x.At gc 3 4) (hw : z'.y.watch = .nilFunc) (hok : z'.y.abs.Ok) (he : z'.v.abs = z'.y.abs) (hs : z.y.abs.As z'.y.abs) (hn : z.x.abs.As z'.x.abs) (hr : Rel z'.x.abs z'.u.abs) (h2 : z'.u.At gx 4) (hv : z.v.Same z'.v) : D4I gc gx B pc pl z' :=
  ⟨ha, hw, hok, he, hs.p.trans h.p, hs.z.trans h.s, hs.b.trans h.b, hn.n.trans h.n, hr, h2, hv.a.trans h.a, hv.c.trans h.c, hv.l.trans h.l⟩
end

set_option maxHeartbeats 3200000 in

theorem walk_DrivePlays (A0 : Option Addr) (n0 c0 : Nat) (ms : List Int) (A1 : Option Addr) (c1 : Nat) (pl : List FtG) (A2 : Option Addr) (c2 : Nat) (l : List DldG) (a3 : Int) (e : Nat → Addr) (w : World) (hm : Has (sl 1 A0 n0 (ints .i64 ms)) w) (_hn0 : n0 ≤ 9223372036854775807) (hp : PlRaw A1 pl w) (hl : DellIn A2 l w) (he : Has (ersA e apiErrs) w) : Spec1 Tryd.prog 11 [.slice A0 n0 c0, .slice A1 pl.length c1, .slice A2 l.length c2, .int .i64 a3] w (.bool true) := by
  have hml := ints_len hm
  subst hml
  have heD : Er e w 0 := he.ers (by decide)
  have heO : Er e w 1 := he.ers (by decide)
  have heS : Er e w 2 := he.ers (by decide)
  have heF : Er e w 5 := he.ers (by decide)
  have heM : Er e w 6 := he.ers (by decide)
  have heB : Er e w 7 := he.ers (by decide)
  refine spec_of Tryd.func11 rfl Tryd.ntmps11 rfl ?_
  refine CW.seq ?_
  refine CW.reg [0] rfl ?_
  refine s_as 8 rfl rfl ?_
  refine SX.next ?_
  refine CW.seq ?_
  refine CW.reg [0, 1] rfl ?_
  refine s_call1 32 rfl rfl rfl rfl (fun w hw => first15_spec e w (hw.er heD) (hw.er heO) (hw.er heS) (hw.er heF) (hw.er heM) (hw.er heB)) (fun _ _ => trivial) ?_
  refine s_as 9 rfl rfl ?_
  refine SX.next ?_
  refine CW.seq ?_
  refine CW.seq ?_
  refine CW.reg [0, 1, 2, 3, 4, 5, 6, 7, 8] rfl ?_
  refine s_mv 33 rfl rfl ?_
  refine s_mv 34 rfl rfl ?_
  refine s_mv 35 rfl rfl ?_
  refine s_call1 36 rfl rfl rfl rfl (fun w hw => light15_spec A2 c2 l A1 c1 pl A0 ms.length c0 w ⟨hw.old hl.rows, fun d hd => (hl.each d hd).turn hw.fr⟩ (hp.turn hw.fr)) (fun _ _ => trivial) ?_
  refine s_not 37 rfl rfl ?_
  refine s_mv 38 rfl rfl ?_
  refine SX.bool 38 rfl (fun hb => ?_) (fun hb => ?_)
  · skip
    skip
    refine SX.skip rfl ?_
    refine SX.skip rfl ?_
    refine s_pickT 41 rfl rfl rfl ?_
    refine SX.next ?_
    refine CW.condT rfl ?_
    refine CW.seq ?_
    refine CW.reg [0, 1] rfl ?_
    refine s_mv 42 rfl rfl ?_
    refine s_as 8 rfl rfl ?_
    refine SX.next ?_
    refine CW.ret ?_
    exact KN.ret (rs := [.tmp 8]) Tryd.results11 rfl (fun w hw => ⟨rfl, hw.nothing⟩)
  · skip
    have hlt : light15B l pl ms.length = true := by simpa using hb
    obtain ⟨hl60, hpl60, hms8, hl100, hpb⟩ := light15_in hlt
    have hpl := hp.pl hpb
    have hno := N15_ok (ms := ms) (pl := pl.map FtG.abs) (by rw [List.length_map]; omega) (fun f hf => by
      obtain ⟨f2, h2, rfl⟩ := List.mem_map.1 hf
      exact hpl.lens f2 h2)
    have hsl : (someL ms).length ≤ 8 := by unfold someL; rw [List.length_map]; exact hms8
    refine s_mv 39 rfl rfl ?_
    refine s_not 40 rfl rfl ?_
    refine s_pickF 41 rfl rfl rfl ?_
    refine SX.next ?_
    refine CW.condF rfl ?_
    refine CW.skip ?_
    refine KN.code ?_
    refine CW.seq ?_
    refine CW.reg [0, 1, 2, 3, 4, 5, 6, 7, 8] rfl ?_
    refine s_mv 44 rfl rfl ?_
    refine s_call 45 rfl rfl rfl rfl (fun w hw => some_spec A0 c0 ms w (hw.old hm) hms8) (fun _ _ => trivial) (fun zs hzs => ?_)
    refine s_mv 46 rfl rfl ?_
    refine s_call 47 rfl rfl rfl rfl (X := Nat × ChG) (v := fun z => two (.pointer (some ⟨z.1, 0, none⟩)) .nilIface) (pf := fun z => z.2.abs = (N15 (someL ms) (pl.map FtG.abs)) ∧ z.2.watch = .nilFunc) (L' := fun z => [chipA z.1 z.2]) (fun w hw => cnew_ok 4 3 4 2 zs.1 zs.2 (someL ms) A1 c1 pl e w (by decide) (by decide) (by decide) (by decide) ((hw.has (i := 0) rfl).of_own) (by omega) (some_in ms) (hw.er heM) (hpl.turn hw.fr) (by omega)) (fun _ _ => trivial) (fun z hz => ?_)
    obtain ⟨gc, y0⟩ := z
    obtain ⟨hy0, hyw0⟩ := hz
    simp only at hy0 hyw0
    refine s_mv 43 rfl rfl ?_
    refine s_ext 48 rfl rfl rfl ?_
    refine s_ext 49 rfl rfl rfl ?_
    refine s_as 10 rfl rfl ?_
    refine s_as 11 rfl rfl ?_
    refine SX.next ?_
    refine CW.seq ?_
    refine CW.seq ?_
    refine CW.reg [0, 1, 2, 3, 4, 5] rfl ?_
    refine s_mv 50 rfl rfl ?_
    refine s_eqPN 51 rfl rfl ?_
    refine s_mv 52 rfl rfl ?_
    refine s_mv 53 rfl rfl ?_
    refine s_neNN 54 rfl rfl ?_
    refine s_pickF 55 rfl rfl rfl ?_
    refine SX.next ?_
    refine CW.condF rfl ?_
    refine CW.skip ?_
    refine KN.code ?_
    refine CW.seq ?_
    refine CW.reg [0, 1, 2, 3, 4] rfl ?_
    refine s_mv 56 rfl rfl ?_
    refine s_call 57 rfl rfl rfl rfl (fun w hw => some_spec A0 c0 ms w (hw.old hm) hms8) (fun _ _ => trivial) (fun zt hzt => ?_)
    refine s_mv 58 rfl rfl ?_
    refine s_call 59 rfl rfl rfl rfl (X := Nat × DcG) (v := fun z => .pointer (some ⟨z.1, 0, none⟩)) (pf := fun z => z.2.abs = (N15 (someL ms) (pl.map FtG.abs)) ∧ z.2.pA = A1 ∧ z.2.pc = c1 ∧ z.2.plan = pl) (L' := fun z => [docA z.1 z.2]) (fun w hw => dnew_spec 4 3 4 2 zt.1 zt.2 (someL ms) A1 c1 pl w (by decide) (by decide) (by decide) (by decide) ((hw.has (i := 0) rfl).of_own) (by omega) (some_in ms)) (fun _ _ => trivial) (fun z hz => ?_)
    obtain ⟨gx, v0⟩ := z
    obtain ⟨hv0, hva0, hvc0, hvl0⟩ := hz
    simp only at hv0 hva0 hvc0 hvl0
    refine s_as 12 rfl rfl ?_
    refine SX.next ?_
    refine CW.seq ?_
    refine CW.reg [0, 1, 2] rfl ?_
    refine s_mv 60 rfl rfl ?_
    refine s_call 61 rfl rfl rfl rfl (X := Nat × DrG) (v := fun z => .pointer (some ⟨z.1, 0, none⟩)) (pf := fun z => z.2.abs = drNew0 (N15 (someL ms) (pl.map FtG.abs)) ∧ z.2.At gc 3 4) (L' := fun z => [driveA z.1 z.2]) (fun w hw => by have := drNew_spec gc y0 (by rw [hy0]; exact hno) w (hw.has (i := 2) rfl); rw [hy0, show y0.pages = 3 from congrArg ChS.pages hy0, show y0.size = 4 from congrArg ChS.size hy0] at this; exact this) (fun _ _ => trivial) (fun z hz => ?_)
    obtain ⟨gd, x0⟩ := z
    obtain ⟨hx0, hxa0⟩ := hz
    simp only at hx0 hxa0
    refine s_as 13 rfl rfl ?_
    refine SX.next ?_
    refine CW.seq ?_
    refine CW.reg [0, 1, 2] rfl ?_
    refine s_mv 62 rfl rfl ?_
    refine s_call 63 rfl rfl rfl rfl (X := Nat × DdG) (v := fun z => .pointer (some ⟨z.1, 0, none⟩)) (pf := fun z => z.2.abs = drNew0 (N15 (someL ms) (pl.map FtG.abs)) ∧ z.2.At gx v0.blocks.length) (L' := fun z => [docDA z.1 z.2]) (fun w hw => by have := ddNew_spec gx v0 (by rw [hv0]; exact hno) w (hw.has (i := 1) rfl); rw [hv0] at this; exact this) (fun _ _ => trivial) (fun z hz => ?_)
    obtain ⟨gy, u0⟩ := z
    obtain ⟨hu0, hua0⟩ := hz
    simp only at hu0 hua0
    refine s_as 14 rfl rfl ?_
    refine SX.next ?_
    refine CW.seq ?_
    refine CW.seq ?_
    refine CW.reg [0, 1] rfl ?_
    refine s_mv 64 rfl rfl ?_
    refine s_eqPN 65 rfl rfl ?_
    refine SX.next ?_
    refine CW.condF rfl ?_
    refine CW.skip ?_
    refine KN.code ?_
    refine CW.seq ?_
    refine CW.seq ?_
    have hvb0 : v0.blocks.length = 4 := by
      have h1 := congrArg (fun s => s.blocks.length) hv0
      have h2 : (v0.blocks.map DbG.abs).length = (N15 (someL ms) (pl.map FtG.abs)).blocks.length := h1
      rw [List.length_map, N15_len] at h2
      exact h2
    have hI0 : D4I gc gx A1 c1 pl ⟨x0, y0, u0, v0⟩ := ⟨hxa0, hyw0, by simp only; rw [hy0]; exact hno, by simp only; rw [hv0, hy0], by simp only; rw [hy0]; rfl, by simp only; rw [hy0]; rfl, by simp only; rw [hy0]; exact N15_len _ _, by simp only; rw [hx0]; unfold drNew0; rw [List.length_replicate, N15_len], by simp only; rw [hx0, hu0]; exact rel_new, by simp only; rw [← hvb0]; exact hua0, hva0, hvc0, hvl0⟩
    refine CW.reg [0] rfl ?_
    refine s_as 15 rfl rfl ?_
    refine SX.next ?_
    refine CW.block ?_
    refine CW.loop (G := Nat × D4G) (fun q => [(2, .slice A2 l.length c2), (3, .int .i64 a3), (10, .pointer (some ⟨gc, 0, none⟩)), (12, .pointer (some ⟨gx, 0, none⟩)), (13, .pointer (some ⟨gd, 0, none⟩)), (14, .pointer (some ⟨gy, 0, none⟩)), (15, .int .i64 (q.1 : Nat))]) (fun q => Sto w [driveA gd q.2.x, chipA gc q.2.y, docDA gy q.2.u, docA gx q.2.v]) (fun q => q.1 ≤ l.length ∧ D4I gc gx A1 c1 pl q.2) (fun q => l.length - q.1) (0, ⟨x0, y0, u0, v0⟩) ⟨rfl, rfl, rfl, rfl, rfl, rfl, rfl, trivial⟩ (fun _ h => h.pick [1, 3, 0, 0] rfl) ⟨Nat.zero_le _, hI0⟩ ?_
    rintro ⟨i, ⟨x, y, u, v⟩⟩ ⟨hi, hI⟩
    simp only at hi hI
    dsimp only
    refine CW.seq ?_
    refine CW.seq ?_
    refine CW.reg [0, 1, 2, 3] rfl ?_
    refine s_mv 66 rfl rfl ?_
    refine s_mv 67 rfl rfl ?_
    refine s_len 68 rfl rfl ?_
    refine s_lt 69 rfl rfl rfl rfl ?_
    refine SX.next ?_
    refine CW.test rfl (fun hc => ?_) (fun hc => ?_)
    · skip
      have hil : i < l.length := by omega
      obtain ⟨d, hdd⟩ : ∃ d, d = gD l i := ⟨_, rfl⟩
      have hg := gD_at hil
      have hmm := gD_mem hil
      rw [← hdd] at hg hmm
      have h8 := (hl.each _ hmm).lt
      have hB := (hl.each _ hmm).bytes
      have hd100 := hl100 d hmm
      have hvp : v.pages = 3 := (congrArg ChS.pages hI.e).trans hI.p
      have hvs : v.size = 4 := (congrArg ChS.size hI.e).trans hI.s
      have hPl : ∀ w2, Fr (Old w) w w2 → PlIn v.pA v.plan w2 := fun w2 hf => by rw [show v.pA = A1 from hI.a, show v.plan = pl from hI.l]; exact hpl.turn hf
      refine CW.skip ?_
      refine KN.code ?_
      refine CW.seq ?_
      refine CW.block ?_
      refine CW.seq ?_
      refine CW.reg [0, 1, 2, 3, 4, 5] rfl ?_
      refine s_mv 72 rfl rfl ?_
      refine s_mv 73 rfl rfl ?_
      refine s_iaV 74 i (fun w hw => hw.old hl.rows) rfl rfl rfl rfl hil ?_
      refine s_ldR 75 (cs := d.row) rfl rfl rfl (fun w hw => (hw.old hl.rows).rowAt dlRow_len hg (by omega)) ?_
      refine s_alloc 16 rfl (fun _ _ => trivial) (fun b16 => ?_)
      refine s_stAll 0 rfl rfl (by kernel_rfl) rfl rfl rfl rfl (fun _ _ => trivial) ?_
      refine SX.next ?_
      refine CW.seq ?_
      refine CW.reg [0, 1, 2, 3] rfl ?_
      refine s_fa 76 rfl rfl ?_
      refine s_fa 77 rfl rfl ?_
      refine s_ld 78 rfl rfl (v := .int .i64 d.b) (fun _ hw => hw.blkCell (i := 0) (j := 1) rfl rfl) ?_
      refine s_as 17 rfl rfl ?_
      refine SX.next ?_
      refine CW.cut (G := D4G) (fun _ => [(2, .slice A2 l.length c2), (3, .int .i64 a3), (10, .pointer (some ⟨gc, 0, none⟩)), (12, .pointer (some ⟨gx, 0, none⟩)), (13, .pointer (some ⟨gd, 0, none⟩)), (14, .pointer (some ⟨gy, 0, none⟩)), (15, .int .i64 (i : Nat))]) (fun z => Sto w [driveA gd z.x, chipA gc z.y, docDA gy z.u, docA gx z.v]) (fun z => D4I gc gx A1 c1 pl z) ?_ ?_
      · skip
        refine CW.seq ?_
        refine CW.reg [0, 1] rfl ?_
        refine s_fa 79 rfl rfl ?_
        refine s_ld 80 rfl rfl (v := .int .i64 d.kind) (fun _ hw => hw.blkCell (i := 0) (j := 0) rfl rfl) ?_
        refine SX.next ?_
        refine CW.block ?_
        refine CW.seq ?_
        refine CW.reg [0, 1] rfl ?_
        refine s_eq 94 rfl rfl rfl rfl ?_
        refine s_as 93 rfl rfl ?_
        refine SX.next ?_
        refine CW.test rfl (fun hc => ?_) (fun hc => ?_)
        · skip
          have h1 : d.kind = 1 := hc
          refine CW.seq ?_
          refine CW.reg [0, 1, 2, 3, 4, 5, 6, 7, 8, 9, 10] rfl ?_
          refine s_mv 96 rfl rfl ?_
          refine s_fa 97 rfl rfl ?_
          obtain ⟨q1, q2, q3, q4⟩ := hI.rel.rd (s := y.abs) d.b d.p d.level
          obtain ⟨hrl, hr8⟩ := drRd_bytes (d := x.abs) hI.ok d.b d.p d.level
          have hrc := drRd_code x.abs y.abs d.b d.p d.level
          refine s_ldR 98 (cs := [.int .i64 d.b, .int .i64 d.p]) rfl rfl rfl (fun w hw => hw.blkPart (i := 0) (o := 1) rfl (two_at rfl rfl)) ?_
          refine s_fa 99 rfl rfl ?_
          refine s_ld 100 rfl rfl (v := .int .i64 d.level) (fun _ hw => hw.blkCell (i := 0) (j := 3) rfl rfl) ?_
          refine s_callP 101 [1, 1, 0, 0, 0] (M := [driveA gd x, chipA gc y]) (R := [blk b16 93 d.row.toArray, docDA gy u, docA gx v]) (X := (Option Addr × Nat) × DrG × ChG) (v := fun z => two (.slice z.1.1 (drRd x.abs y.abs d.b d.p d.level).2.1.length z.1.2) (evE e (drRd x.abs y.abs d.b d.p d.level).1)) (pf := fun z => z.2.1.abs = (drRd x.abs y.abs d.b d.p d.level).2.2.1 ∧ z.2.1.At gc 3 4 ∧ z.2.2.abs = (drRd x.abs y.abs d.b d.p d.level).2.2.2 ∧ z.2.2.watch = .nilFunc) (M' := fun z => [own 5 1 z.1.1 (drRd x.abs y.abs d.b d.p d.level).2.1.length z.1.2 (nats .u8 (drRd x.abs y.abs d.b d.p d.level).2.1), driveA gd z.2.1, chipA gc z.2.2]) rfl rfl rfl rfl rfl (fun F' w' hR hM => by have := drRead hI.at_ hI.ok hI.wt d.b d.p d.level e w' (fun w2 hf => (hR w2 hf).er heD) (fun w2 hf => (hR w2 hf).er heO) (fun w2 hf => (hR w2 hf).er heS) (fun w2 hf => (hR w2 hf).er heB) hM;  exact this) (fun _ _ _ => trivial) (fun z1 hz1 => ?_)
          refine s_mv 95 rfl rfl ?_
          refine s_ext 102 rfl rfl rfl ?_
          refine s_ext 103 rfl rfl rfl ?_
          refine s_as 18 rfl rfl ?_
          refine s_as 19 rfl rfl ?_
          refine SX.next ?_
          refine CW.seq ?_
          refine CW.reg [0, 1, 2, 3, 4, 5, 6, 7, 8, 9, 10] rfl ?_
          refine s_mv 105 rfl rfl ?_
          refine s_fa 106 rfl rfl ?_
          refine s_ldR 107 (cs := [.int .i64 d.b, .int .i64 d.p]) rfl rfl rfl (fun w hw => hw.blkPart (i := 3) (o := 1) rfl (two_at rfl rfl)) ?_
          refine s_fa 108 rfl rfl ?_
          refine s_ld 109 rfl rfl (v := .int .i64 d.level) (fun _ hw => hw.blkCell (i := 3) (j := 3) rfl rfl) ?_
          refine s_callP 110 [4, 4, 0, 0, 0, 0] (M := [docDA gy u, docA gx v]) (R := [own 5 1 z1.1.1 (drRd x.abs y.abs d.b d.p d.level).2.1.length z1.1.2 (nats .u8 (drRd x.abs y.abs d.b d.p d.level).2.1), driveA gd z1.2.1, chipA gc z1.2.2, blk b16 93 d.row.toArray]) (X := (Option Addr × Nat) × DdG × DcG) (v := fun z => two (.slice z.1.1 (drRd x.abs y.abs d.b d.p d.level).2.1.length z.1.2) (.int .i64 (drRd x.abs y.abs d.b d.p d.level).1)) (pf := fun z => z.2.1.abs = (drRd u.abs y.abs d.b d.p d.level).2.2.1 ∧ z.2.1.At gx v.blocks.length ∧ z.2.2.abs = (drRd x.abs y.abs d.b d.p d.level).2.2.2 ∧ v.Same z.2.2) (M' := fun z => [own 5 1 z.1.1 (drRd x.abs y.abs d.b d.p d.level).2.1.length z.1.2 (nats .u8 (drRd x.abs y.abs d.b d.p d.level).2.1), docDA gy z.2.1, docA gx z.2.2]) rfl rfl rfl rfl rfl (fun F' w' hR hM => by have := ddRead_spec hI.at2' hI.vok d.b d.p d.level w' (fun w2 hf => hPl _ (hR w2 hf).fr) hM; rw [show v.abs = y.abs from hI.e, q1, q2, q4] at this; exact this) (fun _ _ _ => trivial) (fun z2 hz2 => ?_)
          refine s_mv 104 rfl rfl ?_
          refine s_ext 111 rfl rfl rfl ?_
          refine s_ext 112 rfl rfl rfl ?_
          refine s_as 20 rfl rfl ?_
          refine s_as 21 rfl rfl ?_
          refine SX.next ?_
          refine CW.seq ?_
          refine CW.reg [0, 1, 2, 3, 4, 5, 6, 7, 8, 9] rfl ?_
          refine s_mv 113 rfl rfl ?_
          refine s_mv 114 rfl rfl ?_
          refine s_call1 115 rfl rfl rfl rfl (v := .bool true) (fun w hw => by have := sameBytes_spec z1.1.1 (drRd x.abs y.abs d.b d.p d.level).2.1.length z1.1.2 (drRd x.abs y.abs d.b d.p d.level).2.1 z2.1.1 (drRd x.abs y.abs d.b d.p d.level).2.1.length z2.1.2 (drRd x.abs y.abs d.b d.p d.level).2.1 w ((hw.has (i := 3) rfl).of_own) hr8 ((hw.has (i := 0) rfl).of_own) hr8; rw [decide_eq_true rfl] at this; exact this) (fun _ _ => trivial) ?_
          refine s_not 116 rfl rfl ?_
          refine s_mv 117 rfl rfl ?_
          refine s_mv 118 rfl rfl ?_
          refine s_mv 119 rfl rfl ?_
          refine s_call1 120 rfl rfl rfl rfl (v := .bool true) (fun w hw => by have := is_ev (c := (drRd x.abs y.abs d.b d.p d.level).1) (drRd x.abs y.abs d.b d.p d.level).1 hrc e w (hw.old he); rw [decide_eq_true rfl] at this; exact this) (fun _ _ => trivial) ?_
          refine s_not 121 rfl rfl ?_
          refine s_pickF 122 rfl rfl rfl ?_
          refine SX.next ?_
          refine CW.condF rfl ?_
          refine CW.skip ?_
          refine KN.blk ?_
          exact KN.join (⟨z1.2.1, z1.2.2, z2.2.1, z2.2.2⟩ : D4G) ⟨rfl, rfl, rfl, rfl, rfl, rfl, rfl, trivial⟩ (fun _ h => h.pick [4, 4, 1, 1] rfl) (hI.step hz1.2.1 hz1.2.2.2 (by simp only; rw [hz1.2.2.1]; exact drRd_ok' hI.ok _ _ _) (by simp only; rw [hz2.2.2.1, hz1.2.2.1]) (by simp only; rw [hz1.2.2.1]; exact drRd_sh _ _ _ _ _) (by simp only; rw [hz1.1]; exact drRd_as _ _ _ _ _) (by simp only; rw [hz1.1, hz2.1]; exact q3) (by have := hz2.2.1; rw [hI.vb] at this; exact this) hz2.2.2.2)
        · skip
          have h1 : ¬ d.kind = 1 := hc
          refine CW.seq ?_
          refine CW.reg [0, 1] rfl ?_
          refine s_eq 124 rfl rfl rfl rfl ?_
          refine s_as 123 rfl rfl ?_
          refine SX.next ?_
          refine CW.test rfl (fun hc => ?_) (fun hc => ?_)
          · skip
            have h2 : d.kind = 2 := hc
            refine CW.seq ?_
            refine CW.reg [0, 1, 2, 3, 4, 5, 6, 7, 8, 9] rfl ?_
            refine s_mv 126 rfl rfl ?_
            refine s_mv 127 rfl rfl ?_
            refine s_fa 128 rfl rfl ?_
            obtain ⟨q1, q2, q3, q4⟩ := hI.rel.ap (s := y.abs) 3 4 d.b d.l
            have hrc := drAp_code 3 4 x.abs y.abs d.b d.l
            refine s_ld 129 rfl rfl (v := .slice d.A d.l.length d.c) (fun _ hw => hw.blkCell (i := 0) (j := 4) rfl rfl) ?_
            refine s_callP 130 [1, 1, 0, 0, 0] (M := [driveA gd x, chipA gc y]) (R := [blk b16 93 d.row.toArray, docDA gy u, docA gx v]) (X := DrG × ChG) (v := fun z => two (.int .i64 (drAp 3 4 x.abs y.abs d.b d.l).1) (evE e (drAp 3 4 x.abs y.abs d.b d.l).2.1)) (pf := fun z => z.1.abs = (drAp 3 4 x.abs y.abs d.b d.l).2.2.1 ∧ z.1.At gc 3 4 ∧ z.2.abs = (drAp 3 4 x.abs y.abs d.b d.l).2.2.2 ∧ z.2.watch = .nilFunc) (M' := fun z => [driveA gd z.1, chipA gc z.2]) rfl rfl rfl rfl rfl (fun F' w' hR hM => by have := drAppend hI.at_ hI.ok hI.wt d.b d.A d.c d.l e w' (fun w2 hf => (hR w2 hf).er heD) (fun w2 hf => (hR w2 hf).er heO) (fun w2 hf => (hR w2 hf).er heS) (fun w2 hf => (hR w2 hf).er heF) (fun w2 hf => (hR w2 hf).er heB) (fun w2 hf => (hR w2 hf).old hB) h8 hM;  exact this) (fun _ _ _ => trivial) (fun z1 hz1 => ?_)
            refine s_mv 125 rfl rfl ?_
            refine s_ext 131 rfl rfl rfl ?_
            refine s_ext 132 rfl rfl rfl ?_
            refine s_as 22 rfl rfl ?_
            refine s_as 23 rfl rfl ?_
            refine SX.next ?_
            refine CW.seq ?_
            refine CW.reg [0, 1, 2, 3, 4, 5, 6, 7, 8, 9] rfl ?_
            refine s_mv 134 rfl rfl ?_
            refine s_mv 135 rfl rfl ?_
            refine s_fa 136 rfl rfl ?_
            refine s_ld 137 rfl rfl (v := .slice d.A d.l.length d.c) (fun _ hw => hw.blkCell (i := 2) (j := 4) rfl rfl) ?_
            refine s_callP 138 [3, 3, 0, 0, 0] (M := [docDA gy u, docA gx v]) (R := [driveA gd z1.1, chipA gc z1.2, blk b16 93 d.row.toArray]) (X := DdG × DcG) (v := fun z => two (.int .i64 (drAp 3 4 x.abs y.abs d.b d.l).1) (.int .i64 (drAp 3 4 x.abs y.abs d.b d.l).2.1)) (pf := fun z => z.1.abs = (drAp 3 4 u.abs y.abs d.b d.l).2.2.1 ∧ z.1.At gx v.blocks.length ∧ z.2.abs = (drAp 3 4 x.abs y.abs d.b d.l).2.2.2 ∧ v.Same z.2) (M' := fun z => [docDA gy z.1, docA gx z.2]) rfl rfl rfl rfl rfl (fun F' w' hR hM => by have := ddAppend_spec hI.at2' hI.vok d.b d.A d.c d.l w' (fun w2 hf => hPl _ (hR w2 hf).fr) (fun w2 hf => (hR w2 hf).old hB) h8 hM; rw [hvp, hvs, show v.abs = y.abs from hI.e, q1, q2, q4] at this; exact this) (fun _ _ _ => trivial) (fun z2 hz2 => ?_)
            refine s_mv 133 rfl rfl ?_
            refine s_ext 139 rfl rfl rfl ?_
            refine s_ext 140 rfl rfl rfl ?_
            refine s_as 24 rfl rfl ?_
            refine s_as 25 rfl rfl ?_
            refine SX.next ?_
            refine CW.seq ?_
            refine CW.reg [0, 1, 2, 3, 4, 5, 6, 7, 8] rfl ?_
            refine s_mv 141 rfl rfl ?_
            refine s_mv 142 rfl rfl ?_
            refine s_ne 143 rfl rfl rfl (decide_eq_false (fun h => h rfl)) ?_
            refine s_mv 144 rfl rfl ?_
            refine s_mv 145 rfl rfl ?_
            refine s_mv 146 rfl rfl ?_
            refine s_call1 147 rfl rfl rfl rfl (v := .bool true) (fun w hw => by have := is_ev (c := (drAp 3 4 x.abs y.abs d.b d.l).2.1) (drAp 3 4 x.abs y.abs d.b d.l).2.1 hrc e w (hw.old he); rw [decide_eq_true rfl] at this; exact this) (fun _ _ => trivial) ?_
            refine s_not 148 rfl rfl ?_
            refine s_pickF 149 rfl rfl rfl ?_
            refine SX.next ?_
            refine CW.condF rfl ?_
            refine CW.skip ?_
            refine KN.blk ?_
            exact KN.join (⟨z1.1, z1.2, z2.1, z2.2⟩ : D4G) ⟨rfl, rfl, rfl, rfl, rfl, rfl, rfl, trivial⟩ (fun _ h => h.pick [2, 2, 0, 0] rfl) (hI.step hz1.2.1 hz1.2.2.2 (by simp only; rw [hz1.2.2.1]; exact drAp_ok' hI.ok _ h8) (by simp only; rw [hz2.2.2.1, hz1.2.2.1]) (by simp only; rw [hz1.2.2.1]; exact drAp_sh _ _ _ _ _ _) (by simp only; rw [hz1.1]; exact drAp_as _ _ _ _ _ _) (by simp only; rw [hz1.1, hz2.1]; exact q3) (by have := hz2.2.1; rw [hI.vb] at this; exact this) hz2.2.2.2)
          · skip
            have h2 : ¬ d.kind = 2 := hc
            refine CW.seq ?_
            refine CW.reg [0, 1] rfl ?_
            refine s_eq 151 rfl rfl rfl rfl ?_
            refine s_as 150 rfl rfl ?_
            refine SX.next ?_
            refine CW.test rfl (fun hc => ?_) (fun hc => ?_)
            · skip
              have h3 : d.kind = 3 := hc
              refine CW.seq ?_
              obtain ⟨q1, q3, q4⟩ := hI.rel.er (s := y.abs) 3 d.b
              have hrc := drEr_code 3 x.abs y.abs d.b
              refine CW.reg [0, 1, 2, 3, 4, 5, 6, 7] rfl ?_
              refine s_mv 152 rfl rfl ?_
              refine s_mv 153 rfl rfl ?_
              refine s_callP 154 [1, 1, 0, 0, 0] (M := [driveA gd x, chipA gc y]) (R := [blk b16 93 d.row.toArray, docDA gy u, docA gx v]) (X := DrG × ChG) (v := fun z => evE e (drEr 3 x.abs y.abs d.b).1) (pf := fun z => z.1.abs = (drEr 3 x.abs y.abs d.b).2.1 ∧ z.1.At gc 3 4 ∧ z.2.abs = (drEr 3 x.abs y.abs d.b).2.2 ∧ z.2.watch = .nilFunc) (M' := fun z => [driveA gd z.1, chipA gc z.2]) rfl rfl rfl rfl rfl (fun F' w' hR hM => by have := drErase hI.at_ hI.ok hI.wt d.b e w' (fun w2 hf => (hR w2 hf).er heD) (fun w2 hf => (hR w2 hf).er heO) (fun w2 hf => (hR w2 hf).er heS) (fun w2 hf => (hR w2 hf).er heF) (fun w2 hf => (hR w2 hf).er heB) hM;  exact this) (fun _ _ _ => trivial) (fun z1 hz1 => ?_)
              refine s_mv 155 rfl rfl ?_
              refine s_mv 156 rfl rfl ?_
              refine s_callP 157 [3, 3, 0, 0, 0] (M := [docDA gy u, docA gx v]) (R := [driveA gd z1.1, chipA gc z1.2, blk b16 93 d.row.toArray]) (X := DdG × DcG) (v := fun z => .int .i64 (drEr 3 x.abs y.abs d.b).1) (pf := fun z => z.1.abs = (drEr 3 u.abs y.abs d.b).2.1 ∧ z.1.At gx v.blocks.length ∧ z.2.abs = (drEr 3 x.abs y.abs d.b).2.2 ∧ v.Same z.2) (M' := fun z => [docDA gy z.1, docA gx z.2]) rfl rfl rfl rfl rfl (fun F' w' hR hM => by have := ddErase_spec hI.at2' hI.vok d.b w' (fun w2 hf => hPl _ (hR w2 hf).fr) hM; rw [hvp, show v.abs = y.abs from hI.e, q1, q4] at this; exact this) (fun _ _ _ => trivial) (fun z2 hz2 => ?_)
              refine s_call1 158 rfl rfl rfl rfl (v := .bool true) (fun w hw => by have := is_ev (c := (drEr 3 x.abs y.abs d.b).1) (drEr 3 x.abs y.abs d.b).1 hrc e w (hw.old he); rw [decide_eq_true rfl] at this; exact this) (fun _ _ => trivial) ?_
              refine s_not 159 rfl rfl ?_
              refine SX.next ?_
              refine CW.condF rfl ?_
              refine CW.skip ?_
              refine KN.blk ?_
              exact KN.join (⟨z1.1, z1.2, z2.1, z2.2⟩ : D4G) ⟨rfl, rfl, rfl, rfl, rfl, rfl, rfl, trivial⟩ (fun _ h => h.pick [2, 2, 0, 0] rfl) (hI.step hz1.2.1 hz1.2.2.2 (by simp only; rw [hz1.2.2.1]; exact drEr_ok' hI.ok _) (by simp only; rw [hz2.2.2.1, hz1.2.2.1]) (by simp only; rw [hz1.2.2.1]; exact drEr_sh _ _ _ _) (by simp only; rw [hz1.1]; exact drEr_as _ _ _ _) (by simp only; rw [hz1.1, hz2.1]; exact q3) (by have := hz2.2.1; rw [hI.vb] at this; exact this) hz2.2.2.2)
            · skip
              have h3 : ¬ d.kind = 3 := hc
              refine CW.seq ?_
              refine CW.reg [0, 1] rfl ?_
              refine s_eq 161 rfl rfl rfl rfl ?_
              refine s_as 160 rfl rfl ?_
              refine SX.next ?_
              refine CW.test rfl (fun hc => ?_) (fun hc => ?_)
              · skip
                have h4 : d.kind = 4 := hc
                refine CW.seq ?_
                refine CW.reg [0, 1, 2] rfl ?_
                refine s_mv 162 rfl rfl ?_
                refine s_mv 163 rfl rfl ?_
                refine s_callP 164 [1, 0, 0, 0, 0] (M := [driveA gd x]) (R := [blk b16 93 d.row.toArray, chipA gc y, docDA gy u, docA gx v]) (X := DrG) (v := fun z => oneOf []) (pf := fun z => z.abs = drCl 3 x.abs d.b ∧ z.At gc 3 4) (M' := fun z => [driveA gd z]) rfl rfl rfl rfl rfl (fun F' w' hR hM => by have := drClose hI.at_ d.b e w' (fun w2 hf => (hR w2 hf).er heO) hM;  exact this) (fun _ _ _ => trivial) (fun z1 hz1 => ?_)
                refine SX.next ?_
                refine CW.seq ?_
                refine CW.reg [0, 1, 2, 3, 4, 5] rfl ?_
                refine s_mv 165 rfl rfl ?_
                refine s_ge 166 rfl rfl rfl rfl ?_
                refine s_mv 167 rfl rfl ?_
                refine SX.bool 167 rfl (fun hb => ?_) (fun hb => ?_)
                · skip
                  have hb0 := of_decide_eq_true hb
                  refine s_mv 168 rfl rfl ?_
                  refine s_lt 169 rfl rfl rfl rfl ?_
                  refine s_pickT 170 rfl rfl rfl ?_
                  refine SX.next ?_
                  refine CW.test rfl (fun hb4 => ?_) (fun hb4 => ?_)
                  · skip
                    obtain ⟨ib, hib⟩ := Int.eq_ofNat_of_zero_le (show 0 ≤ d.b by omega)
                    have hibl : ib < x.abs.next.length := by rw [hI.n]; omega
                    have hiu : ib < u.next.length := by rw [hI.at2.n]; omega
                    have hiub : ib < u.bad.length := by rw [hI.at2.b]; omega
                    have hyesH : x.abs.has d.b = true := by
                      unfold DrS.has
                      rw [hI.n]
                      exact decide_eq_true (by omega)
                    refine CW.pre (fun _ h => (h.pick [3, 0, 0, 0, 0] rfl).ddO) ?_
                    refine CW.reg [0, 1, 2, 3, 4, 5, 6] rfl ?_
                    refine s_mv 171 rfl rfl ?_
                    refine s_nil 172 rfl rfl ?_
                    refine s_fa 173 rfl rfl ?_
                    refine s_ldB 174 0 rfl rfl rfl (v := .slice u.A u.next.length u.c) rfl ?_
                    refine s_mv 175 rfl rfl ?_
                    refine s_iaO 176 1 ib rfl rfl rfl rfl hib hiu ?_
                    refine s_stO 1 rfl rfl rfl rfl rfl hiu (fun _ _ => trivial) ?_
                    refine SX.end_ ?_
                    refine KN.blk ?_
                    exact KN.join (⟨z1, y, { u with next := u.next.set ib 3 }, v⟩ : D4G) ⟨rfl, rfl, rfl, rfl, rfl, rfl, rfl, trivial⟩ (fun _ h => (St.ddPut (x := u) ib _ h).pick [1, 2, 0, 1] rfl) (hI.step hz1.2 hI.wt hI.ok hI.e (ChS.As.refl _) (by simp only; rw [hz1.1]; exact drCl_as _ _ _) (by simp only; rw [hz1.1]; unfold drCl; rw [if_pos hyesH, hib]; exact hI.rel.cl3 hibl) ⟨hI.at2.cb, by simp only [List.length_set]; exact hI.at2.n, hI.at2.b⟩ (DcG.Same.refl _))
                  · skip
                    have hnoH : x.abs.has d.b = false := by
                      unfold DrS.has
                      rw [hI.n]
                      exact decide_eq_false (fun h => by omega)
                    refine CW.skip ?_
                    refine KN.blk ?_
                    exact KN.join (⟨z1, y, u, v⟩ : D4G) ⟨rfl, rfl, rfl, rfl, rfl, rfl, rfl, trivial⟩ (fun _ h => h.pick [0, 1, 1, 1] rfl) (hI.step hz1.2 hI.wt hI.ok hI.e (ChS.As.refl _) (by simp only; rw [hz1.1]; exact drCl_as _ _ _) (by simp only; rw [hz1.1]; unfold drCl; rw [if_neg (by rw [hnoH]; decide)]; exact hI.rel) hI.at2 (DcG.Same.refl _))
                · skip
                  have hb0 := of_decide_eq_false hb
                  have hnoH : x.abs.has d.b = false := by
                    unfold DrS.has
                    exact decide_eq_false (fun h => by omega)
                  refine SX.skip rfl ?_
                  refine SX.skip rfl ?_
                  refine s_pickF 170 rfl rfl rfl ?_
                  refine SX.next ?_
                  refine CW.condF rfl ?_
                  refine CW.skip ?_
                  refine KN.blk ?_
                  exact KN.join (⟨z1, y, u, v⟩ : D4G) ⟨rfl, rfl, rfl, rfl, rfl, rfl, rfl, trivial⟩ (fun _ h => h.pick [0, 1, 1, 1] rfl) (hI.step hz1.2 hI.wt hI.ok hI.e (ChS.As.refl _) (by simp only; rw [hz1.1]; exact drCl_as _ _ _) (by simp only; rw [hz1.1]; unfold drCl; rw [if_neg (by rw [hnoH]; decide)]; exact hI.rel) hI.at2 (DcG.Same.refl _))
              · skip
                have h4 : ¬ d.kind = 4 := hc
                refine CW.seq ?_
                refine CW.reg [0, 1] rfl ?_
                refine s_eq 178 rfl rfl rfl rfl ?_
                refine s_as 177 rfl rfl ?_
                refine SX.next ?_
                refine CW.test rfl (fun hc => ?_) (fun hc => ?_)
                · skip
                  have h5 : d.kind = 5 := hc
                  refine CW.seq ?_
                  refine CW.reg [0, 1, 2] rfl ?_
                  refine s_mv 179 rfl rfl ?_
                  refine s_mv 180 rfl rfl ?_
                  refine s_callP 181 [1, 0, 0, 0, 0] (M := [driveA gd x]) (R := [blk b16 93 d.row.toArray, chipA gc y, docDA gy u, docA gx v]) (X := DrG) (v := fun z => oneOf []) (pf := fun z => z.abs = drRe 3 x.abs d.b ∧ z.At gc 3 4) (M' := fun z => [driveA gd z]) rfl rfl rfl rfl rfl (fun F' w' hR hM => by have := drRetire hI.at_ d.b e w' (fun w2 hf => (hR w2 hf).er heO) hM;  exact this) (fun _ _ _ => trivial) (fun z1 hz1 => ?_)
                  refine SX.next ?_
                  refine CW.seq ?_
                  refine CW.reg [0, 1, 2, 3, 4, 5] rfl ?_
                  refine s_mv 182 rfl rfl ?_
                  refine s_ge 183 rfl rfl rfl rfl ?_
                  refine s_mv 184 rfl rfl ?_
                  refine SX.bool 184 rfl (fun hb => ?_) (fun hb => ?_)
                  · skip
                    have hb0 := of_decide_eq_true hb
                    refine s_mv 185 rfl rfl ?_
                    refine s_lt 186 rfl rfl rfl rfl ?_
                    refine s_pickT 187 rfl rfl rfl ?_
                    refine SX.next ?_
                    refine CW.test rfl (fun hb4 => ?_) (fun hb4 => ?_)
                    · skip
                      obtain ⟨ib, hib⟩ := Int.eq_ofNat_of_zero_le (show 0 ≤ d.b by omega)
                      have hibl : ib < x.abs.next.length := by rw [hI.n]; omega
                      have hiu : ib < u.next.length := by rw [hI.at2.n]; omega
                      have hiub : ib < u.bad.length := by rw [hI.at2.b]; omega
                      have hyesH : x.abs.has d.b = true := by
                        unfold DrS.has
                        rw [hI.n]
                        exact decide_eq_true (by omega)
                      refine CW.pre (fun _ h => (h.pick [3, 0, 0, 0, 0] rfl).ddO) ?_
                      refine CW.reg [0, 1, 2, 3, 4, 5, 6] rfl ?_
                      refine s_mv 188 rfl rfl ?_
                      refine s_nil 189 rfl rfl ?_
                      refine s_fa 190 rfl rfl ?_
                      refine s_ldB 191 0 rfl rfl rfl (v := .slice u.B u.bad.length u.cc) rfl ?_
                      refine s_mv 192 rfl rfl ?_
                      refine s_iaO 193 2 ib rfl rfl rfl rfl hib hiub ?_
                      refine s_stO 2 rfl rfl rfl rfl rfl hiub (fun _ _ => trivial) ?_
                      refine SX.end_ ?_
                      refine KN.blk ?_
                      exact KN.join (⟨z1, y, { u with bad := u.bad.set ib true }, v⟩ : D4G) ⟨rfl, rfl, rfl, rfl, rfl, rfl, rfl, trivial⟩ (fun _ h => (St.ddBad (x := u) ib _ h).pick [1, 2, 0, 1] rfl) (hI.step hz1.2 hI.wt hI.ok hI.e (ChS.As.refl _) (by simp only; rw [hz1.1]; exact drRe_as _ _ _) (by simp only; rw [hz1.1]; unfold drRe; rw [if_pos hyesH, hib]; exact hI.rel.re hibl) ⟨hI.at2.cb, hI.at2.n, by simp only [List.length_set]; exact hI.at2.b⟩ (DcG.Same.refl _))
                    · skip
                      have hnoH : x.abs.has d.b = false := by
                        unfold DrS.has
                        rw [hI.n]
                        exact decide_eq_false (fun h => by omega)
                      refine CW.skip ?_
                      refine KN.blk ?_
                      exact KN.join (⟨z1, y, u, v⟩ : D4G) ⟨rfl, rfl, rfl, rfl, rfl, rfl, rfl, trivial⟩ (fun _ h => h.pick [0, 1, 1, 1] rfl) (hI.step hz1.2 hI.wt hI.ok hI.e (ChS.As.refl _) (by simp only; rw [hz1.1]; exact drRe_as _ _ _) (by simp only; rw [hz1.1]; unfold drRe; rw [if_neg (by rw [hnoH]; decide)]; exact hI.rel) hI.at2 (DcG.Same.refl _))
                  · skip
                    have hb0 := of_decide_eq_false hb
                    have hnoH : x.abs.has d.b = false := by
                      unfold DrS.has
                      exact decide_eq_false (fun h => by omega)
                    refine SX.skip rfl ?_
                    refine SX.skip rfl ?_
                    refine s_pickF 187 rfl rfl rfl ?_
                    refine SX.next ?_
                    refine CW.condF rfl ?_
                    refine CW.skip ?_
                    refine KN.blk ?_
                    exact KN.join (⟨z1, y, u, v⟩ : D4G) ⟨rfl, rfl, rfl, rfl, rfl, rfl, rfl, trivial⟩ (fun _ h => h.pick [0, 1, 1, 1] rfl) (hI.step hz1.2 hI.wt hI.ok hI.e (ChS.As.refl _) (by simp only; rw [hz1.1]; exact drRe_as _ _ _) (by simp only; rw [hz1.1]; unfold drRe; rw [if_neg (by rw [hnoH]; decide)]; exact hI.rel) hI.at2 (DcG.Same.refl _))
                · skip
                  have h5 : ¬ d.kind = 5 := hc
                  refine CW.seq ?_
                  refine CW.reg [0, 1] rfl ?_
                  refine s_eq 195 rfl rfl rfl rfl ?_
                  refine s_as 194 rfl rfl ?_
                  refine SX.next ?_
                  refine CW.test rfl (fun hc => ?_) (fun hc => ?_)
                  · skip
                    have h6 : d.kind = 6 := hc
                    refine CW.seq ?_
                    refine CW.reg [0, 1, 2] rfl ?_
                    refine s_mv 196 rfl rfl ?_
                    refine s_mv 197 rfl rfl ?_
                    refine s_callP 198 [1, 1, 0, 0, 0] (M := [driveA gd x, chipA gc y]) (R := [blk b16 93 d.row.toArray, docDA gy u, docA gx v]) (X := DrG) (v := fun z => oneOf []) (pf := fun z => z.abs = drFr x.abs y.abs d.b ∧ z.At gc 3 4) (M' := fun z => [driveA gd z, chipA gc y]) rfl rfl rfl rfl rfl (fun F' w' hR hM => by have := drFresh hI.at_ hI.ok d.b e w' hI.p (by rw [hI.b]; exact hI.n.symm) (fun w2 hf => (hR w2 hf).er heO) (fun w2 hf => (hR w2 hf).er heB) hM;  exact this) (fun _ _ _ => trivial) (fun z1 hz1 => ?_)
                    refine SX.next ?_
                    refine CW.reg [0, 1, 2] rfl ?_
                    refine s_mv 199 rfl rfl ?_
                    refine s_mv 200 rfl rfl ?_
                    refine s_callP 201 [3, 3, 0, 0, 0] (M := [docDA gy u, docA gx v]) (R := [driveA gd z1, chipA gc y, blk b16 93 d.row.toArray]) (X := DdG) (v := fun z => oneOf []) (pf := fun z => z.abs = drFr u.abs y.abs d.b ∧ z.At gx v.blocks.length) (M' := fun z => [docDA gy z, docA gx v]) rfl rfl rfl rfl rfl (fun F' w' hR hM => by have := ddFresh_spec hI.at2' hI.vok d.b w' hM; rw [show v.abs = y.abs from hI.e] at this; exact this) (fun _ _ _ => trivial) (fun z2 hz2 => ?_)
                    refine SX.end_ ?_
                    refine KN.blk ?_
                    exact KN.join (⟨z1, y, z2, v⟩ : D4G) ⟨rfl, rfl, rfl, rfl, rfl, rfl, rfl, trivial⟩ (fun _ h => h.pick [2, 2, 0, 0] rfl) (hI.step hz1.2 hI.wt hI.ok hI.e (ChS.As.refl _) (by simp only; rw [hz1.1]; exact drFr_as _ _ _) (by simp only; rw [hz1.1, hz2.1]; exact hI.rel.fr d.b) (by have := hz2.2; rw [hI.vb] at this; exact this) (DcG.Same.refl _))
                  · skip
                    have h6 : ¬ d.kind = 6 := hc
                    refine CW.seq ?_
                    refine CW.reg [0, 1] rfl ?_
                    refine s_eq 203 rfl rfl rfl rfl ?_
                    refine s_as 202 rfl rfl ?_
                    refine SX.next ?_
                    refine CW.test rfl (fun hc => ?_) (fun hc => ?_)
                    · skip
                      have h7 : d.kind = 7 := hc
                      refine CW.seq ?_
                      refine CW.reg [0, 1] rfl ?_
                      refine s_mv 204 rfl rfl ?_
                      refine s_callP 205 [2, 0, 0, 0, 0] (M := [chipA gc y]) (R := [blk b16 93 d.row.toArray, driveA gd x, docDA gy u, docA gx v]) (X := Unit) (v := fun z => oneOf []) (pf := fun z => True) (M' := fun z => [chipA gc { y with off := false }]) rfl rfl rfl rfl rfl (fun F' w' hR hM => by have := power_spec F' gc y w' hM;  exact this) (fun _ _ _ => trivial) (fun _ _ => ?_)
                      refine SX.next ?_
                      refine CW.pre (fun _ h => (h.pick [4, 0, 0, 0, 0] rfl).docO) ?_
                      refine CW.reg [0, 1, 2, 3] rfl ?_
                      refine s_mv 206 rfl rfl ?_
                      refine s_nil 207 rfl rfl ?_
                      refine s_fa 208 rfl rfl ?_
                      refine s_stB 0 rfl rfl rfl rfl rfl (by show 9 < 11; decide) (fun _ _ => trivial) ?_
                      refine SX.end_ ?_
                      refine KN.blk ?_
                      exact KN.join (⟨x, { y with off := false }, u, { v with off := false }⟩ : D4G) ⟨rfl, rfl, rfl, rfl, rfl, rfl, rfl, trivial⟩ (fun _ h => (h.docC (x := { v with off := false })).pick [3, 1, 2, 0] rfl) (hI.step hI.at_ hI.wt (off_okp hI.ok _) (by show ({ v.abs with off := false } : ChS) = { y.abs with off := false }; rw [show v.abs = y.abs from hI.e]) ⟨rfl, rfl, rfl, rfl⟩ ⟨rfl, rfl⟩ hI.rel hI.at2 ⟨rfl, rfl, rfl⟩)
                    · skip
                      have h7 : ¬ d.kind = 7 := hc
                      refine CW.seq ?_
                      refine CW.reg [0, 1, 2, 3, 4, 5] rfl ?_
                      refine s_mv 81 rfl rfl ?_
                      refine s_fa 82 rfl rfl ?_
                      refine s_ldR 83 (cs := [.int .i64 d.b, .int .i64 d.p]) rfl rfl rfl (fun w hw => hw.blkPart (i := 0) (o := 1) rfl (two_at rfl rfl)) ?_
                      refine s_fa 84 rfl rfl ?_
                      refine s_ld 85 rfl rfl (v := .slice d.A d.l.length d.c) (fun _ hw => hw.blkCell (i := 0) (j := 4) rfl rfl) ?_
                      refine s_callP 86 [2, 0, 0, 0, 0] (M := [chipA gc y]) (R := [blk b16 93 d.row.toArray, driveA gd x, docDA gy u, docA gx v]) (X := ChG) (v := fun z => evE e (y.abs.pr d.b d.p d.l).1) (pf := fun z => z.abs = (y.abs.pr d.b d.p d.l).2 ∧ z.watch = y.watch) (M' := fun z => [chipA gc z]) rfl rfl rfl rfl rfl (fun F' w' hR hM => by have := program_spec F' gc y hI.ok d.b d.p d.A d.c d.l e w' (fun w2 hf => (hR w2 hf).er heD) (fun w2 hf => (hR w2 hf).er heO) (fun w2 hf => (hR w2 hf).er heS) (fun w2 hf => (hR w2 hf).er heF) (fun w2 hf => (hR w2 hf).old hB) h8 hM;  exact this) (fun _ _ _ => trivial) (fun z1 hz1 => ?_)
                      refine SX.next ?_
                      refine CW.reg [0, 1, 2, 3, 4, 5] rfl ?_
                      refine s_mv 87 rfl rfl ?_
                      refine s_fa 88 rfl rfl ?_
                      refine s_ldR 89 (cs := [.int .i64 d.b, .int .i64 d.p]) rfl rfl rfl (fun w hw => hw.blkPart (i := 1) (o := 1) rfl (two_at rfl rfl)) ?_
                      refine s_fa 90 rfl rfl ?_
                      refine s_ld 91 rfl rfl (v := .slice d.A d.l.length d.c) (fun _ hw => hw.blkCell (i := 1) (j := 4) rfl rfl) ?_
                      refine s_callP 92 [4, 0, 0, 0, 0] (M := [docA gx v]) (R := [chipA gc z1, blk b16 93 d.row.toArray, driveA gd x, docDA gy u]) (X := DcG) (v := fun z => .int .i64 (y.abs.pr d.b d.p d.l).1) (pf := fun z => z.abs = (y.abs.pr d.b d.p d.l).2 ∧ v.Same z) (M' := fun z => [docA gx z]) rfl rfl rfl rfl rfl (fun F' w' hR hM => by have := dprogram_spec F' gx v hI.vok d.b d.p d.A d.c d.l w' (fun w2 hf => hPl _ (hR w2 hf).fr) (fun w2 hf => (hR w2 hf).old hB) h8 (by omega) hM; rw [show v.abs = y.abs from hI.e] at this; exact this) (fun _ _ _ => trivial) (fun z2 hz2 => ?_)
                      refine SX.end_ ?_
                      refine KN.blk ?_
                      exact KN.join (⟨x, z1, u, z2⟩ : D4G) ⟨rfl, rfl, rfl, rfl, rfl, rfl, rfl, trivial⟩ (fun _ h => h.pick [3, 1, 2, 0] rfl) (hI.step hI.at_ (hz1.2.trans hI.wt) (by simp only; rw [hz1.1]; exact pr_okp hI.ok _ _ h8) (by simp only; rw [hz2.1, hz1.1]) (by simp only; rw [hz1.1]; exact pr_as _ _ _ _) ⟨rfl, rfl⟩ hI.rel hI.at2 hz2.2)
      · skip
        clear hI hvp hvs hPl
        rintro ⟨x, y, u, v⟩ hI
        dsimp only
        refine CW.seq ?_
        refine CW.reg [0, 1, 2, 3, 4, 5, 6, 7, 8] rfl ?_
        refine s_mv 210 rfl rfl ?_
        refine s_call1 211 rfl rfl rfl rfl (fun w hw => drCount_spec gd x w (hw.has (i := 0) rfl)) (fun _ _ => trivial) ?_
        refine s_mv 209 rfl rfl ?_
        refine s_ext 212 rfl rfl rfl ?_
        refine s_ext 213 rfl rfl rfl ?_
        refine s_ext 214 rfl rfl rfl ?_
        refine s_as 26 rfl rfl ?_
        refine s_as 27 rfl rfl ?_
        refine s_as 28 rfl rfl ?_
        refine SX.next ?_
        refine CW.seq ?_
        refine CW.reg [0] rfl ?_
        refine s_as 29 rfl rfl ?_
        refine SX.next ?_
        refine CW.cut (G := Unit) (fun _ => [(2, .slice A2 l.length c2), (3, .int .i64 a3), (10, .pointer (some ⟨gc, 0, none⟩)), (12, .pointer (some ⟨gx, 0, none⟩)), (13, .pointer (some ⟨gd, 0, none⟩)), (14, .pointer (some ⟨gy, 0, none⟩)), (15, .int .i64 (i : Nat)), (26, .int .i64 x.reads), (27, .int .i64 x.programs), (28, .int .i64 x.erases), (29, .int .i64 (drNx 3 x.abs a3))]) (fun _ => Sto w [driveA gd x, chipA gc y, docDA gy u, docA gx v]) (fun _ => True) ?_ ?_
        · skip
          refine CW.seq ?_
          refine CW.reg [0, 1, 2, 3] rfl ?_
          refine s_mv 215 rfl rfl ?_
          refine s_mv 216 rfl rfl ?_
          refine s_call1 217 rfl rfl rfl rfl (fun w hw => ddIs_spec hI.at2' a3 w (hw.has (i := 2) rfl) (hw.has (i := 3) rfl)) (fun _ _ => trivial) ?_
          refine s_not 218 rfl rfl ?_
          refine SX.next ?_
          refine CW.cond rfl (fun hq => ?_) (fun hq => ?_)
          · skip
            have hq0 : ¬ u.abs.askB a3 ≠ 0 := by
              intro hn
              rw [decide_eq_true hn] at hq
              cases hq
            have hnx := hI.rel.next a3
            rw [if_neg hq0] at hnx
            obtain ⟨hhas, _⟩ := askB_zero (Decidable.of_not_not hq0)
            obtain ⟨ia, hia, hial⟩ := dhas_at' hhas
            have hial2 : ia < u.next.length := hial
            refine CW.reg [0, 1, 2, 3, 4, 5, 6, 7] rfl ?_
            refine s_mv 219 rfl rfl ?_
            refine s_nil 220 rfl rfl ?_
            refine s_fa 221 rfl rfl ?_
            refine s_ld 222 rfl rfl (v := .slice u.A u.next.length u.c) (fun _ hw => dd_cell (hw.has (i := 2) rfl) rfl) ?_
            refine s_mv 223 rfl rfl ?_
            refine s_iaV 224 ia (fun w hw => dd_nx (hw.has (i := 2) rfl)) rfl rfl rfl hia hial2 ?_
            refine s_ldV 225 (fun w hw => dd_nx (hw.has (i := 2) rfl)) rfl rfl (by rw [Nat.mul_one]; exact intsAt hial2) (by omega) ?_
            refine s_as 29 rfl rfl ?_
            refine SX.end_ ?_
            exact KN.join () ⟨rfl, rfl, rfl, rfl, rfl, rfl, rfl, rfl, rfl, rfl, by rw [hnx, hia]; rfl, trivial⟩ (fun _ h => h) trivial
          · skip
            have hq0 : u.abs.askB a3 ≠ 0 := by
              intro hn
              rw [decide_eq_false (fun h => h hn)] at hq
              cases hq
            have hnx := hI.rel.next a3
            rw [if_pos hq0] at hnx
            refine CW.skip ?_
            exact KN.join () ⟨rfl, rfl, rfl, rfl, rfl, rfl, rfl, rfl, rfl, rfl, by rw [hnx]; rfl, trivial⟩ (fun _ h => h) trivial
        · skip
          intro _ _
          refine CW.seq ?_
          refine CW.regD (.st true 0 (.st true 1 (.st true 2 (.st true 3 (.st true 4 (.st true 5 (.st true 6 (.st true 7 (.st true 8 (.st true 9 (.st true 10 (.st true 11 (.st true 12 (.st true 13 (.st true 14 (.st true 15 (.st true 16 (.st true 17 (.st true 18 (.st true 19 (.st true 20 (.st true 21 (.st true 22 (.st true 23 (.st true 24 (.st true 26 (.st false 25 (.st true 27 (.st true 28 (.st true 29 (.st true 30 (.st true 31 (.st true 33 (.st true 34 (.st false 32 (.st false 35 (.st true 36 (.st true 37 (.st true 38 (.st true 39 (.st true 41 (.st true 42 (.st true 43 (.st true 44 (.st false 40 (.st true 45 (.st true 46 (.st true 47 (.st true 48 (.st true 50 (.st true 51 (.st true 52 (.st true 53 (.st false 49 (.st true 54 (.st true 55 .done)))))))))))))))))))))))))))))))))))))))))))))))))))))))) (Sto w [docDA gy u, docA gx v]) mixed (by kernel_rfl) (fun _ h => h.drew) (fun _ h => h.pick [2, 2] rfl) ?_
          refine s_mv 226 rfl rfl ?_
          refine s_mv 227 rfl rfl ?_
          refine s_nil 228 rfl rfl ?_
          refine s_fa 229 rfl rfl ?_
          refine s_ldS 230 rfl rfl (v := .int .i64 u.reads) (fun _ hw => dd_cell (hw.has (i := 0) rfl) rfl) ?_
          refine s_ne 231 rfl rfl rfl (decide_eq_false (fun h => h hI.rel.reads.symm)) ?_
          refine s_mv 232 rfl rfl ?_
          refine s_mv 233 rfl rfl ?_
          refine s_mv 234 rfl rfl ?_
          refine s_nil 235 rfl rfl ?_
          refine s_fa 236 rfl rfl ?_
          refine s_ldS 237 rfl rfl (v := .int .i64 u.programs) (fun _ hw => dd_cell (hw.has (i := 0) rfl) rfl) ?_
          refine s_ne 238 rfl rfl rfl (decide_eq_false (fun h => h hI.rel.programs.symm)) ?_
          refine s_pickF 239 rfl rfl rfl ?_
          refine s_mv 240 rfl rfl ?_
          refine s_mv 241 rfl rfl ?_
          refine s_mv 242 rfl rfl ?_
          refine s_nil 243 rfl rfl ?_
          refine s_fa 244 rfl rfl ?_
          refine s_ldS 245 rfl rfl (v := .int .i64 u.erases) (fun _ hw => dd_cell (hw.has (i := 0) rfl) rfl) ?_
          refine s_ne 246 rfl rfl rfl (decide_eq_false (fun h => h hI.rel.erases.symm)) ?_
          refine s_pickF 247 rfl rfl rfl ?_
          refine s_mv 248 rfl rfl ?_
          refine s_mv 249 rfl rfl ?_
          refine s_mv 250 rfl rfl ?_
          refine s_mv 252 rfl rfl ?_
          refine s_call1 251 rfl rfl rfl rfl (fun w hw => drNext hI.at_ a3 e w (hw.er heO) (hw.has (i := 0) rfl)) (fun _ h => h.pick [2, 2] rfl) ?_
          refine s_ne 253 rfl rfl rfl (decide_eq_false (fun h => h rfl)) ?_
          refine s_pickF 254 rfl rfl rfl ?_
          refine s_mv 255 rfl rfl ?_
          refine s_mv 256 rfl rfl ?_
          refine s_mv 257 rfl rfl ?_
          refine s_mv 259 rfl rfl ?_
          refine s_mv 260 rfl rfl ?_
          refine s_call1 258 rfl rfl rfl rfl (fun w hw => drBad_spec gd x a3 e w (hw.er heO) (hw.er heB) (hw.has (i := 0) rfl) hI.at_.k) (fun _ h => h.pick [2, 2] rfl) ?_
          refine s_call1 261 rfl rfl rfl rfl (fun w hw => ddIs_spec hI.at2' a3 w (hw.has (i := 2) rfl) (hw.has (i := 3) rfl)) (fun _ h => h.pick [2, 2] rfl) ?_
          refine s_neB 262 rfl rfl rfl (r := false) (by rw [show u.abs.askB a3 = x.abs.askB a3 from hI.rel.ask a3]; cases decide (x.abs.askB a3 ≠ 0) <;> rfl) ?_
          refine s_pickF 263 rfl rfl rfl ?_
          refine s_mv 264 rfl rfl ?_
          refine s_mv 265 rfl rfl ?_
          refine s_mv 267 rfl rfl ?_
          refine s_nil 268 rfl rfl ?_
          refine s_fa 269 rfl rfl ?_
          refine s_ldS 270 rfl rfl (v := .int .i64 v.ops) (fun _ hw => doc_cell (hw.has (i := 1) rfl) rfl) ?_
          refine s_call1 266 rfl rfl rfl rfl (fun w hw => ops_spec gc y w (hw.has (i := 1) rfl)) (fun _ h => h.pick [2, 2] rfl) ?_
          refine s_ne 271 rfl rfl rfl (decide_eq_false (fun h => h (congrArg ChS.ops hI.e).symm)) ?_
          refine s_pickF 272 rfl rfl rfl ?_
          refine s_mv 273 rfl rfl ?_
          refine s_mv 274 rfl rfl ?_
          refine s_mv 276 rfl rfl ?_
          refine s_nil 277 rfl rfl ?_
          refine s_fa 278 rfl rfl ?_
          refine s_ldS 279 rfl rfl (v := .int .i64 v.broken) (fun _ hw => doc_cell (hw.has (i := 1) rfl) rfl) ?_
          refine s_call1 275 rfl rfl rfl rfl (fun w hw => broken_spec gc y w (hw.has (i := 1) rfl)) (fun _ h => h.pick [2, 2] rfl) ?_
          refine s_ne 280 rfl rfl rfl (decide_eq_false (fun h => h (congrArg ChS.broken hI.e).symm)) ?_
          refine s_pickF 281 rfl rfl rfl ?_
          refine SX.next ?_
          refine CW.condF rfl ?_
          refine CW.skip ?_
          refine KN.blk ?_
          refine KN.code ?_
          refine CW.reg [0, 1, 2] rfl ?_
          refine s_mv 70 rfl rfl ?_
          refine s_add 71 rfl rfl rfl (r := ((i + 1 : Nat) : Int)) (w64 (by omega)) ?_
          refine s_as 15 rfl rfl ?_
          refine SX.end_ ?_
          exact KN.back (i + 1, ⟨x, y, u, v⟩) ⟨rfl, rfl, rfl, rfl, rfl, rfl, rfl, trivial⟩ (fun _ h => h) ⟨by simp only; omega, hI⟩ (by simp only; omega)
    · skip
      have hvo : v.abs.Ok := hI.vok
      refine CW.exit rfl ?_
      refine KN.code ?_
      refine CW.seq ?_
      refine CW.seq ?_
      refine CW.reg [0] rfl ?_
      refine s_as 30 rfl rfl ?_
      refine SX.next ?_
      refine CW.block ?_
      refine CW.loop (G := Nat) (fun b => [(10, .pointer (some ⟨gc, 0, none⟩)), (12, .pointer (some ⟨gx, 0, none⟩)), (30, .int .i64 (b : Nat))]) (fun _ => Sto w [driveA gd x, chipA gc y, docDA gy u, docA gx v]) (fun b => b ≤ 4) (fun b => 4 - b) 0 ⟨rfl, rfl, rfl, trivial⟩ (fun _ h => h) (Nat.zero_le _) ?_
      intro b hb4
      refine CW.seq ?_
      refine CW.seq ?_
      refine CW.reg [0, 1] rfl ?_
      refine s_mv 282 rfl rfl ?_
      refine s_lt 283 rfl rfl rfl rfl ?_
      refine SX.next ?_
      refine CW.test rfl (fun hc => ?_) (fun hc => ?_)
      · skip
        have hbl : b < 4 := by omega
        refine CW.skip ?_
        refine KN.code ?_
        refine CW.seq ?_
        refine CW.block ?_
        refine CW.seq ?_
        refine CW.reg [0] rfl ?_
        refine s_as 31 rfl rfl ?_
        refine SX.next ?_
        refine CW.block ?_
        refine CW.loop (G := Nat) (fun p => [(10, .pointer (some ⟨gc, 0, none⟩)), (12, .pointer (some ⟨gx, 0, none⟩)), (30, .int .i64 (b : Nat)), (31, .int .i64 (p : Nat))]) (fun _ => Sto w [driveA gd x, chipA gc y, docDA gy u, docA gx v]) (fun p => p ≤ 3) (fun p => 3 - p) 0 ⟨rfl, rfl, rfl, rfl, trivial⟩ (fun _ h => h) (Nat.zero_le _) ?_
        intro p hp3
        refine CW.seq ?_
        refine CW.seq ?_
        refine CW.reg [0, 1] rfl ?_
        refine s_mv 286 rfl rfl ?_
        refine s_lt 287 rfl rfl rfl rfl ?_
        refine SX.next ?_
        refine CW.test rfl (fun hc => ?_) (fun hc => ?_)
        · skip
          have hpl3 : p < 3 := by omega
          have hin : y.abs.inn (b : Nat) (p : Nat) = true := by
            unfold ChS.inn ChS.has
            rw [hI.p, hI.b, decide_eq_true (by omega), decide_eq_true (by omega)]
            rfl
          obtain ⟨ib, kp, bk, pg, hbi, hpk, hbk, hpg, hba, hpa⟩ := dinn_at hvo (show v.abs.inn (b : Nat) (p : Nat) = true by rw [show v.abs = y.abs from hI.e]; exact hin)
          have hil := (List.getElem?_eq_some_iff.1 hbk).1
          have hkl := (List.getElem?_eq_some_iff.1 hpg).1
          have hbm := List.mem_of_getElem? hbk
          have hpm := List.mem_of_getElem? hpg
          obtain ⟨ho1, ho2, ho3, ho4⟩ := dpg_ok hvo hbk hpg
          have hcl : (y.abs.pg (b : Nat) (p : Nat)).cells = pg.l := by rw [← show v.abs = y.abs from hI.e, hpa]; rfl
          refine CW.skip ?_
          refine KN.code ?_
          refine CW.seq ?_
          refine CW.block ?_
          refine CW.seq ?_
          refine CW.regD (.st true 0 (.st true 1 (.st true 2 (.st true 5 (.st true 6 (.st true 7 (.st true 8 (.st true 9 (.st true 10 (.st true 11 (.st true 12 (.st true 13 (.st true 14 (.st true 15 (.st false 3 (.st false 4 (.st false 16 (.st true 17 .done)))))))))))))))))) (Sto w [docA gx v]) mixed (by kernel_rfl) (fun _ h => h.drew) (fun _ h => h.pick [3] rfl) ?_
          refine s_mv 290 rfl rfl ?_
          refine s_mv 291 rfl rfl ?_
          refine s_mv 292 rfl rfl ?_
          refine s_mv 295 rfl rfl ?_
          refine s_nil 296 rfl rfl ?_
          refine s_fa 297 rfl rfl ?_
          refine s_ldS 298 rfl rfl (v := .slice v.A v.blocks.length v.c) (fun _ hw => doc_cell (hw.has (i := 0) rfl) rfl) ?_
          refine s_mv 299 rfl rfl ?_
          refine s_iaV 300 ib (fun w hw => doc_hds (hw.has (i := 3) rfl)) rfl rfl rfl hbi hil ?_
          refine s_ldVS 301 (fun w hw => doc_hds (hw.has (i := 0) rfl)) rfl rfl (hdr_at1 hbk) (by omega) ?_
          refine s_mv 302 rfl rfl ?_
          refine s_iaV 303 kp (fun w hw => db_rows (doc_bk (hw.has (i := 3) rfl) hbm)) rfl rfl rfl hpk hkl ?_
          refine s_fa 304 rfl rfl ?_
          refine s_ldS 305 rfl rfl (v := .slice pg.A pg.l.length pg.c) (fun _ hw => dpage_cell (hw.has (i := 0) rfl) hbk hpg (j := 0) rfl) ?_
          refine s_build 293 rfl rfl (cells := #[.int .i64 ((b : Nat) : Int), .int .i64 ((p : Nat) : Int)]) (by kernel_rfl) ?_
          refine s_call 294 rfl rfl rfl rfl (X := Option Addr × Nat) (v := fun z => .slice z.1 pg.l.length z.2) (pf := fun z => pg.l.length ≤ z.2) (L' := fun z => [own 5 1 z.1 pg.l.length z.2 (nats .u8 pg.l)]) (fun w hw => by have := cells_spec gc y hI.ok (b : Nat) (p : Nat) w (hw.has (i := 1) rfl); rw [if_pos hin, hcl] at this; exact this) (fun _ h => h.pick [3] rfl) (fun zo hzo => ?_)
          refine s_call1 306 rfl rfl rfl rfl (v := .bool true) (fun w hw => by have := sameBytes_spec zo.1 pg.l.length zo.2 pg.l pg.A pg.l.length pg.c pg.l w ((hw.has (i := 0) rfl).of_own) ho2 (dp_own1 (db_pg (doc_bk (hw.has (i := 4) rfl) hbm) hpm)) ho2; rw [decide_eq_true rfl] at this; exact this) (fun _ h => h.pick [4] rfl) ?_
          refine s_not 307 rfl rfl ?_
          refine SX.next ?_
          refine CW.condF rfl ?_
          refine CW.skip ?_
          refine KN.blk ?_
          refine KN.code ?_
          refine CW.reg [0, 1, 2] rfl ?_
          refine s_mv 288 rfl rfl ?_
          refine s_add 289 rfl rfl rfl (r := ((p + 1 : Nat) : Int)) (w64 (by omega)) ?_
          refine s_as 31 rfl rfl ?_
          refine SX.end_ ?_
          exact KN.back (p + 1) ⟨rfl, rfl, rfl, rfl, trivial⟩ (fun _ h => h.tail) (by omega) (by omega)
        · skip
          skip
          refine CW.exit rfl ?_
          refine KN.blk ?_
          refine KN.code ?_
          refine CW.reg [0, 1, 2] rfl ?_
          refine s_mv 284 rfl rfl ?_
          refine s_add 285 rfl rfl rfl (r := ((b + 1 : Nat) : Int)) (w64 (by omega)) ?_
          refine s_as 30 rfl rfl ?_
          refine SX.end_ ?_
          exact KN.back (b + 1) ⟨rfl, rfl, rfl, trivial⟩ (fun _ h => h) (by omega) (by omega)
      · skip
        refine CW.exit rfl ?_
        refine KN.code ?_
        refine CW.seq ?_
        refine CW.reg [0] rfl ?_
        refine s_as 8 rfl rfl ?_
        refine SX.next ?_
        refine CW.ret ?_
        exact KN.ret (rs := [.tmp 8]) Tryd.results11 rfl (fun w hw => ⟨rfl, hw.nothing⟩)
end Go.Proofs.YtcapijdokbkgaaaDoor
end
