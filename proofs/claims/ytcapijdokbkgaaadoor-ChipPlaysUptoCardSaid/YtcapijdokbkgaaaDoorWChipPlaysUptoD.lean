/- The walk of the statement ChipPlaysUpto, text 4. Conditions: each theorem tells its own. -/
import Derived.Test.YtcapijdokbkgaaaDoorWChipPlaysUptoC
import Derived.Test.YtcapijdokbkgaaaDoorWChipPlaysUptoB
section
/- The document's chip: an erase. Conditions: it is lent; its plan is read where it lies. -/
namespace Go.Proofs.YtcapijdokbkgaaaDoor
open Go Go.Sx Go.Fm
set_option maxRecDepth 100000
theorem der_ok {x : DcG} {b : Int} (h : x.abs.erE b = 0) {i : Nat} {bk : DbG} (hb : b = (i : Nat)) (h1 : x.abs.bk b = bk.abs) {r : Nat × Int} (hr : eraN x.abs.hits x.pages = r) {q : List DpG} {wn : Int}
    (hq : q.map DpG.abs = List.replicate r.1 (PgS.bare x.size.toNat) ++ (bk.pages.map DpG.abs).drop r.1) (hw : wn = if r.2 = 0 then wr (bk.worn + 1) else bk.worn) :
    (x.abs.er b).1 = r.2 ∧ ({ x.tick with off := (findG x.hitsG 3).isSome, blocks := x.blocks.set i { bk with pages := q, worn := wn } } : DcG).abs = (x.abs.er b).2 := by
  unfold ChS.er
  rw [if_neg (fun hn => hn h)]
  have hr2 : eraN x.abs.hits x.abs.pages = r := hr
  simp only [hr2]
  refine ⟨trivial, ?_⟩
  have e3 : (findG x.hitsG 3).isSome = (findK x.abs.hits 3).isSome := dfind_some x 3
  rw [e3, h1, hb, Int.toNat_natCast]
  subst hw
  unfold DcG.tick ChS.tick DcG.abs
  simp only [List.map_set]
  congr 2
  unfold DbG.abs
  simp only [hq]
theorem dbare_next {ps q : List DpG} {sz j : Nat} {z : DpG} (hq : q.map DpG.abs = List.replicate j (PgS.bare sz) ++ (ps.map DpG.abs).drop j) (hj : j < ps.length) (hz : z.abs = PgS.bare sz) : (q.set j z).map DpG.abs = List.replicate (j + 1) (PgS.bare sz) ++ (ps.map DpG.abs).drop (j + 1) := by
  rw [List.map_set, hq, hz, List.set_append_right _ _ (by simp), List.length_replicate, Nat.sub_self, List.drop_eq_getElem_cons (by simpa using hj), List.set_cons_zero, List.replicate_succ', List.append_assoc]
  rfl
theorem dbare_len {ps q : List DpG} {sz j : Nat} (hq : q.map DpG.abs = List.replicate j (PgS.bare sz) ++ (ps.map DpG.abs).drop j) (hj : j ≤ ps.length) : q.length = ps.length := by
  have := congrArg List.length hq
  simp only [List.length_map, List.length_append, List.length_replicate, List.length_drop] at this
  omega
/-- How many pages the loop goes over. -/
def DcG.nErase (x : DcG) : Int := match findG x.hitsG 3 with
  | some f => f.n
  | none => x.pages
theorem deraN_cut {x : DcG} {f : FtG} (h : findG x.hitsG 3 = some f) : eraN x.abs.hits x.pages = (clampN x.nErase x.pages, 109) := by
  unfold eraN DcG.nErase
  rw [← dhits_abs, ← findG_abs, h]
  rfl
theorem deraN_fail {x : DcG} {f : FtG} (h3 : findG x.hitsG 3 = none) (h : findG x.hitsG 2 = some f) : eraN x.abs.hits x.pages = (0, 111) := by
  unfold eraN
  rw [← dhits_abs, ← findG_abs, ← findG_abs, h3, h]
  rfl
theorem deraN_all {x : DcG} (hp : 0 ≤ x.pages) (h3 : findG x.hitsG 3 = none) (h : findG x.hitsG 2 = none) : eraN x.abs.hits x.pages = (clampN x.nErase x.pages, 0) := by
  unfold eraN DcG.nErase
  rw [← dhits_abs, ← findG_abs, ← findG_abs, h3, h]
  simp only [Option.map_none]
  unfold clampN
  rw [show min (max x.pages 0) x.pages = x.pages by omega]
theorem wn_at {bs : List DbG} {i : Nat} {b : DbG} (h : bs[i]? = some b) : (bs.map wnV)[i]? = some (.int .i64 b.worn) := by
  rw [List.getElem?_map, h]
  rfl

set_option maxHeartbeats 1600000 in

theorem derase_spec (F : Nat → Prop) (g : Nat) (x : DcG) (hx : x.abs.Ok) (b : Int) (w : World) (hP : ∀ w', Fr F w w' → PlIn x.pA x.plan w') (hw : St F w [docA g x] w) : SpecP Tryd.prog 35 [.pointer (some ⟨g, 0, none⟩), .int .i64 b] F w (X := DcG) (fun _ => .int .i64 (x.abs.er b).1) (fun z => z.abs = (x.abs.er b).2 ∧ x.Same z) (fun z => [docA g z]) := by
  refine spec_ofC Tryd.func35 rfl Tryd.ntmps35 rfl hw ?_
  refine CW.seq ?_
  refine CW.reg [0] rfl ?_
  refine s_as 4 rfl rfl ?_
  refine SX.next ?_
  refine CW.seq ?_
  refine CW.seq ?_
  refine CW.reg [0, 1, 2, 3] rfl ?_
  refine s_mv 11 rfl rfl ?_
  refine s_nil 12 rfl rfl ?_
  refine s_fa 13 rfl rfl ?_
  refine s_ld 14 rfl rfl (v := .bool x.off) (fun _ hw => doc_cell (hw.has (i := 0) rfl) rfl) ?_
  refine SX.next ?_
  refine CW.cond rfl (fun hof => ?_) (fun hof => ?_)
  · skip
    have hE : x.abs.erE b = 109 := by
      unfold ChS.erE askC
      rw [show x.abs.off = true from hof]
      rfl
    refine CW.seq ?_
    refine CW.reg [0] rfl ?_
    refine s_as 4 rfl rfl ?_
    refine SX.next ?_
    refine CW.ret ?_
    exact KN.ret (rs := [.tmp 4]) Tryd.results35 rfl (fun w hw => ⟨x, by rw [er_err (by rw [hE]; decide), hE]; rfl, by rw [er_err (by rw [hE]; decide)]; exact ⟨rfl, .refl x⟩, hw⟩)
  · skip
    replace hof : x.off = false := by simpa using hof
    refine CW.skip ?_
    refine KN.code ?_
    refine CW.seq ?_
    refine CW.seq ?_
    refine CW.reg [0, 1, 2, 3, 4, 5, 6, 7, 8, 9] rfl ?_
    refine s_mv 15 rfl rfl ?_
    refine s_lt 16 rfl rfl rfl rfl ?_
    refine s_mv 17 rfl rfl ?_
    refine SX.bool 17 rfl (fun hb => ?_) (fun hb => ?_)
    · skip
      have hb0 := of_decide_eq_true hb
      have hhs : x.abs.has b = false := by
        rw [dhas_eq]
        exact decide_eq_false (fun h => by omega)
      have hE : x.abs.erE b = 110 := by
        unfold ChS.erE askC
        rw [show x.abs.off = false from hof, hhs]
        rfl
      refine SX.skip rfl ?_
      refine SX.skip rfl ?_
      refine SX.skip rfl ?_
      refine SX.skip rfl ?_
      refine SX.skip rfl ?_
      refine SX.skip rfl ?_
      refine s_pickT 24 rfl rfl rfl ?_
      refine SX.next ?_
      refine CW.condT rfl ?_
      refine CW.seq ?_
      refine CW.reg [0] rfl ?_
      refine s_as 4 rfl rfl ?_
      refine SX.next ?_
      refine CW.ret ?_
      exact KN.ret (rs := [.tmp 4]) Tryd.results35 rfl (fun w hw => ⟨x, by rw [er_err (by rw [hE]; decide), hE]; rfl, by rw [er_err (by rw [hE]; decide)]; exact ⟨rfl, .refl x⟩, hw⟩)
    · skip
      have hb0 := of_decide_eq_false hb
      refine s_mv 18 rfl rfl ?_
      refine s_mv 19 rfl rfl ?_
      refine s_nil 20 rfl rfl ?_
      refine s_fa 21 rfl rfl ?_
      refine s_ld 22 rfl rfl (v := .int .i64 (x.blocks.length : Nat)) (fun _ hw => doc_cell (hw.has (i := 0) rfl) rfl) ?_
      refine s_ge 23 rfl rfl rfl rfl ?_
      refine s_pickF 24 rfl rfl rfl ?_
      refine SX.next ?_
      refine CW.test rfl (fun hb1 => ?_) (fun hb1 => ?_)
      · skip
        have hhs : x.abs.has b = false := by
          rw [dhas_eq]
          exact decide_eq_false (fun h => by omega)
        have hE : x.abs.erE b = 110 := by
          unfold ChS.erE askC
          rw [show x.abs.off = false from hof, hhs]
          rfl
        refine CW.seq ?_
        refine CW.reg [0] rfl ?_
        refine s_as 4 rfl rfl ?_
        refine SX.next ?_
        refine CW.ret ?_
        exact KN.ret (rs := [.tmp 4]) Tryd.results35 rfl (fun w hw => ⟨x, by rw [er_err (by rw [hE]; decide), hE]; rfl, by rw [er_err (by rw [hE]; decide)]; exact ⟨rfl, .refl x⟩, hw⟩)
      · skip
        have hhs : x.abs.has b = true := by
          rw [dhas_eq]
          exact decide_eq_true ⟨by omega, by omega⟩
        have hz0 : x.abs.erE b = 0 := by
          unfold ChS.erE askC
          rw [show x.abs.off = false from hof, hhs]
          rfl
        obtain ⟨i, bk, hbi, hbk, hba⟩ := dhas_at hhs
        have hil := (List.getElem?_eq_some_iff.1 hbk).1
        have hbm := List.mem_of_getElem? hbk
        have hz1 : x.size ≤ 4096 := hx.z1
        have hz0s : 1 ≤ x.size := hx.z0
        obtain ⟨sz, hsz⟩ := Int.eq_ofNat_of_zero_le (show 0 ≤ x.size by omega)
        have hpl9 := dplan_len hx
        have hbpl := dbk_pgs hx hbk
        have hp0 : 1 ≤ x.pages := hx.p0
        have hp1 : x.pages ≤ 64 := hx.p1
        refine CW.skip ?_
        refine KN.code ?_
        refine CW.seq ?_
        refine CW.reg [0, 1, 2, 3, 4, 5, 6, 7] rfl ?_
        refine s_mv 26 rfl rfl ?_
        refine s_call1 27 rfl rfl rfl rfl (fun w hw => dfirst_spec g x 3 w (hw.has (i := 0) rfl) (hP _ hw.fr) hpl9) (fun _ _ => trivial) ?_
        refine s_mv 25 rfl rfl ?_
        refine s_ext 28 rfl rfl rfl ?_
        refine s_ext 29 rfl rfl rfl ?_
        refine s_alloc 5 rfl (fun _ _ => trivial) (fun b5 => ?_)
        refine s_stAll 0 rfl rfl (by kernel_rfl) rfl rfl rfl rfl (fun _ _ => trivial) ?_
        refine s_as 6 rfl rfl ?_
        refine SX.next ?_
        refine CW.seq ?_
        refine CW.reg [0, 1, 2, 3, 4, 5, 6, 7] rfl ?_
        refine s_mv 31 rfl rfl ?_
        refine s_call1 32 rfl rfl rfl rfl (fun w hw => dfirst_spec g x 2 w (hw.has (i := 1) rfl) (hP _ hw.fr) hpl9) (fun _ _ => trivial) ?_
        refine s_mv 30 rfl rfl ?_
        refine s_ext 33 rfl rfl rfl ?_
        refine s_ext 34 rfl rfl rfl ?_
        refine s_alloc 7 rfl (fun _ _ => trivial) (fun b7 => ?_)
        refine s_stAll 0 rfl rfl (by kernel_rfl) rfl rfl rfl rfl (fun _ _ => trivial) ?_
        refine s_as 8 rfl rfl ?_
        refine SX.next ?_
        refine CW.seq ?_
        refine CW.pre (fun _ h => (h.pick [2, 0, 0] rfl).docO) ?_
        refine CW.reg [0, 1, 2, 3, 4, 5, 6, 7, 8] rfl ?_
        refine s_mv 35 rfl rfl ?_
        refine s_mv 36 rfl rfl ?_
        refine s_nil 37 rfl rfl ?_
        refine s_fa 38 rfl rfl ?_
        refine s_ldB 39 0 rfl rfl rfl (v := .int .i64 x.ops) rfl ?_
        refine s_add 40 rfl rfl rfl (r := wr (x.ops + 1)) rfl ?_
        refine s_nil 41 rfl rfl ?_
        refine s_fa 42 rfl rfl ?_
        refine s_stB 0 rfl rfl rfl rfl rfl (by show 8 < 11; decide) (fun _ _ => trivial) ?_
        refine SX.next ?_
        refine CW.seq ?_
        refine CW.reg [0, 1, 2, 3, 4] rfl ?_
        refine s_mv 43 rfl rfl ?_
        refine s_nil 44 rfl rfl ?_
        refine s_fa 45 rfl rfl ?_
        refine s_ldB 46 0 rfl rfl rfl (v := .int .i64 x.pages) rfl ?_
        refine s_as 9 rfl rfl ?_
        refine SX.next ?_
        refine CW.cut (G := Unit) (fun _ => [(0, .pointer (some ⟨g, 0, none⟩)), (1, .int .i64 b), (6, .bool (findG x.hitsG 3).isSome), (9, .int .i64 x.nErase)]) (fun _ => St F w [({ x.tick with off := (findG x.hitsG 3).isSome } : DcG).hd g, x.hds, x.bst, x.mks, x.wns]) (fun _ => (eraN x.abs.hits x.pages) = (clampN x.nErase x.pages, if (findG x.hitsG 3).isSome = true then 109 else 0)) ?_ ?_
        · skip
          refine CW.seq ?_
          refine CW.reg [0] rfl ?_
          refine s_mv 47 rfl rfl ?_
          refine SX.next ?_
          refine CW.cond rfl (fun hct => ?_) (fun hct => ?_)
          · skip
            obtain ⟨f, hf⟩ := Option.isSome_iff_exists.1 hct
            have hly := deraN_cut hf
            have hne : x.nErase = f.n := by unfold DcG.nErase; rw [hf]
            refine CW.seq ?_
            refine CW.reg [0, 1, 2, 3] rfl ?_
            refine s_mv 48 rfl rfl ?_
            refine s_nil 49 rfl rfl ?_
            refine s_fa 50 rfl rfl ?_
            refine s_stB 0 rfl rfl rfl rfl rfl (by show 9 < 11; decide) (fun _ _ => trivial) ?_
            refine SX.next ?_
            refine CW.reg [0, 1, 2] rfl ?_
            refine s_fa 51 rfl rfl ?_
            refine s_ldB 52 6 rfl rfl rfl (v := .int .i64 f.n) (by rw [hf]; rfl) ?_
            refine s_as 9 rfl rfl ?_
            refine SX.end_ ?_
            exact KN.join () ⟨rfl, rfl, rfl, by rw [hne]; rfl, trivial⟩ (fun _ h => by
              have h1 := h.pick [0, 0, 0, 0, 0] rfl
              rw [hct]
              exact h1) (by rw [if_pos hct]; exact hly)
          · skip
            have hf3 : findG x.hitsG 3 = none := by
              cases hh : findG x.hitsG 3 with
              | none => rfl
              | some f => rw [hh] at hct; cases hct
            refine CW.seq ?_
            refine CW.reg [0] rfl ?_
            refine s_mv 53 rfl rfl ?_
            refine SX.next ?_
            refine CW.cond rfl (fun hfl2 => ?_) (fun hfl2 => ?_)
            · skip
              obtain ⟨f, hf⟩ := Option.isSome_iff_exists.1 hfl2
              have hly := deraN_fail hf3 hf
              refine CW.seq ?_
              refine CW.reg [0] rfl ?_
              refine s_as 4 rfl rfl ?_
              refine SX.next ?_
              refine CW.ret ?_
              exact KN.ret (rs := [.tmp 4]) Tryd.results35 rfl (fun w_ hw => by
  obtain ⟨q1, q2⟩ := der_ok hz0 hbi hba (r := (0, 111)) hly (q := bk.pages) (wn := bk.worn) rfl rfl
  have e : ({ x.tick with off := (findG x.hitsG 3).isSome, blocks := x.blocks.set i { bk with pages := bk.pages, worn := bk.worn } } : DcG) = x.tick := by
    rw [hf3]
    have ho : x.tick.off = false := hof
    have hb : x.blocks.set i { bk with pages := bk.pages, worn := bk.worn } = x.blocks := List.set_eq_self hbk
    rw [hb]
    show ({ x.tick with off := false } : DcG) = _
    rw [← ho]
  rw [e] at q2
  exact ⟨x.tick, by rw [q1]; rfl, ⟨q2, ⟨rfl, rfl, rfl⟩⟩, (hw.pick [0, 0, 0, 0, 0] rfl).docC (x := x.tick)⟩)
            · skip
              have hf2 : findG x.hitsG 2 = none := by
                cases hh : findG x.hitsG 2 with
                | none => rfl
                | some f => rw [hh] at hfl2; cases hfl2
              have hly := deraN_all (by omega) hf3 hf2
              have hne : x.nErase = x.pages := by unfold DcG.nErase; rw [hf3]
              refine CW.skip ?_
              exact KN.join () ⟨rfl, rfl, rfl, by rw [hne]; rfl, trivial⟩ (fun _ h => by
                have h1 := h.pick [0, 0, 0, 0, 0] rfl
                have e : ({ x.tick with off := (findG x.hitsG 3).isSome } : DcG) = x.tick := by
                  rw [hf3]
                  have ho : x.tick.off = false := hof
                  show ({ x.tick with off := false } : DcG) = _
                  rw [← ho]
                rw [e]
                exact h1) (by rw [if_neg (by rw [hct]; decide)]; exact hly)
        · skip
          intro _ hly
          have hnle : (clampN x.nErase x.pages) ≤ bk.pages.length := by have h1 := clampN_le (n := x.nErase) (size := x.pages); omega
          refine CW.cut (G := List DpG) (fun _ => [(0, .pointer (some ⟨g, 0, none⟩)), (1, .int .i64 b), (6, .bool (findG x.hitsG 3).isSome), (9, .int .i64 x.nErase)]) (fun q => St F w [own 67 3 bk.A q.length bk.c (q.flatMap DpG.row), starA (q.map DpG.dat), starA ((x.blocks.map DbG.dat).eraseIdx i), ({ x.tick with off := (findG x.hitsG 3).isSome } : DcG).hd g, x.hds, x.mks, x.wns]) (fun q => q.map DpG.abs = List.replicate (clampN x.nErase x.pages) (PgS.bare sz) ++ (bk.pages.map DpG.abs).drop (clampN x.nErase x.pages)) ?_ ?_
          · skip
            refine CW.seq ?_
            refine CW.pre (C' := St F w [bk.rows, starA (bk.pages.map DpG.dat), starA ((x.blocks.map DbG.dat).eraseIdx i), ({ x.tick with off := (findG x.hitsG 3).isSome } : DcG).hd g, x.hds, x.mks, x.wns]) (fun _ h => (h.pick [2, 0, 0, 0, 0] rfl).dbO hbk) ?_
            refine CW.reg [0] rfl ?_
            refine s_as 10 rfl rfl ?_
            refine SX.next ?_
            refine CW.block ?_
            refine CW.loop (G := Nat × List DpG) (fun z => [(0, .pointer (some ⟨g, 0, none⟩)), (1, .int .i64 b), (6, .bool (findG x.hitsG 3).isSome), (9, .int .i64 x.nErase), (10, .int .i64 (z.1 : Nat))]) (fun z => St F w [own 67 3 bk.A z.2.length bk.c (z.2.flatMap DpG.row), starA (z.2.map DpG.dat), starA ((x.blocks.map DbG.dat).eraseIdx i), ({ x.tick with off := (findG x.hitsG 3).isSome } : DcG).hd g, x.hds, x.mks, x.wns]) (fun z => z.1 ≤ (clampN x.nErase x.pages) ∧ z.2.map DpG.abs = List.replicate z.1 (PgS.bare sz) ++ (bk.pages.map DpG.abs).drop z.1) (fun z => (clampN x.nErase x.pages) - z.1) (0, bk.pages) ⟨rfl, rfl, rfl, rfl, rfl, trivial⟩ (fun _ h => h) ⟨Nat.zero_le _, rfl⟩ ?_
            rintro ⟨j, q⟩ ⟨hj, hq⟩
            simp only at hj hq
            dsimp only
            have hql := dbare_len hq (by omega)
            refine CW.seq ?_
            refine CW.seq ?_
            refine CW.reg [0, 1, 2, 3, 4, 5, 6, 7, 8, 9, 10] rfl ?_
            refine s_mv 54 rfl rfl ?_
            refine s_mv 55 rfl rfl ?_
            refine s_nil 56 rfl rfl ?_
            refine s_fa 57 rfl rfl ?_
            refine s_ld 58 rfl rfl (v := .int .i64 x.pages) (fun _ hw => hw.blkCell (i := 3) (j := 1) rfl rfl) ?_
            refine s_lt 59 rfl rfl rfl rfl ?_
            refine s_mv 60 rfl rfl ?_
            refine SX.bool 60 rfl (fun hb => ?_) (fun hb => ?_)
            · skip
              have hj1 := of_decide_eq_true hb
              refine s_mv 61 rfl rfl ?_
              refine s_mv 62 rfl rfl ?_
              refine s_lt 63 rfl rfl rfl rfl ?_
              refine s_pickT 64 rfl rfl rfl ?_
              refine SX.next ?_
              refine CW.test rfl (fun hj2 => ?_) (fun hj2 => ?_)
              · skip
                have hjl : j < (clampN x.nErase x.pages) := by unfold clampN; omega
                have hjq : j < q.length := by omega
                refine CW.skip ?_
                refine KN.code ?_
                refine CW.seq ?_
                refine CW.block ?_
                refine CW.regD (.st true 0 (.st true 1 (.st true 2 (.st true 3 (.st true 4 (.st true 5 (.st true 6 (.st true 7 (.st true 8 (.st false 9 (.st false 10 (.st true 11 (.st false 12 .done))))))))))))) (St F w [({ x.tick with off := (findG x.hitsG 3).isSome } : DcG).hd g, x.hds]) mixed (by kernel_rfl) (fun _ h => h.drew) (fun _ h => h.pick [3, 3] rfl) ?_
                refine s_mv 67 rfl rfl ?_
                refine s_nil 68 rfl rfl ?_
                refine s_fa 69 rfl rfl ?_
                refine s_ldS 70 rfl rfl (v := .slice x.A x.blocks.length x.c) (fun _ hw => hw.blkCell (i := 0) (j := 4) rfl rfl) ?_
                refine s_mv 71 rfl rfl ?_
                refine s_iaV 72 i (fun w hw => (hw.has (i := 4) rfl).of_own) rfl rfl rfl hbi hil ?_
                refine s_ldVS 73 (fun w hw => (hw.has (i := 1) rfl).of_own) rfl rfl (hdr_at1 hbk) (by omega) ?_
                refine s_mv 74 rfl rfl ?_
                refine s_mv 75 rfl rfl ?_
                refine s_call 76 rfl rfl rfl rfl (fun w hw => dempty_spec g sz w (hw.blkCell (i := 3) (j := 2) rfl (by rw [← hsz]; rfl)) (by omega)) (fun _ h => h.pick [3, 3] rfl) (fun zo hzo => ?_)
                refine s_build 77 rfl rfl (cells := #[.slice zo.1 (List.replicate sz 255).length zo.2, .bool false, .slice none 0 0]) (by kernel_rfl) ?_
                rw [← hql]
                refine s_iaOS 78 1 j rfl rfl rfl rfl rfl hjq ?_
                refine s_stRow 1 (t := j * 3) (vs := [.slice zo.1 (List.replicate sz 255).length zo.2, .bool false, .slice none 0 0]) rfl rfl (by kernel_rfl) rfl rfl (by omega) (by rw [flat_len dpRow_len]; show j * 3 + 3 ≤ q.length * 3; omega) rfl (fun _ h => h.pick [4, 4] rfl) ?_
                refine SX.end_ ?_
                refine KN.blk ?_
                refine KN.code ?_
                refine CW.reg [0, 1, 2] rfl ?_
                refine s_mv 65 rfl rfl ?_
                refine s_add 66 rfl rfl rfl (r := ((j + 1 : Nat) : Int)) (w64 (by omega)) ?_
                refine s_as 10 rfl rfl ?_
                refine SX.end_ ?_
                exact KN.back (j + 1, q.set j (⟨zo.1, zo.2, List.replicate sz 255, false, none, 0, []⟩ : DpG)) ⟨rfl, rfl, rfl, rfl, rfl, trivial⟩ (fun _ h => by
                  have h1 := h.pick [0, 1, 0, 0, 0, 0, 0, 0] rfl
                  have h2 := h1.begin_ 5 1
                  have h3 := h2.pick [1, 0, 0, 0, 0, 0, 0, 0, 0] rfl
                  have h4 := St.close_ [(⟨zo.1, zo.2, List.replicate sz 255, false, none, 0, []⟩ : DpG).own1, (⟨zo.1, zo.2, List.replicate sz 255, false, none, 0, []⟩ : DpG).own2] h3
                  have h5 := h4.pick [1, 0, 0, 0, 0, 0, 0, 0] rfl
                  have h6 := St.starPut (A := (q[j]).dat) (A' := (⟨zo.1, zo.2, List.replicate sz 255, false, none, 0, []⟩ : DpG).dat) (i := j) (by rw [List.getElem?_map, List.getElem?_eq_getElem hjq]; rfl) h5
                  rw [← List.map_set] at h6
                  have e1 := flat_row (row := DpG.row) dpRow_len hjq (⟨zo.1, zo.2, List.replicate sz 255, false, none, 0, []⟩ : DpG)
                  have h7 := h6.pick [1, 0, 0, 0, 0, 0, 0] rfl
                  simp only [List.length_set]
                  rw [e1]
                  exact h7) ⟨by simp only; omega, by simp only; exact dbare_next hq (by omega) rfl⟩ (by simp only; omega)
              · skip
                have hje : j = (clampN x.nErase x.pages) := by unfold clampN at hj ⊢; omega
                subst hje
                refine CW.exit rfl ?_
                exact KN.join q ⟨rfl, rfl, rfl, rfl, trivial⟩ (fun _ h => h) hq
            · skip
              have hj1 := of_decide_eq_false hb
              have hje : j = (clampN x.nErase x.pages) := by unfold clampN at hj ⊢; omega
              subst hje
              refine SX.skip rfl ?_
              refine SX.skip rfl ?_
              refine SX.skip rfl ?_
              refine s_pickF 64 rfl rfl rfl ?_
              refine SX.next ?_
              refine CW.condF rfl ?_
              refine CW.exit rfl ?_
              exact KN.join q ⟨rfl, rfl, rfl, rfl, trivial⟩ (fun _ h => h) hq
          · skip
            intro q hq
            have hql := dbare_len hq hnle
            refine CW.seq ?_
            refine CW.seq ?_
            refine CW.reg [0] rfl ?_
            refine s_mv 79 rfl rfl ?_
            refine SX.next ?_
            refine CW.cond rfl (fun hct => ?_) (fun hct => ?_)
            · skip
              rw [if_pos hct] at hly
              refine CW.seq ?_
              refine CW.reg [0] rfl ?_
              refine s_as 4 rfl rfl ?_
              refine SX.next ?_
              refine CW.ret ?_
              exact KN.ret (rs := [.tmp 4]) Tryd.results35 rfl (fun w_ hw => by
  obtain ⟨q1, q2⟩ := der_ok hz0 hbi hba (r := ((clampN x.nErase x.pages), 109)) hly (q := q) (wn := bk.worn) (by rw [hsz, Int.toNat_natCast]; exact hq) (by rw [if_neg (show ¬ (109 : Int) = 0 by decide)])
  refine ⟨({ x.tick with off := (findG x.hitsG 3).isSome, blocks := x.blocks.set i ({ bk with pages := q, worn := bk.worn } : DbG) } : DcG), by rw [q1]; rfl, ⟨q2, ⟨rfl, rfl, rfl⟩⟩, ?_⟩
  have h3 := St.dbI (b := ({ bk with pages := q, worn := bk.worn } : DbG)) (bs := x.blocks) hil (hw.pick [0, 0, 0, 0, 0, 0, 0] rfl)
  have h4 : St F w [({ x.tick with off := (findG x.hitsG 3).isSome, blocks := x.blocks.set i ({ bk with pages := q, worn := bk.worn } : DbG) } : DcG).hd g, ({ x.tick with off := (findG x.hitsG 3).isSome, blocks := x.blocks.set i ({ bk with pages := q, worn := bk.worn } : DbG) } : DcG).hds, ({ x.tick with off := (findG x.hitsG 3).isSome, blocks := x.blocks.set i ({ bk with pages := q, worn := bk.worn } : DbG) } : DcG).bst, ({ x.tick with off := (findG x.hitsG 3).isSome, blocks := x.blocks.set i ({ bk with pages := q, worn := bk.worn } : DbG) } : DcG).mks, ({ x.tick with off := (findG x.hitsG 3).isSome, blocks := x.blocks.set i ({ bk with pages := q, worn := bk.worn } : DbG) } : DcG).wns] w_ := by
    have e3 : ({ x.tick with off := (findG x.hitsG 3).isSome, blocks := x.blocks.set i ({ bk with pages := q, worn := bk.worn } : DbG) } : DcG).hd g = ({ x.tick with off := (findG x.hitsG 3).isSome } : DcG).hd g := by unfold DcG.hd DcG.cells; simp only [List.length_set]; rfl
    have e4 : ({ x.tick with off := (findG x.hitsG 3).isSome, blocks := x.blocks.set i ({ bk with pages := q, worn := bk.worn } : DbG) } : DcG).hds = x.hds := by
      unfold DcG.hds
      simp only [List.length_set]
      congr 1
      exact map_keep hbk (by unfold DbG.hdr; simp only [hql])
    have e5 : ({ x.tick with off := (findG x.hitsG 3).isSome, blocks := x.blocks.set i ({ bk with pages := q, worn := bk.worn } : DbG) } : DcG).mks = x.mks := by
      unfold DcG.mks
      simp only [List.length_set]
      congr 1
      exact map_keep hbk rfl
    have e6 : ({ x.tick with off := (findG x.hitsG 3).isSome, blocks := x.blocks.set i ({ bk with pages := q, worn := bk.worn } : DbG) } : DcG).wns = own 3 1 x.wA x.blocks.length x.wc (x.blocks.map wnV) := by
      unfold DcG.wns
      simp only [List.length_set]
      congr 1
      exact map_keep hbk rfl
    rw [e3, e4, e5, e6]
    exact h3.pick [1, 1, 0, 0, 0] rfl
  exact h4.docC)
            · skip
              rw [if_neg (by rw [hct]; decide)] at hly
              refine CW.skip ?_
              refine KN.code ?_
              refine CW.seq ?_
              refine CW.regD (.st true 0 (.st true 1 (.st true 2 (.st true 3 (.st true 4 (.st true 5 (.st true 6 (.st true 7 (.st true 8 (.st true 9 (.st true 10 (.st false 11 (.st true 12 (.st true 13 (.st false 14 .done))))))))))))))) (St F w [({ x.tick with off := (findG x.hitsG 3).isSome } : DcG).hd g]) mixed (by kernel_rfl) (fun _ h => h.drew) (fun _ h => h.pick [3] rfl) ?_
              refine s_mv 80 rfl rfl ?_
              refine s_nil 81 rfl rfl ?_
              refine s_fa 82 rfl rfl ?_
              refine s_ldS 83 rfl rfl (v := .slice x.wA x.blocks.length x.wc) (fun _ hw => hw.blkCell (i := 0) (j := 6) rfl rfl) ?_
              refine s_mv 84 rfl rfl ?_
              refine s_mv 85 rfl rfl ?_
              refine s_nil 86 rfl rfl ?_
              refine s_fa 87 rfl rfl ?_
              refine s_ldS 88 rfl rfl (v := .slice x.wA x.blocks.length x.wc) (fun _ hw => hw.blkCell (i := 0) (j := 6) rfl rfl) ?_
              refine s_mv 89 rfl rfl ?_
              refine s_iaO 90 6 i rfl rfl rfl rfl hbi hil ?_
              refine s_ldO 91 6 rfl rfl rfl (wn_at hbk) ?_
              refine s_add 92 rfl rfl rfl (r := wr (bk.worn + 1)) rfl ?_
              refine s_iaO 93 6 i rfl rfl rfl rfl hbi hil ?_
              refine s_stO 6 rfl rfl rfl rfl rfl hil (fun _ h => h.pick [3] rfl) ?_
              refine SX.next ?_
              refine CW.seq ?_
              refine CW.reg [0] rfl ?_
              refine s_as 4 rfl rfl ?_
              refine SX.next ?_
              refine CW.ret ?_
              exact KN.ret (rs := [.tmp 4]) Tryd.results35 rfl (fun w_ hw => by
  obtain ⟨q1, q2⟩ := der_ok hz0 hbi hba (r := ((clampN x.nErase x.pages), 0)) hly (q := q) (wn := wr (bk.worn + 1)) (by rw [hsz, Int.toNat_natCast]; exact hq) (by rw [if_pos rfl])
  refine ⟨({ x.tick with off := (findG x.hitsG 3).isSome, blocks := x.blocks.set i ({ bk with pages := q, worn := wr (bk.worn + 1) } : DbG) } : DcG), by rw [q1]; rfl, ⟨q2, ⟨rfl, rfl, rfl⟩⟩, ?_⟩
  have h3 := St.dbI (b := ({ bk with pages := q, worn := wr (bk.worn + 1) } : DbG)) (bs := x.blocks) hil (hw.pick [0, 0, 0, 0, 0, 0, 0] rfl)
  have h4 : St F w [({ x.tick with off := (findG x.hitsG 3).isSome, blocks := x.blocks.set i ({ bk with pages := q, worn := wr (bk.worn + 1) } : DbG) } : DcG).hd g, ({ x.tick with off := (findG x.hitsG 3).isSome, blocks := x.blocks.set i ({ bk with pages := q, worn := wr (bk.worn + 1) } : DbG) } : DcG).hds, ({ x.tick with off := (findG x.hitsG 3).isSome, blocks := x.blocks.set i ({ bk with pages := q, worn := wr (bk.worn + 1) } : DbG) } : DcG).bst, ({ x.tick with off := (findG x.hitsG 3).isSome, blocks := x.blocks.set i ({ bk with pages := q, worn := wr (bk.worn + 1) } : DbG) } : DcG).mks, ({ x.tick with off := (findG x.hitsG 3).isSome, blocks := x.blocks.set i ({ bk with pages := q, worn := wr (bk.worn + 1) } : DbG) } : DcG).wns] w_ := by
    have e3 : ({ x.tick with off := (findG x.hitsG 3).isSome, blocks := x.blocks.set i ({ bk with pages := q, worn := wr (bk.worn + 1) } : DbG) } : DcG).hd g = ({ x.tick with off := (findG x.hitsG 3).isSome } : DcG).hd g := by unfold DcG.hd DcG.cells; simp only [List.length_set]; rfl
    have e4 : ({ x.tick with off := (findG x.hitsG 3).isSome, blocks := x.blocks.set i ({ bk with pages := q, worn := wr (bk.worn + 1) } : DbG) } : DcG).hds = x.hds := by
      unfold DcG.hds
      simp only [List.length_set]
      congr 1
      exact map_keep hbk (by unfold DbG.hdr; simp only [hql])
    have e5 : ({ x.tick with off := (findG x.hitsG 3).isSome, blocks := x.blocks.set i ({ bk with pages := q, worn := wr (bk.worn + 1) } : DbG) } : DcG).mks = x.mks := by
      unfold DcG.mks
      simp only [List.length_set]
      congr 1
      exact map_keep hbk rfl
    have e6 : ({ x.tick with off := (findG x.hitsG 3).isSome, blocks := x.blocks.set i ({ bk with pages := q, worn := wr (bk.worn + 1) } : DbG) } : DcG).wns = own 3 1 x.wA x.blocks.length x.wc ((x.blocks.map wnV).set i (.int .i64 (wr (bk.worn + 1)))) := by
      unfold DcG.wns
      simp only [List.length_set]
      congr 1
      rw [List.map_set]
      rfl
    rw [e3, e4, e5, e6]
    exact h3.pick [1, 1, 0, 0, 0] rfl
  exact h4.docC)
end Go.Proofs.YtcapijdokbkgaaaDoor
end
section
/- The document's chip: new ones. Conditions: what is handed in is read where it lies. -/
namespace Go.Proofs.YtcapijdokbkgaaaDoor
open Go Go.Sx Go.Fm
set_option maxRecDepth 100000
def DpG.nul : DpG := ⟨none, 0, [], false, none, 0, []⟩
theorem DpG.nul_dat (w : World) (F : Nat → Prop) (w₀ : World) (L : List Atom) (h : St F w₀ L w) : St F w₀ (DpG.nul.dat :: L) w := by
  have h1 := (h.begin_ 5 1).begin_ 5 1
  exact St.close_ [DpG.nul.own1, DpG.nul.own2] h1
structure NwG where
  A : Option Addr
  c : Nat
  bs : List DbG
theorem append_at {l : List Value} {v : Value} {n : Nat} (h : l.length = n) : (l ++ [v])[n * 1]? = some v := by
  subst h
  rw [Nat.mul_one, List.getElem?_append_right (Nat.le_refl _), Nat.sub_self]
  rfl
theorem rep_append {α β : Type} {f : α → β} {xs : List α} {a : α} {b : β} (h : xs.map f = List.replicate xs.length b) (ha : f a = b) : (xs ++ [a]).map f = List.replicate (xs ++ [a]).length b := by
  rw [List.map_append, h, List.length_append, List.length_singleton, List.replicate_succ', List.map_singleton, ha]

set_option maxHeartbeats 3200000 in

theorem dnew_spec (nb np sz lv : Nat) (mA : Option Addr) (mc : Nat) (ms : List Int) (pA : Option Addr) (pc : Nat) (pl : List FtG) (w : World) (h1 : 1 ≤ nb ∧ nb ≤ 64) (h2 : 1 ≤ np ∧ np ≤ 64) (h3 : 1 ≤ sz ∧ sz ≤ 4096) (_h4 : 1 ≤ lv ∧ lv ≤ 8) (hM : Has (sl 1 mA ms.length (ints .i64 ms)) w) (hml : ms.length ≤ 1000000) (hms : ∀ m ∈ ms, 0 ≤ m ∧ m < (nb : Int)) : SpecX Tryd.prog 30 [.int .i64 (nb : Nat), .int .i64 (np : Nat), .int .i64 (sz : Nat), .int .i64 (lv : Nat), .slice mA ms.length mc, .slice pA pl.length pc] w (X := Nat × DcG) (fun z => .pointer (some ⟨z.1, 0, none⟩)) (fun z => z.2.abs = ChS.new nb np sz lv ms (pl.map FtG.abs) ∧ z.2.pA = pA ∧ z.2.pc = pc ∧ z.2.plan = pl) (fun z => [docA z.1 z.2]) := by
  refine spec_of Tryd.func30 rfl Tryd.ntmps30 rfl ?_
  refine CW.seq ?_
  refine CW.reg [0] rfl ?_
  refine s_as 12 rfl rfl ?_
  refine SX.next ?_
  refine CW.cut (G := Nat × Nat × Nat) (fun z => [(0, .int .i64 (nb : Nat)), (1, .int .i64 (np : Nat)), (4, .slice mA ms.length mc), (13, .pointer (some ⟨z.1, 0, none⟩))]) (fun z => Sto w [blk z.1 72 #[.int .i64 (nb : Nat), .int .i64 (np : Nat), .int .i64 (sz : Nat), .int .i64 (lv : Nat), .slice none 0 0, .slice (some ⟨z.2.1, 0, none⟩) nb nb, .slice (some ⟨z.2.2, 0, none⟩) nb nb, .slice pA pl.length pc, .int .i64 0, .bool false, .int .i64 0], blk z.2.1 4 (List.replicate nb (.bool false)).toArray, blk z.2.2 3 (List.replicate nb (.int .i64 0)).toArray]) (fun _ => True) ?_ ?_
  · skip
    refine CW.regD (.st true 0 (.st true 1 (.st true 2 (.st true 3 (.st true 4 (.st true 6 (.st true 8 (.alt 5 (.st false 7 (.st false 9 (.st false 10 (.st true 11 .done)))) (.st false 7 (.st false 5 (.st false 9 (.st false 10 (.st true 11 .done))))))))))))) (Sto w []) mixed (by kernel_rfl) (fun _ h => h.drew) (fun _ h => h) ?_
    refine s_mv 17 rfl rfl ?_
    refine s_mv 18 rfl rfl ?_
    refine s_mv 19 rfl rfl ?_
    refine s_mv 20 rfl rfl ?_
    refine s_mv 21 rfl rfl ?_
    refine s_mv 23 rfl rfl ?_
    refine s_mv 25 rfl rfl ?_
    refine SX.alt ?_ ?_
    · skip
      refine s_make 22 nb rfl rfl rfl rfl rfl (by omega) (fun _ h => h.pick [] rfl) (fun gM => ?_)
      refine s_make 24 nb rfl rfl rfl rfl rfl (by omega) (fun _ h => h.pick [] rfl) (fun gW => ?_)
      refine s_build 26 rfl rfl (cells := #[.int .i64 (nb : Nat), .int .i64 (np : Nat), .int .i64 (sz : Nat), .int .i64 (lv : Nat), .slice none 0 0, .slice (some ⟨gM, 0, none⟩) nb nb, .slice (some ⟨gW, 0, none⟩) nb nb, .slice pA pl.length pc, .int .i64 0, .bool false, .int .i64 0]) (by kernel_rfl) ?_
      refine s_box 27 rfl rfl (fun _ h => h.pick [] rfl) (fun g => ?_)
      refine s_as 13 rfl rfl ?_
      refine SX.end_ ?_
      exact KN.join (g, gM, gW) ⟨rfl, rfl, rfl, rfl, trivial⟩ (fun _ h => h.pick [0, 1, 0] rfl) trivial
    · skip
      refine s_make 24 nb rfl rfl rfl rfl rfl (by omega) (fun _ h => h.pick [] rfl) (fun gW => ?_)
      refine s_make 22 nb rfl rfl rfl rfl rfl (by omega) (fun _ h => h.pick [] rfl) (fun gM => ?_)
      refine s_build 26 rfl rfl (cells := #[.int .i64 (nb : Nat), .int .i64 (np : Nat), .int .i64 (sz : Nat), .int .i64 (lv : Nat), .slice none 0 0, .slice (some ⟨gM, 0, none⟩) nb nb, .slice (some ⟨gW, 0, none⟩) nb nb, .slice pA pl.length pc, .int .i64 0, .bool false, .int .i64 0]) (by kernel_rfl) ?_
      refine s_box 27 rfl rfl (fun _ h => h.pick [] rfl) (fun g => ?_)
      refine s_as 13 rfl rfl ?_
      refine SX.end_ ?_
      exact KN.join (g, gM, gW) ⟨rfl, rfl, rfl, rfl, trivial⟩ (fun _ h => h.pick [0, 0, 0] rfl) trivial
  · skip
    rintro ⟨g, gM, gW⟩ _
    dsimp only
    refine CW.seq ?_
    refine CW.seq ?_
    refine CW.reg [0] rfl ?_
    refine s_as 14 rfl rfl ?_
    refine SX.next ?_
    refine CW.block ?_
    refine CW.loop (G := NwG) (fun z => [(0, .int .i64 (nb : Nat)), (1, .int .i64 (np : Nat)), (4, .slice mA ms.length mc), (13, .pointer (some ⟨g, 0, none⟩)), (14, .int .i64 (z.bs.length : Nat))]) (fun z => Sto w [blk g 72 #[.int .i64 (nb : Nat), .int .i64 (np : Nat), .int .i64 (sz : Nat), .int .i64 (lv : Nat), .slice z.A z.bs.length z.c, .slice (some ⟨gM, 0, none⟩) nb nb, .slice (some ⟨gW, 0, none⟩) nb nb, .slice pA pl.length pc, .int .i64 0, .bool false, .int .i64 0], own 68 1 z.A z.bs.length z.c (z.bs.map DbG.hdr), starA (z.bs.map DbG.dat), blk gM 4 (List.replicate nb (.bool false)).toArray, blk gW 3 (List.replicate nb (.int .i64 0)).toArray]) (fun z => z.bs.length ≤ nb ∧ z.bs.map DbG.abs = List.replicate z.bs.length (BkS.fresh np sz)) (fun z => nb - z.bs.length) ⟨none, 0, []⟩ ⟨rfl, rfl, rfl, rfl, rfl, trivial⟩ (fun _ h => ((h.begin_ 68 1).starNil).pick [2, 1, 0, 0, 0] rfl) ⟨Nat.zero_le _, rfl⟩ ?_
    rintro ⟨A, c, bs⟩ ⟨hi, hbs⟩
    simp only at hi hbs
    dsimp only
    refine CW.seq ?_
    refine CW.seq ?_
    refine CW.reg [0, 1, 2] rfl ?_
    refine s_mv 28 rfl rfl ?_
    refine s_mv 29 rfl rfl ?_
    refine s_lt 30 rfl rfl rfl rfl ?_
    refine SX.next ?_
    refine CW.test rfl (fun hc => ?_) (fun hc => ?_)
    · skip
      have hil : bs.length < nb := by omega
      refine CW.skip ?_
      refine KN.code ?_
      refine CW.seq ?_
      refine CW.block ?_
      refine CW.seq ?_
      refine CW.regD (.st true 0 (.st true 1 (.st true 2 (.st true 3 (.st true 5 (.alt 4 (.st false 6 (.st false 7 (.st false 8 (.st true 9 (.st true 10 (.st false 11 .done)))))) (.st false 6 (.alt 4 (.st false 7 (.st false 8 (.st true 9 (.st true 10 (.st false 11 .done))))) (.st false 7 (.st false 4 (.st false 8 (.st true 9 (.st true 10 (.st false 11 .done)))))))))))))) (Sto w []) mixed (by kernel_rfl) (fun _ h => h.drew) (fun _ h => h.pick [] rfl) ?_
      refine s_mv 33 rfl rfl ?_
      refine s_mv 34 rfl rfl ?_
      refine s_nil 35 rfl rfl ?_
      refine s_fa 36 rfl rfl ?_
      refine s_mv 38 rfl rfl ?_
      refine SX.alt ?_ ?_
      · skip
        refine s_ld 37 rfl rfl (v := .slice A bs.length c) (fun _ hw => hw.blkCell (i := 0) (j := 4) rfl rfl) ?_
        refine s_makeR 39 np (sz := 3) (by_ := 56) (zv := .agg #[.slice none 0 0, .bool false, .slice none 0 0]) rfl rfl rfl rfl rfl (by decide) (by unfold maxLen; omega) (fun _ h => h.pick [] rfl) (fun gp => ?_)
        refine s_bsl 40 rfl rfl (cells := #[.slice (some ⟨gp, 0, none⟩) np np]) (by kernel_rfl) rfl (fun _ h => h.pick [] rfl) (fun gb => ?_)
        refine s_app 41 3 rfl rfl rfl rfl (ys := [.slice (some ⟨gp, 0, none⟩) np np]) (fun w hw => Has.cong ((hw.has (i := 0) rfl).blk_sl (m := 1) rfl) rfl) rfl rfl (by omega) (by unfold maxLen; omega) (by omega) (fun _ _ _ h => h.pick [] rfl) (fun A2 c2 hc2 => ?_)
        refine s_nil 42 rfl rfl ?_
        refine s_fa 43 rfl rfl ?_
        refine s_stB 2 rfl rfl rfl rfl rfl (by show 4 < 11; decide) (fun _ h => h.pick [] rfl) ?_
        refine SX.next ?_
        refine CW.seq ?_
        refine CW.pre (C' := Sto w [own 67 3 (some ⟨gp, 0, none⟩) np np ((List.replicate np DpG.nul).flatMap DpG.row), starA ((List.replicate np DpG.nul).map DpG.dat), blk g 72 #[.int .i64 (nb : Nat), .int .i64 (np : Nat), .int .i64 (sz : Nat), .int .i64 (lv : Nat), .slice A2 (bs.length + 1) c2, .slice (some ⟨gM, 0, none⟩) nb nb, .slice (some ⟨gW, 0, none⟩) nb nb, .slice pA pl.length pc, .int .i64 0, .bool false, .int .i64 0], own 68 1 A2 (bs.length + 1) c2 (bs.map DbG.hdr ++ [.slice (some ⟨gp, 0, none⟩) np np]), starA (bs.map DbG.dat), blk gM 4 (List.replicate nb (.bool false)).toArray, blk gW 3 (List.replicate nb (.int .i64 0)).toArray]) (fun _ h => by
          have h1 := h.pick [1, 1, 1, 1, 1, 1] rfl
          have h3 := St.many (fun L h => DpG.nul_dat _ _ _ L h) h1 np
          rw [← List.map_replicate] at h3
          rw [flat_rep (row := DpG.row) DpG.nul np]
          exact h3.pick [1, 0, 0, 0, 0, 0, 0] rfl) ?_
        refine CW.reg [0] rfl ?_
        refine s_as 15 rfl rfl ?_
        refine SX.next ?_
        refine CW.block ?_
        refine CW.loop (G := Nat × List DpG) (fun z => [(0, .int .i64 (nb : Nat)), (1, .int .i64 (np : Nat)), (4, .slice mA ms.length mc), (13, .pointer (some ⟨g, 0, none⟩)), (14, .int .i64 (bs.length : Nat)), (15, .int .i64 (z.1 : Nat))]) (fun z => Sto w [own 67 3 (some ⟨gp, 0, none⟩) np np (z.2.flatMap DpG.row), starA (z.2.map DpG.dat), blk g 72 #[.int .i64 (nb : Nat), .int .i64 (np : Nat), .int .i64 (sz : Nat), .int .i64 (lv : Nat), .slice A2 (bs.length + 1) c2, .slice (some ⟨gM, 0, none⟩) nb nb, .slice (some ⟨gW, 0, none⟩) nb nb, .slice pA pl.length pc, .int .i64 0, .bool false, .int .i64 0], own 68 1 A2 (bs.length + 1) c2 (bs.map DbG.hdr ++ [.slice (some ⟨gp, 0, none⟩) np np]), starA (bs.map DbG.dat), blk gM 4 (List.replicate nb (.bool false)).toArray, blk gW 3 (List.replicate nb (.int .i64 0)).toArray]) (fun z => z.1 ≤ np ∧ z.2.map DpG.abs = List.replicate z.1 (PgS.bare sz) ++ List.replicate (np - z.1) PgS.nul) (fun z => np - z.1) (0, (List.replicate np DpG.nul)) ⟨rfl, rfl, rfl, rfl, rfl, rfl, trivial⟩ (fun _ h => h) ⟨Nat.zero_le _, by rw [List.map_replicate]; rfl⟩ ?_
        rintro ⟨k, ps⟩ ⟨hk, hps⟩
        simp only at hk hps
        dsimp only
        have hpl := rep_len hps hk
        refine CW.seq ?_
        refine CW.seq ?_
        refine CW.reg [0, 1, 2] rfl ?_
        refine s_mv 44 rfl rfl ?_
        refine s_mv 45 rfl rfl ?_
        refine s_lt 46 rfl rfl rfl rfl ?_
        refine SX.next ?_
        refine CW.test rfl (fun hc => ?_) (fun hc => ?_)
        · skip
          have hkl : k < np := by omega
          have hkp : k < ps.length := by omega
          refine CW.skip ?_
          refine KN.code ?_
          refine CW.seq ?_
          refine CW.block ?_
          refine CW.regD (.st true 0 (.st true 1 (.st true 2 (.st true 3 (.st true 4 (.st true 5 (.st true 6 (.st true 7 (.st true 8 (.st false 9 (.st false 10 (.st true 11 (.st false 12 .done))))))))))))) (Sto w [blk g 72 #[.int .i64 (nb : Nat), .int .i64 (np : Nat), .int .i64 (sz : Nat), .int .i64 (lv : Nat), .slice A2 (bs.length + 1) c2, .slice (some ⟨gM, 0, none⟩) nb nb, .slice (some ⟨gW, 0, none⟩) nb nb, .slice pA pl.length pc, .int .i64 0, .bool false, .int .i64 0], own 68 1 A2 (bs.length + 1) c2 (bs.map DbG.hdr ++ [.slice (some ⟨gp, 0, none⟩) np np])]) mixed (by kernel_rfl) (fun _ h => h.drew) (fun _ h => h.pick [2, 2] rfl) ?_
          refine s_mv 49 rfl rfl ?_
          refine s_nil 50 rfl rfl ?_
          refine s_fa 51 rfl rfl ?_
          refine s_ldS 52 rfl rfl (v := .slice A2 (bs.length + 1) c2) (fun _ hw => hw.blkCell (i := 0) (j := 4) rfl rfl) ?_
          refine s_mv 53 rfl rfl ?_
          refine s_iaV 54 bs.length (fun w hw => (hw.has (i := 3) rfl).of_own) rfl rfl rfl rfl (by omega) ?_
          refine s_ldVS 55 (fun w hw => (hw.has (i := 1) rfl).of_own) rfl rfl (append_at (List.length_map ..)) (by omega) ?_
          refine s_mv 56 rfl rfl ?_
          refine s_mv 57 rfl rfl ?_
          refine s_call 58 rfl rfl rfl rfl (fun w hw => dempty_spec g sz w (hw.blkCell (i := 2) (j := 2) rfl rfl) (by omega)) (fun _ h => h.pick [2, 2] rfl) (fun zo hzo => ?_)
          refine s_build 59 rfl rfl (cells := #[.slice zo.1 (List.replicate sz 255).length zo.2, .bool false, .slice none 0 0]) (by kernel_rfl) ?_
          refine s_iaOS 60 1 k rfl rfl rfl rfl rfl hkl ?_
          refine s_stRow 1 (t := k * 3) (vs := [.slice zo.1 (List.replicate sz 255).length zo.2, .bool false, .slice none 0 0]) rfl rfl (by kernel_rfl) rfl rfl (by omega) (by rw [flat_len dpRow_len]; show k * 3 + 3 ≤ ps.length * 3; omega) rfl (fun _ h => h.pick [3, 3] rfl) ?_
          refine SX.end_ ?_
          refine KN.blk ?_
          refine KN.code ?_
          refine CW.reg [0, 1, 2] rfl ?_
          refine s_mv 47 rfl rfl ?_
          refine s_add 48 rfl rfl rfl (r := ((k + 1 : Nat) : Int)) (w64 (by omega)) ?_
          refine s_as 15 rfl rfl ?_
          refine SX.end_ ?_
          exact KN.back (k + 1, ps.set k (⟨zo.1, zo.2, List.replicate sz 255, false, none, 0, []⟩ : DpG)) ⟨rfl, rfl, rfl, rfl, rfl, rfl, trivial⟩ (fun _ h => by
            have h1 := h.pick [0, 1, 0, 0, 0, 0, 0, 0] rfl
            have h2 := h1.begin_ 5 1
            have h3 := h2.pick [1, 0, 0, 0, 0, 0, 0, 0, 0] rfl
            have h4 := St.close_ [(⟨zo.1, zo.2, List.replicate sz 255, false, none, 0, []⟩ : DpG).own1, (⟨zo.1, zo.2, List.replicate sz 255, false, none, 0, []⟩ : DpG).own2] h3
            have h5 := h4.pick [1, 0, 0, 0, 0, 0, 0, 0] rfl
            have h6 := St.starPut (A := (ps[k]).dat) (A' := (⟨zo.1, zo.2, List.replicate sz 255, false, none, 0, []⟩ : DpG).dat) (i := k) (by rw [List.getElem?_map, List.getElem?_eq_getElem hkp]; rfl) h5
            rw [← List.map_set] at h6
            have e1 := flat_row (row := DpG.row) dpRow_len hkp (⟨zo.1, zo.2, List.replicate sz 255, false, none, 0, []⟩ : DpG)
            have h7 := h6.pick [1, 0, 0, 0, 0, 0, 0] rfl
            simp only
            rw [e1]
            exact h7) ⟨by simp only; omega, by simp only; exact rep_next hps hkl rfl⟩ (by simp only; omega)
        · skip
          obtain rfl : np = k := by omega
          rw [Nat.sub_self, List.replicate_zero, List.append_nil] at hps
          refine CW.exit rfl ?_
          refine KN.blk ?_
          refine KN.code ?_
          refine CW.reg [0, 1, 2] rfl ?_
          refine s_mv 31 rfl rfl ?_
          refine s_add 32 rfl rfl rfl (r := ((bs.length + 1 : Nat) : Int)) (w64 (by omega)) ?_
          refine s_as 14 rfl rfl ?_
          refine SX.end_ ?_
          have hl : (bs ++ [(⟨some ⟨gp, 0, none⟩, np, ps, 0, false⟩ : DbG)]).length = bs.length + 1 := by rw [List.length_append]; rfl
          exact KN.back ⟨A2, c2, (bs ++ [(⟨some ⟨gp, 0, none⟩, np, ps, 0, false⟩ : DbG)])⟩ ⟨rfl, rfl, rfl, rfl, by show some (Value.int .i64 ((bs.length + 1 : Nat) : Int)) = some (.int .i64 (((bs ++ [(⟨some ⟨gp, 0, none⟩, np, ps, 0, false⟩ : DbG)]).length : Nat) : Int)); rw [hl], trivial⟩ (fun w_ h => by
            have h0 : Sto w [(⟨some ⟨gp, 0, none⟩, np, ps, 0, false⟩ : DbG).rows, starA ((⟨some ⟨gp, 0, none⟩, np, ps, 0, false⟩ : DbG).pages.map DpG.dat), blk g 72 #[.int .i64 (nb : Nat), .int .i64 (np : Nat), .int .i64 (sz : Nat), .int .i64 (lv : Nat), .slice A2 (bs.length + 1) c2, .slice (some ⟨gM, 0, none⟩) nb nb, .slice (some ⟨gW, 0, none⟩) nb nb, .slice pA pl.length pc, .int .i64 0, .bool false, .int .i64 0], own 68 1 A2 (bs.length + 1) c2 (bs.map DbG.hdr ++ [.slice (some ⟨gp, 0, none⟩) np np]), starA (bs.map DbG.dat), blk gM 4 (List.replicate nb (.bool false)).toArray, blk gW 3 (List.replicate nb (.int .i64 0)).toArray] w_ := by
              unfold DbG.rows
              simp only [hpl]
              exact h
            have h1 := St.close_ [(⟨some ⟨gp, 0, none⟩, np, ps, 0, false⟩ : DbG).rows, starA ((⟨some ⟨gp, 0, none⟩, np, ps, 0, false⟩ : DbG).pages.map DpG.dat)] h0
            have h2 := (h1.pick [0, 2, 0, 0, 0, 0] rfl).starPush
            simp only [hl, List.map_append, List.map_cons, List.map_nil]
            have e : (⟨some ⟨gp, 0, none⟩, np, ps, 0, false⟩ : DbG).hdr = .slice (some ⟨gp, 0, none⟩) np np := by unfold DbG.hdr; simp only [hpl]
            rw [e]
            exact h2.pick [1, 1, 0, 0, 0] rfl) ⟨by simp only; omega, by
            simp only
            exact rep_append hbs (by unfold DbG.abs BkS.fresh; simp only [hps])⟩ (by simp only; omega)
      · skip
        refine s_makeR 39 np (sz := 3) (by_ := 56) (zv := .agg #[.slice none 0 0, .bool false, .slice none 0 0]) rfl rfl rfl rfl rfl (by decide) (by unfold maxLen; omega) (fun _ h => h.pick [] rfl) (fun gp => ?_)
        refine SX.alt ?_ ?_
        · skip
          refine s_ld 37 rfl rfl (v := .slice A bs.length c) (fun _ hw => hw.blkCell (i := 1) (j := 4) rfl rfl) ?_
          refine s_bsl 40 rfl rfl (cells := #[.slice (some ⟨gp, 0, none⟩) np np]) (by kernel_rfl) rfl (fun _ h => h.pick [] rfl) (fun gb => ?_)
          refine s_app 41 3 rfl rfl rfl rfl (ys := [.slice (some ⟨gp, 0, none⟩) np np]) (fun w hw => Has.cong ((hw.has (i := 0) rfl).blk_sl (m := 1) rfl) rfl) rfl rfl (by omega) (by unfold maxLen; omega) (by omega) (fun _ _ _ h => h.pick [] rfl) (fun A2 c2 hc2 => ?_)
          refine s_nil 42 rfl rfl ?_
          refine s_fa 43 rfl rfl ?_
          refine s_stB 2 rfl rfl rfl rfl rfl (by show 4 < 11; decide) (fun _ h => h.pick [] rfl) ?_
          refine SX.next ?_
          refine CW.seq ?_
          refine CW.pre (C' := Sto w [own 67 3 (some ⟨gp, 0, none⟩) np np ((List.replicate np DpG.nul).flatMap DpG.row), starA ((List.replicate np DpG.nul).map DpG.dat), blk g 72 #[.int .i64 (nb : Nat), .int .i64 (np : Nat), .int .i64 (sz : Nat), .int .i64 (lv : Nat), .slice A2 (bs.length + 1) c2, .slice (some ⟨gM, 0, none⟩) nb nb, .slice (some ⟨gW, 0, none⟩) nb nb, .slice pA pl.length pc, .int .i64 0, .bool false, .int .i64 0], own 68 1 A2 (bs.length + 1) c2 (bs.map DbG.hdr ++ [.slice (some ⟨gp, 0, none⟩) np np]), starA (bs.map DbG.dat), blk gM 4 (List.replicate nb (.bool false)).toArray, blk gW 3 (List.replicate nb (.int .i64 0)).toArray]) (fun _ h => by
            have h1 := h.pick [1, 1, 1, 1, 1, 1] rfl
            have h3 := St.many (fun L h => DpG.nul_dat _ _ _ L h) h1 np
            rw [← List.map_replicate] at h3
            rw [flat_rep (row := DpG.row) DpG.nul np]
            exact h3.pick [1, 0, 0, 0, 0, 0, 0] rfl) ?_
          refine CW.reg [0] rfl ?_
          refine s_as 15 rfl rfl ?_
          refine SX.next ?_
          refine CW.block ?_
          refine CW.loop (G := Nat × List DpG) (fun z => [(0, .int .i64 (nb : Nat)), (1, .int .i64 (np : Nat)), (4, .slice mA ms.length mc), (13, .pointer (some ⟨g, 0, none⟩)), (14, .int .i64 (bs.length : Nat)), (15, .int .i64 (z.1 : Nat))]) (fun z => Sto w [own 67 3 (some ⟨gp, 0, none⟩) np np (z.2.flatMap DpG.row), starA (z.2.map DpG.dat), blk g 72 #[.int .i64 (nb : Nat), .int .i64 (np : Nat), .int .i64 (sz : Nat), .int .i64 (lv : Nat), .slice A2 (bs.length + 1) c2, .slice (some ⟨gM, 0, none⟩) nb nb, .slice (some ⟨gW, 0, none⟩) nb nb, .slice pA pl.length pc, .int .i64 0, .bool false, .int .i64 0], own 68 1 A2 (bs.length + 1) c2 (bs.map DbG.hdr ++ [.slice (some ⟨gp, 0, none⟩) np np]), starA (bs.map DbG.dat), blk gM 4 (List.replicate nb (.bool false)).toArray, blk gW 3 (List.replicate nb (.int .i64 0)).toArray]) (fun z => z.1 ≤ np ∧ z.2.map DpG.abs = List.replicate z.1 (PgS.bare sz) ++ List.replicate (np - z.1) PgS.nul) (fun z => np - z.1) (0, (List.replicate np DpG.nul)) ⟨rfl, rfl, rfl, rfl, rfl, rfl, trivial⟩ (fun _ h => h) ⟨Nat.zero_le _, by rw [List.map_replicate]; rfl⟩ ?_
          rintro ⟨k, ps⟩ ⟨hk, hps⟩
          simp only at hk hps
          dsimp only
          have hpl := rep_len hps hk
          refine CW.seq ?_
          refine CW.seq ?_
          refine CW.reg [0, 1, 2] rfl ?_
          refine s_mv 44 rfl rfl ?_
          refine s_mv 45 rfl rfl ?_
          refine s_lt 46 rfl rfl rfl rfl ?_
          refine SX.next ?_
          refine CW.test rfl (fun hc => ?_) (fun hc => ?_)
          · skip
            have hkl : k < np := by omega
            have hkp : k < ps.length := by omega
            refine CW.skip ?_
            refine KN.code ?_
            refine CW.seq ?_
            refine CW.block ?_
            refine CW.regD (.st true 0 (.st true 1 (.st true 2 (.st true 3 (.st true 4 (.st true 5 (.st true 6 (.st true 7 (.st true 8 (.st false 9 (.st false 10 (.st true 11 (.st false 12 .done))))))))))))) (Sto w [blk g 72 #[.int .i64 (nb : Nat), .int .i64 (np : Nat), .int .i64 (sz : Nat), .int .i64 (lv : Nat), .slice A2 (bs.length + 1) c2, .slice (some ⟨gM, 0, none⟩) nb nb, .slice (some ⟨gW, 0, none⟩) nb nb, .slice pA pl.length pc, .int .i64 0, .bool false, .int .i64 0], own 68 1 A2 (bs.length + 1) c2 (bs.map DbG.hdr ++ [.slice (some ⟨gp, 0, none⟩) np np])]) mixed (by kernel_rfl) (fun _ h => h.drew) (fun _ h => h.pick [2, 2] rfl) ?_
            refine s_mv 49 rfl rfl ?_
            refine s_nil 50 rfl rfl ?_
            refine s_fa 51 rfl rfl ?_
            refine s_ldS 52 rfl rfl (v := .slice A2 (bs.length + 1) c2) (fun _ hw => hw.blkCell (i := 0) (j := 4) rfl rfl) ?_
            refine s_mv 53 rfl rfl ?_
            refine s_iaV 54 bs.length (fun w hw => (hw.has (i := 3) rfl).of_own) rfl rfl rfl rfl (by omega) ?_
            refine s_ldVS 55 (fun w hw => (hw.has (i := 1) rfl).of_own) rfl rfl (append_at (List.length_map ..)) (by omega) ?_
            refine s_mv 56 rfl rfl ?_
            refine s_mv 57 rfl rfl ?_
            refine s_call 58 rfl rfl rfl rfl (fun w hw => dempty_spec g sz w (hw.blkCell (i := 2) (j := 2) rfl rfl) (by omega)) (fun _ h => h.pick [2, 2] rfl) (fun zo hzo => ?_)
            refine s_build 59 rfl rfl (cells := #[.slice zo.1 (List.replicate sz 255).length zo.2, .bool false, .slice none 0 0]) (by kernel_rfl) ?_
            refine s_iaOS 60 1 k rfl rfl rfl rfl rfl hkl ?_
            refine s_stRow 1 (t := k * 3) (vs := [.slice zo.1 (List.replicate sz 255).length zo.2, .bool false, .slice none 0 0]) rfl rfl (by kernel_rfl) rfl rfl (by omega) (by rw [flat_len dpRow_len]; show k * 3 + 3 ≤ ps.length * 3; omega) rfl (fun _ h => h.pick [3, 3] rfl) ?_
            refine SX.end_ ?_
            refine KN.blk ?_
            refine KN.code ?_
            refine CW.reg [0, 1, 2] rfl ?_
            refine s_mv 47 rfl rfl ?_
            refine s_add 48 rfl rfl rfl (r := ((k + 1 : Nat) : Int)) (w64 (by omega)) ?_
            refine s_as 15 rfl rfl ?_
            refine SX.end_ ?_
            exact KN.back (k + 1, ps.set k (⟨zo.1, zo.2, List.replicate sz 255, false, none, 0, []⟩ : DpG)) ⟨rfl, rfl, rfl, rfl, rfl, rfl, trivial⟩ (fun _ h => by
              have h1 := h.pick [0, 1, 0, 0, 0, 0, 0, 0] rfl
              have h2 := h1.begin_ 5 1
              have h3 := h2.pick [1, 0, 0, 0, 0, 0, 0, 0, 0] rfl
              have h4 := St.close_ [(⟨zo.1, zo.2, List.replicate sz 255, false, none, 0, []⟩ : DpG).own1, (⟨zo.1, zo.2, List.replicate sz 255, false, none, 0, []⟩ : DpG).own2] h3
              have h5 := h4.pick [1, 0, 0, 0, 0, 0, 0, 0] rfl
              have h6 := St.starPut (A := (ps[k]).dat) (A' := (⟨zo.1, zo.2, List.replicate sz 255, false, none, 0, []⟩ : DpG).dat) (i := k) (by rw [List.getElem?_map, List.getElem?_eq_getElem hkp]; rfl) h5
              rw [← List.map_set] at h6
              have e1 := flat_row (row := DpG.row) dpRow_len hkp (⟨zo.1, zo.2, List.replicate sz 255, false, none, 0, []⟩ : DpG)
              have h7 := h6.pick [1, 0, 0, 0, 0, 0, 0] rfl
              simp only
              rw [e1]
              exact h7) ⟨by simp only; omega, by simp only; exact rep_next hps hkl rfl⟩ (by simp only; omega)
          · skip
            obtain rfl : np = k := by omega
            rw [Nat.sub_self, List.replicate_zero, List.append_nil] at hps
            refine CW.exit rfl ?_
            refine KN.blk ?_
            refine KN.code ?_
            refine CW.reg [0, 1, 2] rfl ?_
            refine s_mv 31 rfl rfl ?_
            refine s_add 32 rfl rfl rfl (r := ((bs.length + 1 : Nat) : Int)) (w64 (by omega)) ?_
            refine s_as 14 rfl rfl ?_
            refine SX.end_ ?_
            have hl : (bs ++ [(⟨some ⟨gp, 0, none⟩, np, ps, 0, false⟩ : DbG)]).length = bs.length + 1 := by rw [List.length_append]; rfl
            exact KN.back ⟨A2, c2, (bs ++ [(⟨some ⟨gp, 0, none⟩, np, ps, 0, false⟩ : DbG)])⟩ ⟨rfl, rfl, rfl, rfl, by show some (Value.int .i64 ((bs.length + 1 : Nat) : Int)) = some (.int .i64 (((bs ++ [(⟨some ⟨gp, 0, none⟩, np, ps, 0, false⟩ : DbG)]).length : Nat) : Int)); rw [hl], trivial⟩ (fun w_ h => by
              have h0 : Sto w [(⟨some ⟨gp, 0, none⟩, np, ps, 0, false⟩ : DbG).rows, starA ((⟨some ⟨gp, 0, none⟩, np, ps, 0, false⟩ : DbG).pages.map DpG.dat), blk g 72 #[.int .i64 (nb : Nat), .int .i64 (np : Nat), .int .i64 (sz : Nat), .int .i64 (lv : Nat), .slice A2 (bs.length + 1) c2, .slice (some ⟨gM, 0, none⟩) nb nb, .slice (some ⟨gW, 0, none⟩) nb nb, .slice pA pl.length pc, .int .i64 0, .bool false, .int .i64 0], own 68 1 A2 (bs.length + 1) c2 (bs.map DbG.hdr ++ [.slice (some ⟨gp, 0, none⟩) np np]), starA (bs.map DbG.dat), blk gM 4 (List.replicate nb (.bool false)).toArray, blk gW 3 (List.replicate nb (.int .i64 0)).toArray] w_ := by
                unfold DbG.rows
                simp only [hpl]
                exact h
              have h1 := St.close_ [(⟨some ⟨gp, 0, none⟩, np, ps, 0, false⟩ : DbG).rows, starA ((⟨some ⟨gp, 0, none⟩, np, ps, 0, false⟩ : DbG).pages.map DpG.dat)] h0
              have h2 := (h1.pick [0, 2, 0, 0, 0, 0] rfl).starPush
              simp only [hl, List.map_append, List.map_cons, List.map_nil]
              have e : (⟨some ⟨gp, 0, none⟩, np, ps, 0, false⟩ : DbG).hdr = .slice (some ⟨gp, 0, none⟩) np np := by unfold DbG.hdr; simp only [hpl]
              rw [e]
              exact h2.pick [1, 1, 0, 0, 0] rfl) ⟨by simp only; omega, by
              simp only
              exact rep_append hbs (by unfold DbG.abs BkS.fresh; simp only [hps])⟩ (by simp only; omega)
        · skip
          refine s_bsl 40 rfl rfl (cells := #[.slice (some ⟨gp, 0, none⟩) np np]) (by kernel_rfl) rfl (fun _ h => h.pick [] rfl) (fun gb => ?_)
          refine s_ld 37 rfl rfl (v := .slice A bs.length c) (fun _ hw => hw.blkCell (i := 2) (j := 4) rfl rfl) ?_
          refine s_app 41 3 rfl rfl rfl rfl (ys := [.slice (some ⟨gp, 0, none⟩) np np]) (fun w hw => Has.cong ((hw.has (i := 0) rfl).blk_sl (m := 1) rfl) rfl) rfl rfl (by omega) (by unfold maxLen; omega) (by omega) (fun _ _ _ h => h.pick [] rfl) (fun A2 c2 hc2 => ?_)
          refine s_nil 42 rfl rfl ?_
          refine s_fa 43 rfl rfl ?_
          refine s_stB 2 rfl rfl rfl rfl rfl (by show 4 < 11; decide) (fun _ h => h.pick [] rfl) ?_
          refine SX.next ?_
          refine CW.seq ?_
          refine CW.pre (C' := Sto w [own 67 3 (some ⟨gp, 0, none⟩) np np ((List.replicate np DpG.nul).flatMap DpG.row), starA ((List.replicate np DpG.nul).map DpG.dat), blk g 72 #[.int .i64 (nb : Nat), .int .i64 (np : Nat), .int .i64 (sz : Nat), .int .i64 (lv : Nat), .slice A2 (bs.length + 1) c2, .slice (some ⟨gM, 0, none⟩) nb nb, .slice (some ⟨gW, 0, none⟩) nb nb, .slice pA pl.length pc, .int .i64 0, .bool false, .int .i64 0], own 68 1 A2 (bs.length + 1) c2 (bs.map DbG.hdr ++ [.slice (some ⟨gp, 0, none⟩) np np]), starA (bs.map DbG.dat), blk gM 4 (List.replicate nb (.bool false)).toArray, blk gW 3 (List.replicate nb (.int .i64 0)).toArray]) (fun _ h => by
            have h1 := h.pick [1, 1, 1, 1, 1, 1] rfl
            have h3 := St.many (fun L h => DpG.nul_dat _ _ _ L h) h1 np
            rw [← List.map_replicate] at h3
            rw [flat_rep (row := DpG.row) DpG.nul np]
            exact h3.pick [1, 0, 0, 0, 0, 0, 0] rfl) ?_
          refine CW.reg [0] rfl ?_
          refine s_as 15 rfl rfl ?_
          refine SX.next ?_
          refine CW.block ?_
          refine CW.loop (G := Nat × List DpG) (fun z => [(0, .int .i64 (nb : Nat)), (1, .int .i64 (np : Nat)), (4, .slice mA ms.length mc), (13, .pointer (some ⟨g, 0, none⟩)), (14, .int .i64 (bs.length : Nat)), (15, .int .i64 (z.1 : Nat))]) (fun z => Sto w [own 67 3 (some ⟨gp, 0, none⟩) np np (z.2.flatMap DpG.row), starA (z.2.map DpG.dat), blk g 72 #[.int .i64 (nb : Nat), .int .i64 (np : Nat), .int .i64 (sz : Nat), .int .i64 (lv : Nat), .slice A2 (bs.length + 1) c2, .slice (some ⟨gM, 0, none⟩) nb nb, .slice (some ⟨gW, 0, none⟩) nb nb, .slice pA pl.length pc, .int .i64 0, .bool false, .int .i64 0], own 68 1 A2 (bs.length + 1) c2 (bs.map DbG.hdr ++ [.slice (some ⟨gp, 0, none⟩) np np]), starA (bs.map DbG.dat), blk gM 4 (List.replicate nb (.bool false)).toArray, blk gW 3 (List.replicate nb (.int .i64 0)).toArray]) (fun z => z.1 ≤ np ∧ z.2.map DpG.abs = List.replicate z.1 (PgS.bare sz) ++ List.replicate (np - z.1) PgS.nul) (fun z => np - z.1) (0, (List.replicate np DpG.nul)) ⟨rfl, rfl, rfl, rfl, rfl, rfl, trivial⟩ (fun _ h => h) ⟨Nat.zero_le _, by rw [List.map_replicate]; rfl⟩ ?_
          rintro ⟨k, ps⟩ ⟨hk, hps⟩
          simp only at hk hps
          dsimp only
          have hpl := rep_len hps hk
          refine CW.seq ?_
          refine CW.seq ?_
          refine CW.reg [0, 1, 2] rfl ?_
          refine s_mv 44 rfl rfl ?_
          refine s_mv 45 rfl rfl ?_
          refine s_lt 46 rfl rfl rfl rfl ?_
          refine SX.next ?_
          refine CW.test rfl (fun hc => ?_) (fun hc => ?_)
          · skip
            have hkl : k < np := by omega
            have hkp : k < ps.length := by omega
            refine CW.skip ?_
            refine KN.code ?_
            refine CW.seq ?_
            refine CW.block ?_
            refine CW.regD (.st true 0 (.st true 1 (.st true 2 (.st true 3 (.st true 4 (.st true 5 (.st true 6 (.st true 7 (.st true 8 (.st false 9 (.st false 10 (.st true 11 (.st false 12 .done))))))))))))) (Sto w [blk g 72 #[.int .i64 (nb : Nat), .int .i64 (np : Nat), .int .i64 (sz : Nat), .int .i64 (lv : Nat), .slice A2 (bs.length + 1) c2, .slice (some ⟨gM, 0, none⟩) nb nb, .slice (some ⟨gW, 0, none⟩) nb nb, .slice pA pl.length pc, .int .i64 0, .bool false, .int .i64 0], own 68 1 A2 (bs.length + 1) c2 (bs.map DbG.hdr ++ [.slice (some ⟨gp, 0, none⟩) np np])]) mixed (by kernel_rfl) (fun _ h => h.drew) (fun _ h => h.pick [2, 2] rfl) ?_
            refine s_mv 49 rfl rfl ?_
            refine s_nil 50 rfl rfl ?_
            refine s_fa 51 rfl rfl ?_
            refine s_ldS 52 rfl rfl (v := .slice A2 (bs.length + 1) c2) (fun _ hw => hw.blkCell (i := 0) (j := 4) rfl rfl) ?_
            refine s_mv 53 rfl rfl ?_
            refine s_iaV 54 bs.length (fun w hw => (hw.has (i := 3) rfl).of_own) rfl rfl rfl rfl (by omega) ?_
            refine s_ldVS 55 (fun w hw => (hw.has (i := 1) rfl).of_own) rfl rfl (append_at (List.length_map ..)) (by omega) ?_
            refine s_mv 56 rfl rfl ?_
            refine s_mv 57 rfl rfl ?_
            refine s_call 58 rfl rfl rfl rfl (fun w hw => dempty_spec g sz w (hw.blkCell (i := 2) (j := 2) rfl rfl) (by omega)) (fun _ h => h.pick [2, 2] rfl) (fun zo hzo => ?_)
            refine s_build 59 rfl rfl (cells := #[.slice zo.1 (List.replicate sz 255).length zo.2, .bool false, .slice none 0 0]) (by kernel_rfl) ?_
            refine s_iaOS 60 1 k rfl rfl rfl rfl rfl hkl ?_
            refine s_stRow 1 (t := k * 3) (vs := [.slice zo.1 (List.replicate sz 255).length zo.2, .bool false, .slice none 0 0]) rfl rfl (by kernel_rfl) rfl rfl (by omega) (by rw [flat_len dpRow_len]; show k * 3 + 3 ≤ ps.length * 3; omega) rfl (fun _ h => h.pick [3, 3] rfl) ?_
            refine SX.end_ ?_
            refine KN.blk ?_
            refine KN.code ?_
            refine CW.reg [0, 1, 2] rfl ?_
            refine s_mv 47 rfl rfl ?_
            refine s_add 48 rfl rfl rfl (r := ((k + 1 : Nat) : Int)) (w64 (by omega)) ?_
            refine s_as 15 rfl rfl ?_
            refine SX.end_ ?_
            exact KN.back (k + 1, ps.set k (⟨zo.1, zo.2, List.replicate sz 255, false, none, 0, []⟩ : DpG)) ⟨rfl, rfl, rfl, rfl, rfl, rfl, trivial⟩ (fun _ h => by
              have h1 := h.pick [0, 1, 0, 0, 0, 0, 0, 0] rfl
              have h2 := h1.begin_ 5 1
              have h3 := h2.pick [1, 0, 0, 0, 0, 0, 0, 0, 0] rfl
              have h4 := St.close_ [(⟨zo.1, zo.2, List.replicate sz 255, false, none, 0, []⟩ : DpG).own1, (⟨zo.1, zo.2, List.replicate sz 255, false, none, 0, []⟩ : DpG).own2] h3
              have h5 := h4.pick [1, 0, 0, 0, 0, 0, 0, 0] rfl
              have h6 := St.starPut (A := (ps[k]).dat) (A' := (⟨zo.1, zo.2, List.replicate sz 255, false, none, 0, []⟩ : DpG).dat) (i := k) (by rw [List.getElem?_map, List.getElem?_eq_getElem hkp]; rfl) h5
              rw [← List.map_set] at h6
              have e1 := flat_row (row := DpG.row) dpRow_len hkp (⟨zo.1, zo.2, List.replicate sz 255, false, none, 0, []⟩ : DpG)
              have h7 := h6.pick [1, 0, 0, 0, 0, 0, 0] rfl
              simp only
              rw [e1]
              exact h7) ⟨by simp only; omega, by simp only; exact rep_next hps hkl rfl⟩ (by simp only; omega)
          · skip
            obtain rfl : np = k := by omega
            rw [Nat.sub_self, List.replicate_zero, List.append_nil] at hps
            refine CW.exit rfl ?_
            refine KN.blk ?_
            refine KN.code ?_
            refine CW.reg [0, 1, 2] rfl ?_
            refine s_mv 31 rfl rfl ?_
            refine s_add 32 rfl rfl rfl (r := ((bs.length + 1 : Nat) : Int)) (w64 (by omega)) ?_
            refine s_as 14 rfl rfl ?_
            refine SX.end_ ?_
            have hl : (bs ++ [(⟨some ⟨gp, 0, none⟩, np, ps, 0, false⟩ : DbG)]).length = bs.length + 1 := by rw [List.length_append]; rfl
            exact KN.back ⟨A2, c2, (bs ++ [(⟨some ⟨gp, 0, none⟩, np, ps, 0, false⟩ : DbG)])⟩ ⟨rfl, rfl, rfl, rfl, by show some (Value.int .i64 ((bs.length + 1 : Nat) : Int)) = some (.int .i64 (((bs ++ [(⟨some ⟨gp, 0, none⟩, np, ps, 0, false⟩ : DbG)]).length : Nat) : Int)); rw [hl], trivial⟩ (fun w_ h => by
              have h0 : Sto w [(⟨some ⟨gp, 0, none⟩, np, ps, 0, false⟩ : DbG).rows, starA ((⟨some ⟨gp, 0, none⟩, np, ps, 0, false⟩ : DbG).pages.map DpG.dat), blk g 72 #[.int .i64 (nb : Nat), .int .i64 (np : Nat), .int .i64 (sz : Nat), .int .i64 (lv : Nat), .slice A2 (bs.length + 1) c2, .slice (some ⟨gM, 0, none⟩) nb nb, .slice (some ⟨gW, 0, none⟩) nb nb, .slice pA pl.length pc, .int .i64 0, .bool false, .int .i64 0], own 68 1 A2 (bs.length + 1) c2 (bs.map DbG.hdr ++ [.slice (some ⟨gp, 0, none⟩) np np]), starA (bs.map DbG.dat), blk gM 4 (List.replicate nb (.bool false)).toArray, blk gW 3 (List.replicate nb (.int .i64 0)).toArray] w_ := by
                unfold DbG.rows
                simp only [hpl]
                exact h
              have h1 := St.close_ [(⟨some ⟨gp, 0, none⟩, np, ps, 0, false⟩ : DbG).rows, starA ((⟨some ⟨gp, 0, none⟩, np, ps, 0, false⟩ : DbG).pages.map DpG.dat)] h0
              have h2 := (h1.pick [0, 2, 0, 0, 0, 0] rfl).starPush
              simp only [hl, List.map_append, List.map_cons, List.map_nil]
              have e : (⟨some ⟨gp, 0, none⟩, np, ps, 0, false⟩ : DbG).hdr = .slice (some ⟨gp, 0, none⟩) np np := by unfold DbG.hdr; simp only [hpl]
              rw [e]
              exact h2.pick [1, 1, 0, 0, 0] rfl) ⟨by simp only; omega, by
              simp only
              exact rep_append hbs (by unfold DbG.abs BkS.fresh; simp only [hps])⟩ (by simp only; omega)
    · skip
      have hbl : bs.length = nb := by omega
      have hmk : bs.map mkV = List.replicate nb (.bool false) := by
        rw [show bs.map mkV = (bs.map DbG.abs).map (fun s => Value.bool s.marked) from by rw [List.map_map]; rfl, hbs, List.map_replicate, hbl]
        rfl
      have hwn : bs.map wnV = List.replicate nb (.int .i64 0) := by
        rw [show bs.map wnV = (bs.map DbG.abs).map (fun s => Value.int .i64 s.worn) from by rw [List.map_map]; rfl, hbs, List.map_replicate, hbl]
        rfl
      rw [hbl] at hbs
      refine CW.exit rfl ?_
      refine KN.code ?_
      refine CW.seq ?_
      refine CW.seq ?_
      refine CW.reg [0] rfl ?_
      refine s_as 16 rfl rfl ?_
      refine SX.next ?_
      refine CW.block ?_
      refine CW.loop (G := Nat × List DbG) (fun z => [(4, .slice mA ms.length mc), (13, .pointer (some ⟨g, 0, none⟩)), (16, .int .i64 (z.1 : Nat))]) (fun z => Sto w [blk g 72 #[.int .i64 (nb : Nat), .int .i64 (np : Nat), .int .i64 (sz : Nat), .int .i64 (lv : Nat), .slice A bs.length c, .slice (some ⟨gM, 0, none⟩) nb nb, .slice (some ⟨gW, 0, none⟩) nb nb, .slice pA pl.length pc, .int .i64 0, .bool false, .int .i64 0], own 68 1 A z.2.length c (z.2.map DbG.hdr), starA (z.2.map DbG.dat), blk gM 4 (z.2.map mkV).toArray, blk gW 3 (List.replicate nb (.int .i64 0)).toArray]) (fun z => z.1 ≤ ms.length ∧ z.2.map DbG.abs = (ms.take z.1).foldl markB (List.replicate nb (BkS.fresh np sz)) ∧ z.2.map wnV = List.replicate nb (.int .i64 0)) (fun z => ms.length - z.1) (0, bs) ⟨rfl, rfl, rfl, trivial⟩ (fun _ h => by
  simp only [hmk]
  exact h) ⟨Nat.zero_le _, hbs, hwn⟩ ?_
      rintro ⟨j, cs⟩ ⟨hj, hcs, hcw⟩
      simp only at hj hcs hcw
      dsimp only
      have hcl : cs.length = nb := by
        have := congrArg List.length hcs
        rw [List.length_map, marks_len, List.length_replicate] at this
        exact this
      refine CW.seq ?_
      refine CW.seq ?_
      refine CW.reg [0, 1, 2, 3] rfl ?_
      refine s_mv 61 rfl rfl ?_
      refine s_mv 62 rfl rfl ?_
      refine s_len 63 rfl rfl ?_
      refine s_lt 64 rfl rfl rfl rfl ?_
      refine SX.next ?_
      refine CW.test rfl (fun hc => ?_) (fun hc => ?_)
      · skip
        have hjl : j < ms.length := by omega
        have hmj : ms[j]? = some (ms.getD j 0) := by rw [List.getD_eq_getElem?_getD, List.getElem?_eq_getElem hjl]; rfl
        obtain ⟨hm0, hm1⟩ := hms _ (List.mem_of_getElem? hmj)
        obtain ⟨m, hm⟩ := Int.eq_ofNat_of_zero_le hm0
        have hmn : m < nb := by omega
        have hmc : m < cs.length := by omega
        obtain ⟨bm, hbm⟩ : ∃ bm, cs[m]? = some bm := ⟨_, List.getElem?_eq_getElem hmc⟩
        refine CW.skip ?_
        refine KN.code ?_
        refine CW.seq ?_
        refine CW.block ?_
        refine CW.regD (.st true 0 (.st true 1 (.st true 2 (.st true 3 (.st true 4 (.st true 5 (.st true 6 (.st true 7 (.st true 8 (.st false 9 .done)))))))))) (Sto w [blk g 72 #[.int .i64 (nb : Nat), .int .i64 (np : Nat), .int .i64 (sz : Nat), .int .i64 (lv : Nat), .slice A bs.length c, .slice (some ⟨gM, 0, none⟩) nb nb, .slice (some ⟨gW, 0, none⟩) nb nb, .slice pA pl.length pc, .int .i64 0, .bool false, .int .i64 0]]) mixed (by kernel_rfl) (fun _ h => h.drew) (fun _ h => h.pick [0] rfl) ?_
        refine s_mv 67 rfl rfl ?_
        refine s_nil 68 rfl rfl ?_
        refine s_fa 69 rfl rfl ?_
        refine s_ldS 70 rfl rfl (v := .slice (some ⟨gM, 0, none⟩) nb nb) (fun _ hw => hw.blkCell (i := 0) (j := 5) rfl rfl) ?_
        refine s_mv 71 rfl rfl ?_
        refine s_mv 72 rfl rfl ?_
        refine s_iaV 73 j (fun w hw => hw.old hM) rfl rfl rfl rfl hjl ?_
        refine s_ldVS 74 (fun w hw => hw.old hM) rfl rfl (by rw [Nat.mul_one]; exact intsAt hjl) (by omega) ?_
        refine s_ia0 75 m rfl rfl rfl hm hmn ?_
        refine s_stB 3 rfl rfl rfl rfl rfl (by simpa using hmc) (fun _ h => h.pick [0] rfl) ?_
        refine SX.end_ ?_
        refine KN.blk ?_
        refine KN.code ?_
        refine CW.reg [0, 1, 2] rfl ?_
        refine s_mv 65 rfl rfl ?_
        refine s_add 66 rfl rfl rfl (r := ((j + 1 : Nat) : Int)) (w64 (by omega)) ?_
        refine s_as 16 rfl rfl ?_
        refine SX.end_ ?_
        exact KN.back (j + 1, (cs.set m { bm with marked := true })) ⟨rfl, rfl, rfl, trivial⟩ (fun w_ h => by
          have e1 : (cs.set m { bm with marked := true }).map DbG.hdr = cs.map DbG.hdr := map_keep hbm rfl
          have e2 : (cs.set m { bm with marked := true }).map DbG.dat = cs.map DbG.dat := map_keep hbm rfl
          have e3 : ((cs.set m { bm with marked := true }).map mkV).toArray = (cs.map mkV).toArray.setIfInBounds m (.bool true) := by rw [List.map_set, List.setIfInBounds_toArray]; rfl
          simp only [e1, e2, e3, List.length_set]
          exact h) ⟨by simp only; omega, by
            simp only
            rw [List.take_add_one, hmj, Option.toList_some, List.foldl_append, ← hcs, List.map_set]
            show _ = markB (cs.map DbG.abs) (ms.getD j 0)
            unfold markB
            rw [hm, Int.toNat_natCast, List.getD_eq_getElem?_getD, List.getElem?_map, hbm]
            rfl, by
            simp only
            rw [map_keep (f := wnV) (b := { bm with marked := true }) hbm rfl]
            exact hcw⟩ (by simp only; omega)
      · skip
        obtain rfl : j = ms.length := by omega
        rw [List.take_length] at hcs
        refine CW.exit rfl ?_
        refine KN.code ?_
        refine CW.seq ?_
        refine CW.reg [0, 1] rfl ?_
        refine s_mv 76 rfl rfl ?_
        refine s_as 12 rfl rfl ?_
        refine SX.next ?_
        refine CW.ret ?_
        exact KN.ret (rs := [.tmp 12]) Tryd.results30 rfl (fun w_ hw => by
  refine ⟨(g, (⟨(np : Nat), (sz : Nat), (lv : Nat), A, c, cs, some ⟨gM, 0, none⟩, nb, some ⟨gW, 0, none⟩, nb, pA, pc, pl, 0, false, 0⟩ : DcG)), rfl, ⟨by unfold ChS.new DcG.abs; simp only [hcs], rfl, rfl, rfl⟩, ?_⟩
  have h1 := hw.blkOwnM (q := 3) (m := nb) (c := nb) (sz := 1) rfl (by simp [hcl]) (Nat.le_refl _) (by unfold maxLen; omega)
  have h2 := h1.blkOwnM (q := 4) (m := nb) (c := nb) (sz := 1) rfl (by simp) (Nat.le_refl _) (by unfold maxLen; omega)
  have e1 : (cs.map mkV).toArray.toList.take (nb * 1) = cs.map mkV := List.take_of_length_le (by simp [hcl])
  have e2 : (List.replicate nb (Value.int .i64 0)).toArray.toList.take (nb * 1) = cs.map wnV := by rw [hcw]; exact List.take_of_length_le (by simp)
  rw [e1, e2] at h2
  have h3 : Sto w [(⟨(np : Nat), (sz : Nat), (lv : Nat), A, c, cs, some ⟨gM, 0, none⟩, nb, some ⟨gW, 0, none⟩, nb, pA, pc, pl, 0, false, 0⟩ : DcG).hd g, (⟨(np : Nat), (sz : Nat), (lv : Nat), A, c, cs, some ⟨gM, 0, none⟩, nb, some ⟨gW, 0, none⟩, nb, pA, pc, pl, 0, false, 0⟩ : DcG).hds, (⟨(np : Nat), (sz : Nat), (lv : Nat), A, c, cs, some ⟨gM, 0, none⟩, nb, some ⟨gW, 0, none⟩, nb, pA, pc, pl, 0, false, 0⟩ : DcG).bst, (⟨(np : Nat), (sz : Nat), (lv : Nat), A, c, cs, some ⟨gM, 0, none⟩, nb, some ⟨gW, 0, none⟩, nb, pA, pc, pl, 0, false, 0⟩ : DcG).mks, (⟨(np : Nat), (sz : Nat), (lv : Nat), A, c, cs, some ⟨gM, 0, none⟩, nb, some ⟨gW, 0, none⟩, nb, pA, pc, pl, 0, false, 0⟩ : DcG).wns] w_ := by
    unfold DcG.hd DcG.cells DcG.hds DcG.bst DcG.mks DcG.wns
    simp only [hcl]
    rw [hbl] at h2
    simp only [hcl] at h2
    exact h2
  exact h3.docC)
end Go.Proofs.YtcapijdokbkgaaaDoor
end
section
/- A chip, and the document's, are told a thing. Conditions: they are lent; bytes and plan are read where they lie; errors' variables stay. -/
namespace Go.Proofs.YtcapijdokbkgaaaDoor
open Go Go.Sx Go.Fm
set_option maxRecDepth 100000
end Go.Proofs.YtcapijdokbkgaaaDoor
end
section
/- A chip tells what the document's does. Conditions: both are read where they lie, and are the same. -/
namespace Go.Proofs.YtcapijdokbkgaaaDoor
open Go Go.Sx Go.Fm
set_option maxRecDepth 100000
theorem mk_at {bs : List DbG} {i : Nat} {b : DbG} (h : bs[i]? = some b) : (bs.map mkV)[i]? = some (.bool b.marked) := by
  rw [List.getElem?_map, h]
  rfl

set_option maxHeartbeats 1600000 in

theorem same14_spec (g : Nat) (x : ChG) (gd : Nat) (y : DcG) (hx : x.abs.Ok) (he : y.abs = x.abs) (b p : Int) (w : World) (hc : Has (chipA g x) w) (hd : Has (docA gd y) w) : Spec1 Tryd.prog 37 [.pointer (some ⟨g, 0, none⟩), .pointer (some ⟨gd, 0, none⟩), .agg #[.int .i64 b, .int .i64 p]] w (.bool true) := by
  have hy : y.abs.Ok := by rw [he]; exact hx
  have hops : x.ops = y.ops := (congrArg ChS.ops he).symm
  have hof : x.off = y.off := (congrArg ChS.off he).symm
  have hbr : x.broken = y.broken := (congrArg ChS.broken he).symm
  refine spec_of Tryd.func37 rfl Tryd.ntmps37 rfl ?_
  refine CW.seq ?_
  refine CW.reg [0, 1] rfl ?_
  refine s_box 5 rfl rfl (fun _ _ => trivial) (fun b5 => ?_)
  refine s_as 6 rfl rfl ?_
  refine SX.next ?_
  refine CW.seq ?_
  refine CW.seq ?_
  refine CW.regD (.st true 0 (.st true 2 (.st true 3 (.st true 4 (.st true 5 (.st false 1 (.st true 6 (.st true 7 (.st true 8 (.st true 10 (.st true 11 (.st true 12 (.st true 13 (.st false 9 (.st true 14 (.st true 15 (.st true 16 (.st true 17 (.st true 19 (.st true 20 (.st true 21 (.st true 22 (.st false 18 (.st true 23 (.st true 24 .done))))))))))))))))))))))))) (Sto w []) mixed (by kernel_rfl) (fun _ h => h.drew) (fun _ h => h.pick [] rfl) ?_
  refine s_mv 8 rfl rfl ?_
  refine s_mv 10 rfl rfl ?_
  refine s_nil 11 rfl rfl ?_
  refine s_fa 12 rfl rfl ?_
  refine s_ldS 13 rfl rfl (v := .int .i64 y.ops) (fun _ hw => doc_cell (hw.old hd) rfl) ?_
  refine s_call1 9 rfl rfl rfl rfl (fun w hw => ops_spec g x w (hw.old hc)) (fun _ h => h.pick [] rfl) ?_
  refine s_ne 14 rfl rfl rfl (decide_eq_false (fun h => h hops)) ?_
  refine s_mv 15 rfl rfl ?_
  refine s_mv 16 rfl rfl ?_
  refine s_mv 18 rfl rfl ?_
  refine s_nil 19 rfl rfl ?_
  refine s_fa 20 rfl rfl ?_
  refine s_ldS 21 rfl rfl (v := .bool y.off) (fun _ hw => doc_cell (hw.old hd) rfl) ?_
  refine s_call1 17 rfl rfl rfl rfl (fun w hw => on_spec g x w (hw.old hc)) (fun _ h => h.pick [] rfl) ?_
  refine s_eqB 22 rfl rfl rfl (r := false) (by rw [hof]; cases y.off <;> rfl) ?_
  refine s_pickF 23 rfl rfl rfl ?_
  refine s_mv 24 rfl rfl ?_
  refine s_mv 25 rfl rfl ?_
  refine s_mv 27 rfl rfl ?_
  refine s_nil 28 rfl rfl ?_
  refine s_fa 29 rfl rfl ?_
  refine s_ldS 30 rfl rfl (v := .int .i64 y.broken) (fun _ hw => doc_cell (hw.old hd) rfl) ?_
  refine s_call1 26 rfl rfl rfl rfl (fun w hw => broken_spec g x w (hw.old hc)) (fun _ h => h.pick [] rfl) ?_
  refine s_ne 31 rfl rfl rfl (decide_eq_false (fun h => h hbr)) ?_
  refine s_pickF 32 rfl rfl rfl ?_
  refine SX.next ?_
  refine CW.condF rfl ?_
  refine CW.skip ?_
  refine KN.code ?_
  refine CW.seq ?_
  refine CW.seq ?_
  refine CW.reg [0, 1, 2, 3] rfl ?_
  refine s_mv 33 rfl rfl ?_
  refine s_ldW 34 0 rfl rfl rfl ?_
  refine s_call1 35 rfl rfl rfl rfl (fun w hw => dhas_spec gd y b p w (hw.old hd)) (fun _ _ => trivial) ?_
  refine s_not 36 rfl rfl ?_
  refine SX.next ?_
  refine CW.cond rfl (fun hin => ?_) (fun hin => ?_)
  · skip
    replace hin : y.abs.inn b p = false := by simpa using hin
    have hix : x.abs.inn b p = false := by rw [← he]; exact hin
    refine CW.seq ?_
    refine CW.reg [0, 1, 2, 3, 4, 5, 6, 7, 8, 9, 10, 11] rfl ?_
    refine s_mv 37 rfl rfl ?_
    refine s_ldW 38 0 rfl rfl rfl ?_
    refine s_call 39 rfl rfl rfl rfl (X := Option Addr × Nat) (v := fun z => .slice z.1 ([] : List Nat).length z.2) (pf := fun z => ([] : List Nat).length ≤ z.2) (L' := fun z => [own 5 1 z.1 ([] : List Nat).length z.2 (nats .u8 [])]) (fun w hw => by have := cells_spec g x hx b p w (hw.old hc); rw [if_neg (by rw [hix]; decide)] at this; exact this) (fun _ _ => trivial) (fun z hz => ?_)
    refine s_len 40 rfl rfl ?_
    refine s_eq 41 rfl rfl rfl (decide_eq_true rfl) ?_
    refine s_mv 42 rfl rfl ?_
    refine s_mv 43 rfl rfl ?_
    refine s_ldW 44 1 rfl rfl rfl ?_
    refine s_call1 45 rfl rfl rfl rfl (v := .bool false) (fun w hw => by have := used_spec g x hx b p w (hw.old hc); rw [hix] at this; exact this) (fun _ _ => trivial) ?_
    refine s_not 46 rfl rfl ?_
    refine s_pickT 47 rfl rfl rfl ?_
    refine s_as 6 rfl rfl ?_
    refine SX.next ?_
    refine CW.ret ?_
    exact KN.ret (rs := [.tmp 6]) Tryd.results37 rfl (fun w hw => ⟨rfl, hw.nothing⟩)
  · skip
    replace hin : y.abs.inn b p = true := by simpa using hin
    have hix : x.abs.inn b p = true := by rw [← he]; exact hin
    have hhx : x.abs.has b = true := (has_inn hix).1
    obtain ⟨i, k, bk, pg, hbi, hpk, hbk, hpg, hba, hpa⟩ := dinn_at hy hin
    have hil := (List.getElem?_eq_some_iff.1 hbk).1
    have hkl := (List.getElem?_eq_some_iff.1 hpg).1
    have hbm := List.mem_of_getElem? hbk
    have hpm := List.mem_of_getElem? hpg
    obtain ⟨ho1, ho2, ho3, ho4⟩ := dpg_ok hy hbk hpg
    have hcl : (x.abs.pg b p).cells = pg.l := by rw [← he, hpa]; rfl
    have hus : (x.abs.pg b p).used = pg.used := by rw [← he, hpa]; rfl
    have hwo : (x.abs.bk b).worn = bk.worn := by rw [← he, hba]; rfl
    have hma : (x.abs.bk b).marked = bk.marked := by rw [← he, hba]; rfl
    refine CW.skip ?_
    refine KN.code ?_
    refine CW.seq ?_
    refine CW.regD (.st true 0 (.st true 1 (.st true 2 (.st true 3 (.st true 4 (.st true 5 (.st true 6 (.st true 7 (.st true 8 (.st true 9 (.st true 10 (.st true 11 (.st false 12 (.st false 13 .done)))))))))))))) (Sto w [blk b5 31 #[.int .i64 b, .int .i64 p]]) mixed (by kernel_rfl) (fun _ h => h.drew) (fun _ h => h.pick [0] rfl) ?_
    refine s_mv 48 rfl rfl ?_
    refine s_nil 49 rfl rfl ?_
    refine s_fa 50 rfl rfl ?_
    refine s_ldS 51 rfl rfl (v := .slice y.A y.blocks.length y.c) (fun _ hw => doc_cell (hw.old hd) rfl) ?_
    refine s_fa 52 rfl rfl ?_
    refine s_ldS 53 rfl rfl (v := .int .i64 b) (fun _ hw => hw.blkCell (i := 0) (j := 0) rfl rfl) ?_
    refine s_iaV 54 i (fun w hw => doc_hds (hw.old hd)) rfl rfl rfl hbi hil ?_
    refine s_ldVS 55 (fun w hw => doc_hds (hw.old hd)) rfl rfl (hdr_at1 hbk) (by omega) ?_
    refine s_fa 56 rfl rfl ?_
    refine s_ldS 57 rfl rfl (v := .int .i64 p) (fun _ hw => hw.blkCell (i := 0) (j := 1) rfl rfl) ?_
    refine s_iaV 58 k (fun w hw => db_rows (doc_bk (hw.old hd) hbm)) rfl rfl rfl hpk hkl ?_
    refine s_ldRS 59 (cs := pg.row) rfl rfl rfl (fun _ hw j v hj => dpage_cell (hw.old hd) hbk hpg hj) ?_
    refine s_alloc 7 rfl (fun _ h => h.pick [0] rfl) (fun b7 => ?_)
    refine s_stAll 0 rfl rfl (by kernel_rfl) rfl rfl rfl rfl (fun _ h => h.pick [1] rfl) ?_
    refine SX.next ?_
    refine CW.seq ?_
    refine CW.regD (.st true 0 (.st true 1 (.st true 3 (.st true 4 (.st false 2 (.st false 5 (.st true 6 (.st true 7 (.st true 8 (.st true 10 (.st true 11 (.st false 9 (.st true 12 (.st true 13 (.st true 14 (.st true 15 (.st true 16 (.st true 17 (.st true 19 (.st true 20 (.st true 21 (.st true 22 (.st true 23 (.st true 24 (.st true 25 (.st true 26 (.st false 18 (.st true 27 (.st true 28 (.st true 29 (.st true 30 (.st true 31 (.st true 32 (.st true 34 (.st true 35 (.st true 36 (.st true 37 (.st true 38 (.st true 39 (.st true 40 (.st true 41 (.st false 33 (.st true 42 (.st true 43 (.st true 44 .done))))))))))))))))))))))))))))))))))))))))))))) (Sto w [blk b7 67 #[.slice pg.A pg.l.length pg.c, .bool pg.used, .slice pg.B pg.laid.length pg.d], blk b5 31 #[.int .i64 b, .int .i64 p]]) mixed (by kernel_rfl) (fun _ h => h.drew) (fun _ h => h.pick [0, 0] rfl) ?_
    refine s_mv 60 rfl rfl ?_
    refine s_ldRS 61 (cs := [.int .i64 b, .int .i64 p]) rfl rfl rfl (fun _ hw => hw.blkRow (i := 1) rfl) ?_
    refine s_fa 63 rfl rfl ?_
    refine s_ldS 64 rfl rfl (v := .slice pg.A pg.l.length pg.c) (fun _ hw => hw.blkCell (i := 0) (j := 0) rfl rfl) ?_
    refine s_call 62 rfl rfl rfl rfl (X := Option Addr × Nat) (v := fun z => .slice z.1 pg.l.length z.2) (pf := fun z => pg.l.length ≤ z.2) (L' := fun z => [own 5 1 z.1 pg.l.length z.2 (nats .u8 pg.l)]) (fun w hw => by have := cells_spec g x hx b p w (hw.old hc); rw [if_pos hix, hcl] at this; exact this) (fun _ h => h.pick [0, 0] rfl) (fun z hz => ?_)
    refine s_call1 65 rfl rfl rfl rfl (v := .bool true) (fun w hw => by have := sameBytes_spec z.1 pg.l.length z.2 pg.l pg.A pg.l.length pg.c pg.l w ((hw.has (i := 0) rfl).of_own) ho2 (dp_own1 (db_pg (doc_bk (hw.old hd) hbm) hpm)) ho2; rw [decide_eq_true rfl] at this; exact this) (fun _ h => h.pick [1, 1] rfl) ?_
    refine s_mv 66 rfl rfl ?_
    refine s_mv 67 rfl rfl ?_
    refine s_ldRS 68 (cs := [.int .i64 b, .int .i64 p]) rfl rfl rfl (fun _ hw => hw.blkRow (i := 1) rfl) ?_
    refine s_fa 70 rfl rfl ?_
    refine s_ldS 71 rfl rfl (v := .bool pg.used) (fun _ hw => hw.blkCell (i := 0) (j := 1) rfl rfl) ?_
    refine s_call1 69 rfl rfl rfl rfl (v := .bool pg.used) (fun w hw => by have := used_spec g x hx b p w (hw.old hc); rw [hix, hus] at this; exact this) (fun _ h => h.pick [1, 1] rfl) ?_
    refine s_eqB 72 rfl rfl rfl (r := true) (by simp) ?_
    refine s_pickT 73 rfl rfl rfl ?_
    refine s_mv 74 rfl rfl ?_
    refine s_mv 75 rfl rfl ?_
    refine s_fa 76 rfl rfl ?_
    refine s_ldS 77 rfl rfl (v := .int .i64 b) (fun _ hw => hw.blkCell (i := 1) (j := 0) rfl rfl) ?_
    refine s_mv 79 rfl rfl ?_
    refine s_nil 80 rfl rfl ?_
    refine s_fa 81 rfl rfl ?_
    refine s_ldS 82 rfl rfl (v := .slice y.wA y.blocks.length y.wc) (fun _ hw => doc_cell (hw.old hd) rfl) ?_
    refine s_fa 83 rfl rfl ?_
    refine s_ldS 84 rfl rfl (v := .int .i64 b) (fun _ hw => hw.blkCell (i := 1) (j := 0) rfl rfl) ?_
    refine s_iaV 85 i (fun w hw => doc_wns (hw.old hd)) rfl rfl rfl hbi hil ?_
    refine s_ldVS 86 (fun w hw => doc_wns (hw.old hd)) rfl rfl (by rw [Nat.mul_one]; exact wn_at hbk) (by omega) ?_
    refine s_call1 78 rfl rfl rfl rfl (v := .int .i64 bk.worn) (fun w hw => by have := worn_spec g x b w (hw.old hc); rw [if_pos hhx, hwo] at this; exact this) (fun _ h => h.pick [1, 1] rfl) ?_
    refine s_eq 87 rfl rfl rfl (decide_eq_true rfl) ?_
    refine s_pickT 88 rfl rfl rfl ?_
    refine s_mv 89 rfl rfl ?_
    refine s_mv 90 rfl rfl ?_
    refine s_fa 91 rfl rfl ?_
    refine s_ldS 92 rfl rfl (v := .int .i64 b) (fun _ hw => hw.blkCell (i := 1) (j := 0) rfl rfl) ?_
    refine s_mv 94 rfl rfl ?_
    refine s_nil 95 rfl rfl ?_
    refine s_fa 96 rfl rfl ?_
    refine s_ldS 97 rfl rfl (v := .slice y.mA y.blocks.length y.mc) (fun _ hw => doc_cell (hw.old hd) rfl) ?_
    refine s_fa 98 rfl rfl ?_
    refine s_ldS 99 rfl rfl (v := .int .i64 b) (fun _ hw => hw.blkCell (i := 1) (j := 0) rfl rfl) ?_
    refine s_iaV 100 i (fun w hw => doc_mks (hw.old hd)) rfl rfl rfl hbi hil ?_
    refine s_ldVS 101 (fun w hw => doc_mks (hw.old hd)) rfl rfl (by rw [Nat.mul_one]; exact mk_at hbk) (by omega) ?_
    refine s_call1 93 rfl rfl rfl rfl (v := .bool bk.marked) (fun w hw => by have := marked_spec g x b w (hw.old hc); rw [hhx, hma] at this; exact this) (fun _ h => h.pick [1, 1] rfl) ?_
    refine s_eqB 102 rfl rfl rfl (r := true) (by simp) ?_
    refine s_pickT 103 rfl rfl rfl ?_
    refine s_as 6 rfl rfl ?_
    refine SX.next ?_
    refine CW.ret ?_
    exact KN.ret (rs := [.tmp 6]) Tryd.results37 rfl (fun w hw => ⟨rfl, hw.nothing⟩)
end Go.Proofs.YtcapijdokbkgaaaDoor
end
section
/- The document's fault of what a new chip is asked of. Conditions: the marks are read where they lie. -/
namespace Go.Proofs.YtcapijdokbkgaaaDoor
open Go Go.Sx Go.Fm
set_option maxRecDepth 100000
def faultC (nb np sz lv : Int) (ms : List Int) (n : Nat) : Int :=
  if nb < 1 ∨ 64 < nb ∨ np < 1 ∨ 64 < np ∨ sz < 1 ∨ 4096 < sz ∨ lv < 1 ∨ 8 < lv then 108
  else if ∀ m ∈ ms, 0 ≤ m ∧ m < nb then (if 1000 < n then 106 else 0) else 102

theorem dfault_spec (nb np sz lv : Int) (A : Option Addr) (c : Nat) (ms : List Int) (pA : Option Addr) (n pc : Nat) (w : World) (hM : Has (sl 1 A ms.length (ints .i64 ms)) w) (hml : ms.length ≤ 1000000) : Spec1 Tryd.prog 28 [.int .i64 nb, .int .i64 np, .int .i64 sz, .int .i64 lv, .slice A ms.length c, .slice pA n pc] w (.int .i64 (faultC nb np sz lv ms n)) := by
  refine spec_of Tryd.func28 rfl Tryd.ntmps28 rfl ?_
  refine CW.seq ?_
  refine CW.reg [0] rfl ?_
  refine s_as 12 rfl rfl ?_
  refine SX.next ?_
  refine CW.seq ?_
  refine CW.seq ?_
  refine CW.reg [0, 1, 2, 3, 4, 5, 6, 7, 8, 9, 10, 11, 12, 13, 14, 15, 16, 17, 18, 19, 20, 21, 22, 23, 24, 25, 26, 27, 28, 29] rfl ?_
  refine s_mv 14 rfl rfl ?_
  refine s_lt 15 rfl rfl rfl rfl ?_
  refine s_mv 16 rfl rfl ?_
  refine SX.bool 16 rfl (fun hb => ?_) (fun hb => ?_)
  · skip
    have hq := of_decide_eq_true hb
    refine SX.skip rfl ?_
    refine SX.skip rfl ?_
    refine s_pickT 19 rfl rfl rfl ?_
    refine s_mv 20 rfl rfl ?_
    refine SX.skip rfl ?_
    refine SX.skip rfl ?_
    refine s_pickT 23 rfl rfl rfl ?_
    refine s_mv 24 rfl rfl ?_
    refine SX.skip rfl ?_
    refine SX.skip rfl ?_
    refine s_pickT 27 rfl rfl rfl ?_
    refine s_mv 28 rfl rfl ?_
    refine SX.skip rfl ?_
    refine SX.skip rfl ?_
    refine s_pickT 31 rfl rfl rfl ?_
    refine s_mv 32 rfl rfl ?_
    refine SX.skip rfl ?_
    refine SX.skip rfl ?_
    refine s_pickT 35 rfl rfl rfl ?_
    refine s_mv 36 rfl rfl ?_
    refine SX.skip rfl ?_
    refine SX.skip rfl ?_
    refine s_pickT 39 rfl rfl rfl ?_
    refine s_mv 40 rfl rfl ?_
    refine SX.skip rfl ?_
    refine SX.skip rfl ?_
    refine s_pickT 43 rfl rfl rfl ?_
    refine SX.next ?_
    refine CW.condT rfl ?_
    refine CW.seq ?_
    refine CW.reg [0] rfl ?_
    refine s_as 12 rfl rfl ?_
    refine SX.next ?_
    refine CW.ret ?_
    exact KN.ret (rs := [.tmp 12]) Tryd.results28 rfl (fun w hw => ⟨by unfold faultC; rw [if_pos (by omega)]; rfl, hw.nothing⟩)
  · skip
    have hq16 := of_decide_eq_false hb
    refine s_mv 17 rfl rfl ?_
    refine s_gt 18 rfl rfl rfl rfl ?_
    refine s_pickF 19 rfl rfl rfl ?_
    refine s_mv 20 rfl rfl ?_
    refine SX.bool 20 rfl (fun hb => ?_) (fun hb => ?_)
    · skip
      have hq := of_decide_eq_true hb
      refine SX.skip rfl ?_
      refine SX.skip rfl ?_
      refine s_pickT 23 rfl rfl rfl ?_
      refine s_mv 24 rfl rfl ?_
      refine SX.skip rfl ?_
      refine SX.skip rfl ?_
      refine s_pickT 27 rfl rfl rfl ?_
      refine s_mv 28 rfl rfl ?_
      refine SX.skip rfl ?_
      refine SX.skip rfl ?_
      refine s_pickT 31 rfl rfl rfl ?_
      refine s_mv 32 rfl rfl ?_
      refine SX.skip rfl ?_
      refine SX.skip rfl ?_
      refine s_pickT 35 rfl rfl rfl ?_
      refine s_mv 36 rfl rfl ?_
      refine SX.skip rfl ?_
      refine SX.skip rfl ?_
      refine s_pickT 39 rfl rfl rfl ?_
      refine s_mv 40 rfl rfl ?_
      refine SX.skip rfl ?_
      refine SX.skip rfl ?_
      refine s_pickT 43 rfl rfl rfl ?_
      refine SX.next ?_
      refine CW.condT rfl ?_
      refine CW.seq ?_
      refine CW.reg [0] rfl ?_
      refine s_as 12 rfl rfl ?_
      refine SX.next ?_
      refine CW.ret ?_
      exact KN.ret (rs := [.tmp 12]) Tryd.results28 rfl (fun w hw => ⟨by unfold faultC; rw [if_pos (by omega)]; rfl, hw.nothing⟩)
    · skip
      have hq20 := of_decide_eq_false hb
      refine s_mv 21 rfl rfl ?_
      refine s_lt 22 rfl rfl rfl rfl ?_
      refine s_pickF 23 rfl rfl rfl ?_
      refine s_mv 24 rfl rfl ?_
      refine SX.bool 24 rfl (fun hb => ?_) (fun hb => ?_)
      · skip
        have hq := of_decide_eq_true hb
        refine SX.skip rfl ?_
        refine SX.skip rfl ?_
        refine s_pickT 27 rfl rfl rfl ?_
        refine s_mv 28 rfl rfl ?_
        refine SX.skip rfl ?_
        refine SX.skip rfl ?_
        refine s_pickT 31 rfl rfl rfl ?_
        refine s_mv 32 rfl rfl ?_
        refine SX.skip rfl ?_
        refine SX.skip rfl ?_
        refine s_pickT 35 rfl rfl rfl ?_
        refine s_mv 36 rfl rfl ?_
        refine SX.skip rfl ?_
        refine SX.skip rfl ?_
        refine s_pickT 39 rfl rfl rfl ?_
        refine s_mv 40 rfl rfl ?_
        refine SX.skip rfl ?_
        refine SX.skip rfl ?_
        refine s_pickT 43 rfl rfl rfl ?_
        refine SX.next ?_
        refine CW.condT rfl ?_
        refine CW.seq ?_
        refine CW.reg [0] rfl ?_
        refine s_as 12 rfl rfl ?_
        refine SX.next ?_
        refine CW.ret ?_
        exact KN.ret (rs := [.tmp 12]) Tryd.results28 rfl (fun w hw => ⟨by unfold faultC; rw [if_pos (by omega)]; rfl, hw.nothing⟩)
      · skip
        have hq24 := of_decide_eq_false hb
        refine s_mv 25 rfl rfl ?_
        refine s_gt 26 rfl rfl rfl rfl ?_
        refine s_pickF 27 rfl rfl rfl ?_
        refine s_mv 28 rfl rfl ?_
        refine SX.bool 28 rfl (fun hb => ?_) (fun hb => ?_)
        · skip
          have hq := of_decide_eq_true hb
          refine SX.skip rfl ?_
          refine SX.skip rfl ?_
          refine s_pickT 31 rfl rfl rfl ?_
          refine s_mv 32 rfl rfl ?_
          refine SX.skip rfl ?_
          refine SX.skip rfl ?_
          refine s_pickT 35 rfl rfl rfl ?_
          refine s_mv 36 rfl rfl ?_
          refine SX.skip rfl ?_
          refine SX.skip rfl ?_
          refine s_pickT 39 rfl rfl rfl ?_
          refine s_mv 40 rfl rfl ?_
          refine SX.skip rfl ?_
          refine SX.skip rfl ?_
          refine s_pickT 43 rfl rfl rfl ?_
          refine SX.next ?_
          refine CW.condT rfl ?_
          refine CW.seq ?_
          refine CW.reg [0] rfl ?_
          refine s_as 12 rfl rfl ?_
          refine SX.next ?_
          refine CW.ret ?_
          exact KN.ret (rs := [.tmp 12]) Tryd.results28 rfl (fun w hw => ⟨by unfold faultC; rw [if_pos (by omega)]; rfl, hw.nothing⟩)
        · skip
          have hq28 := of_decide_eq_false hb
          refine s_mv 29 rfl rfl ?_
          refine s_lt 30 rfl rfl rfl rfl ?_
          refine s_pickF 31 rfl rfl rfl ?_
          refine s_mv 32 rfl rfl ?_
          refine SX.bool 32 rfl (fun hb => ?_) (fun hb => ?_)
          · skip
            have hq := of_decide_eq_true hb
            refine SX.skip rfl ?_
            refine SX.skip rfl ?_
            refine s_pickT 35 rfl rfl rfl ?_
            refine s_mv 36 rfl rfl ?_
            refine SX.skip rfl ?_
            refine SX.skip rfl ?_
            refine s_pickT 39 rfl rfl rfl ?_
            refine s_mv 40 rfl rfl ?_
            refine SX.skip rfl ?_
            refine SX.skip rfl ?_
            refine s_pickT 43 rfl rfl rfl ?_
            refine SX.next ?_
            refine CW.condT rfl ?_
            refine CW.seq ?_
            refine CW.reg [0] rfl ?_
            refine s_as 12 rfl rfl ?_
            refine SX.next ?_
            refine CW.ret ?_
            exact KN.ret (rs := [.tmp 12]) Tryd.results28 rfl (fun w hw => ⟨by unfold faultC; rw [if_pos (by omega)]; rfl, hw.nothing⟩)
          · skip
            have hq32 := of_decide_eq_false hb
            refine s_mv 33 rfl rfl ?_
            refine s_gt 34 rfl rfl rfl rfl ?_
            refine s_pickF 35 rfl rfl rfl ?_
            refine s_mv 36 rfl rfl ?_
            refine SX.bool 36 rfl (fun hb => ?_) (fun hb => ?_)
            · skip
              have hq := of_decide_eq_true hb
              refine SX.skip rfl ?_
              refine SX.skip rfl ?_
              refine s_pickT 39 rfl rfl rfl ?_
              refine s_mv 40 rfl rfl ?_
              refine SX.skip rfl ?_
              refine SX.skip rfl ?_
              refine s_pickT 43 rfl rfl rfl ?_
              refine SX.next ?_
              refine CW.condT rfl ?_
              refine CW.seq ?_
              refine CW.reg [0] rfl ?_
              refine s_as 12 rfl rfl ?_
              refine SX.next ?_
              refine CW.ret ?_
              exact KN.ret (rs := [.tmp 12]) Tryd.results28 rfl (fun w hw => ⟨by unfold faultC; rw [if_pos (by omega)]; rfl, hw.nothing⟩)
            · skip
              have hq36 := of_decide_eq_false hb
              refine s_mv 37 rfl rfl ?_
              refine s_lt 38 rfl rfl rfl rfl ?_
              refine s_pickF 39 rfl rfl rfl ?_
              refine s_mv 40 rfl rfl ?_
              refine SX.bool 40 rfl (fun hb => ?_) (fun hb => ?_)
              · skip
                have hq := of_decide_eq_true hb
                refine SX.skip rfl ?_
                refine SX.skip rfl ?_
                refine s_pickT 43 rfl rfl rfl ?_
                refine SX.next ?_
                refine CW.condT rfl ?_
                refine CW.seq ?_
                refine CW.reg [0] rfl ?_
                refine s_as 12 rfl rfl ?_
                refine SX.next ?_
                refine CW.ret ?_
                exact KN.ret (rs := [.tmp 12]) Tryd.results28 rfl (fun w hw => ⟨by unfold faultC; rw [if_pos (by omega)]; rfl, hw.nothing⟩)
              · skip
                have hq40 := of_decide_eq_false hb
                refine s_mv 41 rfl rfl ?_
                refine s_gt 42 rfl rfl rfl rfl ?_
                refine s_pickF 43 rfl rfl rfl ?_
                refine SX.next ?_
                refine CW.test rfl (fun hq => ?_) (fun hq => ?_)
                · skip
                  refine CW.seq ?_
                  refine CW.reg [0] rfl ?_
                  refine s_as 12 rfl rfl ?_
                  refine SX.next ?_
                  refine CW.ret ?_
                  exact KN.ret (rs := [.tmp 12]) Tryd.results28 rfl (fun w hw => ⟨by unfold faultC; rw [if_pos (by omega)]; rfl, hw.nothing⟩)
                · skip
                  have hgeo : ¬ (nb < 1 ∨ 64 < nb ∨ np < 1 ∨ 64 < np ∨ sz < 1 ∨ 4096 < sz ∨ lv < 1 ∨ 8 < lv) := by omega
                  refine CW.skip ?_
                  refine KN.code ?_
                  refine CW.seq ?_
                  refine CW.seq ?_
                  refine CW.reg [0] rfl ?_
                  refine s_as 13 rfl rfl ?_
                  refine SX.next ?_
                  refine CW.block ?_
                  refine CW.loop (G := Nat) (fun i => [(0, .int .i64 nb), (4, .slice A ms.length c), (5, .slice pA n pc), (13, .int .i64 (i : Nat))]) (fun _ => Sto w []) (fun i => i ≤ ms.length ∧ ∀ m ∈ ms.take i, 0 ≤ m ∧ m < nb) (fun i => ms.length - i) 0 ⟨rfl, rfl, rfl, rfl, trivial⟩ (fun _ h => h) ⟨Nat.zero_le _, fun m hm => absurd hm List.not_mem_nil⟩ ?_
                  rintro i ⟨hi, hal⟩
                  refine CW.seq ?_
                  refine CW.seq ?_
                  refine CW.reg [0, 1, 2, 3] rfl ?_
                  refine s_mv 44 rfl rfl ?_
                  refine s_mv 45 rfl rfl ?_
                  refine s_len 46 rfl rfl ?_
                  refine s_lt 47 rfl rfl rfl rfl ?_
                  refine SX.next ?_
                  refine CW.test rfl (fun hc => ?_) (fun hc => ?_)
                  · skip
                    have hil : i < ms.length := by omega
                    have hmj : ms[i]? = some (ms.getD i 0) := by rw [List.getD_eq_getElem?_getD, List.getElem?_eq_getElem hil]; rfl
                    have hmm := List.mem_of_getElem? hmj
                    refine CW.skip ?_
                    refine KN.code ?_
                    refine CW.seq ?_
                    refine CW.block ?_
                    refine CW.seq ?_
                    refine CW.reg [0, 1, 2, 3, 4, 5, 6, 7, 8, 9, 10, 11, 12] rfl ?_
                    refine s_mv 50 rfl rfl ?_
                    refine s_mv 51 rfl rfl ?_
                    refine s_iaV 52 i (fun w hw => hw.old hM) rfl rfl rfl rfl hil ?_
                    refine s_ldV 53 (fun w hw => hw.old hM) rfl rfl (by rw [Nat.mul_one]; exact intsAt hil) (by omega) ?_
                    refine s_lt 54 rfl rfl rfl rfl ?_
                    refine s_mv 55 rfl rfl ?_
                    refine SX.bool 55 rfl (fun hb => ?_) (fun hb => ?_)
                    · skip
                      have hq := of_decide_eq_true hb
                      refine SX.skip rfl ?_
                      refine SX.skip rfl ?_
                      refine SX.skip rfl ?_
                      refine SX.skip rfl ?_
                      refine SX.skip rfl ?_
                      refine SX.skip rfl ?_
                      refine s_pickT 62 rfl rfl rfl ?_
                      refine SX.next ?_
                      refine CW.condT rfl ?_
                      refine CW.seq ?_
                      refine CW.reg [0] rfl ?_
                      refine s_as 12 rfl rfl ?_
                      refine SX.next ?_
                      refine CW.ret ?_
                      exact KN.ret (rs := [.tmp 12]) Tryd.results28 rfl (fun w hw => ⟨by unfold faultC; rw [if_neg hgeo, if_neg (fun h => by have := h _ hmm; omega)]; rfl, hw.nothing⟩)
                    · skip
                      have hq0 := of_decide_eq_false hb
                      refine s_mv 56 rfl rfl ?_
                      refine s_mv 57 rfl rfl ?_
                      refine s_iaV 58 i (fun w hw => hw.old hM) rfl rfl rfl rfl hil ?_
                      refine s_ldV 59 (fun w hw => hw.old hM) rfl rfl (by rw [Nat.mul_one]; exact intsAt hil) (by omega) ?_
                      refine s_mv 60 rfl rfl ?_
                      refine s_ge 61 rfl rfl rfl rfl ?_
                      refine s_pickF 62 rfl rfl rfl ?_
                      refine SX.next ?_
                      refine CW.test rfl (fun hq => ?_) (fun hq => ?_)
                      · skip
                        refine CW.seq ?_
                        refine CW.reg [0] rfl ?_
                        refine s_as 12 rfl rfl ?_
                        refine SX.next ?_
                        refine CW.ret ?_
                        exact KN.ret (rs := [.tmp 12]) Tryd.results28 rfl (fun w hw => ⟨by unfold faultC; rw [if_neg hgeo, if_neg (fun h => by have := h _ hmm; omega)]; rfl, hw.nothing⟩)
                      · skip
                        refine CW.skip ?_
                        refine KN.blk ?_
                        refine KN.code ?_
                        refine CW.reg [0, 1, 2] rfl ?_
                        refine s_mv 48 rfl rfl ?_
                        refine s_add 49 rfl rfl rfl (r := ((i + 1 : Nat) : Int)) (w64 (by omega)) ?_
                        refine s_as 13 rfl rfl ?_
                        refine SX.end_ ?_
                        exact KN.back (i + 1) ⟨rfl, rfl, rfl, rfl, trivial⟩ (fun _ h => h) ⟨by omega, fun m hm => by
                          rw [List.take_add_one, hmj] at hm
                          rcases List.mem_append.1 hm with h | h
                          · exact hal m h
                          · obtain rfl : m = (ms.getD i 0) := by simpa using h
                            omega⟩ (by omega)
                  · skip
                    obtain rfl : i = ms.length := by omega
                    rw [List.take_length] at hal
                    refine CW.exit rfl ?_
                    refine KN.code ?_
                    refine CW.seq ?_
                    refine CW.seq ?_
                    refine CW.reg [0, 1, 2] rfl ?_
                    refine s_mv 63 rfl rfl ?_
                    refine s_len 64 rfl rfl ?_
                    refine s_gt 65 rfl rfl rfl rfl ?_
                    refine SX.next ?_
                    refine CW.test rfl (fun hbig => ?_) (fun hbig => ?_)
                    · skip
                      refine CW.seq ?_
                      refine CW.reg [0] rfl ?_
                      refine s_as 12 rfl rfl ?_
                      refine SX.next ?_
                      refine CW.ret ?_
                      exact KN.ret (rs := [.tmp 12]) Tryd.results28 rfl (fun w hw => ⟨by unfold faultC; rw [if_neg hgeo, if_pos hal, if_pos (by omega)]; rfl, hw.nothing⟩)
                    · skip
                      refine CW.skip ?_
                      refine KN.code ?_
                      refine CW.seq ?_
                      refine CW.reg [0] rfl ?_
                      refine s_as 12 rfl rfl ?_
                      refine SX.next ?_
                      refine CW.ret ?_
                      exact KN.ret (rs := [.tmp 12]) Tryd.results28 rfl (fun w hw => ⟨by unfold faultC; rw [if_neg hgeo, if_pos hal, if_neg (by omega)]; rfl, hw.nothing⟩)
end Go.Proofs.YtcapijdokbkgaaaDoor
end
section
/- The statement ChipPlays, walked. Conditions: what comes in is read where it lies; the errors' variables each hold a pointer of its own. -/
namespace Go.Proofs.YtcapijdokbkgaaaDoor
open Go Go.Sx Go.Fm
set_option maxRecDepth 100000
/-- An error's number, or none. -/
def codeOk (c : Int) : Prop := c = 0 ∨ (101 ≤ c ∧ c ≤ 119)
theorem is_ev {c : Int} (d : Int) (hc : codeOk c) (e : Nat → Addr) (w : World) (he : Has (ersA e apiErrs) w) : Spec1 Tryd.prog 29 [evE e c, .int .i64 d] w (.bool (decide (c = d))) := by
  rcases hc with rfl | ⟨h1, h2⟩
  · exact is_none d w
  · obtain ⟨j, hj⟩ := Int.eq_ofNat_of_zero_le (show 0 ≤ c - 101 by omega)
    obtain rfl : c = 101 + (j : Nat) := by omega
    have hj19 : j < 19 := by omega
    have hk : apiErrs[j]? = some (apiErrs.getD j 0) := by
      rw [List.getD_eq_getElem?_getD, List.getElem?_eq_getElem (show j < apiErrs.length from hj19)]
      rfl
    have h3 := is_err j _ d e w he hk
    have e1 : evE e (101 + (j : Nat)) = errV e (apiErrs.getD j 0) := by
      unfold evE
      rw [if_neg (by omega), show (101 + ((j : Nat) : Int) - 101).toNat = j by omega]
    rw [e1]
    exact h3
theorem askC_code (a b c : Bool) : codeOk (askC a b c) := by
  cases a <;> cases b <;> cases c <;> first | exact .inl rfl | exact .inr ⟨by decide, by decide⟩
theorem rd_code (s : ChS) (b p v : Int) : codeOk (s.rd b p v).1 := by
  unfold ChS.rd
  split
  · exact askC_code _ _ _
  · split
    · exact .inr ⟨by show (101 : Int) ≤ 109; decide, by show (109 : Int) ≤ 119; decide⟩
    · exact .inl rfl
theorem pr_code (s : ChS) (b p : Int) (l : List Nat) : codeOk (s.pr b p l).1 := by
  unfold ChS.pr
  split
  · exact askC_code _ _ _
  · show codeOk (layN s.hits s.size).2
    unfold layN
    split
    · exact .inr ⟨by show (101 : Int) ≤ 109; decide, by show (109 : Int) ≤ 119; decide⟩
    · split
      · exact .inr ⟨by show (101 : Int) ≤ 111; decide, by show (111 : Int) ≤ 119; decide⟩
      · exact .inl rfl
theorem er_code (s : ChS) (b : Int) : codeOk (s.er b).1 := by
  unfold ChS.er
  split
  · exact askC_code _ _ _
  · show codeOk (eraN s.hits s.pages).2
    unfold eraN
    split
    · exact .inr ⟨by show (101 : Int) ≤ 109; decide, by show (109 : Int) ≤ 119; decide⟩
    · split
      · exact .inr ⟨by show (101 : Int) ≤ 111; decide, by show (111 : Int) ≤ 119; decide⟩
      · exact .inl rfl
theorem rd_inn {s : ChS} {b p v : Int} (h : (s.rd b p v).1 = 0) : s.inn b p = true := by
  by_cases h0 : s.rdE b p v = 0
  · exact (rdE_zero h0).2.1
  · rw [rd_err h0] at h
    exact absurd h h0
theorem ChS.As.trans {a b c : ChS} (h : a.As b) (k : b.As c) : a.As c := ⟨k.p.trans h.p, k.z.trans h.z, k.v.trans h.v, k.b.trans h.b⟩
theorem wt_cell {wb : Nat} {t : WtG} {w : World} (h : Has (watchA wb t) w) {j : Nat} {v : Value} (hj : t.cells[j]? = some v) : w.cell? ⟨wb, j, none⟩ = some v := (h.starM (A := t.hd wb) (by simp)).cellB hj
theorem wt_got {wb : Nat} {t : WtG} {w : World} (h : Has (watchA wb t) w) : Has (sl 1 t.gA t.got.length (nats .u8 t.got)) w := (h.starM (A := t.o1) (by simp)).of_own
theorem wt_laid {wb : Nat} {t : WtG} {w : World} (h : Has (watchA wb t) w) : Has (sl 1 t.lA t.laid.length (nats .u8 t.laid)) w := (h.starM (A := t.o2) (by simp)).of_own
structure PyG where
  x : ChG
  y : DcG
  t : WtG

theorem faultC_zero {nb np sz lv : Int} {ms : List Int} {n : Nat} (h : faultC nb np sz lv ms n = 0) : (1 ≤ nb ∧ nb ≤ 64 ∧ 1 ≤ np ∧ np ≤ 64 ∧ 1 ≤ sz ∧ sz ≤ 4096 ∧ 1 ≤ lv ∧ lv ≤ 8) ∧ ∀ m ∈ ms, 0 ≤ m ∧ m < nb := by
  unfold faultC at h
  split at h
  · omega
  · split at h
    · rename_i h2
      exact ⟨by omega, h2⟩
    · omega
theorem faultC_bad {nb np sz lv : Int} {ms : List Int} {n : Nat} (h : faultC nb np sz lv ms n ≠ 0) (hn : n ≤ 60) : (¬ (1 ≤ nb ∧ nb ≤ 64 ∧ 1 ≤ np ∧ np ≤ 64 ∧ 1 ≤ sz ∧ sz ≤ 4096 ∧ 1 ≤ lv ∧ lv ≤ 8) ∧ faultC nb np sz lv ms n = 108) ∨ ((1 ≤ nb ∧ nb ≤ 64 ∧ 1 ≤ np ∧ np ≤ 64 ∧ 1 ≤ sz ∧ sz ≤ 4096 ∧ 1 ≤ lv ∧ lv ≤ 8) ∧ (¬ ∀ m ∈ ms, 0 ≤ m ∧ m < nb) ∧ faultC nb np sz lv ms n = 102) := by
  by_cases hg : nb < 1 ∨ 64 < nb ∨ np < 1 ∨ 64 < np ∨ sz < 1 ∨ 4096 < sz ∨ lv < 1 ∨ 8 < lv
  · exact .inl ⟨by omega, by unfold faultC; rw [if_pos hg]⟩
  · by_cases hm : ∀ m ∈ ms, 0 ≤ m ∧ m < nb
    · exfalso
      apply h
      unfold faultC
      rw [if_neg hg, if_pos hm, if_neg (by omega)]
    · exact .inr ⟨by omega, hm, by unfold faultC; rw [if_neg hg, if_neg hm]⟩
theorem new_blen {nb np sz lv : Nat} {ms : List Int} {pl : List FtS} : (ChS.new nb np sz lv ms pl).blocks.length = nb := by
  unfold ChS.new
  simp only
  rw [marks_len, List.length_replicate]

set_option maxHeartbeats 3200000 in

theorem walk_ChipPlays (nb np sz lv : Int) (A4 : Option Addr) (n4 c4 : Nat) (ms : List Int) (A5 : Option Addr) (c5 : Nat) (pl : List FtG) (A6 : Option Addr) (c6 : Nat) (l : List ToldG) (qb qp : Int) (e : Nat → Addr) (w : World) (hm : Has (sl 1 A4 n4 (ints .i64 ms)) w) (_hn4 : n4 ≤ 9223372036854775807) (hp : PlRead A5 pl w) (ht : TellIn A6 l w) (he : Has (ersA e apiErrs) w) : Spec1 Tryd.prog 7 [.int .i64 nb, .int .i64 np, .int .i64 sz, .int .i64 lv, .slice A4 n4 c4, .slice A5 pl.length c5, .slice A6 l.length c6, .agg #[.int .i64 qb, .int .i64 qp]] w (.bool true) := by
  have hml := ints_len hm
  subst hml
  have heD : Er e w 0 := he.ers (by decide)
  have heO : Er e w 1 := he.ers (by decide)
  have heS : Er e w 2 := he.ers (by decide)
  have heF : Er e w 5 := he.ers (by decide)
  have heM : Er e w 6 := he.ers (by decide)
  have heN : Er e w 4 := he.ers (by decide)
  have heG : Er e w 3 := he.ers (by decide)
  refine spec_of Tryd.func7 rfl Tryd.ntmps7 rfl ?_
  refine CW.seq ?_
  refine CW.reg [0, 1] rfl ?_
  refine s_box 15 rfl rfl (fun _ _ => trivial) (fun b15 => ?_)
  refine s_as 16 rfl rfl ?_
  refine SX.next ?_
  refine CW.seq ?_
  refine CW.reg [0, 1] rfl ?_
  refine s_call1 35 rfl rfl rfl rfl (fun w hw => first14_spec e w (hw.er heD) (hw.er heO) (hw.er heS) (hw.er heF) (hw.er heM)) (fun _ _ => trivial) ?_
  refine s_as 17 rfl rfl ?_
  refine SX.next ?_
  refine CW.seq ?_
  refine CW.seq ?_
  refine CW.reg [0, 1, 2, 3, 4, 5, 6, 7, 8, 9, 10, 11, 12, 13, 14, 15, 16] rfl ?_
  refine s_mv 36 rfl rfl ?_
  refine s_call1 37 rfl rfl rfl rfl (fun w hw => all14_spec A6 c6 l w ⟨hw.old ht.rows, fun d hd => (ht.each d hd).turn hw.fr⟩) (fun _ _ => trivial) ?_
  refine s_not 38 rfl rfl ?_
  refine s_mv 39 rfl rfl ?_
  refine SX.bool 39 rfl (fun hb => ?_) (fun hb => ?_)
  · skip
    skip
    refine SX.skip rfl ?_
    refine SX.skip rfl ?_
    refine SX.skip rfl ?_
    refine s_pickT 43 rfl rfl rfl ?_
    refine s_mv 44 rfl rfl ?_
    refine SX.skip rfl ?_
    refine SX.skip rfl ?_
    refine SX.skip rfl ?_
    refine s_pickT 48 rfl rfl rfl ?_
    refine s_mv 49 rfl rfl ?_
    refine SX.skip rfl ?_
    refine SX.skip rfl ?_
    refine s_pickT 52 rfl rfl rfl ?_
    refine SX.next ?_
    refine CW.condT rfl ?_
    refine CW.seq ?_
    refine CW.reg [0, 1] rfl ?_
    refine s_mv 53 rfl rfl ?_
    refine s_as 16 rfl rfl ?_
    refine SX.next ?_
    refine CW.ret ?_
    exact KN.ret (rs := [.tmp 16]) Tryd.results7 rfl (fun w hw => ⟨rfl, hw.nothing⟩)
  · skip
    have hall : allB l = true := by simpa using hb
    obtain ⟨hl60, hall2⟩ := all_in hall
    refine s_mv 40 rfl rfl ?_
    refine s_call1 41 rfl rfl rfl rfl (fun w hw => light_spec A5 c5 pl w (hp.turn hw.fr)) (fun _ _ => trivial) ?_
    refine s_not 42 rfl rfl ?_
    refine s_pickF 43 rfl rfl rfl ?_
    refine s_mv 44 rfl rfl ?_
    refine SX.bool 44 rfl (fun hb => ?_) (fun hb => ?_)
    · skip
      skip
      refine SX.skip rfl ?_
      refine SX.skip rfl ?_
      refine SX.skip rfl ?_
      refine s_pickT 48 rfl rfl rfl ?_
      refine s_mv 49 rfl rfl ?_
      refine SX.skip rfl ?_
      refine SX.skip rfl ?_
      refine s_pickT 52 rfl rfl rfl ?_
      refine SX.next ?_
      refine CW.condT rfl ?_
      refine CW.seq ?_
      refine CW.reg [0, 1] rfl ?_
      refine s_mv 53 rfl rfl ?_
      refine s_as 16 rfl rfl ?_
      refine SX.next ?_
      refine CW.ret ?_
      exact KN.ret (rs := [.tmp 16]) Tryd.results7 rfl (fun w hw => ⟨rfl, hw.nothing⟩)
    · skip
      have hlt : lightB pl = true := by simpa using hb
      obtain ⟨hpl, hpl60⟩ := light_pl hp hlt
      refine s_mv 45 rfl rfl ?_
      refine s_len 46 rfl rfl ?_
      refine s_gt 47 rfl rfl rfl rfl ?_
      refine s_pickF 48 rfl rfl rfl ?_
      refine s_mv 49 rfl rfl ?_
      refine SX.bool 49 rfl (fun hb => ?_) (fun hb => ?_)
      · skip
        skip
        refine SX.skip rfl ?_
        refine SX.skip rfl ?_
        refine s_pickT 52 rfl rfl rfl ?_
        refine SX.next ?_
        refine CW.condT rfl ?_
        refine CW.seq ?_
        refine CW.reg [0, 1] rfl ?_
        refine s_mv 53 rfl rfl ?_
        refine s_as 16 rfl rfl ?_
        refine SX.next ?_
        refine CW.ret ?_
        exact KN.ret (rs := [.tmp 16]) Tryd.results7 rfl (fun w hw => ⟨rfl, hw.nothing⟩)
      · skip
        have hms100 := of_decide_eq_false hb
        refine s_mv 50 rfl rfl ?_
        refine s_not 51 rfl rfl ?_
        refine s_pickF 52 rfl rfl rfl ?_
        refine SX.next ?_
        refine CW.condF rfl ?_
        refine CW.skip ?_
        refine KN.code ?_
        refine CW.seq ?_
        refine CW.reg [0, 1, 2, 3, 4, 5, 6, 7] rfl ?_
        refine s_mv 54 rfl rfl ?_
        refine s_mv 55 rfl rfl ?_
        refine s_mv 56 rfl rfl ?_
        refine s_mv 57 rfl rfl ?_
        refine s_mv 58 rfl rfl ?_
        refine s_mv 59 rfl rfl ?_
        refine s_call1 60 rfl rfl rfl rfl (fun w hw => dfault_spec nb np sz lv A4 c4 ms A5 pl.length c5 w (hw.old hm) (by omega)) (fun _ _ => trivial) ?_
        refine s_as 18 rfl rfl ?_
        refine SX.next ?_
        refine CW.seq ?_
        refine CW.seq ?_
        by_cases hfc : (faultC nb np sz lv ms pl.length) = 0
        · skip
          obtain ⟨hgeo, hmk⟩ := faultC_zero hfc
          obtain ⟨nb, rfl⟩ := Int.eq_ofNat_of_zero_le (show 0 ≤ nb by omega)
          obtain ⟨np, rfl⟩ := Int.eq_ofNat_of_zero_le (show 0 ≤ np by omega)
          obtain ⟨sz, rfl⟩ := Int.eq_ofNat_of_zero_le (show 0 ≤ sz by omega)
          obtain ⟨lv, rfl⟩ := Int.eq_ofNat_of_zero_le (show 0 ≤ lv by omega)
          have hm1 : nb * np ≤ 64 * 64 := Nat.mul_le_mul (by omega) (by omega)
          have hm2 : nb * np * sz ≤ 64 * 64 * 4096 := Nat.mul_le_mul hm1 (by omega)
          refine CW.reg [0, 1, 2, 3, 4, 5, 6, 7, 8, 9] rfl ?_
          refine s_mv 61 rfl rfl ?_
          refine s_eq 62 rfl rfl rfl (decide_eq_true hfc) ?_
          refine s_mv 63 rfl rfl ?_
          refine s_mv 64 rfl rfl ?_
          refine s_mv 65 rfl rfl ?_
          refine s_mul 66 rfl rfl rfl (r := ((nb * np : Nat) : Int)) (by rw [← Int.natCast_mul]; exact w64 (by omega)) ?_
          refine s_mv 67 rfl rfl ?_
          refine s_mul 68 rfl rfl rfl (r := ((nb * np * sz : Nat) : Int)) (by rw [← Int.natCast_mul]; exact w64 (by omega)) ?_
          refine s_gt 69 rfl rfl rfl rfl ?_
          refine s_pickT 70 rfl rfl rfl ?_
          refine SX.next ?_
          refine CW.test rfl (fun hbig => ?_) (fun hbig => ?_)
          · skip
            refine CW.seq ?_
            refine CW.reg [0] rfl ?_
            refine s_as 16 rfl rfl ?_
            refine SX.next ?_
            refine CW.ret ?_
            exact KN.ret (rs := [.tmp 16]) Tryd.results7 rfl (fun w hw => ⟨rfl, hw.nothing⟩)
          · skip
            refine CW.skip ?_
            refine KN.code ?_
            refine CW.seq ?_
            refine CW.reg [0, 1, 2, 3, 4, 5, 6, 7, 8, 9, 10, 11] rfl ?_
            refine s_mv 72 rfl rfl ?_
            refine s_mv 73 rfl rfl ?_
            refine s_mv 74 rfl rfl ?_
            refine s_mv 75 rfl rfl ?_
            refine s_mv 76 rfl rfl ?_
            refine s_mv 77 rfl rfl ?_
            refine s_call 78 rfl rfl rfl rfl (X := Nat × ChG) (v := fun z => two (.pointer (some ⟨z.1, 0, none⟩)) .nilIface) (pf := fun z => z.2.abs = ChS.new nb np sz lv ms (pl.map FtG.abs) ∧ z.2.watch = .nilFunc) (L' := fun z => [chipA z.1 z.2]) (fun w hw => cnew_ok nb np sz lv A4 c4 ms A5 c5 pl e w (by omega) (by omega) (by omega) (by omega) (hw.old hm) (by omega) hmk (hw.er heM) (hpl.turn hw.fr) (by omega)) (fun _ _ => trivial) (fun z hz => ?_)
            obtain ⟨g, x0⟩ := z
            refine s_mv 71 rfl rfl ?_
            refine s_ext 79 rfl rfl rfl ?_
            refine s_ext 80 rfl rfl rfl ?_
            refine s_as 19 rfl rfl ?_
            refine s_as 20 rfl rfl ?_
            refine SX.next ?_
            refine CW.seq ?_
            refine CW.seq ?_
            refine CW.reg [0, 1, 2, 3, 4, 5, 6, 7, 8, 9, 10] rfl ?_
            refine s_mv 81 rfl rfl ?_
            refine s_mv 82 rfl rfl ?_
            rw [hfc]
            refine s_call1 83 rfl rfl rfl rfl (v := .bool true) (fun w hw => by have := is_ev (c := 0) 0 (.inl rfl) e w (hw.old he); rw [decide_eq_true rfl] at this; exact this) (fun _ _ => trivial) ?_
            refine s_not 84 rfl rfl ?_
            refine s_mv 85 rfl rfl ?_
            refine s_mv 86 rfl rfl ?_
            refine s_eqPN 87 rfl rfl ?_
            refine s_mv 88 rfl rfl ?_
            refine s_ne 89 rfl rfl rfl (decide_eq_false (fun h => h rfl)) ?_
            refine s_neB 90 rfl rfl rfl (r := false) rfl ?_
            refine s_pickF 91 rfl rfl rfl ?_
            refine SX.next ?_
            refine CW.condF rfl ?_
            refine CW.skip ?_
            refine KN.code ?_
            refine CW.seq ?_
            refine CW.seq ?_
            refine CW.reg [0, 1] rfl ?_
            refine s_mv 92 rfl rfl ?_
            refine s_eqPN 93 rfl rfl ?_
            refine SX.next ?_
            refine CW.condF rfl ?_
            refine CW.skip ?_
            refine KN.code ?_
            refine CW.seq ?_
            refine CW.reg [0, 1, 2, 3, 4, 5, 6, 7] rfl ?_
            refine s_mv 94 rfl rfl ?_
            refine s_mv 95 rfl rfl ?_
            refine s_mv 96 rfl rfl ?_
            refine s_mv 97 rfl rfl ?_
            refine s_mv 98 rfl rfl ?_
            refine s_mv 99 rfl rfl ?_
            refine s_call 100 rfl rfl rfl rfl (X := Nat × DcG) (v := fun z => .pointer (some ⟨z.1, 0, none⟩)) (pf := fun z => z.2.abs = ChS.new nb np sz lv ms (pl.map FtG.abs) ∧ z.2.pA = A5 ∧ z.2.pc = c5 ∧ z.2.plan = pl) (L' := fun z => [docA z.1 z.2]) (fun w hw => dnew_spec nb np sz lv A4 c4 ms A5 c5 pl w (by omega) (by omega) (by omega) (by omega) (hw.old hm) (by omega) hmk) (fun _ _ => trivial) (fun z hzd => ?_)
            obtain ⟨gd, y0⟩ := z
            refine s_as 21 rfl rfl ?_
            refine SX.next ?_
            refine CW.seq ?_
            refine CW.reg [0, 1, 2] rfl ?_
            have hn : (ChS.new nb np sz lv ms (pl.map FtG.abs)).Ok := new_ok (by omega) (by omega) (by omega) (by omega) (by omega) (by omega) (by omega) hmk (by rw [List.length_map]; omega) (fun f hf => by
              obtain ⟨f2, h2, rfl⟩ := List.mem_map.1 hf
              exact hpl.lens f2 h2)
            refine s_build 101 rfl rfl (cells := #[.int .i64 0, .int .i64 0, .int .i64 0, .slice none 0 0, .slice none 0 0, .int .i64 0]) (by kernel_rfl) ?_
            refine s_box 102 rfl rfl (fun _ _ => trivial) (fun wb => ?_)
            refine s_as 22 rfl rfl ?_
            refine SX.next ?_
            refine CW.seq ?_
            refine CW.reg [0, 1, 2, 3] rfl ?_
            refine s_mv 103 rfl rfl ?_
            refine s_mv 104 rfl rfl ?_
            refine s_mkf 105 rfl rfl rfl ?_
            refine s_callP 106 [2, 0, 0, 0] (M := [chipA g x0]) (R := [blk wb 61 #[.int .i64 0, .int .i64 0, .int .i64 0, .slice none 0 0, .slice none 0 0, .int .i64 0], docA gd y0, blk b15 31 #[.int .i64 qb, .int .i64 qp]]) (X := Unit) (v := fun _ => oneOf []) (pf := fun _ => True) (M' := fun _ => [chipA g { x0 with watch := .func (.func 32) #[.pointer (some ⟨wb, 0, none⟩)] #[] }]) rfl rfl rfl rfl rfl (fun F' w' hR hM => watch_spec F' g x0 _ rfl w' hM) (fun _ _ _ => trivial) (fun _ _ => ?_)
            refine SX.next ?_
            refine CW.seq ?_
            refine CW.seq ?_
            refine CW.reg [0] rfl ?_
            refine s_as 23 rfl rfl ?_
            refine SX.next ?_
            refine CW.block ?_
            refine CW.loop (G := Nat × PyG) (fun z => [(0, .int .i64 ((nb : Nat) : Int)), (1, .int .i64 ((np : Nat) : Int)), (2, .int .i64 ((sz : Nat) : Int)), (3, .int .i64 ((lv : Nat) : Int)), (6, .slice A6 l.length c6), (15, .pointer (some ⟨b15, 0, none⟩)), (19, .pointer (some ⟨g, 0, none⟩)), (21, .pointer (some ⟨gd, 0, none⟩)), (22, .pointer (some ⟨wb, 0, none⟩)), (23, .int .i64 (z.1 : Nat))]) (fun z => Sto w [chipA g z.2.x, docA gd z.2.y, watchA wb z.2.t, blk b15 31 #[.int .i64 qb, .int .i64 qp]]) (fun z => z.1 ≤ l.length ∧ z.2.x.abs.Ok ∧ z.2.y.abs = z.2.x.abs ∧ z.2.x.watch = .func (.func 32) #[.pointer (some ⟨wb, 0, none⟩)] #[] ∧ (ChS.new nb np sz lv ms (pl.map FtG.abs)).As z.2.x.abs ∧ PlIn z.2.y.pA z.2.y.plan w ∧ z.2.y.plan.length ≤ 60 ∧ 0 ≤ z.2.t.n ∧ z.2.t.n ≤ (z.1 : Nat)) (fun z => l.length - z.1) (0, ⟨{ x0 with watch := .func (.func 32) #[.pointer (some ⟨wb, 0, none⟩)] #[] }, y0, (⟨0, 0, 0, none, 0, [], none, 0, [], 0⟩ : WtG)⟩) ⟨rfl, rfl, rfl, rfl, rfl, rfl, rfl, rfl, rfl, rfl, trivial⟩ (fun _ h => by
              have h1 := h.begin_ 5 1
              have h2 := h1.begin_ 5 1
              have h3 := h2.pick [3, 0, 0] rfl
              have h4 := St.close_ [(⟨0, 0, 0, none, 0, [], none, 0, [], 0⟩ : WtG).hd wb, (⟨0, 0, 0, none, 0, [], none, 0, [], 0⟩ : WtG).o1, (⟨0, 0, 0, none, 0, [], none, 0, [], 0⟩ : WtG).o2] (h2.pick [3, 0, 0, 0, 0, 0] rfl)
              exact h4.pick [1, 1, 0, 0] rfl) ⟨Nat.zero_le _, by simp only; show x0.abs.Ok; rw [hz.1]; exact hn, by simp only; show y0.abs = x0.abs; rw [hzd.1, hz.1], rfl, by simp only; show ChS.As _ x0.abs; rw [hz.1]; exact ChS.As.refl _, by simp only; rw [hzd.2.1, hzd.2.2.2]; exact hpl, by simp only; rw [hzd.2.2.2]; exact hpl60, Int.le_refl _, Int.le_refl _⟩ ?_
            rintro ⟨i, ⟨x, y, t⟩⟩ ⟨hi, hx, hye, hxw, has, hyp, hyn, ht0, hti⟩
            simp only at hi hx hye hxw has hyp hyn ht0 hti
            dsimp only
            have hyo : y.abs.Ok := by rw [hye]; exact hx
            refine CW.seq ?_
            refine CW.seq ?_
            refine CW.reg [0, 1, 2, 3] rfl ?_
            refine s_mv 107 rfl rfl ?_
            refine s_mv 108 rfl rfl ?_
            refine s_len 109 rfl rfl ?_
            refine s_lt 110 rfl rfl rfl rfl ?_
            refine SX.next ?_
            refine CW.test rfl (fun hc => ?_) (fun hc => ?_)
            · skip
              have hil : i < l.length := by omega
              obtain ⟨d, hdd⟩ : ∃ d, d = gT l i := ⟨_, rfl⟩
              have hg := gT_at hil
              have hmm := gT_mem hil
              rw [← hdd] at hg hmm
              have h8 := (ht.each _ hmm).lt
              have hB := (ht.each _ hmm).bytes
              obtain ⟨hl300, hdp, hdpn⟩ := tell_in (ht.each _ hmm) (hall2 _ hmm)
              refine CW.skip ?_
              refine KN.code ?_
              refine CW.seq ?_
              refine CW.block ?_
              refine CW.seq ?_
              refine CW.reg [0, 1, 2, 3, 4, 5] rfl ?_
              refine s_mv 113 rfl rfl ?_
              refine s_mv 114 rfl rfl ?_
              refine s_iaV 115 i (fun w hw => hw.old ht.rows) rfl rfl rfl rfl hil ?_
              refine s_ldR 116 (cs := d.row) rfl rfl rfl (fun w hw => (hw.old ht.rows).rowAt toRow_len hg (by omega)) ?_
              refine s_alloc 24 rfl (fun _ _ => trivial) (fun b24 => ?_)
              refine s_stAll 0 rfl rfl (by kernel_rfl) rfl rfl rfl rfl (fun _ _ => trivial) ?_
              refine SX.next ?_
              refine CW.cut (G := PyG) (fun z => [(0, .int .i64 ((nb : Nat) : Int)), (1, .int .i64 ((np : Nat) : Int)), (2, .int .i64 ((sz : Nat) : Int)), (3, .int .i64 ((lv : Nat) : Int)), (6, .slice A6 l.length c6), (15, .pointer (some ⟨b15, 0, none⟩)), (19, .pointer (some ⟨g, 0, none⟩)), (21, .pointer (some ⟨gd, 0, none⟩)), (22, .pointer (some ⟨wb, 0, none⟩)), (23, .int .i64 (i : Nat)), (24, .pointer (some ⟨b24, 0, none⟩))]) (fun z => Sto w [chipA g z.x, docA gd z.y, watchA wb z.t, blk b15 31 #[.int .i64 qb, .int .i64 qp], blk b24 40 d.row.toArray]) (fun z => z.x.abs.Ok ∧ z.y.abs = z.x.abs ∧ z.x.watch = .func (.func 32) #[.pointer (some ⟨wb, 0, none⟩)] #[] ∧ (ChS.new nb np sz lv ms (pl.map FtG.abs)).As z.x.abs ∧ PlIn z.y.pA z.y.plan w ∧ z.y.plan.length ≤ 60 ∧ 0 ≤ z.t.n ∧ z.t.n ≤ ((i + 1) : Nat)) ?_ ?_
              · skip
                refine CW.seq ?_
                refine CW.reg [0, 1] rfl ?_
                refine s_fa 117 rfl rfl ?_
                refine s_ld 118 rfl rfl (v := .int .i64 d.kind) (fun _ hw => hw.blkCell (i := 0) (j := 0) rfl rfl) ?_
                refine SX.next ?_
                refine CW.block ?_
                refine CW.seq ?_
                refine CW.reg [0, 1] rfl ?_
                refine s_eq 130 rfl rfl rfl rfl ?_
                refine s_as 129 rfl rfl ?_
                refine SX.next ?_
                refine CW.test rfl (fun hc => ?_) (fun hc => ?_)
                · skip
                  have h1 : d.kind = 1 := hc
                  refine CW.seq ?_
                  refine CW.reg [0, 1, 2, 3, 4] rfl ?_
                  refine s_mv 131 rfl rfl ?_
                  refine s_nil 132 rfl rfl ?_
                  refine s_fa 133 rfl rfl ?_
                  refine s_ld 134 rfl rfl (v := .int .i64 t.n) (fun _ hw => wt_cell (hw.has (i := 3) rfl) rfl) ?_
                  refine s_as 25 rfl rfl ?_
                  refine SX.next ?_
                  refine CW.seq ?_
                  refine CW.reg [0, 1, 2, 3, 4, 5, 6, 7, 8, 9, 10] rfl ?_
                  refine s_mv 136 rfl rfl ?_
                  refine s_fa 137 rfl rfl ?_
                  refine s_ldR 138 (cs := [.int .i64 d.b, .int .i64 d.p]) rfl rfl rfl (fun w hw => hw.blkPart (i := 0) (o := 1) rfl (two_at rfl rfl)) ?_
                  refine s_fa 139 rfl rfl ?_
                  refine s_ld 140 rfl rfl (v := .int .i64 d.level) (fun _ hw => hw.blkCell (i := 0) (j := 3) rfl rfl) ?_
                  refine s_callP 141 [1, 2, 0, 0, 0] (M := [chipA g x, watchA wb t]) (R := [blk b24 40 d.row.toArray, docA gd y, blk b15 31 #[.int .i64 qb, .int .i64 qp]]) (X := (Option Addr × Nat) × ChG × WtG) (v := fun z => two (.slice z.1.1 (x.abs.rd d.b d.p d.level).2.1.length z.1.2) (evE e (x.abs.rd d.b d.p d.level).1)) (pf := fun z => z.2.1.abs = (x.abs.rd d.b d.p d.level).2.2 ∧ z.2.1.watch = x.watch ∧ (if (x.abs.rd d.b d.p d.level).1 = 0 then z.2.2.b = d.b ∧ z.2.2.p = d.p ∧ z.2.2.level = d.level ∧ z.2.2.got = (x.abs.rd d.b d.p d.level).2.1 ∧ z.2.2.laid = (x.abs.pg d.b d.p).laid ∧ z.2.2.n = wr (t.n + 1) else z.2.2 = t)) (M' := fun z => [own 5 1 z.1.1 (x.abs.rd d.b d.p d.level).2.1.length z.1.2 (nats .u8 (x.abs.rd d.b d.p d.level).2.1), chipA g z.2.1, watchA wb z.2.2]) rfl rfl rfl rfl rfl (fun F' w' hR hM => by have := read_specW F' g x wb t hx d.b d.p d.level e w' hxw (fun w2 hf => (hR w2 hf).er heD) (fun w2 hf => (hR w2 hf).er heO) (fun w2 hf => (hR w2 hf).er heS) hM;  exact this) (fun _ _ _ => trivial) (fun z1 hz1 => ?_)
                  obtain ⟨za, x1, t1⟩ := z1
                  obtain ⟨hx1, hw1, ht1⟩ := hz1
                  simp only at hx1 hw1 ht1
                  obtain ⟨hrl, hr8⟩ := rd_bytes hx d.b d.p d.level
                  have hrc := rd_code x.abs d.b d.p d.level
                  refine s_mv 135 rfl rfl ?_
                  refine s_ext 142 rfl rfl rfl ?_
                  refine s_ext 143 rfl rfl rfl ?_
                  refine s_as 26 rfl rfl ?_
                  refine s_as 27 rfl rfl ?_
                  refine SX.next ?_
                  refine CW.seq ?_
                  refine CW.reg [0, 1, 2, 3, 4, 5, 6, 7, 8, 9, 10] rfl ?_
                  refine s_mv 145 rfl rfl ?_
                  refine s_fa 146 rfl rfl ?_
                  refine s_ldR 147 (cs := [.int .i64 d.b, .int .i64 d.p]) rfl rfl rfl (fun w hw => hw.blkPart (i := 3) (o := 1) rfl (two_at rfl rfl)) ?_
                  refine s_fa 148 rfl rfl ?_
                  refine s_ld 149 rfl rfl (v := .int .i64 d.level) (fun _ hw => hw.blkCell (i := 3) (j := 3) rfl rfl) ?_
                  refine s_callP 150 [4, 0, 0, 0, 0, 0] (M := [docA gd y]) (R := [own 5 1 za.1 (x.abs.rd d.b d.p d.level).2.1.length za.2 (nats .u8 (x.abs.rd d.b d.p d.level).2.1), chipA g x1, watchA wb t1, blk b24 40 d.row.toArray, blk b15 31 #[.int .i64 qb, .int .i64 qp]]) (X := (Option Addr × Nat) × DcG) (v := fun z => two (.slice z.1.1 (x.abs.rd d.b d.p d.level).2.1.length z.1.2) (.int .i64 (x.abs.rd d.b d.p d.level).1)) (pf := fun z => z.2.abs = (x.abs.rd d.b d.p d.level).2.2 ∧ y.Same z.2) (M' := fun z => [own 5 1 z.1.1 (x.abs.rd d.b d.p d.level).2.1.length z.1.2 (nats .u8 (x.abs.rd d.b d.p d.level).2.1), docA gd z.2]) rfl rfl rfl rfl rfl (fun F' w' hR hM => by have := dread_spec F' gd y hyo d.b d.p d.level w' (fun w2 hf => hyp.turn (hR w2 hf).fr) hM; rw [hye] at this; exact this) (fun _ _ _ => trivial) (fun z2 hz2 => ?_)
                  obtain ⟨zb, y1⟩ := z2
                  obtain ⟨hy1, hys⟩ := hz2
                  simp only at hy1 hys
                  refine s_mv 144 rfl rfl ?_
                  refine s_ext 151 rfl rfl rfl ?_
                  refine s_ext 152 rfl rfl rfl ?_
                  refine s_as 28 rfl rfl ?_
                  refine s_as 29 rfl rfl ?_
                  refine SX.next ?_
                  refine CW.seq ?_
                  refine CW.seq ?_
                  refine CW.reg [0, 1, 2, 3, 4, 5, 6, 7, 8, 9] rfl ?_
                  refine s_mv 153 rfl rfl ?_
                  refine s_mv 154 rfl rfl ?_
                  refine s_call1 155 rfl rfl rfl rfl (v := .bool true) (fun w hw => by have := sameBytes_spec za.1 (x.abs.rd d.b d.p d.level).2.1.length za.2 (x.abs.rd d.b d.p d.level).2.1 zb.1 (x.abs.rd d.b d.p d.level).2.1.length zb.2 (x.abs.rd d.b d.p d.level).2.1 w ((hw.has (i := 2) rfl).of_own) hr8 ((hw.has (i := 0) rfl).of_own) hr8; rw [decide_eq_true rfl] at this; exact this) (fun _ _ => trivial) ?_
                  refine s_not 156 rfl rfl ?_
                  refine s_mv 157 rfl rfl ?_
                  refine s_mv 158 rfl rfl ?_
                  refine s_mv 159 rfl rfl ?_
                  refine s_call1 160 rfl rfl rfl rfl (v := .bool true) (fun w hw => by have := is_ev (x.abs.rd d.b d.p d.level).1 hrc e w (hw.old he); rw [decide_eq_true rfl] at this; exact this) (fun _ _ => trivial) ?_
                  refine s_not 161 rfl rfl ?_
                  refine s_pickF 162 rfl rfl rfl ?_
                  refine SX.next ?_
                  refine CW.condF rfl ?_
                  refine CW.skip ?_
                  refine KN.code ?_
                  refine CW.seq ?_
                  by_cases hr0 : (x.abs.rd d.b d.p d.level).1 = 0
                  · skip
                    rw [if_pos hr0] at ht1
                    obtain ⟨q1, q2, q3, q4, q5, q6⟩ := ht1
                    have hn1 : t1.n = t.n + 1 := by rw [q6]; exact w64 (by omega)
                    have hin := rd_inn hr0
                    have hin1 : y1.abs.inn d.b d.p = true := by rw [hy1, As.inn (rd_as x.abs d.b d.p d.level).1]; exact hin
                    have hy1o : y1.abs.Ok := by rw [hy1]; exact rd_okp hx _ _ _
                    obtain ⟨ib, kp, bk, pg, hbi, hpk, hbk, hpg, hba, hpa⟩ := dinn_at hy1o hin1
                    have hbl := (List.getElem?_eq_some_iff.1 hbk).1
                    have hkl := (List.getElem?_eq_some_iff.1 hpg).1
                    have hbm := List.mem_of_getElem? hbk
                    have hpm := List.mem_of_getElem? hpg
                    obtain ⟨ho1, ho2, ho3, ho4⟩ := dpg_ok hy1o hbk hpg
                    have hla : t1.laid = pg.laid := by
                      rw [q5, ← pg_blocks (rd_as x.abs d.b d.p d.level).2, ← hy1, hpa]
                      rfl
                    refine CW.regD (.st true 0 (.st true 1 (.st true 2 (.st true 3 (.st true 4 (.st true 5 (.st true 6 (.st true 7 (.st true 8 (.st true 9 (.st true 10 (.st true 11 (.st true 12 (.st true 13 (.st false 14 (.st true 15 (.st true 16 (.st true 17 (.st true 18 (.st true 19 (.st true 20 (.st true 21 (.st true 22 (.st true 23 (.st true 24 (.st true 25 (.st true 26 (.st true 27 (.st true 28 (.st true 29 (.st true 30 (.st false 31 (.st true 32 (.st true 33 .done)))))))))))))))))))))))))))))))))) (Sto w [blk b24 40 d.row.toArray, watchA wb t1, docA gd y1]) mixed (by kernel_rfl) (fun _ h => h.drew) (fun _ h => h.pick [5, 4, 1] rfl) ?_
                    refine s_mv 163 rfl rfl ?_
                    refine s_nil 164 rfl rfl ?_
                    refine s_fa 165 rfl rfl ?_
                    refine s_ldS 166 rfl rfl (v := .int .i64 t1.n) (fun _ hw => wt_cell (hw.has (i := 1) rfl) rfl) ?_
                    refine s_mv 167 rfl rfl ?_
                    refine s_add 168 rfl rfl rfl (r := t.n + 1) (w64 (by omega)) ?_
                    refine s_eq 169 rfl rfl rfl (decide_eq_true hn1) ?_
                    refine s_mv 170 rfl rfl ?_
                    refine s_mv 171 rfl rfl ?_
                    refine s_nil 172 rfl rfl ?_
                    refine s_fa 173 rfl rfl ?_
                    refine s_ldRS 174 (cs := [.int .i64 t1.b, .int .i64 t1.p]) rfl rfl rfl (fun _ hw j v hj => wt_cell (t := t1) (hw.has (i := 1) rfl) (by match j, hj with
                      | 0, hj => exact hj
                      | 1, hj => exact hj)) ?_
                    refine s_fa 175 rfl rfl ?_
                    refine s_ldRS 176 (cs := [.int .i64 d.b, .int .i64 d.p]) rfl rfl rfl (fun w hw => hw.blkPart (i := 0) (o := 1) rfl (two_at rfl rfl)) ?_
                    refine s_call1 177 rfl rfl rfl rfl (v := .bool true) (fun w hw => by have := samePlace_spec t1.b t1.p d.b d.p w; rw [decide_eq_true ⟨q1, q2⟩] at this; exact this) (fun _ h => h.pick [5, 4, 1] rfl) ?_
                    refine s_pickT 178 rfl rfl rfl ?_
                    refine s_mv 179 rfl rfl ?_
                    refine s_mv 180 rfl rfl ?_
                    refine s_nil 181 rfl rfl ?_
                    refine s_fa 182 rfl rfl ?_
                    refine s_ldS 183 rfl rfl (v := .int .i64 t1.level) (fun _ hw => wt_cell (hw.has (i := 1) rfl) rfl) ?_
                    refine s_fa 184 rfl rfl ?_
                    refine s_ldS 185 rfl rfl (v := .int .i64 d.level) (fun _ hw => hw.blkCell (i := 0) (j := 3) rfl rfl) ?_
                    refine s_eq 186 rfl rfl rfl (decide_eq_true q3) ?_
                    refine s_pickT 187 rfl rfl rfl ?_
                    refine s_mv 188 rfl rfl ?_
                    refine s_mv 189 rfl rfl ?_
                    refine s_nil 190 rfl rfl ?_
                    refine s_fa 191 rfl rfl ?_
                    refine s_ldS 192 rfl rfl (v := .slice t1.gA t1.got.length t1.gc) (fun _ hw => wt_cell (hw.has (i := 1) rfl) rfl) ?_
                    refine s_mv 193 rfl rfl ?_
                    refine s_call1 194 rfl rfl rfl rfl (v := .bool true) (fun w hw => by have := sameBytes_spec t1.gA t1.got.length t1.gc t1.got zb.1 (x.abs.rd d.b d.p d.level).2.1.length zb.2 (x.abs.rd d.b d.p d.level).2.1 w (wt_got (hw.has (i := 4) rfl)) (by rw [q4]; exact hr8) ((hw.has (i := 0) rfl).of_own) hr8; rw [decide_eq_true q4] at this; exact this) (fun _ h => h.pick [5, 4, 1] rfl) ?_
                    refine s_pickT 195 rfl rfl rfl ?_
                    refine s_as 30 rfl rfl ?_
                    refine SX.next ?_
                    refine CW.seq ?_
                    refine CW.regD (.st true 0 (.st true 1 (.st true 2 (.st true 3 (.st true 4 (.st true 5 (.st true 6 (.st true 7 (.st true 8 (.st true 9 (.st true 10 (.st true 11 (.st true 12 (.st true 13 (.st true 14 (.st true 15 (.st true 16 (.st true 17 (.st true 18 (.st true 19 (.st true 20 (.st true 21 (.st true 22 (.st true 23 (.st true 24 (.st false 25 (.st true 26 (.st true 27 (.st true 28 (.st true 29 (.st true 30 (.st true 31 (.st true 32 (.st true 33 (.st true 34 (.st true 35 (.st true 36 (.st true 37 (.st true 38 (.st true 39 (.st true 40 .done))))))))))))))))))))))))))))))))))))))))) (Sto w [blk b24 40 d.row.toArray, watchA wb t1, docA gd y1]) mixed (by kernel_rfl) (fun _ h => h.drew) (fun _ h => h.pick [5, 4, 1] rfl) ?_
                    refine s_mv 196 rfl rfl ?_
                    refine s_eq 197 rfl rfl rfl (decide_eq_true hr0) ?_
                    refine s_mv 198 rfl rfl ?_
                    refine s_mv 199 rfl rfl ?_
                    refine s_not 200 rfl rfl ?_
                    refine s_mv 201 rfl rfl ?_
                    refine s_mv 202 rfl rfl ?_
                    refine s_nil 203 rfl rfl ?_
                    refine s_fa 204 rfl rfl ?_
                    refine s_ldS 205 rfl rfl (v := .slice t1.lA t1.laid.length t1.lc) (fun _ hw => wt_cell (hw.has (i := 1) rfl) rfl) ?_
                    refine s_mv 206 rfl rfl ?_
                    refine s_nil 207 rfl rfl ?_
                    refine s_fa 208 rfl rfl ?_
                    refine s_ldS 209 rfl rfl (v := .slice y1.A y1.blocks.length y1.c) (fun _ hw => doc_cell (hw.has (i := 2) rfl) rfl) ?_
                    refine s_fa 210 rfl rfl ?_
                    refine s_fa 211 rfl rfl ?_
                    refine s_ldS 212 rfl rfl (v := .int .i64 d.b) (fun _ hw => hw.blkCell (i := 0) (j := 1) rfl rfl) ?_
                    refine s_iaV 213 ib (fun w hw => doc_hds (hw.has (i := 1) rfl)) rfl rfl rfl hbi hbl ?_
                    refine s_ldVS 214 (fun w hw => doc_hds (hw.has (i := 2) rfl)) rfl rfl (hdr_at1 hbk) (by omega) ?_
                    refine s_fa 215 rfl rfl ?_
                    refine s_fa 216 rfl rfl ?_
                    refine s_ldS 217 rfl rfl (v := .int .i64 d.p) (fun _ hw => hw.blkCell (i := 0) (j := 2) rfl rfl) ?_
                    refine s_iaV 218 kp (fun w hw => db_rows (doc_bk (hw.has (i := 1) rfl) hbm)) rfl rfl rfl hpk hkl ?_
                    refine s_fa 219 rfl rfl ?_
                    refine s_ldS 220 rfl rfl (v := .slice pg.B pg.laid.length pg.d) (fun _ hw => dpage_cell (hw.has (i := 2) rfl) hbk hpg (j := 2) rfl) ?_
                    refine s_call1 221 rfl rfl rfl rfl (v := .bool true) (fun w hw => by have := sameBytes_spec t1.lA t1.laid.length t1.lc t1.laid pg.B pg.laid.length pg.d pg.laid w (wt_laid (hw.has (i := 4) rfl)) (by rw [hla]; exact ho4) (dp_own2 (db_pg (doc_bk (hw.has (i := 1) rfl) hbm) hpm)) ho4; rw [decide_eq_true hla] at this; exact this) (fun _ h => h.pick [5, 4, 1] rfl) ?_
                    refine s_not 222 rfl rfl ?_
                    refine s_pickF 223 rfl rfl rfl ?_
                    refine s_pickT 224 rfl rfl rfl ?_
                    refine s_mv 225 rfl rfl ?_
                    refine s_mv 226 rfl rfl ?_
                    refine s_ne 227 rfl rfl rfl (decide_eq_false (fun h => h hr0)) ?_
                    refine s_mv 228 rfl rfl ?_
                    refine SX.skip rfl ?_
                    refine SX.skip rfl ?_
                    refine SX.skip rfl ?_
                    refine SX.skip rfl ?_
                    refine SX.skip rfl ?_
                    refine SX.skip rfl ?_
                    refine s_pickF 235 rfl rfl rfl ?_
                    refine s_pickF 236 rfl rfl rfl ?_
                    refine SX.next ?_
                    refine CW.condF rfl ?_
                    refine CW.skip ?_
                    refine KN.blk ?_
                    exact KN.join (⟨x1, y1, t1⟩ : PyG) ⟨rfl, rfl, rfl, rfl, rfl, rfl, rfl, rfl, rfl, rfl, rfl, trivial⟩ (fun _ h => h.pick [3, 1, 2, 3, 2] rfl) ⟨by simp only; rw [hx1]; exact rd_okp hx _ _ _, by simp only; rw [hy1, hx1], by simp only; rw [hw1]; exact hxw, by simp only; rw [hx1]; exact has.trans (rd_as _ _ _ _).1, by simp only; rw [hys.a, hys.l]; exact hyp, by simp only; rw [hys.l]; exact hyn, by simp only; omega, by simp only; omega⟩
                  · skip
                    rw [if_neg hr0] at ht1
                    refine CW.regD (.st true 0 (.st true 1 (.st true 2 (.st true 3 (.st true 4 (.st true 5 (.st true 6 (.st true 7 (.st true 8 (.st true 9 (.st true 10 (.st true 11 (.st true 12 (.st true 13 (.st false 14 (.st true 15 (.st true 16 (.st true 17 (.st true 18 (.st true 19 (.st true 20 (.st true 21 (.st true 22 (.st true 23 (.st true 24 (.st true 25 (.st true 26 (.st true 27 (.st true 28 (.st true 29 (.st true 30 (.st false 31 (.st true 32 (.st true 33 .done)))))))))))))))))))))))))))))))))) (Sto w [blk b24 40 d.row.toArray, watchA wb t1, docA gd y1]) mixed (by kernel_rfl) (fun _ h => h.drew) (fun _ h => h.pick [5, 4, 1] rfl) ?_
                    refine s_mv 163 rfl rfl ?_
                    refine s_nil 164 rfl rfl ?_
                    refine s_fa 165 rfl rfl ?_
                    refine s_ldS 166 rfl rfl (v := .int .i64 t1.n) (fun _ hw => wt_cell (hw.has (i := 1) rfl) rfl) ?_
                    refine s_mv 167 rfl rfl ?_
                    refine s_add 168 rfl rfl rfl (r := t.n + 1) (w64 (by omega)) ?_
                    refine s_eq 169 rfl rfl rfl (decide_eq_false (by rw [ht1]; omega)) ?_
                    refine s_mv 170 rfl rfl ?_
                    refine SX.skip rfl ?_
                    refine SX.skip rfl ?_
                    refine SX.skip rfl ?_
                    refine SX.skip rfl ?_
                    refine SX.skip rfl ?_
                    refine SX.skip rfl ?_
                    refine SX.skip rfl ?_
                    refine s_pickF 178 rfl rfl rfl ?_
                    refine s_mv 179 rfl rfl ?_
                    refine SX.skip rfl ?_
                    refine SX.skip rfl ?_
                    refine SX.skip rfl ?_
                    refine SX.skip rfl ?_
                    refine SX.skip rfl ?_
                    refine SX.skip rfl ?_
                    refine SX.skip rfl ?_
                    refine s_pickF 187 rfl rfl rfl ?_
                    refine s_mv 188 rfl rfl ?_
                    refine SX.skip rfl ?_
                    refine SX.skip rfl ?_
                    refine SX.skip rfl ?_
                    refine SX.skip rfl ?_
                    refine SX.skip rfl ?_
                    refine SX.skip rfl ?_
                    refine s_pickF 195 rfl rfl rfl ?_
                    refine s_as 30 rfl rfl ?_
                    refine SX.next ?_
                    refine CW.seq ?_
                    refine CW.regD (.st true 0 (.st true 1 (.st true 2 (.st true 3 (.st true 4 (.st true 5 (.st true 6 (.st true 7 (.st true 8 (.st true 9 (.st true 10 (.st true 11 (.st true 12 (.st true 13 (.st true 14 (.st true 15 (.st true 16 (.st true 17 (.st true 18 (.st true 19 (.st true 20 (.st true 21 (.st true 22 (.st true 23 (.st true 24 (.st false 25 (.st true 26 (.st true 27 (.st true 28 (.st true 29 (.st true 30 (.st true 31 (.st true 32 (.st true 33 (.st true 34 (.st true 35 (.st true 36 (.st true 37 (.st true 38 (.st true 39 (.st true 40 .done))))))))))))))))))))))))))))))))))))))))) (Sto w [blk b24 40 d.row.toArray, watchA wb t1, docA gd y1]) mixed (by kernel_rfl) (fun _ h => h.drew) (fun _ h => h.pick [5, 4, 1] rfl) ?_
                    refine s_mv 196 rfl rfl ?_
                    refine s_eq 197 rfl rfl rfl (decide_eq_false hr0) ?_
                    refine s_mv 198 rfl rfl ?_
                    refine SX.skip rfl ?_
                    refine SX.skip rfl ?_
                    refine SX.skip rfl ?_
                    refine SX.skipU rfl ?_
                    refine SX.skipU rfl ?_
                    refine SX.skipU rfl ?_
                    refine SX.skipU rfl ?_
                    refine SX.skipU rfl ?_
                    refine SX.skipU rfl ?_
                    refine SX.skipU rfl ?_
                    refine SX.skipU rfl ?_
                    refine SX.skipU rfl ?_
                    refine SX.skipU rfl ?_
                    refine SX.skipU rfl ?_
                    refine SX.skipU rfl ?_
                    refine SX.skipU rfl ?_
                    refine SX.skipU rfl ?_
                    refine SX.skipU rfl ?_
                    refine SX.skipU rfl ?_
                    refine SX.skipU rfl ?_
                    refine SX.skipU rfl ?_
                    refine SX.skipU rfl ?_
                    refine SX.skipU rfl ?_
                    refine SX.skipU rfl ?_
                    refine SX.skip rfl ?_
                    refine s_pickF 224 rfl rfl rfl ?_
                    refine s_mv 225 rfl rfl ?_
                    refine s_mv 226 rfl rfl ?_
                    refine s_ne 227 rfl rfl rfl (decide_eq_true hr0) ?_
                    refine s_mv 228 rfl rfl ?_
                    refine s_mv 229 rfl rfl ?_
                    refine s_nil 230 rfl rfl ?_
                    refine s_fa 231 rfl rfl ?_
                    refine s_ldS 232 rfl rfl (v := .int .i64 t1.n) (fun _ hw => wt_cell (hw.has (i := 1) rfl) rfl) ?_
                    refine s_mv 233 rfl rfl ?_
                    refine s_ne 234 rfl rfl rfl (decide_eq_false (fun h => h (by rw [ht1]))) ?_
                    refine s_pickT 235 rfl rfl rfl ?_
                    refine s_pickF 236 rfl rfl rfl ?_
                    refine SX.next ?_
                    refine CW.condF rfl ?_
                    refine CW.skip ?_
                    refine KN.blk ?_
                    exact KN.join (⟨x1, y1, t1⟩ : PyG) ⟨rfl, rfl, rfl, rfl, rfl, rfl, rfl, rfl, rfl, rfl, rfl, trivial⟩ (fun _ h => h.pick [3, 1, 2, 3, 2] rfl) ⟨by simp only; rw [hx1]; exact rd_okp hx _ _ _, by simp only; rw [hy1, hx1], by simp only; rw [hw1]; exact hxw, by simp only; rw [hx1]; exact has.trans (rd_as _ _ _ _).1, by simp only; rw [hys.a, hys.l]; exact hyp, by simp only; rw [hys.l]; exact hyn, by simp only; rw [ht1]; exact ht0, by simp only; rw [ht1]; omega⟩
                · skip
                  have h1 : ¬ d.kind = 1 := hc
                  refine CW.seq ?_
                  refine CW.reg [0, 1] rfl ?_
                  refine s_eq 238 rfl rfl rfl rfl ?_
                  refine s_as 237 rfl rfl ?_
                  refine SX.next ?_
                  refine CW.test rfl (fun hc => ?_) (fun hc => ?_)
                  · skip
                    have h2 : d.kind = 2 := hc
                    refine CW.seq ?_
                    refine CW.regD (.st true 0 (.st true 1 (.st true 2 (.st true 3 (.st true 4 (.st true 6 (.st true 7 (.st true 8 (.st true 9 (.st true 10 (.st false 5 (.st false 11 (.st false 12 (.st true 13 .done)))))))))))))) (Sto w [blk b24 40 d.row.toArray]) mixed (by kernel_rfl) (fun _ h => h.drew) (fun _ h => h.pick [0] rfl) ?_
                    refine s_mv 239 rfl rfl ?_
                    refine s_fa 240 rfl rfl ?_
                    refine s_ldRS 241 (cs := [.int .i64 d.b, .int .i64 d.p]) rfl rfl rfl (fun w hw => hw.blkPart (i := 0) (o := 1) rfl (two_at rfl rfl)) ?_
                    refine s_fa 242 rfl rfl ?_
                    refine s_ldS 243 rfl rfl (v := .slice d.A d.l.length d.c) (fun _ hw => hw.blkCell (i := 0) (j := 4) rfl rfl) ?_
                    refine s_mv 245 rfl rfl ?_
                    refine s_fa 246 rfl rfl ?_
                    refine s_ldRS 247 (cs := [.int .i64 d.b, .int .i64 d.p]) rfl rfl rfl (fun w hw => hw.blkPart (i := 0) (o := 1) rfl (two_at rfl rfl)) ?_
                    refine s_fa 248 rfl rfl ?_
                    refine s_ldS 249 rfl rfl (v := .slice d.A d.l.length d.c) (fun _ hw => hw.blkCell (i := 0) (j := 4) rfl rfl) ?_
                    refine s_callP 244 [1, 0, 0, 0, 0] (M := [chipA g x]) (R := [blk b24 40 d.row.toArray, docA gd y, watchA wb t, blk b15 31 #[.int .i64 qb, .int .i64 qp]]) (X := ChG) (v := fun z => evE e (x.abs.pr d.b d.p d.l).1) (pf := fun z => z.abs = (x.abs.pr d.b d.p d.l).2 ∧ z.watch = x.watch) (M' := fun z => [chipA g z]) rfl rfl rfl rfl rfl (fun F' w' hR hM => by have := program_spec F' g x hx d.b d.p d.A d.c d.l e w' (fun w2 hf => (hR w2 hf).er heD) (fun w2 hf => (hR w2 hf).er heO) (fun w2 hf => (hR w2 hf).er heS) (fun w2 hf => (hR w2 hf).er heF) (fun w2 hf => (hR w2 hf).old hB) h8 hM;  exact this) (fun _ _ h => h.pick [1] rfl) (fun x1 hx1 => ?_)
                    refine s_callP 250 [2, 0, 0, 0, 0] (M := [docA gd y]) (R := [chipA g x1, blk b24 40 d.row.toArray, watchA wb t, blk b15 31 #[.int .i64 qb, .int .i64 qp]]) (X := DcG) (v := fun z => .int .i64 (x.abs.pr d.b d.p d.l).1) (pf := fun z => z.abs = (x.abs.pr d.b d.p d.l).2 ∧ y.Same z) (M' := fun z => [docA gd z]) rfl rfl rfl rfl rfl (fun F' w' hR hM => by have := dprogram_spec F' gd y hyo d.b d.p d.A d.c d.l w' (fun w2 hf => hyp.turn (hR w2 hf).fr) (fun w2 hf => (hR w2 hf).old hB) h8 (by omega) hM; rw [hye] at this; exact this) (fun _ _ h => h.pick [2] rfl) (fun y1 hy1 => ?_)
                    refine s_call1 251 rfl rfl rfl rfl (v := .bool true) (fun w hw => by have := is_ev (c := (x.abs.pr d.b d.p d.l).1) (x.abs.pr d.b d.p d.l).1 (pr_code _ _ _ _) e w (hw.old he); rw [decide_eq_true rfl] at this; exact this) (fun _ h => h.pick [2] rfl) ?_
                    refine s_not 252 rfl rfl ?_
                    refine SX.next ?_
                    refine CW.condF rfl ?_
                    refine CW.skip ?_
                    refine KN.blk ?_
                    exact KN.join (⟨x1, y1, t⟩ : PyG) ⟨rfl, rfl, rfl, rfl, rfl, rfl, rfl, rfl, rfl, rfl, rfl, trivial⟩ (fun _ h => h.pick [1, 0, 1, 1, 0] rfl) ⟨by simp only; rw [hx1.1]; exact pr_okp hx _ _ h8, by simp only; rw [hy1.1, hx1.1], by simp only; rw [hx1.2]; exact hxw, by simp only; rw [hx1.1]; exact has.trans (pr_as _ _ _ _), by simp only; rw [hy1.2.a, hy1.2.l]; exact hyp, by simp only; rw [hy1.2.l]; exact hyn, ht0, by simp only; omega⟩
                  · skip
                    have h2 : ¬ d.kind = 2 := hc
                    refine CW.seq ?_
                    refine CW.reg [0, 1] rfl ?_
                    refine s_eq 254 rfl rfl rfl rfl ?_
                    refine s_as 253 rfl rfl ?_
                    refine SX.next ?_
                    refine CW.test rfl (fun hc => ?_) (fun hc => ?_)
                    · skip
                      have h3 : d.kind = 3 := hc
                      refine CW.seq ?_
                      refine CW.regD (.st true 0 (.st true 1 (.st true 2 (.st true 3 (.st true 5 (.st true 6 (.st true 7 (.st true 8 (.st false 4 (.st false 9 (.st false 10 (.st true 11 .done)))))))))))) (Sto w [blk b24 40 d.row.toArray]) mixed (by kernel_rfl) (fun _ h => h.drew) (fun _ h => h.pick [0] rfl) ?_
                      refine s_mv 255 rfl rfl ?_
                      refine s_fa 256 rfl rfl ?_
                      refine s_fa 257 rfl rfl ?_
                      refine s_ldS 258 rfl rfl (v := .int .i64 d.b) (fun _ hw => hw.blkCell (i := 0) (j := 1) rfl rfl) ?_
                      refine s_mv 260 rfl rfl ?_
                      refine s_fa 261 rfl rfl ?_
                      refine s_fa 262 rfl rfl ?_
                      refine s_ldS 263 rfl rfl (v := .int .i64 d.b) (fun _ hw => hw.blkCell (i := 0) (j := 1) rfl rfl) ?_
                      refine s_callP 259 [1, 0, 0, 0, 0] (M := [chipA g x]) (R := [blk b24 40 d.row.toArray, docA gd y, watchA wb t, blk b15 31 #[.int .i64 qb, .int .i64 qp]]) (X := ChG) (v := fun z => evE e (x.abs.er d.b).1) (pf := fun z => z.abs = (x.abs.er d.b).2 ∧ z.watch = x.watch) (M' := fun z => [chipA g z]) rfl rfl rfl rfl rfl (fun F' w' hR hM => by have := erase_spec F' g x hx d.b e w' (fun w2 hf => (hR w2 hf).er heD) (fun w2 hf => (hR w2 hf).er heO) (fun w2 hf => (hR w2 hf).er heS) (fun w2 hf => (hR w2 hf).er heF) hM;  exact this) (fun _ _ h => h.pick [1] rfl) (fun x1 hx1 => ?_)
                      refine s_callP 264 [2, 0, 0, 0, 0] (M := [docA gd y]) (R := [chipA g x1, blk b24 40 d.row.toArray, watchA wb t, blk b15 31 #[.int .i64 qb, .int .i64 qp]]) (X := DcG) (v := fun z => .int .i64 (x.abs.er d.b).1) (pf := fun z => z.abs = (x.abs.er d.b).2 ∧ y.Same z) (M' := fun z => [docA gd z]) rfl rfl rfl rfl rfl (fun F' w' hR hM => by have := derase_spec F' gd y hyo d.b w' (fun w2 hf => hyp.turn (hR w2 hf).fr) hM; rw [hye] at this; exact this) (fun _ _ h => h.pick [2] rfl) (fun y1 hy1 => ?_)
                      refine s_call1 265 rfl rfl rfl rfl (v := .bool true) (fun w hw => by have := is_ev (c := (x.abs.er d.b).1) (x.abs.er d.b).1 (er_code _ _) e w (hw.old he); rw [decide_eq_true rfl] at this; exact this) (fun _ h => h.pick [2] rfl) ?_
                      refine s_not 266 rfl rfl ?_
                      refine SX.next ?_
                      refine CW.condF rfl ?_
                      refine CW.skip ?_
                      refine KN.blk ?_
                      exact KN.join (⟨x1, y1, t⟩ : PyG) ⟨rfl, rfl, rfl, rfl, rfl, rfl, rfl, rfl, rfl, rfl, rfl, trivial⟩ (fun _ h => h.pick [1, 0, 1, 1, 0] rfl) ⟨by simp only; rw [hx1.1]; exact er_okp hx _, by simp only; rw [hy1.1, hx1.1], by simp only; rw [hx1.2]; exact hxw, by simp only; rw [hx1.1]; exact has.trans (er_as _ _), by simp only; rw [hy1.2.a, hy1.2.l]; exact hyp, by simp only; rw [hy1.2.l]; exact hyn, ht0, by simp only; omega⟩
                    · skip
                      have h3 : ¬ d.kind = 3 := hc
                      refine CW.seq ?_
                      refine CW.reg [0, 1] rfl ?_
                      refine s_eq 268 rfl rfl rfl rfl ?_
                      refine s_as 267 rfl rfl ?_
                      refine SX.next ?_
                      refine CW.test rfl (fun hc => ?_) (fun hc => ?_)
                      · skip
                        have h4 : d.kind = 4 := hc
                        refine CW.seq ?_
                        refine CW.reg [0, 1] rfl ?_
                        refine s_mv 269 rfl rfl ?_
                        refine s_callP 270 [1, 0, 0, 0, 0] (M := [chipA g x]) (R := [blk b24 40 d.row.toArray, docA gd y, watchA wb t, blk b15 31 #[.int .i64 qb, .int .i64 qp]]) (X := Unit) (v := fun z => oneOf []) (pf := fun z => True) (M' := fun z => [chipA g { x with off := false }]) rfl rfl rfl rfl rfl (fun F' w' hR hM => by have := power_spec F' g x w' hM;  exact this) (fun _ _ _ => trivial) (fun _ _ => ?_)
                        refine SX.next ?_
                        refine CW.pre (fun _ h => (h.pick [2, 0, 0, 0, 0] rfl).docO) ?_
                        refine CW.reg [0, 1, 2, 3] rfl ?_
                        refine s_mv 271 rfl rfl ?_
                        refine s_nil 272 rfl rfl ?_
                        refine s_fa 273 rfl rfl ?_
                        refine s_stB 0 rfl rfl rfl rfl rfl (by show 9 < 11; decide) (fun _ _ => trivial) ?_
                        refine SX.end_ ?_
                        refine KN.blk ?_
                        exact KN.join (⟨{ x with off := false }, { y with off := false }, t⟩ : PyG) ⟨rfl, rfl, rfl, rfl, rfl, rfl, rfl, rfl, rfl, rfl, rfl, trivial⟩ (fun _ h => (h.docC (x := { y with off := false })).pick [1, 0, 1, 1, 0] rfl) ⟨off_okp hx _, by show ({ y.abs with off := false } : ChS) = { x.abs with off := false }; rw [hye], hxw, has.trans ⟨rfl, rfl, rfl, rfl⟩, hyp, hyn, ht0, by simp only; omega⟩
                      · skip
                        have h4 : ¬ d.kind = 4 := hc
                        refine CW.seq ?_
                        refine CW.seq ?_
                        refine CW.reg [0, 1, 2, 3, 4] rfl ?_
                        refine s_mv 119 rfl rfl ?_
                        refine s_fa 120 rfl rfl ?_
                        refine s_ld 121 rfl rfl (v := .slice d.pA d.plan.length d.pc) (fun _ hw => hw.blkCell (i := 0) (j := 5) rfl rfl) ?_
                        refine s_callP 122 [1, 0, 0, 0, 0] (M := [chipA g x]) (R := [blk b24 40 d.row.toArray, docA gd y, watchA wb t, blk b15 31 #[.int .i64 qb, .int .i64 qp]]) (X := ChG) (v := fun z => .nilIface) (pf := fun z => z.abs = { x.abs with plan := d.plan.map FtG.abs } ∧ z.watch = x.watch) (M' := fun z => [chipA g z]) rfl rfl rfl rfl rfl (fun F' w' hR hM => by have := plan_spec F' g x d.pA d.pc d.plan e w' (fun w2 hf => (hR w2 hf).er heM) (fun w2 hf => hdp.turn (hR w2 hf).fr) hM; simp only [if_neg (show ¬ 1000 < d.plan.length by omega)] at this; exact this) (fun _ _ _ => trivial) (fun x1 hx1 => ?_)
                        refine s_neNN 123 rfl rfl ?_
                        refine SX.next ?_
                        refine CW.condF rfl ?_
                        refine CW.skip ?_
                        refine KN.code ?_
                        refine CW.pre (fun _ h => (h.pick [2, 0, 0, 0, 0] rfl).docO) ?_
                        refine CW.reg [0, 1, 2, 3, 4, 5] rfl ?_
                        refine s_mv 124 rfl rfl ?_
                        refine s_fa 125 rfl rfl ?_
                        refine s_ld 126 rfl rfl (v := .slice d.pA d.plan.length d.pc) (fun _ hw => hw.blkCell (i := 6) (j := 5) rfl rfl) ?_
                        refine s_nil 127 rfl rfl ?_
                        refine s_fa 128 rfl rfl ?_
                        refine s_stB 0 rfl rfl rfl rfl rfl (by show 7 < 11; decide) (fun _ _ => trivial) ?_
                        refine SX.end_ ?_
                        refine KN.blk ?_
                        exact KN.join (⟨x1, { y with pA := d.pA, pc := d.pc, plan := d.plan }, t⟩ : PyG) ⟨rfl, rfl, rfl, rfl, rfl, rfl, rfl, rfl, rfl, rfl, rfl, trivial⟩ (fun _ h => (h.docC (x := { y with pA := d.pA, pc := d.pc, plan := d.plan })).pick [1, 0, 1, 1, 0] rfl) ⟨by simp only; rw [hx1.1]; exact plan_okp hx (by rw [List.length_map]; omega) (fun f hf => by
                          obtain ⟨f2, h2, rfl⟩ := List.mem_map.1 hf
                          exact hdp.lens f2 h2), by simp only; rw [hx1.1, ← hye]; rfl, by simp only; rw [hx1.2]; exact hxw, by simp only; rw [hx1.1]; exact has.trans ⟨rfl, rfl, rfl, rfl⟩, hdp, hdpn, ht0, by simp only; omega⟩
              · skip
                clear hx hye hxw has hyp hyn ht0 hti hyo
                rintro ⟨x, y, t⟩ ⟨hx, hye, hxw, has, hyp, hyn, ht0, hti⟩
                simp only at hx hye hxw has hyp hyn ht0 hti
                dsimp only
                refine CW.seq ?_
                refine CW.reg [0, 1, 2, 3, 4, 5, 6, 7, 8, 9, 10, 11, 12] rfl ?_
                refine s_mv 274 rfl rfl ?_
                refine s_mv 275 rfl rfl ?_
                refine s_fa 276 rfl rfl ?_
                refine s_ldR 277 (cs := [.int .i64 d.b, .int .i64 d.p]) rfl rfl rfl (fun w hw => hw.blkPart (i := 4) (o := 1) rfl (two_at rfl rfl)) ?_
                refine s_call1 278 rfl rfl rfl rfl (fun w hw => same14_spec g x gd y hx hye d.b d.p w (hw.has (i := 0) rfl) (hw.has (i := 1) rfl)) (fun _ _ => trivial) ?_
                refine s_not 279 rfl rfl ?_
                refine s_mv 280 rfl rfl ?_
                refine s_mv 281 rfl rfl ?_
                refine s_mv 282 rfl rfl ?_
                refine s_ldW 283 3 rfl rfl rfl ?_
                refine s_call1 284 rfl rfl rfl rfl (fun w hw => same14_spec g x gd y hx hye qb qp w (hw.has (i := 0) rfl) (hw.has (i := 1) rfl)) (fun _ _ => trivial) ?_
                refine s_not 285 rfl rfl ?_
                refine s_pickF 286 rfl rfl rfl ?_
                refine SX.next ?_
                refine CW.condF rfl ?_
                refine CW.skip ?_
                refine KN.blk ?_
                refine KN.code ?_
                refine CW.reg [0, 1, 2] rfl ?_
                refine s_mv 111 rfl rfl ?_
                refine s_add 112 rfl rfl rfl (r := ((i + 1 : Nat) : Int)) (w64 (by omega)) ?_
                refine s_as 23 rfl rfl ?_
                refine SX.end_ ?_
                exact KN.back (i + 1, ⟨x, y, t⟩) ⟨rfl, rfl, rfl, rfl, rfl, rfl, rfl, rfl, rfl, rfl, trivial⟩ (fun _ h => h.pick [0, 0, 0, 0] rfl) ⟨by simp only; omega, hx, hye, hxw, has, hyp, hyn, ht0, hti⟩ (by simp only; omega)
            · skip
              refine CW.exit rfl ?_
              refine KN.code ?_
              refine CW.seq ?_
              refine CW.reg [0, 1, 2, 3, 4, 5, 6, 7, 8, 9, 10] rfl ?_
              refine s_mv 288 rfl rfl ?_
              refine s_call1 289 rfl rfl rfl rfl (fun w hw => shape_spec g x w (hw.has (i := 0) rfl)) (fun _ _ => trivial) ?_
              refine s_mv 287 rfl rfl ?_
              refine s_ext 290 rfl rfl rfl ?_
              refine s_ext 291 rfl rfl rfl ?_
              refine s_ext 292 rfl rfl rfl ?_
              refine s_ext 293 rfl rfl rfl ?_
              refine s_as 31 rfl rfl ?_
              refine s_as 32 rfl rfl ?_
              refine s_as 33 rfl rfl ?_
              refine s_as 34 rfl rfl ?_
              refine SX.next ?_
              refine CW.seq ?_
              refine CW.reg [0, 1, 2, 3, 4, 5, 6, 7, 8, 9, 10, 11, 12, 13, 14, 15, 16, 17, 18] rfl ?_
              refine s_mv 294 rfl rfl ?_
              refine s_mv 295 rfl rfl ?_
              refine s_eq 296 rfl rfl rfl (decide_eq_true (by have := has.b; rw [new_blen] at this; unfold ChG.abs at this; simp only [List.length_map] at this; omega)) ?_
              refine s_mv 297 rfl rfl ?_
              refine s_mv 298 rfl rfl ?_
              refine s_mv 299 rfl rfl ?_
              refine s_eq 300 rfl rfl rfl (decide_eq_true (by exact has.p)) ?_
              refine s_pickT 301 rfl rfl rfl ?_
              refine s_mv 302 rfl rfl ?_
              refine s_mv 303 rfl rfl ?_
              refine s_mv 304 rfl rfl ?_
              refine s_eq 305 rfl rfl rfl (decide_eq_true (by exact has.z)) ?_
              refine s_pickT 306 rfl rfl rfl ?_
              refine s_mv 307 rfl rfl ?_
              refine s_mv 308 rfl rfl ?_
              refine s_mv 309 rfl rfl ?_
              refine s_eq 310 rfl rfl rfl (decide_eq_true (by exact has.v)) ?_
              refine s_pickT 311 rfl rfl rfl ?_
              refine s_as 16 rfl rfl ?_
              refine SX.next ?_
              refine CW.ret ?_
              exact KN.ret (rs := [.tmp 16]) Tryd.results7 rfl (fun w hw => ⟨rfl, hw.nothing⟩)
        · skip
          refine CW.reg [0, 1, 2, 3, 4, 5, 6, 7, 8, 9] rfl ?_
          refine s_mv 61 rfl rfl ?_
          refine s_eq 62 rfl rfl rfl (decide_eq_false hfc) ?_
          refine s_mv 63 rfl rfl ?_
          refine SX.skip rfl ?_
          refine SX.skip rfl ?_
          refine SX.skip rfl ?_
          refine SX.skip rfl ?_
          refine SX.skip rfl ?_
          refine SX.skip rfl ?_
          refine s_pickF 70 rfl rfl rfl ?_
          refine SX.next ?_
          refine CW.condF rfl ?_
          refine CW.skip ?_
          refine KN.code ?_
          refine CW.seq ?_
          rcases faultC_bad hfc (by omega) with hq | hq
          · skip
            obtain ⟨hgeo2, hf108⟩ := hq
            refine CW.reg [0, 1, 2, 3, 4, 5, 6, 7, 8, 9, 10, 11] rfl ?_
            refine s_mv 72 rfl rfl ?_
            refine s_mv 73 rfl rfl ?_
            refine s_mv 74 rfl rfl ?_
            refine s_mv 75 rfl rfl ?_
            refine s_mv 76 rfl rfl ?_
            refine s_mv 77 rfl rfl ?_
            refine s_call1 78 rfl rfl rfl rfl (v := two (.pointer none) (evE e 108)) (fun w hw => cnew_geo nb np sz lv (.slice A4 ms.length c4) (.slice A5 pl.length c5) e w (hw.er heG) hgeo2) (fun _ _ => trivial) ?_
            refine s_mv 71 rfl rfl ?_
            refine s_ext 79 rfl rfl rfl ?_
            refine s_ext 80 rfl rfl rfl ?_
            refine s_as 19 rfl rfl ?_
            refine s_as 20 rfl rfl ?_
            refine SX.next ?_
            refine CW.seq ?_
            refine CW.seq ?_
            refine CW.reg [0, 1, 2, 3, 4, 5, 6, 7, 8, 9, 10] rfl ?_
            refine s_mv 81 rfl rfl ?_
            refine s_mv 82 rfl rfl ?_
            rw [hf108]
            refine s_call1 83 rfl rfl rfl rfl (v := .bool true) (fun w hw => by have := is_ev (c := 108) 108 (.inr ⟨by decide, by decide⟩) e w (hw.old he); rw [decide_eq_true rfl] at this; exact this) (fun _ _ => trivial) ?_
            refine s_not 84 rfl rfl ?_
            refine s_mv 85 rfl rfl ?_
            refine s_mv 86 rfl rfl ?_
            refine s_eqPNn 87 rfl rfl ?_
            refine s_mv 88 rfl rfl ?_
            refine s_ne 89 rfl rfl rfl (decide_eq_true (by omega)) ?_
            refine s_neB 90 rfl rfl rfl (r := false) rfl ?_
            refine s_pickF 91 rfl rfl rfl ?_
            refine SX.next ?_
            refine CW.condF rfl ?_
            refine CW.skip ?_
            refine KN.code ?_
            refine CW.seq ?_
            refine CW.seq ?_
            refine CW.reg [0, 1] rfl ?_
            refine s_mv 92 rfl rfl ?_
            refine s_eqPNn 93 rfl rfl ?_
            refine SX.next ?_
            refine CW.condT rfl ?_
            refine CW.seq ?_
            refine CW.reg [0] rfl ?_
            refine s_as 16 rfl rfl ?_
            refine SX.next ?_
            refine CW.ret ?_
            exact KN.ret (rs := [.tmp 16]) Tryd.results7 rfl (fun w hw => ⟨rfl, hw.nothing⟩)
          · skip
            obtain ⟨hgeo2, hmk2, hf102⟩ := hq
            obtain ⟨nb, rfl⟩ := Int.eq_ofNat_of_zero_le (show 0 ≤ nb by omega)
            obtain ⟨np, rfl⟩ := Int.eq_ofNat_of_zero_le (show 0 ≤ np by omega)
            obtain ⟨sz, rfl⟩ := Int.eq_ofNat_of_zero_le (show 0 ≤ sz by omega)
            obtain ⟨lv, rfl⟩ := Int.eq_ofNat_of_zero_le (show 0 ≤ lv by omega)
            refine CW.reg [0, 1, 2, 3, 4, 5, 6, 7, 8, 9, 10, 11] rfl ?_
            refine s_mv 72 rfl rfl ?_
            refine s_mv 73 rfl rfl ?_
            refine s_mv 74 rfl rfl ?_
            refine s_mv 75 rfl rfl ?_
            refine s_mv 76 rfl rfl ?_
            refine s_mv 77 rfl rfl ?_
            refine s_call1 78 rfl rfl rfl rfl (v := two (.pointer none) (evE e 102)) (fun w hw => cnew_num nb np sz lv A4 c4 ms A5 c5 pl e w (by omega) (by omega) (by omega) (by omega) (hw.old hm) (by omega) hmk2 (hw.er heN)) (fun _ _ => trivial) ?_
            refine s_mv 71 rfl rfl ?_
            refine s_ext 79 rfl rfl rfl ?_
            refine s_ext 80 rfl rfl rfl ?_
            refine s_as 19 rfl rfl ?_
            refine s_as 20 rfl rfl ?_
            refine SX.next ?_
            refine CW.seq ?_
            refine CW.seq ?_
            refine CW.reg [0, 1, 2, 3, 4, 5, 6, 7, 8, 9, 10] rfl ?_
            refine s_mv 81 rfl rfl ?_
            refine s_mv 82 rfl rfl ?_
            rw [hf102]
            refine s_call1 83 rfl rfl rfl rfl (v := .bool true) (fun w hw => by have := is_ev (c := 102) 102 (.inr ⟨by decide, by decide⟩) e w (hw.old he); rw [decide_eq_true rfl] at this; exact this) (fun _ _ => trivial) ?_
            refine s_not 84 rfl rfl ?_
            refine s_mv 85 rfl rfl ?_
            refine s_mv 86 rfl rfl ?_
            refine s_eqPNn 87 rfl rfl ?_
            refine s_mv 88 rfl rfl ?_
            refine s_ne 89 rfl rfl rfl (decide_eq_true (by omega)) ?_
            refine s_neB 90 rfl rfl rfl (r := false) rfl ?_
            refine s_pickF 91 rfl rfl rfl ?_
            refine SX.next ?_
            refine CW.condF rfl ?_
            refine CW.skip ?_
            refine KN.code ?_
            refine CW.seq ?_
            refine CW.seq ?_
            refine CW.reg [0, 1] rfl ?_
            refine s_mv 92 rfl rfl ?_
            refine s_eqPNn 93 rfl rfl ?_
            refine SX.next ?_
            refine CW.condT rfl ?_
            refine CW.seq ?_
            refine CW.reg [0] rfl ?_
            refine s_as 16 rfl rfl ?_
            refine SX.next ?_
            refine CW.ret ?_
            exact KN.ret (rs := [.tmp 16]) Tryd.results7 rfl (fun w hw => ⟨rfl, hw.nothing⟩)
end Go.Proofs.YtcapijdokbkgaaaDoor
end
section
/- What a place that comes in gives a walk. No condition. -/
namespace Go.Proofs.YtcapijdokbkgaaaDoor
open Go Go.Sx Go.ChangeShapes Go.WideShapes Go.Deep
theorem open_place {H : Type} {enc : TypeId × Value → H} {P : Program} {W : World} {base b0 : Nat} {spare : Nat → Bool} {held : Bool} {t ti : TypeId} (hT : PcT P t ti) {v : Value} {d : DataW H} {ps : List MemPlace} (hval : Value.okWide P W .any b0 t v) (hd : DataW.Trod enc P W base spare held t v d ps) :
    ∃ b p, v = .agg #[.int .i64 b, .int .i64 p] ∧ i64B b ∧ i64B p := by
  obtain ⟨f0, f1, ht, _⟩ := hT.ht
  obtain ⟨cs, rfl, _⟩ := okWide_struct ht hval
  obtain ⟨fuel, hf⟩ := hd
  obtain ⟨b, p, hr, hb, hp⟩ := open_rowP hT (show DataW.trod enc P W base spare held fuel t cs.toList = some (d, ps) from hf)
  refine ⟨b, p, ?_, hb, hp⟩
  rw [← Array.toArray_toList (xs := cs), hr]
end Go.Proofs.YtcapijdokbkgaaaDoor
end
