/- The walk of the statement DrivePlays, text 4. Conditions: each theorem tells its own. -/
import Derived.Test.YtcapijdokbkgaaaDoorWDrivePlaysC
import Derived.Test.YtcapijdokbkgaaaDoorWDrivePlaysB
section
/- The document's chip: a read. Conditions: it is lent; its plan is read where it lies. -/
namespace Go.Proofs.YtcapijdokbkgaaaDoor
open Go Go.Sx Go.Fm
set_option maxRecDepth 100000
/-- The plan is where it was. -/
structure DcG.Same (x z : DcG) : Prop where
  a : z.pA = x.pA
  c : z.pc = x.pc
  l : z.plan = x.plan
theorem DcG.Same.refl (x : DcG) : x.Same x := ⟨rfl, rfl, rfl⟩
def hitsT (x : DcG) (i : Nat) : List FtG := (x.plan.take i).filter (fun f => decide (f.op = x.ops))
theorem hitsT_yes {x : DcG} {i : Nat} (h : i < x.plan.length) (ho : (gF x.plan i).op = x.ops) : hitsT x (i + 1) = hitsT x i ++ [gF x.plan i] := by
  unfold hitsT
  rw [List.take_add_one, gF_at h, Option.toList_some, List.filter_append, List.filter_cons_of_pos (by simpa using ho), List.filter_nil]
theorem hitsT_no {x : DcG} {i : Nat} (h : i < x.plan.length) (ho : ¬ (gF x.plan i).op = x.ops) : hitsT x (i + 1) = hitsT x i := by
  unfold hitsT
  rw [List.take_add_one, gF_at h, Option.toList_some, List.filter_append, List.filter_cons_of_neg (by simpa using ho), List.filter_nil, List.append_nil]
theorem hitsT_all (x : DcG) : hitsT x x.plan.length = x.hitsG := by
  unfold hitsT DcG.hitsG
  rw [List.take_length]
theorem flipsG_snoc (l : List FtG) (f : FtG) (v : Int) (b : List Nat) : flipsG (l ++ [f]) v b = flip1 v (flipsG l v b) f := by
  unfold flipsG
  rw [List.foldl_append]
  rfl
theorem spoilsG_snoc (l : List FtG) (f : FtG) (b : List Nat) : spoilsG (l ++ [f]) b = spoil1 (spoilsG l b) f := by
  unfold spoilsG
  rw [List.foldl_append]
  rfl

set_option maxHeartbeats 1600000 in

theorem dread_spec (F : Nat → Prop) (g : Nat) (x : DcG) (hx : x.abs.Ok) (b p level : Int) (w : World) (hP : ∀ w', Fr F w w' → PlIn x.pA x.plan w') (hw : St F w [docA g x] w) : SpecP Tryd.prog 33 [.pointer (some ⟨g, 0, none⟩), .agg #[.int .i64 b, .int .i64 p], .int .i64 level] F w (X := (Option Addr × Nat) × DcG) (fun z => two (.slice z.1.1 (x.abs.rd b p level).2.1.length z.1.2) (.int .i64 (x.abs.rd b p level).1)) (fun z => z.2.abs = (x.abs.rd b p level).2.2 ∧ x.Same z.2) (fun z => [own 5 1 z.1.1 (x.abs.rd b p level).2.1.length z.1.2 (nats .u8 (x.abs.rd b p level).2.1), docA g z.2]) := by
  refine spec_ofC Tryd.func33 rfl Tryd.ntmps33 rfl hw ?_
  refine CW.seq ?_
  refine CW.reg [0, 1, 2] rfl ?_
  refine s_box 4 rfl rfl (fun _ _ => trivial) (fun b4 => ?_)
  refine s_as 6 rfl rfl ?_
  refine s_as 7 rfl rfl ?_
  refine SX.next ?_
  refine CW.seq ?_
  refine CW.seq ?_
  refine CW.reg [0, 1, 2, 3] rfl ?_
  refine s_mv 13 rfl rfl ?_
  refine s_nil 14 rfl rfl ?_
  refine s_fa 15 rfl rfl ?_
  refine s_ld 16 rfl rfl (v := .bool x.off) (fun _ hw => doc_cell (hw.has (i := 1) rfl) rfl) ?_
  refine SX.next ?_
  refine CW.cond rfl (fun hof => ?_) (fun hof => ?_)
  · skip
    have hE : x.abs.rdE b p level = 109 := by
      unfold ChS.rdE askC
      rw [show x.abs.off = true from hof]
      rfl
    refine CW.seq ?_
    refine CW.reg [0, 1] rfl ?_
    refine s_as 6 rfl rfl ?_
    refine s_as 7 rfl rfl ?_
    refine SX.next ?_
    refine CW.ret ?_
    exact KN.ret (rs := [.tmp 6, .tmp 7]) Tryd.results33 rfl (fun w hw => ⟨((none, 0), x), by rw [rd_err (by rw [hE]; decide), hE]; rfl, by rw [rd_err (by rw [hE]; decide)]; exact ⟨rfl, .refl x⟩, by rw [rd_err (by rw [hE]; decide)]; exact (hw.pick [1] rfl).begin_ 5 1⟩)
  · skip
    refine CW.skip ?_
    refine KN.code ?_
    refine CW.seq ?_
    refine CW.seq ?_
    refine CW.reg [0, 1, 2, 3, 4, 5, 6, 7, 8, 9, 10, 11, 12, 13, 14, 15] rfl ?_
    refine s_mv 17 rfl rfl ?_
    refine s_ldW 18 0 rfl rfl rfl ?_
    refine s_call1 19 rfl rfl rfl rfl (fun w hw => dhas_spec g x b p w (hw.has (i := 1) rfl)) (fun _ _ => trivial) ?_
    refine s_not 20 rfl rfl ?_
    refine s_mv 21 rfl rfl ?_
    refine SX.bool 21 rfl (fun hb => ?_) (fun hb => ?_)
    · skip
      have hin : x.abs.inn b p = false := by simpa using hb
      have hE : x.abs.rdE b p level = 110 := by
        unfold ChS.rdE askC
        rw [show x.abs.off = false from hof, hin]
        rfl
      refine SX.skip rfl ?_
      refine SX.skip rfl ?_
      refine s_pickT 24 rfl rfl rfl ?_
      refine s_mv 25 rfl rfl ?_
      refine SX.skip rfl ?_
      refine SX.skip rfl ?_
      refine SX.skip rfl ?_
      refine SX.skip rfl ?_
      refine SX.skip rfl ?_
      refine SX.skip rfl ?_
      refine s_pickT 32 rfl rfl rfl ?_
      refine SX.next ?_
      refine CW.condT rfl ?_
      refine CW.seq ?_
      refine CW.reg [0, 1] rfl ?_
      refine s_as 6 rfl rfl ?_
      refine s_as 7 rfl rfl ?_
      refine SX.next ?_
      refine CW.ret ?_
      exact KN.ret (rs := [.tmp 6, .tmp 7]) Tryd.results33 rfl (fun w hw => ⟨((none, 0), x), by rw [rd_err (by rw [hE]; decide), hE]; rfl, by rw [rd_err (by rw [hE]; decide)]; exact ⟨rfl, .refl x⟩, by rw [rd_err (by rw [hE]; decide)]; exact (hw.pick [1] rfl).begin_ 5 1⟩)
    · skip
      have hin : x.abs.inn b p = true := by simpa using hb
      refine s_mv 22 rfl rfl ?_
      refine s_lt 23 rfl rfl rfl rfl ?_
      refine s_pickF 24 rfl rfl rfl ?_
      refine s_mv 25 rfl rfl ?_
      refine SX.bool 25 rfl (fun hb => ?_) (fun hb => ?_)
      · skip
        have hlv := of_decide_eq_true hb
        have hE : x.abs.rdE b p level = 110 := by
          unfold ChS.rdE askC
          rw [show x.abs.off = false from hof, hin, decide_eq_false (fun h : 0 ≤ level ∧ level < x.abs.levels => by omega)]
          rfl
        refine SX.skip rfl ?_
        refine SX.skip rfl ?_
        refine SX.skip rfl ?_
        refine SX.skip rfl ?_
        refine SX.skip rfl ?_
        refine SX.skip rfl ?_
        refine s_pickT 32 rfl rfl rfl ?_
        refine SX.next ?_
        refine CW.condT rfl ?_
        refine CW.seq ?_
        refine CW.reg [0, 1] rfl ?_
        refine s_as 6 rfl rfl ?_
        refine s_as 7 rfl rfl ?_
        refine SX.next ?_
        refine CW.ret ?_
        exact KN.ret (rs := [.tmp 6, .tmp 7]) Tryd.results33 rfl (fun w hw => ⟨((none, 0), x), by rw [rd_err (by rw [hE]; decide), hE]; rfl, by rw [rd_err (by rw [hE]; decide)]; exact ⟨rfl, .refl x⟩, by rw [rd_err (by rw [hE]; decide)]; exact (hw.pick [1] rfl).begin_ 5 1⟩)
      · skip
        have hlv := of_decide_eq_false hb
        refine s_mv 26 rfl rfl ?_
        refine s_mv 27 rfl rfl ?_
        refine s_nil 28 rfl rfl ?_
        refine s_fa 29 rfl rfl ?_
        refine s_ld 30 rfl rfl (v := .int .i64 x.levels) (fun _ hw => doc_cell (hw.has (i := 1) rfl) rfl) ?_
        refine s_ge 31 rfl rfl rfl rfl ?_
        refine s_pickF 32 rfl rfl rfl ?_
        refine SX.next ?_
        refine CW.test rfl (fun h3 => ?_) (fun h3 => ?_)
        · skip
          have hE : x.abs.rdE b p level = 110 := by
            unfold ChS.rdE askC
            rw [show x.abs.off = false from hof, hin, decide_eq_false (show ¬ (0 ≤ level ∧ level < x.abs.levels) from fun h => by have h4 : level < x.levels := h.2; omega)]
            rfl
          refine CW.seq ?_
          refine CW.reg [0, 1] rfl ?_
          refine s_as 6 rfl rfl ?_
          refine s_as 7 rfl rfl ?_
          refine SX.next ?_
          refine CW.ret ?_
          exact KN.ret (rs := [.tmp 6, .tmp 7]) Tryd.results33 rfl (fun w hw => ⟨((none, 0), x), by rw [rd_err (by rw [hE]; decide), hE]; rfl, by rw [rd_err (by rw [hE]; decide)]; exact ⟨rfl, .refl x⟩, by rw [rd_err (by rw [hE]; decide)]; exact (hw.pick [1] rfl).begin_ 5 1⟩)
        · skip
          have hz0 : x.abs.rdE b p level = 0 := by
            unfold ChS.rdE askC
            rw [show x.abs.off = false from hof, hin, decide_eq_true (show 0 ≤ level ∧ level < x.abs.levels from ⟨by omega, by show level < x.levels; omega⟩)]
            rfl
          obtain ⟨i, k, bk, pg, hbi, hpk, hbk, hpg, hba, hpa⟩ := dinn_at hx hin
          have hil := (List.getElem?_eq_some_iff.1 hbk).1
          have hkl := (List.getElem?_eq_some_iff.1 hpg).1
          have hbm := List.mem_of_getElem? hbk
          have hpm := List.mem_of_getElem? hpg
          obtain ⟨ho1, ho2, ho3, ho4⟩ := dpg_ok hx hbk hpg
          have hz1 : x.size ≤ 4096 := hx.z1
          have hpl9 := dplan_len hx
          refine CW.skip ?_
          refine KN.code ?_
          refine CW.seq ?_
          refine CW.reg [0, 1, 2, 3, 4, 5, 6, 7] rfl ?_
          refine s_mv 34 rfl rfl ?_
          refine s_call1 35 rfl rfl rfl rfl (fun w hw => dfirst_spec g x 3 w (hw.has (i := 1) rfl) (hP _ hw.fr) (dplan_len hx)) (fun _ _ => trivial) ?_
          refine s_mv 33 rfl rfl ?_
          refine s_ext 36 rfl rfl rfl ?_
          refine s_ext 37 rfl rfl rfl ?_
          refine s_alloc 8 rfl (fun _ _ => trivial) (fun b8 => ?_)
          refine s_stAll 0 rfl rfl (by kernel_rfl) rfl rfl rfl rfl (fun _ _ => trivial) ?_
          refine s_as 9 rfl rfl ?_
          refine SX.next ?_
          refine CW.seq ?_
          refine CW.seq ?_
          refine CW.reg [0] rfl ?_
          refine s_mv 38 rfl rfl ?_
          refine SX.next ?_
          refine CW.cond rfl (fun hct => ?_) (fun hct => ?_)
          · skip
            rw [dfind_some] at hct
            refine CW.seq ?_
            refine CW.pre (fun _ h => (h.pick [2, 0, 0] rfl).docO) ?_
            refine CW.reg [0, 1, 2, 3, 4, 5, 6, 7, 8] rfl ?_
            refine s_mv 39 rfl rfl ?_
            refine s_mv 40 rfl rfl ?_
            refine s_nil 41 rfl rfl ?_
            refine s_fa 42 rfl rfl ?_
            refine s_ldB 43 0 rfl rfl rfl (v := .int .i64 x.ops) rfl ?_
            refine s_add 44 rfl rfl rfl (r := wr (x.ops + 1)) rfl ?_
            refine s_nil 45 rfl rfl ?_
            refine s_fa 46 rfl rfl ?_
            refine s_stB 0 rfl rfl rfl rfl rfl (by show 8 < 11; decide) (fun _ _ => trivial) ?_
            refine SX.next ?_
            refine CW.seq ?_
            refine CW.reg [0, 1, 2, 3] rfl ?_
            refine s_mv 47 rfl rfl ?_
            refine s_nil 48 rfl rfl ?_
            refine s_fa 49 rfl rfl ?_
            refine s_stB 0 rfl rfl rfl rfl rfl (by show 9 < 11; decide) (fun _ _ => trivial) ?_
            refine SX.next ?_
            refine CW.seq ?_
            refine CW.reg [0, 1] rfl ?_
            refine s_as 6 rfl rfl ?_
            refine s_as 7 rfl rfl ?_
            refine SX.next ?_
            refine CW.ret ?_
            exact KN.ret (rs := [.tmp 6, .tmp 7]) Tryd.results33 rfl (fun w hw => ⟨((none, 0), { x.tick with off := true }), by rw [rd_cut hz0 hct]; rfl, by rw [rd_cut hz0 hct]; exact ⟨rfl, ⟨rfl, rfl, rfl⟩⟩, by rw [rd_cut hz0 hct]; exact ((hw.pick [0, 0, 0, 0, 0] rfl).docC (x := { x.tick with off := true })).begin_ 5 1⟩)
          · skip
            rw [dfind_some] at hct
            refine CW.skip ?_
            refine KN.code ?_
            refine CW.seq ?_
            refine CW.regD (.st true 0 (.st true 1 (.st true 2 (.st true 3 (.st true 4 (.st true 5 (.st true 6 (.st true 7 (.st true 8 (.st true 9 (.st true 10 (.st true 11 (.st true 12 (.st false 13 (.st true 14 .done))))))))))))))) (St F w [blk b8 48 (findG x.hitsG 3 |>.getD FtG.nul).row.toArray, blk b4 31 #[.int .i64 b, .int .i64 p], docA g x]) mixed (by kernel_rfl) (fun _ h => h.drew) (fun _ h => h) ?_
            refine s_mv 50 rfl rfl ?_
            refine s_nil 51 rfl rfl ?_
            refine s_fa 52 rfl rfl ?_
            refine s_ldS 53 rfl rfl (v := .slice x.A x.blocks.length x.c) (fun _ hw => doc_cell (hw.has (i := 2) rfl) rfl) ?_
            refine s_fa 54 rfl rfl ?_
            refine s_ldS 55 rfl rfl (v := .int .i64 b) (fun _ hw => hw.blkCell (i := 1) (j := 0) rfl rfl) ?_
            refine s_iaV 56 i (fun w hw => doc_hds (hw.has (i := 2) rfl)) rfl rfl rfl hbi hil ?_
            refine s_ldVS 57 (fun w hw => doc_hds (hw.has (i := 2) rfl)) rfl rfl (hdr_at1 hbk) (by omega) ?_
            refine s_fa 58 rfl rfl ?_
            refine s_ldS 59 rfl rfl (v := .int .i64 p) (fun _ hw => hw.blkCell (i := 1) (j := 1) rfl rfl) ?_
            refine s_iaV 60 k (fun w hw => db_rows (doc_bk (hw.has (i := 2) rfl) hbm)) rfl rfl rfl hpk hkl ?_
            refine s_fa 61 rfl rfl ?_
            refine s_ldS 62 rfl rfl (v := .slice pg.A pg.l.length pg.c) (fun _ hw => dpage_cell (hw.has (i := 2) rfl) hbk hpg (j := 0) rfl) ?_
            refine s_call 63 rfl rfl rfl rfl (fun w hw => rbytes_spec pg.A pg.l.length pg.c pg.l w (dp_own1 (db_pg (doc_bk (hw.has (i := 2) rfl) hbm) hpm)) (by omega)) (fun _ h => h) (fun zo hzo => ?_)
            refine s_as 10 rfl rfl ?_
            refine SX.next ?_
            refine CW.seq ?_
            refine CW.seq ?_
            refine CW.reg [0] rfl ?_
            refine s_as 11 rfl rfl ?_
            refine SX.next ?_
            refine CW.block ?_
            refine CW.loop (G := Nat) (fun j => [(0, .pointer (some ⟨g, 0, none⟩)), (2, .int .i64 level), (10, .slice zo.1 pg.l.length zo.2), (11, .int .i64 (j : Nat))]) (fun j => St F w [own 5 1 zo.1 pg.l.length zo.2 (nats .u8 (flipsG (hitsT x j) level pg.l)), docA g x]) (fun j => j ≤ x.plan.length) (fun j => x.plan.length - j) 0 ⟨rfl, rfl, rfl, rfl, trivial⟩ (fun _ h => h.pick [0, 2] rfl) (Nat.zero_le _) ?_
            intro j hj
            refine CW.seq ?_
            refine CW.seq ?_
            refine CW.reg [0, 1, 2, 3, 4, 5, 6] rfl ?_
            refine s_mv 64 rfl rfl ?_
            refine s_mv 65 rfl rfl ?_
            refine s_nil 66 rfl rfl ?_
            refine s_fa 67 rfl rfl ?_
            refine s_ld 68 rfl rfl (v := .slice x.pA x.plan.length x.pc) (fun _ hw => doc_cell (hw.has (i := 1) rfl) rfl) ?_
            refine s_len 69 rfl rfl ?_
            refine s_lt 70 rfl rfl rfl rfl ?_
            refine SX.next ?_
            refine CW.test rfl (fun hc => ?_) (fun hc => ?_)
            · skip
              have hjl : j < x.plan.length := by omega
              have hg := gF_at hjl
              have hgm := gF_mem hjl
              obtain ⟨hfl, hf8⟩ := flipsG_ok level (hitsT x j) pg.l
              have hf82 := hf8 ho2
              have hfb := dft_bits hx hgm
              refine CW.skip ?_
              refine KN.code ?_
              refine CW.seq ?_
              refine CW.block ?_
              refine CW.seq ?_
              refine CW.reg [0, 1, 2, 3, 4, 5, 6, 7, 8] rfl ?_
              refine s_mv 73 rfl rfl ?_
              refine s_nil 74 rfl rfl ?_
              refine s_fa 75 rfl rfl ?_
              refine s_ld 76 rfl rfl (v := .slice x.pA x.plan.length x.pc) (fun _ hw => doc_cell (hw.has (i := 1) rfl) rfl) ?_
              refine s_mv 77 rfl rfl ?_
              refine s_iaV 78 j (fun w hw => (hP _ hw.fr).rows) rfl rfl rfl rfl hjl ?_
              refine s_ldR 79 (cs := (gF x.plan j).row) rfl rfl rfl (fun w hw => (hP _ hw.fr).rows.rowAt ftRow_len hg (by omega)) ?_
              refine s_alloc 12 rfl (fun _ _ => trivial) (fun b12 => ?_)
              refine s_stAll 0 rfl rfl (by kernel_rfl) rfl rfl rfl rfl (fun _ _ => trivial) ?_
              refine SX.next ?_
              refine CW.seq ?_
              refine CW.regD (.st true 0 (.st true 1 (.st true 2 (.st true 3 (.st true 4 (.st true 5 (.st true 6 (.st true 7 (.st true 8 (.st true 9 (.st true 10 (.st true 11 (.st true 12 (.st true 13 (.st true 14 (.st true 15 (.st true 16 (.st true 17 (.st true 18 (.st true 19 (.st true 20 (.st true 21 (.st true 22 .done))))))))))))))))))))))) (St F w [blk b12 48 #[.int .i64 (gF x.plan j).op, .int .i64 (gF x.plan j).kind, .int .i64 (gF x.plan j).level, .int .i64 (gF x.plan j).n, .slice (gF x.plan j).A (gF x.plan j).bits.length (gF x.plan j).c], own 5 1 zo.1 pg.l.length zo.2 (nats .u8 (flipsG (hitsT x j) level pg.l)), docA g x]) mixed (by kernel_rfl) (fun _ h => h.drew) (fun _ h => h) ?_
              refine s_fa 80 rfl rfl ?_
              refine s_ldS 81 rfl rfl (v := .int .i64 (gF x.plan j).op) (fun _ hw => hw.blkCell (i := 0) (j := 0) rfl rfl) ?_
              refine s_mv 82 rfl rfl ?_
              refine s_nil 83 rfl rfl ?_
              refine s_fa 84 rfl rfl ?_
              refine s_ldS 85 rfl rfl (v := .int .i64 x.ops) (fun _ hw => doc_cell (hw.has (i := 2) rfl) rfl) ?_
              refine s_eq 86 rfl rfl rfl rfl ?_
              refine s_mv 87 rfl rfl ?_
              refine SX.bool 87 rfl (fun hb => ?_) (fun hb => ?_)
              · skip
                have hop := of_decide_eq_true hb
                have hsn : flipsG (hitsT x (j + 1)) level pg.l = flip1 level (flipsG (hitsT x j) level pg.l) (gF x.plan j) := by rw [hitsT_yes hjl hop, flipsG_snoc]
                refine s_fa 88 rfl rfl ?_
                refine s_ldS 89 rfl rfl (v := .int .i64 (gF x.plan j).kind) (fun _ hw => hw.blkCell (i := 0) (j := 1) rfl rfl) ?_
                refine s_eq 90 rfl rfl rfl rfl ?_
                refine s_pickT 91 rfl rfl rfl ?_
                refine s_mv 92 rfl rfl ?_
                refine SX.bool 92 rfl (fun hb => ?_) (fun hb => ?_)
                · skip
                  have hk1 := of_decide_eq_true hb
                  refine s_fa 93 rfl rfl ?_
                  refine s_ldS 94 rfl rfl (v := .int .i64 (gF x.plan j).level) (fun _ hw => hw.blkCell (i := 0) (j := 2) rfl rfl) ?_
                  refine s_eq 95 rfl rfl rfl rfl ?_
                  refine s_mv 96 rfl rfl ?_
                  refine SX.bool 96 rfl (fun hb => ?_) (fun hb => ?_)
                  · skip
                    have hl1 := of_decide_eq_true hb
                    have hnx : flipsG (hitsT x (j + 1)) level pg.l = turnL (flipsG (hitsT x j) level pg.l) (gF x.plan j).bits := by
                      rw [hsn]
                      unfold flip1
                      rw [if_pos ⟨hk1, .inl hl1⟩]
                    refine SX.skip rfl ?_
                    refine SX.skip rfl ?_
                    refine SX.skip rfl ?_
                    refine SX.skip rfl ?_
                    refine s_pickT 101 rfl rfl rfl ?_
                    refine s_pickT 102 rfl rfl rfl ?_
                    refine SX.next ?_
                    refine CW.condT rfl ?_
                    refine CW.reg [0, 1, 2, 3] rfl ?_
                    refine s_mv 103 rfl rfl ?_
                    refine s_fa 104 rfl rfl ?_
                    refine s_ld 105 rfl rfl (v := .slice (gF x.plan j).A (gF x.plan j).bits.length (gF x.plan j).c) (fun _ hw => hw.blkCell (i := 0) (j := 4) rfl rfl) ?_
                    refine s_callP 106 [1, 0, 0] (M := [own 5 1 zo.1 pg.l.length zo.2 (nats .u8 (flipsG (hitsT x j) level pg.l))]) (R := [blk b12 48 #[.int .i64 (gF x.plan j).op, .int .i64 (gF x.plan j).kind, .int .i64 (gF x.plan j).level, .int .i64 (gF x.plan j).n, .slice (gF x.plan j).A (gF x.plan j).bits.length (gF x.plan j).c], docA g x]) (X := Unit) (v := fun _ => oneOf []) (pf := fun _ => True) (M' := fun _ => [own 5 1 zo.1 pg.l.length zo.2 (nats .u8 (turnL (flipsG (hitsT x j) level pg.l) (gF x.plan j).bits))]) rfl rfl rfl rfl rfl (fun F' w' hR hM => by have := dturn_spec F' zo.1 zo.2 (flipsG (hitsT x j) level pg.l) (gF x.plan j).A (gF x.plan j).c (gF x.plan j).bits w' hf82 (by rw [hfl]; omega) (fun w2 hf => (hP _ (hR w2 hf).fr).bits _ hgm) hfb (by rw [hfl]; exact hM); rw [hfl] at this; exact this) (fun _ _ _ => trivial) (fun _ _ => ?_)
                    refine SX.end_ ?_
                    refine KN.blk ?_
                    refine KN.code ?_
                    refine CW.reg [0, 1, 2] rfl ?_
                    refine s_mv 71 rfl rfl ?_
                    refine s_add 72 rfl rfl rfl (r := ((j + 1 : Nat) : Int)) (w64 (by omega)) ?_
                    refine s_as 11 rfl rfl ?_
                    refine SX.end_ ?_
                    exact KN.back (j + 1) ⟨rfl, rfl, rfl, rfl, trivial⟩ (fun _ h => by rw [hnx]; exact h.pick [0, 1] rfl) (by omega) (by omega)
                  · skip
                    have hl1 := of_decide_eq_false hb
                    refine s_fa 97 rfl rfl ?_
                    refine s_ldS 98 rfl rfl (v := .int .i64 (gF x.plan j).level) (fun _ hw => hw.blkCell (i := 0) (j := 2) rfl rfl) ?_
                    refine s_mv 99 rfl rfl ?_
                    refine s_eq 100 rfl rfl rfl rfl ?_
                    refine s_pickF 101 rfl rfl rfl ?_
                    refine s_pickT 102 rfl rfl rfl ?_
                    refine SX.next ?_
                    refine CW.test rfl (fun hl2 => ?_) (fun hl2 => ?_)
                    · skip
                      have hnx : flipsG (hitsT x (j + 1)) level pg.l = turnL (flipsG (hitsT x j) level pg.l) (gF x.plan j).bits := by
                        rw [hsn]
                        unfold flip1
                        rw [if_pos ⟨hk1, .inr hl2⟩]
                      refine CW.reg [0, 1, 2, 3] rfl ?_
                      refine s_mv 103 rfl rfl ?_
                      refine s_fa 104 rfl rfl ?_
                      refine s_ld 105 rfl rfl (v := .slice (gF x.plan j).A (gF x.plan j).bits.length (gF x.plan j).c) (fun _ hw => hw.blkCell (i := 0) (j := 4) rfl rfl) ?_
                      refine s_callP 106 [1, 0, 0] (M := [own 5 1 zo.1 pg.l.length zo.2 (nats .u8 (flipsG (hitsT x j) level pg.l))]) (R := [blk b12 48 #[.int .i64 (gF x.plan j).op, .int .i64 (gF x.plan j).kind, .int .i64 (gF x.plan j).level, .int .i64 (gF x.plan j).n, .slice (gF x.plan j).A (gF x.plan j).bits.length (gF x.plan j).c], docA g x]) (X := Unit) (v := fun _ => oneOf []) (pf := fun _ => True) (M' := fun _ => [own 5 1 zo.1 pg.l.length zo.2 (nats .u8 (turnL (flipsG (hitsT x j) level pg.l) (gF x.plan j).bits))]) rfl rfl rfl rfl rfl (fun F' w' hR hM => by have := dturn_spec F' zo.1 zo.2 (flipsG (hitsT x j) level pg.l) (gF x.plan j).A (gF x.plan j).c (gF x.plan j).bits w' hf82 (by rw [hfl]; omega) (fun w2 hf => (hP _ (hR w2 hf).fr).bits _ hgm) hfb (by rw [hfl]; exact hM); rw [hfl] at this; exact this) (fun _ _ _ => trivial) (fun _ _ => ?_)
                      refine SX.end_ ?_
                      refine KN.blk ?_
                      refine KN.code ?_
                      refine CW.reg [0, 1, 2] rfl ?_
                      refine s_mv 71 rfl rfl ?_
                      refine s_add 72 rfl rfl rfl (r := ((j + 1 : Nat) : Int)) (w64 (by omega)) ?_
                      refine s_as 11 rfl rfl ?_
                      refine SX.end_ ?_
                      exact KN.back (j + 1) ⟨rfl, rfl, rfl, rfl, trivial⟩ (fun _ h => by rw [hnx]; exact h.pick [0, 1] rfl) (by omega) (by omega)
                    · skip
                      have hnx : flipsG (hitsT x (j + 1)) level pg.l = flipsG (hitsT x j) level pg.l := by
                        rw [hsn]
                        unfold flip1
                        rw [if_neg (fun h => h.2.elim hl1 hl2)]
                      refine CW.skip ?_
                      refine KN.blk ?_
                      refine KN.code ?_
                      refine CW.reg [0, 1, 2] rfl ?_
                      refine s_mv 71 rfl rfl ?_
                      refine s_add 72 rfl rfl rfl (r := ((j + 1 : Nat) : Int)) (w64 (by omega)) ?_
                      refine s_as 11 rfl rfl ?_
                      refine SX.end_ ?_
                      exact KN.back (j + 1) ⟨rfl, rfl, rfl, rfl, trivial⟩ (fun _ h => by rw [hnx]; exact h.pick [1, 1] rfl) (by omega) (by omega)
                · skip
                  have hk1 := of_decide_eq_false hb
                  have hnx : flipsG (hitsT x (j + 1)) level pg.l = flipsG (hitsT x j) level pg.l := by
                    rw [hsn]
                    unfold flip1
                    rw [if_neg (fun h => hk1 h.1)]
                  refine SX.skip rfl ?_
                  refine SX.skip rfl ?_
                  refine SX.skip rfl ?_
                  refine SX.skip rfl ?_
                  refine SX.skipU rfl ?_
                  refine SX.skipU rfl ?_
                  refine SX.skipU rfl ?_
                  refine SX.skipU rfl ?_
                  refine SX.skip rfl ?_
                  refine s_pickF 102 rfl rfl rfl ?_
                  refine SX.next ?_
                  refine CW.condF rfl ?_
                  refine CW.skip ?_
                  refine KN.blk ?_
                  refine KN.code ?_
                  refine CW.reg [0, 1, 2] rfl ?_
                  refine s_mv 71 rfl rfl ?_
                  refine s_add 72 rfl rfl rfl (r := ((j + 1 : Nat) : Int)) (w64 (by omega)) ?_
                  refine s_as 11 rfl rfl ?_
                  refine SX.end_ ?_
                  exact KN.back (j + 1) ⟨rfl, rfl, rfl, rfl, trivial⟩ (fun _ h => by rw [hnx]; exact h.pick [1, 1] rfl) (by omega) (by omega)
              · skip
                have hop := of_decide_eq_false hb
                have hnx : flipsG (hitsT x (j + 1)) level pg.l = flipsG (hitsT x j) level pg.l := by rw [hitsT_no hjl hop]
                refine SX.skip rfl ?_
                refine SX.skip rfl ?_
                refine SX.skip rfl ?_
                refine s_pickF 91 rfl rfl rfl ?_
                refine s_mv 92 rfl rfl ?_
                refine SX.skip rfl ?_
                refine SX.skip rfl ?_
                refine SX.skip rfl ?_
                refine SX.skip rfl ?_
                refine SX.skipU rfl ?_
                refine SX.skipU rfl ?_
                refine SX.skipU rfl ?_
                refine SX.skipU rfl ?_
                refine SX.skip rfl ?_
                refine s_pickF 102 rfl rfl rfl ?_
                refine SX.next ?_
                refine CW.condF rfl ?_
                refine CW.skip ?_
                refine KN.blk ?_
                refine KN.code ?_
                refine CW.reg [0, 1, 2] rfl ?_
                refine s_mv 71 rfl rfl ?_
                refine s_add 72 rfl rfl rfl (r := ((j + 1 : Nat) : Int)) (w64 (by omega)) ?_
                refine s_as 11 rfl rfl ?_
                refine SX.end_ ?_
                exact KN.back (j + 1) ⟨rfl, rfl, rfl, rfl, trivial⟩ (fun _ h => by rw [hnx]; exact h.pick [1, 1] rfl) (by omega) (by omega)
            · skip
              obtain rfl : j = x.plan.length := by omega
              rw [hitsT_all]
              obtain ⟨hfl, hf8⟩ := flipsG_ok level x.hitsG pg.l
              have hfa : flipsG x.hitsG level pg.l = flips x.abs.hits level (x.abs.pg b p).cells := by rw [flipsG_abs, dhits_abs, hpa]; rfl
              refine CW.exit rfl ?_
              refine KN.code ?_
              refine CW.seq ?_
              refine CW.pre (fun _ h => (h.pick [1, 0] rfl).docO) ?_
              refine CW.reg [0, 1, 2, 3, 4, 5, 6, 7, 8] rfl ?_
              refine s_mv 107 rfl rfl ?_
              refine s_mv 108 rfl rfl ?_
              refine s_nil 109 rfl rfl ?_
              refine s_fa 110 rfl rfl ?_
              refine s_ldB 111 0 rfl rfl rfl (v := .int .i64 x.ops) rfl ?_
              refine s_add 112 rfl rfl rfl (r := wr (x.ops + 1)) rfl ?_
              refine s_nil 113 rfl rfl ?_
              refine s_fa 114 rfl rfl ?_
              refine s_stB 0 rfl rfl rfl rfl rfl (by show 8 < 11; decide) (fun _ _ => trivial) ?_
              refine SX.next ?_
              refine CW.seq ?_
              refine CW.reg [0, 1, 2] rfl ?_
              refine s_mv 115 rfl rfl ?_
              refine s_as 6 rfl rfl ?_
              refine s_as 7 rfl rfl ?_
              refine SX.next ?_
              refine CW.ret ?_
              exact KN.ret (rs := [.tmp 6, .tmp 7]) Tryd.results33 rfl (fun w hw => ⟨(zo, x.tick), by rw [rd_ok hz0 (by simpa using hct), ← hfa, hfl]; rfl, by rw [rd_ok hz0 (by simpa using hct)]; exact ⟨rfl, ⟨rfl, rfl, rfl⟩⟩, by
  have h1 := hw.docC (x := x.tick)
  rw [rd_ok hz0 (by simpa using hct), ← hfa, hfl]
  exact h1.pick [1, 0] rfl⟩)
end Go.Proofs.YtcapijdokbkgaaaDoor
end
section
/- The document's chip: a program. Conditions: it is lent; its plan and the bytes are read where they lie. -/
namespace Go.Proofs.YtcapijdokbkgaaaDoor
open Go Go.Sx Go.Fm
set_option maxRecDepth 100000
def DcG.hurt (x : DcG) (b p : Int) : DcG := { x with broken := if wrongAt (x.abs.bk b).pages p = true then wr (x.broken + 1) else x.broken }
theorem dlayN_cut {x : DcG} {f : FtG} (h : findG x.hitsG 3 = some f) (n : Int) : layN x.abs.hits n = (f.n, 109) := by
  unfold layN
  rw [← dhits_abs, ← findG_abs, h]
  rfl
theorem dlayN_fail {x : DcG} {f : FtG} (h3 : findG x.hitsG 3 = none) (h : findG x.hitsG 2 = some f) (n : Int) : layN x.abs.hits n = (f.n, 111) := by
  unfold layN
  rw [← dhits_abs, ← findG_abs, ← findG_abs, h3, h]
  rfl
theorem dlayN_all {x : DcG} (h3 : findG x.hitsG 3 = none) (h : findG x.hitsG 2 = none) (n : Int) : layN x.abs.hits n = (n, 0) := by
  unfold layN
  rw [← dhits_abs, ← findG_abs, ← findG_abs, h3, h]
  rfl
def wrongT (pages : List PgS) (p : Int) (j : Nat) : Bool := ((pages.take j).zipIdx).any (fun x => badAt p x.2 x.1)
theorem wrongT_all (pages : List PgS) (p : Int) : wrongT pages p pages.length = wrongAt pages p := by
  unfold wrongT
  rw [List.take_length]
  rfl
theorem wrongT_step {pages : List PgS} (p : Int) {j : Nat} {q : PgS} (h : pages[j]? = some q) : wrongT pages p (j + 1) = (wrongT pages p j || badAt p j q) := by
  unfold wrongT
  have hj := (List.getElem?_eq_some_iff.1 h).1
  rw [List.take_add_one, h, Option.toList_some, List.zipIdx_append, List.any_append, List.length_take, Nat.zero_add, Nat.min_eq_left (by omega)]
  simp
theorem bad_eq {p : Int} {j : Nat} {q : PgS} (h : ¬ (j : Int) < p) : badAt p j q = q.used := by
  unfold badAt
  rw [decide_eq_false h, decide_eq_true (show p ≤ (j : Int) by omega)]
  simp
theorem dsetPg_eq {s : ChS} {x : DcG} (hs : s.blocks = x.abs.blocks) {b p : Int} {i k : Nat} {bk : DbG} (hb : b = (i : Nat)) (hp : p = (k : Nat)) (hbk : x.blocks[i]? = some bk) {q : PgS} {q' : DpG} (hq : q'.abs = q) :
    s.setPg b p q = { s with blocks := (x.blocks.set i { bk with pages := bk.pages.set k q' }).map DbG.abs } := by
  have e2 : s.bk b = bk.abs := by
    unfold ChS.bk
    rw [hs, hb, Int.toNat_natCast, List.getD_eq_getElem?_getD, dabs_bk hbk, Option.getD_some]
  have e3 : ({ bk with pages := bk.pages.set k q' } : DbG).abs = { bk.abs with pages := bk.abs.pages.set k q } := by
    unfold DbG.abs
    simp only [List.map_set, hq]
  unfold ChS.setPg
  rw [e2, hs, hb, hp, Int.toNat_natCast, Int.toNat_natCast, List.map_set, e3]
  rfl
/-- A program that is carried out. -/
theorem dpr_ok {x : DcG} {b p : Int} {l : List Nat} (h : x.abs.prE b p l.length = 0) {i k : Nat} {bk : DbG} {pg : DpG} (hb : b = (i : Nat)) (hp : p = (k : Nat)) (hbk : x.blocks[i]? = some bk) (h1 : x.abs.bk b = bk.abs) (h2 : x.abs.pg b p = pg.abs) (A : Option Addr) (c : Nat) (B : Option Addr) (d : Nat) {r : Int × Int} (hr : layN x.abs.hits x.size = r) :
    (x.abs.pr b p l).1 = r.2 ∧ ({ (x.hurt b p).tick with off := (findG x.hitsG 3).isSome, blocks := x.blocks.set i { bk with pages := bk.pages.set k ⟨A, c, andTo (clampN r.1 x.size) pg.l (spoilsG x.hitsG l), true, B, d, l⟩ } } : DcG).abs = (x.abs.pr b p l).2 := by
  unfold ChS.pr
  rw [if_neg (fun hn => hn h)]
  have hr2 : layN x.abs.hits x.abs.size = r := hr
  simp only [hr2]
  refine ⟨trivial, ?_⟩
  rw [h2, h1, ← dhits_abs, ← spoilsG_abs]
  have e3 : (findG x.hitsG 3).isSome = (findK (x.hitsG.map FtG.abs) 3).isSome := by rw [← findG_abs, Option.isSome_map]
  rw [e3]
  refine Eq.trans ?_ (Eq.symm (dsetPg_eq (x := x) ?_ hb hp hbk (q' := ⟨A, c, andTo (clampN r.1 x.size) pg.l (spoilsG x.hitsG l), true, B, d, l⟩) ?_))
  · unfold DcG.hurt DcG.tick ChS.tick
    rw [h1]
    rfl
  · rfl
  · rfl
theorem map_keep {α β : Type} {f : α → β} {l : List α} {i : Nat} {a b : α} (h : l[i]? = some a) (he : f b = f a) : (l.set i b).map f = l.map f := by
  rw [List.map_set, he]
  exact List.set_eq_self (by rw [List.getElem?_map, h]; rfl)

set_option maxHeartbeats 3200000 in

theorem dprogram_spec (F : Nat → Prop) (g : Nat) (x : DcG) (hx : x.abs.Ok) (b p : Int) (A : Option Addr) (c : Nat) (l : List Nat) (w : World) (hP : ∀ w', Fr F w w' → PlIn x.pA x.plan w') (hB : ∀ w', Fr F w w' → Has (sl 1 A l.length (nats .u8 l)) w') (h8 : ∀ t ∈ l, t < 256) (hl : l.length ≤ 4096) (hw : St F w [docA g x] w) : SpecP Tryd.prog 34 [.pointer (some ⟨g, 0, none⟩), .agg #[.int .i64 b, .int .i64 p], .slice A l.length c] F w (X := DcG) (fun _ => .int .i64 (x.abs.pr b p l).1) (fun z => z.abs = (x.abs.pr b p l).2 ∧ x.Same z) (fun z => [docA g z]) := by
  refine spec_ofC Tryd.func34 rfl Tryd.ntmps34 rfl hw ?_
  refine CW.seq ?_
  refine CW.reg [0, 1] rfl ?_
  refine s_box 4 rfl rfl (fun _ _ => trivial) (fun b4 => ?_)
  refine s_as 6 rfl rfl ?_
  refine SX.next ?_
  refine CW.seq ?_
  refine CW.seq ?_
  refine CW.reg [0, 1, 2, 3] rfl ?_
  refine s_mv 20 rfl rfl ?_
  refine s_nil 21 rfl rfl ?_
  refine s_fa 22 rfl rfl ?_
  refine s_ld 23 rfl rfl (v := .bool x.off) (fun _ hw => doc_cell (hw.has (i := 1) rfl) rfl) ?_
  refine SX.next ?_
  refine CW.cond rfl (fun hof => ?_) (fun hof => ?_)
  · skip
    have hE : x.abs.prE b p l.length = 109 := by
      unfold ChS.prE askC
      rw [show x.abs.off = true from hof]
      rfl
    refine CW.seq ?_
    refine CW.reg [0] rfl ?_
    refine s_as 6 rfl rfl ?_
    refine SX.next ?_
    refine CW.ret ?_
    exact KN.ret (rs := [.tmp 6]) Tryd.results34 rfl (fun w hw => ⟨x, by rw [pr_err (by rw [hE]; decide), hE]; rfl, by rw [pr_err (by rw [hE]; decide)]; exact ⟨rfl, .refl x⟩, hw.pick [1] rfl⟩)
  · skip
    replace hof : x.off = false := by simpa using hof
    refine CW.skip ?_
    refine KN.code ?_
    refine CW.seq ?_
    refine CW.seq ?_
    refine CW.reg [0, 1, 2, 3] rfl ?_
    refine s_mv 24 rfl rfl ?_
    refine s_ldW 25 0 rfl rfl rfl ?_
    refine s_call1 26 rfl rfl rfl rfl (fun w hw => dhas_spec g x b p w (hw.has (i := 1) rfl)) (fun _ _ => trivial) ?_
    refine s_not 27 rfl rfl ?_
    refine SX.next ?_
    refine CW.cond rfl (fun hin => ?_) (fun hin => ?_)
    · skip
      replace hin : x.abs.inn b p = false := by simpa using hin
      have hE : x.abs.prE b p l.length = 110 := by
        unfold ChS.prE askC
        rw [show x.abs.off = false from hof, hin]
        rfl
      refine CW.seq ?_
      refine CW.reg [0] rfl ?_
      refine s_as 6 rfl rfl ?_
      refine SX.next ?_
      refine CW.ret ?_
      exact KN.ret (rs := [.tmp 6]) Tryd.results34 rfl (fun w hw => ⟨x, by rw [pr_err (by rw [hE]; decide), hE]; rfl, by rw [pr_err (by rw [hE]; decide)]; exact ⟨rfl, .refl x⟩, hw.pick [1] rfl⟩)
    · skip
      replace hin : x.abs.inn b p = true := by simpa using hin
      refine CW.skip ?_
      refine KN.code ?_
      refine CW.seq ?_
      refine CW.seq ?_
      refine CW.reg [0, 1, 2, 3, 4, 5, 6] rfl ?_
      refine s_mv 28 rfl rfl ?_
      refine s_len 29 rfl rfl ?_
      refine s_mv 30 rfl rfl ?_
      refine s_nil 31 rfl rfl ?_
      refine s_fa 32 rfl rfl ?_
      refine s_ld 33 rfl rfl (v := .int .i64 x.size) (fun _ hw => doc_cell (hw.has (i := 1) rfl) rfl) ?_
      refine s_ne 34 rfl rfl rfl rfl ?_
      refine SX.next ?_
      refine CW.test rfl (fun hsz => ?_) (fun hsz => ?_)
      · skip
        have hE : x.abs.prE b p l.length = 116 := by
          unfold ChS.prE askC
          rw [show x.abs.off = false from hof, hin, decide_eq_false (show ¬ ((l.length : Nat) : Int) = x.abs.size from hsz)]
          rfl
        refine CW.seq ?_
        refine CW.reg [0] rfl ?_
        refine s_as 6 rfl rfl ?_
        refine SX.next ?_
        refine CW.ret ?_
        exact KN.ret (rs := [.tmp 6]) Tryd.results34 rfl (fun w hw => ⟨x, by rw [pr_err (by rw [hE]; decide), hE]; rfl, by rw [pr_err (by rw [hE]; decide)]; exact ⟨rfl, .refl x⟩, hw.pick [1] rfl⟩)
      · skip
        have hln : ((l.length : Nat) : Int) = x.size := Decidable.of_not_not hsz
        have hz0 : x.abs.prE b p l.length = 0 := by
          unfold ChS.prE askC
          rw [show x.abs.off = false from hof, hin, decide_eq_true (show ((l.length : Nat) : Int) = x.abs.size from hln)]
          rfl
        obtain ⟨i, k, bk, pg, hbi, hpk, hbk, hpg, hba, hpa⟩ := dinn_at hx hin
        have hil := (List.getElem?_eq_some_iff.1 hbk).1
        have hkl := (List.getElem?_eq_some_iff.1 hpg).1
        have hbm := List.mem_of_getElem? hbk
        have hpm := List.mem_of_getElem? hpg
        obtain ⟨ho1, ho2, ho3, ho4⟩ := dpg_ok hx hbk hpg
        have hz1 : x.size ≤ 4096 := hx.z1
        have hz0s : 1 ≤ x.size := hx.z0
        have hpl9 := dplan_len hx
        have hbpl := dbk_pgs hx hbk
        have hp1 : x.pages ≤ 64 := hx.p1
        refine CW.skip ?_
        refine KN.code ?_
        refine CW.seq ?_
        refine CW.reg [0, 1, 2] rfl ?_
        refine s_mv 35 rfl rfl ?_
        refine s_call 36 rfl rfl rfl rfl (fun w2 hw => rbytes_spec A l.length c l w2 (hB _ hw.fr) (by omega)) (fun _ _ => trivial) (fun zo hzo => ?_)
        refine s_as 7 rfl rfl ?_
        refine SX.next ?_
        refine CW.seq ?_
        refine CW.seq ?_
        refine CW.reg [0] rfl ?_
        refine s_as 8 rfl rfl ?_
        refine SX.next ?_
        refine CW.block ?_
        refine CW.loop (G := Nat) (fun j => [(0, .pointer (some ⟨g, 0, none⟩)), (2, .slice A l.length c), (4, .pointer (some ⟨b4, 0, none⟩)), (7, .slice zo.1 l.length zo.2), (8, .int .i64 (j : Nat))]) (fun j => St F w [own 5 1 zo.1 l.length zo.2 (nats .u8 (spoilsG (hitsT x j) l)), blk b4 31 #[.int .i64 b, .int .i64 p], docA g x]) (fun j => j ≤ x.plan.length) (fun j => x.plan.length - j) 0 ⟨rfl, rfl, rfl, rfl, rfl, trivial⟩ (fun _ h => h) (Nat.zero_le _) ?_
        intro j hj
        refine CW.seq ?_
        refine CW.seq ?_
        refine CW.reg [0, 1, 2, 3, 4, 5, 6] rfl ?_
        refine s_mv 37 rfl rfl ?_
        refine s_mv 38 rfl rfl ?_
        refine s_nil 39 rfl rfl ?_
        refine s_fa 40 rfl rfl ?_
        refine s_ld 41 rfl rfl (v := .slice x.pA x.plan.length x.pc) (fun _ hw => doc_cell (hw.has (i := 2) rfl) rfl) ?_
        refine s_len 42 rfl rfl ?_
        refine s_lt 43 rfl rfl rfl rfl ?_
        refine SX.next ?_
        refine CW.test rfl (fun hc => ?_) (fun hc => ?_)
        · skip
          have hjl : j < x.plan.length := by omega
          have hg := gF_at hjl
          have hgm := gF_mem hjl
          obtain ⟨hfl, hf8⟩ := spoilsG_ok (hitsT x j) l
          have hf82 := hf8 h8
          have hfb := dft_bits hx hgm
          refine CW.skip ?_
          refine KN.code ?_
          refine CW.seq ?_
          refine CW.block ?_
          refine CW.seq ?_
          refine CW.regD (.st true 0 (.st true 1 (.st true 2 (.st true 3 (.st true 4 (.st true 5 (.st true 6 (.st true 7 (.st true 8 (.st true 9 (.st true 10 (.st true 11 (.st true 12 (.st true 13 (.st true 14 (.st true 15 (.st true 16 (.st true 17 (.st true 18 (.st true 19 (.st true 20 (.st true 21 (.st true 22 (.st true 23 .done)))))))))))))))))))))))) (St F w [own 5 1 zo.1 l.length zo.2 (nats .u8 (spoilsG (hitsT x j) l)), blk b4 31 #[.int .i64 b, .int .i64 p], docA g x]) mixed (by kernel_rfl) (fun _ h => h.drew) (fun _ h => h) ?_
          refine s_mv 46 rfl rfl ?_
          refine s_nil 47 rfl rfl ?_
          refine s_fa 48 rfl rfl ?_
          refine s_ldS 49 rfl rfl (v := .slice x.pA x.plan.length x.pc) (fun _ hw => doc_cell (hw.has (i := 2) rfl) rfl) ?_
          refine s_mv 50 rfl rfl ?_
          refine s_iaV 51 j (fun w hw => (hP _ hw.fr).rows) rfl rfl rfl rfl hjl ?_
          refine s_fa 52 rfl rfl ?_
          refine s_ldS 53 rfl rfl (v := .int .i64 (gF x.plan j).op) (fun _ hw => (hP _ hw.fr).rows.rowAt ftRow_len hg (by omega) 0 _ rfl) ?_
          refine s_mv 54 rfl rfl ?_
          refine s_nil 55 rfl rfl ?_
          refine s_fa 56 rfl rfl ?_
          refine s_ldS 57 rfl rfl (v := .int .i64 x.ops) (fun _ hw => doc_cell (hw.has (i := 2) rfl) rfl) ?_
          refine s_eq 58 rfl rfl rfl rfl ?_
          refine s_mv 59 rfl rfl ?_
          refine SX.bool 59 rfl (fun hb => ?_) (fun hb => ?_)
          · skip
            have hop := of_decide_eq_true hb
            have hsn : spoilsG (hitsT x (j + 1)) l = spoil1 (spoilsG (hitsT x j) l) (gF x.plan j) := by rw [hitsT_yes hjl hop, spoilsG_snoc]
            refine s_mv 60 rfl rfl ?_
            refine s_nil 61 rfl rfl ?_
            refine s_fa 62 rfl rfl ?_
            refine s_ldS 63 rfl rfl (v := .slice x.pA x.plan.length x.pc) (fun _ hw => doc_cell (hw.has (i := 2) rfl) rfl) ?_
            refine s_mv 64 rfl rfl ?_
            refine s_iaV 65 j (fun w hw => (hP _ hw.fr).rows) rfl rfl rfl rfl hjl ?_
            refine s_fa 66 rfl rfl ?_
            refine s_ldS 67 rfl rfl (v := .int .i64 (gF x.plan j).kind) (fun _ hw => (hP _ hw.fr).rows.rowAt ftRow_len hg (by omega) 1 _ rfl) ?_
            refine s_eq 68 rfl rfl rfl rfl ?_
            refine s_pickT 69 rfl rfl rfl ?_
            refine SX.next ?_
            refine CW.test rfl (fun hk4 => ?_) (fun hk4 => ?_)
            · skip
              have hnx : spoilsG (hitsT x (j + 1)) l = turnL (spoilsG (hitsT x j) l) (gF x.plan j).bits := by
                rw [hsn]
                unfold spoil1
                rw [if_pos hk4]
              refine CW.reg [0, 1, 2, 3, 4, 5, 6, 7, 8, 9] rfl ?_
              refine s_mv 70 rfl rfl ?_
              refine s_mv 71 rfl rfl ?_
              refine s_nil 72 rfl rfl ?_
              refine s_fa 73 rfl rfl ?_
              refine s_ld 74 rfl rfl (v := .slice x.pA x.plan.length x.pc) (fun _ hw => doc_cell (hw.has (i := 2) rfl) rfl) ?_
              refine s_mv 75 rfl rfl ?_
              refine s_iaV 76 j (fun w hw => (hP _ hw.fr).rows) rfl rfl rfl rfl hjl ?_
              refine s_fa 77 rfl rfl ?_
              refine s_ld 78 rfl rfl (v := .slice (gF x.plan j).A (gF x.plan j).bits.length (gF x.plan j).c) (fun _ hw => (hP _ hw.fr).rows.rowAt ftRow_len hg (by omega) 4 _ rfl) ?_
              refine s_callP 79 [0, 0, 0] (M := [own 5 1 zo.1 l.length zo.2 (nats .u8 (spoilsG (hitsT x j) l))]) (R := [blk b4 31 #[.int .i64 b, .int .i64 p], docA g x]) (X := Unit) (v := fun _ => oneOf []) (pf := fun _ => True) (M' := fun _ => [own 5 1 zo.1 l.length zo.2 (nats .u8 (turnL (spoilsG (hitsT x j) l) (gF x.plan j).bits))]) rfl rfl rfl rfl rfl (fun F' w' hR hM => by have := dturn_spec F' zo.1 zo.2 (spoilsG (hitsT x j) l) (gF x.plan j).A (gF x.plan j).c (gF x.plan j).bits w' hf82 (by rw [hfl]; omega) (fun w2 hf => (hP _ (hR w2 hf).fr).bits _ hgm) hfb (by rw [hfl]; exact hM); rw [hfl] at this; exact this) (fun _ _ _ => trivial) (fun _ _ => ?_)
              refine SX.end_ ?_
              refine KN.blk ?_
              refine KN.code ?_
              refine CW.reg [0, 1, 2] rfl ?_
              refine s_mv 44 rfl rfl ?_
              refine s_add 45 rfl rfl rfl (r := ((j + 1 : Nat) : Int)) (w64 (by omega)) ?_
              refine s_as 8 rfl rfl ?_
              refine SX.end_ ?_
              exact KN.back (j + 1) ⟨rfl, rfl, rfl, rfl, rfl, trivial⟩ (fun _ h => by rw [hnx]; exact h.pick [0, 0, 0] rfl) (by omega) (by omega)
            · skip
              have hnx : spoilsG (hitsT x (j + 1)) l = spoilsG (hitsT x j) l := by
                rw [hsn]
                unfold spoil1
                rw [if_neg hk4]
              refine CW.skip ?_
              refine KN.blk ?_
              refine KN.code ?_
              refine CW.reg [0, 1, 2] rfl ?_
              refine s_mv 44 rfl rfl ?_
              refine s_add 45 rfl rfl rfl (r := ((j + 1 : Nat) : Int)) (w64 (by omega)) ?_
              refine s_as 8 rfl rfl ?_
              refine SX.end_ ?_
              exact KN.back (j + 1) ⟨rfl, rfl, rfl, rfl, rfl, trivial⟩ (fun _ h => by rw [hnx]; exact h.pick [0, 0, 0] rfl) (by omega) (by omega)
          · skip
            have hop := of_decide_eq_false hb
            have hnx : spoilsG (hitsT x (j + 1)) l = spoilsG (hitsT x j) l := by rw [hitsT_no hjl hop]
            refine SX.skip rfl ?_
            refine SX.skip rfl ?_
            refine SX.skip rfl ?_
            refine SX.skip rfl ?_
            refine SX.skip rfl ?_
            refine SX.skip rfl ?_
            refine SX.skip rfl ?_
            refine SX.skip rfl ?_
            refine SX.skip rfl ?_
            refine s_pickF 69 rfl rfl rfl ?_
            refine SX.next ?_
            refine CW.condF rfl ?_
            refine CW.skip ?_
            refine KN.blk ?_
            refine KN.code ?_
            refine CW.reg [0, 1, 2] rfl ?_
            refine s_mv 44 rfl rfl ?_
            refine s_add 45 rfl rfl rfl (r := ((j + 1 : Nat) : Int)) (w64 (by omega)) ?_
            refine s_as 8 rfl rfl ?_
            refine SX.end_ ?_
            exact KN.back (j + 1) ⟨rfl, rfl, rfl, rfl, rfl, trivial⟩ (fun _ h => by rw [hnx]; exact h.pick [0, 0, 0] rfl) (by omega) (by omega)
        · skip
          obtain rfl : j = x.plan.length := by omega
          rw [hitsT_all]
          obtain ⟨hfl, hf8⟩ := spoilsG_ok x.hitsG l
          have hf82 := hf8 h8
          refine CW.exit rfl ?_
          refine KN.code ?_
          refine CW.seq ?_
          refine CW.regD (.st true 0 (.st true 1 (.st true 2 (.st true 3 (.st true 4 (.st true 5 (.st true 6 (.st true 7 (.st true 8 .done))))))))) (St F w [own 5 1 zo.1 l.length zo.2 (nats .u8 (spoilsG x.hitsG l)), blk b4 31 #[.int .i64 b, .int .i64 p], docA g x]) mixed (by kernel_rfl) (fun _ h => h.drew) (fun _ h => h) ?_
          refine s_mv 80 rfl rfl ?_
          refine s_nil 81 rfl rfl ?_
          refine s_fa 82 rfl rfl ?_
          refine s_ldS 83 rfl rfl (v := .slice x.A x.blocks.length x.c) (fun _ hw => doc_cell (hw.has (i := 2) rfl) rfl) ?_
          refine s_fa 84 rfl rfl ?_
          refine s_ldS 85 rfl rfl (v := .int .i64 b) (fun _ hw => hw.blkCell (i := 1) (j := 0) rfl rfl) ?_
          refine s_iaV 86 i (fun w hw => doc_hds (hw.has (i := 2) rfl)) rfl rfl rfl hbi hil ?_
          refine s_ldVS 87 (fun w hw => doc_hds (hw.has (i := 2) rfl)) rfl rfl (hdr_at1 hbk) (by omega) ?_
          refine s_as 9 rfl rfl ?_
          refine SX.next ?_
          refine CW.seq ?_
          refine CW.reg [0] rfl ?_
          refine s_as 10 rfl rfl ?_
          refine SX.next ?_
          refine CW.seq ?_
          refine CW.seq ?_
          refine CW.reg [0] rfl ?_
          refine s_as 11 rfl rfl ?_
          refine SX.next ?_
          refine CW.block ?_
          refine CW.loop (G := Nat) (fun j => [(0, .pointer (some ⟨g, 0, none⟩)), (2, .slice A l.length c), (4, .pointer (some ⟨b4, 0, none⟩)), (7, .slice zo.1 l.length zo.2), (9, .slice bk.A bk.pages.length bk.c), (10, .bool (wrongT bk.abs.pages p j)), (11, .int .i64 (j : Nat))]) (fun _ => St F w [own 5 1 zo.1 l.length zo.2 (nats .u8 (spoilsG x.hitsG l)), blk b4 31 #[.int .i64 b, .int .i64 p], docA g x]) (fun j => j ≤ bk.pages.length) (fun j => bk.pages.length - j) 0 ⟨rfl, rfl, rfl, rfl, rfl, rfl, rfl, trivial⟩ (fun _ h => h) (Nat.zero_le _) ?_
          intro j hj
          refine CW.seq ?_
          refine CW.seq ?_
          refine CW.reg [0, 1, 2, 3, 4, 5] rfl ?_
          refine s_mv 88 rfl rfl ?_
          refine s_mv 89 rfl rfl ?_
          refine s_nil 90 rfl rfl ?_
          refine s_fa 91 rfl rfl ?_
          refine s_ld 92 rfl rfl (v := .int .i64 x.pages) (fun _ hw => doc_cell (hw.has (i := 2) rfl) rfl) ?_
          refine s_lt 93 rfl rfl rfl rfl ?_
          refine SX.next ?_
          refine CW.test rfl (fun hc => ?_) (fun hc => ?_)
          · skip
            have hjl : j < bk.pages.length := by omega
            obtain ⟨pj, hpj⟩ : ∃ pj, bk.pages[j]? = some pj := ⟨_, List.getElem?_eq_getElem hjl⟩
            have hpj2 : bk.abs.pages[j]? = some pj.abs := by unfold DbG.abs; rw [List.getElem?_map, hpj]; rfl
            have hst := wrongT_step p hpj2
            refine CW.skip ?_
            refine KN.code ?_
            refine CW.seq ?_
            refine CW.block ?_
            by_cases hjp : ((j : Nat) : Int) < p
            · skip
              refine CW.reg [0, 1, 2, 3, 4, 5, 6, 7, 8, 9, 10, 11, 12, 13, 14, 15, 16, 17, 18, 19, 20, 21, 22, 23, 24, 25, 26, 27, 28] rfl ?_
              refine s_mv 96 rfl rfl ?_
              refine s_mv 97 rfl rfl ?_
              refine SX.bool 97 rfl (fun hb => ?_) (fun hb => ?_)
              · skip
                have hwj := hb
                refine SX.skip rfl ?_
                refine SX.skip rfl ?_
                refine SX.skip rfl ?_
                refine SX.skip rfl ?_
                refine SX.skip rfl ?_
                refine SX.skipU rfl ?_
                refine SX.skipU rfl ?_
                refine SX.skipU rfl ?_
                refine SX.skipU rfl ?_
                refine SX.skipU rfl ?_
                refine SX.skipU rfl ?_
                refine SX.skip rfl ?_
                refine s_pickT 110 rfl rfl rfl ?_
                refine s_mv 111 rfl rfl ?_
                refine SX.skip rfl ?_
                refine SX.skip rfl ?_
                refine SX.skip rfl ?_
                refine SX.skip rfl ?_
                refine SX.skip rfl ?_
                refine SX.skipU rfl ?_
                refine SX.skipU rfl ?_
                refine SX.skipU rfl ?_
                refine SX.skipU rfl ?_
                refine SX.skipU rfl ?_
                refine SX.skip rfl ?_
                refine s_pickT 123 rfl rfl rfl ?_
                refine s_as 10 rfl rfl ?_
                refine SX.end_ ?_
                refine KN.blk ?_
                refine KN.code ?_
                refine CW.reg [0, 1, 2] rfl ?_
                refine s_mv 94 rfl rfl ?_
                refine s_add 95 rfl rfl rfl (r := ((j + 1 : Nat) : Int)) (w64 (by omega)) ?_
                refine s_as 11 rfl rfl ?_
                refine SX.end_ ?_
                exact KN.back (j + 1) ⟨rfl, rfl, rfl, rfl, rfl, by rw [hst]; rw [hwj]; rfl, rfl, trivial⟩ (fun _ h => h) (by omega) (by omega)
              · skip
                have hwj := hb
                refine s_mv 98 rfl rfl ?_
                refine s_fa 99 rfl rfl ?_
                refine s_ld 100 rfl rfl (v := .int .i64 p) (fun _ hw => hw.blkCell (i := 1) (j := 1) rfl rfl) ?_
                refine s_lt 101 rfl rfl rfl (decide_eq_true (by omega)) ?_
                refine s_mv 102 rfl rfl ?_
                refine s_mv 103 rfl rfl ?_
                refine s_mv 104 rfl rfl ?_
                refine s_iaV 105 j (fun w hw => db_rows (doc_bk (hw.has (i := 2) rfl) hbm)) rfl rfl rfl rfl hjl ?_
                refine s_fa 106 rfl rfl ?_
                refine s_ld 107 rfl rfl (v := .bool pj.used) (fun _ hw => dpage_cell (hw.has (i := 2) rfl) hbk hpj (j := 1) rfl) ?_
                refine s_not 108 rfl rfl ?_
                refine s_pickT 109 rfl rfl rfl ?_
                refine s_pickF 110 rfl rfl rfl ?_
                refine s_mv 111 rfl rfl ?_
                refine SX.bool 111 rfl (fun hb => ?_) (fun hb => ?_)
                · skip
                  have hbd := bad_lt (q := pj.abs) hjp (show pj.used = false by simpa using hb)
                  refine SX.skip rfl ?_
                  refine SX.skip rfl ?_
                  refine SX.skip rfl ?_
                  refine SX.skip rfl ?_
                  refine SX.skip rfl ?_
                  refine SX.skipU rfl ?_
                  refine SX.skipU rfl ?_
                  refine SX.skipU rfl ?_
                  refine SX.skipU rfl ?_
                  refine SX.skipU rfl ?_
                  refine SX.skip rfl ?_
                  refine s_pickT 123 rfl rfl rfl ?_
                  refine s_as 10 rfl rfl ?_
                  refine SX.end_ ?_
                  refine KN.blk ?_
                  refine KN.code ?_
                  refine CW.reg [0, 1, 2] rfl ?_
                  refine s_mv 94 rfl rfl ?_
                  refine s_add 95 rfl rfl rfl (r := ((j + 1 : Nat) : Int)) (w64 (by omega)) ?_
                  refine s_as 11 rfl rfl ?_
                  refine SX.end_ ?_
                  exact KN.back (j + 1) ⟨rfl, rfl, rfl, rfl, rfl, by rw [hst]; rw [hwj, hbd]; rfl, rfl, trivial⟩ (fun _ h => h) (by omega) (by omega)
                · skip
                  have hnb := nobad_lt (q := pj.abs) hjp (show pj.used = true by simpa using hb)
                  refine s_mv 112 rfl rfl ?_
                  refine s_fa 113 rfl rfl ?_
                  refine s_ld 114 rfl rfl (v := .int .i64 p) (fun _ hw => hw.blkCell (i := 1) (j := 1) rfl rfl) ?_
                  refine s_ge 115 rfl rfl rfl (decide_eq_false (by omega)) ?_
                  refine s_mv 116 rfl rfl ?_
                  refine SX.skip rfl ?_
                  refine SX.skip rfl ?_
                  refine SX.skip rfl ?_
                  refine SX.skip rfl ?_
                  refine SX.skip rfl ?_
                  refine s_pickF 122 rfl rfl rfl ?_
                  refine s_pickF 123 rfl rfl rfl ?_
                  refine s_as 10 rfl rfl ?_
                  refine SX.end_ ?_
                  refine KN.blk ?_
                  refine KN.code ?_
                  refine CW.reg [0, 1, 2] rfl ?_
                  refine s_mv 94 rfl rfl ?_
                  refine s_add 95 rfl rfl rfl (r := ((j + 1 : Nat) : Int)) (w64 (by omega)) ?_
                  refine s_as 11 rfl rfl ?_
                  refine SX.end_ ?_
                  exact KN.back (j + 1) ⟨rfl, rfl, rfl, rfl, rfl, by rw [hst]; rw [hwj, hnb]; rfl, rfl, trivial⟩ (fun _ h => h) (by omega) (by omega)
            · skip
              refine CW.reg [0, 1, 2, 3, 4, 5, 6, 7, 8, 9, 10, 11, 12, 13, 14, 15, 16, 17, 18, 19, 20, 21, 22, 23, 24, 25, 26, 27, 28] rfl ?_
              refine s_mv 96 rfl rfl ?_
              refine s_mv 97 rfl rfl ?_
              refine SX.bool 97 rfl (fun hb => ?_) (fun hb => ?_)
              · skip
                have hwj := hb
                refine SX.skip rfl ?_
                refine SX.skip rfl ?_
                refine SX.skip rfl ?_
                refine SX.skip rfl ?_
                refine SX.skip rfl ?_
                refine SX.skipU rfl ?_
                refine SX.skipU rfl ?_
                refine SX.skipU rfl ?_
                refine SX.skipU rfl ?_
                refine SX.skipU rfl ?_
                refine SX.skipU rfl ?_
                refine SX.skip rfl ?_
                refine s_pickT 110 rfl rfl rfl ?_
                refine s_mv 111 rfl rfl ?_
                refine SX.skip rfl ?_
                refine SX.skip rfl ?_
                refine SX.skip rfl ?_
                refine SX.skip rfl ?_
                refine SX.skip rfl ?_
                refine SX.skipU rfl ?_
                refine SX.skipU rfl ?_
                refine SX.skipU rfl ?_
                refine SX.skipU rfl ?_
                refine SX.skipU rfl ?_
                refine SX.skip rfl ?_
                refine s_pickT 123 rfl rfl rfl ?_
                refine s_as 10 rfl rfl ?_
                refine SX.end_ ?_
                refine KN.blk ?_
                refine KN.code ?_
                refine CW.reg [0, 1, 2] rfl ?_
                refine s_mv 94 rfl rfl ?_
                refine s_add 95 rfl rfl rfl (r := ((j + 1 : Nat) : Int)) (w64 (by omega)) ?_
                refine s_as 11 rfl rfl ?_
                refine SX.end_ ?_
                exact KN.back (j + 1) ⟨rfl, rfl, rfl, rfl, rfl, by rw [hst]; rw [hwj]; rfl, rfl, trivial⟩ (fun _ h => h) (by omega) (by omega)
              · skip
                have hwj := hb
                refine s_mv 98 rfl rfl ?_
                refine s_fa 99 rfl rfl ?_
                refine s_ld 100 rfl rfl (v := .int .i64 p) (fun _ hw => hw.blkCell (i := 1) (j := 1) rfl rfl) ?_
                refine s_lt 101 rfl rfl rfl (decide_eq_false (by omega)) ?_
                refine s_mv 102 rfl rfl ?_
                refine SX.skip rfl ?_
                refine SX.skip rfl ?_
                refine SX.skip rfl ?_
                refine SX.skip rfl ?_
                refine SX.skip rfl ?_
                refine SX.skip rfl ?_
                refine s_pickF 109 rfl rfl rfl ?_
                refine s_pickF 110 rfl rfl rfl ?_
                refine s_mv 111 rfl rfl ?_
                refine s_mv 112 rfl rfl ?_
                refine s_fa 113 rfl rfl ?_
                refine s_ld 114 rfl rfl (v := .int .i64 p) (fun _ hw => hw.blkCell (i := 1) (j := 1) rfl rfl) ?_
                refine s_ge 115 rfl rfl rfl (decide_eq_true (by omega)) ?_
                refine s_mv 116 rfl rfl ?_
                refine s_mv 117 rfl rfl ?_
                refine s_mv 118 rfl rfl ?_
                refine s_iaV 119 j (fun w hw => db_rows (doc_bk (hw.has (i := 2) rfl) hbm)) rfl rfl rfl rfl hjl ?_
                refine s_fa 120 rfl rfl ?_
                refine s_ld 121 rfl rfl (v := .bool pj.used) (fun _ hw => dpage_cell (hw.has (i := 2) rfl) hbk hpj (j := 1) rfl) ?_
                refine s_pickT 122 rfl rfl rfl ?_
                refine s_pickF 123 rfl rfl rfl ?_
                refine s_as 10 rfl rfl ?_
                refine SX.end_ ?_
                refine KN.blk ?_
                refine KN.code ?_
                refine CW.reg [0, 1, 2] rfl ?_
                refine s_mv 94 rfl rfl ?_
                refine s_add 95 rfl rfl rfl (r := ((j + 1 : Nat) : Int)) (w64 (by omega)) ?_
                refine s_as 11 rfl rfl ?_
                refine SX.end_ ?_
                exact KN.back (j + 1) ⟨rfl, rfl, rfl, rfl, rfl, by rw [hst]; rw [hwj, bad_eq hjp]; rfl, rfl, trivial⟩ (fun _ h => h) (by omega) (by omega)
          · skip
            obtain rfl : j = bk.pages.length := by omega
            have hwa : wrongT bk.abs.pages p bk.pages.length = wrongAt (x.abs.bk b).pages p := by
              rw [hba, ← wrongT_all]
              unfold DbG.abs
              rw [List.length_map]
            rw [hwa]
            refine CW.exit rfl ?_
            refine KN.code ?_
            refine CW.cut (G := Unit) (fun _ => [(0, .pointer (some ⟨g, 0, none⟩)), (2, .slice A l.length c), (4, .pointer (some ⟨b4, 0, none⟩)), (7, .slice zo.1 l.length zo.2), (9, .slice bk.A bk.pages.length bk.c)]) (fun _ => St F w [own 5 1 zo.1 l.length zo.2 (nats .u8 (spoilsG x.hitsG l)), blk b4 31 #[.int .i64 b, .int .i64 p], docA g (x.hurt b p)]) (fun _ => True) ?_ ?_
            · skip
              refine CW.seq ?_
              refine CW.reg [0] rfl ?_
              refine s_mv 124 rfl rfl ?_
              refine SX.next ?_
              refine CW.cond rfl (fun hwr => ?_) (fun hwr => ?_)
              · skip
                refine CW.pre (fun _ h => (h.pick [2, 0, 0] rfl).docO) ?_
                refine CW.reg [0, 1, 2, 3, 4, 5, 6, 7, 8] rfl ?_
                refine s_mv 125 rfl rfl ?_
                refine s_mv 126 rfl rfl ?_
                refine s_nil 127 rfl rfl ?_
                refine s_fa 128 rfl rfl ?_
                refine s_ldB 129 0 rfl rfl rfl (v := .int .i64 x.broken) rfl ?_
                refine s_add 130 rfl rfl rfl (r := if wrongAt (x.abs.bk b).pages p = true then wr (x.broken + 1) else x.broken) (by rw [if_pos hwr]; rfl) ?_
                refine s_nil 131 rfl rfl ?_
                refine s_fa 132 rfl rfl ?_
                refine s_stB 0 rfl rfl rfl rfl rfl (by show 10 < 11; decide) (fun _ _ => trivial) ?_
                refine SX.end_ ?_
                exact KN.join () ⟨rfl, rfl, rfl, rfl, rfl, trivial⟩ (fun _ h => by
                  have h1 := (h.pick [0, 0, 0, 0, 0, 0, 0] rfl).docC (x := (x.hurt b p))
                  exact h1.pick [1, 1, 0] rfl) trivial
              · skip
                refine CW.skip ?_
                exact KN.join () ⟨rfl, rfl, rfl, rfl, rfl, trivial⟩ (fun _ h => by
                  have e : x.hurt b p = x := by
                    unfold DcG.hurt
                    rw [if_neg (by rw [hwr]; decide)]
                  rw [e]
                  exact h.pick [0, 0, 0] rfl) trivial
            · skip
              intro _ _
              refine CW.seq ?_
              refine CW.reg [0, 1, 2, 3, 4, 5, 6, 7] rfl ?_
              refine s_mv 134 rfl rfl ?_
              refine s_call1 135 rfl rfl rfl rfl (v := fndV (findG x.hitsG 3)) (fun w hw => dfirst_spec g (x.hurt b p) 3 w (hw.has (i := 2) rfl) (hP _ hw.fr) hpl9) (fun _ _ => trivial) ?_
              refine s_mv 133 rfl rfl ?_
              refine s_ext 136 rfl rfl rfl ?_
              refine s_ext 137 rfl rfl rfl ?_
              refine s_alloc 12 rfl (fun _ _ => trivial) (fun b12 => ?_)
              refine s_stAll 0 rfl rfl (by kernel_rfl) rfl rfl rfl rfl (fun _ _ => trivial) ?_
              refine s_as 13 rfl rfl ?_
              refine SX.next ?_
              refine CW.seq ?_
              refine CW.reg [0, 1, 2, 3, 4, 5, 6, 7] rfl ?_
              refine s_mv 139 rfl rfl ?_
              refine s_call1 140 rfl rfl rfl rfl (v := fndV (findG x.hitsG 2)) (fun w hw => dfirst_spec g (x.hurt b p) 2 w (hw.has (i := 3) rfl) (hP _ hw.fr) hpl9) (fun _ _ => trivial) ?_
              refine s_mv 138 rfl rfl ?_
              refine s_ext 141 rfl rfl rfl ?_
              refine s_ext 142 rfl rfl rfl ?_
              refine s_alloc 14 rfl (fun _ _ => trivial) (fun b14 => ?_)
              refine s_stAll 0 rfl rfl (by kernel_rfl) rfl rfl rfl rfl (fun _ _ => trivial) ?_
              refine s_as 15 rfl rfl ?_
              refine SX.next ?_
              refine CW.seq ?_
              refine CW.reg [0, 1, 2, 3, 4] rfl ?_
              refine s_mv 143 rfl rfl ?_
              refine s_nil 144 rfl rfl ?_
              refine s_fa 145 rfl rfl ?_
              refine s_ld 146 rfl rfl (v := .int .i64 x.size) (fun _ hw => doc_cell (x := (x.hurt b p)) (hw.has (i := 4) rfl) rfl) ?_
              refine s_as 16 rfl rfl ?_
              refine SX.next ?_
              refine CW.seq ?_
              refine CW.reg [0] rfl ?_
              refine s_as 17 rfl rfl ?_
              refine SX.next ?_
              refine CW.cut (G := Unit) (fun _ => [(0, .pointer (some ⟨g, 0, none⟩)), (2, .slice A l.length c), (4, .pointer (some ⟨b4, 0, none⟩)), (7, .slice zo.1 l.length zo.2), (9, .slice bk.A bk.pages.length bk.c), (16, .int .i64 (layN x.abs.hits x.size).1), (17, .int .i64 (layN x.abs.hits x.size).2)]) (fun _ => St F w [own 5 1 zo.1 l.length zo.2 (nats .u8 (spoilsG x.hitsG l)), blk b4 31 #[.int .i64 b, .int .i64 p], docA g ({ (x.hurt b p) with off := (findG x.hitsG 3).isSome } : DcG)]) (fun _ => True) ?_ ?_
              · skip
                refine CW.seq ?_
                refine CW.reg [0] rfl ?_
                refine s_mv 147 rfl rfl ?_
                refine SX.next ?_
                refine CW.cond rfl (fun hct => ?_) (fun hct => ?_)
                · skip
                  obtain ⟨f, hf⟩ := Option.isSome_iff_exists.1 hct
                  have hly := dlayN_cut hf x.size
                  refine CW.seq ?_
                  refine CW.reg [0, 1, 2] rfl ?_
                  refine s_fa 148 rfl rfl ?_
                  refine s_ldB 149 1 rfl rfl rfl (v := .int .i64 f.n) (by rw [hf]; rfl) ?_
                  refine s_as 16 rfl rfl ?_
                  refine SX.next ?_
                  refine CW.seq ?_
                  refine CW.reg [0] rfl ?_
                  refine s_as 17 rfl rfl ?_
                  refine SX.next ?_
                  refine CW.pre (fun _ h => (h.pick [4, 0, 0, 0, 0] rfl).docO) ?_
                  refine CW.reg [0, 1, 2, 3] rfl ?_
                  refine s_mv 150 rfl rfl ?_
                  refine s_nil 151 rfl rfl ?_
                  refine s_fa 152 rfl rfl ?_
                  refine s_stB 0 rfl rfl rfl rfl rfl (by show 9 < 11; decide) (fun _ _ => trivial) ?_
                  refine SX.end_ ?_
                  exact KN.join () ⟨rfl, rfl, rfl, rfl, rfl, by rw [hly]; rfl, by rw [hly]; rfl, trivial⟩ (fun _ h => by
                    have h1 := (h.pick [0, 0, 0, 0, 0, 2, 2] rfl).docC (x := { (x.hurt b p) with off := true })
                    rw [hct]
                    exact h1.pick [1, 1, 0] rfl) trivial
                · skip
                  have hf3 : findG x.hitsG 3 = none := by
                    cases hh : findG x.hitsG 3 with
                    | none => rfl
                    | some f => rw [hh] at hct; cases hct
                  refine CW.seq ?_
                  refine CW.reg [0] rfl ?_
                  refine s_mv 153 rfl rfl ?_
                  refine SX.next ?_
                  refine CW.cond rfl (fun hfl2 => ?_) (fun hfl2 => ?_)
                  · skip
                    obtain ⟨f, hf⟩ := Option.isSome_iff_exists.1 hfl2
                    have hly := dlayN_fail hf3 hf x.size
                    refine CW.seq ?_
                    refine CW.reg [0, 1, 2] rfl ?_
                    refine s_fa 154 rfl rfl ?_
                    refine s_ldB 155 0 rfl rfl rfl (v := .int .i64 f.n) (by rw [hf]; rfl) ?_
                    refine s_as 16 rfl rfl ?_
                    refine SX.next ?_
                    refine CW.reg [0] rfl ?_
                    refine s_as 17 rfl rfl ?_
                    refine SX.end_ ?_
                    exact KN.join () ⟨rfl, rfl, rfl, rfl, rfl, by rw [hly]; rfl, by rw [hly]; rfl, trivial⟩ (fun _ h => by
                      have e : ({ (x.hurt b p) with off := (findG x.hitsG 3).isSome } : DcG) = (x.hurt b p) := by
                        rw [hf3]
                        have ho : (x.hurt b p).off = false := hof
                        show ({ (x.hurt b p) with off := false } : DcG) = _
                        rw [← ho]
                      rw [e]
                      exact h.pick [2, 2, 2] rfl) trivial
                  · skip
                    have hf2 : findG x.hitsG 2 = none := by
                      cases hh : findG x.hitsG 2 with
                      | none => rfl
                      | some f => rw [hh] at hfl2; cases hfl2
                    have hly := dlayN_all hf3 hf2 x.size
                    refine CW.skip ?_
                    exact KN.join () ⟨rfl, rfl, rfl, rfl, rfl, by rw [hly]; rfl, by rw [hly]; rfl, trivial⟩ (fun _ h => by
                      have e : ({ (x.hurt b p) with off := (findG x.hitsG 3).isSome } : DcG) = (x.hurt b p) := by
                        rw [hf3]
                        have ho : (x.hurt b p).off = false := hof
                        show ({ (x.hurt b p) with off := false } : DcG) = _
                        rw [← ho]
                      rw [e]
                      exact h.pick [2, 2, 2] rfl) trivial
              · skip
                intro _ _
                have hall : pg.l.length ≤ (spoilsG x.hitsG l).length := by rw [hfl]; omega
                have hcle : (((clampN (layN x.abs.hits x.size).1 x.size) : Nat) : Int) ≤ max x.size 0 := clampN_le
                refine CW.seq ?_
                refine CW.reg [0, 1, 2, 3, 4, 5, 6, 7] rfl ?_
                refine s_mv 156 rfl rfl ?_
                refine s_fa 157 rfl rfl ?_
                refine s_ld 158 rfl rfl (v := .int .i64 p) (fun _ hw => hw.blkCell (i := 1) (j := 1) rfl rfl) ?_
                refine s_iaV 159 k (fun w hw => db_rows (doc_bk (x := ({ (x.hurt b p) with off := (findG x.hitsG 3).isSome } : DcG)) (hw.has (i := 2) rfl) hbm)) rfl rfl rfl hpk hkl ?_
                refine s_fa 160 rfl rfl ?_
                refine s_ld 161 rfl rfl (v := .slice pg.A pg.l.length pg.c) (fun _ hw => dpage_cell (x := ({ (x.hurt b p) with off := (findG x.hitsG 3).isSome } : DcG)) (hw.has (i := 2) rfl) hbk hpg (j := 0) rfl) ?_
                refine s_call 162 rfl rfl rfl rfl (fun w hw => rbytes_spec pg.A pg.l.length pg.c pg.l w (dp_own1 (db_pg (doc_bk (x := ({ (x.hurt b p) with off := (findG x.hitsG 3).isSome } : DcG)) (hw.has (i := 2) rfl) hbm) hpm)) (by omega)) (fun _ _ => trivial) (fun zc hzc => ?_)
                refine s_as 18 rfl rfl ?_
                refine SX.next ?_
                refine CW.cut (G := Unit) (fun _ => [(0, .pointer (some ⟨g, 0, none⟩)), (2, .slice A l.length c), (4, .pointer (some ⟨b4, 0, none⟩)), (7, .slice zo.1 l.length zo.2), (9, .slice bk.A bk.pages.length bk.c), (16, .int .i64 (layN x.abs.hits x.size).1), (17, .int .i64 (layN x.abs.hits x.size).2), (18, .slice zc.1 pg.l.length zc.2)]) (fun _ => St F w [own 5 1 zc.1 pg.l.length zc.2 (nats .u8 (andTo (clampN (layN x.abs.hits x.size).1 x.size) pg.l (spoilsG x.hitsG l))), own 5 1 zo.1 l.length zo.2 (nats .u8 (spoilsG x.hitsG l)), blk b4 31 #[.int .i64 b, .int .i64 p], docA g ({ (x.hurt b p) with off := (findG x.hitsG 3).isSome } : DcG)]) (fun _ => True) ?_ ?_
                · skip
                  refine CW.seq ?_
                  refine CW.reg [0] rfl ?_
                  refine s_as 19 rfl rfl ?_
                  refine SX.next ?_
                  refine CW.block ?_
                  refine CW.loop (G := Nat) (fun j => [(0, .pointer (some ⟨g, 0, none⟩)), (2, .slice A l.length c), (4, .pointer (some ⟨b4, 0, none⟩)), (7, .slice zo.1 l.length zo.2), (9, .slice bk.A bk.pages.length bk.c), (16, .int .i64 (layN x.abs.hits x.size).1), (17, .int .i64 (layN x.abs.hits x.size).2), (18, .slice zc.1 pg.l.length zc.2), (19, .int .i64 (j : Nat))]) (fun j => St F w [own 5 1 zc.1 pg.l.length zc.2 (nats .u8 (andTo j pg.l (spoilsG x.hitsG l))), own 5 1 zo.1 l.length zo.2 (nats .u8 (spoilsG x.hitsG l)), blk b4 31 #[.int .i64 b, .int .i64 p], docA g ({ (x.hurt b p) with off := (findG x.hitsG 3).isSome } : DcG)]) (fun j => j ≤ (clampN (layN x.abs.hits x.size).1 x.size)) (fun j => (clampN (layN x.abs.hits x.size).1 x.size) - j) 0 ⟨rfl, rfl, rfl, rfl, rfl, rfl, rfl, rfl, rfl, trivial⟩ (fun _ h => by rw [andTo_zero]; exact h) (Nat.zero_le _) ?_
                  intro j hj
                  have hal := andTo_len (m := j) hall
                  refine CW.seq ?_
                  refine CW.seq ?_
                  refine CW.reg [0, 1, 2, 3, 4, 5, 6, 7, 8, 9, 10] rfl ?_
                  refine s_mv 163 rfl rfl ?_
                  refine s_mv 164 rfl rfl ?_
                  refine s_nil 165 rfl rfl ?_
                  refine s_fa 166 rfl rfl ?_
                  refine s_ld 167 rfl rfl (v := .int .i64 x.size) (fun _ hw => doc_cell (x := ({ (x.hurt b p) with off := (findG x.hitsG 3).isSome } : DcG)) (hw.has (i := 3) rfl) rfl) ?_
                  refine s_lt 168 rfl rfl rfl rfl ?_
                  refine s_mv 169 rfl rfl ?_
                  refine SX.bool 169 rfl (fun hb => ?_) (fun hb => ?_)
                  · skip
                    have hj1 := of_decide_eq_true hb
                    refine s_mv 170 rfl rfl ?_
                    refine s_mv 171 rfl rfl ?_
                    refine s_lt 172 rfl rfl rfl rfl ?_
                    refine s_pickT 173 rfl rfl rfl ?_
                    refine SX.next ?_
                    refine CW.test rfl (fun hj2 => ?_) (fun hj2 => ?_)
                    · skip
                      have hjl : j < (clampN (layN x.abs.hits x.size).1 x.size) := by unfold clampN; omega
                      have hjs : j < pg.l.length := by omega
                      have hnx := andTo_next (m := j) hall hjs
                      have ha8 := andTo_lt (m := j) hall ho2
                      refine CW.skip ?_
                      refine KN.code ?_
                      refine CW.seq ?_
                      refine CW.block ?_
                      refine CW.regD (.st true 0 (.st true 1 (.st true 2 (.st true 3 (.st true 4 (.st true 6 (.st true 7 (.st true 8 (.st true 9 (.st false 5 (.st true 10 (.st true 11 (.st false 12 .done))))))))))))) (St F w [own 5 1 zo.1 l.length zo.2 (nats .u8 (spoilsG x.hitsG l))]) mixed (by kernel_rfl) (fun _ h => h.drew) (fun _ h => h.pick [1] rfl) ?_
                      refine s_mv 176 rfl rfl ?_
                      refine s_mv 177 rfl rfl ?_
                      refine s_mv 178 rfl rfl ?_
                      refine s_mv 179 rfl rfl ?_
                      refine s_iaO 180 0 j rfl rfl rfl rfl rfl hjs ?_
                      refine s_mv 182 rfl rfl ?_
                      refine s_mv 183 rfl rfl ?_
                      refine s_iaO 184 1 j rfl rfl rfl rfl rfl (by omega) ?_
                      refine s_ldS 185 rfl rfl (v := .int .u8 ((spoilsG x.hitsG l).getD j 0 : Nat)) (fun _ hw => hw.ownCell (q := 0) (j := j) rfl (natsAt8 (by omega))) ?_
                      refine s_ldO 181 0 rfl rfl rfl (natsAt8 (by rw [hal]; exact hjs)) ?_
                      refine s_bit 186 rfl rfl rfl rfl (r := (((andTo j pg.l (spoilsG x.hitsG l)).getD j 0 &&& (spoilsG x.hitsG l).getD j 0 : Nat) : Int)) (ibit_and_u8 (getD_lt8 ha8 _) (getD_lt8 hf82 _)) ?_
                      refine s_iaO 187 0 j rfl rfl rfl rfl rfl hjs ?_
                      refine s_stO 0 rfl rfl rfl rfl rfl hjs (fun _ h => h.pick [1] rfl) ?_
                      refine SX.end_ ?_
                      refine KN.blk ?_
                      refine KN.code ?_
                      refine CW.reg [0, 1, 2] rfl ?_
                      refine s_mv 174 rfl rfl ?_
                      refine s_add 175 rfl rfl rfl (r := ((j + 1 : Nat) : Int)) (w64 (by omega)) ?_
                      refine s_as 19 rfl rfl ?_
                      refine SX.end_ ?_
                      exact KN.back (j + 1) ⟨rfl, rfl, rfl, rfl, rfl, rfl, rfl, rfl, rfl, trivial⟩ (fun _ h => by rw [hnx, nats8_set]; exact h) (by omega) (by omega)
                    · skip
                      have hje : j = (clampN (layN x.abs.hits x.size).1 x.size) := by unfold clampN at hj ⊢; omega
                      subst hje
                      refine CW.exit rfl ?_
                      exact KN.join () ⟨rfl, rfl, rfl, rfl, rfl, rfl, rfl, rfl, trivial⟩ (fun _ h => h) trivial
                  · skip
                    have hj1 := of_decide_eq_false hb
                    have hje : j = (clampN (layN x.abs.hits x.size).1 x.size) := by unfold clampN at hj ⊢; omega
                    subst hje
                    refine SX.skip rfl ?_
                    refine SX.skip rfl ?_
                    refine SX.skip rfl ?_
                    refine s_pickF 173 rfl rfl rfl ?_
                    refine SX.next ?_
                    refine CW.condF rfl ?_
                    refine CW.exit rfl ?_
                    exact KN.join () ⟨rfl, rfl, rfl, rfl, rfl, rfl, rfl, rfl, trivial⟩ (fun _ h => h) trivial
                · skip
                  intro _ _
                  refine CW.seq ?_
                  have hal2 := andTo_len (m := (clampN (layN x.abs.hits x.size).1 x.size)) hall
                  refine CW.pre (C' := St F w [bk.rows, starA (bk.pages.map DpG.dat), starA ((x.blocks.map DbG.dat).eraseIdx i), ({ (x.hurt b p) with off := (findG x.hitsG 3).isSome } : DcG).hd g, ({ (x.hurt b p) with off := (findG x.hitsG 3).isSome } : DcG).hds, ({ (x.hurt b p) with off := (findG x.hitsG 3).isSome } : DcG).mks, ({ (x.hurt b p) with off := (findG x.hitsG 3).isSome } : DcG).wns, own 5 1 zc.1 pg.l.length zc.2 (nats .u8 (andTo (clampN (layN x.abs.hits x.size).1 x.size) pg.l (spoilsG x.hitsG l))), own 5 1 zo.1 l.length zo.2 (nats .u8 (spoilsG x.hitsG l)), blk b4 31 #[.int .i64 b, .int .i64 p]]) (fun _ h => by
                    have h0 := (h.pick [3, 0, 0, 0] rfl).docO
                    have h1 := h0.pick [2, 0, 0, 0, 0, 0, 0, 0] rfl
                    exact h1.dbO hbk) ?_
                  refine CW.regD (.st true 0 (.st true 1 (.st true 2 (.st true 3 (.st true 4 (.st false 5 (.st false 6 (.st true 7 (.st false 8 .done))))))))) (St F w [blk b4 31 #[.int .i64 b, .int .i64 p]]) mixed (by kernel_rfl) (fun _ h => h.drew) (fun _ h => h.pick [9] rfl) ?_
                  refine s_mv 188 rfl rfl ?_
                  refine s_fa 189 rfl rfl ?_
                  refine s_ldS 190 rfl rfl (v := .int .i64 p) (fun _ hw => hw.blkCell (i := 0) (j := 1) rfl rfl) ?_
                  refine s_mv 191 rfl rfl ?_
                  refine s_mv 192 rfl rfl ?_
                  refine s_call 193 rfl rfl rfl rfl (fun w2 hw => rbytes_spec A l.length c l w2 (hB _ hw.fr) (by omega)) (fun _ h => h.pick [9] rfl) (fun zl hzl => ?_)
                  refine s_build 194 rfl rfl (cells := #[.slice zc.1 pg.l.length zc.2, .bool true, .slice zl.1 l.length zl.2]) (by kernel_rfl) ?_
                  refine s_iaOS 195 1 k rfl rfl rfl rfl hpk hkl ?_
                  refine s_stRow 1 (t := k * 3) (vs := [.slice zc.1 pg.l.length zc.2, .bool true, .slice zl.1 l.length zl.2]) rfl rfl (by kernel_rfl) rfl rfl (by omega) (by rw [flat_len dpRow_len]; show k * 3 + 3 ≤ bk.pages.length * 3; omega) rfl (fun _ h => h.pick [10] rfl) ?_
                  refine SX.next ?_
                  refine CW.seq ?_
                  refine CW.reg [0, 1, 2, 3, 4, 5, 6, 7, 8] rfl ?_
                  refine s_mv 196 rfl rfl ?_
                  refine s_mv 197 rfl rfl ?_
                  refine s_nil 198 rfl rfl ?_
                  refine s_fa 199 rfl rfl ?_
                  refine s_ldB 200 4 rfl rfl rfl (v := .int .i64 x.ops) rfl ?_
                  refine s_add 201 rfl rfl rfl (r := wr (x.ops + 1)) rfl ?_
                  refine s_nil 202 rfl rfl ?_
                  refine s_fa 203 rfl rfl ?_
                  refine s_stB 4 rfl rfl rfl rfl rfl (by show 8 < 11; decide) (fun _ _ => trivial) ?_
                  refine SX.next ?_
                  refine CW.seq ?_
                  refine CW.reg [0, 1] rfl ?_
                  refine s_mv 204 rfl rfl ?_
                  refine s_as 6 rfl rfl ?_
                  refine SX.next ?_
                  refine CW.ret ?_
                  exact KN.ret (rs := [.tmp 6]) Tryd.results34 rfl (fun w_ hw => by
  obtain ⟨q1, q2⟩ := dpr_ok (l := l) hz0 hbi hpk hbk hba hpa zc.1 zc.2 zl.1 zl.2 (r := (layN x.abs.hits x.size)) rfl
  refine ⟨({ (x.hurt b p).tick with off := (findG x.hitsG 3).isSome, blocks := x.blocks.set i ({ bk with pages := bk.pages.set k (⟨zc.1, zc.2, andTo (clampN (layN x.abs.hits x.size).1 x.size) pg.l (spoilsG x.hitsG l), true, zl.1, zl.2, l⟩ : DpG) } : DbG) } : DcG), by rw [q1]; rfl, ⟨q2, ⟨rfl, rfl, rfl⟩⟩, ?_⟩
  have h1 := hw.pick [2, 7, 0, 0, 0, 0, 0, 0, 0] rfl
  have h2 : St F w [starA (bk.pages.map DpG.dat), (⟨zc.1, zc.2, andTo (clampN (layN x.abs.hits x.size).1 x.size) pg.l (spoilsG x.hitsG l), true, zl.1, zl.2, l⟩ : DpG).own1, (⟨zc.1, zc.2, andTo (clampN (layN x.abs.hits x.size).1 x.size) pg.l (spoilsG x.hitsG l), true, zl.1, zl.2, l⟩ : DpG).own2, ({ bk with pages := bk.pages.set k (⟨zc.1, zc.2, andTo (clampN (layN x.abs.hits x.size).1 x.size) pg.l (spoilsG x.hitsG l), true, zl.1, zl.2, l⟩ : DpG) } : DbG).rows, starA ((x.blocks.map DbG.dat).eraseIdx i), ({ (x.hurt b p).tick with off := (findG x.hitsG 3).isSome } : DcG).hd g, ({ (x.hurt b p).tick with off := (findG x.hitsG 3).isSome } : DcG).hds, ({ (x.hurt b p).tick with off := (findG x.hitsG 3).isSome } : DcG).mks, ({ (x.hurt b p).tick with off := (findG x.hitsG 3).isSome } : DcG).wns] w_ := by
    have e2 : (andTo (clampN (layN x.abs.hits x.size).1 x.size) pg.l (spoilsG x.hitsG l)).length = pg.l.length := hal2
    unfold DpG.own1 DpG.own2 DbG.rows
    simp only [e2, List.length_set]
    rw [flat_row (row := DpG.row) dpRow_len hkl]
    unfold DpG.row
    simp only [e2]
    exact h1
  have h3 := ((h2.dpPut hkl).pick [1, 0, 0, 0, 0, 0, 0] rfl).dbI (b := ({ bk with pages := bk.pages.set k (⟨zc.1, zc.2, andTo (clampN (layN x.abs.hits x.size).1 x.size) pg.l (spoilsG x.hitsG l), true, zl.1, zl.2, l⟩ : DpG) } : DbG)) hil
  have h4 : St F w [({ (x.hurt b p).tick with off := (findG x.hitsG 3).isSome, blocks := x.blocks.set i ({ bk with pages := bk.pages.set k (⟨zc.1, zc.2, andTo (clampN (layN x.abs.hits x.size).1 x.size) pg.l (spoilsG x.hitsG l), true, zl.1, zl.2, l⟩ : DpG) } : DbG) } : DcG).hd g, ({ (x.hurt b p).tick with off := (findG x.hitsG 3).isSome, blocks := x.blocks.set i ({ bk with pages := bk.pages.set k (⟨zc.1, zc.2, andTo (clampN (layN x.abs.hits x.size).1 x.size) pg.l (spoilsG x.hitsG l), true, zl.1, zl.2, l⟩ : DpG) } : DbG) } : DcG).hds, ({ (x.hurt b p).tick with off := (findG x.hitsG 3).isSome, blocks := x.blocks.set i ({ bk with pages := bk.pages.set k (⟨zc.1, zc.2, andTo (clampN (layN x.abs.hits x.size).1 x.size) pg.l (spoilsG x.hitsG l), true, zl.1, zl.2, l⟩ : DpG) } : DbG) } : DcG).bst, ({ (x.hurt b p).tick with off := (findG x.hitsG 3).isSome, blocks := x.blocks.set i ({ bk with pages := bk.pages.set k (⟨zc.1, zc.2, andTo (clampN (layN x.abs.hits x.size).1 x.size) pg.l (spoilsG x.hitsG l), true, zl.1, zl.2, l⟩ : DpG) } : DbG) } : DcG).mks, ({ (x.hurt b p).tick with off := (findG x.hitsG 3).isSome, blocks := x.blocks.set i ({ bk with pages := bk.pages.set k (⟨zc.1, zc.2, andTo (clampN (layN x.abs.hits x.size).1 x.size) pg.l (spoilsG x.hitsG l), true, zl.1, zl.2, l⟩ : DpG) } : DbG) } : DcG).wns] w_ := by
    have e3 : ({ (x.hurt b p).tick with off := (findG x.hitsG 3).isSome, blocks := x.blocks.set i ({ bk with pages := bk.pages.set k (⟨zc.1, zc.2, andTo (clampN (layN x.abs.hits x.size).1 x.size) pg.l (spoilsG x.hitsG l), true, zl.1, zl.2, l⟩ : DpG) } : DbG) } : DcG).hd g = ({ (x.hurt b p).tick with off := (findG x.hitsG 3).isSome } : DcG).hd g := by unfold DcG.hd DcG.cells; simp only [List.length_set]; rfl
    have e4 : ({ (x.hurt b p).tick with off := (findG x.hitsG 3).isSome, blocks := x.blocks.set i ({ bk with pages := bk.pages.set k (⟨zc.1, zc.2, andTo (clampN (layN x.abs.hits x.size).1 x.size) pg.l (spoilsG x.hitsG l), true, zl.1, zl.2, l⟩ : DpG) } : DbG) } : DcG).hds = ({ (x.hurt b p).tick with off := (findG x.hitsG 3).isSome } : DcG).hds := by
      unfold DcG.hds
      simp only [List.length_set]
      congr 1
      exact map_keep hbk (by unfold DbG.hdr; simp only [List.length_set])
    have e5 : ({ (x.hurt b p).tick with off := (findG x.hitsG 3).isSome, blocks := x.blocks.set i ({ bk with pages := bk.pages.set k (⟨zc.1, zc.2, andTo (clampN (layN x.abs.hits x.size).1 x.size) pg.l (spoilsG x.hitsG l), true, zl.1, zl.2, l⟩ : DpG) } : DbG) } : DcG).mks = ({ (x.hurt b p).tick with off := (findG x.hitsG 3).isSome } : DcG).mks := by
      unfold DcG.mks
      simp only [List.length_set]
      congr 1
      exact map_keep hbk rfl
    have e6 : ({ (x.hurt b p).tick with off := (findG x.hitsG 3).isSome, blocks := x.blocks.set i ({ bk with pages := bk.pages.set k (⟨zc.1, zc.2, andTo (clampN (layN x.abs.hits x.size).1 x.size) pg.l (spoilsG x.hitsG l), true, zl.1, zl.2, l⟩ : DpG) } : DbG) } : DcG).wns = ({ (x.hurt b p).tick with off := (findG x.hitsG 3).isSome } : DcG).wns := by
      unfold DcG.wns
      simp only [List.length_set]
      congr 1
      exact map_keep hbk rfl
    rw [e3, e4, e5, e6]
    exact h3.pick [1, 1, 0, 0, 0] rfl
  exact h4.docC)
end Go.Proofs.YtcapijdokbkgaaaDoor
end
section
/- The document's chip: an erase. Conditions: it is lent; its plan is read where it lies. -/
namespace Go.Proofs.YtcapijdokbkgaaaDoor
open Go Go.Sx Go.Fm
set_option maxRecDepth 100000
theorem der_ok {x : DcG} {b : Int} (h : x.abs.erE b = 0) {i : Nat} {bk : DbG} (hb : b = (i : Nat)) (h1 : x.abs.bk b = bk.abs) {r : Nat × Int} (hr : eraN x.abs.hits x.pages = r) {q : List DpG} {wn : Int}
    (hq : q.map DpG.abs = List.replicate r.1 (PgS.bare x.size.toNat) ++ (bk.pages.map DpG.abs).drop r.1) (hw : wn = if r.2 = 0 then wr (bk.worn + 1) else bk.worn) :
    (x.abs.er b).1 = r.2 ∧ ({ x.tick with off := (findG x.hitsG 3).isSome, blocks := x.blocks.set i { bk with pages := q, worn := wn } } : DcG).abs = (x.abs.er b).2 := by
  unfold ChS.er
  rw [if_neg (fun hn => hn h)]
  have hr2 : eraN x.abs.hits x.abs.pages = r := hr
  simp only [hr2]
  refine ⟨trivial, ?_⟩
  have e3 : (findG x.hitsG 3).isSome = (findK x.abs.hits 3).isSome := dfind_some x 3
  rw [e3, h1, hb, Int.toNat_natCast]
  subst hw
  unfold DcG.tick ChS.tick DcG.abs
  simp only [List.map_set]
  congr 2
  unfold DbG.abs
  simp only [hq]
theorem dbare_next {ps q : List DpG} {sz j : Nat} {z : DpG} (hq : q.map DpG.abs = List.replicate j (PgS.bare sz) ++ (ps.map DpG.abs).drop j) (hj : j < ps.length) (hz : z.abs = PgS.bare sz) : (q.set j z).map DpG.abs = List.replicate (j + 1) (PgS.bare sz) ++ (ps.map DpG.abs).drop (j + 1) := by
  rw [List.map_set, hq, hz, List.set_append_right _ _ (by simp), List.length_replicate, Nat.sub_self, List.drop_eq_getElem_cons (by simpa using hj), List.set_cons_zero, List.replicate_succ', List.append_assoc]
  rfl
theorem dbare_len {ps q : List DpG} {sz j : Nat} (hq : q.map DpG.abs = List.replicate j (PgS.bare sz) ++ (ps.map DpG.abs).drop j) (hj : j ≤ ps.length) : q.length = ps.length := by
  have := congrArg List.length hq
  simp only [List.length_map, List.length_append, List.length_replicate, List.length_drop] at this
  omega
/-- How many pages the loop goes over. -/
def DcG.nErase (x : DcG) : Int := match findG x.hitsG 3 with
  | some f => f.n
  | none => x.pages
theorem deraN_cut {x : DcG} {f : FtG} (h : findG x.hitsG 3 = some f) : eraN x.abs.hits x.pages = (clampN x.nErase x.pages, 109) := by
  unfold eraN DcG.nErase
  rw [← dhits_abs, ← findG_abs, h]
  rfl
theorem deraN_fail {x : DcG} {f : FtG} (h3 : findG x.hitsG 3 = none) (h : findG x.hitsG 2 = some f) : eraN x.abs.hits x.pages = (0, 111) := by
  unfold eraN
  rw [← dhits_abs, ← findG_abs, ← findG_abs, h3, h]
  rfl
theorem deraN_all {x : DcG} (hp : 0 ≤ x.pages) (h3 : findG x.hitsG 3 = none) (h : findG x.hitsG 2 = none) : eraN x.abs.hits x.pages = (clampN x.nErase x.pages, 0) := by
  unfold eraN DcG.nErase
  rw [← dhits_abs, ← findG_abs, ← findG_abs, h3, h]
  simp only [Option.map_none]
  unfold clampN
  rw [show min (max x.pages 0) x.pages = x.pages by omega]
theorem wn_at {bs : List DbG} {i : Nat} {b : DbG} (h : bs[i]? = some b) : (bs.map wnV)[i]? = some (.int .i64 b.worn) := by
  rw [List.getElem?_map, h]
  rfl

set_option maxHeartbeats 1600000 in

theorem derase_spec (F : Nat → Prop) (g : Nat) (x : DcG) (hx : x.abs.Ok) (b : Int) (w : World) (hP : ∀ w', Fr F w w' → PlIn x.pA x.plan w') (hw : St F w [docA g x] w) : SpecP Tryd.prog 35 [.pointer (some ⟨g, 0, none⟩), .int .i64 b] F w (X := DcG) (fun _ => .int .i64 (x.abs.er b).1) (fun z => z.abs = (x.abs.er b).2 ∧ x.Same z) (fun z => [docA g z]) := by
  refine spec_ofC Tryd.func35 rfl Tryd.ntmps35 rfl hw ?_
  refine CW.seq ?_
  refine CW.reg [0] rfl ?_
  refine s_as 4 rfl rfl ?_
  refine SX.next ?_
  refine CW.seq ?_
  refine CW.seq ?_
  refine CW.reg [0, 1, 2, 3] rfl ?_
  refine s_mv 11 rfl rfl ?_
  refine s_nil 12 rfl rfl ?_
  refine s_fa 13 rfl rfl ?_
  refine s_ld 14 rfl rfl (v := .bool x.off) (fun _ hw => doc_cell (hw.has (i := 0) rfl) rfl) ?_
  refine SX.next ?_
  refine CW.cond rfl (fun hof => ?_) (fun hof => ?_)
  · skip
    have hE : x.abs.erE b = 109 := by
      unfold ChS.erE askC
      rw [show x.abs.off = true from hof]
      rfl
    refine CW.seq ?_
    refine CW.reg [0] rfl ?_
    refine s_as 4 rfl rfl ?_
    refine SX.next ?_
    refine CW.ret ?_
    exact KN.ret (rs := [.tmp 4]) Tryd.results35 rfl (fun w hw => ⟨x, by rw [er_err (by rw [hE]; decide), hE]; rfl, by rw [er_err (by rw [hE]; decide)]; exact ⟨rfl, .refl x⟩, hw⟩)
  · skip
    replace hof : x.off = false := by simpa using hof
    refine CW.skip ?_
    refine KN.code ?_
    refine CW.seq ?_
    refine CW.seq ?_
    refine CW.reg [0, 1, 2, 3, 4, 5, 6, 7, 8, 9] rfl ?_
    refine s_mv 15 rfl rfl ?_
    refine s_lt 16 rfl rfl rfl rfl ?_
    refine s_mv 17 rfl rfl ?_
    refine SX.bool 17 rfl (fun hb => ?_) (fun hb => ?_)
    · skip
      have hb0 := of_decide_eq_true hb
      have hhs : x.abs.has b = false := by
        rw [dhas_eq]
        exact decide_eq_false (fun h => by omega)
      have hE : x.abs.erE b = 110 := by
        unfold ChS.erE askC
        rw [show x.abs.off = false from hof, hhs]
        rfl
      refine SX.skip rfl ?_
      refine SX.skip rfl ?_
      refine SX.skip rfl ?_
      refine SX.skip rfl ?_
      refine SX.skip rfl ?_
      refine SX.skip rfl ?_
      refine s_pickT 24 rfl rfl rfl ?_
      refine SX.next ?_
      refine CW.condT rfl ?_
      refine CW.seq ?_
      refine CW.reg [0] rfl ?_
      refine s_as 4 rfl rfl ?_
      refine SX.next ?_
      refine CW.ret ?_
      exact KN.ret (rs := [.tmp 4]) Tryd.results35 rfl (fun w hw => ⟨x, by rw [er_err (by rw [hE]; decide), hE]; rfl, by rw [er_err (by rw [hE]; decide)]; exact ⟨rfl, .refl x⟩, hw⟩)
    · skip
      have hb0 := of_decide_eq_false hb
      refine s_mv 18 rfl rfl ?_
      refine s_mv 19 rfl rfl ?_
      refine s_nil 20 rfl rfl ?_
      refine s_fa 21 rfl rfl ?_
      refine s_ld 22 rfl rfl (v := .int .i64 (x.blocks.length : Nat)) (fun _ hw => doc_cell (hw.has (i := 0) rfl) rfl) ?_
      refine s_ge 23 rfl rfl rfl rfl ?_
      refine s_pickF 24 rfl rfl rfl ?_
      refine SX.next ?_
      refine CW.test rfl (fun hb1 => ?_) (fun hb1 => ?_)
      · skip
        have hhs : x.abs.has b = false := by
          rw [dhas_eq]
          exact decide_eq_false (fun h => by omega)
        have hE : x.abs.erE b = 110 := by
          unfold ChS.erE askC
          rw [show x.abs.off = false from hof, hhs]
          rfl
        refine CW.seq ?_
        refine CW.reg [0] rfl ?_
        refine s_as 4 rfl rfl ?_
        refine SX.next ?_
        refine CW.ret ?_
        exact KN.ret (rs := [.tmp 4]) Tryd.results35 rfl (fun w hw => ⟨x, by rw [er_err (by rw [hE]; decide), hE]; rfl, by rw [er_err (by rw [hE]; decide)]; exact ⟨rfl, .refl x⟩, hw⟩)
      · skip
        have hhs : x.abs.has b = true := by
          rw [dhas_eq]
          exact decide_eq_true ⟨by omega, by omega⟩
        have hz0 : x.abs.erE b = 0 := by
          unfold ChS.erE askC
          rw [show x.abs.off = false from hof, hhs]
          rfl
        obtain ⟨i, bk, hbi, hbk, hba⟩ := dhas_at hhs
        have hil := (List.getElem?_eq_some_iff.1 hbk).1
        have hbm := List.mem_of_getElem? hbk
        have hz1 : x.size ≤ 4096 := hx.z1
        have hz0s : 1 ≤ x.size := hx.z0
        obtain ⟨sz, hsz⟩ := Int.eq_ofNat_of_zero_le (show 0 ≤ x.size by omega)
        have hpl9 := dplan_len hx
        have hbpl := dbk_pgs hx hbk
        have hp0 : 1 ≤ x.pages := hx.p0
        have hp1 : x.pages ≤ 64 := hx.p1
        refine CW.skip ?_
        refine KN.code ?_
        refine CW.seq ?_
        refine CW.reg [0, 1, 2, 3, 4, 5, 6, 7] rfl ?_
        refine s_mv 26 rfl rfl ?_
        refine s_call1 27 rfl rfl rfl rfl (fun w hw => dfirst_spec g x 3 w (hw.has (i := 0) rfl) (hP _ hw.fr) hpl9) (fun _ _ => trivial) ?_
        refine s_mv 25 rfl rfl ?_
        refine s_ext 28 rfl rfl rfl ?_
        refine s_ext 29 rfl rfl rfl ?_
        refine s_alloc 5 rfl (fun _ _ => trivial) (fun b5 => ?_)
        refine s_stAll 0 rfl rfl (by kernel_rfl) rfl rfl rfl rfl (fun _ _ => trivial) ?_
        refine s_as 6 rfl rfl ?_
        refine SX.next ?_
        refine CW.seq ?_
        refine CW.reg [0, 1, 2, 3, 4, 5, 6, 7] rfl ?_
        refine s_mv 31 rfl rfl ?_
        refine s_call1 32 rfl rfl rfl rfl (fun w hw => dfirst_spec g x 2 w (hw.has (i := 1) rfl) (hP _ hw.fr) hpl9) (fun _ _ => trivial) ?_
        refine s_mv 30 rfl rfl ?_
        refine s_ext 33 rfl rfl rfl ?_
        refine s_ext 34 rfl rfl rfl ?_
        refine s_alloc 7 rfl (fun _ _ => trivial) (fun b7 => ?_)
        refine s_stAll 0 rfl rfl (by kernel_rfl) rfl rfl rfl rfl (fun _ _ => trivial) ?_
        refine s_as 8 rfl rfl ?_
        refine SX.next ?_
        refine CW.seq ?_
        refine CW.pre (fun _ h => (h.pick [2, 0, 0] rfl).docO) ?_
        refine CW.reg [0, 1, 2, 3, 4, 5, 6, 7, 8] rfl ?_
        refine s_mv 35 rfl rfl ?_
        refine s_mv 36 rfl rfl ?_
        refine s_nil 37 rfl rfl ?_
        refine s_fa 38 rfl rfl ?_
        refine s_ldB 39 0 rfl rfl rfl (v := .int .i64 x.ops) rfl ?_
        refine s_add 40 rfl rfl rfl (r := wr (x.ops + 1)) rfl ?_
        refine s_nil 41 rfl rfl ?_
        refine s_fa 42 rfl rfl ?_
        refine s_stB 0 rfl rfl rfl rfl rfl (by show 8 < 11; decide) (fun _ _ => trivial) ?_
        refine SX.next ?_
        refine CW.seq ?_
        refine CW.reg [0, 1, 2, 3, 4] rfl ?_
        refine s_mv 43 rfl rfl ?_
        refine s_nil 44 rfl rfl ?_
        refine s_fa 45 rfl rfl ?_
        refine s_ldB 46 0 rfl rfl rfl (v := .int .i64 x.pages) rfl ?_
        refine s_as 9 rfl rfl ?_
        refine SX.next ?_
        refine CW.cut (G := Unit) (fun _ => [(0, .pointer (some ⟨g, 0, none⟩)), (1, .int .i64 b), (6, .bool (findG x.hitsG 3).isSome), (9, .int .i64 x.nErase)]) (fun _ => St F w [({ x.tick with off := (findG x.hitsG 3).isSome } : DcG).hd g, x.hds, x.bst, x.mks, x.wns]) (fun _ => (eraN x.abs.hits x.pages) = (clampN x.nErase x.pages, if (findG x.hitsG 3).isSome = true then 109 else 0)) ?_ ?_
        · skip
          refine CW.seq ?_
          refine CW.reg [0] rfl ?_
          refine s_mv 47 rfl rfl ?_
          refine SX.next ?_
          refine CW.cond rfl (fun hct => ?_) (fun hct => ?_)
          · skip
            obtain ⟨f, hf⟩ := Option.isSome_iff_exists.1 hct
            have hly := deraN_cut hf
            have hne : x.nErase = f.n := by unfold DcG.nErase; rw [hf]
            refine CW.seq ?_
            refine CW.reg [0, 1, 2, 3] rfl ?_
            refine s_mv 48 rfl rfl ?_
            refine s_nil 49 rfl rfl ?_
            refine s_fa 50 rfl rfl ?_
            refine s_stB 0 rfl rfl rfl rfl rfl (by show 9 < 11; decide) (fun _ _ => trivial) ?_
            refine SX.next ?_
            refine CW.reg [0, 1, 2] rfl ?_
            refine s_fa 51 rfl rfl ?_
            refine s_ldB 52 6 rfl rfl rfl (v := .int .i64 f.n) (by rw [hf]; rfl) ?_
            refine s_as 9 rfl rfl ?_
            refine SX.end_ ?_
            exact KN.join () ⟨rfl, rfl, rfl, by rw [hne]; rfl, trivial⟩ (fun _ h => by
              have h1 := h.pick [0, 0, 0, 0, 0] rfl
              rw [hct]
              exact h1) (by rw [if_pos hct]; exact hly)
          · skip
            have hf3 : findG x.hitsG 3 = none := by
              cases hh : findG x.hitsG 3 with
              | none => rfl
              | some f => rw [hh] at hct; cases hct
            refine CW.seq ?_
            refine CW.reg [0] rfl ?_
            refine s_mv 53 rfl rfl ?_
            refine SX.next ?_
            refine CW.cond rfl (fun hfl2 => ?_) (fun hfl2 => ?_)
            · skip
              obtain ⟨f, hf⟩ := Option.isSome_iff_exists.1 hfl2
              have hly := deraN_fail hf3 hf
              refine CW.seq ?_
              refine CW.reg [0] rfl ?_
              refine s_as 4 rfl rfl ?_
              refine SX.next ?_
              refine CW.ret ?_
              exact KN.ret (rs := [.tmp 4]) Tryd.results35 rfl (fun w_ hw => by
  obtain ⟨q1, q2⟩ := der_ok hz0 hbi hba (r := (0, 111)) hly (q := bk.pages) (wn := bk.worn) rfl rfl
  have e : ({ x.tick with off := (findG x.hitsG 3).isSome, blocks := x.blocks.set i { bk with pages := bk.pages, worn := bk.worn } } : DcG) = x.tick := by
    rw [hf3]
    have ho : x.tick.off = false := hof
    have hb : x.blocks.set i { bk with pages := bk.pages, worn := bk.worn } = x.blocks := List.set_eq_self hbk
    rw [hb]
    show ({ x.tick with off := false } : DcG) = _
    rw [← ho]
  rw [e] at q2
  exact ⟨x.tick, by rw [q1]; rfl, ⟨q2, ⟨rfl, rfl, rfl⟩⟩, (hw.pick [0, 0, 0, 0, 0] rfl).docC (x := x.tick)⟩)
            · skip
              have hf2 : findG x.hitsG 2 = none := by
                cases hh : findG x.hitsG 2 with
                | none => rfl
                | some f => rw [hh] at hfl2; cases hfl2
              have hly := deraN_all (by omega) hf3 hf2
              have hne : x.nErase = x.pages := by unfold DcG.nErase; rw [hf3]
              refine CW.skip ?_
              exact KN.join () ⟨rfl, rfl, rfl, by rw [hne]; rfl, trivial⟩ (fun _ h => by
                have h1 := h.pick [0, 0, 0, 0, 0] rfl
                have e : ({ x.tick with off := (findG x.hitsG 3).isSome } : DcG) = x.tick := by
                  rw [hf3]
                  have ho : x.tick.off = false := hof
                  show ({ x.tick with off := false } : DcG) = _
                  rw [← ho]
                rw [e]
                exact h1) (by rw [if_neg (by rw [hct]; decide)]; exact hly)
        · skip
          intro _ hly
          have hnle : (clampN x.nErase x.pages) ≤ bk.pages.length := by have h1 := clampN_le (n := x.nErase) (size := x.pages); omega
          refine CW.cut (G := List DpG) (fun _ => [(0, .pointer (some ⟨g, 0, none⟩)), (1, .int .i64 b), (6, .bool (findG x.hitsG 3).isSome), (9, .int .i64 x.nErase)]) (fun q => St F w [own 67 3 bk.A q.length bk.c (q.flatMap DpG.row), starA (q.map DpG.dat), starA ((x.blocks.map DbG.dat).eraseIdx i), ({ x.tick with off := (findG x.hitsG 3).isSome } : DcG).hd g, x.hds, x.mks, x.wns]) (fun q => q.map DpG.abs = List.replicate (clampN x.nErase x.pages) (PgS.bare sz) ++ (bk.pages.map DpG.abs).drop (clampN x.nErase x.pages)) ?_ ?_
          · skip
            refine CW.seq ?_
            refine CW.pre (C' := St F w [bk.rows, starA (bk.pages.map DpG.dat), starA ((x.blocks.map DbG.dat).eraseIdx i), ({ x.tick with off := (findG x.hitsG 3).isSome } : DcG).hd g, x.hds, x.mks, x.wns]) (fun _ h => (h.pick [2, 0, 0, 0, 0] rfl).dbO hbk) ?_
            refine CW.reg [0] rfl ?_
            refine s_as 10 rfl rfl ?_
            refine SX.next ?_
            refine CW.block ?_
            refine CW.loop (G := Nat × List DpG) (fun z => [(0, .pointer (some ⟨g, 0, none⟩)), (1, .int .i64 b), (6, .bool (findG x.hitsG 3).isSome), (9, .int .i64 x.nErase), (10, .int .i64 (z.1 : Nat))]) (fun z => St F w [own 67 3 bk.A z.2.length bk.c (z.2.flatMap DpG.row), starA (z.2.map DpG.dat), starA ((x.blocks.map DbG.dat).eraseIdx i), ({ x.tick with off := (findG x.hitsG 3).isSome } : DcG).hd g, x.hds, x.mks, x.wns]) (fun z => z.1 ≤ (clampN x.nErase x.pages) ∧ z.2.map DpG.abs = List.replicate z.1 (PgS.bare sz) ++ (bk.pages.map DpG.abs).drop z.1) (fun z => (clampN x.nErase x.pages) - z.1) (0, bk.pages) ⟨rfl, rfl, rfl, rfl, rfl, trivial⟩ (fun _ h => h) ⟨Nat.zero_le _, rfl⟩ ?_
            rintro ⟨j, q⟩ ⟨hj, hq⟩
            simp only at hj hq
            dsimp only
            have hql := dbare_len hq (by omega)
            refine CW.seq ?_
            refine CW.seq ?_
            refine CW.reg [0, 1, 2, 3, 4, 5, 6, 7, 8, 9, 10] rfl ?_
            refine s_mv 54 rfl rfl ?_
            refine s_mv 55 rfl rfl ?_
            refine s_nil 56 rfl rfl ?_
            refine s_fa 57 rfl rfl ?_
            refine s_ld 58 rfl rfl (v := .int .i64 x.pages) (fun _ hw => hw.blkCell (i := 3) (j := 1) rfl rfl) ?_
            refine s_lt 59 rfl rfl rfl rfl ?_
            refine s_mv 60 rfl rfl ?_
            refine SX.bool 60 rfl (fun hb => ?_) (fun hb => ?_)
            · skip
              have hj1 := of_decide_eq_true hb
              refine s_mv 61 rfl rfl ?_
              refine s_mv 62 rfl rfl ?_
              refine s_lt 63 rfl rfl rfl rfl ?_
              refine s_pickT 64 rfl rfl rfl ?_
              refine SX.next ?_
              refine CW.test rfl (fun hj2 => ?_) (fun hj2 => ?_)
              · skip
                have hjl : j < (clampN x.nErase x.pages) := by unfold clampN; omega
                have hjq : j < q.length := by omega
                refine CW.skip ?_
                refine KN.code ?_
                refine CW.seq ?_
                refine CW.block ?_
                refine CW.regD (.st true 0 (.st true 1 (.st true 2 (.st true 3 (.st true 4 (.st true 5 (.st true 6 (.st true 7 (.st true 8 (.st false 9 (.st false 10 (.st true 11 (.st false 12 .done))))))))))))) (St F w [({ x.tick with off := (findG x.hitsG 3).isSome } : DcG).hd g, x.hds]) mixed (by kernel_rfl) (fun _ h => h.drew) (fun _ h => h.pick [3, 3] rfl) ?_
                refine s_mv 67 rfl rfl ?_
                refine s_nil 68 rfl rfl ?_
                refine s_fa 69 rfl rfl ?_
                refine s_ldS 70 rfl rfl (v := .slice x.A x.blocks.length x.c) (fun _ hw => hw.blkCell (i := 0) (j := 4) rfl rfl) ?_
                refine s_mv 71 rfl rfl ?_
                refine s_iaV 72 i (fun w hw => (hw.has (i := 4) rfl).of_own) rfl rfl rfl hbi hil ?_
                refine s_ldVS 73 (fun w hw => (hw.has (i := 1) rfl).of_own) rfl rfl (hdr_at1 hbk) (by omega) ?_
                refine s_mv 74 rfl rfl ?_
                refine s_mv 75 rfl rfl ?_
                refine s_call 76 rfl rfl rfl rfl (fun w hw => dempty_spec g sz w (hw.blkCell (i := 3) (j := 2) rfl (by rw [← hsz]; rfl)) (by omega)) (fun _ h => h.pick [3, 3] rfl) (fun zo hzo => ?_)
                refine s_build 77 rfl rfl (cells := #[.slice zo.1 (List.replicate sz 255).length zo.2, .bool false, .slice none 0 0]) (by kernel_rfl) ?_
                rw [← hql]
                refine s_iaOS 78 1 j rfl rfl rfl rfl rfl hjq ?_
                refine s_stRow 1 (t := j * 3) (vs := [.slice zo.1 (List.replicate sz 255).length zo.2, .bool false, .slice none 0 0]) rfl rfl (by kernel_rfl) rfl rfl (by omega) (by rw [flat_len dpRow_len]; show j * 3 + 3 ≤ q.length * 3; omega) rfl (fun _ h => h.pick [4, 4] rfl) ?_
                refine SX.end_ ?_
                refine KN.blk ?_
                refine KN.code ?_
                refine CW.reg [0, 1, 2] rfl ?_
                refine s_mv 65 rfl rfl ?_
                refine s_add 66 rfl rfl rfl (r := ((j + 1 : Nat) : Int)) (w64 (by omega)) ?_
                refine s_as 10 rfl rfl ?_
                refine SX.end_ ?_
                exact KN.back (j + 1, q.set j (⟨zo.1, zo.2, List.replicate sz 255, false, none, 0, []⟩ : DpG)) ⟨rfl, rfl, rfl, rfl, rfl, trivial⟩ (fun _ h => by
                  have h1 := h.pick [0, 1, 0, 0, 0, 0, 0, 0] rfl
                  have h2 := h1.begin_ 5 1
                  have h3 := h2.pick [1, 0, 0, 0, 0, 0, 0, 0, 0] rfl
                  have h4 := St.close_ [(⟨zo.1, zo.2, List.replicate sz 255, false, none, 0, []⟩ : DpG).own1, (⟨zo.1, zo.2, List.replicate sz 255, false, none, 0, []⟩ : DpG).own2] h3
                  have h5 := h4.pick [1, 0, 0, 0, 0, 0, 0, 0] rfl
                  have h6 := St.starPut (A := (q[j]).dat) (A' := (⟨zo.1, zo.2, List.replicate sz 255, false, none, 0, []⟩ : DpG).dat) (i := j) (by rw [List.getElem?_map, List.getElem?_eq_getElem hjq]; rfl) h5
                  rw [← List.map_set] at h6
                  have e1 := flat_row (row := DpG.row) dpRow_len hjq (⟨zo.1, zo.2, List.replicate sz 255, false, none, 0, []⟩ : DpG)
                  have h7 := h6.pick [1, 0, 0, 0, 0, 0, 0] rfl
                  simp only [List.length_set]
                  rw [e1]
                  exact h7) ⟨by simp only; omega, by simp only; exact dbare_next hq (by omega) rfl⟩ (by simp only; omega)
              · skip
                have hje : j = (clampN x.nErase x.pages) := by unfold clampN at hj ⊢; omega
                subst hje
                refine CW.exit rfl ?_
                exact KN.join q ⟨rfl, rfl, rfl, rfl, trivial⟩ (fun _ h => h) hq
            · skip
              have hj1 := of_decide_eq_false hb
              have hje : j = (clampN x.nErase x.pages) := by unfold clampN at hj ⊢; omega
              subst hje
              refine SX.skip rfl ?_
              refine SX.skip rfl ?_
              refine SX.skip rfl ?_
              refine s_pickF 64 rfl rfl rfl ?_
              refine SX.next ?_
              refine CW.condF rfl ?_
              refine CW.exit rfl ?_
              exact KN.join q ⟨rfl, rfl, rfl, rfl, trivial⟩ (fun _ h => h) hq
          · skip
            intro q hq
            have hql := dbare_len hq hnle
            refine CW.seq ?_
            refine CW.seq ?_
            refine CW.reg [0] rfl ?_
            refine s_mv 79 rfl rfl ?_
            refine SX.next ?_
            refine CW.cond rfl (fun hct => ?_) (fun hct => ?_)
            · skip
              rw [if_pos hct] at hly
              refine CW.seq ?_
              refine CW.reg [0] rfl ?_
              refine s_as 4 rfl rfl ?_
              refine SX.next ?_
              refine CW.ret ?_
              exact KN.ret (rs := [.tmp 4]) Tryd.results35 rfl (fun w_ hw => by
  obtain ⟨q1, q2⟩ := der_ok hz0 hbi hba (r := ((clampN x.nErase x.pages), 109)) hly (q := q) (wn := bk.worn) (by rw [hsz, Int.toNat_natCast]; exact hq) (by rw [if_neg (show ¬ (109 : Int) = 0 by decide)])
  refine ⟨({ x.tick with off := (findG x.hitsG 3).isSome, blocks := x.blocks.set i ({ bk with pages := q, worn := bk.worn } : DbG) } : DcG), by rw [q1]; rfl, ⟨q2, ⟨rfl, rfl, rfl⟩⟩, ?_⟩
  have h3 := St.dbI (b := ({ bk with pages := q, worn := bk.worn } : DbG)) (bs := x.blocks) hil (hw.pick [0, 0, 0, 0, 0, 0, 0] rfl)
  have h4 : St F w [({ x.tick with off := (findG x.hitsG 3).isSome, blocks := x.blocks.set i ({ bk with pages := q, worn := bk.worn } : DbG) } : DcG).hd g, ({ x.tick with off := (findG x.hitsG 3).isSome, blocks := x.blocks.set i ({ bk with pages := q, worn := bk.worn } : DbG) } : DcG).hds, ({ x.tick with off := (findG x.hitsG 3).isSome, blocks := x.blocks.set i ({ bk with pages := q, worn := bk.worn } : DbG) } : DcG).bst, ({ x.tick with off := (findG x.hitsG 3).isSome, blocks := x.blocks.set i ({ bk with pages := q, worn := bk.worn } : DbG) } : DcG).mks, ({ x.tick with off := (findG x.hitsG 3).isSome, blocks := x.blocks.set i ({ bk with pages := q, worn := bk.worn } : DbG) } : DcG).wns] w_ := by
    have e3 : ({ x.tick with off := (findG x.hitsG 3).isSome, blocks := x.blocks.set i ({ bk with pages := q, worn := bk.worn } : DbG) } : DcG).hd g = ({ x.tick with off := (findG x.hitsG 3).isSome } : DcG).hd g := by unfold DcG.hd DcG.cells; simp only [List.length_set]; rfl
    have e4 : ({ x.tick with off := (findG x.hitsG 3).isSome, blocks := x.blocks.set i ({ bk with pages := q, worn := bk.worn } : DbG) } : DcG).hds = x.hds := by
      unfold DcG.hds
      simp only [List.length_set]
      congr 1
      exact map_keep hbk (by unfold DbG.hdr; simp only [hql])
    have e5 : ({ x.tick with off := (findG x.hitsG 3).isSome, blocks := x.blocks.set i ({ bk with pages := q, worn := bk.worn } : DbG) } : DcG).mks = x.mks := by
      unfold DcG.mks
      simp only [List.length_set]
      congr 1
      exact map_keep hbk rfl
    have e6 : ({ x.tick with off := (findG x.hitsG 3).isSome, blocks := x.blocks.set i ({ bk with pages := q, worn := bk.worn } : DbG) } : DcG).wns = own 3 1 x.wA x.blocks.length x.wc (x.blocks.map wnV) := by
      unfold DcG.wns
      simp only [List.length_set]
      congr 1
      exact map_keep hbk rfl
    rw [e3, e4, e5, e6]
    exact h3.pick [1, 1, 0, 0, 0] rfl
  exact h4.docC)
            · skip
              rw [if_neg (by rw [hct]; decide)] at hly
              refine CW.skip ?_
              refine KN.code ?_
              refine CW.seq ?_
              refine CW.regD (.st true 0 (.st true 1 (.st true 2 (.st true 3 (.st true 4 (.st true 5 (.st true 6 (.st true 7 (.st true 8 (.st true 9 (.st true 10 (.st false 11 (.st true 12 (.st true 13 (.st false 14 .done))))))))))))))) (St F w [({ x.tick with off := (findG x.hitsG 3).isSome } : DcG).hd g]) mixed (by kernel_rfl) (fun _ h => h.drew) (fun _ h => h.pick [3] rfl) ?_
              refine s_mv 80 rfl rfl ?_
              refine s_nil 81 rfl rfl ?_
              refine s_fa 82 rfl rfl ?_
              refine s_ldS 83 rfl rfl (v := .slice x.wA x.blocks.length x.wc) (fun _ hw => hw.blkCell (i := 0) (j := 6) rfl rfl) ?_
              refine s_mv 84 rfl rfl ?_
              refine s_mv 85 rfl rfl ?_
              refine s_nil 86 rfl rfl ?_
              refine s_fa 87 rfl rfl ?_
              refine s_ldS 88 rfl rfl (v := .slice x.wA x.blocks.length x.wc) (fun _ hw => hw.blkCell (i := 0) (j := 6) rfl rfl) ?_
              refine s_mv 89 rfl rfl ?_
              refine s_iaO 90 6 i rfl rfl rfl rfl hbi hil ?_
              refine s_ldO 91 6 rfl rfl rfl (wn_at hbk) ?_
              refine s_add 92 rfl rfl rfl (r := wr (bk.worn + 1)) rfl ?_
              refine s_iaO 93 6 i rfl rfl rfl rfl hbi hil ?_
              refine s_stO 6 rfl rfl rfl rfl rfl hil (fun _ h => h.pick [3] rfl) ?_
              refine SX.next ?_
              refine CW.seq ?_
              refine CW.reg [0] rfl ?_
              refine s_as 4 rfl rfl ?_
              refine SX.next ?_
              refine CW.ret ?_
              exact KN.ret (rs := [.tmp 4]) Tryd.results35 rfl (fun w_ hw => by
  obtain ⟨q1, q2⟩ := der_ok hz0 hbi hba (r := ((clampN x.nErase x.pages), 0)) hly (q := q) (wn := wr (bk.worn + 1)) (by rw [hsz, Int.toNat_natCast]; exact hq) (by rw [if_pos rfl])
  refine ⟨({ x.tick with off := (findG x.hitsG 3).isSome, blocks := x.blocks.set i ({ bk with pages := q, worn := wr (bk.worn + 1) } : DbG) } : DcG), by rw [q1]; rfl, ⟨q2, ⟨rfl, rfl, rfl⟩⟩, ?_⟩
  have h3 := St.dbI (b := ({ bk with pages := q, worn := wr (bk.worn + 1) } : DbG)) (bs := x.blocks) hil (hw.pick [0, 0, 0, 0, 0, 0, 0] rfl)
  have h4 : St F w [({ x.tick with off := (findG x.hitsG 3).isSome, blocks := x.blocks.set i ({ bk with pages := q, worn := wr (bk.worn + 1) } : DbG) } : DcG).hd g, ({ x.tick with off := (findG x.hitsG 3).isSome, blocks := x.blocks.set i ({ bk with pages := q, worn := wr (bk.worn + 1) } : DbG) } : DcG).hds, ({ x.tick with off := (findG x.hitsG 3).isSome, blocks := x.blocks.set i ({ bk with pages := q, worn := wr (bk.worn + 1) } : DbG) } : DcG).bst, ({ x.tick with off := (findG x.hitsG 3).isSome, blocks := x.blocks.set i ({ bk with pages := q, worn := wr (bk.worn + 1) } : DbG) } : DcG).mks, ({ x.tick with off := (findG x.hitsG 3).isSome, blocks := x.blocks.set i ({ bk with pages := q, worn := wr (bk.worn + 1) } : DbG) } : DcG).wns] w_ := by
    have e3 : ({ x.tick with off := (findG x.hitsG 3).isSome, blocks := x.blocks.set i ({ bk with pages := q, worn := wr (bk.worn + 1) } : DbG) } : DcG).hd g = ({ x.tick with off := (findG x.hitsG 3).isSome } : DcG).hd g := by unfold DcG.hd DcG.cells; simp only [List.length_set]; rfl
    have e4 : ({ x.tick with off := (findG x.hitsG 3).isSome, blocks := x.blocks.set i ({ bk with pages := q, worn := wr (bk.worn + 1) } : DbG) } : DcG).hds = x.hds := by
      unfold DcG.hds
      simp only [List.length_set]
      congr 1
      exact map_keep hbk (by unfold DbG.hdr; simp only [hql])
    have e5 : ({ x.tick with off := (findG x.hitsG 3).isSome, blocks := x.blocks.set i ({ bk with pages := q, worn := wr (bk.worn + 1) } : DbG) } : DcG).mks = x.mks := by
      unfold DcG.mks
      simp only [List.length_set]
      congr 1
      exact map_keep hbk rfl
    have e6 : ({ x.tick with off := (findG x.hitsG 3).isSome, blocks := x.blocks.set i ({ bk with pages := q, worn := wr (bk.worn + 1) } : DbG) } : DcG).wns = own 3 1 x.wA x.blocks.length x.wc ((x.blocks.map wnV).set i (.int .i64 (wr (bk.worn + 1)))) := by
      unfold DcG.wns
      simp only [List.length_set]
      congr 1
      rw [List.map_set]
      rfl
    rw [e3, e4, e5, e6]
    exact h3.pick [1, 1, 0, 0, 0] rfl
  exact h4.docC)
end Go.Proofs.YtcapijdokbkgaaaDoor
end
section
/- The document's chip: new ones. Conditions: what is handed in is read where it lies. -/
namespace Go.Proofs.YtcapijdokbkgaaaDoor
open Go Go.Sx Go.Fm
set_option maxRecDepth 100000
def DpG.nul : DpG := ⟨none, 0, [], false, none, 0, []⟩
theorem DpG.nul_dat (w : World) (F : Nat → Prop) (w₀ : World) (L : List Atom) (h : St F w₀ L w) : St F w₀ (DpG.nul.dat :: L) w := by
  have h1 := (h.begin_ 5 1).begin_ 5 1
  exact St.close_ [DpG.nul.own1, DpG.nul.own2] h1
structure NwG where
  A : Option Addr
  c : Nat
  bs : List DbG
theorem append_at {l : List Value} {v : Value} {n : Nat} (h : l.length = n) : (l ++ [v])[n * 1]? = some v := by
  subst h
  rw [Nat.mul_one, List.getElem?_append_right (Nat.le_refl _), Nat.sub_self]
  rfl
theorem rep_append {α β : Type} {f : α → β} {xs : List α} {a : α} {b : β} (h : xs.map f = List.replicate xs.length b) (ha : f a = b) : (xs ++ [a]).map f = List.replicate (xs ++ [a]).length b := by
  rw [List.map_append, h, List.length_append, List.length_singleton, List.replicate_succ', List.map_singleton, ha]

set_option maxHeartbeats 3200000 in

theorem dnew_spec (nb np sz lv : Nat) (mA : Option Addr) (mc : Nat) (ms : List Int) (pA : Option Addr) (pc : Nat) (pl : List FtG) (w : World) (h1 : 1 ≤ nb ∧ nb ≤ 64) (h2 : 1 ≤ np ∧ np ≤ 64) (h3 : 1 ≤ sz ∧ sz ≤ 4096) (_h4 : 1 ≤ lv ∧ lv ≤ 8) (hM : Has (sl 1 mA ms.length (ints .i64 ms)) w) (hml : ms.length ≤ 1000000) (hms : ∀ m ∈ ms, 0 ≤ m ∧ m < (nb : Int)) : SpecX Tryd.prog 30 [.int .i64 (nb : Nat), .int .i64 (np : Nat), .int .i64 (sz : Nat), .int .i64 (lv : Nat), .slice mA ms.length mc, .slice pA pl.length pc] w (X := Nat × DcG) (fun z => .pointer (some ⟨z.1, 0, none⟩)) (fun z => z.2.abs = ChS.new nb np sz lv ms (pl.map FtG.abs) ∧ z.2.pA = pA ∧ z.2.pc = pc ∧ z.2.plan = pl) (fun z => [docA z.1 z.2]) := by
  refine spec_of Tryd.func30 rfl Tryd.ntmps30 rfl ?_
  refine CW.seq ?_
  refine CW.reg [0] rfl ?_
  refine s_as 12 rfl rfl ?_
  refine SX.next ?_
  refine CW.cut (G := Nat × Nat × Nat) (fun z => [(0, .int .i64 (nb : Nat)), (1, .int .i64 (np : Nat)), (4, .slice mA ms.length mc), (13, .pointer (some ⟨z.1, 0, none⟩))]) (fun z => Sto w [blk z.1 72 #[.int .i64 (nb : Nat), .int .i64 (np : Nat), .int .i64 (sz : Nat), .int .i64 (lv : Nat), .slice none 0 0, .slice (some ⟨z.2.1, 0, none⟩) nb nb, .slice (some ⟨z.2.2, 0, none⟩) nb nb, .slice pA pl.length pc, .int .i64 0, .bool false, .int .i64 0], blk z.2.1 4 (List.replicate nb (.bool false)).toArray, blk z.2.2 3 (List.replicate nb (.int .i64 0)).toArray]) (fun _ => True) ?_ ?_
  · skip
    refine CW.regD (.st true 0 (.st true 1 (.st true 2 (.st true 3 (.st true 4 (.st true 6 (.st true 8 (.alt 5 (.st false 7 (.st false 9 (.st false 10 (.st true 11 .done)))) (.st false 7 (.st false 5 (.st false 9 (.st false 10 (.st true 11 .done))))))))))))) (Sto w []) mixed (by kernel_rfl) (fun _ h => h.drew) (fun _ h => h) ?_
    refine s_mv 17 rfl rfl ?_
    refine s_mv 18 rfl rfl ?_
    refine s_mv 19 rfl rfl ?_
    refine s_mv 20 rfl rfl ?_
    refine s_mv 21 rfl rfl ?_
    refine s_mv 23 rfl rfl ?_
    refine s_mv 25 rfl rfl ?_
    refine SX.alt ?_ ?_
    · skip
      refine s_make 22 nb rfl rfl rfl rfl rfl (by omega) (fun _ h => h.pick [] rfl) (fun gM => ?_)
      refine s_make 24 nb rfl rfl rfl rfl rfl (by omega) (fun _ h => h.pick [] rfl) (fun gW => ?_)
      refine s_build 26 rfl rfl (cells := #[.int .i64 (nb : Nat), .int .i64 (np : Nat), .int .i64 (sz : Nat), .int .i64 (lv : Nat), .slice none 0 0, .slice (some ⟨gM, 0, none⟩) nb nb, .slice (some ⟨gW, 0, none⟩) nb nb, .slice pA pl.length pc, .int .i64 0, .bool false, .int .i64 0]) (by kernel_rfl) ?_
      refine s_box 27 rfl rfl (fun _ h => h.pick [] rfl) (fun g => ?_)
      refine s_as 13 rfl rfl ?_
      refine SX.end_ ?_
      exact KN.join (g, gM, gW) ⟨rfl, rfl, rfl, rfl, trivial⟩ (fun _ h => h.pick [0, 1, 0] rfl) trivial
    · skip
      refine s_make 24 nb rfl rfl rfl rfl rfl (by omega) (fun _ h => h.pick [] rfl) (fun gW => ?_)
      refine s_make 22 nb rfl rfl rfl rfl rfl (by omega) (fun _ h => h.pick [] rfl) (fun gM => ?_)
      refine s_build 26 rfl rfl (cells := #[.int .i64 (nb : Nat), .int .i64 (np : Nat), .int .i64 (sz : Nat), .int .i64 (lv : Nat), .slice none 0 0, .slice (some ⟨gM, 0, none⟩) nb nb, .slice (some ⟨gW, 0, none⟩) nb nb, .slice pA pl.length pc, .int .i64 0, .bool false, .int .i64 0]) (by kernel_rfl) ?_
      refine s_box 27 rfl rfl (fun _ h => h.pick [] rfl) (fun g => ?_)
      refine s_as 13 rfl rfl ?_
      refine SX.end_ ?_
      exact KN.join (g, gM, gW) ⟨rfl, rfl, rfl, rfl, trivial⟩ (fun _ h => h.pick [0, 0, 0] rfl) trivial
  · skip
    rintro ⟨g, gM, gW⟩ _
    dsimp only
    refine CW.seq ?_
    refine CW.seq ?_
    refine CW.reg [0] rfl ?_
    refine s_as 14 rfl rfl ?_
    refine SX.next ?_
    refine CW.block ?_
    refine CW.loop (G := NwG) (fun z => [(0, .int .i64 (nb : Nat)), (1, .int .i64 (np : Nat)), (4, .slice mA ms.length mc), (13, .pointer (some ⟨g, 0, none⟩)), (14, .int .i64 (z.bs.length : Nat))]) (fun z => Sto w [blk g 72 #[.int .i64 (nb : Nat), .int .i64 (np : Nat), .int .i64 (sz : Nat), .int .i64 (lv : Nat), .slice z.A z.bs.length z.c, .slice (some ⟨gM, 0, none⟩) nb nb, .slice (some ⟨gW, 0, none⟩) nb nb, .slice pA pl.length pc, .int .i64 0, .bool false, .int .i64 0], own 68 1 z.A z.bs.length z.c (z.bs.map DbG.hdr), starA (z.bs.map DbG.dat), blk gM 4 (List.replicate nb (.bool false)).toArray, blk gW 3 (List.replicate nb (.int .i64 0)).toArray]) (fun z => z.bs.length ≤ nb ∧ z.bs.map DbG.abs = List.replicate z.bs.length (BkS.fresh np sz)) (fun z => nb - z.bs.length) ⟨none, 0, []⟩ ⟨rfl, rfl, rfl, rfl, rfl, trivial⟩ (fun _ h => ((h.begin_ 68 1).starNil).pick [2, 1, 0, 0, 0] rfl) ⟨Nat.zero_le _, rfl⟩ ?_
    rintro ⟨A, c, bs⟩ ⟨hi, hbs⟩
    simp only at hi hbs
    dsimp only
    refine CW.seq ?_
    refine CW.seq ?_
    refine CW.reg [0, 1, 2] rfl ?_
    refine s_mv 28 rfl rfl ?_
    refine s_mv 29 rfl rfl ?_
    refine s_lt 30 rfl rfl rfl rfl ?_
    refine SX.next ?_
    refine CW.test rfl (fun hc => ?_) (fun hc => ?_)
    · skip
      have hil : bs.length < nb := by omega
      refine CW.skip ?_
      refine KN.code ?_
      refine CW.seq ?_
      refine CW.block ?_
      refine CW.seq ?_
      refine CW.regD (.st true 0 (.st true 1 (.st true 2 (.st true 3 (.st true 5 (.alt 4 (.st false 6 (.st false 7 (.st false 8 (.st true 9 (.st true 10 (.st false 11 .done)))))) (.st false 6 (.alt 4 (.st false 7 (.st false 8 (.st true 9 (.st true 10 (.st false 11 .done))))) (.st false 7 (.st false 4 (.st false 8 (.st true 9 (.st true 10 (.st false 11 .done)))))))))))))) (Sto w []) mixed (by kernel_rfl) (fun _ h => h.drew) (fun _ h => h.pick [] rfl) ?_
      refine s_mv 33 rfl rfl ?_
      refine s_mv 34 rfl rfl ?_
      refine s_nil 35 rfl rfl ?_
      refine s_fa 36 rfl rfl ?_
      refine s_mv 38 rfl rfl ?_
      refine SX.alt ?_ ?_
      · skip
        refine s_ld 37 rfl rfl (v := .slice A bs.length c) (fun _ hw => hw.blkCell (i := 0) (j := 4) rfl rfl) ?_
        refine s_makeR 39 np (sz := 3) (by_ := 56) (zv := .agg #[.slice none 0 0, .bool false, .slice none 0 0]) rfl rfl rfl rfl rfl (by decide) (by unfold maxLen; omega) (fun _ h => h.pick [] rfl) (fun gp => ?_)
        refine s_bsl 40 rfl rfl (cells := #[.slice (some ⟨gp, 0, none⟩) np np]) (by kernel_rfl) rfl (fun _ h => h.pick [] rfl) (fun gb => ?_)
        refine s_app 41 3 rfl rfl rfl rfl (ys := [.slice (some ⟨gp, 0, none⟩) np np]) (fun w hw => Has.cong ((hw.has (i := 0) rfl).blk_sl (m := 1) rfl) rfl) rfl rfl (by omega) (by unfold maxLen; omega) (by omega) (fun _ _ _ h => h.pick [] rfl) (fun A2 c2 hc2 => ?_)
        refine s_nil 42 rfl rfl ?_
        refine s_fa 43 rfl rfl ?_
        refine s_stB 2 rfl rfl rfl rfl rfl (by show 4 < 11; decide) (fun _ h => h.pick [] rfl) ?_
        refine SX.next ?_
        refine CW.seq ?_
        refine CW.pre (C' := Sto w [own 67 3 (some ⟨gp, 0, none⟩) np np ((List.replicate np DpG.nul).flatMap DpG.row), starA ((List.replicate np DpG.nul).map DpG.dat), blk g 72 #[.int .i64 (nb : Nat), .int .i64 (np : Nat), .int .i64 (sz : Nat), .int .i64 (lv : Nat), .slice A2 (bs.length + 1) c2, .slice (some ⟨gM, 0, none⟩) nb nb, .slice (some ⟨gW, 0, none⟩) nb nb, .slice pA pl.length pc, .int .i64 0, .bool false, .int .i64 0], own 68 1 A2 (bs.length + 1) c2 (bs.map DbG.hdr ++ [.slice (some ⟨gp, 0, none⟩) np np]), starA (bs.map DbG.dat), blk gM 4 (List.replicate nb (.bool false)).toArray, blk gW 3 (List.replicate nb (.int .i64 0)).toArray]) (fun _ h => by
          have h1 := h.pick [1, 1, 1, 1, 1, 1] rfl
          have h3 := St.many (fun L h => DpG.nul_dat _ _ _ L h) h1 np
          rw [← List.map_replicate] at h3
          rw [flat_rep (row := DpG.row) DpG.nul np]
          exact h3.pick [1, 0, 0, 0, 0, 0, 0] rfl) ?_
        refine CW.reg [0] rfl ?_
        refine s_as 15 rfl rfl ?_
        refine SX.next ?_
        refine CW.block ?_
        refine CW.loop (G := Nat × List DpG) (fun z => [(0, .int .i64 (nb : Nat)), (1, .int .i64 (np : Nat)), (4, .slice mA ms.length mc), (13, .pointer (some ⟨g, 0, none⟩)), (14, .int .i64 (bs.length : Nat)), (15, .int .i64 (z.1 : Nat))]) (fun z => Sto w [own 67 3 (some ⟨gp, 0, none⟩) np np (z.2.flatMap DpG.row), starA (z.2.map DpG.dat), blk g 72 #[.int .i64 (nb : Nat), .int .i64 (np : Nat), .int .i64 (sz : Nat), .int .i64 (lv : Nat), .slice A2 (bs.length + 1) c2, .slice (some ⟨gM, 0, none⟩) nb nb, .slice (some ⟨gW, 0, none⟩) nb nb, .slice pA pl.length pc, .int .i64 0, .bool false, .int .i64 0], own 68 1 A2 (bs.length + 1) c2 (bs.map DbG.hdr ++ [.slice (some ⟨gp, 0, none⟩) np np]), starA (bs.map DbG.dat), blk gM 4 (List.replicate nb (.bool false)).toArray, blk gW 3 (List.replicate nb (.int .i64 0)).toArray]) (fun z => z.1 ≤ np ∧ z.2.map DpG.abs = List.replicate z.1 (PgS.bare sz) ++ List.replicate (np - z.1) PgS.nul) (fun z => np - z.1) (0, (List.replicate np DpG.nul)) ⟨rfl, rfl, rfl, rfl, rfl, rfl, trivial⟩ (fun _ h => h) ⟨Nat.zero_le _, by rw [List.map_replicate]; rfl⟩ ?_
        rintro ⟨k, ps⟩ ⟨hk, hps⟩
        simp only at hk hps
        dsimp only
        have hpl := rep_len hps hk
        refine CW.seq ?_
        refine CW.seq ?_
        refine CW.reg [0, 1, 2] rfl ?_
        refine s_mv 44 rfl rfl ?_
        refine s_mv 45 rfl rfl ?_
        refine s_lt 46 rfl rfl rfl rfl ?_
        refine SX.next ?_
        refine CW.test rfl (fun hc => ?_) (fun hc => ?_)
        · skip
          have hkl : k < np := by omega
          have hkp : k < ps.length := by omega
          refine CW.skip ?_
          refine KN.code ?_
          refine CW.seq ?_
          refine CW.block ?_
          refine CW.regD (.st true 0 (.st true 1 (.st true 2 (.st true 3 (.st true 4 (.st true 5 (.st true 6 (.st true 7 (.st true 8 (.st false 9 (.st false 10 (.st true 11 (.st false 12 .done))))))))))))) (Sto w [blk g 72 #[.int .i64 (nb : Nat), .int .i64 (np : Nat), .int .i64 (sz : Nat), .int .i64 (lv : Nat), .slice A2 (bs.length + 1) c2, .slice (some ⟨gM, 0, none⟩) nb nb, .slice (some ⟨gW, 0, none⟩) nb nb, .slice pA pl.length pc, .int .i64 0, .bool false, .int .i64 0], own 68 1 A2 (bs.length + 1) c2 (bs.map DbG.hdr ++ [.slice (some ⟨gp, 0, none⟩) np np])]) mixed (by kernel_rfl) (fun _ h => h.drew) (fun _ h => h.pick [2, 2] rfl) ?_
          refine s_mv 49 rfl rfl ?_
          refine s_nil 50 rfl rfl ?_
          refine s_fa 51 rfl rfl ?_
          refine s_ldS 52 rfl rfl (v := .slice A2 (bs.length + 1) c2) (fun _ hw => hw.blkCell (i := 0) (j := 4) rfl rfl) ?_
          refine s_mv 53 rfl rfl ?_
          refine s_iaV 54 bs.length (fun w hw => (hw.has (i := 3) rfl).of_own) rfl rfl rfl rfl (by omega) ?_
          refine s_ldVS 55 (fun w hw => (hw.has (i := 1) rfl).of_own) rfl rfl (append_at (List.length_map ..)) (by omega) ?_
          refine s_mv 56 rfl rfl ?_
          refine s_mv 57 rfl rfl ?_
          refine s_call 58 rfl rfl rfl rfl (fun w hw => dempty_spec g sz w (hw.blkCell (i := 2) (j := 2) rfl rfl) (by omega)) (fun _ h => h.pick [2, 2] rfl) (fun zo hzo => ?_)
          refine s_build 59 rfl rfl (cells := #[.slice zo.1 (List.replicate sz 255).length zo.2, .bool false, .slice none 0 0]) (by kernel_rfl) ?_
          refine s_iaOS 60 1 k rfl rfl rfl rfl rfl hkl ?_
          refine s_stRow 1 (t := k * 3) (vs := [.slice zo.1 (List.replicate sz 255).length zo.2, .bool false, .slice none 0 0]) rfl rfl (by kernel_rfl) rfl rfl (by omega) (by rw [flat_len dpRow_len]; show k * 3 + 3 ≤ ps.length * 3; omega) rfl (fun _ h => h.pick [3, 3] rfl) ?_
          refine SX.end_ ?_
          refine KN.blk ?_
          refine KN.code ?_
          refine CW.reg [0, 1, 2] rfl ?_
          refine s_mv 47 rfl rfl ?_
          refine s_add 48 rfl rfl rfl (r := ((k + 1 : Nat) : Int)) (w64 (by omega)) ?_
          refine s_as 15 rfl rfl ?_
          refine SX.end_ ?_
          exact KN.back (k + 1, ps.set k (⟨zo.1, zo.2, List.replicate sz 255, false, none, 0, []⟩ : DpG)) ⟨rfl, rfl, rfl, rfl, rfl, rfl, trivial⟩ (fun _ h => by
            have h1 := h.pick [0, 1, 0, 0, 0, 0, 0, 0] rfl
            have h2 := h1.begin_ 5 1
            have h3 := h2.pick [1, 0, 0, 0, 0, 0, 0, 0, 0] rfl
            have h4 := St.close_ [(⟨zo.1, zo.2, List.replicate sz 255, false, none, 0, []⟩ : DpG).own1, (⟨zo.1, zo.2, List.replicate sz 255, false, none, 0, []⟩ : DpG).own2] h3
            have h5 := h4.pick [1, 0, 0, 0, 0, 0, 0, 0] rfl
            have h6 := St.starPut (A := (ps[k]).dat) (A' := (⟨zo.1, zo.2, List.replicate sz 255, false, none, 0, []⟩ : DpG).dat) (i := k) (by rw [List.getElem?_map, List.getElem?_eq_getElem hkp]; rfl) h5
            rw [← List.map_set] at h6
            have e1 := flat_row (row := DpG.row) dpRow_len hkp (⟨zo.1, zo.2, List.replicate sz 255, false, none, 0, []⟩ : DpG)
            have h7 := h6.pick [1, 0, 0, 0, 0, 0, 0] rfl
            simp only
            rw [e1]
            exact h7) ⟨by simp only; omega, by simp only; exact rep_next hps hkl rfl⟩ (by simp only; omega)
        · skip
          obtain rfl : np = k := by omega
          rw [Nat.sub_self, List.replicate_zero, List.append_nil] at hps
          refine CW.exit rfl ?_
          refine KN.blk ?_
          refine KN.code ?_
          refine CW.reg [0, 1, 2] rfl ?_
          refine s_mv 31 rfl rfl ?_
          refine s_add 32 rfl rfl rfl (r := ((bs.length + 1 : Nat) : Int)) (w64 (by omega)) ?_
          refine s_as 14 rfl rfl ?_
          refine SX.end_ ?_
          have hl : (bs ++ [(⟨some ⟨gp, 0, none⟩, np, ps, 0, false⟩ : DbG)]).length = bs.length + 1 := by rw [List.length_append]; rfl
          exact KN.back ⟨A2, c2, (bs ++ [(⟨some ⟨gp, 0, none⟩, np, ps, 0, false⟩ : DbG)])⟩ ⟨rfl, rfl, rfl, rfl, by show some (Value.int .i64 ((bs.length + 1 : Nat) : Int)) = some (.int .i64 (((bs ++ [(⟨some ⟨gp, 0, none⟩, np, ps, 0, false⟩ : DbG)]).length : Nat) : Int)); rw [hl], trivial⟩ (fun w_ h => by
            have h0 : Sto w [(⟨some ⟨gp, 0, none⟩, np, ps, 0, false⟩ : DbG).rows, starA ((⟨some ⟨gp, 0, none⟩, np, ps, 0, false⟩ : DbG).pages.map DpG.dat), blk g 72 #[.int .i64 (nb : Nat), .int .i64 (np : Nat), .int .i64 (sz : Nat), .int .i64 (lv : Nat), .slice A2 (bs.length + 1) c2, .slice (some ⟨gM, 0, none⟩) nb nb, .slice (some ⟨gW, 0, none⟩) nb nb, .slice pA pl.length pc, .int .i64 0, .bool false, .int .i64 0], own 68 1 A2 (bs.length + 1) c2 (bs.map DbG.hdr ++ [.slice (some ⟨gp, 0, none⟩) np np]), starA (bs.map DbG.dat), blk gM 4 (List.replicate nb (.bool false)).toArray, blk gW 3 (List.replicate nb (.int .i64 0)).toArray] w_ := by
              unfold DbG.rows
              simp only [hpl]
              exact h
            have h1 := St.close_ [(⟨some ⟨gp, 0, none⟩, np, ps, 0, false⟩ : DbG).rows, starA ((⟨some ⟨gp, 0, none⟩, np, ps, 0, false⟩ : DbG).pages.map DpG.dat)] h0
            have h2 := (h1.pick [0, 2, 0, 0, 0, 0] rfl).starPush
            simp only [hl, List.map_append, List.map_cons, List.map_nil]
            have e : (⟨some ⟨gp, 0, none⟩, np, ps, 0, false⟩ : DbG).hdr = .slice (some ⟨gp, 0, none⟩) np np := by unfold DbG.hdr; simp only [hpl]
            rw [e]
            exact h2.pick [1, 1, 0, 0, 0] rfl) ⟨by simp only; omega, by
            simp only
            exact rep_append hbs (by unfold DbG.abs BkS.fresh; simp only [hps])⟩ (by simp only; omega)
      · skip
        refine s_makeR 39 np (sz := 3) (by_ := 56) (zv := .agg #[.slice none 0 0, .bool false, .slice none 0 0]) rfl rfl rfl rfl rfl (by decide) (by unfold maxLen; omega) (fun _ h => h.pick [] rfl) (fun gp => ?_)
        refine SX.alt ?_ ?_
        · skip
          refine s_ld 37 rfl rfl (v := .slice A bs.length c) (fun _ hw => hw.blkCell (i := 1) (j := 4) rfl rfl) ?_
          refine s_bsl 40 rfl rfl (cells := #[.slice (some ⟨gp, 0, none⟩) np np]) (by kernel_rfl) rfl (fun _ h => h.pick [] rfl) (fun gb => ?_)
          refine s_app 41 3 rfl rfl rfl rfl (ys := [.slice (some ⟨gp, 0, none⟩) np np]) (fun w hw => Has.cong ((hw.has (i := 0) rfl).blk_sl (m := 1) rfl) rfl) rfl rfl (by omega) (by unfold maxLen; omega) (by omega) (fun _ _ _ h => h.pick [] rfl) (fun A2 c2 hc2 => ?_)
          refine s_nil 42 rfl rfl ?_
          refine s_fa 43 rfl rfl ?_
          refine s_stB 2 rfl rfl rfl rfl rfl (by show 4 < 11; decide) (fun _ h => h.pick [] rfl) ?_
          refine SX.next ?_
          refine CW.seq ?_
          refine CW.pre (C' := Sto w [own 67 3 (some ⟨gp, 0, none⟩) np np ((List.replicate np DpG.nul).flatMap DpG.row), starA ((List.replicate np DpG.nul).map DpG.dat), blk g 72 #[.int .i64 (nb : Nat), .int .i64 (np : Nat), .int .i64 (sz : Nat), .int .i64 (lv : Nat), .slice A2 (bs.length + 1) c2, .slice (some ⟨gM, 0, none⟩) nb nb, .slice (some ⟨gW, 0, none⟩) nb nb, .slice pA pl.length pc, .int .i64 0, .bool false, .int .i64 0], own 68 1 A2 (bs.length + 1) c2 (bs.map DbG.hdr ++ [.slice (some ⟨gp, 0, none⟩) np np]), starA (bs.map DbG.dat), blk gM 4 (List.replicate nb (.bool false)).toArray, blk gW 3 (List.replicate nb (.int .i64 0)).toArray]) (fun _ h => by
            have h1 := h.pick [1, 1, 1, 1, 1, 1] rfl
            have h3 := St.many (fun L h => DpG.nul_dat _ _ _ L h) h1 np
            rw [← List.map_replicate] at h3
            rw [flat_rep (row := DpG.row) DpG.nul np]
            exact h3.pick [1, 0, 0, 0, 0, 0, 0] rfl) ?_
          refine CW.reg [0] rfl ?_
          refine s_as 15 rfl rfl ?_
          refine SX.next ?_
          refine CW.block ?_
          refine CW.loop (G := Nat × List DpG) (fun z => [(0, .int .i64 (nb : Nat)), (1, .int .i64 (np : Nat)), (4, .slice mA ms.length mc), (13, .pointer (some ⟨g, 0, none⟩)), (14, .int .i64 (bs.length : Nat)), (15, .int .i64 (z.1 : Nat))]) (fun z => Sto w [own 67 3 (some ⟨gp, 0, none⟩) np np (z.2.flatMap DpG.row), starA (z.2.map DpG.dat), blk g 72 #[.int .i64 (nb : Nat), .int .i64 (np : Nat), .int .i64 (sz : Nat), .int .i64 (lv : Nat), .slice A2 (bs.length + 1) c2, .slice (some ⟨gM, 0, none⟩) nb nb, .slice (some ⟨gW, 0, none⟩) nb nb, .slice pA pl.length pc, .int .i64 0, .bool false, .int .i64 0], own 68 1 A2 (bs.length + 1) c2 (bs.map DbG.hdr ++ [.slice (some ⟨gp, 0, none⟩) np np]), starA (bs.map DbG.dat), blk gM 4 (List.replicate nb (.bool false)).toArray, blk gW 3 (List.replicate nb (.int .i64 0)).toArray]) (fun z => z.1 ≤ np ∧ z.2.map DpG.abs = List.replicate z.1 (PgS.bare sz) ++ List.replicate (np - z.1) PgS.nul) (fun z => np - z.1) (0, (List.replicate np DpG.nul)) ⟨rfl, rfl, rfl, rfl, rfl, rfl, trivial⟩ (fun _ h => h) ⟨Nat.zero_le _, by rw [List.map_replicate]; rfl⟩ ?_
          rintro ⟨k, ps⟩ ⟨hk, hps⟩
          simp only at hk hps
          dsimp only
          have hpl := rep_len hps hk
          refine CW.seq ?_
          refine CW.seq ?_
          refine CW.reg [0, 1, 2] rfl ?_
          refine s_mv 44 rfl rfl ?_
          refine s_mv 45 rfl rfl ?_
          refine s_lt 46 rfl rfl rfl rfl ?_
          refine SX.next ?_
          refine CW.test rfl (fun hc => ?_) (fun hc => ?_)
          · skip
            have hkl : k < np := by omega
            have hkp : k < ps.length := by omega
            refine CW.skip ?_
            refine KN.code ?_
            refine CW.seq ?_
            refine CW.block ?_
            refine CW.regD (.st true 0 (.st true 1 (.st true 2 (.st true 3 (.st true 4 (.st true 5 (.st true 6 (.st true 7 (.st true 8 (.st false 9 (.st false 10 (.st true 11 (.st false 12 .done))))))))))))) (Sto w [blk g 72 #[.int .i64 (nb : Nat), .int .i64 (np : Nat), .int .i64 (sz : Nat), .int .i64 (lv : Nat), .slice A2 (bs.length + 1) c2, .slice (some ⟨gM, 0, none⟩) nb nb, .slice (some ⟨gW, 0, none⟩) nb nb, .slice pA pl.length pc, .int .i64 0, .bool false, .int .i64 0], own 68 1 A2 (bs.length + 1) c2 (bs.map DbG.hdr ++ [.slice (some ⟨gp, 0, none⟩) np np])]) mixed (by kernel_rfl) (fun _ h => h.drew) (fun _ h => h.pick [2, 2] rfl) ?_
            refine s_mv 49 rfl rfl ?_
            refine s_nil 50 rfl rfl ?_
            refine s_fa 51 rfl rfl ?_
            refine s_ldS 52 rfl rfl (v := .slice A2 (bs.length + 1) c2) (fun _ hw => hw.blkCell (i := 0) (j := 4) rfl rfl) ?_
            refine s_mv 53 rfl rfl ?_
            refine s_iaV 54 bs.length (fun w hw => (hw.has (i := 3) rfl).of_own) rfl rfl rfl rfl (by omega) ?_
            refine s_ldVS 55 (fun w hw => (hw.has (i := 1) rfl).of_own) rfl rfl (append_at (List.length_map ..)) (by omega) ?_
            refine s_mv 56 rfl rfl ?_
            refine s_mv 57 rfl rfl ?_
            refine s_call 58 rfl rfl rfl rfl (fun w hw => dempty_spec g sz w (hw.blkCell (i := 2) (j := 2) rfl rfl) (by omega)) (fun _ h => h.pick [2, 2] rfl) (fun zo hzo => ?_)
            refine s_build 59 rfl rfl (cells := #[.slice zo.1 (List.replicate sz 255).length zo.2, .bool false, .slice none 0 0]) (by kernel_rfl) ?_
            refine s_iaOS 60 1 k rfl rfl rfl rfl rfl hkl ?_
            refine s_stRow 1 (t := k * 3) (vs := [.slice zo.1 (List.replicate sz 255).length zo.2, .bool false, .slice none 0 0]) rfl rfl (by kernel_rfl) rfl rfl (by omega) (by rw [flat_len dpRow_len]; show k * 3 + 3 ≤ ps.length * 3; omega) rfl (fun _ h => h.pick [3, 3] rfl) ?_
            refine SX.end_ ?_
            refine KN.blk ?_
            refine KN.code ?_
            refine CW.reg [0, 1, 2] rfl ?_
            refine s_mv 47 rfl rfl ?_
            refine s_add 48 rfl rfl rfl (r := ((k + 1 : Nat) : Int)) (w64 (by omega)) ?_
            refine s_as 15 rfl rfl ?_
            refine SX.end_ ?_
            exact KN.back (k + 1, ps.set k (⟨zo.1, zo.2, List.replicate sz 255, false, none, 0, []⟩ : DpG)) ⟨rfl, rfl, rfl, rfl, rfl, rfl, trivial⟩ (fun _ h => by
              have h1 := h.pick [0, 1, 0, 0, 0, 0, 0, 0] rfl
              have h2 := h1.begin_ 5 1
              have h3 := h2.pick [1, 0, 0, 0, 0, 0, 0, 0, 0] rfl
              have h4 := St.close_ [(⟨zo.1, zo.2, List.replicate sz 255, false, none, 0, []⟩ : DpG).own1, (⟨zo.1, zo.2, List.replicate sz 255, false, none, 0, []⟩ : DpG).own2] h3
              have h5 := h4.pick [1, 0, 0, 0, 0, 0, 0, 0] rfl
              have h6 := St.starPut (A := (ps[k]).dat) (A' := (⟨zo.1, zo.2, List.replicate sz 255, false, none, 0, []⟩ : DpG).dat) (i := k) (by rw [List.getElem?_map, List.getElem?_eq_getElem hkp]; rfl) h5
              rw [← List.map_set] at h6
              have e1 := flat_row (row := DpG.row) dpRow_len hkp (⟨zo.1, zo.2, List.replicate sz 255, false, none, 0, []⟩ : DpG)
              have h7 := h6.pick [1, 0, 0, 0, 0, 0, 0] rfl
              simp only
              rw [e1]
              exact h7) ⟨by simp only; omega, by simp only; exact rep_next hps hkl rfl⟩ (by simp only; omega)
          · skip
            obtain rfl : np = k := by omega
            rw [Nat.sub_self, List.replicate_zero, List.append_nil] at hps
            refine CW.exit rfl ?_
            refine KN.blk ?_
            refine KN.code ?_
            refine CW.reg [0, 1, 2] rfl ?_
            refine s_mv 31 rfl rfl ?_
            refine s_add 32 rfl rfl rfl (r := ((bs.length + 1 : Nat) : Int)) (w64 (by omega)) ?_
            refine s_as 14 rfl rfl ?_
            refine SX.end_ ?_
            have hl : (bs ++ [(⟨some ⟨gp, 0, none⟩, np, ps, 0, false⟩ : DbG)]).length = bs.length + 1 := by rw [List.length_append]; rfl
            exact KN.back ⟨A2, c2, (bs ++ [(⟨some ⟨gp, 0, none⟩, np, ps, 0, false⟩ : DbG)])⟩ ⟨rfl, rfl, rfl, rfl, by show some (Value.int .i64 ((bs.length + 1 : Nat) : Int)) = some (.int .i64 (((bs ++ [(⟨some ⟨gp, 0, none⟩, np, ps, 0, false⟩ : DbG)]).length : Nat) : Int)); rw [hl], trivial⟩ (fun w_ h => by
              have h0 : Sto w [(⟨some ⟨gp, 0, none⟩, np, ps, 0, false⟩ : DbG).rows, starA ((⟨some ⟨gp, 0, none⟩, np, ps, 0, false⟩ : DbG).pages.map DpG.dat), blk g 72 #[.int .i64 (nb : Nat), .int .i64 (np : Nat), .int .i64 (sz : Nat), .int .i64 (lv : Nat), .slice A2 (bs.length + 1) c2, .slice (some ⟨gM, 0, none⟩) nb nb, .slice (some ⟨gW, 0, none⟩) nb nb, .slice pA pl.length pc, .int .i64 0, .bool false, .int .i64 0], own 68 1 A2 (bs.length + 1) c2 (bs.map DbG.hdr ++ [.slice (some ⟨gp, 0, none⟩) np np]), starA (bs.map DbG.dat), blk gM 4 (List.replicate nb (.bool false)).toArray, blk gW 3 (List.replicate nb (.int .i64 0)).toArray] w_ := by
                unfold DbG.rows
                simp only [hpl]
                exact h
              have h1 := St.close_ [(⟨some ⟨gp, 0, none⟩, np, ps, 0, false⟩ : DbG).rows, starA ((⟨some ⟨gp, 0, none⟩, np, ps, 0, false⟩ : DbG).pages.map DpG.dat)] h0
              have h2 := (h1.pick [0, 2, 0, 0, 0, 0] rfl).starPush
              simp only [hl, List.map_append, List.map_cons, List.map_nil]
              have e : (⟨some ⟨gp, 0, none⟩, np, ps, 0, false⟩ : DbG).hdr = .slice (some ⟨gp, 0, none⟩) np np := by unfold DbG.hdr; simp only [hpl]
              rw [e]
              exact h2.pick [1, 1, 0, 0, 0] rfl) ⟨by simp only; omega, by
              simp only
              exact rep_append hbs (by unfold DbG.abs BkS.fresh; simp only [hps])⟩ (by simp only; omega)
        · skip
          refine s_bsl 40 rfl rfl (cells := #[.slice (some ⟨gp, 0, none⟩) np np]) (by kernel_rfl) rfl (fun _ h => h.pick [] rfl) (fun gb => ?_)
          refine s_ld 37 rfl rfl (v := .slice A bs.length c) (fun _ hw => hw.blkCell (i := 2) (j := 4) rfl rfl) ?_
          refine s_app 41 3 rfl rfl rfl rfl (ys := [.slice (some ⟨gp, 0, none⟩) np np]) (fun w hw => Has.cong ((hw.has (i := 0) rfl).blk_sl (m := 1) rfl) rfl) rfl rfl (by omega) (by unfold maxLen; omega) (by omega) (fun _ _ _ h => h.pick [] rfl) (fun A2 c2 hc2 => ?_)
          refine s_nil 42 rfl rfl ?_
          refine s_fa 43 rfl rfl ?_
          refine s_stB 2 rfl rfl rfl rfl rfl (by show 4 < 11; decide) (fun _ h => h.pick [] rfl) ?_
          refine SX.next ?_
          refine CW.seq ?_
          refine CW.pre (C' := Sto w [own 67 3 (some ⟨gp, 0, none⟩) np np ((List.replicate np DpG.nul).flatMap DpG.row), starA ((List.replicate np DpG.nul).map DpG.dat), blk g 72 #[.int .i64 (nb : Nat), .int .i64 (np : Nat), .int .i64 (sz : Nat), .int .i64 (lv : Nat), .slice A2 (bs.length + 1) c2, .slice (some ⟨gM, 0, none⟩) nb nb, .slice (some ⟨gW, 0, none⟩) nb nb, .slice pA pl.length pc, .int .i64 0, .bool false, .int .i64 0], own 68 1 A2 (bs.length + 1) c2 (bs.map DbG.hdr ++ [.slice (some ⟨gp, 0, none⟩) np np]), starA (bs.map DbG.dat), blk gM 4 (List.replicate nb (.bool false)).toArray, blk gW 3 (List.replicate nb (.int .i64 0)).toArray]) (fun _ h => by
            have h1 := h.pick [1, 1, 1, 1, 1, 1] rfl
            have h3 := St.many (fun L h => DpG.nul_dat _ _ _ L h) h1 np
            rw [← List.map_replicate] at h3
            rw [flat_rep (row := DpG.row) DpG.nul np]
            exact h3.pick [1, 0, 0, 0, 0, 0, 0] rfl) ?_
          refine CW.reg [0] rfl ?_
          refine s_as 15 rfl rfl ?_
          refine SX.next ?_
          refine CW.block ?_
          refine CW.loop (G := Nat × List DpG) (fun z => [(0, .int .i64 (nb : Nat)), (1, .int .i64 (np : Nat)), (4, .slice mA ms.length mc), (13, .pointer (some ⟨g, 0, none⟩)), (14, .int .i64 (bs.length : Nat)), (15, .int .i64 (z.1 : Nat))]) (fun z => Sto w [own 67 3 (some ⟨gp, 0, none⟩) np np (z.2.flatMap DpG.row), starA (z.2.map DpG.dat), blk g 72 #[.int .i64 (nb : Nat), .int .i64 (np : Nat), .int .i64 (sz : Nat), .int .i64 (lv : Nat), .slice A2 (bs.length + 1) c2, .slice (some ⟨gM, 0, none⟩) nb nb, .slice (some ⟨gW, 0, none⟩) nb nb, .slice pA pl.length pc, .int .i64 0, .bool false, .int .i64 0], own 68 1 A2 (bs.length + 1) c2 (bs.map DbG.hdr ++ [.slice (some ⟨gp, 0, none⟩) np np]), starA (bs.map DbG.dat), blk gM 4 (List.replicate nb (.bool false)).toArray, blk gW 3 (List.replicate nb (.int .i64 0)).toArray]) (fun z => z.1 ≤ np ∧ z.2.map DpG.abs = List.replicate z.1 (PgS.bare sz) ++ List.replicate (np - z.1) PgS.nul) (fun z => np - z.1) (0, (List.replicate np DpG.nul)) ⟨rfl, rfl, rfl, rfl, rfl, rfl, trivial⟩ (fun _ h => h) ⟨Nat.zero_le _, by rw [List.map_replicate]; rfl⟩ ?_
          rintro ⟨k, ps⟩ ⟨hk, hps⟩
          simp only at hk hps
          dsimp only
          have hpl := rep_len hps hk
          refine CW.seq ?_
          refine CW.seq ?_
          refine CW.reg [0, 1, 2] rfl ?_
          refine s_mv 44 rfl rfl ?_
          refine s_mv 45 rfl rfl ?_
          refine s_lt 46 rfl rfl rfl rfl ?_
          refine SX.next ?_
          refine CW.test rfl (fun hc => ?_) (fun hc => ?_)
          · skip
            have hkl : k < np := by omega
            have hkp : k < ps.length := by omega
            refine CW.skip ?_
            refine KN.code ?_
            refine CW.seq ?_
            refine CW.block ?_
            refine CW.regD (.st true 0 (.st true 1 (.st true 2 (.st true 3 (.st true 4 (.st true 5 (.st true 6 (.st true 7 (.st true 8 (.st false 9 (.st false 10 (.st true 11 (.st false 12 .done))))))))))))) (Sto w [blk g 72 #[.int .i64 (nb : Nat), .int .i64 (np : Nat), .int .i64 (sz : Nat), .int .i64 (lv : Nat), .slice A2 (bs.length + 1) c2, .slice (some ⟨gM, 0, none⟩) nb nb, .slice (some ⟨gW, 0, none⟩) nb nb, .slice pA pl.length pc, .int .i64 0, .bool false, .int .i64 0], own 68 1 A2 (bs.length + 1) c2 (bs.map DbG.hdr ++ [.slice (some ⟨gp, 0, none⟩) np np])]) mixed (by kernel_rfl) (fun _ h => h.drew) (fun _ h => h.pick [2, 2] rfl) ?_
            refine s_mv 49 rfl rfl ?_
            refine s_nil 50 rfl rfl ?_
            refine s_fa 51 rfl rfl ?_
            refine s_ldS 52 rfl rfl (v := .slice A2 (bs.length + 1) c2) (fun _ hw => hw.blkCell (i := 0) (j := 4) rfl rfl) ?_
            refine s_mv 53 rfl rfl ?_
            refine s_iaV 54 bs.length (fun w hw => (hw.has (i := 3) rfl).of_own) rfl rfl rfl rfl (by omega) ?_
            refine s_ldVS 55 (fun w hw => (hw.has (i := 1) rfl).of_own) rfl rfl (append_at (List.length_map ..)) (by omega) ?_
            refine s_mv 56 rfl rfl ?_
            refine s_mv 57 rfl rfl ?_
            refine s_call 58 rfl rfl rfl rfl (fun w hw => dempty_spec g sz w (hw.blkCell (i := 2) (j := 2) rfl rfl) (by omega)) (fun _ h => h.pick [2, 2] rfl) (fun zo hzo => ?_)
            refine s_build 59 rfl rfl (cells := #[.slice zo.1 (List.replicate sz 255).length zo.2, .bool false, .slice none 0 0]) (by kernel_rfl) ?_
            refine s_iaOS 60 1 k rfl rfl rfl rfl rfl hkl ?_
            refine s_stRow 1 (t := k * 3) (vs := [.slice zo.1 (List.replicate sz 255).length zo.2, .bool false, .slice none 0 0]) rfl rfl (by kernel_rfl) rfl rfl (by omega) (by rw [flat_len dpRow_len]; show k * 3 + 3 ≤ ps.length * 3; omega) rfl (fun _ h => h.pick [3, 3] rfl) ?_
            refine SX.end_ ?_
            refine KN.blk ?_
            refine KN.code ?_
            refine CW.reg [0, 1, 2] rfl ?_
            refine s_mv 47 rfl rfl ?_
            refine s_add 48 rfl rfl rfl (r := ((k + 1 : Nat) : Int)) (w64 (by omega)) ?_
            refine s_as 15 rfl rfl ?_
            refine SX.end_ ?_
            exact KN.back (k + 1, ps.set k (⟨zo.1, zo.2, List.replicate sz 255, false, none, 0, []⟩ : DpG)) ⟨rfl, rfl, rfl, rfl, rfl, rfl, trivial⟩ (fun _ h => by
              have h1 := h.pick [0, 1, 0, 0, 0, 0, 0, 0] rfl
              have h2 := h1.begin_ 5 1
              have h3 := h2.pick [1, 0, 0, 0, 0, 0, 0, 0, 0] rfl
              have h4 := St.close_ [(⟨zo.1, zo.2, List.replicate sz 255, false, none, 0, []⟩ : DpG).own1, (⟨zo.1, zo.2, List.replicate sz 255, false, none, 0, []⟩ : DpG).own2] h3
              have h5 := h4.pick [1, 0, 0, 0, 0, 0, 0, 0] rfl
              have h6 := St.starPut (A := (ps[k]).dat) (A' := (⟨zo.1, zo.2, List.replicate sz 255, false, none, 0, []⟩ : DpG).dat) (i := k) (by rw [List.getElem?_map, List.getElem?_eq_getElem hkp]; rfl) h5
              rw [← List.map_set] at h6
              have e1 := flat_row (row := DpG.row) dpRow_len hkp (⟨zo.1, zo.2, List.replicate sz 255, false, none, 0, []⟩ : DpG)
              have h7 := h6.pick [1, 0, 0, 0, 0, 0, 0] rfl
              simp only
              rw [e1]
              exact h7) ⟨by simp only; omega, by simp only; exact rep_next hps hkl rfl⟩ (by simp only; omega)
          · skip
            obtain rfl : np = k := by omega
            rw [Nat.sub_self, List.replicate_zero, List.append_nil] at hps
            refine CW.exit rfl ?_
            refine KN.blk ?_
            refine KN.code ?_
            refine CW.reg [0, 1, 2] rfl ?_
            refine s_mv 31 rfl rfl ?_
            refine s_add 32 rfl rfl rfl (r := ((bs.length + 1 : Nat) : Int)) (w64 (by omega)) ?_
            refine s_as 14 rfl rfl ?_
            refine SX.end_ ?_
            have hl : (bs ++ [(⟨some ⟨gp, 0, none⟩, np, ps, 0, false⟩ : DbG)]).length = bs.length + 1 := by rw [List.length_append]; rfl
            exact KN.back ⟨A2, c2, (bs ++ [(⟨some ⟨gp, 0, none⟩, np, ps, 0, false⟩ : DbG)])⟩ ⟨rfl, rfl, rfl, rfl, by show some (Value.int .i64 ((bs.length + 1 : Nat) : Int)) = some (.int .i64 (((bs ++ [(⟨some ⟨gp, 0, none⟩, np, ps, 0, false⟩ : DbG)]).length : Nat) : Int)); rw [hl], trivial⟩ (fun w_ h => by
              have h0 : Sto w [(⟨some ⟨gp, 0, none⟩, np, ps, 0, false⟩ : DbG).rows, starA ((⟨some ⟨gp, 0, none⟩, np, ps, 0, false⟩ : DbG).pages.map DpG.dat), blk g 72 #[.int .i64 (nb : Nat), .int .i64 (np : Nat), .int .i64 (sz : Nat), .int .i64 (lv : Nat), .slice A2 (bs.length + 1) c2, .slice (some ⟨gM, 0, none⟩) nb nb, .slice (some ⟨gW, 0, none⟩) nb nb, .slice pA pl.length pc, .int .i64 0, .bool false, .int .i64 0], own 68 1 A2 (bs.length + 1) c2 (bs.map DbG.hdr ++ [.slice (some ⟨gp, 0, none⟩) np np]), starA (bs.map DbG.dat), blk gM 4 (List.replicate nb (.bool false)).toArray, blk gW 3 (List.replicate nb (.int .i64 0)).toArray] w_ := by
                unfold DbG.rows
                simp only [hpl]
                exact h
              have h1 := St.close_ [(⟨some ⟨gp, 0, none⟩, np, ps, 0, false⟩ : DbG).rows, starA ((⟨some ⟨gp, 0, none⟩, np, ps, 0, false⟩ : DbG).pages.map DpG.dat)] h0
              have h2 := (h1.pick [0, 2, 0, 0, 0, 0] rfl).starPush
              simp only [hl, List.map_append, List.map_cons, List.map_nil]
              have e : (⟨some ⟨gp, 0, none⟩, np, ps, 0, false⟩ : DbG).hdr = .slice (some ⟨gp, 0, none⟩) np np := by unfold DbG.hdr; simp only [hpl]
              rw [e]
              exact h2.pick [1, 1, 0, 0, 0] rfl) ⟨by simp only; omega, by
              simp only
              exact rep_append hbs (by unfold DbG.abs BkS.fresh; simp only [hps])⟩ (by simp only; omega)
    · skip
      have hbl : bs.length = nb := by omega
      have hmk : bs.map mkV = List.replicate nb (.bool false) := by
        rw [show bs.map mkV = (bs.map DbG.abs).map (fun s => Value.bool s.marked) from by rw [List.map_map]; rfl, hbs, List.map_replicate, hbl]
        rfl
      have hwn : bs.map wnV = List.replicate nb (.int .i64 0) := by
        rw [show bs.map wnV = (bs.map DbG.abs).map (fun s => Value.int .i64 s.worn) from by rw [List.map_map]; rfl, hbs, List.map_replicate, hbl]
        rfl
      rw [hbl] at hbs
      refine CW.exit rfl ?_
      refine KN.code ?_
      refine CW.seq ?_
      refine CW.seq ?_
      refine CW.reg [0] rfl ?_
      refine s_as 16 rfl rfl ?_
      refine SX.next ?_
      refine CW.block ?_
      refine CW.loop (G := Nat × List DbG) (fun z => [(4, .slice mA ms.length mc), (13, .pointer (some ⟨g, 0, none⟩)), (16, .int .i64 (z.1 : Nat))]) (fun z => Sto w [blk g 72 #[.int .i64 (nb : Nat), .int .i64 (np : Nat), .int .i64 (sz : Nat), .int .i64 (lv : Nat), .slice A bs.length c, .slice (some ⟨gM, 0, none⟩) nb nb, .slice (some ⟨gW, 0, none⟩) nb nb, .slice pA pl.length pc, .int .i64 0, .bool false, .int .i64 0], own 68 1 A z.2.length c (z.2.map DbG.hdr), starA (z.2.map DbG.dat), blk gM 4 (z.2.map mkV).toArray, blk gW 3 (List.replicate nb (.int .i64 0)).toArray]) (fun z => z.1 ≤ ms.length ∧ z.2.map DbG.abs = (ms.take z.1).foldl markB (List.replicate nb (BkS.fresh np sz)) ∧ z.2.map wnV = List.replicate nb (.int .i64 0)) (fun z => ms.length - z.1) (0, bs) ⟨rfl, rfl, rfl, trivial⟩ (fun _ h => by
  simp only [hmk]
  exact h) ⟨Nat.zero_le _, hbs, hwn⟩ ?_
      rintro ⟨j, cs⟩ ⟨hj, hcs, hcw⟩
      simp only at hj hcs hcw
      dsimp only
      have hcl : cs.length = nb := by
        have := congrArg List.length hcs
        rw [List.length_map, marks_len, List.length_replicate] at this
        exact this
      refine CW.seq ?_
      refine CW.seq ?_
      refine CW.reg [0, 1, 2, 3] rfl ?_
      refine s_mv 61 rfl rfl ?_
      refine s_mv 62 rfl rfl ?_
      refine s_len 63 rfl rfl ?_
      refine s_lt 64 rfl rfl rfl rfl ?_
      refine SX.next ?_
      refine CW.test rfl (fun hc => ?_) (fun hc => ?_)
      · skip
        have hjl : j < ms.length := by omega
        have hmj : ms[j]? = some (ms.getD j 0) := by rw [List.getD_eq_getElem?_getD, List.getElem?_eq_getElem hjl]; rfl
        obtain ⟨hm0, hm1⟩ := hms _ (List.mem_of_getElem? hmj)
        obtain ⟨m, hm⟩ := Int.eq_ofNat_of_zero_le hm0
        have hmn : m < nb := by omega
        have hmc : m < cs.length := by omega
        obtain ⟨bm, hbm⟩ : ∃ bm, cs[m]? = some bm := ⟨_, List.getElem?_eq_getElem hmc⟩
        refine CW.skip ?_
        refine KN.code ?_
        refine CW.seq ?_
        refine CW.block ?_
        refine CW.regD (.st true 0 (.st true 1 (.st true 2 (.st true 3 (.st true 4 (.st true 5 (.st true 6 (.st true 7 (.st true 8 (.st false 9 .done)))))))))) (Sto w [blk g 72 #[.int .i64 (nb : Nat), .int .i64 (np : Nat), .int .i64 (sz : Nat), .int .i64 (lv : Nat), .slice A bs.length c, .slice (some ⟨gM, 0, none⟩) nb nb, .slice (some ⟨gW, 0, none⟩) nb nb, .slice pA pl.length pc, .int .i64 0, .bool false, .int .i64 0]]) mixed (by kernel_rfl) (fun _ h => h.drew) (fun _ h => h.pick [0] rfl) ?_
        refine s_mv 67 rfl rfl ?_
        refine s_nil 68 rfl rfl ?_
        refine s_fa 69 rfl rfl ?_
        refine s_ldS 70 rfl rfl (v := .slice (some ⟨gM, 0, none⟩) nb nb) (fun _ hw => hw.blkCell (i := 0) (j := 5) rfl rfl) ?_
        refine s_mv 71 rfl rfl ?_
        refine s_mv 72 rfl rfl ?_
        refine s_iaV 73 j (fun w hw => hw.old hM) rfl rfl rfl rfl hjl ?_
        refine s_ldVS 74 (fun w hw => hw.old hM) rfl rfl (by rw [Nat.mul_one]; exact intsAt hjl) (by omega) ?_
        refine s_ia0 75 m rfl rfl rfl hm hmn ?_
        refine s_stB 3 rfl rfl rfl rfl rfl (by simpa using hmc) (fun _ h => h.pick [0] rfl) ?_
        refine SX.end_ ?_
        refine KN.blk ?_
        refine KN.code ?_
        refine CW.reg [0, 1, 2] rfl ?_
        refine s_mv 65 rfl rfl ?_
        refine s_add 66 rfl rfl rfl (r := ((j + 1 : Nat) : Int)) (w64 (by omega)) ?_
        refine s_as 16 rfl rfl ?_
        refine SX.end_ ?_
        exact KN.back (j + 1, (cs.set m { bm with marked := true })) ⟨rfl, rfl, rfl, trivial⟩ (fun w_ h => by
          have e1 : (cs.set m { bm with marked := true }).map DbG.hdr = cs.map DbG.hdr := map_keep hbm rfl
          have e2 : (cs.set m { bm with marked := true }).map DbG.dat = cs.map DbG.dat := map_keep hbm rfl
          have e3 : ((cs.set m { bm with marked := true }).map mkV).toArray = (cs.map mkV).toArray.setIfInBounds m (.bool true) := by rw [List.map_set, List.setIfInBounds_toArray]; rfl
          simp only [e1, e2, e3, List.length_set]
          exact h) ⟨by simp only; omega, by
            simp only
            rw [List.take_add_one, hmj, Option.toList_some, List.foldl_append, ← hcs, List.map_set]
            show _ = markB (cs.map DbG.abs) (ms.getD j 0)
            unfold markB
            rw [hm, Int.toNat_natCast, List.getD_eq_getElem?_getD, List.getElem?_map, hbm]
            rfl, by
            simp only
            rw [map_keep (f := wnV) (b := { bm with marked := true }) hbm rfl]
            exact hcw⟩ (by simp only; omega)
      · skip
        obtain rfl : j = ms.length := by omega
        rw [List.take_length] at hcs
        refine CW.exit rfl ?_
        refine KN.code ?_
        refine CW.seq ?_
        refine CW.reg [0, 1] rfl ?_
        refine s_mv 76 rfl rfl ?_
        refine s_as 12 rfl rfl ?_
        refine SX.next ?_
        refine CW.ret ?_
        exact KN.ret (rs := [.tmp 12]) Tryd.results30 rfl (fun w_ hw => by
  refine ⟨(g, (⟨(np : Nat), (sz : Nat), (lv : Nat), A, c, cs, some ⟨gM, 0, none⟩, nb, some ⟨gW, 0, none⟩, nb, pA, pc, pl, 0, false, 0⟩ : DcG)), rfl, ⟨by unfold ChS.new DcG.abs; simp only [hcs], rfl, rfl, rfl⟩, ?_⟩
  have h1 := hw.blkOwnM (q := 3) (m := nb) (c := nb) (sz := 1) rfl (by simp [hcl]) (Nat.le_refl _) (by unfold maxLen; omega)
  have h2 := h1.blkOwnM (q := 4) (m := nb) (c := nb) (sz := 1) rfl (by simp) (Nat.le_refl _) (by unfold maxLen; omega)
  have e1 : (cs.map mkV).toArray.toList.take (nb * 1) = cs.map mkV := List.take_of_length_le (by simp [hcl])
  have e2 : (List.replicate nb (Value.int .i64 0)).toArray.toList.take (nb * 1) = cs.map wnV := by rw [hcw]; exact List.take_of_length_le (by simp)
  rw [e1, e2] at h2
  have h3 : Sto w [(⟨(np : Nat), (sz : Nat), (lv : Nat), A, c, cs, some ⟨gM, 0, none⟩, nb, some ⟨gW, 0, none⟩, nb, pA, pc, pl, 0, false, 0⟩ : DcG).hd g, (⟨(np : Nat), (sz : Nat), (lv : Nat), A, c, cs, some ⟨gM, 0, none⟩, nb, some ⟨gW, 0, none⟩, nb, pA, pc, pl, 0, false, 0⟩ : DcG).hds, (⟨(np : Nat), (sz : Nat), (lv : Nat), A, c, cs, some ⟨gM, 0, none⟩, nb, some ⟨gW, 0, none⟩, nb, pA, pc, pl, 0, false, 0⟩ : DcG).bst, (⟨(np : Nat), (sz : Nat), (lv : Nat), A, c, cs, some ⟨gM, 0, none⟩, nb, some ⟨gW, 0, none⟩, nb, pA, pc, pl, 0, false, 0⟩ : DcG).mks, (⟨(np : Nat), (sz : Nat), (lv : Nat), A, c, cs, some ⟨gM, 0, none⟩, nb, some ⟨gW, 0, none⟩, nb, pA, pc, pl, 0, false, 0⟩ : DcG).wns] w_ := by
    unfold DcG.hd DcG.cells DcG.hds DcG.bst DcG.mks DcG.wns
    simp only [hcl]
    rw [hbl] at h2
    simp only [hcl] at h2
    exact h2
  exact h3.docC)
end Go.Proofs.YtcapijdokbkgaaaDoor
end
section
/- A chip, and the document's, are told a thing. Conditions: they are lent; bytes and plan are read where they lie; errors' variables stay. -/
namespace Go.Proofs.YtcapijdokbkgaaaDoor
open Go Go.Sx Go.Fm
set_option maxRecDepth 100000
end Go.Proofs.YtcapijdokbkgaaaDoor
end
section
/- A chip tells what the document's does. Conditions: both are read where they lie, and are the same. -/
namespace Go.Proofs.YtcapijdokbkgaaaDoor
open Go Go.Sx Go.Fm
set_option maxRecDepth 100000
theorem mk_at {bs : List DbG} {i : Nat} {b : DbG} (h : bs[i]? = some b) : (bs.map mkV)[i]? = some (.bool b.marked) := by
  rw [List.getElem?_map, h]
  rfl
end Go.Proofs.YtcapijdokbkgaaaDoor
end
section
/- The document's fault of what a new chip is asked of. Conditions: the marks are read where they lie. -/
namespace Go.Proofs.YtcapijdokbkgaaaDoor
open Go Go.Sx Go.Fm
set_option maxRecDepth 100000
def faultC (nb np sz lv : Int) (ms : List Int) (n : Nat) : Int :=
  if nb < 1 ∨ 64 < nb ∨ np < 1 ∨ 64 < np ∨ sz < 1 ∨ 4096 < sz ∨ lv < 1 ∨ 8 < lv then 108
  else if ∀ m ∈ ms, 0 ≤ m ∧ m < nb then (if 1000 < n then 106 else 0) else 102
end Go.Proofs.YtcapijdokbkgaaaDoor
end
section
/- The statement ChipPlays, walked. Conditions: what comes in is read where it lies; the errors' variables each hold a pointer of its own. -/
namespace Go.Proofs.YtcapijdokbkgaaaDoor
open Go Go.Sx Go.Fm
set_option maxRecDepth 100000
/-- An error's number, or none. -/
def codeOk (c : Int) : Prop := c = 0 ∨ (101 ≤ c ∧ c ≤ 119)
theorem is_ev {c : Int} (d : Int) (hc : codeOk c) (e : Nat → Addr) (w : World) (he : Has (ersA e apiErrs) w) : Spec1 Tryd.prog 29 [evE e c, .int .i64 d] w (.bool (decide (c = d))) := by
  rcases hc with rfl | ⟨h1, h2⟩
  · exact is_none d w
  · obtain ⟨j, hj⟩ := Int.eq_ofNat_of_zero_le (show 0 ≤ c - 101 by omega)
    obtain rfl : c = 101 + (j : Nat) := by omega
    have hj19 : j < 19 := by omega
    have hk : apiErrs[j]? = some (apiErrs.getD j 0) := by
      rw [List.getD_eq_getElem?_getD, List.getElem?_eq_getElem (show j < apiErrs.length from hj19)]
      rfl
    have h3 := is_err j _ d e w he hk
    have e1 : evE e (101 + (j : Nat)) = errV e (apiErrs.getD j 0) := by
      unfold evE
      rw [if_neg (by omega), show (101 + ((j : Nat) : Int) - 101).toNat = j by omega]
    rw [e1]
    exact h3
theorem askC_code (a b c : Bool) : codeOk (askC a b c) := by
  cases a <;> cases b <;> cases c <;> first | exact .inl rfl | exact .inr ⟨by decide, by decide⟩
theorem rd_code (s : ChS) (b p v : Int) : codeOk (s.rd b p v).1 := by
  unfold ChS.rd
  split
  · exact askC_code _ _ _
  · split
    · exact .inr ⟨by show (101 : Int) ≤ 109; decide, by show (109 : Int) ≤ 119; decide⟩
    · exact .inl rfl
theorem pr_code (s : ChS) (b p : Int) (l : List Nat) : codeOk (s.pr b p l).1 := by
  unfold ChS.pr
  split
  · exact askC_code _ _ _
  · show codeOk (layN s.hits s.size).2
    unfold layN
    split
    · exact .inr ⟨by show (101 : Int) ≤ 109; decide, by show (109 : Int) ≤ 119; decide⟩
    · split
      · exact .inr ⟨by show (101 : Int) ≤ 111; decide, by show (111 : Int) ≤ 119; decide⟩
      · exact .inl rfl
theorem er_code (s : ChS) (b : Int) : codeOk (s.er b).1 := by
  unfold ChS.er
  split
  · exact askC_code _ _ _
  · show codeOk (eraN s.hits s.pages).2
    unfold eraN
    split
    · exact .inr ⟨by show (101 : Int) ≤ 109; decide, by show (109 : Int) ≤ 119; decide⟩
    · split
      · exact .inr ⟨by show (101 : Int) ≤ 111; decide, by show (111 : Int) ≤ 119; decide⟩
      · exact .inl rfl
theorem ChS.As.trans {a b c : ChS} (h : a.As b) (k : b.As c) : a.As c := ⟨k.p.trans h.p, k.z.trans h.z, k.v.trans h.v, k.b.trans h.b⟩
structure PyG where
  x : ChG
  y : DcG
  t : WtG
end Go.Proofs.YtcapijdokbkgaaaDoor
end
section
/- The document's driver: where it lies; how it stands to the program's. No condition. -/
namespace Go.Proofs.YtcapijdokbkgaaaDoor
open Go Go.Sx
set_option maxRecDepth 100000
structure DdG where
  cb : Nat
  A : Option Addr
  c : Nat
  next : List Int
  B : Option Addr
  cc : Nat
  bad : List Bool
  reads : Int
  programs : Int
  erases : Int
def DdG.abs (x : DdG) : DrS := ⟨x.next, x.bad, x.reads, x.programs, x.erases⟩
def DdG.cells (x : DdG) : Array Value := #[.pointer (some ⟨x.cb, 0, none⟩), .slice x.A x.next.length x.c, .slice x.B x.bad.length x.cc, .int .i64 x.reads, .int .i64 x.programs, .int .i64 x.erases]
def DdG.hd (g : Nat) (x : DdG) : Atom := blk g 101 x.cells
def DdG.nxA (x : DdG) : Atom := own 3 1 x.A x.next.length x.c (ints .i64 x.next)
def DdG.bdA (x : DdG) : Atom := own 4 1 x.B x.bad.length x.cc (bools x.bad)
def docDA (g : Nat) (x : DdG) : Atom := starA [x.hd g, x.nxA, x.bdA]
section
variable {F : Nat → Prop} {w₀ w : World} {L : List Atom} {g : Nat} {x : DdG}
theorem _root_.Go.Sx.St.ddO (h : St F w₀ (docDA g x :: L) w) : St F w₀ (x.hd g :: x.nxA :: x.bdA :: L) w := h.open_
theorem _root_.Go.Sx.St.ddC (h : St F w₀ (x.hd g :: x.nxA :: x.bdA :: L) w) : St F w₀ (docDA g x :: L) w := St.close_ [x.hd g, x.nxA, x.bdA] h
theorem dd_cell (h : Has (docDA g x) w) {j : Nat} {v : Value} (hj : x.cells[j]? = some v) : w.cell? ⟨g, j, none⟩ = some v := (h.starM (A := x.hd g) (by simp)).cellB hj
theorem dd_nx (h : Has (docDA g x) w) : Has (sl 1 x.A x.next.length (ints .i64 x.next)) w := (h.starM (A := x.nxA) (by simp)).of_own
theorem dd_bd (h : Has (docDA g x) w) : Has (sl 1 x.B x.bad.length (bools x.bad)) w := (h.starM (A := x.bdA) (by simp)).of_own
theorem _root_.Go.Sx.St.ddPut (i : Nat) (v : Int) (h : St F w₀ (x.hd g :: own 3 1 x.A x.next.length x.c ((ints .i64 x.next).set i (.int .i64 v)) :: x.bdA :: L) w) : St F w₀ (docDA g { x with next := x.next.set i v } :: L) w := by
  rw [intsSet] at h
  refine St.ddC ?_
  unfold DdG.hd DdG.cells DdG.nxA at *
  simp only [List.length_set]
  exact h
theorem _root_.Go.Sx.St.ddBad (i : Nat) (v : Bool) (h : St F w₀ (x.hd g :: x.nxA :: own 4 1 x.B x.bad.length x.cc ((bools x.bad).set i (.bool v)) :: L) w) : St F w₀ (docDA g { x with bad := x.bad.set i v } :: L) w := by
  rw [bools_set] at h
  refine St.ddC ?_
  unfold DdG.hd DdG.cells DdG.bdA at *
  simp only [List.length_set]
  exact h
end
/-- The driver stands over this chip, and knows as many blocks. -/
structure DdG.At (x : DdG) (cb nb : Nat) : Prop where
  cb : x.cb = cb
  n : x.next.length = nb
  b : x.bad.length = nb
theorem DdG.At.as {x z : DdG} {cb n : Nat} {d : DrS} (h : x.At cb n) (hc : z.cb = x.cb) (hd : z.abs = d) (ha : x.abs.As d) : z.At cb n := by
  subst hd
  exact ⟨hc.trans h.cb, (show z.abs.next.length = n from ha.n.trans h.n), (show z.abs.bad.length = n from ha.b.trans h.b)⟩
/-! ### The two drivers -/
structure Rel (d d' : DrS) : Prop where
  bad : d'.bad = d.bad
  n : d'.next.length = d.next.length
  bl : d.bad.length = d.next.length
  nx : ∀ b : Nat, b < d.next.length → d.bd (b : Nat) = false → d'.nx (b : Nat) = d.nx (b : Nat)
  cl : ∀ b : Nat, b < d.next.length → d.bd (b : Nat) = true → d.nx (b : Nat) = 3
  reads : d'.reads = d.reads
  programs : d'.programs = d.programs
  erases : d'.erases = d.erases
section
variable {d d' : DrS} {s : ChS}
theorem Rel.has (h : Rel d d') (b : Int) : d'.has b = d.has b := by unfold DrS.has; rw [h.n]
theorem Rel.bd (h : Rel d d') (b : Int) : d'.bd b = d.bd b := by unfold DrS.bd; rw [h.bad]
theorem Rel.ask (h : Rel d d') (b : Int) : d'.askB b = d.askB b := by unfold DrS.askB; rw [h.has, h.bd]
theorem Rel.askO (h : Rel d d') (pg b : Int) : d'.askO pg b = d.askO pg b := by
  unfold DrS.askO
  rw [h.ask]
  by_cases ha : d.askB b = 0
  · rw [if_pos ha, if_pos ha]
    obtain ⟨h1, h2⟩ := askB_zero ha
    obtain ⟨i, rfl, hi⟩ := dhas_at' h1
    rw [h.nx i hi h2]
  · rw [if_neg ha, if_neg ha]
theorem nxPut {d : DrS} {i b : Nat} (hi : i < d.next.length) (v : Int) : (d.put (i : Nat) v).nx (b : Nat) = if i = b then v else d.nx (b : Nat) := by
  unfold DrS.put DrS.nx
  simp only
  rw [Int.toNat_natCast, Int.toNat_natCast, getD_set hi]
theorem Rel.put (h : Rel d d') {i : Nat} (hi : i < d.next.length) (hb : d.bd (i : Nat) = false) {d1 d1' : DrS} (e1 : d1.next = d.next) (e2 : d1.bad = d.bad) (e1' : d1'.next = d'.next) (e2' : d1'.bad = d'.bad) (r : d1'.reads = d1.reads) (p : d1'.programs = d1.programs) (q : d1'.erases = d1.erases) (v : Int) : Rel (d1.put (i : Nat) v) (d1'.put (i : Nat) v) := by
  have hbd : ∀ b : Nat, (d1.put (i : Nat) v).bd (b : Nat) = d.bd (b : Nat) := fun b => by
    unfold DrS.put DrS.bd
    simp only
    rw [e2]
  have hl1 : d1.next.length = d.next.length := by rw [e1]
  have hl1' : d1'.next.length = d.next.length := by rw [e1', h.n]
  have hn1 : ∀ b : Nat, d1.nx (b : Nat) = d.nx (b : Nat) := fun b => by unfold DrS.nx; rw [e1]
  have hn1' : ∀ b : Nat, d1'.nx (b : Nat) = d'.nx (b : Nat) := fun b => by unfold DrS.nx; rw [e1']
  refine ⟨by show d1'.bad = d1.bad; rw [e2, e2', h.bad], by rw [(put_len _ _ _).2, (put_len _ _ _).2, hl1', hl1], by rw [(put_len _ _ _).1, (put_len _ _ _).2, e2, hl1]; exact h.bl, fun b hb1 hb2 => ?_, fun b hb1 hb2 => ?_, r, p, q⟩
  · rw [(put_len _ _ _).2, hl1] at hb1
    rw [hbd] at hb2
    rw [nxPut (by rw [hl1']; exact hi), nxPut (by rw [hl1]; exact hi), hn1, hn1']
    split
    · rfl
    · exact h.nx b hb1 hb2
  · rw [(put_len _ _ _).2, hl1] at hb1
    rw [hbd] at hb2
    rw [nxPut (by rw [hl1]; exact hi), hn1]
    split
    · rename_i e
      subst e
      rw [hb] at hb2
      cases hb2
    · exact h.cl b hb1 hb2
theorem Rel.rd (h : Rel d d') (b p v : Int) : (drRd d' s b p v).1 = (drRd d s b p v).1 ∧ (drRd d' s b p v).2.1 = (drRd d s b p v).2.1 ∧ Rel (drRd d s b p v).2.2.1 (drRd d' s b p v).2.2.1 ∧ (drRd d' s b p v).2.2.2 = (drRd d s b p v).2.2.2 := by
  unfold drRd
  rw [h.has, h.bd]
  split
  · exact ⟨rfl, rfl, h, rfl⟩
  · exact ⟨rfl, rfl, ⟨h.bad, h.n, h.bl, h.nx, h.cl, by simp only; rw [h.reads], h.programs, h.erases⟩, rfl⟩
theorem Rel.ap (h : Rel d d') (pg sz b : Int) (l : List Nat) : (drAp pg sz d' s b l).1 = (drAp pg sz d s b l).1 ∧ (drAp pg sz d' s b l).2.1 = (drAp pg sz d s b l).2.1 ∧ Rel (drAp pg sz d s b l).2.2.1 (drAp pg sz d' s b l).2.2.1 ∧ (drAp pg sz d' s b l).2.2.2 = (drAp pg sz d s b l).2.2.2 := by
  by_cases ha : d.askO pg b = 0
  · have ha' : d'.askO pg b = 0 := by rw [h.askO]; exact ha
    obtain ⟨hab, _⟩ := askO_zero ha
    obtain ⟨h1, h2⟩ := askB_zero hab
    obtain ⟨i, rfl, hi⟩ := dhas_at' h1
    have hn := h.nx i hi h2
    by_cases hl : (l.length : Int) = sz
    · by_cases hz : (s.pr (i : Nat) (d.nx (i : Nat)) l).1 = 0
      · rw [drAp_ok ha hl hz, drAp_ok ha' hl (by rw [hn]; exact hz)]
        simp only
        rw [hn]
        exact ⟨(by first | trivial | rfl), (by first | trivial | rfl), h.put (d1 := { d with programs := wr (d.programs + 1) }) (d1' := { d' with programs := wr (d'.programs + 1) }) hi h2 rfl rfl rfl rfl h.reads (by simp only; rw [h.programs]) h.erases _, (by first | trivial | rfl)⟩
      · rw [drAp_err ha hl hz, drAp_err ha' hl (by rw [hn]; exact hz)]
        simp only
        rw [hn]
        exact ⟨(by first | trivial | rfl), (by first | trivial | rfl), h.put (d1 := { d with programs := wr (d.programs + 1) }) (d1' := { d' with programs := wr (d'.programs + 1) }) hi h2 rfl rfl rfl rfl h.reads (by simp only; rw [h.programs]) h.erases _, (by first | trivial | rfl)⟩
    · rw [drAp_size ha hl, drAp_size ha' hl]
      exact ⟨rfl, rfl, h, rfl⟩
  · have ha' : d'.askO pg b ≠ 0 := by rw [h.askO]; exact ha
    rw [drAp_ask ha, drAp_ask ha', h.askO]
    exact ⟨rfl, rfl, h, rfl⟩
theorem Rel.er (h : Rel d d') (pg b : Int) : (drEr pg d' s b).1 = (drEr pg d s b).1 ∧ Rel (drEr pg d s b).2.1 (drEr pg d' s b).2.1 ∧ (drEr pg d' s b).2.2 = (drEr pg d s b).2.2 := by
  by_cases ha : d.askB b = 0
  · obtain ⟨h1, h2⟩ := askB_zero ha
    obtain ⟨i, rfl, hi⟩ := dhas_at' h1
    rw [drEr_do ha, drEr_do (by rw [h.ask]; exact ha)]
    exact ⟨rfl, h.put (d1 := { d with erases := wr (d.erases + 1) }) (d1' := { d' with erases := wr (d'.erases + 1) }) hi h2 rfl rfl rfl rfl h.reads h.programs (by simp only; rw [h.erases]) _, rfl⟩
  · rw [drEr_ask ha, drEr_ask (by rw [h.ask]; exact ha), h.ask]
    exact ⟨rfl, h, rfl⟩
/-- Both let nothing be appended any more; the program's also where the block is bad. -/
theorem Rel.cl3 (h : Rel d d') {i : Nat} (hi : i < d.next.length) : Rel (d.put (i : Nat) 3) (d'.put (i : Nat) 3) := by
  have hbd : ∀ b : Nat, (d.put (i : Nat) 3).bd (b : Nat) = d.bd (b : Nat) := fun b => rfl
  refine ⟨h.bad, by rw [(put_len _ _ _).2, (put_len _ _ _).2]; exact h.n, by rw [(put_len _ _ _).1, (put_len _ _ _).2]; exact h.bl, fun b hb1 hb2 => ?_, fun b hb1 hb2 => ?_, h.reads, h.programs, h.erases⟩
  · rw [(put_len _ _ _).2] at hb1
    rw [nxPut (by rw [h.n]; exact hi), nxPut hi]
    split
    · rfl
    · exact h.nx b hb1 hb2
  · rw [(put_len _ _ _).2] at hb1
    rw [nxPut hi]
    split
    · rfl
    · exact h.cl b hb1 hb2
theorem Rel.re (h : Rel d d') {i : Nat} (hi : i < d.next.length) : Rel ({ d with bad := d.bad.set i true }.put (i : Nat) 3) { d' with bad := d'.bad.set i true } := by
  have hbd : ∀ b : Nat, ({ d with bad := d.bad.set i true } : DrS).bd (b : Nat) = if i = b then true else d.bd (b : Nat) := fun b => by
    unfold DrS.bd
    simp only
    rw [Int.toNat_natCast, getD_set (by rw [h.bl]; exact hi)]
  refine ⟨by show d'.bad.set i true = d.bad.set i true; rw [h.bad], by rw [(put_len _ _ _).2]; exact h.n, by rw [(put_len _ _ _).1, (put_len _ _ _).2]; simp only [List.length_set]; exact h.bl, fun b hb1 hb2 => ?_, fun b hb1 hb2 => ?_, h.reads, h.programs, h.erases⟩
  · rw [(put_len _ _ _).2] at hb1
    have hb3 : (if i = b then true else d.bd (b : Nat)) = false := (hbd b).symm.trans hb2
    rw [nxPut (d := { d with bad := d.bad.set i true }) hi]
    split at hb3
    · cases hb3
    · rename_i e
      rw [if_neg e]
      exact h.nx b hb1 hb3
  · rw [(put_len _ _ _).2] at hb1
    have hb3 : (if i = b then true else d.bd (b : Nat)) = true := (hbd b).symm.trans hb2
    rw [nxPut (d := { d with bad := d.bad.set i true }) hi]
    split
    · rfl
    · rename_i e
      rw [if_neg e] at hb3
      exact h.cl b hb1 hb3
theorem Rel.fr (h : Rel d d') (b : Int) : Rel (drFr d s b) (drFr d' s b) := by
  unfold drFr
  rw [h.ask]
  by_cases hh : d.askB b = 0 ∧ ∀ k : Nat, k < s.pages.toNat → (s.pg b k).used = false
  · rw [if_pos hh, if_pos hh]
    obtain ⟨h1, h2⟩ := askB_zero hh.1
    obtain ⟨i, rfl, hi⟩ := dhas_at' h1
    exact h.put hi h2 rfl rfl rfl rfl h.reads h.programs h.erases _
  · rw [if_neg hh, if_neg hh]
    exact h
theorem Rel.next (h : Rel d d') (b : Int) : drNx 3 d b = if d'.askB b ≠ 0 then 3 else d'.nx b := by
  unfold drNx
  rw [h.ask]
  by_cases hh : d.has b = true
  · rw [if_pos hh]
    obtain ⟨i, rfl, hi⟩ := dhas_at' hh
    cases hb : d.bd (i : Nat) with
    | true =>
      rw [if_pos (by unfold DrS.askB; rw [hh, hb]; decide)]
      exact h.cl i hi hb
    | false =>
      rw [if_neg (fun hn => hn (askB_of hh hb))]
      exact (h.nx i hi hb).symm
  · rw [if_neg hh, if_pos (by unfold DrS.askB; rw [if_neg hh]; decide)]
end
theorem rel_new {ms : List Int} {pl : List FtS} : Rel (drNew0 (N15 ms pl)) (drNew0 (N15 ms pl)) := by
  have hl := N15_len ms pl
  refine ⟨rfl, rfl, by unfold drNew0; rw [List.length_map, List.length_replicate], fun _ _ _ => rfl, fun b hb _ => ?_, rfl, rfl, rfl⟩
  unfold drNew0 at hb
  rw [List.length_replicate, hl] at hb
  unfold drNew0 DrS.nx
  simp only
  rw [hl, Int.toNat_natCast, List.getD_eq_getElem?_getD, List.getElem?_replicate, if_pos hb]
  rfl
end Go.Proofs.YtcapijdokbkgaaaDoor
end
section
/- The document's driver, walked. Conditions: driver and chip are lent, the plan is read where it lies. -/
namespace Go.Proofs.YtcapijdokbkgaaaDoor
open Go Go.Sx Go.Fm
set_option maxRecDepth 100000

theorem ddIs_spec {g cb : Nat} {x : DdG} {y : DcG} (ha : x.At cb y.blocks.length) (b : Int) (w : World) (hd : Has (docDA g x) w) (hc : Has (docA cb y) w) : Spec1 Tryd.prog 59 [.pointer (some ⟨g, 0, none⟩), .int .i64 b] w (.bool (decide (x.abs.askB b ≠ 0))) := by
  obtain ⟨hcb, hnl, hbl⟩ := ha
  subst hcb
  refine spec_of Tryd.func59 rfl Tryd.ntmps59 rfl ?_
  refine CW.seq ?_
  refine CW.reg [0] rfl ?_
  refine s_as 4 rfl rfl ?_
  refine SX.next ?_
  refine CW.seq ?_
  refine CW.reg [0, 1, 2, 3, 4, 5, 6, 7, 8, 9, 10, 11, 12, 13, 14, 15, 16, 17, 18, 19, 20, 21, 22] rfl ?_
  refine s_mv 5 rfl rfl ?_
  refine s_lt 6 rfl rfl rfl rfl ?_
  refine s_mv 7 rfl rfl ?_
  refine SX.bool 7 rfl (fun hb => ?_) (fun hb => ?_)
  · skip
    have h1 := of_decide_eq_true hb
    have hno : x.abs.has b = false := by
      unfold DrS.has
      exact decide_eq_false (fun h => by have h3 : b < (x.next.length : Int) := h.2; omega)
    refine SX.skip rfl ?_
    refine SX.skip rfl ?_
    refine SX.skip rfl ?_
    refine SX.skip rfl ?_
    refine SX.skip rfl ?_
    refine SX.skip rfl ?_
    refine SX.skip rfl ?_
    refine SX.skip rfl ?_
    refine SX.skip rfl ?_
    refine s_pickT 17 rfl rfl rfl ?_
    refine s_mv 18 rfl rfl ?_
    refine SX.skip rfl ?_
    refine SX.skip rfl ?_
    refine SX.skip rfl ?_
    refine SX.skip rfl ?_
    refine SX.skip rfl ?_
    refine SX.skip rfl ?_
    refine SX.skip rfl ?_
    refine s_pickT 26 rfl rfl rfl ?_
    refine s_as 4 rfl rfl ?_
    refine SX.next ?_
    refine CW.ret ?_
    exact KN.ret (rs := [.tmp 4]) Tryd.results59 rfl (fun w hw => ⟨by unfold DrS.askB; rw [hno]; rfl, hw.nothing⟩)
  · skip
    have h1 := of_decide_eq_false hb
    refine s_mv 8 rfl rfl ?_
    refine s_mv 9 rfl rfl ?_
    refine s_nil 10 rfl rfl ?_
    refine s_fa 11 rfl rfl ?_
    refine s_ld 12 rfl rfl (v := .pointer (some ⟨x.cb, 0, none⟩)) (fun _ hw => dd_cell (hw.old hd) rfl) ?_
    refine s_nil 13 rfl rfl ?_
    refine s_fa 14 rfl rfl ?_
    refine s_ld 15 rfl rfl (v := .int .i64 (y.blocks.length : Nat)) (fun _ hw => doc_cell (hw.old hc) rfl) ?_
    refine s_ge 16 rfl rfl rfl rfl ?_
    refine s_pickF 17 rfl rfl rfl ?_
    refine s_mv 18 rfl rfl ?_
    refine SX.bool 18 rfl (fun hb => ?_) (fun hb => ?_)
    · skip
      have h2 := of_decide_eq_true hb
      have hno : x.abs.has b = false := by
        unfold DrS.has
        exact decide_eq_false (fun h => by have h3 : b < (x.next.length : Int) := h.2; omega)
      refine SX.skip rfl ?_
      refine SX.skip rfl ?_
      refine SX.skip rfl ?_
      refine SX.skip rfl ?_
      refine SX.skip rfl ?_
      refine SX.skip rfl ?_
      refine SX.skip rfl ?_
      refine s_pickT 26 rfl rfl rfl ?_
      refine s_as 4 rfl rfl ?_
      refine SX.next ?_
      refine CW.ret ?_
      exact KN.ret (rs := [.tmp 4]) Tryd.results59 rfl (fun w hw => ⟨by unfold DrS.askB; rw [hno]; rfl, hw.nothing⟩)
    · skip
      have h2 := of_decide_eq_false hb
      have hyes : x.abs.has b = true := by
        unfold DrS.has
        exact decide_eq_true ⟨by omega, by show b < (x.next.length : Int); omega⟩
      obtain ⟨i, hbi, hil⟩ := dhas_at' hyes
      have hil2 : i < x.next.length := hil
      have hil3 : i < x.bad.length := by omega
      refine s_mv 19 rfl rfl ?_
      refine s_nil 20 rfl rfl ?_
      refine s_fa 21 rfl rfl ?_
      refine s_ld 22 rfl rfl (v := .slice x.B x.bad.length x.cc) (fun _ hw => dd_cell (hw.old hd) rfl) ?_
      refine s_mv 23 rfl rfl ?_
      refine s_iaV 24 i (fun w hw => dd_bd (hw.old hd)) rfl rfl rfl hbi hil3 ?_
      refine s_ldV 25 (fun w hw => dd_bd (hw.old hd)) rfl rfl (by rw [Nat.mul_one]; exact boolsAt hil3) (by omega) ?_
      refine s_pickF 26 rfl rfl rfl ?_
      refine s_as 4 rfl rfl ?_
      refine SX.next ?_
      refine CW.ret ?_
      exact KN.ret (rs := [.tmp 4]) Tryd.results59 rfl (fun w hw => ⟨by unfold DrS.askB; rw [hyes, show x.bad.getD i false = x.abs.bd b by rw [hbi]; rfl]; cases x.abs.bd b <;> rfl, hw.nothing⟩)

set_option maxHeartbeats 1600000 in

theorem ddRead_spec {F : Nat → Prop} {g cb : Nat} {x : DdG} {y : DcG} (ha : x.At cb y.blocks.length) (hy : y.abs.Ok) (b p level : Int) (w : World) (hP : ∀ w', Fr F w w' → PlIn y.pA y.plan w') (hw : St F w [docDA g x, docA cb y] w) : SpecP Tryd.prog 54 [.pointer (some ⟨g, 0, none⟩), .agg #[.int .i64 b, .int .i64 p], .int .i64 level] F w (X := (Option Addr × Nat) × DdG × DcG) (fun z => two (.slice z.1.1 (drRd x.abs y.abs b p level).2.1.length z.1.2) (.int .i64 (drRd x.abs y.abs b p level).1)) (fun z => z.2.1.abs = (drRd x.abs y.abs b p level).2.2.1 ∧ z.2.1.At cb y.blocks.length ∧ z.2.2.abs = (drRd x.abs y.abs b p level).2.2.2 ∧ y.Same z.2.2) (fun z => [own 5 1 z.1.1 (drRd x.abs y.abs b p level).2.1.length z.1.2 (nats .u8 (drRd x.abs y.abs b p level).2.1), docDA g z.2.1, docA cb z.2.2]) := by
  obtain ⟨hcb, hnl, hbl⟩ := ha
  subst hcb
  refine spec_ofC Tryd.func54 rfl Tryd.ntmps54 rfl hw ?_
  refine CW.seq ?_
  refine CW.reg [0, 1, 2] rfl ?_
  refine s_box 4 rfl rfl (fun _ _ => trivial) (fun b4 => ?_)
  refine s_as 6 rfl rfl ?_
  refine s_as 7 rfl rfl ?_
  refine SX.next ?_
  refine CW.seq ?_
  refine CW.seq ?_
  refine CW.regD (.st true 0 (.st true 1 (.st true 2 (.st true 3 (.st true 4 (.st true 5 (.st true 6 (.st true 7 (.st true 8 (.st true 9 (.st true 10 (.st true 11 (.st true 12 (.st true 13 (.st true 14 (.st true 15 (.st true 16 (.st true 17 (.st true 18 (.st true 19 (.st true 20 (.st true 21 (.st true 22 (.st true 23 (.st true 24 .done))))))))))))))))))))))))) (St F w [blk b4 31 #[.int .i64 b, .int .i64 p], docDA g x, docA x.cb y]) mixed (by kernel_rfl) (fun _ h => h.drew) (fun _ h => h.pick [0, 0, 0] rfl) ?_
  refine s_fa 8 rfl rfl ?_
  refine s_ldS 9 rfl rfl (v := .int .i64 b) (fun _ hw => hw.blkCell (i := 0) (j := 0) rfl rfl) ?_
  refine s_ge 10 rfl rfl rfl rfl ?_
  refine s_mv 11 rfl rfl ?_
  refine SX.bool 11 rfl (fun hb => ?_) (fun hb => ?_)
  · skip
    have h1 := of_decide_eq_true hb
    refine s_fa 12 rfl rfl ?_
    refine s_ldS 13 rfl rfl (v := .int .i64 b) (fun _ hw => hw.blkCell (i := 0) (j := 0) rfl rfl) ?_
    refine s_mv 14 rfl rfl ?_
    refine s_nil 15 rfl rfl ?_
    refine s_fa 16 rfl rfl ?_
    refine s_ldS 17 rfl rfl (v := .pointer (some ⟨x.cb, 0, none⟩)) (fun _ hw => dd_cell (hw.has (i := 1) rfl) rfl) ?_
    refine s_nil 18 rfl rfl ?_
    refine s_fa 19 rfl rfl ?_
    refine s_ldS 20 rfl rfl (v := .int .i64 (y.blocks.length : Nat)) (fun _ hw => doc_cell (hw.has (i := 2) rfl) rfl) ?_
    refine s_lt 21 rfl rfl rfl rfl ?_
    refine s_pickT 22 rfl rfl rfl ?_
    refine s_mv 23 rfl rfl ?_
    refine SX.bool 23 rfl (fun hb => ?_) (fun hb => ?_)
    · skip
      have h2 := of_decide_eq_true hb
      have hyes : x.abs.has b = true := by
        unfold DrS.has
        exact decide_eq_true ⟨by omega, by show b < (x.next.length : Int); omega⟩
      obtain ⟨i, hbi, hil⟩ := dhas_at' hyes
      have hil2 : i < x.next.length := hil
      have hil3 : i < x.bad.length := by omega
      refine s_mv 24 rfl rfl ?_
      refine s_nil 25 rfl rfl ?_
      refine s_fa 26 rfl rfl ?_
      refine s_ldS 27 rfl rfl (v := .slice x.B x.bad.length x.cc) (fun _ hw => dd_cell (hw.has (i := 1) rfl) rfl) ?_
      refine s_fa 28 rfl rfl ?_
      refine s_ldS 29 rfl rfl (v := .int .i64 b) (fun _ hw => hw.blkCell (i := 0) (j := 0) rfl rfl) ?_
      refine s_iaV 30 i (fun w hw => dd_bd (hw.has (i := 1) rfl)) rfl rfl rfl hbi hil3 ?_
      refine s_ldVS 31 (fun w hw => dd_bd (hw.has (i := 1) rfl)) rfl rfl (by rw [Nat.mul_one]; exact boolsAt hil3) (by omega) ?_
      refine s_pickT 32 rfl rfl rfl ?_
      refine SX.next ?_
      refine CW.cond rfl (fun hbd => ?_) (fun hbd => ?_)
      · skip
        have hbd2 : x.abs.bd b = true := by rw [hbi]; exact hbd
        refine CW.seq ?_
        refine CW.reg [0, 1] rfl ?_
        refine s_as 6 rfl rfl ?_
        refine s_as 7 rfl rfl ?_
        refine SX.next ?_
        refine CW.ret ?_
        exact KN.ret (rs := [.tmp 6, .tmp 7]) Tryd.results54 rfl (fun w hw => ⟨((none, 0), x, y), by rw [drRd_bad hyes hbd2]; rfl, by rw [drRd_bad hyes hbd2]; exact ⟨rfl, ⟨rfl, hnl, hbl⟩, rfl, .refl y⟩, by rw [drRd_bad hyes hbd2]; exact (hw.pick [1, 1] rfl).begin_ 5 1⟩)
      · skip
        have hbd2 : x.abs.bd b = false := by rw [hbi]; exact hbd
        refine CW.skip ?_
        refine KN.code ?_
        refine CW.seq ?_
        refine CW.pre (fun _ h => (h.pick [1, 0, 0] rfl).ddO) ?_
        refine CW.reg [0, 1, 2, 3, 4, 5, 6, 7, 8] rfl ?_
        refine s_mv 33 rfl rfl ?_
        refine s_mv 34 rfl rfl ?_
        refine s_nil 35 rfl rfl ?_
        refine s_fa 36 rfl rfl ?_
        refine s_ldB 37 0 rfl rfl rfl (v := .int .i64 x.reads) rfl ?_
        refine s_add 38 rfl rfl rfl (r := wr (x.reads + 1)) rfl ?_
        refine s_nil 39 rfl rfl ?_
        refine s_fa 40 rfl rfl ?_
        refine s_stB 0 rfl rfl rfl rfl rfl (by show 3 < 6; decide) (fun _ _ => trivial) ?_
        refine SX.next ?_
        refine CW.seq ?_
        refine CW.pre (fun _ h => h.ddC (x := ({ x with reads := wr (x.reads + 1) } : DdG))) ?_
        refine CW.regD (.st true 0 (.st true 1 (.st true 2 (.st true 3 (.st true 4 (.st true 5 (.st false 6 (.st true 7 (.st true 8 (.st true 9 (.st true 10 .done))))))))))) (St F w [blk b4 31 #[.int .i64 b, .int .i64 p], docDA g ({ x with reads := wr (x.reads + 1) } : DdG)]) mixed (by kernel_rfl) (fun _ h => h.drew) (fun _ h => h.pick [1, 0] rfl) ?_
        refine s_mv 41 rfl rfl ?_
        refine s_nil 42 rfl rfl ?_
        refine s_fa 43 rfl rfl ?_
        refine s_ldS 44 rfl rfl (v := .pointer (some ⟨x.cb, 0, none⟩)) (fun _ hw => dd_cell (x := ({ x with reads := wr (x.reads + 1) } : DdG)) (hw.has (i := 1) rfl) rfl) ?_
        refine s_ldRS 45 (cs := [.int .i64 b, .int .i64 p]) rfl rfl rfl (fun _ hw => hw.blkRow (i := 0) rfl) ?_
        refine s_mv 46 rfl rfl ?_
        refine s_callP 47 [2, 0, 0] (M := [docA x.cb y]) (R := [docDA g ({ x with reads := wr (x.reads + 1) } : DdG), blk b4 31 #[.int .i64 b, .int .i64 p]]) (X := (Option Addr × Nat) × DcG) (v := fun z => two (.slice z.1.1 (y.abs.rd b p level).2.1.length z.1.2) (.int .i64 (y.abs.rd b p level).1)) (pf := fun z => z.2.abs = (y.abs.rd b p level).2.2 ∧ y.Same z.2) (M' := fun z => [own 5 1 z.1.1 (y.abs.rd b p level).2.1.length z.1.2 (nats .u8 (y.abs.rd b p level).2.1), docA x.cb z.2]) rfl rfl rfl rfl rfl (fun F' w' hR hM => by have := dread_spec F' x.cb y hy b p level w' (fun w2 hf => hP _ (hR w2 hf).fr) hM;  exact this) (fun _ _ h => h.pick [3, 2] rfl) (fun z hz => ?_)
        refine s_ext 48 rfl rfl rfl ?_
        refine s_ext 49 rfl rfl rfl ?_
        refine s_as 6 rfl rfl ?_
        refine s_as 7 rfl rfl ?_
        refine SX.next ?_
        refine CW.ret ?_
        exact KN.ret (rs := [.tmp 6, .tmp 7]) Tryd.results54 rfl (fun w hw => ⟨(z.1, ({ x with reads := wr (x.reads + 1) } : DdG), z.2), by rw [drRd_do (.inr hbd2)]; rfl, by rw [drRd_do (.inr hbd2)]; exact ⟨rfl, ⟨rfl, hnl, hbl⟩, hz⟩, by rw [drRd_do (.inr hbd2)]; exact hw.pick [0, 1, 0] rfl⟩)
    · skip
      have h2 := of_decide_eq_false hb
      have hno : x.abs.has b = false := by
        unfold DrS.has
        exact decide_eq_false (fun h => by have h3 : b < (x.next.length : Int) := h.2; omega)
      refine SX.skip rfl ?_
      refine SX.skip rfl ?_
      refine SX.skip rfl ?_
      refine SX.skip rfl ?_
      refine SX.skip rfl ?_
      refine SX.skip rfl ?_
      refine SX.skip rfl ?_
      refine SX.skip rfl ?_
      refine s_pickF 32 rfl rfl rfl ?_
      refine SX.next ?_
      refine CW.condF rfl ?_
      refine CW.skip ?_
      refine KN.code ?_
      refine CW.seq ?_
      refine CW.pre (fun _ h => (h.pick [1, 0, 0] rfl).ddO) ?_
      refine CW.reg [0, 1, 2, 3, 4, 5, 6, 7, 8] rfl ?_
      refine s_mv 33 rfl rfl ?_
      refine s_mv 34 rfl rfl ?_
      refine s_nil 35 rfl rfl ?_
      refine s_fa 36 rfl rfl ?_
      refine s_ldB 37 0 rfl rfl rfl (v := .int .i64 x.reads) rfl ?_
      refine s_add 38 rfl rfl rfl (r := wr (x.reads + 1)) rfl ?_
      refine s_nil 39 rfl rfl ?_
      refine s_fa 40 rfl rfl ?_
      refine s_stB 0 rfl rfl rfl rfl rfl (by show 3 < 6; decide) (fun _ _ => trivial) ?_
      refine SX.next ?_
      refine CW.seq ?_
      refine CW.pre (fun _ h => h.ddC (x := ({ x with reads := wr (x.reads + 1) } : DdG))) ?_
      refine CW.regD (.st true 0 (.st true 1 (.st true 2 (.st true 3 (.st true 4 (.st true 5 (.st false 6 (.st true 7 (.st true 8 (.st true 9 (.st true 10 .done))))))))))) (St F w [blk b4 31 #[.int .i64 b, .int .i64 p], docDA g ({ x with reads := wr (x.reads + 1) } : DdG)]) mixed (by kernel_rfl) (fun _ h => h.drew) (fun _ h => h.pick [1, 0] rfl) ?_
      refine s_mv 41 rfl rfl ?_
      refine s_nil 42 rfl rfl ?_
      refine s_fa 43 rfl rfl ?_
      refine s_ldS 44 rfl rfl (v := .pointer (some ⟨x.cb, 0, none⟩)) (fun _ hw => dd_cell (x := ({ x with reads := wr (x.reads + 1) } : DdG)) (hw.has (i := 1) rfl) rfl) ?_
      refine s_ldRS 45 (cs := [.int .i64 b, .int .i64 p]) rfl rfl rfl (fun _ hw => hw.blkRow (i := 0) rfl) ?_
      refine s_mv 46 rfl rfl ?_
      refine s_callP 47 [2, 0, 0] (M := [docA x.cb y]) (R := [docDA g ({ x with reads := wr (x.reads + 1) } : DdG), blk b4 31 #[.int .i64 b, .int .i64 p]]) (X := (Option Addr × Nat) × DcG) (v := fun z => two (.slice z.1.1 (y.abs.rd b p level).2.1.length z.1.2) (.int .i64 (y.abs.rd b p level).1)) (pf := fun z => z.2.abs = (y.abs.rd b p level).2.2 ∧ y.Same z.2) (M' := fun z => [own 5 1 z.1.1 (y.abs.rd b p level).2.1.length z.1.2 (nats .u8 (y.abs.rd b p level).2.1), docA x.cb z.2]) rfl rfl rfl rfl rfl (fun F' w' hR hM => by have := dread_spec F' x.cb y hy b p level w' (fun w2 hf => hP _ (hR w2 hf).fr) hM;  exact this) (fun _ _ h => h.pick [3, 2] rfl) (fun z hz => ?_)
      refine s_ext 48 rfl rfl rfl ?_
      refine s_ext 49 rfl rfl rfl ?_
      refine s_as 6 rfl rfl ?_
      refine s_as 7 rfl rfl ?_
      refine SX.next ?_
      refine CW.ret ?_
      exact KN.ret (rs := [.tmp 6, .tmp 7]) Tryd.results54 rfl (fun w hw => ⟨(z.1, ({ x with reads := wr (x.reads + 1) } : DdG), z.2), by rw [drRd_do (.inl hno)]; rfl, by rw [drRd_do (.inl hno)]; exact ⟨rfl, ⟨rfl, hnl, hbl⟩, hz⟩, by rw [drRd_do (.inl hno)]; exact hw.pick [0, 1, 0] rfl⟩)
  · skip
    have h1 := of_decide_eq_false hb
    have hno : x.abs.has b = false := by
      unfold DrS.has
      exact decide_eq_false (fun h => by have h3 : b < (x.next.length : Int) := h.2; omega)
    refine SX.skip rfl ?_
    refine SX.skip rfl ?_
    refine SX.skip rfl ?_
    refine SX.skip rfl ?_
    refine SX.skip rfl ?_
    refine SX.skip rfl ?_
    refine SX.skip rfl ?_
    refine SX.skip rfl ?_
    refine SX.skip rfl ?_
    refine SX.skip rfl ?_
    refine s_pickF 22 rfl rfl rfl ?_
    refine s_mv 23 rfl rfl ?_
    refine SX.skip rfl ?_
    refine SX.skip rfl ?_
    refine SX.skip rfl ?_
    refine SX.skip rfl ?_
    refine SX.skip rfl ?_
    refine SX.skip rfl ?_
    refine SX.skip rfl ?_
    refine SX.skip rfl ?_
    refine s_pickF 32 rfl rfl rfl ?_
    refine SX.next ?_
    refine CW.condF rfl ?_
    refine CW.skip ?_
    refine KN.code ?_
    refine CW.seq ?_
    refine CW.pre (fun _ h => (h.pick [1, 0, 0] rfl).ddO) ?_
    refine CW.reg [0, 1, 2, 3, 4, 5, 6, 7, 8] rfl ?_
    refine s_mv 33 rfl rfl ?_
    refine s_mv 34 rfl rfl ?_
    refine s_nil 35 rfl rfl ?_
    refine s_fa 36 rfl rfl ?_
    refine s_ldB 37 0 rfl rfl rfl (v := .int .i64 x.reads) rfl ?_
    refine s_add 38 rfl rfl rfl (r := wr (x.reads + 1)) rfl ?_
    refine s_nil 39 rfl rfl ?_
    refine s_fa 40 rfl rfl ?_
    refine s_stB 0 rfl rfl rfl rfl rfl (by show 3 < 6; decide) (fun _ _ => trivial) ?_
    refine SX.next ?_
    refine CW.seq ?_
    refine CW.pre (fun _ h => h.ddC (x := ({ x with reads := wr (x.reads + 1) } : DdG))) ?_
    refine CW.regD (.st true 0 (.st true 1 (.st true 2 (.st true 3 (.st true 4 (.st true 5 (.st false 6 (.st true 7 (.st true 8 (.st true 9 (.st true 10 .done))))))))))) (St F w [blk b4 31 #[.int .i64 b, .int .i64 p], docDA g ({ x with reads := wr (x.reads + 1) } : DdG)]) mixed (by kernel_rfl) (fun _ h => h.drew) (fun _ h => h.pick [1, 0] rfl) ?_
    refine s_mv 41 rfl rfl ?_
    refine s_nil 42 rfl rfl ?_
    refine s_fa 43 rfl rfl ?_
    refine s_ldS 44 rfl rfl (v := .pointer (some ⟨x.cb, 0, none⟩)) (fun _ hw => dd_cell (x := ({ x with reads := wr (x.reads + 1) } : DdG)) (hw.has (i := 1) rfl) rfl) ?_
    refine s_ldRS 45 (cs := [.int .i64 b, .int .i64 p]) rfl rfl rfl (fun _ hw => hw.blkRow (i := 0) rfl) ?_
    refine s_mv 46 rfl rfl ?_
    refine s_callP 47 [2, 0, 0] (M := [docA x.cb y]) (R := [docDA g ({ x with reads := wr (x.reads + 1) } : DdG), blk b4 31 #[.int .i64 b, .int .i64 p]]) (X := (Option Addr × Nat) × DcG) (v := fun z => two (.slice z.1.1 (y.abs.rd b p level).2.1.length z.1.2) (.int .i64 (y.abs.rd b p level).1)) (pf := fun z => z.2.abs = (y.abs.rd b p level).2.2 ∧ y.Same z.2) (M' := fun z => [own 5 1 z.1.1 (y.abs.rd b p level).2.1.length z.1.2 (nats .u8 (y.abs.rd b p level).2.1), docA x.cb z.2]) rfl rfl rfl rfl rfl (fun F' w' hR hM => by have := dread_spec F' x.cb y hy b p level w' (fun w2 hf => hP _ (hR w2 hf).fr) hM;  exact this) (fun _ _ h => h.pick [3, 2] rfl) (fun z hz => ?_)
    refine s_ext 48 rfl rfl rfl ?_
    refine s_ext 49 rfl rfl rfl ?_
    refine s_as 6 rfl rfl ?_
    refine s_as 7 rfl rfl ?_
    refine SX.next ?_
    refine CW.ret ?_
    exact KN.ret (rs := [.tmp 6, .tmp 7]) Tryd.results54 rfl (fun w hw => ⟨(z.1, ({ x with reads := wr (x.reads + 1) } : DdG), z.2), by rw [drRd_do (.inl hno)]; rfl, by rw [drRd_do (.inl hno)]; exact ⟨rfl, ⟨rfl, hnl, hbl⟩, hz⟩, by rw [drRd_do (.inl hno)]; exact hw.pick [0, 1, 0] rfl⟩)

theorem askO_no {d : DrS} {pg b : Int} (h : d.has b = false) : d.askO pg b = 110 := by
  have h1 : d.askB b = 110 := by unfold DrS.askB; rw [h]; rfl
  rw [askO_ask (by rw [h1]; decide), h1]
theorem askO_bad {d : DrS} {pg b : Int} (h : d.has b = true) (h2 : d.bd b = true) : d.askO pg b = 112 := by
  have h1 : d.askB b = 112 := by unfold DrS.askB; rw [h, h2]; rfl
  rw [askO_ask (by rw [h1]; decide), h1]
theorem askO_full {d : DrS} {pg b : Int} (h : d.askB b = 0) (h2 : pg ≤ d.nx b) : d.askO pg b = 110 := by
  unfold DrS.askO
  rw [if_pos h, if_pos h2]
theorem askO_ok {d : DrS} {pg b : Int} (h : d.askB b = 0) (h2 : ¬ pg ≤ d.nx b) : d.askO pg b = 0 := by
  unfold DrS.askO
  rw [if_pos h, if_neg h2]
theorem drEr_no {pg : Int} {d : DrS} {s : ChS} {b : Int} (h : d.has b = false) : drEr pg d s b = (110, d, s) := by
  have h1 : d.askB b = 110 := by unfold DrS.askB; rw [h]; rfl
  rw [drEr_ask (by rw [h1]; decide), h1]
theorem drEr_bad {pg : Int} {d : DrS} {s : ChS} {b : Int} (h : d.has b = true) (h2 : d.bd b = true) : drEr pg d s b = (112, d, s) := by
  have h1 : d.askB b = 112 := by unfold DrS.askB; rw [h, h2]; rfl
  rw [drEr_ask (by rw [h1]; decide), h1]

set_option maxHeartbeats 1600000 in

theorem ddAppend_spec {F : Nat → Prop} {g cb : Nat} {x : DdG} {y : DcG} (ha : x.At cb y.blocks.length) (hy : y.abs.Ok) (b : Int) (A : Option Addr) (c : Nat) (l : List Nat) (w : World) (hP : ∀ w', Fr F w w' → PlIn y.pA y.plan w') (hB : ∀ w', Fr F w w' → Has (sl 1 A l.length (nats .u8 l)) w') (h8 : ∀ t ∈ l, t < 256) (hw : St F w [docDA g x, docA cb y] w) : SpecP Tryd.prog 55 [.pointer (some ⟨g, 0, none⟩), .int .i64 b, .slice A l.length c] F w (X := DdG × DcG) (fun _ => two (.int .i64 (drAp y.pages y.size x.abs y.abs b l).1) (.int .i64 (drAp y.pages y.size x.abs y.abs b l).2.1)) (fun z => z.1.abs = (drAp y.pages y.size x.abs y.abs b l).2.2.1 ∧ z.1.At cb y.blocks.length ∧ z.2.abs = (drAp y.pages y.size x.abs y.abs b l).2.2.2 ∧ y.Same z.2) (fun z => [docDA g z.1, docA cb z.2]) := by
  obtain ⟨hcb, hnl, hbl⟩ := ha
  subst hcb
  refine spec_ofC Tryd.func55 rfl Tryd.ntmps55 rfl hw ?_
  refine CW.seq ?_
  refine CW.reg [0, 1] rfl ?_
  refine s_as 6 rfl rfl ?_
  refine s_as 7 rfl rfl ?_
  refine SX.next ?_
  refine CW.seq ?_
  refine CW.seq ?_
  refine CW.reg [0, 1, 2, 3, 4, 5, 6, 7, 8, 9, 10, 11, 12] rfl ?_
  refine s_mv 10 rfl rfl ?_
  refine s_lt 11 rfl rfl rfl rfl ?_
  refine s_mv 12 rfl rfl ?_
  refine SX.bool 12 rfl (fun hb => ?_) (fun hb => ?_)
  · skip
    have h1 := of_decide_eq_true hb
    have hno : x.abs.has b = false := by
      unfold DrS.has
      exact decide_eq_false (fun h => by have h3 : b < (x.next.length : Int) := h.2; omega)
    refine SX.skip rfl ?_
    refine SX.skip rfl ?_
    refine SX.skip rfl ?_
    refine SX.skip rfl ?_
    refine SX.skip rfl ?_
    refine SX.skip rfl ?_
    refine SX.skip rfl ?_
    refine SX.skip rfl ?_
    refine SX.skip rfl ?_
    refine s_pickT 22 rfl rfl rfl ?_
    refine SX.next ?_
    refine CW.condT rfl ?_
    refine CW.seq ?_
    refine CW.reg [0, 1] rfl ?_
    refine s_as 6 rfl rfl ?_
    refine s_as 7 rfl rfl ?_
    refine SX.next ?_
    refine CW.ret ?_
    exact KN.ret (rs := [.tmp 6, .tmp 7]) Tryd.results55 rfl (fun w hw => ⟨(x, y), by rw [drAp_ask (show x.abs.askO y.pages b ≠ 0 by rw [show x.abs.askO y.pages b = 110 from askO_no hno]; decide), show x.abs.askO y.pages b = 110 from askO_no hno]; rfl, by rw [drAp_ask (show x.abs.askO y.pages b ≠ 0 by rw [show x.abs.askO y.pages b = 110 from askO_no hno]; decide), show x.abs.askO y.pages b = 110 from askO_no hno]; exact ⟨rfl, ⟨rfl, hnl, hbl⟩, rfl, .refl y⟩, hw⟩)
  · skip
    have h1 := of_decide_eq_false hb
    refine s_mv 13 rfl rfl ?_
    refine s_mv 14 rfl rfl ?_
    refine s_nil 15 rfl rfl ?_
    refine s_fa 16 rfl rfl ?_
    refine s_ld 17 rfl rfl (v := .pointer (some ⟨x.cb, 0, none⟩)) (fun _ hw => dd_cell (hw.has (i := 0) rfl) rfl) ?_
    refine s_nil 18 rfl rfl ?_
    refine s_fa 19 rfl rfl ?_
    refine s_ld 20 rfl rfl (v := .int .i64 (y.blocks.length : Nat)) (fun _ hw => doc_cell (hw.has (i := 1) rfl) rfl) ?_
    refine s_ge 21 rfl rfl rfl rfl ?_
    refine s_pickF 22 rfl rfl rfl ?_
    refine SX.next ?_
    refine CW.test rfl (fun h2 => ?_) (fun h2 => ?_)
    · skip
      have hno : x.abs.has b = false := by
        unfold DrS.has
        exact decide_eq_false (fun h => by have h3 : b < (x.next.length : Int) := h.2; omega)
      refine CW.seq ?_
      refine CW.reg [0, 1] rfl ?_
      refine s_as 6 rfl rfl ?_
      refine s_as 7 rfl rfl ?_
      refine SX.next ?_
      refine CW.ret ?_
      exact KN.ret (rs := [.tmp 6, .tmp 7]) Tryd.results55 rfl (fun w hw => ⟨(x, y), by rw [drAp_ask (show x.abs.askO y.pages b ≠ 0 by rw [show x.abs.askO y.pages b = 110 from askO_no hno]; decide), show x.abs.askO y.pages b = 110 from askO_no hno]; rfl, by rw [drAp_ask (show x.abs.askO y.pages b ≠ 0 by rw [show x.abs.askO y.pages b = 110 from askO_no hno]; decide), show x.abs.askO y.pages b = 110 from askO_no hno]; exact ⟨rfl, ⟨rfl, hnl, hbl⟩, rfl, .refl y⟩, hw⟩)
    · skip
      have hyes : x.abs.has b = true := by
        unfold DrS.has
        exact decide_eq_true ⟨by omega, by show b < (x.next.length : Int); omega⟩
      obtain ⟨i, hbi, hil⟩ := dhas_at' hyes
      have hil2 : i < x.next.length := hil
      have hil3 : i < x.bad.length := by omega
      refine CW.skip ?_
      refine KN.code ?_
      refine CW.seq ?_
      refine CW.seq ?_
      refine CW.reg [0, 1, 2, 3, 4, 5, 6] rfl ?_
      refine s_mv 23 rfl rfl ?_
      refine s_nil 24 rfl rfl ?_
      refine s_fa 25 rfl rfl ?_
      refine s_ld 26 rfl rfl (v := .slice x.B x.bad.length x.cc) (fun _ hw => dd_cell (hw.has (i := 0) rfl) rfl) ?_
      refine s_mv 27 rfl rfl ?_
      refine s_iaV 28 i (fun w hw => dd_bd (hw.has (i := 0) rfl)) rfl rfl rfl hbi hil3 ?_
      refine s_ldV 29 (fun w hw => dd_bd (hw.has (i := 0) rfl)) rfl rfl (by rw [Nat.mul_one]; exact boolsAt hil3) (by omega) ?_
      refine SX.next ?_
      refine CW.cond rfl (fun hbd => ?_) (fun hbd => ?_)
      · skip
        have hbd2 : x.abs.bd b = true := by rw [hbi]; exact hbd
        refine CW.seq ?_
        refine CW.reg [0, 1] rfl ?_
        refine s_as 6 rfl rfl ?_
        refine s_as 7 rfl rfl ?_
        refine SX.next ?_
        refine CW.ret ?_
        exact KN.ret (rs := [.tmp 6, .tmp 7]) Tryd.results55 rfl (fun w hw => ⟨(x, y), by rw [drAp_ask (show x.abs.askO y.pages b ≠ 0 by rw [show x.abs.askO y.pages b = 112 from askO_bad hyes hbd2]; decide), show x.abs.askO y.pages b = 112 from askO_bad hyes hbd2]; rfl, by rw [drAp_ask (show x.abs.askO y.pages b ≠ 0 by rw [show x.abs.askO y.pages b = 112 from askO_bad hyes hbd2]; decide), show x.abs.askO y.pages b = 112 from askO_bad hyes hbd2]; exact ⟨rfl, ⟨rfl, hnl, hbl⟩, rfl, .refl y⟩, hw⟩)
      · skip
        have hbd2 : x.abs.bd b = false := by rw [hbi]; exact hbd
        have hab : x.abs.askB b = 0 := askB_of hyes hbd2
        refine CW.skip ?_
        refine KN.code ?_
        refine CW.seq ?_
        refine CW.reg [0, 1, 2, 3, 4, 5, 6, 7] rfl ?_
        refine s_mv 30 rfl rfl ?_
        refine s_nil 31 rfl rfl ?_
        refine s_fa 32 rfl rfl ?_
        refine s_ld 33 rfl rfl (v := .slice x.A x.next.length x.c) (fun _ hw => dd_cell (hw.has (i := 0) rfl) rfl) ?_
        refine s_mv 34 rfl rfl ?_
        refine s_iaV 35 i (fun w hw => dd_nx (hw.has (i := 0) rfl)) rfl rfl rfl hbi hil2 ?_
        refine s_ldV 36 (fun w hw => dd_nx (hw.has (i := 0) rfl)) rfl rfl (by rw [Nat.mul_one]; exact intsAt hil2) (by omega) ?_
        refine s_as 8 rfl rfl ?_
        refine SX.next ?_
        refine CW.seq ?_
        refine CW.seq ?_
        refine CW.reg [0, 1, 2, 3, 4, 5, 6, 7, 8] rfl ?_
        refine s_mv 37 rfl rfl ?_
        refine s_mv 38 rfl rfl ?_
        refine s_nil 39 rfl rfl ?_
        refine s_fa 40 rfl rfl ?_
        refine s_ld 41 rfl rfl (v := .pointer (some ⟨x.cb, 0, none⟩)) (fun _ hw => dd_cell (hw.has (i := 0) rfl) rfl) ?_
        refine s_nil 42 rfl rfl ?_
        refine s_fa 43 rfl rfl ?_
        refine s_ld 44 rfl rfl (v := .int .i64 y.pages) (fun _ hw => doc_cell (hw.has (i := 1) rfl) rfl) ?_
        refine s_ge 45 rfl rfl rfl rfl ?_
        refine SX.next ?_
        refine CW.test rfl (fun hf => ?_) (fun hf => ?_)
        · skip
          have hfull : y.pages ≤ x.abs.nx b := by rw [hbi]; exact hf
          refine CW.seq ?_
          refine CW.reg [0, 1] rfl ?_
          refine s_as 6 rfl rfl ?_
          refine s_as 7 rfl rfl ?_
          refine SX.next ?_
          refine CW.ret ?_
          exact KN.ret (rs := [.tmp 6, .tmp 7]) Tryd.results55 rfl (fun w hw => ⟨(x, y), by rw [drAp_ask (show x.abs.askO y.pages b ≠ 0 by rw [show x.abs.askO y.pages b = 110 from askO_full hab hfull]; decide), show x.abs.askO y.pages b = 110 from askO_full hab hfull]; rfl, by rw [drAp_ask (show x.abs.askO y.pages b ≠ 0 by rw [show x.abs.askO y.pages b = 110 from askO_full hab hfull]; decide), show x.abs.askO y.pages b = 110 from askO_full hab hfull]; exact ⟨rfl, ⟨rfl, hnl, hbl⟩, rfl, .refl y⟩, hw⟩)
        · skip
          have hao : x.abs.askO y.pages b = 0 := askO_ok hab (by rw [hbi]; exact hf)
          have hnxi : x.abs.nx b = (x.next.getD i 0) := by rw [hbi]; rfl
          refine CW.skip ?_
          refine KN.code ?_
          refine CW.seq ?_
          refine CW.seq ?_
          refine CW.reg [0, 1, 2, 3, 4, 5, 6, 7, 8, 9] rfl ?_
          refine s_mv 46 rfl rfl ?_
          refine s_len 47 rfl rfl ?_
          refine s_mv 48 rfl rfl ?_
          refine s_nil 49 rfl rfl ?_
          refine s_fa 50 rfl rfl ?_
          refine s_ld 51 rfl rfl (v := .pointer (some ⟨x.cb, 0, none⟩)) (fun _ hw => dd_cell (hw.has (i := 0) rfl) rfl) ?_
          refine s_nil 52 rfl rfl ?_
          refine s_fa 53 rfl rfl ?_
          refine s_ld 54 rfl rfl (v := .int .i64 y.size) (fun _ hw => doc_cell (hw.has (i := 1) rfl) rfl) ?_
          refine s_ne 55 rfl rfl rfl rfl ?_
          refine SX.next ?_
          refine CW.test rfl (fun hsz => ?_) (fun hsz => ?_)
          · skip
            refine CW.seq ?_
            refine CW.reg [0, 1] rfl ?_
            refine s_as 6 rfl rfl ?_
            refine s_as 7 rfl rfl ?_
            refine SX.next ?_
            refine CW.ret ?_
            exact KN.ret (rs := [.tmp 6, .tmp 7]) Tryd.results55 rfl (fun w hw => ⟨(x, y), by rw [drAp_size hao hsz]; rfl, by rw [drAp_size hao hsz]; exact ⟨rfl, ⟨rfl, hnl, hbl⟩, rfl, .refl y⟩, hw⟩)
          · skip
            have hsz2 := Decidable.of_not_not hsz
            have hz1 : y.size ≤ 4096 := hy.z1
            rw [← hnxi]
            refine CW.skip ?_
            refine KN.code ?_
            refine CW.seq ?_
            refine CW.pre (fun _ h => h.ddO) ?_
            refine CW.reg [0, 1, 2, 3, 4, 5, 6, 7, 8] rfl ?_
            refine s_mv 56 rfl rfl ?_
            refine s_mv 57 rfl rfl ?_
            refine s_nil 58 rfl rfl ?_
            refine s_fa 59 rfl rfl ?_
            refine s_ldB 60 0 rfl rfl rfl (v := .int .i64 x.programs) rfl ?_
            refine s_add 61 rfl rfl rfl (r := wr (x.programs + 1)) rfl ?_
            refine s_nil 62 rfl rfl ?_
            refine s_fa 63 rfl rfl ?_
            refine s_stB 0 rfl rfl rfl rfl rfl (by show 4 < 6; decide) (fun _ _ => trivial) ?_
            refine SX.next ?_
            refine CW.seq ?_
            refine CW.reg [0, 1, 2, 3, 4, 5, 6, 7, 8, 9] rfl ?_
            refine s_mv 64 rfl rfl ?_
            refine s_nil 65 rfl rfl ?_
            refine s_fa 66 rfl rfl ?_
            refine s_ldB 67 0 rfl rfl rfl (v := .pointer (some ⟨x.cb, 0, none⟩)) rfl ?_
            refine s_mv 68 rfl rfl ?_
            refine s_mv 69 rfl rfl ?_
            refine s_build 70 rfl rfl (cells := #[.int .i64 b, .int .i64 (x.abs.nx b)]) (by kernel_rfl) ?_
            refine s_mv 71 rfl rfl ?_
            refine s_callP 72 [3, 0, 0, 0] (M := [docA x.cb y]) (R := [({ x with programs := wr (x.programs + 1) } : DdG).hd g, x.nxA, x.bdA]) (X := DcG) (v := fun z => .int .i64 (y.abs.pr b (x.abs.nx b) l).1) (pf := fun z => z.abs = (y.abs.pr b (x.abs.nx b) l).2 ∧ y.Same z) (M' := fun z => [docA x.cb z]) rfl rfl rfl rfl rfl (fun F' w' hR hM => by have := dprogram_spec F' x.cb y hy b (x.abs.nx b) A c l w' (fun w2 hf => hP _ (hR w2 hf).fr) (fun w2 hf => hB _ (hR w2 hf).fr) h8 (by omega) hM;  exact this) (fun _ _ _ => trivial) (fun y1 hy1 => ?_)
            have hyp1 : y1.pages = y.pages := (congrArg ChS.pages hy1.1).trans (pr_as y.abs b (x.abs.nx b) l).p
            refine s_as 9 rfl rfl ?_
            refine SX.next ?_
            refine CW.seq ?_
            refine CW.reg [0, 1, 2, 3, 4, 5, 6, 7, 8] rfl ?_
            refine s_mv 73 rfl rfl ?_
            refine s_nil 74 rfl rfl ?_
            refine s_fa 75 rfl rfl ?_
            refine s_ldB 76 1 rfl rfl rfl (v := .slice x.A x.next.length x.c) rfl ?_
            refine s_mv 77 rfl rfl ?_
            refine s_mv 78 rfl rfl ?_
            refine s_add 79 rfl rfl rfl (r := wr (x.abs.nx b + 1)) rfl ?_
            refine s_iaO 80 2 i rfl rfl rfl rfl hbi hil2 ?_
            refine s_stO 2 rfl rfl rfl rfl rfl hil2 (fun _ _ => trivial) ?_
            refine SX.next ?_
            refine CW.seq ?_
            refine CW.seq ?_
            refine CW.reg [0, 1] rfl ?_
            refine s_mv 81 rfl rfl ?_
            refine s_ne 82 rfl rfl rfl rfl ?_
            refine SX.next ?_
            refine CW.test rfl (fun hz3 => ?_) (fun hz3 => ?_)
            · skip
              refine CW.seq ?_
              refine CW.regD (.st true 0 (.st true 1 (.st true 2 (.st true 3 (.st true 4 (.st true 5 (.st true 6 (.st true 7 (.st true 8 (.st true 9 (.st true 10 (.st true 11 (.st true 12 (.st false 13 .done)))))))))))))) (St F w [({ x with programs := wr (x.programs + 1) } : DdG).hd g, docA x.cb y1]) mixed (by kernel_rfl) (fun _ h => h.drew) (fun _ h => h.pick [1, 0] rfl) ?_
              refine s_mv 83 rfl rfl ?_
              refine s_nil 84 rfl rfl ?_
              refine s_fa 85 rfl rfl ?_
              refine s_ldS 86 rfl rfl (v := .slice x.A x.next.length x.c) (fun _ hw => hw.blkCell (i := 0) (j := 1) rfl rfl) ?_
              refine s_mv 87 rfl rfl ?_
              refine s_mv 88 rfl rfl ?_
              refine s_nil 89 rfl rfl ?_
              refine s_fa 90 rfl rfl ?_
              refine s_ldS 91 rfl rfl (v := .pointer (some ⟨x.cb, 0, none⟩)) (fun _ hw => hw.blkCell (i := 0) (j := 0) rfl rfl) ?_
              refine s_nil 92 rfl rfl ?_
              refine s_fa 93 rfl rfl ?_
              refine s_ldS 94 rfl rfl (v := .int .i64 y.pages) (fun _ hw => doc_cell (hw.has (i := 1) rfl) (by rw [← hyp1]; rfl)) ?_
              refine s_iaO 95 2 i rfl rfl rfl rfl hbi hil2 ?_
              refine s_stO 2 rfl rfl rfl rfl rfl hil2 (fun _ h => h.pick [1, 0] rfl) ?_
              refine SX.next ?_
              refine CW.seq ?_
              refine CW.reg [0, 1, 2] rfl ?_
              refine s_mv 96 rfl rfl ?_
              refine s_as 6 rfl rfl ?_
              refine s_as 7 rfl rfl ?_
              refine SX.next ?_
              refine CW.ret ?_
              exact KN.ret (rs := [.tmp 6, .tmp 7]) Tryd.results55 rfl (fun w hw => ⟨({ ({ x with programs := wr (x.programs + 1) } : DdG) with next := x.next.set i y.pages }, y1), by rw [drAp_err hao hsz2 hz3]; rfl, by rw [drAp_err hao hsz2 hz3]; exact ⟨by unfold DrS.put; rw [show b.toNat = i by omega]; rfl, ⟨rfl, by simp only [List.length_set]; exact hnl, hbl⟩, hy1⟩, by
                have h1 := hw.pick [1, 1, 1, 0] rfl
                rw [intsSet, intsSet, dr_set, ← intsSet] at h1
                exact St.ddPut (x := ({ x with programs := wr (x.programs + 1) } : DdG)) i y.pages h1⟩)
            · skip
              have hz4 := Decidable.of_not_not hz3
              refine CW.skip ?_
              refine KN.code ?_
              refine CW.seq ?_
              refine CW.reg [0, 1, 2, 3] rfl ?_
              refine s_mv 97 rfl rfl ?_
              refine s_mv 98 rfl rfl ?_
              refine s_as 6 rfl rfl ?_
              refine s_as 7 rfl rfl ?_
              refine SX.next ?_
              refine CW.ret ?_
              exact KN.ret (rs := [.tmp 6, .tmp 7]) Tryd.results55 rfl (fun w hw => ⟨({ ({ x with programs := wr (x.programs + 1) } : DdG) with next := x.next.set i (wr (x.abs.nx b + 1)) }, y1), by rw [drAp_ok hao hsz2 hz4, ← hz4]; rfl, by rw [drAp_ok hao hsz2 hz4]; exact ⟨by unfold DrS.put; rw [show b.toNat = i by omega]; rfl, ⟨rfl, by simp only [List.length_set]; exact hnl, hbl⟩, hy1⟩, St.ddPut (x := ({ x with programs := wr (x.programs + 1) } : DdG)) i (wr (x.abs.nx b + 1)) (hw.pick [1, 1, 1, 0] rfl)⟩)

set_option maxHeartbeats 1600000 in

theorem ddErase_spec {F : Nat → Prop} {g cb : Nat} {x : DdG} {y : DcG} (ha : x.At cb y.blocks.length) (hy : y.abs.Ok) (b : Int) (w : World) (hP : ∀ w', Fr F w w' → PlIn y.pA y.plan w') (hw : St F w [docDA g x, docA cb y] w) : SpecP Tryd.prog 56 [.pointer (some ⟨g, 0, none⟩), .int .i64 b] F w (X := DdG × DcG) (fun _ => .int .i64 (drEr y.pages x.abs y.abs b).1) (fun z => z.1.abs = (drEr y.pages x.abs y.abs b).2.1 ∧ z.1.At cb y.blocks.length ∧ z.2.abs = (drEr y.pages x.abs y.abs b).2.2 ∧ y.Same z.2) (fun z => [docDA g z.1, docA cb z.2]) := by
  obtain ⟨hcb, hnl, hbl⟩ := ha
  subst hcb
  refine spec_ofC Tryd.func56 rfl Tryd.ntmps56 rfl hw ?_
  refine CW.seq ?_
  refine CW.reg [0] rfl ?_
  refine s_as 4 rfl rfl ?_
  refine SX.next ?_
  refine CW.seq ?_
  refine CW.seq ?_
  refine CW.reg [0, 1, 2, 3, 4, 5, 6, 7, 8, 9, 10, 11, 12] rfl ?_
  refine s_mv 6 rfl rfl ?_
  refine s_lt 7 rfl rfl rfl rfl ?_
  refine s_mv 8 rfl rfl ?_
  refine SX.bool 8 rfl (fun hb => ?_) (fun hb => ?_)
  · skip
    have h1 := of_decide_eq_true hb
    have hno : x.abs.has b = false := by
      unfold DrS.has
      exact decide_eq_false (fun h => by have h3 : b < (x.next.length : Int) := h.2; omega)
    refine SX.skip rfl ?_
    refine SX.skip rfl ?_
    refine SX.skip rfl ?_
    refine SX.skip rfl ?_
    refine SX.skip rfl ?_
    refine SX.skip rfl ?_
    refine SX.skip rfl ?_
    refine SX.skip rfl ?_
    refine SX.skip rfl ?_
    refine s_pickT 18 rfl rfl rfl ?_
    refine SX.next ?_
    refine CW.condT rfl ?_
    refine CW.seq ?_
    refine CW.reg [0] rfl ?_
    refine s_as 4 rfl rfl ?_
    refine SX.next ?_
    refine CW.ret ?_
    exact KN.ret (rs := [.tmp 4]) Tryd.results56 rfl (fun w hw => ⟨(x, y), by rw [drEr_no hno]; rfl, by rw [drEr_no hno]; exact ⟨rfl, ⟨rfl, hnl, hbl⟩, rfl, .refl y⟩, hw⟩)
  · skip
    have h1 := of_decide_eq_false hb
    refine s_mv 9 rfl rfl ?_
    refine s_mv 10 rfl rfl ?_
    refine s_nil 11 rfl rfl ?_
    refine s_fa 12 rfl rfl ?_
    refine s_ld 13 rfl rfl (v := .pointer (some ⟨x.cb, 0, none⟩)) (fun _ hw => dd_cell (hw.has (i := 0) rfl) rfl) ?_
    refine s_nil 14 rfl rfl ?_
    refine s_fa 15 rfl rfl ?_
    refine s_ld 16 rfl rfl (v := .int .i64 (y.blocks.length : Nat)) (fun _ hw => doc_cell (hw.has (i := 1) rfl) rfl) ?_
    refine s_ge 17 rfl rfl rfl rfl ?_
    refine s_pickF 18 rfl rfl rfl ?_
    refine SX.next ?_
    refine CW.test rfl (fun h2 => ?_) (fun h2 => ?_)
    · skip
      have hno : x.abs.has b = false := by
        unfold DrS.has
        exact decide_eq_false (fun h => by have h3 : b < (x.next.length : Int) := h.2; omega)
      refine CW.seq ?_
      refine CW.reg [0] rfl ?_
      refine s_as 4 rfl rfl ?_
      refine SX.next ?_
      refine CW.ret ?_
      exact KN.ret (rs := [.tmp 4]) Tryd.results56 rfl (fun w hw => ⟨(x, y), by rw [drEr_no hno]; rfl, by rw [drEr_no hno]; exact ⟨rfl, ⟨rfl, hnl, hbl⟩, rfl, .refl y⟩, hw⟩)
    · skip
      have hyes : x.abs.has b = true := by
        unfold DrS.has
        exact decide_eq_true ⟨by omega, by show b < (x.next.length : Int); omega⟩
      obtain ⟨i, hbi, hil⟩ := dhas_at' hyes
      have hil2 : i < x.next.length := hil
      have hil3 : i < x.bad.length := by omega
      refine CW.skip ?_
      refine KN.code ?_
      refine CW.seq ?_
      refine CW.seq ?_
      refine CW.reg [0, 1, 2, 3, 4, 5, 6] rfl ?_
      refine s_mv 19 rfl rfl ?_
      refine s_nil 20 rfl rfl ?_
      refine s_fa 21 rfl rfl ?_
      refine s_ld 22 rfl rfl (v := .slice x.B x.bad.length x.cc) (fun _ hw => dd_cell (hw.has (i := 0) rfl) rfl) ?_
      refine s_mv 23 rfl rfl ?_
      refine s_iaV 24 i (fun w hw => dd_bd (hw.has (i := 0) rfl)) rfl rfl rfl hbi hil3 ?_
      refine s_ldV 25 (fun w hw => dd_bd (hw.has (i := 0) rfl)) rfl rfl (by rw [Nat.mul_one]; exact boolsAt hil3) (by omega) ?_
      refine SX.next ?_
      refine CW.cond rfl (fun hbd => ?_) (fun hbd => ?_)
      · skip
        have hbd2 : x.abs.bd b = true := by rw [hbi]; exact hbd
        refine CW.seq ?_
        refine CW.reg [0] rfl ?_
        refine s_as 4 rfl rfl ?_
        refine SX.next ?_
        refine CW.ret ?_
        exact KN.ret (rs := [.tmp 4]) Tryd.results56 rfl (fun w hw => ⟨(x, y), by rw [drEr_bad hyes hbd2]; rfl, by rw [drEr_bad hyes hbd2]; exact ⟨rfl, ⟨rfl, hnl, hbl⟩, rfl, .refl y⟩, hw⟩)
      · skip
        have hbd2 : x.abs.bd b = false := by rw [hbi]; exact hbd
        have hab : x.abs.askB b = 0 := askB_of hyes hbd2
        refine CW.skip ?_
        refine KN.code ?_
        refine CW.seq ?_
        refine CW.pre (fun _ h => h.ddO) ?_
        refine CW.reg [0, 1, 2, 3, 4, 5, 6, 7, 8] rfl ?_
        refine s_mv 26 rfl rfl ?_
        refine s_mv 27 rfl rfl ?_
        refine s_nil 28 rfl rfl ?_
        refine s_fa 29 rfl rfl ?_
        refine s_ldB 30 0 rfl rfl rfl (v := .int .i64 x.erases) rfl ?_
        refine s_add 31 rfl rfl rfl (r := wr (x.erases + 1)) rfl ?_
        refine s_nil 32 rfl rfl ?_
        refine s_fa 33 rfl rfl ?_
        refine s_stB 0 rfl rfl rfl rfl rfl (by show 5 < 6; decide) (fun _ _ => trivial) ?_
        refine SX.next ?_
        refine CW.seq ?_
        refine CW.reg [0, 1, 2, 3, 4, 5, 6] rfl ?_
        refine s_mv 34 rfl rfl ?_
        refine s_nil 35 rfl rfl ?_
        refine s_fa 36 rfl rfl ?_
        refine s_ldB 37 0 rfl rfl rfl (v := .pointer (some ⟨x.cb, 0, none⟩)) rfl ?_
        refine s_mv 38 rfl rfl ?_
        refine s_callP 39 [3, 0, 0, 0] (M := [docA x.cb y]) (R := [({ x with erases := wr (x.erases + 1) } : DdG).hd g, x.nxA, x.bdA]) (X := DcG) (v := fun z => .int .i64 (y.abs.er b).1) (pf := fun z => z.abs = (y.abs.er b).2 ∧ y.Same z) (M' := fun z => [docA x.cb z]) rfl rfl rfl rfl rfl (fun F' w' hR hM => by have := derase_spec F' x.cb y hy b w' (fun w2 hf => hP _ (hR w2 hf).fr) hM;  exact this) (fun _ _ _ => trivial) (fun y1 hy1 => ?_)
        have hyp1 : y1.pages = y.pages := (congrArg ChS.pages hy1.1).trans (er_as y.abs b).p
        refine s_as 5 rfl rfl ?_
        refine SX.next ?_
        refine CW.seq ?_
        refine CW.reg [0, 1, 2, 3, 4, 5, 6] rfl ?_
        refine s_mv 40 rfl rfl ?_
        refine s_nil 41 rfl rfl ?_
        refine s_fa 42 rfl rfl ?_
        refine s_ldB 43 1 rfl rfl rfl (v := .slice x.A x.next.length x.c) rfl ?_
        refine s_mv 44 rfl rfl ?_
        refine s_iaO 45 2 i rfl rfl rfl rfl hbi hil2 ?_
        refine s_stO 2 rfl rfl rfl rfl rfl hil2 (fun _ _ => trivial) ?_
        refine SX.next ?_
        refine CW.seq ?_
        refine CW.seq ?_
        refine CW.reg [0, 1] rfl ?_
        refine s_mv 46 rfl rfl ?_
        refine s_ne 47 rfl rfl rfl rfl ?_
        refine SX.next ?_
        refine CW.test rfl (fun hz3 => ?_) (fun hz3 => ?_)
        · skip
          refine CW.regD (.st true 0 (.st true 1 (.st true 2 (.st true 3 (.st true 4 (.st true 5 (.st true 6 (.st true 7 (.st true 8 (.st true 9 (.st true 10 (.st true 11 (.st true 12 (.st false 13 .done)))))))))))))) (St F w [({ x with erases := wr (x.erases + 1) } : DdG).hd g, docA x.cb y1]) mixed (by kernel_rfl) (fun _ h => h.drew) (fun _ h => h.pick [1, 0] rfl) ?_
          refine s_mv 48 rfl rfl ?_
          refine s_nil 49 rfl rfl ?_
          refine s_fa 50 rfl rfl ?_
          refine s_ldS 51 rfl rfl (v := .slice x.A x.next.length x.c) (fun _ hw => hw.blkCell (i := 0) (j := 1) rfl rfl) ?_
          refine s_mv 52 rfl rfl ?_
          refine s_mv 53 rfl rfl ?_
          refine s_nil 54 rfl rfl ?_
          refine s_fa 55 rfl rfl ?_
          refine s_ldS 56 rfl rfl (v := .pointer (some ⟨x.cb, 0, none⟩)) (fun _ hw => hw.blkCell (i := 0) (j := 0) rfl rfl) ?_
          refine s_nil 57 rfl rfl ?_
          refine s_fa 58 rfl rfl ?_
          refine s_ldS 59 rfl rfl (v := .int .i64 y.pages) (fun _ hw => doc_cell (hw.has (i := 1) rfl) (by rw [← hyp1]; rfl)) ?_
          refine s_iaO 60 2 i rfl rfl rfl rfl hbi hil2 ?_
          refine s_stO 2 rfl rfl rfl rfl rfl hil2 (fun _ h => h.pick [1, 0] rfl) ?_
          refine SX.next ?_
          refine CW.seq ?_
          refine CW.reg [0, 1] rfl ?_
          refine s_mv 61 rfl rfl ?_
          refine s_as 4 rfl rfl ?_
          refine SX.next ?_
          refine CW.ret ?_
          exact KN.ret (rs := [.tmp 4]) Tryd.results56 rfl (fun w hw => ⟨({ ({ x with erases := wr (x.erases + 1) } : DdG) with next := x.next.set i y.pages }, y1), by rw [drEr_do hab]; rfl, by rw [drEr_do hab, if_pos hz3]; exact ⟨by unfold DrS.put; rw [show b.toNat = i by omega]; rfl, ⟨rfl, by simp only [List.length_set]; exact hnl, hbl⟩, hy1⟩, by
            have h1 := hw.pick [1, 1, 1, 0] rfl
            rw [intsSet, intsSet, dr_set, ← intsSet] at h1
            exact St.ddPut (x := ({ x with erases := wr (x.erases + 1) } : DdG)) i y.pages h1⟩)
        · skip
          refine CW.skip ?_
          refine KN.code ?_
          refine CW.seq ?_
          refine CW.reg [0, 1] rfl ?_
          refine s_mv 61 rfl rfl ?_
          refine s_as 4 rfl rfl ?_
          refine SX.next ?_
          refine CW.ret ?_
          exact KN.ret (rs := [.tmp 4]) Tryd.results56 rfl (fun w hw => ⟨({ ({ x with erases := wr (x.erases + 1) } : DdG) with next := x.next.set i 0 }, y1), by rw [drEr_do hab]; rfl, by rw [drEr_do hab, if_neg hz3]; exact ⟨by unfold DrS.put; rw [show b.toNat = i by omega]; rfl, ⟨rfl, by simp only [List.length_set]; exact hnl, hbl⟩, hy1⟩, St.ddPut (x := ({ x with erases := wr (x.erases + 1) } : DdG)) i 0 (hw.pick [1, 1, 1, 0] rfl)⟩)

theorem ddFresh_spec {F : Nat → Prop} {g cb : Nat} {x : DdG} {y : DcG} (ha : x.At cb y.blocks.length) (hy : y.abs.Ok) (b : Int) (w : World) (hw : St F w [docDA g x, docA cb y] w) : SpecP Tryd.prog 57 [.pointer (some ⟨g, 0, none⟩), .int .i64 b] F w (X := DdG) (fun _ => oneOf []) (fun z => z.abs = drFr x.abs y.abs b ∧ z.At cb y.blocks.length) (fun z => [docDA g z, docA cb y]) := by
  obtain ⟨hcb, hnl, hbl⟩ := ha
  subst hcb
  refine spec_ofC Tryd.func57 rfl Tryd.ntmps57 rfl hw ?_
  refine CW.seq ?_
  refine CW.seq ?_
  refine CW.reg [0, 1, 2] rfl ?_
  refine s_mv 5 rfl rfl ?_
  refine s_mv 6 rfl rfl ?_
  refine s_call1 7 rfl rfl rfl rfl (fun w hw => ddIs_spec ⟨rfl, hnl, hbl⟩ b w (hw.has (i := 0) rfl) (hw.has (i := 1) rfl)) (fun _ _ => trivial) ?_
  refine SX.next ?_
  refine CW.test rfl (fun hz => ?_) (fun hz => ?_)
  · skip
    refine CW.ret ?_
    exact KN.ret (rs := []) Tryd.results57 rfl (fun w hw => ⟨x, rfl, ⟨by unfold drFr; rw [if_neg (fun h => hz h.1)], ⟨rfl, hnl, hbl⟩⟩, hw⟩)
  · skip
    have hab := Decidable.of_not_not hz
    obtain ⟨hhas, hbad⟩ := askB_zero hab
    obtain ⟨i, hbi, hil⟩ := dhas_at' hhas
    have hil2 : i < x.next.length := hil
    have hil4 : i < y.blocks.length := by omega
    have hp1 : y.pages ≤ 64 := hy.p1
    have hp0 : 1 ≤ y.pages := hy.p0
    obtain ⟨bk, hbk⟩ : ∃ bk, y.blocks[i]? = some bk := ⟨_, List.getElem?_eq_getElem hil4⟩
    have hbm := List.mem_of_getElem? hbk
    have hbp := dbk_pgs hy hbk
    obtain ⟨np, hnp⟩ := Int.eq_ofNat_of_zero_le (show 0 ≤ y.pages by omega)
    refine CW.skip ?_
    refine KN.code ?_
    refine CW.seq ?_
    refine CW.seq ?_
    refine CW.reg [0] rfl ?_
    refine s_as 4 rfl rfl ?_
    refine SX.next ?_
    refine CW.block ?_
    refine CW.loop (G := Nat) (fun k => [(0, .pointer (some ⟨g, 0, none⟩)), (1, .int .i64 b), (4, .int .i64 (k : Nat))]) (fun _ => St F w [docDA g x, docA x.cb y]) (fun k => k ≤ np ∧ ∀ j, j < k → (y.abs.pg b (j : Nat)).used = false) (fun k => np - k) 0 ⟨rfl, rfl, rfl, trivial⟩ (fun _ h => h) ⟨Nat.zero_le _, fun j h => by omega⟩ ?_
    rintro k ⟨hk2, hall⟩
    refine CW.seq ?_
    refine CW.seq ?_
    refine CW.reg [0, 1, 2, 3, 4, 5, 6, 7, 8] rfl ?_
    refine s_mv 8 rfl rfl ?_
    refine s_mv 9 rfl rfl ?_
    refine s_nil 10 rfl rfl ?_
    refine s_fa 11 rfl rfl ?_
    refine s_ld 12 rfl rfl (v := .pointer (some ⟨x.cb, 0, none⟩)) (fun _ hw => dd_cell (hw.has (i := 0) rfl) rfl) ?_
    refine s_nil 13 rfl rfl ?_
    refine s_fa 14 rfl rfl ?_
    refine s_ld 15 rfl rfl (v := .int .i64 ((np : Nat) : Int)) (fun _ hw => doc_cell (hw.has (i := 1) rfl) (by rw [← hnp]; rfl)) ?_
    refine s_lt 16 rfl rfl rfl rfl ?_
    refine SX.next ?_
    refine CW.test rfl (fun hc => ?_) (fun hc => ?_)
    · skip
      have hkl : k < np := by omega
      obtain ⟨pg, hpg⟩ : ∃ pg, bk.pages[k]? = some pg := ⟨_, List.getElem?_eq_getElem (by omega)⟩
      have hpe : (y.abs.pg b (k : Nat)).used = pg.used := by
        unfold ChS.pg ChS.bk
        rw [hbi, Int.toNat_natCast, Int.toNat_natCast, List.getD_eq_getElem?_getD, List.getD_eq_getElem?_getD, dabs_bk hbk]
        show ((bk.pages.map DpG.abs)[k]?.getD PgS.nul).used = _
        rw [List.getElem?_map, hpg]
        rfl
      refine CW.skip ?_
      refine KN.code ?_
      refine CW.seq ?_
      refine CW.block ?_
      refine CW.seq ?_
      refine CW.reg [0, 1, 2, 3, 4, 5, 6, 7, 8, 9, 10, 11, 12, 13] rfl ?_
      refine s_mv 19 rfl rfl ?_
      refine s_nil 20 rfl rfl ?_
      refine s_fa 21 rfl rfl ?_
      refine s_ld 22 rfl rfl (v := .pointer (some ⟨x.cb, 0, none⟩)) (fun _ hw => dd_cell (hw.has (i := 0) rfl) rfl) ?_
      refine s_nil 23 rfl rfl ?_
      refine s_fa 24 rfl rfl ?_
      refine s_ld 25 rfl rfl (v := .slice y.A y.blocks.length y.c) (fun _ hw => doc_cell (hw.has (i := 1) rfl) rfl) ?_
      refine s_mv 26 rfl rfl ?_
      refine s_iaV 27 i (fun w hw => doc_hds (hw.has (i := 1) rfl)) rfl rfl rfl hbi hil4 ?_
      refine s_ldV 28 (fun w hw => doc_hds (hw.has (i := 1) rfl)) rfl rfl (hdr_at1 hbk) (by omega) ?_
      refine s_mv 29 rfl rfl ?_
      refine s_iaV 30 k (fun w hw => db_rows (doc_bk (hw.has (i := 1) rfl) hbm)) rfl rfl rfl rfl (by omega) ?_
      refine s_fa 31 rfl rfl ?_
      refine s_ld 32 rfl rfl (v := .bool pg.used) (fun _ hw => dpage_cell (hw.has (i := 1) rfl) hbk hpg (j := 1) rfl) ?_
      refine SX.next ?_
      refine CW.cond rfl (fun hu => ?_) (fun hu => ?_)
      · skip
        refine CW.ret ?_
        exact KN.ret (rs := []) Tryd.results57 rfl (fun w hw => ⟨x, rfl, ⟨by unfold drFr; rw [if_neg (fun h => by
          have h2 := h.2 k (by show k < y.pages.toNat; rw [hnp]; omega)
          rw [hpe, hu] at h2
          cases h2)], ⟨rfl, hnl, hbl⟩⟩, hw⟩)
      · skip
        refine CW.skip ?_
        refine KN.blk ?_
        refine KN.code ?_
        refine CW.reg [0, 1, 2] rfl ?_
        refine s_mv 17 rfl rfl ?_
        refine s_add 18 rfl rfl rfl (r := ((k + 1 : Nat) : Int)) (w64 (by omega)) ?_
        refine s_as 4 rfl rfl ?_
        refine SX.end_ ?_
        exact KN.back (k + 1) ⟨rfl, rfl, rfl, trivial⟩ (fun _ h => h) ⟨by omega, fun j hj => by
          by_cases hjk : j = k
          · rw [hjk, hpe]; exact hu
          · exact hall j (by omega)⟩ (by omega)
    · skip
      obtain rfl : k = np := by omega
      refine CW.exit rfl ?_
      refine KN.code ?_
      refine CW.pre (fun _ h => h.ddO) ?_
      refine CW.reg [0, 1, 2, 3, 4, 5, 6] rfl ?_
      refine s_mv 33 rfl rfl ?_
      refine s_nil 34 rfl rfl ?_
      refine s_fa 35 rfl rfl ?_
      refine s_ldB 36 0 rfl rfl rfl (v := .slice x.A x.next.length x.c) rfl ?_
      refine s_mv 37 rfl rfl ?_
      refine s_iaO 38 1 i rfl rfl rfl rfl hbi hil2 ?_
      refine s_stO 1 rfl rfl rfl rfl rfl hil2 (fun _ _ => trivial) ?_
      refine SX.end_ ?_
      exact KN.ret (rs := []) Tryd.results57 rfl (fun w hw => ⟨{ x with next := x.next.set i 0 }, rfl, ⟨by unfold drFr; rw [if_pos ⟨hab, fun j hj => hall j (by have h3 : j < y.pages.toNat := hj; rw [hnp] at h3; omega)⟩]; unfold DrS.put; rw [show b.toNat = i by omega]; rfl, ⟨rfl, by simp only [List.length_set]; exact hnl, hbl⟩⟩, St.ddPut i 0 (hw.pick [0, 0, 0, 0] rfl)⟩)

structure NdG where
  i : Nat
  A : Option Addr
  c : Nat
  B : Option Addr
  cc : Nat

set_option maxHeartbeats 1600000 in

theorem ddNew_spec (cb : Nat) (y : DcG) (hy : y.abs.Ok) (w : World) (hch : Has (docA cb y) w) : SpecX Tryd.prog 53 [.pointer (some ⟨cb, 0, none⟩)] w (X := Nat × DdG) (fun z => .pointer (some ⟨z.1, 0, none⟩)) (fun z => z.2.abs = drNew0 y.abs ∧ z.2.At cb y.blocks.length) (fun z => [docDA z.1 z.2]) := by
  have hb64 : y.blocks.length ≤ 64 := by
    have := hy.b1
    unfold DcG.abs at this
    simp only [List.length_map] at this
    exact this
  refine spec_of Tryd.func53 rfl Tryd.ntmps53 rfl ?_
  refine CW.seq ?_
  refine CW.reg [0] rfl ?_
  refine s_as 2 rfl rfl ?_
  refine SX.next ?_
  refine CW.seq ?_
  refine CW.reg [0, 1, 2, 3] rfl ?_
  refine s_mv 5 rfl rfl ?_
  refine s_build 6 rfl rfl (cells := #[.pointer (some ⟨cb, 0, none⟩), .slice none 0 0, .slice none 0 0, .int .i64 0, .int .i64 0, .int .i64 0]) (by kernel_rfl) ?_
  refine s_box 7 rfl rfl (fun _ _ => trivial) (fun g => ?_)
  refine s_as 3 rfl rfl ?_
  refine SX.next ?_
  refine CW.seq ?_
  refine CW.seq ?_
  refine CW.reg [0] rfl ?_
  refine s_as 4 rfl rfl ?_
  refine SX.next ?_
  refine CW.block ?_
  refine CW.loop (G := NdG) (fun z => [(0, .pointer (some ⟨cb, 0, none⟩)), (3, .pointer (some ⟨g, 0, none⟩)), (4, .int .i64 (z.i : Nat))]) (fun z => Sto w [blk g 101 #[.pointer (some ⟨cb, 0, none⟩), .slice z.A z.i z.c, .slice z.B z.i z.cc, .int .i64 0, .int .i64 0, .int .i64 0], own 3 1 z.A z.i z.c (ints .i64 (List.replicate z.i y.pages)), own 4 1 z.B z.i z.cc (bools ((y.blocks.map (·.marked)).take z.i))]) (fun z => z.i ≤ y.blocks.length) (fun z => y.blocks.length - z.i) ⟨0, none, 0, none, 0⟩ ⟨rfl, rfl, rfl, trivial⟩ (fun _ h => by
    have h1 := (h.begin_ 3 1).begin_ 4 1
    exact h1.pick [2, 1, 0] rfl) (Nat.zero_le _) ?_
  rintro ⟨i, A, c, B, cc⟩ hi
  simp only at hi
  dsimp only
  refine CW.seq ?_
  refine CW.seq ?_
  refine CW.reg [0, 1, 2, 3, 4, 5] rfl ?_
  refine s_mv 8 rfl rfl ?_
  refine s_mv 9 rfl rfl ?_
  refine s_nil 10 rfl rfl ?_
  refine s_fa 11 rfl rfl ?_
  refine s_ld 12 rfl rfl (v := .int .i64 (y.blocks.length : Nat)) (fun _ hw => doc_cell (hw.old hch) rfl) ?_
  refine s_lt 13 rfl rfl rfl rfl ?_
  refine SX.next ?_
  refine CW.test rfl (fun hc => ?_) (fun hc => ?_)
  · skip
    have hil : i < y.blocks.length := by omega
    obtain ⟨bk, hbk⟩ : ∃ bk, y.blocks[i]? = some bk := ⟨_, List.getElem?_eq_getElem hil⟩
    have hrl : (List.replicate i y.pages).length = i := List.length_replicate
    refine CW.skip ?_
    refine KN.code ?_
    refine CW.seq ?_
    refine CW.block ?_
    refine CW.seq ?_
    refine CW.regD (.st true 0 (.st true 1 (.st true 2 (.st true 3 (.st true 5 (.st true 6 (.st true 7 (.st true 8 (.alt 4 (.st false 9 (.st false 10 (.st true 11 (.st true 12 (.st false 13 .done))))) (.st false 9 (.st false 4 (.st false 10 (.st true 11 (.st true 12 (.st false 13 .done))))))))))))))) (Sto w []) mixed (by kernel_rfl) (fun _ h => h.drew) (fun _ h => h.nothing) ?_
    refine s_mv 16 rfl rfl ?_
    refine s_mv 17 rfl rfl ?_
    refine s_nil 18 rfl rfl ?_
    refine s_fa 19 rfl rfl ?_
    refine s_mv 21 rfl rfl ?_
    refine s_nil 22 rfl rfl ?_
    refine s_fa 23 rfl rfl ?_
    refine s_ldS 24 rfl rfl (v := .int .i64 y.pages) (fun _ hw => doc_cell (hw.old hch) rfl) ?_
    refine SX.alt ?_ ?_
    · skip
      refine s_ld 20 rfl rfl (v := .slice A i c) (fun _ hw => hw.blkCell (i := 0) (j := 1) rfl rfl) ?_
      refine s_bsl 25 rfl rfl (cells := #[.int .i64 y.pages]) (by kernel_rfl) rfl (fun _ h => h.nothing) (fun gT => ?_)
      refine s_app 26 2 rfl rfl rfl rfl (ys := [.int .i64 y.pages]) (fun w hw => Has.cong ((hw.has (i := 0) rfl).blk_sl (m := 1) rfl) rfl) rfl rfl (by omega) (by unfold maxLen; omega) (by omega) (fun _ _ _ h => h.nothing) (fun A2 c2 hc2 => ?_)
      refine s_nil 27 rfl rfl ?_
      refine s_fa 28 rfl rfl ?_
      refine s_stB 1 rfl rfl rfl rfl rfl (by show 1 < 6; decide) (fun _ h => h.nothing) ?_
      refine SX.next ?_
      refine CW.regD (.st true 0 (.st true 1 (.st true 2 (.st true 3 (.st true 5 (.st true 6 (.st true 7 (.st true 8 (.st true 9 (.st true 10 (.st true 11 (.alt 4 (.st false 12 (.st false 13 (.st true 14 (.st true 15 (.st false 16 .done))))) (.st false 12 (.st false 4 (.st false 13 (.st true 14 (.st true 15 (.st false 16 .done)))))))))))))))))) (Sto w []) mixed (by kernel_rfl) (fun _ h => h.drew) (fun _ h => h.nothing) ?_
      refine s_mv 29 rfl rfl ?_
      refine s_mv 30 rfl rfl ?_
      refine s_nil 31 rfl rfl ?_
      refine s_fa 32 rfl rfl ?_
      refine s_mv 34 rfl rfl ?_
      refine s_nil 35 rfl rfl ?_
      refine s_fa 36 rfl rfl ?_
      refine s_ldS 37 rfl rfl (v := .slice y.mA y.blocks.length y.mc) (fun _ hw => doc_cell (hw.old hch) rfl) ?_
      refine s_mv 38 rfl rfl ?_
      refine s_iaV 39 i (fun w hw => doc_mks (hw.old hch)) rfl rfl rfl rfl hil ?_
      refine s_ldVS 40 (fun w hw => doc_mks (hw.old hch)) rfl rfl (by rw [Nat.mul_one]; exact mk_at hbk) (by omega) ?_
      refine SX.alt ?_ ?_
      · skip
        refine s_ld 33 rfl rfl (v := .slice B i cc) (fun _ hw => hw.blkCell (i := 1) (j := 2) rfl rfl) ?_
        refine s_bsl 41 rfl rfl (cells := #[.bool bk.marked]) (by kernel_rfl) rfl (fun _ h => h.nothing) (fun gT2 => ?_)
        refine s_app 42 4 rfl rfl rfl rfl (ys := [.bool bk.marked]) (fun w hw => Has.cong ((hw.has (i := 0) rfl).blk_sl (m := 1) rfl) rfl) rfl rfl (by omega) (by unfold maxLen; omega) (by omega) (fun _ _ _ h => h.nothing) (fun B2 cc2 hcc2 => ?_)
        refine s_nil 43 rfl rfl ?_
        refine s_fa 44 rfl rfl ?_
        refine s_stB 2 rfl rfl rfl rfl rfl (by show 2 < 6; decide) (fun _ h => h.nothing) ?_
        refine SX.end_ ?_
        refine KN.blk ?_
        refine KN.code ?_
        refine CW.reg [0, 1, 2] rfl ?_
        refine s_mv 14 rfl rfl ?_
        refine s_add 15 rfl rfl rfl (r := ((i + 1 : Nat) : Int)) (w64 (by omega)) ?_
        refine s_as 4 rfl rfl ?_
        refine SX.end_ ?_
        exact KN.back ⟨i + 1, A2, c2, B2, cc2⟩ ⟨rfl, rfl, rfl, trivial⟩ (fun _ h => by
          have e1 : ints .i64 (List.replicate (i + 1) y.pages) = ints .i64 (List.replicate i y.pages) ++ [.int .i64 y.pages] := by
            rw [List.replicate_succ']
            simp [ints]
          have e2 : bools ((y.blocks.map (·.marked)).take (i + 1)) = bools ((y.blocks.map (·.marked)).take i) ++ [.bool bk.marked] := by
            rw [List.take_add_one, List.getElem?_map, hbk]
            simp [bools]
          simp only
          rw [e1, e2]
          exact h.pick [2, 2, 2] rfl) (by simp only; omega) (by simp only; omega)
      · skip
        refine s_bsl 41 rfl rfl (cells := #[.bool bk.marked]) (by kernel_rfl) rfl (fun _ h => h.nothing) (fun gT2 => ?_)
        refine s_ld 33 rfl rfl (v := .slice B i cc) (fun _ hw => hw.blkCell (i := 2) (j := 2) rfl rfl) ?_
        refine s_app 42 4 rfl rfl rfl rfl (ys := [.bool bk.marked]) (fun w hw => Has.cong ((hw.has (i := 0) rfl).blk_sl (m := 1) rfl) rfl) rfl rfl (by omega) (by unfold maxLen; omega) (by omega) (fun _ _ _ h => h.nothing) (fun B2 cc2 hcc2 => ?_)
        refine s_nil 43 rfl rfl ?_
        refine s_fa 44 rfl rfl ?_
        refine s_stB 2 rfl rfl rfl rfl rfl (by show 2 < 6; decide) (fun _ h => h.nothing) ?_
        refine SX.end_ ?_
        refine KN.blk ?_
        refine KN.code ?_
        refine CW.reg [0, 1, 2] rfl ?_
        refine s_mv 14 rfl rfl ?_
        refine s_add 15 rfl rfl rfl (r := ((i + 1 : Nat) : Int)) (w64 (by omega)) ?_
        refine s_as 4 rfl rfl ?_
        refine SX.end_ ?_
        exact KN.back ⟨i + 1, A2, c2, B2, cc2⟩ ⟨rfl, rfl, rfl, trivial⟩ (fun _ h => by
          have e1 : ints .i64 (List.replicate (i + 1) y.pages) = ints .i64 (List.replicate i y.pages) ++ [.int .i64 y.pages] := by
            rw [List.replicate_succ']
            simp [ints]
          have e2 : bools ((y.blocks.map (·.marked)).take (i + 1)) = bools ((y.blocks.map (·.marked)).take i) ++ [.bool bk.marked] := by
            rw [List.take_add_one, List.getElem?_map, hbk]
            simp [bools]
          simp only
          rw [e1, e2]
          exact h.pick [2, 2, 2] rfl) (by simp only; omega) (by simp only; omega)
    · skip
      refine s_bsl 25 rfl rfl (cells := #[.int .i64 y.pages]) (by kernel_rfl) rfl (fun _ h => h.nothing) (fun gT => ?_)
      refine s_ld 20 rfl rfl (v := .slice A i c) (fun _ hw => hw.blkCell (i := 1) (j := 1) rfl rfl) ?_
      refine s_app 26 2 rfl rfl rfl rfl (ys := [.int .i64 y.pages]) (fun w hw => Has.cong ((hw.has (i := 0) rfl).blk_sl (m := 1) rfl) rfl) rfl rfl (by omega) (by unfold maxLen; omega) (by omega) (fun _ _ _ h => h.nothing) (fun A2 c2 hc2 => ?_)
      refine s_nil 27 rfl rfl ?_
      refine s_fa 28 rfl rfl ?_
      refine s_stB 1 rfl rfl rfl rfl rfl (by show 1 < 6; decide) (fun _ h => h.nothing) ?_
      refine SX.next ?_
      refine CW.regD (.st true 0 (.st true 1 (.st true 2 (.st true 3 (.st true 5 (.st true 6 (.st true 7 (.st true 8 (.st true 9 (.st true 10 (.st true 11 (.alt 4 (.st false 12 (.st false 13 (.st true 14 (.st true 15 (.st false 16 .done))))) (.st false 12 (.st false 4 (.st false 13 (.st true 14 (.st true 15 (.st false 16 .done)))))))))))))))))) (Sto w []) mixed (by kernel_rfl) (fun _ h => h.drew) (fun _ h => h.nothing) ?_
      refine s_mv 29 rfl rfl ?_
      refine s_mv 30 rfl rfl ?_
      refine s_nil 31 rfl rfl ?_
      refine s_fa 32 rfl rfl ?_
      refine s_mv 34 rfl rfl ?_
      refine s_nil 35 rfl rfl ?_
      refine s_fa 36 rfl rfl ?_
      refine s_ldS 37 rfl rfl (v := .slice y.mA y.blocks.length y.mc) (fun _ hw => doc_cell (hw.old hch) rfl) ?_
      refine s_mv 38 rfl rfl ?_
      refine s_iaV 39 i (fun w hw => doc_mks (hw.old hch)) rfl rfl rfl rfl hil ?_
      refine s_ldVS 40 (fun w hw => doc_mks (hw.old hch)) rfl rfl (by rw [Nat.mul_one]; exact mk_at hbk) (by omega) ?_
      refine SX.alt ?_ ?_
      · skip
        refine s_ld 33 rfl rfl (v := .slice B i cc) (fun _ hw => hw.blkCell (i := 1) (j := 2) rfl rfl) ?_
        refine s_bsl 41 rfl rfl (cells := #[.bool bk.marked]) (by kernel_rfl) rfl (fun _ h => h.nothing) (fun gT2 => ?_)
        refine s_app 42 4 rfl rfl rfl rfl (ys := [.bool bk.marked]) (fun w hw => Has.cong ((hw.has (i := 0) rfl).blk_sl (m := 1) rfl) rfl) rfl rfl (by omega) (by unfold maxLen; omega) (by omega) (fun _ _ _ h => h.nothing) (fun B2 cc2 hcc2 => ?_)
        refine s_nil 43 rfl rfl ?_
        refine s_fa 44 rfl rfl ?_
        refine s_stB 2 rfl rfl rfl rfl rfl (by show 2 < 6; decide) (fun _ h => h.nothing) ?_
        refine SX.end_ ?_
        refine KN.blk ?_
        refine KN.code ?_
        refine CW.reg [0, 1, 2] rfl ?_
        refine s_mv 14 rfl rfl ?_
        refine s_add 15 rfl rfl rfl (r := ((i + 1 : Nat) : Int)) (w64 (by omega)) ?_
        refine s_as 4 rfl rfl ?_
        refine SX.end_ ?_
        exact KN.back ⟨i + 1, A2, c2, B2, cc2⟩ ⟨rfl, rfl, rfl, trivial⟩ (fun _ h => by
          have e1 : ints .i64 (List.replicate (i + 1) y.pages) = ints .i64 (List.replicate i y.pages) ++ [.int .i64 y.pages] := by
            rw [List.replicate_succ']
            simp [ints]
          have e2 : bools ((y.blocks.map (·.marked)).take (i + 1)) = bools ((y.blocks.map (·.marked)).take i) ++ [.bool bk.marked] := by
            rw [List.take_add_one, List.getElem?_map, hbk]
            simp [bools]
          simp only
          rw [e1, e2]
          exact h.pick [2, 2, 2] rfl) (by simp only; omega) (by simp only; omega)
      · skip
        refine s_bsl 41 rfl rfl (cells := #[.bool bk.marked]) (by kernel_rfl) rfl (fun _ h => h.nothing) (fun gT2 => ?_)
        refine s_ld 33 rfl rfl (v := .slice B i cc) (fun _ hw => hw.blkCell (i := 2) (j := 2) rfl rfl) ?_
        refine s_app 42 4 rfl rfl rfl rfl (ys := [.bool bk.marked]) (fun w hw => Has.cong ((hw.has (i := 0) rfl).blk_sl (m := 1) rfl) rfl) rfl rfl (by omega) (by unfold maxLen; omega) (by omega) (fun _ _ _ h => h.nothing) (fun B2 cc2 hcc2 => ?_)
        refine s_nil 43 rfl rfl ?_
        refine s_fa 44 rfl rfl ?_
        refine s_stB 2 rfl rfl rfl rfl rfl (by show 2 < 6; decide) (fun _ h => h.nothing) ?_
        refine SX.end_ ?_
        refine KN.blk ?_
        refine KN.code ?_
        refine CW.reg [0, 1, 2] rfl ?_
        refine s_mv 14 rfl rfl ?_
        refine s_add 15 rfl rfl rfl (r := ((i + 1 : Nat) : Int)) (w64 (by omega)) ?_
        refine s_as 4 rfl rfl ?_
        refine SX.end_ ?_
        exact KN.back ⟨i + 1, A2, c2, B2, cc2⟩ ⟨rfl, rfl, rfl, trivial⟩ (fun _ h => by
          have e1 : ints .i64 (List.replicate (i + 1) y.pages) = ints .i64 (List.replicate i y.pages) ++ [.int .i64 y.pages] := by
            rw [List.replicate_succ']
            simp [ints]
          have e2 : bools ((y.blocks.map (·.marked)).take (i + 1)) = bools ((y.blocks.map (·.marked)).take i) ++ [.bool bk.marked] := by
            rw [List.take_add_one, List.getElem?_map, hbk]
            simp [bools]
          simp only
          rw [e1, e2]
          exact h.pick [2, 2, 2] rfl) (by simp only; omega) (by simp only; omega)
  · skip
    obtain rfl : i = y.blocks.length := by omega
    refine CW.exit rfl ?_
    refine KN.code ?_
    refine CW.seq ?_
    refine CW.reg [0, 1] rfl ?_
    refine s_mv 45 rfl rfl ?_
    refine s_as 2 rfl rfl ?_
    refine SX.next ?_
    refine CW.ret ?_
    exact KN.ret (rs := [.tmp 2]) Tryd.results53 rfl (fun w_ hw => ⟨(g, (⟨cb, A, c, List.replicate y.blocks.length y.pages, B, cc, y.blocks.map (·.marked), 0, 0, 0⟩ : DdG)), rfl, ⟨by unfold DdG.abs drNew0 DcG.abs; simp only [List.length_map, List.map_map]; rfl, ⟨rfl, by simp only [List.length_replicate], by simp only [List.length_map]⟩⟩, by
      rw [List.take_of_length_le (by simp)] at hw
      refine St.ddC ?_
      unfold DdG.hd DdG.cells DdG.nxA DdG.bdA
      simp only [List.length_map, List.length_replicate]
      exact hw⟩)
end Go.Proofs.YtcapijdokbkgaaaDoor
end
