/- The walk of the statement ChipApartUpto, text 4. Conditions: each theorem tells its own. -/
import Derived.Test.YtcapijdokbkgaaaDoorWChipApartUptoC
section
/- The statement ChipApart, walked. Conditions: what comes in is read where it lies; the errors' variables. -/
namespace Go.Proofs.YtcapijdokbkgaaaDoor
open Go Go.Sx Go.Fm
set_option maxRecDepth 100000
def N3342 (l : List FtS) : ChS := ChS.new 3 3 4 2 [] l
theorem N3342_ok {l : List FtS} (h1 : l.length ≤ 1000) (h2 : ∀ f ∈ l, f.bits.length ≤ 1000000) : (N3342 l).Ok :=
  new_ok (by decide) (by decide) (by decide) (by decide) (by decide) (by decide) (by decide) (fun m hm => absurd hm List.not_mem_nil) h1 h2
structure ApG where
  i : Nat
  x : ChG
  y : DcG

set_option maxHeartbeats 1600000 in

theorem walk_ChipApart (A0 : Option Addr) (c0 : Nat) (l0 : List FtG) (A1 : Option Addr) (c1 : Nat) (la : List ToldG) (A2 : Option Addr) (c2 : Nat) (lb : List ToldG) (e : Nat → Addr) (w : World) (hp : PlRead A0 l0 w) (hta : TellIn A1 la w) (htb : TellIn A2 lb w) (heD : Er e w 0) (heO : Er e w 1) (heS : Er e w 2) (heF : Er e w 5) (heM : Er e w 6) : Spec1 Tryd.prog 8 [.slice A0 l0.length c0, .slice A1 la.length c1, .slice A2 lb.length c2] w (.bool true) := by
  refine spec_of Tryd.func8 rfl Tryd.ntmps8 rfl ?_
  refine CW.seq ?_
  refine CW.reg [0] rfl ?_
  refine s_as 6 rfl rfl ?_
  refine SX.next ?_
  refine CW.seq ?_
  refine CW.reg [0, 1] rfl ?_
  refine s_call1 16 rfl rfl rfl rfl (fun w hw => first14_spec e w (hw.er heD) (hw.er heO) (hw.er heS) (hw.er heF) (hw.er heM)) (fun _ _ => trivial) ?_
  refine s_as 7 rfl rfl ?_
  refine SX.next ?_
  refine CW.seq ?_
  refine CW.seq ?_
  refine CW.reg [0, 1, 2, 3, 4, 5, 6, 7, 8, 9, 10, 11, 12, 13, 14, 15, 16] rfl ?_
  refine s_mv 17 rfl rfl ?_
  refine s_call1 18 rfl rfl rfl rfl (fun w hw => all14_spec A1 c1 la w ⟨hw.old hta.rows, fun d hd => (hta.each d hd).turn hw.fr⟩) (fun _ _ => trivial) ?_
  refine s_not 19 rfl rfl ?_
  refine s_mv 20 rfl rfl ?_
  refine SX.bool 20 rfl (fun hb => ?_) (fun hb => ?_)
  · skip
    skip
    refine SX.skip rfl ?_
    refine SX.skip rfl ?_
    refine SX.skip rfl ?_
    refine s_pickT 24 rfl rfl rfl ?_
    refine s_mv 25 rfl rfl ?_
    refine SX.skip rfl ?_
    refine SX.skip rfl ?_
    refine SX.skip rfl ?_
    refine s_pickT 29 rfl rfl rfl ?_
    refine s_mv 30 rfl rfl ?_
    refine SX.skip rfl ?_
    refine SX.skip rfl ?_
    refine s_pickT 33 rfl rfl rfl ?_
    refine SX.next ?_
    refine CW.condT rfl ?_
    refine CW.seq ?_
    refine CW.reg [0, 1] rfl ?_
    refine s_mv 34 rfl rfl ?_
    refine s_as 6 rfl rfl ?_
    refine SX.next ?_
    refine CW.ret ?_
    exact KN.ret (rs := [.tmp 6]) Tryd.results8 rfl (fun w hw => ⟨rfl, hw.nothing⟩)
  · skip
    have hall : allB la = true := by simpa using hb
    obtain ⟨ha60, hall2⟩ := all_in hall
    refine s_mv 21 rfl rfl ?_
    refine s_call1 22 rfl rfl rfl rfl (fun w hw => all14_spec A2 c2 lb w ⟨hw.old htb.rows, fun d hd => (htb.each d hd).turn hw.fr⟩) (fun _ _ => trivial) ?_
    refine s_not 23 rfl rfl ?_
    refine s_pickF 24 rfl rfl rfl ?_
    refine s_mv 25 rfl rfl ?_
    refine SX.bool 25 rfl (fun hb => ?_) (fun hb => ?_)
    · skip
      skip
      refine SX.skip rfl ?_
      refine SX.skip rfl ?_
      refine SX.skip rfl ?_
      refine s_pickT 29 rfl rfl rfl ?_
      refine s_mv 30 rfl rfl ?_
      refine SX.skip rfl ?_
      refine SX.skip rfl ?_
      refine s_pickT 33 rfl rfl rfl ?_
      refine SX.next ?_
      refine CW.condT rfl ?_
      refine CW.seq ?_
      refine CW.reg [0, 1] rfl ?_
      refine s_mv 34 rfl rfl ?_
      refine s_as 6 rfl rfl ?_
      refine SX.next ?_
      refine CW.ret ?_
      exact KN.ret (rs := [.tmp 6]) Tryd.results8 rfl (fun w hw => ⟨rfl, hw.nothing⟩)
    · skip
      have hblb : allB lb = true := by simpa using hb
      obtain ⟨hb60, hblb2⟩ := all_in hblb
      refine s_mv 26 rfl rfl ?_
      refine s_call1 27 rfl rfl rfl rfl (fun w hw => light_spec A0 c0 l0 w (hp.turn hw.fr)) (fun _ _ => trivial) ?_
      refine s_not 28 rfl rfl ?_
      refine s_pickF 29 rfl rfl rfl ?_
      refine s_mv 30 rfl rfl ?_
      refine SX.bool 30 rfl (fun hb => ?_) (fun hb => ?_)
      · skip
        skip
        refine SX.skip rfl ?_
        refine SX.skip rfl ?_
        refine s_pickT 33 rfl rfl rfl ?_
        refine SX.next ?_
        refine CW.condT rfl ?_
        refine CW.seq ?_
        refine CW.reg [0, 1] rfl ?_
        refine s_mv 34 rfl rfl ?_
        refine s_as 6 rfl rfl ?_
        refine SX.next ?_
        refine CW.ret ?_
        exact KN.ret (rs := [.tmp 6]) Tryd.results8 rfl (fun w hw => ⟨rfl, hw.nothing⟩)
      · skip
        have hlt : lightB l0 = true := by simpa using hb
        obtain ⟨hpl, hpl60⟩ := light_pl hp hlt
        have hn := N3342_ok (l := l0.map FtG.abs) (by rw [List.length_map]; omega) (fun f hf => by
          obtain ⟨f2, h2, rfl⟩ := List.mem_map.1 hf
          exact hpl.lens f2 h2)
        refine s_mv 31 rfl rfl ?_
        refine s_not 32 rfl rfl ?_
        refine s_pickF 33 rfl rfl rfl ?_
        refine SX.next ?_
        refine CW.condF rfl ?_
        refine CW.skip ?_
        refine KN.code ?_
        refine CW.seq ?_
        refine CW.reg [0, 1, 2, 3, 4, 5, 6] rfl ?_
        refine s_mv 36 rfl rfl ?_
        refine s_call 37 rfl rfl rfl rfl (X := Nat × ChG) (v := fun z => two (.pointer (some ⟨z.1, 0, none⟩)) .nilIface) (pf := fun z => z.2.abs = N3342 (l0.map FtG.abs) ∧ z.2.watch = .nilFunc) (L' := fun z => [chipA z.1 z.2]) (fun w hw => cnew_ok 3 3 4 2 none 0 [] A0 c0 l0 e w (by decide) (by decide) (by decide) (by decide) (Has.sl_nil w 1 none) (by decide) (fun m hm => absurd hm List.not_mem_nil) (hw.er heM) (hpl.turn hw.fr) (by omega)) (fun _ _ => trivial) (fun z hz => ?_)
        obtain ⟨g, x0⟩ := z
        refine s_mv 35 rfl rfl ?_
        refine s_ext 38 rfl rfl rfl ?_
        refine s_ext 39 rfl rfl rfl ?_
        refine s_as 8 rfl rfl ?_
        refine s_as 9 rfl rfl ?_
        refine SX.next ?_
        refine CW.seq ?_
        refine CW.reg [0, 1, 2] rfl ?_
        refine s_mv 40 rfl rfl ?_
        refine s_call 41 rfl rfl rfl rfl (X := Nat × DcG) (v := fun z => .pointer (some ⟨z.1, 0, none⟩)) (pf := fun z => z.2.abs = N3342 (l0.map FtG.abs) ∧ z.2.pA = A0 ∧ z.2.pc = c0 ∧ z.2.plan = l0) (L' := fun z => [docA z.1 z.2]) (fun w hw => dnew_spec 3 3 4 2 none 0 [] A0 c0 l0 w (by decide) (by decide) (by decide) (by decide) (Has.sl_nil w 1 none) (by decide) (fun m hm => absurd hm List.not_mem_nil)) (fun _ _ => trivial) (fun z hzd => ?_)
        obtain ⟨gd, y0⟩ := z
        refine s_as 10 rfl rfl ?_
        refine SX.next ?_
        refine CW.seq ?_
        refine CW.seq ?_
        refine CW.reg [0, 1, 2, 3, 4, 5] rfl ?_
        refine s_mv 42 rfl rfl ?_
        refine s_eqPN 43 rfl rfl ?_
        refine s_mv 44 rfl rfl ?_
        refine s_mv 45 rfl rfl ?_
        refine s_neNN 46 rfl rfl ?_
        refine s_pickF 47 rfl rfl rfl ?_
        refine SX.next ?_
        refine CW.condF rfl ?_
        refine CW.skip ?_
        refine KN.code ?_
        refine CW.seq ?_
        refine CW.seq ?_
        refine CW.reg [0] rfl ?_
        refine s_as 11 rfl rfl ?_
        refine SX.next ?_
        refine CW.block ?_
        refine CW.loop (G := ApG) (fun z => [(1, .slice A1 la.length c1), (2, .slice A2 lb.length c2), (8, .pointer (some ⟨g, 0, none⟩)), (10, .pointer (some ⟨gd, 0, none⟩)), (11, .int .i64 (z.i : Nat))]) (fun z => Sto w [chipA g z.x, docA gd z.y]) (fun z => z.i ≤ la.length ∧ z.x.abs.Ok ∧ z.y.abs = z.x.abs ∧ z.x.watch = .nilFunc ∧ z.y.pA = A0 ∧ z.y.pc = c0 ∧ z.y.plan = l0) (fun z => la.length - z.i) ⟨0, x0, y0⟩ ⟨rfl, rfl, rfl, rfl, rfl, trivial⟩ (fun _ h => h.pick [1, 0] rfl) ⟨Nat.zero_le _, by simp only; rw [hz.1]; exact hn, by simp only; rw [hzd.1, hz.1], hz.2, hzd.2⟩ ?_
        rintro ⟨i, x, y⟩ ⟨hi, hx, hye, hxw, hyA, hyc, hyl⟩
        simp only at hi hx hye hxw hyA hyc hyl
        dsimp only
        have hyo : y.abs.Ok := by rw [hye]; exact hx
        refine CW.seq ?_
        refine CW.seq ?_
        refine CW.reg [0, 1, 2, 3] rfl ?_
        refine s_mv 48 rfl rfl ?_
        refine s_mv 49 rfl rfl ?_
        refine s_len 50 rfl rfl ?_
        refine s_lt 51 rfl rfl rfl rfl ?_
        refine SX.next ?_
        refine CW.test rfl (fun hc => ?_) (fun hc => ?_)
        · skip
          have hil : i < la.length := by omega
          have hg := gT_at hil
          have hm := gT_mem hil
          have h8 := (hta.each _ hm).lt
          have hB := (hta.each _ hm).bytes
          obtain ⟨hl300, _, _⟩ := tell_in (hta.each _ hm) (hall2 _ hm)
          refine CW.skip ?_
          refine KN.code ?_
          refine CW.seq ?_
          refine CW.block ?_
          refine CW.seq ?_
          refine CW.reg [0, 1, 2, 3, 4, 5] rfl ?_
          refine s_mv 54 rfl rfl ?_
          refine s_mv 55 rfl rfl ?_
          refine s_mv 56 rfl rfl ?_
          refine s_iaV 57 i (fun w hw => hw.old hta.rows) rfl rfl rfl rfl hil ?_
          refine s_ldR 58 (cs := (gT la i).row) rfl rfl rfl (fun w hw => (hw.old hta.rows).rowAt toRow_len hg (by omega)) ?_
          refine s_callP 59 [0, 0] (M := [chipA g x]) (R := [docA gd y]) (X := ChG) (v := fun z => oneOf []) (pf := fun z => z.abs = stepS (gT la i) x.abs ∧ z.watch = .nilFunc) (M' := fun z => [chipA g z]) rfl rfl rfl rfl rfl (fun F' w' hR hM => by have := does_spec F' g x hx (gT la i) w' hxw e (fun w2 hf => (hR w2 hf).old hB) h8 (fun w2 hf => (hR w2 hf).er heD) (fun w2 hf => (hR w2 hf).er heO) (fun w2 hf => (hR w2 hf).er heS) (fun w2 hf => (hR w2 hf).er heF) hM;  exact this) (fun _ _ _ => trivial) (fun x1 hx1 => ?_)
          refine SX.next ?_
          refine CW.reg [0, 1, 2, 3, 4, 5] rfl ?_
          refine s_mv 60 rfl rfl ?_
          refine s_mv 61 rfl rfl ?_
          refine s_mv 62 rfl rfl ?_
          refine s_iaV 63 i (fun w hw => hw.old hta.rows) rfl rfl rfl rfl hil ?_
          refine s_ldR 64 (cs := (gT la i).row) rfl rfl rfl (fun w hw => (hw.old hta.rows).rowAt toRow_len hg (by omega)) ?_
          refine s_callP 65 [1, 0] (M := [docA gd y]) (R := [chipA g x1]) (X := DcG) (v := fun z => oneOf []) (pf := fun z => z.abs = stepS (gT la i) y.abs ∧ y.Same z) (M' := fun z => [docA gd z]) rfl rfl rfl rfl rfl (fun F' w' hR hM => by have := did_spec F' gd y hyo (gT la i) w' (fun w2 hf => by rw [hyA, hyl]; exact hpl.turn (hR w2 hf).fr) (by omega) (fun w2 hf => (hR w2 hf).old hB) h8 hM;  exact this) (fun _ _ _ => trivial) (fun y1 hy1 => ?_)
          refine SX.end_ ?_
          refine KN.blk ?_
          refine KN.code ?_
          refine CW.reg [0, 1, 2] rfl ?_
          refine s_mv 52 rfl rfl ?_
          refine s_add 53 rfl rfl rfl (r := ((i + 1 : Nat) : Int)) (w64 (by omega)) ?_
          refine s_as 11 rfl rfl ?_
          refine SX.end_ ?_
          exact KN.back ⟨i + 1, x1, y1⟩ ⟨rfl, rfl, rfl, rfl, rfl, trivial⟩ (fun _ h => h.pick [1, 0] rfl) ⟨by simp only; omega, by simp only; rw [hx1.1]; exact step_ok hx h8, by simp only; rw [hy1.1, hx1.1, hye], hx1.2, hy1.2.a.trans hyA, hy1.2.c.trans hyc, hy1.2.l.trans hyl⟩ (by simp only; omega)
        · skip
          refine CW.exit rfl ?_
          refine KN.code ?_
          refine CW.seq ?_
          refine CW.reg [0, 1, 2] rfl ?_
          refine s_mv 66 rfl rfl ?_
          refine s_call 67 rfl rfl rfl rfl (X := Nat × ChG) (v := fun z => .pointer (some ⟨z.1, 0, none⟩)) (pf := fun z => z.2.abs = x.abs ∧ z.2.watch = .nilFunc) (L' := fun z => [chipA z.1 z.2]) (fun w hw => cclone_spec g x hx (by rw [hxw]; rfl) w (hw.has (i := 0) rfl)) (fun _ _ => trivial) (fun z hzc => ?_)
          obtain ⟨g2, xd⟩ := z
          refine s_as 12 rfl rfl ?_
          refine SX.next ?_
          refine CW.seq ?_
          refine CW.seq ?_
          refine CW.reg [0, 1] rfl ?_
          refine s_mv 68 rfl rfl ?_
          refine s_eqPN 69 rfl rfl ?_
          refine SX.next ?_
          refine CW.condF rfl ?_
          refine CW.skip ?_
          refine KN.code ?_
          refine CW.seq ?_
          refine CW.seq ?_
          refine CW.reg [0] rfl ?_
          refine s_as 13 rfl rfl ?_
          refine SX.next ?_
          refine CW.block ?_
          refine CW.loop (G := Nat × ChG) (fun z => [(2, .slice A2 lb.length c2), (8, .pointer (some ⟨g, 0, none⟩)), (10, .pointer (some ⟨gd, 0, none⟩)), (12, .pointer (some ⟨g2, 0, none⟩)), (13, .int .i64 (z.1 : Nat))]) (fun z => Sto w [chipA g z.2, chipA g2 xd, docA gd y]) (fun z => z.1 ≤ lb.length ∧ z.2.abs.Ok ∧ z.2.watch = .nilFunc) (fun z => lb.length - z.1) (0, x) ⟨rfl, rfl, rfl, rfl, rfl, trivial⟩ (fun _ h => h.pick [1, 0, 0] rfl) ⟨Nat.zero_le _, hx, hxw⟩ ?_
          clear hi
          rintro ⟨j, xc⟩ ⟨hj, hxc, hxcw⟩
          simp only at hj hxc hxcw
          dsimp only
          refine CW.seq ?_
          refine CW.seq ?_
          refine CW.reg [0, 1, 2, 3] rfl ?_
          refine s_mv 70 rfl rfl ?_
          refine s_mv 71 rfl rfl ?_
          refine s_len 72 rfl rfl ?_
          refine s_lt 73 rfl rfl rfl rfl ?_
          refine SX.next ?_
          refine CW.test rfl (fun hc => ?_) (fun hc => ?_)
          · skip
            obtain ⟨q, hq⟩ : ∃ q, q = lb.length - 1 - j := ⟨_, rfl⟩
            have hil : q < lb.length := by omega
            have hg := gT_at hil
            have hm := gT_mem hil
            have h8 := (htb.each _ hm).lt
            have hB := (htb.each _ hm).bytes
            refine CW.skip ?_
            refine KN.code ?_
            refine CW.seq ?_
            refine CW.block ?_
            refine CW.reg [0, 1, 2, 3, 4, 5, 6, 7, 8, 9] rfl ?_
            refine s_mv 76 rfl rfl ?_
            refine s_mv 77 rfl rfl ?_
            refine s_mv 78 rfl rfl ?_
            refine s_len 79 rfl rfl ?_
            refine s_sub 80 rfl rfl rfl (r := ((lb.length - 1 : Nat) : Int)) (by rw [show ((lb.length : Nat) : Int) - 1 = ((lb.length - 1 : Nat) : Int) by omega]; exact w64 (by omega)) ?_
            refine s_mv 81 rfl rfl ?_
            refine s_sub 82 rfl rfl rfl (r := ((q : Nat) : Int)) (by rw [show ((lb.length - 1 : Nat) : Int) - ((j : Nat) : Int) = ((q : Nat) : Int) by omega]; exact w64 (by omega)) ?_
            refine s_iaV 83 q (fun w hw => hw.old htb.rows) rfl rfl rfl rfl hil ?_
            refine s_ldR 84 (cs := (gT lb q).row) rfl rfl rfl (fun w hw => (hw.old htb.rows).rowAt toRow_len hg (by omega)) ?_
            refine s_callP 85 [0, 0, 0] (M := [chipA g xc]) (R := [chipA g2 xd, docA gd y]) (X := ChG) (v := fun z => oneOf []) (pf := fun z => z.abs = stepS (gT lb q) xc.abs ∧ z.watch = .nilFunc) (M' := fun z => [chipA g z]) rfl rfl rfl rfl rfl (fun F' w' hR hM => by have := does_spec F' g xc hxc (gT lb q) w' hxcw e (fun w2 hf => (hR w2 hf).old hB) h8 (fun w2 hf => (hR w2 hf).er heD) (fun w2 hf => (hR w2 hf).er heO) (fun w2 hf => (hR w2 hf).er heS) (fun w2 hf => (hR w2 hf).er heF) hM;  exact this) (fun _ _ _ => trivial) (fun x1 hx1 => ?_)
            refine SX.end_ ?_
            refine KN.blk ?_
            refine KN.code ?_
            refine CW.reg [0, 1, 2] rfl ?_
            refine s_mv 74 rfl rfl ?_
            refine s_add 75 rfl rfl rfl (r := ((j + 1 : Nat) : Int)) (w64 (by omega)) ?_
            refine s_as 13 rfl rfl ?_
            refine SX.end_ ?_
            exact KN.back (j + 1, x1) ⟨rfl, rfl, rfl, rfl, rfl, trivial⟩ (fun _ h => h.pick [0, 0, 0] rfl) ⟨by simp only; omega, by simp only; rw [hx1.1]; exact step_ok hxc h8, hx1.2⟩ (by simp only; omega)
          · skip
            refine CW.exit rfl ?_
            refine KN.code ?_
            refine CW.seq ?_
            refine CW.seq ?_
            refine CW.reg [0] rfl ?_
            refine s_as 14 rfl rfl ?_
            refine SX.next ?_
            refine CW.block ?_
            refine CW.loop (G := ApG) (fun z => [(2, .slice A2 lb.length c2), (10, .pointer (some ⟨gd, 0, none⟩)), (12, .pointer (some ⟨g2, 0, none⟩)), (14, .int .i64 (z.i : Nat))]) (fun z => Sto w [chipA g2 z.x, docA gd z.y]) (fun z => z.i ≤ lb.length ∧ z.x.abs.Ok ∧ z.y.abs = z.x.abs ∧ z.x.watch = .nilFunc ∧ z.y.pA = A0 ∧ z.y.pc = c0 ∧ z.y.plan = l0) (fun z => lb.length - z.i) ⟨0, xd, y⟩ ⟨rfl, rfl, rfl, rfl, trivial⟩ (fun _ h => h.pick [1, 1] rfl) ⟨Nat.zero_le _, by simp only; rw [hzc.1]; exact hx, by simp only; rw [hzc.1]; exact hye, hzc.2, hyA, hyc, hyl⟩ ?_
            clear hx hye hxw hyA hyc hyl hyo
            rintro ⟨i, x, y⟩ ⟨hi, hx, hye, hxw, hyA, hyc, hyl⟩
            simp only at hi hx hye hxw hyA hyc hyl
            dsimp only
            have hyo : y.abs.Ok := by rw [hye]; exact hx
            refine CW.seq ?_
            refine CW.seq ?_
            refine CW.reg [0, 1, 2, 3] rfl ?_
            refine s_mv 86 rfl rfl ?_
            refine s_mv 87 rfl rfl ?_
            refine s_len 88 rfl rfl ?_
            refine s_lt 89 rfl rfl rfl rfl ?_
            refine SX.next ?_
            refine CW.test rfl (fun hc => ?_) (fun hc => ?_)
            · skip
              have hil : i < lb.length := by omega
              have hg := gT_at hil
              have hm := gT_mem hil
              have h8 := (htb.each _ hm).lt
              have hB := (htb.each _ hm).bytes
              obtain ⟨hl300, _, _⟩ := tell_in (htb.each _ hm) (hblb2 _ hm)
              refine CW.skip ?_
              refine KN.code ?_
              refine CW.seq ?_
              refine CW.block ?_
              refine CW.seq ?_
              refine CW.reg [0, 1, 2, 3, 4, 5] rfl ?_
              refine s_mv 92 rfl rfl ?_
              refine s_mv 93 rfl rfl ?_
              refine s_mv 94 rfl rfl ?_
              refine s_iaV 95 i (fun w hw => hw.old htb.rows) rfl rfl rfl rfl hil ?_
              refine s_ldR 96 (cs := (gT lb i).row) rfl rfl rfl (fun w hw => (hw.old htb.rows).rowAt toRow_len hg (by omega)) ?_
              refine s_callP 97 [0, 0] (M := [chipA g2 x]) (R := [docA gd y]) (X := ChG) (v := fun z => oneOf []) (pf := fun z => z.abs = stepS (gT lb i) x.abs ∧ z.watch = .nilFunc) (M' := fun z => [chipA g2 z]) rfl rfl rfl rfl rfl (fun F' w' hR hM => by have := does_spec F' g2 x hx (gT lb i) w' hxw e (fun w2 hf => (hR w2 hf).old hB) h8 (fun w2 hf => (hR w2 hf).er heD) (fun w2 hf => (hR w2 hf).er heO) (fun w2 hf => (hR w2 hf).er heS) (fun w2 hf => (hR w2 hf).er heF) hM;  exact this) (fun _ _ _ => trivial) (fun x1 hx1 => ?_)
              refine SX.next ?_
              refine CW.reg [0, 1, 2, 3, 4, 5] rfl ?_
              refine s_mv 98 rfl rfl ?_
              refine s_mv 99 rfl rfl ?_
              refine s_mv 100 rfl rfl ?_
              refine s_iaV 101 i (fun w hw => hw.old htb.rows) rfl rfl rfl rfl hil ?_
              refine s_ldR 102 (cs := (gT lb i).row) rfl rfl rfl (fun w hw => (hw.old htb.rows).rowAt toRow_len hg (by omega)) ?_
              refine s_callP 103 [1, 0] (M := [docA gd y]) (R := [chipA g2 x1]) (X := DcG) (v := fun z => oneOf []) (pf := fun z => z.abs = stepS (gT lb i) y.abs ∧ y.Same z) (M' := fun z => [docA gd z]) rfl rfl rfl rfl rfl (fun F' w' hR hM => by have := did_spec F' gd y hyo (gT lb i) w' (fun w2 hf => by rw [hyA, hyl]; exact hpl.turn (hR w2 hf).fr) (by omega) (fun w2 hf => (hR w2 hf).old hB) h8 hM;  exact this) (fun _ _ _ => trivial) (fun y1 hy1 => ?_)
              refine SX.end_ ?_
              refine KN.blk ?_
              refine KN.code ?_
              refine CW.reg [0, 1, 2] rfl ?_
              refine s_mv 90 rfl rfl ?_
              refine s_add 91 rfl rfl rfl (r := ((i + 1 : Nat) : Int)) (w64 (by omega)) ?_
              refine s_as 14 rfl rfl ?_
              refine SX.end_ ?_
              exact KN.back ⟨i + 1, x1, y1⟩ ⟨rfl, rfl, rfl, rfl, trivial⟩ (fun _ h => h.pick [1, 0] rfl) ⟨by simp only; omega, by simp only; rw [hx1.1]; exact step_ok hx h8, by simp only; rw [hy1.1, hx1.1, hye], hx1.2, hy1.2.a.trans hyA, hy1.2.c.trans hyc, hy1.2.l.trans hyl⟩ (by simp only; omega)
            · skip
              refine CW.exit rfl ?_
              refine KN.code ?_
              refine CW.seq ?_
              refine CW.seq ?_
              refine CW.reg [0] rfl ?_
              refine s_as 15 rfl rfl ?_
              refine SX.next ?_
              refine CW.block ?_
              refine CW.loop (G := Nat) (fun k => [(10, .pointer (some ⟨gd, 0, none⟩)), (12, .pointer (some ⟨g2, 0, none⟩)), (15, .int .i64 (k : Nat))]) (fun _ => Sto w [chipA g2 x, docA gd y]) (fun k => k ≤ 9) (fun k => 9 - k) 0 ⟨rfl, rfl, rfl, trivial⟩ (fun _ h => h) (Nat.zero_le _) ?_
              intro k hk
              refine CW.seq ?_
              refine CW.seq ?_
              refine CW.reg [0, 1] rfl ?_
              refine s_mv 104 rfl rfl ?_
              refine s_lt 105 rfl rfl rfl rfl ?_
              refine SX.next ?_
              refine CW.test rfl (fun hc => ?_) (fun hc => ?_)
              · skip
                have hkl : k < 9 := by omega
                refine CW.skip ?_
                refine KN.code ?_
                refine CW.seq ?_
                refine CW.block ?_
                refine CW.seq ?_
                refine CW.reg [0, 1, 2, 3, 4, 5, 6, 7, 8] rfl ?_
                refine s_mv 108 rfl rfl ?_
                refine s_mv 109 rfl rfl ?_
                refine s_mv 110 rfl rfl ?_
                refine s_quo 111 rfl rfl rfl (by omega) (r := ((k / 3 : Nat) : Int)) (by rw [show ((k : Nat) : Int).tdiv 3 = ((k / 3 : Nat) : Int) from rfl]; exact w64 (by omega)) ?_
                refine s_mv 112 rfl rfl ?_
                refine s_rem 113 rfl rfl rfl (by omega) (r := ((k % 3 : Nat) : Int)) rfl ?_
                refine s_build 114 rfl rfl (cells := #[.int .i64 ((k / 3 : Nat) : Int), .int .i64 ((k % 3 : Nat) : Int)]) (by kernel_rfl) ?_
                refine s_call1 115 rfl rfl rfl rfl (fun w hw => same14_spec g2 x gd y hx hye ((k / 3 : Nat) : Int) ((k % 3 : Nat) : Int) w (hw.has (i := 0) rfl) (hw.has (i := 1) rfl)) (fun _ _ => trivial) ?_
                refine s_not 116 rfl rfl ?_
                refine SX.next ?_
                refine CW.condF rfl ?_
                refine CW.skip ?_
                refine KN.blk ?_
                refine KN.code ?_
                refine CW.reg [0, 1, 2] rfl ?_
                refine s_mv 106 rfl rfl ?_
                refine s_add 107 rfl rfl rfl (r := ((k + 1 : Nat) : Int)) (w64 (by omega)) ?_
                refine s_as 15 rfl rfl ?_
                refine SX.end_ ?_
                exact KN.back (k + 1) ⟨rfl, rfl, rfl, trivial⟩ (fun _ h => h) (by omega) (by omega)
              · skip
                refine CW.exit rfl ?_
                refine KN.code ?_
                refine CW.seq ?_
                refine CW.reg [0] rfl ?_
                refine s_as 6 rfl rfl ?_
                refine SX.next ?_
                refine CW.ret ?_
                exact KN.ret (rs := [.tmp 6]) Tryd.results8 rfl (fun w hw => ⟨rfl, hw.nothing⟩)
end Go.Proofs.YtcapijdokbkgaaaDoor
end
