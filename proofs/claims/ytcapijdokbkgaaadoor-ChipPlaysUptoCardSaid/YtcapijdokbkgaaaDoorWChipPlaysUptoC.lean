/- The walk of the statement ChipPlaysUpto, text 3. Conditions: each theorem tells its own. -/
import Derived.Test.YtcapijdokbkgaaaDoorWChipPlaysUptoB
import Derived.Test.YtcapijdokbkgaaaDoorRows
import Derived.Deep.Strs
section
/- Package chip: new chips. Conditions: what is handed in is read where it lies; errors' variables stay. -/
namespace Go.Proofs.YtcapijdokbkgaaaDoor
open Go Go.Sx Go.Fm
set_option maxRecDepth 100000
theorem _root_.Go.Sx.St.blkPart {F : Nat → Prop} {w₀ w : World} {L : List Atom} {i g T o : Nat} {cs : Array Value} {part : List Value} (hi : L[i]? = some (blk g T cs)) (hp : ∀ j v, part[j]? = some v → cs[o + j]? = some v) (h : St F w₀ L w) : ∀ j v, part[j]? = some v → w.cell? ⟨g, o + j, none⟩ = some v := fun j v hj => h.blkCell hi (hp j v hj)
instance : SlT Tryd.prog 106 105 2 16 (.agg #[.int .i64 0, .int .i64 0]) := SlT.mk' Tryd.underlying106 (by kernel_rfl)
theorem two_at {cs : Array Value} {o : Nat} {a b : Value} (h0 : cs[o]? = some a) (h1 : cs[o + 1]? = some b) : ∀ j v, [a, b][j]? = some v → cs[o + j]? = some v := fun j v hj => by
  match j, hj with
  | 0, hj => rw [← hj]; exact h0
  | 1, hj => rw [← hj]; exact h1
  | j + 2, hj => simp at hj
/-- A page's cells are others. -/
theorem _root_.Go.Sx.St.pgPut {ps : List PgG} {k : Nat} {p : PgG} {F : Nat → Prop} {w₀ w : World} {L : List Atom} {A : Option Addr} {c : Nat} {l : List Nat} (hp : ps[k]? = some p) (h : St F w₀ (starA (ps.map PgG.dat) :: own 5 1 A l.length c (nats .u8 l) :: L) w) : St F w₀ (starA ((ps.set k { p with A := A, c := c, l := l }).map PgG.dat) :: L) w := by
  have h1 := (h.focus (i := k) (A := p.dat) (by rw [List.getElem?_map, hp]; rfl)).open_
  have h2 : St F w₀ (p.own2 :: starA ((ps.map PgG.dat).eraseIdx k) :: own 5 1 A l.length c (nats .u8 l) :: L) w := h1.tail
  have h3 : St F w₀ (own 5 1 A l.length c (nats .u8 l) :: p.own2 :: starA ((ps.map PgG.dat).eraseIdx k) :: L) w := h2.perm ((List.Perm.cons _ (List.Perm.swap ..)).trans (List.Perm.swap ..))
  have h4 := (St.close_ [own 5 1 A l.length c (nats .u8 l), p.own2] h3).unfocus (A' := ({ p with A := A, c := c, l := l } : PgG).dat) (by simpa using (List.getElem?_eq_some_iff.1 hp).1)
  rw [← List.map_set] at h4
  exact h4
theorem rep_next {α β : Type} {f : α → β} {xs : List α} {j n : Nat} {a b : β} {z : α} (h : xs.map f = List.replicate j a ++ List.replicate (n - j) b) (hj : j < n) (hz : f z = a) : (xs.set j z).map f = List.replicate (j + 1) a ++ List.replicate (n - (j + 1)) b := by
  rw [List.map_set, h, hz, List.set_append_right _ _ (by simp), List.length_replicate, Nat.sub_self, show n - j = (n - (j + 1)) + 1 by omega, List.replicate_succ, List.set_cons_zero, List.replicate_succ', List.append_assoc]
  rfl
theorem rep_len {α β : Type} {f : α → β} {xs : List α} {j n : Nat} {a b : β} (h : xs.map f = List.replicate j a ++ List.replicate (n - j) b) (hj : j ≤ n) : xs.length = n := by
  have := congrArg List.length h
  simp only [List.length_map, List.length_append, List.length_replicate] at this
  omega
theorem rep_at {α β : Type} {f : α → β} {xs : List α} {j n : Nat} {a b : β} (h : xs.map f = List.replicate j a ++ List.replicate (n - j) b) (hj : j < n) {x : α} (hx : xs[j]? = some x) : f x = b := by
  have h1 := congrArg (fun l => l[j]?) h
  simp only [List.getElem?_map, hx, Option.map_some] at h1
  rw [List.getElem?_append_right (by simp), List.length_replicate, Nat.sub_self, List.getElem?_replicate, if_pos (by omega)] at h1
  exact Option.some.inj h1

theorem cnew_geo (a b c d : Int) (mV pV : Value) (e : Nat → Addr) (w : World) (hE : Er e w 3) (hbad : ¬ (1 ≤ a ∧ a ≤ 64 ∧ 1 ≤ b ∧ b ≤ 64 ∧ 1 ≤ c ∧ c ≤ 4096 ∧ 1 ≤ d ∧ d ≤ 8)) : Spec1 Tryd.prog 13 [.int .i64 a, .int .i64 b, .int .i64 c, .int .i64 d, mV, pV] w (two (.pointer none) (evE e 108)) := by
  refine spec_of Tryd.func13 rfl Tryd.ntmps13 rfl ?_
  refine CW.seq ?_
  refine CW.reg [0, 1] rfl ?_
  refine s_as 12 rfl rfl ?_
  refine s_as 13 rfl rfl ?_
  refine SX.next ?_
  refine CW.seq ?_
  refine CW.seq ?_
  refine CW.reg [0, 1, 2, 3, 4, 5, 6, 7, 8, 9, 10] rfl ?_
  refine s_mv 22 rfl rfl ?_
  refine s_buildA 23 rfl rfl (cells := #[.int .i64 a, .int .i64 64]) (by kernel_rfl) ?_
  refine s_mv 24 rfl rfl ?_
  refine s_buildA 25 rfl rfl (cells := #[.int .i64 b, .int .i64 64]) (by kernel_rfl) ?_
  refine s_mv 26 rfl rfl ?_
  refine s_buildA 27 rfl rfl (cells := #[.int .i64 c, .int .i64 4096]) (by kernel_rfl) ?_
  refine s_mv 28 rfl rfl ?_
  refine s_buildA 29 rfl rfl (cells := #[.int .i64 d, .int .i64 8]) (by kernel_rfl) ?_
  refine s_bsl 30 rfl rfl (cells := #[.int .i64 a, .int .i64 64, .int .i64 b, .int .i64 64, .int .i64 c, .int .i64 4096, .int .i64 d, .int .i64 8]) (by kernel_rfl) rfl (fun _ _ => trivial) (fun g0 => ?_)
  refine s_len 31 rfl rfl ?_
  refine s_mv 32 rfl rfl ?_
  refine SX.next ?_
  refine CW.block ?_
  refine CW.loop (G := Nat) (fun i => [(0, .int .i64 a), (1, .int .i64 b), (2, .int .i64 c), (3, .int .i64 d), (30, .slice (some ⟨g0, 0, none⟩) 4 4), (31, .int .i64 4), (32, .int .i64 (i : Nat))]) (fun _ => Sto w [blk g0 105 #[.int .i64 a, .int .i64 64, .int .i64 b, .int .i64 64, .int .i64 c, .int .i64 4096, .int .i64 d, .int .i64 8]]) (fun i => i ≤ 4 ∧ (0 < i → 1 ≤ a ∧ a ≤ 64) ∧ (1 < i → 1 ≤ b ∧ b ≤ 64) ∧ (2 < i → 1 ≤ c ∧ c ≤ 4096) ∧ (3 < i → 1 ≤ d ∧ d ≤ 8)) (fun i => 4 - i) 0 ⟨rfl, rfl, rfl, rfl, rfl, rfl, rfl, trivial⟩ (fun _ h => h) (by omega) ?_
  intro i hi
  refine CW.seq ?_
  refine CW.reg [0] rfl ?_
  refine s_lt 33 rfl rfl rfl rfl ?_
  refine SX.next ?_
  refine CW.seq ?_
  refine CW.test rfl (fun hc => ?_) (fun hc => ?_)
  · skip
    have hi4 : i < 4 := by omega
    refine CW.skip ?_
    refine KN.code ?_
    refine CW.seq ?_
    refine CW.block ?_
    refine CW.seq ?_
    rcases (show i = 0 ∨ i = 1 ∨ i = 2 ∨ i = 3 by omega) with rfl | rfl | rfl | rfl
    · skip
      refine CW.reg [0, 1, 2, 3] rfl ?_
      refine s_ia 34 rfl rfl rfl (by omega) ?_
      refine s_ldR 35 (cs := [.int .i64 a, .int .i64 64]) rfl rfl rfl (fun w hw => hw.blkPart (i := 0) rfl (two_at rfl rfl)) ?_
      refine s_alloc 15 rfl (fun _ _ => trivial) (fun b15 => ?_)
      refine s_stAll 0 rfl rfl (by kernel_rfl) rfl rfl rfl rfl (fun _ _ => trivial) ?_
      refine SX.next ?_
      refine CW.seq ?_
      refine CW.reg [0, 1, 2, 3, 4, 5, 6, 7, 8, 9] rfl ?_
      refine s_iaR 36 0 rfl rfl rfl rfl (by omega) ?_
      refine s_ldB 37 0 rfl rfl rfl (v := .int .i64 a) rfl ?_
      refine s_lt 38 rfl rfl rfl rfl ?_
      refine s_mv 39 rfl rfl ?_
      refine SX.bool 39 rfl (fun hb => ?_) (fun hb => ?_)
      · skip
        skip
        refine SX.skip rfl ?_
        refine SX.skip rfl ?_
        refine SX.skip rfl ?_
        refine SX.skip rfl ?_
        refine SX.skip rfl ?_
        refine s_pickT 45 rfl rfl rfl ?_
        refine SX.next ?_
        refine CW.condT rfl ?_
        refine CW.seq ?_
        refine CW.regD (.st true 0 (.st true 1 (.st true 2 .done))) (Sto w []) mixed (by kernel_rfl) (fun _ h => h.drew) (fun _ h => h.pick [] rfl) ?_
        refine s_ldS 46 rfl rfl (fun _ h => h.cell hE) ?_
        refine s_as 12 rfl rfl ?_
        refine s_as 13 rfl rfl ?_
        refine SX.next ?_
        refine CW.ret ?_
        exact KN.ret (rs := [.tmp 12, .tmp 13]) Tryd.results13 rfl (fun w hw => ⟨rfl, hw.nothing⟩)
      · skip
        have hq1 := of_decide_eq_false hb
        refine s_iaR 40 0 rfl rfl rfl rfl (by omega) ?_
        refine s_ldB 41 0 rfl rfl rfl (v := .int .i64 a) rfl ?_
        refine s_iaR 42 1 rfl rfl rfl rfl (by omega) ?_
        refine s_ldB 43 0 rfl rfl rfl (v := .int .i64 64) rfl ?_
        refine s_gt 44 rfl rfl rfl rfl ?_
        refine s_pickF 45 rfl rfl rfl ?_
        refine SX.next ?_
        refine CW.test rfl (fun hc => ?_) (fun hc => ?_)
        · skip
          refine CW.seq ?_
          refine CW.regD (.st true 0 (.st true 1 (.st true 2 .done))) (Sto w []) mixed (by kernel_rfl) (fun _ h => h.drew) (fun _ h => h.pick [] rfl) ?_
          refine s_ldS 46 rfl rfl (fun _ h => h.cell hE) ?_
          refine s_as 12 rfl rfl ?_
          refine s_as 13 rfl rfl ?_
          refine SX.next ?_
          refine CW.ret ?_
          exact KN.ret (rs := [.tmp 12, .tmp 13]) Tryd.results13 rfl (fun w hw => ⟨rfl, hw.nothing⟩)
        · skip
          refine CW.skip ?_
          refine KN.blk ?_
          refine KN.code ?_
          refine CW.reg [0, 1] rfl ?_
          refine s_add 47 rfl rfl rfl (r := ((1 : Nat) : Int)) rfl ?_
          refine s_mv 32 rfl rfl ?_
          refine SX.end_ ?_
          exact KN.back 1 ⟨rfl, rfl, rfl, rfl, rfl, rfl, rfl, trivial⟩ (fun _ h => h.pick [1] rfl) (by omega) (by omega)
    · skip
      refine CW.reg [0, 1, 2, 3] rfl ?_
      refine s_ia 34 rfl rfl rfl (by omega) ?_
      refine s_ldR 35 (cs := [.int .i64 b, .int .i64 64]) rfl rfl rfl (fun w hw => hw.blkPart (i := 0) rfl (two_at rfl rfl)) ?_
      refine s_alloc 15 rfl (fun _ _ => trivial) (fun b15 => ?_)
      refine s_stAll 0 rfl rfl (by kernel_rfl) rfl rfl rfl rfl (fun _ _ => trivial) ?_
      refine SX.next ?_
      refine CW.seq ?_
      refine CW.reg [0, 1, 2, 3, 4, 5, 6, 7, 8, 9] rfl ?_
      refine s_iaR 36 0 rfl rfl rfl rfl (by omega) ?_
      refine s_ldB 37 0 rfl rfl rfl (v := .int .i64 b) rfl ?_
      refine s_lt 38 rfl rfl rfl rfl ?_
      refine s_mv 39 rfl rfl ?_
      refine SX.bool 39 rfl (fun hb => ?_) (fun hb => ?_)
      · skip
        skip
        refine SX.skip rfl ?_
        refine SX.skip rfl ?_
        refine SX.skip rfl ?_
        refine SX.skip rfl ?_
        refine SX.skip rfl ?_
        refine s_pickT 45 rfl rfl rfl ?_
        refine SX.next ?_
        refine CW.condT rfl ?_
        refine CW.seq ?_
        refine CW.regD (.st true 0 (.st true 1 (.st true 2 .done))) (Sto w []) mixed (by kernel_rfl) (fun _ h => h.drew) (fun _ h => h.pick [] rfl) ?_
        refine s_ldS 46 rfl rfl (fun _ h => h.cell hE) ?_
        refine s_as 12 rfl rfl ?_
        refine s_as 13 rfl rfl ?_
        refine SX.next ?_
        refine CW.ret ?_
        exact KN.ret (rs := [.tmp 12, .tmp 13]) Tryd.results13 rfl (fun w hw => ⟨rfl, hw.nothing⟩)
      · skip
        have hq1 := of_decide_eq_false hb
        refine s_iaR 40 0 rfl rfl rfl rfl (by omega) ?_
        refine s_ldB 41 0 rfl rfl rfl (v := .int .i64 b) rfl ?_
        refine s_iaR 42 1 rfl rfl rfl rfl (by omega) ?_
        refine s_ldB 43 0 rfl rfl rfl (v := .int .i64 64) rfl ?_
        refine s_gt 44 rfl rfl rfl rfl ?_
        refine s_pickF 45 rfl rfl rfl ?_
        refine SX.next ?_
        refine CW.test rfl (fun hc => ?_) (fun hc => ?_)
        · skip
          refine CW.seq ?_
          refine CW.regD (.st true 0 (.st true 1 (.st true 2 .done))) (Sto w []) mixed (by kernel_rfl) (fun _ h => h.drew) (fun _ h => h.pick [] rfl) ?_
          refine s_ldS 46 rfl rfl (fun _ h => h.cell hE) ?_
          refine s_as 12 rfl rfl ?_
          refine s_as 13 rfl rfl ?_
          refine SX.next ?_
          refine CW.ret ?_
          exact KN.ret (rs := [.tmp 12, .tmp 13]) Tryd.results13 rfl (fun w hw => ⟨rfl, hw.nothing⟩)
        · skip
          refine CW.skip ?_
          refine KN.blk ?_
          refine KN.code ?_
          refine CW.reg [0, 1] rfl ?_
          refine s_add 47 rfl rfl rfl (r := ((2 : Nat) : Int)) rfl ?_
          refine s_mv 32 rfl rfl ?_
          refine SX.end_ ?_
          exact KN.back 2 ⟨rfl, rfl, rfl, rfl, rfl, rfl, rfl, trivial⟩ (fun _ h => h.pick [1] rfl) (by omega) (by omega)
    · skip
      refine CW.reg [0, 1, 2, 3] rfl ?_
      refine s_ia 34 rfl rfl rfl (by omega) ?_
      refine s_ldR 35 (cs := [.int .i64 c, .int .i64 4096]) rfl rfl rfl (fun w hw => hw.blkPart (i := 0) rfl (two_at rfl rfl)) ?_
      refine s_alloc 15 rfl (fun _ _ => trivial) (fun b15 => ?_)
      refine s_stAll 0 rfl rfl (by kernel_rfl) rfl rfl rfl rfl (fun _ _ => trivial) ?_
      refine SX.next ?_
      refine CW.seq ?_
      refine CW.reg [0, 1, 2, 3, 4, 5, 6, 7, 8, 9] rfl ?_
      refine s_iaR 36 0 rfl rfl rfl rfl (by omega) ?_
      refine s_ldB 37 0 rfl rfl rfl (v := .int .i64 c) rfl ?_
      refine s_lt 38 rfl rfl rfl rfl ?_
      refine s_mv 39 rfl rfl ?_
      refine SX.bool 39 rfl (fun hb => ?_) (fun hb => ?_)
      · skip
        skip
        refine SX.skip rfl ?_
        refine SX.skip rfl ?_
        refine SX.skip rfl ?_
        refine SX.skip rfl ?_
        refine SX.skip rfl ?_
        refine s_pickT 45 rfl rfl rfl ?_
        refine SX.next ?_
        refine CW.condT rfl ?_
        refine CW.seq ?_
        refine CW.regD (.st true 0 (.st true 1 (.st true 2 .done))) (Sto w []) mixed (by kernel_rfl) (fun _ h => h.drew) (fun _ h => h.pick [] rfl) ?_
        refine s_ldS 46 rfl rfl (fun _ h => h.cell hE) ?_
        refine s_as 12 rfl rfl ?_
        refine s_as 13 rfl rfl ?_
        refine SX.next ?_
        refine CW.ret ?_
        exact KN.ret (rs := [.tmp 12, .tmp 13]) Tryd.results13 rfl (fun w hw => ⟨rfl, hw.nothing⟩)
      · skip
        have hq1 := of_decide_eq_false hb
        refine s_iaR 40 0 rfl rfl rfl rfl (by omega) ?_
        refine s_ldB 41 0 rfl rfl rfl (v := .int .i64 c) rfl ?_
        refine s_iaR 42 1 rfl rfl rfl rfl (by omega) ?_
        refine s_ldB 43 0 rfl rfl rfl (v := .int .i64 4096) rfl ?_
        refine s_gt 44 rfl rfl rfl rfl ?_
        refine s_pickF 45 rfl rfl rfl ?_
        refine SX.next ?_
        refine CW.test rfl (fun hc => ?_) (fun hc => ?_)
        · skip
          refine CW.seq ?_
          refine CW.regD (.st true 0 (.st true 1 (.st true 2 .done))) (Sto w []) mixed (by kernel_rfl) (fun _ h => h.drew) (fun _ h => h.pick [] rfl) ?_
          refine s_ldS 46 rfl rfl (fun _ h => h.cell hE) ?_
          refine s_as 12 rfl rfl ?_
          refine s_as 13 rfl rfl ?_
          refine SX.next ?_
          refine CW.ret ?_
          exact KN.ret (rs := [.tmp 12, .tmp 13]) Tryd.results13 rfl (fun w hw => ⟨rfl, hw.nothing⟩)
        · skip
          refine CW.skip ?_
          refine KN.blk ?_
          refine KN.code ?_
          refine CW.reg [0, 1] rfl ?_
          refine s_add 47 rfl rfl rfl (r := ((3 : Nat) : Int)) rfl ?_
          refine s_mv 32 rfl rfl ?_
          refine SX.end_ ?_
          exact KN.back 3 ⟨rfl, rfl, rfl, rfl, rfl, rfl, rfl, trivial⟩ (fun _ h => h.pick [1] rfl) (by omega) (by omega)
    · skip
      refine CW.reg [0, 1, 2, 3] rfl ?_
      refine s_ia 34 rfl rfl rfl (by omega) ?_
      refine s_ldR 35 (cs := [.int .i64 d, .int .i64 8]) rfl rfl rfl (fun w hw => hw.blkPart (i := 0) rfl (two_at rfl rfl)) ?_
      refine s_alloc 15 rfl (fun _ _ => trivial) (fun b15 => ?_)
      refine s_stAll 0 rfl rfl (by kernel_rfl) rfl rfl rfl rfl (fun _ _ => trivial) ?_
      refine SX.next ?_
      refine CW.seq ?_
      refine CW.reg [0, 1, 2, 3, 4, 5, 6, 7, 8, 9] rfl ?_
      refine s_iaR 36 0 rfl rfl rfl rfl (by omega) ?_
      refine s_ldB 37 0 rfl rfl rfl (v := .int .i64 d) rfl ?_
      refine s_lt 38 rfl rfl rfl rfl ?_
      refine s_mv 39 rfl rfl ?_
      refine SX.bool 39 rfl (fun hb => ?_) (fun hb => ?_)
      · skip
        skip
        refine SX.skip rfl ?_
        refine SX.skip rfl ?_
        refine SX.skip rfl ?_
        refine SX.skip rfl ?_
        refine SX.skip rfl ?_
        refine s_pickT 45 rfl rfl rfl ?_
        refine SX.next ?_
        refine CW.condT rfl ?_
        refine CW.seq ?_
        refine CW.regD (.st true 0 (.st true 1 (.st true 2 .done))) (Sto w []) mixed (by kernel_rfl) (fun _ h => h.drew) (fun _ h => h.pick [] rfl) ?_
        refine s_ldS 46 rfl rfl (fun _ h => h.cell hE) ?_
        refine s_as 12 rfl rfl ?_
        refine s_as 13 rfl rfl ?_
        refine SX.next ?_
        refine CW.ret ?_
        exact KN.ret (rs := [.tmp 12, .tmp 13]) Tryd.results13 rfl (fun w hw => ⟨rfl, hw.nothing⟩)
      · skip
        have hq1 := of_decide_eq_false hb
        refine s_iaR 40 0 rfl rfl rfl rfl (by omega) ?_
        refine s_ldB 41 0 rfl rfl rfl (v := .int .i64 d) rfl ?_
        refine s_iaR 42 1 rfl rfl rfl rfl (by omega) ?_
        refine s_ldB 43 0 rfl rfl rfl (v := .int .i64 8) rfl ?_
        refine s_gt 44 rfl rfl rfl rfl ?_
        refine s_pickF 45 rfl rfl rfl ?_
        refine SX.next ?_
        refine CW.test rfl (fun hc => ?_) (fun hc => ?_)
        · skip
          refine CW.seq ?_
          refine CW.regD (.st true 0 (.st true 1 (.st true 2 .done))) (Sto w []) mixed (by kernel_rfl) (fun _ h => h.drew) (fun _ h => h.pick [] rfl) ?_
          refine s_ldS 46 rfl rfl (fun _ h => h.cell hE) ?_
          refine s_as 12 rfl rfl ?_
          refine s_as 13 rfl rfl ?_
          refine SX.next ?_
          refine CW.ret ?_
          exact KN.ret (rs := [.tmp 12, .tmp 13]) Tryd.results13 rfl (fun w hw => ⟨rfl, hw.nothing⟩)
        · skip
          refine CW.skip ?_
          refine KN.blk ?_
          refine KN.code ?_
          refine CW.reg [0, 1] rfl ?_
          refine s_add 47 rfl rfl rfl (r := ((4 : Nat) : Int)) rfl ?_
          refine s_mv 32 rfl rfl ?_
          refine SX.end_ ?_
          exact KN.back 4 ⟨rfl, rfl, rfl, rfl, rfl, rfl, rfl, trivial⟩ (fun _ h => h.pick [1] rfl) (by omega) (by omega)
  · skip
    omega

set_option maxHeartbeats 3200000 in

theorem cnew_ok (nb np sz lv : Nat) (mA : Option Addr) (mc : Nat) (ms : List Int) (pA : Option Addr) (pc : Nat) (pl : List FtG) (e : Nat → Addr) (w : World) (h1 : 1 ≤ nb ∧ nb ≤ 64) (h2 : 1 ≤ np ∧ np ≤ 64) (h3 : 1 ≤ sz ∧ sz ≤ 4096) (h4 : 1 ≤ lv ∧ lv ≤ 8) (hM : Has (sl 1 mA ms.length (ints .i64 ms)) w) (hml : ms.length ≤ 1000000) (hms : ∀ m ∈ ms, 0 ≤ m ∧ m < (nb : Int)) (hE : Er e w 6) (hP : PlIn pA pl w) (hpl1 : pl.length ≤ 1000) : SpecX Tryd.prog 13 [.int .i64 (nb : Nat), .int .i64 (np : Nat), .int .i64 (sz : Nat), .int .i64 (lv : Nat), .slice mA ms.length mc, .slice pA pl.length pc] w (X := Nat × ChG) (fun z => two (.pointer (some ⟨z.1, 0, none⟩)) .nilIface) (fun z => z.2.abs = ChS.new nb np sz lv ms (pl.map FtG.abs) ∧ z.2.watch = .nilFunc) (fun z => [chipA z.1 z.2]) := by
  refine spec_of Tryd.func13 rfl Tryd.ntmps13 rfl ?_
  refine CW.seq ?_
  refine CW.reg [0, 1] rfl ?_
  refine s_as 12 rfl rfl ?_
  refine s_as 13 rfl rfl ?_
  refine SX.next ?_
  refine CW.seq ?_
  refine CW.seq ?_
  refine CW.reg [0, 1, 2, 3, 4, 5, 6, 7, 8, 9, 10] rfl ?_
  refine s_mv 22 rfl rfl ?_
  refine s_buildA 23 rfl rfl (cells := #[.int .i64 ((nb : Nat) : Int), .int .i64 64]) (by kernel_rfl) ?_
  refine s_mv 24 rfl rfl ?_
  refine s_buildA 25 rfl rfl (cells := #[.int .i64 ((np : Nat) : Int), .int .i64 64]) (by kernel_rfl) ?_
  refine s_mv 26 rfl rfl ?_
  refine s_buildA 27 rfl rfl (cells := #[.int .i64 ((sz : Nat) : Int), .int .i64 4096]) (by kernel_rfl) ?_
  refine s_mv 28 rfl rfl ?_
  refine s_buildA 29 rfl rfl (cells := #[.int .i64 ((lv : Nat) : Int), .int .i64 8]) (by kernel_rfl) ?_
  refine s_bsl 30 rfl rfl (cells := #[.int .i64 ((nb : Nat) : Int), .int .i64 64, .int .i64 ((np : Nat) : Int), .int .i64 64, .int .i64 ((sz : Nat) : Int), .int .i64 4096, .int .i64 ((lv : Nat) : Int), .int .i64 8]) (by kernel_rfl) rfl (fun _ _ => trivial) (fun g0 => ?_)
  refine s_len 31 rfl rfl ?_
  refine s_mv 32 rfl rfl ?_
  refine SX.next ?_
  refine CW.block ?_
  refine CW.loop (G := Nat) (fun i => [(0, .int .i64 (((nb : Nat) : Int))), (1, .int .i64 (((np : Nat) : Int))), (2, .int .i64 (((sz : Nat) : Int))), (3, .int .i64 (((lv : Nat) : Int))), (4, .slice mA ms.length mc), (5, .slice pA pl.length pc), (30, .slice (some ⟨g0, 0, none⟩) 4 4), (31, .int .i64 4), (32, .int .i64 (i : Nat))]) (fun _ => Sto w [blk g0 105 #[.int .i64 ((nb : Nat) : Int), .int .i64 64, .int .i64 ((np : Nat) : Int), .int .i64 64, .int .i64 ((sz : Nat) : Int), .int .i64 4096, .int .i64 ((lv : Nat) : Int), .int .i64 8]]) (fun i => i ≤ 4) (fun i => 4 - i) 0 ⟨rfl, rfl, rfl, rfl, rfl, rfl, rfl, rfl, rfl, trivial⟩ (fun _ h => h) (by omega) ?_
  intro i hi
  refine CW.seq ?_
  refine CW.reg [0] rfl ?_
  refine s_lt 33 rfl rfl rfl rfl ?_
  refine SX.next ?_
  refine CW.seq ?_
  refine CW.test rfl (fun hc => ?_) (fun hc => ?_)
  · skip
    have hi4 : i < 4 := by omega
    refine CW.skip ?_
    refine KN.code ?_
    refine CW.seq ?_
    refine CW.block ?_
    refine CW.seq ?_
    rcases (show i = 0 ∨ i = 1 ∨ i = 2 ∨ i = 3 by omega) with rfl | rfl | rfl | rfl
    · skip
      refine CW.reg [0, 1, 2, 3] rfl ?_
      refine s_ia 34 rfl rfl rfl (by omega) ?_
      refine s_ldR 35 (cs := [.int .i64 ((nb : Nat) : Int), .int .i64 64]) rfl rfl rfl (fun w hw => hw.blkPart (i := 0) rfl (two_at rfl rfl)) ?_
      refine s_alloc 15 rfl (fun _ _ => trivial) (fun b15 => ?_)
      refine s_stAll 0 rfl rfl (by kernel_rfl) rfl rfl rfl rfl (fun _ _ => trivial) ?_
      refine SX.next ?_
      refine CW.seq ?_
      refine CW.reg [0, 1, 2, 3, 4, 5, 6, 7, 8, 9] rfl ?_
      refine s_iaR 36 0 rfl rfl rfl rfl (by omega) ?_
      refine s_ldB 37 0 rfl rfl rfl (v := .int .i64 ((nb : Nat) : Int)) rfl ?_
      refine s_lt 38 rfl rfl rfl (decide_eq_false (by omega)) ?_
      refine s_mv 39 rfl rfl ?_
      refine s_iaR 40 0 rfl rfl rfl rfl (by omega) ?_
      refine s_ldB 41 0 rfl rfl rfl (v := .int .i64 ((nb : Nat) : Int)) rfl ?_
      refine s_iaR 42 1 rfl rfl rfl rfl (by omega) ?_
      refine s_ldB 43 0 rfl rfl rfl (v := .int .i64 64) rfl ?_
      refine s_gt 44 rfl rfl rfl (decide_eq_false (by omega)) ?_
      refine s_pickF 45 rfl rfl rfl ?_
      refine SX.next ?_
      refine CW.condF rfl ?_
      refine CW.skip ?_
      refine KN.blk ?_
      refine KN.code ?_
      refine CW.reg [0, 1] rfl ?_
      refine s_add 47 rfl rfl rfl (r := ((1 : Nat) : Int)) rfl ?_
      refine s_mv 32 rfl rfl ?_
      refine SX.end_ ?_
      exact KN.back 1 ⟨rfl, rfl, rfl, rfl, rfl, rfl, rfl, rfl, rfl, trivial⟩ (fun _ h => h.pick [1] rfl) (by omega) (by omega)
    · skip
      refine CW.reg [0, 1, 2, 3] rfl ?_
      refine s_ia 34 rfl rfl rfl (by omega) ?_
      refine s_ldR 35 (cs := [.int .i64 ((np : Nat) : Int), .int .i64 64]) rfl rfl rfl (fun w hw => hw.blkPart (i := 0) rfl (two_at rfl rfl)) ?_
      refine s_alloc 15 rfl (fun _ _ => trivial) (fun b15 => ?_)
      refine s_stAll 0 rfl rfl (by kernel_rfl) rfl rfl rfl rfl (fun _ _ => trivial) ?_
      refine SX.next ?_
      refine CW.seq ?_
      refine CW.reg [0, 1, 2, 3, 4, 5, 6, 7, 8, 9] rfl ?_
      refine s_iaR 36 0 rfl rfl rfl rfl (by omega) ?_
      refine s_ldB 37 0 rfl rfl rfl (v := .int .i64 ((np : Nat) : Int)) rfl ?_
      refine s_lt 38 rfl rfl rfl (decide_eq_false (by omega)) ?_
      refine s_mv 39 rfl rfl ?_
      refine s_iaR 40 0 rfl rfl rfl rfl (by omega) ?_
      refine s_ldB 41 0 rfl rfl rfl (v := .int .i64 ((np : Nat) : Int)) rfl ?_
      refine s_iaR 42 1 rfl rfl rfl rfl (by omega) ?_
      refine s_ldB 43 0 rfl rfl rfl (v := .int .i64 64) rfl ?_
      refine s_gt 44 rfl rfl rfl (decide_eq_false (by omega)) ?_
      refine s_pickF 45 rfl rfl rfl ?_
      refine SX.next ?_
      refine CW.condF rfl ?_
      refine CW.skip ?_
      refine KN.blk ?_
      refine KN.code ?_
      refine CW.reg [0, 1] rfl ?_
      refine s_add 47 rfl rfl rfl (r := ((2 : Nat) : Int)) rfl ?_
      refine s_mv 32 rfl rfl ?_
      refine SX.end_ ?_
      exact KN.back 2 ⟨rfl, rfl, rfl, rfl, rfl, rfl, rfl, rfl, rfl, trivial⟩ (fun _ h => h.pick [1] rfl) (by omega) (by omega)
    · skip
      refine CW.reg [0, 1, 2, 3] rfl ?_
      refine s_ia 34 rfl rfl rfl (by omega) ?_
      refine s_ldR 35 (cs := [.int .i64 ((sz : Nat) : Int), .int .i64 4096]) rfl rfl rfl (fun w hw => hw.blkPart (i := 0) rfl (two_at rfl rfl)) ?_
      refine s_alloc 15 rfl (fun _ _ => trivial) (fun b15 => ?_)
      refine s_stAll 0 rfl rfl (by kernel_rfl) rfl rfl rfl rfl (fun _ _ => trivial) ?_
      refine SX.next ?_
      refine CW.seq ?_
      refine CW.reg [0, 1, 2, 3, 4, 5, 6, 7, 8, 9] rfl ?_
      refine s_iaR 36 0 rfl rfl rfl rfl (by omega) ?_
      refine s_ldB 37 0 rfl rfl rfl (v := .int .i64 ((sz : Nat) : Int)) rfl ?_
      refine s_lt 38 rfl rfl rfl (decide_eq_false (by omega)) ?_
      refine s_mv 39 rfl rfl ?_
      refine s_iaR 40 0 rfl rfl rfl rfl (by omega) ?_
      refine s_ldB 41 0 rfl rfl rfl (v := .int .i64 ((sz : Nat) : Int)) rfl ?_
      refine s_iaR 42 1 rfl rfl rfl rfl (by omega) ?_
      refine s_ldB 43 0 rfl rfl rfl (v := .int .i64 4096) rfl ?_
      refine s_gt 44 rfl rfl rfl (decide_eq_false (by omega)) ?_
      refine s_pickF 45 rfl rfl rfl ?_
      refine SX.next ?_
      refine CW.condF rfl ?_
      refine CW.skip ?_
      refine KN.blk ?_
      refine KN.code ?_
      refine CW.reg [0, 1] rfl ?_
      refine s_add 47 rfl rfl rfl (r := ((3 : Nat) : Int)) rfl ?_
      refine s_mv 32 rfl rfl ?_
      refine SX.end_ ?_
      exact KN.back 3 ⟨rfl, rfl, rfl, rfl, rfl, rfl, rfl, rfl, rfl, trivial⟩ (fun _ h => h.pick [1] rfl) (by omega) (by omega)
    · skip
      refine CW.reg [0, 1, 2, 3] rfl ?_
      refine s_ia 34 rfl rfl rfl (by omega) ?_
      refine s_ldR 35 (cs := [.int .i64 ((lv : Nat) : Int), .int .i64 8]) rfl rfl rfl (fun w hw => hw.blkPart (i := 0) rfl (two_at rfl rfl)) ?_
      refine s_alloc 15 rfl (fun _ _ => trivial) (fun b15 => ?_)
      refine s_stAll 0 rfl rfl (by kernel_rfl) rfl rfl rfl rfl (fun _ _ => trivial) ?_
      refine SX.next ?_
      refine CW.seq ?_
      refine CW.reg [0, 1, 2, 3, 4, 5, 6, 7, 8, 9] rfl ?_
      refine s_iaR 36 0 rfl rfl rfl rfl (by omega) ?_
      refine s_ldB 37 0 rfl rfl rfl (v := .int .i64 ((lv : Nat) : Int)) rfl ?_
      refine s_lt 38 rfl rfl rfl (decide_eq_false (by omega)) ?_
      refine s_mv 39 rfl rfl ?_
      refine s_iaR 40 0 rfl rfl rfl rfl (by omega) ?_
      refine s_ldB 41 0 rfl rfl rfl (v := .int .i64 ((lv : Nat) : Int)) rfl ?_
      refine s_iaR 42 1 rfl rfl rfl rfl (by omega) ?_
      refine s_ldB 43 0 rfl rfl rfl (v := .int .i64 8) rfl ?_
      refine s_gt 44 rfl rfl rfl (decide_eq_false (by omega)) ?_
      refine s_pickF 45 rfl rfl rfl ?_
      refine SX.next ?_
      refine CW.condF rfl ?_
      refine CW.skip ?_
      refine KN.blk ?_
      refine KN.code ?_
      refine CW.reg [0, 1] rfl ?_
      refine s_add 47 rfl rfl rfl (r := ((4 : Nat) : Int)) rfl ?_
      refine s_mv 32 rfl rfl ?_
      refine SX.end_ ?_
      exact KN.back 4 ⟨rfl, rfl, rfl, rfl, rfl, rfl, rfl, rfl, rfl, trivial⟩ (fun _ h => h.pick [1] rfl) (by omega) (by omega)
  · skip
    skip
    refine CW.exit rfl ?_
    refine KN.code ?_
    refine CW.seq ?_
    refine CW.reg [0, 1, 2, 3, 4, 5, 6, 7] rfl ?_
    refine s_mv 48 rfl rfl ?_
    refine s_mv 49 rfl rfl ?_
    refine s_mv 50 rfl rfl ?_
    refine s_mv 51 rfl rfl ?_
    refine s_makeR 52 nb (sz := 3) (by_ := 40) (zv := .agg #[.slice none 0 0, .int .i64 0, .bool false]) rfl rfl rfl rfl rfl (by decide) (by unfold maxLen; omega) (fun _ _ => trivial) (fun gB => ?_)
    refine s_build 53 rfl rfl (cells := #[.int .i64 ((np : Nat) : Int), .int .i64 ((sz : Nat) : Int), .int .i64 ((lv : Nat) : Int), .slice (some ⟨gB, 0, none⟩) nb nb, .slice none 0 0, .int .i64 0, .int .i64 0, .bool false, .nilFunc]) (by kernel_rfl) ?_
    refine s_box 54 rfl rfl (fun _ _ => trivial) (fun g => ?_)
    refine s_as 16 rfl rfl ?_
    refine SX.next ?_
    refine CW.seq ?_
    refine CW.seq ?_
    refine CW.reg [0, 1, 2, 3, 4, 5] rfl ?_
    refine s_mv 55 rfl rfl ?_
    refine s_nil 56 rfl rfl ?_
    refine s_fa 57 rfl rfl ?_
    refine s_ld 58 rfl rfl (v := .slice (some ⟨gB, 0, none⟩) nb nb) (fun _ hw => hw.blkCell (i := 0) (j := 3) rfl rfl) ?_
    refine s_len 59 rfl rfl ?_
    refine s_mv 60 rfl rfl ?_
    refine SX.next ?_
    refine CW.block ?_
    refine CW.loop (G := Nat × List BkG) (fun q => [(1, .int .i64 ((np : Nat) : Int)), (2, .int .i64 ((sz : Nat) : Int)), (4, .slice mA ms.length mc), (5, .slice pA pl.length pc), (16, .pointer (some ⟨g, 0, none⟩)), (59, .int .i64 ((nb : Nat) : Int)), (60, .int .i64 (q.1 : Nat))]) (fun q => Sto w [blk g 109 #[.int .i64 ((np : Nat) : Int), .int .i64 ((sz : Nat) : Int), .int .i64 ((lv : Nat) : Int), .slice (some ⟨gB, 0, none⟩) nb nb, .slice none 0 0, .int .i64 0, .int .i64 0, .bool false, .nilFunc], own 112 3 (some ⟨gB, 0, none⟩) nb nb (q.2.flatMap BkG.row), starA (q.2.map BkG.dat)]) (fun q => q.1 ≤ nb ∧ q.2.map BkG.abs = List.replicate q.1 (BkS.fresh np sz) ++ List.replicate (nb - q.1) BkS.nul) (fun q => nb - q.1) (0, List.replicate nb BkG.nul) ⟨rfl, rfl, rfl, rfl, rfl, rfl, rfl, trivial⟩ (fun _ h => by
  have h1 := h.pick [0, 0] rfl
  have h2 := St.many (fun L h => BkG.nul_dat _ _ _ L h) h1 nb
  rw [← List.map_replicate] at h2
  have e := flat_rep (row := BkG.row) BkG.nul nb
  have h3 := h2.pick [1, 1, 0] rfl
  simp only
  rw [e]
  exact h3) ⟨Nat.zero_le _, by rw [List.map_replicate]; rfl⟩ ?_
    rintro ⟨i, bs⟩ ⟨hi, hbs⟩
    simp only at hi hbs
    dsimp only
    have hbl := rep_len hbs hi
    refine CW.seq ?_
    refine CW.reg [0] rfl ?_
    refine s_lt 61 rfl rfl rfl rfl ?_
    refine SX.next ?_
    refine CW.seq ?_
    refine CW.test rfl (fun hc => ?_) (fun hc => ?_)
    · skip
      have hil : i < nb := by omega
      obtain ⟨b0, hb0⟩ : ∃ b0, bs[i]? = some b0 := ⟨_, List.getElem?_eq_getElem (by omega)⟩
      have hb0a := rep_at hbs hil hb0
      refine CW.skip ?_
      refine KN.code ?_
      refine CW.seq ?_
      refine CW.block ?_
      refine CW.seq ?_
      refine CW.reg [0, 1] rfl ?_
      refine s_mv 62 rfl rfl ?_
      refine s_as 17 rfl rfl ?_
      refine SX.next ?_
      refine CW.seq ?_
      refine CW.regD (.st true 0 (.st true 1 (.st true 2 (.st true 3 (.st true 4 (.st true 5 (.st false 6 (.st true 7 (.st true 8 (.st false 9 .done)))))))))) (Sto w [blk g 109 #[.int .i64 ((np : Nat) : Int), .int .i64 ((sz : Nat) : Int), .int .i64 ((lv : Nat) : Int), .slice (some ⟨gB, 0, none⟩) nb nb, .slice none 0 0, .int .i64 0, .int .i64 0, .bool false, .nilFunc]]) mixed (by kernel_rfl) (fun _ h => h.drew) (fun _ h => h.pick [0] rfl) ?_
      refine s_mv 63 rfl rfl ?_
      refine s_nil 64 rfl rfl ?_
      refine s_fa 65 rfl rfl ?_
      refine s_ldS 66 rfl rfl (v := .slice (some ⟨gB, 0, none⟩) nb nb) (fun _ hw => hw.blkCell (i := 0) (j := 3) rfl rfl) ?_
      refine s_mv 67 rfl rfl ?_
      refine s_mv 68 rfl rfl ?_
      refine s_makeR 69 np (sz := 3) (by_ := 56) (zv := .agg #[.slice none 0 0, .slice none 0 0, .bool false]) rfl rfl rfl rfl rfl (by decide) (by unfold maxLen; omega) (fun _ h => h.pick [0] rfl) (fun gp => ?_)
      refine s_iaOS 70 2 i rfl rfl rfl rfl rfl hil ?_
      refine s_fa 71 rfl rfl ?_
      refine s_stOS 2 (j := i * 3 + 0) rfl rfl rfl rfl rfl (by omega) (fun _ h => h.pick [1] rfl) ?_
      refine SX.next ?_
      refine CW.seq ?_
      have hset : (bs.set i ({ b0 with A := some ⟨gp, 0, none⟩, c := np, pages := List.replicate np PgG.nul } : BkG))[i]? = some ({ b0 with A := some ⟨gp, 0, none⟩, c := np, pages := List.replicate np PgG.nul } : BkG) := by rw [List.getElem?_set_self (by omega)]
      refine CW.pre (C' := Sto w [own 115 3 (some ⟨gp, 0, none⟩) np np ((List.replicate np PgG.nul).flatMap PgG.row), starA ((List.replicate np PgG.nul).map PgG.dat), blk g 109 #[.int .i64 ((np : Nat) : Int), .int .i64 ((sz : Nat) : Int), .int .i64 ((lv : Nat) : Int), .slice (some ⟨gB, 0, none⟩) nb nb, .slice none 0 0, .int .i64 0, .int .i64 0, .bool false, .nilFunc], own 112 3 (some ⟨gB, 0, none⟩) nb nb ((bs.set i ({ b0 with A := some ⟨gp, 0, none⟩, c := np, pages := List.replicate np PgG.nul } : BkG)).flatMap BkG.row), starA ((bs.map BkG.dat).eraseIdx i)]) (fun _ h => by
        have h1 := h.pick [3, 0, 0, 0] rfl
        have h2 := (h1.focus (i := i) (A := b0.dat) (by rw [List.getElem?_map, hb0]; rfl)).tail
        have h3 := St.many (fun L h => PgG.nul_dat _ _ _ L h) h2 np
        rw [← List.map_replicate] at h3
        have e := flat_rep (row := PgG.row) PgG.nul np
        have e2 := flat_set (row := BkG.row) bkRow_len hb0 (j := 0) (v := .slice (some ⟨gp, 0, none⟩) np np) (b := ({ b0 with A := some ⟨gp, 0, none⟩, c := np, pages := List.replicate np PgG.nul } : BkG)) (by decide) (by unfold BkG.row; rw [List.length_replicate]; rfl)
        rw [e, e2]
        exact h3.pick [2, 0, 1, 1, 0] rfl) ?_
      refine CW.reg [0, 1, 2, 3, 4, 5, 6, 7, 8, 9] rfl ?_
      refine s_mv 72 rfl rfl ?_
      refine s_nil 73 rfl rfl ?_
      refine s_fa 74 rfl rfl ?_
      refine s_ld 75 rfl rfl (v := .slice (some ⟨gB, 0, none⟩) nb nb) (fun _ hw => hw.blkCell (i := 2) (j := 3) rfl rfl) ?_
      refine s_mv 76 rfl rfl ?_
      refine s_iaV 77 i (fun w hw => (hw.has (i := 3) rfl).of_own) rfl rfl rfl rfl hil ?_
      refine s_fa 78 rfl rfl ?_
      refine s_ld 79 rfl rfl (v := .slice (some ⟨gp, 0, none⟩) np np) (fun _ hw => ((hw.has (i := 3) rfl).of_own).rowAt bkRow_len hset (by omega) 0 _ (by unfold BkG.row; rw [List.length_replicate]; rfl)) ?_
      refine s_len 80 rfl rfl ?_
      refine s_mv 81 rfl rfl ?_
      refine SX.next ?_
      refine CW.block ?_
      refine CW.loop (G := Nat × List PgG) (fun q => [(1, .int .i64 ((np : Nat) : Int)), (2, .int .i64 ((sz : Nat) : Int)), (4, .slice mA ms.length mc), (5, .slice pA pl.length pc), (16, .pointer (some ⟨g, 0, none⟩)), (59, .int .i64 ((nb : Nat) : Int)), (60, .int .i64 (i : Nat)), (17, .int .i64 (i : Nat)), (80, .int .i64 ((np : Nat) : Int)), (81, .int .i64 (q.1 : Nat))]) (fun q => Sto w [own 115 3 (some ⟨gp, 0, none⟩) np np (q.2.flatMap PgG.row), starA (q.2.map PgG.dat), blk g 109 #[.int .i64 ((np : Nat) : Int), .int .i64 ((sz : Nat) : Int), .int .i64 ((lv : Nat) : Int), .slice (some ⟨gB, 0, none⟩) nb nb, .slice none 0 0, .int .i64 0, .int .i64 0, .bool false, .nilFunc], own 112 3 (some ⟨gB, 0, none⟩) nb nb ((bs.set i ({ b0 with A := some ⟨gp, 0, none⟩, c := np, pages := List.replicate np PgG.nul } : BkG)).flatMap BkG.row), starA ((bs.map BkG.dat).eraseIdx i)]) (fun q => q.1 ≤ np ∧ q.2.map PgG.abs = List.replicate q.1 (PgS.bare sz) ++ List.replicate (np - q.1) PgS.nul) (fun q => np - q.1) (0, List.replicate np PgG.nul) ⟨rfl, rfl, rfl, rfl, rfl, rfl, rfl, rfl, rfl, rfl, trivial⟩ (fun _ h => h) ⟨Nat.zero_le _, by rw [List.map_replicate]; rfl⟩ ?_
      rintro ⟨k, ps⟩ ⟨hk, hps⟩
      simp only at hk hps
      dsimp only
      have hpl := rep_len hps hk
      refine CW.seq ?_
      refine CW.reg [0] rfl ?_
      refine s_lt 82 rfl rfl rfl rfl ?_
      refine SX.next ?_
      refine CW.seq ?_
      refine CW.test rfl (fun hc => ?_) (fun hc => ?_)
      · skip
        have hkl : k < np := by omega
        obtain ⟨p0, hp0⟩ : ∃ p0, ps[k]? = some p0 := ⟨_, List.getElem?_eq_getElem (by omega)⟩
        have hp0a := rep_at hps hkl hp0
        refine CW.skip ?_
        refine KN.code ?_
        refine CW.seq ?_
        refine CW.block ?_
        refine CW.seq ?_
        refine CW.reg [0, 1] rfl ?_
        refine s_mv 83 rfl rfl ?_
        refine s_as 18 rfl rfl ?_
        refine SX.next ?_
        refine CW.regD (.st true 0 (.st true 1 (.st true 2 (.st true 3 (.st true 4 (.st true 5 (.st true 6 (.st true 7 (.st true 8 (.st true 9 (.st false 10 (.st true 11 (.st true 12 (.st false 13 .done)))))))))))))) (Sto w [blk g 109 #[.int .i64 ((np : Nat) : Int), .int .i64 ((sz : Nat) : Int), .int .i64 ((lv : Nat) : Int), .slice (some ⟨gB, 0, none⟩) nb nb, .slice none 0 0, .int .i64 0, .int .i64 0, .bool false, .nilFunc], own 112 3 (some ⟨gB, 0, none⟩) nb nb ((bs.set i ({ b0 with A := some ⟨gp, 0, none⟩, c := np, pages := List.replicate np PgG.nul } : BkG)).flatMap BkG.row)]) mixed (by kernel_rfl) (fun _ h => h.drew) (fun _ h => h.pick [2, 2] rfl) ?_
        refine s_mv 84 rfl rfl ?_
        refine s_nil 85 rfl rfl ?_
        refine s_fa 86 rfl rfl ?_
        refine s_ldS 87 rfl rfl (v := .slice (some ⟨gB, 0, none⟩) nb nb) (fun _ hw => hw.blkCell (i := 0) (j := 3) rfl rfl) ?_
        refine s_mv 88 rfl rfl ?_
        refine s_iaV 89 i (fun w hw => (hw.has (i := 3) rfl).of_own) rfl rfl rfl rfl hil ?_
        refine s_fa 90 rfl rfl ?_
        refine s_ldS 91 rfl rfl (v := .slice (some ⟨gp, 0, none⟩) np np) (fun _ hw => ((hw.has (i := 1) rfl).of_own).rowAt bkRow_len hset (by omega) 0 _ (by unfold BkG.row; rw [List.length_replicate]; rfl)) ?_
        refine s_mv 92 rfl rfl ?_
        refine s_mv 93 rfl rfl ?_
        refine s_call 94 rfl rfl rfl rfl (fun w hw => full_spec sz w (by omega) (by omega)) (fun _ h => h.pick [2, 2] rfl) (fun zo hzo => ?_)
        refine s_iaOS 95 1 k rfl rfl rfl rfl rfl hkl ?_
        refine s_fa 96 rfl rfl ?_
        refine s_stOS 1 (j := k * 3 + 0) rfl rfl rfl rfl rfl (by omega) (fun _ h => h.pick [3, 3] rfl) ?_
        refine SX.end_ ?_
        refine KN.blk ?_
        refine KN.code ?_
        refine CW.reg [0, 1] rfl ?_
        refine s_add 97 rfl rfl rfl (r := ((k + 1 : Nat) : Int)) (w64 (by omega)) ?_
        refine s_mv 81 rfl rfl ?_
        refine SX.end_ ?_
        exact KN.back (k + 1, ps.set k ({ p0 with A := zo.1, c := zo.2, l := List.replicate sz 255 } : PgG)) ⟨rfl, rfl, rfl, rfl, rfl, rfl, rfl, rfl, rfl, rfl, trivial⟩ (fun _ h => by
          have h1 := h.pick [2, 0, 0, 0, 0, 0] rfl
          have h2 := St.pgPut hp0 h1
          have e2 := flat_set (row := PgG.row) pgRow_len hp0 (j := 0) (v := .slice zo.1 (List.replicate sz 255).length zo.2) (b := ({ p0 with A := zo.1, c := zo.2, l := List.replicate sz 255 } : PgG)) (by decide) rfl
          simp only
          rw [e2]
          exact h2.pick [1, 0, 0, 0, 0] rfl) ⟨by simp only; omega, by simp only; exact rep_next hps hkl (by
            unfold PgG.abs at hp0a ⊢
            injection hp0a with q1 q2 q3
            simp only [q2, q3]
            rfl)⟩ (by simp only; omega)
      · skip
        obtain rfl : np = k := by omega
        rw [Nat.sub_self, List.replicate_zero, List.append_nil] at hps
        refine CW.exit rfl ?_
        refine KN.blk ?_
        refine KN.code ?_
        refine CW.reg [0, 1] rfl ?_
        refine s_add 98 rfl rfl rfl (r := ((i + 1 : Nat) : Int)) (w64 (by omega)) ?_
        refine s_mv 60 rfl rfl ?_
        refine SX.end_ ?_
        exact KN.back (i + 1, bs.set i ({ b0 with A := some ⟨gp, 0, none⟩, c := np, pages := ps } : BkG)) ⟨rfl, rfl, rfl, rfl, rfl, rfl, rfl, trivial⟩ (fun w_ h => by
          have h0 : Sto w [(({ b0 with A := some ⟨gp, 0, none⟩, c := np, pages := ps } : BkG)).rows, starA ((({ b0 with A := some ⟨gp, 0, none⟩, c := np, pages := ps } : BkG)).pages.map PgG.dat), starA ((bs.map BkG.dat).eraseIdx i), blk g 109 #[.int .i64 ((np : Nat) : Int), .int .i64 ((sz : Nat) : Int), .int .i64 ((lv : Nat) : Int), .slice (some ⟨gB, 0, none⟩) nb nb, .slice none 0 0, .int .i64 0, .int .i64 0, .bool false, .nilFunc], own 112 3 (some ⟨gB, 0, none⟩) nb nb ((bs.set i ({ b0 with A := some ⟨gp, 0, none⟩, c := np, pages := List.replicate np PgG.nul } : BkG)).flatMap BkG.row)] w_ := by
            unfold BkG.rows
            simp only [hpl]
            exact h.pick [0, 0, 2, 0, 0] rfl
          have h1 := St.bkI (by omega) h0
          have e2 : (bs.set i ({ b0 with A := some ⟨gp, 0, none⟩, c := np, pages := List.replicate np PgG.nul } : BkG)).flatMap BkG.row = (bs.set i ({ b0 with A := some ⟨gp, 0, none⟩, c := np, pages := ps } : BkG)).flatMap BkG.row := by
            rw [flat_row bkRow_len (by omega), flat_row bkRow_len (by omega)]
            congr 2
            unfold BkG.row
            simp only [hpl, List.length_replicate]
          simp only
          rw [← e2]
          exact h1.pick [1, 1, 0] rfl) ⟨by simp only; omega, by simp only; exact rep_next hbs hil (by
            unfold BkG.abs at hb0a ⊢
            injection hb0a with q1 q2 q3
            simp only [q2, q3, hps]
            rfl)⟩ (by simp only; omega)
    · skip
      obtain rfl : nb = i := by omega
      rw [Nat.sub_self, List.replicate_zero, List.append_nil] at hbs
      refine CW.exit rfl ?_
      refine KN.code ?_
      refine CW.seq ?_
      refine CW.seq ?_
      refine CW.reg [0, 1, 2] rfl ?_
      refine s_mv 99 rfl rfl ?_
      refine s_len 100 rfl rfl ?_
      refine s_mv 101 rfl rfl ?_
      refine SX.next ?_
      refine CW.block ?_
      refine CW.loop (G := Nat × List BkG) (fun q => [(5, .slice pA pl.length pc), (16, .pointer (some ⟨g, 0, none⟩)), (99, .slice mA ms.length mc), (100, .int .i64 (ms.length : Nat)), (101, .int .i64 (q.1 : Nat))]) (fun q => Sto w [chipA g (⟨(np : Nat), (sz : Nat), (lv : Nat), some ⟨gB, 0, none⟩, q.2.length, q.2, none, 0, [], 0, 0, false, .nilFunc⟩ : ChG)]) (fun q => (q.1 ≤ ms.length ∧ q.2.map BkG.abs = (ms.take q.1).foldl markB (List.replicate nb (BkS.fresh np sz)))) (fun q => ms.length - q.1) (0, bs) ⟨rfl, rfl, rfl, rfl, rfl, trivial⟩ (fun w_ h => by
  have h1 := (h.begin_ 48 5).starNil
  have h2 := h1.pick [2, 2, 2, 1, 0] rfl
  have h3 : Sto w [(⟨(np : Nat), (sz : Nat), (lv : Nat), some ⟨gB, 0, none⟩, bs.length, bs, none, 0, [], 0, 0, false, .nilFunc⟩ : ChG).hd g, (⟨(np : Nat), (sz : Nat), (lv : Nat), some ⟨gB, 0, none⟩, bs.length, bs, none, 0, [], 0, 0, false, .nilFunc⟩ : ChG).bks, (⟨(np : Nat), (sz : Nat), (lv : Nat), some ⟨gB, 0, none⟩, bs.length, bs, none, 0, [], 0, 0, false, .nilFunc⟩ : ChG).bst, (⟨(np : Nat), (sz : Nat), (lv : Nat), some ⟨gB, 0, none⟩, bs.length, bs, none, 0, [], 0, 0, false, .nilFunc⟩ : ChG).fts, (⟨(np : Nat), (sz : Nat), (lv : Nat), some ⟨gB, 0, none⟩, bs.length, bs, none, 0, [], 0, 0, false, .nilFunc⟩ : ChG).fst] w_ := by
    have e1 : (⟨(np : Nat), (sz : Nat), (lv : Nat), some ⟨gB, 0, none⟩, bs.length, bs, none, 0, [], 0, 0, false, .nilFunc⟩ : ChG).hd g = blk g 109 #[.int .i64 ((np : Nat) : Int), .int .i64 ((sz : Nat) : Int), .int .i64 ((lv : Nat) : Int), .slice (some ⟨gB, 0, none⟩) nb nb, .slice none 0 0, .int .i64 0, .int .i64 0, .bool false, .nilFunc] := by unfold ChG.hd ChG.cells; simp only [hbl]; try rfl
    have e2 : (⟨(np : Nat), (sz : Nat), (lv : Nat), some ⟨gB, 0, none⟩, bs.length, bs, none, 0, [], 0, 0, false, .nilFunc⟩ : ChG).bks = own 112 3 (some ⟨gB, 0, none⟩) nb nb (bs.flatMap BkG.row) := by unfold ChG.bks; simp only [hbl]; try rfl
    rw [e1, e2]
    exact h2
  exact h3.chipC) ⟨Nat.zero_le _, hbs⟩ ?_
      rintro ⟨j, cs⟩ ⟨hj, hcs⟩
      simp only at hj hcs
      dsimp only
      have hcl : cs.length = nb := by
        have := congrArg List.length hcs
        rw [List.length_map, marks_len, List.length_replicate] at this
        exact this
      refine CW.seq ?_
      refine CW.reg [0] rfl ?_
      refine s_lt 102 rfl rfl rfl rfl ?_
      refine SX.next ?_
      refine CW.seq ?_
      refine CW.test rfl (fun hc => ?_) (fun hc => ?_)
      · skip
        have hjl : j < ms.length := by omega
        have hmj : ms[j]? = some (ms.getD j 0) := by rw [List.getD_eq_getElem?_getD, List.getElem?_eq_getElem hjl]; rfl
        obtain ⟨hm0, hm1⟩ := hms _ (List.mem_of_getElem? hmj)
        refine CW.skip ?_
        refine KN.code ?_
        refine CW.seq ?_
        refine CW.block ?_
        refine CW.seq ?_
        refine CW.reg [0, 1, 2] rfl ?_
        refine s_iaV 103 j (fun w hw => hw.old hM) rfl rfl rfl rfl hjl ?_
        refine s_ldV 104 (fun w hw => hw.old hM) rfl rfl (by rw [Nat.mul_one]; exact intsAt hjl) (by omega) ?_
        refine s_as 20 rfl rfl ?_
        refine SX.next ?_
        refine CW.seq ?_
        refine CW.seq ?_
        refine CW.reg [0, 1, 2, 3] rfl ?_
        refine s_mv 105 rfl rfl ?_
        refine s_mv 106 rfl rfl ?_
        refine s_call1 107 rfl rfl rfl rfl (v := .bool true) (fun w hw => by have := chas_spec g (⟨(np : Nat), (sz : Nat), (lv : Nat), some ⟨gB, 0, none⟩, cs.length, cs, none, 0, [], 0, 0, false, .nilFunc⟩ : ChG) (ms.getD j 0) w (hw.has (i := 0) rfl); rw [has_eq, decide_eq_true (show 0 ≤ (ms.getD j 0) ∧ (ms.getD j 0) < (((⟨(np : Nat), (sz : Nat), (lv : Nat), some ⟨gB, 0, none⟩, cs.length, cs, none, 0, [], 0, 0, false, .nilFunc⟩ : ChG)).blocks.length : Int) from ⟨hm0, by show (ms.getD j 0) < (cs.length : Int); omega⟩)] at this; exact this) (fun _ _ => trivial) ?_
        refine s_not 108 rfl rfl ?_
        refine SX.next ?_
        refine CW.condF rfl ?_
        refine CW.skip ?_
        refine KN.code ?_
        obtain ⟨m, hm⟩ := Int.eq_ofNat_of_zero_le hm0
        have hmc : m < cs.length := by omega
        obtain ⟨bm, hbm⟩ : ∃ bm, cs[m]? = some bm := ⟨_, List.getElem?_eq_getElem hmc⟩
        refine CW.pre (fun _ h => h.chipO) ?_
        refine CW.reg [0, 1, 2, 3, 4, 5, 6, 7] rfl ?_
        refine s_mv 110 rfl rfl ?_
        refine s_nil 111 rfl rfl ?_
        refine s_fa 112 rfl rfl ?_
        refine s_ld 113 rfl rfl (v := .slice (some ⟨gB, 0, none⟩) cs.length cs.length) (fun _ hw => hw.blkCell (i := 0) (j := 3) rfl rfl) ?_
        refine s_mv 114 rfl rfl ?_
        refine s_iaOS 115 1 m rfl rfl rfl rfl hm hmc ?_
        refine s_fa 116 rfl rfl ?_
        refine s_stOS 1 (j := m * 3 + 2) rfl rfl rfl rfl rfl (by show m * 3 + 2 < cs.length * 3; omega) (fun _ _ => trivial) ?_
        refine SX.end_ ?_
        refine KN.blk ?_
        refine KN.code ?_
        refine CW.reg [0, 1] rfl ?_
        refine s_add 117 rfl rfl rfl (r := ((j + 1 : Nat) : Int)) (w64 (by omega)) ?_
        refine s_mv 101 rfl rfl ?_
        refine SX.end_ ?_
        exact KN.back (j + 1, (cs.set m { bm with marked := true })) ⟨rfl, rfl, rfl, rfl, rfl, trivial⟩ (fun w_ h => by
          have h3 : Sto w [(⟨(np : Nat), (sz : Nat), (lv : Nat), some ⟨gB, 0, none⟩, (cs.set m { bm with marked := true }).length, (cs.set m { bm with marked := true }), none, 0, [], 0, 0, false, .nilFunc⟩ : ChG).hd g, (⟨(np : Nat), (sz : Nat), (lv : Nat), some ⟨gB, 0, none⟩, (cs.set m { bm with marked := true }).length, (cs.set m { bm with marked := true }), none, 0, [], 0, 0, false, .nilFunc⟩ : ChG).bks, (⟨(np : Nat), (sz : Nat), (lv : Nat), some ⟨gB, 0, none⟩, (cs.set m { bm with marked := true }).length, (cs.set m { bm with marked := true }), none, 0, [], 0, 0, false, .nilFunc⟩ : ChG).bst, (⟨(np : Nat), (sz : Nat), (lv : Nat), some ⟨gB, 0, none⟩, (cs.set m { bm with marked := true }).length, (cs.set m { bm with marked := true }), none, 0, [], 0, 0, false, .nilFunc⟩ : ChG).fts, (⟨(np : Nat), (sz : Nat), (lv : Nat), some ⟨gB, 0, none⟩, (cs.set m { bm with marked := true }).length, (cs.set m { bm with marked := true }), none, 0, [], 0, 0, false, .nilFunc⟩ : ChG).fst] w_ := by
            have e1 : (⟨(np : Nat), (sz : Nat), (lv : Nat), some ⟨gB, 0, none⟩, (cs.set m { bm with marked := true }).length, (cs.set m { bm with marked := true }), none, 0, [], 0, 0, false, .nilFunc⟩ : ChG).hd g = (⟨(np : Nat), (sz : Nat), (lv : Nat), some ⟨gB, 0, none⟩, cs.length, cs, none, 0, [], 0, 0, false, .nilFunc⟩ : ChG).hd g := by unfold ChG.hd ChG.cells; simp only [List.length_set]; try rfl
            have e2 : (⟨(np : Nat), (sz : Nat), (lv : Nat), some ⟨gB, 0, none⟩, (cs.set m { bm with marked := true }).length, (cs.set m { bm with marked := true }), none, 0, [], 0, 0, false, .nilFunc⟩ : ChG).bks = own 112 3 (some ⟨gB, 0, none⟩) cs.length cs.length ((cs.flatMap BkG.row).set (m * 3 + 2) (.bool true)) := by
              unfold ChG.bks
              simp only [List.length_set]
              congr 1
              exact flat_set (row := BkG.row) bkRow_len hbm (j := 2) (by decide) rfl
            have e3 : (⟨(np : Nat), (sz : Nat), (lv : Nat), some ⟨gB, 0, none⟩, (cs.set m { bm with marked := true }).length, (cs.set m { bm with marked := true }), none, 0, [], 0, 0, false, .nilFunc⟩ : ChG).bst = (⟨(np : Nat), (sz : Nat), (lv : Nat), some ⟨gB, 0, none⟩, cs.length, cs, none, 0, [], 0, 0, false, .nilFunc⟩ : ChG).bst := by
              unfold ChG.bst
              simp only [List.map_set]
              rw [List.set_eq_self (by rw [List.getElem?_map, hbm]; rfl)]
            rw [e1, e2, e3]
            exact h
          exact h3.chipC) ⟨by simp only; omega, by
            simp only
            rw [List.take_add_one, hmj, List.foldl_append, ← hcs, List.map_set]
            show _ = markB (cs.map BkG.abs) (ms.getD j 0)
            unfold markB
            rw [hm, Int.toNat_natCast, List.getD_eq_getElem?_getD, List.getElem?_map, hbm]
            rfl⟩ (by simp only; omega)
      · skip
        obtain rfl : j = ms.length := by omega
        rw [List.take_length] at hcs
        refine CW.exit rfl ?_
        refine KN.code ?_
        refine CW.seq ?_
        refine CW.seq ?_
        refine CW.reg [0, 1, 2, 3] rfl ?_
        refine s_mv 118 rfl rfl ?_
        refine s_mv 119 rfl rfl ?_
        refine s_callP 120 [0] (M := [chipA g (⟨(np : Nat), (sz : Nat), (lv : Nat), some ⟨gB, 0, none⟩, cs.length, cs, none, 0, [], 0, 0, false, .nilFunc⟩ : ChG)]) (R := []) (X := ChG) (v := fun _ => .nilIface) (pf := fun z => z.abs = { (⟨(np : Nat), (sz : Nat), (lv : Nat), some ⟨gB, 0, none⟩, cs.length, cs, none, 0, [], 0, 0, false, .nilFunc⟩ : ChG).abs with plan := pl.map FtG.abs } ∧ z.watch = .nilFunc) (M' := fun z => [chipA g z]) rfl rfl rfl rfl rfl (fun F' w' hR hM2 => by have := plan_spec F' g (⟨(np : Nat), (sz : Nat), (lv : Nat), some ⟨gB, 0, none⟩, cs.length, cs, none, 0, [], 0, 0, false, .nilFunc⟩ : ChG) pA pc pl e w' (fun w2 hf => (hR w2 hf).er hE) (fun w2 hf => hP.turn ((hR w2 hf).fr)) hM2; simp only [if_neg (show ¬ 1000 < pl.length by omega)] at this; exact this) (fun _ _ _ => trivial) (fun x hx => ?_)
        refine s_as 21 rfl rfl ?_
        refine SX.next ?_
        refine CW.seq ?_
        refine CW.reg [0, 1] rfl ?_
        refine s_mv 121 rfl rfl ?_
        refine s_neNN 122 rfl rfl ?_
        refine SX.next ?_
        refine CW.condF rfl ?_
        refine CW.skip ?_
        refine KN.code ?_
        refine CW.seq ?_
        refine CW.reg [0, 1, 2] rfl ?_
        refine s_mv 124 rfl rfl ?_
        refine s_as 12 rfl rfl ?_
        refine s_as 13 rfl rfl ?_
        refine SX.next ?_
        refine CW.ret ?_
        exact KN.ret (rs := [.tmp 12, .tmp 13]) Tryd.results13 rfl (fun w hw => ⟨(g, x), rfl, ⟨by rw [hx.1]; unfold ChS.new ChG.abs; simp only [hcs], hx.2⟩, hw⟩)

set_option maxHeartbeats 3200000 in

theorem cnew_num (nb np sz lv : Nat) (mA : Option Addr) (mc : Nat) (ms : List Int) (pA : Option Addr) (pc : Nat) (pl : List FtG) (e : Nat → Addr) (w : World) (h1 : 1 ≤ nb ∧ nb ≤ 64) (h2 : 1 ≤ np ∧ np ≤ 64) (h3 : 1 ≤ sz ∧ sz ≤ 4096) (h4 : 1 ≤ lv ∧ lv ≤ 8) (hM : Has (sl 1 mA ms.length (ints .i64 ms)) w) (hml : ms.length ≤ 1000000) (hbad : ¬ ∀ m ∈ ms, 0 ≤ m ∧ m < (nb : Int)) (hE : Er e w 4) : Spec1 Tryd.prog 13 [.int .i64 (nb : Nat), .int .i64 (np : Nat), .int .i64 (sz : Nat), .int .i64 (lv : Nat), .slice mA ms.length mc, .slice pA pl.length pc] w (two (.pointer none) (evE e 102)) := by
  refine spec_of Tryd.func13 rfl Tryd.ntmps13 rfl ?_
  refine CW.seq ?_
  refine CW.reg [0, 1] rfl ?_
  refine s_as 12 rfl rfl ?_
  refine s_as 13 rfl rfl ?_
  refine SX.next ?_
  refine CW.seq ?_
  refine CW.seq ?_
  refine CW.reg [0, 1, 2, 3, 4, 5, 6, 7, 8, 9, 10] rfl ?_
  refine s_mv 22 rfl rfl ?_
  refine s_buildA 23 rfl rfl (cells := #[.int .i64 ((nb : Nat) : Int), .int .i64 64]) (by kernel_rfl) ?_
  refine s_mv 24 rfl rfl ?_
  refine s_buildA 25 rfl rfl (cells := #[.int .i64 ((np : Nat) : Int), .int .i64 64]) (by kernel_rfl) ?_
  refine s_mv 26 rfl rfl ?_
  refine s_buildA 27 rfl rfl (cells := #[.int .i64 ((sz : Nat) : Int), .int .i64 4096]) (by kernel_rfl) ?_
  refine s_mv 28 rfl rfl ?_
  refine s_buildA 29 rfl rfl (cells := #[.int .i64 ((lv : Nat) : Int), .int .i64 8]) (by kernel_rfl) ?_
  refine s_bsl 30 rfl rfl (cells := #[.int .i64 ((nb : Nat) : Int), .int .i64 64, .int .i64 ((np : Nat) : Int), .int .i64 64, .int .i64 ((sz : Nat) : Int), .int .i64 4096, .int .i64 ((lv : Nat) : Int), .int .i64 8]) (by kernel_rfl) rfl (fun _ _ => trivial) (fun g0 => ?_)
  refine s_len 31 rfl rfl ?_
  refine s_mv 32 rfl rfl ?_
  refine SX.next ?_
  refine CW.block ?_
  refine CW.loop (G := Nat) (fun i => [(0, .int .i64 (((nb : Nat) : Int))), (1, .int .i64 (((np : Nat) : Int))), (2, .int .i64 (((sz : Nat) : Int))), (3, .int .i64 (((lv : Nat) : Int))), (4, .slice mA ms.length mc), (5, .slice pA pl.length pc), (30, .slice (some ⟨g0, 0, none⟩) 4 4), (31, .int .i64 4), (32, .int .i64 (i : Nat))]) (fun _ => Sto w [blk g0 105 #[.int .i64 ((nb : Nat) : Int), .int .i64 64, .int .i64 ((np : Nat) : Int), .int .i64 64, .int .i64 ((sz : Nat) : Int), .int .i64 4096, .int .i64 ((lv : Nat) : Int), .int .i64 8]]) (fun i => i ≤ 4) (fun i => 4 - i) 0 ⟨rfl, rfl, rfl, rfl, rfl, rfl, rfl, rfl, rfl, trivial⟩ (fun _ h => h) (by omega) ?_
  intro i hi
  refine CW.seq ?_
  refine CW.reg [0] rfl ?_
  refine s_lt 33 rfl rfl rfl rfl ?_
  refine SX.next ?_
  refine CW.seq ?_
  refine CW.test rfl (fun hc => ?_) (fun hc => ?_)
  · skip
    have hi4 : i < 4 := by omega
    refine CW.skip ?_
    refine KN.code ?_
    refine CW.seq ?_
    refine CW.block ?_
    refine CW.seq ?_
    rcases (show i = 0 ∨ i = 1 ∨ i = 2 ∨ i = 3 by omega) with rfl | rfl | rfl | rfl
    · skip
      refine CW.reg [0, 1, 2, 3] rfl ?_
      refine s_ia 34 rfl rfl rfl (by omega) ?_
      refine s_ldR 35 (cs := [.int .i64 ((nb : Nat) : Int), .int .i64 64]) rfl rfl rfl (fun w hw => hw.blkPart (i := 0) rfl (two_at rfl rfl)) ?_
      refine s_alloc 15 rfl (fun _ _ => trivial) (fun b15 => ?_)
      refine s_stAll 0 rfl rfl (by kernel_rfl) rfl rfl rfl rfl (fun _ _ => trivial) ?_
      refine SX.next ?_
      refine CW.seq ?_
      refine CW.reg [0, 1, 2, 3, 4, 5, 6, 7, 8, 9] rfl ?_
      refine s_iaR 36 0 rfl rfl rfl rfl (by omega) ?_
      refine s_ldB 37 0 rfl rfl rfl (v := .int .i64 ((nb : Nat) : Int)) rfl ?_
      refine s_lt 38 rfl rfl rfl (decide_eq_false (by omega)) ?_
      refine s_mv 39 rfl rfl ?_
      refine s_iaR 40 0 rfl rfl rfl rfl (by omega) ?_
      refine s_ldB 41 0 rfl rfl rfl (v := .int .i64 ((nb : Nat) : Int)) rfl ?_
      refine s_iaR 42 1 rfl rfl rfl rfl (by omega) ?_
      refine s_ldB 43 0 rfl rfl rfl (v := .int .i64 64) rfl ?_
      refine s_gt 44 rfl rfl rfl (decide_eq_false (by omega)) ?_
      refine s_pickF 45 rfl rfl rfl ?_
      refine SX.next ?_
      refine CW.condF rfl ?_
      refine CW.skip ?_
      refine KN.blk ?_
      refine KN.code ?_
      refine CW.reg [0, 1] rfl ?_
      refine s_add 47 rfl rfl rfl (r := ((1 : Nat) : Int)) rfl ?_
      refine s_mv 32 rfl rfl ?_
      refine SX.end_ ?_
      exact KN.back 1 ⟨rfl, rfl, rfl, rfl, rfl, rfl, rfl, rfl, rfl, trivial⟩ (fun _ h => h.pick [1] rfl) (by omega) (by omega)
    · skip
      refine CW.reg [0, 1, 2, 3] rfl ?_
      refine s_ia 34 rfl rfl rfl (by omega) ?_
      refine s_ldR 35 (cs := [.int .i64 ((np : Nat) : Int), .int .i64 64]) rfl rfl rfl (fun w hw => hw.blkPart (i := 0) rfl (two_at rfl rfl)) ?_
      refine s_alloc 15 rfl (fun _ _ => trivial) (fun b15 => ?_)
      refine s_stAll 0 rfl rfl (by kernel_rfl) rfl rfl rfl rfl (fun _ _ => trivial) ?_
      refine SX.next ?_
      refine CW.seq ?_
      refine CW.reg [0, 1, 2, 3, 4, 5, 6, 7, 8, 9] rfl ?_
      refine s_iaR 36 0 rfl rfl rfl rfl (by omega) ?_
      refine s_ldB 37 0 rfl rfl rfl (v := .int .i64 ((np : Nat) : Int)) rfl ?_
      refine s_lt 38 rfl rfl rfl (decide_eq_false (by omega)) ?_
      refine s_mv 39 rfl rfl ?_
      refine s_iaR 40 0 rfl rfl rfl rfl (by omega) ?_
      refine s_ldB 41 0 rfl rfl rfl (v := .int .i64 ((np : Nat) : Int)) rfl ?_
      refine s_iaR 42 1 rfl rfl rfl rfl (by omega) ?_
      refine s_ldB 43 0 rfl rfl rfl (v := .int .i64 64) rfl ?_
      refine s_gt 44 rfl rfl rfl (decide_eq_false (by omega)) ?_
      refine s_pickF 45 rfl rfl rfl ?_
      refine SX.next ?_
      refine CW.condF rfl ?_
      refine CW.skip ?_
      refine KN.blk ?_
      refine KN.code ?_
      refine CW.reg [0, 1] rfl ?_
      refine s_add 47 rfl rfl rfl (r := ((2 : Nat) : Int)) rfl ?_
      refine s_mv 32 rfl rfl ?_
      refine SX.end_ ?_
      exact KN.back 2 ⟨rfl, rfl, rfl, rfl, rfl, rfl, rfl, rfl, rfl, trivial⟩ (fun _ h => h.pick [1] rfl) (by omega) (by omega)
    · skip
      refine CW.reg [0, 1, 2, 3] rfl ?_
      refine s_ia 34 rfl rfl rfl (by omega) ?_
      refine s_ldR 35 (cs := [.int .i64 ((sz : Nat) : Int), .int .i64 4096]) rfl rfl rfl (fun w hw => hw.blkPart (i := 0) rfl (two_at rfl rfl)) ?_
      refine s_alloc 15 rfl (fun _ _ => trivial) (fun b15 => ?_)
      refine s_stAll 0 rfl rfl (by kernel_rfl) rfl rfl rfl rfl (fun _ _ => trivial) ?_
      refine SX.next ?_
      refine CW.seq ?_
      refine CW.reg [0, 1, 2, 3, 4, 5, 6, 7, 8, 9] rfl ?_
      refine s_iaR 36 0 rfl rfl rfl rfl (by omega) ?_
      refine s_ldB 37 0 rfl rfl rfl (v := .int .i64 ((sz : Nat) : Int)) rfl ?_
      refine s_lt 38 rfl rfl rfl (decide_eq_false (by omega)) ?_
      refine s_mv 39 rfl rfl ?_
      refine s_iaR 40 0 rfl rfl rfl rfl (by omega) ?_
      refine s_ldB 41 0 rfl rfl rfl (v := .int .i64 ((sz : Nat) : Int)) rfl ?_
      refine s_iaR 42 1 rfl rfl rfl rfl (by omega) ?_
      refine s_ldB 43 0 rfl rfl rfl (v := .int .i64 4096) rfl ?_
      refine s_gt 44 rfl rfl rfl (decide_eq_false (by omega)) ?_
      refine s_pickF 45 rfl rfl rfl ?_
      refine SX.next ?_
      refine CW.condF rfl ?_
      refine CW.skip ?_
      refine KN.blk ?_
      refine KN.code ?_
      refine CW.reg [0, 1] rfl ?_
      refine s_add 47 rfl rfl rfl (r := ((3 : Nat) : Int)) rfl ?_
      refine s_mv 32 rfl rfl ?_
      refine SX.end_ ?_
      exact KN.back 3 ⟨rfl, rfl, rfl, rfl, rfl, rfl, rfl, rfl, rfl, trivial⟩ (fun _ h => h.pick [1] rfl) (by omega) (by omega)
    · skip
      refine CW.reg [0, 1, 2, 3] rfl ?_
      refine s_ia 34 rfl rfl rfl (by omega) ?_
      refine s_ldR 35 (cs := [.int .i64 ((lv : Nat) : Int), .int .i64 8]) rfl rfl rfl (fun w hw => hw.blkPart (i := 0) rfl (two_at rfl rfl)) ?_
      refine s_alloc 15 rfl (fun _ _ => trivial) (fun b15 => ?_)
      refine s_stAll 0 rfl rfl (by kernel_rfl) rfl rfl rfl rfl (fun _ _ => trivial) ?_
      refine SX.next ?_
      refine CW.seq ?_
      refine CW.reg [0, 1, 2, 3, 4, 5, 6, 7, 8, 9] rfl ?_
      refine s_iaR 36 0 rfl rfl rfl rfl (by omega) ?_
      refine s_ldB 37 0 rfl rfl rfl (v := .int .i64 ((lv : Nat) : Int)) rfl ?_
      refine s_lt 38 rfl rfl rfl (decide_eq_false (by omega)) ?_
      refine s_mv 39 rfl rfl ?_
      refine s_iaR 40 0 rfl rfl rfl rfl (by omega) ?_
      refine s_ldB 41 0 rfl rfl rfl (v := .int .i64 ((lv : Nat) : Int)) rfl ?_
      refine s_iaR 42 1 rfl rfl rfl rfl (by omega) ?_
      refine s_ldB 43 0 rfl rfl rfl (v := .int .i64 8) rfl ?_
      refine s_gt 44 rfl rfl rfl (decide_eq_false (by omega)) ?_
      refine s_pickF 45 rfl rfl rfl ?_
      refine SX.next ?_
      refine CW.condF rfl ?_
      refine CW.skip ?_
      refine KN.blk ?_
      refine KN.code ?_
      refine CW.reg [0, 1] rfl ?_
      refine s_add 47 rfl rfl rfl (r := ((4 : Nat) : Int)) rfl ?_
      refine s_mv 32 rfl rfl ?_
      refine SX.end_ ?_
      exact KN.back 4 ⟨rfl, rfl, rfl, rfl, rfl, rfl, rfl, rfl, rfl, trivial⟩ (fun _ h => h.pick [1] rfl) (by omega) (by omega)
  · skip
    skip
    refine CW.exit rfl ?_
    refine KN.code ?_
    refine CW.seq ?_
    refine CW.reg [0, 1, 2, 3, 4, 5, 6, 7] rfl ?_
    refine s_mv 48 rfl rfl ?_
    refine s_mv 49 rfl rfl ?_
    refine s_mv 50 rfl rfl ?_
    refine s_mv 51 rfl rfl ?_
    refine s_makeR 52 nb (sz := 3) (by_ := 40) (zv := .agg #[.slice none 0 0, .int .i64 0, .bool false]) rfl rfl rfl rfl rfl (by decide) (by unfold maxLen; omega) (fun _ _ => trivial) (fun gB => ?_)
    refine s_build 53 rfl rfl (cells := #[.int .i64 ((np : Nat) : Int), .int .i64 ((sz : Nat) : Int), .int .i64 ((lv : Nat) : Int), .slice (some ⟨gB, 0, none⟩) nb nb, .slice none 0 0, .int .i64 0, .int .i64 0, .bool false, .nilFunc]) (by kernel_rfl) ?_
    refine s_box 54 rfl rfl (fun _ _ => trivial) (fun g => ?_)
    refine s_as 16 rfl rfl ?_
    refine SX.next ?_
    refine CW.seq ?_
    refine CW.seq ?_
    refine CW.reg [0, 1, 2, 3, 4, 5] rfl ?_
    refine s_mv 55 rfl rfl ?_
    refine s_nil 56 rfl rfl ?_
    refine s_fa 57 rfl rfl ?_
    refine s_ld 58 rfl rfl (v := .slice (some ⟨gB, 0, none⟩) nb nb) (fun _ hw => hw.blkCell (i := 0) (j := 3) rfl rfl) ?_
    refine s_len 59 rfl rfl ?_
    refine s_mv 60 rfl rfl ?_
    refine SX.next ?_
    refine CW.block ?_
    refine CW.loop (G := Nat × List BkG) (fun q => [(1, .int .i64 ((np : Nat) : Int)), (2, .int .i64 ((sz : Nat) : Int)), (4, .slice mA ms.length mc), (5, .slice pA pl.length pc), (16, .pointer (some ⟨g, 0, none⟩)), (59, .int .i64 ((nb : Nat) : Int)), (60, .int .i64 (q.1 : Nat))]) (fun q => Sto w [blk g 109 #[.int .i64 ((np : Nat) : Int), .int .i64 ((sz : Nat) : Int), .int .i64 ((lv : Nat) : Int), .slice (some ⟨gB, 0, none⟩) nb nb, .slice none 0 0, .int .i64 0, .int .i64 0, .bool false, .nilFunc], own 112 3 (some ⟨gB, 0, none⟩) nb nb (q.2.flatMap BkG.row), starA (q.2.map BkG.dat)]) (fun q => q.1 ≤ nb ∧ q.2.map BkG.abs = List.replicate q.1 (BkS.fresh np sz) ++ List.replicate (nb - q.1) BkS.nul) (fun q => nb - q.1) (0, List.replicate nb BkG.nul) ⟨rfl, rfl, rfl, rfl, rfl, rfl, rfl, trivial⟩ (fun _ h => by
  have h1 := h.pick [0, 0] rfl
  have h2 := St.many (fun L h => BkG.nul_dat _ _ _ L h) h1 nb
  rw [← List.map_replicate] at h2
  have e := flat_rep (row := BkG.row) BkG.nul nb
  have h3 := h2.pick [1, 1, 0] rfl
  simp only
  rw [e]
  exact h3) ⟨Nat.zero_le _, by rw [List.map_replicate]; rfl⟩ ?_
    rintro ⟨i, bs⟩ ⟨hi, hbs⟩
    simp only at hi hbs
    dsimp only
    have hbl := rep_len hbs hi
    refine CW.seq ?_
    refine CW.reg [0] rfl ?_
    refine s_lt 61 rfl rfl rfl rfl ?_
    refine SX.next ?_
    refine CW.seq ?_
    refine CW.test rfl (fun hc => ?_) (fun hc => ?_)
    · skip
      have hil : i < nb := by omega
      obtain ⟨b0, hb0⟩ : ∃ b0, bs[i]? = some b0 := ⟨_, List.getElem?_eq_getElem (by omega)⟩
      have hb0a := rep_at hbs hil hb0
      refine CW.skip ?_
      refine KN.code ?_
      refine CW.seq ?_
      refine CW.block ?_
      refine CW.seq ?_
      refine CW.reg [0, 1] rfl ?_
      refine s_mv 62 rfl rfl ?_
      refine s_as 17 rfl rfl ?_
      refine SX.next ?_
      refine CW.seq ?_
      refine CW.regD (.st true 0 (.st true 1 (.st true 2 (.st true 3 (.st true 4 (.st true 5 (.st false 6 (.st true 7 (.st true 8 (.st false 9 .done)))))))))) (Sto w [blk g 109 #[.int .i64 ((np : Nat) : Int), .int .i64 ((sz : Nat) : Int), .int .i64 ((lv : Nat) : Int), .slice (some ⟨gB, 0, none⟩) nb nb, .slice none 0 0, .int .i64 0, .int .i64 0, .bool false, .nilFunc]]) mixed (by kernel_rfl) (fun _ h => h.drew) (fun _ h => h.pick [0] rfl) ?_
      refine s_mv 63 rfl rfl ?_
      refine s_nil 64 rfl rfl ?_
      refine s_fa 65 rfl rfl ?_
      refine s_ldS 66 rfl rfl (v := .slice (some ⟨gB, 0, none⟩) nb nb) (fun _ hw => hw.blkCell (i := 0) (j := 3) rfl rfl) ?_
      refine s_mv 67 rfl rfl ?_
      refine s_mv 68 rfl rfl ?_
      refine s_makeR 69 np (sz := 3) (by_ := 56) (zv := .agg #[.slice none 0 0, .slice none 0 0, .bool false]) rfl rfl rfl rfl rfl (by decide) (by unfold maxLen; omega) (fun _ h => h.pick [0] rfl) (fun gp => ?_)
      refine s_iaOS 70 2 i rfl rfl rfl rfl rfl hil ?_
      refine s_fa 71 rfl rfl ?_
      refine s_stOS 2 (j := i * 3 + 0) rfl rfl rfl rfl rfl (by omega) (fun _ h => h.pick [1] rfl) ?_
      refine SX.next ?_
      refine CW.seq ?_
      have hset : (bs.set i ({ b0 with A := some ⟨gp, 0, none⟩, c := np, pages := List.replicate np PgG.nul } : BkG))[i]? = some ({ b0 with A := some ⟨gp, 0, none⟩, c := np, pages := List.replicate np PgG.nul } : BkG) := by rw [List.getElem?_set_self (by omega)]
      refine CW.pre (C' := Sto w [own 115 3 (some ⟨gp, 0, none⟩) np np ((List.replicate np PgG.nul).flatMap PgG.row), starA ((List.replicate np PgG.nul).map PgG.dat), blk g 109 #[.int .i64 ((np : Nat) : Int), .int .i64 ((sz : Nat) : Int), .int .i64 ((lv : Nat) : Int), .slice (some ⟨gB, 0, none⟩) nb nb, .slice none 0 0, .int .i64 0, .int .i64 0, .bool false, .nilFunc], own 112 3 (some ⟨gB, 0, none⟩) nb nb ((bs.set i ({ b0 with A := some ⟨gp, 0, none⟩, c := np, pages := List.replicate np PgG.nul } : BkG)).flatMap BkG.row), starA ((bs.map BkG.dat).eraseIdx i)]) (fun _ h => by
        have h1 := h.pick [3, 0, 0, 0] rfl
        have h2 := (h1.focus (i := i) (A := b0.dat) (by rw [List.getElem?_map, hb0]; rfl)).tail
        have h3 := St.many (fun L h => PgG.nul_dat _ _ _ L h) h2 np
        rw [← List.map_replicate] at h3
        have e := flat_rep (row := PgG.row) PgG.nul np
        have e2 := flat_set (row := BkG.row) bkRow_len hb0 (j := 0) (v := .slice (some ⟨gp, 0, none⟩) np np) (b := ({ b0 with A := some ⟨gp, 0, none⟩, c := np, pages := List.replicate np PgG.nul } : BkG)) (by decide) (by unfold BkG.row; rw [List.length_replicate]; rfl)
        rw [e, e2]
        exact h3.pick [2, 0, 1, 1, 0] rfl) ?_
      refine CW.reg [0, 1, 2, 3, 4, 5, 6, 7, 8, 9] rfl ?_
      refine s_mv 72 rfl rfl ?_
      refine s_nil 73 rfl rfl ?_
      refine s_fa 74 rfl rfl ?_
      refine s_ld 75 rfl rfl (v := .slice (some ⟨gB, 0, none⟩) nb nb) (fun _ hw => hw.blkCell (i := 2) (j := 3) rfl rfl) ?_
      refine s_mv 76 rfl rfl ?_
      refine s_iaV 77 i (fun w hw => (hw.has (i := 3) rfl).of_own) rfl rfl rfl rfl hil ?_
      refine s_fa 78 rfl rfl ?_
      refine s_ld 79 rfl rfl (v := .slice (some ⟨gp, 0, none⟩) np np) (fun _ hw => ((hw.has (i := 3) rfl).of_own).rowAt bkRow_len hset (by omega) 0 _ (by unfold BkG.row; rw [List.length_replicate]; rfl)) ?_
      refine s_len 80 rfl rfl ?_
      refine s_mv 81 rfl rfl ?_
      refine SX.next ?_
      refine CW.block ?_
      refine CW.loop (G := Nat × List PgG) (fun q => [(1, .int .i64 ((np : Nat) : Int)), (2, .int .i64 ((sz : Nat) : Int)), (4, .slice mA ms.length mc), (5, .slice pA pl.length pc), (16, .pointer (some ⟨g, 0, none⟩)), (59, .int .i64 ((nb : Nat) : Int)), (60, .int .i64 (i : Nat)), (17, .int .i64 (i : Nat)), (80, .int .i64 ((np : Nat) : Int)), (81, .int .i64 (q.1 : Nat))]) (fun q => Sto w [own 115 3 (some ⟨gp, 0, none⟩) np np (q.2.flatMap PgG.row), starA (q.2.map PgG.dat), blk g 109 #[.int .i64 ((np : Nat) : Int), .int .i64 ((sz : Nat) : Int), .int .i64 ((lv : Nat) : Int), .slice (some ⟨gB, 0, none⟩) nb nb, .slice none 0 0, .int .i64 0, .int .i64 0, .bool false, .nilFunc], own 112 3 (some ⟨gB, 0, none⟩) nb nb ((bs.set i ({ b0 with A := some ⟨gp, 0, none⟩, c := np, pages := List.replicate np PgG.nul } : BkG)).flatMap BkG.row), starA ((bs.map BkG.dat).eraseIdx i)]) (fun q => q.1 ≤ np ∧ q.2.map PgG.abs = List.replicate q.1 (PgS.bare sz) ++ List.replicate (np - q.1) PgS.nul) (fun q => np - q.1) (0, List.replicate np PgG.nul) ⟨rfl, rfl, rfl, rfl, rfl, rfl, rfl, rfl, rfl, rfl, trivial⟩ (fun _ h => h) ⟨Nat.zero_le _, by rw [List.map_replicate]; rfl⟩ ?_
      rintro ⟨k, ps⟩ ⟨hk, hps⟩
      simp only at hk hps
      dsimp only
      have hpl := rep_len hps hk
      refine CW.seq ?_
      refine CW.reg [0] rfl ?_
      refine s_lt 82 rfl rfl rfl rfl ?_
      refine SX.next ?_
      refine CW.seq ?_
      refine CW.test rfl (fun hc => ?_) (fun hc => ?_)
      · skip
        have hkl : k < np := by omega
        obtain ⟨p0, hp0⟩ : ∃ p0, ps[k]? = some p0 := ⟨_, List.getElem?_eq_getElem (by omega)⟩
        have hp0a := rep_at hps hkl hp0
        refine CW.skip ?_
        refine KN.code ?_
        refine CW.seq ?_
        refine CW.block ?_
        refine CW.seq ?_
        refine CW.reg [0, 1] rfl ?_
        refine s_mv 83 rfl rfl ?_
        refine s_as 18 rfl rfl ?_
        refine SX.next ?_
        refine CW.regD (.st true 0 (.st true 1 (.st true 2 (.st true 3 (.st true 4 (.st true 5 (.st true 6 (.st true 7 (.st true 8 (.st true 9 (.st false 10 (.st true 11 (.st true 12 (.st false 13 .done)))))))))))))) (Sto w [blk g 109 #[.int .i64 ((np : Nat) : Int), .int .i64 ((sz : Nat) : Int), .int .i64 ((lv : Nat) : Int), .slice (some ⟨gB, 0, none⟩) nb nb, .slice none 0 0, .int .i64 0, .int .i64 0, .bool false, .nilFunc], own 112 3 (some ⟨gB, 0, none⟩) nb nb ((bs.set i ({ b0 with A := some ⟨gp, 0, none⟩, c := np, pages := List.replicate np PgG.nul } : BkG)).flatMap BkG.row)]) mixed (by kernel_rfl) (fun _ h => h.drew) (fun _ h => h.pick [2, 2] rfl) ?_
        refine s_mv 84 rfl rfl ?_
        refine s_nil 85 rfl rfl ?_
        refine s_fa 86 rfl rfl ?_
        refine s_ldS 87 rfl rfl (v := .slice (some ⟨gB, 0, none⟩) nb nb) (fun _ hw => hw.blkCell (i := 0) (j := 3) rfl rfl) ?_
        refine s_mv 88 rfl rfl ?_
        refine s_iaV 89 i (fun w hw => (hw.has (i := 3) rfl).of_own) rfl rfl rfl rfl hil ?_
        refine s_fa 90 rfl rfl ?_
        refine s_ldS 91 rfl rfl (v := .slice (some ⟨gp, 0, none⟩) np np) (fun _ hw => ((hw.has (i := 1) rfl).of_own).rowAt bkRow_len hset (by omega) 0 _ (by unfold BkG.row; rw [List.length_replicate]; rfl)) ?_
        refine s_mv 92 rfl rfl ?_
        refine s_mv 93 rfl rfl ?_
        refine s_call 94 rfl rfl rfl rfl (fun w hw => full_spec sz w (by omega) (by omega)) (fun _ h => h.pick [2, 2] rfl) (fun zo hzo => ?_)
        refine s_iaOS 95 1 k rfl rfl rfl rfl rfl hkl ?_
        refine s_fa 96 rfl rfl ?_
        refine s_stOS 1 (j := k * 3 + 0) rfl rfl rfl rfl rfl (by omega) (fun _ h => h.pick [3, 3] rfl) ?_
        refine SX.end_ ?_
        refine KN.blk ?_
        refine KN.code ?_
        refine CW.reg [0, 1] rfl ?_
        refine s_add 97 rfl rfl rfl (r := ((k + 1 : Nat) : Int)) (w64 (by omega)) ?_
        refine s_mv 81 rfl rfl ?_
        refine SX.end_ ?_
        exact KN.back (k + 1, ps.set k ({ p0 with A := zo.1, c := zo.2, l := List.replicate sz 255 } : PgG)) ⟨rfl, rfl, rfl, rfl, rfl, rfl, rfl, rfl, rfl, rfl, trivial⟩ (fun _ h => by
          have h1 := h.pick [2, 0, 0, 0, 0, 0] rfl
          have h2 := St.pgPut hp0 h1
          have e2 := flat_set (row := PgG.row) pgRow_len hp0 (j := 0) (v := .slice zo.1 (List.replicate sz 255).length zo.2) (b := ({ p0 with A := zo.1, c := zo.2, l := List.replicate sz 255 } : PgG)) (by decide) rfl
          simp only
          rw [e2]
          exact h2.pick [1, 0, 0, 0, 0] rfl) ⟨by simp only; omega, by simp only; exact rep_next hps hkl (by
            unfold PgG.abs at hp0a ⊢
            injection hp0a with q1 q2 q3
            simp only [q2, q3]
            rfl)⟩ (by simp only; omega)
      · skip
        obtain rfl : np = k := by omega
        rw [Nat.sub_self, List.replicate_zero, List.append_nil] at hps
        refine CW.exit rfl ?_
        refine KN.blk ?_
        refine KN.code ?_
        refine CW.reg [0, 1] rfl ?_
        refine s_add 98 rfl rfl rfl (r := ((i + 1 : Nat) : Int)) (w64 (by omega)) ?_
        refine s_mv 60 rfl rfl ?_
        refine SX.end_ ?_
        exact KN.back (i + 1, bs.set i ({ b0 with A := some ⟨gp, 0, none⟩, c := np, pages := ps } : BkG)) ⟨rfl, rfl, rfl, rfl, rfl, rfl, rfl, trivial⟩ (fun w_ h => by
          have h0 : Sto w [(({ b0 with A := some ⟨gp, 0, none⟩, c := np, pages := ps } : BkG)).rows, starA ((({ b0 with A := some ⟨gp, 0, none⟩, c := np, pages := ps } : BkG)).pages.map PgG.dat), starA ((bs.map BkG.dat).eraseIdx i), blk g 109 #[.int .i64 ((np : Nat) : Int), .int .i64 ((sz : Nat) : Int), .int .i64 ((lv : Nat) : Int), .slice (some ⟨gB, 0, none⟩) nb nb, .slice none 0 0, .int .i64 0, .int .i64 0, .bool false, .nilFunc], own 112 3 (some ⟨gB, 0, none⟩) nb nb ((bs.set i ({ b0 with A := some ⟨gp, 0, none⟩, c := np, pages := List.replicate np PgG.nul } : BkG)).flatMap BkG.row)] w_ := by
            unfold BkG.rows
            simp only [hpl]
            exact h.pick [0, 0, 2, 0, 0] rfl
          have h1 := St.bkI (by omega) h0
          have e2 : (bs.set i ({ b0 with A := some ⟨gp, 0, none⟩, c := np, pages := List.replicate np PgG.nul } : BkG)).flatMap BkG.row = (bs.set i ({ b0 with A := some ⟨gp, 0, none⟩, c := np, pages := ps } : BkG)).flatMap BkG.row := by
            rw [flat_row bkRow_len (by omega), flat_row bkRow_len (by omega)]
            congr 2
            unfold BkG.row
            simp only [hpl, List.length_replicate]
          simp only
          rw [← e2]
          exact h1.pick [1, 1, 0] rfl) ⟨by simp only; omega, by simp only; exact rep_next hbs hil (by
            unfold BkG.abs at hb0a ⊢
            injection hb0a with q1 q2 q3
            simp only [q2, q3, hps]
            rfl)⟩ (by simp only; omega)
    · skip
      obtain rfl : nb = i := by omega
      rw [Nat.sub_self, List.replicate_zero, List.append_nil] at hbs
      refine CW.exit rfl ?_
      refine KN.code ?_
      refine CW.seq ?_
      refine CW.seq ?_
      refine CW.reg [0, 1, 2] rfl ?_
      refine s_mv 99 rfl rfl ?_
      refine s_len 100 rfl rfl ?_
      refine s_mv 101 rfl rfl ?_
      refine SX.next ?_
      refine CW.block ?_
      refine CW.loop (G := Nat × List BkG) (fun q => [(5, .slice pA pl.length pc), (16, .pointer (some ⟨g, 0, none⟩)), (99, .slice mA ms.length mc), (100, .int .i64 (ms.length : Nat)), (101, .int .i64 (q.1 : Nat))]) (fun q => Sto w [chipA g (⟨(np : Nat), (sz : Nat), (lv : Nat), some ⟨gB, 0, none⟩, q.2.length, q.2, none, 0, [], 0, 0, false, .nilFunc⟩ : ChG)]) (fun q => (q.1 ≤ ms.length ∧ q.2.map BkG.abs = (ms.take q.1).foldl markB (List.replicate nb (BkS.fresh np sz))) ∧ ∀ m ∈ ms.take q.1, 0 ≤ m ∧ m < (nb : Int)) (fun q => ms.length - q.1) (0, bs) ⟨rfl, rfl, rfl, rfl, rfl, trivial⟩ (fun w_ h => by
  have h1 := (h.begin_ 48 5).starNil
  have h2 := h1.pick [2, 2, 2, 1, 0] rfl
  have h3 : Sto w [(⟨(np : Nat), (sz : Nat), (lv : Nat), some ⟨gB, 0, none⟩, bs.length, bs, none, 0, [], 0, 0, false, .nilFunc⟩ : ChG).hd g, (⟨(np : Nat), (sz : Nat), (lv : Nat), some ⟨gB, 0, none⟩, bs.length, bs, none, 0, [], 0, 0, false, .nilFunc⟩ : ChG).bks, (⟨(np : Nat), (sz : Nat), (lv : Nat), some ⟨gB, 0, none⟩, bs.length, bs, none, 0, [], 0, 0, false, .nilFunc⟩ : ChG).bst, (⟨(np : Nat), (sz : Nat), (lv : Nat), some ⟨gB, 0, none⟩, bs.length, bs, none, 0, [], 0, 0, false, .nilFunc⟩ : ChG).fts, (⟨(np : Nat), (sz : Nat), (lv : Nat), some ⟨gB, 0, none⟩, bs.length, bs, none, 0, [], 0, 0, false, .nilFunc⟩ : ChG).fst] w_ := by
    have e1 : (⟨(np : Nat), (sz : Nat), (lv : Nat), some ⟨gB, 0, none⟩, bs.length, bs, none, 0, [], 0, 0, false, .nilFunc⟩ : ChG).hd g = blk g 109 #[.int .i64 ((np : Nat) : Int), .int .i64 ((sz : Nat) : Int), .int .i64 ((lv : Nat) : Int), .slice (some ⟨gB, 0, none⟩) nb nb, .slice none 0 0, .int .i64 0, .int .i64 0, .bool false, .nilFunc] := by unfold ChG.hd ChG.cells; simp only [hbl]; try rfl
    have e2 : (⟨(np : Nat), (sz : Nat), (lv : Nat), some ⟨gB, 0, none⟩, bs.length, bs, none, 0, [], 0, 0, false, .nilFunc⟩ : ChG).bks = own 112 3 (some ⟨gB, 0, none⟩) nb nb (bs.flatMap BkG.row) := by unfold ChG.bks; simp only [hbl]; try rfl
    rw [e1, e2]
    exact h2
  exact h3.chipC) ⟨⟨Nat.zero_le _, hbs⟩, fun m hm => absurd hm List.not_mem_nil⟩ ?_
      rintro ⟨j, cs⟩ ⟨⟨hj, hcs⟩, hall⟩
      simp only at hj hcs hall
      dsimp only
      have hcl : cs.length = nb := by
        have := congrArg List.length hcs
        rw [List.length_map, marks_len, List.length_replicate] at this
        exact this
      refine CW.seq ?_
      refine CW.reg [0] rfl ?_
      refine s_lt 102 rfl rfl rfl rfl ?_
      refine SX.next ?_
      refine CW.seq ?_
      refine CW.test rfl (fun hc => ?_) (fun hc => ?_)
      · skip
        have hjl : j < ms.length := by omega
        have hmj : ms[j]? = some (ms.getD j 0) := by rw [List.getD_eq_getElem?_getD, List.getElem?_eq_getElem hjl]; rfl
        refine CW.skip ?_
        refine KN.code ?_
        refine CW.seq ?_
        refine CW.block ?_
        refine CW.seq ?_
        refine CW.reg [0, 1, 2] rfl ?_
        refine s_iaV 103 j (fun w hw => hw.old hM) rfl rfl rfl rfl hjl ?_
        refine s_ldV 104 (fun w hw => hw.old hM) rfl rfl (by rw [Nat.mul_one]; exact intsAt hjl) (by omega) ?_
        refine s_as 20 rfl rfl ?_
        refine SX.next ?_
        refine CW.seq ?_
        refine CW.seq ?_
        refine CW.reg [0, 1, 2, 3] rfl ?_
        refine s_mv 105 rfl rfl ?_
        refine s_mv 106 rfl rfl ?_
        refine s_call1 107 rfl rfl rfl rfl (fun w hw => chas_spec g (⟨(np : Nat), (sz : Nat), (lv : Nat), some ⟨gB, 0, none⟩, cs.length, cs, none, 0, [], 0, 0, false, .nilFunc⟩ : ChG) (ms.getD j 0) w (hw.has (i := 0) rfl)) (fun _ _ => trivial) ?_
        refine s_not 108 rfl rfl ?_
        refine SX.next ?_
        refine CW.cond rfl (fun hh => ?_) (fun hh => ?_)
        · skip
          refine CW.seq ?_
          refine CW.regD (.st true 0 (.st true 1 (.st true 2 .done))) (Sto w []) mixed (by kernel_rfl) (fun _ h => h.drew) (fun _ h => h.pick [] rfl) ?_
          refine s_ldS 109 rfl rfl (fun _ h => h.cell hE) ?_
          refine s_as 12 rfl rfl ?_
          refine s_as 13 rfl rfl ?_
          refine SX.next ?_
          refine CW.ret ?_
          exact KN.ret (rs := [.tmp 12, .tmp 13]) Tryd.results13 rfl (fun w hw => ⟨rfl, hw.nothing⟩)
        · skip
          obtain ⟨hm0, hm1⟩ : 0 ≤ (ms.getD j 0) ∧ (ms.getD j 0) < (nb : Int) := by
            have h1 : ((⟨(np : Nat), (sz : Nat), (lv : Nat), some ⟨gB, 0, none⟩, cs.length, cs, none, 0, [], 0, 0, false, .nilFunc⟩ : ChG)).abs.has (ms.getD j 0) = true := by simpa using hh
            rw [has_eq] at h1
            have h2 := of_decide_eq_true h1
            exact ⟨h2.1, by rw [← hcl]; exact h2.2⟩
          refine CW.skip ?_
          refine KN.code ?_
          obtain ⟨m, hm⟩ := Int.eq_ofNat_of_zero_le hm0
          have hmc : m < cs.length := by omega
          obtain ⟨bm, hbm⟩ : ∃ bm, cs[m]? = some bm := ⟨_, List.getElem?_eq_getElem hmc⟩
          refine CW.pre (fun _ h => h.chipO) ?_
          refine CW.reg [0, 1, 2, 3, 4, 5, 6, 7] rfl ?_
          refine s_mv 110 rfl rfl ?_
          refine s_nil 111 rfl rfl ?_
          refine s_fa 112 rfl rfl ?_
          refine s_ld 113 rfl rfl (v := .slice (some ⟨gB, 0, none⟩) cs.length cs.length) (fun _ hw => hw.blkCell (i := 0) (j := 3) rfl rfl) ?_
          refine s_mv 114 rfl rfl ?_
          refine s_iaOS 115 1 m rfl rfl rfl rfl hm hmc ?_
          refine s_fa 116 rfl rfl ?_
          refine s_stOS 1 (j := m * 3 + 2) rfl rfl rfl rfl rfl (by show m * 3 + 2 < cs.length * 3; omega) (fun _ _ => trivial) ?_
          refine SX.end_ ?_
          refine KN.blk ?_
          refine KN.code ?_
          refine CW.reg [0, 1] rfl ?_
          refine s_add 117 rfl rfl rfl (r := ((j + 1 : Nat) : Int)) (w64 (by omega)) ?_
          refine s_mv 101 rfl rfl ?_
          refine SX.end_ ?_
          exact KN.back (j + 1, (cs.set m { bm with marked := true })) ⟨rfl, rfl, rfl, rfl, rfl, trivial⟩ (fun w_ h => by
            have h3 : Sto w [(⟨(np : Nat), (sz : Nat), (lv : Nat), some ⟨gB, 0, none⟩, (cs.set m { bm with marked := true }).length, (cs.set m { bm with marked := true }), none, 0, [], 0, 0, false, .nilFunc⟩ : ChG).hd g, (⟨(np : Nat), (sz : Nat), (lv : Nat), some ⟨gB, 0, none⟩, (cs.set m { bm with marked := true }).length, (cs.set m { bm with marked := true }), none, 0, [], 0, 0, false, .nilFunc⟩ : ChG).bks, (⟨(np : Nat), (sz : Nat), (lv : Nat), some ⟨gB, 0, none⟩, (cs.set m { bm with marked := true }).length, (cs.set m { bm with marked := true }), none, 0, [], 0, 0, false, .nilFunc⟩ : ChG).bst, (⟨(np : Nat), (sz : Nat), (lv : Nat), some ⟨gB, 0, none⟩, (cs.set m { bm with marked := true }).length, (cs.set m { bm with marked := true }), none, 0, [], 0, 0, false, .nilFunc⟩ : ChG).fts, (⟨(np : Nat), (sz : Nat), (lv : Nat), some ⟨gB, 0, none⟩, (cs.set m { bm with marked := true }).length, (cs.set m { bm with marked := true }), none, 0, [], 0, 0, false, .nilFunc⟩ : ChG).fst] w_ := by
              have e1 : (⟨(np : Nat), (sz : Nat), (lv : Nat), some ⟨gB, 0, none⟩, (cs.set m { bm with marked := true }).length, (cs.set m { bm with marked := true }), none, 0, [], 0, 0, false, .nilFunc⟩ : ChG).hd g = (⟨(np : Nat), (sz : Nat), (lv : Nat), some ⟨gB, 0, none⟩, cs.length, cs, none, 0, [], 0, 0, false, .nilFunc⟩ : ChG).hd g := by unfold ChG.hd ChG.cells; simp only [List.length_set]; try rfl
              have e2 : (⟨(np : Nat), (sz : Nat), (lv : Nat), some ⟨gB, 0, none⟩, (cs.set m { bm with marked := true }).length, (cs.set m { bm with marked := true }), none, 0, [], 0, 0, false, .nilFunc⟩ : ChG).bks = own 112 3 (some ⟨gB, 0, none⟩) cs.length cs.length ((cs.flatMap BkG.row).set (m * 3 + 2) (.bool true)) := by
                unfold ChG.bks
                simp only [List.length_set]
                congr 1
                exact flat_set (row := BkG.row) bkRow_len hbm (j := 2) (by decide) rfl
              have e3 : (⟨(np : Nat), (sz : Nat), (lv : Nat), some ⟨gB, 0, none⟩, (cs.set m { bm with marked := true }).length, (cs.set m { bm with marked := true }), none, 0, [], 0, 0, false, .nilFunc⟩ : ChG).bst = (⟨(np : Nat), (sz : Nat), (lv : Nat), some ⟨gB, 0, none⟩, cs.length, cs, none, 0, [], 0, 0, false, .nilFunc⟩ : ChG).bst := by
                unfold ChG.bst
                simp only [List.map_set]
                rw [List.set_eq_self (by rw [List.getElem?_map, hbm]; rfl)]
              rw [e1, e2, e3]
              exact h
            exact h3.chipC) ⟨⟨by simp only; omega, by
              simp only
              rw [List.take_add_one, hmj, List.foldl_append, ← hcs, List.map_set]
              show _ = markB (cs.map BkG.abs) (ms.getD j 0)
              unfold markB
              rw [hm, Int.toNat_natCast, List.getD_eq_getElem?_getD, List.getElem?_map, hbm]
              rfl⟩, fun m2 hm2 => by
              simp only at hm2
              rw [List.take_add_one, hmj] at hm2
              rcases List.mem_append.1 hm2 with h | h
              · exact hall m2 h
              · obtain rfl : m2 = (ms.getD j 0) := by simpa using h
                exact ⟨hm0, hm1⟩⟩ (by simp only; omega)
      · skip
        obtain rfl : j = ms.length := by omega
        rw [List.take_length] at hall
        exact absurd hall hbad
end Go.Proofs.YtcapijdokbkgaaaDoor
end
section
/- Package chip: a clone. Conditions: the chip is read where it lies. -/
namespace Go.Proofs.YtcapijdokbkgaaaDoor
open Go Go.Sx Go.Fm
set_option maxRecDepth 100000
end Go.Proofs.YtcapijdokbkgaaaDoor
end
section
/- A chip stays whole, whatever it is told. No condition. -/
namespace Go.Proofs.YtcapijdokbkgaaaDoor
open Go Go.Sx
set_option maxRecDepth 100000
theorem flips_ok (level : Int) : ∀ (l : List FtS) (b : List Nat), (flips l level b).length = b.length ∧ ((∀ x ∈ b, x < 256) → ∀ x ∈ flips l level b, x < 256)
  | [], b => ⟨rfl, fun h => h⟩
  | f :: l, b => by
    have h2 := flips_ok level l (if f.kind = 1 ∧ (f.level = -1 ∨ f.level = level) then turnL b f.bits else b)
    have h1 : (if f.kind = 1 ∧ (f.level = -1 ∨ f.level = level) then turnL b f.bits else b).length = b.length ∧ ((∀ x ∈ b, x < 256) → ∀ x ∈ (if f.kind = 1 ∧ (f.level = -1 ∨ f.level = level) then turnL b f.bits else b), x < 256) := by
      split
      · exact ⟨turnL_len _ _, fun h => turnL_lt h _⟩
      · exact ⟨rfl, fun h => h⟩
    exact ⟨h2.1.trans h1.1, fun h => h2.2 (h1.2 h)⟩
theorem spoils_ok : ∀ (l : List FtS) (b : List Nat), (spoils l b).length = b.length ∧ ((∀ x ∈ b, x < 256) → ∀ x ∈ spoils l b, x < 256)
  | [], b => ⟨rfl, fun h => h⟩
  | f :: l, b => by
    have h2 := spoils_ok l (if f.kind = 4 then turnL b f.bits else b)
    have h1 : (if f.kind = 4 then turnL b f.bits else b).length = b.length ∧ ((∀ x ∈ b, x < 256) → ∀ x ∈ (if f.kind = 4 then turnL b f.bits else b), x < 256) := by
      split
      · exact ⟨turnL_len _ _, fun h => turnL_lt h _⟩
      · exact ⟨rfl, fun h => h⟩
    exact ⟨h2.1.trans h1.1, fun h => h2.2 (h1.2 h)⟩
/-- A block's pages are as they are to be. -/
def PgsOk (s : ChS) (b : BkS) : Prop := (b.pages.length : Int) = s.pages ∧ ∀ p ∈ b.pages, (p.cells.length : Int) = s.size ∧ (∀ x ∈ p.cells, x < 256) ∧ p.laid.length ≤ 4096 ∧ ∀ x ∈ p.laid, x < 256
theorem bk_ok {s : ChS} (h : s.Ok) {b : Int} (hb : s.has b = true) : PgsOk s (s.bk b) ∧ b.toNat < s.blocks.length := by
  have h1 : 0 ≤ b ∧ b < (s.blocks.length : Int) := of_decide_eq_true hb
  have h2 : b.toNat < s.blocks.length := by omega
  refine ⟨?_, h2⟩
  unfold ChS.bk
  rw [List.getD_eq_getElem?_getD, List.getElem?_eq_getElem h2, Option.getD_some]
  exact h.pg _ (List.getElem_mem h2)
theorem has_inn {s : ChS} {b p : Int} (h : s.inn b p = true) : s.has b = true ∧ 0 ≤ p ∧ p < s.pages := by
  unfold ChS.inn at h
  rw [Bool.and_eq_true] at h
  exact ⟨h.1, of_decide_eq_true h.2⟩
theorem page_ok {s : ChS} (h : s.Ok) {b p : Int} (hb : s.inn b p = true) : ((s.pg b p).cells.length : Int) = s.size ∧ (∀ x ∈ (s.pg b p).cells, x < 256) ∧ (s.pg b p).laid.length ≤ 4096 ∧ (∀ x ∈ (s.pg b p).laid, x < 256) := by
  obtain ⟨h1, h2, h3⟩ := has_inn hb
  obtain ⟨⟨h4, h5⟩, _⟩ := bk_ok h h1
  have h6 : p.toNat < (s.bk b).pages.length := by omega
  unfold ChS.pg
  rw [List.getD_eq_getElem?_getD, List.getElem?_eq_getElem h6, Option.getD_some]
  exact h5 _ (List.getElem_mem h6)
theorem ok_blocks {s s' : ChS} (h : s.Ok) (e1 : s'.pages = s.pages) (e2 : s'.size = s.size) (e3 : s'.levels = s.levels) (e5 : s'.plan = s.plan) {b : Int} {k : BkS} (hk : PgsOk s k) (e4 : s'.blocks = s.blocks.set b.toNat k) : s'.Ok := by
  refine ⟨by rw [e1]; exact h.p0, by rw [e1]; exact h.p1, by rw [e2]; exact h.z0, by rw [e2]; exact h.z1, by rw [e3]; exact h.v0, by rw [e3]; exact h.v1, by rw [e4, List.length_set]; exact h.b1, fun b' hb' => ?_, by rw [e5]; exact h.pl, by rw [e5]; exact h.bt⟩
  rw [e4] at hb'
  rw [e1, e2]
  rcases List.mem_or_eq_of_mem_set hb' with hb' | rfl
  · exact h.pg b' hb'
  · exact hk
theorem rd_okp {s : ChS} (h : s.Ok) (b p level : Int) : (s.rd b p level).2.2.Ok := by
  unfold ChS.rd
  split
  · exact h
  · split
    · exact h.same rfl rfl rfl rfl rfl
    · exact h.same rfl rfl rfl rfl rfl
theorem rd_bytes {s : ChS} (h : s.Ok) (b p level : Int) : (s.rd b p level).2.1.length ≤ 4096 ∧ ∀ x ∈ (s.rd b p level).2.1, x < 256 := by
  unfold ChS.rd
  split
  · exact ⟨Nat.zero_le _, fun x hx => absurd hx List.not_mem_nil⟩
  · rename_i h0
    split
    · exact ⟨Nat.zero_le _, fun x hx => absurd hx List.not_mem_nil⟩
    · have h1 := flips_ok level s.hits (s.pg b p).cells
      obtain ⟨_, h2, _⟩ := rdE_zero (Decidable.of_not_not h0)
      have h3 := page_ok h h2
      have := h.z1
      exact ⟨by simp only [h1.1]; omega, h1.2 h3.2.1⟩
theorem pr_okp {s : ChS} (h : s.Ok) (b p : Int) {l : List Nat} (h8 : ∀ x ∈ l, x < 256) : (s.pr b p l).2.Ok := by
  unfold ChS.pr
  split
  · exact h
  · rename_i h0
    obtain ⟨_, h2, h3⟩ := prE_zero (Decidable.of_not_not h0)
    obtain ⟨h4, h5, h6⟩ := has_inn h2
    obtain ⟨⟨k1, k2⟩, _⟩ := bk_ok h h4
    have hp := page_ok h h2
    have hz := h.z1
    simp only
    refine ok_blocks h (s' := _) rfl rfl rfl rfl (b := b) (k := { s.bk b with pages := (s.bk b).pages.set p.toNat _ }) ⟨by simp only [List.length_set]; exact k1, fun q hq => ?_⟩ rfl
    rcases List.mem_or_eq_of_mem_set hq with hq | rfl
    · exact k2 q hq
    · have hs := spoils_ok s.hits l
      have hl : (s.pg b p).cells.length ≤ (spoils s.hits l).length := by rw [hs.1]; omega
      refine ⟨by simp only; rw [andTo_len hl]; exact hp.1, andTo_lt hl hp.2.1, by simp only; omega, h8⟩
theorem er_okp {s : ChS} (h : s.Ok) (b : Int) : (s.er b).2.Ok := by
  unfold ChS.er
  split
  · exact h
  · rename_i h0
    obtain ⟨_, h2⟩ := erE_zero (Decidable.of_not_not h0)
    obtain ⟨⟨k1, k2⟩, _⟩ := bk_ok h h2
    have hp0 := h.p0
    have hz0 := h.z0
    have hle : (eraN s.hits s.pages).1 ≤ (s.bk b).pages.length := by
      unfold eraN
      split
      · have h1 := clampN_le (n := (by assumption : FtS).n) (size := s.pages)
        simp only
        omega
      · split
        · exact Nat.zero_le _
        · simp only
          omega
    simp only
    refine ok_blocks h (s' := _) rfl rfl rfl rfl (b := b) (k := { s.bk b with pages := _, worn := _ }) ⟨?_, fun q hq => ?_⟩ rfl
    · simp only [List.length_append, List.length_replicate, List.length_drop]
      omega
    · rcases List.mem_append.1 hq with hq | hq
      · rw [List.eq_of_mem_replicate hq]
        refine ⟨by show ((List.replicate s.size.toNat 255).length : Int) = s.size; rw [List.length_replicate]; omega, fun x hx => ?_, Nat.zero_le _, fun x hx => absurd hx List.not_mem_nil⟩
        rw [List.eq_of_mem_replicate hx]
        decide
      · exact k2 q (List.mem_of_mem_drop hq)
theorem off_okp {s : ChS} (h : s.Ok) (o : Bool) : ({ s with off := o } : ChS).Ok := h.same rfl rfl rfl rfl rfl
theorem plan_okp {s : ChS} (h : s.Ok) {pl : List FtS} (h1 : pl.length ≤ 1000) (h2 : ∀ f ∈ pl, f.bits.length ≤ 1000000) : ({ s with plan := pl } : ChS).Ok := ⟨h.p0, h.p1, h.z0, h.z1, h.v0, h.v1, h.b1, h.pg, h1, h2⟩
/-! ### The chapter's examples -/
def F14 : ChS := ChS.new 8 4 2 1 [] [⟨1, 1, 0, 0, [0]⟩, ⟨2, 3, 0, 1, []⟩]
def F14a : ChS := (F14.pr 0 0 [1, 2]).2
def F14b : ChS := (F14a.rd 0 0 0).2.2
def F14c : ChS := (F14b.pr 0 1 [3, 4]).2
def F14d : ChS := { F14c with off := false }
def F14e : ChS := (F14d.rd 0 0 0).2.2
def F14f : ChS := (F14e.pr 0 1 [1, 1]).2
def F14g : ChS := (F14f.rd 9 0 0).2.2
theorem two8 {a b : Nat} (ha : a < 256) (hb : b < 256) : ∀ x ∈ [a, b], x < 256 := by
  intro x hx
  simp only [List.mem_cons, List.not_mem_nil, or_false] at hx
  rcases hx with rfl | rfl <;> assumption
theorem F14_ok : F14.Ok := new_ok (by decide) (by decide) (by decide) (by decide) (by decide) (by decide) (by decide) (fun m hm => absurd hm List.not_mem_nil) (by decide) (by decide)
theorem F14a_ok : F14a.Ok := pr_okp F14_ok 0 0 (two8 (by decide) (by decide))
theorem F14b_ok : F14b.Ok := rd_okp F14a_ok 0 0 0
theorem F14c_ok : F14c.Ok := pr_okp F14b_ok 0 1 (two8 (by decide) (by decide))
theorem F14d_ok : F14d.Ok := off_okp F14c_ok false
theorem F14e_ok : F14e.Ok := rd_okp F14d_ok 0 0 0
theorem F14f_ok : F14f.Ok := pr_okp F14e_ok 0 1 (two8 (by decide) (by decide))
theorem F14_1 : (F14.pr 0 0 [1, 2]).1 = 0 := by kernel_rfl
theorem F14_2 : (F14a.rd 0 0 0).1 = 0 := by kernel_rfl
theorem F14_2b : (F14a.rd 0 0 0).2.1 = [0, 2] := by kernel_rfl
theorem F14_3 : (F14b.pr 0 1 [3, 4]).1 = 109 := by kernel_rfl
theorem F14_4 : F14c.off = true := by kernel_rfl
theorem F14_5 : (if F14c.inn 0 1 = true then (F14c.pg 0 1).cells else []) = [3, 255] := by kernel_rfl
theorem F14_6 : (F14d.rd 0 0 0).1 = 0 := by kernel_rfl
theorem F14_6b : (F14d.rd 0 0 0).2.1 = [1, 2] := by kernel_rfl
theorem F14_7 : (F14e.pr 0 1 [1, 1]).1 = 0 := by kernel_rfl
theorem F14_8 : (F14f.rd 9 0 0).1 = 110 := by kernel_rfl
theorem F14_8b : (F14f.rd 9 0 0).2.1 = [] := by kernel_rfl
theorem F14_9 : F14g.broken = 1 := by kernel_rfl
end Go.Proofs.YtcapijdokbkgaaaDoor
end
section
/- Chapter 14's examples, walked. Conditions: the errors' variables. -/
namespace Go.Proofs.YtcapijdokbkgaaaDoor
open Go Go.Sx Go.Fm
set_option maxRecDepth 100000
theorem bytes_of {g n : Nat} {cs : Array Value} {l : List Nat} {w : World} (h : Has (blk g 5 cs) w) (hs : cs.size = n * 1) (he : cs.toList = nats .u8 l) (hn : n = l.length) : Has (sl 1 (some ⟨g, 0, none⟩) l.length (nats .u8 l)) w := by
  subst hn
  exact Has.cong (h.blk_sl hs) he

set_option maxHeartbeats 3200000 in

theorem first14_spec (e : Nat → Addr) (w : World) (heD : Er e w 0) (heO : Er e w 1) (heS : Er e w 2) (heF : Er e w 5) (heM : Er e w 6) : Spec1 Tryd.prog 12 [] w (.bool true) := by
  refine spec_of Tryd.func12 rfl Tryd.ntmps12 rfl ?_
  refine CW.seq ?_
  refine CW.reg [0] rfl ?_
  refine s_as 0 rfl rfl ?_
  refine SX.next ?_
  refine CW.seq ?_
  refine CW.reg [0, 1, 2, 3, 4, 5, 6, 7, 8, 9] rfl ?_
  refine s_bsl 15 rfl rfl (cells := #[.int .i64 0]) (by kernel_rfl) rfl (fun _ _ => trivial) (fun g15 => ?_)
  refine s_build 16 rfl rfl (cells := #[.int .i64 1, .int .i64 1, .int .i64 0, .int .i64 0, .slice (some ⟨g15, 0, none⟩) 1 1]) (by kernel_rfl) ?_
  refine s_build 17 rfl rfl (cells := #[.int .i64 2, .int .i64 3, .int .i64 0, .int .i64 1, .slice none 0 0]) (by kernel_rfl) ?_
  refine s_bsl 18 rfl rfl (cells := #[.int .i64 1, .int .i64 1, .int .i64 0, .int .i64 0, .slice (some ⟨g15, 0, none⟩) 1 1, .int .i64 2, .int .i64 3, .int .i64 0, .int .i64 1, .slice none 0 0]) (by kernel_rfl) rfl (fun _ _ => trivial) (fun g18 => ?_)
  refine s_call 19 rfl rfl rfl rfl (X := Nat × ChG) (v := fun z => two (.pointer (some ⟨z.1, 0, none⟩)) .nilIface) (pf := fun z => z.2.abs = F14 ∧ z.2.watch = .nilFunc) (L' := fun z => [chipA z.1 z.2]) (fun w hw => cnew_ok 8 4 2 1 none 0 [] (some ⟨g18, 0, none⟩) 2 [(⟨1, 1, 0, 0, some ⟨g15, 0, none⟩, 1, [0]⟩ : FtG), (⟨2, 3, 0, 1, none, 0, []⟩ : FtG)] e w (by decide) (by decide) (by decide) (by decide) (Has.sl_nil w 1 none) (by decide) (fun m hm => absurd hm List.not_mem_nil) (hw.er heM) ⟨Has.cong ((hw.has (i := 0) rfl).blk_sl (m := 2) rfl) rfl, fun f hf => by
    simp only [List.mem_cons, List.not_mem_nil, or_false] at hf
    rcases hf with rfl | rfl
    · exact Has.cong ((hw.has (i := 1) rfl).blk_sl (m := 1) rfl) rfl
    · exact Has.sl_nil w 1 none, fun f hf => by
    simp only [List.mem_cons, List.not_mem_nil, or_false] at hf
    rcases hf with rfl | rfl <;> simp⟩ (by simp)) (fun _ _ => trivial) (fun z hz => ?_)
  obtain ⟨g, x0⟩ := z
  refine s_mv 14 rfl rfl ?_
  refine s_ext 20 rfl rfl rfl ?_
  refine s_ext 21 rfl rfl rfl ?_
  refine s_as 1 rfl rfl ?_
  refine s_as 2 rfl rfl ?_
  refine SX.next ?_
  refine CW.seq ?_
  refine CW.seq ?_
  refine CW.reg [0, 1, 2, 3, 4, 5] rfl ?_
  refine s_mv 22 rfl rfl ?_
  refine s_eqPN 23 rfl rfl ?_
  refine s_mv 24 rfl rfl ?_
  refine s_mv 25 rfl rfl ?_
  refine s_neNN 26 rfl rfl ?_
  refine s_pickF 27 rfl rfl rfl ?_
  refine SX.next ?_
  refine CW.condF rfl ?_
  refine CW.skip ?_
  refine KN.code ?_
  refine CW.seq ?_
  refine CW.reg [0, 1, 2, 3, 4] rfl ?_
  refine s_mv 28 rfl rfl ?_
  refine s_build 29 rfl rfl (cells := #[.int .i64 0, .int .i64 0]) (by kernel_rfl) ?_
  refine s_bsl 30 rfl rfl (cells := #[.int .u8 1, .int .u8 2]) (by kernel_rfl) rfl (fun _ _ => trivial) (fun b30 => ?_)
  refine s_callP 31 [1, 0, 0, 0] (M := [chipA g x0]) (R := [blk b30 5 #[.int .u8 1, .int .u8 2], blk g18 48 #[.int .i64 1, .int .i64 1, .int .i64 0, .int .i64 0, .slice (some ⟨g15, 0, none⟩) 1 1, .int .i64 2, .int .i64 3, .int .i64 0, .int .i64 1, .slice none 0 0], blk g15 3 #[.int .i64 0]]) (X := ChG) (v := fun z => .nilIface) (pf := fun z => z.abs = F14a ∧ z.watch = .nilFunc) (M' := fun z => [chipA g z]) rfl rfl rfl rfl rfl (fun F' w' hR hM => by have := program_spec F' g x0 (by rw [hz.1]; exact F14_ok) 0 0 (some ⟨b30, 0, none⟩) 2 [1, 2] e w' (fun w2 hf => (hR w2 hf).er heD) (fun w2 hf => (hR w2 hf).er heO) (fun w2 hf => (hR w2 hf).er heS) (fun w2 hf => (hR w2 hf).er heF) (fun w2 hf => bytes_of ((hR w2 hf).has (i := 0) rfl) (n := 2) rfl rfl rfl) (two8 (by decide) (by decide)) hM; rw [hz.1, F14_1, hz.2] at this; exact this) (fun _ _ _ => trivial) (fun x1 hx1 => ?_)
  refine s_as 3 rfl rfl ?_
  refine SX.next ?_
  refine CW.seq ?_
  refine CW.reg [0, 1, 2, 3, 4, 5, 6, 7] rfl ?_
  refine s_mv 33 rfl rfl ?_
  refine s_build 34 rfl rfl (cells := #[.int .i64 0, .int .i64 0]) (by kernel_rfl) ?_
  refine s_callP 35 [0, 0, 0, 0] (M := [chipA g x1]) (R := [blk b30 5 #[.int .u8 1, .int .u8 2], blk g18 48 #[.int .i64 1, .int .i64 1, .int .i64 0, .int .i64 0, .slice (some ⟨g15, 0, none⟩) 1 1, .int .i64 2, .int .i64 3, .int .i64 0, .int .i64 1, .slice none 0 0], blk g15 3 #[.int .i64 0]]) (X := (Option Addr × Nat) × ChG) (v := fun z => two (.slice z.1.1 ([0, 2] : List Nat).length z.1.2) .nilIface) (pf := fun z => z.2.abs = F14b ∧ z.2.watch = .nilFunc) (M' := fun z => [own 5 1 z.1.1 ([0, 2] : List Nat).length z.1.2 (nats .u8 [0, 2]), chipA g z.2]) rfl rfl rfl rfl rfl (fun F' w' hR hM => by have := read_spec F' g x1 (by rw [hx1.1]; exact F14a_ok) 0 0 0 e w' hx1.2 (fun w2 hf => (hR w2 hf).er heD) (fun w2 hf => (hR w2 hf).er heO) (fun w2 hf => (hR w2 hf).er heS) hM; rw [hx1.1, F14_2, F14_2b, hx1.2] at this; exact this) (fun _ _ _ => trivial) (fun x2 hx2 => ?_)
  refine s_mv 32 rfl rfl ?_
  refine s_ext 36 rfl rfl rfl ?_
  refine s_ext 37 rfl rfl rfl ?_
  refine s_as 4 rfl rfl ?_
  refine s_as 5 rfl rfl ?_
  refine SX.next ?_
  refine CW.seq ?_
  refine CW.reg [0, 1, 2, 3, 4] rfl ?_
  refine s_mv 38 rfl rfl ?_
  refine s_build 39 rfl rfl (cells := #[.int .i64 0, .int .i64 1]) (by kernel_rfl) ?_
  refine s_bsl 40 rfl rfl (cells := #[.int .u8 3, .int .u8 4]) (by kernel_rfl) rfl (fun _ _ => trivial) (fun b40 => ?_)
  refine s_callP 41 [2, 0, 0, 0, 0, 0] (M := [chipA g x2.2]) (R := [blk b40 5 #[.int .u8 3, .int .u8 4], own 5 1 x2.1.1 ([0, 2] : List Nat).length x2.1.2 (nats .u8 [0, 2]), blk b30 5 #[.int .u8 1, .int .u8 2], blk g18 48 #[.int .i64 1, .int .i64 1, .int .i64 0, .int .i64 0, .slice (some ⟨g15, 0, none⟩) 1 1, .int .i64 2, .int .i64 3, .int .i64 0, .int .i64 1, .slice none 0 0], blk g15 3 #[.int .i64 0]]) (X := ChG) (v := fun z => errV e 0) (pf := fun z => z.abs = F14c ∧ z.watch = .nilFunc) (M' := fun z => [chipA g z]) rfl rfl rfl rfl rfl (fun F' w' hR hM => by have := program_spec F' g x2.2 (by rw [hx2.1]; exact F14b_ok) 0 1 (some ⟨b40, 0, none⟩) 2 [3, 4] e w' (fun w2 hf => (hR w2 hf).er heD) (fun w2 hf => (hR w2 hf).er heO) (fun w2 hf => (hR w2 hf).er heS) (fun w2 hf => (hR w2 hf).er heF) (fun w2 hf => bytes_of ((hR w2 hf).has (i := 0) rfl) (n := 2) rfl rfl rfl) (two8 (by decide) (by decide)) hM; rw [hx2.1, F14_3, hx2.2] at this; exact this) (fun _ _ _ => trivial) (fun x3 hx3 => ?_)
  refine s_as 6 rfl rfl ?_
  refine SX.next ?_
  refine CW.seq ?_
  refine CW.reg [0, 1, 2, 3] rfl ?_
  refine s_mv 42 rfl rfl ?_
  refine s_call1 43 rfl rfl rfl rfl (v := .bool false) (fun w hw => by have := on_spec g x3 w (hw.has (i := 0) rfl); rw [show x3.off = F14c.off from congrArg ChS.off hx3.1, F14_4] at this; exact this) (fun _ _ => trivial) ?_
  refine s_not 44 rfl rfl ?_
  refine s_as 7 rfl rfl ?_
  refine SX.next ?_
  refine CW.seq ?_
  refine CW.reg [0, 1, 2, 3] rfl ?_
  refine s_mv 45 rfl rfl ?_
  refine s_build 46 rfl rfl (cells := #[.int .i64 0, .int .i64 1]) (by kernel_rfl) ?_
  refine s_call 47 rfl rfl rfl rfl (X := Option Addr × Nat) (v := fun z => .slice z.1 ([3, 255] : List Nat).length z.2) (pf := fun z => ([3, 255] : List Nat).length ≤ z.2) (L' := fun z => [own 5 1 z.1 ([3, 255] : List Nat).length z.2 (nats .u8 [3, 255])]) (fun w hw => by have := cells_spec g x3 (by rw [hx3.1]; exact F14c_ok) 0 1 w (hw.has (i := 0) rfl); rw [hx3.1, F14_5] at this; exact this) (fun _ _ => trivial) (fun z47 hz47 => ?_)
  refine s_as 8 rfl rfl ?_
  refine SX.next ?_
  refine CW.seq ?_
  refine CW.reg [0, 1] rfl ?_
  refine s_mv 48 rfl rfl ?_
  refine s_callP 49 [1, 0, 0, 0, 0, 0, 0] (M := [chipA g x3]) (R := [own 5 1 z47.1 ([3, 255] : List Nat).length z47.2 (nats .u8 [3, 255]), blk b40 5 #[.int .u8 3, .int .u8 4], own 5 1 x2.1.1 ([0, 2] : List Nat).length x2.1.2 (nats .u8 [0, 2]), blk b30 5 #[.int .u8 1, .int .u8 2], blk g18 48 #[.int .i64 1, .int .i64 1, .int .i64 0, .int .i64 0, .slice (some ⟨g15, 0, none⟩) 1 1, .int .i64 2, .int .i64 3, .int .i64 0, .int .i64 1, .slice none 0 0], blk g15 3 #[.int .i64 0]]) (X := Unit) (v := fun z => oneOf []) (pf := fun z => True) (M' := fun z => [chipA g { x3 with off := false }]) rfl rfl rfl rfl rfl (fun F' w' hR hM => by have := power_spec F' g x3 w' hM;  exact this) (fun _ _ _ => trivial) (fun _ _ => ?_)
  have hx4 : ({ x3 with off := false } : ChG).abs = F14d ∧ ({ x3 with off := false } : ChG).watch = .nilFunc := ⟨by unfold F14d; rw [← hx3.1]; rfl, hx3.2⟩
  refine SX.next ?_
  refine CW.seq ?_
  refine CW.reg [0, 1, 2, 3, 4, 5, 6, 7] rfl ?_
  refine s_mv 51 rfl rfl ?_
  refine s_build 52 rfl rfl (cells := #[.int .i64 0, .int .i64 0]) (by kernel_rfl) ?_
  refine s_callP 53 [0, 0, 0, 0, 0, 0, 0] (M := [chipA g { x3 with off := false }]) (R := [own 5 1 z47.1 ([3, 255] : List Nat).length z47.2 (nats .u8 [3, 255]), blk b40 5 #[.int .u8 3, .int .u8 4], own 5 1 x2.1.1 ([0, 2] : List Nat).length x2.1.2 (nats .u8 [0, 2]), blk b30 5 #[.int .u8 1, .int .u8 2], blk g18 48 #[.int .i64 1, .int .i64 1, .int .i64 0, .int .i64 0, .slice (some ⟨g15, 0, none⟩) 1 1, .int .i64 2, .int .i64 3, .int .i64 0, .int .i64 1, .slice none 0 0], blk g15 3 #[.int .i64 0]]) (X := (Option Addr × Nat) × ChG) (v := fun z => two (.slice z.1.1 ([1, 2] : List Nat).length z.1.2) .nilIface) (pf := fun z => z.2.abs = F14e ∧ z.2.watch = .nilFunc) (M' := fun z => [own 5 1 z.1.1 ([1, 2] : List Nat).length z.1.2 (nats .u8 [1, 2]), chipA g z.2]) rfl rfl rfl rfl rfl (fun F' w' hR hM => by have := read_spec F' g { x3 with off := false } (by rw [hx4.1]; exact F14d_ok) 0 0 0 e w' hx4.2 (fun w2 hf => (hR w2 hf).er heD) (fun w2 hf => (hR w2 hf).er heO) (fun w2 hf => (hR w2 hf).er heS) hM; rw [hx4.1, F14_6, F14_6b, hx4.2] at this; exact this) (fun _ _ _ => trivial) (fun x5 hx5 => ?_)
  refine s_mv 50 rfl rfl ?_
  refine s_ext 54 rfl rfl rfl ?_
  refine s_ext 55 rfl rfl rfl ?_
  refine s_as 9 rfl rfl ?_
  refine s_as 10 rfl rfl ?_
  refine SX.next ?_
  refine CW.seq ?_
  refine CW.reg [0, 1, 2, 3, 4] rfl ?_
  refine s_mv 56 rfl rfl ?_
  refine s_build 57 rfl rfl (cells := #[.int .i64 0, .int .i64 1]) (by kernel_rfl) ?_
  refine s_bsl 58 rfl rfl (cells := #[.int .u8 1, .int .u8 1]) (by kernel_rfl) rfl (fun _ _ => trivial) (fun b58 => ?_)
  refine s_callP 59 [2, 0, 0, 0, 0, 0, 0, 0, 0] (M := [chipA g x5.2]) (R := [blk b58 5 #[.int .u8 1, .int .u8 1], own 5 1 x5.1.1 ([1, 2] : List Nat).length x5.1.2 (nats .u8 [1, 2]), own 5 1 z47.1 ([3, 255] : List Nat).length z47.2 (nats .u8 [3, 255]), blk b40 5 #[.int .u8 3, .int .u8 4], own 5 1 x2.1.1 ([0, 2] : List Nat).length x2.1.2 (nats .u8 [0, 2]), blk b30 5 #[.int .u8 1, .int .u8 2], blk g18 48 #[.int .i64 1, .int .i64 1, .int .i64 0, .int .i64 0, .slice (some ⟨g15, 0, none⟩) 1 1, .int .i64 2, .int .i64 3, .int .i64 0, .int .i64 1, .slice none 0 0], blk g15 3 #[.int .i64 0]]) (X := ChG) (v := fun z => .nilIface) (pf := fun z => z.abs = F14f ∧ z.watch = .nilFunc) (M' := fun z => [chipA g z]) rfl rfl rfl rfl rfl (fun F' w' hR hM => by have := program_spec F' g x5.2 (by rw [hx5.1]; exact F14e_ok) 0 1 (some ⟨b58, 0, none⟩) 2 [1, 1] e w' (fun w2 hf => (hR w2 hf).er heD) (fun w2 hf => (hR w2 hf).er heO) (fun w2 hf => (hR w2 hf).er heS) (fun w2 hf => (hR w2 hf).er heF) (fun w2 hf => bytes_of ((hR w2 hf).has (i := 0) rfl) (n := 2) rfl rfl rfl) (two8 (by decide) (by decide)) hM; rw [hx5.1, F14_7, hx5.2] at this; exact this) (fun _ _ _ => trivial) (fun x6 hx6 => ?_)
  refine s_as 11 rfl rfl ?_
  refine SX.next ?_
  refine CW.seq ?_
  refine CW.reg [0, 1, 2, 3, 4, 5, 6, 7] rfl ?_
  refine s_mv 61 rfl rfl ?_
  refine s_build 62 rfl rfl (cells := #[.int .i64 9, .int .i64 0]) (by kernel_rfl) ?_
  refine s_callP 63 [0, 0, 0, 0, 0, 0, 0, 0, 0] (M := [chipA g x6]) (R := [blk b58 5 #[.int .u8 1, .int .u8 1], own 5 1 x5.1.1 ([1, 2] : List Nat).length x5.1.2 (nats .u8 [1, 2]), own 5 1 z47.1 ([3, 255] : List Nat).length z47.2 (nats .u8 [3, 255]), blk b40 5 #[.int .u8 3, .int .u8 4], own 5 1 x2.1.1 ([0, 2] : List Nat).length x2.1.2 (nats .u8 [0, 2]), blk b30 5 #[.int .u8 1, .int .u8 2], blk g18 48 #[.int .i64 1, .int .i64 1, .int .i64 0, .int .i64 0, .slice (some ⟨g15, 0, none⟩) 1 1, .int .i64 2, .int .i64 3, .int .i64 0, .int .i64 1, .slice none 0 0], blk g15 3 #[.int .i64 0]]) (X := (Option Addr × Nat) × ChG) (v := fun z => two (.slice z.1.1 ([] : List Nat).length z.1.2) (errV e 1)) (pf := fun z => z.2.abs = F14g ∧ z.2.watch = .nilFunc) (M' := fun z => [own 5 1 z.1.1 ([] : List Nat).length z.1.2 (nats .u8 []), chipA g z.2]) rfl rfl rfl rfl rfl (fun F' w' hR hM => by have := read_spec F' g x6 (by rw [hx6.1]; exact F14f_ok) 9 0 0 e w' hx6.2 (fun w2 hf => (hR w2 hf).er heD) (fun w2 hf => (hR w2 hf).er heO) (fun w2 hf => (hR w2 hf).er heS) hM; rw [hx6.1, F14_8, F14_8b, hx6.2] at this; exact this) (fun _ _ _ => trivial) (fun x7 hx7 => ?_)
  refine s_mv 60 rfl rfl ?_
  refine s_ext 64 rfl rfl rfl ?_
  refine s_ext 65 rfl rfl rfl ?_
  refine s_as 12 rfl rfl ?_
  refine s_as 13 rfl rfl ?_
  refine SX.next ?_
  refine CW.seq ?_
  refine CW.reg [0, 1, 2, 3, 4, 5, 6, 7, 8, 9, 10, 11, 12, 13, 14, 15, 16, 17, 18, 19, 20, 21, 22, 23, 24, 25, 26, 27, 28, 29, 30, 31, 32, 33, 34, 35, 36, 37, 38, 39, 40, 41, 42, 43, 44, 45, 46, 47] rfl ?_
  refine s_mv 66 rfl rfl ?_
  refine s_eqNN 67 rfl rfl ?_
  refine s_mv 68 rfl rfl ?_
  refine s_mv 69 rfl rfl ?_
  refine s_eqNN 70 rfl rfl ?_
  refine s_pickT 71 rfl rfl rfl ?_
  refine s_mv 72 rfl rfl ?_
  refine s_mv 73 rfl rfl ?_
  refine s_bsl 74 rfl rfl (cells := #[.int .u8 0, .int .u8 2]) (by kernel_rfl) rfl (fun _ _ => trivial) (fun b74 => ?_)
  refine s_call1 75 rfl rfl rfl rfl (v := .bool true) (fun w hw => by have := sameBytes_spec x2.1.1 ([0, 2] : List Nat).length x2.1.2 [0, 2] (some ⟨b74, 0, none⟩) 2 2 [0, 2] w ((hw.has (i := 7) rfl).of_own) (two8 (by decide) (by decide)) (bytes_of (hw.has (i := 0) rfl) (n := 2) rfl rfl rfl) (two8 (by decide) (by decide)); rw [decide_eq_true rfl] at this; exact this) (fun _ _ => trivial) ?_
  refine s_pickT 76 rfl rfl rfl ?_
  refine s_mv 77 rfl rfl ?_
  refine s_mv 78 rfl rfl ?_
  refine s_ld 79 rfl rfl (fun _ hw => hw.cell heD) ?_
  refine s_eqE 80 rfl rfl rfl ?_
  refine s_pickT 81 rfl rfl rfl ?_
  refine s_mv 82 rfl rfl ?_
  refine s_mv 83 rfl rfl ?_
  refine s_pickT 84 rfl rfl rfl ?_
  refine s_mv 85 rfl rfl ?_
  refine s_mv 86 rfl rfl ?_
  refine s_bsl 87 rfl rfl (cells := #[.int .u8 3, .int .u8 255]) (by kernel_rfl) rfl (fun _ _ => trivial) (fun b87 => ?_)
  refine s_call1 88 rfl rfl rfl rfl (v := .bool true) (fun w hw => by have := sameBytes_spec z47.1 ([3, 255] : List Nat).length z47.2 [3, 255] (some ⟨b87, 0, none⟩) 2 2 [3, 255] w ((hw.has (i := 6) rfl).of_own) (two8 (by decide) (by decide)) (bytes_of (hw.has (i := 0) rfl) (n := 2) rfl rfl rfl) (two8 (by decide) (by decide)); rw [decide_eq_true rfl] at this; exact this) (fun _ _ => trivial) ?_
  refine s_pickT 89 rfl rfl rfl ?_
  refine s_mv 90 rfl rfl ?_
  refine s_mv 91 rfl rfl ?_
  refine s_eqNN 92 rfl rfl ?_
  refine s_pickT 93 rfl rfl rfl ?_
  refine s_mv 94 rfl rfl ?_
  refine s_mv 95 rfl rfl ?_
  refine s_bsl 96 rfl rfl (cells := #[.int .u8 1, .int .u8 2]) (by kernel_rfl) rfl (fun _ _ => trivial) (fun b96 => ?_)
  refine s_call1 97 rfl rfl rfl rfl (v := .bool true) (fun w hw => by have := sameBytes_spec x5.1.1 ([1, 2] : List Nat).length x5.1.2 [1, 2] (some ⟨b96, 0, none⟩) 2 2 [1, 2] w ((hw.has (i := 6) rfl).of_own) (two8 (by decide) (by decide)) (bytes_of (hw.has (i := 0) rfl) (n := 2) rfl rfl rfl) (two8 (by decide) (by decide)); rw [decide_eq_true rfl] at this; exact this) (fun _ _ => trivial) ?_
  refine s_pickT 98 rfl rfl rfl ?_
  refine s_mv 99 rfl rfl ?_
  refine s_mv 100 rfl rfl ?_
  refine s_eqNN 101 rfl rfl ?_
  refine s_pickT 102 rfl rfl rfl ?_
  refine s_mv 103 rfl rfl ?_
  refine s_mv 104 rfl rfl ?_
  refine s_call1 105 rfl rfl rfl rfl (v := .int .i64 1) (fun w hw => by have := broken_spec g x7.2 w (hw.has (i := 4) rfl); rw [show x7.2.broken = F14g.broken from congrArg ChS.broken hx7.1, F14_9] at this; exact this) (fun _ _ => trivial) ?_
  refine s_eq 106 rfl rfl rfl (decide_eq_true rfl) ?_
  refine s_pickT 107 rfl rfl rfl ?_
  refine s_mv 108 rfl rfl ?_
  refine s_mv 109 rfl rfl ?_
  refine s_ld 110 rfl rfl (fun _ hw => hw.cell heO) ?_
  refine s_eqE 111 rfl rfl rfl ?_
  refine s_pickT 112 rfl rfl rfl ?_
  refine s_as 0 rfl rfl ?_
  refine SX.next ?_
  refine CW.ret ?_
  exact KN.ret (rs := [.tmp 0]) Tryd.results12 rfl (fun w hw => ⟨rfl, hw.nothing⟩)
end Go.Proofs.YtcapijdokbkgaaaDoor
end
section
/- What a slice of bytes that comes in gives a walk. No condition. -/
namespace Go.Sx
open Go Go.ChangeShapes Go.WideShapes
end Go.Sx
end
section
/- What slices of faults, and of things that a chip or a driver is told, give a walk, with their bulk. No condition. -/
namespace Go.Sx
open Go Go.ChangeShapes Go.WideShapes Go.Deep
open Go.Proofs.YtcapijdokbkgaaaDoor.Rows (uptoBulk uptoBulkAll)
set_option maxRecDepth 100000
section
variable {H : Type} {enc : TypeId × Value → H} {P : Program} {W : World} {base b0 : Nat} {spare : Nat → Bool} {held : Bool}
theorem bulk_pos : ∀ d : DataW H, 1 ≤ uptoBulk d
  | .lit l => by cases l <;> simp [uptoBulk]
  | .nil => by simp [uptoBulk]
  | .ptr _ => by simp only [uptoBulk]; omega
  | .slice _ _ => by simp only [uptoBulk]; omega
  | .agg _ => by simp only [uptoBulk]; omega
  | .iface _ _ => by simp only [uptoBulk]; omega
  | .map _ => by simp only [uptoBulk]; omega
  | .held _ => by simp [uptoBulk]
theorem bulk_len : ∀ l : List (DataW H), l.length ≤ uptoBulkAll l
  | [] => Nat.zero_le _
  | d :: l => by
    have h1 := bulk_pos d
    have h2 := bulk_len l
    simp only [uptoBulkAll, List.length_cons]
    omega
theorem bulk_mem {d : DataW H} : ∀ {l : List (DataW H)}, d ∈ l → uptoBulk d ≤ uptoBulkAll l
  | e :: l, h => by
    simp only [uptoBulkAll]
    rcases List.mem_cons.1 h with rfl | h
    · omega
    · have := bulk_mem h
      omega
theorem bulk_slice (l r : List (DataW H)) : uptoBulk (.slice l r) = uptoBulkAll l + uptoBulkAll r + 1 := by simp only [uptoBulk]
theorem bulk_agg (l : List (DataW H)) : uptoBulk (.agg l) = uptoBulkAll l + 1 := by simp only [uptoBulk]
/-- The rows of a slice's elements, each with its own reading. -/
theorem open_rowS {t e : TypeId} {s fuel : Nat} {v : Value} {x : DataW H × List MemPlace} (ht : P.underlying t = some (.slice e)) (hc : P.cellsOf e = s) (hs : 0 < s) (hf : DataW.trod enc P W base spare held fuel t [v] = some x) :
    ∃ (A : Option Addr) (n c : Nat) (rows : List (List Value)), v = .slice A n c ∧ n ≤ c ∧ (c : Int) ≤ 9223372036854775807 ∧ rows.length = n ∧ (∀ r ∈ rows, r.length = s ∧ ∃ m y, DataW.trod enc P W base spare held m e r = some y ∧ uptoBulk y.1 ≤ uptoBulk x.1) ∧ n ≤ uptoBulk x.1 ∧ Has (sl s A n rows.flatten) W := by
  rcases DataW.trod_slice ht hf with ⟨hcs, _⟩ | ⟨a, n, c, elems, rest, m, _, hcs, hx, hb, hl, hm, hlen, hel, _, _⟩
  · simp only [List.cons.injEq, and_true] at hcs
    subst hcs
    exact ⟨none, 0, 0, [], rfl, Nat.le_refl _, by omega, rfl, (fun r hr => absurd hr (List.not_mem_nil)), Nat.zero_le _, Has.sl_nil W s none⟩
  · simp only [List.cons.injEq, and_true] at hcs
    subst hcs
    subst hc
    have key : ∀ i, i < n → ∃ r, W.cells? base (a.add (i * P.cellsOf e)) (P.cellsOf e) = some r ∧ ∃ y, DataW.trod enc P W base spare held m e r = some y ∧ uptoBulk y.1 ≤ uptoBulk x.1 := fun i hi => by
      have h1 := hel i hi
      rw [List.getElem?_eq_getElem (by omega), Option.bind_eq_some_iff] at h1
      obtain ⟨r, h2, h3⟩ := h1
      refine ⟨r, h2, _, h3, ?_⟩
      rw [hx, bulk_slice]
      have := bulk_mem (List.mem_map_of_mem (f := (·.1)) (List.getElem_mem (h := (by omega : i < elems.length))))
      omega
    have hrows : ∀ k, k ≤ n → ∃ rows : List (List Value), rows.length = k ∧ (∀ r ∈ rows, r.length = P.cellsOf e ∧ ∃ m y, DataW.trod enc P W base spare held m e r = some y ∧ uptoBulk y.1 ≤ uptoBulk x.1) ∧ ∀ i, i < k → W.cells? base (a.add (i * P.cellsOf e)) (P.cellsOf e) = rows[i]? := by
      intro k
      induction k with
      | zero => exact fun _ => ⟨[], rfl, (fun r hr => absurd hr (List.not_mem_nil)), fun i hi => by omega⟩
      | succ k ih =>
        intro hk
        obtain ⟨rows, k1, k2, k3⟩ := ih (by omega)
        obtain ⟨r, h1, h2⟩ := key k (by omega)
        refine ⟨rows ++ [r], by simp [k1], fun r2 hr2 => ?_, fun i hi => ?_⟩
        · rcases List.mem_append.1 hr2 with h | h
          · exact k2 r2 h
          · obtain rfl : r2 = r := by simpa using h
            exact ⟨(World.cells?_some h1).2.1, m, h2⟩
        · by_cases hik : i < k
          · rw [k3 i hik, List.getElem?_append_left (by omega)]
          · obtain rfl : i = k := by omega
            rw [h1, List.getElem?_append_right (by omega), k1, Nat.sub_self]
            rfl
    obtain ⟨rows, k1, k2, k3⟩ := hrows n (Nat.le_refl _)
    refine ⟨some a, n, c, rows, rfl, hl, by unfold maxLen at hm; omega, k1, k2, ?_, ?_⟩
    · rw [hx, bulk_slice]
      have := bulk_len (elems.map (·.1))
      rw [List.length_map] at this
      omega
    by_cases hn : n = 0
    · subst hn
      obtain rfl := List.eq_nil_of_length_eq_zero k1
      exact Has.sl_nil W _ (some a)
    · have hcell : ∀ i, i < n → ∀ j, j < P.cellsOf e → W.cell? (a.add (i * P.cellsOf e + j)) = rows.flatten[i * P.cellsOf e + j]? := by
        intro i hi j hj
        have h1 : ∃ r, rows[i]? = some r := ⟨_, List.getElem?_eq_getElem (by omega)⟩
        obtain ⟨r, hr⟩ := h1
        have h2 := (World.cells?_some ((k3 i hi).trans hr)).2.2 j hj
        have e1 : (a.add (i * P.cellsOf e)).add j = a.add (i * P.cellsOf e + j) := by
          unfold Addr.add
          by_cases z1 : i * P.cellsOf e = 0
          · rw [if_pos z1, z1, Nat.zero_add]
          · by_cases z2 : j = 0
            · subst z2; simp
            · rw [if_neg z1, if_neg z2, if_neg (by omega)]
              simp [Nat.add_assoc]
        rw [e1] at h2
        rw [h2]
        clear h2 e1 hel key hrows k3
        have hl2 : ∀ (rows : List (List Value)) (i : Nat), (∀ r ∈ rows, r.length = P.cellsOf e) → rows[i]? = some r → rows.flatten[i * P.cellsOf e + j]? = r[j]? := by
          intro rows
          induction rows with
          | nil => intro i _ h; simp at h
          | cons r0 rows ih =>
            intro i hrl h
            have hr0 := hrl r0 (by simp)
            cases i with
            | zero =>
              obtain rfl : r0 = r := by simpa using h
              rw [List.flatten_cons, List.getElem?_append_left (by omega)]
              congr 1
              omega
            | succ i =>
              rw [List.flatten_cons, List.getElem?_append_right (by rw [hr0, Nat.succ_mul]; omega), hr0, ← ih i (fun r hr => hrl r (by simp [hr])) (by simpa using h)]
              congr 1
              rw [Nat.succ_mul]
              omega
        exact (hl2 rows i (fun r hr => (k2 r hr).1) hr).symm
      have hfl : rows.flatten.length = n * P.cellsOf e := by
        have : ∀ rows : List (List Value), (∀ r ∈ rows, r.length = P.cellsOf e) → rows.flatten.length = rows.length * P.cellsOf e := by
          intro rows
          induction rows with
          | nil => intro _; simp
          | cons r0 rows ih =>
            intro hrl
            rw [List.flatten_cons, List.length_append, ih (fun r hr => hrl r (by simp [hr])), hrl r0 (by simp), List.length_cons, Nat.succ_mul]
            omega
        rw [this rows (fun r hr => (k2 r hr).1), k1]
      have hall : ∀ q, q < n * P.cellsOf e → W.cell? (a.add q) = rows.flatten[q]? := fun q hq => by
        have hq1 : q / P.cellsOf e < n := (Nat.div_lt_iff_lt_mul hs).2 hq
        have := hcell _ hq1 (q % P.cellsOf e) (Nat.mod_lt _ hs)
        rwa [Nat.div_add_mod'] at this
      have hpos : 0 < n * P.cellsOf e := Nat.mul_pos (by omega) hs
      have h0 := hall 0 hpos
      rw [List.getElem?_eq_getElem (by omega)] at h0
      have ha : a = ⟨a.block, a.off, none⟩ := by
        cases a with
        | mk b o sp =>
          cases sp with
          | none => rfl
          | some x => simp [Addr.add, World.cell?] at h0; split at h0 <;> simp_all
      refine ⟨fun b => b = a.block, ⟨hfl, fun _ => ⟨by simp only [ob, oo]; rw [← ha], rfl, fun j v hj => ?_⟩⟩, fun b hb => ?_⟩
      · have hjn := (List.getElem?_eq_some_iff.1 hj).1
        have h1 := hall j (by omega)
        rw [ha, add_at, hj] at h1
        exact h1
      · subst hb
        have := World.block_lt_of_cell? W _ h0
        rwa [block_add] at this
theorem open_rowB {t e : TypeId} (ht : P.underlying t = some (.slice e)) (he : P.underlying e = some (.int .u8)) (hc : P.cellsOf e = 1) {fuel : Nat} {v : Value} {x : DataW H × List MemPlace} (hf : DataW.trod enc P W base spare held fuel t [v] = some x) :
    ∃ A n c p, v = .slice A n c ∧ n ≤ c ∧ (c : Int) ≤ 9223372036854775807 ∧ p.length = n ∧ Has (sl 1 A n (nats .u8 p)) W ∧ ∀ x ∈ p, x < 256 := by
  rcases open_ints ht he hc hf with ⟨hcs2, _⟩ | ⟨a, n, c, zs, hcs2, _, hl, hm, hz, _, hcell, hw⟩
  · simp only [List.cons.injEq, and_true] at hcs2
    subst hcs2
    exact ⟨none, 0, 0, [], rfl, Nat.le_refl _, by omega, rfl, Has.sl_nil W 1 none, fun z hz => by simp at hz⟩
  · simp only [List.cons.injEq, and_true] at hcs2
    subst hcs2
    have hlz : n ≤ zs.length := by rw [hz]; split <;> omega
    have hlen : (zs.take n).length = n := by rw [List.length_take]; exact Nat.min_eq_left hlz
    have hb : ∀ z ∈ zs.take n, 0 ≤ z ∧ z < 256 := fun z hz => by
      have := hw z (List.mem_of_mem_take hz)
      simp only [Lit.wf, Bool.and_eq_true, decide_eq_true_eq] at this
      have e1 : IntKind.u8.min = 0 := by decide
      have e2 : IntKind.u8.max = 255 := by decide
      omega
    refine ⟨some a, n, c, (zs.take n).map Int.toNat, rfl, hl, by unfold maxLen at hm; omega, by rw [List.length_map]; exact hlen, ?_, fun x hx => ?_⟩
    · have e2 : nats .u8 ((zs.take n).map Int.toNat) = ints .u8 (zs.take n) := by
        unfold nats ints
        rw [List.map_map]
        exact List.map_congr_left (fun z hz => by
          show Value.int .u8 ((z.toNat : Nat) : Int) = Value.int .u8 z
          rw [Int.toNat_of_nonneg (hb z hz).1])
      rw [e2]
      by_cases hn : n = 0
      · subst hn
        exact Has.sl_nil W 1 (some a)
      · have h0 := hcell 0 (by omega)
        have ha : a = ⟨a.block, a.off, none⟩ := by
          cases a with
          | mk b o sp =>
            cases sp with
            | none => rfl
            | some x => simp [Addr.add, World.cell?] at h0; split at h0 <;> simp_all
        refine ⟨fun b => b = a.block, ⟨by simp only [ints, List.length_map, hlen, Nat.mul_one], fun _ => ⟨by simp only [ob, oo]; rw [← ha], rfl, fun j v hj => ?_⟩⟩, fun b hb => ?_⟩
        · have hjn : j < n := by
            have := (List.getElem?_eq_some_iff.1 hj).1
            simp only [ints, List.length_map, hlen] at this
            exact this
          rw [intsAt (by omega)] at hj
          have hc2 := hcell j (by omega)
          rw [ha, add_at] at hc2
          simp only [ob, oo]
          rw [hc2, ← hj]
          simp [hjn]
        · subst hb
          have hc2 := hcell 0 (by omega)
          have := World.block_lt_of_cell? W _ hc2
          rwa [block_add] at this
    · obtain ⟨z, hz, rfl⟩ := List.mem_map.1 hx
      have := hb z hz
      omega

theorem open_rowI {t e : TypeId} (ht : P.underlying t = some (.slice e)) (he : P.underlying e = some (.int .i64)) (hc : P.cellsOf e = 1) {fuel : Nat} {v : Value} {x : DataW H × List MemPlace} (hf : DataW.trod enc P W base spare held fuel t [v] = some x) :
    ∃ A n c p, v = .slice A n c ∧ n ≤ c ∧ (c : Int) ≤ 9223372036854775807 ∧ p.length = n ∧ Has (sl 1 A n (ints .i64 p)) W ∧ n ≤ uptoBulk x.1 := by
  rcases open_ints ht he hc hf with ⟨hcs2, _⟩ | ⟨a, n, c, zs, hcs2, _, hl, hm, hz, hx, hcell, hw⟩
  · simp only [List.cons.injEq, and_true] at hcs2
    subst hcs2
    exact ⟨none, 0, 0, [], rfl, Nat.le_refl _, by omega, rfl, Has.sl_nil W 1 none, Nat.zero_le _⟩
  · simp only [List.cons.injEq, and_true] at hcs2
    subst hcs2
    have hlz : n ≤ zs.length := by rw [hz]; split <;> omega
    have hlen : (zs.take n).length = n := by rw [List.length_take]; exact Nat.min_eq_left hlz
    refine ⟨some a, n, c, zs.take n, rfl, hl, by unfold maxLen at hm; omega, hlen, ?_, ?_⟩
    · by_cases hn : n = 0
      · subst hn
        exact Has.sl_nil W 1 (some a)
      · have h0 := hcell 0 (by omega)
        have ha : a = ⟨a.block, a.off, none⟩ := by
          cases a with
          | mk b o sp =>
            cases sp with
            | none => rfl
            | some x => simp [Addr.add, World.cell?] at h0; split at h0 <;> simp_all
        refine ⟨fun b => b = a.block, ⟨by simp only [ints, List.length_map, hlen, Nat.mul_one], fun _ => ⟨by simp only [ob, oo]; rw [← ha], rfl, fun j v hj => ?_⟩⟩, fun b hb => ?_⟩
        · have hjn : j < n := by
            have := (List.getElem?_eq_some_iff.1 hj).1
            simp only [ints, List.length_map, hlen] at this
            exact this
          rw [intsAt (by omega)] at hj
          have hc2 := hcell j (by omega)
          rw [ha, add_at] at hc2
          simp only [ob, oo]
          rw [hc2, ← hj]
          simp [hjn]
        · subst hb
          have hc2 := hcell 0 (by omega)
          have := World.block_lt_of_cell? W _ hc2
          rwa [block_add] at this
    · rw [hx, bulk_slice]
      have := bulk_len (H := H) (lits .i64 (zs.take n))
      have h2 : (lits (H := H) .i64 (zs.take n)).length = n := by unfold lits; rw [List.length_map]; exact hlen
      omega
theorem rows_any {α : Type} {row : α → List Value} {Q : List Value → Prop} {R : α → Prop} (hQ : ∀ r, Q r → ∃ a, r = row a ∧ R a) : ∀ rows : List (List Value), (∀ r ∈ rows, Q r) → ∃ l : List α, l.length = rows.length ∧ rows.flatten = l.flatMap row ∧ ∀ a ∈ l, R a
  | [], _ => ⟨[], rfl, rfl, fun e he => by cases he⟩
  | r :: rows, h => by
    obtain ⟨l, h1, h2, h3⟩ := rows_any hQ rows (fun r hr => h r (by simp [hr]))
    obtain ⟨a, rfl, h4⟩ := hQ r (h r (by simp))
    refine ⟨a :: l, by simp [h1], by rw [List.flatten_cons, h2]; rfl, fun e he => ?_⟩
    rcases List.mem_cons.1 he with rfl | he
    · exact h4
    · exact h3 e he
end
end Go.Sx
namespace Go.Proofs.YtcapijdokbkgaaaDoor
open Go Go.Sx Go.ChangeShapes Go.WideShapes Go.Deep
open Go.Proofs.YtcapijdokbkgaaaDoor.Rows (uptoBulk uptoBulkAll)
/-! ### What is told -/
/-- Faults that come in. -/
structure PlRead (A : Option Addr) (l : List FtG) (w : World) : Prop where
  rows : Has (sl 5 A l.length (l.flatMap FtG.row)) w
  bits : ∀ f ∈ l, Has (sl 1 f.A f.bits.length (ints .i64 f.bits)) w
  lens : ∀ f ∈ l, f.bits.length ≤ 1048576
theorem PlRead.turn {A : Option Addr} {l : List FtG} {w w' : World} (h : PlRead A l w) (hw : Fr (Old w) w w') : PlRead A l w' := ⟨h.rows.turn hw, fun f hf => (h.bits f hf).turn hw, h.lens⟩
def i64B (n : Int) : Prop := -9223372036854775808 ≤ n ∧ n ≤ 9223372036854775807
structure ToldG where
  kind : Int
  b : Int
  p : Int
  level : Int
  A : Option Addr
  c : Nat
  l : List Nat
  pA : Option Addr
  pc : Nat
  plan : List FtG
def ToldG.row (d : ToldG) : List Value := [.int .i64 d.kind, .int .i64 d.b, .int .i64 d.p, .int .i64 d.level, .slice d.A d.l.length d.c, .slice d.pA d.plan.length d.pc]
theorem toRow_len (d : ToldG) : d.row.length = 6 := rfl
structure ToldIn (d : ToldG) (w : World) : Prop where
  bytes : Has (sl 1 d.A d.l.length (nats .u8 d.l)) w
  lt : ∀ x ∈ d.l, x < 256
  plan : PlRead d.pA d.plan w
  hb : i64B d.b
  hp : i64B d.p
/-- Things that a chip is told, where they lie. -/
structure TellIn (A : Option Addr) (l : List ToldG) (w : World) : Prop where
  rows : Has (sl 6 A l.length (l.flatMap ToldG.row)) w
  each : ∀ d ∈ l, ToldIn d w

structure FtT (P : Program) (t ti ts : TypeId) : Prop where
  ht : ∃ f0 f1 f2 f3 f4 : Field, P.underlying t = some (.struct #[f0, f1, f2, f3, f4]) ∧ (f0.type = ti ∧ f1.type = ti ∧ f2.type = ti ∧ f3.type = ti ∧ f4.type = ts) ∧ f0.offset = 0 ∧ f1.offset = 1 ∧ f2.offset = 2 ∧ f3.offset = 3 ∧ f4.offset = 4
  hi : P.underlying ti = some (.int .i64)
  hs : P.underlying ts = some (.slice ti)
  ci : P.cellsOf ti = 1
  cs : P.cellsOf ts = 1
  ct : P.cellsOf t = 5
structure PcT (P : Program) (t ti : TypeId) : Prop where
  ht : ∃ f0 f1 : Field, P.underlying t = some (.struct #[f0, f1]) ∧ (f0.type = ti ∧ f1.type = ti) ∧ f0.offset = 0 ∧ f1.offset = 1
  hi : P.underlying ti = some (.int .i64)
  ci : P.cellsOf ti = 1
  ct : P.cellsOf t = 2
structure DoT (P : Program) (t ti tp tb t8 tf : TypeId) : Prop where
  ht : ∃ f0 f1 f2 f3 f4 : Field, P.underlying t = some (.struct #[f0, f1, f2, f3, f4]) ∧ (f0.type = ti ∧ f1.type = tp ∧ f2.type = ti ∧ f3.type = tb ∧ f4.type = tf) ∧ f0.offset = 0 ∧ f1.offset = 1 ∧ f2.offset = 3 ∧ f3.offset = 4 ∧ f4.offset = 5
  hi : P.underlying ti = some (.int .i64)
  hb : P.underlying tb = some (.slice t8)
  h8 : P.underlying t8 = some (.int .u8)
  ci : P.cellsOf ti = 1
  cp : P.cellsOf tp = 2
  cb : P.cellsOf tb = 1
  c8 : P.cellsOf t8 = 1
  cf : P.cellsOf tf = 1
  ct : P.cellsOf t = 6
section
variable {H : Type} {enc : TypeId × Value → H} {P : Program} {W : World} {base b0 : Nat} {spare : Nat → Bool} {held : Bool}
theorem list2 {α : Type} {l : List α} (h : l.length = 2) : ∃ a0 a1, l = [a0, a1] := by
  match l, h with
  | [a0, a1], _ => exact ⟨_, _, rfl⟩
theorem list5 {α : Type} {l : List α} (h : l.length = 5) : ∃ a0 a1 a2 a3 a4, l = [a0, a1, a2, a3, a4] := by
  match l, h with
  | [a0, a1, a2, a3, a4], _ => exact ⟨_, _, _, _, _, rfl⟩
theorem list6 {α : Type} {l : List α} (h : l.length = 6) : ∃ a0 a1 a2 a3 a4 a5, l = [a0, a1, a2, a3, a4, a5] := by
  match l, h with
  | [a0, a1, a2, a3, a4, a5], _ => exact ⟨_, _, _, _, _, _, rfl⟩
theorem cells_slice (A : Option Addr) (n c : Nat) : (Value.slice A n c).cells.toList = [.slice A n c] := rfl
theorem i64_w {z : Int} (hw : (Lit.int .i64 z).wf = true) : i64B z := by
  simp only [Lit.wf, Bool.and_eq_true, decide_eq_true_eq] at hw
  have e1 : IntKind.i64.min = -9223372036854775808 := by decide
  have e2 : IntKind.i64.max = 9223372036854775807 := by decide
  unfold i64B
  omega
theorem open_rowF {t ti ts : TypeId} (hT : FtT P t ti ts) {fuel : Nat} {r : List Value} {x : DataW H × List MemPlace} (hf : DataW.trod enc P W base spare held fuel t r = some x) : ∃ f : FtG, r = f.row ∧ Has (sl 1 f.A f.bits.length (ints .i64 f.bits)) W ∧ f.bits.length ≤ uptoBulk x.1 := by
  obtain ⟨f0, f1, f2, f3, f4, ht, ⟨t0, t1, t2, t3, t4⟩, o0, o1, o2, o3, o4⟩ := hT.ht
  obtain ⟨xs, n, _, rfl, hl, hlen, h⟩ := DataW.trod_struct ht hf
  rw [hT.ct] at hl
  obtain ⟨y0, y1, y2, y3, y4, rfl⟩ := list5 (show xs.length = 5 from hlen)
  obtain ⟨v0, v1, v2, v3, v4, rfl⟩ := list5 hl
  have k0 := h 0 f0 rfl
  have k1 := h 1 f1 rfl
  have k2 := h 2 f2 rfl
  have k3 := h 3 f3 rfl
  have k4 := h 4 f4 rfl
  rw [t0, o0, hT.ci] at k0
  rw [t1, o1, hT.ci] at k1
  rw [t2, o2, hT.ci] at k2
  rw [t3, o3, hT.ci] at k3
  rw [t4, o4, hT.cs] at k4
  obtain ⟨z0, g0, _, _⟩ := DataW.trod_int hT.hi (show DataW.trod enc P W base spare held n ti [v0] = some y0 from k0)
  obtain ⟨z1, g1, _, _⟩ := DataW.trod_int hT.hi (show DataW.trod enc P W base spare held n ti [v1] = some y1 from k1)
  obtain ⟨z2, g2, _, _⟩ := DataW.trod_int hT.hi (show DataW.trod enc P W base spare held n ti [v2] = some y2 from k2)
  obtain ⟨z3, g3, _, _⟩ := DataW.trod_int hT.hi (show DataW.trod enc P W base spare held n ti [v3] = some y3 from k3)
  obtain ⟨A, q, c, p, rfl, e1, e2, e3, e4, e5⟩ := open_rowI hT.hs hT.hi hT.ci (show DataW.trod enc P W base spare held n ts [v4] = some y4 from k4)
  simp only [List.cons.injEq, and_true] at g0 g1 g2 g3
  subst g0 g1 g2 g3 e3
  refine ⟨⟨z0, z1, z2, z3, A, c, p⟩, rfl, e4, ?_⟩
  rw [bulk_agg]
  have := bulk_mem (d := y4.1) (l := [y0, y1, y2, y3, y4].map (·.1)) (by simp)
  exact Nat.le_succ_of_le (Nat.le_trans e5 this)
/-- Faults inside of a value. -/
theorem open_rowPl {t te ti ts : TypeId} (ht : P.underlying t = some (.slice te)) (hT : FtT P te ti ts) {fuel : Nat} {v : Value} {x : DataW H × List MemPlace} (hf : DataW.trod enc P W base spare held fuel t [v] = some x) (hx : uptoBulk x.1 ≤ 1048576) : ∃ A c l, v = .slice A l.length c ∧ l.length ≤ c ∧ PlRead A l W := by
  obtain ⟨A, n, c, rows, rfl, k1, k2, k3, k4, _, k5⟩ := open_rowS ht hT.ct (by decide) hf
  obtain ⟨l, j1, j2, j3⟩ := rows_any (row := FtG.row) (Q := fun r => r.length = 5 ∧ ∃ m y, DataW.trod enc P W base spare held m te r = some y ∧ uptoBulk y.1 ≤ uptoBulk x.1) (R := fun f => Has (sl 1 f.A f.bits.length (ints .i64 f.bits)) W ∧ f.bits.length ≤ 1048576) (fun r ⟨_, m, y, hr, hy⟩ => by
    obtain ⟨f, q1, q2, q3⟩ := open_rowF hT hr
    exact ⟨f, q1, q2, by omega⟩) rows k4
  obtain rfl : l.length = n := j1.trans k3
  exact ⟨A, c, l, rfl, k1, j2 ▸ k5, fun f hf => (j3 f hf).1, fun f hf => (j3 f hf).2⟩
theorem open_rowP {t ti : TypeId} (hT : PcT P t ti) {fuel : Nat} {r : List Value} {x : DataW H × List MemPlace} (hf : DataW.trod enc P W base spare held fuel t r = some x) : ∃ b p, r = [.int .i64 b, .int .i64 p] ∧ i64B b ∧ i64B p := by
  obtain ⟨f0, f1, ht, ⟨t0, t1⟩, o0, o1⟩ := hT.ht
  obtain ⟨xs, n, _, rfl, hl, hlen, h⟩ := DataW.trod_struct ht hf
  rw [hT.ct] at hl
  obtain ⟨y0, y1, rfl⟩ := list2 (show xs.length = 2 from hlen)
  obtain ⟨v0, v1, rfl⟩ := list2 hl
  have k0 := h 0 f0 rfl
  have k1 := h 1 f1 rfl
  rw [t0, o0, hT.ci] at k0
  rw [t1, o1, hT.ci] at k1
  obtain ⟨z0, g0, _, w0⟩ := DataW.trod_int hT.hi (show DataW.trod enc P W base spare held n ti [v0] = some y0 from k0)
  obtain ⟨z1, g1, _, w1⟩ := DataW.trod_int hT.hi (show DataW.trod enc P W base spare held n ti [v1] = some y1 from k1)
  simp only [List.cons.injEq, and_true] at g0 g1
  subst g0 g1
  exact ⟨z0, z1, rfl, i64_w w0, i64_w w1⟩
theorem open_rowT {t ti tp tb t8 tf te ts : TypeId} (hT : DoT P t ti tp tb t8 tf) (hP : PcT P tp ti) (hS : P.underlying tf = some (.slice te)) (hF : FtT P te ti ts) {fuel : Nat} {r : List Value} {x : DataW H × List MemPlace} (hf : DataW.trod enc P W base spare held fuel t r = some x) (hx : uptoBulk x.1 ≤ 1048576) : ∃ d : ToldG, r = d.row ∧ ToldIn d W := by
  obtain ⟨f0, f1, f2, f3, f4, ht, ⟨t0, t1, t2, t3, t4⟩, o0, o1, o2, o3, o4⟩ := hT.ht
  obtain ⟨xs, n, _, rfl, hl, hlen, h⟩ := DataW.trod_struct ht hf
  rw [hT.ct] at hl
  obtain ⟨y0, y1, y2, y3, y4, rfl⟩ := list5 (show xs.length = 5 from hlen)
  obtain ⟨v0, v1, v2, v3, v4, v5, rfl⟩ := list6 hl
  have k0 := h 0 f0 rfl
  have k1 := h 1 f1 rfl
  have k2 := h 2 f2 rfl
  have k3 := h 3 f3 rfl
  have k4 := h 4 f4 rfl
  rw [t0, o0, hT.ci] at k0
  rw [t1, o1, hT.cp] at k1
  rw [t2, o2, hT.ci] at k2
  rw [t3, o3, hT.cb] at k3
  rw [t4, o4, hT.cf] at k4
  obtain ⟨z0, g0, _, _⟩ := DataW.trod_int hT.hi (show DataW.trod enc P W base spare held n ti [v0] = some y0 from k0)
  obtain ⟨b, p, g1, hb, hp⟩ := open_rowP hP (show DataW.trod enc P W base spare held n tp [v1, v2] = some y1 from k1)
  obtain ⟨z3, g3, _, _⟩ := DataW.trod_int hT.hi (show DataW.trod enc P W base spare held n ti [v3] = some y2 from k2)
  obtain ⟨A, q, c, l, rfl, e1, e2, e3, e4, e5⟩ := open_rowB hT.hb hT.h8 hT.c8 (show DataW.trod enc P W base spare held n tb [v4] = some y3 from k3)
  rw [bulk_agg] at hx
  have hm := bulk_mem (d := y4.1) (l := [y0, y1, y2, y3, y4].map (·.1)) (by simp)
  obtain ⟨pA, pc, pl, rfl, _, hpl⟩ := open_rowPl hS hF (show DataW.trod enc P W base spare held n tf [v5] = some y4 from k4) (by omega)
  simp only [List.cons.injEq, and_true] at g0 g1 g3
  obtain ⟨rfl, rfl⟩ := g1
  subst g0 g3 e3
  exact ⟨⟨z0, b, p, z3, A, c, l, pA, pc, pl⟩, rfl, e4, e5, hpl, hb, hp⟩
/-- Things that come in. -/
theorem open_tell {tt t ti tp tb t8 tf te ts : TypeId} (htt : P.underlying tt = some (.slice t)) (hT : DoT P t ti tp tb t8 tf) (hP : PcT P tp ti) (hS : P.underlying tf = some (.slice te)) (hF : FtT P te ti ts) {v : Value} {d : DataW H} {ps : List MemPlace} (hval : Value.okWide P W .any b0 tt v) (hd : DataW.Trod enc P W base spare held tt v d ps) (hx : uptoBulk d ≤ 1048576) : ∃ A c l, v = .slice A l.length c ∧ l.length ≤ c ∧ TellIn A l W := by
  obtain ⟨A, n, c, rfl⟩ := okWide_slice htt hval
  obtain ⟨fuel, hf⟩ := hd
  rw [cells_slice] at hf
  obtain ⟨A, n, c, rows, e, k1, k2, k3, k4, _, k5⟩ := open_rowS htt hT.ct (by decide) hf
  obtain ⟨rfl, rfl, rfl⟩ := Value.slice.inj e
  obtain ⟨l, j1, j2, j3⟩ := rows_any (row := ToldG.row) (Q := fun r => r.length = 6 ∧ ∃ m y, DataW.trod enc P W base spare held m t r = some y ∧ uptoBulk y.1 ≤ uptoBulk d) (R := fun d => ToldIn d W) (fun r ⟨_, m, y, hr, hy⟩ => open_rowT hT hP hS hF hr (Nat.le_trans hy hx)) rows k4
  obtain rfl : l.length = n := j1.trans k3
  exact ⟨A, c, l, rfl, k1, j2 ▸ k5, j3⟩
/-- Faults that come in. -/
theorem open_plan {t te ti ts : TypeId} (ht : P.underlying t = some (.slice te)) (hT : FtT P te ti ts) {v : Value} {d : DataW H} {ps : List MemPlace} (hval : Value.okWide P W .any b0 t v) (hd : DataW.Trod enc P W base spare held t v d ps) (hx : uptoBulk d ≤ 1048576) : ∃ A c l, v = .slice A l.length c ∧ l.length ≤ c ∧ PlRead A l W := by
  obtain ⟨A, n, c, rfl⟩ := okWide_slice ht hval
  obtain ⟨fuel, hf⟩ := hd
  rw [cells_slice] at hf
  exact open_rowPl ht hT hf hx
end
theorem ftT : FtT Tryd.prog 48 3 37 := ⟨⟨_, _, _, _, _, Tryd.underlying48, ⟨rfl, rfl, rfl, rfl, rfl⟩, rfl, rfl, rfl, rfl, rfl⟩, Tryd.underlying3, Tryd.underlying37, by kernel_rfl, by kernel_rfl, by kernel_rfl⟩
theorem pcT : PcT Tryd.prog 31 3 := ⟨⟨_, _, Tryd.underlying31, ⟨rfl, rfl⟩, rfl, rfl⟩, Tryd.underlying3, by kernel_rfl, by kernel_rfl⟩
theorem doT : DoT Tryd.prog 40 3 31 22 5 38 := ⟨⟨_, _, _, _, _, Tryd.underlying40, ⟨rfl, rfl, rfl, rfl, rfl⟩, rfl, rfl, rfl, rfl, rfl⟩, Tryd.underlying3, Tryd.underlying22, Tryd.underlying5, by kernel_rfl, by kernel_rfl, by kernel_rfl, by kernel_rfl, by kernel_rfl, by kernel_rfl⟩
end Go.Proofs.YtcapijdokbkgaaaDoor
end
section
/- Whether faults, and things that a chip is told, are few. Conditions: they are read where they lie. -/
namespace Go.Proofs.YtcapijdokbkgaaaDoor
open Go Go.Sx Go.Fm
set_option maxRecDepth 100000
def sumB (l : List FtG) : Nat := (l.map (fun f => f.bits.length)).sum
def lightB (l : List FtG) : Bool := decide (l.length ≤ 60) && decide (sumB l ≤ 600)
def tellB (d : ToldG) : Bool := decide (d.l.length ≤ 300) && lightB d.plan
def allB (l : List ToldG) : Bool := decide (l.length ≤ 60) && l.all tellB
theorem sumB_le {l : List FtG} {B : Nat} (h : ∀ f ∈ l, f.bits.length ≤ B) : sumB l ≤ l.length * B := by
  induction l with
  | nil => exact Nat.zero_le _
  | cons f l ih =>
    have h1 := h f (by simp)
    have h2 := ih (fun f hf => h f (by simp [hf]))
    unfold sumB at h2 ⊢
    rw [List.map_cons, List.sum_cons, List.length_cons, Nat.succ_mul]
    omega
theorem sumB_mem {l : List FtG} {f : FtG} (h : f ∈ l) : f.bits.length ≤ sumB l := by
  induction l with
  | nil => cases h
  | cons g l ih =>
    unfold sumB at ih ⊢
    rw [List.map_cons, List.sum_cons]
    rcases List.mem_cons.1 h with rfl | h
    · omega
    · have := ih h
      omega
theorem sumB_take {l : List FtG} {i : Nat} (h : i < l.length) : sumB (l.take (i + 1)) = sumB (l.take i) + (gF l i).bits.length := by
  unfold sumB
  rw [List.take_add_one, gF_at h, Option.toList_some, List.map_append, List.sum_append]
  rfl
theorem light_pl {A : Option Addr} {l : List FtG} {w : World} (h : PlRead A l w) (hl : lightB l = true) : PlIn A l w ∧ l.length ≤ 60 := by
  unfold lightB at hl
  rw [Bool.and_eq_true, decide_eq_true_iff, decide_eq_true_iff] at hl
  exact ⟨⟨h.rows, h.bits, fun f hf => by have := sumB_mem hf; omega⟩, hl.1⟩
def gT (l : List ToldG) (i : Nat) : ToldG := l.getD i ⟨0, 0, 0, 0, none, 0, [], none, 0, []⟩
theorem gT_at {l : List ToldG} {i : Nat} (h : i < l.length) : l[i]? = some (gT l i) := by
  unfold gT
  rw [List.getD_eq_getElem?_getD, List.getElem?_eq_getElem h, Option.getD_some]
theorem gT_mem {l : List ToldG} {i : Nat} (h : i < l.length) : gT l i ∈ l := List.mem_of_getElem? (gT_at h)
theorem all_take {l : List ToldG} {i : Nat} (h : i < l.length) : (l.take (i + 1)).all tellB = ((l.take i).all tellB && tellB (gT l i)) := by
  rw [List.take_add_one, gT_at h, Option.toList_some, List.all_append]
  simp only [List.all_cons, List.all_nil, Bool.and_true]
theorem all_no {l : List ToldG} {i : Nat} (h : i < l.length) (hf : tellB (gT l i) = false) : allB l = false := by
  unfold allB
  rw [show l.all tellB = false from List.all_eq_false.2 ⟨_, gT_mem h, by rw [hf]; decide⟩, Bool.and_false]
theorem all_in {l : List ToldG} (h : allB l = true) : l.length ≤ 60 ∧ ∀ d ∈ l, tellB d = true := by
  unfold allB at h
  rw [Bool.and_eq_true, decide_eq_true_iff] at h
  exact ⟨h.1, List.all_eq_true.1 h.2⟩
theorem tell_in {d : ToldG} {w : World} (hd : ToldIn d w) (h : tellB d = true) : d.l.length ≤ 300 ∧ PlIn d.pA d.plan w ∧ d.plan.length ≤ 60 := by
  unfold tellB at h
  rw [Bool.and_eq_true, decide_eq_true_iff] at h
  exact ⟨h.1, light_pl hd.plan h.2⟩

theorem light_spec (A : Option Addr) (c : Nat) (l : List FtG) (w : World) (hp : PlRead A l w) : Spec1 Tryd.prog 25 [.slice A l.length c] w (.bool (lightB l)) := by
  refine spec_of Tryd.func25 rfl Tryd.ntmps25 rfl ?_
  refine CW.seq ?_
  refine CW.reg [0] rfl ?_
  refine s_as 2 rfl rfl ?_
  refine SX.next ?_
  refine CW.seq ?_
  refine CW.reg [0] rfl ?_
  refine s_as 3 rfl rfl ?_
  refine SX.next ?_
  refine CW.seq ?_
  refine CW.seq ?_
  refine CW.reg [0] rfl ?_
  refine s_as 4 rfl rfl ?_
  refine SX.next ?_
  refine CW.block ?_
  refine CW.loop (G := Nat) (fun i => [(0, .slice A l.length c), (3, .int .i64 (sumB (l.take i) : Nat)), (4, .int .i64 (i : Nat))]) (fun _ => Sto w []) (fun i => i ≤ l.length ∧ i ≤ 61) (fun i => l.length - i) 0 ⟨rfl, rfl, rfl, trivial⟩ (fun _ h => h) ⟨Nat.zero_le _, Nat.zero_le _⟩ ?_
  rintro i ⟨hi, hi2⟩
  refine CW.seq ?_
  refine CW.seq ?_
  refine CW.reg [0, 1, 2, 3, 4, 5, 6, 7] rfl ?_
  refine s_mv 5 rfl rfl ?_
  refine s_mv 6 rfl rfl ?_
  refine s_len 7 rfl rfl ?_
  refine s_lt 8 rfl rfl rfl rfl ?_
  refine s_mv 9 rfl rfl ?_
  refine SX.bool 9 rfl (fun hb => ?_) (fun hb => ?_)
  · skip
    have h1 := of_decide_eq_true hb
    refine s_mv 10 rfl rfl ?_
    refine s_le 11 rfl rfl rfl rfl ?_
    refine s_pickT 12 rfl rfl rfl ?_
    refine SX.next ?_
    refine CW.test rfl (fun h2 => ?_) (fun h2 => ?_)
    · skip
      have hil : i < l.length := by omega
      have hg := gF_at hil
      have hnx := sumB_take hil
      have hb1 : sumB (l.take (i + 1)) ≤ (l.take (i + 1)).length * 1048576 := sumB_le (fun f hf => hp.lens f (List.mem_of_mem_take hf))
      have hb2 : (l.take (i + 1)).length ≤ 61 := by rw [List.length_take]; omega
      refine CW.skip ?_
      refine KN.code ?_
      refine CW.seq ?_
      refine CW.block ?_
      refine CW.reg [0, 1, 2, 3, 4, 5, 6, 7, 8] rfl ?_
      refine s_mv 15 rfl rfl ?_
      refine s_mv 16 rfl rfl ?_
      refine s_mv 17 rfl rfl ?_
      refine s_iaV 18 i (fun w hw => hw.old hp.rows) rfl rfl rfl rfl hil ?_
      refine s_fa 19 rfl rfl ?_
      refine s_ld 20 rfl rfl (v := .slice (gF l i).A (gF l i).bits.length (gF l i).c) (fun _ hw => (hw.old hp.rows).rowAt ftRow_len hg (by omega) 4 _ rfl) ?_
      refine s_len 21 rfl rfl ?_
      refine s_add 22 rfl rfl rfl (r := ((sumB (l.take (i + 1)) : Nat) : Int)) (by
        rw [hnx, Int.natCast_add]
        exact w64 (by omega)) ?_
      refine s_as 3 rfl rfl ?_
      refine SX.end_ ?_
      refine KN.blk ?_
      refine KN.code ?_
      refine CW.reg [0, 1, 2] rfl ?_
      refine s_mv 13 rfl rfl ?_
      refine s_add 14 rfl rfl rfl (r := ((i + 1 : Nat) : Int)) (w64 (by omega)) ?_
      refine s_as 4 rfl rfl ?_
      refine SX.end_ ?_
      exact KN.back (i + 1) ⟨rfl, rfl, rfl, trivial⟩ (fun _ h => h) (by omega) (by omega)
    · skip
      have hz : lightB l = false := by
        unfold lightB
        rw [decide_eq_false (show ¬ l.length ≤ 60 by omega), Bool.false_and]
      refine CW.exit rfl ?_
      refine KN.code ?_
      refine CW.seq ?_
      refine CW.reg [0, 1, 2, 3, 4, 5, 6, 7] rfl ?_
      refine s_mv 23 rfl rfl ?_
      refine s_len 24 rfl rfl ?_
      refine s_le 25 rfl rfl rfl rfl ?_
      refine s_mv 26 rfl rfl ?_
      refine SX.bool 26 rfl (fun hb => ?_) (fun hb => ?_)
      · skip
        have h3 := of_decide_eq_true hb
        refine s_mv 27 rfl rfl ?_
        refine s_le 28 rfl rfl rfl rfl ?_
        refine s_pickT 29 rfl rfl rfl ?_
        refine s_as 2 rfl rfl ?_
        refine SX.next ?_
        refine CW.ret ?_
        exact KN.ret (rs := [.tmp 2]) Tryd.results25 rfl (fun w hw => ⟨by omega, hw.nothing⟩)
      · skip
        have h3 := of_decide_eq_false hb
        refine SX.skip rfl ?_
        refine SX.skip rfl ?_
        refine s_pickF 29 rfl rfl rfl ?_
        refine s_as 2 rfl rfl ?_
        refine SX.next ?_
        refine CW.ret ?_
        exact KN.ret (rs := [.tmp 2]) Tryd.results25 rfl (fun w hw => ⟨by rw [hz]; rfl, hw.nothing⟩)
  · skip
    have h1 := of_decide_eq_false hb
    obtain rfl : i = l.length := by omega
    refine SX.skip rfl ?_
    refine SX.skip rfl ?_
    refine s_pickF 12 rfl rfl rfl ?_
    refine SX.next ?_
    refine CW.condF rfl ?_
    refine CW.exit rfl ?_
    refine KN.code ?_
    refine CW.seq ?_
    refine CW.reg [0, 1, 2, 3, 4, 5, 6, 7] rfl ?_
    refine s_mv 23 rfl rfl ?_
    refine s_len 24 rfl rfl ?_
    refine s_le 25 rfl rfl rfl rfl ?_
    refine s_mv 26 rfl rfl ?_
    refine SX.bool 26 rfl (fun hb => ?_) (fun hb => ?_)
    · skip
      have h3 := of_decide_eq_true hb
      refine s_mv 27 rfl rfl ?_
      refine s_le 28 rfl rfl rfl rfl ?_
      refine s_pickT 29 rfl rfl rfl ?_
      refine s_as 2 rfl rfl ?_
      refine SX.next ?_
      refine CW.ret ?_
      exact KN.ret (rs := [.tmp 2]) Tryd.results25 rfl (fun w hw => ⟨by unfold lightB; rw [List.take_length, decide_eq_true (show l.length ≤ 60 by omega), Bool.true_and, ← decide_eq_decide.2 (show ((sumB l : Nat) : Int) ≤ 600 ↔ sumB l ≤ 600 by omega)]; rfl, hw.nothing⟩)
    · skip
      have h3 := of_decide_eq_false hb
      refine SX.skip rfl ?_
      refine SX.skip rfl ?_
      refine s_pickF 29 rfl rfl rfl ?_
      refine s_as 2 rfl rfl ?_
      refine SX.next ?_
      refine CW.ret ?_
      exact KN.ret (rs := [.tmp 2]) Tryd.results25 rfl (fun w hw => ⟨by unfold lightB; rw [decide_eq_false (show ¬ l.length ≤ 60 by omega)]; rfl, hw.nothing⟩)

theorem all14_spec (A : Option Addr) (c : Nat) (l : List ToldG) (w : World) (hl : TellIn A l w) : Spec1 Tryd.prog 17 [.slice A l.length c] w (.bool (allB l)) := by
  refine spec_of Tryd.func17 rfl Tryd.ntmps17 rfl ?_
  refine CW.seq ?_
  refine CW.reg [0] rfl ?_
  refine s_as 2 rfl rfl ?_
  refine SX.next ?_
  refine CW.seq ?_
  refine CW.seq ?_
  refine CW.reg [0, 1, 2] rfl ?_
  refine s_mv 4 rfl rfl ?_
  refine s_len 5 rfl rfl ?_
  refine s_gt 6 rfl rfl rfl rfl ?_
  refine SX.next ?_
  refine CW.test rfl (fun hc => ?_) (fun hc => ?_)
  · skip
    have hz : allB l = false := by
      unfold allB
      rw [decide_eq_false (show ¬ l.length ≤ 60 by omega), Bool.false_and]
    refine CW.seq ?_
    refine CW.reg [0] rfl ?_
    refine s_as 2 rfl rfl ?_
    refine SX.next ?_
    refine CW.ret ?_
    exact KN.ret (rs := [.tmp 2]) Tryd.results17 rfl (fun w hw => ⟨by rw [hz]; rfl, hw.nothing⟩)
  · skip
    have h60 : l.length ≤ 60 := by omega
    refine CW.skip ?_
    refine KN.code ?_
    refine CW.seq ?_
    refine CW.seq ?_
    refine CW.reg [0] rfl ?_
    refine s_as 3 rfl rfl ?_
    refine SX.next ?_
    refine CW.block ?_
    refine CW.loop (G := Nat) (fun i => [(0, .slice A l.length c), (3, .int .i64 (i : Nat))]) (fun _ => Sto w []) (fun i => i ≤ l.length ∧ (l.take i).all tellB = true) (fun i => l.length - i) 0 ⟨rfl, rfl, trivial⟩ (fun _ h => h) ⟨Nat.zero_le _, rfl⟩ ?_
    rintro i ⟨hi, hal⟩
    refine CW.seq ?_
    refine CW.seq ?_
    refine CW.reg [0, 1, 2, 3] rfl ?_
    refine s_mv 7 rfl rfl ?_
    refine s_mv 8 rfl rfl ?_
    refine s_len 9 rfl rfl ?_
    refine s_lt 10 rfl rfl rfl rfl ?_
    refine SX.next ?_
    refine CW.test rfl (fun hc => ?_) (fun hc => ?_)
    · skip
      have hil : i < l.length := by omega
      have hg := gT_at hil
      have hm := gT_mem hil
      have hnx := all_take hil
      refine CW.skip ?_
      refine KN.code ?_
      refine CW.seq ?_
      refine CW.block ?_
      refine CW.seq ?_
      refine CW.reg [0, 1, 2, 3, 4, 5, 6, 7, 8, 9, 10, 11, 12, 13, 14, 15] rfl ?_
      refine s_mv 13 rfl rfl ?_
      refine s_mv 14 rfl rfl ?_
      refine s_iaV 15 i (fun w hw => hw.old hl.rows) rfl rfl rfl rfl hil ?_
      refine s_fa 16 rfl rfl ?_
      refine s_ld 17 rfl rfl (v := .slice (gT l i).A (gT l i).l.length (gT l i).c) (fun _ hw => (hw.old hl.rows).rowAt toRow_len hg (by omega) 4 _ rfl) ?_
      refine s_len 18 rfl rfl ?_
      refine s_gt 19 rfl rfl rfl rfl ?_
      refine s_mv 20 rfl rfl ?_
      refine SX.bool 20 rfl (fun hb => ?_) (fun hb => ?_)
      · skip
        have h1 := of_decide_eq_true hb
        have hz : allB l = false := all_no hil (by
          unfold tellB
          rw [decide_eq_false (show ¬ (gT l i).l.length ≤ 300 by omega), Bool.false_and])
        refine SX.skip rfl ?_
        refine SX.skip rfl ?_
        refine SX.skip rfl ?_
        refine SX.skip rfl ?_
        refine SX.skip rfl ?_
        refine SX.skip rfl ?_
        refine SX.skip rfl ?_
        refine s_pickT 28 rfl rfl rfl ?_
        refine SX.next ?_
        refine CW.condT rfl ?_
        refine CW.seq ?_
        refine CW.reg [0] rfl ?_
        refine s_as 2 rfl rfl ?_
        refine SX.next ?_
        refine CW.ret ?_
        exact KN.ret (rs := [.tmp 2]) Tryd.results17 rfl (fun w hw => ⟨by rw [hz]; rfl, hw.nothing⟩)
      · skip
        have h1 := of_decide_eq_false hb
        have htl : tellB (gT l i) = lightB (gT l i).plan := by
          unfold tellB
          rw [decide_eq_true (show (gT l i).l.length ≤ 300 by omega), Bool.true_and]
        refine s_mv 21 rfl rfl ?_
        refine s_mv 22 rfl rfl ?_
        refine s_iaV 23 i (fun w hw => hw.old hl.rows) rfl rfl rfl rfl hil ?_
        refine s_fa 24 rfl rfl ?_
        refine s_ld 25 rfl rfl (v := .slice (gT l i).pA (gT l i).plan.length (gT l i).pc) (fun _ hw => (hw.old hl.rows).rowAt toRow_len hg (by omega) 5 _ rfl) ?_
        refine s_call1 26 rfl rfl rfl rfl (fun w hw => light_spec (gT l i).pA (gT l i).pc (gT l i).plan w ((hl.each _ hm).plan.turn hw.fr)) (fun _ _ => trivial) ?_
        refine s_not 27 rfl rfl ?_
        refine s_pickF 28 rfl rfl rfl ?_
        refine SX.next ?_
        refine CW.cond rfl (fun h2 => ?_) (fun h2 => ?_)
        · skip
          have hz : allB l = false := all_no hil (by rw [htl]; simpa using h2)
          refine CW.seq ?_
          refine CW.reg [0] rfl ?_
          refine s_as 2 rfl rfl ?_
          refine SX.next ?_
          refine CW.ret ?_
          exact KN.ret (rs := [.tmp 2]) Tryd.results17 rfl (fun w hw => ⟨by rw [hz]; rfl, hw.nothing⟩)
        · skip
          have h3 : tellB (gT l i) = true := by rw [htl]; simpa using h2
          refine CW.skip ?_
          refine KN.blk ?_
          refine KN.code ?_
          refine CW.reg [0, 1, 2] rfl ?_
          refine s_mv 11 rfl rfl ?_
          refine s_add 12 rfl rfl rfl (r := ((i + 1 : Nat) : Int)) (w64 (by omega)) ?_
          refine s_as 3 rfl rfl ?_
          refine SX.end_ ?_
          exact KN.back (i + 1) ⟨rfl, rfl, trivial⟩ (fun _ h => h) ⟨by omega, by rw [hnx, hal, h3]; rfl⟩ (by omega)
    · skip
      obtain rfl : i = l.length := by omega
      rw [List.take_length] at hal
      refine CW.exit rfl ?_
      refine KN.code ?_
      refine CW.seq ?_
      refine CW.reg [0] rfl ?_
      refine s_as 2 rfl rfl ?_
      refine SX.next ?_
      refine CW.ret ?_
      exact KN.ret (rs := [.tmp 2]) Tryd.results17 rfl (fun w hw => ⟨by unfold allB; rw [hal, decide_eq_true h60]; rfl, hw.nothing⟩)
end Go.Proofs.YtcapijdokbkgaaaDoor
end
section
/- What a chip that is told things does: plain. No condition. -/
namespace Go.Proofs.YtcapijdokbkgaaaDoor
open Go Go.Sx
set_option maxRecDepth 100000
theorem ToldIn.turn {d : ToldG} {w w' : World} (h : ToldIn d w) (hw : Fr (Old w) w w') : ToldIn d w' := ⟨h.bytes.turn hw, h.lt, h.plan.turn hw, h.hb, h.hp⟩
/-- A thing that a chip is told. -/
def stepS (d : ToldG) (s : ChS) : ChS :=
  if d.kind = 1 then (s.rd d.b d.p d.level).2.2 else if d.kind = 2 then (s.pr d.b d.p d.l).2 else if d.kind = 3 then (s.er d.b).2 else { s with off := false }
theorem step_ok {s : ChS} (h : s.Ok) {d : ToldG} (h8 : ∀ x ∈ d.l, x < 256) : (stepS d s).Ok := by
  unfold stepS
  split
  · exact rd_okp h _ _ _
  · split
    · exact pr_okp h _ _ h8
    · split
      · exact er_okp h _
      · exact off_okp h _
/-- As large as it was. -/
structure ChS.As (s t : ChS) : Prop where
  p : t.pages = s.pages
  z : t.size = s.size
  v : t.levels = s.levels
  b : t.blocks.length = s.blocks.length
theorem ChS.As.refl (s : ChS) : s.As s := ⟨rfl, rfl, rfl, rfl⟩
theorem rd_as (s : ChS) (b p v : Int) : s.As (s.rd b p v).2.2 ∧ (s.rd b p v).2.2.blocks = s.blocks := by
  unfold ChS.rd
  split
  · exact ⟨.refl s, rfl⟩
  · split
    · exact ⟨⟨rfl, rfl, rfl, rfl⟩, rfl⟩
    · exact ⟨⟨rfl, rfl, rfl, rfl⟩, rfl⟩
theorem pr_as (s : ChS) (b p : Int) (l : List Nat) : s.As (s.pr b p l).2 := by
  unfold ChS.pr
  split
  · exact .refl s
  · exact ⟨rfl, rfl, rfl, by show (List.set _ _ _).length = _; rw [List.length_set]; rfl⟩
theorem er_as (s : ChS) (b : Int) : s.As (s.er b).2 := by
  unfold ChS.er
  split
  · exact .refl s
  · exact ⟨rfl, rfl, rfl, by show (List.set _ _ _).length = _; rw [List.length_set]⟩
theorem step_as (d : ToldG) (s : ChS) : s.As (stepS d s) := by
  unfold stepS
  split
  · exact (rd_as s _ _ _).1
  · split
    · exact pr_as s _ _ _
    · split
      · exact er_as s _
      · exact ⟨rfl, rfl, rfl, rfl⟩
theorem As.inn {s t : ChS} (h : s.As t) (b p : Int) : t.inn b p = s.inn b p := by
  unfold ChS.inn ChS.has
  rw [h.p, h.b]
theorem pg_blocks {s t : ChS} (h : t.blocks = s.blocks) (b p : Int) : t.pg b p = s.pg b p := by
  unfold ChS.pg ChS.bk
  rw [h]
/-- The chip that ChipFalls looks at. -/
structure Is334 (s : ChS) : Prop where
  ok : s.Ok
  p : s.pages = 3
  z : s.size = 4
  b : s.blocks.length = 3
theorem Is334.step {s : ChS} (h : Is334 s) {d : ToldG} (h8 : ∀ x ∈ d.l, x < 256) : Is334 (stepS d s) := by
  have h1 := step_as d s
  exact ⟨step_ok h.ok h8, h1.p.trans h.p, h1.z.trans h.z, h1.b.trans h.b⟩
theorem Is334.inn {s : ChS} (h : Is334 s) {b p : Nat} (hb : b < 3) (hp : p < 3) : s.inn (b : Nat) (p : Nat) = true := by
  unfold ChS.inn ChS.has
  rw [h.p, h.b, decide_eq_true (by omega), decide_eq_true (by omega)]
  rfl
theorem Is334.len {s : ChS} (h : Is334 s) {b p : Nat} (hb : b < 3) (hp : p < 3) : (s.pg (b : Nat) (p : Nat)).cells.length = 4 ∧ ∀ x ∈ (s.pg (b : Nat) (p : Nat)).cells, x < 256 := by
  obtain ⟨h1, h2, _⟩ := page_ok h.ok (h.inn hb hp)
  rw [h.z] at h1
  exact ⟨by omega, h2⟩
theorem Is334.cells {s : ChS} (h : Is334 s) {b p : Nat} (hb : b < 3) (hp : p < 3) : (if s.inn (b : Nat) (p : Nat) = true then (s.pg (b : Nat) (p : Nat)).cells else []) = (s.pg (b : Nat) (p : Nat)).cells := if_pos (h.inn hb hp)
end Go.Proofs.YtcapijdokbkgaaaDoor
end
section
/- The document's chip: where it lies. No condition. -/
namespace Go.Proofs.YtcapijdokbkgaaaDoor
open Go Go.Sx
set_option maxRecDepth 100000
structure DpG where
  A : Option Addr
  c : Nat
  l : List Nat
  used : Bool
  B : Option Addr
  d : Nat
  laid : List Nat
def DpG.row (p : DpG) : List Value := [.slice p.A p.l.length p.c, .bool p.used, .slice p.B p.laid.length p.d]
def DpG.own1 (p : DpG) : Atom := own 5 1 p.A p.l.length p.c (nats .u8 p.l)
def DpG.own2 (p : DpG) : Atom := own 5 1 p.B p.laid.length p.d (nats .u8 p.laid)
def DpG.dat (p : DpG) : Atom := starA [p.own1, p.own2]
def DpG.abs (p : DpG) : PgS := ⟨p.l, p.laid, p.used⟩
structure DbG where
  A : Option Addr
  c : Nat
  pages : List DpG
  worn : Int
  marked : Bool
def DbG.hdr (b : DbG) : Value := .slice b.A b.pages.length b.c
def DbG.rows (b : DbG) : Atom := own 67 3 b.A b.pages.length b.c (b.pages.flatMap DpG.row)
def DbG.dat (b : DbG) : Atom := starA [b.rows, starA (b.pages.map DpG.dat)]
def DbG.abs (b : DbG) : BkS := ⟨b.pages.map DpG.abs, b.worn, b.marked⟩
structure DcG where
  pages : Int
  size : Int
  levels : Int
  A : Option Addr
  c : Nat
  blocks : List DbG
  mA : Option Addr
  mc : Nat
  wA : Option Addr
  wc : Nat
  pA : Option Addr
  pc : Nat
  plan : List FtG
  ops : Int
  off : Bool
  broken : Int
def DcG.abs (x : DcG) : ChS := ⟨x.pages, x.size, x.levels, x.blocks.map DbG.abs, x.plan.map FtG.abs, x.ops, x.broken, x.off⟩
def DcG.cells (x : DcG) : Array Value := #[.int .i64 (x.blocks.length : Nat), .int .i64 x.pages, .int .i64 x.size, .int .i64 x.levels, .slice x.A x.blocks.length x.c, .slice x.mA x.blocks.length x.mc, .slice x.wA x.blocks.length x.wc, .slice x.pA x.plan.length x.pc, .int .i64 x.ops, .bool x.off, .int .i64 x.broken]
def DcG.hd (g : Nat) (x : DcG) : Atom := blk g 72 x.cells
def DcG.hds (x : DcG) : Atom := own 68 1 x.A x.blocks.length x.c (x.blocks.map DbG.hdr)
def DcG.bst (x : DcG) : Atom := starA (x.blocks.map DbG.dat)
def mkV (b : DbG) : Value := .bool b.marked
def wnV (b : DbG) : Value := .int .i64 b.worn
def DcG.mks (x : DcG) : Atom := own 4 1 x.mA x.blocks.length x.mc (x.blocks.map mkV)
def DcG.wns (x : DcG) : Atom := own 3 1 x.wA x.blocks.length x.wc (x.blocks.map wnV)
def DcG.parts (g : Nat) (x : DcG) : List Atom := [x.hd g, x.hds, x.bst, x.mks, x.wns]
def docA (g : Nat) (x : DcG) : Atom := starA (x.parts g)
theorem dpRow_len (p : DpG) : p.row.length = 3 := rfl
section
variable {F : Nat → Prop} {w₀ w : World} {L : List Atom} {g : Nat} {x : DcG}
theorem _root_.Go.Sx.St.docO (h : St F w₀ (docA g x :: L) w) : St F w₀ (x.hd g :: x.hds :: x.bst :: x.mks :: x.wns :: L) w := h.open_
theorem _root_.Go.Sx.St.docC (h : St F w₀ (x.hd g :: x.hds :: x.bst :: x.mks :: x.wns :: L) w) : St F w₀ (docA g x :: L) w := St.close_ (x.parts g) h
theorem doc_cell (h : Has (docA g x) w) {j : Nat} {v : Value} (hj : x.cells[j]? = some v) : w.cell? ⟨g, j, none⟩ = some v := (h.starM (A := x.hd g) (by simp [DcG.parts])).cellB hj
theorem doc_hds (h : Has (docA g x) w) : Has (sl 1 x.A x.blocks.length (x.blocks.map DbG.hdr)) w := (h.starM (A := x.hds) (by simp [DcG.parts])).of_own
theorem doc_mks (h : Has (docA g x) w) : Has (sl 1 x.mA x.blocks.length (x.blocks.map mkV)) w := (h.starM (A := x.mks) (by simp [DcG.parts])).of_own
theorem doc_wns (h : Has (docA g x) w) : Has (sl 1 x.wA x.blocks.length (x.blocks.map wnV)) w := (h.starM (A := x.wns) (by simp [DcG.parts])).of_own
theorem doc_bk (h : Has (docA g x) w) {b : DbG} (hb : b ∈ x.blocks) : Has b.dat w := (h.starM (A := x.bst) (by simp [DcG.parts])).starM (List.mem_map_of_mem hb)
theorem db_rows {b : DbG} (h : Has b.dat w) : Has (sl 3 b.A b.pages.length (b.pages.flatMap DpG.row)) w := (h.starM (A := b.rows) (by simp)).of_own
theorem db_pg {b : DbG} (h : Has b.dat w) {p : DpG} (hp : p ∈ b.pages) : Has p.dat w := (h.starM (A := starA (b.pages.map DpG.dat)) (by simp)).starM (List.mem_map_of_mem hp)
theorem dp_own1 {p : DpG} (h : Has p.dat w) : Has (sl 1 p.A p.l.length (nats .u8 p.l)) w := (h.starM (A := p.own1) (by simp)).of_own
theorem dp_own2 {p : DpG} (h : Has p.dat w) : Has (sl 1 p.B p.laid.length (nats .u8 p.laid)) w := (h.starM (A := p.own2) (by simp)).of_own
/-- A block taken out, and put back. -/
theorem _root_.Go.Sx.St.dbO {b : DbG} {i : Nat} {bs : List DbG} (hb : bs[i]? = some b) (h : St F w₀ (starA (bs.map DbG.dat) :: L) w) : St F w₀ (b.rows :: starA (b.pages.map DpG.dat) :: starA ((bs.map DbG.dat).eraseIdx i) :: L) w :=
  (h.focus (i := i) (A := b.dat) (by rw [List.getElem?_map, hb]; rfl)).open_
theorem _root_.Go.Sx.St.dbI {b : DbG} {i : Nat} {bs : List DbG} (hi : i < bs.length) (h : St F w₀ (b.rows :: starA (b.pages.map DpG.dat) :: starA ((bs.map DbG.dat).eraseIdx i) :: L) w) : St F w₀ (starA ((bs.set i b).map DbG.dat) :: L) w := by
  have h4 := (St.close_ [b.rows, starA (b.pages.map DpG.dat)] h).unfocus (A' := b.dat) (by simpa using hi)
  rw [← List.map_set] at h4
  exact h4
/-- A page is another. -/
theorem _root_.Go.Sx.St.dpPut {ps : List DpG} {k : Nat} {p : DpG} (hk : k < ps.length) (h : St F w₀ (starA (ps.map DpG.dat) :: p.own1 :: p.own2 :: L) w) : St F w₀ (starA ((ps.set k p).map DpG.dat) :: L) w := by
  have h1 := (h.focus (i := k) (A := (ps[k]).dat) (by rw [List.getElem?_map, List.getElem?_eq_getElem hk]; rfl)).tail
  have h2 : St F w₀ (p.own1 :: p.own2 :: starA ((ps.map DpG.dat).eraseIdx k) :: L) w := h1.perm ((List.Perm.swap ..).trans (List.Perm.cons _ (List.Perm.swap ..)))
  have h3 := (St.close_ [p.own1, p.own2] h2).unfocus (A' := p.dat) (by simpa using hk)
  rw [← List.map_set] at h3
  exact h3
end
def DcG.hitsG (x : DcG) : List FtG := x.plan.filter (fun f => decide (f.op = x.ops))
theorem dhits_abs (x : DcG) : x.hitsG.map FtG.abs = x.abs.hits := by
  unfold DcG.hitsG ChS.hits DcG.abs
  simp only [List.filter_map]
  rfl
theorem dplan_len {x : DcG} (hx : x.abs.Ok) : x.plan.length ≤ 1000 := by
  have h1 := hx.pl
  unfold DcG.abs at h1
  simp only [List.length_map] at h1
  exact h1
theorem dft_bits {x : DcG} (hx : x.abs.Ok) {f : FtG} (h : f ∈ x.plan) : f.bits.length ≤ 1000000 := hx.bt f.abs (List.mem_map_of_mem h)
theorem dfind_some (x : DcG) (k : Int) : (findG x.hitsG k).isSome = (findK x.abs.hits k).isSome := by
  rw [← dhits_abs, ← findG_abs, Option.isSome_map]
theorem dhas_eq (x : DcG) (i : Int) : x.abs.has i = decide (0 ≤ i ∧ i < (x.blocks.length : Int)) := by
  unfold ChS.has DcG.abs
  rw [List.length_map]
theorem dabs_bk {x : DcG} {i : Nat} {bk : DbG} (h : x.blocks[i]? = some bk) : x.abs.blocks[i]? = some bk.abs := by
  show (x.blocks.map DbG.abs)[i]? = _
  rw [List.getElem?_map, h]
  rfl
theorem dbk_pgs {x : DcG} (hx : x.abs.Ok) {i : Nat} {bk : DbG} (h : x.blocks[i]? = some bk) : (bk.pages.length : Int) = x.pages := by
  have := (hx.pg _ (List.mem_of_getElem? (dabs_bk h))).1
  unfold DbG.abs at this
  rw [List.length_map] at this
  exact this
theorem dhas_at {x : DcG} {b : Int} (h : x.abs.has b = true) : ∃ (i : Nat) (bk : DbG), b = (i : Nat) ∧ x.blocks[i]? = some bk ∧ x.abs.bk b = bk.abs := by
  rw [dhas_eq] at h
  have h1 := of_decide_eq_true h
  obtain ⟨i, rfl⟩ := Int.eq_ofNat_of_zero_le h1.1
  have hi : i < x.blocks.length := by omega
  refine ⟨i, _, rfl, List.getElem?_eq_getElem hi, ?_⟩
  unfold ChS.bk
  rw [Int.toNat_natCast, List.getD_eq_getElem?_getD, dabs_bk (List.getElem?_eq_getElem hi), Option.getD_some]
/-- A place that is there. -/
theorem dinn_at {x : DcG} (hx : x.abs.Ok) {b p : Int} (h : x.abs.inn b p = true) : ∃ (i k : Nat) (bk : DbG) (pg : DpG), b = (i : Nat) ∧ p = (k : Nat) ∧ x.blocks[i]? = some bk ∧ bk.pages[k]? = some pg ∧ x.abs.bk b = bk.abs ∧ x.abs.pg b p = pg.abs := by
  obtain ⟨h1, h2, h3⟩ := has_inn h
  obtain ⟨i, bk, hb, hbk, hba⟩ := dhas_at h1
  obtain ⟨k, rfl⟩ := Int.eq_ofNat_of_zero_le h2
  have hp := dbk_pgs hx hbk
  have h3' : ((k : Nat) : Int) < x.pages := h3
  have hk : k < bk.pages.length := by omega
  refine ⟨i, k, bk, _, hb, rfl, hbk, List.getElem?_eq_getElem hk, hba, ?_⟩
  unfold ChS.pg
  rw [hba, Int.toNat_natCast, List.getD_eq_getElem?_getD]
  show ((bk.pages.map DpG.abs)[k]?).getD _ = _
  rw [List.getElem?_map, List.getElem?_eq_getElem hk]
  rfl
theorem dpg_ok {x : DcG} (hx : x.abs.Ok) {i k : Nat} {bk : DbG} {pg : DpG} (hbk : x.blocks[i]? = some bk) (hpg : bk.pages[k]? = some pg) : (pg.l.length : Int) = x.size ∧ (∀ t ∈ pg.l, t < 256) ∧ pg.laid.length ≤ 4096 ∧ ∀ t ∈ pg.laid, t < 256 :=
  (hx.pg _ (List.mem_of_getElem? (dabs_bk hbk))).2 pg.abs (List.mem_map_of_mem (List.mem_of_getElem? hpg))
def DcG.tick (x : DcG) : DcG := { x with ops := wr (x.ops + 1) }
end Go.Proofs.YtcapijdokbkgaaaDoor
end
section
/- The document's chip: what it is asked, bits turned, a read. Conditions: it is lent, or read where it lies; its plan is read. -/
namespace Go.Proofs.YtcapijdokbkgaaaDoor
open Go Go.Sx Go.Fm
set_option maxRecDepth 100000
theorem find_filter {l : List FtG} {o k : Int} : findG (l.filter (fun f => decide (f.op = o))) k = l.find? (fun f => decide (f.op = o) && decide (f.kind = k)) := by
  unfold findG
  rw [List.find?_filter]
  congr 1
  funext a
  rw [Bool.eq_iff_iff, decide_eq_true_iff, Bool.and_eq_true]
theorem dfind_at {x : DcG} {k : Int} {i : Nat} {f : FtG} (hno : ∀ j f, j < i → x.plan[j]? = some f → ¬ (f.op = x.ops ∧ f.kind = k)) (hf : x.plan[i]? = some f) (hk : f.op = x.ops ∧ f.kind = k) : findG x.hitsG k = some f := by
  unfold DcG.hitsG
  rw [find_filter, List.find?_eq_some_iff_getElem]
  have hi := (List.getElem?_eq_some_iff.1 hf).1
  refine ⟨by rw [decide_eq_true hk.1, decide_eq_true hk.2]; rfl, i, hi, (List.getElem?_eq_some_iff.1 hf).2, fun j hj => ?_⟩
  have := hno j _ hj (List.getElem?_eq_getElem (by omega))
  rw [Bool.not_eq_true', Bool.and_eq_false_iff, decide_eq_false_iff_not, decide_eq_false_iff_not]
  exact Decidable.not_and_iff_not_or_not.1 this
theorem dfind_none {x : DcG} {k : Int} (hno : ∀ (j : Nat) f, x.plan[j]? = some f → ¬ (f.op = x.ops ∧ f.kind = k)) : findG x.hitsG k = none := by
  unfold DcG.hitsG
  rw [find_filter, List.find?_eq_none]
  intro f hf
  obtain ⟨j, hj⟩ := List.getElem?_of_mem hf
  rw [Bool.and_eq_true, decide_eq_true_iff, decide_eq_true_iff]
  exact hno j f hj
theorem hdr_at {bs : List DbG} {i : Nat} {b : DbG} (h : bs[i]? = some b) : (bs.map DbG.hdr)[i * 1 + 0]? = some (.slice b.A b.pages.length b.c) := by
  rw [Nat.mul_one, Nat.add_zero, List.getElem?_map, h]
  rfl
theorem hdr_at1 {bs : List DbG} {i : Nat} {b : DbG} (h : bs[i]? = some b) : (bs.map DbG.hdr)[i * 1]? = some (.slice b.A b.pages.length b.c) := hdr_at h
theorem dpage_cell {g : Nat} {x : DcG} {w : World} (hc : Has (docA g x) w) {i k : Nat} {bk : DbG} {pg : DpG} (hb : x.blocks[i]? = some bk) (hp : bk.pages[k]? = some pg) {j : Nat} {v : Value} (hj : pg.row[j]? = some v) : w.cell? ⟨ob bk.A, oo bk.A + k * 3 + j, none⟩ = some v := by
  have hk := (List.getElem?_eq_some_iff.1 hp).1
  exact (db_rows (doc_bk hc (List.mem_of_getElem? hb))).rowAt dpRow_len hp (by omega) j v hj

theorem dempty_spec (g q : Nat) (w : World) (hd : w.cell? ⟨g, 2, none⟩ = some (.int .i64 (q : Nat))) (hq1 : q ≤ 4096) : SpecB Tryd.prog 74 [.pointer (some ⟨g, 0, none⟩)] w (List.replicate q 255) := by
  refine spec_of Tryd.func74 rfl Tryd.ntmps74 rfl ?_
  refine CW.seq ?_
  refine CW.reg [0] rfl ?_
  refine s_as 2 rfl rfl ?_
  refine SX.next ?_
  refine CW.seq ?_
  refine CW.reg [0, 1, 2, 3, 4, 5] rfl ?_
  refine s_mv 5 rfl rfl ?_
  refine s_nil 6 rfl rfl ?_
  refine s_fa 7 rfl rfl ?_
  refine s_ld 8 rfl rfl (v := .int .i64 (q : Nat)) (fun _ hw => hw.cell hd) ?_
  refine s_make 9 q rfl rfl rfl rfl rfl (by omega) (fun _ _ => trivial) (fun gb => ?_)
  refine s_as 3 rfl rfl ?_
  refine SX.next ?_
  refine CW.seq ?_
  refine CW.seq ?_
  refine CW.reg [0] rfl ?_
  refine s_as 4 rfl rfl ?_
  refine SX.next ?_
  refine CW.block ?_
  refine CW.loop (G := Nat) (fun i => [(3, .slice (some ⟨gb, 0, none⟩) q q), (4, .int .i64 (i : Nat))]) (fun i => Sto w [blk gb 5 (List.replicate i (Value.int .u8 255) ++ List.replicate (q - i) (Value.int .u8 0)).toArray]) (fun i => i ≤ q) (fun i => q - i) 0 ⟨rfl, rfl, trivial⟩ (fun _ h => h) (Nat.zero_le _) ?_
  intro i hi
  refine CW.seq ?_
  refine CW.seq ?_
  refine CW.reg [0, 1, 2, 3] rfl ?_
  refine s_mv 10 rfl rfl ?_
  refine s_mv 11 rfl rfl ?_
  refine s_len 12 rfl rfl ?_
  refine s_lt 13 rfl rfl rfl rfl ?_
  refine SX.next ?_
  refine CW.test rfl (fun hc => ?_) (fun hc => ?_)
  · skip
    have hil : i < q := by omega
    refine CW.skip ?_
    refine KN.code ?_
    refine CW.seq ?_
    refine CW.block ?_
    refine CW.reg [0, 1, 2, 3] rfl ?_
    refine s_mv 16 rfl rfl ?_
    refine s_mv 17 rfl rfl ?_
    refine s_ia0 18 i rfl rfl rfl rfl hil ?_
    refine s_stB 0 rfl rfl rfl rfl rfl (by simp; omega) (fun _ _ => trivial) ?_
    refine SX.end_ ?_
    refine KN.blk ?_
    refine KN.code ?_
    refine CW.reg [0, 1, 2] rfl ?_
    refine s_mv 14 rfl rfl ?_
    refine s_add 15 rfl rfl rfl (r := ((i + 1 : Nat) : Int)) (w64 (by omega)) ?_
    refine s_as 4 rfl rfl ?_
    refine SX.end_ ?_
    exact KN.back (i + 1) ⟨rfl, rfl, trivial⟩ (fun _ h => by
  have e : ((List.replicate i (Value.int .u8 255) ++ List.replicate (q - i) (Value.int .u8 0)).toArray.setIfInBounds i (Value.int .u8 255)) = (List.replicate (i + 1) (Value.int .u8 255) ++ List.replicate (q - (i + 1)) (Value.int .u8 0)).toArray := by
    rw [List.setIfInBounds_toArray, List.set_append_right _ _ (by simp), List.length_replicate, Nat.sub_self, show q - i = (q - (i + 1)) + 1 by omega, List.replicate_succ, List.set_cons_zero, List.replicate_succ' (n := i), List.append_assoc]
    rfl
  rw [← e]
  exact h) (by omega) (by omega)
  · skip
    obtain rfl : i = q := by omega
    refine CW.exit rfl ?_
    refine KN.code ?_
    refine CW.seq ?_
    refine CW.reg [0, 1] rfl ?_
    refine s_mv 19 rfl rfl ?_
    refine s_as 2 rfl rfl ?_
    refine SX.next ?_
    refine CW.ret ?_
    exact KN.ret (rs := [.tmp 2]) Tryd.results74 rfl (fun w hw => ⟨(some ⟨gb, 0, none⟩, i), by rw [List.length_replicate]; rfl, by rw [List.length_replicate]; exact Nat.le_refl _, by
  have h1 := hw.blkOwnM (q := 0) (m := i) (c := i) (sz := 1) rfl (by simp) (Nat.le_refl _) (by unfold maxLen; omega)
  rw [Nat.mul_one, List.take_of_length_le (by simp), Nat.sub_self, List.replicate_zero, List.append_nil] at h1
  rw [List.length_replicate, show nats .u8 (List.replicate i 255) = List.replicate i (.int .u8 255) from List.map_replicate]
  exact h1⟩)

theorem dhas_spec (g : Nat) (x : DcG) (b p : Int) (w : World) (hd : Has (docA g x) w) : Spec1 Tryd.prog 76 [.pointer (some ⟨g, 0, none⟩), .agg #[.int .i64 b, .int .i64 p]] w (.bool (x.abs.inn b p)) := by
  have hin : x.abs.inn b p = (decide (0 ≤ b ∧ b < (x.blocks.length : Int)) && decide (0 ≤ p ∧ p < x.pages)) := by unfold ChS.inn; rw [dhas_eq]; rfl
  refine spec_of Tryd.func76 rfl Tryd.ntmps76 rfl ?_
  refine CW.seq ?_
  refine CW.reg [0, 1] rfl ?_
  refine s_box 3 rfl rfl (fun _ _ => trivial) (fun b3 => ?_)
  refine s_as 4 rfl rfl ?_
  refine SX.next ?_
  refine CW.seq ?_
  refine CW.regD (.st true 0 (.st true 1 (.st true 2 (.st true 3 (.st true 4 (.st true 5 (.st true 6 (.st true 7 (.st true 8 (.st true 9 (.st true 10 (.st true 11 (.st true 12 (.st true 13 (.st true 14 (.st true 15 (.st true 16 (.st true 17 (.st true 18 (.st true 19 (.st true 20 (.st true 21 (.st true 22 (.st true 23 (.st true 24 (.st true 25 (.st true 26 .done))))))))))))))))))))))))))) (Sto w [blk b3 31 #[.int .i64 b, .int .i64 p]]) mixed (by kernel_rfl) (fun _ h => h.drew) (fun _ h => h) ?_
  refine s_fa 5 rfl rfl ?_
  refine s_ldS 6 rfl rfl (v := .int .i64 b) (fun _ hw => hw.blkCell (i := 0) (j := 0) rfl rfl) ?_
  refine s_ge 7 rfl rfl rfl rfl ?_
  refine s_mv 8 rfl rfl ?_
  refine SX.bool 8 rfl (fun hb => ?_) (fun hb => ?_)
  · skip
    have h1 := of_decide_eq_true hb
    refine s_fa 9 rfl rfl ?_
    refine s_ldS 10 rfl rfl (v := .int .i64 b) (fun _ hw => hw.blkCell (i := 0) (j := 0) rfl rfl) ?_
    refine s_mv 11 rfl rfl ?_
    refine s_nil 12 rfl rfl ?_
    refine s_fa 13 rfl rfl ?_
    refine s_ldS 14 rfl rfl (v := .int .i64 (x.blocks.length : Nat)) (fun _ hw => doc_cell (hw.old hd) rfl) ?_
    refine s_lt 15 rfl rfl rfl rfl ?_
    refine s_pickT 16 rfl rfl rfl ?_
    refine s_mv 17 rfl rfl ?_
    refine SX.bool 17 rfl (fun hb => ?_) (fun hb => ?_)
    · skip
      have h2 := of_decide_eq_true hb
      refine s_fa 18 rfl rfl ?_
      refine s_ldS 19 rfl rfl (v := .int .i64 p) (fun _ hw => hw.blkCell (i := 0) (j := 1) rfl rfl) ?_
      refine s_ge 20 rfl rfl rfl rfl ?_
      refine s_pickT 21 rfl rfl rfl ?_
      refine s_mv 22 rfl rfl ?_
      refine SX.bool 22 rfl (fun hb => ?_) (fun hb => ?_)
      · skip
        have h3 := of_decide_eq_true hb
        have hz : x.abs.inn b p = decide (p < x.pages) := by rw [hin, decide_eq_true ⟨h1, h2⟩, Bool.true_and]; exact decide_eq_decide.2 ⟨fun h => h.2, fun h => ⟨h3, h⟩⟩
        refine s_fa 23 rfl rfl ?_
        refine s_ldS 24 rfl rfl (v := .int .i64 p) (fun _ hw => hw.blkCell (i := 0) (j := 1) rfl rfl) ?_
        refine s_mv 25 rfl rfl ?_
        refine s_nil 26 rfl rfl ?_
        refine s_fa 27 rfl rfl ?_
        refine s_ldS 28 rfl rfl (v := .int .i64 x.pages) (fun _ hw => doc_cell (hw.old hd) rfl) ?_
        refine s_lt 29 rfl rfl rfl rfl ?_
        refine s_pickT 30 rfl rfl rfl ?_
        refine s_as 4 rfl rfl ?_
        refine SX.next ?_
        refine CW.ret ?_
        exact KN.ret (rs := [.tmp 4]) Tryd.results76 rfl (fun w hw => ⟨by rw [hz]; rfl, hw.nothing⟩)
      · skip
        have h3 := of_decide_eq_false hb
        have hz : x.abs.inn b p = false := by rw [hin, decide_eq_false (show ¬ (0 ≤ p ∧ p < x.pages) from fun h => h3 h.1), Bool.and_false]
        refine SX.skip rfl ?_
        refine SX.skip rfl ?_
        refine SX.skip rfl ?_
        refine SX.skip rfl ?_
        refine SX.skip rfl ?_
        refine SX.skip rfl ?_
        refine SX.skip rfl ?_
        refine s_pickF 30 rfl rfl rfl ?_
        refine s_as 4 rfl rfl ?_
        refine SX.next ?_
        refine CW.ret ?_
        exact KN.ret (rs := [.tmp 4]) Tryd.results76 rfl (fun w hw => ⟨by rw [hz]; rfl, hw.nothing⟩)
    · skip
      have h2 := of_decide_eq_false hb
      have hz : x.abs.inn b p = false := by rw [hin, decide_eq_false (fun h => h2 h.2)]; rfl
      refine SX.skip rfl ?_
      refine SX.skip rfl ?_
      refine SX.skip rfl ?_
      refine s_pickF 21 rfl rfl rfl ?_
      refine s_mv 22 rfl rfl ?_
      refine SX.skip rfl ?_
      refine SX.skip rfl ?_
      refine SX.skip rfl ?_
      refine SX.skip rfl ?_
      refine SX.skip rfl ?_
      refine SX.skip rfl ?_
      refine SX.skip rfl ?_
      refine s_pickF 30 rfl rfl rfl ?_
      refine s_as 4 rfl rfl ?_
      refine SX.next ?_
      refine CW.ret ?_
      exact KN.ret (rs := [.tmp 4]) Tryd.results76 rfl (fun w hw => ⟨by rw [hz]; rfl, hw.nothing⟩)
  · skip
    have h1 := of_decide_eq_false hb
    have hz : x.abs.inn b p = false := by rw [hin, decide_eq_false (fun h => h1 h.1)]; rfl
    refine SX.skip rfl ?_
    refine SX.skip rfl ?_
    refine SX.skip rfl ?_
    refine SX.skip rfl ?_
    refine SX.skip rfl ?_
    refine SX.skip rfl ?_
    refine SX.skip rfl ?_
    refine s_pickF 16 rfl rfl rfl ?_
    refine s_mv 17 rfl rfl ?_
    refine SX.skip rfl ?_
    refine SX.skip rfl ?_
    refine SX.skip rfl ?_
    refine s_pickF 21 rfl rfl rfl ?_
    refine s_mv 22 rfl rfl ?_
    refine SX.skip rfl ?_
    refine SX.skip rfl ?_
    refine SX.skip rfl ?_
    refine SX.skip rfl ?_
    refine SX.skip rfl ?_
    refine SX.skip rfl ?_
    refine SX.skip rfl ?_
    refine s_pickF 30 rfl rfl rfl ?_
    refine s_as 4 rfl rfl ?_
    refine SX.next ?_
    refine CW.ret ?_
    exact KN.ret (rs := [.tmp 4]) Tryd.results76 rfl (fun w hw => ⟨by rw [hz]; rfl, hw.nothing⟩)

theorem dfirst_spec (g : Nat) (x : DcG) (kind : Int) (w : World) (hd : Has (docA g x) w) (hp : PlIn x.pA x.plan w) (hn : x.plan.length ≤ 1000) : Spec1 Tryd.prog 77 [.pointer (some ⟨g, 0, none⟩), .int .i64 kind] w (fndV (findG x.hitsG kind)) := by
  refine spec_of Tryd.func77 rfl Tryd.ntmps77 rfl ?_
  refine CW.seq ?_
  refine CW.reg [0, 1] rfl ?_
  refine s_alloc 4 rfl (fun _ _ => trivial) (fun b4 => ?_)
  refine s_as 5 rfl rfl ?_
  refine SX.next ?_
  refine CW.seq ?_
  refine CW.seq ?_
  refine CW.reg [0] rfl ?_
  refine s_as 6 rfl rfl ?_
  refine SX.next ?_
  refine CW.block ?_
  refine CW.loop (G := Nat) (fun i => [(0, .pointer (some ⟨g, 0, none⟩)), (1, .int .i64 kind), (4, .pointer (some ⟨b4, 0, none⟩)), (6, .int .i64 (i : Nat))]) (fun _ => Sto w [blk b4 48 #[.int .i64 0, .int .i64 0, .int .i64 0, .int .i64 0, .slice none 0 0]]) (fun i => i ≤ x.plan.length ∧ ∀ j f, j < i → x.plan[j]? = some f → ¬ (f.op = x.ops ∧ f.kind = kind)) (fun i => x.plan.length - i) 0 ⟨rfl, rfl, rfl, rfl, trivial⟩ (fun _ h => h) ⟨Nat.zero_le _, fun j f h => by omega⟩ ?_
  rintro i ⟨hi, hno⟩
  refine CW.seq ?_
  refine CW.seq ?_
  refine CW.reg [0, 1, 2, 3, 4, 5, 6] rfl ?_
  refine s_mv 7 rfl rfl ?_
  refine s_mv 8 rfl rfl ?_
  refine s_nil 9 rfl rfl ?_
  refine s_fa 10 rfl rfl ?_
  refine s_ld 11 rfl rfl (v := .slice x.pA x.plan.length x.pc) (fun _ hw => doc_cell (hw.old hd) rfl) ?_
  refine s_len 12 rfl rfl ?_
  refine s_lt 13 rfl rfl rfl rfl ?_
  refine SX.next ?_
  refine CW.test rfl (fun hc => ?_) (fun hc => ?_)
  · skip
    have hil : i < x.plan.length := by omega
    have hg := gF_at hil
    refine CW.skip ?_
    refine KN.code ?_
    refine CW.seq ?_
    refine CW.block ?_
    refine CW.seq ?_
    refine CW.regD (.st true 0 (.st true 1 (.st true 2 (.st true 3 (.st true 4 (.st true 5 (.st true 6 (.st true 7 (.st true 8 (.st true 9 (.st true 10 (.st true 11 (.st true 12 (.st true 13 (.st true 14 (.st true 15 (.st true 16 (.st true 17 (.st true 18 (.st true 19 (.st true 20 (.st true 21 (.st true 22 (.st true 23 (.st true 24 .done))))))))))))))))))))))))) (Sto w [blk b4 48 #[.int .i64 0, .int .i64 0, .int .i64 0, .int .i64 0, .slice none 0 0]]) mixed (by kernel_rfl) (fun _ h => h.drew) (fun _ h => h) ?_
    refine s_mv 16 rfl rfl ?_
    refine s_nil 17 rfl rfl ?_
    refine s_fa 18 rfl rfl ?_
    refine s_ldS 19 rfl rfl (v := .slice x.pA x.plan.length x.pc) (fun _ hw => doc_cell (hw.old hd) rfl) ?_
    refine s_mv 20 rfl rfl ?_
    refine s_iaV 21 i (fun w hw => hw.old hp.rows) rfl rfl rfl rfl hil ?_
    refine s_fa 22 rfl rfl ?_
    refine s_ldS 23 rfl rfl (v := .int .i64 (gF x.plan i).op) (fun _ hw => (hw.old hp.rows).rowAt ftRow_len hg (by omega) 0 _ rfl) ?_
    refine s_mv 24 rfl rfl ?_
    refine s_nil 25 rfl rfl ?_
    refine s_fa 26 rfl rfl ?_
    refine s_ldS 27 rfl rfl (v := .int .i64 x.ops) (fun _ hw => doc_cell (hw.old hd) rfl) ?_
    refine s_eq 28 rfl rfl rfl rfl ?_
    refine s_mv 29 rfl rfl ?_
    refine SX.bool 29 rfl (fun hb => ?_) (fun hb => ?_)
    · skip
      have h1 := of_decide_eq_true hb
      refine s_mv 30 rfl rfl ?_
      refine s_nil 31 rfl rfl ?_
      refine s_fa 32 rfl rfl ?_
      refine s_ldS 33 rfl rfl (v := .slice x.pA x.plan.length x.pc) (fun _ hw => doc_cell (hw.old hd) rfl) ?_
      refine s_mv 34 rfl rfl ?_
      refine s_iaV 35 i (fun w hw => hw.old hp.rows) rfl rfl rfl rfl hil ?_
      refine s_fa 36 rfl rfl ?_
      refine s_ldS 37 rfl rfl (v := .int .i64 (gF x.plan i).kind) (fun _ hw => (hw.old hp.rows).rowAt ftRow_len hg (by omega) 1 _ rfl) ?_
      refine s_mv 38 rfl rfl ?_
      refine s_eq 39 rfl rfl rfl rfl ?_
      refine s_pickT 40 rfl rfl rfl ?_
      refine SX.next ?_
      refine CW.test rfl (fun h2 => ?_) (fun h2 => ?_)
      · skip
        have hfs := dfind_at hno hg ⟨h1, h2⟩
        refine CW.seq ?_
        refine CW.reg [0, 1, 2, 3, 4, 5, 6, 7, 8] rfl ?_
        refine s_mv 41 rfl rfl ?_
        refine s_nil 42 rfl rfl ?_
        refine s_fa 43 rfl rfl ?_
        refine s_ld 44 rfl rfl (v := .slice x.pA x.plan.length x.pc) (fun _ hw => doc_cell (hw.old hd) rfl) ?_
        refine s_mv 45 rfl rfl ?_
        refine s_iaV 46 i (fun w hw => hw.old hp.rows) rfl rfl rfl rfl hil ?_
        refine s_ldR 47 (cs := (gF x.plan i).row) rfl rfl rfl (fun w hw => (hw.old hp.rows).rowAt ftRow_len hg (by omega)) ?_
        refine s_stAll 0 rfl rfl (by kernel_rfl) rfl rfl rfl rfl (fun _ _ => trivial) ?_
        refine s_as 5 rfl rfl ?_
        refine SX.next ?_
        refine CW.ret ?_
        exact KN.retC (rs := [.cell 4 48, .tmp 5]) Tryd.results77 (fun w hw => ⟨[_, _], ⟨⟨_, rfl, hw.ldRow (q := 0) rfl (by rfl)⟩, rfl, trivial⟩, by rw [hfs]; rfl, hw.nothing⟩)
      · skip
        have hnot : ¬ ((gF x.plan i).op = x.ops ∧ (gF x.plan i).kind = kind) := fun h => h2 h.2
        refine CW.skip ?_
        refine KN.blk ?_
        refine KN.code ?_
        refine CW.reg [0, 1, 2] rfl ?_
        refine s_mv 14 rfl rfl ?_
        refine s_add 15 rfl rfl rfl (r := ((i + 1 : Nat) : Int)) (w64 (by omega)) ?_
        refine s_as 6 rfl rfl ?_
        refine SX.end_ ?_
        exact KN.back (i + 1) ⟨rfl, rfl, rfl, rfl, trivial⟩ (fun _ h => h) ⟨by omega, fun j f hj hf => by
  by_cases hji : j = i
  · subst hji; rw [hg] at hf; injection hf with h; subst h; exact hnot
  · exact hno j f (by omega) hf⟩ (by omega)
    · skip
      have h1 := of_decide_eq_false hb
      have hnot : ¬ ((gF x.plan i).op = x.ops ∧ (gF x.plan i).kind = kind) := fun h => h1 h.1
      refine SX.skip rfl ?_
      refine SX.skip rfl ?_
      refine SX.skip rfl ?_
      refine SX.skip rfl ?_
      refine SX.skip rfl ?_
      refine SX.skip rfl ?_
      refine SX.skip rfl ?_
      refine SX.skip rfl ?_
      refine SX.skip rfl ?_
      refine SX.skip rfl ?_
      refine s_pickF 40 rfl rfl rfl ?_
      refine SX.next ?_
      refine CW.condF rfl ?_
      refine CW.skip ?_
      refine KN.blk ?_
      refine KN.code ?_
      refine CW.reg [0, 1, 2] rfl ?_
      refine s_mv 14 rfl rfl ?_
      refine s_add 15 rfl rfl rfl (r := ((i + 1 : Nat) : Int)) (w64 (by omega)) ?_
      refine s_as 6 rfl rfl ?_
      refine SX.end_ ?_
      exact KN.back (i + 1) ⟨rfl, rfl, rfl, rfl, trivial⟩ (fun _ h => h) ⟨by omega, fun j f hj hf => by
  by_cases hji : j = i
  · subst hji; rw [hg] at hf; injection hf with h; subst h; exact hnot
  · exact hno j f (by omega) hf⟩ (by omega)
  · skip
    obtain rfl : i = x.plan.length := by omega
    have hfn := dfind_none (fun j f hj => hno j f (List.getElem?_eq_some_iff.1 hj).1 hj)
    refine CW.exit rfl ?_
    refine KN.code ?_
    refine CW.seq ?_
    refine CW.reg [0, 1, 2] rfl ?_
    refine s_build 48 rfl rfl (cells := #[.int .i64 0, .int .i64 0, .int .i64 0, .int .i64 0, .slice none 0 0]) (by kernel_rfl) ?_
    refine s_stAll 0 rfl rfl (by kernel_rfl) rfl rfl rfl rfl (fun _ _ => trivial) ?_
    refine s_as 5 rfl rfl ?_
    refine SX.next ?_
    refine CW.ret ?_
    exact KN.retC (rs := [.cell 4 48, .tmp 5]) Tryd.results77 (fun w hw => ⟨[_, _], ⟨⟨_, rfl, hw.ldRow (q := 0) rfl (by rfl)⟩, rfl, trivial⟩, by rw [hfn]; rfl, hw.nothing⟩)

theorem dturn_spec (F : Nat → Prop) (A : Option Addr) (c : Nat) (p : List Nat) (B : Option Addr) (d : Nat) (l : List Int) (w : World) (h8 : ∀ x ∈ p, x < 256) (hp : p.length ≤ 1000000) (hB : ∀ w', Fr F w w' → Has (sl 1 B l.length (ints .i64 l)) w') (hl : l.length ≤ 1000000) (hw : St F w [own 5 1 A p.length c (nats .u8 (p))] w) : SpecP Tryd.prog 78 [.slice A p.length c, .slice B l.length d] F w (X := Unit) (fun _ => oneOf []) (fun _ => True) (fun _ => [own 5 1 A p.length c (nats .u8 (turnL p l))]) := by
  refine spec_ofC Tryd.func78 rfl Tryd.ntmps78 rfl hw ?_
  refine CW.seq ?_
  refine CW.reg [0] rfl ?_
  refine s_as 4 rfl rfl ?_
  refine SX.next ?_
  refine CW.block ?_
  refine CW.loop (G := Nat) (fun i => [(0, .slice A p.length c), (1, .slice B l.length d), (4, .int .i64 (i : Nat))]) (fun i => St F w [own 5 1 A p.length c (nats .u8 (turnL p (l.take i)))]) (fun i => i ≤ l.length) (fun i => l.length - i) 0 ⟨rfl, rfl, rfl, trivial⟩ (fun _ h => h) (Nat.zero_le _) ?_
  intro i hi
  refine CW.seq ?_
  refine CW.seq ?_
  refine CW.reg [0, 1, 2, 3] rfl ?_
  refine s_mv 5 rfl rfl ?_
  refine s_mv 6 rfl rfl ?_
  refine s_len 7 rfl rfl ?_
  refine s_lt 8 rfl rfl rfl rfl ?_
  refine SX.next ?_
  refine CW.test rfl (fun hc => ?_) (fun hc => ?_)
  · skip
    have hil : i < l.length := by omega
    have hnx := turnL_take (b := p) hil
    have hln := turnL_len p (l.take i)
    have h82 := turnL_lt h8 (l.take i)
    refine CW.skip ?_
    refine KN.code ?_
    refine CW.seq ?_
    refine CW.block ?_
    refine CW.seq ?_
    refine CW.reg [0, 1, 2, 3, 4, 5, 6, 7, 8, 9, 10, 11, 12, 13, 14] rfl ?_
    refine s_mv 11 rfl rfl ?_
    refine s_mv 12 rfl rfl ?_
    refine s_iaV 13 i (fun w hw => hB _ hw.fr) rfl rfl rfl rfl hil ?_
    refine s_ldV 14 (fun w hw => hB _ hw.fr) rfl rfl (by rw [Nat.mul_one]; exact intsAt hil) (by omega) ?_
    refine s_ge 15 rfl rfl rfl rfl ?_
    refine s_mv 16 rfl rfl ?_
    refine SX.bool 16 rfl (fun hb => ?_) (fun hb => ?_)
    · skip
      have h1 := of_decide_eq_true hb
      refine s_mv 17 rfl rfl ?_
      refine s_mv 18 rfl rfl ?_
      refine s_iaV 19 i (fun w hw => hB _ hw.fr) rfl rfl rfl rfl hil ?_
      refine s_ldV 20 (fun w hw => hB _ hw.fr) rfl rfl (by rw [Nat.mul_one]; exact intsAt hil) (by omega) ?_
      refine s_mv 21 rfl rfl ?_
      refine s_len 22 rfl rfl ?_
      refine s_mul 23 rfl rfl rfl (r := ((8 * p.length : Nat) : Int)) (by rw [show (8 : Int) * ((p.length : Nat) : Int) = ((8 * p.length : Nat) : Int) by omega]; exact w64 (by omega)) ?_
      refine s_lt 24 rfl rfl rfl rfl ?_
      refine s_pickT 25 rfl rfl rfl ?_
      refine SX.next ?_
      refine CW.test rfl (fun h2 => ?_) (fun h2 => ?_)
      · skip
        obtain ⟨k, hk⟩ := Int.eq_ofNat_of_zero_le h1
        have hk8 : k / 8 < p.length := by omega
        have hm8 : k % 8 < 8 := Nat.mod_lt _ (by decide)
        have hnx2 : turn1 (turnL p (l.take i)) (l.getD i 0) = (turnL p (l.take i)).set (k / 8) ((turnL p (l.take i)).getD (k / 8) 0 ^^^ 2 ^ (k % 8)) := by
          unfold turn1
          rw [if_pos (by rw [hln]; omega), hk, Int.toNat_natCast]
        refine CW.regD (.st true 0 (.st true 1 (.st true 2 (.st true 3 (.st true 4 (.st true 5 (.st true 6 (.st true 7 (.st true 8 (.st true 9 (.st true 10 (.st true 11 (.st true 12 (.st true 14 (.st true 15 (.st true 16 (.st true 17 (.st true 18 (.st true 19 (.st true 20 (.st false 13 (.st true 21 (.st true 22 (.st false 23 .done)))))))))))))))))))))))) (fun w2 => Has (sl 1 B l.length (ints .i64 l)) w2) mixed (by kernel_rfl) (fun _ h => h.drew) (fun _ h => hB _ h.fr) ?_
        refine s_mv 26 rfl rfl ?_
        refine s_mv 27 rfl rfl ?_
        refine s_mv 28 rfl rfl ?_
        refine s_iaV 29 i (fun w hw => hB _ hw.fr) rfl rfl rfl rfl hil ?_
        refine s_ldVS 30 (fun w hw => hw) rfl rfl (by rw [Nat.mul_one]; exact intsAt hil) (by omega) ?_
        refine s_quo 31 rfl rfl rfl (by omega) (r := ((k / 8 : Nat) : Int)) (by rw [hk, show ((k : Nat) : Int).tdiv 8 = ((k / 8 : Nat) : Int) from rfl]; exact w64 (by omega)) ?_
        refine s_mv 32 rfl rfl ?_
        refine s_mv 33 rfl rfl ?_
        refine s_mv 34 rfl rfl ?_
        refine s_iaV 35 i (fun w hw => hB _ hw.fr) rfl rfl rfl rfl hil ?_
        refine s_ldVS 36 (fun w hw => hw) rfl rfl (by rw [Nat.mul_one]; exact intsAt hil) (by omega) ?_
        refine s_quo 37 rfl rfl rfl (by omega) (r := ((k / 8 : Nat) : Int)) (by rw [hk, show ((k : Nat) : Int).tdiv 8 = ((k / 8 : Nat) : Int) from rfl]; exact w64 (by omega)) ?_
        refine s_iaO 38 0 (k / 8) rfl rfl rfl rfl rfl hk8 ?_
        refine s_mv 40 rfl rfl ?_
        refine s_mv 41 rfl rfl ?_
        refine s_iaV 42 i (fun w hw => hB _ hw.fr) rfl rfl rfl rfl hil ?_
        refine s_ldVS 43 (fun w hw => hw) rfl rfl (by rw [Nat.mul_one]; exact intsAt hil) (by omega) ?_
        refine s_rem 44 rfl rfl rfl (by omega) (r := ((k % 8 : Nat) : Int)) (by rw [hk]; rfl) ?_
        refine s_conv 45 rfl rfl (r := ((k % 8 : Nat) : Int)) (wu64' (by omega)) ?_
        refine s_shl 46 rfl rfl rfl (by omega) (r := ((2 ^ (k % 8) : Nat) : Int)) (shl1_u8 hm8) ?_
        refine s_ldO 39 0 rfl rfl rfl (natsAt8 (by rw [hln]; exact hk8)) ?_
        refine s_bit 47 rfl rfl rfl rfl (r := (((turnL p (l.take i)).getD (k / 8) 0 ^^^ 2 ^ (k % 8) : Nat) : Int)) (ibit_xor_u8 (getD_lt8 h82 _) (show 2 ^ (k % 8) < 2 ^ 8 from Nat.pow_lt_pow_of_lt (by decide) hm8)) ?_
        refine s_iaO 48 0 (k / 8) rfl rfl rfl rfl rfl hk8 ?_
        refine s_stO 0 rfl rfl rfl rfl rfl hk8 (fun _ h => hB _ h.fr) ?_
        refine SX.end_ ?_
        refine KN.blk ?_
        refine KN.code ?_
        refine CW.reg [0, 1, 2] rfl ?_
        refine s_mv 9 rfl rfl ?_
        refine s_add 10 rfl rfl rfl (r := ((i + 1 : Nat) : Int)) (w64 (by omega)) ?_
        refine s_as 4 rfl rfl ?_
        refine SX.end_ ?_
        exact KN.back (i + 1) ⟨rfl, rfl, rfl, trivial⟩ (fun _ h => by rw [hnx, hnx2, nats8_set]; exact h) (by omega) (by omega)
      · skip
        have hnx2 : turn1 (turnL p (l.take i)) (l.getD i 0) = turnL p (l.take i) := by
          unfold turn1
          rw [if_neg (by rw [hln]; omega)]
        refine CW.skip ?_
        refine KN.blk ?_
        refine KN.code ?_
        refine CW.reg [0, 1, 2] rfl ?_
        refine s_mv 9 rfl rfl ?_
        refine s_add 10 rfl rfl rfl (r := ((i + 1 : Nat) : Int)) (w64 (by omega)) ?_
        refine s_as 4 rfl rfl ?_
        refine SX.end_ ?_
        exact KN.back (i + 1) ⟨rfl, rfl, rfl, trivial⟩ (fun _ h => by rw [hnx, hnx2]; exact h) (by omega) (by omega)
    · skip
      have h1 := of_decide_eq_false hb
      have hnx2 : turn1 (turnL p (l.take i)) (l.getD i 0) = turnL p (l.take i) := by
        unfold turn1
        rw [if_neg (by omega)]
      refine SX.skip rfl ?_
      refine SX.skip rfl ?_
      refine SX.skip rfl ?_
      refine SX.skip rfl ?_
      refine SX.skip rfl ?_
      refine SX.skip rfl ?_
      refine SX.skip rfl ?_
      refine SX.skip rfl ?_
      refine s_pickF 25 rfl rfl rfl ?_
      refine SX.next ?_
      refine CW.condF rfl ?_
      refine CW.skip ?_
      refine KN.blk ?_
      refine KN.code ?_
      refine CW.reg [0, 1, 2] rfl ?_
      refine s_mv 9 rfl rfl ?_
      refine s_add 10 rfl rfl rfl (r := ((i + 1 : Nat) : Int)) (w64 (by omega)) ?_
      refine s_as 4 rfl rfl ?_
      refine SX.end_ ?_
      exact KN.back (i + 1) ⟨rfl, rfl, rfl, trivial⟩ (fun _ h => by rw [hnx, hnx2]; exact h) (by omega) (by omega)
  · skip
    obtain rfl : i = l.length := by omega
    refine CW.exit rfl ?_
    exact KN.ret (rs := []) Tryd.results78 rfl (fun w hw => ⟨(), rfl, trivial, by rw [List.take_length] at hw; exact hw⟩)
end Go.Proofs.YtcapijdokbkgaaaDoor
end
section
/- The document's chip: a read. Conditions: it is lent; its plan is read where it lies. -/
namespace Go.Proofs.YtcapijdokbkgaaaDoor
open Go Go.Sx Go.Fm
set_option maxRecDepth 100000
/-- The plan is where it was. -/
structure DcG.Same (x z : DcG) : Prop where
  a : z.pA = x.pA
  c : z.pc = x.pc
  l : z.plan = x.plan
theorem DcG.Same.refl (x : DcG) : x.Same x := ⟨rfl, rfl, rfl⟩
def hitsT (x : DcG) (i : Nat) : List FtG := (x.plan.take i).filter (fun f => decide (f.op = x.ops))
theorem hitsT_yes {x : DcG} {i : Nat} (h : i < x.plan.length) (ho : (gF x.plan i).op = x.ops) : hitsT x (i + 1) = hitsT x i ++ [gF x.plan i] := by
  unfold hitsT
  rw [List.take_add_one, gF_at h, Option.toList_some, List.filter_append, List.filter_cons_of_pos (by simpa using ho), List.filter_nil]
theorem hitsT_no {x : DcG} {i : Nat} (h : i < x.plan.length) (ho : ¬ (gF x.plan i).op = x.ops) : hitsT x (i + 1) = hitsT x i := by
  unfold hitsT
  rw [List.take_add_one, gF_at h, Option.toList_some, List.filter_append, List.filter_cons_of_neg (by simpa using ho), List.filter_nil, List.append_nil]
theorem hitsT_all (x : DcG) : hitsT x x.plan.length = x.hitsG := by
  unfold hitsT DcG.hitsG
  rw [List.take_length]
theorem flipsG_snoc (l : List FtG) (f : FtG) (v : Int) (b : List Nat) : flipsG (l ++ [f]) v b = flip1 v (flipsG l v b) f := by
  unfold flipsG
  rw [List.foldl_append]
  rfl
theorem spoilsG_snoc (l : List FtG) (f : FtG) (b : List Nat) : spoilsG (l ++ [f]) b = spoil1 (spoilsG l b) f := by
  unfold spoilsG
  rw [List.foldl_append]
  rfl

set_option maxHeartbeats 1600000 in

theorem dread_spec (F : Nat → Prop) (g : Nat) (x : DcG) (hx : x.abs.Ok) (b p level : Int) (w : World) (hP : ∀ w', Fr F w w' → PlIn x.pA x.plan w') (hw : St F w [docA g x] w) : SpecP Tryd.prog 33 [.pointer (some ⟨g, 0, none⟩), .agg #[.int .i64 b, .int .i64 p], .int .i64 level] F w (X := (Option Addr × Nat) × DcG) (fun z => two (.slice z.1.1 (x.abs.rd b p level).2.1.length z.1.2) (.int .i64 (x.abs.rd b p level).1)) (fun z => z.2.abs = (x.abs.rd b p level).2.2 ∧ x.Same z.2) (fun z => [own 5 1 z.1.1 (x.abs.rd b p level).2.1.length z.1.2 (nats .u8 (x.abs.rd b p level).2.1), docA g z.2]) := by
  refine spec_ofC Tryd.func33 rfl Tryd.ntmps33 rfl hw ?_
  refine CW.seq ?_
  refine CW.reg [0, 1, 2] rfl ?_
  refine s_box 4 rfl rfl (fun _ _ => trivial) (fun b4 => ?_)
  refine s_as 6 rfl rfl ?_
  refine s_as 7 rfl rfl ?_
  refine SX.next ?_
  refine CW.seq ?_
  refine CW.seq ?_
  refine CW.reg [0, 1, 2, 3] rfl ?_
  refine s_mv 13 rfl rfl ?_
  refine s_nil 14 rfl rfl ?_
  refine s_fa 15 rfl rfl ?_
  refine s_ld 16 rfl rfl (v := .bool x.off) (fun _ hw => doc_cell (hw.has (i := 1) rfl) rfl) ?_
  refine SX.next ?_
  refine CW.cond rfl (fun hof => ?_) (fun hof => ?_)
  · skip
    have hE : x.abs.rdE b p level = 109 := by
      unfold ChS.rdE askC
      rw [show x.abs.off = true from hof]
      rfl
    refine CW.seq ?_
    refine CW.reg [0, 1] rfl ?_
    refine s_as 6 rfl rfl ?_
    refine s_as 7 rfl rfl ?_
    refine SX.next ?_
    refine CW.ret ?_
    exact KN.ret (rs := [.tmp 6, .tmp 7]) Tryd.results33 rfl (fun w hw => ⟨((none, 0), x), by rw [rd_err (by rw [hE]; decide), hE]; rfl, by rw [rd_err (by rw [hE]; decide)]; exact ⟨rfl, .refl x⟩, by rw [rd_err (by rw [hE]; decide)]; exact (hw.pick [1] rfl).begin_ 5 1⟩)
  · skip
    refine CW.skip ?_
    refine KN.code ?_
    refine CW.seq ?_
    refine CW.seq ?_
    refine CW.reg [0, 1, 2, 3, 4, 5, 6, 7, 8, 9, 10, 11, 12, 13, 14, 15] rfl ?_
    refine s_mv 17 rfl rfl ?_
    refine s_ldW 18 0 rfl rfl rfl ?_
    refine s_call1 19 rfl rfl rfl rfl (fun w hw => dhas_spec g x b p w (hw.has (i := 1) rfl)) (fun _ _ => trivial) ?_
    refine s_not 20 rfl rfl ?_
    refine s_mv 21 rfl rfl ?_
    refine SX.bool 21 rfl (fun hb => ?_) (fun hb => ?_)
    · skip
      have hin : x.abs.inn b p = false := by simpa using hb
      have hE : x.abs.rdE b p level = 110 := by
        unfold ChS.rdE askC
        rw [show x.abs.off = false from hof, hin]
        rfl
      refine SX.skip rfl ?_
      refine SX.skip rfl ?_
      refine s_pickT 24 rfl rfl rfl ?_
      refine s_mv 25 rfl rfl ?_
      refine SX.skip rfl ?_
      refine SX.skip rfl ?_
      refine SX.skip rfl ?_
      refine SX.skip rfl ?_
      refine SX.skip rfl ?_
      refine SX.skip rfl ?_
      refine s_pickT 32 rfl rfl rfl ?_
      refine SX.next ?_
      refine CW.condT rfl ?_
      refine CW.seq ?_
      refine CW.reg [0, 1] rfl ?_
      refine s_as 6 rfl rfl ?_
      refine s_as 7 rfl rfl ?_
      refine SX.next ?_
      refine CW.ret ?_
      exact KN.ret (rs := [.tmp 6, .tmp 7]) Tryd.results33 rfl (fun w hw => ⟨((none, 0), x), by rw [rd_err (by rw [hE]; decide), hE]; rfl, by rw [rd_err (by rw [hE]; decide)]; exact ⟨rfl, .refl x⟩, by rw [rd_err (by rw [hE]; decide)]; exact (hw.pick [1] rfl).begin_ 5 1⟩)
    · skip
      have hin : x.abs.inn b p = true := by simpa using hb
      refine s_mv 22 rfl rfl ?_
      refine s_lt 23 rfl rfl rfl rfl ?_
      refine s_pickF 24 rfl rfl rfl ?_
      refine s_mv 25 rfl rfl ?_
      refine SX.bool 25 rfl (fun hb => ?_) (fun hb => ?_)
      · skip
        have hlv := of_decide_eq_true hb
        have hE : x.abs.rdE b p level = 110 := by
          unfold ChS.rdE askC
          rw [show x.abs.off = false from hof, hin, decide_eq_false (fun h : 0 ≤ level ∧ level < x.abs.levels => by omega)]
          rfl
        refine SX.skip rfl ?_
        refine SX.skip rfl ?_
        refine SX.skip rfl ?_
        refine SX.skip rfl ?_
        refine SX.skip rfl ?_
        refine SX.skip rfl ?_
        refine s_pickT 32 rfl rfl rfl ?_
        refine SX.next ?_
        refine CW.condT rfl ?_
        refine CW.seq ?_
        refine CW.reg [0, 1] rfl ?_
        refine s_as 6 rfl rfl ?_
        refine s_as 7 rfl rfl ?_
        refine SX.next ?_
        refine CW.ret ?_
        exact KN.ret (rs := [.tmp 6, .tmp 7]) Tryd.results33 rfl (fun w hw => ⟨((none, 0), x), by rw [rd_err (by rw [hE]; decide), hE]; rfl, by rw [rd_err (by rw [hE]; decide)]; exact ⟨rfl, .refl x⟩, by rw [rd_err (by rw [hE]; decide)]; exact (hw.pick [1] rfl).begin_ 5 1⟩)
      · skip
        have hlv := of_decide_eq_false hb
        refine s_mv 26 rfl rfl ?_
        refine s_mv 27 rfl rfl ?_
        refine s_nil 28 rfl rfl ?_
        refine s_fa 29 rfl rfl ?_
        refine s_ld 30 rfl rfl (v := .int .i64 x.levels) (fun _ hw => doc_cell (hw.has (i := 1) rfl) rfl) ?_
        refine s_ge 31 rfl rfl rfl rfl ?_
        refine s_pickF 32 rfl rfl rfl ?_
        refine SX.next ?_
        refine CW.test rfl (fun h3 => ?_) (fun h3 => ?_)
        · skip
          have hE : x.abs.rdE b p level = 110 := by
            unfold ChS.rdE askC
            rw [show x.abs.off = false from hof, hin, decide_eq_false (show ¬ (0 ≤ level ∧ level < x.abs.levels) from fun h => by have h4 : level < x.levels := h.2; omega)]
            rfl
          refine CW.seq ?_
          refine CW.reg [0, 1] rfl ?_
          refine s_as 6 rfl rfl ?_
          refine s_as 7 rfl rfl ?_
          refine SX.next ?_
          refine CW.ret ?_
          exact KN.ret (rs := [.tmp 6, .tmp 7]) Tryd.results33 rfl (fun w hw => ⟨((none, 0), x), by rw [rd_err (by rw [hE]; decide), hE]; rfl, by rw [rd_err (by rw [hE]; decide)]; exact ⟨rfl, .refl x⟩, by rw [rd_err (by rw [hE]; decide)]; exact (hw.pick [1] rfl).begin_ 5 1⟩)
        · skip
          have hz0 : x.abs.rdE b p level = 0 := by
            unfold ChS.rdE askC
            rw [show x.abs.off = false from hof, hin, decide_eq_true (show 0 ≤ level ∧ level < x.abs.levels from ⟨by omega, by show level < x.levels; omega⟩)]
            rfl
          obtain ⟨i, k, bk, pg, hbi, hpk, hbk, hpg, hba, hpa⟩ := dinn_at hx hin
          have hil := (List.getElem?_eq_some_iff.1 hbk).1
          have hkl := (List.getElem?_eq_some_iff.1 hpg).1
          have hbm := List.mem_of_getElem? hbk
          have hpm := List.mem_of_getElem? hpg
          obtain ⟨ho1, ho2, ho3, ho4⟩ := dpg_ok hx hbk hpg
          have hz1 : x.size ≤ 4096 := hx.z1
          have hpl9 := dplan_len hx
          refine CW.skip ?_
          refine KN.code ?_
          refine CW.seq ?_
          refine CW.reg [0, 1, 2, 3, 4, 5, 6, 7] rfl ?_
          refine s_mv 34 rfl rfl ?_
          refine s_call1 35 rfl rfl rfl rfl (fun w hw => dfirst_spec g x 3 w (hw.has (i := 1) rfl) (hP _ hw.fr) (dplan_len hx)) (fun _ _ => trivial) ?_
          refine s_mv 33 rfl rfl ?_
          refine s_ext 36 rfl rfl rfl ?_
          refine s_ext 37 rfl rfl rfl ?_
          refine s_alloc 8 rfl (fun _ _ => trivial) (fun b8 => ?_)
          refine s_stAll 0 rfl rfl (by kernel_rfl) rfl rfl rfl rfl (fun _ _ => trivial) ?_
          refine s_as 9 rfl rfl ?_
          refine SX.next ?_
          refine CW.seq ?_
          refine CW.seq ?_
          refine CW.reg [0] rfl ?_
          refine s_mv 38 rfl rfl ?_
          refine SX.next ?_
          refine CW.cond rfl (fun hct => ?_) (fun hct => ?_)
          · skip
            rw [dfind_some] at hct
            refine CW.seq ?_
            refine CW.pre (fun _ h => (h.pick [2, 0, 0] rfl).docO) ?_
            refine CW.reg [0, 1, 2, 3, 4, 5, 6, 7, 8] rfl ?_
            refine s_mv 39 rfl rfl ?_
            refine s_mv 40 rfl rfl ?_
            refine s_nil 41 rfl rfl ?_
            refine s_fa 42 rfl rfl ?_
            refine s_ldB 43 0 rfl rfl rfl (v := .int .i64 x.ops) rfl ?_
            refine s_add 44 rfl rfl rfl (r := wr (x.ops + 1)) rfl ?_
            refine s_nil 45 rfl rfl ?_
            refine s_fa 46 rfl rfl ?_
            refine s_stB 0 rfl rfl rfl rfl rfl (by show 8 < 11; decide) (fun _ _ => trivial) ?_
            refine SX.next ?_
            refine CW.seq ?_
            refine CW.reg [0, 1, 2, 3] rfl ?_
            refine s_mv 47 rfl rfl ?_
            refine s_nil 48 rfl rfl ?_
            refine s_fa 49 rfl rfl ?_
            refine s_stB 0 rfl rfl rfl rfl rfl (by show 9 < 11; decide) (fun _ _ => trivial) ?_
            refine SX.next ?_
            refine CW.seq ?_
            refine CW.reg [0, 1] rfl ?_
            refine s_as 6 rfl rfl ?_
            refine s_as 7 rfl rfl ?_
            refine SX.next ?_
            refine CW.ret ?_
            exact KN.ret (rs := [.tmp 6, .tmp 7]) Tryd.results33 rfl (fun w hw => ⟨((none, 0), { x.tick with off := true }), by rw [rd_cut hz0 hct]; rfl, by rw [rd_cut hz0 hct]; exact ⟨rfl, ⟨rfl, rfl, rfl⟩⟩, by rw [rd_cut hz0 hct]; exact ((hw.pick [0, 0, 0, 0, 0] rfl).docC (x := { x.tick with off := true })).begin_ 5 1⟩)
          · skip
            rw [dfind_some] at hct
            refine CW.skip ?_
            refine KN.code ?_
            refine CW.seq ?_
            refine CW.regD (.st true 0 (.st true 1 (.st true 2 (.st true 3 (.st true 4 (.st true 5 (.st true 6 (.st true 7 (.st true 8 (.st true 9 (.st true 10 (.st true 11 (.st true 12 (.st false 13 (.st true 14 .done))))))))))))))) (St F w [blk b8 48 (findG x.hitsG 3 |>.getD FtG.nul).row.toArray, blk b4 31 #[.int .i64 b, .int .i64 p], docA g x]) mixed (by kernel_rfl) (fun _ h => h.drew) (fun _ h => h) ?_
            refine s_mv 50 rfl rfl ?_
            refine s_nil 51 rfl rfl ?_
            refine s_fa 52 rfl rfl ?_
            refine s_ldS 53 rfl rfl (v := .slice x.A x.blocks.length x.c) (fun _ hw => doc_cell (hw.has (i := 2) rfl) rfl) ?_
            refine s_fa 54 rfl rfl ?_
            refine s_ldS 55 rfl rfl (v := .int .i64 b) (fun _ hw => hw.blkCell (i := 1) (j := 0) rfl rfl) ?_
            refine s_iaV 56 i (fun w hw => doc_hds (hw.has (i := 2) rfl)) rfl rfl rfl hbi hil ?_
            refine s_ldVS 57 (fun w hw => doc_hds (hw.has (i := 2) rfl)) rfl rfl (hdr_at1 hbk) (by omega) ?_
            refine s_fa 58 rfl rfl ?_
            refine s_ldS 59 rfl rfl (v := .int .i64 p) (fun _ hw => hw.blkCell (i := 1) (j := 1) rfl rfl) ?_
            refine s_iaV 60 k (fun w hw => db_rows (doc_bk (hw.has (i := 2) rfl) hbm)) rfl rfl rfl hpk hkl ?_
            refine s_fa 61 rfl rfl ?_
            refine s_ldS 62 rfl rfl (v := .slice pg.A pg.l.length pg.c) (fun _ hw => dpage_cell (hw.has (i := 2) rfl) hbk hpg (j := 0) rfl) ?_
            refine s_call 63 rfl rfl rfl rfl (fun w hw => rbytes_spec pg.A pg.l.length pg.c pg.l w (dp_own1 (db_pg (doc_bk (hw.has (i := 2) rfl) hbm) hpm)) (by omega)) (fun _ h => h) (fun zo hzo => ?_)
            refine s_as 10 rfl rfl ?_
            refine SX.next ?_
            refine CW.seq ?_
            refine CW.seq ?_
            refine CW.reg [0] rfl ?_
            refine s_as 11 rfl rfl ?_
            refine SX.next ?_
            refine CW.block ?_
            refine CW.loop (G := Nat) (fun j => [(0, .pointer (some ⟨g, 0, none⟩)), (2, .int .i64 level), (10, .slice zo.1 pg.l.length zo.2), (11, .int .i64 (j : Nat))]) (fun j => St F w [own 5 1 zo.1 pg.l.length zo.2 (nats .u8 (flipsG (hitsT x j) level pg.l)), docA g x]) (fun j => j ≤ x.plan.length) (fun j => x.plan.length - j) 0 ⟨rfl, rfl, rfl, rfl, trivial⟩ (fun _ h => h.pick [0, 2] rfl) (Nat.zero_le _) ?_
            intro j hj
            refine CW.seq ?_
            refine CW.seq ?_
            refine CW.reg [0, 1, 2, 3, 4, 5, 6] rfl ?_
            refine s_mv 64 rfl rfl ?_
            refine s_mv 65 rfl rfl ?_
            refine s_nil 66 rfl rfl ?_
            refine s_fa 67 rfl rfl ?_
            refine s_ld 68 rfl rfl (v := .slice x.pA x.plan.length x.pc) (fun _ hw => doc_cell (hw.has (i := 1) rfl) rfl) ?_
            refine s_len 69 rfl rfl ?_
            refine s_lt 70 rfl rfl rfl rfl ?_
            refine SX.next ?_
            refine CW.test rfl (fun hc => ?_) (fun hc => ?_)
            · skip
              have hjl : j < x.plan.length := by omega
              have hg := gF_at hjl
              have hgm := gF_mem hjl
              obtain ⟨hfl, hf8⟩ := flipsG_ok level (hitsT x j) pg.l
              have hf82 := hf8 ho2
              have hfb := dft_bits hx hgm
              refine CW.skip ?_
              refine KN.code ?_
              refine CW.seq ?_
              refine CW.block ?_
              refine CW.seq ?_
              refine CW.reg [0, 1, 2, 3, 4, 5, 6, 7, 8] rfl ?_
              refine s_mv 73 rfl rfl ?_
              refine s_nil 74 rfl rfl ?_
              refine s_fa 75 rfl rfl ?_
              refine s_ld 76 rfl rfl (v := .slice x.pA x.plan.length x.pc) (fun _ hw => doc_cell (hw.has (i := 1) rfl) rfl) ?_
              refine s_mv 77 rfl rfl ?_
              refine s_iaV 78 j (fun w hw => (hP _ hw.fr).rows) rfl rfl rfl rfl hjl ?_
              refine s_ldR 79 (cs := (gF x.plan j).row) rfl rfl rfl (fun w hw => (hP _ hw.fr).rows.rowAt ftRow_len hg (by omega)) ?_
              refine s_alloc 12 rfl (fun _ _ => trivial) (fun b12 => ?_)
              refine s_stAll 0 rfl rfl (by kernel_rfl) rfl rfl rfl rfl (fun _ _ => trivial) ?_
              refine SX.next ?_
              refine CW.seq ?_
              refine CW.regD (.st true 0 (.st true 1 (.st true 2 (.st true 3 (.st true 4 (.st true 5 (.st true 6 (.st true 7 (.st true 8 (.st true 9 (.st true 10 (.st true 11 (.st true 12 (.st true 13 (.st true 14 (.st true 15 (.st true 16 (.st true 17 (.st true 18 (.st true 19 (.st true 20 (.st true 21 (.st true 22 .done))))))))))))))))))))))) (St F w [blk b12 48 #[.int .i64 (gF x.plan j).op, .int .i64 (gF x.plan j).kind, .int .i64 (gF x.plan j).level, .int .i64 (gF x.plan j).n, .slice (gF x.plan j).A (gF x.plan j).bits.length (gF x.plan j).c], own 5 1 zo.1 pg.l.length zo.2 (nats .u8 (flipsG (hitsT x j) level pg.l)), docA g x]) mixed (by kernel_rfl) (fun _ h => h.drew) (fun _ h => h) ?_
              refine s_fa 80 rfl rfl ?_
              refine s_ldS 81 rfl rfl (v := .int .i64 (gF x.plan j).op) (fun _ hw => hw.blkCell (i := 0) (j := 0) rfl rfl) ?_
              refine s_mv 82 rfl rfl ?_
              refine s_nil 83 rfl rfl ?_
              refine s_fa 84 rfl rfl ?_
              refine s_ldS 85 rfl rfl (v := .int .i64 x.ops) (fun _ hw => doc_cell (hw.has (i := 2) rfl) rfl) ?_
              refine s_eq 86 rfl rfl rfl rfl ?_
              refine s_mv 87 rfl rfl ?_
              refine SX.bool 87 rfl (fun hb => ?_) (fun hb => ?_)
              · skip
                have hop := of_decide_eq_true hb
                have hsn : flipsG (hitsT x (j + 1)) level pg.l = flip1 level (flipsG (hitsT x j) level pg.l) (gF x.plan j) := by rw [hitsT_yes hjl hop, flipsG_snoc]
                refine s_fa 88 rfl rfl ?_
                refine s_ldS 89 rfl rfl (v := .int .i64 (gF x.plan j).kind) (fun _ hw => hw.blkCell (i := 0) (j := 1) rfl rfl) ?_
                refine s_eq 90 rfl rfl rfl rfl ?_
                refine s_pickT 91 rfl rfl rfl ?_
                refine s_mv 92 rfl rfl ?_
                refine SX.bool 92 rfl (fun hb => ?_) (fun hb => ?_)
                · skip
                  have hk1 := of_decide_eq_true hb
                  refine s_fa 93 rfl rfl ?_
                  refine s_ldS 94 rfl rfl (v := .int .i64 (gF x.plan j).level) (fun _ hw => hw.blkCell (i := 0) (j := 2) rfl rfl) ?_
                  refine s_eq 95 rfl rfl rfl rfl ?_
                  refine s_mv 96 rfl rfl ?_
                  refine SX.bool 96 rfl (fun hb => ?_) (fun hb => ?_)
                  · skip
                    have hl1 := of_decide_eq_true hb
                    have hnx : flipsG (hitsT x (j + 1)) level pg.l = turnL (flipsG (hitsT x j) level pg.l) (gF x.plan j).bits := by
                      rw [hsn]
                      unfold flip1
                      rw [if_pos ⟨hk1, .inl hl1⟩]
                    refine SX.skip rfl ?_
                    refine SX.skip rfl ?_
                    refine SX.skip rfl ?_
                    refine SX.skip rfl ?_
                    refine s_pickT 101 rfl rfl rfl ?_
                    refine s_pickT 102 rfl rfl rfl ?_
                    refine SX.next ?_
                    refine CW.condT rfl ?_
                    refine CW.reg [0, 1, 2, 3] rfl ?_
                    refine s_mv 103 rfl rfl ?_
                    refine s_fa 104 rfl rfl ?_
                    refine s_ld 105 rfl rfl (v := .slice (gF x.plan j).A (gF x.plan j).bits.length (gF x.plan j).c) (fun _ hw => hw.blkCell (i := 0) (j := 4) rfl rfl) ?_
                    refine s_callP 106 [1, 0, 0] (M := [own 5 1 zo.1 pg.l.length zo.2 (nats .u8 (flipsG (hitsT x j) level pg.l))]) (R := [blk b12 48 #[.int .i64 (gF x.plan j).op, .int .i64 (gF x.plan j).kind, .int .i64 (gF x.plan j).level, .int .i64 (gF x.plan j).n, .slice (gF x.plan j).A (gF x.plan j).bits.length (gF x.plan j).c], docA g x]) (X := Unit) (v := fun _ => oneOf []) (pf := fun _ => True) (M' := fun _ => [own 5 1 zo.1 pg.l.length zo.2 (nats .u8 (turnL (flipsG (hitsT x j) level pg.l) (gF x.plan j).bits))]) rfl rfl rfl rfl rfl (fun F' w' hR hM => by have := dturn_spec F' zo.1 zo.2 (flipsG (hitsT x j) level pg.l) (gF x.plan j).A (gF x.plan j).c (gF x.plan j).bits w' hf82 (by rw [hfl]; omega) (fun w2 hf => (hP _ (hR w2 hf).fr).bits _ hgm) hfb (by rw [hfl]; exact hM); rw [hfl] at this; exact this) (fun _ _ _ => trivial) (fun _ _ => ?_)
                    refine SX.end_ ?_
                    refine KN.blk ?_
                    refine KN.code ?_
                    refine CW.reg [0, 1, 2] rfl ?_
                    refine s_mv 71 rfl rfl ?_
                    refine s_add 72 rfl rfl rfl (r := ((j + 1 : Nat) : Int)) (w64 (by omega)) ?_
                    refine s_as 11 rfl rfl ?_
                    refine SX.end_ ?_
                    exact KN.back (j + 1) ⟨rfl, rfl, rfl, rfl, trivial⟩ (fun _ h => by rw [hnx]; exact h.pick [0, 1] rfl) (by omega) (by omega)
                  · skip
                    have hl1 := of_decide_eq_false hb
                    refine s_fa 97 rfl rfl ?_
                    refine s_ldS 98 rfl rfl (v := .int .i64 (gF x.plan j).level) (fun _ hw => hw.blkCell (i := 0) (j := 2) rfl rfl) ?_
                    refine s_mv 99 rfl rfl ?_
                    refine s_eq 100 rfl rfl rfl rfl ?_
                    refine s_pickF 101 rfl rfl rfl ?_
                    refine s_pickT 102 rfl rfl rfl ?_
                    refine SX.next ?_
                    refine CW.test rfl (fun hl2 => ?_) (fun hl2 => ?_)
                    · skip
                      have hnx : flipsG (hitsT x (j + 1)) level pg.l = turnL (flipsG (hitsT x j) level pg.l) (gF x.plan j).bits := by
                        rw [hsn]
                        unfold flip1
                        rw [if_pos ⟨hk1, .inr hl2⟩]
                      refine CW.reg [0, 1, 2, 3] rfl ?_
                      refine s_mv 103 rfl rfl ?_
                      refine s_fa 104 rfl rfl ?_
                      refine s_ld 105 rfl rfl (v := .slice (gF x.plan j).A (gF x.plan j).bits.length (gF x.plan j).c) (fun _ hw => hw.blkCell (i := 0) (j := 4) rfl rfl) ?_
                      refine s_callP 106 [1, 0, 0] (M := [own 5 1 zo.1 pg.l.length zo.2 (nats .u8 (flipsG (hitsT x j) level pg.l))]) (R := [blk b12 48 #[.int .i64 (gF x.plan j).op, .int .i64 (gF x.plan j).kind, .int .i64 (gF x.plan j).level, .int .i64 (gF x.plan j).n, .slice (gF x.plan j).A (gF x.plan j).bits.length (gF x.plan j).c], docA g x]) (X := Unit) (v := fun _ => oneOf []) (pf := fun _ => True) (M' := fun _ => [own 5 1 zo.1 pg.l.length zo.2 (nats .u8 (turnL (flipsG (hitsT x j) level pg.l) (gF x.plan j).bits))]) rfl rfl rfl rfl rfl (fun F' w' hR hM => by have := dturn_spec F' zo.1 zo.2 (flipsG (hitsT x j) level pg.l) (gF x.plan j).A (gF x.plan j).c (gF x.plan j).bits w' hf82 (by rw [hfl]; omega) (fun w2 hf => (hP _ (hR w2 hf).fr).bits _ hgm) hfb (by rw [hfl]; exact hM); rw [hfl] at this; exact this) (fun _ _ _ => trivial) (fun _ _ => ?_)
                      refine SX.end_ ?_
                      refine KN.blk ?_
                      refine KN.code ?_
                      refine CW.reg [0, 1, 2] rfl ?_
                      refine s_mv 71 rfl rfl ?_
                      refine s_add 72 rfl rfl rfl (r := ((j + 1 : Nat) : Int)) (w64 (by omega)) ?_
                      refine s_as 11 rfl rfl ?_
                      refine SX.end_ ?_
                      exact KN.back (j + 1) ⟨rfl, rfl, rfl, rfl, trivial⟩ (fun _ h => by rw [hnx]; exact h.pick [0, 1] rfl) (by omega) (by omega)
                    · skip
                      have hnx : flipsG (hitsT x (j + 1)) level pg.l = flipsG (hitsT x j) level pg.l := by
                        rw [hsn]
                        unfold flip1
                        rw [if_neg (fun h => h.2.elim hl1 hl2)]
                      refine CW.skip ?_
                      refine KN.blk ?_
                      refine KN.code ?_
                      refine CW.reg [0, 1, 2] rfl ?_
                      refine s_mv 71 rfl rfl ?_
                      refine s_add 72 rfl rfl rfl (r := ((j + 1 : Nat) : Int)) (w64 (by omega)) ?_
                      refine s_as 11 rfl rfl ?_
                      refine SX.end_ ?_
                      exact KN.back (j + 1) ⟨rfl, rfl, rfl, rfl, trivial⟩ (fun _ h => by rw [hnx]; exact h.pick [1, 1] rfl) (by omega) (by omega)
                · skip
                  have hk1 := of_decide_eq_false hb
                  have hnx : flipsG (hitsT x (j + 1)) level pg.l = flipsG (hitsT x j) level pg.l := by
                    rw [hsn]
                    unfold flip1
                    rw [if_neg (fun h => hk1 h.1)]
                  refine SX.skip rfl ?_
                  refine SX.skip rfl ?_
                  refine SX.skip rfl ?_
                  refine SX.skip rfl ?_
                  refine SX.skipU rfl ?_
                  refine SX.skipU rfl ?_
                  refine SX.skipU rfl ?_
                  refine SX.skipU rfl ?_
                  refine SX.skip rfl ?_
                  refine s_pickF 102 rfl rfl rfl ?_
                  refine SX.next ?_
                  refine CW.condF rfl ?_
                  refine CW.skip ?_
                  refine KN.blk ?_
                  refine KN.code ?_
                  refine CW.reg [0, 1, 2] rfl ?_
                  refine s_mv 71 rfl rfl ?_
                  refine s_add 72 rfl rfl rfl (r := ((j + 1 : Nat) : Int)) (w64 (by omega)) ?_
                  refine s_as 11 rfl rfl ?_
                  refine SX.end_ ?_
                  exact KN.back (j + 1) ⟨rfl, rfl, rfl, rfl, trivial⟩ (fun _ h => by rw [hnx]; exact h.pick [1, 1] rfl) (by omega) (by omega)
              · skip
                have hop := of_decide_eq_false hb
                have hnx : flipsG (hitsT x (j + 1)) level pg.l = flipsG (hitsT x j) level pg.l := by rw [hitsT_no hjl hop]
                refine SX.skip rfl ?_
                refine SX.skip rfl ?_
                refine SX.skip rfl ?_
                refine s_pickF 91 rfl rfl rfl ?_
                refine s_mv 92 rfl rfl ?_
                refine SX.skip rfl ?_
                refine SX.skip rfl ?_
                refine SX.skip rfl ?_
                refine SX.skip rfl ?_
                refine SX.skipU rfl ?_
                refine SX.skipU rfl ?_
                refine SX.skipU rfl ?_
                refine SX.skipU rfl ?_
                refine SX.skip rfl ?_
                refine s_pickF 102 rfl rfl rfl ?_
                refine SX.next ?_
                refine CW.condF rfl ?_
                refine CW.skip ?_
                refine KN.blk ?_
                refine KN.code ?_
                refine CW.reg [0, 1, 2] rfl ?_
                refine s_mv 71 rfl rfl ?_
                refine s_add 72 rfl rfl rfl (r := ((j + 1 : Nat) : Int)) (w64 (by omega)) ?_
                refine s_as 11 rfl rfl ?_
                refine SX.end_ ?_
                exact KN.back (j + 1) ⟨rfl, rfl, rfl, rfl, trivial⟩ (fun _ h => by rw [hnx]; exact h.pick [1, 1] rfl) (by omega) (by omega)
            · skip
              obtain rfl : j = x.plan.length := by omega
              rw [hitsT_all]
              obtain ⟨hfl, hf8⟩ := flipsG_ok level x.hitsG pg.l
              have hfa : flipsG x.hitsG level pg.l = flips x.abs.hits level (x.abs.pg b p).cells := by rw [flipsG_abs, dhits_abs, hpa]; rfl
              refine CW.exit rfl ?_
              refine KN.code ?_
              refine CW.seq ?_
              refine CW.pre (fun _ h => (h.pick [1, 0] rfl).docO) ?_
              refine CW.reg [0, 1, 2, 3, 4, 5, 6, 7, 8] rfl ?_
              refine s_mv 107 rfl rfl ?_
              refine s_mv 108 rfl rfl ?_
              refine s_nil 109 rfl rfl ?_
              refine s_fa 110 rfl rfl ?_
              refine s_ldB 111 0 rfl rfl rfl (v := .int .i64 x.ops) rfl ?_
              refine s_add 112 rfl rfl rfl (r := wr (x.ops + 1)) rfl ?_
              refine s_nil 113 rfl rfl ?_
              refine s_fa 114 rfl rfl ?_
              refine s_stB 0 rfl rfl rfl rfl rfl (by show 8 < 11; decide) (fun _ _ => trivial) ?_
              refine SX.next ?_
              refine CW.seq ?_
              refine CW.reg [0, 1, 2] rfl ?_
              refine s_mv 115 rfl rfl ?_
              refine s_as 6 rfl rfl ?_
              refine s_as 7 rfl rfl ?_
              refine SX.next ?_
              refine CW.ret ?_
              exact KN.ret (rs := [.tmp 6, .tmp 7]) Tryd.results33 rfl (fun w hw => ⟨(zo, x.tick), by rw [rd_ok hz0 (by simpa using hct), ← hfa, hfl]; rfl, by rw [rd_ok hz0 (by simpa using hct)]; exact ⟨rfl, ⟨rfl, rfl, rfl⟩⟩, by
  have h1 := hw.docC (x := x.tick)
  rw [rd_ok hz0 (by simpa using hct), ← hfa, hfl]
  exact h1.pick [1, 0] rfl⟩)
end Go.Proofs.YtcapijdokbkgaaaDoor
end
section
/- The document's chip: a program. Conditions: it is lent; its plan and the bytes are read where they lie. -/
namespace Go.Proofs.YtcapijdokbkgaaaDoor
open Go Go.Sx Go.Fm
set_option maxRecDepth 100000
def DcG.hurt (x : DcG) (b p : Int) : DcG := { x with broken := if wrongAt (x.abs.bk b).pages p = true then wr (x.broken + 1) else x.broken }
theorem dlayN_cut {x : DcG} {f : FtG} (h : findG x.hitsG 3 = some f) (n : Int) : layN x.abs.hits n = (f.n, 109) := by
  unfold layN
  rw [← dhits_abs, ← findG_abs, h]
  rfl
theorem dlayN_fail {x : DcG} {f : FtG} (h3 : findG x.hitsG 3 = none) (h : findG x.hitsG 2 = some f) (n : Int) : layN x.abs.hits n = (f.n, 111) := by
  unfold layN
  rw [← dhits_abs, ← findG_abs, ← findG_abs, h3, h]
  rfl
theorem dlayN_all {x : DcG} (h3 : findG x.hitsG 3 = none) (h : findG x.hitsG 2 = none) (n : Int) : layN x.abs.hits n = (n, 0) := by
  unfold layN
  rw [← dhits_abs, ← findG_abs, ← findG_abs, h3, h]
  rfl
def wrongT (pages : List PgS) (p : Int) (j : Nat) : Bool := ((pages.take j).zipIdx).any (fun x => badAt p x.2 x.1)
theorem wrongT_all (pages : List PgS) (p : Int) : wrongT pages p pages.length = wrongAt pages p := by
  unfold wrongT
  rw [List.take_length]
  rfl
theorem wrongT_step {pages : List PgS} (p : Int) {j : Nat} {q : PgS} (h : pages[j]? = some q) : wrongT pages p (j + 1) = (wrongT pages p j || badAt p j q) := by
  unfold wrongT
  have hj := (List.getElem?_eq_some_iff.1 h).1
  rw [List.take_add_one, h, Option.toList_some, List.zipIdx_append, List.any_append, List.length_take, Nat.zero_add, Nat.min_eq_left (by omega)]
  simp
theorem bad_eq {p : Int} {j : Nat} {q : PgS} (h : ¬ (j : Int) < p) : badAt p j q = q.used := by
  unfold badAt
  rw [decide_eq_false h, decide_eq_true (show p ≤ (j : Int) by omega)]
  simp
theorem dsetPg_eq {s : ChS} {x : DcG} (hs : s.blocks = x.abs.blocks) {b p : Int} {i k : Nat} {bk : DbG} (hb : b = (i : Nat)) (hp : p = (k : Nat)) (hbk : x.blocks[i]? = some bk) {q : PgS} {q' : DpG} (hq : q'.abs = q) :
    s.setPg b p q = { s with blocks := (x.blocks.set i { bk with pages := bk.pages.set k q' }).map DbG.abs } := by
  have e2 : s.bk b = bk.abs := by
    unfold ChS.bk
    rw [hs, hb, Int.toNat_natCast, List.getD_eq_getElem?_getD, dabs_bk hbk, Option.getD_some]
  have e3 : ({ bk with pages := bk.pages.set k q' } : DbG).abs = { bk.abs with pages := bk.abs.pages.set k q } := by
    unfold DbG.abs
    simp only [List.map_set, hq]
  unfold ChS.setPg
  rw [e2, hs, hb, hp, Int.toNat_natCast, Int.toNat_natCast, List.map_set, e3]
  rfl
/-- A program that is carried out. -/
theorem dpr_ok {x : DcG} {b p : Int} {l : List Nat} (h : x.abs.prE b p l.length = 0) {i k : Nat} {bk : DbG} {pg : DpG} (hb : b = (i : Nat)) (hp : p = (k : Nat)) (hbk : x.blocks[i]? = some bk) (h1 : x.abs.bk b = bk.abs) (h2 : x.abs.pg b p = pg.abs) (A : Option Addr) (c : Nat) (B : Option Addr) (d : Nat) {r : Int × Int} (hr : layN x.abs.hits x.size = r) :
    (x.abs.pr b p l).1 = r.2 ∧ ({ (x.hurt b p).tick with off := (findG x.hitsG 3).isSome, blocks := x.blocks.set i { bk with pages := bk.pages.set k ⟨A, c, andTo (clampN r.1 x.size) pg.l (spoilsG x.hitsG l), true, B, d, l⟩ } } : DcG).abs = (x.abs.pr b p l).2 := by
  unfold ChS.pr
  rw [if_neg (fun hn => hn h)]
  have hr2 : layN x.abs.hits x.abs.size = r := hr
  simp only [hr2]
  refine ⟨trivial, ?_⟩
  rw [h2, h1, ← dhits_abs, ← spoilsG_abs]
  have e3 : (findG x.hitsG 3).isSome = (findK (x.hitsG.map FtG.abs) 3).isSome := by rw [← findG_abs, Option.isSome_map]
  rw [e3]
  refine Eq.trans ?_ (Eq.symm (dsetPg_eq (x := x) ?_ hb hp hbk (q' := ⟨A, c, andTo (clampN r.1 x.size) pg.l (spoilsG x.hitsG l), true, B, d, l⟩) ?_))
  · unfold DcG.hurt DcG.tick ChS.tick
    rw [h1]
    rfl
  · rfl
  · rfl
theorem map_keep {α β : Type} {f : α → β} {l : List α} {i : Nat} {a b : α} (h : l[i]? = some a) (he : f b = f a) : (l.set i b).map f = l.map f := by
  rw [List.map_set, he]
  exact List.set_eq_self (by rw [List.getElem?_map, h]; rfl)

set_option maxHeartbeats 3200000 in

theorem dprogram_spec (F : Nat → Prop) (g : Nat) (x : DcG) (hx : x.abs.Ok) (b p : Int) (A : Option Addr) (c : Nat) (l : List Nat) (w : World) (hP : ∀ w', Fr F w w' → PlIn x.pA x.plan w') (hB : ∀ w', Fr F w w' → Has (sl 1 A l.length (nats .u8 l)) w') (h8 : ∀ t ∈ l, t < 256) (hl : l.length ≤ 4096) (hw : St F w [docA g x] w) : SpecP Tryd.prog 34 [.pointer (some ⟨g, 0, none⟩), .agg #[.int .i64 b, .int .i64 p], .slice A l.length c] F w (X := DcG) (fun _ => .int .i64 (x.abs.pr b p l).1) (fun z => z.abs = (x.abs.pr b p l).2 ∧ x.Same z) (fun z => [docA g z]) := by
  refine spec_ofC Tryd.func34 rfl Tryd.ntmps34 rfl hw ?_
  refine CW.seq ?_
  refine CW.reg [0, 1] rfl ?_
  refine s_box 4 rfl rfl (fun _ _ => trivial) (fun b4 => ?_)
  refine s_as 6 rfl rfl ?_
  refine SX.next ?_
  refine CW.seq ?_
  refine CW.seq ?_
  refine CW.reg [0, 1, 2, 3] rfl ?_
  refine s_mv 20 rfl rfl ?_
  refine s_nil 21 rfl rfl ?_
  refine s_fa 22 rfl rfl ?_
  refine s_ld 23 rfl rfl (v := .bool x.off) (fun _ hw => doc_cell (hw.has (i := 1) rfl) rfl) ?_
  refine SX.next ?_
  refine CW.cond rfl (fun hof => ?_) (fun hof => ?_)
  · skip
    have hE : x.abs.prE b p l.length = 109 := by
      unfold ChS.prE askC
      rw [show x.abs.off = true from hof]
      rfl
    refine CW.seq ?_
    refine CW.reg [0] rfl ?_
    refine s_as 6 rfl rfl ?_
    refine SX.next ?_
    refine CW.ret ?_
    exact KN.ret (rs := [.tmp 6]) Tryd.results34 rfl (fun w hw => ⟨x, by rw [pr_err (by rw [hE]; decide), hE]; rfl, by rw [pr_err (by rw [hE]; decide)]; exact ⟨rfl, .refl x⟩, hw.pick [1] rfl⟩)
  · skip
    replace hof : x.off = false := by simpa using hof
    refine CW.skip ?_
    refine KN.code ?_
    refine CW.seq ?_
    refine CW.seq ?_
    refine CW.reg [0, 1, 2, 3] rfl ?_
    refine s_mv 24 rfl rfl ?_
    refine s_ldW 25 0 rfl rfl rfl ?_
    refine s_call1 26 rfl rfl rfl rfl (fun w hw => dhas_spec g x b p w (hw.has (i := 1) rfl)) (fun _ _ => trivial) ?_
    refine s_not 27 rfl rfl ?_
    refine SX.next ?_
    refine CW.cond rfl (fun hin => ?_) (fun hin => ?_)
    · skip
      replace hin : x.abs.inn b p = false := by simpa using hin
      have hE : x.abs.prE b p l.length = 110 := by
        unfold ChS.prE askC
        rw [show x.abs.off = false from hof, hin]
        rfl
      refine CW.seq ?_
      refine CW.reg [0] rfl ?_
      refine s_as 6 rfl rfl ?_
      refine SX.next ?_
      refine CW.ret ?_
      exact KN.ret (rs := [.tmp 6]) Tryd.results34 rfl (fun w hw => ⟨x, by rw [pr_err (by rw [hE]; decide), hE]; rfl, by rw [pr_err (by rw [hE]; decide)]; exact ⟨rfl, .refl x⟩, hw.pick [1] rfl⟩)
    · skip
      replace hin : x.abs.inn b p = true := by simpa using hin
      refine CW.skip ?_
      refine KN.code ?_
      refine CW.seq ?_
      refine CW.seq ?_
      refine CW.reg [0, 1, 2, 3, 4, 5, 6] rfl ?_
      refine s_mv 28 rfl rfl ?_
      refine s_len 29 rfl rfl ?_
      refine s_mv 30 rfl rfl ?_
      refine s_nil 31 rfl rfl ?_
      refine s_fa 32 rfl rfl ?_
      refine s_ld 33 rfl rfl (v := .int .i64 x.size) (fun _ hw => doc_cell (hw.has (i := 1) rfl) rfl) ?_
      refine s_ne 34 rfl rfl rfl rfl ?_
      refine SX.next ?_
      refine CW.test rfl (fun hsz => ?_) (fun hsz => ?_)
      · skip
        have hE : x.abs.prE b p l.length = 116 := by
          unfold ChS.prE askC
          rw [show x.abs.off = false from hof, hin, decide_eq_false (show ¬ ((l.length : Nat) : Int) = x.abs.size from hsz)]
          rfl
        refine CW.seq ?_
        refine CW.reg [0] rfl ?_
        refine s_as 6 rfl rfl ?_
        refine SX.next ?_
        refine CW.ret ?_
        exact KN.ret (rs := [.tmp 6]) Tryd.results34 rfl (fun w hw => ⟨x, by rw [pr_err (by rw [hE]; decide), hE]; rfl, by rw [pr_err (by rw [hE]; decide)]; exact ⟨rfl, .refl x⟩, hw.pick [1] rfl⟩)
      · skip
        have hln : ((l.length : Nat) : Int) = x.size := Decidable.of_not_not hsz
        have hz0 : x.abs.prE b p l.length = 0 := by
          unfold ChS.prE askC
          rw [show x.abs.off = false from hof, hin, decide_eq_true (show ((l.length : Nat) : Int) = x.abs.size from hln)]
          rfl
        obtain ⟨i, k, bk, pg, hbi, hpk, hbk, hpg, hba, hpa⟩ := dinn_at hx hin
        have hil := (List.getElem?_eq_some_iff.1 hbk).1
        have hkl := (List.getElem?_eq_some_iff.1 hpg).1
        have hbm := List.mem_of_getElem? hbk
        have hpm := List.mem_of_getElem? hpg
        obtain ⟨ho1, ho2, ho3, ho4⟩ := dpg_ok hx hbk hpg
        have hz1 : x.size ≤ 4096 := hx.z1
        have hz0s : 1 ≤ x.size := hx.z0
        have hpl9 := dplan_len hx
        have hbpl := dbk_pgs hx hbk
        have hp1 : x.pages ≤ 64 := hx.p1
        refine CW.skip ?_
        refine KN.code ?_
        refine CW.seq ?_
        refine CW.reg [0, 1, 2] rfl ?_
        refine s_mv 35 rfl rfl ?_
        refine s_call 36 rfl rfl rfl rfl (fun w2 hw => rbytes_spec A l.length c l w2 (hB _ hw.fr) (by omega)) (fun _ _ => trivial) (fun zo hzo => ?_)
        refine s_as 7 rfl rfl ?_
        refine SX.next ?_
        refine CW.seq ?_
        refine CW.seq ?_
        refine CW.reg [0] rfl ?_
        refine s_as 8 rfl rfl ?_
        refine SX.next ?_
        refine CW.block ?_
        refine CW.loop (G := Nat) (fun j => [(0, .pointer (some ⟨g, 0, none⟩)), (2, .slice A l.length c), (4, .pointer (some ⟨b4, 0, none⟩)), (7, .slice zo.1 l.length zo.2), (8, .int .i64 (j : Nat))]) (fun j => St F w [own 5 1 zo.1 l.length zo.2 (nats .u8 (spoilsG (hitsT x j) l)), blk b4 31 #[.int .i64 b, .int .i64 p], docA g x]) (fun j => j ≤ x.plan.length) (fun j => x.plan.length - j) 0 ⟨rfl, rfl, rfl, rfl, rfl, trivial⟩ (fun _ h => h) (Nat.zero_le _) ?_
        intro j hj
        refine CW.seq ?_
        refine CW.seq ?_
        refine CW.reg [0, 1, 2, 3, 4, 5, 6] rfl ?_
        refine s_mv 37 rfl rfl ?_
        refine s_mv 38 rfl rfl ?_
        refine s_nil 39 rfl rfl ?_
        refine s_fa 40 rfl rfl ?_
        refine s_ld 41 rfl rfl (v := .slice x.pA x.plan.length x.pc) (fun _ hw => doc_cell (hw.has (i := 2) rfl) rfl) ?_
        refine s_len 42 rfl rfl ?_
        refine s_lt 43 rfl rfl rfl rfl ?_
        refine SX.next ?_
        refine CW.test rfl (fun hc => ?_) (fun hc => ?_)
        · skip
          have hjl : j < x.plan.length := by omega
          have hg := gF_at hjl
          have hgm := gF_mem hjl
          obtain ⟨hfl, hf8⟩ := spoilsG_ok (hitsT x j) l
          have hf82 := hf8 h8
          have hfb := dft_bits hx hgm
          refine CW.skip ?_
          refine KN.code ?_
          refine CW.seq ?_
          refine CW.block ?_
          refine CW.seq ?_
          refine CW.regD (.st true 0 (.st true 1 (.st true 2 (.st true 3 (.st true 4 (.st true 5 (.st true 6 (.st true 7 (.st true 8 (.st true 9 (.st true 10 (.st true 11 (.st true 12 (.st true 13 (.st true 14 (.st true 15 (.st true 16 (.st true 17 (.st true 18 (.st true 19 (.st true 20 (.st true 21 (.st true 22 (.st true 23 .done)))))))))))))))))))))))) (St F w [own 5 1 zo.1 l.length zo.2 (nats .u8 (spoilsG (hitsT x j) l)), blk b4 31 #[.int .i64 b, .int .i64 p], docA g x]) mixed (by kernel_rfl) (fun _ h => h.drew) (fun _ h => h) ?_
          refine s_mv 46 rfl rfl ?_
          refine s_nil 47 rfl rfl ?_
          refine s_fa 48 rfl rfl ?_
          refine s_ldS 49 rfl rfl (v := .slice x.pA x.plan.length x.pc) (fun _ hw => doc_cell (hw.has (i := 2) rfl) rfl) ?_
          refine s_mv 50 rfl rfl ?_
          refine s_iaV 51 j (fun w hw => (hP _ hw.fr).rows) rfl rfl rfl rfl hjl ?_
          refine s_fa 52 rfl rfl ?_
          refine s_ldS 53 rfl rfl (v := .int .i64 (gF x.plan j).op) (fun _ hw => (hP _ hw.fr).rows.rowAt ftRow_len hg (by omega) 0 _ rfl) ?_
          refine s_mv 54 rfl rfl ?_
          refine s_nil 55 rfl rfl ?_
          refine s_fa 56 rfl rfl ?_
          refine s_ldS 57 rfl rfl (v := .int .i64 x.ops) (fun _ hw => doc_cell (hw.has (i := 2) rfl) rfl) ?_
          refine s_eq 58 rfl rfl rfl rfl ?_
          refine s_mv 59 rfl rfl ?_
          refine SX.bool 59 rfl (fun hb => ?_) (fun hb => ?_)
          · skip
            have hop := of_decide_eq_true hb
            have hsn : spoilsG (hitsT x (j + 1)) l = spoil1 (spoilsG (hitsT x j) l) (gF x.plan j) := by rw [hitsT_yes hjl hop, spoilsG_snoc]
            refine s_mv 60 rfl rfl ?_
            refine s_nil 61 rfl rfl ?_
            refine s_fa 62 rfl rfl ?_
            refine s_ldS 63 rfl rfl (v := .slice x.pA x.plan.length x.pc) (fun _ hw => doc_cell (hw.has (i := 2) rfl) rfl) ?_
            refine s_mv 64 rfl rfl ?_
            refine s_iaV 65 j (fun w hw => (hP _ hw.fr).rows) rfl rfl rfl rfl hjl ?_
            refine s_fa 66 rfl rfl ?_
            refine s_ldS 67 rfl rfl (v := .int .i64 (gF x.plan j).kind) (fun _ hw => (hP _ hw.fr).rows.rowAt ftRow_len hg (by omega) 1 _ rfl) ?_
            refine s_eq 68 rfl rfl rfl rfl ?_
            refine s_pickT 69 rfl rfl rfl ?_
            refine SX.next ?_
            refine CW.test rfl (fun hk4 => ?_) (fun hk4 => ?_)
            · skip
              have hnx : spoilsG (hitsT x (j + 1)) l = turnL (spoilsG (hitsT x j) l) (gF x.plan j).bits := by
                rw [hsn]
                unfold spoil1
                rw [if_pos hk4]
              refine CW.reg [0, 1, 2, 3, 4, 5, 6, 7, 8, 9] rfl ?_
              refine s_mv 70 rfl rfl ?_
              refine s_mv 71 rfl rfl ?_
              refine s_nil 72 rfl rfl ?_
              refine s_fa 73 rfl rfl ?_
              refine s_ld 74 rfl rfl (v := .slice x.pA x.plan.length x.pc) (fun _ hw => doc_cell (hw.has (i := 2) rfl) rfl) ?_
              refine s_mv 75 rfl rfl ?_
              refine s_iaV 76 j (fun w hw => (hP _ hw.fr).rows) rfl rfl rfl rfl hjl ?_
              refine s_fa 77 rfl rfl ?_
              refine s_ld 78 rfl rfl (v := .slice (gF x.plan j).A (gF x.plan j).bits.length (gF x.plan j).c) (fun _ hw => (hP _ hw.fr).rows.rowAt ftRow_len hg (by omega) 4 _ rfl) ?_
              refine s_callP 79 [0, 0, 0] (M := [own 5 1 zo.1 l.length zo.2 (nats .u8 (spoilsG (hitsT x j) l))]) (R := [blk b4 31 #[.int .i64 b, .int .i64 p], docA g x]) (X := Unit) (v := fun _ => oneOf []) (pf := fun _ => True) (M' := fun _ => [own 5 1 zo.1 l.length zo.2 (nats .u8 (turnL (spoilsG (hitsT x j) l) (gF x.plan j).bits))]) rfl rfl rfl rfl rfl (fun F' w' hR hM => by have := dturn_spec F' zo.1 zo.2 (spoilsG (hitsT x j) l) (gF x.plan j).A (gF x.plan j).c (gF x.plan j).bits w' hf82 (by rw [hfl]; omega) (fun w2 hf => (hP _ (hR w2 hf).fr).bits _ hgm) hfb (by rw [hfl]; exact hM); rw [hfl] at this; exact this) (fun _ _ _ => trivial) (fun _ _ => ?_)
              refine SX.end_ ?_
              refine KN.blk ?_
              refine KN.code ?_
              refine CW.reg [0, 1, 2] rfl ?_
              refine s_mv 44 rfl rfl ?_
              refine s_add 45 rfl rfl rfl (r := ((j + 1 : Nat) : Int)) (w64 (by omega)) ?_
              refine s_as 8 rfl rfl ?_
              refine SX.end_ ?_
              exact KN.back (j + 1) ⟨rfl, rfl, rfl, rfl, rfl, trivial⟩ (fun _ h => by rw [hnx]; exact h.pick [0, 0, 0] rfl) (by omega) (by omega)
            · skip
              have hnx : spoilsG (hitsT x (j + 1)) l = spoilsG (hitsT x j) l := by
                rw [hsn]
                unfold spoil1
                rw [if_neg hk4]
              refine CW.skip ?_
              refine KN.blk ?_
              refine KN.code ?_
              refine CW.reg [0, 1, 2] rfl ?_
              refine s_mv 44 rfl rfl ?_
              refine s_add 45 rfl rfl rfl (r := ((j + 1 : Nat) : Int)) (w64 (by omega)) ?_
              refine s_as 8 rfl rfl ?_
              refine SX.end_ ?_
              exact KN.back (j + 1) ⟨rfl, rfl, rfl, rfl, rfl, trivial⟩ (fun _ h => by rw [hnx]; exact h.pick [0, 0, 0] rfl) (by omega) (by omega)
          · skip
            have hop := of_decide_eq_false hb
            have hnx : spoilsG (hitsT x (j + 1)) l = spoilsG (hitsT x j) l := by rw [hitsT_no hjl hop]
            refine SX.skip rfl ?_
            refine SX.skip rfl ?_
            refine SX.skip rfl ?_
            refine SX.skip rfl ?_
            refine SX.skip rfl ?_
            refine SX.skip rfl ?_
            refine SX.skip rfl ?_
            refine SX.skip rfl ?_
            refine SX.skip rfl ?_
            refine s_pickF 69 rfl rfl rfl ?_
            refine SX.next ?_
            refine CW.condF rfl ?_
            refine CW.skip ?_
            refine KN.blk ?_
            refine KN.code ?_
            refine CW.reg [0, 1, 2] rfl ?_
            refine s_mv 44 rfl rfl ?_
            refine s_add 45 rfl rfl rfl (r := ((j + 1 : Nat) : Int)) (w64 (by omega)) ?_
            refine s_as 8 rfl rfl ?_
            refine SX.end_ ?_
            exact KN.back (j + 1) ⟨rfl, rfl, rfl, rfl, rfl, trivial⟩ (fun _ h => by rw [hnx]; exact h.pick [0, 0, 0] rfl) (by omega) (by omega)
        · skip
          obtain rfl : j = x.plan.length := by omega
          rw [hitsT_all]
          obtain ⟨hfl, hf8⟩ := spoilsG_ok x.hitsG l
          have hf82 := hf8 h8
          refine CW.exit rfl ?_
          refine KN.code ?_
          refine CW.seq ?_
          refine CW.regD (.st true 0 (.st true 1 (.st true 2 (.st true 3 (.st true 4 (.st true 5 (.st true 6 (.st true 7 (.st true 8 .done))))))))) (St F w [own 5 1 zo.1 l.length zo.2 (nats .u8 (spoilsG x.hitsG l)), blk b4 31 #[.int .i64 b, .int .i64 p], docA g x]) mixed (by kernel_rfl) (fun _ h => h.drew) (fun _ h => h) ?_
          refine s_mv 80 rfl rfl ?_
          refine s_nil 81 rfl rfl ?_
          refine s_fa 82 rfl rfl ?_
          refine s_ldS 83 rfl rfl (v := .slice x.A x.blocks.length x.c) (fun _ hw => doc_cell (hw.has (i := 2) rfl) rfl) ?_
          refine s_fa 84 rfl rfl ?_
          refine s_ldS 85 rfl rfl (v := .int .i64 b) (fun _ hw => hw.blkCell (i := 1) (j := 0) rfl rfl) ?_
          refine s_iaV 86 i (fun w hw => doc_hds (hw.has (i := 2) rfl)) rfl rfl rfl hbi hil ?_
          refine s_ldVS 87 (fun w hw => doc_hds (hw.has (i := 2) rfl)) rfl rfl (hdr_at1 hbk) (by omega) ?_
          refine s_as 9 rfl rfl ?_
          refine SX.next ?_
          refine CW.seq ?_
          refine CW.reg [0] rfl ?_
          refine s_as 10 rfl rfl ?_
          refine SX.next ?_
          refine CW.seq ?_
          refine CW.seq ?_
          refine CW.reg [0] rfl ?_
          refine s_as 11 rfl rfl ?_
          refine SX.next ?_
          refine CW.block ?_
          refine CW.loop (G := Nat) (fun j => [(0, .pointer (some ⟨g, 0, none⟩)), (2, .slice A l.length c), (4, .pointer (some ⟨b4, 0, none⟩)), (7, .slice zo.1 l.length zo.2), (9, .slice bk.A bk.pages.length bk.c), (10, .bool (wrongT bk.abs.pages p j)), (11, .int .i64 (j : Nat))]) (fun _ => St F w [own 5 1 zo.1 l.length zo.2 (nats .u8 (spoilsG x.hitsG l)), blk b4 31 #[.int .i64 b, .int .i64 p], docA g x]) (fun j => j ≤ bk.pages.length) (fun j => bk.pages.length - j) 0 ⟨rfl, rfl, rfl, rfl, rfl, rfl, rfl, trivial⟩ (fun _ h => h) (Nat.zero_le _) ?_
          intro j hj
          refine CW.seq ?_
          refine CW.seq ?_
          refine CW.reg [0, 1, 2, 3, 4, 5] rfl ?_
          refine s_mv 88 rfl rfl ?_
          refine s_mv 89 rfl rfl ?_
          refine s_nil 90 rfl rfl ?_
          refine s_fa 91 rfl rfl ?_
          refine s_ld 92 rfl rfl (v := .int .i64 x.pages) (fun _ hw => doc_cell (hw.has (i := 2) rfl) rfl) ?_
          refine s_lt 93 rfl rfl rfl rfl ?_
          refine SX.next ?_
          refine CW.test rfl (fun hc => ?_) (fun hc => ?_)
          · skip
            have hjl : j < bk.pages.length := by omega
            obtain ⟨pj, hpj⟩ : ∃ pj, bk.pages[j]? = some pj := ⟨_, List.getElem?_eq_getElem hjl⟩
            have hpj2 : bk.abs.pages[j]? = some pj.abs := by unfold DbG.abs; rw [List.getElem?_map, hpj]; rfl
            have hst := wrongT_step p hpj2
            refine CW.skip ?_
            refine KN.code ?_
            refine CW.seq ?_
            refine CW.block ?_
            by_cases hjp : ((j : Nat) : Int) < p
            · skip
              refine CW.reg [0, 1, 2, 3, 4, 5, 6, 7, 8, 9, 10, 11, 12, 13, 14, 15, 16, 17, 18, 19, 20, 21, 22, 23, 24, 25, 26, 27, 28] rfl ?_
              refine s_mv 96 rfl rfl ?_
              refine s_mv 97 rfl rfl ?_
              refine SX.bool 97 rfl (fun hb => ?_) (fun hb => ?_)
              · skip
                have hwj := hb
                refine SX.skip rfl ?_
                refine SX.skip rfl ?_
                refine SX.skip rfl ?_
                refine SX.skip rfl ?_
                refine SX.skip rfl ?_
                refine SX.skipU rfl ?_
                refine SX.skipU rfl ?_
                refine SX.skipU rfl ?_
                refine SX.skipU rfl ?_
                refine SX.skipU rfl ?_
                refine SX.skipU rfl ?_
                refine SX.skip rfl ?_
                refine s_pickT 110 rfl rfl rfl ?_
                refine s_mv 111 rfl rfl ?_
                refine SX.skip rfl ?_
                refine SX.skip rfl ?_
                refine SX.skip rfl ?_
                refine SX.skip rfl ?_
                refine SX.skip rfl ?_
                refine SX.skipU rfl ?_
                refine SX.skipU rfl ?_
                refine SX.skipU rfl ?_
                refine SX.skipU rfl ?_
                refine SX.skipU rfl ?_
                refine SX.skip rfl ?_
                refine s_pickT 123 rfl rfl rfl ?_
                refine s_as 10 rfl rfl ?_
                refine SX.end_ ?_
                refine KN.blk ?_
                refine KN.code ?_
                refine CW.reg [0, 1, 2] rfl ?_
                refine s_mv 94 rfl rfl ?_
                refine s_add 95 rfl rfl rfl (r := ((j + 1 : Nat) : Int)) (w64 (by omega)) ?_
                refine s_as 11 rfl rfl ?_
                refine SX.end_ ?_
                exact KN.back (j + 1) ⟨rfl, rfl, rfl, rfl, rfl, by rw [hst]; rw [hwj]; rfl, rfl, trivial⟩ (fun _ h => h) (by omega) (by omega)
              · skip
                have hwj := hb
                refine s_mv 98 rfl rfl ?_
                refine s_fa 99 rfl rfl ?_
                refine s_ld 100 rfl rfl (v := .int .i64 p) (fun _ hw => hw.blkCell (i := 1) (j := 1) rfl rfl) ?_
                refine s_lt 101 rfl rfl rfl (decide_eq_true (by omega)) ?_
                refine s_mv 102 rfl rfl ?_
                refine s_mv 103 rfl rfl ?_
                refine s_mv 104 rfl rfl ?_
                refine s_iaV 105 j (fun w hw => db_rows (doc_bk (hw.has (i := 2) rfl) hbm)) rfl rfl rfl rfl hjl ?_
                refine s_fa 106 rfl rfl ?_
                refine s_ld 107 rfl rfl (v := .bool pj.used) (fun _ hw => dpage_cell (hw.has (i := 2) rfl) hbk hpj (j := 1) rfl) ?_
                refine s_not 108 rfl rfl ?_
                refine s_pickT 109 rfl rfl rfl ?_
                refine s_pickF 110 rfl rfl rfl ?_
                refine s_mv 111 rfl rfl ?_
                refine SX.bool 111 rfl (fun hb => ?_) (fun hb => ?_)
                · skip
                  have hbd := bad_lt (q := pj.abs) hjp (show pj.used = false by simpa using hb)
                  refine SX.skip rfl ?_
                  refine SX.skip rfl ?_
                  refine SX.skip rfl ?_
                  refine SX.skip rfl ?_
                  refine SX.skip rfl ?_
                  refine SX.skipU rfl ?_
                  refine SX.skipU rfl ?_
                  refine SX.skipU rfl ?_
                  refine SX.skipU rfl ?_
                  refine SX.skipU rfl ?_
                  refine SX.skip rfl ?_
                  refine s_pickT 123 rfl rfl rfl ?_
                  refine s_as 10 rfl rfl ?_
                  refine SX.end_ ?_
                  refine KN.blk ?_
                  refine KN.code ?_
                  refine CW.reg [0, 1, 2] rfl ?_
                  refine s_mv 94 rfl rfl ?_
                  refine s_add 95 rfl rfl rfl (r := ((j + 1 : Nat) : Int)) (w64 (by omega)) ?_
                  refine s_as 11 rfl rfl ?_
                  refine SX.end_ ?_
                  exact KN.back (j + 1) ⟨rfl, rfl, rfl, rfl, rfl, by rw [hst]; rw [hwj, hbd]; rfl, rfl, trivial⟩ (fun _ h => h) (by omega) (by omega)
                · skip
                  have hnb := nobad_lt (q := pj.abs) hjp (show pj.used = true by simpa using hb)
                  refine s_mv 112 rfl rfl ?_
                  refine s_fa 113 rfl rfl ?_
                  refine s_ld 114 rfl rfl (v := .int .i64 p) (fun _ hw => hw.blkCell (i := 1) (j := 1) rfl rfl) ?_
                  refine s_ge 115 rfl rfl rfl (decide_eq_false (by omega)) ?_
                  refine s_mv 116 rfl rfl ?_
                  refine SX.skip rfl ?_
                  refine SX.skip rfl ?_
                  refine SX.skip rfl ?_
                  refine SX.skip rfl ?_
                  refine SX.skip rfl ?_
                  refine s_pickF 122 rfl rfl rfl ?_
                  refine s_pickF 123 rfl rfl rfl ?_
                  refine s_as 10 rfl rfl ?_
                  refine SX.end_ ?_
                  refine KN.blk ?_
                  refine KN.code ?_
                  refine CW.reg [0, 1, 2] rfl ?_
                  refine s_mv 94 rfl rfl ?_
                  refine s_add 95 rfl rfl rfl (r := ((j + 1 : Nat) : Int)) (w64 (by omega)) ?_
                  refine s_as 11 rfl rfl ?_
                  refine SX.end_ ?_
                  exact KN.back (j + 1) ⟨rfl, rfl, rfl, rfl, rfl, by rw [hst]; rw [hwj, hnb]; rfl, rfl, trivial⟩ (fun _ h => h) (by omega) (by omega)
            · skip
              refine CW.reg [0, 1, 2, 3, 4, 5, 6, 7, 8, 9, 10, 11, 12, 13, 14, 15, 16, 17, 18, 19, 20, 21, 22, 23, 24, 25, 26, 27, 28] rfl ?_
              refine s_mv 96 rfl rfl ?_
              refine s_mv 97 rfl rfl ?_
              refine SX.bool 97 rfl (fun hb => ?_) (fun hb => ?_)
              · skip
                have hwj := hb
                refine SX.skip rfl ?_
                refine SX.skip rfl ?_
                refine SX.skip rfl ?_
                refine SX.skip rfl ?_
                refine SX.skip rfl ?_
                refine SX.skipU rfl ?_
                refine SX.skipU rfl ?_
                refine SX.skipU rfl ?_
                refine SX.skipU rfl ?_
                refine SX.skipU rfl ?_
                refine SX.skipU rfl ?_
                refine SX.skip rfl ?_
                refine s_pickT 110 rfl rfl rfl ?_
                refine s_mv 111 rfl rfl ?_
                refine SX.skip rfl ?_
                refine SX.skip rfl ?_
                refine SX.skip rfl ?_
                refine SX.skip rfl ?_
                refine SX.skip rfl ?_
                refine SX.skipU rfl ?_
                refine SX.skipU rfl ?_
                refine SX.skipU rfl ?_
                refine SX.skipU rfl ?_
                refine SX.skipU rfl ?_
                refine SX.skip rfl ?_
                refine s_pickT 123 rfl rfl rfl ?_
                refine s_as 10 rfl rfl ?_
                refine SX.end_ ?_
                refine KN.blk ?_
                refine KN.code ?_
                refine CW.reg [0, 1, 2] rfl ?_
                refine s_mv 94 rfl rfl ?_
                refine s_add 95 rfl rfl rfl (r := ((j + 1 : Nat) : Int)) (w64 (by omega)) ?_
                refine s_as 11 rfl rfl ?_
                refine SX.end_ ?_
                exact KN.back (j + 1) ⟨rfl, rfl, rfl, rfl, rfl, by rw [hst]; rw [hwj]; rfl, rfl, trivial⟩ (fun _ h => h) (by omega) (by omega)
              · skip
                have hwj := hb
                refine s_mv 98 rfl rfl ?_
                refine s_fa 99 rfl rfl ?_
                refine s_ld 100 rfl rfl (v := .int .i64 p) (fun _ hw => hw.blkCell (i := 1) (j := 1) rfl rfl) ?_
                refine s_lt 101 rfl rfl rfl (decide_eq_false (by omega)) ?_
                refine s_mv 102 rfl rfl ?_
                refine SX.skip rfl ?_
                refine SX.skip rfl ?_
                refine SX.skip rfl ?_
                refine SX.skip rfl ?_
                refine SX.skip rfl ?_
                refine SX.skip rfl ?_
                refine s_pickF 109 rfl rfl rfl ?_
                refine s_pickF 110 rfl rfl rfl ?_
                refine s_mv 111 rfl rfl ?_
                refine s_mv 112 rfl rfl ?_
                refine s_fa 113 rfl rfl ?_
                refine s_ld 114 rfl rfl (v := .int .i64 p) (fun _ hw => hw.blkCell (i := 1) (j := 1) rfl rfl) ?_
                refine s_ge 115 rfl rfl rfl (decide_eq_true (by omega)) ?_
                refine s_mv 116 rfl rfl ?_
                refine s_mv 117 rfl rfl ?_
                refine s_mv 118 rfl rfl ?_
                refine s_iaV 119 j (fun w hw => db_rows (doc_bk (hw.has (i := 2) rfl) hbm)) rfl rfl rfl rfl hjl ?_
                refine s_fa 120 rfl rfl ?_
                refine s_ld 121 rfl rfl (v := .bool pj.used) (fun _ hw => dpage_cell (hw.has (i := 2) rfl) hbk hpj (j := 1) rfl) ?_
                refine s_pickT 122 rfl rfl rfl ?_
                refine s_pickF 123 rfl rfl rfl ?_
                refine s_as 10 rfl rfl ?_
                refine SX.end_ ?_
                refine KN.blk ?_
                refine KN.code ?_
                refine CW.reg [0, 1, 2] rfl ?_
                refine s_mv 94 rfl rfl ?_
                refine s_add 95 rfl rfl rfl (r := ((j + 1 : Nat) : Int)) (w64 (by omega)) ?_
                refine s_as 11 rfl rfl ?_
                refine SX.end_ ?_
                exact KN.back (j + 1) ⟨rfl, rfl, rfl, rfl, rfl, by rw [hst]; rw [hwj, bad_eq hjp]; rfl, rfl, trivial⟩ (fun _ h => h) (by omega) (by omega)
          · skip
            obtain rfl : j = bk.pages.length := by omega
            have hwa : wrongT bk.abs.pages p bk.pages.length = wrongAt (x.abs.bk b).pages p := by
              rw [hba, ← wrongT_all]
              unfold DbG.abs
              rw [List.length_map]
            rw [hwa]
            refine CW.exit rfl ?_
            refine KN.code ?_
            refine CW.cut (G := Unit) (fun _ => [(0, .pointer (some ⟨g, 0, none⟩)), (2, .slice A l.length c), (4, .pointer (some ⟨b4, 0, none⟩)), (7, .slice zo.1 l.length zo.2), (9, .slice bk.A bk.pages.length bk.c)]) (fun _ => St F w [own 5 1 zo.1 l.length zo.2 (nats .u8 (spoilsG x.hitsG l)), blk b4 31 #[.int .i64 b, .int .i64 p], docA g (x.hurt b p)]) (fun _ => True) ?_ ?_
            · skip
              refine CW.seq ?_
              refine CW.reg [0] rfl ?_
              refine s_mv 124 rfl rfl ?_
              refine SX.next ?_
              refine CW.cond rfl (fun hwr => ?_) (fun hwr => ?_)
              · skip
                refine CW.pre (fun _ h => (h.pick [2, 0, 0] rfl).docO) ?_
                refine CW.reg [0, 1, 2, 3, 4, 5, 6, 7, 8] rfl ?_
                refine s_mv 125 rfl rfl ?_
                refine s_mv 126 rfl rfl ?_
                refine s_nil 127 rfl rfl ?_
                refine s_fa 128 rfl rfl ?_
                refine s_ldB 129 0 rfl rfl rfl (v := .int .i64 x.broken) rfl ?_
                refine s_add 130 rfl rfl rfl (r := if wrongAt (x.abs.bk b).pages p = true then wr (x.broken + 1) else x.broken) (by rw [if_pos hwr]; rfl) ?_
                refine s_nil 131 rfl rfl ?_
                refine s_fa 132 rfl rfl ?_
                refine s_stB 0 rfl rfl rfl rfl rfl (by show 10 < 11; decide) (fun _ _ => trivial) ?_
                refine SX.end_ ?_
                exact KN.join () ⟨rfl, rfl, rfl, rfl, rfl, trivial⟩ (fun _ h => by
                  have h1 := (h.pick [0, 0, 0, 0, 0, 0, 0] rfl).docC (x := (x.hurt b p))
                  exact h1.pick [1, 1, 0] rfl) trivial
              · skip
                refine CW.skip ?_
                exact KN.join () ⟨rfl, rfl, rfl, rfl, rfl, trivial⟩ (fun _ h => by
                  have e : x.hurt b p = x := by
                    unfold DcG.hurt
                    rw [if_neg (by rw [hwr]; decide)]
                  rw [e]
                  exact h.pick [0, 0, 0] rfl) trivial
            · skip
              intro _ _
              refine CW.seq ?_
              refine CW.reg [0, 1, 2, 3, 4, 5, 6, 7] rfl ?_
              refine s_mv 134 rfl rfl ?_
              refine s_call1 135 rfl rfl rfl rfl (v := fndV (findG x.hitsG 3)) (fun w hw => dfirst_spec g (x.hurt b p) 3 w (hw.has (i := 2) rfl) (hP _ hw.fr) hpl9) (fun _ _ => trivial) ?_
              refine s_mv 133 rfl rfl ?_
              refine s_ext 136 rfl rfl rfl ?_
              refine s_ext 137 rfl rfl rfl ?_
              refine s_alloc 12 rfl (fun _ _ => trivial) (fun b12 => ?_)
              refine s_stAll 0 rfl rfl (by kernel_rfl) rfl rfl rfl rfl (fun _ _ => trivial) ?_
              refine s_as 13 rfl rfl ?_
              refine SX.next ?_
              refine CW.seq ?_
              refine CW.reg [0, 1, 2, 3, 4, 5, 6, 7] rfl ?_
              refine s_mv 139 rfl rfl ?_
              refine s_call1 140 rfl rfl rfl rfl (v := fndV (findG x.hitsG 2)) (fun w hw => dfirst_spec g (x.hurt b p) 2 w (hw.has (i := 3) rfl) (hP _ hw.fr) hpl9) (fun _ _ => trivial) ?_
              refine s_mv 138 rfl rfl ?_
              refine s_ext 141 rfl rfl rfl ?_
              refine s_ext 142 rfl rfl rfl ?_
              refine s_alloc 14 rfl (fun _ _ => trivial) (fun b14 => ?_)
              refine s_stAll 0 rfl rfl (by kernel_rfl) rfl rfl rfl rfl (fun _ _ => trivial) ?_
              refine s_as 15 rfl rfl ?_
              refine SX.next ?_
              refine CW.seq ?_
              refine CW.reg [0, 1, 2, 3, 4] rfl ?_
              refine s_mv 143 rfl rfl ?_
              refine s_nil 144 rfl rfl ?_
              refine s_fa 145 rfl rfl ?_
              refine s_ld 146 rfl rfl (v := .int .i64 x.size) (fun _ hw => doc_cell (x := (x.hurt b p)) (hw.has (i := 4) rfl) rfl) ?_
              refine s_as 16 rfl rfl ?_
              refine SX.next ?_
              refine CW.seq ?_
              refine CW.reg [0] rfl ?_
              refine s_as 17 rfl rfl ?_
              refine SX.next ?_
              refine CW.cut (G := Unit) (fun _ => [(0, .pointer (some ⟨g, 0, none⟩)), (2, .slice A l.length c), (4, .pointer (some ⟨b4, 0, none⟩)), (7, .slice zo.1 l.length zo.2), (9, .slice bk.A bk.pages.length bk.c), (16, .int .i64 (layN x.abs.hits x.size).1), (17, .int .i64 (layN x.abs.hits x.size).2)]) (fun _ => St F w [own 5 1 zo.1 l.length zo.2 (nats .u8 (spoilsG x.hitsG l)), blk b4 31 #[.int .i64 b, .int .i64 p], docA g ({ (x.hurt b p) with off := (findG x.hitsG 3).isSome } : DcG)]) (fun _ => True) ?_ ?_
              · skip
                refine CW.seq ?_
                refine CW.reg [0] rfl ?_
                refine s_mv 147 rfl rfl ?_
                refine SX.next ?_
                refine CW.cond rfl (fun hct => ?_) (fun hct => ?_)
                · skip
                  obtain ⟨f, hf⟩ := Option.isSome_iff_exists.1 hct
                  have hly := dlayN_cut hf x.size
                  refine CW.seq ?_
                  refine CW.reg [0, 1, 2] rfl ?_
                  refine s_fa 148 rfl rfl ?_
                  refine s_ldB 149 1 rfl rfl rfl (v := .int .i64 f.n) (by rw [hf]; rfl) ?_
                  refine s_as 16 rfl rfl ?_
                  refine SX.next ?_
                  refine CW.seq ?_
                  refine CW.reg [0] rfl ?_
                  refine s_as 17 rfl rfl ?_
                  refine SX.next ?_
                  refine CW.pre (fun _ h => (h.pick [4, 0, 0, 0, 0] rfl).docO) ?_
                  refine CW.reg [0, 1, 2, 3] rfl ?_
                  refine s_mv 150 rfl rfl ?_
                  refine s_nil 151 rfl rfl ?_
                  refine s_fa 152 rfl rfl ?_
                  refine s_stB 0 rfl rfl rfl rfl rfl (by show 9 < 11; decide) (fun _ _ => trivial) ?_
                  refine SX.end_ ?_
                  exact KN.join () ⟨rfl, rfl, rfl, rfl, rfl, by rw [hly]; rfl, by rw [hly]; rfl, trivial⟩ (fun _ h => by
                    have h1 := (h.pick [0, 0, 0, 0, 0, 2, 2] rfl).docC (x := { (x.hurt b p) with off := true })
                    rw [hct]
                    exact h1.pick [1, 1, 0] rfl) trivial
                · skip
                  have hf3 : findG x.hitsG 3 = none := by
                    cases hh : findG x.hitsG 3 with
                    | none => rfl
                    | some f => rw [hh] at hct; cases hct
                  refine CW.seq ?_
                  refine CW.reg [0] rfl ?_
                  refine s_mv 153 rfl rfl ?_
                  refine SX.next ?_
                  refine CW.cond rfl (fun hfl2 => ?_) (fun hfl2 => ?_)
                  · skip
                    obtain ⟨f, hf⟩ := Option.isSome_iff_exists.1 hfl2
                    have hly := dlayN_fail hf3 hf x.size
                    refine CW.seq ?_
                    refine CW.reg [0, 1, 2] rfl ?_
                    refine s_fa 154 rfl rfl ?_
                    refine s_ldB 155 0 rfl rfl rfl (v := .int .i64 f.n) (by rw [hf]; rfl) ?_
                    refine s_as 16 rfl rfl ?_
                    refine SX.next ?_
                    refine CW.reg [0] rfl ?_
                    refine s_as 17 rfl rfl ?_
                    refine SX.end_ ?_
                    exact KN.join () ⟨rfl, rfl, rfl, rfl, rfl, by rw [hly]; rfl, by rw [hly]; rfl, trivial⟩ (fun _ h => by
                      have e : ({ (x.hurt b p) with off := (findG x.hitsG 3).isSome } : DcG) = (x.hurt b p) := by
                        rw [hf3]
                        have ho : (x.hurt b p).off = false := hof
                        show ({ (x.hurt b p) with off := false } : DcG) = _
                        rw [← ho]
                      rw [e]
                      exact h.pick [2, 2, 2] rfl) trivial
                  · skip
                    have hf2 : findG x.hitsG 2 = none := by
                      cases hh : findG x.hitsG 2 with
                      | none => rfl
                      | some f => rw [hh] at hfl2; cases hfl2
                    have hly := dlayN_all hf3 hf2 x.size
                    refine CW.skip ?_
                    exact KN.join () ⟨rfl, rfl, rfl, rfl, rfl, by rw [hly]; rfl, by rw [hly]; rfl, trivial⟩ (fun _ h => by
                      have e : ({ (x.hurt b p) with off := (findG x.hitsG 3).isSome } : DcG) = (x.hurt b p) := by
                        rw [hf3]
                        have ho : (x.hurt b p).off = false := hof
                        show ({ (x.hurt b p) with off := false } : DcG) = _
                        rw [← ho]
                      rw [e]
                      exact h.pick [2, 2, 2] rfl) trivial
              · skip
                intro _ _
                have hall : pg.l.length ≤ (spoilsG x.hitsG l).length := by rw [hfl]; omega
                have hcle : (((clampN (layN x.abs.hits x.size).1 x.size) : Nat) : Int) ≤ max x.size 0 := clampN_le
                refine CW.seq ?_
                refine CW.reg [0, 1, 2, 3, 4, 5, 6, 7] rfl ?_
                refine s_mv 156 rfl rfl ?_
                refine s_fa 157 rfl rfl ?_
                refine s_ld 158 rfl rfl (v := .int .i64 p) (fun _ hw => hw.blkCell (i := 1) (j := 1) rfl rfl) ?_
                refine s_iaV 159 k (fun w hw => db_rows (doc_bk (x := ({ (x.hurt b p) with off := (findG x.hitsG 3).isSome } : DcG)) (hw.has (i := 2) rfl) hbm)) rfl rfl rfl hpk hkl ?_
                refine s_fa 160 rfl rfl ?_
                refine s_ld 161 rfl rfl (v := .slice pg.A pg.l.length pg.c) (fun _ hw => dpage_cell (x := ({ (x.hurt b p) with off := (findG x.hitsG 3).isSome } : DcG)) (hw.has (i := 2) rfl) hbk hpg (j := 0) rfl) ?_
                refine s_call 162 rfl rfl rfl rfl (fun w hw => rbytes_spec pg.A pg.l.length pg.c pg.l w (dp_own1 (db_pg (doc_bk (x := ({ (x.hurt b p) with off := (findG x.hitsG 3).isSome } : DcG)) (hw.has (i := 2) rfl) hbm) hpm)) (by omega)) (fun _ _ => trivial) (fun zc hzc => ?_)
                refine s_as 18 rfl rfl ?_
                refine SX.next ?_
                refine CW.cut (G := Unit) (fun _ => [(0, .pointer (some ⟨g, 0, none⟩)), (2, .slice A l.length c), (4, .pointer (some ⟨b4, 0, none⟩)), (7, .slice zo.1 l.length zo.2), (9, .slice bk.A bk.pages.length bk.c), (16, .int .i64 (layN x.abs.hits x.size).1), (17, .int .i64 (layN x.abs.hits x.size).2), (18, .slice zc.1 pg.l.length zc.2)]) (fun _ => St F w [own 5 1 zc.1 pg.l.length zc.2 (nats .u8 (andTo (clampN (layN x.abs.hits x.size).1 x.size) pg.l (spoilsG x.hitsG l))), own 5 1 zo.1 l.length zo.2 (nats .u8 (spoilsG x.hitsG l)), blk b4 31 #[.int .i64 b, .int .i64 p], docA g ({ (x.hurt b p) with off := (findG x.hitsG 3).isSome } : DcG)]) (fun _ => True) ?_ ?_
                · skip
                  refine CW.seq ?_
                  refine CW.reg [0] rfl ?_
                  refine s_as 19 rfl rfl ?_
                  refine SX.next ?_
                  refine CW.block ?_
                  refine CW.loop (G := Nat) (fun j => [(0, .pointer (some ⟨g, 0, none⟩)), (2, .slice A l.length c), (4, .pointer (some ⟨b4, 0, none⟩)), (7, .slice zo.1 l.length zo.2), (9, .slice bk.A bk.pages.length bk.c), (16, .int .i64 (layN x.abs.hits x.size).1), (17, .int .i64 (layN x.abs.hits x.size).2), (18, .slice zc.1 pg.l.length zc.2), (19, .int .i64 (j : Nat))]) (fun j => St F w [own 5 1 zc.1 pg.l.length zc.2 (nats .u8 (andTo j pg.l (spoilsG x.hitsG l))), own 5 1 zo.1 l.length zo.2 (nats .u8 (spoilsG x.hitsG l)), blk b4 31 #[.int .i64 b, .int .i64 p], docA g ({ (x.hurt b p) with off := (findG x.hitsG 3).isSome } : DcG)]) (fun j => j ≤ (clampN (layN x.abs.hits x.size).1 x.size)) (fun j => (clampN (layN x.abs.hits x.size).1 x.size) - j) 0 ⟨rfl, rfl, rfl, rfl, rfl, rfl, rfl, rfl, rfl, trivial⟩ (fun _ h => by rw [andTo_zero]; exact h) (Nat.zero_le _) ?_
                  intro j hj
                  have hal := andTo_len (m := j) hall
                  refine CW.seq ?_
                  refine CW.seq ?_
                  refine CW.reg [0, 1, 2, 3, 4, 5, 6, 7, 8, 9, 10] rfl ?_
                  refine s_mv 163 rfl rfl ?_
                  refine s_mv 164 rfl rfl ?_
                  refine s_nil 165 rfl rfl ?_
                  refine s_fa 166 rfl rfl ?_
                  refine s_ld 167 rfl rfl (v := .int .i64 x.size) (fun _ hw => doc_cell (x := ({ (x.hurt b p) with off := (findG x.hitsG 3).isSome } : DcG)) (hw.has (i := 3) rfl) rfl) ?_
                  refine s_lt 168 rfl rfl rfl rfl ?_
                  refine s_mv 169 rfl rfl ?_
                  refine SX.bool 169 rfl (fun hb => ?_) (fun hb => ?_)
                  · skip
                    have hj1 := of_decide_eq_true hb
                    refine s_mv 170 rfl rfl ?_
                    refine s_mv 171 rfl rfl ?_
                    refine s_lt 172 rfl rfl rfl rfl ?_
                    refine s_pickT 173 rfl rfl rfl ?_
                    refine SX.next ?_
                    refine CW.test rfl (fun hj2 => ?_) (fun hj2 => ?_)
                    · skip
                      have hjl : j < (clampN (layN x.abs.hits x.size).1 x.size) := by unfold clampN; omega
                      have hjs : j < pg.l.length := by omega
                      have hnx := andTo_next (m := j) hall hjs
                      have ha8 := andTo_lt (m := j) hall ho2
                      refine CW.skip ?_
                      refine KN.code ?_
                      refine CW.seq ?_
                      refine CW.block ?_
                      refine CW.regD (.st true 0 (.st true 1 (.st true 2 (.st true 3 (.st true 4 (.st true 6 (.st true 7 (.st true 8 (.st true 9 (.st false 5 (.st true 10 (.st true 11 (.st false 12 .done))))))))))))) (St F w [own 5 1 zo.1 l.length zo.2 (nats .u8 (spoilsG x.hitsG l))]) mixed (by kernel_rfl) (fun _ h => h.drew) (fun _ h => h.pick [1] rfl) ?_
                      refine s_mv 176 rfl rfl ?_
                      refine s_mv 177 rfl rfl ?_
                      refine s_mv 178 rfl rfl ?_
                      refine s_mv 179 rfl rfl ?_
                      refine s_iaO 180 0 j rfl rfl rfl rfl rfl hjs ?_
                      refine s_mv 182 rfl rfl ?_
                      refine s_mv 183 rfl rfl ?_
                      refine s_iaO 184 1 j rfl rfl rfl rfl rfl (by omega) ?_
                      refine s_ldS 185 rfl rfl (v := .int .u8 ((spoilsG x.hitsG l).getD j 0 : Nat)) (fun _ hw => hw.ownCell (q := 0) (j := j) rfl (natsAt8 (by omega))) ?_
                      refine s_ldO 181 0 rfl rfl rfl (natsAt8 (by rw [hal]; exact hjs)) ?_
                      refine s_bit 186 rfl rfl rfl rfl (r := (((andTo j pg.l (spoilsG x.hitsG l)).getD j 0 &&& (spoilsG x.hitsG l).getD j 0 : Nat) : Int)) (ibit_and_u8 (getD_lt8 ha8 _) (getD_lt8 hf82 _)) ?_
                      refine s_iaO 187 0 j rfl rfl rfl rfl rfl hjs ?_
                      refine s_stO 0 rfl rfl rfl rfl rfl hjs (fun _ h => h.pick [1] rfl) ?_
                      refine SX.end_ ?_
                      refine KN.blk ?_
                      refine KN.code ?_
                      refine CW.reg [0, 1, 2] rfl ?_
                      refine s_mv 174 rfl rfl ?_
                      refine s_add 175 rfl rfl rfl (r := ((j + 1 : Nat) : Int)) (w64 (by omega)) ?_
                      refine s_as 19 rfl rfl ?_
                      refine SX.end_ ?_
                      exact KN.back (j + 1) ⟨rfl, rfl, rfl, rfl, rfl, rfl, rfl, rfl, rfl, trivial⟩ (fun _ h => by rw [hnx, nats8_set]; exact h) (by omega) (by omega)
                    · skip
                      have hje : j = (clampN (layN x.abs.hits x.size).1 x.size) := by unfold clampN at hj ⊢; omega
                      subst hje
                      refine CW.exit rfl ?_
                      exact KN.join () ⟨rfl, rfl, rfl, rfl, rfl, rfl, rfl, rfl, trivial⟩ (fun _ h => h) trivial
                  · skip
                    have hj1 := of_decide_eq_false hb
                    have hje : j = (clampN (layN x.abs.hits x.size).1 x.size) := by unfold clampN at hj ⊢; omega
                    subst hje
                    refine SX.skip rfl ?_
                    refine SX.skip rfl ?_
                    refine SX.skip rfl ?_
                    refine s_pickF 173 rfl rfl rfl ?_
                    refine SX.next ?_
                    refine CW.condF rfl ?_
                    refine CW.exit rfl ?_
                    exact KN.join () ⟨rfl, rfl, rfl, rfl, rfl, rfl, rfl, rfl, trivial⟩ (fun _ h => h) trivial
                · skip
                  intro _ _
                  refine CW.seq ?_
                  have hal2 := andTo_len (m := (clampN (layN x.abs.hits x.size).1 x.size)) hall
                  refine CW.pre (C' := St F w [bk.rows, starA (bk.pages.map DpG.dat), starA ((x.blocks.map DbG.dat).eraseIdx i), ({ (x.hurt b p) with off := (findG x.hitsG 3).isSome } : DcG).hd g, ({ (x.hurt b p) with off := (findG x.hitsG 3).isSome } : DcG).hds, ({ (x.hurt b p) with off := (findG x.hitsG 3).isSome } : DcG).mks, ({ (x.hurt b p) with off := (findG x.hitsG 3).isSome } : DcG).wns, own 5 1 zc.1 pg.l.length zc.2 (nats .u8 (andTo (clampN (layN x.abs.hits x.size).1 x.size) pg.l (spoilsG x.hitsG l))), own 5 1 zo.1 l.length zo.2 (nats .u8 (spoilsG x.hitsG l)), blk b4 31 #[.int .i64 b, .int .i64 p]]) (fun _ h => by
                    have h0 := (h.pick [3, 0, 0, 0] rfl).docO
                    have h1 := h0.pick [2, 0, 0, 0, 0, 0, 0, 0] rfl
                    exact h1.dbO hbk) ?_
                  refine CW.regD (.st true 0 (.st true 1 (.st true 2 (.st true 3 (.st true 4 (.st false 5 (.st false 6 (.st true 7 (.st false 8 .done))))))))) (St F w [blk b4 31 #[.int .i64 b, .int .i64 p]]) mixed (by kernel_rfl) (fun _ h => h.drew) (fun _ h => h.pick [9] rfl) ?_
                  refine s_mv 188 rfl rfl ?_
                  refine s_fa 189 rfl rfl ?_
                  refine s_ldS 190 rfl rfl (v := .int .i64 p) (fun _ hw => hw.blkCell (i := 0) (j := 1) rfl rfl) ?_
                  refine s_mv 191 rfl rfl ?_
                  refine s_mv 192 rfl rfl ?_
                  refine s_call 193 rfl rfl rfl rfl (fun w2 hw => rbytes_spec A l.length c l w2 (hB _ hw.fr) (by omega)) (fun _ h => h.pick [9] rfl) (fun zl hzl => ?_)
                  refine s_build 194 rfl rfl (cells := #[.slice zc.1 pg.l.length zc.2, .bool true, .slice zl.1 l.length zl.2]) (by kernel_rfl) ?_
                  refine s_iaOS 195 1 k rfl rfl rfl rfl hpk hkl ?_
                  refine s_stRow 1 (t := k * 3) (vs := [.slice zc.1 pg.l.length zc.2, .bool true, .slice zl.1 l.length zl.2]) rfl rfl (by kernel_rfl) rfl rfl (by omega) (by rw [flat_len dpRow_len]; show k * 3 + 3 ≤ bk.pages.length * 3; omega) rfl (fun _ h => h.pick [10] rfl) ?_
                  refine SX.next ?_
                  refine CW.seq ?_
                  refine CW.reg [0, 1, 2, 3, 4, 5, 6, 7, 8] rfl ?_
                  refine s_mv 196 rfl rfl ?_
                  refine s_mv 197 rfl rfl ?_
                  refine s_nil 198 rfl rfl ?_
                  refine s_fa 199 rfl rfl ?_
                  refine s_ldB 200 4 rfl rfl rfl (v := .int .i64 x.ops) rfl ?_
                  refine s_add 201 rfl rfl rfl (r := wr (x.ops + 1)) rfl ?_
                  refine s_nil 202 rfl rfl ?_
                  refine s_fa 203 rfl rfl ?_
                  refine s_stB 4 rfl rfl rfl rfl rfl (by show 8 < 11; decide) (fun _ _ => trivial) ?_
                  refine SX.next ?_
                  refine CW.seq ?_
                  refine CW.reg [0, 1] rfl ?_
                  refine s_mv 204 rfl rfl ?_
                  refine s_as 6 rfl rfl ?_
                  refine SX.next ?_
                  refine CW.ret ?_
                  exact KN.ret (rs := [.tmp 6]) Tryd.results34 rfl (fun w_ hw => by
  obtain ⟨q1, q2⟩ := dpr_ok (l := l) hz0 hbi hpk hbk hba hpa zc.1 zc.2 zl.1 zl.2 (r := (layN x.abs.hits x.size)) rfl
  refine ⟨({ (x.hurt b p).tick with off := (findG x.hitsG 3).isSome, blocks := x.blocks.set i ({ bk with pages := bk.pages.set k (⟨zc.1, zc.2, andTo (clampN (layN x.abs.hits x.size).1 x.size) pg.l (spoilsG x.hitsG l), true, zl.1, zl.2, l⟩ : DpG) } : DbG) } : DcG), by rw [q1]; rfl, ⟨q2, ⟨rfl, rfl, rfl⟩⟩, ?_⟩
  have h1 := hw.pick [2, 7, 0, 0, 0, 0, 0, 0, 0] rfl
  have h2 : St F w [starA (bk.pages.map DpG.dat), (⟨zc.1, zc.2, andTo (clampN (layN x.abs.hits x.size).1 x.size) pg.l (spoilsG x.hitsG l), true, zl.1, zl.2, l⟩ : DpG).own1, (⟨zc.1, zc.2, andTo (clampN (layN x.abs.hits x.size).1 x.size) pg.l (spoilsG x.hitsG l), true, zl.1, zl.2, l⟩ : DpG).own2, ({ bk with pages := bk.pages.set k (⟨zc.1, zc.2, andTo (clampN (layN x.abs.hits x.size).1 x.size) pg.l (spoilsG x.hitsG l), true, zl.1, zl.2, l⟩ : DpG) } : DbG).rows, starA ((x.blocks.map DbG.dat).eraseIdx i), ({ (x.hurt b p).tick with off := (findG x.hitsG 3).isSome } : DcG).hd g, ({ (x.hurt b p).tick with off := (findG x.hitsG 3).isSome } : DcG).hds, ({ (x.hurt b p).tick with off := (findG x.hitsG 3).isSome } : DcG).mks, ({ (x.hurt b p).tick with off := (findG x.hitsG 3).isSome } : DcG).wns] w_ := by
    have e2 : (andTo (clampN (layN x.abs.hits x.size).1 x.size) pg.l (spoilsG x.hitsG l)).length = pg.l.length := hal2
    unfold DpG.own1 DpG.own2 DbG.rows
    simp only [e2, List.length_set]
    rw [flat_row (row := DpG.row) dpRow_len hkl]
    unfold DpG.row
    simp only [e2]
    exact h1
  have h3 := ((h2.dpPut hkl).pick [1, 0, 0, 0, 0, 0, 0] rfl).dbI (b := ({ bk with pages := bk.pages.set k (⟨zc.1, zc.2, andTo (clampN (layN x.abs.hits x.size).1 x.size) pg.l (spoilsG x.hitsG l), true, zl.1, zl.2, l⟩ : DpG) } : DbG)) hil
  have h4 : St F w [({ (x.hurt b p).tick with off := (findG x.hitsG 3).isSome, blocks := x.blocks.set i ({ bk with pages := bk.pages.set k (⟨zc.1, zc.2, andTo (clampN (layN x.abs.hits x.size).1 x.size) pg.l (spoilsG x.hitsG l), true, zl.1, zl.2, l⟩ : DpG) } : DbG) } : DcG).hd g, ({ (x.hurt b p).tick with off := (findG x.hitsG 3).isSome, blocks := x.blocks.set i ({ bk with pages := bk.pages.set k (⟨zc.1, zc.2, andTo (clampN (layN x.abs.hits x.size).1 x.size) pg.l (spoilsG x.hitsG l), true, zl.1, zl.2, l⟩ : DpG) } : DbG) } : DcG).hds, ({ (x.hurt b p).tick with off := (findG x.hitsG 3).isSome, blocks := x.blocks.set i ({ bk with pages := bk.pages.set k (⟨zc.1, zc.2, andTo (clampN (layN x.abs.hits x.size).1 x.size) pg.l (spoilsG x.hitsG l), true, zl.1, zl.2, l⟩ : DpG) } : DbG) } : DcG).bst, ({ (x.hurt b p).tick with off := (findG x.hitsG 3).isSome, blocks := x.blocks.set i ({ bk with pages := bk.pages.set k (⟨zc.1, zc.2, andTo (clampN (layN x.abs.hits x.size).1 x.size) pg.l (spoilsG x.hitsG l), true, zl.1, zl.2, l⟩ : DpG) } : DbG) } : DcG).mks, ({ (x.hurt b p).tick with off := (findG x.hitsG 3).isSome, blocks := x.blocks.set i ({ bk with pages := bk.pages.set k (⟨zc.1, zc.2, andTo (clampN (layN x.abs.hits x.size).1 x.size) pg.l (spoilsG x.hitsG l), true, zl.1, zl.2, l⟩ : DpG) } : DbG) } : DcG).wns] w_ := by
    have e3 : ({ (x.hurt b p).tick with off := (findG x.hitsG 3).isSome, blocks := x.blocks.set i ({ bk with pages := bk.pages.set k (⟨zc.1, zc.2, andTo (clampN (layN x.abs.hits x.size).1 x.size) pg.l (spoilsG x.hitsG l), true, zl.1, zl.2, l⟩ : DpG) } : DbG) } : DcG).hd g = ({ (x.hurt b p).tick with off := (findG x.hitsG 3).isSome } : DcG).hd g := by unfold DcG.hd DcG.cells; simp only [List.length_set]; rfl
    have e4 : ({ (x.hurt b p).tick with off := (findG x.hitsG 3).isSome, blocks := x.blocks.set i ({ bk with pages := bk.pages.set k (⟨zc.1, zc.2, andTo (clampN (layN x.abs.hits x.size).1 x.size) pg.l (spoilsG x.hitsG l), true, zl.1, zl.2, l⟩ : DpG) } : DbG) } : DcG).hds = ({ (x.hurt b p).tick with off := (findG x.hitsG 3).isSome } : DcG).hds := by
      unfold DcG.hds
      simp only [List.length_set]
      congr 1
      exact map_keep hbk (by unfold DbG.hdr; simp only [List.length_set])
    have e5 : ({ (x.hurt b p).tick with off := (findG x.hitsG 3).isSome, blocks := x.blocks.set i ({ bk with pages := bk.pages.set k (⟨zc.1, zc.2, andTo (clampN (layN x.abs.hits x.size).1 x.size) pg.l (spoilsG x.hitsG l), true, zl.1, zl.2, l⟩ : DpG) } : DbG) } : DcG).mks = ({ (x.hurt b p).tick with off := (findG x.hitsG 3).isSome } : DcG).mks := by
      unfold DcG.mks
      simp only [List.length_set]
      congr 1
      exact map_keep hbk rfl
    have e6 : ({ (x.hurt b p).tick with off := (findG x.hitsG 3).isSome, blocks := x.blocks.set i ({ bk with pages := bk.pages.set k (⟨zc.1, zc.2, andTo (clampN (layN x.abs.hits x.size).1 x.size) pg.l (spoilsG x.hitsG l), true, zl.1, zl.2, l⟩ : DpG) } : DbG) } : DcG).wns = ({ (x.hurt b p).tick with off := (findG x.hitsG 3).isSome } : DcG).wns := by
      unfold DcG.wns
      simp only [List.length_set]
      congr 1
      exact map_keep hbk rfl
    rw [e3, e4, e5, e6]
    exact h3.pick [1, 1, 0, 0, 0] rfl
  exact h4.docC)
end Go.Proofs.YtcapijdokbkgaaaDoor
end
