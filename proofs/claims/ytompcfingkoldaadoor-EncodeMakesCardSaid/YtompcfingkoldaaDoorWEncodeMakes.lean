/- The walk of the statement EncodeMakes. Conditions: each theorem tells its own. -/
import Derived.Test.YtompcfingkoldaaDoorGB
import Derived.Test.YtompcfingkoldaaDoorRows
import Derived.LaidLaws
import Derived.WalkKit
import Derived.ProofKit
import Derived.OpenShut
import Derived.Deep.DeepHandedRow
import Derived.Deep.DeepWitnessRowRef
import Derived.Test.YtompcfingkoldaaDoorGE
import Derived.Test.YtompcfingkoldaaDoorGF
section
/- What a row's list of error variables gives a walk: each holds a pointer of its own. No condition. -/
namespace Go.Proofs.YtompcfingkoldaaDoor
open Go.Sx Go.ChangeShapes Go.WideShapes Go.RowKit

theorem laidOutT : laidOutB Tryd.prog = true := by kernel_rfl
theorem errStar : "*" ++ "errors.errorString" = "*errors.errorString" := by decide
theorem errRow (u : TypeId) (h : Tryd.prog.typeName? 3 u = some "*errors.errorString") : u = 262 :=
  typeName_ptr_named (nm := "errors.errorString") (by rw [errStar]; kernel_rfl) (by kernel_rfl) (by decide) u (by rw [errStar]; exact h)
theorem errCells : Tryd.prog.cellsOf 279 = 1 := by kernel_rfl
theorem strCells : Tryd.prog.cellsOf 9 = 1 := by kernel_rfl
theorem noKnob : ownKnob Tryd.prog.godebug = none := by kernel_rfl

/-- The pointer that error variable k holds. -/
noncomputable def eOf (W : World) (k : Nat) : Addr := open Classical in if h : ∃ a, W.cell? ⟨k, 0, none⟩ = some (.iface 262 (.pointer (some a))) then Classical.choose h else default

theorem er_of {W : World} {k : Nat} (h : ∃ a, W.cell? ⟨k, 0, none⟩ = some (.iface 262 (.pointer (some a)))) : Er (eOf W) W k := by
  unfold Er errV eOf
  rw [dif_pos h]
  exact Classical.choose_spec h

set_option maxRecDepth 100000 in
theorem er_laid {W : World} : ∀ {l : List (String × DataW Unit)} {ps : List MemPlace}, DataW.LaidVars Tryd.prog W l ps →
    (∀ b off, MemPlace.cell b off ∈ ps → (∃ c t, W.heap[b]? = some (.cells c t (0, 0))) ∧ ∀ u v, W.cell? ⟨b, off, none⟩ = some (.iface u v) → Value.okWide Tryd.prog W .any 0 u v) →
    ∀ n d, (n, d) ∈ l → ∀ text k, d = .iface "*errors.errorString" (.ptr (.agg [.lit (.string text)])) → Tryd.prog.globalNamed n = some k → (Tryd.prog.globals[k]?).map (·.type) = some 34 → Er (eOf W) W k
  | [], _, _, _, _, _, h, _, _, _, _, _ => by cases h
  | (n0, d0) :: r, ps, hl, hrows, n, d, hm, text, k, hd, hk, ht => by
    obtain ⟨g, t, cs, fuel, p, q, hg, htg, hv, htr, hr, hps⟩ := hl
    rcases List.mem_cons.1 hm with he | hm
    · simp only [Prod.mk.injEq] at he
      obtain ⟨rfl, rfl⟩ := he
      subst hd
      obtain rfl := Option.some.inj (hk.symm.trans hg)
      obtain rfl := Option.some.inj (ht.symm.trans htg)
      obtain ⟨l0⟩ := cs
      have ok0 : ∀ u v, l0 = [.iface u v] → Value.okWide Tryd.prog W .any 0 u v := fun u v e => by
        subst e
        exact (hrows k 0 (by rw [hps]; simp [MemPlace.row])).2 u v (by simpa using World.var?_cell hg hv 0)
      obtain ⟨a, s, rfl, _⟩ := errorString_of_trod Tryd.underlying34 errRow Tryd.underlying262 Tryd.underlying279 rfl rfl Tryd.underlying9 errCells strCells htr ok0
      exact er_of ⟨a, by simpa using World.var?_cell hg hv 0⟩
    · exact er_laid hr (fun b off hb => hrows b off (by rw [hps]; exact List.mem_append_right _ hb)) n d hm text k hd hk ht

theorem er_met {W : World} {l : List (String × DataW Unit)} (h : laidMet Tryd.prog l W) (n : String) (d : DataW Unit) (hm : (n, d) ∈ l) (text : List UInt8) (k : Nat) (hd : d = .iface "*errors.errorString" (.ptr (.agg [.lit (.string text)])))
    (hk : Tryd.prog.globalNamed n = some k) (ht : (Tryd.prog.globals[k]?).map (·.type) = some 34) : Er (eOf W) W k :=
  let ⟨_, h1, _, h3⟩ := h
  er_laid h1 h3 n d hm text k hd hk ht

theorem fr_below {w w' : World} (h : Sto w [] w') : Below w.heap.size w w' := h.fr.below
end Go.Proofs.YtompcfingkoldaaDoor
end
section
/- What a row's list of error variables gives a walk: each holds a pointer of its own, and no two the same. No condition. -/
namespace Go.Proofs.YtompcfingkoldaaDoor
open Go.Sx Go.ChangeShapes Go.WideShapes Go.RowKit

def LaysE : List (String × DataW Unit) → List Nat → Prop
  | [], [] => True
  | (n, d) :: l, k :: ks => (∃ text, d = .iface "*errors.errorString" (.ptr (.agg [.lit (.string text)]))) ∧ Tryd.prog.globalNamed n = some k ∧ (Tryd.prog.globals[k]?).map (·.type) = some 34 ∧ LaysE l ks
  | [], _ :: _ => False
  | _ :: _, [] => False

theorem row_one (a : Addr) : MemPlace.row a 1 = [MemPlace.cell a.block a.off] := by simp [MemPlace.row]

set_option maxRecDepth 100000 in
theorem ers_run {W : World} : ∀ {l : List (String × DataW Unit)} {ks : List Nat} {ps : List MemPlace}, DataW.LaidVars Tryd.prog W l ps → LaysE l ks →
    (∀ b off, MemPlace.cell b off ∈ ps → (∃ c t, W.heap[b]? = some (.cells c t (0, 0))) ∧ ∀ u v, W.cell? ⟨b, off, none⟩ = some (.iface u v) → Value.okWide Tryd.prog W .any 0 u v) → ps.Nodup →
    (∀ k ∈ ks, Er (eOf W) W k ∧ Live (eOf W k) W ∧ MemPlace.cell (eOf W k).block (eOf W k).off ∈ ps) ∧ ks.Pairwise (fun i j => eOf W i ≠ eOf W j)
  | [], [], _, _, _, _, _ => ⟨fun _ h => by simp at h, List.Pairwise.nil⟩
  | (n, d) :: l, k :: ks, ps, hl, hk, hrows, hn => by
    obtain ⟨⟨text, hd⟩, hk1, hk2, hk3⟩ := hk
    obtain ⟨g, t, cs, fuel, p, q, hg, htg, hv, htr, hr, hps⟩ := hl
    subst hd
    obtain rfl := Option.some.inj (hk1.symm.trans hg)
    obtain rfl := Option.some.inj (hk2.symm.trans htg)
    obtain ⟨l0⟩ := cs
    have ok0 : ∀ u v, l0 = [.iface u v] → Value.okWide Tryd.prog W .any 0 u v := fun u v e => by
      subst e
      exact (hrows k 0 (by rw [hps]; simp [MemPlace.row])).2 u v (by simpa using World.var?_cell hg hv 0)
    obtain ⟨a, s, rfl, hs1, hs2, hs3, hs4⟩ := errorString_of_trod Tryd.underlying34 errRow Tryd.underlying262 Tryd.underlying279 rfl rfl Tryd.underlying9 errCells strCells htr ok0
    have hc : W.cell? ⟨k, 0, none⟩ = some (.iface 262 (.pointer (some a))) := by simpa using World.var?_cell hg hv 0
    have he : Er (eOf W) W k := er_of ⟨a, hc⟩
    have ha : eOf W k = a := by
      have h2 := he.symm.trans hc
      simp only [errV, Option.some.injEq, Value.iface.injEq, Value.pointer.injEq, true_and] at h2
      exact h2
    have hp : MemPlace.cell a.block a.off ∈ p := by rw [hs4, row_one]; exact List.mem_singleton.2 rfl
    have hpp : MemPlace.cell a.block a.off ∈ ps := by rw [hps]; exact List.mem_append_left _ (List.mem_append_right _ hp)
    have hn2 : (MemPlace.row ⟨k, 0, none⟩ (List.toArray [Value.iface 262 (.pointer (some a))]).size ++ p ++ q).Nodup := by rw [← hps]; exact hn
    rw [List.nodup_append] at hn2
    obtain ⟨h1, h2⟩ := ers_run (W := W) hr hk3 (fun b off hb => hrows b off (by rw [hps]; exact List.mem_append_right _ hb)) hn2.2.1
    refine ⟨fun j hj => ?_, List.Pairwise.cons (fun j hj hej => ?_) h2⟩
    · rcases List.mem_cons.1 hj with rfl | hj
      · exact ⟨he, by rw [ha]; exact (hrows _ _ hpp).1, by rw [ha]; exact hpp⟩
      · obtain ⟨x1, x2, x3⟩ := h1 j hj
        exact ⟨x1, x2, by rw [hps]; exact List.mem_append_right _ x3⟩
    · obtain ⟨_, _, x3⟩ := h1 j hj
      rw [← hej, ha] at x3
      exact hn2.2.2 _ (List.mem_append_right _ hp) _ x3 rfl
  | [], _ :: _, _, _, h, _, _ => h.elim
  | _ :: _, [], _, _, h, _, _ => h.elim

theorem World.lt_of_heap {W : World} {b : Nat} {c : Array Value} {t : TypeId} (h : W.heap[b]? = some (.cells c t (0, 0))) : b < W.heap.size := by
  obtain ⟨h1, _⟩ := Array.getElem?_eq_some_iff.1 h
  exact h1

theorem pw_all {R : Nat → Nat → Prop} (hs : ∀ x y, R x y → R y x) : ∀ {l : List Nat}, l.Pairwise R → ∀ x ∈ l, ∀ y ∈ l, x ≠ y → R x y
  | [], _, _, hx, _, _, _ => by simp at hx
  | a :: l, h, x, hx, y, hy, hne => by
    obtain ⟨h1, h2⟩ := List.pairwise_cons.1 h
    rcases List.mem_cons.1 hx with rfl | hx
    · rcases List.mem_cons.1 hy with rfl | hy
      · exact absurd rfl hne
      · exact h1 y hy
    · rcases List.mem_cons.1 hy with hy | hy
      · rw [hy]; exact hs _ _ (h1 x hx)
      · exact pw_all hs h2 x hx y hy hne
theorem ers_met {W : World} {l : List (String × DataW Unit)} {ks : List Nat} (h : laidMet Tryd.prog l W) (hk : LaysE l ks) : Has (ersA (eOf W) ks) W := by
  obtain ⟨ps, h1, h2, h3⟩ := h
  obtain ⟨k1, k2⟩ := ers_run h1 hk h3 h2
  refine ⟨fun b => b < W.heap.size, ⟨fun k hk => ?_, ?_⟩, fun _ hb => hb⟩
  · obtain ⟨x1, ⟨c, t, x2⟩, _⟩ := k1 k hk
    exact ⟨World.block_lt_of_cell? W _ x1, World.lt_of_heap x2, x1, c, t, x2⟩
  · intro i hi j hj hne
    exact pw_all (fun _ _ h he => h he.symm) k2 i hi j hj hne
end Go.Proofs.YtompcfingkoldaaDoor
end
section
/- The statement EncodeMakes, walked: what New answers, all cases. Conditions: the errors' variables. -/
namespace Go.Proofs.YtompcfingkoldaaDoor
open Go Go.Sx Go.Fm Nb
set_option maxRecDepth 100000
theorem errC_if (e : Nat → Addr) {k : Nat} (h : k ≠ 0) : ∃ u v, errC e k = .iface u v := by
  unfold errC
  split
  · exact absurd rfl h
  · exact ⟨_, _, rfl⟩
  · exact ⟨_, _, rfl⟩
  · exact ⟨_, _, rfl⟩

theorem newm_least (m t b : Int) (e : Nat → Addr) (w : World) (he : Has (ersA e apiErrs) w) (h0 : leastC m t ≠ 0) : Spec1 Tryd.prog 30 [.int .i64 m, .int .i64 t, .int .i64 b] w (two (.pointer none) (errC e (leastC m t))) := by
  obtain ⟨u, v, hE⟩ := errC_if e h0
  rw [hE]
  refine spec_of Tryd.func30 rfl Tryd.ntmps30 rfl ?_
  refine CW.seq ?_
  refine CW.reg [0, 1] rfl ?_   -- 0, encode.go:22
  refine s_as 6 rfl rfl ?_
  refine s_as 7 rfl rfl ?_
  refine SX.next ?_
  refine CW.seq ?_
  refine CW.reg [0, 1, 2, 3, 4, 5, 6, 7] rfl ?_   -- 1, encode.go:23
  refine s_mv 15 rfl rfl ?_
  refine s_mv 16 rfl rfl ?_
  refine s_call1 17 rfl rfl rfl rfl (fun w hw => by have := least_any m t e w (hw.old he); rw [hE] at this; exact this) (fun _ _ => trivial) ?_
  refine s_mv 14 rfl rfl ?_
  refine s_ext 18 rfl rfl rfl ?_
  refine s_ext 19 rfl rfl rfl ?_
  refine s_as 8 rfl rfl ?_
  refine s_as 9 rfl rfl ?_
  refine SX.next ?_
  refine CW.seq ?_
  refine CW.block ?_
  refine CW.seq ?_
  refine CW.reg [0, 1, 2] rfl ?_   -- 2, encode.go:25
  refine s_mv 21 rfl rfl ?_
  refine s_neHN 22 rfl rfl ?_
  refine s_as 20 rfl rfl ?_
  refine SX.next ?_
  refine CW.condT rfl ?_
  refine CW.seq ?_
  refine CW.reg [0, 1, 2] rfl ?_   -- 3, encode.go:26
  refine s_mv 23 rfl rfl ?_
  refine s_as 6 rfl rfl ?_
  refine s_as 7 rfl rfl ?_
  refine SX.next ?_
  refine CW.ret ?_
  exact KN.ret (rs := [.tmp 6, .tmp 7]) Tryd.results30 rfl (fun w hw => ⟨rfl, hw.nothing⟩)

theorem newm_long (m t : Nat) (b : Int) (e : Nat → Addr) (w : World) (hMT : MT m t) (hd : (ldr m t).2 < N m) (hbb : b < 1 ∨ 2048 < b) (heL : Er e w 0) : Spec1 Tryd.prog 30 [.int .i64 (m : Nat), .int .i64 (t : Nat), .int .i64 b] w (two (.pointer none) (errV e 0)) := by
  have hm := hMT.ok
  refine spec_of Tryd.func30 rfl Tryd.ntmps30 rfl ?_
  refine CW.seq ?_
  refine CW.reg [0, 1] rfl ?_   -- 0, encode.go:22
  refine s_as 6 rfl rfl ?_
  refine s_as 7 rfl rfl ?_
  refine SX.next ?_
  refine CW.seq ?_
  refine CW.reg [0, 1, 2, 3, 4, 5, 6, 7] rfl ?_   -- 1, encode.go:23
  refine s_mv 15 rfl rfl ?_
  refine s_mv 16 rfl rfl ?_
  refine s_call1 17 rfl rfl rfl rfl (fun w hw => least_ok m t e w hm hMT.t1 hMT.t40 hd) (fun _ _ => trivial) ?_
  refine s_mv 14 rfl rfl ?_
  refine s_ext 18 rfl rfl rfl ?_
  refine s_ext 19 rfl rfl rfl ?_
  refine s_as 8 rfl rfl ?_
  refine s_as 9 rfl rfl ?_
  refine SX.next ?_
  refine CW.seq ?_
  refine CW.block ?_
  refine CW.seq ?_
  refine CW.reg [0, 1, 2] rfl ?_   -- 2, encode.go:25
  refine s_mv 21 rfl rfl ?_
  refine s_neNN 22 rfl rfl ?_
  refine s_as 20 rfl rfl ?_
  refine SX.next ?_
  refine CW.condF rfl ?_
  refine CW.seq ?_
  refine CW.reg [0, 1, 2, 3, 4, 5, 6] rfl ?_   -- 4, encode.go:27
  refine s_mv 25 rfl rfl ?_
  refine s_lt 26 rfl rfl rfl rfl ?_
  refine s_mv 27 rfl rfl ?_
  refine SX.bool 27 rfl (fun hb => ?_) (fun hb => ?_)
  · skip
    skip
    refine SX.skip rfl ?_
    refine SX.skip rfl ?_
    refine s_pickT 30 rfl rfl rfl ?_
    refine s_as 24 rfl rfl ?_
    refine SX.next ?_
    refine CW.condT rfl ?_
    refine CW.seq ?_
    refine CW.regD (.st true 0 (.st true 1 (.st true 2 .done))) (Sto w []) mixed (by kernel_rfl) (fun _ h => h.drew) (fun _ h => h) ?_
    refine s_ldS 31 rfl rfl (fun _ h => h.cell heL) ?_
    refine s_as 6 rfl rfl ?_
    refine s_as 7 rfl rfl ?_
    refine SX.next ?_
    refine CW.ret ?_
    exact KN.ret (rs := [.tmp 6, .tmp 7]) Tryd.results30 rfl (fun w hw => ⟨rfl, hw.nothing⟩)
  · skip
    have hx := of_decide_eq_false hb
    refine s_mv 28 rfl rfl ?_
    refine s_gt 29 rfl rfl rfl (decide_eq_true (by omega)) ?_
    refine s_pickF 30 rfl rfl rfl ?_
    refine s_as 24 rfl rfl ?_
    refine SX.next ?_
    refine CW.condT rfl ?_
    refine CW.seq ?_
    refine CW.regD (.st true 0 (.st true 1 (.st true 2 .done))) (Sto w []) mixed (by kernel_rfl) (fun _ h => h.drew) (fun _ h => h) ?_
    refine s_ldS 31 rfl rfl (fun _ h => h.cell heL) ?_
    refine s_as 6 rfl rfl ?_
    refine s_as 7 rfl rfl ?_
    refine SX.next ?_
    refine CW.ret ?_
    exact KN.ret (rs := [.tmp 6, .tmp 7]) Tryd.results30 rfl (fun w hw => ⟨rfl, hw.nothing⟩)

theorem rNewm_least (m t b : Int) (w : World) (h0 : leastC m t ≠ 0) : Spec1 Tryd.prog 29 [.int .i64 m, .int .i64 t, .int .i64 b] w (two (.agg refZ) (.int .i64 (leastC m t : Nat))) := by
  refine spec_of Tryd.func29 rfl Tryd.ntmps29 rfl ?_
  refine CW.seq ?_
  refine CW.reg [0, 1] rfl ?_   -- 0, code.go:17
  refine s_alloc 6 rfl (fun _ _ => trivial) (fun rs => ?_)
  refine s_as 7 rfl rfl ?_
  refine SX.next ?_
  refine CW.seq ?_
  refine CW.reg [0, 1, 2, 3, 4, 5, 6, 7, 8, 9] rfl ?_   -- 1, code.go:18
  refine s_mv 14 rfl rfl ?_
  refine s_mv 15 rfl rfl ?_
  refine s_call 16 rfl rfl rfl rfl (fun w hw => rleast_any m t w) (fun _ _ => trivial) (fun z hz => ?_)
  refine s_mv 13 rfl rfl ?_
  refine s_ext 17 rfl rfl rfl ?_
  refine s_ext 18 rfl rfl rfl ?_
  refine s_ext 19 rfl rfl rfl ?_
  refine s_as 8 rfl rfl ?_
  refine s_as 9 rfl rfl ?_
  refine s_as 10 rfl rfl ?_
  refine SX.next ?_
  refine CW.seq ?_
  refine CW.seq ?_
  refine CW.reg [0, 1] rfl ?_   -- 2, code.go:19
  refine s_mv 20 rfl rfl ?_
  refine s_ne 21 rfl rfl rfl (decide_eq_true (by omega)) ?_
  refine SX.next ?_
  refine CW.condT rfl ?_
  refine CW.seq ?_
  refine CW.reg [0, 1, 2, 3] rfl ?_   -- 3, code.go:20
  refine s_build 22 rfl rfl (cells := refZ) rfl ?_
  refine s_mv 23 rfl rfl ?_
  refine s_stAll 1 rfl rfl (by kernel_rfl) rfl rfl rfl rfl (fun _ _ => trivial) ?_
  refine s_as 7 rfl rfl ?_
  refine SX.next ?_
  refine CW.ret ?_
  exact KN.retC (rs := [.cell 6 27, .tmp 7]) Tryd.results29 (fun w hw => ⟨[_, _], ⟨⟨_, rfl, hw.ldRow (q := 1) rfl (by rfl)⟩, rfl, trivial⟩, rfl, hw.nothing⟩)

theorem rNewm_long (m t : Nat) (b : Int) (w : World) (hMT : MT m t) (hd : (ldr m t).2 < N m) (hbb : b < 1 ∨ 2048 < b) : Spec1 Tryd.prog 29 [.int .i64 (m : Nat), .int .i64 (t : Nat), .int .i64 b] w (two (.agg refZ) (.int .i64 104)) := by
  have hm := hMT.ok
  refine spec_of Tryd.func29 rfl Tryd.ntmps29 rfl ?_
  refine CW.seq ?_
  refine CW.reg [0, 1] rfl ?_   -- 0, code.go:17
  refine s_alloc 6 rfl (fun _ _ => trivial) (fun rs => ?_)
  refine s_as 7 rfl rfl ?_
  refine SX.next ?_
  refine CW.seq ?_
  refine CW.reg [0, 1, 2, 3, 4, 5, 6, 7, 8, 9] rfl ?_   -- 1, code.go:18
  refine s_mv 14 rfl rfl ?_
  refine s_mv 15 rfl rfl ?_
  refine s_call 16 rfl rfl rfl rfl (fun w hw => rleast_ok m t w hm hMT.t1 hMT.t40 hd) (fun _ _ => trivial) (fun z hz => ?_)
  refine s_mv 13 rfl rfl ?_
  refine s_ext 17 rfl rfl rfl ?_
  refine s_ext 18 rfl rfl rfl ?_
  refine s_ext 19 rfl rfl rfl ?_
  refine s_as 8 rfl rfl ?_
  refine s_as 9 rfl rfl ?_
  refine s_as 10 rfl rfl ?_
  refine SX.next ?_
  refine CW.seq ?_
  refine CW.seq ?_
  refine CW.reg [0, 1] rfl ?_   -- 2, code.go:19
  refine s_mv 20 rfl rfl ?_
  refine s_ne 21 rfl rfl rfl (decide_eq_false (fun h => h rfl)) ?_
  refine SX.next ?_
  refine CW.condF rfl ?_
  refine CW.skip ?_
  refine KN.code ?_
  refine CW.seq ?_
  refine CW.seq ?_
  refine CW.reg [0, 1, 2, 3, 4, 5] rfl ?_   -- 4, code.go:22
  refine s_mv 24 rfl rfl ?_
  refine s_lt 25 rfl rfl rfl rfl ?_
  refine s_mv 26 rfl rfl ?_
  refine SX.bool 26 rfl (fun hb => ?_) (fun hb => ?_)
  · skip
    skip
    refine SX.skip rfl ?_
    refine SX.skip rfl ?_
    refine s_pickT 29 rfl rfl rfl ?_
    refine SX.next ?_
    refine CW.condT rfl ?_
    refine CW.seq ?_
    refine CW.reg [0, 1, 2] rfl ?_   -- 5, code.go:23
    refine s_build 30 rfl rfl (cells := refZ) rfl ?_
    refine s_stAll 1 rfl rfl (by kernel_rfl) rfl rfl rfl rfl (fun _ _ => trivial) ?_
    refine s_as 7 rfl rfl ?_
    refine SX.next ?_
    refine CW.ret ?_
    exact KN.retC (rs := [.cell 6 27, .tmp 7]) Tryd.results29 (fun w hw => ⟨[_, _], ⟨⟨_, rfl, hw.ldRow (q := 1) rfl (by rfl)⟩, rfl, trivial⟩, rfl, hw.nothing⟩)
  · skip
    have hx := of_decide_eq_false hb
    refine s_mv 27 rfl rfl ?_
    refine s_gt 28 rfl rfl rfl (decide_eq_true (by omega)) ?_
    refine s_pickF 29 rfl rfl rfl ?_
    refine SX.next ?_
    refine CW.condT rfl ?_
    refine CW.seq ?_
    refine CW.reg [0, 1, 2] rfl ?_   -- 5, code.go:23
    refine s_build 30 rfl rfl (cells := refZ) rfl ?_
    refine s_stAll 1 rfl rfl (by kernel_rfl) rfl rfl rfl rfl (fun _ _ => trivial) ?_
    refine s_as 7 rfl rfl ?_
    refine SX.next ?_
    refine CW.ret ?_
    exact KN.retC (rs := [.cell 6 27, .tmp 7]) Tryd.results29 (fun w hw => ⟨[_, _], ⟨⟨_, rfl, hw.ldRow (q := 1) rfl (by rfl)⟩, rfl, trivial⟩, rfl, hw.nothing⟩)

theorem mk_cases (m t b : Int) : leastC m t ≠ 0 ∨ ∃ M T : Nat, m = (M : Nat) ∧ t = (T : Nat) ∧ MT M T ∧ (ldr M T).2 < N M ∧ ((b < 1 ∨ 2048 < b) ∨ ∃ D : Nat, b = (D : Nat) ∧ 1 ≤ D ∧ D ≤ 2048 ∧ (N M < 8 * D + dg M T ∨ 8 * D + dg M T ≤ N M)) := by
  rcases lc_cases m t with h | ⟨M, rfl, hm, h | ⟨T, rfl, h1, h40, h | h⟩⟩
  · exact .inl (by rw [lc_field h]; decide)
  · exact .inl (by rw [lc_num hm h]; decide)
  · refine .inr ⟨M, T, rfl, rfl, ⟨hm, h1, h40⟩, h, ?_⟩
    by_cases hb : b < 1 ∨ 2048 < b
    · exact .inl hb
    · exact .inr ⟨b.toNat, by omega, by omega, by omega, by omega⟩
  · exact .inl (by rw [lc_code hm h1 h40 h]; decide)

theorem makes_least (m t b : Int) (e : Nat → Addr) (w : World) (he : Has (ersA e apiErrs) w) (h0 : leastC m t ≠ 0) : Spec1 Tryd.prog 4 [.int .i64 m, .int .i64 t, .int .i64 b] w (.bool true) := by
  refine spec_of Tryd.func4 rfl Tryd.ntmps4 rfl ?_
  refine CW.seq ?_
  refine CW.reg [0] rfl ?_   -- 0, law.go:45
  refine s_as 6 rfl rfl ?_
  refine SX.next ?_
  refine CW.seq ?_
  refine CW.reg [0, 1] rfl ?_   -- 1, law.go:46
  refine s_call1 15 rfl rfl rfl rfl (fun w hw => first6_spec e w (hw.er (he.ers (by decide)))) (fun _ _ => trivial) ?_
  refine s_as 7 rfl rfl ?_
  refine SX.next ?_
  refine CW.seq ?_
  refine CW.reg [0, 1, 2, 3, 4, 5, 6, 7, 8, 9] rfl ?_   -- 2, law.go:47
  refine s_mv 17 rfl rfl ?_
  refine s_mv 18 rfl rfl ?_
  refine s_mv 19 rfl rfl ?_
  refine s_call1 20 rfl rfl rfl rfl (fun w hw => rNewm_least m t b w h0) (fun _ _ => trivial) ?_
  refine s_mv 16 rfl rfl ?_
  refine s_ext 21 rfl rfl rfl ?_
  refine s_ext 22 rfl rfl rfl ?_
  refine s_alloc 8 rfl (fun _ _ => trivial) (fun bx => ?_)
  refine s_stAll 0 rfl rfl (by kernel_rfl) rfl rfl rfl rfl (fun _ _ => trivial) ?_
  refine s_as 9 rfl rfl ?_
  refine SX.next ?_
  refine CW.seq ?_
  refine CW.seq ?_
  refine CW.reg [0, 1, 2, 3, 4, 5, 6] rfl ?_   -- 3, law.go:48
  refine s_mv 23 rfl rfl ?_
  refine s_eq 24 rfl rfl rfl (decide_eq_false (by omega)) ?_
  refine s_mv 25 rfl rfl ?_
  refine SX.skip rfl ?_
  refine SX.skip rfl ?_
  refine SX.skip rfl ?_
  refine s_pickF 29 rfl rfl rfl ?_
  refine SX.next ?_
  refine CW.condF rfl ?_
  refine CW.skip ?_
  refine KN.code ?_
  refine CW.seq ?_
  refine CW.reg [0, 1, 2, 3, 4, 5, 6, 7, 8] rfl ?_   -- 5, law.go:51
  refine s_mv 32 rfl rfl ?_
  refine s_mv 33 rfl rfl ?_
  refine s_mv 34 rfl rfl ?_
  refine s_call1 35 rfl rfl rfl rfl (fun w hw => newm_least m t b e w (hw.old he) h0) (fun _ _ => trivial) ?_
  refine s_mv 31 rfl rfl ?_
  refine s_ext 36 rfl rfl rfl ?_
  refine s_ext 37 rfl rfl rfl ?_
  refine s_as 10 rfl rfl ?_
  refine s_as 11 rfl rfl ?_
  refine SX.next ?_
  refine CW.seq ?_
  refine CW.seq ?_
  refine CW.reg [0, 1, 2, 3, 4, 5, 6, 7, 8, 9, 10, 11, 12, 13, 14] rfl ?_   -- 6, law.go:52
  refine s_mv 38 rfl rfl ?_
  refine s_not 39 rfl rfl ?_
  refine s_mv 40 rfl rfl ?_
  refine s_mv 41 rfl rfl ?_
  refine s_mv 42 rfl rfl ?_
  refine s_call1 43 rfl rfl rfl rfl (v := .bool true) (fun w hw => is_any m t e w (hw.old he)) (fun _ _ => trivial) ?_
  refine s_not 44 rfl rfl ?_
  refine s_pickF 45 rfl rfl rfl ?_
  refine s_mv 46 rfl rfl ?_
  refine s_mv 47 rfl rfl ?_
  refine s_eqPNn 48 rfl rfl ?_
  refine s_mv 49 rfl rfl ?_
  refine s_ne 50 rfl rfl rfl (decide_eq_true (by omega)) ?_
  refine s_neB 51 rfl rfl rfl (r := false) rfl ?_
  refine s_pickF 52 rfl rfl rfl ?_
  refine SX.next ?_
  refine CW.condF rfl ?_
  refine CW.skip ?_
  refine KN.code ?_
  refine CW.seq ?_
  refine CW.seq ?_
  refine CW.reg [0, 1] rfl ?_   -- 8, law.go:55
  refine s_mv 53 rfl rfl ?_
  refine s_eqPNn 54 rfl rfl ?_
  refine SX.next ?_
  refine CW.condT rfl ?_
  refine CW.seq ?_
  refine CW.reg [0] rfl ?_   -- 9, law.go:56
  refine s_as 6 rfl rfl ?_
  refine SX.next ?_
  refine CW.ret ?_
  exact KN.ret (rs := [.tmp 6]) Tryd.results4 rfl (fun w hw => ⟨rfl, hw.nothing⟩)

theorem makes_long (m t : Nat) (b : Int) (e : Nat → Addr) (w : World) (he : Has (ersA e apiErrs) w) (hMT : MT m t) (hd : (ldr m t).2 < N m) (hb_ : b < 1 ∨ 2048 < b) : Spec1 Tryd.prog 4 [.int .i64 (m : Nat), .int .i64 (t : Nat), .int .i64 b] w (.bool true) := by
  refine spec_of Tryd.func4 rfl Tryd.ntmps4 rfl ?_
  refine CW.seq ?_
  refine CW.reg [0] rfl ?_   -- 0, law.go:45
  refine s_as 6 rfl rfl ?_
  refine SX.next ?_
  refine CW.seq ?_
  refine CW.reg [0, 1] rfl ?_   -- 1, law.go:46
  refine s_call1 15 rfl rfl rfl rfl (fun w hw => first6_spec e w (hw.er (he.ers (by decide)))) (fun _ _ => trivial) ?_
  refine s_as 7 rfl rfl ?_
  refine SX.next ?_
  refine CW.seq ?_
  refine CW.reg [0, 1, 2, 3, 4, 5, 6, 7, 8, 9] rfl ?_   -- 2, law.go:47
  refine s_mv 17 rfl rfl ?_
  refine s_mv 18 rfl rfl ?_
  refine s_mv 19 rfl rfl ?_
  refine s_call1 20 rfl rfl rfl rfl (fun w hw => rNewm_long m t b w hMT hd hb_) (fun _ _ => trivial) ?_
  refine s_mv 16 rfl rfl ?_
  refine s_ext 21 rfl rfl rfl ?_
  refine s_ext 22 rfl rfl rfl ?_
  refine s_alloc 8 rfl (fun _ _ => trivial) (fun bx => ?_)
  refine s_stAll 0 rfl rfl (by kernel_rfl) rfl rfl rfl rfl (fun _ _ => trivial) ?_
  refine s_as 9 rfl rfl ?_
  refine SX.next ?_
  refine CW.seq ?_
  refine CW.seq ?_
  refine CW.reg [0, 1, 2, 3, 4, 5, 6] rfl ?_   -- 3, law.go:48
  refine s_mv 23 rfl rfl ?_
  refine s_eq 24 rfl rfl rfl (decide_eq_false (by omega)) ?_
  refine s_mv 25 rfl rfl ?_
  refine SX.skip rfl ?_
  refine SX.skip rfl ?_
  refine SX.skip rfl ?_
  refine s_pickF 29 rfl rfl rfl ?_
  refine SX.next ?_
  refine CW.condF rfl ?_
  refine CW.skip ?_
  refine KN.code ?_
  refine CW.seq ?_
  refine CW.reg [0, 1, 2, 3, 4, 5, 6, 7, 8] rfl ?_   -- 5, law.go:51
  refine s_mv 32 rfl rfl ?_
  refine s_mv 33 rfl rfl ?_
  refine s_mv 34 rfl rfl ?_
  refine s_call1 35 rfl rfl rfl rfl (fun w hw => newm_long m t b e w hMT hd hb_ (hw.er (he.ers (by decide)))) (fun _ _ => trivial) ?_
  refine s_mv 31 rfl rfl ?_
  refine s_ext 36 rfl rfl rfl ?_
  refine s_ext 37 rfl rfl rfl ?_
  refine s_as 10 rfl rfl ?_
  refine s_as 11 rfl rfl ?_
  refine SX.next ?_
  refine CW.seq ?_
  refine CW.seq ?_
  refine CW.reg [0, 1, 2, 3, 4, 5, 6, 7, 8, 9, 10, 11, 12, 13, 14] rfl ?_   -- 6, law.go:52
  refine s_mv 38 rfl rfl ?_
  refine s_not 39 rfl rfl ?_
  refine s_mv 40 rfl rfl ?_
  refine s_mv 41 rfl rfl ?_
  refine s_mv 42 rfl rfl ?_
  refine s_call1 43 rfl rfl rfl rfl (v := .bool true) (fun w hw => is_err 3 _ 104 e w (hw.old he) rfl) (fun _ _ => trivial) ?_
  refine s_not 44 rfl rfl ?_
  refine s_pickF 45 rfl rfl rfl ?_
  refine s_mv 46 rfl rfl ?_
  refine s_mv 47 rfl rfl ?_
  refine s_eqPNn 48 rfl rfl ?_
  refine s_mv 49 rfl rfl ?_
  refine s_ne 50 rfl rfl rfl (decide_eq_true (by omega)) ?_
  refine s_neB 51 rfl rfl rfl (r := false) rfl ?_
  refine s_pickF 52 rfl rfl rfl ?_
  refine SX.next ?_
  refine CW.condF rfl ?_
  refine CW.skip ?_
  refine KN.code ?_
  refine CW.seq ?_
  refine CW.seq ?_
  refine CW.reg [0, 1] rfl ?_   -- 8, law.go:55
  refine s_mv 53 rfl rfl ?_
  refine s_eqPNn 54 rfl rfl ?_
  refine SX.next ?_
  refine CW.condT rfl ?_
  refine CW.seq ?_
  refine CW.reg [0] rfl ?_   -- 9, law.go:56
  refine s_as 6 rfl rfl ?_
  refine SX.next ?_
  refine CW.ret ?_
  exact KN.ret (rs := [.tmp 6]) Tryd.results4 rfl (fun w hw => ⟨rfl, hw.nothing⟩)

theorem makes_code (m t D : Nat) (e : Nat → Addr) (w : World) (he : Has (ersA e apiErrs) w) (hMT : MT m t) (hd : (ldr m t).2 < N m) (h1D : 1 ≤ D) (hDm : D ≤ 2048) (hfit : N m < 8 * D + dg m t) : Spec1 Tryd.prog 4 [.int .i64 (m : Nat), .int .i64 (t : Nat), .int .i64 (D : Nat)] w (.bool true) := by
  refine spec_of Tryd.func4 rfl Tryd.ntmps4 rfl ?_
  refine CW.seq ?_
  refine CW.reg [0] rfl ?_   -- 0, law.go:45
  refine s_as 6 rfl rfl ?_
  refine SX.next ?_
  refine CW.seq ?_
  refine CW.reg [0, 1] rfl ?_   -- 1, law.go:46
  refine s_call1 15 rfl rfl rfl rfl (fun w hw => first6_spec e w (hw.er (he.ers (by decide)))) (fun _ _ => trivial) ?_
  refine s_as 7 rfl rfl ?_
  refine SX.next ?_
  refine CW.seq ?_
  refine CW.reg [0, 1, 2, 3, 4, 5, 6, 7, 8, 9] rfl ?_   -- 2, law.go:47
  refine s_mv 17 rfl rfl ?_
  refine s_mv 18 rfl rfl ?_
  refine s_mv 19 rfl rfl ?_
  refine s_call1 20 rfl rfl rfl rfl (fun w hw => rNew_bad m t D w hMT h1D hDm hfit) (fun _ _ => trivial) ?_
  refine s_mv 16 rfl rfl ?_
  refine s_ext 21 rfl rfl rfl ?_
  refine s_ext 22 rfl rfl rfl ?_
  refine s_alloc 8 rfl (fun _ _ => trivial) (fun bx => ?_)
  refine s_stAll 0 rfl rfl (by kernel_rfl) rfl rfl rfl rfl (fun _ _ => trivial) ?_
  refine s_as 9 rfl rfl ?_
  refine SX.next ?_
  refine CW.seq ?_
  refine CW.seq ?_
  refine CW.reg [0, 1, 2, 3, 4, 5, 6] rfl ?_   -- 3, law.go:48
  refine s_mv 23 rfl rfl ?_
  refine s_eq 24 rfl rfl rfl (decide_eq_false (by omega)) ?_
  refine s_mv 25 rfl rfl ?_
  refine SX.skip rfl ?_
  refine SX.skip rfl ?_
  refine SX.skip rfl ?_
  refine s_pickF 29 rfl rfl rfl ?_
  refine SX.next ?_
  refine CW.condF rfl ?_
  refine CW.skip ?_
  refine KN.code ?_
  refine CW.seq ?_
  refine CW.reg [0, 1, 2, 3, 4, 5, 6, 7, 8] rfl ?_   -- 5, law.go:51
  refine s_mv 32 rfl rfl ?_
  refine s_mv 33 rfl rfl ?_
  refine s_mv 34 rfl rfl ?_
  refine s_call1 35 rfl rfl rfl rfl (fun w hw => new_code m t D e w hMT h1D hDm hd hfit (hw.er (he.ers (by decide)))) (fun _ _ => trivial) ?_
  refine s_mv 31 rfl rfl ?_
  refine s_ext 36 rfl rfl rfl ?_
  refine s_ext 37 rfl rfl rfl ?_
  refine s_as 10 rfl rfl ?_
  refine s_as 11 rfl rfl ?_
  refine SX.next ?_
  refine CW.seq ?_
  refine CW.seq ?_
  refine CW.reg [0, 1, 2, 3, 4, 5, 6, 7, 8, 9, 10, 11, 12, 13, 14] rfl ?_   -- 6, law.go:52
  refine s_mv 38 rfl rfl ?_
  refine s_not 39 rfl rfl ?_
  refine s_mv 40 rfl rfl ?_
  refine s_mv 41 rfl rfl ?_
  refine s_mv 42 rfl rfl ?_
  refine s_call1 43 rfl rfl rfl rfl (v := .bool true) (fun w hw => is_err 4 _ 105 e w (hw.old he) rfl) (fun _ _ => trivial) ?_
  refine s_not 44 rfl rfl ?_
  refine s_pickF 45 rfl rfl rfl ?_
  refine s_mv 46 rfl rfl ?_
  refine s_mv 47 rfl rfl ?_
  refine s_eqPNn 48 rfl rfl ?_
  refine s_mv 49 rfl rfl ?_
  refine s_ne 50 rfl rfl rfl (decide_eq_true (by omega)) ?_
  refine s_neB 51 rfl rfl rfl (r := false) rfl ?_
  refine s_pickF 52 rfl rfl rfl ?_
  refine SX.next ?_
  refine CW.condF rfl ?_
  refine CW.skip ?_
  refine KN.code ?_
  refine CW.seq ?_
  refine CW.seq ?_
  refine CW.reg [0, 1] rfl ?_   -- 8, law.go:55
  refine s_mv 53 rfl rfl ?_
  refine s_eqPNn 54 rfl rfl ?_
  refine SX.next ?_
  refine CW.condT rfl ?_
  refine CW.seq ?_
  refine CW.reg [0] rfl ?_   -- 9, law.go:56
  refine s_as 6 rfl rfl ?_
  refine SX.next ?_
  refine CW.ret ?_
  exact KN.ret (rs := [.tmp 6]) Tryd.results4 rfl (fun w hw => ⟨rfl, hw.nothing⟩)

theorem makes_big (m t D : Nat) (e : Nat → Addr) (w : World) (he : Has (ersA e apiErrs) w) (hC : COk m t D) (hbig : 200 < dg m t) : Spec1 Tryd.prog 4 [.int .i64 (m : Nat), .int .i64 (t : Nat), .int .i64 (D : Nat)] w (.bool true) := by
  refine spec_of Tryd.func4 rfl Tryd.ntmps4 rfl ?_
  refine CW.seq ?_
  refine CW.reg [0] rfl ?_   -- 0, law.go:45
  refine s_as 6 rfl rfl ?_
  refine SX.next ?_
  refine CW.seq ?_
  refine CW.reg [0, 1] rfl ?_   -- 1, law.go:46
  refine s_call1 15 rfl rfl rfl rfl (fun w hw => first6_spec e w (hw.er (he.ers (by decide)))) (fun _ _ => trivial) ?_
  refine s_as 7 rfl rfl ?_
  refine SX.next ?_
  refine CW.seq ?_
  refine CW.reg [0, 1, 2, 3, 4, 5, 6, 7, 8, 9] rfl ?_   -- 2, law.go:47
  refine s_mv 17 rfl rfl ?_
  refine s_mv 18 rfl rfl ?_
  refine s_mv 19 rfl rfl ?_
  refine s_call 20 rfl rfl rfl rfl (fun w hw => rNew_ok m t D w hC) (fun _ _ => trivial) (fun g hg => ?_)
  refine s_mv 16 rfl rfl ?_
  refine s_ext 21 rfl rfl rfl ?_
  refine s_ext 22 rfl rfl rfl ?_
  refine s_alloc 8 rfl (fun _ _ => trivial) (fun bx => ?_)
  refine s_stAll 0 rfl rfl (by kernel_rfl) rfl rfl rfl rfl (fun _ _ => trivial) ?_
  refine s_as 9 rfl rfl ?_
  refine SX.next ?_
  refine CW.seq ?_
  refine CW.seq ?_
  refine CW.reg [0, 1, 2, 3, 4, 5, 6] rfl ?_   -- 3, law.go:48
  refine s_mv 23 rfl rfl ?_
  refine s_eq 24 rfl rfl rfl (decide_eq_true rfl) ?_
  refine s_mv 25 rfl rfl ?_
  refine s_fa 26 rfl rfl ?_
  refine s_ldB 27 0 rfl rfl rfl rfl ?_
  refine s_gt 28 rfl rfl rfl (decide_eq_true (by omega)) ?_
  refine s_pickT 29 rfl rfl rfl ?_
  refine SX.next ?_
  refine CW.condT rfl ?_
  refine CW.seq ?_
  refine CW.reg [0, 1] rfl ?_   -- 4, law.go:49
  refine s_mv 30 rfl rfl ?_
  refine s_as 6 rfl rfl ?_
  refine SX.next ?_
  refine CW.ret ?_
  exact KN.ret (rs := [.tmp 6]) Tryd.results4 rfl (fun w hw => ⟨rfl, hw.nothing⟩)

set_option maxHeartbeats 1600000 in

theorem makes_ok (m t D : Nat) (e : Nat → Addr) (w : World) (he : Has (ersA e apiErrs) w) (hC : COk m t D) (hbig : ¬ 200 < dg m t) : Spec1 Tryd.prog 4 [.int .i64 (m : Nat), .int .i64 (t : Nat), .int .i64 (D : Nat)] w (.bool true) := by
  refine spec_of Tryd.func4 rfl Tryd.ntmps4 rfl ?_
  refine CW.seq ?_
  refine CW.reg [0] rfl ?_   -- 0, law.go:45
  refine s_as 6 rfl rfl ?_
  refine SX.next ?_
  refine CW.seq ?_
  refine CW.reg [0, 1] rfl ?_   -- 1, law.go:46
  refine s_call1 15 rfl rfl rfl rfl (fun w hw => first6_spec e w (hw.er (he.ers (by decide)))) (fun _ _ => trivial) ?_
  refine s_as 7 rfl rfl ?_
  refine SX.next ?_
  refine CW.seq ?_
  refine CW.reg [0, 1, 2, 3, 4, 5, 6, 7, 8, 9] rfl ?_   -- 2, law.go:47
  refine s_mv 17 rfl rfl ?_
  refine s_mv 18 rfl rfl ?_
  refine s_mv 19 rfl rfl ?_
  refine s_call 20 rfl rfl rfl rfl (fun w hw => rNew_ok m t D w hC) (fun _ _ => trivial) (fun g hg => ?_)
  refine s_mv 16 rfl rfl ?_
  refine s_ext 21 rfl rfl rfl ?_
  refine s_ext 22 rfl rfl rfl ?_
  refine s_alloc 8 rfl (fun _ _ => trivial) (fun bx => ?_)
  refine s_stAll 0 rfl rfl (by kernel_rfl) rfl rfl rfl rfl (fun _ _ => trivial) ?_
  refine s_as 9 rfl rfl ?_
  refine SX.next ?_
  refine CW.seq ?_
  refine CW.seq ?_
  refine CW.reg [0, 1, 2, 3, 4, 5, 6] rfl ?_   -- 3, law.go:48
  refine s_mv 23 rfl rfl ?_
  refine s_eq 24 rfl rfl rfl (decide_eq_true rfl) ?_
  refine s_mv 25 rfl rfl ?_
  refine s_fa 26 rfl rfl ?_
  refine s_ldB 27 0 rfl rfl rfl rfl ?_
  refine s_gt 28 rfl rfl rfl (decide_eq_false (by omega)) ?_
  refine s_pickT 29 rfl rfl rfl ?_
  refine SX.next ?_
  refine CW.condF rfl ?_
  refine CW.skip ?_
  refine KN.code ?_
  refine CW.seq ?_
  refine CW.reg [0, 1, 2, 3, 4, 5, 6, 7, 8] rfl ?_   -- 5, law.go:51
  refine s_mv 32 rfl rfl ?_
  refine s_mv 33 rfl rfl ?_
  refine s_mv 34 rfl rfl ?_
  refine s_call 35 rfl rfl rfl rfl (fun w hw => new_ok m t D e w hC.mt hC.d1 hC.dm hC.fit) (fun _ _ => trivial) (fun z hq => ?_)
  obtain ⟨c, q⟩ := z
  obtain ⟨hMT, h1D, hDm, hfit⟩ := hC
  have hgl := gn_len hMT
  have hglt := gn_lt hMT
  have hm := hMT.ok
  refine SX.pre (C' := Sto w [codeA c m t D q, blk bx 27 (refC m t D g), genOf m t g]) (fun _ hw => hw) ?_
  refine s_mv 31 rfl rfl ?_
  refine s_ext 36 rfl rfl rfl ?_
  refine s_ext 37 rfl rfl rfl ?_
  refine s_as 10 rfl rfl ?_
  refine s_as 11 rfl rfl ?_
  refine SX.next ?_
  refine CW.seq ?_
  refine CW.seq ?_
  refine CW.reg [0, 1, 2, 3, 4, 5, 6, 7, 8, 9, 10, 11, 12, 13, 14] rfl ?_   -- 6, law.go:52
  refine s_mv 38 rfl rfl ?_
  refine s_not 39 rfl rfl ?_
  refine s_mv 40 rfl rfl ?_
  refine s_mv 41 rfl rfl ?_
  refine s_mv 42 rfl rfl ?_
  refine s_call1 43 rfl rfl rfl rfl (v := .bool true) (fun w hw => is_none 0 w) (fun _ _ => trivial) ?_
  refine s_not 44 rfl rfl ?_
  refine s_pickF 45 rfl rfl rfl ?_
  refine s_mv 46 rfl rfl ?_
  refine s_mv 47 rfl rfl ?_
  refine s_eqPN 48 rfl rfl ?_
  refine s_mv 49 rfl rfl ?_
  refine s_ne 50 rfl rfl rfl (decide_eq_false (fun h => h rfl)) ?_
  refine s_neB 51 rfl rfl rfl (r := false) rfl ?_
  refine s_pickF 52 rfl rfl rfl ?_
  refine SX.next ?_
  refine CW.condF rfl ?_
  refine CW.skip ?_
  refine KN.code ?_
  refine CW.seq ?_
  refine CW.seq ?_
  refine CW.reg [0, 1] rfl ?_   -- 8, law.go:55
  refine s_mv 53 rfl rfl ?_
  refine s_eqPN 54 rfl rfl ?_
  refine SX.next ?_
  refine CW.condF rfl ?_
  refine CW.skip ?_
  refine KN.code ?_
  refine CW.seq ?_
  refine CW.reg [0, 1, 2] rfl ?_   -- 10, law.go:58
  refine s_mv 55 rfl rfl ?_
  refine s_call 56 rfl rfl rfl rfl (fun w hw => cGen_spec c m t D q w hMT (hw.has (i := 0) rfl)) (fun _ _ => trivial) (fun q56 hq56 => ?_)
  refine s_as 12 rfl rfl ?_
  refine SX.next ?_
  refine CW.seq ?_
  refine CW.reg [0, 1, 2, 3, 4] rfl ?_   -- 11, law.go:59
  refine s_mv 57 rfl rfl ?_
  refine s_fa 58 rfl rfl ?_
  refine s_ldB 59 2 rfl rfl rfl rfl ?_
  refine s_call1 60 rfl rfl rfl rfl (v := .bool true) (fun w hw => by have := sameBytes_spec q56.1 (gnB m t).length q56.2 (gnB m t) g.1 (gnB m t).length g.2 (gnB m t) w ((hw.has (i := 0) rfl).of_own) hglt ((hw.has (i := 3) rfl).of_own) hglt; rw [decide_eq_true rfl] at this; exact this) (fun _ _ => trivial) ?_
  refine s_as 13 rfl rfl ?_
  refine SX.next ?_
  refine CW.seq ?_
  refine CW.seq ?_
  refine CW.reg [0] rfl ?_   -- 12, law.go:60
  refine s_as 14 rfl rfl ?_
  refine SX.next ?_
  refine CW.block ?_
  refine CW.loop (G := Nat × List Nat) (fun p => [(0, .int .i64 (m : Nat)), (1, .int .i64 (t : Nat)), (2, .int .i64 (D : Nat)), (8, .pointer (some ⟨bx, 0, none⟩)), (10, .pointer (some ⟨c, 0, none⟩)), (12, .slice q56.1 (gnB m t).length q56.2), (13, .bool true), (14, .int .i64 (p.1 : Nat))]) (fun p => Sto w [own 5 1 q56.1 (gnB m t).length q56.2 (nats .u8 p.2), codeA c m t D q, blk bx 27 (refC m t D g), genOf m t g]) (fun p => p.1 ≤ (gnB m t).length ∧ p.2.length = (gnB m t).length) (fun p => (gnB m t).length - p.1) (0, gnB m t) ⟨rfl, rfl, rfl, rfl, rfl, rfl, rfl, rfl, trivial⟩ (fun _ hw => hw) ⟨Nat.zero_le _, rfl⟩ ?_
  rintro ⟨i, l⟩ ⟨hi, hl⟩
  simp only at hi hl
  dsimp only
  refine CW.seq ?_
  refine CW.seq ?_
  refine CW.reg [0, 1, 2, 3] rfl ?_   -- 13, law.go:60
  refine s_mv 61 rfl rfl ?_
  refine s_mv 62 rfl rfl ?_
  refine s_len 63 rfl rfl ?_
  refine s_lt 64 rfl rfl rfl rfl ?_
  refine SX.next ?_
  refine CW.test rfl (fun hc => ?_) (fun hc => ?_)
  · skip
    refine CW.skip ?_
    refine KN.code ?_
    refine CW.seq ?_
    refine CW.block ?_
    refine CW.reg [0, 1, 2, 3] rfl ?_   -- 15, law.go:61
    refine s_mv 67 rfl rfl ?_
    refine s_mv 68 rfl rfl ?_
    refine s_iaO 69 0 i rfl rfl rfl rfl rfl (by omega) ?_
    refine s_stO 0 rfl rfl rfl rfl rfl (by omega) (fun _ _ => trivial) ?_
    refine SX.end_ ?_
    refine KN.blk ?_
    refine KN.code ?_
    refine CW.reg [0, 1, 2] rfl ?_   -- 14, law.go:60
    refine s_mv 65 rfl rfl ?_
    refine s_add 66 rfl rfl rfl (r := ((i + 1 : Nat) : Int)) (w64 (by omega)) ?_
    refine s_as 14 rfl rfl ?_
    refine SX.end_ ?_
    exact KN.back (i + 1, l.set i 238) ⟨rfl, rfl, rfl, rfl, rfl, rfl, rfl, rfl, trivial⟩ (fun _ hw => by simp only; rw [← nats_set]; exact hw) ⟨by simp only; omega, by simp only [List.length_set]; exact hl⟩ (by simp only; omega)
  · skip
    refine CW.exit rfl ?_
    refine KN.code ?_
    refine CW.seq ?_
    refine CW.regD (.st true 0 (.st true 1 (.st true 2 (.st true 4 (.st true 5 (.st false 3 (.st false 6 (.st true 7 (.st true 8 (.st true 9 (.st true 11 (.st false 10 (.st true 12 (.st true 13 (.st true 14 (.st true 15 (.st true 17 (.st false 16 (.st true 18 (.st true 19 (.st true 20 (.st true 21 (.st true 23 (.st true 24 (.st false 22 (.st true 25 (.st true 26 (.st true 27 (.st true 28 (.st true 30 (.st false 29 (.st false 31 (.st true 32 (.st true 33 (.st true 34 (.st true 35 (.st true 37 (.st false 36 (.st false 38 (.st true 39 (.st true 40 (.st true 41 (.st true 42 (.st false 43 (.st true 44 (.st true 45 (.st true 46 (.st true 47 (.st true 50 (.st false 48 (.st false 49 (.st true 51 (.st true 52 (.st true 53 .done)))))))))))))))))))))))))))))))))))))))))))))))))))))) (Sto w [blk bx 27 (refC m t D g), genOf m t g]) mixed (by kernel_rfl) (fun _ h => h.drew) (fun _ hw => hw.pick [2, 2] rfl) ?_
    refine s_mv 70 rfl rfl ?_
    refine s_mv 71 rfl rfl ?_
    refine s_mv 72 rfl rfl ?_
    refine s_fa 74 rfl rfl ?_
    refine s_ldS 75 rfl rfl (v := .slice g.1 (gnB m t).length g.2) (fun _ hw => hw.blkCell (i := 0) rfl rfl) ?_
    refine s_call 73 rfl rfl rfl rfl (fun w hw => cGen_spec c m t D q w hMT (hw.has (i := 1) rfl)) (fun _ hw => hw.pick [2, 2] rfl) (fun q73 hq73 => ?_)
    refine s_call1 76 rfl rfl rfl rfl (v := .bool true) (fun w hw => by have := sameBytes_spec q73.1 (gnB m t).length q73.2 (gnB m t) g.1 (gnB m t).length g.2 (gnB m t) w ((hw.has (i := 0) rfl).of_own) hglt ((hw.has (i := 4) rfl).of_own) hglt; rw [decide_eq_true rfl] at this; exact this) (fun _ hw => hw.pick [3, 3] rfl) ?_
    refine s_pickT 77 rfl rfl rfl ?_
    refine s_mv 78 rfl rfl ?_
    refine s_mv 79 rfl rfl ?_
    refine s_mv 81 rfl rfl ?_
    refine s_call1 80 rfl rfl rfl rfl (fun w hw => cT_spec c m t D q w (hw.has (i := 2) rfl)) (fun _ hw => hw.pick [3, 3] rfl) ?_
    refine s_eq 82 rfl rfl rfl (decide_eq_true rfl) ?_
    refine s_pickT 83 rfl rfl rfl ?_
    refine s_mv 84 rfl rfl ?_
    refine s_mv 85 rfl rfl ?_
    refine s_mv 87 rfl rfl ?_
    refine s_call1 86 rfl rfl rfl rfl (fun w hw => cData_spec c m t D q w (hw.has (i := 2) rfl)) (fun _ hw => hw.pick [3, 3] rfl) ?_
    refine s_eq 88 rfl rfl rfl (decide_eq_true rfl) ?_
    refine s_pickT 89 rfl rfl rfl ?_
    refine s_mv 90 rfl rfl ?_
    refine s_mv 91 rfl rfl ?_
    refine s_fa 93 rfl rfl ?_
    refine s_ldS 94 rfl rfl (v := .int .i64 (dg m t : Nat)) (fun _ hw => hw.blkCell (i := 0) rfl rfl) ?_
    refine s_call1 92 rfl rfl rfl rfl (fun w hw => cDeg_spec c m t D q w (hw.has (i := 2) rfl)) (fun _ hw => hw.pick [3, 3] rfl) ?_
    refine s_eq 95 rfl rfl rfl (decide_eq_true rfl) ?_
    refine s_pickT 96 rfl rfl rfl ?_
    refine s_mv 97 rfl rfl ?_
    refine s_mv 98 rfl rfl ?_
    refine s_ldRS 100 (cs := (refC m t D g).toList) rfl rfl rfl (fun _ hw => hw.blkRow (i := 0) rfl) ?_
    refine s_call1 99 rfl rfl rfl rfl (fun w hw => cPar_spec c m t D q w (hw.has (i := 2) rfl)) (fun _ hw => hw.pick [3, 3] rfl) ?_
    refine s_call1 101 rfl rfl rfl rfl (fun w hw => rPar_spec m t D g w hMT) (fun _ hw => hw.pick [3, 3] rfl) ?_
    refine s_eq 102 rfl rfl rfl (decide_eq_true rfl) ?_
    refine s_pickT 103 rfl rfl rfl ?_
    refine s_mv 104 rfl rfl ?_
    refine s_mv 105 rfl rfl ?_
    refine s_ldRS 107 (cs := (refC m t D g).toList) rfl rfl rfl (fun _ hw => hw.blkRow (i := 0) rfl) ?_
    refine s_call1 106 rfl rfl rfl rfl (fun w hw => cBits_spec c m t D q w hMT hDm (hw.has (i := 2) rfl)) (fun _ hw => hw.pick [3, 3] rfl) ?_
    refine s_call1 108 rfl rfl rfl rfl (fun w hw => rBits_spec m t D g w hMT hDm) (fun _ hw => hw.pick [3, 3] rfl) ?_
    refine s_eq 109 rfl rfl rfl (decide_eq_true rfl) ?_
    refine s_pickT 110 rfl rfl rfl ?_
    refine s_mv 111 rfl rfl ?_
    refine s_mv 112 rfl rfl ?_
    refine s_call1 113 rfl rfl rfl rfl (fun w hw => cField_spec c m t D q w (hw.has (i := 2) rfl)) (fun _ hw => hw.pick [3, 3] rfl) ?_
    refine s_nePN 114 rfl rfl ?_
    refine s_pickT 115 rfl rfl rfl ?_
    refine s_mv 116 rfl rfl ?_
    refine s_mv 117 rfl rfl ?_
    refine s_mv 120 rfl rfl ?_
    refine s_call1 118 rfl rfl rfl rfl (fun w hw => cField_spec c m t D q w (hw.has (i := 2) rfl)) (fun _ hw => hw.pick [3, 3] rfl) ?_
    refine s_call1 119 rfl rfl rfl rfl (fun w hw => m_spec q.f m w hm (code_at (hw.has (i := 2) rfl)).2.2.2.1) (fun _ hw => hw.pick [3, 3] rfl) ?_
    refine s_eq 121 rfl rfl rfl (decide_eq_true rfl) ?_
    refine s_pickT 122 rfl rfl rfl ?_
    refine s_as 6 rfl rfl ?_
    refine SX.next ?_
    refine CW.ret ?_
    exact KN.ret (rs := [.tmp 6]) Tryd.results4 rfl (fun w hw => ⟨rfl, hw.nothing⟩)

theorem walk_EncodeMakes (a0 a1 a2 : Int) (e : Nat → Addr) (w : World) (he : Has (ersA e apiErrs) w) : Spec1 Tryd.prog 4 [.int .i64 a0, .int .i64 a1, .int .i64 a2] w (.bool true) := by
  rcases mk_cases a0 a1 a2 with h | ⟨M, T, rfl, rfl, hMT, hd, h | ⟨D, rfl, h1, h2, h | h⟩⟩
  · exact makes_least a0 a1 a2 e w he h
  · exact makes_long M T a2 e w he hMT hd h
  · exact makes_code M T D e w he hMT hd h1 h2 h
  · by_cases hb : 200 < dg M T
    · exact makes_big M T D e w he ⟨hMT, h1, h2, h⟩ hb
    · exact makes_ok M T D e w he ⟨hMT, h1, h2, h⟩ hb
end Go.Proofs.YtompcfingkoldaaDoor
end
