/- The walk of the statement MinimalWhole. Conditions: each theorem tells its own. -/
import Derived.Test.YtompcfingkoldaaDoorGB
import Derived.Test.YtompcfingkoldaaDoorRows
import Derived.LaidLaws
import Derived.WalkKit
import Derived.ProofKit
import Derived.OpenShut
import Derived.Deep.DeepHandedRow
import Derived.Deep.DeepWitnessRowRef
import Derived.Test.YtompcfingkoldaaDoorGD
import Derived.Test.YtompcfingkoldaaDoorGC
section
/- What a row's list of error variables gives a walk: each holds a pointer of its own. No condition. -/
namespace Go.Proofs.YtompcfingkoldaaDoor
open Go.Sx Go.ChangeShapes Go.WideShapes Go.RowKit

theorem laidOutT : laidOutB Tryd.prog = true := by kernel_rfl
theorem errStar : "*" ++ "errors.errorString" = "*errors.errorString" := by decide
theorem errRow (u : TypeId) (h : Tryd.prog.typeName? 3 u = some "*errors.errorString") : u = 262 :=
  typeName_ptr_named (nm := "errors.errorString") (by rw [errStar]; kernel_rfl) (by kernel_rfl) (by decide) u (by rw [errStar]; exact h)
theorem errCells : Tryd.prog.cellsOf 279 = 1 := by kernel_rfl
theorem strCells : Tryd.prog.cellsOf 9 = 1 := by kernel_rfl
theorem noKnob : ownKnob Tryd.prog.godebug = none := by kernel_rfl

/-- The pointer that error variable k holds. -/
noncomputable def eOf (W : World) (k : Nat) : Addr := open Classical in if h : ∃ a, W.cell? ⟨k, 0, none⟩ = some (.iface 262 (.pointer (some a))) then Classical.choose h else default

theorem er_of {W : World} {k : Nat} (h : ∃ a, W.cell? ⟨k, 0, none⟩ = some (.iface 262 (.pointer (some a)))) : Er (eOf W) W k := by
  unfold Er errV eOf
  rw [dif_pos h]
  exact Classical.choose_spec h

set_option maxRecDepth 100000 in
theorem er_laid {W : World} : ∀ {l : List (String × DataW Unit)} {ps : List MemPlace}, DataW.LaidVars Tryd.prog W l ps →
    (∀ b off, MemPlace.cell b off ∈ ps → (∃ c t, W.heap[b]? = some (.cells c t (0, 0))) ∧ ∀ u v, W.cell? ⟨b, off, none⟩ = some (.iface u v) → Value.okWide Tryd.prog W .any 0 u v) →
    ∀ n d, (n, d) ∈ l → ∀ text k, d = .iface "*errors.errorString" (.ptr (.agg [.lit (.string text)])) → Tryd.prog.globalNamed n = some k → (Tryd.prog.globals[k]?).map (·.type) = some 34 → Er (eOf W) W k
  | [], _, _, _, _, _, h, _, _, _, _, _ => by cases h
  | (n0, d0) :: r, ps, hl, hrows, n, d, hm, text, k, hd, hk, ht => by
    obtain ⟨g, t, cs, fuel, p, q, hg, htg, hv, htr, hr, hps⟩ := hl
    rcases List.mem_cons.1 hm with he | hm
    · simp only [Prod.mk.injEq] at he
      obtain ⟨rfl, rfl⟩ := he
      subst hd
      obtain rfl := Option.some.inj (hk.symm.trans hg)
      obtain rfl := Option.some.inj (ht.symm.trans htg)
      obtain ⟨l0⟩ := cs
      have ok0 : ∀ u v, l0 = [.iface u v] → Value.okWide Tryd.prog W .any 0 u v := fun u v e => by
        subst e
        exact (hrows k 0 (by rw [hps]; simp [MemPlace.row])).2 u v (by simpa using World.var?_cell hg hv 0)
      obtain ⟨a, s, rfl, _⟩ := errorString_of_trod Tryd.underlying34 errRow Tryd.underlying262 Tryd.underlying279 rfl rfl Tryd.underlying9 errCells strCells htr ok0
      exact er_of ⟨a, by simpa using World.var?_cell hg hv 0⟩
    · exact er_laid hr (fun b off hb => hrows b off (by rw [hps]; exact List.mem_append_right _ hb)) n d hm text k hd hk ht

theorem er_met {W : World} {l : List (String × DataW Unit)} (h : laidMet Tryd.prog l W) (n : String) (d : DataW Unit) (hm : (n, d) ∈ l) (text : List UInt8) (k : Nat) (hd : d = .iface "*errors.errorString" (.ptr (.agg [.lit (.string text)])))
    (hk : Tryd.prog.globalNamed n = some k) (ht : (Tryd.prog.globals[k]?).map (·.type) = some 34) : Er (eOf W) W k :=
  let ⟨_, h1, _, h3⟩ := h
  er_laid h1 h3 n d hm text k hd hk ht

theorem fr_below {w w' : World} (h : Sto w [] w') : Below w.heap.size w w' := h.fr.below
end Go.Proofs.YtompcfingkoldaaDoor
end
section
/- The least numbers of the cosets, and the product of their polynomials: x to the 2^m - 1 and 1. No program. -/
namespace Go.Proofs.YtompcfingkoldaaDoor
open Go Go.Sx Go.Fm Nb
namespace Nb
section
variable {m : Nat} (hm : Ok m)
include hm
theorem hd_le {i x : Nat} (h : x ∈ cosP m i) : hdP m i ≤ x := by
  have hu := cos_up m i
  have hp := (cos_len_pos hm i).1
  unfold hdP
  match hc : cosP m i with
  | [] => rw [hc] at h; cases h
  | a :: t =>
    rw [hc] at h hu
    show a ≤ x
    rcases List.mem_cons.1 h with rfl | h
    · exact Nat.le_refl _
    · exact Nat.le_of_lt (List.rel_of_pairwise_cons hu h)
theorem hd_hd (i : Nat) : hdP m (hdP m i) = hdP m i := hd_same hm (hd_mem hm i)
theorem hd_self {x : Nat} (hx : x < N m) : hdP m x ≤ x := hd_le hm (cos_self hm x hx)
theorem hd_eq {i x : Nat} (hx : x < N m) : hdP m x = hdP m i ↔ x ∈ cosP m i := ⟨fun h => by
  have h1 := cos_self hm x hx
  rw [← hd_cos hm x, h, hd_cos hm i] at h1
  exact h1, fun h => hd_same hm h⟩
end
/-- The least numbers of cosets, below x. -/
def repsL (m : Nat) : Nat → List Nat
  | 0 => []
  | x + 1 => if hdP m x = x then repsL m x ++ [x] else repsL m x
theorem reps_yes {m x : Nat} (h : hdP m x = x) : repsL m (x + 1) = repsL m x ++ [x] := if_pos h
theorem reps_no {m x : Nat} (h : hdP m x ≠ x) : repsL m (x + 1) = repsL m x := if_neg h
theorem reps_mem {m : Nat} : ∀ {x y : Nat}, y ∈ repsL m x ↔ y < x ∧ hdP m y = y
  | 0, y => by simp [repsL]
  | x + 1, y => by
    have ih := reps_mem (m := m) (x := x) (y := y)
    by_cases h : hdP m x = x
    · rw [reps_yes h, List.mem_append, ih, List.mem_singleton]
      constructor
      · rintro (⟨h1, h2⟩ | rfl)
        · exact ⟨by omega, h2⟩
        · exact ⟨by omega, h⟩
      · rintro ⟨h1, h2⟩
        by_cases hy : y = x
        · exact .inr hy
        · exact .inl ⟨by omega, h2⟩
    · rw [reps_no h, ih]
      constructor
      · rintro ⟨h1, h2⟩; exact ⟨by omega, h2⟩
      · rintro ⟨h1, h2⟩
        exact ⟨by rcases Nat.lt_succ_iff_lt_or_eq.1 h1 with h3 | h3; exact h3; subst h3; exact absurd h2 h, h2⟩
theorem reps_len (m : Nat) : ∀ x, (repsL m x).length ≤ x
  | 0 => Nat.le_refl _
  | x + 1 => by
    have := reps_len m x
    unfold repsL
    split
    · simp; omega
    · omega
theorem reps_pre (m : Nat) {x : Nat} : ∀ {y : Nat}, x ≤ y → ∃ t, repsL m y = repsL m x ++ t
  | 0, h => ⟨[], by rw [show x = 0 by omega]; rfl⟩
  | y + 1, h => by
    rcases Nat.lt_or_eq_of_le h with h | rfl
    · obtain ⟨t, e⟩ := reps_pre m (x := x) (y := y) (by omega)
      by_cases h2 : hdP m y = y
      · exact ⟨t ++ [y], by rw [reps_yes h2, e, List.append_assoc]⟩
      · exact ⟨t, by rw [reps_no h2, e]⟩
    · exact ⟨[], by rw [List.append_nil]⟩
/-- What is at the place of the next one. -/
theorem reps_at {m x y : Nat} (h : hdP m x = x) (hy : x < y) : (repsL m y)[(repsL m x).length]? = some x := by
  obtain ⟨t, e⟩ := reps_pre m (x := x + 1) (y := y) hy
  rw [e, reps_yes h, List.append_assoc, List.getElem?_append_right (Nat.le_refl _), Nat.sub_self]
  rfl
theorem reps_lt {m x y : Nat} (h : hdP m x = x) (hy : x < y) : (repsL m x).length < (repsL m y).length := (List.getElem?_eq_some_iff.1 (reps_at h hy)).1
/-- Whether a number's coset was met. -/
def metB (m x y : Nat) : Bool := decide (hdP m y < x)
def metJ (m x j y : Nat) : Bool := metB m x y || decide (y ∈ (cosP m x).take j)
theorem metB_zero (m : Nat) : metB m 0 = fun _ => false := by funext y; exact decide_eq_false (by omega)
theorem metJ_zero (m x : Nat) : metJ m x 0 = metB m x := by funext y; unfold metJ; rw [List.take_zero, decide_eq_false (fun h => by cases h), Bool.or_false]
theorem metJ_next {m x j : Nat} (h : j < (cosP m x).length) : (fun y => if y = cf (cosP m x) j then true else metJ m x j y) = metJ m x (j + 1) := by
  funext y
  unfold metJ
  rw [take_cf h]
  by_cases hy : y = cf (cosP m x) j
  · subst hy; simp
  · rw [if_neg hy]
    congr 1
    rw [decide_eq_decide, List.mem_append, List.mem_singleton]
    exact ⟨.inl, fun h2 => h2.resolve_right hy⟩
section
variable {m : Nat} (hm : Ok m)
include hm
theorem metJ_full {x : Nat} (h : hdP m x = x) {y : Nat} (hy : y < N m) : metJ m x (cosP m x).length y = metB m (x + 1) y := by
  unfold metJ metB
  rw [List.take_length, ← Bool.decide_or, decide_eq_decide, ← hd_eq hm hy, h]
  omega
theorem metB_old {x : Nat} (h : hdP m x ≠ x) {y : Nat} (_hy : y < N m) : metB m (x + 1) y = metB m x y := by
  unfold metB
  rw [decide_eq_decide]
  constructor
  · intro h1
    rcases Nat.lt_succ_iff_lt_or_eq.1 h1 with h2 | h2
    · exact h2
    · have := hd_hd hm y; rw [h2] at this; exact absurd this h
  · omega
theorem metB_self {x : Nat} (hx : x < N m) : metB m x x = true ↔ hdP m x ≠ x := by
  have := hd_self hm hx
  unfold metB
  rw [decide_eq_true_iff]
  omega
end
/-! ### The product over all -/
theorem filt_or (p q r : Nat → Bool) (l : List Nat) (h1 : ∀ y ∈ l, r y = (p y || q y)) (h2 : ∀ y ∈ l, ¬ (p y = true ∧ q y = true)) : (l.filter r).length = (l.filter p).length + (l.filter q).length := by
  induction l with
  | nil => rfl
  | cons y l ih =>
    have ih := ih (fun z hz => h1 z (List.mem_cons_of_mem _ hz)) (fun z hz => h2 z (List.mem_cons_of_mem _ hz))
    have e := h1 y (List.mem_cons_self ..)
    have d := h2 y (List.mem_cons_self ..)
    simp only [List.filter_cons, e]
    cases hp : p y <;> cases hq : q y
    · simpa using ih
    · simp; omega
    · simp; omega
    · exact absurd ⟨hp, hq⟩ d
section
variable {m : Nat} (hm : Ok m)
include hm
theorem reps_sum : ∀ x, x ≤ N m → ((repsL m x).map (fun y => (cosP m y).length)).sum = ((List.range (N m)).filter (metB m x)).length
  | 0, _ => by
    rw [metB_zero, List.filter_eq_nil_iff.2 (fun y _ h => by cases h)]
    rfl
  | x + 1, hx => by
    have ih := reps_sum x (by omega)
    by_cases h : hdP m x = x
    · rw [reps_yes h, List.map_append, List.sum_append, ih]
      have e := filt_or (metB m x) (fun y => decide (y ∈ cosP m x)) (metB m (x + 1)) (List.range (N m)) (fun y hy => by
        rw [← metJ_full hm h (List.mem_range.1 hy)]
        unfold metJ
        rw [List.take_length]) (fun y hy ⟨h1, h2⟩ => by
        have h3 := hd_same hm (of_decide_eq_true h2)
        have h4 := of_decide_eq_true h1
        omega)
      rw [e]
      congr 1
      have e2 : (List.range (N m)).filter (fun y => decide (y ∈ cosP m x)) = cosP m x := by
        have h3 : ∀ y ∈ List.range (N m), decide (y ∈ cosP m x) = decide (∃ j, j < m ∧ cst m x j = y) := fun y hy => by
          rw [decide_eq_decide]
          unfold cosP
          rw [List.mem_filter]
          exact ⟨fun h => of_decide_eq_true h.2, fun h => ⟨hy, decide_eq_true h⟩⟩
        rw [List.filter_congr h3]
        rfl
      rw [e2]
      simp
    · rw [reps_no h, ih]
      congr 1
      exact List.filter_congr (fun y hy => (metB_old hm h (List.mem_range.1 hy)).symm)
theorem reps_all : ((repsL m (N m)).map (fun y => (cosP m y).length)).sum = N m := by
  rw [reps_sum hm (N m) (Nat.le_refl _)]
  have e : (List.range (N m)).filter (metB m (N m)) = List.range (N m) := List.filter_eq_self.2 (fun y hy => by
    have hy := List.mem_range.1 hy
    have := hd_self hm hy
    unfold metB
    exact decide_eq_true (by omega))
  rw [e, List.length_range]
theorem reps_root {k : Nat} (hk : k < N m) : evL m (genL m (repsL m (N m))) (exz m (k : Nat)) = 0 := (gen_root hm _ hk).2 ⟨hdP m k, reps_mem.2 ⟨by have := hd_self hm hk; omega, hd_hd hm k⟩, by rw [hd_cos hm]; exact cos_self hm k hk⟩
theorem reps_genlen : (genL m (repsL m (N m))).length = N m + 1 := by rw [gen_len hm, reps_all hm]
theorem b1_eq {G X : List Nat} (hG : B1 G) (hX : B1 X) (hgl : G.length = N m + 1) (hxl : X.length = N m + 1) (hgr : ∀ k, k < N m → evL m G (exz m (k : Nat)) = 0) (hxr : ∀ k, k < N m → evL m X (exz m (k : Nat)) = 0) : G = X := by
  have hNp := N_pos hm
  have hD := addP_b1 hG hX
  have g1 : cf G (N m) = 1 := by have h1 := hG.tr.top (by omega); rw [hgl, Nat.add_sub_cancel] at h1; have := hG.le (N m); omega
  have x1 : cf X (N m) = 1 := by have h1 := hX.tr.top (by omega); rw [hxl, Nat.add_sub_cancel] at h1; have := hX.le (N m); omega
  have hDl : (addP G X).length ≤ N m := Nat.le_of_not_lt fun hl => by
    refine hD.tr.top (by omega) ?_
    rw [cf_addP]
    by_cases h : (addP G X).length - 1 = N m
    · rw [h, g1, x1]; rfl
    · rw [cf_out (by omega), cf_out (by omega)]; rfl
  have h0 : (addP G X).length = 0 := Classical.byContradiction fun h0 => by
    have := b1_many hm (b1_tr hm hD) h0 List.nodup_range (fun k hk => List.mem_range.1 hk) (fun k hk => by
      have hk := List.mem_range.1 hk
      rw [evL_add hm (b1_tr hm hG).lt (b1_tr hm hX).lt, hgr k hk, hxr k hk]
      rfl)
    rw [List.length_range] at this
    omega
  refine hG.tr.ext hX.tr (fun j => ?_)
  have hj := cf_addP G X j
  rw [List.eq_nil_of_length_eq_zero h0, cf_nil] at hj
  have := hG.le j
  have := hX.le j
  rcases (show cf G j = 0 ∨ cf G j = 1 by omega) with h | h <;> rcases (show cf X j = 0 ∨ cf X j = 1 by omega) with h2 | h2 <;> rw [h, h2] at hj ⊢ <;> simp at hj
theorem whole_eq {X : List Nat} (hX : B1 X) (hl : X.length = N m + 1) (hr : ∀ k, k < N m → evL m X (exz m (k : Nat)) = 0) : genL m (repsL m (N m)) = X :=
  b1_eq hm (gen_b1 hm _) hX (reps_genlen hm) hl (fun _ hk => reps_root hm hk) hr
end
end Nb
end Go.Proofs.YtompcfingkoldaaDoor
end
section
/- All cosets, walked. Conditions: an m that may be; the errors' variables. -/
namespace Go.Proofs.YtompcfingkoldaaDoor
open Go Go.Sx Go.Fm Nb
set_option maxRecDepth 100000
def hdC (m : Nat) (q : (Option Addr × Nat) × Nat) : Value := .slice q.1.1 (cosP m q.2).length q.1.2
/-- A coset's list, where it lies. -/
def ownC (m : Nat) (q : (Option Addr × Nat) × Nat) : Atom := own 3 1 q.1.1 (cosP m q.2).length q.1.2 (nats .i64 (cosP m q.2))
/-- The lists of the cosets of these numbers. -/
structure Cos (m : Nat) (L : List Nat) (q : List ((Option Addr × Nat) × Nat) × List Atom × Option Addr × Nat) : Prop where
  nums : q.1.map (·.2) = L
  caps : ∀ z ∈ q.1, (cosP m z.2).length ≤ z.1.2
  mem : ∀ z ∈ q.1, ownC m z ∈ q.2.1
  cap : q.1.length ≤ q.2.2.2
theorem Cos.len {m : Nat} {L : List Nat} {q} (h : Cos m L q) : q.1.length = L.length := by rw [← h.nums, List.length_map]
theorem Cos.next {m : Nat} {L : List Nat} {qs X A c} (h : Cos m L (qs, X, A, c)) {z : (Option Addr × Nat) × Nat} (hz : (cosP m z.2).length ≤ z.1.2) {A2 : Option Addr} {c2 : Nat} (hc2 : qs.length + 1 ≤ c2) : Cos m (L ++ [z.2]) (qs ++ [z], ownC m z :: X, A2, c2) :=
  ⟨by simp only [List.map_append, List.map_cons, List.map_nil]; rw [h.nums], fun y hy => by
    rcases List.mem_append.1 hy with h1 | h1
    · exact h.caps y h1
    · rw [List.mem_singleton.1 h1]; exact hz, fun y hy => by
    rcases List.mem_append.1 hy with h1 | h1
    · exact List.mem_cons_of_mem _ (h.mem y h1)
    · rw [List.mem_singleton.1 h1]; exact List.mem_cons_self .., by simp only [List.length_append, List.length_singleton]; exact hc2⟩
theorem Cos.at {m : Nat} {L : List Nat} {qs X A c} (h : Cos m L (qs, X, A, c)) {i k : Nat} (hk : L[i]? = some k) : ∃ z, qs[i]? = some z ∧ z.2 = k ∧ z ∈ qs := by
  have h1 := h.nums
  simp only at h1
  rw [← h1, List.getElem?_map] at hk
  obtain ⟨z, hz, e⟩ := Option.map_eq_some_iff.1 hk
  exact ⟨z, hz, e, List.mem_of_getElem? hz⟩

theorem cosets_field (m : Int) (e : Nat → Addr) (w : World) (hm : m < 3 ∨ 14 < m) (he : Er e w 7) : Spec1 Tryd.prog 66 [.int .i64 m] w (errRes e 7) := by
  have hpo := (polyI_zero m).2 hm
  refine spec_of Tryd.func66 rfl Tryd.ntmps66 rfl ?_
  refine CW.seq ?_
  refine CW.reg [0, 1] rfl ?_   -- 0, minimal.go:30
  refine s_as 2 rfl rfl ?_
  refine s_as 3 rfl rfl ?_
  refine SX.next ?_
  refine CW.seq ?_
  refine CW.seq ?_
  refine CW.reg [0, 1, 2] rfl ?_   -- 1, minimal.go:31
  refine s_mv 11 rfl rfl ?_
  refine s_call1 12 rfl rfl rfl rfl (fun w hw => polyM_any _ w) (fun _ _ => trivial) ?_
  refine s_eq 13 rfl rfl rfl (decide_eq_true hpo) ?_
  refine SX.next ?_
  refine CW.condT rfl ?_
  refine CW.seq ?_
  refine CW.regD (.st true 0 (.st true 1 (.st true 2 .done))) (Sto w []) mixed (by kernel_rfl) (fun _ h => h.drew) (fun _ h => h.pick [] rfl) ?_
  refine s_ldS 14 rfl rfl (fun _ h => h.cell he) ?_
  refine s_as 2 rfl rfl ?_
  refine s_as 3 rfl rfl ?_
  refine SX.next ?_
  refine CW.ret ?_
  exact KN.ret (rs := [.tmp 2, .tmp 3]) Tryd.results66 rfl (fun w hw => ⟨rfl, hw.nothing⟩)

theorem coset_field (m i : Int) (e : Nat → Addr) (w : World) (hm : m < 3 ∨ 14 < m) (he : Er e w 7) : Spec1 Tryd.prog 136 [.int .i64 m, .int .i64 i] w (errRes e 7) := by
  have hpo := (polyI_zero m).2 hm
  refine spec_of Tryd.func136 rfl Tryd.ntmps136 rfl ?_
  refine CW.seq ?_
  refine CW.reg [0, 1] rfl ?_   -- 0, minimal.go:14
  refine s_as 4 rfl rfl ?_
  refine s_as 5 rfl rfl ?_
  refine SX.next ?_
  refine CW.seq ?_
  refine CW.seq ?_
  refine CW.reg [0, 1, 2] rfl ?_   -- 1, minimal.go:15
  refine s_mv 8 rfl rfl ?_
  refine s_call1 9 rfl rfl rfl rfl (fun w hw => polyM_any _ w) (fun _ _ => trivial) ?_
  refine s_eq 10 rfl rfl rfl (decide_eq_true hpo) ?_
  refine SX.next ?_
  refine CW.condT rfl ?_
  refine CW.seq ?_
  refine CW.regD (.st true 0 (.st true 1 (.st true 2 .done))) (Sto w []) mixed (by kernel_rfl) (fun _ h => h.drew) (fun _ h => h.pick [] rfl) ?_
  refine s_ldS 11 rfl rfl (fun _ h => h.cell he) ?_
  refine s_as 4 rfl rfl ?_
  refine s_as 5 rfl rfl ?_
  refine SX.next ?_
  refine CW.ret ?_
  exact KN.ret (rs := [.tmp 4, .tmp 5]) Tryd.results136 rfl (fun w hw => ⟨rfl, hw.nothing⟩)

theorem cosets_spec (m : Nat) (w : World) (hm : Ok m) : SpecX Tryd.prog 66 [.int .i64 (m : Nat)] w (X := List ((Option Addr × Nat) × Nat) × List Atom × Option Addr × Nat) (fun q => two (.slice q.2.2.1 q.1.length q.2.2.2) .nilIface) (Cos m (repsL m (N m))) (fun q => [own 23 1 q.2.2.1 q.1.length q.2.2.2 (q.1.map (hdC m)), starA q.2.1]) := by
  have hNs := N_succ m
  have hNp := N_pos hm
  have hmh := hm.hi
  have hpo := polyI_ne hm
  refine spec_of Tryd.func66 rfl Tryd.ntmps66 rfl ?_
  refine CW.seq ?_
  refine CW.reg [0, 1] rfl ?_   -- 0, minimal.go:30
  refine s_as 2 rfl rfl ?_
  refine s_as 3 rfl rfl ?_
  refine SX.next ?_
  refine CW.seq ?_
  refine CW.seq ?_
  refine CW.reg [0, 1, 2] rfl ?_   -- 1, minimal.go:31
  refine s_mv 11 rfl rfl ?_
  refine s_call1 12 rfl rfl rfl rfl (fun w hw => polyM_any _ w) (fun _ _ => trivial) ?_
  refine s_eq 13 rfl rfl rfl (decide_eq_false hpo) ?_
  refine SX.next ?_
  refine CW.condF rfl ?_
  refine CW.skip ?_
  refine KN.code ?_
  refine CW.seq ?_
  refine CW.reg [0, 1, 2, 3, 4] rfl ?_   -- 3, minimal.go:34
  refine s_mv 15 rfl rfl ?_
  refine s_shl 16 rfl rfl rfl (by omega) (shl_one hm) ?_
  refine s_sub 17 rfl rfl rfl (r := ((N m : Nat) : Int)) (by rw [show ((N m + 1 : Nat) : Int) - 1 = ((N m : Nat) : Int) by omega]; exact w64 (by omega)) ?_
  refine s_make 18 (N m) rfl rfl rfl rfl rfl (by omega) (fun _ _ => trivial) (fun gs => ?_)
  refine s_as 4 rfl rfl ?_
  refine SX.next ?_
  refine CW.seq ?_
  refine CW.reg [0] rfl ?_   -- 4, minimal.go:35
  refine s_as 5 rfl rfl ?_
  refine SX.next ?_
  refine CW.seq ?_
  refine CW.seq ?_
  refine CW.reg [0, 1, 2] rfl ?_   -- 5, minimal.go:36
  refine s_mv 19 rfl rfl ?_
  refine s_len 20 rfl rfl ?_
  refine s_mv 21 rfl rfl ?_
  refine SX.next ?_
  refine CW.block ?_
  refine CW.loop (G := Nat × List ((Option Addr × Nat) × Nat) × List Atom × Option Addr × Nat) (fun q => [(0, .int .i64 (m : Nat)), (4, .slice (some ⟨gs, 0, none⟩) (N m) (N m)), (5, .slice q.2.2.2.1 q.2.1.length q.2.2.2.2), (20, .int .i64 (N m : Nat)), (21, .int .i64 (q.1 : Nat))]) (fun q => Sto w [own 23 1 q.2.2.2.1 q.2.1.length q.2.2.2.2 (q.2.1.map (hdC m)), starA q.2.2.1, blk gs 4 (btab (N m) (metB m q.1))]) (fun q => q.1 ≤ N m ∧ Cos m (repsL m q.1) q.2) (fun q => N m - q.1) (0, [], [], none, 0) ⟨rfl, rfl, rfl, rfl, rfl, trivial⟩ (fun _ h => by
  rw [metB_zero, ← btab_zero]
  have h1 := (h.begin_ 23 1).nilStar'
  exact h1.pick [0, 1, 0] rfl) ⟨Nat.zero_le _, ⟨rfl, (fun z hz => by cases hz), (fun z hz => by cases hz), Nat.le_refl _⟩⟩ ?_
  rintro ⟨x, qs, X, oa, oc⟩ ⟨hx, hq⟩
  simp only at hx hq
  dsimp only
  have hql := hq.len
  have hrl := reps_len m x
  have hqc := hq.cap
  simp only at hql hqc
  refine CW.seq ?_
  refine CW.reg [0] rfl ?_   -- 6, minimal.go:36
  refine s_lt 22 rfl rfl rfl rfl ?_
  refine SX.next ?_
  refine CW.seq ?_
  refine CW.test rfl (fun hc => ?_) (fun hc => ?_)
  · skip
    have hxN : x < N m := by omega
    refine CW.skip ?_
    refine KN.code ?_
    refine CW.seq ?_
    refine CW.block ?_
    refine CW.seq ?_
    refine CW.reg [0, 1] rfl ?_   -- 7, minimal.go:36
    refine s_mv 23 rfl rfl ?_
    refine s_as 6 rfl rfl ?_
    refine SX.next ?_
    refine CW.seq ?_
    refine CW.seq ?_
    refine CW.reg [0, 1, 2, 3] rfl ?_   -- 8, minimal.go:37
    refine s_mv 24 rfl rfl ?_
    refine s_mv 25 rfl rfl ?_
    refine s_ia0 26 x rfl rfl rfl rfl (by omega) ?_
    refine s_ldB 27 2 rfl rfl rfl (btab_at (by omega)) ?_
    refine SX.next ?_
    refine CW.cond rfl (fun hc => ?_) (fun hc => ?_)
    · skip
      have hold : hdP m x ≠ x := (metB_self hm hxN).1 (by simpa using hc)
      have hnx := reps_no hold
      have hbt : btab (N m) (metB m (x + 1)) = btab (N m) (metB m x) := btab_cong (fun y hy => metB_old hm hold hy)
      refine CW.exit rfl ?_
      refine KN.code ?_
      refine CW.reg [0, 1] rfl ?_   -- 18, minimal.go:36
      refine s_add 51 rfl rfl rfl (r := ((x + 1 : Nat) : Int)) (w64 (by omega)) ?_
      refine s_mv 21 rfl rfl ?_
      refine SX.end_ ?_
      exact KN.back (x + 1, qs, X, oa, oc) ⟨rfl, rfl, rfl, rfl, rfl, trivial⟩ (fun _ h => by simp only [hbt]; exact h) ⟨by simp only; omega, by simp only [hnx]; exact hq⟩ (by simp only; omega)
    · skip
      have hnew : hdP m x = x := Classical.byContradiction fun h => by have := (metB_self hm hxN).2 h; rw [this] at hc; cases hc
      have hnx := reps_yes hnew
      have hcl := cos_len_pos hm x
      have hxe := em_small hxN
      have hbt : btab (N m) (metJ m x (cosP m x).length) = btab (N m) (metB m (x + 1)) := btab_cong (fun y hy => metJ_full hm hnew hy)
      refine CW.skip ?_
      refine KN.code ?_
      refine CW.seq ?_
      refine CW.reg [0, 1, 2, 3, 4, 5, 6, 7] rfl ?_   -- 9, minimal.go:40
      refine s_mv 29 rfl rfl ?_
      refine s_mv 30 rfl rfl ?_
      refine s_call 31 rfl rfl rfl rfl (fun w hw => by have := coset_spec m (x : Nat) w hm; rw [hxe] at this; exact this) (fun _ _ => trivial) (fun q31 hq31 => ?_)
      refine s_mv 28 rfl rfl ?_
      refine s_ext 32 rfl rfl rfl ?_
      refine s_ext 33 rfl rfl rfl ?_
      refine s_as 7 rfl rfl ?_
      refine s_as 8 rfl rfl ?_
      refine SX.next ?_
      refine CW.seq ?_
      refine CW.seq ?_
      refine CW.reg [0, 1] rfl ?_   -- 10, minimal.go:41
      refine s_mv 34 rfl rfl ?_
      refine s_neNN 35 rfl rfl ?_
      refine SX.next ?_
      refine CW.condF rfl ?_
      refine CW.skip ?_
      refine KN.code ?_
      refine CW.seq ?_
      refine CW.seq ?_
      refine CW.reg [0, 1, 2] rfl ?_   -- 12, minimal.go:44
      refine s_mv 37 rfl rfl ?_
      refine s_len 38 rfl rfl ?_
      refine s_mv 39 rfl rfl ?_
      refine SX.next ?_
      refine CW.block ?_
      refine CW.loop (G := Nat) (fun j => [(0, .int .i64 (m : Nat)), (4, .slice (some ⟨gs, 0, none⟩) (N m) (N m)), (5, .slice oa qs.length oc), (20, .int .i64 (N m : Nat)), (21, .int .i64 (x : Nat)), (6, .int .i64 (x : Nat)), (7, .slice q31.1 (cosP m x).length q31.2), (37, .slice q31.1 (cosP m x).length q31.2), (38, .int .i64 ((cosP m x).length : Nat)), (39, .int .i64 (j : Nat))]) (fun j => Sto w [own 3 1 q31.1 (cosP m x).length q31.2 (nats .i64 (cosP m x)), own 23 1 oa qs.length oc (qs.map (hdC m)), starA X, blk gs 4 (btab (N m) (metJ m x j))]) (fun j => j ≤ (cosP m x).length) (fun j => (cosP m x).length - j) 0 ⟨rfl, rfl, rfl, rfl, rfl, rfl, rfl, rfl, rfl, rfl, trivial⟩ (fun _ h => by rw [metJ_zero]; exact h) (Nat.zero_le _) ?_
      intro j hj
      refine CW.seq ?_
      refine CW.reg [0] rfl ?_   -- 13, minimal.go:44
      refine s_lt 40 rfl rfl rfl rfl ?_
      refine SX.next ?_
      refine CW.seq ?_
      refine CW.test rfl (fun hc => ?_) (fun hc => ?_)
      · skip
        have hjl : j < (cosP m x).length := by omega
        have hjn := cos_lt hm (cf_mem hjl)
        refine CW.skip ?_
        refine KN.code ?_
        refine CW.seq ?_
        refine CW.block ?_
        refine CW.seq ?_
        refine CW.reg [0, 1, 2] rfl ?_   -- 14, minimal.go:44
        refine s_iaO 41 0 j rfl rfl rfl rfl rfl (by omega) ?_
        refine s_ldO 42 0 rfl rfl rfl (natsAtC hjl) ?_
        refine s_as 10 rfl rfl ?_
        refine SX.next ?_
        refine CW.reg [0, 1, 2, 3] rfl ?_   -- 15, minimal.go:45
        refine s_mv 43 rfl rfl ?_
        refine s_mv 44 rfl rfl ?_
        refine s_ia0 45 (cf (cosP m x) j) rfl rfl rfl rfl (by omega) ?_
        refine s_stB 3 rfl rfl rfl rfl rfl (by rw [btab_size]; omega) (fun _ _ => trivial) ?_
        refine SX.end_ ?_
        refine KN.blk ?_
        refine KN.code ?_
        refine CW.reg [0, 1] rfl ?_   -- 16, minimal.go:44
        refine s_add 46 rfl rfl rfl (r := ((j + 1 : Nat) : Int)) (w64 (by omega)) ?_
        refine s_mv 39 rfl rfl ?_
        refine SX.end_ ?_
        exact KN.back (j + 1) ⟨rfl, rfl, rfl, rfl, rfl, rfl, rfl, rfl, rfl, rfl, trivial⟩ (fun _ h => by rw [← metJ_next hjl, ← btab_set]; exact h) (by omega) (by omega)
      · skip
        have hje : j = (cosP m x).length := by omega
        subst hje
        refine CW.exit rfl ?_
        refine KN.code ?_
        refine CW.reg [0, 1, 2, 3, 4] rfl ?_   -- 17, minimal.go:47
        refine s_mv 47 rfl rfl ?_
        refine s_mv 48 rfl rfl ?_
        refine s_bsl 49 rfl rfl (cells := #[hdC m (q31, x)]) (by kernel_rfl) rfl (fun _ _ => trivial) (fun b49 => ?_)
        refine s_app 50 2 rfl rfl rfl rfl (ys := [hdC m (q31, x)]) (fun w hw => Has.cong ((hw.has (i := 0) rfl).blk_sl (m := 1) rfl) rfl) rfl rfl (by omega) (by unfold maxLen; omega) (by omega) (fun _ _ _ _ => trivial) (fun A2 c2 hc2 => ?_)
        refine s_as 5 rfl rfl ?_
        refine SX.end_ ?_
        refine KN.blk ?_
        refine KN.code ?_
        refine CW.reg [0, 1] rfl ?_   -- 18, minimal.go:36
        refine s_add 51 rfl rfl rfl (r := ((x + 1 : Nat) : Int)) (w64 (by omega)) ?_
        refine s_mv 21 rfl rfl ?_
        refine SX.end_ ?_
        exact KN.back (x + 1, qs ++ [(q31, x)], ownC m (q31, x) :: X, A2, c2) ⟨rfl, rfl, by simp only [List.length_append, List.length_singleton]; rfl, rfl, rfl, trivial⟩ (fun _ h => by
          rw [hbt] at h
          have h1 := h.pick [1, 2, 1, 1] rfl
          have h2 := h1.moreStar
          simp only [List.map_append, List.map_cons, List.map_nil, List.length_append, List.length_singleton]
          exact h2.pick [1, 0, 0] rfl) ⟨by simp only; omega, by simp only [hnx]; exact hq.next (z := (q31, x)) hq31 hc2⟩ (by simp only; omega)
  · skip
    have hxe : x = N m := by omega
    subst hxe
    refine CW.exit rfl ?_
    refine KN.code ?_
    refine CW.seq ?_
    refine CW.reg [0, 1, 2] rfl ?_   -- 19, minimal.go:49
    refine s_mv 52 rfl rfl ?_
    refine s_as 2 rfl rfl ?_
    refine s_as 3 rfl rfl ?_
    refine SX.next ?_
    refine CW.ret ?_
    exact KN.ret (rs := [.tmp 2, .tmp 3]) Tryd.results66 rfl (fun w hw => ⟨(qs, X, oa, oc), rfl, hq, hw.pick [0, 0] rfl⟩)
end Go.Proofs.YtompcfingkoldaaDoor
end
section
/- A polynomial's zeros, and the statements MinimalDivides and MinimalZeros, walked. Conditions: the field was made by New; the errors' variables. -/
namespace Go.Proofs.YtompcfingkoldaaDoor
open Go Go.Sx Go.Fm Nb
set_option maxRecDepth 100000
theorem exE (g m : Nat) (n : Int) (w : World) (hm : Ok m) (hf : Has (fieldA g m) w) : Spec1 Tryd.prog 140 [.pointer (some ⟨g, 0, none⟩), .int .i64 n] w (.int .i64 (exz m n : Nat)) := exp_spec g m n w hm hf

theorem tr_len_le {m : Nat} {a : List Nat} (h : Tr m a) {n : Nat} (hz : ∀ j, n ≤ j → cf a j = 0) : a.length ≤ n := Nat.le_of_not_lt fun hl => h.top (by omega) (hz _ (by omega))
theorem xP_lenN (n : Nat) : (xP n).length ≤ n + 1 := tr_len_le (xP_b1 n).tr (fun j hj => by rw [cf_xP, if_neg (by omega)])
theorem xn_len {n : Nat} (h : n ≤ 511) : (addP (xP n) (xP 0)).length ≤ 512 := tr_len_le (addP_b1 (xP_b1 n) (xP_b1 0)).tr (fun j hj => by rw [cf_addP, cf_xP, cf_xP, if_neg (by omega), if_neg (by omega)]; rfl)
theorem xn_root {m : Nat} (hm : Ok m) (k : Nat) : evL m (addP (xP (N m)) (xP 0)) (exz m (k : Nat)) = 0 := by
  rw [evL_xs hm (exz_lt hm _) (b1_tr hm (addP_b1 (xP_b1 _) (xP_b1 0))).lt]
  have hNp := N_pos hm
  have hl : (addP (xP (N m)) (xP 0)).length ≤ N m + 1 := tr_len_le (addP_b1 (xP_b1 _) (xP_b1 0)).tr (fun j hj => by rw [cf_addP, cf_xP, cf_xP, if_neg (by omega), if_neg (by omega)]; rfl)
  rw [xs_any (k := N m + 1) (fun i hi => by rw [cf_out hi, gm_zero_left]) (fun i hi => by rw [cf_out (by omega), gm_zero_left])]
  have e : xs (fun i => gm m (cf (addP (xP (N m)) (xP 0)) i) (fpw m (exz m (k : Nat)) i)) (N m + 1) = xs (fun i => (if i = N m then 1 else 0) ^^^ (if i = 0 then 1 else 0)) (N m + 1) := xs_congr (fun i hi => by
    rw [cf_addP, cf_xP, cf_xP]
    by_cases h1 : i = N m
    · rw [if_pos h1, if_neg (by omega)]
      show gm m 1 _ = 1
      rw [h1, exz_fpw hm, gm_one_left hm (exz_lt hm _), ← exz_zero hm]
      exact exz_congr (by rw [Int.mul_emod_left, Int.zero_emod])
    · by_cases h2 : i = 0
      · rw [if_neg h1, if_pos h2]
        show gm m 1 _ = 1
        rw [h2, exz_fpw hm, gm_one_left hm (exz_lt hm _), ← exz_zero hm]
        exact exz_congr (by simp)
      · rw [if_neg h1, if_neg h2]
        exact gm_zero_left m _)
  rw [e, xs_xor, xs_one (k := N m) (by omega) (fun i _ hi => if_neg hi), xs_one (k := 0) (by omega) (fun i _ hi => if_neg hi)]
  simp
theorem xn_dvd {m : Nat} (hm : Ok m) (i : Nat) : restP 3 (addP (xP (N m)) (xP 0)) (minP m i) = [] := min_dvd hm (addP_b1 (xP_b1 _) (xP_b1 0)) (fun k _ => xn_root hm k)
theorem sumY_two {n : Nat} : sumY (eX [(n : Int), 0]) 2 = bys (addP (xP n) (xP 0)) := by
  rw [sumY_eq]
  show bys (addP (addP [] (xP n)) (xP 0)) = _
  rw [nil_addP ok3 (xP_b1 n).tr]
end Go.Proofs.YtompcfingkoldaaDoor
end
section
/- The statement MinimalWhole, walked. Conditions: the errors' variables. -/
namespace Go.Proofs.YtompcfingkoldaaDoor
open Go Go.Sx Go.Fm Nb
set_option maxRecDepth 100000
theorem xn_top {n : Nat} (h : 1 ≤ n) : (addP (xP n) (xP 0)).length = n + 1 := by
  have hb := addP_b1 (xP_b1 n) (xP_b1 0)
  refine Nat.le_antisymm (tr_len_le hb.tr (fun j hj => by rw [cf_addP, cf_xP, cf_xP, if_neg (by omega), if_neg (by omega)]; rfl)) (Nat.le_of_not_lt fun hl => ?_)
  have h1 : cf (addP (xP n) (xP 0)) n = 0 := cf_out (by omega)
  rw [cf_addP, cf_xP, cf_xP, if_pos rfl, if_neg (by omega)] at h1
  cases h1
theorem whole_xn {m : Nat} (hm : Ok m) : genL m (repsL m (N m)) = addP (xP (N m)) (xP 0) := by
  have := N_pos hm
  exact whole_eq hm (addP_b1 (xP_b1 _) (xP_b1 0)) (xn_top (by omega)) (fun k _ => xn_root hm k)
theorem gen_take0 (m : Nat) (L : List Nat) : [1] = genL m (L.take 0) := by rw [List.take_zero]; rfl
theorem sumY_zero : sumY (eX [(0 : Int)]) 1 = bys [1] := by decide +kernel
theorem mkm_low {k : Int} (hk : 0 < k) {M : Nat} (h : (M : Int) < k + 3) (h3 : 3 ≤ M) : mkm k ((M : Int) - 3) = M := by
  unfold mkm
  rw [Int.emod_eq_of_lt (by omega) (by omega)]
  omega
theorem reps_ne {m : Nat} (hm : Ok m) : (repsL m (N m)).length ≠ 0 := fun h => by
  have := N_pos hm
  have h1 : (0 : Nat) ∈ repsL m (N m) := reps_mem.2 ⟨by omega, by have := hd_self hm (x := 0) (by omega); omega⟩
  rw [List.eq_nil_of_length_eq_zero h] at h1
  cases h1

theorem sum_part (f : Nat → Nat) (i : Nat) (L : List Nat) : ((L.take i).map f).sum ≤ (L.map f).sum := by
  have e := List.take_append_drop i L
  have h2 : (L.map f).sum = ((L.take i).map f).sum + ((L.drop i).map f).sum := by
    rw [← List.sum_append, ← List.map_append, e]
  omega
theorem reps_part {m : Nat} (hm : Ok m) (i : Nat) : (genL m ((repsL m (N m)).take i)).length ≤ N m + 1 := by
  have h1 := sum_part (fun y => (cosP m y).length) i (repsL m (N m))
  rw [reps_all hm] at h1
  rw [gen_len hm]
  exact Nat.succ_le_succ h1

set_option maxHeartbeats 1600000 in

theorem walk_MinimalWhole (a0 : Int) (e : Nat → Addr) (w : World) (he : Er e w 2) : Spec1 Tryd.prog 14 [.int .i64 a0] w (.bool true) := by
  have hm := mkm_ok (k := 5) (by omega) (by omega) a0
  have hmb := mkm_bd (k := 5) (by omega) a0
  have h14 := pow_le14 hm
  have hNs := N_succ (mkm 5 a0)
  have hNp := N_pos hm
  have hmh := hm.hi
  have hv := mkm_val (k := 5) (by omega) a0
  have htb := tmod_lt2 (k := 5) (by omega) a0
  have hm7 : mkm 7 ((((mkm 5 a0) : Nat) : Int) - 3) = (mkm 5 a0) := mkm_low (by omega) (by omega) (by omega)
  have hN511 : N (mkm 5 a0) ≤ 511 := by have : 2 ^ (mkm 5 a0) ≤ 2 ^ 9 := Nat.pow_le_pow_right (by omega) (by omega); omega
  refine spec_of Tryd.func14 rfl Tryd.ntmps14 rfl ?_
  refine CW.seq ?_
  refine CW.reg [0] rfl ?_   -- 0, more.go:9
  refine s_as 2 rfl rfl ?_
  refine SX.next ?_
  refine CW.seq ?_
  refine CW.reg [0, 1] rfl ?_   -- 1, more.go:10
  refine s_call1 15 rfl rfl rfl rfl (fun w hw => first5_spec e w (hw.er he)) (fun _ _ => trivial) ?_
  refine s_as 3 rfl rfl ?_
  refine SX.next ?_
  refine CW.seq ?_
  refine CW.reg [0, 1, 2, 3, 4, 5] rfl ?_   -- 2, more.go:11
  refine s_mv 16 rfl rfl ?_
  refine s_rem 17 rfl rfl rfl (by omega) rfl ?_
  refine s_add 18 rfl rfl rfl (r := a0.tmod 5 + 5) (w64 (by omega)) ?_
  refine s_rem 19 rfl rfl rfl (by omega) hv ?_
  refine s_add 20 rfl rfl rfl (r := ((mkm 5 a0) : Nat)) (by rw [show (((a0 % 5).toNat : Nat) : Int) + 3 = ((mkm 5 a0) : Nat) by unfold mkm; omega]; exact w64 (by omega)) ?_
  refine s_as 0 rfl rfl ?_
  refine SX.next ?_
  refine CW.seq ?_
  refine CW.reg [0, 1, 2, 3, 4, 5, 6, 7] rfl ?_   -- 3, more.go:12
  refine s_mv 22 rfl rfl ?_
  refine s_sub 23 rfl rfl rfl (r := (((mkm 5 a0) : Nat) : Int) - 3) (w64 (by omega)) ?_
  refine s_call 24 rfl rfl rfl rfl (fun w hw => by have := made5_spec ((((mkm 5 a0) : Nat) : Int) - 3) w; rw [hm7] at this; exact this) (fun _ _ => trivial) (fun g _ => ?_)
  refine s_mv 21 rfl rfl ?_
  refine s_ext 25 rfl rfl rfl ?_
  refine s_ext 26 rfl rfl rfl ?_
  refine s_as 4 rfl rfl ?_
  refine s_as 5 rfl rfl ?_
  refine SX.next ?_
  refine CW.seq ?_
  refine CW.seq ?_
  refine CW.reg [0, 1, 2, 3, 4, 5, 6, 7, 8, 9, 10] rfl ?_   -- 4, more.go:13
  refine s_mv 27 rfl rfl ?_
  refine s_eqPN 28 rfl rfl ?_
  refine s_mv 29 rfl rfl ?_
  refine s_mv 30 rfl rfl ?_
  refine s_mv 31 rfl rfl ?_
  refine s_ne 32 rfl rfl rfl (decide_eq_false (fun h => h rfl)) ?_
  refine s_pickF 33 rfl rfl rfl ?_
  refine s_mv 34 rfl rfl ?_
  refine s_mv 35 rfl rfl ?_
  refine s_not 36 rfl rfl ?_
  refine s_pickF 37 rfl rfl rfl ?_
  refine SX.next ?_
  refine CW.condF rfl ?_
  refine CW.skip ?_
  refine KN.code ?_
  refine CW.seq ?_
  refine CW.reg [0, 1, 2, 3, 4, 5, 6] rfl ?_   -- 6, more.go:16
  refine s_mv 39 rfl rfl ?_
  refine s_call 40 rfl rfl rfl rfl (fun w hw => cosets_spec (mkm 5 a0) w hm) (fun _ _ => trivial) (fun q40 hq40 => ?_)
  refine s_mv 38 rfl rfl ?_
  refine s_ext 41 rfl rfl rfl ?_
  refine s_ext 42 rfl rfl rfl ?_
  refine s_as 6 rfl rfl ?_
  refine s_as 7 rfl rfl ?_
  refine SX.next ?_
  refine CW.seq ?_
  refine CW.reg [0, 1, 2, 3, 4, 5, 6] rfl ?_   -- 7, more.go:17
  refine s_bsl 44 rfl rfl (cells := #[.int .i64 0]) (by kernel_rfl) rfl (fun _ _ => trivial) (fun b44 => ?_)
  refine s_call 45 rfl rfl rfl rfl (fun w hw => by have := of_spec (some ⟨b44, 0, none⟩) 1 1 [0] w (Has.cong ((hw.has (i := 0) rfl).blk_sl (m := 1) rfl) rfl) (by omega) (fun j hj => by match j, hj with | 0, _ => (show 0 ≤ (0 : Int) ∧ (0 : Int) ≤ 2048; omega)); rw [show ([(0 : Int)] : List Int).length = 1 from rfl, sumY_zero, gen_take0 (mkm 5 a0) (repsL (mkm 5 a0) (N (mkm 5 a0)))] at this; exact this) (fun _ _ => trivial) (fun q45 hq45 => ?_)
  refine s_mv 43 rfl rfl ?_
  refine s_ext 46 rfl rfl rfl ?_
  refine s_ext 47 rfl rfl rfl ?_
  refine s_as 8 rfl rfl ?_
  refine s_as 9 rfl rfl ?_
  refine SX.next ?_
  refine CW.seq ?_
  refine CW.seq ?_
  refine CW.reg [0, 1, 2, 3, 4, 5, 6, 7, 8, 9, 10] rfl ?_   -- 8, more.go:18
  refine s_mv 48 rfl rfl ?_
  have hql := hq40.len
  have hrl := reps_len (mkm 5 a0) (N (mkm 5 a0))
  have hrn := reps_ne hm
  refine s_neNN 49 rfl rfl ?_
  refine s_mv 50 rfl rfl ?_
  refine s_mv 51 rfl rfl ?_
  refine s_neNN 52 rfl rfl ?_
  refine s_pickF 53 rfl rfl rfl ?_
  refine s_mv 54 rfl rfl ?_
  refine s_mv 55 rfl rfl ?_
  refine s_len 56 rfl rfl ?_
  refine s_eq 57 rfl rfl rfl (decide_eq_false (by omega)) ?_
  refine s_pickF 58 rfl rfl rfl ?_
  refine SX.next ?_
  refine CW.condF rfl ?_
  refine CW.skip ?_
  refine KN.code ?_
  refine CW.seq ?_
  refine CW.seq ?_
  refine CW.reg [0] rfl ?_   -- 10, more.go:21
  refine s_as 10 rfl rfl ?_
  refine SX.next ?_
  refine CW.block ?_
  refine CW.loop (G := Nat × Option Addr × Nat) (fun q => [(0, .int .i64 ((mkm 5 a0) : Nat)), (2, .bool false), (4, .pointer (some ⟨g, 0, none⟩)), (6, .slice q40.2.2.1 q40.1.length q40.2.2.2), (8, .slice q.2.1 (bys (genL (mkm 5 a0) ((repsL (mkm 5 a0) (N (mkm 5 a0))).take q.1))).length q.2.2), (10, .int .i64 (q.1 : Nat))]) (fun q => Sto w [own 5 1 q.2.1 (bys (genL (mkm 5 a0) ((repsL (mkm 5 a0) (N (mkm 5 a0))).take q.1))).length q.2.2 (nats .u8 (bys (genL (mkm 5 a0) ((repsL (mkm 5 a0) (N (mkm 5 a0))).take q.1)))), own 23 1 q40.2.2.1 q40.1.length q40.2.2.2 (q40.1.map (hdC (mkm 5 a0))), starA q40.2.1, fieldA g (mkm 5 a0)]) (fun q => q.1 ≤ (repsL (mkm 5 a0) (N (mkm 5 a0))).length ∧ (bys (genL (mkm 5 a0) ((repsL (mkm 5 a0) (N (mkm 5 a0))).take q.1))).length ≤ q.2.2) (fun q => (repsL (mkm 5 a0) (N (mkm 5 a0))).length - q.1) (0, q45) ⟨rfl, rfl, rfl, rfl, rfl, rfl, trivial⟩ (fun _ h => h.pick [0, 1, 1, 1] rfl) ⟨Nat.zero_le _, hq45⟩ ?_
  rintro ⟨i, qa, qc⟩ ⟨hi, hqc⟩
  simp only at hi hqc
  dsimp only
  refine CW.seq ?_
  refine CW.seq ?_
  refine CW.reg [0, 1, 2, 3] rfl ?_   -- 11, more.go:21
  refine s_mv 59 rfl rfl ?_
  refine s_mv 60 rfl rfl ?_
  refine s_len 61 rfl rfl ?_
  refine s_lt 62 rfl rfl rfl rfl ?_
  refine SX.next ?_
  refine CW.test rfl (fun hc => ?_) (fun hc => ?_)
  · skip
    have hil : i < (repsL (mkm 5 a0) (N (mkm 5 a0))).length := by omega
    obtain ⟨z, hz, hz2, hzm⟩ := Cos.at hq40 (cf_in hil)
    have hzc := hq40.mem z hzm
    have hzp := hq40.caps z hzm
    have hhd : (q40.1.map (hdC (mkm 5 a0)))[i]? = some (.slice z.1.1 (cosP (mkm 5 a0) z.2).length z.1.2) := by rw [List.getElem?_map, hz]; rfl
    have hzr := reps_mem.1 (show z.2 ∈ (repsL (mkm 5 a0) (N (mkm 5 a0))) by rw [hz2]; exact cf_mem hil)
    have hcl := cos_len_pos hm z.2
    have hze := em_small hzr.1
    have hz0 : cf (cosP (mkm 5 a0) z.2) 0 = z.2 := by rw [hd_cf]; exact hzr.2
    have hgt2 : (genL (mkm 5 a0) ((repsL (mkm 5 a0) (N (mkm 5 a0))).take (i + 1))) = mulP 3 (genL (mkm 5 a0) ((repsL (mkm 5 a0) (N (mkm 5 a0))).take i)) (minP (mkm 5 a0) z.2) := by rw [hz2]; exact gen_take hm (cf_in hil)
    have hgb := gen_b1 hm ((repsL (mkm 5 a0) (N (mkm 5 a0))).take i)
    have hgl := reps_part hm i
    have hbl := bys_len (genL (mkm 5 a0) ((repsL (mkm 5 a0) (N (mkm 5 a0))).take i))
    have hmb := minP_b1 hm z.2
    have hml := minP_len hm z.2
    have hbm := bys_len (minP (mkm 5 a0) z.2)
    refine CW.skip ?_
    refine KN.code ?_
    refine CW.seq ?_
    refine CW.block ?_
    refine CW.seq ?_
    refine CW.seq ?_
    refine CW.reg [0, 1, 2, 3, 4, 5] rfl ?_   -- 13, more.go:22
    refine s_mv 65 rfl rfl ?_
    refine s_mv 66 rfl rfl ?_
    refine s_iaO 67 1 i rfl rfl rfl rfl rfl (by omega) ?_
    refine s_ldO 68 1 rfl rfl rfl hhd ?_
    refine s_len 69 rfl rfl ?_
    refine s_eq 70 rfl rfl rfl (decide_eq_false (by omega)) ?_
    refine SX.next ?_
    refine CW.condF rfl ?_
    refine CW.skip ?_
    refine KN.code ?_
    refine CW.seq ?_
    refine CW.reg [0, 1, 2, 3, 4, 5, 6, 7, 8, 9, 10, 11, 12, 13, 14] rfl ?_   -- 15, more.go:25
    refine s_mv 72 rfl rfl ?_
    refine s_mv 73 rfl rfl ?_
    refine s_mv 74 rfl rfl ?_
    refine s_mv 75 rfl rfl ?_
    refine s_iaO 76 1 i rfl rfl rfl rfl rfl (by omega) ?_
    refine s_ldO 77 1 rfl rfl rfl hhd ?_
    refine s_iaV 78 0 (fun w hw => (Has.star (hw.has (i := 2) rfl) hzc).of_own) rfl rfl rfl rfl (by omega) ?_
    refine s_ldV 79 (fun w hw => (Has.star (hw.has (i := 2) rfl) hzc).of_own) rfl rfl (by rw [Nat.mul_one]; exact natsAtC (by omega)) (by omega) ?_
    refine s_call 80 rfl rfl rfl rfl (fun w hw => by have := mof_spec g (mkm 5 a0) ((cf (cosP (mkm 5 a0) z.2) 0 : Nat) : Int) w hm (hw.has (i := 3) rfl); rw [hz0, hze] at this; rw [hz0]; exact this) (fun _ _ => trivial) (fun q80 hq80 => ?_)
    refine s_call 81 rfl rfl rfl rfl (fun w hw => by have := bmul_spec qa (bys (genL (mkm 5 a0) ((repsL (mkm 5 a0) (N (mkm 5 a0))).take i))).length qc (bys (genL (mkm 5 a0) ((repsL (mkm 5 a0) (N (mkm 5 a0))).take i))) q80.1 (bys (minP (mkm 5 a0) z.2)).length q80.2 (bys (minP (mkm 5 a0) z.2)) w ((hw.has (i := 1) rfl).of_own) (bys_lt hgb) (by omega) hqc ((hw.has (i := 0) rfl).of_own) (bys_lt hmb) (by omega) hq80 (by rw [bl_bys hgb, bl_bys hmb]; omega); rw [bl_bys hgb, bl_bys hmb, ← hgt2] at this; exact this) (fun _ _ => trivial) (fun q81 hq81 => ?_)
    refine s_mv 71 rfl rfl ?_
    refine s_ext 82 rfl rfl rfl ?_
    refine s_ext 83 rfl rfl rfl ?_
    refine s_as 11 rfl rfl ?_
    refine s_as 12 rfl rfl ?_
    refine SX.next ?_
    refine CW.seq ?_
    refine CW.seq ?_
    refine CW.reg [0, 1] rfl ?_   -- 16, more.go:26
    refine s_mv 84 rfl rfl ?_
    refine s_neNN 85 rfl rfl ?_
    refine SX.next ?_
    refine CW.condF rfl ?_
    refine CW.skip ?_
    refine KN.code ?_
    refine CW.reg [0, 1] rfl ?_   -- 18, more.go:29
    refine s_mv 86 rfl rfl ?_
    refine s_as 8 rfl rfl ?_
    refine SX.end_ ?_
    refine KN.blk ?_
    refine KN.code ?_
    refine CW.reg [0, 1, 2] rfl ?_   -- 12, more.go:21
    refine s_mv 63 rfl rfl ?_
    refine s_add 64 rfl rfl rfl (r := ((i + 1 : Nat) : Int)) (w64 (by omega)) ?_
    refine s_as 10 rfl rfl ?_
    refine SX.end_ ?_
    exact KN.back (i + 1, q81.1, q81.2) ⟨rfl, rfl, rfl, rfl, rfl, rfl, trivial⟩ (fun _ h => h.pick [0, 2, 2, 2] rfl) ⟨by simp only; omega, hq81⟩ (by simp only; omega)
  · skip
    have hie : i = (repsL (mkm 5 a0) (N (mkm 5 a0))).length := by omega
    have hfin : (genL (mkm 5 a0) ((repsL (mkm 5 a0) (N (mkm 5 a0))).take i)) = (addP (xP (N (mkm 5 a0))) (xP 0)) := by rw [hie, List.take_length]; exact whole_xn hm
    have hXB := addP_b1 (xP_b1 (N (mkm 5 a0))) (xP_b1 0)
    have hXl := xn_top (n := N (mkm 5 a0)) (by omega)
    have hbx := bys_len (addP (xP (N (mkm 5 a0))) (xP 0))
    rw [hfin] at hqc ⊢
    refine CW.exit rfl ?_
    refine KN.code ?_
    refine CW.seq ?_
    refine CW.reg [0, 1, 2, 3, 4, 5, 6, 7, 8, 9, 10] rfl ?_   -- 19, more.go:31
    refine s_mv 88 rfl rfl ?_
    refine s_conv 89 rfl rfl (u64_nat hm) ?_
    refine s_shl 90 rfl rfl rfl (by omega) (shl_one hm) ?_
    refine s_sub 91 rfl rfl rfl (r := ((N (mkm 5 a0) : Nat) : Int)) (by rw [show ((N (mkm 5 a0) + 1 : Nat) : Int) - 1 = ((N (mkm 5 a0) : Nat) : Int) by omega]; exact w64 (by omega)) ?_
    refine s_bsl 92 rfl rfl (cells := #[.int .i64 ((N (mkm 5 a0) : Nat) : Int), .int .i64 0]) (by kernel_rfl) rfl (fun _ _ => trivial) (fun b92 => ?_)
    refine s_call 93 rfl rfl rfl rfl (fun w hw => by have := of_spec (some ⟨b92, 0, none⟩) 2 2 [((N (mkm 5 a0) : Nat) : Int), 0] w (Has.cong ((hw.has (i := 0) rfl).blk_sl (m := 2) rfl) rfl) (by omega) (fun j hj => by match j, hj with | 0, _ => (show 0 ≤ ((N (mkm 5 a0) : Nat) : Int) ∧ ((N (mkm 5 a0) : Nat) : Int) ≤ 2048; omega) | 1, _ => (show 0 ≤ (0 : Int) ∧ (0 : Int) ≤ 2048; omega)); rw [show ([((N (mkm 5 a0) : Nat) : Int), 0] : List Int).length = 2 from rfl, sumY_two] at this; exact this) (fun _ _ => trivial) (fun q93 hq93 => ?_)
    refine s_mv 87 rfl rfl ?_
    refine s_ext 94 rfl rfl rfl ?_
    refine s_ext 95 rfl rfl rfl ?_
    refine s_as 13 rfl rfl ?_
    refine s_as 14 rfl rfl ?_
    refine SX.next ?_
    refine CW.seq ?_
    refine CW.reg [0, 1, 2, 3, 4, 5, 6, 7] rfl ?_   -- 20, more.go:32
    refine s_mv 96 rfl rfl ?_
    refine s_eqNN 97 rfl rfl ?_
    refine s_mv 98 rfl rfl ?_
    refine s_mv 99 rfl rfl ?_
    refine s_mv 100 rfl rfl ?_
    refine s_call1 101 rfl rfl rfl rfl (v := .bool true) (fun w hw => by have := bsm_spec qa (bys (addP (xP (N (mkm 5 a0))) (xP 0))).length qc (bys (addP (xP (N (mkm 5 a0))) (xP 0))) q93.1 (bys (addP (xP (N (mkm 5 a0))) (xP 0))).length q93.2 (bys (addP (xP (N (mkm 5 a0))) (xP 0))) w ((hw.has (i := 2) rfl).of_own) (bys_lt hXB) (by omega) hqc ((hw.has (i := 0) rfl).of_own) (bys_lt hXB) (by omega) hq93; rw [bl_bys hXB, decide_eq_true rfl] at this; exact this) (fun _ _ => trivial) ?_
    refine s_pickT 102 rfl rfl rfl ?_
    refine s_as 2 rfl rfl ?_
    refine SX.next ?_
    refine CW.ret ?_
    exact KN.ret (rs := [.tmp 2]) Tryd.results14 rfl (fun w hw => ⟨rfl, hw.nothing⟩)
end Go.Proofs.YtompcfingkoldaaDoor
end
