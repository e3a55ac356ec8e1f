/- Slices that grow, are cut and are copied, for the symbolic walk, over any program. No condition. -/
import Derived.Test.YtcjddlcinaedaaaDoorOps4
import Derived.Laws.CopyRow
namespace Go.Sx
open Go

/-! ### Views -/
section
variable {w : World} {sz n : Nat} {A : Option Addr} {vs : List Value}
theorem Has.sl_nil (w : World) (sz : Nat) (A : Option Addr) : Has (sl sz A 0 []) w := ⟨fun _ => False, ⟨by simp, fun h => absurd rfl h⟩, fun _ h => h.elim⟩
theorem Has.blk_sl {g T m : Nat} {cs : Array Value} (h : Has (blk g T cs) w) (hs : cs.size = m * sz) : Has (sl sz (some ⟨g, 0, none⟩) m cs.toList) w := by
  obtain ⟨D, ⟨h1, h2⟩, h3⟩ := h
  refine ⟨D, ⟨by simpa using hs, fun _ => ⟨rfl, (h1 g).2 rfl, fun j v hj => ?_⟩⟩, h3⟩
  show w.cell? ⟨g, 0 + j, none⟩ = some v
  rw [Nat.zero_add, cell_of_blk h2]
  simpa using hj
/-- Where a part of a slice lies. -/
def cutA (A : Option Addr) (lo sz c : Nat) : Option Addr := if c = lo then A else A.map (·.add (lo * sz))
theorem cutA_zero (A : Option Addr) (sz c : Nat) : cutA A 0 sz c = A := by
  unfold cutA
  split
  · rfl
  · rw [Nat.zero_mul]
    cases A with
    | none => rfl
    | some a => simp [Addr.add]
theorem Has.sl_cut {c lo hi : Nat} (h : Has (sl sz A n vs) w) (h1 : lo ≤ hi) (h2 : hi ≤ n) (hc : n ≤ c) : Has (sl sz (cutA A lo sz c) (hi - lo) ((vs.drop (lo * sz)).take ((hi - lo) * sz))) w := by
  obtain ⟨D, ⟨h3, h4⟩, h5⟩ := h
  refine ⟨D, ⟨?_, fun hn => ?_⟩, h5⟩
  · rw [List.length_take, List.length_drop, h3, ← Nat.sub_mul]
    exact Nat.min_eq_left (Nat.mul_le_mul_right _ (by omega))
  · obtain ⟨k1, k2, k3⟩ := h4 (by omega)
    have hA : cutA A lo sz c = some ⟨ob A, oo A + lo * sz, none⟩ := by
      unfold cutA
      rw [if_neg (by omega)]
      conv => lhs; rw [k1]
      simp [add_at]
    rw [hA]
    refine ⟨rfl, k2, fun j v hj => ?_⟩
    rw [List.getElem?_take] at hj
    split at hj
    · rw [List.getElem?_drop] at hj
      have := k3 _ v hj
      simp only [ob, oo]
      rw [Nat.add_assoc]
      exact this
    · cases hj
end

/-! ### Runs -/
section
variable {P : Program} {w : World}
theorem elem_of {T E : TypeId} (h : P.underlying T = some (.slice E)) : P.elem T = E := by simp [Program.elem, h]
theorem run_slH {T E sz by_ : Nat} {z : Value} [h : SlT P T E sz by_ z] {A : Option Addr} {m c : Nat} {k : IntKind} {hi : Int} (h0 : 0 ≤ hi) (h2 : hi ≤ c) :
    (Instr.slice T (.slice A m c) none (some (.int k hi)) none).run P w = .ok (.slice A hi.toNat c) w := by
  obtain ⟨i, hi1, hs, _⟩ := h.info
  have e := elem_of h.under
  rw [run_slice_h w T A m c (by rw [e]; exact h.under) k hi h0 h2, e]
  simp only [sizeOf, Sem.run_bind, run_tinfo hi1, Result.andThen_ok, Sem.run_pure, hs]
  have := cutA_zero A sz c
  unfold cutA at this
  simp only [sliced, this, Nat.sub_zero]
theorem run_slL {T E sz by_ : Nat} {z : Value} [h : SlT P T E sz by_ z] {A : Option Addr} {m c : Nat} {k : IntKind} {lo : Int} (h0 : 0 ≤ lo) (h2 : lo ≤ m) :
    (Instr.slice T (.slice A m c) (some (.int k lo)) none none).run P w = .ok (.slice (cutA A lo.toNat sz c) (m - lo.toNat) (c - lo.toNat)) w := by
  obtain ⟨i, hi1, hs, _⟩ := h.info
  have e := elem_of h.under
  rw [run_slice_l w T A m c (by rw [e]; exact h.under) k lo h0 h2, e]
  simp only [sizeOf, Sem.run_bind, run_tinfo hi1, Result.andThen_ok, Sem.run_pure, hs, sliced, cutA]
theorem run_slLH {T E sz by_ : Nat} {z : Value} [h : SlT P T E sz by_ z] {A : Option Addr} {m c : Nat} {k k' : IntKind} {lo hi : Int} (h0 : 0 ≤ lo) (h1 : lo ≤ hi) (h2 : hi ≤ c) :
    (Instr.slice T (.slice A m c) (some (.int k lo)) (some (.int k' hi)) none).run P w = .ok (.slice (cutA A lo.toNat sz c) (hi.toNat - lo.toNat) (c - lo.toNat)) w := by
  obtain ⟨i, hi1, hs, _⟩ := h.info
  have e := elem_of h.under
  rw [run_slice_lh w T A m c (by rw [e]; exact h.under) k k' lo hi h0 h1 h2, e]
  simp only [sizeOf, Sem.run_bind, run_tinfo hi1, Result.andThen_ok, Sem.run_pure, hs, sliced, cutA]
theorem run_sliceAt' {T E sz by_ : Nat} {z : Value} [h : SlT P T E sz by_ z] (x : Value) (lo hi mx : Option Value) : (Instr.sliceAt T x lo hi mx).run P w = (Instr.slice T x lo hi mx).run P w :=
  run_sliceAt_slice w T x lo hi mx (by rw [elem_of h.under]; exact h.under)
theorem run_append_none {T E sz by_ : Nat} {z : Value} [h : SlT P T E sz by_ z] {A : Option Addr} {n c c2 : Nat} {ty : TypeId} (hc : n ≤ c) :
    (Builtin.append_ #[T, T] ty #[.slice A n c, .slice none 0 c2]).run P w = .ok (.slice A n c) w := by
  obtain ⟨i, hi1, hs, _⟩ := h.info
  cases A with
  | none => simp [Builtin.append_, run_underlying h.under, sizeOf, run_tinfo hi1, Builtin.lenOf, Builtin.firstCells, hc]
  | some a => simp [Builtin.append_, run_underlying h.under, sizeOf, run_tinfo hi1, Builtin.lenOf, Builtin.firstCells, hc, storeCells]
end

section
variable {P : Program} {ops : Array Oper} {S : World → Prop} {K : Act → World → Prop} {p : Plan} {n : Nat} {l : List (Nat × Value)} {C : World → Prop} {fl : Bool} {i : Nat} {ty ty' ty2 ty3 : TypeId} {x y z u : Operand}
variable {F : Nat → Prop} {w₀ : World} {L L' : List Atom}

theorem s_slH (d q : Nat) {E sz by_ : Nat} {zv : Value} {A : Option Addr} {m c : Nat} {k : IntKind} {hi : Int} (ho : opAt ops n l i = some (some d, .slice ty x none (some y) none, ty2)) [SlT P ty E sz by_ zv] (hx : ev l x = some (.slice A m c)) (hy : ev l y = some (.int k hi))
    (hq : hi = (q : Nat)) (hc : q ≤ c) (h : SX P ops S K p n ((d, (.slice A q c)) :: l) C) : SX P ops S K (.st fl i p) n l C :=
  SX.pure ho (fun a w o he h1 _ => by
    subst hq
    simp only [execOp, h1, he.ev hx, he.ev hy, Option.map_none, Option.map_some, Sem.run_bind, run_sliceAt' (P := P) (T := ty), run_slH (w := w) (P := P) (T := ty) (m := m) (c := c) (A := A) (k := k) (hi := ((q : Nat) : Int)) (by omega) (by omega), Result.andThen_ok, Sem.run_pure, Int.toNat_natCast]) h
theorem s_slL (d q : Nat) {E sz by_ : Nat} {zv : Value} {A : Option Addr} {m c : Nat} {k : IntKind} {lo : Int} (ho : opAt ops n l i = some (some d, .slice ty x (some y) none none, ty2)) [SlT P ty E sz by_ zv] (hx : ev l x = some (.slice A m c)) (hy : ev l y = some (.int k lo))
    (hq : lo = (q : Nat)) (hc : q ≤ m) (h : SX P ops S K p n ((d, (.slice (cutA A q sz c) (m - q) (c - q))) :: l) C) : SX P ops S K (.st fl i p) n l C :=
  SX.pure ho (fun a w o he h1 _ => by
    subst hq
    simp only [execOp, h1, he.ev hx, he.ev hy, Option.map_none, Option.map_some, Sem.run_bind, run_sliceAt' (P := P) (T := ty), run_slL (w := w) (P := P) (T := ty) (m := m) (c := c) (A := A) (k := k) (lo := ((q : Nat) : Int)) (by omega) (by omega), Result.andThen_ok, Sem.run_pure, Int.toNat_natCast]) h
theorem s_slLH (d q r : Nat) {E sz by_ : Nat} {zv : Value} {A : Option Addr} {m c : Nat} {k k' : IntKind} {lo hi : Int} (ho : opAt ops n l i = some (some d, .slice ty x (some y) (some z) none, ty2)) [SlT P ty E sz by_ zv] (hx : ev l x = some (.slice A m c)) (hy : ev l y = some (.int k lo)) (hz : ev l z = some (.int k' hi))
    (hq : lo = (q : Nat)) (hr : hi = (r : Nat)) (h1 : q ≤ r) (hc : r ≤ c) (h : SX P ops S K p n ((d, (.slice (cutA A q sz c) (r - q) (c - q))) :: l) C) : SX P ops S K (.st fl i p) n l C :=
  SX.pure ho (fun a w o he h1 _ => by
    subst hq hr
    simp only [execOp, h1, he.ev hx, he.ev hy, he.ev hz, Option.map_none, Option.map_some, Sem.run_bind, run_sliceAt' (P := P) (T := ty), run_slLH (w := w) (P := P) (T := ty) (m := m) (c := c) (A := A) (k := k) (k' := k') (lo := ((q : Nat) : Int)) (hi := ((r : Nat) : Int)) (by omega) (by omega) (by omega), Result.andThen_ok, Sem.run_pure, Int.toNat_natCast]) h

theorem ownBlock_of {A : Option Addr} {n c : Nat} : (Value.slice A n c).ownBlock = A.map (·.block) := by cases A <;> rfl
/-- What is appended to a slice of the walk's own. -/
theorem s_app (d q : Nat) {E sz by_ : Nat} {zv : Value} {A B : Option Addr} {m c m2 c2 : Nat} {xs ys : List Value} {T : TypeId} (hi : L[q]? = some (own E sz A m c xs))
    (ho : opAt ops n l i = some (some d, .call ⟨.builtin .append, #[x, y], #[T, T]⟩, ty)) [hT : SlT P T E sz by_ zv] (hx : ev l x = some (.slice A m c)) (hy : ev l y = some (.slice B m2 c2))
    (hv : ∀ w, St F w₀ L w → Has (sl sz B m2 ys) w) (h1 : ys.all (·.oneCell') = true) (hz : zv.cells.size = sz) (h0 : 0 < sz) (h63 : m + m2 ≤ maxLen) (hb : (m + m2) * by_ ≤ 140737488355328)
    (hS : ∀ A' c' w, St F w₀ (L.set q (own E sz A' (m + m2) c' (xs ++ ys))) w → S w)
    (h : ∀ A' c', m + m2 ≤ c' → SX P ops S K p n ((d, .slice A' (m + m2) c') :: l) (St F w₀ (L.set q (own E sz A' (m + m2) c' (xs ++ ys))))) : SX P ops S K (.st false i p) n l (St F w₀ L) := by
  obtain ⟨inf, hi1, hs, hby, hzz⟩ := hT.info
  refine SX.act (d := some d) (X := { q : Option Addr × Nat // m + m2 ≤ q.2 }) (v := fun r => .slice r.1.1 (m + m2) r.1.2) (C' := fun r => St F w₀ (L.set q (own E sz r.1.1 (m + m2) r.1.2 (xs ++ ys)))) ho (fun a w o he hw ho1 ho2 => ?_) (fun r w hw => hS _ _ w hw) (fun r => h _ _ r.2)
  obtain ⟨D, ⟨hown, hD⟩, hlt, hmk⟩ := hw.work hi
  have hsl := hv w hw
  have hex : ∀ (v : Value) (w' : World), (Builtin.append_ #[T, T] ty #[.slice A m c, .slice B m2 c2]).run P w = .ok v w' → (execOp a.eval o).run P w = .ok (.value v) w' := fun v w' hr => by
    simp only [execOp, ho1, ho2, resolve, Sem.run_bind, Sem.run_pure, Result.andThen_ok, invoke, builtin, List.map_toArray, List.map_cons, List.map_nil, he.ev hx, he.ev hy, hr]
  have hmc : m ≤ c := by
    rcases hown.2 with ⟨h, h2⟩ | ⟨g, cap, cur, h, _, _, h2, _⟩
    · injection h; omega
    · injection h; omega
  by_cases hn : B = none
  · subst hn
    have hm2 : m2 = 0 := by
      by_cases h : m2 = 0
      · exact h
      · have := hsl.sl_some h; cases this
    subst hm2
    have hys : ys = [] := List.eq_nil_of_length_eq_zero (by rw [hsl.sl_len]; omega)
    subst hys
    exact ⟨⟨(A, c), by omega⟩, w, .inl (hex _ _ (run_append_none hmc)), by
      have := hmk w (own E sz A (m + 0) c (xs ++ [])) D ⟨rfl, rfl, rfl, Nat.le_refl _, fun _ _ => rfl⟩ ⟨by simpa using hown, hD⟩ (fun k hk => ⟨.inl hk, hlt k hk⟩)
      exact this⟩
  · obtain ⟨b, rfl⟩ : ∃ b, B = some b := by cases B with | none => exact absurd rfl hn | some b => exact ⟨b, rfl⟩
    have hcells : ∀ j u, ys[j]? = some u → w.cell? (b.add j) = some u := fun j u hj => by
      have hne : m2 ≠ 0 := fun h => by
        have := hsl.sl_len
        rw [h, Nat.zero_mul] at this
        rw [List.eq_nil_of_length_eq_zero this] at hj
        simp at hj
      have h2 := hsl.sl_cell hne hj
      have h3 := h2.1
      rw [Option.some.injEq] at h3
      rw [h3, add_at]
      exact h2.2
    obtain ⟨v', w', hr, k1, k2, k3, k4⟩ := run_append_own_at (P := P) w 0 T ty E inf zv sz by_ hT.under hi1 hzz hs hby hz h0 (.slice A m c) m xs hown b m2 c2 ys hsl.sl_len hcells (List.all_eq_true.1 h1) h63 hb (Nat.zero_le _)
    obtain ⟨A', c', rfl, hle⟩ : ∃ A' c', v' = .slice A' (m + m2) c' ∧ m + m2 ≤ c' := by
      rcases k1.2 with ⟨rfl, h⟩ | ⟨g, cap, cur, rfl, _, _, h, _⟩
      · exact ⟨none, 0, by rw [h], by omega⟩
      · exact ⟨_, _, rfl, h⟩
    refine ⟨⟨(A', c'), hle⟩, w', .inl (hex _ _ hr), hmk w' (own E sz A' (m + m2) c' (xs ++ ys)) (fun k => A' ≠ none ∧ k = ob A') ⟨k2.os, k2.tape, k2.output, k2.size, fun k hk => k2.block k hk.1 (fun h => ?_)⟩ ⟨k1, fun k => Iff.rfl⟩ (fun k hk => ?_)⟩
    · refine hk.2 ((hD k).2 ?_)
      rw [ownBlock_of] at h
      cases A with
      | none => cases h
      | some a => exact ⟨by simp, by simpa [ob] using h⟩
    · obtain ⟨a', rfl⟩ : ∃ a', A' = some a' := by cases A' with | none => exact absurd rfl hk.1 | some b => exact ⟨b, rfl⟩
      have hk2 : k = a'.block := hk.2
      subst hk2
      refine ⟨?_, ?_⟩
      · rcases k4 with h | h
        · rw [ownBlock_of, ownBlock_of] at h
          cases A with
          | none => cases h
          | some a => exact .inl ((hD _).2 ⟨by simp, by simpa [ob] using h⟩)
        · rw [ownBlock_of] at h
          simp at h
          exact .inr (by omega)
      · rcases k1.2 with ⟨h, _⟩ | ⟨g, cap, cur, h, _, h2, _⟩
        · injection h with h; cases h
        · injection h with h
          simp only [Option.some.injEq] at h
          subst h
          obtain ⟨h3, _⟩ := Array.getElem?_eq_some_iff.1 h2
          exact h3
end
end Go.Sx
