/- One lemma for each kind of operation on memory, for the symbolic walk, over any program. No condition. -/
import Derived.Test.YtcjddlcinaedaaaDoorOps
import Derived.Maps.AppendAt
namespace Go.Sx
open Go

def ob : Option Addr → Nat
  | some a => a.block
  | none => 0
def oo : Option Addr → Nat
  | some a => a.off
  | none => 0

/-! ### Atoms for slices -/
/-- A slice of cells that is read: 'vs': what its n elements of sz cells hold. -/
def sl (sz : Nat) (A : Option Addr) (n : Nat) (vs : List Value) : Atom where
  ok w D := vs.length = n * sz ∧ (n ≠ 0 → A = some ⟨ob A, oo A, none⟩ ∧ D (ob A) ∧ ∀ j v, vs[j]? = some v → w.cell? ⟨ob A, oo A + j, none⟩ = some v)
  loc := fun ⟨h1, h2⟩ hb => ⟨h1, fun hn => ⟨(h2 hn).1, (h2 hn).2.1, fun j v hj => (World.cell?_of_block (hb _ (h2 hn).2.1)).trans ((h2 hn).2.2 j v hj)⟩⟩

/-- A slice that the walk owns, from the head of a block of its own. -/
def own (E : TypeId) (sz : Nat) (A : Option Addr) (n c : Nat) (vs : List Value) : Atom where
  ok w D := w.ownsRow 0 E sz (.slice A n c) n vs ∧ (∀ k, D k ↔ A ≠ none ∧ k = ob A)
  loc := by
    rintro w w' D ⟨⟨h1, h2⟩, h3⟩ hb
    refine ⟨⟨h1, ?_⟩, h3⟩
    rcases h2 with h2 | ⟨g, cap, cur, hv, hg, hh, r⟩
    · exact .inl h2
    · refine .inr ⟨g, cap, cur, hv, hg, ?_, r⟩
      injection hv with hA
      subst hA
      rw [hb g ((h3 g).2 ⟨by simp, rfl⟩)]
      exact hh

theorem own_sl {E : TypeId} {sz : Nat} {A : Option Addr} {n c : Nat} {vs : List Value} {w : World} {D : Nat → Prop} (h : (own E sz A n c vs).ok w D) : (sl sz A n vs).ok w D := by
  obtain ⟨⟨h1, h2⟩, h3⟩ := h
  refine ⟨h1, fun hn => ?_⟩
  rcases h2 with ⟨_, h⟩ | ⟨g, cap, cur, hv, hg, hh, hc, hm, hs, ht⟩
  · exact absurd h hn
  · injection hv with hA
    subst hA
    refine ⟨rfl, (h3 g).2 ⟨by simp, rfl⟩, fun j v hj => ?_⟩
    simp only [ob, oo, Nat.zero_add]
    rw [cell_of_blk hh]
    rw [← ht, List.getElem?_take] at hj
    split at hj
    · simpa using hj
    · cases hj

theorem Has.sl_cell {sz : Nat} {A : Option Addr} {n : Nat} {vs : List Value} {w : World} (h : Has (sl sz A n vs) w) {j : Nat} {v : Value} (hn : n ≠ 0) (hj : vs[j]? = some v) : A = some ⟨ob A, oo A, none⟩ ∧ w.cell? ⟨ob A, oo A + j, none⟩ = some v := by
  obtain ⟨D, ⟨_, h2⟩, _⟩ := h
  exact ⟨(h2 hn).1, (h2 hn).2.2 j v hj⟩
theorem Has.sl_len {sz : Nat} {A : Option Addr} {n : Nat} {vs : List Value} {w : World} (h : Has (sl sz A n vs) w) : vs.length = n * sz := let ⟨_, h1, _⟩ := h; h1.1
theorem Has.sl_some {sz : Nat} {A : Option Addr} {n : Nat} {vs : List Value} {w : World} (h : Has (sl sz A n vs) w) (hn : n ≠ 0) : A = some ⟨ob A, oo A, none⟩ := let ⟨_, h1, _⟩ := h; (h1.2 hn).1
theorem Has.of_own {E : TypeId} {sz : Nat} {A : Option Addr} {n c : Nat} {vs : List Value} {w : World} (h : Has (own E sz A n c vs) w) : Has (sl sz A n vs) w := let ⟨D, h1, h2⟩ := h; ⟨D, own_sl h1, h2⟩

theorem set_range (f : Nat → Value) (n i : Nat) (v : Value) : (((List.range n).map f).toArray).setIfInBounds i v = ((List.range n).map (fun j => if j = i then v else f j)).toArray := by
  apply Array.ext'
  simp only [List.setIfInBounds_toArray]
  apply List.ext_getElem?
  intro j
  rw [List.getElem?_set]
  simp only [List.getElem?_map, List.length_map, List.length_range]
  by_cases hj : j < n
  · rw [List.getElem?_range hj]
    by_cases hij : i = j
    · subst hij; simp [hj]
    · simp [hij, Ne.symm hij]
  · rw [List.getElem?_eq_none (by simp; omega)]
    by_cases hij : i = j
    · subst hij; simp [hj]
    · simp [hij]
theorem rep_range (n : Nat) (v : Value) : (List.replicate n v).toArray = ((List.range n).map (fun _ => v)).toArray := by
  congr 1
  apply List.ext_getElem?
  intro j
  by_cases hj : j < n <;> simp [hj]

/-! ### Runs -/
section
variable {P : Program} {w : World}

theorem run_indexAt {T E sz by_ : Nat} {z : Value} [h : SlT P T E sz by_ z] {g o m c : Nat} {k : IntKind} {j : Int} (hj : 0 ≤ j ∧ j < m) :
    (Instr.indexAt T (.slice (some ⟨g, o, none⟩) m c) (.int k j)).run P w = .ok (.pointer (some ⟨g, o + j.toNat * sz, none⟩)) w := by
  obtain ⟨i, hi, hs, _⟩ := h.info
  simp only [Instr.indexAt, Sem.run_bind, asIntOf, Sem.run_pure, Result.andThen_ok, run_underlying h.under, if_pos hj, sizeOf, run_tinfo hi, hs, add_at]

theorem run_len {T E sz by_ : Nat} {z : Value} [h : SlT P T E sz by_ z] {A : Option Addr} {m c : Nat} {ty : TypeId} : (Builtin.len_ #[T] ty #[.slice A m c]).run P w = .ok (.int .i64 m) w := by
  simp [Builtin.len_, run_underlying h.under, goInt]

theorem run_zero {E : Nat} {i : TypeInfo} {z : Value} (hi : P.info? E = some i) (hz : i.zero = some z) : (zeroValue E).run P w = .ok z w := by
  simp only [zeroValue, Sem.run_bind, run_tinfo hi, Result.andThen_ok, hz, Sem.run_pure]

theorem run_makeSl {T E by_ : Nat} {z : Value} [h : SlT P T E 1 by_ z] (hz : oneCell z = true) {k k' : IntKind} {n : Int} (h0 : 0 ≤ n) (hb : (by_ : Int) * n ≤ 281474976710656) (hn : n ≤ 9223372036854775807) :
    (Instr.makeSlice T (.int k n) (.int k' n)).run P w = .ok (.slice (some ⟨w.heap.size, 0, none⟩) n.toNat n.toNat) (w.alloc (.cells (List.replicate n.toNat z).toArray E)) := by
  obtain ⟨i, hi, hs, hby, hz'⟩ := h.info
  have := run_make (P := P) w T E i z h.under hi hz' k k' n n h0 (Int.le_refl _) (by rw [hby]; exact hb) hn
  rw [this, cells_of_one hz, hs, Nat.mul_one]
  congr 3
  rw [← toList_madeCells_one]

/-- A type's zero value. -/
class ZeroT (P : Program) (T : TypeId) (z : outParam Value) : Prop where
  zero : (P.info? T).map (·.zero) = some (some z)
/-- A struct type: its fields' places and sizes, and its zero value. -/
class StructT (P : Program) (T : TypeId) (pl : outParam (List (Nat × Nat))) (z : outParam (List Value)) : Prop where
  built : ∀ (parts : List (Nat × Value)) (cells : Array Value), Instr.fill (pl.toArray[·]?) z.toArray parts = some cells → P.built T parts = some cells
theorem StructT.mk' {T : TypeId} {fs : Array Field} {pl : List (Nat × Nat)} {z : List Value} (hT : P.underlying T = some (.struct fs)) (hz : (P.info? T).map (·.zero) = some (some (.agg z.toArray)))
    (hp : fs.toList.mapM (fun f => (P.info? f.type).map fun i => (f.offset, i.size)) = some pl) : StructT P T pl z := by
  obtain ⟨i, hi, hz⟩ := info_of hz
  refine ⟨fun parts cells h => ?_⟩
  unfold Program.built
  simp only [hi, hT, hz, hp]
  exact h
end

section
variable {P : Program} {ops : Array Oper} {S : World → Prop} {K : Act → World → Prop} {p : Plan} {n : Nat} {l : List (Nat × Value)} {C : World → Prop} {fl : Bool} {i : Nat} {ty ty' ty2 ty3 : TypeId} {x y z : Operand}
variable {F : Nat → Prop} {w₀ : World} {L L' : List Atom}

theorem s_ia (d : Nat) {E sz by_ : Nat} {zv : Value} {g o m c : Nat} {k : IntKind} {j : Int} (ho : opAt ops n l i = some (some d, .indexAddr ty x y, ty2)) [SlT P ty E sz by_ zv] (hx : ev l x = some (.slice (some ⟨g, o, none⟩) m c)) (hy : ev l y = some (.int k j))
    (hj : 0 ≤ j ∧ j < m) (h : SX P ops S K p n ((d, (.pointer (some ⟨g, o + j.toNat * sz, none⟩))) :: l) C) : SX P ops S K (.st fl i p) n l C :=
  SX.pure ho (fun a w o he h1 _ => by simp only [execOp, h1, he.ev hx, he.ev hy, Sem.run_bind, run_indexAt hj, Result.andThen_ok, Sem.run_pure]) h
/-- At index q of a slice of one-cell elements from a block's head. -/
theorem s_ia0 (d q : Nat) {E by_ : Nat} {zv : Value} {g m c : Nat} {k : IntKind} {j : Int} (ho : opAt ops n l i = some (some d, .indexAddr ty x y, ty2)) [SlT P ty E 1 by_ zv] (hx : ev l x = some (.slice (some ⟨g, 0, none⟩) m c)) (hy : ev l y = some (.int k j))
    (hq : j = (q : Nat)) (hj : q < m) (h : SX P ops S K p n ((d, (.pointer (some ⟨g, q, none⟩))) :: l) C) : SX P ops S K (.st fl i p) n l C :=
  s_ia d ho hx hy (by omega) (by subst hq; simpa using h)
/-- At index q of a slice of one-cell elements. -/
theorem s_iaQ (d q : Nat) {E by_ : Nat} {zv : Value} {A : Option Addr} {m c : Nat} {k : IntKind} {j : Int} (ho : opAt ops n l i = some (some d, .indexAddr ty x y, ty2)) [SlT P ty E 1 by_ zv] (hx : ev l x = some (.slice A m c)) (hy : ev l y = some (.int k j))
    (hq : j = (q : Nat)) (hj : q < m) (hA : A = some ⟨ob A, oo A, none⟩) (h : SX P ops S K p n ((d, (.pointer (some ⟨ob A, oo A + q, none⟩))) :: l) C) : SX P ops S K (.st fl i p) n l C := by
  have e := s_ia d (P := P) (fl := fl) (g := ob A) (o := oo A) (m := m) (c := c) (k := k) (j := j) (S := S) (K := K) (p := p) (C := C) ho (by rw [← hA]; exact hx) hy (by omega)
  subst hq
  simp only [Int.toNat_natCast, Nat.mul_one] at e
  exact e h
theorem s_len (d : Nat) {E sz by_ : Nat} {zv : Value} {A : Option Addr} {m c : Nat} {T : TypeId} (ho : opAt ops n l i = some (some d, .call ⟨.builtin .len, #[x], #[T]⟩, ty)) [SlT P T E sz by_ zv] (hx : ev l x = some (.slice A m c))
    (h : SX P ops S K p n ((d, (.int .i64 m)) :: l) C) : SX P ops S K (.st fl i p) n l C :=
  SX.pure ho (fun a w o he h1 _ => by
    simp only [execOp, h1, resolve, Sem.run_bind, Sem.run_pure, Result.andThen_ok, invoke, builtin, List.map_toArray, List.map_cons, List.map_nil, he.ev hx, run_len]) h

/-- New memory: a block that the walk owns. -/
theorem s_new (d : Nat) {op : Op} {v : Nat → Value} {T : TypeId} {cs : Array Value} (ho : opAt ops n l i = some (some d, op, ty))
    (hrun : ∀ a w (o : Oper), Env n l a → o.op = op → o.type = ty → (execOp a.eval o).run P w = .ok (.value (v w.heap.size)) (w.alloc (.cells cs T)))
    (hS : ∀ w, St F w₀ L w → S w) (h : ∀ g, SX P ops S K p n ((d, (v g)) :: l) (St F w₀ (blk g T cs :: L))) : SX P ops S K (.st false i p) n l (St F w₀ L) :=
  SX.act (v := v) (C' := fun g => St F w₀ (blk g T cs :: L)) ho (fun a w o he hc h1 h2 => ⟨w.heap.size, _, .inl (hrun a w o he h1 h2), hc.alloc T cs⟩) (fun _ w hw => hS w ⟨hw.fr, hw.lt, hw.sep.tail⟩) h
theorem s_box (d : Nat) {v : Value} (ho : opAt ops n l i = some (some d, .box ty' x, ty)) (hx : ev l x = some v) (hS : ∀ w, St F w₀ L w → S w)
    (h : ∀ g, SX P ops S K p n ((d, (.pointer (some ⟨g, 0, none⟩))) :: l) (St F w₀ (blk g ty' v.cells :: L))) : SX P ops S K (.st false i p) n l (St F w₀ L) :=
  s_new d ho (fun a w o he h1 _ => by
    simp only [execOp, h1, he.ev hx, Sem.run_bind, Instr.box, newVar, newRow, run_newObj, Result.andThen_ok, Sem.run_pure]; rfl) hS h
theorem s_alloc (d : Nat) {zv : Value} (ho : opAt ops n l i = some (some d, .alloc ty', ty)) [hZ : ZeroT P ty' zv] (hS : ∀ w, St F w₀ L w → S w)
    (h : ∀ g, SX P ops S K p n ((d, (.pointer (some ⟨g, 0, none⟩))) :: l) (St F w₀ (blk g ty' zv.cells :: L))) : SX P ops S K (.st false i p) n l (St F w₀ L) :=
  s_new d ho (fun a w o he h1 _ => by
    obtain ⟨i, hi, hz⟩ := info_of hZ.zero
    simp only [execOp, h1, Sem.run_bind, Instr.alloc, run_zero hi hz, newVar, newRow, run_newObj, Result.andThen_ok, Sem.run_pure]; rfl) hS h
theorem s_make (d q : Nat) {E by_ : Nat} {zv : Value} {k k' : IntKind} {m : Int} (ho : opAt ops n l i = some (some d, .makeSlice ty' x y, ty)) [SlT P ty' E 1 by_ zv] (hx : ev l x = some (.int k m)) (hy : ev l y = some (.int k' m))
    (hq : m = (q : Nat)) (hz : oneCell zv = true) (hm : by_ * q ≤ 281474976710656 ∧ q ≤ 9223372036854775807) (hS : ∀ w, St F w₀ L w → S w)
    (h : ∀ g, SX P ops S K p n ((d, .slice (some ⟨g, 0, none⟩) q q) :: l) (St F w₀ (blk g E (List.replicate q zv).toArray :: L))) : SX P ops S K (.st false i p) n l (St F w₀ L) :=
  s_new d (v := fun g => .slice (some ⟨g, 0, none⟩) q q) ho (fun a w o he h1 _ => by
    subst hq
    have hb : (by_ : Int) * (q : Nat) ≤ 281474976710656 := by rw [← Int.natCast_mul]; omega
    have := run_makeSl (P := P) (w := w) (T := ty') (k := k) (k' := k') hz (n := (q : Nat)) (by omega) hb (by omega)
    rw [Int.toNat_natCast] at this
    simp only [execOp, h1, he.ev hx, he.ev hy, Sem.run_bind, this, Result.andThen_ok, Sem.run_pure]) hS h
theorem s_build (d : Nat) {pl : List (Nat × Nat)} {zs : List Value} {ps : Array (Nat × Operand)} {vs : List Value} {cells : Array Value} (ho : opAt ops n l i = some (some d, .build ty' ps, ty)) [hs : StructT P ty' pl zs] (hx : evs l (ps.toList.map (·.2)) = some vs)
    (hf : Instr.fill (pl.toArray[·]?) zs.toArray ((ps.toList.map (·.1)).zip vs) = some cells) (h : SX P ops S K p n ((d, (.agg cells)) :: l) C) : SX P ops S K (.st fl i p) n l C :=
  SX.pure ho (fun a w o he h1 _ => by
    have e1 : (ps.map fun (q : Nat × Operand) => (q.1, a.eval q.2)).toList = (ps.toList.map (·.1)).zip vs := by
      rw [← he.evs hx, Array.toList_map, List.map_map]
      generalize ps.toList = qs
      induction qs with
      | nil => rfl
      | cons q r ih => simp [ih]
    have e2 := run_build (P := P) w ty' (ps.map fun (q : Nat × Operand) => (q.1, a.eval q.2)) cells (by rw [e1]; exact hs.built _ _ hf)
    simp only [execOp, h1, Sem.run_bind, e2, Result.andThen_ok, Sem.run_pure]) h
theorem run_buildSl {T E sz by_ : Nat} {zv : Value} [h : SlT P T E sz by_ zv] {len : Nat} {parts : Array (Nat × Value)} {cells : Array Value} {w : World} (hlen : len * sz ≤ 16777216) (h0 : len * sz ≠ 0) (hf : Instr.fill (fun i => some (i * sz, sz)) (madeCells zv.cells (len * sz)) parts.toList = some cells) :
    (Instr.buildSlice T len parts).run P w = .ok (.slice (some ⟨w.heap.size, 0, none⟩) len len) (w.alloc (.cells cells E)) := by
  obtain ⟨i, hi, hs, _, hz⟩ := h.info
  have h1 : ¬ (len * sz > 2 ^ 24) := by omega
  have hf' := hf
  unfold madeCells at hf'
  simp only [Instr.buildSlice, Sem.run_bind, run_underlying h.under, Result.andThen_ok, sizeOf, run_tinfo hi, hs, Sem.run_pure, if_neg h1, if_neg h0, run_zero hi hz, hf', newRow, run_newObj]
  rfl
/-- A slice written out. -/
theorem s_bsl (d : Nat) {E sz by_ len : Nat} {zv : Value} {ps : Array (Nat × Operand)} {vs : List Value} {cells : Array Value} (ho : opAt ops n l i = some (some d, .buildSlice ty' len ps, ty)) [SlT P ty' E sz by_ zv] (hx : evs l (ps.toList.map (·.2)) = some vs)
    (hf : Instr.fill (fun i => some (i * sz, sz)) (madeCells zv.cells (len * sz)) ((ps.toList.map (·.1)).zip vs) = some cells) (hb : (Nat.ble (len * sz) 16777216 && Nat.blt 0 (len * sz)) = true) (hS : ∀ w, St F w₀ L w → S w)
    (h : ∀ g, SX P ops S K p n ((d, .slice (some ⟨g, 0, none⟩) len len) :: l) (St F w₀ (blk g E cells :: L))) : SX P ops S K (.st false i p) n l (St F w₀ L) :=
  s_new d (v := fun g => .slice (some ⟨g, 0, none⟩) len len) ho (fun a w o he h1 _ => by
    have e1 : (ps.map fun (q : Nat × Operand) => (q.1, a.eval q.2)).toList = (ps.toList.map (·.1)).zip vs := by
      rw [← he.evs hx, Array.toList_map, List.map_map]
      generalize ps.toList = qs
      induction qs with
      | nil => rfl
      | cons q r ih => simp [ih]
    rw [Bool.and_eq_true] at hb
    have hb2 : 0 < len * sz := Nat.le_of_ble_eq_true hb.2
    have e2 := run_buildSl (P := P) (w := w) (T := ty') (parts := ps.map fun (q : Nat × Operand) => (q.1, a.eval q.2)) (cells := cells) (len := len) (Nat.le_of_ble_eq_true hb.1) (by omega) (by rw [e1]; exact hf)
    simp only [execOp, h1, Sem.run_bind, e2, Result.andThen_ok, Sem.run_pure]) hS h
/-- A store into a block that the walk owns. -/
theorem s_stB (q : Nat) {g o T : Nat} {cs : Array Value} {v : Value} (hi : L[q]? = some (blk g T cs)) (ho : opAt ops n l i = some (none, .store ty x y, ty2)) [One P ty] (hx : ev l x = some (.pointer (some ⟨g, o, none⟩))) (hy : ev l y = some v) (hv : oneCell v = true)
    (hlt : o < cs.size) (hS : ∀ w, St F w₀ (L.set q (blk g T (cs.setIfInBounds o v))) w → S w) (h : SX P ops S K p n (l) (St F w₀ (L.set q (blk g T (cs.setIfInBounds o v))))) : SX P ops S K (.st false i p) n l (St F w₀ L) :=
  s_st ho hx hy hv (fun _ hw => ⟨⟨_, hw.blkCell hi (Array.getElem?_eq_getElem hlt)⟩, hw.blkFree hi o, hw.blkSet hi o v⟩) hS h
theorem s_ldB (d : Nat) (q : Nat) {g o T : Nat} {cs : Array Value} {v : Value} (hi : L[q]? = some (blk g T cs)) (ho : opAt ops n l i = some (some d, .load ty x, ty2)) [One P ty] (hx : ev l x = some (.pointer (some ⟨g, o, none⟩))) (hv : cs[o]? = some v)
    (h : SX P ops S K p n ((d, v) :: l) (St F w₀ L)) : SX P ops S K (.st false i p) n l (St F w₀ L) :=
  s_ld d ho hx (fun _ hw => hw.blkCell hi hv) h
end
end Go.Sx
