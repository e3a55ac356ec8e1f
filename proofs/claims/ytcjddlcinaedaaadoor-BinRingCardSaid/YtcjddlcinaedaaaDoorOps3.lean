/- Operations on interface values, arrays and whole variables, for the symbolic walk, over any program. No condition. -/
import Derived.Test.YtcjddlcinaedaaaDoorOps2
import Derived.LaidEql
namespace Go.Sx
open Go

/-- An interface's type. -/
class IfT (P : Program) (T : TypeId) : Prop where
  under : P.underlying T = some (.interface (P.methodsAt T))
class PtrT (P : Program) (T : TypeId) : Prop where
  under : ∃ e, P.underlying T = some (.pointer e)
/-- A pointer's type, as one of an error's. -/
class PtrE (P : Program) (T : TypeId) : Prop where
  under : ∃ te j i, P.underlying T = some (.pointer te) ∧ P.info? te = some j ∧ P.info? T = some i ∧ i.comparable = true
theorem PtrE.mk' {P : Program} {T te : TypeId} (hT : P.underlying T = some (.pointer te)) (hj : (P.info? te).isSome = true) (hi : (P.info? T).map (·.comparable) = some true) : PtrE P T := by
  obtain ⟨i, h1, h2⟩ := info_of hi
  obtain ⟨j, h3⟩ := Option.isSome_iff_exists.1 hj
  exact ⟨te, j, i, hT, h3, h1, h2⟩
/-- A type whose values may lie in an interface: no interface itself. -/
class ConT (P : Program) (T : TypeId) : Prop where
  under : ∃ d, P.underlying T = some d ∧ (match d with | .interface _ => true | _ => false) = false
/-- An array's type. -/
class ArrT (P : Program) (T : TypeId) (E : outParam TypeId) (m sz : outParam Nat) (z : outParam (List Value)) : Prop where
  under : P.underlying T = some (.array m E)
  elem : ∃ i, P.info? E = some i ∧ i.size = sz
  built : ∀ (parts : List (Nat × Value)) (cells : Array Value), Instr.fill (fun i => some (i * sz, sz)) z.toArray parts = some cells → P.built T parts = some cells
  size : ∃ i, P.info? T = some i ∧ i.size = m * sz ∧ i.zero = some (.agg z.toArray)
theorem ArrT.mk' {P : Program} {T E m sz : Nat} {z : List Value} (hT : P.underlying T = some (.array m E)) (hE : (P.info? E).map (·.size) = some sz) (hz : (P.info? T).map (fun i => (i.size, i.zero)) = some (m * sz, some (.agg z.toArray))) : ArrT P T E m sz z := by
  obtain ⟨i, hi, hs⟩ := info_of hE
  obtain ⟨j, hj, hzz⟩ := info_of hz
  simp only [Prod.mk.injEq] at hzz
  refine ⟨hT, ⟨i, hi, hs⟩, fun parts cells h => ?_, ⟨j, hj, hzz.1, hzz.2⟩⟩
  unfold Program.built
  simp only [hj, hT, hzz.2, hi, hs]
  exact h

section
variable {P : Program} {w : World}

theorem eqGuard_nil (op : BinOp) (T : TypeId) (x : Operand) : (eqGuard op T x (.const .nilIface) .nilIface .nilIface).run P w = .ok () w := by
  unfold eqGuard
  cases op <;> first | rfl | (cases x <;> rfl)
theorem eqGuard_held (op : BinOp) (T u : TypeId) (x y : Operand) (v b : Value) : (eqGuard op T x y (.iface u v) b).run P w = .ok () w := by
  unfold eqGuard
  cases op <;> first | rfl | (cases b <;> rfl)

theorem run_indexArr {T E m sz : Nat} {z : List Value} [h : ArrT P T E m sz z] {g o : Nat} {k : IntKind} {j : Int} (hj : 0 ≤ j ∧ j < m) :
    (Instr.indexAt T (.pointer (some ⟨g, o, none⟩)) (.int k j)).run P w = .ok (.pointer (some ⟨g, o + j.toNat * sz, none⟩)) w := by
  obtain ⟨i, hi, hs⟩ := h.elem
  simp only [Instr.indexAt, Sem.run_bind, asIntOf, Sem.run_pure, Result.andThen_ok, run_underlying h.under, Instr.sureAddr, if_pos hj, sizeOf, run_tinfo hi, hs, add_at]

/-- A whole variable of several cells is stored. -/
theorem run_storeAll {T : TypeId} {g T' : Nat} {cs vs : Array Value} {i : TypeInfo} (hi : P.info? T = some i) (hs : i.size = vs.size) (hlen : vs.size = cs.size) (h1 : ∀ v ∈ vs.toList, v.oneCell' = true)
    (hh : w.heap[g]? = some (.cells cs T' (0, 0))) : (Instr.storeAt T (.pointer (some ⟨g, 0, none⟩)) (.agg vs)).run P w = .ok () (w.setRow g vs) := by
  have h2 := run_storeCells_at (P := P) g 0 T' vs.toList 0 cs w hh (by simp; omega) h1
  have e : (cs.toList.take (0 + 0) ++ vs.toList ++ cs.toList.drop (0 + 0 + vs.toList.length)).toArray = vs := by
    simp [List.drop_eq_nil_of_le, hlen]
  rw [e] at h2
  simp only [Instr.storeAt, Instr.sureAddr, Sem.run_bind, Sem.run_pure, Result.andThen_ok, storeVar, Value.cells, sizeOf, run_tinfo hi, hs]
  simp [h2]
end

section
variable {P : Program} {ops : Array Oper} {S : World → Prop} {K : Act → World → Prop} {p : Plan} {n : Nat} {l : List (Nat × Value)} {C : World → Prop} {fl : Bool} {i : Nat} {ty ty' ty2 ty3 : TypeId} {x y z : Operand}
variable {F : Nat → Prop} {w₀ : World} {L L' : List Atom}

theorem St.setAll {q g T : Nat} {cs : Array Value} (hi : L[q]? = some (blk g T cs)) (vs : Array Value) {w : World} (h : St F w₀ L w) : St F w₀ (L.set q (blk g T vs)) (w.setRow g vs) := by
  obtain ⟨D, ⟨h1, h2⟩, h3, h4⟩ := h.work hi
  refine h4 _ _ D ⟨rfl, rfl, rfl, by simp [World.setRow], fun k hk => ?_⟩ ⟨h1, ?_⟩ (fun k hk => ⟨.inl hk, by simp [World.setRow]; exact h3 k hk⟩)
  · have : k ≠ g := fun e => hk.2 ((h1 k).2 e)
    simp [World.setRow, Array.getElem?_modify, Ne.symm this]
  · simp [World.setRow, Array.getElem?_modify, h2]
/-- A whole variable of several cells is stored into a block of the walk's own. -/
theorem s_stAll (q : Nat) {g T : Nat} {cs vs : Array Value} (hi : L[q]? = some (blk g T cs)) (ho : opAt ops n l i = some (none, .store ty x y, ty2)) (hz : (P.info? ty).map (·.size) = some vs.size) (hx : ev l x = some (.pointer (some ⟨g, 0, none⟩))) (hy : ev l y = some (.agg vs))
    (hlen : vs.size = cs.size) (hv : vs.toList.all (·.oneCell') = true) (hS : ∀ w, St F w₀ (L.set q (blk g T vs)) w → S w) (h : SX P ops S K p n l (St F w₀ (L.set q (blk g T vs)))) : SX P ops S K (.st false i p) n l (St F w₀ L) := by
  obtain ⟨it, hit, hsz⟩ := info_of hz
  refine SX.act (d := none) (X := Unit) (v := fun _ => undef) (C' := fun _ => St F w₀ (L.set q (blk g T vs))) ho (fun a w o he hw h1 _ => ?_) (fun _ => hS) (fun _ => h)
  obtain ⟨D, ⟨_, h2⟩, _⟩ := hw.sep.at_ hi
  exact ⟨(), w.setRow g vs, .inr ⟨by simp only [execOp, h1, he.ev hx, he.ev hy, Sem.run_bind, run_storeAll hit hsz hlen (List.all_eq_true.1 hv) h2, Result.andThen_ok, Sem.run_pure], rfl⟩, hw.setAll hi vs⟩

theorem s_eqNN (d : Nat) (ho : opAt ops n l i = some (some d, .binOp .eql ty x (.const .nilIface) ty', ty2)) [hI : IfT P ty] (hx : ev l x = some .nilIface) (h : SX P ops S K p n ((d, .bool true) :: l) C) : SX P ops S K (.st fl i p) n l C :=
  SX.pure ho (fun a w o he h1 _ => by
    have e : a.eval (.const .nilIface) = .nilIface := rfl
    simp only [execOp, h1, he.ev hx, e, Sem.run_bind, eqGuard_nil, run_eql_nil_nil _ _ hI.under, Result.andThen_ok, Sem.run_pure]) h
theorem s_neNN (d : Nat) (ho : opAt ops n l i = some (some d, .binOp .neq ty x (.const .nilIface) ty', ty2)) [hI : IfT P ty] (hx : ev l x = some .nilIface) (h : SX P ops S K p n ((d, .bool false) :: l) C) : SX P ops S K (.st fl i p) n l C :=
  SX.pure ho (fun a w o he h1 _ => by
    have e : a.eval (.const .nilIface) = .nilIface := rfl
    simp only [execOp, h1, he.ev hx, e, Sem.run_bind, eqGuard_nil, run_neq_nil_nil _ _ hI.under, Result.andThen_ok, Sem.run_pure]) h
theorem s_eqHN (d : Nat) {u : TypeId} {v : Value} (ho : opAt ops n l i = some (some d, .binOp .eql ty x (.const .nilIface) ty', ty2)) [hI : IfT P ty] (hx : ev l x = some (.iface u v)) (h : SX P ops S K p n ((d, .bool false) :: l) C) : SX P ops S K (.st fl i p) n l C :=
  SX.pure ho (fun a w o he h1 _ => by
    have e : a.eval (.const .nilIface) = .nilIface := rfl
    simp only [execOp, h1, he.ev hx, e, Sem.run_bind, eqGuard_held, run_eql_held_nil _ _ _ _ hI.under, Result.andThen_ok, Sem.run_pure]) h
theorem s_neHN (d : Nat) {u : TypeId} {v : Value} (ho : opAt ops n l i = some (some d, .binOp .neq ty x (.const .nilIface) ty', ty2)) [hI : IfT P ty] (hx : ev l x = some (.iface u v)) (h : SX P ops S K p n ((d, .bool true) :: l) C) : SX P ops S K (.st fl i p) n l C :=
  SX.pure ho (fun a w o he h1 _ => by
    have e : a.eval (.const .nilIface) = .nilIface := rfl
    simp only [execOp, h1, he.ev hx, e, Sem.run_bind, eqGuard_held, run_neq_held_nil _ _ _ _ hI.under, Result.andThen_ok, Sem.run_pure]) h
/-- A pointer's type. -/
theorem eqGuard_ptr (op : BinOp) (T : TypeId) (x y : Operand) (a : Option Addr) (b : Value) {w : World} : (eqGuard op T x y (.pointer a) b).run P w = .ok () w := by
  unfold eqGuard
  cases op <;> first | rfl | (cases b <;> rfl)
theorem s_eqPN (d : Nat) {a0 : Addr} (ho : opAt ops n l i = some (some d, .binOp .eql ty x (.const (.pointer none)) ty', ty2)) [hP : PtrT P ty] (hx : ev l x = some (.pointer (some a0))) (h : SX P ops S K p n ((d, .bool false) :: l) C) : SX P ops S K (.st fl i p) n l C :=
  SX.pure ho (fun a w o he h1 _ => by
    obtain ⟨e, hu⟩ := hP.under
    have e1 : a.eval (.const (.pointer none)) = .pointer none := rfl
    have e2 : (binOp .eql ty (.pointer (some a0)) (.pointer none)).run P w = .ok (.bool false) w := by
      simp only [binOp, Op.equal, Op.maxDepth, Sem.run_bind]
      rw [Op.equalIn]
      simp [run_underlying hu]
    simp only [execOp, h1, he.ev hx, e1, Sem.run_bind, eqGuard_ptr, e2, Result.andThen_ok, Sem.run_pure]) h
theorem s_nePN (d : Nat) {a0 : Addr} (ho : opAt ops n l i = some (some d, .binOp .neq ty x (.const (.pointer none)) ty', ty2)) [hP : PtrT P ty] (hx : ev l x = some (.pointer (some a0))) (h : SX P ops S K p n ((d, .bool true) :: l) C) : SX P ops S K (.st fl i p) n l C :=
  SX.pure ho (fun a w o he h1 _ => by
    obtain ⟨e, hu⟩ := hP.under
    have e1 : a.eval (.const (.pointer none)) = .pointer none := rfl
    have e2 : (binOp .neq ty (.pointer (some a0)) (.pointer none)).run P w = .ok (.bool true) w := by
      simp only [binOp, Op.equal, Op.maxDepth, Sem.run_bind]
      rw [Op.equalIn]
      simp [run_underlying hu]
    simp only [execOp, h1, he.ev hx, e1, Sem.run_bind, eqGuard_ptr, e2, Result.andThen_ok, Sem.run_pure]) h
theorem s_eqPNn (d : Nat) (ho : opAt ops n l i = some (some d, .binOp .eql ty x (.const (.pointer none)) ty', ty2)) [hP : PtrT P ty] (hx : ev l x = some (.pointer none)) (h : SX P ops S K p n ((d, .bool true) :: l) C) : SX P ops S K (.st fl i p) n l C :=
  SX.pure ho (fun a w o he h1 _ => by
    obtain ⟨e, hu⟩ := hP.under
    have e1 : a.eval (.const (.pointer none)) = .pointer none := rfl
    have e2 : (binOp .eql ty (.pointer none) (.pointer none)).run P w = .ok (.bool true) w := by
      simp only [binOp, Op.equal, Op.maxDepth, Sem.run_bind]
      rw [Op.equalIn]
      simp [run_underlying hu]
    simp only [execOp, h1, he.ev hx, e1, Sem.run_bind, eqGuard_ptr, e2, Result.andThen_ok, Sem.run_pure]) h
/-- Two errors that are one pointer. -/
theorem s_eqE (d : Nat) {tp : TypeId} {a0 : Addr} (ho : opAt ops n l i = some (some d, .binOp .eql ty x y ty', ty2)) [hI : IfT P ty] [hP : PtrE P tp] (hx : ev l x = some (.iface tp (.pointer (some a0)))) (hy : ev l y = some (.iface tp (.pointer (some a0)))) (h : SX P ops S K p n ((d, .bool true) :: l) C) : SX P ops S K (.st fl i p) n l C :=
  SX.pure ho (fun a w o he h1 _ => by
    obtain ⟨te, j, i, h2, h3, h4, h5⟩ := hP.under
    have e2 := run_eql_iface_ptr_same (P := P) (w := w) (ti := ty) (tp := tp) a0 hI.under h2 h4 h5 h3
    simp only [execOp, h1, he.ev hx, he.ev hy, Sem.run_bind, eqGuard_held, e2, Result.andThen_ok, Sem.run_pure]) h
theorem s_mki (d : Nat) {v : Value} (ho : opAt ops n l i = some (some d, .makeInterface ty x, ty2)) [hc : ConT P ty] (hx : ev l x = some v) (h : SX P ops S K p n ((d, .iface ty v) :: l) C) : SX P ops S K (.st fl i p) n l C :=
  SX.pure ho (fun a w o he h1 _ => by
    obtain ⟨e, hu, hd⟩ := hc.under
    cases e <;> first | (cases hd; done) | simp only [execOp, h1, he.ev hx, Instr.makeInterface, Sem.run_bind, run_underlying hu, Result.andThen_ok, Sem.run_pure]) h
/-- An element's address in an array. -/
theorem s_iaR (d q : Nat) {E m sz : Nat} {zs : List Value} {g o : Nat} {k : IntKind} {j : Int} (ho : opAt ops n l i = some (some d, .indexAddr ty x y, ty2)) [ArrT P ty E m sz zs] (hx : ev l x = some (.pointer (some ⟨g, o, none⟩))) (hy : ev l y = some (.int k j))
    (hq : j = (q : Nat)) (hj : q < m) (h : SX P ops S K p n ((d, .pointer (some ⟨g, o + q * sz, none⟩)) :: l) C) : SX P ops S K (.st fl i p) n l C :=
  SX.pure ho (fun a w o' he h1 _ => by
    subst hq
    have := run_indexArr (P := P) (w := w) (T := ty) (g := g) (o := o) (k := k) (j := (q : Nat)) (by omega)
    simp only [execOp, h1, he.ev hx, he.ev hy, Sem.run_bind, this, Int.toNat_natCast, Result.andThen_ok, Sem.run_pure]) h
theorem s_buildA (d : Nat) {E m sz : Nat} {zs : List Value} {ps : Array (Nat × Operand)} {vs : List Value} {cells : Array Value} (ho : opAt ops n l i = some (some d, .build ty' ps, ty)) [hs : ArrT P ty' E m sz zs] (hx : evs l (ps.toList.map (·.2)) = some vs)
    (hf : Instr.fill (fun i => some (i * sz, sz)) zs.toArray ((ps.toList.map (·.1)).zip vs) = some cells) (h : SX P ops S K p n ((d, .agg cells) :: l) C) : SX P ops S K (.st fl i p) n l C :=
  SX.pure ho (fun a w o he h1 _ => by
    have e1 : (ps.map fun (q : Nat × Operand) => (q.1, a.eval q.2)).toList = (ps.toList.map (·.1)).zip vs := by
      rw [← he.evs hx, Array.toList_map, List.map_map]
      generalize ps.toList = qs
      induction qs with
      | nil => rfl
      | cons q r ih => simp [ih]
    have e2 := run_build (P := P) w ty' (ps.map fun (q : Nat × Operand) => (q.1, a.eval q.2)) cells (by rw [e1]; exact hs.built _ _ hf)
    simp only [execOp, h1, Sem.run_bind, e2, Result.andThen_ok, Sem.run_pure]) h
end
end Go.Sx
