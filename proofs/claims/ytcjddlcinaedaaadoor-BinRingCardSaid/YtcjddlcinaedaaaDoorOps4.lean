/- More operations for the symbolic walk, over any program: truth values, errors that differ, whole variables that are loaded, results that lie in memory. No condition. -/
import Derived.Test.YtcjddlcinaedaaaDoorOps3
namespace Go.Sx
open Go

class BoolT (P : Program) (T : TypeId) : Prop where
  under : P.underlying T = some .bool
/-- A type of a row of cells. -/
class RowT (P : Program) (T : TypeId) (n : outParam Nat) : Prop where
  agg : ∀ w, (isAgg T).run P w = .ok true w
  size : ∀ w, (sizeOf T).run P w = .ok n w
theorem RowT.mk' {P : Program} {T n : Nat} {d : TypeDesc} (hT : P.underlying T = some d) (hd : isRow d = true) (hi : (P.info? T).map (·.size) = some n) : RowT P T n := by
  obtain ⟨i, hi, hs⟩ := info_of hi
  refine ⟨fun w => ?_, fun w => ?_⟩
  · simp only [isAgg, Sem.run_bind, run_underlying hT, Result.andThen_ok]
    cases d <;> first | rfl | (cases hd; done)
  · simp only [sizeOf, Sem.run_bind, run_tinfo hi, Sem.run_pure, Result.andThen_ok, hs]
/-- A pointer's type that points at something. -/
class PtrD (P : Program) (T : TypeId) : Prop where
  under : ∃ te j i, P.underlying T = some (.pointer te) ∧ P.info? te = some j ∧ j.size ≠ 0 ∧ P.info? T = some i ∧ i.comparable = true
theorem PtrD.mk' {P : Program} {T te : TypeId} (hT : P.underlying T = some (.pointer te)) (hj : (P.info? te).map (fun i => i.size == 0) = some false) (hi : (P.info? T).map (·.comparable) = some true) : PtrD P T := by
  obtain ⟨i, h1, h2⟩ := info_of hi
  obtain ⟨j, h3, h4⟩ := info_of hj
  exact ⟨te, j, i, hT, h3, by simpa using h4, h1, h2⟩

section
variable {P : Program} {w : World}
theorem eqGuard_bool (op : BinOp) (T : TypeId) (x y : Operand) (a : Bool) (b : Value) : (eqGuard op T x y (.bool a) b).run P w = .ok () w := by
  unfold eqGuard
  cases op <;> first | rfl | (cases b <;> rfl)
theorem run_loadVarR {T n g o : Nat} {cs : List Value} [h1 : RowT P T n] (hn : cs.length = n) (hc : ∀ j v, cs[j]? = some v → w.cell? ⟨g, o + j, none⟩ = some v) :
    (loadVar T ⟨g, o, none⟩).run P w = .ok (.agg cs.toArray) w := by
  have hl : (loadCells ⟨g, o, none⟩ n).run P w = .ok cs.toArray w := by
    rw [← hn]
    exact run_loadCells_list (P := P) w ⟨g, o, none⟩ cs (fun j v hv => by rw [add_at]; exact hc j v hv)
  simp only [loadVar, Sem.run_bind, h1.agg, Result.andThen_ok, if_true, h1.size, hl]
  simp
theorem run_loadVar1 {T : TypeId} [h1 : One P T] {a : Addr} {v : Value} (hc : w.cell? a = some v) : (loadVar T a).run P w = .ok v w := by
  simp only [loadVar, h1.agg, Sem.run_bind, Result.andThen_ok, Bool.false_eq_true, if_false]
  simp only [load, Sem.run, hc]
theorem run_loadRow {T n g o : Nat} {cs : List Value} [h1 : RowT P T n] (hn : cs.length = n) (hc : ∀ j v, cs[j]? = some v → w.cell? ⟨g, o + j, none⟩ = some v) :
    (Instr.loadAt T (.pointer (some ⟨g, o, none⟩))).run P w = .ok (.agg cs.toArray) w := by
  simp only [Instr.loadAt, Instr.sureAddr, Sem.run_bind, Sem.run_pure, Result.andThen_ok, run_loadVarR hn hc]
end

section
variable {P : Program} {ops : Array Oper} {S : World → Prop} {K : Act → World → Prop} {p : Plan} {n : Nat} {l : List (Nat × Value)} {C : World → Prop} {fl : Bool} {i : Nat} {ty ty' ty2 ty3 : TypeId} {x y z : Operand}
variable {F : Nat → Prop} {w₀ : World} {L L' : List Atom}

theorem s_eqB (d : Nat) {a b r : Bool} (ho : opAt ops n l i = some (some d, .binOp .eql ty x y ty', ty2)) [hT : BoolT P ty] (hx : ev l x = some (.bool a)) (hy : ev l y = some (.bool b)) (hr : (a == b) = r)
    (h : SX P ops S K p n ((d, .bool r) :: l) C) : SX P ops S K (.st fl i p) n l C :=
  SX.pure ho (fun a w o he h1 _ => by
    subst hr
    simp only [execOp, h1, he.ev hx, he.ev hy, Sem.run_bind, eqGuard_bool, run_eql_bool w ty _ _ hT.under, Result.andThen_ok, Sem.run_pure]) h
theorem s_neB (d : Nat) {a b r : Bool} (ho : opAt ops n l i = some (some d, .binOp .neq ty x y ty', ty2)) [hT : BoolT P ty] (hx : ev l x = some (.bool a)) (hy : ev l y = some (.bool b)) (hr : (!(a == b)) = r)
    (h : SX P ops S K p n ((d, .bool r) :: l) C) : SX P ops S K (.st fl i p) n l C :=
  SX.pure ho (fun a w o he h1 _ => by
    subst hr
    simp only [execOp, h1, he.ev hx, he.ev hy, Sem.run_bind, eqGuard_bool, run_neq_bool w ty _ _ hT.under, Result.andThen_ok, Sem.run_pure]) h
/-- One error twice: not unequal. -/
theorem s_neE (d : Nat) {tp : TypeId} {a0 : Addr} (ho : opAt ops n l i = some (some d, .binOp .neq ty x y ty', ty2)) [hI : IfT P ty] [hP : PtrE P tp] (hx : ev l x = some (.iface tp (.pointer (some a0)))) (hy : ev l y = some (.iface tp (.pointer (some a0)))) (h : SX P ops S K p n ((d, .bool false) :: l) C) : SX P ops S K (.st fl i p) n l C :=
  SX.pure ho (fun a w o he h1 _ => by
    obtain ⟨te, j, i, h2, h3, h4, h5⟩ := hP.under
    have e2 : (binOp .neq ty (.iface tp (.pointer (some a0))) (.iface tp (.pointer (some a0)))).run P w = .ok (.bool false) w := by
      simp only [binOp]
      simp [Op.equal, Op.maxDepth, run_equalIn_iface_ptr_same w 9998 a0 hI.under h2 h4 h5 h3]
    simp only [execOp, h1, he.ev hx, he.ev hy, Sem.run_bind, eqGuard_held, e2, Result.andThen_ok, Sem.run_pure]) h
/-- A block is there. -/
def Live (a : Addr) (w : World) : Prop := ∃ c t, w.heap[a.block]? = some (.cells c t (0, 0))
/-- Two errors that are two pointers. -/
theorem s_eqD (d : Nat) {tp : TypeId} {a0 b0 : Addr} (ho : opAt ops n l i = some (some d, .binOp .eql ty x y ty', ty2)) [hI : IfT P ty] [hP : PtrD P tp] (hx : ev l x = some (.iface tp (.pointer (some a0)))) (hy : ev l y = some (.iface tp (.pointer (some b0))))
    (hne : a0 ≠ b0) (hl : ∀ w, C w → Live a0 w ∧ Live b0 w) (h : SX P ops S K p n ((d, .bool false) :: l) C) : SX P ops S K (.st false i p) n l C :=
  SX.val ho (fun a w o he _ hs h1 _ => by
    obtain ⟨te, j, i, h2, h3, h6, h4, h5⟩ := hP.under
    obtain ⟨⟨ca, ta, ha⟩, cb, tb, hb⟩ := hl w (hs rfl)
    have e2 := run_eql_iface_ptr_other w hI.under h2 h4 h5 h3 h6 hne ha hb
    simp only [execOp, h1, he.ev hx, he.ev hy, Sem.run_bind, eqGuard_held, e2, Result.andThen_ok, Sem.run_pure]) h
/-- A whole variable of several cells is loaded. -/
theorem s_ldR (d : Nat) {m g o : Nat} {cs : List Value} (ho : opAt ops n l i = some (some d, .load ty x, ty2)) [RowT P ty m] (hx : ev l x = some (.pointer (some ⟨g, o, none⟩))) (hn : cs.length = m) (hc : ∀ w, C w → ∀ j v, cs[j]? = some v → w.cell? ⟨g, o + j, none⟩ = some v)
    (h : SX P ops S K p n ((d, .agg cs.toArray) :: l) C) : SX P ops S K (.st false i p) n l C :=
  SX.val ho (fun a w o he _ hs h1 _ => by simp only [execOp, h1, he.ev hx, Sem.run_bind, run_loadRow hn (hc w (hs rfl)), Result.andThen_ok, Sem.run_pure]) h
theorem s_ldRS (d : Nat) {m g o : Nat} {cs : List Value} (ho : opAt ops n l i = some (some d, .load ty x, ty2)) [RowT P ty m] (hx : ev l x = some (.pointer (some ⟨g, o, none⟩))) (hn : cs.length = m) (hc : ∀ w, S w → ∀ j v, cs[j]? = some v → w.cell? ⟨g, o + j, none⟩ = some v)
    (h : SX P ops S K p n ((d, .agg cs.toArray) :: l) C) : SX P ops S K (.st true i p) n l C :=
  SX.val ho (fun a w o he hs _ h1 _ => by simp only [execOp, h1, he.ev hx, Sem.run_bind, run_loadRow hn (hc w (hs rfl)), Result.andThen_ok, Sem.run_pure]) h
theorem St.blkRow {i g T : Nat} {cs : Array Value} {w : World} (hi : L[i]? = some (blk g T cs)) (h : St F w₀ L w) : ∀ j v, cs.toList[j]? = some v → w.cell? ⟨g, 0 + j, none⟩ = some v := by
  intro j v hj
  rw [Nat.zero_add]
  exact h.blkCell hi (by simpa using hj)
/-- A block of the walk's own, loaded whole. -/
theorem s_ldW (d q : Nat) {g T : Nat} {cs : Array Value} (hi : L[q]? = some (blk g T cs)) (ho : opAt ops n l i = some (some d, .load ty x, ty2)) [RowT P ty cs.size] (hx : ev l x = some (.pointer (some ⟨g, 0, none⟩)))
    (h : SX P ops S K p n ((d, .agg cs) :: l) (St F w₀ L)) : SX P ops S K (.st false i p) n l (St F w₀ L) :=
  s_ldR d (cs := cs.toList) ho hx (by simp) (fun w hw => hw.blkRow hi) (by simpa using h)
end

/-! ### Results that lie in memory -/
def ResAt (P : Program) (l : List (Nat × Value)) (w : World) : List ResultVar → List Value → Prop
  | [], [] => True
  | .tmp t :: r, v :: vs => lk t l = some v ∧ ResAt P l w r vs
  | .cell b t :: r, v :: vs => (∃ a, lk b l = some (.pointer (some a)) ∧ (loadVar t a).run P w = .ok v w) ∧ ResAt P l w r vs
  | _, _ => False
theorem resAt_run {P : Program} {n : Nat} {l : List (Nat × Value)} {a : Act} {w : World} (he : Env n l a) : ∀ (rs : List ResultVar) (vs : List Value), ResAt P l w rs vs → (rs.mapM (resVal a)).run P w = .ok vs w
  | [], [], _ => rfl
  | .tmp t :: r, v :: vs, h => by
    have hv : a.tmps.getD t undef = v := he.ev (x := .tmp t) h.1
    simp only [List.mapM_cons, resVal, hv, Sem.run_bind, resAt_run he r vs h.2, Sem.run_pure, Result.andThen_ok]
  | .cell b t :: r, v :: vs, ⟨⟨ad, h1, h2⟩, h3⟩ => by
    have hv : a.tmps.getD b undef = .pointer (some ad) := he.ev (x := .tmp b) h1
    simp only [List.mapM_cons, resVal, hv, asAddr, Sem.run_bind, resAt_run he r vs h3, Sem.run_pure, Result.andThen_ok, h2]
  | [], _ :: _, h => h.elim
  | .tmp _ :: _, [], h => h.elim
  | .cell _ _ :: _, [], h => h.elim
theorem KN.retC {P : Program} {n : Nat} {l : List (Nat × Value)} {C : World → Prop} {fn : Func} {R : Ending → World → Prop} {rs : List ResultVar} (hr : fn.results = rs.toArray) (h : ∀ w, C w → ∃ vs, ResAt P l w rs vs ∧ R (.returned (oneOf vs)) w) : KN P (Rets fn R P) [] n l C := by
  refine ⟨fun a w he hc => ?_⟩
  obtain ⟨vs, h1, hR⟩ := h w hc
  refine ⟨he.defers, _, ?_, hR⟩
  have h1 := resAt_run (P := P) (w := w) he rs vs h1
  have h2 : results fn a.tmps = (do let vs ← fn.results.mapM (resVal a); Pure.pure (if h : vs.size = 1 then vs[0] else .tuple vs)) := by
    unfold results
    congr 1
  rw [h2, hr, List.mapM_toArray]
  simp only [Sem.run_bind, Sem.run_map, h1, Sem.run_pure, Result.andThen_ok]
  congr 1
  match vs with
  | [] => rfl
  | [v] => rfl
  | u :: v :: r =>
    rw [dif_neg (by simp)]
    rfl
section
variable {P : Program} {F : Nat → Prop} {w₀ w : World} {L : List Atom}
theorem St.ldRow {q g T ty m : Nat} {cs : Array Value} [RowT P ty m] (hi : L[q]? = some (blk g T cs)) (hm : cs.size = m) (h : St F w₀ L w) : (loadVar ty ⟨g, 0, none⟩).run P w = .ok (.agg cs) w := by
  have := run_loadVarR (P := P) (T := ty) (cs := cs.toList) (by simpa using hm) (h.blkRow hi)
  simpa using this
end
/-! ### An operation whose guard was itself not carried out -/
def isUndef : Value → Bool
  | .tuple a => a.isEmpty
  | _ => false
def opSkipU (ops : Array Oper) (n : Nat) (l : List (Nat × Value)) (i : Nat) : Option (Option Nat) :=
  match ops[i]? with
  | some o => match o.guard with
    | some (j, _) => match (ops[j]?).bind (·.dst) with
      | some d => match lk d l with
        | some v => bif isUndef v && okD n o.dst then some o.dst else none
        | none => none
      | none => none
    | none => none
  | none => none
theorem isUndef_eq {v : Value} (h : isUndef v = true) : v = undef := by
  cases v <;> simp_all [isUndef, undef]
theorem SX.skipU {P : Program} {ops : Array Oper} {S : World → Prop} {K : Act → World → Prop} {p : Plan} {n : Nat} {l : List (Nat × Value)} {C : World → Prop} {fl : Bool} {i : Nat} {d : Option Nat} (ho : opSkipU ops n l i = some d) (h : SX P ops S K p n (insO d undef l) C) : SX P ops S K (.st fl i p) n l C := by
  refine ⟨fun a w he hc hs => ?_⟩
  unfold opSkipU at ho
  split at ho
  · rename_i o hoi
    split at ho
    · rename_i j want hg
      split at ho
      · rename_i d' hd
        split at ho
        · rename_i v hv
          by_cases hb : (isUndef v && okD n o.dst) = true
          · rw [hb] at ho
            simp only [cond_true, Option.some.injEq] at ho
            subst ho
            rw [Bool.and_eq_true] at hb
            have hu := isUndef_eq hb.1
            subst hu
            have hn := h.run _ w (he.putO hb.2 undef) hc hs
            have h2 : ((ops[j]?.bind fun x => x.dst).bind fun x => a.tmps[x]?) = some undef := by rw [hd]; exact he.at_ _ _ hv
            have h3 : yielded ops a.tmps j = none := by simp only [yielded, h2, undef]
            have h4 : Region.wanted o (yielded ops a.tmps) = false := by
              unfold Region.wanted
              rw [hg]
              simp only [h3]
              cases want <;> rfl
            simp only [PW, hoi, h4]
            simpa using hn
          · have : (isUndef v && okD n o.dst) = false := by simpa using hb
            rw [this] at ho
            cases ho
        · cases ho
      · cases ho
    · cases ho
  · cases ho
/-! ### A type switch's arm -/
section
variable {P : Program} {ops : Array Oper} {S : World → Prop} {K : Act → World → Prop} {p : Plan} {n : Nat} {l : List (Nat × Value)} {C : World → Prop} {fl : Bool} {i : Nat} {xt at_ ty2 : TypeId} {x : Operand}
theorem s_taF (d : Nat) {u : TypeId} {v z : Value} (ho : opAt ops n l i = some (some d, .typeAssert x xt at_ true, ty2)) [hC : ConT P at_] [hZ : ZeroT P at_ z] (hx : ev l x = some (.iface u v)) (hne : Nat.beq u at_ = false)
    (h : SX P ops S K p n ((d, .tuple #[z, .bool false]) :: l) C) : SX P ops S K (.st fl i p) n l C :=
  SX.pure ho (fun a w o he h1 _ => by
    obtain ⟨e, he1, he2⟩ := hC.under
    obtain ⟨j, hj, hz⟩ := info_of hZ.zero
    have hne' : ¬ u = at_ := fun h => by subst h; simp at hne
    have e2 : (Instr.typeAssert (.iface u v) xt at_ true).run P w = .ok (.tuple #[z, .bool false]) w := by
      unfold Instr.typeAssert
      simp only [Sem.run_bind, run_underlying he1, Result.andThen_ok]
      cases e <;> first | (cases he2; done) | simp [if_neg hne', run_zero hj hz]
    simp only [execOp, h1, he.ev hx, Sem.run_bind, e2, Result.andThen_ok, Sem.run_pure]) h
theorem s_taT (d : Nat) {v : Value} (ho : opAt ops n l i = some (some d, .typeAssert x xt at_ true, ty2)) [hC : ConT P at_] (hx : ev l x = some (.iface at_ v))
    (h : SX P ops S K p n ((d, .tuple #[v, .bool true]) :: l) C) : SX P ops S K (.st fl i p) n l C :=
  SX.pure ho (fun a w o he h1 _ => by
    obtain ⟨e, he1, he2⟩ := hC.under
    have e2 : (Instr.typeAssert (.iface at_ v) xt at_ true).run P w = .ok (.tuple #[v, .bool true]) w := by
      unfold Instr.typeAssert
      simp only [Sem.run_bind, run_underlying he1, Result.andThen_ok]
      cases e <;> first | (cases he2; done) | simp
    simp only [execOp, h1, he.ev hx, Sem.run_bind, e2, Result.andThen_ok, Sem.run_pure]) h
end
end Go.Sx
