/- Range over func, last part: a function value against nil, the way out where the results lie in memory, and the marks' blocks as one atom. No condition. -/
import Derived.Test.YtfhfckoemgkdlaaDoorRf3
namespace Go.Sx
open Go
section
variable {P : Program} {ops : Array Oper} {S : World → Prop} {K : Act → World → Prop} {p : Plan} {n : Nat} {l : List (Nat × Value)} {i : Nat} {ty ty2 ty' : TypeId} {x : Operand} {C : World → Prop} {fl : Bool}
theorem eqGuard_func (op : BinOp) (T : TypeId) (x y : Operand) (f : Fn) (fs cs : Array Value) (b : Value) {w : World} : (eqGuard op T x y (.func f fs cs) b).run P w = .ok () w := by
  unfold eqGuard
  cases op <;> first | rfl | (cases b <;> rfl)
def isFuncT : Option TypeDesc → Bool
  | some (.func _ _ _) => true
  | _ => false
theorem s_eqF (d : Nat) {f : FuncId} {fs cs : Array Value} (ho : opAt ops n l i = some (some d, .binOp .eql ty x (.const .nilFunc) ty', ty2)) (hT : isFuncT (P.underlying ty) = true) (hx : ev l x = some (.func (.func f) fs cs)) (h : SX P ops S K p n ((d, .bool false) :: l) C) : SX P ops S K (.st fl i p) n l C :=
  SX.pure ho (fun a w o he h1 _ => by
    obtain ⟨t1, t2, t3, hu⟩ : ∃ a b c, P.underlying ty = some (.func a b c) := by
      unfold isFuncT at hT
      split at hT
      · exact ⟨_, _, _, by assumption⟩
      · cases hT
    have e1 : a.eval (.const .nilFunc) = .nilFunc := rfl
    have e2 : (binOp .eql ty (.func (.func f) fs cs) .nilFunc).run P w = .ok (.bool false) w := by
      simp only [binOp, Op.equal, Op.maxDepth, Sem.run_bind]
      rw [Op.equalIn]
      simp [run_underlying hu]
    simp only [execOp, h1, he.ev hx, e1, Sem.run_bind, eqGuard_func, e2, Result.andThen_ok, Sem.run_pure]) h
end
section
variable {P : Program} {F : Nat → Prop} {w₀ w : World} {X Y L : List Atom} {n : Nat} {ds : List Deferred} {l : List (Nat × Value)}
theorem St.nilStar (h : St F w₀ X w) : St F w₀ (X ++ [starA []]) w := St.starLast.1 (by rwa [List.append_nil])
theorem St.markStar {A : Atom} (h : St F w₀ (A :: starA X :: Y) w) : St F w₀ (starA (A :: X) :: Y) w := by
  have h1 : St F w₀ (starA X :: (A :: Y)) w := h.perm (List.Perm.swap ..)
  have h2 := (St.star X).2 h1
  exact (St.star (A :: X)).1 (h2.perm List.perm_middle)
theorem retMC {fn : Func} {R : Ending → World → Prop} {C : World → Prop} {rs : List ResultVar} {L : List Atom} (Ds : List Nat) (hds : ds = Ds.map mark) (hr : fn.results = rs.toArray)
    (hC : ∀ w, C w → Sto w₀ (Ds.map defB ++ L) w) (h : ∀ w, Sto w₀ L w → ∃ vs, ResAt P l w rs vs ∧ R (.returned (oneOf vs)) w) : ∀ a w, EnvD n ds l a → C w → bodyPostM Fence.wide 0 P fn R .ret a w := by
  intro a w he hc
  show LeavesInM Fence.wide 0 P fn a.tmps R a.defers .returning w
  rw [he.defers, hds]
  refine leaves_marks (L := L) (fun w' hw' => ?_) Ds w (hC w hc)
  obtain ⟨_, v, h1, h2⟩ := (KN.retC (C := fun v => Sto w₀ L v) hr h : KN P (Rets fn R P) [] n l (fun v => Sto w₀ L v)).run _ w' he.env hw'
  exact ⟨v, h1, h2⟩
end
end Go.Sx
