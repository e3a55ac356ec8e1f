/- Functions that write into the caller's own memory: a walk from any own state. No condition. -/
import Derived.Test.YtcjddlcinaedaaaDoorOps7
namespace Go.Sx
open Go

section
variable {P : Program} {n : Nat} {c : Code}
theorem spec_ofC {f : FuncId} {fn : Func} {args : List Value} {w : World} {R : Ending → World → Prop} {C : World → Prop} (hf : P.funcs[f]? = some fn) (hb : fn.body = some c) (hn : fn.ntmps = n) (hlen : Nat.ble args.length n = true) (hw : C w)
    (h : CW P (Rets fn R P) [] c n (argEnv 0 args) C) : Calls P f args.toArray w R :=
  calls_of hf hb hn hlen ⟨fun a v he hv => h.run a v he (by subst hv; exact hw)⟩
end
section
variable {P : Program} {ops : Array Oper} {S : World → Prop} {K : Act → World → Prop} {p : Plan} {n : Nat} {l : List (Nat × Value)} {i : Nat} {ty : TypeId} {x : Operand} {F : Nat → Prop} {w₀ : World} {A : List Atom}
/-- A call that may change the walk's own memory, and answers a value. -/
theorem s_callM (d : Nat) {as : Array Operand} {ts : Array TypeId} {g : FuncId} {fs cs : Array Value} {vs L : List Value} {X : Type} {v : X → Value} {pf : X → Prop} {L' : X → List Atom}
    (ho : opAt ops n l i = some (some d, .call ⟨.value x, as, ts⟩, ty)) (hx : ev l x = some (.func (.func g) fs cs)) (has : evs l as.toList = some vs) (hL : fs.toList ++ vs ++ cs.toList = L) [hg : Enters P g]
    (hc : ∀ w, St F w₀ A w → Calls P g L.toArray w (fun e w' => ∃ x, e = .returned (v x) ∧ pf x ∧ St F w₀ (L' x) w')) (hS : ∀ x w, St F w₀ (L' x) w → S w) (h : ∀ x, pf x → SX P ops S K p n ((d, (v x)) :: l) (St F w₀ (L' x))) : SX P ops S K (.st false i p) n l (St F w₀ A) :=
  SX.enter (C' := fun x w => St F w₀ (L' x) w) ho (fun _ _ _ he h1 _ => run_call he h1 hx has hL) hc hS h
/-- The same, of a function that answers nothing. -/
theorem s_callM0 {as : Array Operand} {ts : Array TypeId} {g : FuncId} {fs cs : Array Value} {vs L : List Value} {X : Type} {v : X → Value} {pf : X → Prop} {L' : X → List Atom}
    (ho : opAt ops n l i = some (none, .call ⟨.value x, as, ts⟩, ty)) (hx : ev l x = some (.func (.func g) fs cs)) (has : evs l as.toList = some vs) (hL : fs.toList ++ vs ++ cs.toList = L) [hg : Enters P g]
    (hc : ∀ w, St F w₀ A w → Calls P g L.toArray w (fun e w' => ∃ x, e = .returned (v x) ∧ pf x ∧ St F w₀ (L' x) w')) (hS : ∀ x w, St F w₀ (L' x) w → S w) (h : ∀ x, pf x → SX P ops S K p n l (St F w₀ (L' x))) : SX P ops S K (.st false i p) n l (St F w₀ A) :=
  SX.enter (C' := fun x w => St F w₀ (L' x) w) ho (fun _ _ _ he h1 _ => run_call he h1 hx has hL) hc hS h
end
end Go.Sx
