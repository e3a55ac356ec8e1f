/- The walk of the statement ModelPlays, text 1. Conditions: each theorem tells its own. -/
import Derived.OrdersHeld
import Derived.WalkKit
import Derived.Maps.AppendAt
import Derived.LaidEql
import Derived.Test.YtaamaifnmppbgaaDoorRows
import Derived.LaidLaws
import Derived.ProofKit
import Derived.OpenShut
import Derived.Deep.DeepHandedRow
import Derived.Deep.DeepWitnessRowRef
import Derived.Laws.CopyRow
import Derived.OrdersIn
import Derived.RangeFuncLeaves
import Derived.RangeFuncRecord
import Derived.Laws.IdiomCopy
import Derived.ChangeSlices
import Derived.WideShapes
section
/- The symbolic walk: environments of live slots, a plan for each region, posts on a stack: lemmas over any program. No condition. -/
namespace Go.Sx
open Go

/-! ### Slots -/
theorem beq_ne {k t : Nat} (h : k ≠ t) : Nat.beq k t = false := by
  cases hb : Nat.beq k t with
  | false => rfl
  | true => exact absurd (Nat.eq_of_beq_eq_true hb) h
def lk (t : Nat) : List (Nat × Value) → Option Value
  | [] => none
  | (k, v) :: r => bif Nat.beq k t then some v else lk t r

def ins (d : Nat) (v : Value) (l : List (Nat × Value)) : List (Nat × Value) := (d, v) :: l

theorem lk_ins (t d : Nat) (v : Value) (l : List (Nat × Value)) : lk t (ins d v l) = if t = d then some v else lk t l := by
  unfold ins lk
  by_cases h : t = d
  · subst h; simp
  · simp only [beq_ne (Ne.symm h), if_neg h, cond_false]
    cases l <;> rfl

def insO : Option Nat → Value → List (Nat × Value) → List (Nat × Value)
  | some d, v, l => ins d v l
  | none, _, l => l

structure Env (n : Nat) (l : List (Nat × Value)) (a : Act) : Prop where
  size : a.tmps.size = n
  defers : a.defers = []
  at_ : ∀ t v, lk t l = some v → a.tmps[t]? = some v

def ev (l : List (Nat × Value)) : Operand → Option Value
  | .tmp t => lk t l
  | .const v => some v
  | .global g => some (.pointer (some ⟨g, 0, none⟩))
  | .func f => some (.func (.func f) #[] #[])

def evs (l : List (Nat × Value)) : List Operand → Option (List Value)
  | [] => some []
  | x :: r => match ev l x, evs l r with
    | some v, some vs => some (v :: vs)
    | _, _ => none

theorem Env.ev {n : Nat} {l : List (Nat × Value)} {a : Act} (h : Env n l a) {x : Operand} {v : Value} (hx : ev l x = some v) : a.eval x = v := by
  cases x with
  | tmp t => have := h.at_ t v hx; simp [Act.eval, Array.getD_eq_getD_getElem?, this]
  | const u => simpa [Sx.ev, Act.eval] using hx
  | global g => simpa [Sx.ev, Act.eval] using hx
  | func f => simpa [Sx.ev, Act.eval] using hx

theorem Env.evs {n : Nat} {l : List (Nat × Value)} {a : Act} (h : Env n l a) : ∀ {xs : List Operand} {vs : List Value}, evs l xs = some vs → xs.map a.eval = vs
  | [], vs, hx => by simp [Sx.evs] at hx; subst hx; rfl
  | x :: r, vs, hx => by
    unfold Sx.evs at hx
    cases h1 : Sx.ev l x with
    | none => simp [h1] at hx
    | some v =>
      cases h2 : Sx.evs l r with
      | none => simp [h1, h2] at hx
      | some us =>
        simp [h1, h2] at hx
        subst hx
        simp [h.ev h1, h.evs h2]

theorem Env.put {n : Nat} {l : List (Nat × Value)} {a : Act} (h : Env n l a) {d : Nat} (hd : d < n) (v : Value) : Env n (ins d v l) (a.put (some d) v) := by
  refine ⟨by simp [Act.put, h.size], by simp [Act.put, h.defers], fun t u ht => ?_⟩
  rw [lk_ins] at ht
  simp only [Act.put, Array.getElem?_setIfInBounds]
  by_cases e : t = d
  · subst e
    have : t < a.tmps.size := by rw [h.size]; exact hd
    simp at ht
    simp [this, ht]
  · rw [if_neg e] at ht
    rw [if_neg (Ne.symm e)]
    exact h.at_ t u ht

def okD (n : Nat) : Option Nat → Bool
  | some d => Nat.blt d n
  | none => true

theorem Env.putO {n : Nat} {l : List (Nat × Value)} {a : Act} (h : Env n l a) : ∀ {d : Option Nat}, okD n d = true → ∀ v, Env n (insO d v l) (a.put d v)
  | some _, hd, v => h.put (Nat.le_of_ble_eq_true hd) v
  | none, _, _ => h

def Sub (l' l : List (Nat × Value)) : Prop := ∀ t v, lk t l' = some v → lk t l = some v
def SubL : List (Nat × Value) → List (Nat × Value) → Prop
  | [], _ => True
  | (t, v) :: r, l => lk t l = some v ∧ SubL r l
theorem SubL.sub : ∀ {l' l : List (Nat × Value)}, SubL l' l → Sub l' l
  | [], _, _ => fun t v h => by simp [lk] at h
  | (k, u) :: r, l, h => fun t v ht => by
    unfold lk at ht
    by_cases e : Nat.beq k t = true
    · rw [e] at ht
      simp only [cond_true, Option.some.injEq] at ht
      subst ht
      have : k = t := Nat.eq_of_beq_eq_true e
      subst this
      exact h.1
    · rw [beq_ne (fun h => e (by rw [h]; exact Nat.beq_refl t))] at ht
      exact SubL.sub h.2 t v ht
theorem Env.sub {n : Nat} {l l' : List (Nat × Value)} {a : Act} (h : Env n l a) (hs : Sub l' l) : Env n l' a := ⟨h.size, h.defers, fun t v ht => h.at_ t v (hs t v ht)⟩

/-! ### A region by a plan -/
inductive Plan where
  | done
  | st (fl : Bool) (i : Nat) (p : Plan)
  | alt (i : Nat) (p q : Plan)

def NoExit : Exit → Act → World → Prop := fun _ _ _ => False

section
variable (P : Program) (ops : Array Oper) (S : World → Prop) (K : Act → World → Prop)

def PW : Plan → Act → World → Prop
  | .done, a, w => K a w
  | .st fl i p, a, w => match ops[i]? with
    | none => False
    | some o => if Region.wanted o (yielded ops a.tmps) = true then
        (match fl with
         | true => ∃ v, (∀ w', S w' → (execOp a.eval o).run P w' = .ok (.value v) w') ∧ PW p (a.put o.dst v) w
         | false => o.wp P a w (fun a' w' => S w' ∧ PW p a' w') NoExit)
      else PW p (a.put o.dst undef) w
  | .alt i p q, a, w => (match ops[i]? with
    | none => False
    | some o => if Region.wanted o (yielded ops a.tmps) = true then o.wp P a w (fun a' w' => S w' ∧ PW p a' w') NoExit
      else PW p (a.put o.dst undef) w) ∧ PW q a w
end

def seqPlan (i : Nat) : Nat → Plan
  | 0 => .done
  | k + 1 => .st false i (seqPlan (i + 1) k)

/-- A plan without choices. -/
def sp : List Nat → Plan
  | [] => .done
  | i :: r => .st false i (sp r)

/-- The plan fits the region: 'rs': what is left of those that may come up. -/
def planOk (ops : Array Oper) : Plan → Nat → Array Bool → Option (List Nat) → Bool
  | .done, _, listed, rs => rs.isNone && (Region.ready .any ops listed).isEmpty
  | .st true i p, fuel + 1, listed, rs => rs.isNone && (Region.ready .any ops listed).contains i && Region.free .any ops listed i && planOk ops p fuel (listed.setIfInBounds i true) none
  | .st false i p, fuel + 1, listed, rs => (rs.getD (Region.ready .any ops listed) == [i]) && planOk ops p fuel (listed.setIfInBounds i true) none
  | .alt i p q, fuel + 1, listed, rs => planOk ops p fuel (listed.setIfInBounds i true) none && planOk ops q (fuel + 1) listed (some ((rs.getD (Region.ready .any ops listed)).filter (· != i)))
  | _, 0, _, _ => false

def NoExitN (K : Act → World → Prop) : Exit → Act → World → Prop
  | .normal, a, w => K a w
  | _, _, _ => False

theorem Oper.wp_post {P : Program} {o : Oper} {a : Act} {w : World} {K : Act → World → Prop} {Q : Exit → Act → World → Prop} (h : o.wp P a w K NoExit) : o.wp P a w K Q := by
  unfold Oper.wp at *
  generalize (execOp a.eval o).run P w = r at *
  cases r with
  | ok n w' =>
    cases n <;> simp only [Oper.upon, NoExit] at h ⊢ <;> first
      | exact h
      | exact Calls.mono h (fun e w'' he => by cases e <;> first | exact he | exact he.elim | (obtain ⟨_, _, hf⟩ := he; exact hf.elim))
  | halt x w' => cases x <;> simp only [Oper.upon, NoExit] at h ⊢

theorem plan_sound {P : Program} {ops : Array Oper} {S : World → Prop} {K : Act → World → Prop} (hs : Region.noSelect ops = true) :
    ∀ (p : Plan) (fuel : Nat) (listed : Array Bool) (rs : Option (List Nat)) (a : Act) (w : World), planOk ops p fuel listed rs = true → S w → PW P ops S K p a w →
      (rs = none → wpAnyH P .any ops (NoExitN K) S fuel listed a w) ∧
      (∀ l, rs = some l → ∃ f, fuel = f + 1 ∧ ∀ i ∈ l, wpOp P ops (NoExitN K) i (fun a' w' => S w' ∧ wpAnyH P .any ops (NoExitN K) S f (listed.setIfInBounds i true) a' w') a w) := by
  have key : ∀ (i : Nat) (p : Plan) (f : Nat) (listed : Array Bool) (a : Act) (w : World), (∀ a w, S w → PW P ops S K p a w → wpAnyH P .any ops (NoExitN K) S f (listed.setIfInBounds i true) a w) → S w →
      (match ops[i]? with
        | none => False
        | some o => if Region.wanted o (yielded ops a.tmps) = true then o.wp P a w (fun a' w' => S w' ∧ PW P ops S K p a' w') NoExit else PW P ops S K p (a.put o.dst undef) w) →
      wpOp P ops (NoExitN K) i (fun a' w' => S w' ∧ wpAnyH P .any ops (NoExitN K) S f (listed.setIfInBounds i true) a' w') a w := by
    intro i p f listed a w hp hS h
    unfold wpOp
    cases ho : ops[i]? with
    | none => rw [ho] at h; exact h.elim
    | some o =>
      rw [ho] at h
      dsimp only at h ⊢
      by_cases hw : Region.wanted o (yielded ops a.tmps) = true
      · rw [if_pos hw] at h ⊢
        exact .inl (Oper.wp_post (Oper.wp_mono (fun a' w' ⟨h1, h2⟩ => ⟨h1, hp a' w' h1 h2⟩) h))
      · rw [if_neg hw] at h ⊢
        exact ⟨hS, hp _ _ hS h⟩
  intro p
  induction p with
  | done =>
    intro fuel listed rs a w hok hS h
    simp only [planOk, Bool.and_eq_true, List.isEmpty_iff, Option.isNone_iff_eq_none] at hok
    obtain ⟨h1, h2⟩ := hok
    subst h1
    exact ⟨fun _ => wpAnyH_done h2 h fuel, fun l hl => by cases hl⟩
  | st fl i p ih =>
    intro fuel listed rs a w hok hS h
    cases fuel with
    | zero => cases fl <;> simp [planOk] at hok
    | succ f =>
      cases fl with
      | true =>
        simp only [planOk, Bool.and_eq_true, Option.isNone_iff_eq_none] at hok
        obtain ⟨⟨⟨h1, h2⟩, h3⟩, h4⟩ := hok
        subst h1
        refine ⟨fun _ => ?_, fun l hl => by cases hl⟩
        unfold PW at h
        split at h
        · exact h.elim
        · rename_i o ho
          split at h
          · rename_i hw
            obtain ⟨v, hv, hn⟩ := h
            exact wpAnyH_take ho hs h3 h2 (fun c a w hf => hf) (.inl ⟨hw, hv⟩) hS ((ih f _ none _ w h4 hS hn).1 rfl)
          · rename_i hw
            exact wpAnyH_take ho hs h3 h2 (fun c a w hf => hf) (.inr ⟨by simpa using hw, rfl⟩) hS ((ih f _ none _ w h4 hS h).1 rfl)
      | false =>
        simp only [planOk, Bool.and_eq_true, beq_iff_eq] at hok
        obtain ⟨h1, h2⟩ := hok
        have hk := key i p f listed a w (fun a w hS' h' => (ih f _ none a w h2 hS' h').1 rfl) hS (by unfold PW at h; exact h)
        constructor
        · rintro rfl
          exact wpAnyH_all (rs := [i]) h1 (by simp) (fun j hj => by simp at hj; subst hj; exact hk)
        · rintro l rfl
          simp only [Option.getD_some] at h1
          subst h1
          exact ⟨f, rfl, fun j hj => by simp at hj; subst hj; exact hk⟩
  | alt i p q ihp ihq =>
    intro fuel listed rs a w hok hS h
    cases fuel with
    | zero => simp [planOk] at hok
    | succ f =>
      simp only [planOk, Bool.and_eq_true] at hok
      obtain ⟨h1, h2⟩ := hok
      unfold PW at h
      obtain ⟨ha, hb⟩ := h
      have hk := key i p f listed a w (fun a w hS' h' => (ihp f _ none a w h1 hS' h').1 rfl) hS ha
      obtain ⟨f', ef, hq⟩ := (ihq (f + 1) listed _ a w h2 hS hb).2 _ rfl
      obtain rfl : f = f' := by omega
      have hall : ∀ j ∈ rs.getD (Region.ready .any ops listed), wpOp P ops (NoExitN K) j (fun a' w' => S w' ∧ wpAnyH P .any ops (NoExitN K) S f (listed.setIfInBounds j true) a' w') a w := by
        intro j hj
        by_cases e : j = i
        · subst e; exact hk
        · exact hq j (by simp [hj, e])
      constructor
      · rintro rfl
        refine ⟨fun h0 => ?_, hall⟩
        exfalso
        simp only [Option.getD_none] at hq h2
        rw [h0] at h2
        have : ∀ (q : Plan) , planOk ops q (f + 1) listed (some []) = false := by
          intro q
          induction q with
          | done => simp [planOk]
          | st fl i p _ => cases fl <;> simp [planOk]
          | alt i p q _ ih => simp only [planOk, Option.getD_some, List.filter_nil, ih, Bool.and_false]
        simp [this] at h2
      · rintro l rfl
        exact ⟨f, rfl, hall⟩

theorem wp_planned {P : Program} {id : Nat} {ops : Array Oper} {S : World → Prop} {K : Act → World → Prop} {a : Act} {w : World} (p : Plan) (hm : P.follows .mixedOrders = true)
    (hok : (Region.noSelect ops && planOk ops p ops.size (Array.replicate ops.size false) none) = true) (hS : S w.drew) (h : PW P ops S K p a w.drew) : (Code.region id ops true).wp P (NoExitN K) a w := by
  rw [Bool.and_eq_true] at hok
  exact wp_region_held hm ((plan_sound hok.1 p _ _ none a w.drew hok.2 hS h).1 rfl)

theorem wp_straight {P : Program} {id : Nat} {ops : Array Oper} {S : World → Prop} {K : Act → World → Prop} {a : Act} {w : World}
    (h : PW P ops S K (seqPlan 0 ops.size) a w) : (Code.region id ops false).wp P (NoExitN K) a w := by
  have key : ∀ (k i : Nat) (a : Act) (w : World), PW P ops S K (seqPlan i k) a w → wpOps P ops (NoExitN K) (List.range' i k) a w := by
    intro k
    induction k with
    | zero => intro i a w h; simpa [seqPlan, PW, wpOps, NoExitN] using h
    | succ k ih =>
      intro i a w h
      simp only [seqPlan, PW] at h
      simp only [List.range'_succ, wpOps]
      split at h
      · exact h.elim
      · rename_i o ho
        rw [ho]
        split at h
        · rename_i hw
          simp only [hw, if_true]
          exact .inl (Oper.wp_post (Oper.wp_mono (fun a' w' ⟨_, h2⟩ => ih _ a' w' h2) h))
        · rename_i hw
          simp only [hw]
          exact ih _ _ _ h
  refine wp_region ?_
  rw [List.range_eq_range']
  exact key ops.size 0 a w h

/-! ### The walk of a region: the operation's head -/
def wantB (ops : Array Oper) (l : List (Nat × Value)) : Option (Nat × Bool) → Bool
  | none => true
  | some (j, want) => match (ops[j]?).bind (·.dst) with
    | some d => match lk d l with
      | some (.bool b) => b == want
      | _ => false
    | none => false

/-- Operation number 'i' is to be carried out, and what it is. -/
def opAt (ops : Array Oper) (n : Nat) (l : List (Nat × Value)) (i : Nat) : Option (Option Nat × Op × TypeId) :=
  match ops[i]? with
  | some o => bif wantB ops l o.guard && okD n o.dst then some (o.dst, o.op, o.type) else none
  | none => none

/-- Operation number 'i' is not to be carried out. -/
def opSkip (ops : Array Oper) (n : Nat) (l : List (Nat × Value)) (i : Nat) : Option (Option Nat) :=
  match ops[i]? with
  | some o => match o.guard with
    | some (j, want) => bif wantB ops l (some (j, !want)) && okD n o.dst then some o.dst else none
    | none => none
  | none => none

theorem wanted_of {ops : Array Oper} {n : Nat} {l : List (Nat × Value)} {a : Act} (h : Env n l a) {o : Oper} (hw : wantB ops l o.guard = true) : Region.wanted o (yielded ops a.tmps) = true := by
  unfold Region.wanted
  cases hg : o.guard with
  | none => rfl
  | some p =>
    obtain ⟨j, want⟩ := p
    rw [hg] at hw
    simp only [wantB] at hw
    split at hw
    · rename_i d hd
      split at hw
      · rename_i b hb
        have h2 : ((ops[j]?.bind fun x => x.dst).bind fun x => a.tmps[x]?) = some (Value.bool b) := by rw [hd]; exact h.at_ _ _ hb
        have h3 : yielded ops a.tmps j = some b := by simp only [yielded, h2]
        simp only [h3]
        simpa using hw
      · cases hw
    · cases hw

theorem wanted_not {ops : Array Oper} {n : Nat} {l : List (Nat × Value)} {a : Act} (h : Env n l a) {o : Oper} {j : Nat} {want : Bool} (hg : o.guard = some (j, want)) (hw : wantB ops l (some (j, !want)) = true) :
    Region.wanted o (yielded ops a.tmps) = false := by
  unfold Region.wanted
  rw [hg]
  simp only [wantB] at hw
  split at hw
  · rename_i d hd
    split at hw
    · rename_i b hb
      have h2 : ((ops[j]?.bind fun x => x.dst).bind fun x => a.tmps[x]?) = some (Value.bool b) := by rw [hd]; exact h.at_ _ _ hb
      have h3 : yielded ops a.tmps j = some b := by simp only [yielded, h2]
      simp only [h3]
      cases want <;> cases b <;> simp_all
    · cases hw
  · cases hw

structure SX (P : Program) (ops : Array Oper) (S : World → Prop) (K : Act → World → Prop) (p : Plan) (n : Nat) (l : List (Nat × Value)) (C : World → Prop) : Prop where
  run : ∀ a w, Env n l a → C w → S w → PW P ops S K p a w

section
variable {P : Program} {ops : Array Oper} {S : World → Prop} {K : Act → World → Prop} {p q : Plan} {n : Nat} {l : List (Nat × Value)} {C C' : World → Prop}

theorem SX.done (h : ∀ a w, Env n l a → C w → K a w) : SX P ops S K .done n l C := ⟨fun a w he hc _ => h a w he hc⟩

/-- An operation that yields 'v' in every world of the region's class (or of C, if it does not come up first) and changes nothing. -/
theorem SX.val {fl : Bool} {i : Nat} {d : Option Nat} {op : Op} {ty : TypeId} {v : Value} (ho : opAt ops n l i = some (d, op, ty))
    (hrun : ∀ a w (o : Oper), Env n l a → (fl = true → S w) → (fl = false → C w) → o.op = op → o.type = ty → (execOp a.eval o).run P w = .ok (.value v) w)
    (h : SX P ops S K p n (insO d v l) C) : SX P ops S K (.st fl i p) n l C := by
  refine ⟨fun a w he hc hs => ?_⟩
  unfold opAt at ho
  split at ho
  · rename_i o hoi
    by_cases hb : (wantB ops l o.guard && okD n o.dst) = true
    · rw [hb] at ho
      simp only [cond_true, Option.some.injEq, Prod.mk.injEq] at ho
      obtain ⟨rfl, rfl, rfl⟩ := ho
      rw [Bool.and_eq_true] at hb
      have hn := h.run _ w (he.putO hb.2 v) hc hs
      simp only [PW, hoi, wanted_of he hb.1, if_true]
      cases fl with
      | true => exact ⟨v, fun w' hw' => hrun a w' o he (fun _ => hw') (by simp) rfl rfl, hn⟩
      | false =>
        simp only [Oper.wp, hrun a w o he (by simp) (fun _ => hc) rfl rfl, Oper.upon_value]
        exact ⟨hs, hn⟩
    · have : (wantB ops l o.guard && okD n o.dst) = false := by simpa using hb
      rw [this] at ho
      cases ho
  · cases ho

/-- The same, the operation looking at no world. -/
theorem SX.pure {fl : Bool} {i : Nat} {d : Option Nat} {op : Op} {ty : TypeId} {v : Value} (ho : opAt ops n l i = some (d, op, ty))
    (hrun : ∀ a w (o : Oper), Env n l a → o.op = op → o.type = ty → (execOp a.eval o).run P w = .ok (.value v) w)
    (h : SX P ops S K p n (insO d v l) C) : SX P ops S K (.st fl i p) n l C :=
  SX.val ho (fun a w o he _ _ h1 h2 => hrun a w o he h1 h2) h

/-- An operation whose guard does not want it. -/
theorem SX.skip {fl : Bool} {i : Nat} {d : Option Nat} (ho : opSkip ops n l i = some d) (h : SX P ops S K p n (insO d undef l) C) : SX P ops S K (.st fl i p) n l C := by
  refine ⟨fun a w he hc hs => ?_⟩
  unfold opSkip at ho
  split at ho
  · rename_i o hoi
    split at ho
    · rename_i j want hg
      by_cases hb : (wantB ops l (some (j, !want)) && okD n o.dst) = true
      · rw [hb] at ho
        simp only [cond_true, Option.some.injEq] at ho
        subst ho
        rw [Bool.and_eq_true] at hb
        have hn := h.run _ w (he.putO hb.2 undef) hc hs
        simp only [PW, hoi, wanted_not he hg hb.1]
        simpa using hn
      · have : (wantB ops l (some (j, !want)) && okD n o.dst) = false := by simpa using hb
        rw [this] at ho
        cases ho
    · cases ho
  · cases ho

/-- An operation that yields a value, or nothing, and may turn the world. -/
theorem SX.act {i : Nat} {d : Option Nat} {op : Op} {ty : TypeId} {X : Type} {v : X → Value} {C' : X → World → Prop} (ho : opAt ops n l i = some (d, op, ty))
    (hrun : ∀ a w (o : Oper), Env n l a → C w → o.op = op → o.type = ty → ∃ x w', ((execOp a.eval o).run P w = .ok (.value (v x)) w' ∨ (execOp a.eval o).run P w = .ok .skip w' ∧ v x = undef) ∧ C' x w')
    (hS : ∀ x w, C' x w → S w)
    (h : ∀ x, SX P ops S K p n (insO d (v x) l) (C' x)) : SX P ops S K (.st false i p) n l C := by
  refine ⟨fun a w he hc _ => ?_⟩
  unfold opAt at ho
  split at ho
  · rename_i o hoi
    by_cases hb : (wantB ops l o.guard && okD n o.dst) = true
    · rw [hb] at ho
      simp only [cond_true, Option.some.injEq, Prod.mk.injEq] at ho
      obtain ⟨rfl, rfl, rfl⟩ := ho
      rw [Bool.and_eq_true] at hb
      obtain ⟨x, w', hr, hc'⟩ := hrun a w o he hc rfl rfl
      have hn := (h x).run _ w' (he.putO hb.2 (v x)) hc' (hS x w' hc')
      simp only [PW, hoi, wanted_of he hb.1, if_true]
      rcases hr with hr | ⟨hr, hu⟩
      · simp only [Oper.wp, hr, Oper.upon_value]; exact ⟨hS x w' hc', hn⟩
      · simp only [Oper.wp, hr, Oper.upon_skip]; rw [← hu]; exact ⟨hS x w' hc', hn⟩
    · have : (wantB ops l o.guard && okD n o.dst) = false := by simpa using hb
      rw [this] at ho
      cases ho
  · cases ho

/-- Of two that may come up next the one is carried out; or the other. -/
theorem SX.alt {i : Nat} (h1 : SX P ops S K (.st false i p) n l C) (h2 : SX P ops S K q n l C) : SX P ops S K (.alt i p q) n l C :=
  ⟨fun a w he hc hs => ⟨by have := h1.run a w he hc hs; unfold PW at this; exact this, h2.run a w he hc hs⟩⟩

theorem SX.weaken {l' : List (Nat × Value)} (hl : SubL l' l) (hC : ∀ w, C w → C' w) (h : SX P ops S K p n l' C') : SX P ops S K p n l C :=
  ⟨fun a w he hc hs => h.run a w (he.sub hl.sub) (hC w hc) hs⟩

theorem SX.inC (h : ∀ w, C w → SX P ops S K p n l C) : SX P ops S K p n l C := ⟨fun a w he hc hs => (h w hc).run a w he hc hs⟩

/-- What is known of the world that holds of no world's own parts is brought out. -/
theorem SX.fact {F : Prop} (hF : ∀ w, C w → F) (h : F → SX P ops S K p n l C) : SX P ops S K p n l C := ⟨fun a w he hc hs => (h (hF w hc)).run a w he hc hs⟩

/-- A slot's truth value is parted. -/
theorem SX.bool (t : Nat) {b : Bool} (ht : lk t l = some (.bool b)) (h1 : b = true → SX P ops S K p n (ins t (.bool true) l) C) (h2 : b = false → SX P ops S K p n (ins t (.bool false) l) C) : SX P ops S K p n l C := by
  refine ⟨fun a w he hc hs => ?_⟩
  have key : ∀ u, lk t l = some u → Env n (ins t u l) a := fun u hu => ⟨he.size, he.defers, fun s v hv => by
    rw [lk_ins] at hv
    by_cases e : s = t
    · subst e; simp at hv; subst hv; exact he.at_ _ _ hu
    · rw [if_neg e] at hv; exact he.at_ _ _ hv⟩
  cases b with
  | true => exact (h1 rfl).run a w (key _ ht) hc hs
  | false => exact (h2 rfl).run a w (key _ ht) hc hs
end

/-! ### Code, and what stands behind it -/
inductive KI where
  | code (c : Code)
  | blk (id : Nat)
  | lp (I : Act → World → Prop)

def Kt (P : Program) (R : Act → World → Prop) : List KI → Exit → Act → World → Prop
  | [] => fun e a w => match e with
    | .normal | .ret => R a w
    | _ => False
  | .code y :: k => fun e a w => match e with
    | .normal => y.wp P (Kt P R k) a w
    | e => Kt P R k e a w
  | .blk id :: k => fun e a w => match e with
    | .exit id' => if id' = id then Kt P R k .normal a w else Kt P R k (.exit id') a w
    | e => Kt P R k e a w
  | .lp I :: k => fun e a w => match e with
    | .normal => I a w
    | e => Kt P R k e a w

theorem Kt_ret {P : Program} {R : Act → World → Prop} : ∀ (k : List KI) {a : Act} {w : World}, R a w → Kt P R k .ret a w
  | [], _, _, h => h
  | .code _ :: k, _, _, h => Kt_ret k h
  | .blk _ :: k, _, _, h => Kt_ret k h
  | .lp _ :: k, _, _, h => Kt_ret k h

def popTo (id : Nat) : List KI → Option (List KI)
  | [] => none
  | .blk i :: k => bif Nat.beq i id then some k else popTo id k
  | .code _ :: k => popTo id k
  | .lp _ :: k => popTo id k

theorem Kt_exit {P : Program} {R : Act → World → Prop} {id : Nat} : ∀ {k k' : List KI} {a : Act} {w : World}, popTo id k = some k' → Kt P R k' .normal a w → Kt P R k (.exit id) a w
  | [], _, _, _, h, _ => by simp [popTo] at h
  | .blk i :: k, k', a, w, h, hk => by
    unfold popTo at h
    simp only [Kt]
    by_cases e : i = id
    · subst e
      simp at h
      subst h
      simpa using hk
    · have h1 : Nat.beq i id = false := beq_ne e
      rw [h1] at h
      rw [if_neg (Ne.symm e)]
      exact Kt_exit (k := k) h hk
  | .code _ :: k, _, _, _, h, hk => Kt_exit (k := k) h hk
  | .lp _ :: k, _, _, _, h, hk => Kt_exit (k := k) h hk

structure CW (P : Program) (R : Act → World → Prop) (k : List KI) (c : Code) (n : Nat) (l : List (Nat × Value)) (C : World → Prop) : Prop where
  run : ∀ a w, Env n l a → C w → c.wp P (Kt P R k) a w

/-- What is asked behind a piece of code. -/
structure KN (P : Program) (R : Act → World → Prop) (k : List KI) (n : Nat) (l : List (Nat × Value)) (C : World → Prop) : Prop where
  run : ∀ a w, Env n l a → C w → Kt P R k .normal a w

section
variable {P : Program} {R : Act → World → Prop} {k : List KI} {n : Nat} {l l' : List (Nat × Value)} {C C' : World → Prop} {c x y : Code}

theorem CW.seq (h : CW P R (.code y :: k) x n l C) : CW P R k (.seq x y) n l C :=
  ⟨fun a w he hc => wp_seq (wp_mono (h.run a w he hc) (fun e a w hk => by cases e <;> exact hk))⟩
theorem CW.block {id : Nat} (h : CW P R (.blk id :: k) c n l C) : CW P R k (.block id c) n l C :=
  ⟨fun a w he hc => wp_block (wp_mono (h.run a w he hc) (fun e a w hk => by cases e <;> exact hk))⟩
theorem CW.skip (h : KN P R k n l C) : CW P R k .skip n l C := ⟨fun a w he hc => wp_skip (h.run a w he hc)⟩
theorem CW.label {i : Nat} (h : KN P R k n l C) : CW P R k (.label i) n l C := ⟨fun a w he hc => wp_label (h.run a w he hc)⟩
theorem CW.ret (h : KN P R [] n l C) : CW P R k .ret n l C := ⟨fun a w he hc => wp_ret (Kt_ret k (h.run a w he hc))⟩
theorem CW.exit {id : Nat} {k' : List KI} (hp : popTo id k = some k') (h : KN P R k' n l C) : CW P R k (.exit id) n l C :=
  ⟨fun a w he hc => wp_exit (Kt_exit hp (h.run a w he hc))⟩
theorem CW.cond {o : Operand} {b : Bool} (ho : ev l o = some (.bool b)) (h1 : b = true → CW P R k x n l C) (h2 : b = false → CW P R k y n l C) : CW P R k (.cond o x y) n l C :=
  ⟨fun a w he hc => wp_cond_split (he.ev ho) (fun e => (h1 e).run a w he hc) (fun e => (h2 e).run a w he hc)⟩
theorem CW.condT {o : Operand} (ho : ev l o = some (.bool true)) (h1 : CW P R k x n l C) : CW P R k (.cond o x y) n l C :=
  CW.cond ho (fun _ => h1) (fun e => by cases e)
theorem CW.condF {o : Operand} (ho : ev l o = some (.bool false)) (h1 : CW P R k y n l C) : CW P R k (.cond o x y) n l C :=
  CW.cond ho (fun e => by cases e) (fun _ => h1)
/-- A test on a proposition. -/
theorem CW.test {o : Operand} {p : Prop} [Decidable p] (ho : ev l o = some (.bool (decide p))) (h1 : p → CW P R k x n l C) (h2 : ¬ p → CW P R k y n l C) : CW P R k (.cond o x y) n l C :=
  CW.cond ho (fun e => h1 (of_decide_eq_true e)) (fun e => h2 (of_decide_eq_false e))
theorem CW.weaken (l' : List (Nat × Value)) (C' : World → Prop) (hl : SubL l' l) (hC : ∀ w, C w → C' w) (h : CW P R k c n l' C') : CW P R k c n l C :=
  ⟨fun a w he hc => h.run a w (he.sub hl.sub) (hC w hc)⟩
theorem CW.fact {F : Prop} (hF : ∀ w, C w → F) (h : F → CW P R k c n l C) : CW P R k c n l C := ⟨fun a w he hc => (h (hF w hc)).run a w he hc⟩
theorem CW.ex {X : Type} {C' : X → World → Prop} (hC : ∀ w, C w → ∃ x, C' x w) (h : ∀ x, CW P R k c n l (C' x)) : CW P R k c n l C :=
  ⟨fun _ w he hc => let ⟨x, hx⟩ := hC w hc; (h x).run _ w he hx⟩

theorem KN.code (h : CW P R k y n l C) : KN P R (.code y :: k) n l C := ⟨fun a w he hc => h.run a w he hc⟩
theorem KN.blk {id : Nat} (h : KN P R k n l C) : KN P R (.blk id :: k) n l C := ⟨fun a w he hc => h.run a w he hc⟩
theorem KN.weaken (l' : List (Nat × Value)) (C' : World → Prop) (hl : SubL l' l) (hC : ∀ w, C w → C' w) (h : KN P R k n l' C') : KN P R k n l C :=
  ⟨fun a w he hc => h.run a w (he.sub hl.sub) (hC w hc)⟩
theorem KN.fact {F : Prop} (hF : ∀ w, C w → F) (h : F → KN P R k n l C) : KN P R k n l C := ⟨fun a w he hc => (h (hF w hc)).run a w he hc⟩

/-- A loop: 'G': the states of the rounds. -/
theorem wp_loop_ghost {G : Type} {Q : Exit → Act → World → Prop} (I : G → Act → World → Prop) (μ : G → Nat)
    (round : ∀ g a w, I g a w → c.wp P (Exit.then (fun a' w' => ∃ g', I g' a' w' ∧ μ g' < μ g) Q) a w) (g₀ : G) {a : Act} {w : World} (h₀ : I g₀ a w) : (Code.loop c).wp P Q a w := by
  intro b k cs
  have key : ∀ (m : Nat) (g : G) (a : Act) (w : World), μ g = m → I g a w → ∃ e a' w', Q e a' w' ∧ Arrives P (lone (b.at a (.code c :: .inLoop c :: k)) cs w) b k cs e a' w' := by
    intro m
    induction m using Nat.strongRecOn with
    | _ m ih =>
      intro g a w hm hI
      obtain ⟨e, a₁, w₁, hq, harr⟩ := round g a w hI b (.inLoop c :: k) cs
      cases e with
      | normal =>
        obtain ⟨g', hI', hlt⟩ := hq
        obtain ⟨e₂, a₂, w₂, hq₂, harr₂⟩ := ih (μ g') (hm ▸ hlt) g' a₁ w₁ rfl hI'
        exact ⟨e₂, a₂, w₂, hq₂, .of_steps (Steps.trans harr (.one step_inLoop)) harr₂⟩
      | exit id => exact ⟨_, a₁, w₁, hq, .pass (x := .inLoop c) rfl (fun _ _ => .inl (by simp)) harr⟩
      | goto l => exact ⟨_, a₁, w₁, hq, .pass (x := .inLoop c) rfl (fun _ _ => .inl (by simp)) harr⟩
      | ret => exact ⟨_, a₁, w₁, hq, .pass (x := .inLoop c) rfl (fun _ _ => .inl (by simp)) harr⟩
      | panic ch => exact ⟨_, a₁, w₁, hq, .pass (x := .inLoop c) rfl (fun _ _ => .inl (by simp)) harr⟩
      | outgrown => exact ⟨_, a₁, w₁, hq, .pass (x := .inLoop c) rfl (fun _ _ => .inl (by simp)) harr⟩
  obtain ⟨e, a', w', hq, harr⟩ := key _ g₀ a w rfl h₀
  exact ⟨e, a', w', hq, .of_steps (.one step_loop) harr⟩

structure Back {G : Type} (n : Nat) (lf : G → List (Nat × Value)) (Cf : G → World → Prop) (pf : G → Prop) (μ : G → Nat) (m : Nat) (a : Act) (w : World) : Prop where
  back : ∃ g', (Env n (lf g') a ∧ Cf g' w ∧ pf g') ∧ μ g' < m

theorem CW.loop {G : Type} (lf : G → List (Nat × Value)) (Cf : G → World → Prop) (pf : G → Prop) (μ : G → Nat) (g₀ : G) (hl : SubL (lf g₀) l) (hC : ∀ w, C w → Cf g₀ w) (hp : pf g₀)
    (hr : ∀ g, pf g → CW P R (.lp (Back n lf Cf pf μ (μ g)) :: k) c n (lf g) (Cf g)) : CW P R k (.loop c) n l C := by
  refine ⟨fun a w he hc => ?_⟩
  refine wp_loop_ghost (fun g a w => Env n (lf g) a ∧ Cf g w ∧ pf g) μ (fun g a w hg => ?_) g₀ ⟨he.sub hl.sub, hC w hc, hp⟩
  exact wp_mono ((hr g hg.2.2).run a w hg.1 hg.2.1) (fun e a' w' hk => by cases e <;> first | exact hk | exact hk.back)

/-- The round's end. -/
theorem KN.back {G : Type} {lf : G → List (Nat × Value)} {Cf : G → World → Prop} {pf : G → Prop} {μ : G → Nat} {m : Nat} (g' : G) (hl : SubL (lf g') l) (hC : ∀ w, C w → Cf g' w) (hp : pf g') (hm : μ g' < m) :
    KN P R (.lp (Back n lf Cf pf μ m) :: k) n l C := ⟨fun _ w he hc => ⟨g', ⟨he.sub hl.sub, hC w hc, hp⟩, hm⟩⟩

/-- What holds where ways meet. -/
structure Join {G : Type} (n : Nat) (lf : G → List (Nat × Value)) (Cf : G → World → Prop) (pf : G → Prop) (a : Act) (w : World) : Prop where
  join : ∃ g, Env n (lf g) a ∧ Cf g w ∧ pf g
theorem CW.cut {G : Type} (lf : G → List (Nat × Value)) (Cf : G → World → Prop) (pf : G → Prop) (hx : CW P R (.lp (Join n lf Cf pf) :: k) x n l C) (hy : ∀ g, pf g → CW P R k y n (lf g) (Cf g)) : CW P R k (.seq x y) n l C :=
  ⟨fun a w he hc => wp_seq (wp_mono (hx.run a w he hc) (fun e a w hk => by
    cases e <;> first | exact hk | (obtain ⟨g, h1, h2, h3⟩ := hk.join; exact (hy g h3).run a w h1 h2)))⟩
theorem KN.join {G : Type} {lf : G → List (Nat × Value)} {Cf : G → World → Prop} {pf : G → Prop} (g : G) (hl : SubL (lf g) l) (hC : ∀ w, C w → Cf g w) (hp : pf g) : KN P R (.lp (Join n lf Cf pf) :: k) n l C :=
  ⟨fun _ w he hc => ⟨g, he.sub hl.sub, hC w hc, hp⟩⟩

/-! ### Regions in code -/
theorem CW.reg {id : Nat} {ops : Array Oper} (is : List Nat) (hi : sp is = seqPlan 0 ops.size) (h : SX P ops (fun _ => True) (Kt P R k .normal) (sp is) n l C) : CW P R k (.region id ops false) n l C :=
  ⟨fun a w he hc => wp_mono (wp_straight (by rw [← hi]; exact h.run a w he hc trivial)) (fun e a w hk => by cases e <;> first | exact hk | exact hk.elim)⟩
/-- A region that draws its order, by a plan. -/
theorem CW.regD {id : Nat} {ops : Array Oper} (p : Plan) (S : World → Prop) (hm : P.follows .mixedOrders = true) (hok : (Region.noSelect ops && planOk ops p ops.size (Array.replicate ops.size false) none) = true)
    (hd : ∀ w, C w → C w.drew) (hS : ∀ w, C w → S w) (h : SX P ops S (Kt P R k .normal) p n l C) : CW P R k (.region id ops true) n l C :=
  ⟨fun a w he hc => wp_mono (wp_planned p hm hok (hS _ (hd w hc)) (h.run a w.drew he (hd w hc) (hS _ (hd w hc)))) (fun e a w hk => by cases e <;> first | exact hk | exact hk.elim)⟩
theorem SX.end_ {ops : Array Oper} {S : World → Prop} (h : KN P R k n l C) : SX P ops S (Kt P R k .normal) .done n l C := SX.done h.run
theorem SX.next {ops : Array Oper} {S : World → Prop} (h : CW P R k y n l C) : SX P ops S (Kt P R (.code y :: k) .normal) .done n l C := SX.done h.run

/-! ### A function -/
def argEnv (i : Nat) : List Value → List (Nat × Value)
  | [] => []
  | v :: r => (i, v) :: argEnv (i + 1) r

theorem lk_argEnv : ∀ (vs : List Value) (i t : Nat) (v : Value), lk t (argEnv i vs) = some v → i ≤ t ∧ vs[t - i]? = some v
  | [], _, _, _, h => by simp [argEnv, lk] at h
  | u :: r, i, t, v, h => by
    unfold argEnv lk at h
    by_cases e : i = t
    · subst e
      simp at h
      subst h
      simp
    · have h1 : Nat.beq i t = false := beq_ne e
      rw [h1] at h
      obtain ⟨h2, h3⟩ := lk_argEnv r (i + 1) t v h
      refine ⟨by omega, ?_⟩
      have : t - i = (t - (i + 1)) + 1 := by omega
      rw [this, List.getElem?_cons_succ]
      exact h3

/-- What the results' slots hold. -/
def resOf (l : List (Nat × Value)) : List ResultVar → Option (List Value)
  | [] => some []
  | .tmp t :: r => match lk t l, resOf l r with
    | some v, some vs => some (v :: vs)
    | _, _ => none
  | .cell _ _ :: _ => none

def resVal (a : Act) : ResultVar → Sem Value
  | .tmp t => Pure.pure (a.tmps.getD t undef)
  | .cell b t => do loadVar t (← asAddr (a.tmps.getD b undef))

theorem resOf_run {P : Program} {n : Nat} {l : List (Nat × Value)} {a : Act} {w : World} (he : Env n l a) : ∀ (rs : List ResultVar) (vs : List Value), resOf l rs = some vs →
    (rs.mapM (resVal a)).run P w = .ok vs w
  | [], vs, h => by simp [resOf] at h; subst h; rfl
  | .tmp t :: r, vs, h => by
    unfold resOf at h
    split at h
    · rename_i v us h1 h2
      simp at h
      subst h
      have ih := resOf_run (P := P) (w := w) he r us h2
      have hv : a.tmps.getD t undef = v := he.ev (x := .tmp t) h1
      simp only [List.mapM_cons, resVal, hv, Sem.run_bind, ih, Sem.run_pure, Result.andThen_ok]
    · cases h
  | .cell _ _ :: _, vs, h => by simp [resOf] at h

def oneOf : List Value → Value
  | [v] => v
  | vs => .tuple vs.toArray

structure Rets (fn : Func) (R : Ending → World → Prop) (P : Program) (a : Act) (w : World) : Prop where
  out : a.defers = [] ∧ ∃ v, (results fn a.tmps).run P w = .ok v w ∧ R (.returned v) w

theorem KN.ret {fn : Func} {R : Ending → World → Prop} {rs : List ResultVar} {vs : List Value} (hr : fn.results = rs.toArray) (hv : resOf l rs = some vs) (h : ∀ w, C w → R (.returned (oneOf vs)) w) : KN P (Rets fn R P) [] n l C := by
  refine ⟨fun a w he hc => ⟨he.defers, _, ?_, h w hc⟩⟩
  have h1 := resOf_run (P := P) (w := w) he rs vs hv
  have h2 : results fn a.tmps = (do let vs ← fn.results.mapM (resVal a); Pure.pure (if h : vs.size = 1 then vs[0] else .tuple vs)) := by
    unfold results
    congr 1
  rw [h2, hr, List.mapM_toArray]
  simp only [Sem.run_bind, Sem.run_map, h1, Sem.run_pure, Result.andThen_ok]
  congr 1
  match vs with
  | [] => rfl
  | [v] => rfl
  | u :: v :: r =>
    rw [dif_neg (by simp)]
    rfl

theorem calls_of {f : FuncId} {fn : Func} {args : List Value} {w : World} {R : Ending → World → Prop} (hf : P.funcs[f]? = some fn) (hb : fn.body = some c) (hn : fn.ntmps = n) (hlen : Nat.ble args.length n = true)
    (h : CW P (Rets fn R P) [] c n (argEnv 0 args) (fun w' => w' = w)) : Calls P f args.toArray w R := by
  replace hlen : args.length ≤ n := Nat.le_of_ble_eq_true hlen
  refine calls_of_wp hf hb ?_
  refine wp_mono (h.run _ w ⟨by simp [hn]; omega, rfl, fun t v ht => ?_⟩ rfl) ?_
  · obtain ⟨_, h2⟩ := lk_argEnv args 0 t v ht
    simp only [Nat.sub_zero] at h2
    have hlt : t < args.length := by
      rcases Nat.lt_or_ge t args.length with h | h
      · exact h
      · rw [List.getElem?_eq_none h] at h2; cases h2
    rw [List.getElem?_eq_getElem hlt, Option.some.injEq] at h2
    simp [Array.getElem?_append, hlt, h2]
  · intro e a w hk
    cases e with
    | normal => exact hk.out
    | ret => exact hk.out
    | _ => exact hk.elim
end
end Go.Sx
end
section
/- What is known of memory: parts that lie apart, each with the blocks that it stands on; lemmas over any program. No condition. -/
namespace Go.Sx
open Go

/-- Of the blocks in F nothing has turned. -/
structure Fr (F : Nat → Prop) (w w' : World) : Prop where
  os : w'.os = w.os
  tape : w'.tape = w.tape
  output : w'.output = w.output
  size : w.heap.size ≤ w'.heap.size
  block : ∀ k, F k → w'.heap[k]? = w.heap[k]?

def Old (w : World) : Nat → Prop := fun k => k < w.heap.size

theorem Fr.refl (F : Nat → Prop) (w : World) : Fr F w w := ⟨rfl, rfl, rfl, Nat.le_refl _, fun _ _ => rfl⟩
theorem Fr.trans {F : Nat → Prop} {a b c : World} (h : Fr F a b) (k : Fr F b c) : Fr F a c :=
  ⟨k.os.trans h.os, k.tape.trans h.tape, k.output.trans h.output, Nat.le_trans h.size k.size, fun i hi => (k.block i hi).trans (h.block i hi)⟩
theorem Fr.mono {F G : Nat → Prop} {w w' : World} (h : Fr F w w') (hg : ∀ k, G k → F k) : Fr G w w' := ⟨h.os, h.tape, h.output, h.size, fun k hk => h.block k (hg k hk)⟩
theorem Fr.below {w w' : World} (h : Fr (Old w) w w') : Go.RowKit.Below w.heap.size w w' := ⟨h.os, h.tape, h.output, h.size, h.block⟩
structure Atom where
  ok : World → (Nat → Prop) → Prop
  loc : ∀ {w w' : World} {D : Nat → Prop}, ok w D → (∀ k, D k → w'.heap[k]? = w.heap[k]?) → ok w' D

def Sep (F : Nat → Prop) : List Atom → World → Prop
  | [], _ => True
  | A :: L, w => ∃ D : Nat → Prop, A.ok w D ∧ (∀ k, D k → ¬ F k ∧ k < w.heap.size) ∧ Sep (fun k => F k ∨ D k) L w

theorem Sep.mono : ∀ {L : List Atom} {F F' : Nat → Prop} {w w' : World}, Sep F L w → (∀ k, k < w.heap.size → ¬ F k → w'.heap[k]? = w.heap[k]?) → w.heap.size ≤ w'.heap.size →
    (∀ k, F' k → F k ∨ w.heap.size ≤ k) → Sep F' L w'
  | [], _, _, _, _, _, _, _, _ => trivial
  | A :: L, F, F', w, w', h, hb, hs, hf => by
    obtain ⟨D, h1, h2, h3⟩ := h
    refine ⟨D, A.loc h1 (fun k hk => hb k (h2 k hk).2 (h2 k hk).1), fun k hk => ⟨fun hk' => ?_, Nat.lt_of_lt_of_le (h2 k hk).2 hs⟩, Sep.mono h3 (fun k hk hn => hb k hk (fun hf => hn (.inl hf))) hs ?_⟩
    · rcases hf k hk' with h | h
      · exact (h2 k hk).1 h
      · exact absurd (h2 k hk).2 (by omega)
    · rintro k (hk | hk)
      · exact (hf k hk).imp .inl id
      · exact .inl (.inr hk)

theorem Sep.at_ : ∀ {L : List Atom} {F : Nat → Prop} {w : World} {i : Nat} {A : Atom}, Sep F L w → L[i]? = some A →
    ∃ D : Nat → Prop, A.ok w D ∧ (∀ k, D k → ¬ F k ∧ k < w.heap.size) ∧ ∀ (w' : World) (A' : Atom) (D' : Nat → Prop), (∀ k, ¬ D k → ¬ F k → k < w.heap.size → w'.heap[k]? = w.heap[k]?) →
      w.heap.size ≤ w'.heap.size → A'.ok w' D' → (∀ k, D' k → (D k ∨ w.heap.size ≤ k) ∧ k < w'.heap.size) → (∀ k, F k → k < w.heap.size) → Sep F (L.set i A') w'
  | [], _, _, _, _, _, hi => by simp at hi
  | B :: R, F, w, 0, A, h, hi => by
    simp at hi
    subst hi
    obtain ⟨D, h1, h2, h3⟩ := h
    refine ⟨D, h1, h2, fun w' A' D' hb hs ha hd hF => ⟨D', ha, fun k hk => ⟨fun hf => ?_, (hd k hk).2⟩, Sep.mono h3 (fun k hk hn => hb k (fun h => hn (.inr h)) (fun h => hn (.inl h)) hk) hs ?_⟩⟩
    · rcases (hd k hk).1 with h | h
      · exact (h2 k h).1 hf
      · have := hF k hf; omega
    · rintro k (hk | hk)
      · exact .inl (.inl hk)
      · exact (hd k hk).1.imp .inr id
  | B :: R, F, w, i + 1, A, h, hi => by
    obtain ⟨E, h1, h2, h3⟩ := h
    obtain ⟨D, k1, k2, k3⟩ := Sep.at_ (i := i) h3 (by simpa using hi)
    refine ⟨D, k1, fun k hk => ⟨fun hf => (k2 k hk).1 (.inl hf), (k2 k hk).2⟩, fun w' A' D' hb hs ha hd hF => ?_⟩
    refine ⟨E, B.loc h1 (fun k hk => hb k (fun hd => (k2 k hd).1 (.inr hk)) (h2 k hk).1 (h2 k hk).2), fun k hk => ⟨(h2 k hk).1, Nat.lt_of_lt_of_le (h2 k hk).2 hs⟩, ?_⟩
    refine k3 w' A' D' (fun k hk hn => hb k hk (fun hf => hn (.inl hf))) hs ha hd ?_
    rintro k (hk | hk)
    · exact hF k hk
    · exact (h2 k hk).2

theorem Sep.app : ∀ {L₁ L₂ : List Atom} {F : Nat → Prop} {w : World} {b : Nat}, Sep (fun k => F k ∨ k < b) L₁ w → (∀ G : Nat → Prop, (∀ k, G k → F k ∨ b ≤ k) → Sep G L₂ w) → Sep F (L₁ ++ L₂) w
  | [], L₂, F, w, b, _, h2 => h2 F (fun k hk => .inl hk)
  | A :: L, L₂, F, w, b, h1, h2 => by
    obtain ⟨D, k1, k2, k3⟩ := h1
    refine ⟨D, k1, fun k hk => ⟨fun hf => (k2 k hk).1 (.inl hf), (k2 k hk).2⟩, ?_⟩
    have hD : ∀ k, D k → b ≤ k := fun k hk => Nat.le_of_not_lt (fun hlt => (k2 k hk).1 (.inr hlt))
    refine Sep.app (b := b) (Sep.mono k3 (fun _ _ _ => rfl) (Nat.le_refl _) ?_) (fun G hG => h2 G (fun k hk => ?_))
    · rintro k ((hk | hk) | hk)
      · exact .inl (.inl (.inl hk))
      · exact .inl (.inr hk)
      · exact .inl (.inl (.inr hk))
    · rcases hG k hk with (h | h) | h
      · exact .inl h
      · exact .inr (hD k h)
      · exact .inr h

theorem Sep.weak : ∀ {L : List Atom} {F F' : Nat → Prop} {w : World}, Sep F L w → (∀ k, F' k → F k) → Sep F' L w := fun h hf => Sep.mono h (fun _ _ _ => rfl) (Nat.le_refl _) (fun _ hk => .inl (hf _ hk))

theorem Sep.tail {A : Atom} {L : List Atom} {F : Nat → Prop} {w : World} (h : Sep F (A :: L) w) : Sep F L w := let ⟨_, _, _, h3⟩ := h; h3.weak (fun _ => .inl)
theorem Sep.swap {A B : Atom} {L : List Atom} {F : Nat → Prop} {w : World} (h : Sep F (A :: B :: L) w) : Sep F (B :: A :: L) w := by
  obtain ⟨D, h1, h2, E, h3, h4, h5⟩ := h
  refine ⟨E, h3, fun k hk => ⟨fun hf => (h4 k hk).1 (.inl hf), (h4 k hk).2⟩, D, h1, fun k hk => ⟨?_, (h2 k hk).2⟩, h5.weak ?_⟩
  · rintro (hf | hf)
    · exact (h2 k hk).1 hf
    · exact (h4 k hf).1 (.inr hk)
  · rintro k ((h | h) | h)
    · exact .inl (.inl h)
    · exact .inr h
    · exact .inl (.inr h)
/-- An atom is put at the head. -/
theorem Sep.front : ∀ {L : List Atom} {F : Nat → Prop} {w : World} {i : Nat} {A : Atom}, Sep F L w → L[i]? = some A → Sep F (A :: L.eraseIdx i) w
  | [], _, _, _, _, _, hi => by simp at hi
  | B :: R, F, w, 0, A, h, hi => by simp at hi; subst hi; simpa using h
  | B :: R, F, w, i + 1, A, h, hi => by
    obtain ⟨D, h1, h2, h3⟩ := h
    have ih := Sep.front (i := i) h3 (by simpa using hi)
    exact Sep.swap (⟨D, h1, h2, ih⟩ : Sep F (B :: A :: R.eraseIdx i) w)
/-- The atoms that are kept, in the order that is named. -/
def picks (L : List Atom) : List Nat → Option (List Atom)
  | [] => some []
  | i :: r => match L[i]?, picks (L.eraseIdx i) r with
    | some A, some R => some (A :: R)
    | _, _ => none
theorem Sep.pick : ∀ {is : List Nat} {L L' : List Atom} {F : Nat → Prop} {w : World}, picks L is = some L' → Sep F L w → Sep F L' w
  | [], L, L', F, w, h, _ => by simp [picks] at h; subst h; trivial
  | i :: r, L, L', F, w, h, hs => by
    unfold picks at h
    split at h
    · rename_i A R h1 h2
      simp at h
      subst h
      obtain ⟨D, k1, k2, k3⟩ := hs.front h1
      exact ⟨D, k1, k2, Sep.pick h2 k3⟩
    · cases h

theorem Sep.drop : ∀ {L₁ L₂ : List Atom} {F : Nat → Prop} {w : World}, Sep F (L₁ ++ L₂) w → Sep F L₂ w
  | [], _, _, _, h => h
  | _ :: L₁, _, _, _, h => Sep.drop (L₁ := L₁) h.tail

/-- What is known of the world at hand: of the blocks in F nothing has turned since w₀; what L says lies apart from them and from one another. -/
structure St (F : Nat → Prop) (w₀ : World) (L : List Atom) (w : World) : Prop where
  fr : Fr F w₀ w
  lt : ∀ k, F k → k < w₀.heap.size
  sep : Sep F L w

abbrev Sto (w₀ : World) (L : List Atom) (w : World) : Prop := St (Old w₀) w₀ L w

section
variable {F : Nat → Prop} {w₀ w w' : World} {L L' : List Atom} {A : Atom}

theorem St.start (w : World) : Sto w [] w := ⟨Fr.refl _ _, fun _ h => h, trivial⟩
theorem St.of_eq {v : World} (h : v = w) : Sto w [] v := by subst h; exact St.start _
theorem St.lt' (h : St F w₀ L w) (k : Nat) (hk : F k) : k < w.heap.size := Nat.lt_of_lt_of_le (h.lt k hk) h.fr.size

theorem St.turn (h : St F w₀ L w) (hw : Fr (Old w) w w') : St F w₀ L w' :=
  ⟨h.fr.trans (hw.mono (fun k hk => h.lt' k hk)), h.lt, Sep.mono h.sep (fun k hk _ => hw.block k hk) hw.size (fun _ hk => .inl hk)⟩
theorem St.drew (h : St F w₀ L w) : St F w₀ L w.drew := h.turn ⟨rfl, rfl, rfl, Nat.le_refl _, fun _ _ => rfl⟩
theorem St.join (h : St F w₀ L w) (h' : Sto w L' w') : St F w₀ (L' ++ L) w' := by
  refine ⟨(h.turn h'.fr).fr, h.lt, ?_⟩
  refine Sep.app (b := w.heap.size) (h'.sep.weak ?_) (fun G hG => Sep.mono h.sep (fun k hk _ => h'.fr.block k hk) h'.fr.size hG)
  rintro k (hk | hk)
  · exact h.lt' k hk
  · exact hk
theorem St.pick (is : List Nat) (hp : picks L is = some L') (h : St F w₀ L w) : St F w₀ L' w := ⟨h.fr, h.lt, h.sep.pick hp⟩
theorem St.nothing (h : St F w₀ L w) : St F w₀ [] w := ⟨h.fr, h.lt, trivial⟩

/-- Something holds in the world, and stands on blocks that are there. -/
def Has (A : Atom) (w : World) : Prop := ∃ D : Nat → Prop, A.ok w D ∧ ∀ k, D k → k < w.heap.size
theorem Has.turn (h : Has A w) (hw : Fr (Old w) w w') : Has A w' :=
  let ⟨D, h1, h2⟩ := h
  ⟨D, A.loc h1 (fun k hk => hw.block k (h2 k hk)), fun k hk => Nat.lt_of_lt_of_le (h2 k hk) hw.size⟩
theorem St.old (h : Sto w₀ L w) (ha : Has A w₀) : Has A w := ha.turn h.fr
theorem St.has {i : Nat} (hi : L[i]? = some A) (h : St F w₀ L w) : Has A w :=
  let ⟨D, h1, h2, _⟩ := h.sep.at_ hi
  ⟨D, h1, fun k hk => (h2 k hk).2⟩
theorem St.cell {a : Addr} {v : Value} (h : Sto w₀ L w) (hc : w₀.cell? a = some v) : w.cell? a = some v :=
  (World.cell?_of_block (w := w₀) (h.fr.block a.block (World.block_lt_of_cell? w₀ a hc))).trans hc
/-- One atom turns into another. -/
theorem St.swap {A' : Atom} {i : Nat} (hi : L[i]? = some A) (hA : ∀ (w : World) (D : Nat → Prop), A.ok w D → (∀ k, D k → k < w.heap.size) → ∃ D' : Nat → Prop, A'.ok w D' ∧ ∀ k, D' k → D k) (h : St F w₀ L w) : St F w₀ (L.set i A') w := by
  obtain ⟨D, h1, h2, h3⟩ := h.sep.at_ hi
  obtain ⟨D', k1, k2⟩ := hA w D h1 (fun k hk => (h2 k hk).2)
  exact ⟨h.fr, h.lt, h3 w A' D' (fun _ _ _ _ => rfl) (Nat.le_refl _) k1 (fun k hk => ⟨.inl (k2 k hk), (h2 k (k2 k hk)).2⟩) (fun k hk => h.lt' k hk)⟩
/-- One part is worked on: of all else nothing turns. -/
theorem St.work {i : Nat} (hi : L[i]? = some A) (h : St F w₀ L w) : ∃ D : Nat → Prop, A.ok w D ∧ (∀ k, D k → k < w.heap.size) ∧ ∀ (w' : World) (A' : Atom) (D' : Nat → Prop),
    Fr (fun k => k < w.heap.size ∧ ¬ D k) w w' → A'.ok w' D' → (∀ k, D' k → (D k ∨ w.heap.size ≤ k) ∧ k < w'.heap.size) → St F w₀ (L.set i A') w' := by
  obtain ⟨D, h1, h2, h3⟩ := h.sep.at_ hi
  refine ⟨D, h1, fun k hk => (h2 k hk).2, fun w' A' D' hf ha hd => ⟨h.fr.trans (hf.mono (fun k hk => ⟨h.lt' k hk, fun hD => (h2 k hD).1 hk⟩)), h.lt, ?_⟩⟩
  exact h3 w' A' D' (fun k hk _ hlt => hf.block k ⟨hlt, hk⟩) hf.size ha hd (fun k hk => h.lt' k hk)
end

/-! ### Atoms -/
/-- Block g, whole. -/
def blk (g : Nat) (T : TypeId) (cs : Array Value) : Atom where
  ok w D := (∀ k, D k ↔ k = g) ∧ w.heap[g]? = some (.cells cs T (0, 0))
  loc := fun ⟨h1, h2⟩ hb => ⟨h1, (hb _ ((h1 _).2 rfl)).trans h2⟩

theorem cell_of_blk {w : World} {g : Nat} {T : TypeId} {cs : Array Value} (h : w.heap[g]? = some (.cells cs T (0, 0))) (j : Nat) : w.cell? ⟨g, j, none⟩ = cs[j]? := by simp [World.cell?, h]
theorem frozen_of_blk {w : World} {g : Nat} {T : TypeId} {cs : Array Value} (h : w.heap[g]? = some (.cells cs T (0, 0))) (j : Nat) : w.frozen? ⟨g, j, none⟩ = false := by simp [World.frozen?, h]
theorem heap_set_same {w : World} {g : Nat} {T : TypeId} {cs : Array Value} (h : w.heap[g]? = some (.cells cs T (0, 0))) (j : Nat) (v : Value) : (w.setCell ⟨g, j, none⟩ v).heap[g]? = some (.cells (cs.setIfInBounds j v) T (0, 0)) := by
  simp [World.setCell, Array.getElem?_modify, h]
theorem heap_set_other (w : World) (a : Addr) (v : Value) {k : Nat} (h : k ≠ a.block) : (w.setCell a v).heap[k]? = w.heap[k]? := Go.RowKit.Below.heap_setCell w a v k h

section
variable {F : Nat → Prop} {w₀ w w' : World} {L L' : List Atom} {A : Atom} {g : Nat} {T : TypeId} {cs : Array Value}

theorem St.blkCell {i : Nat} (hi : L[i]? = some (blk g T cs)) {j : Nat} {v : Value} (hv : cs[j]? = some v) (h : St F w₀ L w) : w.cell? ⟨g, j, none⟩ = some v := by
  obtain ⟨D, ⟨_, h2⟩, _⟩ := h.sep.at_ hi
  rw [cell_of_blk h2]; exact hv
theorem St.blkFree {i : Nat} (hi : L[i]? = some (blk g T cs)) (j : Nat) (h : St F w₀ L w) : w.frozen? ⟨g, j, none⟩ = false := by
  obtain ⟨D, ⟨_, h2⟩, _⟩ := h.sep.at_ hi
  exact frozen_of_blk h2 j
theorem St.blkSet {i : Nat} (hi : L[i]? = some (blk g T cs)) (j : Nat) (v : Value) (h : St F w₀ L w) : St F w₀ (L.set i (blk g T (cs.setIfInBounds j v))) (w.setCell ⟨g, j, none⟩ v) := by
  obtain ⟨D, ⟨h1, h2⟩, h3, h4⟩ := h.work hi
  refine h4 _ _ D ⟨rfl, rfl, rfl, by simp [World.setCell], fun k hk => heap_set_other _ _ _ (fun e => hk.2 ((h1 k).2 e))⟩ ⟨h1, heap_set_same h2 j v⟩ (fun k hk => ⟨.inl hk, by simp [World.setCell]; exact h3 k hk⟩)
theorem St.alloc (T : TypeId) (cs : Array Value) (h : St F w₀ L w) : St F w₀ (blk w.heap.size T cs :: L) (w.alloc (.cells cs T)) :=
  h.join (L' := [blk w.heap.size T cs]) ⟨⟨rfl, rfl, rfl, by simp, fun k hk => Go.RowKit.Below.heap_alloc w _ k hk⟩, fun _ hk => hk,
    ⟨fun k => k = w.heap.size, ⟨fun k => Iff.rfl, heap_alloc_new w _⟩, fun k hk => ⟨by simp [Old]; omega, by simp; omega⟩, trivial⟩⟩
end
end Go.Sx
end
section
/- One lemma for each kind of operation, for the symbolic walk, over any program. No condition. -/
namespace Go.Sx
open Go

/-! ### What an operation does: plain runs -/
section
variable {P : Program} {w : World}

def ibit (op : BinOp) (k : IntKind) (p q : Int) : Int :=
  let a := BitVec.ofInt k.bits p
  let b := BitVec.ofInt k.bits q
  k.wrap (match op with
    | .and => a &&& b
    | .or => a ||| b
    | .xor => a ^^^ b
    | _ => a &&& ~~~b).toNat

theorem run_eqGuard_int (op : BinOp) (t : TypeId) (x y : Operand) (k k' : IntKind) (p q : Int) : (eqGuard op t x y (.int k p) (.int k' q)).run P w = .ok () w := by
  unfold eqGuard
  cases op <;> rfl

/-- A field's address. -/
class FA (P : Program) (T f : Nat) (off : outParam Nat) : Prop where
  run : ∀ (b o : Nat) (w : World), (Instr.fieldAt T (.pointer (some ⟨b, o, Option.none⟩)) f).run P w = .ok (.pointer (some ⟨b, o + off, Option.none⟩)) w

theorem add_at (b o j : Nat) : (⟨b, o, Option.none⟩ : Addr).add j = ⟨b, o + j, Option.none⟩ := by
  unfold Addr.add
  split
  · rename_i h; subst h; rfl
  · rfl

theorem run_tinfo {t : TypeId} {i : TypeInfo} (h : P.info? t = some i) (w : World) : (typeInfo t).run P w = .ok i w := by
  simp only [typeInfo, Sem.run_bind, run_program, Result.andThen_ok, h, Sem.run_pure]
theorem info_of {α : Type} {t : TypeId} {f : TypeInfo → α} {v : α} (h : (P.info? t).map f = some v) : ∃ i, P.info? t = some i ∧ f i = v := by
  cases hi : P.info? t with
  | none => rw [hi] at h; cases h
  | some i => rw [hi] at h; exact ⟨i, rfl, by simpa using h⟩

theorem FA.mk' {T f off : Nat} {fs : Array Field} {fl : Field} (hT : P.underlying T = some (.struct fs)) (hf : fs[f]? = some fl) (ho : fl.offset = off) (hi : (P.info? fl.type).map (fun i => i.size == 0) = some false) : FA P T f off := by
  obtain ⟨i, hi, hs⟩ := info_of hi
  refine ⟨fun b o w => ?_⟩
  have hs' : ¬ i.size = 0 := by simpa using hs
  simp only [Instr.fieldAt, Sem.run_bind, run_underlying hT, Sem.run_pure, Result.andThen_ok, hf, Instr.sureAddr, fieldPlace, sizeOf, run_tinfo hi, if_neg hs', add_at, ho]

def isRow : TypeDesc → Bool
  | .struct _ | .array _ _ => true
  | _ => false
/-- A type of one cell. -/
class One (P : Program) (T : TypeId) : Prop where
  agg : ∀ w, (isAgg T).run P w = .ok false w
  size : ∀ w, (sizeOf T).run P w = .ok 1 w

theorem One.mk' {T : Nat} {d : TypeDesc} (hT : P.underlying T = some d) (hd : isRow d = false) (hi : (P.info? T).map (·.size) = some 1) : One P T := by
  obtain ⟨i, hi, hs⟩ := info_of hi
  refine ⟨fun w => ?_, fun w => ?_⟩
  · simp only [isAgg, Sem.run_bind, run_underlying hT, Result.andThen_ok]
    cases d <;> first | rfl | (cases hd; done)
  · simp only [sizeOf, Sem.run_bind, run_tinfo hi, Sem.run_pure, Result.andThen_ok, hs]

/-- A kind of integer. -/
class IntT (P : Program) (T : TypeId) (k : outParam IntKind) : Prop where
  under : P.underlying T = some (.int k)
/-- A slice's type: its elements' type, how many cells and bytes one has, the zero value. -/
class SlT (P : Program) (T : TypeId) (E : outParam TypeId) (sz by_ : outParam Nat) (z : outParam Value) : Prop where
  under : P.underlying T = some (.slice E)
  info : ∃ i, P.info? E = some i ∧ i.size = sz ∧ i.bytes = by_ ∧ i.zero = some z

theorem SlT.mk' {T E sz by_ : Nat} {z : Value} (hT : P.underlying T = some (.slice E)) (hi : (P.info? E).map (fun i => (i.size, i.bytes, i.zero)) = some (sz, by_, some z)) : SlT P T E sz by_ z := by
  obtain ⟨i, hi, hs⟩ := info_of hi
  simp only [Prod.mk.injEq] at hs
  exact ⟨hT, i, hi, hs.1, hs.2.1, hs.2.2⟩

theorem run_loadAt {T : TypeId} [h1 : One P T] {a : Addr} {v : Value} (hc : w.cell? a = some v) : (Instr.loadAt T (.pointer (some a))).run P w = .ok v w := by
  simp only [Instr.loadAt, Instr.sureAddr, Sem.run_bind, Sem.run_pure, Result.andThen_ok, loadVar, h1.agg, Bool.false_eq_true, if_false]
  simp only [load, Sem.run, hc]

def oneCell : Value → Bool
  | .agg _ | .tuple _ => false
  | _ => true
theorem cells_of_one {v : Value} (h : oneCell v = true) : v.cells = #[v] := by cases v <;> simp_all [oneCell, Value.cells]

theorem run_store {a : Addr} {v u : Value} (h1 : oneCell v = true) (hc : w.cell? a = some u) (hf : w.frozen? a = false) : (store a v).run P w = .ok () (w.setCell a v) := by
  unfold store
  cases v <;> simp_all [oneCell, Sem.run]

theorem run_storeAt {T : TypeId} [h1 : One P T] {a : Addr} {v u : Value} (hv : oneCell v = true) (hc : w.cell? a = some u) (hf : w.frozen? a = false) : (Instr.storeAt T (.pointer (some a)) v).run P w = .ok () (w.setCell a v) := by
  simp only [Instr.storeAt, Instr.sureAddr, Sem.run_bind, Sem.run_pure, Result.andThen_ok, storeVar, cells_of_one hv, h1.size, List.size_toArray, List.length_cons, List.length_nil]
  simp only [ne_eq, not_true, if_false, Nat.zero_add]
  simp [storeCells, Addr.add, run_store hv hc hf]

/-! ### Numbers -/
theorem wrap_in (k : IntKind) {n : Int} (h1 : k.min ≤ n) (h2 : n ≤ k.max) : k.wrap n = n := by
  cases k <;> simp only [IntKind.min, IntKind.max, IntKind.signed, IntKind.bits, IntKind.wrap] at * <;> simp at * <;> omega
theorem w64 {n : Int} (h : -9223372036854775808 ≤ n ∧ n ≤ 9223372036854775807) : IntKind.i64.wrap n = n :=
  wrap_in .i64 (by simp [IntKind.min, IntKind.signed, IntKind.bits]; omega) (by simp [IntKind.max, IntKind.signed, IntKind.bits]; omega)
theorem run_add (t : TypeId) (k : IntKind) (p q r : Int) (hr : k.wrap (p + q) = r) : (binOp .add t (.int k p) (.int k q)).run P w = .ok (.int k r) w := by
  subst hr; simp [binOp, Op.intArith]
theorem run_sub (t : TypeId) (k : IntKind) (p q r : Int) (hr : k.wrap (p - q) = r) : (binOp .sub t (.int k p) (.int k q)).run P w = .ok (.int k r) w := by
  subst hr; simp [binOp, Op.intArith]
def isBits : BinOp → Bool
  | .and | .or | .xor | .andNot => true
  | _ => false
def isCmp : BinOp → Bool
  | .eql | .neq | .lss | .leq | .gtr | .geq => true
  | _ => false
theorem run_rem (t : TypeId) (k : IntKind) (p q : Int) (hq : q ≠ 0) : (binOp .rem t (.int k p) (.int k q)).run P w = .ok (.int k (p.tmod q)) w := by
  simp [binOp, Op.intDiv, hq]
def cmpB (op : BinOp) (p q : Int) : Bool :=
  match op with
  | .eql => decide (p = q)
  | .neq => !decide (p = q)
  | .lss => decide (p < q)
  | .leq => decide (p ≤ q)
  | .gtr => decide (q < p)
  | _ => decide (q ≤ p)
theorem run_cmp (op : BinOp) (t : TypeId) (k : IntKind) (p q : Int) (hop : isCmp op = true) : (binOp op t (.int k p) (.int k q)).run P w = .ok (.bool (cmpB op p q)) w := by
  cases op <;> first
    | (exfalso; cases hop; done)
    | (simp [binOp, Op.intCmp, cmpB]; try rfl)
end

section
variable {P : Program} {ops : Array Oper} {S : World → Prop} {K : Act → World → Prop} {p : Plan} {n : Nat} {l : List (Nat × Value)} {C : World → Prop} {fl : Bool} {i : Nat} {ty ty' ty2 ty3 : TypeId} {x y z : Operand}

theorem s_mv (d : Nat) {v : Value} (ho : opAt ops n l i = some (some d, .move x, ty)) (hx : ev l x = some v) (h : SX P ops S K p n ((d, v) :: l) C) : SX P ops S K (.st fl i p) n l C :=
  SX.pure ho (fun a w o he h1 _ => by simp only [execOp, h1, he.ev hx, Sem.run_pure]) h
theorem s_as (d : Nat) {v : Value} (ho : opAt ops n l i = some (some d, .assign x, ty)) (hx : ev l x = some v) (h : SX P ops S K p n ((d, v) :: l) C) : SX P ops S K (.st fl i p) n l C :=
  SX.pure ho (fun a w o he h1 _ => by simp only [execOp, h1, he.ev hx, Sem.run_pure]) h
theorem s_pickT (d : Nat) {u : Value} (ho : opAt ops n l i = some (some d, .pick x y z, ty)) (hx : ev l x = some (.bool true)) (hy : ev l y = some u) (h : SX P ops S K p n ((d, u) :: l) C) : SX P ops S K (.st fl i p) n l C :=
  SX.pure ho (fun a w o he h1 _ => by simp only [execOp, h1, he.ev hx, he.ev hy, asBool, Sem.run_bind, Sem.run_pure, Result.andThen_ok, if_true]) h
theorem s_pickF (d : Nat) {u : Value} (ho : opAt ops n l i = some (some d, .pick x y z, ty)) (hx : ev l x = some (.bool false)) (hz : ev l z = some u) (h : SX P ops S K p n ((d, u) :: l) C) : SX P ops S K (.st fl i p) n l C :=
  SX.pure ho (fun a w o he h1 _ => by simp only [execOp, h1, he.ev hx, he.ev hz, asBool, Sem.run_bind, Sem.run_pure, Result.andThen_ok, Bool.false_eq_true, if_false]) h
theorem s_nil (d : Nat) {a0 : Addr} (ho : opAt ops n l i = some (some d, .nilCheck x, ty)) (hx : ev l x = some (.pointer (some a0))) (h : SX P ops S K p n ((d, (.pointer (some a0))) :: l) C) : SX P ops S K (.st fl i p) n l C :=
  SX.pure ho (fun a w o he h1 _ => by simp only [execOp, h1, he.ev hx, Sem.run_pure]) h
theorem s_bin (d : Nat) {op : BinOp} {k k' : IntKind} {a b : Int} {v : Value} (ho : opAt ops n l i = some (some d, .binOp op ty x y ty', ty2)) (hx : ev l x = some (.int k a)) (hy : ev l y = some (.int k' b))
    (hr : ∀ w, (binOp op ty (.int k a) (.int k' b)).run P w = .ok v w) (h : SX P ops S K p n ((d, v) :: l) C) : SX P ops S K (.st fl i p) n l C :=
  SX.pure ho (fun a w o he h1 _ => by simp only [execOp, h1, he.ev hx, he.ev hy, Sem.run_bind, run_eqGuard_int, Result.andThen_ok, hr, Sem.run_pure]) h
/-- Sums, differences, products: 'hr' by 'w64 (by omega)', or 'rfl' with the wrap left. -/
theorem s_add (d : Nat) {k : IntKind} {a b r : Int} (ho : opAt ops n l i = some (some d, .binOp .add ty x y ty', ty2)) (hx : ev l x = some (.int k a)) (hy : ev l y = some (.int k b))
    (hr : k.wrap (a + b) = r) (h : SX P ops S K p n ((d, (.int k r)) :: l) C) : SX P ops S K (.st fl i p) n l C :=
  s_bin d ho hx hy (fun _ => run_add _ k a b r hr) h
theorem s_sub (d : Nat) {k : IntKind} {a b r : Int} (ho : opAt ops n l i = some (some d, .binOp .sub ty x y ty', ty2)) (hx : ev l x = some (.int k a)) (hy : ev l y = some (.int k b))
    (hr : k.wrap (a - b) = r) (h : SX P ops S K p n ((d, (.int k r)) :: l) C) : SX P ops S K (.st fl i p) n l C :=
  s_bin d ho hx hy (fun _ => run_sub _ k a b r hr) h
theorem s_rem (d : Nat) {k : IntKind} {a b r : Int} (ho : opAt ops n l i = some (some d, .binOp .rem ty x y ty', ty2)) (hx : ev l x = some (.int k a)) (hy : ev l y = some (.int k b))
    (hb : b ≠ 0) (hr : a.tmod b = r) (h : SX P ops S K p n ((d, (.int k r)) :: l) C) : SX P ops S K (.st fl i p) n l C :=
  s_bin d ho hx hy (fun _ => by rw [← hr]; exact run_rem _ k a b hb) h
/-- Comparisons of numbers: 'hr' by 'rfl', or by 'decide_eq_true ..', 'decide_eq_false ..'. -/
theorem s_eq (d : Nat) {k : IntKind} {a b : Int} {r : Bool} (ho : opAt ops n l i = some (some d, .binOp .eql ty x y ty', ty2)) (hx : ev l x = some (.int k a)) (hy : ev l y = some (.int k b))
    (hr : decide (a = b) = r) (h : SX P ops S K p n ((d, (.bool r)) :: l) C) : SX P ops S K (.st fl i p) n l C :=
  s_bin d ho hx hy (fun _ => by rw [← hr]; exact run_cmp .eql _ k a b rfl) h
theorem s_lt (d : Nat) {k : IntKind} {a b : Int} {r : Bool} (ho : opAt ops n l i = some (some d, .binOp .lss ty x y ty', ty2)) (hx : ev l x = some (.int k a)) (hy : ev l y = some (.int k b))
    (hr : decide (a < b) = r) (h : SX P ops S K p n ((d, (.bool r)) :: l) C) : SX P ops S K (.st fl i p) n l C :=
  s_bin d ho hx hy (fun _ => by rw [← hr]; exact run_cmp .lss _ k a b rfl) h
theorem s_le (d : Nat) {k : IntKind} {a b : Int} {r : Bool} (ho : opAt ops n l i = some (some d, .binOp .leq ty x y ty', ty2)) (hx : ev l x = some (.int k a)) (hy : ev l y = some (.int k b))
    (hr : decide (a ≤ b) = r) (h : SX P ops S K p n ((d, (.bool r)) :: l) C) : SX P ops S K (.st fl i p) n l C :=
  s_bin d ho hx hy (fun _ => by rw [← hr]; exact run_cmp .leq _ k a b rfl) h
theorem s_gt (d : Nat) {k : IntKind} {a b : Int} {r : Bool} (ho : opAt ops n l i = some (some d, .binOp .gtr ty x y ty', ty2)) (hx : ev l x = some (.int k a)) (hy : ev l y = some (.int k b))
    (hr : decide (b < a) = r) (h : SX P ops S K p n ((d, (.bool r)) :: l) C) : SX P ops S K (.st fl i p) n l C :=
  s_bin d ho hx hy (fun _ => by rw [← hr]; exact run_cmp .gtr _ k a b rfl) h
theorem s_ge (d : Nat) {k : IntKind} {a b : Int} {r : Bool} (ho : opAt ops n l i = some (some d, .binOp .geq ty x y ty', ty2)) (hx : ev l x = some (.int k a)) (hy : ev l y = some (.int k b))
    (hr : decide (b ≤ a) = r) (h : SX P ops S K p n ((d, (.bool r)) :: l) C) : SX P ops S K (.st fl i p) n l C :=
  s_bin d ho hx hy (fun _ => by rw [← hr]; exact run_cmp .geq _ k a b rfl) h
theorem s_ne (d : Nat) {k : IntKind} {a b : Int} {r : Bool} (ho : opAt ops n l i = some (some d, .binOp .neq ty x y ty', ty2)) (hx : ev l x = some (.int k a)) (hy : ev l y = some (.int k b))
    (hr : decide (a ≠ b) = r) (h : SX P ops S K p n ((d, (.bool r)) :: l) C) : SX P ops S K (.st fl i p) n l C :=
  s_bin d ho hx hy (fun w => by rw [← hr]; have := run_cmp (P := P) (w := w) .neq ty k a b rfl; rw [this]; simp [cmpB]) h
/-- An integer as one of another kind. -/
theorem s_conv (d : Nat) {k k' k1 : IntKind} {a r : Int} (ho : opAt ops n l i = some (some d, .convert ty ty' x, ty2)) [hs : IntT P ty k1] [hT : IntT P ty' k'] (hx : ev l x = some (.int k a)) (hr : k'.wrap a = r) (h : SX P ops S K p n ((d, (.int k' r)) :: l) C) : SX P ops S K (.st fl i p) n l C :=
  SX.pure ho (fun b w o he h1 _ => by
    simp only [execOp, h1, he.ev hx, Sem.run_bind, convert, run_underlying hs.under, run_underlying hT.under, Result.andThen_ok, Conv.intToInt, Sem.run_pure, hr]) h
theorem s_not (d : Nat) {b : Bool} (ho : opAt ops n l i = some (some d, .unOp .not ty x, ty2)) (hx : ev l x = some (.bool b)) (h : SX P ops S K p n ((d, (.bool (!b))) :: l) C) : SX P ops S K (.st fl i p) n l C :=
  SX.pure ho (fun a w o he h1 _ => by simp only [execOp, h1, he.ev hx, Sem.run_bind, Op.unary, Result.andThen_ok, Sem.run_pure]) h
theorem s_ext (d : Nat) {vs : Array Value} {j : Nat} {v : Value} (ho : opAt ops n l i = some (some d, .extract x j, ty)) (hx : ev l x = some (.tuple vs)) (hv : vs[j]? = some v) (h : SX P ops S K p n ((d, v) :: l) C) : SX P ops S K (.st fl i p) n l C :=
  SX.pure ho (fun a w o he h1 _ => by simp only [execOp, h1, he.ev hx, Sem.run_bind, Instr.extract, hv, Result.andThen_ok, Sem.run_pure]) h
theorem s_fa (d : Nat) {f off b o : Nat} (ho : opAt ops n l i = some (some d, .fieldAddr ty x f, ty2)) [hf : FA P ty f off] (hx : ev l x = some (.pointer (some ⟨b, o, none⟩))) (h : SX P ops S K p n ((d, (.pointer (some ⟨b, o + off, none⟩))) :: l) C) : SX P ops S K (.st fl i p) n l C :=
  SX.pure ho (fun a w o he h1 _ => by simp only [execOp, h1, he.ev hx, Sem.run_bind, hf.run, Result.andThen_ok, Sem.run_pure]) h
theorem s_mkf (d : Nat) {fn : Fn} {fs cs : Array Operand} {us vs : List Value} (ho : opAt ops n l i = some (some d, .makeFunc fn fs cs, ty)) (h1 : evs l fs.toList = some us) (h2 : evs l cs.toList = some vs) (h : SX P ops S K p n ((d, (.func fn us.toArray vs.toArray)) :: l) C) : SX P ops S K (.st fl i p) n l C :=
  SX.pure ho (fun a w o he h3 _ => by
    have e1 : fs.map a.eval = us.toArray := by apply Array.ext'; rw [Array.toList_map]; exact he.evs h1
    have e2 : cs.map a.eval = vs.toArray := by apply Array.ext'; rw [Array.toList_map]; exact he.evs h2
    simp only [execOp, h3, e1, e2, Sem.run_bind, Instr.makeFunc, Result.andThen_ok, Sem.run_pure]) h

/-- A load of one cell, first to come up (S knows the cell), or in its turn (C knows it). -/
theorem s_ldS (d : Nat) {a0 : Addr} {v : Value} (ho : opAt ops n l i = some (some d, .load ty x, ty2)) [One P ty] (hx : ev l x = some (.pointer (some a0))) (hc : ∀ w, S w → w.cell? a0 = some v) (h : SX P ops S K p n ((d, v) :: l) C) : SX P ops S K (.st true i p) n l C :=
  SX.val ho (fun a w o he hs _ h1 _ => by simp only [execOp, h1, he.ev hx, Sem.run_bind, run_loadAt (hc w (hs rfl)), Result.andThen_ok, Sem.run_pure]) h
theorem s_ld (d : Nat) {a0 : Addr} {v : Value} (ho : opAt ops n l i = some (some d, .load ty x, ty2)) [One P ty] (hx : ev l x = some (.pointer (some a0))) (hc : ∀ w, C w → w.cell? a0 = some v) (h : SX P ops S K p n ((d, v) :: l) C) : SX P ops S K (.st false i p) n l C :=
  SX.val ho (fun a w o he _ hs h1 _ => by simp only [execOp, h1, he.ev hx, Sem.run_bind, run_loadAt (hc w (hs rfl)), Result.andThen_ok, Sem.run_pure]) h
theorem s_st {C' : World → Prop} {a0 : Addr} {v : Value} (ho : opAt ops n l i = some (none, .store ty x y, ty2)) [One P ty] (hx : ev l x = some (.pointer (some a0))) (hy : ev l y = some v) (hv : oneCell v = true)
    (hc : ∀ w, C w → (∃ u, w.cell? a0 = some u) ∧ w.frozen? a0 = false ∧ C' (w.setCell a0 v)) (hS : ∀ w, C' w → S w) (h : SX P ops S K p n (l) C') : SX P ops S K (.st false i p) n l C :=
  SX.act (X := Unit) (v := fun _ => undef) (C' := fun _ => C') ho (fun a w o he hcw h1 _ => by
    obtain ⟨⟨u, hu⟩, hf, hc'⟩ := hc w hcw
    exact ⟨(), w.setCell a0 v, .inr ⟨by simp only [execOp, h1, he.ev hx, he.ev hy, Sem.run_bind, run_storeAt hv hu hf, Result.andThen_ok, Sem.run_pure], rfl⟩, hc'⟩) (fun _ => hS) (fun _ => h)

/-! ### Calls -/
theorem spec_of {f : FuncId} {fn : Func} {c : Code} {args : List Value} {w : World} {R : Ending → World → Prop} (hf : P.funcs[f]? = some fn) (hb : fn.body = some c) (hn : fn.ntmps = n) (hlen : Nat.ble args.length n = true)
    (h : CW P (Rets fn R P) [] c n (argEnv 0 args) (Sto w [])) : Calls P f args.toArray w R :=
  calls_of hf hb hn hlen ⟨fun a v he hv => h.run a v he (St.of_eq hv)⟩

/-- Function g is one that is entered. -/
class Enters (P : Program) (g : FuncId) : Prop where
  run : ∀ args w, (callFunc g args).run P w = .ok (.enter g args) w
theorem Enters.mk' {g : FuncId} {fn : Func} (hf : P.funcs[g]? = some fn) (hb : fn.body.isNone = false) (hn : (fn.name == "runtime.NumGoroutine") = false) : Enters P g :=
  ⟨fun args w => by simp only [callFunc, Sem.run_bind, run_program, Result.andThen_ok, hf, hn, hb, Bool.false_eq_true, if_false, Sem.run_pure]⟩

theorem SX.enter {d : Option Nat} {op : Op} {ty : TypeId} {g : FuncId} {args : Array Value} {X : Type} {v : X → Value} {pf : X → Prop} {C' : X → World → Prop} (ho : opAt ops n l i = some (d, op, ty))
    (hrun : ∀ a w (o : Oper), Env n l a → o.op = op → o.type = ty → (execOp a.eval o).run P w = .ok (.enter g args) w)
    (hc : ∀ w, C w → Calls P g args w (fun e w' => ∃ x, e = .returned (v x) ∧ pf x ∧ C' x w')) (hS : ∀ x w, C' x w → S w)
    (h : ∀ x, pf x → SX P ops S K p n (insO d (v x) l) (C' x)) : SX P ops S K (.st false i p) n l C := by
  refine ⟨fun a w he hcw _ => ?_⟩
  unfold opAt at ho
  split at ho
  · rename_i o hoi
    by_cases hb : (wantB ops l o.guard && okD n o.dst) = true
    · rw [hb] at ho
      simp only [cond_true, Option.some.injEq, Prod.mk.injEq] at ho
      obtain ⟨rfl, rfl, rfl⟩ := ho
      rw [Bool.and_eq_true] at hb
      simp only [PW, hoi, wanted_of he hb.1, if_true, Oper.wp, hrun a w o he rfl rfl, Oper.upon_enter]
      refine (hc w hcw).mono ?_
      rintro e w' ⟨x, rfl, hp, hc'⟩
      exact ⟨hS x w' hc', (h x hp).run _ w' (he.putO hb.2 (v x)) hc' (hS x w' hc')⟩
    · have : (wantB ops l o.guard && okD n o.dst) = false := by simpa using hb
      rw [this] at ho
      cases ho
  · cases ho

theorem run_call {a : Act} {w : World} {o : Oper} {x : Operand} {as1 : Array Operand} {ts : Array TypeId} {g : FuncId} {fs cs : Array Value} {vs L : List Value} (he : Env n l a) (h1 : o.op = .call ⟨.value x, as1, ts⟩)
    (hx : ev l x = some (.func (.func g) fs cs)) (has : evs l as1.toList = some vs) (hL : fs.toList ++ vs ++ cs.toList = L) [hg : Enters P g] : (execOp a.eval o).run P w = .ok (.enter g L.toArray) w := by
  have e1 : as1.map a.eval = vs.toArray := by apply Array.ext'; rw [Array.toList_map]; exact he.evs has
  have e2 : fs ++ vs.toArray ++ cs = L.toArray := by rw [← hL]; simp
  simp only [execOp, h1, resolve, e1, he.ev hx, Deferred.ofValue, Sem.run_bind, Sem.run_pure, Result.andThen_ok, invoke, e2, hg.run]

/-- What a contract says: what is answered, and what is known of the world behind it. -/
def SpecX (P : Program) (g : FuncId) (args : List Value) (w : World) {X : Type} (v : X → Value) (pf : X → Prop) (L : X → List Atom) : Prop :=
  Calls P g args.toArray w (fun e w' => ∃ x, e = .returned (v x) ∧ pf x ∧ Sto w (L x) w')
/-- The same where one value is answered and nothing made that is told of. -/
def Spec1 (P : Program) (g : FuncId) (args : List Value) (w : World) (v : Value) : Prop :=
  Calls P g args.toArray w (fun e w' => e = .returned v ∧ Sto w [] w')

theorem s_call (d : Nat) {F : Nat → Prop} {w₀ : World} {A : List Atom} {as1 : Array Operand} {ts : Array TypeId} {g : FuncId} {fs cs : Array Value} {vs L : List Value} {X : Type} {v : X → Value} {pf : X → Prop} {L' : X → List Atom}
    (ho : opAt ops n l i = some (some d, .call ⟨.value x, as1, ts⟩, ty)) (hx : ev l x = some (.func (.func g) fs cs)) (has : evs l as1.toList = some vs) (hL : fs.toList ++ vs ++ cs.toList = L) [hg : Enters P g]
    (hc : ∀ w, St F w₀ A w → SpecX P g L w v pf L') (hS : ∀ w, St F w₀ A w → S w) (h : ∀ x, pf x → SX P ops S K p n ((d, (v x)) :: l) (St F w₀ (L' x ++ A))) : SX P ops S K (.st false i p) n l (St F w₀ A) := by
  refine SX.enter (C' := fun x w => St F w₀ (L' x ++ A) w) ho (fun a w o he h1 _ => run_call he h1 hx has hL) (fun w hw => (hc w hw).mono ?_) (fun x w hw => hS w ?_) h
  · rintro e w' ⟨x, he, hp, hs⟩
    exact ⟨x, he, hp, hw.join hs⟩
  · exact ⟨hw.fr, hw.lt, Sep.drop hw.sep⟩
theorem s_call1 (d : Nat) {F : Nat → Prop} {w₀ : World} {A : List Atom} {as1 : Array Operand} {ts : Array TypeId} {g : FuncId} {fs cs : Array Value} {vs L : List Value} {v : Value}
    (ho : opAt ops n l i = some (some d, .call ⟨.value x, as1, ts⟩, ty)) (hx : ev l x = some (.func (.func g) fs cs)) (has : evs l as1.toList = some vs) (hL : fs.toList ++ vs ++ cs.toList = L) [hg : Enters P g]
    (hc : ∀ w, St F w₀ A w → Spec1 P g L w v) (hS : ∀ w, St F w₀ A w → S w) (h : SX P ops S K p n ((d, v) :: l) (St F w₀ A)) : SX P ops S K (.st false i p) n l (St F w₀ A) :=
  s_call d (X := Unit) (v := fun _ => v) (pf := fun _ => True) (L' := fun _ => []) ho hx has hL (fun w hw => (hc w hw).mono (fun _ _ ⟨h1, h2⟩ => ⟨(), h1, trivial, h2⟩)) hS (fun _ _ => h)
end
end Go.Sx
end
section
/- One lemma for each kind of operation on memory, for the symbolic walk, over any program. No condition. -/
namespace Go.Sx
open Go

def ob : Option Addr → Nat
  | some a => a.block
  | none => 0
def oo : Option Addr → Nat
  | some a => a.off
  | none => 0

/-! ### Atoms for slices -/
/-- A slice of cells that is read: 'vs': what its n elements of sz cells hold. -/
def sl (sz : Nat) (A : Option Addr) (n : Nat) (vs : List Value) : Atom where
  ok w D := vs.length = n * sz ∧ (n ≠ 0 → A = some ⟨ob A, oo A, none⟩ ∧ D (ob A) ∧ ∀ j v, vs[j]? = some v → w.cell? ⟨ob A, oo A + j, none⟩ = some v)
  loc := fun ⟨h1, h2⟩ hb => ⟨h1, fun hn => ⟨(h2 hn).1, (h2 hn).2.1, fun j v hj => (World.cell?_of_block (hb _ (h2 hn).2.1)).trans ((h2 hn).2.2 j v hj)⟩⟩

/-- A slice that the walk owns, from the head of a block of its own. -/
def own (E : TypeId) (sz : Nat) (A : Option Addr) (n c : Nat) (vs : List Value) : Atom where
  ok w D := w.ownsRow 0 E sz (.slice A n c) n vs ∧ (∀ k, D k ↔ A ≠ none ∧ k = ob A)
  loc := by
    rintro w w' D ⟨⟨h1, h2⟩, h3⟩ hb
    refine ⟨⟨h1, ?_⟩, h3⟩
    rcases h2 with h2 | ⟨g, cap, cur, hv, hg, hh, r⟩
    · exact .inl h2
    · refine .inr ⟨g, cap, cur, hv, hg, ?_, r⟩
      injection hv with hA
      subst hA
      rw [hb g ((h3 g).2 ⟨by simp, rfl⟩)]
      exact hh

theorem own_sl {E : TypeId} {sz : Nat} {A : Option Addr} {n c : Nat} {vs : List Value} {w : World} {D : Nat → Prop} (h : (own E sz A n c vs).ok w D) : (sl sz A n vs).ok w D := by
  obtain ⟨⟨h1, h2⟩, h3⟩ := h
  refine ⟨h1, fun hn => ?_⟩
  rcases h2 with ⟨_, h⟩ | ⟨g, cap, cur, hv, hg, hh, hc, hm, hs, ht⟩
  · exact absurd h hn
  · injection hv with hA
    subst hA
    refine ⟨rfl, (h3 g).2 ⟨by simp, rfl⟩, fun j v hj => ?_⟩
    simp only [ob, oo, Nat.zero_add]
    rw [cell_of_blk hh]
    rw [← ht, List.getElem?_take] at hj
    split at hj
    · simpa using hj
    · cases hj

theorem Has.sl_cell {sz : Nat} {A : Option Addr} {n : Nat} {vs : List Value} {w : World} (h : Has (sl sz A n vs) w) {j : Nat} {v : Value} (hn : n ≠ 0) (hj : vs[j]? = some v) : A = some ⟨ob A, oo A, none⟩ ∧ w.cell? ⟨ob A, oo A + j, none⟩ = some v := by
  obtain ⟨D, ⟨_, h2⟩, _⟩ := h
  exact ⟨(h2 hn).1, (h2 hn).2.2 j v hj⟩
theorem Has.sl_len {sz : Nat} {A : Option Addr} {n : Nat} {vs : List Value} {w : World} (h : Has (sl sz A n vs) w) : vs.length = n * sz := let ⟨_, h1, _⟩ := h; h1.1
theorem Has.sl_some {sz : Nat} {A : Option Addr} {n : Nat} {vs : List Value} {w : World} (h : Has (sl sz A n vs) w) (hn : n ≠ 0) : A = some ⟨ob A, oo A, none⟩ := let ⟨_, h1, _⟩ := h; (h1.2 hn).1
theorem Has.of_own {E : TypeId} {sz : Nat} {A : Option Addr} {n c : Nat} {vs : List Value} {w : World} (h : Has (own E sz A n c vs) w) : Has (sl sz A n vs) w := let ⟨D, h1, h2⟩ := h; ⟨D, own_sl h1, h2⟩

/-! ### Runs -/
section
variable {P : Program} {w : World}

theorem run_indexAt {T E sz by_ : Nat} {z : Value} [h : SlT P T E sz by_ z] {g o m c : Nat} {k : IntKind} {j : Int} (hj : 0 ≤ j ∧ j < m) :
    (Instr.indexAt T (.slice (some ⟨g, o, none⟩) m c) (.int k j)).run P w = .ok (.pointer (some ⟨g, o + j.toNat * sz, none⟩)) w := by
  obtain ⟨i, hi, hs, _⟩ := h.info
  simp only [Instr.indexAt, Sem.run_bind, asIntOf, Sem.run_pure, Result.andThen_ok, run_underlying h.under, if_pos hj, sizeOf, run_tinfo hi, hs, add_at]

theorem run_len {T E sz by_ : Nat} {z : Value} [h : SlT P T E sz by_ z] {A : Option Addr} {m c : Nat} {ty : TypeId} : (Builtin.len_ #[T] ty #[.slice A m c]).run P w = .ok (.int .i64 m) w := by
  simp [Builtin.len_, run_underlying h.under, goInt]

theorem run_zero {E : Nat} {i : TypeInfo} {z : Value} (hi : P.info? E = some i) (hz : i.zero = some z) : (zeroValue E).run P w = .ok z w := by
  simp only [zeroValue, Sem.run_bind, run_tinfo hi, Result.andThen_ok, hz, Sem.run_pure]

theorem run_makeSl {T E by_ : Nat} {z : Value} [h : SlT P T E 1 by_ z] (hz : oneCell z = true) {k k' : IntKind} {n : Int} (h0 : 0 ≤ n) (hb : (by_ : Int) * n ≤ 281474976710656) (hn : n ≤ 9223372036854775807) :
    (Instr.makeSlice T (.int k n) (.int k' n)).run P w = .ok (.slice (some ⟨w.heap.size, 0, none⟩) n.toNat n.toNat) (w.alloc (.cells (List.replicate n.toNat z).toArray E)) := by
  obtain ⟨i, hi, hs, hby, hz'⟩ := h.info
  have := run_make (P := P) w T E i z h.under hi hz' k k' n n h0 (Int.le_refl _) (by rw [hby]; exact hb) hn
  rw [this, cells_of_one hz, hs, Nat.mul_one]
  congr 3
  rw [← toList_madeCells_one]

/-- A type's zero value. -/
class ZeroT (P : Program) (T : TypeId) (z : outParam Value) : Prop where
  zero : (P.info? T).map (·.zero) = some (some z)
/-- A struct type: its fields' places and sizes, and its zero value. -/
class StructT (P : Program) (T : TypeId) (pl : outParam (List (Nat × Nat))) (z : outParam (List Value)) : Prop where
  built : ∀ (parts : List (Nat × Value)) (cells : Array Value), Instr.fill (pl.toArray[·]?) z.toArray parts = some cells → P.built T parts = some cells
theorem StructT.mk' {T : TypeId} {fs : Array Field} {pl : List (Nat × Nat)} {z : List Value} (hT : P.underlying T = some (.struct fs)) (hz : (P.info? T).map (·.zero) = some (some (.agg z.toArray)))
    (hp : fs.toList.mapM (fun f => (P.info? f.type).map fun i => (f.offset, i.size)) = some pl) : StructT P T pl z := by
  obtain ⟨i, hi, hz⟩ := info_of hz
  refine ⟨fun parts cells h => ?_⟩
  unfold Program.built
  simp only [hi, hT, hz, hp]
  exact h
end

section
variable {P : Program} {ops : Array Oper} {S : World → Prop} {K : Act → World → Prop} {p : Plan} {n : Nat} {l : List (Nat × Value)} {C : World → Prop} {fl : Bool} {i : Nat} {ty ty' ty2 ty3 : TypeId} {x y z : Operand}
variable {F : Nat → Prop} {w₀ : World} {L L' : List Atom}

theorem s_ia (d : Nat) {E sz by_ : Nat} {zv : Value} {g o m c : Nat} {k : IntKind} {j : Int} (ho : opAt ops n l i = some (some d, .indexAddr ty x y, ty2)) [SlT P ty E sz by_ zv] (hx : ev l x = some (.slice (some ⟨g, o, none⟩) m c)) (hy : ev l y = some (.int k j))
    (hj : 0 ≤ j ∧ j < m) (h : SX P ops S K p n ((d, (.pointer (some ⟨g, o + j.toNat * sz, none⟩))) :: l) C) : SX P ops S K (.st fl i p) n l C :=
  SX.pure ho (fun a w o he h1 _ => by simp only [execOp, h1, he.ev hx, he.ev hy, Sem.run_bind, run_indexAt hj, Result.andThen_ok, Sem.run_pure]) h
/-- At index q of a slice of one-cell elements from a block's head. -/
theorem s_ia0 (d q : Nat) {E by_ : Nat} {zv : Value} {g m c : Nat} {k : IntKind} {j : Int} (ho : opAt ops n l i = some (some d, .indexAddr ty x y, ty2)) [SlT P ty E 1 by_ zv] (hx : ev l x = some (.slice (some ⟨g, 0, none⟩) m c)) (hy : ev l y = some (.int k j))
    (hq : j = (q : Nat)) (hj : q < m) (h : SX P ops S K p n ((d, (.pointer (some ⟨g, q, none⟩))) :: l) C) : SX P ops S K (.st fl i p) n l C :=
  s_ia d ho hx hy (by omega) (by subst hq; simpa using h)
/-- At index q of a slice of one-cell elements. -/
theorem s_iaQ (d q : Nat) {E by_ : Nat} {zv : Value} {A : Option Addr} {m c : Nat} {k : IntKind} {j : Int} (ho : opAt ops n l i = some (some d, .indexAddr ty x y, ty2)) [SlT P ty E 1 by_ zv] (hx : ev l x = some (.slice A m c)) (hy : ev l y = some (.int k j))
    (hq : j = (q : Nat)) (hj : q < m) (hA : A = some ⟨ob A, oo A, none⟩) (h : SX P ops S K p n ((d, (.pointer (some ⟨ob A, oo A + q, none⟩))) :: l) C) : SX P ops S K (.st fl i p) n l C := by
  have e := s_ia d (P := P) (fl := fl) (g := ob A) (o := oo A) (m := m) (c := c) (k := k) (j := j) (S := S) (K := K) (p := p) (C := C) ho (by rw [← hA]; exact hx) hy (by omega)
  subst hq
  simp only [Int.toNat_natCast, Nat.mul_one] at e
  exact e h
theorem s_len (d : Nat) {E sz by_ : Nat} {zv : Value} {A : Option Addr} {m c : Nat} {T : TypeId} (ho : opAt ops n l i = some (some d, .call ⟨.builtin .len, #[x], #[T]⟩, ty)) [SlT P T E sz by_ zv] (hx : ev l x = some (.slice A m c))
    (h : SX P ops S K p n ((d, (.int .i64 m)) :: l) C) : SX P ops S K (.st fl i p) n l C :=
  SX.pure ho (fun a w o he h1 _ => by
    simp only [execOp, h1, resolve, Sem.run_bind, Sem.run_pure, Result.andThen_ok, invoke, builtin, List.map_toArray, List.map_cons, List.map_nil, he.ev hx, run_len]) h

/-- New memory: a block that the walk owns. -/
theorem s_new (d : Nat) {op : Op} {v : Nat → Value} {T : TypeId} {cs : Array Value} (ho : opAt ops n l i = some (some d, op, ty))
    (hrun : ∀ a w (o : Oper), Env n l a → o.op = op → o.type = ty → (execOp a.eval o).run P w = .ok (.value (v w.heap.size)) (w.alloc (.cells cs T)))
    (hS : ∀ w, St F w₀ L w → S w) (h : ∀ g, SX P ops S K p n ((d, (v g)) :: l) (St F w₀ (blk g T cs :: L))) : SX P ops S K (.st false i p) n l (St F w₀ L) :=
  SX.act (v := v) (C' := fun g => St F w₀ (blk g T cs :: L)) ho (fun a w o he hc h1 h2 => ⟨w.heap.size, _, .inl (hrun a w o he h1 h2), hc.alloc T cs⟩) (fun _ w hw => hS w ⟨hw.fr, hw.lt, hw.sep.tail⟩) h
theorem s_box (d : Nat) {v : Value} (ho : opAt ops n l i = some (some d, .box ty' x, ty)) (hx : ev l x = some v) (hS : ∀ w, St F w₀ L w → S w)
    (h : ∀ g, SX P ops S K p n ((d, (.pointer (some ⟨g, 0, none⟩))) :: l) (St F w₀ (blk g ty' v.cells :: L))) : SX P ops S K (.st false i p) n l (St F w₀ L) :=
  s_new d ho (fun a w o he h1 _ => by
    simp only [execOp, h1, he.ev hx, Sem.run_bind, Instr.box, newVar, newRow, run_newObj, Result.andThen_ok, Sem.run_pure]; rfl) hS h
theorem s_alloc (d : Nat) {zv : Value} (ho : opAt ops n l i = some (some d, .alloc ty', ty)) [hZ : ZeroT P ty' zv] (hS : ∀ w, St F w₀ L w → S w)
    (h : ∀ g, SX P ops S K p n ((d, (.pointer (some ⟨g, 0, none⟩))) :: l) (St F w₀ (blk g ty' zv.cells :: L))) : SX P ops S K (.st false i p) n l (St F w₀ L) :=
  s_new d ho (fun a w o he h1 _ => by
    obtain ⟨i, hi, hz⟩ := info_of hZ.zero
    simp only [execOp, h1, Sem.run_bind, Instr.alloc, run_zero hi hz, newVar, newRow, run_newObj, Result.andThen_ok, Sem.run_pure]; rfl) hS h
theorem s_make (d q : Nat) {E by_ : Nat} {zv : Value} {k k' : IntKind} {m : Int} (ho : opAt ops n l i = some (some d, .makeSlice ty' x y, ty)) [SlT P ty' E 1 by_ zv] (hx : ev l x = some (.int k m)) (hy : ev l y = some (.int k' m))
    (hq : m = (q : Nat)) (hz : oneCell zv = true) (hm : by_ * q ≤ 281474976710656 ∧ q ≤ 9223372036854775807) (hS : ∀ w, St F w₀ L w → S w)
    (h : ∀ g, SX P ops S K p n ((d, .slice (some ⟨g, 0, none⟩) q q) :: l) (St F w₀ (blk g E (List.replicate q zv).toArray :: L))) : SX P ops S K (.st false i p) n l (St F w₀ L) :=
  s_new d (v := fun g => .slice (some ⟨g, 0, none⟩) q q) ho (fun a w o he h1 _ => by
    subst hq
    have hb : (by_ : Int) * (q : Nat) ≤ 281474976710656 := by rw [← Int.natCast_mul]; omega
    have := run_makeSl (P := P) (w := w) (T := ty') (k := k) (k' := k') hz (n := (q : Nat)) (by omega) hb (by omega)
    rw [Int.toNat_natCast] at this
    simp only [execOp, h1, he.ev hx, he.ev hy, Sem.run_bind, this, Result.andThen_ok, Sem.run_pure]) hS h
theorem s_build (d : Nat) {pl : List (Nat × Nat)} {zs : List Value} {ps : Array (Nat × Operand)} {vs : List Value} {cells : Array Value} (ho : opAt ops n l i = some (some d, .build ty' ps, ty)) [hs : StructT P ty' pl zs] (hx : evs l (ps.toList.map (·.2)) = some vs)
    (hf : Instr.fill (pl.toArray[·]?) zs.toArray ((ps.toList.map (·.1)).zip vs) = some cells) (h : SX P ops S K p n ((d, (.agg cells)) :: l) C) : SX P ops S K (.st fl i p) n l C :=
  SX.pure ho (fun a w o he h1 _ => by
    have e1 : (ps.map fun (q : Nat × Operand) => (q.1, a.eval q.2)).toList = (ps.toList.map (·.1)).zip vs := by
      rw [← he.evs hx, Array.toList_map, List.map_map]
      generalize ps.toList = qs
      induction qs with
      | nil => rfl
      | cons q r ih => simp [ih]
    have e2 := run_build (P := P) w ty' (ps.map fun (q : Nat × Operand) => (q.1, a.eval q.2)) cells (by rw [e1]; exact hs.built _ _ hf)
    simp only [execOp, h1, Sem.run_bind, e2, Result.andThen_ok, Sem.run_pure]) h
theorem run_buildSl {T E sz by_ : Nat} {zv : Value} [h : SlT P T E sz by_ zv] {len : Nat} {parts : Array (Nat × Value)} {cells : Array Value} {w : World} (hlen : len * sz ≤ 16777216) (h0 : len * sz ≠ 0) (hf : Instr.fill (fun i => some (i * sz, sz)) (madeCells zv.cells (len * sz)) parts.toList = some cells) :
    (Instr.buildSlice T len parts).run P w = .ok (.slice (some ⟨w.heap.size, 0, none⟩) len len) (w.alloc (.cells cells E)) := by
  obtain ⟨i, hi, hs, _, hz⟩ := h.info
  have h1 : ¬ (len * sz > 2 ^ 24) := by omega
  have hf' := hf
  unfold madeCells at hf'
  simp only [Instr.buildSlice, Sem.run_bind, run_underlying h.under, Result.andThen_ok, sizeOf, run_tinfo hi, hs, Sem.run_pure, if_neg h1, if_neg h0, run_zero hi hz, hf', newRow, run_newObj]
  rfl
/-- A slice written out. -/
theorem s_bsl (d : Nat) {E sz by_ len : Nat} {zv : Value} {ps : Array (Nat × Operand)} {vs : List Value} {cells : Array Value} (ho : opAt ops n l i = some (some d, .buildSlice ty' len ps, ty)) [SlT P ty' E sz by_ zv] (hx : evs l (ps.toList.map (·.2)) = some vs)
    (hf : Instr.fill (fun i => some (i * sz, sz)) (madeCells zv.cells (len * sz)) ((ps.toList.map (·.1)).zip vs) = some cells) (hb : (Nat.ble (len * sz) 16777216 && Nat.blt 0 (len * sz)) = true) (hS : ∀ w, St F w₀ L w → S w)
    (h : ∀ g, SX P ops S K p n ((d, .slice (some ⟨g, 0, none⟩) len len) :: l) (St F w₀ (blk g E cells :: L))) : SX P ops S K (.st false i p) n l (St F w₀ L) :=
  s_new d (v := fun g => .slice (some ⟨g, 0, none⟩) len len) ho (fun a w o he h1 _ => by
    have e1 : (ps.map fun (q : Nat × Operand) => (q.1, a.eval q.2)).toList = (ps.toList.map (·.1)).zip vs := by
      rw [← he.evs hx, Array.toList_map, List.map_map]
      generalize ps.toList = qs
      induction qs with
      | nil => rfl
      | cons q r ih => simp [ih]
    rw [Bool.and_eq_true] at hb
    have hb2 : 0 < len * sz := Nat.le_of_ble_eq_true hb.2
    have e2 := run_buildSl (P := P) (w := w) (T := ty') (parts := ps.map fun (q : Nat × Operand) => (q.1, a.eval q.2)) (cells := cells) (len := len) (Nat.le_of_ble_eq_true hb.1) (by omega) (by rw [e1]; exact hf)
    simp only [execOp, h1, Sem.run_bind, e2, Result.andThen_ok, Sem.run_pure]) hS h
/-- A store into a block that the walk owns. -/
theorem s_stB (q : Nat) {g o T : Nat} {cs : Array Value} {v : Value} (hi : L[q]? = some (blk g T cs)) (ho : opAt ops n l i = some (none, .store ty x y, ty2)) [One P ty] (hx : ev l x = some (.pointer (some ⟨g, o, none⟩))) (hy : ev l y = some v) (hv : oneCell v = true)
    (hlt : o < cs.size) (hS : ∀ w, St F w₀ (L.set q (blk g T (cs.setIfInBounds o v))) w → S w) (h : SX P ops S K p n (l) (St F w₀ (L.set q (blk g T (cs.setIfInBounds o v))))) : SX P ops S K (.st false i p) n l (St F w₀ L) :=
  s_st ho hx hy hv (fun _ hw => ⟨⟨_, hw.blkCell hi (Array.getElem?_eq_getElem hlt)⟩, hw.blkFree hi o, hw.blkSet hi o v⟩) hS h
theorem s_ldB (d : Nat) (q : Nat) {g o T : Nat} {cs : Array Value} {v : Value} (hi : L[q]? = some (blk g T cs)) (ho : opAt ops n l i = some (some d, .load ty x, ty2)) [One P ty] (hx : ev l x = some (.pointer (some ⟨g, o, none⟩))) (hv : cs[o]? = some v)
    (h : SX P ops S K p n ((d, v) :: l) (St F w₀ L)) : SX P ops S K (.st false i p) n l (St F w₀ L) :=
  s_ld d ho hx (fun _ hw => hw.blkCell hi hv) h
end
end Go.Sx
end
section
/- Operations on interface values, arrays and whole variables, for the symbolic walk, over any program. No condition. -/
namespace Go.Sx
open Go

/-- An interface's type. -/
class IfT (P : Program) (T : TypeId) : Prop where
  under : P.underlying T = some (.interface (P.methodsAt T))
class PtrT (P : Program) (T : TypeId) : Prop where
  under : ∃ e, P.underlying T = some (.pointer e)
/-- A pointer's type, as one of an error's. -/
class PtrE (P : Program) (T : TypeId) : Prop where
  under : ∃ te j i, P.underlying T = some (.pointer te) ∧ P.info? te = some j ∧ P.info? T = some i ∧ i.comparable = true
theorem PtrE.mk' {P : Program} {T te : TypeId} (hT : P.underlying T = some (.pointer te)) (hj : (P.info? te).isSome = true) (hi : (P.info? T).map (·.comparable) = some true) : PtrE P T := by
  obtain ⟨i, h1, h2⟩ := info_of hi
  obtain ⟨j, h3⟩ := Option.isSome_iff_exists.1 hj
  exact ⟨te, j, i, hT, h3, h1, h2⟩
/-- A type whose values may lie in an interface: no interface itself. -/
class ConT (P : Program) (T : TypeId) : Prop where
  under : ∃ d, P.underlying T = some d ∧ (match d with | .interface _ => true | _ => false) = false
/-- An array's type. -/
class ArrT (P : Program) (T : TypeId) (E : outParam TypeId) (m sz : outParam Nat) (z : outParam (List Value)) : Prop where
  under : P.underlying T = some (.array m E)
  elem : ∃ i, P.info? E = some i ∧ i.size = sz
  built : ∀ (parts : List (Nat × Value)) (cells : Array Value), Instr.fill (fun i => some (i * sz, sz)) z.toArray parts = some cells → P.built T parts = some cells
  size : ∃ i, P.info? T = some i ∧ i.size = m * sz ∧ i.zero = some (.agg z.toArray)
theorem ArrT.mk' {P : Program} {T E m sz : Nat} {z : List Value} (hT : P.underlying T = some (.array m E)) (hE : (P.info? E).map (·.size) = some sz) (hz : (P.info? T).map (fun i => (i.size, i.zero)) = some (m * sz, some (.agg z.toArray))) : ArrT P T E m sz z := by
  obtain ⟨i, hi, hs⟩ := info_of hE
  obtain ⟨j, hj, hzz⟩ := info_of hz
  simp only [Prod.mk.injEq] at hzz
  refine ⟨hT, ⟨i, hi, hs⟩, fun parts cells h => ?_, ⟨j, hj, hzz.1, hzz.2⟩⟩
  unfold Program.built
  simp only [hj, hT, hzz.2, hi, hs]
  exact h

section
variable {P : Program} {w : World}

theorem eqGuard_nil (op : BinOp) (T : TypeId) (x : Operand) : (eqGuard op T x (.const .nilIface) .nilIface .nilIface).run P w = .ok () w := by
  unfold eqGuard
  cases op <;> first | rfl | (cases x <;> rfl)
theorem eqGuard_held (op : BinOp) (T u : TypeId) (x y : Operand) (v b : Value) : (eqGuard op T x y (.iface u v) b).run P w = .ok () w := by
  unfold eqGuard
  cases op <;> first | rfl | (cases b <;> rfl)

/-- A whole variable of several cells is stored. -/
theorem run_storeAll {T : TypeId} {g T' : Nat} {cs vs : Array Value} {i : TypeInfo} (hi : P.info? T = some i) (hs : i.size = vs.size) (hlen : vs.size = cs.size) (h1 : ∀ v ∈ vs.toList, v.oneCell' = true)
    (hh : w.heap[g]? = some (.cells cs T' (0, 0))) : (Instr.storeAt T (.pointer (some ⟨g, 0, none⟩)) (.agg vs)).run P w = .ok () (w.setRow g vs) := by
  have h2 := run_storeCells_at (P := P) g 0 T' vs.toList 0 cs w hh (by simp; omega) h1
  have e : (cs.toList.take (0 + 0) ++ vs.toList ++ cs.toList.drop (0 + 0 + vs.toList.length)).toArray = vs := by
    simp [List.drop_eq_nil_of_le, hlen]
  rw [e] at h2
  simp only [Instr.storeAt, Instr.sureAddr, Sem.run_bind, Sem.run_pure, Result.andThen_ok, storeVar, Value.cells, sizeOf, run_tinfo hi, hs]
  simp [h2]
end

section
variable {P : Program} {ops : Array Oper} {S : World → Prop} {K : Act → World → Prop} {p : Plan} {n : Nat} {l : List (Nat × Value)} {C : World → Prop} {fl : Bool} {i : Nat} {ty ty' ty2 ty3 : TypeId} {x y z : Operand}
variable {F : Nat → Prop} {w₀ : World} {L L' : List Atom}

theorem St.setAll {q g T : Nat} {cs : Array Value} (hi : L[q]? = some (blk g T cs)) (vs : Array Value) {w : World} (h : St F w₀ L w) : St F w₀ (L.set q (blk g T vs)) (w.setRow g vs) := by
  obtain ⟨D, ⟨h1, h2⟩, h3, h4⟩ := h.work hi
  refine h4 _ _ D ⟨rfl, rfl, rfl, by simp [World.setRow], fun k hk => ?_⟩ ⟨h1, ?_⟩ (fun k hk => ⟨.inl hk, by simp [World.setRow]; exact h3 k hk⟩)
  · have : k ≠ g := fun e => hk.2 ((h1 k).2 e)
    simp [World.setRow, Array.getElem?_modify, Ne.symm this]
  · simp [World.setRow, Array.getElem?_modify, h2]
/-- A whole variable of several cells is stored into a block of the walk's own. -/
theorem s_stAll (q : Nat) {g T : Nat} {cs vs : Array Value} (hi : L[q]? = some (blk g T cs)) (ho : opAt ops n l i = some (none, .store ty x y, ty2)) (hz : (P.info? ty).map (·.size) = some vs.size) (hx : ev l x = some (.pointer (some ⟨g, 0, none⟩))) (hy : ev l y = some (.agg vs))
    (hlen : vs.size = cs.size) (hv : vs.toList.all (·.oneCell') = true) (hS : ∀ w, St F w₀ (L.set q (blk g T vs)) w → S w) (h : SX P ops S K p n l (St F w₀ (L.set q (blk g T vs)))) : SX P ops S K (.st false i p) n l (St F w₀ L) := by
  obtain ⟨it, hit, hsz⟩ := info_of hz
  refine SX.act (d := none) (X := Unit) (v := fun _ => undef) (C' := fun _ => St F w₀ (L.set q (blk g T vs))) ho (fun a w o he hw h1 _ => ?_) (fun _ => hS) (fun _ => h)
  obtain ⟨D, ⟨_, h2⟩, _⟩ := hw.sep.at_ hi
  exact ⟨(), w.setRow g vs, .inr ⟨by simp only [execOp, h1, he.ev hx, he.ev hy, Sem.run_bind, run_storeAll hit hsz hlen (List.all_eq_true.1 hv) h2, Result.andThen_ok, Sem.run_pure], rfl⟩, hw.setAll hi vs⟩

theorem s_neNN (d : Nat) (ho : opAt ops n l i = some (some d, .binOp .neq ty x (.const .nilIface) ty', ty2)) [hI : IfT P ty] (hx : ev l x = some .nilIface) (h : SX P ops S K p n ((d, .bool false) :: l) C) : SX P ops S K (.st fl i p) n l C :=
  SX.pure ho (fun a w o he h1 _ => by
    have e : a.eval (.const .nilIface) = .nilIface := rfl
    simp only [execOp, h1, he.ev hx, e, Sem.run_bind, eqGuard_nil, run_neq_nil_nil _ _ hI.under, Result.andThen_ok, Sem.run_pure]) h
/-- A pointer's type. -/
theorem eqGuard_ptr (op : BinOp) (T : TypeId) (x y : Operand) (a : Option Addr) (b : Value) {w : World} : (eqGuard op T x y (.pointer a) b).run P w = .ok () w := by
  unfold eqGuard
  cases op <;> first | rfl | (cases b <;> rfl)
theorem s_eqPN (d : Nat) {a0 : Addr} (ho : opAt ops n l i = some (some d, .binOp .eql ty x (.const (.pointer none)) ty', ty2)) [hP : PtrT P ty] (hx : ev l x = some (.pointer (some a0))) (h : SX P ops S K p n ((d, .bool false) :: l) C) : SX P ops S K (.st fl i p) n l C :=
  SX.pure ho (fun a w o he h1 _ => by
    obtain ⟨e, hu⟩ := hP.under
    have e1 : a.eval (.const (.pointer none)) = .pointer none := rfl
    have e2 : (binOp .eql ty (.pointer (some a0)) (.pointer none)).run P w = .ok (.bool false) w := by
      simp only [binOp, Op.equal, Op.maxDepth, Sem.run_bind]
      rw [Op.equalIn]
      simp [run_underlying hu]
    simp only [execOp, h1, he.ev hx, e1, Sem.run_bind, eqGuard_ptr, e2, Result.andThen_ok, Sem.run_pure]) h
theorem s_eqPNn (d : Nat) (ho : opAt ops n l i = some (some d, .binOp .eql ty x (.const (.pointer none)) ty', ty2)) [hP : PtrT P ty] (hx : ev l x = some (.pointer none)) (h : SX P ops S K p n ((d, .bool true) :: l) C) : SX P ops S K (.st fl i p) n l C :=
  SX.pure ho (fun a w o he h1 _ => by
    obtain ⟨e, hu⟩ := hP.under
    have e1 : a.eval (.const (.pointer none)) = .pointer none := rfl
    have e2 : (binOp .eql ty (.pointer none) (.pointer none)).run P w = .ok (.bool true) w := by
      simp only [binOp, Op.equal, Op.maxDepth, Sem.run_bind]
      rw [Op.equalIn]
      simp [run_underlying hu]
    simp only [execOp, h1, he.ev hx, e1, Sem.run_bind, eqGuard_ptr, e2, Result.andThen_ok, Sem.run_pure]) h
/-- Two errors that are one pointer. -/
theorem s_eqE (d : Nat) {tp : TypeId} {a0 : Addr} (ho : opAt ops n l i = some (some d, .binOp .eql ty x y ty', ty2)) [hI : IfT P ty] [hP : PtrE P tp] (hx : ev l x = some (.iface tp (.pointer (some a0)))) (hy : ev l y = some (.iface tp (.pointer (some a0)))) (h : SX P ops S K p n ((d, .bool true) :: l) C) : SX P ops S K (.st fl i p) n l C :=
  SX.pure ho (fun a w o he h1 _ => by
    obtain ⟨te, j, i, h2, h3, h4, h5⟩ := hP.under
    have e2 := run_eql_iface_ptr_same (P := P) (w := w) (ti := ty) (tp := tp) a0 hI.under h2 h4 h5 h3
    simp only [execOp, h1, he.ev hx, he.ev hy, Sem.run_bind, eqGuard_held, e2, Result.andThen_ok, Sem.run_pure]) h
end
end Go.Sx
end
section
/- Closed facts on the types and functions of the program, as instances. No condition. -/
namespace Go.Proofs.YtaamaifnmppbgaaDoor
open Go.Sx
set_option maxRecDepth 100000
theorem mixed : Tryd.prog.follows .mixedOrders = true := by kernel_rfl
instance : ZeroT Tryd.prog 1 (.nilFunc) := ⟨by kernel_rfl⟩
instance : ConT Tryd.prog 1 := ⟨_, Tryd.underlying1, rfl⟩
instance : One Tryd.prog 1 := One.mk' Tryd.underlying1 rfl (by kernel_rfl)
instance : ZeroT Tryd.prog 2 (.int .i64 0) := ⟨by kernel_rfl⟩
instance : ConT Tryd.prog 2 := ⟨_, Tryd.underlying2, rfl⟩
instance : One Tryd.prog 2 := One.mk' Tryd.underlying2 rfl (by kernel_rfl)
instance : IntT Tryd.prog 2 .i64 := ⟨Tryd.underlying2⟩
instance : ZeroT Tryd.prog 3 (.int .i64 0) := ⟨by kernel_rfl⟩
instance : ConT Tryd.prog 3 := ⟨_, Tryd.underlying3, rfl⟩
instance : One Tryd.prog 3 := One.mk' Tryd.underlying3 rfl (by kernel_rfl)
instance : IntT Tryd.prog 3 .i64 := ⟨Tryd.underlying3⟩
instance : ZeroT Tryd.prog 4 (.bool false) := ⟨by kernel_rfl⟩
instance : ConT Tryd.prog 4 := ⟨_, Tryd.underlying4, rfl⟩
instance : One Tryd.prog 4 := One.mk' Tryd.underlying4 rfl (by kernel_rfl)
instance : ZeroT Tryd.prog 5 (.int .u8 0) := ⟨by kernel_rfl⟩
instance : ConT Tryd.prog 5 := ⟨_, Tryd.underlying5, rfl⟩
instance : One Tryd.prog 5 := One.mk' Tryd.underlying5 rfl (by kernel_rfl)
instance : IntT Tryd.prog 5 .u8 := ⟨Tryd.underlying5⟩
instance : ZeroT Tryd.prog 6 (.int .u8 0) := ⟨by kernel_rfl⟩
instance : ConT Tryd.prog 6 := ⟨_, Tryd.underlying6, rfl⟩
instance : One Tryd.prog 6 := One.mk' Tryd.underlying6 rfl (by kernel_rfl)
instance : IntT Tryd.prog 6 .u8 := ⟨Tryd.underlying6⟩
instance : ZeroT Tryd.prog 7 (.agg #[.int .i64 0, .int .i64 0, .bool false, .int .u8 0]) := ⟨by kernel_rfl⟩
instance : ConT Tryd.prog 7 := ⟨_, Tryd.underlying7, rfl⟩
instance : FA Tryd.prog 7 0 0 := FA.mk' Tryd.underlying7 rfl rfl (by kernel_rfl)
instance : FA Tryd.prog 7 1 1 := FA.mk' Tryd.underlying7 rfl rfl (by kernel_rfl)
instance : FA Tryd.prog 7 2 2 := FA.mk' Tryd.underlying7 rfl rfl (by kernel_rfl)
instance : FA Tryd.prog 7 3 3 := FA.mk' Tryd.underlying7 rfl rfl (by kernel_rfl)
instance : StructT Tryd.prog 7 [(0, 1), (1, 1), (2, 1), (3, 1)] [.int .i64 0, .int .i64 0, .bool false, .int .u8 0] := StructT.mk' Tryd.underlying7 (by kernel_rfl) (by kernel_rfl)
instance : ZeroT Tryd.prog 8 (.agg #[.int .i64 0, .int .i64 0, .bool false, .int .u8 0]) := ⟨by kernel_rfl⟩
instance : ConT Tryd.prog 8 := ⟨_, Tryd.underlying8, rfl⟩
instance : FA Tryd.prog 8 0 0 := FA.mk' Tryd.underlying8 rfl rfl (by kernel_rfl)
instance : FA Tryd.prog 8 1 1 := FA.mk' Tryd.underlying8 rfl rfl (by kernel_rfl)
instance : FA Tryd.prog 8 2 2 := FA.mk' Tryd.underlying8 rfl rfl (by kernel_rfl)
instance : FA Tryd.prog 8 3 3 := FA.mk' Tryd.underlying8 rfl rfl (by kernel_rfl)
instance : StructT Tryd.prog 8 [(0, 1), (1, 1), (2, 1), (3, 1)] [.int .i64 0, .int .i64 0, .bool false, .int .u8 0] := StructT.mk' Tryd.underlying8 (by kernel_rfl) (by kernel_rfl)
instance : ZeroT Tryd.prog 9 (.string ⟨#[]⟩) := ⟨by kernel_rfl⟩
instance : ConT Tryd.prog 9 := ⟨_, Tryd.underlying9, rfl⟩
instance : One Tryd.prog 9 := One.mk' Tryd.underlying9 rfl (by kernel_rfl)
instance : ZeroT Tryd.prog 10 (.string ⟨#[]⟩) := ⟨by kernel_rfl⟩
instance : ConT Tryd.prog 10 := ⟨_, Tryd.underlying10, rfl⟩
instance : One Tryd.prog 10 := One.mk' Tryd.underlying10 rfl (by kernel_rfl)
instance : ZeroT Tryd.prog 11 (.string ⟨#[]⟩) := ⟨by kernel_rfl⟩
instance : ConT Tryd.prog 11 := ⟨_, Tryd.underlying11, rfl⟩
instance : One Tryd.prog 11 := One.mk' Tryd.underlying11 rfl (by kernel_rfl)
instance : ZeroT Tryd.prog 12 (.int .u64 0) := ⟨by kernel_rfl⟩
instance : ConT Tryd.prog 12 := ⟨_, Tryd.underlying12, rfl⟩
instance : One Tryd.prog 12 := One.mk' Tryd.underlying12 rfl (by kernel_rfl)
instance : IntT Tryd.prog 12 .u64 := ⟨Tryd.underlying12⟩
instance : ZeroT Tryd.prog 13 (.agg #[.string ⟨#[]⟩, .int .u64 0]) := ⟨by kernel_rfl⟩
instance : ConT Tryd.prog 13 := ⟨_, Tryd.underlying13, rfl⟩
instance : FA Tryd.prog 13 0 0 := FA.mk' Tryd.underlying13 rfl rfl (by kernel_rfl)
instance : FA Tryd.prog 13 1 1 := FA.mk' Tryd.underlying13 rfl rfl (by kernel_rfl)
instance : StructT Tryd.prog 13 [(0, 1), (1, 1)] [.string ⟨#[]⟩, .int .u64 0] := StructT.mk' Tryd.underlying13 (by kernel_rfl) (by kernel_rfl)
instance : ZeroT Tryd.prog 14 (.agg #[.string ⟨#[]⟩, .int .u64 0]) := ⟨by kernel_rfl⟩
instance : ConT Tryd.prog 14 := ⟨_, Tryd.underlying14, rfl⟩
instance : FA Tryd.prog 14 0 0 := FA.mk' Tryd.underlying14 rfl rfl (by kernel_rfl)
instance : FA Tryd.prog 14 1 1 := FA.mk' Tryd.underlying14 rfl rfl (by kernel_rfl)
instance : StructT Tryd.prog 14 [(0, 1), (1, 1)] [.string ⟨#[]⟩, .int .u64 0] := StructT.mk' Tryd.underlying14 (by kernel_rfl) (by kernel_rfl)
instance : ZeroT Tryd.prog 15 (.pointer none) := ⟨by kernel_rfl⟩
instance : ConT Tryd.prog 15 := ⟨_, Tryd.underlying15, rfl⟩
instance : One Tryd.prog 15 := One.mk' Tryd.underlying15 rfl (by kernel_rfl)
instance : PtrT Tryd.prog 15 := ⟨_, Tryd.underlying15⟩
instance : PtrE Tryd.prog 15 := PtrE.mk' Tryd.underlying15 (by kernel_rfl) (by kernel_rfl)
instance : ZeroT Tryd.prog 16 (.pointer none) := ⟨by kernel_rfl⟩
instance : ConT Tryd.prog 16 := ⟨_, Tryd.underlying16, rfl⟩
instance : One Tryd.prog 16 := One.mk' Tryd.underlying16 rfl (by kernel_rfl)
instance : PtrT Tryd.prog 16 := ⟨_, Tryd.underlying16⟩
instance : PtrE Tryd.prog 16 := PtrE.mk' Tryd.underlying16 (by kernel_rfl) (by kernel_rfl)
instance : ZeroT Tryd.prog 17 (.pointer none) := ⟨by kernel_rfl⟩
instance : ConT Tryd.prog 17 := ⟨_, Tryd.underlying17, rfl⟩
instance : One Tryd.prog 17 := One.mk' Tryd.underlying17 rfl (by kernel_rfl)
instance : PtrT Tryd.prog 17 := ⟨_, Tryd.underlying17⟩
instance : PtrE Tryd.prog 17 := PtrE.mk' Tryd.underlying17 (by kernel_rfl) (by kernel_rfl)
instance : ZeroT Tryd.prog 18 (.agg #[.pointer none]) := ⟨by kernel_rfl⟩
instance : ConT Tryd.prog 18 := ⟨_, Tryd.underlying18, rfl⟩
instance : FA Tryd.prog 18 0 0 := FA.mk' Tryd.underlying18 rfl rfl (by kernel_rfl)
instance : StructT Tryd.prog 18 [(0, 1)] [.pointer none] := StructT.mk' Tryd.underlying18 (by kernel_rfl) (by kernel_rfl)
instance : ZeroT Tryd.prog 19 (.agg #[.pointer none]) := ⟨by kernel_rfl⟩
instance : ConT Tryd.prog 19 := ⟨_, Tryd.underlying19, rfl⟩
instance : FA Tryd.prog 19 0 0 := FA.mk' Tryd.underlying19 rfl rfl (by kernel_rfl)
instance : StructT Tryd.prog 19 [(0, 1)] [.pointer none] := StructT.mk' Tryd.underlying19 (by kernel_rfl) (by kernel_rfl)
instance : ZeroT Tryd.prog 20 (.nilIface) := ⟨by kernel_rfl⟩
instance : IfT Tryd.prog 20 := ⟨by kernel_rfl⟩
instance : One Tryd.prog 20 := One.mk' Tryd.underlying20 rfl (by kernel_rfl)
instance : ZeroT Tryd.prog 21 (.int .i32 0) := ⟨by kernel_rfl⟩
instance : ConT Tryd.prog 21 := ⟨_, Tryd.underlying21, rfl⟩
instance : One Tryd.prog 21 := One.mk' Tryd.underlying21 rfl (by kernel_rfl)
instance : IntT Tryd.prog 21 .i32 := ⟨Tryd.underlying21⟩
instance : ZeroT Tryd.prog 22 (.slice none 0 0) := ⟨by kernel_rfl⟩
instance : ConT Tryd.prog 22 := ⟨_, Tryd.underlying22, rfl⟩
instance : One Tryd.prog 22 := One.mk' Tryd.underlying22 rfl (by kernel_rfl)
instance : SlT Tryd.prog 22 35 4 48 (.agg #[.int .i64 0, .bool false, .slice none 0 0, .bool false]) := SlT.mk' Tryd.underlying22 (by kernel_rfl)
instance : ZeroT Tryd.prog 23 (.nilFunc) := ⟨by kernel_rfl⟩
instance : ConT Tryd.prog 23 := ⟨_, Tryd.underlying23, rfl⟩
instance : One Tryd.prog 23 := One.mk' Tryd.underlying23 rfl (by kernel_rfl)
instance : ZeroT Tryd.prog 24 (.pointer none) := ⟨by kernel_rfl⟩
instance : ConT Tryd.prog 24 := ⟨_, Tryd.underlying24, rfl⟩
instance : One Tryd.prog 24 := One.mk' Tryd.underlying24 rfl (by kernel_rfl)
instance : PtrT Tryd.prog 24 := ⟨_, Tryd.underlying24⟩
instance : PtrE Tryd.prog 24 := PtrE.mk' Tryd.underlying24 (by kernel_rfl) (by kernel_rfl)
instance : ZeroT Tryd.prog 25 (.nilIface) := ⟨by kernel_rfl⟩
instance : IfT Tryd.prog 25 := ⟨by kernel_rfl⟩
instance : One Tryd.prog 25 := One.mk' Tryd.underlying25 rfl (by kernel_rfl)
instance : ZeroT Tryd.prog 26 (.nilIface) := ⟨by kernel_rfl⟩
instance : IfT Tryd.prog 26 := ⟨by kernel_rfl⟩
instance : One Tryd.prog 26 := One.mk' Tryd.underlying26 rfl (by kernel_rfl)
instance : ZeroT Tryd.prog 28 (.nilFunc) := ⟨by kernel_rfl⟩
instance : ConT Tryd.prog 28 := ⟨_, Tryd.underlying28, rfl⟩
instance : One Tryd.prog 28 := One.mk' Tryd.underlying28 rfl (by kernel_rfl)
instance : ZeroT Tryd.prog 29 (.pointer none) := ⟨by kernel_rfl⟩
instance : ConT Tryd.prog 29 := ⟨_, Tryd.underlying29, rfl⟩
instance : One Tryd.prog 29 := One.mk' Tryd.underlying29 rfl (by kernel_rfl)
instance : PtrT Tryd.prog 29 := ⟨_, Tryd.underlying29⟩
instance : PtrE Tryd.prog 29 := PtrE.mk' Tryd.underlying29 (by kernel_rfl) (by kernel_rfl)
instance : ZeroT Tryd.prog 30 (.nilFunc) := ⟨by kernel_rfl⟩
instance : ConT Tryd.prog 30 := ⟨_, Tryd.underlying30, rfl⟩
instance : One Tryd.prog 30 := One.mk' Tryd.underlying30 rfl (by kernel_rfl)
instance : ZeroT Tryd.prog 31 (.slice none 0 0) := ⟨by kernel_rfl⟩
instance : ConT Tryd.prog 31 := ⟨_, Tryd.underlying31, rfl⟩
instance : One Tryd.prog 31 := One.mk' Tryd.underlying31 rfl (by kernel_rfl)
instance : SlT Tryd.prog 31 5 1 1 (.int .u8 0) := SlT.mk' Tryd.underlying31 (by kernel_rfl)
instance : ZeroT Tryd.prog 32 (.agg #[.int .i64 0, .bool false, .slice none 0 0]) := ⟨by kernel_rfl⟩
instance : ConT Tryd.prog 32 := ⟨_, Tryd.underlying32, rfl⟩
instance : FA Tryd.prog 32 0 0 := FA.mk' Tryd.underlying32 rfl rfl (by kernel_rfl)
instance : FA Tryd.prog 32 1 1 := FA.mk' Tryd.underlying32 rfl rfl (by kernel_rfl)
instance : FA Tryd.prog 32 2 2 := FA.mk' Tryd.underlying32 rfl rfl (by kernel_rfl)
instance : StructT Tryd.prog 32 [(0, 1), (1, 1), (2, 1)] [.int .i64 0, .bool false, .slice none 0 0] := StructT.mk' Tryd.underlying32 (by kernel_rfl) (by kernel_rfl)
instance : ZeroT Tryd.prog 33 (.agg #[.int .i64 0, .bool false, .slice none 0 0]) := ⟨by kernel_rfl⟩
instance : ConT Tryd.prog 33 := ⟨_, Tryd.underlying33, rfl⟩
instance : FA Tryd.prog 33 0 0 := FA.mk' Tryd.underlying33 rfl rfl (by kernel_rfl)
instance : FA Tryd.prog 33 1 1 := FA.mk' Tryd.underlying33 rfl rfl (by kernel_rfl)
instance : FA Tryd.prog 33 2 2 := FA.mk' Tryd.underlying33 rfl rfl (by kernel_rfl)
instance : StructT Tryd.prog 33 [(0, 1), (1, 1), (2, 1)] [.int .i64 0, .bool false, .slice none 0 0] := StructT.mk' Tryd.underlying33 (by kernel_rfl) (by kernel_rfl)
instance : ZeroT Tryd.prog 34 (.agg #[.int .i64 0, .bool false, .slice none 0 0, .bool false]) := ⟨by kernel_rfl⟩
instance : ConT Tryd.prog 34 := ⟨_, Tryd.underlying34, rfl⟩
instance : FA Tryd.prog 34 0 0 := FA.mk' Tryd.underlying34 rfl rfl (by kernel_rfl)
instance : FA Tryd.prog 34 1 3 := FA.mk' Tryd.underlying34 rfl rfl (by kernel_rfl)
instance : StructT Tryd.prog 34 [(0, 3), (3, 1)] [.int .i64 0, .bool false, .slice none 0 0, .bool false] := StructT.mk' Tryd.underlying34 (by kernel_rfl) (by kernel_rfl)
instance : ZeroT Tryd.prog 35 (.agg #[.int .i64 0, .bool false, .slice none 0 0, .bool false]) := ⟨by kernel_rfl⟩
instance : ConT Tryd.prog 35 := ⟨_, Tryd.underlying35, rfl⟩
instance : FA Tryd.prog 35 0 0 := FA.mk' Tryd.underlying35 rfl rfl (by kernel_rfl)
instance : FA Tryd.prog 35 1 3 := FA.mk' Tryd.underlying35 rfl rfl (by kernel_rfl)
instance : StructT Tryd.prog 35 [(0, 3), (3, 1)] [.int .i64 0, .bool false, .slice none 0 0, .bool false] := StructT.mk' Tryd.underlying35 (by kernel_rfl) (by kernel_rfl)
instance : ZeroT Tryd.prog 36 (.slice none 0 0) := ⟨by kernel_rfl⟩
instance : ConT Tryd.prog 36 := ⟨_, Tryd.underlying36, rfl⟩
instance : One Tryd.prog 36 := One.mk' Tryd.underlying36 rfl (by kernel_rfl)
instance : SlT Tryd.prog 36 31 1 24 (.slice none 0 0) := SlT.mk' Tryd.underlying36 (by kernel_rfl)
instance : ZeroT Tryd.prog 37 (.nilFunc) := ⟨by kernel_rfl⟩
instance : ConT Tryd.prog 37 := ⟨_, Tryd.underlying37, rfl⟩
instance : One Tryd.prog 37 := One.mk' Tryd.underlying37 rfl (by kernel_rfl)
instance : ZeroT Tryd.prog 38 (.slice none 0 0) := ⟨by kernel_rfl⟩
instance : ConT Tryd.prog 38 := ⟨_, Tryd.underlying38, rfl⟩
instance : One Tryd.prog 38 := One.mk' Tryd.underlying38 rfl (by kernel_rfl)
instance : SlT Tryd.prog 38 33 3 40 (.agg #[.int .i64 0, .bool false, .slice none 0 0]) := SlT.mk' Tryd.underlying38 (by kernel_rfl)
instance : ZeroT Tryd.prog 39 (.agg #[.int .i64 0, .slice none 0 0, .slice none 0 0]) := ⟨by kernel_rfl⟩
instance : ConT Tryd.prog 39 := ⟨_, Tryd.underlying39, rfl⟩
instance : FA Tryd.prog 39 0 0 := FA.mk' Tryd.underlying39 rfl rfl (by kernel_rfl)
instance : FA Tryd.prog 39 1 1 := FA.mk' Tryd.underlying39 rfl rfl (by kernel_rfl)
instance : FA Tryd.prog 39 2 2 := FA.mk' Tryd.underlying39 rfl rfl (by kernel_rfl)
instance : StructT Tryd.prog 39 [(0, 1), (1, 1), (2, 1)] [.int .i64 0, .slice none 0 0, .slice none 0 0] := StructT.mk' Tryd.underlying39 (by kernel_rfl) (by kernel_rfl)
instance : ZeroT Tryd.prog 40 (.agg #[.int .i64 0, .slice none 0 0, .slice none 0 0]) := ⟨by kernel_rfl⟩
instance : ConT Tryd.prog 40 := ⟨_, Tryd.underlying40, rfl⟩
instance : FA Tryd.prog 40 0 0 := FA.mk' Tryd.underlying40 rfl rfl (by kernel_rfl)
instance : FA Tryd.prog 40 1 1 := FA.mk' Tryd.underlying40 rfl rfl (by kernel_rfl)
instance : FA Tryd.prog 40 2 2 := FA.mk' Tryd.underlying40 rfl rfl (by kernel_rfl)
instance : StructT Tryd.prog 40 [(0, 1), (1, 1), (2, 1)] [.int .i64 0, .slice none 0 0, .slice none 0 0] := StructT.mk' Tryd.underlying40 (by kernel_rfl) (by kernel_rfl)
instance : ZeroT Tryd.prog 41 (.nilFunc) := ⟨by kernel_rfl⟩
instance : ConT Tryd.prog 41 := ⟨_, Tryd.underlying41, rfl⟩
instance : One Tryd.prog 41 := One.mk' Tryd.underlying41 rfl (by kernel_rfl)
instance : ZeroT Tryd.prog 42 (.nilFunc) := ⟨by kernel_rfl⟩
instance : ConT Tryd.prog 42 := ⟨_, Tryd.underlying42, rfl⟩
instance : One Tryd.prog 42 := One.mk' Tryd.underlying42 rfl (by kernel_rfl)
instance : ZeroT Tryd.prog 43 (.nilFunc) := ⟨by kernel_rfl⟩
instance : ConT Tryd.prog 43 := ⟨_, Tryd.underlying43, rfl⟩
instance : One Tryd.prog 43 := One.mk' Tryd.underlying43 rfl (by kernel_rfl)
instance : ZeroT Tryd.prog 45 (.nilFunc) := ⟨by kernel_rfl⟩
instance : ConT Tryd.prog 45 := ⟨_, Tryd.underlying45, rfl⟩
instance : One Tryd.prog 45 := One.mk' Tryd.underlying45 rfl (by kernel_rfl)
instance : ZeroT Tryd.prog 46 (.nilFunc) := ⟨by kernel_rfl⟩
instance : ConT Tryd.prog 46 := ⟨_, Tryd.underlying46, rfl⟩
instance : One Tryd.prog 46 := One.mk' Tryd.underlying46 rfl (by kernel_rfl)
instance : ZeroT Tryd.prog 47 (.nilFunc) := ⟨by kernel_rfl⟩
instance : ConT Tryd.prog 47 := ⟨_, Tryd.underlying47, rfl⟩
instance : One Tryd.prog 47 := One.mk' Tryd.underlying47 rfl (by kernel_rfl)
instance : ZeroT Tryd.prog 48 (.nilFunc) := ⟨by kernel_rfl⟩
instance : ConT Tryd.prog 48 := ⟨_, Tryd.underlying48, rfl⟩
instance : One Tryd.prog 48 := One.mk' Tryd.underlying48 rfl (by kernel_rfl)
instance : ZeroT Tryd.prog 49 (.nilFunc) := ⟨by kernel_rfl⟩
instance : ConT Tryd.prog 49 := ⟨_, Tryd.underlying49, rfl⟩
instance : One Tryd.prog 49 := One.mk' Tryd.underlying49 rfl (by kernel_rfl)
instance : ZeroT Tryd.prog 50 (.nilFunc) := ⟨by kernel_rfl⟩
instance : ConT Tryd.prog 50 := ⟨_, Tryd.underlying50, rfl⟩
instance : One Tryd.prog 50 := One.mk' Tryd.underlying50 rfl (by kernel_rfl)
instance : ZeroT Tryd.prog 51 (.nilFunc) := ⟨by kernel_rfl⟩
instance : ConT Tryd.prog 51 := ⟨_, Tryd.underlying51, rfl⟩
instance : One Tryd.prog 51 := One.mk' Tryd.underlying51 rfl (by kernel_rfl)
instance : ZeroT Tryd.prog 52 (.nilFunc) := ⟨by kernel_rfl⟩
instance : ConT Tryd.prog 52 := ⟨_, Tryd.underlying52, rfl⟩
instance : One Tryd.prog 52 := One.mk' Tryd.underlying52 rfl (by kernel_rfl)
instance : ZeroT Tryd.prog 54 (.nilFunc) := ⟨by kernel_rfl⟩
instance : ConT Tryd.prog 54 := ⟨_, Tryd.underlying54, rfl⟩
instance : One Tryd.prog 54 := One.mk' Tryd.underlying54 rfl (by kernel_rfl)
instance : ZeroT Tryd.prog 55 (.nilFunc) := ⟨by kernel_rfl⟩
instance : ConT Tryd.prog 55 := ⟨_, Tryd.underlying55, rfl⟩
instance : One Tryd.prog 55 := One.mk' Tryd.underlying55 rfl (by kernel_rfl)
instance : ZeroT Tryd.prog 56 (.nilFunc) := ⟨by kernel_rfl⟩
instance : ConT Tryd.prog 56 := ⟨_, Tryd.underlying56, rfl⟩
instance : One Tryd.prog 56 := One.mk' Tryd.underlying56 rfl (by kernel_rfl)
instance : ZeroT Tryd.prog 57 (.nilFunc) := ⟨by kernel_rfl⟩
instance : ConT Tryd.prog 57 := ⟨_, Tryd.underlying57, rfl⟩
instance : One Tryd.prog 57 := One.mk' Tryd.underlying57 rfl (by kernel_rfl)
instance : ZeroT Tryd.prog 58 (.slice none 0 0) := ⟨by kernel_rfl⟩
instance : ConT Tryd.prog 58 := ⟨_, Tryd.underlying58, rfl⟩
instance : One Tryd.prog 58 := One.mk' Tryd.underlying58 rfl (by kernel_rfl)
instance : SlT Tryd.prog 58 3 1 8 (.int .i64 0) := SlT.mk' Tryd.underlying58 (by kernel_rfl)
instance : ZeroT Tryd.prog 59 (.slice none 0 0) := ⟨by kernel_rfl⟩
instance : ConT Tryd.prog 59 := ⟨_, Tryd.underlying59, rfl⟩
instance : One Tryd.prog 59 := One.mk' Tryd.underlying59 rfl (by kernel_rfl)
instance : SlT Tryd.prog 59 65 2 32 (.agg #[.int .i64 0, .slice none 0 0]) := SlT.mk' Tryd.underlying59 (by kernel_rfl)
instance : ZeroT Tryd.prog 60 (.agg #[.int .i64 0, .slice none 0 0, .slice none 0 0]) := ⟨by kernel_rfl⟩
instance : ConT Tryd.prog 60 := ⟨_, Tryd.underlying60, rfl⟩
instance : FA Tryd.prog 60 0 0 := FA.mk' Tryd.underlying60 rfl rfl (by kernel_rfl)
instance : FA Tryd.prog 60 1 1 := FA.mk' Tryd.underlying60 rfl rfl (by kernel_rfl)
instance : FA Tryd.prog 60 2 2 := FA.mk' Tryd.underlying60 rfl rfl (by kernel_rfl)
instance : StructT Tryd.prog 60 [(0, 1), (1, 1), (2, 1)] [.int .i64 0, .slice none 0 0, .slice none 0 0] := StructT.mk' Tryd.underlying60 (by kernel_rfl) (by kernel_rfl)
instance : ZeroT Tryd.prog 61 (.agg #[.int .i64 0, .slice none 0 0, .slice none 0 0]) := ⟨by kernel_rfl⟩
instance : ConT Tryd.prog 61 := ⟨_, Tryd.underlying61, rfl⟩
instance : FA Tryd.prog 61 0 0 := FA.mk' Tryd.underlying61 rfl rfl (by kernel_rfl)
instance : FA Tryd.prog 61 1 1 := FA.mk' Tryd.underlying61 rfl rfl (by kernel_rfl)
instance : FA Tryd.prog 61 2 2 := FA.mk' Tryd.underlying61 rfl rfl (by kernel_rfl)
instance : StructT Tryd.prog 61 [(0, 1), (1, 1), (2, 1)] [.int .i64 0, .slice none 0 0, .slice none 0 0] := StructT.mk' Tryd.underlying61 (by kernel_rfl) (by kernel_rfl)
instance : ZeroT Tryd.prog 62 (.nilFunc) := ⟨by kernel_rfl⟩
instance : ConT Tryd.prog 62 := ⟨_, Tryd.underlying62, rfl⟩
instance : One Tryd.prog 62 := One.mk' Tryd.underlying62 rfl (by kernel_rfl)
instance : ZeroT Tryd.prog 63 (.nilFunc) := ⟨by kernel_rfl⟩
instance : ConT Tryd.prog 63 := ⟨_, Tryd.underlying63, rfl⟩
instance : One Tryd.prog 63 := One.mk' Tryd.underlying63 rfl (by kernel_rfl)
instance : ZeroT Tryd.prog 64 (.agg #[.int .i64 0, .slice none 0 0]) := ⟨by kernel_rfl⟩
instance : ConT Tryd.prog 64 := ⟨_, Tryd.underlying64, rfl⟩
instance : FA Tryd.prog 64 0 0 := FA.mk' Tryd.underlying64 rfl rfl (by kernel_rfl)
instance : FA Tryd.prog 64 1 1 := FA.mk' Tryd.underlying64 rfl rfl (by kernel_rfl)
instance : StructT Tryd.prog 64 [(0, 1), (1, 1)] [.int .i64 0, .slice none 0 0] := StructT.mk' Tryd.underlying64 (by kernel_rfl) (by kernel_rfl)
instance : ZeroT Tryd.prog 65 (.agg #[.int .i64 0, .slice none 0 0]) := ⟨by kernel_rfl⟩
instance : ConT Tryd.prog 65 := ⟨_, Tryd.underlying65, rfl⟩
instance : FA Tryd.prog 65 0 0 := FA.mk' Tryd.underlying65 rfl rfl (by kernel_rfl)
instance : FA Tryd.prog 65 1 1 := FA.mk' Tryd.underlying65 rfl rfl (by kernel_rfl)
instance : StructT Tryd.prog 65 [(0, 1), (1, 1)] [.int .i64 0, .slice none 0 0] := StructT.mk' Tryd.underlying65 (by kernel_rfl) (by kernel_rfl)
instance : ZeroT Tryd.prog 66 (.nilFunc) := ⟨by kernel_rfl⟩
instance : ConT Tryd.prog 66 := ⟨_, Tryd.underlying66, rfl⟩
instance : One Tryd.prog 66 := One.mk' Tryd.underlying66 rfl (by kernel_rfl)
instance : ZeroT Tryd.prog 67 (.nilFunc) := ⟨by kernel_rfl⟩
instance : ConT Tryd.prog 67 := ⟨_, Tryd.underlying67, rfl⟩
instance : One Tryd.prog 67 := One.mk' Tryd.underlying67 rfl (by kernel_rfl)
instance : ZeroT Tryd.prog 68 (.nilFunc) := ⟨by kernel_rfl⟩
instance : ConT Tryd.prog 68 := ⟨_, Tryd.underlying68, rfl⟩
instance : One Tryd.prog 68 := One.mk' Tryd.underlying68 rfl (by kernel_rfl)
instance : ZeroT Tryd.prog 69 (.nilFunc) := ⟨by kernel_rfl⟩
instance : ConT Tryd.prog 69 := ⟨_, Tryd.underlying69, rfl⟩
instance : One Tryd.prog 69 := One.mk' Tryd.underlying69 rfl (by kernel_rfl)
instance : ZeroT Tryd.prog 70 (.nilFunc) := ⟨by kernel_rfl⟩
instance : ConT Tryd.prog 70 := ⟨_, Tryd.underlying70, rfl⟩
instance : One Tryd.prog 70 := One.mk' Tryd.underlying70 rfl (by kernel_rfl)
instance : ZeroT Tryd.prog 71 (.nilFunc) := ⟨by kernel_rfl⟩
instance : ConT Tryd.prog 71 := ⟨_, Tryd.underlying71, rfl⟩
instance : One Tryd.prog 71 := One.mk' Tryd.underlying71 rfl (by kernel_rfl)
instance : ZeroT Tryd.prog 72 (.nilFunc) := ⟨by kernel_rfl⟩
instance : ConT Tryd.prog 72 := ⟨_, Tryd.underlying72, rfl⟩
instance : One Tryd.prog 72 := One.mk' Tryd.underlying72 rfl (by kernel_rfl)
instance : ZeroT Tryd.prog 73 (.pointer none) := ⟨by kernel_rfl⟩
instance : ConT Tryd.prog 73 := ⟨_, Tryd.underlying73, rfl⟩
instance : One Tryd.prog 73 := One.mk' Tryd.underlying73 rfl (by kernel_rfl)
instance : PtrT Tryd.prog 73 := ⟨_, Tryd.underlying73⟩
instance : PtrE Tryd.prog 73 := PtrE.mk' Tryd.underlying73 (by kernel_rfl) (by kernel_rfl)
instance : ZeroT Tryd.prog 74 (.nilFunc) := ⟨by kernel_rfl⟩
instance : ConT Tryd.prog 74 := ⟨_, Tryd.underlying74, rfl⟩
instance : One Tryd.prog 74 := One.mk' Tryd.underlying74 rfl (by kernel_rfl)
instance : ZeroT Tryd.prog 75 (.agg #[.pointer none, .pointer none, .pointer none, .string ⟨#[]⟩]) := ⟨by kernel_rfl⟩
instance : ConT Tryd.prog 75 := ⟨_, Tryd.underlying75, rfl⟩
instance : FA Tryd.prog 75 0 0 := FA.mk' Tryd.underlying75 rfl rfl (by kernel_rfl)
instance : FA Tryd.prog 75 1 1 := FA.mk' Tryd.underlying75 rfl rfl (by kernel_rfl)
instance : FA Tryd.prog 75 2 2 := FA.mk' Tryd.underlying75 rfl rfl (by kernel_rfl)
instance : FA Tryd.prog 75 3 3 := FA.mk' Tryd.underlying75 rfl rfl (by kernel_rfl)
instance : StructT Tryd.prog 75 [(0, 1), (1, 1), (2, 1), (3, 1)] [.pointer none, .pointer none, .pointer none, .string ⟨#[]⟩] := StructT.mk' Tryd.underlying75 (by kernel_rfl) (by kernel_rfl)
instance : ZeroT Tryd.prog 76 (.agg #[.pointer none, .pointer none, .pointer none, .string ⟨#[]⟩]) := ⟨by kernel_rfl⟩
instance : ConT Tryd.prog 76 := ⟨_, Tryd.underlying76, rfl⟩
instance : FA Tryd.prog 76 0 0 := FA.mk' Tryd.underlying76 rfl rfl (by kernel_rfl)
instance : FA Tryd.prog 76 1 1 := FA.mk' Tryd.underlying76 rfl rfl (by kernel_rfl)
instance : FA Tryd.prog 76 2 2 := FA.mk' Tryd.underlying76 rfl rfl (by kernel_rfl)
instance : FA Tryd.prog 76 3 3 := FA.mk' Tryd.underlying76 rfl rfl (by kernel_rfl)
instance : StructT Tryd.prog 76 [(0, 1), (1, 1), (2, 1), (3, 1)] [.pointer none, .pointer none, .pointer none, .string ⟨#[]⟩] := StructT.mk' Tryd.underlying76 (by kernel_rfl) (by kernel_rfl)
instance : ConT Tryd.prog 77 := ⟨_, Tryd.underlying77, rfl⟩
instance : ConT Tryd.prog 78 := ⟨_, Tryd.underlying78, rfl⟩
instance : ConT Tryd.prog 79 := ⟨_, Tryd.underlying79, rfl⟩
instance : ZeroT Tryd.prog 80 (.int .u32 0) := ⟨by kernel_rfl⟩
instance : ConT Tryd.prog 80 := ⟨_, Tryd.underlying80, rfl⟩
instance : One Tryd.prog 80 := One.mk' Tryd.underlying80 rfl (by kernel_rfl)
instance : IntT Tryd.prog 80 .u32 := ⟨Tryd.underlying80⟩
instance : ZeroT Tryd.prog 81 (.int .u8 0) := ⟨by kernel_rfl⟩
instance : ConT Tryd.prog 81 := ⟨_, Tryd.underlying81, rfl⟩
instance : One Tryd.prog 81 := One.mk' Tryd.underlying81 rfl (by kernel_rfl)
instance : IntT Tryd.prog 81 .u8 := ⟨Tryd.underlying81⟩
instance : ZeroT Tryd.prog 82 (.int .u8 0) := ⟨by kernel_rfl⟩
instance : ConT Tryd.prog 82 := ⟨_, Tryd.underlying82, rfl⟩
instance : One Tryd.prog 82 := One.mk' Tryd.underlying82 rfl (by kernel_rfl)
instance : IntT Tryd.prog 82 .u8 := ⟨Tryd.underlying82⟩
instance : ZeroT Tryd.prog 83 (.nilFunc) := ⟨by kernel_rfl⟩
instance : ConT Tryd.prog 83 := ⟨_, Tryd.underlying83, rfl⟩
instance : One Tryd.prog 83 := One.mk' Tryd.underlying83 rfl (by kernel_rfl)
instance : ZeroT Tryd.prog 84 (.pointer none) := ⟨by kernel_rfl⟩
instance : ConT Tryd.prog 84 := ⟨_, Tryd.underlying84, rfl⟩
instance : One Tryd.prog 84 := One.mk' Tryd.underlying84 rfl (by kernel_rfl)
instance : PtrT Tryd.prog 84 := ⟨_, Tryd.underlying84⟩
instance : PtrE Tryd.prog 84 := PtrE.mk' Tryd.underlying84 (by kernel_rfl) (by kernel_rfl)
instance : ZeroT Tryd.prog 85 (.int .i32 0) := ⟨by kernel_rfl⟩
instance : ConT Tryd.prog 85 := ⟨_, Tryd.underlying85, rfl⟩
instance : One Tryd.prog 85 := One.mk' Tryd.underlying85 rfl (by kernel_rfl)
instance : IntT Tryd.prog 85 .i32 := ⟨Tryd.underlying85⟩
instance : ZeroT Tryd.prog 86 (.int .i32 0) := ⟨by kernel_rfl⟩
instance : ConT Tryd.prog 86 := ⟨_, Tryd.underlying86, rfl⟩
instance : One Tryd.prog 86 := One.mk' Tryd.underlying86 rfl (by kernel_rfl)
instance : IntT Tryd.prog 86 .i32 := ⟨Tryd.underlying86⟩
instance : ZeroT Tryd.prog 87 (.agg #[.int .u64 0, .int .u64 0, .int .u32 0, .int .u8 0, .int .u8 0, .int .u8 0, .int .u8 0, .nilFunc, .pointer none, .int .i32 0, .int .i32 0]) := ⟨by kernel_rfl⟩
instance : ConT Tryd.prog 87 := ⟨_, Tryd.underlying87, rfl⟩
instance : FA Tryd.prog 87 0 0 := FA.mk' Tryd.underlying87 rfl rfl (by kernel_rfl)
instance : FA Tryd.prog 87 1 1 := FA.mk' Tryd.underlying87 rfl rfl (by kernel_rfl)
instance : FA Tryd.prog 87 2 2 := FA.mk' Tryd.underlying87 rfl rfl (by kernel_rfl)
instance : FA Tryd.prog 87 3 3 := FA.mk' Tryd.underlying87 rfl rfl (by kernel_rfl)
instance : FA Tryd.prog 87 4 4 := FA.mk' Tryd.underlying87 rfl rfl (by kernel_rfl)
instance : FA Tryd.prog 87 5 5 := FA.mk' Tryd.underlying87 rfl rfl (by kernel_rfl)
instance : FA Tryd.prog 87 6 6 := FA.mk' Tryd.underlying87 rfl rfl (by kernel_rfl)
instance : FA Tryd.prog 87 7 7 := FA.mk' Tryd.underlying87 rfl rfl (by kernel_rfl)
instance : FA Tryd.prog 87 8 8 := FA.mk' Tryd.underlying87 rfl rfl (by kernel_rfl)
instance : FA Tryd.prog 87 9 9 := FA.mk' Tryd.underlying87 rfl rfl (by kernel_rfl)
instance : FA Tryd.prog 87 10 10 := FA.mk' Tryd.underlying87 rfl rfl (by kernel_rfl)
instance : StructT Tryd.prog 87 [(0, 1), (1, 1), (2, 1), (3, 1), (4, 1), (5, 1), (6, 1), (7, 1), (8, 1), (9, 1), (10, 1)] [.int .u64 0, .int .u64 0, .int .u32 0, .int .u8 0, .int .u8 0, .int .u8 0, .int .u8 0, .nilFunc, .pointer none, .int .i32 0, .int .i32 0] := StructT.mk' Tryd.underlying87 (by kernel_rfl) (by kernel_rfl)
instance : ZeroT Tryd.prog 88 (.agg #[.int .u64 0, .int .u64 0, .int .u32 0, .int .u8 0, .int .u8 0, .int .u8 0, .int .u8 0, .nilFunc, .pointer none, .int .i32 0, .int .i32 0]) := ⟨by kernel_rfl⟩
instance : ConT Tryd.prog 88 := ⟨_, Tryd.underlying88, rfl⟩
instance : FA Tryd.prog 88 0 0 := FA.mk' Tryd.underlying88 rfl rfl (by kernel_rfl)
instance : FA Tryd.prog 88 1 1 := FA.mk' Tryd.underlying88 rfl rfl (by kernel_rfl)
instance : FA Tryd.prog 88 2 2 := FA.mk' Tryd.underlying88 rfl rfl (by kernel_rfl)
instance : FA Tryd.prog 88 3 3 := FA.mk' Tryd.underlying88 rfl rfl (by kernel_rfl)
instance : FA Tryd.prog 88 4 4 := FA.mk' Tryd.underlying88 rfl rfl (by kernel_rfl)
instance : FA Tryd.prog 88 5 5 := FA.mk' Tryd.underlying88 rfl rfl (by kernel_rfl)
instance : FA Tryd.prog 88 6 6 := FA.mk' Tryd.underlying88 rfl rfl (by kernel_rfl)
instance : FA Tryd.prog 88 7 7 := FA.mk' Tryd.underlying88 rfl rfl (by kernel_rfl)
instance : FA Tryd.prog 88 8 8 := FA.mk' Tryd.underlying88 rfl rfl (by kernel_rfl)
instance : FA Tryd.prog 88 9 9 := FA.mk' Tryd.underlying88 rfl rfl (by kernel_rfl)
instance : FA Tryd.prog 88 10 10 := FA.mk' Tryd.underlying88 rfl rfl (by kernel_rfl)
instance : StructT Tryd.prog 88 [(0, 1), (1, 1), (2, 1), (3, 1), (4, 1), (5, 1), (6, 1), (7, 1), (8, 1), (9, 1), (10, 1)] [.int .u64 0, .int .u64 0, .int .u32 0, .int .u8 0, .int .u8 0, .int .u8 0, .int .u8 0, .nilFunc, .pointer none, .int .i32 0, .int .i32 0] := StructT.mk' Tryd.underlying88 (by kernel_rfl) (by kernel_rfl)
instance : ZeroT Tryd.prog 89 (.agg #[.string ⟨#[]⟩]) := ⟨by kernel_rfl⟩
instance : ConT Tryd.prog 89 := ⟨_, Tryd.underlying89, rfl⟩
instance : FA Tryd.prog 89 0 0 := FA.mk' Tryd.underlying89 rfl rfl (by kernel_rfl)
instance : StructT Tryd.prog 89 [(0, 1)] [.string ⟨#[]⟩] := StructT.mk' Tryd.underlying89 (by kernel_rfl) (by kernel_rfl)
instance : ZeroT Tryd.prog 90 (.agg #[.string ⟨#[]⟩]) := ⟨by kernel_rfl⟩
instance : ConT Tryd.prog 90 := ⟨_, Tryd.underlying90, rfl⟩
instance : FA Tryd.prog 90 0 0 := FA.mk' Tryd.underlying90 rfl rfl (by kernel_rfl)
instance : StructT Tryd.prog 90 [(0, 1)] [.string ⟨#[]⟩] := StructT.mk' Tryd.underlying90 (by kernel_rfl) (by kernel_rfl)
instance : ConT Tryd.prog 91 := ⟨_, Tryd.underlying91, rfl⟩
instance : One Tryd.prog 91 := One.mk' Tryd.underlying91 rfl (by kernel_rfl)
instance : ZeroT Tryd.prog 92 (.nilFunc) := ⟨by kernel_rfl⟩
instance : ConT Tryd.prog 92 := ⟨_, Tryd.underlying92, rfl⟩
instance : One Tryd.prog 92 := One.mk' Tryd.underlying92 rfl (by kernel_rfl)
/-- The errors of package api. -/
def errG : List Nat := [0, 1, 2]
instance : Enters Tryd.prog 3 := Enters.mk' Tryd.func3 rfl (by kernel_rfl)
instance : Enters Tryd.prog 4 := Enters.mk' Tryd.func4 rfl (by kernel_rfl)
instance : Enters Tryd.prog 5 := Enters.mk' Tryd.func5 rfl (by kernel_rfl)
instance : Enters Tryd.prog 6 := Enters.mk' Tryd.func6 rfl (by kernel_rfl)
instance : Enters Tryd.prog 7 := Enters.mk' Tryd.func7 rfl (by kernel_rfl)
instance : Enters Tryd.prog 8 := Enters.mk' Tryd.func8 rfl (by kernel_rfl)
instance : Enters Tryd.prog 9 := Enters.mk' Tryd.func9 rfl (by kernel_rfl)
instance : Enters Tryd.prog 10 := Enters.mk' Tryd.func10 rfl (by kernel_rfl)
instance : Enters Tryd.prog 11 := Enters.mk' Tryd.func11 rfl (by kernel_rfl)
instance : Enters Tryd.prog 12 := Enters.mk' Tryd.func12 rfl (by kernel_rfl)
instance : Enters Tryd.prog 13 := Enters.mk' Tryd.func13 rfl (by kernel_rfl)
instance : Enters Tryd.prog 14 := Enters.mk' Tryd.func14 rfl (by kernel_rfl)
instance : Enters Tryd.prog 15 := Enters.mk' Tryd.func15 rfl (by kernel_rfl)
instance : Enters Tryd.prog 16 := Enters.mk' Tryd.func16 rfl (by kernel_rfl)
instance : Enters Tryd.prog 17 := Enters.mk' Tryd.func17 rfl (by kernel_rfl)
instance : Enters Tryd.prog 18 := Enters.mk' Tryd.func18 rfl (by kernel_rfl)
instance : Enters Tryd.prog 19 := Enters.mk' Tryd.func19 rfl (by kernel_rfl)
instance : Enters Tryd.prog 20 := Enters.mk' Tryd.func20 rfl (by kernel_rfl)
instance : Enters Tryd.prog 21 := Enters.mk' Tryd.func21 rfl (by kernel_rfl)
instance : Enters Tryd.prog 22 := Enters.mk' Tryd.func22 rfl (by kernel_rfl)
instance : Enters Tryd.prog 23 := Enters.mk' Tryd.func23 rfl (by kernel_rfl)
instance : Enters Tryd.prog 24 := Enters.mk' Tryd.func24 rfl (by kernel_rfl)
instance : Enters Tryd.prog 25 := Enters.mk' Tryd.func25 rfl (by kernel_rfl)
instance : Enters Tryd.prog 26 := Enters.mk' Tryd.func26 rfl (by kernel_rfl)
instance : Enters Tryd.prog 27 := Enters.mk' Tryd.func27 rfl (by kernel_rfl)
instance : Enters Tryd.prog 28 := Enters.mk' Tryd.func28 rfl (by kernel_rfl)
instance : Enters Tryd.prog 29 := Enters.mk' Tryd.func29 rfl (by kernel_rfl)
instance : Enters Tryd.prog 30 := Enters.mk' Tryd.func30 rfl (by kernel_rfl)
instance : Enters Tryd.prog 31 := Enters.mk' Tryd.func31 rfl (by kernel_rfl)
instance : Enters Tryd.prog 49 := Enters.mk' Tryd.func49 rfl (by kernel_rfl)
end Go.Proofs.YtaamaifnmppbgaaDoor
end
section
/- The errors' variables, in a program without package field. No condition. -/
namespace Go.Proofs.YtaamaifnmppbgaaDoor
open Go Go.Sx
def errV (e : Nat → Addr) (k : Nat) : Value := .iface 73 (.pointer (some (e k)))
/-- The error variable number k holds an error of its own. -/
def Er (e : Nat → Addr) (w : World) (k : Nat) : Prop := w.cell? ⟨k, 0, none⟩ = some (errV e k)
theorem _root_.Go.Sx.St.er {e : Nat → Addr} {w₀ w : World} {L : List Atom} {k : Nat} (h : Sto w₀ L w) (hz : Er e w₀ k) : Er e w k := h.cell hz
def two (a b : Value) : Value := .tuple #[a, b]
end Go.Proofs.YtaamaifnmppbgaaDoor
end
section
/- What a row's list of error variables gives a walk: each holds a pointer of its own. No condition. -/
namespace Go.Proofs.YtaamaifnmppbgaaDoor
open Go.Sx Go.ChangeShapes Go.WideShapes Go.RowKit

theorem laidOutT : laidOutB Tryd.prog = true := by kernel_rfl
theorem errStar : "*" ++ "errors.errorString" = "*errors.errorString" := by decide
theorem errRow (u : TypeId) (h : Tryd.prog.typeName? 3 u = some "*errors.errorString") : u = 73 :=
  typeName_ptr_named (nm := "errors.errorString") (by rw [errStar]; kernel_rfl) (by kernel_rfl) (by decide) u (by rw [errStar]; exact h)
theorem errCells : Tryd.prog.cellsOf 90 = 1 := by kernel_rfl
theorem strCells : Tryd.prog.cellsOf 9 = 1 := by kernel_rfl
theorem noKnob : ownKnob Tryd.prog.godebug = none := by kernel_rfl

/-- The pointer that error variable k holds. -/
noncomputable def eOf (W : World) (k : Nat) : Addr := open Classical in if h : ∃ a, W.cell? ⟨k, 0, none⟩ = some (.iface 73 (.pointer (some a))) then Classical.choose h else default

theorem er_of {W : World} {k : Nat} (h : ∃ a, W.cell? ⟨k, 0, none⟩ = some (.iface 73 (.pointer (some a)))) : Er (eOf W) W k := by
  unfold Er errV eOf
  rw [dif_pos h]
  exact Classical.choose_spec h

set_option maxRecDepth 100000 in
theorem er_laid {W : World} : ∀ {l : List (String × DataW Unit)} {ps : List MemPlace}, DataW.LaidVars Tryd.prog W l ps →
    (∀ b off, MemPlace.cell b off ∈ ps → (∃ c t, W.heap[b]? = some (.cells c t (0, 0))) ∧ ∀ u v, W.cell? ⟨b, off, none⟩ = some (.iface u v) → Value.okWide Tryd.prog W .any 0 u v) →
    ∀ n d, (n, d) ∈ l → ∀ text k, d = .iface "*errors.errorString" (.ptr (.agg [.lit (.string text)])) → Tryd.prog.globalNamed n = some k → (Tryd.prog.globals[k]?).map (·.type) = some 26 → Er (eOf W) W k
  | [], _, _, _, _, _, h, _, _, _, _, _ => by cases h
  | (n0, d0) :: r, ps, hl, hrows, n, d, hm, text, k, hd, hk, ht => by
    obtain ⟨g, t, cs, fuel, p, q, hg, htg, hv, htr, hr, hps⟩ := hl
    rcases List.mem_cons.1 hm with he | hm
    · simp only [Prod.mk.injEq] at he
      obtain ⟨rfl, rfl⟩ := he
      subst hd
      obtain rfl := Option.some.inj (hk.symm.trans hg)
      obtain rfl := Option.some.inj (ht.symm.trans htg)
      obtain ⟨l0⟩ := cs
      have ok0 : ∀ u v, l0 = [.iface u v] → Value.okWide Tryd.prog W .any 0 u v := fun u v e => by
        subst e
        exact (hrows k 0 (by rw [hps]; simp [MemPlace.row])).2 u v (by simpa using World.var?_cell hg hv 0)
      obtain ⟨a, s, rfl, _⟩ := errorString_of_trod Tryd.underlying26 errRow Tryd.underlying73 Tryd.underlying90 rfl rfl Tryd.underlying9 errCells strCells htr ok0
      exact er_of ⟨a, by simpa using World.var?_cell hg hv 0⟩
    · exact er_laid hr (fun b off hb => hrows b off (by rw [hps]; exact List.mem_append_right _ hb)) n d hm text k hd hk ht

theorem er_met {W : World} {l : List (String × DataW Unit)} (h : laidMet Tryd.prog l W) (n : String) (d : DataW Unit) (hm : (n, d) ∈ l) (text : List UInt8) (k : Nat) (hd : d = .iface "*errors.errorString" (.ptr (.agg [.lit (.string text)])))
    (hk : Tryd.prog.globalNamed n = some k) (ht : (Tryd.prog.globals[k]?).map (·.type) = some 26) : Er (eOf W) W k :=
  let ⟨_, h1, _, h3⟩ := h
  er_laid h1 h3 n d hm text k hd hk ht

theorem fr_below {w w' : World} (h : Sto w [] w') : Below w.heap.size w w' := h.fr.below
end Go.Proofs.YtaamaifnmppbgaaDoor
end
section
/- More operations for the symbolic walk, over any program: truth values, errors that differ, whole variables that are loaded, results that lie in memory. No condition. -/
namespace Go.Sx
open Go

class BoolT (P : Program) (T : TypeId) : Prop where
  under : P.underlying T = some .bool
/-- A type of a row of cells. -/
class RowT (P : Program) (T : TypeId) (n : outParam Nat) : Prop where
  agg : ∀ w, (isAgg T).run P w = .ok true w
  size : ∀ w, (sizeOf T).run P w = .ok n w
theorem RowT.mk' {P : Program} {T n : Nat} {d : TypeDesc} (hT : P.underlying T = some d) (hd : isRow d = true) (hi : (P.info? T).map (·.size) = some n) : RowT P T n := by
  obtain ⟨i, hi, hs⟩ := info_of hi
  refine ⟨fun w => ?_, fun w => ?_⟩
  · simp only [isAgg, Sem.run_bind, run_underlying hT, Result.andThen_ok]
    cases d <;> first | rfl | (cases hd; done)
  · simp only [sizeOf, Sem.run_bind, run_tinfo hi, Sem.run_pure, Result.andThen_ok, hs]
/-- A pointer's type that points at something. -/
class PtrD (P : Program) (T : TypeId) : Prop where
  under : ∃ te j i, P.underlying T = some (.pointer te) ∧ P.info? te = some j ∧ j.size ≠ 0 ∧ P.info? T = some i ∧ i.comparable = true
theorem PtrD.mk' {P : Program} {T te : TypeId} (hT : P.underlying T = some (.pointer te)) (hj : (P.info? te).map (fun i => i.size == 0) = some false) (hi : (P.info? T).map (·.comparable) = some true) : PtrD P T := by
  obtain ⟨i, h1, h2⟩ := info_of hi
  obtain ⟨j, h3, h4⟩ := info_of hj
  exact ⟨te, j, i, hT, h3, by simpa using h4, h1, h2⟩

section
variable {P : Program} {w : World}
theorem eqGuard_bool (op : BinOp) (T : TypeId) (x y : Operand) (a : Bool) (b : Value) : (eqGuard op T x y (.bool a) b).run P w = .ok () w := by
  unfold eqGuard
  cases op <;> first | rfl | (cases b <;> rfl)
theorem run_loadVarR {T n g o : Nat} {cs : List Value} [h1 : RowT P T n] (hn : cs.length = n) (hc : ∀ j v, cs[j]? = some v → w.cell? ⟨g, o + j, none⟩ = some v) :
    (loadVar T ⟨g, o, none⟩).run P w = .ok (.agg cs.toArray) w := by
  have hl : (loadCells ⟨g, o, none⟩ n).run P w = .ok cs.toArray w := by
    rw [← hn]
    exact run_loadCells_list (P := P) w ⟨g, o, none⟩ cs (fun j v hv => by rw [add_at]; exact hc j v hv)
  simp only [loadVar, Sem.run_bind, h1.agg, Result.andThen_ok, if_true, h1.size, hl]
  simp
theorem run_loadVar1 {T : TypeId} [h1 : One P T] {a : Addr} {v : Value} (hc : w.cell? a = some v) : (loadVar T a).run P w = .ok v w := by
  simp only [loadVar, h1.agg, Sem.run_bind, Result.andThen_ok, Bool.false_eq_true, if_false]
  simp only [load, Sem.run, hc]
theorem run_loadRow {T n g o : Nat} {cs : List Value} [h1 : RowT P T n] (hn : cs.length = n) (hc : ∀ j v, cs[j]? = some v → w.cell? ⟨g, o + j, none⟩ = some v) :
    (Instr.loadAt T (.pointer (some ⟨g, o, none⟩))).run P w = .ok (.agg cs.toArray) w := by
  simp only [Instr.loadAt, Instr.sureAddr, Sem.run_bind, Sem.run_pure, Result.andThen_ok, run_loadVarR hn hc]
end

section
variable {P : Program} {ops : Array Oper} {S : World → Prop} {K : Act → World → Prop} {p : Plan} {n : Nat} {l : List (Nat × Value)} {C : World → Prop} {fl : Bool} {i : Nat} {ty ty' ty2 ty3 : TypeId} {x y z : Operand}
variable {F : Nat → Prop} {w₀ : World} {L L' : List Atom}

theorem s_neB (d : Nat) {a b r : Bool} (ho : opAt ops n l i = some (some d, .binOp .neq ty x y ty', ty2)) [hT : BoolT P ty] (hx : ev l x = some (.bool a)) (hy : ev l y = some (.bool b)) (hr : (!(a == b)) = r)
    (h : SX P ops S K p n ((d, .bool r) :: l) C) : SX P ops S K (.st fl i p) n l C :=
  SX.pure ho (fun a w o he h1 _ => by
    subst hr
    simp only [execOp, h1, he.ev hx, he.ev hy, Sem.run_bind, eqGuard_bool, run_neq_bool w ty _ _ hT.under, Result.andThen_ok, Sem.run_pure]) h
/-- One error twice: not unequal. -/
theorem s_neE (d : Nat) {tp : TypeId} {a0 : Addr} (ho : opAt ops n l i = some (some d, .binOp .neq ty x y ty', ty2)) [hI : IfT P ty] [hP : PtrE P tp] (hx : ev l x = some (.iface tp (.pointer (some a0)))) (hy : ev l y = some (.iface tp (.pointer (some a0)))) (h : SX P ops S K p n ((d, .bool false) :: l) C) : SX P ops S K (.st fl i p) n l C :=
  SX.pure ho (fun a w o he h1 _ => by
    obtain ⟨te, j, i, h2, h3, h4, h5⟩ := hP.under
    have e2 : (binOp .neq ty (.iface tp (.pointer (some a0))) (.iface tp (.pointer (some a0)))).run P w = .ok (.bool false) w := by
      simp only [binOp]
      simp [Op.equal, Op.maxDepth, run_equalIn_iface_ptr_same w 9998 a0 hI.under h2 h4 h5 h3]
    simp only [execOp, h1, he.ev hx, he.ev hy, Sem.run_bind, eqGuard_held, e2, Result.andThen_ok, Sem.run_pure]) h
/-- A block is there. -/
def Live (a : Addr) (w : World) : Prop := ∃ c t, w.heap[a.block]? = some (.cells c t (0, 0))
/-- A whole variable of several cells is loaded. -/
theorem s_ldR (d : Nat) {m g o : Nat} {cs : List Value} (ho : opAt ops n l i = some (some d, .load ty x, ty2)) [RowT P ty m] (hx : ev l x = some (.pointer (some ⟨g, o, none⟩))) (hn : cs.length = m) (hc : ∀ w, C w → ∀ j v, cs[j]? = some v → w.cell? ⟨g, o + j, none⟩ = some v)
    (h : SX P ops S K p n ((d, .agg cs.toArray) :: l) C) : SX P ops S K (.st false i p) n l C :=
  SX.val ho (fun a w o he _ hs h1 _ => by simp only [execOp, h1, he.ev hx, Sem.run_bind, run_loadRow hn (hc w (hs rfl)), Result.andThen_ok, Sem.run_pure]) h
end

/-! ### Results that lie in memory -/
def ResAt (P : Program) (l : List (Nat × Value)) (w : World) : List ResultVar → List Value → Prop
  | [], [] => True
  | .tmp t :: r, v :: vs => lk t l = some v ∧ ResAt P l w r vs
  | .cell b t :: r, v :: vs => (∃ a, lk b l = some (.pointer (some a)) ∧ (loadVar t a).run P w = .ok v w) ∧ ResAt P l w r vs
  | _, _ => False
theorem resAt_run {P : Program} {n : Nat} {l : List (Nat × Value)} {a : Act} {w : World} (he : Env n l a) : ∀ (rs : List ResultVar) (vs : List Value), ResAt P l w rs vs → (rs.mapM (resVal a)).run P w = .ok vs w
  | [], [], _ => rfl
  | .tmp t :: r, v :: vs, h => by
    have hv : a.tmps.getD t undef = v := he.ev (x := .tmp t) h.1
    simp only [List.mapM_cons, resVal, hv, Sem.run_bind, resAt_run he r vs h.2, Sem.run_pure, Result.andThen_ok]
  | .cell b t :: r, v :: vs, ⟨⟨ad, h1, h2⟩, h3⟩ => by
    have hv : a.tmps.getD b undef = .pointer (some ad) := he.ev (x := .tmp b) h1
    simp only [List.mapM_cons, resVal, hv, asAddr, Sem.run_bind, resAt_run he r vs h3, Sem.run_pure, Result.andThen_ok, h2]
  | [], _ :: _, h => h.elim
  | .tmp _ :: _, [], h => h.elim
  | .cell _ _ :: _, [], h => h.elim
theorem KN.retC {P : Program} {n : Nat} {l : List (Nat × Value)} {C : World → Prop} {fn : Func} {R : Ending → World → Prop} {rs : List ResultVar} (hr : fn.results = rs.toArray) (h : ∀ w, C w → ∃ vs, ResAt P l w rs vs ∧ R (.returned (oneOf vs)) w) : KN P (Rets fn R P) [] n l C := by
  refine ⟨fun a w he hc => ?_⟩
  obtain ⟨vs, h1, hR⟩ := h w hc
  refine ⟨he.defers, _, ?_, hR⟩
  have h1 := resAt_run (P := P) (w := w) he rs vs h1
  have h2 : results fn a.tmps = (do let vs ← fn.results.mapM (resVal a); Pure.pure (if h : vs.size = 1 then vs[0] else .tuple vs)) := by
    unfold results
    congr 1
  rw [h2, hr, List.mapM_toArray]
  simp only [Sem.run_bind, Sem.run_map, h1, Sem.run_pure, Result.andThen_ok]
  congr 1
  match vs with
  | [] => rfl
  | [v] => rfl
  | u :: v :: r =>
    rw [dif_neg (by simp)]
    rfl
section
variable {P : Program} {F : Nat → Prop} {w₀ w : World} {L : List Atom}
end
/-! ### An operation whose guard was itself not carried out -/
def isUndef : Value → Bool
  | .tuple a => a.isEmpty
  | _ => false
def opSkipU (ops : Array Oper) (n : Nat) (l : List (Nat × Value)) (i : Nat) : Option (Option Nat) :=
  match ops[i]? with
  | some o => match o.guard with
    | some (j, _) => match (ops[j]?).bind (·.dst) with
      | some d => match lk d l with
        | some v => bif isUndef v && okD n o.dst then some o.dst else none
        | none => none
      | none => none
    | none => none
  | none => none
/-! ### A type switch's arm -/
section
variable {P : Program} {ops : Array Oper} {S : World → Prop} {K : Act → World → Prop} {p : Plan} {n : Nat} {l : List (Nat × Value)} {C : World → Prop} {fl : Bool} {i : Nat} {xt at_ ty2 : TypeId} {x : Operand}
end
end Go.Sx
end
section
/- Slices that grow, are cut and are copied, for the symbolic walk, over any program. No condition. -/
namespace Go.Sx
open Go

/-! ### Views -/
section
variable {w : World} {sz n : Nat} {A : Option Addr} {vs : List Value}
theorem Has.sl_nil (w : World) (sz : Nat) (A : Option Addr) : Has (sl sz A 0 []) w := ⟨fun _ => False, ⟨by simp, fun h => absurd rfl h⟩, fun _ h => h.elim⟩
theorem Has.blk_sl {g T m : Nat} {cs : Array Value} (h : Has (blk g T cs) w) (hs : cs.size = m * sz) : Has (sl sz (some ⟨g, 0, none⟩) m cs.toList) w := by
  obtain ⟨D, ⟨h1, h2⟩, h3⟩ := h
  refine ⟨D, ⟨by simpa using hs, fun _ => ⟨rfl, (h1 g).2 rfl, fun j v hj => ?_⟩⟩, h3⟩
  show w.cell? ⟨g, 0 + j, none⟩ = some v
  rw [Nat.zero_add, cell_of_blk h2]
  simpa using hj
/-- Where a part of a slice lies. -/
def cutA (A : Option Addr) (lo sz c : Nat) : Option Addr := if c = lo then A else A.map (·.add (lo * sz))
theorem cutA_zero (A : Option Addr) (sz c : Nat) : cutA A 0 sz c = A := by
  unfold cutA
  split
  · rfl
  · rw [Nat.zero_mul]
    cases A with
    | none => rfl
    | some a => simp [Addr.add]
end

/-! ### Runs -/
section
variable {P : Program} {w : World}
theorem elem_of {T E : TypeId} (h : P.underlying T = some (.slice E)) : P.elem T = E := by simp [Program.elem, h]
theorem run_slH {T E sz by_ : Nat} {z : Value} [h : SlT P T E sz by_ z] {A : Option Addr} {m c : Nat} {k : IntKind} {hi : Int} (h0 : 0 ≤ hi) (h2 : hi ≤ c) :
    (Instr.slice T (.slice A m c) none (some (.int k hi)) none).run P w = .ok (.slice A hi.toNat c) w := by
  obtain ⟨i, hi1, hs, _⟩ := h.info
  have e := elem_of h.under
  rw [run_slice_h w T A m c (by rw [e]; exact h.under) k hi h0 h2, e]
  simp only [sizeOf, Sem.run_bind, run_tinfo hi1, Result.andThen_ok, Sem.run_pure, hs]
  have := cutA_zero A sz c
  unfold cutA at this
  simp only [sliced, this, Nat.sub_zero]
theorem run_sliceAt' {T E sz by_ : Nat} {z : Value} [h : SlT P T E sz by_ z] (x : Value) (lo hi mx : Option Value) : (Instr.sliceAt T x lo hi mx).run P w = (Instr.slice T x lo hi mx).run P w :=
  run_sliceAt_slice w T x lo hi mx (by rw [elem_of h.under]; exact h.under)
theorem run_append_none {T E sz by_ : Nat} {z : Value} [h : SlT P T E sz by_ z] {A : Option Addr} {n c c2 : Nat} {ty : TypeId} (hc : n ≤ c) :
    (Builtin.append_ #[T, T] ty #[.slice A n c, .slice none 0 c2]).run P w = .ok (.slice A n c) w := by
  obtain ⟨i, hi1, hs, _⟩ := h.info
  cases A with
  | none => simp [Builtin.append_, run_underlying h.under, sizeOf, run_tinfo hi1, Builtin.lenOf, Builtin.firstCells, hc]
  | some a => simp [Builtin.append_, run_underlying h.under, sizeOf, run_tinfo hi1, Builtin.lenOf, Builtin.firstCells, hc, storeCells]
end

section
variable {P : Program} {ops : Array Oper} {S : World → Prop} {K : Act → World → Prop} {p : Plan} {n : Nat} {l : List (Nat × Value)} {C : World → Prop} {fl : Bool} {i : Nat} {ty ty' ty2 ty3 : TypeId} {x y z u : Operand}
variable {F : Nat → Prop} {w₀ : World} {L L' : List Atom}

theorem s_slH (d q : Nat) {E sz by_ : Nat} {zv : Value} {A : Option Addr} {m c : Nat} {k : IntKind} {hi : Int} (ho : opAt ops n l i = some (some d, .slice ty x none (some y) none, ty2)) [SlT P ty E sz by_ zv] (hx : ev l x = some (.slice A m c)) (hy : ev l y = some (.int k hi))
    (hq : hi = (q : Nat)) (hc : q ≤ c) (h : SX P ops S K p n ((d, (.slice A q c)) :: l) C) : SX P ops S K (.st fl i p) n l C :=
  SX.pure ho (fun a w o he h1 _ => by
    subst hq
    simp only [execOp, h1, he.ev hx, he.ev hy, Option.map_none, Option.map_some, Sem.run_bind, run_sliceAt' (P := P) (T := ty), run_slH (w := w) (P := P) (T := ty) (m := m) (c := c) (A := A) (k := k) (hi := ((q : Nat) : Int)) (by omega) (by omega), Result.andThen_ok, Sem.run_pure, Int.toNat_natCast]) h
theorem ownBlock_of {A : Option Addr} {n c : Nat} : (Value.slice A n c).ownBlock = A.map (·.block) := by cases A <;> rfl
/-- What is appended to a slice of the walk's own. -/
theorem s_app (d q : Nat) {E sz by_ : Nat} {zv : Value} {A B : Option Addr} {m c m2 c2 : Nat} {xs ys : List Value} {T : TypeId} (hi : L[q]? = some (own E sz A m c xs))
    (ho : opAt ops n l i = some (some d, .call ⟨.builtin .append, #[x, y], #[T, T]⟩, ty)) [hT : SlT P T E sz by_ zv] (hx : ev l x = some (.slice A m c)) (hy : ev l y = some (.slice B m2 c2))
    (hv : ∀ w, St F w₀ L w → Has (sl sz B m2 ys) w) (h1 : ys.all (·.oneCell') = true) (hz : zv.cells.size = sz) (h0 : 0 < sz) (h63 : m + m2 ≤ maxLen) (hb : (m + m2) * by_ ≤ 140737488355328)
    (hS : ∀ A' c' w, St F w₀ (L.set q (own E sz A' (m + m2) c' (xs ++ ys))) w → S w)
    (h : ∀ A' c', m + m2 ≤ c' → SX P ops S K p n ((d, .slice A' (m + m2) c') :: l) (St F w₀ (L.set q (own E sz A' (m + m2) c' (xs ++ ys))))) : SX P ops S K (.st false i p) n l (St F w₀ L) := by
  obtain ⟨inf, hi1, hs, hby, hzz⟩ := hT.info
  refine SX.act (d := some d) (X := { q : Option Addr × Nat // m + m2 ≤ q.2 }) (v := fun r => .slice r.1.1 (m + m2) r.1.2) (C' := fun r => St F w₀ (L.set q (own E sz r.1.1 (m + m2) r.1.2 (xs ++ ys)))) ho (fun a w o he hw ho1 ho2 => ?_) (fun r w hw => hS _ _ w hw) (fun r => h _ _ r.2)
  obtain ⟨D, ⟨hown, hD⟩, hlt, hmk⟩ := hw.work hi
  have hsl := hv w hw
  have hex : ∀ (v : Value) (w' : World), (Builtin.append_ #[T, T] ty #[.slice A m c, .slice B m2 c2]).run P w = .ok v w' → (execOp a.eval o).run P w = .ok (.value v) w' := fun v w' hr => by
    simp only [execOp, ho1, ho2, resolve, Sem.run_bind, Sem.run_pure, Result.andThen_ok, invoke, builtin, List.map_toArray, List.map_cons, List.map_nil, he.ev hx, he.ev hy, hr]
  have hmc : m ≤ c := by
    rcases hown.2 with ⟨h, h2⟩ | ⟨g, cap, cur, h, _, _, h2, _⟩
    · injection h; omega
    · injection h; omega
  by_cases hn : B = none
  · subst hn
    have hm2 : m2 = 0 := by
      by_cases h : m2 = 0
      · exact h
      · have := hsl.sl_some h; cases this
    subst hm2
    have hys : ys = [] := List.eq_nil_of_length_eq_zero (by rw [hsl.sl_len]; omega)
    subst hys
    exact ⟨⟨(A, c), by omega⟩, w, .inl (hex _ _ (run_append_none hmc)), by
      have := hmk w (own E sz A (m + 0) c (xs ++ [])) D ⟨rfl, rfl, rfl, Nat.le_refl _, fun _ _ => rfl⟩ ⟨by simpa using hown, hD⟩ (fun k hk => ⟨.inl hk, hlt k hk⟩)
      exact this⟩
  · obtain ⟨b, rfl⟩ : ∃ b, B = some b := by cases B with | none => exact absurd rfl hn | some b => exact ⟨b, rfl⟩
    have hcells : ∀ j u, ys[j]? = some u → w.cell? (b.add j) = some u := fun j u hj => by
      have hne : m2 ≠ 0 := fun h => by
        have := hsl.sl_len
        rw [h, Nat.zero_mul] at this
        rw [List.eq_nil_of_length_eq_zero this] at hj
        simp at hj
      have h2 := hsl.sl_cell hne hj
      have h3 := h2.1
      rw [Option.some.injEq] at h3
      rw [h3, add_at]
      exact h2.2
    obtain ⟨v', w', hr, k1, k2, k3, k4⟩ := run_append_own_at (P := P) w 0 T ty E inf zv sz by_ hT.under hi1 hzz hs hby hz h0 (.slice A m c) m xs hown b m2 c2 ys hsl.sl_len hcells (List.all_eq_true.1 h1) h63 hb (Nat.zero_le _)
    obtain ⟨A', c', rfl, hle⟩ : ∃ A' c', v' = .slice A' (m + m2) c' ∧ m + m2 ≤ c' := by
      rcases k1.2 with ⟨rfl, h⟩ | ⟨g, cap, cur, rfl, _, _, h, _⟩
      · exact ⟨none, 0, by rw [h], by omega⟩
      · exact ⟨_, _, rfl, h⟩
    refine ⟨⟨(A', c'), hle⟩, w', .inl (hex _ _ hr), hmk w' (own E sz A' (m + m2) c' (xs ++ ys)) (fun k => A' ≠ none ∧ k = ob A') ⟨k2.os, k2.tape, k2.output, k2.size, fun k hk => k2.block k hk.1 (fun h => ?_)⟩ ⟨k1, fun k => Iff.rfl⟩ (fun k hk => ?_)⟩
    · refine hk.2 ((hD k).2 ?_)
      rw [ownBlock_of] at h
      cases A with
      | none => cases h
      | some a => exact ⟨by simp, by simpa [ob] using h⟩
    · obtain ⟨a', rfl⟩ : ∃ a', A' = some a' := by cases A' with | none => exact absurd rfl hk.1 | some b => exact ⟨b, rfl⟩
      have hk2 : k = a'.block := hk.2
      subst hk2
      refine ⟨?_, ?_⟩
      · rcases k4 with h | h
        · rw [ownBlock_of, ownBlock_of] at h
          cases A with
          | none => cases h
          | some a => exact .inl ((hD _).2 ⟨by simp, by simpa [ob] using h⟩)
        · rw [ownBlock_of] at h
          simp at h
          exact .inr (by omega)
      · rcases k1.2 with ⟨h, _⟩ | ⟨g, cap, cur, h, _, h2, _⟩
        · injection h with h; cases h
        · injection h with h
          simp only [Option.some.injEq] at h
          subst h
          obtain ⟨h3, _⟩ := Array.getElem?_eq_some_iff.1 h2
          exact h3
end
end Go.Sx
end
section
/- Slices of the walk's own: read, written, begun; what the world tells as plain facts; least and greatest. No condition. -/
namespace Go.Sx
open Go

section
variable {P : Program} {ops : Array Oper} {S : World → Prop} {K : Act → World → Prop} {p : Plan} {n : Nat} {l : List (Nat × Value)} {C C' : World → Prop} {R : Act → World → Prop} {k : List KI} {c : Code}
theorem SX.know {φ : Prop} (h : ∀ w, C w → φ) (hk : φ → SX P ops S K p n l C) : SX P ops S K p n l C := ⟨fun a w he hc hs => (hk (h w hc)).run a w he hc hs⟩
theorem SX.pre (h : ∀ w, C w → C' w) (hk : SX P ops S K p n l C') : SX P ops S K p n l C := ⟨fun a w he hc hs => hk.run a w he (h w hc) hs⟩
theorem CW.know {φ : Prop} (h : ∀ w, C w → φ) (hk : φ → CW P R k c n l C) : CW P R k c n l C := ⟨fun a w he hc => (hk (h w hc)).run a w he hc⟩
theorem CW.pre (h : ∀ w, C w → C' w) (hk : CW P R k c n l C') : CW P R k c n l C := ⟨fun a w he hc => hk.run a w he (h w hc)⟩
theorem KN.know {φ : Prop} (h : ∀ w, C w → φ) (hk : φ → KN P R k n l C) : KN P R k n l C := ⟨fun a w he hc => (hk (h w hc)).run a w he hc⟩
theorem KN.pre (h : ∀ w, C w → C' w) (hk : KN P R k n l C') : KN P R k n l C := ⟨fun a w he hc => hk.run a w he (h w hc)⟩
end

section
variable {F : Nat → Prop} {w₀ w : World} {L : List Atom} {E sz m c : Nat} {A : Option Addr} {xs : List Value}
theorem Sep.begin_ (h : Sep F L w) (E sz : Nat) : Sep F (own E sz none 0 0 [] :: L) w :=
  ⟨fun _ => False, ⟨⟨by simp, .inl ⟨rfl, rfl⟩⟩, fun k => ⟨fun h => h.elim, fun h => h.1 rfl⟩⟩, fun _ h => h.elim, h.weak (fun _ h => h.elim id False.elim)⟩
/-- A slice that is nil is a slice of the walk's own. -/
theorem St.begin_ (E sz : Nat) (h : St F w₀ L w) : St F w₀ (own E sz none 0 0 [] :: L) w := ⟨h.fr, h.lt, h.sep.begin_ E sz⟩
theorem St.ownA {q : Nat} (hi : L[q]? = some (own E sz A m c xs)) (h : St F w₀ L w) : (m ≠ 0 → A = some ⟨ob A, 0, none⟩) ∧ m ≤ c ∧ xs.length = m * sz := by
  obtain ⟨D, ⟨⟨h1, h2⟩, _⟩, _⟩ := h.sep.at_ hi
  rcases h2 with ⟨h2, h3⟩ | ⟨g, cap, cur, hv, _, _, hc, _⟩
  · injection h2 with _ _ h4
    exact ⟨fun hn => absurd h3 hn, by omega, h1⟩
  · injection hv with hA hm hc2
    subst hA
    exact ⟨fun _ => rfl, by omega, h1⟩
theorem St.ownCell {q j : Nat} {v : Value} (hi : L[q]? = some (own E sz A m c xs)) (hv : xs[j]? = some v) (h : St F w₀ L w) : w.cell? ⟨ob A, 0 + j, none⟩ = some v := by
  obtain ⟨D, ⟨⟨h1, h2⟩, _⟩, _⟩ := h.sep.at_ hi
  rcases h2 with ⟨h2, h3⟩ | ⟨g, cap, cur, hv2, _, hh, hc, hm, hs, ht⟩
  · have := List.eq_nil_of_length_eq_zero (show xs.length = 0 by rw [h1, h3, Nat.zero_mul])
    subst this
    simp at hv
  · injection hv2 with hA
    subst hA
    rw [Nat.zero_add]
    show w.cell? ⟨g, j, none⟩ = some v
    rw [cell_of_blk hh]
    rw [← ht, List.getElem?_take] at hv
    split at hv
    · simpa using hv
    · cases hv
theorem St.ownFree {q j : Nat} (hi : L[q]? = some (own E sz A m c xs)) (hm : m ≠ 0) (h : St F w₀ L w) : w.frozen? ⟨ob A, j, none⟩ = false := by
  obtain ⟨D, ⟨⟨h1, h2⟩, _⟩, _⟩ := h.sep.at_ hi
  rcases h2 with ⟨_, h3⟩ | ⟨g, cap, cur, hv2, _, hh, _⟩
  · exact absurd h3 hm
  · injection hv2 with hA
    subst hA
    exact frozen_of_blk hh j
theorem St.ownSet {q j : Nat} {v : Value} (hi : L[q]? = some (own E sz A m c xs)) (hj : j < xs.length) (h : St F w₀ L w) : St F w₀ (L.set q (own E sz A m c (xs.set j v))) (w.setCell ⟨ob A, 0 + j, none⟩ v) := by
  obtain ⟨D, ⟨⟨h1, h2⟩, hD⟩, hlt, hmk⟩ := h.work hi
  rcases h2 with ⟨_, h3⟩ | ⟨g, cap, cur, hv2, hb, hh, hc, hm, hs, ht⟩
  · rw [h1, h3, Nat.zero_mul] at hj; omega
  · injection hv2 with hA hm2 hc2
    subst hA
    clear hm2
    subst hc2
    rw [Nat.zero_add]
    refine hmk _ _ D ⟨rfl, rfl, rfl, by simp [World.setCell], fun k hk => heap_set_other _ _ _ (fun e => hk.2 ((hD k).2 ⟨by simp, e⟩))⟩ ⟨⟨by simpa using h1, .inr ⟨g, c, cur.setIfInBounds j v, rfl, hb, heap_set_same hh j v, hc, hm, by simpa using hs, ?_⟩⟩, hD⟩ (fun k hk => ⟨.inl hk, by simp [World.setCell]; exact hlt k hk⟩)
    rw [Array.toList_setIfInBounds, List.take_set, ht]
theorem ob_off (h : A = some ⟨ob A, 0, none⟩) : A = some ⟨ob A, oo A, none⟩ := by
  conv => rhs; rw [h]
  conv => lhs; rw [h]
  rfl
theorem oo_zero (h : A = some ⟨ob A, 0, none⟩) : oo A = 0 := by rw [h]; rfl
end

section
variable {P : Program} {ops : Array Oper} {S : World → Prop} {K : Act → World → Prop} {p : Plan} {n : Nat} {l : List (Nat × Value)} {C : World → Prop} {fl : Bool} {i : Nat} {ty ty' ty2 ty3 : TypeId} {x y z u : Operand}
variable {F : Nat → Prop} {w₀ : World} {L L' : List Atom}

/-- At index j of a slice of the walk's own. -/
theorem s_iaO (d q j : Nat) {E by_ : Nat} {zv : Value} {A : Option Addr} {m c : Nat} {k : IntKind} {b : Int} {xs : List Value} (hi : L[q]? = some (own E 1 A m c xs)) (ho : opAt ops n l i = some (some d, .indexAddr ty x y, ty2)) [SlT P ty E 1 by_ zv] (hx : ev l x = some (.slice A m c)) (hy : ev l y = some (.int k b))
    (hq : b = (j : Nat)) (hj : j < m) (h : SX P ops S K p n ((d, (.pointer (some ⟨ob A, 0 + j, none⟩))) :: l) (St F w₀ L)) : SX P ops S K (.st fl i p) n l (St F w₀ L) := by
  refine SX.know (fun w hw => (hw.ownA hi).1 (by omega)) (fun hA => ?_)
  refine s_iaQ d j ho hx hy hq hj (ob_off hA) ?_
  rw [oo_zero hA]
  exact h
theorem s_ldO (d q : Nat) {E sz j : Nat} {A : Option Addr} {m c : Nat} {xs : List Value} {v : Value} (hi : L[q]? = some (own E sz A m c xs)) (ho : opAt ops n l i = some (some d, .load ty x, ty2)) [One P ty] (hx : ev l x = some (.pointer (some ⟨ob A, 0 + j, none⟩))) (hv : xs[j]? = some v)
    (h : SX P ops S K p n ((d, v) :: l) (St F w₀ L)) : SX P ops S K (.st false i p) n l (St F w₀ L) :=
  s_ld d ho hx (fun _ hw => hw.ownCell hi hv) h
theorem s_stO (q : Nat) {E j : Nat} {A : Option Addr} {m c : Nat} {xs : List Value} {v : Value} (hi : L[q]? = some (own E 1 A m c xs)) (ho : opAt ops n l i = some (none, .store ty x y, ty2)) [One P ty] (hx : ev l x = some (.pointer (some ⟨ob A, 0 + j, none⟩))) (hy : ev l y = some v) (hv : oneCell v = true)
    (hj : j < m) (hS : ∀ w, St F w₀ (L.set q (own E 1 A m c (xs.set j v))) w → S w) (h : SX P ops S K p n l (St F w₀ (L.set q (own E 1 A m c (xs.set j v))))) : SX P ops S K (.st false i p) n l (St F w₀ L) := by
  refine SX.know (fun w hw => (hw.ownA hi).2.2) (fun hl => ?_)
  rw [Nat.mul_one] at hl
  refine s_st ho hx hy hv (fun _ hw => ⟨⟨_, hw.ownCell hi (List.getElem?_eq_getElem (by omega))⟩, hw.ownFree hi (by omega), hw.ownSet hi (by omega)⟩) hS h
/-- At index j of a slice that is read. -/
theorem s_iaV (d j : Nat) {E sz by_ : Nat} {zv : Value} {A : Option Addr} {m c : Nat} {k : IntKind} {b : Int} {vs : List Value} (hv : ∀ w, C w → Has (sl sz A m vs) w) (ho : opAt ops n l i = some (some d, .indexAddr ty x y, ty2)) [SlT P ty E sz by_ zv] (hx : ev l x = some (.slice A m c)) (hy : ev l y = some (.int k b))
    (hq : b = (j : Nat)) (hj : j < m) (h : SX P ops S K p n ((d, (.pointer (some ⟨ob A, oo A + j * sz, none⟩))) :: l) C) : SX P ops S K (.st fl i p) n l C := by
  refine SX.know (fun w hw => (hv w hw).sl_some (by omega)) (fun hA => ?_)
  subst hq
  have e := s_ia d (P := P) (ops := ops) (S := S) (K := K) (p := p) (n := n) (l := l) (C := C) (fl := fl) (i := i) (g := ob A) (o := oo A) (m := m) (c := c) (k := k) (j := ((j : Nat) : Int)) ho (by rw [← hA]; exact hx) hy (by omega)
  simp only [Int.toNat_natCast] at e
  exact e h
theorem s_ldVS (d : Nat) {sz j : Nat} {A : Option Addr} {m : Nat} {vs : List Value} {v : Value} (hv : ∀ w, S w → Has (sl sz A m vs) w) (ho : opAt ops n l i = some (some d, .load ty x, ty2)) [One P ty] (hx : ev l x = some (.pointer (some ⟨ob A, oo A + j, none⟩))) (hj : vs[j]? = some v) (hm : m ≠ 0)
    (h : SX P ops S K p n ((d, v) :: l) C) : SX P ops S K (.st true i p) n l C :=
  s_ldS d ho hx (fun w hw => ((hv w hw).sl_cell hm hj).2) h
end

/-! ### Least and greatest -/
section
variable {P : Program} {ops : Array Oper} {S : World → Prop} {K : Act → World → Prop} {p : Plan} {n : Nat} {l : List (Nat × Value)} {C : World → Prop} {fl : Bool} {i : Nat} {ty : TypeId} {x y : Operand} {ts : Array TypeId}
end
end Go.Sx
end
section
/- Slices begun with room, many slices of the walk's own at once. No condition. -/
namespace Go.Sx
open Go

theorem run_makeSlC {P : Program} {w : World} {T E by_ : Nat} {z : Value} [h : SlT P T E 1 by_ z] (hz : oneCell z = true) {k k' : IntKind} {n : Int} (h0 : 0 ≤ n) (hb : (by_ : Int) * n ≤ 281474976710656) (hn : n ≤ 9223372036854775807) :
    (Instr.makeSlice T (.int k 0) (.int k' n)).run P w = .ok (.slice (some ⟨w.heap.size, 0, none⟩) 0 n.toNat) (w.alloc (.cells (List.replicate n.toNat z).toArray E)) := by
  obtain ⟨i, hi, hs, hby, hz'⟩ := h.info
  have := run_make (P := P) w T E i z h.under hi hz' k k' 0 n (Int.le_refl _) h0 (by rw [hby]; exact hb) hn
  rw [this, cells_of_one hz, hs, Nat.mul_one]
  congr 3
  rw [← toList_madeCells_one]
section
variable {F : Nat → Prop} {w₀ w : World} {L : List Atom}
theorem St.blkOwnM {q g E sz m c : Nat} {cs : Array Value} (hi : L[q]? = some (blk g E cs)) (hc : cs.size = c * sz) (hmc : m ≤ c) (hm : c ≤ maxLen) (h : St F w₀ L w) : St F w₀ (L.set q (own E sz (some ⟨g, 0, none⟩) m c (cs.toList.take (m * sz)))) w :=
  h.swap hi (fun _ D ⟨h1, h2⟩ _ => ⟨D, ⟨⟨by rw [List.length_take, Array.length_toList, hc]; exact Nat.min_eq_left (Nat.mul_le_mul_right _ hmc), .inr ⟨g, c, cs, rfl, Nat.zero_le _, h2, hmc, hm, hc, rfl⟩⟩, fun k => by rw [h1]; simp [ob]⟩, fun _ h => h⟩)
theorem St.tail {A : Atom} (h : St F w₀ (A :: L) w) : St F w₀ L w := ⟨h.fr, h.lt, h.sep.tail⟩
end
section
variable {P : Program} {ops : Array Oper} {S : World → Prop} {K : Act → World → Prop} {p : Plan} {n : Nat} {l : List (Nat × Value)} {i : Nat} {ty ty' : TypeId} {x y : Operand} {F : Nat → Prop} {w₀ : World} {L : List Atom}
/-- A slice of length 0 with room for q. -/
theorem s_makeC (d q : Nat) {E by_ : Nat} {zv : Value} {k k' : IntKind} {m : Int} (ho : opAt ops n l i = some (some d, .makeSlice ty' x y, ty)) [SlT P ty' E 1 by_ zv] (hx : ev l x = some (.int k 0)) (hy : ev l y = some (.int k' m))
    (hq : m = (q : Nat)) (hz : oneCell zv = true) (hm : by_ * q ≤ 281474976710656 ∧ q ≤ maxLen) (hS : ∀ w, St F w₀ L w → S w)
    (h : ∀ g, SX P ops S K p n ((d, .slice (some ⟨g, 0, none⟩) 0 q) :: l) (St F w₀ (own E 1 (some ⟨g, 0, none⟩) 0 q [] :: L))) : SX P ops S K (.st false i p) n l (St F w₀ L) :=
  s_new d (v := fun g => .slice (some ⟨g, 0, none⟩) 0 q) (T := E) (cs := (List.replicate q zv).toArray) ho (fun a w o he h1 _ => by
    subst hq
    have hb : (by_ : Int) * (q : Nat) ≤ 281474976710656 := by rw [← Int.natCast_mul]; omega
    have := run_makeSlC (P := P) (w := w) (T := ty') (k := k) (k' := k') hz (n := (q : Nat)) (by omega) hb (by have := hm.2; unfold maxLen at this; omega)
    rw [Int.toNat_natCast] at this
    simp only [execOp, h1, he.ev hx, he.ev hy, Sem.run_bind, this, Result.andThen_ok, Sem.run_pure]) hS (fun g => SX.pre (fun _ hw => by
      have := hw.blkOwnM (q := 0) (m := 0) (c := q) (sz := 1) rfl (by simp) (Nat.zero_le _) hm.2
      simpa using this) (h g))
end

/-- A slice with what lies in it. -/
structure Rw where
  A : Option Addr
  n : Nat
  c : Nat
  xs : List Value
def Rw.hdr (q : Rw) : Value := .slice q.A q.n q.c
def ownR (E : TypeId) (q : Rw) : Atom := own E 1 q.A q.n q.c q.xs
end Go.Sx
end
section
/- Functions that write into the caller's own memory: a walk from any own state. No condition. -/
namespace Go.Sx
open Go

section
variable {P : Program} {n : Nat} {c : Code}
theorem spec_ofC {f : FuncId} {fn : Func} {args : List Value} {w : World} {R : Ending → World → Prop} {C : World → Prop} (hf : P.funcs[f]? = some fn) (hb : fn.body = some c) (hn : fn.ntmps = n) (hlen : Nat.ble args.length n = true) (hw : C w)
    (h : CW P (Rets fn R P) [] c n (argEnv 0 args) C) : Calls P f args.toArray w R :=
  calls_of hf hb hn hlen ⟨fun a v he hv => h.run a v he (by subst hv; exact hw)⟩
end
section
variable {P : Program} {ops : Array Oper} {S : World → Prop} {K : Act → World → Prop} {p : Plan} {n : Nat} {l : List (Nat × Value)} {i : Nat} {ty : TypeId} {x : Operand} {F : Nat → Prop} {w₀ : World} {A : List Atom}
end
end Go.Sx
end
section
/- Range over a function, part 1: the symbolic walk with calls of yield, in a round's frame and out of it: operations and regions. No condition. -/
namespace Go.Sx
open Go

/-- The wide fence, with what makes the frame. -/
abbrev fw (ro : Option Nat) : Fence := { Fence.wide with round := ro }

/-- What an operation's outcome asks, yield's rounds among them. -/
def upI (P : Program) (o : Oper) (a : Act) (K : Act → World → Prop) : Result Next → Prop
  | .ok (.value v) w' => K (a.put o.dst v) w'
  | .ok .skip w' => K (a.put o.dst undef) w'
  | .ok (.enter f args) w' => Calls P f args w' fun e w'' => ∃ v, e = .returned v ∧ K (a.put o.dst v) w''
  | .ok (.row row args) w' => Rows P row args w' fun v w'' => K (a.put o.dst v) w''
  | .ok (.round l f tmps assign body) w' => RoundIn Fence.wide 0 P l f tmps assign body w' fun e w'' => ∃ v, e = .returned v ∧ K (a.put o.dst v) w''
  | _ => False
def OpI (P : Program) (o : Oper) (a : Act) (w : World) (K : Act → World → Prop) : Prop := upI P o a K ((execOp a.eval o).run P w)

theorem upI_mono {P : Program} {o : Oper} {a : Act} {K K' : Act → World → Prop} (hK : ∀ a w, K a w → K' a w) {r : Result Next} (h : upI P o a K r) : upI P o a K' r := by
  cases r with
  | ok x w' =>
    cases x <;> simp only [upI] at h ⊢
    case value => exact hK _ _ h
    case skip => exact hK _ _ h
    case enter => exact Calls.mono h (fun e w ⟨v, he, hk⟩ => ⟨v, he, hK _ _ hk⟩)
    case row => exact Rows.mono h (fun v w hk => hK _ _ hk)
    case round => exact RoundIn.mono h (fun e w ⟨v, he, hk⟩ => ⟨v, he, hK _ _ hk⟩)
  | halt x w' => simp only [upI] at h

/-- In whatever frame: an operation that is no defer statement. -/
theorem OpI.wpIn {P : Program} {ro : Option Nat} {o : Oper} {a : Act} {w : World} {K : Act → World → Prop} {Q : Exit → Act → World → Prop} (hnd : ∀ c, o.op ≠ .defer c) (h : OpI P o a w K) : o.wpIn (fw ro) 0 P a w K Q := by
  refine ⟨fun _ _ => trivial, ?_⟩
  show o.uponIn (fw ro) 0 P a K Q ((o.semAt ro a.eval).run P w)
  rw [Oper.semAt_eq ro _ _ hnd]
  unfold OpI at h
  generalize (execOp a.eval o).run P w = r at *
  have hd : ∀ {p : Prop}, ((fw ro).depth.isSome = true → p) := fun h => by simp [Fence.wide] at h
  cases r with
  | ok x w' =>
    cases x <;> simp only [upI] at h
    case value => exact h
    case skip => exact h
    case enter f args =>
      refine ⟨hd, ?_⟩
      have h2 : CallsIn Fence.wide 0 P f args w' _ := callsIn_wide.2 h
      exact CallsIn.mono (F := fw ro) h2 (fun e w ⟨v, he, hk⟩ => by subst he; exact hk)
    case row row args =>
      refine ⟨hd, fun c cs _ => ?_⟩
      obtain ⟨v, w'', hk, hs⟩ := h c cs
      exact ⟨v, w'', hk, stepsIn_wide.2 hs⟩
    case round l f tmps assign body =>
      refine ⟨hd, ?_⟩
      exact RoundIn.mono (F := fw ro) h (fun e w ⟨v, he, hk⟩ => by subst he; exact hk)
  | halt x w' => simp only [upI] at h

/-- Of an operation of the plain walk. -/
theorem OpI.of_wp {P : Program} {o : Oper} {a : Act} {w : World} {K K' : Act → World → Prop} (ds : List Deferred) (h : o.wp P { a with defers := [] } w K' NoExit)
    (hK : ∀ a' w', K' a' w' → a'.defers = [] ∧ K { a' with defers := ds } w') (hds : a.defers = ds) : OpI P o a w K := by
  have hp : ∀ v : Value, { ({ a with defers := [] } : Act).put o.dst v with defers := ds } = a.put o.dst v := fun v => by
    subst hds; cases o.dst <;> rfl
  unfold Oper.wp at h
  unfold OpI
  have he : ({ a with defers := [] } : Act).eval = a.eval := by funext x; cases x <;> rfl
  rw [he] at h
  generalize (execOp a.eval o).run P w = r at *
  cases r with
  | ok x w' =>
    cases x <;> simp only [Oper.upon] at h <;> simp only [upI]
    case value v => have := (hK _ _ h).2; rwa [hp] at this
    case skip => have := (hK _ _ h).2; rwa [hp] at this
    case defer d => have := (hK _ _ h).1; cases hd : o.dst <;> simp [Act.put, hd] at this
    case enter f args =>
      refine Calls.mono h (fun e w'' he => ?_)
      cases e with
      | returned v => have := (hK _ _ he).2; rw [hp] at this; exact ⟨v, rfl, this⟩
      | panicked c => exact he.elim
      | outgrown => obtain ⟨_, _, hf⟩ := he; exact hf.elim
    case row row args => exact Rows.mono h (fun v w'' he => by have := (hK _ _ he).2; rwa [hp] at this)
  | halt x w' => cases x <;> simp only [Oper.upon, NoExit] at h

section
variable (P : Program) (ops : Array Oper) (S : World → Prop) (K : Act → World → Prop)
/-- Number i is carried out, or passed over. -/
def opI (i : Nat) (K : Act → World → Prop) (a : Act) (w : World) : Prop := match ops[i]? with
  | none => False
  | some o => if Region.wanted o (yielded ops a.tmps) = true then OpI P o a w K else K (a.put o.dst undef) w
def PWI : Plan → Act → World → Prop
  | .done, a, w => K a w
  | .st true i p, a, w => match ops[i]? with
    | none => False
    | some o => if Region.wanted o (yielded ops a.tmps) = true then ∃ v, (∀ w', S w' → (execOp a.eval o).run P w' = .ok (.value v) w') ∧ PWI p (a.put o.dst v) w
      else PWI p (a.put o.dst undef) w
  | .st false i p, a, w => opI P ops i (fun a' w' => S w' ∧ PWI p a' w') a w
  | .alt i p q, a, w => opI P ops i (fun a' w' => S w' ∧ PWI p a' w') a w ∧ PWI q a w
/-- In whatever order. -/
def AnyI : Nat → Array Bool → Act → World → Prop
  | 0, listed, a, w => Region.ready .any ops listed = [] ∧ K a w
  | f + 1, listed, a, w => (Region.ready .any ops listed = [] → K a w) ∧ ∀ i ∈ Region.ready .any ops listed, opI P ops i (fun a' w' => S w' ∧ AnyI f (listed.setIfInBounds i true) a' w') a w
end

section
variable {P : Program} {ops : Array Oper} {S : World → Prop} {K K' : Act → World → Prop}
theorem opI_mono {i : Nat} (hK : ∀ a w, K a w → K' a w) {a : Act} {w : World} (h : opI P ops i K a w) : opI P ops i K' a w := by
  unfold opI at *
  cases ho : ops[i]? with
  | none => rw [ho] at h; exact h
  | some o =>
    rw [ho] at h
    dsimp only at h ⊢
    by_cases hw : Region.wanted o (yielded ops a.tmps) = true
    · rw [if_pos hw] at h ⊢; exact upI_mono hK h
    · rw [if_neg hw] at h ⊢; exact hK _ _ h

def noDefer (ops : Array Oper) : Bool := ops.all fun o => match o.op with | .defer _ => false | _ => true
theorem noDefer_at {i : Nat} {o : Oper} (h : noDefer ops = true) (ho : ops[i]? = some o) : ∀ c, o.op ≠ .defer c := by
  intro c hc
  have := Array.all_eq_true_iff_forall_mem.1 h o (Array.mem_of_getElem? ho)
  rw [hc] at this
  exact absurd this (by simp)

theorem opI_in {ro : Option Nat} (hnd : noDefer ops = true) {i : Nat} {a : Act} {w : World} {Q : Exit → Act → World → Prop} (h : opI P ops i K a w) : wpOpIn (fw ro) 0 P ops Q i K a w := by
  unfold opI at h
  unfold wpOpIn
  split at h
  · exact h.elim
  · rename_i o ho
    rw [ho]
    dsimp only
    split at h
    · rename_i hw; rw [if_pos hw]; exact OpI.wpIn (noDefer_at hnd ho) h
    · rename_i hw; rw [if_neg hw]; exact ⟨fun _ _ => trivial, h⟩

theorem AnyI.in_ {ro : Option Nat} (hnd : noDefer ops = true) : ∀ (f : Nat) (listed : Array Bool) (a : Act) (w : World), AnyI P ops S K f listed a w → wpAnyIn (fw ro) 0 P .any ops (NoExitN K) f listed a w
  | 0, _, _, _, h => h
  | f + 1, _, _, _, h => ⟨h.1, fun i hi => opI_in hnd (opI_mono (fun _ _ h' => AnyI.in_ hnd f _ _ _ h'.2) (h.2 i hi))⟩

/-- What one operation does, another's value put in or not, if they are apart. -/
theorem opI_put {j : Nat} {oi oj : Oper} {v : Value} (hj : ops[j]? = some oj) (hap : oi.apart ops oj = true) (hsj : ∀ cs b, oj.op ≠ .select cs b) {a : Act} {w : World}
    (h : opI P ops j K (a.put oi.dst v) w) : opI P ops j (fun a' w' => (∃ u, a' = a.put oj.dst u) ∧ K (a'.put oi.dst v) w') a w := by
  obtain ⟨h1, h2, _⟩ := Oper.apart_spec hap
  unfold opI at *
  rw [hj] at *
  dsimp only at *
  rw [wanted_put oj a oi.dst v h1] at h
  split at h
  · rename_i hw
    rw [if_pos hw]
    unfold OpI at *
    rw [execOp_put oj hsj a oi.dst v h1] at h
    generalize (execOp a.eval oj).run P w = r at *
    have hc : ∀ u, (a.put oi.dst v).put oj.dst u = (a.put oj.dst u).put oi.dst v := fun u => Act.put_comm a v u h2
    cases r with
    | ok x w' =>
      cases x <;> simp only [upI] at h ⊢
      case value u => exact ⟨⟨u, rfl⟩, by rw [← hc]; exact h⟩
      case skip => exact ⟨⟨_, rfl⟩, by rw [← hc]; exact h⟩
      case enter => exact Calls.mono h (fun e w ⟨u, he, hk⟩ => ⟨u, he, ⟨u, rfl⟩, by rw [← hc]; exact hk⟩)
      case row => exact Rows.mono h (fun u w hk => ⟨⟨u, rfl⟩, by rw [← hc]; exact hk⟩)
      case round => exact RoundIn.mono h (fun e w ⟨u, he, hk⟩ => ⟨u, he, ⟨u, rfl⟩, by rw [← hc]; exact hk⟩)
    | halt x w' => simp only [upI] at h
  · rename_i hw
    rw [if_neg hw]
    exact ⟨⟨_, rfl⟩, by rw [← Act.put_comm a v undef h2]; exact h⟩

theorem AnyI.take {i : Nat} {oi : Oper} {v : Value} (hi : ops[i]? = some oi) (hs : Region.noSelect ops = true) : ∀ (f : Nat) (listed : Array Bool) (a : Act) (w : World),
    (∀ j oj, ops[j]? = some oj → j ≠ i → listed.getD j true = false → (∀ e ∈ oj.after, Region.binds .any e = true → e.on ≠ i) → oi.apart ops oj = true) →
    i ∈ Region.ready .any ops listed →
    ((Region.wanted oi (yielded ops a.tmps) = true ∧ ∀ w', S w' → (execOp a.eval oi).run P w' = .ok (.value v) w') ∨ (Region.wanted oi (yielded ops a.tmps) = false ∧ v = undef)) → S w →
    AnyI P ops S K f (listed.setIfInBounds i true) (a.put oi.dst v) w → AnyI P ops S K (f + 1) listed a w := by
  have own : ∀ {K : Act → World → Prop} {a : Act} {w : World},
      ((Region.wanted oi (yielded ops a.tmps) = true ∧ ∀ w', S w' → (execOp a.eval oi).run P w' = .ok (.value v) w') ∨ (Region.wanted oi (yielded ops a.tmps) = false ∧ v = undef)) → S w → K (a.put oi.dst v) w → opI P ops i K a w := by
    intro K a w hy hS hk
    unfold opI
    rw [hi]
    dsimp only
    rcases hy with ⟨hw, hv⟩ | ⟨hw, rfl⟩
    · rw [if_pos hw]; unfold OpI; rw [hv w hS]; exact hk
    · rw [if_neg (by simp [hw])]; exact hk
  intro f
  induction f with
  | zero =>
    intro listed a w _ hr hy hS H
    refine ⟨fun h0 => absurd (h0 ▸ hr) (by simp), fun j hj => ?_⟩
    by_cases e : j = i
    · subst e; exact own hy hS ⟨hS, H⟩
    · exact absurd (H.1 ▸ ready_mono (i := i) hj e) (by simp)
  | succ f ih =>
    intro listed a w hfree hr hy hS H
    refine ⟨fun h0 => absurd (h0 ▸ hr) (by simp), fun j hj => ?_⟩
    by_cases e : j = i
    · subst e; exact own hy hS ⟨hS, H⟩
    · obtain ⟨hu, oj, hoj, hall⟩ := mem_ready.1 hj
      have hno : ∀ e ∈ oj.after, Region.binds .any e = true → e.on ≠ i := fun e he hb heq => by
        have k1 := hall e he hb
        have k0 := (mem_ready.1 hr).1
        rw [heq] at k1
        by_cases hlt : i < listed.size
        · simp [hlt] at k0 k1; simp [k0] at k1
        · simp [Array.getElem?_eq_none (Nat.le_of_not_lt hlt)] at k1
      have hap := hfree j oj hoj e hu hno
      obtain ⟨_, _, h3⟩ := Oper.apart_spec hap
      refine opI_mono (fun a' w' hk => ?_) (opI_put hoj hap (fun cs b => Region.noSelect_spec hs j oj cs b hoj) (H.2 j (ready_mono hj e)))
      obtain ⟨⟨u, rfl⟩, hS', hk⟩ := hk
      refine ⟨hS', ih _ _ w' (fun k ok hk' hki hun hno' => hfree k ok hk' hki ?_ hno') (ready_mono hr (Ne.symm e)) ?_ hS' (by rw [Array.setIfInBounds_comm _ _ e]; exact hk)⟩
      · by_cases hjk : j = k
        · subst hjk; exact hu
        · rwa [getD_set_ne true hjk] at hun
      · rw [wanted_put oi a oj.dst u h3, execOp_put oi (fun cs b => Region.noSelect_spec hs i oi cs b hi) a oj.dst u h3]
        exact hy

theorem planI_sound (hs : Region.noSelect ops = true) : ∀ (p : Plan) (f : Nat) (listed : Array Bool) (rs : Option (List Nat)) (a : Act) (w : World), planOk ops p f listed rs = true → S w → PWI P ops S K p a w →
      (rs = none → AnyI P ops S K f listed a w) ∧
      (∀ l, rs = some l → ∃ g, f = g + 1 ∧ ∀ i ∈ l, opI P ops i (fun a' w' => S w' ∧ AnyI P ops S K g (listed.setIfInBounds i true) a' w') a w) := by
  intro p
  induction p with
  | done =>
    intro f listed rs a w hok hS h
    simp only [planOk, Bool.and_eq_true, List.isEmpty_iff, Option.isNone_iff_eq_none] at hok
    obtain ⟨h1, h2⟩ := hok
    subst h1
    refine ⟨fun _ => ?_, fun l hl => by cases hl⟩
    cases f with
    | zero => exact ⟨h2, h⟩
    | succ f => exact ⟨fun _ => h, by rw [h2]; simp⟩
  | st fl i p ih =>
    intro f listed rs a w hok hS h
    cases f with
    | zero => cases fl <;> simp [planOk] at hok
    | succ f =>
      cases fl with
      | true =>
        simp only [planOk, Bool.and_eq_true, Option.isNone_iff_eq_none] at hok
        obtain ⟨⟨⟨h1, h2⟩, h3⟩, h4⟩ := hok
        subst h1
        refine ⟨fun _ => ?_, fun l hl => by cases hl⟩
        unfold PWI at h
        split at h
        · exact h.elim
        · rename_i o ho
          split at h
          · rename_i hw
            obtain ⟨v, hv, hn⟩ := h
            exact AnyI.take ho hs f listed a w (Region.free_spec ho h3) (by simpa using h2) (.inl ⟨hw, hv⟩) hS ((ih f _ none _ w h4 hS hn).1 rfl)
          · rename_i hw
            exact AnyI.take ho hs f listed a w (Region.free_spec ho h3) (by simpa using h2) (.inr ⟨by simpa using hw, rfl⟩) hS ((ih f _ none _ w h4 hS h).1 rfl)
      | false =>
        simp only [planOk, Bool.and_eq_true, beq_iff_eq] at hok
        obtain ⟨h1, h2⟩ := hok
        have hk : opI P ops i (fun a' w' => S w' ∧ AnyI P ops S K f (listed.setIfInBounds i true) a' w') a w :=
          opI_mono (K := fun a' w' => S w' ∧ PWI P ops S K p a' w') (fun a' w' ⟨hS', h'⟩ => ⟨hS', (ih f _ none a' w' h2 hS' h').1 rfl⟩) (by unfold PWI at h; exact h)
        constructor
        · rintro rfl
          simp only [Option.getD_none] at h1
          exact ⟨fun h0 => absurd (h0.symm.trans h1) (by simp), fun j hj => by rw [h1] at hj; simp at hj; subst hj; exact hk⟩
        · rintro l rfl
          simp only [Option.getD_some] at h1
          subst h1
          exact ⟨f, rfl, fun j hj => by simp at hj; subst hj; exact hk⟩
  | alt i p q ihp ihq =>
    intro f listed rs a w hok hS h
    cases f with
    | zero => simp [planOk] at hok
    | succ f =>
      simp only [planOk, Bool.and_eq_true] at hok
      obtain ⟨h1, h2⟩ := hok
      unfold PWI at h
      obtain ⟨ha, hb⟩ := h
      have hk : opI P ops i (fun a' w' => S w' ∧ AnyI P ops S K f (listed.setIfInBounds i true) a' w') a w :=
        opI_mono (fun a' w' ⟨hS', h'⟩ => ⟨hS', (ihp f _ none a' w' h1 hS' h').1 rfl⟩) ha
      obtain ⟨f', ef, hq⟩ := (ihq (f + 1) listed _ a w h2 hS hb).2 _ rfl
      obtain rfl : f = f' := by omega
      have hall : ∀ j ∈ rs.getD (Region.ready .any ops listed), opI P ops j (fun a' w' => S w' ∧ AnyI P ops S K f (listed.setIfInBounds j true) a' w') a w := by
        intro j hj
        by_cases e : j = i
        · subst e; exact hk
        · exact hq j (by simp [hj, e])
      constructor
      · rintro rfl
        refine ⟨fun h0 => ?_, hall⟩
        exfalso
        simp only [Option.getD_none] at hq h2
        rw [h0] at h2
        have : ∀ (q : Plan) , planOk ops q (f + 1) listed (some []) = false := by
          intro q
          induction q with
          | done => simp [planOk]
          | st fl i p _ => cases fl <;> simp [planOk]
          | alt i p q _ ih => simp only [planOk, Option.getD_some, List.filter_nil, ih, Bool.and_false]
        simp [this] at h2
      · rintro l rfl
        exact ⟨f, rfl, hall⟩

theorem wpI_planned {ro : Option Nat} {id : Nat} {a : Act} {w : World} (p : Plan) (hm : P.follows .mixedOrders = true)
    (hok : (noDefer ops && (Region.noSelect ops && planOk ops p ops.size (Array.replicate ops.size false) none)) = true) (hS : S w.drew) (h : PWI P ops S K p a w.drew) : (Code.region id ops true).wpIn (fw ro) 0 P (NoExitN K) a w := by
  rw [Bool.and_eq_true, Bool.and_eq_true] at hok
  exact wpIn_region_any hm (AnyI.in_ hok.1 _ _ _ _ ((planI_sound hok.2.1 p _ _ none a w.drew hok.2.2 hS h).1 rfl))

theorem wpI_straight {ro : Option Nat} {id : Nat} {a : Act} {w : World} (hnd : noDefer ops = true) (h : PWI P ops S K (seqPlan 0 ops.size) a w) : (Code.region id ops false).wpIn (fw ro) 0 P (NoExitN K) a w := by
  have key : ∀ (k i : Nat) (a : Act) (w : World), PWI P ops S K (seqPlan i k) a w → wpOpsIn (fw ro) 0 P ops (NoExitN K) (List.range' i k) a w := by
    intro k
    induction k with
    | zero => intro i a w h; simpa [seqPlan, PWI, wpOpsIn, NoExitN] using h
    | succ k ih =>
      intro i a w h
      simp only [seqPlan, PWI] at h
      simp only [List.range'_succ]
      rw [wpOpsIn_cons]
      exact opI_in hnd (opI_mono (fun a' w' h' => ih _ a' w' h'.2) h)
  refine wpIn_region ?_
  rw [List.range_eq_range']
  exact key ops.size 0 a w h
end
end Go.Sx
end
section
/- Range over a function, part 2: code in whatever frame; marks among the deferred calls. No condition. -/
namespace Go.Sx
open Go

/-- The slots, and what is deferred. -/
structure EnvD (n : Nat) (ds : List Deferred) (l : List (Nat × Value)) (a : Act) : Prop where
  env : Env n l { a with defers := [] }
  defers : a.defers = ds

theorem EnvD.of {n : Nat} {ds : List Deferred} {l : List (Nat × Value)} {a : Act} (h : Env n l a) : EnvD n ds l { a with defers := ds } := ⟨⟨h.size, rfl, h.at_⟩, rfl⟩
theorem EnvD.sub {n : Nat} {ds : List Deferred} {l l' : List (Nat × Value)} {a : Act} (h : EnvD n ds l a) (hs : Sub l' l) : EnvD n ds l' a := ⟨h.env.sub hs, h.defers⟩
theorem eval_dropD (a : Act) : ({ a with defers := [] } : Act).eval = a.eval := by funext x; cases x <;> rfl
theorem EnvD.ev {n : Nat} {ds : List Deferred} {l : List (Nat × Value)} {a : Act} (h : EnvD n ds l a) {x : Operand} {v : Value} (hx : ev l x = some v) : a.eval x = v := by
  rw [← eval_dropD]; exact h.env.ev hx

structure SXI (P : Program) (ops : Array Oper) (S : World → Prop) (K : Act → World → Prop) (p : Plan) (n : Nat) (ds : List Deferred) (l : List (Nat × Value)) (C : World → Prop) : Prop where
  run : ∀ a w, EnvD n ds l a → C w → S w → PWI P ops S K p a w

section
variable {P : Program} {ops : Array Oper} {S : World → Prop} {K : Act → World → Prop} {p q : Plan} {n : Nat} {ds : List Deferred} {l : List (Nat × Value)} {C C' : World → Prop}

theorem SXI.done (h : ∀ a w, EnvD n ds l a → C w → K a w) : SXI P ops S K .done n ds l C := ⟨fun a w he hc _ => h a w he hc⟩

/-- A step of the plain walk. -/
theorem SXI.of1 {fl : Bool} {i : Nat} {X : Type} {l2 : X → List (Nat × Value)} {C2 : X → World → Prop} {pf : X → Prop}
    (h : ∀ K' : Act → World → Prop, (∀ x, pf x → ∀ a w, Env n (l2 x) a → C2 x w → K' a w) → SX P ops S K' (.st fl i .done) n l C)
    (hn : ∀ x, pf x → SXI P ops S K p n ds (l2 x) (C2 x)) : SXI P ops S K (.st fl i p) n ds l C := by
  refine ⟨fun a w he hc hs => ?_⟩
  have h1 := (h (fun a w => ∃ x, pf x ∧ Env n (l2 x) a ∧ C2 x w) (fun x hp a w h1 h2 => ⟨x, hp, h1, h2⟩)).run _ w he.env hc hs
  have key : ∀ a' w', S w' → (∃ x, pf x ∧ Env n (l2 x) a' ∧ C2 x w') → PWI P ops S K p { a' with defers := ds } w' := fun a' w' hS ⟨x, hp, h1, h2⟩ => (hn x hp).run _ w' (EnvD.of h1) h2 hS
  have hput : ∀ (o : Oper) v, { ({ a with defers := [] } : Act).put o.dst v with defers := ds } = a.put o.dst v := fun o v => by
    have := he.defers; subst this; cases o.dst <;> rfl
  cases fl with
  | true =>
    simp only [PW] at h1
    simp only [PWI]
    cases ho : ops[i]? with
    | none => rw [ho] at h1; exact h1.elim
    | some o =>
      rw [ho] at h1
      dsimp only at h1 ⊢
      by_cases hw : Region.wanted o (yielded ops a.tmps) = true
      · rw [if_pos hw] at h1 ⊢
        obtain ⟨v, hv, hk⟩ := h1
        rw [eval_dropD] at hv
        exact ⟨v, hv, by rw [← hput]; exact key _ _ hs hk⟩
      · rw [if_neg hw] at h1 ⊢
        rw [← hput]; exact key _ _ hs h1
  | false =>
    simp only [PW] at h1
    simp only [PWI, opI]
    cases ho : ops[i]? with
    | none => rw [ho] at h1; exact h1.elim
    | some o =>
      rw [ho] at h1
      dsimp only at h1 ⊢
      by_cases hw : Region.wanted o (yielded ops a.tmps) = true
      · rw [if_pos hw] at h1 ⊢
        exact OpI.of_wp ds h1 (fun a' w' ⟨hS, hk⟩ => ⟨by obtain ⟨x, _, h2, _⟩ := hk; exact h2.defers, hS, key _ _ hS hk⟩) he.defers
      · rw [if_neg hw] at h1 ⊢
        rw [← hput]; exact ⟨hs, key _ _ hs h1⟩
theorem SXI.of {fl : Bool} {i : Nat} {l2 : List (Nat × Value)} {C2 : World → Prop} (h : ∀ K' : Act → World → Prop, (∀ a w, Env n l2 a → C2 w → K' a w) → SX P ops S K' (.st fl i .done) n l C)
    (hn : SXI P ops S K p n ds l2 C2) : SXI P ops S K (.st fl i p) n ds l C :=
  SXI.of1 (X := Unit) (l2 := fun _ => l2) (C2 := fun _ => C2) (pf := fun _ => True) (fun K' hK => h K' (hK () trivial)) (fun _ _ => hn)

theorem SXI.of2 {fl : Bool} {i : Nat} {X Y : Type} {l2 : X → Y → List (Nat × Value)} {C2 : X → Y → World → Prop} {pf : X → Y → Prop}
    (h : ∀ K' : Act → World → Prop, (∀ x y, pf x y → ∀ a w, Env n (l2 x y) a → C2 x y w → K' a w) → SX P ops S K' (.st fl i .done) n l C)
    (hn : ∀ x y, pf x y → SXI P ops S K p n ds (l2 x y) (C2 x y)) : SXI P ops S K (.st fl i p) n ds l C :=
  SXI.of1 (X := X × Y) (l2 := fun x => l2 x.1 x.2) (C2 := fun x => C2 x.1 x.2) (pf := fun x => pf x.1 x.2) (fun K' hK => h K' (fun x y => hK (x, y))) (fun x => hn x.1 x.2)

theorem SXI.alt {i : Nat} (h1 : SXI P ops S K (.st false i p) n ds l C) (h2 : SXI P ops S K q n ds l C) : SXI P ops S K (.alt i p q) n ds l C :=
  ⟨fun a w he hc hs => ⟨by have := h1.run a w he hc hs; unfold PWI at this; exact this, h2.run a w he hc hs⟩⟩
theorem SXI.weaken {l' : List (Nat × Value)} (hl : SubL l' l) (hC : ∀ w, C w → C' w) (h : SXI P ops S K p n ds l' C') : SXI P ops S K p n ds l C :=
  ⟨fun a w he hc hs => h.run a w (he.sub hl.sub) (hC w hc) hs⟩
theorem SXI.inC (h : ∀ w, C w → SXI P ops S K p n ds l C) : SXI P ops S K p n ds l C := ⟨fun a w he hc hs => (h w hc).run a w he hc hs⟩
theorem SXI.fact {F : Prop} (hF : ∀ w, C w → F) (h : F → SXI P ops S K p n ds l C) : SXI P ops S K p n ds l C := ⟨fun a w he hc hs => (h (hF w hc)).run a w he hc hs⟩
theorem SXI.bool (t : Nat) {b : Bool} (ht : lk t l = some (.bool b)) (h1 : b = true → SXI P ops S K p n ds (ins t (.bool true) l) C) (h2 : b = false → SXI P ops S K p n ds (ins t (.bool false) l) C) : SXI P ops S K p n ds l C := by
  refine ⟨fun a w he hc hs => ?_⟩
  have key : ∀ u, lk t l = some u → EnvD n ds (ins t u l) a := fun u hu => ⟨⟨he.env.size, rfl, fun s v hv => by
    rw [lk_ins] at hv
    by_cases e : s = t
    · subst e; simp at hv; subst hv; exact he.env.at_ _ _ hu
    · rw [if_neg e] at hv; exact he.env.at_ _ _ hv⟩, he.defers⟩
  cases b with
  | true => exact (h1 rfl).run a w (key _ ht) hc hs
  | false => exact (h2 rfl).run a w (key _ ht) hc hs

/-- An operation that calls yield. -/
theorem SXI.yield {i : Nat} {d : Option Nat} {op : Op} {ty : TypeId} {X : Type} {v : X → Value} {pf : X → Prop} {C' : X → World → Prop} (ho : opAt ops n l i = some (d, op, ty))
    (hrun : ∀ a w (o : Oper), Env n l a → C w → o.op = op → o.type = ty → ∃ lr fn tmps assign body w', (execOp a.eval o).run P w = .ok (.round lr fn tmps assign body) w' ∧
      RoundIn Fence.wide 0 P lr fn tmps assign body w' (fun e w'' => ∃ x, e = .returned (v x) ∧ pf x ∧ C' x w''))
    (hS : ∀ x w, C' x w → S w)
    (h : ∀ x, pf x → SXI P ops S K p n ds (insO d (v x) l) (C' x)) : SXI P ops S K (.st false i p) n ds l C := by
  refine ⟨fun a w he hc _ => ?_⟩
  unfold opAt at ho
  split at ho
  · rename_i o hoi
    by_cases hb : (wantB ops l o.guard && okD n o.dst) = true
    · rw [hb] at ho
      simp only [cond_true, Option.some.injEq, Prod.mk.injEq] at ho
      obtain ⟨rfl, rfl, rfl⟩ := ho
      rw [Bool.and_eq_true] at hb
      obtain ⟨lr, fn, tmps, assign, body, w', hr, hR⟩ := hrun _ w o he.env hc rfl rfl
      rw [eval_dropD] at hr
      have hw : Region.wanted o (yielded ops a.tmps) = true := wanted_of he.env hb.1
      simp only [PWI, opI, hoi, hw, if_true, OpI, hr, upI]
      refine RoundIn.mono hR ?_
      rintro e w'' ⟨x, rfl, hp, hC⟩
      refine ⟨_, rfl, hS x w'' hC, (h x hp).run _ w'' ?_ hC (hS x w'' hC)⟩
      have h2 := he.env.putO hb.2 (v x)
      have h3 : a.put o.dst (v x) = { ({ a with defers := [] } : Act).put o.dst (v x) with defers := ds } := by have := he.defers; subst this; cases o.dst <;> rfl
      rw [h3]; exact EnvD.of h2
    · have : (wantB ops l o.guard && okD n o.dst) = false := by simpa using hb
      rw [this] at ho
      cases ho
  · cases ho
end

/-! ### Code -/
def KtI (P : Program) (ro : Option Nat) (Rx : Exit → Act → World → Prop) : List KI → Exit → Act → World → Prop
  | [] => Rx
  | .code y :: k => fun e a w => match e with
    | .normal => y.wpIn (fw ro) 0 P (KtI P ro Rx k) a w
    | e => KtI P ro Rx k e a w
  | .blk id :: k => fun e a w => match e with
    | .exit id' => if id' = id then KtI P ro Rx k .normal a w else KtI P ro Rx k (.exit id') a w
    | e => KtI P ro Rx k e a w
  | .lp I :: k => fun e a w => match e with
    | .normal => I a w
    | e => KtI P ro Rx k e a w

section
variable {P : Program} {ro : Option Nat} {Rx : Exit → Act → World → Prop}
theorem KtI_ret : ∀ (k : List KI) {a : Act} {w : World}, Rx .ret a w → KtI P ro Rx k .ret a w
  | [], _, _, h => h
  | .code _ :: k, _, _, h => KtI_ret k h
  | .blk _ :: k, _, _, h => KtI_ret k h
  | .lp _ :: k, _, _, h => KtI_ret k h
theorem KtI_exit {id : Nat} : ∀ {k k' : List KI} {a : Act} {w : World}, popTo id k = some k' → KtI P ro Rx k' .normal a w → KtI P ro Rx k (.exit id) a w
  | [], _, _, _, h, _ => by simp [popTo] at h
  | .blk i :: k, k', a, w, h, hk => by
    unfold popTo at h
    simp only [KtI]
    by_cases e : i = id
    · subst e
      simp at h
      subst h
      simpa using hk
    · have h1 : Nat.beq i id = false := beq_ne e
      rw [h1] at h
      rw [if_neg (Ne.symm e)]
      exact KtI_exit (k := k) h hk
  | .code _ :: k, _, _, _, h, hk => KtI_exit (k := k) h hk
  | .lp _ :: k, _, _, _, h, hk => KtI_exit (k := k) h hk
/-- An exit that nothing in the frame catches. -/
theorem KtI_out {id : Nat} : ∀ {k : List KI} {a : Act} {w : World}, popTo id k = none → Rx (.exit id) a w → KtI P ro Rx k (.exit id) a w
  | [], _, _, _, h => h
  | .blk i :: k, a, w, h, hk => by
    unfold popTo at h
    simp only [KtI]
    by_cases e : i = id
    · subst e; simp at h
    · have h1 : Nat.beq i id = false := beq_ne e
      rw [h1] at h
      rw [if_neg (Ne.symm e)]
      exact KtI_out (k := k) h hk
  | .code _ :: k, _, _, h, hk => KtI_out (k := k) h hk
  | .lp _ :: k, _, _, h, hk => KtI_out (k := k) h hk
end

structure CWI (P : Program) (ro : Option Nat) (Rx : Exit → Act → World → Prop) (k : List KI) (c : Code) (n : Nat) (ds : List Deferred) (l : List (Nat × Value)) (C : World → Prop) : Prop where
  run : ∀ a w, EnvD n ds l a → C w → c.wpIn (fw ro) 0 P (KtI P ro Rx k) a w
structure KNI (P : Program) (ro : Option Nat) (Rx : Exit → Act → World → Prop) (k : List KI) (n : Nat) (ds : List Deferred) (l : List (Nat × Value)) (C : World → Prop) : Prop where
  run : ∀ a w, EnvD n ds l a → C w → KtI P ro Rx k .normal a w

section
variable {P : Program} {ro : Option Nat} {Rx : Exit → Act → World → Prop} {k : List KI} {n : Nat} {ds : List Deferred} {l l' : List (Nat × Value)} {C C' : World → Prop} {c x y : Code}

theorem CWI.seq (h : CWI P ro Rx (.code y :: k) x n ds l C) : CWI P ro Rx k (.seq x y) n ds l C :=
  ⟨fun a w he hc => wpIn_seq (wpIn_mono (h.run a w he hc) (fun e a w hk => by cases e <;> exact hk))⟩
theorem CWI.block {id : Nat} (h : CWI P ro Rx (.blk id :: k) c n ds l C) : CWI P ro Rx k (.block id c) n ds l C :=
  ⟨fun a w he hc => wpIn_block (wpIn_mono (h.run a w he hc) (fun e a w hk => by cases e <;> exact hk))⟩
theorem CWI.skip (h : KNI P ro Rx k n ds l C) : CWI P ro Rx k .skip n ds l C := ⟨fun a w he hc => wpIn_skip (h.run a w he hc)⟩
theorem CWI.label {i : Nat} (h : KNI P ro Rx k n ds l C) : CWI P ro Rx k (.label i) n ds l C := ⟨fun a w he hc => wpIn_label (h.run a w he hc)⟩
theorem CWI.ret (h : ∀ a w, EnvD n ds l a → C w → Rx .ret a w) : CWI P ro Rx k .ret n ds l C := ⟨fun a w he hc => wpIn_ret (KtI_ret k (h a w he hc))⟩
theorem CWI.exit {id : Nat} {k' : List KI} (hp : popTo id k = some k') (h : KNI P ro Rx k' n ds l C) : CWI P ro Rx k (.exit id) n ds l C :=
  ⟨fun a w he hc => wpIn_exit (KtI_exit hp (h.run a w he hc))⟩
theorem CWI.out {id : Nat} (hp : popTo id k = none) (h : ∀ a w, EnvD n ds l a → C w → Rx (.exit id) a w) : CWI P ro Rx k (.exit id) n ds l C :=
  ⟨fun a w he hc => wpIn_exit (KtI_out hp (h a w he hc))⟩
theorem CWI.cond {o : Operand} {b : Bool} (ho : ev l o = some (.bool b)) (h1 : b = true → CWI P ro Rx k x n ds l C) (h2 : b = false → CWI P ro Rx k y n ds l C) : CWI P ro Rx k (.cond o x y) n ds l C :=
  ⟨fun a w he hc => wpIn_cond_split (he.ev ho) (fun e => (h1 e).run a w he hc) (fun e => (h2 e).run a w he hc)⟩
theorem CWI.condT {o : Operand} (ho : ev l o = some (.bool true)) (h1 : CWI P ro Rx k x n ds l C) : CWI P ro Rx k (.cond o x y) n ds l C :=
  CWI.cond ho (fun _ => h1) (fun e => by cases e)
theorem CWI.condF {o : Operand} (ho : ev l o = some (.bool false)) (h1 : CWI P ro Rx k y n ds l C) : CWI P ro Rx k (.cond o x y) n ds l C :=
  CWI.cond ho (fun e => by cases e) (fun _ => h1)
theorem CWI.test {o : Operand} {p : Prop} [Decidable p] (ho : ev l o = some (.bool (decide p))) (h1 : p → CWI P ro Rx k x n ds l C) (h2 : ¬ p → CWI P ro Rx k y n ds l C) : CWI P ro Rx k (.cond o x y) n ds l C :=
  CWI.cond ho (fun e => h1 (of_decide_eq_true e)) (fun e => h2 (of_decide_eq_false e))
theorem CWI.weaken (l' : List (Nat × Value)) (C' : World → Prop) (hl : SubL l' l) (hC : ∀ w, C w → C' w) (h : CWI P ro Rx k c n ds l' C') : CWI P ro Rx k c n ds l C :=
  ⟨fun a w he hc => h.run a w (he.sub hl.sub) (hC w hc)⟩
theorem CWI.fact {F : Prop} (hF : ∀ w, C w → F) (h : F → CWI P ro Rx k c n ds l C) : CWI P ro Rx k c n ds l C := ⟨fun a w he hc => (h (hF w hc)).run a w he hc⟩
theorem CWI.pre (hC : ∀ w, C w → C' w) (h : CWI P ro Rx k c n ds l C') : CWI P ro Rx k c n ds l C := ⟨fun a w he hc => h.run a w he (hC w hc)⟩
theorem CWI.ex {X : Type} {C' : X → World → Prop} (hC : ∀ w, C w → ∃ x, C' x w) (h : ∀ x, CWI P ro Rx k c n ds l (C' x)) : CWI P ro Rx k c n ds l C :=
  ⟨fun _ w he hc => let ⟨x, hx⟩ := hC w hc; (h x).run _ w he hx⟩

theorem KNI.code (h : CWI P ro Rx k y n ds l C) : KNI P ro Rx (.code y :: k) n ds l C := ⟨fun a w he hc => h.run a w he hc⟩
theorem KNI.blk {id : Nat} (h : KNI P ro Rx k n ds l C) : KNI P ro Rx (.blk id :: k) n ds l C := ⟨fun a w he hc => h.run a w he hc⟩
theorem KNI.weaken (l' : List (Nat × Value)) (C' : World → Prop) (hl : SubL l' l) (hC : ∀ w, C w → C' w) (h : KNI P ro Rx k n ds l' C') : KNI P ro Rx k n ds l C :=
  ⟨fun a w he hc => h.run a w (he.sub hl.sub) (hC w hc)⟩
theorem KNI.fact {F : Prop} (hF : ∀ w, C w → F) (h : F → KNI P ro Rx k n ds l C) : KNI P ro Rx k n ds l C := ⟨fun a w he hc => (h (hF w hc)).run a w he hc⟩

/-- A loop: 'G': the states of the rounds. -/
theorem wpI_loop_ghost {G : Type} {Q : Exit → Act → World → Prop} (I : G → Act → World → Prop) (μ : G → Nat)
    (round : ∀ g a w, I g a w → c.wpIn (fw ro) 0 P (Exit.then (fun a' w' => ∃ g', I g' a' w' ∧ μ g' < μ g) Q) a w) (g₀ : G) {a : Act} {w : World} (h₀ : I g₀ a w) : (Code.loop c).wpIn (fw ro) 0 P Q a w := by
  classical
  have ex : ∀ a w, (∃ g, I g a w) → ∃ m, (∃ g, I g a w ∧ μ g = m) ∧ ∀ g, I g a w → m ≤ μ g := by
    intro a w ⟨g, hg⟩
    have key : ∀ (m : Nat) (g : G), μ g = m → I g a w → ∃ m, (∃ g, I g a w ∧ μ g = m) ∧ ∀ g, I g a w → m ≤ μ g := by
      intro m
      induction m using Nat.strongRecOn with
      | _ m ih =>
        intro g hm hI
        by_cases h : ∃ g', I g' a w ∧ μ g' < m
        · obtain ⟨g', h1, h2⟩ := h
          exact ih _ h2 g' rfl h1
        · exact ⟨m, ⟨g, hI, hm⟩, fun g' hg' => Nat.le_of_not_lt (fun hlt => h ⟨g', hg', hlt⟩)⟩
    exact key _ g rfl hg
  let ν : Act → World → Nat := fun a w => if h : ∃ g, I g a w then Classical.choose (ex a w h) else 0
  have hν : ∀ a w (h : ∃ g, I g a w), (∃ g, I g a w ∧ μ g = ν a w) ∧ ∀ g, I g a w → ν a w ≤ μ g := fun a w h => by
    simp only [ν, dif_pos h]; exact Classical.choose_spec (ex a w h)
  refine wpIn_loop (fun a w => ∃ g, I g a w) ν ⟨g₀, h₀⟩ (fun a w hI => ?_)
  obtain ⟨⟨g, hg, hm⟩, _⟩ := hν a w hI
  refine wpIn_mono (round g a w hg) (fun e a' w' hq => ?_)
  cases e <;> first | exact hq | (obtain ⟨g', h1, h2⟩ := hq; exact ⟨⟨g', h1⟩, Nat.lt_of_le_of_lt ((hν a' w' ⟨g', h1⟩).2 g' h1) (hm ▸ h2)⟩)

structure BackI {G : Type} (n : Nat) (df : G → List Deferred) (lf : G → List (Nat × Value)) (Cf : G → World → Prop) (pf : G → Prop) (μ : G → Nat) (m : Nat) (a : Act) (w : World) : Prop where
  back : ∃ g', (EnvD n (df g') (lf g') a ∧ Cf g' w ∧ pf g') ∧ μ g' < m

theorem CWI.loop {G : Type} (df : G → List Deferred) (lf : G → List (Nat × Value)) (Cf : G → World → Prop) (pf : G → Prop) (μ : G → Nat) (g₀ : G) (hd : df g₀ = ds) (hl : SubL (lf g₀) l) (hC : ∀ w, C w → Cf g₀ w) (hp : pf g₀)
    (hr : ∀ g, pf g → CWI P ro Rx (.lp (BackI n df lf Cf pf μ (μ g)) :: k) c n (df g) (lf g) (Cf g)) : CWI P ro Rx k (.loop c) n ds l C := by
  refine ⟨fun a w he hc => ?_⟩
  refine wpI_loop_ghost (fun g a w => EnvD n (df g) (lf g) a ∧ Cf g w ∧ pf g) μ (fun g a w hg => ?_) g₀ ⟨hd ▸ he.sub hl.sub, hC w hc, hp⟩
  exact wpIn_mono ((hr g hg.2.2).run a w hg.1 hg.2.1) (fun e a' w' hk => by cases e <;> first | exact hk | exact hk.back)
theorem KNI.back {G : Type} {df : G → List Deferred} {lf : G → List (Nat × Value)} {Cf : G → World → Prop} {pf : G → Prop} {μ : G → Nat} {m : Nat} (g' : G) (hd : df g' = ds) (hl : SubL (lf g') l) (hC : ∀ w, C w → Cf g' w) (hp : pf g') (hm : μ g' < m) :
    KNI P ro Rx (.lp (BackI n df lf Cf pf μ m) :: k) n ds l C := ⟨fun _ w he hc => ⟨g', ⟨hd ▸ he.sub hl.sub, hC w hc, hp⟩, hm⟩⟩

structure JoinI {G : Type} (n : Nat) (ds : List Deferred) (lf : G → List (Nat × Value)) (Cf : G → World → Prop) (pf : G → Prop) (a : Act) (w : World) : Prop where
  join : ∃ g, EnvD n ds (lf g) a ∧ Cf g w ∧ pf g
theorem CWI.cut {G : Type} (lf : G → List (Nat × Value)) (Cf : G → World → Prop) (pf : G → Prop) (hx : CWI P ro Rx (.lp (JoinI n ds lf Cf pf) :: k) x n ds l C) (hy : ∀ g, pf g → CWI P ro Rx k y n ds (lf g) (Cf g)) : CWI P ro Rx k (.seq x y) n ds l C :=
  ⟨fun a w he hc => wpIn_seq (wpIn_mono (hx.run a w he hc) (fun e a w hk => by
    cases e <;> first | exact hk | (obtain ⟨g, h1, h2, h3⟩ := hk.join; exact (hy g h3).run a w h1 h2)))⟩
theorem KNI.join {G : Type} {lf : G → List (Nat × Value)} {Cf : G → World → Prop} {pf : G → Prop} (g : G) (hl : SubL (lf g) l) (hC : ∀ w, C w → Cf g w) (hp : pf g) : KNI P ro Rx (.lp (JoinI n ds lf Cf pf) :: k) n ds l C :=
  ⟨fun _ w he hc => ⟨g, he.sub hl.sub, hC w hc, hp⟩⟩

theorem CWI.reg {id : Nat} {ops : Array Oper} (is : List Nat) (hi : sp is = seqPlan 0 ops.size) (hnd : noDefer ops = true) (h : SXI P ops (fun _ => True) (KtI P ro Rx k .normal) (sp is) n ds l C) : CWI P ro Rx k (.region id ops false) n ds l C :=
  ⟨fun a w he hc => wpIn_mono (wpI_straight hnd (by rw [← hi]; exact h.run a w he hc trivial)) (fun e a w hk => by cases e <;> first | exact hk | exact hk.elim)⟩
theorem CWI.regD {id : Nat} {ops : Array Oper} (p : Plan) (S : World → Prop) (hm : P.follows .mixedOrders = true) (hok : (noDefer ops && (Region.noSelect ops && planOk ops p ops.size (Array.replicate ops.size false) none)) = true)
    (hd : ∀ w, C w → C w.drew) (hS : ∀ w, C w → S w) (h : SXI P ops S (KtI P ro Rx k .normal) p n ds l C) : CWI P ro Rx k (.region id ops true) n ds l C :=
  ⟨fun a w he hc => wpIn_mono (wpI_planned p hm hok (hS _ (hd w hc)) (h.run a w.drew he (hd w hc) (hS _ (hd w hc)))) (fun e a w hk => by cases e <;> first | exact hk | exact hk.elim)⟩
theorem SXI.end_ {ops : Array Oper} {S : World → Prop} (h : KNI P ro Rx k n ds l C) : SXI P ops S (KtI P ro Rx k .normal) .done n ds l C := SXI.done h.run
theorem SXI.next {ops : Array Oper} {S : World → Prop} (h : CWI P ro Rx k y n ds l C) : SXI P ops S (KtI P ro Rx (.code y :: k) .normal) .done n ds l C := SXI.done h.run

/-- A function that holds such loops. -/
theorem calls_ofI {f : FuncId} {fn : Func} {args : List Value} {w : World} {R : Ending → World → Prop} (hf : P.funcs[f]? = some fn) (hb : fn.body = some c) (hn : fn.ntmps = n) (hlen : Nat.ble args.length n = true) (hw : C w)
    (h : CWI P none (bodyPostM Fence.wide 0 P fn R) [] c n [] (argEnv 0 args) C) : Calls P f args.toArray w R := by
  replace hlen : args.length ≤ n := Nat.le_of_ble_eq_true hlen
  refine (callsIn_wide (n := 0)).1 (callsIn_of_wp_marks hf hb trivial ?_)
  refine wpIn_mono (h.run _ w ⟨⟨by simp [hn]; omega, rfl, fun t v ht => ?_⟩, rfl⟩ hw) (fun e a w hk => hk)
  obtain ⟨_, h2⟩ := lk_argEnv args 0 t v ht
  simp only [Nat.sub_zero] at h2
  have hlt : t < args.length := by
    rcases Nat.lt_or_ge t args.length with h | h
    · exact h
    · rw [List.getElem?_eq_none h] at h2; cases h2
  rw [List.getElem?_eq_getElem hlt, Option.some.injEq] at h2
  simp [Array.getElem?_append, hlt, h2]
end
end Go.Sx
end
section
/- Range over a function, part 3: the statement, yield, the return; memory in parts. No condition. -/
namespace Go.Sx
open Go

/-! ### Parts -/
def objB (g : Nat) (o : Obj) : Atom where
  ok w D := (∀ k, D k ↔ k = g) ∧ w.heap[g]? = some o
  loc := fun ⟨h1, h2⟩ hb => ⟨h1, (hb _ ((h1 _).2 rfl)).trans h2⟩
def exA {G : Type} (f : G → Atom) : Atom where
  ok w D := ∃ g, (f g).ok w D
  loc := fun ⟨g, h⟩ hb => ⟨g, (f g).loc h hb⟩
def starOk : List Atom → World → (Nat → Prop) → Prop
  | [], _, D => ∀ k, ¬ D k
  | A :: L, w, D => ∃ D1 D2 : Nat → Prop, A.ok w D1 ∧ starOk L w D2 ∧ (∀ k, D k ↔ D1 k ∨ D2 k) ∧ ∀ k, D1 k → ¬ D2 k
theorem starOk_loc : ∀ (L : List Atom) {w w' : World} {D : Nat → Prop}, starOk L w D → (∀ k, D k → w'.heap[k]? = w.heap[k]?) → starOk L w' D
  | [], _, _, _, h, _ => h
  | A :: L, _, _, _, ⟨D1, D2, h1, h2, h3, h4⟩, hb => ⟨D1, D2, A.loc h1 (fun k hk => hb k ((h3 k).2 (.inl hk))), starOk_loc L h2 (fun k hk => hb k ((h3 k).2 (.inr hk))), h3, h4⟩
def starA (L : List Atom) : Atom where
  ok w D := starOk L w D
  loc := fun h hb => starOk_loc L h hb

section
variable {F : Nat → Prop} {w₀ w : World} {L L' X Y Z : List Atom}
theorem Sep.star : ∀ (X : List Atom) {F : Nat → Prop}, Sep F (X ++ L) w ↔ Sep F (starA X :: L) w
  | [], F => ⟨fun h => ⟨fun _ => False, fun _ => id, fun _ hk => hk.elim, h.weak (fun k hk => hk.resolve_right id)⟩, fun ⟨D, h1, _, h3⟩ => Sep.weak h3 (fun _ => .inl)⟩
  | A :: X, F => by
    constructor
    · rintro ⟨D1, h1, h2, h3⟩
      obtain ⟨D2, k1, k2, k3⟩ := (Sep.star X).1 h3
      refine ⟨fun k => D1 k ∨ D2 k, ⟨D1, D2, h1, k1, fun _ => Iff.rfl, fun k hk hk' => (k2 k hk').1 (.inr hk)⟩, ?_, k3.weak ?_⟩
      · rintro k (hk | hk)
        · exact h2 k hk
        · exact ⟨fun hf => (k2 k hk).1 (.inl hf), (k2 k hk).2⟩
      · rintro k (hk | hk | hk)
        · exact .inl (.inl hk)
        · exact .inl (.inr hk)
        · exact .inr hk
    · rintro ⟨D, ⟨D1, D2, h1, h2, h3, h4⟩, k2, k3⟩
      refine ⟨D1, h1, fun k hk => k2 k ((h3 k).2 (.inl hk)), (Sep.star X).2 ⟨D2, h2, fun k hk => ⟨?_, (k2 k ((h3 k).2 (.inr hk))).2⟩, k3.weak ?_⟩⟩
      · rintro (hf | hf)
        · exact (k2 k ((h3 k).2 (.inr hk))).1 hf
        · exact h4 k hf hk
      · rintro k ((hk | hk) | hk)
        · exact .inl hk
        · exact .inr ((h3 k).2 (.inl hk))
        · exact .inr ((h3 k).2 (.inr hk))
theorem Sep.congr {A : Atom} (h : ∀ F : Nat → Prop, Sep F L w ↔ Sep F L' w) : Sep F (A :: L) w ↔ Sep F (A :: L') w :=
  ⟨fun ⟨D, h1, h2, h3⟩ => ⟨D, h1, h2, (h _).1 h3⟩, fun ⟨D, h1, h2, h3⟩ => ⟨D, h1, h2, (h _).2 h3⟩⟩
theorem Sep.star3 : Sep F (X ++ (Y ++ Z)) w ↔ Sep F [starA X, starA Y, starA Z] w :=
  (Sep.star X).trans (Sep.congr fun _ => (Sep.star Y).trans (Sep.congr fun _ => by have := Sep.star (L := []) (w := w) Z (F := ‹_›); rwa [List.append_nil] at this))
theorem Sep.perm (h : L.Perm L') : ∀ {F : Nat → Prop}, Sep F L w → Sep F L' w := by
  induction h with
  | nil => exact id
  | cons A _ ih => exact fun ⟨D, h1, h2, h3⟩ => ⟨D, h1, h2, ih h3⟩
  | swap A B _ => exact fun h => h.swap
  | trans _ _ ih1 ih2 => exact fun h => ih2 (ih1 h)
theorem St.sep' (h : St F w₀ L w) (h2 : Sep F L w → Sep F L' w) : St F w₀ L' w := ⟨h.fr, h.lt, h2 h.sep⟩
theorem St.perm (hp : L.Perm L') (h : St F w₀ L w) : St F w₀ L' w := h.sep' (Sep.perm hp)
theorem St.star (X : List Atom) : St F w₀ (X ++ L) w ↔ St F w₀ (starA X :: L) w := ⟨fun h => h.sep' (Sep.star X).1, fun h => h.sep' (Sep.star X).2⟩
theorem St.star3 : St F w₀ (X ++ (Y ++ Z)) w ↔ St F w₀ [starA X, starA Y, starA Z] w := ⟨fun h => h.sep' Sep.star3.1, fun h => h.sep' Sep.star3.2⟩
theorem St.starLast : St F w₀ (X ++ Y) w ↔ St F w₀ (X ++ [starA Y]) w := by
  have key : ∀ (X : List Atom) (F : Nat → Prop), Sep F (X ++ Y) w ↔ Sep F (X ++ [starA Y]) w := by
    intro X
    induction X with
    | nil => intro F; have := Sep.star (L := []) (w := w) Y (F := F); rwa [List.append_nil] at this
    | cons A X ih => intro F; exact Sep.congr ih
  exact ⟨fun h => h.sep' (key X F).1, fun h => h.sep' (key X F).2⟩
theorem St.exA {G : Type} {f : G → Atom} : St F w₀ (exA f :: L) w ↔ ∃ g, St F w₀ (f g :: L) w :=
  ⟨fun h => let ⟨D, ⟨g, h1⟩, h2, h3⟩ := h.sep; ⟨g, h.fr, h.lt, D, h1, h2, h3⟩, fun ⟨g, h⟩ => let ⟨D, h1, h2, h3⟩ := h.sep; ⟨h.fr, h.lt, D, ⟨g, h1⟩, h2, h3⟩⟩
theorem St.allocO (o : Obj) (h : St F w₀ L w) : St F w₀ (objB w.heap.size o :: L) (w.alloc o) :=
  h.join (L' := [objB w.heap.size o]) ⟨⟨rfl, rfl, rfl, by simp, fun k hk => Go.RowKit.Below.heap_alloc w _ k hk⟩, fun _ hk => hk,
    ⟨fun k => k = w.heap.size, ⟨fun k => Iff.rfl, World.alloc_heap_new w o⟩, fun k hk => ⟨by simp [Old]; omega, by simp; omega⟩, trivial⟩⟩
theorem St.objAt {g : Nat} {o : Obj} (h : St F w₀ (objB g o :: L) w) : w.heap[g]? = some o := let ⟨_, ⟨_, h2⟩, _⟩ := h.sep; h2
theorem St.putO {g : Nat} {o : Obj} (o' : Obj) (h : St F w₀ (objB g o :: L) w) : St F w₀ (objB g o' :: L) (w.putObj g o') := by
  obtain ⟨D, ⟨h1, h2⟩, h3, h4⟩ := h.work (i := 0) rfl
  have hlt := (Array.getElem?_eq_some_iff.1 h2).1
  have := h4 (w.putObj g o') (objB g o') D ⟨rfl, rfl, rfl, by simp, fun k hk => World.putObj_heap_other (fun e => hk.2 ((h1 k).2 e))⟩ ⟨h1, World.putObj_heap_same hlt⟩ (fun k hk => ⟨.inl hk, by simp; exact h3 k hk⟩)
  exact this
end

/-! ### Contracts -/
/-- What a call of yield does, of round i: the consumer's part turns from J i to J (i + 1), and it says true; or to Jx (i + 1), and it says false. -/
def YieldOK (P : Program) (w₀ : World) (lr : Nat) (vals : Nat → List Value) (N : Nat) (J Jx : Nat → Atom) : Prop :=
  ∀ i, i < N → ∀ A w, Sto w₀ (J i :: A) w → ∃ fn tmps assign body, (Instr.yield lr (vals i).toArray).run P w = .ok (.round lr fn tmps assign body) w ∧
    RoundIn Fence.wide 0 P lr fn tmps assign body w (fun e w' => ∃ b : Bool, e = .returned (.bool b) ∧ Sto w₀ ((if b then J (i + 1) else Jx (i + 1)) :: A) w')
/-- An iterator that tells 'vals', N of them, and keeps its part. -/
def IterC (P : Program) (w₀ : World) (gf : FuncId) (lb : List Value) (B : List Atom) (vals : Nat → List Value) (N : Nat) : Prop :=
  ∀ (lr : Nat) (J Jx : Nat → Atom) (R : Atom) (w : World), YieldOK P w₀ lr vals N J Jx → Sto w₀ (J 0 :: (B ++ [R])) w →
    Calls P gf (.func (.yield lr) #[] #[] :: lb).toArray w (fun e w' => ∃ v, e = .returned v ∧ (Sto w₀ (J N :: (B ++ [R])) w' ∨ ∃ i, i < N ∧ Sto w₀ (Jx (i + 1) :: (B ++ [R])) w'))

section
variable {P : Program} {ops : Array Oper} {S : World → Prop} {K : Act → World → Prop} {p : Plan} {n : Nat} {ds : List Deferred} {l : List (Nat × Value)} {i : Nat} {ty : TypeId} {x : Operand} {w₀ : World} {A : List Atom}
end

def insAll (l : List (Nat × Value)) (ps : List (Nat × Value)) : List (Nat × Value) := ps.foldl (fun l pv => ins pv.1 pv.2 l) l
theorem Env.insAll {n : Nat} : ∀ (ps : List (Nat × Value)) {l : List (Nat × Value)} {a : Act}, Env n l a → (∀ pv ∈ ps, pv.1 < n) → Env n (insAll l ps) { a with tmps := ps.foldl (fun t (pv : Nat × Value) => t.setIfInBounds pv.1 pv.2) a.tmps }
  | [], _, _, h, _ => h
  | pv :: ps, l, a, h, hp => by
    have := Env.insAll ps (h.put (hp pv (by simp)) pv.2) (fun q hq => hp q (by simp [hq]))
    exact this

abbrev mark (D : Nat) : Deferred := { target := .collected D, args := #[] }
abbrev defB (D : Nat) : Atom := objB D (.deferred (some []))

/-- How a round's body may be left. -/
def RPost {G GX : Type} (w₀ : World) (T : Atom) (LJ : Nat → G → List Atom) (pJ : Nat → G → Prop) (LX : Nat → GX → List Atom) (pX : Nat → GX → Prop) (jx : GX → Code) (i : Nat) : Exit → Act → World → Prop
  | .normal, _, w => ∃ g, pJ i g ∧ Sto w₀ (LJ i g ++ [T]) w
  | .ret, _, w => ∃ g, pX i g ∧ jx g = .ret ∧ Sto w₀ (LX i g ++ [T]) w
  | .exit id, _, w => ∃ g, pX i g ∧ jx g = .exit id ∧ Sto w₀ (LX i g ++ [T]) w
  | _, _, _ => False

section
variable {P : Program} {Rx : Exit → Act → World → Prop} {k : List KI} {n : Nat} {ds : List Deferred} {l : List (Nat × Value)} {w₀ : World} {A : List Atom}

theorem CWI.rangeFunc {G GX : Type} (LJ : Nat → G → List Atom) (pJ : Nat → G → Prop) (LX : Nat → GX → List Atom) (pX : Nat → GX → Prop) (jx : GX → Code) (g₀ : G) (LB LR : List Atom) (lbod : Nat → List (Nat × Value))
    {g : Operand} {ps : Array Tmp} {assign body : Code} {gf : FuncId} {lb : List Value} {vals : Nat → List Value} {N : Nat}
    (hg : ev l g = some (.func (.func gf) #[] lb.toArray)) [hgf : Enters P gf] (hit : IterC P w₀ gf lb LB vals N)
    (is : List Nat) (hpick : picks A is = some (LJ 0 g₀ ++ (LB ++ LR))) (hp0 : pJ 0 g₀) (hps : ∀ i, (vals i).length = ps.size) (hpn : ∀ q ∈ ps.toList, q < n)
    (hassign : ∀ (lr i : Nat) (C : World → Prop), i < N → CWI P (some lr) (fun _ _ _ => False) [.lp (fun a w => EnvD n [] (lbod i) a ∧ C w)] assign n [] (insAll l (ps.toList.zip (vals i))) C)
    (hbody : ∀ (lr : Nat) (T : Atom) (i : Nat) (g : G), i < N → pJ i g → CWI P (some lr) (RPost w₀ T LJ pJ LX pX jx (i + 1)) [] body n [] (lbod i) (Sto w₀ (LJ i g ++ [T])))
    (hdone : ∀ (D : Nat) (g : G), pJ N g → KNI P none Rx k n (mark D :: ds) l (Sto w₀ (defB D :: (LJ N g ++ (LB ++ LR)))))
    (hstop : ∀ (D i : Nat) (g : GX), i < N → pX (i + 1) g → CWI P none Rx k (jx g) n (mark D :: ds) l (Sto w₀ (defB D :: (LX (i + 1) g ++ (LB ++ LR))))) :
    CWI P none Rx k (.rangeFunc g ps assign body) n ds l (Sto w₀ A) := by
  refine ⟨fun a w he hc => wpIn_rangeFunc (F := fw none) (fun fn _ => ?_)⟩
  obtain ⟨rec, hrec⟩ : ∃ rec : LoopState → Option Code → Loop, rec = fun st pe => { state := st, pending := pe, fn, tmps := a.tmps, params := ps, assign, body, defers := w.heap.size } := ⟨_, rfl⟩
  obtain ⟨w1, hw1⟩ : ∃ w1, (w.alloc (.deferred (some []))).alloc (.loop (rec .ready none)) = w1 := ⟨_, rfl⟩
  have hst : Sto w₀ (objB (w.heap.size + 1) (.loop (rec .ready none)) :: defB w.heap.size :: (LJ 0 g₀ ++ (LB ++ LR))) w1 := by
    have h2 := ((hc.pick is hpick).allocO (.deferred (some []))).allocO (.loop (rec .ready none))
    rw [hw1, World.size_alloc] at h2
    exact h2
  let J : Nat → Atom := fun i => exA (fun g : { g : G // pJ i g } => starA (objB (w.heap.size + 1) (.loop (rec .ready none)) :: defB w.heap.size :: LJ i g.1))
  let Jx : Nat → Atom := fun i => exA (fun g : { g : GX // pX i g } => starA (objB (w.heap.size + 1) (.loop (rec .done (some (jx g.1)))) :: defB w.heap.size :: LX i g.1))
  have hY : YieldOK P w₀ (w.heap.size + 1) vals N J Jx := by
    intro i hi A' w' hJ
    obtain ⟨⟨g, hgp⟩, hJ⟩ := St.exA.1 hJ
    have hJ := (St.star _).2 hJ
    have hl := St.objAt hJ
    have hy := run_yield (P := P) (args := (vals i).toArray) hl (by rw [hrec]; simpa using hps i)
    rw [hrec] at hy
    refine ⟨fn, _, assign, body, hy, roundIn_of_wpIn (F := Fence.wide) trivial ?_⟩
    have hz : (ps.zip (vals i).toArray).foldl (fun tmps (x : Tmp × Value) => tmps.setIfInBounds x.1 x.2) a.tmps = (ps.toList.zip (vals i)).foldl (fun t (pv : Nat × Value) => t.setIfInBounds pv.1 pv.2) a.tmps := by
      rw [← Array.foldl_toList, Array.toList_zip]
    have hen : EnvD n [] (insAll l (ps.toList.zip (vals i))) { tmps := (ps.zip (vals i).toArray).foldl (fun tmps (x : Tmp × Value) => tmps.setIfInBounds x.1 x.2) a.tmps, defers := [] } := by
      refine ⟨?_, rfl⟩
      have := Env.insAll (ps.toList.zip (vals i)) he.env (fun pv hpv => hpn _ (List.of_mem_zip hpv).1)
      rw [hz]; exact this
    refine wpIn_mono ((hassign (w.heap.size + 1) i _ hi).run _ w' hen hJ) ?_
    intro e a1 w2 hk
    cases e with
    | normal =>
      obtain ⟨hea, hc2⟩ := hk
      have hl2 := St.objAt hc2
      refine ⟨_, run_beginRound hl2 (by rw [hrec]), ?_⟩
      have hc3 := St.putO (.loop { rec .ready none with state := .busy }) hc2
      let T : Atom := starA (objB (w.heap.size + 1) (.loop { rec .ready none with state := .busy }) :: defB w.heap.size :: A')
      have hT : ∀ (X : List Atom) (v : World), Sto w₀ (X ++ [T]) v ↔ Sto w₀ (objB (w.heap.size + 1) (.loop { rec .ready none with state := .busy }) :: (defB w.heap.size :: X ++ A')) v := by
        intro X v
        refine ⟨fun h => St.perm ?_ (St.starLast.2 h), fun h => St.starLast.1 (St.perm ?_ h)⟩
        · refine List.perm_middle.trans (List.Perm.cons _ ?_)
          exact List.perm_middle
        · refine (List.Perm.trans (List.Perm.cons _ ?_) List.perm_middle.symm)
          exact List.perm_middle.symm
      have hb := (hbody (w.heap.size + 1) T i g hi hgp).run a1 _ hea ((hT _ _).2 hc3)
      refine wpIn_mono hb (fun e a3 w3 hk => ?_)
      have fin : ∀ (jump : Option Code) (X : List Atom), Sto w₀ (X ++ [T]) w3 → ∃ v w', (Instr.endRound (w.heap.size + 1) jump).run P w3 = .ok v w' ∧ v = .bool jump.isNone ∧
          Sto w₀ (starA (objB (w.heap.size + 1) (.loop (rec (if jump.isNone then .ready else .done) jump)) :: defB w.heap.size :: X) :: A') w' := by
        intro jump X h3
        have h4 := (hT _ _).1 h3
        have h5 := run_endRound (P := P) jump (St.objAt h4)
        refine ⟨_, _, h5, rfl, (St.star _).1 ?_⟩
        have h6 := St.putO (.loop { rec .ready none with state := if jump.isNone then .ready else .done, pending := jump }) h4
        rw [hrec] at h6 ⊢
        exact h6
      cases e with
      | normal =>
        obtain ⟨g', hp', hs'⟩ := hk
        obtain ⟨v, w', h5, rfl, h6⟩ := fin none _ hs'
        exact ⟨_, w', h5, true, rfl, St.exA.2 ⟨⟨g', hp'⟩, h6⟩⟩
      | ret =>
        obtain ⟨g', hp', hj, hs'⟩ := hk
        obtain ⟨v, w', h5, rfl, h6⟩ := fin (some .ret) _ hs'
        exact ⟨_, w', h5, false, rfl, St.exA.2 ⟨⟨g', hp'⟩, by rw [hj]; exact h6⟩⟩
      | exit id =>
        obtain ⟨g', hp', hj, hs'⟩ := hk
        obtain ⟨v, w', h5, rfl, h6⟩ := fin (some (.exit id)) _ hs'
        exact ⟨_, w', h5, false, rfl, St.exA.2 ⟨⟨g', hp'⟩, by rw [hj]; exact h6⟩⟩
      | goto t => exact hk.elim
      | panic c => exact hk.elim
      | outgrown => exact hk.elim
    | exit id => exact hk.elim
    | goto t => exact hk.elim
    | ret => exact hk.elim
    | panic c => exact hk.elim
    | outgrown => exact hk.elim
  refine ⟨w.heap.size + 1, [mark w.heap.size], w1, { target := .fn (.func gf) lb.toArray, args := #[.func (.yield (w.heap.size + 1)) #[] #[]] }, w1, gf, (.func (.yield (w.heap.size + 1)) #[] #[] :: lb).toArray, w1, ?_, ?_, fun _ _ => trivial, ?_, fun h => by simp [Fence.wide] at h, ?_⟩
  · rw [← hw1, hrec]; exact run_enterLoop_outer _ _ _ _ _
  · simp only [resolve, he.ev hg]
    simp [Deferred.ofValue, go_sem]
  · simp only [invoke]
    have : #[Value.func (.yield (w.heap.size + 1)) #[] #[]] ++ lb.toArray = (.func (.yield (w.heap.size + 1)) #[] #[] :: lb).toArray := by simp
    rw [this]
    exact hgf.run _ _
  · refine CallsIn.mono (F := fw none) ((callsIn_wide (n := 0)).2 (hit (w.heap.size + 1) J Jx (starA LR) w1 hY ?_)) ?_
    · refine (St.exA (f := fun g : { g : G // pJ 0 g } => starA (objB (w.heap.size + 1) (.loop (rec .ready none)) :: defB w.heap.size :: LJ 0 g.1))).2 ⟨⟨g₀, hp0⟩, ?_⟩
      exact (St.starLast (X := starA (objB (w.heap.size + 1) (.loop (rec .ready none)) :: defB w.heap.size :: LJ 0 g₀) :: LB)).1 ((St.star (objB (w.heap.size + 1) (.loop (rec .ready none)) :: defB w.heap.size :: LJ 0 g₀)).1 hst)
    · have hea : EnvD n (mark w.heap.size :: ds) l { a with defers := [mark w.heap.size] ++ a.defers } := ⟨he.env, by rw [he.defers]; rfl⟩
      rintro e w' ⟨v, rfl, h | ⟨i, hi, h⟩⟩
      · obtain ⟨⟨g, hgp⟩, h⟩ := St.exA.1 h
        have h := (St.star _).2 ((St.starLast (X := starA _ :: LB)).2 h)
        have hl := St.objAt h
        refine ⟨_, _, run_endLoop hl (by rw [hrec]; simp), ?_⟩
        have h2 := (St.putO (.loop { rec .ready none with state := .exhausted }) h).tail
        rw [hrec] at h2 ⊢
        exact (hdone _ g hgp).run _ _ hea h2
      · obtain ⟨⟨g, hgp⟩, h⟩ := St.exA.1 h
        have h := (St.star _).2 ((St.starLast (X := starA _ :: LB)).2 h)
        have hl := St.objAt h
        refine ⟨_, _, run_endLoop hl (by rw [hrec]; simp), ?_⟩
        have h2 := (St.putO (.loop { rec .done (some (jx g)) with state := .exhausted }) h).tail
        rw [hrec] at h2 ⊢
        exact (hstop _ i g hi hgp).run _ _ hea h2

/-- The way out: the marks' blocks are shut. -/
theorem leaves_marks {fn : Func} {tmps : Array Value} {R : Ending → World → Prop} {L : List Atom} (hfin : ∀ w, Sto w₀ L w → ∃ v, (results fn tmps).run P w = .ok v w ∧ R (.returned v) w) :
    ∀ (Ds : List Nat) (w : World), Sto w₀ (Ds.map defB ++ L) w → LeavesInM Fence.wide 0 P fn tmps R (Ds.map mark) .returning w
  | [], w, h => hfin w h
  | D :: Ds, w, h => ⟨by simp, .inl ⟨D, _, rfl, run_takeDeferred (St.objAt h), leaves_marks hfin Ds _ (St.putO (.deferred none) h).tail⟩⟩

end
end Go.Sx
end
section
/- copy into a block of the walk's own, from anywhere, from the block itself too; parts of memory under a name. No condition. -/
namespace Go.Sx
open Go
section
variable {P : Program} {ops : Array Oper} {S : World → Prop} {K : Act → World → Prop} {p : Plan} {n : Nat} {l : List (Nat × Value)} {i : Nat} {ty : TypeId} {x y : Operand} {F : Nat → Prop} {w₀ : World} {L : List Atom}
/-- Parts of memory under a name: for some x, these. -/
theorem Has.ex {G : Type} {f : G → Atom} {w : World} (h : Has (exA f) w) : ∃ x, Has (f x) w := by
  obtain ⟨D, ⟨x, h1⟩, h2⟩ := h
  exact ⟨x, D, h1, h2⟩
end
end Go.Sx
end
section
/- Calls that write into one block of the caller's: what they read lies elsewhere. No condition. -/
namespace Go.Sx
open Go
/-- All blocks that are there but one. -/
def Ex (r : Nat) (w : World) : Nat → Prop := fun k => k < w.heap.size ∧ k ≠ r
/-- Something holds in the world, and stands on blocks that are there, and not on one. -/
def HasN (r : Nat) (A : Atom) (w : World) : Prop := ∃ D : Nat → Prop, A.ok w D ∧ ∀ k, D k → k < w.heap.size ∧ k ≠ r
section
variable {F : Nat → Prop} {w₀ w w' : World} {L : List Atom} {A : Atom} {r : Nat} {T : TypeId} {cs : Array Value}
theorem HasN.has (h : HasN r A w) : Has A w := let ⟨D, h1, h2⟩ := h; ⟨D, h1, fun k hk => (h2 k hk).1⟩
theorem HasN.cellB {c : Nat} {T2 : TypeId} {cs2 : Array Value} (h : HasN r (blk c T2 cs2) w) {j : Nat} {v : Value} (hj : cs2[j]? = some v) : w.cell? ⟨c, j, none⟩ = some v := by
  obtain ⟨D, ⟨_, h2⟩, _⟩ := h
  rw [cell_of_blk h2, hj]
theorem Has.cellB {c : Nat} {T2 : TypeId} {cs2 : Array Value} (h : Has (blk c T2 cs2) w) {j : Nat} {v : Value} (hj : cs2[j]? = some v) : w.cell? ⟨c, j, none⟩ = some v := by
  obtain ⟨D, ⟨_, h2⟩, _⟩ := h
  rw [cell_of_blk h2, hj]
end
/-- A call that answers v and leaves a block with these cells, and all else as it was. -/
def WCall (P : Program) (g : FuncId) (args : List Value) (w : World) (r : Nat) (T : TypeId) (cs : Array Value) (v : Value) : Prop :=
  Calls P g args.toArray w (fun e w' => e = .returned v ∧ St (Ex r w) w [blk r T cs] w')
section
variable {P : Program} {n : Nat} {c : Code}
end
section
variable {P : Program} {ops : Array Oper} {S : World → Prop} {K : Act → World → Prop} {p : Plan} {n : Nat} {l : List (Nat × Value)} {i : Nat} {ty : TypeId} {x : Operand} {F : Nat → Prop} {w₀ : World} {A : List Atom}
end
end Go.Sx
end
section
/- append of another type's slice; slices cut at their end, of the walk's own. No condition. -/
namespace Go.Sx
open Go
section
variable {P : Program} {ops : Array Oper} {S : World → Prop} {K : Act → World → Prop} {p : Plan} {n : Nat} {l : List (Nat × Value)} {C : World → Prop} {fl : Bool} {i : Nat} {ty ty' ty2 ty3 : TypeId} {x y z u : Operand}
variable {F : Nat → Prop} {w₀ : World} {L L' : List Atom}
end
section
variable {F : Nat → Prop} {w₀ w : World} {L : List Atom}
end
end Go.Sx
end
section
/- Appends within one's own memory, parts cleared at the end, slices compared with nil, empty slices written out, cells of rows stored. No condition. -/
namespace Go.Sx
open Go
theorem eqGuard_slice {P : Program} {w : World} (op : BinOp) (T : TypeId) (x y : Operand) (A : Option Addr) (m c : Nat) (b : Value) : (eqGuard op T x y (.slice A m c) b).run P w = .ok () w := by
  unfold eqGuard
  cases op <;> first | rfl | (cases b <;> rfl)
section
variable {P : Program} {ops : Array Oper} {S : World → Prop} {K : Act → World → Prop} {p : Plan} {n : Nat} {l : List (Nat × Value)} {C : World → Prop} {fl : Bool} {i : Nat} {ty ty' ty2 ty3 : TypeId} {x y z u : Operand}
variable {F : Nat → Prop} {w₀ : World} {L L' : List Atom}
theorem s_eqSN (d : Nat) {E sz by_ : Nat} {zv : Value} {A : Option Addr} {m c : Nat} {r : Bool} (ho : opAt ops n l i = some (some d, .binOp .eql ty x (.const (.slice none 0 0)) ty', ty2)) [hT : SlT P ty E sz by_ zv] (hx : ev l x = some (.slice A m c)) (hr : A.isNone = r)
    (h : SX P ops S K p n ((d, .bool r) :: l) C) : SX P ops S K (.st fl i p) n l C :=
  SX.pure ho (fun a w o he h1 _ => by
    have e1 : a.eval (.const (.slice none 0 0)) = .slice none 0 0 := rfl
    have e2 : (binOp .eql ty (.slice A m c) (.slice none 0 0)).run P w = .ok (.bool r) w := by
      simp only [binOp, Op.equal, Op.maxDepth, Sem.run_bind]
      rw [Op.equalIn]
      subst hr
      cases A <;> simp [run_underlying hT.under]
    simp only [execOp, h1, he.ev hx, e1, Sem.run_bind, eqGuard_slice, e2, Result.andThen_ok, Sem.run_pure]) h
/-- An empty slice written out. -/
theorem s_bsl0 (d : Nat) {E sz by_ : Nat} {zv : Value} (ho : opAt ops n l i = some (some d, .buildSlice ty' 0 #[], ty)) [hT : SlT P ty' E sz by_ zv] (hS : ∀ w, St F w₀ L w → S w)
    (h : ∀ g, SX P ops S K p n ((d, .slice (some ⟨g, 0, none⟩) 0 0) :: l) (St F w₀ (blk g E #[] :: L))) : SX P ops S K (.st false i p) n l (St F w₀ L) :=
  s_new d (v := fun g => .slice (some ⟨g, 0, none⟩) 0 0) ho (fun a w o he h1 _ => by
    obtain ⟨inf, hi1, hs, _, hz⟩ := hT.info
    have e2 : (Instr.buildSlice ty' 0 #[]).run P w = .ok (.slice (some ⟨w.heap.size, 0, none⟩) 0 0) (w.alloc (.cells #[] E)) := by
      have hf : Instr.fill (fun i => some (i * sz, sz)) (Array.map (fun _ => default) (Array.range 0)) [] = some #[] := by simp [Instr.fill]
      simp only [Instr.buildSlice, Sem.run_bind, run_underlying hT.under, Result.andThen_ok, sizeOf, run_tinfo hi1, hs, Sem.run_pure, Nat.zero_mul, if_pos, newRow]
      rw [if_neg (by omega)]
      simp [hf]
    have e1 : (#[] : Array (Nat × Operand)).map (fun (q : Nat × Operand) => (q.1, a.eval q.2)) = #[] := by simp
    simp only [execOp, h1, Sem.run_bind, e1, e2, Result.andThen_ok, Sem.run_pure]) hS h
/-- An empty block as a slice of one's own. -/
theorem St.blkOwn0 {q g E sz : Nat} {w : World} (hi : L[q]? = some (blk g E #[])) (h : St F w₀ L w) : St F w₀ (L.set q (own E sz (some ⟨g, 0, none⟩) 0 0 [])) w := by
  have := h.blkOwnM (q := q) (m := 0) (c := 0) (sz := sz) hi (by simp) (Nat.le_refl _) (by unfold maxLen; omega)
  simpa using this
end
end Go.Sx
end
section
/- Calls that are lent a part of the walk's own memory. No condition. -/
namespace Go.Sx
open Go
section
variable {F : Nat → Prop} {w₀ w : World} {M R : List Atom}
/-- A part is lent: what is done with it leaves the rest. -/
theorem St.lend (h : St F w₀ (M ++ R) w) : ∃ F' : Nat → Prop, St F' w M w ∧ (∀ w', Fr F' w w' → St F w₀ R w') ∧ ∀ M' w', St F' w M' w' → St F w₀ (M' ++ R) w' := by
  obtain ⟨D, h1, h2, h3⟩ := ((St.star M).1 h).sep
  have hmono : ∀ w', Fr (fun k => k < w.heap.size ∧ ¬ D k) w w' → ∀ G : Nat → Prop, (∀ k, G k → k < w.heap.size → F k ∨ D k) → Sep G R w' := fun w' hf G hG =>
    Sep.mono h3 (fun k hk hn => hf.block k ⟨hk, fun hd => hn (.inr hd)⟩) hf.size (fun k hg => by
      by_cases hk : k < w.heap.size
      · exact .inl (hG k hg hk)
      · exact .inr (by omega))
  have hF : ∀ k, F k → k < w.heap.size ∧ ¬ D k := fun k hk => ⟨h.lt' k hk, fun hd => (h2 k hd).1 hk⟩
  refine ⟨fun k => k < w.heap.size ∧ ¬ D k, ⟨Fr.refl _ _, fun k hk => hk.1, ?_⟩, fun w' hf => ⟨h.fr.trans (hf.mono hF), h.lt, hmono w' hf F (fun k hk _ => .inl hk)⟩, fun M' w' h' => ?_⟩
  · have hs : Sep (fun k => k < w.heap.size ∧ ¬ D k) (starA M :: []) w := ⟨D, h1, fun k hk => ⟨fun hn => hn.2 hk, (h2 k hk).2⟩, trivial⟩
    have := (Sep.star M).2 hs
    rwa [List.append_nil] at this
  · have hs : Sep (fun k => k < w.heap.size ∧ ¬ D k) (M' ++ []) w' := by rw [List.append_nil]; exact h'.sep
    obtain ⟨D', k1, k2, _⟩ := (Sep.star M').1 hs
    refine ⟨h.fr.trans (h'.fr.mono hF), h.lt, (Sep.star M').2 ⟨D', k1, fun k hk => ⟨fun hf => (k2 k hk).1 (hF k hf), (k2 k hk).2⟩, hmono w' h'.fr _ (fun k hk hlt => ?_)⟩⟩
    rcases hk with hk | hk
    · exact .inl hk
    · exact .inr (Classical.byContradiction fun hd => (k2 k hk).1 ⟨hlt, hd⟩)
end
section
variable {P : Program} {ops : Array Oper} {S : World → Prop} {K : Act → World → Prop} {p : Plan} {n : Nat} {l : List (Nat × Value)} {i : Nat} {ty : TypeId} {x : Operand} {F : Nat → Prop} {w₀ : World} {A : List Atom}
/-- A call that is lent M, and gives M' back. -/
theorem s_callP (d : Nat) (is : List Nat) {M R : List Atom} {as1 : Array Operand} {ts : Array TypeId} {g : FuncId} {fs cs : Array Value} {vs L : List Value} {X : Type} {v : X → Value} {pf : X → Prop} {M' : X → List Atom} (hpk : picks A is = some (M ++ R))
    (ho : opAt ops n l i = some (some d, .call ⟨.value x, as1, ts⟩, ty)) (hx : ev l x = some (.func (.func g) fs cs)) (has : evs l as1.toList = some vs) (hL : fs.toList ++ vs ++ cs.toList = L) [hg : Enters P g]
    (hc : ∀ (F' : Nat → Prop) w, (∀ w', Fr F' w w' → St F w₀ R w') → St F' w M w → Calls P g L.toArray w (fun e w' => ∃ x, e = .returned (v x) ∧ pf x ∧ St F' w (M' x) w')) (hS : ∀ x w, St F w₀ (M' x ++ R) w → S w) (h : ∀ x, pf x → SX P ops S K p n ((d, (v x)) :: l) (St F w₀ (M' x ++ R))) : SX P ops S K (.st false i p) n l (St F w₀ A) :=
  SX.enter (C' := fun x w => St F w₀ (M' x ++ R) w) ho (fun _ _ _ he h1 _ => run_call he h1 hx has hL) (fun w hw => by
    obtain ⟨F', h1, h2, h3⟩ := (hw.pick is hpk).lend
    exact Calls.mono (hc F' w h2 h1) (fun e w' ⟨x, e1, e2, e3⟩ => ⟨x, e1, e2, h3 _ _ e3⟩)) hS h
end
end Go.Sx
end
section
/- Slices of one's own that lie many in one part: their cells stored. No condition. -/
namespace Go.Sx
open Go
section
variable {F : Nat → Prop} {w₀ : World} {L L' : List Atom}
end
section
variable {P : Program} {ops : Array Oper} {S : World → Prop} {K : Act → World → Prop} {p : Plan} {n : Nat} {l : List (Nat × Value)} {C : World → Prop} {fl : Bool} {i : Nat} {ty ty' ty2 : TypeId} {x y : Operand}
variable {F : Nat → Prop} {w₀ : World} {L : List Atom}
end
end Go.Sx
end
section
/- Rows of structs of any kind that lie in memory; rows made, stored whole; a part taken out of many, and put back. No condition. -/
namespace Go.Sx
open Go
section
variable {α : Type} {row : α → List Value} {k : Nat}
theorem flat_len (hk : ∀ a, (row a).length = k) : ∀ l : List α, (l.flatMap row).length = l.length * k
  | [] => by simp
  | a :: l => by
    rw [List.flatMap_cons, List.length_append, hk, flat_len hk l, List.length_cons, Nat.succ_mul]
    omega
theorem flat_at (hk : ∀ a, (row a).length = k) : ∀ {l : List α} {i : Nat} {a : α} {j : Nat} {v : Value}, l[i]? = some a → (row a)[j]? = some v → (l.flatMap row)[i * k + j]? = some v
  | [], i, a, j, v, h, _ => by simp at h
  | b :: l, 0, a, j, v, h, hv => by
    obtain rfl : b = a := by simpa using h
    rw [List.flatMap_cons, Nat.zero_mul, Nat.zero_add, List.getElem?_append_left (List.getElem?_eq_some_iff.1 hv).1]
    exact hv
  | b :: l, i + 1, a, j, v, h, hv => by
    have ih := flat_at hk (l := l) (i := i) (by simpa using h) hv
    rw [List.flatMap_cons, List.getElem?_append_right (by rw [hk, Nat.succ_mul]; omega), ← ih, hk]
    congr 1
    rw [Nat.succ_mul]
    omega
theorem flat_take (hk : ∀ a, (row a).length = k) (l : List α) (i : Nat) : (l.flatMap row).take (i * k) = (l.take i).flatMap row := by
  by_cases h : i ≤ l.length
  · have e1 := congrArg (List.flatMap row) (List.take_append_drop i l)
    rw [List.flatMap_append] at e1
    rw [← e1]
    exact List.take_left' (by rw [flat_len hk, List.length_take, Nat.min_eq_left h])
  · rw [List.take_of_length_le (by rw [flat_len hk]; exact Nat.mul_le_mul_right _ (by omega)), List.take_of_length_le (by omega)]
theorem flat_drop (hk : ∀ a, (row a).length = k) (l : List α) (i : Nat) : (l.flatMap row).drop (i * k) = (l.drop i).flatMap row := by
  by_cases h : i ≤ l.length
  · have e1 := congrArg (List.flatMap row) (List.take_append_drop i l)
    rw [List.flatMap_append] at e1
    rw [← e1]
    exact List.drop_left' (by rw [flat_len hk, List.length_take, Nat.min_eq_left h])
  · rw [List.drop_of_length_le (by rw [flat_len hk]; exact Nat.mul_le_mul_right _ (by omega)), List.drop_of_length_le (by omega)]
    rfl
/-- One row is another. -/
theorem flat_row (hk : ∀ a, (row a).length = k) {l : List α} {i : Nat} (hi : i < l.length) (b : α) : (l.set i b).flatMap row = (l.flatMap row).take (i * k) ++ row b ++ (l.flatMap row).drop (i * k + k) := by
  rw [List.set_eq_take_append_cons_drop, if_pos hi, List.flatMap_append, List.flatMap_cons, flat_take hk, ← Nat.succ_mul, flat_drop hk, List.append_assoc]
theorem flat_set (hk : ∀ a, (row a).length = k) {l : List α} {i : Nat} {a b : α} {j : Nat} {v : Value} (h : l[i]? = some a) (hj : j < k) (hb : row b = (row a).set j v) : (l.set i b).flatMap row = (l.flatMap row).set (i * k + j) v := by
  have hi := (List.getElem?_eq_some_iff.1 h).1
  have hl := flat_len hk l
  have hle : i * k + k ≤ l.length * k := by
    rw [← Nat.succ_mul]
    exact Nat.mul_le_mul_right _ hi
  apply List.ext_getElem?
  intro t
  rw [flat_row hk hi, hb, List.getElem?_set]
  by_cases h1 : t < i * k
  · rw [if_neg (by omega), List.append_assoc, List.getElem?_append_left (by rw [List.length_take]; omega), List.getElem?_take, if_pos h1]
  · by_cases h2 : t < i * k + k
    · rw [List.getElem?_append_left (by rw [List.length_append, List.length_take, List.length_set, hk]; omega), List.getElem?_append_right (by rw [List.length_take]; omega), List.length_take, Nat.min_eq_left (by omega), List.getElem?_set, hk]
      by_cases h3 : i * k + j = t
      · subst h3
        rw [if_pos (by omega), if_pos (by omega), if_pos rfl, if_pos (by omega)]
      · rw [if_neg (by omega), if_neg h3]
        obtain ⟨q, rfl⟩ : ∃ q, t = i * k + q := ⟨t - i * k, by omega⟩
        have hq : q < (row a).length := by rw [hk]; omega
        rw [Nat.add_sub_cancel_left, List.getElem?_eq_getElem hq, flat_at hk h (List.getElem?_eq_getElem hq)]
    · rw [if_neg (by omega), List.getElem?_append_right (by rw [List.length_append, List.length_take, List.length_set, hk]; omega), List.length_append, List.length_take, List.length_set, hk, Nat.min_eq_left (by omega), List.getElem?_drop]
      congr 1
      omega
end
section
variable {F : Nat → Prop} {w₀ w : World} {L X : List Atom} {A A' : Atom}
/-- One of many, at the head. -/
theorem St.focus {i : Nat} (hi : X[i]? = some A) (h : St F w₀ (starA X :: L) w) : St F w₀ (A :: starA (X.eraseIdx i) :: L) w := by
  have h1 := (St.star X).2 h
  have hp : X.Perm (A :: X.eraseIdx i) := by
    have hl := (List.getElem?_eq_some_iff.1 hi).1
    have e : X[i] = A := (List.getElem?_eq_some_iff.1 hi).2
    rw [List.eraseIdx_eq_take_drop_succ, ← e]
    conv => lhs; rw [← List.take_append_drop i X, List.drop_eq_getElem_cons hl]
    exact List.perm_middle
  have h2 : St F w₀ (A :: (X.eraseIdx i ++ L)) w := h1.perm (hp.append_right L)
  have h3 : St F w₀ (X.eraseIdx i ++ (A :: L)) w := h2.perm List.perm_middle.symm
  have h4 := (St.star (X.eraseIdx i)).1 h3
  exact h4.perm (List.Perm.swap ..)
theorem St.unfocus {i : Nat} (hi : i < X.length) (h : St F w₀ (A' :: starA (X.eraseIdx i) :: L) w) : St F w₀ (starA (X.set i A') :: L) w := by
  have h1 : St F w₀ (starA (X.eraseIdx i) :: (A' :: L)) w := h.perm (List.Perm.swap ..)
  have h2 := (St.star (X.eraseIdx i)).2 h1
  have h3 : St F w₀ (A' :: (X.eraseIdx i ++ L)) w := h2.perm List.perm_middle
  have hp : (X.set i A').Perm (A' :: X.eraseIdx i) := by
    rw [List.eraseIdx_eq_take_drop_succ, List.set_eq_take_append_cons_drop, if_pos hi]
    exact List.perm_middle
  exact (St.star (X.set i A')).1 (h3.perm (hp.symm.append_right L))
theorem St.open_ (h : St F w₀ (starA X :: L) w) : St F w₀ (X ++ L) w := (St.star X).2 h
theorem St.close_ (X : List Atom) (h : St F w₀ (X ++ L) w) : St F w₀ (starA X :: L) w := (St.star X).1 h
end
section
variable {P : Program} {ops : Array Oper} {S : World → Prop} {K : Act → World → Prop} {p : Plan} {n : Nat} {l : List (Nat × Value)} {C : World → Prop} {fl : Bool} {i : Nat} {ty ty' ty2 ty3 : TypeId} {x y z u : Operand}
variable {F : Nat → Prop} {w₀ : World} {L L' : List Atom}
end
end Go.Sx
end
section
/- Pointers and errors of any kind against nil; calls that answer nothing; parts of stars. No condition. -/
namespace Go.Sx
open Go
/-- A value of an interface: nil, or something. -/
def isSomeV : Value → Option Bool
  | .nilIface => some false
  | .iface _ _ => some true
  | _ => none
section
variable {P : Program} {ops : Array Oper} {S : World → Prop} {K : Act → World → Prop} {p : Plan} {n : Nat} {l : List (Nat × Value)} {C : World → Prop} {fl : Bool} {i : Nat} {ty ty' ty2 ty3 : TypeId} {x y z u : Operand}
variable {F : Nat → Prop} {w₀ : World} {L L' : List Atom}
end
section
variable {F : Nat → Prop} {w₀ w : World} {L X Y : List Atom} {A : Atom}
theorem St.starNil (h : St F w₀ L w) : St F w₀ (starA [] :: L) w := (St.star []).1 h
/-- One more at the end. -/
theorem St.starPush (h : St F w₀ (A :: starA X :: L) w) : St F w₀ (starA (X ++ [A]) :: L) w := by
  have h1 : St F w₀ (starA X :: (A :: L)) w := h.perm (List.Perm.swap ..)
  have h2 := (St.star X).2 h1
  have h3 : St F w₀ ((X ++ [A]) ++ L) w := by
    rw [List.append_assoc]
    exact h2
  exact (St.star (X ++ [A])).1 h3
theorem Has.ownA {E sz m c : Nat} {B : Option Addr} {xs : List Value} (h : Has (own E sz B m c xs) w) : (m ≠ 0 → B = some ⟨ob B, 0, none⟩) ∧ m ≤ c ∧ xs.length = m * sz := by
  obtain ⟨D, ⟨⟨h1, h2⟩, _⟩, _⟩ := h
  rcases h2 with ⟨h2, h3⟩ | ⟨g, cap, cur, hv, _, _, hc, _⟩
  · injection h2 with _ _ h4
    exact ⟨fun hn => absurd h3 hn, by omega, h1⟩
  · injection hv with hA hm hc2
    subst hA
    exact ⟨fun _ => rfl, by omega, h1⟩
end
/-- A call from here on that is lent M, and gives M' back. -/
abbrev SpecP (P : Program) (f : FuncId) (args : List Value) (F : Nat → Prop) (w : World) {X : Type} (v : X → Value) (pf : X → Prop) (M' : X → List Atom) : Prop :=
  Calls P f args.toArray w (fun e w' => ∃ x : X, e = .returned (v x) ∧ pf x ∧ St F w (M' x) w')
end Go.Sx
end
section
/- A part of a block of one's own, stored whole. No condition. -/
namespace Go.Sx
open Go
section
variable {P : Program} {ops : Array Oper} {S : World → Prop} {K : Act → World → Prop} {p : Plan} {n : Nat} {l : List (Nat × Value)} {C : World → Prop} {fl : Bool} {i : Nat} {ty ty' ty2 ty3 : TypeId} {x y z u : Operand}
variable {F : Nat → Prop} {w₀ : World} {L L' : List Atom}
end
end Go.Sx
end
section
/- Maps with integer keys: made, filled, looked up: lemmas over any program. No condition. -/
namespace Go.Sx
open Go
/-- A map, whole. -/
def mapA (g : Nat) (es : Array MapEntry) (ck : Nat) : Atom where
  ok w D := (∀ k, D k ↔ k = g) ∧ w.heap[g]? = some (.map es ck)
  loc := fun ⟨h1, h2⟩ hb => ⟨h1, (hb _ ((h1 _).2 rfl)).trans h2⟩
/-- T: a map from integers. -/
class MapT (P : Program) (T : TypeId) (kt et : outParam TypeId) (kk : outParam IntKind) : Prop where
  under : P.underlying T = some (.map kt et)
  key : P.underlying kt = some (.int kk)
section
variable {P : Program} {w : World} {T kt et : TypeId} {kk : IntKind} {r ck : Nat} {es : Array MapEntry} {key v : Value}
end
section
variable {P : Program} {ops : Array Oper} {S : World → Prop} {K : Act → World → Prop} {p : Plan} {n i : Nat} {l : List (Nat × Value)} {C : World → Prop} {ty ty' ty2 : TypeId} {x y z : Operand} {fl : Bool}
variable {F : Nat → Prop} {w₀ w : World} {L : List Atom} {T kt et : TypeId} {kk k : IntKind} {g ck : Nat} {es : Array MapEntry}
end
end Go.Sx
end
section
/- Two pointers that are one; parts of lists that are filled. No condition. -/
namespace Go.Sx
open Go
section
variable {P : Program} {ops : Array Oper} {S : World → Prop} {K : Act → World → Prop} {p : Plan} {n i : Nat} {l : List (Nat × Value)} {C : World → Prop} {ty ty' ty2 : TypeId} {x y : Operand} {fl : Bool}
end
theorem take_set {α : Type} {l : List α} {i : Nat} (h : i < l.length) (z d : α) : (l.take i ++ List.replicate (l.length - i) z).set i (l.getD i d) = l.take (i + 1) ++ List.replicate (l.length - (i + 1)) z := by
  have e : (l.take i).length = i := by rw [List.length_take]; omega
  rw [List.set_append_right _ _ (by omega), e, Nat.sub_self, show l.length - i = (l.length - (i + 1)) + 1 by omega, List.replicate_succ, List.set_cons_zero, List.take_add_one, List.getD_eq_getElem?_getD, List.getElem?_eq_getElem h, List.append_assoc]
  rfl
end Go.Sx
end
section
/- Range over func, last part: a function value against nil, the way out where the results lie in memory, and the marks' blocks as one atom. No condition. -/
namespace Go.Sx
open Go
section
variable {P : Program} {ops : Array Oper} {S : World → Prop} {K : Act → World → Prop} {p : Plan} {n : Nat} {l : List (Nat × Value)} {i : Nat} {ty ty2 ty' : TypeId} {x : Operand} {C : World → Prop} {fl : Bool}
def isFuncT : Option TypeDesc → Bool
  | some (.func _ _ _) => true
  | _ => false
end
section
variable {P : Program} {F : Nat → Prop} {w₀ w : World} {X Y L : List Atom} {n : Nat} {ds : List Deferred} {l : List (Nat × Value)}
theorem retMC {fn : Func} {R : Ending → World → Prop} {C : World → Prop} {rs : List ResultVar} {L : List Atom} (Ds : List Nat) (hds : ds = Ds.map mark) (hr : fn.results = rs.toArray)
    (hC : ∀ w, C w → Sto w₀ (Ds.map defB ++ L) w) (h : ∀ w, Sto w₀ L w → ∃ vs, ResAt P l w rs vs ∧ R (.returned (oneOf vs)) w) : ∀ a w, EnvD n ds l a → C w → bodyPostM Fence.wide 0 P fn R .ret a w := by
  intro a w he hc
  show LeavesInM Fence.wide 0 P fn a.tmps R a.defers .returning w
  rw [he.defers, hds]
  refine leaves_marks (L := L) (fun w' hw' => ?_) Ds w (hC w hc)
  obtain ⟨_, v, h1, h2⟩ := (KN.retC (C := fun v => Sto w₀ L v) hr h : KN P (Rets fn R P) [] n l (fun v => Sto w₀ L v)).run _ w' he.env hw'
  exact ⟨v, h1, h2⟩
end
end Go.Sx
end
section
/- Range over func where each round's values come with memory of their own: an iterator that hands over what it made. No condition. -/
namespace Go.Sx
open Go
/-- What a call of yield does, of round i, at any values of that round: their memory goes to the consumer. -/
def YieldOKX (P : Program) (w₀ : World) (lr : Nat) {X : Type} (vals : Nat → X → List Value) (px : Nat → X → Prop) (VA : Nat → X → List Atom) (N : Nat) (J Jx : Nat → Atom) : Prop :=
  ∀ i, i < N → ∀ x, px i x → ∀ A w, Sto w₀ (J i :: (VA i x ++ A)) w → ∃ fn tmps assign body, (Instr.yield lr (vals i x).toArray).run P w = .ok (.round lr fn tmps assign body) w ∧
    RoundIn Fence.wide 0 P lr fn tmps assign body w (fun e w' => ∃ b : Bool, e = .returned (.bool b) ∧ Sto w₀ ((if b then J (i + 1) else Jx (i + 1)) :: A) w')
/-- An iterator that tells N values, and keeps its part. -/
def IterX (P : Program) (w₀ : World) (gf : FuncId) (lb : List Value) (B : List Atom) {X : Type} (vals : Nat → X → List Value) (px : Nat → X → Prop) (VA : Nat → X → List Atom) (N : Nat) : Prop :=
  ∀ (lr : Nat) (J Jx : Nat → Atom) (R : Atom) (w : World), YieldOKX P w₀ lr vals px VA N J Jx → Sto w₀ (J 0 :: (B ++ [R])) w →
    Calls P gf (.func (.yield lr) #[] #[] :: lb).toArray w (fun e w' => ∃ v, e = .returned v ∧ (Sto w₀ (J N :: (B ++ [R])) w' ∨ ∃ i, i < N ∧ Sto w₀ (Jx (i + 1) :: (B ++ [R])) w'))
section
variable {P : Program} {ops : Array Oper} {S : World → Prop} {K : Act → World → Prop} {p : Plan} {n : Nat} {ds : List Deferred} {l : List (Nat × Value)} {i : Nat} {ty : TypeId} {x : Operand} {w₀ : World} {A : List Atom}
end
section
variable {P : Program} {Rx : Exit → Act → World → Prop} {k : List KI} {n : Nat} {ds : List Deferred} {l : List (Nat × Value)} {w₀ : World} {A : List Atom}

end
end Go.Sx
end
section
/- Range over func where each round's values come with memory, and the round's variables lie in memory of their own. No condition. -/
namespace Go.Sx
open Go
section
variable {P : Program} {Rx : Exit → Act → World → Prop} {k : List KI} {n : Nat} {ds : List Deferred} {l : List (Nat × Value)} {w₀ : World} {A : List Atom}

end
end Go.Sx
end
section
/- Range over func where a part of the memory is lent: as in the parts before, of any frame. No condition. -/
namespace Go.Sx
open Go
/-- How a round's body may be left. -/
def RPostF {G GX : Type} (F : Nat → Prop) (w₀ : World) (T : Atom) (LJ : Nat → G → List Atom) (pJ : Nat → G → Prop) (LX : Nat → GX → List Atom) (pX : Nat → GX → Prop) (jx : GX → Code) (i : Nat) : Exit → Act → World → Prop
  | .normal, _, w => ∃ g, pJ i g ∧ St F w₀ (LJ i g ++ [T]) w
  | .ret, _, w => ∃ g, pX i g ∧ jx g = .ret ∧ St F w₀ (LX i g ++ [T]) w
  | .exit id, _, w => ∃ g, pX i g ∧ jx g = .exit id ∧ St F w₀ (LX i g ++ [T]) w
  | _, _, _ => False

/-- What a call of yield does, of round i, at any values of that round: their memory goes to the consumer. -/
def YieldOKF (P : Program) (F : Nat → Prop) (w₀ : World) (lr : Nat) {X : Type} (vals : Nat → X → List Value) (px : Nat → X → Prop) (VA : Nat → X → List Atom) (N : Nat) (J Jx : Nat → Atom) : Prop :=
  ∀ i, i < N → ∀ x, px i x → ∀ A w, St F w₀ (J i :: (VA i x ++ A)) w → ∃ fn tmps assign body, (Instr.yield lr (vals i x).toArray).run P w = .ok (.round lr fn tmps assign body) w ∧
    RoundIn Fence.wide 0 P lr fn tmps assign body w (fun e w' => ∃ b : Bool, e = .returned (.bool b) ∧ St F w₀ ((if b then J (i + 1) else Jx (i + 1)) :: A) w')
/-- An iterator that tells N values, and keeps its part. -/
def IterF (P : Program) (F : Nat → Prop) (w₀ : World) (H : World → Prop) (gf : FuncId) (lb : List Value) (B : List Atom) {X : Type} (vals : Nat → X → List Value) (px : Nat → X → Prop) (VA : Nat → X → List Atom) (N : Nat) : Prop :=
  ∀ (lr : Nat) (J Jx : Nat → Atom) (R : Atom) (w : World), (∀ A w, St F w₀ (J 0 :: A) w → H w) → YieldOKF P F w₀ lr vals px VA N J Jx → St F w₀ (J 0 :: (B ++ [R])) w →
    Calls P gf (.func (.yield lr) #[] #[] :: lb).toArray w (fun e w' => ∃ v, e = .returned v ∧ (St F w₀ (J N :: (B ++ [R])) w' ∨ ∃ i, i < N ∧ St F w₀ (Jx (i + 1) :: (B ++ [R])) w'))
section
variable {P : Program} {ops : Array Oper} {S : World → Prop} {K : Act → World → Prop} {p : Plan} {n : Nat} {ds : List Deferred} {l : List (Nat × Value)} {i : Nat} {ty : TypeId} {x : Operand} {F : Nat → Prop} {w₀ : World} {A : List Atom}
/-- 'is' brings the consumer's part and the values' to the head. -/
theorem s_yieldF (d : Nat) (is : List Nat) {R : List Atom} {as1 : Array Operand} {ts : Array TypeId} {lr : Nat} {X : Type} {vals : Nat → X → List Value} {px : Nat → X → Prop} {VA : Nat → X → List Atom} {N i₀ : Nat} (x₀ : X) {J Jx : Nat → Atom} (hY : YieldOKF P F w₀ lr vals px VA N J Jx) (hi : i₀ < N) (hx0 : px i₀ x₀)
    (hJ : picks A is = some (J i₀ :: (VA i₀ x₀ ++ R)))
    (ho : opAt ops n l i = some (some d, .call ⟨.value x, as1, ts⟩, ty)) (hx : ev l x = some (.func (.yield lr) #[] #[])) (has : evs l as1.toList = some (vals i₀ x₀)) (hS : ∀ B w, St F w₀ (B :: R) w → S w)
    (h1 : SXI P ops S K p n ds ((d, .bool true) :: l) (St F w₀ (J (i₀ + 1) :: R))) (h2 : SXI P ops S K p n ds ((d, .bool false) :: l) (St F w₀ (Jx (i₀ + 1) :: R))) :
    SXI P ops S K (.st false i p) n ds l (St F w₀ A) := by
  refine SXI.yield (v := fun b : Bool => .bool b) (pf := fun _ => True) (C' := fun b => St F w₀ ((if b then J (i₀ + 1) else Jx (i₀ + 1)) :: R)) ho (fun a w o he hc h3 _ => ?_) (fun b w hw => hS _ w hw) (fun b _ => ?_)
  · have hc' : St F w₀ (J i₀ :: (VA i₀ x₀ ++ R)) w := hc.pick is hJ
    obtain ⟨fn, tmps, assign, body, hr, hR⟩ := hY i₀ hi x₀ hx0 _ w hc'
    refine ⟨lr, fn, tmps, assign, body, w, ?_, RoundIn.mono hR (fun e w' ⟨b, he, hs⟩ => ⟨b, he, trivial, hs⟩)⟩
    have e1 : as1.map a.eval = (vals i₀ x₀).toArray := by apply Array.ext'; rw [Array.toList_map]; exact he.evs has
    simp only [execOp, h3, resolve, e1, he.ev hx, Deferred.ofValue, Sem.run_bind, Sem.run_pure, Result.andThen_ok, invoke, Array.empty_append]
    exact hr
  · cases b with
    | true => exact h1
    | false => exact h2
end
section
variable {P : Program} {Rx : Exit → Act → World → Prop} {k : List KI} {n : Nat} {ds : List Deferred} {l : List (Nat × Value)} {F : Nat → Prop} {w₀ : World} {A : List Atom}

theorem CWI.rangeFuncF {G GX X : Type} (LJ : Nat → G → List Atom) (pJ : Nat → G → Prop) (LX : Nat → GX → List Atom) (pX : Nat → GX → Prop) (jx : GX → Code) (g₀ : G) (LB LR : List Atom) (lbod : Nat → X → List (Nat × Value))
    {g : Operand} {ps : Array Tmp} {assign body : Code} {gf : FuncId} {lb : List Value} {vals : Nat → X → List Value} {px : Nat → X → Prop} {VA : Nat → X → List Atom} {N : Nat}
    (hg : ev l g = some (.func (.func gf) #[] lb.toArray)) [hgf : Enters P gf] {H : World → Prop} (hit : IterF P F w₀ H gf lb LB vals px VA N) (hH : ∀ (g : G) (A : List Atom) (w : World), pJ 0 g → St F w₀ (LJ 0 g ++ A) w → H w)
    (is : List Nat) (hpick : picks A is = some (LJ 0 g₀ ++ (LB ++ LR))) (hp0 : pJ 0 g₀) (hps : ∀ i x, (vals i x).length = ps.size) (hpn : ∀ q ∈ ps.toList, q < n)
    (hassign : ∀ (lr i : Nat) (x : X) (C : World → Prop), i < N → px i x → CWI P (some lr) (fun _ _ _ => False) [.lp (fun a w => EnvD n [] (lbod i x) a ∧ C w)] assign n [] (insAll l (ps.toList.zip (vals i x))) C)
    (hbody : ∀ (lr : Nat) (T : Atom) (i : Nat) (g : G) (x : X), i < N → pJ i g → px i x → CWI P (some lr) (RPostF F w₀ T LJ pJ LX pX jx (i + 1)) [] body n [] (lbod i x) (St F w₀ (VA i x ++ (LJ i g ++ [T]))))
    (hdone : ∀ (D : Nat) (g : G), pJ N g → KNI P none Rx k n (mark D :: ds) l (St F w₀ (defB D :: (LJ N g ++ (LB ++ LR)))))
    (hstop : ∀ (D i : Nat) (g : GX), i < N → pX (i + 1) g → CWI P none Rx k (jx g) n (mark D :: ds) l (St F w₀ (defB D :: (LX (i + 1) g ++ (LB ++ LR))))) :
    CWI P none Rx k (.rangeFunc g ps assign body) n ds l (St F w₀ A) := by
  refine ⟨fun a w he hc => wpIn_rangeFunc (F := fw none) (fun fn _ => ?_)⟩
  obtain ⟨rec, hrec⟩ : ∃ rec : LoopState → Option Code → Loop, rec = fun st pe => { state := st, pending := pe, fn, tmps := a.tmps, params := ps, assign, body, defers := w.heap.size } := ⟨_, rfl⟩
  obtain ⟨w1, hw1⟩ : ∃ w1, (w.alloc (.deferred (some []))).alloc (.loop (rec .ready none)) = w1 := ⟨_, rfl⟩
  have hst : St F w₀ (objB (w.heap.size + 1) (.loop (rec .ready none)) :: defB w.heap.size :: (LJ 0 g₀ ++ (LB ++ LR))) w1 := by
    have h2 := ((hc.pick is hpick).allocO (.deferred (some []))).allocO (.loop (rec .ready none))
    rw [hw1, World.size_alloc] at h2
    exact h2
  let J : Nat → Atom := fun i => exA (fun g : { g : G // pJ i g } => starA (objB (w.heap.size + 1) (.loop (rec .ready none)) :: defB w.heap.size :: LJ i g.1))
  let Jx : Nat → Atom := fun i => exA (fun g : { g : GX // pX i g } => starA (objB (w.heap.size + 1) (.loop (rec .done (some (jx g.1)))) :: defB w.heap.size :: LX i g.1))
  have hY : YieldOKF P F w₀ (w.heap.size + 1) vals px VA N J Jx := by
    intro i hi x hpx A' w' hJ
    obtain ⟨⟨g, hgp⟩, hJ⟩ := St.exA.1 hJ
    have hJ := (St.star _).2 hJ
    have hl := St.objAt hJ
    have hy := run_yield (P := P) (args := (vals i x).toArray) hl (by rw [hrec]; simpa using hps i x)
    rw [hrec] at hy
    refine ⟨fn, _, assign, body, hy, roundIn_of_wpIn (F := Fence.wide) trivial ?_⟩
    have hz : (ps.zip (vals i x).toArray).foldl (fun tmps (x : Tmp × Value) => tmps.setIfInBounds x.1 x.2) a.tmps = (ps.toList.zip (vals i x)).foldl (fun t (pv : Nat × Value) => t.setIfInBounds pv.1 pv.2) a.tmps := by
      rw [← Array.foldl_toList, Array.toList_zip]
    have hen : EnvD n [] (insAll l (ps.toList.zip (vals i x))) { tmps := (ps.zip (vals i x).toArray).foldl (fun tmps (x : Tmp × Value) => tmps.setIfInBounds x.1 x.2) a.tmps, defers := [] } := by
      refine ⟨?_, rfl⟩
      have := Env.insAll (ps.toList.zip (vals i x)) he.env (fun pv hpv => hpn _ (List.of_mem_zip hpv).1)
      rw [hz]; exact this
    refine wpIn_mono ((hassign (w.heap.size + 1) i x _ hi hpx).run _ w' hen hJ) ?_
    intro e a1 w2 hk
    cases e with
    | normal =>
      obtain ⟨hea, hc2⟩ := hk
      have hl2 := St.objAt hc2
      refine ⟨_, run_beginRound hl2 (by rw [hrec]), ?_⟩
      have hc3 := St.putO (.loop { rec .ready none with state := .busy }) hc2
      let T : Atom := starA (objB (w.heap.size + 1) (.loop { rec .ready none with state := .busy }) :: defB w.heap.size :: A')
      have hT : ∀ (X : List Atom) (v : World), St F w₀ (X ++ [T]) v ↔ St F w₀ (objB (w.heap.size + 1) (.loop { rec .ready none with state := .busy }) :: (defB w.heap.size :: X ++ A')) v := by
        intro X v
        refine ⟨fun h => St.perm ?_ (St.starLast.2 h), fun h => St.starLast.1 (St.perm ?_ h)⟩
        · refine List.perm_middle.trans (List.Perm.cons _ ?_)
          exact List.perm_middle
        · refine (List.Perm.trans (List.Perm.cons _ ?_) List.perm_middle.symm)
          exact List.perm_middle.symm
      have hperm : (objB (w.heap.size + 1) (.loop { rec .ready none with state := .busy }) :: (defB w.heap.size :: (LJ i g ++ (VA i x ++ A')))).Perm (objB (w.heap.size + 1) (.loop { rec .ready none with state := .busy }) :: (defB w.heap.size :: (VA i x ++ LJ i g) ++ A')) := by
        refine List.Perm.cons _ (List.Perm.cons _ ?_)
        rw [← List.append_assoc]
        exact List.Perm.append_right A' List.perm_append_comm
      have hb := (hbody (w.heap.size + 1) T i g x hi hgp hpx).run a1 _ hea (by rw [← List.append_assoc]; exact (hT (VA i x ++ LJ i g) _).2 (St.perm hperm hc3))
      refine wpIn_mono hb (fun e a3 w3 hk => ?_)
      have fin : ∀ (jump : Option Code) (X : List Atom), St F w₀ (X ++ [T]) w3 → ∃ v w', (Instr.endRound (w.heap.size + 1) jump).run P w3 = .ok v w' ∧ v = .bool jump.isNone ∧
          St F w₀ (starA (objB (w.heap.size + 1) (.loop (rec (if jump.isNone then .ready else .done) jump)) :: defB w.heap.size :: X) :: A') w' := by
        intro jump X h3
        have h4 := (hT _ _).1 h3
        have h5 := run_endRound (P := P) jump (St.objAt h4)
        refine ⟨_, _, h5, rfl, (St.star _).1 ?_⟩
        have h6 := St.putO (.loop { rec .ready none with state := if jump.isNone then .ready else .done, pending := jump }) h4
        rw [hrec] at h6 ⊢
        exact h6
      cases e with
      | normal =>
        obtain ⟨g', hp', hs'⟩ := hk
        obtain ⟨v, w', h5, rfl, h6⟩ := fin none _ hs'
        exact ⟨_, w', h5, true, rfl, St.exA.2 ⟨⟨g', hp'⟩, h6⟩⟩
      | ret =>
        obtain ⟨g', hp', hj, hs'⟩ := hk
        obtain ⟨v, w', h5, rfl, h6⟩ := fin (some .ret) _ hs'
        exact ⟨_, w', h5, false, rfl, St.exA.2 ⟨⟨g', hp'⟩, by rw [hj]; exact h6⟩⟩
      | exit id =>
        obtain ⟨g', hp', hj, hs'⟩ := hk
        obtain ⟨v, w', h5, rfl, h6⟩ := fin (some (.exit id)) _ hs'
        exact ⟨_, w', h5, false, rfl, St.exA.2 ⟨⟨g', hp'⟩, by rw [hj]; exact h6⟩⟩
      | goto t => exact hk.elim
      | panic c => exact hk.elim
      | outgrown => exact hk.elim
    | exit id => exact hk.elim
    | goto t => exact hk.elim
    | ret => exact hk.elim
    | panic c => exact hk.elim
    | outgrown => exact hk.elim
  refine ⟨w.heap.size + 1, [mark w.heap.size], w1, { target := .fn (.func gf) lb.toArray, args := #[.func (.yield (w.heap.size + 1)) #[] #[]] }, w1, gf, (.func (.yield (w.heap.size + 1)) #[] #[] :: lb).toArray, w1, ?_, ?_, fun _ _ => trivial, ?_, fun h => by simp [Fence.wide] at h, ?_⟩
  · rw [← hw1, hrec]; exact run_enterLoop_outer _ _ _ _ _
  · simp only [resolve, he.ev hg]
    simp [Deferred.ofValue, go_sem]
  · simp only [invoke]
    have : #[Value.func (.yield (w.heap.size + 1)) #[] #[]] ++ lb.toArray = (.func (.yield (w.heap.size + 1)) #[] #[] :: lb).toArray := by simp
    rw [this]
    exact hgf.run _ _
  · refine CallsIn.mono (F := fw none) ((callsIn_wide (n := 0)).2 (hit (w.heap.size + 1) J Jx (starA LR) w1 (fun A v h => by
      obtain ⟨⟨g, hgp⟩, h⟩ := St.exA.1 h
      exact hH g A v hgp ((St.star _).2 h).tail.tail) hY ?_)) ?_
    · refine (St.exA (f := fun g : { g : G // pJ 0 g } => starA (objB (w.heap.size + 1) (.loop (rec .ready none)) :: defB w.heap.size :: LJ 0 g.1))).2 ⟨⟨g₀, hp0⟩, ?_⟩
      exact (St.starLast (X := starA (objB (w.heap.size + 1) (.loop (rec .ready none)) :: defB w.heap.size :: LJ 0 g₀) :: LB)).1 ((St.star (objB (w.heap.size + 1) (.loop (rec .ready none)) :: defB w.heap.size :: LJ 0 g₀)).1 hst)
    · have hea : EnvD n (mark w.heap.size :: ds) l { a with defers := [mark w.heap.size] ++ a.defers } := ⟨he.env, by rw [he.defers]; rfl⟩
      rintro e w' ⟨v, rfl, h | ⟨i, hi, h⟩⟩
      · obtain ⟨⟨g, hgp⟩, h⟩ := St.exA.1 h
        have h := (St.star _).2 ((St.starLast (X := starA _ :: LB)).2 h)
        have hl := St.objAt h
        refine ⟨_, _, run_endLoop hl (by rw [hrec]; simp), ?_⟩
        have h2 := (St.putO (.loop { rec .ready none with state := .exhausted }) h).tail
        rw [hrec] at h2 ⊢
        exact (hdone _ g hgp).run _ _ hea h2
      · obtain ⟨⟨g, hgp⟩, h⟩ := St.exA.1 h
        have h := (St.star _).2 ((St.starLast (X := starA _ :: LB)).2 h)
        have hl := St.objAt h
        refine ⟨_, _, run_endLoop hl (by rw [hrec]; simp), ?_⟩
        have h2 := (St.putO (.loop { rec .done (some (jx g)) with state := .exhausted }) h).tail
        rw [hrec] at h2 ⊢
        exact (hstop _ i g hi hgp).run _ _ hea h2

end
section
variable {P : Program} {F : Nat → Prop} {w₀ : World} {n : Nat} {ds : List Deferred} {l : List (Nat × Value)}
/-- The way out: the marks' blocks are shut. -/
theorem leaves_marksF {fn : Func} {tmps : Array Value} {R : Ending → World → Prop} {L : List Atom} (hfin : ∀ w, St F w₀ L w → ∃ v, (results fn tmps).run P w = .ok v w ∧ R (.returned v) w) :
    ∀ (Ds : List Nat) (w : World), St F w₀ (Ds.map defB ++ L) w → LeavesInM Fence.wide 0 P fn tmps R (Ds.map mark) .returning w
  | [], w, h => hfin w h
  | D :: Ds, w, h => ⟨by simp, .inl ⟨D, _, rfl, run_takeDeferred (St.objAt h), leaves_marksF hfin Ds _ (St.putO (.deferred none) h).tail⟩⟩

theorem retMF {fn : Func} {R : Ending → World → Prop} {C : World → Prop} {rs : List ResultVar} {vs : List Value} {L : List Atom} (Ds : List Nat) (hds : ds = Ds.map mark) (hr : fn.results = rs.toArray) (hv : resOf l rs = some vs)
    (hC : ∀ w, C w → St F w₀ (Ds.map defB ++ L) w) (h : ∀ w, St F w₀ L w → R (.returned (oneOf vs)) w) : ∀ a w, EnvD n ds l a → C w → bodyPostM Fence.wide 0 P fn R .ret a w := by
  intro a w he hc
  show LeavesInM Fence.wide 0 P fn a.tmps R a.defers .returning w
  rw [he.defers, hds]
  refine leaves_marksF (L := L) (fun w' hw' => ?_) Ds w (hC w hc)
  obtain ⟨_, v, h1, h2⟩ := (KN.ret (C := fun v => St F w₀ L v) hr hv h : KN P (Rets fn R P) [] n l (fun v => St F w₀ L v)).run _ w' he.env hw'
  exact ⟨v, h1, h2⟩
theorem retMCF {fn : Func} {R : Ending → World → Prop} {C : World → Prop} {rs : List ResultVar} {L : List Atom} (Ds : List Nat) (hds : ds = Ds.map mark) (hr : fn.results = rs.toArray)
    (hC : ∀ w, C w → St F w₀ (Ds.map defB ++ L) w) (h : ∀ w, St F w₀ L w → ∃ vs, ResAt P l w rs vs ∧ R (.returned (oneOf vs)) w) : ∀ a w, EnvD n ds l a → C w → bodyPostM Fence.wide 0 P fn R .ret a w := by
  intro a w he hc
  show LeavesInM Fence.wide 0 P fn a.tmps R a.defers .returning w
  rw [he.defers, hds]
  refine leaves_marksF (L := L) (fun w' hw' => ?_) Ds w (hC w hc)
  obtain ⟨_, v, h1, h2⟩ := (KN.retC (C := fun v => St F w₀ L v) hr h : KN P (Rets fn R P) [] n l (fun v => St F w₀ L v)).run _ w' he.env hw'
  exact ⟨v, h1, h2⟩
end
section
variable {P : Program} {Rx : Exit → Act → World → Prop} {k : List KI} {n : Nat} {ds : List Deferred} {l : List (Nat × Value)} {F : Nat → Prop} {w₀ : World} {A : List Atom}

theorem CWI.rangeFuncG {G GX X Y : Type} (LJ : Nat → G → List Atom) (pJ : Nat → G → Prop) (LX : Nat → GX → List Atom) (pX : Nat → GX → Prop) (jx : GX → Code) (g₀ : G) (LB LR : List Atom) (AA : Nat → X → Y → List Atom) (lbod : Nat → X → Y → List (Nat × Value))
    {g : Operand} {ps : Array Tmp} {assign body : Code} {gf : FuncId} {lb : List Value} {vals : Nat → X → List Value} {px : Nat → X → Prop} {VA : Nat → X → List Atom} {N : Nat}
    (hg : ev l g = some (.func (.func gf) #[] lb.toArray)) [hgf : Enters P gf] {H : World → Prop} (hit : IterF P F w₀ H gf lb LB vals px VA N) (hH : ∀ (g : G) (A : List Atom) (w : World), pJ 0 g → St F w₀ (LJ 0 g ++ A) w → H w)
    (is : List Nat) (hpick : picks A is = some (LJ 0 g₀ ++ (LB ++ LR))) (hp0 : pJ 0 g₀) (hps : ∀ i x, (vals i x).length = ps.size) (hpn : ∀ q ∈ ps.toList, q < n)
    (hassign : ∀ (lr i : Nat) (x : X) (B : List Atom), i < N → px i x → CWI P (some lr) (fun _ _ _ => False) [.lp (fun a w => ∃ y : Y, EnvD n [] (lbod i x y) a ∧ St F w₀ (AA i x y ++ B) w)] assign n [] (insAll l (ps.toList.zip (vals i x))) (St F w₀ B))
    (hbody : ∀ (lr : Nat) (T : Atom) (i : Nat) (g : G) (x : X) (y : Y), i < N → pJ i g → px i x → CWI P (some lr) (RPostF F w₀ T LJ pJ LX pX jx (i + 1)) [] body n [] (lbod i x y) (St F w₀ (AA i x y ++ (VA i x ++ (LJ i g ++ [T])))))
    (hdone : ∀ (D : Nat) (g : G), pJ N g → KNI P none Rx k n (mark D :: ds) l (St F w₀ (defB D :: (LJ N g ++ (LB ++ LR)))))
    (hstop : ∀ (D i : Nat) (g : GX), i < N → pX (i + 1) g → CWI P none Rx k (jx g) n (mark D :: ds) l (St F w₀ (defB D :: (LX (i + 1) g ++ (LB ++ LR))))) :
    CWI P none Rx k (.rangeFunc g ps assign body) n ds l (St F w₀ A) := by
  refine ⟨fun a w he hc => wpIn_rangeFunc (F := fw none) (fun fn _ => ?_)⟩
  obtain ⟨rec, hrec⟩ : ∃ rec : LoopState → Option Code → Loop, rec = fun st pe => { state := st, pending := pe, fn, tmps := a.tmps, params := ps, assign, body, defers := w.heap.size } := ⟨_, rfl⟩
  obtain ⟨w1, hw1⟩ : ∃ w1, (w.alloc (.deferred (some []))).alloc (.loop (rec .ready none)) = w1 := ⟨_, rfl⟩
  have hst : St F w₀ (objB (w.heap.size + 1) (.loop (rec .ready none)) :: defB w.heap.size :: (LJ 0 g₀ ++ (LB ++ LR))) w1 := by
    have h2 := ((hc.pick is hpick).allocO (.deferred (some []))).allocO (.loop (rec .ready none))
    rw [hw1, World.size_alloc] at h2
    exact h2
  let J : Nat → Atom := fun i => exA (fun g : { g : G // pJ i g } => starA (objB (w.heap.size + 1) (.loop (rec .ready none)) :: defB w.heap.size :: LJ i g.1))
  let Jx : Nat → Atom := fun i => exA (fun g : { g : GX // pX i g } => starA (objB (w.heap.size + 1) (.loop (rec .done (some (jx g.1)))) :: defB w.heap.size :: LX i g.1))
  have hY : YieldOKF P F w₀ (w.heap.size + 1) vals px VA N J Jx := by
    intro i hi x hpx A' w' hJ
    obtain ⟨⟨g, hgp⟩, hJ⟩ := St.exA.1 hJ
    have hJ := (St.star _).2 hJ
    have hl := St.objAt hJ
    have hy := run_yield (P := P) (args := (vals i x).toArray) hl (by rw [hrec]; simpa using hps i x)
    rw [hrec] at hy
    refine ⟨fn, _, assign, body, hy, roundIn_of_wpIn (F := Fence.wide) trivial ?_⟩
    have hz : (ps.zip (vals i x).toArray).foldl (fun tmps (x : Tmp × Value) => tmps.setIfInBounds x.1 x.2) a.tmps = (ps.toList.zip (vals i x)).foldl (fun t (pv : Nat × Value) => t.setIfInBounds pv.1 pv.2) a.tmps := by
      rw [← Array.foldl_toList, Array.toList_zip]
    have hen : EnvD n [] (insAll l (ps.toList.zip (vals i x))) { tmps := (ps.zip (vals i x).toArray).foldl (fun tmps (x : Tmp × Value) => tmps.setIfInBounds x.1 x.2) a.tmps, defers := [] } := by
      refine ⟨?_, rfl⟩
      have := Env.insAll (ps.toList.zip (vals i x)) he.env (fun pv hpv => hpn _ (List.of_mem_zip hpv).1)
      rw [hz]; exact this
    refine wpIn_mono ((hassign (w.heap.size + 1) i x _ hi hpx).run _ w' hen hJ) ?_
    intro e a1 w2 hk
    cases e with
    | normal =>
      obtain ⟨y, hea, hc2⟩ := hk
      have hc2 := St.perm (List.perm_middle (a := objB (w.heap.size + 1) (.loop (rec .ready none))) (l₁ := AA i x y)) hc2
      have hl2 := St.objAt hc2
      refine ⟨_, run_beginRound hl2 (by rw [hrec]), ?_⟩
      have hc3 := St.putO (.loop { rec .ready none with state := .busy }) hc2
      let T : Atom := starA (objB (w.heap.size + 1) (.loop { rec .ready none with state := .busy }) :: defB w.heap.size :: A')
      have hT : ∀ (X : List Atom) (v : World), St F w₀ (X ++ [T]) v ↔ St F w₀ (objB (w.heap.size + 1) (.loop { rec .ready none with state := .busy }) :: (defB w.heap.size :: X ++ A')) v := by
        intro X v
        refine ⟨fun h => St.perm ?_ (St.starLast.2 h), fun h => St.starLast.1 (St.perm ?_ h)⟩
        · refine List.perm_middle.trans (List.Perm.cons _ ?_)
          exact List.perm_middle
        · refine (List.Perm.trans (List.Perm.cons _ ?_) List.perm_middle.symm)
          exact List.perm_middle.symm
      have hperm : (objB (w.heap.size + 1) (.loop { rec .ready none with state := .busy }) :: (AA i x y ++ (defB w.heap.size :: (LJ i g ++ (VA i x ++ A'))))).Perm (objB (w.heap.size + 1) (.loop { rec .ready none with state := .busy }) :: (defB w.heap.size :: (AA i x y ++ (VA i x ++ LJ i g)) ++ A')) := by
        refine List.Perm.cons _ (List.perm_middle.trans (List.Perm.cons _ ?_))
        show (AA i x y ++ (LJ i g ++ (VA i x ++ A'))).Perm ((AA i x y ++ (VA i x ++ LJ i g)) ++ A')
        rw [List.append_assoc (AA i x y), ← List.append_assoc (LJ i g)]
        exact List.Perm.append_left _ (List.Perm.append_right A' List.perm_append_comm)
      have hb := (hbody (w.heap.size + 1) T i g x y hi hgp hpx).run a1 _ hea (by rw [← List.append_assoc (VA i x), ← List.append_assoc]; exact (hT (AA i x y ++ (VA i x ++ LJ i g)) _).2 (St.perm hperm hc3))
      refine wpIn_mono hb (fun e a3 w3 hk => ?_)
      have fin : ∀ (jump : Option Code) (X : List Atom), St F w₀ (X ++ [T]) w3 → ∃ v w', (Instr.endRound (w.heap.size + 1) jump).run P w3 = .ok v w' ∧ v = .bool jump.isNone ∧
          St F w₀ (starA (objB (w.heap.size + 1) (.loop (rec (if jump.isNone then .ready else .done) jump)) :: defB w.heap.size :: X) :: A') w' := by
        intro jump X h3
        have h4 := (hT _ _).1 h3
        have h5 := run_endRound (P := P) jump (St.objAt h4)
        refine ⟨_, _, h5, rfl, (St.star _).1 ?_⟩
        have h6 := St.putO (.loop { rec .ready none with state := if jump.isNone then .ready else .done, pending := jump }) h4
        rw [hrec] at h6 ⊢
        exact h6
      cases e with
      | normal =>
        obtain ⟨g', hp', hs'⟩ := hk
        obtain ⟨v, w', h5, rfl, h6⟩ := fin none _ hs'
        exact ⟨_, w', h5, true, rfl, St.exA.2 ⟨⟨g', hp'⟩, h6⟩⟩
      | ret =>
        obtain ⟨g', hp', hj, hs'⟩ := hk
        obtain ⟨v, w', h5, rfl, h6⟩ := fin (some .ret) _ hs'
        exact ⟨_, w', h5, false, rfl, St.exA.2 ⟨⟨g', hp'⟩, by rw [hj]; exact h6⟩⟩
      | exit id =>
        obtain ⟨g', hp', hj, hs'⟩ := hk
        obtain ⟨v, w', h5, rfl, h6⟩ := fin (some (.exit id)) _ hs'
        exact ⟨_, w', h5, false, rfl, St.exA.2 ⟨⟨g', hp'⟩, by rw [hj]; exact h6⟩⟩
      | goto t => exact hk.elim
      | panic c => exact hk.elim
      | outgrown => exact hk.elim
    | exit id => exact hk.elim
    | goto t => exact hk.elim
    | ret => exact hk.elim
    | panic c => exact hk.elim
    | outgrown => exact hk.elim
  refine ⟨w.heap.size + 1, [mark w.heap.size], w1, { target := .fn (.func gf) lb.toArray, args := #[.func (.yield (w.heap.size + 1)) #[] #[]] }, w1, gf, (.func (.yield (w.heap.size + 1)) #[] #[] :: lb).toArray, w1, ?_, ?_, fun _ _ => trivial, ?_, fun h => by simp [Fence.wide] at h, ?_⟩
  · rw [← hw1, hrec]; exact run_enterLoop_outer _ _ _ _ _
  · simp only [resolve, he.ev hg]
    simp [Deferred.ofValue, go_sem]
  · simp only [invoke]
    have : #[Value.func (.yield (w.heap.size + 1)) #[] #[]] ++ lb.toArray = (.func (.yield (w.heap.size + 1)) #[] #[] :: lb).toArray := by simp
    rw [this]
    exact hgf.run _ _
  · refine CallsIn.mono (F := fw none) ((callsIn_wide (n := 0)).2 (hit (w.heap.size + 1) J Jx (starA LR) w1 (fun A v h => by
      obtain ⟨⟨g, hgp⟩, h⟩ := St.exA.1 h
      exact hH g A v hgp ((St.star _).2 h).tail.tail) hY ?_)) ?_
    · refine (St.exA (f := fun g : { g : G // pJ 0 g } => starA (objB (w.heap.size + 1) (.loop (rec .ready none)) :: defB w.heap.size :: LJ 0 g.1))).2 ⟨⟨g₀, hp0⟩, ?_⟩
      exact (St.starLast (X := starA (objB (w.heap.size + 1) (.loop (rec .ready none)) :: defB w.heap.size :: LJ 0 g₀) :: LB)).1 ((St.star (objB (w.heap.size + 1) (.loop (rec .ready none)) :: defB w.heap.size :: LJ 0 g₀)).1 hst)
    · have hea : EnvD n (mark w.heap.size :: ds) l { a with defers := [mark w.heap.size] ++ a.defers } := ⟨he.env, by rw [he.defers]; rfl⟩
      rintro e w' ⟨v, rfl, h | ⟨i, hi, h⟩⟩
      · obtain ⟨⟨g, hgp⟩, h⟩ := St.exA.1 h
        have h := (St.star _).2 ((St.starLast (X := starA _ :: LB)).2 h)
        have hl := St.objAt h
        refine ⟨_, _, run_endLoop hl (by rw [hrec]; simp), ?_⟩
        have h2 := (St.putO (.loop { rec .ready none with state := .exhausted }) h).tail
        rw [hrec] at h2 ⊢
        exact (hdone _ g hgp).run _ _ hea h2
      · obtain ⟨⟨g, hgp⟩, h⟩ := St.exA.1 h
        have h := (St.star _).2 ((St.starLast (X := starA _ :: LB)).2 h)
        have hl := St.objAt h
        refine ⟨_, _, run_endLoop hl (by rw [hrec]; simp), ?_⟩
        have h2 := (St.putO (.loop { rec .done (some (jx g)) with state := .exhausted }) h).tail
        rw [hrec] at h2 ⊢
        exact (hstop _ i g hi hgp).run _ _ hea h2

end
end Go.Sx
end
section
/- Lists of numbers in memory, and what a slice of numbers that comes in gives a walk. No condition. -/
namespace Go.Sx
open Go Go.ChangeShapes Go.WideShapes

/-- The cells of a list of numbers. -/
def ints (k : IntKind) (l : List Int) : List Value := l.map (Value.int k)
def nats (k : IntKind) (l : List Nat) : List Value := l.map (fun x => Value.int k (x : Nat))
theorem nats_len {w : World} {A : Option Addr} {n : Nat} {k : IntKind} {l : List Nat} (h : Has (sl 1 A n (nats k l)) w) : l.length = n := by
  have := h.sl_len
  simpa [nats] using this
theorem nats_one (k : IntKind) (l : List Nat) : (nats k l).all (·.oneCell') = true := by
  simp [nats, Value.oneCell']
theorem intsAt {k : IntKind} {l : List Int} {i : Nat} (h : i < l.length) : (ints k l)[i]? = some (.int k (l.getD i 0)) := by
  simp [ints, h]
theorem natsAt {k : IntKind} {l : List Nat} {i : Nat} (h : i < l.length) : (nats k l)[i]? = some (.int k (l.getD i 0 : Nat)) := by
  simp [nats, h]
theorem Has.sl_take {w : World} {sz n : Nat} {A : Option Addr} {vs : List Value} (h : Has (sl sz A n vs) w) {q : Nat} (hq : q ≤ n) : Has (sl sz A q (vs.take (q * sz))) w := by
  obtain ⟨D, ⟨h1, h2⟩, h3⟩ := h
  refine ⟨D, ⟨?_, fun hn => ?_⟩, h3⟩
  · rw [List.length_take, h1]
    exact Nat.min_eq_left (Nat.mul_le_mul_right _ hq)
  · obtain ⟨k1, k2, k3⟩ := h2 (by omega)
    refine ⟨k1, k2, fun j v hj => ?_⟩
    rw [List.getElem?_take] at hj
    split at hj
    · exact k3 j v hj
    · cases hj

end Go.Sx
end
section
/- Entries: what they are, their rows in memory; stars of atoms. No condition. -/
namespace Go.Proofs.YtaamaifnmppbgaaDoor
open Go Go.Sx
set_option maxRecDepth 100000
/-- An entry: its key, whether it is dropped, where its data lies, what it is. -/
structure EntG where
  k : Int
  tr : Bool
  A : Option Addr
  c : Nat
  l : List Nat
def EntG.row (e : EntG) : List Value := [.int .i64 e.k, .bool e.tr, .slice e.A e.l.length e.c]
def EntG.agg (e : EntG) : Value := .agg #[.int .i64 e.k, .bool e.tr, .slice e.A e.l.length e.c]
def rowsE (es : List EntG) : List Value := es.flatMap EntG.row
def EntG.dat (e : EntG) : Atom := own 5 1 e.A e.l.length e.c (nats .u8 e.l)
def datsE (es : List EntG) : List Atom := es.map EntG.dat
/-- What an entry is, wherever it lies. -/
def EntG.abs (e : EntG) : Int × Bool × List Nat := (e.k, e.tr, e.l)
def absE (es : List EntG) : List (Int × Bool × List Nat) := es.map EntG.abs
theorem rowsE_at : ∀ {es : List EntG} {i : Nat} {e : EntG} {j : Nat} {v : Value}, es[i]? = some e → e.row[j]? = some v → (rowsE es)[i * 3 + j]? = some v
  | [], i, e, j, v, h, _ => by simp at h
  | e0 :: es, 0, e, j, v, h, hv => by
    obtain rfl : e0 = e := by simpa using h
    show (e0.row ++ rowsE es)[0 * 3 + j]? = _
    rw [Nat.zero_mul, Nat.zero_add, List.getElem?_append_left (List.getElem?_eq_some_iff.1 hv).1]
    exact hv
  | e0 :: es, i + 1, e, j, v, h, hv => by
    have ih := rowsE_at (es := es) (i := i) (by simpa using h) hv
    show (e0.row ++ rowsE es)[(i + 1) * 3 + j]? = _
    rw [List.getElem?_append_right (by show 3 ≤ _; omega), ← ih]
    congr 1
    show (i + 1) * 3 + j - 3 = _
    omega
theorem rowsE_app (a b : List EntG) : rowsE (a ++ b) = rowsE a ++ rowsE b := List.flatMap_append
/-- A row of entries that are read, loaded. -/
theorem _root_.Go.Sx.Has.entRow {A : Option Addr} {es : List EntG} {w : World} (h : Has (sl 3 A es.length (rowsE es)) w) {i : Nat} {e : EntG} (he : es[i]? = some e) : ∀ j v, e.row[j]? = some v → w.cell? ⟨ob A, oo A + i * 3 + j, none⟩ = some v := fun j v hj => by
  have hn : es.length ≠ 0 := fun h0 => by
    have := (List.getElem?_eq_some_iff.1 he).1
    omega
  have := (h.sl_cell hn (rowsE_at he hj)).2
  rw [Nat.add_assoc]
  exact this
theorem _root_.Go.Sx.Has.starM {X : List Atom} {A : Atom} {w : World} (h : Has (starA X) w) (hA : A ∈ X) : Has A w := by
  obtain ⟨D, h1, h2⟩ := h
  have key : ∀ (X : List Atom) (D : Nat → Prop), starOk X w D → (∀ k, D k → k < w.heap.size) → A ∈ X → Has A w := by
    intro X
    induction X with
    | nil => intro D _ _ hm; cases hm
    | cons B X ih =>
      rintro D ⟨D1, D2, k1, k2, k3, k4⟩ hlt hm
      rcases List.mem_cons.1 hm with rfl | hm
      · exact ⟨D1, k1, fun k hk => hlt k ((k3 k).2 (.inl hk))⟩
      · exact ih D2 k2 (fun k hk => hlt k ((k3 k).2 (.inr hk))) hm
  exact key X D h1 h2 hA
/-- Something that a buffer, or a model, is told. -/
structure DoG where
  e : EntG
  cl : Bool
def DoG.row (d : DoG) : List Value := d.e.row ++ [.bool d.cl]
def rowsD (ds : List DoG) : List Value := ds.flatMap DoG.row
theorem rowsD_at : ∀ {ds : List DoG} {i : Nat} {d : DoG} {j : Nat} {v : Value}, ds[i]? = some d → d.row[j]? = some v → (rowsD ds)[i * 4 + j]? = some v
  | [], i, d, j, v, h, _ => by simp at h
  | d0 :: ds, 0, d, j, v, h, hv => by
    obtain rfl : d0 = d := by simpa using h
    show (d0.row ++ rowsD ds)[0 * 4 + j]? = _
    rw [Nat.zero_mul, Nat.zero_add, List.getElem?_append_left (List.getElem?_eq_some_iff.1 hv).1]
    exact hv
  | d0 :: ds, i + 1, d, j, v, h, hv => by
    have ih := rowsD_at (ds := ds) (i := i) (by simpa using h) hv
    show (d0.row ++ rowsD ds)[(i + 1) * 4 + j]? = _
    rw [List.getElem?_append_right (by show 4 ≤ _; omega), ← ih]
    congr 1
    show (i + 1) * 4 + j - 4 = _
    omega
theorem _root_.Go.Sx.Has.doRow {A : Option Addr} {ds : List DoG} {w : World} (h : Has (sl 4 A ds.length (rowsD ds)) w) {i : Nat} {d : DoG} (hd : ds[i]? = some d) : ∀ j v, d.row[j]? = some v → w.cell? ⟨ob A, oo A + i * 4 + j, none⟩ = some v := fun j v hj => by
  have hn : ds.length ≠ 0 := fun h0 => by
    have := (List.getElem?_eq_some_iff.1 hd).1
    omega
  have := (h.sl_cell hn (rowsD_at hd hj)).2
  rw [Nat.add_assoc]
  exact this
end Go.Proofs.YtaamaifnmppbgaaDoor
end
section
/- Lists of bytes where they lie; a model of sectors: what it is, what it does, where it lies. No condition. -/
namespace Go.Proofs.YtaamaifnmppbgaaDoor
open Go Go.Sx
set_option maxRecDepth 100000
/-! ### What it does -/
abbrev Wt := Nat × List Nat
def frontL (t : List (List Nat)) (ws : List Wt) : List (List Nat) := ws.foldl (fun t e => t.set e.1 e.2) t
theorem frontL_len (t : List (List Nat)) : ∀ ws : List Wt, (frontL t ws).length = t.length := by
  intro ws
  induction ws generalizing t with
  | nil => rfl
  | cons e ws ih =>
    show (frontL (t.set e.1 e.2) ws).length = _
    rw [ih, List.length_set]
theorem frontL_snoc (t : List (List Nat)) (ws : List Wt) (e : Wt) : frontL t (ws ++ [e]) = (frontL t ws).set e.1 e.2 := by
  unfold frontL
  rw [List.foldl_append]
  rfl
/-- Where no entry has the key, what is there stays. -/
theorem frontL_none {t : List (List Nat)} {ws : List Wt} {k : Nat} (h : ∀ e ∈ ws, e.1 ≠ k) : (frontL t ws)[k]? = t[k]? := by
  induction ws generalizing t with
  | nil => rfl
  | cons e ws ih =>
    show (frontL (t.set e.1 e.2) ws)[k]? = _
    rw [ih (fun e he => h e (by simp [he])), List.getElem?_set, if_neg (h e (by simp))]
/-- The last one with the key tells. -/
theorem frontL_last {t : List (List Nat)} {ws us : List Wt} {k : Nat} {l : List Nat} (hk : k < t.length) (h : ∀ e ∈ us, e.1 ≠ k) : (frontL t (ws ++ (k, l) :: us))[k]? = some l := by
  have e1 : ws ++ (k, l) :: us = (ws ++ [(k, l)]) ++ us := by simp
  rw [e1]
  have e2 : frontL t ((ws ++ [(k, l)]) ++ us) = frontL (frontL t (ws ++ [(k, l)])) us := by
    unfold frontL
    rw [List.foldl_append]
  rw [e2, frontL_none h, frontL_snoc, List.getElem?_set, if_pos rfl, if_pos (by rw [frontL_len]; exact hk)]
/-! ### Where it lies -/
structure ByG where
  A : Option Addr
  c : Nat
  l : List Nat
def ByG.row (b : ByG) : List Value := [.slice b.A b.l.length b.c]
def ByG.dat (b : ByG) : Atom := own 5 1 b.A b.l.length b.c (nats .u8 b.l)
structure LsG where
  A : Option Addr
  c : Nat
  l : List ByG
def LsG.abs (q : LsG) : List (List Nat) := q.l.map (·.l)
def LsG.hdr (q : LsG) : Value := .slice q.A q.l.length q.c
def LsG.out (q : LsG) : Atom := own 31 1 q.A q.l.length q.c (q.l.flatMap ByG.row)
def LsG.star (q : LsG) : Atom := starA (q.l.map ByG.dat)
def LsG.nil : LsG := ⟨none, 0, []⟩
/-- An entry that waits. -/
structure WaG where
  k : Nat
  A : Option Addr
  c : Nat
  l : List Nat
def WaG.row (e : WaG) : List Value := [.int .i64 (e.k : Nat), .slice e.A e.l.length e.c]
def WaG.dat (e : WaG) : Atom := own 5 1 e.A e.l.length e.c (nats .u8 e.l)
def WaG.abs (e : WaG) : Wt := (e.k, e.l)
structure WsG where
  A : Option Addr
  c : Nat
  l : List WaG
def WsG.abs (q : WsG) : List Wt := q.l.map WaG.abs
def WsG.hdr (q : WsG) : Value := .slice q.A q.l.length q.c
def WsG.out (q : WsG) : Atom := own 65 2 q.A q.l.length q.c (q.l.flatMap WaG.row)
def WsG.star (q : WsG) : Atom := starA (q.l.map WaG.dat)
def WsG.nil : WsG := ⟨none, 0, []⟩
structure MdG where
  size : Nat
  th : LsG
  wa : WsG
def MdG.cells (x : MdG) : Array Value := #[.int .i64 (x.size : Nat), x.th.hdr, x.wa.hdr]
def MdG.hd (m : Nat) (x : MdG) : Atom := blk m 61 x.cells
def MdG.parts (m : Nat) (x : MdG) : List Atom := [x.hd m, x.th.out, x.th.star, x.wa.out, x.wa.star]
def modelA (m : Nat) (x : MdG) : Atom := starA (x.parts m)
/-- A model that is whole. -/
structure MdG.Ok (x : MdG) : Prop where
  s1 : 1 ≤ x.size
  s2 : x.size ≤ 1024
  n1 : 1 ≤ x.th.l.length
  n2 : x.th.l.length ≤ 40
  th : ∀ b ∈ x.th.l, b.l.length = x.size ∧ ∀ v ∈ b.l, v < 256
  wn : x.wa.l.length ≤ 100
  wc : x.wa.l.length ≤ x.wa.c
  wa : ∀ e ∈ x.wa.l, e.k < x.th.l.length ∧ e.l.length = x.size ∧ ∀ v ∈ e.l, v < 256
theorem byRow_len (b : ByG) : b.row.length = 1 := rfl
theorem waRow_len (e : WaG) : e.row.length = 2 := rfl
theorem waRow_one (e : WaG) : e.row.all (·.oneCell') = true := rfl
theorem LsG.abs_len (q : LsG) : q.abs.length = q.l.length := List.length_map ..
theorem WsG.abs_len (q : WsG) : q.abs.length = q.l.length := List.length_map ..
/-- A row that is read. -/
theorem _root_.Go.Sx.Has.rowAt {α : Type} {row : α → List Value} {k : Nat} (hk : ∀ a, (row a).length = k) {A : Option Addr} {n : Nat} {l : List α} {w : World} (h : Has (sl k A n (l.flatMap row)) w) {i : Nat} {a : α} (ha : l[i]? = some a) (hn : n ≠ 0) : ∀ j v, (row a)[j]? = some v → w.cell? ⟨ob A, oo A + i * k + j, none⟩ = some v := fun j v hj => by
  rw [Nat.add_assoc]
  exact (h.sl_cell hn (flat_at hk ha hj)).2
theorem _root_.Go.Sx.St.starPut {A A' : Atom} {X : List Atom} {i : Nat} {F : Nat → Prop} {w₀ w : World} {L : List Atom} (hi : X[i]? = some A) (h : St F w₀ (starA X :: A' :: L) w) : St F w₀ (starA (X.set i A') :: L) w := by
  have h1 := (h.focus hi).tail
  have h2 : St F w₀ (A' :: starA (X.eraseIdx i) :: L) w := h1.perm (List.Perm.swap ..)
  exact h2.unfocus (List.getElem?_eq_some_iff.1 hi).1
section
variable {F : Nat → Prop} {w₀ w : World} {L : List Atom} {m : Nat} {x : MdG}
theorem _root_.Go.Sx.St.mdO (h : St F w₀ (modelA m x :: L) w) : St F w₀ (x.hd m :: x.th.out :: x.th.star :: x.wa.out :: x.wa.star :: L) w := h.open_
theorem _root_.Go.Sx.St.mdC (h : St F w₀ (x.hd m :: x.th.out :: x.th.star :: x.wa.out :: x.wa.star :: L) w) : St F w₀ (modelA m x :: L) w := St.close_ (x.parts m) h
theorem md_cell (h : Has (modelA m x) w) {j : Nat} {v : Value} (hj : x.cells[j]? = some v) : w.cell? ⟨m, j, none⟩ = some v := (h.starM (A := x.hd m) (by simp [MdG.parts])).cellB hj
theorem md_th (h : Has (modelA m x) w) : Has (sl 1 x.th.A x.th.l.length (x.th.l.flatMap ByG.row)) w := (h.starM (A := x.th.out) (by simp [MdG.parts])).of_own
theorem md_wa (h : Has (modelA m x) w) : Has (sl 2 x.wa.A x.wa.l.length (x.wa.l.flatMap WaG.row)) w := (h.starM (A := x.wa.out) (by simp [MdG.parts])).of_own
theorem ls_dat {q : LsG} (h : Has q.star w) {b : ByG} (hb : b ∈ q.l) : Has (sl 1 b.A b.l.length (nats .u8 b.l)) w := (h.starM (A := b.dat) (List.mem_map_of_mem hb)).of_own
theorem ws_dat {q : WsG} (h : Has q.star w) {e : WaG} (he : e ∈ q.l) : Has (sl 1 e.A e.l.length (nats .u8 e.l)) w := (h.starM (A := e.dat) (List.mem_map_of_mem he)).of_own
end
end Go.Proofs.YtaamaifnmppbgaaDoor
end
section
/- A model settles; the document's model: plain, and where it lies. No condition. -/
namespace Go.Proofs.YtaamaifnmppbgaaDoor
open Go Go.Sx
set_option maxRecDepth 100000
/-- How many of what waits make these sectors: the first such number. -/
def settleN (t : List (List Nat)) (ws : List Wt) (l : List (List Nat)) : Option Nat := (List.range (ws.length + 1)).find? (fun n => decide (frontL t (ws.take n) = l))
theorem find_range {p : Nat → Bool} {n k : Nat} (hk : k < n) (hp : p k = true) (hj : ∀ j, j < k → p j = false) : (List.range n).find? p = some k := by
  induction n generalizing k p with
  | zero => omega
  | succ n ih =>
    rw [List.range_succ_eq_map, List.find?_cons]
    cases k with
    | zero => rw [hp]
    | succ k =>
      rw [hj 0 (by omega), List.find?_map]
      simp only [Function.comp_def]
      rw [ih (k := k) (by omega) hp (fun j hj2 => hj (j + 1) (by omega))]
      rfl
theorem settle_some {t : List (List Nat)} {ws : List Wt} {l : List (List Nat)} {n : Nat} (hn : n ≤ ws.length) (h : frontL t (ws.take n) = l) (hj : ∀ j, j < n → frontL t (ws.take j) ≠ l) : settleN t ws l = some n :=
  find_range (by omega) (decide_eq_true h) (fun j h2 => decide_eq_false (hj j h2))
theorem settle_none {t : List (List Nat)} {ws : List Wt} {l : List (List Nat)} (hj : ∀ j, j ≤ ws.length → frontL t (ws.take j) ≠ l) : settleN t ws l = none := by
  unfold settleN
  rw [List.find?_eq_none]
  intro n hn
  rw [List.mem_range] at hn
  have := hj n (by omega)
  simpa using this
theorem settle_is {t : List (List Nat)} {ws : List Wt} {l : List (List Nat)} {n : Nat} (h : settleN t ws l = some n) : n ≤ ws.length ∧ frontL t (ws.take n) = l ∧ ∀ j, j < n → frontL t (ws.take j) ≠ l := by
  unfold settleN at h
  have h1 := List.find?_some h
  have h2 := List.mem_of_find?_eq_some h
  rw [List.mem_range] at h2
  refine ⟨by omega, of_decide_eq_true h1, fun j hj he => ?_⟩
  obtain ⟨m, hm⟩ : ∃ m, m ≤ j ∧ frontL t (ws.take m) = l ∧ ∀ i, i < m → frontL t (ws.take i) ≠ l := by
    have key : ∀ j, frontL t (ws.take j) = l → ∃ m, m ≤ j ∧ frontL t (ws.take m) = l ∧ ∀ i, i < m → frontL t (ws.take i) ≠ l := by
      intro j
      induction j using Nat.strongRecOn with
      | _ j ih =>
        intro he
        by_cases hx : ∃ i, i < j ∧ frontL t (ws.take i) = l
        · obtain ⟨i, hi, hie⟩ := hx
          obtain ⟨m, h4, h5⟩ := ih i hi hie
          exact ⟨m, by omega, h5⟩
        · exact ⟨j, Nat.le_refl _, he, fun i hi hie => hx ⟨i, hi, hie⟩⟩
    exact key j he
  have h4 := settle_some (by omega) hm.2.1 hm.2.2
  unfold settleN at h4
  rw [h] at h4
  have := Option.some.inj h4
  omega
/-- A front that is told settles. -/
theorem settle_front {t : List (List Nat)} {ws : List Wt} {k : Nat} (hk : k ≤ ws.length) : ∃ n, settleN t ws (frontL t (ws.take k)) = some n ∧ n ≤ k := by
  cases h : settleN t ws (frontL t (ws.take k)) with
  | none =>
    exfalso
    unfold settleN at h
    rw [List.find?_eq_none] at h
    exact h k (List.mem_range.2 (by omega)) (by simp)
  | some n =>
    refine ⟨n, rfl, ?_⟩
    rcases Nat.lt_or_ge k n with hlt | hge
    · exact absurd rfl ((settle_is h).2.2 k hlt)
    · exact hge
/-- What is read: the last that waits, or what is there. -/
theorem read_wait {t : List (List Nat)} {ws : List Wt} {i : Nat} {e : Wt} (hi : ws[i]? = some e) (hk : e.1 < t.length) (hj : ∀ (j : Nat) (e2 : Wt), i < j → ws[j]? = some e2 → e2.1 ≠ e.1) : (frontL t ws)[e.1]? = some e.2 := by
  have e1 : ws = ws.take i ++ (e.1, e.2) :: ws.drop (i + 1) := by
    conv => lhs; rw [← List.take_append_drop i ws]
    congr 1
    obtain ⟨h1, h2⟩ := List.getElem?_eq_some_iff.1 hi
    rw [List.drop_eq_getElem_cons h1, h2]
  rw [e1]
  refine frontL_last hk (fun u hu => ?_)
  obtain ⟨j, hj2⟩ := List.getElem?_of_mem hu
  rw [List.getElem?_drop] at hj2
  exact hj (i + 1 + j) u (by omega) hj2
theorem read_there {t : List (List Nat)} {ws : List Wt} {k : Nat} (hj : ∀ (j : Nat) (e : Wt), ws[j]? = some e → e.1 ≠ k) : (frontL t ws)[k]? = t[k]? :=
  frontL_none (fun e he => by
    obtain ⟨j, hj2⟩ := List.getElem?_of_mem he
    exact hj j e hj2)
theorem front_take_succ {t : List (List Nat)} {ws : List Wt} {i : Nat} {e : Wt} (hi : ws[i]? = some e) : frontL t (ws.take (i + 1)) = (frontL t (ws.take i)).set e.1 e.2 := by
  rw [List.take_add_one, hi]
  exact frontL_snoc _ _ _
/-! ### The document's model -/
structure DmG where
  size : Nat
  th : LsG
  A : Option Addr
  c : Nat
  es : List EntG
def absW (z : Nat) (e : EntG) : Wt := (e.k.toNat, if e.tr then List.replicate z 0 else e.l)
def DmG.waits (x : DmG) : List Wt := x.es.map (absW x.size)
def DmG.cells (x : DmG) : Array Value := #[.int .i64 (x.size : Nat), x.th.hdr, .slice x.A x.es.length x.c]
def DmG.hd (m : Nat) (x : DmG) : Atom := blk m 40 x.cells
def DmG.wao (x : DmG) : Atom := own 33 3 x.A x.es.length x.c (rowsE x.es)
def DmG.was (x : DmG) : Atom := starA (datsE x.es)
def DmG.parts (m : Nat) (x : DmG) : List Atom := [x.hd m, x.th.out, x.th.star, x.wao, x.was]
def dmA (m : Nat) (x : DmG) : Atom := starA (x.parts m)
structure DmG.Ok (x : DmG) : Prop where
  s1 : 1 ≤ x.size
  s2 : x.size ≤ 1024
  n1 : 1 ≤ x.th.l.length
  n2 : x.th.l.length ≤ 40
  th : ∀ b ∈ x.th.l, b.l.length = x.size ∧ ∀ v ∈ b.l, v < 256
  wn : x.es.length ≤ 100
  wa : ∀ e ∈ x.es, 0 ≤ e.k ∧ e.k < x.th.l.length ∧ e.l.length ≤ 2000 ∧ (e.tr = false → e.l.length = x.size) ∧ ∀ v ∈ e.l, v < 256
section
variable {F : Nat → Prop} {w₀ w : World} {L : List Atom} {m : Nat} {x : DmG}
theorem _root_.Go.Sx.St.dmO (h : St F w₀ (dmA m x :: L) w) : St F w₀ (x.hd m :: x.th.out :: x.th.star :: x.wao :: x.was :: L) w := h.open_
theorem _root_.Go.Sx.St.dmC (h : St F w₀ (x.hd m :: x.th.out :: x.th.star :: x.wao :: x.was :: L) w) : St F w₀ (dmA m x :: L) w := St.close_ (x.parts m) h
theorem dm_cell (h : Has (dmA m x) w) {j : Nat} {v : Value} (hj : x.cells[j]? = some v) : w.cell? ⟨m, j, none⟩ = some v := (h.starM (A := x.hd m) (by simp [DmG.parts])).cellB hj
theorem dm_th (h : Has (dmA m x) w) : Has (sl 1 x.th.A x.th.l.length (x.th.l.flatMap ByG.row)) w := (h.starM (A := x.th.out) (by simp [DmG.parts])).of_own
theorem dm_wa (h : Has (dmA m x) w) : Has (sl 3 x.A x.es.length (rowsE x.es)) w := (h.starM (A := x.wao) (by simp [DmG.parts])).of_own
end
end Go.Proofs.YtaamaifnmppbgaaDoor
end
