/- The symbolic walk: environments of live slots, a plan for each region, posts on a stack: lemmas over any program. No condition. -/
import Derived.OrdersHeld
import Derived.WalkKit
namespace Go.Sx
open Go

/-! ### Slots -/
theorem beq_ne {k t : Nat} (h : k ≠ t) : Nat.beq k t = false := by
  cases hb : Nat.beq k t with
  | false => rfl
  | true => exact absurd (Nat.eq_of_beq_eq_true hb) h
def lk (t : Nat) : List (Nat × Value) → Option Value
  | [] => none
  | (k, v) :: r => bif Nat.beq k t then some v else lk t r

def ins (d : Nat) (v : Value) (l : List (Nat × Value)) : List (Nat × Value) := (d, v) :: l

theorem lk_ins (t d : Nat) (v : Value) (l : List (Nat × Value)) : lk t (ins d v l) = if t = d then some v else lk t l := by
  unfold ins lk
  by_cases h : t = d
  · subst h; simp
  · simp only [beq_ne (Ne.symm h), if_neg h, cond_false]
    cases l <;> rfl

def insO : Option Nat → Value → List (Nat × Value) → List (Nat × Value)
  | some d, v, l => ins d v l
  | none, _, l => l

structure Env (n : Nat) (l : List (Nat × Value)) (a : Act) : Prop where
  size : a.tmps.size = n
  defers : a.defers = []
  at_ : ∀ t v, lk t l = some v → a.tmps[t]? = some v

def ev (l : List (Nat × Value)) : Operand → Option Value
  | .tmp t => lk t l
  | .const v => some v
  | .global g => some (.pointer (some ⟨g, 0, none⟩))
  | .func f => some (.func (.func f) #[] #[])

def evs (l : List (Nat × Value)) : List Operand → Option (List Value)
  | [] => some []
  | x :: r => match ev l x, evs l r with
    | some v, some vs => some (v :: vs)
    | _, _ => none

theorem Env.ev {n : Nat} {l : List (Nat × Value)} {a : Act} (h : Env n l a) {x : Operand} {v : Value} (hx : ev l x = some v) : a.eval x = v := by
  cases x with
  | tmp t => have := h.at_ t v hx; simp [Act.eval, Array.getD_eq_getD_getElem?, this]
  | const u => simpa [Sx.ev, Act.eval] using hx
  | global g => simpa [Sx.ev, Act.eval] using hx
  | func f => simpa [Sx.ev, Act.eval] using hx

theorem Env.evs {n : Nat} {l : List (Nat × Value)} {a : Act} (h : Env n l a) : ∀ {xs : List Operand} {vs : List Value}, evs l xs = some vs → xs.map a.eval = vs
  | [], vs, hx => by simp [Sx.evs] at hx; subst hx; rfl
  | x :: r, vs, hx => by
    unfold Sx.evs at hx
    cases h1 : Sx.ev l x with
    | none => simp [h1] at hx
    | some v =>
      cases h2 : Sx.evs l r with
      | none => simp [h1, h2] at hx
      | some us =>
        simp [h1, h2] at hx
        subst hx
        simp [h.ev h1, h.evs h2]

theorem Env.put {n : Nat} {l : List (Nat × Value)} {a : Act} (h : Env n l a) {d : Nat} (hd : d < n) (v : Value) : Env n (ins d v l) (a.put (some d) v) := by
  refine ⟨by simp [Act.put, h.size], by simp [Act.put, h.defers], fun t u ht => ?_⟩
  rw [lk_ins] at ht
  simp only [Act.put, Array.getElem?_setIfInBounds]
  by_cases e : t = d
  · subst e
    have : t < a.tmps.size := by rw [h.size]; exact hd
    simp at ht
    simp [this, ht]
  · rw [if_neg e] at ht
    rw [if_neg (Ne.symm e)]
    exact h.at_ t u ht

def okD (n : Nat) : Option Nat → Bool
  | some d => Nat.blt d n
  | none => true

theorem Env.putO {n : Nat} {l : List (Nat × Value)} {a : Act} (h : Env n l a) : ∀ {d : Option Nat}, okD n d = true → ∀ v, Env n (insO d v l) (a.put d v)
  | some _, hd, v => h.put (Nat.le_of_ble_eq_true hd) v
  | none, _, _ => h

def Sub (l' l : List (Nat × Value)) : Prop := ∀ t v, lk t l' = some v → lk t l = some v
def SubL : List (Nat × Value) → List (Nat × Value) → Prop
  | [], _ => True
  | (t, v) :: r, l => lk t l = some v ∧ SubL r l
theorem SubL.sub : ∀ {l' l : List (Nat × Value)}, SubL l' l → Sub l' l
  | [], _, _ => fun t v h => by simp [lk] at h
  | (k, u) :: r, l, h => fun t v ht => by
    unfold lk at ht
    by_cases e : Nat.beq k t = true
    · rw [e] at ht
      simp only [cond_true, Option.some.injEq] at ht
      subst ht
      have : k = t := Nat.eq_of_beq_eq_true e
      subst this
      exact h.1
    · rw [beq_ne (fun h => e (by rw [h]; exact Nat.beq_refl t))] at ht
      exact SubL.sub h.2 t v ht
theorem Env.sub {n : Nat} {l l' : List (Nat × Value)} {a : Act} (h : Env n l a) (hs : Sub l' l) : Env n l' a := ⟨h.size, h.defers, fun t v ht => h.at_ t v (hs t v ht)⟩

/-! ### A region by a plan -/
inductive Plan where
  | done
  | st (fl : Bool) (i : Nat) (p : Plan)
  | alt (i : Nat) (p q : Plan)

def NoExit : Exit → Act → World → Prop := fun _ _ _ => False

section
variable (P : Program) (ops : Array Oper) (S : World → Prop) (K : Act → World → Prop)

def PW : Plan → Act → World → Prop
  | .done, a, w => K a w
  | .st fl i p, a, w => match ops[i]? with
    | none => False
    | some o => if Region.wanted o (yielded ops a.tmps) = true then
        (match fl with
         | true => ∃ v, (∀ w', S w' → (execOp a.eval o).run P w' = .ok (.value v) w') ∧ PW p (a.put o.dst v) w
         | false => o.wp P a w (fun a' w' => S w' ∧ PW p a' w') NoExit)
      else PW p (a.put o.dst undef) w
  | .alt i p q, a, w => (match ops[i]? with
    | none => False
    | some o => if Region.wanted o (yielded ops a.tmps) = true then o.wp P a w (fun a' w' => S w' ∧ PW p a' w') NoExit
      else PW p (a.put o.dst undef) w) ∧ PW q a w
end

def seqPlan (i : Nat) : Nat → Plan
  | 0 => .done
  | k + 1 => .st false i (seqPlan (i + 1) k)

/-- A plan without choices. -/
def sp : List Nat → Plan
  | [] => .done
  | i :: r => .st false i (sp r)

/-- The plan fits the region: 'rs': what is left of those that may come up. -/
def planOk (ops : Array Oper) : Plan → Nat → Array Bool → Option (List Nat) → Bool
  | .done, _, listed, rs => rs.isNone && (Region.ready .any ops listed).isEmpty
  | .st true i p, fuel + 1, listed, rs => rs.isNone && (Region.ready .any ops listed).contains i && Region.free .any ops listed i && planOk ops p fuel (listed.setIfInBounds i true) none
  | .st false i p, fuel + 1, listed, rs => (rs.getD (Region.ready .any ops listed) == [i]) && planOk ops p fuel (listed.setIfInBounds i true) none
  | .alt i p q, fuel + 1, listed, rs => planOk ops p fuel (listed.setIfInBounds i true) none && planOk ops q (fuel + 1) listed (some ((rs.getD (Region.ready .any ops listed)).filter (· != i)))
  | _, 0, _, _ => false

def NoExitN (K : Act → World → Prop) : Exit → Act → World → Prop
  | .normal, a, w => K a w
  | _, _, _ => False

theorem Oper.wp_post {P : Program} {o : Oper} {a : Act} {w : World} {K : Act → World → Prop} {Q : Exit → Act → World → Prop} (h : o.wp P a w K NoExit) : o.wp P a w K Q := by
  unfold Oper.wp at *
  generalize (execOp a.eval o).run P w = r at *
  cases r with
  | ok n w' =>
    cases n <;> simp only [Oper.upon, NoExit] at h ⊢ <;> first
      | exact h
      | exact Calls.mono h (fun e w'' he => by cases e <;> first | exact he | exact he.elim | (obtain ⟨_, _, hf⟩ := he; exact hf.elim))
  | halt x w' => cases x <;> simp only [Oper.upon, NoExit] at h ⊢

theorem plan_sound {P : Program} {ops : Array Oper} {S : World → Prop} {K : Act → World → Prop} (hs : Region.noSelect ops = true) :
    ∀ (p : Plan) (fuel : Nat) (listed : Array Bool) (rs : Option (List Nat)) (a : Act) (w : World), planOk ops p fuel listed rs = true → S w → PW P ops S K p a w →
      (rs = none → wpAnyH P .any ops (NoExitN K) S fuel listed a w) ∧
      (∀ l, rs = some l → ∃ f, fuel = f + 1 ∧ ∀ i ∈ l, wpOp P ops (NoExitN K) i (fun a' w' => S w' ∧ wpAnyH P .any ops (NoExitN K) S f (listed.setIfInBounds i true) a' w') a w) := by
  have key : ∀ (i : Nat) (p : Plan) (f : Nat) (listed : Array Bool) (a : Act) (w : World), (∀ a w, S w → PW P ops S K p a w → wpAnyH P .any ops (NoExitN K) S f (listed.setIfInBounds i true) a w) → S w →
      (match ops[i]? with
        | none => False
        | some o => if Region.wanted o (yielded ops a.tmps) = true then o.wp P a w (fun a' w' => S w' ∧ PW P ops S K p a' w') NoExit else PW P ops S K p (a.put o.dst undef) w) →
      wpOp P ops (NoExitN K) i (fun a' w' => S w' ∧ wpAnyH P .any ops (NoExitN K) S f (listed.setIfInBounds i true) a' w') a w := by
    intro i p f listed a w hp hS h
    unfold wpOp
    cases ho : ops[i]? with
    | none => rw [ho] at h; exact h.elim
    | some o =>
      rw [ho] at h
      dsimp only at h ⊢
      by_cases hw : Region.wanted o (yielded ops a.tmps) = true
      · rw [if_pos hw] at h ⊢
        exact .inl (Oper.wp_post (Oper.wp_mono (fun a' w' ⟨h1, h2⟩ => ⟨h1, hp a' w' h1 h2⟩) h))
      · rw [if_neg hw] at h ⊢
        exact ⟨hS, hp _ _ hS h⟩
  intro p
  induction p with
  | done =>
    intro fuel listed rs a w hok hS h
    simp only [planOk, Bool.and_eq_true, List.isEmpty_iff, Option.isNone_iff_eq_none] at hok
    obtain ⟨h1, h2⟩ := hok
    subst h1
    exact ⟨fun _ => wpAnyH_done h2 h fuel, fun l hl => by cases hl⟩
  | st fl i p ih =>
    intro fuel listed rs a w hok hS h
    cases fuel with
    | zero => cases fl <;> simp [planOk] at hok
    | succ f =>
      cases fl with
      | true =>
        simp only [planOk, Bool.and_eq_true, Option.isNone_iff_eq_none] at hok
        obtain ⟨⟨⟨h1, h2⟩, h3⟩, h4⟩ := hok
        subst h1
        refine ⟨fun _ => ?_, fun l hl => by cases hl⟩
        unfold PW at h
        split at h
        · exact h.elim
        · rename_i o ho
          split at h
          · rename_i hw
            obtain ⟨v, hv, hn⟩ := h
            exact wpAnyH_take ho hs h3 h2 (fun c a w hf => hf) (.inl ⟨hw, hv⟩) hS ((ih f _ none _ w h4 hS hn).1 rfl)
          · rename_i hw
            exact wpAnyH_take ho hs h3 h2 (fun c a w hf => hf) (.inr ⟨by simpa using hw, rfl⟩) hS ((ih f _ none _ w h4 hS h).1 rfl)
      | false =>
        simp only [planOk, Bool.and_eq_true, beq_iff_eq] at hok
        obtain ⟨h1, h2⟩ := hok
        have hk := key i p f listed a w (fun a w hS' h' => (ih f _ none a w h2 hS' h').1 rfl) hS (by unfold PW at h; exact h)
        constructor
        · rintro rfl
          exact wpAnyH_all (rs := [i]) h1 (by simp) (fun j hj => by simp at hj; subst hj; exact hk)
        · rintro l rfl
          simp only [Option.getD_some] at h1
          subst h1
          exact ⟨f, rfl, fun j hj => by simp at hj; subst hj; exact hk⟩
  | alt i p q ihp ihq =>
    intro fuel listed rs a w hok hS h
    cases fuel with
    | zero => simp [planOk] at hok
    | succ f =>
      simp only [planOk, Bool.and_eq_true] at hok
      obtain ⟨h1, h2⟩ := hok
      unfold PW at h
      obtain ⟨ha, hb⟩ := h
      have hk := key i p f listed a w (fun a w hS' h' => (ihp f _ none a w h1 hS' h').1 rfl) hS ha
      obtain ⟨f', ef, hq⟩ := (ihq (f + 1) listed _ a w h2 hS hb).2 _ rfl
      obtain rfl : f = f' := by omega
      have hall : ∀ j ∈ rs.getD (Region.ready .any ops listed), wpOp P ops (NoExitN K) j (fun a' w' => S w' ∧ wpAnyH P .any ops (NoExitN K) S f (listed.setIfInBounds j true) a' w') a w := by
        intro j hj
        by_cases e : j = i
        · subst e; exact hk
        · exact hq j (by simp [hj, e])
      constructor
      · rintro rfl
        refine ⟨fun h0 => ?_, hall⟩
        exfalso
        simp only [Option.getD_none] at hq h2
        rw [h0] at h2
        have : ∀ (q : Plan) , planOk ops q (f + 1) listed (some []) = false := by
          intro q
          induction q with
          | done => simp [planOk]
          | st fl i p _ => cases fl <;> simp [planOk]
          | alt i p q _ ih => simp only [planOk, Option.getD_some, List.filter_nil, ih, Bool.and_false]
        simp [this] at h2
      · rintro l rfl
        exact ⟨f, rfl, hall⟩

theorem wp_planned {P : Program} {id : Nat} {ops : Array Oper} {S : World → Prop} {K : Act → World → Prop} {a : Act} {w : World} (p : Plan) (hm : P.follows .mixedOrders = true)
    (hok : (Region.noSelect ops && planOk ops p ops.size (Array.replicate ops.size false) none) = true) (hS : S w.drew) (h : PW P ops S K p a w.drew) : (Code.region id ops true).wp P (NoExitN K) a w := by
  rw [Bool.and_eq_true] at hok
  exact wp_region_held hm ((plan_sound hok.1 p _ _ none a w.drew hok.2 hS h).1 rfl)

theorem wp_straight {P : Program} {id : Nat} {ops : Array Oper} {S : World → Prop} {K : Act → World → Prop} {a : Act} {w : World}
    (h : PW P ops S K (seqPlan 0 ops.size) a w) : (Code.region id ops false).wp P (NoExitN K) a w := by
  have key : ∀ (k i : Nat) (a : Act) (w : World), PW P ops S K (seqPlan i k) a w → wpOps P ops (NoExitN K) (List.range' i k) a w := by
    intro k
    induction k with
    | zero => intro i a w h; simpa [seqPlan, PW, wpOps, NoExitN] using h
    | succ k ih =>
      intro i a w h
      simp only [seqPlan, PW] at h
      simp only [List.range'_succ, wpOps]
      split at h
      · exact h.elim
      · rename_i o ho
        rw [ho]
        split at h
        · rename_i hw
          simp only [hw, if_true]
          exact .inl (Oper.wp_post (Oper.wp_mono (fun a' w' ⟨_, h2⟩ => ih _ a' w' h2) h))
        · rename_i hw
          simp only [hw]
          exact ih _ _ _ h
  refine wp_region ?_
  rw [List.range_eq_range']
  exact key ops.size 0 a w h

/-! ### The walk of a region: the operation's head -/
def wantB (ops : Array Oper) (l : List (Nat × Value)) : Option (Nat × Bool) → Bool
  | none => true
  | some (j, want) => match (ops[j]?).bind (·.dst) with
    | some d => match lk d l with
      | some (.bool b) => b == want
      | _ => false
    | none => false

/-- Operation number 'i' is to be carried out, and what it is. -/
def opAt (ops : Array Oper) (n : Nat) (l : List (Nat × Value)) (i : Nat) : Option (Option Nat × Op × TypeId) :=
  match ops[i]? with
  | some o => bif wantB ops l o.guard && okD n o.dst then some (o.dst, o.op, o.type) else none
  | none => none

/-- Operation number 'i' is not to be carried out. -/
def opSkip (ops : Array Oper) (n : Nat) (l : List (Nat × Value)) (i : Nat) : Option (Option Nat) :=
  match ops[i]? with
  | some o => match o.guard with
    | some (j, want) => bif wantB ops l (some (j, !want)) && okD n o.dst then some o.dst else none
    | none => none
  | none => none

theorem wanted_of {ops : Array Oper} {n : Nat} {l : List (Nat × Value)} {a : Act} (h : Env n l a) {o : Oper} (hw : wantB ops l o.guard = true) : Region.wanted o (yielded ops a.tmps) = true := by
  unfold Region.wanted
  cases hg : o.guard with
  | none => rfl
  | some p =>
    obtain ⟨j, want⟩ := p
    rw [hg] at hw
    simp only [wantB] at hw
    split at hw
    · rename_i d hd
      split at hw
      · rename_i b hb
        have h2 : ((ops[j]?.bind fun x => x.dst).bind fun x => a.tmps[x]?) = some (Value.bool b) := by rw [hd]; exact h.at_ _ _ hb
        have h3 : yielded ops a.tmps j = some b := by simp only [yielded, h2]
        simp only [h3]
        simpa using hw
      · cases hw
    · cases hw

theorem wanted_not {ops : Array Oper} {n : Nat} {l : List (Nat × Value)} {a : Act} (h : Env n l a) {o : Oper} {j : Nat} {want : Bool} (hg : o.guard = some (j, want)) (hw : wantB ops l (some (j, !want)) = true) :
    Region.wanted o (yielded ops a.tmps) = false := by
  unfold Region.wanted
  rw [hg]
  simp only [wantB] at hw
  split at hw
  · rename_i d hd
    split at hw
    · rename_i b hb
      have h2 : ((ops[j]?.bind fun x => x.dst).bind fun x => a.tmps[x]?) = some (Value.bool b) := by rw [hd]; exact h.at_ _ _ hb
      have h3 : yielded ops a.tmps j = some b := by simp only [yielded, h2]
      simp only [h3]
      cases want <;> cases b <;> simp_all
    · cases hw
  · cases hw

structure SX (P : Program) (ops : Array Oper) (S : World → Prop) (K : Act → World → Prop) (p : Plan) (n : Nat) (l : List (Nat × Value)) (C : World → Prop) : Prop where
  run : ∀ a w, Env n l a → C w → S w → PW P ops S K p a w

section
variable {P : Program} {ops : Array Oper} {S : World → Prop} {K : Act → World → Prop} {p q : Plan} {n : Nat} {l : List (Nat × Value)} {C C' : World → Prop}

theorem SX.done (h : ∀ a w, Env n l a → C w → K a w) : SX P ops S K .done n l C := ⟨fun a w he hc _ => h a w he hc⟩

/-- An operation that yields 'v' in every world of the region's class (or of C, if it does not come up first) and changes nothing. -/
theorem SX.val {fl : Bool} {i : Nat} {d : Option Nat} {op : Op} {ty : TypeId} {v : Value} (ho : opAt ops n l i = some (d, op, ty))
    (hrun : ∀ a w (o : Oper), Env n l a → (fl = true → S w) → (fl = false → C w) → o.op = op → o.type = ty → (execOp a.eval o).run P w = .ok (.value v) w)
    (h : SX P ops S K p n (insO d v l) C) : SX P ops S K (.st fl i p) n l C := by
  refine ⟨fun a w he hc hs => ?_⟩
  unfold opAt at ho
  split at ho
  · rename_i o hoi
    by_cases hb : (wantB ops l o.guard && okD n o.dst) = true
    · rw [hb] at ho
      simp only [cond_true, Option.some.injEq, Prod.mk.injEq] at ho
      obtain ⟨rfl, rfl, rfl⟩ := ho
      rw [Bool.and_eq_true] at hb
      have hn := h.run _ w (he.putO hb.2 v) hc hs
      simp only [PW, hoi, wanted_of he hb.1, if_true]
      cases fl with
      | true => exact ⟨v, fun w' hw' => hrun a w' o he (fun _ => hw') (by simp) rfl rfl, hn⟩
      | false =>
        simp only [Oper.wp, hrun a w o he (by simp) (fun _ => hc) rfl rfl, Oper.upon_value]
        exact ⟨hs, hn⟩
    · have : (wantB ops l o.guard && okD n o.dst) = false := by simpa using hb
      rw [this] at ho
      cases ho
  · cases ho

/-- The same, the operation looking at no world. -/
theorem SX.pure {fl : Bool} {i : Nat} {d : Option Nat} {op : Op} {ty : TypeId} {v : Value} (ho : opAt ops n l i = some (d, op, ty))
    (hrun : ∀ a w (o : Oper), Env n l a → o.op = op → o.type = ty → (execOp a.eval o).run P w = .ok (.value v) w)
    (h : SX P ops S K p n (insO d v l) C) : SX P ops S K (.st fl i p) n l C :=
  SX.val ho (fun a w o he _ _ h1 h2 => hrun a w o he h1 h2) h

/-- An operation whose guard does not want it. -/
theorem SX.skip {fl : Bool} {i : Nat} {d : Option Nat} (ho : opSkip ops n l i = some d) (h : SX P ops S K p n (insO d undef l) C) : SX P ops S K (.st fl i p) n l C := by
  refine ⟨fun a w he hc hs => ?_⟩
  unfold opSkip at ho
  split at ho
  · rename_i o hoi
    split at ho
    · rename_i j want hg
      by_cases hb : (wantB ops l (some (j, !want)) && okD n o.dst) = true
      · rw [hb] at ho
        simp only [cond_true, Option.some.injEq] at ho
        subst ho
        rw [Bool.and_eq_true] at hb
        have hn := h.run _ w (he.putO hb.2 undef) hc hs
        simp only [PW, hoi, wanted_not he hg hb.1]
        simpa using hn
      · have : (wantB ops l (some (j, !want)) && okD n o.dst) = false := by simpa using hb
        rw [this] at ho
        cases ho
    · cases ho
  · cases ho

/-- An operation that yields a value, or nothing, and may turn the world. -/
theorem SX.act {i : Nat} {d : Option Nat} {op : Op} {ty : TypeId} {X : Type} {v : X → Value} {C' : X → World → Prop} (ho : opAt ops n l i = some (d, op, ty))
    (hrun : ∀ a w (o : Oper), Env n l a → C w → o.op = op → o.type = ty → ∃ x w', ((execOp a.eval o).run P w = .ok (.value (v x)) w' ∨ (execOp a.eval o).run P w = .ok .skip w' ∧ v x = undef) ∧ C' x w')
    (hS : ∀ x w, C' x w → S w)
    (h : ∀ x, SX P ops S K p n (insO d (v x) l) (C' x)) : SX P ops S K (.st false i p) n l C := by
  refine ⟨fun a w he hc _ => ?_⟩
  unfold opAt at ho
  split at ho
  · rename_i o hoi
    by_cases hb : (wantB ops l o.guard && okD n o.dst) = true
    · rw [hb] at ho
      simp only [cond_true, Option.some.injEq, Prod.mk.injEq] at ho
      obtain ⟨rfl, rfl, rfl⟩ := ho
      rw [Bool.and_eq_true] at hb
      obtain ⟨x, w', hr, hc'⟩ := hrun a w o he hc rfl rfl
      have hn := (h x).run _ w' (he.putO hb.2 (v x)) hc' (hS x w' hc')
      simp only [PW, hoi, wanted_of he hb.1, if_true]
      rcases hr with hr | ⟨hr, hu⟩
      · simp only [Oper.wp, hr, Oper.upon_value]; exact ⟨hS x w' hc', hn⟩
      · simp only [Oper.wp, hr, Oper.upon_skip]; rw [← hu]; exact ⟨hS x w' hc', hn⟩
    · have : (wantB ops l o.guard && okD n o.dst) = false := by simpa using hb
      rw [this] at ho
      cases ho
  · cases ho

/-- Of two that may come up next the one is carried out; or the other. -/
theorem SX.alt {i : Nat} (h1 : SX P ops S K (.st false i p) n l C) (h2 : SX P ops S K q n l C) : SX P ops S K (.alt i p q) n l C :=
  ⟨fun a w he hc hs => ⟨by have := h1.run a w he hc hs; unfold PW at this; exact this, h2.run a w he hc hs⟩⟩

theorem SX.weaken {l' : List (Nat × Value)} (hl : SubL l' l) (hC : ∀ w, C w → C' w) (h : SX P ops S K p n l' C') : SX P ops S K p n l C :=
  ⟨fun a w he hc hs => h.run a w (he.sub hl.sub) (hC w hc) hs⟩

theorem SX.inC (h : ∀ w, C w → SX P ops S K p n l C) : SX P ops S K p n l C := ⟨fun a w he hc hs => (h w hc).run a w he hc hs⟩

/-- What is known of the world that holds of no world's own parts is brought out. -/
theorem SX.fact {F : Prop} (hF : ∀ w, C w → F) (h : F → SX P ops S K p n l C) : SX P ops S K p n l C := ⟨fun a w he hc hs => (h (hF w hc)).run a w he hc hs⟩

/-- A slot's truth value is parted. -/
theorem SX.bool (t : Nat) {b : Bool} (ht : lk t l = some (.bool b)) (h1 : b = true → SX P ops S K p n (ins t (.bool true) l) C) (h2 : b = false → SX P ops S K p n (ins t (.bool false) l) C) : SX P ops S K p n l C := by
  refine ⟨fun a w he hc hs => ?_⟩
  have key : ∀ u, lk t l = some u → Env n (ins t u l) a := fun u hu => ⟨he.size, he.defers, fun s v hv => by
    rw [lk_ins] at hv
    by_cases e : s = t
    · subst e; simp at hv; subst hv; exact he.at_ _ _ hu
    · rw [if_neg e] at hv; exact he.at_ _ _ hv⟩
  cases b with
  | true => exact (h1 rfl).run a w (key _ ht) hc hs
  | false => exact (h2 rfl).run a w (key _ ht) hc hs
end

/-! ### Code, and what stands behind it -/
inductive KI where
  | code (c : Code)
  | blk (id : Nat)
  | lp (I : Act → World → Prop)

def Kt (P : Program) (R : Act → World → Prop) : List KI → Exit → Act → World → Prop
  | [] => fun e a w => match e with
    | .normal | .ret => R a w
    | _ => False
  | .code y :: k => fun e a w => match e with
    | .normal => y.wp P (Kt P R k) a w
    | e => Kt P R k e a w
  | .blk id :: k => fun e a w => match e with
    | .exit id' => if id' = id then Kt P R k .normal a w else Kt P R k (.exit id') a w
    | e => Kt P R k e a w
  | .lp I :: k => fun e a w => match e with
    | .normal => I a w
    | e => Kt P R k e a w

theorem Kt_ret {P : Program} {R : Act → World → Prop} : ∀ (k : List KI) {a : Act} {w : World}, R a w → Kt P R k .ret a w
  | [], _, _, h => h
  | .code _ :: k, _, _, h => Kt_ret k h
  | .blk _ :: k, _, _, h => Kt_ret k h
  | .lp _ :: k, _, _, h => Kt_ret k h

def popTo (id : Nat) : List KI → Option (List KI)
  | [] => none
  | .blk i :: k => bif Nat.beq i id then some k else popTo id k
  | .code _ :: k => popTo id k
  | .lp _ :: k => popTo id k

theorem Kt_exit {P : Program} {R : Act → World → Prop} {id : Nat} : ∀ {k k' : List KI} {a : Act} {w : World}, popTo id k = some k' → Kt P R k' .normal a w → Kt P R k (.exit id) a w
  | [], _, _, _, h, _ => by simp [popTo] at h
  | .blk i :: k, k', a, w, h, hk => by
    unfold popTo at h
    simp only [Kt]
    by_cases e : i = id
    · subst e
      simp at h
      subst h
      simpa using hk
    · have h1 : Nat.beq i id = false := beq_ne e
      rw [h1] at h
      rw [if_neg (Ne.symm e)]
      exact Kt_exit (k := k) h hk
  | .code _ :: k, _, _, _, h, hk => Kt_exit (k := k) h hk
  | .lp _ :: k, _, _, _, h, hk => Kt_exit (k := k) h hk

structure CW (P : Program) (R : Act → World → Prop) (k : List KI) (c : Code) (n : Nat) (l : List (Nat × Value)) (C : World → Prop) : Prop where
  run : ∀ a w, Env n l a → C w → c.wp P (Kt P R k) a w

/-- What is asked behind a piece of code. -/
structure KN (P : Program) (R : Act → World → Prop) (k : List KI) (n : Nat) (l : List (Nat × Value)) (C : World → Prop) : Prop where
  run : ∀ a w, Env n l a → C w → Kt P R k .normal a w

section
variable {P : Program} {R : Act → World → Prop} {k : List KI} {n : Nat} {l l' : List (Nat × Value)} {C C' : World → Prop} {c x y : Code}

theorem CW.seq (h : CW P R (.code y :: k) x n l C) : CW P R k (.seq x y) n l C :=
  ⟨fun a w he hc => wp_seq (wp_mono (h.run a w he hc) (fun e a w hk => by cases e <;> exact hk))⟩
theorem CW.block {id : Nat} (h : CW P R (.blk id :: k) c n l C) : CW P R k (.block id c) n l C :=
  ⟨fun a w he hc => wp_block (wp_mono (h.run a w he hc) (fun e a w hk => by cases e <;> exact hk))⟩
theorem CW.skip (h : KN P R k n l C) : CW P R k .skip n l C := ⟨fun a w he hc => wp_skip (h.run a w he hc)⟩
theorem CW.label {i : Nat} (h : KN P R k n l C) : CW P R k (.label i) n l C := ⟨fun a w he hc => wp_label (h.run a w he hc)⟩
theorem CW.ret (h : KN P R [] n l C) : CW P R k .ret n l C := ⟨fun a w he hc => wp_ret (Kt_ret k (h.run a w he hc))⟩
theorem CW.exit {id : Nat} {k' : List KI} (hp : popTo id k = some k') (h : KN P R k' n l C) : CW P R k (.exit id) n l C :=
  ⟨fun a w he hc => wp_exit (Kt_exit hp (h.run a w he hc))⟩
theorem CW.cond {o : Operand} {b : Bool} (ho : ev l o = some (.bool b)) (h1 : b = true → CW P R k x n l C) (h2 : b = false → CW P R k y n l C) : CW P R k (.cond o x y) n l C :=
  ⟨fun a w he hc => wp_cond_split (he.ev ho) (fun e => (h1 e).run a w he hc) (fun e => (h2 e).run a w he hc)⟩
theorem CW.condT {o : Operand} (ho : ev l o = some (.bool true)) (h1 : CW P R k x n l C) : CW P R k (.cond o x y) n l C :=
  CW.cond ho (fun _ => h1) (fun e => by cases e)
theorem CW.condF {o : Operand} (ho : ev l o = some (.bool false)) (h1 : CW P R k y n l C) : CW P R k (.cond o x y) n l C :=
  CW.cond ho (fun e => by cases e) (fun _ => h1)
/-- A test on a proposition. -/
theorem CW.test {o : Operand} {p : Prop} [Decidable p] (ho : ev l o = some (.bool (decide p))) (h1 : p → CW P R k x n l C) (h2 : ¬ p → CW P R k y n l C) : CW P R k (.cond o x y) n l C :=
  CW.cond ho (fun e => h1 (of_decide_eq_true e)) (fun e => h2 (of_decide_eq_false e))
theorem CW.weaken (l' : List (Nat × Value)) (C' : World → Prop) (hl : SubL l' l) (hC : ∀ w, C w → C' w) (h : CW P R k c n l' C') : CW P R k c n l C :=
  ⟨fun a w he hc => h.run a w (he.sub hl.sub) (hC w hc)⟩
theorem CW.fact {F : Prop} (hF : ∀ w, C w → F) (h : F → CW P R k c n l C) : CW P R k c n l C := ⟨fun a w he hc => (h (hF w hc)).run a w he hc⟩
theorem CW.ex {X : Type} {C' : X → World → Prop} (hC : ∀ w, C w → ∃ x, C' x w) (h : ∀ x, CW P R k c n l (C' x)) : CW P R k c n l C :=
  ⟨fun _ w he hc => let ⟨x, hx⟩ := hC w hc; (h x).run _ w he hx⟩

theorem KN.code (h : CW P R k y n l C) : KN P R (.code y :: k) n l C := ⟨fun a w he hc => h.run a w he hc⟩
theorem KN.blk {id : Nat} (h : KN P R k n l C) : KN P R (.blk id :: k) n l C := ⟨fun a w he hc => h.run a w he hc⟩
theorem KN.weaken (l' : List (Nat × Value)) (C' : World → Prop) (hl : SubL l' l) (hC : ∀ w, C w → C' w) (h : KN P R k n l' C') : KN P R k n l C :=
  ⟨fun a w he hc => h.run a w (he.sub hl.sub) (hC w hc)⟩
theorem KN.fact {F : Prop} (hF : ∀ w, C w → F) (h : F → KN P R k n l C) : KN P R k n l C := ⟨fun a w he hc => (h (hF w hc)).run a w he hc⟩

/-- A loop: 'G': the states of the rounds. -/
theorem wp_loop_ghost {G : Type} {Q : Exit → Act → World → Prop} (I : G → Act → World → Prop) (μ : G → Nat)
    (round : ∀ g a w, I g a w → c.wp P (Exit.then (fun a' w' => ∃ g', I g' a' w' ∧ μ g' < μ g) Q) a w) (g₀ : G) {a : Act} {w : World} (h₀ : I g₀ a w) : (Code.loop c).wp P Q a w := by
  intro b k cs
  have key : ∀ (m : Nat) (g : G) (a : Act) (w : World), μ g = m → I g a w → ∃ e a' w', Q e a' w' ∧ Arrives P (lone (b.at a (.code c :: .inLoop c :: k)) cs w) b k cs e a' w' := by
    intro m
    induction m using Nat.strongRecOn with
    | _ m ih =>
      intro g a w hm hI
      obtain ⟨e, a₁, w₁, hq, harr⟩ := round g a w hI b (.inLoop c :: k) cs
      cases e with
      | normal =>
        obtain ⟨g', hI', hlt⟩ := hq
        obtain ⟨e₂, a₂, w₂, hq₂, harr₂⟩ := ih (μ g') (hm ▸ hlt) g' a₁ w₁ rfl hI'
        exact ⟨e₂, a₂, w₂, hq₂, .of_steps (Steps.trans harr (.one step_inLoop)) harr₂⟩
      | exit id => exact ⟨_, a₁, w₁, hq, .pass (x := .inLoop c) rfl (fun _ _ => .inl (by simp)) harr⟩
      | goto l => exact ⟨_, a₁, w₁, hq, .pass (x := .inLoop c) rfl (fun _ _ => .inl (by simp)) harr⟩
      | ret => exact ⟨_, a₁, w₁, hq, .pass (x := .inLoop c) rfl (fun _ _ => .inl (by simp)) harr⟩
      | panic ch => exact ⟨_, a₁, w₁, hq, .pass (x := .inLoop c) rfl (fun _ _ => .inl (by simp)) harr⟩
      | outgrown => exact ⟨_, a₁, w₁, hq, .pass (x := .inLoop c) rfl (fun _ _ => .inl (by simp)) harr⟩
  obtain ⟨e, a', w', hq, harr⟩ := key _ g₀ a w rfl h₀
  exact ⟨e, a', w', hq, .of_steps (.one step_loop) harr⟩

structure Back {G : Type} (n : Nat) (lf : G → List (Nat × Value)) (Cf : G → World → Prop) (pf : G → Prop) (μ : G → Nat) (m : Nat) (a : Act) (w : World) : Prop where
  back : ∃ g', (Env n (lf g') a ∧ Cf g' w ∧ pf g') ∧ μ g' < m

theorem CW.loop {G : Type} (lf : G → List (Nat × Value)) (Cf : G → World → Prop) (pf : G → Prop) (μ : G → Nat) (g₀ : G) (hl : SubL (lf g₀) l) (hC : ∀ w, C w → Cf g₀ w) (hp : pf g₀)
    (hr : ∀ g, pf g → CW P R (.lp (Back n lf Cf pf μ (μ g)) :: k) c n (lf g) (Cf g)) : CW P R k (.loop c) n l C := by
  refine ⟨fun a w he hc => ?_⟩
  refine wp_loop_ghost (fun g a w => Env n (lf g) a ∧ Cf g w ∧ pf g) μ (fun g a w hg => ?_) g₀ ⟨he.sub hl.sub, hC w hc, hp⟩
  exact wp_mono ((hr g hg.2.2).run a w hg.1 hg.2.1) (fun e a' w' hk => by cases e <;> first | exact hk | exact hk.back)

/-- The round's end. -/
theorem KN.back {G : Type} {lf : G → List (Nat × Value)} {Cf : G → World → Prop} {pf : G → Prop} {μ : G → Nat} {m : Nat} (g' : G) (hl : SubL (lf g') l) (hC : ∀ w, C w → Cf g' w) (hp : pf g') (hm : μ g' < m) :
    KN P R (.lp (Back n lf Cf pf μ m) :: k) n l C := ⟨fun _ w he hc => ⟨g', ⟨he.sub hl.sub, hC w hc, hp⟩, hm⟩⟩

/-- What holds where ways meet. -/
structure Join {G : Type} (n : Nat) (lf : G → List (Nat × Value)) (Cf : G → World → Prop) (pf : G → Prop) (a : Act) (w : World) : Prop where
  join : ∃ g, Env n (lf g) a ∧ Cf g w ∧ pf g
theorem CW.cut {G : Type} (lf : G → List (Nat × Value)) (Cf : G → World → Prop) (pf : G → Prop) (hx : CW P R (.lp (Join n lf Cf pf) :: k) x n l C) (hy : ∀ g, pf g → CW P R k y n (lf g) (Cf g)) : CW P R k (.seq x y) n l C :=
  ⟨fun a w he hc => wp_seq (wp_mono (hx.run a w he hc) (fun e a w hk => by
    cases e <;> first | exact hk | (obtain ⟨g, h1, h2, h3⟩ := hk.join; exact (hy g h3).run a w h1 h2)))⟩
theorem KN.join {G : Type} {lf : G → List (Nat × Value)} {Cf : G → World → Prop} {pf : G → Prop} (g : G) (hl : SubL (lf g) l) (hC : ∀ w, C w → Cf g w) (hp : pf g) : KN P R (.lp (Join n lf Cf pf) :: k) n l C :=
  ⟨fun _ w he hc => ⟨g, he.sub hl.sub, hC w hc, hp⟩⟩

/-! ### Regions in code -/
theorem CW.reg {id : Nat} {ops : Array Oper} (is : List Nat) (hi : sp is = seqPlan 0 ops.size) (h : SX P ops (fun _ => True) (Kt P R k .normal) (sp is) n l C) : CW P R k (.region id ops false) n l C :=
  ⟨fun a w he hc => wp_mono (wp_straight (by rw [← hi]; exact h.run a w he hc trivial)) (fun e a w hk => by cases e <;> first | exact hk | exact hk.elim)⟩
/-- A region that draws its order, by a plan. -/
theorem CW.regD {id : Nat} {ops : Array Oper} (p : Plan) (S : World → Prop) (hm : P.follows .mixedOrders = true) (hok : (Region.noSelect ops && planOk ops p ops.size (Array.replicate ops.size false) none) = true)
    (hd : ∀ w, C w → C w.drew) (hS : ∀ w, C w → S w) (h : SX P ops S (Kt P R k .normal) p n l C) : CW P R k (.region id ops true) n l C :=
  ⟨fun a w he hc => wp_mono (wp_planned p hm hok (hS _ (hd w hc)) (h.run a w.drew he (hd w hc) (hS _ (hd w hc)))) (fun e a w hk => by cases e <;> first | exact hk | exact hk.elim)⟩
theorem SX.end_ {ops : Array Oper} {S : World → Prop} (h : KN P R k n l C) : SX P ops S (Kt P R k .normal) .done n l C := SX.done h.run
theorem SX.next {ops : Array Oper} {S : World → Prop} (h : CW P R k y n l C) : SX P ops S (Kt P R (.code y :: k) .normal) .done n l C := SX.done h.run

/-! ### A function -/
def argEnv (i : Nat) : List Value → List (Nat × Value)
  | [] => []
  | v :: r => (i, v) :: argEnv (i + 1) r

theorem lk_argEnv : ∀ (vs : List Value) (i t : Nat) (v : Value), lk t (argEnv i vs) = some v → i ≤ t ∧ vs[t - i]? = some v
  | [], _, _, _, h => by simp [argEnv, lk] at h
  | u :: r, i, t, v, h => by
    unfold argEnv lk at h
    by_cases e : i = t
    · subst e
      simp at h
      subst h
      simp
    · have h1 : Nat.beq i t = false := beq_ne e
      rw [h1] at h
      obtain ⟨h2, h3⟩ := lk_argEnv r (i + 1) t v h
      refine ⟨by omega, ?_⟩
      have : t - i = (t - (i + 1)) + 1 := by omega
      rw [this, List.getElem?_cons_succ]
      exact h3

/-- What the results' slots hold. -/
def resOf (l : List (Nat × Value)) : List ResultVar → Option (List Value)
  | [] => some []
  | .tmp t :: r => match lk t l, resOf l r with
    | some v, some vs => some (v :: vs)
    | _, _ => none
  | .cell _ _ :: _ => none

def resVal (a : Act) : ResultVar → Sem Value
  | .tmp t => Pure.pure (a.tmps.getD t undef)
  | .cell b t => do loadVar t (← asAddr (a.tmps.getD b undef))

theorem resOf_run {P : Program} {n : Nat} {l : List (Nat × Value)} {a : Act} {w : World} (he : Env n l a) : ∀ (rs : List ResultVar) (vs : List Value), resOf l rs = some vs →
    (rs.mapM (resVal a)).run P w = .ok vs w
  | [], vs, h => by simp [resOf] at h; subst h; rfl
  | .tmp t :: r, vs, h => by
    unfold resOf at h
    split at h
    · rename_i v us h1 h2
      simp at h
      subst h
      have ih := resOf_run (P := P) (w := w) he r us h2
      have hv : a.tmps.getD t undef = v := he.ev (x := .tmp t) h1
      simp only [List.mapM_cons, resVal, hv, Sem.run_bind, ih, Sem.run_pure, Result.andThen_ok]
    · cases h
  | .cell _ _ :: _, vs, h => by simp [resOf] at h

def oneOf : List Value → Value
  | [v] => v
  | vs => .tuple vs.toArray

structure Rets (fn : Func) (R : Ending → World → Prop) (P : Program) (a : Act) (w : World) : Prop where
  out : a.defers = [] ∧ ∃ v, (results fn a.tmps).run P w = .ok v w ∧ R (.returned v) w

theorem KN.ret {fn : Func} {R : Ending → World → Prop} {rs : List ResultVar} {vs : List Value} (hr : fn.results = rs.toArray) (hv : resOf l rs = some vs) (h : ∀ w, C w → R (.returned (oneOf vs)) w) : KN P (Rets fn R P) [] n l C := by
  refine ⟨fun a w he hc => ⟨he.defers, _, ?_, h w hc⟩⟩
  have h1 := resOf_run (P := P) (w := w) he rs vs hv
  have h2 : results fn a.tmps = (do let vs ← fn.results.mapM (resVal a); Pure.pure (if h : vs.size = 1 then vs[0] else .tuple vs)) := by
    unfold results
    congr 1
  rw [h2, hr, List.mapM_toArray]
  simp only [Sem.run_bind, Sem.run_map, h1, Sem.run_pure, Result.andThen_ok]
  congr 1
  match vs with
  | [] => rfl
  | [v] => rfl
  | u :: v :: r =>
    rw [dif_neg (by simp)]
    rfl

theorem calls_of {f : FuncId} {fn : Func} {args : List Value} {w : World} {R : Ending → World → Prop} (hf : P.funcs[f]? = some fn) (hb : fn.body = some c) (hn : fn.ntmps = n) (hlen : Nat.ble args.length n = true)
    (h : CW P (Rets fn R P) [] c n (argEnv 0 args) (fun w' => w' = w)) : Calls P f args.toArray w R := by
  replace hlen : args.length ≤ n := Nat.le_of_ble_eq_true hlen
  refine calls_of_wp hf hb ?_
  refine wp_mono (h.run _ w ⟨by simp [hn]; omega, rfl, fun t v ht => ?_⟩ rfl) ?_
  · obtain ⟨_, h2⟩ := lk_argEnv args 0 t v ht
    simp only [Nat.sub_zero] at h2
    have hlt : t < args.length := by
      rcases Nat.lt_or_ge t args.length with h | h
      · exact h
      · rw [List.getElem?_eq_none h] at h2; cases h2
    rw [List.getElem?_eq_getElem hlt, Option.some.injEq] at h2
    simp [Array.getElem?_append, hlt, h2]
  · intro e a w hk
    cases e with
    | normal => exact hk.out
    | ret => exact hk.out
    | _ => exact hk.elim
end
end Go.Sx
