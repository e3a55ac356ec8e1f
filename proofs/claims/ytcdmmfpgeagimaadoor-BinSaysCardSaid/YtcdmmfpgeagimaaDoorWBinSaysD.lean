/- The walk of the statement BinSays, text 4. Conditions: each theorem tells its own. -/
import Derived.Test.YtcdmmfpgeagimaaDoorWBinSaysC
import Derived.Test.YtcdmmfpgeagimaaDoorWBinSaysA
import Derived.OrdersIn
import Derived.RangeFuncLeaves
import Derived.RangeFuncRecord
import Derived.Test.YtcdmmfpgeagimaaDoorWBinSaysB
section
/- Range over a function, part 1: the symbolic walk with calls of yield, in a round's frame and out of it: operations and regions. No condition. -/
namespace Go.Sx
open Go

/-- The wide fence, with what makes the frame. -/
abbrev fw (ro : Option Nat) : Fence := { Fence.wide with round := ro }

/-- What an operation's outcome asks, yield's rounds among them. -/
def upI (P : Program) (o : Oper) (a : Act) (K : Act → World → Prop) : Result Next → Prop
  | .ok (.value v) w' => K (a.put o.dst v) w'
  | .ok .skip w' => K (a.put o.dst undef) w'
  | .ok (.enter f args) w' => Calls P f args w' fun e w'' => ∃ v, e = .returned v ∧ K (a.put o.dst v) w''
  | .ok (.row row args) w' => Rows P row args w' fun v w'' => K (a.put o.dst v) w''
  | .ok (.round l f tmps assign body) w' => RoundIn Fence.wide 0 P l f tmps assign body w' fun e w'' => ∃ v, e = .returned v ∧ K (a.put o.dst v) w''
  | _ => False
def OpI (P : Program) (o : Oper) (a : Act) (w : World) (K : Act → World → Prop) : Prop := upI P o a K ((execOp a.eval o).run P w)

theorem upI_mono {P : Program} {o : Oper} {a : Act} {K K' : Act → World → Prop} (hK : ∀ a w, K a w → K' a w) {r : Result Next} (h : upI P o a K r) : upI P o a K' r := by
  cases r with
  | ok x w' =>
    cases x <;> simp only [upI] at h ⊢
    case value => exact hK _ _ h
    case skip => exact hK _ _ h
    case enter => exact Calls.mono h (fun e w ⟨v, he, hk⟩ => ⟨v, he, hK _ _ hk⟩)
    case row => exact Rows.mono h (fun v w hk => hK _ _ hk)
    case round => exact RoundIn.mono h (fun e w ⟨v, he, hk⟩ => ⟨v, he, hK _ _ hk⟩)
  | halt x w' => simp only [upI] at h

/-- In whatever frame: an operation that is no defer statement. -/
theorem OpI.wpIn {P : Program} {ro : Option Nat} {o : Oper} {a : Act} {w : World} {K : Act → World → Prop} {Q : Exit → Act → World → Prop} (hnd : ∀ c, o.op ≠ .defer c) (h : OpI P o a w K) : o.wpIn (fw ro) 0 P a w K Q := by
  refine ⟨fun _ _ => trivial, ?_⟩
  show o.uponIn (fw ro) 0 P a K Q ((o.semAt ro a.eval).run P w)
  rw [Oper.semAt_eq ro _ _ hnd]
  unfold OpI at h
  generalize (execOp a.eval o).run P w = r at *
  have hd : ∀ {p : Prop}, ((fw ro).depth.isSome = true → p) := fun h => by simp [Fence.wide] at h
  cases r with
  | ok x w' =>
    cases x <;> simp only [upI] at h
    case value => exact h
    case skip => exact h
    case enter f args =>
      refine ⟨hd, ?_⟩
      have h2 : CallsIn Fence.wide 0 P f args w' _ := callsIn_wide.2 h
      exact CallsIn.mono (F := fw ro) h2 (fun e w ⟨v, he, hk⟩ => by subst he; exact hk)
    case row row args =>
      refine ⟨hd, fun c cs _ => ?_⟩
      obtain ⟨v, w'', hk, hs⟩ := h c cs
      exact ⟨v, w'', hk, stepsIn_wide.2 hs⟩
    case round l f tmps assign body =>
      refine ⟨hd, ?_⟩
      exact RoundIn.mono (F := fw ro) h (fun e w ⟨v, he, hk⟩ => by subst he; exact hk)
  | halt x w' => simp only [upI] at h

/-- Of an operation of the plain walk. -/
theorem OpI.of_wp {P : Program} {o : Oper} {a : Act} {w : World} {K K' : Act → World → Prop} (ds : List Deferred) (h : o.wp P { a with defers := [] } w K' NoExit)
    (hK : ∀ a' w', K' a' w' → a'.defers = [] ∧ K { a' with defers := ds } w') (hds : a.defers = ds) : OpI P o a w K := by
  have hp : ∀ v : Value, { ({ a with defers := [] } : Act).put o.dst v with defers := ds } = a.put o.dst v := fun v => by
    subst hds; cases o.dst <;> rfl
  unfold Oper.wp at h
  unfold OpI
  have he : ({ a with defers := [] } : Act).eval = a.eval := by funext x; cases x <;> rfl
  rw [he] at h
  generalize (execOp a.eval o).run P w = r at *
  cases r with
  | ok x w' =>
    cases x <;> simp only [Oper.upon] at h <;> simp only [upI]
    case value v => have := (hK _ _ h).2; rwa [hp] at this
    case skip => have := (hK _ _ h).2; rwa [hp] at this
    case defer d => have := (hK _ _ h).1; cases hd : o.dst <;> simp [Act.put, hd] at this
    case enter f args =>
      refine Calls.mono h (fun e w'' he => ?_)
      cases e with
      | returned v => have := (hK _ _ he).2; rw [hp] at this; exact ⟨v, rfl, this⟩
      | panicked c => exact he.elim
      | outgrown => obtain ⟨_, _, hf⟩ := he; exact hf.elim
    case row row args => exact Rows.mono h (fun v w'' he => by have := (hK _ _ he).2; rwa [hp] at this)
  | halt x w' => cases x <;> simp only [Oper.upon, NoExit] at h

section
variable (P : Program) (ops : Array Oper) (S : World → Prop) (K : Act → World → Prop)
/-- Number i is carried out, or passed over. -/
def opI (i : Nat) (K : Act → World → Prop) (a : Act) (w : World) : Prop := match ops[i]? with
  | none => False
  | some o => if Region.wanted o (yielded ops a.tmps) = true then OpI P o a w K else K (a.put o.dst undef) w
def PWI : Plan → Act → World → Prop
  | .done, a, w => K a w
  | .st true i p, a, w => match ops[i]? with
    | none => False
    | some o => if Region.wanted o (yielded ops a.tmps) = true then ∃ v, (∀ w', S w' → (execOp a.eval o).run P w' = .ok (.value v) w') ∧ PWI p (a.put o.dst v) w
      else PWI p (a.put o.dst undef) w
  | .st false i p, a, w => opI P ops i (fun a' w' => S w' ∧ PWI p a' w') a w
  | .alt i p q, a, w => opI P ops i (fun a' w' => S w' ∧ PWI p a' w') a w ∧ PWI q a w
/-- In whatever order. -/
def AnyI : Nat → Array Bool → Act → World → Prop
  | 0, listed, a, w => Region.ready .any ops listed = [] ∧ K a w
  | f + 1, listed, a, w => (Region.ready .any ops listed = [] → K a w) ∧ ∀ i ∈ Region.ready .any ops listed, opI P ops i (fun a' w' => S w' ∧ AnyI f (listed.setIfInBounds i true) a' w') a w
end

section
variable {P : Program} {ops : Array Oper} {S : World → Prop} {K K' : Act → World → Prop}
theorem opI_mono {i : Nat} (hK : ∀ a w, K a w → K' a w) {a : Act} {w : World} (h : opI P ops i K a w) : opI P ops i K' a w := by
  unfold opI at *
  cases ho : ops[i]? with
  | none => rw [ho] at h; exact h
  | some o =>
    rw [ho] at h
    dsimp only at h ⊢
    by_cases hw : Region.wanted o (yielded ops a.tmps) = true
    · rw [if_pos hw] at h ⊢; exact upI_mono hK h
    · rw [if_neg hw] at h ⊢; exact hK _ _ h

def noDefer (ops : Array Oper) : Bool := ops.all fun o => match o.op with | .defer _ => false | _ => true
theorem noDefer_at {i : Nat} {o : Oper} (h : noDefer ops = true) (ho : ops[i]? = some o) : ∀ c, o.op ≠ .defer c := by
  intro c hc
  have := Array.all_eq_true_iff_forall_mem.1 h o (Array.mem_of_getElem? ho)
  rw [hc] at this
  exact absurd this (by simp)

theorem opI_in {ro : Option Nat} (hnd : noDefer ops = true) {i : Nat} {a : Act} {w : World} {Q : Exit → Act → World → Prop} (h : opI P ops i K a w) : wpOpIn (fw ro) 0 P ops Q i K a w := by
  unfold opI at h
  unfold wpOpIn
  split at h
  · exact h.elim
  · rename_i o ho
    rw [ho]
    dsimp only
    split at h
    · rename_i hw; rw [if_pos hw]; exact OpI.wpIn (noDefer_at hnd ho) h
    · rename_i hw; rw [if_neg hw]; exact ⟨fun _ _ => trivial, h⟩

theorem AnyI.in_ {ro : Option Nat} (hnd : noDefer ops = true) : ∀ (f : Nat) (listed : Array Bool) (a : Act) (w : World), AnyI P ops S K f listed a w → wpAnyIn (fw ro) 0 P .any ops (NoExitN K) f listed a w
  | 0, _, _, _, h => h
  | f + 1, _, _, _, h => ⟨h.1, fun i hi => opI_in hnd (opI_mono (fun _ _ h' => AnyI.in_ hnd f _ _ _ h'.2) (h.2 i hi))⟩

/-- What one operation does, another's value put in or not, if they are apart. -/
theorem opI_put {j : Nat} {oi oj : Oper} {v : Value} (hj : ops[j]? = some oj) (hap : oi.apart ops oj = true) (hsj : ∀ cs b, oj.op ≠ .select cs b) {a : Act} {w : World}
    (h : opI P ops j K (a.put oi.dst v) w) : opI P ops j (fun a' w' => (∃ u, a' = a.put oj.dst u) ∧ K (a'.put oi.dst v) w') a w := by
  obtain ⟨h1, h2, _⟩ := Oper.apart_spec hap
  unfold opI at *
  rw [hj] at *
  dsimp only at *
  rw [wanted_put oj a oi.dst v h1] at h
  split at h
  · rename_i hw
    rw [if_pos hw]
    unfold OpI at *
    rw [execOp_put oj hsj a oi.dst v h1] at h
    generalize (execOp a.eval oj).run P w = r at *
    have hc : ∀ u, (a.put oi.dst v).put oj.dst u = (a.put oj.dst u).put oi.dst v := fun u => Act.put_comm a v u h2
    cases r with
    | ok x w' =>
      cases x <;> simp only [upI] at h ⊢
      case value u => exact ⟨⟨u, rfl⟩, by rw [← hc]; exact h⟩
      case skip => exact ⟨⟨_, rfl⟩, by rw [← hc]; exact h⟩
      case enter => exact Calls.mono h (fun e w ⟨u, he, hk⟩ => ⟨u, he, ⟨u, rfl⟩, by rw [← hc]; exact hk⟩)
      case row => exact Rows.mono h (fun u w hk => ⟨⟨u, rfl⟩, by rw [← hc]; exact hk⟩)
      case round => exact RoundIn.mono h (fun e w ⟨u, he, hk⟩ => ⟨u, he, ⟨u, rfl⟩, by rw [← hc]; exact hk⟩)
    | halt x w' => simp only [upI] at h
  · rename_i hw
    rw [if_neg hw]
    exact ⟨⟨_, rfl⟩, by rw [← Act.put_comm a v undef h2]; exact h⟩

theorem AnyI.take {i : Nat} {oi : Oper} {v : Value} (hi : ops[i]? = some oi) (hs : Region.noSelect ops = true) : ∀ (f : Nat) (listed : Array Bool) (a : Act) (w : World),
    (∀ j oj, ops[j]? = some oj → j ≠ i → listed.getD j true = false → (∀ e ∈ oj.after, Region.binds .any e = true → e.on ≠ i) → oi.apart ops oj = true) →
    i ∈ Region.ready .any ops listed →
    ((Region.wanted oi (yielded ops a.tmps) = true ∧ ∀ w', S w' → (execOp a.eval oi).run P w' = .ok (.value v) w') ∨ (Region.wanted oi (yielded ops a.tmps) = false ∧ v = undef)) → S w →
    AnyI P ops S K f (listed.setIfInBounds i true) (a.put oi.dst v) w → AnyI P ops S K (f + 1) listed a w := by
  have own : ∀ {K : Act → World → Prop} {a : Act} {w : World},
      ((Region.wanted oi (yielded ops a.tmps) = true ∧ ∀ w', S w' → (execOp a.eval oi).run P w' = .ok (.value v) w') ∨ (Region.wanted oi (yielded ops a.tmps) = false ∧ v = undef)) → S w → K (a.put oi.dst v) w → opI P ops i K a w := by
    intro K a w hy hS hk
    unfold opI
    rw [hi]
    dsimp only
    rcases hy with ⟨hw, hv⟩ | ⟨hw, rfl⟩
    · rw [if_pos hw]; unfold OpI; rw [hv w hS]; exact hk
    · rw [if_neg (by simp [hw])]; exact hk
  intro f
  induction f with
  | zero =>
    intro listed a w _ hr hy hS H
    refine ⟨fun h0 => absurd (h0 ▸ hr) (by simp), fun j hj => ?_⟩
    by_cases e : j = i
    · subst e; exact own hy hS ⟨hS, H⟩
    · exact absurd (H.1 ▸ ready_mono (i := i) hj e) (by simp)
  | succ f ih =>
    intro listed a w hfree hr hy hS H
    refine ⟨fun h0 => absurd (h0 ▸ hr) (by simp), fun j hj => ?_⟩
    by_cases e : j = i
    · subst e; exact own hy hS ⟨hS, H⟩
    · obtain ⟨hu, oj, hoj, hall⟩ := mem_ready.1 hj
      have hno : ∀ e ∈ oj.after, Region.binds .any e = true → e.on ≠ i := fun e he hb heq => by
        have k1 := hall e he hb
        have k0 := (mem_ready.1 hr).1
        rw [heq] at k1
        by_cases hlt : i < listed.size
        · simp [hlt] at k0 k1; simp [k0] at k1
        · simp [Array.getElem?_eq_none (Nat.le_of_not_lt hlt)] at k1
      have hap := hfree j oj hoj e hu hno
      obtain ⟨_, _, h3⟩ := Oper.apart_spec hap
      refine opI_mono (fun a' w' hk => ?_) (opI_put hoj hap (fun cs b => Region.noSelect_spec hs j oj cs b hoj) (H.2 j (ready_mono hj e)))
      obtain ⟨⟨u, rfl⟩, hS', hk⟩ := hk
      refine ⟨hS', ih _ _ w' (fun k ok hk' hki hun hno' => hfree k ok hk' hki ?_ hno') (ready_mono hr (Ne.symm e)) ?_ hS' (by rw [Array.setIfInBounds_comm _ _ e]; exact hk)⟩
      · by_cases hjk : j = k
        · subst hjk; exact hu
        · rwa [getD_set_ne true hjk] at hun
      · rw [wanted_put oi a oj.dst u h3, execOp_put oi (fun cs b => Region.noSelect_spec hs i oi cs b hi) a oj.dst u h3]
        exact hy

theorem planI_sound (hs : Region.noSelect ops = true) : ∀ (p : Plan) (f : Nat) (listed : Array Bool) (rs : Option (List Nat)) (a : Act) (w : World), planOk ops p f listed rs = true → S w → PWI P ops S K p a w →
      (rs = none → AnyI P ops S K f listed a w) ∧
      (∀ l, rs = some l → ∃ g, f = g + 1 ∧ ∀ i ∈ l, opI P ops i (fun a' w' => S w' ∧ AnyI P ops S K g (listed.setIfInBounds i true) a' w') a w) := by
  intro p
  induction p with
  | done =>
    intro f listed rs a w hok hS h
    simp only [planOk, Bool.and_eq_true, List.isEmpty_iff, Option.isNone_iff_eq_none] at hok
    obtain ⟨h1, h2⟩ := hok
    subst h1
    refine ⟨fun _ => ?_, fun l hl => by cases hl⟩
    cases f with
    | zero => exact ⟨h2, h⟩
    | succ f => exact ⟨fun _ => h, by rw [h2]; simp⟩
  | st fl i p ih =>
    intro f listed rs a w hok hS h
    cases f with
    | zero => cases fl <;> simp [planOk] at hok
    | succ f =>
      cases fl with
      | true =>
        simp only [planOk, Bool.and_eq_true, Option.isNone_iff_eq_none] at hok
        obtain ⟨⟨⟨h1, h2⟩, h3⟩, h4⟩ := hok
        subst h1
        refine ⟨fun _ => ?_, fun l hl => by cases hl⟩
        unfold PWI at h
        split at h
        · exact h.elim
        · rename_i o ho
          split at h
          · rename_i hw
            obtain ⟨v, hv, hn⟩ := h
            exact AnyI.take ho hs f listed a w (Region.free_spec ho h3) (by simpa using h2) (.inl ⟨hw, hv⟩) hS ((ih f _ none _ w h4 hS hn).1 rfl)
          · rename_i hw
            exact AnyI.take ho hs f listed a w (Region.free_spec ho h3) (by simpa using h2) (.inr ⟨by simpa using hw, rfl⟩) hS ((ih f _ none _ w h4 hS h).1 rfl)
      | false =>
        simp only [planOk, Bool.and_eq_true, beq_iff_eq] at hok
        obtain ⟨h1, h2⟩ := hok
        have hk : opI P ops i (fun a' w' => S w' ∧ AnyI P ops S K f (listed.setIfInBounds i true) a' w') a w :=
          opI_mono (K := fun a' w' => S w' ∧ PWI P ops S K p a' w') (fun a' w' ⟨hS', h'⟩ => ⟨hS', (ih f _ none a' w' h2 hS' h').1 rfl⟩) (by unfold PWI at h; exact h)
        constructor
        · rintro rfl
          simp only [Option.getD_none] at h1
          exact ⟨fun h0 => absurd (h0.symm.trans h1) (by simp), fun j hj => by rw [h1] at hj; simp at hj; subst hj; exact hk⟩
        · rintro l rfl
          simp only [Option.getD_some] at h1
          subst h1
          exact ⟨f, rfl, fun j hj => by simp at hj; subst hj; exact hk⟩
  | alt i p q ihp ihq =>
    intro f listed rs a w hok hS h
    cases f with
    | zero => simp [planOk] at hok
    | succ f =>
      simp only [planOk, Bool.and_eq_true] at hok
      obtain ⟨h1, h2⟩ := hok
      unfold PWI at h
      obtain ⟨ha, hb⟩ := h
      have hk : opI P ops i (fun a' w' => S w' ∧ AnyI P ops S K f (listed.setIfInBounds i true) a' w') a w :=
        opI_mono (fun a' w' ⟨hS', h'⟩ => ⟨hS', (ihp f _ none a' w' h1 hS' h').1 rfl⟩) ha
      obtain ⟨f', ef, hq⟩ := (ihq (f + 1) listed _ a w h2 hS hb).2 _ rfl
      obtain rfl : f = f' := by omega
      have hall : ∀ j ∈ rs.getD (Region.ready .any ops listed), opI P ops j (fun a' w' => S w' ∧ AnyI P ops S K f (listed.setIfInBounds j true) a' w') a w := by
        intro j hj
        by_cases e : j = i
        · subst e; exact hk
        · exact hq j (by simp [hj, e])
      constructor
      · rintro rfl
        refine ⟨fun h0 => ?_, hall⟩
        exfalso
        simp only [Option.getD_none] at hq h2
        rw [h0] at h2
        have : ∀ (q : Plan) , planOk ops q (f + 1) listed (some []) = false := by
          intro q
          induction q with
          | done => simp [planOk]
          | st fl i p _ => cases fl <;> simp [planOk]
          | alt i p q _ ih => simp only [planOk, Option.getD_some, List.filter_nil, ih, Bool.and_false]
        simp [this] at h2
      · rintro l rfl
        exact ⟨f, rfl, hall⟩

theorem wpI_planned {ro : Option Nat} {id : Nat} {a : Act} {w : World} (p : Plan) (hm : P.follows .mixedOrders = true)
    (hok : (noDefer ops && (Region.noSelect ops && planOk ops p ops.size (Array.replicate ops.size false) none)) = true) (hS : S w.drew) (h : PWI P ops S K p a w.drew) : (Code.region id ops true).wpIn (fw ro) 0 P (NoExitN K) a w := by
  rw [Bool.and_eq_true, Bool.and_eq_true] at hok
  exact wpIn_region_any hm (AnyI.in_ hok.1 _ _ _ _ ((planI_sound hok.2.1 p _ _ none a w.drew hok.2.2 hS h).1 rfl))

theorem wpI_straight {ro : Option Nat} {id : Nat} {a : Act} {w : World} (hnd : noDefer ops = true) (h : PWI P ops S K (seqPlan 0 ops.size) a w) : (Code.region id ops false).wpIn (fw ro) 0 P (NoExitN K) a w := by
  have key : ∀ (k i : Nat) (a : Act) (w : World), PWI P ops S K (seqPlan i k) a w → wpOpsIn (fw ro) 0 P ops (NoExitN K) (List.range' i k) a w := by
    intro k
    induction k with
    | zero => intro i a w h; simpa [seqPlan, PWI, wpOpsIn, NoExitN] using h
    | succ k ih =>
      intro i a w h
      simp only [seqPlan, PWI] at h
      simp only [List.range'_succ]
      rw [wpOpsIn_cons]
      exact opI_in hnd (opI_mono (fun a' w' h' => ih _ a' w' h'.2) h)
  refine wpIn_region ?_
  rw [List.range_eq_range']
  exact key ops.size 0 a w h
end
end Go.Sx
end
section
/- Range over a function, part 2: code in whatever frame; marks among the deferred calls. No condition. -/
namespace Go.Sx
open Go

/-- The slots, and what is deferred. -/
structure EnvD (n : Nat) (ds : List Deferred) (l : List (Nat × Value)) (a : Act) : Prop where
  env : Env n l { a with defers := [] }
  defers : a.defers = ds

theorem EnvD.of {n : Nat} {ds : List Deferred} {l : List (Nat × Value)} {a : Act} (h : Env n l a) : EnvD n ds l { a with defers := ds } := ⟨⟨h.size, rfl, h.at_⟩, rfl⟩
theorem EnvD.sub {n : Nat} {ds : List Deferred} {l l' : List (Nat × Value)} {a : Act} (h : EnvD n ds l a) (hs : Sub l' l) : EnvD n ds l' a := ⟨h.env.sub hs, h.defers⟩
theorem eval_dropD (a : Act) : ({ a with defers := [] } : Act).eval = a.eval := by funext x; cases x <;> rfl
theorem EnvD.ev {n : Nat} {ds : List Deferred} {l : List (Nat × Value)} {a : Act} (h : EnvD n ds l a) {x : Operand} {v : Value} (hx : ev l x = some v) : a.eval x = v := by
  rw [← eval_dropD]; exact h.env.ev hx

structure SXI (P : Program) (ops : Array Oper) (S : World → Prop) (K : Act → World → Prop) (p : Plan) (n : Nat) (ds : List Deferred) (l : List (Nat × Value)) (C : World → Prop) : Prop where
  run : ∀ a w, EnvD n ds l a → C w → S w → PWI P ops S K p a w

section
variable {P : Program} {ops : Array Oper} {S : World → Prop} {K : Act → World → Prop} {p q : Plan} {n : Nat} {ds : List Deferred} {l : List (Nat × Value)} {C C' : World → Prop}

theorem SXI.done (h : ∀ a w, EnvD n ds l a → C w → K a w) : SXI P ops S K .done n ds l C := ⟨fun a w he hc _ => h a w he hc⟩

/-- A step of the plain walk. -/
theorem SXI.of1 {fl : Bool} {i : Nat} {X : Type} {l2 : X → List (Nat × Value)} {C2 : X → World → Prop} {pf : X → Prop}
    (h : ∀ K' : Act → World → Prop, (∀ x, pf x → ∀ a w, Env n (l2 x) a → C2 x w → K' a w) → SX P ops S K' (.st fl i .done) n l C)
    (hn : ∀ x, pf x → SXI P ops S K p n ds (l2 x) (C2 x)) : SXI P ops S K (.st fl i p) n ds l C := by
  refine ⟨fun a w he hc hs => ?_⟩
  have h1 := (h (fun a w => ∃ x, pf x ∧ Env n (l2 x) a ∧ C2 x w) (fun x hp a w h1 h2 => ⟨x, hp, h1, h2⟩)).run _ w he.env hc hs
  have key : ∀ a' w', S w' → (∃ x, pf x ∧ Env n (l2 x) a' ∧ C2 x w') → PWI P ops S K p { a' with defers := ds } w' := fun a' w' hS ⟨x, hp, h1, h2⟩ => (hn x hp).run _ w' (EnvD.of h1) h2 hS
  have hput : ∀ (o : Oper) v, { ({ a with defers := [] } : Act).put o.dst v with defers := ds } = a.put o.dst v := fun o v => by
    have := he.defers; subst this; cases o.dst <;> rfl
  cases fl with
  | true =>
    simp only [PW] at h1
    simp only [PWI]
    cases ho : ops[i]? with
    | none => rw [ho] at h1; exact h1.elim
    | some o =>
      rw [ho] at h1
      dsimp only at h1 ⊢
      by_cases hw : Region.wanted o (yielded ops a.tmps) = true
      · rw [if_pos hw] at h1 ⊢
        obtain ⟨v, hv, hk⟩ := h1
        rw [eval_dropD] at hv
        exact ⟨v, hv, by rw [← hput]; exact key _ _ hs hk⟩
      · rw [if_neg hw] at h1 ⊢
        rw [← hput]; exact key _ _ hs h1
  | false =>
    simp only [PW] at h1
    simp only [PWI, opI]
    cases ho : ops[i]? with
    | none => rw [ho] at h1; exact h1.elim
    | some o =>
      rw [ho] at h1
      dsimp only at h1 ⊢
      by_cases hw : Region.wanted o (yielded ops a.tmps) = true
      · rw [if_pos hw] at h1 ⊢
        exact OpI.of_wp ds h1 (fun a' w' ⟨hS, hk⟩ => ⟨by obtain ⟨x, _, h2, _⟩ := hk; exact h2.defers, hS, key _ _ hS hk⟩) he.defers
      · rw [if_neg hw] at h1 ⊢
        rw [← hput]; exact ⟨hs, key _ _ hs h1⟩
theorem SXI.of {fl : Bool} {i : Nat} {l2 : List (Nat × Value)} {C2 : World → Prop} (h : ∀ K' : Act → World → Prop, (∀ a w, Env n l2 a → C2 w → K' a w) → SX P ops S K' (.st fl i .done) n l C)
    (hn : SXI P ops S K p n ds l2 C2) : SXI P ops S K (.st fl i p) n ds l C :=
  SXI.of1 (X := Unit) (l2 := fun _ => l2) (C2 := fun _ => C2) (pf := fun _ => True) (fun K' hK => h K' (hK () trivial)) (fun _ _ => hn)

theorem SXI.of2 {fl : Bool} {i : Nat} {X Y : Type} {l2 : X → Y → List (Nat × Value)} {C2 : X → Y → World → Prop} {pf : X → Y → Prop}
    (h : ∀ K' : Act → World → Prop, (∀ x y, pf x y → ∀ a w, Env n (l2 x y) a → C2 x y w → K' a w) → SX P ops S K' (.st fl i .done) n l C)
    (hn : ∀ x y, pf x y → SXI P ops S K p n ds (l2 x y) (C2 x y)) : SXI P ops S K (.st fl i p) n ds l C :=
  SXI.of1 (X := X × Y) (l2 := fun x => l2 x.1 x.2) (C2 := fun x => C2 x.1 x.2) (pf := fun x => pf x.1 x.2) (fun K' hK => h K' (fun x y => hK (x, y))) (fun x => hn x.1 x.2)

theorem SXI.alt {i : Nat} (h1 : SXI P ops S K (.st false i p) n ds l C) (h2 : SXI P ops S K q n ds l C) : SXI P ops S K (.alt i p q) n ds l C :=
  ⟨fun a w he hc hs => ⟨by have := h1.run a w he hc hs; unfold PWI at this; exact this, h2.run a w he hc hs⟩⟩
theorem SXI.weaken {l' : List (Nat × Value)} (hl : SubL l' l) (hC : ∀ w, C w → C' w) (h : SXI P ops S K p n ds l' C') : SXI P ops S K p n ds l C :=
  ⟨fun a w he hc hs => h.run a w (he.sub hl.sub) (hC w hc) hs⟩
theorem SXI.inC (h : ∀ w, C w → SXI P ops S K p n ds l C) : SXI P ops S K p n ds l C := ⟨fun a w he hc hs => (h w hc).run a w he hc hs⟩
theorem SXI.fact {F : Prop} (hF : ∀ w, C w → F) (h : F → SXI P ops S K p n ds l C) : SXI P ops S K p n ds l C := ⟨fun a w he hc hs => (h (hF w hc)).run a w he hc hs⟩
theorem SXI.bool (t : Nat) {b : Bool} (ht : lk t l = some (.bool b)) (h1 : b = true → SXI P ops S K p n ds (ins t (.bool true) l) C) (h2 : b = false → SXI P ops S K p n ds (ins t (.bool false) l) C) : SXI P ops S K p n ds l C := by
  refine ⟨fun a w he hc hs => ?_⟩
  have key : ∀ u, lk t l = some u → EnvD n ds (ins t u l) a := fun u hu => ⟨⟨he.env.size, rfl, fun s v hv => by
    rw [lk_ins] at hv
    by_cases e : s = t
    · subst e; simp at hv; subst hv; exact he.env.at_ _ _ hu
    · rw [if_neg e] at hv; exact he.env.at_ _ _ hv⟩, he.defers⟩
  cases b with
  | true => exact (h1 rfl).run a w (key _ ht) hc hs
  | false => exact (h2 rfl).run a w (key _ ht) hc hs

/-- An operation that calls yield. -/
theorem SXI.yield {i : Nat} {d : Option Nat} {op : Op} {ty : TypeId} {X : Type} {v : X → Value} {pf : X → Prop} {C' : X → World → Prop} (ho : opAt ops n l i = some (d, op, ty))
    (hrun : ∀ a w (o : Oper), Env n l a → C w → o.op = op → o.type = ty → ∃ lr fn tmps assign body w', (execOp a.eval o).run P w = .ok (.round lr fn tmps assign body) w' ∧
      RoundIn Fence.wide 0 P lr fn tmps assign body w' (fun e w'' => ∃ x, e = .returned (v x) ∧ pf x ∧ C' x w''))
    (hS : ∀ x w, C' x w → S w)
    (h : ∀ x, pf x → SXI P ops S K p n ds (insO d (v x) l) (C' x)) : SXI P ops S K (.st false i p) n ds l C := by
  refine ⟨fun a w he hc _ => ?_⟩
  unfold opAt at ho
  split at ho
  · rename_i o hoi
    by_cases hb : (wantB ops l o.guard && okD n o.dst) = true
    · rw [hb] at ho
      simp only [cond_true, Option.some.injEq, Prod.mk.injEq] at ho
      obtain ⟨rfl, rfl, rfl⟩ := ho
      rw [Bool.and_eq_true] at hb
      obtain ⟨lr, fn, tmps, assign, body, w', hr, hR⟩ := hrun _ w o he.env hc rfl rfl
      rw [eval_dropD] at hr
      have hw : Region.wanted o (yielded ops a.tmps) = true := wanted_of he.env hb.1
      simp only [PWI, opI, hoi, hw, if_true, OpI, hr, upI]
      refine RoundIn.mono hR ?_
      rintro e w'' ⟨x, rfl, hp, hC⟩
      refine ⟨_, rfl, hS x w'' hC, (h x hp).run _ w'' ?_ hC (hS x w'' hC)⟩
      have h2 := he.env.putO hb.2 (v x)
      have h3 : a.put o.dst (v x) = { ({ a with defers := [] } : Act).put o.dst (v x) with defers := ds } := by have := he.defers; subst this; cases o.dst <;> rfl
      rw [h3]; exact EnvD.of h2
    · have : (wantB ops l o.guard && okD n o.dst) = false := by simpa using hb
      rw [this] at ho
      cases ho
  · cases ho
end

/-! ### Code -/
def KtI (P : Program) (ro : Option Nat) (Rx : Exit → Act → World → Prop) : List KI → Exit → Act → World → Prop
  | [] => Rx
  | .code y :: k => fun e a w => match e with
    | .normal => y.wpIn (fw ro) 0 P (KtI P ro Rx k) a w
    | e => KtI P ro Rx k e a w
  | .blk id :: k => fun e a w => match e with
    | .exit id' => if id' = id then KtI P ro Rx k .normal a w else KtI P ro Rx k (.exit id') a w
    | e => KtI P ro Rx k e a w
  | .lp I :: k => fun e a w => match e with
    | .normal => I a w
    | e => KtI P ro Rx k e a w

section
variable {P : Program} {ro : Option Nat} {Rx : Exit → Act → World → Prop}
theorem KtI_ret : ∀ (k : List KI) {a : Act} {w : World}, Rx .ret a w → KtI P ro Rx k .ret a w
  | [], _, _, h => h
  | .code _ :: k, _, _, h => KtI_ret k h
  | .blk _ :: k, _, _, h => KtI_ret k h
  | .lp _ :: k, _, _, h => KtI_ret k h
theorem KtI_exit {id : Nat} : ∀ {k k' : List KI} {a : Act} {w : World}, popTo id k = some k' → KtI P ro Rx k' .normal a w → KtI P ro Rx k (.exit id) a w
  | [], _, _, _, h, _ => by simp [popTo] at h
  | .blk i :: k, k', a, w, h, hk => by
    unfold popTo at h
    simp only [KtI]
    by_cases e : i = id
    · subst e
      simp at h
      subst h
      simpa using hk
    · have h1 : Nat.beq i id = false := beq_ne e
      rw [h1] at h
      rw [if_neg (Ne.symm e)]
      exact KtI_exit (k := k) h hk
  | .code _ :: k, _, _, _, h, hk => KtI_exit (k := k) h hk
  | .lp _ :: k, _, _, _, h, hk => KtI_exit (k := k) h hk
/-- An exit that nothing in the frame catches. -/
theorem KtI_out {id : Nat} : ∀ {k : List KI} {a : Act} {w : World}, popTo id k = none → Rx (.exit id) a w → KtI P ro Rx k (.exit id) a w
  | [], _, _, _, h => h
  | .blk i :: k, a, w, h, hk => by
    unfold popTo at h
    simp only [KtI]
    by_cases e : i = id
    · subst e; simp at h
    · have h1 : Nat.beq i id = false := beq_ne e
      rw [h1] at h
      rw [if_neg (Ne.symm e)]
      exact KtI_out (k := k) h hk
  | .code _ :: k, _, _, h, hk => KtI_out (k := k) h hk
  | .lp _ :: k, _, _, h, hk => KtI_out (k := k) h hk
end

structure CWI (P : Program) (ro : Option Nat) (Rx : Exit → Act → World → Prop) (k : List KI) (c : Code) (n : Nat) (ds : List Deferred) (l : List (Nat × Value)) (C : World → Prop) : Prop where
  run : ∀ a w, EnvD n ds l a → C w → c.wpIn (fw ro) 0 P (KtI P ro Rx k) a w
structure KNI (P : Program) (ro : Option Nat) (Rx : Exit → Act → World → Prop) (k : List KI) (n : Nat) (ds : List Deferred) (l : List (Nat × Value)) (C : World → Prop) : Prop where
  run : ∀ a w, EnvD n ds l a → C w → KtI P ro Rx k .normal a w

section
variable {P : Program} {ro : Option Nat} {Rx : Exit → Act → World → Prop} {k : List KI} {n : Nat} {ds : List Deferred} {l l' : List (Nat × Value)} {C C' : World → Prop} {c x y : Code}

theorem CWI.seq (h : CWI P ro Rx (.code y :: k) x n ds l C) : CWI P ro Rx k (.seq x y) n ds l C :=
  ⟨fun a w he hc => wpIn_seq (wpIn_mono (h.run a w he hc) (fun e a w hk => by cases e <;> exact hk))⟩
theorem CWI.block {id : Nat} (h : CWI P ro Rx (.blk id :: k) c n ds l C) : CWI P ro Rx k (.block id c) n ds l C :=
  ⟨fun a w he hc => wpIn_block (wpIn_mono (h.run a w he hc) (fun e a w hk => by cases e <;> exact hk))⟩
theorem CWI.skip (h : KNI P ro Rx k n ds l C) : CWI P ro Rx k .skip n ds l C := ⟨fun a w he hc => wpIn_skip (h.run a w he hc)⟩
theorem CWI.label {i : Nat} (h : KNI P ro Rx k n ds l C) : CWI P ro Rx k (.label i) n ds l C := ⟨fun a w he hc => wpIn_label (h.run a w he hc)⟩
theorem CWI.ret (h : ∀ a w, EnvD n ds l a → C w → Rx .ret a w) : CWI P ro Rx k .ret n ds l C := ⟨fun a w he hc => wpIn_ret (KtI_ret k (h a w he hc))⟩
theorem CWI.exit {id : Nat} {k' : List KI} (hp : popTo id k = some k') (h : KNI P ro Rx k' n ds l C) : CWI P ro Rx k (.exit id) n ds l C :=
  ⟨fun a w he hc => wpIn_exit (KtI_exit hp (h.run a w he hc))⟩
theorem CWI.out {id : Nat} (hp : popTo id k = none) (h : ∀ a w, EnvD n ds l a → C w → Rx (.exit id) a w) : CWI P ro Rx k (.exit id) n ds l C :=
  ⟨fun a w he hc => wpIn_exit (KtI_out hp (h a w he hc))⟩
theorem CWI.cond {o : Operand} {b : Bool} (ho : ev l o = some (.bool b)) (h1 : b = true → CWI P ro Rx k x n ds l C) (h2 : b = false → CWI P ro Rx k y n ds l C) : CWI P ro Rx k (.cond o x y) n ds l C :=
  ⟨fun a w he hc => wpIn_cond_split (he.ev ho) (fun e => (h1 e).run a w he hc) (fun e => (h2 e).run a w he hc)⟩
theorem CWI.condT {o : Operand} (ho : ev l o = some (.bool true)) (h1 : CWI P ro Rx k x n ds l C) : CWI P ro Rx k (.cond o x y) n ds l C :=
  CWI.cond ho (fun _ => h1) (fun e => by cases e)
theorem CWI.condF {o : Operand} (ho : ev l o = some (.bool false)) (h1 : CWI P ro Rx k y n ds l C) : CWI P ro Rx k (.cond o x y) n ds l C :=
  CWI.cond ho (fun e => by cases e) (fun _ => h1)
theorem CWI.test {o : Operand} {p : Prop} [Decidable p] (ho : ev l o = some (.bool (decide p))) (h1 : p → CWI P ro Rx k x n ds l C) (h2 : ¬ p → CWI P ro Rx k y n ds l C) : CWI P ro Rx k (.cond o x y) n ds l C :=
  CWI.cond ho (fun e => h1 (of_decide_eq_true e)) (fun e => h2 (of_decide_eq_false e))
theorem CWI.weaken (l' : List (Nat × Value)) (C' : World → Prop) (hl : SubL l' l) (hC : ∀ w, C w → C' w) (h : CWI P ro Rx k c n ds l' C') : CWI P ro Rx k c n ds l C :=
  ⟨fun a w he hc => h.run a w (he.sub hl.sub) (hC w hc)⟩
theorem CWI.fact {F : Prop} (hF : ∀ w, C w → F) (h : F → CWI P ro Rx k c n ds l C) : CWI P ro Rx k c n ds l C := ⟨fun a w he hc => (h (hF w hc)).run a w he hc⟩
theorem CWI.pre (hC : ∀ w, C w → C' w) (h : CWI P ro Rx k c n ds l C') : CWI P ro Rx k c n ds l C := ⟨fun a w he hc => h.run a w he (hC w hc)⟩
theorem CWI.ex {X : Type} {C' : X → World → Prop} (hC : ∀ w, C w → ∃ x, C' x w) (h : ∀ x, CWI P ro Rx k c n ds l (C' x)) : CWI P ro Rx k c n ds l C :=
  ⟨fun _ w he hc => let ⟨x, hx⟩ := hC w hc; (h x).run _ w he hx⟩

theorem KNI.code (h : CWI P ro Rx k y n ds l C) : KNI P ro Rx (.code y :: k) n ds l C := ⟨fun a w he hc => h.run a w he hc⟩
theorem KNI.blk {id : Nat} (h : KNI P ro Rx k n ds l C) : KNI P ro Rx (.blk id :: k) n ds l C := ⟨fun a w he hc => h.run a w he hc⟩
theorem KNI.weaken (l' : List (Nat × Value)) (C' : World → Prop) (hl : SubL l' l) (hC : ∀ w, C w → C' w) (h : KNI P ro Rx k n ds l' C') : KNI P ro Rx k n ds l C :=
  ⟨fun a w he hc => h.run a w (he.sub hl.sub) (hC w hc)⟩
theorem KNI.fact {F : Prop} (hF : ∀ w, C w → F) (h : F → KNI P ro Rx k n ds l C) : KNI P ro Rx k n ds l C := ⟨fun a w he hc => (h (hF w hc)).run a w he hc⟩

/-- A loop: 'G': the states of the rounds. -/
theorem wpI_loop_ghost {G : Type} {Q : Exit → Act → World → Prop} (I : G → Act → World → Prop) (μ : G → Nat)
    (round : ∀ g a w, I g a w → c.wpIn (fw ro) 0 P (Exit.then (fun a' w' => ∃ g', I g' a' w' ∧ μ g' < μ g) Q) a w) (g₀ : G) {a : Act} {w : World} (h₀ : I g₀ a w) : (Code.loop c).wpIn (fw ro) 0 P Q a w := by
  classical
  have ex : ∀ a w, (∃ g, I g a w) → ∃ m, (∃ g, I g a w ∧ μ g = m) ∧ ∀ g, I g a w → m ≤ μ g := by
    intro a w ⟨g, hg⟩
    have key : ∀ (m : Nat) (g : G), μ g = m → I g a w → ∃ m, (∃ g, I g a w ∧ μ g = m) ∧ ∀ g, I g a w → m ≤ μ g := by
      intro m
      induction m using Nat.strongRecOn with
      | _ m ih =>
        intro g hm hI
        by_cases h : ∃ g', I g' a w ∧ μ g' < m
        · obtain ⟨g', h1, h2⟩ := h
          exact ih _ h2 g' rfl h1
        · exact ⟨m, ⟨g, hI, hm⟩, fun g' hg' => Nat.le_of_not_lt (fun hlt => h ⟨g', hg', hlt⟩)⟩
    exact key _ g rfl hg
  let ν : Act → World → Nat := fun a w => if h : ∃ g, I g a w then Classical.choose (ex a w h) else 0
  have hν : ∀ a w (h : ∃ g, I g a w), (∃ g, I g a w ∧ μ g = ν a w) ∧ ∀ g, I g a w → ν a w ≤ μ g := fun a w h => by
    simp only [ν, dif_pos h]; exact Classical.choose_spec (ex a w h)
  refine wpIn_loop (fun a w => ∃ g, I g a w) ν ⟨g₀, h₀⟩ (fun a w hI => ?_)
  obtain ⟨⟨g, hg, hm⟩, _⟩ := hν a w hI
  refine wpIn_mono (round g a w hg) (fun e a' w' hq => ?_)
  cases e <;> first | exact hq | (obtain ⟨g', h1, h2⟩ := hq; exact ⟨⟨g', h1⟩, Nat.lt_of_le_of_lt ((hν a' w' ⟨g', h1⟩).2 g' h1) (hm ▸ h2)⟩)

structure BackI {G : Type} (n : Nat) (df : G → List Deferred) (lf : G → List (Nat × Value)) (Cf : G → World → Prop) (pf : G → Prop) (μ : G → Nat) (m : Nat) (a : Act) (w : World) : Prop where
  back : ∃ g', (EnvD n (df g') (lf g') a ∧ Cf g' w ∧ pf g') ∧ μ g' < m

theorem CWI.loop {G : Type} (df : G → List Deferred) (lf : G → List (Nat × Value)) (Cf : G → World → Prop) (pf : G → Prop) (μ : G → Nat) (g₀ : G) (hd : df g₀ = ds) (hl : SubL (lf g₀) l) (hC : ∀ w, C w → Cf g₀ w) (hp : pf g₀)
    (hr : ∀ g, pf g → CWI P ro Rx (.lp (BackI n df lf Cf pf μ (μ g)) :: k) c n (df g) (lf g) (Cf g)) : CWI P ro Rx k (.loop c) n ds l C := by
  refine ⟨fun a w he hc => ?_⟩
  refine wpI_loop_ghost (fun g a w => EnvD n (df g) (lf g) a ∧ Cf g w ∧ pf g) μ (fun g a w hg => ?_) g₀ ⟨hd ▸ he.sub hl.sub, hC w hc, hp⟩
  exact wpIn_mono ((hr g hg.2.2).run a w hg.1 hg.2.1) (fun e a' w' hk => by cases e <;> first | exact hk | exact hk.back)
theorem KNI.back {G : Type} {df : G → List Deferred} {lf : G → List (Nat × Value)} {Cf : G → World → Prop} {pf : G → Prop} {μ : G → Nat} {m : Nat} (g' : G) (hd : df g' = ds) (hl : SubL (lf g') l) (hC : ∀ w, C w → Cf g' w) (hp : pf g') (hm : μ g' < m) :
    KNI P ro Rx (.lp (BackI n df lf Cf pf μ m) :: k) n ds l C := ⟨fun _ w he hc => ⟨g', ⟨hd ▸ he.sub hl.sub, hC w hc, hp⟩, hm⟩⟩

structure JoinI {G : Type} (n : Nat) (ds : List Deferred) (lf : G → List (Nat × Value)) (Cf : G → World → Prop) (pf : G → Prop) (a : Act) (w : World) : Prop where
  join : ∃ g, EnvD n ds (lf g) a ∧ Cf g w ∧ pf g
theorem CWI.cut {G : Type} (lf : G → List (Nat × Value)) (Cf : G → World → Prop) (pf : G → Prop) (hx : CWI P ro Rx (.lp (JoinI n ds lf Cf pf) :: k) x n ds l C) (hy : ∀ g, pf g → CWI P ro Rx k y n ds (lf g) (Cf g)) : CWI P ro Rx k (.seq x y) n ds l C :=
  ⟨fun a w he hc => wpIn_seq (wpIn_mono (hx.run a w he hc) (fun e a w hk => by
    cases e <;> first | exact hk | (obtain ⟨g, h1, h2, h3⟩ := hk.join; exact (hy g h3).run a w h1 h2)))⟩
theorem KNI.join {G : Type} {lf : G → List (Nat × Value)} {Cf : G → World → Prop} {pf : G → Prop} (g : G) (hl : SubL (lf g) l) (hC : ∀ w, C w → Cf g w) (hp : pf g) : KNI P ro Rx (.lp (JoinI n ds lf Cf pf) :: k) n ds l C :=
  ⟨fun _ w he hc => ⟨g, he.sub hl.sub, hC w hc, hp⟩⟩

theorem CWI.reg {id : Nat} {ops : Array Oper} (is : List Nat) (hi : sp is = seqPlan 0 ops.size) (hnd : noDefer ops = true) (h : SXI P ops (fun _ => True) (KtI P ro Rx k .normal) (sp is) n ds l C) : CWI P ro Rx k (.region id ops false) n ds l C :=
  ⟨fun a w he hc => wpIn_mono (wpI_straight hnd (by rw [← hi]; exact h.run a w he hc trivial)) (fun e a w hk => by cases e <;> first | exact hk | exact hk.elim)⟩
theorem CWI.regD {id : Nat} {ops : Array Oper} (p : Plan) (S : World → Prop) (hm : P.follows .mixedOrders = true) (hok : (noDefer ops && (Region.noSelect ops && planOk ops p ops.size (Array.replicate ops.size false) none)) = true)
    (hd : ∀ w, C w → C w.drew) (hS : ∀ w, C w → S w) (h : SXI P ops S (KtI P ro Rx k .normal) p n ds l C) : CWI P ro Rx k (.region id ops true) n ds l C :=
  ⟨fun a w he hc => wpIn_mono (wpI_planned p hm hok (hS _ (hd w hc)) (h.run a w.drew he (hd w hc) (hS _ (hd w hc)))) (fun e a w hk => by cases e <;> first | exact hk | exact hk.elim)⟩
theorem SXI.end_ {ops : Array Oper} {S : World → Prop} (h : KNI P ro Rx k n ds l C) : SXI P ops S (KtI P ro Rx k .normal) .done n ds l C := SXI.done h.run
theorem SXI.next {ops : Array Oper} {S : World → Prop} (h : CWI P ro Rx k y n ds l C) : SXI P ops S (KtI P ro Rx (.code y :: k) .normal) .done n ds l C := SXI.done h.run

/-- A function that holds such loops. -/
theorem calls_ofI {f : FuncId} {fn : Func} {args : List Value} {w : World} {R : Ending → World → Prop} (hf : P.funcs[f]? = some fn) (hb : fn.body = some c) (hn : fn.ntmps = n) (hlen : Nat.ble args.length n = true) (hw : C w)
    (h : CWI P none (bodyPostM Fence.wide 0 P fn R) [] c n [] (argEnv 0 args) C) : Calls P f args.toArray w R := by
  replace hlen : args.length ≤ n := Nat.le_of_ble_eq_true hlen
  refine (callsIn_wide (n := 0)).1 (callsIn_of_wp_marks hf hb trivial ?_)
  refine wpIn_mono (h.run _ w ⟨⟨by simp [hn]; omega, rfl, fun t v ht => ?_⟩, rfl⟩ hw) (fun e a w hk => hk)
  obtain ⟨_, h2⟩ := lk_argEnv args 0 t v ht
  simp only [Nat.sub_zero] at h2
  have hlt : t < args.length := by
    rcases Nat.lt_or_ge t args.length with h | h
    · exact h
    · rw [List.getElem?_eq_none h] at h2; cases h2
  rw [List.getElem?_eq_getElem hlt, Option.some.injEq] at h2
  simp [Array.getElem?_append, hlt, h2]
end
end Go.Sx
end
section
/- Range over a function, part 3: the statement, yield, the return; memory in parts. No condition. -/
namespace Go.Sx
open Go

/-! ### Parts -/
def objB (g : Nat) (o : Obj) : Atom where
  ok w D := (∀ k, D k ↔ k = g) ∧ w.heap[g]? = some o
  loc := fun ⟨h1, h2⟩ hb => ⟨h1, (hb _ ((h1 _).2 rfl)).trans h2⟩
def exA {G : Type} (f : G → Atom) : Atom where
  ok w D := ∃ g, (f g).ok w D
  loc := fun ⟨g, h⟩ hb => ⟨g, (f g).loc h hb⟩
def starOk : List Atom → World → (Nat → Prop) → Prop
  | [], _, D => ∀ k, ¬ D k
  | A :: L, w, D => ∃ D1 D2 : Nat → Prop, A.ok w D1 ∧ starOk L w D2 ∧ (∀ k, D k ↔ D1 k ∨ D2 k) ∧ ∀ k, D1 k → ¬ D2 k
theorem starOk_loc : ∀ (L : List Atom) {w w' : World} {D : Nat → Prop}, starOk L w D → (∀ k, D k → w'.heap[k]? = w.heap[k]?) → starOk L w' D
  | [], _, _, _, h, _ => h
  | A :: L, _, _, _, ⟨D1, D2, h1, h2, h3, h4⟩, hb => ⟨D1, D2, A.loc h1 (fun k hk => hb k ((h3 k).2 (.inl hk))), starOk_loc L h2 (fun k hk => hb k ((h3 k).2 (.inr hk))), h3, h4⟩
def starA (L : List Atom) : Atom where
  ok w D := starOk L w D
  loc := fun h hb => starOk_loc L h hb

section
variable {F : Nat → Prop} {w₀ w : World} {L L' X Y Z : List Atom}
theorem Sep.star : ∀ (X : List Atom) {F : Nat → Prop}, Sep F (X ++ L) w ↔ Sep F (starA X :: L) w
  | [], F => ⟨fun h => ⟨fun _ => False, fun _ => id, fun _ hk => hk.elim, h.weak (fun k hk => hk.resolve_right id)⟩, fun ⟨D, h1, _, h3⟩ => Sep.weak h3 (fun _ => .inl)⟩
  | A :: X, F => by
    constructor
    · rintro ⟨D1, h1, h2, h3⟩
      obtain ⟨D2, k1, k2, k3⟩ := (Sep.star X).1 h3
      refine ⟨fun k => D1 k ∨ D2 k, ⟨D1, D2, h1, k1, fun _ => Iff.rfl, fun k hk hk' => (k2 k hk').1 (.inr hk)⟩, ?_, k3.weak ?_⟩
      · rintro k (hk | hk)
        · exact h2 k hk
        · exact ⟨fun hf => (k2 k hk).1 (.inl hf), (k2 k hk).2⟩
      · rintro k (hk | hk | hk)
        · exact .inl (.inl hk)
        · exact .inl (.inr hk)
        · exact .inr hk
    · rintro ⟨D, ⟨D1, D2, h1, h2, h3, h4⟩, k2, k3⟩
      refine ⟨D1, h1, fun k hk => k2 k ((h3 k).2 (.inl hk)), (Sep.star X).2 ⟨D2, h2, fun k hk => ⟨?_, (k2 k ((h3 k).2 (.inr hk))).2⟩, k3.weak ?_⟩⟩
      · rintro (hf | hf)
        · exact (k2 k ((h3 k).2 (.inr hk))).1 hf
        · exact h4 k hf hk
      · rintro k ((hk | hk) | hk)
        · exact .inl hk
        · exact .inr ((h3 k).2 (.inl hk))
        · exact .inr ((h3 k).2 (.inr hk))
theorem Sep.congr {A : Atom} (h : ∀ F : Nat → Prop, Sep F L w ↔ Sep F L' w) : Sep F (A :: L) w ↔ Sep F (A :: L') w :=
  ⟨fun ⟨D, h1, h2, h3⟩ => ⟨D, h1, h2, (h _).1 h3⟩, fun ⟨D, h1, h2, h3⟩ => ⟨D, h1, h2, (h _).2 h3⟩⟩
theorem Sep.star3 : Sep F (X ++ (Y ++ Z)) w ↔ Sep F [starA X, starA Y, starA Z] w :=
  (Sep.star X).trans (Sep.congr fun _ => (Sep.star Y).trans (Sep.congr fun _ => by have := Sep.star (L := []) (w := w) Z (F := ‹_›); rwa [List.append_nil] at this))
theorem Sep.perm (h : L.Perm L') : ∀ {F : Nat → Prop}, Sep F L w → Sep F L' w := by
  induction h with
  | nil => exact id
  | cons A _ ih => exact fun ⟨D, h1, h2, h3⟩ => ⟨D, h1, h2, ih h3⟩
  | swap A B _ => exact fun h => h.swap
  | trans _ _ ih1 ih2 => exact fun h => ih2 (ih1 h)
theorem St.sep' (h : St F w₀ L w) (h2 : Sep F L w → Sep F L' w) : St F w₀ L' w := ⟨h.fr, h.lt, h2 h.sep⟩
theorem St.perm (hp : L.Perm L') (h : St F w₀ L w) : St F w₀ L' w := h.sep' (Sep.perm hp)
theorem St.star (X : List Atom) : St F w₀ (X ++ L) w ↔ St F w₀ (starA X :: L) w := ⟨fun h => h.sep' (Sep.star X).1, fun h => h.sep' (Sep.star X).2⟩
theorem St.star3 : St F w₀ (X ++ (Y ++ Z)) w ↔ St F w₀ [starA X, starA Y, starA Z] w := ⟨fun h => h.sep' Sep.star3.1, fun h => h.sep' Sep.star3.2⟩
theorem St.starLast : St F w₀ (X ++ Y) w ↔ St F w₀ (X ++ [starA Y]) w := by
  have key : ∀ (X : List Atom) (F : Nat → Prop), Sep F (X ++ Y) w ↔ Sep F (X ++ [starA Y]) w := by
    intro X
    induction X with
    | nil => intro F; have := Sep.star (L := []) (w := w) Y (F := F); rwa [List.append_nil] at this
    | cons A X ih => intro F; exact Sep.congr ih
  exact ⟨fun h => h.sep' (key X F).1, fun h => h.sep' (key X F).2⟩
theorem St.exA {G : Type} {f : G → Atom} : St F w₀ (exA f :: L) w ↔ ∃ g, St F w₀ (f g :: L) w :=
  ⟨fun h => let ⟨D, ⟨g, h1⟩, h2, h3⟩ := h.sep; ⟨g, h.fr, h.lt, D, h1, h2, h3⟩, fun ⟨g, h⟩ => let ⟨D, h1, h2, h3⟩ := h.sep; ⟨h.fr, h.lt, D, ⟨g, h1⟩, h2, h3⟩⟩
theorem St.allocO (o : Obj) (h : St F w₀ L w) : St F w₀ (objB w.heap.size o :: L) (w.alloc o) :=
  h.join (L' := [objB w.heap.size o]) ⟨⟨rfl, rfl, rfl, by simp, fun k hk => Go.RowKit.Below.heap_alloc w _ k hk⟩, fun _ hk => hk,
    ⟨fun k => k = w.heap.size, ⟨fun k => Iff.rfl, World.alloc_heap_new w o⟩, fun k hk => ⟨by simp [Old]; omega, by simp; omega⟩, trivial⟩⟩
theorem St.objAt {g : Nat} {o : Obj} (h : St F w₀ (objB g o :: L) w) : w.heap[g]? = some o := let ⟨_, ⟨_, h2⟩, _⟩ := h.sep; h2
theorem St.putO {g : Nat} {o : Obj} (o' : Obj) (h : St F w₀ (objB g o :: L) w) : St F w₀ (objB g o' :: L) (w.putObj g o') := by
  obtain ⟨D, ⟨h1, h2⟩, h3, h4⟩ := h.work (i := 0) rfl
  have hlt := (Array.getElem?_eq_some_iff.1 h2).1
  have := h4 (w.putObj g o') (objB g o') D ⟨rfl, rfl, rfl, by simp, fun k hk => World.putObj_heap_other (fun e => hk.2 ((h1 k).2 e))⟩ ⟨h1, World.putObj_heap_same hlt⟩ (fun k hk => ⟨.inl hk, by simp; exact h3 k hk⟩)
  exact this
end

/-! ### Contracts -/
/-- What a call of yield does, of round i: the consumer's part turns from J i to J (i + 1), and it says true; or to Jx (i + 1), and it says false. -/
def YieldOK (P : Program) (w₀ : World) (lr : Nat) (vals : Nat → List Value) (N : Nat) (J Jx : Nat → Atom) : Prop :=
  ∀ i, i < N → ∀ A w, Sto w₀ (J i :: A) w → ∃ fn tmps assign body, (Instr.yield lr (vals i).toArray).run P w = .ok (.round lr fn tmps assign body) w ∧
    RoundIn Fence.wide 0 P lr fn tmps assign body w (fun e w' => ∃ b : Bool, e = .returned (.bool b) ∧ Sto w₀ ((if b then J (i + 1) else Jx (i + 1)) :: A) w')
/-- An iterator that tells 'vals', N of them, and keeps its part. -/
def IterC (P : Program) (w₀ : World) (gf : FuncId) (lb : List Value) (B : List Atom) (vals : Nat → List Value) (N : Nat) : Prop :=
  ∀ (lr : Nat) (J Jx : Nat → Atom) (R : Atom) (w : World), YieldOK P w₀ lr vals N J Jx → Sto w₀ (J 0 :: (B ++ [R])) w →
    Calls P gf (.func (.yield lr) #[] #[] :: lb).toArray w (fun e w' => ∃ v, e = .returned v ∧ (Sto w₀ (J N :: (B ++ [R])) w' ∨ ∃ i, i < N ∧ Sto w₀ (Jx (i + 1) :: (B ++ [R])) w'))

section
variable {P : Program} {ops : Array Oper} {S : World → Prop} {K : Act → World → Prop} {p : Plan} {n : Nat} {ds : List Deferred} {l : List (Nat × Value)} {i : Nat} {ty : TypeId} {x : Operand} {w₀ : World} {A : List Atom}
theorem s_yield (d q : Nat) {as1 : Array Operand} {ts : Array TypeId} {lr : Nat} {vals : Nat → List Value} {N i₀ : Nat} {J Jx : Nat → Atom} (hY : YieldOK P w₀ lr vals N J Jx) (hi : i₀ < N) (hJ : A[q]? = some (J i₀))
    (ho : opAt ops n l i = some (some d, .call ⟨.value x, as1, ts⟩, ty)) (hx : ev l x = some (.func (.yield lr) #[] #[])) (has : evs l as1.toList = some (vals i₀)) (hS : ∀ B w, Sto w₀ (B :: A.eraseIdx q) w → S w)
    (h1 : SXI P ops S K p n ds ((d, .bool true) :: l) (Sto w₀ (J (i₀ + 1) :: A.eraseIdx q))) (h2 : SXI P ops S K p n ds ((d, .bool false) :: l) (Sto w₀ (Jx (i₀ + 1) :: A.eraseIdx q))) :
    SXI P ops S K (.st false i p) n ds l (Sto w₀ A) := by
  refine SXI.yield (v := fun b : Bool => .bool b) (pf := fun _ => True) (C' := fun b => Sto w₀ ((if b then J (i₀ + 1) else Jx (i₀ + 1)) :: A.eraseIdx q)) ho (fun a w o he hc h3 _ => ?_) (fun b w hw => hS _ w hw) (fun b _ => ?_)
  · have hc' : Sto w₀ (J i₀ :: A.eraseIdx q) w := ⟨hc.fr, hc.lt, hc.sep.front hJ⟩
    obtain ⟨fn, tmps, assign, body, hr, hR⟩ := hY i₀ hi _ w hc'
    refine ⟨lr, fn, tmps, assign, body, w, ?_, RoundIn.mono hR (fun e w' ⟨b, he, hs⟩ => ⟨b, he, trivial, hs⟩)⟩
    have e1 : as1.map a.eval = (vals i₀).toArray := by apply Array.ext'; rw [Array.toList_map]; exact he.evs has
    simp only [execOp, h3, resolve, e1, he.ev hx, Deferred.ofValue, Sem.run_bind, Sem.run_pure, Result.andThen_ok, invoke, Array.empty_append]
    exact hr
  · cases b with
    | true => exact h1
    | false => exact h2
end

def insAll (l : List (Nat × Value)) (ps : List (Nat × Value)) : List (Nat × Value) := ps.foldl (fun l pv => ins pv.1 pv.2 l) l
theorem Env.insAll {n : Nat} : ∀ (ps : List (Nat × Value)) {l : List (Nat × Value)} {a : Act}, Env n l a → (∀ pv ∈ ps, pv.1 < n) → Env n (insAll l ps) { a with tmps := ps.foldl (fun t (pv : Nat × Value) => t.setIfInBounds pv.1 pv.2) a.tmps }
  | [], _, _, h, _ => h
  | pv :: ps, l, a, h, hp => by
    have := Env.insAll ps (h.put (hp pv (by simp)) pv.2) (fun q hq => hp q (by simp [hq]))
    exact this

abbrev mark (D : Nat) : Deferred := { target := .collected D, args := #[] }
abbrev defB (D : Nat) : Atom := objB D (.deferred (some []))

/-- How a round's body may be left. -/
def RPost {G GX : Type} (w₀ : World) (T : Atom) (LJ : Nat → G → List Atom) (pJ : Nat → G → Prop) (LX : Nat → GX → List Atom) (pX : Nat → GX → Prop) (jx : GX → Code) (i : Nat) : Exit → Act → World → Prop
  | .normal, _, w => ∃ g, pJ i g ∧ Sto w₀ (LJ i g ++ [T]) w
  | .ret, _, w => ∃ g, pX i g ∧ jx g = .ret ∧ Sto w₀ (LX i g ++ [T]) w
  | .exit id, _, w => ∃ g, pX i g ∧ jx g = .exit id ∧ Sto w₀ (LX i g ++ [T]) w
  | _, _, _ => False

section
variable {P : Program} {Rx : Exit → Act → World → Prop} {k : List KI} {n : Nat} {ds : List Deferred} {l : List (Nat × Value)} {w₀ : World} {A : List Atom}

theorem CWI.rangeFunc {G GX : Type} (LJ : Nat → G → List Atom) (pJ : Nat → G → Prop) (LX : Nat → GX → List Atom) (pX : Nat → GX → Prop) (jx : GX → Code) (g₀ : G) (LB LR : List Atom) (lbod : Nat → List (Nat × Value))
    {g : Operand} {ps : Array Tmp} {assign body : Code} {gf : FuncId} {lb : List Value} {vals : Nat → List Value} {N : Nat}
    (hg : ev l g = some (.func (.func gf) #[] lb.toArray)) [hgf : Enters P gf] (hit : IterC P w₀ gf lb LB vals N)
    (is : List Nat) (hpick : picks A is = some (LJ 0 g₀ ++ (LB ++ LR))) (hp0 : pJ 0 g₀) (hps : ∀ i, (vals i).length = ps.size) (hpn : ∀ q ∈ ps.toList, q < n)
    (hassign : ∀ (lr i : Nat) (C : World → Prop), i < N → CWI P (some lr) (fun _ _ _ => False) [.lp (fun a w => EnvD n [] (lbod i) a ∧ C w)] assign n [] (insAll l (ps.toList.zip (vals i))) C)
    (hbody : ∀ (lr : Nat) (T : Atom) (i : Nat) (g : G), i < N → pJ i g → CWI P (some lr) (RPost w₀ T LJ pJ LX pX jx (i + 1)) [] body n [] (lbod i) (Sto w₀ (LJ i g ++ [T])))
    (hdone : ∀ (D : Nat) (g : G), pJ N g → KNI P none Rx k n (mark D :: ds) l (Sto w₀ (defB D :: (LJ N g ++ (LB ++ LR)))))
    (hstop : ∀ (D i : Nat) (g : GX), i < N → pX (i + 1) g → CWI P none Rx k (jx g) n (mark D :: ds) l (Sto w₀ (defB D :: (LX (i + 1) g ++ (LB ++ LR))))) :
    CWI P none Rx k (.rangeFunc g ps assign body) n ds l (Sto w₀ A) := by
  refine ⟨fun a w he hc => wpIn_rangeFunc (F := fw none) (fun fn _ => ?_)⟩
  obtain ⟨rec, hrec⟩ : ∃ rec : LoopState → Option Code → Loop, rec = fun st pe => { state := st, pending := pe, fn, tmps := a.tmps, params := ps, assign, body, defers := w.heap.size } := ⟨_, rfl⟩
  obtain ⟨w1, hw1⟩ : ∃ w1, (w.alloc (.deferred (some []))).alloc (.loop (rec .ready none)) = w1 := ⟨_, rfl⟩
  have hst : Sto w₀ (objB (w.heap.size + 1) (.loop (rec .ready none)) :: defB w.heap.size :: (LJ 0 g₀ ++ (LB ++ LR))) w1 := by
    have h2 := ((hc.pick is hpick).allocO (.deferred (some []))).allocO (.loop (rec .ready none))
    rw [hw1, World.size_alloc] at h2
    exact h2
  let J : Nat → Atom := fun i => exA (fun g : { g : G // pJ i g } => starA (objB (w.heap.size + 1) (.loop (rec .ready none)) :: defB w.heap.size :: LJ i g.1))
  let Jx : Nat → Atom := fun i => exA (fun g : { g : GX // pX i g } => starA (objB (w.heap.size + 1) (.loop (rec .done (some (jx g.1)))) :: defB w.heap.size :: LX i g.1))
  have hY : YieldOK P w₀ (w.heap.size + 1) vals N J Jx := by
    intro i hi A' w' hJ
    obtain ⟨⟨g, hgp⟩, hJ⟩ := St.exA.1 hJ
    have hJ := (St.star _).2 hJ
    have hl := St.objAt hJ
    have hy := run_yield (P := P) (args := (vals i).toArray) hl (by rw [hrec]; simpa using hps i)
    rw [hrec] at hy
    refine ⟨fn, _, assign, body, hy, roundIn_of_wpIn (F := Fence.wide) trivial ?_⟩
    have hz : (ps.zip (vals i).toArray).foldl (fun tmps (x : Tmp × Value) => tmps.setIfInBounds x.1 x.2) a.tmps = (ps.toList.zip (vals i)).foldl (fun t (pv : Nat × Value) => t.setIfInBounds pv.1 pv.2) a.tmps := by
      rw [← Array.foldl_toList, Array.toList_zip]
    have hen : EnvD n [] (insAll l (ps.toList.zip (vals i))) { tmps := (ps.zip (vals i).toArray).foldl (fun tmps (x : Tmp × Value) => tmps.setIfInBounds x.1 x.2) a.tmps, defers := [] } := by
      refine ⟨?_, rfl⟩
      have := Env.insAll (ps.toList.zip (vals i)) he.env (fun pv hpv => hpn _ (List.of_mem_zip hpv).1)
      rw [hz]; exact this
    refine wpIn_mono ((hassign (w.heap.size + 1) i _ hi).run _ w' hen hJ) ?_
    intro e a1 w2 hk
    cases e with
    | normal =>
      obtain ⟨hea, hc2⟩ := hk
      have hl2 := St.objAt hc2
      refine ⟨_, run_beginRound hl2 (by rw [hrec]), ?_⟩
      have hc3 := St.putO (.loop { rec .ready none with state := .busy }) hc2
      let T : Atom := starA (objB (w.heap.size + 1) (.loop { rec .ready none with state := .busy }) :: defB w.heap.size :: A')
      have hT : ∀ (X : List Atom) (v : World), Sto w₀ (X ++ [T]) v ↔ Sto w₀ (objB (w.heap.size + 1) (.loop { rec .ready none with state := .busy }) :: (defB w.heap.size :: X ++ A')) v := by
        intro X v
        refine ⟨fun h => St.perm ?_ (St.starLast.2 h), fun h => St.starLast.1 (St.perm ?_ h)⟩
        · refine List.perm_middle.trans (List.Perm.cons _ ?_)
          exact List.perm_middle
        · refine (List.Perm.trans (List.Perm.cons _ ?_) List.perm_middle.symm)
          exact List.perm_middle.symm
      have hb := (hbody (w.heap.size + 1) T i g hi hgp).run a1 _ hea ((hT _ _).2 hc3)
      refine wpIn_mono hb (fun e a3 w3 hk => ?_)
      have fin : ∀ (jump : Option Code) (X : List Atom), Sto w₀ (X ++ [T]) w3 → ∃ v w', (Instr.endRound (w.heap.size + 1) jump).run P w3 = .ok v w' ∧ v = .bool jump.isNone ∧
          Sto w₀ (starA (objB (w.heap.size + 1) (.loop (rec (if jump.isNone then .ready else .done) jump)) :: defB w.heap.size :: X) :: A') w' := by
        intro jump X h3
        have h4 := (hT _ _).1 h3
        have h5 := run_endRound (P := P) jump (St.objAt h4)
        refine ⟨_, _, h5, rfl, (St.star _).1 ?_⟩
        have h6 := St.putO (.loop { rec .ready none with state := if jump.isNone then .ready else .done, pending := jump }) h4
        rw [hrec] at h6 ⊢
        exact h6
      cases e with
      | normal =>
        obtain ⟨g', hp', hs'⟩ := hk
        obtain ⟨v, w', h5, rfl, h6⟩ := fin none _ hs'
        exact ⟨_, w', h5, true, rfl, St.exA.2 ⟨⟨g', hp'⟩, h6⟩⟩
      | ret =>
        obtain ⟨g', hp', hj, hs'⟩ := hk
        obtain ⟨v, w', h5, rfl, h6⟩ := fin (some .ret) _ hs'
        exact ⟨_, w', h5, false, rfl, St.exA.2 ⟨⟨g', hp'⟩, by rw [hj]; exact h6⟩⟩
      | exit id =>
        obtain ⟨g', hp', hj, hs'⟩ := hk
        obtain ⟨v, w', h5, rfl, h6⟩ := fin (some (.exit id)) _ hs'
        exact ⟨_, w', h5, false, rfl, St.exA.2 ⟨⟨g', hp'⟩, by rw [hj]; exact h6⟩⟩
      | goto t => exact hk.elim
      | panic c => exact hk.elim
      | outgrown => exact hk.elim
    | exit id => exact hk.elim
    | goto t => exact hk.elim
    | ret => exact hk.elim
    | panic c => exact hk.elim
    | outgrown => exact hk.elim
  refine ⟨w.heap.size + 1, [mark w.heap.size], w1, { target := .fn (.func gf) lb.toArray, args := #[.func (.yield (w.heap.size + 1)) #[] #[]] }, w1, gf, (.func (.yield (w.heap.size + 1)) #[] #[] :: lb).toArray, w1, ?_, ?_, fun _ _ => trivial, ?_, fun h => by simp [Fence.wide] at h, ?_⟩
  · rw [← hw1, hrec]; exact run_enterLoop_outer _ _ _ _ _
  · simp only [resolve, he.ev hg]
    simp [Deferred.ofValue, go_sem]
  · simp only [invoke]
    have : #[Value.func (.yield (w.heap.size + 1)) #[] #[]] ++ lb.toArray = (.func (.yield (w.heap.size + 1)) #[] #[] :: lb).toArray := by simp
    rw [this]
    exact hgf.run _ _
  · refine CallsIn.mono (F := fw none) ((callsIn_wide (n := 0)).2 (hit (w.heap.size + 1) J Jx (starA LR) w1 hY ?_)) ?_
    · refine (St.exA (f := fun g : { g : G // pJ 0 g } => starA (objB (w.heap.size + 1) (.loop (rec .ready none)) :: defB w.heap.size :: LJ 0 g.1))).2 ⟨⟨g₀, hp0⟩, ?_⟩
      exact (St.starLast (X := starA (objB (w.heap.size + 1) (.loop (rec .ready none)) :: defB w.heap.size :: LJ 0 g₀) :: LB)).1 ((St.star (objB (w.heap.size + 1) (.loop (rec .ready none)) :: defB w.heap.size :: LJ 0 g₀)).1 hst)
    · have hea : EnvD n (mark w.heap.size :: ds) l { a with defers := [mark w.heap.size] ++ a.defers } := ⟨he.env, by rw [he.defers]; rfl⟩
      rintro e w' ⟨v, rfl, h | ⟨i, hi, h⟩⟩
      · obtain ⟨⟨g, hgp⟩, h⟩ := St.exA.1 h
        have h := (St.star _).2 ((St.starLast (X := starA _ :: LB)).2 h)
        have hl := St.objAt h
        refine ⟨_, _, run_endLoop hl (by rw [hrec]; simp), ?_⟩
        have h2 := (St.putO (.loop { rec .ready none with state := .exhausted }) h).tail
        rw [hrec] at h2 ⊢
        exact (hdone _ g hgp).run _ _ hea h2
      · obtain ⟨⟨g, hgp⟩, h⟩ := St.exA.1 h
        have h := (St.star _).2 ((St.starLast (X := starA _ :: LB)).2 h)
        have hl := St.objAt h
        refine ⟨_, _, run_endLoop hl (by rw [hrec]; simp), ?_⟩
        have h2 := (St.putO (.loop { rec .done (some (jx g)) with state := .exhausted }) h).tail
        rw [hrec] at h2 ⊢
        exact (hstop _ i g hi hgp).run _ _ hea h2

/-- The way out: the marks' blocks are shut. -/
theorem leaves_marks {fn : Func} {tmps : Array Value} {R : Ending → World → Prop} {L : List Atom} (hfin : ∀ w, Sto w₀ L w → ∃ v, (results fn tmps).run P w = .ok v w ∧ R (.returned v) w) :
    ∀ (Ds : List Nat) (w : World), Sto w₀ (Ds.map defB ++ L) w → LeavesInM Fence.wide 0 P fn tmps R (Ds.map mark) .returning w
  | [], w, h => hfin w h
  | D :: Ds, w, h => ⟨by simp, .inl ⟨D, _, rfl, run_takeDeferred (St.objAt h), leaves_marks hfin Ds _ (St.putO (.deferred none) h).tail⟩⟩

theorem retM {fn : Func} {R : Ending → World → Prop} {C : World → Prop} {rs : List ResultVar} {vs : List Value} {L : List Atom} (Ds : List Nat) (hds : ds = Ds.map mark) (hr : fn.results = rs.toArray) (hv : resOf l rs = some vs)
    (hC : ∀ w, C w → Sto w₀ (Ds.map defB ++ L) w) (h : ∀ w, Sto w₀ L w → R (.returned (oneOf vs)) w) : ∀ a w, EnvD n ds l a → C w → bodyPostM Fence.wide 0 P fn R .ret a w := by
  intro a w he hc
  show LeavesInM Fence.wide 0 P fn a.tmps R a.defers .returning w
  rw [he.defers, hds]
  refine leaves_marks (L := L) (fun w' hw' => ?_) Ds w (hC w hc)
  obtain ⟨_, v, h1, h2⟩ := (KN.ret (C := fun v => Sto w₀ L v) hr hv h : KN P (Rets fn R P) [] n l (fun v => Sto w₀ L v)).run _ w' he.env hw'
  exact ⟨v, h1, h2⟩
end
end Go.Sx
end
section
/- Minimal polynomials, walked. Conditions: the field was made by New. -/
namespace Go.Proofs.YtcdmmfpgeagimaaDoor
open Go Go.Sx Go.Fm
set_option maxRecDepth 100000
theorem _root_.Go.Sx.Has.star {X : List Atom} {A : Atom} {w : World} (h : Has (starA X) w) (hA : A ∈ X) : Has A w := by
  obtain ⟨D, h1, h2⟩ := h
  have key : ∀ (X : List Atom) (D : Nat → Prop), starOk X w D → (∀ k, D k → k < w.heap.size) → A ∈ X → Has A w := by
    intro X
    induction X with
    | nil => intro D _ _ hm; cases hm
    | cons B X ih =>
      rintro D ⟨D1, D2, k1, k2, k3, k4⟩ hlt hm
      rcases List.mem_cons.1 hm with rfl | hm
      · exact ⟨D1, k1, fun k hk => hlt k ((k3 k).2 (.inl hk))⟩
      · exact ih D2 k2 (fun k hk => hlt k ((k3 k).2 (.inr hk))) hm
  exact key X D h1 h2 hA
theorem _root_.Go.Sx.St.nilStar' {F : Nat → Prop} {w₀ w : World} {X : List Atom} (h : St F w₀ X w) : St F w₀ (X ++ [starA []]) w := St.starLast.1 (by rwa [List.append_nil])
theorem _root_.Go.Sx.St.moreStar {F : Nat → Prop} {w₀ w : World} {A : Atom} {X Y : List Atom} (h : St F w₀ (A :: starA X :: Y) w) : St F w₀ (starA (A :: X) :: Y) w := by
  have h1 : St F w₀ (starA X :: (A :: Y)) w := h.perm (List.Perm.swap ..)
  have h2 := (St.star X).2 h1
  exact (St.star (A :: X)).1 (h2.perm List.perm_middle)
def hd2 (b : Nat) : Value := .slice (some ⟨b, 0, none⟩) 2 2
def facI (m k : Nat) : List Int := [((exz m (k : Int) : Nat) : Int), 1]
def RL (m : Nat) (L : List Nat) : List Int := L.map (fun k : Nat => ((exz m (k : Int) : Nat) : Int))
theorem RL_at {m : Nat} {L : List Nat} {i k : Nat} (h : L[i]? = some k) : (RL m L).getD i 0 = ((exz m (k : Int) : Nat) : Int) := by
  unfold RL
  rw [List.getD_eq_getElem?_getD, List.getElem?_map, h]; rfl
theorem lo1 {m : Nat} (hm : Ok m) : lo m 1 = 1 := lo_nat (x := 1) (one_lt hm)
theorem fold_step {m : Nat} (hm : Ok m) {L : List Nat} {i k : Nat} (h : L[i]? = some k) : mulP m (trim (lowL m ((frP m (RL m L) i).map Int.ofNat))) (trim (lowL m (facI m k))) = frP m (RL m L) (i + 1) := by
  have hx := exz_lt hm (k : Int)
  have e : lowL m (facI m k) = [exz m (k : Int), 1] := by show [lo m _, lo m 1] = _; rw [lo_nat hx, lo1 hm]
  rw [(frP_tr hm _ i).low, e, (lin_tr hm hx).eq, ← frP_next hm, RL_at h, lo_nat hx]
theorem frP_min {m : Nat} (hm : Ok m) (i : Nat) : frP m (RL m (cosP m i)) (cosP m i).length = minP m i := by
  have h := frP_all hm (RL m (cosP m i))
  have hl : (RL m (cosP m i)).length = (cosP m i).length := List.length_map _
  rw [hl] at h
  rw [h]
  unfold minP
  congr 1
  unfold lowL RL
  rw [List.map_map]
  exact List.map_congr_left (fun k _ => lo_nat (exz_lt hm _))

theorem mfold_spec (r g m : Nat) (A : Option Addr) (n c : Nat) (bs L : List Nat) (w : World) (hm : Ok m) (hr : Has (ringA r g m) w) (ho : Has (sl 1 A n (bs.map hd2)) w) (hb : bs.length = n) (hL : L.length = n) (hn : n ≤ 100) (hin : ∀ (i b k : Nat), bs[i]? = some b → L[i]? = some k → Has (sl 1 (some ⟨b, 0, none⟩) 2 (ints .i64 (facI m k))) w) : SpecL Tryd.prog 148 [.slice A n c, .func (.func 150) #[.pointer (some ⟨r, 0, none⟩)] #[]] w (frP m (RL m L) n) := by
  refine spec_of Tryd.func148 rfl Tryd.ntmps148 rfl ?_
  refine CW.seq ?_
  refine CW.reg [0] rfl ?_
  refine s_as 4 rfl rfl ?_
  refine SX.next ?_
  refine CW.seq ?_
  refine CW.reg [0, 1] rfl ?_
  refine s_bsl 8 rfl rfl (cells := #[.int .i64 1]) (by kernel_rfl) rfl (fun _ _ => trivial) (fun gb => ?_)
  refine s_as 5 rfl rfl ?_
  refine SX.next ?_
  refine CW.seq ?_
  refine CW.seq ?_
  refine CW.reg [0, 1, 2] rfl ?_
  refine s_mv 9 rfl rfl ?_
  refine s_len 10 rfl rfl ?_
  refine s_mv 11 rfl rfl ?_
  refine SX.next ?_
  refine CW.block ?_
  refine CW.loop (G := Nat × Option Addr × Nat) (fun q => [(1, .func (.func 150) #[.pointer (some ⟨r, 0, none⟩)] #[]), (5, .slice q.2.1 (frP m (RL m L) q.1).length q.2.2), (9, .slice A n c), (10, .int .i64 (n : Nat)), (11, .int .i64 (q.1 : Nat))]) (fun q => Sto w [own 3 1 q.2.1 (frP m (RL m L) q.1).length q.2.2 (nats .i64 (frP m (RL m L) q.1))]) (fun q => q.1 ≤ n ∧ (frP m (RL m L) q.1).length ≤ q.2.2) (fun q => n - q.1) (0, some ⟨gb, 0, none⟩, 1) ⟨rfl, rfl, rfl, rfl, rfl, trivial⟩ (fun _ h => h.blkOwn (q := 0) (c := 1) rfl rfl (by unfold maxLen; omega)) ⟨Nat.zero_le _, Nat.le_refl _⟩ ?_
  rintro q ⟨hq, hqc⟩
  have hfl := frP_len m (RL m L) q.1
  have hft := frP_tr hm (RL m L) q.1
  refine CW.seq ?_
  refine CW.reg [0] rfl ?_
  refine s_lt 12 rfl rfl rfl rfl ?_
  refine SX.next ?_
  refine CW.seq ?_
  refine CW.test rfl (fun hc => ?_) (fun hc => ?_)
  · skip
    obtain ⟨b, hbi⟩ : ∃ b, bs[q.1]? = some b := ⟨_, List.getElem?_eq_getElem (by omega)⟩
    obtain ⟨k, hki⟩ : ∃ k, L[q.1]? = some k := ⟨_, List.getElem?_eq_getElem (by omega)⟩
    have hfs := fold_step hm hki
    have hhd : (bs.map hd2)[q.1 * 1]? = some (hd2 b) := by rw [Nat.mul_one, List.getElem?_map, hbi]; rfl
    have hxl := exz_lt hm (k : Int)
    have hfacl : (trim (lowL m (facI m k))).length ≤ 2 := by rw [trim_length]; exact Nat.le_trans (tl_le _) (by rw [lowL_len]; exact Nat.le_refl 2)
    have hfrl : (trim (lowL m ((frP m (RL m L) q.1).map Int.ofNat))).length ≤ 101 := by rw [hft.low]; omega
    refine CW.skip ?_
    refine KN.code ?_
    refine CW.seq ?_
    refine CW.block ?_
    refine CW.seq ?_
    refine CW.reg [0, 1, 2] rfl ?_
    refine s_iaV 13 q.1 (fun w hw => hw.old ho) rfl rfl rfl rfl (by omega) ?_
    refine s_ldV 14 (fun w hw => hw.old ho) rfl rfl hhd (by omega) ?_
    refine s_as 7 rfl rfl ?_
    refine SX.next ?_
    refine CW.reg [0, 1, 2, 3, 4, 5, 6, 7] rfl ?_
    refine s_mv 16 rfl rfl ?_
    refine s_mv 17 rfl rfl ?_
    refine s_mv 18 rfl rfl ?_
    refine s_call 19 rfl rfl rfl rfl (fun w hw => by have := pmul_spec r g m q.2.1 (frP m (RL m L) q.1).length q.2.2 ((frP m (RL m L) q.1).map Int.ofNat) (some ⟨b, 0, none⟩) 2 2 (facI m k) w hm (hw.old hr) (by rw [← nats_ints]; exact (hw.has (i := 0) rfl).of_own) (hw.old (hin _ _ _ hbi hki)) (by omega) (by omega) (by omega); rw [hfs] at this; exact this) (fun _ _ => trivial) (fun q19 hq19 => ?_)
    refine s_mv 15 rfl rfl ?_
    refine s_ext 20 rfl rfl rfl ?_
    refine s_ext 21 rfl rfl rfl ?_
    refine s_as 5 rfl rfl ?_
    refine SX.end_ ?_
    refine KN.blk ?_
    refine KN.code ?_
    refine CW.reg [0, 1] rfl ?_
    refine s_add 22 rfl rfl rfl (r := ((q.1 + 1 : Nat) : Int)) (w64 (by omega)) ?_
    refine s_mv 11 rfl rfl ?_
    refine SX.end_ ?_
    exact KN.back (q.1 + 1, q19.1, q19.2) ⟨rfl, rfl, rfl, rfl, rfl, trivial⟩ (fun _ h => h.pick [0] rfl) ⟨by simp only; omega, hq19⟩ (by simp only; omega)
  · skip
    obtain ⟨i, qa, qc⟩ := q
    simp only at hq hqc hfl hft
    have hqe : i = n := by simp only at hc; omega
    subst hqe
    refine CW.exit rfl ?_
    refine KN.code ?_
    refine CW.seq ?_
    refine CW.reg [0, 1] rfl ?_
    refine s_mv 23 rfl rfl ?_
    refine s_as 4 rfl rfl ?_
    refine SX.next ?_
    refine CW.ret ?_
    exact KN.ret (rs := [.tmp 4]) Tryd.results148 rfl (fun w hw => ⟨(qa, qc), rfl, hqc, hw.pick [0] rfl⟩)

theorem bit_step {F Q : List Nat} {n : Nat} (hF : ∀ j, cf F j < 2) (hn : n / 8 < Q.length) (h : ∀ j, bitN Q j = if j < n then cf F j else 0) (j : Nat) : bitN (Q.set (n / 8) (cf Q (n / 8) ||| cf F n * 2 ^ (n % 8))) j = if j < n + 1 then cf F j else 0 := by
  rcases (show cf F n = 0 ∨ cf F n = 1 by have := hF n; omega) with h0 | h1
  · rw [h0, Nat.zero_mul, Nat.or_zero]
    have e : Q.set (n / 8) (cf Q (n / 8)) = Q := by
      apply List.ext_getElem?
      intro t
      rw [List.getElem?_set]
      split
      · rename_i ht; subst ht; first | rw [if_pos hn, cf_in hn] | rw [cf_in hn]
      · rfl
    rw [e, h]
    by_cases hj : j = n
    · subst hj; rw [if_neg (by omega), if_pos (by omega), h0]
    · by_cases h2 : j < n
      · rw [if_pos h2, if_pos (by omega)]
      · rw [if_neg h2, if_neg (by omega)]
  · rw [h1, Nat.one_mul, bitN_or hn, h]
    by_cases hj : j = n
    · subst hj; rw [if_pos rfl, if_pos (by omega), h1]
    · rw [if_neg hj]
      by_cases h2 : j < n
      · rw [if_pos h2, if_pos (by omega)]
      · rw [if_neg h2, if_neg (by omega)]
theorem bys_done {F Q : List Nat} (hF : B1 F) (h0 : F.length ≠ 0) (hl : Q.length = (F.length - 1) / 8 + 1) (hq : ∀ x ∈ Q, x < 256) (h : ∀ j, bitN Q j = if j < F.length then cf F j else 0) : Q = bys F := by
  have e := bys_of hq hF (fun j => by
    rw [h]
    split
    · rfl
    · exact (cf_out (by omega)).symm)
  rw [← e]
  refine (trim_of ?_).symm
  refine Nat.le_antisymm (tl_le _) (Nat.le_of_not_lt fun hlt => ?_)
  have h1 := cf_hi Q (Q.length - 1) (by omega)
  have h2 := h (F.length - 1)
  rw [if_pos (by omega), hF.top h0] at h2
  unfold bitN at h2
  rw [show (F.length - 1) / 8 = Q.length - 1 by omega, h1] at h2
  simp at h2
theorem or_lt8b {a b n : Nat} (ha : a < 256) (hb : b < 2) (hn : n < 8) : a ||| b * 2 ^ n < 256 := by
  refine Nat.or_lt_two_pow (n := 8) ha ?_
  rcases (show b = 0 ∨ b = 1 by omega) with rfl | rfl
  · rw [Nat.zero_mul]; decide
  · rw [Nat.one_mul]; exact Nat.pow_lt_pow_right (by omega) hn
theorem bn_lt {b n : Nat} (hb : b < 2) (hn : n < 8) : b * 2 ^ n < 256 := by
  have := or_lt8b (a := 0) (by decide) hb hn
  rwa [Nat.zero_or] at this
theorem set_lt8b {Q : List Nat} {i x : Nat} (h : ∀ y ∈ Q, y < 256) (hx : x < 256) : ∀ y ∈ Q.set i x, y < 256 := fun y hy => by
  rcases List.mem_or_eq_of_mem_set hy with h1 | h1
  · exact h y h1
  · rw [h1]; exact hx
theorem rep8 (n : Nat) : List.replicate n (.int .u8 0) = nats .u8 (List.replicate n 0) := by simp [nats]

theorem mof_spec (g m : Nat) (i : Int) (w : World) (hm : Ok m) (hf : Has (fieldA g m) w) : SpecB Tryd.prog 140 [.pointer (some ⟨g, 0, none⟩), .int .i64 i] w (bys (minP m (em m i))) := by
  have hmh := hm.hi
  have hcp := cos_len_pos hm (em m i)
  have hml := minP_len hm (em m i)
  have hb1 := minP_b1 hm (em m i)
  have hfm := frP_min hm (em m i)
  refine spec_of Tryd.func140 rfl Tryd.ntmps140 rfl ?_
  refine CW.seq ?_
  refine CW.reg [0] rfl ?_
  refine s_as 4 rfl rfl ?_
  refine SX.next ?_
  refine CW.seq ?_
  refine CW.reg [0, 1, 2, 3, 4, 5, 6, 7, 8] rfl ?_
  refine s_mv 14 rfl rfl ?_
  refine s_call1 15 rfl rfl rfl rfl (fun w hw => m_spec g m w hm (hw.old hf)) (fun _ _ => trivial) ?_
  refine s_mv 16 rfl rfl ?_
  refine s_call 17 rfl rfl rfl rfl (fun w hw => coset_spec m i w hm) (fun _ _ => trivial) (fun q17 hq17 => ?_)
  refine s_mv 13 rfl rfl ?_
  refine s_ext 18 rfl rfl rfl ?_
  refine s_ext 19 rfl rfl rfl ?_
  refine s_as 5 rfl rfl ?_
  refine s_as 6 rfl rfl ?_
  refine SX.next ?_
  refine CW.seq ?_
  refine CW.reg [0] rfl ?_
  refine s_as 7 rfl rfl ?_
  refine SX.next ?_
  refine CW.seq ?_
  refine CW.seq ?_
  refine CW.reg [0, 1, 2] rfl ?_
  refine s_mv 20 rfl rfl ?_
  refine s_len 21 rfl rfl ?_
  refine s_mv 22 rfl rfl ?_
  refine SX.next ?_
  refine CW.block ?_
  refine CW.loop (G := Nat × List Nat × List Atom × Option Addr × Nat) (fun q => [(0, .pointer (some ⟨g, 0, none⟩)), (5, .slice q17.1 (cosP m (em m i)).length q17.2), (7, .slice q.2.2.2.1 q.1 q.2.2.2.2), (20, .slice q17.1 (cosP m (em m i)).length q17.2), (21, .int .i64 ((cosP m (em m i)).length : Nat)), (22, .int .i64 (q.1 : Nat))]) (fun q => Sto w [own 23 1 q.2.2.2.1 q.1 q.2.2.2.2 (q.2.1.map hd2), starA q.2.2.1, own 3 1 q17.1 (cosP m (em m i)).length q17.2 (nats .i64 (cosP m (em m i)))]) (fun q => q.1 ≤ (cosP m (em m i)).length ∧ q.2.1.length = q.1 ∧ ∀ (j b k : Nat), q.2.1[j]? = some b → (cosP m (em m i))[j]? = some k → blk b 3 #[.int .i64 (exz m (k : Int) : Nat), .int .i64 1] ∈ q.2.2.1) (fun q => (cosP m (em m i)).length - q.1) (0, [], [], none, 0) ⟨rfl, rfl, rfl, rfl, rfl, rfl, trivial⟩ (fun _ h => by
  have h1 := (h.begin_ 23 1).nilStar'
  exact h1.pick [0, 1, 0] rfl) ⟨Nat.zero_le _, rfl, fun j b k h => by simp at h⟩ ?_
  rintro ⟨j, bs, X, oa, oc⟩ ⟨hj, hbl, hin⟩
  simp only at hj hbl hin
  dsimp only
  refine CW.seq ?_
  refine CW.reg [0] rfl ?_
  refine s_lt 23 rfl rfl rfl rfl ?_
  refine SX.next ?_
  refine CW.seq ?_
  refine CW.test rfl (fun hc => ?_) (fun hc => ?_)
  · skip
    have hki := cf_in (l := (cosP m (em m i))) (j := j) (by omega)
    refine CW.skip ?_
    refine KN.code ?_
    refine CW.seq ?_
    refine CW.block ?_
    refine CW.seq ?_
    refine CW.reg [0, 1, 2] rfl ?_
    refine s_iaO 24 2 j rfl rfl rfl rfl rfl (by omega) ?_
    refine s_ldO 25 2 rfl rfl rfl (natsAtC (by omega)) ?_
    refine s_as 9 rfl rfl ?_
    refine SX.next ?_
    refine CW.reg [0, 1, 2, 3, 4, 5, 6, 7] rfl ?_
    refine s_mv 26 rfl rfl ?_
    refine s_mv 27 rfl rfl ?_
    refine s_mv 28 rfl rfl ?_
    refine s_call1 29 rfl rfl rfl rfl (fun w hw => exp_spec g m _ w hm (hw.old hf)) (fun _ _ => trivial) ?_
    refine s_bsl 30 rfl rfl (cells := #[.int .i64 (ex m (em m (cf (cosP m (em m i)) j : Nat)) : Nat), .int .i64 1]) (by kernel_rfl) rfl (fun _ _ => trivial) (fun b30 => ?_)
    refine s_bsl 31 rfl rfl (cells := #[hd2 b30]) (by kernel_rfl) rfl (fun _ _ => trivial) (fun b31 => ?_)
    refine s_app 32 2 rfl rfl rfl rfl (ys := [hd2 b30]) (fun w hw => Has.cong ((hw.has (i := 0) rfl).blk_sl (m := 1) rfl) rfl) rfl rfl (by omega) (by unfold maxLen; omega) (by omega) (fun _ _ _ _ => trivial) (fun A2 c2 hc2 => ?_)
    refine s_as 7 rfl rfl ?_
    refine SX.end_ ?_
    refine KN.blk ?_
    refine KN.code ?_
    refine CW.reg [0, 1] rfl ?_
    refine s_add 33 rfl rfl rfl (r := ((j + 1 : Nat) : Int)) (w64 (by omega)) ?_
    refine s_mv 22 rfl rfl ?_
    refine SX.end_ ?_
    exact KN.back (j + 1, bs ++ [b30], blk b30 3 #[.int .i64 (exz m (cf (cosP m (em m i)) j : Int) : Nat), .int .i64 1] :: X, A2, c2) ⟨rfl, rfl, rfl, rfl, rfl, rfl, trivial⟩ (fun _ h => by
      have h1 := h.pick [1, 2, 1, 1] rfl
      have h2 := h1.moreStar
      simp only [List.map_append, List.map_cons, List.map_nil]
      exact h2.pick [1, 0, 0] rfl) ⟨by simp only; omega, by simp only [List.length_append, List.length_singleton]; omega, fun t b k h1 h2 => by
      simp only at h1 ⊢
      by_cases ht : t < j
      · rw [List.getElem?_append_left (by omega)] at h1
        exact List.mem_cons_of_mem _ (hin t b k h1 h2)
      · have htl := (List.getElem?_eq_some_iff.1 h1).1
        rw [List.length_append, List.length_singleton] at htl
        obtain rfl : t = j := by omega
        rw [List.getElem?_append_right (by omega), hbl, Nat.sub_self] at h1
        rw [hki] at h2
        obtain rfl := Option.some.inj h1
        obtain rfl := Option.some.inj h2
        exact List.mem_cons_self ..⟩ (by simp only; omega)
  · skip
    have hje : j = (cosP m (em m i)).length := by omega
    subst hje
    refine CW.exit rfl ?_
    refine KN.code ?_
    refine CW.seq ?_
    refine CW.reg [0, 1, 2, 3, 4, 5] rfl ?_
    refine s_mv 34 rfl rfl ?_
    refine s_len 35 rfl rfl ?_
    refine s_quo 36 rfl rfl rfl (by omega) (quo8 _ (by omega)) ?_
    refine s_add 37 rfl rfl rfl (r := ((((cosP m (em m i)).length / 8 + 1) : Nat) : Int)) (w64 (by omega)) ?_
    refine s_make 38 ((cosP m (em m i)).length / 8 + 1) rfl rfl rfl rfl rfl (by omega) (fun _ _ => trivial) (fun gp => ?_)
    refine SX.pre (fun _ h => h.blkOwn (q := 0) (c := ((cosP m (em m i)).length / 8 + 1)) (sz := 1) rfl (by simp) (by unfold maxLen; omega)) ?_
    refine s_as 10 rfl rfl ?_
    refine SX.next ?_
    refine CW.seq ?_
    refine CW.seq ?_
    refine CW.reg [0, 1, 2, 3, 4, 5, 6] rfl ?_
    refine s_mv 39 rfl rfl ?_
    refine s_mv 40 rfl rfl ?_
    refine s_call 41 rfl rfl rfl rfl (fun w hw => ring_spec g w) (fun _ _ => trivial) (fun r _ => ?_)
    refine s_mkf 42 rfl rfl rfl ?_
    refine s_call 43 rfl rfl rfl rfl (fun w hw => by have := mfold_spec r g m oa (cosP m (em m i)).length oc bs (cosP m (em m i)) w hm (ring_of (hw.old hf) (hw.has (i := 0) rfl)) ((hw.has (i := 2) rfl).of_own) hbl rfl (by omega) (fun t b k h1 h2 => Has.cong (((Has.star (hw.has (i := 3) rfl) (hin t b k h1 h2))).blk_sl (m := 2) rfl) rfl); rw [hfm] at this; exact this) (fun _ _ => trivial) (fun q43 hq43 => ?_)
    refine s_len 44 rfl rfl ?_
    refine s_mv 45 rfl rfl ?_
    refine SX.next ?_
    refine CW.block ?_
    refine CW.loop (G := Nat × List Nat) (fun q => [(10, .slice (some ⟨gp, 0, none⟩) ((cosP m (em m i)).length / 8 + 1) ((cosP m (em m i)).length / 8 + 1)), (43, .slice q43.1 (minP m (em m i)).length q43.2), (44, .int .i64 ((minP m (em m i)).length : Nat)), (45, .int .i64 (q.1 : Nat))]) (fun q => Sto w [own 3 1 q43.1 (minP m (em m i)).length q43.2 (nats .i64 (minP m (em m i))), own 5 1 (some ⟨gp, 0, none⟩) ((cosP m (em m i)).length / 8 + 1) ((cosP m (em m i)).length / 8 + 1) (nats .u8 q.2)]) (fun q => q.1 ≤ (minP m (em m i)).length ∧ q.2.length = ((cosP m (em m i)).length / 8 + 1) ∧ (∀ x ∈ q.2, x < 256) ∧ ∀ j, bitN q.2 j = if j < q.1 then cf (minP m (em m i)) j else 0) (fun q => (minP m (em m i)).length - q.1) (0, List.replicate ((cosP m (em m i)).length / 8 + 1) 0) ⟨rfl, rfl, rfl, rfl, trivial⟩ (fun _ h => by
  have h1 := h.pick [0, 1] rfl
  simp only [rep8] at h1 ⊢
  exact h1) ⟨Nat.zero_le _, List.length_replicate, fun x hx => by rw [(List.mem_replicate.1 hx).2]; decide, fun j => by rw [zeros_bit, if_neg (Nat.not_lt_zero _)]⟩ ?_
    rintro ⟨n, Q⟩ ⟨hn, hQl, hQ, hQb⟩
    simp only at hn hQl hQ hQb
    dsimp only
    have hfn := hb1.le n
    have hn8 := Nat.mod_lt n (show 0 < 8 by omega)
    refine CW.seq ?_
    refine CW.reg [0] rfl ?_
    refine s_lt 46 rfl rfl rfl rfl ?_
    refine SX.next ?_
    refine CW.seq ?_
    refine CW.test rfl (fun hc => ?_) (fun hc => ?_)
    · skip
      have hqc := cf_lt8 hQ (n / 8)
      have hnb := bn_lt hfn hn8
      have hor := or_lt8b hqc hfn hn8
      have hbs := bit_step (Q := Q) (n := n) hb1.le (by omega) hQb
      refine CW.skip ?_
      refine KN.code ?_
      refine CW.seq ?_
      refine CW.block ?_
      refine CW.seq ?_
      refine CW.reg [0, 1, 2, 3, 4] rfl ?_
      refine s_mv 47 rfl rfl ?_
      refine s_iaO 48 0 n rfl rfl rfl rfl rfl (by omega) ?_
      refine s_ldO 49 0 rfl rfl rfl (natsAtC (by omega)) ?_
      refine s_as 11 rfl rfl ?_
      refine s_as 12 rfl rfl ?_
      refine SX.next ?_
      refine CW.regD (.st true 0 (.st true 1 (.st true 2 (.st true 3 (.st true 5 (.st true 6 (.st true 7 (.st true 8 (.st true 9 (.st false 4 (.st true 10 (.st true 11 (.st false 12 .done))))))))))))) (Sto w []) mixed (by kernel_rfl) (fun _ h => h.drew) (fun _ h => h.pick [] rfl) ?_
      refine s_mv 50 rfl rfl ?_
      refine s_mv 51 rfl rfl ?_
      refine s_quo 52 rfl rfl rfl (by omega) (quo8 n (by omega)) ?_
      refine s_iaO 53 1 (n / 8) rfl rfl rfl rfl rfl (by omega) ?_
      refine s_mv 55 rfl rfl ?_
      refine s_conv 56 rfl rfl (r := ((cf (minP m (em m i)) n : Nat) : Int)) (wu8 (by omega)) ?_
      refine s_mv 57 rfl rfl ?_
      refine s_rem 58 rfl rfl rfl (by omega) (tmod8 n) ?_
      refine s_shl 59 rfl rfl rfl (by omega) (r := ((cf (minP m (em m i)) n * 2 ^ (n % 8) : Nat) : Int)) (by rw [shl_u8 (by omega), Nat.mod_eq_of_lt hnb]) ?_
      refine s_ldO 54 1 rfl rfl rfl (natsAt8 (by omega)) ?_
      refine s_bit 60 rfl rfl rfl rfl (ibit_or_u8 hqc hnb) ?_
      refine s_iaO 61 1 (n / 8) rfl rfl rfl rfl rfl (by omega) ?_
      refine s_stO 1 rfl rfl rfl rfl rfl (by omega) (fun _ h => h.pick [] rfl) ?_
      refine SX.end_ ?_
      refine KN.blk ?_
      refine KN.code ?_
      refine CW.reg [0, 1] rfl ?_
      refine s_add 62 rfl rfl rfl (r := ((n + 1 : Nat) : Int)) (w64 (by omega)) ?_
      refine s_mv 45 rfl rfl ?_
      refine SX.end_ ?_
      exact KN.back (n + 1, Q.set (n / 8) (cf Q (n / 8) ||| cf (minP m (em m i)) n * 2 ^ (n % 8))) ⟨rfl, rfl, rfl, rfl, trivial⟩ (fun _ h => by simp only; rw [← nats_set]; exact h) ⟨by simp only; omega, by simp only [List.length_set]; exact hQl, set_lt8b hQ hor, hbs⟩ (by simp only; omega)
    · skip
      have hne : n = (minP m (em m i)).length := by omega
      subst hne
      have hfin := bys_done hb1 (by omega) (by omega) hQ hQb
      refine CW.exit rfl ?_
      refine KN.code ?_
      refine CW.seq ?_
      refine CW.reg [0, 1] rfl ?_
      refine s_mv 63 rfl rfl ?_
      refine s_as 4 rfl rfl ?_
      refine SX.next ?_
      refine CW.ret ?_
      exact KN.ret (rs := [.tmp 4]) Tryd.results140 rfl (fun w hw => ⟨(some ⟨gp, 0, none⟩, ((cosP m (em m i)).length / 8 + 1)), by rw [← hfin, hQl]; rfl, by rw [← hfin, hQl]; exact Nat.le_refl _, by rw [← hfin, hQl]; exact hw.pick [1] rfl⟩)
end Go.Proofs.YtcdmmfpgeagimaaDoor
end
section
/- Leaders, the generator, its degree, walked. Conditions: the field was made by New; the errors' variables. -/
namespace Go.Proofs.YtcdmmfpgeagimaaDoor
open Go Go.Sx Go.Fm
set_option maxRecDepth 100000
theorem cos_em {m : Nat} (n : Nat) : cosP m (em m (n : Int)) = cosP m n := by rw [em_nat, cos_mod]
theorem hd_cf (m i : Nat) : cf (cosP m i) 0 = hdP m i := by unfold hdP cf; cases cosP m i <;> rfl
theorem ldr_old {m k : Nat} (h : hdP m (2 * k + 1) ∈ (ldr m k).1) : ldr m (k + 1) = ldr m k := if_pos h
theorem ldr_new {m k : Nat} (h : hdP m (2 * k + 1) ∉ (ldr m k).1) : ldr m (k + 1) = ((ldr m k).1 ++ [hdP m (2 * k + 1)], (ldr m k).2 + (cosP m (2 * k + 1)).length) := if_neg h
theorem map_snoc (L : List Nat) (x : Nat) : ints .i64 (L.map Int.ofNat) ++ [.int .i64 (x : Nat)] = ints .i64 ((L ++ [x]).map Int.ofNat) := by simp [ints]
def tri (a b c : Value) : Value := .tuple #[a, b, c]

theorem lead_ok (m t : Nat) (_e : Nat → Addr) (w : World) (hm : Ok m) (h1 : 1 ≤ t) (h40 : t ≤ 40) (hd : (ldr m t).2 < N m) : SpecX Tryd.prog 137 [.int .i64 (m : Nat), .int .i64 (t : Nat)] w (X := Option Addr × Nat) (fun q => tri (.slice q.1 (ldr m t).1.length q.2) (.int .i64 ((ldr m t).2 : Nat)) .nilIface) (fun q => (ldr m t).1.length ≤ q.2) (fun q => [own 3 1 q.1 (ldr m t).1.length q.2 (ints .i64 ((ldr m t).1.map Int.ofNat))]) := by
  have hNs := N_succ m
  have hNp := N_pos hm
  have hmh := hm.hi
  have hpo := polyI_ne hm
  refine spec_of Tryd.func137 rfl Tryd.ntmps137 rfl ?_
  refine CW.seq ?_
  refine CW.reg [0, 1, 2] rfl ?_
  refine s_as 4 rfl rfl ?_
  refine s_as 5 rfl rfl ?_
  refine s_as 6 rfl rfl ?_
  refine SX.next ?_
  refine CW.seq ?_
  refine CW.block ?_
  refine CW.seq ?_
  refine CW.reg [0, 1, 2, 3] rfl ?_
  refine s_mv 13 rfl rfl ?_
  refine s_call1 14 rfl rfl rfl rfl (fun w hw => polyM_any _ w) (fun _ _ => trivial) ?_
  refine s_eq 15 rfl rfl rfl (decide_eq_false hpo) ?_
  refine s_as 12 rfl rfl ?_
  refine SX.next ?_
  refine CW.condF rfl ?_
  refine CW.seq ?_
  refine CW.reg [0, 1, 2, 3, 4, 5, 6] rfl ?_
  refine s_mv 18 rfl rfl ?_
  refine s_lt 19 rfl rfl rfl (decide_eq_false (by omega)) ?_
  refine s_mv 20 rfl rfl ?_
  refine s_mv 21 rfl rfl ?_
  refine s_gt 22 rfl rfl rfl (decide_eq_false (by omega)) ?_
  refine s_pickF 23 rfl rfl rfl ?_
  refine s_as 17 rfl rfl ?_
  refine SX.next ?_
  refine CW.condF rfl ?_
  refine CW.skip ?_
  refine KN.blk ?_
  refine KN.code ?_
  refine CW.seq ?_
  refine CW.reg [0] rfl ?_
  refine s_as 7 rfl rfl ?_
  refine SX.next ?_
  refine CW.seq ?_
  refine CW.reg [0] rfl ?_
  refine s_as 8 rfl rfl ?_
  refine SX.next ?_
  refine CW.seq ?_
  refine CW.seq ?_
  refine CW.reg [0] rfl ?_
  refine s_as 9 rfl rfl ?_
  refine SX.next ?_
  refine CW.block ?_
  refine CW.loop (G := Nat × Option Addr × Nat) (fun q => [(0, .int .i64 (m : Nat)), (1, .int .i64 (t : Nat)), (7, .slice q.2.1 (ldr m q.1).1.length q.2.2), (8, .int .i64 ((ldr m q.1).2 : Nat)), (9, .int .i64 ((2 * q.1 + 1 : Nat) : Int))]) (fun q => Sto w [own 3 1 q.2.1 (ldr m q.1).1.length q.2.2 (ints .i64 ((ldr m q.1).1.map Int.ofNat))]) (fun q => q.1 ≤ t ∧ (ldr m q.1).1.length ≤ q.2.2) (fun q => t - q.1) (0, none, 0) ⟨rfl, rfl, rfl, rfl, rfl, trivial⟩ (fun _ h => h.begin_ 3 1) ⟨Nat.zero_le _, Nat.le_refl _⟩ ?_
  rintro ⟨k, qa, qc⟩ ⟨hk, hqc⟩
  simp only at hk hqc
  dsimp only
  have hll := ldr_len (m := m) k
  have hld := ldr_le hm k
  have hmk := Nat.mul_le_mul hmh hk
  have hce := cos_em (m := m) (2 * k + 1)
  have hcp := cos_len_pos hm (2 * k + 1)
  have hh0 := hd_cf m (2 * k + 1)
  refine CW.seq ?_
  refine CW.seq ?_
  refine CW.reg [0, 1, 2, 3] rfl ?_
  refine s_mv 25 rfl rfl ?_
  refine s_mv 26 rfl rfl ?_
  refine s_mul 27 rfl rfl rfl (r := ((2 * t : Nat) : Int)) (by rw [show (2 : Int) * ((t : Nat) : Int) = ((2 * t : Nat) : Int) by omega]; exact w64 (by omega)) ?_
  refine s_lt 28 rfl rfl rfl rfl ?_
  refine SX.next ?_
  refine CW.test rfl (fun hc => ?_) (fun hc => ?_)
  · skip
    refine CW.skip ?_
    refine KN.code ?_
    refine CW.seq ?_
    refine CW.block ?_
    refine CW.seq ?_
    refine CW.reg [0, 1, 2, 3, 4, 5, 6, 7] rfl ?_
    refine s_mv 32 rfl rfl ?_
    refine s_mv 33 rfl rfl ?_
    refine s_call 34 rfl rfl rfl rfl (fun w hw => by have := coset_spec m ((2 * k + 1 : Nat) : Int) w hm; rw [hce] at this; exact this) (fun _ _ => trivial) (fun q34 hq34 => ?_)
    refine s_mv 31 rfl rfl ?_
    refine s_ext 35 rfl rfl rfl ?_
    refine s_ext 36 rfl rfl rfl ?_
    refine s_as 10 rfl rfl ?_
    refine s_as 11 rfl rfl ?_
    refine SX.next ?_
    refine CW.seq ?_
    refine CW.seq ?_
    refine CW.reg [0, 1] rfl ?_
    refine s_mv 37 rfl rfl ?_
    refine s_neNN 38 rfl rfl ?_
    refine SX.next ?_
    refine CW.condF rfl ?_
    refine CW.skip ?_
    refine KN.code ?_
    refine CW.seq ?_
    refine CW.reg [0, 1, 2, 3, 4, 5] rfl ?_
    refine s_mv 40 rfl rfl ?_
    refine s_mv 41 rfl rfl ?_
    refine s_iaO 42 0 0 rfl rfl rfl rfl rfl (by omega) ?_
    refine s_ldO 43 0 rfl rfl rfl (natsAtC (by omega)) ?_
    refine s_call1 44 rfl rfl rfl rfl (v := .bool (decide (cf (cosP m (2 * k + 1)) 0 ∈ (ldr m k).1))) (fun w hw => by have := has_spec qa (ldr m k).1.length qc ((ldr m k).1.map Int.ofNat) (cf (cosP m (2 * k + 1)) 0 : Nat) w ((hw.has (i := 1) rfl).of_own) (by omega); rw [decide_eq_decide.2 mem_nat] at this; exact this) (fun _ _ => trivial) ?_
    refine s_not 45 rfl rfl ?_
    refine SX.next ?_
    refine CW.cond rfl (fun hc => ?_) (fun hc => ?_)
    · skip
      have hno : hdP m (2 * k + 1) ∉ (ldr m k).1 := by rw [← hh0]; simpa using hc
      have hnx := ldr_new hno
      refine CW.seq ?_
      refine CW.reg [0, 1, 2, 3, 4, 5, 6] rfl ?_
      refine s_mv 46 rfl rfl ?_
      refine s_mv 47 rfl rfl ?_
      refine s_iaO 48 0 0 rfl rfl rfl rfl rfl (by omega) ?_
      refine s_ldO 49 0 rfl rfl rfl (natsAtC (by omega)) ?_
      refine s_bsl 50 rfl rfl (cells := #[.int .i64 (cf (cosP m (2 * k + 1)) 0 : Nat)]) (by kernel_rfl) rfl (fun _ _ => trivial) (fun gb => ?_)
      refine s_app 51 2 rfl rfl rfl rfl (ys := [.int .i64 (cf (cosP m (2 * k + 1)) 0 : Nat)]) (fun w hw => Has.cong ((hw.has (i := 0) rfl).blk_sl (m := 1) rfl) rfl) rfl rfl (by omega) (by unfold maxLen; omega) (by omega) (fun _ _ _ _ => trivial) (fun A2 c2 hc2 => ?_)
      refine s_as 7 rfl rfl ?_
      refine SX.next ?_
      refine CW.reg [0, 1, 2, 3, 4] rfl ?_
      refine s_mv 52 rfl rfl ?_
      refine s_mv 53 rfl rfl ?_
      refine s_len 54 rfl rfl ?_
      refine s_add 55 rfl rfl rfl (r := (((ldr m k).2 + (cosP m (2 * k + 1)).length : Nat) : Int)) (w64 (by omega)) ?_
      refine s_as 8 rfl rfl ?_
      refine SX.end_ ?_
      refine KN.blk ?_
      refine KN.code ?_
      refine CW.reg [0, 1, 2] rfl ?_
      refine s_mv 29 rfl rfl ?_
      refine s_add 30 rfl rfl rfl (r := ((2 * (k + 1) + 1 : Nat) : Int)) (by rw [show ((2 * k + 1 : Nat) : Int) + 2 = ((2 * (k + 1) + 1 : Nat) : Int) by omega]; exact w64 (by omega)) ?_
      refine s_as 9 rfl rfl ?_
      refine SX.end_ ?_
      exact KN.back (k + 1, A2, c2) ⟨rfl, rfl, by simp only [hnx, List.length_append]; rfl, by simp only [hnx]; rfl, rfl, trivial⟩ (fun _ h => by
        have h1 := h.pick [2] rfl
        simp only [hnx, List.length_append, List.length_singleton]
        rw [map_snoc, hh0] at h1
        exact h1) ⟨by simp only; omega, by simp only [hnx, List.length_append, List.length_singleton]; exact hc2⟩ (by simp only; omega)
    · skip
      have hyes : hdP m (2 * k + 1) ∈ (ldr m k).1 := by rw [← hh0]; simpa using hc
      have hnx := ldr_old hyes
      refine CW.skip ?_
      refine KN.blk ?_
      refine KN.code ?_
      refine CW.reg [0, 1, 2] rfl ?_
      refine s_mv 29 rfl rfl ?_
      refine s_add 30 rfl rfl rfl (r := ((2 * (k + 1) + 1 : Nat) : Int)) (by rw [show ((2 * k + 1 : Nat) : Int) + 2 = ((2 * (k + 1) + 1 : Nat) : Int) by omega]; exact w64 (by omega)) ?_
      refine s_as 9 rfl rfl ?_
      refine SX.end_ ?_
      exact KN.back (k + 1, qa, qc) ⟨rfl, rfl, by simp only [hnx]; rfl, by simp only [hnx]; rfl, rfl, trivial⟩ (fun _ h => by simp only [hnx]; exact h.pick [1] rfl) ⟨by simp only; omega, by simp only [hnx]; exact hqc⟩ (by simp only; omega)
  · skip
    have hke : k = t := by omega
    subst hke
    refine CW.exit rfl ?_
    refine KN.code ?_
    refine CW.seq ?_
    refine CW.seq ?_
    refine CW.reg [0, 1, 2, 3, 4] rfl ?_
    refine s_mv 56 rfl rfl ?_
    refine s_mv 57 rfl rfl ?_
    refine s_shl 58 rfl rfl rfl (by omega) (shl_one hm) ?_
    refine s_sub 59 rfl rfl rfl (r := (((N m) : Nat) : Int)) (by rw [show (((N m) + 1 : Nat) : Int) - 1 = (((N m) : Nat) : Int) by omega]; exact w64 (by omega)) ?_
    refine s_ge 60 rfl rfl rfl (decide_eq_false (by omega)) ?_
    refine SX.next ?_
    refine CW.condF rfl ?_
    refine CW.skip ?_
    refine KN.code ?_
    refine CW.seq ?_
    refine CW.reg [0, 1, 2, 3, 4] rfl ?_
    refine s_mv 62 rfl rfl ?_
    refine s_mv 63 rfl rfl ?_
    refine s_as 4 rfl rfl ?_
    refine s_as 5 rfl rfl ?_
    refine s_as 6 rfl rfl ?_
    refine SX.next ?_
    refine CW.ret ?_
    exact KN.ret (rs := [.tmp 4, .tmp 5, .tmp 6]) Tryd.results137 rfl (fun w hw => ⟨(qa, qc), rfl, hqc, hw⟩)

theorem lead_code (m t : Nat) (e : Nat → Addr) (w : World) (hm : Ok m) (h1 : 1 ≤ t) (h40 : t ≤ 40) (he : Er e w 6) (hd : ¬ (ldr m t).2 < N m) : Spec1 Tryd.prog 137 [.int .i64 (m : Nat), .int .i64 (t : Nat)] w (tri (.slice none 0 0) (.int .i64 0) (errV e 6)) := by
  have hNs := N_succ m
  have hNp := N_pos hm
  have hmh := hm.hi
  have hpo := polyI_ne hm
  refine spec_of Tryd.func137 rfl Tryd.ntmps137 rfl ?_
  refine CW.seq ?_
  refine CW.reg [0, 1, 2] rfl ?_
  refine s_as 4 rfl rfl ?_
  refine s_as 5 rfl rfl ?_
  refine s_as 6 rfl rfl ?_
  refine SX.next ?_
  refine CW.seq ?_
  refine CW.block ?_
  refine CW.seq ?_
  refine CW.reg [0, 1, 2, 3] rfl ?_
  refine s_mv 13 rfl rfl ?_
  refine s_call1 14 rfl rfl rfl rfl (fun w hw => polyM_any _ w) (fun _ _ => trivial) ?_
  refine s_eq 15 rfl rfl rfl (decide_eq_false hpo) ?_
  refine s_as 12 rfl rfl ?_
  refine SX.next ?_
  refine CW.condF rfl ?_
  refine CW.seq ?_
  refine CW.reg [0, 1, 2, 3, 4, 5, 6] rfl ?_
  refine s_mv 18 rfl rfl ?_
  refine s_lt 19 rfl rfl rfl (decide_eq_false (by omega)) ?_
  refine s_mv 20 rfl rfl ?_
  refine s_mv 21 rfl rfl ?_
  refine s_gt 22 rfl rfl rfl (decide_eq_false (by omega)) ?_
  refine s_pickF 23 rfl rfl rfl ?_
  refine s_as 17 rfl rfl ?_
  refine SX.next ?_
  refine CW.condF rfl ?_
  refine CW.skip ?_
  refine KN.blk ?_
  refine KN.code ?_
  refine CW.seq ?_
  refine CW.reg [0] rfl ?_
  refine s_as 7 rfl rfl ?_
  refine SX.next ?_
  refine CW.seq ?_
  refine CW.reg [0] rfl ?_
  refine s_as 8 rfl rfl ?_
  refine SX.next ?_
  refine CW.seq ?_
  refine CW.seq ?_
  refine CW.reg [0] rfl ?_
  refine s_as 9 rfl rfl ?_
  refine SX.next ?_
  refine CW.block ?_
  refine CW.loop (G := Nat × Option Addr × Nat) (fun q => [(0, .int .i64 (m : Nat)), (1, .int .i64 (t : Nat)), (7, .slice q.2.1 (ldr m q.1).1.length q.2.2), (8, .int .i64 ((ldr m q.1).2 : Nat)), (9, .int .i64 ((2 * q.1 + 1 : Nat) : Int))]) (fun q => Sto w [own 3 1 q.2.1 (ldr m q.1).1.length q.2.2 (ints .i64 ((ldr m q.1).1.map Int.ofNat))]) (fun q => q.1 ≤ t ∧ (ldr m q.1).1.length ≤ q.2.2) (fun q => t - q.1) (0, none, 0) ⟨rfl, rfl, rfl, rfl, rfl, trivial⟩ (fun _ h => h.begin_ 3 1) ⟨Nat.zero_le _, Nat.le_refl _⟩ ?_
  rintro ⟨k, qa, qc⟩ ⟨hk, hqc⟩
  simp only at hk hqc
  dsimp only
  have hll := ldr_len (m := m) k
  have hld := ldr_le hm k
  have hmk := Nat.mul_le_mul hmh hk
  have hce := cos_em (m := m) (2 * k + 1)
  have hcp := cos_len_pos hm (2 * k + 1)
  have hh0 := hd_cf m (2 * k + 1)
  refine CW.seq ?_
  refine CW.seq ?_
  refine CW.reg [0, 1, 2, 3] rfl ?_
  refine s_mv 25 rfl rfl ?_
  refine s_mv 26 rfl rfl ?_
  refine s_mul 27 rfl rfl rfl (r := ((2 * t : Nat) : Int)) (by rw [show (2 : Int) * ((t : Nat) : Int) = ((2 * t : Nat) : Int) by omega]; exact w64 (by omega)) ?_
  refine s_lt 28 rfl rfl rfl rfl ?_
  refine SX.next ?_
  refine CW.test rfl (fun hc => ?_) (fun hc => ?_)
  · skip
    refine CW.skip ?_
    refine KN.code ?_
    refine CW.seq ?_
    refine CW.block ?_
    refine CW.seq ?_
    refine CW.reg [0, 1, 2, 3, 4, 5, 6, 7] rfl ?_
    refine s_mv 32 rfl rfl ?_
    refine s_mv 33 rfl rfl ?_
    refine s_call 34 rfl rfl rfl rfl (fun w hw => by have := coset_spec m ((2 * k + 1 : Nat) : Int) w hm; rw [hce] at this; exact this) (fun _ _ => trivial) (fun q34 hq34 => ?_)
    refine s_mv 31 rfl rfl ?_
    refine s_ext 35 rfl rfl rfl ?_
    refine s_ext 36 rfl rfl rfl ?_
    refine s_as 10 rfl rfl ?_
    refine s_as 11 rfl rfl ?_
    refine SX.next ?_
    refine CW.seq ?_
    refine CW.seq ?_
    refine CW.reg [0, 1] rfl ?_
    refine s_mv 37 rfl rfl ?_
    refine s_neNN 38 rfl rfl ?_
    refine SX.next ?_
    refine CW.condF rfl ?_
    refine CW.skip ?_
    refine KN.code ?_
    refine CW.seq ?_
    refine CW.reg [0, 1, 2, 3, 4, 5] rfl ?_
    refine s_mv 40 rfl rfl ?_
    refine s_mv 41 rfl rfl ?_
    refine s_iaO 42 0 0 rfl rfl rfl rfl rfl (by omega) ?_
    refine s_ldO 43 0 rfl rfl rfl (natsAtC (by omega)) ?_
    refine s_call1 44 rfl rfl rfl rfl (v := .bool (decide (cf (cosP m (2 * k + 1)) 0 ∈ (ldr m k).1))) (fun w hw => by have := has_spec qa (ldr m k).1.length qc ((ldr m k).1.map Int.ofNat) (cf (cosP m (2 * k + 1)) 0 : Nat) w ((hw.has (i := 1) rfl).of_own) (by omega); rw [decide_eq_decide.2 mem_nat] at this; exact this) (fun _ _ => trivial) ?_
    refine s_not 45 rfl rfl ?_
    refine SX.next ?_
    refine CW.cond rfl (fun hc => ?_) (fun hc => ?_)
    · skip
      have hno : hdP m (2 * k + 1) ∉ (ldr m k).1 := by rw [← hh0]; simpa using hc
      have hnx := ldr_new hno
      refine CW.seq ?_
      refine CW.reg [0, 1, 2, 3, 4, 5, 6] rfl ?_
      refine s_mv 46 rfl rfl ?_
      refine s_mv 47 rfl rfl ?_
      refine s_iaO 48 0 0 rfl rfl rfl rfl rfl (by omega) ?_
      refine s_ldO 49 0 rfl rfl rfl (natsAtC (by omega)) ?_
      refine s_bsl 50 rfl rfl (cells := #[.int .i64 (cf (cosP m (2 * k + 1)) 0 : Nat)]) (by kernel_rfl) rfl (fun _ _ => trivial) (fun gb => ?_)
      refine s_app 51 2 rfl rfl rfl rfl (ys := [.int .i64 (cf (cosP m (2 * k + 1)) 0 : Nat)]) (fun w hw => Has.cong ((hw.has (i := 0) rfl).blk_sl (m := 1) rfl) rfl) rfl rfl (by omega) (by unfold maxLen; omega) (by omega) (fun _ _ _ _ => trivial) (fun A2 c2 hc2 => ?_)
      refine s_as 7 rfl rfl ?_
      refine SX.next ?_
      refine CW.reg [0, 1, 2, 3, 4] rfl ?_
      refine s_mv 52 rfl rfl ?_
      refine s_mv 53 rfl rfl ?_
      refine s_len 54 rfl rfl ?_
      refine s_add 55 rfl rfl rfl (r := (((ldr m k).2 + (cosP m (2 * k + 1)).length : Nat) : Int)) (w64 (by omega)) ?_
      refine s_as 8 rfl rfl ?_
      refine SX.end_ ?_
      refine KN.blk ?_
      refine KN.code ?_
      refine CW.reg [0, 1, 2] rfl ?_
      refine s_mv 29 rfl rfl ?_
      refine s_add 30 rfl rfl rfl (r := ((2 * (k + 1) + 1 : Nat) : Int)) (by rw [show ((2 * k + 1 : Nat) : Int) + 2 = ((2 * (k + 1) + 1 : Nat) : Int) by omega]; exact w64 (by omega)) ?_
      refine s_as 9 rfl rfl ?_
      refine SX.end_ ?_
      exact KN.back (k + 1, A2, c2) ⟨rfl, rfl, by simp only [hnx, List.length_append]; rfl, by simp only [hnx]; rfl, rfl, trivial⟩ (fun _ h => by
        have h1 := h.pick [2] rfl
        simp only [hnx, List.length_append, List.length_singleton]
        rw [map_snoc, hh0] at h1
        exact h1) ⟨by simp only; omega, by simp only [hnx, List.length_append, List.length_singleton]; exact hc2⟩ (by simp only; omega)
    · skip
      have hyes : hdP m (2 * k + 1) ∈ (ldr m k).1 := by rw [← hh0]; simpa using hc
      have hnx := ldr_old hyes
      refine CW.skip ?_
      refine KN.blk ?_
      refine KN.code ?_
      refine CW.reg [0, 1, 2] rfl ?_
      refine s_mv 29 rfl rfl ?_
      refine s_add 30 rfl rfl rfl (r := ((2 * (k + 1) + 1 : Nat) : Int)) (by rw [show ((2 * k + 1 : Nat) : Int) + 2 = ((2 * (k + 1) + 1 : Nat) : Int) by omega]; exact w64 (by omega)) ?_
      refine s_as 9 rfl rfl ?_
      refine SX.end_ ?_
      exact KN.back (k + 1, qa, qc) ⟨rfl, rfl, by simp only [hnx]; rfl, by simp only [hnx]; rfl, rfl, trivial⟩ (fun _ h => by simp only [hnx]; exact h.pick [1] rfl) ⟨by simp only; omega, by simp only [hnx]; exact hqc⟩ (by simp only; omega)
  · skip
    have hke : k = t := by omega
    subst hke
    refine CW.exit rfl ?_
    refine KN.code ?_
    refine CW.seq ?_
    refine CW.seq ?_
    refine CW.reg [0, 1, 2, 3, 4] rfl ?_
    refine s_mv 56 rfl rfl ?_
    refine s_mv 57 rfl rfl ?_
    refine s_shl 58 rfl rfl rfl (by omega) (shl_one hm) ?_
    refine s_sub 59 rfl rfl rfl (r := (((N m) : Nat) : Int)) (by rw [show (((N m) + 1 : Nat) : Int) - 1 = (((N m) : Nat) : Int) by omega]; exact w64 (by omega)) ?_
    refine s_ge 60 rfl rfl rfl (decide_eq_true (by omega)) ?_
    refine SX.next ?_
    refine CW.condT rfl ?_
    refine CW.seq ?_
    refine CW.regD (.st true 0 (.st true 1 (.st true 2 (.st true 3 .done)))) (Sto w []) mixed (by kernel_rfl) (fun _ h => h.drew) (fun _ h => h.pick [] rfl) ?_
    refine s_ldS 61 rfl rfl (fun _ h => h.cell he) ?_
    refine s_as 4 rfl rfl ?_
    refine s_as 5 rfl rfl ?_
    refine s_as 6 rfl rfl ?_
    refine SX.next ?_
    refine CW.ret ?_
    exact KN.ret (rs := [.tmp 4, .tmp 5, .tmp 6]) Tryd.results137 rfl (fun w hw => ⟨rfl, hw.nothing⟩)

theorem lead_num (m : Nat) (t : Int) (e : Nat → Addr) (w : World) (hm : Ok m) (ht : t < 1 ∨ 40 < t) (he : Er e w 1) : Spec1 Tryd.prog 137 [.int .i64 (m : Nat), .int .i64 t] w (tri (.slice none 0 0) (.int .i64 0) (errV e 1)) := by
  have hpo := polyI_ne hm
  refine spec_of Tryd.func137 rfl Tryd.ntmps137 rfl ?_
  refine CW.seq ?_
  refine CW.reg [0, 1, 2] rfl ?_
  refine s_as 4 rfl rfl ?_
  refine s_as 5 rfl rfl ?_
  refine s_as 6 rfl rfl ?_
  refine SX.next ?_
  refine CW.seq ?_
  refine CW.block ?_
  refine CW.seq ?_
  refine CW.reg [0, 1, 2, 3] rfl ?_
  refine s_mv 13 rfl rfl ?_
  refine s_call1 14 rfl rfl rfl rfl (fun w hw => polyM_any _ w) (fun _ _ => trivial) ?_
  refine s_eq 15 rfl rfl rfl (decide_eq_false hpo) ?_
  refine s_as 12 rfl rfl ?_
  refine SX.next ?_
  refine CW.condF rfl ?_
  refine CW.seq ?_
  refine CW.reg [0, 1, 2, 3, 4, 5, 6] rfl ?_
  refine s_mv 18 rfl rfl ?_
  refine s_lt 19 rfl rfl rfl rfl ?_
  refine s_mv 20 rfl rfl ?_
  refine SX.bool 20 rfl (fun hb => ?_) (fun hb => ?_)
  · skip
    skip
    refine SX.skip rfl ?_
    refine SX.skip rfl ?_
    refine s_pickT 23 rfl rfl rfl ?_
    refine s_as 17 rfl rfl ?_
    refine SX.next ?_
    refine CW.condT rfl ?_
    refine CW.seq ?_
    refine CW.regD (.st true 0 (.st true 1 (.st true 2 (.st true 3 .done)))) (Sto w []) mixed (by kernel_rfl) (fun _ h => h.drew) (fun _ h => h.pick [] rfl) ?_
    refine s_ldS 24 rfl rfl (fun _ h => h.cell he) ?_
    refine s_as 4 rfl rfl ?_
    refine s_as 5 rfl rfl ?_
    refine s_as 6 rfl rfl ?_
    refine SX.next ?_
    refine CW.ret ?_
    exact KN.ret (rs := [.tmp 4, .tmp 5, .tmp 6]) Tryd.results137 rfl (fun w hw => ⟨rfl, hw.nothing⟩)
  · skip
    have hp1 := of_decide_eq_false hb
    refine s_mv 21 rfl rfl ?_
    refine s_gt 22 rfl rfl rfl (decide_eq_true (by omega)) ?_
    refine s_pickF 23 rfl rfl rfl ?_
    refine s_as 17 rfl rfl ?_
    refine SX.next ?_
    refine CW.condT rfl ?_
    refine CW.seq ?_
    refine CW.regD (.st true 0 (.st true 1 (.st true 2 (.st true 3 .done)))) (Sto w []) mixed (by kernel_rfl) (fun _ h => h.drew) (fun _ h => h.pick [] rfl) ?_
    refine s_ldS 24 rfl rfl (fun _ h => h.cell he) ?_
    refine s_as 4 rfl rfl ?_
    refine s_as 5 rfl rfl ?_
    refine s_as 6 rfl rfl ?_
    refine SX.next ?_
    refine CW.ret ?_
    exact KN.ret (rs := [.tmp 4, .tmp 5, .tmp 6]) Tryd.results137 rfl (fun w hw => ⟨rfl, hw.nothing⟩)

theorem lead_field (m t : Int) (e : Nat → Addr) (w : World) (hm : m < 3 ∨ 14 < m) (he : Er e w 7) : Spec1 Tryd.prog 137 [.int .i64 m, .int .i64 t] w (tri (.slice none 0 0) (.int .i64 0) (errV e 7)) := by
  have hpo := (polyI_zero m).2 hm
  refine spec_of Tryd.func137 rfl Tryd.ntmps137 rfl ?_
  refine CW.seq ?_
  refine CW.reg [0, 1, 2] rfl ?_
  refine s_as 4 rfl rfl ?_
  refine s_as 5 rfl rfl ?_
  refine s_as 6 rfl rfl ?_
  refine SX.next ?_
  refine CW.seq ?_
  refine CW.block ?_
  refine CW.seq ?_
  refine CW.reg [0, 1, 2, 3] rfl ?_
  refine s_mv 13 rfl rfl ?_
  refine s_call1 14 rfl rfl rfl rfl (fun w hw => polyM_any _ w) (fun _ _ => trivial) ?_
  refine s_eq 15 rfl rfl rfl (decide_eq_true hpo) ?_
  refine s_as 12 rfl rfl ?_
  refine SX.next ?_
  refine CW.condT rfl ?_
  refine CW.seq ?_
  refine CW.regD (.st true 0 (.st true 1 (.st true 2 (.st true 3 .done)))) (Sto w []) mixed (by kernel_rfl) (fun _ h => h.drew) (fun _ h => h.pick [] rfl) ?_
  refine s_ldS 16 rfl rfl (fun _ h => h.cell he) ?_
  refine s_as 4 rfl rfl ?_
  refine s_as 5 rfl rfl ?_
  refine s_as 6 rfl rfl ?_
  refine SX.next ?_
  refine CW.ret ?_
  exact KN.ret (rs := [.tmp 4, .tmp 5, .tmp 6]) Tryd.results137 rfl (fun w hw => ⟨rfl, hw.nothing⟩)

theorem least_ok (m t : Nat) (e : Nat → Addr) (w : World) (hm : Ok m) (h1 : 1 ≤ t) (h40 : t ≤ 40) (hd : (ldr m t).2 < N m) : Spec1 Tryd.prog 118 [.int .i64 (m : Nat), .int .i64 (t : Nat)] w (two (.int .i64 ((ldr m t).2 : Nat)) .nilIface) := by
  refine spec_of Tryd.func118 rfl Tryd.ntmps118 rfl ?_
  refine CW.seq ?_
  refine CW.reg [0, 1] rfl ?_
  refine s_as 4 rfl rfl ?_
  refine s_as 5 rfl rfl ?_
  refine SX.next ?_
  refine CW.seq ?_
  refine CW.reg [0, 1, 2, 3, 4, 5, 6, 7, 8, 9] rfl ?_
  refine s_mv 10 rfl rfl ?_
  refine s_mv 11 rfl rfl ?_
  refine s_call 12 rfl rfl rfl rfl (fun w hw => lead_ok m t e w hm h1 h40 hd) (fun _ _ => trivial) (fun q hq => ?_)
  refine s_mv 9 rfl rfl ?_
  refine s_ext 13 rfl rfl rfl ?_
  refine s_ext 14 rfl rfl rfl ?_
  refine s_ext 15 rfl rfl rfl ?_
  refine s_as 6 rfl rfl ?_
  refine s_as 7 rfl rfl ?_
  refine s_as 8 rfl rfl ?_
  refine SX.next ?_
  refine CW.seq ?_
  refine CW.reg [0, 1, 2, 3] rfl ?_
  refine s_mv 16 rfl rfl ?_
  refine s_mv 17 rfl rfl ?_
  refine s_as 4 rfl rfl ?_
  refine s_as 5 rfl rfl ?_
  refine SX.next ?_
  refine CW.ret ?_
  exact KN.ret (rs := [.tmp 4, .tmp 5]) Tryd.results118 rfl (fun w hw => ⟨rfl, hw.nothing⟩)

theorem least_code (m t : Nat) (e : Nat → Addr) (w : World) (hm : Ok m) (h1 : 1 ≤ t) (h40 : t ≤ 40) (he : Er e w 6) (hd : ¬ (ldr m t).2 < N m) : Spec1 Tryd.prog 118 [.int .i64 (m : Nat), .int .i64 (t : Nat)] w (two (.int .i64 0) (errV e 6)) := by
  refine spec_of Tryd.func118 rfl Tryd.ntmps118 rfl ?_
  refine CW.seq ?_
  refine CW.reg [0, 1] rfl ?_
  refine s_as 4 rfl rfl ?_
  refine s_as 5 rfl rfl ?_
  refine SX.next ?_
  refine CW.seq ?_
  refine CW.reg [0, 1, 2, 3, 4, 5, 6, 7, 8, 9] rfl ?_
  refine s_mv 10 rfl rfl ?_
  refine s_mv 11 rfl rfl ?_
  refine s_call1 12 rfl rfl rfl rfl (fun w hw => lead_code m t e w hm h1 h40 (hw.er he) hd) (fun _ _ => trivial) ?_
  refine s_mv 9 rfl rfl ?_
  refine s_ext 13 rfl rfl rfl ?_
  refine s_ext 14 rfl rfl rfl ?_
  refine s_ext 15 rfl rfl rfl ?_
  refine s_as 6 rfl rfl ?_
  refine s_as 7 rfl rfl ?_
  refine s_as 8 rfl rfl ?_
  refine SX.next ?_
  refine CW.seq ?_
  refine CW.reg [0, 1, 2, 3] rfl ?_
  refine s_mv 16 rfl rfl ?_
  refine s_mv 17 rfl rfl ?_
  refine s_as 4 rfl rfl ?_
  refine s_as 5 rfl rfl ?_
  refine SX.next ?_
  refine CW.ret ?_
  exact KN.ret (rs := [.tmp 4, .tmp 5]) Tryd.results118 rfl (fun w hw => ⟨rfl, hw.nothing⟩)

theorem least_num (m : Nat) (t : Int) (e : Nat → Addr) (w : World) (hm : Ok m) (ht : t < 1 ∨ 40 < t) (he : Er e w 1) : Spec1 Tryd.prog 118 [.int .i64 (m : Nat), .int .i64 t] w (two (.int .i64 0) (errV e 1)) := by
  refine spec_of Tryd.func118 rfl Tryd.ntmps118 rfl ?_
  refine CW.seq ?_
  refine CW.reg [0, 1] rfl ?_
  refine s_as 4 rfl rfl ?_
  refine s_as 5 rfl rfl ?_
  refine SX.next ?_
  refine CW.seq ?_
  refine CW.reg [0, 1, 2, 3, 4, 5, 6, 7, 8, 9] rfl ?_
  refine s_mv 10 rfl rfl ?_
  refine s_mv 11 rfl rfl ?_
  refine s_call1 12 rfl rfl rfl rfl (fun w hw => lead_num m t e w hm ht (hw.er he)) (fun _ _ => trivial) ?_
  refine s_mv 9 rfl rfl ?_
  refine s_ext 13 rfl rfl rfl ?_
  refine s_ext 14 rfl rfl rfl ?_
  refine s_ext 15 rfl rfl rfl ?_
  refine s_as 6 rfl rfl ?_
  refine s_as 7 rfl rfl ?_
  refine s_as 8 rfl rfl ?_
  refine SX.next ?_
  refine CW.seq ?_
  refine CW.reg [0, 1, 2, 3] rfl ?_
  refine s_mv 16 rfl rfl ?_
  refine s_mv 17 rfl rfl ?_
  refine s_as 4 rfl rfl ?_
  refine s_as 5 rfl rfl ?_
  refine SX.next ?_
  refine CW.ret ?_
  exact KN.ret (rs := [.tmp 4, .tmp 5]) Tryd.results118 rfl (fun w hw => ⟨rfl, hw.nothing⟩)

theorem least_field (m t : Int) (e : Nat → Addr) (w : World) (hm : m < 3 ∨ 14 < m) (he : Er e w 7) : Spec1 Tryd.prog 118 [.int .i64 m, .int .i64 t] w (two (.int .i64 0) (errV e 7)) := by
  refine spec_of Tryd.func118 rfl Tryd.ntmps118 rfl ?_
  refine CW.seq ?_
  refine CW.reg [0, 1] rfl ?_
  refine s_as 4 rfl rfl ?_
  refine s_as 5 rfl rfl ?_
  refine SX.next ?_
  refine CW.seq ?_
  refine CW.reg [0, 1, 2, 3, 4, 5, 6, 7, 8, 9] rfl ?_
  refine s_mv 10 rfl rfl ?_
  refine s_mv 11 rfl rfl ?_
  refine s_call1 12 rfl rfl rfl rfl (fun w hw => lead_field m t e w hm (hw.er he)) (fun _ _ => trivial) ?_
  refine s_mv 9 rfl rfl ?_
  refine s_ext 13 rfl rfl rfl ?_
  refine s_ext 14 rfl rfl rfl ?_
  refine s_ext 15 rfl rfl rfl ?_
  refine s_as 6 rfl rfl ?_
  refine s_as 7 rfl rfl ?_
  refine s_as 8 rfl rfl ?_
  refine SX.next ?_
  refine CW.seq ?_
  refine CW.reg [0, 1, 2, 3] rfl ?_
  refine s_mv 16 rfl rfl ?_
  refine s_mv 17 rfl rfl ?_
  refine s_as 4 rfl rfl ?_
  refine s_as 5 rfl rfl ?_
  refine SX.next ?_
  refine CW.ret ?_
  exact KN.ret (rs := [.tmp 4, .tmp 5]) Tryd.results118 rfl (fun w hw => ⟨rfl, hw.nothing⟩)

/-! ### The product -/
def hdB (m : Nat) (q : (Option Addr × Nat) × Nat) : Value := .slice q.1.1 (bys (minP m q.2)).length q.1.2
theorem gen_take {m : Nat} (hm : Ok m) {L : List Nat} {i k : Nat} (h : L[i]? = some k) : genL m (L.take (i + 1)) = mulP 3 (genL m (L.take i)) (minP m k) := by
  rw [List.take_add_one, h]
  exact gen_snoc hm _ _
theorem bys_one : bys [1] = [1] := by decide +kernel

theorem mprod_spec (m : Nat) (A : Option Addr) (n c : Nat) (qs : List ((Option Addr × Nat) × Nat)) (w : World) (hm : Ok m) (ho : Has (sl 1 A n (qs.map (hdB m))) w) (hb : qs.length = n) (hn : n ≤ 40) (hcs : ∀ q ∈ qs, (bys (minP m q.2)).length ≤ q.1.2) (hin : ∀ q ∈ qs, Has (sl 1 q.1.1 (bys (minP m q.2)).length (nats .u8 (bys (minP m q.2)))) w) : SpecX Tryd.prog 141 [.slice A n c, .func (.func 28) #[] #[]] w (X := Option Addr × Nat) (fun q => two (.slice q.1 (bys (genL m ((qs.map (·.2)).take n))).length q.2) .nilIface) (fun q => (bys (genL m ((qs.map (·.2)).take n))).length ≤ q.2) (fun q => [own 5 1 q.1 (bys (genL m ((qs.map (·.2)).take n))).length q.2 (nats .u8 (bys (genL m ((qs.map (·.2)).take n))))]) := by
  have hmh := hm.hi
  refine spec_of Tryd.func141 rfl Tryd.ntmps141 rfl ?_
  refine CW.seq ?_
  refine CW.reg [0, 1] rfl ?_
  refine s_as 4 rfl rfl ?_
  refine s_as 5 rfl rfl ?_
  refine SX.next ?_
  refine CW.seq ?_
  refine CW.reg [0, 1] rfl ?_
  refine s_bsl 10 rfl rfl (cells := #[.int .u8 1]) (by kernel_rfl) rfl (fun _ _ => trivial) (fun gb => ?_)
  refine s_as 6 rfl rfl ?_
  refine SX.next ?_
  refine CW.seq ?_
  refine CW.reg [0] rfl ?_
  refine s_as 7 rfl rfl ?_
  refine SX.next ?_
  refine CW.seq ?_
  refine CW.seq ?_
  refine CW.reg [0, 1, 2] rfl ?_
  refine s_mv 11 rfl rfl ?_
  refine s_len 12 rfl rfl ?_
  refine s_mv 13 rfl rfl ?_
  refine SX.next ?_
  refine CW.block ?_
  refine CW.loop (G := Nat × Option Addr × Nat) (fun q => [(1, .func (.func 28) #[] #[]), (6, .slice q.2.1 (bys (genL m ((qs.map (·.2)).take q.1))).length q.2.2), (11, .slice A n c), (12, .int .i64 (n : Nat)), (13, .int .i64 (q.1 : Nat))]) (fun q => Sto w [own 5 1 q.2.1 (bys (genL m ((qs.map (·.2)).take q.1))).length q.2.2 (nats .u8 (bys (genL m ((qs.map (·.2)).take q.1))))]) (fun q => q.1 ≤ n ∧ (bys (genL m ((qs.map (·.2)).take q.1))).length ≤ q.2.2) (fun q => n - q.1) (0, some ⟨gb, 0, none⟩, 1) ⟨rfl, by rw [show bys (genL m ((qs.map (·.2)).take 0)) = [1] from bys_one]; rfl, rfl, rfl, rfl, trivial⟩ (fun _ h => by
  have h1 := h.blkOwn (q := 0) (c := 1) (sz := 1) rfl rfl (by unfold maxLen; omega)
  have e : bys (genL m ((qs.map (·.2)).take 0)) = [1] := bys_one
  simp only [e]
  exact h1) ⟨Nat.zero_le _, by rw [show bys (genL m ((qs.map (·.2)).take 0)) = [1] from bys_one]; exact Nat.le_refl _⟩ ?_
  rintro ⟨i, qa, qc⟩ ⟨hi, hqc⟩
  simp only at hi hqc
  dsimp only
  have hgb := gen_b1 hm ((qs.map (·.2)).take i)
  have hgl := gen_len hm ((qs.map (·.2)).take i)
  have hgs := gen_deg hm ((qs.map (·.2)).take i)
  have hgt : ((qs.map (·.2)).take i).length ≤ 40 := by rw [List.length_take, List.length_map]; omega
  have hmm := Nat.mul_le_mul hmh hgt
  have hbl := bys_len (genL m ((qs.map (·.2)).take i))
  refine CW.seq ?_
  refine CW.reg [0] rfl ?_
  refine s_lt 14 rfl rfl rfl rfl ?_
  refine SX.next ?_
  refine CW.seq ?_
  refine CW.test rfl (fun hc => ?_) (fun hc => ?_)
  · skip
    obtain ⟨z, hzi⟩ : ∃ z, qs[i]? = some z := ⟨_, List.getElem?_eq_getElem (by omega)⟩
    have hzm := List.mem_of_getElem? hzi
    have hki : (qs.map (·.2))[i]? = some z.2 := by rw [List.getElem?_map, hzi]; rfl
    have hgt2 := gen_take hm hki
    have hhd : (qs.map (hdB m))[i * 1]? = some (hdB m z) := by rw [Nat.mul_one, List.getElem?_map, hzi]; rfl
    have hmb := minP_b1 hm z.2
    have hml := minP_len hm z.2
    have hcl := cos_len_pos hm z.2
    have hbm := bys_len (minP m z.2)
    generalize genL m ((qs.map (·.2)).take i) = G at hgb hgl hgs hbl hgt2 hqc ⊢
    generalize hQ : minP m z.2 = Q at hgt2 hmb hml hbm
    have hcz := hcs z hzm
    have hiz := hin z hzm
    have hhz : hdB m z = .slice z.1.1 (bys Q).length z.1.2 := by unfold hdB; rw [hQ]
    rw [hQ] at hcz hiz
    rw [hhz] at hhd
    refine CW.skip ?_
    refine KN.code ?_
    refine CW.seq ?_
    refine CW.block ?_
    refine CW.seq ?_
    refine CW.reg [0, 1, 2] rfl ?_
    refine s_iaV 15 i (fun w hw => hw.old ho) rfl rfl rfl rfl (by omega) ?_
    refine s_ldV 16 (fun w hw => hw.old ho) rfl rfl hhd (by omega) ?_
    refine s_as 9 rfl rfl ?_
    refine SX.next ?_
    refine CW.seq ?_
    refine CW.reg [0, 1, 2, 3, 4, 5, 6, 7, 8] rfl ?_
    refine s_mv 18 rfl rfl ?_
    refine s_mv 19 rfl rfl ?_
    refine s_mv 20 rfl rfl ?_
    refine s_call 21 rfl rfl rfl rfl (fun w hw => by have := bmul_spec qa (bys G).length qc (bys G) z.1.1 (bys Q).length z.1.2 (bys Q) w ((hw.has (i := 0) rfl).of_own) (bys_lt hgb) (by omega) hqc (hw.old hiz) (bys_lt hmb) (by omega) hcz (by rw [bl_bys hgb, bl_bys hmb]; omega); rw [bl_bys hgb, bl_bys hmb, ← hgt2] at this; exact this) (fun _ _ => trivial) (fun q21 hq21 => ?_)
    refine s_mv 17 rfl rfl ?_
    refine s_ext 22 rfl rfl rfl ?_
    refine s_ext 23 rfl rfl rfl ?_
    refine s_as 6 rfl rfl ?_
    refine s_as 7 rfl rfl ?_
    refine SX.next ?_
    refine CW.seq ?_
    refine CW.reg [0, 1] rfl ?_
    refine s_mv 24 rfl rfl ?_
    refine s_neNN 25 rfl rfl ?_
    refine SX.next ?_
    refine CW.condF rfl ?_
    refine CW.skip ?_
    refine KN.blk ?_
    refine KN.code ?_
    refine CW.reg [0, 1] rfl ?_
    refine s_add 27 rfl rfl rfl (r := ((i + 1 : Nat) : Int)) (w64 (by omega)) ?_
    refine s_mv 13 rfl rfl ?_
    refine SX.end_ ?_
    exact KN.back (i + 1, q21.1, q21.2) ⟨rfl, rfl, rfl, rfl, rfl, trivial⟩ (fun _ h => h.pick [0] rfl) ⟨by simp only; omega, hq21⟩ (by simp only; omega)
  · skip
    have hie : i = n := by omega
    subst hie
    refine CW.exit rfl ?_
    refine KN.code ?_
    refine CW.seq ?_
    refine CW.reg [0, 1, 2] rfl ?_
    refine s_mv 28 rfl rfl ?_
    refine s_as 4 rfl rfl ?_
    refine s_as 5 rfl rfl ?_
    refine SX.next ?_
    refine CW.ret ?_
    exact KN.ret (rs := [.tmp 4, .tmp 5]) Tryd.results141 rfl (fun w hw => ⟨(qa, qc), rfl, hqc, hw.pick [0] rfl⟩)
end Go.Proofs.YtcdmmfpgeagimaaDoor
end
section
/- The generator, all cosets, the chapter's examples, walked. Conditions: the field was made by New; the errors' variables. -/
namespace Go.Proofs.YtcdmmfpgeagimaaDoor
open Go Go.Sx Go.Fm
set_option maxRecDepth 100000
theorem ldr_lt {m : Nat} (hm : Ok m) {t x : Nat} (hx : x ∈ (ldr m t).1) : x < N m := by
  obtain ⟨j, _, e⟩ := ldr_mem hm hx
  rw [e]
  exact cos_lt hm (hd_mem hm _)
theorem em_small {m : Nat} {k : Nat} (h : k < N m) : em m (k : Int) = k := by rw [em_nat, Nat.mod_eq_of_lt h]

theorem gen_ok (g m t : Nat) (e : Nat → Addr) (w : World) (hm : Ok m) (hf : Has (fieldA g m) w) (h1 : 1 ≤ t) (h40 : t ≤ 40) (hd : (ldr m t).2 < N m) : SpecX Tryd.prog 120 [.pointer (some ⟨g, 0, none⟩), .int .i64 (t : Nat)] w (X := Option Addr × Nat) (fun q => two (.slice q.1 (bys (genL m (ldr m t).1)).length q.2) .nilIface) (fun q => (bys (genL m (ldr m t).1)).length ≤ q.2) (fun q => [own 5 1 q.1 (bys (genL m (ldr m t).1)).length q.2 (nats .u8 (bys (genL m (ldr m t).1)))]) := by
  have hll := ldr_len (m := m) t
  have hmh := hm.hi
  refine spec_of Tryd.func120 rfl Tryd.ntmps120 rfl ?_
  refine CW.seq ?_
  refine CW.reg [0, 1] rfl ?_
  refine s_as 4 rfl rfl ?_
  refine s_as 5 rfl rfl ?_
  refine SX.next ?_
  refine CW.seq ?_
  refine CW.reg [0, 1, 2, 3, 4, 5, 6, 7, 8, 9, 10] rfl ?_
  refine s_mv 13 rfl rfl ?_
  refine s_call1 14 rfl rfl rfl rfl (fun w hw => m_spec g m w hm (hw.old hf)) (fun _ _ => trivial) ?_
  refine s_mv 15 rfl rfl ?_
  refine s_call 16 rfl rfl rfl rfl (fun w hw => lead_ok m t e w hm h1 h40 hd) (fun _ _ => trivial) (fun q16 hq16 => ?_)
  refine s_mv 12 rfl rfl ?_
  refine s_ext 17 rfl rfl rfl ?_
  refine s_ext 18 rfl rfl rfl ?_
  refine s_ext 19 rfl rfl rfl ?_
  refine s_as 6 rfl rfl ?_
  refine s_as 7 rfl rfl ?_
  refine s_as 8 rfl rfl ?_
  refine SX.next ?_
  refine CW.seq ?_
  refine CW.seq ?_
  refine CW.reg [0, 1] rfl ?_
  refine s_mv 20 rfl rfl ?_
  refine s_neNN 21 rfl rfl ?_
  refine SX.next ?_
  refine CW.condF rfl ?_
  refine CW.skip ?_
  refine KN.code ?_
  refine CW.seq ?_
  refine CW.reg [0] rfl ?_
  refine s_as 9 rfl rfl ?_
  refine SX.next ?_
  refine CW.seq ?_
  refine CW.seq ?_
  refine CW.reg [0, 1, 2] rfl ?_
  refine s_mv 23 rfl rfl ?_
  refine s_len 24 rfl rfl ?_
  refine s_mv 25 rfl rfl ?_
  refine SX.next ?_
  refine CW.block ?_
  refine CW.loop (G := Nat × List ((Option Addr × Nat) × Nat) × List Atom × Option Addr × Nat) (fun q => [(0, .pointer (some ⟨g, 0, none⟩)), (9, .slice q.2.2.2.1 q.1 q.2.2.2.2), (23, .slice q16.1 (ldr m t).1.length q16.2), (24, .int .i64 ((ldr m t).1.length : Nat)), (25, .int .i64 (q.1 : Nat))]) (fun q => Sto w [own 47 1 q.2.2.2.1 q.1 q.2.2.2.2 (q.2.1.map (hdB m)), starA q.2.2.1, own 3 1 q16.1 (ldr m t).1.length q16.2 (ints .i64 ((ldr m t).1.map Int.ofNat))]) (fun q => q.1 ≤ (ldr m t).1.length ∧ q.2.1.length = q.1 ∧ q.2.1.map (·.2) = (ldr m t).1.take q.1 ∧ (∀ z ∈ q.2.1, (bys (minP m z.2)).length ≤ z.1.2) ∧ ∀ z ∈ q.2.1, own 5 1 z.1.1 (bys (minP m z.2)).length z.1.2 (nats .u8 (bys (minP m z.2))) ∈ q.2.2.1) (fun q => (ldr m t).1.length - q.1) (0, [], [], none, 0) ⟨rfl, rfl, rfl, rfl, rfl, trivial⟩ (fun _ h => by
  have h1 := (h.begin_ 47 1).nilStar'
  exact h1.pick [0, 1, 0] rfl) ⟨Nat.zero_le _, rfl, rfl, (fun z hz => by cases hz), (fun z hz => by cases hz)⟩ ?_
  rintro ⟨i, qs, X, oa, oc⟩ ⟨hi, hql, hqm, hqc, hqX⟩
  simp only at hi hql hqm hqc hqX
  dsimp only
  refine CW.seq ?_
  refine CW.reg [0] rfl ?_
  refine s_lt 26 rfl rfl rfl rfl ?_
  refine SX.next ?_
  refine CW.seq ?_
  refine CW.test rfl (fun hc => ?_) (fun hc => ?_)
  · skip
    have hki := cf_in (l := (ldr m t).1) (j := i) (by omega)
    have hkl := ldr_lt hm (List.mem_of_getElem? hki)
    have hke := em_small hkl
    refine CW.skip ?_
    refine KN.code ?_
    refine CW.seq ?_
    refine CW.block ?_
    refine CW.seq ?_
    refine CW.reg [0, 1, 2] rfl ?_
    refine s_iaO 27 2 i rfl rfl rfl rfl rfl (by omega) ?_
    refine s_ldO 28 2 rfl rfl rfl (v := .int .i64 (cf (ldr m t).1 i : Nat)) (by rw [← nats_ints]; exact natsAtC (by omega)) ?_
    refine s_as 11 rfl rfl ?_
    refine SX.next ?_
    refine CW.reg [0, 1, 2, 3, 4, 5, 6] rfl ?_
    refine s_mv 29 rfl rfl ?_
    refine s_mv 30 rfl rfl ?_
    refine s_mv 31 rfl rfl ?_
    refine s_call 32 rfl rfl rfl rfl (fun w hw => by have := mof_spec g m (cf (ldr m t).1 i : Nat) w hm (hw.old hf); rw [hke] at this; exact this) (fun _ _ => trivial) (fun q32 hq32 => ?_)
    refine s_bsl 33 rfl rfl (cells := #[hdB m (q32, cf (ldr m t).1 i)]) (by kernel_rfl) rfl (fun _ _ => trivial) (fun b33 => ?_)
    refine s_app 34 2 rfl rfl rfl rfl (ys := [hdB m (q32, cf (ldr m t).1 i)]) (fun w hw => Has.cong ((hw.has (i := 0) rfl).blk_sl (m := 1) rfl) rfl) rfl rfl (by omega) (by unfold maxLen; omega) (by omega) (fun _ _ _ _ => trivial) (fun A2 c2 hc2 => ?_)
    refine s_as 9 rfl rfl ?_
    refine SX.end_ ?_
    refine KN.blk ?_
    refine KN.code ?_
    refine CW.reg [0, 1] rfl ?_
    refine s_add 35 rfl rfl rfl (r := ((i + 1 : Nat) : Int)) (w64 (by omega)) ?_
    refine s_mv 25 rfl rfl ?_
    refine SX.end_ ?_
    exact KN.back (i + 1, qs ++ [(q32, cf (ldr m t).1 i)], own 5 1 q32.1 (bys (minP m (cf (ldr m t).1 i))).length q32.2 (nats .u8 (bys (minP m (cf (ldr m t).1 i)))) :: X, A2, c2) ⟨rfl, rfl, rfl, rfl, rfl, trivial⟩ (fun _ h => by
      have h1 := h.pick [1, 2, 1, 1] rfl
      have h2 := h1.moreStar
      simp only [List.map_append, List.map_cons, List.map_nil]
      exact h2.pick [1, 0, 0] rfl) ⟨by simp only; omega, by simp only [List.length_append, List.length_singleton]; omega, by
      simp only [List.map_append, List.map_cons, List.map_nil]
      rw [List.take_add_one, hki, hqm]; rfl, fun z hz => by
      rcases List.mem_append.1 hz with h | h
      · exact hqc z h
      · rw [List.mem_singleton.1 h]; exact hq32, fun z hz => by
      rcases List.mem_append.1 hz with h | h
      · exact List.mem_cons_of_mem _ (hqX z h)
      · rw [List.mem_singleton.1 h]; exact List.mem_cons_self ..⟩ (by simp only; omega)
  · skip
    have hie : i = (ldr m t).1.length := by omega
    have hfin : genL m ((qs.map (·.2)).take i) = genL m (ldr m t).1 := by rw [hqm, List.take_take, Nat.min_self, hie, List.take_length]
    refine CW.exit rfl ?_
    refine KN.code ?_
    refine CW.seq ?_
    refine CW.reg [0, 1, 2, 3, 4, 5] rfl ?_
    refine s_mv 36 rfl rfl ?_
    refine s_call 37 rfl rfl rfl rfl (fun w hw => by have := mprod_spec m oa i oc qs w hm ((hw.has (i := 0) rfl).of_own) hql (by omega) hqc (fun z hz => (Has.star (hw.has (i := 1) rfl) (hqX z hz)).of_own); rw [hfin] at this; exact this) (fun _ _ => trivial) (fun q37 hq37 => ?_)
    refine s_ext 38 rfl rfl rfl ?_
    refine s_ext 39 rfl rfl rfl ?_
    refine s_as 4 rfl rfl ?_
    refine s_as 5 rfl rfl ?_
    refine SX.next ?_
    refine CW.ret ?_
    exact KN.ret (rs := [.tmp 4, .tmp 5]) Tryd.results120 rfl (fun w hw => ⟨q37, rfl, hq37, hw.pick [0] rfl⟩)

theorem gen_code (g m t : Nat) (e : Nat → Addr) (w : World) (hm : Ok m) (hf : Has (fieldA g m) w) (h1 : 1 ≤ t) (h40 : t ≤ 40) (he : Er e w 6) (hd : ¬ (ldr m t).2 < N m) : Spec1 Tryd.prog 120 [.pointer (some ⟨g, 0, none⟩), .int .i64 (t : Nat)] w (errRes e 6) := by
  refine spec_of Tryd.func120 rfl Tryd.ntmps120 rfl ?_
  refine CW.seq ?_
  refine CW.reg [0, 1] rfl ?_
  refine s_as 4 rfl rfl ?_
  refine s_as 5 rfl rfl ?_
  refine SX.next ?_
  refine CW.seq ?_
  refine CW.reg [0, 1, 2, 3, 4, 5, 6, 7, 8, 9, 10] rfl ?_
  refine s_mv 13 rfl rfl ?_
  refine s_call1 14 rfl rfl rfl rfl (fun w hw => m_spec g m w hm (hw.old hf)) (fun _ _ => trivial) ?_
  refine s_mv 15 rfl rfl ?_
  refine s_call1 16 rfl rfl rfl rfl (fun w hw => lead_code m t e w hm h1 h40 (hw.er he) hd) (fun _ _ => trivial) ?_
  refine s_mv 12 rfl rfl ?_
  refine s_ext 17 rfl rfl rfl ?_
  refine s_ext 18 rfl rfl rfl ?_
  refine s_ext 19 rfl rfl rfl ?_
  refine s_as 6 rfl rfl ?_
  refine s_as 7 rfl rfl ?_
  refine s_as 8 rfl rfl ?_
  refine SX.next ?_
  refine CW.seq ?_
  refine CW.seq ?_
  refine CW.reg [0, 1] rfl ?_
  refine s_mv 20 rfl rfl ?_
  refine s_neHN 21 rfl rfl ?_
  refine SX.next ?_
  refine CW.condT rfl ?_
  refine CW.seq ?_
  refine CW.reg [0, 1, 2] rfl ?_
  refine s_mv 22 rfl rfl ?_
  refine s_as 4 rfl rfl ?_
  refine s_as 5 rfl rfl ?_
  refine SX.next ?_
  refine CW.ret ?_
  exact KN.ret (rs := [.tmp 4, .tmp 5]) Tryd.results120 rfl (fun w hw => ⟨rfl, hw.nothing⟩)

theorem gen_num (g m : Nat) (t : Int) (e : Nat → Addr) (w : World) (hm : Ok m) (hf : Has (fieldA g m) w) (ht : t < 1 ∨ 40 < t) (he : Er e w 1) : Spec1 Tryd.prog 120 [.pointer (some ⟨g, 0, none⟩), .int .i64 t] w (errRes e 1) := by
  refine spec_of Tryd.func120 rfl Tryd.ntmps120 rfl ?_
  refine CW.seq ?_
  refine CW.reg [0, 1] rfl ?_
  refine s_as 4 rfl rfl ?_
  refine s_as 5 rfl rfl ?_
  refine SX.next ?_
  refine CW.seq ?_
  refine CW.reg [0, 1, 2, 3, 4, 5, 6, 7, 8, 9, 10] rfl ?_
  refine s_mv 13 rfl rfl ?_
  refine s_call1 14 rfl rfl rfl rfl (fun w hw => m_spec g m w hm (hw.old hf)) (fun _ _ => trivial) ?_
  refine s_mv 15 rfl rfl ?_
  refine s_call1 16 rfl rfl rfl rfl (fun w hw => lead_num m t e w hm ht (hw.er he)) (fun _ _ => trivial) ?_
  refine s_mv 12 rfl rfl ?_
  refine s_ext 17 rfl rfl rfl ?_
  refine s_ext 18 rfl rfl rfl ?_
  refine s_ext 19 rfl rfl rfl ?_
  refine s_as 6 rfl rfl ?_
  refine s_as 7 rfl rfl ?_
  refine s_as 8 rfl rfl ?_
  refine SX.next ?_
  refine CW.seq ?_
  refine CW.seq ?_
  refine CW.reg [0, 1] rfl ?_
  refine s_mv 20 rfl rfl ?_
  refine s_neHN 21 rfl rfl ?_
  refine SX.next ?_
  refine CW.condT rfl ?_
  refine CW.seq ?_
  refine CW.reg [0, 1, 2] rfl ?_
  refine s_mv 22 rfl rfl ?_
  refine s_as 4 rfl rfl ?_
  refine s_as 5 rfl rfl ?_
  refine SX.next ?_
  refine CW.ret ?_
  exact KN.ret (rs := [.tmp 4, .tmp 5]) Tryd.results120 rfl (fun w hw => ⟨rfl, hw.nothing⟩)

theorem ok4m : Ok 4 := ⟨by decide, by decide⟩
theorem ex_m1 : cosP 4 (em 4 5) = [5, 10] := by decide +kernel
theorem ex_m2 : bys (genL 4 (ldr 4 2).1) = [209, 1] := by decide +kernel
theorem ex_m3 : (ldr 4 2).2 < N 4 := by decide +kernel
theorem ex_m4 : ¬ (ldr 4 8).2 < N 4 := by decide +kernel
theorem ex_m5 : bys (minP 4 (em 4 3)) = [31] := by decide +kernel
def mkm (k : Int) (m : Int) : Nat := (m % k).toNat + 3
theorem mkm_val {k : Int} (hk : 0 < k) (m : Int) : (m.tmod k + k).tmod k = (((m % k).toNat : Nat) : Int) := by
  have h1 := Int.emod_nonneg m (b := k) (by omega)
  have hb := tmod_lt2 hk m
  rw [Int.tmod_eq_emod_of_nonneg (by omega), Int.add_emod_right, tmod_emod]
  omega
theorem mkm_bd {k : Int} (hk : 0 < k) (m : Int) : 3 ≤ mkm k m ∧ ((mkm k m : Nat) : Int) < k + 3 := by
  have h1 := Int.emod_nonneg m (b := k) (by omega)
  have h2 := Int.emod_lt_of_pos m hk
  unfold mkm
  omega
theorem mkm_ok {k : Int} (hk : 0 < k) (hk2 : k ≤ 12) (m : Int) : Ok (mkm k m) := by
  have := mkm_bd hk m
  exact ⟨this.1, by omega⟩
end Go.Proofs.YtcdmmfpgeagimaaDoor
end
section
/- The contracts of shaleref2's polynomials: they are those of package fieldpoly. Conditions: an m that may be; the lists are read where they lie. -/
namespace Go.Proofs.YtcdmmfpgeagimaaDoor
open Go.Sx Go.Fm
set_option maxRecDepth 100000
theorem _root_.Go.Sx.St.ownCut {F : Nat → Prop} {w₀ w : World} {L : List Atom} {q k E sz m c : Nat} {A : Option Addr} {xs : List Value} (hi : L[q]? = some (own E sz A m c xs)) (hk : k ≤ m) (h : St F w₀ L w) : St F w₀ (L.set q (own E sz A k c (xs.take (k * sz)))) w :=
  h.swap hi (fun _ D ⟨⟨h1, h2⟩, hD⟩ _ => ⟨D, ⟨⟨by rw [List.length_take, h1]; exact Nat.min_eq_left (Nat.mul_le_mul_right _ hk), by
    rcases h2 with ⟨h2, h3⟩ | ⟨g, cap, cur, hv, hb, hh, hc, hm, hs, ht⟩
    · injection h2 with h4 h5 h6
      exact .inl ⟨by rw [h4, h6, show k = 0 by omega], by omega⟩
    · injection hv with h4 h5 h6
      refine .inr ⟨g, cap, cur, by rw [h4, h6], hb, hh, by omega, hm, hs, ?_⟩
      rw [← ht, List.take_take, Nat.min_eq_left (Nat.mul_le_mul_right _ hk)]⟩, hD⟩, fun _ h => h⟩)

theorem lowL_take2 {m : Nat} {l : List Int} {i : Nat} (h : i < l.length) : (lowL m l).take (i + 1) = (lowL m l).take i ++ [lo m (l.getD i 0)] := by
  have e1 : (lowL m l).take (i + 1) = lowL m (l.take (i + 1)) := by simp [lowL, List.map_take]
  have e2 : (lowL m l).take i = lowL m (l.take i) := by simp [lowL, List.map_take]
  rw [e1, e2, lowL_take m l h]
theorem cf_take {a : List Nat} {k j : Nat} (h : j < k) : cf (a.take k) j = cf a j := by
  unfold cf
  simp only [List.getD_eq_getElem?_getD]
  rw [List.getElem?_take, if_pos h]

theorem rtrim_spec (m : Nat) (A : Option Addr) (n c : Nat) (l : List Int) (w : World) (hm : Ok m) (ha : Has (sl 1 A n (ints .i64 l)) w) (hn : n ≤ 4294967296) : SpecL Tryd.prog 164 [.int .i64 (m : Nat), .slice A n c] w (trim (lowL m l)) := by
  have hla := ints_len ha
  subst hla
  have hlen := lowL_len m l
  have htl := tl_le (lowL m l)
  refine spec_of Tryd.func164 rfl Tryd.ntmps164 rfl ?_
  refine CW.seq ?_
  refine CW.reg [0] rfl ?_
  refine s_as 4 rfl rfl ?_
  refine SX.next ?_
  refine CW.seq ?_
  refine CW.reg [0] rfl ?_
  refine s_as 5 rfl rfl ?_
  refine SX.next ?_
  refine CW.seq ?_
  refine CW.seq ?_
  refine CW.reg [0] rfl ?_
  refine s_as 6 rfl rfl ?_
  refine SX.next ?_
  refine CW.block ?_
  refine CW.loop (G := Nat × Option Addr × Nat) (fun q => [(0, .int .i64 (m : Nat)), (1, .slice A l.length c), (5, .slice q.2.1 q.1 q.2.2), (6, .int .i64 (q.1 : Nat))]) (fun q => Sto w [own 3 1 q.2.1 q.1 q.2.2 (nats .i64 ((lowL m l).take q.1))]) (fun q => q.1 ≤ l.length ∧ q.1 ≤ q.2.2) (fun q => l.length - q.1) (0, none, 0) ⟨rfl, rfl, rfl, rfl, trivial⟩ (fun _ h => h.begin_ _ 1) ⟨Nat.zero_le _, Nat.le_refl _⟩ ?_
  intro q hq
  have hq0 := hq.1
  have hqc := hq.2
  refine CW.seq ?_
  refine CW.seq ?_
  refine CW.reg [0, 1, 2, 3] rfl ?_
  refine s_mv 7 rfl rfl ?_
  refine s_mv 8 rfl rfl ?_
  refine s_len 9 rfl rfl ?_
  refine s_lt 10 rfl rfl rfl rfl ?_
  refine SX.next ?_
  refine CW.test rfl (fun hc => ?_) (fun hc => ?_)
  · skip
    refine CW.skip ?_
    refine KN.code ?_
    refine CW.seq ?_
    refine CW.block ?_
    refine CW.reg [0, 1, 2, 3, 4, 5, 6, 7, 8, 9] rfl ?_
    refine s_mv 13 rfl rfl ?_
    refine s_mv 14 rfl rfl ?_
    refine s_mv 15 rfl rfl ?_
    refine s_mv 16 rfl rfl ?_
    refine s_iaV 17 q.1 (fun w hw => hw.old ha) rfl rfl rfl rfl (by omega) ?_
    refine s_ldV 18 (fun w hw => hw.old ha) rfl rfl (by rw [Nat.mul_one]; exact intsAt (by omega)) (by omega) ?_
    refine s_call1 19 rfl rfl rfl rfl (fun w hw => rlow_spec m _ _ hm) (fun _ _ => trivial) ?_
    refine s_bsl 20 rfl rfl (cells := #[.int .i64 (lo m (l.getD q.1 0) : Nat)]) (by kernel_rfl) rfl (fun _ _ => trivial) (fun gb => ?_)
    refine s_app 21 1 rfl rfl rfl rfl (ys := [.int .i64 (lo m (l.getD q.1 0) : Nat)]) (fun w hw => Has.cong ((hw.has (i := 0) rfl).blk_sl (m := 1) rfl) rfl) rfl rfl (by omega) (by unfold maxLen; omega) (by omega) (fun _ _ _ _ => trivial) (fun A2 c2 hc2 => ?_)
    refine s_as 5 rfl rfl ?_
    refine SX.end_ ?_
    refine KN.blk ?_
    refine KN.code ?_
    refine CW.reg [0, 1, 2] rfl ?_
    refine s_mv 11 rfl rfl ?_
    refine s_add 12 rfl rfl rfl (r := ((q.1 + 1 : Nat) : Int)) (w64 (by omega)) ?_
    refine s_as 6 rfl rfl ?_
    refine SX.end_ ?_
    exact KN.back (q.1 + 1, A2, c2) ⟨rfl, rfl, rfl, rfl, trivial⟩ (fun _ h => by simp only; rw [lowL_take2 (by omega), ← nats_snoc]; exact h.pick [1] rfl) ⟨by simp only; omega, hc2⟩ (by simp only; omega)
  · skip
    have hqe : q.1 = l.length := by omega
    refine CW.exit rfl ?_
    refine KN.code ?_
    refine CW.seq ?_
    refine CW.block ?_
    refine CW.loop (G := Nat) (fun k => [(5, .slice q.2.1 k q.2.2)]) (fun k => Sto w [own 3 1 q.2.1 k q.2.2 (nats .i64 ((lowL m l).take k))]) (fun k => tl (lowL m l) ≤ k ∧ k ≤ l.length) (fun k => k) q.1 ⟨rfl, trivial⟩ (fun _ h => h) ⟨by omega, by omega⟩ ?_
    intro k hk0
    obtain ⟨hk1, hk2⟩ := hk0
    refine CW.seq ?_
    refine CW.seq ?_
    refine CW.reg [0, 1, 2, 3, 4, 5, 6, 7, 8, 9, 10, 11] rfl ?_
    refine s_mv 22 rfl rfl ?_
    refine s_len 23 rfl rfl ?_
    refine s_gt 24 rfl rfl rfl rfl ?_
    refine s_mv 25 rfl rfl ?_
    refine SX.bool 25 rfl (fun hb => ?_) (fun hb => ?_)
    · skip
      replace hb := of_decide_eq_true hb
      refine s_mv 26 rfl rfl ?_
      refine s_mv 27 rfl rfl ?_
      refine s_len 28 rfl rfl ?_
      refine s_sub 29 rfl rfl rfl (r := ((k - 1 : Nat) : Int)) (by rw [show ((k : Nat) : Int) - 1 = ((k - 1 : Nat) : Int) by omega]; exact w64 (by omega)) ?_
      refine s_iaO 30 0 (k - 1) rfl rfl rfl rfl rfl (by omega) ?_
      refine s_ldO 31 0 rfl rfl rfl (v := .int .i64 (cf (lowL m l) (k - 1) : Nat)) (by rw [natsAtC (by rw [List.length_take]; omega), cf_take (by omega)]) ?_
      refine s_eq 32 rfl rfl rfl rfl ?_
      refine s_pickT 33 rfl rfl rfl ?_
      refine SX.next ?_
      refine CW.test rfl (fun hc => ?_) (fun hc => ?_)
      · skip
        have hk3 : tl (lowL m l) ≤ k - 1 := by
          by_cases h : tl (lowL m l) = k
          · have := cf_top (lowL m l) (by omega)
            rw [h] at this
            omega
          · omega
        refine CW.skip ?_
        refine KN.code ?_
        refine CW.block ?_
        refine CW.reg [0, 1, 2, 3, 4, 5] rfl ?_
        refine s_mv 34 rfl rfl ?_
        refine s_mv 35 rfl rfl ?_
        refine s_len 36 rfl rfl ?_
        refine s_sub 37 rfl rfl rfl (r := ((k - 1 : Nat) : Int)) (by rw [show ((k : Nat) : Int) - 1 = ((k - 1 : Nat) : Int) by omega]; exact w64 (by omega)) ?_
        refine s_slH 38 (k - 1) rfl rfl rfl rfl (by omega) ?_
        refine SX.pre (fun _ h => h.ownCut (q := 0) (k := k - 1) rfl (by omega)) ?_
        refine s_as 5 rfl rfl ?_
        refine SX.end_ ?_
        refine KN.blk ?_
        exact KN.back (k - 1) ⟨rfl, trivial⟩ (fun _ h => by rw [nats_take, List.take_take, Nat.mul_one, Nat.min_eq_left (by omega)] at h; exact h) ⟨hk3, by omega⟩ (by omega)
      · skip
        have hk3 : k ≤ tl (lowL m l) := Nat.le_of_not_lt (fun h => hc (by rw [cf_hi (lowL m l) (k - 1) (by omega)]; rfl))
        have hE : (lowL m l).take k = trim (lowL m l) := by unfold trim; rw [show k = tl (lowL m l) by omega]
        have hk : (trim (lowL m l)).length = k := by rw [trim_length]; omega
        refine CW.exit rfl ?_
        refine KN.code ?_
        refine CW.seq ?_
        refine CW.reg [0, 1] rfl ?_
        refine s_mv 39 rfl rfl ?_
        refine s_as 4 rfl rfl ?_
        refine SX.next ?_
        refine CW.ret ?_
        exact KN.ret (rs := [.tmp 4]) Tryd.results164 rfl (fun w hw => ⟨(q.2.1, q.2.2), by rw [hk]; rfl, by rw [hk]; show k ≤ q.2.2; omega, by rw [hk, ← hE]; exact hw⟩)
    · skip
      replace hb := of_decide_eq_false hb
      refine SX.skip rfl ?_
      refine SX.skip rfl ?_
      refine SX.skip rfl ?_
      refine SX.skip rfl ?_
      refine SX.skip rfl ?_
      refine SX.skip rfl ?_
      refine SX.skip rfl ?_
      refine s_pickF 33 rfl rfl rfl ?_
      refine SX.next ?_
      refine CW.condF rfl ?_
      refine CW.exit rfl ?_
      refine KN.code ?_
      refine CW.seq ?_
      have hE : (lowL m l).take k = trim (lowL m l) := by unfold trim; rw [show k = tl (lowL m l) by omega]
      have hk : (trim (lowL m l)).length = k := by rw [trim_length]; omega
      refine CW.reg [0, 1] rfl ?_
      refine s_mv 39 rfl rfl ?_
      refine s_as 4 rfl rfl ?_
      refine SX.next ?_
      refine CW.ret ?_
      exact KN.ret (rs := [.tmp 4]) Tryd.results164 rfl (fun w hw => ⟨(q.2.1, q.2.2), by rw [hk]; rfl, by rw [hk]; show k ≤ q.2.2; omega, by rw [hk, ← hE]; exact hw⟩)

theorem rder_all {m : Nat} (l : List Int) : trim (lowL m (tab (l.length - 1) (fun j => if (j + 1) % 2 = 1 then l.getD (j + 1) 0 else 0))) = derP (lowL m l) := by
  rw [trim_tab]
  unfold derP
  refine pl_eq (fun j => ?_)
  rw [lowL_len, cf_low]
  split
  · split
    · rfl
    · exact lo_zero m
  · rfl

/-- The sum's coefficient, as the document's polynomials make it. -/
def raddV (l l2 : List Int) (j : Nat) : Int := if j < l2.length then ibit .xor .i64 (l.getD j 0) (l2.getD j 0) else l.getD j 0
def raddF (l l2 : List Int) (i j : Nat) : Int := if j < i then raddV l l2 j else 0
theorem getD_out {l : List Int} {j : Nat} (h : l.length ≤ j) : l.getD j 0 = 0 := by simp [List.getElem?_eq_none h]
theorem radd_all {m : Nat} (hm : Ok m) (l l2 : List Int) : trim (lowL m (tab (max l.length l2.length) (raddF l l2 (max l.length l2.length)))) = addP (lowL m l) (lowL m l2) := by
  rw [trim_tab]
  unfold addP
  refine pl_eq (fun j => ?_)
  rw [lowL_len, lowL_len, cf_low, cf_low]
  split
  · unfold raddF raddV
    rw [if_pos (by assumption)]
    split
    · exact lo_xor hm _ _
    · rw [getD_out (l := l2) (by omega), lo_zero, Nat.xor_zero]
  · rfl
theorem radd_next {l l2 : List Int} {i n : Nat} {F : Nat → Int} (h0 : ∀ j, j ≠ i → F j = raddF l l2 i j) (h : F i = raddV l l2 i) : tab n F = tab n (raddF l l2 (i + 1)) := by
  refine tab_cong (fun j _ => ?_)
  by_cases hj : j = i
  · subst hj
    rw [h]
    unfold raddF
    rw [if_pos (by omega)]
  · rw [h0 j hj]
    unfold raddF
    by_cases h2 : j < i
    · rw [if_pos h2, if_pos (by omega)]
    · rw [if_neg h2, if_neg (by omega)]

theorem mul_all2 {m : Nat} (hm : Ok m) {a b : List Nat} (ha : ∀ x ∈ a, x < 2 ^ m) : trim (lowL m (tab (a.length + b.length) (mulF m a b a.length 0))) = mulP m a b := by
  rw [← mul_all hm ha, trim_tab, trim_tab]
  refine pl_eq (fun j => ?_)
  by_cases h : j < a.length + b.length - 1
  · rw [if_pos h, if_pos (by omega)]
  · rw [if_neg h]
    split
    · have h0 : mulF m a b a.length 0 j = 0 := by
        unfold mulF
        rw [if_neg (by omega), Nat.xor_zero]
        rw [xs_zero (fun i hi => ?_)]
        · rfl
        · unfold rowF
          split
          · rw [cf_out (l := b) (by omega), gm_zero_right]
          · rfl
      rw [h0, lo_zero]
    · rfl
theorem rmulN {m : Nat} {w : World} {x y : Nat} (hm : Ok m) (hx : x < 2 ^ m) (hy : y < 2 ^ m) : Spec1 Tryd.prog 85 [.int .i64 (m : Nat), .int .i64 (x : Nat), .int .i64 (y : Nat)] w (.int .i64 (gm m x y : Nat)) := by
  have := rmul_spec m x y w hm; rw [lo_nat hx, lo_nat hy] at this; exact this

theorem rtimes_spec (m : Nat) (A : Option Addr) (n c : Nat) (l : List Int) (B : Option Addr) (k d : Nat) (l2 : List Int) (w : World) (hm : Ok m) (ha : Has (sl 1 A n (ints .i64 l)) w) (hb : Has (sl 1 B k (ints .i64 l2)) w) (hn : n ≤ 1073741824) (hk : k ≤ 1073741824) : SpecL Tryd.prog 159 [.int .i64 (m : Nat), .slice A n c, .slice B k d] w (mulP m (trim (lowL m l)) (trim (lowL m l2))) := by
  have hla := ints_len ha
  subst hla
  have hlb := ints_len hb
  subst hlb
  have hA := trimLow_lt m l
  have hB := trimLow_lt m l2
  have hta := trim_length (lowL m l)
  have htb := trim_length (lowL m l2)
  have hla1 := tl_le (lowL m l)
  have hlb1 := tl_le (lowL m l2)
  have hll1 := lowL_len m l
  have hll2 := lowL_len m l2
  generalize ea : trim (lowL m l) = a at *
  generalize eb : trim (lowL m l2) = b at *
  refine spec_of Tryd.func159 rfl Tryd.ntmps159 rfl ?_
  refine CW.seq ?_
  refine CW.reg [0] rfl ?_
  refine s_as 6 rfl rfl ?_
  refine SX.next ?_
  refine CW.seq ?_
  refine CW.reg [0, 1, 2, 3] rfl ?_
  refine s_mv 10 rfl rfl ?_
  refine s_mv 11 rfl rfl ?_
  refine s_call 12 rfl rfl rfl rfl (fun w hw => by have := rtrim_spec m A l.length c l w hm (hw.old ha) (by omega); rw [ea] at this; exact this) (fun _ _ => trivial) (fun q1 hq1 => ?_)
  refine s_as 1 rfl rfl ?_
  refine SX.next ?_
  refine CW.seq ?_
  refine CW.reg [0, 1, 2, 3] rfl ?_
  refine s_mv 13 rfl rfl ?_
  refine s_mv 14 rfl rfl ?_
  refine s_call 15 rfl rfl rfl rfl (fun w hw => by have := rtrim_spec m B l2.length d l2 w hm (hw.old hb) (by omega); rw [eb] at this; exact this) (fun _ _ => trivial) (fun q2 hq2 => ?_)
  refine s_as 2 rfl rfl ?_
  refine SX.next ?_
  refine CW.seq ?_
  refine CW.reg [0, 1, 2, 3, 4, 5, 6] rfl ?_
  refine s_mv 16 rfl rfl ?_
  refine s_len 17 rfl rfl ?_
  refine s_mv 18 rfl rfl ?_
  refine s_len 19 rfl rfl ?_
  refine s_add 20 rfl rfl rfl (r := (((a.length + b.length) : Nat) : Int)) (w64 (by omega)) ?_
  refine s_make 21 (a.length + b.length) rfl rfl rfl rfl rfl (by omega) (fun _ _ => trivial) (fun go => ?_)
  refine s_as 7 rfl rfl ?_
  refine SX.next ?_
  refine CW.seq ?_
  refine CW.seq ?_
  refine CW.reg [0] rfl ?_
  refine s_as 8 rfl rfl ?_
  refine SX.next ?_
  refine CW.block ?_
  refine CW.loop (G := Nat) (fun i => [(0, .int .i64 (m : Nat)), (1, .slice q1.1 a.length q1.2), (2, .slice q2.1 b.length q2.2), (7, .slice (some ⟨go, 0, none⟩) (a.length + b.length) (a.length + b.length)), (8, .int .i64 (i : Nat))]) (fun i => Sto w [blk go 3 (ints .i64 (tab (a.length + b.length) (mulF m a b i 0))).toArray, own 3 1 q2.1 b.length q2.2 (nats .i64 b), own 3 1 q1.1 a.length q1.2 (nats .i64 a)]) (fun i => i ≤ a.length) (fun i => a.length - i) 0 ⟨rfl, rfl, rfl, rfl, rfl, trivial⟩ (fun _ h => by rw [show tab (a.length + b.length) (mulF m a b 0 0) = tab (a.length + b.length) (fun _ => 0) from tab_cong (fun j _ => mulF_zero m a b j), ← tab_zero]; exact h) (Nat.zero_le _) ?_
  intro i hi
  refine CW.seq ?_
  refine CW.seq ?_
  refine CW.reg [0, 1, 2, 3] rfl ?_
  refine s_mv 22 rfl rfl ?_
  refine s_mv 23 rfl rfl ?_
  refine s_len 24 rfl rfl ?_
  refine s_lt 25 rfl rfl rfl rfl ?_
  refine SX.next ?_
  refine CW.test rfl (fun hc => ?_) (fun hc => ?_)
  · skip
    refine CW.skip ?_
    refine KN.code ?_
    refine CW.seq ?_
    refine CW.block ?_
    refine CW.seq ?_
    refine CW.reg [0] rfl ?_
    refine s_as 9 rfl rfl ?_
    refine SX.next ?_
    refine CW.block ?_
    refine CW.loop (G := Nat) (fun k => [(0, .int .i64 (m : Nat)), (1, .slice q1.1 a.length q1.2), (2, .slice q2.1 b.length q2.2), (7, .slice (some ⟨go, 0, none⟩) (a.length + b.length) (a.length + b.length)), (8, .int .i64 (i : Nat)), (9, .int .i64 (k : Nat))]) (fun k => Sto w [blk go 3 (ints .i64 (tab (a.length + b.length) (mulF m a b i k))).toArray, own 3 1 q2.1 b.length q2.2 (nats .i64 b), own 3 1 q1.1 a.length q1.2 (nats .i64 a)]) (fun k => k ≤ b.length) (fun k => b.length - k) 0 ⟨rfl, rfl, rfl, rfl, rfl, rfl, trivial⟩ (fun _ h => h) (Nat.zero_le _) ?_
    intro k hk2
    refine CW.seq ?_
    refine CW.seq ?_
    refine CW.reg [0, 1, 2, 3] rfl ?_
    refine s_mv 28 rfl rfl ?_
    refine s_mv 29 rfl rfl ?_
    refine s_len 30 rfl rfl ?_
    refine s_lt 31 rfl rfl rfl rfl ?_
    refine SX.next ?_
    refine CW.test rfl (fun hc => ?_) (fun hc => ?_)
    · skip
      refine CW.skip ?_
      refine KN.code ?_
      refine CW.seq ?_
      refine CW.block ?_
      refine CW.regD (.st true 0 (.st true 1 (.st true 2 (.st true 3 (.st true 4 (.st true 5 (.st true 6 (.st true 7 (.st true 8 (.st true 10 (.st true 11 (.st true 12 (.st true 13 (.st true 14 (.st true 15 (.st true 16 (.st true 17 (.st true 18 (.alt 9 (.st false 19 (.st true 20 (.st true 21 (.st false 22 .done)))) (.st false 19 (.st false 9 (.st true 20 (.st true 21 (.st false 22 .done)))))))))))))))))))))))) (Sto w [own 3 1 q2.1 b.length q2.2 (nats .i64 b), own 3 1 q1.1 a.length q1.2 (nats .i64 a)]) mixed (by kernel_rfl) (fun _ h => h.drew) (fun _ h => h.pick [1, 1] rfl) ?_
      refine s_mv 34 rfl rfl ?_
      refine s_mv 35 rfl rfl ?_
      refine s_mv 36 rfl rfl ?_
      refine s_add 37 rfl rfl rfl (r := ((i + k : Nat) : Int)) (w64 (by omega)) ?_
      refine s_mv 38 rfl rfl ?_
      refine s_mv 39 rfl rfl ?_
      refine s_mv 40 rfl rfl ?_
      refine s_add 41 rfl rfl rfl (r := ((i + k : Nat) : Int)) (w64 (by omega)) ?_
      refine s_ia0 42 (i + k) rfl rfl rfl rfl (by omega) ?_
      refine s_mv 44 rfl rfl ?_
      refine s_mv 45 rfl rfl ?_
      refine s_mv 46 rfl rfl ?_
      refine s_iaO 47 2 i rfl rfl rfl rfl rfl (by omega) ?_
      refine s_ldS 48 rfl rfl (fun _ h => h.ownCell (q := 1) rfl (natsAtC (by omega))) ?_
      refine s_mv 49 rfl rfl ?_
      refine s_mv 50 rfl rfl ?_
      refine s_iaO 51 1 k rfl rfl rfl rfl rfl (by omega) ?_
      refine s_ldS 52 rfl rfl (fun _ h => h.ownCell (q := 0) rfl (natsAtC (by omega))) ?_
      refine SX.alt ?_ ?_
      · skip
        refine s_ldB 43 0 rfl rfl rfl (tab_atA (by omega)) ?_
        refine s_call1 53 rfl rfl rfl rfl (fun w hw => rmulN hm (cf_lt hA (Nat.two_pow_pos m) i) (cf_lt hB (Nat.two_pow_pos m) k)) (fun _ h => h.pick [1, 1] rfl) ?_
        refine s_bit 54 rfl rfl rfl rfl rfl ?_
        refine s_ia0 55 (i + k) rfl rfl rfl rfl (by omega) ?_
        refine s_stB 0 rfl rfl rfl rfl rfl (by rw [tab_size]; omega) (fun _ h => h.pick [1, 1] rfl) ?_
        refine SX.end_ ?_
        refine KN.blk ?_
        refine KN.code ?_
        refine CW.reg [0, 1, 2] rfl ?_
        refine s_mv 32 rfl rfl ?_
        refine s_add 33 rfl rfl rfl (r := ((k + 1 : Nat) : Int)) (w64 (by omega)) ?_
        refine s_as 9 rfl rfl ?_
        refine SX.end_ ?_
        exact KN.back (k + 1) ⟨rfl, rfl, rfl, rfl, rfl, rfl, trivial⟩ (fun _ h => by rw [← mulF_next hm hA, ← tab_set]; exact h) (by omega) (by omega)
      · skip
        refine s_call1 53 rfl rfl rfl rfl (fun w hw => rmulN hm (cf_lt hA (Nat.two_pow_pos m) i) (cf_lt hB (Nat.two_pow_pos m) k)) (fun _ h => h.pick [1, 1] rfl) ?_
        refine s_ldB 43 0 rfl rfl rfl (tab_atA (by omega)) ?_
        refine s_bit 54 rfl rfl rfl rfl rfl ?_
        refine s_ia0 55 (i + k) rfl rfl rfl rfl (by omega) ?_
        refine s_stB 0 rfl rfl rfl rfl rfl (by rw [tab_size]; omega) (fun _ h => h.pick [1, 1] rfl) ?_
        refine SX.end_ ?_
        refine KN.blk ?_
        refine KN.code ?_
        refine CW.reg [0, 1, 2] rfl ?_
        refine s_mv 32 rfl rfl ?_
        refine s_add 33 rfl rfl rfl (r := ((k + 1 : Nat) : Int)) (w64 (by omega)) ?_
        refine s_as 9 rfl rfl ?_
        refine SX.end_ ?_
        exact KN.back (k + 1) ⟨rfl, rfl, rfl, rfl, rfl, rfl, trivial⟩ (fun _ h => by rw [← mulF_next hm hA, ← tab_set]; exact h) (by omega) (by omega)
    · skip
      obtain rfl : k = b.length := by omega
      refine CW.exit rfl ?_
      refine KN.blk ?_
      refine KN.code ?_
      refine CW.reg [0, 1, 2] rfl ?_
      refine s_mv 26 rfl rfl ?_
      refine s_add 27 rfl rfl rfl (r := ((i + 1 : Nat) : Int)) (w64 (by omega)) ?_
      refine s_as 8 rfl rfl ?_
      refine SX.end_ ?_
      exact KN.back (i + 1) ⟨rfl, rfl, rfl, rfl, rfl, trivial⟩ (fun _ h => by rw [← tab_cong (fun j _ => mulF_row m a b i b.length (Nat.le_refl _) j)]; exact h) (by omega) (by omega)
  · skip
    obtain rfl : i = a.length := by omega
    refine CW.exit rfl ?_
    refine KN.code ?_
    refine CW.seq ?_
    refine CW.reg [0, 1, 2, 3] rfl ?_
    refine s_mv 56 rfl rfl ?_
    refine s_mv 57 rfl rfl ?_
    refine s_call 58 rfl rfl rfl rfl (fun w hw => by have := rtrim_spec m (some ⟨go, 0, none⟩) (a.length + b.length) (a.length + b.length) (tab (a.length + b.length) (mulF m a b a.length 0)) w hm (Has.cong ((hw.has (i := 0) rfl).blk_sl (m := (a.length + b.length)) (by exact tab_size.trans (Nat.mul_one _).symm)) rfl) (by omega); rw [mul_all2 hm hA] at this; exact this) (fun _ _ => trivial) (fun q3 hq3 => ?_)
    refine s_as 6 rfl rfl ?_
    refine SX.next ?_
    refine CW.ret ?_
    exact KN.ret (rs := [.tmp 6]) Tryd.results159 rfl (fun w hw => ⟨q3, rfl, hq3, hw.pick [0] rfl⟩)

/-! ### Quotients -/
/-- What the document's division keeps. -/
structure DivR (m : Nat) (a b : List Nat) (q : List Nat × (Nat → Nat) × (Option Addr × Nat)) : Prop where
  tr : Tr m q.1
  le : q.1.length ≤ a.length
  lt : ∀ j, q.2.1 j < 2 ^ m
  lo : ∀ j, j + b.length ≤ q.1.length → q.2.1 j = 0
  hi : ∀ j, a.length < j + b.length → q.2.1 j = 0
  eq : ∀ j, cv m q.2.1 (cf b) j ^^^ cf q.1 j = cf a j
theorem divR_start (m : Nat) {a : List Nat} (ha : Tr m a) (b : List Nat) (A : Option Addr × Nat) : DivR m a b (a, fun _ => 0, A) :=
  ⟨ha, Nat.le_refl _, fun _ => Nat.two_pow_pos m, fun _ _ => rfl, fun _ _ => rfl, fun j => by simp only; rw [cv_zero, Nat.zero_xor]⟩
theorem cf_rep (s : Nat) (x : List Nat) (j : Nat) : cf (List.replicate s 0 ++ x) j = if j < s then 0 else cf x (j - s) := by
  unfold cf
  simp only [List.getD_eq_getElem?_getD]
  split
  · rw [List.getElem?_append_left (by simpa using by assumption)]
    rw [List.getElem?_replicate]
    split <;> rfl
  · rw [List.getElem?_append_right (by simp; omega)]
    simp
theorem DivR.next {m : Nat} (hm : Ok m) {a b a1 : List Nat} {Q : Nat → Nat} {A A2 : Option Addr × Nat} (h : DivR m a b (a1, Q, A)) (hb : Tr m b) (hb0 : b.length ≠ 0) (hl : b.length ≤ a1.length) :
    DivR m a b (addP a1 (List.replicate (a1.length - b.length) 0 ++ scaleP m b (gm m (cf a1 (a1.length - 1)) (inv m (cf b (b.length - 1))))), fun j => if j = a1.length - b.length then gm m (cf a1 (a1.length - 1)) (inv m (cf b (b.length - 1))) else Q j, A2) ∧
    (addP a1 (List.replicate (a1.length - b.length) 0 ++ scaleP m b (gm m (cf a1 (a1.length - 1)) (inv m (cf b (b.length - 1)))))).length < a1.length := by
  obtain ⟨h1, h2, h3, h4, h5, h6⟩ := h
  simp only at h1 h2 h3 h4 h5 h6
  have hc : gm m (cf a1 (a1.length - 1)) (inv m (cf b (b.length - 1))) < 2 ^ m := gm_lt hm (h1.c _) _
  have hdiv := gm_div hm (h1.c (a1.length - 1)) (hb.c (b.length - 1)) (hb.top hb0)
  generalize gm m (cf a1 (a1.length - 1)) (inv m (cf b (b.length - 1))) = c at *
  generalize hs : a1.length - b.length = s at *
  have hX : ∀ j, cf (addP a1 (List.replicate s 0 ++ scaleP m b c)) j = cf a1 j ^^^ (if s ≤ j then gm m c (cf b (j - s)) else 0) := fun j => by
    rw [cf_addP, cf_rep]
    congr 1
    by_cases h : j < s
    · rw [if_pos h, if_neg (by omega)]
    · rw [if_neg h, if_pos (by omega), cf_scaleP, gm_comm hm (hb.c _) hc]
  have hsc := (scaleP_tr hm hb c).lt
  have htr : Tr m (addP a1 (List.replicate s 0 ++ scaleP m b c)) := pl_tr (fun j => xor_lt (h1.c j) (cf_lt (fun x hx => by
    rcases List.mem_append.1 hx with hx | hx
    · rw [(List.mem_replicate.1 hx).2]; exact Nat.two_pow_pos m
    · exact hsc x hx) (Nat.two_pow_pos m) j))
  have hlen : (addP a1 (List.replicate s 0 ++ scaleP m b c)).length ≤ a1.length - 1 := len_le_of htr (fun j hj => by
    rw [hX, if_pos (by omega)]
    by_cases he : j = a1.length - 1
    · subst he
      rw [show a1.length - 1 - s = b.length - 1 by omega, hdiv, Nat.xor_self]
    · rw [cf_out (l := a1) (by omega), cf_out (l := b) (by omega), gm_zero_right]
      rfl)
  refine ⟨⟨htr, by simp only; omega, fun j => by simp only; split; exact hc; exact h3 j, fun j hj => ?_, fun j hj => ?_, fun j => ?_⟩, by omega⟩
  · simp only at hj ⊢
    rw [if_neg (by omega)]
    exact h4 j (by omega)
  · simp only at hj ⊢
    rw [if_neg (by omega)]
    exact h5 j hj
  · simp only
    have e : cv m (fun j => if j = s then c else Q j) (cf b) j = cv m (fun i => (if i = s then c else 0) ^^^ Q i) (cf b) j := cv_congr (fun i _ => by
      by_cases h : i = s
      · rw [if_pos h, if_pos h, h4 i (by omega), Nat.xor_zero]
      · rw [if_neg h, if_neg h, Nat.zero_xor]) (fun _ _ => rfl)
    rw [e, cv_add_left hm (fun i => by split; exact hc; exact Nat.two_pow_pos m) h3, cv_one, hX]
    generalize (if s ≤ j then gm m c (cf b (j - s)) else 0) = z
    rw [← h6 j, Nat.xor_comm (cf a1 j) z, Nat.xor_comm z (cv m Q (cf b) j), Nat.xor_assoc, xcc]
theorem DivR.done {m : Nat} (hm : Ok m) {a b a1 : List Nat} {Q : Nat → Nat} {A : Option Addr × Nat} (h : DivR m a b (a1, Q, A)) (ha : Tr m a) (hb : Tr m b) (hb0 : b.length ≠ 0) (hl : a1.length < b.length) :
    trim (lowL m (tabN (a.length + 1) Q)) = quotP m a b ∧ a1 = restP m a b := by
  obtain ⟨h1, h2, h3, h4, h5, h6⟩ := h
  simp only at h1 h2 h3 h4 h5 h6
  rw [trim_tabN h3]
  have hq : Tr m (pl (a.length + 1) Q) := pl_tr h3
  refine div_uniq hm ha hb hb0 hq h1 hl ((addP_tr hm (mulP_tr hm hq hb) h1).ext ha (fun j => ?_))
  rw [cf_addP, cf_mulP, ← h6 j]
  congr 1
  refine cv_congr (fun i _ => ?_) (fun _ _ => rfl)
  rw [cf_pl]
  split
  · rfl
  · exact (h5 i (by omega)).symm
abbrev SpecL2 (P : Program) (f : FuncId) (args : List Value) (w : World) (E G : List Nat) : Prop :=
  SpecX P f args w (X := (Option Addr × Nat) × (Option Addr × Nat)) (fun q => two (.slice q.1.1 E.length q.1.2) (.slice q.2.1 G.length q.2.2)) (fun q => E.length ≤ q.1.2)
    (fun q => [own 3 1 q.1.1 E.length q.1.2 (nats .i64 E), own 3 1 q.2.1 G.length q.2.2 (nats .i64 G)])
theorem nats_rep (k : IntKind) (s : Nat) : List.replicate s (.int k 0) = nats k (List.replicate s 0) := by simp [nats]

/-! ### Divisors and roots -/
/-- What the common divisor's loop keeps. -/
structure GcdR (m : Nat) (a b : List Nat) (q : List Nat × List Nat × (Option Addr × Nat) × (Option Addr × Nat)) : Prop where
  h1 : Tr m q.1
  h2 : Tr m q.2.1
  l1 : q.1.length ≤ 1073741824
  l2 : q.2.1.length ≤ 1073741824
  eq : gcdE m q.1 q.2.1 = gcdE m a b
theorem lowL_one {m : Nat} {x : Nat} (h : x < 2 ^ m) : lowL m [((x : Nat) : Int)] = [x] := congrArg (fun z => [z]) (lo_nat h)
end Go.Proofs.YtcdmmfpgeagimaaDoor
end
section
/- The document's bits, products of bits, minimal polynomials, walked. Conditions: an m that may be; the lists are read where they lie. -/
namespace Go.Proofs.YtcdmmfpgeagimaaDoor
open Go Go.Sx Go.Fm Nb
set_option maxRecDepth 100000
theorem tr_len_le2 {m : Nat} {a : List Nat} (h : Tr m a) {n : Nat} (hz : ∀ j, n ≤ j → cf a j = 0) : a.length ≤ n := Nat.le_of_not_lt fun hl => h.top (by omega) (hz _ (by omega))
theorem mulF_skip {a b : List Nat} {i : Nat} (h : cf a i = 0) (j : Nat) : mulF 3 a b i 0 j = mulF 3 a b (i + 1) 0 j := by
  rw [← mulF_row 3 a b i b.length (Nat.le_refl _) j]
  unfold mulF
  rw [h, gm_zero_left, ite_self, ite_self]
theorem mul_bits {a b : List Nat} (ha : B1 a) (hb : B1 b) : nzP (tab (a.length + b.length - 1) (mulF 3 a b a.length 0)) (tab (a.length + b.length - 1) (mulF 3 a b a.length 0)).length = mulP 3 a b := by
  have hm := mulP_b1 ha hb
  refine (nzP_b1 _ _).tr.ext hm.tr (fun j => ?_)
  have h1 := mul_all ok3 (a := a) (b := b) ha.tr.lt
  have h2 : cf (mulP 3 a b) j = lo 3 ((tab (a.length + b.length - 1) (mulF 3 a b a.length 0)).getD j 0) := by
    rw [← h1, cf_trim]; exact cf_low _ _ _
  have h3 := hm.le j
  rw [cf_nzP, tab_len]
  rw [tab_getD] at h2
  split
  · rename_i hj
    rw [if_pos hj] at h2
    obtain ⟨z, hz, e⟩ := mulF_bd ok3 (b := b) ha.tr.lt a.length 0 j
    rw [e, lo_nat hz] at h2
    unfold nzF
    rw [tab_getD, if_pos hj, e, h2]
    split <;> omega
  · rename_i hj
    rw [if_neg hj, lo_zero] at h2
    rw [h2]

theorem rbit_spec (A : Option Addr) (n c : Nat) (p : List Nat) (i : Int) (w : World) (ha : Has (sl 1 A n (nats .u8 p)) w) (hp : ∀ x ∈ p, x < 256) (hn : n ≤ 1073741824) (hcp : n ≤ c) (hi : i ≤ 9223372036854775807) : Spec1 Tryd.prog 96 [.slice A n c, .int .i64 i] w (.int .i64 (bitI p i : Nat)) := by
  have hla := nats_len ha
  subst hla
  have hbi := bitI_lt p i
  refine spec_of Tryd.func96 rfl Tryd.ntmps96 rfl ?_
  refine CW.seq ?_
  refine CW.reg [0] rfl ?_
  refine s_as 4 rfl rfl ?_
  refine SX.next ?_
  refine CW.seq ?_
  refine CW.seq ?_
  refine CW.reg [0, 1, 2, 3, 4, 5, 6, 7, 8] rfl ?_
  refine s_mv 5 rfl rfl ?_
  refine s_lt 6 rfl rfl rfl rfl ?_
  refine s_mv 7 rfl rfl ?_
  refine SX.bool 7 rfl (fun hb => ?_) (fun hb => ?_)
  · skip
    replace hb := of_decide_eq_true hb
    have hz : bitI p i = 0 := if_pos hb
    refine SX.skip rfl ?_
    refine SX.skip rfl ?_
    refine SX.skip rfl ?_
    refine SX.skip rfl ?_
    refine SX.skip rfl ?_
    refine s_pickT 13 rfl rfl rfl ?_
    refine SX.next ?_
    refine CW.condT rfl ?_
    refine CW.seq ?_
    refine CW.reg [0] rfl ?_
    refine s_as 4 rfl rfl ?_
    refine SX.next ?_
    refine CW.ret ?_
    exact KN.ret (rs := [.tmp 4]) Tryd.results96 rfl (fun w hw => ⟨by rw [hz]; rfl, hw.nothing⟩)
  · skip
    replace hb := of_decide_eq_false hb
    obtain ⟨j, rfl⟩ := Int.eq_ofNat_of_zero_le (show 0 ≤ i by omega)
    have hbj := bitI_nat p j
    refine s_mv 8 rfl rfl ?_
    refine s_quo 9 rfl rfl rfl (by omega) (quo8 j (by omega)) ?_
    refine s_mv 10 rfl rfl ?_
    refine s_len 11 rfl rfl ?_
    refine s_ge 12 rfl rfl rfl rfl ?_
    refine s_pickF 13 rfl rfl rfl ?_
    refine SX.next ?_
    refine CW.test rfl (fun hc2 => ?_) (fun hc2 => ?_)
    · skip
      have hz : bitI p j = 0 := by rw [hbj]; exact bitN_out (by omega)
      refine CW.seq ?_
      refine CW.reg [0] rfl ?_
      refine s_as 4 rfl rfl ?_
      refine SX.next ?_
      refine CW.ret ?_
      exact KN.ret (rs := [.tmp 4]) Tryd.results96 rfl (fun w hw => ⟨by rw [hz]; rfl, hw.nothing⟩)
    · skip
      refine CW.skip ?_
      refine KN.code ?_
      refine CW.seq ?_
      refine CW.reg [0, 1, 2, 3, 4, 5, 6, 7, 8, 9, 10, 11] rfl ?_
      refine s_mv 14 rfl rfl ?_
      refine s_mv 15 rfl rfl ?_
      refine s_quo 16 rfl rfl rfl (by omega) (quo8 j (by omega)) ?_
      refine s_iaV 17 (j / 8) (fun w hw => hw.old ha) rfl rfl rfl rfl (by omega) ?_
      refine s_ldV 18 (fun w hw => hw.old ha) rfl rfl (by rw [Nat.mul_one]; exact natsAt8 (by omega)) (by omega) ?_
      refine s_mv 19 rfl rfl ?_
      refine s_rem 20 rfl rfl rfl (by omega) (tmod8 j) ?_
      refine s_conv 21 rfl rfl (r := ((j % 8 : Nat) : Int)) (wu64 (by omega)) ?_
      refine s_shr 22 rfl rfl rfl (by omega) (shr_u8 (by omega)) ?_
      have hsh := Nat.lt_of_le_of_lt (Nat.shiftRight_le (cf p (j / 8)) (j % 8)) (cf_lt8 hp (j / 8))
      refine s_conv 23 rfl rfl (r := ((cf p (j / 8) >>> (j % 8) : Nat) : Int)) (by generalize cf p (j / 8) >>> (j % 8) = z at hsh ⊢; exact w64 (by omega)) ?_
      refine s_bit 24 rfl rfl rfl rfl (r := ((bitI p j : Nat) : Int)) (by rw [hbj]; exact ibit_and_one (Nat.lt_trans hsh (by decide))) ?_
      refine s_as 4 rfl rfl ?_
      refine SX.next ?_
      refine CW.ret ?_
      exact KN.ret (rs := [.tmp 4]) Tryd.results96 rfl (fun w hw => ⟨rfl, hw.nothing⟩)

theorem rBit_spec (A : Option Addr) (n c : Nat) (p : List Nat) (i : Int) (w : World) (ha : Has (sl 1 A n (nats .u8 p)) w) (hp : ∀ x ∈ p, x < 256) (hn : n ≤ 1073741824) (hcp : n ≤ c) (hi : i ≤ 9223372036854775807) : Spec1 Tryd.prog 33 [.slice A n c, .int .i64 i] w (.int .i64 (bitI p i : Nat)) := by
  refine spec_of Tryd.func33 rfl Tryd.ntmps33 rfl ?_
  refine CW.seq ?_
  refine CW.reg [0] rfl ?_
  refine s_as 4 rfl rfl ?_
  refine SX.next ?_
  refine CW.seq ?_
  refine CW.reg [0, 1, 2, 3] rfl ?_
  refine s_mv 5 rfl rfl ?_
  refine s_mv 6 rfl rfl ?_
  refine s_call1 7 rfl rfl rfl rfl (fun w hw => rbit_spec A n c p i w (hw.old ha) hp hn hcp hi) (fun _ _ => trivial) ?_
  refine s_as 4 rfl rfl ?_
  refine SX.next ?_
  refine CW.ret ?_
  exact KN.ret (rs := [.tmp 4]) Tryd.results33 rfl (fun w hw => ⟨rfl, hw.nothing⟩)

theorem rdeg_spec (A : Option Addr) (n c : Nat) (p : List Nat) (w : World) (ha : Has (sl 1 A n (nats .u8 p)) w) (hp : ∀ x ∈ p, x < 256) (hn : n ≤ 1073741824) (hcp : n ≤ c) : Spec1 Tryd.prog 31 [.slice A n c] w (.int .i64 (((bl p).length : Nat) - 1 : Int)) := by
  have hla := nats_len ha
  subst hla
  have hbl := bl_len p
  have hbt := (bl_b1 p).tr
  refine spec_of Tryd.func31 rfl Tryd.ntmps31 rfl ?_
  refine CW.seq ?_
  refine CW.reg [0] rfl ?_
  refine s_as 2 rfl rfl ?_
  refine SX.next ?_
  refine CW.seq ?_
  refine CW.seq ?_
  refine CW.reg [0, 1, 2, 3, 4] rfl ?_
  refine s_mv 4 rfl rfl ?_
  refine s_len 5 rfl rfl ?_
  refine s_mul 6 rfl rfl rfl (r := ((8 * p.length : Nat) : Int)) (by rw [show (8 : Int) * ((p.length : Nat) : Int) = ((8 * p.length : Nat) : Int) by omega]; exact w64 (by omega)) ?_
  refine s_sub 7 rfl rfl rfl (r := ((8 * p.length : Nat) : Int) - 1) (w64 (by omega)) ?_
  refine s_as 3 rfl rfl ?_
  refine SX.next ?_
  refine CW.block ?_
  refine CW.loop (G := Nat) (fun k => [(0, .slice A p.length c), (3, .int .i64 ((k : Nat) - 1))]) (fun _ => Sto w []) (fun k => k ≤ 8 * p.length ∧ ∀ j, k ≤ j → cf (bl p) j = 0) (fun k => k) (8 * p.length) ⟨rfl, rfl, trivial⟩ (fun _ h => h) ⟨Nat.le_refl _, fun j hj => cf_out (by omega)⟩ ?_
  intro k hk0
  obtain ⟨hk1, hk2⟩ := hk0
  refine CW.seq ?_
  refine CW.seq ?_
  refine CW.reg [0, 1] rfl ?_
  refine s_mv 8 rfl rfl ?_
  refine s_ge 9 rfl rfl rfl rfl ?_
  refine SX.next ?_
  refine CW.test rfl (fun hc => ?_) (fun hc => ?_)
  · skip
    refine CW.skip ?_
    refine KN.code ?_
    refine CW.seq ?_
    refine CW.block ?_
    refine CW.seq ?_
    refine CW.reg [0, 1, 2, 3] rfl ?_
    refine s_mv 12 rfl rfl ?_
    refine s_mv 13 rfl rfl ?_
    refine s_call1 14 rfl rfl rfl rfl (v := .int .i64 (cf (bl p) (k - 1) : Nat)) (fun w hw => by have := rbit_spec A p.length c p (k - 1 : Nat) w (hw.old ha) hp hn hcp (by omega); rw [bitI_nat, ← cf_bl, show ((k - 1 : Nat) : Int) = (k : Nat) - 1 by omega] at this; exact this) (fun _ _ => trivial) ?_
    refine s_eq 15 rfl rfl rfl rfl ?_
    refine SX.next ?_
    refine CW.test rfl (fun hc => ?_) (fun hc => ?_)
    · skip
      have hd : (bl p).length = k := Nat.le_antisymm (tr_len_le2 hbt hk2) (Nat.le_of_not_lt fun h => by have := cf_out (l := bl p) (j := k - 1) (by omega); omega)
      refine CW.seq ?_
      refine CW.reg [0, 1] rfl ?_
      refine s_mv 16 rfl rfl ?_
      refine s_as 2 rfl rfl ?_
      refine SX.next ?_
      refine CW.ret ?_
      exact KN.ret (rs := [.tmp 2]) Tryd.results31 rfl (fun w hw => ⟨by rw [hd]; rfl, hw.nothing⟩)
    · skip
      refine CW.skip ?_
      refine KN.blk ?_
      refine KN.code ?_
      refine CW.reg [0, 1, 2] rfl ?_
      refine s_mv 10 rfl rfl ?_
      refine s_sub 11 rfl rfl rfl (r := ((k - 1 : Nat) : Int) - 1) (by rw [show ((k : Nat) : Int) - 1 - 1 = ((k - 1 : Nat) : Int) - 1 by omega]; exact w64 (by omega)) ?_
      refine s_as 3 rfl rfl ?_
      refine SX.end_ ?_
      exact KN.back (k - 1) ⟨rfl, rfl, trivial⟩ (fun _ h => h) ⟨by omega, fun j hj => by
  by_cases h : j = k - 1
  · subst h; have := (bl_b1 p).le (k - 1); omega
  · exact hk2 j (by omega)⟩ (by omega)
  · skip
    have hd : (bl p).length = 0 := Nat.le_zero.1 (tr_len_le2 hbt (fun j _ => hk2 j (by omega)))
    refine CW.exit rfl ?_
    refine KN.code ?_
    refine CW.seq ?_
    refine CW.reg [0] rfl ?_
    refine s_as 2 rfl rfl ?_
    refine SX.next ?_
    refine CW.ret ?_
    exact KN.ret (rs := [.tmp 2]) Tryd.results31 rfl (fun w hw => ⟨by rw [hd]; rfl, hw.nothing⟩)

theorem rbinmul_spec (A : Option Addr) (n c : Nat) (p : List Nat) (A2 : Option Addr) (n2 c2 : Nat) (p2 : List Nat) (w : World) (ha : Has (sl 1 A n (nats .u8 p)) w) (hp : ∀ x ∈ p, x < 256) (hn : n ≤ 1073741824) (hcp : n ≤ c) (ha2 : Has (sl 1 A2 n2 (nats .u8 p2)) w) (hp2 : ∀ x ∈ p2, x < 256) (hn2 : n2 ≤ 1073741824) (hcp2 : n2 ≤ c2) (hsz : (bl p).length + (bl p2).length ≤ 1000000) : SpecB Tryd.prog 38 [.slice A n c, .slice A2 n2 c2] w (bys (mulP 3 (bl p) (bl p2))) := by
  have hla := nats_len ha
  subst hla
  have hla2 := nats_len ha2
  subst hla2
  have hA := bl_b1 p
  have hB := bl_b1 p2
  have hdp := rdeg_spec A p.length c p
  have hdq := rdeg_spec A2 p2.length c2 p2
  generalize ea : bl p = a at *
  generalize eb : bl p2 = b at *
  refine spec_of Tryd.func38 rfl Tryd.ntmps38 rfl ?_
  refine CW.seq ?_
  refine CW.reg [0] rfl ?_
  refine s_as 4 rfl rfl ?_
  refine SX.next ?_
  refine CW.seq ?_
  refine CW.reg [0, 1, 2] rfl ?_
  refine s_mv 10 rfl rfl ?_
  refine s_call1 11 rfl rfl rfl rfl (fun w hw => hdp w (hw.old ha) hp hn hcp) (fun _ _ => trivial) ?_
  refine s_as 5 rfl rfl ?_
  refine SX.next ?_
  refine CW.seq ?_
  refine CW.reg [0, 1, 2] rfl ?_
  refine s_mv 12 rfl rfl ?_
  refine s_call1 13 rfl rfl rfl rfl (fun w hw => hdq w (hw.old ha2) hp2 hn2 hcp2) (fun _ _ => trivial) ?_
  refine s_as 6 rfl rfl ?_
  refine SX.next ?_
  refine CW.seq ?_
  refine CW.seq ?_
  refine CW.reg [0, 1, 2, 3, 4, 5] rfl ?_
  refine s_mv 14 rfl rfl ?_
  refine s_lt 15 rfl rfl rfl rfl ?_
  refine s_mv 16 rfl rfl ?_
  refine SX.bool 16 rfl (fun hb => ?_) (fun hb => ?_)
  · skip
    replace hb := of_decide_eq_true hb
    have ha0 : a = [] := List.eq_nil_of_length_eq_zero (by omega)
    have hz : mulP 3 a b = [] := by rw [ha0, mulP_nil_l]
    refine SX.skip rfl ?_
    refine SX.skip rfl ?_
    refine s_pickT 19 rfl rfl rfl ?_
    refine SX.next ?_
    refine CW.condT rfl ?_
    refine CW.seq ?_
    refine CW.reg [0] rfl ?_
    refine s_as 4 rfl rfl ?_
    refine SX.next ?_
    refine CW.ret ?_
    exact KN.ret (rs := [.tmp 4]) Tryd.results38 rfl (fun w hw => ⟨(none, 0), by rw [hz]; rfl, by rw [hz]; exact Nat.le_refl _, by rw [hz]; exact (hw.pick [] rfl).begin_ _ 1⟩)
  · skip
    replace hb := of_decide_eq_false hb
    refine s_mv 17 rfl rfl ?_
    refine s_lt 18 rfl rfl rfl rfl ?_
    refine s_pickF 19 rfl rfl rfl ?_
    refine SX.next ?_
    refine CW.test rfl (fun hc2 => ?_) (fun hc2 => ?_)
    · skip
      have hb0 : b = [] := List.eq_nil_of_length_eq_zero (by omega)
      have hz : mulP 3 a b = [] := by rw [hb0, mulP_nil_r]
      refine CW.seq ?_
      refine CW.reg [0] rfl ?_
      refine s_as 4 rfl rfl ?_
      refine SX.next ?_
      refine CW.ret ?_
      exact KN.ret (rs := [.tmp 4]) Tryd.results38 rfl (fun w hw => ⟨(none, 0), by rw [hz]; rfl, by rw [hz]; exact Nat.le_refl _, by rw [hz]; exact (hw.pick [] rfl).begin_ _ 1⟩)
    · skip
      refine CW.skip ?_
      refine KN.code ?_
      refine CW.seq ?_
      refine CW.reg [0, 1, 2, 3, 4, 5] rfl ?_
      refine s_mv 20 rfl rfl ?_
      refine s_mv 21 rfl rfl ?_
      refine s_add 22 rfl rfl rfl (r := ((a.length : Nat) : Int) - 1 + ((b.length : Nat) - 1)) (w64 (by omega)) ?_
      refine s_add 23 rfl rfl rfl (r := (((a.length + b.length - 1) : Nat) : Int)) (by rw [show ((a.length : Nat) : Int) - 1 + ((b.length : Nat) - 1) + 1 = (((a.length + b.length - 1) : Nat) : Int) by omega]; exact w64 (by omega)) ?_
      refine s_make 24 (a.length + b.length - 1) rfl rfl rfl rfl rfl (by omega) (fun _ _ => trivial) (fun go => ?_)
      refine s_as 7 rfl rfl ?_
      refine SX.next ?_
      refine CW.seq ?_
      refine CW.seq ?_
      refine CW.reg [0] rfl ?_
      refine s_as 8 rfl rfl ?_
      refine SX.next ?_
      refine CW.block ?_
      refine CW.loop (G := Nat) (fun i => [(0, .slice A p.length c), (1, .slice A2 p2.length c2), (5, .int .i64 ((a.length : Nat) - 1)), (6, .int .i64 ((b.length : Nat) - 1)), (7, .slice (some ⟨go, 0, none⟩) (a.length + b.length - 1) (a.length + b.length - 1)), (8, .int .i64 (i : Nat))]) (fun i => Sto w [blk go 3 (ints .i64 (tab (a.length + b.length - 1) (mulF 3 a b i 0))).toArray]) (fun i => i ≤ a.length) (fun i => a.length - i) 0 ⟨rfl, rfl, rfl, rfl, rfl, rfl, trivial⟩ (fun _ h => by rw [show tab (a.length + b.length - 1) (mulF 3 a b 0 0) = tab (a.length + b.length - 1) (fun _ => 0) from tab_cong (fun j _ => mulF_zero 3 a b j), ← tab_zero]; exact h) (Nat.zero_le _) ?_
      intro i hi
      have hai := hA.le i
      refine CW.seq ?_
      refine CW.seq ?_
      refine CW.reg [0, 1, 2] rfl ?_
      refine s_mv 25 rfl rfl ?_
      refine s_mv 26 rfl rfl ?_
      refine s_le 27 rfl rfl rfl rfl ?_
      refine SX.next ?_
      refine CW.test rfl (fun hc => ?_) (fun hc => ?_)
      · skip
        refine CW.skip ?_
        refine KN.code ?_
        refine CW.seq ?_
        refine CW.block ?_
        refine CW.seq ?_
        refine CW.seq ?_
        refine CW.reg [0, 1, 2, 3] rfl ?_
        refine s_mv 30 rfl rfl ?_
        refine s_mv 31 rfl rfl ?_
        refine s_call1 32 rfl rfl rfl rfl (v := .int .i64 (cf a i : Nat)) (fun w hw => by have := rbit_spec A p.length c p (i : Nat) w (hw.old ha) hp hn hcp (by omega); rw [bitI_nat, ← cf_bl, ea] at this; exact this) (fun _ _ => trivial) ?_
        refine s_eq 33 rfl rfl rfl rfl ?_
        refine SX.next ?_
        refine CW.test rfl (fun hc3 => ?_) (fun hc3 => ?_)
        · skip
          have hsk := mulF_skip (a := a) (b := b) (i := i) (by omega)
          refine CW.exit rfl ?_
          refine KN.code ?_
          refine CW.reg [0, 1, 2] rfl ?_
          refine s_mv 28 rfl rfl ?_
          refine s_add 29 rfl rfl rfl (r := ((i + 1 : Nat) : Int)) (w64 (by omega)) ?_
          refine s_as 8 rfl rfl ?_
          refine SX.end_ ?_
          exact KN.back (i + 1) ⟨rfl, rfl, rfl, rfl, rfl, rfl, trivial⟩ (fun _ h => by rw [← tab_cong (fun j _ => hsk j)]; exact h) (by omega) (by omega)
        · skip
          have ha1 : cf a i = 1 := by omega
          refine CW.skip ?_
          refine KN.code ?_
          refine CW.seq ?_
          refine CW.reg [0] rfl ?_
          refine s_as 9 rfl rfl ?_
          refine SX.next ?_
          refine CW.block ?_
          refine CW.loop (G := Nat) (fun k => [(0, .slice A p.length c), (1, .slice A2 p2.length c2), (5, .int .i64 ((a.length : Nat) - 1)), (6, .int .i64 ((b.length : Nat) - 1)), (7, .slice (some ⟨go, 0, none⟩) (a.length + b.length - 1) (a.length + b.length - 1)), (8, .int .i64 (i : Nat)), (9, .int .i64 (k : Nat))]) (fun k => Sto w [blk go 3 (ints .i64 (tab (a.length + b.length - 1) (mulF 3 a b i k))).toArray]) (fun k => k ≤ b.length) (fun k => b.length - k) 0 ⟨rfl, rfl, rfl, rfl, rfl, rfl, rfl, trivial⟩ (fun _ h => h) (Nat.zero_le _) ?_
          intro k hk2
          have hbk := hB.tr.c k
          have hg1 : gm 3 (cf a i) (cf b k) = cf b k := by rw [ha1]; exact gm_one_left ok3 hbk
          refine CW.seq ?_
          refine CW.seq ?_
          refine CW.reg [0, 1, 2] rfl ?_
          refine s_mv 34 rfl rfl ?_
          refine s_mv 35 rfl rfl ?_
          refine s_le 36 rfl rfl rfl rfl ?_
          refine SX.next ?_
          refine CW.test rfl (fun hc => ?_) (fun hc => ?_)
          · skip
            refine CW.skip ?_
            refine KN.code ?_
            refine CW.seq ?_
            refine CW.block ?_
            refine CW.regD (.st true 0 (.st true 1 (.st true 2 (.st true 3 (.st true 4 (.st true 5 (.st true 6 (.st true 7 (.st true 8 (.st true 10 (.st true 11 (.alt 9 (.st false 12 (.st true 13 (.st true 14 (.st false 15 .done)))) (.st false 12 (.st false 9 (.st true 13 (.st true 14 (.st false 15 .done))))))))))))))))) (Sto w []) mixed (by kernel_rfl) (fun _ h => h.drew) (fun _ h => h.pick [] rfl) ?_
            refine s_mv 39 rfl rfl ?_
            refine s_mv 40 rfl rfl ?_
            refine s_mv 41 rfl rfl ?_
            refine s_add 42 rfl rfl rfl (r := ((i + k : Nat) : Int)) (w64 (by omega)) ?_
            refine s_mv 43 rfl rfl ?_
            refine s_mv 44 rfl rfl ?_
            refine s_mv 45 rfl rfl ?_
            refine s_add 46 rfl rfl rfl (r := ((i + k : Nat) : Int)) (w64 (by omega)) ?_
            refine s_ia0 47 (i + k) rfl rfl rfl rfl (by omega) ?_
            refine s_mv 49 rfl rfl ?_
            refine s_mv 50 rfl rfl ?_
            refine SX.alt ?_ ?_
            · skip
              refine s_ldB 48 0 rfl rfl rfl (tab_atA (by omega)) ?_
              refine s_call1 51 rfl rfl rfl rfl (v := .int .i64 (cf b k : Nat)) (fun w hw => by have := rbit_spec A2 p2.length c2 p2 (k : Nat) w (hw.old ha2) hp2 hn2 hcp2 (by omega); rw [bitI_nat, ← cf_bl, eb] at this; exact this) (fun _ h => h.pick [] rfl) ?_
              refine s_bit 52 rfl rfl rfl rfl (r := ibit .xor .i64 (mulF 3 a b i k (i + k)) (gm 3 (cf a i) (cf b k) : Nat)) (by rw [hg1]) ?_
              refine s_ia0 53 (i + k) rfl rfl rfl rfl (by omega) ?_
              refine s_stB 0 rfl rfl rfl rfl rfl (by rw [tab_size]; omega) (fun _ h => h.pick [] rfl) ?_
              refine SX.end_ ?_
              refine KN.blk ?_
              refine KN.code ?_
              refine CW.reg [0, 1, 2] rfl ?_
              refine s_mv 37 rfl rfl ?_
              refine s_add 38 rfl rfl rfl (r := ((k + 1 : Nat) : Int)) (w64 (by omega)) ?_
              refine s_as 9 rfl rfl ?_
              refine SX.end_ ?_
              exact KN.back (k + 1) ⟨rfl, rfl, rfl, rfl, rfl, rfl, rfl, trivial⟩ (fun _ h => by rw [← mulF_next ok3 hA.tr.lt, ← tab_set]; exact h) (by omega) (by omega)
            · skip
              refine s_call1 51 rfl rfl rfl rfl (v := .int .i64 (cf b k : Nat)) (fun w hw => by have := rbit_spec A2 p2.length c2 p2 (k : Nat) w (hw.old ha2) hp2 hn2 hcp2 (by omega); rw [bitI_nat, ← cf_bl, eb] at this; exact this) (fun _ h => h.pick [] rfl) ?_
              refine s_ldB 48 0 rfl rfl rfl (tab_atA (by omega)) ?_
              refine s_bit 52 rfl rfl rfl rfl (r := ibit .xor .i64 (mulF 3 a b i k (i + k)) (gm 3 (cf a i) (cf b k) : Nat)) (by rw [hg1]) ?_
              refine s_ia0 53 (i + k) rfl rfl rfl rfl (by omega) ?_
              refine s_stB 0 rfl rfl rfl rfl rfl (by rw [tab_size]; omega) (fun _ h => h.pick [] rfl) ?_
              refine SX.end_ ?_
              refine KN.blk ?_
              refine KN.code ?_
              refine CW.reg [0, 1, 2] rfl ?_
              refine s_mv 37 rfl rfl ?_
              refine s_add 38 rfl rfl rfl (r := ((k + 1 : Nat) : Int)) (w64 (by omega)) ?_
              refine s_as 9 rfl rfl ?_
              refine SX.end_ ?_
              exact KN.back (k + 1) ⟨rfl, rfl, rfl, rfl, rfl, rfl, rfl, trivial⟩ (fun _ h => by rw [← mulF_next ok3 hA.tr.lt, ← tab_set]; exact h) (by omega) (by omega)
          · skip
            obtain rfl : k = b.length := by omega
            refine CW.exit rfl ?_
            refine KN.blk ?_
            refine KN.code ?_
            refine CW.reg [0, 1, 2] rfl ?_
            refine s_mv 28 rfl rfl ?_
            refine s_add 29 rfl rfl rfl (r := ((i + 1 : Nat) : Int)) (w64 (by omega)) ?_
            refine s_as 8 rfl rfl ?_
            refine SX.end_ ?_
            exact KN.back (i + 1) ⟨rfl, rfl, rfl, rfl, rfl, rfl, trivial⟩ (fun _ h => by rw [← tab_cong (fun j _ => mulF_row 3 a b i b.length (Nat.le_refl _) j)]; exact h) (by omega) (by omega)
      · skip
        obtain rfl : i = a.length := by omega
        have hfin := mul_bits hA hB
        refine CW.exit rfl ?_
        refine KN.code ?_
        refine CW.seq ?_
        refine CW.reg [0, 1, 2] rfl ?_
        refine s_mv 54 rfl rfl ?_
        refine s_call 55 rfl rfl rfl rfl (fun w hw => by have := rbits_spec (some ⟨go, 0, none⟩) (a.length + b.length - 1) (a.length + b.length - 1) (tab (a.length + b.length - 1) (mulF 3 a b a.length 0)) w (Has.cong ((hw.has (i := 0) rfl).blk_sl (m := (a.length + b.length - 1)) (by exact tab_size.trans (Nat.mul_one _).symm)) rfl) (by omega); rw [hfin] at this; exact this) (fun _ _ => trivial) (fun q hq => ?_)
        refine s_as 4 rfl rfl ?_
        refine SX.next ?_
        refine CW.ret ?_
        exact KN.ret (rs := [.tmp 4]) Tryd.results38 rfl (fun w hw => ⟨q, rfl, hq, hw.pick [0] rfl⟩)

/-! ### The document's minimal polynomials -/
theorem lowL_lin {m : Nat} (hm : Ok m) (z : Int) : trim (lowL m [z, 1]) = [lo m z, 1] := by
  have e : lowL m [z, 1] = [lo m z, 1] := by show [lo m _, lo m 1] = _; rw [lo1 hm]
  rw [e, (lin_tr hm (lo_lt m z)).eq]
/-- The places at which there is 1. -/
def onesL (p : List Nat) : Nat → List Nat
  | 0 => []
  | k + 1 => if cf p k = 1 then onesL p k ++ [k] else onesL p k
theorem onesL_lt {p : List Nat} : ∀ {k x : Nat}, x ∈ onesL p k → x < k
  | 0, _, h => by cases h
  | k + 1, x, h => by
    unfold onesL at h
    split at h
    · rcases List.mem_append.1 h with h | h
      · have := onesL_lt h; omega
      · rw [List.mem_singleton.1 h]; omega
    · have := onesL_lt h; omega
theorem onesL_len (p : List Nat) : ∀ k, (onesL p k).length ≤ k
  | 0 => Nat.le_refl _
  | k + 1 => by
    have := onesL_len p k
    unfold onesL
    split
    · simp; omega
    · omega
theorem sumF_snoc (l : List Int) (x : Int) : sumF (eX (l ++ [x])) (l.length + 1) = addP (sumF (eX l) l.length) (xP x.toNat) := by
  show addP (sumF (eX (l ++ [x])) l.length) (eX (l ++ [x]) l.length) = _
  rw [sumF_congr (f := eX (l ++ [x])) (g := eX l) (fun j hj => by unfold eX; rw [List.getD_eq_getElem?_getD, List.getElem?_append_left hj, ← List.getD_eq_getElem?_getD])]
  congr 1
  unfold eX
  rw [List.getD_eq_getElem?_getD, List.getElem?_append_right (Nat.le_refl _), Nat.sub_self]
  rfl
theorem ones_cf (p : List Nat) (j : Nat) : ∀ k, cf (sumF (eX ((onesL p k).map Int.ofNat)) (onesL p k).length) j = if j < k ∧ cf p j = 1 then 1 else 0
  | 0 => by rw [if_neg (by omega)]; exact cf_nil j
  | k + 1 => by
    have ih := ones_cf p j k
    unfold onesL
    split
    · rename_i h1
      have h2 := sumF_snoc ((onesL p k).map Int.ofNat) (k : Int)
      rw [List.length_map] at h2
      rw [List.map_append, List.length_append]
      show cf (sumF (eX ((onesL p k).map Int.ofNat ++ [(k : Int)])) ((onesL p k).length + 1)) j = _
      rw [h2, cf_addP, ih, cf_xP, Int.toNat_natCast]
      by_cases hj : j = k
      · subst hj; rw [if_neg (by omega), if_pos rfl, if_pos ⟨by omega, h1⟩]; rfl
      · rw [if_neg hj, Nat.xor_zero]
        by_cases h3 : j < k ∧ cf p j = 1
        · rw [if_pos h3, if_pos ⟨by omega, h3.2⟩]
        · rw [if_neg h3, if_neg (by omega)]
    · rename_i h1
      rw [ih]
      by_cases h3 : j < k ∧ cf p j = 1
      · rw [if_pos h3, if_pos ⟨by omega, h3.2⟩]
      · rw [if_neg h3, if_neg (fun h => h3 ⟨by rcases Nat.lt_succ_iff_lt_or_eq.1 h.1 with h4 | h4; exact h4; subst h4; exact absurd h.2 h1, h.2⟩)]
theorem ones_all {p : List Nat} (hp : B1 p) : sumF (eX ((onesL p p.length).map Int.ofNat)) ((onesL p p.length).map Int.ofNat).length = p := by
  rw [List.length_map]
  refine (sumF_b1 (eX_b1 _) _).tr.ext hp.tr (fun j => ?_)
  rw [ones_cf]
  have := hp.le j
  by_cases h : j < p.length
  · by_cases h1 : cf p j = 1
    · rw [if_pos ⟨h, h1⟩, h1]
    · rw [if_neg (fun h2 => h1 h2.2)]; omega
  · rw [if_neg (fun h2 => h h2.1), cf_out (by omega)]
theorem ones_in {p : List Nat} {k : Nat} (hk : k ≤ 2048) : ∀ j, j < ((onesL p k).map Int.ofNat).length → 0 ≤ ((onesL p k).map Int.ofNat).getD j 0 ∧ ((onesL p k).map Int.ofNat).getD j 0 ≤ 2048 := fun j hj => by
  rw [List.length_map] at hj
  rw [List.getD_eq_getElem?_getD, List.getElem?_map, List.getElem?_eq_getElem hj]
  have := onesL_lt (List.getElem_mem hj)
  show 0 ≤ ((_ : Nat) : Int) ∧ ((_ : Nat) : Int) ≤ 2048
  omega

theorem rfrom_spec (m : Nat) (A : Option Addr) (n c : Nat) (l : List Int) (w : World) (hm : Ok m) (ha : Has (sl 1 A n (ints .i64 l)) w) (hn : n ≤ 100) : SpecL Tryd.prog 152 [.int .i64 (m : Nat), .slice A n c] w (frP m l l.length) := by
  have hla := ints_len ha
  subst hla
  refine spec_of Tryd.func152 rfl Tryd.ntmps152 rfl ?_
  refine CW.seq ?_
  refine CW.reg [0] rfl ?_
  refine s_as 4 rfl rfl ?_
  refine SX.next ?_
  refine CW.seq ?_
  refine CW.reg [0, 1] rfl ?_
  refine s_bsl 7 rfl rfl (cells := #[.int .i64 1]) (by kernel_rfl) rfl (fun _ _ => trivial) (fun gb => ?_)
  refine s_as 5 rfl rfl ?_
  refine SX.next ?_
  refine CW.seq ?_
  refine CW.seq ?_
  refine CW.reg [0] rfl ?_
  refine s_as 6 rfl rfl ?_
  refine SX.next ?_
  refine CW.block ?_
  refine CW.loop (G := Nat × Option Addr × Nat) (fun q => [(0, .int .i64 (m : Nat)), (1, .slice A l.length c), (5, .slice q.2.1 (frP m l q.1).length q.2.2), (6, .int .i64 (q.1 : Nat))]) (fun q => Sto w [own 3 1 q.2.1 (frP m l q.1).length q.2.2 (nats .i64 (frP m l q.1))]) (fun q => q.1 ≤ l.length ∧ (frP m l q.1).length ≤ q.2.2) (fun q => l.length - q.1) (0, some ⟨gb, 0, none⟩, 1) ⟨rfl, rfl, rfl, rfl, trivial⟩ (fun _ h => h.blkOwn (q := 0) (c := 1) rfl rfl (by unfold maxLen; omega)) ⟨Nat.zero_le _, Nat.le_refl _⟩ ?_
  rintro ⟨i, qa, qc⟩ ⟨hi, hqc⟩
  simp only at hi hqc
  dsimp only
  have hfl := frP_len m l i
  have hft := frP_tr hm l i
  have hnx := frP_next hm l i
  refine CW.seq ?_
  refine CW.seq ?_
  refine CW.reg [0, 1, 2, 3] rfl ?_
  refine s_mv 8 rfl rfl ?_
  refine s_mv 9 rfl rfl ?_
  refine s_len 10 rfl rfl ?_
  refine s_lt 11 rfl rfl rfl rfl ?_
  refine SX.next ?_
  refine CW.test rfl (fun hc => ?_) (fun hc => ?_)
  · skip
    have hil : i < l.length := by omega
    have hfs : mulP m (trim (lowL m ((frP m l i).map Int.ofNat))) (trim (lowL m [l.getD i 0, 1])) = (frP m l (i + 1)) := by rw [hft.low, lowL_lin hm]; exact hnx
    refine CW.skip ?_
    refine KN.code ?_
    refine CW.seq ?_
    refine CW.block ?_
    refine CW.reg [0, 1, 2, 3, 4, 5, 6, 7, 8] rfl ?_
    refine s_mv 14 rfl rfl ?_
    refine s_mv 15 rfl rfl ?_
    refine s_mv 16 rfl rfl ?_
    refine s_mv 17 rfl rfl ?_
    refine s_iaV 18 i (fun w hw => hw.old ha) rfl rfl rfl rfl (by omega) ?_
    refine s_ldV 19 (fun w hw => hw.old ha) rfl rfl (by rw [Nat.mul_one]; exact intsAt hil) (by omega) ?_
    refine s_bsl 20 rfl rfl (cells := #[.int .i64 (l.getD i 0), .int .i64 1]) (by kernel_rfl) rfl (fun _ _ => trivial) (fun g20 => ?_)
    refine s_call 21 rfl rfl rfl rfl (fun w hw => by have := rtimes_spec m qa (frP m l i).length qc ((frP m l i).map Int.ofNat) (some ⟨g20, 0, none⟩) 2 2 [l.getD i 0, 1] w hm (by rw [← nats_ints]; exact (hw.has (i := 1) rfl).of_own) (Has.cong ((hw.has (i := 0) rfl).blk_sl (m := 2) rfl) rfl) (by omega) (by omega); rw [hfs] at this; exact this) (fun _ _ => trivial) (fun q21 hq21 => ?_)
    refine s_as 5 rfl rfl ?_
    refine SX.end_ ?_
    refine KN.blk ?_
    refine KN.code ?_
    refine CW.reg [0, 1, 2] rfl ?_
    refine s_mv 12 rfl rfl ?_
    refine s_add 13 rfl rfl rfl (r := ((i + 1 : Nat) : Int)) (w64 (by omega)) ?_
    refine s_as 6 rfl rfl ?_
    refine SX.end_ ?_
    exact KN.back (i + 1, q21.1, q21.2) ⟨rfl, rfl, rfl, rfl, trivial⟩ (fun _ h => h.pick [0] rfl) ⟨by simp only; omega, hq21⟩ (by simp only; omega)
  · skip
    have hie : i = l.length := by omega
    subst hie
    refine CW.exit rfl ?_
    refine KN.code ?_
    refine CW.seq ?_
    refine CW.reg [0, 1] rfl ?_
    refine s_mv 22 rfl rfl ?_
    refine s_as 4 rfl rfl ?_
    refine SX.next ?_
    refine CW.ret ?_
    exact KN.ret (rs := [.tmp 4]) Tryd.results152 rfl (fun w hw => ⟨(qa, qc), rfl, hqc, hw⟩)

theorem rmin_spec (m : Nat) (i : Int) (w : World) (hm : Ok m) : SpecB Tryd.prog 142 [.int .i64 (m : Nat), .int .i64 i] w (bys (minP m (em m i))) := by
  have hmh := hm.hi
  have hcl := cos_len_pos hm (em m i)
  have hPB := minP_b1 hm (em m i)
  have hPl := minP_len hm (em m i)
  refine spec_of Tryd.func142 rfl Tryd.ntmps142 rfl ?_
  refine CW.seq ?_
  refine CW.reg [0] rfl ?_
  refine s_as 4 rfl rfl ?_
  refine SX.next ?_
  refine CW.seq ?_
  refine CW.reg [0, 1, 2, 3] rfl ?_
  refine s_mv 11 rfl rfl ?_
  refine s_mv 12 rfl rfl ?_
  refine s_call 13 rfl rfl rfl rfl (fun w hw => rcoset_spec m i w hm) (fun _ _ => trivial) (fun q13 hq13 => ?_)
  refine s_as 5 rfl rfl ?_
  refine SX.next ?_
  refine CW.seq ?_
  refine CW.reg [0] rfl ?_
  refine s_as 6 rfl rfl ?_
  refine SX.next ?_
  refine CW.seq ?_
  refine CW.seq ?_
  refine CW.reg [0] rfl ?_
  refine s_as 7 rfl rfl ?_
  refine SX.next ?_
  refine CW.block ?_
  refine CW.loop (G := Nat × Option Addr × Nat) (fun q => [(0, .int .i64 (m : Nat)), (5, .slice q13.1 (cosP m (em m i)).length q13.2), (6, .slice q.2.1 q.1 q.2.2), (7, .int .i64 (q.1 : Nat))]) (fun q => Sto w [own 3 1 q.2.1 q.1 q.2.2 (ints .i64 (RL m ((cosP m (em m i)).take q.1))), own 3 1 q13.1 (cosP m (em m i)).length q13.2 (nats .i64 (cosP m (em m i)))]) (fun q => q.1 ≤ (cosP m (em m i)).length ∧ q.1 ≤ q.2.2) (fun q => (cosP m (em m i)).length - q.1) (0, none, 0) ⟨rfl, rfl, rfl, rfl, trivial⟩ (fun _ h => h.begin_ 3 1) ⟨Nat.zero_le _, Nat.le_refl _⟩ ?_
  rintro ⟨k, qa, qc⟩ ⟨hk, hqc⟩
  simp only at hk hqc
  dsimp only
  refine CW.seq ?_
  refine CW.seq ?_
  refine CW.reg [0, 1, 2, 3] rfl ?_
  refine s_mv 14 rfl rfl ?_
  refine s_mv 15 rfl rfl ?_
  refine s_len 16 rfl rfl ?_
  refine s_lt 17 rfl rfl rfl rfl ?_
  refine SX.next ?_
  refine CW.test rfl (fun hc => ?_) (fun hc => ?_)
  · skip
    have hkl : k < (cosP m (em m i)).length := by omega
    have hRn : ints .i64 (RL m ((cosP m (em m i)).take k)) ++ [.int .i64 (exz m ((cf (cosP m (em m i)) k : Nat) : Int) : Nat)] = ints .i64 (RL m ((cosP m (em m i)).take (k + 1))) := by rw [take_cf hkl]; simp [RL, ints]
    refine CW.skip ?_
    refine KN.code ?_
    refine CW.seq ?_
    refine CW.block ?_
    refine CW.reg [0, 1, 2, 3, 4, 5, 6, 7, 8, 9] rfl ?_
    refine s_mv 20 rfl rfl ?_
    refine s_mv 21 rfl rfl ?_
    refine s_mv 22 rfl rfl ?_
    refine s_mv 23 rfl rfl ?_
    refine s_iaO 24 1 k rfl rfl rfl rfl rfl (by omega) ?_
    refine s_ldO 25 1 rfl rfl rfl (natsAtC hkl) ?_
    refine s_call1 26 rfl rfl rfl rfl (v := .int .i64 (exz m ((cf (cosP m (em m i)) k : Nat) : Int) : Nat)) (fun w hw => rexp_spec m _ w hm) (fun _ _ => trivial) ?_
    refine s_bsl 27 rfl rfl (cells := #[.int .i64 (exz m ((cf (cosP m (em m i)) k : Nat) : Int) : Nat)]) (by kernel_rfl) rfl (fun _ _ => trivial) (fun gb => ?_)
    refine s_app 28 1 rfl rfl rfl rfl (ys := [.int .i64 (exz m ((cf (cosP m (em m i)) k : Nat) : Int) : Nat)]) (fun w hw => Has.cong ((hw.has (i := 0) rfl).blk_sl (m := 1) rfl) rfl) rfl rfl (by omega) (by unfold maxLen; omega) (by omega) (fun _ _ _ _ => trivial) (fun A2 c2 hc2 => ?_)
    refine s_as 6 rfl rfl ?_
    refine SX.end_ ?_
    refine KN.blk ?_
    refine KN.code ?_
    refine CW.reg [0, 1, 2] rfl ?_
    refine s_mv 18 rfl rfl ?_
    refine s_add 19 rfl rfl rfl (r := ((k + 1 : Nat) : Int)) (w64 (by omega)) ?_
    refine s_as 7 rfl rfl ?_
    refine SX.end_ ?_
    exact KN.back (k + 1, A2, c2) ⟨rfl, rfl, rfl, rfl, trivial⟩ (fun _ h => by
      have h1 := h.pick [1, 1] rfl
      rw [hRn] at h1
      exact h1) ⟨by simp only; omega, hc2⟩ (by simp only; omega)
  · skip
    have hke : k = (cosP m (em m i)).length := by omega
    have hRL : (RL m ((cosP m (em m i)).take k)) = RL m (cosP m (em m i)) := by rw [hke, List.take_length]
    have hRl : (RL m (cosP m (em m i))).length = k := by unfold RL; rw [List.length_map, hke]
    have hfm : frP m (RL m (cosP m (em m i))) (RL m (cosP m (em m i))).length = (minP m (em m i)) := by rw [hRl, hke]; exact frP_min hm _
    refine CW.exit rfl ?_
    refine KN.code ?_
    refine CW.seq ?_
    refine CW.reg [0, 1, 2, 3] rfl ?_
    refine s_mv 29 rfl rfl ?_
    refine s_mv 30 rfl rfl ?_
    refine s_call 31 rfl rfl rfl rfl (fun w hw => by have := rfrom_spec m qa k qc (RL m (cosP m (em m i))) w hm (by rw [← hRL]; exact (hw.has (i := 0) rfl).of_own) (by omega); rw [hfm] at this; exact this) (fun _ _ => trivial) (fun q31 hq31 => ?_)
    refine s_as 8 rfl rfl ?_
    refine SX.next ?_
    refine CW.seq ?_
    refine CW.reg [0] rfl ?_
    refine s_as 9 rfl rfl ?_
    refine SX.next ?_
    refine CW.seq ?_
    refine CW.seq ?_
    refine CW.reg [0] rfl ?_
    refine s_as 10 rfl rfl ?_
    refine SX.next ?_
    refine CW.block ?_
    refine CW.loop (G := Nat × Option Addr × Nat) (fun q => [(8, .slice q31.1 (minP m (em m i)).length q31.2), (9, .slice q.2.1 (onesL (minP m (em m i)) q.1).length q.2.2), (10, .int .i64 (q.1 : Nat))]) (fun q => Sto w [own 3 1 q.2.1 (onesL (minP m (em m i)) q.1).length q.2.2 (nats .i64 (onesL (minP m (em m i)) q.1)), own 3 1 q31.1 (minP m (em m i)).length q31.2 (nats .i64 (minP m (em m i)))]) (fun q => q.1 ≤ (minP m (em m i)).length ∧ (onesL (minP m (em m i)) q.1).length ≤ q.2.2) (fun q => (minP m (em m i)).length - q.1) (0, none, 0) ⟨rfl, rfl, rfl, trivial⟩ (fun _ h => (h.pick [0] rfl).begin_ 3 1) ⟨Nat.zero_le _, Nat.le_refl _⟩ ?_
    rintro ⟨k, ra, rc⟩ ⟨hk, hrc⟩
    simp only at hk hrc
    dsimp only
    have hol := onesL_len (minP m (em m i)) k
    refine CW.seq ?_
    refine CW.seq ?_
    refine CW.reg [0, 1, 2, 3] rfl ?_
    refine s_mv 32 rfl rfl ?_
    refine s_mv 33 rfl rfl ?_
    refine s_len 34 rfl rfl ?_
    refine s_lt 35 rfl rfl rfl rfl ?_
    refine SX.next ?_
    refine CW.test rfl (fun hc => ?_) (fun hc => ?_)
    · skip
      have hkl : k < (minP m (em m i)).length := by omega
      refine CW.skip ?_
      refine KN.code ?_
      refine CW.seq ?_
      refine CW.block ?_
      refine CW.seq ?_
      refine CW.reg [0, 1, 2, 3, 4] rfl ?_
      refine s_mv 38 rfl rfl ?_
      refine s_mv 39 rfl rfl ?_
      refine s_iaO 40 1 k rfl rfl rfl rfl rfl (by omega) ?_
      refine s_ldO 41 1 rfl rfl rfl (natsAtC hkl) ?_
      refine s_eq 42 rfl rfl rfl (r := decide (cf (minP m (em m i)) k = 1)) (decide_eq_decide.2 (by omega)) ?_
      refine SX.next ?_
      refine CW.cond rfl (fun hc => ?_) (fun hc => ?_)
      · skip
        have hnx : (onesL (minP m (em m i)) (k + 1)) = (onesL (minP m (em m i)) k) ++ [k] := if_pos (by simpa using hc)
        refine CW.reg [0, 1, 2, 3, 4] rfl ?_
        refine s_mv 43 rfl rfl ?_
        refine s_mv 44 rfl rfl ?_
        refine s_bsl 45 rfl rfl (cells := #[.int .i64 (k : Nat)]) (by kernel_rfl) rfl (fun _ _ => trivial) (fun gb => ?_)
        refine s_app 46 1 rfl rfl rfl rfl (ys := [.int .i64 (k : Nat)]) (fun w hw => Has.cong ((hw.has (i := 0) rfl).blk_sl (m := 1) rfl) rfl) rfl rfl (by omega) (by unfold maxLen; omega) (by omega) (fun _ _ _ _ => trivial) (fun A2 c2 hc2 => ?_)
        refine s_as 9 rfl rfl ?_
        refine SX.end_ ?_
        refine KN.blk ?_
        refine KN.code ?_
        refine CW.reg [0, 1, 2] rfl ?_
        refine s_mv 36 rfl rfl ?_
        refine s_add 37 rfl rfl rfl (r := ((k + 1 : Nat) : Int)) (w64 (by omega)) ?_
        refine s_as 10 rfl rfl ?_
        refine SX.end_ ?_
        exact KN.back (k + 1, A2, c2) ⟨rfl, by simp only [hnx, List.length_append]; rfl, rfl, trivial⟩ (fun _ h => by
          have h1 := h.pick [1, 1] rfl
          simp only [hnx, List.length_append, List.length_singleton]
          rw [nats_snoc] at h1
          exact h1) ⟨by simp only; omega, by simp only [hnx, List.length_append, List.length_singleton]; exact hc2⟩ (by simp only; omega)
      · skip
        have hnx : (onesL (minP m (em m i)) (k + 1)) = (onesL (minP m (em m i)) k) := if_neg (by simpa using hc)
        refine CW.skip ?_
        refine KN.blk ?_
        refine KN.code ?_
        refine CW.reg [0, 1, 2] rfl ?_
        refine s_mv 36 rfl rfl ?_
        refine s_add 37 rfl rfl rfl (r := ((k + 1 : Nat) : Int)) (w64 (by omega)) ?_
        refine s_as 10 rfl rfl ?_
        refine SX.end_ ?_
        exact KN.back (k + 1, ra, rc) ⟨rfl, by simp only [hnx]; rfl, rfl, trivial⟩ (fun _ h => by simp only [hnx]; exact h) ⟨by simp only; omega, by simp only [hnx]; exact hrc⟩ (by simp only; omega)
    · skip
      have hke2 : k = (minP m (em m i)).length := by omega
      subst hke2
      have hoa := ones_all hPB
      refine CW.exit rfl ?_
      refine KN.code ?_
      refine CW.seq ?_
      refine CW.reg [0, 1, 2] rfl ?_
      refine s_mv 47 rfl rfl ?_
      refine s_call 48 rfl rfl rfl rfl (fun w hw => by have := rof_spec ra (onesL (minP m (em m i)) (minP m (em m i)).length).length rc ((onesL (minP m (em m i)) (minP m (em m i)).length).map Int.ofNat) w (by rw [← nats_ints]; exact (hw.has (i := 0) rfl).of_own) (by omega) (ones_in (by omega)); rw [hoa] at this; exact this) (fun _ _ => trivial) (fun q48 hq48 => ?_)
      refine s_as 4 rfl rfl ?_
      refine SX.next ?_
      refine CW.ret ?_
      exact KN.ret (rs := [.tmp 4]) Tryd.results142 rfl (fun w hw => ⟨q48, rfl, hq48, hw.pick [0] rfl⟩)
end Go.Proofs.YtcdmmfpgeagimaaDoor
end
section
/- A register's bytes: shifted by a bit, by a byte. No program. -/
namespace Go.Proofs.YtcdmmfpgeagimaaDoor
open Go Go.Sx Go.Fm
theorem cf8 {L : List Nat} (hL : ∀ x ∈ L, x < 256) (i : Nat) : cf L i < 256 := cf_lt hL (by decide) i
/-- A list of a function's first values. -/
def tb (n : Nat) (f : Nat → Nat) : List Nat := (List.range n).map f
theorem tb_len (n : Nat) (f : Nat → Nat) : (tb n f).length = n := by simp [tb]
theorem tb_get {n i : Nat} {f : Nat → Nat} (h : i < n) : (tb n f)[i]? = some (f i) := by simp [tb, h]
theorem cf_tb {n i : Nat} {f : Nat → Nat} (h : i < n) : cf (tb n f) i = f i := by
  unfold cf
  rw [List.getD_eq_getElem?_getD, tb_get h]; rfl
theorem tb_congr {n : Nat} {f g : Nat → Nat} (h : ∀ i, i < n → f i = g i) : tb n f = tb n g := List.map_congr_left (fun i hi => h i (List.mem_range.1 hi))
theorem tb_of (l : List Nat) : tb l.length (cf l) = l := by
  apply List.ext_getElem?
  intro i
  by_cases h : i < l.length
  · rw [tb_get h, cf_in h]
  · rw [List.getElem?_eq_none (by rw [tb_len]; omega), List.getElem?_eq_none (by omega)]
theorem tb_set {n i : Nat} {f : Nat → Nat} (v : Nat) : (tb n f).set i v = tb n (fun j => if j = i then v else f j) := by
  apply List.ext_getElem?
  intro j
  rw [List.getElem?_set]
  by_cases hj : j < n
  · rw [tb_get hj, tb_get hj, tb_len]
    by_cases h : i = j
    · subst h; rw [if_pos rfl, if_pos hj, if_pos rfl]
    · rw [if_neg h, if_neg (Ne.symm h)]
  · rw [List.getElem?_eq_none (l := tb n f) (by rw [tb_len]; omega), List.getElem?_eq_none (l := tb n fun j => if j = i then v else f j) (by rw [tb_len]; omega), tb_len]
    by_cases h : i = j
    · rw [if_pos h, if_neg (by omega)]
    · rw [if_neg h]
theorem tb_lt {n b : Nat} {f : Nat → Nat} (h : ∀ i, i < n → f i < b) : ∀ x ∈ tb n f, x < b := fun x hx => by
  obtain ⟨i, hi, e⟩ := List.mem_map.1 hx
  rw [← e]
  exact h i (List.mem_range.1 hi)
/-- A polynomial's first k bytes. -/
def pb (k : Nat) (a : List Nat) : List Nat := tb k (fun i => byt (fun s => cf a (8 * i + s)) 8)
theorem pb_len (k : Nat) (a : List Nat) : (pb k a).length = k := tb_len _ _
theorem pb_lt {a : List Nat} (ha : B1 a) (k : Nat) : ∀ x ∈ pb k a, x < 256 := tb_lt (fun i _ => (byt_spec (fun s => ha.le (8 * i + s)) 8).1)
theorem pb_test {a : List Nat} (ha : B1 a) {k i s : Nat} (hi : i < k) (hs : s < 8) : ((cf (pb k a) i).testBit s).toNat = cf a (8 * i + s) := by
  unfold pb
  rw [cf_tb hi]
  exact (byt_spec (fun s => ha.le (8 * i + s)) 8).2 s hs
/-- Bytes with these bits are these. -/
theorem pb_of {L a : List Nat} (ha : B1 a) (hL : ∀ x ∈ L, x < 256) (h : ∀ i s, i < L.length → s < 8 → ((cf L i).testBit s).toNat = cf a (8 * i + s)) : L = pb L.length a := by
  have e := tb_of L
  rw [← e]
  unfold pb
  rw [tb_len]
  refine tb_congr (fun i hi => test_ext (cf8 hL i) (byt_spec (fun s => ha.le (8 * i + s)) 8).1 (fun s hs => toNat_inj ?_))
  rw [h i s hi hs]
  exact ((byt_spec (fun s => ha.le (8 * i + s)) 8).2 s hs).symm
theorem bitN_pb {a : List Nat} (ha : B1 a) {k j : Nat} (h : j < 8 * k) : bitN (pb k a) j = cf a j := by
  have e := bitN_test (pb k a) (j / 8) (j % 8) (Nat.mod_lt _ (by omega))
  rw [show 8 * (j / 8) + j % 8 = j by omega] at e
  rw [e, pb_test ha (by omega) (Nat.mod_lt _ (by omega)), show 8 * (j / 8) + j % 8 = j by omega]
theorem bl_pb {a : List Nat} (ha : B1 a) {k : Nat} (h : a.length ≤ 8 * k) : bl (pb k a) = a := b1_ext (bl_b1 _) ha (fun j => by
  rw [cf_bl]
  by_cases hj : j < 8 * k
  · exact bitN_pb ha hj
  · rw [bitN_out (by rw [pb_len]; omega), cf_out (by omega)])
theorem pb_zero (k : Nat) : List.replicate k 0 = pb k [] := by
  have h := pb_of (L := List.replicate k 0) (a := []) nil_b1 (fun x hx => by rw [(List.mem_replicate.1 hx).2]; decide) (fun i s hi hs => by
    have : cf (List.replicate k 0) i = 0 := by unfold cf; rw [List.getD_eq_getElem?_getD, List.getElem?_replicate]; split <;> rfl
    rw [this, cf_nil]; simp)
  rwa [List.length_replicate] at h
/-! ### By a bit -/
/-- A byte that gets its lower neighbour's highest bit. -/
def shN (L : List Nat) (i : Nat) : Nat := cf L i * 2 ^ 1 % 256 ||| (cf L (i - 1) >>> 7)
theorem shl_test (x s : Nat) (hs : s < 8) : (x * 2 ^ 1 % 256).testBit s = if s = 0 then false else x.testBit (s - 1) := by
  rw [show (256 : Nat) = 2 ^ 8 from rfl, Nat.testBit_mod_two_pow, decide_eq_true hs, Bool.true_and, Nat.mul_comm, Nat.testBit_two_pow_mul]
  by_cases h : s = 0
  · subst h; rfl
  · rw [if_neg h, decide_eq_true (by omega), Bool.true_and]
theorem shN_test {L : List Nat} (hL : ∀ x ∈ L, x < 256) {i s : Nat} (hs : s < 8) : (shN L i).testBit s = if s = 0 then (cf L (i - 1)).testBit 7 else (cf L i).testBit (s - 1) := by
  unfold shN
  rw [Nat.testBit_or, shl_test _ s hs, Nat.testBit_shiftRight]
  by_cases h : s = 0
  · subst h; rw [if_pos rfl, if_pos rfl, Bool.false_or]
  · rw [if_neg h, if_neg h]
    have : (cf L (i - 1)).testBit (7 + s) = false := Nat.testBit_lt_two_pow (Nat.lt_of_lt_of_le (cf8 hL _) (show 2 ^ 8 ≤ 2 ^ (7 + s) from Nat.pow_le_pow_right (by omega) (by omega)))
    rw [this, Bool.or_false]
theorem shN_lt {L : List Nat} (hL : ∀ x ∈ L, x < 256) (i : Nat) : shN L i < 256 := by
  unfold shN
  refine Nat.or_lt_two_pow (n := 8) (Nat.mod_lt _ (by decide)) ?_
  have := cf8 hL (i - 1)
  rw [Nat.shiftRight_eq_div_pow]
  omega
/-- The register shifted, its last byte cut. -/
def shC (d : Nat) (L : List Nat) (i : Nat) : Nat :=
  let v := if i = 0 then cf L 0 * 2 ^ 1 % 256 else shN L i
  if i = L.length - 1 ∧ d % 8 ≠ 0 then v % 2 ^ (d % 8) else v
theorem shC_lt {L : List Nat} (hL : ∀ x ∈ L, x < 256) (d i : Nat) : shC d L i < 256 := by
  unfold shC
  have hv : (if i = 0 then cf L 0 * 2 ^ 1 % 256 else shN L i) < 256 := by
    split
    · exact Nat.mod_lt _ (by decide)
    · exact shN_lt hL i
  simp only
  split
  · exact Nat.lt_of_le_of_lt (Nat.mod_le _ _) hv
  · exact hv
theorem shC_test {d : Nat} (hd : 1 ≤ d) {R : List Nat} (hR : B1 R) {i s : Nat} (hi : i < (d + 7) / 8) (hs : s < 8) : ((shC d (pb ((d + 7) / 8) R) i).testBit s).toNat = if 8 * i + s < d then (if 8 * i + s = 0 then 0 else cf R (8 * i + s - 1)) else 0 := by
  have hL := pb_lt hR ((d + 7) / 8)
  have hv : (((if i = 0 then cf (pb ((d + 7) / 8) R) 0 * 2 ^ 1 % 256 else shN (pb ((d + 7) / 8) R) i)).testBit s).toNat = if 8 * i + s = 0 then 0 else cf R (8 * i + s - 1) := by
    by_cases h0 : i = 0
    · subst h0
      rw [if_pos rfl, shl_test _ s hs]
      by_cases h : s = 0
      · subst h; rfl
      · rw [if_neg h, if_neg (by omega), pb_test hR hi (by omega), show 8 * 0 + s - 1 = 8 * 0 + (s - 1) by omega]
    · rw [if_neg h0, shN_test hL hs]
      by_cases h : s = 0
      · subst h
        rw [if_pos rfl, if_neg (by omega), pb_test hR (by omega) (by omega), show 8 * i + 0 - 1 = 8 * (i - 1) + 7 by omega]
      · rw [if_neg h, if_neg (by omega), pb_test hR hi (by omega), show 8 * i + s - 1 = 8 * i + (s - 1) by omega]
  unfold shC
  rw [pb_len]
  simp only
  split
  · rename_i hc
    rw [Nat.testBit_mod_two_pow]
    by_cases h : s < d % 8
    · rw [decide_eq_true h, Bool.true_and, hv, if_pos (show 8 * i + s < d by omega)]
    · rw [decide_eq_false h, Bool.false_and, if_neg (show ¬ 8 * i + s < d by omega)]
      rfl
  · rename_i hc
    rw [hv, if_pos (show 8 * i + s < d by omega)]
section
variable {G : List Nat} (hG : B1 G) (h2 : 2 ≤ G.length)
/-- The generator without its highest coefficient. -/
def lowG (G : List Nat) : List Nat := pl (G.length - 1) (cf G)
include hG h2
theorem lowG_b1 : B1 (lowG G) := by have := h2; exact pl_b1 hG.le
theorem cf_lowG (j : Nat) : cf (lowG G) j = if j < G.length - 1 then cf G j else 0 := by have := h2; have := hG; exact cf_pl _ _ _
/-- A step of one bit, in bytes. -/
theorem pb_step {A : List Nat} (hA : B1 A) {b : Nat} (hb : b < 2) : pb ((G.length - 1 + 7) / 8) (encE G (consP b A)) = tb ((G.length - 1 + 7) / 8) (fun i => shC (G.length - 1) (pb ((G.length - 1 + 7) / 8) (encE G A)) i ^^^ (if b = cf (encE G A) (G.length - 1 - 1) then 0 else cf (pb ((G.length - 1 + 7) / 8) (lowG G)) i)) := by
  have hE := encE_b1 hG h2 hA
  have hE2 := encE_b1 hG h2 (consP_b1 hb hA)
  have hl := lowG_b1 hG h2
  have hLb := pb_lt hl ((G.length - 1 + 7) / 8)
  have h := pb_of (L := tb ((G.length - 1 + 7) / 8) (fun i => shC (G.length - 1) (pb ((G.length - 1 + 7) / 8) (encE G A)) i ^^^ (if b = cf (encE G A) (G.length - 1 - 1) then 0 else cf (pb ((G.length - 1 + 7) / 8) (lowG G)) i))) hE2 (tb_lt (fun i _ => Nat.xor_lt_two_pow (n := 8) (shC_lt (pb_lt hE _) _ _) (by
    split
    · decide
    · exact cf8 hLb i))) (fun i s hi hs => by
    rw [tb_len] at hi
    rw [cf_tb hi, Nat.testBit_xor, encE_step hG h2 hA hb]
    have h1 := shC_test (d := G.length - 1) (by omega) hE hi hs
    have h3 := pb_test hl hi hs
    have ht := hE.le (G.length - 1 - 1)
    rw [cf_lowG hG h2] at h3
    have hx : ∀ p q : Bool, (p ^^ q).toNat = p.toNat ^^^ q.toNat := by decide
    rw [hx, h1]
    by_cases hj : 8 * i + s < G.length - 1
    · rw [if_pos hj] at h3
      rw [if_pos hj, if_pos hj]
      congr 1
      by_cases hbt : b = cf (encE G A) (G.length - 1 - 1)
      · rw [if_pos hbt, ← hbt, Nat.xor_self, Nat.zero_mul]; simp
      · rw [if_neg hbt, h3]
        have : b ^^^ cf (encE G A) (G.length - 1 - 1) = 1 := by
          rcases (show b = 0 ∨ b = 1 by omega) with h | h <;> rcases (show cf (encE G A) (G.length - 1 - 1) = 0 ∨ cf (encE G A) (G.length - 1 - 1) = 1 by omega) with h4 | h4 <;> rw [h, h4] at hbt ⊢ <;> simp at hbt ⊢
        rw [this, Nat.one_mul]
    · rw [if_neg hj] at h3
      rw [if_neg hj, if_neg hj]
      split
      · simp
      · rw [h3]; rfl)
  rw [tb_len] at h
  exact h.symm
end
/-! ### A word's bits, from above -/
theorem dnP_cons {D : List Nat} (hD : B1 D) (j : Nat) : dnP j D = consP (cf D j) (dnP (j + 1) D) := b1_ext (dnP_b1 hD j) (consP_b1 (hD.le j) (dnP_b1 hD _)) (fun i => by
  rw [cf_consP, cf_dnP, cf_dnP]
  by_cases h : i = 0
  · subst h; rw [if_pos rfl, Nat.zero_add]
  · rw [if_neg h, show i - 1 + (j + 1) = i + j by omega])
theorem dnP_out {D : List Nat} (hD : B1 D) {j : Nat} (h : D.length ≤ j) : dnP j D = [] := b1_ext (dnP_b1 hD j) nil_b1 (fun i => by rw [cf_dnP, cf_out (by omega), cf_nil])
theorem dnP_zero {D : List Nat} (hD : B1 D) : dnP 0 D = D := b1_ext (dnP_b1 hD 0) hD (fun i => by rw [cf_dnP, Nat.add_zero])
/-- The register's bytes, with the bits from j on. -/
noncomputable def regB (G D : List Nat) (j : Nat) : List Nat := pb ((G.length - 1 + 7) / 8) (encE G (dnP j D))
theorem regB_len (G D : List Nat) (j : Nat) : (regB G D j).length = (G.length - 1 + 7) / 8 := pb_len _ _
/-! ### By a byte -/
theorem bl_cons (y : Nat) (l : List Nat) : bl (y :: l) = addP (upP 8 (bl l)) (bl [y]) := b1_ext (bl_b1 _) (addP_b1 (upP_b1 (bl_b1 l) 8) (bl_b1 _)) (fun j => by
  rw [cf_addP, cf_bl, cf_upP, cf_bl [y]]
  by_cases h : 8 ≤ j
  · rw [if_pos h, cf_bl, bitN_out (l := [y]) (by simpa using h), Nat.xor_zero]
    unfold bitN
    rw [show j / 8 = (j - 8) / 8 + 1 by omega, cf_cons_succ, show j % 8 = (j - 8) % 8 by omega]
  · rw [if_neg h, Nat.zero_xor]
    unfold bitN
    rw [show j / 8 = 0 by omega]; rfl)
section
variable {G : List Nat} (hG : B1 G) (h2 : 2 ≤ G.length)
include hG h2
/-- The upper eight of the register. -/
theorem encE_byte (h9 : 9 ≤ G.length) {A D : List Nat} (hA : B1 A) (hD : B1 D) : encE G (addP (upP 8 A) D) = addP (pl (G.length - 1) (fun j => if 8 ≤ j then cf (encE G A) (j - 8) else 0)) (encE G (addP (pl 8 (fun s => cf (encE G A) (G.length - 1 - 8 + s))) D)) := by
  have bA := encE_b1 hG h2 hA
  have lA := encE_len hG h2 hA
  have hT := pl_b1 (n := 8) (f := fun s => cf (encE G A) (G.length - 1 - 8 + s)) (fun s => bA.le _)
  have hC := pl_b1 (n := G.length - 1) (f := fun j => if 8 ≤ j then cf (encE G A) (j - 8) else 0) (fun s => by split; exact bA.le _; omega)
  rw [encE_add hG h2 (upP_b1 hA 8) hD, encE_add hG h2 hT hD]
  have key : encE G (upP 8 A) = addP (pl (G.length - 1) (fun j => if 8 ≤ j then cf (encE G A) (j - 8) else 0)) (encE G (pl 8 (fun s => cf (encE G A) (G.length - 1 - 8 + s)))) := by
    have eA := encE_div hG h2 hA
    have eT := encE_div hG h2 hT
    have bT := encE_b1 hG h2 hT
    have lT := encE_len hG h2 hT
    have qA := quotP_b1 (upP_b1 hA (G.length - 1)) hG (by omega)
    have qT := quotP_b1 (upP_b1 hT (G.length - 1)) hG (by omega)
    generalize quotP 3 (upP (G.length - 1) A) G = q at *
    generalize quotP 3 (upP (G.length - 1) (pl 8 fun s => cf (encE G A) (G.length - 1 - 8 + s))) G = q2 at *
    generalize encE G (pl 8 fun s => cf (encE G A) (G.length - 1 - 8 + s)) = RT at *
    generalize hR : encE G A = R at *
    generalize hd : G.length - 1 = d at *
    refine encE_of hG h2 (upP_b1 hA 8) (addP_b1 (upP_b1 qA 8) qT) (addP_b1 hC bT) (Nat.lt_of_le_of_lt (b1_len (n := d) (addP_b1 hC bT) (fun j hj => by rw [cf_addP, cf_pl, if_neg (by omega), cf_out (by omega)]; rfl)) (by omega)) ?_
    have e1 : mulP 3 (upP 8 q) G = upP 8 (mulP 3 q G) := by
      rw [← mul_xP qA, ← mul_xP (mulP_b1 qA hG), mulP_assoc ok3 qA.tr (xP_b1 8).tr hG.tr, mulP_comm ok3 (xP_b1 8).tr hG.tr, ← mulP_assoc ok3 qA.tr hG.tr (xP_b1 8).tr]
    refine b1_ext (addP_b1 (mulP_b1 (addP_b1 (upP_b1 qA 8) qT) hG) (addP_b1 hC bT)) (upP_b1 (upP_b1 hA 8) _) (fun j => ?_)
    have e3 : ∀ i, cf (mulP 3 q G) i = cf (upP d A) i ^^^ cf R i := fun i => by
      rw [← eA, cf_addP, Nat.xor_assoc, Nat.xor_self, Nat.xor_zero]
    have e4 : ∀ i, cf (mulP 3 q2 G) i ^^^ cf RT i = cf (upP d (pl 8 fun s => cf R (d - 8 + s))) i := fun i => by rw [← eT, cf_addP]
    rw [cf_addP, mulP_add_left ok3 (upP_b1 qA 8).tr qT.tr hG.tr, cf_addP, cf_addP, e1, cf_upP 8, e3, hd, cf_upP d, cf_pl]
    have e5 := e4 j
    rw [cf_upP, cf_pl] at e5
    have hre : ∀ a b c e : Nat, a ^^^ b ^^^ (c ^^^ e) = a ^^^ c ^^^ (b ^^^ e) := fun a b c e => by
      rw [Nat.xor_assoc, Nat.xor_assoc, ← Nat.xor_assoc b, ← Nat.xor_assoc c, Nat.xor_comm b c]
    rw [hre, e5, cf_upP d, cf_upP 8]
    by_cases h8 : 8 ≤ j
    · by_cases hj : j < d
      · simp only [h8, hj, show ¬ d ≤ j - 8 by omega, show ¬ d ≤ j by omega, if_true, if_false, Nat.zero_xor, Nat.xor_zero]
        exact Nat.xor_self _
      · by_cases hj8 : j - d < 8
        · simp only [h8, hj, hj8, show ¬ d ≤ j - 8 by omega, show d ≤ j by omega, show ¬ 8 ≤ j - d by omega, if_true, if_false, Nat.zero_xor, Nat.xor_zero, show d - 8 + (j - d) = j - 8 by omega]
          exact Nat.xor_self _
        · have r0 : cf R (j - 8) = 0 := cf_out (by omega)
          simp only [h8, hj, hj8, r0, show d ≤ j - 8 by omega, show d ≤ j by omega, show 8 ≤ j - d by omega, if_true, if_false, Nat.xor_zero, show j - 8 - d = j - d - 8 by omega]
    · simp only [h8, show ¬ d ≤ j by omega, if_false, ite_self, Nat.xor_zero]
  rw [key]
  exact addP_assoc ok3 hC.tr (encE_b1 hG h2 hT).tr (encE_b1 hG h2 hD).tr
end
end Go.Proofs.YtcdmmfpgeagimaaDoor
end
section
/- Chapter 3's document: exponents, sums, shifts, quotients, common divisors, irreducible ones, walked; shifts and values of any number. Conditions: bytes, read where they lie; not too many. -/
namespace Go.Proofs.YtcdmmfpgeagimaaDoor
open Go Go.Lib Go.Sx Go.Fm Nb
set_option maxRecDepth 100000
theorem rbit_nat (A : Option Addr) (n c : Nat) (p : List Nat) (k : Nat) (w : World) (ha : Has (sl 1 A n (nats .u8 p)) w) (hp : ∀ x ∈ p, x < 256) (hn : n ≤ 1073741824) (hcp : n ≤ c) (hk : k ≤ 9223372036854775807) : Spec1 Tryd.prog 96 [.slice A n c, .int .i64 (k : Nat)] w (.int .i64 (cf (bl p) k : Nat)) := by
  have := rbit_spec A n c p k w ha hp hn hcp (by omega)
  rw [bitI_nat, ← cf_bl] at this
  exact this
/-- A table that is filled from below. -/
def upF (f : Nat → Nat) (i : Nat) : Nat → Nat := fun j => if j < i then f j else 0
theorem upF_zero (f : Nat → Nat) : upF f 0 = fun _ => 0 := by funext j; unfold upF; rw [if_neg (by omega)]
theorem upF_next (f : Nat → Nat) (i : Nat) : (fun j => if j = i then f i else upF f i j) = upF f (i + 1) := by
  funext j
  unfold upF
  by_cases h : j = i
  · subst h; rw [if_pos rfl, if_pos (by omega)]
  · rw [if_neg h]
    by_cases h2 : j < i
    · rw [if_pos h2, if_pos (by omega)]
    · rw [if_neg h2, if_neg (by omega)]
def jI (n : Nat) (f : Nat → Nat) : Array Value := (nats .i64 (tb n f)).toArray
theorem jI_at {n i : Nat} {f : Nat → Nat} (h : i < n) : (jI n f)[i]? = some (.int .i64 (f i : Nat)) := by
  unfold jI
  rw [List.getElem?_toArray, nats, List.getElem?_map, tb_get h]
  rfl
theorem jI_set (n : Nat) (f : Nat → Nat) (i v : Nat) : (jI n f).setIfInBounds i (.int .i64 (v : Nat)) = jI n (fun j => if j = i then v else f j) := by
  unfold jI
  rw [List.setIfInBounds_toArray, nats_set, tb_set]
theorem jI_size (n : Nat) (f : Nat → Nat) : (jI n f).size = n := by simp [jI, nats, tb_len]
theorem jI_zero (n : Nat) : (List.replicate n (Value.int .i64 0)).toArray = jI n (fun _ => 0) := by
  unfold jI tb nats
  rw [List.map_map]
  show _ = ((List.range n).map (fun _ => Value.int .i64 0)).toArray
  rw [List.map_const', List.length_range]
theorem jI_congr {n : Nat} {f g : Nat → Nat} (h : ∀ j, j < n → f j = g j) : jI n f = jI n g := by unfold jI; rw [tb_congr h]
theorem jI_all (n : Nat) (f : Nat → Nat) : jI n (upF f n) = jI n f := jI_congr (fun j hj => by unfold upF; rw [if_pos hj])
theorem getD_ofN (l : List Nat) (i : Nat) : (l.map Int.ofNat).getD i 0 = ((cf l i : Nat) : Int) := by
  unfold cf
  rw [List.getD_eq_getElem?_getD, List.getElem?_map, List.getD_eq_getElem?_getD]
  cases l[i]? <;> rfl
/-- The polynomial of a table of bits. -/
theorem nz_tb {n : Nat} {f : Nat → Nat} {a : List Nat} (ha : B1 a) (h : ∀ j, cf a j = if j < n then f j else 0) : nzP ((tb n f).map Int.ofNat) ((tb n f).map Int.ofNat).length = a := (nzP_b1 _ _).tr.ext ha.tr (fun j => by
  rw [cf_nzP, h, List.length_map, tb_len]
  by_cases hj : j < n
  · have h1 := ha.le j
    rw [h, if_pos hj] at h1
    rw [if_pos hj, if_pos hj]
    unfold nzF
    rw [getD_ofN, cf_tb hj]
    split <;> omega
  · rw [if_neg hj, if_neg hj])

theorem rexps_spec (A : Option Addr) (n c : Nat) (p : List Nat) (w : World) (ha : Has (sl 1 A n (nats .u8 p)) w) (hp : ∀ x ∈ p, x < 256) (hn : n ≤ 1073741824) (hcp : n ≤ c) : SpecL Tryd.prog 35 [.slice A n c] w (exL (bl p)) := by
  have hla := nats_len ha
  subst hla
  have hbl := bl_len p
  have hA := bl_b1 p
  have hdp := rdeg_spec A p.length c p
  generalize ea : bl p = a at *
  refine spec_of Tryd.func35 rfl Tryd.ntmps35 rfl ?_
  refine CW.seq ?_
  refine CW.reg [0] rfl ?_
  refine s_as 2 rfl rfl ?_
  refine SX.next ?_
  refine CW.seq ?_
  refine CW.reg [0] rfl ?_
  refine s_as 3 rfl rfl ?_
  refine SX.next ?_
  refine CW.seq ?_
  refine CW.seq ?_
  refine CW.reg [0, 1, 2] rfl ?_
  refine s_mv 5 rfl rfl ?_
  refine s_call1 6 rfl rfl rfl rfl (fun w hw => hdp w (hw.old ha) hp hn hcp) (fun _ _ => trivial) ?_
  refine s_as 4 rfl rfl ?_
  refine SX.next ?_
  refine CW.block ?_
  refine CW.loop (G := Nat × Option Addr × Nat) (fun z => [(0, .slice A p.length c), (3, .slice z.2.1 (exU a a.length z.1).length z.2.2), (4, .int .i64 (((a.length : Nat) : Int) - 1 - ((z.1 : Nat) : Int)))]) (fun z => Sto w [own 3 1 z.2.1 (exU a a.length z.1).length z.2.2 (nats .i64 (exU a a.length z.1))]) (fun z => z.1 ≤ a.length ∧ (exU a a.length z.1).length ≤ z.2.2) (fun z => a.length - z.1) (0, none, 0) ⟨rfl, rfl, by rw [show ((a.length : Nat) : Int) - 1 - ((0 : Nat) : Int) = ((a.length : Nat) : Int) - 1 by omega]; rfl, trivial⟩ (fun _ h => h.begin_ _ 1) ⟨Nat.zero_le _, Nat.le_refl _⟩ ?_
  rintro ⟨d, zA, zc⟩ ⟨hd, hzc⟩
  simp only at hd hzc
  dsimp only
  have hel := exU_len a a.length d
  refine CW.seq ?_
  refine CW.seq ?_
  refine CW.reg [0, 1] rfl ?_
  refine s_mv 7 rfl rfl ?_
  refine s_ge 8 rfl rfl rfl rfl ?_
  refine SX.next ?_
  refine CW.test rfl (fun hc => ?_) (fun hc => ?_)
  · skip
    have hdl : d < a.length := by omega
    have hk : ((a.length : Nat) : Int) - 1 - ((d : Nat) : Int) = (((a.length - 1 - d) : Nat) : Int) := by omega
    rw [hk]
    have hle := hA.le (a.length - 1 - d)
    refine CW.skip ?_
    refine KN.code ?_
    refine CW.seq ?_
    refine CW.block ?_
    refine CW.seq ?_
    refine CW.reg [0, 1, 2, 3] rfl ?_
    refine s_mv 11 rfl rfl ?_
    refine s_mv 12 rfl rfl ?_
    refine s_call1 13 rfl rfl rfl rfl (v := .int .i64 (cf a (a.length - 1 - d) : Nat)) (fun w hw => by have := rbit_nat A p.length c p (a.length - 1 - d) w (hw.old ha) hp hn hcp (by omega); rw [ea] at this; exact this) (fun _ _ => trivial) ?_
    refine s_eq 14 rfl rfl rfl rfl ?_
    refine SX.next ?_
    refine CW.test rfl (fun hc => ?_) (fun hc => ?_)
    · skip
      have hex : exU a a.length (d + 1) = exU a a.length d ++ [(a.length - 1 - d)] := if_neg (by omega)
      refine CW.reg [0, 1, 2, 3, 4] rfl ?_
      refine s_mv 15 rfl rfl ?_
      refine s_mv 16 rfl rfl ?_
      refine s_bsl 17 rfl rfl (cells := #[.int .i64 (((a.length - 1 - d) : Nat) : Int)]) (by kernel_rfl) rfl (fun _ _ => trivial) (fun gb => ?_)
      refine s_app 18 1 rfl rfl rfl rfl (ys := [.int .i64 (((a.length - 1 - d) : Nat) : Int)]) (fun w hw => Has.cong ((hw.has (i := 0) rfl).blk_sl (m := 1) rfl) rfl) rfl rfl (by omega) (by unfold maxLen; omega) (by omega) (fun _ _ _ _ => trivial) (fun A2 c2 hc2 => ?_)
      refine s_as 3 rfl rfl ?_
      refine SX.end_ ?_
      refine KN.blk ?_
      refine KN.code ?_
      refine CW.reg [0, 1, 2] rfl ?_
      refine s_mv 9 rfl rfl ?_
      refine s_sub 10 rfl rfl rfl (r := ((a.length : Nat) : Int) - 1 - ((d + 1 : Nat) : Int)) (by rw [show (((a.length - 1 - d) : Nat) : Int) - 1 = ((a.length : Nat) : Int) - 1 - ((d + 1 : Nat) : Int) by omega]; exact w64 (by omega)) ?_
      refine s_as 4 rfl rfl ?_
      refine SX.end_ ?_
      exact KN.back (d + 1, A2, c2) ⟨rfl, by simp only [hex, List.length_append, List.length_singleton]; rfl, rfl, trivial⟩ (fun _ hw => by
        simp only [hex, List.length_append, List.length_singleton]
        rw [← nats_snoc]
        exact hw.pick [1] rfl) ⟨by simp only; omega, by simp only [hex, List.length_append, List.length_singleton]; omega⟩ (by simp only; omega)
    · skip
      have hex : exU a a.length (d + 1) = exU a a.length d := if_pos (by omega)
      refine CW.skip ?_
      refine KN.blk ?_
      refine KN.code ?_
      refine CW.reg [0, 1, 2] rfl ?_
      refine s_mv 9 rfl rfl ?_
      refine s_sub 10 rfl rfl rfl (r := ((a.length : Nat) : Int) - 1 - ((d + 1 : Nat) : Int)) (by rw [show (((a.length - 1 - d) : Nat) : Int) - 1 = ((a.length : Nat) : Int) - 1 - ((d + 1 : Nat) : Int) by omega]; exact w64 (by omega)) ?_
      refine s_as 4 rfl rfl ?_
      refine SX.end_ ?_
      exact KN.back (d + 1, zA, zc) ⟨rfl, by simp only [hex]; rfl, rfl, trivial⟩ (fun _ hw => by simp only [hex]; exact hw) ⟨by simp only; omega, by simp only [hex]; exact hzc⟩ (by simp only; omega)
  · skip
    obtain rfl : d = a.length := by omega
    refine CW.exit rfl ?_
    refine KN.code ?_
    refine CW.seq ?_
    refine CW.reg [0, 1] rfl ?_
    refine s_mv 19 rfl rfl ?_
    refine s_as 2 rfl rfl ?_
    refine SX.next ?_
    refine CW.ret ?_
    exact KN.ret (rs := [.tmp 2]) Tryd.results35 rfl (fun w hw => ⟨(zA, zc), rfl, hzc, hw⟩)

theorem rbinadd_spec (A : Option Addr) (n c : Nat) (p : List Nat) (A2 : Option Addr) (n2 c2 : Nat) (p2 : List Nat) (w : World) (ha : Has (sl 1 A n (nats .u8 p)) w) (hp : ∀ x ∈ p, x < 256) (hn : n ≤ 1073741824) (hcp : n ≤ c) (ha2 : Has (sl 1 A2 n2 (nats .u8 p2)) w) (hp2 : ∀ x ∈ p2, x < 256) (hn2 : n2 ≤ 1073741824) (hcp2 : n2 ≤ c2) (hs1 : n ≤ 100000) (hs2 : n2 ≤ 100000) : SpecB Tryd.prog 37 [.slice A n c, .slice A2 n2 c2] w (bys (addP (bl p) (bl p2))) := by
  have hla := nats_len ha
  subst hla
  have hla2 := nats_len ha2
  subst hla2
  have hbl := bl_len p
  have hbl2 := bl_len p2
  have hA := bl_b1 p
  have hB := bl_b1 p2
  generalize ea : bl p = a at *
  generalize eb : bl p2 = b at *
  refine spec_of Tryd.func37 rfl Tryd.ntmps37 rfl ?_
  refine CW.seq ?_
  refine CW.reg [0] rfl ?_
  refine s_as 4 rfl rfl ?_
  refine SX.next ?_
  refine CW.seq ?_
  refine CW.reg [0, 1, 2, 3, 4, 5, 6, 7] rfl ?_
  refine s_mv 7 rfl rfl ?_
  refine s_len 8 rfl rfl ?_
  refine s_mv 9 rfl rfl ?_
  refine s_len 10 rfl rfl ?_
  refine s_max 11 rfl rfl rfl (r := ((max p.length p2.length : Nat) : Int)) (by split <;> omega) ?_
  refine s_mul 12 rfl rfl rfl (r := (((8 * max p.length p2.length) : Nat) : Int)) (by rw [show (8 : Int) * ((max p.length p2.length : Nat) : Int) = (((8 * max p.length p2.length) : Nat) : Int) by omega]; exact w64 (by omega)) ?_
  refine s_make 13 (8 * max p.length p2.length) rfl rfl rfl rfl rfl (by omega) (fun _ _ => trivial) (fun go => ?_)
  refine s_as 5 rfl rfl ?_
  refine SX.next ?_
  refine CW.seq ?_
  refine CW.seq ?_
  refine CW.reg [0] rfl ?_
  refine s_as 6 rfl rfl ?_
  refine SX.next ?_
  refine CW.block ?_
  refine CW.loop (G := Nat) (fun i => [(0, .slice A p.length c), (1, .slice A2 p2.length c2), (5, .slice (some ⟨go, 0, none⟩) (8 * max p.length p2.length) (8 * max p.length p2.length)), (6, .int .i64 (i : Nat))]) (fun i => Sto w [blk go 3 (jI (8 * max p.length p2.length) (upF (fun j => cf a j ^^^ cf b j) i))]) (fun i => i ≤ (8 * max p.length p2.length)) (fun i => (8 * max p.length p2.length) - i) 0 ⟨rfl, rfl, rfl, rfl, trivial⟩ (fun _ h => by rw [upF_zero, ← jI_zero]; exact h) (Nat.zero_le _) ?_
  intro i hi
  have h1 := hA.le i
  have h2 := hB.le i
  refine CW.seq ?_
  refine CW.seq ?_
  refine CW.reg [0, 1, 2, 3] rfl ?_
  refine s_mv 14 rfl rfl ?_
  refine s_mv 15 rfl rfl ?_
  refine s_len 16 rfl rfl ?_
  refine s_lt 17 rfl rfl rfl rfl ?_
  refine SX.next ?_
  refine CW.test rfl (fun hc => ?_) (fun hc => ?_)
  · skip
    refine CW.skip ?_
    refine KN.code ?_
    refine CW.seq ?_
    refine CW.block ?_
    refine CW.reg [0, 1, 2, 3, 4, 5, 6, 7, 8, 9, 10] rfl ?_
    refine s_mv 20 rfl rfl ?_
    refine s_mv 21 rfl rfl ?_
    refine s_mv 22 rfl rfl ?_
    refine s_mv 23 rfl rfl ?_
    refine s_call1 24 rfl rfl rfl rfl (v := .int .i64 (cf a i : Nat)) (fun w hw => by have := rbit_nat A p.length c p i w (hw.old ha) hp hn hcp (by omega); rw [ea] at this; exact this) (fun _ _ => trivial) ?_
    refine s_mv 25 rfl rfl ?_
    refine s_mv 26 rfl rfl ?_
    refine s_call1 27 rfl rfl rfl rfl (v := .int .i64 (cf b i : Nat)) (fun w hw => by have := rbit_nat A2 p2.length c2 p2 i w (hw.old ha2) hp2 hn2 hcp2 (by omega); rw [eb] at this; exact this) (fun _ _ => trivial) ?_
    refine s_bit 28 rfl rfl rfl rfl (r := ((cf a i ^^^ cf b i : Nat) : Int)) (ibit_xor_nat (by omega) (by omega)) ?_
    refine s_ia0 29 i rfl rfl rfl rfl (by omega) ?_
    refine s_stB 0 rfl rfl rfl rfl rfl (by rw [jI_size]; omega) (fun _ _ => trivial) ?_
    refine SX.end_ ?_
    refine KN.blk ?_
    refine KN.code ?_
    refine CW.reg [0, 1, 2] rfl ?_
    refine s_mv 18 rfl rfl ?_
    refine s_add 19 rfl rfl rfl (r := ((i + 1 : Nat) : Int)) (w64 (by omega)) ?_
    refine s_as 6 rfl rfl ?_
    refine SX.end_ ?_
    exact KN.back (i + 1) ⟨rfl, rfl, rfl, rfl, trivial⟩ (fun _ h => by rw [← upF_next, ← jI_set]; exact h) (by omega) (by omega)
  · skip
    obtain rfl : i = (8 * max p.length p2.length) := by omega
    refine CW.exit rfl ?_
    refine KN.code ?_
    refine CW.seq ?_
    refine CW.reg [0, 1, 2] rfl ?_
    refine s_mv 30 rfl rfl ?_
    refine s_call 31 rfl rfl rfl rfl (fun w hw => by
      rw [jI_all] at hw
      have := rbits_spec (some ⟨go, 0, none⟩) (8 * max p.length p2.length) (8 * max p.length p2.length) ((tb (8 * max p.length p2.length) (fun j => cf a j ^^^ cf b j)).map Int.ofNat) w (by rw [← nats_ints]; exact Has.cong ((hw.has (i := 0) rfl).blk_sl (m := (8 * max p.length p2.length)) (by exact (jI_size _ _).trans (Nat.mul_one _).symm)) rfl) (by omega)
      rw [nz_tb (addP_b1 hA hB) (fun j => by
        rw [cf_addP]
        split
        · rfl
        · rw [cf_out (by omega), cf_out (by omega)]; rfl)] at this
      exact this) (fun _ _ => trivial) (fun q hq => ?_)
    refine s_as 4 rfl rfl ?_
    refine SX.next ?_
    refine CW.ret ?_
    exact KN.ret (rs := [.tmp 4]) Tryd.results37 rfl (fun w hw => ⟨q, rfl, hq, hw.pick [0] rfl⟩)

/-- A polynomial times x to any number, what falls below left out. -/
def shI (n : Int) (a : List Nat) : List Nat := if 0 ≤ n then upP n.toNat a else dnP (-n).toNat a
theorem shI_b1 {a : List Nat} (h : B1 a) (n : Int) : B1 (shI n a) := by unfold shI; split; exact upP_b1 h _; exact dnP_b1 h _
theorem cf_shI (n : Int) (a : List Nat) (j : Nat) : cf (shI n a) j = if (j : Int) - n < 0 then 0 else cf a ((j : Int) - n).toNat := by
  unfold shI
  split
  · rw [cf_upP]
    split
    · rw [if_neg (by omega)]; congr 1; omega
    · rw [if_pos (by omega)]
  · rw [cf_dnP, if_neg (by omega)]
    congr 1
    omega
theorem shI_nil (n : Int) : shI n [] = [] := (shI_b1 nil_b1 n).tr.nil_of (fun j => by rw [cf_shI, cf_nil]; split <;> rfl)
theorem shI_out {a : List Nat} (h : B1 a) {n : Int} (hl : ((a.length : Nat) : Int) + n ≤ 0) : shI n a = [] := (shI_b1 h n).tr.nil_of (fun j => by
  rw [cf_shI]
  split
  · rfl
  · exact cf_out (by omega))

theorem rbinsh_spec (A : Option Addr) (n c : Nat) (p : List Nat) (m : Int) (w : World) (ha : Has (sl 1 A n (nats .u8 p)) w) (hp : ∀ x ∈ p, x < 256) (hn : n ≤ 1073741824) (hcp : n ≤ c) (hs : n ≤ 1000) (hm1 : -100000 ≤ m) (hm2 : m ≤ 100000) : SpecB Tryd.prog 46 [.slice A n c, .int .i64 m] w (bys (shI m (bl p))) := by
  have hla := nats_len ha
  subst hla
  have hbl := bl_len p
  have hA := bl_b1 p
  have hdp := rdeg_spec A p.length c p
  generalize ea : bl p = a at *
  refine spec_of Tryd.func46 rfl Tryd.ntmps46 rfl ?_
  refine CW.seq ?_
  refine CW.reg [0] rfl ?_
  refine s_as 4 rfl rfl ?_
  refine SX.next ?_
  refine CW.seq ?_
  refine CW.reg [0, 1, 2] rfl ?_
  refine s_mv 8 rfl rfl ?_
  refine s_call1 9 rfl rfl rfl rfl (fun w hw => hdp w (hw.old ha) hp hn hcp) (fun _ _ => trivial) ?_
  refine s_as 5 rfl rfl ?_
  refine SX.next ?_
  refine CW.seq ?_
  refine CW.seq ?_
  refine CW.reg [0, 1, 2, 3, 4, 5, 6, 7] rfl ?_
  refine s_mv 10 rfl rfl ?_
  refine s_lt 11 rfl rfl rfl rfl ?_
  refine s_mv 12 rfl rfl ?_
  refine SX.bool 12 rfl (fun hb => ?_) (fun hb => ?_)
  · skip
    replace hb := of_decide_eq_true hb
    have hz : bys (shI m a) = [] := by rw [List.eq_nil_of_length_eq_zero (show a.length = 0 by omega), shI_nil]; rfl
    refine SX.skip rfl ?_
    refine SX.skip rfl ?_
    refine SX.skip rfl ?_
    refine SX.skip rfl ?_
    refine s_pickT 17 rfl rfl rfl ?_
    refine SX.next ?_
    refine CW.condT rfl ?_
    refine CW.seq ?_
    refine CW.reg [0] rfl ?_
    refine s_as 4 rfl rfl ?_
    refine SX.next ?_
    refine CW.ret ?_
    exact KN.ret (rs := [.tmp 4]) Tryd.results46 rfl (fun w hw => ⟨(none, 0), by rw [hz]; rfl, by rw [hz]; exact Nat.le_refl _, by rw [hz]; exact (hw.pick [] rfl).begin_ _ 1⟩)
  · skip
    replace hb := of_decide_eq_false hb
    refine s_mv 13 rfl rfl ?_
    refine s_mv 14 rfl rfl ?_
    refine s_add 15 rfl rfl rfl (r := ((a.length : Nat) : Int) - 1 + m) (w64 (by omega)) ?_
    refine s_lt 16 rfl rfl rfl rfl ?_
    refine s_pickF 17 rfl rfl rfl ?_
    refine SX.next ?_
    refine CW.test rfl (fun hc2 => ?_) (fun hc2 => ?_)
    · skip
      have hz : bys (shI m a) = [] := by rw [shI_out hA (by omega)]; rfl
      refine CW.seq ?_
      refine CW.reg [0] rfl ?_
      refine s_as 4 rfl rfl ?_
      refine SX.next ?_
      refine CW.ret ?_
      exact KN.ret (rs := [.tmp 4]) Tryd.results46 rfl (fun w hw => ⟨(none, 0), by rw [hz]; rfl, by rw [hz]; exact Nat.le_refl _, by rw [hz]; exact (hw.pick [] rfl).begin_ _ 1⟩)
    · skip
      refine CW.skip ?_
      refine KN.code ?_
      refine CW.seq ?_
      refine CW.reg [0, 1, 2, 3, 4, 5] rfl ?_
      refine s_mv 18 rfl rfl ?_
      refine s_mv 19 rfl rfl ?_
      refine s_add 20 rfl rfl rfl (r := ((a.length : Nat) : Int) - 1 + m) (w64 (by omega)) ?_
      refine s_add 21 rfl rfl rfl (r := (((((a.length : Nat) : Int) + m).toNat : Nat) : Int)) (by rw [show ((a.length : Nat) : Int) - 1 + m + 1 = (((((a.length : Nat) : Int) + m).toNat : Nat) : Int) by omega]; exact w64 (by omega)) ?_
      refine s_make 22 (((a.length : Nat) : Int) + m).toNat rfl rfl rfl rfl rfl (by omega) (fun _ _ => trivial) (fun go => ?_)
      refine s_as 6 rfl rfl ?_
      refine SX.next ?_
      refine CW.seq ?_
      refine CW.seq ?_
      refine CW.reg [0] rfl ?_
      refine s_as 7 rfl rfl ?_
      refine SX.next ?_
      refine CW.block ?_
      refine CW.loop (G := Nat) (fun i => [(0, .slice A p.length c), (1, .int .i64 m), (6, .slice (some ⟨go, 0, none⟩) (((a.length : Nat) : Int) + m).toNat (((a.length : Nat) : Int) + m).toNat), (7, .int .i64 (i : Nat))]) (fun i => Sto w [blk go 3 (jI (((a.length : Nat) : Int) + m).toNat (upF (fun j => if (j : Int) - m < 0 then 0 else cf a ((j : Int) - m).toNat) i))]) (fun i => i ≤ (((a.length : Nat) : Int) + m).toNat) (fun i => (((a.length : Nat) : Int) + m).toNat - i) 0 ⟨rfl, rfl, rfl, rfl, trivial⟩ (fun _ h => by rw [upF_zero, ← jI_zero]; exact h) (Nat.zero_le _) ?_
      intro i hi
      refine CW.seq ?_
      refine CW.seq ?_
      refine CW.reg [0, 1, 2, 3] rfl ?_
      refine s_mv 23 rfl rfl ?_
      refine s_mv 24 rfl rfl ?_
      refine s_len 25 rfl rfl ?_
      refine s_lt 26 rfl rfl rfl rfl ?_
      refine SX.next ?_
      refine CW.test rfl (fun hc => ?_) (fun hc => ?_)
      · skip
        refine CW.skip ?_
        refine KN.code ?_
        refine CW.seq ?_
        refine CW.block ?_
        refine CW.reg [0, 1, 2, 3, 4, 5, 6, 7, 8] rfl ?_
        refine s_mv 29 rfl rfl ?_
        refine s_mv 30 rfl rfl ?_
        refine s_mv 31 rfl rfl ?_
        refine s_mv 32 rfl rfl ?_
        refine s_mv 33 rfl rfl ?_
        refine s_sub 34 rfl rfl rfl (r := (i : Int) - m) (w64 (by omega)) ?_
        refine s_call1 35 rfl rfl rfl rfl (v := .int .i64 (((fun j => if (j : Int) - m < 0 then 0 else cf a ((j : Int) - m).toNat) i : Nat) : Int)) (fun w hw => by
          have := rbit_spec A p.length c p ((i : Int) - m) w (hw.old ha) hp hn hcp (by omega)
          have e1 : bitI p ((i : Int) - m) = (if (i : Int) - m < 0 then 0 else cf a ((i : Int) - m).toNat) := by
            unfold bitI
            split
            · rfl
            · rw [← ea, cf_bl]
          rw [e1] at this
          exact this) (fun _ _ => trivial) ?_
        refine s_ia0 36 i rfl rfl rfl rfl (by omega) ?_
        refine s_stB 0 rfl rfl rfl rfl rfl (by rw [jI_size]; omega) (fun _ _ => trivial) ?_
        refine SX.end_ ?_
        refine KN.blk ?_
        refine KN.code ?_
        refine CW.reg [0, 1, 2] rfl ?_
        refine s_mv 27 rfl rfl ?_
        refine s_add 28 rfl rfl rfl (r := ((i + 1 : Nat) : Int)) (w64 (by omega)) ?_
        refine s_as 7 rfl rfl ?_
        refine SX.end_ ?_
        exact KN.back (i + 1) ⟨rfl, rfl, rfl, rfl, trivial⟩ (fun _ h => by rw [← upF_next, ← jI_set]; exact h) (by omega) (by omega)
      · skip
        obtain rfl : i = (((a.length : Nat) : Int) + m).toNat := by omega
        refine CW.exit rfl ?_
        refine KN.code ?_
        refine CW.seq ?_
        refine CW.reg [0, 1, 2] rfl ?_
        refine s_mv 37 rfl rfl ?_
        refine s_call 38 rfl rfl rfl rfl (fun w hw => by
          rw [jI_all] at hw
          have := rbits_spec (some ⟨go, 0, none⟩) (((a.length : Nat) : Int) + m).toNat (((a.length : Nat) : Int) + m).toNat ((tb (((a.length : Nat) : Int) + m).toNat (fun j => if (j : Int) - m < 0 then 0 else cf a ((j : Int) - m).toNat)).map Int.ofNat) w (by rw [← nats_ints]; exact Has.cong ((hw.has (i := 0) rfl).blk_sl (m := (((a.length : Nat) : Int) + m).toNat) (by exact (jI_size _ _).trans (Nat.mul_one _).symm)) rfl) (by omega)
          rw [nz_tb (shI_b1 hA m) (fun j => by
            rw [cf_shI]
            split
            · split <;> rfl
            · split
              · rfl
              · exact cf_out (by omega))] at this
          exact this) (fun _ _ => trivial) (fun q hq => ?_)
        refine s_as 4 rfl rfl ?_
        refine SX.next ?_
        refine CW.ret ?_
        exact KN.ret (rs := [.tmp 4]) Tryd.results46 rfl (fun w hw => ⟨q, rfl, hq, hw.pick [0] rfl⟩)
end Go.Proofs.YtcdmmfpgeagimaaDoor
end
section
/- Chapter 3's document: quotients, common divisors, irreducible ones, walked; shifts and values of any number. Conditions: bytes, read where they lie; not too many. -/
namespace Go.Proofs.YtcdmmfpgeagimaaDoor
open Go Go.Lib Go.Sx Go.Fm Nb
set_option maxRecDepth 100000
/-- What the division's loop keeps: the quotient so far, the rest so far. -/
structure RdG (a b : List Nat) (k : Nat) (Q L : List Nat) : Prop where
  hQ : B1 Q
  hL : B1 L
  kl : k ≤ a.length
  top : ∀ j, k ≤ j → cf L j = 0
  lo : ∀ j, j + b.length ≤ k → cf Q j = 0
  hi : ∀ j, a.length < j + b.length → cf Q j = 0
  eq : addP (mulP 3 Q b) L = a
theorem RdG.start {a b : List Nat} (ha : B1 a) : RdG a b a.length [] a :=
  ⟨nil_b1, ha, Nat.le_refl _, fun j hj => cf_out hj, fun j _ => cf_nil j, fun j _ => cf_nil j, by rw [mulP_nil_l, nil_addP ok3 ha.tr]⟩
theorem RdG.skip {a b Q L : List Nat} {i : Nat} (h : RdG a b (i + 1) Q L) (h0 : cf L i = 0) : RdG a b i Q L :=
  ⟨h.hQ, h.hL, by have := h.kl; omega, fun j hj => by
    by_cases hji : j = i
    · subst hji; exact h0
    · exact h.top j (by omega), fun j hj => h.lo j (by omega), h.hi, h.eq⟩
theorem RdG.step {a b Q L : List Nat} {i s : Nat} (h : RdG a b (i + 1) Q L) (hb : B1 b) (hb0 : b.length ≠ 0) (hs : s + b.length = i + 1) (h1 : cf L i = 1) : RdG a b i (addP Q (xP s)) (addP L (upP s b)) := by
  have hQ := h.hQ
  have hL := h.hL
  have hkl := h.kl
  refine ⟨addP_b1 hQ (xP_b1 s), addP_b1 hL (upP_b1 hb s), by omega, fun j hj => ?_, fun j hj => ?_, fun j hj => ?_, ?_⟩
  · rw [cf_addP, cf_upP, if_pos (by omega)]
    by_cases hji : j = i
    · subst hji
      rw [h1, show j - s = b.length - 1 by omega, hb.top hb0]
      rfl
    · rw [h.top j (by omega), cf_out (by omega)]
      rfl
  · rw [cf_addP, cf_xP, h.lo j (by omega), if_neg (by omega)]
    rfl
  · rw [cf_addP, cf_xP, h.hi j hj, if_neg (by omega)]
    rfl
  · have e := h.eq
    rw [mulP_add_left ok3 hQ.tr (xP_b1 s).tr hb.tr, mulP_comm ok3 (xP_b1 s).tr hb.tr, mul_xP hb s, ← e]
    refine (addP_tr ok3 (addP_tr ok3 (mulP_tr ok3 hQ.tr hb.tr) (upP_b1 hb s).tr) (addP_tr ok3 hL.tr (upP_b1 hb s).tr)).ext (addP_tr ok3 (mulP_tr ok3 hQ.tr hb.tr) hL.tr) (fun j => ?_)
    simp only [cf_addP]
    generalize cf (mulP 3 Q b) j = x
    generalize cf (upP s b) j = y
    generalize cf L j = z
    rw [Nat.xor_assoc, Nat.xor_comm z y, xcc]
/-- The place of a new quotient's bit was 0. -/
theorem RdG.q_set {a b Q L : List Nat} {i s : Nat} (h : RdG a b (i + 1) Q L) (hs : s + b.length = i + 1) : (fun j => if j = s then 1 else cf Q j) = cf (addP Q (xP s)) := by
  funext j
  rw [cf_addP, cf_xP]
  by_cases hj : j = s
  · subst hj
    rw [if_pos rfl, if_pos rfl, h.lo j (by omega)]
    rfl
  · rw [if_neg hj, if_neg hj, Nat.xor_zero]
/-- The rest, with the divisor's first so many bits taken. -/
def inF (L b : List Nat) (s k : Nat) : Nat → Nat := fun j => if s ≤ j ∧ j < s + k then cf L j ^^^ cf b (j - s) else cf L j
theorem inF_zero (L b : List Nat) (s : Nat) : inF L b s 0 = cf L := by funext j; unfold inF; rw [if_neg (by omega)]
theorem inF_next (L b : List Nat) (s k : Nat) : (fun j => if j = s + k then cf L (s + k) ^^^ cf b k else inF L b s k j) = inF L b s (k + 1) := by
  funext j
  unfold inF
  by_cases h : j = s + k
  · subst h; rw [if_pos rfl, if_pos ⟨by omega, by omega⟩, show s + k - s = k by omega]
  · rw [if_neg h]
    by_cases h2 : s ≤ j ∧ j < s + k
    · rw [if_pos h2, if_pos ⟨h2.1, by omega⟩]
    · rw [if_neg h2, if_neg (by omega)]
theorem inF_at (L b : List Nat) (s k : Nat) : inF L b s k (s + k) = cf L (s + k) := by unfold inF; rw [if_neg (by omega)]
theorem inF_all (L b : List Nat) (s : Nat) : inF L b s b.length = cf (addP L (upP s b)) := by
  funext j
  unfold inF
  rw [cf_addP, cf_upP]
  by_cases h : s ≤ j
  · rw [if_pos h]
    by_cases h2 : j < s + b.length
    · rw [if_pos ⟨h, h2⟩]
    · rw [if_neg (by omega), cf_out (l := b) (by omega), Nat.xor_zero]
  · rw [if_neg (by omega), if_neg h, Nat.xor_zero]
abbrev SpecDD (P : Program) (f : FuncId) (args : List Value) (w : World) (E G : List Nat) : Prop :=
  SpecX P f args w (X := (Option Addr × Nat) × (Option Addr × Nat)) (fun q => two (.slice q.1.1 E.length q.1.2) (.slice q.2.1 G.length q.2.2)) (fun q => E.length ≤ q.1.2 ∧ G.length ≤ q.2.2)
    (fun q => [own 5 1 q.2.1 G.length q.2.2 (nats .u8 G), own 5 1 q.1.1 E.length q.1.2 (nats .u8 E)])
theorem nz_cf {n : Nat} {a : List Nat} (ha : B1 a) (h : ∀ j, n ≤ j → cf a j = 0) : nzP ((tb n (cf a)).map Int.ofNat) ((tb n (cf a)).map Int.ofNat).length = a := nz_tb ha (fun j => by
  by_cases hj : j < n
  · rw [if_pos hj]
  · rw [if_neg hj, h j (by omega)])

theorem rbindiv_spec (A : Option Addr) (n c : Nat) (p : List Nat) (A2 : Option Addr) (n2 c2 : Nat) (p2 : List Nat) (w : World) (ha : Has (sl 1 A n (nats .u8 p)) w) (hp : ∀ x ∈ p, x < 256) (hn : n ≤ 1073741824) (hcp : n ≤ c) (ha2 : Has (sl 1 A2 n2 (nats .u8 p2)) w) (hp2 : ∀ x ∈ p2, x < 256) (hn2 : n2 ≤ 1073741824) (hcp2 : n2 ≤ c2) (h0 : (bl p2).length ≠ 0) (hsz : n ≤ 100000) (hsz2 : n2 ≤ 100000) : SpecDD Tryd.prog 44 [.slice A n c, .slice A2 n2 c2] w (bys (quotP 3 (bl p) (bl p2))) (bys (restP 3 (bl p) (bl p2))) := by
  have hla := nats_len ha
  subst hla
  have hla2 := nats_len ha2
  subst hla2
  have hbl := bl_len p
  have hbl2 := bl_len p2
  have hA := bl_b1 p
  have hB := bl_b1 p2
  have hdp := rdeg_spec A p.length c p
  have hdq := rdeg_spec A2 p2.length c2 p2
  generalize ea : bl p = a at *
  generalize eb : bl p2 = b at *
  refine spec_of Tryd.func44 rfl Tryd.ntmps44 rfl ?_
  refine CW.seq ?_
  refine CW.reg [0, 1] rfl ?_
  refine s_as 4 rfl rfl ?_
  refine s_as 5 rfl rfl ?_
  refine SX.next ?_
  refine CW.seq ?_
  refine CW.reg [0, 1, 2] rfl ?_
  refine s_mv 13 rfl rfl ?_
  refine s_call1 14 rfl rfl rfl rfl (fun w hw => hdp w (hw.old ha) hp hn hcp) (fun _ _ => trivial) ?_
  refine s_as 6 rfl rfl ?_
  refine SX.next ?_
  refine CW.seq ?_
  refine CW.reg [0, 1, 2] rfl ?_
  refine s_mv 15 rfl rfl ?_
  refine s_call1 16 rfl rfl rfl rfl (fun w hw => hdq w (hw.old ha2) hp2 hn2 hcp2) (fun _ _ => trivial) ?_
  refine s_as 7 rfl rfl ?_
  refine SX.next ?_
  refine CW.seq ?_
  refine CW.reg [0, 1, 2, 3, 4] rfl ?_
  refine s_mv 17 rfl rfl ?_
  refine s_add 18 rfl rfl rfl (r := ((a.length : Nat) : Int)) (by rw [show ((a.length : Nat) : Int) - 1 + 1 = ((a.length : Nat) : Int) by omega]; exact w64 (by omega)) ?_
  refine s_max 19 rfl rfl rfl (r := ((a.length : Nat) : Int)) (by split <;> omega) ?_
  refine s_make 20 a.length rfl rfl rfl rfl rfl (by omega) (fun _ _ => trivial) (fun lo => ?_)
  refine s_as 8 rfl rfl ?_
  refine SX.next ?_
  refine CW.seq ?_
  refine CW.seq ?_
  refine CW.reg [0] rfl ?_
  refine s_as 9 rfl rfl ?_
  refine SX.next ?_
  refine CW.block ?_
  refine CW.loop (G := Nat) (fun i => [(0, .slice A p.length c), (1, .slice A2 p2.length c2), (6, .int .i64 (((a.length : Nat) : Int) - 1)), (7, .int .i64 (((b.length : Nat) : Int) - 1)), (8, .slice (some ⟨lo, 0, none⟩) a.length a.length), (9, .int .i64 (i : Nat))]) (fun i => Sto w [blk lo 3 (jI a.length (upF (cf a) i))]) (fun i => i ≤ a.length) (fun i => a.length - i) 0 ⟨rfl, rfl, rfl, rfl, rfl, rfl, trivial⟩ (fun _ h => by rw [upF_zero, ← jI_zero]; exact h) (Nat.zero_le _) ?_
  intro i hi
  refine CW.seq ?_
  refine CW.seq ?_
  refine CW.reg [0, 1, 2] rfl ?_
  refine s_mv 21 rfl rfl ?_
  refine s_mv 22 rfl rfl ?_
  refine s_le 23 rfl rfl rfl rfl ?_
  refine SX.next ?_
  refine CW.test rfl (fun hc => ?_) (fun hc => ?_)
  · skip
    refine CW.skip ?_
    refine KN.code ?_
    refine CW.seq ?_
    refine CW.block ?_
    refine CW.reg [0, 1, 2, 3, 4, 5, 6] rfl ?_
    refine s_mv 26 rfl rfl ?_
    refine s_mv 27 rfl rfl ?_
    refine s_mv 28 rfl rfl ?_
    refine s_mv 29 rfl rfl ?_
    refine s_call1 30 rfl rfl rfl rfl (v := .int .i64 (cf a i : Nat)) (fun w hw => by have := rbit_nat A p.length c p i w (hw.old ha) hp hn hcp (by omega); rw [ea] at this; exact this) (fun _ _ => trivial) ?_
    refine s_ia0 31 i rfl rfl rfl rfl (by omega) ?_
    refine s_stB 0 rfl rfl rfl rfl rfl (by rw [jI_size]; omega) (fun _ _ => trivial) ?_
    refine SX.end_ ?_
    refine KN.blk ?_
    refine KN.code ?_
    refine CW.reg [0, 1, 2] rfl ?_
    refine s_mv 24 rfl rfl ?_
    refine s_add 25 rfl rfl rfl (r := ((i + 1 : Nat) : Int)) (w64 (by omega)) ?_
    refine s_as 9 rfl rfl ?_
    refine SX.end_ ?_
    exact KN.back (i + 1) ⟨rfl, rfl, rfl, rfl, rfl, rfl, trivial⟩ (fun _ h => by rw [← upF_next, ← jI_set]; exact h) (by omega) (by omega)
  · skip
    obtain rfl : i = a.length := by omega
    refine CW.pre (C' := Sto w [blk lo 3 (jI a.length (cf a))]) (fun _ h => by rw [← jI_all]; exact h) ?_
    refine CW.exit rfl ?_
    refine KN.code ?_
    refine CW.seq ?_
    refine CW.reg [0, 1, 2, 3, 4] rfl ?_
    refine s_mv 32 rfl rfl ?_
    refine s_add 33 rfl rfl rfl (r := ((a.length : Nat) : Int)) (by rw [show ((a.length : Nat) : Int) - 1 + 1 = ((a.length : Nat) : Int) by omega]; exact w64 (by omega)) ?_
    refine s_max 34 rfl rfl rfl (r := ((a.length : Nat) : Int)) (by split <;> omega) ?_
    refine s_make 35 a.length rfl rfl rfl rfl rfl (by omega) (fun _ _ => trivial) (fun qo => ?_)
    refine s_as 10 rfl rfl ?_
    refine SX.next ?_
    refine CW.seq ?_
    refine CW.seq ?_
    refine CW.reg [0, 1] rfl ?_
    refine s_mv 36 rfl rfl ?_
    refine s_as 11 rfl rfl ?_
    refine SX.next ?_
    refine CW.block ?_
    refine CW.loop (G := Nat × List Nat × List Nat) (fun z => [(1, .slice A2 p2.length c2), (7, .int .i64 (((b.length : Nat) : Int) - 1)), (8, .slice (some ⟨lo, 0, none⟩) a.length a.length), (10, .slice (some ⟨qo, 0, none⟩) a.length a.length), (11, .int .i64 (((z.1 : Nat) : Int) - 1))]) (fun z => Sto w [blk qo 3 (jI a.length (cf z.2.1)), blk lo 3 (jI a.length (cf z.2.2))]) (fun z => RdG a b z.1 z.2.1 z.2.2) (fun z => z.1) (a.length, [], a) ⟨rfl, rfl, rfl, rfl, rfl, trivial⟩ (fun _ h => by rw [show cf ([] : List Nat) = (fun _ => 0) from funext cf_nil, ← jI_zero]; exact h) (RdG.start hA) ?_
    rintro ⟨k, Q, L⟩ hz
    simp only at hz
    dsimp only
    have hkl := hz.kl
    refine CW.seq ?_
    refine CW.seq ?_
    refine CW.reg [0, 1, 2] rfl ?_
    refine s_mv 37 rfl rfl ?_
    refine s_mv 38 rfl rfl ?_
    refine s_ge 39 rfl rfl rfl rfl ?_
    refine SX.next ?_
    refine CW.test rfl (fun hc => ?_) (fun hc => ?_)
    · skip
      obtain ⟨i, rfl⟩ : ∃ i, k = i + 1 := ⟨k - 1, by omega⟩
      have hi1 : ((i + 1 : Nat) : Int) - 1 = ((i : Nat) : Int) := by omega
      rw [hi1]
      have hle := hz.hL.le i
      have hs : (i + 1 - b.length) + b.length = i + 1 := by omega
      refine CW.skip ?_
      refine KN.code ?_
      refine CW.seq ?_
      refine CW.block ?_
      refine CW.seq ?_
      refine CW.seq ?_
      refine CW.reg [0, 1, 2, 3, 4] rfl ?_
      refine s_mv 42 rfl rfl ?_
      refine s_mv 43 rfl rfl ?_
      refine s_ia0 44 i rfl rfl rfl rfl (by omega) ?_
      refine s_ldB 45 1 rfl rfl rfl (v := .int .i64 (cf L i : Nat)) (jI_at (by omega)) ?_
      refine s_eq 46 rfl rfl rfl rfl ?_
      refine SX.next ?_
      refine CW.test rfl (fun hc => ?_) (fun hc => ?_)
      · skip
        have hsk := hz.skip (by omega)
        refine CW.exit rfl ?_
        refine KN.code ?_
        refine CW.reg [0, 1, 2] rfl ?_
        refine s_mv 40 rfl rfl ?_
        refine s_sub 41 rfl rfl rfl (r := ((i : Nat) : Int) - 1) (w64 (by omega)) ?_
        refine s_as 11 rfl rfl ?_
        refine SX.end_ ?_
        exact KN.back (i, Q, L) ⟨rfl, rfl, rfl, rfl, rfl, trivial⟩ (fun _ h => h) hsk (by simp only; omega)
      · skip
        have hst := hz.step hB h0 hs (by omega)
        have hqs := hz.q_set hs
        refine CW.skip ?_
        refine KN.code ?_
        refine CW.seq ?_
        refine CW.reg [0, 1, 2, 3, 4, 5] rfl ?_
        refine s_mv 47 rfl rfl ?_
        refine s_mv 48 rfl rfl ?_
        refine s_mv 49 rfl rfl ?_
        refine s_sub 50 rfl rfl rfl (r := (((i + 1 - b.length) : Nat) : Int)) (by rw [show ((i : Nat) : Int) - (((b.length : Nat) : Int) - 1) = (((i + 1 - b.length) : Nat) : Int) by omega]; exact w64 (by omega)) ?_
        refine s_ia0 51 (i + 1 - b.length) rfl rfl rfl rfl (by omega) ?_
        refine s_stB 0 rfl rfl rfl rfl rfl (by rw [jI_size]; omega) (fun _ _ => trivial) ?_
        refine SX.next ?_
        refine CW.seq ?_
        refine CW.reg [0] rfl ?_
        refine s_as 12 rfl rfl ?_
        refine SX.next ?_
        refine CW.block ?_
        refine CW.loop (G := Nat) (fun kk => [(1, .slice A2 p2.length c2), (7, .int .i64 (((b.length : Nat) : Int) - 1)), (8, .slice (some ⟨lo, 0, none⟩) a.length a.length), (10, .slice (some ⟨qo, 0, none⟩) a.length a.length), (11, .int .i64 (i : Nat)), (12, .int .i64 (kk : Nat))]) (fun kk => Sto w [blk qo 3 (jI a.length (cf (addP Q (xP (i + 1 - b.length))))), blk lo 3 (jI a.length (inF L b (i + 1 - b.length) kk))]) (fun kk => kk ≤ b.length) (fun kk => b.length - kk) 0 ⟨rfl, rfl, rfl, rfl, rfl, rfl, trivial⟩ (fun _ h => by rw [inF_zero, ← hqs, ← jI_set]; exact h) (Nat.zero_le _) ?_
        intro kk hkk
        have hll := hz.hL.le ((i + 1 - b.length) + kk)
        have hbl3 := hB.le kk
        refine CW.seq ?_
        refine CW.seq ?_
        refine CW.reg [0, 1, 2] rfl ?_
        refine s_mv 52 rfl rfl ?_
        refine s_mv 53 rfl rfl ?_
        refine s_le 54 rfl rfl rfl rfl ?_
        refine SX.next ?_
        refine CW.test rfl (fun hc => ?_) (fun hc => ?_)
        · skip
          refine CW.skip ?_
          refine KN.code ?_
          refine CW.seq ?_
          refine CW.block ?_
          refine CW.regD (.st true 0 (.st true 1 (.st true 2 (.st true 3 (.st true 4 (.st true 5 (.st true 6 (.st true 7 (.st true 8 (.st true 9 (.st true 10 (.st true 11 (.st true 12 (.st true 14 (.st true 15 (.alt 13 (.st false 16 (.st true 17 (.st true 18 (.st false 19 .done)))) (.st false 16 (.st false 13 (.st true 17 (.st true 18 (.st false 19 .done))))))))))))))))))))) (Sto w [blk qo 3 (jI a.length (cf (addP Q (xP (i + 1 - b.length)))))]) mixed (by kernel_rfl) (fun _ h => h.drew) (fun _ h => h.pick [0] rfl) ?_
          refine s_mv 57 rfl rfl ?_
          refine s_mv 58 rfl rfl ?_
          refine s_mv 59 rfl rfl ?_
          refine s_sub 60 rfl rfl rfl (r := (((i + 1 - b.length) : Nat) : Int)) (by rw [show ((i : Nat) : Int) - (((b.length : Nat) : Int) - 1) = (((i + 1 - b.length) : Nat) : Int) by omega]; exact w64 (by omega)) ?_
          refine s_mv 61 rfl rfl ?_
          refine s_add 62 rfl rfl rfl (r := (((i + 1 - b.length) + kk : Nat) : Int)) (w64 (by omega)) ?_
          refine s_mv 63 rfl rfl ?_
          refine s_mv 64 rfl rfl ?_
          refine s_mv 65 rfl rfl ?_
          refine s_sub 66 rfl rfl rfl (r := (((i + 1 - b.length) : Nat) : Int)) (by rw [show ((i : Nat) : Int) - (((b.length : Nat) : Int) - 1) = (((i + 1 - b.length) : Nat) : Int) by omega]; exact w64 (by omega)) ?_
          refine s_mv 67 rfl rfl ?_
          refine s_add 68 rfl rfl rfl (r := (((i + 1 - b.length) + kk : Nat) : Int)) (w64 (by omega)) ?_
          refine s_ia0 69 ((i + 1 - b.length) + kk) rfl rfl rfl rfl (by omega) ?_
          refine s_mv 71 rfl rfl ?_
          refine s_mv 72 rfl rfl ?_
          refine SX.alt ?_ ?_
          · skip
            refine s_ldB 70 1 rfl rfl rfl (v := .int .i64 (cf L ((i + 1 - b.length) + kk) : Nat)) (by rw [jI_at (by omega), inF_at]) ?_
            refine s_call1 73 rfl rfl rfl rfl (v := .int .i64 (cf b kk : Nat)) (fun w hw => by have := rbit_nat A2 p2.length c2 p2 kk w (hw.old ha2) hp2 hn2 hcp2 (by omega); rw [eb] at this; exact this) (fun _ h => h.pick [0] rfl) ?_
            refine s_bit 74 rfl rfl rfl rfl (r := ((cf L ((i + 1 - b.length) + kk) ^^^ cf b kk : Nat) : Int)) (ibit_xor_nat (by omega) (by omega)) ?_
            refine s_ia0 75 ((i + 1 - b.length) + kk) rfl rfl rfl rfl (by omega) ?_
            refine s_stB 1 rfl rfl rfl rfl rfl (by rw [jI_size]; omega) (fun _ h => h.pick [0] rfl) ?_
            refine SX.end_ ?_
            refine KN.blk ?_
            refine KN.code ?_
            refine CW.reg [0, 1, 2] rfl ?_
            refine s_mv 55 rfl rfl ?_
            refine s_add 56 rfl rfl rfl (r := ((kk + 1 : Nat) : Int)) (w64 (by omega)) ?_
            refine s_as 12 rfl rfl ?_
            refine SX.end_ ?_
            exact KN.back (kk + 1) ⟨rfl, rfl, rfl, rfl, rfl, rfl, trivial⟩ (fun _ h => by rw [← inF_next, ← jI_set]; exact h) (by omega) (by omega)
          · skip
            refine s_call1 73 rfl rfl rfl rfl (v := .int .i64 (cf b kk : Nat)) (fun w hw => by have := rbit_nat A2 p2.length c2 p2 kk w (hw.old ha2) hp2 hn2 hcp2 (by omega); rw [eb] at this; exact this) (fun _ h => h.pick [0] rfl) ?_
            refine s_ldB 70 1 rfl rfl rfl (v := .int .i64 (cf L ((i + 1 - b.length) + kk) : Nat)) (by rw [jI_at (by omega), inF_at]) ?_
            refine s_bit 74 rfl rfl rfl rfl (r := ((cf L ((i + 1 - b.length) + kk) ^^^ cf b kk : Nat) : Int)) (ibit_xor_nat (by omega) (by omega)) ?_
            refine s_ia0 75 ((i + 1 - b.length) + kk) rfl rfl rfl rfl (by omega) ?_
            refine s_stB 1 rfl rfl rfl rfl rfl (by rw [jI_size]; omega) (fun _ h => h.pick [0] rfl) ?_
            refine SX.end_ ?_
            refine KN.blk ?_
            refine KN.code ?_
            refine CW.reg [0, 1, 2] rfl ?_
            refine s_mv 55 rfl rfl ?_
            refine s_add 56 rfl rfl rfl (r := ((kk + 1 : Nat) : Int)) (w64 (by omega)) ?_
            refine s_as 12 rfl rfl ?_
            refine SX.end_ ?_
            exact KN.back (kk + 1) ⟨rfl, rfl, rfl, rfl, rfl, rfl, trivial⟩ (fun _ h => by rw [← inF_next, ← jI_set]; exact h) (by omega) (by omega)
        · skip
          obtain rfl : kk = b.length := by omega
          refine CW.exit rfl ?_
          refine KN.blk ?_
          refine KN.code ?_
          refine CW.reg [0, 1, 2] rfl ?_
          refine s_mv 40 rfl rfl ?_
          refine s_sub 41 rfl rfl rfl (r := ((i : Nat) : Int) - 1) (w64 (by omega)) ?_
          refine s_as 11 rfl rfl ?_
          refine SX.end_ ?_
          exact KN.back (i, (addP Q (xP (i + 1 - b.length))), (addP L (upP (i + 1 - b.length) b))) ⟨rfl, rfl, rfl, rfl, rfl, trivial⟩ (fun _ h => by simp only; rw [← inF_all]; exact h) hst (by simp only; omega)
    · skip
      have hkb : k < b.length := by omega
      have hll : L.length < b.length := Nat.lt_of_le_of_lt (b1_len hz.hL hz.top) hkb
      obtain ⟨eQ, eL⟩ := div_uniq ok3 hA.tr hB.tr h0 hz.hQ.tr hz.hL.tr hll hz.eq
      rw [← eQ, ← eL]
      refine CW.exit rfl ?_
      refine KN.code ?_
      refine CW.seq ?_
      refine CW.reg [0, 1, 2, 3, 4, 5] rfl ?_
      refine s_mv 76 rfl rfl ?_
      refine s_call 77 rfl rfl rfl rfl (fun w hw => by
        have := rbits_spec (some ⟨qo, 0, none⟩) a.length a.length ((tb a.length (cf Q)).map Int.ofNat) w (by rw [← nats_ints]; exact Has.cong ((hw.has (i := 0) rfl).blk_sl (m := a.length) (by exact (jI_size _ _).trans (Nat.mul_one _).symm)) rfl) (by omega)
        rw [nz_cf hz.hQ (fun j hj => hz.hi j (by omega))] at this
        exact this) (fun _ _ => trivial) (fun q1 hq1 => ?_)
      refine s_mv 78 rfl rfl ?_
      refine s_call 79 rfl rfl rfl rfl (fun w hw => by
        have := rbits_spec (some ⟨lo, 0, none⟩) a.length a.length ((tb a.length (cf L)).map Int.ofNat) w (by rw [← nats_ints]; exact Has.cong ((hw.has (i := 2) rfl).blk_sl (m := a.length) (by exact (jI_size _ _).trans (Nat.mul_one _).symm)) rfl) (by omega)
        rw [nz_cf hz.hL (fun j hj => hz.top j (by omega))] at this
        exact this) (fun _ _ => trivial) (fun q2 hq2 => ?_)
      refine s_as 4 rfl rfl ?_
      refine s_as 5 rfl rfl ?_
      refine SX.next ?_
      refine CW.ret ?_
      exact KN.ret (rs := [.tmp 4, .tmp 5]) Tryd.results44 rfl (fun w hw => ⟨(q1, q2), rfl, ⟨hq1, hq2⟩, hw.pick [0, 0] rfl⟩)

/-- What the common divisor's loop keeps. -/
structure RgG (a b : List Nat) (q : List Nat × List Nat × (Option Addr × Nat) × (Option Addr × Nat)) : Prop where
  h1 : B1 q.1
  h2 : B1 q.2.1
  l1 : q.1.length ≤ 80000
  l2 : q.2.1.length ≤ 80000
  c1 : (bys q.1).length ≤ q.2.2.1.2
  c2 : (bys q.2.1).length ≤ q.2.2.2.2
  eq : gcdE 3 q.1 q.2.1 = gcdE 3 a b

theorem rbingcd_spec (A : Option Addr) (n c : Nat) (p : List Nat) (A2 : Option Addr) (n2 c2 : Nat) (p2 : List Nat) (w : World) (ha : Has (sl 1 A n (nats .u8 p)) w) (hp : ∀ x ∈ p, x < 256) (hn : n ≤ 1073741824) (hcp : n ≤ c) (ha2 : Has (sl 1 A2 n2 (nats .u8 p2)) w) (hp2 : ∀ x ∈ p2, x < 256) (hn2 : n2 ≤ 1073741824) (hcp2 : n2 ≤ c2) (hs1 : p.length ≤ 10000) (hs2 : p2.length ≤ 10000) : SpecB Tryd.prog 40 [.slice A n c, .slice A2 n2 c2] w (bys (gcdE 3 (bl p) (bl p2))) := by
  have hla := nats_len ha
  have hla2 := nats_len ha2
  subst hla
  subst hla2
  have hb1 := bl_len p
  have hb2 := bl_len p2
  refine spec_of Tryd.func40 rfl Tryd.ntmps40 rfl ?_
  refine CW.seq ?_
  refine CW.reg [0] rfl ?_
  refine s_as 4 rfl rfl ?_
  refine SX.next ?_
  refine CW.seq ?_
  refine CW.reg [0, 1, 2] rfl ?_
  refine s_mv 7 rfl rfl ?_
  refine s_call 8 rfl rfl rfl rfl (fun w hw => by have := rbinadd_spec A p.length c p none 0 0 [] w (hw.old ha) hp hn hcp (Has.sl_nil _ 1 none) (by simp) (by omega) (Nat.le_refl _) (by omega) (by omega); rw [bl_nil, addP_nil ok3 (bl_b1 p).tr] at this; exact this) (fun _ _ => trivial) (fun q1 hq1 => ?_)
  refine s_as 0 rfl rfl ?_
  refine SX.next ?_
  refine CW.seq ?_
  refine CW.reg [0, 1, 2] rfl ?_
  refine s_mv 9 rfl rfl ?_
  refine s_call 10 rfl rfl rfl rfl (fun w hw => by have := rbinadd_spec A2 p2.length c2 p2 none 0 0 [] w (hw.old ha2) hp2 hn2 hcp2 (Has.sl_nil _ 1 none) (by simp) (by omega) (Nat.le_refl _) (by omega) (by omega); rw [bl_nil, addP_nil ok3 (bl_b1 p2).tr] at this; exact this) (fun _ _ => trivial) (fun q2 hq2 => ?_)
  refine s_as 1 rfl rfl ?_
  refine SX.next ?_
  refine CW.seq ?_
  refine CW.block ?_
  refine CW.loop (G := List Nat × List Nat × (Option Addr × Nat) × (Option Addr × Nat)) (fun q => [(0, .slice q.2.2.1.1 (bys q.1).length q.2.2.1.2), (1, .slice q.2.2.2.1 (bys q.2.1).length q.2.2.2.2)]) (fun q => Sto w [own 5 1 q.2.2.2.1 (bys q.2.1).length q.2.2.2.2 (nats .u8 (bys q.2.1)), own 5 1 q.2.2.1.1 (bys q.1).length q.2.2.1.2 (nats .u8 (bys q.1))]) (RgG (bl p) (bl p2)) (fun q => q.2.1.length) (bl p, bl p2, q1, q2) ⟨rfl, rfl, trivial⟩ (fun _ h => h) ⟨bl_b1 p, bl_b1 p2, by simp only; omega, by simp only; omega, hq1, hq2, rfl⟩ ?_
  rintro ⟨a1, b1, q3, q4⟩ hq
  obtain ⟨k1, k2, k3, k4, k5, k6, k7⟩ := hq
  simp only at k1 k2 k3 k4 k5 k6 k7
  dsimp only
  have hy1 := bys_len a1
  have hy2 := bys_len b1
  refine CW.seq ?_
  refine CW.seq ?_
  refine CW.reg [0, 1, 2] rfl ?_
  refine s_mv 11 rfl rfl ?_
  refine s_call1 12 rfl rfl rfl rfl (v := .int .i64 (((b1.length : Nat) : Int) - 1)) (fun w hw => by have := rdeg_spec q4.1 (bys b1).length q4.2 (bys b1) w ((hw.has (i := 0) rfl).of_own) (bys_lt k2) (by omega) k6; rw [bl_bys k2] at this; exact this) (fun _ _ => trivial) ?_
  refine s_ge 13 rfl rfl rfl rfl ?_
  refine SX.next ?_
  refine CW.test rfl (fun hc => ?_) (fun hc => ?_)
  · skip
    have h0 : b1.length ≠ 0 := by omega
    have hrl := restP_len ok3 k1.tr.lt k2.tr.lt h0 (k2.tr.top h0)
    refine CW.skip ?_
    refine KN.code ?_
    refine CW.block ?_
    refine CW.seq ?_
    refine CW.reg [0, 1, 2, 3, 4, 5, 6, 7] rfl ?_
    refine s_mv 15 rfl rfl ?_
    refine s_mv 16 rfl rfl ?_
    refine s_call 17 rfl rfl rfl rfl (fun w hw => by have := rbindiv_spec q3.1 (bys a1).length q3.2 (bys a1) q4.1 (bys b1).length q4.2 (bys b1) w ((hw.has (i := 1) rfl).of_own) (bys_lt k1) (by omega) k5 ((hw.has (i := 0) rfl).of_own) (bys_lt k2) (by omega) k6 (by rw [bl_bys k2]; exact h0) (by omega) (by omega); rw [bl_bys k1, bl_bys k2] at this; exact this) (fun _ _ => trivial) (fun q5 hq5 => ?_)
    refine s_mv 14 rfl rfl ?_
    refine s_ext 18 rfl rfl rfl ?_
    refine s_ext 19 rfl rfl rfl ?_
    refine s_as 5 rfl rfl ?_
    refine s_as 6 rfl rfl ?_
    refine SX.next ?_
    refine CW.seq ?_
    refine CW.reg [0, 1] rfl ?_
    refine s_mv 20 rfl rfl ?_
    refine s_as 0 rfl rfl ?_
    refine SX.next ?_
    refine CW.reg [0, 1] rfl ?_
    refine s_mv 21 rfl rfl ?_
    refine s_as 1 rfl rfl ?_
    refine SX.end_ ?_
    refine KN.blk ?_
    exact KN.back (b1, restP 3 a1 b1, q4, q5.2) ⟨rfl, rfl, trivial⟩ (fun _ h => h.pick [0, 1] rfl) ⟨k2, restP_b1 k1 k2 h0, k4, by simp only; omega, k6, hq5.2, (gcdE_step ok3 k1.tr k2.tr h0).trans k7⟩ (by simp only; omega)
  · skip
    have h0 : b1.length = 0 := by omega
    have hg : gcdE 3 (bl p) (bl p2) = a1 := by rw [← k7]; exact gcdE_last h0
    refine CW.exit rfl ?_
    refine KN.code ?_
    refine CW.seq ?_
    refine CW.reg [0, 1] rfl ?_
    refine s_mv 22 rfl rfl ?_
    refine s_as 4 rfl rfl ?_
    refine SX.next ?_
    refine CW.ret ?_
    exact KN.ret (rs := [.tmp 4]) Tryd.results40 rfl (fun w hw => ⟨q3, by rw [hg]; rfl, by rw [hg]; exact k5, by rw [hg]; exact hw.pick [1] rfl⟩)
end Go.Proofs.YtcdmmfpgeagimaaDoor
end
section
/- Chapter 3: irreducible polynomials as the document finds them; shifts and values of any number, walked. Conditions: bytes, read where they lie; not too many. -/
namespace Go.Proofs.YtcdmmfpgeagimaaDoor
open Go Go.Lib Go.Sx Go.Fm Nb
set_option maxRecDepth 100000
theorem bys_x : bys [0, 1] = [2] := by decide +kernel
theorem bl_x : bl [2] = [0, 1] := by decide +kernel
theorem irrP_small {a : List Nat} (h : ¬ (2 ≤ a.length ∧ a.length ≤ 33)) : irrP a = false := by
  unfold irrP
  rw [decide_eq_false h, Bool.false_and]
theorem irrP_not {a : List Nat} (ha : B1 a) (h2 : 2 ≤ a.length) (h33 : a.length ≤ 33) (h : ¬ Irr a) : irrP a = false := by
  cases hc : irrP a
  · rfl
  · exact absurd ((irr_iff ha h2 h33).1 hc) h
theorem irrP_all {a : List Nat} (ha : B1 a) (h2 : 2 ≤ a.length) (h33 : a.length ≤ 33) (h : ∀ i, 1 ≤ i → i ≤ (a.length - 1) / 2 → (gcdE 3 (addP (yq a i) [0, 1]) a).length = 1) : irrP a = true :=
  (irr_iff ha h2 h33).2 (Classical.byContradiction fun hn => by
    obtain ⟨i, h1, h3, h4⟩ := rabin2 ha h2 hn
    exact h4 (h i h1 h3))
theorem yq_len {a : List Nat} (ha : B1 a) (h2 : 2 ≤ a.length) : ∀ k, (yq a k).length ≤ a.length
  | 0 => h2
  | k + 1 => Nat.le_of_lt (rs_len ha h2 (mulP_b1 (yq_b1 ha h2 k) (yq_b1 ha h2 k)))
/-- Where the power so far lies: in x's own memory, or in memory of its own. -/
def yA (gb : Nat) : Nat → Option Addr × Nat → Option Addr
  | 0, _ => some ⟨gb, 0, none⟩
  | _ + 1, q => q.1
def yC : Nat → Option Addr × Nat → Nat
  | 0, _ => 1
  | _ + 1, q => q.2
noncomputable def yO (a : List Nat) : Nat → Option Addr × Nat → Atom
  | 0, _ => own 5 1 none 0 0 []
  | k + 1, q => own 5 1 q.1 (bys (yq a (k + 1))).length q.2 (nats .u8 (bys (yq a (k + 1))))
theorem y_has {F : Nat → Prop} {w₀ w : World} {R : List Atom} {a : List Nat} {gb k : Nat} {q : Option Addr × Nat} (h : St F w₀ (yO a k q :: own 5 1 (some ⟨gb, 0, none⟩) 1 1 (nats .u8 [2]) :: R) w) : Has (sl 1 (yA gb k q) (bys (yq a k)).length (nats .u8 (bys (yq a k)))) w := by
  cases k with
  | zero =>
    show Has (sl 1 (some ⟨gb, 0, none⟩) (bys [0, 1]).length (nats .u8 (bys [0, 1]))) w
    rw [bys_x]
    exact (h.has (i := 1) rfl).of_own
  | succ k => exact (h.has (i := 0) rfl).of_own

theorem rirr_spec (A : Option Addr) (n c : Nat) (p : List Nat) (w : World) (ha : Has (sl 1 A n (nats .u8 p)) w) (hp : ∀ x ∈ p, x < 256) (hn : n ≤ 1073741824) (hcp : n ≤ c) (hs : n ≤ 1000) : Spec1 Tryd.prog 42 [.slice A n c] w (.bool (irrP (bl p))) := by
  have hla := nats_len ha
  subst hla
  have hbl := bl_len p
  have hA := bl_b1 p
  have hdp := rdeg_spec A p.length c p
  generalize ea : bl p = a at *
  refine spec_of Tryd.func42 rfl Tryd.ntmps42 rfl ?_
  refine CW.seq ?_
  refine CW.reg [0] rfl ?_
  refine s_as 2 rfl rfl ?_
  refine SX.next ?_
  refine CW.seq ?_
  refine CW.reg [0, 1, 2] rfl ?_
  refine s_mv 8 rfl rfl ?_
  refine s_call1 9 rfl rfl rfl rfl (fun w hw => hdp w (hw.old ha) hp hn hcp) (fun _ _ => trivial) ?_
  refine s_as 3 rfl rfl ?_
  refine SX.next ?_
  refine CW.seq ?_
  refine CW.seq ?_
  refine CW.reg [0, 1, 2, 3, 4, 5] rfl ?_
  refine s_mv 10 rfl rfl ?_
  refine s_lt 11 rfl rfl rfl rfl ?_
  refine s_mv 12 rfl rfl ?_
  refine SX.bool 12 rfl (fun hb => ?_) (fun hb => ?_)
  · skip
    replace hb := of_decide_eq_true hb
    have hz : irrP a = false := irrP_small (by omega)
    refine SX.skip rfl ?_
    refine SX.skip rfl ?_
    refine s_pickT 15 rfl rfl rfl ?_
    refine SX.next ?_
    refine CW.condT rfl ?_
    refine CW.seq ?_
    refine CW.reg [0] rfl ?_
    refine s_as 2 rfl rfl ?_
    refine SX.next ?_
    refine CW.ret ?_
    exact KN.ret (rs := [.tmp 2]) Tryd.results42 rfl (fun w hw => ⟨by rw [hz]; rfl, hw.pick [] rfl⟩)
  · skip
    replace hb := of_decide_eq_false hb
    refine s_mv 13 rfl rfl ?_
    refine s_gt 14 rfl rfl rfl rfl ?_
    refine s_pickF 15 rfl rfl rfl ?_
    refine SX.next ?_
    refine CW.test rfl (fun hc2 => ?_) (fun hc2 => ?_)
    · skip
      have hz : irrP a = false := irrP_small (by omega)
      refine CW.seq ?_
      refine CW.reg [0] rfl ?_
      refine s_as 2 rfl rfl ?_
      refine SX.next ?_
      refine CW.ret ?_
      exact KN.ret (rs := [.tmp 2]) Tryd.results42 rfl (fun w hw => ⟨by rw [hz]; rfl, hw.pick [] rfl⟩)
    · skip
      have h2 : 2 ≤ a.length := by omega
      have h33 : a.length ≤ 33 := by omega
      rw [show ((a.length : Nat) : Int) - 1 = ((a.length - 1 : Nat) : Int) by omega]
      refine CW.skip ?_
      refine KN.code ?_
      refine CW.seq ?_
      refine CW.reg [0, 1] rfl ?_
      refine s_bsl 16 rfl rfl (cells := #[.int .u8 2]) (by kernel_rfl) rfl (fun _ _ => trivial) (fun gb => ?_)
      refine s_as 4 rfl rfl ?_
      refine SX.next ?_
      refine CW.seq ?_
      refine CW.reg [0, 1] rfl ?_
      refine s_mv 17 rfl rfl ?_
      refine s_as 5 rfl rfl ?_
      refine SX.next ?_
      refine CW.seq ?_
      refine CW.seq ?_
      refine CW.pre (C' := Sto w [yO a 0 (none, 0), own 5 1 (some ⟨gb, 0, none⟩) 1 1 (nats .u8 [2])]) (fun _ h => by
        have h1 := h.blkOwnM (q := 0) (g := gb) (E := 5) (cs := #[.int .u8 2]) (m := 1) (c := 1) (sz := 1) rfl rfl (Nat.le_refl _) (by unfold maxLen; omega)
        exact h1.begin_ 5 1) ?_
      refine CW.reg [0] rfl ?_
      refine s_as 6 rfl rfl ?_
      refine SX.next ?_
      refine CW.block ?_
      refine CW.loop (G := Nat × Option Addr × Nat) (fun z => [(0, .slice A p.length c), (3, .int .i64 ((a.length - 1 : Nat) : Int)), (4, .slice (some ⟨gb, 0, none⟩) 1 1), (5, .slice (yA gb z.1 z.2) (bys (yq a z.1)).length (yC z.1 z.2)), (6, .int .i64 ((z.1 + 1 : Nat) : Int))]) (fun z => Sto w [yO a z.1 z.2, own 5 1 (some ⟨gb, 0, none⟩) 1 1 (nats .u8 [2])]) (fun z => z.1 ≤ (a.length - 1) / 2 ∧ (bys (yq a z.1)).length ≤ yC z.1 z.2 ∧ ∀ i, 1 ≤ i → i ≤ z.1 → (gcdE 3 (addP (yq a i) [0, 1]) a).length = 1) (fun z => (a.length - 1) / 2 - z.1) (0, none, 0) ⟨rfl, rfl, rfl, by show _ = some (Value.slice (some ⟨gb, 0, none⟩) (bys [0, 1]).length 1); rw [bys_x]; rfl, rfl, trivial⟩ (fun _ h => h) ⟨Nat.zero_le _, by show (bys [0, 1]).length ≤ 1; rw [bys_x]; exact Nat.le_refl _, fun i h1 h3 => by simp only at h3; omega⟩ ?_
      rintro ⟨k, q⟩ ⟨hk, hc, hg⟩
      simp only at hk hc hg
      dsimp only
      have hY := yq_b1 hA h2 k
      have hY1 := yq_b1 hA h2 (k + 1)
      have hYl := yq_len hA h2 k
      have hYl1 := yq_len hA h2 (k + 1)
      have hyb := bys_len (yq a k)
      have hyb1 := bys_len (yq a (k + 1))
      have hml := mulP_le3 (yq a k) (yq a k)
      have hmb := bys_len (mulP 3 (yq a k) (yq a k))
      have hM := mulP_b1 hY hY
      have hS := addP_b1 hY1 x_b1
      have hsl : (addP (yq a (k + 1)) [0, 1]).length ≤ a.length := addP_len ok3 hY1.tr x_b1.tr hYl1 h2
      have hsb := bys_len (addP (yq a (k + 1)) [0, 1])
      refine CW.seq ?_
      refine CW.seq ?_
      refine CW.reg [0, 1, 2, 3] rfl ?_
      refine s_mv 18 rfl rfl ?_
      refine s_mv 19 rfl rfl ?_
      refine s_quo 20 rfl rfl rfl (by omega) (quo2 (a.length - 1) (by omega)) ?_
      refine s_le 21 rfl rfl rfl rfl ?_
      refine SX.next ?_
      refine CW.test rfl (fun hc3 => ?_) (fun hc3 => ?_)
      · skip
        have hki : k + 1 ≤ (a.length - 1) / 2 := by omega
        refine CW.skip ?_
        refine KN.code ?_
        refine CW.seq ?_
        refine CW.block ?_
        refine CW.seq ?_
        refine CW.reg [0, 1, 2, 3, 4, 5, 6, 7, 8] rfl ?_
        refine s_mv 25 rfl rfl ?_
        refine s_mv 26 rfl rfl ?_
        refine s_call 27 rfl rfl rfl rfl (fun w hw => by have := rbinmul_spec (yA gb k q) (bys (yq a k)).length (yC k q) (bys (yq a k)) (yA gb k q) (bys (yq a k)).length (yC k q) (bys (yq a k)) w (y_has hw) (bys_lt hY) (by omega) hc (y_has hw) (bys_lt hY) (by omega) hc (by rw [bl_bys hY]; omega); rw [bl_bys hY] at this; exact this) (fun _ _ => trivial) (fun qm hqm => ?_)
        refine s_mv 28 rfl rfl ?_
        refine s_call 29 rfl rfl rfl rfl (fun w hw => by have := rbindiv_spec qm.1 (bys (mulP 3 (yq a k) (yq a k))).length qm.2 (bys (mulP 3 (yq a k) (yq a k))) A p.length c p w ((hw.has (i := 0) rfl).of_own) (bys_lt hM) (by omega) hqm (hw.old ha) hp hn hcp (by rw [ea]; omega) (by omega) (by omega); rw [bl_bys hM, ea] at this; exact this) (fun _ _ => trivial) (fun qd hqd => ?_)
        refine s_mv 24 rfl rfl ?_
        refine s_ext 30 rfl rfl rfl ?_
        refine s_ext 31 rfl rfl rfl ?_
        refine s_as 5 rfl rfl ?_
        refine SX.next ?_
        refine CW.seq ?_
        refine CW.reg [0, 1, 2, 3, 4, 5] rfl ?_
        refine s_mv 32 rfl rfl ?_
        refine s_mv 33 rfl rfl ?_
        refine s_call 34 rfl rfl rfl rfl (fun w hw => by have := rbinadd_spec qd.2.1 (bys (yq a (k + 1))).length qd.2.2 (bys (yq a (k + 1))) (some ⟨gb, 0, none⟩) 1 1 [2] w ((hw.has (i := 0) rfl).of_own) (bys_lt hY1) (by omega) hqd.2 ((hw.has (i := 4) rfl).of_own) (by simp) (by omega) (Nat.le_refl _) (by omega) (by omega); rw [bl_bys hY1, bl_x] at this; exact this) (fun _ _ => trivial) (fun qs hqs => ?_)
        refine s_mv 35 rfl rfl ?_
        refine s_call 36 rfl rfl rfl rfl (fun w hw => by have := rbingcd_spec qs.1 (bys (addP (yq a (k + 1)) [0, 1])).length qs.2 (bys (addP (yq a (k + 1)) [0, 1])) A p.length c p w ((hw.has (i := 0) rfl).of_own) (bys_lt hS) (by omega) hqs (hw.old ha) hp hn hcp (by omega) (by omega); rw [bl_bys hS, ea] at this; exact this) (fun _ _ => trivial) (fun qg hqg => ?_)
        refine s_as 7 rfl rfl ?_
        refine SX.next ?_
        refine CW.seq ?_
        refine CW.reg [0, 1, 2] rfl ?_
        refine s_mv 37 rfl rfl ?_
        have hG := gcdE_b1 hS hA
        have hgl := (dvd_len hG (gcdE_dvd ok3 hS.tr hA.tr).2 (fun e => by rw [e] at h2; simp at h2)).1
        have hgb := bys_len (gcdE 3 (addP (yq a (k + 1)) [0, 1]) a)
        refine s_call1 38 rfl rfl rfl rfl (v := .int .i64 (((gcdE 3 (addP (yq a (k + 1)) [0, 1]) a).length : Nat) - 1 : Int)) (fun w hw => by have := rdeg_spec qg.1 (bys (gcdE 3 (addP (yq a (k + 1)) [0, 1]) a)).length qg.2 (bys (gcdE 3 (addP (yq a (k + 1)) [0, 1]) a)) w ((hw.has (i := 0) rfl).of_own) (bys_lt hG) (by omega) hqg; rw [bl_bys hG] at this; exact this) (fun _ _ => trivial) ?_
        refine s_ne 39 rfl rfl rfl rfl ?_
        refine SX.next ?_
        refine CW.test rfl (fun hc4 => ?_) (fun hc4 => ?_)
        · skip
          have hz : irrP a = false := irrP_not hA h2 h33 (fun hI => by have := rabin1 hI (i := k + 1) (by omega) hki; omega)
          refine CW.seq ?_
          refine CW.reg [0] rfl ?_
          refine s_as 2 rfl rfl ?_
          refine SX.next ?_
          refine CW.ret ?_
          exact KN.ret (rs := [.tmp 2]) Tryd.results42 rfl (fun w hw => ⟨by rw [hz]; rfl, hw.pick [] rfl⟩)
        · skip
          refine CW.skip ?_
          refine KN.blk ?_
          refine KN.code ?_
          refine CW.reg [0, 1, 2] rfl ?_
          refine s_mv 22 rfl rfl ?_
          refine s_add 23 rfl rfl rfl (r := ((k + 1 + 1 : Nat) : Int)) (w64 (by omega)) ?_
          refine s_as 6 rfl rfl ?_
          refine SX.end_ ?_
          exact KN.back (k + 1, qd.2) ⟨rfl, rfl, rfl, rfl, rfl, trivial⟩ (fun _ h => h.pick [2, 5] rfl) ⟨by simp only; omega, hqd.2, fun i h1 h3 => by
  by_cases hik : i = k + 1
  · subst hik; omega
  · exact hg i h1 (by simp only at h3; omega)⟩ (by simp only; omega)
      · skip
        have hz : irrP a = true := irrP_all hA h2 h33 (fun i h1 h3 => hg i h1 (by omega))
        refine CW.exit rfl ?_
        refine KN.code ?_
        refine CW.seq ?_
        refine CW.reg [0] rfl ?_
        refine s_as 2 rfl rfl ?_
        refine SX.next ?_
        refine CW.ret ?_
        exact KN.ret (rs := [.tmp 2]) Tryd.results42 rfl (fun w hw => ⟨by rw [hz]; rfl, hw.pick [] rfl⟩)

/-- The value at any number. -/
def evX (p : List Nat) (x : Int) : Nat := if x % 2 = 0 then bitI p 0 else evL 3 (bl p) 1
theorem tmod2_zero (x : Int) : (x.tmod 2 = 0) = (x % 2 = 0) := by
  rw [eq_iff_iff]
  constructor
  · intro h; have := Int.dvd_of_tmod_eq_zero h; omega
  · intro h; exact Int.tmod_eq_zero_of_dvd (by omega)

theorem beval_odd (A : Option Addr) (n c : Nat) (p : List Nat) (x : Int) (w : World) (ha : Has (sl 1 A n (nats .u8 p)) w) (hp : ∀ x ∈ p, x < 256) (hn : n ≤ 1073741824) (hcp : n ≤ c) (hx : ¬ x % 2 = 0) : Spec1 Tryd.prog 47 [.slice A n c, .int .i64 x] w (.int .i64 (evL 3 (bl p) 1 : Nat)) := by
  have hla := nats_len ha
  subst hla
  refine spec_of Tryd.func47 rfl Tryd.ntmps47 rfl ?_
  refine CW.seq ?_
  refine CW.reg [0] rfl ?_
  refine s_as 4 rfl rfl ?_
  refine SX.next ?_
  refine CW.seq ?_
  refine CW.seq ?_
  refine CW.reg [0, 1, 2] rfl ?_
  refine s_mv 8 rfl rfl ?_
  refine s_rem 9 rfl rfl rfl (by omega) (r := x.tmod 2) rfl ?_
  refine s_eq 10 rfl rfl rfl (decide_eq_false (by rw [tmod2_zero]; exact hx)) ?_
  refine SX.next ?_
  refine CW.condF rfl ?_
  refine CW.skip ?_
  refine KN.code ?_
  refine CW.seq ?_
  refine CW.reg [0] rfl ?_
  refine s_as 5 rfl rfl ?_
  refine SX.next ?_
  refine CW.seq ?_
  refine CW.seq ?_
  refine CW.reg [0, 1, 2] rfl ?_
  refine s_mv 13 rfl rfl ?_
  refine s_len 14 rfl rfl ?_
  refine s_mv 15 rfl rfl ?_
  refine SX.next ?_
  refine CW.block ?_
  refine CW.loop (G := Nat × Nat) (fun q => [(5, .int .i64 (q.2 : Nat)), (13, .slice A p.length c), (14, .int .i64 (p.length : Nat)), (15, .int .i64 (q.1 : Nat))]) (fun _ => Sto w []) (fun q => (q.1 ≤ p.length ∧ q.2 ≤ 8 * q.1) ∧ q.2 % 2 = parB p q.1) (fun q => p.length - q.1) (0, 0) ⟨rfl, rfl, rfl, rfl, trivial⟩ (fun _ h => h) ⟨⟨Nat.zero_le _, Nat.zero_le _⟩, rfl⟩ ?_
  rintro ⟨i, k⟩ ⟨⟨hi, hk⟩, hp2⟩
  simp only at hi hk hp2
  dsimp only
  refine CW.seq ?_
  refine CW.reg [0] rfl ?_
  refine s_lt 16 rfl rfl rfl rfl ?_
  refine SX.next ?_
  refine CW.seq ?_
  refine CW.test rfl (fun hc => ?_) (fun hc => ?_)
  · skip
    obtain ⟨z, hz1, hz2, hz3⟩ := pop_all (cf p i) (cf_lt8 hp i)
    refine CW.skip ?_
    refine KN.code ?_
    refine CW.seq ?_
    refine CW.block ?_
    refine CW.seq ?_
    refine CW.reg [0, 1, 2] rfl ?_
    refine s_iaV 17 i (fun w hw => hw.old ha) rfl rfl rfl rfl (by omega) ?_
    refine s_ldV 18 (fun w hw => hw.old ha) rfl rfl (by rw [Nat.mul_one]; exact natsAt8 (by omega)) (by omega) ?_
    refine s_as 7 rfl rfl ?_
    refine SX.next ?_
    refine CW.reg [0, 1, 2, 3, 4] rfl ?_
    refine s_mv 19 rfl rfl ?_
    refine s_mv 20 rfl rfl ?_
    refine s_call1 21 rfl rfl rfl rfl (fun w hw => ones8_spec _ z w (cf_lt8 hp i) hz1 hz2) (fun _ _ => trivial) ?_
    refine s_add 22 rfl rfl rfl (r := ((k + z : Nat) : Int)) (w64 (by omega)) ?_
    refine s_as 5 rfl rfl ?_
    refine SX.end_ ?_
    refine KN.blk ?_
    refine KN.code ?_
    refine CW.reg [0, 1] rfl ?_
    refine s_add 23 rfl rfl rfl (r := ((i + 1 : Nat) : Int)) (w64 (by omega)) ?_
    refine s_mv 15 rfl rfl ?_
    refine SX.end_ ?_
    exact KN.back (i + 1, k + z) ⟨rfl, rfl, rfl, rfl, trivial⟩ (fun _ h => h) ⟨⟨by simp only; omega, by simp only; omega⟩, parB_next hp2 hz3⟩ (by simp only; omega)
  · skip
    obtain rfl : i = p.length := by omega
    rw [parB_ev] at hp2
    refine CW.exit rfl ?_
    refine KN.code ?_
    refine CW.seq ?_
    refine CW.reg [0, 1, 2] rfl ?_
    refine s_mv 24 rfl rfl ?_
    refine s_rem 25 rfl rfl rfl (by omega) (r := ((evL 3 (bl p) 1 : Nat) : Int)) (by rw [← hp2]; rfl) ?_
    refine s_as 4 rfl rfl ?_
    refine SX.next ?_
    refine CW.ret ?_
    exact KN.ret (rs := [.tmp 4]) Tryd.results47 rfl (fun w hw => ⟨rfl, hw.nothing⟩)

theorem beval_even (A : Option Addr) (n c : Nat) (p : List Nat) (x : Int) (w : World) (ha : Has (sl 1 A n (nats .u8 p)) w) (hp : ∀ x ∈ p, x < 256) (hn : n ≤ 1073741824) (hcp : n ≤ c) (hx : x % 2 = 0) : Spec1 Tryd.prog 47 [.slice A n c, .int .i64 x] w (.int .i64 (bitI p 0 : Nat)) := by
  refine spec_of Tryd.func47 rfl Tryd.ntmps47 rfl ?_
  refine CW.seq ?_
  refine CW.reg [0] rfl ?_
  refine s_as 4 rfl rfl ?_
  refine SX.next ?_
  refine CW.seq ?_
  refine CW.seq ?_
  refine CW.reg [0, 1, 2] rfl ?_
  refine s_mv 8 rfl rfl ?_
  refine s_rem 9 rfl rfl rfl (by omega) (r := x.tmod 2) rfl ?_
  refine s_eq 10 rfl rfl rfl (decide_eq_true (by rw [tmod2_zero]; exact hx)) ?_
  refine SX.next ?_
  refine CW.condT rfl ?_
  refine CW.seq ?_
  refine CW.reg [0, 1, 2] rfl ?_
  refine s_mv 11 rfl rfl ?_
  refine s_call1 12 rfl rfl rfl rfl (fun w hw => bbit_spec A n c p 0 w (hw.old ha) hp hn hcp (by omega)) (fun _ _ => trivial) ?_
  refine s_as 4 rfl rfl ?_
  refine SX.next ?_
  refine CW.ret ?_
  exact KN.ret (rs := [.tmp 4]) Tryd.results47 rfl (fun w hw => ⟨rfl, hw.nothing⟩)

theorem beval_any (A : Option Addr) (n c : Nat) (p : List Nat) (x : Int) (w : World) (ha : Has (sl 1 A n (nats .u8 p)) w) (hp : ∀ x ∈ p, x < 256) (hn : n ≤ 1073741824) (hcp : n ≤ c) : Spec1 Tryd.prog 47 [.slice A n c, .int .i64 x] w (.int .i64 (evX p x : Nat)) := by
  unfold evX
  by_cases h : x % 2 = 0
  · rw [if_pos h]; exact beval_even A n c p x w ha hp hn hcp h
  · rw [if_neg h]; exact beval_odd A n c p x w ha hp hn hcp h

theorem bsh_none (A : Option Addr) (n c : Nat) (p : List Nat) (m : Int) (w : World) (ha : Has (sl 1 A n (nats .u8 p)) w) (hp : ∀ x ∈ p, x < 256) (hn : n ≤ 1073741824) (hcp : n ≤ c) (hlo : (bl p).length = 0 ∨ m + ((bl p).length : Nat) ≤ 0) : Spec1 Tryd.prog 45 [.slice A n c, .int .i64 m] w (two (.slice none 0 0) .nilIface) := by
  have hla := nats_len ha
  subst hla
  have hbl := bl_len p
  refine spec_of Tryd.func45 rfl Tryd.ntmps45 rfl ?_
  refine CW.seq ?_
  refine CW.reg [0, 1] rfl ?_
  refine s_as 4 rfl rfl ?_
  refine s_as 5 rfl rfl ?_
  refine SX.next ?_
  refine CW.seq ?_
  refine CW.reg [0, 1, 2] rfl ?_
  refine s_mv 10 rfl rfl ?_
  refine s_call1 11 rfl rfl rfl rfl (fun w hw => bdeg_spec A p.length c p w (hw.old ha) hp hn hcp) (fun _ _ => trivial) ?_
  refine s_as 6 rfl rfl ?_
  refine SX.next ?_
  refine CW.seq ?_
  refine CW.block ?_
  refine CW.seq ?_
  refine CW.reg [0, 1, 2, 3, 4, 5, 6, 7, 8] rfl ?_
  refine s_mv 13 rfl rfl ?_
  refine s_lt 14 rfl rfl rfl rfl ?_
  refine s_mv 15 rfl rfl ?_
  refine SX.bool 15 rfl (fun hb => ?_) (fun hb => ?_)
  · skip
    skip
    refine SX.skip rfl ?_
    refine SX.skip rfl ?_
    refine SX.skip rfl ?_
    refine SX.skip rfl ?_
    refine s_pickT 20 rfl rfl rfl ?_
    refine s_as 12 rfl rfl ?_
    refine SX.next ?_
    refine CW.condT rfl ?_
    refine CW.seq ?_
    refine CW.reg [0, 1] rfl ?_
    refine s_as 4 rfl rfl ?_
    refine s_as 5 rfl rfl ?_
    refine SX.next ?_
    refine CW.ret ?_
    exact KN.ret (rs := [.tmp 4, .tmp 5]) Tryd.results45 rfl (fun w hw => ⟨rfl, hw.nothing⟩)
  · skip
    replace hb := of_decide_eq_false hb
    refine s_mv 16 rfl rfl ?_
    refine s_mv 17 rfl rfl ?_
    refine s_neg 18 rfl rfl (r := 1 - ((bl p).length : Nat)) (by rw [show (0 : Int) - (((bl p).length : Nat) - 1) = 1 - ((bl p).length : Nat) by omega]; exact w64 (by omega)) ?_
    refine s_lt 19 rfl rfl rfl (decide_eq_true (by omega)) ?_
    refine s_pickF 20 rfl rfl rfl ?_
    refine s_as 12 rfl rfl ?_
    refine SX.next ?_
    refine CW.condT rfl ?_
    refine CW.seq ?_
    refine CW.reg [0, 1] rfl ?_
    refine s_as 4 rfl rfl ?_
    refine s_as 5 rfl rfl ?_
    refine SX.next ?_
    refine CW.ret ?_
    exact KN.ret (rs := [.tmp 4, .tmp 5]) Tryd.results45 rfl (fun w hw => ⟨rfl, hw.nothing⟩)

theorem bsh_long (A : Option Addr) (n c : Nat) (p : List Nat) (m : Int) (e : Nat → Addr) (w : World) (ha : Has (sl 1 A n (nats .u8 p)) w) (hp : ∀ x ∈ p, x < 256) (hn : n ≤ 1073741824) (hcp : n ≤ c) (h0 : (bl p).length ≠ 0) (hbl4 : (bl p).length ≤ 4097) (hm : 4097 - ((bl p).length : Nat) < m) (hl : Er e w 0) : Spec1 Tryd.prog 45 [.slice A n c, .int .i64 m] w (errRes e 0) := by
  have hla := nats_len ha
  subst hla
  have hbl := bl_len p
  refine spec_of Tryd.func45 rfl Tryd.ntmps45 rfl ?_
  refine CW.seq ?_
  refine CW.reg [0, 1] rfl ?_
  refine s_as 4 rfl rfl ?_
  refine s_as 5 rfl rfl ?_
  refine SX.next ?_
  refine CW.seq ?_
  refine CW.reg [0, 1, 2] rfl ?_
  refine s_mv 10 rfl rfl ?_
  refine s_call1 11 rfl rfl rfl rfl (fun w hw => bdeg_spec A p.length c p w (hw.old ha) hp hn hcp) (fun _ _ => trivial) ?_
  refine s_as 6 rfl rfl ?_
  refine SX.next ?_
  refine CW.seq ?_
  refine CW.block ?_
  refine CW.seq ?_
  refine CW.reg [0, 1, 2, 3, 4, 5, 6, 7, 8] rfl ?_
  refine s_mv 13 rfl rfl ?_
  refine s_lt 14 rfl rfl rfl (decide_eq_false (by omega)) ?_
  refine s_mv 15 rfl rfl ?_
  refine s_mv 16 rfl rfl ?_
  refine s_mv 17 rfl rfl ?_
  refine s_neg 18 rfl rfl (r := 1 - ((bl p).length : Nat)) (by rw [show (0 : Int) - (((bl p).length : Nat) - 1) = 1 - ((bl p).length : Nat) by omega]; exact w64 (by omega)) ?_
  refine s_lt 19 rfl rfl rfl (decide_eq_false (by omega)) ?_
  refine s_pickF 20 rfl rfl rfl ?_
  refine s_as 12 rfl rfl ?_
  refine SX.next ?_
  refine CW.condF rfl ?_
  refine CW.seq ?_
  refine CW.reg [0, 1, 2, 3, 4] rfl ?_
  refine s_mv 22 rfl rfl ?_
  refine s_mv 23 rfl rfl ?_
  refine s_sub 24 rfl rfl rfl (r := 4097 - ((bl p).length : Nat)) (by rw [show (4096 : Int) - (((bl p).length : Nat) - 1) = 4097 - ((bl p).length : Nat) by omega]; exact w64 (by omega)) ?_
  refine s_gt 25 rfl rfl rfl (decide_eq_true (by omega)) ?_
  refine s_as 21 rfl rfl ?_
  refine SX.next ?_
  refine CW.condT rfl ?_
  refine CW.seq ?_
  refine CW.regD (.st true 0 (.st true 1 (.st true 2 .done))) (Sto w []) mixed (by kernel_rfl) (fun _ h => h.drew) (fun _ h => h) ?_
  refine s_ldS 26 rfl rfl (fun _ h => h.cell hl) ?_
  refine s_as 4 rfl rfl ?_
  refine s_as 5 rfl rfl ?_
  refine SX.next ?_
  refine CW.ret ?_
  exact KN.ret (rs := [.tmp 4, .tmp 5]) Tryd.results45 rfl (fun w hw => ⟨rfl, hw.nothing⟩)

theorem rbinsh_zero (A : Option Addr) (n c : Nat) (p : List Nat) (m : Int) (w : World) (ha : Has (sl 1 A n (nats .u8 p)) w) (hp : ∀ x ∈ p, x < 256) (hn : n ≤ 1073741824) (hcp : n ≤ c) (h0 : (bl p).length = 0) : Spec1 Tryd.prog 46 [.slice A n c, .int .i64 m] w (.slice none 0 0) := by
  have hla := nats_len ha
  subst hla
  have hbl := bl_len p
  refine spec_of Tryd.func46 rfl Tryd.ntmps46 rfl ?_
  refine CW.seq ?_
  refine CW.reg [0] rfl ?_
  refine s_as 4 rfl rfl ?_
  refine SX.next ?_
  refine CW.seq ?_
  refine CW.reg [0, 1, 2] rfl ?_
  refine s_mv 8 rfl rfl ?_
  refine s_call1 9 rfl rfl rfl rfl (fun w hw => rdeg_spec A p.length c p w (hw.old ha) hp hn hcp) (fun _ _ => trivial) ?_
  refine s_as 5 rfl rfl ?_
  refine SX.next ?_
  refine CW.seq ?_
  refine CW.seq ?_
  refine CW.reg [0, 1, 2, 3, 4, 5, 6, 7] rfl ?_
  refine s_mv 10 rfl rfl ?_
  refine s_lt 11 rfl rfl rfl (decide_eq_true (by omega)) ?_
  refine s_mv 12 rfl rfl ?_
  refine SX.skip rfl ?_
  refine SX.skip rfl ?_
  refine SX.skip rfl ?_
  refine SX.skip rfl ?_
  refine s_pickT 17 rfl rfl rfl ?_
  refine SX.next ?_
  refine CW.condT rfl ?_
  refine CW.seq ?_
  refine CW.reg [0] rfl ?_
  refine s_as 4 rfl rfl ?_
  refine SX.next ?_
  refine CW.ret ?_
  exact KN.ret (rs := [.tmp 4]) Tryd.results46 rfl (fun w hw => ⟨rfl, hw.nothing⟩)
end Go.Proofs.YtcdmmfpgeagimaaDoor
end
