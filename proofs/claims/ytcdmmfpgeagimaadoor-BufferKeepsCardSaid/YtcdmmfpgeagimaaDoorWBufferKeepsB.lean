/- The walk of the statement BufferKeeps, text 2. Conditions: each theorem tells its own. -/
import Derived.Test.YtcdmmfpgeagimaaDoorWBufferKeepsA
import Derived.OrdersIn
import Derived.RangeFuncLeaves
import Derived.RangeFuncRecord
import Derived.Laws.CopyRow
import Derived.Laws.IdiomCopy
import Derived.ChangeSlices
import Derived.WideShapes
section
/- Range over a function, part 1: the symbolic walk with calls of yield, in a round's frame and out of it: operations and regions. No condition. -/
namespace Go.Sx
open Go

/-- The wide fence, with what makes the frame. -/
abbrev fw (ro : Option Nat) : Fence := { Fence.wide with round := ro }

/-- What an operation's outcome asks, yield's rounds among them. -/
def upI (P : Program) (o : Oper) (a : Act) (K : Act → World → Prop) : Result Next → Prop
  | .ok (.value v) w' => K (a.put o.dst v) w'
  | .ok .skip w' => K (a.put o.dst undef) w'
  | .ok (.enter f args) w' => Calls P f args w' fun e w'' => ∃ v, e = .returned v ∧ K (a.put o.dst v) w''
  | .ok (.row row args) w' => Rows P row args w' fun v w'' => K (a.put o.dst v) w''
  | .ok (.round l f tmps assign body) w' => RoundIn Fence.wide 0 P l f tmps assign body w' fun e w'' => ∃ v, e = .returned v ∧ K (a.put o.dst v) w''
  | _ => False
def OpI (P : Program) (o : Oper) (a : Act) (w : World) (K : Act → World → Prop) : Prop := upI P o a K ((execOp a.eval o).run P w)

theorem upI_mono {P : Program} {o : Oper} {a : Act} {K K' : Act → World → Prop} (hK : ∀ a w, K a w → K' a w) {r : Result Next} (h : upI P o a K r) : upI P o a K' r := by
  cases r with
  | ok x w' =>
    cases x <;> simp only [upI] at h ⊢
    case value => exact hK _ _ h
    case skip => exact hK _ _ h
    case enter => exact Calls.mono h (fun e w ⟨v, he, hk⟩ => ⟨v, he, hK _ _ hk⟩)
    case row => exact Rows.mono h (fun v w hk => hK _ _ hk)
    case round => exact RoundIn.mono h (fun e w ⟨v, he, hk⟩ => ⟨v, he, hK _ _ hk⟩)
  | halt x w' => simp only [upI] at h

/-- In whatever frame: an operation that is no defer statement. -/
theorem OpI.wpIn {P : Program} {ro : Option Nat} {o : Oper} {a : Act} {w : World} {K : Act → World → Prop} {Q : Exit → Act → World → Prop} (hnd : ∀ c, o.op ≠ .defer c) (h : OpI P o a w K) : o.wpIn (fw ro) 0 P a w K Q := by
  refine ⟨fun _ _ => trivial, ?_⟩
  show o.uponIn (fw ro) 0 P a K Q ((o.semAt ro a.eval).run P w)
  rw [Oper.semAt_eq ro _ _ hnd]
  unfold OpI at h
  generalize (execOp a.eval o).run P w = r at *
  have hd : ∀ {p : Prop}, ((fw ro).depth.isSome = true → p) := fun h => by simp [Fence.wide] at h
  cases r with
  | ok x w' =>
    cases x <;> simp only [upI] at h
    case value => exact h
    case skip => exact h
    case enter f args =>
      refine ⟨hd, ?_⟩
      have h2 : CallsIn Fence.wide 0 P f args w' _ := callsIn_wide.2 h
      exact CallsIn.mono (F := fw ro) h2 (fun e w ⟨v, he, hk⟩ => by subst he; exact hk)
    case row row args =>
      refine ⟨hd, fun c cs _ => ?_⟩
      obtain ⟨v, w'', hk, hs⟩ := h c cs
      exact ⟨v, w'', hk, stepsIn_wide.2 hs⟩
    case round l f tmps assign body =>
      refine ⟨hd, ?_⟩
      exact RoundIn.mono (F := fw ro) h (fun e w ⟨v, he, hk⟩ => by subst he; exact hk)
  | halt x w' => simp only [upI] at h

/-- Of an operation of the plain walk. -/
theorem OpI.of_wp {P : Program} {o : Oper} {a : Act} {w : World} {K K' : Act → World → Prop} (ds : List Deferred) (h : o.wp P { a with defers := [] } w K' NoExit)
    (hK : ∀ a' w', K' a' w' → a'.defers = [] ∧ K { a' with defers := ds } w') (hds : a.defers = ds) : OpI P o a w K := by
  have hp : ∀ v : Value, { ({ a with defers := [] } : Act).put o.dst v with defers := ds } = a.put o.dst v := fun v => by
    subst hds; cases o.dst <;> rfl
  unfold Oper.wp at h
  unfold OpI
  have he : ({ a with defers := [] } : Act).eval = a.eval := by funext x; cases x <;> rfl
  rw [he] at h
  generalize (execOp a.eval o).run P w = r at *
  cases r with
  | ok x w' =>
    cases x <;> simp only [Oper.upon] at h <;> simp only [upI]
    case value v => have := (hK _ _ h).2; rwa [hp] at this
    case skip => have := (hK _ _ h).2; rwa [hp] at this
    case defer d => have := (hK _ _ h).1; cases hd : o.dst <;> simp [Act.put, hd] at this
    case enter f args =>
      refine Calls.mono h (fun e w'' he => ?_)
      cases e with
      | returned v => have := (hK _ _ he).2; rw [hp] at this; exact ⟨v, rfl, this⟩
      | panicked c => exact he.elim
      | outgrown => obtain ⟨_, _, hf⟩ := he; exact hf.elim
    case row row args => exact Rows.mono h (fun v w'' he => by have := (hK _ _ he).2; rwa [hp] at this)
  | halt x w' => cases x <;> simp only [Oper.upon, NoExit] at h

section
variable (P : Program) (ops : Array Oper) (S : World → Prop) (K : Act → World → Prop)
/-- Number i is carried out, or passed over. -/
def opI (i : Nat) (K : Act → World → Prop) (a : Act) (w : World) : Prop := match ops[i]? with
  | none => False
  | some o => if Region.wanted o (yielded ops a.tmps) = true then OpI P o a w K else K (a.put o.dst undef) w
def PWI : Plan → Act → World → Prop
  | .done, a, w => K a w
  | .st true i p, a, w => match ops[i]? with
    | none => False
    | some o => if Region.wanted o (yielded ops a.tmps) = true then ∃ v, (∀ w', S w' → (execOp a.eval o).run P w' = .ok (.value v) w') ∧ PWI p (a.put o.dst v) w
      else PWI p (a.put o.dst undef) w
  | .st false i p, a, w => opI P ops i (fun a' w' => S w' ∧ PWI p a' w') a w
  | .alt i p q, a, w => opI P ops i (fun a' w' => S w' ∧ PWI p a' w') a w ∧ PWI q a w
/-- In whatever order. -/
def AnyI : Nat → Array Bool → Act → World → Prop
  | 0, listed, a, w => Region.ready .any ops listed = [] ∧ K a w
  | f + 1, listed, a, w => (Region.ready .any ops listed = [] → K a w) ∧ ∀ i ∈ Region.ready .any ops listed, opI P ops i (fun a' w' => S w' ∧ AnyI f (listed.setIfInBounds i true) a' w') a w
end

section
variable {P : Program} {ops : Array Oper} {S : World → Prop} {K K' : Act → World → Prop}
theorem opI_mono {i : Nat} (hK : ∀ a w, K a w → K' a w) {a : Act} {w : World} (h : opI P ops i K a w) : opI P ops i K' a w := by
  unfold opI at *
  cases ho : ops[i]? with
  | none => rw [ho] at h; exact h
  | some o =>
    rw [ho] at h
    dsimp only at h ⊢
    by_cases hw : Region.wanted o (yielded ops a.tmps) = true
    · rw [if_pos hw] at h ⊢; exact upI_mono hK h
    · rw [if_neg hw] at h ⊢; exact hK _ _ h

def noDefer (ops : Array Oper) : Bool := ops.all fun o => match o.op with | .defer _ => false | _ => true
theorem noDefer_at {i : Nat} {o : Oper} (h : noDefer ops = true) (ho : ops[i]? = some o) : ∀ c, o.op ≠ .defer c := by
  intro c hc
  have := Array.all_eq_true_iff_forall_mem.1 h o (Array.mem_of_getElem? ho)
  rw [hc] at this
  exact absurd this (by simp)

theorem opI_in {ro : Option Nat} (hnd : noDefer ops = true) {i : Nat} {a : Act} {w : World} {Q : Exit → Act → World → Prop} (h : opI P ops i K a w) : wpOpIn (fw ro) 0 P ops Q i K a w := by
  unfold opI at h
  unfold wpOpIn
  split at h
  · exact h.elim
  · rename_i o ho
    rw [ho]
    dsimp only
    split at h
    · rename_i hw; rw [if_pos hw]; exact OpI.wpIn (noDefer_at hnd ho) h
    · rename_i hw; rw [if_neg hw]; exact ⟨fun _ _ => trivial, h⟩

theorem AnyI.in_ {ro : Option Nat} (hnd : noDefer ops = true) : ∀ (f : Nat) (listed : Array Bool) (a : Act) (w : World), AnyI P ops S K f listed a w → wpAnyIn (fw ro) 0 P .any ops (NoExitN K) f listed a w
  | 0, _, _, _, h => h
  | f + 1, _, _, _, h => ⟨h.1, fun i hi => opI_in hnd (opI_mono (fun _ _ h' => AnyI.in_ hnd f _ _ _ h'.2) (h.2 i hi))⟩

/-- What one operation does, another's value put in or not, if they are apart. -/
theorem opI_put {j : Nat} {oi oj : Oper} {v : Value} (hj : ops[j]? = some oj) (hap : oi.apart ops oj = true) (hsj : ∀ cs b, oj.op ≠ .select cs b) {a : Act} {w : World}
    (h : opI P ops j K (a.put oi.dst v) w) : opI P ops j (fun a' w' => (∃ u, a' = a.put oj.dst u) ∧ K (a'.put oi.dst v) w') a w := by
  obtain ⟨h1, h2, _⟩ := Oper.apart_spec hap
  unfold opI at *
  rw [hj] at *
  dsimp only at *
  rw [wanted_put oj a oi.dst v h1] at h
  split at h
  · rename_i hw
    rw [if_pos hw]
    unfold OpI at *
    rw [execOp_put oj hsj a oi.dst v h1] at h
    generalize (execOp a.eval oj).run P w = r at *
    have hc : ∀ u, (a.put oi.dst v).put oj.dst u = (a.put oj.dst u).put oi.dst v := fun u => Act.put_comm a v u h2
    cases r with
    | ok x w' =>
      cases x <;> simp only [upI] at h ⊢
      case value u => exact ⟨⟨u, rfl⟩, by rw [← hc]; exact h⟩
      case skip => exact ⟨⟨_, rfl⟩, by rw [← hc]; exact h⟩
      case enter => exact Calls.mono h (fun e w ⟨u, he, hk⟩ => ⟨u, he, ⟨u, rfl⟩, by rw [← hc]; exact hk⟩)
      case row => exact Rows.mono h (fun u w hk => ⟨⟨u, rfl⟩, by rw [← hc]; exact hk⟩)
      case round => exact RoundIn.mono h (fun e w ⟨u, he, hk⟩ => ⟨u, he, ⟨u, rfl⟩, by rw [← hc]; exact hk⟩)
    | halt x w' => simp only [upI] at h
  · rename_i hw
    rw [if_neg hw]
    exact ⟨⟨_, rfl⟩, by rw [← Act.put_comm a v undef h2]; exact h⟩

theorem AnyI.take {i : Nat} {oi : Oper} {v : Value} (hi : ops[i]? = some oi) (hs : Region.noSelect ops = true) : ∀ (f : Nat) (listed : Array Bool) (a : Act) (w : World),
    (∀ j oj, ops[j]? = some oj → j ≠ i → listed.getD j true = false → (∀ e ∈ oj.after, Region.binds .any e = true → e.on ≠ i) → oi.apart ops oj = true) →
    i ∈ Region.ready .any ops listed →
    ((Region.wanted oi (yielded ops a.tmps) = true ∧ ∀ w', S w' → (execOp a.eval oi).run P w' = .ok (.value v) w') ∨ (Region.wanted oi (yielded ops a.tmps) = false ∧ v = undef)) → S w →
    AnyI P ops S K f (listed.setIfInBounds i true) (a.put oi.dst v) w → AnyI P ops S K (f + 1) listed a w := by
  have own : ∀ {K : Act → World → Prop} {a : Act} {w : World},
      ((Region.wanted oi (yielded ops a.tmps) = true ∧ ∀ w', S w' → (execOp a.eval oi).run P w' = .ok (.value v) w') ∨ (Region.wanted oi (yielded ops a.tmps) = false ∧ v = undef)) → S w → K (a.put oi.dst v) w → opI P ops i K a w := by
    intro K a w hy hS hk
    unfold opI
    rw [hi]
    dsimp only
    rcases hy with ⟨hw, hv⟩ | ⟨hw, rfl⟩
    · rw [if_pos hw]; unfold OpI; rw [hv w hS]; exact hk
    · rw [if_neg (by simp [hw])]; exact hk
  intro f
  induction f with
  | zero =>
    intro listed a w _ hr hy hS H
    refine ⟨fun h0 => absurd (h0 ▸ hr) (by simp), fun j hj => ?_⟩
    by_cases e : j = i
    · subst e; exact own hy hS ⟨hS, H⟩
    · exact absurd (H.1 ▸ ready_mono (i := i) hj e) (by simp)
  | succ f ih =>
    intro listed a w hfree hr hy hS H
    refine ⟨fun h0 => absurd (h0 ▸ hr) (by simp), fun j hj => ?_⟩
    by_cases e : j = i
    · subst e; exact own hy hS ⟨hS, H⟩
    · obtain ⟨hu, oj, hoj, hall⟩ := mem_ready.1 hj
      have hno : ∀ e ∈ oj.after, Region.binds .any e = true → e.on ≠ i := fun e he hb heq => by
        have k1 := hall e he hb
        have k0 := (mem_ready.1 hr).1
        rw [heq] at k1
        by_cases hlt : i < listed.size
        · simp [hlt] at k0 k1; simp [k0] at k1
        · simp [Array.getElem?_eq_none (Nat.le_of_not_lt hlt)] at k1
      have hap := hfree j oj hoj e hu hno
      obtain ⟨_, _, h3⟩ := Oper.apart_spec hap
      refine opI_mono (fun a' w' hk => ?_) (opI_put hoj hap (fun cs b => Region.noSelect_spec hs j oj cs b hoj) (H.2 j (ready_mono hj e)))
      obtain ⟨⟨u, rfl⟩, hS', hk⟩ := hk
      refine ⟨hS', ih _ _ w' (fun k ok hk' hki hun hno' => hfree k ok hk' hki ?_ hno') (ready_mono hr (Ne.symm e)) ?_ hS' (by rw [Array.setIfInBounds_comm _ _ e]; exact hk)⟩
      · by_cases hjk : j = k
        · subst hjk; exact hu
        · rwa [getD_set_ne true hjk] at hun
      · rw [wanted_put oi a oj.dst u h3, execOp_put oi (fun cs b => Region.noSelect_spec hs i oi cs b hi) a oj.dst u h3]
        exact hy

theorem planI_sound (hs : Region.noSelect ops = true) : ∀ (p : Plan) (f : Nat) (listed : Array Bool) (rs : Option (List Nat)) (a : Act) (w : World), planOk ops p f listed rs = true → S w → PWI P ops S K p a w →
      (rs = none → AnyI P ops S K f listed a w) ∧
      (∀ l, rs = some l → ∃ g, f = g + 1 ∧ ∀ i ∈ l, opI P ops i (fun a' w' => S w' ∧ AnyI P ops S K g (listed.setIfInBounds i true) a' w') a w) := by
  intro p
  induction p with
  | done =>
    intro f listed rs a w hok hS h
    simp only [planOk, Bool.and_eq_true, List.isEmpty_iff, Option.isNone_iff_eq_none] at hok
    obtain ⟨h1, h2⟩ := hok
    subst h1
    refine ⟨fun _ => ?_, fun l hl => by cases hl⟩
    cases f with
    | zero => exact ⟨h2, h⟩
    | succ f => exact ⟨fun _ => h, by rw [h2]; simp⟩
  | st fl i p ih =>
    intro f listed rs a w hok hS h
    cases f with
    | zero => cases fl <;> simp [planOk] at hok
    | succ f =>
      cases fl with
      | true =>
        simp only [planOk, Bool.and_eq_true, Option.isNone_iff_eq_none] at hok
        obtain ⟨⟨⟨h1, h2⟩, h3⟩, h4⟩ := hok
        subst h1
        refine ⟨fun _ => ?_, fun l hl => by cases hl⟩
        unfold PWI at h
        split at h
        · exact h.elim
        · rename_i o ho
          split at h
          · rename_i hw
            obtain ⟨v, hv, hn⟩ := h
            exact AnyI.take ho hs f listed a w (Region.free_spec ho h3) (by simpa using h2) (.inl ⟨hw, hv⟩) hS ((ih f _ none _ w h4 hS hn).1 rfl)
          · rename_i hw
            exact AnyI.take ho hs f listed a w (Region.free_spec ho h3) (by simpa using h2) (.inr ⟨by simpa using hw, rfl⟩) hS ((ih f _ none _ w h4 hS h).1 rfl)
      | false =>
        simp only [planOk, Bool.and_eq_true, beq_iff_eq] at hok
        obtain ⟨h1, h2⟩ := hok
        have hk : opI P ops i (fun a' w' => S w' ∧ AnyI P ops S K f (listed.setIfInBounds i true) a' w') a w :=
          opI_mono (K := fun a' w' => S w' ∧ PWI P ops S K p a' w') (fun a' w' ⟨hS', h'⟩ => ⟨hS', (ih f _ none a' w' h2 hS' h').1 rfl⟩) (by unfold PWI at h; exact h)
        constructor
        · rintro rfl
          simp only [Option.getD_none] at h1
          exact ⟨fun h0 => absurd (h0.symm.trans h1) (by simp), fun j hj => by rw [h1] at hj; simp at hj; subst hj; exact hk⟩
        · rintro l rfl
          simp only [Option.getD_some] at h1
          subst h1
          exact ⟨f, rfl, fun j hj => by simp at hj; subst hj; exact hk⟩
  | alt i p q ihp ihq =>
    intro f listed rs a w hok hS h
    cases f with
    | zero => simp [planOk] at hok
    | succ f =>
      simp only [planOk, Bool.and_eq_true] at hok
      obtain ⟨h1, h2⟩ := hok
      unfold PWI at h
      obtain ⟨ha, hb⟩ := h
      have hk : opI P ops i (fun a' w' => S w' ∧ AnyI P ops S K f (listed.setIfInBounds i true) a' w') a w :=
        opI_mono (fun a' w' ⟨hS', h'⟩ => ⟨hS', (ihp f _ none a' w' h1 hS' h').1 rfl⟩) ha
      obtain ⟨f', ef, hq⟩ := (ihq (f + 1) listed _ a w h2 hS hb).2 _ rfl
      obtain rfl : f = f' := by omega
      have hall : ∀ j ∈ rs.getD (Region.ready .any ops listed), opI P ops j (fun a' w' => S w' ∧ AnyI P ops S K f (listed.setIfInBounds j true) a' w') a w := by
        intro j hj
        by_cases e : j = i
        · subst e; exact hk
        · exact hq j (by simp [hj, e])
      constructor
      · rintro rfl
        refine ⟨fun h0 => ?_, hall⟩
        exfalso
        simp only [Option.getD_none] at hq h2
        rw [h0] at h2
        have : ∀ (q : Plan) , planOk ops q (f + 1) listed (some []) = false := by
          intro q
          induction q with
          | done => simp [planOk]
          | st fl i p _ => cases fl <;> simp [planOk]
          | alt i p q _ ih => simp only [planOk, Option.getD_some, List.filter_nil, ih, Bool.and_false]
        simp [this] at h2
      · rintro l rfl
        exact ⟨f, rfl, hall⟩

theorem wpI_planned {ro : Option Nat} {id : Nat} {a : Act} {w : World} (p : Plan) (hm : P.follows .mixedOrders = true)
    (hok : (noDefer ops && (Region.noSelect ops && planOk ops p ops.size (Array.replicate ops.size false) none)) = true) (hS : S w.drew) (h : PWI P ops S K p a w.drew) : (Code.region id ops true).wpIn (fw ro) 0 P (NoExitN K) a w := by
  rw [Bool.and_eq_true, Bool.and_eq_true] at hok
  exact wpIn_region_any hm (AnyI.in_ hok.1 _ _ _ _ ((planI_sound hok.2.1 p _ _ none a w.drew hok.2.2 hS h).1 rfl))

theorem wpI_straight {ro : Option Nat} {id : Nat} {a : Act} {w : World} (hnd : noDefer ops = true) (h : PWI P ops S K (seqPlan 0 ops.size) a w) : (Code.region id ops false).wpIn (fw ro) 0 P (NoExitN K) a w := by
  have key : ∀ (k i : Nat) (a : Act) (w : World), PWI P ops S K (seqPlan i k) a w → wpOpsIn (fw ro) 0 P ops (NoExitN K) (List.range' i k) a w := by
    intro k
    induction k with
    | zero => intro i a w h; simpa [seqPlan, PWI, wpOpsIn, NoExitN] using h
    | succ k ih =>
      intro i a w h
      simp only [seqPlan, PWI] at h
      simp only [List.range'_succ]
      rw [wpOpsIn_cons]
      exact opI_in hnd (opI_mono (fun a' w' h' => ih _ a' w' h'.2) h)
  refine wpIn_region ?_
  rw [List.range_eq_range']
  exact key ops.size 0 a w h
end
end Go.Sx
end
section
/- Range over a function, part 2: code in whatever frame; marks among the deferred calls. No condition. -/
namespace Go.Sx
open Go

/-- The slots, and what is deferred. -/
structure EnvD (n : Nat) (ds : List Deferred) (l : List (Nat × Value)) (a : Act) : Prop where
  env : Env n l { a with defers := [] }
  defers : a.defers = ds

theorem EnvD.of {n : Nat} {ds : List Deferred} {l : List (Nat × Value)} {a : Act} (h : Env n l a) : EnvD n ds l { a with defers := ds } := ⟨⟨h.size, rfl, h.at_⟩, rfl⟩
theorem EnvD.sub {n : Nat} {ds : List Deferred} {l l' : List (Nat × Value)} {a : Act} (h : EnvD n ds l a) (hs : Sub l' l) : EnvD n ds l' a := ⟨h.env.sub hs, h.defers⟩
theorem eval_dropD (a : Act) : ({ a with defers := [] } : Act).eval = a.eval := by funext x; cases x <;> rfl
theorem EnvD.ev {n : Nat} {ds : List Deferred} {l : List (Nat × Value)} {a : Act} (h : EnvD n ds l a) {x : Operand} {v : Value} (hx : ev l x = some v) : a.eval x = v := by
  rw [← eval_dropD]; exact h.env.ev hx

structure SXI (P : Program) (ops : Array Oper) (S : World → Prop) (K : Act → World → Prop) (p : Plan) (n : Nat) (ds : List Deferred) (l : List (Nat × Value)) (C : World → Prop) : Prop where
  run : ∀ a w, EnvD n ds l a → C w → S w → PWI P ops S K p a w

section
variable {P : Program} {ops : Array Oper} {S : World → Prop} {K : Act → World → Prop} {p q : Plan} {n : Nat} {ds : List Deferred} {l : List (Nat × Value)} {C C' : World → Prop}

theorem SXI.done (h : ∀ a w, EnvD n ds l a → C w → K a w) : SXI P ops S K .done n ds l C := ⟨fun a w he hc _ => h a w he hc⟩

/-- A step of the plain walk. -/
theorem SXI.of1 {fl : Bool} {i : Nat} {X : Type} {l2 : X → List (Nat × Value)} {C2 : X → World → Prop} {pf : X → Prop}
    (h : ∀ K' : Act → World → Prop, (∀ x, pf x → ∀ a w, Env n (l2 x) a → C2 x w → K' a w) → SX P ops S K' (.st fl i .done) n l C)
    (hn : ∀ x, pf x → SXI P ops S K p n ds (l2 x) (C2 x)) : SXI P ops S K (.st fl i p) n ds l C := by
  refine ⟨fun a w he hc hs => ?_⟩
  have h1 := (h (fun a w => ∃ x, pf x ∧ Env n (l2 x) a ∧ C2 x w) (fun x hp a w h1 h2 => ⟨x, hp, h1, h2⟩)).run _ w he.env hc hs
  have key : ∀ a' w', S w' → (∃ x, pf x ∧ Env n (l2 x) a' ∧ C2 x w') → PWI P ops S K p { a' with defers := ds } w' := fun a' w' hS ⟨x, hp, h1, h2⟩ => (hn x hp).run _ w' (EnvD.of h1) h2 hS
  have hput : ∀ (o : Oper) v, { ({ a with defers := [] } : Act).put o.dst v with defers := ds } = a.put o.dst v := fun o v => by
    have := he.defers; subst this; cases o.dst <;> rfl
  cases fl with
  | true =>
    simp only [PW] at h1
    simp only [PWI]
    cases ho : ops[i]? with
    | none => rw [ho] at h1; exact h1.elim
    | some o =>
      rw [ho] at h1
      dsimp only at h1 ⊢
      by_cases hw : Region.wanted o (yielded ops a.tmps) = true
      · rw [if_pos hw] at h1 ⊢
        obtain ⟨v, hv, hk⟩ := h1
        rw [eval_dropD] at hv
        exact ⟨v, hv, by rw [← hput]; exact key _ _ hs hk⟩
      · rw [if_neg hw] at h1 ⊢
        rw [← hput]; exact key _ _ hs h1
  | false =>
    simp only [PW] at h1
    simp only [PWI, opI]
    cases ho : ops[i]? with
    | none => rw [ho] at h1; exact h1.elim
    | some o =>
      rw [ho] at h1
      dsimp only at h1 ⊢
      by_cases hw : Region.wanted o (yielded ops a.tmps) = true
      · rw [if_pos hw] at h1 ⊢
        exact OpI.of_wp ds h1 (fun a' w' ⟨hS, hk⟩ => ⟨by obtain ⟨x, _, h2, _⟩ := hk; exact h2.defers, hS, key _ _ hS hk⟩) he.defers
      · rw [if_neg hw] at h1 ⊢
        rw [← hput]; exact ⟨hs, key _ _ hs h1⟩
theorem SXI.of {fl : Bool} {i : Nat} {l2 : List (Nat × Value)} {C2 : World → Prop} (h : ∀ K' : Act → World → Prop, (∀ a w, Env n l2 a → C2 w → K' a w) → SX P ops S K' (.st fl i .done) n l C)
    (hn : SXI P ops S K p n ds l2 C2) : SXI P ops S K (.st fl i p) n ds l C :=
  SXI.of1 (X := Unit) (l2 := fun _ => l2) (C2 := fun _ => C2) (pf := fun _ => True) (fun K' hK => h K' (hK () trivial)) (fun _ _ => hn)

theorem SXI.of2 {fl : Bool} {i : Nat} {X Y : Type} {l2 : X → Y → List (Nat × Value)} {C2 : X → Y → World → Prop} {pf : X → Y → Prop}
    (h : ∀ K' : Act → World → Prop, (∀ x y, pf x y → ∀ a w, Env n (l2 x y) a → C2 x y w → K' a w) → SX P ops S K' (.st fl i .done) n l C)
    (hn : ∀ x y, pf x y → SXI P ops S K p n ds (l2 x y) (C2 x y)) : SXI P ops S K (.st fl i p) n ds l C :=
  SXI.of1 (X := X × Y) (l2 := fun x => l2 x.1 x.2) (C2 := fun x => C2 x.1 x.2) (pf := fun x => pf x.1 x.2) (fun K' hK => h K' (fun x y => hK (x, y))) (fun x => hn x.1 x.2)

theorem SXI.alt {i : Nat} (h1 : SXI P ops S K (.st false i p) n ds l C) (h2 : SXI P ops S K q n ds l C) : SXI P ops S K (.alt i p q) n ds l C :=
  ⟨fun a w he hc hs => ⟨by have := h1.run a w he hc hs; unfold PWI at this; exact this, h2.run a w he hc hs⟩⟩
theorem SXI.weaken {l' : List (Nat × Value)} (hl : SubL l' l) (hC : ∀ w, C w → C' w) (h : SXI P ops S K p n ds l' C') : SXI P ops S K p n ds l C :=
  ⟨fun a w he hc hs => h.run a w (he.sub hl.sub) (hC w hc) hs⟩
theorem SXI.inC (h : ∀ w, C w → SXI P ops S K p n ds l C) : SXI P ops S K p n ds l C := ⟨fun a w he hc hs => (h w hc).run a w he hc hs⟩
theorem SXI.fact {F : Prop} (hF : ∀ w, C w → F) (h : F → SXI P ops S K p n ds l C) : SXI P ops S K p n ds l C := ⟨fun a w he hc hs => (h (hF w hc)).run a w he hc hs⟩
theorem SXI.bool (t : Nat) {b : Bool} (ht : lk t l = some (.bool b)) (h1 : b = true → SXI P ops S K p n ds (ins t (.bool true) l) C) (h2 : b = false → SXI P ops S K p n ds (ins t (.bool false) l) C) : SXI P ops S K p n ds l C := by
  refine ⟨fun a w he hc hs => ?_⟩
  have key : ∀ u, lk t l = some u → EnvD n ds (ins t u l) a := fun u hu => ⟨⟨he.env.size, rfl, fun s v hv => by
    rw [lk_ins] at hv
    by_cases e : s = t
    · subst e; simp at hv; subst hv; exact he.env.at_ _ _ hu
    · rw [if_neg e] at hv; exact he.env.at_ _ _ hv⟩, he.defers⟩
  cases b with
  | true => exact (h1 rfl).run a w (key _ ht) hc hs
  | false => exact (h2 rfl).run a w (key _ ht) hc hs

/-- An operation that calls yield. -/
theorem SXI.yield {i : Nat} {d : Option Nat} {op : Op} {ty : TypeId} {X : Type} {v : X → Value} {pf : X → Prop} {C' : X → World → Prop} (ho : opAt ops n l i = some (d, op, ty))
    (hrun : ∀ a w (o : Oper), Env n l a → C w → o.op = op → o.type = ty → ∃ lr fn tmps assign body w', (execOp a.eval o).run P w = .ok (.round lr fn tmps assign body) w' ∧
      RoundIn Fence.wide 0 P lr fn tmps assign body w' (fun e w'' => ∃ x, e = .returned (v x) ∧ pf x ∧ C' x w''))
    (hS : ∀ x w, C' x w → S w)
    (h : ∀ x, pf x → SXI P ops S K p n ds (insO d (v x) l) (C' x)) : SXI P ops S K (.st false i p) n ds l C := by
  refine ⟨fun a w he hc _ => ?_⟩
  unfold opAt at ho
  split at ho
  · rename_i o hoi
    by_cases hb : (wantB ops l o.guard && okD n o.dst) = true
    · rw [hb] at ho
      simp only [cond_true, Option.some.injEq, Prod.mk.injEq] at ho
      obtain ⟨rfl, rfl, rfl⟩ := ho
      rw [Bool.and_eq_true] at hb
      obtain ⟨lr, fn, tmps, assign, body, w', hr, hR⟩ := hrun _ w o he.env hc rfl rfl
      rw [eval_dropD] at hr
      have hw : Region.wanted o (yielded ops a.tmps) = true := wanted_of he.env hb.1
      simp only [PWI, opI, hoi, hw, if_true, OpI, hr, upI]
      refine RoundIn.mono hR ?_
      rintro e w'' ⟨x, rfl, hp, hC⟩
      refine ⟨_, rfl, hS x w'' hC, (h x hp).run _ w'' ?_ hC (hS x w'' hC)⟩
      have h2 := he.env.putO hb.2 (v x)
      have h3 : a.put o.dst (v x) = { ({ a with defers := [] } : Act).put o.dst (v x) with defers := ds } := by have := he.defers; subst this; cases o.dst <;> rfl
      rw [h3]; exact EnvD.of h2
    · have : (wantB ops l o.guard && okD n o.dst) = false := by simpa using hb
      rw [this] at ho
      cases ho
  · cases ho
end

/-! ### Code -/
def KtI (P : Program) (ro : Option Nat) (Rx : Exit → Act → World → Prop) : List KI → Exit → Act → World → Prop
  | [] => Rx
  | .code y :: k => fun e a w => match e with
    | .normal => y.wpIn (fw ro) 0 P (KtI P ro Rx k) a w
    | e => KtI P ro Rx k e a w
  | .blk id :: k => fun e a w => match e with
    | .exit id' => if id' = id then KtI P ro Rx k .normal a w else KtI P ro Rx k (.exit id') a w
    | e => KtI P ro Rx k e a w
  | .lp I :: k => fun e a w => match e with
    | .normal => I a w
    | e => KtI P ro Rx k e a w

section
variable {P : Program} {ro : Option Nat} {Rx : Exit → Act → World → Prop}
theorem KtI_ret : ∀ (k : List KI) {a : Act} {w : World}, Rx .ret a w → KtI P ro Rx k .ret a w
  | [], _, _, h => h
  | .code _ :: k, _, _, h => KtI_ret k h
  | .blk _ :: k, _, _, h => KtI_ret k h
  | .lp _ :: k, _, _, h => KtI_ret k h
theorem KtI_exit {id : Nat} : ∀ {k k' : List KI} {a : Act} {w : World}, popTo id k = some k' → KtI P ro Rx k' .normal a w → KtI P ro Rx k (.exit id) a w
  | [], _, _, _, h, _ => by simp [popTo] at h
  | .blk i :: k, k', a, w, h, hk => by
    unfold popTo at h
    simp only [KtI]
    by_cases e : i = id
    · subst e
      simp at h
      subst h
      simpa using hk
    · have h1 : Nat.beq i id = false := beq_ne e
      rw [h1] at h
      rw [if_neg (Ne.symm e)]
      exact KtI_exit (k := k) h hk
  | .code _ :: k, _, _, _, h, hk => KtI_exit (k := k) h hk
  | .lp _ :: k, _, _, _, h, hk => KtI_exit (k := k) h hk
/-- An exit that nothing in the frame catches. -/
theorem KtI_out {id : Nat} : ∀ {k : List KI} {a : Act} {w : World}, popTo id k = none → Rx (.exit id) a w → KtI P ro Rx k (.exit id) a w
  | [], _, _, _, h => h
  | .blk i :: k, a, w, h, hk => by
    unfold popTo at h
    simp only [KtI]
    by_cases e : i = id
    · subst e; simp at h
    · have h1 : Nat.beq i id = false := beq_ne e
      rw [h1] at h
      rw [if_neg (Ne.symm e)]
      exact KtI_out (k := k) h hk
  | .code _ :: k, _, _, h, hk => KtI_out (k := k) h hk
  | .lp _ :: k, _, _, h, hk => KtI_out (k := k) h hk
end

structure CWI (P : Program) (ro : Option Nat) (Rx : Exit → Act → World → Prop) (k : List KI) (c : Code) (n : Nat) (ds : List Deferred) (l : List (Nat × Value)) (C : World → Prop) : Prop where
  run : ∀ a w, EnvD n ds l a → C w → c.wpIn (fw ro) 0 P (KtI P ro Rx k) a w
structure KNI (P : Program) (ro : Option Nat) (Rx : Exit → Act → World → Prop) (k : List KI) (n : Nat) (ds : List Deferred) (l : List (Nat × Value)) (C : World → Prop) : Prop where
  run : ∀ a w, EnvD n ds l a → C w → KtI P ro Rx k .normal a w

section
variable {P : Program} {ro : Option Nat} {Rx : Exit → Act → World → Prop} {k : List KI} {n : Nat} {ds : List Deferred} {l l' : List (Nat × Value)} {C C' : World → Prop} {c x y : Code}

theorem CWI.seq (h : CWI P ro Rx (.code y :: k) x n ds l C) : CWI P ro Rx k (.seq x y) n ds l C :=
  ⟨fun a w he hc => wpIn_seq (wpIn_mono (h.run a w he hc) (fun e a w hk => by cases e <;> exact hk))⟩
theorem CWI.block {id : Nat} (h : CWI P ro Rx (.blk id :: k) c n ds l C) : CWI P ro Rx k (.block id c) n ds l C :=
  ⟨fun a w he hc => wpIn_block (wpIn_mono (h.run a w he hc) (fun e a w hk => by cases e <;> exact hk))⟩
theorem CWI.skip (h : KNI P ro Rx k n ds l C) : CWI P ro Rx k .skip n ds l C := ⟨fun a w he hc => wpIn_skip (h.run a w he hc)⟩
theorem CWI.label {i : Nat} (h : KNI P ro Rx k n ds l C) : CWI P ro Rx k (.label i) n ds l C := ⟨fun a w he hc => wpIn_label (h.run a w he hc)⟩
theorem CWI.ret (h : ∀ a w, EnvD n ds l a → C w → Rx .ret a w) : CWI P ro Rx k .ret n ds l C := ⟨fun a w he hc => wpIn_ret (KtI_ret k (h a w he hc))⟩
theorem CWI.exit {id : Nat} {k' : List KI} (hp : popTo id k = some k') (h : KNI P ro Rx k' n ds l C) : CWI P ro Rx k (.exit id) n ds l C :=
  ⟨fun a w he hc => wpIn_exit (KtI_exit hp (h.run a w he hc))⟩
theorem CWI.out {id : Nat} (hp : popTo id k = none) (h : ∀ a w, EnvD n ds l a → C w → Rx (.exit id) a w) : CWI P ro Rx k (.exit id) n ds l C :=
  ⟨fun a w he hc => wpIn_exit (KtI_out hp (h a w he hc))⟩
theorem CWI.cond {o : Operand} {b : Bool} (ho : ev l o = some (.bool b)) (h1 : b = true → CWI P ro Rx k x n ds l C) (h2 : b = false → CWI P ro Rx k y n ds l C) : CWI P ro Rx k (.cond o x y) n ds l C :=
  ⟨fun a w he hc => wpIn_cond_split (he.ev ho) (fun e => (h1 e).run a w he hc) (fun e => (h2 e).run a w he hc)⟩
theorem CWI.condT {o : Operand} (ho : ev l o = some (.bool true)) (h1 : CWI P ro Rx k x n ds l C) : CWI P ro Rx k (.cond o x y) n ds l C :=
  CWI.cond ho (fun _ => h1) (fun e => by cases e)
theorem CWI.condF {o : Operand} (ho : ev l o = some (.bool false)) (h1 : CWI P ro Rx k y n ds l C) : CWI P ro Rx k (.cond o x y) n ds l C :=
  CWI.cond ho (fun e => by cases e) (fun _ => h1)
theorem CWI.test {o : Operand} {p : Prop} [Decidable p] (ho : ev l o = some (.bool (decide p))) (h1 : p → CWI P ro Rx k x n ds l C) (h2 : ¬ p → CWI P ro Rx k y n ds l C) : CWI P ro Rx k (.cond o x y) n ds l C :=
  CWI.cond ho (fun e => h1 (of_decide_eq_true e)) (fun e => h2 (of_decide_eq_false e))
theorem CWI.weaken (l' : List (Nat × Value)) (C' : World → Prop) (hl : SubL l' l) (hC : ∀ w, C w → C' w) (h : CWI P ro Rx k c n ds l' C') : CWI P ro Rx k c n ds l C :=
  ⟨fun a w he hc => h.run a w (he.sub hl.sub) (hC w hc)⟩
theorem CWI.fact {F : Prop} (hF : ∀ w, C w → F) (h : F → CWI P ro Rx k c n ds l C) : CWI P ro Rx k c n ds l C := ⟨fun a w he hc => (h (hF w hc)).run a w he hc⟩
theorem CWI.pre (hC : ∀ w, C w → C' w) (h : CWI P ro Rx k c n ds l C') : CWI P ro Rx k c n ds l C := ⟨fun a w he hc => h.run a w he (hC w hc)⟩
theorem CWI.ex {X : Type} {C' : X → World → Prop} (hC : ∀ w, C w → ∃ x, C' x w) (h : ∀ x, CWI P ro Rx k c n ds l (C' x)) : CWI P ro Rx k c n ds l C :=
  ⟨fun _ w he hc => let ⟨x, hx⟩ := hC w hc; (h x).run _ w he hx⟩

theorem KNI.code (h : CWI P ro Rx k y n ds l C) : KNI P ro Rx (.code y :: k) n ds l C := ⟨fun a w he hc => h.run a w he hc⟩
theorem KNI.blk {id : Nat} (h : KNI P ro Rx k n ds l C) : KNI P ro Rx (.blk id :: k) n ds l C := ⟨fun a w he hc => h.run a w he hc⟩
theorem KNI.weaken (l' : List (Nat × Value)) (C' : World → Prop) (hl : SubL l' l) (hC : ∀ w, C w → C' w) (h : KNI P ro Rx k n ds l' C') : KNI P ro Rx k n ds l C :=
  ⟨fun a w he hc => h.run a w (he.sub hl.sub) (hC w hc)⟩
theorem KNI.fact {F : Prop} (hF : ∀ w, C w → F) (h : F → KNI P ro Rx k n ds l C) : KNI P ro Rx k n ds l C := ⟨fun a w he hc => (h (hF w hc)).run a w he hc⟩

/-- A loop: 'G': the states of the rounds. -/
theorem wpI_loop_ghost {G : Type} {Q : Exit → Act → World → Prop} (I : G → Act → World → Prop) (μ : G → Nat)
    (round : ∀ g a w, I g a w → c.wpIn (fw ro) 0 P (Exit.then (fun a' w' => ∃ g', I g' a' w' ∧ μ g' < μ g) Q) a w) (g₀ : G) {a : Act} {w : World} (h₀ : I g₀ a w) : (Code.loop c).wpIn (fw ro) 0 P Q a w := by
  classical
  have ex : ∀ a w, (∃ g, I g a w) → ∃ m, (∃ g, I g a w ∧ μ g = m) ∧ ∀ g, I g a w → m ≤ μ g := by
    intro a w ⟨g, hg⟩
    have key : ∀ (m : Nat) (g : G), μ g = m → I g a w → ∃ m, (∃ g, I g a w ∧ μ g = m) ∧ ∀ g, I g a w → m ≤ μ g := by
      intro m
      induction m using Nat.strongRecOn with
      | _ m ih =>
        intro g hm hI
        by_cases h : ∃ g', I g' a w ∧ μ g' < m
        · obtain ⟨g', h1, h2⟩ := h
          exact ih _ h2 g' rfl h1
        · exact ⟨m, ⟨g, hI, hm⟩, fun g' hg' => Nat.le_of_not_lt (fun hlt => h ⟨g', hg', hlt⟩)⟩
    exact key _ g rfl hg
  let ν : Act → World → Nat := fun a w => if h : ∃ g, I g a w then Classical.choose (ex a w h) else 0
  have hν : ∀ a w (h : ∃ g, I g a w), (∃ g, I g a w ∧ μ g = ν a w) ∧ ∀ g, I g a w → ν a w ≤ μ g := fun a w h => by
    simp only [ν, dif_pos h]; exact Classical.choose_spec (ex a w h)
  refine wpIn_loop (fun a w => ∃ g, I g a w) ν ⟨g₀, h₀⟩ (fun a w hI => ?_)
  obtain ⟨⟨g, hg, hm⟩, _⟩ := hν a w hI
  refine wpIn_mono (round g a w hg) (fun e a' w' hq => ?_)
  cases e <;> first | exact hq | (obtain ⟨g', h1, h2⟩ := hq; exact ⟨⟨g', h1⟩, Nat.lt_of_le_of_lt ((hν a' w' ⟨g', h1⟩).2 g' h1) (hm ▸ h2)⟩)

structure BackI {G : Type} (n : Nat) (df : G → List Deferred) (lf : G → List (Nat × Value)) (Cf : G → World → Prop) (pf : G → Prop) (μ : G → Nat) (m : Nat) (a : Act) (w : World) : Prop where
  back : ∃ g', (EnvD n (df g') (lf g') a ∧ Cf g' w ∧ pf g') ∧ μ g' < m

theorem CWI.loop {G : Type} (df : G → List Deferred) (lf : G → List (Nat × Value)) (Cf : G → World → Prop) (pf : G → Prop) (μ : G → Nat) (g₀ : G) (hd : df g₀ = ds) (hl : SubL (lf g₀) l) (hC : ∀ w, C w → Cf g₀ w) (hp : pf g₀)
    (hr : ∀ g, pf g → CWI P ro Rx (.lp (BackI n df lf Cf pf μ (μ g)) :: k) c n (df g) (lf g) (Cf g)) : CWI P ro Rx k (.loop c) n ds l C := by
  refine ⟨fun a w he hc => ?_⟩
  refine wpI_loop_ghost (fun g a w => EnvD n (df g) (lf g) a ∧ Cf g w ∧ pf g) μ (fun g a w hg => ?_) g₀ ⟨hd ▸ he.sub hl.sub, hC w hc, hp⟩
  exact wpIn_mono ((hr g hg.2.2).run a w hg.1 hg.2.1) (fun e a' w' hk => by cases e <;> first | exact hk | exact hk.back)
theorem KNI.back {G : Type} {df : G → List Deferred} {lf : G → List (Nat × Value)} {Cf : G → World → Prop} {pf : G → Prop} {μ : G → Nat} {m : Nat} (g' : G) (hd : df g' = ds) (hl : SubL (lf g') l) (hC : ∀ w, C w → Cf g' w) (hp : pf g') (hm : μ g' < m) :
    KNI P ro Rx (.lp (BackI n df lf Cf pf μ m) :: k) n ds l C := ⟨fun _ w he hc => ⟨g', ⟨hd ▸ he.sub hl.sub, hC w hc, hp⟩, hm⟩⟩

structure JoinI {G : Type} (n : Nat) (ds : List Deferred) (lf : G → List (Nat × Value)) (Cf : G → World → Prop) (pf : G → Prop) (a : Act) (w : World) : Prop where
  join : ∃ g, EnvD n ds (lf g) a ∧ Cf g w ∧ pf g
theorem CWI.cut {G : Type} (lf : G → List (Nat × Value)) (Cf : G → World → Prop) (pf : G → Prop) (hx : CWI P ro Rx (.lp (JoinI n ds lf Cf pf) :: k) x n ds l C) (hy : ∀ g, pf g → CWI P ro Rx k y n ds (lf g) (Cf g)) : CWI P ro Rx k (.seq x y) n ds l C :=
  ⟨fun a w he hc => wpIn_seq (wpIn_mono (hx.run a w he hc) (fun e a w hk => by
    cases e <;> first | exact hk | (obtain ⟨g, h1, h2, h3⟩ := hk.join; exact (hy g h3).run a w h1 h2)))⟩
theorem KNI.join {G : Type} {lf : G → List (Nat × Value)} {Cf : G → World → Prop} {pf : G → Prop} (g : G) (hl : SubL (lf g) l) (hC : ∀ w, C w → Cf g w) (hp : pf g) : KNI P ro Rx (.lp (JoinI n ds lf Cf pf) :: k) n ds l C :=
  ⟨fun _ w he hc => ⟨g, he.sub hl.sub, hC w hc, hp⟩⟩

theorem CWI.reg {id : Nat} {ops : Array Oper} (is : List Nat) (hi : sp is = seqPlan 0 ops.size) (hnd : noDefer ops = true) (h : SXI P ops (fun _ => True) (KtI P ro Rx k .normal) (sp is) n ds l C) : CWI P ro Rx k (.region id ops false) n ds l C :=
  ⟨fun a w he hc => wpIn_mono (wpI_straight hnd (by rw [← hi]; exact h.run a w he hc trivial)) (fun e a w hk => by cases e <;> first | exact hk | exact hk.elim)⟩
theorem CWI.regD {id : Nat} {ops : Array Oper} (p : Plan) (S : World → Prop) (hm : P.follows .mixedOrders = true) (hok : (noDefer ops && (Region.noSelect ops && planOk ops p ops.size (Array.replicate ops.size false) none)) = true)
    (hd : ∀ w, C w → C w.drew) (hS : ∀ w, C w → S w) (h : SXI P ops S (KtI P ro Rx k .normal) p n ds l C) : CWI P ro Rx k (.region id ops true) n ds l C :=
  ⟨fun a w he hc => wpIn_mono (wpI_planned p hm hok (hS _ (hd w hc)) (h.run a w.drew he (hd w hc) (hS _ (hd w hc)))) (fun e a w hk => by cases e <;> first | exact hk | exact hk.elim)⟩
theorem SXI.end_ {ops : Array Oper} {S : World → Prop} (h : KNI P ro Rx k n ds l C) : SXI P ops S (KtI P ro Rx k .normal) .done n ds l C := SXI.done h.run
theorem SXI.next {ops : Array Oper} {S : World → Prop} (h : CWI P ro Rx k y n ds l C) : SXI P ops S (KtI P ro Rx (.code y :: k) .normal) .done n ds l C := SXI.done h.run

/-- A function that holds such loops. -/
theorem calls_ofI {f : FuncId} {fn : Func} {args : List Value} {w : World} {R : Ending → World → Prop} (hf : P.funcs[f]? = some fn) (hb : fn.body = some c) (hn : fn.ntmps = n) (hlen : Nat.ble args.length n = true) (hw : C w)
    (h : CWI P none (bodyPostM Fence.wide 0 P fn R) [] c n [] (argEnv 0 args) C) : Calls P f args.toArray w R := by
  replace hlen : args.length ≤ n := Nat.le_of_ble_eq_true hlen
  refine (callsIn_wide (n := 0)).1 (callsIn_of_wp_marks hf hb trivial ?_)
  refine wpIn_mono (h.run _ w ⟨⟨by simp [hn]; omega, rfl, fun t v ht => ?_⟩, rfl⟩ hw) (fun e a w hk => hk)
  obtain ⟨_, h2⟩ := lk_argEnv args 0 t v ht
  simp only [Nat.sub_zero] at h2
  have hlt : t < args.length := by
    rcases Nat.lt_or_ge t args.length with h | h
    · exact h
    · rw [List.getElem?_eq_none h] at h2; cases h2
  rw [List.getElem?_eq_getElem hlt, Option.some.injEq] at h2
  simp [Array.getElem?_append, hlt, h2]
end
end Go.Sx
end
section
/- Range over a function, part 3: the statement, yield, the return; memory in parts. No condition. -/
namespace Go.Sx
open Go

/-! ### Parts -/
def objB (g : Nat) (o : Obj) : Atom where
  ok w D := (∀ k, D k ↔ k = g) ∧ w.heap[g]? = some o
  loc := fun ⟨h1, h2⟩ hb => ⟨h1, (hb _ ((h1 _).2 rfl)).trans h2⟩
def exA {G : Type} (f : G → Atom) : Atom where
  ok w D := ∃ g, (f g).ok w D
  loc := fun ⟨g, h⟩ hb => ⟨g, (f g).loc h hb⟩
def starOk : List Atom → World → (Nat → Prop) → Prop
  | [], _, D => ∀ k, ¬ D k
  | A :: L, w, D => ∃ D1 D2 : Nat → Prop, A.ok w D1 ∧ starOk L w D2 ∧ (∀ k, D k ↔ D1 k ∨ D2 k) ∧ ∀ k, D1 k → ¬ D2 k
theorem starOk_loc : ∀ (L : List Atom) {w w' : World} {D : Nat → Prop}, starOk L w D → (∀ k, D k → w'.heap[k]? = w.heap[k]?) → starOk L w' D
  | [], _, _, _, h, _ => h
  | A :: L, _, _, _, ⟨D1, D2, h1, h2, h3, h4⟩, hb => ⟨D1, D2, A.loc h1 (fun k hk => hb k ((h3 k).2 (.inl hk))), starOk_loc L h2 (fun k hk => hb k ((h3 k).2 (.inr hk))), h3, h4⟩
def starA (L : List Atom) : Atom where
  ok w D := starOk L w D
  loc := fun h hb => starOk_loc L h hb

section
variable {F : Nat → Prop} {w₀ w : World} {L L' X Y Z : List Atom}
theorem Sep.star : ∀ (X : List Atom) {F : Nat → Prop}, Sep F (X ++ L) w ↔ Sep F (starA X :: L) w
  | [], F => ⟨fun h => ⟨fun _ => False, fun _ => id, fun _ hk => hk.elim, h.weak (fun k hk => hk.resolve_right id)⟩, fun ⟨D, h1, _, h3⟩ => Sep.weak h3 (fun _ => .inl)⟩
  | A :: X, F => by
    constructor
    · rintro ⟨D1, h1, h2, h3⟩
      obtain ⟨D2, k1, k2, k3⟩ := (Sep.star X).1 h3
      refine ⟨fun k => D1 k ∨ D2 k, ⟨D1, D2, h1, k1, fun _ => Iff.rfl, fun k hk hk' => (k2 k hk').1 (.inr hk)⟩, ?_, k3.weak ?_⟩
      · rintro k (hk | hk)
        · exact h2 k hk
        · exact ⟨fun hf => (k2 k hk).1 (.inl hf), (k2 k hk).2⟩
      · rintro k (hk | hk | hk)
        · exact .inl (.inl hk)
        · exact .inl (.inr hk)
        · exact .inr hk
    · rintro ⟨D, ⟨D1, D2, h1, h2, h3, h4⟩, k2, k3⟩
      refine ⟨D1, h1, fun k hk => k2 k ((h3 k).2 (.inl hk)), (Sep.star X).2 ⟨D2, h2, fun k hk => ⟨?_, (k2 k ((h3 k).2 (.inr hk))).2⟩, k3.weak ?_⟩⟩
      · rintro (hf | hf)
        · exact (k2 k ((h3 k).2 (.inr hk))).1 hf
        · exact h4 k hf hk
      · rintro k ((hk | hk) | hk)
        · exact .inl hk
        · exact .inr ((h3 k).2 (.inl hk))
        · exact .inr ((h3 k).2 (.inr hk))
theorem Sep.congr {A : Atom} (h : ∀ F : Nat → Prop, Sep F L w ↔ Sep F L' w) : Sep F (A :: L) w ↔ Sep F (A :: L') w :=
  ⟨fun ⟨D, h1, h2, h3⟩ => ⟨D, h1, h2, (h _).1 h3⟩, fun ⟨D, h1, h2, h3⟩ => ⟨D, h1, h2, (h _).2 h3⟩⟩
theorem Sep.star3 : Sep F (X ++ (Y ++ Z)) w ↔ Sep F [starA X, starA Y, starA Z] w :=
  (Sep.star X).trans (Sep.congr fun _ => (Sep.star Y).trans (Sep.congr fun _ => by have := Sep.star (L := []) (w := w) Z (F := ‹_›); rwa [List.append_nil] at this))
theorem Sep.perm (h : L.Perm L') : ∀ {F : Nat → Prop}, Sep F L w → Sep F L' w := by
  induction h with
  | nil => exact id
  | cons A _ ih => exact fun ⟨D, h1, h2, h3⟩ => ⟨D, h1, h2, ih h3⟩
  | swap A B _ => exact fun h => h.swap
  | trans _ _ ih1 ih2 => exact fun h => ih2 (ih1 h)
theorem St.sep' (h : St F w₀ L w) (h2 : Sep F L w → Sep F L' w) : St F w₀ L' w := ⟨h.fr, h.lt, h2 h.sep⟩
theorem St.perm (hp : L.Perm L') (h : St F w₀ L w) : St F w₀ L' w := h.sep' (Sep.perm hp)
theorem St.star (X : List Atom) : St F w₀ (X ++ L) w ↔ St F w₀ (starA X :: L) w := ⟨fun h => h.sep' (Sep.star X).1, fun h => h.sep' (Sep.star X).2⟩
theorem St.star3 : St F w₀ (X ++ (Y ++ Z)) w ↔ St F w₀ [starA X, starA Y, starA Z] w := ⟨fun h => h.sep' Sep.star3.1, fun h => h.sep' Sep.star3.2⟩
theorem St.starLast : St F w₀ (X ++ Y) w ↔ St F w₀ (X ++ [starA Y]) w := by
  have key : ∀ (X : List Atom) (F : Nat → Prop), Sep F (X ++ Y) w ↔ Sep F (X ++ [starA Y]) w := by
    intro X
    induction X with
    | nil => intro F; have := Sep.star (L := []) (w := w) Y (F := F); rwa [List.append_nil] at this
    | cons A X ih => intro F; exact Sep.congr ih
  exact ⟨fun h => h.sep' (key X F).1, fun h => h.sep' (key X F).2⟩
theorem St.exA {G : Type} {f : G → Atom} : St F w₀ (exA f :: L) w ↔ ∃ g, St F w₀ (f g :: L) w :=
  ⟨fun h => let ⟨D, ⟨g, h1⟩, h2, h3⟩ := h.sep; ⟨g, h.fr, h.lt, D, h1, h2, h3⟩, fun ⟨g, h⟩ => let ⟨D, h1, h2, h3⟩ := h.sep; ⟨h.fr, h.lt, D, ⟨g, h1⟩, h2, h3⟩⟩
theorem St.allocO (o : Obj) (h : St F w₀ L w) : St F w₀ (objB w.heap.size o :: L) (w.alloc o) :=
  h.join (L' := [objB w.heap.size o]) ⟨⟨rfl, rfl, rfl, by simp, fun k hk => Go.RowKit.Below.heap_alloc w _ k hk⟩, fun _ hk => hk,
    ⟨fun k => k = w.heap.size, ⟨fun k => Iff.rfl, World.alloc_heap_new w o⟩, fun k hk => ⟨by simp [Old]; omega, by simp; omega⟩, trivial⟩⟩
theorem St.objAt {g : Nat} {o : Obj} (h : St F w₀ (objB g o :: L) w) : w.heap[g]? = some o := let ⟨_, ⟨_, h2⟩, _⟩ := h.sep; h2
theorem St.putO {g : Nat} {o : Obj} (o' : Obj) (h : St F w₀ (objB g o :: L) w) : St F w₀ (objB g o' :: L) (w.putObj g o') := by
  obtain ⟨D, ⟨h1, h2⟩, h3, h4⟩ := h.work (i := 0) rfl
  have hlt := (Array.getElem?_eq_some_iff.1 h2).1
  have := h4 (w.putObj g o') (objB g o') D ⟨rfl, rfl, rfl, by simp, fun k hk => World.putObj_heap_other (fun e => hk.2 ((h1 k).2 e))⟩ ⟨h1, World.putObj_heap_same hlt⟩ (fun k hk => ⟨.inl hk, by simp; exact h3 k hk⟩)
  exact this
end

/-! ### Contracts -/
/-- What a call of yield does, of round i: the consumer's part turns from J i to J (i + 1), and it says true; or to Jx (i + 1), and it says false. -/
def YieldOK (P : Program) (w₀ : World) (lr : Nat) (vals : Nat → List Value) (N : Nat) (J Jx : Nat → Atom) : Prop :=
  ∀ i, i < N → ∀ A w, Sto w₀ (J i :: A) w → ∃ fn tmps assign body, (Instr.yield lr (vals i).toArray).run P w = .ok (.round lr fn tmps assign body) w ∧
    RoundIn Fence.wide 0 P lr fn tmps assign body w (fun e w' => ∃ b : Bool, e = .returned (.bool b) ∧ Sto w₀ ((if b then J (i + 1) else Jx (i + 1)) :: A) w')
/-- An iterator that tells 'vals', N of them, and keeps its part. -/
def IterC (P : Program) (w₀ : World) (gf : FuncId) (lb : List Value) (B : List Atom) (vals : Nat → List Value) (N : Nat) : Prop :=
  ∀ (lr : Nat) (J Jx : Nat → Atom) (R : Atom) (w : World), YieldOK P w₀ lr vals N J Jx → Sto w₀ (J 0 :: (B ++ [R])) w →
    Calls P gf (.func (.yield lr) #[] #[] :: lb).toArray w (fun e w' => ∃ v, e = .returned v ∧ (Sto w₀ (J N :: (B ++ [R])) w' ∨ ∃ i, i < N ∧ Sto w₀ (Jx (i + 1) :: (B ++ [R])) w'))

section
variable {P : Program} {ops : Array Oper} {S : World → Prop} {K : Act → World → Prop} {p : Plan} {n : Nat} {ds : List Deferred} {l : List (Nat × Value)} {i : Nat} {ty : TypeId} {x : Operand} {w₀ : World} {A : List Atom}
theorem s_yield (d q : Nat) {as1 : Array Operand} {ts : Array TypeId} {lr : Nat} {vals : Nat → List Value} {N i₀ : Nat} {J Jx : Nat → Atom} (hY : YieldOK P w₀ lr vals N J Jx) (hi : i₀ < N) (hJ : A[q]? = some (J i₀))
    (ho : opAt ops n l i = some (some d, .call ⟨.value x, as1, ts⟩, ty)) (hx : ev l x = some (.func (.yield lr) #[] #[])) (has : evs l as1.toList = some (vals i₀)) (hS : ∀ B w, Sto w₀ (B :: A.eraseIdx q) w → S w)
    (h1 : SXI P ops S K p n ds ((d, .bool true) :: l) (Sto w₀ (J (i₀ + 1) :: A.eraseIdx q))) (h2 : SXI P ops S K p n ds ((d, .bool false) :: l) (Sto w₀ (Jx (i₀ + 1) :: A.eraseIdx q))) :
    SXI P ops S K (.st false i p) n ds l (Sto w₀ A) := by
  refine SXI.yield (v := fun b : Bool => .bool b) (pf := fun _ => True) (C' := fun b => Sto w₀ ((if b then J (i₀ + 1) else Jx (i₀ + 1)) :: A.eraseIdx q)) ho (fun a w o he hc h3 _ => ?_) (fun b w hw => hS _ w hw) (fun b _ => ?_)
  · have hc' : Sto w₀ (J i₀ :: A.eraseIdx q) w := ⟨hc.fr, hc.lt, hc.sep.front hJ⟩
    obtain ⟨fn, tmps, assign, body, hr, hR⟩ := hY i₀ hi _ w hc'
    refine ⟨lr, fn, tmps, assign, body, w, ?_, RoundIn.mono hR (fun e w' ⟨b, he, hs⟩ => ⟨b, he, trivial, hs⟩)⟩
    have e1 : as1.map a.eval = (vals i₀).toArray := by apply Array.ext'; rw [Array.toList_map]; exact he.evs has
    simp only [execOp, h3, resolve, e1, he.ev hx, Deferred.ofValue, Sem.run_bind, Sem.run_pure, Result.andThen_ok, invoke, Array.empty_append]
    exact hr
  · cases b with
    | true => exact h1
    | false => exact h2
end

def insAll (l : List (Nat × Value)) (ps : List (Nat × Value)) : List (Nat × Value) := ps.foldl (fun l pv => ins pv.1 pv.2 l) l
theorem Env.insAll {n : Nat} : ∀ (ps : List (Nat × Value)) {l : List (Nat × Value)} {a : Act}, Env n l a → (∀ pv ∈ ps, pv.1 < n) → Env n (insAll l ps) { a with tmps := ps.foldl (fun t (pv : Nat × Value) => t.setIfInBounds pv.1 pv.2) a.tmps }
  | [], _, _, h, _ => h
  | pv :: ps, l, a, h, hp => by
    have := Env.insAll ps (h.put (hp pv (by simp)) pv.2) (fun q hq => hp q (by simp [hq]))
    exact this

abbrev mark (D : Nat) : Deferred := { target := .collected D, args := #[] }
abbrev defB (D : Nat) : Atom := objB D (.deferred (some []))

/-- How a round's body may be left. -/
def RPost {G GX : Type} (w₀ : World) (T : Atom) (LJ : Nat → G → List Atom) (pJ : Nat → G → Prop) (LX : Nat → GX → List Atom) (pX : Nat → GX → Prop) (jx : GX → Code) (i : Nat) : Exit → Act → World → Prop
  | .normal, _, w => ∃ g, pJ i g ∧ Sto w₀ (LJ i g ++ [T]) w
  | .ret, _, w => ∃ g, pX i g ∧ jx g = .ret ∧ Sto w₀ (LX i g ++ [T]) w
  | .exit id, _, w => ∃ g, pX i g ∧ jx g = .exit id ∧ Sto w₀ (LX i g ++ [T]) w
  | _, _, _ => False

section
variable {P : Program} {Rx : Exit → Act → World → Prop} {k : List KI} {n : Nat} {ds : List Deferred} {l : List (Nat × Value)} {w₀ : World} {A : List Atom}

theorem CWI.rangeFunc {G GX : Type} (LJ : Nat → G → List Atom) (pJ : Nat → G → Prop) (LX : Nat → GX → List Atom) (pX : Nat → GX → Prop) (jx : GX → Code) (g₀ : G) (LB LR : List Atom) (lbod : Nat → List (Nat × Value))
    {g : Operand} {ps : Array Tmp} {assign body : Code} {gf : FuncId} {lb : List Value} {vals : Nat → List Value} {N : Nat}
    (hg : ev l g = some (.func (.func gf) #[] lb.toArray)) [hgf : Enters P gf] (hit : IterC P w₀ gf lb LB vals N)
    (is : List Nat) (hpick : picks A is = some (LJ 0 g₀ ++ (LB ++ LR))) (hp0 : pJ 0 g₀) (hps : ∀ i, (vals i).length = ps.size) (hpn : ∀ q ∈ ps.toList, q < n)
    (hassign : ∀ (lr i : Nat) (C : World → Prop), i < N → CWI P (some lr) (fun _ _ _ => False) [.lp (fun a w => EnvD n [] (lbod i) a ∧ C w)] assign n [] (insAll l (ps.toList.zip (vals i))) C)
    (hbody : ∀ (lr : Nat) (T : Atom) (i : Nat) (g : G), i < N → pJ i g → CWI P (some lr) (RPost w₀ T LJ pJ LX pX jx (i + 1)) [] body n [] (lbod i) (Sto w₀ (LJ i g ++ [T])))
    (hdone : ∀ (D : Nat) (g : G), pJ N g → KNI P none Rx k n (mark D :: ds) l (Sto w₀ (defB D :: (LJ N g ++ (LB ++ LR)))))
    (hstop : ∀ (D i : Nat) (g : GX), i < N → pX (i + 1) g → CWI P none Rx k (jx g) n (mark D :: ds) l (Sto w₀ (defB D :: (LX (i + 1) g ++ (LB ++ LR))))) :
    CWI P none Rx k (.rangeFunc g ps assign body) n ds l (Sto w₀ A) := by
  refine ⟨fun a w he hc => wpIn_rangeFunc (F := fw none) (fun fn _ => ?_)⟩
  obtain ⟨rec, hrec⟩ : ∃ rec : LoopState → Option Code → Loop, rec = fun st pe => { state := st, pending := pe, fn, tmps := a.tmps, params := ps, assign, body, defers := w.heap.size } := ⟨_, rfl⟩
  obtain ⟨w1, hw1⟩ : ∃ w1, (w.alloc (.deferred (some []))).alloc (.loop (rec .ready none)) = w1 := ⟨_, rfl⟩
  have hst : Sto w₀ (objB (w.heap.size + 1) (.loop (rec .ready none)) :: defB w.heap.size :: (LJ 0 g₀ ++ (LB ++ LR))) w1 := by
    have h2 := ((hc.pick is hpick).allocO (.deferred (some []))).allocO (.loop (rec .ready none))
    rw [hw1, World.size_alloc] at h2
    exact h2
  let J : Nat → Atom := fun i => exA (fun g : { g : G // pJ i g } => starA (objB (w.heap.size + 1) (.loop (rec .ready none)) :: defB w.heap.size :: LJ i g.1))
  let Jx : Nat → Atom := fun i => exA (fun g : { g : GX // pX i g } => starA (objB (w.heap.size + 1) (.loop (rec .done (some (jx g.1)))) :: defB w.heap.size :: LX i g.1))
  have hY : YieldOK P w₀ (w.heap.size + 1) vals N J Jx := by
    intro i hi A' w' hJ
    obtain ⟨⟨g, hgp⟩, hJ⟩ := St.exA.1 hJ
    have hJ := (St.star _).2 hJ
    have hl := St.objAt hJ
    have hy := run_yield (P := P) (args := (vals i).toArray) hl (by rw [hrec]; simpa using hps i)
    rw [hrec] at hy
    refine ⟨fn, _, assign, body, hy, roundIn_of_wpIn (F := Fence.wide) trivial ?_⟩
    have hz : (ps.zip (vals i).toArray).foldl (fun tmps (x : Tmp × Value) => tmps.setIfInBounds x.1 x.2) a.tmps = (ps.toList.zip (vals i)).foldl (fun t (pv : Nat × Value) => t.setIfInBounds pv.1 pv.2) a.tmps := by
      rw [← Array.foldl_toList, Array.toList_zip]
    have hen : EnvD n [] (insAll l (ps.toList.zip (vals i))) { tmps := (ps.zip (vals i).toArray).foldl (fun tmps (x : Tmp × Value) => tmps.setIfInBounds x.1 x.2) a.tmps, defers := [] } := by
      refine ⟨?_, rfl⟩
      have := Env.insAll (ps.toList.zip (vals i)) he.env (fun pv hpv => hpn _ (List.of_mem_zip hpv).1)
      rw [hz]; exact this
    refine wpIn_mono ((hassign (w.heap.size + 1) i _ hi).run _ w' hen hJ) ?_
    intro e a1 w2 hk
    cases e with
    | normal =>
      obtain ⟨hea, hc2⟩ := hk
      have hl2 := St.objAt hc2
      refine ⟨_, run_beginRound hl2 (by rw [hrec]), ?_⟩
      have hc3 := St.putO (.loop { rec .ready none with state := .busy }) hc2
      let T : Atom := starA (objB (w.heap.size + 1) (.loop { rec .ready none with state := .busy }) :: defB w.heap.size :: A')
      have hT : ∀ (X : List Atom) (v : World), Sto w₀ (X ++ [T]) v ↔ Sto w₀ (objB (w.heap.size + 1) (.loop { rec .ready none with state := .busy }) :: (defB w.heap.size :: X ++ A')) v := by
        intro X v
        refine ⟨fun h => St.perm ?_ (St.starLast.2 h), fun h => St.starLast.1 (St.perm ?_ h)⟩
        · refine List.perm_middle.trans (List.Perm.cons _ ?_)
          exact List.perm_middle
        · refine (List.Perm.trans (List.Perm.cons _ ?_) List.perm_middle.symm)
          exact List.perm_middle.symm
      have hb := (hbody (w.heap.size + 1) T i g hi hgp).run a1 _ hea ((hT _ _).2 hc3)
      refine wpIn_mono hb (fun e a3 w3 hk => ?_)
      have fin : ∀ (jump : Option Code) (X : List Atom), Sto w₀ (X ++ [T]) w3 → ∃ v w', (Instr.endRound (w.heap.size + 1) jump).run P w3 = .ok v w' ∧ v = .bool jump.isNone ∧
          Sto w₀ (starA (objB (w.heap.size + 1) (.loop (rec (if jump.isNone then .ready else .done) jump)) :: defB w.heap.size :: X) :: A') w' := by
        intro jump X h3
        have h4 := (hT _ _).1 h3
        have h5 := run_endRound (P := P) jump (St.objAt h4)
        refine ⟨_, _, h5, rfl, (St.star _).1 ?_⟩
        have h6 := St.putO (.loop { rec .ready none with state := if jump.isNone then .ready else .done, pending := jump }) h4
        rw [hrec] at h6 ⊢
        exact h6
      cases e with
      | normal =>
        obtain ⟨g', hp', hs'⟩ := hk
        obtain ⟨v, w', h5, rfl, h6⟩ := fin none _ hs'
        exact ⟨_, w', h5, true, rfl, St.exA.2 ⟨⟨g', hp'⟩, h6⟩⟩
      | ret =>
        obtain ⟨g', hp', hj, hs'⟩ := hk
        obtain ⟨v, w', h5, rfl, h6⟩ := fin (some .ret) _ hs'
        exact ⟨_, w', h5, false, rfl, St.exA.2 ⟨⟨g', hp'⟩, by rw [hj]; exact h6⟩⟩
      | exit id =>
        obtain ⟨g', hp', hj, hs'⟩ := hk
        obtain ⟨v, w', h5, rfl, h6⟩ := fin (some (.exit id)) _ hs'
        exact ⟨_, w', h5, false, rfl, St.exA.2 ⟨⟨g', hp'⟩, by rw [hj]; exact h6⟩⟩
      | goto t => exact hk.elim
      | panic c => exact hk.elim
      | outgrown => exact hk.elim
    | exit id => exact hk.elim
    | goto t => exact hk.elim
    | ret => exact hk.elim
    | panic c => exact hk.elim
    | outgrown => exact hk.elim
  refine ⟨w.heap.size + 1, [mark w.heap.size], w1, { target := .fn (.func gf) lb.toArray, args := #[.func (.yield (w.heap.size + 1)) #[] #[]] }, w1, gf, (.func (.yield (w.heap.size + 1)) #[] #[] :: lb).toArray, w1, ?_, ?_, fun _ _ => trivial, ?_, fun h => by simp [Fence.wide] at h, ?_⟩
  · rw [← hw1, hrec]; exact run_enterLoop_outer _ _ _ _ _
  · simp only [resolve, he.ev hg]
    simp [Deferred.ofValue, go_sem]
  · simp only [invoke]
    have : #[Value.func (.yield (w.heap.size + 1)) #[] #[]] ++ lb.toArray = (.func (.yield (w.heap.size + 1)) #[] #[] :: lb).toArray := by simp
    rw [this]
    exact hgf.run _ _
  · refine CallsIn.mono (F := fw none) ((callsIn_wide (n := 0)).2 (hit (w.heap.size + 1) J Jx (starA LR) w1 hY ?_)) ?_
    · refine (St.exA (f := fun g : { g : G // pJ 0 g } => starA (objB (w.heap.size + 1) (.loop (rec .ready none)) :: defB w.heap.size :: LJ 0 g.1))).2 ⟨⟨g₀, hp0⟩, ?_⟩
      exact (St.starLast (X := starA (objB (w.heap.size + 1) (.loop (rec .ready none)) :: defB w.heap.size :: LJ 0 g₀) :: LB)).1 ((St.star (objB (w.heap.size + 1) (.loop (rec .ready none)) :: defB w.heap.size :: LJ 0 g₀)).1 hst)
    · have hea : EnvD n (mark w.heap.size :: ds) l { a with defers := [mark w.heap.size] ++ a.defers } := ⟨he.env, by rw [he.defers]; rfl⟩
      rintro e w' ⟨v, rfl, h | ⟨i, hi, h⟩⟩
      · obtain ⟨⟨g, hgp⟩, h⟩ := St.exA.1 h
        have h := (St.star _).2 ((St.starLast (X := starA _ :: LB)).2 h)
        have hl := St.objAt h
        refine ⟨_, _, run_endLoop hl (by rw [hrec]; simp), ?_⟩
        have h2 := (St.putO (.loop { rec .ready none with state := .exhausted }) h).tail
        rw [hrec] at h2 ⊢
        exact (hdone _ g hgp).run _ _ hea h2
      · obtain ⟨⟨g, hgp⟩, h⟩ := St.exA.1 h
        have h := (St.star _).2 ((St.starLast (X := starA _ :: LB)).2 h)
        have hl := St.objAt h
        refine ⟨_, _, run_endLoop hl (by rw [hrec]; simp), ?_⟩
        have h2 := (St.putO (.loop { rec .done (some (jx g)) with state := .exhausted }) h).tail
        rw [hrec] at h2 ⊢
        exact (hstop _ i g hi hgp).run _ _ hea h2

/-- The way out: the marks' blocks are shut. -/
theorem leaves_marks {fn : Func} {tmps : Array Value} {R : Ending → World → Prop} {L : List Atom} (hfin : ∀ w, Sto w₀ L w → ∃ v, (results fn tmps).run P w = .ok v w ∧ R (.returned v) w) :
    ∀ (Ds : List Nat) (w : World), Sto w₀ (Ds.map defB ++ L) w → LeavesInM Fence.wide 0 P fn tmps R (Ds.map mark) .returning w
  | [], w, h => hfin w h
  | D :: Ds, w, h => ⟨by simp, .inl ⟨D, _, rfl, run_takeDeferred (St.objAt h), leaves_marks hfin Ds _ (St.putO (.deferred none) h).tail⟩⟩

theorem retM {fn : Func} {R : Ending → World → Prop} {C : World → Prop} {rs : List ResultVar} {vs : List Value} {L : List Atom} (Ds : List Nat) (hds : ds = Ds.map mark) (hr : fn.results = rs.toArray) (hv : resOf l rs = some vs)
    (hC : ∀ w, C w → Sto w₀ (Ds.map defB ++ L) w) (h : ∀ w, Sto w₀ L w → R (.returned (oneOf vs)) w) : ∀ a w, EnvD n ds l a → C w → bodyPostM Fence.wide 0 P fn R .ret a w := by
  intro a w he hc
  show LeavesInM Fence.wide 0 P fn a.tmps R a.defers .returning w
  rw [he.defers, hds]
  refine leaves_marks (L := L) (fun w' hw' => ?_) Ds w (hC w hc)
  obtain ⟨_, v, h1, h2⟩ := (KN.ret (C := fun v => Sto w₀ L v) hr hv h : KN P (Rets fn R P) [] n l (fun v => Sto w₀ L v)).run _ w' he.env hw'
  exact ⟨v, h1, h2⟩
end
end Go.Sx
end
section
/- copy into a block of the walk's own, from anywhere, from the block itself too; parts of memory under a name. No condition. -/
namespace Go.Sx
open Go
section
variable {P : Program} {ops : Array Oper} {S : World → Prop} {K : Act → World → Prop} {p : Plan} {n : Nat} {l : List (Nat × Value)} {i : Nat} {ty : TypeId} {x y : Operand} {F : Nat → Prop} {w₀ : World} {L : List Atom}
theorem St.blkAll {q g : Nat} {T : TypeId} {cs : Array Value} (hi : L[q]? = some (blk g T cs)) (cs2 : Array Value) {w : World} (h : St F w₀ L w) : St F w₀ (L.set q (blk g T cs2)) (w.setRow g cs2) := by
  obtain ⟨D, ⟨h1, h2⟩, h3, h4⟩ := h.work hi
  refine h4 _ _ D ⟨rfl, rfl, rfl, by simp [World.setRow], fun k hk => setRow_other w g k cs2 (fun e => hk.2 ((h1 k).2 e))⟩ ⟨h1, setRow_heap w g _ _ T _ h2⟩ (fun k hk => ⟨.inl hk, by simp [World.setRow]; exact h3 k hk⟩)
/-- copy(dst, src): dst lies in a block of the walk's own from place off on. -/
theorem s_copyB {d : Option Nat} (q : Nat) {g off E by_ E2 by2 dn dc m2 c2 : Nat} {zv zv2 : Value} {D B : Option Addr} {cur : Array Value} {ys : List Value} {T T2 : TypeId} (hi : L[q]? = some (blk g E cur))
    (ho : opAt ops n l i = some (d, .call ⟨.builtin .copy, #[x, y], #[T, T2]⟩, ty)) [hT : SlT P T E 1 by_ zv] [_hT2 : SlT P T2 E2 1 by2 zv2] (hx : ev l x = some (.slice D dn dc)) (hy : ev l y = some (.slice B m2 c2))
    (hD : dn ≠ 0 → D = some ⟨g, off, none⟩) (hv : ∀ w, St F w₀ L w → Has (sl 1 B m2 ys) w) (h1 : ys.all (·.oneCell') = true) (hfit : off + dn ≤ cur.size)
    (hS : ∀ w, St F w₀ (L.set q (blk g E (cur.toList.take off ++ ys.take (min m2 dn) ++ cur.toList.drop (off + min m2 dn)).toArray)) w → S w)
    (h : SX P ops S K p n (insO d (.int .i64 (min m2 dn : Nat)) l) (St F w₀ (L.set q (blk g E (cur.toList.take off ++ ys.take (min m2 dn) ++ cur.toList.drop (off + min m2 dn)).toArray)))) : SX P ops S K (.st false i p) n l (St F w₀ L) := by
  obtain ⟨inf, hi1, hs, hby, hzz⟩ := hT.info
  refine SX.act (d := d) (X := Unit) (v := fun _ => .int .i64 (min m2 dn : Nat)) (C' := fun _ => St F w₀ (L.set q (blk g E (cur.toList.take off ++ ys.take (min m2 dn) ++ cur.toList.drop (off + min m2 dn)).toArray))) ho (fun a w o he hw ho1 ho2 => ?_) (fun _ w hw => hS w hw) (fun _ => h)
  have hex : ∀ (v : Value) (w' : World), (Builtin.copy_ #[T, T2] ty #[.slice D dn dc, .slice B m2 c2]).run P w = .ok v w' → (execOp a.eval o).run P w = .ok (.value v) w' := fun v w' hr => by
    simp only [execOp, ho1, ho2, resolve, Sem.run_bind, Sem.run_pure, Result.andThen_ok, invoke, builtin, List.map_toArray, List.map_cons, List.map_nil, he.ev hx, he.ev hy, hr]
  have hsz : (P.info? E).map (·.size) = some 1 := by rw [hi1, Option.map_some, hs]
  have hsl := hv w hw
  have hyl := hsl.sl_len
  rw [Nat.mul_one] at hyl
  obtain ⟨DD, ⟨hb1, hb2⟩, _, _⟩ := hw.work hi
  by_cases hn : min m2 dn = 0
  · have hr := run_copy_none (P := P) w T T2 ty E D B dn dc m2 c2 hT.under hsz hn
    refine ⟨(), w, .inl (hex _ _ (by rw [hr, hn]; rfl)), ?_⟩
    rw [hn, List.take_zero, List.append_nil, Nat.add_zero, List.take_append_drop, Array.toArray_toList]
    have e : L.set q (blk g E cur) = L := by
      apply List.ext_getElem?
      intro t
      rw [List.getElem?_set]
      split
      · rename_i e
        subst e
        rw [if_pos (List.getElem?_eq_some_iff.1 hi).1, hi]
      · rfl
    rw [e]
    exact hw
  · have hd0 : dn ≠ 0 := fun e => hn (by rw [e]; exact Nat.min_zero _)
    have hm0 : m2 ≠ 0 := fun e => hn (by rw [e]; exact Nat.zero_min _)
    obtain rfl := hD hd0
    have hB := hsl.sl_some hm0
    have hcs : (ys.take (min m2 dn)).length = Nat.min m2 dn := by rw [List.length_take, hyl]; exact Nat.min_eq_left (Nat.min_le_left _ _)
    have hsrc : ∀ j v, (ys.take (min m2 dn))[j]? = some v → w.cell? ((⟨ob B, oo B, none⟩ : Addr).add j) = some v := fun j v hj => by
      rw [List.getElem?_take] at hj
      split at hj
      · have := (hsl.sl_cell hm0 hj).2
        rw [add_at]
        exact this
      · cases hj
    have hr := run_copy_row (P := P) w T T2 ty E g off dn dc ⟨ob B, oo B, none⟩ m2 c2 cur E (ys.take (min m2 dn)) hT.under hsz hb2 hcs hsrc (by rw [hcs]; have := Nat.min_le_right m2 dn; show off + min m2 dn ≤ _; omega) (fun v hv => List.all_eq_true.1 h1 v (List.mem_of_mem_take hv))
    rw [← hB] at hr
    rw [show (ys.take (min m2 dn)).length = min m2 dn from hcs] at hr
    exact ⟨(), _, .inl (hex _ _ hr), hw.blkAll hi _⟩
/-- Parts of memory under a name: for some x, these. -/
theorem Has.ex {G : Type} {f : G → Atom} {w : World} (h : Has (exA f) w) : ∃ x, Has (f x) w := by
  obtain ⟨D, ⟨x, h1⟩, h2⟩ := h
  exact ⟨x, D, h1, h2⟩
end
end Go.Sx
end
section
/- Calls that write into one block of the caller's: what they read lies elsewhere. No condition. -/
namespace Go.Sx
open Go
/-- All blocks that are there but one. -/
def Ex (r : Nat) (w : World) : Nat → Prop := fun k => k < w.heap.size ∧ k ≠ r
/-- Something holds in the world, and stands on blocks that are there, and not on one. -/
def HasN (r : Nat) (A : Atom) (w : World) : Prop := ∃ D : Nat → Prop, A.ok w D ∧ ∀ k, D k → k < w.heap.size ∧ k ≠ r
section
variable {F : Nat → Prop} {w₀ w w' : World} {L : List Atom} {A : Atom} {r : Nat} {T : TypeId} {cs : Array Value}
theorem HasN.has (h : HasN r A w) : Has A w := let ⟨D, h1, h2⟩ := h; ⟨D, h1, fun k hk => (h2 k hk).1⟩
theorem St.oldN (h : St (Ex r w) w L w') (ha : HasN r A w) : HasN r A w' :=
  let ⟨D, h1, h2⟩ := ha
  ⟨D, A.loc h1 (fun k hk => h.fr.block k (h2 k hk)), fun k hk => ⟨Nat.lt_of_lt_of_le (h2 k hk).1 h.fr.size, (h2 k hk).2⟩⟩
theorem St.startW (h : w.heap[r]? = some (.cells cs T (0, 0))) : St (Ex r w) w [blk r T cs] w :=
  ⟨Fr.refl _ _, fun _ hk => hk.1, fun k => k = r, ⟨fun _ => Iff.rfl, h⟩, fun k hk => ⟨fun hf => hf.2 hk, by
    subst hk
    exact (Array.getElem?_eq_some_iff.1 h).1⟩, trivial⟩
theorem HasN.cellB {c : Nat} {T2 : TypeId} {cs2 : Array Value} (h : HasN r (blk c T2 cs2) w) {j : Nat} {v : Value} (hj : cs2[j]? = some v) : w.cell? ⟨c, j, none⟩ = some v := by
  obtain ⟨D, ⟨_, h2⟩, _⟩ := h
  rw [cell_of_blk h2, hj]
theorem Has.cellB {c : Nat} {T2 : TypeId} {cs2 : Array Value} (h : Has (blk c T2 cs2) w) {j : Nat} {v : Value} (hj : cs2[j]? = some v) : w.cell? ⟨c, j, none⟩ = some v := by
  obtain ⟨D, ⟨_, h2⟩, _⟩ := h
  rw [cell_of_blk h2, hj]
theorem St.hasN {i j : Nat} (hi : L[i]? = some (blk r T cs)) (hj : (L.eraseIdx i)[j]? = some A) (h : St F w₀ L w) : HasN r A w := by
  obtain ⟨D, ⟨k1, _⟩, _, k3⟩ := h.sep.front hi
  obtain ⟨D2, m1, m2, _⟩ := Sep.at_ k3 hj
  exact ⟨D2, m1, fun k hk => ⟨(m2 k hk).2, fun e => (m2 k hk).1 (.inr ((k1 k).2 e))⟩⟩
theorem St.away {i : Nat} (hi : L[i]? = some (blk r T cs)) (h : Sto w₀ L w) (ha : Has A w₀) : HasN r A w := by
  obtain ⟨D, ⟨k1, _⟩, k2, _⟩ := h.sep.at_ hi
  obtain ⟨D2, m1, m2⟩ := ha
  exact ⟨D2, A.loc m1 (fun k hk => h.fr.block k (m2 k hk)), fun k hk => ⟨Nat.lt_of_lt_of_le (m2 k hk) h.fr.size, fun e => (k2 k ((k1 k).2 e)).1 (m2 k hk)⟩⟩
theorem St.heapOf {i : Nat} (hi : L[i]? = some (blk r T cs)) (h : St F w₀ L w) : w.heap[r]? = some (.cells cs T (0, 0)) := by
  obtain ⟨D, ⟨_, h2⟩, _⟩ := h.has hi
  exact h2
end
/-- A call that answers v and leaves a block with these cells, and all else as it was. -/
def WCall (P : Program) (g : FuncId) (args : List Value) (w : World) (r : Nat) (T : TypeId) (cs : Array Value) (v : Value) : Prop :=
  Calls P g args.toArray w (fun e w' => e = .returned v ∧ St (Ex r w) w [blk r T cs] w')
section
variable {P : Program} {n : Nat} {c : Code}
theorem spec_ofW {f : FuncId} {fn : Func} {args : List Value} {w : World} {r : Nat} {T : TypeId} {cs cs2 : Array Value} {v : Value} (hf : P.funcs[f]? = some fn) (hb : fn.body = some c) (hn : fn.ntmps = n) (hlen : Nat.ble args.length n = true) (hw : w.heap[r]? = some (.cells cs T (0, 0)))
    (h : CW P (Rets fn (fun e w' => e = .returned v ∧ St (Ex r w) w [blk r T cs2] w') P) [] c n (argEnv 0 args) (St (Ex r w) w [blk r T cs])) : WCall P f args w r T cs2 v :=
  calls_of hf hb hn hlen ⟨fun a v he hv => h.run a v he (by subst hv; exact St.startW hw)⟩
end
section
variable {P : Program} {ops : Array Oper} {S : World → Prop} {K : Act → World → Prop} {p : Plan} {n : Nat} {l : List (Nat × Value)} {i : Nat} {ty : TypeId} {x : Operand} {F : Nat → Prop} {w₀ : World} {A : List Atom}
theorem St.wrote {q r : Nat} {T : TypeId} {cs cs2 : Array Value} {w w' : World} (hi : A[q]? = some (blk r T cs)) (hw : St F w₀ A w) (h : St (Ex r w) w [blk r T cs2] w') : St F w₀ (A.set q (blk r T cs2)) w' := by
  obtain ⟨D, ⟨h1, h2⟩, h3, h4⟩ := hw.work hi
  have hok := h.heapOf (i := 0) rfl
  refine h4 w' (blk r T cs2) D (h.fr.mono (fun k hk => ⟨hk.1, fun e => hk.2 ((h1 k).2 e)⟩)) ⟨h1, hok⟩ (fun k hk => ⟨.inl hk, Nat.lt_of_lt_of_le (h3 k hk) h.fr.size⟩)
theorem s_callW (d q : Nat) {as1 : Array Operand} {ts : Array TypeId} {g : FuncId} {fs cs : Array Value} {vs L : List Value} {v : Value} {r : Nat} {T : TypeId} {c1 c2 : Array Value} (hi : A[q]? = some (blk r T c1))
    (ho : opAt ops n l i = some (some d, .call ⟨.value x, as1, ts⟩, ty)) (hx : ev l x = some (.func (.func g) fs cs)) (has : evs l as1.toList = some vs) (hL : fs.toList ++ vs ++ cs.toList = L) [hg : Enters P g]
    (hc : ∀ w, St F w₀ A w → WCall P g L w r T c2 v) (hS : ∀ w, St F w₀ (A.set q (blk r T c2)) w → S w) (h : SX P ops S K p n ((d, v) :: l) (St F w₀ (A.set q (blk r T c2)))) : SX P ops S K (.st false i p) n l (St F w₀ A) :=
  SX.enter (X := Unit) (v := fun _ => v) (C' := fun _ w => St F w₀ (A.set q (blk r T c2)) w) (pf := fun _ => True) ho (fun _ _ _ he h1 _ => run_call he h1 hx has hL) (fun w hw => (hc w hw).mono (fun _ _ ⟨h1, h2⟩ => ⟨(), h1, trivial, hw.wrote hi h2⟩)) (fun _ w hw => hS w hw) (fun _ _ => h)
theorem s_callW0 (q : Nat) {as1 : Array Operand} {ts : Array TypeId} {g : FuncId} {fs cs : Array Value} {vs L : List Value} {v : Value} {r : Nat} {T : TypeId} {c1 c2 : Array Value} (hi : A[q]? = some (blk r T c1))
    (ho : opAt ops n l i = some (none, .call ⟨.value x, as1, ts⟩, ty)) (hx : ev l x = some (.func (.func g) fs cs)) (has : evs l as1.toList = some vs) (hL : fs.toList ++ vs ++ cs.toList = L) [hg : Enters P g]
    (hc : ∀ w, St F w₀ A w → WCall P g L w r T c2 v) (hS : ∀ w, St F w₀ (A.set q (blk r T c2)) w → S w) (h : SX P ops S K p n l (St F w₀ (A.set q (blk r T c2)))) : SX P ops S K (.st false i p) n l (St F w₀ A) :=
  SX.enter (X := Unit) (v := fun _ => v) (C' := fun _ w => St F w₀ (A.set q (blk r T c2)) w) (pf := fun _ => True) ho (fun _ _ _ he h1 _ => run_call he h1 hx has hL) (fun w hw => (hc w hw).mono (fun _ _ ⟨h1, h2⟩ => ⟨(), h1, trivial, hw.wrote hi h2⟩)) (fun _ w hw => hS w hw) (fun _ _ => h)
end
end Go.Sx
end
section
/- append of another type's slice; slices cut at their end, of the walk's own. No condition. -/
namespace Go.Sx
open Go
theorem append_types {P : Program} {w : World} {T T2 E E2 ty : TypeId} {inf : TypeInfo} {u v : Value} (h1 : P.underlying T = some (.slice E)) (h2 : P.underlying T2 = some (.slice E2)) (hi : P.info? E = some inf) : (Builtin.append_ #[T, T2] ty #[u, v]).run P w = (Builtin.append_ #[T, T] ty #[u, v]).run P w := by
  cases u <;> simp [Builtin.append_, run_underlying h1, run_underlying h2, sizeOf, run_tinfo hi]
section
variable {P : Program} {ops : Array Oper} {S : World → Prop} {K : Act → World → Prop} {p : Plan} {n : Nat} {l : List (Nat × Value)} {C : World → Prop} {fl : Bool} {i : Nat} {ty ty' ty2 ty3 : TypeId} {x y z u : Operand}
variable {F : Nat → Prop} {w₀ : World} {L L' : List Atom}
theorem s_app2 (d q : Nat) {E sz by_ : Nat} {zv : Value} {A B : Option Addr} {m c m2 c2 : Nat} {xs ys : List Value} {T T2 E2 sz2 by2 : TypeId} {zv2 : Value} (hi : L[q]? = some (own E sz A m c xs))
    (ho : opAt ops n l i = some (some d, .call ⟨.builtin .append, #[x, y], #[T, T2]⟩, ty)) [hT : SlT P T E sz by_ zv] [hT2 : SlT P T2 E2 sz2 by2 zv2] (hx : ev l x = some (.slice A m c)) (hy : ev l y = some (.slice B m2 c2))
    (hv : ∀ w, St F w₀ L w → Has (sl sz B m2 ys) w) (h1 : ys.all (·.oneCell') = true) (hz : zv.cells.size = sz) (h0 : 0 < sz) (h63 : m + m2 ≤ maxLen) (hb : (m + m2) * by_ ≤ 140737488355328)
    (hS : ∀ A' c' w, St F w₀ (L.set q (own E sz A' (m + m2) c' (xs ++ ys))) w → S w)
    (h : ∀ A' c', m + m2 ≤ c' → SX P ops S K p n ((d, .slice A' (m + m2) c') :: l) (St F w₀ (L.set q (own E sz A' (m + m2) c' (xs ++ ys))))) : SX P ops S K (.st false i p) n l (St F w₀ L) := by
  obtain ⟨inf, hi1, hs, hby, hzz⟩ := hT.info
  refine SX.act (d := some d) (X := { q : Option Addr × Nat // m + m2 ≤ q.2 }) (v := fun r => .slice r.1.1 (m + m2) r.1.2) (C' := fun r => St F w₀ (L.set q (own E sz r.1.1 (m + m2) r.1.2 (xs ++ ys)))) ho (fun a w o he hw ho1 ho2 => ?_) (fun r w hw => hS _ _ w hw) (fun r => h _ _ r.2)
  obtain ⟨D, ⟨hown, hD⟩, hlt, hmk⟩ := hw.work hi
  have hsl := hv w hw
  have hex : ∀ (v : Value) (w' : World), (Builtin.append_ #[T, T] ty #[.slice A m c, .slice B m2 c2]).run P w = .ok v w' → (execOp a.eval o).run P w = .ok (.value v) w' := fun v w' hr => by
    simp only [execOp, ho1, ho2, resolve, Sem.run_bind, Sem.run_pure, Result.andThen_ok, invoke, builtin, List.map_toArray, List.map_cons, List.map_nil, he.ev hx, he.ev hy, append_types hT.under hT2.under hi1, hr]
  have hmc : m ≤ c := by
    rcases hown.2 with ⟨h, h2⟩ | ⟨g, cap, cur, h, _, _, h2, _⟩
    · injection h; omega
    · injection h; omega
  by_cases hn : B = none
  · subst hn
    have hm2 : m2 = 0 := by
      by_cases h : m2 = 0
      · exact h
      · have := hsl.sl_some h; cases this
    subst hm2
    have hys : ys = [] := List.eq_nil_of_length_eq_zero (by rw [hsl.sl_len]; omega)
    subst hys
    exact ⟨⟨(A, c), by omega⟩, w, .inl (hex _ _ (run_append_none hmc)), by
      have := hmk w (own E sz A (m + 0) c (xs ++ [])) D ⟨rfl, rfl, rfl, Nat.le_refl _, fun _ _ => rfl⟩ ⟨by simpa using hown, hD⟩ (fun k hk => ⟨.inl hk, hlt k hk⟩)
      exact this⟩
  · obtain ⟨b, rfl⟩ : ∃ b, B = some b := by cases B with | none => exact absurd rfl hn | some b => exact ⟨b, rfl⟩
    have hcells : ∀ j u, ys[j]? = some u → w.cell? (b.add j) = some u := fun j u hj => by
      have hne : m2 ≠ 0 := fun h => by
        have := hsl.sl_len
        rw [h, Nat.zero_mul] at this
        rw [List.eq_nil_of_length_eq_zero this] at hj
        simp at hj
      have h2 := hsl.sl_cell hne hj
      have h3 := h2.1
      rw [Option.some.injEq] at h3
      rw [h3, add_at]
      exact h2.2
    obtain ⟨v', w', hr, k1, k2, k3, k4⟩ := run_append_own_at (P := P) w 0 T ty E inf zv sz by_ hT.under hi1 hzz hs hby hz h0 (.slice A m c) m xs hown b m2 c2 ys hsl.sl_len hcells (List.all_eq_true.1 h1) h63 hb (Nat.zero_le _)
    obtain ⟨A', c', rfl, hle⟩ : ∃ A' c', v' = .slice A' (m + m2) c' ∧ m + m2 ≤ c' := by
      rcases k1.2 with ⟨rfl, h⟩ | ⟨g, cap, cur, rfl, _, _, h, _⟩
      · exact ⟨none, 0, by rw [h], by omega⟩
      · exact ⟨_, _, rfl, h⟩
    refine ⟨⟨(A', c'), hle⟩, w', .inl (hex _ _ hr), hmk w' (own E sz A' (m + m2) c' (xs ++ ys)) (fun k => A' ≠ none ∧ k = ob A') ⟨k2.os, k2.tape, k2.output, k2.size, fun k hk => k2.block k hk.1 (fun h => ?_)⟩ ⟨k1, fun k => Iff.rfl⟩ (fun k hk => ?_)⟩
    · refine hk.2 ((hD k).2 ?_)
      rw [ownBlock_of] at h
      cases A with
      | none => cases h
      | some a => exact ⟨by simp, by simpa [ob] using h⟩
    · obtain ⟨a', rfl⟩ : ∃ a', A' = some a' := by cases A' with | none => exact absurd rfl hk.1 | some b => exact ⟨b, rfl⟩
      have hk2 : k = a'.block := hk.2
      subst hk2
      refine ⟨?_, ?_⟩
      · rcases k4 with h | h
        · rw [ownBlock_of, ownBlock_of] at h
          cases A with
          | none => cases h
          | some a => exact .inl ((hD _).2 ⟨by simp, by simpa [ob] using h⟩)
        · rw [ownBlock_of] at h
          simp at h
          exact .inr (by omega)
      · rcases k1.2 with ⟨h, _⟩ | ⟨g, cap, cur, h, _, h2, _⟩
        · injection h with h; cases h
        · injection h with h
          simp only [Option.some.injEq] at h
          subst h
          obtain ⟨h3, _⟩ := Array.getElem?_eq_some_iff.1 h2
          exact h3
end
section
variable {F : Nat → Prop} {w₀ w : World} {L : List Atom}
theorem St.ownCutP {q E sz m m' c : Nat} {A : Option Addr} {xs : List Value} (hi : L[q]? = some (own E sz A m c xs)) (hm : m' ≤ m) (h : St F w₀ L w) : St F w₀ (L.set q (own E sz A m' c (xs.take (m' * sz)))) w :=
  h.swap hi (fun w D ⟨⟨h1, h2⟩, h3⟩ _ => by
    have hle : m' * sz ≤ m * sz := Nat.mul_le_mul_right _ hm
    refine ⟨D, ⟨⟨by rw [List.length_take, h1]; exact Nat.min_eq_left hle, ?_⟩, h3⟩, fun _ h => h⟩
    rcases h2 with ⟨k1, k2⟩ | ⟨g, cap, cur, hv, hg, hh, hc, hmx, hsz, hxs⟩
    · injection k1 with e1 e2 e3
      refine .inl ⟨?_, by omega⟩
      rw [e1, e3]
      congr 1
      omega
    · injection hv with e1 e2 e3
      refine .inr ⟨g, cap, cur, by rw [e1, e3], hg, hh, Nat.le_trans hm hc, hmx, hsz, ?_⟩
      rw [← hxs, List.take_take, Nat.min_eq_left hle])
end
end Go.Sx
end
section
/- Appends within one's own memory, parts cleared at the end, slices compared with nil, empty slices written out, cells of rows stored. No condition. -/
namespace Go.Sx
open Go
theorem eqGuard_slice {P : Program} {w : World} (op : BinOp) (T : TypeId) (x y : Operand) (A : Option Addr) (m c : Nat) (b : Value) : (eqGuard op T x y (.slice A m c) b).run P w = .ok () w := by
  unfold eqGuard
  cases op <;> first | rfl | (cases b <;> rfl)
theorem own_split {xs : List Value} {cur : Array Value} {m sz : Nat} (ht : cur.toList.take (m * sz) = xs) : ∃ r, cur.toList = xs ++ r := ⟨cur.toList.drop (m * sz), by rw [← ht, List.take_append_drop]⟩
section
variable {P : Program} {ops : Array Oper} {S : World → Prop} {K : Act → World → Prop} {p : Plan} {n : Nat} {l : List (Nat × Value)} {C : World → Prop} {fl : Bool} {i : Nat} {ty ty' ty2 ty3 : TypeId} {x y z u : Operand}
variable {F : Nat → Prop} {w₀ : World} {L L' : List Atom}
theorem s_eqSN (d : Nat) {E sz by_ : Nat} {zv : Value} {A : Option Addr} {m c : Nat} {r : Bool} (ho : opAt ops n l i = some (some d, .binOp .eql ty x (.const (.slice none 0 0)) ty', ty2)) [hT : SlT P ty E sz by_ zv] (hx : ev l x = some (.slice A m c)) (hr : A.isNone = r)
    (h : SX P ops S K p n ((d, .bool r) :: l) C) : SX P ops S K (.st fl i p) n l C :=
  SX.pure ho (fun a w o he h1 _ => by
    have e1 : a.eval (.const (.slice none 0 0)) = .slice none 0 0 := rfl
    have e2 : (binOp .eql ty (.slice A m c) (.slice none 0 0)).run P w = .ok (.bool r) w := by
      simp only [binOp, Op.equal, Op.maxDepth, Sem.run_bind]
      rw [Op.equalIn]
      subst hr
      cases A <;> simp [run_underlying hT.under]
    simp only [execOp, h1, he.ev hx, e1, Sem.run_bind, eqGuard_slice, e2, Result.andThen_ok, Sem.run_pure]) h
theorem s_neSN (d : Nat) {E sz by_ : Nat} {zv : Value} {A : Option Addr} {m c : Nat} {r : Bool} (ho : opAt ops n l i = some (some d, .binOp .neq ty x (.const (.slice none 0 0)) ty', ty2)) [hT : SlT P ty E sz by_ zv] (hx : ev l x = some (.slice A m c)) (hr : (!A.isNone) = r)
    (h : SX P ops S K p n ((d, .bool r) :: l) C) : SX P ops S K (.st fl i p) n l C :=
  SX.pure ho (fun a w o he h1 _ => by
    have e1 : a.eval (.const (.slice none 0 0)) = .slice none 0 0 := rfl
    have e2 : (binOp .neq ty (.slice A m c) (.slice none 0 0)).run P w = .ok (.bool r) w := by
      simp only [binOp, Op.equal, Op.maxDepth, Sem.run_bind]
      rw [Op.equalIn]
      subst hr
      cases A <;> simp [run_underlying hT.under]
    simp only [execOp, h1, he.ev hx, e1, Sem.run_bind, eqGuard_slice, e2, Result.andThen_ok, Sem.run_pure]) h
/-- An empty slice written out. -/
theorem s_bsl0 (d : Nat) {E sz by_ : Nat} {zv : Value} (ho : opAt ops n l i = some (some d, .buildSlice ty' 0 #[], ty)) [hT : SlT P ty' E sz by_ zv] (hS : ∀ w, St F w₀ L w → S w)
    (h : ∀ g, SX P ops S K p n ((d, .slice (some ⟨g, 0, none⟩) 0 0) :: l) (St F w₀ (blk g E #[] :: L))) : SX P ops S K (.st false i p) n l (St F w₀ L) :=
  s_new d (v := fun g => .slice (some ⟨g, 0, none⟩) 0 0) ho (fun a w o he h1 _ => by
    obtain ⟨inf, hi1, hs, _, hz⟩ := hT.info
    have e2 : (Instr.buildSlice ty' 0 #[]).run P w = .ok (.slice (some ⟨w.heap.size, 0, none⟩) 0 0) (w.alloc (.cells #[] E)) := by
      have hf : Instr.fill (fun i => some (i * sz, sz)) (Array.map (fun _ => default) (Array.range 0)) [] = some #[] := by simp [Instr.fill]
      simp only [Instr.buildSlice, Sem.run_bind, run_underlying hT.under, Result.andThen_ok, sizeOf, run_tinfo hi1, hs, Sem.run_pure, Nat.zero_mul, if_pos, newRow]
      rw [if_neg (by omega)]
      simp [hf, run_newObj]
    have e1 : (#[] : Array (Nat × Operand)).map (fun (q : Nat × Operand) => (q.1, a.eval q.2)) = #[] := by simp
    simp only [execOp, h1, Sem.run_bind, e1, e2, Result.andThen_ok, Sem.run_pure]) hS h
/-- An empty block as a slice of one's own. -/
theorem St.blkOwn0 {q g E sz : Nat} {w : World} (hi : L[q]? = some (blk g E #[])) (h : St F w₀ L w) : St F w₀ (L.set q (own E sz (some ⟨g, 0, none⟩) 0 0 [])) w := by
  have := h.blkOwnM (q := q) (m := 0) (c := 0) (sz := sz) hi (by simp) (Nat.le_refl _) (by unfold maxLen; omega)
  simpa using this
/-- A part that lies behind is appended to a part that lies ahead, in place. -/
theorem s_appIn (d q j i' : Nat) {E sz by_ : Nat} {zv : Value} {A : Option Addr} {m c : Nat} {xs : List Value} {T : TypeId} (hi : L[q]? = some (own E sz A m c xs))
    (ho : opAt ops n l i = some (some d, .call ⟨.builtin .append, #[x, y], #[T, T]⟩, ty)) [hT : SlT P T E sz by_ zv] (hx : ev l x = some (.slice A i' c)) (hy : ev l y = some (.slice (cutA A j sz c) (m - j) (c - j)))
    (hij : i' ≤ j) (hjm : j ≤ m) (h1 : xs.all (·.oneCell') = true)
    (hS : ∀ w, St F w₀ (L.set q (own E sz A m c (xs.take (i' * sz) ++ xs.drop (j * sz) ++ xs.drop ((i' + (m - j)) * sz)))) w → S w)
    (h : SX P ops S K p n ((d, .slice A (i' + (m - j)) c) :: l) (St F w₀ (L.set q (own E sz A m c (xs.take (i' * sz) ++ xs.drop (j * sz) ++ xs.drop ((i' + (m - j)) * sz)))))) : SX P ops S K (.st false i p) n l (St F w₀ L) := by
  obtain ⟨inf, hi1, hs, hby, hzz⟩ := hT.info
  refine SX.act (d := some d) (X := Unit) (v := fun _ => .slice A (i' + (m - j)) c) (C' := fun _ => St F w₀ (L.set q (own E sz A m c (xs.take (i' * sz) ++ xs.drop (j * sz) ++ xs.drop ((i' + (m - j)) * sz))))) ho (fun a w o he hw ho1 ho2 => ?_) (fun _ w hw => hS w hw) (fun _ => h)
  have hex : ∀ (v : Value) (w' : World), (Builtin.append_ #[T, T] ty #[.slice A i' c, .slice (cutA A j sz c) (m - j) (c - j)]).run P w = .ok v w' → (execOp a.eval o).run P w = .ok (.value v) w' := fun v w' hr => by
    simp only [execOp, ho1, ho2, resolve, Sem.run_bind, Sem.run_pure, Result.andThen_ok, invoke, builtin, List.map_toArray, List.map_cons, List.map_nil, he.ev hx, he.ev hy, hr]
  obtain ⟨D, ⟨⟨hl, hown⟩, hD⟩, hlt, hmk⟩ := hw.work hi
  rcases hown with ⟨hv, hm0⟩ | ⟨g, cap, cur, hv, hb, hh, hmc, hmx, hcs, htk⟩
  · injection hv with hA hm hc
    subst hA hc
    subst hm0
    obtain rfl : j = 0 := by omega
    obtain rfl : i' = 0 := by omega
    have hxs : xs = [] := List.eq_nil_of_length_eq_zero (by rw [hl, Nat.zero_mul])
    subst hxs
    refine ⟨(), w, .inl (hex _ _ ?_), ?_⟩
    · rw [cutA_zero]
      exact run_append_none (Nat.le_refl _)
    · have := hmk w (own E sz none 0 0 []) D ⟨rfl, rfl, rfl, Nat.le_refl _, fun _ _ => rfl⟩ ⟨⟨hl, .inl ⟨rfl, rfl⟩⟩, hD⟩ (fun k hk => ⟨.inl hk, hlt k hk⟩)
      simpa using this
  · injection hv with hA hm hc
    subst hA
    subst hc
    have hij2 : i' * sz ≤ j * sz := Nat.mul_le_mul_right _ hij
    have hjm2 : j * sz ≤ m * sz := Nat.mul_le_mul_right _ hjm
    have hk2 : (i' + (m - j)) * sz = i' * sz + (m * sz - j * sz) := by rw [Nat.add_mul, Nat.sub_mul]
    have hmc2 : m * sz ≤ c * sz := Nat.mul_le_mul_right _ hmc
    have hnl : (xs.drop (j * sz)).length = (m - j) * sz := by rw [List.length_drop, hl, Nat.sub_mul]
    obtain ⟨r, hcur⟩ := own_split htk
    obtain ⟨b, hb2, hbc⟩ : ∃ b : Addr, cutA (some ⟨g, 0, none⟩) j sz c = some b ∧ ∀ k u, (xs.drop (j * sz))[k]? = some u → w.cell? (b.add k) = some u := by
      unfold cutA
      by_cases hcj : c = j
      · rw [if_pos hcj]
        refine ⟨_, rfl, fun k u hk => ?_⟩
        have h0 : (xs.drop (j * sz)).length = 0 := by rw [hnl, show m - j = 0 by omega, Nat.zero_mul]
        rw [List.eq_nil_of_length_eq_zero h0] at hk
        cases hk
      · rw [if_neg hcj]
        refine ⟨_, rfl, fun k u hk => ?_⟩
        rw [List.getElem?_drop] at hk
        have e : ((⟨g, 0, none⟩ : Addr).add (j * sz)).add k = ⟨g, j * sz + k, none⟩ := by rw [add_at, add_at, Nat.zero_add]
        rw [e, cell_of_blk hh, ← Array.getElem?_toList, hcur, List.getElem?_append_left (List.getElem?_eq_some_iff.1 hk).1]
        exact hk
    have hr := run_append_room (P := P) w T ty E inf hT.under hi1 g i' c cur hh b (m - j) (c - j) (xs.drop (j * sz)) (by rw [hs, hnl]) hbc (fun u hu => List.all_eq_true.1 h1 u (List.mem_of_mem_drop hu)) (by omega) (by rw [hs, hnl, hcs, Nat.sub_mul]; omega)
    rw [hs, hnl, ← hb2] at hr
    refine ⟨(), _, .inl (hex _ _ hr), hmk _ _ D ⟨rfl, rfl, rfl, by simp [World.setRow], fun k hk => setRow_other w g k _ (fun e => hk.2 ((hD k).2 ⟨by simp, e⟩))⟩ ⟨⟨?_, .inr ⟨g, c, _, rfl, hb, setRow_heap w g cur _ E _ hh, hmc, hmx, ?_, ?_⟩⟩, hD⟩ (fun k hk => ⟨.inl hk, by simp [World.setRow]; exact hlt k hk⟩)⟩
    · rw [List.length_append, List.length_append, List.length_take, hnl, List.length_drop, hl, Nat.sub_mul, hk2]
      omega
    · simp only [List.size_toArray, List.length_append, List.length_take, List.length_drop, Array.length_toList, hcs, hl, Nat.sub_mul]
      omega
    · have e1 : cur.toList.take (i' * sz) = xs.take (i' * sz) := by rw [hcur, List.take_append_of_le_length (by omega)]
      have e2 : cur.toList.drop (i' * sz + (m - j) * sz) = xs.drop ((i' + (m - j)) * sz) ++ r := by rw [hcur, ← Nat.add_mul, List.drop_append_of_le_length (by rw [hl, hk2]; omega)]
      show (cur.toList.take (i' * sz) ++ xs.drop (j * sz) ++ cur.toList.drop (i' * sz + (m - j) * sz)).take (m * sz) = _
      rw [e1, e2, ← List.append_assoc]
      refine List.take_left' ?_
      rw [List.length_append, List.length_append, List.length_take, hnl, List.length_drop, hl, Nat.sub_mul, hk2]
      omega
/-- The last part is cleared, and left. -/
theorem s_clrIn {d : Option Nat} (q lo k : Nat) {E sz by_ : Nat} {zv : Value} {A : Option Addr} {m c : Nat} {xs : List Value} {T : TypeId} (hi : L[q]? = some (own E sz A m c xs))
    (ho : opAt ops n l i = some (d, .call ⟨.builtin .clear, #[x], #[T]⟩, ty)) [hT : SlT P T E sz by_ zv] (hx : ev l x = some (.slice (cutA A lo sz c) k (c - lo)))
    (hk : lo + k ≤ m) (hzs : zv.cells.size = sz) (hz1 : (zv.cells.toList).all (·.oneCell') = true) (h0 : 0 < sz)
    (hS : ∀ w, St F w₀ (L.set q (own E sz A lo c (xs.take (lo * sz)))) w → S w)
    (h : SX P ops S K p n (insO d (.tuple #[]) l) (St F w₀ (L.set q (own E sz A lo c (xs.take (lo * sz)))))) : SX P ops S K (.st false i p) n l (St F w₀ L) := by
  obtain ⟨inf, hi1, hs, hby, hzz⟩ := hT.info
  refine SX.act (d := d) (X := Unit) (v := fun _ => .tuple #[]) (C' := fun _ => St F w₀ (L.set q (own E sz A lo c (xs.take (lo * sz))))) ho (fun a w o he hw ho1 ho2 => ?_) (fun _ w hw => hS w hw) (fun _ => h)
  have hex : ∀ (w' : World), (Builtin.clear_ #[T] ty #[.slice (cutA A lo sz c) k (c - lo)]).run P w = .ok (.tuple #[]) w' → (execOp a.eval o).run P w = .ok (.value (.tuple #[])) w' := fun w' hr => by
    simp only [execOp, ho1, ho2, resolve, Sem.run_bind, Sem.run_pure, Result.andThen_ok, invoke, builtin, List.map_toArray, List.map_cons, List.map_nil, he.ev hx, hr]
  by_cases hk0 : k = 0
  · subst hk0
    refine ⟨(), w, .inl (hex _ ?_), hw.ownCutP hi (by omega)⟩
    cases cutA A lo sz c <;> simp [Builtin.clear_, run_underlying hT.under]
  · have hcut := hw.ownCutP (m' := lo) hi (by omega)
    obtain ⟨D, ⟨⟨hl, hown⟩, hD⟩, hlt, hmk⟩ := hw.work hi
    rcases hown with ⟨hv, hm0⟩ | ⟨g, cap, cur, hv, hb, hh, hmc, hmx, hcs, htk⟩
    · omega
    · injection hv with hA hm hc
      subst hA
      subst hc
      have hlo : lo * sz ≤ m * sz := Nat.mul_le_mul_right _ (by omega)
      have hlk : (lo + k) * sz ≤ m * sz := Nat.mul_le_mul_right _ hk
      have hmc2 : m * sz ≤ c * sz := Nat.mul_le_mul_right _ hmc
      rw [Nat.add_mul] at hlk
      have hzl : ((Builtin.zeroCells zv.cells k).toList).length = k * sz := by rw [Array.length_toList, size_zeroCells, hzs]
      have hzo : ∀ u ∈ (Builtin.zeroCells zv.cells k).toList, u.oneCell' = true := fun u hu => by
        simp only [Builtin.zeroCells, Array.toList_map, List.mem_map] at hu
        obtain ⟨t, _, rfl⟩ := hu
        have hts : t % zv.cells.size < zv.cells.size := Nat.mod_lt _ (by omega)
        rw [getElem!_pos zv.cells _ hts]
        exact List.all_eq_true.1 hz1 _ (by simp)
      have hst := run_storeCells_at P g (lo * sz) E (Builtin.zeroCells zv.cells k).toList 0 cur w hh (by rw [hzl, hcs]; omega) hzo
      have hca : cutA (some ⟨g, 0, none⟩) lo sz c = some ⟨g, lo * sz, none⟩ := by
        unfold cutA
        rw [if_neg (by omega), Option.map_some, add_at, Nat.zero_add]
      have hr : (Builtin.clear_ #[T] ty #[.slice (cutA (some ⟨g, 0, none⟩) lo sz c) k (c - lo)]).run P w = .ok (.tuple #[]) (w.setRow g (cur.toList.take (lo * sz + 0) ++ (Builtin.zeroCells zv.cells k).toList ++ cur.toList.drop (lo * sz + 0 + (Builtin.zeroCells zv.cells k).toList.length)).toArray) := by
        obtain ⟨k', rfl⟩ : ∃ k', k = k' + 1 := ⟨k - 1, by omega⟩
        rw [hca]
        simp only [Nat.add_zero] at hst ⊢
        simp [Builtin.clear_, run_underlying hT.under, run_zero hi1 hzz, hst]
      refine ⟨(), _, .inl (hex _ hr), hmk _ _ D ⟨rfl, rfl, rfl, by simp [World.setRow], fun k hk => setRow_other w g k _ (fun e => hk.2 ((hD k).2 ⟨by simp, e⟩))⟩ ⟨⟨?_, .inr ⟨g, c, _, rfl, hb, setRow_heap w g cur _ E _ hh, by omega, hmx, ?_, ?_⟩⟩, hD⟩ (fun k hk => ⟨.inl hk, by simp [World.setRow]; exact hlt k hk⟩)⟩
      · rw [List.length_take, hl]; omega
      · simp only [List.size_toArray, List.length_append, List.length_take, List.length_drop, Array.length_toList, hcs, hzl]
        simp only [Array.length_toList] at hzl
        omega
      · show (cur.toList.take (lo * sz + 0) ++ _ ++ _).take (lo * sz) = _
        rw [Nat.add_zero, List.append_assoc, List.take_left' (by rw [List.length_take, Array.length_toList, hcs]; omega), ← htk, List.take_take, Nat.min_eq_left hlo]
/-- A cell of an own slice of rows is stored. -/
theorem s_stOS (q : Nat) {E sz j : Nat} {A : Option Addr} {m c : Nat} {xs : List Value} {v : Value} (hi : L[q]? = some (own E sz A m c xs)) (ho : opAt ops n l i = some (none, .store ty x y, ty2)) [One P ty] (hx : ev l x = some (.pointer (some ⟨ob A, 0 + j, none⟩))) (hy : ev l y = some v) (hv : oneCell v = true)
    (hj : j < m * sz) (hS : ∀ w, St F w₀ (L.set q (own E sz A m c (xs.set j v))) w → S w) (h : SX P ops S K p n l (St F w₀ (L.set q (own E sz A m c (xs.set j v))))) : SX P ops S K (.st false i p) n l (St F w₀ L) := by
  refine SX.know (fun w hw => (hw.ownA hi).2.2) (fun hl => ?_)
  have hm : m ≠ 0 := fun e => by rw [e, Nat.zero_mul] at hj; omega
  refine s_st ho hx hy hv (fun _ hw => ⟨⟨_, hw.ownCell hi (List.getElem?_eq_getElem (by omega))⟩, hw.ownFree hi hm, hw.ownSet hi (by omega)⟩) hS h
/-- At index j of an own slice of rows. -/
theorem s_iaOS (d q j : Nat) {E sz by_ : Nat} {zv : Value} {A : Option Addr} {m c : Nat} {k : IntKind} {b : Int} {xs : List Value} (hi : L[q]? = some (own E sz A m c xs)) (ho : opAt ops n l i = some (some d, .indexAddr ty x y, ty2)) [SlT P ty E sz by_ zv] (hx : ev l x = some (.slice A m c)) (hy : ev l y = some (.int k b))
    (hq : b = (j : Nat)) (hj : j < m) (h : SX P ops S K p n ((d, (.pointer (some ⟨ob A, 0 + j * sz, none⟩))) :: l) (St F w₀ L)) : SX P ops S K (.st fl i p) n l (St F w₀ L) := by
  refine SX.know (fun w hw => (hw.ownA hi).1 (by omega)) (fun hA => ?_)
  rw [hA] at hx
  refine s_ia d (g := ob A) (o := 0) ho hx hy (by subst hq; omega) ?_
  subst hq
  rw [Int.toNat_natCast]
  exact h
/-- A row of an own slice, loaded. -/
theorem St.ownRow {q t r : Nat} {E sz : Nat} {A : Option Addr} {m c : Nat} {xs cs : List Value} {w : World} (hi : L[q]? = some (own E sz A m c xs)) (hc : ∀ j v, cs[j]? = some v → xs[t + j]? = some v) (h : St F w₀ L w) : ∀ j v, cs[j]? = some v → w.cell? ⟨ob A, 0 + t + j, none⟩ = some v := fun j v hj => by
  rw [Nat.add_assoc]
  exact h.ownCell hi (hc j v hj)
/-- A part of a slice with a bound of its own: only looked at. -/
theorem s_sl3 (d q r t : Nat) {E sz by_ : Nat} {zv : Value} {A : Option Addr} {m c : Nat} {k k' k'' : IntKind} {lo hi mx : Int} (ho : opAt ops n l i = some (some d, .slice ty x (some y) (some z) (some u), ty2)) [hT : SlT P ty E sz by_ zv] (hx : ev l x = some (.slice A m c)) (hy : ev l y = some (.int k lo)) (hz : ev l z = some (.int k' hi)) (hu : ev l u = some (.int k'' mx))
    (hq : lo = (q : Nat)) (hr : hi = (r : Nat)) (ht : mx = (t : Nat)) (h1 : q ≤ r) (h2 : r ≤ t) (hc : t ≤ c) (h : ∀ v, SX P ops S K p n ((d, v) :: l) C) : SX P ops S K (.st fl i p) n l C := by
  obtain ⟨inf, hi1, hs, _⟩ := hT.info
  have e := elem_of hT.under
  refine SX.pure (v := .slice (if t = q then A else A.map (·.add (q * sz))) (r - q) (t - q)) ho (fun a w o he ho1 _ => by
    subst hq hr ht
    simp only [execOp, ho1, he.ev hx, he.ev hy, he.ev hz, he.ev hu, Option.map_some, Sem.run_bind, run_sliceAt' (P := P) (T := ty), run_slice_lhm w ty A m c (by rw [e]; exact hT.under) k k' k'' ((q : Nat) : Int) ((r : Nat) : Int) ((t : Nat) : Int) (by omega) (by omega) (by omega) (by omega), e, sizeOf, run_tinfo hi1, Result.andThen_ok, Sem.run_pure, hs, sliced, Int.toNat_natCast]) (h _)
end
end Go.Sx
end
section
/- Calls that are lent a part of the walk's own memory. No condition. -/
namespace Go.Sx
open Go
section
variable {F : Nat → Prop} {w₀ w : World} {M R : List Atom}
/-- A part is lent: what is done with it leaves the rest. -/
theorem St.lend (h : St F w₀ (M ++ R) w) : ∃ F' : Nat → Prop, St F' w M w ∧ (∀ w', Fr F' w w' → St F w₀ R w') ∧ ∀ M' w', St F' w M' w' → St F w₀ (M' ++ R) w' := by
  obtain ⟨D, h1, h2, h3⟩ := ((St.star M).1 h).sep
  have hmono : ∀ w', Fr (fun k => k < w.heap.size ∧ ¬ D k) w w' → ∀ G : Nat → Prop, (∀ k, G k → k < w.heap.size → F k ∨ D k) → Sep G R w' := fun w' hf G hG =>
    Sep.mono h3 (fun k hk hn => hf.block k ⟨hk, fun hd => hn (.inr hd)⟩) hf.size (fun k hg => by
      by_cases hk : k < w.heap.size
      · exact .inl (hG k hg hk)
      · exact .inr (by omega))
  have hF : ∀ k, F k → k < w.heap.size ∧ ¬ D k := fun k hk => ⟨h.lt' k hk, fun hd => (h2 k hd).1 hk⟩
  refine ⟨fun k => k < w.heap.size ∧ ¬ D k, ⟨Fr.refl _ _, fun k hk => hk.1, ?_⟩, fun w' hf => ⟨h.fr.trans (hf.mono hF), h.lt, hmono w' hf F (fun k hk _ => .inl hk)⟩, fun M' w' h' => ?_⟩
  · have hs : Sep (fun k => k < w.heap.size ∧ ¬ D k) (starA M :: []) w := ⟨D, h1, fun k hk => ⟨fun hn => hn.2 hk, (h2 k hk).2⟩, trivial⟩
    have := (Sep.star M).2 hs
    rwa [List.append_nil] at this
  · have hs : Sep (fun k => k < w.heap.size ∧ ¬ D k) (M' ++ []) w' := by rw [List.append_nil]; exact h'.sep
    obtain ⟨D', k1, k2, _⟩ := (Sep.star M').1 hs
    refine ⟨h.fr.trans (h'.fr.mono hF), h.lt, (Sep.star M').2 ⟨D', k1, fun k hk => ⟨fun hf => (k2 k hk).1 (hF k hf), (k2 k hk).2⟩, hmono w' h'.fr _ (fun k hk hlt => ?_)⟩⟩
    rcases hk with hk | hk
    · exact .inl hk
    · exact .inr (Classical.byContradiction fun hd => (k2 k hk).1 ⟨hlt, hd⟩)
end
section
variable {P : Program} {ops : Array Oper} {S : World → Prop} {K : Act → World → Prop} {p : Plan} {n : Nat} {l : List (Nat × Value)} {i : Nat} {ty : TypeId} {x : Operand} {F : Nat → Prop} {w₀ : World} {A : List Atom}
/-- A call that is lent M, and gives M' back. -/
theorem s_callP (d : Nat) (is : List Nat) {M R : List Atom} {as1 : Array Operand} {ts : Array TypeId} {g : FuncId} {fs cs : Array Value} {vs L : List Value} {X : Type} {v : X → Value} {pf : X → Prop} {M' : X → List Atom} (hpk : picks A is = some (M ++ R))
    (ho : opAt ops n l i = some (some d, .call ⟨.value x, as1, ts⟩, ty)) (hx : ev l x = some (.func (.func g) fs cs)) (has : evs l as1.toList = some vs) (hL : fs.toList ++ vs ++ cs.toList = L) [hg : Enters P g]
    (hc : ∀ (F' : Nat → Prop) w, (∀ w', Fr F' w w' → St F w₀ R w') → St F' w M w → Calls P g L.toArray w (fun e w' => ∃ x, e = .returned (v x) ∧ pf x ∧ St F' w (M' x) w')) (hS : ∀ x w, St F w₀ (M' x ++ R) w → S w) (h : ∀ x, pf x → SX P ops S K p n ((d, (v x)) :: l) (St F w₀ (M' x ++ R))) : SX P ops S K (.st false i p) n l (St F w₀ A) :=
  SX.enter (C' := fun x w => St F w₀ (M' x ++ R) w) ho (fun _ _ _ he h1 _ => run_call he h1 hx has hL) (fun w hw => by
    obtain ⟨F', h1, h2, h3⟩ := (hw.pick is hpk).lend
    exact Calls.mono (hc F' w h2 h1) (fun e w' ⟨x, e1, e2, e3⟩ => ⟨x, e1, e2, h3 _ _ e3⟩)) hS h
theorem s_callP0 (is : List Nat) {M R : List Atom} {as1 : Array Operand} {ts : Array TypeId} {g : FuncId} {fs cs : Array Value} {vs L : List Value} {X : Type} {v : X → Value} {pf : X → Prop} {M' : X → List Atom} (hpk : picks A is = some (M ++ R))
    (ho : opAt ops n l i = some (none, .call ⟨.value x, as1, ts⟩, ty)) (hx : ev l x = some (.func (.func g) fs cs)) (has : evs l as1.toList = some vs) (hL : fs.toList ++ vs ++ cs.toList = L) [hg : Enters P g]
    (hc : ∀ (F' : Nat → Prop) w, (∀ w', Fr F' w w' → St F w₀ R w') → St F' w M w → Calls P g L.toArray w (fun e w' => ∃ x, e = .returned (v x) ∧ pf x ∧ St F' w (M' x) w')) (hS : ∀ x w, St F w₀ (M' x ++ R) w → S w) (h : ∀ x, pf x → SX P ops S K p n l (St F w₀ (M' x ++ R))) : SX P ops S K (.st false i p) n l (St F w₀ A) :=
  SX.enter (C' := fun x w => St F w₀ (M' x ++ R) w) ho (fun _ _ _ he h1 _ => run_call he h1 hx has hL) (fun w hw => by
    obtain ⟨F', h1, h2, h3⟩ := (hw.pick is hpk).lend
    exact Calls.mono (hc F' w h2 h1) (fun e w' ⟨x, e1, e2, e3⟩ => ⟨x, e1, e2, h3 _ _ e3⟩)) hS h
end
end Go.Sx
end
section
/- Lists of numbers in memory, and what a slice of numbers that comes in gives a walk. No condition. -/
namespace Go.Sx
open Go Go.ChangeShapes Go.WideShapes

/-- The cells of a list of numbers. -/
def ints (k : IntKind) (l : List Int) : List Value := l.map (Value.int k)
def nats (k : IntKind) (l : List Nat) : List Value := l.map (fun x => Value.int k (x : Nat))
theorem ints_len {w : World} {A : Option Addr} {n : Nat} {k : IntKind} {l : List Int} (h : Has (sl 1 A n (ints k l)) w) : l.length = n := by
  have := h.sl_len
  simpa [ints] using this
theorem nats_len {w : World} {A : Option Addr} {n : Nat} {k : IntKind} {l : List Nat} (h : Has (sl 1 A n (nats k l)) w) : l.length = n := by
  have := h.sl_len
  simpa [nats] using this
theorem ints_one (k : IntKind) (l : List Int) : (ints k l).all (·.oneCell') = true := by
  simp [ints, Value.oneCell']
theorem nats_one (k : IntKind) (l : List Nat) : (nats k l).all (·.oneCell') = true := by
  simp [nats, Value.oneCell']
theorem intsAt {k : IntKind} {l : List Int} {i : Nat} (h : i < l.length) : (ints k l)[i]? = some (.int k (l.getD i 0)) := by
  simp [ints, h]
theorem natsAt {k : IntKind} {l : List Nat} {i : Nat} (h : i < l.length) : (nats k l)[i]? = some (.int k (l.getD i 0 : Nat)) := by
  simp [nats, h]
theorem nats_ints (k : IntKind) (l : List Nat) : nats k l = ints k (l.map Int.ofNat) := by simp [nats, ints]
theorem ints_range (k : IntKind) (l : List Int) : ints k l = (List.range l.length).map (fun j => .int k (l.getD j 0)) := by
  apply List.ext_getElem?
  intro j
  by_cases hj : j < l.length
  · rw [intsAt hj]; simp [hj]
  · rw [List.getElem?_eq_none (by simp [ints]; omega), List.getElem?_eq_none (by simp; omega)]
theorem Has.sl_take {w : World} {sz n : Nat} {A : Option Addr} {vs : List Value} (h : Has (sl sz A n vs) w) {q : Nat} (hq : q ≤ n) : Has (sl sz A q (vs.take (q * sz))) w := by
  obtain ⟨D, ⟨h1, h2⟩, h3⟩ := h
  refine ⟨D, ⟨?_, fun hn => ?_⟩, h3⟩
  · rw [List.length_take, h1]
    exact Nat.min_eq_left (Nat.mul_le_mul_right _ hq)
  · obtain ⟨k1, k2, k3⟩ := h2 (by omega)
    refine ⟨k1, k2, fun j v hj => ?_⟩
    rw [List.getElem?_take] at hj
    split at hj
    · exact k3 j v hj
    · cases hj

theorem open_slI {H : Type} {enc : TypeId × Value → H} {P : Program} {W : World} {base b0 : Nat} {spare : Nat → Bool} {held : Bool} {t e : TypeId} {k : IntKind} {v : Value} {d : DataW H} {ps : List MemPlace}
    (ht : P.underlying t = some (.slice e)) (he : P.underlying e = some (.int k)) (hc : P.cellsOf e = 1) (hval : Value.okWide P W .any b0 t v) (hd : DataW.Trod enc P W base spare held t v d ps) :
    ∃ A n c zs, v = .slice A n c ∧ n ≤ c ∧ (c : Int) ≤ 9223372036854775807 ∧ zs.length = n ∧ Has (sl 1 A n (ints k zs)) W ∧ ∀ z ∈ zs, (Lit.int k z).wf = true := by
  obtain ⟨A, n, c, rfl⟩ := okWide_slice ht hval
  obtain ⟨fuel, hf⟩ := hd
  rcases open_ints ht he hc hf with ⟨hcs, _⟩ | ⟨a, len, cap, zs, hcs, _, hl, hm, hz, _, hcell, hw⟩
  · have hcs2 : [Value.slice A n c] = [.slice none 0 0] := hcs
    simp only [List.cons.injEq, Value.slice.injEq, and_true] at hcs2
    obtain ⟨rfl, rfl, rfl⟩ := hcs2
    exact ⟨none, 0, 0, [], rfl, Nat.le_refl _, by omega, rfl, Has.sl_nil W 1 none, fun z hz => by simp at hz⟩
  · have hcs2 : [Value.slice A n c] = [.slice (some a) len cap] := hcs
    simp only [List.cons.injEq, Value.slice.injEq, and_true] at hcs2
    obtain ⟨rfl, rfl, rfl⟩ := hcs2
    have hv2 := hval
    unfold Value.okWide at hv2
    simp only [ht] at hv2
    unfold Cell.okWide at hv2
    simp only [ht] at hv2
    unfold Cell.ok at hv2
    simp only [ht] at hv2
    obtain ⟨_, hcap, _, hspot, _⟩ := hv2
    have hlz : n ≤ zs.length := by rw [hz]; split <;> omega
    have hlen : (zs.take n).length = n := by rw [List.length_take]; exact Nat.min_eq_left hlz
    refine ⟨some a, n, c, zs.take n, rfl, hl, hcap, hlen, ?_, fun z hz => hw z (List.mem_of_mem_take hz)⟩
    by_cases hn : n = 0
    · subst hn
      exact Has.sl_nil W 1 (some a)
    · have h0 := hcell 0 (by omega)
      have ha : a = ⟨a.block, a.off, none⟩ := by cases a; simp_all
      refine ⟨fun b => b = a.block, ⟨by simp only [ints, List.length_map, hlen, Nat.mul_one], fun _ => ⟨by simp only [ob, oo]; rw [← ha], rfl, fun j v hj => ?_⟩⟩, fun b hb => ?_⟩
      · have hjn : j < n := by
          have := (List.getElem?_eq_some_iff.1 hj).1
          simp only [ints, List.length_map, hlen] at this
          exact this
        rw [intsAt (by omega)] at hj
        have hc2 := hcell j (by omega)
        rw [ha, add_at] at hc2
        simp only [ob, oo]
        rw [hc2, ← hj]
        simp [hjn]
      · subst hb
        have hc2 := hcell 0 (by omega)
        have := World.block_lt_of_cell? W _ hc2
        rwa [block_add] at this
end Go.Sx
end
section
/- Entries: what they are, their rows in memory; stars of atoms. No condition. -/
namespace Go.Proofs.YtcdmmfpgeagimaaDoor
open Go Go.Sx
set_option maxRecDepth 100000
/-- An entry: its key, whether it is dropped, where its data lies, what it is. -/
structure EntG where
  k : Int
  tr : Bool
  A : Option Addr
  c : Nat
  l : List Nat
def EntG.row (e : EntG) : List Value := [.int .i64 e.k, .bool e.tr, .slice e.A e.l.length e.c]
def EntG.agg (e : EntG) : Value := .agg #[.int .i64 e.k, .bool e.tr, .slice e.A e.l.length e.c]
def rowsE (es : List EntG) : List Value := es.flatMap EntG.row
def EntG.dat (e : EntG) : Atom := own 5 1 e.A e.l.length e.c (nats .u8 e.l)
def datsE (es : List EntG) : List Atom := es.map EntG.dat
/-- What an entry is, wherever it lies. -/
def EntG.abs (e : EntG) : Int × Bool × List Nat := (e.k, e.tr, e.l)
def absE (es : List EntG) : List (Int × Bool × List Nat) := es.map EntG.abs
theorem rowsE_len : ∀ es : List EntG, (rowsE es).length = es.length * 3
  | [] => rfl
  | e :: es => by
    have ih := rowsE_len es
    show (e.row ++ rowsE es).length = (es.length + 1) * 3
    rw [List.length_append, ih]
    show 3 + es.length * 3 = _
    omega
theorem rowsE_at : ∀ {es : List EntG} {i : Nat} {e : EntG} {j : Nat} {v : Value}, es[i]? = some e → e.row[j]? = some v → (rowsE es)[i * 3 + j]? = some v
  | [], i, e, j, v, h, _ => by simp at h
  | e0 :: es, 0, e, j, v, h, hv => by
    obtain rfl : e0 = e := by simpa using h
    show (e0.row ++ rowsE es)[0 * 3 + j]? = _
    rw [Nat.zero_mul, Nat.zero_add, List.getElem?_append_left (List.getElem?_eq_some_iff.1 hv).1]
    exact hv
  | e0 :: es, i + 1, e, j, v, h, hv => by
    have ih := rowsE_at (es := es) (i := i) (by simpa using h) hv
    show (e0.row ++ rowsE es)[(i + 1) * 3 + j]? = _
    rw [List.getElem?_append_right (by show 3 ≤ _; omega), ← ih]
    congr 1
    show (i + 1) * 3 + j - 3 = _
    omega
theorem rowsE_app (a b : List EntG) : rowsE (a ++ b) = rowsE a ++ rowsE b := List.flatMap_append
theorem rowsE_take (es : List EntG) (i : Nat) : (rowsE es).take (i * 3) = rowsE (es.take i) := by
  by_cases h : i ≤ es.length
  · have e1 := congrArg rowsE (List.take_append_drop i es)
    rw [rowsE_app] at e1
    rw [← e1]
    exact List.take_left' (by rw [rowsE_len, List.length_take, Nat.min_eq_left h])
  · rw [List.take_of_length_le (by rw [rowsE_len]; omega), List.take_of_length_le (by omega)]
theorem rowsE_drop (es : List EntG) (i : Nat) : (rowsE es).drop (i * 3) = rowsE (es.drop i) := by
  by_cases h : i ≤ es.length
  · have e1 := congrArg rowsE (List.take_append_drop i es)
    rw [rowsE_app] at e1
    rw [← e1]
    exact List.drop_left' (by rw [rowsE_len, List.length_take, Nat.min_eq_left h])
  · rw [List.drop_of_length_le (by rw [rowsE_len]; omega), List.drop_of_length_le (by omega)]
    rfl
theorem rowsE_one (es : List EntG) : (rowsE es).all (·.oneCell') = true := by
  rw [List.all_eq_true]
  intro v hv
  obtain ⟨e, _, he⟩ := List.mem_flatMap.1 hv
  have : v = .int .i64 e.k ∨ v = .bool e.tr ∨ v = .slice e.A e.l.length e.c := by simpa [EntG.row] using he
  rcases this with rfl | rfl | rfl <;> rfl
/-- A row of entries that are read, loaded. -/
theorem _root_.Go.Sx.Has.entRow {A : Option Addr} {es : List EntG} {w : World} (h : Has (sl 3 A es.length (rowsE es)) w) {i : Nat} {e : EntG} (he : es[i]? = some e) : ∀ j v, e.row[j]? = some v → w.cell? ⟨ob A, oo A + i * 3 + j, none⟩ = some v := fun j v hj => by
  have hn : es.length ≠ 0 := fun h0 => by
    have := (List.getElem?_eq_some_iff.1 he).1
    omega
  have := (h.sl_cell hn (rowsE_at he hj)).2
  rw [Nat.add_assoc]
  exact this
theorem _root_.Go.Sx.Has.starM {X : List Atom} {A : Atom} {w : World} (h : Has (starA X) w) (hA : A ∈ X) : Has A w := by
  obtain ⟨D, h1, h2⟩ := h
  have key : ∀ (X : List Atom) (D : Nat → Prop), starOk X w D → (∀ k, D k → k < w.heap.size) → A ∈ X → Has A w := by
    intro X
    induction X with
    | nil => intro D _ _ hm; cases hm
    | cons B X ih =>
      rintro D ⟨D1, D2, k1, k2, k3, k4⟩ hlt hm
      rcases List.mem_cons.1 hm with rfl | hm
      · exact ⟨D1, k1, fun k hk => hlt k ((k3 k).2 (.inl hk))⟩
      · exact ih D2 k2 (fun k hk => hlt k ((k3 k).2 (.inr hk))) hm
  exact key X D h1 h2 hA
theorem _root_.Go.Sx.St.starPerm {F : Nat → Prop} {w₀ w : World} {X X' L : List Atom} (hp : X.Perm X') (h : St F w₀ (starA X :: L) w) : St F w₀ (starA X' :: L) w := (St.star X').1 (((St.star X).2 h).perm (hp.append_right L))
theorem _root_.Go.Sx.St.starMore {F : Nat → Prop} {w₀ w : World} {A : Atom} {X L : List Atom} (h : St F w₀ (A :: starA X :: L) w) : St F w₀ (starA (X ++ [A]) :: L) w := by
  have h1 : St F w₀ (starA X :: (A :: L)) w := h.perm (List.Perm.swap ..)
  have h2 := (St.star X).2 h1
  exact St.starPerm (X := A :: X) (List.perm_append_singleton A X).symm ((St.star (A :: X)).1 (h2.perm List.perm_middle))
theorem _root_.Go.Sx.St.nilStarS {F : Nat → Prop} {w₀ w : World} {L : List Atom} (h : St F w₀ L w) : St F w₀ (starA [] :: L) w := (St.star []).1 h
theorem _root_.Go.Sx.St.starLess {F : Nat → Prop} {w₀ w : World} {X X' L : List Atom} (hs : X'.Sublist X) (h : St F w₀ (starA X :: L) w) : St F w₀ (starA X' :: L) w := by
  obtain ⟨Y, hY⟩ := hs.exists_perm_append
  have h1 := (St.star X).2 h
  have h2 : St F w₀ (Y ++ (X' ++ L)) w := h1.perm ((hY.append_right L).trans (by rw [← List.append_assoc]; exact List.Perm.append_right L List.perm_append_comm))
  exact (St.star X').1 (St.dropL Y h2)
/-- Something that a buffer, or a model, is told. -/
structure DoG where
  e : EntG
  cl : Bool
def DoG.row (d : DoG) : List Value := d.e.row ++ [.bool d.cl]
def rowsD (ds : List DoG) : List Value := ds.flatMap DoG.row
theorem rowsD_len : ∀ ds : List DoG, (rowsD ds).length = ds.length * 4
  | [] => rfl
  | d :: ds => by
    have ih := rowsD_len ds
    show (d.row ++ rowsD ds).length = (ds.length + 1) * 4
    rw [List.length_append, ih]
    show 4 + ds.length * 4 = _
    omega
theorem rowsD_at : ∀ {ds : List DoG} {i : Nat} {d : DoG} {j : Nat} {v : Value}, ds[i]? = some d → d.row[j]? = some v → (rowsD ds)[i * 4 + j]? = some v
  | [], i, d, j, v, h, _ => by simp at h
  | d0 :: ds, 0, d, j, v, h, hv => by
    obtain rfl : d0 = d := by simpa using h
    show (d0.row ++ rowsD ds)[0 * 4 + j]? = _
    rw [Nat.zero_mul, Nat.zero_add, List.getElem?_append_left (List.getElem?_eq_some_iff.1 hv).1]
    exact hv
  | d0 :: ds, i + 1, d, j, v, h, hv => by
    have ih := rowsD_at (ds := ds) (i := i) (by simpa using h) hv
    show (d0.row ++ rowsD ds)[(i + 1) * 4 + j]? = _
    rw [List.getElem?_append_right (by show 4 ≤ _; omega), ← ih]
    congr 1
    show (i + 1) * 4 + j - 4 = _
    omega
theorem _root_.Go.Sx.Has.doRow {A : Option Addr} {ds : List DoG} {w : World} (h : Has (sl 4 A ds.length (rowsD ds)) w) {i : Nat} {d : DoG} (hd : ds[i]? = some d) : ∀ j v, d.row[j]? = some v → w.cell? ⟨ob A, oo A + i * 4 + j, none⟩ = some v := fun j v hj => by
  have hn : ds.length ≠ 0 := fun h0 => by
    have := (List.getElem?_eq_some_iff.1 hd).1
    omega
  have := (h.sl_cell hn (rowsD_at hd hj)).2
  rw [Nat.add_assoc]
  exact this
end Go.Proofs.YtcdmmfpgeagimaaDoor
end
section
/- The contracts of the making of a field, and of the document's own field. Conditions: an m that may be, where a field's m is asked for. -/
namespace Go.Proofs.YtcdmmfpgeagimaaDoor
open Go.Sx Go.Fm
set_option maxRecDepth 100000

def polyI (m : Int) : Nat := if m < 3 ∨ 14 < m then 0 else polyOf m.toNat
def polyC : Array Value := #[.int .i64 11, .int .i64 19, .int .i64 37, .int .i64 67, .int .i64 137, .int .i64 285, .int .i64 529, .int .i64 1033, .int .i64 2053, .int .i64 4179, .int .i64 8219, .int .i64 17475]
theorem polyC_at {m : Int} (h1 : ¬ m < 3) (h2 : ¬ 14 < m) : polyC[(m - 3).toNat]? = some (.int .i64 (polyI m : Nat)) := by
  have : m = 3 ∨ m = 4 ∨ m = 5 ∨ m = 6 ∨ m = 7 ∨ m = 8 ∨ m = 9 ∨ m = 10 ∨ m = 11 ∨ m = 12 ∨ m = 13 ∨ m = 14 := by omega
  rcases this with rfl | rfl | rfl | rfl | rfl | rfl | rfl | rfl | rfl | rfl | rfl | rfl <;> rfl
theorem polyI_ok {m : Nat} (h : Ok m) : polyI (m : Nat) = polyOf m := by
  have h1 := h.lo
  have h2 := h.hi
  unfold polyI
  rw [if_neg (by omega)]
  rfl
theorem polyI_zero (m : Int) : ((polyI m : Nat) : Int) = 0 ↔ (m < 3 ∨ 14 < m) := by
  unfold polyI
  by_cases h : m < 3 ∨ 14 < m
  · simp [h]
  · rw [if_neg h]
    have hm : Ok m.toNat := ⟨by omega, by omega⟩
    have := (poly_spec hm).1
    have := Nat.two_pow_pos m.toNat
    constructor
    · intro h3; omega
    · intro h3; exact absurd h3 h
theorem polyI_bad {m : Int} (h : m < 3 ∨ 14 < m) : ((0 : Nat) : Int) = (polyI m : Nat) := ((polyI_zero m).2 h).symm
theorem poly_lt (m : Int) : polyI m < 2 ^ 63 := by
  unfold polyI
  split
  · exact Nat.two_pow_pos 63
  · have hm : Ok m.toNat := ⟨by omega, by omega⟩
    exact Nat.lt_of_lt_of_le (poly_spec hm).2 (Nat.pow_le_pow_right (by omega) (by have := hm.hi; omega))

theorem poly_spec1 (m : Int) (w : World) (hm : -9223372036854775000 ≤ m ∧ m ≤ 9223372036854775000) : Spec1 Tryd.prog 138 [.int .i64 m] w (.int .i64 (polyI m : Nat)) := by
  refine spec_of Tryd.func138 rfl Tryd.ntmps138 rfl ?_
  refine CW.seq ?_
  refine CW.reg [0] rfl ?_
  refine s_as 2 rfl rfl ?_
  refine SX.next ?_
  refine CW.seq ?_
  refine CW.reg [0, 1, 2] rfl ?_
  refine s_buildA 4 rfl rfl (cells := polyC) rfl ?_
  refine s_alloc 3 rfl (fun _ _ => trivial) (fun ga => ?_)
  refine s_stAll 0 rfl rfl (by kernel_rfl) rfl rfl rfl (by decide) (fun _ _ => trivial) ?_
  refine SX.next ?_
  refine CW.seq ?_
  refine CW.seq ?_
  refine CW.reg [0, 1, 2, 3, 4, 5] rfl ?_
  refine s_mv 5 rfl rfl ?_
  refine s_lt 6 rfl rfl rfl rfl ?_
  refine s_mv 7 rfl rfl ?_
  refine SX.bool 7 rfl (fun hb => ?_) (fun hb => ?_)
  · skip
    replace hb := of_decide_eq_true hb
    refine SX.skip rfl ?_
    refine SX.skip rfl ?_
    refine s_pickT 10 rfl rfl rfl ?_
    refine SX.next ?_
    refine CW.condT rfl ?_
    refine CW.seq ?_
    refine CW.reg [0] rfl ?_
    refine s_as 2 rfl rfl ?_
    refine SX.next ?_
    refine CW.ret ?_
    exact KN.ret (rs := [.tmp 2]) Tryd.results138 rfl (fun w hw => ⟨by rw [oneOf, ← polyI_bad (.inl hb)]; rfl, hw.nothing⟩)
  · skip
    replace hb := of_decide_eq_false hb
    refine s_mv 8 rfl rfl ?_
    refine s_gt 9 rfl rfl rfl rfl ?_
    refine s_pickF 10 rfl rfl rfl ?_
    refine SX.next ?_
    refine CW.test rfl (fun hc => ?_) (fun hc => ?_)
    · skip
      refine CW.seq ?_
      refine CW.reg [0] rfl ?_
      refine s_as 2 rfl rfl ?_
      refine SX.next ?_
      refine CW.ret ?_
      exact KN.ret (rs := [.tmp 2]) Tryd.results138 rfl (fun w hw => ⟨by rw [oneOf, ← polyI_bad (.inr hc)]; rfl, hw.nothing⟩)
    · skip
      refine CW.skip ?_
      refine KN.code ?_
      refine CW.seq ?_
      refine CW.reg [0, 1, 2, 3, 4] rfl ?_
      refine s_mv 11 rfl rfl ?_
      refine s_sub 12 rfl rfl rfl (w64 (by omega)) ?_
      refine s_iaR 13 (m - 3).toNat rfl rfl rfl (by omega) (by omega) ?_
      refine s_ldB 14 0 rfl rfl rfl (by rw [Nat.zero_add, Nat.mul_one]; exact polyC_at hb hc) ?_
      refine s_as 2 rfl rfl ?_
      refine SX.next ?_
      refine CW.ret ?_
      exact KN.ret (rs := [.tmp 2]) Tryd.results138 rfl (fun w hw => ⟨rfl, hw.nothing⟩)

theorem rpoly_spec (m : Int) (w : World) (hm : -9223372036854775000 ≤ m ∧ m ≤ 9223372036854775000) : Spec1 Tryd.prog 126 [.int .i64 m] w (.int .i64 (polyI m : Nat)) := by
  refine spec_of Tryd.func126 rfl Tryd.ntmps126 rfl ?_
  refine CW.seq ?_
  refine CW.reg [0] rfl ?_
  refine s_as 2 rfl rfl ?_
  refine SX.next ?_
  refine CW.seq ?_
  refine CW.seq ?_
  refine CW.reg [0, 1, 2, 3, 4, 5] rfl ?_
  refine s_mv 3 rfl rfl ?_
  refine s_lt 4 rfl rfl rfl rfl ?_
  refine s_mv 5 rfl rfl ?_
  refine SX.bool 5 rfl (fun hb => ?_) (fun hb => ?_)
  · skip
    replace hb := of_decide_eq_true hb
    refine SX.skip rfl ?_
    refine SX.skip rfl ?_
    refine s_pickT 8 rfl rfl rfl ?_
    refine SX.next ?_
    refine CW.condT rfl ?_
    refine CW.seq ?_
    refine CW.reg [0] rfl ?_
    refine s_as 2 rfl rfl ?_
    refine SX.next ?_
    refine CW.ret ?_
    exact KN.ret (rs := [.tmp 2]) Tryd.results126 rfl (fun w hw => ⟨by rw [oneOf, ← polyI_bad (.inl hb)]; rfl, hw.nothing⟩)
  · skip
    replace hb := of_decide_eq_false hb
    refine s_mv 6 rfl rfl ?_
    refine s_gt 7 rfl rfl rfl rfl ?_
    refine s_pickF 8 rfl rfl rfl ?_
    refine SX.next ?_
    refine CW.test rfl (fun hc => ?_) (fun hc => ?_)
    · skip
      refine CW.seq ?_
      refine CW.reg [0] rfl ?_
      refine s_as 2 rfl rfl ?_
      refine SX.next ?_
      refine CW.ret ?_
      exact KN.ret (rs := [.tmp 2]) Tryd.results126 rfl (fun w hw => ⟨by rw [oneOf, ← polyI_bad (.inr hc)]; rfl, hw.nothing⟩)
    · skip
      refine CW.skip ?_
      refine KN.code ?_
      refine CW.seq ?_
      refine CW.reg [0, 1, 2, 3, 4, 5] rfl ?_
      refine s_bsl 9 rfl rfl (cells := polyC) (by kernel_rfl) rfl (fun _ _ => trivial) (fun ga => ?_)
      refine s_mv 10 rfl rfl ?_
      refine s_sub 11 rfl rfl rfl (w64 (by omega)) ?_
      refine s_ia0 12 (m - 3).toNat rfl rfl rfl (by omega) (by omega) ?_
      refine s_ldB 13 0 rfl rfl rfl (polyC_at hb hc) ?_
      refine s_as 2 rfl rfl ?_
      refine SX.next ?_
      refine CW.ret ?_
      exact KN.ret (rs := [.tmp 2]) Tryd.results126 rfl (fun w hw => ⟨rfl, hw.nothing⟩)

def ErrFieldN : Nat := 7
/-- The logarithms that the first i powers lay. -/
def lgs (m : Nat) : Nat → Nat → Nat
  | 0, _ => 0
  | i + 1, x => if x = ex m i then i else lgs m i x
def newExp (m i : Nat) : Array Value := ((List.range (N m)).map (fun j => .int .i64 ((if j < i then ex m j else 0 : Nat)))).toArray
def newLog (m i : Nat) : Array Value := ((List.range (N m + 1)).map (fun x => .int .i64 (lgs m i x : Nat))).toArray
def newCells (m ge gl : Nat) : Array Value := #[.int .i64 (m : Nat), .int .i64 ((N m + 1 : Nat) : Int), .slice (some ⟨ge, 0, none⟩) (N m) (N m), .slice (some ⟨gl, 0, none⟩) (N m + 1) (N m + 1)]
theorem newExp_zero (m : Nat) : (List.replicate (N m) (.int .i64 0)).toArray = newExp m 0 := by
  rw [rep_range]; unfold newExp; simp
theorem newLog_zero (m : Nat) : (List.replicate (N m + 1) (.int .i64 0)).toArray = newLog m 0 := by
  rw [rep_range]; unfold newLog; simp [lgs]
theorem newExp_set {m i : Nat} (_hi : i < N m) : (newExp m i).setIfInBounds i (.int .i64 (ex m i : Nat)) = newExp m (i + 1) := by
  unfold newExp
  rw [set_range]
  congr 1
  apply List.map_congr_left
  intro j _
  by_cases h : j = i
  · subst h; simp
  · rw [if_neg h]
    by_cases h2 : j < i
    · rw [if_pos h2, if_pos (by omega)]
    · rw [if_neg h2, if_neg (by omega)]
theorem newLog_set (m i : Nat) : (newLog m i).setIfInBounds (ex m i) (.int .i64 (i : Nat)) = newLog m (i + 1) := by
  unfold newLog
  rw [set_range]
  congr 1
  apply List.map_congr_left
  intro j _
  by_cases h : j = ex m i
  · rw [if_pos h]; simp [lgs, h]
  · rw [if_neg h]; simp [lgs, h]
theorem size_newExp (m i : Nat) : (newExp m i).size = N m := by simp [newExp]
theorem size_newLog (m i : Nat) : (newLog m i).size = N m + 1 := by simp [newLog]
theorem newExp_all (m : Nat) : newExp m (N m) = (expCells m).toArray := by
  unfold newExp expCells
  congr 1
  apply List.map_congr_left
  intro j hj
  rw [if_pos (by simpa using hj)]
theorem lgs_zero {m : Nat} (h : Ok m) (i : Nat) : lgs m i 0 = 0 := by
  induction i with
  | zero => rfl
  | succ i ih => have := (ex_lt h i).1; unfold lgs; rw [if_neg (by omega), ih]
theorem lgs_ex {m : Nat} (h : Ok m) : ∀ i, i ≤ N m → ∀ j, j < i → lgs m i (ex m j) = j
  | 0, _, j, hj => by omega
  | i + 1, hi, j, hj => by
    unfold lgs
    by_cases hji : j = i
    · subst hji; simp
    · rw [if_neg (fun he => hji (ex_inj h (by omega) (by omega) he))]
      exact lgs_ex h i (by omega) j (by omega)
theorem newLog_all {m : Nat} (h : Ok m) : newLog m (N m) = (logCells m).toArray := by
  unfold newLog logCells
  congr 1
  apply List.map_congr_left
  intro x hx
  by_cases h0 : x = 0
  · subst h0; rw [lgs_zero h]; simp
  · rw [if_neg h0]
    have hx2 : x < 2 ^ m := by rw [← N_succ]; simpa using hx
    obtain ⟨i, hi, rfl⟩ := ex_onto h (by omega) hx2
    rw [lgs_ex h _ (Nat.le_refl _) i hi, lg_ex h hi]
theorem shl_one {m : Nat} (h : Ok m) : IntKind.i64.wrap (1 * 2 ^ (min ((m : Nat) : Int).toNat IntKind.i64.bits)) = ((N m + 1 : Nat) : Int) := by
  have hp := N_pos h
  have h2 := h.hi
  have e : ((1 : Nat) : Int) * 2 ^ (min ((m : Nat) : Int).toNat IntKind.i64.bits) = 1 * 2 ^ (min ((m : Nat) : Int).toNat IntKind.i64.bits) := rfl
  have hs := N_succ m
  rw [← e, shl_nat (by omega) (by omega)]
  omega
theorem xt_val {m i : Nat} (h : Ok m) (hc : ((N m + 1 : Nat) : Int) ≤ ((2 * ex m i : Nat) : Int)) : ibit .xor .i64 ((2 * ex m i : Nat) : Int) (polyI (m : Nat) : Nat) = (ex m (i + 1) : Nat) := by
  have h1 := (ex_lt h i).2
  have hp := N_pos h
  have hs := N_succ m
  rw [ibit_xor_nat (by omega) (poly_lt _), polyI_ok h, ex_succ, xt_eq, if_pos (by omega)]
theorem xt_val2 {m i : Nat} (hc : ¬ ((N m + 1 : Nat) : Int) ≤ ((2 * ex m i : Nat) : Int)) : ((2 * ex m i : Nat) : Int) = (ex m (i + 1) : Nat) := by
  have hs := N_succ m
  rw [ex_succ, xt_eq, if_neg (by omega)]
/-- The field that is made. -/
theorem field_made {m : Nat} (h : Ok m) {g ge gl TF TI : Nat} {F : Nat → Prop} {w₀ w : World} (hTF : TF = 175) (hTI : TI = 3) (hst : St F w₀ [blk gl TI (newLog m (N m)), blk ge TI (newExp m (N m)), blk g TF (newCells m ge gl)] w) : St F w₀ [fieldA g m] w := by
  subst hTF hTI
  obtain ⟨h1, h2, h3⟩ := hst
  refine ⟨h1, h2, ?_⟩
  obtain ⟨D1, ⟨a1, a2⟩, a3, D2, ⟨b1, b2⟩, b3, D3, ⟨c1, c2⟩, c3, _⟩ := h3
  refine ⟨fun k => D1 k ∨ D2 k ∨ D3 k, ⟨ge, gl, .inr (.inr ((c1 _).2 rfl)), .inr (.inl ((b1 _).2 rfl)), .inl ((a1 _).2 rfl), c2, by rw [← newExp_all]; exact b2, by rw [← newLog_all h]; exact a2⟩, ?_, trivial⟩
  rintro k (hk | hk | hk)
  · exact a3 k hk
  · exact ⟨fun hf => (b3 k hk).1 (.inl hf), (b3 k hk).2⟩
  · exact ⟨fun hf => (c3 k hk).1 (.inl (.inl hf)), (c3 k hk).2⟩

theorem new_bad (m : Int) (e : Nat → Addr) (w : World) (hz : Er e w 7) (hm : -9223372036854775000 ≤ m ∧ m ≤ 9223372036854775000) (hb : m < 3 ∨ 14 < m) : Spec1 Tryd.prog 119 [.int .i64 m] w (two (.pointer none) (errV e ErrFieldN)) := by
  refine spec_of Tryd.func119 rfl Tryd.ntmps119 rfl ?_
  refine CW.seq ?_
  refine CW.reg [0, 1] rfl ?_
  refine s_as 2 rfl rfl ?_
  refine s_as 3 rfl rfl ?_
  refine SX.next ?_
  refine CW.seq ?_
  refine CW.seq ?_
  refine CW.reg [0, 1, 2] rfl ?_
  refine s_mv 7 rfl rfl ?_
  refine s_call1 8 rfl rfl rfl rfl (fun w hw => poly_spec1 _ _ (by omega)) (fun _ _ => trivial) ?_
  refine s_eq 9 rfl rfl rfl (decide_eq_true ((polyI_zero m).2 hb)) ?_
  refine SX.next ?_
  refine CW.condT rfl ?_
  refine CW.seq ?_
  refine CW.regD (.st true 0 (.st true 1 (.st true 2 .done))) (Sto w []) mixed (by kernel_rfl) (fun _ h => h.drew) (fun _ h => h) ?_
  refine s_ldS 10 rfl rfl (fun _ h => h.cell (by assumption)) ?_
  refine s_as 2 rfl rfl ?_
  refine s_as 3 rfl rfl ?_
  refine SX.next ?_
  refine CW.ret ?_
  exact KN.ret (rs := [.tmp 2, .tmp 3]) Tryd.results119 rfl (fun w hw => ⟨rfl, hw.nothing⟩)

theorem new_spec (m : Nat) (w : World) (hm : Ok m) : SpecX Tryd.prog 119 [.int .i64 (m : Nat)] w (X := Nat) (fun g => two (.pointer (some ⟨g, 0, none⟩)) .nilIface) (fun _ => True) (fun g => [fieldA g m]) := by
  have hp := N_pos hm
  have hs := N_succ m
  have hlo := hm.lo
  have hhi := hm.hi
  have hpz : ¬ ((polyI (m : Nat) : Nat) : Int) = 0 := fun h => by have := (polyI_zero _).1 h; omega
  refine spec_of Tryd.func119 rfl Tryd.ntmps119 rfl ?_
  refine CW.seq ?_
  refine CW.reg [0, 1] rfl ?_
  refine s_as 2 rfl rfl ?_
  refine s_as 3 rfl rfl ?_
  refine SX.next ?_
  refine CW.seq ?_
  refine CW.seq ?_
  refine CW.reg [0, 1, 2] rfl ?_
  refine s_mv 7 rfl rfl ?_
  refine s_call1 8 rfl rfl rfl rfl (fun w hw => poly_spec1 _ _ (by omega)) (fun _ _ => trivial) ?_
  refine s_eq 9 rfl rfl rfl (decide_eq_false hpz) ?_
  refine SX.next ?_
  refine CW.condF rfl ?_
  refine CW.skip ?_
  refine KN.code ?_
  refine CW.seq ?_
  refine CW.reg [0, 1, 2, 3, 4, 5] rfl ?_
  refine s_mv 11 rfl rfl ?_
  refine s_mv 12 rfl rfl ?_
  refine s_shl 13 rfl rfl rfl (by omega) (shl_one hm) ?_
  refine s_build 14 rfl rfl (cells := #[.int .i64 (m : Nat), .int .i64 ((N m + 1 : Nat) : Int), .slice none 0 0, .slice none 0 0]) rfl ?_
  refine s_box 15 rfl rfl (fun _ _ => trivial) (fun g => ?_)
  refine s_as 4 rfl rfl ?_
  refine SX.next ?_
  refine CW.cut (G := Nat × Nat × Nat × Nat) (fun q => [(0, .int .i64 (m : Nat)), (4, .pointer (some ⟨q.2.2.1, 0, none⟩))]) (fun q => Sto w [blk q.1 3 (newLog m 0), blk q.2.1 3 (newExp m 0), blk q.2.2.1 175 (newCells m q.2.1 q.1)]) (fun _ => True) ?_ ?_
  · skip
    refine CW.regD (.st true 0 (.st true 1 (.st true 2 (.st true 3 (.st true 4 (.st true 5 (.st true 6 (.st true 8 (.st true 9 (.st true 10 (.st true 11 (.alt 7 (.st true 13 (.st true 14 (.alt 12 (.st false 15 (.st true 16 (.st true 17 (.st false 18 .done)))) (.st false 15 (.st false 12 (.st true 16 (.st true 17 (.st false 18 .done)))))))) (.st false 12 (.st false 7 (.st true 13 (.st true 14 (.st false 15 (.st true 16 (.st true 17 (.st false 18 .done)))))))))))))))))))) (fun w => w.cell? ⟨g, 1, none⟩ = some (.int .i64 ((N m + 1 : Nat) : Int))) mixed (by kernel_rfl) (fun _ h => h.drew) (fun _ h => h.blkCell (i := 0) rfl rfl) ?_
    refine s_mv 16 rfl rfl ?_
    refine s_mv 17 rfl rfl ?_
    refine s_mv 18 rfl rfl ?_
    refine s_nil 19 rfl rfl ?_
    refine s_fa 20 rfl rfl ?_
    refine s_ldS 21 rfl rfl (fun _ h => h) ?_
    refine s_sub 22 rfl rfl rfl (r := (N m : Nat)) (by rw [sizem1]; exact w64 (by omega)) ?_
    refine s_mv 24 rfl rfl ?_
    refine s_nil 25 rfl rfl ?_
    refine s_fa 26 rfl rfl ?_
    refine s_ldS 27 rfl rfl (fun _ h => h) ?_
    refine SX.alt ?_ ?_
    · skip
      refine s_make 23 (N m) rfl rfl rfl rfl rfl (by omega) (fun _ h => h.blkCell (i := 0) rfl rfl) (fun ge => ?_)
      refine s_nil 29 rfl rfl ?_
      refine s_fa 30 rfl rfl ?_
      refine SX.alt ?_ ?_
      · skip
        refine s_make 28 (N m + 1) rfl rfl rfl rfl rfl (by omega) (fun _ h => h.blkCell (i := 1) rfl rfl) (fun gl => ?_)
        refine s_stB 2 rfl rfl rfl rfl rfl (by simp [Value.cells]) (fun _ h => h.blkCell (i := 2) rfl rfl) ?_
        refine s_nil 31 rfl rfl ?_
        refine s_fa 32 rfl rfl ?_
        refine s_stB 2 rfl rfl rfl rfl rfl (by simp [Value.cells]) (fun _ h => h.blkCell (i := 2) rfl rfl) ?_
        refine SX.end_ ?_
        exact KN.join (gl, ge, g, 0) ⟨rfl, rfl, trivial⟩ (fun w h => by have := h.pick [0, 0, 0] rfl; rw [newLog_zero, newExp_zero] at this; exact this) trivial
      · skip
        refine s_stB 1 rfl rfl rfl rfl rfl (by simp [Value.cells]) (fun _ h => h.blkCell (i := 1) rfl rfl) ?_
        refine s_make 28 (N m + 1) rfl rfl rfl rfl rfl (by omega) (fun _ h => h.blkCell (i := 1) rfl rfl) (fun gl => ?_)
        refine s_nil 31 rfl rfl ?_
        refine s_fa 32 rfl rfl ?_
        refine s_stB 2 rfl rfl rfl rfl rfl (by simp [Value.cells]) (fun _ h => h.blkCell (i := 2) rfl rfl) ?_
        refine SX.end_ ?_
        exact KN.join (gl, ge, g, 0) ⟨rfl, rfl, trivial⟩ (fun w h => by have := h.pick [0, 0, 0] rfl; rw [newLog_zero, newExp_zero] at this; exact this) trivial
    · skip
      refine s_make 28 (N m + 1) rfl rfl rfl rfl rfl (by omega) (fun _ h => h.blkCell (i := 0) rfl rfl) (fun gl => ?_)
      refine s_make 23 (N m) rfl rfl rfl rfl rfl (by omega) (fun _ h => h.blkCell (i := 1) rfl rfl) (fun ge => ?_)
      refine s_nil 29 rfl rfl ?_
      refine s_fa 30 rfl rfl ?_
      refine s_stB 2 rfl rfl rfl rfl rfl (by simp [Value.cells]) (fun _ h => h.blkCell (i := 2) rfl rfl) ?_
      refine s_nil 31 rfl rfl ?_
      refine s_fa 32 rfl rfl ?_
      refine s_stB 2 rfl rfl rfl rfl rfl (by simp [Value.cells]) (fun _ h => h.blkCell (i := 2) rfl rfl) ?_
      refine SX.end_ ?_
      exact KN.join (gl, ge, g, 0) ⟨rfl, rfl, trivial⟩ (fun w h => by have := h.pick [1, 0, 0] rfl; rw [newLog_zero, newExp_zero] at this; exact this) trivial
  · skip
    intro q _
    refine CW.seq ?_
    refine CW.reg [0] rfl ?_
    refine s_as 5 rfl rfl ?_
    refine SX.next ?_
    refine CW.seq ?_
    refine CW.seq ?_
    refine CW.reg [0, 1, 2, 3, 4, 5] rfl ?_
    refine s_mv 33 rfl rfl ?_
    refine s_nil 34 rfl rfl ?_
    refine s_fa 35 rfl rfl ?_
    refine s_ldB 36 2 rfl rfl rfl rfl ?_
    refine s_len 37 rfl rfl ?_
    refine s_mv 38 rfl rfl ?_
    refine SX.next ?_
    refine CW.block ?_
    refine CW.loop (G := Nat × Nat × Nat × Nat) (fun q => [(0, .int .i64 (m : Nat)), (4, .pointer (some ⟨q.2.2.1, 0, none⟩)), (5, .int .i64 (ex m q.2.2.2 : Nat)), (37, .int .i64 (N m : Nat)), (38, .int .i64 (q.2.2.2 : Nat))]) (fun q => Sto w [blk q.1 3 (newLog m q.2.2.2), blk q.2.1 3 (newExp m q.2.2.2), blk q.2.2.1 175 (newCells m q.2.1 q.1)]) (fun q => q.2.2.2 ≤ N m) (fun q => N m - q.2.2.2) (q.1, q.2.1, q.2.2.1, 0) ⟨rfl, rfl, rfl, rfl, rfl, trivial⟩ (fun _ h => h) (Nat.zero_le _) ?_
    rintro ⟨gl, ge, g, i⟩ hi
    simp only at hi ⊢
    have hex := ex_lt hm i
    have hse := size_newExp m i
    have hsl := size_newLog m i
    refine CW.seq ?_
    refine CW.reg [0] rfl ?_
    refine s_lt 39 rfl rfl rfl rfl ?_
    refine SX.next ?_
    refine CW.seq ?_
    refine CW.test rfl (fun hc => ?_) (fun hc => ?_)
    · skip
      replace hc : i < N m := by omega
      refine CW.skip ?_
      refine KN.code ?_
      refine CW.cut (G := Unit) (fun _ => [(0, .int .i64 (m : Nat)), (4, .pointer (some ⟨g, 0, none⟩)), (5, .int .i64 (ex m (i + 1) : Nat)), (37, .int .i64 (N m : Nat)), (38, .int .i64 (i : Nat))]) (fun _ => Sto w [blk gl 3 (newLog m (i + 1)), blk ge 3 (newExp m (i + 1)), blk g 175 (newCells m ge gl)]) (fun _ => True) ?_ ?_
      · skip
        refine CW.block ?_
        refine CW.seq ?_
        refine CW.reg [0, 1] rfl ?_
        refine s_mv 40 rfl rfl ?_
        refine s_as 6 rfl rfl ?_
        refine SX.next ?_
        refine CW.cut (G := Unit) (fun _ => [(0, .int .i64 (m : Nat)), (4, .pointer (some ⟨g, 0, none⟩)), (5, .int .i64 (ex m i : Nat)), (37, .int .i64 (N m : Nat)), (38, .int .i64 (i : Nat))]) (fun _ => Sto w [blk gl 3 (newLog m (i + 1)), blk ge 3 (newExp m (i + 1)), blk g 175 (newCells m ge gl)]) (fun _ => True) ?_ ?_
        · skip
          refine CW.regD (.st true 0 (.st true 1 (.st true 2 (.st true 3 (.st true 4 (.st true 5 (.st true 6 (.st true 7 (.st true 8 (.st true 9 (.st true 10 (.st true 11 (.st true 12 (.st false 13 (.st true 14 (.st false 15 .done)))))))))))))))) (Sto w [blk g 175 (newCells m ge gl)]) mixed (by kernel_rfl) (fun _ h => h.drew) (fun _ h => h.pick [2] rfl) ?_
          refine s_mv 41 rfl rfl ?_
          refine s_nil 42 rfl rfl ?_
          refine s_fa 43 rfl rfl ?_
          refine s_ldS 44 rfl rfl (fun _ h => h.blkCell (i := 0) rfl rfl) ?_
          refine s_mv 45 rfl rfl ?_
          refine s_mv 46 rfl rfl ?_
          refine s_nil 47 rfl rfl ?_
          refine s_fa 48 rfl rfl ?_
          refine s_ldS 49 rfl rfl (fun _ h => h.blkCell (i := 0) rfl rfl) ?_
          refine s_mv 50 rfl rfl ?_
          refine s_mv 51 rfl rfl ?_
          refine s_mv 52 rfl rfl ?_
          refine s_ia0 53 i rfl rfl rfl rfl hc ?_
          refine s_stB 1 rfl rfl rfl rfl rfl (by omega) (fun _ h => h.pick [2] rfl) ?_
          refine s_ia0 54 (ex m i) rfl rfl rfl rfl (by omega) ?_
          refine s_stB 0 rfl rfl rfl rfl rfl (by omega) (fun _ h => h.pick [2] rfl) ?_
          refine SX.end_ ?_
          exact KN.join () ⟨rfl, rfl, rfl, rfl, rfl, trivial⟩ (fun w h => by rw [← newLog_set, ← newExp_set hc]; exact h) trivial
        · skip
          intro _ _
          refine CW.seq ?_
          refine CW.reg [0, 1, 2] rfl ?_
          refine s_mv 55 rfl rfl ?_
          refine s_mul 56 rfl rfl rfl (r := ((2 * ex m i : Nat) : Int)) (by rw [show ((ex m i : Nat) : Int) * 2 = ((2 * ex m i : Nat) : Int) by omega]; exact w64 (by omega)) ?_
          refine s_as 5 rfl rfl ?_
          refine SX.next ?_
          refine CW.seq ?_
          refine CW.reg [0, 1, 2, 3, 4, 5] rfl ?_
          refine s_mv 57 rfl rfl ?_
          refine s_mv 58 rfl rfl ?_
          refine s_nil 59 rfl rfl ?_
          refine s_fa 60 rfl rfl ?_
          refine s_ldB 61 2 rfl rfl rfl rfl ?_
          refine s_ge 62 rfl rfl rfl rfl ?_
          refine SX.next ?_
          refine CW.test rfl (fun hc => ?_) (fun hc => ?_)
          · skip
            refine CW.reg [0, 1, 2, 3, 4] rfl ?_
            refine s_mv 63 rfl rfl ?_
            refine s_mv 64 rfl rfl ?_
            refine s_call1 65 rfl rfl rfl rfl (fun w hw => poly_spec1 _ _ (by omega)) (fun _ _ => trivial) ?_
            refine s_bit 66 rfl rfl rfl rfl (xt_val hm hc) ?_
            refine s_as 5 rfl rfl ?_
            refine SX.end_ ?_
            refine KN.blk ?_
            exact KN.join () ⟨rfl, rfl, rfl, rfl, rfl, trivial⟩ (fun w h => h) trivial
          · skip
            refine CW.skip ?_
            refine KN.blk ?_
            exact KN.join () ⟨rfl, rfl, by rw [← xt_val2 hc]; rfl, rfl, rfl, trivial⟩ (fun w h => h) trivial
      · skip
        intro _ _
        refine CW.reg [0, 1] rfl ?_
        refine s_add 67 rfl rfl rfl (r := ((i + 1 : Nat) : Int)) (w64 (by omega)) ?_
        refine s_mv 38 rfl rfl ?_
        refine SX.end_ ?_
        exact KN.back (gl, ge, g, i + 1) ⟨rfl, rfl, rfl, rfl, rfl, trivial⟩ (fun _ h => h) hc (by simp only; omega)
    · skip
      obtain rfl : i = N m := by omega
      refine CW.exit rfl ?_
      refine KN.code ?_
      refine CW.seq ?_
      refine CW.reg [0, 1, 2] rfl ?_
      refine s_mv 68 rfl rfl ?_
      refine s_as 2 rfl rfl ?_
      refine s_as 3 rfl rfl ?_
      refine SX.next ?_
      refine CW.ret ?_
      exact KN.ret (rs := [.tmp 2, .tmp 3]) Tryd.results119 rfl (fun w hw => ⟨g, rfl, trivial, field_made hm rfl rfl hw⟩)
end Go.Proofs.YtcdmmfpgeagimaaDoor
end
section
/- More closed facts on the types of the program, as instances. No condition. -/
namespace Go.Proofs.YtcdmmfpgeagimaaDoor
open Go.Sx
set_option maxRecDepth 100000
instance : BoolT Tryd.prog 4 := ⟨Tryd.underlying4⟩
instance : RowT Tryd.prog 7 4 := RowT.mk' Tryd.underlying7 rfl (by kernel_rfl)
instance : RowT Tryd.prog 8 4 := RowT.mk' Tryd.underlying8 rfl (by kernel_rfl)
instance : RowT Tryd.prog 13 2 := RowT.mk' Tryd.underlying13 rfl (by kernel_rfl)
instance : RowT Tryd.prog 14 2 := RowT.mk' Tryd.underlying14 rfl (by kernel_rfl)
instance : PtrD Tryd.prog 15 := PtrD.mk' Tryd.underlying15 (by kernel_rfl) (by kernel_rfl)
instance : PtrD Tryd.prog 17 := PtrD.mk' Tryd.underlying17 (by kernel_rfl) (by kernel_rfl)
instance : RowT Tryd.prog 18 1 := RowT.mk' Tryd.underlying18 rfl (by kernel_rfl)
instance : RowT Tryd.prog 19 1 := RowT.mk' Tryd.underlying19 rfl (by kernel_rfl)
instance : RowT Tryd.prog 26 5 := RowT.mk' Tryd.underlying26 rfl (by kernel_rfl)
instance : RowT Tryd.prog 27 5 := RowT.mk' Tryd.underlying27 rfl (by kernel_rfl)
instance : PtrD Tryd.prog 43 := PtrD.mk' Tryd.underlying43 (by kernel_rfl) (by kernel_rfl)
instance : PtrD Tryd.prog 69 := PtrD.mk' Tryd.underlying69 (by kernel_rfl) (by kernel_rfl)
instance : RowT Tryd.prog 72 3 := RowT.mk' Tryd.underlying72 rfl (by kernel_rfl)
instance : RowT Tryd.prog 73 3 := RowT.mk' Tryd.underlying73 rfl (by kernel_rfl)
instance : RowT Tryd.prog 74 4 := RowT.mk' Tryd.underlying74 rfl (by kernel_rfl)
instance : RowT Tryd.prog 75 4 := RowT.mk' Tryd.underlying75 rfl (by kernel_rfl)
instance : PtrD Tryd.prog 88 := PtrD.mk' Tryd.underlying88 (by kernel_rfl) (by kernel_rfl)
instance : RowT Tryd.prog 89 4 := RowT.mk' Tryd.underlying89 rfl (by kernel_rfl)
instance : RowT Tryd.prog 90 4 := RowT.mk' Tryd.underlying90 rfl (by kernel_rfl)
instance : PtrD Tryd.prog 96 := PtrD.mk' Tryd.underlying96 (by kernel_rfl) (by kernel_rfl)
instance : PtrD Tryd.prog 99 := PtrD.mk' Tryd.underlying99 (by kernel_rfl) (by kernel_rfl)
instance : RowT Tryd.prog 101 4 := RowT.mk' Tryd.underlying101 rfl (by kernel_rfl)
instance : RowT Tryd.prog 102 4 := RowT.mk' Tryd.underlying102 rfl (by kernel_rfl)
instance : RowT Tryd.prog 105 3 := RowT.mk' Tryd.underlying105 rfl (by kernel_rfl)
instance : RowT Tryd.prog 106 3 := RowT.mk' Tryd.underlying106 rfl (by kernel_rfl)
instance : RowT Tryd.prog 138 2 := RowT.mk' Tryd.underlying138 rfl (by kernel_rfl)
instance : RowT Tryd.prog 140 4 := RowT.mk' Tryd.underlying140 rfl (by kernel_rfl)
instance : RowT Tryd.prog 141 4 := RowT.mk' Tryd.underlying141 rfl (by kernel_rfl)
instance : RowT Tryd.prog 147 2 := RowT.mk' Tryd.underlying147 rfl (by kernel_rfl)
instance : RowT Tryd.prog 148 2 := RowT.mk' Tryd.underlying148 rfl (by kernel_rfl)
instance : RowT Tryd.prog 151 3 := RowT.mk' Tryd.underlying151 rfl (by kernel_rfl)
instance : RowT Tryd.prog 152 3 := RowT.mk' Tryd.underlying152 rfl (by kernel_rfl)
instance : RowT Tryd.prog 155 2 := RowT.mk' Tryd.underlying155 rfl (by kernel_rfl)
instance : RowT Tryd.prog 156 2 := RowT.mk' Tryd.underlying156 rfl (by kernel_rfl)
instance : RowT Tryd.prog 174 4 := RowT.mk' Tryd.underlying174 rfl (by kernel_rfl)
instance : RowT Tryd.prog 175 4 := RowT.mk' Tryd.underlying175 rfl (by kernel_rfl)
instance : RowT Tryd.prog 197 12 := RowT.mk' Tryd.underlying197 rfl (by kernel_rfl)
instance : PtrD Tryd.prog 201 := PtrD.mk' Tryd.underlying201 (by kernel_rfl) (by kernel_rfl)
instance : PtrD Tryd.prog 205 := PtrD.mk' Tryd.underlying205 (by kernel_rfl) (by kernel_rfl)
instance : RowT Tryd.prog 206 2 := RowT.mk' Tryd.underlying206 rfl (by kernel_rfl)
instance : RowT Tryd.prog 207 2 := RowT.mk' Tryd.underlying207 rfl (by kernel_rfl)
instance : RowT Tryd.prog 212 1 := RowT.mk' Tryd.underlying212 rfl (by kernel_rfl)
instance : RowT Tryd.prog 213 1 := RowT.mk' Tryd.underlying213 rfl (by kernel_rfl)
instance : PtrD Tryd.prog 234 := PtrD.mk' Tryd.underlying234 (by kernel_rfl) (by kernel_rfl)
instance : PtrD Tryd.prog 236 := PtrD.mk' Tryd.underlying236 (by kernel_rfl) (by kernel_rfl)
instance : PtrD Tryd.prog 239 := PtrD.mk' Tryd.underlying239 (by kernel_rfl) (by kernel_rfl)
instance : RowT Tryd.prog 241 4 := RowT.mk' Tryd.underlying241 rfl (by kernel_rfl)
instance : RowT Tryd.prog 242 4 := RowT.mk' Tryd.underlying242 rfl (by kernel_rfl)
instance : PtrD Tryd.prog 249 := PtrD.mk' Tryd.underlying249 (by kernel_rfl) (by kernel_rfl)
instance : RowT Tryd.prog 252 11 := RowT.mk' Tryd.underlying252 rfl (by kernel_rfl)
instance : RowT Tryd.prog 253 11 := RowT.mk' Tryd.underlying253 rfl (by kernel_rfl)
instance : RowT Tryd.prog 255 1 := RowT.mk' Tryd.underlying255 rfl (by kernel_rfl)
instance : RowT Tryd.prog 256 1 := RowT.mk' Tryd.underlying256 rfl (by kernel_rfl)
end Go.Proofs.YtcdmmfpgeagimaaDoor
end
section
/- The contracts of shaleref's helpers on lists of numbers. Conditions: the lists are read where they lie. -/
namespace Go.Proofs.YtcdmmfpgeagimaaDoor
open Go.Sx
set_option maxRecDepth 100000
theorem getD_ext {l1 l2 : List Int} (hl : l1.length = l2.length) (h : ∀ j, j < l1.length → l1.getD j 0 = l2.getD j 0) : l1 = l2 := by
  apply List.ext_getElem hl
  intro j h1 h2
  have := h j h1
  simpa [List.getD, h1, h2] using this

theorem sameInts_spec (A B : Option Addr) (n c k d : Nat) (l1 l2 : List Int) (w : World) (ha : Has (sl 1 A n (ints .i64 l1)) w) (hb : Has (sl 1 B k (ints .i64 l2)) w) (hn : n < 2 ^ 62) : Spec1 Tryd.prog 15 [.slice A n c, .slice B k d] w (.bool (decide (l1 = l2))) := by
  have hla := ints_len ha
  have hlb := ints_len hb
  refine spec_of Tryd.func15 rfl Tryd.ntmps15 rfl ?_
  refine CW.seq ?_
  refine CW.reg [0] rfl ?_
  refine s_as 4 rfl rfl ?_
  refine SX.next ?_
  refine CW.seq ?_
  refine CW.seq ?_
  refine CW.reg [0, 1, 2, 3, 4] rfl ?_
  refine s_mv 7 rfl rfl ?_
  refine s_len 8 rfl rfl ?_
  refine s_mv 9 rfl rfl ?_
  refine s_len 10 rfl rfl ?_
  refine s_ne 11 rfl rfl rfl rfl ?_
  refine SX.next ?_
  refine CW.test rfl (fun hc => ?_) (fun hc => ?_)
  · skip
    refine CW.seq ?_
    refine CW.reg [0] rfl ?_
    refine s_as 4 rfl rfl ?_
    refine SX.next ?_
    refine CW.ret ?_
    exact KN.ret (rs := [.tmp 4]) Tryd.results15 rfl (fun w hw => ⟨by rw [decide_eq_false (fun h => hc (by rw [← hla, ← hlb, h]))]; rfl, hw.nothing⟩)
  · skip
    refine CW.skip ?_
    refine KN.code ?_
    refine CW.seq ?_
    refine CW.seq ?_
    refine CW.reg [0] rfl ?_
    refine s_as 5 rfl rfl ?_
    refine SX.next ?_
    refine CW.block ?_
    refine CW.loop (G := Nat) (fun i => [(0, .slice A n c), (1, .slice B k d), (5, .int .i64 (i : Nat))]) (fun _ => Sto w []) (fun i => i ≤ n ∧ ∀ j, j < i → l1.getD j 0 = l2.getD j 0) (fun i => n - i) 0 ⟨rfl, rfl, rfl, trivial⟩ (fun _ h => h) ⟨Nat.zero_le _, fun j hj => by omega⟩ ?_
    intro i hi
    refine CW.seq ?_
    refine CW.seq ?_
    refine CW.reg [0, 1, 2, 3] rfl ?_
    refine s_mv 12 rfl rfl ?_
    refine s_mv 13 rfl rfl ?_
    refine s_len 14 rfl rfl ?_
    refine s_lt 15 rfl rfl rfl rfl ?_
    refine SX.next ?_
    refine CW.test rfl (fun hc => ?_) (fun hc => ?_)
    · skip
      refine CW.skip ?_
      refine KN.code ?_
      refine CW.seq ?_
      refine CW.block ?_
      refine CW.seq ?_
      refine CW.regD (.st true 0 (.st true 1 (.st true 2 (.st true 3 (.st true 4 (.st true 5 (.st true 6 (.st true 7 (.st true 8 (.st true 9 .done)))))))))) (Sto w []) mixed (by kernel_rfl) (fun _ h => h.drew) (fun _ h => h) ?_
      refine s_mv 18 rfl rfl ?_
      refine s_mv 19 rfl rfl ?_
      refine s_iaV 20 i (fun w hw => hw.old ha) rfl rfl rfl rfl (by omega) ?_
      refine s_ldVS 21 (fun w hw => hw.old ha) rfl rfl (by rw [Nat.mul_one]; exact intsAt (by omega)) (by omega) ?_
      refine s_mv 22 rfl rfl ?_
      refine s_mv 23 rfl rfl ?_
      refine s_iaV 24 i (fun w hw => hw.old hb) rfl rfl rfl rfl (by omega) ?_
      refine s_ldVS 25 (fun w hw => hw.old hb) rfl rfl (by rw [Nat.mul_one]; exact intsAt (by omega)) (by omega) ?_
      refine s_eq 26 rfl rfl rfl rfl ?_
      refine s_as 6 rfl rfl ?_
      refine SX.next ?_
      refine CW.seq ?_
      refine CW.reg [0, 1] rfl ?_
      refine s_mv 27 rfl rfl ?_
      refine s_not 28 rfl rfl ?_
      refine SX.next ?_
      refine CW.cond rfl (fun hc => ?_) (fun hc => ?_)
      · skip
        have hd : l1.getD i 0 ≠ l2.getD i 0 := by simpa using hc
        refine CW.seq ?_
        refine CW.reg [0] rfl ?_
        refine s_as 4 rfl rfl ?_
        refine SX.next ?_
        refine CW.ret ?_
        exact KN.ret (rs := [.tmp 4]) Tryd.results15 rfl (fun w hw => ⟨by rw [decide_eq_false (fun h => hd (by rw [h]))]; rfl, hw.nothing⟩)
      · skip
        have hd : l1.getD i 0 = l2.getD i 0 := by simpa using hc
        refine CW.skip ?_
        refine KN.blk ?_
        refine KN.code ?_
        refine CW.reg [0, 1, 2] rfl ?_
        refine s_mv 16 rfl rfl ?_
        refine s_add 17 rfl rfl rfl (r := ((i + 1 : Nat) : Int)) (w64 (by omega)) ?_
        refine s_as 5 rfl rfl ?_
        refine SX.end_ ?_
        exact KN.back (i + 1) ⟨rfl, rfl, rfl, trivial⟩ (fun _ h => h) ⟨by omega, fun j hj => by
  rcases Nat.lt_or_eq_of_le (Nat.le_of_lt_succ hj) with h | rfl
  · exact hi.2 j h
  · exact hd⟩ (by omega)
    · skip
      refine CW.exit rfl ?_
      refine KN.code ?_
      refine CW.seq ?_
      refine CW.reg [0] rfl ?_
      refine s_as 4 rfl rfl ?_
      refine SX.next ?_
      refine CW.ret ?_
      exact KN.ret (rs := [.tmp 4]) Tryd.results15 rfl (fun w hw => ⟨by rw [decide_eq_true (getD_ext (by omega) (fun j hj => hi.2 j (by omega)))]; rfl, hw.nothing⟩)
end Go.Proofs.YtcdmmfpgeagimaaDoor
end
section
/- Powers, inverses, orders and traces in the fields of 2^m elements, as plain numbers: no program. No condition. -/
namespace Go.Proofs.YtcdmmfpgeagimaaDoor
open Go.Sx Go.Fm

section
variable {m : Nat}

theorem gmk_stop {a b : Nat} : ∀ {k : Nat}, b >>> k = 0 → ∀ j, gmk m a b (k + j) = gmk m a b k := by
  intro k hk j
  induction j with
  | zero => rfl
  | succ j ih =>
    have h1 : b.testBit (k + j) = false := by
      rw [← Nat.testBit_shiftRight, hk]; simp
    rw [← Nat.add_assoc]
    simp [gmk, h1, ih]
theorem gm_stop {a b k : Nat} (h : b >>> k = 0) (hk : k ≤ m) : gmk m a b k = gm m a b := by
  obtain ⟨j, rfl⟩ := Nat.exists_eq_add_of_le hk
  exact (gmk_stop h j).symm
theorem shr_lt {b k : Nat} (hb : b < 2 ^ m) (h : 0 < b >>> k) : k < m := by
  rcases Nat.lt_or_ge k m with h1 | h1
  · exact h1
  · rw [Nat.shiftRight_eq_div_pow, Nat.div_eq_of_lt (Nat.lt_of_lt_of_le hb (Nat.pow_le_pow_right (by omega) h1))] at h
    omega

/-- A power. -/
def fpw (m a : Nat) : Nat → Nat
  | 0 => 1
  | n + 1 => gm m (fpw m a n) a
theorem one_lt (h : Ok m) : 1 < 2 ^ m := Nat.one_lt_two_pow (by have := h.lo; omega)
theorem fpw_lt (h : Ok m) (a n : Nat) : fpw m a n < 2 ^ m := by
  induction n with
  | zero => exact one_lt h
  | succ n ih => exact gm_lt h ih _
theorem fpw_add (h : Ok m) {a : Nat} (ha : a < 2 ^ m) (i j : Nat) : fpw m a (i + j) = gm m (fpw m a i) (fpw m a j) := by
  induction j with
  | zero => rw [Nat.add_zero]; exact (gm_one_right h (fpw_lt h a i)).symm
  | succ j ih => rw [← Nat.add_assoc]; show gm m (fpw m a (i + j)) a = _; rw [ih, gm_assoc h (fpw_lt h a i) (fpw_lt h a j) ha]; rfl
theorem fpw_sq (h : Ok m) {a : Nat} (ha : a < 2 ^ m) (n : Nat) : fpw m (gm m a a) n = fpw m a (2 * n) := by
  induction n with
  | zero => rfl
  | succ n ih =>
    have e : 2 * (n + 1) = 2 * n + 1 + 1 := by omega
    rw [e]
    show gm m (fpw m (gm m a a) n) (gm m a a) = gm m (gm m (fpw m a (2 * n)) a) a
    rw [ih, gm_assoc h (fpw_lt h a _) ha ha]
theorem fpw_ex (h : Ok m) (i n : Nat) : fpw m (ex m i) n = ex m (i * n) := by
  induction n with
  | zero => rfl
  | succ n ih => show gm m (fpw m (ex m i) n) (ex m i) = _; rw [ih, gm_ex h, Nat.mul_succ]
theorem fpw_zero (n : Nat) : fpw m 0 (n + 1) = 0 := gm_zero_right m _
theorem fpw_el (h : Ok m) {a : Nat} (ha : a < 2 ^ m) (h0 : a ≠ 0) (n : Nat) : fpw m a n = ex m (lg m a * n) := by
  have h2 := (lg_spec h (by omega : 1 ≤ a) ha).2
  have := fpw_ex h (lg m a) n
  rw [h2] at this
  exact this
theorem em_mul_em (l : Nat) (n : Int) (h : Ok m) : em m ((l : Nat) * n) = (l * em m n) % N m := by
  have hp := N_pos h
  have h1 := Int.emod_nonneg n (b := ((N m : Nat) : Int)) (by omega)
  rw [← em_nat (m := m)]
  apply em_congr
  unfold em
  rw [Int.natCast_mul, Int.toNat_of_nonneg h1, Int.mul_emod, Int.mul_emod ((l : Nat) : Int) (n % _), Int.emod_emod]
theorem pw_fpw (h : Ok m) {a : Nat} (ha : a < 2 ^ m) (h0 : a ≠ 0) (n : Int) : pw m a n = fpw m a (em m n) := by
  unfold pw
  rw [if_neg h0, fpw_el h ha h0, em_mul_em _ _ h, ex_mod h]
theorem inv_fpw (h : Ok m) {a : Nat} (ha : a < 2 ^ m) (h0 : a ≠ 0) : inv m a = fpw m a (N m - 1) := by
  have hp := N_pos h
  rw [fpw_el h ha h0]
  unfold inv
  rw [ex_eq_iff h]
  have e : em m (-(lg m a : Nat)) = em m ((lg m a * (N m - 1) : Nat)) := by
    apply em_congr
    rw [Int.natCast_mul, Int.natCast_sub (by omega)]
    have : -((lg m a : Nat) : Int) = (lg m a : Nat) * ((N m : Nat) - 1) - (lg m a : Nat) * (N m : Nat) := by rw [Int.mul_sub, Int.mul_one]; omega
    rw [this, Int.sub_emod, Int.mul_emod_left]
    simp
  rw [e, em_nat, Nat.mod_mod]
theorem two_lt (h : Ok m) : 2 < 2 ^ m := by
  have := Nat.pow_le_pow_right (n := 2) (by omega) h.lo
  omega
theorem ex_one (h : Ok m) : ex m 1 = 2 := by
  have h1 := xtk_one h (k := 1) (by have := h.lo; omega)
  exact h1
theorem lg_two (h : Ok m) : lg m 2 = 1 := by
  have hp := N_pos h
  have := lg_ex h (i := 1) (by omega)
  rw [ex_one h] at this
  exact this
theorem pw_two (h : Ok m) (n : Int) : pw m 2 n = ex m (em m n) := by
  unfold pw
  rw [if_neg (by omega), lg_two h]
  simp

theorem ord_pos (h : Ok m) (a : Nat) : 0 < ord m a := by
  have hp := N_pos h
  exact Nat.div_pos (Nat.le_of_dvd (by omega) (Nat.gcd_dvd_left _ _)) (Nat.gcd_pos_of_pos_left _ (by omega))
theorem fpw_one_iff (h : Ok m) {a : Nat} (ha : a < 2 ^ m) (h0 : a ≠ 0) (n : Nat) : fpw m a n = 1 ↔ ord m a ∣ n := by
  have hp := N_pos h
  have hg : 0 < Nat.gcd (N m) (lg m a) := Nat.gcd_pos_of_pos_left _ (by omega)
  rw [fpw_el h ha h0, ← ex_zero m, ex_eq_iff h, Nat.zero_mod]
  obtain ⟨x, hx⟩ := Nat.gcd_dvd_left (N m) (lg m a)
  obtain ⟨y, hy⟩ := Nat.gcd_dvd_right (N m) (lg m a)
  have ex' : ord m a = x := by unfold ord; rw [Nat.div_eq_of_eq_mul_right hg hx]
  have hc : Nat.Coprime x y := by
    have := Nat.coprime_div_gcd_div_gcd hg
    rwa [Nat.div_eq_of_eq_mul_right hg hx, Nat.div_eq_of_eq_mul_right hg hy] at this
  rw [ex', ← Nat.dvd_iff_mod_eq_zero]
  constructor
  · rintro ⟨c, hc'⟩
    have h1 : y * n = x * c := by
      have h2 : Nat.gcd (N m) (lg m a) * (y * n) = Nat.gcd (N m) (lg m a) * (x * c) := by
        rw [← Nat.mul_assoc, ← Nat.mul_assoc, ← hy, ← hx]; exact hc'
      exact Nat.eq_of_mul_eq_mul_left hg h2
    exact hc.dvd_of_dvd_mul_left ⟨c, h1⟩
  · rintro ⟨c, rfl⟩
    refine ⟨y * c, ?_⟩
    generalize Nat.gcd (N m) (lg m a) = d at hx hy
    rw [hx, hy]
    ac_rfl
theorem order_run (h : Ok m) {a : Nat} (ha : a < 2 ^ m) (h0 : a ≠ 0) {n : Nat} (hn : 0 < n) (hle : n ≤ ord m a) (h1 : fpw m a n = 1) : n = ord m a := by
  have := Nat.le_of_dvd hn ((fpw_one_iff h ha h0 n).1 h1)
  omega
theorem order_go (h : Ok m) {a : Nat} (ha : a < 2 ^ m) (h0 : a ≠ 0) {n : Nat} (_hn : 0 < n) (hle : n ≤ ord m a) (h1 : fpw m a n ≠ 1) : n < ord m a := by
  rcases Nat.lt_or_ge n (ord m a) with h2 | h2
  · exact h2
  · have e : n = ord m a := by omega
    exact absurd ((fpw_one_iff h ha h0 n).2 (e ▸ Nat.dvd_refl _)) h1
theorem log_run (h : Ok m) {a : Nat} (ha : a < 2 ^ m) (h0 : a ≠ 0) {n : Nat} (hle : n ≤ lg m a) (h1 : ex m n = a) : n = lg m a := by
  have h2 := lg_spec h (by omega : 1 ≤ a) ha
  exact ex_inj h (by omega) h2.1 (h1.trans h2.2.symm)
theorem log_go (h : Ok m) {a : Nat} (ha : a < 2 ^ m) (h0 : a ≠ 0) {n : Nat} (hle : n ≤ lg m a) (h1 : ex m n ≠ a) : n < lg m a := by
  have h2 := lg_spec h (by omega : 1 ≤ a) ha
  rcases Nat.lt_or_ge n (lg m a) with h3 | h3
  · exact h3
  · have e : n = lg m a := by omega
    exact absurd (e ▸ h2.2) h1
theorem ex_two (h : Ok m) (n : Nat) : gm m (ex m n) 2 = ex m (n + 1) := by
  rw [← ex_one h, gm_ex h]
end

/-! ### What the document's product does, bit by bit -/
section
variable {m : Nat}
theorem ibit_and_one {x : Nat} (hx : x < 2 ^ 63) : ibit .and .i64 (x : Nat) 1 = ((x % 2 : Nat) : Int) := by
  have := ibit_and_nat (x := x) (y := 1) hx (by decide)
  rw [Nat.and_one_is_mod] at this
  exact this
theorem odd_bit (b k : Nat) : (b >>> k) % 2 = 1 ↔ b.testBit k = true := by
  rw [Nat.testBit_eq_decide_div_mod_eq, Nat.shiftRight_eq_div_pow]
  simp
theorem top_and (_h : Ok m) {x : Nat} (hx : x < 2 ^ m) : ((2 * x) >>> m) % 2 = 1 ↔ 2 ^ m ≤ 2 * x := by
  rw [odd_bit, top_bit (by rw [Nat.pow_succ]; omega)]
  simp
theorem gmk_odd {a b k : Nat} (hc : (((b >>> k) % 2 : Nat) : Int) = 1) : gmk m a b (k + 1) = gmk m a b k ^^^ xtk m k a := by
  have := (odd_bit b k).1 (by omega)
  simp [gmk, this]
theorem gmk_even {a b k : Nat} (hc : ¬ (((b >>> k) % 2 : Nat) : Int) = 1) : gmk m a b (k + 1) = gmk m a b k := by
  have : b.testBit k = false := by
    cases hb : b.testBit k with
    | false => rfl
    | true => exact absurd (by have := (odd_bit b k).2 hb; omega) hc
  simp [gmk, this]
theorem xtk_hi (h : Ok m) {a k : Nat} (ha : a < 2 ^ m) (hc : ((((2 * xtk m k a) >>> m) % 2 : Nat) : Int) = 1) : xtk m (k + 1) a = (2 * xtk m k a) ^^^ polyOf m := by
  have h1 := (top_and h (xtk_lt h k ha)).1 (by omega)
  show xt m (xtk m k a) = _
  rw [xt_eq, if_pos h1]
theorem xtk_lo (h : Ok m) {a k : Nat} (ha : a < 2 ^ m) (hc : ¬ ((((2 * xtk m k a) >>> m) % 2 : Nat) : Int) = 1) : xtk m (k + 1) a = 2 * xtk m k a := by
  have h1 : ¬ 2 ^ m ≤ 2 * xtk m k a := fun h2 => hc (by have := (top_and h (xtk_lt h k ha)).2 h2; omega)
  show xt m (xtk m k a) = _
  rw [xt_eq, if_neg h1]
theorem shr_succ (b k : Nat) : (b >>> k) >>> 1 = b >>> (k + 1) := (Nat.shiftRight_add b k 1).symm
theorem pow_le14 (h : Ok m) : 2 ^ m ≤ 16384 := Nat.pow_le_pow_right (n := 2) (by omega) h.hi
end
end Go.Proofs.YtcdmmfpgeagimaaDoor
end
section
/- The laws of the fields of 2^m elements, as the statements of chapter 2 ask them: plain numbers, no program. No condition. -/
namespace Go.Proofs.YtcdmmfpgeagimaaDoor
open Go.Sx Go.Fm

section
variable {m : Nat}
theorem gm_xor_r (m a b c : Nat) : gm m a (b ^^^ c) = gm m a b ^^^ gm m a c := gm_xor_right m a b c
theorem sq_xor (h : Ok m) {a b : Nat} (ha : a < 2 ^ m) (hb : b < 2 ^ m) : gm m (a ^^^ b) (a ^^^ b) = gm m a a ^^^ gm m b b := by
  rw [gm_xor_left h ha hb, gm_xor_right, gm_xor_right, gm_comm h hb ha]
  rw [Nat.xor_assoc, ← Nat.xor_assoc (gm m a b), Nat.xor_self, Nat.zero_xor]
theorem sqk_xor (h : Ok m) (k : Nat) {a b : Nat} (ha : a < 2 ^ m) (hb : b < 2 ^ m) : sqk m k (a ^^^ b) = sqk m k a ^^^ sqk m k b := by
  induction k with
  | zero => rfl
  | succ k ih => show gm m (sqk m k (a ^^^ b)) (sqk m k (a ^^^ b)) = _; rw [ih, sq_xor h (sqk_lt h k ha) (sqk_lt h k hb)]; rfl
theorem trk_xor (h : Ok m) (k : Nat) {a b : Nat} (ha : a < 2 ^ m) (hb : b < 2 ^ m) : trk m k (a ^^^ b) = trk m k a ^^^ trk m k b := by
  induction k with
  | zero => simp [trk]
  | succ k ih => simp only [trk, ih, sqk_xor h k ha hb, Nat.xor_assoc, xlc]
theorem tr_xor (h : Ok m) {a b : Nat} (ha : a < 2 ^ m) (hb : b < 2 ^ m) : tr m (a ^^^ b) = tr m a ^^^ tr m b := trk_xor h m ha hb
theorem sqk_fpw (h : Ok m) (k : Nat) {a : Nat} (ha : a < 2 ^ m) : sqk m k a = fpw m a (2 ^ k) := by
  induction k with
  | zero => exact (gm_one_left h ha).symm
  | succ k ih => show gm m (sqk m k a) (sqk m k a) = _; rw [ih, ← fpw_add h ha, Nat.pow_succ]; congr 1; omega
theorem fpw_N (h : Ok m) {a : Nat} (ha : a < 2 ^ m) (h0 : a ≠ 0) : fpw m a (N m) = 1 := by
  rw [fpw_el h ha h0, ← ex_zero m, ex_eq_iff h, Nat.mul_mod_left, Nat.zero_mod]
theorem fpw_N1 (h : Ok m) {a : Nat} (ha : a < 2 ^ m) : fpw m a (N m + 1) = a := by
  by_cases h0 : a = 0
  · subst h0; exact fpw_zero _
  · show gm m (fpw m a (N m)) a = a
    rw [fpw_N h ha h0, gm_one_left h ha]
theorem sqk_m (h : Ok m) {a : Nat} (ha : a < 2 ^ m) : sqk m m a = a := by
  rw [sqk_fpw h m ha, ← N_succ, fpw_N1 h ha]
theorem sqk_sq (_h : Ok m) (k a : Nat) : sqk m k (gm m a a) = sqk m (k + 1) a := by
  induction k with
  | zero => rfl
  | succ k ih => show gm m (sqk m k (gm m a a)) (sqk m k (gm m a a)) = _; rw [ih]; rfl
theorem trk_sq (h : Ok m) (k a : Nat) : trk m k (gm m a a) ^^^ a = trk m k a ^^^ sqk m k a := by
  induction k with
  | zero => simp [trk, sqk]
  | succ k ih =>
    simp only [trk, sqk_sq h]
    rw [Nat.xor_assoc, Nat.xor_comm (sqk m (k + 1) a), ← Nat.xor_assoc, ih]
theorem tr_sq (h : Ok m) {a : Nat} (ha : a < 2 ^ m) : tr m (gm m a a) = tr m a := by
  have := trk_sq h m a
  rw [sqk_m h ha] at this
  have e : ∀ x, (x ^^^ a) ^^^ a = x := fun x => by rw [Nat.xor_assoc, Nat.xor_self, Nat.xor_zero]
  have := congrArg (· ^^^ a) this
  simp only [e] at this
  exact this
theorem pw_nat (h : Ok m) {a : Nat} (ha : a < 2 ^ m) (n : Nat) : pw m a (n : Nat) = fpw m a n := by
  by_cases h0 : a = 0
  · subst h0
    unfold pw
    rw [if_pos rfl]
    cases n with
    | zero => rfl
    | succ n => rw [if_neg (by omega), fpw_zero]
  · unfold pw
    rw [if_neg h0, fpw_el h ha h0, ← Int.natCast_mul, em_nat, ex_mod h]
theorem pw_N1 (h : Ok m) {a : Nat} (ha : a < 2 ^ m) : pw m a ((N m : Nat) + 1) = a := by
  have := pw_nat h ha (N m + 1)
  rw [fpw_N1 h ha] at this
  exact this
theorem ex_em_nat (h : Ok m) (n : Nat) : ex m (em m (n : Nat)) = ex m n := by rw [em_nat, ex_mod h]
theorem ex_em_add (h : Ok m) (n o : Nat) : ex m (em m ((n : Nat) + (o : Nat))) = gm m (ex m (em m (n : Nat))) (ex m (em m (o : Nat))) := by
  rw [← Int.natCast_add, ex_em_nat h, ex_em_nat h, ex_em_nat h, gm_ex h]
theorem ex_em_N (h : Ok m) : ex m (em m (N m : Nat)) = 1 := by rw [ex_em_nat h, ex_N h]
theorem pw_ex (h : Ok m) (n o : Nat) : pw m (ex m (em m (n : Nat))) (o : Nat) = ex m (em m ((n : Nat) * (o : Nat))) := by
  rw [ex_em_nat h, pw_nat h (ex_lt h n).2, fpw_ex h, ← Int.natCast_mul, ex_em_nat h]
theorem ex_em_lg (h : Ok m) {a : Nat} (ha : a < 2 ^ m) (h0 : a ≠ 0) : ex m (em m (lg m a : Nat)) = a := by
  rw [ex_em_nat h]
  exact (lg_spec h (by omega) ha).2
theorem pw_ord (h : Ok m) {a : Nat} (ha : a < 2 ^ m) (h0 : a ≠ 0) : pw m a (ord m a : Nat) = 1 := by
  rw [pw_nat h ha]
  exact (fpw_one_iff h ha h0 _).2 (Nat.dvd_refl _)
theorem ord_dvd (m a : Nat) : N m % ord m a = 0 := by
  obtain ⟨x, hx⟩ := Nat.gcd_dvd_left (N m) (lg m a)
  unfold ord
  by_cases hg : Nat.gcd (N m) (lg m a) = 0
  · rw [hg] at hx
    simp at hx
    simp [hx]
  · rw [Nat.div_eq_of_eq_mul_right (by omega) hx]
    conv => lhs; lhs; rw [hx]
    exact Nat.mul_mod_left _ _
theorem div_back (h : Ok m) {a b : Nat} (ha : a < 2 ^ m) (hb : b < 2 ^ m) (h0 : a ≠ 0) : gm m (gm m a b) (inv m a) = b := by
  rw [gm_comm h ha hb, gm_assoc h hb ha (inv_lt h a), gm_inv h ha h0, gm_one_right h hb]
theorem pw_neg (_h : Ok m) {a : Nat} (h0 : a ≠ 0) : pw m a (-1) = inv m a := by
  unfold pw inv
  rw [if_neg h0]
  congr 2
  omega
theorem xor_one_ne (x : Nat) : x ^^^ 1 ≠ x := fun he => by
  have := congrArg (· ^^^ x) he
  simp only [Nat.xor_self] at this
  rw [Nat.xor_comm x 1, Nat.xor_assoc, Nat.xor_self, Nat.xor_zero] at this
  omega
theorem root_sq (h : Ok m) {a : Nat} (ha : a < 2 ^ m) : gm m (pw m a ((2 ^ (m - 1) : Nat))) (pw m a ((2 ^ (m - 1) : Nat))) = a := by
  have hlo := h.lo
  rw [pw_nat h ha, ← fpw_add h ha]
  have e : 2 ^ (m - 1) + 2 ^ (m - 1) = N m + 1 := by
    have h2 : 2 ^ m = 2 ^ (m - 1) * 2 := by
      have := Nat.pow_succ (n := 2) (m := m - 1)
      rw [show (m - 1).succ = m by omega] at this
      exact this
    have := N_succ m
    omega
  rw [e, fpw_N1 h ha]
theorem root_other (h : Ok m) {r a : Nat} (hr : r < 2 ^ m) (hrr : gm m r r = a) : gm m (r ^^^ 1) (r ^^^ 1) ≠ a := by
  rw [sq_xor h hr (one_lt h), hrr, gm_one_left h (one_lt h)]
  exact xor_one_ne a
theorem pw_lt (h : Ok m) (a : Nat) (n : Int) : pw m a n < 2 ^ m := by
  unfold pw
  split
  · split
    · exact one_lt h
    · exact Nat.two_pow_pos m
  · exact (ex_lt h _).2
theorem ord_ex (h : Ok m) {j : Nat} (hj : j < N m) : ord m (ex m j) = N m / Nat.gcd j (N m) := by
  unfold ord
  rw [lg_ex h hj, Nat.gcd_comm]
end
end Go.Proofs.YtcdmmfpgeagimaaDoor
end
section
/- Polynomials as lists of numbers, without noughts at the end: plain mathematics, no program. No condition. -/
namespace Go.Proofs.YtcdmmfpgeagimaaDoor
open Go.Sx Go.Fm

/-- Behind which place all entries are 0. -/
def tl : List Nat → Nat
  | [] => 0
  | x :: r => if tl r = 0 then (if x = 0 then 0 else 1) else tl r + 1
def trim (l : List Nat) : List Nat := l.take (tl l)
/-- A coefficient. -/
def cf (l : List Nat) (j : Nat) : Nat := l.getD j 0

theorem tl_le : ∀ l : List Nat, tl l ≤ l.length
  | [] => Nat.le_refl _
  | x :: r => by
    have := tl_le r
    unfold tl
    simp only [List.length_cons]
    split
    · split <;> omega
    · omega
theorem trim_length (l : List Nat) : (trim l).length = tl l := by
  unfold trim
  rw [List.length_take]
  exact Nat.min_eq_left (tl_le l)
theorem cf_nil (j : Nat) : cf [] j = 0 := by simp [cf]
theorem cf_cons_zero (x : Nat) (r : List Nat) : cf (x :: r) 0 = x := by simp [cf]
theorem cf_cons_succ (x : Nat) (r : List Nat) (j : Nat) : cf (x :: r) (j + 1) = cf r j := by simp [cf]
theorem cf_out {l : List Nat} {j : Nat} (h : l.length ≤ j) : cf l j = 0 := by simp [cf, List.getElem?_eq_none h]
theorem cf_in {l : List Nat} {j : Nat} (h : j < l.length) : l[j]? = some (cf l j) := by simp [cf, h]
theorem cf_hi : ∀ (l : List Nat) (j : Nat), tl l ≤ j → cf l j = 0
  | [], j, _ => cf_nil j
  | x :: r, 0, h => by
    rw [cf_cons_zero]
    unfold tl at h
    split at h
    · split at h
      · assumption
      · omega
    · omega
  | x :: r, j + 1, h => by
    rw [cf_cons_succ]
    refine cf_hi r j ?_
    unfold tl at h
    split at h
    · omega
    · omega
theorem cf_top : ∀ l : List Nat, tl l ≠ 0 → cf l (tl l - 1) ≠ 0
  | [], h => absurd rfl h
  | x :: r, h => by
    by_cases hr : tl r = 0
    · by_cases hx : x = 0
      · exact absurd (by simp [tl, hr, hx]) h
      · have : tl (x :: r) = 1 := by simp [tl, hr, hx]
        rw [this]
        exact hx
    · have : tl (x :: r) = tl r + 1 := by simp [tl, hr]
      rw [this]
      have h2 := cf_top r hr
      rw [show tl r + 1 - 1 = (tl r - 1) + 1 by omega, cf_cons_succ]
      exact h2
theorem tl_le_of {a b : List Nat} (h : ∀ j, cf a j = cf b j) : tl a ≤ tl b := by
  by_cases h0 : tl a = 0
  · omega
  · have h1 := cf_top a h0
    rw [h] at h1
    exact Nat.le_of_not_lt (fun hlt => h1 (cf_hi b _ (by omega)))
theorem tl_eq {a b : List Nat} (h : ∀ j, cf a j = cf b j) : tl a = tl b := Nat.le_antisymm (tl_le_of h) (tl_le_of (fun j => (h j).symm))
theorem cf_trim (l : List Nat) (j : Nat) : cf (trim l) j = cf l j := by
  by_cases h : j < tl l
  · unfold cf trim
    simp only [List.getD_eq_getElem?_getD]
    rw [List.getElem?_take, if_pos h]
  · rw [cf_hi l j (by omega), cf_out (by rw [trim_length]; omega)]
theorem ext_cf {a b : List Nat} (hl : a.length = b.length) (h : ∀ j, cf a j = cf b j) : a = b := by
  apply List.ext_getElem?
  intro j
  by_cases hj : j < a.length
  · rw [cf_in hj, cf_in (by omega), h]
  · rw [List.getElem?_eq_none (by omega), List.getElem?_eq_none (by omega)]
theorem trim_eq {a b : List Nat} (h : ∀ j, cf a j = cf b j) : trim a = trim b := by
  refine ext_cf ?_ (fun j => by rw [cf_trim, cf_trim, h])
  rw [trim_length, trim_length, tl_eq h]
theorem tl_trim (l : List Nat) : tl (trim l) = tl l := tl_eq (cf_trim l)
theorem trim_trim (l : List Nat) : trim (trim l) = trim l := trim_eq (cf_trim l)
theorem trim_of {l : List Nat} (h : tl l = l.length) : trim l = l := by unfold trim; rw [h, List.take_length]
theorem tl_snoc : ∀ (l : List Nat) (x : Nat), tl (l ++ [x]) = if x = 0 then tl l else l.length + 1
  | [], x => by simp [tl]
  | y :: l, x => by
    have ih := tl_snoc l x
    show tl (y :: (l ++ [x])) = _
    unfold tl
    rw [ih]
    by_cases hx : x = 0
    · simp [hx]
    · simp [hx]
theorem trim_lt {l : List Nat} {b : Nat} (h : ∀ x ∈ l, x < b) : ∀ x ∈ trim l, x < b := fun x hx => h x (List.mem_of_mem_take hx)

/-! ### By coefficients -/
/-- The polynomial of these coefficients, n of them at most. -/
def pl (n : Nat) (f : Nat → Nat) : List Nat := trim ((List.range n).map f)
theorem cf_range (n : Nat) (f : Nat → Nat) (j : Nat) : cf ((List.range n).map f) j = if j < n then f j else 0 := by
  unfold cf
  by_cases h : j < n
  · simp [h]
  · simp [h]
theorem cf_pl (n : Nat) (f : Nat → Nat) (j : Nat) : cf (pl n f) j = if j < n then f j else 0 := by
  unfold pl
  rw [cf_trim, cf_range]
theorem pl_eq {n k : Nat} {f g : Nat → Nat} (h : ∀ j, (if j < n then f j else 0) = if j < k then g j else 0) : pl n f = pl k g := by
  unfold pl
  exact trim_eq (fun j => by rw [cf_range, cf_range, h])
theorem pl_trim {n : Nat} {f : Nat → Nat} {l : List Nat} (h : ∀ j, (if j < n then f j else 0) = cf l j) : pl n f = trim l := by
  unfold pl
  exact trim_eq (fun j => by rw [cf_range, h])
theorem trim_pl (n : Nat) (f : Nat → Nat) : trim (pl n f) = pl n f := trim_trim _

/-! ### Sums of so many -/
def xs (f : Nat → Nat) : Nat → Nat
  | 0 => 0
  | n + 1 => xs f n ^^^ f n
theorem xs_congr {f g : Nat → Nat} : ∀ {n : Nat}, (∀ i, i < n → f i = g i) → xs f n = xs g n
  | 0, _ => rfl
  | n + 1, h => by
    unfold xs
    rw [xs_congr (fun i hi => h i (by omega)), h n (by omega)]
theorem xs_zero {f : Nat → Nat} : ∀ {n : Nat}, (∀ i, i < n → f i = 0) → xs f n = 0
  | 0, _ => rfl
  | n + 1, h => by
    unfold xs
    rw [xs_zero (fun i hi => h i (by omega)), h n (by omega), Nat.xor_zero]
theorem xs_more {f : Nat → Nat} {n : Nat} : ∀ {k : Nat}, (∀ i, n ≤ i → f i = 0) → xs f (n + k) = xs f n
  | 0, _ => rfl
  | k + 1, h => by
    show xs f (n + k) ^^^ f (n + k) = _
    rw [xs_more h, h _ (by omega), Nat.xor_zero]
theorem xs_any {f : Nat → Nat} {n k : Nat} (h1 : ∀ i, n ≤ i → f i = 0) (h2 : ∀ i, k ≤ i → f i = 0) : xs f n = xs f k := by
  rcases Nat.le_total n k with h | h
  · rw [show k = n + (k - n) by omega, xs_more h1]
  · rw [show n = k + (n - k) by omega, xs_more h2]
theorem xs_xor (f g : Nat → Nat) : ∀ n, xs (fun i => f i ^^^ g i) n = xs f n ^^^ xs g n
  | 0 => by simp [xs]
  | n + 1 => by
    unfold xs
    rw [xs_xor f g n, Nat.xor_assoc, Nat.xor_assoc, xlc (xs g n)]
theorem xs_lt {f : Nat → Nat} {m : Nat} : ∀ {n : Nat}, (∀ i, i < n → f i < 2 ^ m) → xs f n < 2 ^ m
  | 0, _ => Nat.two_pow_pos m
  | n + 1, h => xor_lt (xs_lt (fun i hi => h i (by omega))) (h n (by omega))
theorem xs_swap (f : Nat → Nat → Nat) (n : Nat) : ∀ k, xs (fun i => xs (fun j => f i j) k) n = xs (fun j => xs (fun i => f i j) n) k
  | 0 => xs_zero (fun _ _ => rfl)
  | k + 1 => by
    show xs (fun i => xs (fun j => f i j) k ^^^ f i k) n = xs (fun j => xs (fun i => f i j) n) k ^^^ xs (fun i => f i k) n
    rw [xs_xor, xs_swap f n k]
theorem xs_first (f : Nat → Nat) : ∀ n, xs f (n + 1) = f 0 ^^^ xs (fun i => f (i + 1)) n
  | 0 => by simp [xs]
  | n + 1 => by
    show xs f (n + 1) ^^^ f (n + 1) = _
    rw [xs_first f n, Nat.xor_assoc]
    rfl
theorem xs_back (f : Nat → Nat) : ∀ n, xs f n = xs (fun i => f (n - 1 - i)) n
  | 0 => rfl
  | n + 1 => by
    rw [xs_first (fun i => f (n + 1 - 1 - i)) n]
    show xs f n ^^^ f n = f (n + 1 - 1 - 0) ^^^ _
    rw [Nat.xor_comm, xs_back f n]
    congr 1
    apply xs_congr
    intro i _
    congr 1
    omega
section
variable {m : Nat}
theorem gm_xs_right (m a : Nat) (f : Nat → Nat) : ∀ n, gm m a (xs f n) = xs (fun i => gm m a (f i)) n
  | 0 => gm_zero_right m a
  | n + 1 => by
    unfold xs
    rw [gm_xor_right, gm_xs_right m a f n]
theorem gm_xs_left (h : Ok m) {f : Nat → Nat} (b : Nat) : ∀ n, (∀ i, i < n → f i < 2 ^ m) → gm m (xs f n) b = xs (fun i => gm m (f i) b) n
  | 0, _ => gm_zero_left m b
  | n + 1, hf => by
    unfold xs
    rw [gm_xor_left h (xs_lt (fun i hi => hf i (by omega))) (hf n (by omega)), gm_xs_left h b n (fun i hi => hf i (by omega))]
end
end Go.Proofs.YtcdmmfpgeagimaaDoor
end
section
/- The contracts of package fieldpoly: what each of its functions answers, over the fields of 2^m elements. Conditions: the ring was made by New over a field that New made; the lists are read where they lie. -/
namespace Go.Proofs.YtcdmmfpgeagimaaDoor
open Go.Sx Go.Fm
set_option maxRecDepth 100000

/-- A ring that New made, in block r, over the field in block g. -/
def ringA (r g m : Nat) : Atom where
  ok w D := D r ∧ w.cell? ⟨r, 0, none⟩ = some (.pointer (some ⟨g, 0, none⟩)) ∧ (fieldA g m).ok w D
  loc := fun ⟨h1, h2, h3⟩ hb => ⟨h1, (World.cell?_of_block (hb _ h1)).trans h2, (fieldA _ _).loc h3 hb⟩
theorem ring_at {w : World} {r g m : Nat} (h : Has (ringA r g m) w) : w.cell? ⟨r, 0, none⟩ = some (.pointer (some ⟨g, 0, none⟩)) ∧ Has (fieldA g m) w :=
  let ⟨D, ⟨_, h2, h3⟩, h4⟩ := h
  ⟨h2, D, h3, h4⟩
theorem field_mono {w : World} {g m : Nat} {D D' : Nat → Prop} (h : (fieldA g m).ok w D) (hd : ∀ k, D k → D' k) : (fieldA g m).ok w D' := by
  obtain ⟨ge, gl, h1, h2, h3, h4⟩ := h
  exact ⟨ge, gl, hd _ h1, hd _ h2, hd _ h3, h4⟩
theorem ring_of {w : World} {r g m T : Nat} (hf : Has (fieldA g m) w) (hb : Has (blk r T #[.pointer (some ⟨g, 0, none⟩)]) w) : Has (ringA r g m) w := by
  obtain ⟨D, h1, h2⟩ := hf
  obtain ⟨D', ⟨h3, h4⟩, h5⟩ := hb
  refine ⟨fun k => D k ∨ D' k, ⟨.inr ((h3 r).2 rfl), by rw [cell_of_blk h4]; rfl, field_mono h1 (fun k => .inl)⟩, fun k hk => hk.elim (h2 k) (h5 k)⟩
/-- A list of elements is answered, in memory of its own. -/
abbrev SpecL (P : Program) (f : FuncId) (args : List Value) (w : World) (E : List Nat) : Prop :=
  SpecX P f args w (X := Option Addr × Nat) (fun q => .slice q.1 E.length q.2) (fun q => E.length ≤ q.2) (fun q => [own 3 1 q.1 E.length q.2 (nats .i64 E)])
/-- The elements that numbers count as. -/
def lowL (m : Nat) (l : List Int) : List Nat := l.map (lo m)
theorem lowL_len (m : Nat) (l : List Int) : (lowL m l).length = l.length := by simp [lowL]
theorem lo_zero (m : Nat) : lo m 0 = 0 := by unfold lo; simp
theorem cf_low (m : Nat) (l : List Int) (j : Nat) : cf (lowL m l) j = lo m (l.getD j 0) := by
  by_cases h : j < l.length
  · simp [cf, lowL, h]
  · simp [cf, lowL, h, lo_zero]
theorem lowL_lt (m : Nat) (l : List Int) : ∀ x ∈ lowL m l, x < 2 ^ m := by
  intro x hx
  obtain ⟨y, _, rfl⟩ := List.mem_map.1 hx
  exact lo_lt m y
theorem lowL_take (m : Nat) (l : List Int) {i : Nat} (h : i < l.length) : lowL m (l.take (i + 1)) = lowL m (l.take i) ++ [lo m (l.getD i 0)] := by
  have h1 : l.take (i + 1) = l.take i ++ [l.getD i 0] := by
    rw [List.take_add_one]
    simp [h]
  unfold lowL
  rw [h1, List.map_append]
  rfl
def trimC (m : Nat) (l : List Int) (i : Nat) : Array Value := ((List.range l.length).map (fun j => .int .i64 ((if j < i then lo m (l.getD j 0) else 0 : Nat)))).toArray
theorem trimC_zero (m : Nat) (l : List Int) : (List.replicate l.length (.int .i64 0)).toArray = trimC m l 0 := by
  rw [rep_range]; unfold trimC; simp
theorem trimC_size (m : Nat) (l : List Int) (i : Nat) : (trimC m l i).size = l.length := by simp [trimC]
theorem trimC_set (m : Nat) (l : List Int) (i : Nat) : (trimC m l i).setIfInBounds i (.int .i64 (lo m (l.getD i 0) : Nat)) = trimC m l (i + 1) := by
  unfold trimC
  rw [set_range]
  congr 1
  apply List.map_congr_left
  intro j _
  by_cases h : j = i
  · subst h; simp
  · rw [if_neg h]
    by_cases h2 : j < i
    · rw [if_pos h2, if_pos (by omega)]
    · rw [if_neg h2, if_neg (by omega)]
theorem trimC_at (m : Nat) (l : List Int) {i k : Nat} (h : k < i) (hk : k < l.length) : (trimC m l i)[k]? = some (.int .i64 (lo m (l.getD k 0) : Nat)) := by
  unfold trimC
  simp [hk, h]
theorem trimC_all (m : Nat) (l : List Int) : (trimC m l l.length).toList = nats .i64 (lowL m l) := by
  unfold trimC nats lowL
  apply List.ext_getElem?
  intro j
  by_cases hj : j < l.length
  · simp [hj]
  · simp [hj]
theorem nats_take (k : IntKind) (l : List Nat) (n : Nat) : (nats k l).take n = nats k (l.take n) := by simp [nats, List.map_take]
theorem trimC_take (m : Nat) (l : List Int) : (trimC m l l.length).toList.take ((trim (lowL m l)).length * 1) = nats .i64 (trim (lowL m l)) := by
  rw [trimC_all, nats_take, Nat.mul_one, trim_length]
  rfl
theorem Has.cong {w : World} {sz n : Nat} {A : Option Addr} {vs us : List Value} (h : Has (sl sz A n vs) w) (he : vs = us) : Has (sl sz A n us) w := by rw [← he]; exact h

theorem ring_spec (g : Nat) (w : World) : SpecX Tryd.prog 149 [.pointer (some ⟨g, 0, none⟩)] w (X := Nat) (fun r => .pointer (some ⟨r, 0, none⟩)) (fun _ => True) (fun r => [blk r 213 #[.pointer (some ⟨g, 0, none⟩)]]) := by
  refine spec_of Tryd.func149 rfl Tryd.ntmps149 rfl ?_
  refine CW.seq ?_
  refine CW.reg [0] rfl ?_
  refine s_as 2 rfl rfl ?_
  refine SX.next ?_
  refine CW.seq ?_
  refine CW.reg [0, 1, 2, 3] rfl ?_
  refine s_mv 3 rfl rfl ?_
  refine s_build 4 rfl rfl rfl ?_
  refine s_box 5 rfl rfl (fun _ _ => trivial) (fun r => ?_)
  refine s_as 2 rfl rfl ?_
  refine SX.next ?_
  refine CW.ret ?_
  exact KN.ret (rs := [.tmp 2]) Tryd.results149 rfl (fun w hw => ⟨r, rfl, trivial, hw⟩)

theorem trim_spec (r g m : Nat) (A : Option Addr) (n c : Nat) (l : List Int) (w : World) (hm : Ok m) (hr : Has (ringA r g m) w) (ha : Has (sl 1 A n (ints .i64 l)) w) (hn : n ≤ 4294967296) : SpecL Tryd.prog 158 [.pointer (some ⟨r, 0, none⟩), .slice A n c] w (trim (lowL m l)) := by
  obtain ⟨hrc, hf⟩ := ring_at hr
  have hla := ints_len ha
  subst hla
  have htl := tl_le (lowL m l)
  have hll := lowL_len m l
  refine spec_of Tryd.func158 rfl Tryd.ntmps158 rfl ?_
  refine CW.seq ?_
  refine CW.reg [0] rfl ?_
  refine s_as 4 rfl rfl ?_
  refine SX.next ?_
  refine CW.seq ?_
  refine CW.reg [0, 1, 2, 3] rfl ?_
  refine s_mv 9 rfl rfl ?_
  refine s_len 10 rfl rfl ?_
  refine s_make 11 l.length rfl rfl rfl rfl rfl (by omega) (fun _ _ => trivial) (fun gs => ?_)
  refine s_as 5 rfl rfl ?_
  refine SX.next ?_
  refine CW.seq ?_
  refine CW.reg [0] rfl ?_
  refine s_as 6 rfl rfl ?_
  refine SX.next ?_
  refine CW.seq ?_
  refine CW.seq ?_
  refine CW.reg [0, 1, 2] rfl ?_
  refine s_mv 12 rfl rfl ?_
  refine s_len 13 rfl rfl ?_
  refine s_mv 14 rfl rfl ?_
  refine SX.next ?_
  refine CW.block ?_
  refine CW.loop (G := Nat × Nat) (fun q => [(0, .pointer (some ⟨r, 0, none⟩)), (5, .slice (some ⟨gs, 0, none⟩) l.length l.length), (6, .int .i64 (q.2 : Nat)), (12, .slice A l.length c), (13, .int .i64 (l.length : Nat)), (14, .int .i64 (q.1 : Nat))]) (fun q => Sto w [blk gs 3 (trimC m l q.1)]) (fun q => q.1 ≤ l.length ∧ q.2 = tl (lowL m (l.take q.1))) (fun q => l.length - q.1) (0, 0) ⟨rfl, rfl, rfl, rfl, rfl, rfl, trivial⟩ (fun _ h => by rw [← trimC_zero]; exact h) ⟨Nat.zero_le _, rfl⟩ ?_
  rintro ⟨i, k⟩ ⟨hi, hk⟩
  simp only at hi hk
  refine CW.seq ?_
  refine CW.reg [0] rfl ?_
  refine s_lt 15 rfl rfl rfl rfl ?_
  refine SX.next ?_
  refine CW.seq ?_
  refine CW.test rfl (fun hc => ?_) (fun hc => ?_)
  · skip
    have hi2 : i < l.length := by omega
    have hsn := tl_snoc (lowL m (l.take i)) (lo m (l.getD i 0))
    rw [← lowL_take m l hi2] at hsn
    have hli : (lowL m (l.take i)).length = i := by rw [lowL_len, List.length_take]; omega
    refine CW.skip ?_
    refine KN.code ?_
    refine CW.seq ?_
    refine CW.block ?_
    refine CW.seq ?_
    refine CW.reg [0, 1, 2, 3, 4] rfl ?_
    refine s_mv 16 rfl rfl ?_
    refine s_iaV 17 i (fun w hw => hw.old ha) rfl rfl rfl rfl hi2 ?_
    refine s_ldV 18 (fun w hw => hw.old ha) rfl rfl (by rw [Nat.mul_one]; exact intsAt hi2) (by omega) ?_
    refine s_as 7 rfl rfl ?_
    refine s_as 8 rfl rfl ?_
    refine SX.next ?_
    refine CW.seq ?_
    refine CW.reg [0, 1, 2, 3, 4, 5, 6, 7, 8, 9] rfl ?_
    refine s_mv 19 rfl rfl ?_
    refine s_mv 20 rfl rfl ?_
    refine s_mv 21 rfl rfl ?_
    refine s_nil 22 rfl rfl ?_
    refine s_fa 23 rfl rfl ?_
    refine s_ld 24 rfl rfl (fun _ h => h.cell hrc) ?_
    refine s_mv 25 rfl rfl ?_
    refine s_call1 26 rfl rfl rfl rfl (v := .int .i64 (lo m (l.getD i 0) : Nat)) (fun w hw => by have := add_spec g m (l.getD i 0) 0 w hm (hw.old hf); rw [lo_zero, Nat.xor_zero] at this; exact this) (fun _ _ => trivial) ?_
    refine s_ia0 27 i rfl rfl rfl rfl hi2 ?_
    refine s_stB 0 rfl rfl rfl rfl rfl (by rw [trimC_size]; exact hi2) (fun _ _ => trivial) ?_
    refine SX.next ?_
    refine CW.seq ?_
    refine CW.reg [0, 1, 2, 3, 4] rfl ?_
    refine s_mv 28 rfl rfl ?_
    refine s_mv 29 rfl rfl ?_
    refine s_ia0 30 i rfl rfl rfl rfl hi2 ?_
    refine s_ldB 31 0 rfl rfl rfl (by rw [trimC_set]; exact trimC_at m l (Nat.lt_succ_self i) hi2) ?_
    refine s_ne 32 rfl rfl rfl rfl ?_
    refine SX.next ?_
    refine CW.test rfl (fun hc => ?_) (fun hc => ?_)
    · skip
      refine CW.reg [0, 1, 2] rfl ?_
      refine s_mv 33 rfl rfl ?_
      refine s_add 34 rfl rfl rfl (r := ((i + 1 : Nat) : Int)) (w64 (by omega)) ?_
      refine s_as 6 rfl rfl ?_
      refine SX.end_ ?_
      refine KN.blk ?_
      refine KN.code ?_
      refine CW.reg [0, 1] rfl ?_
      refine s_add 35 rfl rfl rfl (r := ((i + 1 : Nat) : Int)) (w64 (by omega)) ?_
      refine s_mv 14 rfl rfl ?_
      refine SX.end_ ?_
      exact KN.back (i + 1, i + 1) ⟨rfl, rfl, rfl, rfl, rfl, rfl, trivial⟩ (fun _ h => by rw [← trimC_set]; exact h) ⟨hi2, by rw [hsn, if_neg (by omega), hli]⟩ (by simp only; omega)
    · skip
      refine CW.skip ?_
      refine KN.blk ?_
      refine KN.code ?_
      refine CW.reg [0, 1] rfl ?_
      refine s_add 35 rfl rfl rfl (r := ((i + 1 : Nat) : Int)) (w64 (by omega)) ?_
      refine s_mv 14 rfl rfl ?_
      refine SX.end_ ?_
      exact KN.back (i + 1, k) ⟨rfl, rfl, rfl, rfl, rfl, rfl, trivial⟩ (fun _ h => by rw [← trimC_set]; exact h) ⟨hi2, by rw [hsn, if_pos (by omega)]; exact hk⟩ (by simp only; omega)
  · skip
    obtain rfl : i = l.length := by omega
    rw [List.take_length] at hk
    have htt := trim_length (lowL m l)
    refine CW.exit rfl ?_
    refine KN.code ?_
    refine CW.seq ?_
    refine CW.reg [0, 1, 2, 3, 4] rfl ?_
    refine s_mv 36 rfl rfl ?_
    refine s_mv 37 rfl rfl ?_
    refine s_slH 38 (trim (lowL m l)).length rfl rfl rfl (by rw [hk, htt]) (by omega) ?_
    refine s_app0 39 rfl rfl rfl (ys := nats .i64 (trim (lowL m l))) (fun w hw => Has.cong (((hw.has (i := 0) rfl).blk_sl (m := l.length) (by rw [trimC_size, Nat.mul_one])).sl_take (by omega)) (trimC_take m l)) (nats_one _ _) rfl (by omega) (by unfold maxLen; omega) (by omega) (fun _ _ _ _ => trivial) (fun A2 c2 hc2 => ?_)
    refine s_as 4 rfl rfl ?_
    refine SX.next ?_
    refine CW.ret ?_
    exact KN.ret (rs := [.tmp 4]) Tryd.results158 rfl (fun w hw => ⟨(A2, c2), rfl, hc2, hw.pick [0] rfl⟩)

/-! ### Tables -/
/-- The numbers F 0, F 1 .. -/
def tab (n : Nat) (F : Nat → Int) : List Int := (List.range n).map F
theorem tab_len (n : Nat) (F : Nat → Int) : (tab n F).length = n := by simp [tab]
theorem tab_cong {n : Nat} {F G : Nat → Int} (h : ∀ j, j < n → F j = G j) : tab n F = tab n G := by
  unfold tab
  apply List.map_congr_left
  intro j hj
  exact h j (List.mem_range.1 hj)
theorem tab_getD (n : Nat) (F : Nat → Int) (j : Nat) : (tab n F).getD j 0 = if j < n then F j else 0 := by
  unfold tab
  by_cases h : j < n <;> simp [h]
theorem tab_of (l : List Int) : tab l.length (fun j => l.getD j 0) = l := by
  apply List.ext_getElem?
  intro j
  unfold tab
  by_cases h : j < l.length <;> simp [h]
theorem tab_at {k : IntKind} {n j : Nat} {F : Nat → Int} (h : j < n) : (ints k (tab n F))[j]? = some (.int k (F j)) := by
  rw [intsAt (by rw [tab_len]; exact h), tab_getD, if_pos h]
theorem tab_atA {k : IntKind} {n j : Nat} {F : Nat → Int} (h : j < n) : (ints k (tab n F)).toArray[j]? = some (.int k (F j)) := by
  rw [List.getElem?_toArray]; exact tab_at h
theorem tab_size {k : IntKind} {n : Nat} {F : Nat → Int} : (ints k (tab n F)).toArray.size = n := by simp [ints, tab]
theorem tab_setL {k : IntKind} {n i : Nat} {F : Nat → Int} (z : Int) : (ints k (tab n F)).set i (.int k z) = ints k (tab n (fun j => if j = i then z else F j)) := by
  unfold ints tab
  apply List.ext_getElem?
  intro j
  rw [List.getElem?_set]
  by_cases hj : j < n
  · by_cases hij : i = j
    · subst hij; simp [hj]
    · simp [hj, hij, Ne.symm hij]
  · by_cases hij : i = j
    · subst hij; simp [hj]
    · simp [hj, hij]
theorem tab_set {k : IntKind} {n i : Nat} {F : Nat → Int} (z : Int) : (ints k (tab n F)).toArray.setIfInBounds i (.int k z) = (ints k (tab n (fun j => if j = i then z else F j))).toArray := by
  rw [List.setIfInBounds_toArray, tab_setL]
theorem tab_zero (k : IntKind) (n : Nat) : (List.replicate n (.int k 0)).toArray = (ints k (tab n (fun _ => 0))).toArray := by
  congr 1
  unfold ints tab
  apply List.ext_getElem?
  intro j
  by_cases h : j < n <;> simp [h]
theorem tab_nats (n : Nat) (f : Nat → Nat) : ints .i64 (tab n (fun j => (f j : Nat))) = nats .i64 ((List.range n).map f) := by
  simp [ints, tab, nats]
theorem trim_tab (m n : Nat) (F : Nat → Int) : trim (lowL m (tab n F)) = pl n (fun j => lo m (F j)) := by
  unfold pl lowL tab
  rw [List.map_map]
  rfl
theorem trim_low (m : Nat) (l : List Int) : trim (lowL m l) = pl l.length (fun j => lo m (l.getD j 0)) := by
  conv => lhs; rw [← tab_of l]
  exact trim_tab m _ _
/-- The sum of two. -/
def addP (a b : List Nat) : List Nat := pl (max a.length b.length) (fun j => cf a j ^^^ cf b j)
theorem addP_comm (a b : List Nat) : addP a b = addP b a := by
  unfold addP
  rw [Nat.max_comm]
  congr 1
  funext j
  exact Nat.xor_comm _ _
theorem cf_addP (a b : List Nat) (j : Nat) : cf (addP a b) j = cf a j ^^^ cf b j := by
  unfold addP
  rw [cf_pl]
  split
  · rfl
  · rw [cf_out (by omega), cf_out (by omega)]; rfl
def addF (l l2 : List Int) (i : Nat) (j : Nat) : Int := if j < i then ibit .xor .i64 (l.getD j 0) (l2.getD j 0) else l.getD j 0
theorem add_all {m : Nat} (hm : Ok m) (l l2 : List Int) (h : l2.length ≤ l.length) : trim (lowL m (tab l.length (addF l l2 l2.length))) = addP (lowL m l) (lowL m l2) := by
  rw [trim_tab]
  unfold addP
  refine pl_eq (fun j => ?_)
  rw [lowL_len, lowL_len, Nat.max_eq_left h, cf_low, cf_low]
  split
  · unfold addF
    split
    · exact lo_xor hm _ _
    · rw [show l2.getD j 0 = 0 by simp [List.getElem?_eq_none (show l2.length ≤ j by omega)], lo_zero, Nat.xor_zero]
  · rfl
theorem addF_next (l l2 : List Int) (i : Nat) : (fun j => if j = i then ibit .xor .i64 (l.getD i 0) (l2.getD i 0) else addF l l2 i j) = addF l l2 (i + 1) := by
  funext j
  unfold addF
  by_cases h : j = i
  · subst h; simp
  · rw [if_neg h]
    by_cases h2 : j < i
    · rw [if_pos h2, if_pos (by omega)]
    · rw [if_neg h2, if_neg (by omega)]
/-- A list in memory. -/
structure SlG where
  A : Option Addr
  c : Nat
  l : List Int
structure AddG (w : World) (m : Nat) (a b : List Int) (q : SlG × SlG) : Prop where
  h1 : Has (sl 1 q.1.A q.1.l.length (ints .i64 q.1.l)) w
  h2 : Has (sl 1 q.2.A q.2.l.length (ints .i64 q.2.l)) w
  le : q.2.l.length ≤ q.1.l.length
  bd : q.1.l.length ≤ 4294967296
  eq : addP (lowL m q.1.l) (lowL m q.2.l) = addP (lowL m a) (lowL m b)

/-- Each coefficient times x. -/
def scaleP (m : Nat) (a : List Nat) (x : Nat) : List Nat := pl a.length (fun j => gm m (cf a j) x)
theorem cf_scaleP (m : Nat) (a : List Nat) (x j : Nat) : cf (scaleP m a x) j = gm m (cf a j) x := by
  unfold scaleP
  rw [cf_pl]
  split
  · rfl
  · rw [cf_out (by omega), gm_zero_left]
def scaleF (m : Nat) (l : List Int) (x i j : Nat) : Int := ((if j < i then gm m (lo m (l.getD j 0)) x else 0 : Nat) : Int)
theorem scaleF_next (m : Nat) (l : List Int) (x i : Nat) : (fun j => if j = i then ((gm m (lo m (l.getD i 0)) x : Nat) : Int) else scaleF m l x i j) = scaleF m l x (i + 1) := by
  funext j
  unfold scaleF
  by_cases h : j = i
  · subst h; simp
  · rw [if_neg h]
    by_cases h2 : j < i
    · rw [if_pos h2, if_pos (by omega)]
    · rw [if_neg h2, if_neg (by omega)]
theorem scale_all {m : Nat} (hm : Ok m) (l : List Int) (x : Nat) : trim (lowL m (tab l.length (scaleF m l x l.length))) = scaleP m (lowL m l) x := by
  rw [trim_tab]
  unfold scaleP
  refine pl_eq (fun j => ?_)
  rw [lowL_len, cf_low]
  split
  · unfold scaleF
    rw [if_pos (by assumption), lo_nat (gm_lt hm (lo_lt m _) x)]
  · rfl

/-! ### Values -/
/-- The value at x, from the highest coefficient down. -/
def evL (m : Nat) : List Nat → Nat → Nat
  | [], _ => 0
  | a :: r, x => gm m (evL m r x) x ^^^ a
theorem evL_lt {m : Nat} (h : Ok m) (x : Nat) : ∀ {l : List Nat}, (∀ a ∈ l, a < 2 ^ m) → evL m l x < 2 ^ m
  | [], _ => Nat.two_pow_pos m
  | a :: _, hl => xor_lt (gm_lt h (evL_lt h x (fun b hb => hl b (List.mem_cons_of_mem a hb))) x) (hl a List.mem_cons_self)
theorem low_drop {m : Nat} {l : List Int} {j : Nat} (h0 : 0 < j) (hj : j ≤ l.length) : (lowL m l).drop (j - 1) = lo m (l.getD (j - 1) 0) :: (lowL m l).drop j := by
  rw [List.drop_eq_getElem_cons (by rw [lowL_len]; omega), show j - 1 + 1 = j by omega]
  congr 1
  simp [lowL, show j - 1 < l.length by omega]
theorem lo_one {m : Nat} (hm : Ok m) : lo m 1 = 1 := lo_nat (x := 1) (one_lt hm)
theorem lo_xorN {m : Nat} (hm : Ok m) {a : Nat} (ha : a < 2 ^ m) (b : Int) : lo m (ibit .xor .i64 (a : Nat) b) = a ^^^ lo m b := by
  rw [lo_xor hm, lo_nat ha]

/-! ### The derivative -/
theorem lo_wrap {m : Nat} (hm : Ok m) (z : Int) : lo m (IntKind.i64.wrap z) = lo m z := by
  have h2 := hm.hi
  have hd : ((2 ^ m : Nat) : Int) ∣ 18446744073709551616 := by
    have : 2 ^ m ∣ 2 ^ 64 := Nat.pow_dvd_pow 2 (by omega)
    exact Int.natCast_dvd_natCast.2 this
  have h : ∃ t : Int, IntKind.i64.wrap z = z + t * 18446744073709551616 := by
    simp only [IntKind.wrap, IntKind.signed, IntKind.bits]
    refine ⟨-((z + 9223372036854775808) / 18446744073709551616), ?_⟩
    simp
    omega
  obtain ⟨t, ht⟩ := h
  obtain ⟨u, hu⟩ := hd
  unfold lo
  rw [ht, hu, ← Int.mul_assoc, Int.mul_comm t, Int.mul_assoc, Int.add_mul_emod_self_left]
def derF (l : List Int) (j : Nat) : Int := IntKind.i64.wrap (l.getD (j + 1) 0 * (((j + 1) % 2 : Nat) : Int))
/-- The derivative. -/
def derP (a : List Nat) : List Nat := pl (a.length - 1) (fun j => if (j + 1) % 2 = 1 then cf a (j + 1) else 0)
theorem cf_derP (a : List Nat) (j : Nat) : cf (derP a) j = if (j + 1) % 2 = 1 then cf a (j + 1) else 0 := by
  unfold derP
  rw [cf_pl]
  split
  · rfl
  · rw [cf_out (by omega)]; simp
theorem der_all {m : Nat} (hm : Ok m) (l : List Int) : trim (lowL m (tab (l.length - 1) (derF l))) = derP (lowL m l) := by
  rw [trim_tab]
  unfold derP
  refine pl_eq (fun j => ?_)
  rw [lowL_len, cf_low]
  split
  · unfold derF
    rw [lo_wrap hm]
    rcases Nat.mod_two_eq_zero_or_one (j + 1) with h | h
    · rw [h]; simp [lo_zero]
    · rw [h]; simp
  · rfl
theorem tab_snoc (k : IntKind) (n : Nat) (F : Nat → Int) : ints k (tab n F) ++ [.int k (F n)] = ints k (tab (n + 1) F) := by
  simp [ints, tab, List.range_succ]

/-! ### Products -/
/-- A coefficient of the product. -/
def cv (m : Nat) (f g : Nat → Nat) (j : Nat) : Nat := xs (fun i => gm m (f i) (g (j - i))) (j + 1)
/-- The product. -/
def mulP (m : Nat) (a b : List Nat) : List Nat := pl (a.length + b.length - 1) (fun j => cv m (cf a) (cf b) j)
def rowF (m : Nat) (a b : List Nat) (j i : Nat) : Nat := if i ≤ j then gm m (cf a i) (cf b (j - i)) else 0
def mulF (m : Nat) (a b : List Nat) (i k : Nat) (j : Nat) : Int := ((xs (rowF m a b j) i ^^^ (if i ≤ j ∧ j < i + k then gm m (cf a i) (cf b (j - i)) else 0) : Nat) : Int)
theorem mulF_zero (m : Nat) (a b : List Nat) (j : Nat) : mulF m a b 0 0 j = 0 := by
  unfold mulF
  rw [if_neg (by omega)]
  simp [xs]
theorem cf_lt {a : List Nat} {b : Nat} (h : ∀ x ∈ a, x < b) (hb : 0 < b) (j : Nat) : cf a j < b := by
  by_cases hj : j < a.length
  · exact h _ (List.mem_of_getElem? (cf_in hj))
  · rw [cf_out (by omega)]; exact hb
theorem rowF_lt {m : Nat} (hm : Ok m) {a b : List Nat} (ha : ∀ x ∈ a, x < 2 ^ m) (j i : Nat) : rowF m a b j i < 2 ^ m := by
  unfold rowF
  split
  · exact gm_lt hm (cf_lt ha (Nat.two_pow_pos m) i) _
  · exact Nat.two_pow_pos m
theorem mulF_row (m : Nat) (a b : List Nat) (i k : Nat) (hk : b.length ≤ k) (j : Nat) : mulF m a b i k j = mulF m a b (i + 1) 0 j := by
  unfold mulF
  rw [if_neg (show ¬ (i + 1 ≤ j ∧ j < i + 1 + 0) by omega), Nat.xor_zero]
  show _ = ((xs (rowF m a b j) i ^^^ rowF m a b j i : Nat) : Int)
  unfold rowF
  by_cases h1 : i ≤ j
  · by_cases h2 : j < i + k
    · rw [if_pos ⟨h1, h2⟩, if_pos h1]
    · rw [if_neg (by omega), if_pos h1, cf_out (show b.length ≤ j - i by omega), gm_zero_right]
  · rw [if_neg (by omega), if_neg h1]
theorem mulF_bd {m : Nat} (hm : Ok m) {a b : List Nat} (ha : ∀ x ∈ a, x < 2 ^ m) (i k j : Nat) : ∃ z : Nat, z < 2 ^ m ∧ mulF m a b i k j = (z : Nat) := by
  refine ⟨_, xor_lt (xs_lt (fun i _ => rowF_lt hm ha j i)) ?_, rfl⟩
  split
  · exact gm_lt hm (cf_lt ha (Nat.two_pow_pos m) i) _
  · exact Nat.two_pow_pos m
theorem mulF_next {m : Nat} (hm : Ok m) {a b : List Nat} (ha : ∀ x ∈ a, x < 2 ^ m) (i k : Nat) : (fun j => if j = i + k then ibit .xor .i64 (mulF m a b i k (i + k)) (gm m (cf a i) (cf b k) : Nat) else mulF m a b i k j) = mulF m a b i (k + 1) := by
  funext j
  by_cases h : j = i + k
  · subst h
    rw [if_pos rfl]
    have h1 : mulF m a b i k (i + k) = (xs (rowF m a b (i + k)) i : Nat) := by
      unfold mulF
      rw [if_neg (by omega), Nat.xor_zero]
    rw [h1, ibit_xor_nat (pow63 hm (xs_lt (fun i' _ => rowF_lt hm ha (i + k) i'))) (pow63 hm (gm_lt hm (cf_lt ha (Nat.two_pow_pos m) i) _))]
    unfold mulF
    rw [if_pos (by omega), show i + k - i = k by omega]
  · rw [if_neg h]
    unfold mulF
    by_cases h2 : i ≤ j ∧ j < i + k
    · rw [if_pos h2, if_pos (by omega)]
    · rw [if_neg h2, if_neg (by omega)]
theorem mul_all {m : Nat} (hm : Ok m) {a b : List Nat} (ha : ∀ x ∈ a, x < 2 ^ m) : trim (lowL m (tab (a.length + b.length - 1) (mulF m a b a.length 0))) = mulP m a b := by
  rw [trim_tab]
  unfold mulP
  refine pl_eq (fun j => ?_)
  split
  · unfold mulF
    rw [if_neg (by omega), Nat.xor_zero, lo_nat (xs_lt (fun i _ => rowF_lt hm ha j i))]
    unfold cv
    have e1 : xs (rowF m a b j) a.length = xs (rowF m a b j) (j + 1) := by
      refine xs_any (fun i hi => ?_) (fun i hi => ?_)
      · unfold rowF
        rw [cf_out hi, gm_zero_left]
        simp
      · unfold rowF
        rw [if_neg (by omega)]
    rw [e1]
    exact xs_congr (fun i hi => by unfold rowF; rw [if_pos (by omega)])
  · rfl
theorem mulP_nil {m : Nat} {a b : List Nat} (h : a.length = 0 ∨ b.length = 0) : mulP m a b = [] := by
  have hz : ∀ j, cv m (cf a) (cf b) j = 0 := fun j => xs_zero (fun i _ => by
    rcases h with h | h
    · rw [cf_out (l := a) (by omega), gm_zero_left]
    · rw [cf_out (l := b) (by omega), gm_zero_right])
  have : mulP m a b = trim [] := trim_eq (fun j => by
    rw [cf_range, hz, cf_nil]
    split <;> rfl)
  exact this
theorem natsAtC {a : List Nat} {i : Nat} (h : i < a.length) : (nats .i64 a)[i]? = some (.int .i64 (cf a i : Nat)) := by
  rw [natsAt h]; rfl
theorem pmulN {g m : Nat} {w : World} {x y : Nat} (hm : Ok m) (hf : Has (fieldA g m) w) (hx : x < 2 ^ m) (hy : y < 2 ^ m) : Spec1 Tryd.prog 89 [.pointer (some ⟨g, 0, none⟩), .int .i64 (x : Nat), .int .i64 (y : Nat)] w (.int .i64 (gm m x y : Nat)) := by
  have := mul_spec g m x y w hm hf; rw [lo_nat hx, lo_nat hy] at this; exact this
theorem trimLow_lt (m : Nat) (l : List Int) : ∀ x ∈ trim (lowL m l), x < 2 ^ m := trim_lt (lowL_lt m l)
abbrev SpecLE (P : Program) (f : FuncId) (args : List Value) (w : World) (E : List Nat) : Prop :=
  SpecX P f args w (X := Option Addr × Nat) (fun q => two (.slice q.1 E.length q.2) .nilIface) (fun q => E.length ≤ q.2) (fun q => [own 3 1 q.1 E.length q.2 (nats .i64 E)])

theorem pmul_spec (r g m : Nat) (A : Option Addr) (n c : Nat) (l : List Int) (B : Option Addr) (k d : Nat) (l2 : List Int) (w : World) (hm : Ok m) (hr : Has (ringA r g m) w) (ha : Has (sl 1 A n (ints .i64 l)) w) (hb : Has (sl 1 B k (ints .i64 l2)) w) (hn : n ≤ 4294967296) (hk : k ≤ 4294967296) (hsm : (trim (lowL m l)).length + (trim (lowL m l2)).length ≤ 2048) : SpecLE Tryd.prog 150 [.pointer (some ⟨r, 0, none⟩), .slice A n c, .slice B k d] w (mulP m (trim (lowL m l)) (trim (lowL m l2))) := by
  obtain ⟨hrc, hf⟩ := ring_at hr
  have hla := ints_len ha
  subst hla
  have hlb := ints_len hb
  subst hlb
  have hA := trimLow_lt m l
  have hB := trimLow_lt m l2
  have hta := trim_length (lowL m l)
  have htb := trim_length (lowL m l2)
  have hla1 := tl_le (lowL m l)
  have hlb1 := tl_le (lowL m l2)
  have hll1 := lowL_len m l
  have hll2 := lowL_len m l2
  generalize ea : trim (lowL m l) = a at *
  generalize eb : trim (lowL m l2) = b at *
  refine spec_of Tryd.func150 rfl Tryd.ntmps150 rfl ?_
  refine CW.seq ?_
  refine CW.reg [0, 1] rfl ?_
  refine s_as 6 rfl rfl ?_
  refine s_as 7 rfl rfl ?_
  refine SX.next ?_
  refine CW.seq ?_
  refine CW.reg [0, 1, 2, 3, 4, 5, 6, 7] rfl ?_
  refine s_mv 13 rfl rfl ?_
  refine s_mv 14 rfl rfl ?_
  refine s_call 15 rfl rfl rfl rfl (fun w hw => by have := trim_spec r g m A l.length c l w hm (hw.old hr) (hw.old ha) (by omega); rw [ea] at this; exact this) (fun _ _ => trivial) (fun q1 hq1 => ?_)
  refine s_mv 16 rfl rfl ?_
  refine s_mv 17 rfl rfl ?_
  refine s_call 18 rfl rfl rfl rfl (fun w hw => by have := trim_spec r g m B l2.length d l2 w hm (hw.old hr) (hw.old hb) (by omega); rw [eb] at this; exact this) (fun _ _ => trivial) (fun q2 hq2 => ?_)
  refine s_as 1 rfl rfl ?_
  refine s_as 2 rfl rfl ?_
  refine SX.next ?_
  refine CW.seq ?_
  refine CW.block ?_
  refine CW.seq ?_
  refine CW.reg [0, 1, 2, 3, 4, 5, 6] rfl ?_
  refine s_mv 20 rfl rfl ?_
  refine s_len 21 rfl rfl ?_
  refine s_mv 22 rfl rfl ?_
  refine s_len 23 rfl rfl ?_
  refine s_add 24 rfl rfl rfl (w64 (by omega)) ?_
  refine s_gt 25 rfl rfl rfl (decide_eq_false (by omega)) ?_
  refine s_as 19 rfl rfl ?_
  refine SX.next ?_
  refine CW.condF rfl ?_
  refine CW.seq ?_
  refine CW.reg [0, 1, 2, 3, 4, 5, 6, 7, 8] rfl ?_
  refine s_mv 28 rfl rfl ?_
  refine s_len 29 rfl rfl ?_
  refine s_eq 30 rfl rfl rfl rfl ?_
  refine s_mv 31 rfl rfl ?_
  refine SX.bool 31 rfl (fun hb => ?_) (fun hb => ?_)
  · skip
    replace hb := of_decide_eq_true hb
    refine SX.skip rfl ?_
    refine SX.skip rfl ?_
    refine SX.skip rfl ?_
    refine s_pickT 35 rfl rfl rfl ?_
    refine s_as 27 rfl rfl ?_
    refine SX.next ?_
    refine CW.condT rfl ?_
    refine CW.seq ?_
    refine CW.reg [0, 1] rfl ?_
    refine s_as 6 rfl rfl ?_
    refine s_as 7 rfl rfl ?_
    refine SX.next ?_
    refine CW.ret ?_
    exact KN.ret (rs := [.tmp 6, .tmp 7]) Tryd.results150 rfl (fun w hw => ⟨(none, 0), by rw [mulP_nil (.inl (by omega))]; rfl, by rw [mulP_nil (.inl (by omega))]; exact Nat.le_refl _, by rw [mulP_nil (.inl (by omega))]; exact (hw.pick [] rfl).begin_ _ 1⟩)
  · skip
    replace hb := of_decide_eq_false hb
    refine s_mv 32 rfl rfl ?_
    refine s_len 33 rfl rfl ?_
    refine s_eq 34 rfl rfl rfl rfl ?_
    refine s_pickF 35 rfl rfl rfl ?_
    refine s_as 27 rfl rfl ?_
    refine SX.next ?_
    refine CW.test rfl (fun hc => ?_) (fun hc => ?_)
    · skip
      refine CW.seq ?_
      refine CW.reg [0, 1] rfl ?_
      refine s_as 6 rfl rfl ?_
      refine s_as 7 rfl rfl ?_
      refine SX.next ?_
      refine CW.ret ?_
      exact KN.ret (rs := [.tmp 6, .tmp 7]) Tryd.results150 rfl (fun w hw => ⟨(none, 0), by rw [mulP_nil (.inr (by omega))]; rfl, by rw [mulP_nil (.inr (by omega))]; exact Nat.le_refl _, by rw [mulP_nil (.inr (by omega))]; exact (hw.pick [] rfl).begin_ _ 1⟩)
    · skip
      refine CW.skip ?_
      refine KN.blk ?_
      refine KN.code ?_
      refine CW.seq ?_
      refine CW.reg [0, 1, 2, 3, 4, 5, 6, 7] rfl ?_
      refine s_mv 36 rfl rfl ?_
      refine s_len 37 rfl rfl ?_
      refine s_mv 38 rfl rfl ?_
      refine s_len 39 rfl rfl ?_
      refine s_add 40 rfl rfl rfl (w64 (by omega)) ?_
      refine s_sub 41 rfl rfl rfl (r := ((a.length + b.length - 1 : Nat) : Int)) (by rw [show ((a.length : Nat) : Int) + (b.length : Nat) - 1 = ((a.length + b.length - 1 : Nat) : Int) by omega]; exact w64 (by omega)) ?_
      refine s_make 42 (a.length + b.length - 1) rfl rfl rfl rfl rfl (by omega) (fun _ _ => trivial) (fun go => ?_)
      refine s_as 8 rfl rfl ?_
      refine SX.next ?_
      refine CW.seq ?_
      refine CW.seq ?_
      refine CW.reg [0, 1, 2] rfl ?_
      refine s_mv 43 rfl rfl ?_
      refine s_len 44 rfl rfl ?_
      refine s_mv 45 rfl rfl ?_
      refine SX.next ?_
      refine CW.block ?_
      refine CW.loop (G := Nat) (fun i => [(0, .pointer (some ⟨r, 0, none⟩)), (2, .slice q2.1 b.length q2.2), (8, .slice (some ⟨go, 0, none⟩) (a.length + b.length - 1) (a.length + b.length - 1)), (43, .slice q1.1 a.length q1.2), (44, .int .i64 (a.length : Nat)), (45, .int .i64 (i : Nat))]) (fun i => Sto w [blk go 3 (ints .i64 (tab (a.length + b.length - 1) (mulF m a b i 0))).toArray, own 3 1 q2.1 b.length q2.2 (nats .i64 b), own 3 1 q1.1 a.length q1.2 (nats .i64 a)]) (fun i => i ≤ a.length) (fun i => a.length - i) 0 ⟨rfl, rfl, rfl, rfl, rfl, rfl, trivial⟩ (fun _ h => by rw [show tab (a.length + b.length - 1) (mulF m a b 0 0) = tab (a.length + b.length - 1) (fun _ => 0) from tab_cong (fun j _ => mulF_zero m a b j), ← tab_zero]; exact h) (Nat.zero_le _) ?_
      intro i hi
      refine CW.seq ?_
      refine CW.reg [0] rfl ?_
      refine s_lt 46 rfl rfl rfl rfl ?_
      refine SX.next ?_
      refine CW.seq ?_
      refine CW.test rfl (fun hc => ?_) (fun hc => ?_)
      · skip
        refine CW.skip ?_
        refine KN.code ?_
        refine CW.seq ?_
        refine CW.block ?_
        refine CW.seq ?_
        refine CW.reg [0, 1, 2, 3, 4] rfl ?_
        refine s_mv 47 rfl rfl ?_
        refine s_iaO 48 2 i rfl rfl rfl rfl rfl (by omega) ?_
        refine s_ldO 49 2 rfl rfl rfl (natsAtC (by omega)) ?_
        refine s_as 9 rfl rfl ?_
        refine s_as 10 rfl rfl ?_
        refine SX.next ?_
        refine CW.seq ?_
        refine CW.reg [0, 1, 2] rfl ?_
        refine s_mv 50 rfl rfl ?_
        refine s_len 51 rfl rfl ?_
        refine s_mv 52 rfl rfl ?_
        refine SX.next ?_
        refine CW.block ?_
        refine CW.loop (G := Nat) (fun k => [(0, .pointer (some ⟨r, 0, none⟩)), (2, .slice q2.1 b.length q2.2), (8, .slice (some ⟨go, 0, none⟩) (a.length + b.length - 1) (a.length + b.length - 1)), (9, .int .i64 (i : Nat)), (10, .int .i64 (cf a i : Nat)), (43, .slice q1.1 a.length q1.2), (44, .int .i64 (a.length : Nat)), (45, .int .i64 (i : Nat)), (50, .slice q2.1 b.length q2.2), (51, .int .i64 (b.length : Nat)), (52, .int .i64 (k : Nat))]) (fun k => Sto w [blk go 3 (ints .i64 (tab (a.length + b.length - 1) (mulF m a b i k))).toArray, own 3 1 q2.1 b.length q2.2 (nats .i64 b), own 3 1 q1.1 a.length q1.2 (nats .i64 a)]) (fun k => k ≤ b.length) (fun k => b.length - k) 0 ⟨rfl, rfl, rfl, rfl, rfl, rfl, rfl, rfl, rfl, rfl, rfl, trivial⟩ (fun _ h => h) (Nat.zero_le _) ?_
        intro k hk2
        refine CW.seq ?_
        refine CW.reg [0] rfl ?_
        refine s_lt 53 rfl rfl rfl rfl ?_
        refine SX.next ?_
        refine CW.seq ?_
        refine CW.test rfl (fun hc => ?_) (fun hc => ?_)
        · skip
          refine CW.skip ?_
          refine KN.code ?_
          refine CW.seq ?_
          refine CW.block ?_
          refine CW.seq ?_
          refine CW.reg [0, 1, 2, 3, 4] rfl ?_
          refine s_mv 54 rfl rfl ?_
          refine s_iaO 55 1 k rfl rfl rfl rfl rfl (by omega) ?_
          refine s_ldO 56 1 rfl rfl rfl (natsAtC (by omega)) ?_
          refine s_as 11 rfl rfl ?_
          refine s_as 12 rfl rfl ?_
          refine SX.next ?_
          refine CW.regD (.st true 0 (.st true 1 (.st true 2 (.st true 3 (.st true 4 (.st true 6 (.st true 7 (.st true 8 (.st true 9 (.st true 10 (.st true 11 (.alt 5 (.st false 12 (.st true 13 (.st true 14 (.st false 15 .done)))) (.st false 12 (.st false 5 (.st true 13 (.st true 14 (.st false 15 .done))))))))))))))))) (Sto w []) mixed (by kernel_rfl) (fun _ h => h.drew) (fun _ h => h.pick [] rfl) ?_
          refine s_mv 57 rfl rfl ?_
          refine s_mv 58 rfl rfl ?_
          refine s_mv 59 rfl rfl ?_
          refine s_add 60 rfl rfl rfl (r := ((i + k : Nat) : Int)) (w64 (by omega)) ?_
          refine s_ia0 61 (i + k) rfl rfl rfl rfl (by omega) ?_
          refine s_mv 63 rfl rfl ?_
          refine s_nil 64 rfl rfl ?_
          refine s_fa 65 rfl rfl ?_
          refine s_ldS 66 rfl rfl (fun _ h => h.cell hrc) ?_
          refine s_mv 67 rfl rfl ?_
          refine s_mv 68 rfl rfl ?_
          refine SX.alt ?_ ?_
          · skip
            refine s_ldB 62 0 rfl rfl rfl (tab_atA (by omega)) ?_
            refine s_call1 69 rfl rfl rfl rfl (fun w hw => pmulN hm (hw.old hf) (cf_lt hA (Nat.two_pow_pos m) i) (cf_lt hB (Nat.two_pow_pos m) k)) (fun _ h => h.pick [] rfl) ?_
            refine s_bit 70 rfl rfl rfl rfl rfl ?_
            refine s_ia0 71 (i + k) rfl rfl rfl rfl (by omega) ?_
            refine s_stB 0 rfl rfl rfl rfl rfl (by rw [tab_size]; omega) (fun _ h => h.pick [] rfl) ?_
            refine SX.end_ ?_
            refine KN.blk ?_
            refine KN.code ?_
            refine CW.reg [0, 1] rfl ?_
            refine s_add 72 rfl rfl rfl (r := ((k + 1 : Nat) : Int)) (w64 (by omega)) ?_
            refine s_mv 52 rfl rfl ?_
            refine SX.end_ ?_
            exact KN.back (k + 1) ⟨rfl, rfl, rfl, rfl, rfl, rfl, rfl, rfl, rfl, rfl, rfl, trivial⟩ (fun _ h => by rw [← mulF_next hm hA, ← tab_set]; exact h) (by omega) (by omega)
          · skip
            refine s_call1 69 rfl rfl rfl rfl (fun w hw => pmulN hm (hw.old hf) (cf_lt hA (Nat.two_pow_pos m) i) (cf_lt hB (Nat.two_pow_pos m) k)) (fun _ h => h.pick [] rfl) ?_
            refine s_ldB 62 0 rfl rfl rfl (tab_atA (by omega)) ?_
            refine s_bit 70 rfl rfl rfl rfl rfl ?_
            refine s_ia0 71 (i + k) rfl rfl rfl rfl (by omega) ?_
            refine s_stB 0 rfl rfl rfl rfl rfl (by rw [tab_size]; omega) (fun _ h => h.pick [] rfl) ?_
            refine SX.end_ ?_
            refine KN.blk ?_
            refine KN.code ?_
            refine CW.reg [0, 1] rfl ?_
            refine s_add 72 rfl rfl rfl (r := ((k + 1 : Nat) : Int)) (w64 (by omega)) ?_
            refine s_mv 52 rfl rfl ?_
            refine SX.end_ ?_
            exact KN.back (k + 1) ⟨rfl, rfl, rfl, rfl, rfl, rfl, rfl, rfl, rfl, rfl, rfl, trivial⟩ (fun _ h => by rw [← mulF_next hm hA, ← tab_set]; exact h) (by omega) (by omega)
        · skip
          obtain rfl : k = b.length := by omega
          refine CW.exit rfl ?_
          refine KN.blk ?_
          refine KN.code ?_
          refine CW.reg [0, 1] rfl ?_
          refine s_add 73 rfl rfl rfl (r := ((i + 1 : Nat) : Int)) (w64 (by omega)) ?_
          refine s_mv 45 rfl rfl ?_
          refine SX.end_ ?_
          exact KN.back (i + 1) ⟨rfl, rfl, rfl, rfl, rfl, rfl, trivial⟩ (fun _ h => by rw [← tab_cong (fun j _ => mulF_row m a b i b.length (Nat.le_refl _) j)]; exact h) (by omega) (by omega)
      · skip
        obtain rfl : i = a.length := by omega
        refine CW.exit rfl ?_
        refine KN.code ?_
        refine CW.seq ?_
        refine CW.reg [0, 1, 2, 3, 4] rfl ?_
        refine s_mv 74 rfl rfl ?_
        refine s_mv 75 rfl rfl ?_
        refine s_call 76 rfl rfl rfl rfl (fun w hw => by have := trim_spec r g m (some ⟨go, 0, none⟩) (a.length + b.length - 1) (a.length + b.length - 1) (tab (a.length + b.length - 1) (mulF m a b a.length 0)) w hm (hw.old hr) (Has.cong ((hw.has (i := 0) rfl).blk_sl (m := (a.length + b.length - 1)) (by exact tab_size.trans (Nat.mul_one _).symm)) rfl) (by omega); rw [mul_all hm hA] at this; exact this) (fun _ _ => trivial) (fun q3 hq3 => ?_)
        refine s_as 6 rfl rfl ?_
        refine s_as 7 rfl rfl ?_
        refine SX.next ?_
        refine CW.ret ?_
        exact KN.ret (rs := [.tmp 6, .tmp 7]) Tryd.results150 rfl (fun w hw => ⟨q3, rfl, hq3, hw.pick [0] rfl⟩)

/-! ### Quotients -/
/-- The quotient's coefficient n. -/
noncomputable def dC (m : Nat) (b : List Nat) (R : Nat → Nat) (n : Nat) : Nat := gm m (R (n + b.length - 1)) (inv m (cf b (b.length - 1)))
/-- What is left behind it, up to coefficient n + i. -/
def dSi (m : Nat) (b : List Nat) (R : Nat → Nat) (n c i : Nat) (j : Nat) : Nat := if n ≤ j ∧ j < n + i then R j ^^^ gm m c (cf b (j - n)) else R j
noncomputable def divR (m : Nat) (b : List Nat) : Nat → (Nat → Nat) → Nat → Nat
  | 0, R => R
  | n + 1, R => divR m b n (dSi m b R n (dC m b R n) b.length)
noncomputable def divQ (m : Nat) (b : List Nat) : Nat → (Nat → Nat) → Nat → Nat
  | 0, _, _ => 0
  | n + 1, R, j => if j = n then dC m b R n else divQ m b n (dSi m b R n (dC m b R n) b.length) j
theorem divQ_hi (m : Nat) (b : List Nat) : ∀ (n : Nat) (R : Nat → Nat) (j : Nat), n ≤ j → divQ m b n R j = 0
  | 0, _, _, _ => rfl
  | n + 1, R, j, h => by
    unfold divQ
    rw [if_neg (by omega)]
    exact divQ_hi m b n _ j (by omega)
noncomputable def quotP (m : Nat) (a b : List Nat) : List Nat := pl (a.length + 1 - b.length) (divQ m b (a.length + 1 - b.length) (cf a))
noncomputable def restP (m : Nat) (a b : List Nat) : List Nat := pl a.length (divR m b (a.length + 1 - b.length) (cf a))
theorem dSi_lt {m : Nat} (hm : Ok m) {b : List Nat} {R : Nat → Nat} (hR : ∀ j, R j < 2 ^ m) {n c i : Nat} (hc : c < 2 ^ m) (j : Nat) : dSi m b R n c i j < 2 ^ m := by
  unfold dSi
  split
  · exact xor_lt (hR j) (gm_lt hm hc _)
  · exact hR j
theorem divR_lt {m : Nat} (hm : Ok m) {b : List Nat} : ∀ (n : Nat) {R : Nat → Nat}, (∀ j, R j < 2 ^ m) → ∀ j, divR m b n R j < 2 ^ m
  | 0, _, hR, j => hR j
  | n + 1, _, hR, j => divR_lt hm n (fun j => dSi_lt hm hR (gm_lt hm (hR _) _) j) j
theorem divQ_lt {m : Nat} (hm : Ok m) {b : List Nat} : ∀ (n : Nat) {R : Nat → Nat}, (∀ j, R j < 2 ^ m) → ∀ j, divQ m b n R j < 2 ^ m
  | 0, _, _, _ => Nat.two_pow_pos m
  | n + 1, R, hR, j => by
    unfold divQ
    split
    · exact gm_lt hm (hR _) _
    · exact divQ_lt hm n (fun j => dSi_lt hm hR (gm_lt hm (hR _) _) j) j
theorem dSi_zero (m : Nat) (b : List Nat) (R : Nat → Nat) (n c : Nat) : dSi m b R n c 0 = R := by
  funext j
  unfold dSi
  rw [if_neg (by omega)]
theorem dSi_at (m : Nat) (b : List Nat) (R : Nat → Nat) (n c i : Nat) : dSi m b R n c i (n + i) = R (n + i) := by
  unfold dSi
  rw [if_neg (by omega)]
/-- A table of elements. -/
def tabN (n : Nat) (f : Nat → Nat) : List Int := tab n (fun j => (f j : Nat))
theorem tabN_len (n : Nat) (f : Nat → Nat) : (tabN n f).length = n := tab_len _ _
theorem tabN_at {k : IntKind} {n j : Nat} {f : Nat → Nat} (h : j < n) : (ints k (tabN n f))[j]? = some (.int k (f j : Nat)) := tab_at h
theorem tabN_set {k : IntKind} {n i : Nat} {f : Nat → Nat} (z : Nat) : (ints k (tabN n f)).toArray.setIfInBounds i (.int k (z : Nat)) = (ints k (tabN n (fun j => if j = i then z else f j))).toArray := by
  unfold tabN
  rw [tab_set]
  congr 2
  exact tab_cong (fun j _ => by by_cases h : j = i <;> simp [h])
theorem tabN_setL {k : IntKind} {n i : Nat} {f : Nat → Nat} (z : Nat) : (ints k (tabN n f)).set i (.int k (z : Nat)) = ints k (tabN n (fun j => if j = i then z else f j)) := by
  unfold tabN
  rw [tab_setL]
  congr 1
  exact tab_cong (fun j _ => by by_cases h : j = i <;> simp [h])
theorem nats_tabN (k : IntKind) (a : List Nat) : nats k a = ints k (tabN a.length (cf a)) := by
  unfold nats ints tabN tab
  apply List.ext_getElem?
  intro j
  by_cases h : j < a.length <;> simp [h, cf]
theorem trim_tabN {m n : Nat} {f : Nat → Nat} (h : ∀ j, f j < 2 ^ m) : trim (lowL m (tabN n f)) = pl n f := by
  unfold tabN
  rw [trim_tab]
  exact pl_eq (fun j => by rw [lo_nat (h j)])
theorem dSi_next {m : Nat} (b : List Nat) (R : Nat → Nat) (n c i : Nat) : (fun j => if j = n + i then R (n + i) ^^^ gm m c (cf b i) else dSi m b R n c i j) = dSi m b R n c (i + 1) := by
  funext j
  by_cases h : j = n + i
  · subst h
    rw [if_pos rfl]
    unfold dSi
    rw [if_pos (by omega), show n + i - n = i by omega]
  · rw [if_neg h]
    unfold dSi
    by_cases h2 : n ≤ j ∧ j < n + i
    · rw [if_pos h2, if_pos (by omega)]
    · rw [if_neg h2, if_neg (by omega)]
structure DivG (m : Nat) (a b : List Nat) (q : Nat × (Nat → Nat) × (Nat → Nat)) : Prop where
  le : q.1 ≤ a.length + 1 - b.length
  lt : ∀ j, q.2.1 j < 2 ^ m
  rest : divR m b q.1 q.2.1 = divR m b (a.length + 1 - b.length) (cf a)
  quot : ∀ j, (if q.1 ≤ j then q.2.2 j else divQ m b q.1 q.2.1 j) = divQ m b (a.length + 1 - b.length) (cf a) j
theorem divG_start (m : Nat) {a : List Nat} (hA : ∀ x ∈ a, x < 2 ^ m) (b : List Nat) : DivG m a b (a.length + 1 - b.length, cf a, fun _ => 0) := by
  refine ⟨Nat.le_refl _, cf_lt hA (Nat.two_pow_pos m), rfl, fun j => ?_⟩
  show (if a.length + 1 - b.length ≤ j then 0 else divQ m b (a.length + 1 - b.length) (cf a) j) = _
  split
  · exact (divQ_hi m b _ _ j (by assumption)).symm
  · rfl
theorem DivG.next {m k : Nat} (hm : Ok m) {a b : List Nat} {R Q : Nat → Nat} (h : DivG m a b (k + 1, R, Q)) : DivG m a b (k, dSi m b R k (dC m b R k) b.length, fun j => if j = k then dC m b R k else Q j) := by
  refine ⟨by have := h.le; simp only at this ⊢; omega, fun j => dSi_lt hm h.lt (gm_lt hm (h.lt _) _) j, h.rest, fun j => ?_⟩
  rw [← h.quot j]
  simp only
  by_cases h1 : j = k
  · subst h1
    rw [if_pos (Nat.le_refl _), if_pos rfl, if_neg (by omega)]
    unfold divQ
    rw [if_pos rfl]
  · by_cases h2 : k + 1 ≤ j
    · rw [if_pos (by omega), if_neg h1, if_pos h2]
    · rw [if_neg (by omega), if_neg h2]
      show _ = divQ m b (k + 1) R j
      conv => rhs; unfold divQ
      rw [if_neg h1]
abbrev SpecLL (P : Program) (f : FuncId) (args : List Value) (w : World) (E G : List Nat) : Prop :=
  SpecX P f args w (X := (Option Addr × Nat) × (Option Addr × Nat)) (fun q => .tuple #[.slice q.1.1 E.length q.1.2, .slice q.2.1 G.length q.2.2, .nilIface]) (fun q => E.length ≤ q.1.2 ∧ G.length ≤ q.2.2)
    (fun q => [own 3 1 q.2.1 G.length q.2.2 (nats .i64 G), own 3 1 q.1.1 E.length q.1.2 (nats .i64 E)])

/-! ### What is refused -/
/-- Two numbers on the way. -/
def errRes (e : Nat → Addr) (k : Nat) : Value := two (.slice none 0 0) (errV e k)

theorem pmul_long (r g m : Nat) (A : Option Addr) (n c : Nat) (l : List Int) (B : Option Addr) (k d : Nat) (l2 : List Int) (e : Nat → Addr) (w : World) (hm : Ok m) (hr : Has (ringA r g m) w) (ha : Has (sl 1 A n (ints .i64 l)) w) (hb : Has (sl 1 B k (ints .i64 l2)) w) (hn : n ≤ 4294967296) (hk : k ≤ 4294967296) (he : Er e w 0) (hsm : 2048 < (trim (lowL m l)).length + (trim (lowL m l2)).length) : Spec1 Tryd.prog 150 [.pointer (some ⟨r, 0, none⟩), .slice A n c, .slice B k d] w (errRes e 0) := by
  obtain ⟨hrc, hf⟩ := ring_at hr
  have hla := ints_len ha
  subst hla
  have hlb := ints_len hb
  subst hlb
  have hA := trimLow_lt m l
  have hB := trimLow_lt m l2
  have hta := trim_length (lowL m l)
  have htb := trim_length (lowL m l2)
  have hla1 := tl_le (lowL m l)
  have hlb1 := tl_le (lowL m l2)
  have hll1 := lowL_len m l
  have hll2 := lowL_len m l2
  generalize ea : trim (lowL m l) = a at *
  generalize eb : trim (lowL m l2) = b at *
  have hla5 : a.length ≤ 4294967296 := by omega
  have hlb5 : b.length ≤ 4294967296 := by omega
  refine spec_of Tryd.func150 rfl Tryd.ntmps150 rfl ?_
  refine CW.seq ?_
  refine CW.reg [0, 1] rfl ?_
  refine s_as 6 rfl rfl ?_
  refine s_as 7 rfl rfl ?_
  refine SX.next ?_
  refine CW.seq ?_
  refine CW.reg [0, 1, 2, 3, 4, 5, 6, 7] rfl ?_
  refine s_mv 13 rfl rfl ?_
  refine s_mv 14 rfl rfl ?_
  refine s_call 15 rfl rfl rfl rfl (fun w hw => by have := trim_spec r g m A l.length c l w hm (hw.old hr) (hw.old ha) (by omega); rw [ea] at this; exact this) (fun _ _ => trivial) (fun q1 hq1 => ?_)
  refine s_mv 16 rfl rfl ?_
  refine s_mv 17 rfl rfl ?_
  refine s_call 18 rfl rfl rfl rfl (fun w hw => by have := trim_spec r g m B l2.length d l2 w hm (hw.old hr) (hw.old hb) (by omega); rw [eb] at this; exact this) (fun _ _ => trivial) (fun q2 hq2 => ?_)
  refine s_as 1 rfl rfl ?_
  refine s_as 2 rfl rfl ?_
  refine SX.next ?_
  refine CW.seq ?_
  refine CW.block ?_
  refine CW.seq ?_
  refine CW.reg [0, 1, 2, 3, 4, 5, 6] rfl ?_
  refine s_mv 20 rfl rfl ?_
  refine s_len 21 rfl rfl ?_
  refine s_mv 22 rfl rfl ?_
  refine s_len 23 rfl rfl ?_
  refine s_add 24 rfl rfl rfl (w64 (by omega)) ?_
  refine s_gt 25 rfl rfl rfl (decide_eq_true (by omega)) ?_
  refine s_as 19 rfl rfl ?_
  refine SX.next ?_
  refine CW.condT rfl ?_
  refine CW.seq ?_
  refine CW.regD (.st true 0 (.st true 1 (.st true 2 .done))) (Sto w []) mixed (by kernel_rfl) (fun _ h => h.drew) (fun _ h => h.pick [] rfl) ?_
  refine s_ldS 26 rfl rfl (fun _ h => h.cell he) ?_
  refine s_as 6 rfl rfl ?_
  refine s_as 7 rfl rfl ?_
  refine SX.next ?_
  refine CW.ret ?_
  exact KN.ret (rs := [.tmp 6, .tmp 7]) Tryd.results150 rfl (fun w hw => ⟨rfl, hw.nothing⟩)

/-! ### Roots -/
/-- The first n elements at which it is 0. -/
def rootsN (m : Nat) (a : List Nat) : Nat → List Nat
  | 0 => []
  | n + 1 => if evL m a n = 0 then rootsN m a n ++ [n] else rootsN m a n
def rootsP (m : Nat) (a : List Nat) : List Nat := if a.length = 0 then [] else rootsN m a (2 ^ m)
theorem rootsN_len (m : Nat) (a : List Nat) : ∀ n, (rootsN m a n).length ≤ n
  | 0 => Nat.le_refl _
  | n + 1 => by
    have := rootsN_len m a n
    unfold rootsN
    split
    · simp; omega
    · omega
theorem nats_snoc (k : IntKind) (a : List Nat) (x : Nat) : nats k a ++ [.int k (x : Nat)] = nats k (a ++ [x]) := by simp [nats]
theorem lowL_ofNat {m : Nat} {a : List Nat} (h : ∀ x ∈ a, x < 2 ^ m) : lowL m (a.map Int.ofNat) = a := by
  unfold lowL
  rw [List.map_map]
  conv => rhs; rw [← List.map_id a]
  exact List.map_congr_left (fun x hx => lo_nat (h x hx))

/-! ### The product of x + a -/
theorem _root_.Go.Sx.St.blkOwn {F : Nat → Prop} {w₀ w : World} {L : List Atom} {q g E sz c : Nat} {cs : Array Value} (hi : L[q]? = some (blk g E cs)) (hc : cs.size = c * sz) (hm : c ≤ maxLen) (h : St F w₀ L w) : St F w₀ (L.set q (own E sz (some ⟨g, 0, none⟩) c c cs.toList)) w :=
  h.swap hi (fun _ D ⟨h1, h2⟩ _ => ⟨D, ⟨⟨by simpa using hc, .inr ⟨g, c, cs, rfl, Nat.zero_le _, h2, Nat.le_refl _, hm, hc, by rw [List.take_of_length_le (by simp [hc])]⟩⟩, fun k => by rw [h1]; simp [ob]⟩, fun _ h => h⟩)
/-- Times x + a, so far. -/
def frF (m : Nat) (p : List Nat) (a i j : Nat) : Nat := if j < i then cf (0 :: p) j ^^^ gm m (cf p j) a else cf (0 :: p) j
def frS (m : Nat) (p : List Nat) (a : Nat) : List Nat := (List.range (p.length + 1)).map (frF m p a p.length)
def frP (m : Nat) (l : List Int) : Nat → List Nat
  | 0 => [1]
  | i + 1 => frS m (frP m l i) (lo m (l.getD i 0))
theorem frP_len (m : Nat) (l : List Int) : ∀ i, (frP m l i).length = i + 1
  | 0 => rfl
  | i + 1 => by simp [frP, frS, frP_len m l i]
theorem frF_lt {m : Nat} (hm : Ok m) {p : List Nat} (hp : ∀ x ∈ p, x < 2 ^ m) (a i j : Nat) : frF m p a i j < 2 ^ m := by
  have h0 : ∀ x ∈ (0 :: p), x < 2 ^ m := fun x hx => by
    rcases List.mem_cons.1 hx with rfl | hx
    · exact Nat.two_pow_pos m
    · exact hp x hx
  unfold frF
  split
  · exact xor_lt (cf_lt h0 (Nat.two_pow_pos m) j) (gm_lt hm (cf_lt hp (Nat.two_pow_pos m) j) a)
  · exact cf_lt h0 (Nat.two_pow_pos m) j
theorem frP_lt {m : Nat} (hm : Ok m) (l : List Int) : ∀ i, ∀ x ∈ frP m l i, x < 2 ^ m
  | 0, x, hx => by
    simp [frP] at hx
    subst hx
    exact one_lt hm
  | i + 1, x, hx => by
    obtain ⟨j, _, rfl⟩ := List.mem_map.1 hx
    exact frF_lt hm (frP_lt hm l i) _ _ j
theorem frF_next (m : Nat) (p : List Nat) (a i : Nat) : (fun j => if j = i then cf (0 :: p) i ^^^ gm m (cf p i) a else frF m p a i j) = frF m p a (i + 1) := by
  funext j
  unfold frF
  by_cases h : j = i
  · subst h; simp
  · rw [if_neg h]
    by_cases h2 : j < i
    · rw [if_pos h2, if_pos (by omega)]
    · rw [if_neg h2, if_neg (by omega)]
theorem frF_zero (m : Nat) (p : List Nat) (a : Nat) : nats .i64 (0 :: p) = ints .i64 (tabN (p.length + 1) (frF m p a 0)) := by
  rw [nats_tabN]
  rfl
theorem frF_all (m : Nat) (p : List Nat) (a : Nat) : ints .i64 (tabN (p.length + 1) (frF m p a p.length)) = nats .i64 (frS m p a) := by
  unfold frS tabN
  exact tab_nats _ _
theorem trim_nats {m : Nat} {p : List Nat} (hp : ∀ x ∈ p, x < 2 ^ m) : trim (lowL m (p.map Int.ofNat)) = trim p := by rw [lowL_ofNat hp]

/-! ### Divisors -/
theorem tl_le_cf {l : List Nat} {K : Nat} (h : ∀ j, K ≤ j → cf l j = 0) : tl l ≤ K := by
  by_cases h0 : tl l = 0
  · omega
  · exact Nat.le_of_not_lt (fun hlt => cf_top l h0 (h _ (by omega)))
theorem gm_div {m : Nat} (hm : Ok m) {x y : Nat} (hx : x < 2 ^ m) (hy : y < 2 ^ m) (h0 : y ≠ 0) : gm m (gm m x (inv m y)) y = x := by
  rw [gm_assoc hm hx (inv_lt hm y) hy, gm_comm hm (inv_lt hm y) hy, gm_inv hm hy h0, gm_one_right hm hx]
theorem divR_hi {m : Nat} (hm : Ok m) {b : List Nat} (hb : ∀ x ∈ b, x < 2 ^ m) (h0 : b.length ≠ 0) (ht : cf b (b.length - 1) ≠ 0) : ∀ (n : Nat) {R : Nat → Nat}, (∀ j, R j < 2 ^ m) → (∀ j, n + b.length - 1 ≤ j → R j = 0) → ∀ j, b.length - 1 ≤ j → divR m b n R j = 0
  | 0, _, _, hz, j, hj => hz j (by omega)
  | n + 1, R, hR, hz, j, hj => by
    refine divR_hi hm hb h0 ht n (fun j => dSi_lt hm hR (gm_lt hm (hR _) _) j) (fun i hi => ?_) j hj
    unfold dSi
    by_cases h : i = n + b.length - 1
    · rw [if_pos (by omega)]
      rw [← h, show i - n = b.length - 1 by omega, gm_div hm (hR i) (cf_lt hb (Nat.two_pow_pos m) _) ht, Nat.xor_self]
    · rw [if_neg (by omega)]
      exact hz i (by omega)
theorem rest_hi {m : Nat} (hm : Ok m) {a b : List Nat} (ha : ∀ x ∈ a, x < 2 ^ m) (hb : ∀ x ∈ b, x < 2 ^ m) (h0 : b.length ≠ 0) (ht : cf b (b.length - 1) ≠ 0) (j : Nat) (hj : b.length - 1 ≤ j) : divR m b (a.length + 1 - b.length) (cf a) j = 0 :=
  divR_hi hm hb h0 ht _ (cf_lt ha (Nat.two_pow_pos m)) (fun i hi => cf_out (by omega)) j hj
theorem restP_len {m : Nat} (hm : Ok m) {a b : List Nat} (ha : ∀ x ∈ a, x < 2 ^ m) (hb : ∀ x ∈ b, x < 2 ^ m) (h0 : b.length ≠ 0) (ht : cf b (b.length - 1) ≠ 0) : (restP m a b).length < b.length := by
  have : tl ((List.range a.length).map (divR m b (a.length + 1 - b.length) (cf a))) ≤ b.length - 1 := tl_le_cf (fun j hj => by
    rw [cf_range]
    split
    · exact rest_hi hm ha hb h0 ht j hj
    · rfl)
  unfold restP pl
  rw [trim_length]
  omega
/-- Elements, without noughts at the end. -/
structure Tr (m : Nat) (a : List Nat) : Prop where
  lt : ∀ x ∈ a, x < 2 ^ m
  eq : trim a = a
theorem Tr.top {m : Nat} {a : List Nat} (h : Tr m a) (h0 : a.length ≠ 0) : cf a (a.length - 1) ≠ 0 := by
  have h1 : tl a = a.length := by rw [← trim_length, h.eq]
  rw [← h1]
  exact cf_top a (by omega)
theorem pl_tr {m n : Nat} {f : Nat → Nat} (h : ∀ j, f j < 2 ^ m) : Tr m (pl n f) := by
  refine ⟨trim_lt (fun x hx => ?_), trim_pl n f⟩
  obtain ⟨j, _, rfl⟩ := List.mem_map.1 hx
  exact h j
theorem trimLow_tr (m : Nat) (l : List Int) : Tr m (trim (lowL m l)) := ⟨trimLow_lt m l, trim_trim _⟩
theorem restP_tr {m : Nat} (hm : Ok m) {a b : List Nat} (ha : Tr m a) : Tr m (restP m a b) := pl_tr (divR_lt hm _ (cf_lt ha.lt (Nat.two_pow_pos m)))
/-- The greatest common divisor, but for a factor. -/
noncomputable def gcdP (m : Nat) : Nat → List Nat → List Nat → List Nat
  | 0, a, _ => a
  | k + 1, a, b => if b.length = 0 then a else gcdP m k b (restP m a b)
theorem gcdP_more {m : Nat} (hm : Ok m) : ∀ {k i : Nat} {a b : List Nat}, Tr m a → Tr m b → b.length < k → b.length < i → gcdP m k a b = gcdP m i a b
  | 0, _, _, _, _, _, h, _ => by omega
  | _ + 1, 0, _, _, _, _, _, h => by omega
  | k + 1, i + 1, a, b, ha, hb, h1, h2 => by
    unfold gcdP
    split
    · rfl
    · rename_i h0
      have := restP_len hm ha.lt hb.lt h0 (hb.top h0)
      exact gcdP_more hm hb (restP_tr hm ha) (by omega) (by omega)
noncomputable def gcdE (m : Nat) (a b : List Nat) : List Nat := gcdP m (b.length + 1) a b
theorem gcdE_step {m : Nat} (hm : Ok m) {a b : List Nat} (ha : Tr m a) (hb : Tr m b) (h0 : b.length ≠ 0) : gcdE m b (restP m a b) = gcdE m a b := by
  unfold gcdE
  have := restP_len hm ha.lt hb.lt h0 (hb.top h0)
  rw [gcdP_more hm hb (restP_tr hm ha) (Nat.lt_succ_self _) (show _ < b.length by omega)]
  show _ = gcdP m (b.length + 1) a b
  conv => rhs; unfold gcdP
  rw [if_neg h0]
theorem gcdE_last {m : Nat} {a b : List Nat} (h0 : b.length = 0) : gcdE m a b = a := by
  unfold gcdE gcdP
  rw [if_pos h0]
noncomputable def monicP (m : Nat) (a : List Nat) : List Nat := if a.length = 0 then [] else scaleP m a (inv m (cf a (a.length - 1)))

/-- What the common divisor's loop keeps. -/
structure GcdL (m : Nat) (a b : List Nat) (q : List Nat × List Nat × (Option Addr × Nat) × (Option Addr × Nat)) : Prop where
  h1 : Tr m q.1
  h2 : Tr m q.2.1
  l1 : q.1.length ≤ 4294967296
  l2 : q.2.1.length ≤ 4294967296
  eq : gcdE m q.1 q.2.1 = gcdE m a b
theorem Tr.low {m : Nat} {a : List Nat} (h : Tr m a) : trim (lowL m (a.map Int.ofNat)) = a := by rw [lowL_ofNat h.lt, h.eq]
end Go.Proofs.YtcdmmfpgeagimaaDoor
end
section
/- The ring of polynomials over a field of 2^m elements: plain mathematics, no program. Conditions: the lists hold elements, without noughts at the end. -/
namespace Go.Proofs.YtcdmmfpgeagimaaDoor
open Go.Sx Go.Fm

/-! ### Sequences -/
section
variable {m : Nat}
theorem xs_one {f : Nat → Nat} {k : Nat} : ∀ {n : Nat}, k < n → (∀ i, i < n → i ≠ k → f i = 0) → xs f n = f k
  | 0, h, _ => by omega
  | n + 1, h, hz => by
    unfold xs
    by_cases hk : k = n
    · subst hk
      rw [xs_zero (fun i hi => hz i (by omega) (by omega)), Nat.zero_xor]
    · rw [xs_one (k := k) (by omega) (fun i hi hik => hz i (by omega) hik), hz n (by omega) (fun h => hk h.symm), Nat.xor_zero]
theorem xs_shift (G : Nat → Nat) (k : Nat) : ∀ n, xs (fun i => if k ≤ i then G (i - k) else 0) (k + n) = xs G n
  | 0 => xs_zero (fun i hi => if_neg (by omega))
  | n + 1 => by
    show xs _ (k + n) ^^^ (if k ≤ k + n then G (k + n - k) else 0) = xs G n ^^^ G n
    rw [xs_shift G k n, if_pos (by omega), show k + n - k = n by omega]
theorem cv_comm (hm : Ok m) {f g : Nat → Nat} (hf : ∀ j, f j < 2 ^ m) (hg : ∀ j, g j < 2 ^ m) (j : Nat) : cv m f g j = cv m g f j := by
  unfold cv
  rw [xs_back]
  refine xs_congr (fun i hi => ?_)
  rw [gm_comm hm (hf _) (hg _), show j + 1 - 1 - i = j - i by omega, show j - (j - i) = i by omega]
theorem cv_lt (hm : Ok m) {f : Nat → Nat} (hf : ∀ j, f j < 2 ^ m) (g : Nat → Nat) (j : Nat) : cv m f g j < 2 ^ m := xs_lt (fun _ _ => gm_lt hm (hf _) _)
theorem cv_add_left (hm : Ok m) {f g : Nat → Nat} (hf : ∀ j, f j < 2 ^ m) (hg : ∀ j, g j < 2 ^ m) (h : Nat → Nat) (j : Nat) : cv m (fun i => f i ^^^ g i) h j = cv m f h j ^^^ cv m g h j := by
  unfold cv
  rw [← xs_xor]
  exact xs_congr (fun i _ => gm_xor_left hm (hf i) (hg i) _)
theorem cv_add_right (m : Nat) (f g h : Nat → Nat) (j : Nat) : cv m f (fun i => g i ^^^ h i) j = cv m f g j ^^^ cv m f h j := by
  unfold cv
  rw [← xs_xor]
  exact xs_congr (fun i _ => gm_xor_right m _ _ _)
theorem cv_one (m k c : Nat) (g : Nat → Nat) (j : Nat) : cv m (fun i => if i = k then c else 0) g j = if k ≤ j then gm m c (g (j - k)) else 0 := by
  unfold cv
  split
  · rw [xs_one (k := k) (by omega) (fun i _ hi => by dsimp only; rw [if_neg hi, gm_zero_left])]
    dsimp only
    rw [if_pos rfl]
  · exact xs_zero (fun i hi => by dsimp only; rw [if_neg (by omega), gm_zero_left])
theorem cv_zero (m : Nat) (g : Nat → Nat) (j : Nat) : cv m (fun _ => 0) g j = 0 := xs_zero (fun _ _ => gm_zero_left m _)
theorem cv_congr {f f' g g' : Nat → Nat} {j : Nat} (h1 : ∀ i, i ≤ j → f i = f' i) (h2 : ∀ i, i ≤ j → g i = g' i) : cv m f g j = cv m f' g' j :=
  xs_congr (fun i hi => by rw [h1 i (by omega), h2 (j - i) (by omega)])
theorem xs_ext {F : Nat → Nat} {i j : Nat} (h : i ≤ j) : xs F (i + 1) = xs (fun k => if k ≤ i then F k else 0) (j + 1) := by
  rw [show j + 1 = i + 1 + (j - i) by omega, xs_more (f := fun k => if k ≤ i then F k else 0) (n := i + 1) (fun k hk => if_neg (by omega))]
  exact xs_congr (fun k hk => (if_pos (by omega)).symm)
theorem cv_assoc (hm : Ok m) {f g h : Nat → Nat} (hf : ∀ j, f j < 2 ^ m) (hg : ∀ j, g j < 2 ^ m) (hh : ∀ j, h j < 2 ^ m) (j : Nat) : cv m (cv m f g) h j = cv m f (cv m g h) j := by
  have e1 : cv m (cv m f g) h j = xs (fun i => xs (fun k => if k ≤ i then gm m (gm m (f k) (g (i - k))) (h (j - i)) else 0) (j + 1)) (j + 1) := by
    refine xs_congr (fun i hi => ?_)
    show gm m (xs _ (i + 1)) _ = _
    rw [gm_xs_left hm _ _ (fun k _ => gm_lt hm (hf _) _)]
    exact xs_ext (by omega)
  have e2 : cv m f (cv m g h) j = xs (fun k => xs (fun i => if k ≤ i then gm m (gm m (f k) (g (i - k))) (h (j - i)) else 0) (j + 1)) (j + 1) := by
    refine xs_congr (fun k hk => ?_)
    show gm m _ (xs _ (j - k + 1)) = _
    rw [gm_xs_right]
    have := xs_shift (fun l => gm m (gm m (f k) (g l)) (h (j - k - l))) k (j - k + 1)
    rw [show k + (j - k + 1) = j + 1 by omega] at this
    rw [← show _ = xs (fun l => gm m (f k) (gm m (g l) (h (j - k - l)))) (j - k + 1) from xs_congr (fun l _ => gm_assoc hm (hf k) (hg l) (hh _)), ← this]
    refine xs_congr (fun i hi => ?_)
    by_cases h : k ≤ i
    · rw [if_pos h, if_pos h, show j - k - (i - k) = j - i by omega]
    · rw [if_neg h, if_neg h]
  rw [e1, e2, xs_swap]
end

/-! ### Lists -/
section
variable {m : Nat} (hm : Ok m)
theorem Tr.c {a : List Nat} (h : Tr m a) (j : Nat) : cf a j < 2 ^ m := cf_lt h.lt (Nat.two_pow_pos m) j
theorem Tr.ext {a b : List Nat} (ha : Tr m a) (hb : Tr m b) (h : ∀ j, cf a j = cf b j) : a = b := by rw [← ha.eq, ← hb.eq]; exact trim_eq h
theorem nil_tr (m : Nat) : Tr m [] := ⟨fun _ h => (by cases h), rfl⟩
include hm
omit hm in
theorem addP_tr (_hm : Ok m) {a b : List Nat} (ha : Tr m a) (hb : Tr m b) : Tr m (addP a b) := pl_tr (fun j => xor_lt (ha.c j) (hb.c j))
theorem mulP_tr {a b : List Nat} (ha : Tr m a) (_hb : Tr m b) : Tr m (mulP m a b) := pl_tr (cv_lt hm ha.c _)
theorem scaleP_tr {a : List Nat} (ha : Tr m a) (x : Nat) : Tr m (scaleP m a x) := pl_tr (fun j => gm_lt hm (ha.c j) x)
theorem quotP_tr {a b : List Nat} (ha : Tr m a) : Tr m (quotP m a b) := pl_tr (divQ_lt hm _ ha.c)
omit hm in
theorem cf_mulP (m : Nat) (a b : List Nat) (j : Nat) : cf (mulP m a b) j = cv m (cf a) (cf b) j := by
  unfold mulP
  rw [cf_pl]
  split
  · rfl
  · refine (xs_zero (fun i hi => ?_)).symm
    by_cases h : i < a.length
    · rw [cf_out (l := b) (by omega), gm_zero_right]
    · rw [cf_out (l := a) (by omega), gm_zero_left]
omit hm in
theorem Tr.nil_of {a : List Nat} (h : Tr m a) (hz : ∀ j, cf a j = 0) : a = [] := h.ext (nil_tr m) (fun j => by rw [hz, cf_nil])
theorem mulP_comm {a b : List Nat} (ha : Tr m a) (hb : Tr m b) : mulP m a b = mulP m b a := (mulP_tr hm ha hb).ext (mulP_tr hm hb ha) (fun j => by rw [cf_mulP, cf_mulP, cv_comm hm ha.c hb.c])
theorem mulP_assoc {a b c : List Nat} (ha : Tr m a) (hb : Tr m b) (hc : Tr m c) : mulP m (mulP m a b) c = mulP m a (mulP m b c) :=
  (mulP_tr hm (mulP_tr hm ha hb) hc).ext (mulP_tr hm ha (mulP_tr hm hb hc)) (fun j => by
    rw [cf_mulP, cf_mulP, cv_congr (f' := cv m (cf a) (cf b)) (g' := cf c) (fun i _ => cf_mulP m a b i) (fun _ _ => rfl), cv_assoc hm ha.c hb.c hc.c]
    exact (cv_congr (fun _ _ => rfl) (fun i _ => cf_mulP m b c i)).symm)
theorem mulP_add_left {a b c : List Nat} (ha : Tr m a) (hb : Tr m b) (hc : Tr m c) : mulP m (addP a b) c = addP (mulP m a c) (mulP m b c) :=
  (mulP_tr hm (addP_tr hm ha hb) hc).ext (addP_tr hm (mulP_tr hm ha hc) (mulP_tr hm hb hc)) (fun j => by
    rw [cf_mulP, cf_addP, cf_mulP, cf_mulP, ← cv_add_left hm ha.c hb.c]
    exact cv_congr (fun i _ => cf_addP a b i) (fun _ _ => rfl))
theorem mulP_add_right {a b c : List Nat} (ha : Tr m a) (hb : Tr m b) (hc : Tr m c) : mulP m a (addP b c) = addP (mulP m a b) (mulP m a c) :=
  (mulP_tr hm ha (addP_tr hm hb hc)).ext (addP_tr hm (mulP_tr hm ha hb) (mulP_tr hm ha hc)) (fun j => by
    rw [cf_mulP, cf_addP, cf_mulP, cf_mulP, ← cv_add_right]
    exact cv_congr (fun _ _ => rfl) (fun i _ => cf_addP b c i))
theorem addP_assoc {a b c : List Nat} (ha : Tr m a) (hb : Tr m b) (hc : Tr m c) : addP (addP a b) c = addP a (addP b c) :=
  (addP_tr hm (addP_tr hm ha hb) hc).ext (addP_tr hm ha (addP_tr hm hb hc)) (fun j => by simp only [cf_addP]; exact Nat.xor_assoc _ _ _)
theorem addP_self {a : List Nat} (ha : Tr m a) : addP a a = [] := (addP_tr hm ha ha).nil_of (fun j => by rw [cf_addP, Nat.xor_self])
theorem addP_nil {a : List Nat} (ha : Tr m a) : addP a [] = a := (addP_tr hm ha (nil_tr m)).ext ha (fun j => by rw [cf_addP, cf_nil, Nat.xor_zero])
theorem nil_addP {a : List Nat} (ha : Tr m a) : addP [] a = a := by rw [addP_comm]; exact addP_nil hm ha
theorem addP_cancel {a b : List Nat} (ha : Tr m a) (hb : Tr m b) : addP a (addP a b) = b := by rw [← addP_assoc hm ha ha hb, addP_self hm ha, nil_addP hm hb]
omit hm in
theorem mulP_nil_l (m : Nat) (b : List Nat) : mulP m [] b = [] := mulP_nil (.inl rfl)
omit hm in
theorem mulP_nil_r (m : Nat) (a : List Nat) : mulP m a [] = [] := mulP_nil (.inr rfl)
omit hm in
theorem len_le_of {a : List Nat} (ha : Tr m a) {n : Nat} (h : ∀ j, n ≤ j → cf a j = 0) : a.length ≤ n := by
  have : tl a ≤ n := tl_le_cf h
  rw [← ha.eq, trim_length]
  exact this
theorem addP_len {a b : List Nat} (ha : Tr m a) (hb : Tr m b) {n : Nat} (h1 : a.length ≤ n) (h2 : b.length ≤ n) : (addP a b).length ≤ n :=
  len_le_of (addP_tr hm ha hb) (fun j hj => by rw [cf_addP, cf_out (by omega), cf_out (by omega), Nat.xor_self])
omit hm in
theorem mulP_top (_hm : Ok m) {a b : List Nat} (ha0 : a.length ≠ 0) (hb0 : b.length ≠ 0) : cf (mulP m a b) (a.length + b.length - 2) = gm m (cf a (a.length - 1)) (cf b (b.length - 1)) := by
  rw [cf_mulP]
  unfold cv
  rw [xs_one (k := a.length - 1) (by omega) (fun i hi hne => ?_)]
  · rw [show a.length + b.length - 2 - (a.length - 1) = b.length - 1 by omega]
  · by_cases h : i < a.length
    · rw [cf_out (l := b) (by omega), gm_zero_right]
    · rw [cf_out (l := a) (by omega), gm_zero_left]
theorem mulP_len {a b : List Nat} (ha : Tr m a) (hb : Tr m b) (ha0 : a.length ≠ 0) (hb0 : b.length ≠ 0) : (mulP m a b).length = a.length + b.length - 1 := by
  have h1 : (mulP m a b).length ≤ a.length + b.length - 1 := by
    unfold mulP pl
    rw [trim_length]
    have := tl_le ((List.range (a.length + b.length - 1)).map fun j => cv m (cf a) (cf b) j)
    simpa using this
  have h2 : ¬ (mulP m a b).length ≤ a.length + b.length - 2 := fun h => by
    have h3 := mulP_top hm ha0 hb0 (a := a) (b := b)
    rw [cf_out h] at h3
    exact gm_ne_zero hm (ha.c _) (hb.c _) (ha.top ha0) (hb.top hb0) h3.symm
  omega
theorem mulP_eq_nil {a b : List Nat} (ha : Tr m a) (hb : Tr m b) (h : mulP m a b = []) : a = [] ∨ b = [] := by
  by_cases ha0 : a.length = 0
  · exact .inl (List.eq_nil_of_length_eq_zero ha0)
  · by_cases hb0 : b.length = 0
    · exact .inr (List.eq_nil_of_length_eq_zero hb0)
    · have := mulP_len hm ha hb ha0 hb0
      rw [h] at this
      simp at this
      omega
theorem mulP_cancel {a b c : List Nat} (ha : Tr m a) (hb : Tr m b) (hc : Tr m c) (hc0 : c ≠ []) (h : mulP m a c = mulP m b c) : a = b := by
  have h1 : mulP m (addP a b) c = [] := by rw [mulP_add_left hm ha hb hc, h, addP_self hm (mulP_tr hm hb hc)]
  rcases mulP_eq_nil hm (addP_tr hm ha hb) hc h1 with h2 | h2
  · have := addP_cancel hm ha hb
    rw [h2, addP_nil hm ha] at this
    exact this
  · exact absurd h2 hc0

/-! ### Division -/
theorem divQR {b : List Nat} (hb : ∀ j, cf b j < 2 ^ m) : ∀ (n : Nat) {R : Nat → Nat}, (∀ j, R j < 2 ^ m) → ∀ j, cv m (divQ m b n R) (cf b) j ^^^ divR m b n R j = R j
  | 0, R, _, j => by
    show cv m (fun _ => 0) (cf b) j ^^^ R j = R j
    rw [cv_zero, Nat.zero_xor]
  | n + 1, R, hR, j => by
    have hc : dC m b R n < 2 ^ m := gm_lt hm (hR _) _
    have hR2 := dSi_lt hm (b := b) hR (n := n) hc (i := b.length)
    have ih := divQR hb n hR2 j
    have e : cv m (divQ m b (n + 1) R) (cf b) j = cv m (fun i => (if i = n then dC m b R n else 0) ^^^ divQ m b n (dSi m b R n (dC m b R n) b.length) i) (cf b) j := by
      refine cv_congr (fun i _ => ?_) (fun _ _ => rfl)
      conv => lhs; unfold divQ
      by_cases h : i = n
      · rw [if_pos h, if_pos h, divQ_hi _ _ _ _ _ (by omega), Nat.xor_zero]
      · rw [if_neg h, if_neg h, Nat.zero_xor]
    rw [e, cv_add_left hm (fun i => by split; exact hc; exact Nat.two_pow_pos m) (divQ_lt hm n hR2), cv_one]
    show _ ^^^ _ ^^^ divR m b n _ j = _
    rw [Nat.xor_assoc, ih]
    unfold dSi
    by_cases h1 : n ≤ j
    · rw [if_pos h1]
      by_cases h2 : j < n + b.length
      · rw [if_pos ⟨h1, h2⟩, xlc, Nat.xor_self, Nat.xor_zero]
      · rw [if_neg (by omega), cf_out (by omega), gm_zero_right, Nat.zero_xor]
    · rw [if_neg h1, if_neg (by omega), Nat.zero_xor]
omit hm in
theorem cf_quotP (_hm : Ok m) (a b : List Nat) (j : Nat) : cf (quotP m a b) j = divQ m b (a.length + 1 - b.length) (cf a) j := by
  unfold quotP
  rw [cf_pl]
  split
  · rfl
  · exact (divQ_hi _ _ _ _ _ (by omega)).symm
theorem cf_restP {a b : List Nat} (ha : Tr m a) (hb : Tr m b) (hb0 : b.length ≠ 0) (j : Nat) : cf (restP m a b) j = divR m b (a.length + 1 - b.length) (cf a) j := by
  unfold restP
  rw [cf_pl]
  split
  · rfl
  · by_cases h : b.length - 1 ≤ j
    · exact (rest_hi hm ha.lt hb.lt hb0 (hb.top hb0) j h).symm
    · have h0 : a.length + 1 - b.length = 0 := by omega
      rw [h0]
      exact (cf_out (by omega)).symm
theorem div_eq {a b : List Nat} (ha : Tr m a) (hb : Tr m b) (hb0 : b.length ≠ 0) : addP (mulP m (quotP m a b) b) (restP m a b) = a :=
  (addP_tr hm (mulP_tr hm (quotP_tr hm ha) hb) (restP_tr hm ha)).ext ha (fun j => by
    rw [cf_addP, cf_mulP, cf_restP hm ha hb hb0, cv_congr (fun i _ => cf_quotP hm a b i) (fun _ _ => rfl)]
    exact divQR hm hb.c _ ha.c j)
theorem div_uniq {a b q r : List Nat} (ha : Tr m a) (hb : Tr m b) (hb0 : b.length ≠ 0) (hq : Tr m q) (hr : Tr m r) (hl : r.length < b.length) (h : addP (mulP m q b) r = a) : q = quotP m a b ∧ r = restP m a b := by
  have hQ := quotP_tr hm ha (b := b)
  have hR := restP_tr hm ha (b := b)
  have hRl := restP_len hm ha.lt hb.lt hb0 (hb.top hb0) (a := a)
  have h2 := div_eq hm ha hb hb0
  generalize quotP m a b = Q at *
  generalize restP m a b = R at *
  have hqb := mulP_tr hm hq hb
  have hQb := mulP_tr hm hQ hb
  have key : mulP m (addP q Q) b = addP r R := by
    rw [mulP_add_left hm hq hQ hb]
    refine (addP_tr hm hqb hQb).ext (addP_tr hm hr hR) (fun j => ?_)
    have h3 : cf (addP (mulP m q b) r) j = cf (addP (mulP m Q b) R) j := by rw [h, h2]
    simp only [cf_addP] at h3 ⊢
    have h4 := congrArg (fun z => z ^^^ (cf (mulP m Q b) j ^^^ cf r j)) h3
    rw [show cf (mulP m q b) j ^^^ cf r j ^^^ (cf (mulP m Q b) j ^^^ cf r j) = cf (mulP m q b) j ^^^ cf (mulP m Q b) j by
        rw [Nat.xor_comm (cf (mulP m Q b) j), Nat.xor_assoc, xcc],
      show cf (mulP m Q b) j ^^^ cf R j ^^^ (cf (mulP m Q b) j ^^^ cf r j) = cf r j ^^^ cf R j by
        rw [Nat.xor_comm (cf (mulP m Q b) j) (cf R j), Nat.xor_assoc, xcc, Nat.xor_comm]] at h4
    exact h4
  have hz : addP q Q = [] := by
    refine Classical.byContradiction fun hne => ?_
    have hne2 : (addP q Q).length ≠ 0 := fun h0 => hne (List.eq_nil_of_length_eq_zero h0)
    have h5 := mulP_len hm (addP_tr hm hq hQ) hb hne2 hb0
    rw [key] at h5
    have := addP_len hm hr hR (n := b.length - 1) (by omega) (by omega)
    omega
  have e1 : q = Q := by
    have := addP_cancel hm hq hQ
    rw [hz, addP_nil hm hq] at this
    exact this
  refine ⟨e1, ?_⟩
  rw [hz, mulP_nil_l] at key
  have := addP_cancel hm hr hR
  rw [← key, addP_nil hm hr] at this
  exact this
end
end Go.Proofs.YtcdmmfpgeagimaaDoor
end
section
/- Values, derivatives, roots and common divisors of polynomials over a field of 2^m elements: plain mathematics, no program. Conditions: the lists hold elements, without noughts at the end. -/
namespace Go.Proofs.YtcdmmfpgeagimaaDoor
open Go.Sx Go.Fm

/-! ### Values -/
section
variable {m : Nat}
theorem evL_zero : ∀ {a : List Nat} (_ : ∀ j, cf a j = 0) (x : Nat), evL m a x = 0
  | [], _, _ => rfl
  | y :: r, h, x => by
    show gm m (evL m r x) x ^^^ y = 0
    rw [evL_zero (a := r) (fun j => by rw [← cf_cons_succ y r j]; exact h _) x, gm_zero_left, Nat.zero_xor, ← cf_cons_zero y r]
    exact h 0
theorem evL_congr : ∀ {a b : List Nat} (_ : ∀ j, cf a j = cf b j) (x : Nat), evL m a x = evL m b x
  | [], b, h, x => (evL_zero (fun j => by rw [← h, cf_nil]) x).symm
  | y :: r, [], h, x => evL_zero (fun j => by rw [h, cf_nil]) x
  | y :: r, z :: s, h, x => by
    have h0 := h 0
    rw [cf_cons_zero, cf_cons_zero] at h0
    show gm m (evL m r x) x ^^^ y = gm m (evL m s x) x ^^^ z
    rw [evL_congr (a := r) (b := s) (fun j => by have := h (j + 1); rwa [cf_cons_succ, cf_cons_succ] at this) x, h0]
theorem evL_trim (a : List Nat) (x : Nat) : evL m (trim a) x = evL m a x := evL_congr (cf_trim a) x
variable (hm : Ok m)
include hm
theorem evL_add : ∀ {a b : List Nat} (_ : ∀ x ∈ a, x < 2 ^ m) (_ : ∀ x ∈ b, x < 2 ^ m) (x : Nat), evL m (addP a b) x = evL m a x ^^^ evL m b x
  | [], b, _, _, x => by
    rw [evL_congr (b := b) (fun j => by rw [cf_addP, cf_nil, Nat.zero_xor]) x]
    show _ = 0 ^^^ _
    rw [Nat.zero_xor]
  | y :: r, [], _, _, x => by
    rw [evL_congr (b := y :: r) (fun j => by rw [cf_addP, cf_nil, Nat.xor_zero]) x]
    show _ = _ ^^^ 0
    rw [Nat.xor_zero]
  | y :: r, z :: s, ha, hb, x => by
    have hr : ∀ x ∈ r, x < 2 ^ m := fun x hx => ha x (List.mem_cons_of_mem _ hx)
    have hs : ∀ x ∈ s, x < 2 ^ m := fun x hx => hb x (List.mem_cons_of_mem _ hx)
    rw [evL_congr (b := (y ^^^ z) :: addP r s) (fun j => by
      rw [cf_addP]
      cases j with
      | zero => rw [cf_cons_zero, cf_cons_zero, cf_cons_zero]
      | succ j => rw [cf_cons_succ, cf_cons_succ, cf_cons_succ, cf_addP]) x]
    show gm m (evL m (addP r s) x) x ^^^ (y ^^^ z) = (gm m (evL m r x) x ^^^ y) ^^^ (gm m (evL m s x) x ^^^ z)
    rw [evL_add hr hs x, gm_xor_left hm (evL_lt hm x hr) (evL_lt hm x hs), Nat.xor_assoc, Nat.xor_assoc, xlc (gm m (evL m s x) x)]
theorem evL_scale (c : Nat) (hc : c < 2 ^ m) : ∀ {a : List Nat} (_ : ∀ x ∈ a, x < 2 ^ m) (x : Nat) (_ : x < 2 ^ m), evL m (scaleP m a c) x = gm m (evL m a x) c
  | [], _, x, _ => by
    rw [evL_congr (b := []) (fun j => by rw [cf_scaleP, cf_nil, gm_zero_left]) x]
    exact (gm_zero_left m c).symm
  | y :: r, ha, x, hx => by
    have hr : ∀ x ∈ r, x < 2 ^ m := fun x hx => ha x (List.mem_cons_of_mem _ hx)
    have hy := ha y List.mem_cons_self
    rw [evL_congr (b := gm m y c :: scaleP m r c) (fun j => by
      rw [cf_scaleP]
      cases j with
      | zero => rw [cf_cons_zero, cf_cons_zero]
      | succ j => rw [cf_cons_succ, cf_cons_succ, cf_scaleP]) x]
    show gm m (evL m (scaleP m r c) x) x ^^^ gm m y c = gm m (gm m (evL m r x) x ^^^ y) c
    rw [evL_scale c hc hr x hx, gm_xor_left hm (gm_lt hm (evL_lt hm x hr) _) hy, gm_assoc hm (evL_lt hm x hr) hc hx, gm_comm hm hc hx, gm_assoc hm (evL_lt hm x hr) hx hc]
theorem evL_mul : ∀ {a b : List Nat} (_ : ∀ x ∈ a, x < 2 ^ m) (_ : ∀ x ∈ b, x < 2 ^ m) (x : Nat) (_ : x < 2 ^ m), evL m (mulP m a b) x = gm m (evL m a x) (evL m b x)
  | [], b, _, _, x, _ => by
    rw [mulP_nil_l]
    exact (gm_zero_left m _).symm
  | y :: r, b, ha, hb, x, hx => by
    have hr : ∀ x ∈ r, x < 2 ^ m := fun x hx => ha x (List.mem_cons_of_mem _ hx)
    have hy := ha y List.mem_cons_self
    have hp : ∀ z ∈ mulP m r b, z < 2 ^ m := (pl_tr (cv_lt hm (cf_lt hr (Nat.two_pow_pos m)) _)).lt
    have hp0 : ∀ z ∈ 0 :: mulP m r b, z < 2 ^ m := fun z hz => by
      rcases List.mem_cons.1 hz with rfl | hz
      · exact Nat.two_pow_pos m
      · exact hp z hz
    have hsc : ∀ z ∈ scaleP m b y, z < 2 ^ m := (pl_tr (fun j => gm_lt hm (cf_lt hb (Nat.two_pow_pos m) j) y)).lt
    rw [evL_congr (b := addP (scaleP m b y) (0 :: mulP m r b)) (fun j => by
      rw [cf_mulP, cf_addP, cf_scaleP]
      unfold cv
      rw [xs_first, cf_cons_zero]
      rw [gm_comm hm hy (cf_lt hb (Nat.two_pow_pos m) _)]
      congr 1
      cases j with
      | zero => rw [cf_cons_zero]; rfl
      | succ j =>
        rw [cf_cons_succ, cf_mulP]
        exact xs_congr (fun i hi => by rw [cf_cons_succ, show j + 1 - (i + 1) = j - i by omega])) x]
    rw [evL_add hm hsc hp0, evL_scale hm y hy hb x hx]
    show gm m (evL m b x) y ^^^ (gm m (evL m (mulP m r b) x) x ^^^ 0) = gm m (gm m (evL m r x) x ^^^ y) (evL m b x)
    rw [evL_mul hr hb x hx, Nat.xor_zero, gm_xor_left hm (gm_lt hm (evL_lt hm x hr) _) hy, gm_comm hm (evL_lt hm x hb) hy, Nat.xor_comm]
    congr 1
    rw [gm_assoc hm (evL_lt hm x hr) (evL_lt hm x hb) hx, gm_comm hm (evL_lt hm x hb) hx, ← gm_assoc hm (evL_lt hm x hr) hx (evL_lt hm x hb)]

/-! ### Roots -/
/-- x + r. -/
theorem lin_tr {r : Nat} (hr : r < 2 ^ m) : Tr m [r, 1] := by
  refine ⟨fun x hx => ?_, ?_⟩
  · simp at hx
    rcases hx with rfl | rfl
    · exact hr
    · exact one_lt hm
  · exact trim_of (by simp [tl])
theorem evL_lin {r : Nat} (_hr : r < 2 ^ m) {x : Nat} (hx : x < 2 ^ m) : evL m [r, 1] x = x ^^^ r := by
  show gm m (gm m 0 x ^^^ 1) x ^^^ r = _
  rw [gm_zero_left, Nat.zero_xor, gm_one_left hm hx]
omit hm in
theorem xor_eq_zero' (_hm : Ok m) {a b : Nat} (h : a ^^^ b = 0) : a = b := by
  have := congrArg (fun z => z ^^^ b) h
  simp only [Nat.zero_xor, Nat.xor_assoc, Nat.xor_self, Nat.xor_zero] at this
  exact this
omit hm in
theorem const_root (_hm : Ok m) {R : List Nat} (hR : Tr m R) {r : Nat} (h2 : R.length < 2) (h3 : evL m R r = 0) : R = [] := by
  rcases R with _ | ⟨y, _ | ⟨z, R⟩⟩
  · rfl
  · have h5 : evL m [y] r = y := by
      show gm m 0 r ^^^ y = y
      rw [gm_zero_left, Nat.zero_xor]
    rw [h5] at h3
    exact absurd h3 (hR.top (by simp))
  · simp at h2
    omega
/-- With a root r, x + r divides it. -/
theorem root_div {a : List Nat} (ha : Tr m a) {r : Nat} (hr : r < 2 ^ m) (h : evL m a r = 0) : ∃ q, Tr m q ∧ mulP m q [r, 1] = a := by
  have hl := lin_tr hm hr
  refine ⟨quotP m a [r, 1], quotP_tr hm ha, ?_⟩
  have h1 := div_eq hm ha hl (by simp)
  have h2 := restP_len hm ha.lt hl.lt (by simp) (hl.top (by simp)) (a := a)
  have hR := restP_tr hm ha (b := [r, 1])
  have hQ := quotP_tr hm ha (b := [r, 1])
  have h3 : evL m a r = evL m (restP m a [r, 1]) r := by
    conv => lhs; rw [← h1]
    rw [evL_add hm (mulP_tr hm hQ hl).lt hR.lt, evL_mul hm hQ.lt hl.lt r hr, evL_lin hm hr hr, Nat.xor_self, gm_zero_right, Nat.zero_xor]
  have h4 : restP m a [r, 1] = [] := const_root hm hR h2 (h3.symm.trans h)
  rw [h4, addP_nil hm (mulP_tr hm hQ hl)] at h1
  exact h1
theorem roots_le : ∀ (L : List Nat) {a : List Nat} (_ : Tr m a) (_ : a.length ≠ 0) (_ : L.Nodup) (_ : ∀ x ∈ L, x < 2 ^ m ∧ evL m a x = 0), L.length ≤ a.length - 1
  | [], _, _, _, _, _ => Nat.zero_le _
  | r :: L, a, ha, h0, hn, hL => by
    obtain ⟨hr, hz⟩ := hL r List.mem_cons_self
    obtain ⟨q, hq, rfl⟩ := root_div hm ha hr hz
    have hl := lin_tr hm hr
    have hq0 : q.length ≠ 0 := fun h => h0 (by rw [List.eq_nil_of_length_eq_zero h, mulP_nil_l]; rfl)
    have hlen := mulP_len hm hq hl hq0 (by simp)
    simp only [List.length_cons, List.length_nil] at hlen
    have hn2 := List.nodup_cons.1 hn
    have := roots_le L hq hq0 hn2.2 (fun x hx => by
      obtain ⟨h1, h2⟩ := hL x (List.mem_cons_of_mem _ hx)
      refine ⟨h1, ?_⟩
      rw [evL_mul hm hq.lt hl.lt x h1, evL_lin hm hr h1] at h2
      refine Classical.byContradiction fun hne => ?_
      refine gm_ne_zero hm (evL_lt hm x hq.lt) (xor_lt h1 hr) hne (fun h => ?_) h2
      exact hn2.1 (xor_eq_zero' hm h ▸ hx))
    simp only [List.length_cons]
    omega
omit hm in
theorem rootsN_mem {a : List Nat} {x : Nat} : ∀ {n : Nat}, x ∈ rootsN m a n ↔ x < n ∧ evL m a x = 0
  | 0 => by simp [rootsN]
  | n + 1 => by
    unfold rootsN
    have ih := rootsN_mem (a := a) (x := x) (n := n)
    split
    · rename_i h
      rw [List.mem_append, ih, List.mem_singleton]
      constructor
      · rintro (⟨h1, h2⟩ | rfl)
        · exact ⟨by omega, h2⟩
        · exact ⟨by omega, h⟩
      · rintro ⟨h1, h2⟩
        by_cases hx : x = n
        · exact .inr hx
        · exact .inl ⟨by omega, h2⟩
    · rename_i h
      rw [ih]
      constructor
      · rintro ⟨h1, h2⟩
        exact ⟨by omega, h2⟩
      · rintro ⟨h1, h2⟩
        refine ⟨?_, h2⟩
        by_cases hx : x = n
        · subst hx
          exact absurd h2 h
        · omega
omit hm in
theorem rootsN_nodup (a : List Nat) : ∀ n : Nat, (rootsN m a n).Nodup
  | 0 => List.nodup_nil
  | n + 1 => by
    unfold rootsN
    split
    · rw [List.nodup_append]
      refine ⟨rootsN_nodup a n, by simp, fun x hx y hy => ?_⟩
      have := (rootsN_mem (a := a) (m := m)).1 hx
      simp at hy
      omega
    · exact rootsN_nodup a n
theorem rootsP_le {a : List Nat} (ha : Tr m a) : (rootsP m a).length ≤ a.length - 1 := by
  unfold rootsP
  split
  · simp
  · rename_i h
    exact roots_le hm _ ha h (rootsN_nodup a _) (fun x hx => rootsN_mem.1 hx)

/-! ### Divisors -/
def Dvd (m : Nat) (a b : List Nat) : Prop := ∃ q, Tr m q ∧ mulP m q a = b
theorem dvd_refl {a : List Nat} (ha : Tr m a) : Dvd m a a := by
  have h1 : Tr m [1] := ⟨fun x hx => by simp at hx; subst hx; exact one_lt hm, trim_of (by simp [tl])⟩
  refine ⟨[1], h1, (mulP_tr hm h1 ha).ext ha (fun j => ?_)⟩
  rw [cf_mulP]
  rw [cv_congr (f' := fun i => if i = 0 then 1 else 0) (fun i _ => by cases i with | zero => rfl | succ i => rw [cf_cons_succ, cf_nil, if_neg (by omega)]) (fun _ _ => rfl), cv_one, if_pos (Nat.zero_le _), gm_one_left hm (ha.c _)]
  rfl
omit hm in
theorem dvd_nil (_hm : Ok m) {a : List Nat} : Dvd m a [] := ⟨[], nil_tr m, mulP_nil_l m a⟩
theorem dvd_mul {a b q : List Nat} (ha : Tr m a) (hq : Tr m q) (h : Dvd m a b) : Dvd m a (mulP m q b) := by
  obtain ⟨c, hc, rfl⟩ := h
  exact ⟨mulP m q c, mulP_tr hm hq hc, mulP_assoc hm hq hc ha⟩
theorem dvd_add {a b c : List Nat} (ha : Tr m a) (h1 : Dvd m a b) (h2 : Dvd m a c) : Dvd m a (addP b c) := by
  obtain ⟨p, hp, rfl⟩ := h1
  obtain ⟨q, hq, rfl⟩ := h2
  exact ⟨addP p q, addP_tr hm hp hq, mulP_add_left hm hp hq ha⟩
theorem dvd_trans {a b c : List Nat} (ha : Tr m a) (h1 : Dvd m a b) (h2 : Dvd m b c) : Dvd m a c := by
  obtain ⟨q, hq, rfl⟩ := h2
  exact dvd_mul hm ha hq h1
theorem dvd_of_div {g a b : List Nat} (hg : Tr m g) (ha : Tr m a) (hb : Tr m b) (hb0 : b.length ≠ 0) (h1 : Dvd m g b) (h2 : Dvd m g (restP m a b)) : Dvd m g a := by
  rw [← div_eq hm ha hb hb0]
  exact dvd_add hm hg (dvd_mul hm hg (quotP_tr hm ha) h1) h2
theorem dvd_rest {g a b : List Nat} (hg : Tr m g) (ha : Tr m a) (hb : Tr m b) (hb0 : b.length ≠ 0) (h1 : Dvd m g a) (h2 : Dvd m g b) : Dvd m g (restP m a b) := by
  have hQ := quotP_tr hm ha (b := b)
  have h3 := addP_cancel hm (mulP_tr hm hQ hb) (restP_tr hm ha (b := b))
  rw [div_eq hm ha hb hb0] at h3
  rw [← h3]
  exact dvd_add hm hg (dvd_mul hm hg hQ h2) h1
theorem rest_of_dvd {a b : List Nat} (ha : Tr m a) (hb : Tr m b) (hb0 : b.length ≠ 0) (h : Dvd m b a) : restP m a b = [] := by
  obtain ⟨q, hq, rfl⟩ := h
  exact ((div_uniq hm ha hb hb0 hq (nil_tr m) (by simp; omega) (addP_nil hm (mulP_tr hm hq hb))).2).symm
theorem gcdP_tr : ∀ (k : Nat) {a b : List Nat}, Tr m a → Tr m b → Tr m (gcdP m k a b)
  | 0, _, _, ha, _ => ha
  | k + 1, a, b, ha, hb => by
    unfold gcdP
    split
    · exact ha
    · exact gcdP_tr k hb (restP_tr hm ha)
theorem gcdP_dvd : ∀ (k : Nat) {a b : List Nat}, Tr m a → Tr m b → b.length < k → Dvd m (gcdP m k a b) a ∧ Dvd m (gcdP m k a b) b
  | 0, _, _, _, _, h => by omega
  | k + 1, a, b, ha, hb, h => by
    unfold gcdP
    split
    · rename_i h0
      rw [List.eq_nil_of_length_eq_zero h0]
      exact ⟨dvd_refl hm ha, dvd_nil hm⟩
    · rename_i h0
      have hl := restP_len hm ha.lt hb.lt h0 (hb.top h0) (a := a)
      have hR := restP_tr hm ha (b := b)
      obtain ⟨h1, h2⟩ := gcdP_dvd k hb hR (by omega)
      exact ⟨dvd_of_div hm (gcdP_tr hm k hb hR) ha hb h0 h1 h2, h1⟩
theorem gcdP_most : ∀ (k : Nat) {a b g : List Nat}, Tr m a → Tr m b → Tr m g → Dvd m g a → Dvd m g b → Dvd m g (gcdP m k a b)
  | 0, _, _, _, _, _, _, h, _ => h
  | k + 1, a, b, g, ha, hb, hg, h1, h2 => by
    unfold gcdP
    split
    · exact h1
    · rename_i h0
      exact gcdP_most k hb (restP_tr hm ha) hg h2 (dvd_rest hm hg ha hb h0 h1 h2)
theorem gcdE_tr {a b : List Nat} (ha : Tr m a) (hb : Tr m b) : Tr m (gcdE m a b) := gcdP_tr hm _ ha hb
theorem gcdE_dvd {a b : List Nat} (ha : Tr m a) (hb : Tr m b) : Dvd m (gcdE m a b) a ∧ Dvd m (gcdE m a b) b := gcdP_dvd hm _ ha hb (Nat.lt_succ_self _)
theorem gcdE_most {a b g : List Nat} (ha : Tr m a) (hb : Tr m b) (hg : Tr m g) (h1 : Dvd m g a) (h2 : Dvd m g b) : Dvd m g (gcdE m a b) := gcdP_most hm _ ha hb hg h1 h2

/-! ### Factors that are elements -/
omit hm in
theorem scaleP_len {a : List Nat} (hm : Ok m) (ha : Tr m a) {c : Nat} (hc : c < 2 ^ m) (hc0 : c ≠ 0) : (scaleP m a c).length = a.length := by
  have hs := scaleP_tr hm ha c
  refine Nat.le_antisymm (len_le_of hs (fun j hj => by rw [cf_scaleP, cf_out hj, gm_zero_left])) ?_
  refine len_le_of ha (fun j hj => ?_)
  refine Classical.byContradiction fun hne => ?_
  have := cf_scaleP m a c j
  rw [cf_out hj] at this
  exact gm_ne_zero hm (ha.c j) hc hne hc0 this.symm
theorem scaleP_one {a : List Nat} (ha : Tr m a) : scaleP m a 1 = a := (scaleP_tr hm ha 1).ext ha (fun j => by rw [cf_scaleP, gm_one_right hm (ha.c j)])
theorem scaleP_scaleP {a : List Nat} (ha : Tr m a) {c d : Nat} (hc : c < 2 ^ m) (hd : d < 2 ^ m) : scaleP m (scaleP m a c) d = scaleP m a (gm m c d) :=
  (scaleP_tr hm (scaleP_tr hm ha c) d).ext (scaleP_tr hm ha _) (fun j => by rw [cf_scaleP, cf_scaleP, cf_scaleP, gm_assoc hm (ha.c j) hc hd])
theorem mulP_scale {a b : List Nat} (ha : Tr m a) (hb : Tr m b) {c : Nat} (hc : c < 2 ^ m) : mulP m a (scaleP m b c) = scaleP m (mulP m a b) c :=
  (mulP_tr hm ha (scaleP_tr hm hb c)).ext (scaleP_tr hm (mulP_tr hm ha hb) c) (fun j => by
    rw [cf_mulP, cf_scaleP, cf_mulP]
    unfold cv
    rw [gm_xs_left hm _ _ (fun i _ => gm_lt hm (ha.c i) _)]
    exact xs_congr (fun i _ => by rw [cf_scaleP, gm_assoc hm (ha.c i) (hb.c _) hc]))
theorem scale_mulP {a b : List Nat} (ha : Tr m a) (hb : Tr m b) {c : Nat} (hc : c < 2 ^ m) : mulP m (scaleP m a c) b = scaleP m (mulP m a b) c := by
  rw [mulP_comm hm (scaleP_tr hm ha c) hb, mulP_scale hm hb ha hc, mulP_comm hm hb ha]
theorem mulP_unit {a : List Nat} (ha : Tr m a) {c : Nat} (hc : c < 2 ^ m) : mulP m a (trim [c]) = scaleP m a c := by
  have ht : Tr m (trim [c]) := ⟨trim_lt (fun x hx => by simp at hx; subst hx; exact hc), trim_trim _⟩
  refine (mulP_tr hm ha ht).ext (scaleP_tr hm ha c) (fun j => ?_)
  rw [mulP_comm hm ha ht, cf_mulP, cv_congr (f' := fun i => if i = 0 then c else 0) (fun i _ => by
    rw [cf_trim]
    cases i with
    | zero => rfl
    | succ i => rw [cf_cons_succ, cf_nil, if_neg (by omega)]) (fun _ _ => rfl), cv_one, if_pos (Nat.zero_le _), cf_scaleP, gm_comm hm hc (ha.c _)]
  rfl
omit hm in
theorem monicP_of (_hm : Ok m) {a : List Nat} (h0 : a.length ≠ 0) : monicP m a = scaleP m a (inv m (cf a (a.length - 1))) := if_neg h0
omit hm in
theorem monicP_nil (m : Nat) : monicP m [] = [] := if_pos rfl
theorem monicP_tr {a : List Nat} (ha : Tr m a) : Tr m (monicP m a) := by
  unfold monicP
  split
  · exact nil_tr m
  · exact scaleP_tr hm ha _
theorem monicP_len {a : List Nat} (ha : Tr m a) : (monicP m a).length = a.length := by
  by_cases h0 : a.length = 0
  · unfold monicP
    rw [if_pos h0, h0]; rfl
  · rw [monicP_of hm h0, scaleP_len hm ha (inv_lt hm _) (inv_ne hm _)]
theorem monicP_top {a : List Nat} (ha : Tr m a) (h0 : a.length ≠ 0) : cf (monicP m a) (a.length - 1) = 1 := by
  rw [monicP_of hm h0, cf_scaleP, gm_inv hm (ha.c _) (ha.top h0)]
theorem monicP_dvd {g a : List Nat} (hg : Tr m g) (h : Dvd m g a) : Dvd m (monicP m g) a := by
  by_cases h0 : g.length = 0
  · have : monicP m g = g := by unfold monicP; rw [if_pos h0, List.eq_nil_of_length_eq_zero h0]
    rw [this]
    exact h
  · obtain ⟨q, hq, rfl⟩ := h
    have hL := hg.c (g.length - 1)
    refine ⟨scaleP m q (cf g (g.length - 1)), scaleP_tr hm hq _, ?_⟩
    rw [monicP_of hm h0, mulP_scale hm (scaleP_tr hm hq _) hg (inv_lt hm _), scale_mulP hm hq hg hL, scaleP_scaleP hm (mulP_tr hm hq hg) hL (inv_lt hm _), gm_inv hm hL (hg.top h0), scaleP_one hm (mulP_tr hm hq hg)]
theorem monicP_scale {a : List Nat} (ha : Tr m a) {c : Nat} (hc : c < 2 ^ m) (hc0 : c ≠ 0) : monicP m (scaleP m a c) = monicP m a := by
  have hs := scaleP_tr hm ha c
  have hl := scaleP_len hm ha hc hc0
  by_cases h0 : a.length = 0
  · unfold monicP
    rw [if_pos h0, if_pos (by omega)]
  · have hL := ha.c (a.length - 1)
    rw [monicP_of hm h0, monicP_of hm (by omega), hl, cf_scaleP, scaleP_scaleP hm ha hc (inv_lt hm _)]
    congr 1
    have h1 := ha.top h0
    generalize cf a (a.length - 1) = t at *
    have hg := gm_lt hm hL c
    have hgn := gm_ne_zero hm hL hc h1 hc0
    have h2 := gm_inv hm hg hgn
    have h3 := gm_inv hm hL h1
    have h4 : gm m t (gm m c (inv m (gm m t c))) = gm m t (inv m t) := by rw [← gm_assoc hm hL hc (inv_lt hm _), h2, h3]
    have h5 := congrArg (fun z => gm m (inv m t) z) h4
    rw [← gm_assoc hm (inv_lt hm _) hL (gm_lt hm hc _), ← gm_assoc hm (inv_lt hm _) hL (inv_lt hm _), gm_comm hm (inv_lt hm t) hL, h3, gm_one_left hm (gm_lt hm hc _), gm_one_left hm (inv_lt hm _)] at h5
    exact h5
/-- Two that divide one another are the same but for a factor. -/
theorem monicP_uniq {a b : List Nat} (ha : Tr m a) (hb : Tr m b) (h1 : Dvd m a b) (h2 : Dvd m b a) : monicP m a = monicP m b := by
  obtain ⟨q, hq, rfl⟩ := h1
  obtain ⟨p, hp, hpa⟩ := h2
  by_cases ha0 : a.length = 0
  · rw [List.eq_nil_of_length_eq_zero ha0, mulP_nil_r]
  · have hq0 : q.length ≠ 0 := fun h => by
      rw [List.eq_nil_of_length_eq_zero h, mulP_nil_l, mulP_nil_r] at hpa
      rw [← hpa] at ha0
      exact ha0 rfl
    have hqa := mulP_len hm hq ha hq0 ha0
    have hp0 : p.length ≠ 0 := fun h => by
      rw [List.eq_nil_of_length_eq_zero h, mulP_nil_l] at hpa
      rw [← hpa] at ha0
      exact ha0 rfl
    have hpl := mulP_len hm hp hb hp0 (by omega)
    rw [hpa] at hpl
    obtain ⟨c, rfl⟩ : ∃ c, q = [c] := by
      match q, hq0, (show q.length = 1 by omega) with
      | [c], _, _ => exact ⟨c, rfl⟩
    have hc := hq.lt c List.mem_cons_self
    have hc0 : c ≠ 0 := hq.top (by simp)
    have hu := mulP_unit hm ha hc
    rw [hq.eq] at hu
    rw [mulP_comm hm hq ha, hu, monicP_scale hm ha hc hc0]
theorem monicP_mul {a b : List Nat} (ha : Tr m a) (hb : Tr m b) : monicP m (mulP m a b) = mulP m (monicP m a) (monicP m b) := by
  by_cases ha0 : a.length = 0
  · rw [List.eq_nil_of_length_eq_zero ha0, mulP_nil_l]
    rw [monicP_nil, mulP_nil_l]
  · by_cases hb0 : b.length = 0
    · rw [List.eq_nil_of_length_eq_zero hb0, mulP_nil_r]
      rw [monicP_nil, mulP_nil_r]
    · have hla := ha.c (a.length - 1)
      have hlb := hb.c (b.length - 1)
      have hl := mulP_len hm ha hb ha0 hb0
      have e1 : mulP m (monicP m a) (monicP m b) = scaleP m (mulP m a b) (gm m (inv m (cf b (b.length - 1))) (inv m (cf a (a.length - 1)))) := by
        rw [monicP_of hm ha0, monicP_of hm hb0, scale_mulP hm ha (scaleP_tr hm hb _) (inv_lt hm _), mulP_scale hm ha hb (inv_lt hm _), scaleP_scaleP hm (mulP_tr hm ha hb) (inv_lt hm _) (inv_lt hm _)]
      have hmn : monicP m (mulP m (monicP m a) (monicP m b)) = mulP m (monicP m a) (monicP m b) := by
        have hA := monicP_tr hm ha
        have hB := monicP_tr hm hb
        have hlA := monicP_len hm ha
        have hlB := monicP_len hm hb
        have ht := mulP_top hm (a := monicP m a) (b := monicP m b) (by omega) (by omega)
        have hll := mulP_len hm hA hB (by omega) (by omega)
        rw [hlA, hlB, monicP_top hm ha ha0, monicP_top hm hb hb0, gm_one_left hm (one_lt hm)] at ht
        rw [monicP_of hm (by omega), hll, hlA, hlB, show a.length + b.length - 1 - 1 = a.length + b.length - 2 by omega, ht]
        have h1 : inv m 1 = 1 := by
          have := gm_inv hm (one_lt hm) (by omega)
          rw [gm_one_left hm (inv_lt hm _)] at this
          exact this
        rw [h1, scaleP_one hm (mulP_tr hm hA hB)]
      rw [← hmn, e1, monicP_scale hm (mulP_tr hm ha hb) (gm_lt hm (inv_lt hm _) _) (gm_ne_zero hm (inv_lt hm _) (inv_lt hm _) (inv_ne hm _) (inv_ne hm _))]
/-- A factor of both goes ahead. -/
theorem restP_mul {a b c : List Nat} (ha : Tr m a) (hb : Tr m b) (hc : Tr m c) (hb0 : b.length ≠ 0) (hc0 : c.length ≠ 0) : restP m (mulP m a c) (mulP m b c) = mulP m (restP m a b) c := by
  have hQ := quotP_tr hm ha (b := b)
  have hR := restP_tr hm ha (b := b)
  have hRl := restP_len hm ha.lt hb.lt hb0 (hb.top hb0) (a := a)
  have hbc := mulP_len hm hb hc hb0 hc0
  refine ((div_uniq hm (mulP_tr hm ha hc) (mulP_tr hm hb hc) (by omega) hQ (mulP_tr hm hR hc) ?_ ?_).2).symm
  · by_cases h : (restP m a b).length = 0
    · rw [List.eq_nil_of_length_eq_zero h, mulP_nil_l]
      simp only [List.length_nil]
      omega
    · rw [mulP_len hm hR hc h hc0]
      omega
  · rw [← mulP_assoc hm hQ hb hc, ← mulP_add_left hm (mulP_tr hm hQ hb) hR hc, div_eq hm ha hb hb0]
theorem gcdP_mul : ∀ (k : Nat) {a b c : List Nat}, Tr m a → Tr m b → Tr m c → c.length ≠ 0 → gcdP m k (mulP m a c) (mulP m b c) = mulP m (gcdP m k a b) c
  | 0, _, _, _, _, _, _, _ => rfl
  | k + 1, a, b, c, ha, hb, hc, hc0 => by
    unfold gcdP
    by_cases hb0 : b.length = 0
    · rw [if_pos hb0, List.eq_nil_of_length_eq_zero hb0, mulP_nil_l]
      exact if_pos rfl
    · rw [if_neg hb0, if_neg (by rw [mulP_len hm hb hc hb0 hc0]; omega), restP_mul hm ha hb hc hb0 hc0]
      exact gcdP_mul k hb (restP_tr hm ha) hc hc0
theorem gcdE_mul {a b c : List Nat} (ha : Tr m a) (hb : Tr m b) (hc : Tr m c) (hc0 : c.length ≠ 0) : gcdE m (mulP m a c) (mulP m b c) = mulP m (gcdE m a b) c := by
  by_cases hb0 : b.length = 0
  · rw [List.eq_nil_of_length_eq_zero hb0, mulP_nil_l, gcdE_last (by rfl), gcdE_last (by rfl)]
  · unfold gcdE
    rw [gcdP_more hm (mulP_tr hm ha hc) (mulP_tr hm hb hc) (Nat.lt_succ_self _) (show (mulP m b c).length < b.length + c.length + 1 by rw [mulP_len hm hb hc hb0 hc0]; omega),
      gcdP_more hm ha hb (Nat.lt_succ_self _) (show b.length < b.length + c.length + 1 by omega), gcdP_mul hm _ ha hb hc hc0]
theorem gcd_comm {a b : List Nat} (ha : Tr m a) (hb : Tr m b) : monicP m (gcdE m a b) = monicP m (gcdE m b a) := by
  have h1 := gcdE_dvd hm ha hb
  have h2 := gcdE_dvd hm hb ha
  have t1 := gcdE_tr hm ha hb
  have t2 := gcdE_tr hm hb ha
  exact monicP_uniq hm t1 t2 (gcdE_most hm hb ha t1 h1.2 h1.1) (gcdE_most hm ha hb t2 h2.2 h2.1)
end
end Go.Proofs.YtcdmmfpgeagimaaDoor
end
section
/- The product of x + a, its roots and its derivative's: plain mathematics, no program. No condition but an m that may be. -/
namespace Go.Proofs.YtcdmmfpgeagimaaDoor
open Go.Sx Go.Fm

section
variable {m : Nat}
theorem cf_frS (m : Nat) (p : List Nat) (a j : Nat) : cf (frS m p a) j = cf (0 :: p) j ^^^ gm m (cf p j) a := by
  unfold frS
  rw [cf_range]
  split
  · unfold frF
    split
    · rfl
    · rw [cf_out (l := p) (by omega), gm_zero_left, Nat.xor_zero]
  · rw [cf_out (l := p) (by omega), gm_zero_left, cf_out (by simp only [List.length_cons]; omega)]
    rfl
variable (hm : Ok m)
include hm
omit hm in
theorem zero_cons_lt (_hm : Ok m) {p : List Nat} (hp : ∀ x ∈ p, x < 2 ^ m) : ∀ x ∈ 0 :: p, x < 2 ^ m := fun x hx => by
  rcases List.mem_cons.1 hx with rfl | hx
  · exact Nat.two_pow_pos m
  · exact hp x hx
theorem evL_frS {p : List Nat} (hp : ∀ x ∈ p, x < 2 ^ m) {a : Nat} (ha : a < 2 ^ m) {x : Nat} (hx : x < 2 ^ m) : evL m (frS m p a) x = gm m (evL m p x) (x ^^^ a) := by
  have hsc : ∀ z ∈ scaleP m p a, z < 2 ^ m := (pl_tr (fun j => gm_lt hm (cf_lt hp (Nat.two_pow_pos m) j) a)).lt
  rw [evL_congr (b := addP (0 :: p) (scaleP m p a)) (fun j => by rw [cf_frS, cf_addP, cf_scaleP]) x, evL_add hm (zero_cons_lt hm hp) hsc, evL_scale hm a ha hp x hx, gm_xor_right]
  show gm m (evL m p x) x ^^^ 0 ^^^ _ = _
  rw [Nat.xor_zero]
omit hm in
theorem frP_top (_hm : Ok m) (l : List Int) : ∀ i, cf (frP m l i) i = 1
  | 0 => rfl
  | i + 1 => by
    show cf (frS m (frP m l i) _) (i + 1) = 1
    rw [cf_frS, cf_cons_succ, frP_top _hm l i, cf_out (by rw [frP_len]; omega), gm_zero_left]
    rfl
theorem frP_tr (l : List Int) (i : Nat) : Tr m (frP m l i) := by
  refine ⟨frP_lt hm l i, trim_of ?_⟩
  have h1 := tl_le (frP m l i)
  have h2 := frP_len m l i
  have h3 := frP_top hm l i
  refine Nat.le_antisymm h1 (Nat.le_of_not_lt fun hlt => ?_)
  rw [cf_hi (frP m l i) i (by omega)] at h3
  cases h3
/-- How often a number's element is x among the first i. -/
def cnt (m : Nat) (l : List Int) (x : Nat) : Nat → Nat
  | 0 => 0
  | i + 1 => if lo m (l.getD i 0) = x then cnt m l x i + 1 else cnt m l x i
theorem frP_root (l : List Int) {x : Nat} (hx : x < 2 ^ m) : ∀ i, evL m (frP m l i) x = 0 ↔ 0 < cnt m l x i
  | 0 => by
    show gm m 0 x ^^^ 1 = 0 ↔ 0 < 0
    rw [gm_zero_left]
    simp
  | i + 1 => by
    have ih := frP_root l hx i
    have hp := frP_lt hm l i
    have ha := lo_lt m (l.getD i 0)
    show evL m (frS m (frP m l i) (lo m (l.getD i 0))) x = 0 ↔ _
    rw [evL_frS hm hp ha hx]
    unfold cnt
    by_cases h : lo m (l.getD i 0) = x
    · rw [if_pos h, h, Nat.xor_self, gm_zero_right]
      simp
    · rw [if_neg h, ← ih]
      constructor
      · intro h2
        refine Classical.byContradiction fun hne => gm_ne_zero hm (evL_lt hm x hp) (xor_lt hx ha) hne (fun h3 => h (xor_eq_zero' hm h3).symm) h2
      · intro h2
        rw [h2, gm_zero_left]
/-! ### Derivatives -/
/-- The derivative's value. -/
def dvL (m : Nat) : List Nat → Nat → Nat
  | [], _ => 0
  | _ :: r, x => evL m r x ^^^ gm m (dvL m r x) x
theorem dvL_lt (x : Nat) : ∀ {a : List Nat} (_ : ∀ y ∈ a, y < 2 ^ m), dvL m a x < 2 ^ m
  | [], _ => Nat.two_pow_pos m
  | _ :: r, h => by
    have hr : ∀ x ∈ r, x < 2 ^ m := fun x hx => h x (List.mem_cons_of_mem _ hx)
    exact xor_lt (evL_lt hm x hr) (gm_lt hm (dvL_lt x hr) x)
omit hm in
theorem derP_lt (_hm : Ok m) {a : List Nat} (ha : ∀ y ∈ a, y < 2 ^ m) : ∀ y ∈ derP a, y < 2 ^ m := (pl_tr (m := m) (fun j => by
  split
  · exact cf_lt ha (Nat.two_pow_pos m) _
  · exact Nat.two_pow_pos m)).lt
theorem evL_der : ∀ {a : List Nat} (_ : ∀ y ∈ a, y < 2 ^ m) (x : Nat), evL m (derP a) x = dvL m a x
  | [], _, x => evL_zero (fun j => by rw [cf_derP, cf_nil]; simp) x
  | y :: r, h, x => by
    have hr : ∀ x ∈ r, x < 2 ^ m := fun x hx => h x (List.mem_cons_of_mem _ hx)
    have hd := derP_lt hm hr
    rw [evL_congr (b := addP r (0 :: derP r)) (fun j => by
      rw [cf_derP, cf_addP, cf_cons_succ]
      cases j with
      | zero => rw [cf_cons_zero]; simp
      | succ j =>
        rw [cf_cons_succ, cf_derP]
        rcases Nat.mod_two_eq_zero_or_one (j + 1) with h2 | h2
        · rw [if_pos (by omega), if_neg (by omega), Nat.xor_zero]
        · rw [if_neg (by omega), if_pos h2, Nat.xor_self]) x, evL_add hm hr (zero_cons_lt hm hd)]
    show _ ^^^ (gm m (evL m (derP r) x) x ^^^ 0) = _ ^^^ gm m (dvL m r x) x
    rw [evL_der hr x, Nat.xor_zero]
omit hm in
theorem dvL_zero : ∀ {a : List Nat} (_ : ∀ j, cf a j = 0) (x : Nat), dvL m a x = 0
  | [], _, _ => rfl
  | y :: r, h, x => by
    have h1 : ∀ j, cf r j = 0 := fun j => by rw [← cf_cons_succ y r j]; exact h _
    show evL m r x ^^^ gm m (dvL m r x) x = 0
    rw [evL_zero h1, dvL_zero h1, gm_zero_left]
    rfl
omit hm in
theorem dvL_congr : ∀ {a b : List Nat} (_ : ∀ j, cf a j = cf b j) (x : Nat), dvL m a x = dvL m b x
  | [], b, h, x => (dvL_zero (fun j => by rw [← h, cf_nil]) x).symm
  | y :: r, [], h, x => dvL_zero (fun j => by rw [h, cf_nil]) x
  | y :: r, z :: s, h, x => by
    have h1 : ∀ j, cf r j = cf s j := fun j => by have := h (j + 1); rwa [cf_cons_succ, cf_cons_succ] at this
    show evL m r x ^^^ gm m (dvL m r x) x = evL m s x ^^^ gm m (dvL m s x) x
    rw [evL_congr h1, dvL_congr h1]
theorem dvL_add : ∀ {a b : List Nat} (_ : ∀ x ∈ a, x < 2 ^ m) (_ : ∀ x ∈ b, x < 2 ^ m) (x : Nat), dvL m (addP a b) x = dvL m a x ^^^ dvL m b x
  | [], b, _, _, x => by
    rw [dvL_congr (b := b) (fun j => by rw [cf_addP, cf_nil, Nat.zero_xor]) x]
    show _ = 0 ^^^ _
    rw [Nat.zero_xor]
  | y :: r, [], _, _, x => by
    rw [dvL_congr (b := y :: r) (fun j => by rw [cf_addP, cf_nil, Nat.xor_zero]) x]
    show _ = _ ^^^ 0
    rw [Nat.xor_zero]
  | y :: r, z :: s, ha, hb, x => by
    have hr : ∀ x ∈ r, x < 2 ^ m := fun x hx => ha x (List.mem_cons_of_mem _ hx)
    have hs : ∀ x ∈ s, x < 2 ^ m := fun x hx => hb x (List.mem_cons_of_mem _ hx)
    rw [dvL_congr (b := (y ^^^ z) :: addP r s) (fun j => by
      rw [cf_addP]
      cases j with
      | zero => rw [cf_cons_zero, cf_cons_zero, cf_cons_zero]
      | succ j => rw [cf_cons_succ, cf_cons_succ, cf_cons_succ, cf_addP]) x]
    show evL m (addP r s) x ^^^ gm m (dvL m (addP r s) x) x = (evL m r x ^^^ gm m (dvL m r x) x) ^^^ (evL m s x ^^^ gm m (dvL m s x) x)
    rw [dvL_add hr hs x, evL_add hm hr hs, gm_xor_left hm (dvL_lt hm x hr) (dvL_lt hm x hs), Nat.xor_assoc, Nat.xor_assoc, xlc (evL m s x)]
/-- Of the product with x + a. -/
theorem dvL_frS : ∀ {p : List Nat} (_ : ∀ x ∈ p, x < 2 ^ m) {a : Nat} (_ : a < 2 ^ m) {x : Nat} (_ : x < 2 ^ m), dvL m (frS m p a) x = evL m p x ^^^ gm m (dvL m p x) (x ^^^ a)
  | [], _, a, _, x, _ => by
    rw [dvL_zero (fun j => by
      rw [cf_frS, cf_nil, gm_zero_left]
      cases j with
      | zero => rfl
      | succ j => rw [cf_cons_succ, cf_nil]; rfl)]
    show 0 = 0 ^^^ gm m 0 _
    rw [gm_zero_left]
    rfl
  | y :: r, hp, a, ha, x, hx => by
    have hr : ∀ x ∈ r, x < 2 ^ m := fun x hx => hp x (List.mem_cons_of_mem _ hx)
    have hy := hp y List.mem_cons_self
    have hsc : ∀ z ∈ scaleP m r a, z < 2 ^ m := (pl_tr (fun j => gm_lt hm (cf_lt hr (Nat.two_pow_pos m) j) a)).lt
    have hfr : ∀ z ∈ frS m r a, z < 2 ^ m := fun z hz => by
      obtain ⟨j, _, rfl⟩ := List.mem_map.1 hz
      exact frF_lt hm hr _ _ j
    -- frS (y :: r) a = (y a) :: (y x^0 + frS r a)
    have hy1 : ∀ z ∈ [y], z < 2 ^ m := fun z hz => by simp at hz; subst hz; exact hy
    rw [dvL_congr (b := gm m y a :: addP [y] (frS m r a)) (fun j => by
      rw [cf_frS]
      cases j with
      | zero => rw [cf_cons_zero, cf_cons_zero, cf_cons_zero, Nat.zero_xor]
      | succ j =>
        rw [cf_cons_succ, cf_cons_succ, cf_cons_succ, cf_addP, cf_frS]
        cases j with
        | zero => rw [cf_cons_zero, cf_cons_zero, cf_cons_zero, Nat.zero_xor]
        | succ j => rw [cf_cons_succ, cf_cons_succ, cf_cons_succ, cf_nil, Nat.zero_xor])]
    have e1 : evL m (addP [y] (frS m r a)) x = y ^^^ gm m (evL m r x) (x ^^^ a) := by
      rw [evL_add hm hy1 hfr, evL_frS hm hr ha hx]
      show gm m 0 x ^^^ y ^^^ _ = _
      rw [gm_zero_left, Nat.zero_xor]
    have e2 : dvL m (addP [y] (frS m r a)) x = dvL m (frS m r a) x := by
      rw [dvL_add hm hy1 hfr]
      show (0 ^^^ gm m 0 x) ^^^ _ = _
      rw [gm_zero_left, Nat.zero_xor, Nat.zero_xor]
    show evL m (addP [y] (frS m r a)) x ^^^ gm m (dvL m (addP [y] (frS m r a)) x) x = (gm m (evL m r x) x ^^^ y) ^^^ gm m (evL m r x ^^^ gm m (dvL m r x) x) (x ^^^ a)
    rw [e1, e2, dvL_frS hr ha hx]
    have hE := evL_lt hm x hr
    have hD := dvL_lt hm x hr
    have hxa := xor_lt hx ha
    rw [gm_xor_left hm hE (gm_lt hm hD _), gm_xor_left hm hE (gm_lt hm hD _), gm_assoc hm hD hxa hx, gm_comm hm hxa hx, ← gm_assoc hm hD hx hxa]
    generalize gm m (evL m r x) (x ^^^ a) = A
    generalize gm m (evL m r x) x = B
    generalize gm m (gm m (dvL m r x) x) (x ^^^ a) = C
    rw [Nat.xor_comm B y, Nat.xor_assoc, Nat.xor_assoc, xlc A B]
theorem frP_der (l : List Int) {x : Nat} (hx : x < 2 ^ m) : ∀ i, 0 < cnt m l x i → (dvL m (frP m l i) x = 0 ↔ 1 < cnt m l x i)
  | 0, h => absurd h (by simp [cnt])
  | i + 1, h => by
    have ih := frP_der l hx i
    have hp := frP_lt hm l i
    have ha := lo_lt m (l.getD i 0)
    have hroot := frP_root hm l hx i
    show dvL m (frS m (frP m l i) (lo m (l.getD i 0))) x = 0 ↔ _
    rw [dvL_frS hm hp ha hx]
    unfold cnt at h ⊢
    by_cases he : lo m (l.getD i 0) = x
    · rw [if_pos he, he, Nat.xor_self, gm_zero_right, Nat.xor_zero, hroot]
      omega
    · rw [if_neg he] at h ⊢
      rw [hroot.2 h, Nat.zero_xor, ← ih h]
      constructor
      · intro h2
        refine Classical.byContradiction fun hne => gm_ne_zero hm (dvL_lt hm x hp) (xor_lt hx ha) hne (fun h3 => he (xor_eq_zero' hm h3).symm) h2
      · intro h2
        rw [h2, gm_zero_left]
omit hm in
theorem rootsN_at {a : List Nat} {x n : Nat} (hx : x < n) (h : evL m a x = 0) : (rootsN m a n)[(rootsN m a x).length]? = some x := by
  induction n with
  | zero => omega
  | succ n ih =>
    show (if evL m a n = 0 then rootsN m a n ++ [n] else rootsN m a n)[(rootsN m a x).length]? = some x
    by_cases hxn : x = n
    · subst hxn
      rw [if_pos h]
      simp
    · have := ih (by omega)
      split
      · rw [List.getElem?_append_left]
        · exact this
        · exact (List.getElem?_eq_some_iff.1 this).1
      · exact this
end
end Go.Proofs.YtcdmmfpgeagimaaDoor
end
section
/- Polynomials over two elements, in bytes: as polynomials over the field of 2^3 elements whose coefficients are 0 or 1. Plain mathematics, no program. -/
namespace Go.Proofs.YtcdmmfpgeagimaaDoor
open Go.Sx Go.Fm

theorem ok3 : Ok 3 := ⟨by decide, by decide⟩
/-- Bit j of bytes. -/
def bitN (l : List Nat) (j : Nat) : Nat := (cf l (j / 8) >>> (j % 8)) % 2
theorem bitN_lt (l : List Nat) (j : Nat) : bitN l j < 2 := Nat.mod_lt _ (by omega)
theorem bitN_out {l : List Nat} {j : Nat} (h : 8 * l.length ≤ j) : bitN l j = 0 := by
  unfold bitN
  rw [cf_out (by omega)]
  simp
theorem bitN_test (l : List Nat) (i s : Nat) (hs : s < 8) : bitN l (8 * i + s) = ((cf l i).testBit s).toNat := by
  unfold bitN
  rw [show (8 * i + s) / 8 = i by omega, show (8 * i + s) % 8 = s by omega, Nat.testBit_eq_decide_div_mod_eq, Nat.shiftRight_eq_div_pow]
  rcases Nat.mod_two_eq_zero_or_one (cf l i / 2 ^ s) with h | h <;> rw [h] <;> simp
/-- The polynomial that bytes are. -/
def bl (l : List Nat) : List Nat := pl (8 * l.length) (bitN l)
theorem cf_bl (l : List Nat) (j : Nat) : cf (bl l) j = bitN l j := by
  unfold bl
  rw [cf_pl]
  split
  · rfl
  · exact (bitN_out (by omega)).symm
/-- Coefficients that are 0 or 1. -/
structure B1 (a : List Nat) : Prop where
  tr : Tr 3 a
  le : ∀ j, cf a j < 2
theorem bl_b1 (l : List Nat) : B1 (bl l) := ⟨pl_tr (fun j => Nat.lt_trans (bitN_lt l j) (by decide)), fun j => by rw [cf_bl]; exact bitN_lt l j⟩
theorem test_ext {x y : Nat} (hx : x < 256) (hy : y < 256) (h : ∀ s, s < 8 → x.testBit s = y.testBit s) : x = y := by
  apply Nat.eq_of_testBit_eq
  intro s
  by_cases hs : s < 8
  · exact h s hs
  · have e : ∀ z, z < 256 → z.testBit s = false := fun z hz => Nat.testBit_lt_two_pow (Nat.lt_of_lt_of_le hz (Nat.pow_le_pow_right (n := 2) (by omega) (show 8 ≤ s by omega)))
    rw [e x hx, e y hy]
theorem toNat_inj {a b : Bool} (h : a.toNat = b.toNat) : a = b := by cases a <;> cases b <;> simp_all
theorem bytes_ext {a b : List Nat} (ha : Tr 8 a) (hb : Tr 8 b) (h : ∀ j, bitN a j = bitN b j) : a = b :=
  ha.ext hb (fun i => test_ext (ha.c i) (hb.c i) (fun s hs => by
    have := h (8 * i + s)
    rw [bitN_test _ _ _ hs, bitN_test _ _ _ hs] at this
    exact toNat_inj this))
theorem bl_inj {a b : List Nat} (ha : Tr 8 a) (hb : Tr 8 b) (h : bl a = bl b) : a = b := bytes_ext ha hb (fun j => by rw [← cf_bl, ← cf_bl, h])
/-- A byte of bits. -/
def byt (f : Nat → Nat) : Nat → Nat
  | 0 => 0
  | n + 1 => byt f n + f n * 2 ^ n
theorem byt_spec {f : Nat → Nat} (hf : ∀ j, f j < 2) : ∀ n, byt f n < 2 ^ n ∧ ∀ s, s < n → ((byt f n).testBit s).toNat = f s
  | 0 => ⟨by show 0 < 1; omega, fun s h => by omega⟩
  | n + 1 => by
    obtain ⟨h1, h2⟩ := byt_spec hf n
    have hfn := hf n
    have e : byt f (n + 1) = 2 ^ n * f n + byt f n := by
      show byt f n + f n * 2 ^ n = _
      rw [Nat.mul_comm (f n), Nat.add_comm]
    refine ⟨?_, fun s hs => ?_⟩
    · rw [e, Nat.pow_succ]
      have : 2 ^ n * f n ≤ 2 ^ n * 1 := Nat.mul_le_mul_left _ (by omega)
      omega
    · rw [e, Nat.testBit_two_pow_mul_add _ h1]
      by_cases h : s < n
      · rw [if_pos h]; exact h2 s h
      · obtain rfl : s = n := by omega
        rw [if_neg (by omega), Nat.sub_self]
        rcases (show f s = 0 ∨ f s = 1 by omega) with h0 | h0 <;> rw [h0] <;> decide
/-- The bytes of a polynomial. -/
def bys (a : List Nat) : List Nat := pl ((a.length + 7) / 8) (fun i => byt (fun s => cf a (8 * i + s)) 8)
theorem bys_tr {a : List Nat} (h : ∀ j, cf a j < 2) : Tr 8 (bys a) := pl_tr (fun i => (byt_spec (fun s => h (8 * i + s)) 8).1)
theorem bitN_bys {a : List Nat} (h : ∀ j, cf a j < 2) (j : Nat) : bitN (bys a) j = cf a j := by
  have e := bitN_test (bys a) (j / 8) (j % 8) (Nat.mod_lt _ (by omega))
  rw [show 8 * (j / 8) + j % 8 = j by omega] at e
  rw [e]
  unfold bys
  rw [cf_pl]
  split
  · rw [(byt_spec (fun s => h (8 * (j / 8) + s)) 8).2 _ (Nat.mod_lt _ (by omega)), show 8 * (j / 8) + j % 8 = j by omega]
  · rw [cf_out (by omega)]
    simp
theorem bl_bys {a : List Nat} (h : B1 a) : bl (bys a) = a := (bl_b1 _).tr.ext h.tr (fun j => by rw [cf_bl, bitN_bys h.le])
theorem bys_bl {l : List Nat} (h : Tr 8 l) : bys (bl l) = l := bl_inj (bys_tr (bl_b1 l).le) h (bl_bys (bl_b1 l))
/-- Whatever has these bits is the bytes of the polynomial. -/
theorem bys_of {l a : List Nat} (hl : ∀ x ∈ l, x < 256) (ha : B1 a) (h : ∀ j, bitN l j = cf a j) : trim l = bys a :=
  bytes_ext (a := trim l) ⟨fun x hx => trim_lt hl x hx, trim_trim l⟩ (bys_tr ha.le) (fun j => by
    rw [bitN_bys ha.le, ← h]
    unfold bitN
    rw [cf_trim])
theorem bys_len (a : List Nat) : (bys a).length ≤ (a.length + 7) / 8 := by
  unfold bys pl
  rw [trim_length]
  simpa using tl_le ((List.range ((a.length + 7) / 8)).map fun i => byt (fun s => cf a (8 * i + s)) 8)
theorem bl_len (l : List Nat) : (bl l).length ≤ 8 * l.length := by
  unfold bl pl
  rw [trim_length]
  simpa using tl_le ((List.range (8 * l.length)).map (bitN l))
theorem bl_trim (l : List Nat) : bl (trim l) = bl l := (bl_b1 _).tr.ext (bl_b1 _).tr (fun j => by
  rw [cf_bl, cf_bl]
  unfold bitN
  rw [cf_trim])

/-! ### Sums, products, quotients keep to 0 and 1 -/
theorem xor_two {a b : Nat} (ha : a < 2) (hb : b < 2) : a ^^^ b < 2 := Nat.xor_lt_two_pow (n := 1) ha hb
theorem gm_two {a b : Nat} (ha : a < 2) (hb : b < 2) : gm 3 a b = a * b := by
  rcases (show a = 0 ∨ a = 1 by omega) with rfl | rfl <;> rcases (show b = 0 ∨ b = 1 by omega) with rfl | rfl <;> decide
theorem gm_two_lt {a b : Nat} (ha : a < 2) (hb : b < 2) : gm 3 a b < 2 := by
  rw [gm_two ha hb]
  rcases (show a = 0 ∨ a = 1 by omega) with rfl | rfl <;> omega
theorem xs_two {f : Nat → Nat} : ∀ {n : Nat}, (∀ i, i < n → f i < 2) → xs f n < 2
  | 0, _ => by show 0 < 2; omega
  | n + 1, h => xor_two (xs_two (fun i hi => h i (by omega))) (h n (by omega))
theorem addP_b1 {a b : List Nat} (ha : B1 a) (hb : B1 b) : B1 (addP a b) := ⟨addP_tr ok3 ha.tr hb.tr, fun j => by rw [cf_addP]; exact xor_two (ha.le j) (hb.le j)⟩
theorem mulP_b1 {a b : List Nat} (ha : B1 a) (hb : B1 b) : B1 (mulP 3 a b) := ⟨mulP_tr ok3 ha.tr hb.tr, fun j => by
  rw [cf_mulP]
  exact xs_two (fun i _ => gm_two_lt (ha.le _) (hb.le _))⟩
theorem inv_one {m : Nat} (hm : Ok m) : inv m 1 = 1 := by
  have := gm_inv hm (one_lt hm) (by omega)
  rw [gm_one_left hm (inv_lt hm _)] at this
  exact this
theorem B1.top {a : List Nat} (h : B1 a) (h0 : a.length ≠ 0) : cf a (a.length - 1) = 1 := by
  have h1 := h.tr.top h0
  have h2 := h.le (a.length - 1)
  omega
theorem nil_b1 : B1 [] := ⟨nil_tr 3, fun j => by rw [cf_nil]; omega⟩
theorem lt8 {f : Nat → Nat} (h : ∀ j, f j < 2) (j : Nat) : f j < 2 ^ 3 := Nat.lt_trans (h j) (by decide)
theorem dC_two {b : List Nat} (hb : B1 b) (h0 : b.length ≠ 0) {R : Nat → Nat} (hR : ∀ j, R j < 2) (n : Nat) : dC 3 b R n < 2 := by
  unfold dC
  rw [hb.top h0, inv_one ok3, gm_one_right ok3 (lt8 hR _)]
  exact hR _
theorem dSi_two {b : List Nat} (hb : B1 b) {R : Nat → Nat} (hR : ∀ j, R j < 2) {n c i : Nat} (hc : c < 2) (j : Nat) : dSi 3 b R n c i j < 2 := by
  unfold dSi
  split
  · exact xor_two (hR j) (gm_two_lt hc (hb.le _))
  · exact hR j
theorem divR_two {b : List Nat} (hb : B1 b) (h0 : b.length ≠ 0) : ∀ (n : Nat) {R : Nat → Nat}, (∀ j, R j < 2) → ∀ j, divR 3 b n R j < 2
  | 0, _, hR, j => hR j
  | n + 1, _, hR, j => divR_two hb h0 n (fun j => dSi_two hb hR (dC_two hb h0 hR n) j) j
theorem divQ_two {b : List Nat} (hb : B1 b) (h0 : b.length ≠ 0) : ∀ (n : Nat) {R : Nat → Nat}, (∀ j, R j < 2) → ∀ j, divQ 3 b n R j < 2
  | 0, _, _, _ => by show 0 < 2; omega
  | n + 1, R, hR, j => by
    unfold divQ
    split
    · exact dC_two hb h0 hR n
    · exact divQ_two hb h0 n (fun j => dSi_two hb hR (dC_two hb h0 hR n) j) j
theorem quotP_b1 {a b : List Nat} (ha : B1 a) (hb : B1 b) (h0 : b.length ≠ 0) : B1 (quotP 3 a b) := ⟨quotP_tr ok3 ha.tr, fun j => by rw [cf_quotP ok3]; exact divQ_two hb h0 _ ha.le j⟩
theorem restP_b1 {a b : List Nat} (ha : B1 a) (hb : B1 b) (h0 : b.length ≠ 0) : B1 (restP 3 a b) := ⟨restP_tr ok3 ha.tr, fun j => by rw [cf_restP ok3 ha.tr hb.tr h0]; exact divR_two hb h0 _ ha.le j⟩
theorem gcdP_b1 : ∀ (k : Nat) {a b : List Nat}, B1 a → B1 b → B1 (gcdP 3 k a b)
  | 0, _, _, ha, _ => ha
  | k + 1, a, b, ha, hb => by
    unfold gcdP
    split
    · exact ha
    · rename_i h0
      exact gcdP_b1 k hb (restP_b1 ha hb h0)
theorem gcdE_b1 {a b : List Nat} (ha : B1 a) (hb : B1 b) : B1 (gcdE 3 a b) := gcdP_b1 _ ha hb
/-! ### Shifts -/
/-- n places up. -/
def upP (n : Nat) (a : List Nat) : List Nat := pl (n + a.length) (fun j => if n ≤ j then cf a (j - n) else 0)
/-- n places down. -/
def dnP (n : Nat) (a : List Nat) : List Nat := pl a.length (fun j => cf a (j + n))
theorem cf_upP (n : Nat) (a : List Nat) (j : Nat) : cf (upP n a) j = if n ≤ j then cf a (j - n) else 0 := by
  unfold upP
  rw [cf_pl]
  split
  · rfl
  · split
    · rw [cf_out (by omega)]
    · rfl
theorem cf_dnP (n : Nat) (a : List Nat) (j : Nat) : cf (dnP n a) j = cf a (j + n) := by
  unfold dnP
  rw [cf_pl]
  split
  · rfl
  · rw [cf_out (by omega)]
theorem upP_b1 {a : List Nat} (ha : B1 a) (n : Nat) : B1 (upP n a) := ⟨pl_tr (fun j => by split; exact ha.tr.c _; decide), fun j => by rw [cf_upP]; split; exact ha.le _; omega⟩
theorem dnP_b1 {a : List Nat} (ha : B1 a) (n : Nat) : B1 (dnP n a) := ⟨pl_tr (fun j => ha.tr.c _), fun j => by rw [cf_dnP]; exact ha.le _⟩
theorem dn_up {a : List Nat} (ha : B1 a) (n : Nat) : dnP n (upP n a) = a := (dnP_b1 (upP_b1 ha n) n).tr.ext ha.tr (fun j => by rw [cf_dnP, cf_upP, if_pos (by omega), show j + n - n = j by omega])
/-- x to the n-th. -/
def xP (n : Nat) : List Nat := upP n [1]
theorem one_b1 : B1 [1] := ⟨⟨by decide, by decide⟩, fun j => by cases j with | zero => decide | succ j => rw [cf_cons_succ, cf_nil]; omega⟩
theorem xP_b1 (n : Nat) : B1 (xP n) := upP_b1 one_b1 n
theorem cf_xP (n j : Nat) : cf (xP n) j = if j = n then 1 else 0 := by
  unfold xP
  rw [cf_upP]
  by_cases h : j = n
  · subst h; rw [if_pos (Nat.le_refl _), if_pos rfl, Nat.sub_self]; rfl
  · rw [if_neg h]
    split
    · rw [cf_out (by simp; omega)]
    · rfl
theorem mul_xP {a : List Nat} (ha : B1 a) (n : Nat) : mulP 3 a (xP n) = upP n a := by
  rw [mulP_comm ok3 ha.tr (xP_b1 n).tr]
  refine (mulP_tr ok3 (xP_b1 n).tr ha.tr).ext (upP_b1 ha n).tr (fun j => ?_)
  rw [cf_mulP, cv_congr (f' := fun i => if i = n then 1 else 0) (fun i _ => cf_xP n i) (fun _ _ => rfl), cv_one, cf_upP]
  split
  · rw [gm_one_left ok3 (ha.tr.c _)]
  · rfl
/-! ### Degrees -/
theorem upP_len {a : List Nat} (ha : B1 a) (h0 : a.length ≠ 0) (n : Nat) : (upP n a).length = n + a.length := by
  have h1 : (upP n a).length ≤ n + a.length := by
    unfold upP pl
    rw [trim_length]
    simpa using tl_le ((List.range (n + a.length)).map fun j => if n ≤ j then cf a (j - n) else 0)
  refine Nat.le_antisymm h1 (Nat.le_of_not_lt fun hlt => ?_)
  have h2 := cf_upP n a (n + a.length - 1)
  rw [if_pos (by omega), show n + a.length - 1 - n = a.length - 1 by omega, cf_out (by omega), ha.top h0] at h2
  cases h2
end Go.Proofs.YtcdmmfpgeagimaaDoor
end
section
/- Bits of bytes and of numbers of 64 bits without a sign, said of natural numbers. No condition. -/
namespace Go.Sx
open Go

theorem w8 {x : Nat} (h : x < 256) : IntKind.u8.wrap (x : Int) = x := by
  simp only [IntKind.wrap, IntKind.signed, IntKind.bits]
  simp
  omega
theorem w8_mod (x : Nat) : IntKind.u8.wrap (x : Int) = ((x % 256 : Nat) : Int) := by
  simp only [IntKind.wrap, IntKind.signed, IntKind.bits]
  simp
theorem wu64' {x : Nat} (h : x < 2 ^ 64) : IntKind.u64.wrap (x : Int) = x := by
  simp only [IntKind.wrap, IntKind.signed, IntKind.bits]
  simp
  omega
theorem toNat_ofInt8 {x : Nat} (h : x < 256) : (BitVec.ofInt 8 (x : Int)).toNat = x := by
  rw [BitVec.toNat_ofInt]
  show ((x : Int) % 256).toNat = x
  omega
theorem toNat_ofIntU {x : Nat} (h : x < 2 ^ 64) : (BitVec.ofInt 64 (x : Int)).toNat = x := by
  rw [toNat_ofInt64]
  omega
theorem ibit_xor_u8 {x y : Nat} (hx : x < 256) (hy : y < 256) : ibit .xor .u8 x y = ((x ^^^ y : Nat) : Int) := by
  show IntKind.u8.wrap ((BitVec.ofInt 8 (x : Int) ^^^ BitVec.ofInt 8 (y : Int)).toNat : Nat) = _
  rw [BitVec.toNat_xor, toNat_ofInt8 hx, toNat_ofInt8 hy]
  exact w8 (Nat.xor_lt_two_pow (n := 8) hx hy)
theorem ibit_or_u8 {x y : Nat} (hx : x < 256) (hy : y < 256) : ibit .or .u8 x y = ((x ||| y : Nat) : Int) := by
  show IntKind.u8.wrap ((BitVec.ofInt 8 (x : Int) ||| BitVec.ofInt 8 (y : Int)).toNat : Nat) = _
  rw [BitVec.toNat_or, toNat_ofInt8 hx, toNat_ofInt8 hy]
  exact w8 (Nat.or_lt_two_pow (n := 8) hx hy)
theorem ibit_and_u8 {x y : Nat} (hx : x < 256) (hy : y < 256) : ibit .and .u8 x y = ((x &&& y : Nat) : Int) := by
  show IntKind.u8.wrap ((BitVec.ofInt 8 (x : Int) &&& BitVec.ofInt 8 (y : Int)).toNat : Nat) = _
  rw [BitVec.toNat_and, toNat_ofInt8 hx, toNat_ofInt8 hy]
  exact w8 (Nat.lt_of_le_of_lt Nat.and_le_left hx)
theorem ibit_and1_u8 {x : Nat} (hx : x < 256) : ibit .and .u8 x 1 = ((x % 2 : Nat) : Int) := by
  have := ibit_and_u8 hx (show 1 < 256 by omega)
  rw [Nat.and_one_is_mod] at this
  exact this
theorem ibit_xor_u64 {x y : Nat} (hx : x < 2 ^ 64) (hy : y < 2 ^ 64) : ibit .xor .u64 x y = ((x ^^^ y : Nat) : Int) := by
  show IntKind.u64.wrap ((BitVec.ofInt 64 (x : Int) ^^^ BitVec.ofInt 64 (y : Int)).toNat : Nat) = _
  rw [BitVec.toNat_xor, toNat_ofIntU hx, toNat_ofIntU hy]
  exact wu64' (Nat.xor_lt_two_pow hx hy)
theorem ibit_or_u64 {x y : Nat} (hx : x < 2 ^ 64) (hy : y < 2 ^ 64) : ibit .or .u64 x y = ((x ||| y : Nat) : Int) := by
  show IntKind.u64.wrap ((BitVec.ofInt 64 (x : Int) ||| BitVec.ofInt 64 (y : Int)).toNat : Nat) = _
  rw [BitVec.toNat_or, toNat_ofIntU hx, toNat_ofIntU hy]
  exact wu64' (Nat.or_lt_two_pow hx hy)
/-- Shifts of bytes. -/
theorem shl_u8 {x k : Nat} (hk : k ≤ 8) : IntKind.u8.wrap ((x : Int) * 2 ^ (min (k : Int).toNat IntKind.u8.bits)) = ((x * 2 ^ k % 256 : Nat) : Int) := by
  have : min (k : Int).toNat IntKind.u8.bits = k := by simp [IntKind.bits]; omega
  rw [this]
  have e : (x : Int) * 2 ^ k = ((x * 2 ^ k : Nat) : Int) := by push_cast; rfl
  rw [e]
  exact w8_mod _
theorem shr_u8 {x k : Nat} (hk : k ≤ 8) : ((x : Int)).fdiv (2 ^ (min (k : Int).toNat IntKind.u8.bits)) = ((x >>> k : Nat) : Int) := by
  have : min (k : Int).toNat IntKind.u8.bits = k := by simp [IntKind.bits]; omega
  rw [this, Nat.shiftRight_eq_div_pow, Int.fdiv_eq_ediv_of_nonneg _ (by exact Int.le_of_lt (Int.pow_pos (by decide)))]
  push_cast
  rfl
theorem shl_u64 {x k : Nat} (hk : k ≤ 63) (h : x * 2 ^ k < 2 ^ 64) : IntKind.u64.wrap ((x : Int) * 2 ^ (min (k : Int).toNat IntKind.u64.bits)) = ((x * 2 ^ k : Nat) : Int) := by
  have : min (k : Int).toNat IntKind.u64.bits = k := by simp [IntKind.bits]; omega
  rw [this]
  have e : (x : Int) * 2 ^ k = ((x * 2 ^ k : Nat) : Int) := by push_cast; rfl
  rw [e]
  exact wu64' h
theorem shr_u64 {x k : Nat} (hk : k ≤ 64) : ((x : Int)).fdiv (2 ^ (min (k : Int).toNat IntKind.u64.bits)) = ((x >>> k : Nat) : Int) := by
  have : min (k : Int).toNat IntKind.u64.bits = k := by simp [IntKind.bits]; omega
  rw [this, Nat.shiftRight_eq_div_pow, Int.fdiv_eq_ediv_of_nonneg _ (by exact Int.le_of_lt (Int.pow_pos (by decide)))]
  push_cast
  rfl
end Go.Sx
end
