/- Range over a function, part 1: the symbolic walk with calls of yield, in a round's frame and out of it: operations and regions. No condition. -/
import Derived.Test.YtfhfckoemgkdlaaDoorCore
import Derived.OrdersIn
import Derived.RangeFuncLeaves
import Derived.RangeFuncRecord
namespace Go.Sx
open Go

/-- The wide fence, with what makes the frame. -/
abbrev fw (ro : Option Nat) : Fence := { Fence.wide with round := ro }

/-- What an operation's outcome asks, yield's rounds among them. -/
def upI (P : Program) (o : Oper) (a : Act) (K : Act → World → Prop) : Result Next → Prop
  | .ok (.value v) w' => K (a.put o.dst v) w'
  | .ok .skip w' => K (a.put o.dst undef) w'
  | .ok (.enter f args) w' => Calls P f args w' fun e w'' => ∃ v, e = .returned v ∧ K (a.put o.dst v) w''
  | .ok (.row row args) w' => Rows P row args w' fun v w'' => K (a.put o.dst v) w''
  | .ok (.round l f tmps assign body) w' => RoundIn Fence.wide 0 P l f tmps assign body w' fun e w'' => ∃ v, e = .returned v ∧ K (a.put o.dst v) w''
  | _ => False
def OpI (P : Program) (o : Oper) (a : Act) (w : World) (K : Act → World → Prop) : Prop := upI P o a K ((execOp a.eval o).run P w)

theorem upI_mono {P : Program} {o : Oper} {a : Act} {K K' : Act → World → Prop} (hK : ∀ a w, K a w → K' a w) {r : Result Next} (h : upI P o a K r) : upI P o a K' r := by
  cases r with
  | ok x w' =>
    cases x <;> simp only [upI] at h ⊢
    case value => exact hK _ _ h
    case skip => exact hK _ _ h
    case enter => exact Calls.mono h (fun e w ⟨v, he, hk⟩ => ⟨v, he, hK _ _ hk⟩)
    case row => exact Rows.mono h (fun v w hk => hK _ _ hk)
    case round => exact RoundIn.mono h (fun e w ⟨v, he, hk⟩ => ⟨v, he, hK _ _ hk⟩)
  | halt x w' => simp only [upI] at h

/-- In whatever frame: an operation that is no defer statement. -/
theorem OpI.wpIn {P : Program} {ro : Option Nat} {o : Oper} {a : Act} {w : World} {K : Act → World → Prop} {Q : Exit → Act → World → Prop} (hnd : ∀ c, o.op ≠ .defer c) (h : OpI P o a w K) : o.wpIn (fw ro) 0 P a w K Q := by
  refine ⟨fun _ _ => trivial, ?_⟩
  show o.uponIn (fw ro) 0 P a K Q ((o.semAt ro a.eval).run P w)
  rw [Oper.semAt_eq ro _ _ hnd]
  unfold OpI at h
  generalize (execOp a.eval o).run P w = r at *
  have hd : ∀ {p : Prop}, ((fw ro).depth.isSome = true → p) := fun h => by simp [Fence.wide] at h
  cases r with
  | ok x w' =>
    cases x <;> simp only [upI] at h
    case value => exact h
    case skip => exact h
    case enter f args =>
      refine ⟨hd, ?_⟩
      have h2 : CallsIn Fence.wide 0 P f args w' _ := callsIn_wide.2 h
      exact CallsIn.mono (F := fw ro) h2 (fun e w ⟨v, he, hk⟩ => by subst he; exact hk)
    case row row args =>
      refine ⟨hd, fun c cs _ => ?_⟩
      obtain ⟨v, w'', hk, hs⟩ := h c cs
      exact ⟨v, w'', hk, stepsIn_wide.2 hs⟩
    case round l f tmps assign body =>
      refine ⟨hd, ?_⟩
      exact RoundIn.mono (F := fw ro) h (fun e w ⟨v, he, hk⟩ => by subst he; exact hk)
  | halt x w' => simp only [upI] at h

/-- Of an operation of the plain walk. -/
theorem OpI.of_wp {P : Program} {o : Oper} {a : Act} {w : World} {K K' : Act → World → Prop} (ds : List Deferred) (h : o.wp P { a with defers := [] } w K' NoExit)
    (hK : ∀ a' w', K' a' w' → a'.defers = [] ∧ K { a' with defers := ds } w') (hds : a.defers = ds) : OpI P o a w K := by
  have hp : ∀ v : Value, { ({ a with defers := [] } : Act).put o.dst v with defers := ds } = a.put o.dst v := fun v => by
    subst hds; cases o.dst <;> rfl
  unfold Oper.wp at h
  unfold OpI
  have he : ({ a with defers := [] } : Act).eval = a.eval := by funext x; cases x <;> rfl
  rw [he] at h
  generalize (execOp a.eval o).run P w = r at *
  cases r with
  | ok x w' =>
    cases x <;> simp only [Oper.upon] at h <;> simp only [upI]
    case value v => have := (hK _ _ h).2; rwa [hp] at this
    case skip => have := (hK _ _ h).2; rwa [hp] at this
    case defer d => have := (hK _ _ h).1; cases hd : o.dst <;> simp [Act.put, hd] at this
    case enter f args =>
      refine Calls.mono h (fun e w'' he => ?_)
      cases e with
      | returned v => have := (hK _ _ he).2; rw [hp] at this; exact ⟨v, rfl, this⟩
      | panicked c => exact he.elim
      | outgrown => obtain ⟨_, _, hf⟩ := he; exact hf.elim
    case row row args => exact Rows.mono h (fun v w'' he => by have := (hK _ _ he).2; rwa [hp] at this)
  | halt x w' => cases x <;> simp only [Oper.upon, NoExit] at h

section
variable (P : Program) (ops : Array Oper) (S : World → Prop) (K : Act → World → Prop)
/-- Number i is carried out, or passed over. -/
def opI (i : Nat) (K : Act → World → Prop) (a : Act) (w : World) : Prop := match ops[i]? with
  | none => False
  | some o => if Region.wanted o (yielded ops a.tmps) = true then OpI P o a w K else K (a.put o.dst undef) w
def PWI : Plan → Act → World → Prop
  | .done, a, w => K a w
  | .st true i p, a, w => match ops[i]? with
    | none => False
    | some o => if Region.wanted o (yielded ops a.tmps) = true then ∃ v, (∀ w', S w' → (execOp a.eval o).run P w' = .ok (.value v) w') ∧ PWI p (a.put o.dst v) w
      else PWI p (a.put o.dst undef) w
  | .st false i p, a, w => opI P ops i (fun a' w' => S w' ∧ PWI p a' w') a w
  | .alt i p q, a, w => opI P ops i (fun a' w' => S w' ∧ PWI p a' w') a w ∧ PWI q a w
/-- In whatever order. -/
def AnyI : Nat → Array Bool → Act → World → Prop
  | 0, listed, a, w => Region.ready .any ops listed = [] ∧ K a w
  | f + 1, listed, a, w => (Region.ready .any ops listed = [] → K a w) ∧ ∀ i ∈ Region.ready .any ops listed, opI P ops i (fun a' w' => S w' ∧ AnyI f (listed.setIfInBounds i true) a' w') a w
end

section
variable {P : Program} {ops : Array Oper} {S : World → Prop} {K K' : Act → World → Prop}
theorem opI_mono {i : Nat} (hK : ∀ a w, K a w → K' a w) {a : Act} {w : World} (h : opI P ops i K a w) : opI P ops i K' a w := by
  unfold opI at *
  cases ho : ops[i]? with
  | none => rw [ho] at h; exact h
  | some o =>
    rw [ho] at h
    dsimp only at h ⊢
    by_cases hw : Region.wanted o (yielded ops a.tmps) = true
    · rw [if_pos hw] at h ⊢; exact upI_mono hK h
    · rw [if_neg hw] at h ⊢; exact hK _ _ h

def noDefer (ops : Array Oper) : Bool := ops.all fun o => match o.op with | .defer _ => false | _ => true
theorem noDefer_at {i : Nat} {o : Oper} (h : noDefer ops = true) (ho : ops[i]? = some o) : ∀ c, o.op ≠ .defer c := by
  intro c hc
  have := Array.all_eq_true_iff_forall_mem.1 h o (Array.mem_of_getElem? ho)
  rw [hc] at this
  exact absurd this (by simp)

theorem opI_in {ro : Option Nat} (hnd : noDefer ops = true) {i : Nat} {a : Act} {w : World} {Q : Exit → Act → World → Prop} (h : opI P ops i K a w) : wpOpIn (fw ro) 0 P ops Q i K a w := by
  unfold opI at h
  unfold wpOpIn
  split at h
  · exact h.elim
  · rename_i o ho
    rw [ho]
    dsimp only
    split at h
    · rename_i hw; rw [if_pos hw]; exact OpI.wpIn (noDefer_at hnd ho) h
    · rename_i hw; rw [if_neg hw]; exact ⟨fun _ _ => trivial, h⟩

theorem AnyI.in_ {ro : Option Nat} (hnd : noDefer ops = true) : ∀ (f : Nat) (listed : Array Bool) (a : Act) (w : World), AnyI P ops S K f listed a w → wpAnyIn (fw ro) 0 P .any ops (NoExitN K) f listed a w
  | 0, _, _, _, h => h
  | f + 1, _, _, _, h => ⟨h.1, fun i hi => opI_in hnd (opI_mono (fun _ _ h' => AnyI.in_ hnd f _ _ _ h'.2) (h.2 i hi))⟩

/-- What one operation does, another's value put in or not, if they are apart. -/
theorem opI_put {j : Nat} {oi oj : Oper} {v : Value} (hj : ops[j]? = some oj) (hap : oi.apart ops oj = true) (hsj : ∀ cs b, oj.op ≠ .select cs b) {a : Act} {w : World}
    (h : opI P ops j K (a.put oi.dst v) w) : opI P ops j (fun a' w' => (∃ u, a' = a.put oj.dst u) ∧ K (a'.put oi.dst v) w') a w := by
  obtain ⟨h1, h2, _⟩ := Oper.apart_spec hap
  unfold opI at *
  rw [hj] at *
  dsimp only at *
  rw [wanted_put oj a oi.dst v h1] at h
  split at h
  · rename_i hw
    rw [if_pos hw]
    unfold OpI at *
    rw [execOp_put oj hsj a oi.dst v h1] at h
    generalize (execOp a.eval oj).run P w = r at *
    have hc : ∀ u, (a.put oi.dst v).put oj.dst u = (a.put oj.dst u).put oi.dst v := fun u => Act.put_comm a v u h2
    cases r with
    | ok x w' =>
      cases x <;> simp only [upI] at h ⊢
      case value u => exact ⟨⟨u, rfl⟩, by rw [← hc]; exact h⟩
      case skip => exact ⟨⟨_, rfl⟩, by rw [← hc]; exact h⟩
      case enter => exact Calls.mono h (fun e w ⟨u, he, hk⟩ => ⟨u, he, ⟨u, rfl⟩, by rw [← hc]; exact hk⟩)
      case row => exact Rows.mono h (fun u w hk => ⟨⟨u, rfl⟩, by rw [← hc]; exact hk⟩)
      case round => exact RoundIn.mono h (fun e w ⟨u, he, hk⟩ => ⟨u, he, ⟨u, rfl⟩, by rw [← hc]; exact hk⟩)
    | halt x w' => simp only [upI] at h
  · rename_i hw
    rw [if_neg hw]
    exact ⟨⟨_, rfl⟩, by rw [← Act.put_comm a v undef h2]; exact h⟩

theorem AnyI.take {i : Nat} {oi : Oper} {v : Value} (hi : ops[i]? = some oi) (hs : Region.noSelect ops = true) : ∀ (f : Nat) (listed : Array Bool) (a : Act) (w : World),
    (∀ j oj, ops[j]? = some oj → j ≠ i → listed.getD j true = false → (∀ e ∈ oj.after, Region.binds .any e = true → e.on ≠ i) → oi.apart ops oj = true) →
    i ∈ Region.ready .any ops listed →
    ((Region.wanted oi (yielded ops a.tmps) = true ∧ ∀ w', S w' → (execOp a.eval oi).run P w' = .ok (.value v) w') ∨ (Region.wanted oi (yielded ops a.tmps) = false ∧ v = undef)) → S w →
    AnyI P ops S K f (listed.setIfInBounds i true) (a.put oi.dst v) w → AnyI P ops S K (f + 1) listed a w := by
  have own : ∀ {K : Act → World → Prop} {a : Act} {w : World},
      ((Region.wanted oi (yielded ops a.tmps) = true ∧ ∀ w', S w' → (execOp a.eval oi).run P w' = .ok (.value v) w') ∨ (Region.wanted oi (yielded ops a.tmps) = false ∧ v = undef)) → S w → K (a.put oi.dst v) w → opI P ops i K a w := by
    intro K a w hy hS hk
    unfold opI
    rw [hi]
    dsimp only
    rcases hy with ⟨hw, hv⟩ | ⟨hw, rfl⟩
    · rw [if_pos hw]; unfold OpI; rw [hv w hS]; exact hk
    · rw [if_neg (by simp [hw])]; exact hk
  intro f
  induction f with
  | zero =>
    intro listed a w _ hr hy hS H
    refine ⟨fun h0 => absurd (h0 ▸ hr) (by simp), fun j hj => ?_⟩
    by_cases e : j = i
    · subst e; exact own hy hS ⟨hS, H⟩
    · exact absurd (H.1 ▸ ready_mono (i := i) hj e) (by simp)
  | succ f ih =>
    intro listed a w hfree hr hy hS H
    refine ⟨fun h0 => absurd (h0 ▸ hr) (by simp), fun j hj => ?_⟩
    by_cases e : j = i
    · subst e; exact own hy hS ⟨hS, H⟩
    · obtain ⟨hu, oj, hoj, hall⟩ := mem_ready.1 hj
      have hno : ∀ e ∈ oj.after, Region.binds .any e = true → e.on ≠ i := fun e he hb heq => by
        have k1 := hall e he hb
        have k0 := (mem_ready.1 hr).1
        rw [heq] at k1
        by_cases hlt : i < listed.size
        · simp [hlt] at k0 k1; simp [k0] at k1
        · simp [Array.getElem?_eq_none (Nat.le_of_not_lt hlt)] at k1
      have hap := hfree j oj hoj e hu hno
      obtain ⟨_, _, h3⟩ := Oper.apart_spec hap
      refine opI_mono (fun a' w' hk => ?_) (opI_put hoj hap (fun cs b => Region.noSelect_spec hs j oj cs b hoj) (H.2 j (ready_mono hj e)))
      obtain ⟨⟨u, rfl⟩, hS', hk⟩ := hk
      refine ⟨hS', ih _ _ w' (fun k ok hk' hki hun hno' => hfree k ok hk' hki ?_ hno') (ready_mono hr (Ne.symm e)) ?_ hS' (by rw [Array.setIfInBounds_comm _ _ e]; exact hk)⟩
      · by_cases hjk : j = k
        · subst hjk; exact hu
        · rwa [getD_set_ne true hjk] at hun
      · rw [wanted_put oi a oj.dst u h3, execOp_put oi (fun cs b => Region.noSelect_spec hs i oi cs b hi) a oj.dst u h3]
        exact hy

theorem planI_sound (hs : Region.noSelect ops = true) : ∀ (p : Plan) (f : Nat) (listed : Array Bool) (rs : Option (List Nat)) (a : Act) (w : World), planOk ops p f listed rs = true → S w → PWI P ops S K p a w →
      (rs = none → AnyI P ops S K f listed a w) ∧
      (∀ l, rs = some l → ∃ g, f = g + 1 ∧ ∀ i ∈ l, opI P ops i (fun a' w' => S w' ∧ AnyI P ops S K g (listed.setIfInBounds i true) a' w') a w) := by
  intro p
  induction p with
  | done =>
    intro f listed rs a w hok hS h
    simp only [planOk, Bool.and_eq_true, List.isEmpty_iff, Option.isNone_iff_eq_none] at hok
    obtain ⟨h1, h2⟩ := hok
    subst h1
    refine ⟨fun _ => ?_, fun l hl => by cases hl⟩
    cases f with
    | zero => exact ⟨h2, h⟩
    | succ f => exact ⟨fun _ => h, by rw [h2]; simp⟩
  | st fl i p ih =>
    intro f listed rs a w hok hS h
    cases f with
    | zero => cases fl <;> simp [planOk] at hok
    | succ f =>
      cases fl with
      | true =>
        simp only [planOk, Bool.and_eq_true, Option.isNone_iff_eq_none] at hok
        obtain ⟨⟨⟨h1, h2⟩, h3⟩, h4⟩ := hok
        subst h1
        refine ⟨fun _ => ?_, fun l hl => by cases hl⟩
        unfold PWI at h
        split at h
        · exact h.elim
        · rename_i o ho
          split at h
          · rename_i hw
            obtain ⟨v, hv, hn⟩ := h
            exact AnyI.take ho hs f listed a w (Region.free_spec ho h3) (by simpa using h2) (.inl ⟨hw, hv⟩) hS ((ih f _ none _ w h4 hS hn).1 rfl)
          · rename_i hw
            exact AnyI.take ho hs f listed a w (Region.free_spec ho h3) (by simpa using h2) (.inr ⟨by simpa using hw, rfl⟩) hS ((ih f _ none _ w h4 hS h).1 rfl)
      | false =>
        simp only [planOk, Bool.and_eq_true, beq_iff_eq] at hok
        obtain ⟨h1, h2⟩ := hok
        have hk : opI P ops i (fun a' w' => S w' ∧ AnyI P ops S K f (listed.setIfInBounds i true) a' w') a w :=
          opI_mono (K := fun a' w' => S w' ∧ PWI P ops S K p a' w') (fun a' w' ⟨hS', h'⟩ => ⟨hS', (ih f _ none a' w' h2 hS' h').1 rfl⟩) (by unfold PWI at h; exact h)
        constructor
        · rintro rfl
          simp only [Option.getD_none] at h1
          exact ⟨fun h0 => absurd (h0.symm.trans h1) (by simp), fun j hj => by rw [h1] at hj; simp at hj; subst hj; exact hk⟩
        · rintro l rfl
          simp only [Option.getD_some] at h1
          subst h1
          exact ⟨f, rfl, fun j hj => by simp at hj; subst hj; exact hk⟩
  | alt i p q ihp ihq =>
    intro f listed rs a w hok hS h
    cases f with
    | zero => simp [planOk] at hok
    | succ f =>
      simp only [planOk, Bool.and_eq_true] at hok
      obtain ⟨h1, h2⟩ := hok
      unfold PWI at h
      obtain ⟨ha, hb⟩ := h
      have hk : opI P ops i (fun a' w' => S w' ∧ AnyI P ops S K f (listed.setIfInBounds i true) a' w') a w :=
        opI_mono (fun a' w' ⟨hS', h'⟩ => ⟨hS', (ihp f _ none a' w' h1 hS' h').1 rfl⟩) ha
      obtain ⟨f', ef, hq⟩ := (ihq (f + 1) listed _ a w h2 hS hb).2 _ rfl
      obtain rfl : f = f' := by omega
      have hall : ∀ j ∈ rs.getD (Region.ready .any ops listed), opI P ops j (fun a' w' => S w' ∧ AnyI P ops S K f (listed.setIfInBounds j true) a' w') a w := by
        intro j hj
        by_cases e : j = i
        · subst e; exact hk
        · exact hq j (by simp [hj, e])
      constructor
      · rintro rfl
        refine ⟨fun h0 => ?_, hall⟩
        exfalso
        simp only [Option.getD_none] at hq h2
        rw [h0] at h2
        have : ∀ (q : Plan) , planOk ops q (f + 1) listed (some []) = false := by
          intro q
          induction q with
          | done => simp [planOk]
          | st fl i p _ => cases fl <;> simp [planOk]
          | alt i p q _ ih => simp only [planOk, Option.getD_some, List.filter_nil, ih, Bool.and_false]
        simp [this] at h2
      · rintro l rfl
        exact ⟨f, rfl, hall⟩

theorem wpI_planned {ro : Option Nat} {id : Nat} {a : Act} {w : World} (p : Plan) (hm : P.follows .mixedOrders = true)
    (hok : (noDefer ops && (Region.noSelect ops && planOk ops p ops.size (Array.replicate ops.size false) none)) = true) (hS : S w.drew) (h : PWI P ops S K p a w.drew) : (Code.region id ops true).wpIn (fw ro) 0 P (NoExitN K) a w := by
  rw [Bool.and_eq_true, Bool.and_eq_true] at hok
  exact wpIn_region_any hm (AnyI.in_ hok.1 _ _ _ _ ((planI_sound hok.2.1 p _ _ none a w.drew hok.2.2 hS h).1 rfl))

theorem wpI_straight {ro : Option Nat} {id : Nat} {a : Act} {w : World} (hnd : noDefer ops = true) (h : PWI P ops S K (seqPlan 0 ops.size) a w) : (Code.region id ops false).wpIn (fw ro) 0 P (NoExitN K) a w := by
  have key : ∀ (k i : Nat) (a : Act) (w : World), PWI P ops S K (seqPlan i k) a w → wpOpsIn (fw ro) 0 P ops (NoExitN K) (List.range' i k) a w := by
    intro k
    induction k with
    | zero => intro i a w h; simpa [seqPlan, PWI, wpOpsIn, NoExitN] using h
    | succ k ih =>
      intro i a w h
      simp only [seqPlan, PWI] at h
      simp only [List.range'_succ]
      rw [wpOpsIn_cons]
      exact opI_in hnd (opI_mono (fun a' w' h' => ih _ a' w' h'.2) h)
  refine wpIn_region ?_
  rw [List.range_eq_range']
  exact key ops.size 0 a w h
end
end Go.Sx
