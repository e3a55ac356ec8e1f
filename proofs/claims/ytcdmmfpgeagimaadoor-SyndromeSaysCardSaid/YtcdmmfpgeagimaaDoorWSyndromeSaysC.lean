/- The walk of the statement SyndromeSays, text 3. Conditions: each theorem tells its own. -/
import Derived.Test.YtcdmmfpgeagimaaDoorWSyndromeSaysB
import Derived.Laws.CopyRow
import Derived.Laws.IdiomCopy
import Derived.Sort.Grow
import Derived.Shelf.Sort.Plain
import Derived.Test.YtcdmmfpgeagimaaDoorProg
import Derived.Test.YtcdmmfpgeagimaaDoorWSyndromeSaysA
import Derived.Laws.BytesArg
import Derived.Laws.Strings
section
/- Range over a function, part 2: code in whatever frame; marks among the deferred calls. No condition. -/
namespace Go.Sx
open Go

/-- The slots, and what is deferred. -/
structure EnvD (n : Nat) (ds : List Deferred) (l : List (Nat × Value)) (a : Act) : Prop where
  env : Env n l { a with defers := [] }
  defers : a.defers = ds

theorem EnvD.of {n : Nat} {ds : List Deferred} {l : List (Nat × Value)} {a : Act} (h : Env n l a) : EnvD n ds l { a with defers := ds } := ⟨⟨h.size, rfl, h.at_⟩, rfl⟩
theorem EnvD.sub {n : Nat} {ds : List Deferred} {l l' : List (Nat × Value)} {a : Act} (h : EnvD n ds l a) (hs : Sub l' l) : EnvD n ds l' a := ⟨h.env.sub hs, h.defers⟩
theorem eval_dropD (a : Act) : ({ a with defers := [] } : Act).eval = a.eval := by funext x; cases x <;> rfl
theorem EnvD.ev {n : Nat} {ds : List Deferred} {l : List (Nat × Value)} {a : Act} (h : EnvD n ds l a) {x : Operand} {v : Value} (hx : ev l x = some v) : a.eval x = v := by
  rw [← eval_dropD]; exact h.env.ev hx

structure SXI (P : Program) (ops : Array Oper) (S : World → Prop) (K : Act → World → Prop) (p : Plan) (n : Nat) (ds : List Deferred) (l : List (Nat × Value)) (C : World → Prop) : Prop where
  run : ∀ a w, EnvD n ds l a → C w → S w → PWI P ops S K p a w

section
variable {P : Program} {ops : Array Oper} {S : World → Prop} {K : Act → World → Prop} {p q : Plan} {n : Nat} {ds : List Deferred} {l : List (Nat × Value)} {C C' : World → Prop}

theorem SXI.done (h : ∀ a w, EnvD n ds l a → C w → K a w) : SXI P ops S K .done n ds l C := ⟨fun a w he hc _ => h a w he hc⟩

/-- A step of the plain walk. -/
theorem SXI.of1 {fl : Bool} {i : Nat} {X : Type} {l2 : X → List (Nat × Value)} {C2 : X → World → Prop} {pf : X → Prop}
    (h : ∀ K' : Act → World → Prop, (∀ x, pf x → ∀ a w, Env n (l2 x) a → C2 x w → K' a w) → SX P ops S K' (.st fl i .done) n l C)
    (hn : ∀ x, pf x → SXI P ops S K p n ds (l2 x) (C2 x)) : SXI P ops S K (.st fl i p) n ds l C := by
  refine ⟨fun a w he hc hs => ?_⟩
  have h1 := (h (fun a w => ∃ x, pf x ∧ Env n (l2 x) a ∧ C2 x w) (fun x hp a w h1 h2 => ⟨x, hp, h1, h2⟩)).run _ w he.env hc hs
  have key : ∀ a' w', S w' → (∃ x, pf x ∧ Env n (l2 x) a' ∧ C2 x w') → PWI P ops S K p { a' with defers := ds } w' := fun a' w' hS ⟨x, hp, h1, h2⟩ => (hn x hp).run _ w' (EnvD.of h1) h2 hS
  have hput : ∀ (o : Oper) v, { ({ a with defers := [] } : Act).put o.dst v with defers := ds } = a.put o.dst v := fun o v => by
    have := he.defers; subst this; cases o.dst <;> rfl
  cases fl with
  | true =>
    simp only [PW] at h1
    simp only [PWI]
    cases ho : ops[i]? with
    | none => rw [ho] at h1; exact h1.elim
    | some o =>
      rw [ho] at h1
      dsimp only at h1 ⊢
      by_cases hw : Region.wanted o (yielded ops a.tmps) = true
      · rw [if_pos hw] at h1 ⊢
        obtain ⟨v, hv, hk⟩ := h1
        rw [eval_dropD] at hv
        exact ⟨v, hv, by rw [← hput]; exact key _ _ hs hk⟩
      · rw [if_neg hw] at h1 ⊢
        rw [← hput]; exact key _ _ hs h1
  | false =>
    simp only [PW] at h1
    simp only [PWI, opI]
    cases ho : ops[i]? with
    | none => rw [ho] at h1; exact h1.elim
    | some o =>
      rw [ho] at h1
      dsimp only at h1 ⊢
      by_cases hw : Region.wanted o (yielded ops a.tmps) = true
      · rw [if_pos hw] at h1 ⊢
        exact OpI.of_wp ds h1 (fun a' w' ⟨hS, hk⟩ => ⟨by obtain ⟨x, _, h2, _⟩ := hk; exact h2.defers, hS, key _ _ hS hk⟩) he.defers
      · rw [if_neg hw] at h1 ⊢
        rw [← hput]; exact ⟨hs, key _ _ hs h1⟩
theorem SXI.of {fl : Bool} {i : Nat} {l2 : List (Nat × Value)} {C2 : World → Prop} (h : ∀ K' : Act → World → Prop, (∀ a w, Env n l2 a → C2 w → K' a w) → SX P ops S K' (.st fl i .done) n l C)
    (hn : SXI P ops S K p n ds l2 C2) : SXI P ops S K (.st fl i p) n ds l C :=
  SXI.of1 (X := Unit) (l2 := fun _ => l2) (C2 := fun _ => C2) (pf := fun _ => True) (fun K' hK => h K' (hK () trivial)) (fun _ _ => hn)

theorem SXI.alt {i : Nat} (h1 : SXI P ops S K (.st false i p) n ds l C) (h2 : SXI P ops S K q n ds l C) : SXI P ops S K (.alt i p q) n ds l C :=
  ⟨fun a w he hc hs => ⟨by have := h1.run a w he hc hs; unfold PWI at this; exact this, h2.run a w he hc hs⟩⟩
theorem SXI.weaken {l' : List (Nat × Value)} (hl : SubL l' l) (hC : ∀ w, C w → C' w) (h : SXI P ops S K p n ds l' C') : SXI P ops S K p n ds l C :=
  ⟨fun a w he hc hs => h.run a w (he.sub hl.sub) (hC w hc) hs⟩
theorem SXI.inC (h : ∀ w, C w → SXI P ops S K p n ds l C) : SXI P ops S K p n ds l C := ⟨fun a w he hc hs => (h w hc).run a w he hc hs⟩
theorem SXI.fact {F : Prop} (hF : ∀ w, C w → F) (h : F → SXI P ops S K p n ds l C) : SXI P ops S K p n ds l C := ⟨fun a w he hc hs => (h (hF w hc)).run a w he hc hs⟩
theorem SXI.bool (t : Nat) {b : Bool} (ht : lk t l = some (.bool b)) (h1 : b = true → SXI P ops S K p n ds (ins t (.bool true) l) C) (h2 : b = false → SXI P ops S K p n ds (ins t (.bool false) l) C) : SXI P ops S K p n ds l C := by
  refine ⟨fun a w he hc hs => ?_⟩
  have key : ∀ u, lk t l = some u → EnvD n ds (ins t u l) a := fun u hu => ⟨⟨he.env.size, rfl, fun s v hv => by
    rw [lk_ins] at hv
    by_cases e : s = t
    · subst e; simp at hv; subst hv; exact he.env.at_ _ _ hu
    · rw [if_neg e] at hv; exact he.env.at_ _ _ hv⟩, he.defers⟩
  cases b with
  | true => exact (h1 rfl).run a w (key _ ht) hc hs
  | false => exact (h2 rfl).run a w (key _ ht) hc hs

/-- An operation that calls yield. -/
theorem SXI.yield {i : Nat} {d : Option Nat} {op : Op} {ty : TypeId} {X : Type} {v : X → Value} {pf : X → Prop} {C' : X → World → Prop} (ho : opAt ops n l i = some (d, op, ty))
    (hrun : ∀ a w (o : Oper), Env n l a → C w → o.op = op → o.type = ty → ∃ lr fn tmps assign body w', (execOp a.eval o).run P w = .ok (.round lr fn tmps assign body) w' ∧
      RoundIn Fence.wide 0 P lr fn tmps assign body w' (fun e w'' => ∃ x, e = .returned (v x) ∧ pf x ∧ C' x w''))
    (hS : ∀ x w, C' x w → S w)
    (h : ∀ x, pf x → SXI P ops S K p n ds (insO d (v x) l) (C' x)) : SXI P ops S K (.st false i p) n ds l C := by
  refine ⟨fun a w he hc _ => ?_⟩
  unfold opAt at ho
  split at ho
  · rename_i o hoi
    by_cases hb : (wantB ops l o.guard && okD n o.dst) = true
    · rw [hb] at ho
      simp only [cond_true, Option.some.injEq, Prod.mk.injEq] at ho
      obtain ⟨rfl, rfl, rfl⟩ := ho
      rw [Bool.and_eq_true] at hb
      obtain ⟨lr, fn, tmps, assign, body, w', hr, hR⟩ := hrun _ w o he.env hc rfl rfl
      rw [eval_dropD] at hr
      have hw : Region.wanted o (yielded ops a.tmps) = true := wanted_of he.env hb.1
      simp only [PWI, opI, hoi, hw, if_true, OpI, hr, upI]
      refine RoundIn.mono hR ?_
      rintro e w'' ⟨x, rfl, hp, hC⟩
      refine ⟨_, rfl, hS x w'' hC, (h x hp).run _ w'' ?_ hC (hS x w'' hC)⟩
      have h2 := he.env.putO hb.2 (v x)
      have h3 : a.put o.dst (v x) = { ({ a with defers := [] } : Act).put o.dst (v x) with defers := ds } := by have := he.defers; subst this; cases o.dst <;> rfl
      rw [h3]; exact EnvD.of h2
    · have : (wantB ops l o.guard && okD n o.dst) = false := by simpa using hb
      rw [this] at ho
      cases ho
  · cases ho
end

/-! ### Code -/
def KtI (P : Program) (ro : Option Nat) (Rx : Exit → Act → World → Prop) : List KI → Exit → Act → World → Prop
  | [] => Rx
  | .code y :: k => fun e a w => match e with
    | .normal => y.wpIn (fw ro) 0 P (KtI P ro Rx k) a w
    | e => KtI P ro Rx k e a w
  | .blk id :: k => fun e a w => match e with
    | .exit id' => if id' = id then KtI P ro Rx k .normal a w else KtI P ro Rx k (.exit id') a w
    | e => KtI P ro Rx k e a w
  | .lp I :: k => fun e a w => match e with
    | .normal => I a w
    | e => KtI P ro Rx k e a w

section
variable {P : Program} {ro : Option Nat} {Rx : Exit → Act → World → Prop}
theorem KtI_ret : ∀ (k : List KI) {a : Act} {w : World}, Rx .ret a w → KtI P ro Rx k .ret a w
  | [], _, _, h => h
  | .code _ :: k, _, _, h => KtI_ret k h
  | .blk _ :: k, _, _, h => KtI_ret k h
  | .lp _ :: k, _, _, h => KtI_ret k h
theorem KtI_exit {id : Nat} : ∀ {k k' : List KI} {a : Act} {w : World}, popTo id k = some k' → KtI P ro Rx k' .normal a w → KtI P ro Rx k (.exit id) a w
  | [], _, _, _, h, _ => by simp [popTo] at h
  | .blk i :: k, k', a, w, h, hk => by
    unfold popTo at h
    simp only [KtI]
    by_cases e : i = id
    · subst e
      simp at h
      subst h
      simpa using hk
    · have h1 : Nat.beq i id = false := beq_ne e
      rw [h1] at h
      rw [if_neg (Ne.symm e)]
      exact KtI_exit (k := k) h hk
  | .code _ :: k, _, _, _, h, hk => KtI_exit (k := k) h hk
  | .lp _ :: k, _, _, _, h, hk => KtI_exit (k := k) h hk
/-- An exit that nothing in the frame catches. -/
theorem KtI_out {id : Nat} : ∀ {k : List KI} {a : Act} {w : World}, popTo id k = none → Rx (.exit id) a w → KtI P ro Rx k (.exit id) a w
  | [], _, _, _, h => h
  | .blk i :: k, a, w, h, hk => by
    unfold popTo at h
    simp only [KtI]
    by_cases e : i = id
    · subst e; simp at h
    · have h1 : Nat.beq i id = false := beq_ne e
      rw [h1] at h
      rw [if_neg (Ne.symm e)]
      exact KtI_out (k := k) h hk
  | .code _ :: k, _, _, h, hk => KtI_out (k := k) h hk
  | .lp _ :: k, _, _, h, hk => KtI_out (k := k) h hk
end

structure CWI (P : Program) (ro : Option Nat) (Rx : Exit → Act → World → Prop) (k : List KI) (c : Code) (n : Nat) (ds : List Deferred) (l : List (Nat × Value)) (C : World → Prop) : Prop where
  run : ∀ a w, EnvD n ds l a → C w → c.wpIn (fw ro) 0 P (KtI P ro Rx k) a w
structure KNI (P : Program) (ro : Option Nat) (Rx : Exit → Act → World → Prop) (k : List KI) (n : Nat) (ds : List Deferred) (l : List (Nat × Value)) (C : World → Prop) : Prop where
  run : ∀ a w, EnvD n ds l a → C w → KtI P ro Rx k .normal a w

section
variable {P : Program} {ro : Option Nat} {Rx : Exit → Act → World → Prop} {k : List KI} {n : Nat} {ds : List Deferred} {l l' : List (Nat × Value)} {C C' : World → Prop} {c x y : Code}

theorem CWI.seq (h : CWI P ro Rx (.code y :: k) x n ds l C) : CWI P ro Rx k (.seq x y) n ds l C :=
  ⟨fun a w he hc => wpIn_seq (wpIn_mono (h.run a w he hc) (fun e a w hk => by cases e <;> exact hk))⟩
theorem CWI.block {id : Nat} (h : CWI P ro Rx (.blk id :: k) c n ds l C) : CWI P ro Rx k (.block id c) n ds l C :=
  ⟨fun a w he hc => wpIn_block (wpIn_mono (h.run a w he hc) (fun e a w hk => by cases e <;> exact hk))⟩
theorem CWI.skip (h : KNI P ro Rx k n ds l C) : CWI P ro Rx k .skip n ds l C := ⟨fun a w he hc => wpIn_skip (h.run a w he hc)⟩
theorem CWI.label {i : Nat} (h : KNI P ro Rx k n ds l C) : CWI P ro Rx k (.label i) n ds l C := ⟨fun a w he hc => wpIn_label (h.run a w he hc)⟩
theorem CWI.ret (h : ∀ a w, EnvD n ds l a → C w → Rx .ret a w) : CWI P ro Rx k .ret n ds l C := ⟨fun a w he hc => wpIn_ret (KtI_ret k (h a w he hc))⟩
theorem CWI.exit {id : Nat} {k' : List KI} (hp : popTo id k = some k') (h : KNI P ro Rx k' n ds l C) : CWI P ro Rx k (.exit id) n ds l C :=
  ⟨fun a w he hc => wpIn_exit (KtI_exit hp (h.run a w he hc))⟩
theorem CWI.out {id : Nat} (hp : popTo id k = none) (h : ∀ a w, EnvD n ds l a → C w → Rx (.exit id) a w) : CWI P ro Rx k (.exit id) n ds l C :=
  ⟨fun a w he hc => wpIn_exit (KtI_out hp (h a w he hc))⟩
theorem CWI.cond {o : Operand} {b : Bool} (ho : ev l o = some (.bool b)) (h1 : b = true → CWI P ro Rx k x n ds l C) (h2 : b = false → CWI P ro Rx k y n ds l C) : CWI P ro Rx k (.cond o x y) n ds l C :=
  ⟨fun a w he hc => wpIn_cond_split (he.ev ho) (fun e => (h1 e).run a w he hc) (fun e => (h2 e).run a w he hc)⟩
theorem CWI.condT {o : Operand} (ho : ev l o = some (.bool true)) (h1 : CWI P ro Rx k x n ds l C) : CWI P ro Rx k (.cond o x y) n ds l C :=
  CWI.cond ho (fun _ => h1) (fun e => by cases e)
theorem CWI.condF {o : Operand} (ho : ev l o = some (.bool false)) (h1 : CWI P ro Rx k y n ds l C) : CWI P ro Rx k (.cond o x y) n ds l C :=
  CWI.cond ho (fun e => by cases e) (fun _ => h1)
theorem CWI.test {o : Operand} {p : Prop} [Decidable p] (ho : ev l o = some (.bool (decide p))) (h1 : p → CWI P ro Rx k x n ds l C) (h2 : ¬ p → CWI P ro Rx k y n ds l C) : CWI P ro Rx k (.cond o x y) n ds l C :=
  CWI.cond ho (fun e => h1 (of_decide_eq_true e)) (fun e => h2 (of_decide_eq_false e))
theorem CWI.weaken (l' : List (Nat × Value)) (C' : World → Prop) (hl : SubL l' l) (hC : ∀ w, C w → C' w) (h : CWI P ro Rx k c n ds l' C') : CWI P ro Rx k c n ds l C :=
  ⟨fun a w he hc => h.run a w (he.sub hl.sub) (hC w hc)⟩
theorem CWI.fact {F : Prop} (hF : ∀ w, C w → F) (h : F → CWI P ro Rx k c n ds l C) : CWI P ro Rx k c n ds l C := ⟨fun a w he hc => (h (hF w hc)).run a w he hc⟩
theorem CWI.pre (hC : ∀ w, C w → C' w) (h : CWI P ro Rx k c n ds l C') : CWI P ro Rx k c n ds l C := ⟨fun a w he hc => h.run a w he (hC w hc)⟩
theorem CWI.ex {X : Type} {C' : X → World → Prop} (hC : ∀ w, C w → ∃ x, C' x w) (h : ∀ x, CWI P ro Rx k c n ds l (C' x)) : CWI P ro Rx k c n ds l C :=
  ⟨fun _ w he hc => let ⟨x, hx⟩ := hC w hc; (h x).run _ w he hx⟩

theorem KNI.code (h : CWI P ro Rx k y n ds l C) : KNI P ro Rx (.code y :: k) n ds l C := ⟨fun a w he hc => h.run a w he hc⟩
theorem KNI.blk {id : Nat} (h : KNI P ro Rx k n ds l C) : KNI P ro Rx (.blk id :: k) n ds l C := ⟨fun a w he hc => h.run a w he hc⟩
theorem KNI.weaken (l' : List (Nat × Value)) (C' : World → Prop) (hl : SubL l' l) (hC : ∀ w, C w → C' w) (h : KNI P ro Rx k n ds l' C') : KNI P ro Rx k n ds l C :=
  ⟨fun a w he hc => h.run a w (he.sub hl.sub) (hC w hc)⟩
theorem KNI.fact {F : Prop} (hF : ∀ w, C w → F) (h : F → KNI P ro Rx k n ds l C) : KNI P ro Rx k n ds l C := ⟨fun a w he hc => (h (hF w hc)).run a w he hc⟩

/-- A loop: 'G': the states of the rounds. -/
theorem wpI_loop_ghost {G : Type} {Q : Exit → Act → World → Prop} (I : G → Act → World → Prop) (μ : G → Nat)
    (round : ∀ g a w, I g a w → c.wpIn (fw ro) 0 P (Exit.then (fun a' w' => ∃ g', I g' a' w' ∧ μ g' < μ g) Q) a w) (g₀ : G) {a : Act} {w : World} (h₀ : I g₀ a w) : (Code.loop c).wpIn (fw ro) 0 P Q a w := by
  classical
  have ex : ∀ a w, (∃ g, I g a w) → ∃ m, (∃ g, I g a w ∧ μ g = m) ∧ ∀ g, I g a w → m ≤ μ g := by
    intro a w ⟨g, hg⟩
    have key : ∀ (m : Nat) (g : G), μ g = m → I g a w → ∃ m, (∃ g, I g a w ∧ μ g = m) ∧ ∀ g, I g a w → m ≤ μ g := by
      intro m
      induction m using Nat.strongRecOn with
      | _ m ih =>
        intro g hm hI
        by_cases h : ∃ g', I g' a w ∧ μ g' < m
        · obtain ⟨g', h1, h2⟩ := h
          exact ih _ h2 g' rfl h1
        · exact ⟨m, ⟨g, hI, hm⟩, fun g' hg' => Nat.le_of_not_lt (fun hlt => h ⟨g', hg', hlt⟩)⟩
    exact key _ g rfl hg
  let ν : Act → World → Nat := fun a w => if h : ∃ g, I g a w then Classical.choose (ex a w h) else 0
  have hν : ∀ a w (h : ∃ g, I g a w), (∃ g, I g a w ∧ μ g = ν a w) ∧ ∀ g, I g a w → ν a w ≤ μ g := fun a w h => by
    simp only [ν, dif_pos h]; exact Classical.choose_spec (ex a w h)
  refine wpIn_loop (fun a w => ∃ g, I g a w) ν ⟨g₀, h₀⟩ (fun a w hI => ?_)
  obtain ⟨⟨g, hg, hm⟩, _⟩ := hν a w hI
  refine wpIn_mono (round g a w hg) (fun e a' w' hq => ?_)
  cases e <;> first | exact hq | (obtain ⟨g', h1, h2⟩ := hq; exact ⟨⟨g', h1⟩, Nat.lt_of_le_of_lt ((hν a' w' ⟨g', h1⟩).2 g' h1) (hm ▸ h2)⟩)

structure BackI {G : Type} (n : Nat) (df : G → List Deferred) (lf : G → List (Nat × Value)) (Cf : G → World → Prop) (pf : G → Prop) (μ : G → Nat) (m : Nat) (a : Act) (w : World) : Prop where
  back : ∃ g', (EnvD n (df g') (lf g') a ∧ Cf g' w ∧ pf g') ∧ μ g' < m

theorem CWI.loop {G : Type} (df : G → List Deferred) (lf : G → List (Nat × Value)) (Cf : G → World → Prop) (pf : G → Prop) (μ : G → Nat) (g₀ : G) (hd : df g₀ = ds) (hl : SubL (lf g₀) l) (hC : ∀ w, C w → Cf g₀ w) (hp : pf g₀)
    (hr : ∀ g, pf g → CWI P ro Rx (.lp (BackI n df lf Cf pf μ (μ g)) :: k) c n (df g) (lf g) (Cf g)) : CWI P ro Rx k (.loop c) n ds l C := by
  refine ⟨fun a w he hc => ?_⟩
  refine wpI_loop_ghost (fun g a w => EnvD n (df g) (lf g) a ∧ Cf g w ∧ pf g) μ (fun g a w hg => ?_) g₀ ⟨hd ▸ he.sub hl.sub, hC w hc, hp⟩
  exact wpIn_mono ((hr g hg.2.2).run a w hg.1 hg.2.1) (fun e a' w' hk => by cases e <;> first | exact hk | exact hk.back)
theorem KNI.back {G : Type} {df : G → List Deferred} {lf : G → List (Nat × Value)} {Cf : G → World → Prop} {pf : G → Prop} {μ : G → Nat} {m : Nat} (g' : G) (hd : df g' = ds) (hl : SubL (lf g') l) (hC : ∀ w, C w → Cf g' w) (hp : pf g') (hm : μ g' < m) :
    KNI P ro Rx (.lp (BackI n df lf Cf pf μ m) :: k) n ds l C := ⟨fun _ w he hc => ⟨g', ⟨hd ▸ he.sub hl.sub, hC w hc, hp⟩, hm⟩⟩

structure JoinI {G : Type} (n : Nat) (ds : List Deferred) (lf : G → List (Nat × Value)) (Cf : G → World → Prop) (pf : G → Prop) (a : Act) (w : World) : Prop where
  join : ∃ g, EnvD n ds (lf g) a ∧ Cf g w ∧ pf g
theorem CWI.cut {G : Type} (lf : G → List (Nat × Value)) (Cf : G → World → Prop) (pf : G → Prop) (hx : CWI P ro Rx (.lp (JoinI n ds lf Cf pf) :: k) x n ds l C) (hy : ∀ g, pf g → CWI P ro Rx k y n ds (lf g) (Cf g)) : CWI P ro Rx k (.seq x y) n ds l C :=
  ⟨fun a w he hc => wpIn_seq (wpIn_mono (hx.run a w he hc) (fun e a w hk => by
    cases e <;> first | exact hk | (obtain ⟨g, h1, h2, h3⟩ := hk.join; exact (hy g h3).run a w h1 h2)))⟩
theorem KNI.join {G : Type} {lf : G → List (Nat × Value)} {Cf : G → World → Prop} {pf : G → Prop} (g : G) (hl : SubL (lf g) l) (hC : ∀ w, C w → Cf g w) (hp : pf g) : KNI P ro Rx (.lp (JoinI n ds lf Cf pf) :: k) n ds l C :=
  ⟨fun _ w he hc => ⟨g, he.sub hl.sub, hC w hc, hp⟩⟩

theorem CWI.reg {id : Nat} {ops : Array Oper} (is : List Nat) (hi : sp is = seqPlan 0 ops.size) (hnd : noDefer ops = true) (h : SXI P ops (fun _ => True) (KtI P ro Rx k .normal) (sp is) n ds l C) : CWI P ro Rx k (.region id ops false) n ds l C :=
  ⟨fun a w he hc => wpIn_mono (wpI_straight hnd (by rw [← hi]; exact h.run a w he hc trivial)) (fun e a w hk => by cases e <;> first | exact hk | exact hk.elim)⟩
theorem CWI.regD {id : Nat} {ops : Array Oper} (p : Plan) (S : World → Prop) (hm : P.follows .mixedOrders = true) (hok : (noDefer ops && (Region.noSelect ops && planOk ops p ops.size (Array.replicate ops.size false) none)) = true)
    (hd : ∀ w, C w → C w.drew) (hS : ∀ w, C w → S w) (h : SXI P ops S (KtI P ro Rx k .normal) p n ds l C) : CWI P ro Rx k (.region id ops true) n ds l C :=
  ⟨fun a w he hc => wpIn_mono (wpI_planned p hm hok (hS _ (hd w hc)) (h.run a w.drew he (hd w hc) (hS _ (hd w hc)))) (fun e a w hk => by cases e <;> first | exact hk | exact hk.elim)⟩
theorem SXI.end_ {ops : Array Oper} {S : World → Prop} (h : KNI P ro Rx k n ds l C) : SXI P ops S (KtI P ro Rx k .normal) .done n ds l C := SXI.done h.run
theorem SXI.next {ops : Array Oper} {S : World → Prop} (h : CWI P ro Rx k y n ds l C) : SXI P ops S (KtI P ro Rx (.code y :: k) .normal) .done n ds l C := SXI.done h.run

end
end Go.Sx
end
section
/- Range over a function, part 3: the statement, yield, the return; memory in parts. No condition. -/
namespace Go.Sx
open Go

/-! ### Parts -/
def objB (g : Nat) (o : Obj) : Atom where
  ok w D := (∀ k, D k ↔ k = g) ∧ w.heap[g]? = some o
  loc := fun ⟨h1, h2⟩ hb => ⟨h1, (hb _ ((h1 _).2 rfl)).trans h2⟩
def exA {G : Type} (f : G → Atom) : Atom where
  ok w D := ∃ g, (f g).ok w D
  loc := fun ⟨g, h⟩ hb => ⟨g, (f g).loc h hb⟩
def starOk : List Atom → World → (Nat → Prop) → Prop
  | [], _, D => ∀ k, ¬ D k
  | A :: L, w, D => ∃ D1 D2 : Nat → Prop, A.ok w D1 ∧ starOk L w D2 ∧ (∀ k, D k ↔ D1 k ∨ D2 k) ∧ ∀ k, D1 k → ¬ D2 k
theorem starOk_loc : ∀ (L : List Atom) {w w' : World} {D : Nat → Prop}, starOk L w D → (∀ k, D k → w'.heap[k]? = w.heap[k]?) → starOk L w' D
  | [], _, _, _, h, _ => h
  | A :: L, _, _, _, ⟨D1, D2, h1, h2, h3, h4⟩, hb => ⟨D1, D2, A.loc h1 (fun k hk => hb k ((h3 k).2 (.inl hk))), starOk_loc L h2 (fun k hk => hb k ((h3 k).2 (.inr hk))), h3, h4⟩
def starA (L : List Atom) : Atom where
  ok w D := starOk L w D
  loc := fun h hb => starOk_loc L h hb

section
variable {F : Nat → Prop} {w₀ w : World} {L L' X Y Z : List Atom}
theorem Sep.star : ∀ (X : List Atom) {F : Nat → Prop}, Sep F (X ++ L) w ↔ Sep F (starA X :: L) w
  | [], F => ⟨fun h => ⟨fun _ => False, fun _ => id, fun _ hk => hk.elim, h.weak (fun k hk => hk.resolve_right id)⟩, fun ⟨D, h1, _, h3⟩ => Sep.weak h3 (fun _ => .inl)⟩
  | A :: X, F => by
    constructor
    · rintro ⟨D1, h1, h2, h3⟩
      obtain ⟨D2, k1, k2, k3⟩ := (Sep.star X).1 h3
      refine ⟨fun k => D1 k ∨ D2 k, ⟨D1, D2, h1, k1, fun _ => Iff.rfl, fun k hk hk' => (k2 k hk').1 (.inr hk)⟩, ?_, k3.weak ?_⟩
      · rintro k (hk | hk)
        · exact h2 k hk
        · exact ⟨fun hf => (k2 k hk).1 (.inl hf), (k2 k hk).2⟩
      · rintro k (hk | hk | hk)
        · exact .inl (.inl hk)
        · exact .inl (.inr hk)
        · exact .inr hk
    · rintro ⟨D, ⟨D1, D2, h1, h2, h3, h4⟩, k2, k3⟩
      refine ⟨D1, h1, fun k hk => k2 k ((h3 k).2 (.inl hk)), (Sep.star X).2 ⟨D2, h2, fun k hk => ⟨?_, (k2 k ((h3 k).2 (.inr hk))).2⟩, k3.weak ?_⟩⟩
      · rintro (hf | hf)
        · exact (k2 k ((h3 k).2 (.inr hk))).1 hf
        · exact h4 k hf hk
      · rintro k ((hk | hk) | hk)
        · exact .inl hk
        · exact .inr ((h3 k).2 (.inl hk))
        · exact .inr ((h3 k).2 (.inr hk))
theorem Sep.congr {A : Atom} (h : ∀ F : Nat → Prop, Sep F L w ↔ Sep F L' w) : Sep F (A :: L) w ↔ Sep F (A :: L') w :=
  ⟨fun ⟨D, h1, h2, h3⟩ => ⟨D, h1, h2, (h _).1 h3⟩, fun ⟨D, h1, h2, h3⟩ => ⟨D, h1, h2, (h _).2 h3⟩⟩
theorem Sep.star3 : Sep F (X ++ (Y ++ Z)) w ↔ Sep F [starA X, starA Y, starA Z] w :=
  (Sep.star X).trans (Sep.congr fun _ => (Sep.star Y).trans (Sep.congr fun _ => by have := Sep.star (L := []) (w := w) Z (F := ‹_›); rwa [List.append_nil] at this))
theorem Sep.perm (h : L.Perm L') : ∀ {F : Nat → Prop}, Sep F L w → Sep F L' w := by
  induction h with
  | nil => exact id
  | cons A _ ih => exact fun ⟨D, h1, h2, h3⟩ => ⟨D, h1, h2, ih h3⟩
  | swap A B _ => exact fun h => h.swap
  | trans _ _ ih1 ih2 => exact fun h => ih2 (ih1 h)
theorem St.sep' (h : St F w₀ L w) (h2 : Sep F L w → Sep F L' w) : St F w₀ L' w := ⟨h.fr, h.lt, h2 h.sep⟩
theorem St.perm (hp : L.Perm L') (h : St F w₀ L w) : St F w₀ L' w := h.sep' (Sep.perm hp)
theorem St.star (X : List Atom) : St F w₀ (X ++ L) w ↔ St F w₀ (starA X :: L) w := ⟨fun h => h.sep' (Sep.star X).1, fun h => h.sep' (Sep.star X).2⟩
theorem St.star3 : St F w₀ (X ++ (Y ++ Z)) w ↔ St F w₀ [starA X, starA Y, starA Z] w := ⟨fun h => h.sep' Sep.star3.1, fun h => h.sep' Sep.star3.2⟩
theorem St.starLast : St F w₀ (X ++ Y) w ↔ St F w₀ (X ++ [starA Y]) w := by
  have key : ∀ (X : List Atom) (F : Nat → Prop), Sep F (X ++ Y) w ↔ Sep F (X ++ [starA Y]) w := by
    intro X
    induction X with
    | nil => intro F; have := Sep.star (L := []) (w := w) Y (F := F); rwa [List.append_nil] at this
    | cons A X ih => intro F; exact Sep.congr ih
  exact ⟨fun h => h.sep' (key X F).1, fun h => h.sep' (key X F).2⟩
theorem St.exA {G : Type} {f : G → Atom} : St F w₀ (exA f :: L) w ↔ ∃ g, St F w₀ (f g :: L) w :=
  ⟨fun h => let ⟨D, ⟨g, h1⟩, h2, h3⟩ := h.sep; ⟨g, h.fr, h.lt, D, h1, h2, h3⟩, fun ⟨g, h⟩ => let ⟨D, h1, h2, h3⟩ := h.sep; ⟨h.fr, h.lt, D, ⟨g, h1⟩, h2, h3⟩⟩
theorem St.putO {g : Nat} {o : Obj} (o' : Obj) (h : St F w₀ (objB g o :: L) w) : St F w₀ (objB g o' :: L) (w.putObj g o') := by
  obtain ⟨D, ⟨h1, h2⟩, h3, h4⟩ := h.work (i := 0) rfl
  have hlt := (Array.getElem?_eq_some_iff.1 h2).1
  have := h4 (w.putObj g o') (objB g o') D ⟨rfl, rfl, rfl, by simp, fun k hk => World.putObj_heap_other (fun e => hk.2 ((h1 k).2 e))⟩ ⟨h1, World.putObj_heap_same hlt⟩ (fun k hk => ⟨.inl hk, by simp; exact h3 k hk⟩)
  exact this
end

/-! ### Contracts -/
/-- What a call of yield does, of round i: the consumer's part turns from J i to J (i + 1), and it says true; or to Jx (i + 1), and it says false. -/
def YieldOK (P : Program) (w₀ : World) (lr : Nat) (vals : Nat → List Value) (N : Nat) (J Jx : Nat → Atom) : Prop :=
  ∀ i, i < N → ∀ A w, Sto w₀ (J i :: A) w → ∃ fn tmps assign body, (Instr.yield lr (vals i).toArray).run P w = .ok (.round lr fn tmps assign body) w ∧
    RoundIn Fence.wide 0 P lr fn tmps assign body w (fun e w' => ∃ b : Bool, e = .returned (.bool b) ∧ Sto w₀ ((if b then J (i + 1) else Jx (i + 1)) :: A) w')
/-- An iterator that tells 'vals', N of them, and keeps its part. -/
def IterC (P : Program) (w₀ : World) (gf : FuncId) (lb : List Value) (B : List Atom) (vals : Nat → List Value) (N : Nat) : Prop :=
  ∀ (lr : Nat) (J Jx : Nat → Atom) (R : Atom) (w : World), YieldOK P w₀ lr vals N J Jx → Sto w₀ (J 0 :: (B ++ [R])) w →
    Calls P gf (.func (.yield lr) #[] #[] :: lb).toArray w (fun e w' => ∃ v, e = .returned v ∧ (Sto w₀ (J N :: (B ++ [R])) w' ∨ ∃ i, i < N ∧ Sto w₀ (Jx (i + 1) :: (B ++ [R])) w'))

section
variable {P : Program} {ops : Array Oper} {S : World → Prop} {K : Act → World → Prop} {p : Plan} {n : Nat} {ds : List Deferred} {l : List (Nat × Value)} {i : Nat} {ty : TypeId} {x : Operand} {w₀ : World} {A : List Atom}
end

def insAll (l : List (Nat × Value)) (ps : List (Nat × Value)) : List (Nat × Value) := ps.foldl (fun l pv => ins pv.1 pv.2 l) l
theorem Env.insAll {n : Nat} : ∀ (ps : List (Nat × Value)) {l : List (Nat × Value)} {a : Act}, Env n l a → (∀ pv ∈ ps, pv.1 < n) → Env n (insAll l ps) { a with tmps := ps.foldl (fun t (pv : Nat × Value) => t.setIfInBounds pv.1 pv.2) a.tmps }
  | [], _, _, h, _ => h
  | pv :: ps, l, a, h, hp => by
    have := Env.insAll ps (h.put (hp pv (by simp)) pv.2) (fun q hq => hp q (by simp [hq]))
    exact this

abbrev mark (D : Nat) : Deferred := { target := .collected D, args := #[] }
abbrev defB (D : Nat) : Atom := objB D (.deferred (some []))

/-- How a round's body may be left. -/
def RPost {G GX : Type} (w₀ : World) (T : Atom) (LJ : Nat → G → List Atom) (pJ : Nat → G → Prop) (LX : Nat → GX → List Atom) (pX : Nat → GX → Prop) (jx : GX → Code) (i : Nat) : Exit → Act → World → Prop
  | .normal, _, w => ∃ g, pJ i g ∧ Sto w₀ (LJ i g ++ [T]) w
  | .ret, _, w => ∃ g, pX i g ∧ jx g = .ret ∧ Sto w₀ (LX i g ++ [T]) w
  | .exit id, _, w => ∃ g, pX i g ∧ jx g = .exit id ∧ Sto w₀ (LX i g ++ [T]) w
  | _, _, _ => False

section
variable {P : Program} {Rx : Exit → Act → World → Prop} {k : List KI} {n : Nat} {ds : List Deferred} {l : List (Nat × Value)} {w₀ : World} {A : List Atom}

end
end Go.Sx
end
section
/- copy into a block of the walk's own, from anywhere, from the block itself too; parts of memory under a name. No condition. -/
namespace Go.Sx
open Go
section
variable {P : Program} {ops : Array Oper} {S : World → Prop} {K : Act → World → Prop} {p : Plan} {n : Nat} {l : List (Nat × Value)} {i : Nat} {ty : TypeId} {x y : Operand} {F : Nat → Prop} {w₀ : World} {L : List Atom}
theorem St.blkAll {q g : Nat} {T : TypeId} {cs : Array Value} (hi : L[q]? = some (blk g T cs)) (cs2 : Array Value) {w : World} (h : St F w₀ L w) : St F w₀ (L.set q (blk g T cs2)) (w.setRow g cs2) := by
  obtain ⟨D, ⟨h1, h2⟩, h3, h4⟩ := h.work hi
  refine h4 _ _ D ⟨rfl, rfl, rfl, by simp [World.setRow], fun k hk => setRow_other w g k cs2 (fun e => hk.2 ((h1 k).2 e))⟩ ⟨h1, setRow_heap w g _ _ T _ h2⟩ (fun k hk => ⟨.inl hk, by simp [World.setRow]; exact h3 k hk⟩)
/-- copy(dst, src): dst lies in a block of the walk's own from place off on. -/
theorem s_copyB {d : Option Nat} (q : Nat) {g off E by_ E2 by2 dn dc m2 c2 : Nat} {zv zv2 : Value} {D B : Option Addr} {cur : Array Value} {ys : List Value} {T T2 : TypeId} (hi : L[q]? = some (blk g E cur))
    (ho : opAt ops n l i = some (d, .call ⟨.builtin .copy, #[x, y], #[T, T2]⟩, ty)) [hT : SlT P T E 1 by_ zv] [_hT2 : SlT P T2 E2 1 by2 zv2] (hx : ev l x = some (.slice D dn dc)) (hy : ev l y = some (.slice B m2 c2))
    (hD : dn ≠ 0 → D = some ⟨g, off, none⟩) (hv : ∀ w, St F w₀ L w → Has (sl 1 B m2 ys) w) (h1 : ys.all (·.oneCell') = true) (hfit : off + dn ≤ cur.size)
    (hS : ∀ w, St F w₀ (L.set q (blk g E (cur.toList.take off ++ ys.take (min m2 dn) ++ cur.toList.drop (off + min m2 dn)).toArray)) w → S w)
    (h : SX P ops S K p n (insO d (.int .i64 (min m2 dn : Nat)) l) (St F w₀ (L.set q (blk g E (cur.toList.take off ++ ys.take (min m2 dn) ++ cur.toList.drop (off + min m2 dn)).toArray)))) : SX P ops S K (.st false i p) n l (St F w₀ L) := by
  obtain ⟨inf, hi1, hs, hby, hzz⟩ := hT.info
  refine SX.act (d := d) (X := Unit) (v := fun _ => .int .i64 (min m2 dn : Nat)) (C' := fun _ => St F w₀ (L.set q (blk g E (cur.toList.take off ++ ys.take (min m2 dn) ++ cur.toList.drop (off + min m2 dn)).toArray))) ho (fun a w o he hw ho1 ho2 => ?_) (fun _ w hw => hS w hw) (fun _ => h)
  have hex : ∀ (v : Value) (w' : World), (Builtin.copy_ #[T, T2] ty #[.slice D dn dc, .slice B m2 c2]).run P w = .ok v w' → (execOp a.eval o).run P w = .ok (.value v) w' := fun v w' hr => by
    simp only [execOp, ho1, ho2, resolve, Sem.run_bind, Sem.run_pure, Result.andThen_ok, invoke, builtin, List.map_toArray, List.map_cons, List.map_nil, he.ev hx, he.ev hy, hr]
  have hsz : (P.info? E).map (·.size) = some 1 := by rw [hi1, Option.map_some, hs]
  have hsl := hv w hw
  have hyl := hsl.sl_len
  rw [Nat.mul_one] at hyl
  obtain ⟨DD, ⟨hb1, hb2⟩, _, _⟩ := hw.work hi
  by_cases hn : min m2 dn = 0
  · have hr := run_copy_none (P := P) w T T2 ty E D B dn dc m2 c2 hT.under hsz hn
    refine ⟨(), w, .inl (hex _ _ (by rw [hr, hn]; rfl)), ?_⟩
    rw [hn, List.take_zero, List.append_nil, Nat.add_zero, List.take_append_drop, Array.toArray_toList]
    have e : L.set q (blk g E cur) = L := by
      apply List.ext_getElem?
      intro t
      rw [List.getElem?_set]
      split
      · rename_i e
        subst e
        rw [if_pos (List.getElem?_eq_some_iff.1 hi).1, hi]
      · rfl
    rw [e]
    exact hw
  · have hd0 : dn ≠ 0 := fun e => hn (by rw [e]; exact Nat.min_zero _)
    have hm0 : m2 ≠ 0 := fun e => hn (by rw [e]; exact Nat.zero_min _)
    obtain rfl := hD hd0
    have hB := hsl.sl_some hm0
    have hcs : (ys.take (min m2 dn)).length = Nat.min m2 dn := by rw [List.length_take, hyl]; exact Nat.min_eq_left (Nat.min_le_left _ _)
    have hsrc : ∀ j v, (ys.take (min m2 dn))[j]? = some v → w.cell? ((⟨ob B, oo B, none⟩ : Addr).add j) = some v := fun j v hj => by
      rw [List.getElem?_take] at hj
      split at hj
      · have := (hsl.sl_cell hm0 hj).2
        rw [add_at]
        exact this
      · cases hj
    have hr := run_copy_row (P := P) w T T2 ty E g off dn dc ⟨ob B, oo B, none⟩ m2 c2 cur E (ys.take (min m2 dn)) hT.under hsz hb2 hcs hsrc (by rw [hcs]; have := Nat.min_le_right m2 dn; show off + min m2 dn ≤ _; omega) (fun v hv => List.all_eq_true.1 h1 v (List.mem_of_mem_take hv))
    rw [← hB] at hr
    rw [show (ys.take (min m2 dn)).length = min m2 dn from hcs] at hr
    exact ⟨(), _, .inl (hex _ _ hr), hw.blkAll hi _⟩
/-- Parts of memory under a name: for some x, these. -/
theorem Has.ex {G : Type} {f : G → Atom} {w : World} (h : Has (exA f) w) : ∃ x, Has (f x) w := by
  obtain ⟨D, ⟨x, h1⟩, h2⟩ := h
  exact ⟨x, D, h1, h2⟩
end
end Go.Sx
end
section
/- Calls that write into one block of the caller's: what they read lies elsewhere. No condition. -/
namespace Go.Sx
open Go
/-- All blocks that are there but one. -/
def Ex (r : Nat) (w : World) : Nat → Prop := fun k => k < w.heap.size ∧ k ≠ r
/-- Something holds in the world, and stands on blocks that are there, and not on one. -/
def HasN (r : Nat) (A : Atom) (w : World) : Prop := ∃ D : Nat → Prop, A.ok w D ∧ ∀ k, D k → k < w.heap.size ∧ k ≠ r
section
variable {F : Nat → Prop} {w₀ w w' : World} {L : List Atom} {A : Atom} {r : Nat} {T : TypeId} {cs : Array Value}
theorem HasN.has (h : HasN r A w) : Has A w := let ⟨D, h1, h2⟩ := h; ⟨D, h1, fun k hk => (h2 k hk).1⟩
theorem St.oldN (h : St (Ex r w) w L w') (ha : HasN r A w) : HasN r A w' :=
  let ⟨D, h1, h2⟩ := ha
  ⟨D, A.loc h1 (fun k hk => h.fr.block k (h2 k hk)), fun k hk => ⟨Nat.lt_of_lt_of_le (h2 k hk).1 h.fr.size, (h2 k hk).2⟩⟩
theorem St.startW (h : w.heap[r]? = some (.cells cs T (0, 0))) : St (Ex r w) w [blk r T cs] w :=
  ⟨Fr.refl _ _, fun _ hk => hk.1, fun k => k = r, ⟨fun _ => Iff.rfl, h⟩, fun k hk => ⟨fun hf => hf.2 hk, by
    subst hk
    exact (Array.getElem?_eq_some_iff.1 h).1⟩, trivial⟩
theorem HasN.cellB {c : Nat} {T2 : TypeId} {cs2 : Array Value} (h : HasN r (blk c T2 cs2) w) {j : Nat} {v : Value} (hj : cs2[j]? = some v) : w.cell? ⟨c, j, none⟩ = some v := by
  obtain ⟨D, ⟨_, h2⟩, _⟩ := h
  rw [cell_of_blk h2, hj]
theorem Has.cellB {c : Nat} {T2 : TypeId} {cs2 : Array Value} (h : Has (blk c T2 cs2) w) {j : Nat} {v : Value} (hj : cs2[j]? = some v) : w.cell? ⟨c, j, none⟩ = some v := by
  obtain ⟨D, ⟨_, h2⟩, _⟩ := h
  rw [cell_of_blk h2, hj]
theorem St.hasN {i j : Nat} (hi : L[i]? = some (blk r T cs)) (hj : (L.eraseIdx i)[j]? = some A) (h : St F w₀ L w) : HasN r A w := by
  obtain ⟨D, ⟨k1, _⟩, _, k3⟩ := h.sep.front hi
  obtain ⟨D2, m1, m2, _⟩ := Sep.at_ k3 hj
  exact ⟨D2, m1, fun k hk => ⟨(m2 k hk).2, fun e => (m2 k hk).1 (.inr ((k1 k).2 e))⟩⟩
theorem St.heapOf {i : Nat} (hi : L[i]? = some (blk r T cs)) (h : St F w₀ L w) : w.heap[r]? = some (.cells cs T (0, 0)) := by
  obtain ⟨D, ⟨_, h2⟩, _⟩ := h.has hi
  exact h2
end
/-- A call that answers v and leaves a block with these cells, and all else as it was. -/
def WCall (P : Program) (g : FuncId) (args : List Value) (w : World) (r : Nat) (T : TypeId) (cs : Array Value) (v : Value) : Prop :=
  Calls P g args.toArray w (fun e w' => e = .returned v ∧ St (Ex r w) w [blk r T cs] w')
section
variable {P : Program} {n : Nat} {c : Code}
theorem spec_ofW {f : FuncId} {fn : Func} {args : List Value} {w : World} {r : Nat} {T : TypeId} {cs cs2 : Array Value} {v : Value} (hf : P.funcs[f]? = some fn) (hb : fn.body = some c) (hn : fn.ntmps = n) (hlen : Nat.ble args.length n = true) (hw : w.heap[r]? = some (.cells cs T (0, 0)))
    (h : CW P (Rets fn (fun e w' => e = .returned v ∧ St (Ex r w) w [blk r T cs2] w') P) [] c n (argEnv 0 args) (St (Ex r w) w [blk r T cs])) : WCall P f args w r T cs2 v :=
  calls_of hf hb hn hlen ⟨fun a v he hv => h.run a v he (by subst hv; exact St.startW hw)⟩
end
section
variable {P : Program} {ops : Array Oper} {S : World → Prop} {K : Act → World → Prop} {p : Plan} {n : Nat} {l : List (Nat × Value)} {i : Nat} {ty : TypeId} {x : Operand} {F : Nat → Prop} {w₀ : World} {A : List Atom}
theorem St.wrote {q r : Nat} {T : TypeId} {cs cs2 : Array Value} {w w' : World} (hi : A[q]? = some (blk r T cs)) (hw : St F w₀ A w) (h : St (Ex r w) w [blk r T cs2] w') : St F w₀ (A.set q (blk r T cs2)) w' := by
  obtain ⟨D, ⟨h1, h2⟩, h3, h4⟩ := hw.work hi
  have hok := h.heapOf (i := 0) rfl
  refine h4 w' (blk r T cs2) D (h.fr.mono (fun k hk => ⟨hk.1, fun e => hk.2 ((h1 k).2 e)⟩)) ⟨h1, hok⟩ (fun k hk => ⟨.inl hk, Nat.lt_of_lt_of_le (h3 k hk) h.fr.size⟩)
theorem s_callW (d q : Nat) {as1 : Array Operand} {ts : Array TypeId} {g : FuncId} {fs cs : Array Value} {vs L : List Value} {v : Value} {r : Nat} {T : TypeId} {c1 c2 : Array Value} (hi : A[q]? = some (blk r T c1))
    (ho : opAt ops n l i = some (some d, .call ⟨.value x, as1, ts⟩, ty)) (hx : ev l x = some (.func (.func g) fs cs)) (has : evs l as1.toList = some vs) (hL : fs.toList ++ vs ++ cs.toList = L) [hg : Enters P g]
    (hc : ∀ w, St F w₀ A w → WCall P g L w r T c2 v) (hS : ∀ w, St F w₀ (A.set q (blk r T c2)) w → S w) (h : SX P ops S K p n ((d, v) :: l) (St F w₀ (A.set q (blk r T c2)))) : SX P ops S K (.st false i p) n l (St F w₀ A) :=
  SX.enter (X := Unit) (v := fun _ => v) (C' := fun _ w => St F w₀ (A.set q (blk r T c2)) w) (pf := fun _ => True) ho (fun _ _ _ he h1 _ => run_call he h1 hx has hL) (fun w hw => (hc w hw).mono (fun _ _ ⟨h1, h2⟩ => ⟨(), h1, trivial, hw.wrote hi h2⟩)) (fun _ w hw => hS w hw) (fun _ _ => h)
end
end Go.Sx
end
section
/- A list of our own that slices.Sort has sorted. No condition. -/
namespace Go.Sx
open Go Go.Sort
theorem Fr.grown {w : World} {g N : Nat} {f : Array Value → Array Value} {os : Array Obj} {D : Nat → Prop} (hg : D g) : Fr (fun k => k < w.heap.size ∧ ¬ D k) w (grow (mapBlock (Sort.ahead w N) g f) os) := by
  refine ⟨rfl, rfl, rfl, ?_, fun k hk => ?_⟩
  · show w.heap.size ≤ (w.heap.modify g (onCells f) ++ os).size
    simp
  · show (w.heap.modify g (onCells f) ++ os)[k]? = _
    have hne : g ≠ k := fun h => hk.2 (h ▸ hg)
    rw [Array.getElem?_append_left (by simpa using hk.1), Array.getElem?_modify, if_neg hne]
theorem St.sorted {F : Nat → Prop} {w₀ w : World} {L : List Atom} {E n c g N : Nat} {zs zs' : List Int} {os : Array Obj} (h : St F w₀ (own E 1 (some ⟨g, 0, none⟩) n c (ints .i64 zs) :: L) w) (hl : zs'.length = zs.length) :
    St F w₀ (own E 1 (some ⟨g, 0, none⟩) n c (ints .i64 zs') :: L) (grow (putRow (Value.int .i64) (Sort.ahead w N) g 0 zs'.toArray) os) := by
  obtain ⟨D, ⟨⟨h1, h2⟩, hD⟩, hlt, hmk⟩ := h.work (i := 0) rfl
  rcases h2 with ⟨h3, _⟩ | ⟨g', cap, cur, hv, hb, hh, hc, hm, hs, ht⟩
  · cases h3
  · injection hv with hA hn hcp
    injection hA with hA
    injection hA with hg
    subst hg
    subst hcp
    have hDg : D g := (hD g).2 ⟨by simp, rfl⟩
    have hgs := (Array.getElem?_eq_some_iff.1 hh).1
    have hzl : zs'.length = n := by simpa [ints, hl] using h1
    refine hmk _ (own E 1 (some ⟨g, 0, none⟩) n c (ints .i64 zs')) D (Fr.grown hDg) ⟨⟨by simpa [ints] using hzl, .inr ⟨g, c, putCells (Value.int .i64) 0 zs'.toArray cur, rfl, hb, ?_, hc, hm, by simpa [putCells] using hs, ?_⟩⟩, hD⟩ (fun k hk => ⟨.inl hk, ?_⟩)
    · show (w.heap.modify g (onCells _) ++ os)[g]? = _
      rw [Array.getElem?_append_left (by simpa using hgs), Array.getElem?_modify, if_pos rfl, hh]; rfl
    · rw [Nat.mul_one] at ht hs ⊢
      apply List.ext_getElem?
      intro j
      rw [List.getElem?_take]
      by_cases hj : j < n
      · rw [if_pos hj]
        have hjc : j < cur.size := by omega
        simp [putCells, ints, hjc, hzl, hj]
      · rw [if_neg hj, List.getElem?_eq_none (by simp [ints]; omega)]
    · have := hlt k hk
      show k < (w.heap.modify g (onCells _) ++ os).size
      simp; omega
end Go.Sx
end
section
/-
  DERIVED: THE SHELF's CONTRACTS AT THIS DUMP, IN PLAIN WORDS (tools/lay-plain.mjs out of 'YtcdmmfpgeagimaaDoorSort.lean', which tools/lay-shelf.mjs wrote): THE SAME DECLARATIONS UNDER THE SAME NAMES: 'import', 'namespace', 'open', 'def', 'theorem' AND NOTHING ELSE: no command of the shelf's: FOR A HAND-IN. Each laying: the table of numbers ('.._ren') and one theorem, a field a fact of the dump's own or the kernel's comparison; each contract: ONE APPLICATION.
-/
namespace Go.Proofs
open Go.Shelf
def Tryd.lays189_ren : Go.Shelf.Ren := ⟨fun | 189 => 156 | 125 => 163 | 257 => 162 | 128 => 174 | 129 => 99 | 294 => 165 | 295 => 166 | 296 => 167 | 297 => 168 | 298 => 169 | 299 => 170 | 216 => 171 | 300 => 172 | 301 => 173 | 328 => 175 | 329 => 176 | 330 => 177 | 331 => 178 | 332 => 179 | 215 => 180 | 343 => 181 | n => n, fun | 28 => 23 | 3 => 3 | 46 => 171 | 0 => 0 | 51 => 229 | 53 => 136 | 4 => 4 | 183 => 222 | 182 => 221 | 131 => 114 | 5 => 5 | 9 => 9 | 218 => 230 | 222 => 234 | 228 => 236 | 229 => 237 | n => n, fun | n => n⟩
theorem Tryd.lays189 : Go.Proofs.Lays.n189 Tryd.prog Tryd.lays189_ren := {
  mixed := by kernel_rfl
  f125 := Tryd.func163.trans (congrArg some (by kernel_rfl))
  f128 := Tryd.func174.trans (congrArg some (by kernel_rfl))
  f129 := Tryd.func99.trans (congrArg some (by kernel_rfl))
  f189 := Tryd.func156.trans (congrArg some (by kernel_rfl))
  f215 := Tryd.func180.trans (congrArg some (by kernel_rfl))
  f216 := Tryd.func171.trans (congrArg some (by kernel_rfl))
  f257 := Tryd.func162.trans (congrArg some (by kernel_rfl))
  f294 := Tryd.func165.trans (congrArg some (by kernel_rfl))
  f295 := Tryd.func166.trans (congrArg some (by kernel_rfl))
  f296 := Tryd.func167.trans (congrArg some (by kernel_rfl))
  f297 := Tryd.func168.trans (congrArg some (by kernel_rfl))
  f298 := Tryd.func169.trans (congrArg some (by kernel_rfl))
  f299 := Tryd.func170.trans (congrArg some (by kernel_rfl))
  f300 := Tryd.func172.trans (congrArg some (by kernel_rfl))
  f301 := Tryd.func173.trans (congrArg some (by kernel_rfl))
  f328 := Tryd.func175.trans (congrArg some (by kernel_rfl))
  f329 := Tryd.func176.trans (congrArg some (by kernel_rfl))
  f330 := Tryd.func177.trans (congrArg some (by kernel_rfl))
  f331 := Tryd.func178.trans (congrArg some (by kernel_rfl))
  f332 := Tryd.func179.trans (congrArg some (by kernel_rfl))
  f343 := Tryd.func181.trans (congrArg some (by kernel_rfl))
  t0 := Tryd.underlying0
  a0 := Tryd.isAgg0
  z0 := Tryd.sizeOf0
  v0 := Tryd.zeroValue0
  t3 := Tryd.underlying3
  a3 := Tryd.isAgg3
  z3 := Tryd.sizeOf3
  v3 := Tryd.zeroValue3
  t4 := Tryd.underlying4
  a4 := Tryd.isAgg4
  z4 := Tryd.sizeOf4
  v4 := Tryd.zeroValue4
  t5 := Tryd.underlying5
  a5 := Tryd.isAgg5
  z5 := Tryd.sizeOf5
  v5 := Tryd.zeroValue5
  t9 := Tryd.underlying9
  a9 := Tryd.isAgg9
  z9 := Tryd.sizeOf9
  v9 := Tryd.zeroValue9
  t28 := Tryd.underlying23
  a28 := Tryd.isAgg23
  z28 := Tryd.sizeOf23
  v28 := Tryd.zeroValue23
  t46 := Tryd.underlying171
  a46 := Tryd.isAgg171
  z46 := Tryd.sizeOf171
  v46 := Tryd.zeroValue171
  t51 := Tryd.underlying229
  a51 := Tryd.isAgg229
  z51 := Tryd.sizeOf229
  v51 := Tryd.zeroValue229
  t53 := Tryd.underlying136
  a53 := Tryd.isAgg136
  z53 := Tryd.sizeOf136
  v53 := Tryd.zeroValue136
  t131 := Tryd.underlying114
  a131 := Tryd.isAgg114
  z131 := Tryd.sizeOf114
  v131 := Tryd.zeroValue114
  t182 := Tryd.underlying221
  a182 := Tryd.isAgg221
  z182 := Tryd.sizeOf221
  v182 := Tryd.zeroValue221
  t183 := Tryd.underlying222
  a183 := Tryd.isAgg222
  z183 := Tryd.sizeOf222
  v183 := Tryd.zeroValue222
  t218 := Tryd.underlying230
  a218 := Tryd.isAgg230
  z218 := Tryd.sizeOf230
  v218 := Tryd.zeroValue230
  t222 := Tryd.underlying234
  a222 := Tryd.isAgg234
  z222 := Tryd.sizeOf234
  v222 := Tryd.zeroValue234
  t228 := Tryd.underlying236
  a228 := Tryd.isAgg236
  z228 := Tryd.sizeOf236
  v228 := Tryd.zeroValue236
  t229 := Tryd.underlying237
  a229 := Tryd.isAgg237
  z229 := Tryd.sizeOf237
  v229 := Tryd.zeroValue237 }
open Go.Sort Go.RowKit in
theorem Tryd.slices_Sort_int (blk off cap : Nat) (zs : List Int) (w : World) (hH : Holds (Value.int .i64) w blk off zs.toArray) (hblk : blk < w.heap.size) (hsz : zs.length < 4611686018427387904) :
    Calls Tryd.prog 156 #[.slice (some ⟨blk, off, none⟩) zs.length cap] w fun e w' =>
      e = .returned (.tuple #[]) ∧ ∃ n os, w' = grow (putRow (Value.int .i64) (Sort.ahead w n) blk off (zs.mergeSort fun x y => decide (x ≤ y)).toArray) os := Any.slices_Sort_int Tryd.lays189 blk off cap zs w hH hblk hsz
end Go.Proofs
end
section
/- The contracts of the document's own field: what each of its functions answers. Conditions: an m that may be. -/
namespace Go.Proofs.YtcdmmfpgeagimaaDoor
open Go.Sx Go.Fm
set_option maxRecDepth 100000
theorem eq0 {x : Nat} (h : ¬ (0 : Int) < (x : Nat)) : x = 0 := by omega
theorem u64_nat {m : Nat} (h : Ok m) : IntKind.u64.wrap ((m : Nat) : Int) = (m : Nat) := wu64 (by have := h.hi; omega)

theorem rlow_spec (m : Nat) (a : Int) (w : World) (hm : Ok m) : Spec1 Tryd.prog 91 [.int .i64 (m : Nat), .int .i64 a] w (.int .i64 (lo m a : Nat)) := by
  have hp := N_pos hm
  have hlo := hm.lo
  have hhi := hm.hi
  have hN := N_succ m
  refine spec_of Tryd.func91 rfl Tryd.ntmps91 rfl ?_
  refine CW.seq ?_
  refine CW.reg [0] rfl ?_
  refine s_as 4 rfl rfl ?_
  refine SX.next ?_
  refine CW.seq ?_
  refine CW.reg [0, 1, 2, 3, 4, 5, 6] rfl ?_
  refine s_mv 5 rfl rfl ?_
  refine s_mv 6 rfl rfl ?_
  refine s_conv 7 rfl rfl (u64_nat hm) ?_
  refine s_shl 8 rfl rfl rfl (by omega) (shl_one hm) ?_
  refine s_sub 9 rfl rfl rfl (w64 (by omega)) ?_
  refine s_bit 10 rfl rfl rfl rfl (low_eq hm a) ?_
  refine s_as 4 rfl rfl ?_
  refine SX.next ?_
  refine CW.ret ?_
  exact KN.ret (rs := [.tmp 4]) Tryd.results91 rfl (fun w hw => ⟨rfl, hw.nothing⟩)

theorem rmul_spec (m : Nat) (a b : Int) (w : World) (hm : Ok m) : Spec1 Tryd.prog 85 [.int .i64 (m : Nat), .int .i64 a, .int .i64 b] w (.int .i64 (gm m (lo m a) (lo m b) : Nat)) := by
  have hp := N_pos hm
  have hlo := hm.lo
  have hhi := hm.hi
  have hN := N_succ m
  have hx := lo_lt m a
  have hb := lo_lt m b
  have hle := pow_le14 hm
  have hpl := poly_lt (m : Nat)
  refine spec_of Tryd.func85 rfl Tryd.ntmps85 rfl ?_
  refine CW.seq ?_
  refine CW.reg [0] rfl ?_
  refine s_as 6 rfl rfl ?_
  refine SX.next ?_
  refine CW.seq ?_
  refine CW.reg [0, 1, 2, 3] rfl ?_
  refine s_mv 9 rfl rfl ?_
  refine s_mv 10 rfl rfl ?_
  refine s_call1 11 rfl rfl rfl rfl (fun w hw => rlow_spec m _ _ hm) (fun _ _ => trivial) ?_
  refine s_as 1 rfl rfl ?_
  refine SX.next ?_
  refine CW.seq ?_
  refine CW.reg [0, 1, 2, 3] rfl ?_
  refine s_mv 12 rfl rfl ?_
  refine s_mv 13 rfl rfl ?_
  refine s_call1 14 rfl rfl rfl rfl (fun w hw => rlow_spec m _ _ hm) (fun _ _ => trivial) ?_
  refine s_as 2 rfl rfl ?_
  refine SX.next ?_
  refine CW.seq ?_
  refine CW.reg [0, 1, 2] rfl ?_
  refine s_mv 15 rfl rfl ?_
  refine s_call1 16 rfl rfl rfl rfl (fun w hw => rpoly_spec _ _ (by omega)) (fun _ _ => trivial) ?_
  refine s_as 7 rfl rfl ?_
  refine SX.next ?_
  refine CW.seq ?_
  refine CW.reg [0] rfl ?_
  refine s_as 8 rfl rfl ?_
  refine SX.next ?_
  refine CW.seq ?_
  refine CW.block ?_
  refine CW.loop (G := Nat) (fun k => [(0, .int .i64 (m : Nat)), (1, .int .i64 (xtk m k (lo m a) : Nat)), (2, .int .i64 (lo m b >>> k : Nat)), (7, .int .i64 (polyI (m : Nat) : Nat)), (8, .int .i64 (gmk m (lo m a) (lo m b) k : Nat))]) (fun _ => Sto w []) (fun k => k ≤ m) (fun k => lo m b >>> k) 0 ⟨rfl, rfl, rfl, rfl, rfl, trivial⟩ (fun _ h => h) (Nat.zero_le _) ?_
  intro k hk
  have hak := xtk_lt hm k hx
  have hgk := gmk_lt hm hx (lo m b) k
  have hbk : lo m b >>> k < 2 ^ m := Nat.lt_of_le_of_lt (Nat.shiftRight_le _ _) hb
  refine CW.seq ?_
  refine CW.seq ?_
  refine CW.reg [0, 1] rfl ?_
  refine s_mv 17 rfl rfl ?_
  refine s_gt 18 rfl rfl rfl rfl ?_
  refine SX.next ?_
  refine CW.test rfl (fun hc => ?_) (fun hc => ?_)
  · skip
    have hkm := shr_lt hb (k := k) (by omega)
    refine CW.skip ?_
    refine KN.code ?_
    refine CW.block ?_
    refine CW.cut (G := Unit) (fun _ => [(0, .int .i64 (m : Nat)), (1, .int .i64 (xtk m k (lo m a) : Nat)), (2, .int .i64 (lo m b >>> k : Nat)), (7, .int .i64 (polyI (m : Nat) : Nat)), (8, .int .i64 (gmk m (lo m a) (lo m b) (k + 1) : Nat))]) (fun _ => Sto w []) (fun _ => True) ?_ ?_
    · skip
      refine CW.seq ?_
      refine CW.reg [0, 1, 2] rfl ?_
      refine s_mv 19 rfl rfl ?_
      refine s_bit 20 rfl rfl rfl rfl (ibit_and_one (by omega)) ?_
      refine s_eq 21 rfl rfl rfl rfl ?_
      refine SX.next ?_
      refine CW.test rfl (fun hc => ?_) (fun hc => ?_)
      · skip
        refine CW.reg [0, 1, 2, 3] rfl ?_
        refine s_mv 22 rfl rfl ?_
        refine s_mv 23 rfl rfl ?_
        refine s_bit 24 rfl rfl rfl rfl (by rw [ibit_xor_nat (by omega) (by omega), ← gmk_odd hc]) ?_
        refine s_as 8 rfl rfl ?_
        refine SX.end_ ?_
        exact KN.join () ⟨rfl, rfl, rfl, rfl, rfl, trivial⟩ (fun _ h => h) trivial
      · skip
        refine CW.skip ?_
        exact KN.join () ⟨rfl, rfl, rfl, rfl, by rw [gmk_even hc]; rfl, trivial⟩ (fun _ h => h) trivial
    · skip
      intro _ _
      refine CW.seq ?_
      refine CW.reg [0, 1, 2] rfl ?_
      refine s_mv 25 rfl rfl ?_
      refine s_shl 26 rfl rfl rfl (by omega) (r := ((2 * xtk m k (lo m a) : Nat) : Int)) (shl1 (by omega)) ?_
      refine s_as 1 rfl rfl ?_
      refine SX.next ?_
      refine CW.cut (G := Unit) (fun _ => [(0, .int .i64 (m : Nat)), (1, .int .i64 (xtk m (k + 1) (lo m a) : Nat)), (2, .int .i64 (lo m b >>> k : Nat)), (7, .int .i64 (polyI (m : Nat) : Nat)), (8, .int .i64 (gmk m (lo m a) (lo m b) (k + 1) : Nat))]) (fun _ => Sto w []) (fun _ => True) ?_ ?_
      · skip
        refine CW.seq ?_
        refine CW.reg [0, 1, 2, 3, 4, 5] rfl ?_
        refine s_mv 27 rfl rfl ?_
        refine s_mv 28 rfl rfl ?_
        refine s_conv 29 rfl rfl (u64_nat hm) ?_
        refine s_shr 30 rfl rfl rfl (by omega) (shr_nat (by omega)) ?_
        refine s_bit 31 rfl rfl rfl rfl (ibit_and_one (Nat.lt_of_le_of_lt (Nat.shiftRight_le _ _) (by omega))) ?_
        refine s_eq 32 rfl rfl rfl rfl ?_
        refine SX.next ?_
        refine CW.test rfl (fun hc => ?_) (fun hc => ?_)
        · skip
          refine CW.reg [0, 1, 2, 3] rfl ?_
          refine s_mv 33 rfl rfl ?_
          refine s_mv 34 rfl rfl ?_
          refine s_bit 35 rfl rfl rfl rfl (by rw [ibit_xor_nat (by omega) hpl, polyI_ok hm, ← xtk_hi hm hx hc]) ?_
          refine s_as 1 rfl rfl ?_
          refine SX.end_ ?_
          exact KN.join () ⟨rfl, rfl, rfl, rfl, rfl, trivial⟩ (fun _ h => h) trivial
        · skip
          refine CW.skip ?_
          exact KN.join () ⟨rfl, by rw [xtk_lo hm hx hc]; rfl, rfl, rfl, rfl, trivial⟩ (fun _ h => h) trivial
      · skip
        intro _ _
        refine CW.reg [0, 1, 2] rfl ?_
        refine s_mv 36 rfl rfl ?_
        refine s_shr 37 rfl rfl rfl (by omega) (r := ((lo m b >>> (k + 1) : Nat) : Int)) (by rw [shr1, shr_succ]) ?_
        refine s_as 2 rfl rfl ?_
        refine SX.end_ ?_
        refine KN.blk ?_
        exact KN.back (k + 1) ⟨rfl, rfl, rfl, rfl, rfl, trivial⟩ (fun _ h => h) hkm (by rw [← shr_succ]; exact shr1_lt (by omega))
  · skip
    have hstop := gm_stop (m := m) (a := lo m a) (b := lo m b) (k := k) (eq0 hc) hk
    refine CW.exit rfl ?_
    refine KN.code ?_
    refine CW.seq ?_
    refine CW.reg [0, 1] rfl ?_
    refine s_mv 38 rfl rfl ?_
    refine s_as 6 rfl rfl ?_
    refine SX.next ?_
    refine CW.ret ?_
    exact KN.ret (rs := [.tmp 6]) Tryd.results85 rfl (fun w hw => ⟨by rw [oneOf, hstop], hw⟩)

structure PowG (m a n : Nat) (q : Nat × Nat × Nat) : Prop where
  hx : q.1 < 2 ^ m
  ha : q.2.1 < 2 ^ m
  hn : q.2.2 < 2 ^ 63
  inv : gm m q.1 (fpw m q.2.1 q.2.2) = fpw m a n
theorem PowG.odd {m a n : Nat} (h : Ok m) {q : Nat × Nat × Nat} (hq : PowG m a n q) (hc : ((q.2.2 % 2 : Nat) : Int) = 1) : PowG m a n (gm m q.1 q.2.1, gm m q.2.1 q.2.1, q.2.2 >>> 1) := by
  obtain ⟨h1, h2, h3, h4⟩ := hq
  have e : q.2.2 = 1 + 2 * (q.2.2 >>> 1) := by rw [Nat.shiftRight_eq_div_pow]; omega
  refine ⟨gm_lt h h1 _, gm_lt h h2 _, Nat.lt_of_le_of_lt (Nat.shiftRight_le _ _) h3, ?_⟩
  have h5 : fpw m q.2.1 1 = q.2.1 := gm_one_left h h2
  show gm m (gm m q.1 q.2.1) (fpw m (gm m q.2.1 q.2.1) (q.2.2 >>> 1)) = _
  rw [← h4, fpw_sq h h2, gm_assoc h h1 h2 (fpw_lt h _ _)]
  conv => rhs; rw [e, fpw_add h h2, h5]
theorem PowG.even {m a n : Nat} (h : Ok m) {q : Nat × Nat × Nat} (hq : PowG m a n q) (hc : ¬ ((q.2.2 % 2 : Nat) : Int) = 1) : PowG m a n (q.1, gm m q.2.1 q.2.1, q.2.2 >>> 1) := by
  obtain ⟨h1, h2, h3, h4⟩ := hq
  have e : q.2.2 = 2 * (q.2.2 >>> 1) := by rw [Nat.shiftRight_eq_div_pow]; omega
  refine ⟨h1, gm_lt h h2 _, Nat.lt_of_le_of_lt (Nat.shiftRight_le _ _) h3, ?_⟩
  show gm m q.1 (fpw m (gm m q.2.1 q.2.1) (q.2.2 >>> 1)) = _
  rw [← h4, fpw_sq h h2]
  conv => rhs; rw [e]
theorem PowG.last {m a n : Nat} (h : Ok m) {q : Nat × Nat × Nat} (hq : PowG m a n q) (hc : ¬ 0 < q.2.2) : q.1 = fpw m a n := by
  obtain ⟨h1, h2, h3, h4⟩ := hq
  rw [show q.2.2 = 0 by omega] at h4
  rw [← h4]
  exact (gm_one_right h h1).symm
theorem mulz {m x y : Nat} {w : World} (hm : Ok m) (hx : x < 2 ^ m) (hy : y < 2 ^ m) : Spec1 Tryd.prog 85 [.int .i64 (m : Nat), .int .i64 (x : Nat), .int .i64 (y : Nat)] w (.int .i64 (gm m x y : Nat)) := by
  have := rmul_spec m (x : Nat) (y : Nat) w hm
  rw [lo_nat hx, lo_nat hy] at this
  exact this

theorem power_spec (m : Nat) (a : Int) (n : Nat) (w : World) (hm : Ok m) (hn : n < 2 ^ 63) : Spec1 Tryd.prog 143 [.int .i64 (m : Nat), .int .i64 a, .int .i64 (n : Nat)] w (.int .i64 (fpw m (lo m a) n : Nat)) := by
  have hp := N_pos hm
  have hlo := hm.lo
  have hhi := hm.hi
  have hN := N_succ m
  have hx := lo_lt m a
  have hle := pow_le14 hm
  refine spec_of Tryd.func143 rfl Tryd.ntmps143 rfl ?_
  refine CW.seq ?_
  refine CW.reg [0] rfl ?_
  refine s_as 6 rfl rfl ?_
  refine SX.next ?_
  refine CW.seq ?_
  refine CW.reg [0] rfl ?_
  refine s_as 7 rfl rfl ?_
  refine SX.next ?_
  refine CW.seq ?_
  refine CW.reg [0, 1, 2, 3] rfl ?_
  refine s_mv 8 rfl rfl ?_
  refine s_mv 9 rfl rfl ?_
  refine s_call1 10 rfl rfl rfl rfl (fun w hw => rlow_spec m _ _ hm) (fun _ _ => trivial) ?_
  refine s_as 1 rfl rfl ?_
  refine SX.next ?_
  refine CW.seq ?_
  refine CW.block ?_
  refine CW.loop (G := Nat × Nat × Nat) (fun q => [(0, .int .i64 (m : Nat)), (1, .int .i64 (q.2.1 : Nat)), (2, .int .i64 (q.2.2 : Nat)), (7, .int .i64 (q.1 : Nat))]) (fun _ => Sto w []) (PowG m (lo m a) n) (fun q => q.2.2) (1, lo m a, n) ⟨rfl, rfl, rfl, rfl, trivial⟩ (fun _ h => h) ⟨one_lt hm, hx, hn, gm_one_left hm (fpw_lt hm _ _)⟩ ?_
  rintro ⟨x, y, k⟩ hq
  have hq1 := hq.hx
  have hq2 := hq.ha
  have hq3 := hq.hn
  simp only at hq1 hq2 hq3 ⊢
  refine CW.seq ?_
  refine CW.seq ?_
  refine CW.reg [0, 1] rfl ?_
  refine s_mv 11 rfl rfl ?_
  refine s_gt 12 rfl rfl rfl rfl ?_
  refine SX.next ?_
  refine CW.test rfl (fun hc => ?_) (fun hc => ?_)
  · skip
    refine CW.skip ?_
    refine KN.code ?_
    refine CW.block ?_
    refine CW.cut (G := Nat) (fun z => [(0, .int .i64 (m : Nat)), (1, .int .i64 (y : Nat)), (2, .int .i64 (k : Nat)), (7, .int .i64 (z : Nat))]) (fun _ => Sto w []) (fun z => PowG m (lo m a) n (z, gm m y y, k >>> 1)) ?_ ?_
    · skip
      refine CW.seq ?_
      refine CW.reg [0, 1, 2] rfl ?_
      refine s_mv 13 rfl rfl ?_
      refine s_bit 14 rfl rfl rfl rfl (ibit_and_one hq3) ?_
      refine s_eq 15 rfl rfl rfl rfl ?_
      refine SX.next ?_
      refine CW.test rfl (fun hc => ?_) (fun hc => ?_)
      · skip
        refine CW.reg [0, 1, 2, 3, 4] rfl ?_
        refine s_mv 16 rfl rfl ?_
        refine s_mv 17 rfl rfl ?_
        refine s_mv 18 rfl rfl ?_
        refine s_call1 19 rfl rfl rfl rfl (fun w _ => mulz hm hq1 hq2) (fun _ _ => trivial) ?_
        refine s_as 7 rfl rfl ?_
        refine SX.end_ ?_
        exact KN.join _ ⟨rfl, rfl, rfl, rfl, trivial⟩ (fun _ h => h) (hq.odd hm hc)
      · skip
        refine CW.skip ?_
        exact KN.join _ ⟨rfl, rfl, rfl, rfl, trivial⟩ (fun _ h => h) (hq.even hm hc)
    · skip
      intro z hz
      refine CW.seq ?_
      refine CW.reg [0, 1, 2, 3, 4] rfl ?_
      refine s_mv 20 rfl rfl ?_
      refine s_mv 21 rfl rfl ?_
      refine s_mv 22 rfl rfl ?_
      refine s_call1 23 rfl rfl rfl rfl (fun w _ => mulz hm hq2 hq2) (fun _ _ => trivial) ?_
      refine s_as 1 rfl rfl ?_
      refine SX.next ?_
      refine CW.reg [0, 1, 2] rfl ?_
      refine s_mv 24 rfl rfl ?_
      refine s_shr 25 rfl rfl rfl (by omega) (r := ((k >>> 1 : Nat) : Int)) (shr1 k) ?_
      refine s_as 2 rfl rfl ?_
      refine SX.end_ ?_
      refine KN.blk ?_
      exact KN.back (z, gm m y y, k >>> 1) ⟨rfl, rfl, rfl, rfl, trivial⟩ (fun _ h => h) hz (shr1_lt (by omega))
  · skip
    refine CW.exit rfl ?_
    refine KN.code ?_
    refine CW.seq ?_
    refine CW.reg [0, 1] rfl ?_
    refine s_mv 26 rfl rfl ?_
    refine s_as 6 rfl rfl ?_
    refine SX.next ?_
    refine CW.ret ?_
    exact KN.ret (rs := [.tmp 6]) Tryd.results143 rfl (fun w hw => ⟨by rw [oneOf, ← hq.last hm (by simp only; omega)], hw⟩)

theorem em_pos2 {m : Nat} (h : Ok m) (n : Int) : (n.tmod ((N m : Nat) : Int) + (N m : Nat)).tmod ((N m : Nat) : Int) = (em m n : Nat) := by
  have hp := N_pos h
  have hb := em_lt h n
  by_cases hc : n.tmod ((N m : Nat) : Int) < 0
  · rw [em_neg h hc]
    exact Int.tmod_eq_of_lt (by omega) (by omega)
  · rw [em_pos h hc]
    show (((em m n + N m) % N m : Nat) : Int) = _
    rw [Nat.add_mod_right, Nat.mod_eq_of_lt hb]
theorem lo_two {m : Nat} (h : Ok m) : lo m 2 = 2 := lo_nat (x := 2) (two_lt h)

theorem rpow_zero (m : Nat) (a n : Int) (w : World) (hm : Ok m) (h0 : lo m a = 0) : Spec1 Tryd.prog 127 [.int .i64 (m : Nat), .int .i64 a, .int .i64 n] w (.int .i64 (pw m (lo m a) n : Nat)) := by
  have hp := N_pos hm
  have hlo := hm.lo
  have hhi := hm.hi
  have hN := N_succ m
  have hx := lo_lt m a
  have hb := tmod_bd hm n
  refine spec_of Tryd.func127 rfl Tryd.ntmps127 rfl ?_
  refine CW.seq ?_
  refine CW.reg [0] rfl ?_
  refine s_as 6 rfl rfl ?_
  refine SX.next ?_
  refine CW.seq ?_
  refine CW.reg [0, 1, 2, 3, 4] rfl ?_
  refine s_mv 8 rfl rfl ?_
  refine s_conv 9 rfl rfl (u64_nat hm) ?_
  refine s_shl 10 rfl rfl rfl (by omega) (shl_one hm) ?_
  refine s_sub 11 rfl rfl rfl (r := (N m : Nat)) (by rw [sizem1]; exact w64 (by omega)) ?_
  refine s_as 7 rfl rfl ?_
  refine SX.next ?_
  refine CW.seq ?_
  refine CW.seq ?_
  refine CW.reg [0, 1, 2, 3] rfl ?_
  refine s_mv 12 rfl rfl ?_
  refine s_mv 13 rfl rfl ?_
  refine s_call1 14 rfl rfl rfl rfl (fun w hw => rlow_spec m _ _ hm) (fun _ _ => trivial) ?_
  refine s_eq 15 rfl rfl rfl (decide_eq_true (by omega)) ?_
  refine SX.next ?_
  refine CW.condT rfl ?_
  refine CW.seq ?_
  refine CW.seq ?_
  refine CW.reg [0, 1] rfl ?_
  refine s_mv 16 rfl rfl ?_
  refine s_eq 17 rfl rfl rfl rfl ?_
  refine SX.next ?_
  refine CW.test rfl (fun hc => ?_) (fun hc => ?_)
  · skip
    refine CW.seq ?_
    refine CW.reg [0] rfl ?_
    refine s_as 6 rfl rfl ?_
    refine SX.next ?_
    refine CW.ret ?_
    exact KN.ret (rs := [.tmp 6]) Tryd.results127 rfl (fun w hw => ⟨by rw [pw_zero h0, if_pos hc]; rfl, hw⟩)
  · skip
    refine CW.skip ?_
    refine KN.code ?_
    refine CW.seq ?_
    refine CW.reg [0] rfl ?_
    refine s_as 6 rfl rfl ?_
    refine SX.next ?_
    refine CW.ret ?_
    exact KN.ret (rs := [.tmp 6]) Tryd.results127 rfl (fun w hw => ⟨by rw [pw_zero h0, if_neg hc]; rfl, hw⟩)

theorem rpow_some (m : Nat) (a n : Int) (w : World) (hm : Ok m) (h0 : lo m a ≠ 0) : Spec1 Tryd.prog 127 [.int .i64 (m : Nat), .int .i64 a, .int .i64 n] w (.int .i64 (pw m (lo m a) n : Nat)) := by
  have hp := N_pos hm
  have hlo := hm.lo
  have hhi := hm.hi
  have hN := N_succ m
  have hx := lo_lt m a
  have hb := tmod_bd hm n
  refine spec_of Tryd.func127 rfl Tryd.ntmps127 rfl ?_
  refine CW.seq ?_
  refine CW.reg [0] rfl ?_
  refine s_as 6 rfl rfl ?_
  refine SX.next ?_
  refine CW.seq ?_
  refine CW.reg [0, 1, 2, 3, 4] rfl ?_
  refine s_mv 8 rfl rfl ?_
  refine s_conv 9 rfl rfl (u64_nat hm) ?_
  refine s_shl 10 rfl rfl rfl (by omega) (shl_one hm) ?_
  refine s_sub 11 rfl rfl rfl (r := (N m : Nat)) (by rw [sizem1]; exact w64 (by omega)) ?_
  refine s_as 7 rfl rfl ?_
  refine SX.next ?_
  refine CW.seq ?_
  refine CW.seq ?_
  refine CW.reg [0, 1, 2, 3] rfl ?_
  refine s_mv 12 rfl rfl ?_
  refine s_mv 13 rfl rfl ?_
  refine s_call1 14 rfl rfl rfl rfl (fun w hw => rlow_spec m _ _ hm) (fun _ _ => trivial) ?_
  refine s_eq 15 rfl rfl rfl (decide_eq_false (by omega)) ?_
  refine SX.next ?_
  refine CW.condF rfl ?_
  refine CW.skip ?_
  refine KN.code ?_
  refine CW.seq ?_
  refine CW.reg [0, 1, 2, 3, 4, 5, 6, 7, 8, 9, 10] rfl ?_
  refine s_mv 18 rfl rfl ?_
  refine s_mv 19 rfl rfl ?_
  refine s_mv 20 rfl rfl ?_
  refine s_mv 21 rfl rfl ?_
  refine s_rem 22 rfl rfl rfl (by omega) rfl ?_
  refine s_mv 23 rfl rfl ?_
  refine s_add 24 rfl rfl rfl (w64 (by omega)) ?_
  refine s_mv 25 rfl rfl ?_
  refine s_rem 26 rfl rfl rfl (by omega) (em_pos2 hm n) ?_
  refine s_call1 27 rfl rfl rfl rfl (v := .int .i64 (pw m (lo m a) n : Nat)) (fun w _ => by rw [pw_fpw hm hx h0]; exact power_spec m _ _ _ hm (by have := em_lt hm n; omega)) (fun _ _ => trivial) ?_
  refine s_as 6 rfl rfl ?_
  refine SX.next ?_
  refine CW.ret ?_
  exact KN.ret (rs := [.tmp 6]) Tryd.results127 rfl (fun w hw => ⟨rfl, hw.nothing⟩)

theorem rpow_spec (m : Nat) (a n : Int) (w : World) (hm : Ok m) : Spec1 Tryd.prog 127 [.int .i64 (m : Nat), .int .i64 a, .int .i64 n] w (.int .i64 (pw m (lo m a) n : Nat)) := by
  by_cases h0 : lo m a = 0
  · exact rpow_zero m a n w hm h0
  · exact rpow_some m a n w hm h0

theorem rexp_spec (m : Nat) (n : Int) (w : World) (hm : Ok m) : Spec1 Tryd.prog 86 [.int .i64 (m : Nat), .int .i64 n] w (.int .i64 (ex m (em m n) : Nat)) := by
  refine spec_of Tryd.func86 rfl Tryd.ntmps86 rfl ?_
  refine CW.seq ?_
  refine CW.reg [0] rfl ?_
  refine s_as 4 rfl rfl ?_
  refine SX.next ?_
  refine CW.seq ?_
  refine CW.reg [0, 1, 2, 3] rfl ?_
  refine s_mv 5 rfl rfl ?_
  refine s_mv 6 rfl rfl ?_
  refine s_call1 7 rfl rfl rfl rfl (v := .int .i64 (ex m (em m n) : Nat)) (fun w _ => by have := rpow_spec m 2 n w hm; rw [lo_two hm, pw_two hm] at this; exact this) (fun _ _ => trivial) ?_
  refine s_as 4 rfl rfl ?_
  refine SX.next ?_
  refine CW.ret ?_
  exact KN.ret (rs := [.tmp 4]) Tryd.results86 rfl (fun w hw => ⟨rfl, hw.nothing⟩)
end Go.Proofs.YtcdmmfpgeagimaaDoor
end
section
/- Tables of truth values. No condition. -/
namespace Go.Proofs.YtcdmmfpgeagimaaDoor
open Go Go.Sx Go.Fm
def btab (n : Nat) (p : Nat → Bool) : Array Value := ((List.range n).map (fun k => .bool (p k))).toArray
theorem btab_size (n : Nat) (p : Nat → Bool) : (btab n p).size = n := by simp [btab]
theorem btab_at {n k : Nat} {p : Nat → Bool} (h : k < n) : (btab n p)[k]? = some (.bool (p k)) := by simp [btab, h]
theorem btab_cong {n : Nat} {p q : Nat → Bool} (h : ∀ k, k < n → p k = q k) : btab n p = btab n q := by
  unfold btab
  congr 1
  exact List.map_congr_left (fun k hk => by rw [h k (List.mem_range.1 hk)])
theorem btab_zero (n : Nat) : (List.replicate n (.bool false)).toArray = btab n (fun _ => false) := by
  unfold btab
  congr 1
  exact (List.map_const' ..).symm ▸ by simp
theorem btab_set {n i : Nat} {p : Nat → Bool} (b : Bool) : (btab n p).setIfInBounds i (.bool b) = btab n (fun k => if k = i then b else p k) := by
  unfold btab
  rw [List.setIfInBounds_toArray]
  congr 1
  apply List.ext_getElem
  · simp
  · intro j h1 h2
    rw [List.getElem_set]
    simp only [List.getElem_map, List.getElem_range]
    by_cases h : i = j
    · rw [if_pos h, if_pos h.symm]
    · rw [if_neg h, if_neg (fun e => h e.symm)]
def memF (Z : List Nat) (k : Nat) : Bool := decide (k ∈ Z)
theorem memF_next (Z : List Nat) (x : Nat) : (fun k => if k = x then true else memF Z k) = memF (Z ++ [x]) := by
  funext k
  unfold memF
  by_cases hk : k = x
  · rw [if_pos hk, hk]; simp
  · rw [if_neg hk]; simp [hk]
theorem memF_nil : memF [] = fun _ => false := by funext k; simp [memF]
end Go.Proofs.YtcdmmfpgeagimaaDoor
end
section
/- Cosets, walked: the program's and the document's. Conditions: the field may be. -/
namespace Go.Proofs.YtcdmmfpgeagimaaDoor
open Go Go.Sx Go.Fm
set_option maxRecDepth 100000
def leI (x y : Int) : Bool := decide (x ≤ y)
theorem sortI_spec {F : Nat → Prop} {w₀ w : World} {R : List Atom} {A : Option Addr} {n c : Nat} (zs : List Int) (hz : zs.length = n) (hn : n ≠ 0) (hsz : n ≤ 1000000) (h : St F w₀ (own 3 1 A n c (ints .i64 zs) :: R) w) :
    Calls Tryd.prog 156 #[.slice A n c] w (fun e w' => ∃ _x : Unit, e = .returned (.tuple #[]) ∧ True ∧ St F w₀ (own 3 1 A n c (ints .i64 (zs.mergeSort leI)) :: R) w') := by
  subst hz
  obtain ⟨D, ⟨⟨h1, h2⟩, hD⟩, hlt, _⟩ := h.work (i := 0) rfl
  rcases h2 with ⟨_, h3⟩ | ⟨g, cap, cur, hv, hb, hh, hc, hm, hs, ht⟩
  · exact absurd h3 hn
  · injection hv with hA _ hcp
    subst hA
    subst hcp
    refine Calls.mono (Tryd.slices_Sort_int g 0 c zs w (fun j hj => ⟨?_, ?_⟩) (hlt g ((hD g).2 ⟨by simp, rfl⟩)) (by omega)) ?_
    · have hj2 : j < zs.length := by simpa using hj
      have := h.ownCell (q := 0) (j := j) (v := .int .i64 (zs.getD j 0)) rfl (intsAt hj2)
      show w.cell? ⟨ob (some ⟨g, 0, none⟩), 0 + j, none⟩ = _
      rw [this, getElem!_pos _ j hj]
      simp [hj2]
    · exact h.ownFree (q := 0) (j := 0 + j) rfl hn
    · rintro e w' ⟨he, N, os, hw⟩
      subst hw
      exact ⟨(), he, trivial, St.sorted h (List.length_mergeSort ..)⟩
theorem sorted_of {l : List Nat} : ∃ s : List Nat, (l.map Int.ofNat).mergeSort leI = s.map Int.ofNat ∧ s.Perm l ∧ s.Pairwise (· ≤ ·) := by
  have hp := List.mergeSort_perm (l.map Int.ofNat) leI
  have hs := List.pairwise_mergeSort (le := leI) (fun a b c h1 h2 => decide_eq_true (Int.le_trans (of_decide_eq_true h1) (of_decide_eq_true h2))) (fun a b => by unfold leI; rcases Int.le_total a b with h | h <;> simp [h]) (l.map Int.ofNat)
  refine ⟨((l.map Int.ofNat).mergeSort leI).map Int.toNat, ?_, ?_, ?_⟩
  · rw [List.map_map]
    refine ((List.map_congr_left (fun x hx => ?_)).trans (List.map_id _)).symm
    obtain ⟨y, _, rfl⟩ := List.mem_map.1 (hp.mem_iff.1 hx)
    rfl
  · have := hp.map Int.toNat
    rwa [List.map_map, show (Int.toNat ∘ Int.ofNat) = id from rfl, List.map_id] at this
  · exact List.Pairwise.map _ (fun a b h => by have := of_decide_eq_true h; omega) hs
theorem cos_sort {m : Nat} (hm : Ok m) {i k : Nat} (h : cst m i k ∈ orb m i k) (hn : (orb m i k).Nodup) : ((orb m i k).map Int.ofNat).mergeSort leI = (cosP m i).map Int.ofNat := by
  obtain ⟨s, e, hp, hs⟩ := sorted_of (l := orb m i k)
  rw [e, cos_sorted hm h hn hp hs]
theorem tmod_lt2 {k : Int} (hk : 0 < k) (m : Int) : -k < m.tmod k ∧ m.tmod k < k := by
  have h1 := Int.emod_nonneg m (b := k) (by omega)
  have h2 := Int.emod_lt_of_pos m hk
  rw [Int.tmod_eq_emod]
  split <;> omega
theorem polyI_ne {m : Nat} (hm : Ok m) : ¬ ((polyI (m : Nat) : Nat) : Int) = 0 := fun h => by
  have := (polyI_zero _).1 h
  have h1 := hm.lo
  have h2 := hm.hi
  omega
theorem cos_filter {m : Nat} (hm : Ok m) {i k : Nat} (h : cst m i k ∈ orb m i k) : (List.range (N m)).filter (memF (orb m i k)) = cosP m i := by
  unfold cosP
  refine List.filter_congr (fun x _ => ?_)
  unfold memF
  rw [decide_eq_decide, orb_all hm h]
  unfold cosP
  rw [List.mem_filter, decide_eq_true_eq]
  refine ⟨fun hx => hx.2, fun hx => ⟨?_, hx⟩⟩
  obtain ⟨j, _, e⟩ := hx
  rw [← e]
  exact List.mem_range.2 (cst_lt hm i j)
theorem filt_yes {p : Nat → Bool} {k : Nat} (h : p k = true) : (List.range (k + 1)).filter p = (List.range k).filter p ++ [k] := by
  rw [List.range_succ, List.filter_append]; simp [h]
theorem filt_no {p : Nat → Bool} {k : Nat} (h : ¬ p k = true) : (List.range (k + 1)).filter p = (List.range k).filter p := by
  rw [List.range_succ, List.filter_append]; simp [h]
theorem filt_len (p : Nat → Bool) (k : Nat) : ((List.range k).filter p).length ≤ k := by
  have := List.length_filter_le p (List.range k); simpa using this
theorem mem_nat {l : List Nat} {x : Nat} : ((x : Nat) : Int) ∈ l.map Int.ofNat ↔ x ∈ l := by
  rw [List.mem_map]
  constructor
  · rintro ⟨y, hy, e⟩
    have : y = x := Int.ofNat.inj e
    rwa [← this]
  · intro h; exact ⟨x, h, rfl⟩
theorem getD_mem {l : List Int} {i : Nat} (h : i < l.length) : l.getD i 0 ∈ l := by
  rw [List.getD_eq_getElem?_getD, List.getElem?_eq_getElem h]; exact List.getElem_mem h

theorem polyM_any (m : Int) (w : World) : Spec1 Tryd.prog 138 [.int .i64 m] w (.int .i64 (polyI m : Nat)) := by
  refine spec_of Tryd.func138 rfl Tryd.ntmps138 rfl ?_
  refine CW.seq ?_
  refine CW.reg [0] rfl ?_
  refine s_as 2 rfl rfl ?_
  refine SX.next ?_
  refine CW.seq ?_
  refine CW.reg [0, 1, 2] rfl ?_
  refine s_buildA 4 rfl rfl (cells := polyC) rfl ?_
  refine s_alloc 3 rfl (fun _ _ => trivial) (fun ga => ?_)
  refine s_stAll 0 rfl rfl (by kernel_rfl) rfl rfl rfl (by decide) (fun _ _ => trivial) ?_
  refine SX.next ?_
  refine CW.seq ?_
  refine CW.seq ?_
  refine CW.reg [0, 1, 2, 3, 4, 5] rfl ?_
  refine s_mv 5 rfl rfl ?_
  refine s_lt 6 rfl rfl rfl rfl ?_
  refine s_mv 7 rfl rfl ?_
  refine SX.bool 7 rfl (fun hb => ?_) (fun hb => ?_)
  · skip
    replace hb := of_decide_eq_true hb
    refine SX.skip rfl ?_
    refine SX.skip rfl ?_
    refine s_pickT 10 rfl rfl rfl ?_
    refine SX.next ?_
    refine CW.condT rfl ?_
    refine CW.seq ?_
    refine CW.reg [0] rfl ?_
    refine s_as 2 rfl rfl ?_
    refine SX.next ?_
    refine CW.ret ?_
    exact KN.ret (rs := [.tmp 2]) Tryd.results138 rfl (fun w hw => ⟨by rw [oneOf, ← polyI_bad (.inl hb)]; rfl, hw.nothing⟩)
  · skip
    replace hb := of_decide_eq_false hb
    refine s_mv 8 rfl rfl ?_
    refine s_gt 9 rfl rfl rfl rfl ?_
    refine s_pickF 10 rfl rfl rfl ?_
    refine SX.next ?_
    refine CW.test rfl (fun hc => ?_) (fun hc => ?_)
    · skip
      refine CW.seq ?_
      refine CW.reg [0] rfl ?_
      refine s_as 2 rfl rfl ?_
      refine SX.next ?_
      refine CW.ret ?_
      exact KN.ret (rs := [.tmp 2]) Tryd.results138 rfl (fun w hw => ⟨by rw [oneOf, ← polyI_bad (.inr hc)]; rfl, hw.nothing⟩)
    · skip
      refine CW.skip ?_
      refine KN.code ?_
      refine CW.seq ?_
      refine CW.reg [0, 1, 2, 3, 4] rfl ?_
      refine s_mv 11 rfl rfl ?_
      refine s_sub 12 rfl rfl rfl (w64 (by omega)) ?_
      refine s_iaR 13 (m - 3).toNat rfl rfl rfl (by omega) (by omega) ?_
      refine s_ldB 14 0 rfl rfl rfl (by rw [Nat.zero_add, Nat.mul_one]; exact polyC_at hb hc) ?_
      refine s_as 2 rfl rfl ?_
      refine SX.next ?_
      refine CW.ret ?_
      exact KN.ret (rs := [.tmp 2]) Tryd.results138 rfl (fun w hw => ⟨rfl, hw.nothing⟩)

theorem idx_spec (A : Option Addr) (n c : Nat) (l : List Int) (v : Int) (w : World) (ha : Has (sl 1 A n (ints .i64 l)) w) (hn : n ≤ 4294967296) : SpecX Tryd.prog 157 [.slice A n c, .int .i64 v] w (X := Int) (fun r => .int .i64 r) (fun r => (0 ≤ r ↔ v ∈ l)) (fun _ => []) := by
  have hla := ints_len ha
  subst hla
  refine spec_of Tryd.func157 rfl Tryd.ntmps157 rfl ?_
  refine CW.seq ?_
  refine CW.reg [0] rfl ?_
  refine s_as 4 rfl rfl ?_
  refine SX.next ?_
  refine CW.seq ?_
  refine CW.seq ?_
  refine CW.reg [0, 1, 2] rfl ?_
  refine s_mv 6 rfl rfl ?_
  refine s_len 7 rfl rfl ?_
  refine s_mv 8 rfl rfl ?_
  refine SX.next ?_
  refine CW.block ?_
  refine CW.loop (G := Nat) (fun i => [(0, .slice A l.length c), (1, .int .i64 v), (7, .int .i64 (l.length : Nat)), (8, .int .i64 (i : Nat))]) (fun _ => Sto w []) (fun i => i ≤ l.length ∧ ∀ j, j < i → v ≠ l.getD j 0) (fun i => l.length - i) 0 ⟨rfl, rfl, rfl, rfl, trivial⟩ (fun _ h => h) ⟨Nat.zero_le _, fun j hj => absurd hj (Nat.not_lt_zero _)⟩ ?_
  rintro i ⟨hi, hno⟩
  refine CW.seq ?_
  refine CW.reg [0] rfl ?_
  refine s_lt 9 rfl rfl rfl rfl ?_
  refine SX.next ?_
  refine CW.seq ?_
  refine CW.test rfl (fun hc => ?_) (fun hc => ?_)
  · skip
    refine CW.skip ?_
    refine KN.code ?_
    refine CW.seq ?_
    refine CW.block ?_
    refine CW.seq ?_
    refine CW.reg [0, 1] rfl ?_
    refine s_mv 10 rfl rfl ?_
    refine s_as 5 rfl rfl ?_
    refine SX.next ?_
    refine CW.seq ?_
    refine CW.reg [0, 1, 2, 3, 4, 5] rfl ?_
    refine s_mv 11 rfl rfl ?_
    refine s_mv 12 rfl rfl ?_
    refine s_mv 13 rfl rfl ?_
    refine s_iaV 14 i (fun w hw => hw.old ha) rfl rfl rfl rfl (by omega) ?_
    refine s_ldV 15 (fun w hw => hw.old ha) rfl rfl (by rw [Nat.mul_one]; exact intsAt (by omega)) (by omega) ?_
    refine s_eq 16 rfl rfl rfl rfl ?_
    refine SX.next ?_
    refine CW.test rfl (fun hcv => ?_) (fun hcv => ?_)
    · skip
      have hmem : v ∈ l := by rw [hcv]; exact getD_mem (by omega)
      refine CW.seq ?_
      refine CW.reg [0, 1] rfl ?_
      refine s_mv 17 rfl rfl ?_
      refine s_as 4 rfl rfl ?_
      refine SX.next ?_
      refine CW.ret ?_
      exact KN.ret (rs := [.tmp 4]) Tryd.results157 rfl (fun w hw => ⟨(i : Nat), rfl, ⟨fun _ => hmem, fun _ => by omega⟩, hw⟩)
    · skip
      refine CW.skip ?_
      refine KN.blk ?_
      refine KN.code ?_
      refine CW.reg [0, 1] rfl ?_
      refine s_add 18 rfl rfl rfl (r := ((i + 1 : Nat) : Int)) (w64 (by omega)) ?_
      refine s_mv 8 rfl rfl ?_
      refine SX.end_ ?_
      exact KN.back (i + 1) ⟨rfl, rfl, rfl, rfl, trivial⟩ (fun _ h => h) ⟨by omega, fun j hj => by by_cases h : j = i; (subst h; exact hcv); exact hno j (by omega)⟩ (by omega)
  · skip
    have hnm : v ∉ l := fun h => by
      obtain ⟨j, hj, e⟩ := List.getElem_of_mem h
      exact hno j (by omega) (by rw [← e]; simp [hj])
    refine CW.exit rfl ?_
    refine KN.code ?_
    refine CW.seq ?_
    refine CW.reg [0] rfl ?_
    refine s_as 4 rfl rfl ?_
    refine SX.next ?_
    refine CW.ret ?_
    exact KN.ret (rs := [.tmp 4]) Tryd.results157 rfl (fun w hw => ⟨-1, rfl, ⟨fun h => by omega, fun h => absurd h hnm⟩, hw⟩)

theorem has_spec (A : Option Addr) (n c : Nat) (l : List Int) (v : Int) (w : World) (ha : Has (sl 1 A n (ints .i64 l)) w) (hn : n ≤ 4294967296) : Spec1 Tryd.prog 147 [.slice A n c, .int .i64 v] w (.bool (decide (v ∈ l))) := by
  refine spec_of Tryd.func147 rfl Tryd.ntmps147 rfl ?_
  refine CW.seq ?_
  refine CW.reg [0] rfl ?_
  refine s_as 4 rfl rfl ?_
  refine SX.next ?_
  refine CW.seq ?_
  refine CW.reg [0, 1, 2, 3, 4] rfl ?_
  refine s_mv 5 rfl rfl ?_
  refine s_mv 6 rfl rfl ?_
  refine s_call 7 rfl rfl rfl rfl (fun w hw => idx_spec A n c l v w (hw.old ha) hn) (fun _ _ => trivial) (fun r hr => ?_)
  refine s_ge 8 rfl rfl rfl (r := decide (v ∈ l)) (by rw [decide_eq_decide]; exact hr) ?_
  refine s_as 4 rfl rfl ?_
  refine SX.next ?_
  refine CW.ret ?_
  exact KN.ret (rs := [.tmp 4]) Tryd.results147 rfl (fun w hw => ⟨rfl, hw.nothing⟩)

theorem coset_spec (m : Nat) (i : Int) (w : World) (hm : Ok m) : SpecLE Tryd.prog 146 [.int .i64 (m : Nat), .int .i64 i] w (cosP m (em m i)) := by
  have hNs := N_succ m
  have hNp := N_pos hm
  have hmh := hm.hi
  have hpo := polyI_ne hm
  have htb := tmod_lt2 (k := ((N m) : Nat)) (by omega) i
  have hel := em_lt hm i
  refine spec_of Tryd.func146 rfl Tryd.ntmps146 rfl ?_
  refine CW.seq ?_
  refine CW.reg [0, 1] rfl ?_
  refine s_as 4 rfl rfl ?_
  refine s_as 5 rfl rfl ?_
  refine SX.next ?_
  refine CW.seq ?_
  refine CW.seq ?_
  refine CW.reg [0, 1, 2] rfl ?_
  refine s_mv 8 rfl rfl ?_
  refine s_call1 9 rfl rfl rfl rfl (fun w hw => polyM_any _ w) (fun _ _ => trivial) ?_
  refine s_eq 10 rfl rfl rfl (decide_eq_false hpo) ?_
  refine SX.next ?_
  refine CW.condF rfl ?_
  refine CW.skip ?_
  refine KN.code ?_
  refine CW.seq ?_
  refine CW.reg [0, 1, 2, 3] rfl ?_
  refine s_mv 12 rfl rfl ?_
  refine s_shl 13 rfl rfl rfl (by omega) (shl_one hm) ?_
  refine s_sub 14 rfl rfl rfl (r := (((N m) : Nat) : Int)) (by rw [show (((N m) + 1 : Nat) : Int) - 1 = (((N m) : Nat) : Int) by omega]; exact w64 (by omega)) ?_
  refine s_as 6 rfl rfl ?_
  refine SX.next ?_
  refine CW.seq ?_
  refine CW.reg [0, 1, 2, 3, 4, 5, 6, 7] rfl ?_
  refine s_mv 15 rfl rfl ?_
  refine s_mv 16 rfl rfl ?_
  refine s_rem 17 rfl rfl rfl (by omega) rfl ?_
  refine s_mv 18 rfl rfl ?_
  refine s_add 19 rfl rfl rfl (w64 (by omega)) ?_
  refine s_mv 20 rfl rfl ?_
  refine s_rem 21 rfl rfl rfl (by omega) (r := ((cst m (em m i) 0 : Nat) : Int)) (by rw [em_pos2 hm i]; unfold cst; rw [Nat.pow_zero, Nat.mul_one, Nat.mod_eq_of_lt hel]) ?_
  refine s_as 1 rfl rfl ?_
  refine SX.next ?_
  refine CW.seq ?_
  refine CW.reg [0] rfl ?_
  refine s_as 7 rfl rfl ?_
  refine SX.next ?_
  refine CW.seq ?_
  refine CW.block ?_
  refine CW.loop (G := Nat × Option Addr × Nat) (fun q => [(1, .int .i64 (cst m (em m i) q.1 : Nat)), (6, .int .i64 ((N m) : Nat)), (7, .slice q.2.1 q.1 q.2.2)]) (fun q => Sto w [own 3 1 q.2.1 q.1 q.2.2 (ints .i64 ((orb m (em m i) q.1).map Int.ofNat))]) (fun q => q.1 ≤ m ∧ (orb m (em m i) q.1).Nodup ∧ q.1 ≤ q.2.2) (fun q => m - q.1) (0, none, 0) ⟨rfl, rfl, rfl, trivial⟩ (fun _ h => h.begin_ 3 1) ⟨Nat.zero_le _, by simp [orb], Nat.le_refl _⟩ ?_
  rintro q ⟨hq, hnd, hqc⟩
  have hcl := cst_lt hm (em m i) q.1
  refine CW.seq ?_
  refine CW.seq ?_
  refine CW.reg [0, 1, 2, 3] rfl ?_
  refine s_mv 22 rfl rfl ?_
  refine s_mv 23 rfl rfl ?_
  refine s_call1 24 rfl rfl rfl rfl (v := .bool (decide (cst m (em m i) q.1 ∈ (orb m (em m i) q.1)))) (fun w hw => by have := has_spec q.2.1 q.1 q.2.2 ((orb m (em m i) q.1).map Int.ofNat) (cst m (em m i) q.1 : Nat) w ((hw.has (i := 0) rfl).of_own) (by omega); rw [decide_eq_decide.2 mem_nat] at this; exact this) (fun _ _ => trivial) ?_
  refine s_not 25 rfl rfl ?_
  refine SX.next ?_
  refine CW.cond rfl (fun hc => ?_) (fun hc => ?_)
  · skip
    have hno : cst m (em m i) q.1 ∉ (orb m (em m i) q.1) := by simpa using hc
    have hlt : q.1 < m := Nat.lt_of_le_of_ne hq (fun h => hno (by rw [h]; exact orb_end hm _))
    refine CW.skip ?_
    refine KN.code ?_
    refine CW.block ?_
    refine CW.seq ?_
    refine CW.reg [0, 1, 2, 3, 4] rfl ?_
    refine s_mv 26 rfl rfl ?_
    refine s_mv 27 rfl rfl ?_
    refine s_bsl 28 rfl rfl (cells := #[.int .i64 (cst m (em m i) q.1 : Nat)]) (by kernel_rfl) rfl (fun _ _ => trivial) (fun gb => ?_)
    refine s_app 29 1 rfl rfl rfl rfl (ys := [.int .i64 (cst m (em m i) q.1 : Nat)]) (fun w hw => Has.cong ((hw.has (i := 0) rfl).blk_sl (m := 1) rfl) rfl) rfl rfl (by omega) (by unfold maxLen; omega) (by omega) (fun _ _ _ _ => trivial) (fun A2 c2 hc2 => ?_)
    refine s_as 7 rfl rfl ?_
    refine SX.next ?_
    refine CW.reg [0, 1, 2, 3, 4] rfl ?_
    refine s_mv 30 rfl rfl ?_
    refine s_mul 31 rfl rfl rfl (r := ((2 * cst m (em m i) q.1 : Nat) : Int)) (by rw [show (2 : Int) * ((cst m (em m i) q.1 : Nat) : Int) = ((2 * cst m (em m i) q.1 : Nat) : Int) by omega]; exact w64 (by omega)) ?_
    refine s_mv 32 rfl rfl ?_
    refine s_rem 33 rfl rfl rfl (by omega) (r := ((cst m (em m i) (q.1 + 1) : Nat) : Int)) (by rw [cst_succ]; rfl) ?_
    refine s_as 1 rfl rfl ?_
    refine SX.end_ ?_
    refine KN.blk ?_
    exact KN.back (q.1 + 1, A2, c2) ⟨rfl, rfl, rfl, trivial⟩ (fun _ h => by
      have h2 := h.pick [1] rfl
      simp only [orb_succ, List.map_append, ints, List.map_cons, List.map_nil] at h2 ⊢
      exact h2) ⟨by simp only; omega, orb_nodup hnd hno, hc2⟩ (by simp only; omega)
  · skip
    have hyes : cst m (em m i) q.1 ∈ (orb m (em m i) q.1) := by simpa using hc
    have hq0 : q.1 ≠ 0 := fun h => by rw [h] at hyes; simp [orb] at hyes
    have hst := cos_sort hm hyes hnd
    have hcl2 := cos_len hm hyes hnd
    refine CW.exit rfl ?_
    refine KN.code ?_
    refine CW.seq ?_
    refine CW.reg [0, 1] rfl ?_
    refine s_mv 34 rfl rfl ?_
    refine s_callM 35 rfl rfl rfl rfl (v := fun _ : Unit => .tuple #[]) (pf := fun _ => True) (L' := fun _ => [own 3 1 q.2.1 q.1 q.2.2 (ints .i64 (((orb m (em m i) q.1).map Int.ofNat).mergeSort leI))]) (fun w hw => sortI_spec _ (by rw [List.length_map, orb_len]) hq0 (by omega) hw) (fun _ _ _ => trivial) (fun _ _ => ?_)
    refine SX.next ?_
    refine CW.seq ?_
    refine CW.reg [0, 1, 2] rfl ?_
    refine s_mv 36 rfl rfl ?_
    refine s_as 4 rfl rfl ?_
    refine s_as 5 rfl rfl ?_
    refine SX.next ?_
    refine CW.ret ?_
    exact KN.ret (rs := [.tmp 4, .tmp 5]) Tryd.results146 rfl (fun w hw => ⟨(q.2.1, q.2.2), by rw [hcl2]; rfl, by rw [hcl2]; exact hqc, by rw [hst] at hw; rw [hcl2, nats_ints]; exact hw⟩)

theorem rcoset_spec (m : Nat) (i : Int) (w : World) (hm : Ok m) : SpecL Tryd.prog 151 [.int .i64 (m : Nat), .int .i64 i] w (cosP m (em m i)) := by
  have hNs := N_succ m
  have hNp := N_pos hm
  have hmh := hm.hi
  have htb := tmod_lt2 (k := ((N m) : Nat)) (by omega) i
  have hel := em_lt hm i
  refine spec_of Tryd.func151 rfl Tryd.ntmps151 rfl ?_
  refine CW.seq ?_
  refine CW.reg [0] rfl ?_
  refine s_as 4 rfl rfl ?_
  refine SX.next ?_
  refine CW.seq ?_
  refine CW.reg [0, 1, 2, 3, 4] rfl ?_
  refine s_mv 10 rfl rfl ?_
  refine s_conv 11 rfl rfl (u64_nat hm) ?_
  refine s_shl 12 rfl rfl rfl (by omega) (shl_one hm) ?_
  refine s_sub 13 rfl rfl rfl (r := (((N m) : Nat) : Int)) (by rw [show (((N m) + 1 : Nat) : Int) - 1 = (((N m) : Nat) : Int) by omega]; exact w64 (by omega)) ?_
  refine s_as 5 rfl rfl ?_
  refine SX.next ?_
  refine CW.seq ?_
  refine CW.reg [0, 1, 2, 3, 4, 5, 6, 7] rfl ?_
  refine s_mv 14 rfl rfl ?_
  refine s_mv 15 rfl rfl ?_
  refine s_rem 16 rfl rfl rfl (by omega) rfl ?_
  refine s_mv 17 rfl rfl ?_
  refine s_add 18 rfl rfl rfl (w64 (by omega)) ?_
  refine s_mv 19 rfl rfl ?_
  refine s_rem 20 rfl rfl rfl (by omega) (r := ((cst m (em m i) 0 : Nat) : Int)) (by rw [em_pos2 hm i]; unfold cst; rw [Nat.pow_zero, Nat.mul_one, Nat.mod_eq_of_lt hel]) ?_
  refine s_as 1 rfl rfl ?_
  refine SX.next ?_
  refine CW.seq ?_
  refine CW.reg [0, 1, 2] rfl ?_
  refine s_mv 21 rfl rfl ?_
  refine s_make 22 (N m) rfl rfl rfl rfl rfl (by omega) (fun _ _ => trivial) (fun gh => ?_)
  refine s_as 6 rfl rfl ?_
  refine SX.next ?_
  refine CW.seq ?_
  refine CW.reg [0, 1] rfl ?_
  refine s_mv 23 rfl rfl ?_
  refine s_as 7 rfl rfl ?_
  refine SX.next ?_
  refine CW.seq ?_
  refine CW.block ?_
  refine CW.loop (G := Nat) (fun k => [(5, .int .i64 ((N m) : Nat)), (6, .slice (some ⟨gh, 0, none⟩) (N m) (N m)), (7, .int .i64 (cst m (em m i) k : Nat))]) (fun k => Sto w [blk gh 4 (btab (N m) (memF (orb m (em m i) k)))]) (fun k => k ≤ m ∧ (orb m (em m i) k).Nodup) (fun k => m - k) 0 ⟨rfl, rfl, rfl, trivial⟩ (fun _ h => by rw [show orb m (em m i) 0 = [] from rfl, memF_nil, ← btab_zero]; exact h) ⟨Nat.zero_le _, by simp [orb]⟩ ?_
  rintro k ⟨hk, hnd⟩
  have hcl := cst_lt hm (em m i) k
  refine CW.seq ?_
  refine CW.seq ?_
  refine CW.reg [0, 1, 2, 3, 4] rfl ?_
  refine s_mv 24 rfl rfl ?_
  refine s_mv 25 rfl rfl ?_
  refine s_ia0 26 (cst m (em m i) k) rfl rfl rfl rfl hcl ?_
  refine s_ldB 27 0 rfl rfl rfl (btab_at hcl) ?_
  refine s_not 28 rfl rfl ?_
  refine SX.next ?_
  refine CW.cond rfl (fun hc => ?_) (fun hc => ?_)
  · skip
    have hno : cst m (em m i) k ∉ (orb m (em m i) k) := by simpa [memF] using hc
    have hlt : k < m := Nat.lt_of_le_of_ne hk (fun h => hno (by rw [h]; exact orb_end hm _))
    refine CW.skip ?_
    refine KN.code ?_
    refine CW.block ?_
    refine CW.seq ?_
    refine CW.reg [0, 1, 2, 3] rfl ?_
    refine s_mv 29 rfl rfl ?_
    refine s_mv 30 rfl rfl ?_
    refine s_ia0 31 (cst m (em m i) k) rfl rfl rfl rfl hcl ?_
    refine s_stB 0 rfl rfl rfl rfl rfl (by rw [btab_size]; exact hcl) (fun _ _ => trivial) ?_
    refine SX.next ?_
    refine CW.reg [0, 1, 2, 3, 4] rfl ?_
    refine s_mv 32 rfl rfl ?_
    refine s_mul 33 rfl rfl rfl (r := ((2 * cst m (em m i) k : Nat) : Int)) (by rw [show (2 : Int) * ((cst m (em m i) k : Nat) : Int) = ((2 * cst m (em m i) k : Nat) : Int) by omega]; exact w64 (by omega)) ?_
    refine s_mv 34 rfl rfl ?_
    refine s_rem 35 rfl rfl rfl (by omega) (r := ((cst m (em m i) (k + 1) : Nat) : Int)) (by rw [cst_succ]; rfl) ?_
    refine s_as 7 rfl rfl ?_
    refine SX.end_ ?_
    refine KN.blk ?_
    exact KN.back (k + 1) ⟨rfl, rfl, rfl, trivial⟩ (fun _ h => by rw [orb_succ, ← memF_next, ← btab_set]; exact h) ⟨by omega, orb_nodup hnd hno⟩ (by omega)
  · skip
    have hyes : cst m (em m i) k ∈ (orb m (em m i) k) := by simpa [memF] using hc
    have hcf := cos_filter hm hyes
    obtain ⟨e, he⟩ : ∃ e, e = k := ⟨k, rfl⟩
    rw [← he] at hcf ⊢
    refine CW.exit rfl ?_
    refine KN.code ?_
    refine CW.seq ?_
    refine CW.reg [0] rfl ?_
    refine s_as 8 rfl rfl ?_
    refine SX.next ?_
    refine CW.seq ?_
    refine CW.seq ?_
    refine CW.reg [0] rfl ?_
    refine s_as 9 rfl rfl ?_
    refine SX.next ?_
    refine CW.block ?_
    refine CW.loop (G := Nat × Option Addr × Nat) (fun q => [(5, .int .i64 ((N m) : Nat)), (6, .slice (some ⟨gh, 0, none⟩) (N m) (N m)), (8, .slice q.2.1 ((List.range q.1).filter (memF (orb m (em m i) e))).length q.2.2), (9, .int .i64 (q.1 : Nat))]) (fun q => Sto w [own 3 1 q.2.1 ((List.range q.1).filter (memF (orb m (em m i) e))).length q.2.2 (nats .i64 ((List.range q.1).filter (memF (orb m (em m i) e)))), blk gh 4 (btab (N m) (memF (orb m (em m i) e)))]) (fun q => q.1 ≤ (N m) ∧ ((List.range q.1).filter (memF (orb m (em m i) e))).length ≤ q.2.2) (fun q => (N m) - q.1) (0, none, 0) ⟨rfl, rfl, rfl, rfl, trivial⟩ (fun _ h => h.begin_ 3 1) ⟨Nat.zero_le _, Nat.le_refl _⟩ ?_
    rintro q ⟨hq, hqc⟩
    have hfl := filt_len (memF (orb m (em m i) e)) q.1
    refine CW.seq ?_
    refine CW.seq ?_
    refine CW.reg [0, 1, 2] rfl ?_
    refine s_mv 36 rfl rfl ?_
    refine s_mv 37 rfl rfl ?_
    refine s_lt 38 rfl rfl rfl rfl ?_
    refine SX.next ?_
    refine CW.test rfl (fun hc => ?_) (fun hc => ?_)
    · skip
      refine CW.skip ?_
      refine KN.code ?_
      refine CW.seq ?_
      refine CW.block ?_
      refine CW.seq ?_
      refine CW.reg [0, 1, 2, 3] rfl ?_
      refine s_mv 41 rfl rfl ?_
      refine s_mv 42 rfl rfl ?_
      refine s_ia0 43 q.1 rfl rfl rfl rfl (by omega) ?_
      refine s_ldB 44 1 rfl rfl rfl (btab_at (by omega)) ?_
      refine SX.next ?_
      refine CW.cond rfl (fun hc2 => ?_) (fun hc2 => ?_)
      · skip
        have hnx := filt_yes hc2
        refine CW.reg [0, 1, 2, 3, 4] rfl ?_
        refine s_mv 45 rfl rfl ?_
        refine s_mv 46 rfl rfl ?_
        refine s_bsl 47 rfl rfl (cells := #[.int .i64 (q.1 : Nat)]) (by kernel_rfl) rfl (fun _ _ => trivial) (fun gb => ?_)
        refine s_app 48 1 rfl rfl rfl rfl (ys := [.int .i64 (q.1 : Nat)]) (fun w hw => Has.cong ((hw.has (i := 0) rfl).blk_sl (m := 1) rfl) rfl) rfl rfl (by omega) (by unfold maxLen; omega) (by omega) (fun _ _ _ _ => trivial) (fun A2 c2 hc2 => ?_)
        refine s_as 8 rfl rfl ?_
        refine SX.end_ ?_
        refine KN.blk ?_
        refine KN.code ?_
        refine CW.reg [0, 1, 2] rfl ?_
        refine s_mv 39 rfl rfl ?_
        refine s_add 40 rfl rfl rfl (r := ((q.1 + 1 : Nat) : Int)) (w64 (by omega)) ?_
        refine s_as 9 rfl rfl ?_
        refine SX.end_ ?_
        exact KN.back (q.1 + 1, A2, c2) ⟨rfl, rfl, by rw [hnx, List.length_append]; rfl, rfl, trivial⟩ (fun _ h => by
          simp only [hnx]
          rw [← nats_snoc, List.length_append]
          exact h.pick [1, 1] rfl) ⟨by simp only; omega, by simp only [hnx]; rw [List.length_append]; exact hc2⟩ (by simp only; omega)
      · skip
        have hnx := filt_no (p := memF (orb m (em m i) e)) (k := q.1) (by simp [hc2])
        refine CW.skip ?_
        refine KN.blk ?_
        refine KN.code ?_
        refine CW.reg [0, 1, 2] rfl ?_
        refine s_mv 39 rfl rfl ?_
        refine s_add 40 rfl rfl rfl (r := ((q.1 + 1 : Nat) : Int)) (w64 (by omega)) ?_
        refine s_as 9 rfl rfl ?_
        refine SX.end_ ?_
        exact KN.back (q.1 + 1, q.2) ⟨rfl, rfl, by simp only [hnx]; rfl, rfl, trivial⟩ (fun _ h => by simp only [hnx]; exact h) ⟨by simp only; omega, by simp only [hnx]; exact hqc⟩ (by simp only; omega)
    · skip
      have hqe : q.1 = (N m) := by omega
      rw [hqe] at hqc
      rw [hcf] at hqc
      refine CW.exit rfl ?_
      refine KN.code ?_
      refine CW.seq ?_
      refine CW.reg [0, 1] rfl ?_
      refine s_mv 49 rfl rfl ?_
      refine s_as 4 rfl rfl ?_
      refine SX.next ?_
      refine CW.ret ?_
      exact KN.ret (rs := [.tmp 4]) Tryd.results151 rfl (fun w hw => ⟨q.2, by rw [hqe, hcf]; rfl, hqc, by rw [hqe, hcf] at hw; exact hw.pick [0] rfl⟩)
end Go.Proofs.YtcdmmfpgeagimaaDoor
end
section
/- Bytes as text, and texts compared. No condition. -/
namespace Go.Sx
open Go

/-- The text of bytes. -/
def strB (l : List Nat) : ByteArray := strOfNums (l.map Int.ofNat)
section
variable {P : Program} {ops : Array Oper} {S : World → Prop} {K : Act → World → Prop} {p : Plan} {n : Nat} {l : List (Nat × Value)} {C : World → Prop} {fl : Bool} {i : Nat} {ty ty' ty2 : TypeId} {x y : Operand}
end
end Go.Sx
end
section
/- The contracts of package binpoly: sums of powers; and of the document's comparisons of bytes. Conditions: the lists are bytes, read where they lie. -/
namespace Go.Proofs.YtcdmmfpgeagimaaDoor
open Go Go.Lib Go.Sx Go.Fm
set_option maxRecDepth 100000

def BlG.hdr (b : BlG) : Value := .slice b.A b.l.length b.c
def ownB (b : BlG) : Atom := own 5 1 b.A b.l.length b.c (nats .u8 b.l)
structure BlG.Fine (b : BlG) (w : World) : Prop where
  has : Has (sl 1 b.A b.l.length (nats .u8 b.l)) w
  lt : ∀ x ∈ b.l, x < 256
  bd : b.l.length ≤ 1000000
  cap : b.l.length ≤ b.c
/-- The sum of the first i. -/
def sumF (f : Nat → List Nat) : Nat → List Nat
  | 0 => []
  | i + 1 => addP (sumF f i) (f i)
theorem sumF_b1 {f : Nat → List Nat} (hf : ∀ i, B1 (f i)) : ∀ i, B1 (sumF f i)
  | 0 => nil_b1
  | i + 1 => addP_b1 (sumF_b1 hf i) (hf i)
theorem sumF_congr {f g : Nat → List Nat} : ∀ {i : Nat}, (∀ j, j < i → f j = g j) → sumF f i = sumF g i
  | 0, _ => rfl
  | i + 1, h => by
    show addP (sumF f i) (f i) = addP (sumF g i) (g i)
    rw [sumF_congr (i := i) (fun j hj => h j (by omega)), h i (by omega)]
/-- Its bytes. -/
def sumY (f : Nat → List Nat) : Nat → List Nat
  | 0 => []
  | i + 1 => bys (sumF f (i + 1))
theorem sumY_eq (f : Nat → List Nat) : ∀ i, sumY f i = bys (sumF f i)
  | 0 => bys_nil.symm
  | _ + 1 => rfl
def blAt (bs : List BlG) (i : Nat) : List Nat := bl (bs.getD i ⟨none, 0, []⟩).l
end Go.Proofs.YtcdmmfpgeagimaaDoor
end
section
/- The contracts of binpoly.Of. Conditions: the exponents are read where they lie. -/
namespace Go.Proofs.YtcdmmfpgeagimaaDoor
open Go Go.Lib Go.Sx Go.Fm
set_option maxRecDepth 100000
/-- x to the number at place j. -/
def eX (l : List Int) (j : Nat) : List Nat := xP (l.getD j 0).toNat
theorem eX_b1 (l : List Int) (j : Nat) : B1 (eX l j) := xP_b1 _
/-- What Of's loop keeps: the newest first. -/
structure OfG (l : List Int) (z : Nat × (Option Addr × Nat) × List BlG) : Prop where
  le : z.1 ≤ l.length
  rng : ∀ j, j < z.1 → 0 ≤ l.getD j 0 ∧ l.getD j 0 ≤ 2048
  len : z.2.2.length = z.1
  row : ∀ j, j < z.1 → (z.2.2.reverse.getD j ⟨none, 0, []⟩).l = bys (eX l j)
  cap : ∀ b ∈ z.2.2, b.l.length ≤ b.c
  byt : ∀ b ∈ z.2.2, ∃ k, k ≤ 2048 ∧ b.l = bys (xP k)
theorem OfG.start (l : List Int) : OfG l (0, (none, 0), []) := ⟨Nat.zero_le _, fun j h => by simp at h, rfl, fun j h => by simp at h, fun b h => by simp at h, fun b h => by simp at h⟩
theorem OfG.next {l : List Int} {i k : Nat} {A A2 : Option Addr × Nat} {rs : List BlG} {q : Option Addr × Nat} (h : OfG l (i, A, rs)) (hi : i < l.length) (hk : l.getD i 0 = (k : Nat)) (hk2 : k ≤ 2048) (hq : (bys (xP k)).length ≤ q.2) : OfG l (i + 1, A2, ⟨q.1, q.2, bys (xP k)⟩ :: rs) := by
  obtain ⟨h1, h2, h3, h4, h5, h6⟩ := h
  simp only at h1 h2 h3 h4 h5 h6
  refine ⟨hi, fun j hj => ?_, by simp only [List.length_cons]; omega, fun j hj => ?_, fun b hb => ?_, fun b hb => ?_⟩
  · simp only at hj
    by_cases h : j = i
    · subst h; rw [hk]; omega
    · exact h2 j (by omega)
  · simp only at hj ⊢
    rw [List.reverse_cons, List.getD_eq_getElem?_getD]
    by_cases h : j = i
    · subst h
      rw [List.getElem?_append_right (by simp; omega)]
      simp only [List.length_reverse, h3, Nat.sub_self, List.getElem?_cons_zero, Option.getD_some]
      unfold eX
      rw [hk]
      rfl
    · rw [List.getElem?_append_left (by simp; omega), ← List.getD_eq_getElem?_getD]
      exact h4 j (by omega)
  · rcases List.mem_cons.1 hb with rfl | hb
    · exact hq
    · exact h5 b hb
  · rcases List.mem_cons.1 hb with rfl | hb
    · exact ⟨k, hk2, rfl⟩
    · exact h6 b hb
theorem sumY_congr {f g : Nat → List Nat} {i : Nat} (h : ∀ j, j < i → f j = g j) : sumY f i = sumY g i := by rw [sumY_eq, sumY_eq, sumF_congr h]
theorem OfG.done {l : List Int} {A : Option Addr × Nat} {rs : List BlG} (h : OfG l (l.length, A, rs)) : sumY (blAt rs.reverse) l.length = sumY (eX l) l.length :=
  sumY_congr (fun j hj => by
    unfold blAt
    rw [h.row j hj, bl_bys (eX_b1 l j)])
end Go.Proofs.YtcdmmfpgeagimaaDoor
end
section
/- The contracts of the document's bits and exponents, and of the chapter's examples. Conditions: the lists are read where they lie. -/
namespace Go.Proofs.YtcdmmfpgeagimaaDoor
open Go Go.Lib Go.Sx Go.Fm
set_option maxRecDepth 100000
/-- 1 where a number is not 0. -/
def nzF (l : List Int) (j : Nat) : Nat := if l.getD j 0 = 0 then 0 else 1
theorem nzF_two (l : List Int) (j : Nat) : nzF l j < 2 := by unfold nzF; split <;> omega
/-- The polynomial of the first i. -/
def nzP (l : List Int) (i : Nat) : List Nat := pl i (nzF l)
theorem cf_nzP (l : List Int) (i j : Nat) : cf (nzP l i) j = if j < i then nzF l j else 0 := cf_pl _ _ _
theorem nzP_b1 (l : List Int) (i : Nat) : B1 (nzP l i) := ⟨pl_tr (fun j => Nat.lt_trans (nzF_two l j) (by decide)), fun j => by rw [cf_nzP]; split; exact nzF_two l j; omega⟩
theorem nzP_len (l : List Int) (i : Nat) : (nzP l i).length ≤ i := by
  unfold nzP pl
  rw [trim_length]
  simpa using tl_le ((List.range i).map (nzF l))
theorem nzP_same {l : List Int} {i : Nat} (h : l.getD i 0 = 0) : nzP l (i + 1) = nzP l i := by
  refine pl_eq (fun j => ?_)
  by_cases hj : j = i
  · subst hj
    rw [if_pos (by omega), if_neg (by omega)]
    unfold nzF
    rw [if_pos h]
  · by_cases h2 : j < i
    · rw [if_pos (by omega), if_pos h2]
    · rw [if_neg (by omega), if_neg h2]
theorem or_two (x s t : Nat) : ((x ||| 2 ^ s) >>> t) % 2 = if t = s then 1 else (x >>> t) % 2 := by
  rw [shr_two, shr_two, Nat.testBit_or, Nat.testBit_two_pow]
  by_cases h : t = s
  · subst h; rw [if_pos rfl, decide_eq_true rfl, Bool.or_true]; rfl
  · rw [if_neg h, decide_eq_false (fun e => h e.symm), Bool.or_false]
theorem bitN_or {L : List Nat} {i : Nat} (hi : i / 8 < L.length) (j : Nat) : bitN (L.set (i / 8) (cf L (i / 8) ||| 2 ^ (i % 8))) j = if j = i then 1 else bitN L j := by
  unfold bitN
  rw [cf_set hi]
  by_cases h : j / 8 = i / 8
  · rw [if_pos h, or_two, ← h]
    by_cases h2 : j = i
    · subst h2; rw [if_pos rfl, if_pos rfl]
    · rw [if_neg (by omega), if_neg h2]
  · rw [if_neg h, if_neg (fun e => h (by rw [e]))]
theorem or8 {x s : Nat} (hx : x < 256) (hs : s < 8) : x ||| 2 ^ s < 256 := Nat.or_lt_two_pow (n := 8) hx (Nat.pow_lt_pow_right (by omega) hs)
/-- One more bit is laid. -/
theorem nzP_set {l : List Int} {i : Nat} {L : List Nat} (h0 : l.getD i 0 ≠ 0) (hl : ∀ x ∈ L, x < 256) (hlen : L.length = i / 8 + 1) (hb : ∀ j, bitN L j = bitN (bys (nzP l i)) j) : L.set (i / 8) (cf L (i / 8) ||| 2 ^ (i % 8)) = bys (nzP l (i + 1)) := by
  have hlt : ∀ x ∈ L.set (i / 8) (cf L (i / 8) ||| 2 ^ (i % 8)), x < 256 := set_lt hl (or8 (cf_lt8 hl _) (Nat.mod_lt _ (by omega)))
  have ht : trim (L.set (i / 8) (cf L (i / 8) ||| 2 ^ (i % 8))) = L.set (i / 8) (cf L (i / 8) ||| 2 ^ (i % 8)) := by
    refine trim_of ?_
    have h1 := tl_le (L.set (i / 8) (cf L (i / 8) ||| 2 ^ (i % 8)))
    have h2 : (L.set (i / 8) (cf L (i / 8) ||| 2 ^ (i % 8))).length = i / 8 + 1 := by rw [List.length_set, hlen]
    refine Nat.le_antisymm h1 (Nat.le_of_not_lt fun hlt => ?_)
    have h3 := cf_hi _ (i / 8) (show tl (L.set (i / 8) (cf L (i / 8) ||| 2 ^ (i % 8))) ≤ i / 8 by omega)
    have h4 := bitN_or (L := L) (i := i) (by omega) i
    rw [if_pos rfl, bitN_zero h3] at h4
    cases h4
  rw [← ht]
  refine bys_of hlt (nzP_b1 l (i + 1)) (fun j => ?_)
  rw [bitN_or (by omega), hb, bitN_bys (nzP_b1 l i).le, cf_nzP, cf_nzP]
  by_cases h : j = i
  · subst h
    rw [if_pos rfl, if_pos (by omega)]
    unfold nzF
    rw [if_neg h0]
  · rw [if_neg h]
    by_cases h2 : j < i
    · rw [if_pos h2, if_pos (by omega)]
    · rw [if_neg h2, if_neg (by omega)]
theorem bitN_app (L : List Nat) (j : Nat) : bitN (L ++ [0]) j = bitN L j := by
  have : cf (L ++ [0]) (j / 8) = cf L (j / 8) := by
    unfold cf
    simp only [List.getD_eq_getElem?_getD]
    by_cases h : j / 8 < L.length
    · rw [List.getElem?_append_left h]
    · rw [List.getElem?_append_right (by omega), List.getElem?_eq_none (show L.length ≤ j / 8 by omega)]
      by_cases h2 : j / 8 - L.length = 0
      · rw [h2]; rfl
      · rw [List.getElem?_eq_none (by simp; omega)]
  unfold bitN
  rw [this]
structure BitG (l : List Int) (i : Nat) (L : List Nat) : Prop where
  len : L.length ≤ i / 8 + 1
  lt : ∀ x ∈ L, x < 256
  bit : ∀ j, bitN L j = bitN (bys (nzP l i)) j
theorem BitG.start (l : List Int) (i : Nat) : BitG l i (bys (nzP l i)) := ⟨by have := bys_len (nzP l i); have := nzP_len l i; omega, (bys_tr (nzP_b1 l i).le).lt, fun _ => rfl⟩
theorem BitG.next {l : List Int} {i : Nat} {L : List Nat} (h : BitG l i L) (hl : L.length ≤ i / 8) : BitG l i (L ++ [0]) := ⟨by simp; omega, fun x hx => by
  rcases List.mem_append.1 hx with hx | hx
  · exact h.lt x hx
  · simp at hx; omega, fun j => by rw [bitN_app, h.bit]⟩
theorem nats8_snoc (a : List Nat) : nats .u8 a ++ [.int .u8 0] = nats .u8 (a ++ [0]) := by simp [nats]

theorem rbits_spec (A : Option Addr) (n c : Nat) (l : List Int) (w : World) (ha : Has (sl 1 A n (ints .i64 l)) w) (hn : n ≤ 1000000) : SpecB Tryd.prog 98 [.slice A n c] w (bys (nzP l l.length)) := by
  have hla := ints_len ha
  subst hla
  refine spec_of Tryd.func98 rfl Tryd.ntmps98 rfl ?_
  refine CW.seq ?_
  refine CW.reg [0] rfl ?_
  refine s_as 2 rfl rfl ?_
  refine SX.next ?_
  refine CW.seq ?_
  refine CW.reg [0] rfl ?_
  refine s_as 3 rfl rfl ?_
  refine SX.next ?_
  refine CW.seq ?_
  refine CW.seq ?_
  refine CW.reg [0] rfl ?_
  refine s_as 4 rfl rfl ?_
  refine SX.next ?_
  refine CW.block ?_
  refine CW.loop (G := Nat × List Nat × (Option Addr × Nat)) (fun z => [(0, .slice A l.length c), (3, .slice z.2.2.1 z.2.1.length z.2.2.2), (4, .int .i64 (z.1 : Nat))]) (fun z => Sto w [own 5 1 z.2.2.1 z.2.1.length z.2.2.2 (nats .u8 z.2.1)]) (fun z => (z.1 ≤ l.length ∧ z.2.1 = bys (nzP l z.1)) ∧ z.2.1.length ≤ z.2.2.2) (fun z => l.length - z.1) (0, [], (none, 0)) ⟨rfl, rfl, rfl, trivial⟩ (fun _ h => h.begin_ _ 1) ⟨⟨Nat.zero_le _, bys_nil.symm⟩, Nat.le_refl _⟩ ?_
  rintro ⟨i, L, q⟩ ⟨⟨hi, hL⟩, hq⟩
  simp only at hi hL hq
  dsimp only
  refine CW.seq ?_
  refine CW.seq ?_
  refine CW.reg [0, 1, 2, 3] rfl ?_
  refine s_mv 5 rfl rfl ?_
  refine s_mv 6 rfl rfl ?_
  refine s_len 7 rfl rfl ?_
  refine s_lt 8 rfl rfl rfl rfl ?_
  refine SX.next ?_
  refine CW.test rfl (fun hc => ?_) (fun hc => ?_)
  · skip
    refine CW.skip ?_
    refine KN.code ?_
    refine CW.seq ?_
    refine CW.block ?_
    refine CW.seq ?_
    refine CW.seq ?_
    refine CW.reg [0, 1, 2, 3, 4] rfl ?_
    refine s_mv 11 rfl rfl ?_
    refine s_mv 12 rfl rfl ?_
    refine s_iaV 13 i (fun w hw => hw.old ha) rfl rfl rfl rfl (by omega) ?_
    refine s_ldV 14 (fun w hw => hw.old ha) rfl rfl (by rw [Nat.mul_one]; exact intsAt (by omega)) (by omega) ?_
    refine s_eq 15 rfl rfl rfl rfl ?_
    refine SX.next ?_
    refine CW.test rfl (fun hc => ?_) (fun hc => ?_)
    · skip
      have hnx := nzP_same (l := l) (i := i) (by assumption)
      refine CW.exit rfl ?_
      refine KN.code ?_
      refine CW.reg [0, 1, 2] rfl ?_
      refine s_mv 9 rfl rfl ?_
      refine s_add 10 rfl rfl rfl (r := ((i + 1 : Nat) : Int)) (w64 (by omega)) ?_
      refine s_as 4 rfl rfl ?_
      refine SX.end_ ?_
      exact KN.back (i + 1, L, q) ⟨rfl, rfl, rfl, trivial⟩ (fun _ h => h) ⟨⟨by simp only; omega, by simp only; rw [hnx]; exact hL⟩, hq⟩ (by simp only; omega)
    · skip
      have h0 : l.getD i 0 ≠ 0 := by assumption
      have hst := BitG.start l i
      rw [← hL] at hst
      refine CW.skip ?_
      refine KN.code ?_
      refine CW.seq ?_
      refine CW.block ?_
      refine CW.loop (G := List Nat × (Option Addr × Nat)) (fun y => [(0, .slice A l.length c), (3, .slice y.2.1 y.1.length y.2.2), (4, .int .i64 (i : Nat))]) (fun y => Sto w [own 5 1 y.2.1 y.1.length y.2.2 (nats .u8 y.1)]) (fun y => BitG l i y.1 ∧ y.1.length ≤ y.2.2) (fun y => i / 8 + 1 - y.1.length) (L, q) ⟨rfl, rfl, rfl, trivial⟩ (fun _ h => h) ⟨hst, hq⟩ ?_
      rintro ⟨L2, q2⟩ ⟨hg, hq2⟩
      have hgl := hg.len
      simp only at hg hq2 hgl
      dsimp only
      refine CW.seq ?_
      refine CW.seq ?_
      refine CW.reg [0, 1, 2, 3, 4] rfl ?_
      refine s_mv 16 rfl rfl ?_
      refine s_len 17 rfl rfl ?_
      refine s_mv 18 rfl rfl ?_
      refine s_quo 19 rfl rfl rfl (by omega) (quo8 i (by omega)) ?_
      refine s_le 20 rfl rfl rfl rfl ?_
      refine SX.next ?_
      refine CW.test rfl (fun hc => ?_) (fun hc => ?_)
      · skip
        refine CW.skip ?_
        refine KN.code ?_
        refine CW.block ?_
        refine CW.reg [0, 1, 2, 3] rfl ?_
        refine s_mv 21 rfl rfl ?_
        refine s_bsl 22 rfl rfl (cells := #[.int .u8 0]) (by kernel_rfl) rfl (fun _ _ => trivial) (fun gb => ?_)
        refine s_app 23 1 rfl rfl rfl rfl (ys := [.int .u8 0]) (fun w hw => Has.cong ((hw.has (i := 0) rfl).blk_sl (m := 1) rfl) rfl) rfl rfl (by omega) (by unfold maxLen; omega) (by omega) (fun _ _ _ _ => trivial) (fun A2 c2 hc2 => ?_)
        refine s_as 3 rfl rfl ?_
        refine SX.end_ ?_
        refine KN.blk ?_
        exact KN.back (L2 ++ [0], (A2, c2)) ⟨rfl, by simp only [List.length_append, List.length_singleton]; rfl, rfl, trivial⟩ (fun _ h => by simp only [List.length_append, List.length_singleton]; rw [← nats8_snoc]; exact h.pick [1] rfl) ⟨hg.next (by omega), by simp only [List.length_append, List.length_singleton]; exact hc2⟩ (by simp only [List.length_append, List.length_singleton]; omega)
      · skip
        have hle : L2.length = i / 8 + 1 := by omega
        have hset := nzP_set h0 hg.lt hle hg.bit
        refine CW.exit rfl ?_
        refine KN.code ?_
        refine CW.reg [0, 1, 2, 3, 4, 5, 6, 7, 8, 9, 10, 11, 12, 13, 14] rfl ?_
        refine s_mv 24 rfl rfl ?_
        refine s_mv 25 rfl rfl ?_
        refine s_quo 26 rfl rfl rfl (by omega) (quo8 i (by omega)) ?_
        refine s_mv 27 rfl rfl ?_
        refine s_mv 28 rfl rfl ?_
        refine s_quo 29 rfl rfl rfl (by omega) (quo8 i (by omega)) ?_
        refine s_iaO 30 0 (i / 8) rfl rfl rfl rfl rfl (by omega) ?_
        refine s_ldO 31 0 rfl rfl rfl (natsAt8 (by omega)) ?_
        refine s_mv 32 rfl rfl ?_
        refine s_rem 33 rfl rfl rfl (by omega) (tmod8 i) ?_
        refine s_conv 34 rfl rfl (wu64 (by omega)) ?_
        refine s_shl 35 rfl rfl rfl (by omega) (r := ((2 ^ (i % 8) : Nat) : Int)) (by rw [show (1 : Int) = ((1 : Nat) : Int) from rfl, shl_u8 (by omega), Nat.one_mul, Nat.mod_eq_of_lt (Nat.pow_lt_pow_right (n := 8) (by omega) (Nat.mod_lt _ (by omega)))]) ?_
        refine s_bit 36 rfl rfl rfl rfl (ibit_or_u8 (cf_lt8 hg.lt _) (Nat.pow_lt_pow_right (n := 8) (by omega) (Nat.mod_lt _ (by omega)))) ?_
        refine s_iaO 37 0 (i / 8) rfl rfl rfl rfl rfl (by omega) ?_
        refine s_stO 0 rfl rfl rfl rfl rfl (by omega) (fun _ _ => trivial) ?_
        refine SX.end_ ?_
        refine KN.blk ?_
        refine KN.code ?_
        refine CW.reg [0, 1, 2] rfl ?_
        refine s_mv 9 rfl rfl ?_
        refine s_add 10 rfl rfl rfl (r := ((i + 1 : Nat) : Int)) (w64 (by omega)) ?_
        refine s_as 4 rfl rfl ?_
        refine SX.end_ ?_
        exact KN.back (i + 1, L2.set (i / 8) (cf L2 (i / 8) ||| 2 ^ (i % 8)), q2) ⟨rfl, by simp only [List.length_set]; rfl, rfl, trivial⟩ (fun _ h => by simp only [List.length_set]; rw [← nats_set]; exact h) ⟨⟨by simp only; omega, hset⟩, by simp only [List.length_set]; exact hq2⟩ (by simp only; omega)
  · skip
    obtain rfl : i = l.length := by omega
    subst hL
    refine CW.exit rfl ?_
    refine KN.code ?_
    refine CW.seq ?_
    refine CW.reg [0, 1] rfl ?_
    refine s_mv 38 rfl rfl ?_
    refine s_as 2 rfl rfl ?_
    refine SX.next ?_
    refine CW.ret ?_
    exact KN.ret (rs := [.tmp 2]) Tryd.results98 rfl (fun w hw => ⟨q, rfl, hq, hw⟩)
end Go.Proofs.YtcdmmfpgeagimaaDoor
end
section
/- The contracts of package binpoly: quotients and common divisors. Conditions: the lists are bytes, read where they lie. -/
namespace Go.Proofs.YtcdmmfpgeagimaaDoor
open Go Go.Lib Go.Sx Go.Fm
set_option maxRecDepth 100000
/-- What the division's loop keeps. -/
structure BdG (p q : List Nat) (z : List Nat × List Nat) : Prop where
  l1 : z.1.length = p.length + 1
  b1 : ∀ x ∈ z.1, x < 256
  l2 : z.2.length = p.length + 1
  b2 : ∀ x ∈ z.2, x < 256
  le : (bl z.1).length ≤ (bl p).length
  lo : ∀ j, j + (bl q).length ≤ (bl z.1).length → cf (bl z.2) j = 0
  eq : addP (mulP 3 (bl z.2) (bl q)) (bl z.1) = bl p
theorem bl_app (p : List Nat) : bl (p ++ [0]) = bl p := (bl_b1 _).tr.ext (bl_b1 _).tr (fun j => by rw [cf_bl, cf_bl, bitN_app])
theorem bl_zeros (n : Nat) : bl (List.replicate n 0) = [] := (bl_b1 _).tr.nil_of (fun j => by rw [cf_bl, zeros_bit])
theorem app_lt {p : List Nat} (h : ∀ x ∈ p, x < 256) : ∀ x ∈ p ++ [0], x < 256 := fun x hx => by
  rcases List.mem_append.1 hx with hx | hx
  · exact h x hx
  · simp at hx; omega
theorem BdG.start {p : List Nat} (hp : ∀ x ∈ p, x < 256) (q : List Nat) : BdG p q (p ++ [0], List.replicate (p.length + 1) 0) := by
  refine ⟨by simp, app_lt hp, by simp, zeros_lt _, by simp only; rw [bl_app]; exact Nat.le_refl _, fun j _ => by simp only; rw [bl_zeros, cf_nil], ?_⟩
  simp only
  rw [bl_zeros, mulP_nil_l, nil_addP ok3 (bl_b1 _).tr, bl_app]
set_option maxHeartbeats 1600000 in
theorem BdG.next {p q L Q L2 : List Nat} {s : Nat} (h : BdG p q (L, Q)) (h0 : (bl q).length ≠ 0) (hs : s + (bl q).length = (bl L).length) (hs2 : s / 8 < Q.length)
    (h2 : L2.length = L.length ∧ (∀ x ∈ L2, x < 256) ∧ ∀ j, bitN L2 j = bitN L j ^^^ (if s ≤ j then bitN (trim q) (j - s) else 0)) :
    BdG p q (L2, Q.set (s / 8) (cf Q (s / 8) ||| 2 ^ (s % 8))) ∧ (bl L2).length < (bl L).length := by
  obtain ⟨k1, k2, k3, k4, k5, k6, k7⟩ := h
  simp only at k1 k2 k3 k4 k5 k6 k7
  have hq := bl_b1 q
  have hl := bl_b1 L
  have hQ := bl_b1 Q
  have eL : bl L2 = addP (bl L) (upP s (bl q)) := (bl_b1 _).tr.ext (addP_b1 hl (upP_b1 hq s)).tr (fun j => by
    rw [cf_bl, h2.2.2, cf_addP, cf_upP, cf_bl]
    congr 1
    split
    · rw [← cf_bl, bl_trim]
    · rfl)
  have eQ : bl (Q.set (s / 8) (cf Q (s / 8) ||| 2 ^ (s % 8))) = addP (bl Q) (xP s) := (bl_b1 _).tr.ext (addP_b1 hQ (xP_b1 s)).tr (fun j => by
    rw [cf_bl, bitN_or hs2, cf_addP, cf_xP]
    by_cases hj : j = s
    · subst hj
      rw [if_pos rfl, if_pos rfl, k6 j (by omega)]
      rfl
    · rw [if_neg hj, if_neg hj, Nat.xor_zero, cf_bl])
  have hlen : (bl L2).length ≤ (bl L).length - 1 := len_le_of (bl_b1 L2).tr (fun j hj => by
    rw [eL, cf_addP, cf_upP]
    by_cases he : j = (bl L).length - 1
    · subst he
      rw [hl.top (by omega), if_pos (by omega), show (bl L).length - 1 - s = (bl q).length - 1 by omega, hq.top h0]
      rfl
    · rw [cf_out (l := bl L) (by omega)]
      split
      · rw [cf_out (by omega)]; rfl
      · rfl)
  refine ⟨⟨by simp only; rw [h2.1, k1], h2.2.1, by simp only; rw [List.length_set, k3], set_lt k4 (or8 (cf_lt8 k4 _) (Nat.mod_lt _ (by omega))), by simp only; omega, fun j hj => ?_, ?_⟩, by omega⟩
  · simp only at hj ⊢
    rw [eQ, cf_addP, cf_xP, if_neg (by omega), k6 j (by omega)]
    rfl
  · simp only
    rw [eQ, eL, mulP_add_left ok3 hQ.tr (xP_b1 s).tr hq.tr, mulP_comm ok3 (xP_b1 s).tr hq.tr, mul_xP hq s, ← k7]
    refine (addP_tr ok3 (addP_tr ok3 (mulP_tr ok3 hQ.tr hq.tr) (upP_b1 hq s).tr) (addP_tr ok3 hl.tr (upP_b1 hq s).tr)).ext (addP_tr ok3 (mulP_tr ok3 hQ.tr hq.tr) hl.tr) (fun j => ?_)
    simp only [cf_addP]
    generalize cf (mulP 3 (bl Q) (bl q)) j = x
    generalize cf (upP s (bl q)) j = y
    generalize cf (bl L) j = z
    rw [Nat.xor_assoc, Nat.xor_comm z y, xcc]
theorem trim_bys {l : List Nat} (h : ∀ x ∈ l, x < 256) : trim l = bys (bl l) := bys_of h (bl_b1 l) (fun j => (cf_bl l j).symm)
theorem BdG.done {p q L Q : List Nat} (h : BdG p q (L, Q)) (h0 : (bl q).length ≠ 0) (hl : (bl L).length < (bl q).length) : trim Q = bys (quotP 3 (bl p) (bl q)) ∧ trim L = bys (restP 3 (bl p) (bl q)) := by
  obtain ⟨e1, e2⟩ := div_uniq ok3 (bl_b1 p).tr (bl_b1 q).tr h0 (bl_b1 Q).tr (bl_b1 L).tr hl h.eq
  exact ⟨by rw [← e1]; exact trim_bys h.b2, by rw [← e2]; exact trim_bys h.b1⟩
abbrev SpecBB (P : Program) (f : FuncId) (args : List Value) (w : World) (E G : List Nat) : Prop :=
  SpecX P f args w (X := (Option Addr × Nat) × (Option Addr × Nat)) (fun q => .tuple #[.slice q.1.1 E.length q.1.2, .slice q.2.1 G.length q.2.2, .nilIface]) (fun q => E.length ≤ q.1.2 ∧ G.length ≤ q.2.2)
    (fun q => [own 5 1 q.2.1 G.length q.2.2 (nats .u8 G), own 5 1 q.1.1 E.length q.1.2 (nats .u8 E)])
end Go.Proofs.YtcdmmfpgeagimaaDoor
end
section
/- Minimal polynomials, walked. Conditions: the field was made by New. -/
namespace Go.Proofs.YtcdmmfpgeagimaaDoor
open Go Go.Sx Go.Fm
set_option maxRecDepth 100000
theorem _root_.Go.Sx.Has.star {X : List Atom} {A : Atom} {w : World} (h : Has (starA X) w) (hA : A ∈ X) : Has A w := by
  obtain ⟨D, h1, h2⟩ := h
  have key : ∀ (X : List Atom) (D : Nat → Prop), starOk X w D → (∀ k, D k → k < w.heap.size) → A ∈ X → Has A w := by
    intro X
    induction X with
    | nil => intro D _ _ hm; cases hm
    | cons B X ih =>
      rintro D ⟨D1, D2, k1, k2, k3, k4⟩ hlt hm
      rcases List.mem_cons.1 hm with rfl | hm
      · exact ⟨D1, k1, fun k hk => hlt k ((k3 k).2 (.inl hk))⟩
      · exact ih D2 k2 (fun k hk => hlt k ((k3 k).2 (.inr hk))) hm
  exact key X D h1 h2 hA
theorem _root_.Go.Sx.St.nilStar' {F : Nat → Prop} {w₀ w : World} {X : List Atom} (h : St F w₀ X w) : St F w₀ (X ++ [starA []]) w := St.starLast.1 (by rwa [List.append_nil])
theorem _root_.Go.Sx.St.moreStar {F : Nat → Prop} {w₀ w : World} {A : Atom} {X Y : List Atom} (h : St F w₀ (A :: starA X :: Y) w) : St F w₀ (starA (A :: X) :: Y) w := by
  have h1 : St F w₀ (starA X :: (A :: Y)) w := h.perm (List.Perm.swap ..)
  have h2 := (St.star X).2 h1
  exact (St.star (A :: X)).1 (h2.perm List.perm_middle)
def hd2 (b : Nat) : Value := .slice (some ⟨b, 0, none⟩) 2 2
def facI (m k : Nat) : List Int := [((exz m (k : Int) : Nat) : Int), 1]
def RL (m : Nat) (L : List Nat) : List Int := L.map (fun k : Nat => ((exz m (k : Int) : Nat) : Int))
theorem RL_at {m : Nat} {L : List Nat} {i k : Nat} (h : L[i]? = some k) : (RL m L).getD i 0 = ((exz m (k : Int) : Nat) : Int) := by
  unfold RL
  rw [List.getD_eq_getElem?_getD, List.getElem?_map, h]; rfl
theorem lo1 {m : Nat} (hm : Ok m) : lo m 1 = 1 := lo_nat (x := 1) (one_lt hm)
theorem fold_step {m : Nat} (hm : Ok m) {L : List Nat} {i k : Nat} (h : L[i]? = some k) : mulP m (trim (lowL m ((frP m (RL m L) i).map Int.ofNat))) (trim (lowL m (facI m k))) = frP m (RL m L) (i + 1) := by
  have hx := exz_lt hm (k : Int)
  have e : lowL m (facI m k) = [exz m (k : Int), 1] := by show [lo m _, lo m 1] = _; rw [lo_nat hx, lo1 hm]
  rw [(frP_tr hm _ i).low, e, (lin_tr hm hx).eq, ← frP_next hm, RL_at h, lo_nat hx]
theorem frP_min {m : Nat} (hm : Ok m) (i : Nat) : frP m (RL m (cosP m i)) (cosP m i).length = minP m i := by
  have h := frP_all hm (RL m (cosP m i))
  have hl : (RL m (cosP m i)).length = (cosP m i).length := List.length_map _
  rw [hl] at h
  rw [h]
  unfold minP
  congr 1
  unfold lowL RL
  rw [List.map_map]
  exact List.map_congr_left (fun k _ => lo_nat (exz_lt hm _))

theorem mfold_spec (r g m : Nat) (A : Option Addr) (n c : Nat) (bs L : List Nat) (w : World) (hm : Ok m) (hr : Has (ringA r g m) w) (ho : Has (sl 1 A n (bs.map hd2)) w) (hb : bs.length = n) (hL : L.length = n) (hn : n ≤ 100) (hin : ∀ (i b k : Nat), bs[i]? = some b → L[i]? = some k → Has (sl 1 (some ⟨b, 0, none⟩) 2 (ints .i64 (facI m k))) w) : SpecL Tryd.prog 148 [.slice A n c, .func (.func 150) #[.pointer (some ⟨r, 0, none⟩)] #[]] w (frP m (RL m L) n) := by
  refine spec_of Tryd.func148 rfl Tryd.ntmps148 rfl ?_
  refine CW.seq ?_
  refine CW.reg [0] rfl ?_
  refine s_as 4 rfl rfl ?_
  refine SX.next ?_
  refine CW.seq ?_
  refine CW.reg [0, 1] rfl ?_
  refine s_bsl 8 rfl rfl (cells := #[.int .i64 1]) (by kernel_rfl) rfl (fun _ _ => trivial) (fun gb => ?_)
  refine s_as 5 rfl rfl ?_
  refine SX.next ?_
  refine CW.seq ?_
  refine CW.seq ?_
  refine CW.reg [0, 1, 2] rfl ?_
  refine s_mv 9 rfl rfl ?_
  refine s_len 10 rfl rfl ?_
  refine s_mv 11 rfl rfl ?_
  refine SX.next ?_
  refine CW.block ?_
  refine CW.loop (G := Nat × Option Addr × Nat) (fun q => [(1, .func (.func 150) #[.pointer (some ⟨r, 0, none⟩)] #[]), (5, .slice q.2.1 (frP m (RL m L) q.1).length q.2.2), (9, .slice A n c), (10, .int .i64 (n : Nat)), (11, .int .i64 (q.1 : Nat))]) (fun q => Sto w [own 3 1 q.2.1 (frP m (RL m L) q.1).length q.2.2 (nats .i64 (frP m (RL m L) q.1))]) (fun q => q.1 ≤ n ∧ (frP m (RL m L) q.1).length ≤ q.2.2) (fun q => n - q.1) (0, some ⟨gb, 0, none⟩, 1) ⟨rfl, rfl, rfl, rfl, rfl, trivial⟩ (fun _ h => h.blkOwn (q := 0) (c := 1) rfl rfl (by unfold maxLen; omega)) ⟨Nat.zero_le _, Nat.le_refl _⟩ ?_
  rintro q ⟨hq, hqc⟩
  have hfl := frP_len m (RL m L) q.1
  have hft := frP_tr hm (RL m L) q.1
  refine CW.seq ?_
  refine CW.reg [0] rfl ?_
  refine s_lt 12 rfl rfl rfl rfl ?_
  refine SX.next ?_
  refine CW.seq ?_
  refine CW.test rfl (fun hc => ?_) (fun hc => ?_)
  · skip
    obtain ⟨b, hbi⟩ : ∃ b, bs[q.1]? = some b := ⟨_, List.getElem?_eq_getElem (by omega)⟩
    obtain ⟨k, hki⟩ : ∃ k, L[q.1]? = some k := ⟨_, List.getElem?_eq_getElem (by omega)⟩
    have hfs := fold_step hm hki
    have hhd : (bs.map hd2)[q.1 * 1]? = some (hd2 b) := by rw [Nat.mul_one, List.getElem?_map, hbi]; rfl
    have hxl := exz_lt hm (k : Int)
    have hfacl : (trim (lowL m (facI m k))).length ≤ 2 := by rw [trim_length]; exact Nat.le_trans (tl_le _) (by rw [lowL_len]; exact Nat.le_refl 2)
    have hfrl : (trim (lowL m ((frP m (RL m L) q.1).map Int.ofNat))).length ≤ 101 := by rw [hft.low]; omega
    refine CW.skip ?_
    refine KN.code ?_
    refine CW.seq ?_
    refine CW.block ?_
    refine CW.seq ?_
    refine CW.reg [0, 1, 2] rfl ?_
    refine s_iaV 13 q.1 (fun w hw => hw.old ho) rfl rfl rfl rfl (by omega) ?_
    refine s_ldV 14 (fun w hw => hw.old ho) rfl rfl hhd (by omega) ?_
    refine s_as 7 rfl rfl ?_
    refine SX.next ?_
    refine CW.reg [0, 1, 2, 3, 4, 5, 6, 7] rfl ?_
    refine s_mv 16 rfl rfl ?_
    refine s_mv 17 rfl rfl ?_
    refine s_mv 18 rfl rfl ?_
    refine s_call 19 rfl rfl rfl rfl (fun w hw => by have := pmul_spec r g m q.2.1 (frP m (RL m L) q.1).length q.2.2 ((frP m (RL m L) q.1).map Int.ofNat) (some ⟨b, 0, none⟩) 2 2 (facI m k) w hm (hw.old hr) (by rw [← nats_ints]; exact (hw.has (i := 0) rfl).of_own) (hw.old (hin _ _ _ hbi hki)) (by omega) (by omega) (by omega); rw [hfs] at this; exact this) (fun _ _ => trivial) (fun q19 hq19 => ?_)
    refine s_mv 15 rfl rfl ?_
    refine s_ext 20 rfl rfl rfl ?_
    refine s_ext 21 rfl rfl rfl ?_
    refine s_as 5 rfl rfl ?_
    refine SX.end_ ?_
    refine KN.blk ?_
    refine KN.code ?_
    refine CW.reg [0, 1] rfl ?_
    refine s_add 22 rfl rfl rfl (r := ((q.1 + 1 : Nat) : Int)) (w64 (by omega)) ?_
    refine s_mv 11 rfl rfl ?_
    refine SX.end_ ?_
    exact KN.back (q.1 + 1, q19.1, q19.2) ⟨rfl, rfl, rfl, rfl, rfl, trivial⟩ (fun _ h => h.pick [0] rfl) ⟨by simp only; omega, hq19⟩ (by simp only; omega)
  · skip
    obtain ⟨i, qa, qc⟩ := q
    simp only at hq hqc hfl hft
    have hqe : i = n := by simp only at hc; omega
    subst hqe
    refine CW.exit rfl ?_
    refine KN.code ?_
    refine CW.seq ?_
    refine CW.reg [0, 1] rfl ?_
    refine s_mv 23 rfl rfl ?_
    refine s_as 4 rfl rfl ?_
    refine SX.next ?_
    refine CW.ret ?_
    exact KN.ret (rs := [.tmp 4]) Tryd.results148 rfl (fun w hw => ⟨(qa, qc), rfl, hqc, hw.pick [0] rfl⟩)

theorem bit_step {F Q : List Nat} {n : Nat} (hF : ∀ j, cf F j < 2) (hn : n / 8 < Q.length) (h : ∀ j, bitN Q j = if j < n then cf F j else 0) (j : Nat) : bitN (Q.set (n / 8) (cf Q (n / 8) ||| cf F n * 2 ^ (n % 8))) j = if j < n + 1 then cf F j else 0 := by
  rcases (show cf F n = 0 ∨ cf F n = 1 by have := hF n; omega) with h0 | h1
  · rw [h0, Nat.zero_mul, Nat.or_zero]
    have e : Q.set (n / 8) (cf Q (n / 8)) = Q := by
      apply List.ext_getElem?
      intro t
      rw [List.getElem?_set]
      split
      · rename_i ht; subst ht; first | rw [if_pos hn, cf_in hn] | rw [cf_in hn]
      · rfl
    rw [e, h]
    by_cases hj : j = n
    · subst hj; rw [if_neg (by omega), if_pos (by omega), h0]
    · by_cases h2 : j < n
      · rw [if_pos h2, if_pos (by omega)]
      · rw [if_neg h2, if_neg (by omega)]
  · rw [h1, Nat.one_mul, bitN_or hn, h]
    by_cases hj : j = n
    · subst hj; rw [if_pos rfl, if_pos (by omega), h1]
    · rw [if_neg hj]
      by_cases h2 : j < n
      · rw [if_pos h2, if_pos (by omega)]
      · rw [if_neg h2, if_neg (by omega)]
theorem bys_done {F Q : List Nat} (hF : B1 F) (h0 : F.length ≠ 0) (hl : Q.length = (F.length - 1) / 8 + 1) (hq : ∀ x ∈ Q, x < 256) (h : ∀ j, bitN Q j = if j < F.length then cf F j else 0) : Q = bys F := by
  have e := bys_of hq hF (fun j => by
    rw [h]
    split
    · rfl
    · exact (cf_out (by omega)).symm)
  rw [← e]
  refine (trim_of ?_).symm
  refine Nat.le_antisymm (tl_le _) (Nat.le_of_not_lt fun hlt => ?_)
  have h1 := cf_hi Q (Q.length - 1) (by omega)
  have h2 := h (F.length - 1)
  rw [if_pos (by omega), hF.top h0] at h2
  unfold bitN at h2
  rw [show (F.length - 1) / 8 = Q.length - 1 by omega, h1] at h2
  simp at h2
theorem or_lt8b {a b n : Nat} (ha : a < 256) (hb : b < 2) (hn : n < 8) : a ||| b * 2 ^ n < 256 := by
  refine Nat.or_lt_two_pow (n := 8) ha ?_
  rcases (show b = 0 ∨ b = 1 by omega) with rfl | rfl
  · rw [Nat.zero_mul]; decide
  · rw [Nat.one_mul]; exact Nat.pow_lt_pow_right (by omega) hn
theorem bn_lt {b n : Nat} (hb : b < 2) (hn : n < 8) : b * 2 ^ n < 256 := by
  have := or_lt8b (a := 0) (by decide) hb hn
  rwa [Nat.zero_or] at this
theorem set_lt8b {Q : List Nat} {i x : Nat} (h : ∀ y ∈ Q, y < 256) (hx : x < 256) : ∀ y ∈ Q.set i x, y < 256 := fun y hy => by
  rcases List.mem_or_eq_of_mem_set hy with h1 | h1
  · exact h y h1
  · rw [h1]; exact hx
theorem rep8 (n : Nat) : List.replicate n (.int .u8 0) = nats .u8 (List.replicate n 0) := by simp [nats]

theorem mof_spec (g m : Nat) (i : Int) (w : World) (hm : Ok m) (hf : Has (fieldA g m) w) : SpecB Tryd.prog 140 [.pointer (some ⟨g, 0, none⟩), .int .i64 i] w (bys (minP m (em m i))) := by
  have hmh := hm.hi
  have hcp := cos_len_pos hm (em m i)
  have hml := minP_len hm (em m i)
  have hb1 := minP_b1 hm (em m i)
  have hfm := frP_min hm (em m i)
  refine spec_of Tryd.func140 rfl Tryd.ntmps140 rfl ?_
  refine CW.seq ?_
  refine CW.reg [0] rfl ?_
  refine s_as 4 rfl rfl ?_
  refine SX.next ?_
  refine CW.seq ?_
  refine CW.reg [0, 1, 2, 3, 4, 5, 6, 7, 8] rfl ?_
  refine s_mv 14 rfl rfl ?_
  refine s_call1 15 rfl rfl rfl rfl (fun w hw => m_spec g m w hm (hw.old hf)) (fun _ _ => trivial) ?_
  refine s_mv 16 rfl rfl ?_
  refine s_call 17 rfl rfl rfl rfl (fun w hw => coset_spec m i w hm) (fun _ _ => trivial) (fun q17 hq17 => ?_)
  refine s_mv 13 rfl rfl ?_
  refine s_ext 18 rfl rfl rfl ?_
  refine s_ext 19 rfl rfl rfl ?_
  refine s_as 5 rfl rfl ?_
  refine s_as 6 rfl rfl ?_
  refine SX.next ?_
  refine CW.seq ?_
  refine CW.reg [0] rfl ?_
  refine s_as 7 rfl rfl ?_
  refine SX.next ?_
  refine CW.seq ?_
  refine CW.seq ?_
  refine CW.reg [0, 1, 2] rfl ?_
  refine s_mv 20 rfl rfl ?_
  refine s_len 21 rfl rfl ?_
  refine s_mv 22 rfl rfl ?_
  refine SX.next ?_
  refine CW.block ?_
  refine CW.loop (G := Nat × List Nat × List Atom × Option Addr × Nat) (fun q => [(0, .pointer (some ⟨g, 0, none⟩)), (5, .slice q17.1 (cosP m (em m i)).length q17.2), (7, .slice q.2.2.2.1 q.1 q.2.2.2.2), (20, .slice q17.1 (cosP m (em m i)).length q17.2), (21, .int .i64 ((cosP m (em m i)).length : Nat)), (22, .int .i64 (q.1 : Nat))]) (fun q => Sto w [own 23 1 q.2.2.2.1 q.1 q.2.2.2.2 (q.2.1.map hd2), starA q.2.2.1, own 3 1 q17.1 (cosP m (em m i)).length q17.2 (nats .i64 (cosP m (em m i)))]) (fun q => q.1 ≤ (cosP m (em m i)).length ∧ q.2.1.length = q.1 ∧ ∀ (j b k : Nat), q.2.1[j]? = some b → (cosP m (em m i))[j]? = some k → blk b 3 #[.int .i64 (exz m (k : Int) : Nat), .int .i64 1] ∈ q.2.2.1) (fun q => (cosP m (em m i)).length - q.1) (0, [], [], none, 0) ⟨rfl, rfl, rfl, rfl, rfl, rfl, trivial⟩ (fun _ h => by
  have h1 := (h.begin_ 23 1).nilStar'
  exact h1.pick [0, 1, 0] rfl) ⟨Nat.zero_le _, rfl, fun j b k h => by simp at h⟩ ?_
  rintro ⟨j, bs, X, oa, oc⟩ ⟨hj, hbl, hin⟩
  simp only at hj hbl hin
  dsimp only
  refine CW.seq ?_
  refine CW.reg [0] rfl ?_
  refine s_lt 23 rfl rfl rfl rfl ?_
  refine SX.next ?_
  refine CW.seq ?_
  refine CW.test rfl (fun hc => ?_) (fun hc => ?_)
  · skip
    have hki := cf_in (l := (cosP m (em m i))) (j := j) (by omega)
    refine CW.skip ?_
    refine KN.code ?_
    refine CW.seq ?_
    refine CW.block ?_
    refine CW.seq ?_
    refine CW.reg [0, 1, 2] rfl ?_
    refine s_iaO 24 2 j rfl rfl rfl rfl rfl (by omega) ?_
    refine s_ldO 25 2 rfl rfl rfl (natsAtC (by omega)) ?_
    refine s_as 9 rfl rfl ?_
    refine SX.next ?_
    refine CW.reg [0, 1, 2, 3, 4, 5, 6, 7] rfl ?_
    refine s_mv 26 rfl rfl ?_
    refine s_mv 27 rfl rfl ?_
    refine s_mv 28 rfl rfl ?_
    refine s_call1 29 rfl rfl rfl rfl (fun w hw => exp_spec g m _ w hm (hw.old hf)) (fun _ _ => trivial) ?_
    refine s_bsl 30 rfl rfl (cells := #[.int .i64 (ex m (em m (cf (cosP m (em m i)) j : Nat)) : Nat), .int .i64 1]) (by kernel_rfl) rfl (fun _ _ => trivial) (fun b30 => ?_)
    refine s_bsl 31 rfl rfl (cells := #[hd2 b30]) (by kernel_rfl) rfl (fun _ _ => trivial) (fun b31 => ?_)
    refine s_app 32 2 rfl rfl rfl rfl (ys := [hd2 b30]) (fun w hw => Has.cong ((hw.has (i := 0) rfl).blk_sl (m := 1) rfl) rfl) rfl rfl (by omega) (by unfold maxLen; omega) (by omega) (fun _ _ _ _ => trivial) (fun A2 c2 hc2 => ?_)
    refine s_as 7 rfl rfl ?_
    refine SX.end_ ?_
    refine KN.blk ?_
    refine KN.code ?_
    refine CW.reg [0, 1] rfl ?_
    refine s_add 33 rfl rfl rfl (r := ((j + 1 : Nat) : Int)) (w64 (by omega)) ?_
    refine s_mv 22 rfl rfl ?_
    refine SX.end_ ?_
    exact KN.back (j + 1, bs ++ [b30], blk b30 3 #[.int .i64 (exz m (cf (cosP m (em m i)) j : Int) : Nat), .int .i64 1] :: X, A2, c2) ⟨rfl, rfl, rfl, rfl, rfl, rfl, trivial⟩ (fun _ h => by
      have h1 := h.pick [1, 2, 1, 1] rfl
      have h2 := h1.moreStar
      simp only [List.map_append, List.map_cons, List.map_nil]
      exact h2.pick [1, 0, 0] rfl) ⟨by simp only; omega, by simp only [List.length_append, List.length_singleton]; omega, fun t b k h1 h2 => by
      simp only at h1 ⊢
      by_cases ht : t < j
      · rw [List.getElem?_append_left (by omega)] at h1
        exact List.mem_cons_of_mem _ (hin t b k h1 h2)
      · have htl := (List.getElem?_eq_some_iff.1 h1).1
        rw [List.length_append, List.length_singleton] at htl
        obtain rfl : t = j := by omega
        rw [List.getElem?_append_right (by omega), hbl, Nat.sub_self] at h1
        rw [hki] at h2
        obtain rfl := Option.some.inj h1
        obtain rfl := Option.some.inj h2
        exact List.mem_cons_self ..⟩ (by simp only; omega)
  · skip
    have hje : j = (cosP m (em m i)).length := by omega
    subst hje
    refine CW.exit rfl ?_
    refine KN.code ?_
    refine CW.seq ?_
    refine CW.reg [0, 1, 2, 3, 4, 5] rfl ?_
    refine s_mv 34 rfl rfl ?_
    refine s_len 35 rfl rfl ?_
    refine s_quo 36 rfl rfl rfl (by omega) (quo8 _ (by omega)) ?_
    refine s_add 37 rfl rfl rfl (r := ((((cosP m (em m i)).length / 8 + 1) : Nat) : Int)) (w64 (by omega)) ?_
    refine s_make 38 ((cosP m (em m i)).length / 8 + 1) rfl rfl rfl rfl rfl (by omega) (fun _ _ => trivial) (fun gp => ?_)
    refine SX.pre (fun _ h => h.blkOwn (q := 0) (c := ((cosP m (em m i)).length / 8 + 1)) (sz := 1) rfl (by simp) (by unfold maxLen; omega)) ?_
    refine s_as 10 rfl rfl ?_
    refine SX.next ?_
    refine CW.seq ?_
    refine CW.seq ?_
    refine CW.reg [0, 1, 2, 3, 4, 5, 6] rfl ?_
    refine s_mv 39 rfl rfl ?_
    refine s_mv 40 rfl rfl ?_
    refine s_call 41 rfl rfl rfl rfl (fun w hw => ring_spec g w) (fun _ _ => trivial) (fun r _ => ?_)
    refine s_mkf 42 rfl rfl rfl ?_
    refine s_call 43 rfl rfl rfl rfl (fun w hw => by have := mfold_spec r g m oa (cosP m (em m i)).length oc bs (cosP m (em m i)) w hm (ring_of (hw.old hf) (hw.has (i := 0) rfl)) ((hw.has (i := 2) rfl).of_own) hbl rfl (by omega) (fun t b k h1 h2 => Has.cong (((Has.star (hw.has (i := 3) rfl) (hin t b k h1 h2))).blk_sl (m := 2) rfl) rfl); rw [hfm] at this; exact this) (fun _ _ => trivial) (fun q43 hq43 => ?_)
    refine s_len 44 rfl rfl ?_
    refine s_mv 45 rfl rfl ?_
    refine SX.next ?_
    refine CW.block ?_
    refine CW.loop (G := Nat × List Nat) (fun q => [(10, .slice (some ⟨gp, 0, none⟩) ((cosP m (em m i)).length / 8 + 1) ((cosP m (em m i)).length / 8 + 1)), (43, .slice q43.1 (minP m (em m i)).length q43.2), (44, .int .i64 ((minP m (em m i)).length : Nat)), (45, .int .i64 (q.1 : Nat))]) (fun q => Sto w [own 3 1 q43.1 (minP m (em m i)).length q43.2 (nats .i64 (minP m (em m i))), own 5 1 (some ⟨gp, 0, none⟩) ((cosP m (em m i)).length / 8 + 1) ((cosP m (em m i)).length / 8 + 1) (nats .u8 q.2)]) (fun q => q.1 ≤ (minP m (em m i)).length ∧ q.2.length = ((cosP m (em m i)).length / 8 + 1) ∧ (∀ x ∈ q.2, x < 256) ∧ ∀ j, bitN q.2 j = if j < q.1 then cf (minP m (em m i)) j else 0) (fun q => (minP m (em m i)).length - q.1) (0, List.replicate ((cosP m (em m i)).length / 8 + 1) 0) ⟨rfl, rfl, rfl, rfl, trivial⟩ (fun _ h => by
  have h1 := h.pick [0, 1] rfl
  simp only [rep8] at h1 ⊢
  exact h1) ⟨Nat.zero_le _, List.length_replicate, fun x hx => by rw [(List.mem_replicate.1 hx).2]; decide, fun j => by rw [zeros_bit, if_neg (Nat.not_lt_zero _)]⟩ ?_
    rintro ⟨n, Q⟩ ⟨hn, hQl, hQ, hQb⟩
    simp only at hn hQl hQ hQb
    dsimp only
    have hfn := hb1.le n
    have hn8 := Nat.mod_lt n (show 0 < 8 by omega)
    refine CW.seq ?_
    refine CW.reg [0] rfl ?_
    refine s_lt 46 rfl rfl rfl rfl ?_
    refine SX.next ?_
    refine CW.seq ?_
    refine CW.test rfl (fun hc => ?_) (fun hc => ?_)
    · skip
      have hqc := cf_lt8 hQ (n / 8)
      have hnb := bn_lt hfn hn8
      have hor := or_lt8b hqc hfn hn8
      have hbs := bit_step (Q := Q) (n := n) hb1.le (by omega) hQb
      refine CW.skip ?_
      refine KN.code ?_
      refine CW.seq ?_
      refine CW.block ?_
      refine CW.seq ?_
      refine CW.reg [0, 1, 2, 3, 4] rfl ?_
      refine s_mv 47 rfl rfl ?_
      refine s_iaO 48 0 n rfl rfl rfl rfl rfl (by omega) ?_
      refine s_ldO 49 0 rfl rfl rfl (natsAtC (by omega)) ?_
      refine s_as 11 rfl rfl ?_
      refine s_as 12 rfl rfl ?_
      refine SX.next ?_
      refine CW.regD (.st true 0 (.st true 1 (.st true 2 (.st true 3 (.st true 5 (.st true 6 (.st true 7 (.st true 8 (.st true 9 (.st false 4 (.st true 10 (.st true 11 (.st false 12 .done))))))))))))) (Sto w []) mixed (by kernel_rfl) (fun _ h => h.drew) (fun _ h => h.pick [] rfl) ?_
      refine s_mv 50 rfl rfl ?_
      refine s_mv 51 rfl rfl ?_
      refine s_quo 52 rfl rfl rfl (by omega) (quo8 n (by omega)) ?_
      refine s_iaO 53 1 (n / 8) rfl rfl rfl rfl rfl (by omega) ?_
      refine s_mv 55 rfl rfl ?_
      refine s_conv 56 rfl rfl (r := ((cf (minP m (em m i)) n : Nat) : Int)) (wu8 (by omega)) ?_
      refine s_mv 57 rfl rfl ?_
      refine s_rem 58 rfl rfl rfl (by omega) (tmod8 n) ?_
      refine s_shl 59 rfl rfl rfl (by omega) (r := ((cf (minP m (em m i)) n * 2 ^ (n % 8) : Nat) : Int)) (by rw [shl_u8 (by omega), Nat.mod_eq_of_lt hnb]) ?_
      refine s_ldO 54 1 rfl rfl rfl (natsAt8 (by omega)) ?_
      refine s_bit 60 rfl rfl rfl rfl (ibit_or_u8 hqc hnb) ?_
      refine s_iaO 61 1 (n / 8) rfl rfl rfl rfl rfl (by omega) ?_
      refine s_stO 1 rfl rfl rfl rfl rfl (by omega) (fun _ h => h.pick [] rfl) ?_
      refine SX.end_ ?_
      refine KN.blk ?_
      refine KN.code ?_
      refine CW.reg [0, 1] rfl ?_
      refine s_add 62 rfl rfl rfl (r := ((n + 1 : Nat) : Int)) (w64 (by omega)) ?_
      refine s_mv 45 rfl rfl ?_
      refine SX.end_ ?_
      exact KN.back (n + 1, Q.set (n / 8) (cf Q (n / 8) ||| cf (minP m (em m i)) n * 2 ^ (n % 8))) ⟨rfl, rfl, rfl, rfl, trivial⟩ (fun _ h => by simp only; rw [← nats_set]; exact h) ⟨by simp only; omega, by simp only [List.length_set]; exact hQl, set_lt8b hQ hor, hbs⟩ (by simp only; omega)
    · skip
      have hne : n = (minP m (em m i)).length := by omega
      subst hne
      have hfin := bys_done hb1 (by omega) (by omega) hQ hQb
      refine CW.exit rfl ?_
      refine KN.code ?_
      refine CW.seq ?_
      refine CW.reg [0, 1] rfl ?_
      refine s_mv 63 rfl rfl ?_
      refine s_as 4 rfl rfl ?_
      refine SX.next ?_
      refine CW.ret ?_
      exact KN.ret (rs := [.tmp 4]) Tryd.results140 rfl (fun w hw => ⟨(some ⟨gp, 0, none⟩, ((cosP m (em m i)).length / 8 + 1)), by rw [← hfin, hQl]; rfl, by rw [← hfin, hQl]; exact Nat.le_refl _, by rw [← hfin, hQl]; exact hw.pick [1] rfl⟩)
end Go.Proofs.YtcdmmfpgeagimaaDoor
end
section
/- The contracts of package binpoly: common divisors, sameness, values. Conditions: the lists are bytes, read where they lie. -/
namespace Go.Proofs.YtcdmmfpgeagimaaDoor
open Go Go.Lib Go.Sx Go.Fm
set_option maxRecDepth 100000
/-- What the common divisor's loop keeps. -/
structure BgG (a b : List Nat) (q : List Nat × List Nat × (Option Addr × Nat) × (Option Addr × Nat)) : Prop where
  h1 : B1 q.1
  h2 : B1 q.2.1
  l1 : q.1.length ≤ 8000000
  l2 : q.2.1.length ≤ 8000000
  c1 : (bys q.1).length ≤ q.2.2.1.2
  c2 : (bys q.2.1).length ≤ q.2.2.2.2
  eq : gcdE 3 q.1 q.2.1 = gcdE 3 a b
theorem bys_lt {b : List Nat} (hb : B1 b) : ∀ x ∈ bys b, x < 256 := (bys_tr hb.le).lt
/-- How many bits stand, but for twos. -/
def parB (p : List Nat) (i : Nat) : Nat := xs (bitN p) (8 * i)
end Go.Proofs.YtcdmmfpgeagimaaDoor
end
section
/- Leaders, the generator, its degree, walked. Conditions: the field was made by New; the errors' variables. -/
namespace Go.Proofs.YtcdmmfpgeagimaaDoor
open Go Go.Sx Go.Fm
set_option maxRecDepth 100000
theorem cos_em {m : Nat} (n : Nat) : cosP m (em m (n : Int)) = cosP m n := by rw [em_nat, cos_mod]
theorem hd_cf (m i : Nat) : cf (cosP m i) 0 = hdP m i := by unfold hdP cf; cases cosP m i <;> rfl
theorem ldr_old {m k : Nat} (h : hdP m (2 * k + 1) ∈ (ldr m k).1) : ldr m (k + 1) = ldr m k := if_pos h
theorem ldr_new {m k : Nat} (h : hdP m (2 * k + 1) ∉ (ldr m k).1) : ldr m (k + 1) = ((ldr m k).1 ++ [hdP m (2 * k + 1)], (ldr m k).2 + (cosP m (2 * k + 1)).length) := if_neg h
theorem map_snoc (L : List Nat) (x : Nat) : ints .i64 (L.map Int.ofNat) ++ [.int .i64 (x : Nat)] = ints .i64 ((L ++ [x]).map Int.ofNat) := by simp [ints]
def tri (a b c : Value) : Value := .tuple #[a, b, c]

theorem lead_ok (m t : Nat) (_e : Nat → Addr) (w : World) (hm : Ok m) (h1 : 1 ≤ t) (h40 : t ≤ 40) (hd : (ldr m t).2 < N m) : SpecX Tryd.prog 137 [.int .i64 (m : Nat), .int .i64 (t : Nat)] w (X := Option Addr × Nat) (fun q => tri (.slice q.1 (ldr m t).1.length q.2) (.int .i64 ((ldr m t).2 : Nat)) .nilIface) (fun q => (ldr m t).1.length ≤ q.2) (fun q => [own 3 1 q.1 (ldr m t).1.length q.2 (ints .i64 ((ldr m t).1.map Int.ofNat))]) := by
  have hNs := N_succ m
  have hNp := N_pos hm
  have hmh := hm.hi
  have hpo := polyI_ne hm
  refine spec_of Tryd.func137 rfl Tryd.ntmps137 rfl ?_
  refine CW.seq ?_
  refine CW.reg [0, 1, 2] rfl ?_
  refine s_as 4 rfl rfl ?_
  refine s_as 5 rfl rfl ?_
  refine s_as 6 rfl rfl ?_
  refine SX.next ?_
  refine CW.seq ?_
  refine CW.block ?_
  refine CW.seq ?_
  refine CW.reg [0, 1, 2, 3] rfl ?_
  refine s_mv 13 rfl rfl ?_
  refine s_call1 14 rfl rfl rfl rfl (fun w hw => polyM_any _ w) (fun _ _ => trivial) ?_
  refine s_eq 15 rfl rfl rfl (decide_eq_false hpo) ?_
  refine s_as 12 rfl rfl ?_
  refine SX.next ?_
  refine CW.condF rfl ?_
  refine CW.seq ?_
  refine CW.reg [0, 1, 2, 3, 4, 5, 6] rfl ?_
  refine s_mv 18 rfl rfl ?_
  refine s_lt 19 rfl rfl rfl (decide_eq_false (by omega)) ?_
  refine s_mv 20 rfl rfl ?_
  refine s_mv 21 rfl rfl ?_
  refine s_gt 22 rfl rfl rfl (decide_eq_false (by omega)) ?_
  refine s_pickF 23 rfl rfl rfl ?_
  refine s_as 17 rfl rfl ?_
  refine SX.next ?_
  refine CW.condF rfl ?_
  refine CW.skip ?_
  refine KN.blk ?_
  refine KN.code ?_
  refine CW.seq ?_
  refine CW.reg [0] rfl ?_
  refine s_as 7 rfl rfl ?_
  refine SX.next ?_
  refine CW.seq ?_
  refine CW.reg [0] rfl ?_
  refine s_as 8 rfl rfl ?_
  refine SX.next ?_
  refine CW.seq ?_
  refine CW.seq ?_
  refine CW.reg [0] rfl ?_
  refine s_as 9 rfl rfl ?_
  refine SX.next ?_
  refine CW.block ?_
  refine CW.loop (G := Nat × Option Addr × Nat) (fun q => [(0, .int .i64 (m : Nat)), (1, .int .i64 (t : Nat)), (7, .slice q.2.1 (ldr m q.1).1.length q.2.2), (8, .int .i64 ((ldr m q.1).2 : Nat)), (9, .int .i64 ((2 * q.1 + 1 : Nat) : Int))]) (fun q => Sto w [own 3 1 q.2.1 (ldr m q.1).1.length q.2.2 (ints .i64 ((ldr m q.1).1.map Int.ofNat))]) (fun q => q.1 ≤ t ∧ (ldr m q.1).1.length ≤ q.2.2) (fun q => t - q.1) (0, none, 0) ⟨rfl, rfl, rfl, rfl, rfl, trivial⟩ (fun _ h => h.begin_ 3 1) ⟨Nat.zero_le _, Nat.le_refl _⟩ ?_
  rintro ⟨k, qa, qc⟩ ⟨hk, hqc⟩
  simp only at hk hqc
  dsimp only
  have hll := ldr_len (m := m) k
  have hld := ldr_le hm k
  have hmk := Nat.mul_le_mul hmh hk
  have hce := cos_em (m := m) (2 * k + 1)
  have hcp := cos_len_pos hm (2 * k + 1)
  have hh0 := hd_cf m (2 * k + 1)
  refine CW.seq ?_
  refine CW.seq ?_
  refine CW.reg [0, 1, 2, 3] rfl ?_
  refine s_mv 25 rfl rfl ?_
  refine s_mv 26 rfl rfl ?_
  refine s_mul 27 rfl rfl rfl (r := ((2 * t : Nat) : Int)) (by rw [show (2 : Int) * ((t : Nat) : Int) = ((2 * t : Nat) : Int) by omega]; exact w64 (by omega)) ?_
  refine s_lt 28 rfl rfl rfl rfl ?_
  refine SX.next ?_
  refine CW.test rfl (fun hc => ?_) (fun hc => ?_)
  · skip
    refine CW.skip ?_
    refine KN.code ?_
    refine CW.seq ?_
    refine CW.block ?_
    refine CW.seq ?_
    refine CW.reg [0, 1, 2, 3, 4, 5, 6, 7] rfl ?_
    refine s_mv 32 rfl rfl ?_
    refine s_mv 33 rfl rfl ?_
    refine s_call 34 rfl rfl rfl rfl (fun w hw => by have := coset_spec m ((2 * k + 1 : Nat) : Int) w hm; rw [hce] at this; exact this) (fun _ _ => trivial) (fun q34 hq34 => ?_)
    refine s_mv 31 rfl rfl ?_
    refine s_ext 35 rfl rfl rfl ?_
    refine s_ext 36 rfl rfl rfl ?_
    refine s_as 10 rfl rfl ?_
    refine s_as 11 rfl rfl ?_
    refine SX.next ?_
    refine CW.seq ?_
    refine CW.seq ?_
    refine CW.reg [0, 1] rfl ?_
    refine s_mv 37 rfl rfl ?_
    refine s_neNN 38 rfl rfl ?_
    refine SX.next ?_
    refine CW.condF rfl ?_
    refine CW.skip ?_
    refine KN.code ?_
    refine CW.seq ?_
    refine CW.reg [0, 1, 2, 3, 4, 5] rfl ?_
    refine s_mv 40 rfl rfl ?_
    refine s_mv 41 rfl rfl ?_
    refine s_iaO 42 0 0 rfl rfl rfl rfl rfl (by omega) ?_
    refine s_ldO 43 0 rfl rfl rfl (natsAtC (by omega)) ?_
    refine s_call1 44 rfl rfl rfl rfl (v := .bool (decide (cf (cosP m (2 * k + 1)) 0 ∈ (ldr m k).1))) (fun w hw => by have := has_spec qa (ldr m k).1.length qc ((ldr m k).1.map Int.ofNat) (cf (cosP m (2 * k + 1)) 0 : Nat) w ((hw.has (i := 1) rfl).of_own) (by omega); rw [decide_eq_decide.2 mem_nat] at this; exact this) (fun _ _ => trivial) ?_
    refine s_not 45 rfl rfl ?_
    refine SX.next ?_
    refine CW.cond rfl (fun hc => ?_) (fun hc => ?_)
    · skip
      have hno : hdP m (2 * k + 1) ∉ (ldr m k).1 := by rw [← hh0]; simpa using hc
      have hnx := ldr_new hno
      refine CW.seq ?_
      refine CW.reg [0, 1, 2, 3, 4, 5, 6] rfl ?_
      refine s_mv 46 rfl rfl ?_
      refine s_mv 47 rfl rfl ?_
      refine s_iaO 48 0 0 rfl rfl rfl rfl rfl (by omega) ?_
      refine s_ldO 49 0 rfl rfl rfl (natsAtC (by omega)) ?_
      refine s_bsl 50 rfl rfl (cells := #[.int .i64 (cf (cosP m (2 * k + 1)) 0 : Nat)]) (by kernel_rfl) rfl (fun _ _ => trivial) (fun gb => ?_)
      refine s_app 51 2 rfl rfl rfl rfl (ys := [.int .i64 (cf (cosP m (2 * k + 1)) 0 : Nat)]) (fun w hw => Has.cong ((hw.has (i := 0) rfl).blk_sl (m := 1) rfl) rfl) rfl rfl (by omega) (by unfold maxLen; omega) (by omega) (fun _ _ _ _ => trivial) (fun A2 c2 hc2 => ?_)
      refine s_as 7 rfl rfl ?_
      refine SX.next ?_
      refine CW.reg [0, 1, 2, 3, 4] rfl ?_
      refine s_mv 52 rfl rfl ?_
      refine s_mv 53 rfl rfl ?_
      refine s_len 54 rfl rfl ?_
      refine s_add 55 rfl rfl rfl (r := (((ldr m k).2 + (cosP m (2 * k + 1)).length : Nat) : Int)) (w64 (by omega)) ?_
      refine s_as 8 rfl rfl ?_
      refine SX.end_ ?_
      refine KN.blk ?_
      refine KN.code ?_
      refine CW.reg [0, 1, 2] rfl ?_
      refine s_mv 29 rfl rfl ?_
      refine s_add 30 rfl rfl rfl (r := ((2 * (k + 1) + 1 : Nat) : Int)) (by rw [show ((2 * k + 1 : Nat) : Int) + 2 = ((2 * (k + 1) + 1 : Nat) : Int) by omega]; exact w64 (by omega)) ?_
      refine s_as 9 rfl rfl ?_
      refine SX.end_ ?_
      exact KN.back (k + 1, A2, c2) ⟨rfl, rfl, by simp only [hnx, List.length_append]; rfl, by simp only [hnx]; rfl, rfl, trivial⟩ (fun _ h => by
        have h1 := h.pick [2] rfl
        simp only [hnx, List.length_append, List.length_singleton]
        rw [map_snoc, hh0] at h1
        exact h1) ⟨by simp only; omega, by simp only [hnx, List.length_append, List.length_singleton]; exact hc2⟩ (by simp only; omega)
    · skip
      have hyes : hdP m (2 * k + 1) ∈ (ldr m k).1 := by rw [← hh0]; simpa using hc
      have hnx := ldr_old hyes
      refine CW.skip ?_
      refine KN.blk ?_
      refine KN.code ?_
      refine CW.reg [0, 1, 2] rfl ?_
      refine s_mv 29 rfl rfl ?_
      refine s_add 30 rfl rfl rfl (r := ((2 * (k + 1) + 1 : Nat) : Int)) (by rw [show ((2 * k + 1 : Nat) : Int) + 2 = ((2 * (k + 1) + 1 : Nat) : Int) by omega]; exact w64 (by omega)) ?_
      refine s_as 9 rfl rfl ?_
      refine SX.end_ ?_
      exact KN.back (k + 1, qa, qc) ⟨rfl, rfl, by simp only [hnx]; rfl, by simp only [hnx]; rfl, rfl, trivial⟩ (fun _ h => by simp only [hnx]; exact h.pick [1] rfl) ⟨by simp only; omega, by simp only [hnx]; exact hqc⟩ (by simp only; omega)
  · skip
    have hke : k = t := by omega
    subst hke
    refine CW.exit rfl ?_
    refine KN.code ?_
    refine CW.seq ?_
    refine CW.seq ?_
    refine CW.reg [0, 1, 2, 3, 4] rfl ?_
    refine s_mv 56 rfl rfl ?_
    refine s_mv 57 rfl rfl ?_
    refine s_shl 58 rfl rfl rfl (by omega) (shl_one hm) ?_
    refine s_sub 59 rfl rfl rfl (r := (((N m) : Nat) : Int)) (by rw [show (((N m) + 1 : Nat) : Int) - 1 = (((N m) : Nat) : Int) by omega]; exact w64 (by omega)) ?_
    refine s_ge 60 rfl rfl rfl (decide_eq_false (by omega)) ?_
    refine SX.next ?_
    refine CW.condF rfl ?_
    refine CW.skip ?_
    refine KN.code ?_
    refine CW.seq ?_
    refine CW.reg [0, 1, 2, 3, 4] rfl ?_
    refine s_mv 62 rfl rfl ?_
    refine s_mv 63 rfl rfl ?_
    refine s_as 4 rfl rfl ?_
    refine s_as 5 rfl rfl ?_
    refine s_as 6 rfl rfl ?_
    refine SX.next ?_
    refine CW.ret ?_
    exact KN.ret (rs := [.tmp 4, .tmp 5, .tmp 6]) Tryd.results137 rfl (fun w hw => ⟨(qa, qc), rfl, hqc, hw⟩)

theorem least_ok (m t : Nat) (e : Nat → Addr) (w : World) (hm : Ok m) (h1 : 1 ≤ t) (h40 : t ≤ 40) (hd : (ldr m t).2 < N m) : Spec1 Tryd.prog 118 [.int .i64 (m : Nat), .int .i64 (t : Nat)] w (two (.int .i64 ((ldr m t).2 : Nat)) .nilIface) := by
  refine spec_of Tryd.func118 rfl Tryd.ntmps118 rfl ?_
  refine CW.seq ?_
  refine CW.reg [0, 1] rfl ?_
  refine s_as 4 rfl rfl ?_
  refine s_as 5 rfl rfl ?_
  refine SX.next ?_
  refine CW.seq ?_
  refine CW.reg [0, 1, 2, 3, 4, 5, 6, 7, 8, 9] rfl ?_
  refine s_mv 10 rfl rfl ?_
  refine s_mv 11 rfl rfl ?_
  refine s_call 12 rfl rfl rfl rfl (fun w hw => lead_ok m t e w hm h1 h40 hd) (fun _ _ => trivial) (fun q hq => ?_)
  refine s_mv 9 rfl rfl ?_
  refine s_ext 13 rfl rfl rfl ?_
  refine s_ext 14 rfl rfl rfl ?_
  refine s_ext 15 rfl rfl rfl ?_
  refine s_as 6 rfl rfl ?_
  refine s_as 7 rfl rfl ?_
  refine s_as 8 rfl rfl ?_
  refine SX.next ?_
  refine CW.seq ?_
  refine CW.reg [0, 1, 2, 3] rfl ?_
  refine s_mv 16 rfl rfl ?_
  refine s_mv 17 rfl rfl ?_
  refine s_as 4 rfl rfl ?_
  refine s_as 5 rfl rfl ?_
  refine SX.next ?_
  refine CW.ret ?_
  exact KN.ret (rs := [.tmp 4, .tmp 5]) Tryd.results118 rfl (fun w hw => ⟨rfl, hw.nothing⟩)

/-! ### The product -/
def hdB (m : Nat) (q : (Option Addr × Nat) × Nat) : Value := .slice q.1.1 (bys (minP m q.2)).length q.1.2
theorem gen_take {m : Nat} (hm : Ok m) {L : List Nat} {i k : Nat} (h : L[i]? = some k) : genL m (L.take (i + 1)) = mulP 3 (genL m (L.take i)) (minP m k) := by
  rw [List.take_add_one, h]
  exact gen_snoc hm _ _
theorem bys_one : bys [1] = [1] := by decide +kernel

theorem mprod_spec (m : Nat) (A : Option Addr) (n c : Nat) (qs : List ((Option Addr × Nat) × Nat)) (w : World) (hm : Ok m) (ho : Has (sl 1 A n (qs.map (hdB m))) w) (hb : qs.length = n) (hn : n ≤ 40) (hcs : ∀ q ∈ qs, (bys (minP m q.2)).length ≤ q.1.2) (hin : ∀ q ∈ qs, Has (sl 1 q.1.1 (bys (minP m q.2)).length (nats .u8 (bys (minP m q.2)))) w) : SpecX Tryd.prog 141 [.slice A n c, .func (.func 28) #[] #[]] w (X := Option Addr × Nat) (fun q => two (.slice q.1 (bys (genL m ((qs.map (·.2)).take n))).length q.2) .nilIface) (fun q => (bys (genL m ((qs.map (·.2)).take n))).length ≤ q.2) (fun q => [own 5 1 q.1 (bys (genL m ((qs.map (·.2)).take n))).length q.2 (nats .u8 (bys (genL m ((qs.map (·.2)).take n))))]) := by
  have hmh := hm.hi
  refine spec_of Tryd.func141 rfl Tryd.ntmps141 rfl ?_
  refine CW.seq ?_
  refine CW.reg [0, 1] rfl ?_
  refine s_as 4 rfl rfl ?_
  refine s_as 5 rfl rfl ?_
  refine SX.next ?_
  refine CW.seq ?_
  refine CW.reg [0, 1] rfl ?_
  refine s_bsl 10 rfl rfl (cells := #[.int .u8 1]) (by kernel_rfl) rfl (fun _ _ => trivial) (fun gb => ?_)
  refine s_as 6 rfl rfl ?_
  refine SX.next ?_
  refine CW.seq ?_
  refine CW.reg [0] rfl ?_
  refine s_as 7 rfl rfl ?_
  refine SX.next ?_
  refine CW.seq ?_
  refine CW.seq ?_
  refine CW.reg [0, 1, 2] rfl ?_
  refine s_mv 11 rfl rfl ?_
  refine s_len 12 rfl rfl ?_
  refine s_mv 13 rfl rfl ?_
  refine SX.next ?_
  refine CW.block ?_
  refine CW.loop (G := Nat × Option Addr × Nat) (fun q => [(1, .func (.func 28) #[] #[]), (6, .slice q.2.1 (bys (genL m ((qs.map (·.2)).take q.1))).length q.2.2), (11, .slice A n c), (12, .int .i64 (n : Nat)), (13, .int .i64 (q.1 : Nat))]) (fun q => Sto w [own 5 1 q.2.1 (bys (genL m ((qs.map (·.2)).take q.1))).length q.2.2 (nats .u8 (bys (genL m ((qs.map (·.2)).take q.1))))]) (fun q => q.1 ≤ n ∧ (bys (genL m ((qs.map (·.2)).take q.1))).length ≤ q.2.2) (fun q => n - q.1) (0, some ⟨gb, 0, none⟩, 1) ⟨rfl, by rw [show bys (genL m ((qs.map (·.2)).take 0)) = [1] from bys_one]; rfl, rfl, rfl, rfl, trivial⟩ (fun _ h => by
  have h1 := h.blkOwn (q := 0) (c := 1) (sz := 1) rfl rfl (by unfold maxLen; omega)
  have e : bys (genL m ((qs.map (·.2)).take 0)) = [1] := bys_one
  simp only [e]
  exact h1) ⟨Nat.zero_le _, by rw [show bys (genL m ((qs.map (·.2)).take 0)) = [1] from bys_one]; exact Nat.le_refl _⟩ ?_
  rintro ⟨i, qa, qc⟩ ⟨hi, hqc⟩
  simp only at hi hqc
  dsimp only
  have hgb := gen_b1 hm ((qs.map (·.2)).take i)
  have hgl := gen_len hm ((qs.map (·.2)).take i)
  have hgs := gen_deg hm ((qs.map (·.2)).take i)
  have hgt : ((qs.map (·.2)).take i).length ≤ 40 := by rw [List.length_take, List.length_map]; omega
  have hmm := Nat.mul_le_mul hmh hgt
  have hbl := bys_len (genL m ((qs.map (·.2)).take i))
  refine CW.seq ?_
  refine CW.reg [0] rfl ?_
  refine s_lt 14 rfl rfl rfl rfl ?_
  refine SX.next ?_
  refine CW.seq ?_
  refine CW.test rfl (fun hc => ?_) (fun hc => ?_)
  · skip
    obtain ⟨z, hzi⟩ : ∃ z, qs[i]? = some z := ⟨_, List.getElem?_eq_getElem (by omega)⟩
    have hzm := List.mem_of_getElem? hzi
    have hki : (qs.map (·.2))[i]? = some z.2 := by rw [List.getElem?_map, hzi]; rfl
    have hgt2 := gen_take hm hki
    have hhd : (qs.map (hdB m))[i * 1]? = some (hdB m z) := by rw [Nat.mul_one, List.getElem?_map, hzi]; rfl
    have hmb := minP_b1 hm z.2
    have hml := minP_len hm z.2
    have hcl := cos_len_pos hm z.2
    have hbm := bys_len (minP m z.2)
    generalize genL m ((qs.map (·.2)).take i) = G at hgb hgl hgs hbl hgt2 hqc ⊢
    generalize hQ : minP m z.2 = Q at hgt2 hmb hml hbm
    have hcz := hcs z hzm
    have hiz := hin z hzm
    have hhz : hdB m z = .slice z.1.1 (bys Q).length z.1.2 := by unfold hdB; rw [hQ]
    rw [hQ] at hcz hiz
    rw [hhz] at hhd
    refine CW.skip ?_
    refine KN.code ?_
    refine CW.seq ?_
    refine CW.block ?_
    refine CW.seq ?_
    refine CW.reg [0, 1, 2] rfl ?_
    refine s_iaV 15 i (fun w hw => hw.old ho) rfl rfl rfl rfl (by omega) ?_
    refine s_ldV 16 (fun w hw => hw.old ho) rfl rfl hhd (by omega) ?_
    refine s_as 9 rfl rfl ?_
    refine SX.next ?_
    refine CW.seq ?_
    refine CW.reg [0, 1, 2, 3, 4, 5, 6, 7, 8] rfl ?_
    refine s_mv 18 rfl rfl ?_
    refine s_mv 19 rfl rfl ?_
    refine s_mv 20 rfl rfl ?_
    refine s_call 21 rfl rfl rfl rfl (fun w hw => by have := bmul_spec qa (bys G).length qc (bys G) z.1.1 (bys Q).length z.1.2 (bys Q) w ((hw.has (i := 0) rfl).of_own) (bys_lt hgb) (by omega) hqc (hw.old hiz) (bys_lt hmb) (by omega) hcz (by rw [bl_bys hgb, bl_bys hmb]; omega); rw [bl_bys hgb, bl_bys hmb, ← hgt2] at this; exact this) (fun _ _ => trivial) (fun q21 hq21 => ?_)
    refine s_mv 17 rfl rfl ?_
    refine s_ext 22 rfl rfl rfl ?_
    refine s_ext 23 rfl rfl rfl ?_
    refine s_as 6 rfl rfl ?_
    refine s_as 7 rfl rfl ?_
    refine SX.next ?_
    refine CW.seq ?_
    refine CW.reg [0, 1] rfl ?_
    refine s_mv 24 rfl rfl ?_
    refine s_neNN 25 rfl rfl ?_
    refine SX.next ?_
    refine CW.condF rfl ?_
    refine CW.skip ?_
    refine KN.blk ?_
    refine KN.code ?_
    refine CW.reg [0, 1] rfl ?_
    refine s_add 27 rfl rfl rfl (r := ((i + 1 : Nat) : Int)) (w64 (by omega)) ?_
    refine s_mv 13 rfl rfl ?_
    refine SX.end_ ?_
    exact KN.back (i + 1, q21.1, q21.2) ⟨rfl, rfl, rfl, rfl, rfl, trivial⟩ (fun _ h => h.pick [0] rfl) ⟨by simp only; omega, hq21⟩ (by simp only; omega)
  · skip
    have hie : i = n := by omega
    subst hie
    refine CW.exit rfl ?_
    refine KN.code ?_
    refine CW.seq ?_
    refine CW.reg [0, 1, 2] rfl ?_
    refine s_mv 28 rfl rfl ?_
    refine s_as 4 rfl rfl ?_
    refine s_as 5 rfl rfl ?_
    refine SX.next ?_
    refine CW.ret ?_
    exact KN.ret (rs := [.tmp 4, .tmp 5]) Tryd.results141 rfl (fun w hw => ⟨(qa, qc), rfl, hqc, hw.pick [0] rfl⟩)
end Go.Proofs.YtcdmmfpgeagimaaDoor
end
section
/- The generator, all cosets, the chapter's examples, walked. Conditions: the field was made by New; the errors' variables. -/
namespace Go.Proofs.YtcdmmfpgeagimaaDoor
open Go Go.Sx Go.Fm
set_option maxRecDepth 100000
theorem ldr_lt {m : Nat} (hm : Ok m) {t x : Nat} (hx : x ∈ (ldr m t).1) : x < N m := by
  obtain ⟨j, _, e⟩ := ldr_mem hm hx
  rw [e]
  exact cos_lt hm (hd_mem hm _)
theorem em_small {m : Nat} {k : Nat} (h : k < N m) : em m (k : Int) = k := by rw [em_nat, Nat.mod_eq_of_lt h]

theorem gen_ok (g m t : Nat) (e : Nat → Addr) (w : World) (hm : Ok m) (hf : Has (fieldA g m) w) (h1 : 1 ≤ t) (h40 : t ≤ 40) (hd : (ldr m t).2 < N m) : SpecX Tryd.prog 120 [.pointer (some ⟨g, 0, none⟩), .int .i64 (t : Nat)] w (X := Option Addr × Nat) (fun q => two (.slice q.1 (bys (genL m (ldr m t).1)).length q.2) .nilIface) (fun q => (bys (genL m (ldr m t).1)).length ≤ q.2) (fun q => [own 5 1 q.1 (bys (genL m (ldr m t).1)).length q.2 (nats .u8 (bys (genL m (ldr m t).1)))]) := by
  have hll := ldr_len (m := m) t
  have hmh := hm.hi
  refine spec_of Tryd.func120 rfl Tryd.ntmps120 rfl ?_
  refine CW.seq ?_
  refine CW.reg [0, 1] rfl ?_
  refine s_as 4 rfl rfl ?_
  refine s_as 5 rfl rfl ?_
  refine SX.next ?_
  refine CW.seq ?_
  refine CW.reg [0, 1, 2, 3, 4, 5, 6, 7, 8, 9, 10] rfl ?_
  refine s_mv 13 rfl rfl ?_
  refine s_call1 14 rfl rfl rfl rfl (fun w hw => m_spec g m w hm (hw.old hf)) (fun _ _ => trivial) ?_
  refine s_mv 15 rfl rfl ?_
  refine s_call 16 rfl rfl rfl rfl (fun w hw => lead_ok m t e w hm h1 h40 hd) (fun _ _ => trivial) (fun q16 hq16 => ?_)
  refine s_mv 12 rfl rfl ?_
  refine s_ext 17 rfl rfl rfl ?_
  refine s_ext 18 rfl rfl rfl ?_
  refine s_ext 19 rfl rfl rfl ?_
  refine s_as 6 rfl rfl ?_
  refine s_as 7 rfl rfl ?_
  refine s_as 8 rfl rfl ?_
  refine SX.next ?_
  refine CW.seq ?_
  refine CW.seq ?_
  refine CW.reg [0, 1] rfl ?_
  refine s_mv 20 rfl rfl ?_
  refine s_neNN 21 rfl rfl ?_
  refine SX.next ?_
  refine CW.condF rfl ?_
  refine CW.skip ?_
  refine KN.code ?_
  refine CW.seq ?_
  refine CW.reg [0] rfl ?_
  refine s_as 9 rfl rfl ?_
  refine SX.next ?_
  refine CW.seq ?_
  refine CW.seq ?_
  refine CW.reg [0, 1, 2] rfl ?_
  refine s_mv 23 rfl rfl ?_
  refine s_len 24 rfl rfl ?_
  refine s_mv 25 rfl rfl ?_
  refine SX.next ?_
  refine CW.block ?_
  refine CW.loop (G := Nat × List ((Option Addr × Nat) × Nat) × List Atom × Option Addr × Nat) (fun q => [(0, .pointer (some ⟨g, 0, none⟩)), (9, .slice q.2.2.2.1 q.1 q.2.2.2.2), (23, .slice q16.1 (ldr m t).1.length q16.2), (24, .int .i64 ((ldr m t).1.length : Nat)), (25, .int .i64 (q.1 : Nat))]) (fun q => Sto w [own 47 1 q.2.2.2.1 q.1 q.2.2.2.2 (q.2.1.map (hdB m)), starA q.2.2.1, own 3 1 q16.1 (ldr m t).1.length q16.2 (ints .i64 ((ldr m t).1.map Int.ofNat))]) (fun q => q.1 ≤ (ldr m t).1.length ∧ q.2.1.length = q.1 ∧ q.2.1.map (·.2) = (ldr m t).1.take q.1 ∧ (∀ z ∈ q.2.1, (bys (minP m z.2)).length ≤ z.1.2) ∧ ∀ z ∈ q.2.1, own 5 1 z.1.1 (bys (minP m z.2)).length z.1.2 (nats .u8 (bys (minP m z.2))) ∈ q.2.2.1) (fun q => (ldr m t).1.length - q.1) (0, [], [], none, 0) ⟨rfl, rfl, rfl, rfl, rfl, trivial⟩ (fun _ h => by
  have h1 := (h.begin_ 47 1).nilStar'
  exact h1.pick [0, 1, 0] rfl) ⟨Nat.zero_le _, rfl, rfl, (fun z hz => by cases hz), (fun z hz => by cases hz)⟩ ?_
  rintro ⟨i, qs, X, oa, oc⟩ ⟨hi, hql, hqm, hqc, hqX⟩
  simp only at hi hql hqm hqc hqX
  dsimp only
  refine CW.seq ?_
  refine CW.reg [0] rfl ?_
  refine s_lt 26 rfl rfl rfl rfl ?_
  refine SX.next ?_
  refine CW.seq ?_
  refine CW.test rfl (fun hc => ?_) (fun hc => ?_)
  · skip
    have hki := cf_in (l := (ldr m t).1) (j := i) (by omega)
    have hkl := ldr_lt hm (List.mem_of_getElem? hki)
    have hke := em_small hkl
    refine CW.skip ?_
    refine KN.code ?_
    refine CW.seq ?_
    refine CW.block ?_
    refine CW.seq ?_
    refine CW.reg [0, 1, 2] rfl ?_
    refine s_iaO 27 2 i rfl rfl rfl rfl rfl (by omega) ?_
    refine s_ldO 28 2 rfl rfl rfl (v := .int .i64 (cf (ldr m t).1 i : Nat)) (by rw [← nats_ints]; exact natsAtC (by omega)) ?_
    refine s_as 11 rfl rfl ?_
    refine SX.next ?_
    refine CW.reg [0, 1, 2, 3, 4, 5, 6] rfl ?_
    refine s_mv 29 rfl rfl ?_
    refine s_mv 30 rfl rfl ?_
    refine s_mv 31 rfl rfl ?_
    refine s_call 32 rfl rfl rfl rfl (fun w hw => by have := mof_spec g m (cf (ldr m t).1 i : Nat) w hm (hw.old hf); rw [hke] at this; exact this) (fun _ _ => trivial) (fun q32 hq32 => ?_)
    refine s_bsl 33 rfl rfl (cells := #[hdB m (q32, cf (ldr m t).1 i)]) (by kernel_rfl) rfl (fun _ _ => trivial) (fun b33 => ?_)
    refine s_app 34 2 rfl rfl rfl rfl (ys := [hdB m (q32, cf (ldr m t).1 i)]) (fun w hw => Has.cong ((hw.has (i := 0) rfl).blk_sl (m := 1) rfl) rfl) rfl rfl (by omega) (by unfold maxLen; omega) (by omega) (fun _ _ _ _ => trivial) (fun A2 c2 hc2 => ?_)
    refine s_as 9 rfl rfl ?_
    refine SX.end_ ?_
    refine KN.blk ?_
    refine KN.code ?_
    refine CW.reg [0, 1] rfl ?_
    refine s_add 35 rfl rfl rfl (r := ((i + 1 : Nat) : Int)) (w64 (by omega)) ?_
    refine s_mv 25 rfl rfl ?_
    refine SX.end_ ?_
    exact KN.back (i + 1, qs ++ [(q32, cf (ldr m t).1 i)], own 5 1 q32.1 (bys (minP m (cf (ldr m t).1 i))).length q32.2 (nats .u8 (bys (minP m (cf (ldr m t).1 i)))) :: X, A2, c2) ⟨rfl, rfl, rfl, rfl, rfl, trivial⟩ (fun _ h => by
      have h1 := h.pick [1, 2, 1, 1] rfl
      have h2 := h1.moreStar
      simp only [List.map_append, List.map_cons, List.map_nil]
      exact h2.pick [1, 0, 0] rfl) ⟨by simp only; omega, by simp only [List.length_append, List.length_singleton]; omega, by
      simp only [List.map_append, List.map_cons, List.map_nil]
      rw [List.take_add_one, hki, hqm]; rfl, fun z hz => by
      rcases List.mem_append.1 hz with h | h
      · exact hqc z h
      · rw [List.mem_singleton.1 h]; exact hq32, fun z hz => by
      rcases List.mem_append.1 hz with h | h
      · exact List.mem_cons_of_mem _ (hqX z h)
      · rw [List.mem_singleton.1 h]; exact List.mem_cons_self ..⟩ (by simp only; omega)
  · skip
    have hie : i = (ldr m t).1.length := by omega
    have hfin : genL m ((qs.map (·.2)).take i) = genL m (ldr m t).1 := by rw [hqm, List.take_take, Nat.min_self, hie, List.take_length]
    refine CW.exit rfl ?_
    refine KN.code ?_
    refine CW.seq ?_
    refine CW.reg [0, 1, 2, 3, 4, 5] rfl ?_
    refine s_mv 36 rfl rfl ?_
    refine s_call 37 rfl rfl rfl rfl (fun w hw => by have := mprod_spec m oa i oc qs w hm ((hw.has (i := 0) rfl).of_own) hql (by omega) hqc (fun z hz => (Has.star (hw.has (i := 1) rfl) (hqX z hz)).of_own); rw [hfin] at this; exact this) (fun _ _ => trivial) (fun q37 hq37 => ?_)
    refine s_ext 38 rfl rfl rfl ?_
    refine s_ext 39 rfl rfl rfl ?_
    refine s_as 4 rfl rfl ?_
    refine s_as 5 rfl rfl ?_
    refine SX.next ?_
    refine CW.ret ?_
    exact KN.ret (rs := [.tmp 4, .tmp 5]) Tryd.results120 rfl (fun w hw => ⟨q37, rfl, hq37, hw.pick [0] rfl⟩)

def mkm (k : Int) (m : Int) : Nat := (m % k).toNat + 3
theorem mkm_val {k : Int} (hk : 0 < k) (m : Int) : (m.tmod k + k).tmod k = (((m % k).toNat : Nat) : Int) := by
  have h1 := Int.emod_nonneg m (b := k) (by omega)
  have hb := tmod_lt2 hk m
  rw [Int.tmod_eq_emod_of_nonneg (by omega), Int.add_emod_right, tmod_emod]
  omega
end Go.Proofs.YtcdmmfpgeagimaaDoor
end
section
/- Codes in memory; the register's steps, walked. Conditions: the code was made by New. -/
namespace Go.Proofs.YtcdmmfpgeagimaaDoor
open Go Go.Sx Go.Fm Nb
set_option maxRecDepth 100000
theorem _root_.Go.Sx.HasN.ex {G : Type} {f : G → Atom} {r : Nat} {w : World} (h : HasN r (exA f) w) : ∃ x, HasN r (f x) w := by
  obtain ⟨D, ⟨x, h1⟩, h2⟩ := h
  exact ⟨x, D, h1, h2⟩
theorem _root_.Go.Sx.HasN.star {X : List Atom} {A : Atom} {r : Nat} {w : World} (h : HasN r (starA X) w) (hA : A ∈ X) : HasN r A w := by
  obtain ⟨D, h1, h2⟩ := h
  have key : ∀ (X : List Atom) (D : Nat → Prop), starOk X w D → (∀ k, D k → k < w.heap.size ∧ k ≠ r) → A ∈ X → HasN r A w := by
    intro X
    induction X with
    | nil => intro D _ _ hm; cases hm
    | cons B X ih =>
      rintro D ⟨D1, D2, k1, k2, k3, k4⟩ hlt hm
      rcases List.mem_cons.1 hm with rfl | hm
      · exact ⟨D1, k1, fun k hk => hlt k ((k3 k).2 (.inl hk))⟩
      · exact ih D2 k2 (fun k hk => hlt k ((k3 k).2 (.inr hk))) hm
  exact key X D h1 h2 hA
theorem _root_.Go.Sx.HasN.of_own {E : TypeId} {sz r : Nat} {A : Option Addr} {n c : Nat} {vs : List Value} {w : World} (h : HasN r (own E sz A n c vs) w) : HasN r (sl sz A n vs) w := let ⟨D, h1, h2⟩ := h; ⟨D, own_sl h1, h2⟩
theorem pow8_lt' (k : Nat) : 2 ^ (k % 8) < 256 := Nat.pow_lt_pow_right (n := 8) (by omega) (Nat.mod_lt _ (by omega))
theorem le_sum : ∀ (L : List Nat) {x : Nat}, x ∈ L → x ≤ L.sum
  | [], _, h => by cases h
  | y :: L, x, h => by
    rw [List.sum_cons]
    rcases List.mem_cons.1 h with rfl | h
    · omega
    · have := le_sum L h
      omega
/-! ### Numbers of a code -/
/-- The generator's degree. -/
def dg (m t : Nat) : Nat := (genL m (ldr m t).1).length - 1
/-- The bytes of parity. -/
def prB (m t : Nat) : Nat := (dg m t + 7) / 8
def gnB (m t : Nat) : List Nat := bys (genL m (ldr m t).1)
def lwB (m t : Nat) : List Nat := pb (prB m t) (lowG (genL m (ldr m t).1))
/-- The register behind a word's upper part. -/
noncomputable def rgL (m t : Nat) (A : List Nat) : List Nat := pb (prB m t) (encE (genL m (ldr m t).1) A)
noncomputable def rgB (m t : Nat) (A : List Nat) : Array Value := rB (prB m t) (cf (rgL m t A))
theorem rgL_len (m t : Nat) (A : List Nat) : (rgL m t A).length = prB m t := pb_len _ _
/-- A data's parity. -/
noncomputable def encB (m t : Nat) (data : List Nat) : List Nat := pb (prB m t) (encE (genL m (ldr m t).1) (bl data))
/-- A field and a number of bits for which there is a code. -/
structure MT (m t : Nat) : Prop where
  ok : Ok m
  t1 : 1 ≤ t
  t40 : t ≤ 40
section
variable {m t : Nat} (h : MT m t)
include h
theorem MT.gb : B1 (genL m (ldr m t).1) := gen_b1 h.ok _
theorem MT.g2 : 2 ≤ (genL m (ldr m t).1).length := by
  have h1 := ldr_has (m := m) (k := t) (j := 0) h.t1
  rw [gen_len h.ok]
  have h2 := cos_len_pos h.ok (hdP m (2 * 0 + 1))
  have h3 : (cosP m (hdP m (2 * 0 + 1))).length ≤ ((ldr m t).1.map (fun x => (cosP m x).length)).sum := le_sum _ (List.mem_map.2 ⟨_, h1, rfl⟩)
  omega
theorem MT.d1 : 1 ≤ dg m t := by have := h.g2; unfold dg; omega
theorem MT.deg : (ldr m t).2 = dg m t := by
  unfold dg
  rw [gen_len h.ok, ldr_deg h.ok]
  omega
theorem MT.d560 : dg m t ≤ 560 := by
  have h1 := ldr_le h.ok t
  rw [h.deg] at h1
  have := Nat.mul_le_mul h.ok.hi h.t40
  omega
theorem MT.p1 : 1 ≤ prB m t := by have := h.d1; unfold prB; omega
theorem MT.p70 : prB m t ≤ 70 := by have := h.d560; unfold prB; omega
theorem MT.eb {A : List Nat} (hA : B1 A) : B1 (encE (genL m (ldr m t).1) A) := encE_b1 h.gb h.g2 hA
theorem MT.lt {A : List Nat} (hA : B1 A) : ∀ x ∈ rgL m t A, x < 256 := pb_lt (h.eb hA) _
theorem MT.lwlt : ∀ x ∈ lwB m t, x < 256 := pb_lt (lowG_b1 h.gb h.g2) _
theorem MT.zero : (List.replicate (prB m t) (Value.int .u8 0)).toArray = rgB m t [] := by
  rw [rB_zero]
  unfold rgB rgL
  rw [encE_zero h.gb h.g2]
theorem MT.top {A : List Nat} (hA : B1 A) : (cf (rgL m t A) ((dg m t - 1) / 8) >>> ((dg m t - 1) % 8)) % 2 = cf (encE (genL m (ldr m t).1) A) (dg m t - 1) := reg_bit (h.eb hA) (by have := h.d1; unfold prB; omega)
theorem MT.bit {A : List Nat} (hA : B1 A) {j : Nat} (hj : j < dg m t) : (cf (rgL m t A) (j / 8) >>> (j % 8)) % 2 = cf (encE (genL m (ldr m t).1) A) j := reg_bit (h.eb hA) (by unfold prB; omega)
theorem MT.out {A : List Nat} (hA : B1 A) {b : Nat} (hb : b < 2) (hne : b ≠ cf (encE (genL m (ldr m t).1) A) (dg m t - 1)) : rB (prB m t) (xq (shC (dg m t) (rgL m t A)) (cf (lwB m t)) (prB m t)) = rgB m t (consP b A) := step_out h.gb h.g2 hA hb hne
theorem MT.inn {A : List Nat} (hA : B1 A) {b : Nat} (hb : b < 2) (he : b = cf (encE (genL m (ldr m t).1) A) (dg m t - 1)) : rB (prB m t) (shC (dg m t) (rgL m t A)) = rgB m t (consP b A) := step_in h.gb h.g2 hA hb he
theorem MT.byte (h9 : 8 ≤ dg m t) {A : List Nat} (hA : B1 A) {y : Nat} (hy : y < 256) : rB (prB m t) (xq (shD (dg m t) (rgL m t A)) (cf (rgL m t (bl [topB (dg m t) (encE (genL m (ldr m t).1) A) ^^^ y]))) (prB m t)) = rgB m t (addP (upP 8 A) (bl [y])) := step_byte h.gb h.g2 (by unfold dg at h9; omega) hA hy
end
theorem sh1_start (m t : Nat) (A : List Nat) : rB (prB m t) (sh1 (rgL m t A) (prB m t - 1)) = rgB m t A := by
  have := sh1_top (rgL m t A)
  rw [rgL_len] at this
  exact this
theorem sh2_cutM {m t : Nat} (A : List Nat) (h : dg m t % 8 ≠ 0) : (fun j => if j = prB m t - 1 then sh2 (rgL m t A) (prB m t - 1) % 2 ^ (dg m t % 8) else sh2 (rgL m t A) j) = shC (dg m t) (rgL m t A) := by
  have := sh2_cut (L := rgL m t A) (dg m t) h
  rw [rgL_len] at this
  exact this
theorem shr8 {x : Nat} (hx : x < 256) (s : Nat) : x >>> s < 256 := Nat.lt_of_le_of_lt (Nat.shiftRight_le _ _) hx
theorem cut_mask (d : Nat) : 1 ≤ 2 ^ (d % 8) ∧ 2 ^ (d % 8) < 256 := ⟨Nat.one_le_two_pow, pow8_lt' d⟩
/-! ### A code in memory -/
instance : FA Tryd.prog 129 7 7 := FA.mk' Tryd.underlying129 rfl rfl (by kernel_rfl)
instance : ArrT Tryd.prog 127 22 256 1 (List.replicate 256 (.slice none 0 0)) := ArrT.mk' Tryd.underlying127 (by kernel_rfl) (by kernel_rfl)
instance : StructT Tryd.prog 129 [(0, 1), (1, 1), (2, 1), (3, 1), (4, 1), (5, 1), (6, 1), (7, 256)] (.pointer none :: .int .i64 0 :: .int .i64 0 :: .int .i64 0 :: .int .i64 0 :: .slice none 0 0 :: .slice none 0 0 :: List.replicate 256 (.slice none 0 0)) := StructT.mk' Tryd.underlying129 (by kernel_rfl) (by kernel_rfl)
def CT : TypeId := 129
structure CodeG where
  f : Nat
  A1 : Option Addr
  c1 : Nat
  A2 : Option Addr
  c2 : Nat
  gs : List Nat
  X : List Atom
/-- The table's slices, as far as they are made. -/
def tabV (p : Nat) (gs : List Nat) (i : Nat) : Value := match gs[i]? with | some g => .slice (some ⟨g, 0, none⟩) p p | none => .slice none 0 0
def tabL (p : Nat) (gs : List Nat) : List Value := (List.range 256).map (tabV p gs)
def codeL (m t n : Nat) (q : CodeG) : List Value := .pointer (some ⟨q.f, 0, none⟩) :: .int .i64 (t : Nat) :: .int .i64 (n : Nat) :: .int .i64 (dg m t : Nat) :: .int .i64 (prB m t : Nat) :: .slice q.A1 (gnB m t).length q.c1 :: .slice q.A2 (prB m t) q.c2 :: tabL (prB m t) q.gs
theorem tabL_at (p : Nat) (gs : List Nat) {i : Nat} (h : i < 256) : (tabL p gs)[i]? = some (tabV p gs i) := by simp [tabL, h]
theorem tabL_set (p : Nat) (gs : List Nat) (g : Nat) : (tabL p gs).set gs.length (.slice (some ⟨g, 0, none⟩) p p) = tabL p (gs ++ [g]) := by
  apply List.ext_getElem?
  intro j
  rw [List.getElem?_set]
  have hl : ∀ gs, (tabL p gs).length = 256 := fun gs => by simp [tabL]
  by_cases hj : j < 256
  · rw [tabL_at p _ hj, tabL_at p _ hj, hl]
    unfold tabV
    by_cases h : gs.length = j
    · subst h
      rw [if_pos rfl, if_pos hj, List.getElem?_append_right (Nat.le_refl _), Nat.sub_self]
      rfl
    · rw [if_neg h]
      by_cases h2 : j < gs.length
      · rw [List.getElem?_append_left h2]
      · rw [List.getElem?_append_right (by omega), List.getElem?_eq_none (by omega), List.getElem?_eq_none (by simp; omega)]
  · rw [List.getElem?_eq_none (by rw [hl]; omega), List.getElem?_eq_none (by rw [hl]; omega)]
    split
    · rw [if_neg (by rw [hl]; omega)]
    · rfl
theorem tabL_nil (p : Nat) : tabL p [] = List.replicate 256 (.slice none 0 0) := by
  show (List.range 256).map (fun _ => Value.slice none 0 0) = _
  rw [List.map_const', List.length_range]
/-- A block of the table. -/
noncomputable def rowB (m t g y : Nat) : Atom := blk g 5 (rgB m t (bl [y]))
def lowO (m t : Nat) (q : CodeG) : Atom := own 5 1 q.A2 (prB m t) q.c2 (nats .u8 (lwB m t))
def genO (m t : Nat) (q : CodeG) : Atom := own 5 1 q.A1 (gnB m t).length q.c1 (nats .u8 (gnB m t))
structure CodeG.Fine (m t : Nat) (q : CodeG) : Prop where
  c1 : (gnB m t).length ≤ q.c1
  c2 : prB m t ≤ q.c2
  len : q.gs.length = 256
  row : ∀ y g, q.gs[y]? = some g → rowB m t g y ∈ q.X
/-- A code. -/
noncomputable def codeA (c m t n : Nat) (q : CodeG) : Atom := starA [blk c CT (codeL m t n q).toArray, genO m t q, lowO m t q, fieldA q.f m, starA q.X]
theorem code_at {c m t n : Nat} {q : CodeG} {w : World} (h : Has (codeA c m t n q) w) : Has (blk c CT (codeL m t n q).toArray) w ∧ Has (genO m t q) w ∧ Has (lowO m t q) w ∧ Has (fieldA q.f m) w ∧ Has (starA q.X) w :=
  ⟨h.star (by simp), h.star (by simp), h.star (by simp), h.star (by simp), h.star (by simp)⟩
/-- What the register's steps read. -/
structure LowH (c r m t : Nat) (cs : Array Value) (A2 : Option Addr) (c2 : Nat) (w : World) : Prop where
  blk : HasN r (blk c CT cs) w
  deg : cs[3]? = some (.int .i64 (dg m t : Nat))
  hdr : cs[6]? = some (.slice A2 (prB m t) c2)
  low : HasN r (sl 1 A2 (prB m t) (nats .u8 (lwB m t))) w
theorem LowH.old {c r m t : Nat} {cs : Array Value} {A2 : Option Addr} {c2 : Nat} {w w' : World} {L : List Atom} (h : LowH c r m t cs A2 c2 w) (hw : St (Ex r w) w L w') : LowH c r m t cs A2 c2 w' := ⟨hw.oldN h.blk, h.deg, h.hdr, hw.oldN h.low⟩
/-- And the table. -/
structure TabH (c r m t : Nat) (cs : Array Value) (w : World) : Prop where
  row : ∀ y, y < 256 → ∃ g, cs[7 + y]? = some (.slice (some ⟨g, 0, none⟩) (prB m t) (prB m t)) ∧ HasN r (rowB m t g y) w
theorem TabH.old {c r m t : Nat} {cs : Array Value} {w w' : World} {L : List Atom} (h : TabH c r m t cs w) (hw : St (Ex r w) w L w') : TabH c r m t cs w' := ⟨fun y hy => let ⟨g, h1, h2⟩ := h.row y hy; ⟨g, h1, hw.oldN h2⟩⟩
theorem shift_ok (c r m t : Nat) (cs : Array Value) (A2 : Option Addr) (c2 rc : Nat) (A : List Nat) (b : Nat) (w : World) (hMT : MT m t) (hh : LowH c r m t cs A2 c2 w) (hA : B1 A) (hb : b < 2) (hw : w.heap[r]? = some (.cells (rgB m t A) 5 (0, 0))) : WCall Tryd.prog 121 [.pointer (some ⟨c, 0, none⟩), .slice (some ⟨r, 0, none⟩) (prB m t) rc, .int .i64 (b : Nat)] w r 5 (rgB m t (consP b A)) (oneOf []) := by
  have hd1 := hMT.d1
  have hd5 := hMT.d560
  have hp1 := hMT.p1
  have hp7 := hMT.p70
  have hpd : prB m t = (dg m t + 7) / 8 := rfl
  have hL := hMT.lt hA
  have hmk := cut_mask (dg m t)
  refine spec_ofW Tryd.func121 rfl Tryd.ntmps121 rfl hw ?_
  refine CW.seq ?_
  refine CW.reg [0, 1, 2, 3, 4, 5] rfl ?_
  refine s_mv 11 rfl rfl ?_
  refine s_nil 12 rfl rfl ?_
  refine s_fa 13 rfl rfl ?_
  refine s_ld 14 rfl rfl (fun _ hw => (hw.oldN hh.blk).cellB hh.deg) ?_
  refine s_sub 15 rfl rfl rfl (r := ((dg m t - 1 : Nat) : Int)) (by rw [show ((dg m t : Nat) : Int) - 1 = ((dg m t - 1 : Nat) : Int) by omega]; exact w64 (by omega)) ?_
  refine s_as 6 rfl rfl ?_
  refine SX.next ?_
  refine CW.seq ?_
  refine CW.reg [0, 1, 2, 3, 4, 5, 6, 7, 8, 9, 10, 11, 12] rfl ?_
  refine s_mv 16 rfl rfl ?_
  refine s_mv 17 rfl rfl ?_
  refine s_mv 18 rfl rfl ?_
  refine s_quo 19 rfl rfl rfl (by omega) (quo8 (dg m t - 1) (by omega)) ?_
  refine s_ia0 20 ((dg m t - 1) / 8) rfl rfl rfl rfl (by omega) ?_
  refine s_ldB 21 0 rfl rfl rfl (v := .int .u8 (cf (rgL m t A) ((dg m t - 1) / 8) : Nat)) (rB_at (by omega)) ?_
  refine s_mv 22 rfl rfl ?_
  refine s_rem 23 rfl rfl rfl (by omega) (tmod8 (dg m t - 1)) ?_
  refine s_shr 24 rfl rfl rfl (by omega) (shr_u8 (by omega)) ?_
  refine s_bit 25 rfl rfl rfl rfl (ibit_and1_u8 (shr8 (cf_lt8 hL _) _)) ?_
  refine s_conv 26 rfl rfl (r := ((cf (encE (genL m (ldr m t).1) A) (dg m t - 1) : Nat) : Int)) (by rw [hMT.top hA]; have := (hMT.eb hA).le (dg m t - 1); exact w64 (by omega)) ?_
  refine s_ne 27 rfl rfl rfl (r := (decide (b ≠ cf (encE (genL m (ldr m t).1) A) (dg m t - 1)))) (decide_eq_decide.2 (by omega)) ?_
  refine s_as 7 rfl rfl ?_
  refine SX.next ?_
  refine CW.seq ?_
  refine CW.seq ?_
  refine CW.reg [0, 1, 2, 3] rfl ?_
  refine s_mv 28 rfl rfl ?_
  refine s_len 29 rfl rfl ?_
  refine s_sub 30 rfl rfl rfl (r := ((prB m t - 1 : Nat) : Int)) (by rw [show ((prB m t : Nat) : Int) - 1 = ((prB m t - 1 : Nat) : Int) by omega]; exact w64 (by omega)) ?_
  refine s_as 8 rfl rfl ?_
  refine SX.next ?_
  refine CW.block ?_
  refine CW.loop (G := Nat) (fun i => [(0, .pointer (some ⟨c, 0, none⟩)), (1, .slice (some ⟨r, 0, none⟩) (prB m t) rc), (7, .bool (decide (b ≠ cf (encE (genL m (ldr m t).1) A) (dg m t - 1)))), (8, .int .i64 (i : Nat))]) (fun i => St (Ex r w) w [blk r 5 (rB (prB m t) (sh1 (rgL m t A) i))]) (fun i => i ≤ prB m t - 1) (fun i => i) (prB m t - 1) ⟨rfl, rfl, rfl, rfl, trivial⟩ (fun _ hw => by rw [sh1_start]; exact hw) (Nat.le_refl _) ?_
  intro i hi
  refine CW.seq ?_
  refine CW.seq ?_
  refine CW.reg [0, 1] rfl ?_
  refine s_mv 31 rfl rfl ?_
  refine s_gt 32 rfl rfl rfl rfl ?_
  refine SX.next ?_
  refine CW.test rfl (fun hc => ?_) (fun hc => ?_)
  · skip
    obtain ⟨k, rfl⟩ : ∃ k, i = k + 1 := ⟨i - 1, by omega⟩
    refine CW.skip ?_
    refine KN.code ?_
    refine CW.seq ?_
    refine CW.block ?_
    refine CW.regD (.st true 0 (.st true 1 (.st true 2 (.st true 3 (.st true 4 (.st true 7 (.st true 8 (.st true 9 (.st true 10 (.alt 5 (.st true 6 (.st false 11 (.st true 12 (.st true 13 (.st true 14 (.st false 15 .done)))))) (.st false 11 (.st true 12 (.st false 5 (.st true 6 (.st true 13 (.st true 14 (.st false 15 .done))))))))))))))))) (St (Ex r w) w []) mixed (by kernel_rfl) (fun _ h => h.drew) (fun _ hw => hw.dropR) ?_
    refine s_mv 35 rfl rfl ?_
    refine s_mv 36 rfl rfl ?_
    refine s_mv 37 rfl rfl ?_
    refine s_mv 38 rfl rfl ?_
    refine s_ia0 39 (k + 1) rfl rfl rfl rfl (by omega) ?_
    refine s_mv 42 rfl rfl ?_
    refine s_mv 43 rfl rfl ?_
    refine s_sub 44 rfl rfl rfl (r := ((k : Nat) : Int)) (by rw [show ((k + 1 : Nat) : Int) - 1 = ((k : Nat) : Int) by omega]; exact w64 (by omega)) ?_
    refine s_ia0 45 k rfl rfl rfl rfl (by omega) ?_
    refine SX.alt ?_ ?_
    · skip
      refine s_ldB 40 0 rfl rfl rfl (v := .int .u8 (cf (rgL m t A) (k + 1) : Nat)) (by rw [rB_at (by omega), sh1_cf (Nat.le_refl _)]) ?_
      refine s_shl 41 rfl rfl rfl (by omega) (r := ((cf (rgL m t A) (k + 1) * 2 ^ 1 % 256 : Nat) : Int)) (shl_u8 (k := 1) (by omega)) ?_
      refine s_ldB 46 0 rfl rfl rfl (v := .int .u8 (cf (rgL m t A) k : Nat)) (by rw [rB_at (by omega), sh1_cf (by omega)]) ?_
      refine s_shr 47 rfl rfl rfl (by omega) (r := ((cf (rgL m t A) k >>> 7 : Nat) : Int)) (shr_u8 (k := 7) (by omega)) ?_
      refine s_bit 48 rfl rfl rfl rfl (r := ((shN (rgL m t A) (k + 1) : Nat) : Int)) (ibit_or_u8 (Nat.mod_lt _ (by decide)) (shr8 (cf_lt8 hL _) _)) ?_
      refine s_ia0 49 (k + 1) rfl rfl rfl rfl (by omega) ?_
      refine s_stB 0 rfl rfl rfl rfl rfl (by rw [rB_size]; omega) (fun _ hw => hw.dropR) ?_
      refine SX.end_ ?_
      refine KN.blk ?_
      refine KN.code ?_
      refine CW.reg [0, 1, 2] rfl ?_
      refine s_mv 33 rfl rfl ?_
      refine s_sub 34 rfl rfl rfl (r := ((k : Nat) : Int)) (by rw [show ((k + 1 : Nat) : Int) - 1 = ((k : Nat) : Int) by omega]; exact w64 (by omega)) ?_
      refine s_as 8 rfl rfl ?_
      refine SX.end_ ?_
      exact KN.back k ⟨rfl, rfl, rfl, rfl, trivial⟩ (fun _ hw => by rw [← sh1_next, ← rB_set]; exact hw) (by omega) (by omega)
    · skip
      refine s_ldB 46 0 rfl rfl rfl (v := .int .u8 (cf (rgL m t A) k : Nat)) (by rw [rB_at (by omega), sh1_cf (by omega)]) ?_
      refine s_shr 47 rfl rfl rfl (by omega) (r := ((cf (rgL m t A) k >>> 7 : Nat) : Int)) (shr_u8 (k := 7) (by omega)) ?_
      refine s_ldB 40 0 rfl rfl rfl (v := .int .u8 (cf (rgL m t A) (k + 1) : Nat)) (by rw [rB_at (by omega), sh1_cf (Nat.le_refl _)]) ?_
      refine s_shl 41 rfl rfl rfl (by omega) (r := ((cf (rgL m t A) (k + 1) * 2 ^ 1 % 256 : Nat) : Int)) (shl_u8 (k := 1) (by omega)) ?_
      refine s_bit 48 rfl rfl rfl rfl (r := ((shN (rgL m t A) (k + 1) : Nat) : Int)) (ibit_or_u8 (Nat.mod_lt _ (by decide)) (shr8 (cf_lt8 hL _) _)) ?_
      refine s_ia0 49 (k + 1) rfl rfl rfl rfl (by omega) ?_
      refine s_stB 0 rfl rfl rfl rfl rfl (by rw [rB_size]; omega) (fun _ hw => hw.dropR) ?_
      refine SX.end_ ?_
      refine KN.blk ?_
      refine KN.code ?_
      refine CW.reg [0, 1, 2] rfl ?_
      refine s_mv 33 rfl rfl ?_
      refine s_sub 34 rfl rfl rfl (r := ((k : Nat) : Int)) (by rw [show ((k + 1 : Nat) : Int) - 1 = ((k : Nat) : Int) by omega]; exact w64 (by omega)) ?_
      refine s_as 8 rfl rfl ?_
      refine SX.end_ ?_
      exact KN.back k ⟨rfl, rfl, rfl, rfl, trivial⟩ (fun _ hw => by rw [← sh1_next, ← rB_set]; exact hw) (by omega) (by omega)
  · skip
    obtain rfl : i = 0 := by omega
    refine CW.exit rfl ?_
    refine KN.code ?_
    refine CW.seq ?_
    refine CW.reg [0, 1, 2, 3, 4, 5] rfl ?_
    refine s_mv 50 rfl rfl ?_
    refine s_ia0 51 0 rfl rfl rfl rfl (by omega) ?_
    refine s_ldB 52 0 rfl rfl rfl (v := .int .u8 (cf (rgL m t A) 0 : Nat)) (by rw [rB_at (by omega), sh1_cf (Nat.le_refl _)]) ?_
    refine s_shl 53 rfl rfl rfl (by omega) (r := ((cf (rgL m t A) 0 * 2 ^ 1 % 256 : Nat) : Int)) (shl_u8 (k := 1) (by omega)) ?_
    refine s_ia0 54 0 rfl rfl rfl rfl (by omega) ?_
    refine s_stB 0 rfl rfl rfl rfl rfl (by rw [rB_size]; omega) (fun _ _ => trivial) ?_
    refine SX.next ?_
    refine CW.cut (G := Unit) (fun _ => [(0, .pointer (some ⟨c, 0, none⟩)), (1, .slice (some ⟨r, 0, none⟩) (prB m t) rc), (7, .bool (decide (b ≠ cf (encE (genL m (ldr m t).1) A) (dg m t - 1))))]) (fun _ => St (Ex r w) w [blk r 5 (rB (prB m t) (shC (dg m t) (rgL m t A)))]) (fun _ => True) ?_ ?_
    · skip
      refine CW.seq ?_
      refine CW.pre (C' := St (Ex r w) w [blk r 5 (rB (prB m t) (sh2 (rgL m t A)))]) (fun _ hw => by rw [← sh2_of, ← rB_set]; exact hw) ?_
      refine CW.reg [0, 1, 2, 3, 4, 5] rfl ?_
      refine s_mv 55 rfl rfl ?_
      refine s_nil 56 rfl rfl ?_
      refine s_fa 57 rfl rfl ?_
      refine s_ld 58 rfl rfl (fun _ hw => (hw.oldN hh.blk).cellB hh.deg) ?_
      refine s_rem 59 rfl rfl rfl (by omega) (tmod8 (dg m t)) ?_
      refine s_as 9 rfl rfl ?_
      refine SX.next ?_
      refine CW.seq ?_
      refine CW.reg [0, 1] rfl ?_
      refine s_mv 60 rfl rfl ?_
      refine s_gt 61 rfl rfl rfl rfl ?_
      refine SX.next ?_
      refine CW.test rfl (fun hc => ?_) (fun hc => ?_)
      · skip
        refine CW.regD (.st true 0 (.st true 1 (.st true 2 (.st true 3 (.st true 4 (.st true 6 (.st true 7 (.st true 8 (.st false 5 (.st true 9 (.st true 10 (.st false 11 .done)))))))))))) (St (Ex r w) w []) mixed (by kernel_rfl) (fun _ h => h.drew) (fun _ hw => hw.dropR) ?_
        refine s_mv 62 rfl rfl ?_
        refine s_mv 63 rfl rfl ?_
        refine s_len 64 rfl rfl ?_
        refine s_sub 65 rfl rfl rfl (r := ((prB m t - 1 : Nat) : Int)) (by rw [show ((prB m t : Nat) : Int) - 1 = ((prB m t - 1 : Nat) : Int) by omega]; exact w64 (by omega)) ?_
        refine s_ia0 66 (prB m t - 1) rfl rfl rfl rfl (by omega) ?_
        refine s_mv 68 rfl rfl ?_
        refine s_shl 69 rfl rfl rfl (by omega) (r := ((2 ^ (dg m t % 8) : Nat) : Int)) (by rw [show (1 : Int) = ((1 : Nat) : Int) from rfl, shl_u8 (by omega), Nat.one_mul, Nat.mod_eq_of_lt hmk.2]) ?_
        refine s_sub 70 rfl rfl rfl (r := ((2 ^ (dg m t % 8) - 1 : Nat) : Int)) (by rw [show ((2 ^ (dg m t % 8) : Nat) : Int) - 1 = ((2 ^ (dg m t % 8) - 1 : Nat) : Int) by omega]; exact w8 (by omega)) ?_
        refine s_ldB 67 0 rfl rfl rfl (v := .int .u8 ((sh2 (rgL m t A)) (prB m t - 1) : Nat)) (rB_at (by omega)) ?_
        refine s_bit 71 rfl rfl rfl rfl (r := (((sh2 (rgL m t A)) (prB m t - 1) % 2 ^ (dg m t % 8) : Nat) : Int)) (by rw [ibit_and_u8 (sh2_lt hL _) (by omega), and_mask]) ?_
        refine s_ia0 72 (prB m t - 1) rfl rfl rfl rfl (by omega) ?_
        refine s_stB 0 rfl rfl rfl rfl rfl (by rw [rB_size]; omega) (fun _ hw => hw.dropR) ?_
        refine SX.end_ ?_
        exact KN.join () ⟨rfl, rfl, rfl, trivial⟩ (fun _ hw => by rw [← sh2_cutM A (by omega), ← rB_set]; exact hw) trivial
      · skip
        refine CW.skip ?_
        exact KN.join () ⟨rfl, rfl, rfl, trivial⟩ (fun _ hw => by rw [← sh2_all _ (by omega)]; exact hw) trivial
    · skip
      intro _ _
      refine CW.seq ?_
      refine CW.seq ?_
      refine CW.reg [0, 1] rfl ?_
      refine s_mv 73 rfl rfl ?_
      refine s_not 74 rfl rfl ?_
      refine SX.next ?_
      refine CW.cond rfl (fun hc => ?_) (fun hc => ?_)
      · skip
        have heq : b = cf (encE (genL m (ldr m t).1) A) (dg m t - 1) := Classical.byContradiction fun hn => by simp [hn] at hc
        refine CW.ret ?_
        exact KN.ret (rs := []) Tryd.results121 rfl (fun _ hw => ⟨rfl, by rw [← hMT.inn hA hb heq]; exact hw⟩)
      · skip
        have hne : b ≠ cf (encE (genL m (ldr m t).1) A) (dg m t - 1) := fun hn => by simp [hn] at hc
        refine CW.skip ?_
        refine KN.code ?_
        refine CW.seq ?_
        refine CW.reg [0, 1, 2] rfl ?_
        refine s_mv 75 rfl rfl ?_
        refine s_len 76 rfl rfl ?_
        refine s_mv 77 rfl rfl ?_
        refine SX.next ?_
        refine CW.block ?_
        refine CW.loop (G := Nat) (fun i => [(0, .pointer (some ⟨c, 0, none⟩)), (1, .slice (some ⟨r, 0, none⟩) (prB m t) rc), (76, .int .i64 (prB m t : Nat)), (77, .int .i64 (i : Nat))]) (fun i => St (Ex r w) w [blk r 5 (rB (prB m t) (xq (shC (dg m t) (rgL m t A)) (cf (lwB m t)) i))]) (fun i => i ≤ prB m t) (fun i => prB m t - i) 0 ⟨rfl, rfl, rfl, rfl, trivial⟩ (fun _ hw => by rw [xq_zero]; exact hw) (Nat.zero_le _) ?_
        intro i hi
        have hlw : (lwB m t).length = prB m t := pb_len _ _
        refine CW.seq ?_
        refine CW.reg [0] rfl ?_
        refine s_lt 78 rfl rfl rfl rfl ?_
        refine SX.next ?_
        refine CW.seq ?_
        refine CW.test rfl (fun hc => ?_) (fun hc => ?_)
        · skip
          refine CW.skip ?_
          refine KN.code ?_
          refine CW.seq ?_
          refine CW.block ?_
          refine CW.seq ?_
          refine CW.reg [0, 1] rfl ?_
          refine s_mv 79 rfl rfl ?_
          refine s_as 10 rfl rfl ?_
          refine SX.next ?_
          refine CW.regD (.st true 0 (.st true 1 (.st true 2 (.st true 4 (.st true 5 (.st true 6 (.st true 7 (.st true 8 (.st true 9 (.st true 10 (.st false 3 (.st true 11 (.st true 12 (.st false 13 .done)))))))))))))) (St (Ex r w) w []) mixed (by kernel_rfl) (fun _ h => h.drew) (fun _ hw => hw.dropR) ?_
          refine s_mv 80 rfl rfl ?_
          refine s_mv 81 rfl rfl ?_
          refine s_ia0 82 i rfl rfl rfl rfl (by omega) ?_
          refine s_mv 84 rfl rfl ?_
          refine s_nil 85 rfl rfl ?_
          refine s_fa 86 rfl rfl ?_
          refine s_ldS 87 rfl rfl (fun _ hw => (hw.oldN hh.blk).cellB hh.hdr) ?_
          refine s_mv 88 rfl rfl ?_
          refine s_iaV 89 i (fun w hw => (hw.oldN hh.low).has) rfl rfl rfl rfl (by omega) ?_
          refine s_ldVS 90 (fun w hw => (hw.oldN hh.low).has) rfl rfl (by rw [Nat.mul_one]; exact natsAt8 (by omega)) (by omega) ?_
          refine s_ldB 83 0 rfl rfl rfl (v := .int .u8 (shC (dg m t) (rgL m t A) i : Nat)) (by rw [rB_at (by omega), xq_at]) ?_
          refine s_bit 91 rfl rfl rfl rfl (ibit_xor_u8 (shC_lt hL _ _) (cf_lt8 hMT.lwlt _)) ?_
          refine s_ia0 92 i rfl rfl rfl rfl (by omega) ?_
          refine s_stB 0 rfl rfl rfl rfl rfl (by rw [rB_size]; omega) (fun _ hw => hw.dropR) ?_
          refine SX.end_ ?_
          refine KN.blk ?_
          refine KN.code ?_
          refine CW.reg [0, 1] rfl ?_
          refine s_add 93 rfl rfl rfl (r := ((i + 1 : Nat) : Int)) (w64 (by omega)) ?_
          refine s_mv 77 rfl rfl ?_
          refine SX.end_ ?_
          exact KN.back (i + 1) ⟨rfl, rfl, rfl, rfl, trivial⟩ (fun _ hw => by rw [← xq_next, ← rB_set]; exact hw) (by omega) (by omega)
        · skip
          obtain rfl : i = prB m t := by omega
          refine CW.exit rfl ?_
          exact KN.ret (rs := []) Tryd.results121 rfl (fun _ hw => ⟨rfl, by rw [← hMT.out hA hb hne]; exact hw⟩)
end Go.Proofs.YtcdmmfpgeagimaaDoor
end
section
/- Words, places turned, how many places differ. No program. -/
namespace Go.Proofs.YtcdmmfpgeagimaaDoor
open Go Go.Sx Go.Fm Nb
/-- How many of the first values are not 0. -/
def nzc (f : Nat → Nat) : Nat → Nat
  | 0 => 0
  | n + 1 => nzc f n + (if f n = 0 then 0 else 1)
theorem nzc_filter (f : Nat → Nat) : ∀ n, nzc f n = ((List.range n).filter (fun j => decide (f j ≠ 0))).length
  | 0 => rfl
  | n + 1 => by
    rw [List.range_succ, List.filter_append, List.length_append, ← nzc_filter f n]
    show nzc f n + _ = _
    by_cases h : f n = 0
    · simp [h]
    · simp [h]
theorem nzc_congr {f g : Nat → Nat} : ∀ {n : Nat}, (∀ j, j < n → f j = g j) → nzc f n = nzc g n
  | 0, _ => rfl
  | n + 1, h => by
    show nzc f n + _ = nzc g n + _
    rw [nzc_congr (n := n) (fun j hj => h j (by omega)), h n (by omega)]
theorem nzc_none {f : Nat → Nat} : ∀ {n : Nat}, (∀ j, j < n → f j = 0) → nzc f n = 0
  | 0, _ => rfl
  | n + 1, h => by
    show nzc f n + _ = 0
    rw [nzc_none (n := n) (fun j hj => h j (by omega)), if_pos (h n (by omega))]
theorem nzc_one {f : Nat → Nat} {k : Nat} : ∀ {n : Nat}, k < n → f k ≠ 0 → (∀ j, j < n → j ≠ k → f j = 0) → nzc f n = 1
  | n + 1, hk, h1, h => by
    show nzc f n + _ = 1
    by_cases he : k = n
    · subst he
      rw [if_neg h1, nzc_none (fun j hj => h j (by omega) (by omega))]
    · rw [if_pos (h n (by omega) (fun e => he e.symm)), nzc_one (n := n) (by omega) h1 (fun j hj h2 => h j (by omega) h2)]
theorem nzc_add (f : Nat → Nat) (d : Nat) : ∀ n, nzc f (d + n) = nzc f d + nzc (fun j => f (d + j)) n
  | 0 => rfl
  | n + 1 => by
    show nzc f (d + n) + (if f (d + n) = 0 then 0 else 1) = nzc f d + (nzc (fun j => f (d + j)) n + (if f (d + n) = 0 then 0 else 1))
    rw [nzc_add f d n, Nat.add_assoc]
theorem nzc_beyond {f : Nat → Nat} {d n : Nat} (h : d ≤ n) (hz : ∀ j, d ≤ j → j < n → f j = 0) : nzc f n = nzc f d := by
  obtain ⟨k, rfl⟩ := Nat.exists_eq_add_of_le h
  rw [nzc_add, nzc_none (f := fun j => f (d + j)) (fun j hj => hz (d + j) (by omega) (by omega))]
  rfl
theorem exL_nzc {a : List Nat} {n : Nat} (h : a.length ≤ n) : (exL a).length = nzc (cf a) n := by
  rw [nzc_filter]
  refine List.Perm.length_eq ((List.perm_ext_iff_of_nodup (exL_nodup a) (List.nodup_range.filter _)).2 (fun x => ?_))
  rw [exL_mem, List.mem_filter, List.mem_range, decide_eq_true_iff]
  exact ⟨fun ⟨h1, h2⟩ => ⟨by omega, h2⟩, fun ⟨_, h2⟩ => ⟨Nat.lt_of_not_le fun hl => h2 (cf_out hl), h2⟩⟩
/-! ### A place turned -/
def flB (l : List Nat) (k : Nat) : List Nat := l.set (k / 8) (cf l (k / 8) ^^^ 2 ^ (k % 8))
theorem flB_len (l : List Nat) (k : Nat) : (flB l k).length = l.length := by simp [flB]
theorem flB_bit {l : List Nat} {k : Nat} (hk : k < 8 * l.length) (j : Nat) : bitN (flB l k) j = bitN l j ^^^ (if j = k then 1 else 0) := by
  unfold bitN flB
  rw [cf_set (by omega)]
  by_cases h : j / 8 = k / 8
  · rw [if_pos h, shr_xor, h]
    congr 1
    rw [shr_two, Nat.testBit_two_pow]
    by_cases h2 : j = k
    · subst h2; simp
    · rw [if_neg h2, decide_eq_false (by omega)]
      rfl
  · rw [if_neg h, if_neg (by intro e; exact h (by rw [e])), Nat.xor_zero]
/-- Where the bits differ. -/
def dif (a b : List Nat) (n : Nat) : Nat := nzc (fun j => bitN a j ^^^ bitN b j) n
theorem dif_self (a : List Nat) (n : Nat) : dif a a n = 0 := nzc_none (fun _ _ => Nat.xor_self _)
theorem dif_flip {l : List Nat} {k : Nat} (hk : k < 8 * l.length) : dif (flB l k) l (8 * l.length) = 1 := by
  have e : ∀ j, bitN (flB l k) j ^^^ bitN l j = if j = k then 1 else 0 := fun j => by
    rw [flB_bit hk, Nat.xor_comm, ← Nat.xor_assoc, Nat.xor_self, Nat.zero_xor]
  exact nzc_one hk (by rw [e, if_pos rfl]; decide) (fun j _ h => by rw [e, if_neg h])
/-! ### Words -/
section
variable {m t : Nat} (h : MT m t)
include h
theorem enc_cf (d : List Nat) {j : Nat} (hj : j < 8 * prB m t) : bitN (encB m t d) j = cf (encE (genL m (ldr m t).1) (bl d)) j := bitN_pb (h.eb (bl_b1 d)) hj
theorem enc_hi {A : List Nat} (hA : B1 A) {j : Nat} (hj : dg m t ≤ j) : cf (encE (genL m (ldr m t).1) A) j = 0 := cf_out (Nat.le_trans (encE_len h.gb h.g2 hA) hj)
theorem word_nzc {A : List Nat} (hA : B1 A) {D : Nat} (hl : A.length ≤ 8 * D) (hN : 8 * D + dg m t ≤ N m) (h2 : 2 * t < N m) : nzc (cf (encE (genL m (ldr m t).1) A)) (dg m t) + nzc (cf A) (8 * D) = 0 ∨ 2 * t + 1 ≤ nzc (cf (encE (genL m (ldr m t).1) A)) (dg m t) + nzc (cf A) (8 * D) := by
  have hE := h.eb hA
  have hEl := encE_len h.gb h.g2 hA
  have hW := addP_b1 (upP_b1 hA (dg m t)) hE
  have hcf : ∀ j, cf (addP (upP (dg m t) A) (encE (genL m (ldr m t).1) A)) j = if dg m t ≤ j then cf A (j - dg m t) else cf (encE (genL m (ldr m t).1) A) j := fun j => by
    rw [cf_addP, cf_upP]
    split
    · rename_i hj
      rw [enc_hi h hA hj, Nat.xor_zero]
    · rw [Nat.zero_xor]
  have hWl : (addP (upP (dg m t) A) (encE (genL m (ldr m t).1) A)).length ≤ dg m t + 8 * D := b1_len hW (fun j hj => by rw [hcf, if_pos (by omega), cf_out (by omega)])
  have hc := exL_nzc hWl
  rw [nzc_add] at hc
  have e1 : nzc (cf (addP (upP (dg m t) A) (encE (genL m (ldr m t).1) A))) (dg m t) = nzc (cf (encE (genL m (ldr m t).1) A)) (dg m t) := nzc_congr (fun j hj => by rw [hcf, if_neg (by omega)])
  have e2 : nzc (fun j => cf (addP (upP (dg m t) A) (encE (genL m (ldr m t).1) A)) (dg m t + j)) (8 * D) = nzc (cf A) (8 * D) := nzc_congr (fun j hj => by rw [hcf, if_pos (by omega), Nat.add_sub_cancel_left])
  rw [e1, e2] at hc
  rw [← hc]
  rcases far_word h.ok hW (by omega) (t := t) (fun x h3 h4 => word_zero h.ok h.g2 hA h3 h4 (by omega)) with h3 | h3
  · exact .inl (by rw [h3]; rfl)
  · exact .inr h3
/-- Right words that are not the same differ in 2t + 1 bits at least. -/
theorem apart {d e : List Nat} {D : Nat} (hd : d.length = D) (he : e.length = D) (hN : 8 * D + dg m t ≤ N m) (h2 : 2 * t < N m) : dif d e (8 * D) + dif (encB m t d) (encB m t e) (8 * prB m t) = 0 ∨ 2 * t + 1 ≤ dif d e (8 * D) + dif (encB m t d) (encB m t e) (8 * prB m t) := by
  have hA := addP_b1 (bl_b1 d) (bl_b1 e)
  have hl : (addP (bl d) (bl e)).length ≤ 8 * D := b1_len hA (fun j hj => by rw [cf_addP, cf_bl, cf_bl, bitN_out (by omega), bitN_out (by omega)]; rfl)
  have h3 := word_nzc h hA hl hN h2
  have e1 : nzc (cf (addP (bl d) (bl e))) (8 * D) = dif d e (8 * D) := nzc_congr (fun j _ => by rw [cf_addP, cf_bl, cf_bl])
  have e2 : dif (encB m t d) (encB m t e) (8 * prB m t) = nzc (cf (encE (genL m (ldr m t).1) (addP (bl d) (bl e)))) (dg m t) := by
    unfold dif
    rw [nzc_congr (f := fun j => bitN (encB m t d) j ^^^ bitN (encB m t e) j) (g := cf (encE (genL m (ldr m t).1) (addP (bl d) (bl e)))) (fun j hj => by rw [enc_cf h d hj, enc_cf h e hj, encE_add h.gb h.g2 (bl_b1 d) (bl_b1 e), cf_addP])]
    exact nzc_beyond (by unfold prB; omega) (fun j hj _ => enc_hi h hA hj)
  rw [← e1, e2, Nat.add_comm]
  exact h3
/-- A place turned in a word that is right. -/
theorem turned {d : List Nat} {D k : Nat} (hd : d.length = D) (hN : 8 * D + dg m t ≤ N m) (h2 : 2 * t < N m) (hk : k < 8 * D) : encB m t (flB d k) ≠ encB m t d := fun he => by
  have h1 := apart h (e := d) (show (flB d k).length = D by rw [flB_len, hd]) hd hN h2
  have h4 : dif (flB d k) d (8 * D) = 1 := by rw [← hd]; exact dif_flip (by omega)
  rw [h4, he, dif_self] at h1
  have := h.t1
  omega
end
end Go.Proofs.YtcdmmfpgeagimaaDoor
end
section
/- What a code tells, walked: its numbers, the parity by both ways, whether a parity is right, a place turned. Conditions: the code was made by New; the errors' variables. -/
namespace Go.Proofs.YtcdmmfpgeagimaaDoor
open Go Go.Sx Go.Fm Nb
set_option maxRecDepth 100000
/-- A word with a place turned. -/
def fpD (m t k : Nat) (d : List Nat) : List Nat := if k < dg m t then d else flB d (k - dg m t)
def fpP (m t k : Nat) (p : List Nat) : List Nat := if k < dg m t then flB p k else p
theorem gn_len {m t : Nat} (h : MT m t) : (gnB m t).length ≤ 71 := by
  have h1 := bys_len (genL m (ldr m t).1)
  have h2 := h.d560
  unfold dg at h2
  unfold gnB
  omega
theorem prB_dg (m t : Nat) : dg m t ≤ 8 * prB m t := by unfold prB; omega

theorem cT_spec (cc m t D : Nat) (q : CodeG) (w : World) (hcd : Has (codeA cc m t D q) w) : Spec1 Tryd.prog 124 [.pointer (some ⟨cc, 0, none⟩)] w (.int .i64 ((t : Nat) : Int)) := by
  obtain ⟨hcb, hgn, hlw, hfd, hst⟩ := code_at hcd
  refine spec_of Tryd.func124 rfl Tryd.ntmps124 rfl ?_
  refine CW.seq ?_
  refine CW.reg [0] rfl ?_
  refine s_as 2 rfl rfl ?_
  refine SX.next ?_
  refine CW.seq ?_
  refine CW.reg [0, 1, 2, 3, 4] rfl ?_
  refine s_mv 3 rfl rfl ?_
  refine s_nil 4 rfl rfl ?_
  refine s_fa 5 rfl rfl ?_
  refine s_ld 6 rfl rfl (fun _ hw => (hw.old hcb).cellB (j := 1) rfl) ?_
  refine s_as 2 rfl rfl ?_
  refine SX.next ?_
  refine CW.ret ?_
  exact KN.ret (rs := [.tmp 2]) Tryd.results124 rfl (fun w hw => ⟨rfl, hw.nothing⟩)

theorem cData_spec (cc m t D : Nat) (q : CodeG) (w : World) (hcd : Has (codeA cc m t D q) w) : Spec1 Tryd.prog 80 [.pointer (some ⟨cc, 0, none⟩)] w (.int .i64 ((D : Nat) : Int)) := by
  obtain ⟨hcb, hgn, hlw, hfd, hst⟩ := code_at hcd
  refine spec_of Tryd.func80 rfl Tryd.ntmps80 rfl ?_
  refine CW.seq ?_
  refine CW.reg [0] rfl ?_
  refine s_as 2 rfl rfl ?_
  refine SX.next ?_
  refine CW.seq ?_
  refine CW.reg [0, 1, 2, 3, 4] rfl ?_
  refine s_mv 3 rfl rfl ?_
  refine s_nil 4 rfl rfl ?_
  refine s_fa 5 rfl rfl ?_
  refine s_ld 6 rfl rfl (fun _ hw => (hw.old hcb).cellB (j := 2) rfl) ?_
  refine s_as 2 rfl rfl ?_
  refine SX.next ?_
  refine CW.ret ?_
  exact KN.ret (rs := [.tmp 2]) Tryd.results80 rfl (fun w hw => ⟨rfl, hw.nothing⟩)

theorem cPar_spec (cc m t D : Nat) (q : CodeG) (w : World) (hcd : Has (codeA cc m t D q) w) : Spec1 Tryd.prog 81 [.pointer (some ⟨cc, 0, none⟩)] w (.int .i64 ((prB m t : Nat) : Int)) := by
  obtain ⟨hcb, hgn, hlw, hfd, hst⟩ := code_at hcd
  refine spec_of Tryd.func81 rfl Tryd.ntmps81 rfl ?_
  refine CW.seq ?_
  refine CW.reg [0] rfl ?_
  refine s_as 2 rfl rfl ?_
  refine SX.next ?_
  refine CW.seq ?_
  refine CW.reg [0, 1, 2, 3, 4] rfl ?_
  refine s_mv 3 rfl rfl ?_
  refine s_nil 4 rfl rfl ?_
  refine s_fa 5 rfl rfl ?_
  refine s_ld 6 rfl rfl (fun _ hw => (hw.old hcb).cellB (j := 4) rfl) ?_
  refine s_as 2 rfl rfl ?_
  refine SX.next ?_
  refine CW.ret ?_
  exact KN.ret (rs := [.tmp 2]) Tryd.results81 rfl (fun w hw => ⟨rfl, hw.nothing⟩)

theorem cDeg_spec (cc m t D : Nat) (q : CodeG) (w : World) (hcd : Has (codeA cc m t D q) w) : Spec1 Tryd.prog 83 [.pointer (some ⟨cc, 0, none⟩)] w (.int .i64 ((dg m t : Nat) : Int)) := by
  obtain ⟨hcb, hgn, hlw, hfd, hst⟩ := code_at hcd
  refine spec_of Tryd.func83 rfl Tryd.ntmps83 rfl ?_
  refine CW.seq ?_
  refine CW.reg [0] rfl ?_
  refine s_as 2 rfl rfl ?_
  refine SX.next ?_
  refine CW.seq ?_
  refine CW.reg [0, 1, 2, 3, 4] rfl ?_
  refine s_mv 3 rfl rfl ?_
  refine s_nil 4 rfl rfl ?_
  refine s_fa 5 rfl rfl ?_
  refine s_ld 6 rfl rfl (fun _ hw => (hw.old hcb).cellB (j := 3) rfl) ?_
  refine s_as 2 rfl rfl ?_
  refine SX.next ?_
  refine CW.ret ?_
  exact KN.ret (rs := [.tmp 2]) Tryd.results83 rfl (fun w hw => ⟨rfl, hw.nothing⟩)

theorem cField_spec (cc m t D : Nat) (q : CodeG) (w : World) (hcd : Has (codeA cc m t D q) w) : Spec1 Tryd.prog 24 [.pointer (some ⟨cc, 0, none⟩)] w (.pointer (some ⟨q.f, 0, none⟩)) := by
  obtain ⟨hcb, hgn, hlw, hfd, hst⟩ := code_at hcd
  refine spec_of Tryd.func24 rfl Tryd.ntmps24 rfl ?_
  refine CW.seq ?_
  refine CW.reg [0] rfl ?_
  refine s_as 2 rfl rfl ?_
  refine SX.next ?_
  refine CW.seq ?_
  refine CW.reg [0, 1, 2, 3, 4] rfl ?_
  refine s_mv 3 rfl rfl ?_
  refine s_nil 4 rfl rfl ?_
  refine s_fa 5 rfl rfl ?_
  refine s_ld 6 rfl rfl (fun _ hw => (hw.old hcb).cellB (j := 0) rfl) ?_
  refine s_as 2 rfl rfl ?_
  refine SX.next ?_
  refine CW.ret ?_
  exact KN.ret (rs := [.tmp 2]) Tryd.results24 rfl (fun w hw => ⟨rfl, hw.nothing⟩)

theorem cBits_spec (cc m t D : Nat) (q : CodeG) (w : World) (hMT : MT m t) (hDm : D ≤ 2048) (hcd : Has (codeA cc m t D q) w) : Spec1 Tryd.prog 82 [.pointer (some ⟨cc, 0, none⟩)] w (.int .i64 ((8 * D + dg m t : Nat) : Int)) := by
  obtain ⟨hcb, hgn, hlw, hfd, hst⟩ := code_at hcd
  have hd5 := hMT.d560
  refine spec_of Tryd.func82 rfl Tryd.ntmps82 rfl ?_
  refine CW.seq ?_
  refine CW.reg [0] rfl ?_
  refine s_as 2 rfl rfl ?_
  refine SX.next ?_
  refine CW.seq ?_
  refine CW.regD (.st true 0 (.st true 1 (.st true 2 (.st true 3 (.st true 4 (.st true 5 (.st true 6 (.st true 7 (.st true 8 (.st true 9 (.st true 10 .done))))))))))) (Sto w []) mixed (by kernel_rfl) (fun _ h => h.drew) (fun _ h => h) ?_
  refine s_mv 3 rfl rfl ?_
  refine s_nil 4 rfl rfl ?_
  refine s_fa 5 rfl rfl ?_
  refine s_ldS 6 rfl rfl (fun _ hw => (hw.old hcb).cellB (j := 2) rfl) ?_
  refine s_mul 7 rfl rfl rfl (r := ((8 * D : Nat) : Int)) (by rw [show (8 : Int) * ((D : Nat) : Int) = ((8 * D : Nat) : Int) by omega]; exact w64 (by omega)) ?_
  refine s_mv 8 rfl rfl ?_
  refine s_nil 9 rfl rfl ?_
  refine s_fa 10 rfl rfl ?_
  refine s_ldS 11 rfl rfl (fun _ hw => (hw.old hcb).cellB (j := 3) rfl) ?_
  refine s_add 12 rfl rfl rfl (r := ((8 * D + dg m t : Nat) : Int)) (w64 (by omega)) ?_
  refine s_as 2 rfl rfl ?_
  refine SX.next ?_
  refine CW.ret ?_
  exact KN.ret (rs := [.tmp 2]) Tryd.results82 rfl (fun w hw => ⟨rfl, hw.nothing⟩)
end Go.Proofs.YtcdmmfpgeagimaaDoor
end
section
/- append of another type's slice; slices cut at their end, of the walk's own. No condition. -/
namespace Go.Sx
open Go
theorem append_types {P : Program} {w : World} {T T2 E E2 ty : TypeId} {inf : TypeInfo} {u v : Value} (h1 : P.underlying T = some (.slice E)) (h2 : P.underlying T2 = some (.slice E2)) (hi : P.info? E = some inf) : (Builtin.append_ #[T, T2] ty #[u, v]).run P w = (Builtin.append_ #[T, T] ty #[u, v]).run P w := by
  cases u <;> simp [Builtin.append_, run_underlying h1, run_underlying h2, sizeOf, run_tinfo hi]
section
variable {P : Program} {ops : Array Oper} {S : World → Prop} {K : Act → World → Prop} {p : Plan} {n : Nat} {l : List (Nat × Value)} {C : World → Prop} {fl : Bool} {i : Nat} {ty ty' ty2 ty3 : TypeId} {x y z u : Operand}
variable {F : Nat → Prop} {w₀ : World} {L L' : List Atom}
theorem s_app2 (d q : Nat) {E sz by_ : Nat} {zv : Value} {A B : Option Addr} {m c m2 c2 : Nat} {xs ys : List Value} {T T2 E2 sz2 by2 : TypeId} {zv2 : Value} (hi : L[q]? = some (own E sz A m c xs))
    (ho : opAt ops n l i = some (some d, .call ⟨.builtin .append, #[x, y], #[T, T2]⟩, ty)) [hT : SlT P T E sz by_ zv] [hT2 : SlT P T2 E2 sz2 by2 zv2] (hx : ev l x = some (.slice A m c)) (hy : ev l y = some (.slice B m2 c2))
    (hv : ∀ w, St F w₀ L w → Has (sl sz B m2 ys) w) (h1 : ys.all (·.oneCell') = true) (hz : zv.cells.size = sz) (h0 : 0 < sz) (h63 : m + m2 ≤ maxLen) (hb : (m + m2) * by_ ≤ 140737488355328)
    (hS : ∀ A' c' w, St F w₀ (L.set q (own E sz A' (m + m2) c' (xs ++ ys))) w → S w)
    (h : ∀ A' c', m + m2 ≤ c' → SX P ops S K p n ((d, .slice A' (m + m2) c') :: l) (St F w₀ (L.set q (own E sz A' (m + m2) c' (xs ++ ys))))) : SX P ops S K (.st false i p) n l (St F w₀ L) := by
  obtain ⟨inf, hi1, hs, hby, hzz⟩ := hT.info
  refine SX.act (d := some d) (X := { q : Option Addr × Nat // m + m2 ≤ q.2 }) (v := fun r => .slice r.1.1 (m + m2) r.1.2) (C' := fun r => St F w₀ (L.set q (own E sz r.1.1 (m + m2) r.1.2 (xs ++ ys)))) ho (fun a w o he hw ho1 ho2 => ?_) (fun r w hw => hS _ _ w hw) (fun r => h _ _ r.2)
  obtain ⟨D, ⟨hown, hD⟩, hlt, hmk⟩ := hw.work hi
  have hsl := hv w hw
  have hex : ∀ (v : Value) (w' : World), (Builtin.append_ #[T, T] ty #[.slice A m c, .slice B m2 c2]).run P w = .ok v w' → (execOp a.eval o).run P w = .ok (.value v) w' := fun v w' hr => by
    simp only [execOp, ho1, ho2, resolve, Sem.run_bind, Sem.run_pure, Result.andThen_ok, invoke, builtin, List.map_toArray, List.map_cons, List.map_nil, he.ev hx, he.ev hy, append_types hT.under hT2.under hi1, hr]
  have hmc : m ≤ c := by
    rcases hown.2 with ⟨h, h2⟩ | ⟨g, cap, cur, h, _, _, h2, _⟩
    · injection h; omega
    · injection h; omega
  by_cases hn : B = none
  · subst hn
    have hm2 : m2 = 0 := by
      by_cases h : m2 = 0
      · exact h
      · have := hsl.sl_some h; cases this
    subst hm2
    have hys : ys = [] := List.eq_nil_of_length_eq_zero (by rw [hsl.sl_len]; omega)
    subst hys
    exact ⟨⟨(A, c), by omega⟩, w, .inl (hex _ _ (run_append_none hmc)), by
      have := hmk w (own E sz A (m + 0) c (xs ++ [])) D ⟨rfl, rfl, rfl, Nat.le_refl _, fun _ _ => rfl⟩ ⟨by simpa using hown, hD⟩ (fun k hk => ⟨.inl hk, hlt k hk⟩)
      exact this⟩
  · obtain ⟨b, rfl⟩ : ∃ b, B = some b := by cases B with | none => exact absurd rfl hn | some b => exact ⟨b, rfl⟩
    have hcells : ∀ j u, ys[j]? = some u → w.cell? (b.add j) = some u := fun j u hj => by
      have hne : m2 ≠ 0 := fun h => by
        have := hsl.sl_len
        rw [h, Nat.zero_mul] at this
        rw [List.eq_nil_of_length_eq_zero this] at hj
        simp at hj
      have h2 := hsl.sl_cell hne hj
      have h3 := h2.1
      rw [Option.some.injEq] at h3
      rw [h3, add_at]
      exact h2.2
    obtain ⟨v', w', hr, k1, k2, k3, k4⟩ := run_append_own_at (P := P) w 0 T ty E inf zv sz by_ hT.under hi1 hzz hs hby hz h0 (.slice A m c) m xs hown b m2 c2 ys hsl.sl_len hcells (List.all_eq_true.1 h1) h63 hb (Nat.zero_le _)
    obtain ⟨A', c', rfl, hle⟩ : ∃ A' c', v' = .slice A' (m + m2) c' ∧ m + m2 ≤ c' := by
      rcases k1.2 with ⟨rfl, h⟩ | ⟨g, cap, cur, rfl, _, _, h, _⟩
      · exact ⟨none, 0, by rw [h], by omega⟩
      · exact ⟨_, _, rfl, h⟩
    refine ⟨⟨(A', c'), hle⟩, w', .inl (hex _ _ hr), hmk w' (own E sz A' (m + m2) c' (xs ++ ys)) (fun k => A' ≠ none ∧ k = ob A') ⟨k2.os, k2.tape, k2.output, k2.size, fun k hk => k2.block k hk.1 (fun h => ?_)⟩ ⟨k1, fun k => Iff.rfl⟩ (fun k hk => ?_)⟩
    · refine hk.2 ((hD k).2 ?_)
      rw [ownBlock_of] at h
      cases A with
      | none => cases h
      | some a => exact ⟨by simp, by simpa [ob] using h⟩
    · obtain ⟨a', rfl⟩ : ∃ a', A' = some a' := by cases A' with | none => exact absurd rfl hk.1 | some b => exact ⟨b, rfl⟩
      have hk2 : k = a'.block := hk.2
      subst hk2
      refine ⟨?_, ?_⟩
      · rcases k4 with h | h
        · rw [ownBlock_of, ownBlock_of] at h
          cases A with
          | none => cases h
          | some a => exact .inl ((hD _).2 ⟨by simp, by simpa [ob] using h⟩)
        · rw [ownBlock_of] at h
          simp at h
          exact .inr (by omega)
      · rcases k1.2 with ⟨h, _⟩ | ⟨g, cap, cur, h, _, h2, _⟩
        · injection h with h; cases h
        · injection h with h
          simp only [Option.some.injEq] at h
          subst h
          obtain ⟨h3, _⟩ := Array.getElem?_eq_some_iff.1 h2
          exact h3
end
section
variable {F : Nat → Prop} {w₀ w : World} {L : List Atom}
theorem St.ownCutP {q E sz m m' c : Nat} {A : Option Addr} {xs : List Value} (hi : L[q]? = some (own E sz A m c xs)) (hm : m' ≤ m) (h : St F w₀ L w) : St F w₀ (L.set q (own E sz A m' c (xs.take (m' * sz)))) w :=
  h.swap hi (fun w D ⟨⟨h1, h2⟩, h3⟩ _ => by
    have hle : m' * sz ≤ m * sz := Nat.mul_le_mul_right _ hm
    refine ⟨D, ⟨⟨by rw [List.length_take, h1]; exact Nat.min_eq_left hle, ?_⟩, h3⟩, fun _ h => h⟩
    rcases h2 with ⟨k1, k2⟩ | ⟨g, cap, cur, hv, hg, hh, hc, hmx, hsz, hxs⟩
    · injection k1 with e1 e2 e3
      refine .inl ⟨?_, by omega⟩
      rw [e1, e3]
      congr 1
      omega
    · injection hv with e1 e2 e3
      refine .inr ⟨g, cap, cur, by rw [e1, e3], hg, hh, Nat.le_trans hm hc, hmx, hsz, ?_⟩
      rw [← hxs, List.take_take, Nat.min_eq_left hle])
end
end Go.Sx
end
section
/- The contracts of shaleref2's polynomials: they are those of package fieldpoly. Conditions: an m that may be; the lists are read where they lie. -/
namespace Go.Proofs.YtcdmmfpgeagimaaDoor
open Go.Sx Go.Fm
set_option maxRecDepth 100000
theorem _root_.Go.Sx.St.ownCut {F : Nat → Prop} {w₀ w : World} {L : List Atom} {q k E sz m c : Nat} {A : Option Addr} {xs : List Value} (hi : L[q]? = some (own E sz A m c xs)) (hk : k ≤ m) (h : St F w₀ L w) : St F w₀ (L.set q (own E sz A k c (xs.take (k * sz)))) w :=
  h.swap hi (fun _ D ⟨⟨h1, h2⟩, hD⟩ _ => ⟨D, ⟨⟨by rw [List.length_take, h1]; exact Nat.min_eq_left (Nat.mul_le_mul_right _ hk), by
    rcases h2 with ⟨h2, h3⟩ | ⟨g, cap, cur, hv, hb, hh, hc, hm, hs, ht⟩
    · injection h2 with h4 h5 h6
      exact .inl ⟨by rw [h4, h6, show k = 0 by omega], by omega⟩
    · injection hv with h4 h5 h6
      refine .inr ⟨g, cap, cur, by rw [h4, h6], hb, hh, by omega, hm, hs, ?_⟩
      rw [← ht, List.take_take, Nat.min_eq_left (Nat.mul_le_mul_right _ hk)]⟩, hD⟩, fun _ h => h⟩)

theorem lowL_take2 {m : Nat} {l : List Int} {i : Nat} (h : i < l.length) : (lowL m l).take (i + 1) = (lowL m l).take i ++ [lo m (l.getD i 0)] := by
  have e1 : (lowL m l).take (i + 1) = lowL m (l.take (i + 1)) := by simp [lowL, List.map_take]
  have e2 : (lowL m l).take i = lowL m (l.take i) := by simp [lowL, List.map_take]
  rw [e1, e2, lowL_take m l h]
theorem cf_take {a : List Nat} {k j : Nat} (h : j < k) : cf (a.take k) j = cf a j := by
  unfold cf
  simp only [List.getD_eq_getElem?_getD]
  rw [List.getElem?_take, if_pos h]

theorem rtrim_spec (m : Nat) (A : Option Addr) (n c : Nat) (l : List Int) (w : World) (hm : Ok m) (ha : Has (sl 1 A n (ints .i64 l)) w) (hn : n ≤ 4294967296) : SpecL Tryd.prog 164 [.int .i64 (m : Nat), .slice A n c] w (trim (lowL m l)) := by
  have hla := ints_len ha
  subst hla
  have hlen := lowL_len m l
  have htl := tl_le (lowL m l)
  refine spec_of Tryd.func164 rfl Tryd.ntmps164 rfl ?_
  refine CW.seq ?_
  refine CW.reg [0] rfl ?_
  refine s_as 4 rfl rfl ?_
  refine SX.next ?_
  refine CW.seq ?_
  refine CW.reg [0] rfl ?_
  refine s_as 5 rfl rfl ?_
  refine SX.next ?_
  refine CW.seq ?_
  refine CW.seq ?_
  refine CW.reg [0] rfl ?_
  refine s_as 6 rfl rfl ?_
  refine SX.next ?_
  refine CW.block ?_
  refine CW.loop (G := Nat × Option Addr × Nat) (fun q => [(0, .int .i64 (m : Nat)), (1, .slice A l.length c), (5, .slice q.2.1 q.1 q.2.2), (6, .int .i64 (q.1 : Nat))]) (fun q => Sto w [own 3 1 q.2.1 q.1 q.2.2 (nats .i64 ((lowL m l).take q.1))]) (fun q => q.1 ≤ l.length ∧ q.1 ≤ q.2.2) (fun q => l.length - q.1) (0, none, 0) ⟨rfl, rfl, rfl, rfl, trivial⟩ (fun _ h => h.begin_ _ 1) ⟨Nat.zero_le _, Nat.le_refl _⟩ ?_
  intro q hq
  have hq0 := hq.1
  have hqc := hq.2
  refine CW.seq ?_
  refine CW.seq ?_
  refine CW.reg [0, 1, 2, 3] rfl ?_
  refine s_mv 7 rfl rfl ?_
  refine s_mv 8 rfl rfl ?_
  refine s_len 9 rfl rfl ?_
  refine s_lt 10 rfl rfl rfl rfl ?_
  refine SX.next ?_
  refine CW.test rfl (fun hc => ?_) (fun hc => ?_)
  · skip
    refine CW.skip ?_
    refine KN.code ?_
    refine CW.seq ?_
    refine CW.block ?_
    refine CW.reg [0, 1, 2, 3, 4, 5, 6, 7, 8, 9] rfl ?_
    refine s_mv 13 rfl rfl ?_
    refine s_mv 14 rfl rfl ?_
    refine s_mv 15 rfl rfl ?_
    refine s_mv 16 rfl rfl ?_
    refine s_iaV 17 q.1 (fun w hw => hw.old ha) rfl rfl rfl rfl (by omega) ?_
    refine s_ldV 18 (fun w hw => hw.old ha) rfl rfl (by rw [Nat.mul_one]; exact intsAt (by omega)) (by omega) ?_
    refine s_call1 19 rfl rfl rfl rfl (fun w hw => rlow_spec m _ _ hm) (fun _ _ => trivial) ?_
    refine s_bsl 20 rfl rfl (cells := #[.int .i64 (lo m (l.getD q.1 0) : Nat)]) (by kernel_rfl) rfl (fun _ _ => trivial) (fun gb => ?_)
    refine s_app 21 1 rfl rfl rfl rfl (ys := [.int .i64 (lo m (l.getD q.1 0) : Nat)]) (fun w hw => Has.cong ((hw.has (i := 0) rfl).blk_sl (m := 1) rfl) rfl) rfl rfl (by omega) (by unfold maxLen; omega) (by omega) (fun _ _ _ _ => trivial) (fun A2 c2 hc2 => ?_)
    refine s_as 5 rfl rfl ?_
    refine SX.end_ ?_
    refine KN.blk ?_
    refine KN.code ?_
    refine CW.reg [0, 1, 2] rfl ?_
    refine s_mv 11 rfl rfl ?_
    refine s_add 12 rfl rfl rfl (r := ((q.1 + 1 : Nat) : Int)) (w64 (by omega)) ?_
    refine s_as 6 rfl rfl ?_
    refine SX.end_ ?_
    exact KN.back (q.1 + 1, A2, c2) ⟨rfl, rfl, rfl, rfl, trivial⟩ (fun _ h => by simp only; rw [lowL_take2 (by omega), ← nats_snoc]; exact h.pick [1] rfl) ⟨by simp only; omega, hc2⟩ (by simp only; omega)
  · skip
    have hqe : q.1 = l.length := by omega
    refine CW.exit rfl ?_
    refine KN.code ?_
    refine CW.seq ?_
    refine CW.block ?_
    refine CW.loop (G := Nat) (fun k => [(5, .slice q.2.1 k q.2.2)]) (fun k => Sto w [own 3 1 q.2.1 k q.2.2 (nats .i64 ((lowL m l).take k))]) (fun k => tl (lowL m l) ≤ k ∧ k ≤ l.length) (fun k => k) q.1 ⟨rfl, trivial⟩ (fun _ h => h) ⟨by omega, by omega⟩ ?_
    intro k hk0
    obtain ⟨hk1, hk2⟩ := hk0
    refine CW.seq ?_
    refine CW.seq ?_
    refine CW.reg [0, 1, 2, 3, 4, 5, 6, 7, 8, 9, 10, 11] rfl ?_
    refine s_mv 22 rfl rfl ?_
    refine s_len 23 rfl rfl ?_
    refine s_gt 24 rfl rfl rfl rfl ?_
    refine s_mv 25 rfl rfl ?_
    refine SX.bool 25 rfl (fun hb => ?_) (fun hb => ?_)
    · skip
      replace hb := of_decide_eq_true hb
      refine s_mv 26 rfl rfl ?_
      refine s_mv 27 rfl rfl ?_
      refine s_len 28 rfl rfl ?_
      refine s_sub 29 rfl rfl rfl (r := ((k - 1 : Nat) : Int)) (by rw [show ((k : Nat) : Int) - 1 = ((k - 1 : Nat) : Int) by omega]; exact w64 (by omega)) ?_
      refine s_iaO 30 0 (k - 1) rfl rfl rfl rfl rfl (by omega) ?_
      refine s_ldO 31 0 rfl rfl rfl (v := .int .i64 (cf (lowL m l) (k - 1) : Nat)) (by rw [natsAtC (by rw [List.length_take]; omega), cf_take (by omega)]) ?_
      refine s_eq 32 rfl rfl rfl rfl ?_
      refine s_pickT 33 rfl rfl rfl ?_
      refine SX.next ?_
      refine CW.test rfl (fun hc => ?_) (fun hc => ?_)
      · skip
        have hk3 : tl (lowL m l) ≤ k - 1 := by
          by_cases h : tl (lowL m l) = k
          · have := cf_top (lowL m l) (by omega)
            rw [h] at this
            omega
          · omega
        refine CW.skip ?_
        refine KN.code ?_
        refine CW.block ?_
        refine CW.reg [0, 1, 2, 3, 4, 5] rfl ?_
        refine s_mv 34 rfl rfl ?_
        refine s_mv 35 rfl rfl ?_
        refine s_len 36 rfl rfl ?_
        refine s_sub 37 rfl rfl rfl (r := ((k - 1 : Nat) : Int)) (by rw [show ((k : Nat) : Int) - 1 = ((k - 1 : Nat) : Int) by omega]; exact w64 (by omega)) ?_
        refine s_slH 38 (k - 1) rfl rfl rfl rfl (by omega) ?_
        refine SX.pre (fun _ h => h.ownCut (q := 0) (k := k - 1) rfl (by omega)) ?_
        refine s_as 5 rfl rfl ?_
        refine SX.end_ ?_
        refine KN.blk ?_
        exact KN.back (k - 1) ⟨rfl, trivial⟩ (fun _ h => by rw [nats_take, List.take_take, Nat.mul_one, Nat.min_eq_left (by omega)] at h; exact h) ⟨hk3, by omega⟩ (by omega)
      · skip
        have hk3 : k ≤ tl (lowL m l) := Nat.le_of_not_lt (fun h => hc (by rw [cf_hi (lowL m l) (k - 1) (by omega)]; rfl))
        have hE : (lowL m l).take k = trim (lowL m l) := by unfold trim; rw [show k = tl (lowL m l) by omega]
        have hk : (trim (lowL m l)).length = k := by rw [trim_length]; omega
        refine CW.exit rfl ?_
        refine KN.code ?_
        refine CW.seq ?_
        refine CW.reg [0, 1] rfl ?_
        refine s_mv 39 rfl rfl ?_
        refine s_as 4 rfl rfl ?_
        refine SX.next ?_
        refine CW.ret ?_
        exact KN.ret (rs := [.tmp 4]) Tryd.results164 rfl (fun w hw => ⟨(q.2.1, q.2.2), by rw [hk]; rfl, by rw [hk]; show k ≤ q.2.2; omega, by rw [hk, ← hE]; exact hw⟩)
    · skip
      replace hb := of_decide_eq_false hb
      refine SX.skip rfl ?_
      refine SX.skip rfl ?_
      refine SX.skip rfl ?_
      refine SX.skip rfl ?_
      refine SX.skip rfl ?_
      refine SX.skip rfl ?_
      refine SX.skip rfl ?_
      refine s_pickF 33 rfl rfl rfl ?_
      refine SX.next ?_
      refine CW.condF rfl ?_
      refine CW.exit rfl ?_
      refine KN.code ?_
      refine CW.seq ?_
      have hE : (lowL m l).take k = trim (lowL m l) := by unfold trim; rw [show k = tl (lowL m l) by omega]
      have hk : (trim (lowL m l)).length = k := by rw [trim_length]; omega
      refine CW.reg [0, 1] rfl ?_
      refine s_mv 39 rfl rfl ?_
      refine s_as 4 rfl rfl ?_
      refine SX.next ?_
      refine CW.ret ?_
      exact KN.ret (rs := [.tmp 4]) Tryd.results164 rfl (fun w hw => ⟨(q.2.1, q.2.2), by rw [hk]; rfl, by rw [hk]; show k ≤ q.2.2; omega, by rw [hk, ← hE]; exact hw⟩)

/-- The sum's coefficient, as the document's polynomials make it. -/
def raddV (l l2 : List Int) (j : Nat) : Int := if j < l2.length then ibit .xor .i64 (l.getD j 0) (l2.getD j 0) else l.getD j 0
def raddF (l l2 : List Int) (i j : Nat) : Int := if j < i then raddV l l2 j else 0
theorem mul_all2 {m : Nat} (hm : Ok m) {a b : List Nat} (ha : ∀ x ∈ a, x < 2 ^ m) : trim (lowL m (tab (a.length + b.length) (mulF m a b a.length 0))) = mulP m a b := by
  rw [← mul_all hm ha, trim_tab, trim_tab]
  refine pl_eq (fun j => ?_)
  by_cases h : j < a.length + b.length - 1
  · rw [if_pos h, if_pos (by omega)]
  · rw [if_neg h]
    split
    · have h0 : mulF m a b a.length 0 j = 0 := by
        unfold mulF
        rw [if_neg (by omega), Nat.xor_zero]
        rw [xs_zero (fun i hi => ?_)]
        · rfl
        · unfold rowF
          split
          · rw [cf_out (l := b) (by omega), gm_zero_right]
          · rfl
      rw [h0, lo_zero]
    · rfl
theorem rmulN {m : Nat} {w : World} {x y : Nat} (hm : Ok m) (hx : x < 2 ^ m) (hy : y < 2 ^ m) : Spec1 Tryd.prog 85 [.int .i64 (m : Nat), .int .i64 (x : Nat), .int .i64 (y : Nat)] w (.int .i64 (gm m x y : Nat)) := by
  have := rmul_spec m x y w hm; rw [lo_nat hx, lo_nat hy] at this; exact this

theorem rtimes_spec (m : Nat) (A : Option Addr) (n c : Nat) (l : List Int) (B : Option Addr) (k d : Nat) (l2 : List Int) (w : World) (hm : Ok m) (ha : Has (sl 1 A n (ints .i64 l)) w) (hb : Has (sl 1 B k (ints .i64 l2)) w) (hn : n ≤ 1073741824) (hk : k ≤ 1073741824) : SpecL Tryd.prog 159 [.int .i64 (m : Nat), .slice A n c, .slice B k d] w (mulP m (trim (lowL m l)) (trim (lowL m l2))) := by
  have hla := ints_len ha
  subst hla
  have hlb := ints_len hb
  subst hlb
  have hA := trimLow_lt m l
  have hB := trimLow_lt m l2
  have hta := trim_length (lowL m l)
  have htb := trim_length (lowL m l2)
  have hla1 := tl_le (lowL m l)
  have hlb1 := tl_le (lowL m l2)
  have hll1 := lowL_len m l
  have hll2 := lowL_len m l2
  generalize ea : trim (lowL m l) = a at *
  generalize eb : trim (lowL m l2) = b at *
  refine spec_of Tryd.func159 rfl Tryd.ntmps159 rfl ?_
  refine CW.seq ?_
  refine CW.reg [0] rfl ?_
  refine s_as 6 rfl rfl ?_
  refine SX.next ?_
  refine CW.seq ?_
  refine CW.reg [0, 1, 2, 3] rfl ?_
  refine s_mv 10 rfl rfl ?_
  refine s_mv 11 rfl rfl ?_
  refine s_call 12 rfl rfl rfl rfl (fun w hw => by have := rtrim_spec m A l.length c l w hm (hw.old ha) (by omega); rw [ea] at this; exact this) (fun _ _ => trivial) (fun q1 hq1 => ?_)
  refine s_as 1 rfl rfl ?_
  refine SX.next ?_
  refine CW.seq ?_
  refine CW.reg [0, 1, 2, 3] rfl ?_
  refine s_mv 13 rfl rfl ?_
  refine s_mv 14 rfl rfl ?_
  refine s_call 15 rfl rfl rfl rfl (fun w hw => by have := rtrim_spec m B l2.length d l2 w hm (hw.old hb) (by omega); rw [eb] at this; exact this) (fun _ _ => trivial) (fun q2 hq2 => ?_)
  refine s_as 2 rfl rfl ?_
  refine SX.next ?_
  refine CW.seq ?_
  refine CW.reg [0, 1, 2, 3, 4, 5, 6] rfl ?_
  refine s_mv 16 rfl rfl ?_
  refine s_len 17 rfl rfl ?_
  refine s_mv 18 rfl rfl ?_
  refine s_len 19 rfl rfl ?_
  refine s_add 20 rfl rfl rfl (r := (((a.length + b.length) : Nat) : Int)) (w64 (by omega)) ?_
  refine s_make 21 (a.length + b.length) rfl rfl rfl rfl rfl (by omega) (fun _ _ => trivial) (fun go => ?_)
  refine s_as 7 rfl rfl ?_
  refine SX.next ?_
  refine CW.seq ?_
  refine CW.seq ?_
  refine CW.reg [0] rfl ?_
  refine s_as 8 rfl rfl ?_
  refine SX.next ?_
  refine CW.block ?_
  refine CW.loop (G := Nat) (fun i => [(0, .int .i64 (m : Nat)), (1, .slice q1.1 a.length q1.2), (2, .slice q2.1 b.length q2.2), (7, .slice (some ⟨go, 0, none⟩) (a.length + b.length) (a.length + b.length)), (8, .int .i64 (i : Nat))]) (fun i => Sto w [blk go 3 (ints .i64 (tab (a.length + b.length) (mulF m a b i 0))).toArray, own 3 1 q2.1 b.length q2.2 (nats .i64 b), own 3 1 q1.1 a.length q1.2 (nats .i64 a)]) (fun i => i ≤ a.length) (fun i => a.length - i) 0 ⟨rfl, rfl, rfl, rfl, rfl, trivial⟩ (fun _ h => by rw [show tab (a.length + b.length) (mulF m a b 0 0) = tab (a.length + b.length) (fun _ => 0) from tab_cong (fun j _ => mulF_zero m a b j), ← tab_zero]; exact h) (Nat.zero_le _) ?_
  intro i hi
  refine CW.seq ?_
  refine CW.seq ?_
  refine CW.reg [0, 1, 2, 3] rfl ?_
  refine s_mv 22 rfl rfl ?_
  refine s_mv 23 rfl rfl ?_
  refine s_len 24 rfl rfl ?_
  refine s_lt 25 rfl rfl rfl rfl ?_
  refine SX.next ?_
  refine CW.test rfl (fun hc => ?_) (fun hc => ?_)
  · skip
    refine CW.skip ?_
    refine KN.code ?_
    refine CW.seq ?_
    refine CW.block ?_
    refine CW.seq ?_
    refine CW.reg [0] rfl ?_
    refine s_as 9 rfl rfl ?_
    refine SX.next ?_
    refine CW.block ?_
    refine CW.loop (G := Nat) (fun k => [(0, .int .i64 (m : Nat)), (1, .slice q1.1 a.length q1.2), (2, .slice q2.1 b.length q2.2), (7, .slice (some ⟨go, 0, none⟩) (a.length + b.length) (a.length + b.length)), (8, .int .i64 (i : Nat)), (9, .int .i64 (k : Nat))]) (fun k => Sto w [blk go 3 (ints .i64 (tab (a.length + b.length) (mulF m a b i k))).toArray, own 3 1 q2.1 b.length q2.2 (nats .i64 b), own 3 1 q1.1 a.length q1.2 (nats .i64 a)]) (fun k => k ≤ b.length) (fun k => b.length - k) 0 ⟨rfl, rfl, rfl, rfl, rfl, rfl, trivial⟩ (fun _ h => h) (Nat.zero_le _) ?_
    intro k hk2
    refine CW.seq ?_
    refine CW.seq ?_
    refine CW.reg [0, 1, 2, 3] rfl ?_
    refine s_mv 28 rfl rfl ?_
    refine s_mv 29 rfl rfl ?_
    refine s_len 30 rfl rfl ?_
    refine s_lt 31 rfl rfl rfl rfl ?_
    refine SX.next ?_
    refine CW.test rfl (fun hc => ?_) (fun hc => ?_)
    · skip
      refine CW.skip ?_
      refine KN.code ?_
      refine CW.seq ?_
      refine CW.block ?_
      refine CW.regD (.st true 0 (.st true 1 (.st true 2 (.st true 3 (.st true 4 (.st true 5 (.st true 6 (.st true 7 (.st true 8 (.st true 10 (.st true 11 (.st true 12 (.st true 13 (.st true 14 (.st true 15 (.st true 16 (.st true 17 (.st true 18 (.alt 9 (.st false 19 (.st true 20 (.st true 21 (.st false 22 .done)))) (.st false 19 (.st false 9 (.st true 20 (.st true 21 (.st false 22 .done)))))))))))))))))))))))) (Sto w [own 3 1 q2.1 b.length q2.2 (nats .i64 b), own 3 1 q1.1 a.length q1.2 (nats .i64 a)]) mixed (by kernel_rfl) (fun _ h => h.drew) (fun _ h => h.pick [1, 1] rfl) ?_
      refine s_mv 34 rfl rfl ?_
      refine s_mv 35 rfl rfl ?_
      refine s_mv 36 rfl rfl ?_
      refine s_add 37 rfl rfl rfl (r := ((i + k : Nat) : Int)) (w64 (by omega)) ?_
      refine s_mv 38 rfl rfl ?_
      refine s_mv 39 rfl rfl ?_
      refine s_mv 40 rfl rfl ?_
      refine s_add 41 rfl rfl rfl (r := ((i + k : Nat) : Int)) (w64 (by omega)) ?_
      refine s_ia0 42 (i + k) rfl rfl rfl rfl (by omega) ?_
      refine s_mv 44 rfl rfl ?_
      refine s_mv 45 rfl rfl ?_
      refine s_mv 46 rfl rfl ?_
      refine s_iaO 47 2 i rfl rfl rfl rfl rfl (by omega) ?_
      refine s_ldS 48 rfl rfl (fun _ h => h.ownCell (q := 1) rfl (natsAtC (by omega))) ?_
      refine s_mv 49 rfl rfl ?_
      refine s_mv 50 rfl rfl ?_
      refine s_iaO 51 1 k rfl rfl rfl rfl rfl (by omega) ?_
      refine s_ldS 52 rfl rfl (fun _ h => h.ownCell (q := 0) rfl (natsAtC (by omega))) ?_
      refine SX.alt ?_ ?_
      · skip
        refine s_ldB 43 0 rfl rfl rfl (tab_atA (by omega)) ?_
        refine s_call1 53 rfl rfl rfl rfl (fun w hw => rmulN hm (cf_lt hA (Nat.two_pow_pos m) i) (cf_lt hB (Nat.two_pow_pos m) k)) (fun _ h => h.pick [1, 1] rfl) ?_
        refine s_bit 54 rfl rfl rfl rfl rfl ?_
        refine s_ia0 55 (i + k) rfl rfl rfl rfl (by omega) ?_
        refine s_stB 0 rfl rfl rfl rfl rfl (by rw [tab_size]; omega) (fun _ h => h.pick [1, 1] rfl) ?_
        refine SX.end_ ?_
        refine KN.blk ?_
        refine KN.code ?_
        refine CW.reg [0, 1, 2] rfl ?_
        refine s_mv 32 rfl rfl ?_
        refine s_add 33 rfl rfl rfl (r := ((k + 1 : Nat) : Int)) (w64 (by omega)) ?_
        refine s_as 9 rfl rfl ?_
        refine SX.end_ ?_
        exact KN.back (k + 1) ⟨rfl, rfl, rfl, rfl, rfl, rfl, trivial⟩ (fun _ h => by rw [← mulF_next hm hA, ← tab_set]; exact h) (by omega) (by omega)
      · skip
        refine s_call1 53 rfl rfl rfl rfl (fun w hw => rmulN hm (cf_lt hA (Nat.two_pow_pos m) i) (cf_lt hB (Nat.two_pow_pos m) k)) (fun _ h => h.pick [1, 1] rfl) ?_
        refine s_ldB 43 0 rfl rfl rfl (tab_atA (by omega)) ?_
        refine s_bit 54 rfl rfl rfl rfl rfl ?_
        refine s_ia0 55 (i + k) rfl rfl rfl rfl (by omega) ?_
        refine s_stB 0 rfl rfl rfl rfl rfl (by rw [tab_size]; omega) (fun _ h => h.pick [1, 1] rfl) ?_
        refine SX.end_ ?_
        refine KN.blk ?_
        refine KN.code ?_
        refine CW.reg [0, 1, 2] rfl ?_
        refine s_mv 32 rfl rfl ?_
        refine s_add 33 rfl rfl rfl (r := ((k + 1 : Nat) : Int)) (w64 (by omega)) ?_
        refine s_as 9 rfl rfl ?_
        refine SX.end_ ?_
        exact KN.back (k + 1) ⟨rfl, rfl, rfl, rfl, rfl, rfl, trivial⟩ (fun _ h => by rw [← mulF_next hm hA, ← tab_set]; exact h) (by omega) (by omega)
    · skip
      obtain rfl : k = b.length := by omega
      refine CW.exit rfl ?_
      refine KN.blk ?_
      refine KN.code ?_
      refine CW.reg [0, 1, 2] rfl ?_
      refine s_mv 26 rfl rfl ?_
      refine s_add 27 rfl rfl rfl (r := ((i + 1 : Nat) : Int)) (w64 (by omega)) ?_
      refine s_as 8 rfl rfl ?_
      refine SX.end_ ?_
      exact KN.back (i + 1) ⟨rfl, rfl, rfl, rfl, rfl, trivial⟩ (fun _ h => by rw [← tab_cong (fun j _ => mulF_row m a b i b.length (Nat.le_refl _) j)]; exact h) (by omega) (by omega)
  · skip
    obtain rfl : i = a.length := by omega
    refine CW.exit rfl ?_
    refine KN.code ?_
    refine CW.seq ?_
    refine CW.reg [0, 1, 2, 3] rfl ?_
    refine s_mv 56 rfl rfl ?_
    refine s_mv 57 rfl rfl ?_
    refine s_call 58 rfl rfl rfl rfl (fun w hw => by have := rtrim_spec m (some ⟨go, 0, none⟩) (a.length + b.length) (a.length + b.length) (tab (a.length + b.length) (mulF m a b a.length 0)) w hm (Has.cong ((hw.has (i := 0) rfl).blk_sl (m := (a.length + b.length)) (by exact tab_size.trans (Nat.mul_one _).symm)) rfl) (by omega); rw [mul_all2 hm hA] at this; exact this) (fun _ _ => trivial) (fun q3 hq3 => ?_)
    refine s_as 6 rfl rfl ?_
    refine SX.next ?_
    refine CW.ret ?_
    exact KN.ret (rs := [.tmp 6]) Tryd.results159 rfl (fun w hw => ⟨q3, rfl, hq3, hw.pick [0] rfl⟩)

/-! ### Quotients -/
/-- What the document's division keeps. -/
structure DivR (m : Nat) (a b : List Nat) (q : List Nat × (Nat → Nat) × (Option Addr × Nat)) : Prop where
  tr : Tr m q.1
  le : q.1.length ≤ a.length
  lt : ∀ j, q.2.1 j < 2 ^ m
  lo : ∀ j, j + b.length ≤ q.1.length → q.2.1 j = 0
  hi : ∀ j, a.length < j + b.length → q.2.1 j = 0
  eq : ∀ j, cv m q.2.1 (cf b) j ^^^ cf q.1 j = cf a j
theorem cf_rep (s : Nat) (x : List Nat) (j : Nat) : cf (List.replicate s 0 ++ x) j = if j < s then 0 else cf x (j - s) := by
  unfold cf
  simp only [List.getD_eq_getElem?_getD]
  split
  · rw [List.getElem?_append_left (by simpa using by assumption)]
    rw [List.getElem?_replicate]
    split <;> rfl
  · rw [List.getElem?_append_right (by simp; omega)]
    simp
theorem DivR.next {m : Nat} (hm : Ok m) {a b a1 : List Nat} {Q : Nat → Nat} {A A2 : Option Addr × Nat} (h : DivR m a b (a1, Q, A)) (hb : Tr m b) (hb0 : b.length ≠ 0) (hl : b.length ≤ a1.length) :
    DivR m a b (addP a1 (List.replicate (a1.length - b.length) 0 ++ scaleP m b (gm m (cf a1 (a1.length - 1)) (inv m (cf b (b.length - 1))))), fun j => if j = a1.length - b.length then gm m (cf a1 (a1.length - 1)) (inv m (cf b (b.length - 1))) else Q j, A2) ∧
    (addP a1 (List.replicate (a1.length - b.length) 0 ++ scaleP m b (gm m (cf a1 (a1.length - 1)) (inv m (cf b (b.length - 1)))))).length < a1.length := by
  obtain ⟨h1, h2, h3, h4, h5, h6⟩ := h
  simp only at h1 h2 h3 h4 h5 h6
  have hc : gm m (cf a1 (a1.length - 1)) (inv m (cf b (b.length - 1))) < 2 ^ m := gm_lt hm (h1.c _) _
  have hdiv := gm_div hm (h1.c (a1.length - 1)) (hb.c (b.length - 1)) (hb.top hb0)
  generalize gm m (cf a1 (a1.length - 1)) (inv m (cf b (b.length - 1))) = c at *
  generalize hs : a1.length - b.length = s at *
  have hX : ∀ j, cf (addP a1 (List.replicate s 0 ++ scaleP m b c)) j = cf a1 j ^^^ (if s ≤ j then gm m c (cf b (j - s)) else 0) := fun j => by
    rw [cf_addP, cf_rep]
    congr 1
    by_cases h : j < s
    · rw [if_pos h, if_neg (by omega)]
    · rw [if_neg h, if_pos (by omega), cf_scaleP, gm_comm hm (hb.c _) hc]
  have hsc := (scaleP_tr hm hb c).lt
  have htr : Tr m (addP a1 (List.replicate s 0 ++ scaleP m b c)) := pl_tr (fun j => xor_lt (h1.c j) (cf_lt (fun x hx => by
    rcases List.mem_append.1 hx with hx | hx
    · rw [(List.mem_replicate.1 hx).2]; exact Nat.two_pow_pos m
    · exact hsc x hx) (Nat.two_pow_pos m) j))
  have hlen : (addP a1 (List.replicate s 0 ++ scaleP m b c)).length ≤ a1.length - 1 := len_le_of htr (fun j hj => by
    rw [hX, if_pos (by omega)]
    by_cases he : j = a1.length - 1
    · subst he
      rw [show a1.length - 1 - s = b.length - 1 by omega, hdiv, Nat.xor_self]
    · rw [cf_out (l := a1) (by omega), cf_out (l := b) (by omega), gm_zero_right]
      rfl)
  refine ⟨⟨htr, by simp only; omega, fun j => by simp only; split; exact hc; exact h3 j, fun j hj => ?_, fun j hj => ?_, fun j => ?_⟩, by omega⟩
  · simp only at hj ⊢
    rw [if_neg (by omega)]
    exact h4 j (by omega)
  · simp only at hj ⊢
    rw [if_neg (by omega)]
    exact h5 j hj
  · simp only
    have e : cv m (fun j => if j = s then c else Q j) (cf b) j = cv m (fun i => (if i = s then c else 0) ^^^ Q i) (cf b) j := cv_congr (fun i _ => by
      by_cases h : i = s
      · rw [if_pos h, if_pos h, h4 i (by omega), Nat.xor_zero]
      · rw [if_neg h, if_neg h, Nat.zero_xor]) (fun _ _ => rfl)
    rw [e, cv_add_left hm (fun i => by split; exact hc; exact Nat.two_pow_pos m) h3, cv_one, hX]
    generalize (if s ≤ j then gm m c (cf b (j - s)) else 0) = z
    rw [← h6 j, Nat.xor_comm (cf a1 j) z, Nat.xor_comm z (cv m Q (cf b) j), Nat.xor_assoc, xcc]
theorem DivR.done {m : Nat} (hm : Ok m) {a b a1 : List Nat} {Q : Nat → Nat} {A : Option Addr × Nat} (h : DivR m a b (a1, Q, A)) (ha : Tr m a) (hb : Tr m b) (hb0 : b.length ≠ 0) (hl : a1.length < b.length) :
    trim (lowL m (tabN (a.length + 1) Q)) = quotP m a b ∧ a1 = restP m a b := by
  obtain ⟨h1, h2, h3, h4, h5, h6⟩ := h
  simp only at h1 h2 h3 h4 h5 h6
  rw [trim_tabN h3]
  have hq : Tr m (pl (a.length + 1) Q) := pl_tr h3
  refine div_uniq hm ha hb hb0 hq h1 hl ((addP_tr hm (mulP_tr hm hq hb) h1).ext ha (fun j => ?_))
  rw [cf_addP, cf_mulP, ← h6 j]
  congr 1
  refine cv_congr (fun i _ => ?_) (fun _ _ => rfl)
  rw [cf_pl]
  split
  · rfl
  · exact (h5 i (by omega)).symm
abbrev SpecL2 (P : Program) (f : FuncId) (args : List Value) (w : World) (E G : List Nat) : Prop :=
  SpecX P f args w (X := (Option Addr × Nat) × (Option Addr × Nat)) (fun q => two (.slice q.1.1 E.length q.1.2) (.slice q.2.1 G.length q.2.2)) (fun q => E.length ≤ q.1.2)
    (fun q => [own 3 1 q.1.1 E.length q.1.2 (nats .i64 E), own 3 1 q.2.1 G.length q.2.2 (nats .i64 G)])
/-! ### Divisors and roots -/
/-- What the common divisor's loop keeps. -/
structure GcdR (m : Nat) (a b : List Nat) (q : List Nat × List Nat × (Option Addr × Nat) × (Option Addr × Nat)) : Prop where
  h1 : Tr m q.1
  h2 : Tr m q.2.1
  l1 : q.1.length ≤ 1073741824
  l2 : q.2.1.length ≤ 1073741824
  eq : gcdE m q.1 q.2.1 = gcdE m a b
end Go.Proofs.YtcdmmfpgeagimaaDoor
end
section
/- The document's sums of powers, the chapter's examples, and the statements BinOf and BinCounts. No condition but the errors' variables. -/
namespace Go.Proofs.YtcdmmfpgeagimaaDoor
open Go Go.Lib Go.Sx Go.Fm
set_option maxRecDepth 100000
theorem eX_cf (l : List Int) (i j : Nat) : cf (sumF (eX l) (i + 1)) j = cf (sumF (eX l) i) j ^^^ (if j = (l.getD i 0).toNat then 1 else 0) := by
  show cf (addP (sumF (eX l) i) (eX l i)) j = _
  rw [cf_addP]
  unfold eX
  rw [cf_xP]
theorem toggle_next {l : List Int} {i k : Nat} (hk : l.getD i 0 = (k : Nat)) : (fun j => if j = k then cf (sumF (eX l) i) k ^^^ 1 else cf (sumF (eX l) i) j) = cf (sumF (eX l) (i + 1)) := by
  funext j
  rw [eX_cf, hk, Int.toNat_natCast]
  by_cases h : j = k
  · subst h; rw [if_pos rfl, if_pos rfl]
  · rw [if_neg h, if_neg h, Nat.xor_zero]
theorem sumF_hi {l : List Int} {M : Nat} : ∀ {i : Nat}, (∀ j, j < i → (l.getD j 0).toNat ≤ M) → ∀ j, M < j → cf (sumF (eX l) i) j = 0
  | 0, _, j, _ => cf_nil j
  | i + 1, h, j, hj => by
    rw [eX_cf, sumF_hi (i := i) (fun j hj => h j (by omega)) j hj, if_neg (by have := h i (by omega); omega)]
    rfl
theorem nzP_tab {l : List Int} {M i : Nat} (h : ∀ j, j < i → (l.getD j 0).toNat ≤ M) : nzP (tabN (M + 1) (cf (sumF (eX l) i))) (tabN (M + 1) (cf (sumF (eX l) i))).length = sumF (eX l) i := by
  have hb := sumF_b1 (eX_b1 l) i
  refine (nzP_b1 _ _).tr.ext hb.tr (fun j => ?_)
  rw [cf_nzP, tabN_len]
  split
  · rename_i hj
    have e : (tabN (M + 1) (cf (sumF (eX l) i))).getD j 0 = ((cf (sumF (eX l) i) j : Nat) : Int) := by
      unfold tabN
      rw [tab_getD, if_pos hj]
    unfold nzF
    rw [e]
    have := hb.le j
    split <;> omega
  · exact (sumF_hi h j (by omega)).symm

theorem rof_spec (A : Option Addr) (n c : Nat) (l : List Int) (w : World) (ha : Has (sl 1 A n (ints .i64 l)) w) (hn : n ≤ 1000000) (hr : ∀ j, j < l.length → 0 ≤ l.getD j 0 ∧ l.getD j 0 ≤ 2048) : SpecB Tryd.prog 153 [.slice A n c] w (bys (sumF (eX l) l.length)) := by
  have hla := ints_len ha
  subst hla
  refine spec_of Tryd.func153 rfl Tryd.ntmps153 rfl ?_
  refine CW.seq ?_
  refine CW.reg [0] rfl ?_
  refine s_as 2 rfl rfl ?_
  refine SX.next ?_
  refine CW.seq ?_
  refine CW.reg [0] rfl ?_
  refine s_as 3 rfl rfl ?_
  refine SX.next ?_
  refine CW.seq ?_
  refine CW.seq ?_
  refine CW.reg [0] rfl ?_
  refine s_as 4 rfl rfl ?_
  refine SX.next ?_
  refine CW.block ?_
  refine CW.loop (G := Nat × Nat) (fun q => [(0, .slice A l.length c), (3, .int .i64 (q.2 : Nat)), (4, .int .i64 (q.1 : Nat))]) (fun _ => Sto w []) (fun q => (q.1 ≤ l.length ∧ q.2 ≤ 2048) ∧ ∀ j, j < q.1 → (l.getD j 0).toNat ≤ q.2) (fun q => l.length - q.1) (0, 0) ⟨rfl, rfl, rfl, trivial⟩ (fun _ h => h) ⟨⟨Nat.zero_le _, Nat.zero_le _⟩, fun j hj => by simp at hj⟩ ?_
  rintro ⟨i, M⟩ ⟨⟨hi, hM⟩, hmx⟩
  simp only at hi hM hmx
  dsimp only
  refine CW.seq ?_
  refine CW.seq ?_
  refine CW.reg [0, 1, 2, 3] rfl ?_
  refine s_mv 7 rfl rfl ?_
  refine s_mv 8 rfl rfl ?_
  refine s_len 9 rfl rfl ?_
  refine s_lt 10 rfl rfl rfl rfl ?_
  refine SX.next ?_
  refine CW.test rfl (fun hc => ?_) (fun hc => ?_)
  · skip
    obtain ⟨k, hk⟩ := Int.eq_ofNat_of_zero_le (hr i (by omega)).1
    have hk2 : k ≤ 2048 := by have := (hr i (by omega)).2; omega
    refine CW.skip ?_
    refine KN.code ?_
    refine CW.seq ?_
    refine CW.block ?_
    refine CW.reg [0, 1, 2, 3, 4, 5, 6] rfl ?_
    refine s_mv 13 rfl rfl ?_
    refine s_mv 14 rfl rfl ?_
    refine s_mv 15 rfl rfl ?_
    refine s_iaV 16 i (fun w hw => hw.old ha) rfl rfl rfl rfl (by omega) ?_
    refine s_ldV 17 (v := .int .i64 (k : Nat)) (fun w hw => hw.old ha) rfl rfl (by rw [Nat.mul_one, intsAt (by omega), hk]) (by omega) ?_
    refine s_max 18 rfl rfl rfl (r := ((max M k : Nat) : Int)) (by split <;> omega) ?_
    refine s_as 3 rfl rfl ?_
    refine SX.end_ ?_
    refine KN.blk ?_
    refine KN.code ?_
    refine CW.reg [0, 1, 2] rfl ?_
    refine s_mv 11 rfl rfl ?_
    refine s_add 12 rfl rfl rfl (r := ((i + 1 : Nat) : Int)) (w64 (by omega)) ?_
    refine s_as 4 rfl rfl ?_
    refine SX.end_ ?_
    exact KN.back (i + 1, max M k) ⟨rfl, rfl, rfl, trivial⟩ (fun _ h => h) ⟨⟨by simp only; omega, by simp only; omega⟩, fun j hj => by
  simp only at hj ⊢
  by_cases h : j = i
  · subst h; rw [hk, Int.toNat_natCast]; omega
  · have := hmx j (by omega); omega⟩ (by simp only; omega)
  · skip
    obtain rfl : i = l.length := by omega
    refine CW.exit rfl ?_
    refine KN.code ?_
    refine CW.seq ?_
    refine CW.reg [0, 1, 2, 3] rfl ?_
    refine s_mv 19 rfl rfl ?_
    refine s_add 20 rfl rfl rfl (r := ((M + 1 : Nat) : Int)) (w64 (by omega)) ?_
    refine s_make 21 (M + 1) rfl rfl rfl rfl rfl (by omega) (fun _ _ => trivial) (fun go => ?_)
    refine s_as 5 rfl rfl ?_
    refine SX.next ?_
    refine CW.seq ?_
    refine CW.seq ?_
    refine CW.reg [0] rfl ?_
    refine s_as 6 rfl rfl ?_
    refine SX.next ?_
    refine CW.block ?_
    refine CW.loop (G := Nat) (fun i => [(0, .slice A l.length c), (5, .slice (some ⟨go, 0, none⟩) (M + 1) (M + 1)), (6, .int .i64 (i : Nat))]) (fun i => Sto w [blk go 3 (ints .i64 (tabN (M + 1) (cf (sumF (eX l) i)))).toArray]) (fun i => i ≤ l.length) (fun i => l.length - i) 0 ⟨rfl, rfl, rfl, trivial⟩ (fun _ h => by rw [show tabN (M + 1) (cf (sumF (eX l) 0)) = tab (M + 1) (fun _ => 0) from tab_cong (fun j _ => by rw [show sumF (eX l) 0 = [] from rfl, cf_nil]; rfl), ← tab_zero]; exact h) (Nat.zero_le _) ?_
    intro i hi
    refine CW.seq ?_
    refine CW.seq ?_
    refine CW.reg [0, 1, 2, 3] rfl ?_
    refine s_mv 22 rfl rfl ?_
    refine s_mv 23 rfl rfl ?_
    refine s_len 24 rfl rfl ?_
    refine s_lt 25 rfl rfl rfl rfl ?_
    refine SX.next ?_
    refine CW.test rfl (fun hc => ?_) (fun hc => ?_)
    · skip
      obtain ⟨k, hk⟩ := Int.eq_ofNat_of_zero_le (hr i (by omega)).1
      have hkM : k ≤ M := by have := hmx i (by omega); rw [hk, Int.toNat_natCast] at this; exact this
      have htw := (sumF_b1 (eX_b1 l) i).le k
      refine CW.skip ?_
      refine KN.code ?_
      refine CW.seq ?_
      refine CW.block ?_
      refine CW.regD (.st true 0 (.st true 1 (.st true 2 (.st true 3 (.st true 4 (.st true 5 (.st true 6 (.st true 7 (.st true 8 (.st true 9 (.st true 10 (.st false 11 (.st true 12 (.st true 13 (.st false 14 .done))))))))))))))) (Sto w []) mixed (by kernel_rfl) (fun _ h => h.drew) (fun _ h => h.pick [] rfl) ?_
      refine s_mv 28 rfl rfl ?_
      refine s_mv 29 rfl rfl ?_
      refine s_mv 30 rfl rfl ?_
      refine s_iaV 31 i (fun w hw => hw.old ha) rfl rfl rfl rfl (by omega) ?_
      refine s_ldVS 32 (v := .int .i64 (k : Nat)) (fun w hw => hw.old ha) rfl rfl (by rw [Nat.mul_one, intsAt (by omega), hk]) (by omega) ?_
      refine s_mv 33 rfl rfl ?_
      refine s_mv 34 rfl rfl ?_
      refine s_mv 35 rfl rfl ?_
      refine s_iaV 36 i (fun w hw => hw.old ha) rfl rfl rfl rfl (by omega) ?_
      refine s_ldVS 37 (v := .int .i64 (k : Nat)) (fun w hw => hw.old ha) rfl rfl (by rw [Nat.mul_one, intsAt (by omega), hk]) (by omega) ?_
      refine s_ia0 38 k rfl rfl rfl rfl (by omega) ?_
      refine s_ldB 39 0 rfl rfl rfl (v := .int .i64 (cf (sumF (eX l) i) k : Nat)) (by unfold tabN; exact tab_atA (by omega)) ?_
      refine s_bit 40 rfl rfl rfl rfl (ibit_xor_nat (y := 1) (by omega) (by omega)) ?_
      refine s_ia0 41 k rfl rfl rfl rfl (by omega) ?_
      refine s_stB 0 rfl rfl rfl rfl rfl (by rw [show (ints .i64 (tabN (M + 1) (cf (sumF (eX l) i)))).toArray.size = M + 1 from tab_size]; omega) (fun _ h => h.pick [] rfl) ?_
      refine SX.end_ ?_
      refine KN.blk ?_
      refine KN.code ?_
      refine CW.reg [0, 1, 2] rfl ?_
      refine s_mv 26 rfl rfl ?_
      refine s_add 27 rfl rfl rfl (r := ((i + 1 : Nat) : Int)) (w64 (by omega)) ?_
      refine s_as 6 rfl rfl ?_
      refine SX.end_ ?_
      exact KN.back (i + 1) ⟨rfl, rfl, rfl, trivial⟩ (fun _ h => by rw [← toggle_next hk, ← tabN_set]; exact h) (by omega) (by omega)
    · skip
      obtain rfl : i = l.length := by omega
      have hnt := nzP_tab hmx
      have htl := tabN_len (M + 1) (cf (sumF (eX l) l.length))
      refine CW.exit rfl ?_
      refine KN.code ?_
      refine CW.seq ?_
      refine CW.reg [0, 1, 2] rfl ?_
      refine s_mv 42 rfl rfl ?_
      refine s_call 43 rfl rfl rfl rfl (fun w hw => by have := rbits_spec (some ⟨go, 0, none⟩) (M + 1) (M + 1) (tabN (M + 1) (cf (sumF (eX l) l.length))) w (Has.cong ((hw.has (i := 0) rfl).blk_sl (m := M + 1) (by exact tab_size.trans (Nat.mul_one _).symm)) rfl) (by omega); rw [hnt] at this; exact this) (fun _ _ => trivial) (fun q hq => ?_)
      refine s_as 2 rfl rfl ?_
      refine SX.next ?_
      refine CW.ret ?_
      exact KN.ret (rs := [.tmp 2]) Tryd.results153 rfl (fun w hw => ⟨q, rfl, hq, hw.pick [0] rfl⟩)
end Go.Proofs.YtcdmmfpgeagimaaDoor
end
section
/- The document's bits, products of bits, minimal polynomials, walked. Conditions: an m that may be; the lists are read where they lie. -/
namespace Go.Proofs.YtcdmmfpgeagimaaDoor
open Go Go.Sx Go.Fm Nb
set_option maxRecDepth 100000
theorem tr_len_le2 {m : Nat} {a : List Nat} (h : Tr m a) {n : Nat} (hz : ∀ j, n ≤ j → cf a j = 0) : a.length ≤ n := Nat.le_of_not_lt fun hl => h.top (by omega) (hz _ (by omega))
theorem mulF_skip {a b : List Nat} {i : Nat} (h : cf a i = 0) (j : Nat) : mulF 3 a b i 0 j = mulF 3 a b (i + 1) 0 j := by
  rw [← mulF_row 3 a b i b.length (Nat.le_refl _) j]
  unfold mulF
  rw [h, gm_zero_left, ite_self, ite_self]
theorem mul_bits {a b : List Nat} (ha : B1 a) (hb : B1 b) : nzP (tab (a.length + b.length - 1) (mulF 3 a b a.length 0)) (tab (a.length + b.length - 1) (mulF 3 a b a.length 0)).length = mulP 3 a b := by
  have hm := mulP_b1 ha hb
  refine (nzP_b1 _ _).tr.ext hm.tr (fun j => ?_)
  have h1 := mul_all ok3 (a := a) (b := b) ha.tr.lt
  have h2 : cf (mulP 3 a b) j = lo 3 ((tab (a.length + b.length - 1) (mulF 3 a b a.length 0)).getD j 0) := by
    rw [← h1, cf_trim]; exact cf_low _ _ _
  have h3 := hm.le j
  rw [cf_nzP, tab_len]
  rw [tab_getD] at h2
  split
  · rename_i hj
    rw [if_pos hj] at h2
    obtain ⟨z, hz, e⟩ := mulF_bd ok3 (b := b) ha.tr.lt a.length 0 j
    rw [e, lo_nat hz] at h2
    unfold nzF
    rw [tab_getD, if_pos hj, e, h2]
    split <;> omega
  · rename_i hj
    rw [if_neg hj, lo_zero] at h2
    rw [h2]

theorem rbit_spec (A : Option Addr) (n c : Nat) (p : List Nat) (i : Int) (w : World) (ha : Has (sl 1 A n (nats .u8 p)) w) (hp : ∀ x ∈ p, x < 256) (hn : n ≤ 1073741824) (hcp : n ≤ c) (hi : i ≤ 9223372036854775807) : Spec1 Tryd.prog 96 [.slice A n c, .int .i64 i] w (.int .i64 (bitI p i : Nat)) := by
  have hla := nats_len ha
  subst hla
  have hbi := bitI_lt p i
  refine spec_of Tryd.func96 rfl Tryd.ntmps96 rfl ?_
  refine CW.seq ?_
  refine CW.reg [0] rfl ?_
  refine s_as 4 rfl rfl ?_
  refine SX.next ?_
  refine CW.seq ?_
  refine CW.seq ?_
  refine CW.reg [0, 1, 2, 3, 4, 5, 6, 7, 8] rfl ?_
  refine s_mv 5 rfl rfl ?_
  refine s_lt 6 rfl rfl rfl rfl ?_
  refine s_mv 7 rfl rfl ?_
  refine SX.bool 7 rfl (fun hb => ?_) (fun hb => ?_)
  · skip
    replace hb := of_decide_eq_true hb
    have hz : bitI p i = 0 := if_pos hb
    refine SX.skip rfl ?_
    refine SX.skip rfl ?_
    refine SX.skip rfl ?_
    refine SX.skip rfl ?_
    refine SX.skip rfl ?_
    refine s_pickT 13 rfl rfl rfl ?_
    refine SX.next ?_
    refine CW.condT rfl ?_
    refine CW.seq ?_
    refine CW.reg [0] rfl ?_
    refine s_as 4 rfl rfl ?_
    refine SX.next ?_
    refine CW.ret ?_
    exact KN.ret (rs := [.tmp 4]) Tryd.results96 rfl (fun w hw => ⟨by rw [hz]; rfl, hw.nothing⟩)
  · skip
    replace hb := of_decide_eq_false hb
    obtain ⟨j, rfl⟩ := Int.eq_ofNat_of_zero_le (show 0 ≤ i by omega)
    have hbj := bitI_nat p j
    refine s_mv 8 rfl rfl ?_
    refine s_quo 9 rfl rfl rfl (by omega) (quo8 j (by omega)) ?_
    refine s_mv 10 rfl rfl ?_
    refine s_len 11 rfl rfl ?_
    refine s_ge 12 rfl rfl rfl rfl ?_
    refine s_pickF 13 rfl rfl rfl ?_
    refine SX.next ?_
    refine CW.test rfl (fun hc2 => ?_) (fun hc2 => ?_)
    · skip
      have hz : bitI p j = 0 := by rw [hbj]; exact bitN_out (by omega)
      refine CW.seq ?_
      refine CW.reg [0] rfl ?_
      refine s_as 4 rfl rfl ?_
      refine SX.next ?_
      refine CW.ret ?_
      exact KN.ret (rs := [.tmp 4]) Tryd.results96 rfl (fun w hw => ⟨by rw [hz]; rfl, hw.nothing⟩)
    · skip
      refine CW.skip ?_
      refine KN.code ?_
      refine CW.seq ?_
      refine CW.reg [0, 1, 2, 3, 4, 5, 6, 7, 8, 9, 10, 11] rfl ?_
      refine s_mv 14 rfl rfl ?_
      refine s_mv 15 rfl rfl ?_
      refine s_quo 16 rfl rfl rfl (by omega) (quo8 j (by omega)) ?_
      refine s_iaV 17 (j / 8) (fun w hw => hw.old ha) rfl rfl rfl rfl (by omega) ?_
      refine s_ldV 18 (fun w hw => hw.old ha) rfl rfl (by rw [Nat.mul_one]; exact natsAt8 (by omega)) (by omega) ?_
      refine s_mv 19 rfl rfl ?_
      refine s_rem 20 rfl rfl rfl (by omega) (tmod8 j) ?_
      refine s_conv 21 rfl rfl (r := ((j % 8 : Nat) : Int)) (wu64 (by omega)) ?_
      refine s_shr 22 rfl rfl rfl (by omega) (shr_u8 (by omega)) ?_
      have hsh := Nat.lt_of_le_of_lt (Nat.shiftRight_le (cf p (j / 8)) (j % 8)) (cf_lt8 hp (j / 8))
      refine s_conv 23 rfl rfl (r := ((cf p (j / 8) >>> (j % 8) : Nat) : Int)) (by generalize cf p (j / 8) >>> (j % 8) = z at hsh ⊢; exact w64 (by omega)) ?_
      refine s_bit 24 rfl rfl rfl rfl (r := ((bitI p j : Nat) : Int)) (by rw [hbj]; exact ibit_and_one (Nat.lt_trans hsh (by decide))) ?_
      refine s_as 4 rfl rfl ?_
      refine SX.next ?_
      refine CW.ret ?_
      exact KN.ret (rs := [.tmp 4]) Tryd.results96 rfl (fun w hw => ⟨rfl, hw.nothing⟩)

theorem rBit_spec (A : Option Addr) (n c : Nat) (p : List Nat) (i : Int) (w : World) (ha : Has (sl 1 A n (nats .u8 p)) w) (hp : ∀ x ∈ p, x < 256) (hn : n ≤ 1073741824) (hcp : n ≤ c) (hi : i ≤ 9223372036854775807) : Spec1 Tryd.prog 33 [.slice A n c, .int .i64 i] w (.int .i64 (bitI p i : Nat)) := by
  refine spec_of Tryd.func33 rfl Tryd.ntmps33 rfl ?_
  refine CW.seq ?_
  refine CW.reg [0] rfl ?_
  refine s_as 4 rfl rfl ?_
  refine SX.next ?_
  refine CW.seq ?_
  refine CW.reg [0, 1, 2, 3] rfl ?_
  refine s_mv 5 rfl rfl ?_
  refine s_mv 6 rfl rfl ?_
  refine s_call1 7 rfl rfl rfl rfl (fun w hw => rbit_spec A n c p i w (hw.old ha) hp hn hcp hi) (fun _ _ => trivial) ?_
  refine s_as 4 rfl rfl ?_
  refine SX.next ?_
  refine CW.ret ?_
  exact KN.ret (rs := [.tmp 4]) Tryd.results33 rfl (fun w hw => ⟨rfl, hw.nothing⟩)

theorem rdeg_spec (A : Option Addr) (n c : Nat) (p : List Nat) (w : World) (ha : Has (sl 1 A n (nats .u8 p)) w) (hp : ∀ x ∈ p, x < 256) (hn : n ≤ 1073741824) (hcp : n ≤ c) : Spec1 Tryd.prog 31 [.slice A n c] w (.int .i64 (((bl p).length : Nat) - 1 : Int)) := by
  have hla := nats_len ha
  subst hla
  have hbl := bl_len p
  have hbt := (bl_b1 p).tr
  refine spec_of Tryd.func31 rfl Tryd.ntmps31 rfl ?_
  refine CW.seq ?_
  refine CW.reg [0] rfl ?_
  refine s_as 2 rfl rfl ?_
  refine SX.next ?_
  refine CW.seq ?_
  refine CW.seq ?_
  refine CW.reg [0, 1, 2, 3, 4] rfl ?_
  refine s_mv 4 rfl rfl ?_
  refine s_len 5 rfl rfl ?_
  refine s_mul 6 rfl rfl rfl (r := ((8 * p.length : Nat) : Int)) (by rw [show (8 : Int) * ((p.length : Nat) : Int) = ((8 * p.length : Nat) : Int) by omega]; exact w64 (by omega)) ?_
  refine s_sub 7 rfl rfl rfl (r := ((8 * p.length : Nat) : Int) - 1) (w64 (by omega)) ?_
  refine s_as 3 rfl rfl ?_
  refine SX.next ?_
  refine CW.block ?_
  refine CW.loop (G := Nat) (fun k => [(0, .slice A p.length c), (3, .int .i64 ((k : Nat) - 1))]) (fun _ => Sto w []) (fun k => k ≤ 8 * p.length ∧ ∀ j, k ≤ j → cf (bl p) j = 0) (fun k => k) (8 * p.length) ⟨rfl, rfl, trivial⟩ (fun _ h => h) ⟨Nat.le_refl _, fun j hj => cf_out (by omega)⟩ ?_
  intro k hk0
  obtain ⟨hk1, hk2⟩ := hk0
  refine CW.seq ?_
  refine CW.seq ?_
  refine CW.reg [0, 1] rfl ?_
  refine s_mv 8 rfl rfl ?_
  refine s_ge 9 rfl rfl rfl rfl ?_
  refine SX.next ?_
  refine CW.test rfl (fun hc => ?_) (fun hc => ?_)
  · skip
    refine CW.skip ?_
    refine KN.code ?_
    refine CW.seq ?_
    refine CW.block ?_
    refine CW.seq ?_
    refine CW.reg [0, 1, 2, 3] rfl ?_
    refine s_mv 12 rfl rfl ?_
    refine s_mv 13 rfl rfl ?_
    refine s_call1 14 rfl rfl rfl rfl (v := .int .i64 (cf (bl p) (k - 1) : Nat)) (fun w hw => by have := rbit_spec A p.length c p (k - 1 : Nat) w (hw.old ha) hp hn hcp (by omega); rw [bitI_nat, ← cf_bl, show ((k - 1 : Nat) : Int) = (k : Nat) - 1 by omega] at this; exact this) (fun _ _ => trivial) ?_
    refine s_eq 15 rfl rfl rfl rfl ?_
    refine SX.next ?_
    refine CW.test rfl (fun hc => ?_) (fun hc => ?_)
    · skip
      have hd : (bl p).length = k := Nat.le_antisymm (tr_len_le2 hbt hk2) (Nat.le_of_not_lt fun h => by have := cf_out (l := bl p) (j := k - 1) (by omega); omega)
      refine CW.seq ?_
      refine CW.reg [0, 1] rfl ?_
      refine s_mv 16 rfl rfl ?_
      refine s_as 2 rfl rfl ?_
      refine SX.next ?_
      refine CW.ret ?_
      exact KN.ret (rs := [.tmp 2]) Tryd.results31 rfl (fun w hw => ⟨by rw [hd]; rfl, hw.nothing⟩)
    · skip
      refine CW.skip ?_
      refine KN.blk ?_
      refine KN.code ?_
      refine CW.reg [0, 1, 2] rfl ?_
      refine s_mv 10 rfl rfl ?_
      refine s_sub 11 rfl rfl rfl (r := ((k - 1 : Nat) : Int) - 1) (by rw [show ((k : Nat) : Int) - 1 - 1 = ((k - 1 : Nat) : Int) - 1 by omega]; exact w64 (by omega)) ?_
      refine s_as 3 rfl rfl ?_
      refine SX.end_ ?_
      exact KN.back (k - 1) ⟨rfl, rfl, trivial⟩ (fun _ h => h) ⟨by omega, fun j hj => by
  by_cases h : j = k - 1
  · subst h; have := (bl_b1 p).le (k - 1); omega
  · exact hk2 j (by omega)⟩ (by omega)
  · skip
    have hd : (bl p).length = 0 := Nat.le_zero.1 (tr_len_le2 hbt (fun j _ => hk2 j (by omega)))
    refine CW.exit rfl ?_
    refine KN.code ?_
    refine CW.seq ?_
    refine CW.reg [0] rfl ?_
    refine s_as 2 rfl rfl ?_
    refine SX.next ?_
    refine CW.ret ?_
    exact KN.ret (rs := [.tmp 2]) Tryd.results31 rfl (fun w hw => ⟨by rw [hd]; rfl, hw.nothing⟩)

theorem rbinmul_spec (A : Option Addr) (n c : Nat) (p : List Nat) (A2 : Option Addr) (n2 c2 : Nat) (p2 : List Nat) (w : World) (ha : Has (sl 1 A n (nats .u8 p)) w) (hp : ∀ x ∈ p, x < 256) (hn : n ≤ 1073741824) (hcp : n ≤ c) (ha2 : Has (sl 1 A2 n2 (nats .u8 p2)) w) (hp2 : ∀ x ∈ p2, x < 256) (hn2 : n2 ≤ 1073741824) (hcp2 : n2 ≤ c2) (hsz : (bl p).length + (bl p2).length ≤ 1000000) : SpecB Tryd.prog 38 [.slice A n c, .slice A2 n2 c2] w (bys (mulP 3 (bl p) (bl p2))) := by
  have hla := nats_len ha
  subst hla
  have hla2 := nats_len ha2
  subst hla2
  have hA := bl_b1 p
  have hB := bl_b1 p2
  have hdp := rdeg_spec A p.length c p
  have hdq := rdeg_spec A2 p2.length c2 p2
  generalize ea : bl p = a at *
  generalize eb : bl p2 = b at *
  refine spec_of Tryd.func38 rfl Tryd.ntmps38 rfl ?_
  refine CW.seq ?_
  refine CW.reg [0] rfl ?_
  refine s_as 4 rfl rfl ?_
  refine SX.next ?_
  refine CW.seq ?_
  refine CW.reg [0, 1, 2] rfl ?_
  refine s_mv 10 rfl rfl ?_
  refine s_call1 11 rfl rfl rfl rfl (fun w hw => hdp w (hw.old ha) hp hn hcp) (fun _ _ => trivial) ?_
  refine s_as 5 rfl rfl ?_
  refine SX.next ?_
  refine CW.seq ?_
  refine CW.reg [0, 1, 2] rfl ?_
  refine s_mv 12 rfl rfl ?_
  refine s_call1 13 rfl rfl rfl rfl (fun w hw => hdq w (hw.old ha2) hp2 hn2 hcp2) (fun _ _ => trivial) ?_
  refine s_as 6 rfl rfl ?_
  refine SX.next ?_
  refine CW.seq ?_
  refine CW.seq ?_
  refine CW.reg [0, 1, 2, 3, 4, 5] rfl ?_
  refine s_mv 14 rfl rfl ?_
  refine s_lt 15 rfl rfl rfl rfl ?_
  refine s_mv 16 rfl rfl ?_
  refine SX.bool 16 rfl (fun hb => ?_) (fun hb => ?_)
  · skip
    replace hb := of_decide_eq_true hb
    have ha0 : a = [] := List.eq_nil_of_length_eq_zero (by omega)
    have hz : mulP 3 a b = [] := by rw [ha0, mulP_nil_l]
    refine SX.skip rfl ?_
    refine SX.skip rfl ?_
    refine s_pickT 19 rfl rfl rfl ?_
    refine SX.next ?_
    refine CW.condT rfl ?_
    refine CW.seq ?_
    refine CW.reg [0] rfl ?_
    refine s_as 4 rfl rfl ?_
    refine SX.next ?_
    refine CW.ret ?_
    exact KN.ret (rs := [.tmp 4]) Tryd.results38 rfl (fun w hw => ⟨(none, 0), by rw [hz]; rfl, by rw [hz]; exact Nat.le_refl _, by rw [hz]; exact (hw.pick [] rfl).begin_ _ 1⟩)
  · skip
    replace hb := of_decide_eq_false hb
    refine s_mv 17 rfl rfl ?_
    refine s_lt 18 rfl rfl rfl rfl ?_
    refine s_pickF 19 rfl rfl rfl ?_
    refine SX.next ?_
    refine CW.test rfl (fun hc2 => ?_) (fun hc2 => ?_)
    · skip
      have hb0 : b = [] := List.eq_nil_of_length_eq_zero (by omega)
      have hz : mulP 3 a b = [] := by rw [hb0, mulP_nil_r]
      refine CW.seq ?_
      refine CW.reg [0] rfl ?_
      refine s_as 4 rfl rfl ?_
      refine SX.next ?_
      refine CW.ret ?_
      exact KN.ret (rs := [.tmp 4]) Tryd.results38 rfl (fun w hw => ⟨(none, 0), by rw [hz]; rfl, by rw [hz]; exact Nat.le_refl _, by rw [hz]; exact (hw.pick [] rfl).begin_ _ 1⟩)
    · skip
      refine CW.skip ?_
      refine KN.code ?_
      refine CW.seq ?_
      refine CW.reg [0, 1, 2, 3, 4, 5] rfl ?_
      refine s_mv 20 rfl rfl ?_
      refine s_mv 21 rfl rfl ?_
      refine s_add 22 rfl rfl rfl (r := ((a.length : Nat) : Int) - 1 + ((b.length : Nat) - 1)) (w64 (by omega)) ?_
      refine s_add 23 rfl rfl rfl (r := (((a.length + b.length - 1) : Nat) : Int)) (by rw [show ((a.length : Nat) : Int) - 1 + ((b.length : Nat) - 1) + 1 = (((a.length + b.length - 1) : Nat) : Int) by omega]; exact w64 (by omega)) ?_
      refine s_make 24 (a.length + b.length - 1) rfl rfl rfl rfl rfl (by omega) (fun _ _ => trivial) (fun go => ?_)
      refine s_as 7 rfl rfl ?_
      refine SX.next ?_
      refine CW.seq ?_
      refine CW.seq ?_
      refine CW.reg [0] rfl ?_
      refine s_as 8 rfl rfl ?_
      refine SX.next ?_
      refine CW.block ?_
      refine CW.loop (G := Nat) (fun i => [(0, .slice A p.length c), (1, .slice A2 p2.length c2), (5, .int .i64 ((a.length : Nat) - 1)), (6, .int .i64 ((b.length : Nat) - 1)), (7, .slice (some ⟨go, 0, none⟩) (a.length + b.length - 1) (a.length + b.length - 1)), (8, .int .i64 (i : Nat))]) (fun i => Sto w [blk go 3 (ints .i64 (tab (a.length + b.length - 1) (mulF 3 a b i 0))).toArray]) (fun i => i ≤ a.length) (fun i => a.length - i) 0 ⟨rfl, rfl, rfl, rfl, rfl, rfl, trivial⟩ (fun _ h => by rw [show tab (a.length + b.length - 1) (mulF 3 a b 0 0) = tab (a.length + b.length - 1) (fun _ => 0) from tab_cong (fun j _ => mulF_zero 3 a b j), ← tab_zero]; exact h) (Nat.zero_le _) ?_
      intro i hi
      have hai := hA.le i
      refine CW.seq ?_
      refine CW.seq ?_
      refine CW.reg [0, 1, 2] rfl ?_
      refine s_mv 25 rfl rfl ?_
      refine s_mv 26 rfl rfl ?_
      refine s_le 27 rfl rfl rfl rfl ?_
      refine SX.next ?_
      refine CW.test rfl (fun hc => ?_) (fun hc => ?_)
      · skip
        refine CW.skip ?_
        refine KN.code ?_
        refine CW.seq ?_
        refine CW.block ?_
        refine CW.seq ?_
        refine CW.seq ?_
        refine CW.reg [0, 1, 2, 3] rfl ?_
        refine s_mv 30 rfl rfl ?_
        refine s_mv 31 rfl rfl ?_
        refine s_call1 32 rfl rfl rfl rfl (v := .int .i64 (cf a i : Nat)) (fun w hw => by have := rbit_spec A p.length c p (i : Nat) w (hw.old ha) hp hn hcp (by omega); rw [bitI_nat, ← cf_bl, ea] at this; exact this) (fun _ _ => trivial) ?_
        refine s_eq 33 rfl rfl rfl rfl ?_
        refine SX.next ?_
        refine CW.test rfl (fun hc3 => ?_) (fun hc3 => ?_)
        · skip
          have hsk := mulF_skip (a := a) (b := b) (i := i) (by omega)
          refine CW.exit rfl ?_
          refine KN.code ?_
          refine CW.reg [0, 1, 2] rfl ?_
          refine s_mv 28 rfl rfl ?_
          refine s_add 29 rfl rfl rfl (r := ((i + 1 : Nat) : Int)) (w64 (by omega)) ?_
          refine s_as 8 rfl rfl ?_
          refine SX.end_ ?_
          exact KN.back (i + 1) ⟨rfl, rfl, rfl, rfl, rfl, rfl, trivial⟩ (fun _ h => by rw [← tab_cong (fun j _ => hsk j)]; exact h) (by omega) (by omega)
        · skip
          have ha1 : cf a i = 1 := by omega
          refine CW.skip ?_
          refine KN.code ?_
          refine CW.seq ?_
          refine CW.reg [0] rfl ?_
          refine s_as 9 rfl rfl ?_
          refine SX.next ?_
          refine CW.block ?_
          refine CW.loop (G := Nat) (fun k => [(0, .slice A p.length c), (1, .slice A2 p2.length c2), (5, .int .i64 ((a.length : Nat) - 1)), (6, .int .i64 ((b.length : Nat) - 1)), (7, .slice (some ⟨go, 0, none⟩) (a.length + b.length - 1) (a.length + b.length - 1)), (8, .int .i64 (i : Nat)), (9, .int .i64 (k : Nat))]) (fun k => Sto w [blk go 3 (ints .i64 (tab (a.length + b.length - 1) (mulF 3 a b i k))).toArray]) (fun k => k ≤ b.length) (fun k => b.length - k) 0 ⟨rfl, rfl, rfl, rfl, rfl, rfl, rfl, trivial⟩ (fun _ h => h) (Nat.zero_le _) ?_
          intro k hk2
          have hbk := hB.tr.c k
          have hg1 : gm 3 (cf a i) (cf b k) = cf b k := by rw [ha1]; exact gm_one_left ok3 hbk
          refine CW.seq ?_
          refine CW.seq ?_
          refine CW.reg [0, 1, 2] rfl ?_
          refine s_mv 34 rfl rfl ?_
          refine s_mv 35 rfl rfl ?_
          refine s_le 36 rfl rfl rfl rfl ?_
          refine SX.next ?_
          refine CW.test rfl (fun hc => ?_) (fun hc => ?_)
          · skip
            refine CW.skip ?_
            refine KN.code ?_
            refine CW.seq ?_
            refine CW.block ?_
            refine CW.regD (.st true 0 (.st true 1 (.st true 2 (.st true 3 (.st true 4 (.st true 5 (.st true 6 (.st true 7 (.st true 8 (.st true 10 (.st true 11 (.alt 9 (.st false 12 (.st true 13 (.st true 14 (.st false 15 .done)))) (.st false 12 (.st false 9 (.st true 13 (.st true 14 (.st false 15 .done))))))))))))))))) (Sto w []) mixed (by kernel_rfl) (fun _ h => h.drew) (fun _ h => h.pick [] rfl) ?_
            refine s_mv 39 rfl rfl ?_
            refine s_mv 40 rfl rfl ?_
            refine s_mv 41 rfl rfl ?_
            refine s_add 42 rfl rfl rfl (r := ((i + k : Nat) : Int)) (w64 (by omega)) ?_
            refine s_mv 43 rfl rfl ?_
            refine s_mv 44 rfl rfl ?_
            refine s_mv 45 rfl rfl ?_
            refine s_add 46 rfl rfl rfl (r := ((i + k : Nat) : Int)) (w64 (by omega)) ?_
            refine s_ia0 47 (i + k) rfl rfl rfl rfl (by omega) ?_
            refine s_mv 49 rfl rfl ?_
            refine s_mv 50 rfl rfl ?_
            refine SX.alt ?_ ?_
            · skip
              refine s_ldB 48 0 rfl rfl rfl (tab_atA (by omega)) ?_
              refine s_call1 51 rfl rfl rfl rfl (v := .int .i64 (cf b k : Nat)) (fun w hw => by have := rbit_spec A2 p2.length c2 p2 (k : Nat) w (hw.old ha2) hp2 hn2 hcp2 (by omega); rw [bitI_nat, ← cf_bl, eb] at this; exact this) (fun _ h => h.pick [] rfl) ?_
              refine s_bit 52 rfl rfl rfl rfl (r := ibit .xor .i64 (mulF 3 a b i k (i + k)) (gm 3 (cf a i) (cf b k) : Nat)) (by rw [hg1]) ?_
              refine s_ia0 53 (i + k) rfl rfl rfl rfl (by omega) ?_
              refine s_stB 0 rfl rfl rfl rfl rfl (by rw [tab_size]; omega) (fun _ h => h.pick [] rfl) ?_
              refine SX.end_ ?_
              refine KN.blk ?_
              refine KN.code ?_
              refine CW.reg [0, 1, 2] rfl ?_
              refine s_mv 37 rfl rfl ?_
              refine s_add 38 rfl rfl rfl (r := ((k + 1 : Nat) : Int)) (w64 (by omega)) ?_
              refine s_as 9 rfl rfl ?_
              refine SX.end_ ?_
              exact KN.back (k + 1) ⟨rfl, rfl, rfl, rfl, rfl, rfl, rfl, trivial⟩ (fun _ h => by rw [← mulF_next ok3 hA.tr.lt, ← tab_set]; exact h) (by omega) (by omega)
            · skip
              refine s_call1 51 rfl rfl rfl rfl (v := .int .i64 (cf b k : Nat)) (fun w hw => by have := rbit_spec A2 p2.length c2 p2 (k : Nat) w (hw.old ha2) hp2 hn2 hcp2 (by omega); rw [bitI_nat, ← cf_bl, eb] at this; exact this) (fun _ h => h.pick [] rfl) ?_
              refine s_ldB 48 0 rfl rfl rfl (tab_atA (by omega)) ?_
              refine s_bit 52 rfl rfl rfl rfl (r := ibit .xor .i64 (mulF 3 a b i k (i + k)) (gm 3 (cf a i) (cf b k) : Nat)) (by rw [hg1]) ?_
              refine s_ia0 53 (i + k) rfl rfl rfl rfl (by omega) ?_
              refine s_stB 0 rfl rfl rfl rfl rfl (by rw [tab_size]; omega) (fun _ h => h.pick [] rfl) ?_
              refine SX.end_ ?_
              refine KN.blk ?_
              refine KN.code ?_
              refine CW.reg [0, 1, 2] rfl ?_
              refine s_mv 37 rfl rfl ?_
              refine s_add 38 rfl rfl rfl (r := ((k + 1 : Nat) : Int)) (w64 (by omega)) ?_
              refine s_as 9 rfl rfl ?_
              refine SX.end_ ?_
              exact KN.back (k + 1) ⟨rfl, rfl, rfl, rfl, rfl, rfl, rfl, trivial⟩ (fun _ h => by rw [← mulF_next ok3 hA.tr.lt, ← tab_set]; exact h) (by omega) (by omega)
          · skip
            obtain rfl : k = b.length := by omega
            refine CW.exit rfl ?_
            refine KN.blk ?_
            refine KN.code ?_
            refine CW.reg [0, 1, 2] rfl ?_
            refine s_mv 28 rfl rfl ?_
            refine s_add 29 rfl rfl rfl (r := ((i + 1 : Nat) : Int)) (w64 (by omega)) ?_
            refine s_as 8 rfl rfl ?_
            refine SX.end_ ?_
            exact KN.back (i + 1) ⟨rfl, rfl, rfl, rfl, rfl, rfl, trivial⟩ (fun _ h => by rw [← tab_cong (fun j _ => mulF_row 3 a b i b.length (Nat.le_refl _) j)]; exact h) (by omega) (by omega)
      · skip
        obtain rfl : i = a.length := by omega
        have hfin := mul_bits hA hB
        refine CW.exit rfl ?_
        refine KN.code ?_
        refine CW.seq ?_
        refine CW.reg [0, 1, 2] rfl ?_
        refine s_mv 54 rfl rfl ?_
        refine s_call 55 rfl rfl rfl rfl (fun w hw => by have := rbits_spec (some ⟨go, 0, none⟩) (a.length + b.length - 1) (a.length + b.length - 1) (tab (a.length + b.length - 1) (mulF 3 a b a.length 0)) w (Has.cong ((hw.has (i := 0) rfl).blk_sl (m := (a.length + b.length - 1)) (by exact tab_size.trans (Nat.mul_one _).symm)) rfl) (by omega); rw [hfin] at this; exact this) (fun _ _ => trivial) (fun q hq => ?_)
        refine s_as 4 rfl rfl ?_
        refine SX.next ?_
        refine CW.ret ?_
        exact KN.ret (rs := [.tmp 4]) Tryd.results38 rfl (fun w hw => ⟨q, rfl, hq, hw.pick [0] rfl⟩)

/-! ### The document's minimal polynomials -/
theorem lowL_lin {m : Nat} (hm : Ok m) (z : Int) : trim (lowL m [z, 1]) = [lo m z, 1] := by
  have e : lowL m [z, 1] = [lo m z, 1] := by show [lo m _, lo m 1] = _; rw [lo1 hm]
  rw [e, (lin_tr hm (lo_lt m z)).eq]
/-- The places at which there is 1. -/
def onesL (p : List Nat) : Nat → List Nat
  | 0 => []
  | k + 1 => if cf p k = 1 then onesL p k ++ [k] else onesL p k
theorem onesL_lt {p : List Nat} : ∀ {k x : Nat}, x ∈ onesL p k → x < k
  | 0, _, h => by cases h
  | k + 1, x, h => by
    unfold onesL at h
    split at h
    · rcases List.mem_append.1 h with h | h
      · have := onesL_lt h; omega
      · rw [List.mem_singleton.1 h]; omega
    · have := onesL_lt h; omega
theorem onesL_len (p : List Nat) : ∀ k, (onesL p k).length ≤ k
  | 0 => Nat.le_refl _
  | k + 1 => by
    have := onesL_len p k
    unfold onesL
    split
    · simp; omega
    · omega
theorem sumF_snoc (l : List Int) (x : Int) : sumF (eX (l ++ [x])) (l.length + 1) = addP (sumF (eX l) l.length) (xP x.toNat) := by
  show addP (sumF (eX (l ++ [x])) l.length) (eX (l ++ [x]) l.length) = _
  rw [sumF_congr (f := eX (l ++ [x])) (g := eX l) (fun j hj => by unfold eX; rw [List.getD_eq_getElem?_getD, List.getElem?_append_left hj, ← List.getD_eq_getElem?_getD])]
  congr 1
  unfold eX
  rw [List.getD_eq_getElem?_getD, List.getElem?_append_right (Nat.le_refl _), Nat.sub_self]
  rfl
theorem ones_cf (p : List Nat) (j : Nat) : ∀ k, cf (sumF (eX ((onesL p k).map Int.ofNat)) (onesL p k).length) j = if j < k ∧ cf p j = 1 then 1 else 0
  | 0 => by rw [if_neg (by omega)]; exact cf_nil j
  | k + 1 => by
    have ih := ones_cf p j k
    unfold onesL
    split
    · rename_i h1
      have h2 := sumF_snoc ((onesL p k).map Int.ofNat) (k : Int)
      rw [List.length_map] at h2
      rw [List.map_append, List.length_append]
      show cf (sumF (eX ((onesL p k).map Int.ofNat ++ [(k : Int)])) ((onesL p k).length + 1)) j = _
      rw [h2, cf_addP, ih, cf_xP, Int.toNat_natCast]
      by_cases hj : j = k
      · subst hj; rw [if_neg (by omega), if_pos rfl, if_pos ⟨by omega, h1⟩]; rfl
      · rw [if_neg hj, Nat.xor_zero]
        by_cases h3 : j < k ∧ cf p j = 1
        · rw [if_pos h3, if_pos ⟨by omega, h3.2⟩]
        · rw [if_neg h3, if_neg (by omega)]
    · rename_i h1
      rw [ih]
      by_cases h3 : j < k ∧ cf p j = 1
      · rw [if_pos h3, if_pos ⟨by omega, h3.2⟩]
      · rw [if_neg h3, if_neg (fun h => h3 ⟨by rcases Nat.lt_succ_iff_lt_or_eq.1 h.1 with h4 | h4; exact h4; subst h4; exact absurd h.2 h1, h.2⟩)]
theorem ones_all {p : List Nat} (hp : B1 p) : sumF (eX ((onesL p p.length).map Int.ofNat)) ((onesL p p.length).map Int.ofNat).length = p := by
  rw [List.length_map]
  refine (sumF_b1 (eX_b1 _) _).tr.ext hp.tr (fun j => ?_)
  rw [ones_cf]
  have := hp.le j
  by_cases h : j < p.length
  · by_cases h1 : cf p j = 1
    · rw [if_pos ⟨h, h1⟩, h1]
    · rw [if_neg (fun h2 => h1 h2.2)]; omega
  · rw [if_neg (fun h2 => h h2.1), cf_out (by omega)]
theorem ones_in {p : List Nat} {k : Nat} (hk : k ≤ 2048) : ∀ j, j < ((onesL p k).map Int.ofNat).length → 0 ≤ ((onesL p k).map Int.ofNat).getD j 0 ∧ ((onesL p k).map Int.ofNat).getD j 0 ≤ 2048 := fun j hj => by
  rw [List.length_map] at hj
  rw [List.getD_eq_getElem?_getD, List.getElem?_map, List.getElem?_eq_getElem hj]
  have := onesL_lt (List.getElem_mem hj)
  show 0 ≤ ((_ : Nat) : Int) ∧ ((_ : Nat) : Int) ≤ 2048
  omega

theorem rfrom_spec (m : Nat) (A : Option Addr) (n c : Nat) (l : List Int) (w : World) (hm : Ok m) (ha : Has (sl 1 A n (ints .i64 l)) w) (hn : n ≤ 100) : SpecL Tryd.prog 152 [.int .i64 (m : Nat), .slice A n c] w (frP m l l.length) := by
  have hla := ints_len ha
  subst hla
  refine spec_of Tryd.func152 rfl Tryd.ntmps152 rfl ?_
  refine CW.seq ?_
  refine CW.reg [0] rfl ?_
  refine s_as 4 rfl rfl ?_
  refine SX.next ?_
  refine CW.seq ?_
  refine CW.reg [0, 1] rfl ?_
  refine s_bsl 7 rfl rfl (cells := #[.int .i64 1]) (by kernel_rfl) rfl (fun _ _ => trivial) (fun gb => ?_)
  refine s_as 5 rfl rfl ?_
  refine SX.next ?_
  refine CW.seq ?_
  refine CW.seq ?_
  refine CW.reg [0] rfl ?_
  refine s_as 6 rfl rfl ?_
  refine SX.next ?_
  refine CW.block ?_
  refine CW.loop (G := Nat × Option Addr × Nat) (fun q => [(0, .int .i64 (m : Nat)), (1, .slice A l.length c), (5, .slice q.2.1 (frP m l q.1).length q.2.2), (6, .int .i64 (q.1 : Nat))]) (fun q => Sto w [own 3 1 q.2.1 (frP m l q.1).length q.2.2 (nats .i64 (frP m l q.1))]) (fun q => q.1 ≤ l.length ∧ (frP m l q.1).length ≤ q.2.2) (fun q => l.length - q.1) (0, some ⟨gb, 0, none⟩, 1) ⟨rfl, rfl, rfl, rfl, trivial⟩ (fun _ h => h.blkOwn (q := 0) (c := 1) rfl rfl (by unfold maxLen; omega)) ⟨Nat.zero_le _, Nat.le_refl _⟩ ?_
  rintro ⟨i, qa, qc⟩ ⟨hi, hqc⟩
  simp only at hi hqc
  dsimp only
  have hfl := frP_len m l i
  have hft := frP_tr hm l i
  have hnx := frP_next hm l i
  refine CW.seq ?_
  refine CW.seq ?_
  refine CW.reg [0, 1, 2, 3] rfl ?_
  refine s_mv 8 rfl rfl ?_
  refine s_mv 9 rfl rfl ?_
  refine s_len 10 rfl rfl ?_
  refine s_lt 11 rfl rfl rfl rfl ?_
  refine SX.next ?_
  refine CW.test rfl (fun hc => ?_) (fun hc => ?_)
  · skip
    have hil : i < l.length := by omega
    have hfs : mulP m (trim (lowL m ((frP m l i).map Int.ofNat))) (trim (lowL m [l.getD i 0, 1])) = (frP m l (i + 1)) := by rw [hft.low, lowL_lin hm]; exact hnx
    refine CW.skip ?_
    refine KN.code ?_
    refine CW.seq ?_
    refine CW.block ?_
    refine CW.reg [0, 1, 2, 3, 4, 5, 6, 7, 8] rfl ?_
    refine s_mv 14 rfl rfl ?_
    refine s_mv 15 rfl rfl ?_
    refine s_mv 16 rfl rfl ?_
    refine s_mv 17 rfl rfl ?_
    refine s_iaV 18 i (fun w hw => hw.old ha) rfl rfl rfl rfl (by omega) ?_
    refine s_ldV 19 (fun w hw => hw.old ha) rfl rfl (by rw [Nat.mul_one]; exact intsAt hil) (by omega) ?_
    refine s_bsl 20 rfl rfl (cells := #[.int .i64 (l.getD i 0), .int .i64 1]) (by kernel_rfl) rfl (fun _ _ => trivial) (fun g20 => ?_)
    refine s_call 21 rfl rfl rfl rfl (fun w hw => by have := rtimes_spec m qa (frP m l i).length qc ((frP m l i).map Int.ofNat) (some ⟨g20, 0, none⟩) 2 2 [l.getD i 0, 1] w hm (by rw [← nats_ints]; exact (hw.has (i := 1) rfl).of_own) (Has.cong ((hw.has (i := 0) rfl).blk_sl (m := 2) rfl) rfl) (by omega) (by omega); rw [hfs] at this; exact this) (fun _ _ => trivial) (fun q21 hq21 => ?_)
    refine s_as 5 rfl rfl ?_
    refine SX.end_ ?_
    refine KN.blk ?_
    refine KN.code ?_
    refine CW.reg [0, 1, 2] rfl ?_
    refine s_mv 12 rfl rfl ?_
    refine s_add 13 rfl rfl rfl (r := ((i + 1 : Nat) : Int)) (w64 (by omega)) ?_
    refine s_as 6 rfl rfl ?_
    refine SX.end_ ?_
    exact KN.back (i + 1, q21.1, q21.2) ⟨rfl, rfl, rfl, rfl, trivial⟩ (fun _ h => h.pick [0] rfl) ⟨by simp only; omega, hq21⟩ (by simp only; omega)
  · skip
    have hie : i = l.length := by omega
    subst hie
    refine CW.exit rfl ?_
    refine KN.code ?_
    refine CW.seq ?_
    refine CW.reg [0, 1] rfl ?_
    refine s_mv 22 rfl rfl ?_
    refine s_as 4 rfl rfl ?_
    refine SX.next ?_
    refine CW.ret ?_
    exact KN.ret (rs := [.tmp 4]) Tryd.results152 rfl (fun w hw => ⟨(qa, qc), rfl, hqc, hw⟩)

theorem rmin_spec (m : Nat) (i : Int) (w : World) (hm : Ok m) : SpecB Tryd.prog 142 [.int .i64 (m : Nat), .int .i64 i] w (bys (minP m (em m i))) := by
  have hmh := hm.hi
  have hcl := cos_len_pos hm (em m i)
  have hPB := minP_b1 hm (em m i)
  have hPl := minP_len hm (em m i)
  refine spec_of Tryd.func142 rfl Tryd.ntmps142 rfl ?_
  refine CW.seq ?_
  refine CW.reg [0] rfl ?_
  refine s_as 4 rfl rfl ?_
  refine SX.next ?_
  refine CW.seq ?_
  refine CW.reg [0, 1, 2, 3] rfl ?_
  refine s_mv 11 rfl rfl ?_
  refine s_mv 12 rfl rfl ?_
  refine s_call 13 rfl rfl rfl rfl (fun w hw => rcoset_spec m i w hm) (fun _ _ => trivial) (fun q13 hq13 => ?_)
  refine s_as 5 rfl rfl ?_
  refine SX.next ?_
  refine CW.seq ?_
  refine CW.reg [0] rfl ?_
  refine s_as 6 rfl rfl ?_
  refine SX.next ?_
  refine CW.seq ?_
  refine CW.seq ?_
  refine CW.reg [0] rfl ?_
  refine s_as 7 rfl rfl ?_
  refine SX.next ?_
  refine CW.block ?_
  refine CW.loop (G := Nat × Option Addr × Nat) (fun q => [(0, .int .i64 (m : Nat)), (5, .slice q13.1 (cosP m (em m i)).length q13.2), (6, .slice q.2.1 q.1 q.2.2), (7, .int .i64 (q.1 : Nat))]) (fun q => Sto w [own 3 1 q.2.1 q.1 q.2.2 (ints .i64 (RL m ((cosP m (em m i)).take q.1))), own 3 1 q13.1 (cosP m (em m i)).length q13.2 (nats .i64 (cosP m (em m i)))]) (fun q => q.1 ≤ (cosP m (em m i)).length ∧ q.1 ≤ q.2.2) (fun q => (cosP m (em m i)).length - q.1) (0, none, 0) ⟨rfl, rfl, rfl, rfl, trivial⟩ (fun _ h => h.begin_ 3 1) ⟨Nat.zero_le _, Nat.le_refl _⟩ ?_
  rintro ⟨k, qa, qc⟩ ⟨hk, hqc⟩
  simp only at hk hqc
  dsimp only
  refine CW.seq ?_
  refine CW.seq ?_
  refine CW.reg [0, 1, 2, 3] rfl ?_
  refine s_mv 14 rfl rfl ?_
  refine s_mv 15 rfl rfl ?_
  refine s_len 16 rfl rfl ?_
  refine s_lt 17 rfl rfl rfl rfl ?_
  refine SX.next ?_
  refine CW.test rfl (fun hc => ?_) (fun hc => ?_)
  · skip
    have hkl : k < (cosP m (em m i)).length := by omega
    have hRn : ints .i64 (RL m ((cosP m (em m i)).take k)) ++ [.int .i64 (exz m ((cf (cosP m (em m i)) k : Nat) : Int) : Nat)] = ints .i64 (RL m ((cosP m (em m i)).take (k + 1))) := by rw [take_cf hkl]; simp [RL, ints]
    refine CW.skip ?_
    refine KN.code ?_
    refine CW.seq ?_
    refine CW.block ?_
    refine CW.reg [0, 1, 2, 3, 4, 5, 6, 7, 8, 9] rfl ?_
    refine s_mv 20 rfl rfl ?_
    refine s_mv 21 rfl rfl ?_
    refine s_mv 22 rfl rfl ?_
    refine s_mv 23 rfl rfl ?_
    refine s_iaO 24 1 k rfl rfl rfl rfl rfl (by omega) ?_
    refine s_ldO 25 1 rfl rfl rfl (natsAtC hkl) ?_
    refine s_call1 26 rfl rfl rfl rfl (v := .int .i64 (exz m ((cf (cosP m (em m i)) k : Nat) : Int) : Nat)) (fun w hw => rexp_spec m _ w hm) (fun _ _ => trivial) ?_
    refine s_bsl 27 rfl rfl (cells := #[.int .i64 (exz m ((cf (cosP m (em m i)) k : Nat) : Int) : Nat)]) (by kernel_rfl) rfl (fun _ _ => trivial) (fun gb => ?_)
    refine s_app 28 1 rfl rfl rfl rfl (ys := [.int .i64 (exz m ((cf (cosP m (em m i)) k : Nat) : Int) : Nat)]) (fun w hw => Has.cong ((hw.has (i := 0) rfl).blk_sl (m := 1) rfl) rfl) rfl rfl (by omega) (by unfold maxLen; omega) (by omega) (fun _ _ _ _ => trivial) (fun A2 c2 hc2 => ?_)
    refine s_as 6 rfl rfl ?_
    refine SX.end_ ?_
    refine KN.blk ?_
    refine KN.code ?_
    refine CW.reg [0, 1, 2] rfl ?_
    refine s_mv 18 rfl rfl ?_
    refine s_add 19 rfl rfl rfl (r := ((k + 1 : Nat) : Int)) (w64 (by omega)) ?_
    refine s_as 7 rfl rfl ?_
    refine SX.end_ ?_
    exact KN.back (k + 1, A2, c2) ⟨rfl, rfl, rfl, rfl, trivial⟩ (fun _ h => by
      have h1 := h.pick [1, 1] rfl
      rw [hRn] at h1
      exact h1) ⟨by simp only; omega, hc2⟩ (by simp only; omega)
  · skip
    have hke : k = (cosP m (em m i)).length := by omega
    have hRL : (RL m ((cosP m (em m i)).take k)) = RL m (cosP m (em m i)) := by rw [hke, List.take_length]
    have hRl : (RL m (cosP m (em m i))).length = k := by unfold RL; rw [List.length_map, hke]
    have hfm : frP m (RL m (cosP m (em m i))) (RL m (cosP m (em m i))).length = (minP m (em m i)) := by rw [hRl, hke]; exact frP_min hm _
    refine CW.exit rfl ?_
    refine KN.code ?_
    refine CW.seq ?_
    refine CW.reg [0, 1, 2, 3] rfl ?_
    refine s_mv 29 rfl rfl ?_
    refine s_mv 30 rfl rfl ?_
    refine s_call 31 rfl rfl rfl rfl (fun w hw => by have := rfrom_spec m qa k qc (RL m (cosP m (em m i))) w hm (by rw [← hRL]; exact (hw.has (i := 0) rfl).of_own) (by omega); rw [hfm] at this; exact this) (fun _ _ => trivial) (fun q31 hq31 => ?_)
    refine s_as 8 rfl rfl ?_
    refine SX.next ?_
    refine CW.seq ?_
    refine CW.reg [0] rfl ?_
    refine s_as 9 rfl rfl ?_
    refine SX.next ?_
    refine CW.seq ?_
    refine CW.seq ?_
    refine CW.reg [0] rfl ?_
    refine s_as 10 rfl rfl ?_
    refine SX.next ?_
    refine CW.block ?_
    refine CW.loop (G := Nat × Option Addr × Nat) (fun q => [(8, .slice q31.1 (minP m (em m i)).length q31.2), (9, .slice q.2.1 (onesL (minP m (em m i)) q.1).length q.2.2), (10, .int .i64 (q.1 : Nat))]) (fun q => Sto w [own 3 1 q.2.1 (onesL (minP m (em m i)) q.1).length q.2.2 (nats .i64 (onesL (minP m (em m i)) q.1)), own 3 1 q31.1 (minP m (em m i)).length q31.2 (nats .i64 (minP m (em m i)))]) (fun q => q.1 ≤ (minP m (em m i)).length ∧ (onesL (minP m (em m i)) q.1).length ≤ q.2.2) (fun q => (minP m (em m i)).length - q.1) (0, none, 0) ⟨rfl, rfl, rfl, trivial⟩ (fun _ h => (h.pick [0] rfl).begin_ 3 1) ⟨Nat.zero_le _, Nat.le_refl _⟩ ?_
    rintro ⟨k, ra, rc⟩ ⟨hk, hrc⟩
    simp only at hk hrc
    dsimp only
    have hol := onesL_len (minP m (em m i)) k
    refine CW.seq ?_
    refine CW.seq ?_
    refine CW.reg [0, 1, 2, 3] rfl ?_
    refine s_mv 32 rfl rfl ?_
    refine s_mv 33 rfl rfl ?_
    refine s_len 34 rfl rfl ?_
    refine s_lt 35 rfl rfl rfl rfl ?_
    refine SX.next ?_
    refine CW.test rfl (fun hc => ?_) (fun hc => ?_)
    · skip
      have hkl : k < (minP m (em m i)).length := by omega
      refine CW.skip ?_
      refine KN.code ?_
      refine CW.seq ?_
      refine CW.block ?_
      refine CW.seq ?_
      refine CW.reg [0, 1, 2, 3, 4] rfl ?_
      refine s_mv 38 rfl rfl ?_
      refine s_mv 39 rfl rfl ?_
      refine s_iaO 40 1 k rfl rfl rfl rfl rfl (by omega) ?_
      refine s_ldO 41 1 rfl rfl rfl (natsAtC hkl) ?_
      refine s_eq 42 rfl rfl rfl (r := decide (cf (minP m (em m i)) k = 1)) (decide_eq_decide.2 (by omega)) ?_
      refine SX.next ?_
      refine CW.cond rfl (fun hc => ?_) (fun hc => ?_)
      · skip
        have hnx : (onesL (minP m (em m i)) (k + 1)) = (onesL (minP m (em m i)) k) ++ [k] := if_pos (by simpa using hc)
        refine CW.reg [0, 1, 2, 3, 4] rfl ?_
        refine s_mv 43 rfl rfl ?_
        refine s_mv 44 rfl rfl ?_
        refine s_bsl 45 rfl rfl (cells := #[.int .i64 (k : Nat)]) (by kernel_rfl) rfl (fun _ _ => trivial) (fun gb => ?_)
        refine s_app 46 1 rfl rfl rfl rfl (ys := [.int .i64 (k : Nat)]) (fun w hw => Has.cong ((hw.has (i := 0) rfl).blk_sl (m := 1) rfl) rfl) rfl rfl (by omega) (by unfold maxLen; omega) (by omega) (fun _ _ _ _ => trivial) (fun A2 c2 hc2 => ?_)
        refine s_as 9 rfl rfl ?_
        refine SX.end_ ?_
        refine KN.blk ?_
        refine KN.code ?_
        refine CW.reg [0, 1, 2] rfl ?_
        refine s_mv 36 rfl rfl ?_
        refine s_add 37 rfl rfl rfl (r := ((k + 1 : Nat) : Int)) (w64 (by omega)) ?_
        refine s_as 10 rfl rfl ?_
        refine SX.end_ ?_
        exact KN.back (k + 1, A2, c2) ⟨rfl, by simp only [hnx, List.length_append]; rfl, rfl, trivial⟩ (fun _ h => by
          have h1 := h.pick [1, 1] rfl
          simp only [hnx, List.length_append, List.length_singleton]
          rw [nats_snoc] at h1
          exact h1) ⟨by simp only; omega, by simp only [hnx, List.length_append, List.length_singleton]; exact hc2⟩ (by simp only; omega)
      · skip
        have hnx : (onesL (minP m (em m i)) (k + 1)) = (onesL (minP m (em m i)) k) := if_neg (by simpa using hc)
        refine CW.skip ?_
        refine KN.blk ?_
        refine KN.code ?_
        refine CW.reg [0, 1, 2] rfl ?_
        refine s_mv 36 rfl rfl ?_
        refine s_add 37 rfl rfl rfl (r := ((k + 1 : Nat) : Int)) (w64 (by omega)) ?_
        refine s_as 10 rfl rfl ?_
        refine SX.end_ ?_
        exact KN.back (k + 1, ra, rc) ⟨rfl, by simp only [hnx]; rfl, rfl, trivial⟩ (fun _ h => by simp only [hnx]; exact h) ⟨by simp only; omega, by simp only [hnx]; exact hrc⟩ (by simp only; omega)
    · skip
      have hke2 : k = (minP m (em m i)).length := by omega
      subst hke2
      have hoa := ones_all hPB
      refine CW.exit rfl ?_
      refine KN.code ?_
      refine CW.seq ?_
      refine CW.reg [0, 1, 2] rfl ?_
      refine s_mv 47 rfl rfl ?_
      refine s_call 48 rfl rfl rfl rfl (fun w hw => by have := rof_spec ra (onesL (minP m (em m i)) (minP m (em m i)).length).length rc ((onesL (minP m (em m i)) (minP m (em m i)).length).map Int.ofNat) w (by rw [← nats_ints]; exact (hw.has (i := 0) rfl).of_own) (by omega) (ones_in (by omega)); rw [hoa] at this; exact this) (fun _ _ => trivial) (fun q48 hq48 => ?_)
      refine s_as 4 rfl rfl ?_
      refine SX.next ?_
      refine CW.ret ?_
      exact KN.ret (rs := [.tmp 4]) Tryd.results142 rfl (fun w hw => ⟨q48, rfl, hq48, hw.pick [0] rfl⟩)
end Go.Proofs.YtcdmmfpgeagimaaDoor
end
section
/- The errors of package api, as a table: each variable holds a pointer of its own. No condition. -/
namespace Go.Proofs.YtcdmmfpgeagimaaDoor
open Go.Sx

/-- The error variables ks, each with a pointer of its own. -/
def ersA (e : Nat → Addr) (ks : List Nat) : Atom where
  ok w D := (∀ k ∈ ks, D k ∧ D (e k).block ∧ w.cell? ⟨k, 0, none⟩ = some (errV e k) ∧ Live (e k) w) ∧ ∀ i ∈ ks, ∀ j ∈ ks, i ≠ j → e i ≠ e j
  loc := by
    rintro w w' D ⟨h1, h2⟩ hb
    refine ⟨fun k hk => ?_, h2⟩
    obtain ⟨a, b, c, ct, t, d⟩ := h1 k hk
    exact ⟨a, b, (World.cell?_of_block (hb _ a)).trans c, ct, t, by rw [hb _ b]; exact d⟩
section
variable {e : Nat → Addr} {ks : List Nat} {w : World}
theorem _root_.Go.Sx.Has.live (h : Has (ersA e ks) w) {k : Nat} (hk : k ∈ ks) : Live (e k) w := let ⟨_, ⟨h1, _⟩, _⟩ := h; (h1 k hk).2.2.2
theorem _root_.Go.Sx.Has.apart (h : Has (ersA e ks) w) {i j : Nat} (hi : i ∈ ks) (hj : j ∈ ks) (hne : i ≠ j) : e i ≠ e j := let ⟨_, ⟨_, h2⟩, _⟩ := h; h2 i hi j hj hne
end
/-- Package api's errors, in the order of their numbers from 101. -/
def apiErrs : List Nat := [7, 1, 2, 0, 6, 8, 9, 4, 10, 11, 12, 13, 14, 3, 15, 5, 16, 17, 18]
end Go.Proofs.YtcdmmfpgeagimaaDoor
end
section
/- The contracts of shalesee, and of what it leans on: an error of package api, seen as its number. Conditions: the errors' variables each hold a pointer of its own. -/
namespace Go.Proofs.YtcdmmfpgeagimaaDoor
open Go.Sx
set_option maxRecDepth 100000
/-- A fault with nothing around it. -/
def fltV (c : Int) : Value := .agg #[.int .i64 c, .slice none 0 0]
def errCs (e : Nat → Addr) : Array Value := (apiErrs.map (errV e)).toArray
end Go.Proofs.YtcdmmfpgeagimaaDoor
end
