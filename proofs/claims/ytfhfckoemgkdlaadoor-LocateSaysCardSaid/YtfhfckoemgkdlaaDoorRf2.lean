/- Range over a function, part 2: code in whatever frame; marks among the deferred calls. No condition. -/
import Derived.Test.YtfhfckoemgkdlaaDoorRf
namespace Go.Sx
open Go

/-- The slots, and what is deferred. -/
structure EnvD (n : Nat) (ds : List Deferred) (l : List (Nat × Value)) (a : Act) : Prop where
  env : Env n l { a with defers := [] }
  defers : a.defers = ds

theorem EnvD.of {n : Nat} {ds : List Deferred} {l : List (Nat × Value)} {a : Act} (h : Env n l a) : EnvD n ds l { a with defers := ds } := ⟨⟨h.size, rfl, h.at_⟩, rfl⟩
theorem EnvD.sub {n : Nat} {ds : List Deferred} {l l' : List (Nat × Value)} {a : Act} (h : EnvD n ds l a) (hs : Sub l' l) : EnvD n ds l' a := ⟨h.env.sub hs, h.defers⟩
theorem eval_dropD (a : Act) : ({ a with defers := [] } : Act).eval = a.eval := by funext x; cases x <;> rfl
theorem EnvD.ev {n : Nat} {ds : List Deferred} {l : List (Nat × Value)} {a : Act} (h : EnvD n ds l a) {x : Operand} {v : Value} (hx : ev l x = some v) : a.eval x = v := by
  rw [← eval_dropD]; exact h.env.ev hx

structure SXI (P : Program) (ops : Array Oper) (S : World → Prop) (K : Act → World → Prop) (p : Plan) (n : Nat) (ds : List Deferred) (l : List (Nat × Value)) (C : World → Prop) : Prop where
  run : ∀ a w, EnvD n ds l a → C w → S w → PWI P ops S K p a w

section
variable {P : Program} {ops : Array Oper} {S : World → Prop} {K : Act → World → Prop} {p q : Plan} {n : Nat} {ds : List Deferred} {l : List (Nat × Value)} {C C' : World → Prop}

theorem SXI.done (h : ∀ a w, EnvD n ds l a → C w → K a w) : SXI P ops S K .done n ds l C := ⟨fun a w he hc _ => h a w he hc⟩

/-- A step of the plain walk. -/
theorem SXI.of1 {fl : Bool} {i : Nat} {X : Type} {l2 : X → List (Nat × Value)} {C2 : X → World → Prop} {pf : X → Prop}
    (h : ∀ K' : Act → World → Prop, (∀ x, pf x → ∀ a w, Env n (l2 x) a → C2 x w → K' a w) → SX P ops S K' (.st fl i .done) n l C)
    (hn : ∀ x, pf x → SXI P ops S K p n ds (l2 x) (C2 x)) : SXI P ops S K (.st fl i p) n ds l C := by
  refine ⟨fun a w he hc hs => ?_⟩
  have h1 := (h (fun a w => ∃ x, pf x ∧ Env n (l2 x) a ∧ C2 x w) (fun x hp a w h1 h2 => ⟨x, hp, h1, h2⟩)).run _ w he.env hc hs
  have key : ∀ a' w', S w' → (∃ x, pf x ∧ Env n (l2 x) a' ∧ C2 x w') → PWI P ops S K p { a' with defers := ds } w' := fun a' w' hS ⟨x, hp, h1, h2⟩ => (hn x hp).run _ w' (EnvD.of h1) h2 hS
  have hput : ∀ (o : Oper) v, { ({ a with defers := [] } : Act).put o.dst v with defers := ds } = a.put o.dst v := fun o v => by
    have := he.defers; subst this; cases o.dst <;> rfl
  cases fl with
  | true =>
    simp only [PW] at h1
    simp only [PWI]
    cases ho : ops[i]? with
    | none => rw [ho] at h1; exact h1.elim
    | some o =>
      rw [ho] at h1
      dsimp only at h1 ⊢
      by_cases hw : Region.wanted o (yielded ops a.tmps) = true
      · rw [if_pos hw] at h1 ⊢
        obtain ⟨v, hv, hk⟩ := h1
        rw [eval_dropD] at hv
        exact ⟨v, hv, by rw [← hput]; exact key _ _ hs hk⟩
      · rw [if_neg hw] at h1 ⊢
        rw [← hput]; exact key _ _ hs h1
  | false =>
    simp only [PW] at h1
    simp only [PWI, opI]
    cases ho : ops[i]? with
    | none => rw [ho] at h1; exact h1.elim
    | some o =>
      rw [ho] at h1
      dsimp only at h1 ⊢
      by_cases hw : Region.wanted o (yielded ops a.tmps) = true
      · rw [if_pos hw] at h1 ⊢
        exact OpI.of_wp ds h1 (fun a' w' ⟨hS, hk⟩ => ⟨by obtain ⟨x, _, h2, _⟩ := hk; exact h2.defers, hS, key _ _ hS hk⟩) he.defers
      · rw [if_neg hw] at h1 ⊢
        rw [← hput]; exact ⟨hs, key _ _ hs h1⟩
theorem SXI.of {fl : Bool} {i : Nat} {l2 : List (Nat × Value)} {C2 : World → Prop} (h : ∀ K' : Act → World → Prop, (∀ a w, Env n l2 a → C2 w → K' a w) → SX P ops S K' (.st fl i .done) n l C)
    (hn : SXI P ops S K p n ds l2 C2) : SXI P ops S K (.st fl i p) n ds l C :=
  SXI.of1 (X := Unit) (l2 := fun _ => l2) (C2 := fun _ => C2) (pf := fun _ => True) (fun K' hK => h K' (hK () trivial)) (fun _ _ => hn)

theorem SXI.of2 {fl : Bool} {i : Nat} {X Y : Type} {l2 : X → Y → List (Nat × Value)} {C2 : X → Y → World → Prop} {pf : X → Y → Prop}
    (h : ∀ K' : Act → World → Prop, (∀ x y, pf x y → ∀ a w, Env n (l2 x y) a → C2 x y w → K' a w) → SX P ops S K' (.st fl i .done) n l C)
    (hn : ∀ x y, pf x y → SXI P ops S K p n ds (l2 x y) (C2 x y)) : SXI P ops S K (.st fl i p) n ds l C :=
  SXI.of1 (X := X × Y) (l2 := fun x => l2 x.1 x.2) (C2 := fun x => C2 x.1 x.2) (pf := fun x => pf x.1 x.2) (fun K' hK => h K' (fun x y => hK (x, y))) (fun x => hn x.1 x.2)

theorem SXI.alt {i : Nat} (h1 : SXI P ops S K (.st false i p) n ds l C) (h2 : SXI P ops S K q n ds l C) : SXI P ops S K (.alt i p q) n ds l C :=
  ⟨fun a w he hc hs => ⟨by have := h1.run a w he hc hs; unfold PWI at this; exact this, h2.run a w he hc hs⟩⟩
theorem SXI.weaken {l' : List (Nat × Value)} (hl : SubL l' l) (hC : ∀ w, C w → C' w) (h : SXI P ops S K p n ds l' C') : SXI P ops S K p n ds l C :=
  ⟨fun a w he hc hs => h.run a w (he.sub hl.sub) (hC w hc) hs⟩
theorem SXI.inC (h : ∀ w, C w → SXI P ops S K p n ds l C) : SXI P ops S K p n ds l C := ⟨fun a w he hc hs => (h w hc).run a w he hc hs⟩
theorem SXI.fact {F : Prop} (hF : ∀ w, C w → F) (h : F → SXI P ops S K p n ds l C) : SXI P ops S K p n ds l C := ⟨fun a w he hc hs => (h (hF w hc)).run a w he hc hs⟩
theorem SXI.bool (t : Nat) {b : Bool} (ht : lk t l = some (.bool b)) (h1 : b = true → SXI P ops S K p n ds (ins t (.bool true) l) C) (h2 : b = false → SXI P ops S K p n ds (ins t (.bool false) l) C) : SXI P ops S K p n ds l C := by
  refine ⟨fun a w he hc hs => ?_⟩
  have key : ∀ u, lk t l = some u → EnvD n ds (ins t u l) a := fun u hu => ⟨⟨he.env.size, rfl, fun s v hv => by
    rw [lk_ins] at hv
    by_cases e : s = t
    · subst e; simp at hv; subst hv; exact he.env.at_ _ _ hu
    · rw [if_neg e] at hv; exact he.env.at_ _ _ hv⟩, he.defers⟩
  cases b with
  | true => exact (h1 rfl).run a w (key _ ht) hc hs
  | false => exact (h2 rfl).run a w (key _ ht) hc hs

/-- An operation that calls yield. -/
theorem SXI.yield {i : Nat} {d : Option Nat} {op : Op} {ty : TypeId} {X : Type} {v : X → Value} {pf : X → Prop} {C' : X → World → Prop} (ho : opAt ops n l i = some (d, op, ty))
    (hrun : ∀ a w (o : Oper), Env n l a → C w → o.op = op → o.type = ty → ∃ lr fn tmps assign body w', (execOp a.eval o).run P w = .ok (.round lr fn tmps assign body) w' ∧
      RoundIn Fence.wide 0 P lr fn tmps assign body w' (fun e w'' => ∃ x, e = .returned (v x) ∧ pf x ∧ C' x w''))
    (hS : ∀ x w, C' x w → S w)
    (h : ∀ x, pf x → SXI P ops S K p n ds (insO d (v x) l) (C' x)) : SXI P ops S K (.st false i p) n ds l C := by
  refine ⟨fun a w he hc _ => ?_⟩
  unfold opAt at ho
  split at ho
  · rename_i o hoi
    by_cases hb : (wantB ops l o.guard && okD n o.dst) = true
    · rw [hb] at ho
      simp only [cond_true, Option.some.injEq, Prod.mk.injEq] at ho
      obtain ⟨rfl, rfl, rfl⟩ := ho
      rw [Bool.and_eq_true] at hb
      obtain ⟨lr, fn, tmps, assign, body, w', hr, hR⟩ := hrun _ w o he.env hc rfl rfl
      rw [eval_dropD] at hr
      have hw : Region.wanted o (yielded ops a.tmps) = true := wanted_of he.env hb.1
      simp only [PWI, opI, hoi, hw, if_true, OpI, hr, upI]
      refine RoundIn.mono hR ?_
      rintro e w'' ⟨x, rfl, hp, hC⟩
      refine ⟨_, rfl, hS x w'' hC, (h x hp).run _ w'' ?_ hC (hS x w'' hC)⟩
      have h2 := he.env.putO hb.2 (v x)
      have h3 : a.put o.dst (v x) = { ({ a with defers := [] } : Act).put o.dst (v x) with defers := ds } := by have := he.defers; subst this; cases o.dst <;> rfl
      rw [h3]; exact EnvD.of h2
    · have : (wantB ops l o.guard && okD n o.dst) = false := by simpa using hb
      rw [this] at ho
      cases ho
  · cases ho
end

/-! ### Code -/
def KtI (P : Program) (ro : Option Nat) (Rx : Exit → Act → World → Prop) : List KI → Exit → Act → World → Prop
  | [] => Rx
  | .code y :: k => fun e a w => match e with
    | .normal => y.wpIn (fw ro) 0 P (KtI P ro Rx k) a w
    | e => KtI P ro Rx k e a w
  | .blk id :: k => fun e a w => match e with
    | .exit id' => if id' = id then KtI P ro Rx k .normal a w else KtI P ro Rx k (.exit id') a w
    | e => KtI P ro Rx k e a w
  | .lp I :: k => fun e a w => match e with
    | .normal => I a w
    | e => KtI P ro Rx k e a w

section
variable {P : Program} {ro : Option Nat} {Rx : Exit → Act → World → Prop}
theorem KtI_ret : ∀ (k : List KI) {a : Act} {w : World}, Rx .ret a w → KtI P ro Rx k .ret a w
  | [], _, _, h => h
  | .code _ :: k, _, _, h => KtI_ret k h
  | .blk _ :: k, _, _, h => KtI_ret k h
  | .lp _ :: k, _, _, h => KtI_ret k h
theorem KtI_exit {id : Nat} : ∀ {k k' : List KI} {a : Act} {w : World}, popTo id k = some k' → KtI P ro Rx k' .normal a w → KtI P ro Rx k (.exit id) a w
  | [], _, _, _, h, _ => by simp [popTo] at h
  | .blk i :: k, k', a, w, h, hk => by
    unfold popTo at h
    simp only [KtI]
    by_cases e : i = id
    · subst e
      simp at h
      subst h
      simpa using hk
    · have h1 : Nat.beq i id = false := beq_ne e
      rw [h1] at h
      rw [if_neg (Ne.symm e)]
      exact KtI_exit (k := k) h hk
  | .code _ :: k, _, _, _, h, hk => KtI_exit (k := k) h hk
  | .lp _ :: k, _, _, _, h, hk => KtI_exit (k := k) h hk
/-- An exit that nothing in the frame catches. -/
theorem KtI_out {id : Nat} : ∀ {k : List KI} {a : Act} {w : World}, popTo id k = none → Rx (.exit id) a w → KtI P ro Rx k (.exit id) a w
  | [], _, _, _, h => h
  | .blk i :: k, a, w, h, hk => by
    unfold popTo at h
    simp only [KtI]
    by_cases e : i = id
    · subst e; simp at h
    · have h1 : Nat.beq i id = false := beq_ne e
      rw [h1] at h
      rw [if_neg (Ne.symm e)]
      exact KtI_out (k := k) h hk
  | .code _ :: k, _, _, h, hk => KtI_out (k := k) h hk
  | .lp _ :: k, _, _, h, hk => KtI_out (k := k) h hk
end

structure CWI (P : Program) (ro : Option Nat) (Rx : Exit → Act → World → Prop) (k : List KI) (c : Code) (n : Nat) (ds : List Deferred) (l : List (Nat × Value)) (C : World → Prop) : Prop where
  run : ∀ a w, EnvD n ds l a → C w → c.wpIn (fw ro) 0 P (KtI P ro Rx k) a w
structure KNI (P : Program) (ro : Option Nat) (Rx : Exit → Act → World → Prop) (k : List KI) (n : Nat) (ds : List Deferred) (l : List (Nat × Value)) (C : World → Prop) : Prop where
  run : ∀ a w, EnvD n ds l a → C w → KtI P ro Rx k .normal a w

section
variable {P : Program} {ro : Option Nat} {Rx : Exit → Act → World → Prop} {k : List KI} {n : Nat} {ds : List Deferred} {l l' : List (Nat × Value)} {C C' : World → Prop} {c x y : Code}

theorem CWI.seq (h : CWI P ro Rx (.code y :: k) x n ds l C) : CWI P ro Rx k (.seq x y) n ds l C :=
  ⟨fun a w he hc => wpIn_seq (wpIn_mono (h.run a w he hc) (fun e a w hk => by cases e <;> exact hk))⟩
theorem CWI.block {id : Nat} (h : CWI P ro Rx (.blk id :: k) c n ds l C) : CWI P ro Rx k (.block id c) n ds l C :=
  ⟨fun a w he hc => wpIn_block (wpIn_mono (h.run a w he hc) (fun e a w hk => by cases e <;> exact hk))⟩
theorem CWI.skip (h : KNI P ro Rx k n ds l C) : CWI P ro Rx k .skip n ds l C := ⟨fun a w he hc => wpIn_skip (h.run a w he hc)⟩
theorem CWI.label {i : Nat} (h : KNI P ro Rx k n ds l C) : CWI P ro Rx k (.label i) n ds l C := ⟨fun a w he hc => wpIn_label (h.run a w he hc)⟩
theorem CWI.ret (h : ∀ a w, EnvD n ds l a → C w → Rx .ret a w) : CWI P ro Rx k .ret n ds l C := ⟨fun a w he hc => wpIn_ret (KtI_ret k (h a w he hc))⟩
theorem CWI.exit {id : Nat} {k' : List KI} (hp : popTo id k = some k') (h : KNI P ro Rx k' n ds l C) : CWI P ro Rx k (.exit id) n ds l C :=
  ⟨fun a w he hc => wpIn_exit (KtI_exit hp (h.run a w he hc))⟩
theorem CWI.out {id : Nat} (hp : popTo id k = none) (h : ∀ a w, EnvD n ds l a → C w → Rx (.exit id) a w) : CWI P ro Rx k (.exit id) n ds l C :=
  ⟨fun a w he hc => wpIn_exit (KtI_out hp (h a w he hc))⟩
theorem CWI.cond {o : Operand} {b : Bool} (ho : ev l o = some (.bool b)) (h1 : b = true → CWI P ro Rx k x n ds l C) (h2 : b = false → CWI P ro Rx k y n ds l C) : CWI P ro Rx k (.cond o x y) n ds l C :=
  ⟨fun a w he hc => wpIn_cond_split (he.ev ho) (fun e => (h1 e).run a w he hc) (fun e => (h2 e).run a w he hc)⟩
theorem CWI.condT {o : Operand} (ho : ev l o = some (.bool true)) (h1 : CWI P ro Rx k x n ds l C) : CWI P ro Rx k (.cond o x y) n ds l C :=
  CWI.cond ho (fun _ => h1) (fun e => by cases e)
theorem CWI.condF {o : Operand} (ho : ev l o = some (.bool false)) (h1 : CWI P ro Rx k y n ds l C) : CWI P ro Rx k (.cond o x y) n ds l C :=
  CWI.cond ho (fun e => by cases e) (fun _ => h1)
theorem CWI.test {o : Operand} {p : Prop} [Decidable p] (ho : ev l o = some (.bool (decide p))) (h1 : p → CWI P ro Rx k x n ds l C) (h2 : ¬ p → CWI P ro Rx k y n ds l C) : CWI P ro Rx k (.cond o x y) n ds l C :=
  CWI.cond ho (fun e => h1 (of_decide_eq_true e)) (fun e => h2 (of_decide_eq_false e))
theorem CWI.weaken (l' : List (Nat × Value)) (C' : World → Prop) (hl : SubL l' l) (hC : ∀ w, C w → C' w) (h : CWI P ro Rx k c n ds l' C') : CWI P ro Rx k c n ds l C :=
  ⟨fun a w he hc => h.run a w (he.sub hl.sub) (hC w hc)⟩
theorem CWI.fact {F : Prop} (hF : ∀ w, C w → F) (h : F → CWI P ro Rx k c n ds l C) : CWI P ro Rx k c n ds l C := ⟨fun a w he hc => (h (hF w hc)).run a w he hc⟩
theorem CWI.pre (hC : ∀ w, C w → C' w) (h : CWI P ro Rx k c n ds l C') : CWI P ro Rx k c n ds l C := ⟨fun a w he hc => h.run a w he (hC w hc)⟩
theorem CWI.ex {X : Type} {C' : X → World → Prop} (hC : ∀ w, C w → ∃ x, C' x w) (h : ∀ x, CWI P ro Rx k c n ds l (C' x)) : CWI P ro Rx k c n ds l C :=
  ⟨fun _ w he hc => let ⟨x, hx⟩ := hC w hc; (h x).run _ w he hx⟩

theorem KNI.code (h : CWI P ro Rx k y n ds l C) : KNI P ro Rx (.code y :: k) n ds l C := ⟨fun a w he hc => h.run a w he hc⟩
theorem KNI.blk {id : Nat} (h : KNI P ro Rx k n ds l C) : KNI P ro Rx (.blk id :: k) n ds l C := ⟨fun a w he hc => h.run a w he hc⟩
theorem KNI.weaken (l' : List (Nat × Value)) (C' : World → Prop) (hl : SubL l' l) (hC : ∀ w, C w → C' w) (h : KNI P ro Rx k n ds l' C') : KNI P ro Rx k n ds l C :=
  ⟨fun a w he hc => h.run a w (he.sub hl.sub) (hC w hc)⟩
theorem KNI.fact {F : Prop} (hF : ∀ w, C w → F) (h : F → KNI P ro Rx k n ds l C) : KNI P ro Rx k n ds l C := ⟨fun a w he hc => (h (hF w hc)).run a w he hc⟩

/-- A loop: 'G': the states of the rounds. -/
theorem wpI_loop_ghost {G : Type} {Q : Exit → Act → World → Prop} (I : G → Act → World → Prop) (μ : G → Nat)
    (round : ∀ g a w, I g a w → c.wpIn (fw ro) 0 P (Exit.then (fun a' w' => ∃ g', I g' a' w' ∧ μ g' < μ g) Q) a w) (g₀ : G) {a : Act} {w : World} (h₀ : I g₀ a w) : (Code.loop c).wpIn (fw ro) 0 P Q a w := by
  classical
  have ex : ∀ a w, (∃ g, I g a w) → ∃ m, (∃ g, I g a w ∧ μ g = m) ∧ ∀ g, I g a w → m ≤ μ g := by
    intro a w ⟨g, hg⟩
    have key : ∀ (m : Nat) (g : G), μ g = m → I g a w → ∃ m, (∃ g, I g a w ∧ μ g = m) ∧ ∀ g, I g a w → m ≤ μ g := by
      intro m
      induction m using Nat.strongRecOn with
      | _ m ih =>
        intro g hm hI
        by_cases h : ∃ g', I g' a w ∧ μ g' < m
        · obtain ⟨g', h1, h2⟩ := h
          exact ih _ h2 g' rfl h1
        · exact ⟨m, ⟨g, hI, hm⟩, fun g' hg' => Nat.le_of_not_lt (fun hlt => h ⟨g', hg', hlt⟩)⟩
    exact key _ g rfl hg
  let ν : Act → World → Nat := fun a w => if h : ∃ g, I g a w then Classical.choose (ex a w h) else 0
  have hν : ∀ a w (h : ∃ g, I g a w), (∃ g, I g a w ∧ μ g = ν a w) ∧ ∀ g, I g a w → ν a w ≤ μ g := fun a w h => by
    simp only [ν, dif_pos h]; exact Classical.choose_spec (ex a w h)
  refine wpIn_loop (fun a w => ∃ g, I g a w) ν ⟨g₀, h₀⟩ (fun a w hI => ?_)
  obtain ⟨⟨g, hg, hm⟩, _⟩ := hν a w hI
  refine wpIn_mono (round g a w hg) (fun e a' w' hq => ?_)
  cases e <;> first | exact hq | (obtain ⟨g', h1, h2⟩ := hq; exact ⟨⟨g', h1⟩, Nat.lt_of_le_of_lt ((hν a' w' ⟨g', h1⟩).2 g' h1) (hm ▸ h2)⟩)

structure BackI {G : Type} (n : Nat) (df : G → List Deferred) (lf : G → List (Nat × Value)) (Cf : G → World → Prop) (pf : G → Prop) (μ : G → Nat) (m : Nat) (a : Act) (w : World) : Prop where
  back : ∃ g', (EnvD n (df g') (lf g') a ∧ Cf g' w ∧ pf g') ∧ μ g' < m

theorem CWI.loop {G : Type} (df : G → List Deferred) (lf : G → List (Nat × Value)) (Cf : G → World → Prop) (pf : G → Prop) (μ : G → Nat) (g₀ : G) (hd : df g₀ = ds) (hl : SubL (lf g₀) l) (hC : ∀ w, C w → Cf g₀ w) (hp : pf g₀)
    (hr : ∀ g, pf g → CWI P ro Rx (.lp (BackI n df lf Cf pf μ (μ g)) :: k) c n (df g) (lf g) (Cf g)) : CWI P ro Rx k (.loop c) n ds l C := by
  refine ⟨fun a w he hc => ?_⟩
  refine wpI_loop_ghost (fun g a w => EnvD n (df g) (lf g) a ∧ Cf g w ∧ pf g) μ (fun g a w hg => ?_) g₀ ⟨hd ▸ he.sub hl.sub, hC w hc, hp⟩
  exact wpIn_mono ((hr g hg.2.2).run a w hg.1 hg.2.1) (fun e a' w' hk => by cases e <;> first | exact hk | exact hk.back)
theorem KNI.back {G : Type} {df : G → List Deferred} {lf : G → List (Nat × Value)} {Cf : G → World → Prop} {pf : G → Prop} {μ : G → Nat} {m : Nat} (g' : G) (hd : df g' = ds) (hl : SubL (lf g') l) (hC : ∀ w, C w → Cf g' w) (hp : pf g') (hm : μ g' < m) :
    KNI P ro Rx (.lp (BackI n df lf Cf pf μ m) :: k) n ds l C := ⟨fun _ w he hc => ⟨g', ⟨hd ▸ he.sub hl.sub, hC w hc, hp⟩, hm⟩⟩

structure JoinI {G : Type} (n : Nat) (ds : List Deferred) (lf : G → List (Nat × Value)) (Cf : G → World → Prop) (pf : G → Prop) (a : Act) (w : World) : Prop where
  join : ∃ g, EnvD n ds (lf g) a ∧ Cf g w ∧ pf g
theorem CWI.cut {G : Type} (lf : G → List (Nat × Value)) (Cf : G → World → Prop) (pf : G → Prop) (hx : CWI P ro Rx (.lp (JoinI n ds lf Cf pf) :: k) x n ds l C) (hy : ∀ g, pf g → CWI P ro Rx k y n ds (lf g) (Cf g)) : CWI P ro Rx k (.seq x y) n ds l C :=
  ⟨fun a w he hc => wpIn_seq (wpIn_mono (hx.run a w he hc) (fun e a w hk => by
    cases e <;> first | exact hk | (obtain ⟨g, h1, h2, h3⟩ := hk.join; exact (hy g h3).run a w h1 h2)))⟩
theorem KNI.join {G : Type} {lf : G → List (Nat × Value)} {Cf : G → World → Prop} {pf : G → Prop} (g : G) (hl : SubL (lf g) l) (hC : ∀ w, C w → Cf g w) (hp : pf g) : KNI P ro Rx (.lp (JoinI n ds lf Cf pf) :: k) n ds l C :=
  ⟨fun _ w he hc => ⟨g, he.sub hl.sub, hC w hc, hp⟩⟩

theorem CWI.reg {id : Nat} {ops : Array Oper} (is : List Nat) (hi : sp is = seqPlan 0 ops.size) (hnd : noDefer ops = true) (h : SXI P ops (fun _ => True) (KtI P ro Rx k .normal) (sp is) n ds l C) : CWI P ro Rx k (.region id ops false) n ds l C :=
  ⟨fun a w he hc => wpIn_mono (wpI_straight hnd (by rw [← hi]; exact h.run a w he hc trivial)) (fun e a w hk => by cases e <;> first | exact hk | exact hk.elim)⟩
theorem CWI.regD {id : Nat} {ops : Array Oper} (p : Plan) (S : World → Prop) (hm : P.follows .mixedOrders = true) (hok : (noDefer ops && (Region.noSelect ops && planOk ops p ops.size (Array.replicate ops.size false) none)) = true)
    (hd : ∀ w, C w → C w.drew) (hS : ∀ w, C w → S w) (h : SXI P ops S (KtI P ro Rx k .normal) p n ds l C) : CWI P ro Rx k (.region id ops true) n ds l C :=
  ⟨fun a w he hc => wpIn_mono (wpI_planned p hm hok (hS _ (hd w hc)) (h.run a w.drew he (hd w hc) (hS _ (hd w hc)))) (fun e a w hk => by cases e <;> first | exact hk | exact hk.elim)⟩
theorem SXI.end_ {ops : Array Oper} {S : World → Prop} (h : KNI P ro Rx k n ds l C) : SXI P ops S (KtI P ro Rx k .normal) .done n ds l C := SXI.done h.run
theorem SXI.next {ops : Array Oper} {S : World → Prop} (h : CWI P ro Rx k y n ds l C) : SXI P ops S (KtI P ro Rx (.code y :: k) .normal) .done n ds l C := SXI.done h.run

/-- A function that holds such loops. -/
theorem calls_ofI {f : FuncId} {fn : Func} {args : List Value} {w : World} {R : Ending → World → Prop} (hf : P.funcs[f]? = some fn) (hb : fn.body = some c) (hn : fn.ntmps = n) (hlen : Nat.ble args.length n = true) (hw : C w)
    (h : CWI P none (bodyPostM Fence.wide 0 P fn R) [] c n [] (argEnv 0 args) C) : Calls P f args.toArray w R := by
  replace hlen : args.length ≤ n := Nat.le_of_ble_eq_true hlen
  refine (callsIn_wide (n := 0)).1 (callsIn_of_wp_marks hf hb trivial ?_)
  refine wpIn_mono (h.run _ w ⟨⟨by simp [hn]; omega, rfl, fun t v ht => ?_⟩, rfl⟩ hw) (fun e a w hk => hk)
  obtain ⟨_, h2⟩ := lk_argEnv args 0 t v ht
  simp only [Nat.sub_zero] at h2
  have hlt : t < args.length := by
    rcases Nat.lt_or_ge t args.length with h | h
    · exact h
    · rw [List.getElem?_eq_none h] at h2; cases h2
  rw [List.getElem?_eq_getElem hlt, Option.some.injEq] at h2
  simp [Array.getElem?_append, hlt, h2]
end
end Go.Sx
