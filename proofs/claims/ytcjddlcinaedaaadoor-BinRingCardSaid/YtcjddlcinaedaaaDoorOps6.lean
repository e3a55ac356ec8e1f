/- Slices of the walk's own: read, written, begun; what the world tells as plain facts; least and greatest. No condition. -/
import Derived.Test.YtcjddlcinaedaaaDoorOps5
namespace Go.Sx
open Go

section
variable {P : Program} {ops : Array Oper} {S : World → Prop} {K : Act → World → Prop} {p : Plan} {n : Nat} {l : List (Nat × Value)} {C C' : World → Prop} {R : Act → World → Prop} {k : List KI} {c : Code}
theorem SX.know {φ : Prop} (h : ∀ w, C w → φ) (hk : φ → SX P ops S K p n l C) : SX P ops S K p n l C := ⟨fun a w he hc hs => (hk (h w hc)).run a w he hc hs⟩
theorem SX.pre (h : ∀ w, C w → C' w) (hk : SX P ops S K p n l C') : SX P ops S K p n l C := ⟨fun a w he hc hs => hk.run a w he (h w hc) hs⟩
theorem CW.know {φ : Prop} (h : ∀ w, C w → φ) (hk : φ → CW P R k c n l C) : CW P R k c n l C := ⟨fun a w he hc => (hk (h w hc)).run a w he hc⟩
theorem CW.pre (h : ∀ w, C w → C' w) (hk : CW P R k c n l C') : CW P R k c n l C := ⟨fun a w he hc => hk.run a w he (h w hc)⟩
theorem KN.know {φ : Prop} (h : ∀ w, C w → φ) (hk : φ → KN P R k n l C) : KN P R k n l C := ⟨fun a w he hc => (hk (h w hc)).run a w he hc⟩
theorem KN.pre (h : ∀ w, C w → C' w) (hk : KN P R k n l C') : KN P R k n l C := ⟨fun a w he hc => hk.run a w he (h w hc)⟩
end

section
variable {F : Nat → Prop} {w₀ w : World} {L : List Atom} {E sz m c : Nat} {A : Option Addr} {xs : List Value}
theorem Sep.begin_ (h : Sep F L w) (E sz : Nat) : Sep F (own E sz none 0 0 [] :: L) w :=
  ⟨fun _ => False, ⟨⟨by simp, .inl ⟨rfl, rfl⟩⟩, fun k => ⟨fun h => h.elim, fun h => h.1 rfl⟩⟩, fun _ h => h.elim, h.weak (fun _ h => h.elim id False.elim)⟩
/-- A slice that is nil is a slice of the walk's own. -/
theorem St.begin_ (E sz : Nat) (h : St F w₀ L w) : St F w₀ (own E sz none 0 0 [] :: L) w := ⟨h.fr, h.lt, h.sep.begin_ E sz⟩
theorem St.ownA {q : Nat} (hi : L[q]? = some (own E sz A m c xs)) (h : St F w₀ L w) : (m ≠ 0 → A = some ⟨ob A, 0, none⟩) ∧ m ≤ c ∧ xs.length = m * sz := by
  obtain ⟨D, ⟨⟨h1, h2⟩, _⟩, _⟩ := h.sep.at_ hi
  rcases h2 with ⟨h2, h3⟩ | ⟨g, cap, cur, hv, _, _, hc, _⟩
  · injection h2 with _ _ h4
    exact ⟨fun hn => absurd h3 hn, by omega, h1⟩
  · injection hv with hA hm hc2
    subst hA
    exact ⟨fun _ => rfl, by omega, h1⟩
theorem St.ownCell {q j : Nat} {v : Value} (hi : L[q]? = some (own E sz A m c xs)) (hv : xs[j]? = some v) (h : St F w₀ L w) : w.cell? ⟨ob A, 0 + j, none⟩ = some v := by
  obtain ⟨D, ⟨⟨h1, h2⟩, _⟩, _⟩ := h.sep.at_ hi
  rcases h2 with ⟨h2, h3⟩ | ⟨g, cap, cur, hv2, _, hh, hc, hm, hs, ht⟩
  · have := List.eq_nil_of_length_eq_zero (show xs.length = 0 by rw [h1, h3, Nat.zero_mul])
    subst this
    simp at hv
  · injection hv2 with hA
    subst hA
    rw [Nat.zero_add]
    show w.cell? ⟨g, j, none⟩ = some v
    rw [cell_of_blk hh]
    rw [← ht, List.getElem?_take] at hv
    split at hv
    · simpa using hv
    · cases hv
theorem St.ownFree {q j : Nat} (hi : L[q]? = some (own E sz A m c xs)) (hm : m ≠ 0) (h : St F w₀ L w) : w.frozen? ⟨ob A, j, none⟩ = false := by
  obtain ⟨D, ⟨⟨h1, h2⟩, _⟩, _⟩ := h.sep.at_ hi
  rcases h2 with ⟨_, h3⟩ | ⟨g, cap, cur, hv2, _, hh, _⟩
  · exact absurd h3 hm
  · injection hv2 with hA
    subst hA
    exact frozen_of_blk hh j
theorem St.ownSet {q j : Nat} {v : Value} (hi : L[q]? = some (own E sz A m c xs)) (hj : j < xs.length) (h : St F w₀ L w) : St F w₀ (L.set q (own E sz A m c (xs.set j v))) (w.setCell ⟨ob A, 0 + j, none⟩ v) := by
  obtain ⟨D, ⟨⟨h1, h2⟩, hD⟩, hlt, hmk⟩ := h.work hi
  rcases h2 with ⟨_, h3⟩ | ⟨g, cap, cur, hv2, hb, hh, hc, hm, hs, ht⟩
  · rw [h1, h3, Nat.zero_mul] at hj; omega
  · injection hv2 with hA hm2 hc2
    subst hA
    clear hm2
    subst hc2
    rw [Nat.zero_add]
    refine hmk _ _ D ⟨rfl, rfl, rfl, by simp [World.setCell], fun k hk => heap_set_other _ _ _ (fun e => hk.2 ((hD k).2 ⟨by simp, e⟩))⟩ ⟨⟨by simpa using h1, .inr ⟨g, c, cur.setIfInBounds j v, rfl, hb, heap_set_same hh j v, hc, hm, by simpa using hs, ?_⟩⟩, hD⟩ (fun k hk => ⟨.inl hk, by simp [World.setCell]; exact hlt k hk⟩)
    rw [Array.toList_setIfInBounds, List.take_set, ht]
theorem ob_off (h : A = some ⟨ob A, 0, none⟩) : A = some ⟨ob A, oo A, none⟩ := by
  conv => rhs; rw [h]
  conv => lhs; rw [h]
  rfl
theorem oo_zero (h : A = some ⟨ob A, 0, none⟩) : oo A = 0 := by rw [h]; rfl
end

section
variable {P : Program} {ops : Array Oper} {S : World → Prop} {K : Act → World → Prop} {p : Plan} {n : Nat} {l : List (Nat × Value)} {C : World → Prop} {fl : Bool} {i : Nat} {ty ty' ty2 ty3 : TypeId} {x y z u : Operand}
variable {F : Nat → Prop} {w₀ : World} {L L' : List Atom}

/-- What is appended to a slice that is nil. -/
theorem s_app0 (d : Nat) {E sz by_ : Nat} {zv : Value} {B : Option Addr} {m2 c2 : Nat} {ys : List Value} {T : TypeId}
    (ho : opAt ops n l i = some (some d, .call ⟨.builtin .append, #[x, y], #[T, T]⟩, ty)) [hT : SlT P T E sz by_ zv] (hx : ev l x = some (.slice none 0 0)) (hy : ev l y = some (.slice B m2 c2))
    (hv : ∀ w, St F w₀ L w → Has (sl sz B m2 ys) w) (h1 : ys.all (·.oneCell') = true) (hz : zv.cells.size = sz) (h0 : 0 < sz) (h63 : m2 ≤ maxLen) (hb : m2 * by_ ≤ 140737488355328)
    (hS : ∀ A' c' w, St F w₀ (own E sz A' m2 c' ys :: L) w → S w)
    (h : ∀ A' c', m2 ≤ c' → SX P ops S K p n ((d, .slice A' m2 c') :: l) (St F w₀ (own E sz A' m2 c' ys :: L))) : SX P ops S K (.st false i p) n l (St F w₀ L) := by
  refine SX.pre (fun w hw => hw.begin_ E sz) ?_
  have := s_app (P := P) (ops := ops) (S := S) (K := K) (p := p) (n := n) (l := l) (F := F) (w₀ := w₀) (L := own E sz none 0 0 [] :: L) d 0 (T := T) (xs := []) (ys := ys) rfl ho hx hy
    (fun w hw => hv w ⟨hw.fr, hw.lt, hw.sep.tail⟩) h1 hz h0 (by rw [Nat.zero_add]; exact h63) (by rw [Nat.zero_add]; exact hb)
  simp only [Nat.zero_add, List.nil_append, List.set_cons_zero] at this
  exact this hS h
/-- At index j of a slice of the walk's own. -/
theorem s_iaO (d q j : Nat) {E by_ : Nat} {zv : Value} {A : Option Addr} {m c : Nat} {k : IntKind} {b : Int} {xs : List Value} (hi : L[q]? = some (own E 1 A m c xs)) (ho : opAt ops n l i = some (some d, .indexAddr ty x y, ty2)) [SlT P ty E 1 by_ zv] (hx : ev l x = some (.slice A m c)) (hy : ev l y = some (.int k b))
    (hq : b = (j : Nat)) (hj : j < m) (h : SX P ops S K p n ((d, (.pointer (some ⟨ob A, 0 + j, none⟩))) :: l) (St F w₀ L)) : SX P ops S K (.st fl i p) n l (St F w₀ L) := by
  refine SX.know (fun w hw => (hw.ownA hi).1 (by omega)) (fun hA => ?_)
  refine s_iaQ d j ho hx hy hq hj (ob_off hA) ?_
  rw [oo_zero hA]
  exact h
theorem s_ldO (d q : Nat) {E sz j : Nat} {A : Option Addr} {m c : Nat} {xs : List Value} {v : Value} (hi : L[q]? = some (own E sz A m c xs)) (ho : opAt ops n l i = some (some d, .load ty x, ty2)) [One P ty] (hx : ev l x = some (.pointer (some ⟨ob A, 0 + j, none⟩))) (hv : xs[j]? = some v)
    (h : SX P ops S K p n ((d, v) :: l) (St F w₀ L)) : SX P ops S K (.st false i p) n l (St F w₀ L) :=
  s_ld d ho hx (fun _ hw => hw.ownCell hi hv) h
theorem s_stO (q : Nat) {E j : Nat} {A : Option Addr} {m c : Nat} {xs : List Value} {v : Value} (hi : L[q]? = some (own E 1 A m c xs)) (ho : opAt ops n l i = some (none, .store ty x y, ty2)) [One P ty] (hx : ev l x = some (.pointer (some ⟨ob A, 0 + j, none⟩))) (hy : ev l y = some v) (hv : oneCell v = true)
    (hj : j < m) (hS : ∀ w, St F w₀ (L.set q (own E 1 A m c (xs.set j v))) w → S w) (h : SX P ops S K p n l (St F w₀ (L.set q (own E 1 A m c (xs.set j v))))) : SX P ops S K (.st false i p) n l (St F w₀ L) := by
  refine SX.know (fun w hw => (hw.ownA hi).2.2) (fun hl => ?_)
  rw [Nat.mul_one] at hl
  refine s_st ho hx hy hv (fun _ hw => ⟨⟨_, hw.ownCell hi (List.getElem?_eq_getElem (by omega))⟩, hw.ownFree hi (by omega), hw.ownSet hi (by omega)⟩) hS h
/-- At index j of a slice that is read. -/
theorem s_iaV (d j : Nat) {E sz by_ : Nat} {zv : Value} {A : Option Addr} {m c : Nat} {k : IntKind} {b : Int} {vs : List Value} (hv : ∀ w, C w → Has (sl sz A m vs) w) (ho : opAt ops n l i = some (some d, .indexAddr ty x y, ty2)) [SlT P ty E sz by_ zv] (hx : ev l x = some (.slice A m c)) (hy : ev l y = some (.int k b))
    (hq : b = (j : Nat)) (hj : j < m) (h : SX P ops S K p n ((d, (.pointer (some ⟨ob A, oo A + j * sz, none⟩))) :: l) C) : SX P ops S K (.st fl i p) n l C := by
  refine SX.know (fun w hw => (hv w hw).sl_some (by omega)) (fun hA => ?_)
  subst hq
  have e := s_ia d (P := P) (ops := ops) (S := S) (K := K) (p := p) (n := n) (l := l) (C := C) (fl := fl) (i := i) (g := ob A) (o := oo A) (m := m) (c := c) (k := k) (j := ((j : Nat) : Int)) ho (by rw [← hA]; exact hx) hy (by omega)
  simp only [Int.toNat_natCast] at e
  exact e h
theorem s_ldV (d : Nat) {sz j : Nat} {A : Option Addr} {m : Nat} {vs : List Value} {v : Value} (hv : ∀ w, C w → Has (sl sz A m vs) w) (ho : opAt ops n l i = some (some d, .load ty x, ty2)) [One P ty] (hx : ev l x = some (.pointer (some ⟨ob A, oo A + j, none⟩))) (hj : vs[j]? = some v) (hm : m ≠ 0)
    (h : SX P ops S K p n ((d, v) :: l) C) : SX P ops S K (.st false i p) n l C :=
  s_ld d ho hx (fun w hw => ((hv w hw).sl_cell hm hj).2) h
theorem s_ldVS (d : Nat) {sz j : Nat} {A : Option Addr} {m : Nat} {vs : List Value} {v : Value} (hv : ∀ w, S w → Has (sl sz A m vs) w) (ho : opAt ops n l i = some (some d, .load ty x, ty2)) [One P ty] (hx : ev l x = some (.pointer (some ⟨ob A, oo A + j, none⟩))) (hj : vs[j]? = some v) (hm : m ≠ 0)
    (h : SX P ops S K p n ((d, v) :: l) C) : SX P ops S K (.st true i p) n l C :=
  s_ldS d ho hx (fun w hw => ((hv w hw).sl_cell hm hj).2) h
end

/-! ### Least and greatest -/
section
variable {P : Program} {ops : Array Oper} {S : World → Prop} {K : Act → World → Prop} {p : Plan} {n : Nat} {l : List (Nat × Value)} {C : World → Prop} {fl : Bool} {i : Nat} {ty : TypeId} {x y : Operand} {ts : Array TypeId}
theorem run_min2 {w : World} (k k' : IntKind) (a b : Int) : (Builtin.min_ ts ty #[.int k a, .int k' b]).run P w = .ok (.int k (if b < a then b else a)) w := by
  simp [Builtin.min_, Builtin.min2]
theorem run_max2 {w : World} (k k' : IntKind) (a b : Int) : (Builtin.max_ ts ty #[.int k a, .int k' b]).run P w = .ok (.int k (if b > a then b else a)) w := by
  simp [Builtin.max_, Builtin.max2]
theorem s_min (d : Nat) {k k' : IntKind} {a b r : Int} (ho : opAt ops n l i = some (some d, .call ⟨.builtin .min, #[x, y], ts⟩, ty)) (hx : ev l x = some (.int k a)) (hy : ev l y = some (.int k' b)) (hr : (if b < a then b else a) = r)
    (h : SX P ops S K p n ((d, (.int k r)) :: l) C) : SX P ops S K (.st fl i p) n l C :=
  SX.pure ho (fun e w o he h1 _ => by
    subst hr
    simp only [execOp, h1, resolve, Sem.run_bind, Sem.run_pure, Result.andThen_ok, invoke, builtin, List.map_toArray, List.map_cons, List.map_nil, he.ev hx, he.ev hy, run_min2]) h
theorem s_max (d : Nat) {k k' : IntKind} {a b r : Int} (ho : opAt ops n l i = some (some d, .call ⟨.builtin .max, #[x, y], ts⟩, ty)) (hx : ev l x = some (.int k a)) (hy : ev l y = some (.int k' b)) (hr : (if b > a then b else a) = r)
    (h : SX P ops S K p n ((d, (.int k r)) :: l) C) : SX P ops S K (.st fl i p) n l C :=
  SX.pure ho (fun e w o he h1 _ => by
    subst hr
    simp only [execOp, h1, resolve, Sem.run_bind, Sem.run_pure, Result.andThen_ok, invoke, builtin, List.map_toArray, List.map_cons, List.map_nil, he.ev hx, he.ev hy, run_max2]) h
end
end Go.Sx
