/- The walk of the statement DrivePlays, text 2. Conditions: each theorem tells its own. -/
import Derived.Test.YtcapijdokbkgaaaDoorWDrivePlaysA
import Derived.ChangeSlices
import Derived.WideShapes
import Derived.Laws.BytesArg
import Derived.Laws.Strings
section
/- Calls that are lent a part of the walk's own memory. No condition. -/
namespace Go.Sx
open Go
section
variable {F : Nat → Prop} {w₀ w : World} {M R : List Atom}
/-- A part is lent: what is done with it leaves the rest. -/
theorem St.lend (h : St F w₀ (M ++ R) w) : ∃ F' : Nat → Prop, St F' w M w ∧ (∀ w', Fr F' w w' → St F w₀ R w') ∧ ∀ M' w', St F' w M' w' → St F w₀ (M' ++ R) w' := by
  obtain ⟨D, h1, h2, h3⟩ := ((St.star M).1 h).sep
  have hmono : ∀ w', Fr (fun k => k < w.heap.size ∧ ¬ D k) w w' → ∀ G : Nat → Prop, (∀ k, G k → k < w.heap.size → F k ∨ D k) → Sep G R w' := fun w' hf G hG =>
    Sep.mono h3 (fun k hk hn => hf.block k ⟨hk, fun hd => hn (.inr hd)⟩) hf.size (fun k hg => by
      by_cases hk : k < w.heap.size
      · exact .inl (hG k hg hk)
      · exact .inr (by omega))
  have hF : ∀ k, F k → k < w.heap.size ∧ ¬ D k := fun k hk => ⟨h.lt' k hk, fun hd => (h2 k hd).1 hk⟩
  refine ⟨fun k => k < w.heap.size ∧ ¬ D k, ⟨Fr.refl _ _, fun k hk => hk.1, ?_⟩, fun w' hf => ⟨h.fr.trans (hf.mono hF), h.lt, hmono w' hf F (fun k hk _ => .inl hk)⟩, fun M' w' h' => ?_⟩
  · have hs : Sep (fun k => k < w.heap.size ∧ ¬ D k) (starA M :: []) w := ⟨D, h1, fun k hk => ⟨fun hn => hn.2 hk, (h2 k hk).2⟩, trivial⟩
    have := (Sep.star M).2 hs
    rwa [List.append_nil] at this
  · have hs : Sep (fun k => k < w.heap.size ∧ ¬ D k) (M' ++ []) w' := by rw [List.append_nil]; exact h'.sep
    obtain ⟨D', k1, k2, _⟩ := (Sep.star M').1 hs
    refine ⟨h.fr.trans (h'.fr.mono hF), h.lt, (Sep.star M').2 ⟨D', k1, fun k hk => ⟨fun hf => (k2 k hk).1 (hF k hf), (k2 k hk).2⟩, hmono w' h'.fr _ (fun k hk hlt => ?_)⟩⟩
    rcases hk with hk | hk
    · exact .inl hk
    · exact .inr (Classical.byContradiction fun hd => (k2 k hk).1 ⟨hlt, hd⟩)
end
section
variable {P : Program} {ops : Array Oper} {S : World → Prop} {K : Act → World → Prop} {p : Plan} {n : Nat} {l : List (Nat × Value)} {i : Nat} {ty : TypeId} {x : Operand} {F : Nat → Prop} {w₀ : World} {A : List Atom}
/-- A call that is lent M, and gives M' back. -/
theorem s_callP (d : Nat) (is : List Nat) {M R : List Atom} {as1 : Array Operand} {ts : Array TypeId} {g : FuncId} {fs cs : Array Value} {vs L : List Value} {X : Type} {v : X → Value} {pf : X → Prop} {M' : X → List Atom} (hpk : picks A is = some (M ++ R))
    (ho : opAt ops n l i = some (some d, .call ⟨.value x, as1, ts⟩, ty)) (hx : ev l x = some (.func (.func g) fs cs)) (has : evs l as1.toList = some vs) (hL : fs.toList ++ vs ++ cs.toList = L) [hg : Enters P g]
    (hc : ∀ (F' : Nat → Prop) w, (∀ w', Fr F' w w' → St F w₀ R w') → St F' w M w → Calls P g L.toArray w (fun e w' => ∃ x, e = .returned (v x) ∧ pf x ∧ St F' w (M' x) w')) (hS : ∀ x w, St F w₀ (M' x ++ R) w → S w) (h : ∀ x, pf x → SX P ops S K p n ((d, (v x)) :: l) (St F w₀ (M' x ++ R))) : SX P ops S K (.st false i p) n l (St F w₀ A) :=
  SX.enter (C' := fun x w => St F w₀ (M' x ++ R) w) ho (fun _ _ _ he h1 _ => run_call he h1 hx has hL) (fun w hw => by
    obtain ⟨F', h1, h2, h3⟩ := (hw.pick is hpk).lend
    exact Calls.mono (hc F' w h2 h1) (fun e w' ⟨x, e1, e2, e3⟩ => ⟨x, e1, e2, h3 _ _ e3⟩)) hS h
end
end Go.Sx
end
section
/- Slices of one's own that lie many in one part: their cells stored. No condition. -/
namespace Go.Sx
open Go
section
variable {F : Nat → Prop} {w₀ : World} {L L' : List Atom}
end
section
variable {P : Program} {ops : Array Oper} {S : World → Prop} {K : Act → World → Prop} {p : Plan} {n : Nat} {l : List (Nat × Value)} {C : World → Prop} {fl : Bool} {i : Nat} {ty ty' ty2 : TypeId} {x y : Operand}
variable {F : Nat → Prop} {w₀ : World} {L : List Atom}
end
end Go.Sx
end
section
/- Rows of structs of any kind that lie in memory; rows made, stored whole; a part taken out of many, and put back. No condition. -/
namespace Go.Sx
open Go
section
variable {α : Type} {row : α → List Value} {k : Nat}
theorem flat_len (hk : ∀ a, (row a).length = k) : ∀ l : List α, (l.flatMap row).length = l.length * k
  | [] => by simp
  | a :: l => by
    rw [List.flatMap_cons, List.length_append, hk, flat_len hk l, List.length_cons, Nat.succ_mul]
    omega
theorem flat_at (hk : ∀ a, (row a).length = k) : ∀ {l : List α} {i : Nat} {a : α} {j : Nat} {v : Value}, l[i]? = some a → (row a)[j]? = some v → (l.flatMap row)[i * k + j]? = some v
  | [], i, a, j, v, h, _ => by simp at h
  | b :: l, 0, a, j, v, h, hv => by
    obtain rfl : b = a := by simpa using h
    rw [List.flatMap_cons, Nat.zero_mul, Nat.zero_add, List.getElem?_append_left (List.getElem?_eq_some_iff.1 hv).1]
    exact hv
  | b :: l, i + 1, a, j, v, h, hv => by
    have ih := flat_at hk (l := l) (i := i) (by simpa using h) hv
    rw [List.flatMap_cons, List.getElem?_append_right (by rw [hk, Nat.succ_mul]; omega), ← ih, hk]
    congr 1
    rw [Nat.succ_mul]
    omega
theorem flat_take (hk : ∀ a, (row a).length = k) (l : List α) (i : Nat) : (l.flatMap row).take (i * k) = (l.take i).flatMap row := by
  by_cases h : i ≤ l.length
  · have e1 := congrArg (List.flatMap row) (List.take_append_drop i l)
    rw [List.flatMap_append] at e1
    rw [← e1]
    exact List.take_left' (by rw [flat_len hk, List.length_take, Nat.min_eq_left h])
  · rw [List.take_of_length_le (by rw [flat_len hk]; exact Nat.mul_le_mul_right _ (by omega)), List.take_of_length_le (by omega)]
theorem flat_drop (hk : ∀ a, (row a).length = k) (l : List α) (i : Nat) : (l.flatMap row).drop (i * k) = (l.drop i).flatMap row := by
  by_cases h : i ≤ l.length
  · have e1 := congrArg (List.flatMap row) (List.take_append_drop i l)
    rw [List.flatMap_append] at e1
    rw [← e1]
    exact List.drop_left' (by rw [flat_len hk, List.length_take, Nat.min_eq_left h])
  · rw [List.drop_of_length_le (by rw [flat_len hk]; exact Nat.mul_le_mul_right _ (by omega)), List.drop_of_length_le (by omega)]
    rfl
/-- One row is another. -/
theorem flat_row (hk : ∀ a, (row a).length = k) {l : List α} {i : Nat} (hi : i < l.length) (b : α) : (l.set i b).flatMap row = (l.flatMap row).take (i * k) ++ row b ++ (l.flatMap row).drop (i * k + k) := by
  rw [List.set_eq_take_append_cons_drop, if_pos hi, List.flatMap_append, List.flatMap_cons, flat_take hk, ← Nat.succ_mul, flat_drop hk, List.append_assoc]
theorem flat_set (hk : ∀ a, (row a).length = k) {l : List α} {i : Nat} {a b : α} {j : Nat} {v : Value} (h : l[i]? = some a) (hj : j < k) (hb : row b = (row a).set j v) : (l.set i b).flatMap row = (l.flatMap row).set (i * k + j) v := by
  have hi := (List.getElem?_eq_some_iff.1 h).1
  have hl := flat_len hk l
  have hle : i * k + k ≤ l.length * k := by
    rw [← Nat.succ_mul]
    exact Nat.mul_le_mul_right _ hi
  apply List.ext_getElem?
  intro t
  rw [flat_row hk hi, hb, List.getElem?_set]
  by_cases h1 : t < i * k
  · rw [if_neg (by omega), List.append_assoc, List.getElem?_append_left (by rw [List.length_take]; omega), List.getElem?_take, if_pos h1]
  · by_cases h2 : t < i * k + k
    · rw [List.getElem?_append_left (by rw [List.length_append, List.length_take, List.length_set, hk]; omega), List.getElem?_append_right (by rw [List.length_take]; omega), List.length_take, Nat.min_eq_left (by omega), List.getElem?_set, hk]
      by_cases h3 : i * k + j = t
      · subst h3
        rw [if_pos (by omega), if_pos (by omega), if_pos rfl, if_pos (by omega)]
      · rw [if_neg (by omega), if_neg h3]
        obtain ⟨q, rfl⟩ : ∃ q, t = i * k + q := ⟨t - i * k, by omega⟩
        have hq : q < (row a).length := by rw [hk]; omega
        rw [Nat.add_sub_cancel_left, List.getElem?_eq_getElem hq, flat_at hk h (List.getElem?_eq_getElem hq)]
    · rw [if_neg (by omega), List.getElem?_append_right (by rw [List.length_append, List.length_take, List.length_set, hk]; omega), List.length_append, List.length_take, List.length_set, hk, Nat.min_eq_left (by omega), List.getElem?_drop]
      congr 1
      omega
theorem flat_rep (a : α) : ∀ n : Nat, (List.replicate n a).flatMap row = (List.replicate n (row a)).flatten
  | 0 => rfl
  | n + 1 => by rw [List.replicate_succ, List.flatMap_cons, flat_rep a n, List.replicate_succ, List.flatten_cons]
end
theorem toList_madeCells {z : Array Value} {s : Nat} (hz : z.size = s) (hs : 0 < s) (n : Nat) : (madeCells z (n * s)).toList = (List.replicate n z.toList).flatten := by
  have hf := flat_rep (row := fun _ : Unit => z.toList) () n
  have hl : ((List.replicate n ()).flatMap (fun _ : Unit => z.toList)).length = n * s := by rw [flat_len (k := s) (fun _ => by simpa using hz), List.length_replicate]
  rw [← hf]
  apply List.ext_getElem?
  intro j
  by_cases hj : j < n * s
  · have h1 : j / s < n := (Nat.div_lt_iff_lt_mul hs).2 hj
    have h2 : j % s < z.size := by rw [hz]; exact Nat.mod_lt _ hs
    have h3 := flat_at (row := fun _ : Unit => z.toList) (k := s) (fun _ => by simpa using hz) (l := List.replicate n ()) (i := j / s) (a := ()) (j := j % s) (v := z[j % s]) (by simp [h1]) (by simp [h2])
    rw [Nat.div_add_mod'] at h3
    rw [h3]
    simp only [madeCells, Array.toList_map, Array.toList_range, List.getElem?_map, List.getElem?_range hj, Option.map_some, hz]
    rw [getElem!_pos z _ h2]
  · rw [List.getElem?_eq_none (by rw [Array.length_toList, size_madeCells]; omega), List.getElem?_eq_none (by omega)]
section
variable {F : Nat → Prop} {w₀ w : World} {L X : List Atom} {A A' : Atom}
/-- One of many, at the head. -/
theorem St.focus {i : Nat} (hi : X[i]? = some A) (h : St F w₀ (starA X :: L) w) : St F w₀ (A :: starA (X.eraseIdx i) :: L) w := by
  have h1 := (St.star X).2 h
  have hp : X.Perm (A :: X.eraseIdx i) := by
    have hl := (List.getElem?_eq_some_iff.1 hi).1
    have e : X[i] = A := (List.getElem?_eq_some_iff.1 hi).2
    rw [List.eraseIdx_eq_take_drop_succ, ← e]
    conv => lhs; rw [← List.take_append_drop i X, List.drop_eq_getElem_cons hl]
    exact List.perm_middle
  have h2 : St F w₀ (A :: (X.eraseIdx i ++ L)) w := h1.perm (hp.append_right L)
  have h3 : St F w₀ (X.eraseIdx i ++ (A :: L)) w := h2.perm List.perm_middle.symm
  have h4 := (St.star (X.eraseIdx i)).1 h3
  exact h4.perm (List.Perm.swap ..)
theorem St.unfocus {i : Nat} (hi : i < X.length) (h : St F w₀ (A' :: starA (X.eraseIdx i) :: L) w) : St F w₀ (starA (X.set i A') :: L) w := by
  have h1 : St F w₀ (starA (X.eraseIdx i) :: (A' :: L)) w := h.perm (List.Perm.swap ..)
  have h2 := (St.star (X.eraseIdx i)).2 h1
  have h3 : St F w₀ (A' :: (X.eraseIdx i ++ L)) w := h2.perm List.perm_middle
  have hp : (X.set i A').Perm (A' :: X.eraseIdx i) := by
    rw [List.eraseIdx_eq_take_drop_succ, List.set_eq_take_append_cons_drop, if_pos hi]
    exact List.perm_middle
  exact (St.star (X.set i A')).1 (h3.perm (hp.symm.append_right L))
theorem St.open_ (h : St F w₀ (starA X :: L) w) : St F w₀ (X ++ L) w := (St.star X).2 h
theorem St.close_ (X : List Atom) (h : St F w₀ (X ++ L) w) : St F w₀ (starA X :: L) w := (St.star X).1 h
end
section
variable {P : Program} {ops : Array Oper} {S : World → Prop} {K : Act → World → Prop} {p : Plan} {n : Nat} {l : List (Nat × Value)} {C : World → Prop} {fl : Bool} {i : Nat} {ty ty' ty2 ty3 : TypeId} {x y z u : Operand}
variable {F : Nat → Prop} {w₀ : World} {L L' : List Atom}
/-- Rows made. -/
theorem s_makeR (d q : Nat) {E sz by_ : Nat} {zv : Value} {k k' : IntKind} {m : Int} (ho : opAt ops n l i = some (some d, .makeSlice ty' x y, ty)) [hT : SlT P ty' E sz by_ zv] (hx : ev l x = some (.int k m)) (hy : ev l y = some (.int k' m))
    (hq : m = (q : Nat)) (hz : zv.cells.size = sz) (h0 : 0 < sz) (hm : by_ * q ≤ 281474976710656 ∧ q ≤ maxLen) (hS : ∀ w, St F w₀ L w → S w)
    (h : ∀ g, SX P ops S K p n ((d, .slice (some ⟨g, 0, none⟩) q q) :: l) (St F w₀ (own E sz (some ⟨g, 0, none⟩) q q (List.replicate q zv.cells.toList).flatten :: L))) : SX P ops S K (.st false i p) n l (St F w₀ L) :=
  s_new d (v := fun g => .slice (some ⟨g, 0, none⟩) q q) (T := E) (cs := madeCells zv.cells (q * sz)) ho (fun a w o he h1 _ => by
    subst hq
    obtain ⟨inf, hi, hs, hby, hz'⟩ := hT.info
    have hb : (by_ : Int) * (q : Nat) ≤ 281474976710656 := by rw [← Int.natCast_mul]; omega
    have hr := run_make (P := P) w ty' E inf zv hT.under hi hz' k k' (q : Nat) (q : Nat) (by omega) (Int.le_refl _) (by rw [hby]; exact hb) (by have := hm.2; unfold maxLen at this; omega)
    rw [hs] at hr
    simp only [Int.toNat_natCast] at hr
    simp only [execOp, h1, he.ev hx, he.ev hy, Sem.run_bind, hr, Result.andThen_ok, Sem.run_pure]) hS (fun g => SX.pre (fun _ hw => by
      have h2 := hw.blkOwnM (q := 0) (m := q) (c := q) (sz := sz) rfl (by rw [size_madeCells]) (Nat.le_refl _) hm.2
      rw [List.take_of_length_le (by rw [Array.length_toList, size_madeCells]; exact Nat.le_refl _), toList_madeCells hz h0] at h2
      exact h2) (h g))
/-- A row of one's own, stored whole. -/
theorem s_stRow (q : Nat) {E sz t : Nat} {A : Option Addr} {m c : Nat} {xs vs : List Value} (hi : L[q]? = some (own E sz A m c xs)) (ho : opAt ops n l i = some (none, .store ty x y, ty2)) (hz : (P.info? ty).map (·.size) = some vs.length) (hx : ev l x = some (.pointer (some ⟨ob A, 0 + t, none⟩))) (hy : ev l y = some (.agg vs.toArray))
    (hm : m ≠ 0) (hfit : t + vs.length ≤ xs.length) (hv : vs.all (·.oneCell') = true) (hS : ∀ w, St F w₀ (L.set q (own E sz A m c (xs.take t ++ vs ++ xs.drop (t + vs.length)))) w → S w) (h : SX P ops S K p n l (St F w₀ (L.set q (own E sz A m c (xs.take t ++ vs ++ xs.drop (t + vs.length)))))) : SX P ops S K (.st false i p) n l (St F w₀ L) := by
  obtain ⟨it, hit, hsz⟩ := info_of hz
  refine SX.act (d := none) (X := Unit) (v := fun _ => undef) (C' := fun _ => St F w₀ (L.set q (own E sz A m c (xs.take t ++ vs ++ xs.drop (t + vs.length))))) ho (fun a w o he hw h1 _ => ?_) (fun _ => hS) (fun _ => h)
  obtain ⟨D, ⟨⟨hl, hown⟩, hD⟩, hlt, hmk⟩ := hw.work hi
  rcases hown with ⟨_, hm0⟩ | ⟨g, cap, cur, hv2, hb, hh, hmc, hmx, hcs, htk⟩
  · exact absurd hm0 hm
  · injection hv2 with hA hm2 hc2
    subst hA
    clear hm2
    subst hc2
    have hmc2 : m * sz ≤ c * sz := Nat.mul_le_mul_right _ hmc
    obtain ⟨r, hcur⟩ := own_split htk
    have hst := run_storeCells_at P g t E vs 0 cur w hh (by rw [hcs]; omega) (List.all_eq_true.1 hv)
    rw [Nat.add_zero] at hst
    have hr : (execOp a.eval o).run P w = .ok .skip (w.setRow g (cur.toList.take t ++ vs ++ cur.toList.drop (t + vs.length)).toArray) := by
      have e1 : a.eval x = .pointer (some ⟨g, t, none⟩) := by
        have := he.ev hx
        rw [Nat.zero_add] at this
        exact this
      simp only [execOp, h1, e1, he.ev hy, Sem.run_bind, Instr.storeAt, Instr.sureAddr, Sem.run_pure, Result.andThen_ok, storeVar, Value.cells, sizeOf, run_tinfo hit, hsz]
      simp [hst]
    refine ⟨(), _, .inr ⟨hr, rfl⟩, hmk _ _ D ⟨rfl, rfl, rfl, by simp [World.setRow], fun k hk => setRow_other w g k _ (fun e => hk.2 ((hD k).2 ⟨by simp, e⟩))⟩ ⟨⟨?_, .inr ⟨g, c, _, rfl, hb, setRow_heap w g cur _ E _ hh, hmc, hmx, ?_, ?_⟩⟩, hD⟩ (fun k hk => ⟨.inl hk, by simp [World.setRow]; exact hlt k hk⟩)⟩
    · rw [List.length_append, List.length_append, List.length_take, List.length_drop]
      omega
    · simp only [List.size_toArray, List.length_append, List.length_take, List.length_drop, Array.length_toList, hcs]
      omega
    · show (cur.toList.take t ++ vs ++ cur.toList.drop (t + vs.length)).take (m * sz) = _
      have e1 : cur.toList.take t = xs.take t := by rw [hcur, List.take_append_of_le_length (by omega)]
      have e2 : cur.toList.drop (t + vs.length) = xs.drop (t + vs.length) ++ r := by rw [hcur, List.drop_append_of_le_length (by omega)]
      rw [e1, e2, ← List.append_assoc]
      refine List.take_left' ?_
      rw [List.length_append, List.length_append, List.length_take, List.length_drop]
      omega
end
end Go.Sx
end
section
/- Pointers and errors of any kind against nil; calls that answer nothing; parts of stars. No condition. -/
namespace Go.Sx
open Go
/-- A value of an interface: nil, or something. -/
def isSomeV : Value → Option Bool
  | .nilIface => some false
  | .iface _ _ => some true
  | _ => none
section
variable {P : Program} {ops : Array Oper} {S : World → Prop} {K : Act → World → Prop} {p : Plan} {n : Nat} {l : List (Nat × Value)} {C : World → Prop} {fl : Bool} {i : Nat} {ty ty' ty2 ty3 : TypeId} {x y z u : Operand}
variable {F : Nat → Prop} {w₀ : World} {L L' : List Atom}
theorem s_nePG (d : Nat) {o : Option Addr} {r : Bool} (ho : opAt ops n l i = some (some d, .binOp .neq ty x (.const (.pointer none)) ty', ty2)) [hP : PtrT P ty] (hx : ev l x = some (.pointer o)) (hr : o.isSome = r) (h : SX P ops S K p n ((d, .bool r) :: l) C) : SX P ops S K (.st fl i p) n l C := by
  subst hr
  cases o with
  | some a => exact s_nePN d ho hx h
  | none =>
    refine SX.pure (v := .bool false) ho (fun a w o he h1 _ => ?_) h
    obtain ⟨e, hu⟩ := hP.under
    have e1 : a.eval (.const (.pointer none)) = .pointer none := rfl
    have e2 : (binOp .neq ty (.pointer none) (.pointer none)).run P w = .ok (.bool false) w := by
      simp only [binOp, Op.equal, Op.maxDepth, Sem.run_bind]
      rw [Op.equalIn]
      simp [run_underlying hu]
    simp only [execOp, h1, he.ev hx, e1, Sem.run_bind, eqGuard_ptr, e2, Result.andThen_ok, Sem.run_pure]
theorem s_neIG (d : Nat) {v : Value} {r : Bool} (ho : opAt ops n l i = some (some d, .binOp .neq ty x (.const .nilIface) ty', ty2)) [hI : IfT P ty] (hx : ev l x = some v) (hr : isSomeV v = some r) (h : SX P ops S K p n ((d, .bool r) :: l) C) : SX P ops S K (.st fl i p) n l C := by
  cases v <;> simp only [isSomeV, Option.some.injEq] at hr <;> first | (cases hr; done) | skip
  all_goals (subst hr; first | exact s_neNN d ho hx h | exact s_neHN d ho hx h)
theorem s_eqIG (d : Nat) {v : Value} {r : Bool} (ho : opAt ops n l i = some (some d, .binOp .eql ty x (.const .nilIface) ty', ty2)) [hI : IfT P ty] (hx : ev l x = some v) (hr : isSomeV v = some (!r)) (h : SX P ops S K p n ((d, .bool r) :: l) C) : SX P ops S K (.st fl i p) n l C := by
  cases v <;> simp only [isSomeV, Option.some.injEq] at hr <;> first | (cases hr; done) | skip
  all_goals (cases r <;> first | (cases hr; done) | exact s_eqNN d ho hx h | exact s_eqHN d ho hx h)
end
section
variable {F : Nat → Prop} {w₀ w : World} {L X Y : List Atom} {A : Atom}
theorem St.starNil (h : St F w₀ L w) : St F w₀ (starA [] :: L) w := (St.star []).1 h
/-- One more at the end. -/
theorem St.starPush (h : St F w₀ (A :: starA X :: L) w) : St F w₀ (starA (X ++ [A]) :: L) w := by
  have h1 : St F w₀ (starA X :: (A :: L)) w := h.perm (List.Perm.swap ..)
  have h2 := (St.star X).2 h1
  have h3 : St F w₀ ((X ++ [A]) ++ L) w := by
    rw [List.append_assoc]
    exact h2
  exact (St.star (X ++ [A])).1 h3
theorem Has.ownA {E sz m c : Nat} {B : Option Addr} {xs : List Value} (h : Has (own E sz B m c xs) w) : (m ≠ 0 → B = some ⟨ob B, 0, none⟩) ∧ m ≤ c ∧ xs.length = m * sz := by
  obtain ⟨D, ⟨⟨h1, h2⟩, _⟩, _⟩ := h
  rcases h2 with ⟨h2, h3⟩ | ⟨g, cap, cur, hv, _, _, hc, _⟩
  · injection h2 with _ _ h4
    exact ⟨fun hn => absurd h3 hn, by omega, h1⟩
  · injection hv with hA hm hc2
    subst hA
    exact ⟨fun _ => rfl, by omega, h1⟩
end
/-- A call from here on that is lent M, and gives M' back. -/
abbrev SpecP (P : Program) (f : FuncId) (args : List Value) (F : Nat → Prop) (w : World) {X : Type} (v : X → Value) (pf : X → Prop) (M' : X → List Atom) : Prop :=
  Calls P f args.toArray w (fun e w' => ∃ x : X, e = .returned (v x) ∧ pf x ∧ St F w (M' x) w')
end Go.Sx
end
section
/- Lists of numbers in memory, and what a slice of numbers that comes in gives a walk. No condition. -/
namespace Go.Sx
open Go Go.ChangeShapes Go.WideShapes

/-- The cells of a list of numbers. -/
def ints (k : IntKind) (l : List Int) : List Value := l.map (Value.int k)
def nats (k : IntKind) (l : List Nat) : List Value := l.map (fun x => Value.int k (x : Nat))
theorem ints_len {w : World} {A : Option Addr} {n : Nat} {k : IntKind} {l : List Int} (h : Has (sl 1 A n (ints k l)) w) : l.length = n := by
  have := h.sl_len
  simpa [ints] using this
theorem nats_len {w : World} {A : Option Addr} {n : Nat} {k : IntKind} {l : List Nat} (h : Has (sl 1 A n (nats k l)) w) : l.length = n := by
  have := h.sl_len
  simpa [nats] using this
theorem ints_one (k : IntKind) (l : List Int) : (ints k l).all (·.oneCell') = true := by
  simp [ints, Value.oneCell']
theorem nats_one (k : IntKind) (l : List Nat) : (nats k l).all (·.oneCell') = true := by
  simp [nats, Value.oneCell']
theorem intsAt {k : IntKind} {l : List Int} {i : Nat} (h : i < l.length) : (ints k l)[i]? = some (.int k (l.getD i 0)) := by
  simp [ints, h]
theorem natsAt {k : IntKind} {l : List Nat} {i : Nat} (h : i < l.length) : (nats k l)[i]? = some (.int k (l.getD i 0 : Nat)) := by
  simp [nats, h]
theorem open_slI {H : Type} {enc : TypeId × Value → H} {P : Program} {W : World} {base b0 : Nat} {spare : Nat → Bool} {held : Bool} {t e : TypeId} {k : IntKind} {v : Value} {d : DataW H} {ps : List MemPlace}
    (ht : P.underlying t = some (.slice e)) (he : P.underlying e = some (.int k)) (hc : P.cellsOf e = 1) (hval : Value.okWide P W .any b0 t v) (hd : DataW.Trod enc P W base spare held t v d ps) :
    ∃ A n c zs, v = .slice A n c ∧ n ≤ c ∧ (c : Int) ≤ 9223372036854775807 ∧ zs.length = n ∧ Has (sl 1 A n (ints k zs)) W ∧ ∀ z ∈ zs, (Lit.int k z).wf = true := by
  obtain ⟨A, n, c, rfl⟩ := okWide_slice ht hval
  obtain ⟨fuel, hf⟩ := hd
  rcases open_ints ht he hc hf with ⟨hcs, _⟩ | ⟨a, len, cap, zs, hcs, _, hl, hm, hz, _, hcell, hw⟩
  · have hcs2 : [Value.slice A n c] = [.slice none 0 0] := hcs
    simp only [List.cons.injEq, Value.slice.injEq, and_true] at hcs2
    obtain ⟨rfl, rfl, rfl⟩ := hcs2
    exact ⟨none, 0, 0, [], rfl, Nat.le_refl _, by omega, rfl, Has.sl_nil W 1 none, fun z hz => by simp at hz⟩
  · have hcs2 : [Value.slice A n c] = [.slice (some a) len cap] := hcs
    simp only [List.cons.injEq, Value.slice.injEq, and_true] at hcs2
    obtain ⟨rfl, rfl, rfl⟩ := hcs2
    have hv2 := hval
    unfold Value.okWide at hv2
    simp only [ht] at hv2
    unfold Cell.okWide at hv2
    simp only [ht] at hv2
    unfold Cell.ok at hv2
    simp only [ht] at hv2
    obtain ⟨_, hcap, _, hspot, _⟩ := hv2
    have hlz : n ≤ zs.length := by rw [hz]; split <;> omega
    have hlen : (zs.take n).length = n := by rw [List.length_take]; exact Nat.min_eq_left hlz
    refine ⟨some a, n, c, zs.take n, rfl, hl, hcap, hlen, ?_, fun z hz => hw z (List.mem_of_mem_take hz)⟩
    by_cases hn : n = 0
    · subst hn
      exact Has.sl_nil W 1 (some a)
    · have h0 := hcell 0 (by omega)
      have ha : a = ⟨a.block, a.off, none⟩ := by cases a; simp_all
      refine ⟨fun b => b = a.block, ⟨by simp only [ints, List.length_map, hlen, Nat.mul_one], fun _ => ⟨by simp only [ob, oo]; rw [← ha], rfl, fun j v hj => ?_⟩⟩, fun b hb => ?_⟩
      · have hjn : j < n := by
          have := (List.getElem?_eq_some_iff.1 hj).1
          simp only [ints, List.length_map, hlen] at this
          exact this
        rw [intsAt (by omega)] at hj
        have hc2 := hcell j (by omega)
        rw [ha, add_at] at hc2
        simp only [ob, oo]
        rw [hc2, ← hj]
        simp [hjn]
      · subst hb
        have hc2 := hcell 0 (by omega)
        have := World.block_lt_of_cell? W _ hc2
        rwa [block_add] at this
end Go.Sx
end
section
/- A chip: what it is, what it does, where it lies. No condition. -/
namespace Go.Proofs.YtcapijdokbkgaaaDoor
open Go Go.Sx
set_option maxRecDepth 100000
/-! ### What it is -/
structure FtS where
  op : Int
  kind : Int
  level : Int
  n : Int
  bits : List Int
structure PgS where
  cells : List Nat
  laid : List Nat
  used : Bool
structure BkS where
  pages : List PgS
  worn : Int
  marked : Bool
structure ChS where
  pages : Int
  size : Int
  levels : Int
  blocks : List BkS
  plan : List FtS
  ops : Int
  broken : Int
  off : Bool
/-! ### What it does -/
def wr (n : Int) : Int := IntKind.i64.wrap n
def turn1 (b : List Nat) (i : Int) : List Nat := if 0 ≤ i ∧ i < 8 * (b.length : Int) then b.set (i.toNat / 8) (b.getD (i.toNat / 8) 0 ^^^ 2 ^ (i.toNat % 8)) else b
def turnL (b : List Nat) (l : List Int) : List Nat := l.foldl turn1 b
def ChS.hits (s : ChS) : List FtS := s.plan.filter (fun f => decide (f.op = s.ops))
def findK (l : List FtS) (k : Int) : Option FtS := l.find? (fun f => decide (f.kind = k))
def askC (off is sized : Bool) : Int := if off then 109 else if !is then 110 else if !sized then 116 else 0
def ChS.has (s : ChS) (i : Int) : Bool := decide (0 ≤ i ∧ i < (s.blocks.length : Int))
def ChS.inn (s : ChS) (b p : Int) : Bool := s.has b && decide (0 ≤ p ∧ p < s.pages)
def BkS.nul : BkS := ⟨[], 0, false⟩
def PgS.nul : PgS := ⟨[], [], false⟩
def ChS.bk (s : ChS) (b : Int) : BkS := s.blocks.getD b.toNat BkS.nul
def ChS.pg (s : ChS) (b p : Int) : PgS := (s.bk b).pages.getD p.toNat PgS.nul
def ChS.tick (s : ChS) : ChS := { s with ops := wr (s.ops + 1) }
def flips (l : List FtS) (level : Int) (b : List Nat) : List Nat := l.foldl (fun b f => if f.kind = 1 ∧ (f.level = -1 ∨ f.level = level) then turnL b f.bits else b) b
def spoils (l : List FtS) (b : List Nat) : List Nat := l.foldl (fun b f => if f.kind = 4 then turnL b f.bits else b) b
def ChS.rdE (s : ChS) (b p level : Int) : Int := askC s.off (s.inn b p && decide (0 ≤ level ∧ level < s.levels)) true
def ChS.prE (s : ChS) (b p : Int) (n : Nat) : Int := askC s.off (s.inn b p) (decide ((n : Int) = s.size))
def ChS.erE (s : ChS) (b : Int) : Int := askC s.off (s.has b) true
/-- A read: its error's number, its bytes, the chip behind it. -/
def ChS.rd (s : ChS) (b p level : Int) : Int × List Nat × ChS :=
  if s.rdE b p level ≠ 0 then (s.rdE b p level, [], s)
  else if (findK s.hits 3).isSome then (109, [], { s.tick with off := true })
  else (0, flips s.hits level (s.pg b p).cells, s.tick)
/-- Whether a rule is broken. -/
def wrongAt (pages : List PgS) (p : Int) : Bool := pages.zipIdx.any (fun x => decide ((x.2 : Int) < p) && !x.1.used || decide (p ≤ (x.2 : Int)) && x.1.used)
/-- How much is laid, and the error's number. -/
def layN (l : List FtS) (size : Int) : Int × Int :=
  match findK l 3 with
  | some f => (f.n, 109)
  | none => match findK l 2 with
    | some f => (f.n, 111)
    | none => (size, 0)
def clampN (n size : Int) : Nat := (min (max n 0) size).toNat
def andTo (m : Nat) (a b : List Nat) : List Nat := (List.zipWith (fun x y => x &&& y) (a.take m) (b.take m)) ++ a.drop m
def ChS.setPg (s : ChS) (b p : Int) (q : PgS) : ChS := { s with blocks := s.blocks.set b.toNat { s.bk b with pages := (s.bk b).pages.set p.toNat q } }
def ChS.pr (s : ChS) (b p : Int) (l : List Nat) : Int × ChS :=
  if s.prE b p l.length ≠ 0 then (s.prE b p l.length, s)
  else
    let r := layN s.hits s.size
    let s1 : ChS := { s with broken := if wrongAt (s.bk b).pages p then wr (s.broken + 1) else s.broken }
    let s2 : ChS := { s1.tick with off := (findK s.hits 3).isSome }
    (r.2, s2.setPg b p ⟨andTo (clampN r.1 s.size) (s.pg b p).cells (spoils s.hits l), l, true⟩)
/-- How many pages an erase lays bare, and the error's number. -/
def eraN (l : List FtS) (pages : Int) : Nat × Int :=
  match findK l 3 with
  | some f => (clampN f.n pages, 109)
  | none => match findK l 2 with
    | some _ => (0, 111)
    | none => (pages.toNat, 0)
def PgS.bare (size : Nat) : PgS := ⟨List.replicate size 255, [], false⟩
def ChS.er (s : ChS) (b : Int) : Int × ChS :=
  if s.erE b ≠ 0 then (s.erE b, s)
  else
    let r := eraN s.hits s.pages
    let k := s.bk b
    (r.2, { s.tick with off := (findK s.hits 3).isSome, blocks := s.blocks.set b.toNat { k with pages := List.replicate r.1 (PgS.bare s.size.toNat) ++ k.pages.drop r.1, worn := if r.2 = 0 then wr (k.worn + 1) else k.worn } })
/-- A chip that is whole. -/
structure ChS.Ok (s : ChS) : Prop where
  p0 : 1 ≤ s.pages
  p1 : s.pages ≤ 64
  z0 : 1 ≤ s.size
  z1 : s.size ≤ 4096
  v0 : 1 ≤ s.levels
  v1 : s.levels ≤ 8
  b1 : s.blocks.length ≤ 64
  pg : ∀ b ∈ s.blocks, (b.pages.length : Int) = s.pages ∧ ∀ p ∈ b.pages, (p.cells.length : Int) = s.size ∧ (∀ x ∈ p.cells, x < 256) ∧ p.laid.length ≤ 4096 ∧ ∀ x ∈ p.laid, x < 256
  pl : s.plan.length ≤ 1000
  bt : ∀ f ∈ s.plan, f.bits.length ≤ 1000000
/-- An error by its number; 0: none. -/
def evE (e : Nat → Addr) (c : Int) : Value := if c = 0 then .nilIface else errV e (apiErrs.getD (c - 101).toNat 0)
theorem evE_some (e : Nat → Addr) (c : Int) : isSomeV (evE e c) = some (decide (c ≠ 0)) := by
  unfold evE
  by_cases h : c = 0
  · rw [if_pos h, decide_eq_false (fun hn => hn h)]; rfl
  · rw [if_neg h, decide_eq_true h]; rfl
theorem askC_zero {off is sized : Bool} (h : askC off is sized = 0) : off = false ∧ is = true ∧ sized = true := by
  cases off <;> cases is <;> cases sized <;> first | exact ⟨rfl, rfl, rfl⟩ | (exfalso; revert h; decide)
/-! ### Where it lies -/
structure FtG where
  op : Int
  kind : Int
  level : Int
  n : Int
  A : Option Addr
  c : Nat
  bits : List Int
def FtG.row (f : FtG) : List Value := [.int .i64 f.op, .int .i64 f.kind, .int .i64 f.level, .int .i64 f.n, .slice f.A f.bits.length f.c]
def FtG.dat (f : FtG) : Atom := own 3 1 f.A f.bits.length f.c (ints .i64 f.bits)
def FtG.abs (f : FtG) : FtS := ⟨f.op, f.kind, f.level, f.n, f.bits⟩
def FtG.nul : FtG := ⟨0, 0, 0, 0, none, 0, []⟩
/-- Faults where they lie. -/
structure PlG where
  A : Option Addr
  c : Nat
  l : List FtG
def PlG.own (y : PlG) : Atom := Go.Sx.own 48 5 y.A y.l.length y.c (y.l.flatMap FtG.row)
def PlG.star (y : PlG) : Atom := starA (y.l.map FtG.dat)
structure PgG where
  A : Option Addr
  c : Nat
  l : List Nat
  B : Option Addr
  d : Nat
  laid : List Nat
  used : Bool
def PgG.row (p : PgG) : List Value := [.slice p.A p.l.length p.c, .slice p.B p.laid.length p.d, .bool p.used]
def PgG.own1 (p : PgG) : Atom := own 5 1 p.A p.l.length p.c (nats .u8 p.l)
def PgG.own2 (p : PgG) : Atom := own 5 1 p.B p.laid.length p.d (nats .u8 p.laid)
def PgG.dat (p : PgG) : Atom := starA [p.own1, p.own2]
def PgG.abs (p : PgG) : PgS := ⟨p.l, p.laid, p.used⟩
structure BkG where
  A : Option Addr
  c : Nat
  pages : List PgG
  worn : Int
  marked : Bool
def BkG.row (b : BkG) : List Value := [.slice b.A b.pages.length b.c, .int .i64 b.worn, .bool b.marked]
def BkG.rows (b : BkG) : Atom := own 115 3 b.A b.pages.length b.c (b.pages.flatMap PgG.row)
def BkG.dat (b : BkG) : Atom := starA [b.rows, starA (b.pages.map PgG.dat)]
def BkG.abs (b : BkG) : BkS := ⟨b.pages.map PgG.abs, b.worn, b.marked⟩
structure ChG where
  pages : Int
  size : Int
  levels : Int
  A : Option Addr
  c : Nat
  blocks : List BkG
  pA : Option Addr
  pc : Nat
  plan : List FtG
  ops : Int
  broken : Int
  off : Bool
  watch : Value
def ChG.abs (x : ChG) : ChS := ⟨x.pages, x.size, x.levels, x.blocks.map BkG.abs, x.plan.map FtG.abs, x.ops, x.broken, x.off⟩
def ChG.cells (x : ChG) : Array Value := #[.int .i64 x.pages, .int .i64 x.size, .int .i64 x.levels, .slice x.A x.blocks.length x.c, .slice x.pA x.plan.length x.pc, .int .i64 x.ops, .int .i64 x.broken, .bool x.off, x.watch]
def ChG.hd (g : Nat) (x : ChG) : Atom := blk g 109 x.cells
def ChG.bks (x : ChG) : Atom := own 112 3 x.A x.blocks.length x.c (x.blocks.flatMap BkG.row)
def ChG.bst (x : ChG) : Atom := starA (x.blocks.map BkG.dat)
def ChG.fts (x : ChG) : Atom := own 48 5 x.pA x.plan.length x.pc (x.plan.flatMap FtG.row)
def ChG.fst (x : ChG) : Atom := starA (x.plan.map FtG.dat)
/-- A chip's five parts. -/
def ChG.parts (g : Nat) (x : ChG) : List Atom := [x.hd g, x.bks, x.bst, x.fts, x.fst]
def chipA (g : Nat) (x : ChG) : Atom := starA (x.parts g)
theorem ftRow_len (f : FtG) : f.row.length = 5 := rfl
theorem pgRow_len (p : PgG) : p.row.length = 3 := rfl
theorem bkRow_len (b : BkG) : b.row.length = 3 := rfl
section
variable {F : Nat → Prop} {w₀ w : World} {L : List Atom} {g : Nat} {x : ChG}
theorem _root_.Go.Sx.St.chipO (h : St F w₀ (chipA g x :: L) w) : St F w₀ (x.hd g :: x.bks :: x.bst :: x.fts :: x.fst :: L) w := h.open_
theorem _root_.Go.Sx.St.chipC (h : St F w₀ (x.hd g :: x.bks :: x.bst :: x.fts :: x.fst :: L) w) : St F w₀ (chipA g x :: L) w := St.close_ (x.parts g) h
theorem _root_.Go.Sx.Has.starM {X : List Atom} {A : Atom} {w : World} (h : Has (starA X) w) (hA : A ∈ X) : Has A w := by
  obtain ⟨D, h1, h2⟩ := h
  have key : ∀ (X : List Atom) (D : Nat → Prop), starOk X w D → (∀ k, D k → k < w.heap.size) → A ∈ X → Has A w := by
    intro X
    induction X with
    | nil => intro D _ _ hm; cases hm
    | cons B X ih =>
      rintro D ⟨D1, D2, k1, k2, k3, k4⟩ hlt hm
      rcases List.mem_cons.1 hm with rfl | hm
      · exact ⟨D1, k1, fun k hk => hlt k ((k3 k).2 (.inl hk))⟩
      · exact ih D2 k2 (fun k hk => hlt k ((k3 k).2 (.inr hk))) hm
  exact key X D h1 h2 hA
theorem chip_hd (h : Has (chipA g x) w) : Has (x.hd g) w := h.starM (by simp [ChG.parts])
theorem chip_bks (h : Has (chipA g x) w) : Has (sl 3 x.A x.blocks.length (x.blocks.flatMap BkG.row)) w := (h.starM (A := x.bks) (by simp [ChG.parts])).of_own
theorem fst_at (h : Has x.fst w) {f : FtG} (hf : f ∈ x.plan) : Has (sl 1 f.A f.bits.length (ints .i64 f.bits)) w := (h.starM (A := f.dat) (List.mem_map_of_mem hf)).of_own
theorem chip_ft (h : Has (chipA g x) w) {f : FtG} (hf : f ∈ x.plan) : Has (sl 1 f.A f.bits.length (ints .i64 f.bits)) w := fst_at (h.starM (A := x.fst) (by simp [ChG.parts])) hf
theorem chip_cell (h : Has (chipA g x) w) {j : Nat} {v : Value} (hj : x.cells[j]? = some v) : w.cell? ⟨g, j, none⟩ = some v := (chip_hd h).cellB hj
theorem bst_at (h : Has x.bst w) {b : BkG} (hb : b ∈ x.blocks) : Has b.dat w := h.starM (List.mem_map_of_mem hb)
theorem bk_rows {b : BkG} (h : Has b.dat w) : Has (sl 3 b.A b.pages.length (b.pages.flatMap PgG.row)) w := (h.starM (A := b.rows) (by simp)).of_own
theorem bk_pg {b : BkG} (h : Has b.dat w) {p : PgG} (hp : p ∈ b.pages) : Has p.dat w := (h.starM (A := starA (b.pages.map PgG.dat)) (by simp)).starM (List.mem_map_of_mem hp)
theorem pg_own1 {p : PgG} (h : Has p.dat w) : Has (sl 1 p.A p.l.length (nats .u8 p.l)) w := (h.starM (A := p.own1) (by simp)).of_own
theorem chip_bk (h : Has (chipA g x) w) {b : BkG} (hb : b ∈ x.blocks) : Has b.dat w := bst_at (h.starM (A := x.bst) (by simp [ChG.parts])) hb
/-- A row that is read. -/
theorem _root_.Go.Sx.Has.rowAt {α : Type} {row : α → List Value} {k : Nat} (hk : ∀ a, (row a).length = k) {A : Option Addr} {n : Nat} {l : List α} (h : Has (sl k A n (l.flatMap row)) w) {i : Nat} {a : α} (ha : l[i]? = some a) (hn : n ≠ 0) : ∀ j v, (row a)[j]? = some v → w.cell? ⟨ob A, oo A + i * k + j, none⟩ = some v := fun j v hj => by
  rw [Nat.add_assoc]
  exact (h.sl_cell hn (flat_at hk ha hj)).2
/-- A page taken out, with its block's rows. -/
theorem _root_.Go.Sx.St.pageO {b : BkG} {p : PgG} {i k : Nat} {bs : List BkG} (hb : bs[i]? = some b) (hp : b.pages[k]? = some p) (h : St F w₀ (starA (bs.map BkG.dat) :: L) w) :
    St F w₀ (p.own1 :: p.own2 :: b.rows :: starA ((b.pages.map PgG.dat).eraseIdx k) :: starA ((bs.map BkG.dat).eraseIdx i) :: L) w := by
  have h1 := (h.focus (i := i) (A := b.dat) (by rw [List.getElem?_map, hb]; rfl)).open_
  have h2 : St F w₀ (starA (b.pages.map PgG.dat) :: b.rows :: starA ((bs.map BkG.dat).eraseIdx i) :: L) w := h1.perm (List.Perm.swap ..)
  have h3 := (h2.focus (i := k) (A := p.dat) (by rw [List.getElem?_map, hp]; rfl)).open_
  have h4 : St F w₀ (p.own1 :: p.own2 :: starA ((b.pages.map PgG.dat).eraseIdx k) :: b.rows :: starA ((bs.map BkG.dat).eraseIdx i) :: L) w := h3
  exact h4.perm (List.Perm.cons _ (List.Perm.cons _ (List.Perm.swap ..)))
/-- And put back. -/
theorem _root_.Go.Sx.St.pageI {b : BkG} {p : PgG} {i k : Nat} {bs : List BkG} (hi : i < bs.length) (hk : k < b.pages.length)
    (h : St F w₀ (p.own1 :: p.own2 :: ({ b with pages := b.pages.set k p } : BkG).rows :: starA ((b.pages.map PgG.dat).eraseIdx k) :: starA ((bs.map BkG.dat).eraseIdx i) :: L) w) : St F w₀ (starA ((bs.set i { b with pages := b.pages.set k p }).map BkG.dat) :: L) w := by
  have h1 : St F w₀ (p.own1 :: p.own2 :: starA ((b.pages.map PgG.dat).eraseIdx k) :: ({ b with pages := b.pages.set k p } : BkG).rows :: starA ((bs.map BkG.dat).eraseIdx i) :: L) w := h.perm (List.Perm.cons _ (List.Perm.cons _ (List.Perm.swap ..)))
  have h2 := (St.close_ [p.own1, p.own2] h1).unfocus (A' := p.dat) (by simpa using hk)
  rw [← List.map_set] at h2
  have h3 : St F w₀ (({ b with pages := b.pages.set k p } : BkG).rows :: starA ((b.pages.set k p).map PgG.dat) :: starA ((bs.map BkG.dat).eraseIdx i) :: L) w := h2.perm (List.Perm.swap ..)
  have h4 := (St.close_ [({ b with pages := b.pages.set k p } : BkG).rows, starA ((b.pages.set k p).map PgG.dat)] h3).unfocus (A' := ({ b with pages := b.pages.set k p } : BkG).dat) (by simpa using hi)
  rw [← List.map_set] at h4
  exact h4
/-- A block taken out. -/
theorem _root_.Go.Sx.St.bkO {b : BkG} {i : Nat} {bs : List BkG} (hb : bs[i]? = some b) (h : St F w₀ (starA (bs.map BkG.dat) :: L) w) : St F w₀ (b.rows :: starA (b.pages.map PgG.dat) :: starA ((bs.map BkG.dat).eraseIdx i) :: L) w :=
  (h.focus (i := i) (A := b.dat) (by rw [List.getElem?_map, hb]; rfl)).open_
theorem _root_.Go.Sx.St.bkI {b : BkG} {i : Nat} {bs : List BkG} (hi : i < bs.length) (h : St F w₀ (b.rows :: starA (b.pages.map PgG.dat) :: starA ((bs.map BkG.dat).eraseIdx i) :: L) w) : St F w₀ (starA ((bs.set i b).map BkG.dat) :: L) w := by
  have h4 := (St.close_ [b.rows, starA (b.pages.map PgG.dat)] h).unfocus (A' := b.dat) (by simpa using hi)
  rw [← List.map_set] at h4
  exact h4
end
end Go.Proofs.YtcapijdokbkgaaaDoor
end
section
/- The contracts of shalesee, and of what it leans on: an error of package api, seen as its number. Conditions: the errors' variables each hold a pointer of its own. -/
namespace Go.Proofs.YtcapijdokbkgaaaDoor
open Go.Sx
set_option maxRecDepth 100000
/-- A fault with nothing around it. -/
def fltV (c : Int) : Value := .agg #[.int .i64 c, .slice none 0 0]
theorem ers_at {j k : Nat} (h : apiErrs[j]? = some k) : k ∈ apiErrs := List.mem_of_getElem? h
theorem ers_one {i j k : Nat} (hi : apiErrs[i]? = some k) (hj : apiErrs[j]? = some k) : i = j := by
  have hn : ∀ i < 19, ∀ j < 19, apiErrs[i]? = apiErrs[j]? → i = j := by decide
  obtain ⟨h1, _⟩ := List.getElem?_eq_some_iff.1 hi
  obtain ⟨h3, _⟩ := List.getElem?_eq_some_iff.1 hj
  exact hn i h1 j h3 (hi.trans hj.symm)
theorem ers_lt {j k : Nat} (h : apiErrs[j]? = some k) : j < 19 := by
  obtain ⟨h1, _⟩ := List.getElem?_eq_some_iff.1 h
  exact h1

theorem none_spec (w : World) : Spec1 Tryd.prog 89 [] w (fltV 0) := by
  refine spec_of Tryd.func89 rfl Tryd.ntmps89 rfl ?_
  refine CW.seq ?_
  refine CW.reg [0] rfl ?_
  refine s_alloc 0 rfl (fun _ _ => trivial) (fun g => ?_)
  refine SX.next ?_
  refine CW.seq ?_
  refine CW.reg [0, 1] rfl ?_
  refine s_build 1 rfl rfl rfl ?_
  refine s_stAll 0 rfl rfl (by kernel_rfl) rfl rfl rfl rfl (fun _ _ => trivial) ?_
  refine SX.next ?_
  refine CW.ret ?_
  exact KN.retC (rs := [.cell 0 129]) Tryd.results89 (fun w hw => ⟨[_], ⟨⟨_, rfl, hw.ldRow (q := 0) rfl (by rfl)⟩, trivial⟩, rfl, hw.nothing⟩)

theorem sbare_spec (c : Int) (w : World) : Spec1 Tryd.prog 73 [.int .i64 c] w (fltV c) := by
  refine spec_of Tryd.func73 rfl Tryd.ntmps73 rfl ?_
  refine CW.seq ?_
  refine CW.reg [0] rfl ?_
  refine s_alloc 2 rfl (fun _ _ => trivial) (fun g => ?_)
  refine SX.next ?_
  refine CW.seq ?_
  refine CW.reg [0, 1, 2] rfl ?_
  refine s_mv 3 rfl rfl ?_
  refine s_build 4 rfl rfl rfl ?_
  refine s_stAll 0 rfl rfl (by kernel_rfl) rfl rfl rfl rfl (fun _ _ => trivial) ?_
  refine SX.next ?_
  refine CW.ret ?_
  exact KN.retC (rs := [.cell 2 129]) Tryd.results73 (fun w hw => ⟨[_], ⟨⟨_, rfl, hw.ldRow (q := 0) rfl (by rfl)⟩, trivial⟩, rfl, hw.nothing⟩)

theorem alike_same (i : Nat) (e : Nat → Addr) (w : World) : Spec1 Tryd.prog 99 [errV e i, errV e i] w (.bool true) := by
  refine spec_of Tryd.func99 rfl Tryd.ntmps99 rfl ?_
  refine CW.seq ?_
  refine CW.reg [0] rfl ?_
  refine s_as 4 rfl rfl ?_
  refine SX.next ?_
  refine CW.seq ?_
  refine CW.seq ?_
  refine CW.reg [0, 1, 2, 3, 4, 5] rfl ?_
  refine s_mv 5 rfl rfl ?_
  refine s_eqHN 6 rfl rfl ?_
  refine s_mv 7 rfl rfl ?_
  refine s_mv 8 rfl rfl ?_
  refine s_eqHN 9 rfl rfl ?_
  refine s_pickF 10 rfl rfl rfl ?_
  refine SX.next ?_
  refine CW.condF rfl ?_
  refine CW.skip ?_
  refine KN.code ?_
  refine CW.seq ?_
  refine CW.reg [0, 1, 2, 3] rfl ?_
  refine s_mv 17 rfl rfl ?_
  refine s_mv 18 rfl rfl ?_
  refine s_eqE 19 rfl rfl rfl ?_
  refine s_as 4 rfl rfl ?_
  refine SX.next ?_
  refine CW.ret ?_
  exact KN.ret (rs := [.tmp 4]) Tryd.results99 rfl (fun w hw => ⟨rfl, hw.nothing⟩)

theorem alike_not (i j : Nat) (e : Nat → Addr) (w : World) (he : Has (ersA e apiErrs) w) (hi : i ∈ apiErrs) (hj : j ∈ apiErrs) (hne : i ≠ j) : Spec1 Tryd.prog 99 [errV e i, errV e j] w (.bool false) := by
  refine spec_of Tryd.func99 rfl Tryd.ntmps99 rfl ?_
  refine CW.seq ?_
  refine CW.reg [0] rfl ?_
  refine s_as 4 rfl rfl ?_
  refine SX.next ?_
  refine CW.seq ?_
  refine CW.seq ?_
  refine CW.reg [0, 1, 2, 3, 4, 5] rfl ?_
  refine s_mv 5 rfl rfl ?_
  refine s_eqHN 6 rfl rfl ?_
  refine s_mv 7 rfl rfl ?_
  refine s_mv 8 rfl rfl ?_
  refine s_eqHN 9 rfl rfl ?_
  refine s_pickF 10 rfl rfl rfl ?_
  refine SX.next ?_
  refine CW.condF rfl ?_
  refine CW.skip ?_
  refine KN.code ?_
  refine CW.seq ?_
  refine CW.reg [0, 1, 2, 3] rfl ?_
  refine s_mv 17 rfl rfl ?_
  refine s_mv 18 rfl rfl ?_
  refine s_eqD 19 rfl rfl rfl (he.apart hi hj hne) (fun w hw => ⟨(hw.old he).live hi, (hw.old he).live hj⟩) ?_
  refine s_as 4 rfl rfl ?_
  refine SX.next ?_
  refine CW.ret ?_
  exact KN.ret (rs := [.tmp 4]) Tryd.results99 rfl (fun w hw => ⟨rfl, hw.nothing⟩)

theorem alike_spec (i j : Nat) (e : Nat → Addr) (w : World) (he : Has (ersA e apiErrs) w) (hi : i ∈ apiErrs) (hj : j ∈ apiErrs) : Spec1 Tryd.prog 99 [errV e i, errV e j] w (.bool (decide (i = j))) := by
  by_cases h : i = j
  · subst h; rw [decide_eq_true rfl]; exact alike_same i e w
  · rw [decide_eq_false h]; exact alike_not i j e w he hi hj h
def errCs (e : Nat → Addr) : Array Value := (apiErrs.map (errV e)).toArray
theorem errCs_at {e : Nat → Addr} {j k : Nat} (h : apiErrs[j]? = some k) : (errCs e)[j]? = some (errV e k) := by
  unfold errCs
  simp [h]

theorem sentinels_spec (e : Nat → Addr) (w : World) (he : Has (ersA e apiErrs) w) : SpecX Tryd.prog 98 [] w (X := Nat) (fun g => .slice (some ⟨g, 0, none⟩) 19 19) (fun _ => True) (fun g => [blk g 26 (errCs e)]) := by
  refine spec_of Tryd.func98 rfl Tryd.ntmps98 rfl ?_
  refine CW.seq ?_
  refine CW.reg [0] rfl ?_
  refine s_as 0 rfl rfl ?_
  refine SX.next ?_
  refine CW.seq ?_
  refine CW.reg [0, 1, 2, 3, 4, 5, 6, 7, 8, 9, 10, 11, 12, 13, 14, 15, 16, 17, 18, 19, 20] rfl ?_
  refine s_ld 1 rfl rfl (fun _ h => (h.old he).ers (by decide)) ?_
  refine s_ld 2 rfl rfl (fun _ h => (h.old he).ers (by decide)) ?_
  refine s_ld 3 rfl rfl (fun _ h => (h.old he).ers (by decide)) ?_
  refine s_ld 4 rfl rfl (fun _ h => (h.old he).ers (by decide)) ?_
  refine s_ld 5 rfl rfl (fun _ h => (h.old he).ers (by decide)) ?_
  refine s_ld 6 rfl rfl (fun _ h => (h.old he).ers (by decide)) ?_
  refine s_ld 7 rfl rfl (fun _ h => (h.old he).ers (by decide)) ?_
  refine s_ld 8 rfl rfl (fun _ h => (h.old he).ers (by decide)) ?_
  refine s_ld 9 rfl rfl (fun _ h => (h.old he).ers (by decide)) ?_
  refine s_ld 10 rfl rfl (fun _ h => (h.old he).ers (by decide)) ?_
  refine s_ld 11 rfl rfl (fun _ h => (h.old he).ers (by decide)) ?_
  refine s_ld 12 rfl rfl (fun _ h => (h.old he).ers (by decide)) ?_
  refine s_ld 13 rfl rfl (fun _ h => (h.old he).ers (by decide)) ?_
  refine s_ld 14 rfl rfl (fun _ h => (h.old he).ers (by decide)) ?_
  refine s_ld 15 rfl rfl (fun _ h => (h.old he).ers (by decide)) ?_
  refine s_ld 16 rfl rfl (fun _ h => (h.old he).ers (by decide)) ?_
  refine s_ld 17 rfl rfl (fun _ h => (h.old he).ers (by decide)) ?_
  refine s_ld 18 rfl rfl (fun _ h => (h.old he).ers (by decide)) ?_
  refine s_ld 19 rfl rfl (fun _ h => (h.old he).ers (by decide)) ?_
  refine s_bsl 20 rfl rfl (cells := errCs e) (by kernel_rfl) rfl (fun _ _ => trivial) (fun g => ?_)
  refine s_as 0 rfl rfl ?_
  refine SX.next ?_
  refine CW.ret ?_
  exact KN.ret (rs := [.tmp 0]) Tryd.results98 rfl (fun w hw => ⟨g, rfl, trivial, hw⟩)

theorem sentinel_spec (j k : Nat) (e : Nat → Addr) (w : World) (he : Has (ersA e apiErrs) w) (hj : apiErrs[j]? = some k) : Spec1 Tryd.prog 97 [errV e k] w (.int .i64 (101 + (j : Nat))) := by
  have hj19 := ers_lt hj
  refine spec_of Tryd.func97 rfl Tryd.ntmps97 rfl ?_
  refine CW.seq ?_
  refine CW.reg [0] rfl ?_
  refine s_as 2 rfl rfl ?_
  refine SX.next ?_
  refine CW.seq ?_
  refine CW.reg [0, 1] rfl ?_
  refine s_call 5 rfl rfl rfl rfl (fun w hw => sentinels_spec e w (hw.old he)) (fun _ _ => trivial) (fun g _ => ?_)
  refine s_as 3 rfl rfl ?_
  refine SX.next ?_
  refine CW.seq ?_
  refine CW.seq ?_
  refine CW.reg [0] rfl ?_
  refine s_as 4 rfl rfl ?_
  refine SX.next ?_
  refine CW.block ?_
  refine CW.loop (G := Nat) (fun i => [(0, errV e k), (3, .slice (some ⟨g, 0, none⟩) 19 19), (4, .int .i64 (i : Nat))]) (fun _ => Sto w [blk g 26 (errCs e)]) (fun i => i ≤ j) (fun i => j - i) 0 ⟨rfl, rfl, rfl, trivial⟩ (fun _ h => h) (Nat.zero_le _) ?_
  intro i hi
  obtain ⟨k2, hk2⟩ : ∃ k2, apiErrs[i]? = some k2 := ⟨_, List.getElem?_eq_getElem (show i < apiErrs.length from (by show i < 19; omega))⟩
  have hcell := errCs_at (e := e) hk2
  refine CW.seq ?_
  refine CW.seq ?_
  refine CW.reg [0, 1, 2, 3] rfl ?_
  refine s_mv 6 rfl rfl ?_
  refine s_mv 7 rfl rfl ?_
  refine s_len 8 rfl rfl ?_
  refine s_lt 9 rfl rfl rfl (decide_eq_true (by omega)) ?_
  refine SX.next ?_
  refine CW.condT rfl ?_
  refine CW.skip ?_
  refine KN.code ?_
  refine CW.seq ?_
  refine CW.block ?_
  refine CW.seq ?_
  refine CW.reg [0, 1, 2, 3, 4, 5] rfl ?_
  refine s_mv 12 rfl rfl ?_
  refine s_mv 13 rfl rfl ?_
  refine s_mv 14 rfl rfl ?_
  refine s_ia0 15 i rfl rfl rfl rfl (by omega) ?_
  refine s_ldB 16 0 rfl rfl rfl hcell ?_
  refine s_call1 17 rfl rfl rfl rfl (fun w hw => alike_spec k k2 e _ (hw.old he) (ers_at hj) (ers_at hk2)) (fun _ _ => trivial) ?_
  refine SX.next ?_
  refine CW.test rfl (fun hc => ?_) (fun hc => ?_)
  · skip
    obtain rfl : i = j := ers_one (by rw [hk2, hc]) hj
    refine CW.seq ?_
    refine CW.reg [0, 1, 2] rfl ?_
    refine s_mv 18 rfl rfl ?_
    refine s_add 19 rfl rfl rfl (w64 (by omega)) ?_
    refine s_as 2 rfl rfl ?_
    refine SX.next ?_
    refine CW.ret ?_
    exact KN.ret (rs := [.tmp 2]) Tryd.results97 rfl (fun w hw => ⟨rfl, hw.nothing⟩)
  · skip
    have hlt : i < j := by
      rcases Nat.lt_or_eq_of_le hi with h | h
      · exact h
      · subst h; rw [hk2] at hj; exact absurd (Option.some.inj hj).symm hc
    refine CW.skip ?_
    refine KN.blk ?_
    refine KN.code ?_
    refine CW.reg [0, 1, 2] rfl ?_
    refine s_mv 10 rfl rfl ?_
    refine s_add 11 rfl rfl rfl (r := ((i + 1 : Nat) : Int)) (w64 (by omega)) ?_
    refine s_as 4 rfl rfl ?_
    refine SX.end_ ?_
    exact KN.back (i + 1) ⟨rfl, rfl, rfl, trivial⟩ (fun _ h => h) (by omega) (by omega)

theorem fault_spec (j k : Nat) (n : Int) (e : Nat → Addr) (w : World) (he : Has (ersA e apiErrs) w) (hj : apiErrs[j]? = some k) (hn : n ≠ 0) : Spec1 Tryd.prog 90 [errV e k, .int .i64 n] w (fltV (101 + (j : Nat))) := by
  refine spec_of Tryd.func90 rfl Tryd.ntmps90 rfl ?_
  refine CW.seq ?_
  refine CW.reg [0] rfl ?_
  refine s_alloc 4 rfl (fun _ _ => trivial) (fun g => ?_)
  refine SX.next ?_
  refine CW.seq ?_
  refine CW.seq ?_
  refine CW.reg [0, 1, 2, 3, 4, 5] rfl ?_
  refine s_mv 7 rfl rfl ?_
  refine s_eqHN 8 rfl rfl ?_
  refine s_mv 9 rfl rfl ?_
  refine s_mv 10 rfl rfl ?_
  refine s_eq 11 rfl rfl rfl (decide_eq_false hn) ?_
  refine s_pickF 12 rfl rfl rfl ?_
  refine SX.next ?_
  refine CW.condF rfl ?_
  refine CW.skip ?_
  refine KN.code ?_
  refine CW.seq ?_
  refine CW.seq ?_
  refine CW.reg [0] rfl ?_
  refine s_mv 14 rfl rfl ?_
  refine SX.next ?_
  refine CW.block ?_
  refine CW.seq ?_
  refine CW.reg [0, 1, 2] rfl ?_
  refine s_taF 15 rfl rfl rfl ?_
  refine s_ext 16 rfl rfl rfl ?_
  refine s_ext 17 rfl rfl rfl ?_
  refine SX.next ?_
  refine CW.condF rfl ?_
  refine CW.skip ?_
  refine KN.blk ?_
  refine KN.code ?_
  refine CW.seq ?_
  refine CW.reg [0, 1, 2, 3] rfl ?_
  refine s_mv 34 rfl rfl ?_
  refine s_call1 35 rfl rfl rfl rfl (fun w hw => sentinel_spec j k e _ (hw.old he) hj) (fun _ _ => trivial) ?_
  refine s_call1 36 rfl rfl rfl rfl (fun w hw => sbare_spec _ _) (fun _ _ => trivial) ?_
  refine s_stAll 0 rfl rfl (by kernel_rfl) rfl rfl rfl rfl (fun _ _ => trivial) ?_
  refine SX.next ?_
  refine CW.ret ?_
  exact KN.retC (rs := [.cell 4 129]) Tryd.results90 (fun w hw => ⟨[_], ⟨⟨_, rfl, hw.ldRow (q := 0) rfl (by rfl)⟩, trivial⟩, rfl, hw.nothing⟩)

theorem see_spec (j k : Nat) (e : Nat → Addr) (w : World) (he : Has (ersA e apiErrs) w) (hj : apiErrs[j]? = some k) : Spec1 Tryd.prog 85 [errV e k] w (fltV (101 + (j : Nat))) := by
  refine spec_of Tryd.func85 rfl Tryd.ntmps85 rfl ?_
  refine CW.seq ?_
  refine CW.reg [0] rfl ?_
  refine s_alloc 2 rfl (fun _ _ => trivial) (fun g => ?_)
  refine SX.next ?_
  refine CW.seq ?_
  refine CW.seq ?_
  refine CW.reg [0, 1] rfl ?_
  refine s_mv 3 rfl rfl ?_
  refine s_eqHN 4 rfl rfl ?_
  refine SX.next ?_
  refine CW.condF rfl ?_
  refine CW.skip ?_
  refine KN.code ?_
  refine CW.seq ?_
  refine CW.reg [0, 1, 2] rfl ?_
  refine s_mv 6 rfl rfl ?_
  refine s_call1 7 rfl rfl rfl rfl (fun w hw => fault_spec j k 9 e _ (hw.old he) hj (by decide)) (fun _ _ => trivial) ?_
  refine s_stAll 0 rfl rfl (by kernel_rfl) rfl rfl rfl rfl (fun _ _ => trivial) ?_
  refine SX.next ?_
  refine CW.ret ?_
  exact KN.retC (rs := [.cell 2 129]) Tryd.results85 (fun w hw => ⟨[_], ⟨⟨_, rfl, hw.ldRow (q := 0) rfl (by rfl)⟩, trivial⟩, rfl, hw.nothing⟩)

theorem see_none (w : World) : Spec1 Tryd.prog 85 [.nilIface] w (fltV 0) := by
  refine spec_of Tryd.func85 rfl Tryd.ntmps85 rfl ?_
  refine CW.seq ?_
  refine CW.reg [0] rfl ?_
  refine s_alloc 2 rfl (fun _ _ => trivial) (fun g => ?_)
  refine SX.next ?_
  refine CW.seq ?_
  refine CW.seq ?_
  refine CW.reg [0, 1] rfl ?_
  refine s_mv 3 rfl rfl ?_
  refine s_eqNN 4 rfl rfl ?_
  refine SX.next ?_
  refine CW.condT rfl ?_
  refine CW.seq ?_
  refine CW.reg [0, 1] rfl ?_
  refine s_call1 5 rfl rfl rfl rfl (fun w hw => none_spec _) (fun _ _ => trivial) ?_
  refine s_stAll 0 rfl rfl (by kernel_rfl) rfl rfl rfl rfl (fun _ _ => trivial) ?_
  refine SX.next ?_
  refine CW.ret ?_
  exact KN.retC (rs := [.cell 2 129]) Tryd.results85 (fun w hw => ⟨[_], ⟨⟨_, rfl, hw.ldRow (q := 0) rfl (by rfl)⟩, trivial⟩, rfl, hw.nothing⟩)

theorem sameInts_nil (w : World) : Spec1 Tryd.prog 91 [.slice none 0 0, .slice none 0 0] w (.bool true) := by
  refine spec_of Tryd.func91 rfl Tryd.ntmps91 rfl ?_
  refine CW.seq ?_
  refine CW.reg [0] rfl ?_
  refine s_as 4 rfl rfl ?_
  refine SX.next ?_
  refine CW.seq ?_
  refine CW.seq ?_
  refine CW.reg [0, 1, 2, 3, 4] rfl ?_
  refine s_mv 7 rfl rfl ?_
  refine s_len 8 rfl rfl ?_
  refine s_mv 9 rfl rfl ?_
  refine s_len 10 rfl rfl ?_
  refine s_ne 11 rfl rfl rfl (decide_eq_false (fun h => h rfl)) ?_
  refine SX.next ?_
  refine CW.condF rfl ?_
  refine CW.skip ?_
  refine KN.code ?_
  refine CW.seq ?_
  refine CW.seq ?_
  refine CW.reg [0] rfl ?_
  refine s_as 5 rfl rfl ?_
  refine SX.next ?_
  refine CW.block ?_
  refine CW.loop (G := Unit) (fun _ => [(0, .slice none 0 0), (1, .slice none 0 0), (5, .int .i64 0)]) (fun _ => Sto w []) (fun _ => True) (fun _ => 0) () ⟨rfl, rfl, rfl, trivial⟩ (fun _ h => h) trivial ?_
  intro _ _
  refine CW.seq ?_
  refine CW.seq ?_
  refine CW.reg [0, 1, 2, 3] rfl ?_
  refine s_mv 12 rfl rfl ?_
  refine s_mv 13 rfl rfl ?_
  refine s_len 14 rfl rfl ?_
  refine s_lt 15 rfl rfl rfl (decide_eq_false (by decide)) ?_
  refine SX.next ?_
  refine CW.condF rfl ?_
  refine CW.exit rfl ?_
  refine KN.code ?_
  refine CW.seq ?_
  refine CW.reg [0] rfl ?_
  refine s_as 4 rfl rfl ?_
  refine SX.next ?_
  refine CW.ret ?_
  exact KN.ret (rs := [.tmp 4]) Tryd.results91 rfl (fun w hw => ⟨rfl, hw.nothing⟩)

theorem sameFault_bare (c d : Int) (w : World) : Spec1 Tryd.prog 86 [fltV c, fltV d] w (.bool (decide (c = d))) := by
  refine spec_of Tryd.func86 rfl Tryd.ntmps86 rfl ?_
  refine CW.seq ?_
  refine CW.reg [0, 1, 2] rfl ?_
  refine s_box 2 rfl rfl (fun _ _ => trivial) (fun g => ?_)
  refine s_box 3 rfl rfl (fun _ _ => trivial) (fun g2 => ?_)
  refine s_as 4 rfl rfl ?_
  refine SX.next ?_
  refine CW.seq ?_
  refine CW.reg [0, 1, 2, 3, 4, 5] rfl ?_
  refine s_fa 6 rfl rfl ?_
  refine s_ldB 7 1 rfl rfl rfl rfl ?_
  refine s_fa 8 rfl rfl ?_
  refine s_ldB 9 0 rfl rfl rfl rfl ?_
  refine s_call1 10 rfl rfl rfl rfl (fun w hw => sameInts_nil _) (fun _ _ => trivial) ?_
  refine s_as 5 rfl rfl ?_
  refine SX.next ?_
  refine CW.seq ?_
  refine CW.reg [0, 1, 2, 3, 4, 5, 6, 7, 8] rfl ?_
  refine s_fa 11 rfl rfl ?_
  refine s_ldB 12 1 rfl rfl rfl rfl ?_
  refine s_fa 13 rfl rfl ?_
  refine s_ldB 14 0 rfl rfl rfl rfl ?_
  refine s_eq 15 rfl rfl rfl rfl ?_
  refine s_mv 16 rfl rfl ?_
  refine SX.bool 16 rfl (fun hb => ?_) (fun hb => ?_)
  · skip
    refine s_mv 17 rfl rfl ?_
    refine s_pickT 18 rfl rfl rfl ?_
    refine s_as 4 rfl rfl ?_
    refine SX.next ?_
    refine CW.ret ?_
    exact KN.ret (rs := [.tmp 4]) Tryd.results86 rfl (fun w hw => ⟨by rw [hb]; rfl, hw.nothing⟩)
  · skip
    refine SX.skip rfl ?_
    refine s_pickF 18 rfl rfl rfl ?_
    refine s_as 4 rfl rfl ?_
    refine SX.next ?_
    refine CW.ret ?_
    exact KN.ret (rs := [.tmp 4]) Tryd.results86 rfl (fun w hw => ⟨by rw [hb]; rfl, hw.nothing⟩)

theorem same_spec (j k : Nat) (d : Int) (e : Nat → Addr) (w : World) (he : Has (ersA e apiErrs) w) (hj : apiErrs[j]? = some k) : Spec1 Tryd.prog 72 [errV e k, fltV d] w (.bool (decide ((101 + (j : Nat) : Int) = d))) := by
  refine spec_of Tryd.func72 rfl Tryd.ntmps72 rfl ?_
  refine CW.seq ?_
  refine CW.reg [0, 1] rfl ?_
  refine s_box 3 rfl rfl (fun _ _ => trivial) (fun g => ?_)
  refine s_as 4 rfl rfl ?_
  refine SX.next ?_
  refine CW.seq ?_
  refine CW.reg [0, 1, 2, 3] rfl ?_
  refine s_mv 6 rfl rfl ?_
  refine s_call1 7 rfl rfl rfl rfl (fun w hw => see_spec j k e _ (hw.old he) hj) (fun _ _ => trivial) ?_
  refine s_alloc 5 rfl (fun _ _ => trivial) (fun g2 => ?_)
  refine s_stAll 0 rfl rfl (by kernel_rfl) rfl rfl rfl rfl (fun _ _ => trivial) ?_
  refine SX.next ?_
  refine CW.seq ?_
  refine CW.reg [0, 1, 2, 3] rfl ?_
  refine s_ldW 8 0 rfl rfl rfl ?_
  refine s_ldW 9 1 rfl rfl rfl ?_
  refine s_call1 10 rfl rfl rfl rfl (fun w hw => sameFault_bare _ d _) (fun _ _ => trivial) ?_
  refine s_as 4 rfl rfl ?_
  refine SX.next ?_
  refine CW.ret ?_
  exact KN.ret (rs := [.tmp 4]) Tryd.results72 rfl (fun w hw => ⟨rfl, hw.nothing⟩)

theorem is_err (j k : Nat) (d : Int) (e : Nat → Addr) (w : World) (he : Has (ersA e apiErrs) w) (hj : apiErrs[j]? = some k) : Spec1 Tryd.prog 29 [errV e k, .int .i64 d] w (.bool (decide ((101 + (j : Nat) : Int) = d))) := by
  refine spec_of Tryd.func29 rfl Tryd.ntmps29 rfl ?_
  refine CW.seq ?_
  refine CW.reg [0] rfl ?_
  refine s_as 4 rfl rfl ?_
  refine SX.next ?_
  refine CW.seq ?_
  refine CW.reg [0, 1, 2, 3, 4] rfl ?_
  refine s_mv 5 rfl rfl ?_
  refine s_mv 6 rfl rfl ?_
  refine s_call1 7 rfl rfl rfl rfl (fun w hw => sbare_spec _ _) (fun _ _ => trivial) ?_
  refine s_call1 8 rfl rfl rfl rfl (fun w hw => same_spec j k d e _ (hw.old he) hj) (fun _ _ => trivial) ?_
  refine s_as 4 rfl rfl ?_
  refine SX.next ?_
  refine CW.ret ?_
  exact KN.ret (rs := [.tmp 4]) Tryd.results29 rfl (fun w hw => ⟨rfl, hw.nothing⟩)

theorem same_none (d : Int) (w : World) : Spec1 Tryd.prog 72 [.nilIface, fltV d] w (.bool (decide ((0 : Int) = d))) := by
  refine spec_of Tryd.func72 rfl Tryd.ntmps72 rfl ?_
  refine CW.seq ?_
  refine CW.reg [0, 1] rfl ?_
  refine s_box 3 rfl rfl (fun _ _ => trivial) (fun g => ?_)
  refine s_as 4 rfl rfl ?_
  refine SX.next ?_
  refine CW.seq ?_
  refine CW.reg [0, 1, 2, 3] rfl ?_
  refine s_mv 6 rfl rfl ?_
  refine s_call1 7 rfl rfl rfl rfl (fun w hw => see_none _) (fun _ _ => trivial) ?_
  refine s_alloc 5 rfl (fun _ _ => trivial) (fun g2 => ?_)
  refine s_stAll 0 rfl rfl (by kernel_rfl) rfl rfl rfl rfl (fun _ _ => trivial) ?_
  refine SX.next ?_
  refine CW.seq ?_
  refine CW.reg [0, 1, 2, 3] rfl ?_
  refine s_ldW 8 0 rfl rfl rfl ?_
  refine s_ldW 9 1 rfl rfl rfl ?_
  refine s_call1 10 rfl rfl rfl rfl (fun w hw => sameFault_bare _ d _) (fun _ _ => trivial) ?_
  refine s_as 4 rfl rfl ?_
  refine SX.next ?_
  refine CW.ret ?_
  exact KN.ret (rs := [.tmp 4]) Tryd.results72 rfl (fun w hw => ⟨rfl, hw.nothing⟩)

theorem is_none (d : Int) (w : World) : Spec1 Tryd.prog 29 [.nilIface, .int .i64 d] w (.bool (decide ((0 : Int) = d))) := by
  refine spec_of Tryd.func29 rfl Tryd.ntmps29 rfl ?_
  refine CW.seq ?_
  refine CW.reg [0] rfl ?_
  refine s_as 4 rfl rfl ?_
  refine SX.next ?_
  refine CW.seq ?_
  refine CW.reg [0, 1, 2, 3, 4] rfl ?_
  refine s_mv 5 rfl rfl ?_
  refine s_mv 6 rfl rfl ?_
  refine s_call1 7 rfl rfl rfl rfl (fun w hw => sbare_spec _ _) (fun _ _ => trivial) ?_
  refine s_call1 8 rfl rfl rfl rfl (fun w hw => same_none d _) (fun _ _ => trivial) ?_
  refine s_as 4 rfl rfl ?_
  refine SX.next ?_
  refine CW.ret ?_
  exact KN.ret (rs := [.tmp 4]) Tryd.results29 rfl (fun w hw => ⟨rfl, hw.nothing⟩)
end Go.Proofs.YtcapijdokbkgaaaDoor
end
section
/- Bytes as text, and texts compared. No condition. -/
namespace Go.Sx
open Go

/-- The text of bytes. -/
def strB (l : List Nat) : ByteArray := strOfNums (l.map Int.ofNat)
theorem strB_list (l : List Nat) : (strB l).data.toList = l.map UInt8.ofNat := by
  unfold strB
  rw [strOfNums_data, List.map_map]
  rfl
theorem strB_inj {a b : List Nat} (ha : ∀ x ∈ a, x < 256) (hb : ∀ x ∈ b, x < 256) (h : strB a = strB b) : a = b := by
  have e : a.map UInt8.ofNat = b.map UInt8.ofNat := by rw [← strB_list, ← strB_list, h]
  have k : ∀ l : List Nat, (∀ x ∈ l, x < 256) → (l.map UInt8.ofNat).map UInt8.toNat = l := fun l hl => by
    rw [List.map_map]
    conv => rhs; rw [← List.map_id l]
    exact List.map_congr_left (fun x hx => by
      show (UInt8.ofNat x).toNat = x
      rw [UInt8.toNat_ofNat']
      exact Nat.mod_eq_of_lt (hl x hx))
  rw [← k a ha, ← k b hb, e]
theorem byteList_eq {x y : ByteArray} (h : x.toList = y.toList) : x = y := by
  rw [ByteArray.toList_eq, ByteArray.toList_eq] at h
  cases x; cases y
  simp only [ByteArray.mk.injEq]
  exact Array.toList_inj.1 h
theorem strB_beq {a b : List Nat} (ha : ∀ x ∈ a, x < 256) (hb : ∀ x ∈ b, x < 256) : ((strB a).toList == (strB b).toList) = decide (a = b) := by
  by_cases h : a = b
  · subst h; simp
  · rw [decide_eq_false h]
    rw [beq_eq_false_iff_ne]
    exact fun e => h (strB_inj ha hb (byteList_eq e))
theorem run_b2s {P : Program} {w : World} {T E D by_ : Nat} {zv : Value} [hT : SlT P T E 1 by_ zv] (he : P.underlying E = some (.int .u8)) (hd : P.underlying D = some .string) {A : Option Addr} {n c : Nat} {l : List Nat} (hv : Has (sl 1 A n (nats .u8 l)) w) :
    (convert T D (.slice A n c)).run P w = .ok (.string (strB l)) w := by
  have hln := nats_len hv
  by_cases h0 : n = 0
  · subst h0
    obtain rfl := List.eq_nil_of_length_eq_zero hln
    cases A with
    | none => exact run_convert_bytes_nil w T E hT.under he 0 c D hd
    | some a =>
      rw [run_convert_bytes_string w T D E _ 0 c hT.under he hd, run_bytesToString w a 0 c [] (by unfold loadCells loadCellsFrom; rfl)]
      rfl
  · have hA := hv.sl_some h0
    rw [hA]
    exact run_convert_bytes_arg w T E hT.under he _ _ n c (l.map Int.ofNat) (by simpa using hln) (fun i hi => by
      have := (hv.sl_cell h0 (j := i) (by rw [natsAt (by omega)])).2
      rw [this]
      simp [show i < l.length by omega]) D hd
section
variable {P : Program} {ops : Array Oper} {S : World → Prop} {K : Act → World → Prop} {p : Plan} {n : Nat} {l : List (Nat × Value)} {C : World → Prop} {fl : Bool} {i : Nat} {ty ty' ty2 : TypeId} {x y : Operand}
theorem s_b2s (d : Nat) {E by_ : Nat} {zv : Value} {A : Option Addr} {m c : Nat} {b : List Nat} (ho : opAt ops n l i = some (some d, .convert ty ty' x, ty2)) [SlT P ty E 1 by_ zv] (he : P.underlying E = some (.int .u8)) (hd : P.underlying ty' = some .string) (hx : ev l x = some (.slice A m c)) (hv : ∀ w, C w → Has (sl 1 A m (nats .u8 b)) w)
    (h : SX P ops S K p n ((d, .string (strB b)) :: l) C) : SX P ops S K (.st false i p) n l C :=
  SX.val ho (fun a w o hen _ hs h1 _ => by simp only [execOp, h1, hen.ev hx, Sem.run_bind, run_b2s (c := c) he hd (hv w (hs rfl)), Result.andThen_ok, Sem.run_pure]) h
theorem s_eqS (d : Nat) {a b : ByteArray} {r : Bool} (ho : opAt ops n l i = some (some d, .binOp .eql ty x y ty', ty2)) (hx : ev l x = some (.string a)) (hy : ev l y = some (.string b)) (hr : (a.toList == b.toList) = r)
    (h : SX P ops S K p n ((d, .bool r) :: l) C) : SX P ops S K (.st fl i p) n l C :=
  SX.pure ho (fun e w o he h1 _ => by
    subst hr
    have eg : ∀ (x y : Operand) (v : Value), (eqGuard .eql ty x y (.string a) v).run P w = .ok () w := fun x y v => by simp [eqGuard]
    simp only [execOp, h1, he.ev hx, he.ev hy, Sem.run_bind, eg, binOp_string_eql, Result.andThen_ok, Sem.run_pure]) h
end
end Go.Sx
end
section
/- Bits of bytes and of numbers of 64 bits without a sign, said of natural numbers. No condition. -/
namespace Go.Sx
open Go

theorem w8 {x : Nat} (h : x < 256) : IntKind.u8.wrap (x : Int) = x := by
  simp only [IntKind.wrap, IntKind.signed, IntKind.bits]
  simp
  omega
theorem w8_mod (x : Nat) : IntKind.u8.wrap (x : Int) = ((x % 256 : Nat) : Int) := by
  simp only [IntKind.wrap, IntKind.signed, IntKind.bits]
  simp
theorem wu64' {x : Nat} (h : x < 2 ^ 64) : IntKind.u64.wrap (x : Int) = x := by
  simp only [IntKind.wrap, IntKind.signed, IntKind.bits]
  simp
  omega
theorem toNat_ofInt8 {x : Nat} (h : x < 256) : (BitVec.ofInt 8 (x : Int)).toNat = x := by
  rw [BitVec.toNat_ofInt]
  show ((x : Int) % 256).toNat = x
  omega
theorem toNat_ofIntU {x : Nat} (h : x < 2 ^ 64) : (BitVec.ofInt 64 (x : Int)).toNat = x := by
  rw [toNat_ofInt64]
  omega
theorem ibit_xor_u8 {x y : Nat} (hx : x < 256) (hy : y < 256) : ibit .xor .u8 x y = ((x ^^^ y : Nat) : Int) := by
  show IntKind.u8.wrap ((BitVec.ofInt 8 (x : Int) ^^^ BitVec.ofInt 8 (y : Int)).toNat : Nat) = _
  rw [BitVec.toNat_xor, toNat_ofInt8 hx, toNat_ofInt8 hy]
  exact w8 (Nat.xor_lt_two_pow (n := 8) hx hy)
theorem ibit_and_u8 {x y : Nat} (hx : x < 256) (hy : y < 256) : ibit .and .u8 x y = ((x &&& y : Nat) : Int) := by
  show IntKind.u8.wrap ((BitVec.ofInt 8 (x : Int) &&& BitVec.ofInt 8 (y : Int)).toNat : Nat) = _
  rw [BitVec.toNat_and, toNat_ofInt8 hx, toNat_ofInt8 hy]
  exact w8 (Nat.lt_of_le_of_lt Nat.and_le_left hx)
/-- Shifts of bytes. -/
theorem shl_u8 {x k : Nat} (hk : k ≤ 8) : IntKind.u8.wrap ((x : Int) * 2 ^ (min (k : Int).toNat IntKind.u8.bits)) = ((x * 2 ^ k % 256 : Nat) : Int) := by
  have : min (k : Int).toNat IntKind.u8.bits = k := by simp [IntKind.bits]; omega
  rw [this]
  have e : (x : Int) * 2 ^ k = ((x * 2 ^ k : Nat) : Int) := by push_cast; rfl
  rw [e]
  exact w8_mod _
theorem shr_u64 {x k : Nat} (hk : k ≤ 64) : ((x : Int)).fdiv (2 ^ (min (k : Int).toNat IntKind.u64.bits)) = ((x >>> k : Nat) : Int) := by
  have : min (k : Int).toNat IntKind.u64.bits = k := by simp [IntKind.bits]; omega
  rw [this, Nat.shiftRight_eq_div_pow, Int.fdiv_eq_ediv_of_nonneg _ (by exact Int.le_of_lt (Int.pow_pos (by decide)))]
  push_cast
  rfl
end Go.Sx
end
section
/- Package chip: slices copied, bytes compared, full pages, bits turned. Conditions: the lists are read where they lie, or lent. -/
namespace Go.Proofs.YtcapijdokbkgaaaDoor
open Go Go.Sx Go.Fm
set_option maxRecDepth 100000
/-- Bytes are answered, in memory of their own. -/
abbrev SpecB (P : Program) (f : FuncId) (args : List Value) (w : World) (E : List Nat) : Prop :=
  SpecX P f args w (X := Option Addr × Nat) (fun q => .slice q.1 E.length q.2) (fun q => E.length ≤ q.2) (fun q => [own 5 1 q.1 E.length q.2 (nats .u8 E)])
theorem natsAt8 {a : List Nat} {i : Nat} (h : i < a.length) : (nats .u8 a)[i]? = some (.int .u8 (a.getD i 0 : Nat)) := natsAt h
theorem getD_lt8 {a : List Nat} (h : ∀ x ∈ a, x < 256) (j : Nat) : a.getD j 0 < 256 := by
  rw [List.getD_eq_getElem?_getD]
  by_cases hj : j < a.length
  · rw [List.getElem?_eq_getElem hj]
    exact h _ (List.getElem_mem hj)
  · rw [List.getElem?_eq_none (by omega)]
    decide
theorem nats8_set (l : List Nat) (k v : Nat) : nats .u8 (l.set k v) = (nats .u8 l).set k (.int .u8 (v : Nat)) := by simp [nats, List.map_set]
theorem _root_.Go.Sx.Has.cong {w : World} {sz n : Nat} {A : Option Addr} {vs us : List Value} (h : Has (sl sz A n vs) w) (he : vs = us) : Has (sl sz A n us) w := by rw [← he]; exact h
theorem cloneB_spec (A : Option Addr) (n c : Nat) (p : List Nat) (w : World) (ha : Has (sl 1 A n (nats .u8 p)) w) (hn : n ≤ 1000000) : SpecB Tryd.prog 66 [.slice A n c] w p := by
  have hla := nats_len ha
  subst hla
  refine spec_of Tryd.func66 rfl Tryd.ntmps66 rfl ?_
  refine CW.seq ?_
  refine CW.reg [0] rfl ?_
  refine s_as 2 rfl rfl ?_
  refine SX.next ?_
  refine CW.seq ?_
  refine CW.seq ?_
  refine CW.reg [0, 1] rfl ?_
  refine s_mv 3 rfl rfl ?_
  refine s_eqSN 4 rfl rfl rfl ?_
  refine SX.next ?_
  refine CW.cond rfl (fun hc => ?_) (fun hc => ?_)
  · skip
    have hp0 : p = [] := by
      cases A with
      | none =>
        refine List.eq_nil_of_length_eq_zero (Classical.byContradiction fun h => ?_)
        have := ha.sl_some h
        cases this
      | some a => cases hc
    refine CW.seq ?_
    refine CW.reg [0] rfl ?_
    refine s_as 2 rfl rfl ?_
    refine SX.next ?_
    refine CW.ret ?_
    exact KN.ret (rs := [.tmp 2]) Tryd.results66 rfl (fun w hw => ⟨(none, 0), by rw [hp0]; rfl, by rw [hp0]; exact Nat.le_refl _, by rw [hp0]; exact hw.begin_ _ 1⟩)
  · skip
    refine CW.skip ?_
    refine KN.code ?_
    refine CW.seq ?_
    refine CW.reg [0, 1, 2, 3] rfl ?_
    refine s_bsl0 5 rfl (fun _ _ => trivial) (fun g0 => ?_)
    refine SX.pre (fun _ h => h.blkOwn0 (q := 0) (sz := 1) rfl) ?_
    refine s_mv 6 rfl rfl ?_
    refine s_app 7 0 rfl rfl rfl rfl (ys := nats .u8 p) (fun w hw => hw.old ha) (nats_one _ _) rfl (by omega) (by unfold maxLen; omega) (by omega) (fun _ _ _ _ => trivial) (fun A2 c2 hc2 => ?_)
    refine s_as 2 rfl rfl ?_
    refine SX.next ?_
    refine CW.ret ?_
    exact KN.ret (rs := [.tmp 2]) Tryd.results66 rfl (fun w hw => ⟨(A2, c2), by rw [Nat.zero_add]; rfl, by omega, by rw [Nat.zero_add] at hw; exact hw⟩)

theorem cloneI_spec (A : Option Addr) (n c : Nat) (p : List Int) (w : World) (ha : Has (sl 1 A n (ints .i64 p)) w) (hn : n ≤ 1000000) : SpecX Tryd.prog 84 [.slice A n c] w (X := Option Addr × Nat) (fun q => .slice q.1 p.length q.2) (fun q => p.length ≤ q.2) (fun q => [own 3 1 q.1 p.length q.2 (ints .i64 p)]) := by
  have hla := ints_len ha
  subst hla
  refine spec_of Tryd.func84 rfl Tryd.ntmps84 rfl ?_
  refine CW.seq ?_
  refine CW.reg [0] rfl ?_
  refine s_as 2 rfl rfl ?_
  refine SX.next ?_
  refine CW.seq ?_
  refine CW.seq ?_
  refine CW.reg [0, 1] rfl ?_
  refine s_mv 3 rfl rfl ?_
  refine s_eqSN 4 rfl rfl rfl ?_
  refine SX.next ?_
  refine CW.cond rfl (fun hc => ?_) (fun hc => ?_)
  · skip
    have hp0 : p = [] := by
      cases A with
      | none =>
        refine List.eq_nil_of_length_eq_zero (Classical.byContradiction fun h => ?_)
        have := ha.sl_some h
        cases this
      | some a => cases hc
    refine CW.seq ?_
    refine CW.reg [0] rfl ?_
    refine s_as 2 rfl rfl ?_
    refine SX.next ?_
    refine CW.ret ?_
    exact KN.ret (rs := [.tmp 2]) Tryd.results84 rfl (fun w hw => ⟨(none, 0), by rw [hp0]; rfl, by rw [hp0]; exact Nat.le_refl _, by rw [hp0]; exact hw.begin_ _ 1⟩)
  · skip
    refine CW.skip ?_
    refine KN.code ?_
    refine CW.seq ?_
    refine CW.reg [0, 1, 2, 3] rfl ?_
    refine s_bsl0 5 rfl (fun _ _ => trivial) (fun g0 => ?_)
    refine SX.pre (fun _ h => h.blkOwn0 (q := 0) (sz := 1) rfl) ?_
    refine s_mv 6 rfl rfl ?_
    refine s_app 7 0 rfl rfl rfl rfl (ys := ints .i64 p) (fun w hw => hw.old ha) (ints_one _ _) rfl (by omega) (by unfold maxLen; omega) (by omega) (fun _ _ _ _ => trivial) (fun A2 c2 hc2 => ?_)
    refine s_as 2 rfl rfl ?_
    refine SX.next ?_
    refine CW.ret ?_
    exact KN.ret (rs := [.tmp 2]) Tryd.results84 rfl (fun w hw => ⟨(A2, c2), by rw [Nat.zero_add]; rfl, by omega, by rw [Nat.zero_add] at hw; exact hw⟩)

theorem rbytes_spec (A : Option Addr) (n c : Nat) (p : List Nat) (w : World) (ha : Has (sl 1 A n (nats .u8 p)) w) (hn : n ≤ 1000000) : SpecB Tryd.prog 75 [.slice A n c] w p := by
  have hla := nats_len ha
  subst hla
  refine spec_of Tryd.func75 rfl Tryd.ntmps75 rfl ?_
  refine CW.seq ?_
  refine CW.reg [0] rfl ?_
  refine s_as 2 rfl rfl ?_
  refine SX.next ?_
  refine CW.seq ?_
  refine CW.reg [0, 1, 2, 3, 4, 5] rfl ?_
  refine s_mv 3 rfl rfl ?_
  refine s_len 4 rfl rfl ?_
  refine s_makeC 5 p.length rfl rfl rfl rfl rfl (by unfold maxLen; omega) (fun _ _ => trivial) (fun g0 => ?_)
  refine s_mv 6 rfl rfl ?_
  refine s_app 7 0 rfl rfl rfl rfl (ys := nats .u8 p) (fun w hw => hw.old ha) (nats_one _ _) rfl (by omega) (by unfold maxLen; omega) (by omega) (fun _ _ _ _ => trivial) (fun A2 c2 hc2 => ?_)
  refine s_as 2 rfl rfl ?_
  refine SX.next ?_
  refine CW.ret ?_
  exact KN.ret (rs := [.tmp 2]) Tryd.results75 rfl (fun w hw => ⟨(A2, c2), by rw [Nat.zero_add]; rfl, by omega, by rw [Nat.zero_add] at hw; exact hw⟩)

theorem sameBytes_spec (A : Option Addr) (n c : Nat) (p : List Nat) (A2 : Option Addr) (n2 c2 : Nat) (p2 : List Nat) (w : World) (ha : Has (sl 1 A n (nats .u8 p)) w) (hp : ∀ x ∈ p, x < 256) (ha2 : Has (sl 1 A2 n2 (nats .u8 p2)) w) (hp2 : ∀ x ∈ p2, x < 256) : Spec1 Tryd.prog 21 [.slice A n c, .slice A2 n2 c2] w (.bool (decide (p = p2))) := by
  refine spec_of Tryd.func21 rfl Tryd.ntmps21 rfl ?_
  refine CW.seq ?_
  refine CW.reg [0] rfl ?_
  refine s_as 4 rfl rfl ?_
  refine SX.next ?_
  refine CW.seq ?_
  refine CW.reg [0, 1, 2, 3, 4, 5] rfl ?_
  refine s_mv 5 rfl rfl ?_
  refine s_b2s 6 rfl Tryd.underlying5 Tryd.underlying9 rfl (fun w hw => hw.old ha) ?_
  refine s_mv 7 rfl rfl ?_
  refine s_b2s 8 rfl Tryd.underlying5 Tryd.underlying9 rfl (fun w hw => hw.old ha2) ?_
  refine s_eqS 9 rfl rfl rfl (strB_beq hp hp2) ?_
  refine s_as 4 rfl rfl ?_
  refine SX.next ?_
  refine CW.ret ?_
  exact KN.ret (rs := [.tmp 4]) Tryd.results21 rfl (fun w hw => ⟨rfl, hw.nothing⟩)

theorem u64_and {x : Nat} (hx : x < 2 ^ 32) : ibit .and .u64 (x : Nat) 4294967295 = (x : Nat) := by
  show IntKind.u64.wrap ((BitVec.ofInt 64 (x : Int) &&& BitVec.ofInt 64 ((4294967295 : Nat) : Int)).toNat : Nat) = _
  rw [BitVec.toNat_and, toNat_ofIntU (by omega), toNat_ofIntU (by omega), show (4294967295 : Nat) = 2 ^ 32 - 1 by decide, Nat.and_two_pow_sub_one_eq_mod, Nat.mod_eq_of_lt hx]
  exact wu64' (by omega)
theorem u64_shr {x : Nat} (hx : x < 2 ^ 32) : ((x : Nat) : Int).fdiv (2 ^ (min (32 : Int).toNat IntKind.u64.bits)) = ((0 : Nat) : Int) := by
  have := shr_u64 (x := x) (k := 32) (by omega)
  rw [Nat.shiftRight_eq_div_pow, Nat.div_eq_of_lt hx] at this
  exact this

theorem mul64_spec (y : Nat) (w : World) (hy : y < 2 ^ 32) : Spec1 Tryd.prog 95 [.int .u64 ((1 : Nat) : Int), .int .u64 ((y : Nat) : Int)] w (two (.int .u64 ((0 : Nat) : Int)) (.int .u64 ((y : Nat) : Int))) := by
  refine spec_of Tryd.func95 rfl Tryd.ntmps95 rfl ?_
  refine CW.seq ?_
  refine CW.reg [0, 1] rfl ?_
  refine s_as 4 rfl rfl ?_
  refine s_as 5 rfl rfl ?_
  refine SX.next ?_
  refine CW.seq ?_
  refine CW.reg [0, 1, 2] rfl ?_
  refine s_mv 14 rfl rfl ?_
  refine s_bit 15 rfl rfl rfl rfl (r := ((1 : Nat) : Int)) (u64_and (by omega)) ?_
  refine s_as 6 rfl rfl ?_
  refine SX.next ?_
  refine CW.seq ?_
  refine CW.reg [0, 1, 2] rfl ?_
  refine s_mv 16 rfl rfl ?_
  refine s_shr 17 rfl rfl rfl (by omega) (r := ((0 : Nat) : Int)) (u64_shr (by omega)) ?_
  refine s_as 7 rfl rfl ?_
  refine SX.next ?_
  refine CW.seq ?_
  refine CW.reg [0, 1, 2] rfl ?_
  refine s_mv 18 rfl rfl ?_
  refine s_bit 19 rfl rfl rfl rfl (r := ((y : Nat) : Int)) (u64_and (by omega)) ?_
  refine s_as 8 rfl rfl ?_
  refine SX.next ?_
  refine CW.seq ?_
  refine CW.reg [0, 1, 2] rfl ?_
  refine s_mv 20 rfl rfl ?_
  refine s_shr 21 rfl rfl rfl (by omega) (r := ((0 : Nat) : Int)) (u64_shr (by omega)) ?_
  refine s_as 9 rfl rfl ?_
  refine SX.next ?_
  refine CW.seq ?_
  refine CW.reg [0, 1, 2, 3] rfl ?_
  refine s_mv 22 rfl rfl ?_
  refine s_mv 23 rfl rfl ?_
  refine s_mul 24 rfl rfl rfl (r := ((y : Nat) : Int)) (by first | (rw [show ((1 : Nat) : Int) * ((y : Nat) : Int) = ((y : Nat) : Int) by omega]; exact wu64' (by omega)) | (rw [show ((0 : Nat) : Int) * ((y : Nat) : Int) = ((0 : Nat) : Int) by omega]; rfl) | rfl) ?_
  refine s_as 10 rfl rfl ?_
  refine SX.next ?_
  refine CW.seq ?_
  refine CW.reg [0, 1, 2, 3, 4, 5, 6] rfl ?_
  refine s_mv 25 rfl rfl ?_
  refine s_mv 26 rfl rfl ?_
  refine s_mul 27 rfl rfl rfl (r := ((0 : Nat) : Int)) (by first | (rw [show ((1 : Nat) : Int) * ((y : Nat) : Int) = ((y : Nat) : Int) by omega]; exact wu64' (by omega)) | (rw [show ((0 : Nat) : Int) * ((y : Nat) : Int) = ((0 : Nat) : Int) by omega]; rfl) | rfl) ?_
  refine s_mv 28 rfl rfl ?_
  refine s_shr 29 rfl rfl rfl (by omega) (r := ((0 : Nat) : Int)) (u64_shr (by omega)) ?_
  refine s_add 30 rfl rfl rfl (r := ((0 : Nat) : Int)) rfl ?_
  refine s_as 11 rfl rfl ?_
  refine SX.next ?_
  refine CW.seq ?_
  refine CW.reg [0, 1, 2] rfl ?_
  refine s_mv 31 rfl rfl ?_
  refine s_bit 32 rfl rfl rfl rfl (r := ((0 : Nat) : Int)) (u64_and (by omega)) ?_
  refine s_as 12 rfl rfl ?_
  refine SX.next ?_
  refine CW.seq ?_
  refine CW.reg [0, 1, 2] rfl ?_
  refine s_mv 33 rfl rfl ?_
  refine s_shr 34 rfl rfl rfl (by omega) (r := ((0 : Nat) : Int)) (u64_shr (by omega)) ?_
  refine s_as 13 rfl rfl ?_
  refine SX.next ?_
  refine CW.seq ?_
  refine CW.reg [0, 1, 2, 3, 4, 5] rfl ?_
  refine s_mv 35 rfl rfl ?_
  refine s_mv 36 rfl rfl ?_
  refine s_mv 37 rfl rfl ?_
  refine s_mul 38 rfl rfl rfl (r := ((0 : Nat) : Int)) (by first | (rw [show ((1 : Nat) : Int) * ((y : Nat) : Int) = ((y : Nat) : Int) by omega]; exact wu64' (by omega)) | (rw [show ((0 : Nat) : Int) * ((y : Nat) : Int) = ((0 : Nat) : Int) by omega]; rfl) | rfl) ?_
  refine s_add 39 rfl rfl rfl (r := ((0 : Nat) : Int)) rfl ?_
  refine s_as 12 rfl rfl ?_
  refine SX.next ?_
  refine CW.seq ?_
  refine CW.reg [0, 1, 2, 3, 4, 5, 6, 7, 8] rfl ?_
  refine s_mv 40 rfl rfl ?_
  refine s_mv 41 rfl rfl ?_
  refine s_mul 42 rfl rfl rfl (r := ((0 : Nat) : Int)) (by first | (rw [show ((1 : Nat) : Int) * ((y : Nat) : Int) = ((y : Nat) : Int) by omega]; exact wu64' (by omega)) | (rw [show ((0 : Nat) : Int) * ((y : Nat) : Int) = ((0 : Nat) : Int) by omega]; rfl) | rfl) ?_
  refine s_mv 43 rfl rfl ?_
  refine s_add 44 rfl rfl rfl (r := ((0 : Nat) : Int)) rfl ?_
  refine s_mv 45 rfl rfl ?_
  refine s_shr 46 rfl rfl rfl (by omega) (r := ((0 : Nat) : Int)) (u64_shr (by omega)) ?_
  refine s_add 47 rfl rfl rfl (r := ((0 : Nat) : Int)) rfl ?_
  refine s_as 4 rfl rfl ?_
  refine SX.next ?_
  refine CW.seq ?_
  refine CW.reg [0, 1, 2, 3] rfl ?_
  refine s_mv 48 rfl rfl ?_
  refine s_mv 49 rfl rfl ?_
  refine s_mul 50 rfl rfl rfl (r := ((y : Nat) : Int)) (by first | (rw [show ((1 : Nat) : Int) * ((y : Nat) : Int) = ((y : Nat) : Int) by omega]; exact wu64' (by omega)) | (rw [show ((0 : Nat) : Int) * ((y : Nat) : Int) = ((0 : Nat) : Int) by omega]; rfl) | rfl) ?_
  refine s_as 5 rfl rfl ?_
  refine SX.next ?_
  refine CW.ret ?_
  exact KN.ret (rs := [.tmp 4, .tmp 5]) Tryd.results95 rfl (fun w hw => ⟨rfl, hw.nothing⟩)

theorem mulB_spec (y : Nat) (w : World) (hy : y < 2 ^ 32) : Spec1 Tryd.prog 88 [.int .u64 ((1 : Nat) : Int), .int .u64 ((y : Nat) : Int)] w (two (.int .u64 ((0 : Nat) : Int)) (.int .u64 ((y : Nat) : Int))) := by
  refine spec_of Tryd.func88 rfl Tryd.ntmps88 rfl ?_
  refine CW.seq ?_
  refine CW.reg [0, 1] rfl ?_
  refine s_as 4 rfl rfl ?_
  refine s_as 5 rfl rfl ?_
  refine SX.next ?_
  refine CW.seq ?_
  refine CW.condF rfl ?_
  refine CW.skip ?_
  refine KN.code ?_
  refine CW.seq ?_
  refine CW.reg [0, 1, 2, 3, 4, 5, 6, 7] rfl ?_
  refine s_mv 23 rfl rfl ?_
  refine s_mv 24 rfl rfl ?_
  refine s_call1 25 rfl rfl rfl rfl (fun w hw => mul64_spec y w hy) (fun _ _ => trivial) ?_
  refine s_mv 22 rfl rfl ?_
  refine s_ext 26 rfl rfl rfl ?_
  refine s_ext 27 rfl rfl rfl ?_
  refine s_as 8 rfl rfl ?_
  refine s_as 9 rfl rfl ?_
  refine SX.next ?_
  refine CW.seq ?_
  refine CW.reg [0, 1, 2, 3] rfl ?_
  refine s_mv 28 rfl rfl ?_
  refine s_mv 29 rfl rfl ?_
  refine s_as 4 rfl rfl ?_
  refine s_as 5 rfl rfl ?_
  refine SX.next ?_
  refine CW.ret ?_
  exact KN.ret (rs := [.tmp 4, .tmp 5]) Tryd.results88 rfl (fun w hw => ⟨rfl, hw.nothing⟩)

theorem rep_full {v : Value} {n k : Nat} (z : Value) (h0 : k ≤ n) (a b : Nat) (ha : a = k) (hb : b = min k (n - k)) : ((List.replicate k v ++ List.replicate (n - k) z).take a ++ (List.replicate k v).take b ++ (List.replicate k v ++ List.replicate (n - k) z).drop (a + b)) = List.replicate (k + min k (n - k)) v ++ List.replicate (n - (k + min k (n - k))) z := by
  subst ha hb
  have e1 : (List.replicate a v ++ List.replicate (n - a) z).take a = List.replicate a v := List.take_left' (by simp)
  have e2 : (List.replicate a v ++ List.replicate (n - a) z).drop (a + min a (n - a)) = List.replicate (n - (a + min a (n - a))) z := by
    rw [List.drop_append, List.drop_of_length_le (by simp), List.nil_append, List.length_replicate, List.drop_replicate]
    congr 1
    omega
  rw [e1, e2, List.take_replicate, Nat.min_eq_left (Nat.min_le_left _ _), List.replicate_append_replicate]

theorem repeat_spec (A : Option Addr) (c v q : Nat) (w : World) (ha : Has (sl 1 A 1 (nats .u8 [v])) w) (hq0 : 1 ≤ q) (hq : q ≤ 4096) : SpecB Tryd.prog 83 [.slice A 1 c, .int .i64 (q : Nat)] w (List.replicate q v) := by
  refine spec_of Tryd.func83 rfl Tryd.ntmps83 rfl ?_
  refine CW.seq ?_
  refine CW.reg [0] rfl ?_
  refine s_as 4 rfl rfl ?_
  refine SX.next ?_
  refine CW.seq ?_
  refine CW.seq ?_
  refine CW.reg [0, 1] rfl ?_
  refine s_mv 9 rfl rfl ?_
  refine s_lt 10 rfl rfl rfl (decide_eq_false (by omega)) ?_
  refine SX.next ?_
  refine CW.condF rfl ?_
  refine CW.skip ?_
  refine KN.code ?_
  refine CW.seq ?_
  refine CW.reg [0, 1, 2, 3, 4, 5, 6, 7, 8, 9, 10] rfl ?_
  refine s_mv 13 rfl rfl ?_
  refine s_len 14 rfl rfl ?_
  refine s_conv 15 rfl rfl (r := ((1 : Nat) : Int)) rfl ?_
  refine s_mv 16 rfl rfl ?_
  refine s_conv 17 rfl rfl (r := ((q : Nat) : Int)) (wu64' (by omega)) ?_
  refine s_call1 18 rfl rfl rfl rfl (fun w hw => mulB_spec q w (by omega)) (fun _ _ => trivial) ?_
  refine s_mv 12 rfl rfl ?_
  refine s_ext 19 rfl rfl rfl ?_
  refine s_ext 20 rfl rfl rfl ?_
  refine s_as 5 rfl rfl ?_
  refine s_as 6 rfl rfl ?_
  refine SX.next ?_
  refine CW.seq ?_
  refine CW.seq ?_
  refine CW.reg [0, 1, 2, 3, 4, 5] rfl ?_
  refine s_mv 21 rfl rfl ?_
  refine s_gt 22 rfl rfl rfl (decide_eq_false (by omega)) ?_
  refine s_mv 23 rfl rfl ?_
  refine s_mv 24 rfl rfl ?_
  refine s_gt 25 rfl rfl rfl (decide_eq_false (by omega)) ?_
  refine s_pickF 26 rfl rfl rfl ?_
  refine SX.next ?_
  refine CW.condF rfl ?_
  refine CW.skip ?_
  refine KN.code ?_
  refine CW.seq ?_
  refine CW.reg [0, 1, 2, 3] rfl ?_
  refine s_mv 28 rfl rfl ?_
  refine s_conv 29 rfl rfl (r := ((q : Nat) : Int)) (w64 (by omega)) ?_
  refine s_make 30 q rfl rfl rfl rfl rfl (by omega) (fun _ _ => trivial) (fun g => ?_)
  refine s_as 7 rfl rfl ?_
  refine SX.next ?_
  refine CW.seq ?_
  refine CW.reg [0, 1, 2, 3] rfl ?_
  refine s_mv 31 rfl rfl ?_
  refine s_mv 32 rfl rfl ?_
  refine (s_copyB (off := 0) 0 rfl rfl rfl rfl (fun _ => rfl) (fun w hw => hw.old ha) (nats_one _ _) (by simp) (fun _ _ => trivial) ?_)
  refine s_as 8 rfl rfl ?_
  refine SX.next ?_
  refine CW.seq ?_
  refine CW.block ?_
  refine CW.loop (G := Nat) (fun k => [(7, .slice (some ⟨g, 0, none⟩) q q), (8, .int .i64 ((k : Nat) : Int))]) (fun k => Sto w [blk g 5 (List.replicate k (Value.int .u8 ((v : Nat) : Int)) ++ List.replicate (q - k) (Value.int .u8 0)).toArray]) (fun k => 1 ≤ k ∧ k ≤ q) (fun k => q - k) 1 ⟨rfl, by rw [show min 1 q = 1 by omega]; rfl, trivial⟩ (fun _ h => by
  have e : min 1 q = 1 := by omega
  rw [e] at h
  have e2 : (List.replicate q (Value.int .u8 0)).toArray.toList.take 0 ++ (nats .u8 [v]).take 1 ++ (List.replicate q (Value.int .u8 0)).toArray.toList.drop (0 + 1) = List.replicate 1 (Value.int .u8 ((v : Nat) : Int)) ++ List.replicate (q - 1) (Value.int .u8 0) := by simp [nats]
  rw [e2] at h
  exact h) ⟨Nat.le_refl _, hq0⟩ ?_
  rintro k ⟨hk1, hkq⟩
  refine CW.seq ?_
  refine CW.seq ?_
  refine CW.reg [0, 1, 2, 3] rfl ?_
  refine s_mv 34 rfl rfl ?_
  refine s_mv 35 rfl rfl ?_
  refine s_len 36 rfl rfl ?_
  refine s_lt 37 rfl rfl rfl rfl ?_
  refine SX.next ?_
  refine CW.test rfl (fun hc => ?_) (fun hc => ?_)
  · skip
    have hkl : k < q := by omega
    refine CW.skip ?_
    refine KN.code ?_
    refine CW.block ?_
    refine CW.regD (.st true 0 (.st true 1 (.st true 2 (.st true 3 (.st true 4 (.st true 5 (.st true 6 (.st false 7 (.st true 8 (.st true 9 .done)))))))))) (fun _ => True) mixed (by kernel_rfl) (fun _ h => h.drew) (fun _ _ => trivial) ?_
    refine s_mv 38 rfl rfl ?_
    refine s_mv 39 rfl rfl ?_
    refine s_mv 40 rfl rfl ?_
    refine s_slL 41 k rfl rfl rfl rfl (by omega) ?_
    refine s_mv 42 rfl rfl ?_
    refine s_mv 43 rfl rfl ?_
    refine s_slH 44 k rfl rfl rfl rfl (by omega) ?_
    refine (s_copyB 0 (off := k) (ys := List.replicate k (Value.int .u8 ((v : Nat) : Int))) rfl rfl rfl rfl (fun _ => by unfold cutA; rw [if_neg (by omega), Option.map_some, add_at, Nat.mul_one, Nat.zero_add]) (fun w hw => by
      have h1 := (hw.has (i := 0) rfl).blk_sl (sz := 1) (m := q) (by simp; omega)
      have h2 := h1.sl_cut (lo := 0) (hi := k) (c := q) (Nat.zero_le _) hkq (Nat.le_refl _)
      rw [cutA_zero, Nat.zero_mul, Nat.sub_zero, Nat.mul_one, List.drop_zero] at h2
      refine Has.cong h2 ?_
      exact List.take_left' List.length_replicate) (by rw [List.all_eq_true]; intro x hx; rw [List.eq_of_mem_replicate hx]; rfl) (by simp) (fun _ _ => trivial) ?_)
    refine s_add 46 rfl rfl rfl (r := ((k + min k (q - k) : Nat) : Int)) (by rw [show ((k : Nat) : Int) + ((min k (q - k) : Nat) : Int) = ((k + min k (q - k) : Nat) : Int) by omega]; exact w64 (by omega)) ?_
    refine s_as 8 rfl rfl ?_
    refine SX.end_ ?_
    refine KN.blk ?_
    exact KN.back (k + min k (q - k)) ⟨rfl, rfl, trivial⟩ (fun _ h => by
  have e := rep_full (v := Value.int .u8 ((v : Nat) : Int)) (n := q) (Value.int .u8 0) hkq k _ rfl rfl
  simp only [List.set_cons_zero] at h
  rw [e] at h
  exact h) ⟨by omega, by omega⟩ (by omega)
  · skip
    obtain rfl : k = q := by omega
    refine CW.exit rfl ?_
    refine KN.code ?_
    refine CW.seq ?_
    refine CW.reg [0, 1] rfl ?_
    refine s_mv 47 rfl rfl ?_
    refine s_as 4 rfl rfl ?_
    refine SX.next ?_
    refine CW.ret ?_
    exact KN.ret (rs := [.tmp 4]) Tryd.results83 rfl (fun w hw => ⟨(some ⟨g, 0, none⟩, k), by rw [List.length_replicate]; rfl, by rw [List.length_replicate]; exact Nat.le_refl _, by
  have h1 := hw.blkOwnM (q := 0) (m := k) (c := k) (sz := 1) rfl (by simp) (Nat.le_refl _) (by unfold maxLen; omega)
  rw [Nat.mul_one, List.take_of_length_le (by simp), Nat.sub_self, List.replicate_zero, List.append_nil] at h1
  rw [List.length_replicate, show nats .u8 (List.replicate k v) = List.replicate k (.int .u8 ((v : Nat) : Int)) from List.map_replicate]
  exact h1⟩)

theorem full_spec (q : Nat) (w : World) (hq0 : 1 ≤ q) (hq : q ≤ 4096) : SpecB Tryd.prog 61 [.int .i64 (q : Nat)] w (List.replicate q 255) := by
  refine spec_of Tryd.func61 rfl Tryd.ntmps61 rfl ?_
  refine CW.seq ?_
  refine CW.reg [0] rfl ?_
  refine s_as 2 rfl rfl ?_
  refine SX.next ?_
  refine CW.seq ?_
  refine CW.reg [0, 1, 2, 3] rfl ?_
  refine s_bsl 3 rfl rfl (cells := #[.int .u8 255]) (by kernel_rfl) rfl (fun _ _ => trivial) (fun g => ?_)
  refine s_mv 4 rfl rfl ?_
  refine s_call 5 rfl rfl rfl rfl (fun w hw => repeat_spec (some ⟨g, 0, none⟩) 1 255 q w (Has.cong ((hw.has (i := 0) rfl).blk_sl (m := 1) rfl) rfl) hq0 hq) (fun _ _ => trivial) (fun z hz => ?_)
  refine s_as 2 rfl rfl ?_
  refine SX.next ?_
  refine CW.ret ?_
  exact KN.ret (rs := [.tmp 2]) Tryd.results61 rfl (fun w hw => ⟨z, rfl, hz, hw.pick [0] rfl⟩)
end Go.Proofs.YtcapijdokbkgaaaDoor
end
section
/- Package chip: places, faults, bits turned, what is asked of an operation. Conditions: the chip is read where it lies, or lent; errors' variables stay. -/
namespace Go.Proofs.YtcapijdokbkgaaaDoor
open Go Go.Sx Go.Fm
set_option maxRecDepth 100000
def BkG.nul : BkG := ⟨none, 0, [], 0, false⟩
def ChG.bkG (x : ChG) (b : Int) : BkG := x.blocks.getD b.toNat BkG.nul
/-- A page's address. -/
def atP (x : ChG) (b p : Int) : Option Addr := if x.abs.inn b p = true then some ⟨ob (x.bkG b).A, 0 + p.toNat * 3, none⟩ else none
theorem has_eq (x : ChG) (i : Int) : x.abs.has i = decide (0 ≤ i ∧ i < (x.blocks.length : Int)) := by
  unfold ChS.has ChG.abs
  rw [List.length_map]
theorem abs_bk {x : ChG} {i : Nat} {bk : BkG} (h : x.blocks[i]? = some bk) : x.abs.blocks[i]? = some bk.abs := by
  show (x.blocks.map BkG.abs)[i]? = _
  rw [List.getElem?_map, h]
  rfl
theorem bk_pgs {x : ChG} (hx : x.abs.Ok) {i : Nat} {bk : BkG} (h : x.blocks[i]? = some bk) : (bk.pages.length : Int) = x.pages := by
  have := (hx.pg _ (List.mem_of_getElem? (abs_bk h))).1
  unfold BkG.abs at this
  rw [List.length_map] at this
  exact this
/-- A place that is there. -/
theorem inn_at {x : ChG} (hx : x.abs.Ok) {b p : Int} (h : x.abs.inn b p = true) : ∃ (i k : Nat) (bk : BkG) (pg : PgG), b = (i : Nat) ∧ p = (k : Nat) ∧ x.blocks[i]? = some bk ∧ bk.pages[k]? = some pg ∧ x.bkG b = bk := by
  unfold ChS.inn at h
  rw [Bool.and_eq_true, has_eq] at h
  have h1 := of_decide_eq_true h.1
  have h2 : 0 ≤ p ∧ p < x.pages := of_decide_eq_true h.2
  obtain ⟨i, rfl⟩ := Int.eq_ofNat_of_zero_le h1.1
  obtain ⟨k, rfl⟩ := Int.eq_ofNat_of_zero_le h2.1
  have hi : i < x.blocks.length := by omega
  have hb := List.getElem?_eq_getElem hi
  have hp := bk_pgs hx hb
  have hk : k < (x.blocks[i]).pages.length := by omega
  refine ⟨i, k, _, _, rfl, rfl, hb, List.getElem?_eq_getElem hk, ?_⟩
  unfold ChG.bkG
  rw [List.getD_eq_getElem?_getD, Int.toNat_natCast, hb, Option.getD_some]
theorem own_oo {E sz m c : Nat} {A : Option Addr} {xs : List Value} {w : World} (h : Has (own E sz A m c xs) w) (hm : m ≠ 0) : oo A = 0 := oo_zero (h.ownA.1 hm)
/-- Faults that are read. -/
structure PlIn (A : Option Addr) (l : List FtG) (w : World) : Prop where
  rows : Has (sl 5 A l.length (l.flatMap FtG.row)) w
  bits : ∀ f ∈ l, Has (sl 1 f.A f.bits.length (ints .i64 f.bits)) w
  lens : ∀ f ∈ l, f.bits.length ≤ 1000000
theorem PlIn.turn {A : Option Addr} {l : List FtG} {w w' : World} (h : PlIn A l w) (hw : Fr (Old w) w w') : PlIn A l w' := ⟨h.rows.turn hw, fun f hf => (h.bits f hf).turn hw, h.lens⟩
def gF (fs : List FtG) (i : Nat) : FtG := fs.getD i FtG.nul
theorem gF_at {fs : List FtG} {i : Nat} (h : i < fs.length) : fs[i]? = some (gF fs i) := by
  unfold gF
  rw [List.getD_eq_getElem?_getD, List.getElem?_eq_getElem h, Option.getD_some]
theorem gF_mem {fs : List FtG} {i : Nat} (h : i < fs.length) : gF fs i ∈ fs := List.mem_of_getElem? (gF_at h)

theorem copied_spec (A : Option Addr) (c : Nat) (l : List FtG) (w : World) (hl : PlIn A l w) (hn : l.length ≤ 1000) : SpecX Tryd.prog 69 [.slice A l.length c] w (X := PlG) (fun y => .slice y.A y.l.length y.c) (fun y => y.l.map FtG.abs = l.map FtG.abs) (fun y => [y.own, y.star]) := by
  refine spec_of Tryd.func69 rfl Tryd.ntmps69 rfl ?_
  refine CW.seq ?_
  refine CW.reg [0] rfl ?_
  refine s_as 2 rfl rfl ?_
  refine SX.next ?_
  refine CW.seq ?_
  refine CW.reg [0] rfl ?_
  refine s_as 3 rfl rfl ?_
  refine SX.next ?_
  refine CW.seq ?_
  refine CW.seq ?_
  refine CW.reg [0, 1, 2] rfl ?_
  refine s_mv 6 rfl rfl ?_
  refine s_len 7 rfl rfl ?_
  refine s_mv 8 rfl rfl ?_
  refine SX.next ?_
  refine CW.block ?_
  refine CW.loop (G := Nat × PlG) (fun q => [(3, .slice q.2.A q.2.l.length q.2.c), (6, .slice A l.length c), (7, .int .i64 (l.length : Nat)), (8, .int .i64 (q.1 : Nat))]) (fun q => Sto w [q.2.own, q.2.star]) (fun q => q.1 ≤ l.length ∧ q.2.l.map FtG.abs = (l.take q.1).map FtG.abs) (fun q => l.length - q.1) (0, ⟨none, 0, []⟩) ⟨rfl, rfl, rfl, rfl, trivial⟩ (fun _ h => (h.begin_ 48 5).starNil.pick [1, 0] rfl) ⟨Nat.zero_le _, rfl⟩ ?_
  rintro ⟨i, y⟩ ⟨hi, hy⟩
  simp only at hi hy
  dsimp only
  have hyl : y.l.length = i := by have := congrArg List.length hy; simpa [Nat.min_eq_left hi] using this
  refine CW.seq ?_
  refine CW.reg [0] rfl ?_
  refine s_lt 9 rfl rfl rfl rfl ?_
  refine SX.next ?_
  refine CW.seq ?_
  refine CW.test rfl (fun hc => ?_) (fun hc => ?_)
  · skip
    have hil : i < l.length := by omega
    have hg := gF_at hil
    have hm := gF_mem hil
    refine CW.skip ?_
    refine KN.code ?_
    refine CW.seq ?_
    refine CW.block ?_
    refine CW.seq ?_
    refine CW.reg [0, 1, 2, 3] rfl ?_
    refine s_iaV 10 i (fun w hw => hw.old hl.rows) rfl rfl rfl rfl hil ?_
    refine s_ldR 11 (cs := (gF l i).row) rfl rfl rfl (fun w hw => (hw.old hl.rows).rowAt ftRow_len hg (by omega)) ?_
    refine s_alloc 5 rfl (fun _ _ => trivial) (fun b5 => ?_)
    refine s_stAll 0 rfl rfl (by kernel_rfl) rfl rfl rfl rfl (fun _ _ => trivial) ?_
    refine SX.next ?_
    refine CW.seq ?_
    refine CW.reg [0, 1, 2, 3, 4] rfl ?_
    refine s_fa 12 rfl rfl ?_
    refine s_ldB 13 0 rfl rfl rfl (v := .slice (gF l i).A (gF l i).bits.length (gF l i).c) rfl ?_
    refine s_call 14 rfl rfl rfl rfl (fun w hw => cloneI_spec (gF l i).A (gF l i).bits.length (gF l i).c (gF l i).bits w (hw.old (hl.bits _ hm)) (hl.lens _ hm)) (fun _ _ => trivial) (fun z hz => ?_)
    refine s_fa 15 rfl rfl ?_
    refine s_stB 1 rfl rfl rfl rfl rfl (by show 4 < 5; decide) (fun _ _ => trivial) ?_
    refine SX.next ?_
    refine CW.reg [0, 1, 2, 3, 4] rfl ?_
    refine s_mv 16 rfl rfl ?_
    refine s_ldW 17 1 rfl rfl rfl ?_
    refine s_bsl 18 rfl rfl (cells := #[.int .i64 (⟨(gF l i).op, (gF l i).kind, (gF l i).level, (gF l i).n, z.1, z.2, (gF l i).bits⟩ : FtG).op, .int .i64 (⟨(gF l i).op, (gF l i).kind, (gF l i).level, (gF l i).n, z.1, z.2, (gF l i).bits⟩ : FtG).kind, .int .i64 (⟨(gF l i).op, (gF l i).kind, (gF l i).level, (gF l i).n, z.1, z.2, (gF l i).bits⟩ : FtG).level, .int .i64 (⟨(gF l i).op, (gF l i).kind, (gF l i).level, (gF l i).n, z.1, z.2, (gF l i).bits⟩ : FtG).n, .slice (⟨(gF l i).op, (gF l i).kind, (gF l i).level, (gF l i).n, z.1, z.2, (gF l i).bits⟩ : FtG).A (⟨(gF l i).op, (gF l i).kind, (gF l i).level, (gF l i).n, z.1, z.2, (gF l i).bits⟩ : FtG).bits.length (⟨(gF l i).op, (gF l i).kind, (gF l i).level, (gF l i).n, z.1, z.2, (gF l i).bits⟩ : FtG).c]) (by kernel_rfl) rfl (fun _ _ => trivial) (fun gb => ?_)
    refine s_app 19 3 rfl rfl rfl rfl (ys := (⟨(gF l i).op, (gF l i).kind, (gF l i).level, (gF l i).n, z.1, z.2, (gF l i).bits⟩ : FtG).row) (fun w hw => Has.cong ((hw.has (i := 0) rfl).blk_sl (m := 1) rfl) rfl) rfl rfl (by omega) (by unfold maxLen; omega) (by omega) (fun _ _ _ _ => trivial) (fun A2 c2 hc2 => ?_)
    refine s_as 3 rfl rfl ?_
    refine SX.end_ ?_
    refine KN.blk ?_
    refine KN.code ?_
    refine CW.reg [0, 1] rfl ?_
    refine s_add 20 rfl rfl rfl (r := ((i + 1 : Nat) : Int)) (w64 (by omega)) ?_
    refine s_mv 8 rfl rfl ?_
    refine SX.end_ ?_
    exact KN.back (i + 1, ⟨A2, c2, y.l ++ [(⟨(gF l i).op, (gF l i).kind, (gF l i).level, (gF l i).n, z.1, z.2, (gF l i).bits⟩ : FtG)]⟩) ⟨(by show some (Value.slice A2 (y.l.length + 1) c2) = some (.slice A2 (y.l ++ [(⟨(gF l i).op, (gF l i).kind, (gF l i).level, (gF l i).n, z.1, z.2, (gF l i).bits⟩ : FtG)]).length c2); rw [List.length_append]; rfl), rfl, rfl, rfl, trivial⟩ (fun _ h => by
      have h1 := (h.pick [1, 3, 2] rfl).starPush
      have e1 : (y.l ++ [(⟨(gF l i).op, (gF l i).kind, (gF l i).level, (gF l i).n, z.1, z.2, (gF l i).bits⟩ : FtG)]).length = y.l.length + 1 := by rw [List.length_append]; rfl
      have e2 : (y.l ++ [(⟨(gF l i).op, (gF l i).kind, (gF l i).level, (gF l i).n, z.1, z.2, (gF l i).bits⟩ : FtG)]).flatMap FtG.row = y.l.flatMap FtG.row ++ (⟨(gF l i).op, (gF l i).kind, (gF l i).level, (gF l i).n, z.1, z.2, (gF l i).bits⟩ : FtG).row := by rw [List.flatMap_append]; rfl
      have e3 : (y.l ++ [(⟨(gF l i).op, (gF l i).kind, (gF l i).level, (gF l i).n, z.1, z.2, (gF l i).bits⟩ : FtG)]).map FtG.dat = y.l.map FtG.dat ++ [(⟨(gF l i).op, (gF l i).kind, (gF l i).level, (gF l i).n, z.1, z.2, (gF l i).bits⟩ : FtG).dat] := List.map_append
      simp only [PlG.own, PlG.star, e1, e2, e3]
      exact h1.pick [1, 0] rfl) ⟨by simp only; omega, by
      simp only
      rw [List.take_add_one, hg, List.map_append, List.map_append, hy]
      rfl⟩ (by simp only; omega)
  · skip
    obtain rfl : i = l.length := by omega
    rw [List.take_length] at hy
    refine CW.exit rfl ?_
    refine KN.code ?_
    refine CW.seq ?_
    refine CW.reg [0, 1] rfl ?_
    refine s_mv 21 rfl rfl ?_
    refine s_as 2 rfl rfl ?_
    refine SX.next ?_
    refine CW.ret ?_
    exact KN.ret (rs := [.tmp 2]) Tryd.results69 rfl (fun w hw => ⟨y, rfl, hy, hw⟩)

theorem chas_spec (g : Nat) (x : ChG) (i : Int) (w : World) (hc : Has (chipA g x) w) : Spec1 Tryd.prog 62 [.pointer (some ⟨g, 0, none⟩), .int .i64 i] w (.bool (x.abs.has i)) := by
  refine spec_of Tryd.func62 rfl Tryd.ntmps62 rfl ?_
  refine CW.seq ?_
  refine CW.reg [0] rfl ?_
  refine s_as 4 rfl rfl ?_
  refine SX.next ?_
  refine CW.seq ?_
  refine CW.reg [0, 1, 2, 3, 4, 5, 6, 7, 8, 9, 10, 11] rfl ?_
  refine s_mv 5 rfl rfl ?_
  refine s_ge 6 rfl rfl rfl rfl ?_
  refine s_mv 7 rfl rfl ?_
  refine SX.bool 7 rfl (fun hb => ?_) (fun hb => ?_)
  · skip
    have h1 := of_decide_eq_true hb
    refine s_mv 8 rfl rfl ?_
    refine s_mv 9 rfl rfl ?_
    refine s_nil 10 rfl rfl ?_
    refine s_fa 11 rfl rfl ?_
    refine s_ld 12 rfl rfl (v := .slice x.A x.blocks.length x.c) (fun _ hw => chip_cell (hw.old hc) rfl) ?_
    refine s_len 13 rfl rfl ?_
    refine s_lt 14 rfl rfl rfl rfl ?_
    refine s_pickT 15 rfl rfl rfl ?_
    refine s_as 4 rfl rfl ?_
    refine SX.next ?_
    refine CW.ret ?_
    exact KN.ret (rs := [.tmp 4]) Tryd.results62 rfl (fun w hw => ⟨by rw [has_eq]; simp only [h1, true_and]; rfl, hw.nothing⟩)
  · skip
    have h1 := of_decide_eq_false hb
    refine SX.skip rfl ?_
    refine SX.skip rfl ?_
    refine SX.skip rfl ?_
    refine SX.skip rfl ?_
    refine SX.skip rfl ?_
    refine SX.skip rfl ?_
    refine SX.skip rfl ?_
    refine s_pickF 15 rfl rfl rfl ?_
    refine s_as 4 rfl rfl ?_
    refine SX.next ?_
    refine CW.ret ?_
    exact KN.ret (rs := [.tmp 4]) Tryd.results62 rfl (fun w hw => ⟨by rw [has_eq]; simp only [h1, false_and, decide_false]; rfl, hw.nothing⟩)

theorem at_spec (g : Nat) (x : ChG) (hx : x.abs.Ok) (b p : Int) (w : World) (hc : Has (chipA g x) w) : Spec1 Tryd.prog 63 [.pointer (some ⟨g, 0, none⟩), .agg #[.int .i64 b, .int .i64 p]] w (.pointer (atP x b p)) := by
  refine spec_of Tryd.func63 rfl Tryd.ntmps63 rfl ?_
  refine CW.seq ?_
  refine CW.reg [0, 1] rfl ?_
  refine s_box 3 rfl rfl (fun _ _ => trivial) (fun b3 => ?_)
  refine s_as 4 rfl rfl ?_
  refine SX.next ?_
  refine CW.seq ?_
  refine CW.seq ?_
  refine CW.regD (.st true 0 (.st true 1 (.st true 2 (.st false 3 (.st true 4 (.st true 5 (.st true 6 (.st true 7 (.st true 8 (.st true 9 (.st true 10 (.st true 11 (.st true 12 (.st true 13 (.st true 14 (.st true 15 (.st true 16 (.st true 17 (.st true 18 .done))))))))))))))))))) (Sto w [blk b3 31 #[.int .i64 b, .int .i64 p]]) mixed (by kernel_rfl) (fun _ h => h.drew) (fun _ h => h) ?_
  refine s_mv 5 rfl rfl ?_
  refine s_fa 6 rfl rfl ?_
  refine s_ldS 7 rfl rfl (v := .int .i64 b) (fun _ hw => hw.blkCell (i := 0) rfl rfl) ?_
  refine s_call1 8 rfl rfl rfl rfl (fun w hw => chas_spec g x b w (hw.old hc)) (fun _ h => h) ?_
  refine s_not 9 rfl rfl ?_
  refine s_mv 10 rfl rfl ?_
  refine SX.bool 10 rfl (fun hb => ?_) (fun hb => ?_)
  · skip
    have h1 : x.abs.has b = false := by simpa using hb
    refine SX.skip rfl ?_
    refine SX.skip rfl ?_
    refine SX.skip rfl ?_
    refine s_pickT 14 rfl rfl rfl ?_
    refine s_mv 15 rfl rfl ?_
    refine SX.skip rfl ?_
    refine SX.skip rfl ?_
    refine SX.skip rfl ?_
    refine SX.skip rfl ?_
    refine SX.skip rfl ?_
    refine SX.skip rfl ?_
    refine SX.skip rfl ?_
    refine s_pickT 23 rfl rfl rfl ?_
    refine SX.next ?_
    refine CW.condT rfl ?_
    refine CW.seq ?_
    refine CW.reg [0] rfl ?_
    refine s_as 4 rfl rfl ?_
    refine SX.next ?_
    refine CW.ret ?_
    exact KN.ret (rs := [.tmp 4]) Tryd.results63 rfl (fun w hw => ⟨by unfold atP; rw [if_neg (by unfold ChS.inn; rw [h1]; simp)]; rfl, hw.nothing⟩)
  · skip
    have h1 : x.abs.has b = true := by simpa using hb
    refine s_fa 11 rfl rfl ?_
    refine s_ldS 12 rfl rfl (v := .int .i64 p) (fun _ hw => hw.blkCell (i := 0) rfl rfl) ?_
    refine s_lt 13 rfl rfl rfl rfl ?_
    refine s_pickF 14 rfl rfl rfl ?_
    refine s_mv 15 rfl rfl ?_
    refine SX.bool 15 rfl (fun hb => ?_) (fun hb => ?_)
    · skip
      have h2 := of_decide_eq_true hb
      refine SX.skip rfl ?_
      refine SX.skip rfl ?_
      refine SX.skip rfl ?_
      refine SX.skip rfl ?_
      refine SX.skip rfl ?_
      refine SX.skip rfl ?_
      refine SX.skip rfl ?_
      refine s_pickT 23 rfl rfl rfl ?_
      refine SX.next ?_
      refine CW.condT rfl ?_
      refine CW.seq ?_
      refine CW.reg [0] rfl ?_
      refine s_as 4 rfl rfl ?_
      refine SX.next ?_
      refine CW.ret ?_
      exact KN.ret (rs := [.tmp 4]) Tryd.results63 rfl (fun w hw => ⟨by unfold atP; rw [if_neg (by unfold ChS.inn; rw [h1, decide_eq_false (show ¬ (0 ≤ p ∧ p < x.abs.pages) by omega)]; simp)]; rfl, hw.nothing⟩)
    · skip
      have h2 := of_decide_eq_false hb
      refine s_fa 16 rfl rfl ?_
      refine s_ldS 17 rfl rfl (v := .int .i64 p) (fun _ hw => hw.blkCell (i := 0) rfl rfl) ?_
      refine s_mv 18 rfl rfl ?_
      refine s_nil 19 rfl rfl ?_
      refine s_fa 20 rfl rfl ?_
      refine s_ldS 21 rfl rfl (v := .int .i64 x.pages) (fun _ hw => chip_cell (hw.old hc) rfl) ?_
      refine s_ge 22 rfl rfl rfl rfl ?_
      refine s_pickF 23 rfl rfl rfl ?_
      refine SX.next ?_
      refine CW.test rfl (fun h3 => ?_) (fun h3 => ?_)
      · skip
        refine CW.seq ?_
        refine CW.reg [0] rfl ?_
        refine s_as 4 rfl rfl ?_
        refine SX.next ?_
        refine CW.ret ?_
        exact KN.ret (rs := [.tmp 4]) Tryd.results63 rfl (fun w hw => ⟨by unfold atP; rw [if_neg (by unfold ChS.inn; rw [h1, decide_eq_false (show ¬ (0 ≤ p ∧ p < x.abs.pages) from fun h => absurd (show p < x.pages from h.2) (by omega))]; simp)]; rfl, hw.nothing⟩)
      · skip
        refine CW.skip ?_
        refine KN.code ?_
        refine CW.seq ?_
        have hin : x.abs.inn b p = true := by
          unfold ChS.inn
          rw [h1, Bool.true_and]
          exact decide_eq_true (show 0 ≤ p ∧ p < x.pages by omega)
        obtain ⟨i, k, bk, pg, hbi, hpk, hbk, hpg, hbe⟩ := inn_at hx hin
        have hil := (List.getElem?_eq_some_iff.1 hbk).1
        have hkl := (List.getElem?_eq_some_iff.1 hpg).1
        have hbm := List.mem_of_getElem? hbk
        have hoo : oo bk.A = 0 := own_oo ((chip_bk hc hbm).starM (A := bk.rows) (by simp)) (by omega)
        refine CW.regD (.st true 0 (.st true 1 (.st true 2 (.st true 3 (.st true 4 (.st true 5 (.st true 6 (.st true 7 (.st true 8 (.st true 9 (.st true 10 (.st true 11 (.st true 12 .done))))))))))))) (Sto w [blk b3 31 #[.int .i64 b, .int .i64 p]]) mixed (by kernel_rfl) (fun _ h => h.drew) (fun _ h => h) ?_
        refine s_mv 24 rfl rfl ?_
        refine s_nil 25 rfl rfl ?_
        refine s_fa 26 rfl rfl ?_
        refine s_ldS 27 rfl rfl (v := .slice x.A x.blocks.length x.c) (fun _ hw => chip_cell (hw.old hc) rfl) ?_
        refine s_fa 28 rfl rfl ?_
        refine s_ldS 29 rfl rfl (v := .int .i64 b) (fun _ hw => hw.blkCell (i := 0) rfl rfl) ?_
        refine s_iaV 30 i (fun w hw => chip_bks (hw.old hc)) rfl rfl rfl hbi hil ?_
        refine s_fa 31 rfl rfl ?_
        refine s_ldS 32 rfl rfl (v := .slice bk.A bk.pages.length bk.c) (fun _ hw => (chip_bks (hw.old hc)).rowAt bkRow_len hbk (by omega) 0 _ rfl) ?_
        refine s_fa 33 rfl rfl ?_
        refine s_ldS 34 rfl rfl (v := .int .i64 p) (fun _ hw => hw.blkCell (i := 0) rfl rfl) ?_
        refine s_iaV 35 k (fun w hw => bk_rows (chip_bk (hw.old hc) hbm)) rfl rfl rfl hpk hkl ?_
        rw [hoo]
        refine s_as 4 rfl rfl ?_
        refine SX.next ?_
        refine CW.ret ?_
        exact KN.ret (rs := [.tmp 4]) Tryd.results63 rfl (fun w hw => ⟨by unfold atP; rw [if_pos hin, hbe, hpk, Int.toNat_natCast]; rfl, hw.nothing⟩)

theorem ask_spec (g : Nat) (off is sized : Bool) (e : Nat → Addr) (w : World) (hoff : w.cell? ⟨g, 7, none⟩ = some (.bool off)) (hE1 : Er e w 0) (hE2 : Er e w 1) (hE3 : Er e w 2) : Spec1 Tryd.prog 64 [.pointer (some ⟨g, 0, none⟩), .bool is, .bool sized] w (evE e (askC off is sized)) := by
  refine spec_of Tryd.func64 rfl Tryd.ntmps64 rfl ?_
  refine CW.seq ?_
  refine CW.reg [0] rfl ?_
  refine s_as 6 rfl rfl ?_
  refine SX.next ?_
  refine CW.seq ?_
  refine CW.block ?_
  refine CW.seq ?_
  refine CW.reg [0, 1, 2, 3, 4] rfl ?_
  refine s_mv 8 rfl rfl ?_
  refine s_nil 9 rfl rfl ?_
  refine s_fa 10 rfl rfl ?_
  refine s_ld 11 rfl rfl (v := .bool off) (fun _ hw => hw.cell hoff) ?_
  refine s_as 7 rfl rfl ?_
  refine SX.next ?_
  refine CW.cond rfl (fun h1 => ?_) (fun h1 => ?_)
  · skip
    refine CW.seq ?_
    refine CW.reg [0, 1] rfl ?_
    refine s_ld 12 rfl rfl (fun _ hw => hw.cell hE1) ?_
    refine s_as 6 rfl rfl ?_
    refine SX.next ?_
    refine CW.ret ?_
    exact KN.ret (rs := [.tmp 6]) Tryd.results64 rfl (fun w hw => ⟨by first | (subst h1; rfl) | (cases is <;> first | (cases h2; done) | (subst h1; rfl)) | (cases is <;> cases sized <;> first | (cases h2; done) | (cases h3; done) | (subst h1; rfl)), hw.nothing⟩)
  · skip
    refine CW.seq ?_
    refine CW.reg [0, 1, 2] rfl ?_
    refine s_mv 14 rfl rfl ?_
    refine s_not 15 rfl rfl ?_
    refine s_as 13 rfl rfl ?_
    refine SX.next ?_
    refine CW.cond rfl (fun h2 => ?_) (fun h2 => ?_)
    · skip
      refine CW.seq ?_
      refine CW.reg [0, 1] rfl ?_
      refine s_ld 16 rfl rfl (fun _ hw => hw.cell hE2) ?_
      refine s_as 6 rfl rfl ?_
      refine SX.next ?_
      refine CW.ret ?_
      exact KN.ret (rs := [.tmp 6]) Tryd.results64 rfl (fun w hw => ⟨by first | (subst h1; rfl) | (cases is <;> first | (cases h2; done) | (subst h1; rfl)) | (cases is <;> cases sized <;> first | (cases h2; done) | (cases h3; done) | (subst h1; rfl)), hw.nothing⟩)
    · skip
      refine CW.seq ?_
      refine CW.reg [0, 1, 2] rfl ?_
      refine s_mv 18 rfl rfl ?_
      refine s_not 19 rfl rfl ?_
      refine s_as 17 rfl rfl ?_
      refine SX.next ?_
      refine CW.cond rfl (fun h3 => ?_) (fun h3 => ?_)
      · skip
        refine CW.seq ?_
        refine CW.reg [0, 1] rfl ?_
        refine s_ld 20 rfl rfl (fun _ hw => hw.cell hE3) ?_
        refine s_as 6 rfl rfl ?_
        refine SX.next ?_
        refine CW.ret ?_
        exact KN.ret (rs := [.tmp 6]) Tryd.results64 rfl (fun w hw => ⟨by first | (subst h1; rfl) | (cases is <;> first | (cases h2; done) | (subst h1; rfl)) | (cases is <;> cases sized <;> first | (cases h2; done) | (cases h3; done) | (subst h1; rfl)), hw.nothing⟩)
      · skip
        refine CW.skip ?_
        refine KN.blk ?_
        refine KN.code ?_
        refine CW.seq ?_
        refine CW.reg [0] rfl ?_
        refine s_as 6 rfl rfl ?_
        refine SX.next ?_
        refine CW.ret ?_
        exact KN.ret (rs := [.tmp 6]) Tryd.results64 rfl (fun w hw => ⟨by first | (subst h1; rfl) | (cases is <;> first | (cases h2; done) | (subst h1; rfl)) | (cases is <;> cases sized <;> first | (cases h2; done) | (cases h3; done) | (subst h1; rfl)), hw.nothing⟩)

def findG (l : List FtG) (k : Int) : Option FtG := l.find? (fun f => decide (f.kind = k))
theorem findG_at {l : List FtG} {k : Int} {i : Nat} {f : FtG} (hno : ∀ j f, j < i → l[j]? = some f → f.kind ≠ k) (hf : l[i]? = some f) (hk : f.kind = k) : findG l k = some f := by
  unfold findG
  rw [List.find?_eq_some_iff_getElem]
  have hi := (List.getElem?_eq_some_iff.1 hf).1
  refine ⟨decide_eq_true hk, i, hi, (List.getElem?_eq_some_iff.1 hf).2, fun j hj => ?_⟩
  have := hno j _ hj (List.getElem?_eq_getElem (by omega))
  simpa using this
theorem findG_none {l : List FtG} {k : Int} (hno : ∀ (j : Nat) f, l[j]? = some f → f.kind ≠ k) : findG l k = none := by
  unfold findG
  rw [List.find?_eq_none]
  intro f hf
  obtain ⟨j, hj⟩ := List.getElem?_of_mem hf
  simpa using hno j f hj
theorem findG_abs (l : List FtG) (k : Int) : (findG l k).map FtG.abs = findK (l.map FtG.abs) k := by
  unfold findG findK
  rw [List.find?_map]
  rfl
/-- What is found, as it is handed on. -/
def fndV (o : Option FtG) : Value := two (.agg (o.getD FtG.nul).row.toArray) (.bool o.isSome)

theorem find_spec (A : Option Addr) (c : Nat) (l : List FtG) (kind : Int) (w : World) (hl : Has (sl 5 A l.length (l.flatMap FtG.row)) w) (hn : l.length ≤ 1000) : Spec1 Tryd.prog 68 [.slice A l.length c, .int .i64 kind] w (fndV (findG l kind)) := by
  refine spec_of Tryd.func68 rfl Tryd.ntmps68 rfl ?_
  refine CW.seq ?_
  refine CW.reg [0, 1] rfl ?_
  refine s_alloc 4 rfl (fun _ _ => trivial) (fun b4 => ?_)
  refine s_as 5 rfl rfl ?_
  refine SX.next ?_
  refine CW.seq ?_
  refine CW.seq ?_
  refine CW.reg [0, 1, 2] rfl ?_
  refine s_mv 8 rfl rfl ?_
  refine s_len 9 rfl rfl ?_
  refine s_mv 10 rfl rfl ?_
  refine SX.next ?_
  refine CW.block ?_
  refine CW.loop (G := Nat) (fun i => [(1, .int .i64 kind), (4, .pointer (some ⟨b4, 0, none⟩)), (8, .slice A l.length c), (9, .int .i64 (l.length : Nat)), (10, .int .i64 (i : Nat))]) (fun _ => Sto w [blk b4 48 #[.int .i64 0, .int .i64 0, .int .i64 0, .int .i64 0, .slice none 0 0]]) (fun i => i ≤ l.length ∧ ∀ j f, j < i → l[j]? = some f → f.kind ≠ kind) (fun i => l.length - i) 0 ⟨rfl, rfl, rfl, rfl, rfl, trivial⟩ (fun _ h => h) ⟨Nat.zero_le _, fun j f h => by omega⟩ ?_
  rintro i ⟨hi, hno⟩
  refine CW.seq ?_
  refine CW.reg [0] rfl ?_
  refine s_lt 11 rfl rfl rfl rfl ?_
  refine SX.next ?_
  refine CW.seq ?_
  refine CW.test rfl (fun hc => ?_) (fun hc => ?_)
  · skip
    have hil : i < l.length := by omega
    have hg := gF_at hil
    refine CW.skip ?_
    refine KN.code ?_
    refine CW.seq ?_
    refine CW.block ?_
    refine CW.seq ?_
    refine CW.reg [0, 1, 2, 3] rfl ?_
    refine s_iaV 12 i (fun w hw => hw.old hl) rfl rfl rfl rfl hil ?_
    refine s_ldR 13 (cs := (gF l i).row) rfl rfl rfl (fun w hw => (hw.old hl).rowAt ftRow_len hg (by omega)) ?_
    refine s_alloc 7 rfl (fun _ _ => trivial) (fun b7 => ?_)
    refine s_stAll 0 rfl rfl (by kernel_rfl) rfl rfl rfl rfl (fun _ _ => trivial) ?_
    refine SX.next ?_
    refine CW.seq ?_
    refine CW.reg [0, 1, 2, 3] rfl ?_
    refine s_fa 14 rfl rfl ?_
    refine s_ldB 15 0 rfl rfl rfl (v := .int .i64 (gF l i).kind) rfl ?_
    refine s_mv 16 rfl rfl ?_
    refine s_eq 17 rfl rfl rfl rfl ?_
    refine SX.next ?_
    refine CW.test rfl (fun hc => ?_) (fun hc => ?_)
    · skip
      have hfs := findG_at hno hg hc
      refine CW.seq ?_
      refine CW.reg [0, 1, 2] rfl ?_
      refine s_ldW 18 0 rfl rfl rfl ?_
      refine s_stAll 1 rfl rfl (by kernel_rfl) rfl rfl rfl rfl (fun _ _ => trivial) ?_
      refine s_as 5 rfl rfl ?_
      refine SX.next ?_
      refine CW.ret ?_
      exact KN.retC (rs := [.cell 4 48, .tmp 5]) Tryd.results68 (fun w hw => ⟨[_, _], ⟨⟨_, rfl, hw.ldRow (q := 1) rfl (by rfl)⟩, rfl, trivial⟩, by rw [hfs]; rfl, hw.nothing⟩)
    · skip
      refine CW.skip ?_
      refine KN.blk ?_
      refine KN.code ?_
      refine CW.reg [0, 1] rfl ?_
      refine s_add 19 rfl rfl rfl (r := ((i + 1 : Nat) : Int)) (w64 (by omega)) ?_
      refine s_mv 10 rfl rfl ?_
      refine SX.end_ ?_
      exact KN.back (i + 1) ⟨rfl, rfl, rfl, rfl, rfl, trivial⟩ (fun _ h => h.pick [1] rfl) ⟨by omega, fun j f hj hf => by
  by_cases hji : j = i
  · subst hji; rw [hg] at hf; injection hf with h; subst h; exact hc
  · exact hno j f (by omega) hf⟩ (by omega)
  · skip
    obtain rfl : i = l.length := by omega
    have hfn := findG_none (fun j f hj => hno j f (List.getElem?_eq_some_iff.1 hj).1 hj)
    refine CW.exit rfl ?_
    refine KN.code ?_
    refine CW.seq ?_
    refine CW.reg [0, 1, 2] rfl ?_
    refine s_build 20 rfl rfl (cells := #[.int .i64 0, .int .i64 0, .int .i64 0, .int .i64 0, .slice none 0 0]) (by kernel_rfl) ?_
    refine s_stAll 0 rfl rfl (by kernel_rfl) rfl rfl rfl rfl (fun _ _ => trivial) ?_
    refine s_as 5 rfl rfl ?_
    refine SX.next ?_
    refine CW.ret ?_
    exact KN.retC (rs := [.cell 4 48, .tmp 5]) Tryd.results68 (fun w hw => ⟨[_, _], ⟨⟨_, rfl, hw.ldRow (q := 0) rfl (by rfl)⟩, rfl, trivial⟩, by rw [hfn]; rfl, hw.nothing⟩)

theorem turnL_take {b : List Nat} {l : List Int} {i : Nat} (h : i < l.length) : turnL b (l.take (i + 1)) = turn1 (turnL b (l.take i)) (l.getD i 0) := by
  unfold turnL
  rw [List.take_add_one, List.getElem?_eq_getElem h, List.foldl_append, List.getD_eq_getElem?_getD, List.getElem?_eq_getElem h]
  rfl
theorem turn1_len (b : List Nat) (i : Int) : (turn1 b i).length = b.length := by
  unfold turn1
  split
  · rw [List.length_set]
  · rfl
theorem turnL_len (b : List Nat) : ∀ l : List Int, (turnL b l).length = b.length := by
  intro l
  unfold turnL
  induction l generalizing b with
  | nil => rfl
  | cons i l ih => rw [List.foldl_cons, ih, turn1_len]
theorem turn1_lt {b : List Nat} (h : ∀ x ∈ b, x < 256) (i : Int) : ∀ x ∈ turn1 b i, x < 256 := by
  intro x hx
  unfold turn1 at hx
  split at hx
  · rcases List.mem_or_eq_of_mem_set hx with hx | rfl
    · exact h x hx
    · exact Nat.xor_lt_two_pow (n := 8) (getD_lt8 h _) (Nat.pow_lt_pow_of_lt (by decide) (Nat.mod_lt _ (by decide)))
  · exact h x hx
theorem turnL_lt {b : List Nat} (h : ∀ x ∈ b, x < 256) (l : List Int) : ∀ x ∈ turnL b l, x < 256 := by
  unfold turnL
  induction l generalizing b with
  | nil => exact h
  | cons i l ih => exact ih (turn1_lt h i)
theorem shl1_u8 {k : Nat} (hk : k < 8) : IntKind.u8.wrap ((1 : Int) * 2 ^ (min (k : Int).toNat IntKind.u8.bits)) = ((2 ^ k : Nat) : Int) := by
  have h := shl_u8 (x := 1) (k := k) (by omega)
  rw [Nat.one_mul, Nat.mod_eq_of_lt (show 2 ^ k < 2 ^ 8 from Nat.pow_lt_pow_of_lt (by decide) hk)] at h
  exact h

theorem turn_spec (F : Nat → Prop) (A : Option Addr) (c : Nat) (p : List Nat) (B : Option Addr) (d : Nat) (l : List Int) (w : World) (h8 : ∀ x ∈ p, x < 256) (hp : p.length ≤ 1000000) (hB : ∀ w', Fr F w w' → Has (sl 1 B l.length (ints .i64 l)) w') (hl : l.length ≤ 1000000) (hw : St F w [own 5 1 A p.length c (nats .u8 (p))] w) : SpecP Tryd.prog 67 [.slice A p.length c, .slice B l.length d] F w (X := Unit) (fun _ => oneOf []) (fun _ => True) (fun _ => [own 5 1 A p.length c (nats .u8 (turnL p l))]) := by
  refine spec_ofC Tryd.func67 rfl Tryd.ntmps67 rfl hw ?_
  refine CW.seq ?_
  refine CW.reg [0, 1, 2] rfl ?_
  refine s_mv 6 rfl rfl ?_
  refine s_len 7 rfl rfl ?_
  refine s_mv 8 rfl rfl ?_
  refine SX.next ?_
  refine CW.block ?_
  refine CW.loop (G := Nat) (fun i => [(0, .slice A p.length c), (6, .slice B l.length d), (7, .int .i64 (l.length : Nat)), (8, .int .i64 (i : Nat))]) (fun i => St F w [own 5 1 A p.length c (nats .u8 (turnL p (l.take i)))]) (fun i => i ≤ l.length) (fun i => l.length - i) 0 ⟨rfl, rfl, rfl, rfl, trivial⟩ (fun _ h => h) (Nat.zero_le _) ?_
  intro i hi
  refine CW.seq ?_
  refine CW.reg [0] rfl ?_
  refine s_lt 9 rfl rfl rfl rfl ?_
  refine SX.next ?_
  refine CW.seq ?_
  refine CW.test rfl (fun hc => ?_) (fun hc => ?_)
  · skip
    have hil : i < l.length := by omega
    have hnx := turnL_take (b := p) hil
    have hln := turnL_len p (l.take i)
    have h82 := turnL_lt h8 (l.take i)
    refine CW.skip ?_
    refine KN.code ?_
    refine CW.seq ?_
    refine CW.block ?_
    refine CW.seq ?_
    refine CW.reg [0, 1, 2] rfl ?_
    refine s_iaV 10 i (fun w hw => hB _ hw.fr) rfl rfl rfl rfl hil ?_
    refine s_ldV 11 (fun w hw => hB _ hw.fr) rfl rfl (by rw [Nat.mul_one]; exact intsAt hil) (by omega) ?_
    refine s_as 5 rfl rfl ?_
    refine SX.next ?_
    refine CW.seq ?_
    refine CW.reg [0, 1, 2, 3, 4, 5, 6, 7, 8] rfl ?_
    refine s_mv 12 rfl rfl ?_
    refine s_ge 13 rfl rfl rfl rfl ?_
    refine s_mv 14 rfl rfl ?_
    refine SX.bool 14 rfl (fun hb => ?_) (fun hb => ?_)
    · skip
      have h1 := of_decide_eq_true hb
      refine s_mv 15 rfl rfl ?_
      refine s_mv 16 rfl rfl ?_
      refine s_len 17 rfl rfl ?_
      refine s_mul 18 rfl rfl rfl (r := ((8 * p.length : Nat) : Int)) (by rw [show (8 : Int) * ((p.length : Nat) : Int) = ((8 * p.length : Nat) : Int) by omega]; exact w64 (by omega)) ?_
      refine s_lt 19 rfl rfl rfl rfl ?_
      refine s_pickT 20 rfl rfl rfl ?_
      refine SX.next ?_
      refine CW.test rfl (fun h2 => ?_) (fun h2 => ?_)
      · skip
        obtain ⟨k, hk⟩ := Int.eq_ofNat_of_zero_le h1
        have hk8 : k / 8 < p.length := by omega
        have hm8 : k % 8 < 8 := Nat.mod_lt _ (by decide)
        have hnx2 : turn1 (turnL p (l.take i)) (l.getD i 0) = (turnL p (l.take i)).set (k / 8) ((turnL p (l.take i)).getD (k / 8) 0 ^^^ 2 ^ (k % 8)) := by
          unfold turn1
          rw [if_pos (by rw [hln]; omega), hk, Int.toNat_natCast]
        refine CW.regD (.st true 0 (.st true 1 (.st true 2 (.st true 3 (.st true 5 (.st true 6 (.st true 7 (.st false 4 (.st true 8 (.st true 9 (.st false 10 .done))))))))))) (fun _ => True) mixed (by kernel_rfl) (fun _ h => h.drew) (fun _ _ => trivial) ?_
        refine s_mv 21 rfl rfl ?_
        refine s_mv 22 rfl rfl ?_
        refine s_quo 23 rfl rfl rfl (by omega) (r := ((k / 8 : Nat) : Int)) (by rw [hk, show ((k : Nat) : Int).tdiv 8 = ((k / 8 : Nat) : Int) from rfl]; exact w64 (by omega)) ?_
        refine s_iaO 24 0 (k / 8) rfl rfl rfl rfl rfl hk8 ?_
        refine s_mv 26 rfl rfl ?_
        refine s_rem 27 rfl rfl rfl (by omega) (r := ((k % 8 : Nat) : Int)) (by rw [hk]; rfl) ?_
        refine s_shl 28 rfl rfl rfl (by omega) (r := ((2 ^ (k % 8) : Nat) : Int)) (shl1_u8 hm8) ?_
        refine s_ldO 25 0 rfl rfl rfl (natsAt8 (by rw [hln]; exact hk8)) ?_
        refine s_bit 29 rfl rfl rfl rfl (r := (((turnL p (l.take i)).getD (k / 8) 0 ^^^ 2 ^ (k % 8) : Nat) : Int)) (ibit_xor_u8 (getD_lt8 h82 _) (show 2 ^ (k % 8) < 2 ^ 8 from Nat.pow_lt_pow_of_lt (by decide) hm8)) ?_
        refine s_iaO 30 0 (k / 8) rfl rfl rfl rfl rfl hk8 ?_
        refine s_stO 0 rfl rfl rfl rfl rfl hk8 (fun _ _ => trivial) ?_
        refine SX.end_ ?_
        refine KN.blk ?_
        refine KN.code ?_
        refine CW.reg [0, 1] rfl ?_
        refine s_add 31 rfl rfl rfl (r := ((i + 1 : Nat) : Int)) (w64 (by omega)) ?_
        refine s_mv 8 rfl rfl ?_
        refine SX.end_ ?_
        exact KN.back (i + 1) ⟨rfl, rfl, rfl, rfl, trivial⟩ (fun _ h => by rw [hnx, hnx2, nats8_set]; exact h) (by omega) (by omega)
      · skip
        have hnx2 : turn1 (turnL p (l.take i)) (l.getD i 0) = turnL p (l.take i) := by
          unfold turn1
          rw [if_neg (by rw [hln]; omega)]
        refine CW.skip ?_
        refine KN.blk ?_
        refine KN.code ?_
        refine CW.reg [0, 1] rfl ?_
        refine s_add 31 rfl rfl rfl (r := ((i + 1 : Nat) : Int)) (w64 (by omega)) ?_
        refine s_mv 8 rfl rfl ?_
        refine SX.end_ ?_
        exact KN.back (i + 1) ⟨rfl, rfl, rfl, rfl, trivial⟩ (fun _ h => by rw [hnx, hnx2]; exact h) (by omega) (by omega)
    · skip
      have h1 := of_decide_eq_false hb
      have hnx2 : turn1 (turnL p (l.take i)) (l.getD i 0) = turnL p (l.take i) := by
        unfold turn1
        rw [if_neg (by omega)]
      refine SX.skip rfl ?_
      refine SX.skip rfl ?_
      refine SX.skip rfl ?_
      refine SX.skip rfl ?_
      refine SX.skip rfl ?_
      refine s_pickF 20 rfl rfl rfl ?_
      refine SX.next ?_
      refine CW.condF rfl ?_
      refine CW.skip ?_
      refine KN.blk ?_
      refine KN.code ?_
      refine CW.reg [0, 1] rfl ?_
      refine s_add 31 rfl rfl rfl (r := ((i + 1 : Nat) : Int)) (w64 (by omega)) ?_
      refine s_mv 8 rfl rfl ?_
      refine SX.end_ ?_
      exact KN.back (i + 1) ⟨rfl, rfl, rfl, rfl, trivial⟩ (fun _ h => by rw [hnx, hnx2]; exact h) (by omega) (by omega)
  · skip
    obtain rfl : i = l.length := by omega
    refine CW.exit rfl ?_
    exact KN.ret (rs := []) Tryd.results67 rfl (fun w hw => ⟨(), rfl, trivial, by rw [List.take_length] at hw; exact hw⟩)
end Go.Proofs.YtcapijdokbkgaaaDoor
end
section
/- Range over func, last part: a function value against nil, the way out where the results lie in memory, and the marks' blocks as one atom. No condition. -/
namespace Go.Sx
open Go
section
variable {P : Program} {ops : Array Oper} {S : World → Prop} {K : Act → World → Prop} {p : Plan} {n : Nat} {l : List (Nat × Value)} {i : Nat} {ty ty2 ty' : TypeId} {x : Operand} {C : World → Prop} {fl : Bool}
def isFuncT : Option TypeDesc → Bool
  | some (.func _ _ _) => true
  | _ => false
end
section
variable {P : Program} {F : Nat → Prop} {w₀ w : World} {X Y L : List Atom} {n : Nat} {ds : List Deferred} {l : List (Nat × Value)}
end
end Go.Sx
end
section
/- A chip: lemmas on what it does, and on where its pages lie. No condition. -/
namespace Go.Proofs.YtcapijdokbkgaaaDoor
open Go Go.Sx
set_option maxRecDepth 100000
def ChG.hitsG (x : ChG) : List FtG := x.plan.filter (fun f => decide (f.op = x.ops))
theorem hits_abs (x : ChG) : x.hitsG.map FtG.abs = x.abs.hits := by
  unfold ChG.hitsG ChS.hits ChG.abs
  simp only [List.filter_map]
  rfl
theorem hits_mem {x : ChG} {f : FtG} (h : f ∈ x.hitsG) : f ∈ x.plan := (List.mem_filter.1 h).1
theorem hits_len {x : ChG} (hx : x.abs.Ok) : x.hitsG.length ≤ 1000 := by
  have h1 := hx.pl
  unfold ChG.abs at h1
  simp only [List.length_map] at h1
  exact Nat.le_trans (List.length_filter_le ..) h1
theorem plan_len {x : ChG} (hx : x.abs.Ok) : x.plan.length ≤ 1000 := by
  have h1 := hx.pl
  unfold ChG.abs at h1
  simp only [List.length_map] at h1
  exact h1
theorem ft_bits {x : ChG} (hx : x.abs.Ok) {f : FtG} (h : f ∈ x.plan) : f.bits.length ≤ 1000000 := hx.bt f.abs (List.mem_map_of_mem h)
theorem find_some (x : ChG) (k : Int) : (findG x.hitsG k).isSome = (findK x.abs.hits k).isSome := by
  rw [← hits_abs, ← findG_abs, Option.isSome_map]
theorem atP_some (x : ChG) (b p : Int) : (atP x b p).isSome = x.abs.inn b p := by
  unfold atP
  split
  · rename_i h; rw [h]; rfl
  · rename_i h
    cases hh : x.abs.inn b p with
    | true => exact absurd hh h
    | false => rfl
theorem atP_in {x : ChG} {b p : Int} {bk : BkG} {k : Nat} (hin : x.abs.inn b p = true) (hb : x.bkG b = bk) (hp : p = (k : Nat)) : atP x b p = some ⟨ob bk.A, 0 + k * 3, none⟩ := by
  unfold atP
  rw [if_pos hin, hb, hp, Int.toNat_natCast]
theorem page_cell {g : Nat} {x : ChG} {w : World} (hc : Has (chipA g x) w) {i k : Nat} {bk : BkG} {pg : PgG} (hb : x.blocks[i]? = some bk) (hp : bk.pages[k]? = some pg) {j : Nat} {v : Value} (hj : pg.row[j]? = some v) : w.cell? ⟨ob bk.A, 0 + k * 3 + j, none⟩ = some v := by
  have hk := (List.getElem?_eq_some_iff.1 hp).1
  have h1 := chip_bk hc (List.mem_of_getElem? hb)
  have hoo : oo bk.A = 0 := own_oo (h1.starM (A := bk.rows) (by simp)) (by omega)
  have := (bk_rows h1).rowAt pgRow_len hp (by omega) j v hj
  rw [hoo] at this
  exact this
theorem pg_abs {x : ChG} {b p : Int} {i k : Nat} {bk : BkG} {pg : PgG} (hb : b = (i : Nat)) (hp : p = (k : Nat)) (hbk : x.blocks[i]? = some bk) (hpg : bk.pages[k]? = some pg) : x.abs.bk b = bk.abs ∧ x.abs.pg b p = pg.abs := by
  have h1 : x.abs.bk b = bk.abs := by
    unfold ChS.bk
    rw [hb, Int.toNat_natCast, List.getD_eq_getElem?_getD, abs_bk hbk, Option.getD_some]
  refine ⟨h1, ?_⟩
  unfold ChS.pg
  rw [h1, hp, Int.toNat_natCast, List.getD_eq_getElem?_getD]
  show ((bk.pages.map PgG.abs)[k]?).getD _ = _
  rw [List.getElem?_map, hpg]
  rfl
/-- What is known of a page that is there. -/
theorem pg_ok {x : ChG} (hx : x.abs.Ok) {i k : Nat} {bk : BkG} {pg : PgG} (hbk : x.blocks[i]? = some bk) (hpg : bk.pages[k]? = some pg) : (pg.l.length : Int) = x.size ∧ (∀ t ∈ pg.l, t < 256) ∧ pg.laid.length ≤ 4096 ∧ ∀ t ∈ pg.laid, t < 256 :=
  (hx.pg _ (List.mem_of_getElem? (abs_bk hbk))).2 pg.abs (List.mem_map_of_mem (List.mem_of_getElem? hpg))
def flip1 (level : Int) (b : List Nat) (f : FtG) : List Nat := if f.kind = 1 ∧ (f.level = -1 ∨ f.level = level) then turnL b f.bits else b
def flipsG (l : List FtG) (level : Int) (b : List Nat) : List Nat := l.foldl (flip1 level) b
theorem flipsG_abs (l : List FtG) (level : Int) : ∀ b : List Nat, flipsG l level b = flips (l.map FtG.abs) level b := by
  unfold flipsG flips
  intro b
  rw [List.foldl_map]
  rfl
theorem flipsG_take {l : List FtG} {level : Int} {b : List Nat} {i : Nat} (h : i < l.length) : flipsG (l.take (i + 1)) level b = flip1 level (flipsG (l.take i) level b) (gF l i) := by
  unfold flipsG
  rw [List.take_add_one, gF_at h, List.foldl_append]
  rfl
theorem flip1_ok (level : Int) (b : List Nat) (f : FtG) : (flip1 level b f).length = b.length ∧ ((∀ x ∈ b, x < 256) → ∀ x ∈ flip1 level b f, x < 256) := by
  unfold flip1
  split
  · exact ⟨turnL_len _ _, fun h => turnL_lt h _⟩
  · exact ⟨rfl, fun h => h⟩
theorem flipsG_ok (level : Int) : ∀ (l : List FtG) (b : List Nat), (flipsG l level b).length = b.length ∧ ((∀ x ∈ b, x < 256) → ∀ x ∈ flipsG l level b, x < 256)
  | [], b => ⟨rfl, fun h => h⟩
  | f :: l, b => by
    have h1 := flip1_ok level b f
    have h2 := flipsG_ok level l (flip1 level b f)
    exact ⟨h2.1.trans h1.1, fun h => h2.2 (h1.2 h)⟩
def spoil1 (b : List Nat) (f : FtG) : List Nat := if f.kind = 4 then turnL b f.bits else b
def spoilsG (l : List FtG) (b : List Nat) : List Nat := l.foldl spoil1 b
theorem spoilsG_abs (l : List FtG) (b : List Nat) : spoilsG l b = spoils (l.map FtG.abs) b := by
  unfold spoilsG spoils
  rw [List.foldl_map]
  rfl
theorem spoilsG_take {l : List FtG} {b : List Nat} {i : Nat} (h : i < l.length) : spoilsG (l.take (i + 1)) b = spoil1 (spoilsG (l.take i) b) (gF l i) := by
  unfold spoilsG
  rw [List.take_add_one, gF_at h, List.foldl_append]
  rfl
theorem spoil1_ok (b : List Nat) (f : FtG) : (spoil1 b f).length = b.length ∧ ((∀ x ∈ b, x < 256) → ∀ x ∈ spoil1 b f, x < 256) := by
  unfold spoil1
  split
  · exact ⟨turnL_len _ _, fun h => turnL_lt h _⟩
  · exact ⟨rfl, fun h => h⟩
theorem spoilsG_ok : ∀ (l : List FtG) (b : List Nat), (spoilsG l b).length = b.length ∧ ((∀ x ∈ b, x < 256) → ∀ x ∈ spoilsG l b, x < 256)
  | [], b => ⟨rfl, fun h => h⟩
  | f :: l, b => by
    have h1 := spoil1_ok b f
    have h2 := spoilsG_ok l (spoil1 b f)
    exact ⟨h2.1.trans h1.1, fun h => h2.2 (h1.2 h)⟩
theorem rd_err {s : ChS} {b p level : Int} (h : s.rdE b p level ≠ 0) : s.rd b p level = (s.rdE b p level, [], s) := by
  unfold ChS.rd
  rw [if_pos h]
theorem rd_cut {s : ChS} {b p level : Int} (h : s.rdE b p level = 0) (hc : (findK s.hits 3).isSome = true) : s.rd b p level = (109, [], { s.tick with off := true }) := by
  unfold ChS.rd
  rw [if_neg (fun hn => hn h), if_pos hc]
theorem rd_ok {s : ChS} {b p level : Int} (h : s.rdE b p level = 0) (hc : (findK s.hits 3).isSome = false) : s.rd b p level = (0, flips s.hits level (s.pg b p).cells, s.tick) := by
  unfold ChS.rd
  rw [if_neg (fun hn => hn h), if_neg (by rw [hc]; decide)]
theorem rdE_zero {s : ChS} {b p level : Int} (h : s.rdE b p level = 0) : s.off = false ∧ s.inn b p = true ∧ 0 ≤ level ∧ level < s.levels := by
  obtain ⟨h1, h2, _⟩ := askC_zero h
  rw [Bool.and_eq_true] at h2
  exact ⟨h1, h2.1, of_decide_eq_true h2.2⟩
theorem prE_zero {s : ChS} {b p : Int} {n : Nat} (h : s.prE b p n = 0) : s.off = false ∧ s.inn b p = true ∧ (n : Int) = s.size := by
  obtain ⟨h1, h2, h3⟩ := askC_zero h
  exact ⟨h1, h2, of_decide_eq_true h3⟩
theorem erE_zero {s : ChS} {b : Int} (h : s.erE b = 0) : s.off = false ∧ s.has b = true := by
  obtain ⟨h1, h2, _⟩ := askC_zero h
  exact ⟨h1, h2⟩
section
variable {P : Program} {ops : Array Oper} {S : World → Prop} {K : Act → World → Prop} {p : Plan} {n : Nat} {l : List (Nat × Value)} {C : World → Prop} {fl : Bool} {i : Nat} {ty ty' ty2 : TypeId} {x : Operand}
/-- A function that is nil against nil. -/
theorem s_neFN (d : Nat) (ho : opAt ops n l i = some (some d, .binOp .neq ty x (.const .nilFunc) ty', ty2)) (hT : isFuncT (P.underlying ty) = true) (hx : ev l x = some .nilFunc) (h : SX P ops S K p n ((d, .bool false) :: l) C) : SX P ops S K (.st fl i p) n l C :=
  SX.pure ho (fun a w o he h1 _ => by
    obtain ⟨t1, t2, t3, hu⟩ : ∃ a b c, P.underlying ty = some (.func a b c) := by
      unfold isFuncT at hT
      split at hT
      · exact ⟨_, _, _, by assumption⟩
      · cases hT
    have e1 : a.eval (.const .nilFunc) = .nilFunc := rfl
    have e2 : (binOp .neq ty .nilFunc .nilFunc).run P w = .ok (.bool false) w := by
      simp only [binOp, Op.equal, Op.maxDepth, Sem.run_bind]
      rw [Op.equalIn]
      simp [run_underlying hu]
    have e3 : (eqGuard .neq ty x (.const .nilFunc) .nilFunc .nilFunc).run P w = .ok () w := by
      unfold eqGuard
      cases x <;> rfl
    simp only [execOp, h1, he.ev hx, e1, Sem.run_bind, e3, e2, Result.andThen_ok, Sem.run_pure]) h
end
end Go.Proofs.YtcapijdokbkgaaaDoor
end
section
/- Package chip: the faults of an operation, plans, what a chip tells, a read. Conditions: the chip is lent; errors' variables stay. -/
namespace Go.Proofs.YtcapijdokbkgaaaDoor
open Go Go.Sx Go.Fm
set_option maxRecDepth 100000
/-- The faults told so far. -/
def hitsI (x : ChG) (i : Nat) : List FtG := (x.plan.take i).filter (fun f => decide (f.op = x.ops))
theorem hitsI_next {x : ChG} {i : Nat} (h : i < x.plan.length) : hitsI x (i + 1) = if (gF x.plan i).op = x.ops then hitsI x i ++ [gF x.plan i] else hitsI x i := by
  unfold hitsI
  rw [List.take_add_one, gF_at h, List.filter_append]
  split
  · rename_i hk
    rw [show List.filter (fun f => decide (f.op = x.ops)) (some (gF x.plan i)).toList = [gF x.plan i] from List.filter_cons_of_pos (by simpa using hk)]
  · rename_i hk
    rw [show List.filter (fun f => decide (f.op = x.ops)) (some (gF x.plan i)).toList = [] from List.filter_cons_of_neg (by simpa using hk), List.append_nil]
theorem hitsI_all (x : ChG) : hitsI x x.plan.length = x.hitsG := by
  unfold hitsI ChG.hitsG
  rw [List.take_length]
theorem hitsI_len (x : ChG) (i : Nat) : (hitsI x i).length ≤ x.plan.length := by
  unfold hitsI
  exact Nat.le_trans (List.length_filter_le ..) (by rw [List.length_take]; exact Nat.min_le_right ..)
def ChG.tick (x : ChG) : ChG := { x with ops := wr (x.ops + 1) }
theorem count_spec (F : Nat → Prop) (g : Nat) (x : ChG) (hx : x.abs.Ok) (w : World) (hw : St F w [chipA g x] w) : SpecP Tryd.prog 65 [.pointer (some ⟨g, 0, none⟩)] F w (X := Option Addr × Nat) (fun z => .slice z.1 x.hitsG.length z.2) (fun z => x.hitsG.length ≤ z.2) (fun z => [own 48 5 z.1 x.hitsG.length z.2 (x.hitsG.flatMap FtG.row), chipA g x.tick]) := by
  have hpl := plan_len hx
  refine spec_ofC Tryd.func65 rfl Tryd.ntmps65 rfl hw ?_
  refine CW.pre (fun _ h => h.chipO) ?_
  refine CW.seq ?_
  refine CW.reg [0] rfl ?_
  refine s_as 2 rfl rfl ?_
  refine SX.next ?_
  refine CW.seq ?_
  refine CW.reg [0] rfl ?_
  refine s_as 3 rfl rfl ?_
  refine SX.next ?_
  refine CW.seq ?_
  refine CW.seq ?_
  refine CW.reg [0, 1, 2, 3, 4, 5] rfl ?_
  refine s_mv 6 rfl rfl ?_
  refine s_nil 7 rfl rfl ?_
  refine s_fa 8 rfl rfl ?_
  refine s_ldB 9 0 rfl rfl rfl (v := .slice x.pA x.plan.length x.pc) rfl ?_
  refine s_len 10 rfl rfl ?_
  refine s_mv 11 rfl rfl ?_
  refine SX.next ?_
  refine CW.block ?_
  refine CW.loop (G := Nat × Option Addr × Nat) (fun q => [(0, .pointer (some ⟨g, 0, none⟩)), (3, .slice q.2.1 (hitsI x q.1).length q.2.2), (9, .slice x.pA x.plan.length x.pc), (10, .int .i64 (x.plan.length : Nat)), (11, .int .i64 (q.1 : Nat))]) (fun q => St F w [own 48 5 q.2.1 (hitsI x q.1).length q.2.2 ((hitsI x q.1).flatMap FtG.row), x.hd g, x.bks, x.bst, x.fts, x.fst]) (fun q => q.1 ≤ x.plan.length ∧ (hitsI x q.1).length ≤ q.2.2) (fun q => x.plan.length - q.1) (0, none, 0) ⟨rfl, rfl, rfl, rfl, rfl, trivial⟩ (fun _ h => h.begin_ 48 5) ⟨Nat.zero_le _, Nat.le_refl _⟩ ?_
  rintro ⟨i, q⟩ ⟨hi, hq⟩
  simp only at hi hq
  dsimp only
  have hll := hitsI_len x i
  refine CW.seq ?_
  refine CW.reg [0] rfl ?_
  refine s_lt 12 rfl rfl rfl rfl ?_
  refine SX.next ?_
  refine CW.seq ?_
  refine CW.test rfl (fun hc => ?_) (fun hc => ?_)
  · skip
    have hil : i < x.plan.length := by omega
    have hg := gF_at hil
    have hnx := hitsI_next hil
    refine CW.skip ?_
    refine KN.code ?_
    refine CW.seq ?_
    refine CW.block ?_
    refine CW.seq ?_
    refine CW.reg [0, 1, 2, 3] rfl ?_
    refine s_iaV 13 i (fun w hw => (hw.has (i := 4) rfl).of_own) rfl rfl rfl rfl hil ?_
    refine s_ldR 14 (cs := (gF x.plan i).row) rfl rfl rfl (fun w hw => ((hw.has (i := 4) rfl).of_own).rowAt ftRow_len hg (by omega)) ?_
    refine s_alloc 5 rfl (fun _ _ => trivial) (fun b5 => ?_)
    refine s_stAll 0 rfl rfl (by kernel_rfl) rfl rfl rfl rfl (fun _ _ => trivial) ?_
    refine SX.next ?_
    refine CW.seq ?_
    refine CW.regD (.st true 0 (.st true 1 (.st true 2 (.st true 3 (.st true 4 (.st true 5 (.st true 6 .done))))))) (St F w [blk b5 48 #[.int .i64 (gF x.plan i).op, .int .i64 (gF x.plan i).kind, .int .i64 (gF x.plan i).level, .int .i64 (gF x.plan i).n, .slice (gF x.plan i).A (gF x.plan i).bits.length (gF x.plan i).c], own 48 5 q.1 (hitsI x i).length q.2 ((hitsI x i).flatMap FtG.row), x.hd g, x.bks, x.bst, x.fts, x.fst]) mixed (by kernel_rfl) (fun _ h => h.drew) (fun _ h => h) ?_
    refine s_fa 15 rfl rfl ?_
    refine s_ldS 16 rfl rfl (v := .int .i64 (gF x.plan i).op) (fun _ hw => hw.blkCell (i := 0) rfl rfl) ?_
    refine s_mv 17 rfl rfl ?_
    refine s_nil 18 rfl rfl ?_
    refine s_fa 19 rfl rfl ?_
    refine s_ldS 20 rfl rfl (v := .int .i64 x.ops) (fun _ hw => hw.blkCell (i := 2) rfl rfl) ?_
    refine s_eq 21 rfl rfl rfl rfl ?_
    refine SX.next ?_
    refine CW.test rfl (fun hc => ?_) (fun hc => ?_)
    · skip
      refine CW.reg [0, 1, 2, 3, 4] rfl ?_
      refine s_mv 22 rfl rfl ?_
      refine s_ldW 23 0 rfl rfl rfl ?_
      refine s_bsl 24 rfl rfl (cells := #[.int .i64 (gF x.plan i).op, .int .i64 (gF x.plan i).kind, .int .i64 (gF x.plan i).level, .int .i64 (gF x.plan i).n, .slice (gF x.plan i).A (gF x.plan i).bits.length (gF x.plan i).c]) (by kernel_rfl) rfl (fun _ _ => trivial) (fun gb => ?_)
      refine s_app 25 2 rfl rfl rfl rfl (ys := (gF x.plan i).row) (fun w hw => Has.cong ((hw.has (i := 0) rfl).blk_sl (m := 1) rfl) rfl) rfl rfl (by omega) (by unfold maxLen; omega) (by omega) (fun _ _ _ _ => trivial) (fun A2 c2 hc2 => ?_)
      refine s_as 3 rfl rfl ?_
      refine SX.end_ ?_
      refine KN.blk ?_
      refine KN.code ?_
      refine CW.reg [0, 1] rfl ?_
      refine s_add 26 rfl rfl rfl (r := ((i + 1 : Nat) : Int)) (w64 (by omega)) ?_
      refine s_mv 11 rfl rfl ?_
      refine SX.end_ ?_
      exact KN.back (i + 1, A2, c2) ⟨rfl, (by simp only; rw [hnx, if_pos hc, List.length_append]; rfl), rfl, rfl, rfl, trivial⟩ (fun _ h => by
        have h1 := h.pick [2, 2, 2, 2, 2, 2] rfl
        simp only
        rw [hnx, if_pos hc, List.length_append, List.flatMap_append]
        exact h1) ⟨by simp only; omega, by simp only; rw [hnx, if_pos hc, List.length_append]; exact hc2⟩ (by simp only; omega)
    · skip
      refine CW.skip ?_
      refine KN.blk ?_
      refine KN.code ?_
      refine CW.reg [0, 1] rfl ?_
      refine s_add 26 rfl rfl rfl (r := ((i + 1 : Nat) : Int)) (w64 (by omega)) ?_
      refine s_mv 11 rfl rfl ?_
      refine SX.end_ ?_
      exact KN.back (i + 1, q) ⟨rfl, (by simp only; rw [hnx, if_neg hc]; rfl), rfl, rfl, rfl, trivial⟩ (fun _ h => by
        have h1 := h.pick [1, 1, 1, 1, 1, 1] rfl
        simp only
        rw [hnx, if_neg hc]
        exact h1) ⟨by simp only; omega, by simp only; rw [hnx, if_neg hc]; exact hq⟩ (by simp only; omega)
  · skip
    obtain rfl : i = x.plan.length := by omega
    rw [hitsI_all] at hq ⊢
    refine CW.exit rfl ?_
    refine KN.code ?_
    refine CW.seq ?_
    refine CW.reg [0, 1, 2, 3, 4, 5, 6, 7] rfl ?_
    refine s_mv 27 rfl rfl ?_
    refine s_nil 28 rfl rfl ?_
    refine s_fa 29 rfl rfl ?_
    refine s_ldB 30 1 rfl rfl rfl (v := .int .i64 x.ops) rfl ?_
    refine s_add 31 rfl rfl rfl (r := wr (x.ops + 1)) rfl ?_
    refine s_nil 32 rfl rfl ?_
    refine s_fa 33 rfl rfl ?_
    refine s_stB 1 rfl rfl rfl rfl rfl (by show 5 < 9; decide) (fun _ _ => trivial) ?_
    refine SX.next ?_
    refine CW.seq ?_
    refine CW.reg [0, 1] rfl ?_
    refine s_mv 34 rfl rfl ?_
    refine s_as 2 rfl rfl ?_
    refine SX.next ?_
    refine CW.ret ?_
    exact KN.ret (rs := [.tmp 2]) Tryd.results65 rfl (fun w hw => ⟨q, rfl, hq, by
  have h1 := (hw.pick [1, 1, 1, 1, 1, 0] rfl).chipC (x := x.tick)
  exact h1.pick [1, 0] rfl⟩)

theorem plan_spec (F : Nat → Prop) (g : Nat) (x : ChG) (A : Option Addr) (c : Nat) (l : List FtG) (e : Nat → Addr) (w : World) (hEf : ∀ w', Fr F w w' → Er e w' 6) (hl : ∀ w', Fr F w w' → PlIn A l w') (hw : St F w [chipA g x] w) : SpecP Tryd.prog 36 [.pointer (some ⟨g, 0, none⟩), .slice A l.length c] F w (X := ChG) (fun _ => evE e (if 1000 < l.length then 106 else 0)) (fun z => if 1000 < l.length then z = x else z.abs = { x.abs with plan := l.map FtG.abs } ∧ z.watch = x.watch) (fun z => [chipA g z]) := by
  refine spec_ofC Tryd.func36 rfl Tryd.ntmps36 rfl hw ?_
  refine CW.seq ?_
  refine CW.reg [0] rfl ?_
  refine s_as 4 rfl rfl ?_
  refine SX.next ?_
  refine CW.seq ?_
  refine CW.seq ?_
  refine CW.reg [0, 1, 2] rfl ?_
  refine s_mv 5 rfl rfl ?_
  refine s_len 6 rfl rfl ?_
  refine s_gt 7 rfl rfl rfl (r := decide (1000 < l.length)) (decide_eq_decide.2 (by omega)) ?_
  refine SX.next ?_
  refine CW.test rfl (fun hbig => ?_) (fun hbig => ?_)
  · skip
    refine CW.seq ?_
    refine CW.reg [0, 1] rfl ?_
    refine s_ld 8 rfl rfl (fun _ h => hEf _ h.fr) ?_
    refine s_as 4 rfl rfl ?_
    refine SX.next ?_
    refine CW.ret ?_
    exact KN.ret (rs := [.tmp 4]) Tryd.results36 rfl (fun w hw => ⟨x, by rw [if_pos hbig]; rfl, by simp only [if_pos hbig], hw⟩)
  · skip
    refine CW.skip ?_
    refine KN.code ?_
    refine CW.seq ?_
    refine CW.reg [0, 1, 2, 3, 4, 5] rfl ?_
    refine s_mv 9 rfl rfl ?_
    refine s_mv 10 rfl rfl ?_
    refine s_call 11 rfl rfl rfl rfl (fun w2 hw => copied_spec A c l w2 (hl _ hw.fr) (by omega)) (fun _ _ => trivial) (fun y hy => ?_)
    refine SX.pre (fun _ h => (h.pick [2, 0, 0] rfl).chipO) ?_
    refine s_nil 12 rfl rfl ?_
    refine s_fa 13 rfl rfl ?_
    refine s_stB 0 rfl rfl rfl rfl rfl (by show 4 < 9; decide) (fun _ _ => trivial) ?_
    refine SX.next ?_
    refine CW.seq ?_
    refine CW.reg [0] rfl ?_
    refine s_as 4 rfl rfl ?_
    refine SX.next ?_
    refine CW.ret ?_
    exact KN.ret (rs := [.tmp 4]) Tryd.results36 rfl (fun w hw => ⟨{ x with pA := y.A, pc := y.c, plan := y.l }, by rw [if_neg hbig]; rfl, by simp only [if_neg hbig]; exact ⟨by unfold ChG.abs; simp only [hy], trivial⟩, (hw.pick [0, 0, 0, 2, 2] rfl).chipC (x := { x with pA := y.A, pc := y.c, plan := y.l })⟩)

theorem ops_spec (g : Nat) (x : ChG) (w : World) (hc : Has (chipA g x) w) : Spec1 Tryd.prog 60 [.pointer (some ⟨g, 0, none⟩)] w (.int .i64 x.ops) := by
  refine spec_of Tryd.func60 rfl Tryd.ntmps60 rfl ?_
  refine CW.seq ?_
  refine CW.reg [0] rfl ?_
  refine s_as 2 rfl rfl ?_
  refine SX.next ?_
  refine CW.seq ?_
  refine CW.reg [0, 1, 2, 3, 4] rfl ?_
  refine s_mv 3 rfl rfl ?_
  refine s_nil 4 rfl rfl ?_
  refine s_fa 5 rfl rfl ?_
  refine s_ld 6 rfl rfl (fun _ hw => chip_cell (hw.old hc) rfl) ?_
  refine s_as 2 rfl rfl ?_
  refine SX.next ?_
  refine CW.ret ?_
  exact KN.ret (rs := [.tmp 2]) Tryd.results60 rfl (fun w hw => ⟨rfl, hw.nothing⟩)

theorem broken_spec (g : Nat) (x : ChG) (w : World) (hc : Has (chipA g x) w) : Spec1 Tryd.prog 16 [.pointer (some ⟨g, 0, none⟩)] w (.int .i64 x.broken) := by
  refine spec_of Tryd.func16 rfl Tryd.ntmps16 rfl ?_
  refine CW.seq ?_
  refine CW.reg [0] rfl ?_
  refine s_as 2 rfl rfl ?_
  refine SX.next ?_
  refine CW.seq ?_
  refine CW.reg [0, 1, 2, 3, 4] rfl ?_
  refine s_mv 3 rfl rfl ?_
  refine s_nil 4 rfl rfl ?_
  refine s_fa 5 rfl rfl ?_
  refine s_ld 6 rfl rfl (fun _ hw => chip_cell (hw.old hc) rfl) ?_
  refine s_as 2 rfl rfl ?_
  refine SX.next ?_
  refine CW.ret ?_
  exact KN.ret (rs := [.tmp 2]) Tryd.results16 rfl (fun w hw => ⟨rfl, hw.nothing⟩)

theorem shape_spec (g : Nat) (x : ChG) (w : World) (hc : Has (chipA g x) w) : Spec1 Tryd.prog 38 [.pointer (some ⟨g, 0, none⟩)] w (.tuple #[.int .i64 (x.blocks.length : Nat), .int .i64 x.pages, .int .i64 x.size, .int .i64 x.levels]) := by
  refine spec_of Tryd.func38 rfl Tryd.ntmps38 rfl ?_
  refine CW.seq ?_
  refine CW.reg [0, 1, 2, 3] rfl ?_
  refine s_as 2 rfl rfl ?_
  refine s_as 3 rfl rfl ?_
  refine s_as 4 rfl rfl ?_
  refine s_as 5 rfl rfl ?_
  refine SX.next ?_
  refine CW.seq ?_
  refine CW.regD (.st true 0 (.st true 1 (.st true 2 (.st true 3 (.st true 4 (.st true 5 (.st true 6 (.st true 7 (.st true 8 (.st true 9 (.st true 10 (.st true 11 (.st true 12 (.st true 13 (.st true 14 (.st true 15 (.st true 16 (.st true 17 (.st true 18 (.st true 19 (.st true 20 .done))))))))))))))))))))) (Sto w []) mixed (by kernel_rfl) (fun _ h => h.drew) (fun _ h => h) ?_
  refine s_mv 6 rfl rfl ?_
  refine s_nil 7 rfl rfl ?_
  refine s_fa 8 rfl rfl ?_
  refine s_ldS 9 rfl rfl (v := .slice x.A x.blocks.length x.c) (fun _ hw => chip_cell (hw.old hc) rfl) ?_
  refine s_len 10 rfl rfl ?_
  refine s_mv 11 rfl rfl ?_
  refine s_nil 12 rfl rfl ?_
  refine s_fa 13 rfl rfl ?_
  refine s_ldS 14 rfl rfl (v := .int .i64 x.pages) (fun _ hw => chip_cell (hw.old hc) rfl) ?_
  refine s_mv 15 rfl rfl ?_
  refine s_nil 16 rfl rfl ?_
  refine s_fa 17 rfl rfl ?_
  refine s_ldS 18 rfl rfl (v := .int .i64 x.size) (fun _ hw => chip_cell (hw.old hc) rfl) ?_
  refine s_mv 19 rfl rfl ?_
  refine s_nil 20 rfl rfl ?_
  refine s_fa 21 rfl rfl ?_
  refine s_ldS 22 rfl rfl (v := .int .i64 x.levels) (fun _ hw => chip_cell (hw.old hc) rfl) ?_
  refine s_as 2 rfl rfl ?_
  refine s_as 3 rfl rfl ?_
  refine s_as 4 rfl rfl ?_
  refine s_as 5 rfl rfl ?_
  refine SX.next ?_
  refine CW.ret ?_
  exact KN.ret (rs := [.tmp 2, .tmp 3, .tmp 4, .tmp 5]) Tryd.results38 rfl (fun w hw => ⟨rfl, hw.nothing⟩)

theorem power_spec (F : Nat → Prop) (g : Nat) (x : ChG) (w : World) (hw : St F w [chipA g x] w) : SpecP Tryd.prog 27 [.pointer (some ⟨g, 0, none⟩)] F w (X := Unit) (fun _ => oneOf []) (fun _ => True) (fun _ => [chipA g { x with off := false }]) := by
  refine spec_ofC Tryd.func27 rfl Tryd.ntmps27 rfl hw ?_
  refine CW.pre (fun _ h => h.chipO) ?_
  refine CW.reg [0, 1, 2, 3] rfl ?_
  refine s_mv 2 rfl rfl ?_
  refine s_nil 3 rfl rfl ?_
  refine s_fa 4 rfl rfl ?_
  refine s_stB 0 rfl rfl rfl rfl rfl (by show 7 < 9; decide) (fun _ _ => trivial) ?_
  refine SX.end_ ?_
  exact KN.ret (rs := []) Tryd.results27 rfl (fun w hw => ⟨(), rfl, trivial, hw.chipC (x := { x with off := false })⟩)

theorem marked_spec (g : Nat) (x : ChG) (i : Int) (w : World) (hc : Has (chipA g x) w) : Spec1 Tryd.prog 79 [.pointer (some ⟨g, 0, none⟩), .int .i64 i] w (.bool (x.abs.has i && (x.abs.bk i).marked)) := by
  refine spec_of Tryd.func79 rfl Tryd.ntmps79 rfl ?_
  refine CW.seq ?_
  refine CW.reg [0] rfl ?_
  refine s_as 4 rfl rfl ?_
  refine SX.next ?_
  refine CW.seq ?_
  refine CW.reg [0, 1, 2, 3, 4, 5, 6, 7, 8, 9, 10, 11, 12, 13] rfl ?_
  refine s_mv 5 rfl rfl ?_
  refine s_mv 6 rfl rfl ?_
  refine s_call1 7 rfl rfl rfl rfl (fun w hw => chas_spec g x i w (hw.old hc)) (fun _ _ => trivial) ?_
  refine s_mv 8 rfl rfl ?_
  refine SX.bool 8 rfl (fun hb => ?_) (fun hb => ?_)
  · skip
    have hhas : x.abs.has i = true := hb
    have h1 := hhas
    rw [has_eq] at h1
    have h2 := of_decide_eq_true h1
    obtain ⟨k, rfl⟩ := Int.eq_ofNat_of_zero_le h2.1
    have hk : k < x.blocks.length := by omega
    have hbk := List.getElem?_eq_getElem hk
    have hbs : x.abs.bk ((k : Nat) : Int) = (x.blocks[k]).abs := by
      unfold ChS.bk
      rw [Int.toNat_natCast, List.getD_eq_getElem?_getD, abs_bk hbk, Option.getD_some]
    refine s_mv 9 rfl rfl ?_
    refine s_nil 10 rfl rfl ?_
    refine s_fa 11 rfl rfl ?_
    refine s_ld 12 rfl rfl (v := .slice x.A x.blocks.length x.c) (fun _ hw => chip_cell (hw.old hc) rfl) ?_
    refine s_mv 13 rfl rfl ?_
    refine s_iaV 14 k (fun w hw => chip_bks (hw.old hc)) rfl rfl rfl rfl hk ?_
    refine s_fa 15 rfl rfl ?_
    refine s_ld 16 rfl rfl (v := .bool (x.blocks[k]).marked) (fun _ hw => (chip_bks (hw.old hc)).rowAt bkRow_len hbk (by omega) 2 _ rfl) ?_
    refine s_pickT 17 rfl rfl rfl ?_
    refine s_as 4 rfl rfl ?_
    refine SX.next ?_
    refine CW.ret ?_
    exact KN.ret (rs := [.tmp 4]) Tryd.results79 rfl (fun w hw => ⟨by rw [hhas, hbs]; rfl, hw.nothing⟩)
  · skip
    have hhas : x.abs.has i = false := hb
    refine SX.skip rfl ?_
    refine SX.skip rfl ?_
    refine SX.skip rfl ?_
    refine SX.skip rfl ?_
    refine SX.skip rfl ?_
    refine SX.skip rfl ?_
    refine SX.skip rfl ?_
    refine SX.skip rfl ?_
    refine s_pickF 17 rfl rfl rfl ?_
    refine s_as 4 rfl rfl ?_
    refine SX.next ?_
    refine CW.ret ?_
    exact KN.ret (rs := [.tmp 4]) Tryd.results79 rfl (fun w hw => ⟨by rw [hhas]; rfl, hw.nothing⟩)

theorem cells_spec (g : Nat) (x : ChG) (hx : x.abs.Ok) (b p : Int) (w : World) (hc : Has (chipA g x) w) : SpecB Tryd.prog 15 [.pointer (some ⟨g, 0, none⟩), .agg #[.int .i64 b, .int .i64 p]] w (if x.abs.inn b p = true then (x.abs.pg b p).cells else []) := by
  refine spec_of Tryd.func15 rfl Tryd.ntmps15 rfl ?_
  refine CW.seq ?_
  refine CW.reg [0, 1] rfl ?_
  refine s_box 3 rfl rfl (fun _ _ => trivial) (fun b3 => ?_)
  refine s_as 4 rfl rfl ?_
  refine SX.next ?_
  refine CW.seq ?_
  refine CW.seq ?_
  refine CW.reg [0, 1, 2, 3] rfl ?_
  refine s_mv 6 rfl rfl ?_
  refine s_ldW 7 0 rfl rfl rfl ?_
  refine s_call1 8 rfl rfl rfl rfl (fun w hw => at_spec g x hx b p w (hw.old hc)) (fun _ _ => trivial) ?_
  refine s_as 5 rfl rfl ?_
  refine SX.next ?_
  refine CW.seq ?_
  refine CW.reg [0, 1] rfl ?_
  refine s_mv 9 rfl rfl ?_
  refine s_nePG 10 rfl rfl (atP_some x b p) ?_
  refine SX.next ?_
  refine CW.cond rfl (fun hin => ?_) (fun hin => ?_)
  · skip
    obtain ⟨i, k, bk, pg, hbi, hpk, hbk, hpg, hbe⟩ := inn_at hx hin
    have hat := atP_in hin hbe hpk
    have hpa := (pg_abs hbi hpk hbk hpg).2
    have hbm := List.mem_of_getElem? hbk
    have hpm := List.mem_of_getElem? hpg
    obtain ⟨ho1, ho2, ho3, ho4⟩ := pg_ok hx hbk hpg
    have hz1 : x.size ≤ 4096 := hx.z1
    rw [hat]
    refine CW.seq ?_
    refine CW.reg [0, 1, 2, 3, 4, 5] rfl ?_
    refine s_mv 11 rfl rfl ?_
    refine s_nil 12 rfl rfl ?_
    refine s_fa 13 rfl rfl ?_
    refine s_ld 14 rfl rfl (v := .slice pg.A pg.l.length pg.c) (fun _ hw => page_cell (hw.old hc) hbk hpg (j := 0) rfl) ?_
    refine s_call 15 rfl rfl rfl rfl (fun w hw => cloneB_spec pg.A pg.l.length pg.c pg.l w (pg_own1 (bk_pg (chip_bk (hw.old hc) hbm) hpm)) (by omega)) (fun _ _ => trivial) (fun z hz => ?_)
    refine s_as 4 rfl rfl ?_
    refine SX.next ?_
    refine CW.ret ?_
    exact KN.ret (rs := [.tmp 4]) Tryd.results15 rfl (fun w hw => ⟨z, by rw [if_pos hin, hpa]; rfl, by rw [if_pos hin, hpa]; exact hz, by rw [if_pos hin, hpa]; exact hw.pick [0] rfl⟩)
  · skip
    refine CW.skip ?_
    refine KN.code ?_
    refine CW.seq ?_
    refine CW.reg [0] rfl ?_
    refine s_as 4 rfl rfl ?_
    refine SX.next ?_
    refine CW.ret ?_
    exact KN.ret (rs := [.tmp 4]) Tryd.results15 rfl (fun w hw => ⟨(none, 0), by rw [if_neg (by rw [hin]; decide)]; rfl, by rw [if_neg (by rw [hin]; decide)]; exact Nat.le_refl _, by rw [if_neg (by rw [hin]; decide)]; exact hw.nothing.begin_ _ 1⟩)

theorem used_spec (g : Nat) (x : ChG) (hx : x.abs.Ok) (b p : Int) (w : World) (hc : Has (chipA g x) w) : Spec1 Tryd.prog 23 [.pointer (some ⟨g, 0, none⟩), .agg #[.int .i64 b, .int .i64 p]] w (.bool (x.abs.inn b p && (x.abs.pg b p).used)) := by
  refine spec_of Tryd.func23 rfl Tryd.ntmps23 rfl ?_
  refine CW.seq ?_
  refine CW.reg [0, 1] rfl ?_
  refine s_box 3 rfl rfl (fun _ _ => trivial) (fun b3 => ?_)
  refine s_as 4 rfl rfl ?_
  refine SX.next ?_
  refine CW.seq ?_
  refine CW.reg [0, 1, 2, 3] rfl ?_
  refine s_mv 6 rfl rfl ?_
  refine s_ldW 7 0 rfl rfl rfl ?_
  refine s_call1 8 rfl rfl rfl rfl (fun w hw => at_spec g x hx b p w (hw.old hc)) (fun _ _ => trivial) ?_
  refine s_as 5 rfl rfl ?_
  refine SX.next ?_
  refine CW.seq ?_
  refine CW.reg [0, 1, 2, 3, 4, 5, 6, 7, 8] rfl ?_
  refine s_mv 9 rfl rfl ?_
  refine s_nePG 10 rfl rfl (atP_some x b p) ?_
  refine s_mv 11 rfl rfl ?_
  refine SX.bool 11 rfl (fun hb => ?_) (fun hb => ?_)
  · skip
    have hin : x.abs.inn b p = true := hb
    obtain ⟨i, k, bk, pg, hbi, hpk, hbk, hpg, hbe⟩ := inn_at hx hin
    have hat := atP_in hin hbe hpk
    have hpa := (pg_abs hbi hpk hbk hpg).2
    have hbm := List.mem_of_getElem? hbk
    have hpm := List.mem_of_getElem? hpg
    obtain ⟨ho1, ho2, ho3, ho4⟩ := pg_ok hx hbk hpg
    have hz1 : x.size ≤ 4096 := hx.z1
    rw [hat]
    refine s_mv 12 rfl rfl ?_
    refine s_nil 13 rfl rfl ?_
    refine s_fa 14 rfl rfl ?_
    refine s_ld 15 rfl rfl (v := .bool pg.used) (fun _ hw => page_cell (hw.old hc) hbk hpg (j := 2) rfl) ?_
    refine s_pickT 16 rfl rfl rfl ?_
    refine s_as 4 rfl rfl ?_
    refine SX.next ?_
    refine CW.ret ?_
    exact KN.ret (rs := [.tmp 4]) Tryd.results23 rfl (fun w hw => ⟨by rw [hin, hpa]; rfl, hw.nothing⟩)
  · skip
    have hin : x.abs.inn b p = false := hb
    refine SX.skip rfl ?_
    refine SX.skip rfl ?_
    refine SX.skip rfl ?_
    refine SX.skip rfl ?_
    refine s_pickF 16 rfl rfl rfl ?_
    refine s_as 4 rfl rfl ?_
    refine SX.next ?_
    refine CW.ret ?_
    exact KN.ret (rs := [.tmp 4]) Tryd.results23 rfl (fun w hw => ⟨by rw [hin]; rfl, hw.nothing⟩)
end Go.Proofs.YtcapijdokbkgaaaDoor
end
section
/- A part of a block of one's own, stored whole. No condition. -/
namespace Go.Sx
open Go
section
variable {P : Program} {ops : Array Oper} {S : World → Prop} {K : Act → World → Prop} {p : Plan} {n : Nat} {l : List (Nat × Value)} {C : World → Prop} {fl : Bool} {i : Nat} {ty ty' ty2 ty3 : TypeId} {x y z u : Operand}
variable {F : Nat → Prop} {w₀ : World} {L L' : List Atom}
end
end Go.Sx
end
section
/- Package chip: a read, with no watcher and with the statement's. Conditions: the chip is lent; errors' variables stay. -/
namespace Go.Proofs.YtcapijdokbkgaaaDoor
open Go Go.Sx Go.Fm
set_option maxRecDepth 100000
/-- Who watches: what he was told last, and how often. -/
structure WtG where
  b : Int
  p : Int
  level : Int
  gA : Option Addr
  gc : Nat
  got : List Nat
  lA : Option Addr
  lc : Nat
  laid : List Nat
  n : Int
def WtG.cells (y : WtG) : Array Value := #[.int .i64 y.b, .int .i64 y.p, .int .i64 y.level, .slice y.gA y.got.length y.gc, .slice y.lA y.laid.length y.lc, .int .i64 y.n]
def WtG.hd (wb : Nat) (y : WtG) : Atom := blk wb 61 y.cells
def WtG.o1 (y : WtG) : Atom := own 5 1 y.gA y.got.length y.gc (nats .u8 y.got)
def WtG.o2 (y : WtG) : Atom := own 5 1 y.lA y.laid.length y.lc (nats .u8 y.laid)
def watchA (wb : Nat) (y : WtG) : Atom := starA [y.hd wb, y.o1, y.o2]

set_option maxHeartbeats 1600000 in

theorem read_spec (F : Nat → Prop) (g : Nat) (x : ChG) (hx : x.abs.Ok) (b p level : Int) (e : Nat → Addr) (w : World) (hwt : x.watch = .nilFunc) (hE1 : ∀ w', Fr F w w' → Er e w' 0) (hE2 : ∀ w', Fr F w w' → Er e w' 1) (hE3 : ∀ w', Fr F w w' → Er e w' 2) (hw : St F w [chipA g x] w) : SpecP Tryd.prog 20 [.pointer (some ⟨g, 0, none⟩), .agg #[.int .i64 b, .int .i64 p], .int .i64 level] F w (X := (Option Addr × Nat) × ChG) (fun z => two (.slice z.1.1 (x.abs.rd b p level).2.1.length z.1.2) (evE e (x.abs.rd b p level).1)) (fun z => z.2.abs = (x.abs.rd b p level).2.2 ∧ z.2.watch = x.watch) (fun z => [own 5 1 z.1.1 (x.abs.rd b p level).2.1.length z.1.2 (nats .u8 (x.abs.rd b p level).2.1), chipA g z.2]) := by
  refine spec_ofC Tryd.func20 rfl Tryd.ntmps20 rfl hw ?_
  refine CW.seq ?_
  refine CW.reg [0, 1, 2] rfl ?_
  refine s_box 4 rfl rfl (fun _ _ => trivial) (fun b4 => ?_)
  refine s_as 6 rfl rfl ?_
  refine s_as 7 rfl rfl ?_
  refine SX.next ?_
  refine CW.seq ?_
  refine CW.reg [0, 1, 2, 3] rfl ?_
  refine s_mv 16 rfl rfl ?_
  refine s_ldW 17 0 rfl rfl rfl ?_
  refine s_call1 18 rfl rfl rfl rfl (fun w hw => at_spec g x hx b p w (hw.has (i := 1) rfl)) (fun _ _ => trivial) ?_
  refine s_as 8 rfl rfl ?_
  refine SX.next ?_
  refine CW.seq ?_
  refine CW.cut (G := Unit) (fun _ => [(0, .pointer (some ⟨g, 0, none⟩)), (2, .int .i64 level), (4, .pointer (some ⟨b4, 0, none⟩)), (8, .pointer (atP x b p)), (9, evE e (x.abs.rdE b p level))]) (fun _ => St F w [blk b4 31 #[.int .i64 b, .int .i64 p], chipA g x]) (fun _ => True) ?_ ?_
  · skip
    refine CW.reg [0, 1, 2, 3, 4, 5, 6, 7, 8, 9, 10, 11, 12, 13, 14, 15, 16] rfl ?_
    refine s_mv 19 rfl rfl ?_
    refine s_mv 20 rfl rfl ?_
    refine s_nePG 21 rfl rfl (atP_some x b p) ?_
    refine s_mv 22 rfl rfl ?_
    refine SX.bool 22 rfl (fun hb => ?_) (fun hb => ?_)
    · skip
      have h1 : x.abs.inn b p = true := hb
      refine s_mv 23 rfl rfl ?_
      refine s_ge 24 rfl rfl rfl rfl ?_
      refine s_pickT 25 rfl rfl rfl ?_
      refine s_mv 26 rfl rfl ?_
      refine SX.bool 26 rfl (fun hb => ?_) (fun hb => ?_)
      · skip
        have h2 := of_decide_eq_true hb
        refine s_mv 27 rfl rfl ?_
        refine s_mv 28 rfl rfl ?_
        refine s_nil 29 rfl rfl ?_
        refine s_fa 30 rfl rfl ?_
        refine s_ld 31 rfl rfl (v := .int .i64 x.levels) (fun _ hw => chip_cell (hw.has (i := 1) rfl) rfl) ?_
        refine s_lt 32 rfl rfl rfl rfl ?_
        refine s_pickT 33 rfl rfl rfl ?_
        refine s_call1 34 rfl rfl rfl rfl (fun w hw => ask_spec g x.off _ true e w (chip_cell (hw.has (i := 1) rfl) rfl) (hE1 _ hw.fr) (hE2 _ hw.fr) (hE3 _ hw.fr)) (fun _ _ => trivial) ?_
        refine s_as 9 rfl rfl ?_
        refine SX.end_ ?_
        exact KN.join () ⟨rfl, rfl, rfl, rfl, by unfold ChS.rdE; rw [h1, decide_eq_decide.2 (show (0 ≤ level ∧ level < x.abs.levels) ↔ level < x.levels from ⟨fun h => h.2, fun h => ⟨h2, h⟩⟩), Bool.true_and]; rfl, trivial⟩ (fun _ h => h) trivial
      · skip
        have h2 := of_decide_eq_false hb
        refine SX.skip rfl ?_
        refine SX.skip rfl ?_
        refine SX.skip rfl ?_
        refine SX.skip rfl ?_
        refine SX.skip rfl ?_
        refine SX.skip rfl ?_
        refine s_pickF 33 rfl rfl rfl ?_
        refine s_call1 34 rfl rfl rfl rfl (fun w hw => ask_spec g x.off _ true e w (chip_cell (hw.has (i := 1) rfl) rfl) (hE1 _ hw.fr) (hE2 _ hw.fr) (hE3 _ hw.fr)) (fun _ _ => trivial) ?_
        refine s_as 9 rfl rfl ?_
        refine SX.end_ ?_
        exact KN.join () ⟨rfl, rfl, rfl, rfl, by unfold ChS.rdE; rw [h1, decide_eq_false (fun h : 0 ≤ level ∧ level < x.abs.levels => h2 h.1)]; rfl, trivial⟩ (fun _ h => h) trivial
    · skip
      have h1 : x.abs.inn b p = false := hb
      refine SX.skip rfl ?_
      refine SX.skip rfl ?_
      refine s_pickF 25 rfl rfl rfl ?_
      refine s_mv 26 rfl rfl ?_
      refine SX.skip rfl ?_
      refine SX.skip rfl ?_
      refine SX.skip rfl ?_
      refine SX.skip rfl ?_
      refine SX.skip rfl ?_
      refine SX.skip rfl ?_
      refine s_pickF 33 rfl rfl rfl ?_
      refine s_call1 34 rfl rfl rfl rfl (fun w hw => ask_spec g x.off _ true e w (chip_cell (hw.has (i := 1) rfl) rfl) (hE1 _ hw.fr) (hE2 _ hw.fr) (hE3 _ hw.fr)) (fun _ _ => trivial) ?_
      refine s_as 9 rfl rfl ?_
      refine SX.end_ ?_
      exact KN.join () ⟨rfl, rfl, rfl, rfl, by unfold ChS.rdE; rw [h1, Bool.false_and]; rfl, trivial⟩ (fun _ h => h) trivial
  · skip
    intro _ _
    refine CW.seq ?_
    refine CW.reg [0, 1] rfl ?_
    refine s_mv 35 rfl rfl ?_
    refine s_neIG 36 rfl rfl (evE_some e (x.abs.rdE b p level)) ?_
    refine SX.next ?_
    refine CW.test rfl (fun hz => ?_) (fun hz => ?_)
    · skip
      refine CW.seq ?_
      refine CW.reg [0, 1, 2] rfl ?_
      refine s_mv 37 rfl rfl ?_
      refine s_as 6 rfl rfl ?_
      refine s_as 7 rfl rfl ?_
      refine SX.next ?_
      refine CW.ret ?_
      exact KN.ret (rs := [.tmp 6, .tmp 7]) Tryd.results20 rfl (fun w hw => ⟨((none, 0), x), by rw [rd_err hz]; rfl, by rw [rd_err hz]; exact ⟨rfl, rfl⟩, by rw [rd_err hz]; exact ((hw.pick [1] rfl).begin_ 5 1)⟩)
    · skip
      have hz0 := Decidable.of_not_not hz
      obtain ⟨hoff, hin, hlv0, hlv1⟩ := rdE_zero hz0
      obtain ⟨i, k, bk, pg, hbi, hpk, hbk, hpg, hbe⟩ := inn_at hx hin
      have hat := atP_in hin hbe hpk
      have hpa := (pg_abs hbi hpk hbk hpg).2
      have hbm := List.mem_of_getElem? hbk
      have hpm := List.mem_of_getElem? hpg
      obtain ⟨ho1, ho2, ho3, ho4⟩ := pg_ok hx hbk hpg
      have hz1 : x.size ≤ 4096 := hx.z1
      have hhl := hits_len hx
      refine CW.skip ?_
      refine KN.code ?_
      refine CW.seq ?_
      refine CW.reg [0, 1, 2] rfl ?_
      refine s_mv 38 rfl rfl ?_
      refine s_callP 39 [1, 0] (M := [chipA g x]) (R := [blk b4 31 #[.int .i64 b, .int .i64 p]]) (X := Option Addr × Nat) (v := fun z => .slice z.1 x.hitsG.length z.2) (pf := fun z => x.hitsG.length ≤ z.2) (M' := fun z => [own 48 5 z.1 x.hitsG.length z.2 (x.hitsG.flatMap FtG.row), chipA g x.tick]) rfl rfl rfl rfl rfl (fun F' w' hR hM => count_spec F' g x hx w' hM) (fun _ _ _ => trivial) (fun z hz9 => ?_)
      refine s_as 10 rfl rfl ?_
      refine SX.next ?_
      refine CW.seq ?_
      refine CW.seq ?_
      refine CW.reg [0, 1, 2, 3, 4, 5, 6, 7] rfl ?_
      refine s_mv 41 rfl rfl ?_
      refine s_call1 42 rfl rfl rfl rfl (fun w hw => find_spec z.1 z.2 x.hitsG 3 w ((hw.has (i := 0) rfl).of_own) hhl) (fun _ _ => trivial) ?_
      refine s_mv 40 rfl rfl ?_
      refine s_ext 43 rfl rfl rfl ?_
      refine s_ext 44 rfl rfl rfl ?_
      refine s_alloc 11 rfl (fun _ _ => trivial) (fun b11 => ?_)
      refine s_stAll 0 rfl rfl (by kernel_rfl) rfl rfl rfl rfl (fun _ _ => trivial) ?_
      refine s_as 12 rfl rfl ?_
      refine SX.next ?_
      refine CW.seq ?_
      refine CW.reg [0] rfl ?_
      refine s_mv 45 rfl rfl ?_
      refine SX.next ?_
      refine CW.cond rfl (fun hct => ?_) (fun hct => ?_)
      · skip
        rw [find_some] at hct
        refine CW.seq ?_
        refine CW.pre (fun _ h => (h.pick [2, 0, 0, 0] rfl).chipO) ?_
        refine CW.reg [0, 1, 2, 3] rfl ?_
        refine s_mv 46 rfl rfl ?_
        refine s_nil 47 rfl rfl ?_
        refine s_fa 48 rfl rfl ?_
        refine s_stB 0 rfl rfl rfl rfl rfl (by show 7 < 9; decide) (fun _ _ => trivial) ?_
        refine SX.next ?_
        refine CW.seq ?_
        refine CW.regD (.st true 0 (.st true 1 (.st true 2 .done))) (St F w []) mixed (by kernel_rfl) (fun _ h => h.drew) (fun _ h => h.pick [] rfl) ?_
        refine s_ldS 49 rfl rfl (fun _ h => hE1 _ h.fr) ?_
        refine s_as 6 rfl rfl ?_
        refine s_as 7 rfl rfl ?_
        refine SX.next ?_
        refine CW.ret ?_
        exact KN.ret (rs := [.tmp 6, .tmp 7]) Tryd.results20 rfl (fun w hw => ⟨((none, 0), { x.tick with off := true }), by rw [rd_cut hz0 hct]; rfl, by rw [rd_cut hz0 hct]; exact ⟨rfl, rfl⟩, by rw [rd_cut hz0 hct]; exact ((hw.pick [0, 0, 0, 0, 0] rfl).chipC (x := { x.tick with off := true })).begin_ 5 1⟩)
      · skip
        rw [find_some] at hct
        rw [hat]
        refine CW.skip ?_
        refine KN.code ?_
        refine CW.seq ?_
        refine CW.reg [0, 1, 2, 3, 4, 5] rfl ?_
        refine s_mv 50 rfl rfl ?_
        refine s_nil 51 rfl rfl ?_
        refine s_fa 52 rfl rfl ?_
        refine s_ld 53 rfl rfl (v := .slice pg.A pg.l.length pg.c) (fun _ hw => page_cell (x := x.tick) (hw.has (i := 2) rfl) hbk hpg (j := 0) rfl) ?_
        refine s_call 54 rfl rfl rfl rfl (fun w hw => cloneB_spec pg.A pg.l.length pg.c pg.l w (pg_own1 (bk_pg (chip_bk (x := x.tick) (hw.has (i := 2) rfl) hbm) hpm)) (by omega)) (fun _ _ => trivial) (fun zo hzo => ?_)
        refine s_as 13 rfl rfl ?_
        refine SX.next ?_
        refine CW.seq ?_
        refine CW.seq ?_
        refine CW.reg [0, 1, 2] rfl ?_
        refine s_mv 55 rfl rfl ?_
        refine s_len 56 rfl rfl ?_
        refine s_mv 57 rfl rfl ?_
        refine SX.next ?_
        refine CW.block ?_
        refine CW.loop (G := Nat) (fun j => [(0, .pointer (some ⟨g, 0, none⟩)), (2, .int .i64 level), (4, .pointer (some ⟨b4, 0, none⟩)), (8, .pointer (some ⟨ob bk.A, 0 + k * 3, none⟩)), (13, .slice zo.1 pg.l.length zo.2), (55, .slice z.1 x.hitsG.length z.2), (56, .int .i64 (x.hitsG.length : Nat)), (57, .int .i64 (j : Nat))]) (fun j => St F w [own 5 1 zo.1 pg.l.length zo.2 (nats .u8 (flipsG (x.hitsG.take j) level pg.l)), own 48 5 z.1 x.hitsG.length z.2 (x.hitsG.flatMap FtG.row), chipA g x.tick, blk b4 31 #[.int .i64 b, .int .i64 p]]) (fun j => j ≤ x.hitsG.length) (fun j => x.hitsG.length - j) 0 ⟨rfl, rfl, rfl, rfl, rfl, rfl, rfl, rfl, trivial⟩ (fun _ h => h.pick [0, 1, 1, 1] rfl) (Nat.zero_le _) ?_
        intro j hj
        refine CW.seq ?_
        refine CW.reg [0] rfl ?_
        refine s_lt 58 rfl rfl rfl rfl ?_
        refine SX.next ?_
        refine CW.seq ?_
        refine CW.test rfl (fun hc => ?_) (fun hc => ?_)
        · skip
          have hjl : j < x.hitsG.length := by omega
          have hg := gF_at hjl
          have hgm := hits_mem (gF_mem hjl)
          have hnx := flipsG_take (level := level) (b := pg.l) hjl
          obtain ⟨hfl, hf8⟩ := flipsG_ok level (x.hitsG.take j) pg.l
          have hf82 := hf8 ho2
          have hfb := ft_bits hx hgm
          refine CW.skip ?_
          refine KN.code ?_
          refine CW.seq ?_
          refine CW.block ?_
          refine CW.seq ?_
          refine CW.reg [0, 1, 2, 3] rfl ?_
          refine s_iaV 59 j (fun w hw => (hw.has (i := 1) rfl).of_own) rfl rfl rfl rfl hjl ?_
          refine s_ldR 60 (cs := (gF x.hitsG j).row) rfl rfl rfl (fun w hw => ((hw.has (i := 1) rfl).of_own).rowAt ftRow_len hg (by omega)) ?_
          refine s_alloc 15 rfl (fun _ _ => trivial) (fun b15 => ?_)
          refine s_stAll 0 rfl rfl (by kernel_rfl) rfl rfl rfl rfl (fun _ _ => trivial) ?_
          refine SX.next ?_
          refine CW.seq ?_
          refine CW.reg [0, 1, 2, 3, 4, 5, 6, 7, 8, 9, 10, 11, 12, 13] rfl ?_
          refine s_fa 61 rfl rfl ?_
          refine s_ld 62 rfl rfl (v := .int .i64 (gF x.hitsG j).kind) (fun _ hw => hw.blkCell (i := 0) (j := 1) rfl rfl) ?_
          refine s_eq 63 rfl rfl rfl rfl ?_
          refine s_mv 64 rfl rfl ?_
          refine SX.bool 64 rfl (fun hb => ?_) (fun hb => ?_)
          · skip
            have hk1 := of_decide_eq_true hb
            refine s_fa 65 rfl rfl ?_
            refine s_ld 66 rfl rfl (v := .int .i64 (gF x.hitsG j).level) (fun _ hw => hw.blkCell (i := 0) (j := 2) rfl rfl) ?_
            refine s_eq 67 rfl rfl rfl rfl ?_
            refine s_mv 68 rfl rfl ?_
            refine SX.bool 68 rfl (fun hb => ?_) (fun hb => ?_)
            · skip
              have hl1 := of_decide_eq_true hb
              have hyes : flip1 level (flipsG (x.hitsG.take j) level pg.l) (gF x.hitsG j) = turnL (flipsG (x.hitsG.take j) level pg.l) (gF x.hitsG j).bits := by
                unfold flip1
                rw [if_pos ⟨hk1, .inl hl1⟩]
              refine SX.skip rfl ?_
              refine SX.skip rfl ?_
              refine SX.skip rfl ?_
              refine SX.skip rfl ?_
              refine s_pickT 73 rfl rfl rfl ?_
              refine s_pickT 74 rfl rfl rfl ?_
              refine SX.next ?_
              refine CW.condT rfl ?_
              refine CW.reg [0, 1, 2, 3] rfl ?_
              refine s_mv 75 rfl rfl ?_
              refine s_fa 76 rfl rfl ?_
              refine s_ld 77 rfl rfl (v := .slice (gF x.hitsG j).A (gF x.hitsG j).bits.length (gF x.hitsG j).c) (fun _ hw => hw.blkCell (i := 0) (j := 4) rfl rfl) ?_
              refine s_callP 78 [1, 0, 0, 0, 0] (M := [own 5 1 zo.1 pg.l.length zo.2 (nats .u8 (flipsG (x.hitsG.take j) level pg.l))]) (R := [blk b15 48 #[.int .i64 (gF x.hitsG j).op, .int .i64 (gF x.hitsG j).kind, .int .i64 (gF x.hitsG j).level, .int .i64 (gF x.hitsG j).n, .slice (gF x.hitsG j).A (gF x.hitsG j).bits.length (gF x.hitsG j).c], own 48 5 z.1 x.hitsG.length z.2 (x.hitsG.flatMap FtG.row), chipA g x.tick, blk b4 31 #[.int .i64 b, .int .i64 p]]) (X := Unit) (v := fun _ => oneOf []) (pf := fun _ => True) (M' := fun _ => [own 5 1 zo.1 pg.l.length zo.2 (nats .u8 (turnL (flipsG (x.hitsG.take j) level pg.l) (gF x.hitsG j).bits))]) rfl rfl rfl rfl rfl (fun F' w' hR hM => by have := turn_spec F' zo.1 zo.2 (flipsG (x.hitsG.take j) level pg.l) (gF x.hitsG j).A (gF x.hitsG j).c (gF x.hitsG j).bits w' hf82 (by rw [hfl]; omega) (fun w2 hf => chip_ft (x := x.tick) ((hR w2 hf).has (i := 2) rfl) hgm) hfb (by rw [hfl]; exact hM); rw [hfl] at this; exact this) (fun _ _ _ => trivial) (fun _ _ => ?_)
              refine SX.end_ ?_
              refine KN.blk ?_
              refine KN.code ?_
              refine CW.reg [0, 1] rfl ?_
              refine s_add 79 rfl rfl rfl (r := ((j + 1 : Nat) : Int)) (w64 (by omega)) ?_
              refine s_mv 57 rfl rfl ?_
              refine SX.end_ ?_
              exact KN.back (j + 1) ⟨rfl, rfl, rfl, rfl, rfl, rfl, rfl, rfl, trivial⟩ (fun _ h => by rw [hnx, hyes]; exact h.pick [0, 1, 1, 1] rfl) (by omega) (by omega)
            · skip
              have hl1 := of_decide_eq_false hb
              refine s_fa 69 rfl rfl ?_
              refine s_ld 70 rfl rfl (v := .int .i64 (gF x.hitsG j).level) (fun _ hw => hw.blkCell (i := 0) (j := 2) rfl rfl) ?_
              refine s_mv 71 rfl rfl ?_
              refine s_eq 72 rfl rfl rfl rfl ?_
              refine s_pickF 73 rfl rfl rfl ?_
              refine s_pickT 74 rfl rfl rfl ?_
              refine SX.next ?_
              refine CW.test rfl (fun hl2 => ?_) (fun hl2 => ?_)
              · skip
                have hyes : flip1 level (flipsG (x.hitsG.take j) level pg.l) (gF x.hitsG j) = turnL (flipsG (x.hitsG.take j) level pg.l) (gF x.hitsG j).bits := by
                  unfold flip1
                  rw [if_pos ⟨hk1, .inr hl2⟩]
                refine CW.reg [0, 1, 2, 3] rfl ?_
                refine s_mv 75 rfl rfl ?_
                refine s_fa 76 rfl rfl ?_
                refine s_ld 77 rfl rfl (v := .slice (gF x.hitsG j).A (gF x.hitsG j).bits.length (gF x.hitsG j).c) (fun _ hw => hw.blkCell (i := 0) (j := 4) rfl rfl) ?_
                refine s_callP 78 [1, 0, 0, 0, 0] (M := [own 5 1 zo.1 pg.l.length zo.2 (nats .u8 (flipsG (x.hitsG.take j) level pg.l))]) (R := [blk b15 48 #[.int .i64 (gF x.hitsG j).op, .int .i64 (gF x.hitsG j).kind, .int .i64 (gF x.hitsG j).level, .int .i64 (gF x.hitsG j).n, .slice (gF x.hitsG j).A (gF x.hitsG j).bits.length (gF x.hitsG j).c], own 48 5 z.1 x.hitsG.length z.2 (x.hitsG.flatMap FtG.row), chipA g x.tick, blk b4 31 #[.int .i64 b, .int .i64 p]]) (X := Unit) (v := fun _ => oneOf []) (pf := fun _ => True) (M' := fun _ => [own 5 1 zo.1 pg.l.length zo.2 (nats .u8 (turnL (flipsG (x.hitsG.take j) level pg.l) (gF x.hitsG j).bits))]) rfl rfl rfl rfl rfl (fun F' w' hR hM => by have := turn_spec F' zo.1 zo.2 (flipsG (x.hitsG.take j) level pg.l) (gF x.hitsG j).A (gF x.hitsG j).c (gF x.hitsG j).bits w' hf82 (by rw [hfl]; omega) (fun w2 hf => chip_ft (x := x.tick) ((hR w2 hf).has (i := 2) rfl) hgm) hfb (by rw [hfl]; exact hM); rw [hfl] at this; exact this) (fun _ _ _ => trivial) (fun _ _ => ?_)
                refine SX.end_ ?_
                refine KN.blk ?_
                refine KN.code ?_
                refine CW.reg [0, 1] rfl ?_
                refine s_add 79 rfl rfl rfl (r := ((j + 1 : Nat) : Int)) (w64 (by omega)) ?_
                refine s_mv 57 rfl rfl ?_
                refine SX.end_ ?_
                exact KN.back (j + 1) ⟨rfl, rfl, rfl, rfl, rfl, rfl, rfl, rfl, trivial⟩ (fun _ h => by rw [hnx, hyes]; exact h.pick [0, 1, 1, 1] rfl) (by omega) (by omega)
              · skip
                have hno : flip1 level (flipsG (x.hitsG.take j) level pg.l) (gF x.hitsG j) = flipsG (x.hitsG.take j) level pg.l := by
                  unfold flip1
                  rw [if_neg (fun h => h.2.elim hl1 hl2)]
                refine CW.skip ?_
                refine KN.blk ?_
                refine KN.code ?_
                refine CW.reg [0, 1] rfl ?_
                refine s_add 79 rfl rfl rfl (r := ((j + 1 : Nat) : Int)) (w64 (by omega)) ?_
                refine s_mv 57 rfl rfl ?_
                refine SX.end_ ?_
                exact KN.back (j + 1) ⟨rfl, rfl, rfl, rfl, rfl, rfl, rfl, rfl, trivial⟩ (fun _ h => by rw [hnx, hno]; exact h.pick [1, 1, 1, 1] rfl) (by omega) (by omega)
          · skip
            have hk1 := of_decide_eq_false hb
            have hno : flip1 level (flipsG (x.hitsG.take j) level pg.l) (gF x.hitsG j) = flipsG (x.hitsG.take j) level pg.l := by
              unfold flip1
              rw [if_neg (fun h => hk1 h.1)]
            refine SX.skip rfl ?_
            refine SX.skip rfl ?_
            refine SX.skip rfl ?_
            refine SX.skip rfl ?_
            refine SX.skipU rfl ?_
            refine SX.skipU rfl ?_
            refine SX.skipU rfl ?_
            refine SX.skipU rfl ?_
            refine SX.skip rfl ?_
            refine s_pickF 74 rfl rfl rfl ?_
            refine SX.next ?_
            refine CW.condF rfl ?_
            refine CW.skip ?_
            refine KN.blk ?_
            refine KN.code ?_
            refine CW.reg [0, 1] rfl ?_
            refine s_add 79 rfl rfl rfl (r := ((j + 1 : Nat) : Int)) (w64 (by omega)) ?_
            refine s_mv 57 rfl rfl ?_
            refine SX.end_ ?_
            exact KN.back (j + 1) ⟨rfl, rfl, rfl, rfl, rfl, rfl, rfl, rfl, trivial⟩ (fun _ h => by rw [hnx, hno]; exact h.pick [1, 1, 1, 1] rfl) (by omega) (by omega)
        · skip
          obtain rfl : j = x.hitsG.length := by omega
          rw [List.take_length]
          obtain ⟨hfl, hf8⟩ := flipsG_ok level x.hitsG pg.l
          have hf82 := hf8 ho2
          have hfa : flipsG x.hitsG level pg.l = flips x.abs.hits level (x.abs.pg b p).cells := by rw [flipsG_abs, hits_abs, hpa]; rfl
          refine CW.exit rfl ?_
          refine KN.code ?_
          refine CW.seq ?_
          refine CW.seq ?_
          refine CW.reg [0, 1, 2, 3, 4] rfl ?_
          refine s_mv 80 rfl rfl ?_
          refine s_nil 81 rfl rfl ?_
          refine s_fa 82 rfl rfl ?_
          refine s_ld 83 rfl rfl (v := .nilFunc) (fun _ hw => chip_cell (hw.has (i := 2) rfl) (by rw [← hwt]; rfl)) ?_
          refine s_neFN 84 rfl (by kernel_rfl) rfl ?_
          refine SX.next ?_
          refine CW.condF rfl ?_
          refine CW.skip ?_
          refine KN.code ?_
          refine CW.seq ?_
          refine CW.reg [0, 1, 2] rfl ?_
          refine s_mv 99 rfl rfl ?_
          refine s_as 6 rfl rfl ?_
          refine s_as 7 rfl rfl ?_
          refine SX.next ?_
          refine CW.ret ?_
          exact KN.ret (rs := [.tmp 6, .tmp 7]) Tryd.results20 rfl (fun w hw => ⟨(zo, x.tick), by rw [rd_ok hz0 hct, ← hfa, hfl]; rfl, by rw [rd_ok hz0 hct]; exact ⟨rfl, rfl⟩, by rw [rd_ok hz0 hct, ← hfa, hfl]; exact hw.pick [0, 1] rfl⟩)
end Go.Proofs.YtcapijdokbkgaaaDoor
end
section
/- A chip: what a program and an erase lay, as lists. No condition. -/
namespace Go.Proofs.YtcapijdokbkgaaaDoor
open Go Go.Sx
set_option maxRecDepth 100000
/-- A chip of which nothing but the counts has changed. -/
theorem ChS.Ok.same {s s' : ChS} (h : s.Ok) (e1 : s'.pages = s.pages) (e2 : s'.size = s.size) (e3 : s'.levels = s.levels) (e4 : s'.blocks = s.blocks) (e5 : s'.plan = s.plan) : s'.Ok := by
  obtain ⟨p0, p1, z0, z1, v0, v1, b1, pg, pl, bt⟩ := h
  exact ⟨by rw [e1]; exact p0, by rw [e1]; exact p1, by rw [e2]; exact z0, by rw [e2]; exact z1, by rw [e3]; exact v0, by rw [e3]; exact v1, by rw [e4]; exact b1, by rw [e4, e1, e2]; exact pg, by rw [e5]; exact pl, by rw [e5]; exact bt⟩
def badAt (p : Int) (j : Nat) (q : PgS) : Bool := decide ((j : Int) < p) && !q.used || decide (p ≤ (j : Int)) && q.used
theorem wrongAt_yes {pages : List PgS} {p : Int} {j : Nat} {q : PgS} (h : pages[j]? = some q) (hb : badAt p j q = true) : wrongAt pages p = true := by
  unfold wrongAt
  rw [List.any_eq_true]
  refine ⟨(q, j), ?_, hb⟩
  exact List.mem_of_getElem? (i := j) (by rw [List.getElem?_zipIdx, h]; simp)
theorem wrongAt_no {pages : List PgS} {p : Int} (h : ∀ (j : Nat) q, pages[j]? = some q → badAt p j q = false) : wrongAt pages p = false := by
  unfold wrongAt
  rw [List.any_eq_false]
  intro x hx
  obtain ⟨i, hi⟩ := List.getElem?_of_mem hx
  rw [List.getElem?_zipIdx, Option.map_eq_some_iff] at hi
  obtain ⟨q, hq, rfl⟩ := hi
  have := h i q hq
  simp only [Nat.zero_add]
  unfold badAt at this
  rw [this]
  decide
theorem layN_cut {x : ChG} {f : FtG} (h : findG x.hitsG 3 = some f) (n : Int) : layN x.abs.hits n = (f.n, 109) := by
  unfold layN
  rw [← hits_abs, ← findG_abs, h]
  rfl
theorem layN_fail {x : ChG} {f : FtG} (h3 : findG x.hitsG 3 = none) (h : findG x.hitsG 2 = some f) (n : Int) : layN x.abs.hits n = (f.n, 111) := by
  unfold layN
  rw [← hits_abs, ← findG_abs, ← findG_abs, h3, h]
  rfl
theorem layN_all {x : ChG} (h3 : findG x.hitsG 3 = none) (h : findG x.hitsG 2 = none) (n : Int) : layN x.abs.hits n = (n, 0) := by
  unfold layN
  rw [← hits_abs, ← findG_abs, ← findG_abs, h3, h]
  rfl
theorem eraN_cut {x : ChG} {f : FtG} (h : findG x.hitsG 3 = some f) (n : Int) : eraN x.abs.hits n = (clampN f.n n, 109) := by
  unfold eraN
  rw [← hits_abs, ← findG_abs, h]
  rfl
theorem eraN_fail {x : ChG} {f : FtG} (h3 : findG x.hitsG 3 = none) (h : findG x.hitsG 2 = some f) (n : Int) : eraN x.abs.hits n = (0, 111) := by
  unfold eraN
  rw [← hits_abs, ← findG_abs, ← findG_abs, h3, h]
  rfl
theorem eraN_all {x : ChG} (h3 : findG x.hitsG 3 = none) (h : findG x.hitsG 2 = none) (n : Int) : eraN x.abs.hits n = (n.toNat, 0) := by
  unfold eraN
  rw [← hits_abs, ← findG_abs, ← findG_abs, h3, h]
  rfl
theorem clampN_le {n size : Int} : (clampN n size : Int) ≤ max size 0 := by unfold clampN; omega
theorem clampN_eq {n size : Int} (h : 0 ≤ size) : (if size < (if (0 : Int) > n then 0 else n) then size else (if (0 : Int) > n then 0 else n)) = ((clampN n size : Nat) : Int) := by
  unfold clampN
  split <;> split at * <;> omega
theorem andTo_len {m : Nat} {a b : List Nat} (h : a.length ≤ b.length) : (andTo m a b).length = a.length := by
  unfold andTo
  rw [List.length_append, List.length_zipWith, List.length_take, List.length_take, List.length_drop]
  omega
theorem andTo_at {m : Nat} {a b : List Nat} (h : a.length ≤ b.length) (j : Nat) : (andTo m a b)[j]? = if j < m then (a[j]?).map (fun x => x &&& b.getD j 0) else a[j]? := by
  unfold andTo
  have hl : (List.zipWith (fun x y => x &&& y) (a.take m) (b.take m)).length = min m a.length := by
    rw [List.length_zipWith, List.length_take, List.length_take]
    omega
  by_cases hj : j < m
  · rw [if_pos hj]
    by_cases ha : j < a.length
    · rw [List.getElem?_append_left (by rw [hl]; omega), List.getElem?_zipWith, List.getElem?_take, List.getElem?_take, if_pos hj, if_pos hj, List.getElem?_eq_getElem ha, List.getElem?_eq_getElem (show j < b.length by omega), List.getD_eq_getElem?_getD, List.getElem?_eq_getElem (show j < b.length by omega)]
      rfl
    · rw [List.getElem?_eq_none (by rw [List.length_append, hl, List.length_drop]; omega), List.getElem?_eq_none (by omega)]
      rfl
  · rw [if_neg hj]
    by_cases ha : j < a.length
    · rw [List.getElem?_append_right (by rw [hl]; omega), hl, List.getElem?_drop]
      congr 1
      omega
    · rw [List.getElem?_eq_none (by rw [List.length_append, hl, List.length_drop]; omega), List.getElem?_eq_none (by omega)]
theorem andTo_next {m : Nat} {a b : List Nat} (h : a.length ≤ b.length) (hm : m < a.length) : andTo (m + 1) a b = (andTo m a b).set m ((andTo m a b).getD m 0 &&& b.getD m 0) := by
  apply List.ext_getElem?
  intro j
  have e : (andTo m a b).getD m 0 = a.getD m 0 := by
    rw [List.getD_eq_getElem?_getD, andTo_at h, if_neg (by omega), ← List.getD_eq_getElem?_getD]
  rw [andTo_at h, List.getElem?_set, andTo_at h, andTo_len h, e]
  by_cases hj : m = j
  · subst hj
    rw [if_pos (by omega), if_pos rfl, if_pos hm]
    simp only [List.getD_eq_getElem?_getD, List.getElem?_eq_getElem hm, Option.getD_some, Option.map_some]
  · rw [if_neg hj]
    by_cases hj2 : j < m
    · rw [if_pos (by omega), if_pos hj2]
    · rw [if_neg (by omega), if_neg hj2]
theorem andTo_zero (a b : List Nat) : andTo 0 a b = a := by simp [andTo]
theorem andTo_lt {m : Nat} {a b : List Nat} (h : a.length ≤ b.length) (h8 : ∀ x ∈ a, x < 256) : ∀ x ∈ andTo m a b, x < 256 := by
  intro x hx
  obtain ⟨j, hj⟩ := List.getElem?_of_mem hx
  rw [andTo_at h] at hj
  split at hj
  · rw [Option.map_eq_some_iff] at hj
    obtain ⟨y, hy, rfl⟩ := hj
    exact Nat.lt_of_le_of_lt Nat.and_le_left (h8 y (List.mem_of_getElem? hy))
  · exact h8 x (List.mem_of_getElem? hj)
theorem pr_err {s : ChS} {b p : Int} {l : List Nat} (h : s.prE b p l.length ≠ 0) : s.pr b p l = (s.prE b p l.length, s) := by
  unfold ChS.pr
  rw [if_pos h]
theorem setPg_eq {s : ChS} {x : ChG} (hs : s.blocks = x.abs.blocks) {b p : Int} {i k : Nat} {bk : BkG} (hb : b = (i : Nat)) (hp : p = (k : Nat)) (hbk : x.blocks[i]? = some bk) {q : PgS} {q' : PgG} (hq : q'.abs = q) :
    s.setPg b p q = { s with blocks := (x.blocks.set i { bk with pages := bk.pages.set k q' }).map BkG.abs } := by
  have e2 : s.bk b = bk.abs := by
    unfold ChS.bk
    rw [hs, hb, Int.toNat_natCast, List.getD_eq_getElem?_getD, abs_bk hbk, Option.getD_some]
  have e3 : ({ bk with pages := bk.pages.set k q' } : BkG).abs = { bk.abs with pages := bk.abs.pages.set k q } := by
    unfold BkG.abs
    simp only [List.map_set, hq]
  unfold ChS.setPg
  rw [e2, hs, hb, hp, Int.toNat_natCast, Int.toNat_natCast, List.map_set, e3]
  rfl
def ChG.hurt (x : ChG) (b p : Int) : ChG := { x with broken := if wrongAt (x.abs.bk b).pages p = true then wr (x.broken + 1) else x.broken }
/-- A program that is carried out. -/
theorem pr_ok {x : ChG} {b p : Int} {l : List Nat} (h : x.abs.prE b p l.length = 0) {i k : Nat} {bk : BkG} {pg : PgG} (hb : b = (i : Nat)) (hp : p = (k : Nat)) (hbk : x.blocks[i]? = some bk) (hpg : bk.pages[k]? = some pg) (A : Option Addr) (c : Nat) (B : Option Addr) (d : Nat) {r : Int × Int} (hr : layN x.abs.hits x.size = r) :
    (x.abs.pr b p l).1 = r.2 ∧ ({ (x.hurt b p).tick with off := (findG x.hitsG 3).isSome, blocks := x.blocks.set i { bk with pages := bk.pages.set k ⟨A, c, andTo (clampN r.1 x.size) pg.l (spoilsG x.hitsG l), B, d, l, true⟩ } } : ChG).abs = (x.abs.pr b p l).2 := by
  obtain ⟨h1, h2⟩ := pg_abs hb hp hbk hpg
  unfold ChS.pr
  rw [if_neg (fun hn => hn h)]
  have hr2 : layN x.abs.hits x.abs.size = r := hr
  simp only [hr2]
  refine ⟨trivial, ?_⟩
  rw [h2, h1, ← hits_abs, ← spoilsG_abs]
  have e3 : (findG x.hitsG 3).isSome = (findK (x.hitsG.map FtG.abs) 3).isSome := by rw [← findG_abs, Option.isSome_map]
  rw [e3]
  refine Eq.trans ?_ (Eq.symm (setPg_eq (x := x) ?_ hb hp hbk (q' := ⟨A, c, andTo (clampN r.1 x.size) pg.l (spoilsG x.hitsG l), B, d, l, true⟩) ?_))
  · unfold ChG.hurt ChG.tick ChS.tick
    rw [h1]
    rfl
  · rfl
  · rfl
theorem er_err {s : ChS} {b : Int} (h : s.erE b ≠ 0) : s.er b = (s.erE b, s) := by
  unfold ChS.er
  rw [if_pos h]
end Go.Proofs.YtcapijdokbkgaaaDoor
end
section
/- Package chip: a program. Conditions: the chip is lent; errors' variables stay. -/
namespace Go.Proofs.YtcapijdokbkgaaaDoor
open Go Go.Sx Go.Fm
set_option maxRecDepth 100000
theorem bad_lt {p : Int} {j : Nat} {q : PgS} (h : (j : Int) < p) (hu : q.used = false) : badAt p j q = true := by unfold badAt; rw [decide_eq_true h, hu]; rfl
theorem bad_ge {p : Int} {j : Nat} {q : PgS} (h : ¬ (j : Int) < p) (hu : q.used = true) : badAt p j q = true := by unfold badAt; rw [decide_eq_true (show p ≤ (j : Int) by omega), hu]; simp
theorem nobad_lt {p : Int} {j : Nat} {q : PgS} (h : (j : Int) < p) (hu : q.used = true) : badAt p j q = false := by unfold badAt; rw [decide_eq_false (show ¬ p ≤ (j : Int) by omega), hu]; simp
theorem nobad_ge {p : Int} {j : Nat} {q : PgS} (h : ¬ (j : Int) < p) (hu : q.used = false) : badAt p j q = false := by unfold badAt; rw [decide_eq_false h, hu]; simp
theorem hurt_abs_ok {x : ChG} (hx : x.abs.Ok) (b p : Int) : (x.hurt b p).abs.Ok := hx.same rfl rfl rfl rfl rfl

theorem List.set_eq_self {α : Type} {l : List α} {i : Nat} {a : α} (h : l[i]? = some a) : l.set i a = l := by
  apply List.ext_getElem?
  intro j
  rw [List.getElem?_set]
  split
  · rename_i e
    subst e
    rw [if_pos (List.getElem?_eq_some_iff.1 h).1, h]
  · rfl
set_option maxHeartbeats 3200000 in

theorem program_spec (F : Nat → Prop) (g : Nat) (x : ChG) (hx : x.abs.Ok) (b p : Int) (A : Option Addr) (c : Nat) (l : List Nat) (e : Nat → Addr) (w : World) (hE1 : ∀ w', Fr F w w' → Er e w' 0) (hE2 : ∀ w', Fr F w w' → Er e w' 1) (hE3 : ∀ w', Fr F w w' → Er e w' 2) (hE4 : ∀ w', Fr F w w' → Er e w' 5) (hB : ∀ w', Fr F w w' → Has (sl 1 A l.length (nats .u8 l)) w') (h8 : ∀ t ∈ l, t < 256) (hw : St F w [chipA g x] w) : SpecP Tryd.prog 14 [.pointer (some ⟨g, 0, none⟩), .agg #[.int .i64 b, .int .i64 p], .slice A l.length c] F w (X := ChG) (fun _ => evE e (x.abs.pr b p l).1) (fun z => z.abs = (x.abs.pr b p l).2 ∧ z.watch = x.watch) (fun z => [chipA g z]) := by
  refine spec_ofC Tryd.func14 rfl Tryd.ntmps14 rfl hw ?_
  refine CW.seq ?_
  refine CW.reg [0, 1] rfl ?_
  refine s_box 4 rfl rfl (fun _ _ => trivial) (fun b4 => ?_)
  refine s_as 6 rfl rfl ?_
  refine SX.next ?_
  refine CW.seq ?_
  refine CW.reg [0, 1, 2, 3] rfl ?_
  refine s_mv 22 rfl rfl ?_
  refine s_ldW 23 0 rfl rfl rfl ?_
  refine s_call1 24 rfl rfl rfl rfl (fun w hw => at_spec g x hx b p w (hw.has (i := 1) rfl)) (fun _ _ => trivial) ?_
  refine s_as 7 rfl rfl ?_
  refine SX.next ?_
  refine CW.seq ?_
  refine CW.seq ?_
  refine CW.reg [0, 1, 2, 3, 4, 5, 6, 7, 8, 9, 10, 11] rfl ?_
  refine s_mv 25 rfl rfl ?_
  refine s_mv 26 rfl rfl ?_
  refine s_nePG 27 rfl rfl (atP_some x b p) ?_
  refine s_mv 28 rfl rfl ?_
  refine s_len 29 rfl rfl ?_
  refine s_mv 30 rfl rfl ?_
  refine s_nil 31 rfl rfl ?_
  refine s_fa 32 rfl rfl ?_
  refine s_ld 33 rfl rfl (v := .int .i64 x.size) (fun _ hw => chip_cell (hw.has (i := 1) rfl) rfl) ?_
  refine s_eq 34 rfl rfl rfl rfl ?_
  refine s_call1 35 rfl rfl rfl rfl (fun w hw => ask_spec g x.off _ _ e w (chip_cell (hw.has (i := 1) rfl) rfl) (hE1 _ hw.fr) (hE2 _ hw.fr) (hE3 _ hw.fr)) (fun _ _ => trivial) ?_
  refine s_as 8 rfl rfl ?_
  refine SX.next ?_
  refine CW.seq ?_
  refine CW.reg [0, 1] rfl ?_
  refine s_mv 36 rfl rfl ?_
  refine s_neIG 37 rfl rfl (evE_some e (x.abs.prE b p l.length)) ?_
  refine SX.next ?_
  refine CW.test rfl (fun hz => ?_) (fun hz => ?_)
  · skip
    refine CW.seq ?_
    refine CW.reg [0, 1] rfl ?_
    refine s_mv 38 rfl rfl ?_
    refine s_as 6 rfl rfl ?_
    refine SX.next ?_
    refine CW.ret ?_
    exact KN.ret (rs := [.tmp 6]) Tryd.results14 rfl (fun w hw => ⟨x, by rw [pr_err hz]; rfl, by rw [pr_err hz]; exact ⟨rfl, rfl⟩, hw.pick [1] rfl⟩)
  · skip
    have hz0 := Decidable.of_not_not hz
    obtain ⟨hoff, hin, hln⟩ := prE_zero hz0
    replace hln : (l.length : Int) = x.size := hln
    obtain ⟨i, k, bk, pg, hbi, hpk, hbk, hpg, hbe⟩ := inn_at hx hin
    have hat := atP_in hin hbe hpk
    obtain ⟨hba, hpa⟩ := pg_abs hbi hpk hbk hpg
    have hil := (List.getElem?_eq_some_iff.1 hbk).1
    have hkl := (List.getElem?_eq_some_iff.1 hpg).1
    have hbm := List.mem_of_getElem? hbk
    have hpm := List.mem_of_getElem? hpg
    obtain ⟨ho1, ho2, ho3, ho4⟩ := pg_ok hx hbk hpg
    have hz1 : x.size ≤ 4096 := hx.z1
    have hbpl := bk_pgs hx hbk
    have hp1 : x.pages ≤ 64 := hx.p1
    have hz0s : 1 ≤ x.size := hx.z0
    have hhl := hits_len hx
    rw [hat]
    refine CW.skip ?_
    refine KN.code ?_
    refine CW.cut (G := Unit) (fun _ => [(0, .pointer (some ⟨g, 0, none⟩)), (2, .slice A l.length c), (4, .pointer (some ⟨b4, 0, none⟩)), (7, .pointer (some ⟨ob bk.A, 0 + k * 3, none⟩))]) (fun _ => St F w [blk b4 31 #[.int .i64 b, .int .i64 p], chipA g (x.hurt b p)]) (fun _ => True) ?_ ?_
    · skip
      refine CW.seq ?_
      refine CW.regD (.st true 0 (.st true 1 (.st true 2 (.st true 3 (.st true 4 (.st true 5 (.st true 6 (.st true 7 (.st true 8 (.st true 9 (.st true 10 .done))))))))))) (St F w [blk b4 31 #[.int .i64 b, .int .i64 p], chipA g x]) mixed (by kernel_rfl) (fun _ h => h.drew) (fun _ h => h) ?_
      refine s_mv 39 rfl rfl ?_
      refine s_nil 40 rfl rfl ?_
      refine s_fa 41 rfl rfl ?_
      refine s_ldS 42 rfl rfl (v := .slice x.A x.blocks.length x.c) (fun _ hw => chip_cell (hw.has (i := 1) rfl) rfl) ?_
      refine s_fa 43 rfl rfl ?_
      refine s_ldS 44 rfl rfl (v := .int .i64 b) (fun _ hw => hw.blkCell (i := 0) rfl rfl) ?_
      refine s_iaV 45 i (fun w hw => chip_bks (hw.has (i := 1) rfl)) rfl rfl rfl hbi hil ?_
      refine s_fa 46 rfl rfl ?_
      refine s_ldS 47 rfl rfl (v := .slice bk.A bk.pages.length bk.c) (fun _ hw => (chip_bks (hw.has (i := 1) rfl)).rowAt bkRow_len hbk (by omega) 0 _ rfl) ?_
      refine s_len 48 rfl rfl ?_
      refine s_mv 49 rfl rfl ?_
      refine SX.next ?_
      refine CW.block ?_
      refine CW.loop (G := Nat) (fun j => [(0, .pointer (some ⟨g, 0, none⟩)), (2, .slice A l.length c), (4, .pointer (some ⟨b4, 0, none⟩)), (7, .pointer (some ⟨ob bk.A, 0 + k * 3, none⟩)), (47, .slice bk.A bk.pages.length bk.c), (48, .int .i64 (bk.pages.length : Nat)), (49, .int .i64 (j : Nat))]) (fun _ => St F w [blk b4 31 #[.int .i64 b, .int .i64 p], chipA g x]) (fun j => j ≤ bk.pages.length ∧ ∀ j' q, j' < j → bk.abs.pages[j']? = some q → badAt p j' q = false) (fun j => bk.pages.length - j) 0 ⟨rfl, rfl, rfl, rfl, rfl, rfl, rfl, trivial⟩ (fun _ h => h) ⟨Nat.zero_le _, fun j q h => by omega⟩ ?_
      rintro j ⟨hj, hno⟩
      refine CW.seq ?_
      refine CW.reg [0] rfl ?_
      refine s_lt 50 rfl rfl rfl rfl ?_
      refine SX.next ?_
      refine CW.seq ?_
      refine CW.test rfl (fun hc => ?_) (fun hc => ?_)
      · skip
        have hjl : j < bk.pages.length := by omega
        obtain ⟨pj, hpj⟩ : ∃ pj, bk.pages[j]? = some pj := ⟨_, List.getElem?_eq_getElem hjl⟩
        have hpj2 : bk.abs.pages[j]? = some pj.abs := by unfold BkG.abs; rw [List.getElem?_map, hpj]; rfl
        refine CW.skip ?_
        refine KN.code ?_
        refine CW.seq ?_
        refine CW.block ?_
        refine CW.seq ?_
        refine CW.reg [0, 1, 2, 3, 4, 5] rfl ?_
        refine s_mv 51 rfl rfl ?_
        refine s_iaV 52 j (fun w hw => bk_rows (chip_bk (hw.has (i := 1) rfl) hbm)) rfl rfl rfl rfl hjl ?_
        refine s_ldR 53 (cs := pj.row) rfl rfl rfl (fun w hw => (bk_rows (chip_bk (hw.has (i := 1) rfl) hbm)).rowAt pgRow_len hpj (by omega)) ?_
        refine s_alloc 10 rfl (fun _ _ => trivial) (fun b10 => ?_)
        refine s_as 9 rfl rfl ?_
        refine s_stAll 0 rfl rfl (by kernel_rfl) rfl rfl rfl rfl (fun _ _ => trivial) ?_
        refine SX.next ?_
        refine CW.seq ?_
        by_cases hjp : ((j : Nat) : Int) < p
        · skip
          refine CW.reg [0, 1, 2, 3, 4, 5, 6, 7, 8, 9, 10, 11, 12, 13, 14, 15, 16, 17, 18] rfl ?_
          refine s_mv 54 rfl rfl ?_
          refine s_fa 55 rfl rfl ?_
          refine s_ld 56 rfl rfl (v := .int .i64 p) (fun _ hw => hw.blkCell (i := 1) (j := 1) rfl rfl) ?_
          refine s_lt 57 rfl rfl rfl (decide_eq_true (by omega)) ?_
          refine s_mv 58 rfl rfl ?_
          refine s_fa 59 rfl rfl ?_
          refine s_ld 60 rfl rfl (v := .bool pj.used) (fun _ hw => hw.blkCell (i := 0) (j := 2) rfl rfl) ?_
          refine s_not 61 rfl rfl ?_
          refine s_pickT 62 rfl rfl rfl ?_
          refine s_mv 63 rfl rfl ?_
          refine SX.bool 63 rfl (fun hb => ?_) (fun hb => ?_)
          · skip
            have hbd := bad_lt (q := pj.abs) hjp (show pj.used = false by simpa using hb)
            refine SX.skip rfl ?_
            refine SX.skip rfl ?_
            refine SX.skip rfl ?_
            refine SX.skip rfl ?_
            refine SX.skip rfl ?_
            refine SX.skipU rfl ?_
            refine SX.skipU rfl ?_
            refine SX.skip rfl ?_
            refine s_pickT 72 rfl rfl rfl ?_
            refine SX.next ?_
            refine CW.condT rfl ?_
            refine CW.seq ?_
            refine CW.pre (fun _ h => (h.pick [2, 0, 0] rfl).chipO) ?_
            refine CW.reg [0, 1, 2, 3, 4, 5, 6, 7] rfl ?_
            refine s_mv 73 rfl rfl ?_
            refine s_nil 74 rfl rfl ?_
            refine s_fa 75 rfl rfl ?_
            refine s_ldB 76 0 rfl rfl rfl (v := .int .i64 x.broken) rfl ?_
            refine s_add 77 rfl rfl rfl (r := if wrongAt (x.abs.bk b).pages p = true then wr (x.broken + 1) else x.broken) (by rw [if_pos (by rw [hba]; exact wrongAt_yes hpj2 hbd)]; rfl) ?_
            refine s_nil 78 rfl rfl ?_
            refine s_fa 79 rfl rfl ?_
            refine s_stB 0 rfl rfl rfl rfl rfl (by show 6 < 9; decide) (fun _ _ => trivial) ?_
            refine SX.next ?_
            refine CW.exit rfl ?_
            exact KN.join () ⟨rfl, rfl, rfl, rfl, trivial⟩ (fun _ h => by
              have h1 := (h.pick [0, 0, 0, 0, 0, 1] rfl).chipC (x := x.hurt b p)
              exact h1.pick [1, 0] rfl) trivial
          · skip
            have hnb := nobad_lt (q := pj.abs) hjp (show pj.used = true by simpa using hb)
            refine s_mv 64 rfl rfl ?_
            refine s_fa 65 rfl rfl ?_
            refine s_ld 66 rfl rfl (v := .int .i64 p) (fun _ hw => hw.blkCell (i := 1) (j := 1) rfl rfl) ?_
            refine s_ge 67 rfl rfl rfl (decide_eq_false (by omega)) ?_
            refine s_mv 68 rfl rfl ?_
            refine SX.skip rfl ?_
            refine SX.skip rfl ?_
            refine s_pickF 71 rfl rfl rfl ?_
            refine s_pickF 72 rfl rfl rfl ?_
            refine SX.next ?_
            refine CW.condF rfl ?_
            refine CW.skip ?_
            refine KN.blk ?_
            refine KN.code ?_
            refine CW.reg [0, 1] rfl ?_
            refine s_add 80 rfl rfl rfl (r := ((j + 1 : Nat) : Int)) (w64 (by omega)) ?_
            refine s_mv 49 rfl rfl ?_
            refine SX.end_ ?_
            exact KN.back (j + 1) ⟨rfl, rfl, rfl, rfl, rfl, rfl, rfl, trivial⟩ (fun _ h => h.pick [1, 1] rfl) ⟨by omega, fun j' q hj' hq => by
  by_cases hjj : j' = j
  · subst hjj
    rw [hpj2] at hq
    obtain rfl := Option.some.inj hq
    exact hnb
  · exact hno j' q (by omega) hq⟩ (by omega)
        · skip
          refine CW.reg [0, 1, 2, 3, 4, 5, 6, 7, 8, 9, 10, 11, 12, 13, 14, 15, 16, 17, 18] rfl ?_
          refine s_mv 54 rfl rfl ?_
          refine s_fa 55 rfl rfl ?_
          refine s_ld 56 rfl rfl (v := .int .i64 p) (fun _ hw => hw.blkCell (i := 1) (j := 1) rfl rfl) ?_
          refine s_lt 57 rfl rfl rfl (decide_eq_false (by omega)) ?_
          refine s_mv 58 rfl rfl ?_
          refine SX.skip rfl ?_
          refine SX.skip rfl ?_
          refine SX.skip rfl ?_
          refine s_pickF 62 rfl rfl rfl ?_
          refine s_mv 63 rfl rfl ?_
          refine s_mv 64 rfl rfl ?_
          refine s_fa 65 rfl rfl ?_
          refine s_ld 66 rfl rfl (v := .int .i64 p) (fun _ hw => hw.blkCell (i := 1) (j := 1) rfl rfl) ?_
          refine s_ge 67 rfl rfl rfl (decide_eq_true (by omega)) ?_
          refine s_mv 68 rfl rfl ?_
          refine s_fa 69 rfl rfl ?_
          refine s_ld 70 rfl rfl (v := .bool pj.used) (fun _ hw => hw.blkCell (i := 0) (j := 2) rfl rfl) ?_
          refine s_pickT 71 rfl rfl rfl ?_
          refine s_pickF 72 rfl rfl rfl ?_
          refine SX.next ?_
          refine CW.cond rfl (fun hu => ?_) (fun hu => ?_)
          · skip
            have hbd := bad_ge (q := pj.abs) hjp hu
            refine CW.seq ?_
            refine CW.pre (fun _ h => (h.pick [2, 0, 0] rfl).chipO) ?_
            refine CW.reg [0, 1, 2, 3, 4, 5, 6, 7] rfl ?_
            refine s_mv 73 rfl rfl ?_
            refine s_nil 74 rfl rfl ?_
            refine s_fa 75 rfl rfl ?_
            refine s_ldB 76 0 rfl rfl rfl (v := .int .i64 x.broken) rfl ?_
            refine s_add 77 rfl rfl rfl (r := if wrongAt (x.abs.bk b).pages p = true then wr (x.broken + 1) else x.broken) (by rw [if_pos (by rw [hba]; exact wrongAt_yes hpj2 hbd)]; rfl) ?_
            refine s_nil 78 rfl rfl ?_
            refine s_fa 79 rfl rfl ?_
            refine s_stB 0 rfl rfl rfl rfl rfl (by show 6 < 9; decide) (fun _ _ => trivial) ?_
            refine SX.next ?_
            refine CW.exit rfl ?_
            exact KN.join () ⟨rfl, rfl, rfl, rfl, trivial⟩ (fun _ h => by
              have h1 := (h.pick [0, 0, 0, 0, 0, 1] rfl).chipC (x := x.hurt b p)
              exact h1.pick [1, 0] rfl) trivial
          · skip
            have hnb := nobad_ge (q := pj.abs) hjp hu
            refine CW.skip ?_
            refine KN.blk ?_
            refine KN.code ?_
            refine CW.reg [0, 1] rfl ?_
            refine s_add 80 rfl rfl rfl (r := ((j + 1 : Nat) : Int)) (w64 (by omega)) ?_
            refine s_mv 49 rfl rfl ?_
            refine SX.end_ ?_
            exact KN.back (j + 1) ⟨rfl, rfl, rfl, rfl, rfl, rfl, rfl, trivial⟩ (fun _ h => h.pick [1, 1] rfl) ⟨by omega, fun j' q hj' hq => by
  by_cases hjj : j' = j
  · subst hjj
    rw [hpj2] at hq
    obtain rfl := Option.some.inj hq
    exact hnb
  · exact hno j' q (by omega) hq⟩ (by omega)
      · skip
        obtain rfl : j = bk.pages.length := by omega
        refine CW.exit rfl ?_
        exact KN.join () ⟨rfl, rfl, rfl, rfl, trivial⟩ (fun _ h => by
          have hwr : wrongAt (x.abs.bk b).pages p = false := by
            rw [hba]
            exact wrongAt_no (fun j q hq => hno j q (by have := (List.getElem?_eq_some_iff.1 hq).1; unfold BkG.abs at this; simpa using this) hq)
          have e : x.hurt b p = x := by unfold ChG.hurt; rw [hwr]; rfl
          rw [e]
          exact h) trivial
    · skip
      intro _ _
      refine CW.seq ?_
      refine CW.reg [0, 1, 2] rfl ?_
      refine s_mv 81 rfl rfl ?_
      refine s_callP 82 [1, 0] (M := [chipA g (x.hurt b p)]) (R := [blk b4 31 #[.int .i64 b, .int .i64 p]]) (X := Option Addr × Nat) (v := fun z => .slice z.1 x.hitsG.length z.2) (pf := fun z => x.hitsG.length ≤ z.2) (M' := fun z => [own 48 5 z.1 x.hitsG.length z.2 (x.hitsG.flatMap FtG.row), chipA g (x.hurt b p).tick]) rfl rfl rfl rfl rfl (fun F' w' hR hM => count_spec F' g (x.hurt b p) (hurt_abs_ok hx b p) w' hM) (fun _ _ _ => trivial) (fun z hz9 => ?_)
      refine s_as 11 rfl rfl ?_
      refine SX.next ?_
      refine CW.seq ?_
      refine CW.reg [0, 1, 2] rfl ?_
      refine s_mv 83 rfl rfl ?_
      refine s_call 84 rfl rfl rfl rfl (fun w2 hw => cloneB_spec A l.length c l w2 (hB _ hw.fr) (by omega)) (fun _ _ => trivial) (fun zo hzo => ?_)
      refine s_as 12 rfl rfl ?_
      refine SX.next ?_
      refine CW.seq ?_
      refine CW.seq ?_
      refine CW.reg [0, 1, 2] rfl ?_
      refine s_mv 85 rfl rfl ?_
      refine s_len 86 rfl rfl ?_
      refine s_mv 87 rfl rfl ?_
      refine SX.next ?_
      refine CW.block ?_
      refine CW.loop (G := Nat) (fun j => [(0, .pointer (some ⟨g, 0, none⟩)), (2, .slice A l.length c), (4, .pointer (some ⟨b4, 0, none⟩)), (7, .pointer (some ⟨ob bk.A, 0 + k * 3, none⟩)), (11, .slice z.1 x.hitsG.length z.2), (12, .slice zo.1 l.length zo.2), (85, .slice z.1 x.hitsG.length z.2), (86, .int .i64 (x.hitsG.length : Nat)), (87, .int .i64 (j : Nat))]) (fun j => St F w [own 5 1 zo.1 l.length zo.2 (nats .u8 (spoilsG (x.hitsG.take j) l)), own 48 5 z.1 x.hitsG.length z.2 (x.hitsG.flatMap FtG.row), chipA g (x.hurt b p).tick, blk b4 31 #[.int .i64 b, .int .i64 p]]) (fun j => j ≤ x.hitsG.length) (fun j => x.hitsG.length - j) 0 ⟨rfl, rfl, rfl, rfl, rfl, rfl, rfl, rfl, rfl, trivial⟩ (fun _ h => h.pick [0, 0, 0, 0] rfl) (Nat.zero_le _) ?_
      intro j hj
      refine CW.seq ?_
      refine CW.reg [0] rfl ?_
      refine s_lt 88 rfl rfl rfl rfl ?_
      refine SX.next ?_
      refine CW.seq ?_
      refine CW.test rfl (fun hc => ?_) (fun hc => ?_)
      · skip
        have hjl : j < x.hitsG.length := by omega
        have hg := gF_at hjl
        have hgm := hits_mem (gF_mem hjl)
        have hnx := spoilsG_take (b := l) hjl
        obtain ⟨hfl, hf8⟩ := spoilsG_ok (x.hitsG.take j) l
        have hf82 := hf8 h8
        have hfb := ft_bits hx hgm
        refine CW.skip ?_
        refine KN.code ?_
        refine CW.seq ?_
        refine CW.block ?_
        refine CW.seq ?_
        refine CW.reg [0, 1, 2, 3] rfl ?_
        refine s_iaV 89 j (fun w hw => (hw.has (i := 1) rfl).of_own) rfl rfl rfl rfl hjl ?_
        refine s_ldR 90 (cs := (gF x.hitsG j).row) rfl rfl rfl (fun w hw => ((hw.has (i := 1) rfl).of_own).rowAt ftRow_len hg (by omega)) ?_
        refine s_alloc 14 rfl (fun _ _ => trivial) (fun b14 => ?_)
        refine s_stAll 0 rfl rfl (by kernel_rfl) rfl rfl rfl rfl (fun _ _ => trivial) ?_
        refine SX.next ?_
        refine CW.seq ?_
        refine CW.reg [0, 1, 2] rfl ?_
        refine s_fa 91 rfl rfl ?_
        refine s_ld 92 rfl rfl (v := .int .i64 (gF x.hitsG j).kind) (fun _ hw => hw.blkCell (i := 0) (j := 1) rfl rfl) ?_
        refine s_eq 93 rfl rfl rfl rfl ?_
        refine SX.next ?_
        refine CW.test rfl (fun hk4 => ?_) (fun hk4 => ?_)
        · skip
          have hyes : spoil1 (spoilsG (x.hitsG.take j) l) (gF x.hitsG j) = turnL (spoilsG (x.hitsG.take j) l) (gF x.hitsG j).bits := by
            unfold spoil1
            rw [if_pos hk4]
          refine CW.reg [0, 1, 2, 3] rfl ?_
          refine s_mv 94 rfl rfl ?_
          refine s_fa 95 rfl rfl ?_
          refine s_ld 96 rfl rfl (v := .slice (gF x.hitsG j).A (gF x.hitsG j).bits.length (gF x.hitsG j).c) (fun _ hw => hw.blkCell (i := 0) (j := 4) rfl rfl) ?_
          refine s_callP 97 [1, 0, 0, 0, 0] (M := [own 5 1 zo.1 l.length zo.2 (nats .u8 (spoilsG (x.hitsG.take j) l))]) (R := [blk b14 48 #[.int .i64 (gF x.hitsG j).op, .int .i64 (gF x.hitsG j).kind, .int .i64 (gF x.hitsG j).level, .int .i64 (gF x.hitsG j).n, .slice (gF x.hitsG j).A (gF x.hitsG j).bits.length (gF x.hitsG j).c], own 48 5 z.1 x.hitsG.length z.2 (x.hitsG.flatMap FtG.row), chipA g (x.hurt b p).tick, blk b4 31 #[.int .i64 b, .int .i64 p]]) (X := Unit) (v := fun _ => oneOf []) (pf := fun _ => True) (M' := fun _ => [own 5 1 zo.1 l.length zo.2 (nats .u8 (turnL (spoilsG (x.hitsG.take j) l) (gF x.hitsG j).bits))]) rfl rfl rfl rfl rfl (fun F' w' hR hM => by have := turn_spec F' zo.1 zo.2 (spoilsG (x.hitsG.take j) l) (gF x.hitsG j).A (gF x.hitsG j).c (gF x.hitsG j).bits w' hf82 (by rw [hfl]; omega) (fun w2 hf => chip_ft (x := (x.hurt b p).tick) ((hR w2 hf).has (i := 2) rfl) hgm) hfb (by rw [hfl]; exact hM); rw [hfl] at this; exact this) (fun _ _ _ => trivial) (fun _ _ => ?_)
          refine SX.end_ ?_
          refine KN.blk ?_
          refine KN.code ?_
          refine CW.reg [0, 1] rfl ?_
          refine s_add 98 rfl rfl rfl (r := ((j + 1 : Nat) : Int)) (w64 (by omega)) ?_
          refine s_mv 87 rfl rfl ?_
          refine SX.end_ ?_
          exact KN.back (j + 1) ⟨rfl, rfl, rfl, rfl, rfl, rfl, rfl, rfl, rfl, trivial⟩ (fun _ h => by rw [hnx, hyes]; exact h.pick [0, 1, 1, 1] rfl) (by omega) (by omega)
        · skip
          have hno4 : spoil1 (spoilsG (x.hitsG.take j) l) (gF x.hitsG j) = spoilsG (x.hitsG.take j) l := by
            unfold spoil1
            rw [if_neg hk4]
          refine CW.skip ?_
          refine KN.blk ?_
          refine KN.code ?_
          refine CW.reg [0, 1] rfl ?_
          refine s_add 98 rfl rfl rfl (r := ((j + 1 : Nat) : Int)) (w64 (by omega)) ?_
          refine s_mv 87 rfl rfl ?_
          refine SX.end_ ?_
          exact KN.back (j + 1) ⟨rfl, rfl, rfl, rfl, rfl, rfl, rfl, rfl, rfl, trivial⟩ (fun _ h => by rw [hnx, hno4]; exact h.pick [1, 1, 1, 1] rfl) (by omega) (by omega)
      · skip
        obtain rfl : j = x.hitsG.length := by omega
        rw [List.take_length]
        obtain ⟨hfl, hf8⟩ := spoilsG_ok x.hitsG l
        have hf82 := hf8 h8
        refine CW.exit rfl ?_
        refine KN.code ?_
        refine CW.seq ?_
        refine CW.reg [0, 1, 2, 3, 4, 5] rfl ?_
        refine s_mv 99 rfl rfl ?_
        refine s_nil 100 rfl rfl ?_
        refine s_fa 101 rfl rfl ?_
        refine s_ld 102 rfl rfl (v := .int .i64 x.size) (fun _ hw => chip_cell (x := (x.hurt b p).tick) (hw.has (i := 2) rfl) rfl) ?_
        refine s_as 15 rfl rfl ?_
        refine s_as 16 rfl rfl ?_
        refine SX.next ?_
        refine CW.cut (G := Unit) (fun _ => [(0, .pointer (some ⟨g, 0, none⟩)), (2, .slice A l.length c), (4, .pointer (some ⟨b4, 0, none⟩)), (7, .pointer (some ⟨ob bk.A, 0 + k * 3, none⟩)), (12, .slice zo.1 l.length zo.2), (15, .int .i64 (layN x.abs.hits x.size).1), (16, evE e (layN x.abs.hits x.size).2)]) (fun _ => St F w [own 5 1 zo.1 l.length zo.2 (nats .u8 (spoilsG x.hitsG l)), chipA g { (x.hurt b p).tick with off := (findG x.hitsG 3).isSome }]) (fun _ => True) ?_ ?_
        · skip
          refine CW.seq ?_
          refine CW.reg [0, 1, 2, 3, 4, 5, 6, 7] rfl ?_
          refine s_mv 104 rfl rfl ?_
          refine s_call1 105 rfl rfl rfl rfl (fun w hw => find_spec z.1 z.2 x.hitsG 3 w ((hw.has (i := 1) rfl).of_own) hhl) (fun _ _ => trivial) ?_
          refine s_mv 103 rfl rfl ?_
          refine s_ext 106 rfl rfl rfl ?_
          refine s_ext 107 rfl rfl rfl ?_
          refine s_alloc 17 rfl (fun _ _ => trivial) (fun b17 => ?_)
          refine s_stAll 0 rfl rfl (by kernel_rfl) rfl rfl rfl rfl (fun _ _ => trivial) ?_
          refine s_as 18 rfl rfl ?_
          refine SX.next ?_
          refine CW.seq ?_
          refine CW.reg [0] rfl ?_
          refine s_mv 108 rfl rfl ?_
          refine SX.next ?_
          refine CW.cond rfl (fun hct => ?_) (fun hct => ?_)
          · skip
            obtain ⟨f, hf⟩ := Option.isSome_iff_exists.1 hct
            have hly := layN_cut hf x.size
            refine CW.pre (fun _ h => (h.pick [3, 0, 0, 0, 0] rfl).chipO) ?_
            refine CW.regD (.st true 0 (.st true 1 (.st true 2 (.st true 3 (.st true 4 (.st true 5 (.st true 6 (.st true 7 (.st false 8 .done))))))))) (St F w [blk b17 48 (findG x.hitsG 3 |>.getD FtG.nul).row.toArray]) mixed (by kernel_rfl) (fun _ h => h.drew) (fun _ h => h.pick [5] rfl) ?_
            refine s_mv 109 rfl rfl ?_
            refine s_fa 110 rfl rfl ?_
            refine s_ldS 111 rfl rfl (v := .int .i64 f.n) (fun _ hw => hw.blkCell (i := 0) (j := 3) rfl (by rw [hf]; rfl)) ?_
            refine s_ldS 112 rfl rfl (fun _ h => hE1 _ h.fr) ?_
            refine s_as 15 rfl rfl ?_
            refine s_as 16 rfl rfl ?_
            refine s_nil 113 rfl rfl ?_
            refine s_fa 114 rfl rfl ?_
            refine s_stB 0 rfl rfl rfl rfl rfl (by show 7 < 9; decide) (fun _ h => h.pick [5] rfl) ?_
            refine SX.end_ ?_
            exact KN.join () ⟨rfl, rfl, rfl, rfl, rfl, by rw [hly]; rfl, by rw [hly]; rfl, trivial⟩ (fun _ h => by
              have h1 := (h.pick [0, 0, 0, 0, 0, 1] rfl).chipC (x := { (x.hurt b p).tick with off := true })
              rw [hct]
              exact h1.pick [1, 0] rfl) trivial
          · skip
            have hf3 : findG x.hitsG 3 = none := by
              cases hh : findG x.hitsG 3 with
              | none => rfl
              | some f => rw [hh] at hct; cases hct
            refine CW.seq ?_
            refine CW.reg [0, 1, 2, 3, 4, 5, 6, 7] rfl ?_
            refine s_mv 116 rfl rfl ?_
            refine s_call1 117 rfl rfl rfl rfl (fun w hw => find_spec z.1 z.2 x.hitsG 2 w ((hw.has (i := 2) rfl).of_own) hhl) (fun _ _ => trivial) ?_
            refine s_mv 115 rfl rfl ?_
            refine s_ext 118 rfl rfl rfl ?_
            refine s_ext 119 rfl rfl rfl ?_
            refine s_alloc 19 rfl (fun _ _ => trivial) (fun b19 => ?_)
            refine s_stAll 0 rfl rfl (by kernel_rfl) rfl rfl rfl rfl (fun _ _ => trivial) ?_
            refine s_as 20 rfl rfl ?_
            refine SX.next ?_
            refine CW.seq ?_
            refine CW.reg [0] rfl ?_
            refine s_mv 120 rfl rfl ?_
            refine SX.next ?_
            refine CW.cond rfl (fun hfl2 => ?_) (fun hfl2 => ?_)
            · skip
              obtain ⟨f, hf⟩ := Option.isSome_iff_exists.1 hfl2
              have hly := layN_fail hf3 hf x.size
              refine CW.regD (.st true 0 (.st true 1 (.st true 2 (.st true 3 (.st true 4 .done))))) (St F w [blk b19 48 (findG x.hitsG 2 |>.getD FtG.nul).row.toArray]) mixed (by kernel_rfl) (fun _ h => h.drew) (fun _ h => h.pick [0] rfl) ?_
              refine s_fa 121 rfl rfl ?_
              refine s_ldS 122 rfl rfl (v := .int .i64 f.n) (fun _ hw => hw.blkCell (i := 0) (j := 3) rfl (by rw [hf]; rfl)) ?_
              refine s_ldS 123 rfl rfl (fun _ h => hE4 _ h.fr) ?_
              refine s_as 15 rfl rfl ?_
              refine s_as 16 rfl rfl ?_
              refine SX.end_ ?_
              exact KN.join () ⟨rfl, rfl, rfl, rfl, rfl, by rw [hly]; rfl, by rw [hly]; rfl, trivial⟩ (fun _ h => by
                have h1 := h.pick [2, 3] rfl
                have e : ({ (x.hurt b p).tick with off := (findG x.hitsG 3).isSome } : ChG) = (x.hurt b p).tick := by
                  rw [hct]
                  have ho : (x.hurt b p).tick.off = false := hoff
                  rw [← ho]
                rw [e]
                exact h1) trivial
            · skip
              have hf2 : findG x.hitsG 2 = none := by
                cases hh : findG x.hitsG 2 with
                | none => rfl
                | some f => rw [hh] at hfl2; cases hfl2
              have hly := layN_all hf3 hf2 x.size
              refine CW.skip ?_
              exact KN.join () ⟨rfl, rfl, rfl, rfl, rfl, by rw [hly]; rfl, by rw [hly]; rfl, trivial⟩ (fun _ h => by
                have h1 := h.pick [2, 3] rfl
                have e : ({ (x.hurt b p).tick with off := (findG x.hitsG 3).isSome } : ChG) = (x.hurt b p).tick := by
                  rw [hct]
                  have ho : (x.hurt b p).tick.off = false := hoff
                  rw [← ho]
                rw [e]
                exact h1) trivial
        · skip
          intro _ _
          refine CW.seq ?_
          refine CW.seq ?_
          have hcle : (((clampN (layN x.abs.hits x.size).1 x.size) : Nat) : Int) ≤ max x.size 0 := clampN_le
          have hall : pg.l.length ≤ (spoilsG x.hitsG l).length := by rw [hfl]; omega
          refine CW.reg [0, 1, 2, 3, 4, 5, 6, 7] rfl ?_
          refine s_mv 124 rfl rfl ?_
          refine s_max 125 rfl rfl rfl (r := (if (0 : Int) > (layN x.abs.hits x.size).1 then 0 else (layN x.abs.hits x.size).1)) rfl ?_
          refine s_mv 126 rfl rfl ?_
          refine s_nil 127 rfl rfl ?_
          refine s_fa 128 rfl rfl ?_
          refine s_ld 129 rfl rfl (v := .int .i64 x.size) (fun _ hw => chip_cell (x := { (x.hurt b p).tick with off := (findG x.hitsG 3).isSome }) (hw.has (i := 1) rfl) rfl) ?_
          refine s_min 130 rfl rfl rfl (r := (((clampN (layN x.abs.hits x.size).1 x.size) : Nat) : Int)) (clampN_eq (by omega)) ?_
          refine SX.pre (C' := St F w [pg.own1, pg.own2, bk.rows, starA ((bk.pages.map PgG.dat).eraseIdx k), starA ((x.blocks.map BkG.dat).eraseIdx i), ({ (x.hurt b p).tick with off := (findG x.hitsG 3).isSome } : ChG).hd g, ({ (x.hurt b p).tick with off := (findG x.hitsG 3).isSome } : ChG).bks, ({ (x.hurt b p).tick with off := (findG x.hitsG 3).isSome } : ChG).fts, ({ (x.hurt b p).tick with off := (findG x.hitsG 3).isSome } : ChG).fst, own 5 1 zo.1 l.length zo.2 (nats .u8 (spoilsG x.hitsG l))]) (fun _ h => by
            have h0 := (h.pick [1, 0] rfl).chipO
            have h1 := h0.pick [2, 0, 0, 0, 0, 0] rfl
            exact h1.pageO hbk hpg) ?_
          refine s_mv 131 rfl rfl ?_
          refine SX.next ?_
          refine CW.block ?_
          refine CW.loop (G := Nat) (fun j => [(0, .pointer (some ⟨g, 0, none⟩)), (2, .slice A l.length c), (4, .pointer (some ⟨b4, 0, none⟩)), (7, .pointer (some ⟨ob bk.A, 0 + k * 3, none⟩)), (12, .slice zo.1 l.length zo.2), (16, evE e (layN x.abs.hits x.size).2), (130, .int .i64 (((clampN (layN x.abs.hits x.size).1 x.size) : Nat) : Int)), (131, .int .i64 (j : Nat))]) (fun j => St F w [own 5 1 pg.A pg.l.length pg.c (nats .u8 (andTo j pg.l (spoilsG x.hitsG l))), pg.own2, bk.rows, starA ((bk.pages.map PgG.dat).eraseIdx k), starA ((x.blocks.map BkG.dat).eraseIdx i), ({ (x.hurt b p).tick with off := (findG x.hitsG 3).isSome } : ChG).hd g, ({ (x.hurt b p).tick with off := (findG x.hitsG 3).isSome } : ChG).bks, ({ (x.hurt b p).tick with off := (findG x.hitsG 3).isSome } : ChG).fts, ({ (x.hurt b p).tick with off := (findG x.hitsG 3).isSome } : ChG).fst, own 5 1 zo.1 l.length zo.2 (nats .u8 (spoilsG x.hitsG l))]) (fun j => j ≤ (clampN (layN x.abs.hits x.size).1 x.size)) (fun j => (clampN (layN x.abs.hits x.size).1 x.size) - j) 0 ⟨rfl, rfl, rfl, rfl, rfl, rfl, rfl, rfl, trivial⟩ (fun _ h => by rw [andTo_zero]; exact h) (Nat.zero_le _) ?_
          intro j hj
          have hal := andTo_len (m := j) hall
          refine CW.seq ?_
          refine CW.reg [0] rfl ?_
          refine s_lt 132 rfl rfl rfl rfl ?_
          refine SX.next ?_
          refine CW.seq ?_
          refine CW.test rfl (fun hc => ?_) (fun hc => ?_)
          · skip
            have hjl : j < (clampN (layN x.abs.hits x.size).1 x.size) := by omega
            have hjs : j < pg.l.length := by omega
            have hnx := andTo_next (m := j) hall hjs
            have ha8 := andTo_lt (m := j) hall ho2
            refine CW.skip ?_
            refine KN.code ?_
            refine CW.seq ?_
            refine CW.block ?_
            refine CW.seq ?_
            refine CW.reg [0, 1] rfl ?_
            refine s_mv 133 rfl rfl ?_
            refine s_as 21 rfl rfl ?_
            refine SX.next ?_
            refine CW.regD (.st true 0 (.st true 1 (.st true 2 (.st true 3 (.st true 4 (.st true 5 (.st true 7 (.st true 8 (.st true 9 (.st true 10 (.st false 6 (.st true 11 (.st true 12 (.st false 13 .done)))))))))))))) (St F w [bk.rows, own 5 1 zo.1 l.length zo.2 (nats .u8 (spoilsG x.hitsG l))]) mixed (by kernel_rfl) (fun _ h => h.drew) (fun _ h => h.pick [2, 8] rfl) ?_
            refine s_mv 134 rfl rfl ?_
            refine s_nil 135 rfl rfl ?_
            refine s_fa 136 rfl rfl ?_
            refine s_ldS 137 rfl rfl (v := .slice pg.A pg.l.length pg.c) (fun _ hw => hw.ownCell (q := 0) (j := k * 3 + 0) rfl (flat_at pgRow_len hpg rfl)) ?_
            refine s_mv 138 rfl rfl ?_
            refine s_iaO 139 0 j rfl rfl rfl rfl rfl hjs ?_
            refine s_mv 141 rfl rfl ?_
            refine s_mv 142 rfl rfl ?_
            refine s_iaO 143 9 j rfl rfl rfl rfl rfl (by omega) ?_
            refine s_ldS 144 rfl rfl (v := .int .u8 ((spoilsG x.hitsG l).getD j 0 : Nat)) (fun _ hw => hw.ownCell (q := 1) (j := j) rfl (natsAt8 (by omega))) ?_
            refine s_ldO 140 0 rfl rfl rfl (natsAt8 (by rw [hal]; exact hjs)) ?_
            refine s_bit 145 rfl rfl rfl rfl (r := (((andTo j pg.l (spoilsG x.hitsG l)).getD j 0 &&& (spoilsG x.hitsG l).getD j 0 : Nat) : Int)) (ibit_and_u8 (getD_lt8 ha8 _) (getD_lt8 hf82 _)) ?_
            refine s_iaO 146 0 j rfl rfl rfl rfl rfl hjs ?_
            refine s_stO 0 rfl rfl rfl rfl rfl hjs (fun _ h => h.pick [2, 8] rfl) ?_
            refine SX.end_ ?_
            refine KN.blk ?_
            refine KN.code ?_
            refine CW.reg [0, 1] rfl ?_
            refine s_add 147 rfl rfl rfl (r := ((j + 1 : Nat) : Int)) (w64 (by omega)) ?_
            refine s_mv 131 rfl rfl ?_
            refine SX.end_ ?_
            exact KN.back (j + 1) ⟨rfl, rfl, rfl, rfl, rfl, rfl, rfl, rfl, trivial⟩ (fun _ h => by rw [hnx, nats8_set]; exact h) (by omega) (by omega)
          · skip
            obtain rfl : j = (clampN (layN x.abs.hits x.size).1 x.size) := by omega
            refine CW.exit rfl ?_
            refine KN.code ?_
            refine CW.seq ?_
            refine CW.reg [0, 1, 2, 3, 4, 5, 6, 7, 8, 9] rfl ?_
            refine s_mv 148 rfl rfl ?_
            refine s_mv 149 rfl rfl ?_
            refine s_mv 150 rfl rfl ?_
            refine s_call 151 rfl rfl rfl rfl (fun w2 hw => cloneB_spec A l.length c l w2 (hB _ hw.fr) (by omega)) (fun _ _ => trivial) (fun zl hzl => ?_)
            refine s_nil 152 rfl rfl ?_
            refine s_fa 153 rfl rfl ?_
            refine s_stOS 3 (j := k * 3 + 2) rfl rfl rfl rfl rfl (by omega) (fun _ _ => trivial) ?_
            refine s_nil 154 rfl rfl ?_
            refine s_fa 155 rfl rfl ?_
            refine s_stOS 3 (j := k * 3 + 1) rfl rfl rfl rfl rfl (by omega) (fun _ _ => trivial) ?_
            refine SX.next ?_
            refine CW.seq ?_
            refine CW.reg [0, 1] rfl ?_
            refine s_mv 156 rfl rfl ?_
            refine s_as 6 rfl rfl ?_
            refine SX.next ?_
            refine CW.ret ?_
            exact KN.ret (rs := [.tmp 6]) Tryd.results14 rfl (fun w_ hw => by
  obtain ⟨q1, q2⟩ := pr_ok (l := l) hz0 hbi hpk hbk hpg pg.A pg.c zl.1 zl.2 (r := (layN x.abs.hits x.size)) rfl
  refine ⟨({ (x.hurt b p).tick with off := (findG x.hitsG 3).isSome, blocks := x.blocks.set i { bk with pages := bk.pages.set k (⟨pg.A, pg.c, andTo (clampN (layN x.abs.hits x.size).1 x.size) pg.l (spoilsG x.hitsG l), zl.1, zl.2, l, true⟩ : PgG) } } : ChG), by rw [q1]; rfl, ⟨q2, rfl⟩, ?_⟩
  have h1 := hw.pick [1, 0, 1, 1, 1, 1, 1, 1, 1] rfl
  have e1 : (((bk.pages.flatMap PgG.row).set (k * 3 + 2) (.bool true)).set (k * 3 + 1) (.slice zl.1 l.length zl.2)) = (bk.pages.set k (⟨pg.A, pg.c, andTo (clampN (layN x.abs.hits x.size).1 x.size) pg.l (spoilsG x.hitsG l), zl.1, zl.2, l, true⟩ : PgG)).flatMap PgG.row := by
    have f1 := flat_set (row := PgG.row) pgRow_len hpg (j := 2) (v := .bool true) (b := { pg with used := true }) (by decide) rfl
    have f2 := flat_set (row := PgG.row) pgRow_len (l := bk.pages.set k { pg with used := true }) (i := k) (a := { pg with used := true }) (b := (⟨pg.A, pg.c, andTo (clampN (layN x.abs.hits x.size).1 x.size) pg.l (spoilsG x.hitsG l), zl.1, zl.2, l, true⟩ : PgG)) (j := 1) (v := .slice zl.1 l.length zl.2) (by rw [List.getElem?_set_self hkl]) (by decide) (by
      show [Value.slice pg.A (andTo (clampN (layN x.abs.hits x.size).1 x.size) pg.l (spoilsG x.hitsG l)).length pg.c, .slice zl.1 l.length zl.2, .bool true] = _
      rw [hal]
      rfl)
    rw [List.set_set] at f2
    rw [f2, f1]
  rw [e1] at h1
  have h2 : St F w [(⟨pg.A, pg.c, andTo (clampN (layN x.abs.hits x.size).1 x.size) pg.l (spoilsG x.hitsG l), zl.1, zl.2, l, true⟩ : PgG).own1, (⟨pg.A, pg.c, andTo (clampN (layN x.abs.hits x.size).1 x.size) pg.l (spoilsG x.hitsG l), zl.1, zl.2, l, true⟩ : PgG).own2, ({ bk with pages := bk.pages.set k (⟨pg.A, pg.c, andTo (clampN (layN x.abs.hits x.size).1 x.size) pg.l (spoilsG x.hitsG l), zl.1, zl.2, l, true⟩ : PgG) } : BkG).rows, starA ((bk.pages.map PgG.dat).eraseIdx k), starA ((x.blocks.map BkG.dat).eraseIdx i), ({ (x.hurt b p).tick with off := (findG x.hitsG 3).isSome } : ChG).hd g, ({ (x.hurt b p).tick with off := (findG x.hitsG 3).isSome } : ChG).bks, ({ (x.hurt b p).tick with off := (findG x.hitsG 3).isSome } : ChG).fts, ({ (x.hurt b p).tick with off := (findG x.hitsG 3).isSome } : ChG).fst] w_ := by
    have e2 : (andTo (clampN (layN x.abs.hits x.size).1 x.size) pg.l (spoilsG x.hitsG l)).length = pg.l.length := hal
    unfold PgG.own1 PgG.own2 BkG.rows
    simp only [e2, List.length_set]
    exact h1
  have h3 := h2.pageI hil hkl
  have h4 : St F w [({ (x.hurt b p).tick with off := (findG x.hitsG 3).isSome, blocks := x.blocks.set i { bk with pages := bk.pages.set k (⟨pg.A, pg.c, andTo (clampN (layN x.abs.hits x.size).1 x.size) pg.l (spoilsG x.hitsG l), zl.1, zl.2, l, true⟩ : PgG) } } : ChG).hd g, ({ (x.hurt b p).tick with off := (findG x.hitsG 3).isSome, blocks := x.blocks.set i { bk with pages := bk.pages.set k (⟨pg.A, pg.c, andTo (clampN (layN x.abs.hits x.size).1 x.size) pg.l (spoilsG x.hitsG l), zl.1, zl.2, l, true⟩ : PgG) } } : ChG).bks, ({ (x.hurt b p).tick with off := (findG x.hitsG 3).isSome, blocks := x.blocks.set i { bk with pages := bk.pages.set k (⟨pg.A, pg.c, andTo (clampN (layN x.abs.hits x.size).1 x.size) pg.l (spoilsG x.hitsG l), zl.1, zl.2, l, true⟩ : PgG) } } : ChG).bst, ({ (x.hurt b p).tick with off := (findG x.hitsG 3).isSome, blocks := x.blocks.set i { bk with pages := bk.pages.set k (⟨pg.A, pg.c, andTo (clampN (layN x.abs.hits x.size).1 x.size) pg.l (spoilsG x.hitsG l), zl.1, zl.2, l, true⟩ : PgG) } } : ChG).fts, ({ (x.hurt b p).tick with off := (findG x.hitsG 3).isSome, blocks := x.blocks.set i { bk with pages := bk.pages.set k (⟨pg.A, pg.c, andTo (clampN (layN x.abs.hits x.size).1 x.size) pg.l (spoilsG x.hitsG l), zl.1, zl.2, l, true⟩ : PgG) } } : ChG).fst] w_ := by
    have e3 : ({ (x.hurt b p).tick with off := (findG x.hitsG 3).isSome, blocks := x.blocks.set i { bk with pages := bk.pages.set k (⟨pg.A, pg.c, andTo (clampN (layN x.abs.hits x.size).1 x.size) pg.l (spoilsG x.hitsG l), zl.1, zl.2, l, true⟩ : PgG) } } : ChG).hd g = ({ (x.hurt b p).tick with off := (findG x.hitsG 3).isSome } : ChG).hd g := by unfold ChG.hd ChG.cells; simp only [List.length_set]; rfl
    have e4 : ({ (x.hurt b p).tick with off := (findG x.hitsG 3).isSome, blocks := x.blocks.set i { bk with pages := bk.pages.set k (⟨pg.A, pg.c, andTo (clampN (layN x.abs.hits x.size).1 x.size) pg.l (spoilsG x.hitsG l), zl.1, zl.2, l, true⟩ : PgG) } } : ChG).bks = ({ (x.hurt b p).tick with off := (findG x.hitsG 3).isSome } : ChG).bks := by
      unfold ChG.bks
      simp only [List.length_set]
      congr 1
      apply List.ext_getElem?
      intro t
      rw [flat_row bkRow_len hil]
      have e5 : ({ bk with pages := bk.pages.set k (⟨pg.A, pg.c, andTo (clampN (layN x.abs.hits x.size).1 x.size) pg.l (spoilsG x.hitsG l), zl.1, zl.2, l, true⟩ : PgG) } : BkG).row = bk.row := by unfold BkG.row; simp only [List.length_set]
      rw [e5, ← flat_row bkRow_len hil bk, List.set_eq_self hbk]
      rfl
    rw [e3, e4]
    exact h3.pick [1, 1, 0, 0, 0] rfl
  exact h4.chipC)
end Go.Proofs.YtcapijdokbkgaaaDoor
end
section
/- A chip: an erase, as lists; chips that are new; nothing at all, many times. No condition. -/
namespace Go.Proofs.YtcapijdokbkgaaaDoor
open Go Go.Sx
set_option maxRecDepth 100000
theorem er_ok {x : ChG} {b : Int} (h : x.abs.erE b = 0) {i : Nat} {bk : BkG} (hb : b = (i : Nat)) (hbk : x.blocks[i]? = some bk) {r : Nat × Int} (hr : eraN x.abs.hits x.pages = r) {q : List PgG} {wn : Int}
    (hq : q.map PgG.abs = List.replicate r.1 (PgS.bare x.size.toNat) ++ (bk.pages.map PgG.abs).drop r.1) (hw : wn = if r.2 = 0 then wr (bk.worn + 1) else bk.worn) :
    (x.abs.er b).1 = r.2 ∧ ({ x.tick with off := (findG x.hitsG 3).isSome, blocks := x.blocks.set i { bk with pages := q, worn := wn } } : ChG).abs = (x.abs.er b).2 := by
  have h1 : x.abs.bk b = bk.abs := by
    unfold ChS.bk
    rw [hb, Int.toNat_natCast, List.getD_eq_getElem?_getD, abs_bk hbk, Option.getD_some]
  unfold ChS.er
  rw [if_neg (fun hn => hn h)]
  have hr2 : eraN x.abs.hits x.abs.pages = r := hr
  simp only [hr2]
  refine ⟨trivial, ?_⟩
  have e3 : (findG x.hitsG 3).isSome = (findK x.abs.hits 3).isSome := find_some x 3
  rw [e3, h1, hb, Int.toNat_natCast]
  subst hw
  unfold ChG.tick ChS.tick ChG.abs
  simp only [List.map_set]
  congr 2
  unfold BkG.abs
  simp only [hq]
theorem BkG.nul_dat (w : World) (F : Nat → Prop) (w₀ : World) (L : List Atom) (h : St F w₀ L w) : St F w₀ (BkG.nul.dat :: L) w := by
  have h1 := (h.starNil).begin_ 115 3
  exact St.close_ [BkG.nul.rows, starA (BkG.nul.pages.map PgG.dat)] h1
def PgG.nul : PgG := ⟨none, 0, [], none, 0, [], false⟩
theorem PgG.nul_dat (w : World) (F : Nat → Prop) (w₀ : World) (L : List Atom) (h : St F w₀ L w) : St F w₀ (PgG.nul.dat :: L) w := by
  have h1 := (h.begin_ 5 1).begin_ 5 1
  exact St.close_ [PgG.nul.own1, PgG.nul.own2] h1
theorem _root_.Go.Sx.St.many {A : Atom} {F : Nat → Prop} {w₀ w : World} {L : List Atom} (hA : ∀ L, St F w₀ L w → St F w₀ (A :: L) w) (h : St F w₀ L w) (n : Nat) : St F w₀ (starA (List.replicate n A) :: L) w := by
  induction n with
  | zero => exact h.starNil
  | succ n ih =>
    have h1 := hA _ ((St.star (List.replicate n A)).2 ih)
    exact (St.star (A :: List.replicate n A)).1 h1
/-- One of many is another. -/
theorem _root_.Go.Sx.St.starPut {A A' : Atom} {X : List Atom} {i : Nat} {F : Nat → Prop} {w₀ w : World} {L : List Atom} (hi : X[i]? = some A) (h : St F w₀ (starA X :: A' :: L) w) : St F w₀ (starA (X.set i A') :: L) w := by
  have h1 := (h.focus hi).tail
  have h2 : St F w₀ (A' :: starA (X.eraseIdx i) :: L) w := h1.perm (List.Perm.swap ..)
  exact h2.unfocus (List.getElem?_eq_some_iff.1 hi).1
/-! ### New chips -/
def PgS.zero : PgS := ⟨[], [], false⟩
def BkS.fresh (np sz : Nat) : BkS := ⟨List.replicate np (PgS.bare sz), 0, false⟩
def markB (bs : List BkS) (m : Int) : List BkS := bs.set m.toNat { bs.getD m.toNat BkS.nul with marked := true }
def ChS.new (nb np sz lv : Nat) (marked : List Int) (plan : List FtS) : ChS := ⟨np, sz, lv, marked.foldl markB (List.replicate nb (BkS.fresh np sz)), plan, 0, 0, false⟩
theorem markB_len (bs : List BkS) (m : Int) : (markB bs m).length = bs.length := by unfold markB; rw [List.length_set]
theorem marks_len : ∀ (ms : List Int) (bs : List BkS), (ms.foldl markB bs).length = bs.length
  | [], _ => rfl
  | m :: ms, bs => by rw [List.foldl_cons, marks_len ms, markB_len]
theorem marks_pages {np sz : Nat} (ms : List Int) (bs : List BkS) (h : ∀ b ∈ bs, b.pages = List.replicate np (PgS.bare sz)) (hm : ∀ m ∈ ms, 0 ≤ m ∧ m < (bs.length : Int)) : ∀ b ∈ ms.foldl markB bs, b.pages = List.replicate np (PgS.bare sz) := by
  induction ms generalizing bs with
  | nil => exact h
  | cons m ms ih =>
    rw [List.foldl_cons]
    refine ih (markB bs m) (fun b' hb' => ?_) (fun m' hm' => by rw [markB_len]; exact hm m' (List.mem_cons_of_mem _ hm'))
    have h1 := hm m (List.mem_cons_self ..)
    unfold markB at hb'
    rcases List.mem_or_eq_of_mem_set hb' with hb' | rfl
    · exact h b' hb'
    · show (bs.getD m.toNat BkS.nul).pages = _
      have hl : m.toNat < bs.length := by omega
      rw [List.getD_eq_getElem?_getD, List.getElem?_eq_getElem hl, Option.getD_some]
      exact h _ (List.getElem_mem hl)
theorem new_ok {nb np sz lv : Nat} (h1 : nb ≤ 64) (h2 : 1 ≤ np) (h3 : np ≤ 64) (h4 : 1 ≤ sz) (h5 : sz ≤ 4096) (h6 : 1 ≤ lv) (h7 : lv ≤ 8) {marked : List Int} (hm : ∀ m ∈ marked, 0 ≤ m ∧ m < (nb : Int)) {plan : List FtS} (hp : plan.length ≤ 1000) (hb : ∀ f ∈ plan, f.bits.length ≤ 1000000) : (ChS.new nb np sz lv marked plan).Ok := by
  refine ⟨by show (1 : Int) ≤ np; omega, by show (np : Int) ≤ 64; omega, by show (1 : Int) ≤ sz; omega, by show (sz : Int) ≤ 4096; omega, by show (1 : Int) ≤ lv; omega, by show (lv : Int) ≤ 8; omega, ?_, fun b hb => ?_, hp, hb⟩
  · show (marked.foldl markB (List.replicate nb (BkS.fresh np sz))).length ≤ 64
    rw [marks_len, List.length_replicate]
    exact h1
  · have h8 := marks_pages (np := np) (sz := sz) marked (List.replicate nb (BkS.fresh np sz)) (fun b hb => by rw [List.eq_of_mem_replicate hb]; rfl) (fun m hm' => by rw [List.length_replicate]; exact hm m hm') b hb
    rw [h8]
    refine ⟨by rw [List.length_replicate]; rfl, fun p hp => ?_⟩
    rw [List.eq_of_mem_replicate hp]
    refine ⟨by show ((List.replicate sz 255).length : Int) = sz; rw [List.length_replicate], fun t ht => ?_, Nat.zero_le _, fun t ht => absurd ht List.not_mem_nil⟩
    rw [List.eq_of_mem_replicate ht]
    decide
end Go.Proofs.YtcapijdokbkgaaaDoor
end
section
/- Package chip: an erase. Conditions: the chip is lent; errors' variables stay. -/
namespace Go.Proofs.YtcapijdokbkgaaaDoor
open Go Go.Sx Go.Fm
set_option maxRecDepth 100000
theorem bare_next {ps q : List PgG} {sz j : Nat} {z : PgG} (hq : q.map PgG.abs = List.replicate j (PgS.bare sz) ++ (ps.map PgG.abs).drop j) (hj : j < ps.length) (hz : z.abs = PgS.bare sz) : (q.set j z).map PgG.abs = List.replicate (j + 1) (PgS.bare sz) ++ (ps.map PgG.abs).drop (j + 1) := by
  rw [List.map_set, hq, hz, List.set_append_right _ _ (by simp), List.length_replicate, Nat.sub_self, List.drop_eq_getElem_cons (by simpa using hj), List.set_cons_zero, List.replicate_succ', List.append_assoc]
  rfl
theorem bare_len {ps q : List PgG} {sz j : Nat} (hq : q.map PgG.abs = List.replicate j (PgS.bare sz) ++ (ps.map PgG.abs).drop j) (hj : j ≤ ps.length) : q.length = ps.length := by
  have := congrArg List.length hq
  simp only [List.length_map, List.length_append, List.length_replicate, List.length_drop] at this
  omega

set_option maxHeartbeats 1600000 in

theorem erase_spec (F : Nat → Prop) (g : Nat) (x : ChG) (hx : x.abs.Ok) (b : Int) (e : Nat → Addr) (w : World) (hE1 : ∀ w', Fr F w w' → Er e w' 0) (hE2 : ∀ w', Fr F w w' → Er e w' 1) (hE3 : ∀ w', Fr F w w' → Er e w' 2) (hE4 : ∀ w', Fr F w w' → Er e w' 5) (hw : St F w [chipA g x] w) : SpecP Tryd.prog 18 [.pointer (some ⟨g, 0, none⟩), .int .i64 b] F w (X := ChG) (fun _ => evE e (x.abs.er b).1) (fun z => z.abs = (x.abs.er b).2 ∧ z.watch = x.watch) (fun z => [chipA g z]) := by
  refine spec_ofC Tryd.func18 rfl Tryd.ntmps18 rfl hw ?_
  refine CW.seq ?_
  refine CW.reg [0] rfl ?_
  refine s_as 4 rfl rfl ?_
  refine SX.next ?_
  refine CW.seq ?_
  refine CW.seq ?_
  refine CW.reg [0, 1, 2, 3, 4, 5] rfl ?_
  refine s_mv 14 rfl rfl ?_
  refine s_mv 15 rfl rfl ?_
  refine s_mv 16 rfl rfl ?_
  refine s_call1 17 rfl rfl rfl rfl (fun w hw => chas_spec g x b w (hw.has (i := 0) rfl)) (fun _ _ => trivial) ?_
  refine s_call1 18 rfl rfl rfl rfl (fun w hw => ask_spec g x.off _ _ e w (chip_cell (hw.has (i := 0) rfl) rfl) (hE1 _ hw.fr) (hE2 _ hw.fr) (hE3 _ hw.fr)) (fun _ _ => trivial) ?_
  refine s_as 5 rfl rfl ?_
  refine SX.next ?_
  refine CW.seq ?_
  refine CW.reg [0, 1] rfl ?_
  refine s_mv 19 rfl rfl ?_
  refine s_neIG 20 rfl rfl (evE_some e (x.abs.erE b)) ?_
  refine SX.next ?_
  refine CW.test rfl (fun hz => ?_) (fun hz => ?_)
  · skip
    refine CW.seq ?_
    refine CW.reg [0, 1] rfl ?_
    refine s_mv 21 rfl rfl ?_
    refine s_as 4 rfl rfl ?_
    refine SX.next ?_
    refine CW.ret ?_
    exact KN.ret (rs := [.tmp 4]) Tryd.results18 rfl (fun w hw => ⟨x, by rw [er_err hz]; rfl, by rw [er_err hz]; exact ⟨rfl, rfl⟩, hw⟩)
  · skip
    have hz0 := Decidable.of_not_not hz
    obtain ⟨hoff, hhas⟩ := erE_zero hz0
    have h1h := hhas
    rw [has_eq] at h1h
    have h2h := of_decide_eq_true h1h
    obtain ⟨i, hbi⟩ := Int.eq_ofNat_of_zero_le h2h.1
    have hil : i < x.blocks.length := by omega
    have hbn0 : x.blocks.length ≠ 0 := by omega
    obtain ⟨bk, hbk⟩ : ∃ bk, x.blocks[i]? = some bk := ⟨_, List.getElem?_eq_getElem hil⟩
    have hbm := List.mem_of_getElem? hbk
    have hbpl := bk_pgs hx hbk
    have hp1 : x.pages ≤ 64 := hx.p1
    have hp0 : 1 ≤ x.pages := hx.p0
    have hz1 : x.size ≤ 4096 := hx.z1
    have hz0s : 1 ≤ x.size := hx.z0
    have hhl := hits_len hx
    obtain ⟨sz, hsz⟩ := Int.eq_ofNat_of_zero_le (show 0 ≤ x.size by omega)
    refine CW.skip ?_
    refine KN.code ?_
    refine CW.seq ?_
    refine CW.reg [0, 1, 2] rfl ?_
    refine s_mv 22 rfl rfl ?_
    refine s_callP 23 [0] (M := [chipA g x]) (R := []) (X := Option Addr × Nat) (v := fun z => .slice z.1 x.hitsG.length z.2) (pf := fun z => x.hitsG.length ≤ z.2) (M' := fun z => [own 48 5 z.1 x.hitsG.length z.2 (x.hitsG.flatMap FtG.row), chipA g x.tick]) rfl rfl rfl rfl rfl (fun F' w' hR hM => count_spec F' g x hx w' hM) (fun _ _ _ => trivial) (fun z hz9 => ?_)
    refine s_as 6 rfl rfl ?_
    refine SX.next ?_
    refine CW.seq ?_
    refine CW.reg [0, 1, 2, 3, 4, 5] rfl ?_
    refine s_mv 24 rfl rfl ?_
    refine s_nil 25 rfl rfl ?_
    refine s_fa 26 rfl rfl ?_
    refine s_ld 27 rfl rfl (v := .int .i64 x.pages) (fun _ hw => chip_cell (x := x.tick) (hw.has (i := 1) rfl) rfl) ?_
    refine s_as 7 rfl rfl ?_
    refine s_as 8 rfl rfl ?_
    refine SX.next ?_
    refine CW.cut (G := Unit) (fun _ => [(0, .pointer (some ⟨g, 0, none⟩)), (1, .int .i64 b), (7, .int .i64 ((eraN x.abs.hits x.pages).1 : Nat)), (8, evE e (eraN x.abs.hits x.pages).2)]) (fun _ => St F w [chipA g { x.tick with off := (findG x.hitsG 3).isSome }]) (fun _ => True) ?_ ?_
    · skip
      refine CW.seq ?_
      refine CW.reg [0, 1, 2, 3, 4, 5, 6, 7] rfl ?_
      refine s_mv 29 rfl rfl ?_
      refine s_call1 30 rfl rfl rfl rfl (fun w hw => find_spec z.1 z.2 x.hitsG 3 w ((hw.has (i := 0) rfl).of_own) hhl) (fun _ _ => trivial) ?_
      refine s_mv 28 rfl rfl ?_
      refine s_ext 31 rfl rfl rfl ?_
      refine s_ext 32 rfl rfl rfl ?_
      refine s_alloc 9 rfl (fun _ _ => trivial) (fun b9 => ?_)
      refine s_stAll 0 rfl rfl (by kernel_rfl) rfl rfl rfl rfl (fun _ _ => trivial) ?_
      refine s_as 10 rfl rfl ?_
      refine SX.next ?_
      refine CW.seq ?_
      refine CW.reg [0] rfl ?_
      refine s_mv 33 rfl rfl ?_
      refine SX.next ?_
      refine CW.cond rfl (fun hct => ?_) (fun hct => ?_)
      · skip
        obtain ⟨f, hf⟩ := Option.isSome_iff_exists.1 hct
        have hly := eraN_cut hf x.pages
        refine CW.pre (fun _ h => (h.pick [2, 0, 0] rfl).chipO) ?_
        refine CW.regD (.st true 0 (.st true 1 (.st true 2 (.st true 3 (.st true 4 (.st true 5 (.st true 6 (.st true 7 (.st true 8 (.st true 9 (.st true 10 (.st true 11 (.st true 12 (.st true 13 (.st false 14 .done))))))))))))))) (fun w2 => w2.cell? ⟨b9, 3, none⟩ = some (.int .i64 f.n) ∧ w2.cell? ⟨g, 0, none⟩ = some (.int .i64 x.pages) ∧ Er e w2 0) mixed (by kernel_rfl) (fun _ h => h.drew) (fun _ h => ⟨h.blkCell (i := 5) (j := 3) rfl (by rw [hf]; rfl), h.blkCell (i := 0) (j := 0) rfl rfl, hE1 _ h.fr⟩) ?_
        refine s_mv 34 rfl rfl ?_
        refine s_fa 35 rfl rfl ?_
        refine s_ldS 36 rfl rfl (v := .int .i64 f.n) (fun _ h => h.1) ?_
        refine s_max 37 rfl rfl rfl (r := (if (0 : Int) > f.n then 0 else f.n)) rfl ?_
        refine s_mv 38 rfl rfl ?_
        refine s_nil 39 rfl rfl ?_
        refine s_fa 40 rfl rfl ?_
        refine s_ldS 41 rfl rfl (v := .int .i64 x.pages) (fun _ h => h.2.1) ?_
        refine s_min 42 rfl rfl rfl (r := ((clampN f.n x.pages : Nat) : Int)) (clampN_eq (by omega)) ?_
        refine s_ldS 43 rfl rfl (fun _ h => h.2.2) ?_
        refine s_as 7 rfl rfl ?_
        refine s_as 8 rfl rfl ?_
        refine s_nil 44 rfl rfl ?_
        refine s_fa 45 rfl rfl ?_
        refine s_stB 0 rfl rfl rfl rfl rfl (by show 7 < 9; decide) (fun _ h => ⟨h.blkCell (i := 5) (j := 3) rfl (by rw [hf]; rfl), h.blkCell (i := 0) (j := 0) rfl rfl, hE1 _ h.fr⟩) ?_
        refine SX.end_ ?_
        exact KN.join () ⟨rfl, rfl, by rw [hly]; rfl, by rw [hly]; rfl, trivial⟩ (fun _ h => by
          have h1 := (h.pick [0, 0, 0, 0, 0] rfl).chipC (x := { x.tick with off := true })
          rw [hct]
          exact h1) trivial
      · skip
        have hf3 : findG x.hitsG 3 = none := by
          cases hh : findG x.hitsG 3 with
          | none => rfl
          | some f => rw [hh] at hct; cases hct
        refine CW.seq ?_
        refine CW.reg [0, 1, 2, 3, 4, 5, 6, 7] rfl ?_
        refine s_mv 47 rfl rfl ?_
        refine s_call1 48 rfl rfl rfl rfl (fun w hw => find_spec z.1 z.2 x.hitsG 2 w ((hw.has (i := 1) rfl).of_own) hhl) (fun _ _ => trivial) ?_
        refine s_mv 46 rfl rfl ?_
        refine s_ext 49 rfl rfl rfl ?_
        refine s_ext 50 rfl rfl rfl ?_
        refine s_alloc 11 rfl (fun _ _ => trivial) (fun b11 => ?_)
        refine s_stAll 0 rfl rfl (by kernel_rfl) rfl rfl rfl rfl (fun _ _ => trivial) ?_
        refine s_as 12 rfl rfl ?_
        refine SX.next ?_
        refine CW.seq ?_
        refine CW.reg [0] rfl ?_
        refine s_mv 51 rfl rfl ?_
        refine SX.next ?_
        refine CW.cond rfl (fun hfl2 => ?_) (fun hfl2 => ?_)
        · skip
          obtain ⟨f, hf⟩ := Option.isSome_iff_exists.1 hfl2
          have hly := eraN_fail hf3 hf x.pages
          refine CW.regD (.st true 0 (.st true 1 (.st true 2 .done))) (St F w []) mixed (by kernel_rfl) (fun _ h => h.drew) (fun _ h => h.pick [] rfl) ?_
          refine s_ldS 52 rfl rfl (fun _ h => hE4 _ h.fr) ?_
          refine s_as 7 rfl rfl ?_
          refine s_as 8 rfl rfl ?_
          refine SX.end_ ?_
          exact KN.join () ⟨rfl, rfl, by rw [hly]; rfl, by rw [hly]; rfl, trivial⟩ (fun _ h => by
            have h1 := h.pick [3] rfl
            have e : ({ x.tick with off := (findG x.hitsG 3).isSome } : ChG) = x.tick := by
              rw [hct]
              have ho : x.tick.off = false := hoff
              rw [← ho]
            rw [e]
            exact h1) trivial
        · skip
          have hf2 : findG x.hitsG 2 = none := by
            cases hh : findG x.hitsG 2 with
            | none => rfl
            | some f => rw [hh] at hfl2; cases hfl2
          have hly := eraN_all hf3 hf2 x.pages
          refine CW.skip ?_
          exact KN.join () ⟨rfl, rfl, by rw [hly]; show some (Value.int .i64 x.pages) = some (.int .i64 ((x.pages.toNat : Nat) : Int)); rw [Int.toNat_of_nonneg (by omega)], by rw [hly]; rfl, trivial⟩ (fun _ h => by
            have h1 := h.pick [3] rfl
            have e : ({ x.tick with off := (findG x.hitsG 3).isSome } : ChG) = x.tick := by
              rw [hct]
              have ho : x.tick.off = false := hoff
              rw [← ho]
            rw [e]
            exact h1) trivial
    · skip
      intro _ _
      refine CW.seq ?_
      refine CW.seq ?_
      have hnle : (eraN x.abs.hits x.pages).1 ≤ bk.pages.length := by
        unfold eraN
        split
        · have h1 := clampN_le (n := (by assumption : FtS).n) (size := x.pages)
          simp only
          omega
        · split
          · exact Nat.zero_le _
          · simp only
            omega
      refine CW.pre (C' := St F w [bk.rows, starA (bk.pages.map PgG.dat), starA ((x.blocks.map BkG.dat).eraseIdx i), ({ x.tick with off := (findG x.hitsG 3).isSome } : ChG).hd g, ({ x.tick with off := (findG x.hitsG 3).isSome } : ChG).bks, ({ x.tick with off := (findG x.hitsG 3).isSome } : ChG).fts, ({ x.tick with off := (findG x.hitsG 3).isSome } : ChG).fst]) (fun _ h => by
        have h0 := h.chipO
        have h1 := h0.pick [2, 0, 0, 0, 0] rfl
        exact h1.bkO hbk) ?_
      refine CW.reg [0, 1] rfl ?_
      refine s_mv 53 rfl rfl ?_
      refine s_mv 54 rfl rfl ?_
      refine SX.next ?_
      refine CW.block ?_
      refine CW.loop (G := Nat × List PgG) (fun q => [(0, .pointer (some ⟨g, 0, none⟩)), (1, .int .i64 b), (8, evE e (eraN x.abs.hits x.pages).2), (53, .int .i64 ((eraN x.abs.hits x.pages).1 : Nat)), (54, .int .i64 (q.1 : Nat))]) (fun q => St F w [own 115 3 bk.A q.2.length bk.c (q.2.flatMap PgG.row), starA (q.2.map PgG.dat), starA ((x.blocks.map BkG.dat).eraseIdx i), ({ x.tick with off := (findG x.hitsG 3).isSome } : ChG).hd g, ({ x.tick with off := (findG x.hitsG 3).isSome } : ChG).bks, ({ x.tick with off := (findG x.hitsG 3).isSome } : ChG).fts, ({ x.tick with off := (findG x.hitsG 3).isSome } : ChG).fst]) (fun q => q.1 ≤ (eraN x.abs.hits x.pages).1 ∧ q.2.map PgG.abs = List.replicate q.1 (PgS.bare sz) ++ (bk.pages.map PgG.abs).drop q.1) (fun q => (eraN x.abs.hits x.pages).1 - q.1) (0, bk.pages) ⟨rfl, rfl, rfl, rfl, rfl, trivial⟩ (fun _ h => h) ⟨Nat.zero_le _, rfl⟩ ?_
      rintro ⟨j, q⟩ ⟨hj, hq⟩
      simp only at hj hq
      dsimp only
      have hql := bare_len hq (by omega)
      refine CW.seq ?_
      refine CW.reg [0] rfl ?_
      refine s_lt 55 rfl rfl rfl rfl ?_
      refine SX.next ?_
      refine CW.seq ?_
      refine CW.test rfl (fun hc => ?_) (fun hc => ?_)
      · skip
        have hjl : j < (eraN x.abs.hits x.pages).1 := by omega
        have hjq : j < q.length := by omega
        refine CW.skip ?_
        refine KN.code ?_
        refine CW.seq ?_
        refine CW.block ?_
        refine CW.seq ?_
        refine CW.reg [0, 1] rfl ?_
        refine s_mv 56 rfl rfl ?_
        refine s_as 13 rfl rfl ?_
        refine SX.next ?_
        refine CW.regD (.st true 0 (.st true 1 (.st true 2 (.st true 3 (.st true 4 (.st true 5 (.st true 6 (.st true 7 (.st true 8 (.st true 9 (.st true 10 (.st true 11 (.st true 12 (.st false 13 (.st false 14 (.st true 15 (.st false 16 .done))))))))))))))))) (St F w [({ x.tick with off := (findG x.hitsG 3).isSome } : ChG).hd g, ({ x.tick with off := (findG x.hitsG 3).isSome } : ChG).bks]) mixed (by kernel_rfl) (fun _ h => h.drew) (fun _ h => h.pick [3, 3] rfl) ?_
        refine s_mv 57 rfl rfl ?_
        refine s_nil 58 rfl rfl ?_
        refine s_fa 59 rfl rfl ?_
        refine s_ldS 60 rfl rfl (v := .slice x.A x.blocks.length x.c) (fun _ hw => hw.blkCell (i := 0) (j := 3) rfl rfl) ?_
        refine s_mv 61 rfl rfl ?_
        refine s_iaV 62 i (fun w hw => (hw.has (i := 4) rfl).of_own) rfl rfl rfl hbi hil ?_
        refine s_fa 63 rfl rfl ?_
        refine s_ldS 64 rfl rfl (v := .slice bk.A bk.pages.length bk.c) (fun _ hw => ((hw.has (i := 1) rfl).of_own).rowAt bkRow_len hbk hbn0 0 _ rfl) ?_
        refine s_mv 65 rfl rfl ?_
        refine s_mv 66 rfl rfl ?_
        refine s_nil 67 rfl rfl ?_
        refine s_fa 68 rfl rfl ?_
        refine s_ldS 69 rfl rfl (v := .int .i64 x.size) (fun _ hw => hw.blkCell (i := 0) (j := 1) rfl rfl) ?_
        rw [hsz]
        refine s_call 70 rfl rfl rfl rfl (fun w hw => full_spec sz w (by omega) (by omega)) (fun _ h => h.pick [3, 3] rfl) (fun zo hzo => ?_)
        refine s_build 71 rfl rfl (cells := #[.slice zo.1 (List.replicate sz 255).length zo.2, .slice none 0 0, .bool false]) (by kernel_rfl) ?_
        rw [← hql]
        refine s_iaOS 72 1 j rfl rfl rfl rfl rfl hjq ?_
        refine s_stRow 1 (t := j * 3) (vs := [.slice zo.1 (List.replicate sz 255).length zo.2, .slice none 0 0, .bool false]) rfl rfl (by kernel_rfl) rfl rfl (by omega) (by rw [flat_len pgRow_len]; show j * 3 + 3 ≤ q.length * 3; omega) rfl (fun _ h => h.pick [4, 4] rfl) ?_
        refine SX.end_ ?_
        refine KN.blk ?_
        refine KN.code ?_
        refine CW.reg [0, 1] rfl ?_
        refine s_add 73 rfl rfl rfl (r := ((j + 1 : Nat) : Int)) (w64 (by omega)) ?_
        refine s_mv 54 rfl rfl ?_
        refine SX.end_ ?_
        exact KN.back (j + 1, q.set j (⟨zo.1, zo.2, List.replicate sz 255, none, 0, [], false⟩ : PgG)) ⟨rfl, rfl, rfl, rfl, rfl, trivial⟩ (fun _ h => by
          have h1 := h.pick [0, 1, 0, 0, 0, 0, 0, 0] rfl
          have h2 := h1.begin_ 5 1
          have h3 := h2.pick [1, 0, 0, 0, 0, 0, 0, 0, 0] rfl
          have h4 := St.close_ [(⟨zo.1, zo.2, List.replicate sz 255, none, 0, [], false⟩ : PgG).own1, (⟨zo.1, zo.2, List.replicate sz 255, none, 0, [], false⟩ : PgG).own2] h3
          have h5 := h4.pick [1, 0, 0, 0, 0, 0, 0, 0] rfl
          have h6 := St.starPut (A := (q[j]).dat) (A' := (⟨zo.1, zo.2, List.replicate sz 255, none, 0, [], false⟩ : PgG).dat) (i := j) (by rw [List.getElem?_map, List.getElem?_eq_getElem hjq]; rfl) h5
          rw [← List.map_set] at h6
          have e1 := flat_row (row := PgG.row) pgRow_len hjq (⟨zo.1, zo.2, List.replicate sz 255, none, 0, [], false⟩ : PgG)
          have h7 := h6.pick [1, 0, 0, 0, 0, 0, 0] rfl
          simp only [List.length_set]
          rw [e1]
          exact h7) ⟨by simp only; omega, by simp only; exact bare_next hq (by omega) rfl⟩ (by simp only; omega)
      · skip
        obtain rfl : j = (eraN x.abs.hits x.pages).1 := by omega
        refine CW.exit rfl ?_
        refine KN.code ?_
        refine CW.seq ?_
        refine CW.seq ?_
        refine CW.reg [0, 1] rfl ?_
        refine s_mv 74 rfl rfl ?_
        refine s_eqIG 75 rfl rfl (r := decide ((eraN x.abs.hits x.pages).2 = 0)) (by rw [evE_some]; by_cases hh : (eraN x.abs.hits x.pages).2 = 0 <;> simp [hh]) ?_
        refine SX.next ?_
        refine CW.test rfl (fun hw0 => ?_) (fun hw0 => ?_)
        · skip
          refine CW.reg [0, 1, 2, 3, 4, 5, 6, 7, 8, 9, 10, 11] rfl ?_
          refine s_mv 76 rfl rfl ?_
          refine s_nil 77 rfl rfl ?_
          refine s_fa 78 rfl rfl ?_
          refine s_ld 79 rfl rfl (v := .slice x.A x.blocks.length x.c) (fun _ hw => hw.blkCell (i := 3) (j := 3) rfl rfl) ?_
          refine s_mv 80 rfl rfl ?_
          refine s_iaOS 81 4 i rfl rfl rfl rfl hbi hil ?_
          refine s_fa 82 rfl rfl ?_
          refine s_ld 83 rfl rfl (v := .int .i64 bk.worn) (fun _ hw => hw.ownCell (q := 4) (j := i * 3 + 1) rfl (flat_at bkRow_len hbk rfl)) ?_
          refine s_add 84 rfl rfl rfl (r := wr (bk.worn + 1)) rfl ?_
          refine s_iaOS 85 4 i rfl rfl rfl rfl hbi hil ?_
          refine s_fa 86 rfl rfl ?_
          refine s_stOS 4 (j := i * 3 + 1) rfl rfl rfl rfl rfl (by show i * 3 + 1 < x.blocks.length * 3; omega) (fun _ _ => trivial) ?_
          refine SX.next ?_
          refine CW.seq ?_
          refine CW.reg [0, 1] rfl ?_
          refine s_mv 87 rfl rfl ?_
          refine s_as 4 rfl rfl ?_
          refine SX.next ?_
          refine CW.ret ?_
          exact KN.ret (rs := [.tmp 4]) Tryd.results18 rfl (fun w_ hw => by
  obtain ⟨q1, q2⟩ := er_ok hz0 hbi hbk (r := (eraN x.abs.hits x.pages)) rfl (q := q) (wn := wr (bk.worn + 1)) (by rw [hsz, Int.toNat_natCast]; exact hq) (by rw [if_pos hw0])
  refine ⟨({ x.tick with off := (findG x.hitsG 3).isSome, blocks := x.blocks.set i { bk with pages := q, worn := wr (bk.worn + 1) } } : ChG), by rw [q1]; rfl, ⟨q2, rfl⟩, ?_⟩
  have h3 := St.bkI (b := { bk with pages := q, worn := wr (bk.worn + 1) }) (bs := x.blocks) hil (hw.pick [0, 0, 0, 0, 0, 0, 0] rfl)
  have h4 : St F w [({ x.tick with off := (findG x.hitsG 3).isSome, blocks := x.blocks.set i { bk with pages := q, worn := wr (bk.worn + 1) } } : ChG).hd g, ({ x.tick with off := (findG x.hitsG 3).isSome, blocks := x.blocks.set i { bk with pages := q, worn := wr (bk.worn + 1) } } : ChG).bks, ({ x.tick with off := (findG x.hitsG 3).isSome, blocks := x.blocks.set i { bk with pages := q, worn := wr (bk.worn + 1) } } : ChG).bst, ({ x.tick with off := (findG x.hitsG 3).isSome, blocks := x.blocks.set i { bk with pages := q, worn := wr (bk.worn + 1) } } : ChG).fts, ({ x.tick with off := (findG x.hitsG 3).isSome, blocks := x.blocks.set i { bk with pages := q, worn := wr (bk.worn + 1) } } : ChG).fst] w_ := by
    have e3 : ({ x.tick with off := (findG x.hitsG 3).isSome, blocks := x.blocks.set i { bk with pages := q, worn := wr (bk.worn + 1) } } : ChG).hd g = ({ x.tick with off := (findG x.hitsG 3).isSome } : ChG).hd g := by unfold ChG.hd ChG.cells; simp only [List.length_set]; rfl
    rw [e3]
    have e4 : ({ x.tick with off := (findG x.hitsG 3).isSome, blocks := x.blocks.set i { bk with pages := q, worn := wr (bk.worn + 1) } } : ChG).bks = own 112 3 x.A x.blocks.length x.c ((x.blocks.flatMap BkG.row).set (i * 3 + 1) (.int .i64 (wr (bk.worn + 1)))) := by
      unfold ChG.bks
      simp only [List.length_set]
      congr 1
      exact flat_set (row := BkG.row) bkRow_len hbk (j := 1) (by decide) (by unfold BkG.row; rw [hql]; rfl)
    rw [e4]
    exact h3.pick [1, 1, 0, 0, 0] rfl
  exact h4.chipC)
        · skip
          refine CW.skip ?_
          refine KN.code ?_
          refine CW.seq ?_
          refine CW.reg [0, 1] rfl ?_
          refine s_mv 87 rfl rfl ?_
          refine s_as 4 rfl rfl ?_
          refine SX.next ?_
          refine CW.ret ?_
          exact KN.ret (rs := [.tmp 4]) Tryd.results18 rfl (fun w_ hw => by
  obtain ⟨q1, q2⟩ := er_ok hz0 hbi hbk (r := (eraN x.abs.hits x.pages)) rfl (q := q) (wn := bk.worn) (by rw [hsz, Int.toNat_natCast]; exact hq) (by rw [if_neg hw0])
  refine ⟨({ x.tick with off := (findG x.hitsG 3).isSome, blocks := x.blocks.set i { bk with pages := q, worn := bk.worn } } : ChG), by rw [q1]; rfl, ⟨q2, rfl⟩, ?_⟩
  have h3 := St.bkI (b := { bk with pages := q, worn := bk.worn }) (bs := x.blocks) hil (hw.pick [0, 0, 0, 0, 0, 0, 0] rfl)
  have h4 : St F w [({ x.tick with off := (findG x.hitsG 3).isSome, blocks := x.blocks.set i { bk with pages := q, worn := bk.worn } } : ChG).hd g, ({ x.tick with off := (findG x.hitsG 3).isSome, blocks := x.blocks.set i { bk with pages := q, worn := bk.worn } } : ChG).bks, ({ x.tick with off := (findG x.hitsG 3).isSome, blocks := x.blocks.set i { bk with pages := q, worn := bk.worn } } : ChG).bst, ({ x.tick with off := (findG x.hitsG 3).isSome, blocks := x.blocks.set i { bk with pages := q, worn := bk.worn } } : ChG).fts, ({ x.tick with off := (findG x.hitsG 3).isSome, blocks := x.blocks.set i { bk with pages := q, worn := bk.worn } } : ChG).fst] w_ := by
    have e3 : ({ x.tick with off := (findG x.hitsG 3).isSome, blocks := x.blocks.set i { bk with pages := q, worn := bk.worn } } : ChG).hd g = ({ x.tick with off := (findG x.hitsG 3).isSome } : ChG).hd g := by unfold ChG.hd ChG.cells; simp only [List.length_set]; rfl
    rw [e3]
    have e4 : ({ x.tick with off := (findG x.hitsG 3).isSome, blocks := x.blocks.set i { bk with pages := q, worn := bk.worn } } : ChG).bks = ({ x.tick with off := (findG x.hitsG 3).isSome } : ChG).bks := by
      unfold ChG.bks
      simp only [List.length_set]
      congr 1
      rw [flat_row bkRow_len hil]
      have e5 : ({ bk with pages := q, worn := bk.worn } : BkG).row = bk.row := by unfold BkG.row; rw [hql]
      rw [e5, ← flat_row bkRow_len hil bk, List.set_eq_self hbk]
      rfl
    rw [e4]
    exact h3.pick [1, 1, 0, 0, 0] rfl
  exact h4.chipC)
end Go.Proofs.YtcapijdokbkgaaaDoor
end
section
/- Package chip: new chips. Conditions: what is handed in is read where it lies; errors' variables stay. -/
namespace Go.Proofs.YtcapijdokbkgaaaDoor
open Go Go.Sx Go.Fm
set_option maxRecDepth 100000
theorem _root_.Go.Sx.St.blkPart {F : Nat → Prop} {w₀ w : World} {L : List Atom} {i g T o : Nat} {cs : Array Value} {part : List Value} (hi : L[i]? = some (blk g T cs)) (hp : ∀ j v, part[j]? = some v → cs[o + j]? = some v) (h : St F w₀ L w) : ∀ j v, part[j]? = some v → w.cell? ⟨g, o + j, none⟩ = some v := fun j v hj => h.blkCell hi (hp j v hj)
instance : SlT Tryd.prog 106 105 2 16 (.agg #[.int .i64 0, .int .i64 0]) := SlT.mk' Tryd.underlying106 (by kernel_rfl)
theorem two_at {cs : Array Value} {o : Nat} {a b : Value} (h0 : cs[o]? = some a) (h1 : cs[o + 1]? = some b) : ∀ j v, [a, b][j]? = some v → cs[o + j]? = some v := fun j v hj => by
  match j, hj with
  | 0, hj => rw [← hj]; exact h0
  | 1, hj => rw [← hj]; exact h1
  | j + 2, hj => simp at hj
/-- A page's cells are others. -/
theorem _root_.Go.Sx.St.pgPut {ps : List PgG} {k : Nat} {p : PgG} {F : Nat → Prop} {w₀ w : World} {L : List Atom} {A : Option Addr} {c : Nat} {l : List Nat} (hp : ps[k]? = some p) (h : St F w₀ (starA (ps.map PgG.dat) :: own 5 1 A l.length c (nats .u8 l) :: L) w) : St F w₀ (starA ((ps.set k { p with A := A, c := c, l := l }).map PgG.dat) :: L) w := by
  have h1 := (h.focus (i := k) (A := p.dat) (by rw [List.getElem?_map, hp]; rfl)).open_
  have h2 : St F w₀ (p.own2 :: starA ((ps.map PgG.dat).eraseIdx k) :: own 5 1 A l.length c (nats .u8 l) :: L) w := h1.tail
  have h3 : St F w₀ (own 5 1 A l.length c (nats .u8 l) :: p.own2 :: starA ((ps.map PgG.dat).eraseIdx k) :: L) w := h2.perm ((List.Perm.cons _ (List.Perm.swap ..)).trans (List.Perm.swap ..))
  have h4 := (St.close_ [own 5 1 A l.length c (nats .u8 l), p.own2] h3).unfocus (A' := ({ p with A := A, c := c, l := l } : PgG).dat) (by simpa using (List.getElem?_eq_some_iff.1 hp).1)
  rw [← List.map_set] at h4
  exact h4
theorem rep_next {α β : Type} {f : α → β} {xs : List α} {j n : Nat} {a b : β} {z : α} (h : xs.map f = List.replicate j a ++ List.replicate (n - j) b) (hj : j < n) (hz : f z = a) : (xs.set j z).map f = List.replicate (j + 1) a ++ List.replicate (n - (j + 1)) b := by
  rw [List.map_set, h, hz, List.set_append_right _ _ (by simp), List.length_replicate, Nat.sub_self, show n - j = (n - (j + 1)) + 1 by omega, List.replicate_succ, List.set_cons_zero, List.replicate_succ', List.append_assoc]
  rfl
theorem rep_len {α β : Type} {f : α → β} {xs : List α} {j n : Nat} {a b : β} (h : xs.map f = List.replicate j a ++ List.replicate (n - j) b) (hj : j ≤ n) : xs.length = n := by
  have := congrArg List.length h
  simp only [List.length_map, List.length_append, List.length_replicate] at this
  omega
theorem rep_at {α β : Type} {f : α → β} {xs : List α} {j n : Nat} {a b : β} (h : xs.map f = List.replicate j a ++ List.replicate (n - j) b) (hj : j < n) {x : α} (hx : xs[j]? = some x) : f x = b := by
  have h1 := congrArg (fun l => l[j]?) h
  simp only [List.getElem?_map, hx, Option.map_some] at h1
  rw [List.getElem?_append_right (by simp), List.length_replicate, Nat.sub_self, List.getElem?_replicate, if_pos (by omega)] at h1
  exact Option.some.inj h1

set_option maxHeartbeats 3200000 in

theorem cnew_ok (nb np sz lv : Nat) (mA : Option Addr) (mc : Nat) (ms : List Int) (pA : Option Addr) (pc : Nat) (pl : List FtG) (e : Nat → Addr) (w : World) (h1 : 1 ≤ nb ∧ nb ≤ 64) (h2 : 1 ≤ np ∧ np ≤ 64) (h3 : 1 ≤ sz ∧ sz ≤ 4096) (h4 : 1 ≤ lv ∧ lv ≤ 8) (hM : Has (sl 1 mA ms.length (ints .i64 ms)) w) (hml : ms.length ≤ 1000000) (hms : ∀ m ∈ ms, 0 ≤ m ∧ m < (nb : Int)) (hE : Er e w 6) (hP : PlIn pA pl w) (hpl1 : pl.length ≤ 1000) : SpecX Tryd.prog 13 [.int .i64 (nb : Nat), .int .i64 (np : Nat), .int .i64 (sz : Nat), .int .i64 (lv : Nat), .slice mA ms.length mc, .slice pA pl.length pc] w (X := Nat × ChG) (fun z => two (.pointer (some ⟨z.1, 0, none⟩)) .nilIface) (fun z => z.2.abs = ChS.new nb np sz lv ms (pl.map FtG.abs) ∧ z.2.watch = .nilFunc) (fun z => [chipA z.1 z.2]) := by
  refine spec_of Tryd.func13 rfl Tryd.ntmps13 rfl ?_
  refine CW.seq ?_
  refine CW.reg [0, 1] rfl ?_
  refine s_as 12 rfl rfl ?_
  refine s_as 13 rfl rfl ?_
  refine SX.next ?_
  refine CW.seq ?_
  refine CW.seq ?_
  refine CW.reg [0, 1, 2, 3, 4, 5, 6, 7, 8, 9, 10] rfl ?_
  refine s_mv 22 rfl rfl ?_
  refine s_buildA 23 rfl rfl (cells := #[.int .i64 ((nb : Nat) : Int), .int .i64 64]) (by kernel_rfl) ?_
  refine s_mv 24 rfl rfl ?_
  refine s_buildA 25 rfl rfl (cells := #[.int .i64 ((np : Nat) : Int), .int .i64 64]) (by kernel_rfl) ?_
  refine s_mv 26 rfl rfl ?_
  refine s_buildA 27 rfl rfl (cells := #[.int .i64 ((sz : Nat) : Int), .int .i64 4096]) (by kernel_rfl) ?_
  refine s_mv 28 rfl rfl ?_
  refine s_buildA 29 rfl rfl (cells := #[.int .i64 ((lv : Nat) : Int), .int .i64 8]) (by kernel_rfl) ?_
  refine s_bsl 30 rfl rfl (cells := #[.int .i64 ((nb : Nat) : Int), .int .i64 64, .int .i64 ((np : Nat) : Int), .int .i64 64, .int .i64 ((sz : Nat) : Int), .int .i64 4096, .int .i64 ((lv : Nat) : Int), .int .i64 8]) (by kernel_rfl) rfl (fun _ _ => trivial) (fun g0 => ?_)
  refine s_len 31 rfl rfl ?_
  refine s_mv 32 rfl rfl ?_
  refine SX.next ?_
  refine CW.block ?_
  refine CW.loop (G := Nat) (fun i => [(0, .int .i64 (((nb : Nat) : Int))), (1, .int .i64 (((np : Nat) : Int))), (2, .int .i64 (((sz : Nat) : Int))), (3, .int .i64 (((lv : Nat) : Int))), (4, .slice mA ms.length mc), (5, .slice pA pl.length pc), (30, .slice (some ⟨g0, 0, none⟩) 4 4), (31, .int .i64 4), (32, .int .i64 (i : Nat))]) (fun _ => Sto w [blk g0 105 #[.int .i64 ((nb : Nat) : Int), .int .i64 64, .int .i64 ((np : Nat) : Int), .int .i64 64, .int .i64 ((sz : Nat) : Int), .int .i64 4096, .int .i64 ((lv : Nat) : Int), .int .i64 8]]) (fun i => i ≤ 4) (fun i => 4 - i) 0 ⟨rfl, rfl, rfl, rfl, rfl, rfl, rfl, rfl, rfl, trivial⟩ (fun _ h => h) (by omega) ?_
  intro i hi
  refine CW.seq ?_
  refine CW.reg [0] rfl ?_
  refine s_lt 33 rfl rfl rfl rfl ?_
  refine SX.next ?_
  refine CW.seq ?_
  refine CW.test rfl (fun hc => ?_) (fun hc => ?_)
  · skip
    have hi4 : i < 4 := by omega
    refine CW.skip ?_
    refine KN.code ?_
    refine CW.seq ?_
    refine CW.block ?_
    refine CW.seq ?_
    rcases (show i = 0 ∨ i = 1 ∨ i = 2 ∨ i = 3 by omega) with rfl | rfl | rfl | rfl
    · skip
      refine CW.reg [0, 1, 2, 3] rfl ?_
      refine s_ia 34 rfl rfl rfl (by omega) ?_
      refine s_ldR 35 (cs := [.int .i64 ((nb : Nat) : Int), .int .i64 64]) rfl rfl rfl (fun w hw => hw.blkPart (i := 0) rfl (two_at rfl rfl)) ?_
      refine s_alloc 15 rfl (fun _ _ => trivial) (fun b15 => ?_)
      refine s_stAll 0 rfl rfl (by kernel_rfl) rfl rfl rfl rfl (fun _ _ => trivial) ?_
      refine SX.next ?_
      refine CW.seq ?_
      refine CW.reg [0, 1, 2, 3, 4, 5, 6, 7, 8, 9] rfl ?_
      refine s_iaR 36 0 rfl rfl rfl rfl (by omega) ?_
      refine s_ldB 37 0 rfl rfl rfl (v := .int .i64 ((nb : Nat) : Int)) rfl ?_
      refine s_lt 38 rfl rfl rfl (decide_eq_false (by omega)) ?_
      refine s_mv 39 rfl rfl ?_
      refine s_iaR 40 0 rfl rfl rfl rfl (by omega) ?_
      refine s_ldB 41 0 rfl rfl rfl (v := .int .i64 ((nb : Nat) : Int)) rfl ?_
      refine s_iaR 42 1 rfl rfl rfl rfl (by omega) ?_
      refine s_ldB 43 0 rfl rfl rfl (v := .int .i64 64) rfl ?_
      refine s_gt 44 rfl rfl rfl (decide_eq_false (by omega)) ?_
      refine s_pickF 45 rfl rfl rfl ?_
      refine SX.next ?_
      refine CW.condF rfl ?_
      refine CW.skip ?_
      refine KN.blk ?_
      refine KN.code ?_
      refine CW.reg [0, 1] rfl ?_
      refine s_add 47 rfl rfl rfl (r := ((1 : Nat) : Int)) rfl ?_
      refine s_mv 32 rfl rfl ?_
      refine SX.end_ ?_
      exact KN.back 1 ⟨rfl, rfl, rfl, rfl, rfl, rfl, rfl, rfl, rfl, trivial⟩ (fun _ h => h.pick [1] rfl) (by omega) (by omega)
    · skip
      refine CW.reg [0, 1, 2, 3] rfl ?_
      refine s_ia 34 rfl rfl rfl (by omega) ?_
      refine s_ldR 35 (cs := [.int .i64 ((np : Nat) : Int), .int .i64 64]) rfl rfl rfl (fun w hw => hw.blkPart (i := 0) rfl (two_at rfl rfl)) ?_
      refine s_alloc 15 rfl (fun _ _ => trivial) (fun b15 => ?_)
      refine s_stAll 0 rfl rfl (by kernel_rfl) rfl rfl rfl rfl (fun _ _ => trivial) ?_
      refine SX.next ?_
      refine CW.seq ?_
      refine CW.reg [0, 1, 2, 3, 4, 5, 6, 7, 8, 9] rfl ?_
      refine s_iaR 36 0 rfl rfl rfl rfl (by omega) ?_
      refine s_ldB 37 0 rfl rfl rfl (v := .int .i64 ((np : Nat) : Int)) rfl ?_
      refine s_lt 38 rfl rfl rfl (decide_eq_false (by omega)) ?_
      refine s_mv 39 rfl rfl ?_
      refine s_iaR 40 0 rfl rfl rfl rfl (by omega) ?_
      refine s_ldB 41 0 rfl rfl rfl (v := .int .i64 ((np : Nat) : Int)) rfl ?_
      refine s_iaR 42 1 rfl rfl rfl rfl (by omega) ?_
      refine s_ldB 43 0 rfl rfl rfl (v := .int .i64 64) rfl ?_
      refine s_gt 44 rfl rfl rfl (decide_eq_false (by omega)) ?_
      refine s_pickF 45 rfl rfl rfl ?_
      refine SX.next ?_
      refine CW.condF rfl ?_
      refine CW.skip ?_
      refine KN.blk ?_
      refine KN.code ?_
      refine CW.reg [0, 1] rfl ?_
      refine s_add 47 rfl rfl rfl (r := ((2 : Nat) : Int)) rfl ?_
      refine s_mv 32 rfl rfl ?_
      refine SX.end_ ?_
      exact KN.back 2 ⟨rfl, rfl, rfl, rfl, rfl, rfl, rfl, rfl, rfl, trivial⟩ (fun _ h => h.pick [1] rfl) (by omega) (by omega)
    · skip
      refine CW.reg [0, 1, 2, 3] rfl ?_
      refine s_ia 34 rfl rfl rfl (by omega) ?_
      refine s_ldR 35 (cs := [.int .i64 ((sz : Nat) : Int), .int .i64 4096]) rfl rfl rfl (fun w hw => hw.blkPart (i := 0) rfl (two_at rfl rfl)) ?_
      refine s_alloc 15 rfl (fun _ _ => trivial) (fun b15 => ?_)
      refine s_stAll 0 rfl rfl (by kernel_rfl) rfl rfl rfl rfl (fun _ _ => trivial) ?_
      refine SX.next ?_
      refine CW.seq ?_
      refine CW.reg [0, 1, 2, 3, 4, 5, 6, 7, 8, 9] rfl ?_
      refine s_iaR 36 0 rfl rfl rfl rfl (by omega) ?_
      refine s_ldB 37 0 rfl rfl rfl (v := .int .i64 ((sz : Nat) : Int)) rfl ?_
      refine s_lt 38 rfl rfl rfl (decide_eq_false (by omega)) ?_
      refine s_mv 39 rfl rfl ?_
      refine s_iaR 40 0 rfl rfl rfl rfl (by omega) ?_
      refine s_ldB 41 0 rfl rfl rfl (v := .int .i64 ((sz : Nat) : Int)) rfl ?_
      refine s_iaR 42 1 rfl rfl rfl rfl (by omega) ?_
      refine s_ldB 43 0 rfl rfl rfl (v := .int .i64 4096) rfl ?_
      refine s_gt 44 rfl rfl rfl (decide_eq_false (by omega)) ?_
      refine s_pickF 45 rfl rfl rfl ?_
      refine SX.next ?_
      refine CW.condF rfl ?_
      refine CW.skip ?_
      refine KN.blk ?_
      refine KN.code ?_
      refine CW.reg [0, 1] rfl ?_
      refine s_add 47 rfl rfl rfl (r := ((3 : Nat) : Int)) rfl ?_
      refine s_mv 32 rfl rfl ?_
      refine SX.end_ ?_
      exact KN.back 3 ⟨rfl, rfl, rfl, rfl, rfl, rfl, rfl, rfl, rfl, trivial⟩ (fun _ h => h.pick [1] rfl) (by omega) (by omega)
    · skip
      refine CW.reg [0, 1, 2, 3] rfl ?_
      refine s_ia 34 rfl rfl rfl (by omega) ?_
      refine s_ldR 35 (cs := [.int .i64 ((lv : Nat) : Int), .int .i64 8]) rfl rfl rfl (fun w hw => hw.blkPart (i := 0) rfl (two_at rfl rfl)) ?_
      refine s_alloc 15 rfl (fun _ _ => trivial) (fun b15 => ?_)
      refine s_stAll 0 rfl rfl (by kernel_rfl) rfl rfl rfl rfl (fun _ _ => trivial) ?_
      refine SX.next ?_
      refine CW.seq ?_
      refine CW.reg [0, 1, 2, 3, 4, 5, 6, 7, 8, 9] rfl ?_
      refine s_iaR 36 0 rfl rfl rfl rfl (by omega) ?_
      refine s_ldB 37 0 rfl rfl rfl (v := .int .i64 ((lv : Nat) : Int)) rfl ?_
      refine s_lt 38 rfl rfl rfl (decide_eq_false (by omega)) ?_
      refine s_mv 39 rfl rfl ?_
      refine s_iaR 40 0 rfl rfl rfl rfl (by omega) ?_
      refine s_ldB 41 0 rfl rfl rfl (v := .int .i64 ((lv : Nat) : Int)) rfl ?_
      refine s_iaR 42 1 rfl rfl rfl rfl (by omega) ?_
      refine s_ldB 43 0 rfl rfl rfl (v := .int .i64 8) rfl ?_
      refine s_gt 44 rfl rfl rfl (decide_eq_false (by omega)) ?_
      refine s_pickF 45 rfl rfl rfl ?_
      refine SX.next ?_
      refine CW.condF rfl ?_
      refine CW.skip ?_
      refine KN.blk ?_
      refine KN.code ?_
      refine CW.reg [0, 1] rfl ?_
      refine s_add 47 rfl rfl rfl (r := ((4 : Nat) : Int)) rfl ?_
      refine s_mv 32 rfl rfl ?_
      refine SX.end_ ?_
      exact KN.back 4 ⟨rfl, rfl, rfl, rfl, rfl, rfl, rfl, rfl, rfl, trivial⟩ (fun _ h => h.pick [1] rfl) (by omega) (by omega)
  · skip
    skip
    refine CW.exit rfl ?_
    refine KN.code ?_
    refine CW.seq ?_
    refine CW.reg [0, 1, 2, 3, 4, 5, 6, 7] rfl ?_
    refine s_mv 48 rfl rfl ?_
    refine s_mv 49 rfl rfl ?_
    refine s_mv 50 rfl rfl ?_
    refine s_mv 51 rfl rfl ?_
    refine s_makeR 52 nb (sz := 3) (by_ := 40) (zv := .agg #[.slice none 0 0, .int .i64 0, .bool false]) rfl rfl rfl rfl rfl (by decide) (by unfold maxLen; omega) (fun _ _ => trivial) (fun gB => ?_)
    refine s_build 53 rfl rfl (cells := #[.int .i64 ((np : Nat) : Int), .int .i64 ((sz : Nat) : Int), .int .i64 ((lv : Nat) : Int), .slice (some ⟨gB, 0, none⟩) nb nb, .slice none 0 0, .int .i64 0, .int .i64 0, .bool false, .nilFunc]) (by kernel_rfl) ?_
    refine s_box 54 rfl rfl (fun _ _ => trivial) (fun g => ?_)
    refine s_as 16 rfl rfl ?_
    refine SX.next ?_
    refine CW.seq ?_
    refine CW.seq ?_
    refine CW.reg [0, 1, 2, 3, 4, 5] rfl ?_
    refine s_mv 55 rfl rfl ?_
    refine s_nil 56 rfl rfl ?_
    refine s_fa 57 rfl rfl ?_
    refine s_ld 58 rfl rfl (v := .slice (some ⟨gB, 0, none⟩) nb nb) (fun _ hw => hw.blkCell (i := 0) (j := 3) rfl rfl) ?_
    refine s_len 59 rfl rfl ?_
    refine s_mv 60 rfl rfl ?_
    refine SX.next ?_
    refine CW.block ?_
    refine CW.loop (G := Nat × List BkG) (fun q => [(1, .int .i64 ((np : Nat) : Int)), (2, .int .i64 ((sz : Nat) : Int)), (4, .slice mA ms.length mc), (5, .slice pA pl.length pc), (16, .pointer (some ⟨g, 0, none⟩)), (59, .int .i64 ((nb : Nat) : Int)), (60, .int .i64 (q.1 : Nat))]) (fun q => Sto w [blk g 109 #[.int .i64 ((np : Nat) : Int), .int .i64 ((sz : Nat) : Int), .int .i64 ((lv : Nat) : Int), .slice (some ⟨gB, 0, none⟩) nb nb, .slice none 0 0, .int .i64 0, .int .i64 0, .bool false, .nilFunc], own 112 3 (some ⟨gB, 0, none⟩) nb nb (q.2.flatMap BkG.row), starA (q.2.map BkG.dat)]) (fun q => q.1 ≤ nb ∧ q.2.map BkG.abs = List.replicate q.1 (BkS.fresh np sz) ++ List.replicate (nb - q.1) BkS.nul) (fun q => nb - q.1) (0, List.replicate nb BkG.nul) ⟨rfl, rfl, rfl, rfl, rfl, rfl, rfl, trivial⟩ (fun _ h => by
  have h1 := h.pick [0, 0] rfl
  have h2 := St.many (fun L h => BkG.nul_dat _ _ _ L h) h1 nb
  rw [← List.map_replicate] at h2
  have e := flat_rep (row := BkG.row) BkG.nul nb
  have h3 := h2.pick [1, 1, 0] rfl
  simp only
  rw [e]
  exact h3) ⟨Nat.zero_le _, by rw [List.map_replicate]; rfl⟩ ?_
    rintro ⟨i, bs⟩ ⟨hi, hbs⟩
    simp only at hi hbs
    dsimp only
    have hbl := rep_len hbs hi
    refine CW.seq ?_
    refine CW.reg [0] rfl ?_
    refine s_lt 61 rfl rfl rfl rfl ?_
    refine SX.next ?_
    refine CW.seq ?_
    refine CW.test rfl (fun hc => ?_) (fun hc => ?_)
    · skip
      have hil : i < nb := by omega
      obtain ⟨b0, hb0⟩ : ∃ b0, bs[i]? = some b0 := ⟨_, List.getElem?_eq_getElem (by omega)⟩
      have hb0a := rep_at hbs hil hb0
      refine CW.skip ?_
      refine KN.code ?_
      refine CW.seq ?_
      refine CW.block ?_
      refine CW.seq ?_
      refine CW.reg [0, 1] rfl ?_
      refine s_mv 62 rfl rfl ?_
      refine s_as 17 rfl rfl ?_
      refine SX.next ?_
      refine CW.seq ?_
      refine CW.regD (.st true 0 (.st true 1 (.st true 2 (.st true 3 (.st true 4 (.st true 5 (.st false 6 (.st true 7 (.st true 8 (.st false 9 .done)))))))))) (Sto w [blk g 109 #[.int .i64 ((np : Nat) : Int), .int .i64 ((sz : Nat) : Int), .int .i64 ((lv : Nat) : Int), .slice (some ⟨gB, 0, none⟩) nb nb, .slice none 0 0, .int .i64 0, .int .i64 0, .bool false, .nilFunc]]) mixed (by kernel_rfl) (fun _ h => h.drew) (fun _ h => h.pick [0] rfl) ?_
      refine s_mv 63 rfl rfl ?_
      refine s_nil 64 rfl rfl ?_
      refine s_fa 65 rfl rfl ?_
      refine s_ldS 66 rfl rfl (v := .slice (some ⟨gB, 0, none⟩) nb nb) (fun _ hw => hw.blkCell (i := 0) (j := 3) rfl rfl) ?_
      refine s_mv 67 rfl rfl ?_
      refine s_mv 68 rfl rfl ?_
      refine s_makeR 69 np (sz := 3) (by_ := 56) (zv := .agg #[.slice none 0 0, .slice none 0 0, .bool false]) rfl rfl rfl rfl rfl (by decide) (by unfold maxLen; omega) (fun _ h => h.pick [0] rfl) (fun gp => ?_)
      refine s_iaOS 70 2 i rfl rfl rfl rfl rfl hil ?_
      refine s_fa 71 rfl rfl ?_
      refine s_stOS 2 (j := i * 3 + 0) rfl rfl rfl rfl rfl (by omega) (fun _ h => h.pick [1] rfl) ?_
      refine SX.next ?_
      refine CW.seq ?_
      have hset : (bs.set i ({ b0 with A := some ⟨gp, 0, none⟩, c := np, pages := List.replicate np PgG.nul } : BkG))[i]? = some ({ b0 with A := some ⟨gp, 0, none⟩, c := np, pages := List.replicate np PgG.nul } : BkG) := by rw [List.getElem?_set_self (by omega)]
      refine CW.pre (C' := Sto w [own 115 3 (some ⟨gp, 0, none⟩) np np ((List.replicate np PgG.nul).flatMap PgG.row), starA ((List.replicate np PgG.nul).map PgG.dat), blk g 109 #[.int .i64 ((np : Nat) : Int), .int .i64 ((sz : Nat) : Int), .int .i64 ((lv : Nat) : Int), .slice (some ⟨gB, 0, none⟩) nb nb, .slice none 0 0, .int .i64 0, .int .i64 0, .bool false, .nilFunc], own 112 3 (some ⟨gB, 0, none⟩) nb nb ((bs.set i ({ b0 with A := some ⟨gp, 0, none⟩, c := np, pages := List.replicate np PgG.nul } : BkG)).flatMap BkG.row), starA ((bs.map BkG.dat).eraseIdx i)]) (fun _ h => by
        have h1 := h.pick [3, 0, 0, 0] rfl
        have h2 := (h1.focus (i := i) (A := b0.dat) (by rw [List.getElem?_map, hb0]; rfl)).tail
        have h3 := St.many (fun L h => PgG.nul_dat _ _ _ L h) h2 np
        rw [← List.map_replicate] at h3
        have e := flat_rep (row := PgG.row) PgG.nul np
        have e2 := flat_set (row := BkG.row) bkRow_len hb0 (j := 0) (v := .slice (some ⟨gp, 0, none⟩) np np) (b := ({ b0 with A := some ⟨gp, 0, none⟩, c := np, pages := List.replicate np PgG.nul } : BkG)) (by decide) (by unfold BkG.row; rw [List.length_replicate]; rfl)
        rw [e, e2]
        exact h3.pick [2, 0, 1, 1, 0] rfl) ?_
      refine CW.reg [0, 1, 2, 3, 4, 5, 6, 7, 8, 9] rfl ?_
      refine s_mv 72 rfl rfl ?_
      refine s_nil 73 rfl rfl ?_
      refine s_fa 74 rfl rfl ?_
      refine s_ld 75 rfl rfl (v := .slice (some ⟨gB, 0, none⟩) nb nb) (fun _ hw => hw.blkCell (i := 2) (j := 3) rfl rfl) ?_
      refine s_mv 76 rfl rfl ?_
      refine s_iaV 77 i (fun w hw => (hw.has (i := 3) rfl).of_own) rfl rfl rfl rfl hil ?_
      refine s_fa 78 rfl rfl ?_
      refine s_ld 79 rfl rfl (v := .slice (some ⟨gp, 0, none⟩) np np) (fun _ hw => ((hw.has (i := 3) rfl).of_own).rowAt bkRow_len hset (by omega) 0 _ (by unfold BkG.row; rw [List.length_replicate]; rfl)) ?_
      refine s_len 80 rfl rfl ?_
      refine s_mv 81 rfl rfl ?_
      refine SX.next ?_
      refine CW.block ?_
      refine CW.loop (G := Nat × List PgG) (fun q => [(1, .int .i64 ((np : Nat) : Int)), (2, .int .i64 ((sz : Nat) : Int)), (4, .slice mA ms.length mc), (5, .slice pA pl.length pc), (16, .pointer (some ⟨g, 0, none⟩)), (59, .int .i64 ((nb : Nat) : Int)), (60, .int .i64 (i : Nat)), (17, .int .i64 (i : Nat)), (80, .int .i64 ((np : Nat) : Int)), (81, .int .i64 (q.1 : Nat))]) (fun q => Sto w [own 115 3 (some ⟨gp, 0, none⟩) np np (q.2.flatMap PgG.row), starA (q.2.map PgG.dat), blk g 109 #[.int .i64 ((np : Nat) : Int), .int .i64 ((sz : Nat) : Int), .int .i64 ((lv : Nat) : Int), .slice (some ⟨gB, 0, none⟩) nb nb, .slice none 0 0, .int .i64 0, .int .i64 0, .bool false, .nilFunc], own 112 3 (some ⟨gB, 0, none⟩) nb nb ((bs.set i ({ b0 with A := some ⟨gp, 0, none⟩, c := np, pages := List.replicate np PgG.nul } : BkG)).flatMap BkG.row), starA ((bs.map BkG.dat).eraseIdx i)]) (fun q => q.1 ≤ np ∧ q.2.map PgG.abs = List.replicate q.1 (PgS.bare sz) ++ List.replicate (np - q.1) PgS.nul) (fun q => np - q.1) (0, List.replicate np PgG.nul) ⟨rfl, rfl, rfl, rfl, rfl, rfl, rfl, rfl, rfl, rfl, trivial⟩ (fun _ h => h) ⟨Nat.zero_le _, by rw [List.map_replicate]; rfl⟩ ?_
      rintro ⟨k, ps⟩ ⟨hk, hps⟩
      simp only at hk hps
      dsimp only
      have hpl := rep_len hps hk
      refine CW.seq ?_
      refine CW.reg [0] rfl ?_
      refine s_lt 82 rfl rfl rfl rfl ?_
      refine SX.next ?_
      refine CW.seq ?_
      refine CW.test rfl (fun hc => ?_) (fun hc => ?_)
      · skip
        have hkl : k < np := by omega
        obtain ⟨p0, hp0⟩ : ∃ p0, ps[k]? = some p0 := ⟨_, List.getElem?_eq_getElem (by omega)⟩
        have hp0a := rep_at hps hkl hp0
        refine CW.skip ?_
        refine KN.code ?_
        refine CW.seq ?_
        refine CW.block ?_
        refine CW.seq ?_
        refine CW.reg [0, 1] rfl ?_
        refine s_mv 83 rfl rfl ?_
        refine s_as 18 rfl rfl ?_
        refine SX.next ?_
        refine CW.regD (.st true 0 (.st true 1 (.st true 2 (.st true 3 (.st true 4 (.st true 5 (.st true 6 (.st true 7 (.st true 8 (.st true 9 (.st false 10 (.st true 11 (.st true 12 (.st false 13 .done)))))))))))))) (Sto w [blk g 109 #[.int .i64 ((np : Nat) : Int), .int .i64 ((sz : Nat) : Int), .int .i64 ((lv : Nat) : Int), .slice (some ⟨gB, 0, none⟩) nb nb, .slice none 0 0, .int .i64 0, .int .i64 0, .bool false, .nilFunc], own 112 3 (some ⟨gB, 0, none⟩) nb nb ((bs.set i ({ b0 with A := some ⟨gp, 0, none⟩, c := np, pages := List.replicate np PgG.nul } : BkG)).flatMap BkG.row)]) mixed (by kernel_rfl) (fun _ h => h.drew) (fun _ h => h.pick [2, 2] rfl) ?_
        refine s_mv 84 rfl rfl ?_
        refine s_nil 85 rfl rfl ?_
        refine s_fa 86 rfl rfl ?_
        refine s_ldS 87 rfl rfl (v := .slice (some ⟨gB, 0, none⟩) nb nb) (fun _ hw => hw.blkCell (i := 0) (j := 3) rfl rfl) ?_
        refine s_mv 88 rfl rfl ?_
        refine s_iaV 89 i (fun w hw => (hw.has (i := 3) rfl).of_own) rfl rfl rfl rfl hil ?_
        refine s_fa 90 rfl rfl ?_
        refine s_ldS 91 rfl rfl (v := .slice (some ⟨gp, 0, none⟩) np np) (fun _ hw => ((hw.has (i := 1) rfl).of_own).rowAt bkRow_len hset (by omega) 0 _ (by unfold BkG.row; rw [List.length_replicate]; rfl)) ?_
        refine s_mv 92 rfl rfl ?_
        refine s_mv 93 rfl rfl ?_
        refine s_call 94 rfl rfl rfl rfl (fun w hw => full_spec sz w (by omega) (by omega)) (fun _ h => h.pick [2, 2] rfl) (fun zo hzo => ?_)
        refine s_iaOS 95 1 k rfl rfl rfl rfl rfl hkl ?_
        refine s_fa 96 rfl rfl ?_
        refine s_stOS 1 (j := k * 3 + 0) rfl rfl rfl rfl rfl (by omega) (fun _ h => h.pick [3, 3] rfl) ?_
        refine SX.end_ ?_
        refine KN.blk ?_
        refine KN.code ?_
        refine CW.reg [0, 1] rfl ?_
        refine s_add 97 rfl rfl rfl (r := ((k + 1 : Nat) : Int)) (w64 (by omega)) ?_
        refine s_mv 81 rfl rfl ?_
        refine SX.end_ ?_
        exact KN.back (k + 1, ps.set k ({ p0 with A := zo.1, c := zo.2, l := List.replicate sz 255 } : PgG)) ⟨rfl, rfl, rfl, rfl, rfl, rfl, rfl, rfl, rfl, rfl, trivial⟩ (fun _ h => by
          have h1 := h.pick [2, 0, 0, 0, 0, 0] rfl
          have h2 := St.pgPut hp0 h1
          have e2 := flat_set (row := PgG.row) pgRow_len hp0 (j := 0) (v := .slice zo.1 (List.replicate sz 255).length zo.2) (b := ({ p0 with A := zo.1, c := zo.2, l := List.replicate sz 255 } : PgG)) (by decide) rfl
          simp only
          rw [e2]
          exact h2.pick [1, 0, 0, 0, 0] rfl) ⟨by simp only; omega, by simp only; exact rep_next hps hkl (by
            unfold PgG.abs at hp0a ⊢
            injection hp0a with q1 q2 q3
            simp only [q2, q3]
            rfl)⟩ (by simp only; omega)
      · skip
        obtain rfl : np = k := by omega
        rw [Nat.sub_self, List.replicate_zero, List.append_nil] at hps
        refine CW.exit rfl ?_
        refine KN.blk ?_
        refine KN.code ?_
        refine CW.reg [0, 1] rfl ?_
        refine s_add 98 rfl rfl rfl (r := ((i + 1 : Nat) : Int)) (w64 (by omega)) ?_
        refine s_mv 60 rfl rfl ?_
        refine SX.end_ ?_
        exact KN.back (i + 1, bs.set i ({ b0 with A := some ⟨gp, 0, none⟩, c := np, pages := ps } : BkG)) ⟨rfl, rfl, rfl, rfl, rfl, rfl, rfl, trivial⟩ (fun w_ h => by
          have h0 : Sto w [(({ b0 with A := some ⟨gp, 0, none⟩, c := np, pages := ps } : BkG)).rows, starA ((({ b0 with A := some ⟨gp, 0, none⟩, c := np, pages := ps } : BkG)).pages.map PgG.dat), starA ((bs.map BkG.dat).eraseIdx i), blk g 109 #[.int .i64 ((np : Nat) : Int), .int .i64 ((sz : Nat) : Int), .int .i64 ((lv : Nat) : Int), .slice (some ⟨gB, 0, none⟩) nb nb, .slice none 0 0, .int .i64 0, .int .i64 0, .bool false, .nilFunc], own 112 3 (some ⟨gB, 0, none⟩) nb nb ((bs.set i ({ b0 with A := some ⟨gp, 0, none⟩, c := np, pages := List.replicate np PgG.nul } : BkG)).flatMap BkG.row)] w_ := by
            unfold BkG.rows
            simp only [hpl]
            exact h.pick [0, 0, 2, 0, 0] rfl
          have h1 := St.bkI (by omega) h0
          have e2 : (bs.set i ({ b0 with A := some ⟨gp, 0, none⟩, c := np, pages := List.replicate np PgG.nul } : BkG)).flatMap BkG.row = (bs.set i ({ b0 with A := some ⟨gp, 0, none⟩, c := np, pages := ps } : BkG)).flatMap BkG.row := by
            rw [flat_row bkRow_len (by omega), flat_row bkRow_len (by omega)]
            congr 2
            unfold BkG.row
            simp only [hpl, List.length_replicate]
          simp only
          rw [← e2]
          exact h1.pick [1, 1, 0] rfl) ⟨by simp only; omega, by simp only; exact rep_next hbs hil (by
            unfold BkG.abs at hb0a ⊢
            injection hb0a with q1 q2 q3
            simp only [q2, q3, hps]
            rfl)⟩ (by simp only; omega)
    · skip
      obtain rfl : nb = i := by omega
      rw [Nat.sub_self, List.replicate_zero, List.append_nil] at hbs
      refine CW.exit rfl ?_
      refine KN.code ?_
      refine CW.seq ?_
      refine CW.seq ?_
      refine CW.reg [0, 1, 2] rfl ?_
      refine s_mv 99 rfl rfl ?_
      refine s_len 100 rfl rfl ?_
      refine s_mv 101 rfl rfl ?_
      refine SX.next ?_
      refine CW.block ?_
      refine CW.loop (G := Nat × List BkG) (fun q => [(5, .slice pA pl.length pc), (16, .pointer (some ⟨g, 0, none⟩)), (99, .slice mA ms.length mc), (100, .int .i64 (ms.length : Nat)), (101, .int .i64 (q.1 : Nat))]) (fun q => Sto w [chipA g (⟨(np : Nat), (sz : Nat), (lv : Nat), some ⟨gB, 0, none⟩, q.2.length, q.2, none, 0, [], 0, 0, false, .nilFunc⟩ : ChG)]) (fun q => (q.1 ≤ ms.length ∧ q.2.map BkG.abs = (ms.take q.1).foldl markB (List.replicate nb (BkS.fresh np sz)))) (fun q => ms.length - q.1) (0, bs) ⟨rfl, rfl, rfl, rfl, rfl, trivial⟩ (fun w_ h => by
  have h1 := (h.begin_ 48 5).starNil
  have h2 := h1.pick [2, 2, 2, 1, 0] rfl
  have h3 : Sto w [(⟨(np : Nat), (sz : Nat), (lv : Nat), some ⟨gB, 0, none⟩, bs.length, bs, none, 0, [], 0, 0, false, .nilFunc⟩ : ChG).hd g, (⟨(np : Nat), (sz : Nat), (lv : Nat), some ⟨gB, 0, none⟩, bs.length, bs, none, 0, [], 0, 0, false, .nilFunc⟩ : ChG).bks, (⟨(np : Nat), (sz : Nat), (lv : Nat), some ⟨gB, 0, none⟩, bs.length, bs, none, 0, [], 0, 0, false, .nilFunc⟩ : ChG).bst, (⟨(np : Nat), (sz : Nat), (lv : Nat), some ⟨gB, 0, none⟩, bs.length, bs, none, 0, [], 0, 0, false, .nilFunc⟩ : ChG).fts, (⟨(np : Nat), (sz : Nat), (lv : Nat), some ⟨gB, 0, none⟩, bs.length, bs, none, 0, [], 0, 0, false, .nilFunc⟩ : ChG).fst] w_ := by
    have e1 : (⟨(np : Nat), (sz : Nat), (lv : Nat), some ⟨gB, 0, none⟩, bs.length, bs, none, 0, [], 0, 0, false, .nilFunc⟩ : ChG).hd g = blk g 109 #[.int .i64 ((np : Nat) : Int), .int .i64 ((sz : Nat) : Int), .int .i64 ((lv : Nat) : Int), .slice (some ⟨gB, 0, none⟩) nb nb, .slice none 0 0, .int .i64 0, .int .i64 0, .bool false, .nilFunc] := by unfold ChG.hd ChG.cells; simp only [hbl]; try rfl
    have e2 : (⟨(np : Nat), (sz : Nat), (lv : Nat), some ⟨gB, 0, none⟩, bs.length, bs, none, 0, [], 0, 0, false, .nilFunc⟩ : ChG).bks = own 112 3 (some ⟨gB, 0, none⟩) nb nb (bs.flatMap BkG.row) := by unfold ChG.bks; simp only [hbl]; try rfl
    rw [e1, e2]
    exact h2
  exact h3.chipC) ⟨Nat.zero_le _, hbs⟩ ?_
      rintro ⟨j, cs⟩ ⟨hj, hcs⟩
      simp only at hj hcs
      dsimp only
      have hcl : cs.length = nb := by
        have := congrArg List.length hcs
        rw [List.length_map, marks_len, List.length_replicate] at this
        exact this
      refine CW.seq ?_
      refine CW.reg [0] rfl ?_
      refine s_lt 102 rfl rfl rfl rfl ?_
      refine SX.next ?_
      refine CW.seq ?_
      refine CW.test rfl (fun hc => ?_) (fun hc => ?_)
      · skip
        have hjl : j < ms.length := by omega
        have hmj : ms[j]? = some (ms.getD j 0) := by rw [List.getD_eq_getElem?_getD, List.getElem?_eq_getElem hjl]; rfl
        obtain ⟨hm0, hm1⟩ := hms _ (List.mem_of_getElem? hmj)
        refine CW.skip ?_
        refine KN.code ?_
        refine CW.seq ?_
        refine CW.block ?_
        refine CW.seq ?_
        refine CW.reg [0, 1, 2] rfl ?_
        refine s_iaV 103 j (fun w hw => hw.old hM) rfl rfl rfl rfl hjl ?_
        refine s_ldV 104 (fun w hw => hw.old hM) rfl rfl (by rw [Nat.mul_one]; exact intsAt hjl) (by omega) ?_
        refine s_as 20 rfl rfl ?_
        refine SX.next ?_
        refine CW.seq ?_
        refine CW.seq ?_
        refine CW.reg [0, 1, 2, 3] rfl ?_
        refine s_mv 105 rfl rfl ?_
        refine s_mv 106 rfl rfl ?_
        refine s_call1 107 rfl rfl rfl rfl (v := .bool true) (fun w hw => by have := chas_spec g (⟨(np : Nat), (sz : Nat), (lv : Nat), some ⟨gB, 0, none⟩, cs.length, cs, none, 0, [], 0, 0, false, .nilFunc⟩ : ChG) (ms.getD j 0) w (hw.has (i := 0) rfl); rw [has_eq, decide_eq_true (show 0 ≤ (ms.getD j 0) ∧ (ms.getD j 0) < (((⟨(np : Nat), (sz : Nat), (lv : Nat), some ⟨gB, 0, none⟩, cs.length, cs, none, 0, [], 0, 0, false, .nilFunc⟩ : ChG)).blocks.length : Int) from ⟨hm0, by show (ms.getD j 0) < (cs.length : Int); omega⟩)] at this; exact this) (fun _ _ => trivial) ?_
        refine s_not 108 rfl rfl ?_
        refine SX.next ?_
        refine CW.condF rfl ?_
        refine CW.skip ?_
        refine KN.code ?_
        obtain ⟨m, hm⟩ := Int.eq_ofNat_of_zero_le hm0
        have hmc : m < cs.length := by omega
        obtain ⟨bm, hbm⟩ : ∃ bm, cs[m]? = some bm := ⟨_, List.getElem?_eq_getElem hmc⟩
        refine CW.pre (fun _ h => h.chipO) ?_
        refine CW.reg [0, 1, 2, 3, 4, 5, 6, 7] rfl ?_
        refine s_mv 110 rfl rfl ?_
        refine s_nil 111 rfl rfl ?_
        refine s_fa 112 rfl rfl ?_
        refine s_ld 113 rfl rfl (v := .slice (some ⟨gB, 0, none⟩) cs.length cs.length) (fun _ hw => hw.blkCell (i := 0) (j := 3) rfl rfl) ?_
        refine s_mv 114 rfl rfl ?_
        refine s_iaOS 115 1 m rfl rfl rfl rfl hm hmc ?_
        refine s_fa 116 rfl rfl ?_
        refine s_stOS 1 (j := m * 3 + 2) rfl rfl rfl rfl rfl (by show m * 3 + 2 < cs.length * 3; omega) (fun _ _ => trivial) ?_
        refine SX.end_ ?_
        refine KN.blk ?_
        refine KN.code ?_
        refine CW.reg [0, 1] rfl ?_
        refine s_add 117 rfl rfl rfl (r := ((j + 1 : Nat) : Int)) (w64 (by omega)) ?_
        refine s_mv 101 rfl rfl ?_
        refine SX.end_ ?_
        exact KN.back (j + 1, (cs.set m { bm with marked := true })) ⟨rfl, rfl, rfl, rfl, rfl, trivial⟩ (fun w_ h => by
          have h3 : Sto w [(⟨(np : Nat), (sz : Nat), (lv : Nat), some ⟨gB, 0, none⟩, (cs.set m { bm with marked := true }).length, (cs.set m { bm with marked := true }), none, 0, [], 0, 0, false, .nilFunc⟩ : ChG).hd g, (⟨(np : Nat), (sz : Nat), (lv : Nat), some ⟨gB, 0, none⟩, (cs.set m { bm with marked := true }).length, (cs.set m { bm with marked := true }), none, 0, [], 0, 0, false, .nilFunc⟩ : ChG).bks, (⟨(np : Nat), (sz : Nat), (lv : Nat), some ⟨gB, 0, none⟩, (cs.set m { bm with marked := true }).length, (cs.set m { bm with marked := true }), none, 0, [], 0, 0, false, .nilFunc⟩ : ChG).bst, (⟨(np : Nat), (sz : Nat), (lv : Nat), some ⟨gB, 0, none⟩, (cs.set m { bm with marked := true }).length, (cs.set m { bm with marked := true }), none, 0, [], 0, 0, false, .nilFunc⟩ : ChG).fts, (⟨(np : Nat), (sz : Nat), (lv : Nat), some ⟨gB, 0, none⟩, (cs.set m { bm with marked := true }).length, (cs.set m { bm with marked := true }), none, 0, [], 0, 0, false, .nilFunc⟩ : ChG).fst] w_ := by
            have e1 : (⟨(np : Nat), (sz : Nat), (lv : Nat), some ⟨gB, 0, none⟩, (cs.set m { bm with marked := true }).length, (cs.set m { bm with marked := true }), none, 0, [], 0, 0, false, .nilFunc⟩ : ChG).hd g = (⟨(np : Nat), (sz : Nat), (lv : Nat), some ⟨gB, 0, none⟩, cs.length, cs, none, 0, [], 0, 0, false, .nilFunc⟩ : ChG).hd g := by unfold ChG.hd ChG.cells; simp only [List.length_set]; try rfl
            have e2 : (⟨(np : Nat), (sz : Nat), (lv : Nat), some ⟨gB, 0, none⟩, (cs.set m { bm with marked := true }).length, (cs.set m { bm with marked := true }), none, 0, [], 0, 0, false, .nilFunc⟩ : ChG).bks = own 112 3 (some ⟨gB, 0, none⟩) cs.length cs.length ((cs.flatMap BkG.row).set (m * 3 + 2) (.bool true)) := by
              unfold ChG.bks
              simp only [List.length_set]
              congr 1
              exact flat_set (row := BkG.row) bkRow_len hbm (j := 2) (by decide) rfl
            have e3 : (⟨(np : Nat), (sz : Nat), (lv : Nat), some ⟨gB, 0, none⟩, (cs.set m { bm with marked := true }).length, (cs.set m { bm with marked := true }), none, 0, [], 0, 0, false, .nilFunc⟩ : ChG).bst = (⟨(np : Nat), (sz : Nat), (lv : Nat), some ⟨gB, 0, none⟩, cs.length, cs, none, 0, [], 0, 0, false, .nilFunc⟩ : ChG).bst := by
              unfold ChG.bst
              simp only [List.map_set]
              rw [List.set_eq_self (by rw [List.getElem?_map, hbm]; rfl)]
            rw [e1, e2, e3]
            exact h
          exact h3.chipC) ⟨by simp only; omega, by
            simp only
            rw [List.take_add_one, hmj, List.foldl_append, ← hcs, List.map_set]
            show _ = markB (cs.map BkG.abs) (ms.getD j 0)
            unfold markB
            rw [hm, Int.toNat_natCast, List.getD_eq_getElem?_getD, List.getElem?_map, hbm]
            rfl⟩ (by simp only; omega)
      · skip
        obtain rfl : j = ms.length := by omega
        rw [List.take_length] at hcs
        refine CW.exit rfl ?_
        refine KN.code ?_
        refine CW.seq ?_
        refine CW.seq ?_
        refine CW.reg [0, 1, 2, 3] rfl ?_
        refine s_mv 118 rfl rfl ?_
        refine s_mv 119 rfl rfl ?_
        refine s_callP 120 [0] (M := [chipA g (⟨(np : Nat), (sz : Nat), (lv : Nat), some ⟨gB, 0, none⟩, cs.length, cs, none, 0, [], 0, 0, false, .nilFunc⟩ : ChG)]) (R := []) (X := ChG) (v := fun _ => .nilIface) (pf := fun z => z.abs = { (⟨(np : Nat), (sz : Nat), (lv : Nat), some ⟨gB, 0, none⟩, cs.length, cs, none, 0, [], 0, 0, false, .nilFunc⟩ : ChG).abs with plan := pl.map FtG.abs } ∧ z.watch = .nilFunc) (M' := fun z => [chipA g z]) rfl rfl rfl rfl rfl (fun F' w' hR hM2 => by have := plan_spec F' g (⟨(np : Nat), (sz : Nat), (lv : Nat), some ⟨gB, 0, none⟩, cs.length, cs, none, 0, [], 0, 0, false, .nilFunc⟩ : ChG) pA pc pl e w' (fun w2 hf => (hR w2 hf).er hE) (fun w2 hf => hP.turn ((hR w2 hf).fr)) hM2; simp only [if_neg (show ¬ 1000 < pl.length by omega)] at this; exact this) (fun _ _ _ => trivial) (fun x hx => ?_)
        refine s_as 21 rfl rfl ?_
        refine SX.next ?_
        refine CW.seq ?_
        refine CW.reg [0, 1] rfl ?_
        refine s_mv 121 rfl rfl ?_
        refine s_neNN 122 rfl rfl ?_
        refine SX.next ?_
        refine CW.condF rfl ?_
        refine CW.skip ?_
        refine KN.code ?_
        refine CW.seq ?_
        refine CW.reg [0, 1, 2] rfl ?_
        refine s_mv 124 rfl rfl ?_
        refine s_as 12 rfl rfl ?_
        refine s_as 13 rfl rfl ?_
        refine SX.next ?_
        refine CW.ret ?_
        exact KN.ret (rs := [.tmp 12, .tmp 13]) Tryd.results13 rfl (fun w hw => ⟨(g, x), rfl, ⟨by rw [hx.1]; unfold ChS.new ChG.abs; simp only [hcs], hx.2⟩, hw⟩)
end Go.Proofs.YtcapijdokbkgaaaDoor
end
section
/- Package chip: a clone. Conditions: the chip is read where it lies. -/
namespace Go.Proofs.YtcapijdokbkgaaaDoor
open Go Go.Sx Go.Fm
set_option maxRecDepth 100000
end Go.Proofs.YtcapijdokbkgaaaDoor
end
