/- Slices begun with room, many slices of the walk's own at once. No condition. -/
import Derived.Test.YtcjddlcinaedaaaDoorOps6
namespace Go.Sx
open Go

theorem run_makeSlC {P : Program} {w : World} {T E by_ : Nat} {z : Value} [h : SlT P T E 1 by_ z] (hz : oneCell z = true) {k k' : IntKind} {n : Int} (h0 : 0 ≤ n) (hb : (by_ : Int) * n ≤ 281474976710656) (hn : n ≤ 9223372036854775807) :
    (Instr.makeSlice T (.int k 0) (.int k' n)).run P w = .ok (.slice (some ⟨w.heap.size, 0, none⟩) 0 n.toNat) (w.alloc (.cells (List.replicate n.toNat z).toArray E)) := by
  obtain ⟨i, hi, hs, hby, hz'⟩ := h.info
  have := run_make (P := P) w T E i z h.under hi hz' k k' 0 n (Int.le_refl _) h0 (by rw [hby]; exact hb) hn
  rw [this, cells_of_one hz, hs, Nat.mul_one]
  congr 3
  rw [← toList_madeCells_one]
section
variable {F : Nat → Prop} {w₀ w : World} {L : List Atom}
theorem St.blkOwnM {q g E sz m c : Nat} {cs : Array Value} (hi : L[q]? = some (blk g E cs)) (hc : cs.size = c * sz) (hmc : m ≤ c) (hm : c ≤ maxLen) (h : St F w₀ L w) : St F w₀ (L.set q (own E sz (some ⟨g, 0, none⟩) m c (cs.toList.take (m * sz)))) w :=
  h.swap hi (fun _ D ⟨h1, h2⟩ _ => ⟨D, ⟨⟨by rw [List.length_take, Array.length_toList, hc]; exact Nat.min_eq_left (Nat.mul_le_mul_right _ hmc), .inr ⟨g, c, cs, rfl, Nat.zero_le _, h2, hmc, hm, hc, rfl⟩⟩, fun k => by rw [h1]; simp [ob]⟩, fun _ h => h⟩)
theorem St.ownMax {q E sz m c : Nat} {A : Option Addr} {xs : List Value} (hi : L[q]? = some (own E sz A m c xs)) (h : St F w₀ L w) : m ≤ maxLen := by
  obtain ⟨D, ⟨⟨h1, h2⟩, _⟩, _⟩ := h.sep.at_ hi
  rcases h2 with ⟨h2, h3⟩ | ⟨g, cap, cur, hv, _, _, hc, hm, _⟩
  · rw [h3]; exact Nat.zero_le _
  · exact Nat.le_trans hc hm
theorem St.tail {A : Atom} (h : St F w₀ (A :: L) w) : St F w₀ L w := ⟨h.fr, h.lt, h.sep.tail⟩
theorem St.dropL : ∀ (X : List Atom), St F w₀ (X ++ L) w → St F w₀ L w
  | [], h => h
  | _ :: X, h => St.dropL X h.tail
end
section
variable {P : Program} {ops : Array Oper} {S : World → Prop} {K : Act → World → Prop} {p : Plan} {n : Nat} {l : List (Nat × Value)} {i : Nat} {ty ty' : TypeId} {x y : Operand} {F : Nat → Prop} {w₀ : World} {L : List Atom}
/-- A slice of length 0 with room for q. -/
theorem s_makeC (d q : Nat) {E by_ : Nat} {zv : Value} {k k' : IntKind} {m : Int} (ho : opAt ops n l i = some (some d, .makeSlice ty' x y, ty)) [SlT P ty' E 1 by_ zv] (hx : ev l x = some (.int k 0)) (hy : ev l y = some (.int k' m))
    (hq : m = (q : Nat)) (hz : oneCell zv = true) (hm : by_ * q ≤ 281474976710656 ∧ q ≤ maxLen) (hS : ∀ w, St F w₀ L w → S w)
    (h : ∀ g, SX P ops S K p n ((d, .slice (some ⟨g, 0, none⟩) 0 q) :: l) (St F w₀ (own E 1 (some ⟨g, 0, none⟩) 0 q [] :: L))) : SX P ops S K (.st false i p) n l (St F w₀ L) :=
  s_new d (v := fun g => .slice (some ⟨g, 0, none⟩) 0 q) (T := E) (cs := (List.replicate q zv).toArray) ho (fun a w o he h1 _ => by
    subst hq
    have hb : (by_ : Int) * (q : Nat) ≤ 281474976710656 := by rw [← Int.natCast_mul]; omega
    have := run_makeSlC (P := P) (w := w) (T := ty') (k := k) (k' := k') hz (n := (q : Nat)) (by omega) hb (by have := hm.2; unfold maxLen at this; omega)
    rw [Int.toNat_natCast] at this
    simp only [execOp, h1, he.ev hx, he.ev hy, Sem.run_bind, this, Result.andThen_ok, Sem.run_pure]) hS (fun g => SX.pre (fun _ hw => by
      have := hw.blkOwnM (q := 0) (m := 0) (c := q) (sz := 1) rfl (by simp) (Nat.zero_le _) hm.2
      simpa using this) (h g))
end

/-- A slice with what lies in it. -/
structure Rw where
  A : Option Addr
  n : Nat
  c : Nat
  xs : List Value
def Rw.hdr (q : Rw) : Value := .slice q.A q.n q.c
def ownR (E : TypeId) (q : Rw) : Atom := own E 1 q.A q.n q.c q.xs
theorem rows_at {E : TypeId} {B : Atom} {qs : List Rw} {rest : List Atom} {i : Nat} {q : Rw} (h : qs[i]? = some q) : (B :: (qs.map (ownR E) ++ rest))[i + 1]? = some (own E 1 q.A q.n q.c q.xs) := by
  have hl := (List.getElem?_eq_some_iff.1 h).1
  rw [List.getElem?_cons_succ, List.getElem?_append_left (by simpa using hl), List.getElem?_map, h]
  rfl
theorem rows_set {E : TypeId} {B : Atom} {qs : List Rw} {rest : List Atom} {i : Nat} {q : Rw} (xs : List Value) (h : qs[i]? = some q) : (B :: (qs.map (ownR E) ++ rest)).set (i + 1) (own E 1 q.A q.n q.c xs) = B :: ((qs.set i ⟨q.A, q.n, q.c, xs⟩).map (ownR E) ++ rest) := by
  have hl := (List.getElem?_eq_some_iff.1 h).1
  rw [List.set_cons_succ, List.set_append_left _ _ (by simpa using hl), List.map_set]
  rfl
theorem rows_hdr {qs : List Rw} {i : Nat} {q : Rw} (xs : List Value) (h : qs[i]? = some q) : (qs.set i ⟨q.A, q.n, q.c, xs⟩).map Rw.hdr = qs.map Rw.hdr := by
  apply List.ext_getElem?
  intro j
  rw [List.getElem?_map, List.getElem?_map, List.getElem?_set]
  by_cases hj : i = j
  · subst hj
    have hl := (List.getElem?_eq_some_iff.1 h).1
    rw [if_pos rfl, if_pos hl, h]
    rfl
  · rw [if_neg hj]
end Go.Sx
