/- Lists of numbers in memory, and what a slice of numbers that comes in gives a walk. No condition. -/
import Derived.Test.YtcjddlcinaedaaaDoorOps6
import Derived.ChangeSlices
import Derived.WideShapes
namespace Go.Sx
open Go Go.ChangeShapes Go.WideShapes

/-- The cells of a list of numbers. -/
def ints (k : IntKind) (l : List Int) : List Value := l.map (Value.int k)
def nats (k : IntKind) (l : List Nat) : List Value := l.map (fun x => Value.int k (x : Nat))
theorem ints_len {w : World} {A : Option Addr} {n : Nat} {k : IntKind} {l : List Int} (h : Has (sl 1 A n (ints k l)) w) : l.length = n := by
  have := h.sl_len
  simpa [ints] using this
theorem nats_len {w : World} {A : Option Addr} {n : Nat} {k : IntKind} {l : List Nat} (h : Has (sl 1 A n (nats k l)) w) : l.length = n := by
  have := h.sl_len
  simpa [nats] using this
theorem ints_one (k : IntKind) (l : List Int) : (ints k l).all (·.oneCell') = true := by
  simp [ints, Value.oneCell']
theorem nats_one (k : IntKind) (l : List Nat) : (nats k l).all (·.oneCell') = true := by
  simp [nats, Value.oneCell']
theorem intsAt {k : IntKind} {l : List Int} {i : Nat} (h : i < l.length) : (ints k l)[i]? = some (.int k (l.getD i 0)) := by
  simp [ints, h]
theorem natsAt {k : IntKind} {l : List Nat} {i : Nat} (h : i < l.length) : (nats k l)[i]? = some (.int k (l.getD i 0 : Nat)) := by
  simp [nats, h]
theorem nats_ints (k : IntKind) (l : List Nat) : nats k l = ints k (l.map Int.ofNat) := by simp [nats, ints]
theorem ints_range (k : IntKind) (l : List Int) : ints k l = (List.range l.length).map (fun j => .int k (l.getD j 0)) := by
  apply List.ext_getElem?
  intro j
  by_cases hj : j < l.length
  · rw [intsAt hj]; simp [hj]
  · rw [List.getElem?_eq_none (by simp [ints]; omega), List.getElem?_eq_none (by simp; omega)]
theorem Has.sl_take {w : World} {sz n : Nat} {A : Option Addr} {vs : List Value} (h : Has (sl sz A n vs) w) {q : Nat} (hq : q ≤ n) : Has (sl sz A q (vs.take (q * sz))) w := by
  obtain ⟨D, ⟨h1, h2⟩, h3⟩ := h
  refine ⟨D, ⟨?_, fun hn => ?_⟩, h3⟩
  · rw [List.length_take, h1]
    exact Nat.min_eq_left (Nat.mul_le_mul_right _ hq)
  · obtain ⟨k1, k2, k3⟩ := h2 (by omega)
    refine ⟨k1, k2, fun j v hj => ?_⟩
    rw [List.getElem?_take] at hj
    split at hj
    · exact k3 j v hj
    · cases hj

theorem open_slI {H : Type} {enc : TypeId × Value → H} {P : Program} {W : World} {base b0 : Nat} {spare : Nat → Bool} {held : Bool} {t e : TypeId} {k : IntKind} {v : Value} {d : DataW H} {ps : List MemPlace}
    (ht : P.underlying t = some (.slice e)) (he : P.underlying e = some (.int k)) (hc : P.cellsOf e = 1) (hval : Value.okWide P W .any b0 t v) (hd : DataW.Trod enc P W base spare held t v d ps) :
    ∃ A n c zs, v = .slice A n c ∧ n ≤ c ∧ (c : Int) ≤ 9223372036854775807 ∧ zs.length = n ∧ Has (sl 1 A n (ints k zs)) W ∧ ∀ z ∈ zs, (Lit.int k z).wf = true := by
  obtain ⟨A, n, c, rfl⟩ := okWide_slice ht hval
  obtain ⟨fuel, hf⟩ := hd
  rcases open_ints ht he hc hf with ⟨hcs, _⟩ | ⟨a, len, cap, zs, hcs, _, hl, hm, hz, _, hcell, hw⟩
  · have hcs2 : [Value.slice A n c] = [.slice none 0 0] := hcs
    simp only [List.cons.injEq, Value.slice.injEq, and_true] at hcs2
    obtain ⟨rfl, rfl, rfl⟩ := hcs2
    exact ⟨none, 0, 0, [], rfl, Nat.le_refl _, by omega, rfl, Has.sl_nil W 1 none, fun z hz => by simp at hz⟩
  · have hcs2 : [Value.slice A n c] = [.slice (some a) len cap] := hcs
    simp only [List.cons.injEq, Value.slice.injEq, and_true] at hcs2
    obtain ⟨rfl, rfl, rfl⟩ := hcs2
    have hv2 := hval
    unfold Value.okWide at hv2
    simp only [ht] at hv2
    unfold Cell.okWide at hv2
    simp only [ht] at hv2
    unfold Cell.ok at hv2
    simp only [ht] at hv2
    obtain ⟨_, hcap, _, hspot, _⟩ := hv2
    have hlz : n ≤ zs.length := by rw [hz]; split <;> omega
    have hlen : (zs.take n).length = n := by rw [List.length_take]; exact Nat.min_eq_left hlz
    refine ⟨some a, n, c, zs.take n, rfl, hl, hcap, hlen, ?_, fun z hz => hw z (List.mem_of_mem_take hz)⟩
    by_cases hn : n = 0
    · subst hn
      exact Has.sl_nil W 1 (some a)
    · have h0 := hcell 0 (by omega)
      have ha : a = ⟨a.block, a.off, none⟩ := by cases a; simp_all
      refine ⟨fun b => b = a.block, ⟨by simp only [ints, List.length_map, hlen, Nat.mul_one], fun _ => ⟨by simp only [ob, oo]; rw [← ha], rfl, fun j v hj => ?_⟩⟩, fun b hb => ?_⟩
      · have hjn : j < n := by
          have := (List.getElem?_eq_some_iff.1 hj).1
          simp only [ints, List.length_map, hlen] at this
          exact this
        rw [intsAt (by omega)] at hj
        have hc2 := hcell j (by omega)
        rw [ha, add_at] at hc2
        simp only [ob, oo]
        rw [hc2, ← hj]
        simp [hjn]
      · subst hb
        have hc2 := hcell 0 (by omega)
        have := World.block_lt_of_cell? W _ hc2
        rwa [block_add] at this
end Go.Sx
