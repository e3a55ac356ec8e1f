/- What a slice of bytes that comes in gives a walk. No condition. -/
import Derived.Test.YtcjddlcinaedaaaDoorArgs
namespace Go.Sx
open Go Go.ChangeShapes Go.WideShapes
theorem open_slB {H : Type} {enc : TypeId × Value → H} {P : Program} {W : World} {base b0 : Nat} {spare : Nat → Bool} {held : Bool} {t e : TypeId} {v : Value} {d : DataW H} {ps : List MemPlace}
    (ht : P.underlying t = some (.slice e)) (he : P.underlying e = some (.int .u8)) (hc : P.cellsOf e = 1) (hval : Value.okWide P W .any b0 t v) (hd : DataW.Trod enc P W base spare held t v d ps) :
    ∃ A n c p, v = .slice A n c ∧ n ≤ c ∧ (c : Int) ≤ 9223372036854775807 ∧ p.length = n ∧ Has (sl 1 A n (nats .u8 p)) W ∧ ∀ x ∈ p, x < 256 := by
  obtain ⟨A, n, c, zs, hv, h1, h2, h3, h4, h5⟩ := open_slI ht he hc hval hd
  have hb : ∀ z ∈ zs, 0 ≤ z ∧ z < 256 := fun z hz => by
    have := h5 z hz
    simp only [Lit.wf, Bool.and_eq_true, decide_eq_true_eq] at this
    have e1 : IntKind.u8.min = 0 := by decide
    have e2 : IntKind.u8.max = 255 := by decide
    omega
  refine ⟨A, n, c, zs.map Int.toNat, hv, h1, h2, by simpa using h3, ?_, fun x hx => ?_⟩
  · have e2 : nats .u8 (zs.map Int.toNat) = ints .u8 zs := by
      unfold nats ints
      rw [List.map_map]
      exact List.map_congr_left (fun z hz => by
        show Value.int .u8 ((z.toNat : Nat) : Int) = Value.int .u8 z
        rw [Int.toNat_of_nonneg (hb z hz).1])
    rw [e2]
    exact h4
  · obtain ⟨z, hz, rfl⟩ := List.mem_map.1 hx
    have := hb z hz
    omega
end Go.Sx
