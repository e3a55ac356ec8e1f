/- The errors of package api, as a table: each variable holds a pointer of its own. No condition. -/
import Derived.Test.YtjnahakojhindaaDoorField
import Derived.Test.YtjnahakojhindaaDoorFacts2
namespace Go.Proofs.YtjnahakojhindaaDoor
open Go.Sx

/-- The error variables ks, each with a pointer of its own. -/
def ersA (e : Nat → Addr) (ks : List Nat) : Atom where
  ok w D := (∀ k ∈ ks, D k ∧ D (e k).block ∧ w.cell? ⟨k, 0, none⟩ = some (errV e k) ∧ Live (e k) w) ∧ ∀ i ∈ ks, ∀ j ∈ ks, i ≠ j → e i ≠ e j
  loc := by
    rintro w w' D ⟨h1, h2⟩ hb
    refine ⟨fun k hk => ?_, h2⟩
    obtain ⟨a, b, c, ct, t, d⟩ := h1 k hk
    exact ⟨a, b, (World.cell?_of_block (hb _ a)).trans c, ct, t, by rw [hb _ b]; exact d⟩
section
variable {e : Nat → Addr} {ks : List Nat} {w : World}
theorem _root_.Go.Sx.Has.ers (h : Has (ersA e ks) w) {k : Nat} (hk : k ∈ ks) : Er e w k := let ⟨_, ⟨h1, _⟩, _⟩ := h; (h1 k hk).2.2.1
theorem _root_.Go.Sx.Has.live (h : Has (ersA e ks) w) {k : Nat} (hk : k ∈ ks) : Live (e k) w := let ⟨_, ⟨h1, _⟩, _⟩ := h; (h1 k hk).2.2.2
theorem _root_.Go.Sx.Has.apart (h : Has (ersA e ks) w) {i j : Nat} (hi : i ∈ ks) (hj : j ∈ ks) (hne : i ≠ j) : e i ≠ e j := let ⟨_, ⟨_, h2⟩, _⟩ := h; h2 i hi j hj hne
theorem _root_.Go.Sx.Has.fewer (h : Has (ersA e ks) w) {ks' : List Nat} (hs : ∀ k ∈ ks', k ∈ ks) : Has (ersA e ks') w :=
  let ⟨D, ⟨h1, h2⟩, h3⟩ := h
  ⟨D, ⟨fun k hk => h1 k (hs k hk), fun i hi j hj => h2 i (hs i hi) j (hs j hj)⟩, h3⟩
end
/-- Package api's errors, in the order of their numbers from 101. -/
def apiErrs : List Nat := [1, 3, 0, 5, 6, 7, 8, 2, 9, 10, 11, 12, 13, 14, 15, 4, 16, 17, 18]
end Go.Proofs.YtjnahakojhindaaDoor
