/- What a row's list of error variables gives a walk: each holds a pointer of its own, and no two the same. No condition. -/
import Derived.Test.YtjnahakojhindaaDoorLaid
import Derived.Test.YtjnahakojhindaaDoorErs
namespace Go.Proofs.YtjnahakojhindaaDoor
open Go.Sx Go.ChangeShapes Go.WideShapes Go.RowKit

def LaysE : List (String × DataW Unit) → List Nat → Prop
  | [], [] => True
  | (n, d) :: l, k :: ks => (∃ text, d = .iface "*errors.errorString" (.ptr (.agg [.lit (.string text)]))) ∧ Tryd.prog.globalNamed n = some k ∧ (Tryd.prog.globals[k]?).map (·.type) = some 27 ∧ LaysE l ks
  | [], _ :: _ => False
  | _ :: _, [] => False

theorem row_one (a : Addr) : MemPlace.row a 1 = [MemPlace.cell a.block a.off] := by simp [MemPlace.row]

set_option maxRecDepth 100000 in
theorem ers_run {W : World} : ∀ {l : List (String × DataW Unit)} {ks : List Nat} {ps : List MemPlace}, DataW.LaidVars Tryd.prog W l ps → LaysE l ks →
    (∀ b off, MemPlace.cell b off ∈ ps → (∃ c t, W.heap[b]? = some (.cells c t (0, 0))) ∧ ∀ u v, W.cell? ⟨b, off, none⟩ = some (.iface u v) → Value.okWide Tryd.prog W .any 0 u v) → ps.Nodup →
    (∀ k ∈ ks, Er (eOf W) W k ∧ Live (eOf W k) W ∧ MemPlace.cell (eOf W k).block (eOf W k).off ∈ ps) ∧ ks.Pairwise (fun i j => eOf W i ≠ eOf W j)
  | [], [], _, _, _, _, _ => ⟨fun _ h => by simp at h, List.Pairwise.nil⟩
  | (n, d) :: l, k :: ks, ps, hl, hk, hrows, hn => by
    obtain ⟨⟨text, hd⟩, hk1, hk2, hk3⟩ := hk
    obtain ⟨g, t, cs, fuel, p, q, hg, htg, hv, htr, hr, hps⟩ := hl
    subst hd
    obtain rfl := Option.some.inj (hk1.symm.trans hg)
    obtain rfl := Option.some.inj (hk2.symm.trans htg)
    obtain ⟨l0⟩ := cs
    have ok0 : ∀ u v, l0 = [.iface u v] → Value.okWide Tryd.prog W .any 0 u v := fun u v e => by
      subst e
      exact (hrows k 0 (by rw [hps]; simp [MemPlace.row])).2 u v (by simpa using World.var?_cell hg hv 0)
    obtain ⟨a, s, rfl, hs1, hs2, hs3, hs4⟩ := errorString_of_trod Tryd.underlying27 errRow Tryd.underlying111 Tryd.underlying128 rfl rfl Tryd.underlying9 errCells strCells htr ok0
    have hc : W.cell? ⟨k, 0, none⟩ = some (.iface 111 (.pointer (some a))) := by simpa using World.var?_cell hg hv 0
    have he : Er (eOf W) W k := er_of ⟨a, hc⟩
    have ha : eOf W k = a := by
      have h2 := he.symm.trans hc
      simp only [errV, Option.some.injEq, Value.iface.injEq, Value.pointer.injEq, true_and] at h2
      exact h2
    have hp : MemPlace.cell a.block a.off ∈ p := by rw [hs4, row_one]; exact List.mem_singleton.2 rfl
    have hpp : MemPlace.cell a.block a.off ∈ ps := by rw [hps]; exact List.mem_append_left _ (List.mem_append_right _ hp)
    have hn2 : (MemPlace.row ⟨k, 0, none⟩ (List.toArray [Value.iface 111 (.pointer (some a))]).size ++ p ++ q).Nodup := by rw [← hps]; exact hn
    rw [List.nodup_append] at hn2
    obtain ⟨h1, h2⟩ := ers_run (W := W) hr hk3 (fun b off hb => hrows b off (by rw [hps]; exact List.mem_append_right _ hb)) hn2.2.1
    refine ⟨fun j hj => ?_, List.Pairwise.cons (fun j hj hej => ?_) h2⟩
    · rcases List.mem_cons.1 hj with rfl | hj
      · exact ⟨he, by rw [ha]; exact (hrows _ _ hpp).1, by rw [ha]; exact hpp⟩
      · obtain ⟨x1, x2, x3⟩ := h1 j hj
        exact ⟨x1, x2, by rw [hps]; exact List.mem_append_right _ x3⟩
    · obtain ⟨_, _, x3⟩ := h1 j hj
      rw [← hej, ha] at x3
      exact hn2.2.2 _ (List.mem_append_right _ hp) _ x3 rfl
  | [], _ :: _, _, _, h, _, _ => h.elim
  | _ :: _, [], _, _, h, _, _ => h.elim

theorem World.lt_of_heap {W : World} {b : Nat} {c : Array Value} {t : TypeId} (h : W.heap[b]? = some (.cells c t (0, 0))) : b < W.heap.size := by
  obtain ⟨h1, _⟩ := Array.getElem?_eq_some_iff.1 h
  exact h1

theorem pw_all {R : Nat → Nat → Prop} (hs : ∀ x y, R x y → R y x) : ∀ {l : List Nat}, l.Pairwise R → ∀ x ∈ l, ∀ y ∈ l, x ≠ y → R x y
  | [], _, _, hx, _, _, _ => by simp at hx
  | a :: l, h, x, hx, y, hy, hne => by
    obtain ⟨h1, h2⟩ := List.pairwise_cons.1 h
    rcases List.mem_cons.1 hx with rfl | hx
    · rcases List.mem_cons.1 hy with rfl | hy
      · exact absurd rfl hne
      · exact h1 y hy
    · rcases List.mem_cons.1 hy with hy | hy
      · rw [hy]; exact hs _ _ (h1 x hx)
      · exact pw_all hs h2 x hx y hy hne
theorem ers_met {W : World} {l : List (String × DataW Unit)} {ks : List Nat} (h : laidMet Tryd.prog l W) (hk : LaysE l ks) : Has (ersA (eOf W) ks) W := by
  obtain ⟨ps, h1, h2, h3⟩ := h
  obtain ⟨k1, k2⟩ := ers_run h1 hk h3 h2
  refine ⟨fun b => b < W.heap.size, ⟨fun k hk => ?_, ?_⟩, fun _ hb => hb⟩
  · obtain ⟨x1, ⟨c, t, x2⟩, _⟩ := k1 k hk
    exact ⟨World.block_lt_of_cell? W _ x1, World.lt_of_heap x2, x1, c, t, x2⟩
  · intro i hi j hj hne
    exact pw_all (fun _ _ h he => h he.symm) k2 i hi j hj hne
end Go.Proofs.YtjnahakojhindaaDoor
