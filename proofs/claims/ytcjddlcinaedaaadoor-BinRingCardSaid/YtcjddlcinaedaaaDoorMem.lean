/- What is known of memory: parts that lie apart, each with the blocks that it stands on; lemmas over any program. No condition. -/
import Derived.Test.YtcjddlcinaedaaaDoorCore
namespace Go.Sx
open Go

/-- Of the blocks in F nothing has turned. -/
structure Fr (F : Nat → Prop) (w w' : World) : Prop where
  os : w'.os = w.os
  tape : w'.tape = w.tape
  output : w'.output = w.output
  size : w.heap.size ≤ w'.heap.size
  block : ∀ k, F k → w'.heap[k]? = w.heap[k]?

def Old (w : World) : Nat → Prop := fun k => k < w.heap.size

theorem Fr.refl (F : Nat → Prop) (w : World) : Fr F w w := ⟨rfl, rfl, rfl, Nat.le_refl _, fun _ _ => rfl⟩
theorem Fr.trans {F : Nat → Prop} {a b c : World} (h : Fr F a b) (k : Fr F b c) : Fr F a c :=
  ⟨k.os.trans h.os, k.tape.trans h.tape, k.output.trans h.output, Nat.le_trans h.size k.size, fun i hi => (k.block i hi).trans (h.block i hi)⟩
theorem Fr.mono {F G : Nat → Prop} {w w' : World} (h : Fr F w w') (hg : ∀ k, G k → F k) : Fr G w w' := ⟨h.os, h.tape, h.output, h.size, fun k hk => h.block k (hg k hk)⟩
theorem Fr.below {w w' : World} (h : Fr (Old w) w w') : Go.RowKit.Below w.heap.size w w' := ⟨h.os, h.tape, h.output, h.size, h.block⟩
theorem Fr.of_below {w w' : World} (h : Go.RowKit.Below w.heap.size w w') : Fr (Old w) w w' := ⟨h.os, h.tape, h.output, h.size, h.block⟩

structure Atom where
  ok : World → (Nat → Prop) → Prop
  loc : ∀ {w w' : World} {D : Nat → Prop}, ok w D → (∀ k, D k → w'.heap[k]? = w.heap[k]?) → ok w' D

def Sep (F : Nat → Prop) : List Atom → World → Prop
  | [], _ => True
  | A :: L, w => ∃ D : Nat → Prop, A.ok w D ∧ (∀ k, D k → ¬ F k ∧ k < w.heap.size) ∧ Sep (fun k => F k ∨ D k) L w

theorem Sep.mono : ∀ {L : List Atom} {F F' : Nat → Prop} {w w' : World}, Sep F L w → (∀ k, k < w.heap.size → ¬ F k → w'.heap[k]? = w.heap[k]?) → w.heap.size ≤ w'.heap.size →
    (∀ k, F' k → F k ∨ w.heap.size ≤ k) → Sep F' L w'
  | [], _, _, _, _, _, _, _, _ => trivial
  | A :: L, F, F', w, w', h, hb, hs, hf => by
    obtain ⟨D, h1, h2, h3⟩ := h
    refine ⟨D, A.loc h1 (fun k hk => hb k (h2 k hk).2 (h2 k hk).1), fun k hk => ⟨fun hk' => ?_, Nat.lt_of_lt_of_le (h2 k hk).2 hs⟩, Sep.mono h3 (fun k hk hn => hb k hk (fun hf => hn (.inl hf))) hs ?_⟩
    · rcases hf k hk' with h | h
      · exact (h2 k hk).1 h
      · exact absurd (h2 k hk).2 (by omega)
    · rintro k (hk | hk)
      · exact (hf k hk).imp .inl id
      · exact .inl (.inr hk)

theorem Sep.at_ : ∀ {L : List Atom} {F : Nat → Prop} {w : World} {i : Nat} {A : Atom}, Sep F L w → L[i]? = some A →
    ∃ D : Nat → Prop, A.ok w D ∧ (∀ k, D k → ¬ F k ∧ k < w.heap.size) ∧ ∀ (w' : World) (A' : Atom) (D' : Nat → Prop), (∀ k, ¬ D k → ¬ F k → k < w.heap.size → w'.heap[k]? = w.heap[k]?) →
      w.heap.size ≤ w'.heap.size → A'.ok w' D' → (∀ k, D' k → (D k ∨ w.heap.size ≤ k) ∧ k < w'.heap.size) → (∀ k, F k → k < w.heap.size) → Sep F (L.set i A') w'
  | [], _, _, _, _, _, hi => by simp at hi
  | B :: R, F, w, 0, A, h, hi => by
    simp at hi
    subst hi
    obtain ⟨D, h1, h2, h3⟩ := h
    refine ⟨D, h1, h2, fun w' A' D' hb hs ha hd hF => ⟨D', ha, fun k hk => ⟨fun hf => ?_, (hd k hk).2⟩, Sep.mono h3 (fun k hk hn => hb k (fun h => hn (.inr h)) (fun h => hn (.inl h)) hk) hs ?_⟩⟩
    · rcases (hd k hk).1 with h | h
      · exact (h2 k h).1 hf
      · have := hF k hf; omega
    · rintro k (hk | hk)
      · exact .inl (.inl hk)
      · exact (hd k hk).1.imp .inr id
  | B :: R, F, w, i + 1, A, h, hi => by
    obtain ⟨E, h1, h2, h3⟩ := h
    obtain ⟨D, k1, k2, k3⟩ := Sep.at_ (i := i) h3 (by simpa using hi)
    refine ⟨D, k1, fun k hk => ⟨fun hf => (k2 k hk).1 (.inl hf), (k2 k hk).2⟩, fun w' A' D' hb hs ha hd hF => ?_⟩
    refine ⟨E, B.loc h1 (fun k hk => hb k (fun hd => (k2 k hd).1 (.inr hk)) (h2 k hk).1 (h2 k hk).2), fun k hk => ⟨(h2 k hk).1, Nat.lt_of_lt_of_le (h2 k hk).2 hs⟩, ?_⟩
    refine k3 w' A' D' (fun k hk hn => hb k hk (fun hf => hn (.inl hf))) hs ha hd ?_
    rintro k (hk | hk)
    · exact hF k hk
    · exact (h2 k hk).2

theorem Sep.app : ∀ {L₁ L₂ : List Atom} {F : Nat → Prop} {w : World} {b : Nat}, Sep (fun k => F k ∨ k < b) L₁ w → (∀ G : Nat → Prop, (∀ k, G k → F k ∨ b ≤ k) → Sep G L₂ w) → Sep F (L₁ ++ L₂) w
  | [], L₂, F, w, b, _, h2 => h2 F (fun k hk => .inl hk)
  | A :: L, L₂, F, w, b, h1, h2 => by
    obtain ⟨D, k1, k2, k3⟩ := h1
    refine ⟨D, k1, fun k hk => ⟨fun hf => (k2 k hk).1 (.inl hf), (k2 k hk).2⟩, ?_⟩
    have hD : ∀ k, D k → b ≤ k := fun k hk => Nat.le_of_not_lt (fun hlt => (k2 k hk).1 (.inr hlt))
    refine Sep.app (b := b) (Sep.mono k3 (fun _ _ _ => rfl) (Nat.le_refl _) ?_) (fun G hG => h2 G (fun k hk => ?_))
    · rintro k ((hk | hk) | hk)
      · exact .inl (.inl (.inl hk))
      · exact .inl (.inr hk)
      · exact .inl (.inl (.inr hk))
    · rcases hG k hk with (h | h) | h
      · exact .inl h
      · exact .inr (hD k h)
      · exact .inr h

theorem Sep.weak : ∀ {L : List Atom} {F F' : Nat → Prop} {w : World}, Sep F L w → (∀ k, F' k → F k) → Sep F' L w := fun h hf => Sep.mono h (fun _ _ _ => rfl) (Nat.le_refl _) (fun _ hk => .inl (hf _ hk))

theorem Sep.tail {A : Atom} {L : List Atom} {F : Nat → Prop} {w : World} (h : Sep F (A :: L) w) : Sep F L w := let ⟨_, _, _, h3⟩ := h; h3.weak (fun _ => .inl)
theorem Sep.erase : ∀ {L : List Atom} {F : Nat → Prop} {w : World} (i : Nat), Sep F L w → Sep F (L.eraseIdx i) w
  | [], _, _, _, h => by simpa using h
  | _ :: _, _, _, 0, h => by simpa using h.tail
  | _ :: _, _, _, i + 1, h => by
    obtain ⟨D, h1, h2, h3⟩ := h
    exact ⟨D, h1, h2, Sep.erase i h3⟩
theorem Sep.swap {A B : Atom} {L : List Atom} {F : Nat → Prop} {w : World} (h : Sep F (A :: B :: L) w) : Sep F (B :: A :: L) w := by
  obtain ⟨D, h1, h2, E, h3, h4, h5⟩ := h
  refine ⟨E, h3, fun k hk => ⟨fun hf => (h4 k hk).1 (.inl hf), (h4 k hk).2⟩, D, h1, fun k hk => ⟨?_, (h2 k hk).2⟩, h5.weak ?_⟩
  · rintro (hf | hf)
    · exact (h2 k hk).1 hf
    · exact (h4 k hf).1 (.inr hk)
  · rintro k ((h | h) | h)
    · exact .inl (.inl h)
    · exact .inr h
    · exact .inl (.inr h)
/-- An atom is put at the head. -/
theorem Sep.front : ∀ {L : List Atom} {F : Nat → Prop} {w : World} {i : Nat} {A : Atom}, Sep F L w → L[i]? = some A → Sep F (A :: L.eraseIdx i) w
  | [], _, _, _, _, _, hi => by simp at hi
  | B :: R, F, w, 0, A, h, hi => by simp at hi; subst hi; simpa using h
  | B :: R, F, w, i + 1, A, h, hi => by
    obtain ⟨D, h1, h2, h3⟩ := h
    have ih := Sep.front (i := i) h3 (by simpa using hi)
    exact Sep.swap (⟨D, h1, h2, ih⟩ : Sep F (B :: A :: R.eraseIdx i) w)
/-- The atoms that are kept, in the order that is named. -/
def picks (L : List Atom) : List Nat → Option (List Atom)
  | [] => some []
  | i :: r => match L[i]?, picks (L.eraseIdx i) r with
    | some A, some R => some (A :: R)
    | _, _ => none
theorem Sep.pick : ∀ {is : List Nat} {L L' : List Atom} {F : Nat → Prop} {w : World}, picks L is = some L' → Sep F L w → Sep F L' w
  | [], L, L', F, w, h, _ => by simp [picks] at h; subst h; trivial
  | i :: r, L, L', F, w, h, hs => by
    unfold picks at h
    split at h
    · rename_i A R h1 h2
      simp at h
      subst h
      obtain ⟨D, k1, k2, k3⟩ := hs.front h1
      exact ⟨D, k1, k2, Sep.pick h2 k3⟩
    · cases h

theorem Sep.drop : ∀ {L₁ L₂ : List Atom} {F : Nat → Prop} {w : World}, Sep F (L₁ ++ L₂) w → Sep F L₂ w
  | [], _, _, _, h => h
  | _ :: L₁, _, _, _, h => Sep.drop (L₁ := L₁) h.tail

/-- What is known of the world at hand: of the blocks in F nothing has turned since w₀; what L says lies apart from them and from one another. -/
structure St (F : Nat → Prop) (w₀ : World) (L : List Atom) (w : World) : Prop where
  fr : Fr F w₀ w
  lt : ∀ k, F k → k < w₀.heap.size
  sep : Sep F L w

abbrev Sto (w₀ : World) (L : List Atom) (w : World) : Prop := St (Old w₀) w₀ L w

section
variable {F : Nat → Prop} {w₀ w w' : World} {L L' : List Atom} {A : Atom}

theorem St.start (w : World) : Sto w [] w := ⟨Fr.refl _ _, fun _ h => h, trivial⟩
theorem St.of_eq {v : World} (h : v = w) : Sto w [] v := by subst h; exact St.start _
theorem St.lt' (h : St F w₀ L w) (k : Nat) (hk : F k) : k < w.heap.size := Nat.lt_of_lt_of_le (h.lt k hk) h.fr.size

theorem St.turn (h : St F w₀ L w) (hw : Fr (Old w) w w') : St F w₀ L w' :=
  ⟨h.fr.trans (hw.mono (fun k hk => h.lt' k hk)), h.lt, Sep.mono h.sep (fun k hk _ => hw.block k hk) hw.size (fun _ hk => .inl hk)⟩
theorem St.drew (h : St F w₀ L w) : St F w₀ L w.drew := h.turn ⟨rfl, rfl, rfl, Nat.le_refl _, fun _ _ => rfl⟩
theorem St.join (h : St F w₀ L w) (h' : Sto w L' w') : St F w₀ (L' ++ L) w' := by
  refine ⟨(h.turn h'.fr).fr, h.lt, ?_⟩
  refine Sep.app (b := w.heap.size) (h'.sep.weak ?_) (fun G hG => Sep.mono h.sep (fun k hk _ => h'.fr.block k hk) h'.fr.size hG)
  rintro k (hk | hk)
  · exact h.lt' k hk
  · exact hk
theorem St.pick (is : List Nat) (hp : picks L is = some L') (h : St F w₀ L w) : St F w₀ L' w := ⟨h.fr, h.lt, h.sep.pick hp⟩
theorem St.nothing (h : St F w₀ L w) : St F w₀ [] w := ⟨h.fr, h.lt, trivial⟩

/-- Something holds in the world, and stands on blocks that are there. -/
def Has (A : Atom) (w : World) : Prop := ∃ D : Nat → Prop, A.ok w D ∧ ∀ k, D k → k < w.heap.size
theorem Has.turn (h : Has A w) (hw : Fr (Old w) w w') : Has A w' :=
  let ⟨D, h1, h2⟩ := h
  ⟨D, A.loc h1 (fun k hk => hw.block k (h2 k hk)), fun k hk => Nat.lt_of_lt_of_le (h2 k hk) hw.size⟩
theorem St.old (h : Sto w₀ L w) (ha : Has A w₀) : Has A w := ha.turn h.fr
theorem St.has {i : Nat} (hi : L[i]? = some A) (h : St F w₀ L w) : Has A w :=
  let ⟨D, h1, h2, _⟩ := h.sep.at_ hi
  ⟨D, h1, fun k hk => (h2 k hk).2⟩
theorem St.cell {a : Addr} {v : Value} (h : Sto w₀ L w) (hc : w₀.cell? a = some v) : w.cell? a = some v :=
  (World.cell?_of_block (w := w₀) (h.fr.block a.block (World.block_lt_of_cell? w₀ a hc))).trans hc
/-- One atom turns into another. -/
theorem St.swap {A' : Atom} {i : Nat} (hi : L[i]? = some A) (hA : ∀ (w : World) (D : Nat → Prop), A.ok w D → (∀ k, D k → k < w.heap.size) → ∃ D' : Nat → Prop, A'.ok w D' ∧ ∀ k, D' k → D k) (h : St F w₀ L w) : St F w₀ (L.set i A') w := by
  obtain ⟨D, h1, h2, h3⟩ := h.sep.at_ hi
  obtain ⟨D', k1, k2⟩ := hA w D h1 (fun k hk => (h2 k hk).2)
  exact ⟨h.fr, h.lt, h3 w A' D' (fun _ _ _ _ => rfl) (Nat.le_refl _) k1 (fun k hk => ⟨.inl (k2 k hk), (h2 k (k2 k hk)).2⟩) (fun k hk => h.lt' k hk)⟩
/-- One part is worked on: of all else nothing turns. -/
theorem St.work {i : Nat} (hi : L[i]? = some A) (h : St F w₀ L w) : ∃ D : Nat → Prop, A.ok w D ∧ (∀ k, D k → k < w.heap.size) ∧ ∀ (w' : World) (A' : Atom) (D' : Nat → Prop),
    Fr (fun k => k < w.heap.size ∧ ¬ D k) w w' → A'.ok w' D' → (∀ k, D' k → (D k ∨ w.heap.size ≤ k) ∧ k < w'.heap.size) → St F w₀ (L.set i A') w' := by
  obtain ⟨D, h1, h2, h3⟩ := h.sep.at_ hi
  refine ⟨D, h1, fun k hk => (h2 k hk).2, fun w' A' D' hf ha hd => ⟨h.fr.trans (hf.mono (fun k hk => ⟨h.lt' k hk, fun hD => (h2 k hD).1 hk⟩)), h.lt, ?_⟩⟩
  exact h3 w' A' D' (fun k hk _ hlt => hf.block k ⟨hlt, hk⟩) hf.size ha hd (fun k hk => h.lt' k hk)
end

/-! ### Atoms -/
/-- Block g, whole. -/
def blk (g : Nat) (T : TypeId) (cs : Array Value) : Atom where
  ok w D := (∀ k, D k ↔ k = g) ∧ w.heap[g]? = some (.cells cs T (0, 0))
  loc := fun ⟨h1, h2⟩ hb => ⟨h1, (hb _ ((h1 _).2 rfl)).trans h2⟩

theorem cell_of_blk {w : World} {g : Nat} {T : TypeId} {cs : Array Value} (h : w.heap[g]? = some (.cells cs T (0, 0))) (j : Nat) : w.cell? ⟨g, j, none⟩ = cs[j]? := by simp [World.cell?, h]
theorem frozen_of_blk {w : World} {g : Nat} {T : TypeId} {cs : Array Value} (h : w.heap[g]? = some (.cells cs T (0, 0))) (j : Nat) : w.frozen? ⟨g, j, none⟩ = false := by simp [World.frozen?, h]
theorem heap_set_same {w : World} {g : Nat} {T : TypeId} {cs : Array Value} (h : w.heap[g]? = some (.cells cs T (0, 0))) (j : Nat) (v : Value) : (w.setCell ⟨g, j, none⟩ v).heap[g]? = some (.cells (cs.setIfInBounds j v) T (0, 0)) := by
  simp [World.setCell, Array.getElem?_modify, h]
theorem heap_set_other (w : World) (a : Addr) (v : Value) {k : Nat} (h : k ≠ a.block) : (w.setCell a v).heap[k]? = w.heap[k]? := Go.RowKit.Below.heap_setCell w a v k h

section
variable {F : Nat → Prop} {w₀ w w' : World} {L L' : List Atom} {A : Atom} {g : Nat} {T : TypeId} {cs : Array Value}

theorem St.blkCell {i : Nat} (hi : L[i]? = some (blk g T cs)) {j : Nat} {v : Value} (hv : cs[j]? = some v) (h : St F w₀ L w) : w.cell? ⟨g, j, none⟩ = some v := by
  obtain ⟨D, ⟨_, h2⟩, _⟩ := h.sep.at_ hi
  rw [cell_of_blk h2]; exact hv
theorem St.blkFree {i : Nat} (hi : L[i]? = some (blk g T cs)) (j : Nat) (h : St F w₀ L w) : w.frozen? ⟨g, j, none⟩ = false := by
  obtain ⟨D, ⟨_, h2⟩, _⟩ := h.sep.at_ hi
  exact frozen_of_blk h2 j
theorem St.blkSet {i : Nat} (hi : L[i]? = some (blk g T cs)) (j : Nat) (v : Value) (h : St F w₀ L w) : St F w₀ (L.set i (blk g T (cs.setIfInBounds j v))) (w.setCell ⟨g, j, none⟩ v) := by
  obtain ⟨D, ⟨h1, h2⟩, h3, h4⟩ := h.work hi
  refine h4 _ _ D ⟨rfl, rfl, rfl, by simp [World.setCell], fun k hk => heap_set_other _ _ _ (fun e => hk.2 ((h1 k).2 e))⟩ ⟨h1, heap_set_same h2 j v⟩ (fun k hk => ⟨.inl hk, by simp [World.setCell]; exact h3 k hk⟩)
theorem St.alloc (T : TypeId) (cs : Array Value) (h : St F w₀ L w) : St F w₀ (blk w.heap.size T cs :: L) (w.alloc (.cells cs T)) :=
  h.join (L' := [blk w.heap.size T cs]) ⟨⟨rfl, rfl, rfl, by simp, fun k hk => Go.RowKit.Below.heap_alloc w _ k hk⟩, fun _ hk => hk,
    ⟨fun k => k = w.heap.size, ⟨fun k => Iff.rfl, heap_alloc_new w _⟩, fun k hk => ⟨by simp [Old]; omega, by simp; omega⟩, trivial⟩⟩
end
end Go.Sx
