/- The walk of the statement DrivePlays, text 3. Conditions: each theorem tells its own. -/
import Derived.Test.YtcapijdokbkgaaaDoorWDrivePlaysB
import Derived.Test.YtcapijdokbkgaaaDoorRows
import Derived.Deep.Strs
import Derived.LaidEql
section
/- A chip stays whole, whatever it is told. No condition. -/
namespace Go.Proofs.YtcapijdokbkgaaaDoor
open Go Go.Sx
set_option maxRecDepth 100000
theorem flips_ok (level : Int) : ∀ (l : List FtS) (b : List Nat), (flips l level b).length = b.length ∧ ((∀ x ∈ b, x < 256) → ∀ x ∈ flips l level b, x < 256)
  | [], b => ⟨rfl, fun h => h⟩
  | f :: l, b => by
    have h2 := flips_ok level l (if f.kind = 1 ∧ (f.level = -1 ∨ f.level = level) then turnL b f.bits else b)
    have h1 : (if f.kind = 1 ∧ (f.level = -1 ∨ f.level = level) then turnL b f.bits else b).length = b.length ∧ ((∀ x ∈ b, x < 256) → ∀ x ∈ (if f.kind = 1 ∧ (f.level = -1 ∨ f.level = level) then turnL b f.bits else b), x < 256) := by
      split
      · exact ⟨turnL_len _ _, fun h => turnL_lt h _⟩
      · exact ⟨rfl, fun h => h⟩
    exact ⟨h2.1.trans h1.1, fun h => h2.2 (h1.2 h)⟩
theorem spoils_ok : ∀ (l : List FtS) (b : List Nat), (spoils l b).length = b.length ∧ ((∀ x ∈ b, x < 256) → ∀ x ∈ spoils l b, x < 256)
  | [], b => ⟨rfl, fun h => h⟩
  | f :: l, b => by
    have h2 := spoils_ok l (if f.kind = 4 then turnL b f.bits else b)
    have h1 : (if f.kind = 4 then turnL b f.bits else b).length = b.length ∧ ((∀ x ∈ b, x < 256) → ∀ x ∈ (if f.kind = 4 then turnL b f.bits else b), x < 256) := by
      split
      · exact ⟨turnL_len _ _, fun h => turnL_lt h _⟩
      · exact ⟨rfl, fun h => h⟩
    exact ⟨h2.1.trans h1.1, fun h => h2.2 (h1.2 h)⟩
/-- A block's pages are as they are to be. -/
def PgsOk (s : ChS) (b : BkS) : Prop := (b.pages.length : Int) = s.pages ∧ ∀ p ∈ b.pages, (p.cells.length : Int) = s.size ∧ (∀ x ∈ p.cells, x < 256) ∧ p.laid.length ≤ 4096 ∧ ∀ x ∈ p.laid, x < 256
theorem bk_ok {s : ChS} (h : s.Ok) {b : Int} (hb : s.has b = true) : PgsOk s (s.bk b) ∧ b.toNat < s.blocks.length := by
  have h1 : 0 ≤ b ∧ b < (s.blocks.length : Int) := of_decide_eq_true hb
  have h2 : b.toNat < s.blocks.length := by omega
  refine ⟨?_, h2⟩
  unfold ChS.bk
  rw [List.getD_eq_getElem?_getD, List.getElem?_eq_getElem h2, Option.getD_some]
  exact h.pg _ (List.getElem_mem h2)
theorem has_inn {s : ChS} {b p : Int} (h : s.inn b p = true) : s.has b = true ∧ 0 ≤ p ∧ p < s.pages := by
  unfold ChS.inn at h
  rw [Bool.and_eq_true] at h
  exact ⟨h.1, of_decide_eq_true h.2⟩
theorem page_ok {s : ChS} (h : s.Ok) {b p : Int} (hb : s.inn b p = true) : ((s.pg b p).cells.length : Int) = s.size ∧ (∀ x ∈ (s.pg b p).cells, x < 256) ∧ (s.pg b p).laid.length ≤ 4096 ∧ (∀ x ∈ (s.pg b p).laid, x < 256) := by
  obtain ⟨h1, h2, h3⟩ := has_inn hb
  obtain ⟨⟨h4, h5⟩, _⟩ := bk_ok h h1
  have h6 : p.toNat < (s.bk b).pages.length := by omega
  unfold ChS.pg
  rw [List.getD_eq_getElem?_getD, List.getElem?_eq_getElem h6, Option.getD_some]
  exact h5 _ (List.getElem_mem h6)
theorem ok_blocks {s s' : ChS} (h : s.Ok) (e1 : s'.pages = s.pages) (e2 : s'.size = s.size) (e3 : s'.levels = s.levels) (e5 : s'.plan = s.plan) {b : Int} {k : BkS} (hk : PgsOk s k) (e4 : s'.blocks = s.blocks.set b.toNat k) : s'.Ok := by
  refine ⟨by rw [e1]; exact h.p0, by rw [e1]; exact h.p1, by rw [e2]; exact h.z0, by rw [e2]; exact h.z1, by rw [e3]; exact h.v0, by rw [e3]; exact h.v1, by rw [e4, List.length_set]; exact h.b1, fun b' hb' => ?_, by rw [e5]; exact h.pl, by rw [e5]; exact h.bt⟩
  rw [e4] at hb'
  rw [e1, e2]
  rcases List.mem_or_eq_of_mem_set hb' with hb' | rfl
  · exact h.pg b' hb'
  · exact hk
theorem rd_okp {s : ChS} (h : s.Ok) (b p level : Int) : (s.rd b p level).2.2.Ok := by
  unfold ChS.rd
  split
  · exact h
  · split
    · exact h.same rfl rfl rfl rfl rfl
    · exact h.same rfl rfl rfl rfl rfl
theorem rd_bytes {s : ChS} (h : s.Ok) (b p level : Int) : (s.rd b p level).2.1.length ≤ 4096 ∧ ∀ x ∈ (s.rd b p level).2.1, x < 256 := by
  unfold ChS.rd
  split
  · exact ⟨Nat.zero_le _, fun x hx => absurd hx List.not_mem_nil⟩
  · rename_i h0
    split
    · exact ⟨Nat.zero_le _, fun x hx => absurd hx List.not_mem_nil⟩
    · have h1 := flips_ok level s.hits (s.pg b p).cells
      obtain ⟨_, h2, _⟩ := rdE_zero (Decidable.of_not_not h0)
      have h3 := page_ok h h2
      have := h.z1
      exact ⟨by simp only [h1.1]; omega, h1.2 h3.2.1⟩
theorem pr_okp {s : ChS} (h : s.Ok) (b p : Int) {l : List Nat} (h8 : ∀ x ∈ l, x < 256) : (s.pr b p l).2.Ok := by
  unfold ChS.pr
  split
  · exact h
  · rename_i h0
    obtain ⟨_, h2, h3⟩ := prE_zero (Decidable.of_not_not h0)
    obtain ⟨h4, h5, h6⟩ := has_inn h2
    obtain ⟨⟨k1, k2⟩, _⟩ := bk_ok h h4
    have hp := page_ok h h2
    have hz := h.z1
    simp only
    refine ok_blocks h (s' := _) rfl rfl rfl rfl (b := b) (k := { s.bk b with pages := (s.bk b).pages.set p.toNat _ }) ⟨by simp only [List.length_set]; exact k1, fun q hq => ?_⟩ rfl
    rcases List.mem_or_eq_of_mem_set hq with hq | rfl
    · exact k2 q hq
    · have hs := spoils_ok s.hits l
      have hl : (s.pg b p).cells.length ≤ (spoils s.hits l).length := by rw [hs.1]; omega
      refine ⟨by simp only; rw [andTo_len hl]; exact hp.1, andTo_lt hl hp.2.1, by simp only; omega, h8⟩
theorem er_okp {s : ChS} (h : s.Ok) (b : Int) : (s.er b).2.Ok := by
  unfold ChS.er
  split
  · exact h
  · rename_i h0
    obtain ⟨_, h2⟩ := erE_zero (Decidable.of_not_not h0)
    obtain ⟨⟨k1, k2⟩, _⟩ := bk_ok h h2
    have hp0 := h.p0
    have hz0 := h.z0
    have hle : (eraN s.hits s.pages).1 ≤ (s.bk b).pages.length := by
      unfold eraN
      split
      · have h1 := clampN_le (n := (by assumption : FtS).n) (size := s.pages)
        simp only
        omega
      · split
        · exact Nat.zero_le _
        · simp only
          omega
    simp only
    refine ok_blocks h (s' := _) rfl rfl rfl rfl (b := b) (k := { s.bk b with pages := _, worn := _ }) ⟨?_, fun q hq => ?_⟩ rfl
    · simp only [List.length_append, List.length_replicate, List.length_drop]
      omega
    · rcases List.mem_append.1 hq with hq | hq
      · rw [List.eq_of_mem_replicate hq]
        refine ⟨by show ((List.replicate s.size.toNat 255).length : Int) = s.size; rw [List.length_replicate]; omega, fun x hx => ?_, Nat.zero_le _, fun x hx => absurd hx List.not_mem_nil⟩
        rw [List.eq_of_mem_replicate hx]
        decide
      · exact k2 q (List.mem_of_mem_drop hq)
theorem off_okp {s : ChS} (h : s.Ok) (o : Bool) : ({ s with off := o } : ChS).Ok := h.same rfl rfl rfl rfl rfl
/-! ### The chapter's examples -/
def F14 : ChS := ChS.new 8 4 2 1 [] [⟨1, 1, 0, 0, [0]⟩, ⟨2, 3, 0, 1, []⟩]
def F14a : ChS := (F14.pr 0 0 [1, 2]).2
def F14b : ChS := (F14a.rd 0 0 0).2.2
def F14c : ChS := (F14b.pr 0 1 [3, 4]).2
def F14d : ChS := { F14c with off := false }
def F14e : ChS := (F14d.rd 0 0 0).2.2
def F14f : ChS := (F14e.pr 0 1 [1, 1]).2
def F14g : ChS := (F14f.rd 9 0 0).2.2
theorem two8 {a b : Nat} (ha : a < 256) (hb : b < 256) : ∀ x ∈ [a, b], x < 256 := by
  intro x hx
  simp only [List.mem_cons, List.not_mem_nil, or_false] at hx
  rcases hx with rfl | rfl <;> assumption
end Go.Proofs.YtcapijdokbkgaaaDoor
end
section
/- Chapter 14's examples, walked. Conditions: the errors' variables. -/
namespace Go.Proofs.YtcapijdokbkgaaaDoor
open Go Go.Sx Go.Fm
set_option maxRecDepth 100000
theorem bytes_of {g n : Nat} {cs : Array Value} {l : List Nat} {w : World} (h : Has (blk g 5 cs) w) (hs : cs.size = n * 1) (he : cs.toList = nats .u8 l) (hn : n = l.length) : Has (sl 1 (some ⟨g, 0, none⟩) l.length (nats .u8 l)) w := by
  subst hn
  exact Has.cong (h.blk_sl hs) he
end Go.Proofs.YtcapijdokbkgaaaDoor
end
section
/- What chapter 14's statements without the document's chip say, plain. No condition. -/
namespace Go.Proofs.YtcapijdokbkgaaaDoor
open Go Go.Sx
set_option maxRecDepth 100000
theorem and255 {x : Nat} (h : x < 256) : 255 &&& x = x := by
  rw [Nat.and_comm, show (255 : Nat) = 2 ^ 8 - 1 by decide, Nat.and_two_pow_sub_one_eq_mod]
  exact Nat.mod_eq_of_lt h
/-! ### ChipRules -/
def R14 : ChS := ChS.new 1 4 3 1 [] []
def R14a (p : Nat) (a : List Nat) : ChS := (R14.pr 0 (p : Nat) a).2
def R14b (p q : Nat) (a b : List Nat) : ChS := ((R14a p a).pr 0 (q : Nat) b).2
def rulesN (p q : Nat) : Int := (if 0 < p then 1 else 0) + (if p = 0 ∧ q = 1 then 0 else 1)
theorem four {p : Nat} (h : p < 4) : p = 0 ∨ p = 1 ∨ p = 2 ∨ p = 3 := by omega
def rulesC (p q : Nat) (a b : List Nat) : List Nat := if p = q then [(255 &&& a.getD 0 0) &&& b.getD 0 0, (255 &&& a.getD 1 0) &&& b.getD 1 0, (255 &&& a.getD 2 0) &&& b.getD 2 0] else [255 &&& b.getD 0 0, 255 &&& b.getD 1 0, 255 &&& b.getD 2 0]
end Go.Proofs.YtcapijdokbkgaaaDoor
end
section
/- What ChipCuts says, plain. No condition. -/
namespace Go.Proofs.YtcapijdokbkgaaaDoor
open Go Go.Sx
set_option maxRecDepth 100000
def C14 (n : Int) : ChS := ChS.new 2 5 6 1 [] [⟨5, 3, 0, n, []⟩]
/-- So many pages are programmed. -/
def C14s (n : Int) (b : List Nat) : Nat → ChS
  | 0 => C14 n
  | k + 1 => ((C14s n b k).pr 0 (k : Nat) b).2
def C14t (n : Int) (b : List Nat) : ChS := ((C14s n b 4).rd 0 0 0).2.2
def C14u (n : Int) (b : List Nat) : ChS := ((C14t n b).pr 0 4 b).2
def cutsC (n : Int) (b : List Nat) : List Nat := andTo (clampN n 6) (List.replicate 6 255) b
/-! The other way: an erase that is cut. -/
def C14e (n : Int) (b : List Nat) : ChS := ((C14s n b 5).er 0).2
def C14r (n : Int) (b : List Nat) : ChS := ((C14e n b).rd 0 0 0).2.2
def lain (b : List Nat) : PgS := ⟨andTo 6 (List.replicate 6 255) b, b, true⟩
end Go.Proofs.YtcapijdokbkgaaaDoor
end
section
/- What a slice of bytes that comes in gives a walk. No condition. -/
namespace Go.Sx
open Go Go.ChangeShapes Go.WideShapes
end Go.Sx
end
section
/- What slices of faults, and of things that a chip or a driver is told, give a walk, with their bulk. No condition. -/
namespace Go.Sx
open Go Go.ChangeShapes Go.WideShapes Go.Deep
open Go.Proofs.YtcapijdokbkgaaaDoor.Rows (uptoBulk uptoBulkAll)
set_option maxRecDepth 100000
section
variable {H : Type} {enc : TypeId × Value → H} {P : Program} {W : World} {base b0 : Nat} {spare : Nat → Bool} {held : Bool}
theorem bulk_pos : ∀ d : DataW H, 1 ≤ uptoBulk d
  | .lit l => by cases l <;> simp [uptoBulk]
  | .nil => by simp [uptoBulk]
  | .ptr _ => by simp only [uptoBulk]; omega
  | .slice _ _ => by simp only [uptoBulk]; omega
  | .agg _ => by simp only [uptoBulk]; omega
  | .iface _ _ => by simp only [uptoBulk]; omega
  | .map _ => by simp only [uptoBulk]; omega
  | .held _ => by simp [uptoBulk]
theorem bulk_len : ∀ l : List (DataW H), l.length ≤ uptoBulkAll l
  | [] => Nat.zero_le _
  | d :: l => by
    have h1 := bulk_pos d
    have h2 := bulk_len l
    simp only [uptoBulkAll, List.length_cons]
    omega
theorem bulk_mem {d : DataW H} : ∀ {l : List (DataW H)}, d ∈ l → uptoBulk d ≤ uptoBulkAll l
  | e :: l, h => by
    simp only [uptoBulkAll]
    rcases List.mem_cons.1 h with rfl | h
    · omega
    · have := bulk_mem h
      omega
theorem bulk_slice (l r : List (DataW H)) : uptoBulk (.slice l r) = uptoBulkAll l + uptoBulkAll r + 1 := by simp only [uptoBulk]
theorem bulk_agg (l : List (DataW H)) : uptoBulk (.agg l) = uptoBulkAll l + 1 := by simp only [uptoBulk]
/-- The rows of a slice's elements, each with its own reading. -/
theorem open_rowS {t e : TypeId} {s fuel : Nat} {v : Value} {x : DataW H × List MemPlace} (ht : P.underlying t = some (.slice e)) (hc : P.cellsOf e = s) (hs : 0 < s) (hf : DataW.trod enc P W base spare held fuel t [v] = some x) :
    ∃ (A : Option Addr) (n c : Nat) (rows : List (List Value)), v = .slice A n c ∧ n ≤ c ∧ (c : Int) ≤ 9223372036854775807 ∧ rows.length = n ∧ (∀ r ∈ rows, r.length = s ∧ ∃ m y, DataW.trod enc P W base spare held m e r = some y ∧ uptoBulk y.1 ≤ uptoBulk x.1) ∧ n ≤ uptoBulk x.1 ∧ Has (sl s A n rows.flatten) W := by
  rcases DataW.trod_slice ht hf with ⟨hcs, _⟩ | ⟨a, n, c, elems, rest, m, _, hcs, hx, hb, hl, hm, hlen, hel, _, _⟩
  · simp only [List.cons.injEq, and_true] at hcs
    subst hcs
    exact ⟨none, 0, 0, [], rfl, Nat.le_refl _, by omega, rfl, (fun r hr => absurd hr (List.not_mem_nil)), Nat.zero_le _, Has.sl_nil W s none⟩
  · simp only [List.cons.injEq, and_true] at hcs
    subst hcs
    subst hc
    have key : ∀ i, i < n → ∃ r, W.cells? base (a.add (i * P.cellsOf e)) (P.cellsOf e) = some r ∧ ∃ y, DataW.trod enc P W base spare held m e r = some y ∧ uptoBulk y.1 ≤ uptoBulk x.1 := fun i hi => by
      have h1 := hel i hi
      rw [List.getElem?_eq_getElem (by omega), Option.bind_eq_some_iff] at h1
      obtain ⟨r, h2, h3⟩ := h1
      refine ⟨r, h2, _, h3, ?_⟩
      rw [hx, bulk_slice]
      have := bulk_mem (List.mem_map_of_mem (f := (·.1)) (List.getElem_mem (h := (by omega : i < elems.length))))
      omega
    have hrows : ∀ k, k ≤ n → ∃ rows : List (List Value), rows.length = k ∧ (∀ r ∈ rows, r.length = P.cellsOf e ∧ ∃ m y, DataW.trod enc P W base spare held m e r = some y ∧ uptoBulk y.1 ≤ uptoBulk x.1) ∧ ∀ i, i < k → W.cells? base (a.add (i * P.cellsOf e)) (P.cellsOf e) = rows[i]? := by
      intro k
      induction k with
      | zero => exact fun _ => ⟨[], rfl, (fun r hr => absurd hr (List.not_mem_nil)), fun i hi => by omega⟩
      | succ k ih =>
        intro hk
        obtain ⟨rows, k1, k2, k3⟩ := ih (by omega)
        obtain ⟨r, h1, h2⟩ := key k (by omega)
        refine ⟨rows ++ [r], by simp [k1], fun r2 hr2 => ?_, fun i hi => ?_⟩
        · rcases List.mem_append.1 hr2 with h | h
          · exact k2 r2 h
          · obtain rfl : r2 = r := by simpa using h
            exact ⟨(World.cells?_some h1).2.1, m, h2⟩
        · by_cases hik : i < k
          · rw [k3 i hik, List.getElem?_append_left (by omega)]
          · obtain rfl : i = k := by omega
            rw [h1, List.getElem?_append_right (by omega), k1, Nat.sub_self]
            rfl
    obtain ⟨rows, k1, k2, k3⟩ := hrows n (Nat.le_refl _)
    refine ⟨some a, n, c, rows, rfl, hl, by unfold maxLen at hm; omega, k1, k2, ?_, ?_⟩
    · rw [hx, bulk_slice]
      have := bulk_len (elems.map (·.1))
      rw [List.length_map] at this
      omega
    by_cases hn : n = 0
    · subst hn
      obtain rfl := List.eq_nil_of_length_eq_zero k1
      exact Has.sl_nil W _ (some a)
    · have hcell : ∀ i, i < n → ∀ j, j < P.cellsOf e → W.cell? (a.add (i * P.cellsOf e + j)) = rows.flatten[i * P.cellsOf e + j]? := by
        intro i hi j hj
        have h1 : ∃ r, rows[i]? = some r := ⟨_, List.getElem?_eq_getElem (by omega)⟩
        obtain ⟨r, hr⟩ := h1
        have h2 := (World.cells?_some ((k3 i hi).trans hr)).2.2 j hj
        have e1 : (a.add (i * P.cellsOf e)).add j = a.add (i * P.cellsOf e + j) := by
          unfold Addr.add
          by_cases z1 : i * P.cellsOf e = 0
          · rw [if_pos z1, z1, Nat.zero_add]
          · by_cases z2 : j = 0
            · subst z2; simp
            · rw [if_neg z1, if_neg z2, if_neg (by omega)]
              simp [Nat.add_assoc]
        rw [e1] at h2
        rw [h2]
        clear h2 e1 hel key hrows k3
        have hl2 : ∀ (rows : List (List Value)) (i : Nat), (∀ r ∈ rows, r.length = P.cellsOf e) → rows[i]? = some r → rows.flatten[i * P.cellsOf e + j]? = r[j]? := by
          intro rows
          induction rows with
          | nil => intro i _ h; simp at h
          | cons r0 rows ih =>
            intro i hrl h
            have hr0 := hrl r0 (by simp)
            cases i with
            | zero =>
              obtain rfl : r0 = r := by simpa using h
              rw [List.flatten_cons, List.getElem?_append_left (by omega)]
              congr 1
              omega
            | succ i =>
              rw [List.flatten_cons, List.getElem?_append_right (by rw [hr0, Nat.succ_mul]; omega), hr0, ← ih i (fun r hr => hrl r (by simp [hr])) (by simpa using h)]
              congr 1
              rw [Nat.succ_mul]
              omega
        exact (hl2 rows i (fun r hr => (k2 r hr).1) hr).symm
      have hfl : rows.flatten.length = n * P.cellsOf e := by
        have : ∀ rows : List (List Value), (∀ r ∈ rows, r.length = P.cellsOf e) → rows.flatten.length = rows.length * P.cellsOf e := by
          intro rows
          induction rows with
          | nil => intro _; simp
          | cons r0 rows ih =>
            intro hrl
            rw [List.flatten_cons, List.length_append, ih (fun r hr => hrl r (by simp [hr])), hrl r0 (by simp), List.length_cons, Nat.succ_mul]
            omega
        rw [this rows (fun r hr => (k2 r hr).1), k1]
      have hall : ∀ q, q < n * P.cellsOf e → W.cell? (a.add q) = rows.flatten[q]? := fun q hq => by
        have hq1 : q / P.cellsOf e < n := (Nat.div_lt_iff_lt_mul hs).2 hq
        have := hcell _ hq1 (q % P.cellsOf e) (Nat.mod_lt _ hs)
        rwa [Nat.div_add_mod'] at this
      have hpos : 0 < n * P.cellsOf e := Nat.mul_pos (by omega) hs
      have h0 := hall 0 hpos
      rw [List.getElem?_eq_getElem (by omega)] at h0
      have ha : a = ⟨a.block, a.off, none⟩ := by
        cases a with
        | mk b o sp =>
          cases sp with
          | none => rfl
          | some x => simp [Addr.add, World.cell?] at h0; split at h0 <;> simp_all
      refine ⟨fun b => b = a.block, ⟨hfl, fun _ => ⟨by simp only [ob, oo]; rw [← ha], rfl, fun j v hj => ?_⟩⟩, fun b hb => ?_⟩
      · have hjn := (List.getElem?_eq_some_iff.1 hj).1
        have h1 := hall j (by omega)
        rw [ha, add_at, hj] at h1
        exact h1
      · subst hb
        have := World.block_lt_of_cell? W _ h0
        rwa [block_add] at this
theorem open_rowB {t e : TypeId} (ht : P.underlying t = some (.slice e)) (he : P.underlying e = some (.int .u8)) (hc : P.cellsOf e = 1) {fuel : Nat} {v : Value} {x : DataW H × List MemPlace} (hf : DataW.trod enc P W base spare held fuel t [v] = some x) :
    ∃ A n c p, v = .slice A n c ∧ n ≤ c ∧ (c : Int) ≤ 9223372036854775807 ∧ p.length = n ∧ Has (sl 1 A n (nats .u8 p)) W ∧ ∀ x ∈ p, x < 256 := by
  rcases open_ints ht he hc hf with ⟨hcs2, _⟩ | ⟨a, n, c, zs, hcs2, _, hl, hm, hz, _, hcell, hw⟩
  · simp only [List.cons.injEq, and_true] at hcs2
    subst hcs2
    exact ⟨none, 0, 0, [], rfl, Nat.le_refl _, by omega, rfl, Has.sl_nil W 1 none, fun z hz => by simp at hz⟩
  · simp only [List.cons.injEq, and_true] at hcs2
    subst hcs2
    have hlz : n ≤ zs.length := by rw [hz]; split <;> omega
    have hlen : (zs.take n).length = n := by rw [List.length_take]; exact Nat.min_eq_left hlz
    have hb : ∀ z ∈ zs.take n, 0 ≤ z ∧ z < 256 := fun z hz => by
      have := hw z (List.mem_of_mem_take hz)
      simp only [Lit.wf, Bool.and_eq_true, decide_eq_true_eq] at this
      have e1 : IntKind.u8.min = 0 := by decide
      have e2 : IntKind.u8.max = 255 := by decide
      omega
    refine ⟨some a, n, c, (zs.take n).map Int.toNat, rfl, hl, by unfold maxLen at hm; omega, by rw [List.length_map]; exact hlen, ?_, fun x hx => ?_⟩
    · have e2 : nats .u8 ((zs.take n).map Int.toNat) = ints .u8 (zs.take n) := by
        unfold nats ints
        rw [List.map_map]
        exact List.map_congr_left (fun z hz => by
          show Value.int .u8 ((z.toNat : Nat) : Int) = Value.int .u8 z
          rw [Int.toNat_of_nonneg (hb z hz).1])
      rw [e2]
      by_cases hn : n = 0
      · subst hn
        exact Has.sl_nil W 1 (some a)
      · have h0 := hcell 0 (by omega)
        have ha : a = ⟨a.block, a.off, none⟩ := by
          cases a with
          | mk b o sp =>
            cases sp with
            | none => rfl
            | some x => simp [Addr.add, World.cell?] at h0; split at h0 <;> simp_all
        refine ⟨fun b => b = a.block, ⟨by simp only [ints, List.length_map, hlen, Nat.mul_one], fun _ => ⟨by simp only [ob, oo]; rw [← ha], rfl, fun j v hj => ?_⟩⟩, fun b hb => ?_⟩
        · have hjn : j < n := by
            have := (List.getElem?_eq_some_iff.1 hj).1
            simp only [ints, List.length_map, hlen] at this
            exact this
          rw [intsAt (by omega)] at hj
          have hc2 := hcell j (by omega)
          rw [ha, add_at] at hc2
          simp only [ob, oo]
          rw [hc2, ← hj]
          simp [hjn]
        · subst hb
          have hc2 := hcell 0 (by omega)
          have := World.block_lt_of_cell? W _ hc2
          rwa [block_add] at this
    · obtain ⟨z, hz, rfl⟩ := List.mem_map.1 hx
      have := hb z hz
      omega

theorem open_rowI {t e : TypeId} (ht : P.underlying t = some (.slice e)) (he : P.underlying e = some (.int .i64)) (hc : P.cellsOf e = 1) {fuel : Nat} {v : Value} {x : DataW H × List MemPlace} (hf : DataW.trod enc P W base spare held fuel t [v] = some x) :
    ∃ A n c p, v = .slice A n c ∧ n ≤ c ∧ (c : Int) ≤ 9223372036854775807 ∧ p.length = n ∧ Has (sl 1 A n (ints .i64 p)) W ∧ n ≤ uptoBulk x.1 := by
  rcases open_ints ht he hc hf with ⟨hcs2, _⟩ | ⟨a, n, c, zs, hcs2, _, hl, hm, hz, hx, hcell, hw⟩
  · simp only [List.cons.injEq, and_true] at hcs2
    subst hcs2
    exact ⟨none, 0, 0, [], rfl, Nat.le_refl _, by omega, rfl, Has.sl_nil W 1 none, Nat.zero_le _⟩
  · simp only [List.cons.injEq, and_true] at hcs2
    subst hcs2
    have hlz : n ≤ zs.length := by rw [hz]; split <;> omega
    have hlen : (zs.take n).length = n := by rw [List.length_take]; exact Nat.min_eq_left hlz
    refine ⟨some a, n, c, zs.take n, rfl, hl, by unfold maxLen at hm; omega, hlen, ?_, ?_⟩
    · by_cases hn : n = 0
      · subst hn
        exact Has.sl_nil W 1 (some a)
      · have h0 := hcell 0 (by omega)
        have ha : a = ⟨a.block, a.off, none⟩ := by
          cases a with
          | mk b o sp =>
            cases sp with
            | none => rfl
            | some x => simp [Addr.add, World.cell?] at h0; split at h0 <;> simp_all
        refine ⟨fun b => b = a.block, ⟨by simp only [ints, List.length_map, hlen, Nat.mul_one], fun _ => ⟨by simp only [ob, oo]; rw [← ha], rfl, fun j v hj => ?_⟩⟩, fun b hb => ?_⟩
        · have hjn : j < n := by
            have := (List.getElem?_eq_some_iff.1 hj).1
            simp only [ints, List.length_map, hlen] at this
            exact this
          rw [intsAt (by omega)] at hj
          have hc2 := hcell j (by omega)
          rw [ha, add_at] at hc2
          simp only [ob, oo]
          rw [hc2, ← hj]
          simp [hjn]
        · subst hb
          have hc2 := hcell 0 (by omega)
          have := World.block_lt_of_cell? W _ hc2
          rwa [block_add] at this
    · rw [hx, bulk_slice]
      have := bulk_len (H := H) (lits .i64 (zs.take n))
      have h2 : (lits (H := H) .i64 (zs.take n)).length = n := by unfold lits; rw [List.length_map]; exact hlen
      omega
theorem rows_any {α : Type} {row : α → List Value} {Q : List Value → Prop} {R : α → Prop} (hQ : ∀ r, Q r → ∃ a, r = row a ∧ R a) : ∀ rows : List (List Value), (∀ r ∈ rows, Q r) → ∃ l : List α, l.length = rows.length ∧ rows.flatten = l.flatMap row ∧ ∀ a ∈ l, R a
  | [], _ => ⟨[], rfl, rfl, fun e he => by cases he⟩
  | r :: rows, h => by
    obtain ⟨l, h1, h2, h3⟩ := rows_any hQ rows (fun r hr => h r (by simp [hr]))
    obtain ⟨a, rfl, h4⟩ := hQ r (h r (by simp))
    refine ⟨a :: l, by simp [h1], by rw [List.flatten_cons, h2]; rfl, fun e he => ?_⟩
    rcases List.mem_cons.1 he with rfl | he
    · exact h4
    · exact h3 e he
end
end Go.Sx
namespace Go.Proofs.YtcapijdokbkgaaaDoor
open Go Go.Sx Go.ChangeShapes Go.WideShapes Go.Deep
open Go.Proofs.YtcapijdokbkgaaaDoor.Rows (uptoBulk uptoBulkAll)
/-! ### What is told -/
/-- Faults that come in. -/
structure PlRead (A : Option Addr) (l : List FtG) (w : World) : Prop where
  rows : Has (sl 5 A l.length (l.flatMap FtG.row)) w
  bits : ∀ f ∈ l, Has (sl 1 f.A f.bits.length (ints .i64 f.bits)) w
  lens : ∀ f ∈ l, f.bits.length ≤ 1048576
theorem PlRead.turn {A : Option Addr} {l : List FtG} {w w' : World} (h : PlRead A l w) (hw : Fr (Old w) w w') : PlRead A l w' := ⟨h.rows.turn hw, fun f hf => (h.bits f hf).turn hw, h.lens⟩
def i64B (n : Int) : Prop := -9223372036854775808 ≤ n ∧ n ≤ 9223372036854775807
structure ToldG where
  kind : Int
  b : Int
  p : Int
  level : Int
  A : Option Addr
  c : Nat
  l : List Nat
  pA : Option Addr
  pc : Nat
  plan : List FtG
def ToldG.row (d : ToldG) : List Value := [.int .i64 d.kind, .int .i64 d.b, .int .i64 d.p, .int .i64 d.level, .slice d.A d.l.length d.c, .slice d.pA d.plan.length d.pc]
structure ToldIn (d : ToldG) (w : World) : Prop where
  bytes : Has (sl 1 d.A d.l.length (nats .u8 d.l)) w
  lt : ∀ x ∈ d.l, x < 256
  plan : PlRead d.pA d.plan w
  hb : i64B d.b
  hp : i64B d.p
/-- Things that a chip is told, where they lie. -/
structure TellIn (A : Option Addr) (l : List ToldG) (w : World) : Prop where
  rows : Has (sl 6 A l.length (l.flatMap ToldG.row)) w
  each : ∀ d ∈ l, ToldIn d w

structure FtT (P : Program) (t ti ts : TypeId) : Prop where
  ht : ∃ f0 f1 f2 f3 f4 : Field, P.underlying t = some (.struct #[f0, f1, f2, f3, f4]) ∧ (f0.type = ti ∧ f1.type = ti ∧ f2.type = ti ∧ f3.type = ti ∧ f4.type = ts) ∧ f0.offset = 0 ∧ f1.offset = 1 ∧ f2.offset = 2 ∧ f3.offset = 3 ∧ f4.offset = 4
  hi : P.underlying ti = some (.int .i64)
  hs : P.underlying ts = some (.slice ti)
  ci : P.cellsOf ti = 1
  cs : P.cellsOf ts = 1
  ct : P.cellsOf t = 5
structure PcT (P : Program) (t ti : TypeId) : Prop where
  ht : ∃ f0 f1 : Field, P.underlying t = some (.struct #[f0, f1]) ∧ (f0.type = ti ∧ f1.type = ti) ∧ f0.offset = 0 ∧ f1.offset = 1
  hi : P.underlying ti = some (.int .i64)
  ci : P.cellsOf ti = 1
  ct : P.cellsOf t = 2
structure DoT (P : Program) (t ti tp tb t8 tf : TypeId) : Prop where
  ht : ∃ f0 f1 f2 f3 f4 : Field, P.underlying t = some (.struct #[f0, f1, f2, f3, f4]) ∧ (f0.type = ti ∧ f1.type = tp ∧ f2.type = ti ∧ f3.type = tb ∧ f4.type = tf) ∧ f0.offset = 0 ∧ f1.offset = 1 ∧ f2.offset = 3 ∧ f3.offset = 4 ∧ f4.offset = 5
  hi : P.underlying ti = some (.int .i64)
  hb : P.underlying tb = some (.slice t8)
  h8 : P.underlying t8 = some (.int .u8)
  ci : P.cellsOf ti = 1
  cp : P.cellsOf tp = 2
  cb : P.cellsOf tb = 1
  c8 : P.cellsOf t8 = 1
  cf : P.cellsOf tf = 1
  ct : P.cellsOf t = 6
section
variable {H : Type} {enc : TypeId × Value → H} {P : Program} {W : World} {base b0 : Nat} {spare : Nat → Bool} {held : Bool}
theorem list2 {α : Type} {l : List α} (h : l.length = 2) : ∃ a0 a1, l = [a0, a1] := by
  match l, h with
  | [a0, a1], _ => exact ⟨_, _, rfl⟩
theorem list5 {α : Type} {l : List α} (h : l.length = 5) : ∃ a0 a1 a2 a3 a4, l = [a0, a1, a2, a3, a4] := by
  match l, h with
  | [a0, a1, a2, a3, a4], _ => exact ⟨_, _, _, _, _, rfl⟩
theorem cells_slice (A : Option Addr) (n c : Nat) : (Value.slice A n c).cells.toList = [.slice A n c] := rfl
theorem i64_w {z : Int} (hw : (Lit.int .i64 z).wf = true) : i64B z := by
  simp only [Lit.wf, Bool.and_eq_true, decide_eq_true_eq] at hw
  have e1 : IntKind.i64.min = -9223372036854775808 := by decide
  have e2 : IntKind.i64.max = 9223372036854775807 := by decide
  unfold i64B
  omega
theorem open_rowF {t ti ts : TypeId} (hT : FtT P t ti ts) {fuel : Nat} {r : List Value} {x : DataW H × List MemPlace} (hf : DataW.trod enc P W base spare held fuel t r = some x) : ∃ f : FtG, r = f.row ∧ Has (sl 1 f.A f.bits.length (ints .i64 f.bits)) W ∧ f.bits.length ≤ uptoBulk x.1 := by
  obtain ⟨f0, f1, f2, f3, f4, ht, ⟨t0, t1, t2, t3, t4⟩, o0, o1, o2, o3, o4⟩ := hT.ht
  obtain ⟨xs, n, _, rfl, hl, hlen, h⟩ := DataW.trod_struct ht hf
  rw [hT.ct] at hl
  obtain ⟨y0, y1, y2, y3, y4, rfl⟩ := list5 (show xs.length = 5 from hlen)
  obtain ⟨v0, v1, v2, v3, v4, rfl⟩ := list5 hl
  have k0 := h 0 f0 rfl
  have k1 := h 1 f1 rfl
  have k2 := h 2 f2 rfl
  have k3 := h 3 f3 rfl
  have k4 := h 4 f4 rfl
  rw [t0, o0, hT.ci] at k0
  rw [t1, o1, hT.ci] at k1
  rw [t2, o2, hT.ci] at k2
  rw [t3, o3, hT.ci] at k3
  rw [t4, o4, hT.cs] at k4
  obtain ⟨z0, g0, _, _⟩ := DataW.trod_int hT.hi (show DataW.trod enc P W base spare held n ti [v0] = some y0 from k0)
  obtain ⟨z1, g1, _, _⟩ := DataW.trod_int hT.hi (show DataW.trod enc P W base spare held n ti [v1] = some y1 from k1)
  obtain ⟨z2, g2, _, _⟩ := DataW.trod_int hT.hi (show DataW.trod enc P W base spare held n ti [v2] = some y2 from k2)
  obtain ⟨z3, g3, _, _⟩ := DataW.trod_int hT.hi (show DataW.trod enc P W base spare held n ti [v3] = some y3 from k3)
  obtain ⟨A, q, c, p, rfl, e1, e2, e3, e4, e5⟩ := open_rowI hT.hs hT.hi hT.ci (show DataW.trod enc P W base spare held n ts [v4] = some y4 from k4)
  simp only [List.cons.injEq, and_true] at g0 g1 g2 g3
  subst g0 g1 g2 g3 e3
  refine ⟨⟨z0, z1, z2, z3, A, c, p⟩, rfl, e4, ?_⟩
  rw [bulk_agg]
  have := bulk_mem (d := y4.1) (l := [y0, y1, y2, y3, y4].map (·.1)) (by simp)
  exact Nat.le_succ_of_le (Nat.le_trans e5 this)
theorem open_rowP {t ti : TypeId} (hT : PcT P t ti) {fuel : Nat} {r : List Value} {x : DataW H × List MemPlace} (hf : DataW.trod enc P W base spare held fuel t r = some x) : ∃ b p, r = [.int .i64 b, .int .i64 p] ∧ i64B b ∧ i64B p := by
  obtain ⟨f0, f1, ht, ⟨t0, t1⟩, o0, o1⟩ := hT.ht
  obtain ⟨xs, n, _, rfl, hl, hlen, h⟩ := DataW.trod_struct ht hf
  rw [hT.ct] at hl
  obtain ⟨y0, y1, rfl⟩ := list2 (show xs.length = 2 from hlen)
  obtain ⟨v0, v1, rfl⟩ := list2 hl
  have k0 := h 0 f0 rfl
  have k1 := h 1 f1 rfl
  rw [t0, o0, hT.ci] at k0
  rw [t1, o1, hT.ci] at k1
  obtain ⟨z0, g0, _, w0⟩ := DataW.trod_int hT.hi (show DataW.trod enc P W base spare held n ti [v0] = some y0 from k0)
  obtain ⟨z1, g1, _, w1⟩ := DataW.trod_int hT.hi (show DataW.trod enc P W base spare held n ti [v1] = some y1 from k1)
  simp only [List.cons.injEq, and_true] at g0 g1
  subst g0 g1
  exact ⟨z0, z1, rfl, i64_w w0, i64_w w1⟩
end
theorem ftT : FtT Tryd.prog 48 3 37 := ⟨⟨_, _, _, _, _, Tryd.underlying48, ⟨rfl, rfl, rfl, rfl, rfl⟩, rfl, rfl, rfl, rfl, rfl⟩, Tryd.underlying3, Tryd.underlying37, by kernel_rfl, by kernel_rfl, by kernel_rfl⟩
theorem pcT : PcT Tryd.prog 31 3 := ⟨⟨_, _, Tryd.underlying31, ⟨rfl, rfl⟩, rfl, rfl⟩, Tryd.underlying3, by kernel_rfl, by kernel_rfl⟩
end Go.Proofs.YtcapijdokbkgaaaDoor
end
section
/- Whether faults, and things that a chip is told, are few. Conditions: they are read where they lie. -/
namespace Go.Proofs.YtcapijdokbkgaaaDoor
open Go Go.Sx Go.Fm
set_option maxRecDepth 100000
def sumB (l : List FtG) : Nat := (l.map (fun f => f.bits.length)).sum
def lightB (l : List FtG) : Bool := decide (l.length ≤ 60) && decide (sumB l ≤ 600)
def tellB (d : ToldG) : Bool := decide (d.l.length ≤ 300) && lightB d.plan
def allB (l : List ToldG) : Bool := decide (l.length ≤ 60) && l.all tellB
def gT (l : List ToldG) (i : Nat) : ToldG := l.getD i ⟨0, 0, 0, 0, none, 0, [], none, 0, []⟩
end Go.Proofs.YtcapijdokbkgaaaDoor
end
section
/- What a chip that is told things does: plain. No condition. -/
namespace Go.Proofs.YtcapijdokbkgaaaDoor
open Go Go.Sx
set_option maxRecDepth 100000
theorem ToldIn.turn {d : ToldG} {w w' : World} (h : ToldIn d w) (hw : Fr (Old w) w w') : ToldIn d w' := ⟨h.bytes.turn hw, h.lt, h.plan.turn hw, h.hb, h.hp⟩
/-- A thing that a chip is told. -/
def stepS (d : ToldG) (s : ChS) : ChS :=
  if d.kind = 1 then (s.rd d.b d.p d.level).2.2 else if d.kind = 2 then (s.pr d.b d.p d.l).2 else if d.kind = 3 then (s.er d.b).2 else { s with off := false }
theorem step_ok {s : ChS} (h : s.Ok) {d : ToldG} (h8 : ∀ x ∈ d.l, x < 256) : (stepS d s).Ok := by
  unfold stepS
  split
  · exact rd_okp h _ _ _
  · split
    · exact pr_okp h _ _ h8
    · split
      · exact er_okp h _
      · exact off_okp h _
/-- As large as it was. -/
structure ChS.As (s t : ChS) : Prop where
  p : t.pages = s.pages
  z : t.size = s.size
  v : t.levels = s.levels
  b : t.blocks.length = s.blocks.length
theorem ChS.As.refl (s : ChS) : s.As s := ⟨rfl, rfl, rfl, rfl⟩
theorem rd_as (s : ChS) (b p v : Int) : s.As (s.rd b p v).2.2 ∧ (s.rd b p v).2.2.blocks = s.blocks := by
  unfold ChS.rd
  split
  · exact ⟨.refl s, rfl⟩
  · split
    · exact ⟨⟨rfl, rfl, rfl, rfl⟩, rfl⟩
    · exact ⟨⟨rfl, rfl, rfl, rfl⟩, rfl⟩
theorem pr_as (s : ChS) (b p : Int) (l : List Nat) : s.As (s.pr b p l).2 := by
  unfold ChS.pr
  split
  · exact .refl s
  · exact ⟨rfl, rfl, rfl, by show (List.set _ _ _).length = _; rw [List.length_set]; rfl⟩
theorem er_as (s : ChS) (b : Int) : s.As (s.er b).2 := by
  unfold ChS.er
  split
  · exact .refl s
  · exact ⟨rfl, rfl, rfl, by show (List.set _ _ _).length = _; rw [List.length_set]⟩
theorem step_as (d : ToldG) (s : ChS) : s.As (stepS d s) := by
  unfold stepS
  split
  · exact (rd_as s _ _ _).1
  · split
    · exact pr_as s _ _ _
    · split
      · exact er_as s _
      · exact ⟨rfl, rfl, rfl, rfl⟩
theorem As.inn {s t : ChS} (h : s.As t) (b p : Int) : t.inn b p = s.inn b p := by
  unfold ChS.inn ChS.has
  rw [h.p, h.b]
theorem pg_blocks {s t : ChS} (h : t.blocks = s.blocks) (b p : Int) : t.pg b p = s.pg b p := by
  unfold ChS.pg ChS.bk
  rw [h]
theorem getD_set {α : Type} {l : List α} {i j : Nat} {x z : α} (hi : i < l.length) : (l.set i x).getD j z = if i = j then x else l.getD j z := by
  rw [List.getD_eq_getElem?_getD, List.getElem?_set, List.getD_eq_getElem?_getD]
  split
  · first | rfl | (rw [if_pos hi]; rfl)
  · rfl
theorem setPg_pg {s : ChS} (hs : s.Ok) {b p : Int} (h : s.inn b p = true) (q : PgS) {i k : Int} (hi : s.inn i k = true) : (s.setPg b p q).pg i k = if b = i ∧ p = k then q else s.pg i k := by
  obtain ⟨h1, h2, h3⟩ := has_inn h
  obtain ⟨g1, g2, g3⟩ := has_inn hi
  obtain ⟨h4, h5⟩ := bk_ok hs h1
  unfold ChS.has at h1 g1
  have h6 := of_decide_eq_true h1
  have g6 := of_decide_eq_true g1
  unfold ChS.pg ChS.setPg
  simp only
  show ((s.blocks.set b.toNat _).getD i.toNat BkS.nul).pages.getD k.toNat PgS.nul = _
  rw [getD_set h5]
  by_cases e : b = i
  · subst e
    rw [if_pos rfl]
    simp only
    have hl : p.toNat < (s.bk b).pages.length := by
      have := h4.1
      omega
    rw [getD_set hl]
    by_cases e2 : p = k
    · subst e2
      rw [if_pos rfl, if_pos ⟨trivial, rfl⟩]
    · rw [if_neg (by omega), if_neg (fun hn => e2 hn.2)]
  · rw [if_neg (by omega), if_neg (fun hn => e hn.1)]
    rfl
/-- The chip that ChipFalls looks at. -/
structure Is334 (s : ChS) : Prop where
  ok : s.Ok
  p : s.pages = 3
  z : s.size = 4
  b : s.blocks.length = 3
theorem Is334.step {s : ChS} (h : Is334 s) {d : ToldG} (h8 : ∀ x ∈ d.l, x < 256) : Is334 (stepS d s) := by
  have h1 := step_as d s
  exact ⟨step_ok h.ok h8, h1.p.trans h.p, h1.z.trans h.z, h1.b.trans h.b⟩
theorem Is334.inn {s : ChS} (h : Is334 s) {b p : Nat} (hb : b < 3) (hp : p < 3) : s.inn (b : Nat) (p : Nat) = true := by
  unfold ChS.inn ChS.has
  rw [h.p, h.b, decide_eq_true (by omega), decide_eq_true (by omega)]
  rfl
theorem Is334.len {s : ChS} (h : Is334 s) {b p : Nat} (hb : b < 3) (hp : p < 3) : (s.pg (b : Nat) (p : Nat)).cells.length = 4 ∧ ∀ x ∈ (s.pg (b : Nat) (p : Nat)).cells, x < 256 := by
  obtain ⟨h1, h2, _⟩ := page_ok h.ok (h.inn hb hp)
  rw [h.z] at h1
  exact ⟨by omega, h2⟩
theorem Is334.cells {s : ChS} (h : Is334 s) {b p : Nat} (hb : b < 3) (hp : p < 3) : (if s.inn (b : Nat) (p : Nat) = true then (s.pg (b : Nat) (p : Nat)).cells else []) = (s.pg (b : Nat) (p : Nat)).cells := if_pos (h.inn hb hp)
end Go.Proofs.YtcapijdokbkgaaaDoor
end
section
/- A chip without faults keeps what it is given: plain. No condition. -/
namespace Go.Proofs.YtcapijdokbkgaaaDoor
open Go Go.Sx
set_option maxRecDepth 100000
theorem pr_set {s : ChS} {b p : Int} {l : List Nat} (h : s.prE b p l.length = 0) : s.pr b p l = ((layN s.hits s.size).2, ({ ({ s with broken := if wrongAt (s.bk b).pages p then wr (s.broken + 1) else s.broken } : ChS).tick with off := (findK s.hits 3).isSome } : ChS).setPg b p ⟨andTo (clampN (layN s.hits s.size).1 s.size) (s.pg b p).cells (spoils s.hits l), l, true⟩) := by
  unfold ChS.pr
  rw [if_neg (fun hn => hn h)]
theorem pr_pg {s : ChS} (hs : s.Ok) {b p : Int} {l : List Nat} (h : s.prE b p l.length = 0) {i k : Int} (hi : s.inn i k = true) : (s.pr b p l).2.pg i k = if b = i ∧ p = k then ⟨andTo (clampN (layN s.hits s.size).1 s.size) (s.pg b p).cells (spoils s.hits l), l, true⟩ else s.pg i k := by
  rw [pr_set h]
  exact setPg_pg (s := { ({ s with broken := if wrongAt (s.bk b).pages p then wr (s.broken + 1) else s.broken } : ChS).tick with off := (findK s.hits 3).isSome }) (hs.same rfl rfl rfl rfl rfl) (prE_zero h).2.1 _ hi
theorem er_set {s : ChS} {b : Int} (h : s.erE b = 0) : s.er b = ((eraN s.hits s.pages).2, { s.tick with off := (findK s.hits 3).isSome, blocks := s.blocks.set b.toNat { s.bk b with pages := List.replicate (eraN s.hits s.pages).1 (PgS.bare s.size.toNat) ++ (s.bk b).pages.drop (eraN s.hits s.pages).1, worn := if (eraN s.hits s.pages).2 = 0 then wr ((s.bk b).worn + 1) else (s.bk b).worn } }) := by
  unfold ChS.er
  rw [if_neg (fun hn => hn h)]
theorem er_pg {s : ChS} (hs : s.Ok) {b : Int} (h : s.erE b = 0) {i k : Int} (hi : s.inn i k = true) : (s.er b).2.pg i k = if b = i then (List.replicate (eraN s.hits s.pages).1 (PgS.bare s.size.toNat) ++ (s.bk b).pages.drop (eraN s.hits s.pages).1).getD k.toNat PgS.nul else s.pg i k := by
  rw [er_set h]
  obtain ⟨_, h2⟩ := erE_zero h
  obtain ⟨h4, h5⟩ := bk_ok hs h2
  obtain ⟨g1, g2, g3⟩ := has_inn hi
  have h6 : 0 ≤ b ∧ b < (s.blocks.length : Int) := of_decide_eq_true h2
  have g6 : 0 ≤ i ∧ i < (s.blocks.length : Int) := of_decide_eq_true g1
  show ((s.blocks.set b.toNat _).getD i.toNat BkS.nul).pages.getD k.toNat PgS.nul = _
  rw [getD_set h5]
  by_cases e : b = i
  · subst e
    rw [if_pos rfl, if_pos rfl]
  · rw [if_neg (by omega), if_neg e]
    rfl
theorem andTo_all {l : List Nat} (hl : l.length = 6) (h8 : ∀ x ∈ l, x < 256) : andTo 6 (List.replicate 6 255) l = l := by
  apply List.ext_getElem?
  intro j
  rw [andTo_at (by rw [hl]; decide), List.getElem?_replicate]
  by_cases hj : j < 6
  · rw [if_pos hj, if_pos hj, Option.map_some, and255 (getD_lt8 h8 _), List.getD_eq_getElem?_getD, List.getElem?_eq_getElem (by omega)]
    rfl
  · rw [if_neg hj, if_neg hj, List.getElem?_eq_none (by omega)]
/-- Four blocks of four pages of six bytes, without faults; in each block the first so many pages are used, the others are fresh. -/
structure Kp (s : ChS) (nx : List Nat) : Prop where
  ok : s.Ok
  p : s.pages = 4
  z : s.size = 6
  v : s.levels = 2
  b : s.blocks.length = 4
  pl : s.plan = []
  of : s.off = false
  br : s.broken = 0
  nl : nx.length = 4
  le : ∀ b : Nat, b < 4 → nx.getD b 0 ≤ 4
  us : ∀ b k : Nat, b < 4 → k < 4 → (s.pg (b : Nat) (k : Nat)).used = decide (k < nx.getD b 0)
  fr : ∀ b k : Nat, b < 4 → k < 4 → nx.getD b 0 ≤ k → (s.pg (b : Nat) (k : Nat)).cells = List.replicate 6 255
section
variable {s : ChS} {nx : List Nat}
theorem Kp.hits (h : Kp s nx) : s.hits = [] := by
  unfold ChS.hits
  rw [h.pl]
  rfl
theorem Kp.inn (h : Kp s nx) {b k : Nat} (hb : b < 4) (hk : k < 4) : s.inn (b : Nat) (k : Nat) = true := by
  unfold ChS.inn ChS.has
  rw [h.p, h.b, decide_eq_true (by omega), decide_eq_true (by omega)]
  rfl
theorem Kp.has (h : Kp s nx) {b : Nat} (hb : b < 4) : s.has (b : Nat) = true := by
  unfold ChS.has
  rw [h.b, decide_eq_true (by omega)]
theorem Kp.lay (h : Kp s nx) : layN s.hits s.size = (6, 0) := by
  rw [h.hits, h.z]
  rfl
theorem Kp.program (h : Kp s nx) {b : Nat} (hb : b < 4) (hn : nx.getD b 0 < 4) {l : List Nat} (hl : l.length = 6) (h8 : ∀ x ∈ l, x < 256) :
    (s.pr (b : Nat) (nx.getD b 0 : Nat) l).1 = 0 ∧ Kp (s.pr (b : Nat) (nx.getD b 0 : Nat) l).2 (nx.set b (nx.getD b 0 + 1)) ∧ ∀ i k : Nat, i < 4 → k < 4 → ((s.pr (b : Nat) (nx.getD b 0 : Nat) l).2.pg (i : Nat) (k : Nat)).cells = if b = i ∧ nx.getD b 0 = k then l else (s.pg (i : Nat) (k : Nat)).cells := by
  have hin := h.inn hb hn
  have hE : s.prE (b : Nat) (nx.getD b 0 : Nat) l.length = 0 := by
    unfold ChS.prE askC
    rw [h.of, hin, h.z, decide_eq_true (by omega)]
    rfl
  have hbk := (bk_ok h.ok (h.has hb)).1.1
  have hw : wrongAt (s.bk (b : Nat)).pages (nx.getD b 0 : Nat) = false := by
    unfold wrongAt
    rw [List.any_eq_false]
    rintro ⟨q, k⟩ hq
    rw [List.mem_zipIdx_iff_getElem?] at hq
    have hk : k < (s.bk (b : Nat)).pages.length := (List.getElem?_eq_some_iff.1 hq).1
    have hk4 : k < 4 := by rw [h.p] at hbk; omega
    have hu := h.us b k hb hk4
    have e : s.pg (b : Nat) (k : Nat) = q := by
      unfold ChS.pg
      rw [Int.toNat_natCast, List.getD_eq_getElem?_getD]
      exact congrArg (·.getD PgS.nul) hq
    rw [e] at hu
    simp only
    rw [hu]
    by_cases hkn : k < nx.getD b 0
    · rw [decide_eq_true hkn, decide_eq_false (show ¬ ((nx.getD b 0 : Nat) : Int) ≤ (k : Int) by omega)]
      simp
    · rw [decide_eq_false hkn, decide_eq_false (show ¬ ((k : Nat) : Int) < ((nx.getD b 0 : Nat) : Int) by omega)]
      simp
  have hpg : ∀ i k : Nat, i < 4 → k < 4 → (s.pr (b : Nat) (nx.getD b 0 : Nat) l).2.pg (i : Nat) (k : Nat) = if b = i ∧ nx.getD b 0 = k then ⟨l, l, true⟩ else s.pg (i : Nat) (k : Nat) := fun i k hi hk => by
    rw [pr_pg h.ok hE (h.inn hi hk), h.lay, h.hits, h.fr b _ hb hn (Nat.le_refl _), h.z, show clampN (6, 0).1 6 = 6 from rfl, show spoils [] l = l from rfl, andTo_all hl h8]
    by_cases e : b = i ∧ nx.getD b 0 = k
    · rw [if_pos e, if_pos ⟨by omega, by omega⟩]
    · rw [if_neg e, if_neg (by omega)]
  have has := pr_as s (b : Nat) (nx.getD b 0 : Nat) l
  have hbn : b < nx.length := by rw [h.nl]; exact hb
  refine ⟨by rw [pr_set hE, h.lay], ⟨pr_okp h.ok _ _ h8, has.p.trans h.p, has.z.trans h.z, has.v.trans h.v, has.b.trans h.b, ?_, ?_, ?_, by rw [List.length_set]; exact h.nl, fun i hi => ?_, fun i k hi hk => ?_, fun i k hi hk hik => ?_⟩, fun i k hi hk => ?_⟩
  · rw [pr_set hE]
    exact h.pl
  · rw [pr_set hE, h.hits]
    rfl
  · rw [pr_set hE]
    show (if wrongAt (s.bk (b : Nat)).pages (nx.getD b 0 : Nat) = true then _ else s.broken) = 0
    rw [hw]
    exact h.br
  · rw [getD_set hbn]
    split
    · omega
    · exact h.le i hi
  · rw [hpg i k hi hk, getD_set hbn]
    by_cases e : b = i
    · subst e
      rw [if_pos rfl]
      by_cases e2 : nx.getD b 0 = k
      · rw [if_pos ⟨rfl, e2⟩]
        exact (decide_eq_true (by omega)).symm
      · rw [if_neg (fun hn => e2 hn.2), h.us b k hb hk]
        exact decide_eq_decide.2 (by omega)
    · rw [if_neg (fun hn => e hn.1), if_neg e]
      exact h.us i k hi hk
  · rw [getD_set hbn] at hik
    rw [hpg i k hi hk]
    by_cases e : b = i
    · subst e
      rw [if_pos rfl] at hik
      rw [if_neg (by omega)]
      exact h.fr b k hb hk (by omega)
    · rw [if_neg e] at hik
      rw [if_neg (fun hn => e hn.1)]
      exact h.fr i k hi hk hik
  · rw [hpg i k hi hk]
    split <;> rfl
theorem Kp.erase (h : Kp s nx) {b : Nat} (hb : b < 4) :
    (s.er (b : Nat)).1 = 0 ∧ Kp (s.er (b : Nat)).2 (nx.set b 0) ∧ ∀ i k : Nat, i < 4 → k < 4 → ((s.er (b : Nat)).2.pg (i : Nat) (k : Nat)).cells = if b = i then List.replicate 6 255 else (s.pg (i : Nat) (k : Nat)).cells := by
  have hE : s.erE (b : Nat) = 0 := by
    unfold ChS.erE askC
    rw [h.of, h.has hb]
    rfl
  have hera : eraN s.hits s.pages = (4, 0) := by
    rw [h.hits, h.p]
    rfl
  have hpg : ∀ i k : Nat, i < 4 → k < 4 → (s.er (b : Nat)).2.pg (i : Nat) (k : Nat) = if b = i then PgS.bare 6 else s.pg (i : Nat) (k : Nat) := fun i k hi hk => by
    rw [er_pg h.ok hE (h.inn hi hk), hera, h.z]
    by_cases e : b = i
    · rw [if_pos e, if_pos (by omega), Int.toNat_natCast, List.getD_eq_getElem?_getD, List.getElem?_append_left (by rw [List.length_replicate]; exact hk), List.getElem?_replicate, if_pos hk]
      rfl
    · rw [if_neg e, if_neg (by omega)]
  have has := er_as s (b : Nat)
  have hbn : b < nx.length := by rw [h.nl]; exact hb
  refine ⟨by rw [er_set hE, hera], ⟨er_okp h.ok _, has.p.trans h.p, has.z.trans h.z, has.v.trans h.v, has.b.trans h.b, ?_, ?_, ?_, by rw [List.length_set]; exact h.nl, fun i hi => ?_, fun i k hi hk => ?_, fun i k hi hk hik => ?_⟩, fun i k hi hk => ?_⟩
  · rw [er_set hE]
    exact h.pl
  · rw [er_set hE, h.hits]
    rfl
  · rw [er_set hE]
    exact h.br
  · rw [getD_set hbn]
    split
    · omega
    · exact h.le i hi
  · rw [hpg i k hi hk, getD_set hbn]
    by_cases e : b = i
    · rw [if_pos e, if_pos e]
      exact (decide_eq_false (by omega)).symm
    · rw [if_neg e, if_neg e]
      exact h.us i k hi hk
  · rw [getD_set hbn] at hik
    rw [hpg i k hi hk]
    by_cases e : b = i
    · rw [if_pos e]
      rfl
    · rw [if_neg e] at hik
      rw [if_neg e]
      exact h.fr i k hi hk hik
  · rw [hpg i k hi hk]
    split <;> rfl
theorem Kp.read (h : Kp s nx) {b k : Nat} (hb : b < 4) (hk : k < 4) : (s.rd (b : Nat) (k : Nat) 1).1 = 0 ∧ (s.rd (b : Nat) (k : Nat) 1).2.1 = (s.pg (b : Nat) (k : Nat)).cells ∧ (s.rd (b : Nat) (k : Nat) 1).2.2.broken = 0 := by
  have hE : s.rdE (b : Nat) (k : Nat) 1 = 0 := by
    unfold ChS.rdE askC
    rw [h.of, h.inn hb hk, h.v]
    rfl
  unfold ChS.rd
  rw [if_neg (fun hn => hn hE), h.hits]
  exact ⟨rfl, rfl, h.br⟩
end
def K14 : ChS := ChS.new 4 4 6 2 [] []
/-- What is to be read: what came last, or nothing. -/
def wantL : Option ToldG → List Nat
  | none => List.replicate 6 255
  | some d => d.l
def wantV : Option ToldG → Value
  | none => .slice none 0 0
  | some d => .slice d.A d.l.length d.c
end Go.Proofs.YtcapijdokbkgaaaDoor
end
section
/- Maps with integer keys: made, filled, looked up: lemmas over any program. No condition. -/
namespace Go.Sx
open Go
/-- A map, whole. -/
def mapA (g : Nat) (es : Array MapEntry) (ck : Nat) : Atom where
  ok w D := (∀ k, D k ↔ k = g) ∧ w.heap[g]? = some (.map es ck)
  loc := fun ⟨h1, h2⟩ hb => ⟨h1, (hb _ ((h1 _).2 rfl)).trans h2⟩
theorem Has.mapAt {g : Nat} {es : Array MapEntry} {ck : Nat} {w : World} (h : Has (mapA g es ck) w) : w.heap[g]? = some (.map es ck) := let ⟨_, ⟨_, h2⟩, _⟩ := h; h2
/-- T: a map from integers. -/
class MapT (P : Program) (T : TypeId) (kt et : outParam TypeId) (kk : outParam IntKind) : Prop where
  under : P.underlying T = some (.map kt et)
  key : P.underlying kt = some (.int kk)
section
variable {P : Program} {w : World} {T kt et : TypeId} {kk : IntKind} {r ck : Nat} {es : Array MapEntry} {key v : Value}
theorem run_getM (hb : w.heap[r]? = some (.map es ck)) : (getObj r).run P w = .ok (.map es ck) w := by simp [getObj, Sem.run, hb]
theorem run_setM (o : Obj) (hb : w.heap[r]? = some (.map es ck)) : (setObj r o).run P w = .ok () { w with heap := w.heap.setIfInBounds r o } := by simp [setObj, Sem.run, hb]
theorem run_mkMap (t : TypeId) : (Instr.makeMap t none).run P w = .ok (.map (some w.heap.size)) (w.alloc (.map #[] 0)) := rfl
theorem run_checkKeyI (hk : P.underlying kt = some (.int kk)) (b : Bool) (k : IntKind) (x : Int) : (Instr.checkKey b 10000 kt (.int k x)).run P w = .ok () w := by
  unfold Instr.checkKey
  simp only [Sem.run_bind, run_underlying hk, Result.andThen_ok, Sem.run_pure]
theorem run_findKeyI (hk : P.underlying kt = some (.int kk)) {x : Option (Nat × Value)} (hf : Instr.findNow (.int kk) key es.toList 0 = some x) : (Instr.findKey kt key es.toList).run P w = .ok x w := by
  unfold Instr.findKey
  simp only [Sem.run_bind, run_underlying hk, Result.andThen_ok, hf, Sem.run_pure]
theorem run_lookupI [h : MapT P T kt et kk] {k : IntKind} {x : Int} {i : Nat} (hb : w.heap[r]? = some (.map es ck)) (hf : Instr.findNow (.int kk) (.int k x) es.toList 0 = some (some (i, v))) : (Instr.lookup T (.map (some r)) (.int k x) false).run P w = .ok v w := by
  unfold Instr.lookup
  simp only [Sem.run_bind, run_underlying h.under, Result.andThen_ok, run_getM hb, Sem.run_pure, run_checkKeyI h.key, run_findKeyI h.key hf]
  simp
theorem run_insertI [h : MapT P T kt et kk] {k : IntKind} {x : Int} (hb : w.heap[r]? = some (.map es ck)) (hf : Instr.findNow (.int kk) (.int k x) es.toList 0 = some none) :
    (Instr.mapUpdate T (.map (some r)) (.int k x) v).run P w = .ok () { w with heap := w.heap.setIfInBounds r (.map (es.push { key := .int k x, val := v, born := ck }) (ck + 1)) } := by
  unfold Instr.mapUpdate
  simp only [Sem.run_bind, run_underlying h.under, Result.andThen_ok, run_getM hb, run_checkKeyI h.key, run_findKeyI h.key hf, run_setM _ hb]
end
section
variable {P : Program} {ops : Array Oper} {S : World → Prop} {K : Act → World → Prop} {p : Plan} {n i : Nat} {l : List (Nat × Value)} {C : World → Prop} {ty ty' ty2 : TypeId} {x y z : Operand} {fl : Bool}
variable {F : Nat → Prop} {w₀ w : World} {L : List Atom} {T kt et : TypeId} {kk k : IntKind} {g ck : Nat} {es : Array MapEntry}
theorem St.allocMap (h : St F w₀ L w) : St F w₀ (mapA w.heap.size #[] 0 :: L) (w.alloc (.map #[] 0)) :=
  h.join (L' := [mapA w.heap.size #[] 0]) ⟨⟨rfl, rfl, rfl, by simp, fun k hk => Go.RowKit.Below.heap_alloc w _ k hk⟩, fun _ hk => hk,
    ⟨fun k => k = w.heap.size, ⟨fun k => Iff.rfl, heap_alloc_new w _⟩, fun k hk => ⟨by simp [Old]; omega, by simp; omega⟩, trivial⟩⟩
theorem St.mapSet {q : Nat} (hi : L[q]? = some (mapA g es ck)) (es2 : Array MapEntry) (ck2 : Nat) (h : St F w₀ L w) : St F w₀ (L.set q (mapA g es2 ck2)) { w with heap := w.heap.setIfInBounds g (.map es2 ck2) } := by
  obtain ⟨D, ⟨h1, h2⟩, h3, h4⟩ := h.work hi
  refine h4 _ _ D ⟨rfl, rfl, rfl, by simp, fun k hk => ?_⟩ ⟨h1, ?_⟩ (fun k hk => ⟨.inl hk, by simpa using h3 k hk⟩)
  · have hne : g ≠ k := fun e => hk.2 ((h1 k).2 e.symm)
    show (w.heap.setIfInBounds g _)[k]? = _
    rw [Array.getElem?_setIfInBounds, if_neg hne]
  · have hlt : g < w.heap.size := h3 g ((h1 g).2 rfl)
    show (w.heap.setIfInBounds g _)[g]? = _
    rw [Array.getElem?_setIfInBounds, if_pos rfl, if_pos hlt]
theorem St.mapGet {q : Nat} (hi : L[q]? = some (mapA g es ck)) (h : St F w₀ L w) : w.heap[g]? = some (.map es ck) := (h.has hi).mapAt
theorem s_mkMap (d : Nat) (ho : opAt ops n l i = some (some d, .makeMap ty' none, ty)) (hS : ∀ w, St F w₀ L w → S w)
    (h : ∀ g, SX P ops S K p n ((d, .map (some g)) :: l) (St F w₀ (mapA g #[] 0 :: L))) : SX P ops S K (.st false i p) n l (St F w₀ L) :=
  SX.act (v := fun g => .map (some g)) (C' := fun g => St F w₀ (mapA g #[] 0 :: L)) ho (fun a w o he hc h1 _ => ⟨w.heap.size, _, .inl (by
    simp only [execOp, h1, Option.map_none, Sem.run_bind, run_mkMap, Result.andThen_ok, Sem.run_pure]), hc.allocMap⟩) (fun _ w hw => hS w ⟨hw.fr, hw.lt, hw.sep.tail⟩) h
theorem s_insMap (q : Nat) {a : Int} {v : Value} (hi : L[q]? = some (mapA g es ck)) (ho : opAt ops n l i = some (none, .insert ty x y z, ty2)) [hm : MapT P ty kt et kk] (hx : ev l x = some (.map (some g))) (hy : ev l y = some (.int k a)) (hz : ev l z = some v)
    (hf : Instr.findNow (.int kk) (.int k a) es.toList 0 = some none) (hS : ∀ w, St F w₀ (L.set q (mapA g (es.push ⟨.int k a, v, ck⟩) (ck + 1))) w → S w) (h : SX P ops S K p n l (St F w₀ (L.set q (mapA g (es.push ⟨.int k a, v, ck⟩) (ck + 1))))) : SX P ops S K (.st false i p) n l (St F w₀ L) :=
  SX.act (X := Unit) (v := fun _ => undef) (C' := fun _ => St F w₀ (L.set q (mapA g (es.push ⟨.int k a, v, ck⟩) (ck + 1)))) ho (fun e w o he hcw h1 _ =>
    ⟨(), _, .inr ⟨by simp only [execOp, h1, he.ev hx, he.ev hy, he.ev hz, Sem.run_bind, run_insertI (h := hm) (v := v) (hcw.mapGet hi) hf, Result.andThen_ok, Sem.run_pure], rfl⟩, hcw.mapSet hi _ _⟩) (fun _ => hS) (fun _ => h)
theorem s_lookI (d : Nat) {a : Int} {j : Nat} {v : Value} (hv : ∀ w, C w → Has (mapA g es ck) w) (ho : opAt ops n l i = some (some d, .lookup ty x y false, ty2)) [hm : MapT P ty kt et kk] (hx : ev l x = some (.map (some g))) (hy : ev l y = some (.int k a))
    (hf : Instr.findNow (.int kk) (.int k a) es.toList 0 = some (some (j, v))) (h : SX P ops S K p n ((d, v) :: l) C) : SX P ops S K (.st false i p) n l C :=
  SX.val ho (fun e w o he _ hs h1 _ => by simp only [execOp, h1, he.ev hx, he.ev hy, Sem.run_bind, run_lookupI (h := hm) (hv w (hs rfl)).mapAt hf, Result.andThen_ok, Sem.run_pure]) h
end
end Go.Sx
end
section
/- A driver: what it is, what it does, where it lies. No condition. -/
namespace Go.Proofs.YtcapijdokbkgaaaDoor
open Go Go.Sx
set_option maxRecDepth 100000
structure DrS where
  next : List Int
  bad : List Bool
  reads : Int
  programs : Int
  erases : Int
def DrS.has (d : DrS) (b : Int) : Bool := decide (0 ≤ b ∧ b < (d.next.length : Int))
def DrS.bd (d : DrS) (b : Int) : Bool := d.bad.getD b.toNat false
def DrS.nx (d : DrS) (b : Int) : Int := d.next.getD b.toNat 0
def DrS.put (d : DrS) (b v : Int) : DrS := { d with next := d.next.set b.toNat v }
/-- Whether a block is there and good; and open. -/
def DrS.askB (d : DrS) (b : Int) : Int := if d.has b then (if d.bd b then 112 else 0) else 110
def DrS.askO (d : DrS) (pg b : Int) : Int := if d.askB b = 0 then (if pg ≤ d.nx b then 110 else 0) else d.askB b
structure DrS.Ok (d : DrS) : Prop where
  bl : d.bad.length = d.next.length
  nl : d.next.length ≤ 64
def drRd (d : DrS) (s : ChS) (b p v : Int) : Int × List Nat × DrS × ChS :=
  if d.has b && d.bd b then (112, [], d, s) else ((s.rd b p v).1, (s.rd b p v).2.1, { d with reads := wr (d.reads + 1) }, (s.rd b p v).2.2)
def drAp (pg sz : Int) (d : DrS) (s : ChS) (b : Int) (l : List Nat) : Int × Int × DrS × ChS :=
  if d.askO pg b ≠ 0 then (0, d.askO pg b, d, s)
  else if (l.length : Int) ≠ sz then (0, 116, d, s)
  else if (s.pr b (d.nx b) l).1 ≠ 0 then (0, (s.pr b (d.nx b) l).1, { d with programs := wr (d.programs + 1) }.put b pg, (s.pr b (d.nx b) l).2)
  else (d.nx b, 0, { d with programs := wr (d.programs + 1) }.put b (wr (d.nx b + 1)), (s.pr b (d.nx b) l).2)
def drEr (pg : Int) (d : DrS) (s : ChS) (b : Int) : Int × DrS × ChS :=
  if d.askB b ≠ 0 then (d.askB b, d, s)
  else ((s.er b).1, { d with erases := wr (d.erases + 1) }.put b (if (s.er b).1 ≠ 0 then pg else 0), (s.er b).2)
def drCl (pg : Int) (d : DrS) (b : Int) : DrS := if d.has b then d.put b pg else d
def drRe (pg : Int) (d : DrS) (b : Int) : DrS := if d.has b then { d with bad := d.bad.set b.toNat true }.put b pg else d
def drFr (d : DrS) (s : ChS) (b : Int) : DrS := if d.askB b = 0 ∧ ∀ k : Nat, k < s.pages.toNat → (s.pg b k).used = false then d.put b 0 else d
def drNx (pg : Int) (d : DrS) (b : Int) : Int := if d.has b then d.nx b else pg
/-! ### Where it lies -/
structure DrG where
  cb : Nat
  pages : Int
  size : Int
  A : Option Addr
  c : Nat
  next : List Int
  B : Option Addr
  cc : Nat
  bad : List Bool
  reads : Int
  programs : Int
  erases : Int
def DrG.abs (x : DrG) : DrS := ⟨x.next, x.bad, x.reads, x.programs, x.erases⟩
def DrG.cells (x : DrG) : Array Value := #[.pointer (some ⟨x.cb, 0, none⟩), .int .i64 x.pages, .int .i64 x.size, .slice x.A x.next.length x.c, .slice x.B x.bad.length x.cc, .int .i64 x.reads, .int .i64 x.programs, .int .i64 x.erases]
def bools (l : List Bool) : List Value := l.map Value.bool
def DrG.hd (g : Nat) (x : DrG) : Atom := blk g 134 x.cells
def DrG.nxA (x : DrG) : Atom := own 3 1 x.A x.next.length x.c (ints .i64 x.next)
def DrG.bdA (x : DrG) : Atom := own 4 1 x.B x.bad.length x.cc (bools x.bad)
def driveA (g : Nat) (x : DrG) : Atom := starA [x.hd g, x.nxA, x.bdA]
structure DrG.Keep (x z : DrG) : Prop where
  cb : z.cb = x.cb
  p : z.pages = x.pages
  z : z.size = x.size
theorem DrG.Keep.refl (x : DrG) : x.Keep x := ⟨rfl, rfl, rfl⟩
theorem DrG.Keep.trans {a b c : DrG} (h : a.Keep b) (k : b.Keep c) : a.Keep c := ⟨k.cb.trans h.cb, k.p.trans h.p, k.z.trans h.z⟩
theorem boolsAt {l : List Bool} {i : Nat} (h : i < l.length) : (bools l)[i]? = some (.bool (l.getD i false)) := by
  unfold bools
  rw [List.getElem?_map, List.getElem?_eq_getElem h, List.getD_eq_getElem?_getD, List.getElem?_eq_getElem h]
  rfl
theorem bools_set (l : List Bool) (i : Nat) (v : Bool) : (bools l).set i (.bool v) = bools (l.set i v) := by unfold bools; rw [List.map_set]
theorem intsSet (l : List Int) (i : Nat) (v : Int) : (ints .i64 l).set i (.int .i64 v) = ints .i64 (l.set i v) := by simp [ints, List.map_set]
section
variable {F : Nat → Prop} {w₀ w : World} {L : List Atom} {g : Nat} {x : DrG}
theorem _root_.Go.Sx.St.driveO (h : St F w₀ (driveA g x :: L) w) : St F w₀ (x.hd g :: x.nxA :: x.bdA :: L) w := h.open_
theorem _root_.Go.Sx.St.driveC (h : St F w₀ (x.hd g :: x.nxA :: x.bdA :: L) w) : St F w₀ (driveA g x :: L) w := St.close_ [x.hd g, x.nxA, x.bdA] h
theorem dr_cell (h : Has (driveA g x) w) {j : Nat} {v : Value} (hj : x.cells[j]? = some v) : w.cell? ⟨g, j, none⟩ = some v := (h.starM (A := x.hd g) (by simp)).cellB hj
theorem dr_nx (h : Has (driveA g x) w) : Has (sl 1 x.A x.next.length (ints .i64 x.next)) w := (h.starM (A := x.nxA) (by simp)).of_own
theorem dr_bd (h : Has (driveA g x) w) : Has (sl 1 x.B x.bad.length (bools x.bad)) w := (h.starM (A := x.bdA) (by simp)).of_own
/-- A block's next page is another. -/
theorem _root_.Go.Sx.St.drivePut (i : Nat) (v : Int) (h : St F w₀ (x.hd g :: own 3 1 x.A x.next.length x.c ((ints .i64 x.next).set i (.int .i64 v)) :: x.bdA :: L) w) : St F w₀ (driveA g { x with next := x.next.set i v } :: L) w := by
  rw [intsSet] at h
  refine St.driveC ?_
  unfold DrG.hd DrG.cells DrG.nxA at *
  simp only [List.length_set]
  exact h
end
theorem dhas_at' {d : DrS} {b : Int} (h : d.has b = true) : ∃ i : Nat, b = (i : Nat) ∧ i < d.next.length := by
  have h1 := of_decide_eq_true h
  obtain ⟨i, rfl⟩ := Int.eq_ofNat_of_zero_le h1.1
  exact ⟨i, rfl, by omega⟩
theorem askB_zero {d : DrS} {b : Int} (h : d.askB b = 0) : d.has b = true ∧ d.bd b = false := by
  unfold DrS.askB at h
  split at h
  · split at h
    · omega
    · rename_i h1 h2
      exact ⟨h1, by simpa using h2⟩
  · omega
theorem askB_of {d : DrS} {b : Int} (h1 : d.has b = true) (h2 : d.bd b = false) : d.askB b = 0 := by
  unfold DrS.askB
  rw [h1, h2]
  rfl
theorem askO_zero {d : DrS} {pg b : Int} (h : d.askO pg b = 0) : d.askB b = 0 ∧ d.nx b < pg := by
  unfold DrS.askO at h
  split at h
  · split at h
    · omega
    · rename_i h1 h2
      exact ⟨h1, by omega⟩
  · rename_i h1
    exact absurd h h1
end Go.Proofs.YtcapijdokbkgaaaDoor
end
section
/- Package drive: what a block is asked for. Conditions: the driver is read where it lies; errors' variables. -/
namespace Go.Proofs.YtcapijdokbkgaaaDoor
open Go Go.Sx Go.Fm
set_option maxRecDepth 100000
instance : MapT Tryd.prog 140 3 142 .i64 := ⟨Tryd.underlying140, Tryd.underlying3⟩
def qsA : Array MapEntry := #[⟨.int .i64 0, .func (.func 82) #[] #[], 0⟩, ⟨.int .i64 1, .func (.func 92) #[] #[], 1⟩, ⟨.int .i64 2, .func (.func 93) #[] #[], 2⟩]
theorem there_spec (g : Nat) (x : DrG) (b : Int) (e : Nat → Addr) (w : World) (he : Er e w 1) (hd : Has (driveA g x) w) : Spec1 Tryd.prog 82 [.pointer (some ⟨g, 0, none⟩), .int .i64 b] w (evE e (if x.abs.has b then 0 else 110)) := by
  refine spec_of Tryd.func82 rfl Tryd.ntmps82 rfl ?_
  refine CW.seq ?_
  refine CW.reg [0] rfl ?_
  refine s_as 4 rfl rfl ?_
  refine SX.next ?_
  refine CW.seq ?_
  refine CW.seq ?_
  refine CW.reg [0, 1, 2, 3, 4, 5, 6, 7, 8, 9, 10] rfl ?_
  refine s_mv 5 rfl rfl ?_
  refine s_lt 6 rfl rfl rfl rfl ?_
  refine s_mv 7 rfl rfl ?_
  refine SX.bool 7 rfl (fun hb => ?_) (fun hb => ?_)
  · skip
    have h1 := of_decide_eq_true hb
    refine SX.skip rfl ?_
    refine SX.skip rfl ?_
    refine SX.skip rfl ?_
    refine SX.skip rfl ?_
    refine SX.skip rfl ?_
    refine SX.skip rfl ?_
    refine SX.skip rfl ?_
    refine s_pickT 15 rfl rfl rfl ?_
    refine SX.next ?_
    refine CW.condT rfl ?_
    refine CW.seq ?_
    have hno : x.abs.has b = false := by
      unfold DrS.has
      exact decide_eq_false (fun h => by have h3 : b < (x.next.length : Int) := h.2; omega)
    refine CW.reg [0, 1] rfl ?_
    refine s_ld 16 rfl rfl (fun _ hw => hw.cell he) ?_
    refine s_as 4 rfl rfl ?_
    refine SX.next ?_
    refine CW.ret ?_
    exact KN.ret (rs := [.tmp 4]) Tryd.results82 rfl (fun w hw => ⟨by rw [hno]; rfl, hw.nothing⟩)
  · skip
    have h1 := of_decide_eq_false hb
    refine s_mv 8 rfl rfl ?_
    refine s_mv 9 rfl rfl ?_
    refine s_nil 10 rfl rfl ?_
    refine s_fa 11 rfl rfl ?_
    refine s_ld 12 rfl rfl (v := .slice x.A x.next.length x.c) (fun _ hw => dr_cell (hw.old hd) rfl) ?_
    refine s_len 13 rfl rfl ?_
    refine s_ge 14 rfl rfl rfl rfl ?_
    refine s_pickF 15 rfl rfl rfl ?_
    refine SX.next ?_
    refine CW.test rfl (fun h2 => ?_) (fun h2 => ?_)
    · skip
      refine CW.seq ?_
      have hno : x.abs.has b = false := by
        unfold DrS.has
        exact decide_eq_false (fun h => by have h3 : b < (x.next.length : Int) := h.2; omega)
      refine CW.reg [0, 1] rfl ?_
      refine s_ld 16 rfl rfl (fun _ hw => hw.cell he) ?_
      refine s_as 4 rfl rfl ?_
      refine SX.next ?_
      refine CW.ret ?_
      exact KN.ret (rs := [.tmp 4]) Tryd.results82 rfl (fun w hw => ⟨by rw [hno]; rfl, hw.nothing⟩)
    · skip
      have hno : x.abs.has b = true := by
        unfold DrS.has
        exact decide_eq_true ⟨by omega, by show b < (x.next.length : Int); omega⟩
      refine CW.skip ?_
      refine KN.code ?_
      refine CW.seq ?_
      refine CW.reg [0] rfl ?_
      refine s_as 4 rfl rfl ?_
      refine SX.next ?_
      refine CW.ret ?_
      exact KN.ret (rs := [.tmp 4]) Tryd.results82 rfl (fun w hw => ⟨by rw [hno]; rfl, hw.nothing⟩)

theorem good_spec (g : Nat) (x : DrG) (b : Int) (e : Nat → Addr) (w : World) (he : Er e w 7) (hd : Has (driveA g x) w) (hh : x.abs.has b = true) (hk : x.bad.length = x.next.length) : Spec1 Tryd.prog 92 [.pointer (some ⟨g, 0, none⟩), .int .i64 b] w (evE e (if x.abs.bd b then 112 else 0)) := by
  obtain ⟨i, rfl, hil⟩ := dhas_at' hh
  have hil2 : i < x.next.length := hil
  refine spec_of Tryd.func92 rfl Tryd.ntmps92 rfl ?_
  refine CW.seq ?_
  refine CW.reg [0] rfl ?_
  refine s_as 4 rfl rfl ?_
  refine SX.next ?_
  refine CW.seq ?_
  refine CW.seq ?_
  refine CW.reg [0, 1, 2, 3, 4, 5, 6] rfl ?_
  refine s_mv 5 rfl rfl ?_
  refine s_nil 6 rfl rfl ?_
  refine s_fa 7 rfl rfl ?_
  refine s_ld 8 rfl rfl (v := .slice x.B x.bad.length x.cc) (fun _ hw => dr_cell (hw.old hd) rfl) ?_
  refine s_mv 9 rfl rfl ?_
  refine s_iaV 10 i (fun w hw => dr_bd (hw.old hd)) rfl rfl rfl rfl (by omega) ?_
  refine s_ldV 11 (fun w hw => dr_bd (hw.old hd)) rfl rfl (by rw [Nat.mul_one]; exact boolsAt (by omega)) (by omega) ?_
  refine SX.next ?_
  refine CW.cond rfl (fun hc => ?_) (fun hc => ?_)
  · skip
    have hbd : x.abs.bd (i : Nat) = true := hc
    refine CW.seq ?_
    refine CW.reg [0, 1] rfl ?_
    refine s_ld 12 rfl rfl (fun _ hw => hw.cell he) ?_
    refine s_as 4 rfl rfl ?_
    refine SX.next ?_
    refine CW.ret ?_
    exact KN.ret (rs := [.tmp 4]) Tryd.results92 rfl (fun w hw => ⟨by rw [hbd]; rfl, hw.nothing⟩)
  · skip
    have hbd : x.abs.bd (i : Nat) = false := hc
    refine CW.skip ?_
    refine KN.code ?_
    refine CW.seq ?_
    refine CW.reg [0] rfl ?_
    refine s_as 4 rfl rfl ?_
    refine SX.next ?_
    refine CW.ret ?_
    exact KN.ret (rs := [.tmp 4]) Tryd.results92 rfl (fun w hw => ⟨by rw [hbd]; rfl, hw.nothing⟩)

theorem open_spec (g : Nat) (x : DrG) (b : Int) (e : Nat → Addr) (w : World) (he : Er e w 1) (hd : Has (driveA g x) w) (hh : x.abs.has b = true) : Spec1 Tryd.prog 93 [.pointer (some ⟨g, 0, none⟩), .int .i64 b] w (evE e (if x.pages ≤ x.abs.nx b then 110 else 0)) := by
  obtain ⟨i, rfl, hil⟩ := dhas_at' hh
  have hil2 : i < x.next.length := hil
  refine spec_of Tryd.func93 rfl Tryd.ntmps93 rfl ?_
  refine CW.seq ?_
  refine CW.reg [0] rfl ?_
  refine s_as 4 rfl rfl ?_
  refine SX.next ?_
  refine CW.seq ?_
  refine CW.seq ?_
  refine CW.regD (.st true 0 (.st true 1 (.st true 2 (.st true 3 (.st true 4 (.st true 5 (.st true 6 (.st true 7 (.st true 8 (.st true 9 (.st true 10 (.st true 11 .done)))))))))))) (fun w2 => Has (driveA g x) w2) mixed (by kernel_rfl) (fun _ h => h.drew) (fun _ h => h.old hd) ?_
  refine s_mv 5 rfl rfl ?_
  refine s_nil 6 rfl rfl ?_
  refine s_fa 7 rfl rfl ?_
  refine s_ldS 8 rfl rfl (v := .slice x.A x.next.length x.c) (fun _ hw => dr_cell hw rfl) ?_
  refine s_mv 9 rfl rfl ?_
  refine s_iaV 10 i (fun w hw => dr_nx (hw.old hd)) rfl rfl rfl rfl hil2 ?_
  refine s_ldVS 11 (fun w hw => dr_nx hw) rfl rfl (by rw [Nat.mul_one]; exact intsAt hil2) (by omega) ?_
  refine s_mv 12 rfl rfl ?_
  refine s_nil 13 rfl rfl ?_
  refine s_fa 14 rfl rfl ?_
  refine s_ldS 15 rfl rfl (v := .int .i64 x.pages) (fun _ hw => dr_cell hw rfl) ?_
  refine s_ge 16 rfl rfl rfl rfl ?_
  refine SX.next ?_
  refine CW.test rfl (fun hc => ?_) (fun hc => ?_)
  · skip
    have hnx : x.pages ≤ x.abs.nx (i : Nat) := hc
    refine CW.seq ?_
    refine CW.reg [0, 1] rfl ?_
    refine s_ld 17 rfl rfl (fun _ hw => hw.cell he) ?_
    refine s_as 4 rfl rfl ?_
    refine SX.next ?_
    refine CW.ret ?_
    exact KN.ret (rs := [.tmp 4]) Tryd.results93 rfl (fun w hw => ⟨by rw [if_pos hnx]; rfl, hw.nothing⟩)
  · skip
    have hnx : ¬ x.pages ≤ x.abs.nx (i : Nat) := hc
    refine CW.skip ?_
    refine KN.code ?_
    refine CW.seq ?_
    refine CW.reg [0] rfl ?_
    refine s_as 4 rfl rfl ?_
    refine SX.next ?_
    refine CW.ret ?_
    exact KN.ret (rs := [.tmp 4]) Tryd.results93 rfl (fun w hw => ⟨by rw [if_neg hnx]; rfl, hw.nothing⟩)

theorem questions_spec (w : World) : SpecX Tryd.prog 87 [] w (X := Nat) (fun q => .map (some q)) (fun _ => True) (fun q => [mapA q qsA 3]) := by
  refine spec_of Tryd.func87 rfl Tryd.ntmps87 rfl ?_
  refine CW.seq ?_
  refine CW.reg [0] rfl ?_
  refine s_as 0 rfl rfl ?_
  refine SX.next ?_
  refine CW.seq ?_
  refine CW.reg [0, 1, 2, 3, 4, 5] rfl ?_
  refine s_mkMap 1 rfl (fun _ _ => trivial) (fun q => ?_)
  refine s_insMap 0 rfl rfl rfl rfl rfl rfl (fun _ _ => trivial) ?_
  refine s_insMap 0 rfl rfl rfl rfl rfl rfl (fun _ _ => trivial) ?_
  refine s_insMap 0 rfl rfl rfl rfl rfl rfl (fun _ _ => trivial) ?_
  refine s_mv 2 rfl rfl ?_
  refine s_as 0 rfl rfl ?_
  refine SX.next ?_
  refine CW.ret ?_
  exact KN.ret (rs := [.tmp 0]) Tryd.results87 rfl (fun w hw => ⟨q, rfl, trivial, hw⟩)

theorem ask2_spec (g : Nat) (x : DrG) (b : Int) (B : Option Addr) (c : Nat) (e : Nat → Addr) (w : World) (hB : Has (sl 1 B 2 (ints .i64 [0, 1])) w) (heO : Er e w 1) (heB : Er e w 7) (hd : Has (driveA g x) w) (hk : x.bad.length = x.next.length) : Spec1 Tryd.prog 81 [.pointer (some ⟨g, 0, none⟩), .int .i64 b, .slice B 2 c] w (evE e (x.abs.askB b)) := by
  refine spec_of Tryd.func81 rfl Tryd.ntmps81 rfl ?_
  refine CW.seq ?_
  refine CW.reg [0] rfl ?_
  refine s_as 6 rfl rfl ?_
  refine SX.next ?_
  refine CW.seq ?_
  refine CW.reg [0, 1] rfl ?_
  refine s_call 11 rfl rfl rfl rfl (fun w hw => questions_spec w) (fun _ _ => trivial) (fun q _ => ?_)
  refine s_as 7 rfl rfl ?_
  refine SX.next ?_
  refine CW.seq ?_
  refine CW.seq ?_
  refine CW.reg [0, 1, 2] rfl ?_
  refine s_mv 12 rfl rfl ?_
  refine s_len 13 rfl rfl ?_
  refine s_mv 14 rfl rfl ?_
  refine SX.next ?_
  refine CW.block ?_
  refine CW.loop (G := Nat) (fun i => [(0, .pointer (some ⟨g, 0, none⟩)), (1, .int .i64 b), (7, .map (some q)), (12, .slice B 2 c), (13, .int .i64 2), (14, .int .i64 (i : Nat))]) (fun _ => Sto w [mapA q qsA 3]) (fun i => i ≤ 2 ∧ (0 < i → x.abs.has b = true) ∧ (1 < i → x.abs.bd b = false)) (fun i => 2 - i) 0 ⟨rfl, rfl, rfl, rfl, rfl, rfl, trivial⟩ (fun _ h => h) ⟨by omega, by omega, by omega⟩ ?_
  rintro i ⟨hi, hi1, hi2⟩
  refine CW.seq ?_
  refine CW.reg [0] rfl ?_
  refine s_lt 15 rfl rfl rfl rfl ?_
  refine SX.next ?_
  refine CW.seq ?_
  refine CW.test rfl (fun hc => ?_) (fun hc => ?_)
  · skip
    have hlt : i < 2 := by omega
    refine CW.skip ?_
    refine KN.code ?_
    refine CW.seq ?_
    refine CW.block ?_
    refine CW.seq ?_
    rcases (show i = 0 ∨ i = 1 by omega) with rfl | rfl
    · skip
      refine CW.reg [0, 1, 2] rfl ?_
      refine s_iaV 16 0 (fun w hw => hw.old hB) rfl rfl rfl rfl (by omega) ?_
      refine s_ldV 17 (v := .int .i64 0) (fun w hw => hw.old hB) rfl rfl rfl (by omega) ?_
      refine s_as 9 rfl rfl ?_
      refine SX.next ?_
      refine CW.seq ?_
      refine CW.reg [0, 1, 2, 3, 4, 5, 6] rfl ?_
      refine s_mv 18 rfl rfl ?_
      refine s_mv 19 rfl rfl ?_
      refine s_lookI 20 (j := 0) (fun w hw => hw.has (i := 0) rfl) rfl rfl rfl rfl ?_
      refine s_mv 21 rfl rfl ?_
      refine s_mv 22 rfl rfl ?_
      refine s_call1 23 rfl rfl rfl rfl (fun w hw => there_spec g x b e w (hw.er heO) (hw.old hd)) (fun _ _ => trivial) ?_
      refine s_as 10 rfl rfl ?_
      refine SX.next ?_
      refine CW.seq ?_
      refine CW.reg [0, 1] rfl ?_
      refine s_mv 24 rfl rfl ?_
      refine s_neIG 25 rfl rfl (evE_some e (if x.abs.has b then 0 else 110)) ?_
      refine SX.next ?_
      refine CW.test rfl (fun hz => ?_) (fun hz => ?_)
      · skip
        have hp : x.abs.has b = false := by
          cases h : x.abs.has b with
          | false => rfl
          | true => rw [h] at hz; exact absurd rfl hz
        refine CW.seq ?_
        refine CW.reg [0, 1] rfl ?_
        refine s_mv 26 rfl rfl ?_
        refine s_as 6 rfl rfl ?_
        refine SX.next ?_
        refine CW.ret ?_
        exact KN.ret (rs := [.tmp 6]) Tryd.results81 rfl (fun w hw => ⟨by unfold DrS.askB; rw [hp]; rfl, hw.nothing⟩)
      · skip
        have hp : x.abs.has b = true := by
          cases h : x.abs.has b with
          | true => rfl
          | false => rw [h] at hz; exact absurd (by decide) hz
        refine CW.skip ?_
        refine KN.blk ?_
        refine KN.code ?_
        refine CW.reg [0, 1] rfl ?_
        refine s_add 27 rfl rfl rfl (r := ((1 : Nat) : Int)) rfl ?_
        refine s_mv 14 rfl rfl ?_
        refine SX.end_ ?_
        exact KN.back 1 ⟨rfl, rfl, rfl, rfl, rfl, rfl, trivial⟩ (fun _ h => h) ⟨by omega, fun _ => hp, fun h => by omega⟩ (by omega)
    · skip
      refine CW.reg [0, 1, 2] rfl ?_
      refine s_iaV 16 1 (fun w hw => hw.old hB) rfl rfl rfl rfl (by omega) ?_
      refine s_ldV 17 (v := .int .i64 1) (fun w hw => hw.old hB) rfl rfl rfl (by omega) ?_
      refine s_as 9 rfl rfl ?_
      refine SX.next ?_
      refine CW.seq ?_
      refine CW.reg [0, 1, 2, 3, 4, 5, 6] rfl ?_
      refine s_mv 18 rfl rfl ?_
      refine s_mv 19 rfl rfl ?_
      refine s_lookI 20 (j := 1) (fun w hw => hw.has (i := 0) rfl) rfl rfl rfl rfl ?_
      refine s_mv 21 rfl rfl ?_
      refine s_mv 22 rfl rfl ?_
      refine s_call1 23 rfl rfl rfl rfl (fun w hw => good_spec g x b e w (hw.er heB) (hw.old hd) (hi1 (by omega)) hk) (fun _ _ => trivial) ?_
      refine s_as 10 rfl rfl ?_
      refine SX.next ?_
      refine CW.seq ?_
      refine CW.reg [0, 1] rfl ?_
      refine s_mv 24 rfl rfl ?_
      refine s_neIG 25 rfl rfl (evE_some e (if x.abs.bd b then 112 else 0)) ?_
      refine SX.next ?_
      refine CW.test rfl (fun hz => ?_) (fun hz => ?_)
      · skip
        have hp : x.abs.bd b = true := by
          cases h : x.abs.bd b with
          | true => rfl
          | false => rw [h] at hz; exact absurd rfl hz
        refine CW.seq ?_
        refine CW.reg [0, 1] rfl ?_
        refine s_mv 26 rfl rfl ?_
        refine s_as 6 rfl rfl ?_
        refine SX.next ?_
        refine CW.ret ?_
        exact KN.ret (rs := [.tmp 6]) Tryd.results81 rfl (fun w hw => ⟨by unfold DrS.askB; rw [hi1 (by omega), hp]; rfl, hw.nothing⟩)
      · skip
        have hp : x.abs.bd b = false := by
          cases h : x.abs.bd b with
          | false => rfl
          | true => rw [h] at hz; exact absurd (by decide) hz
        refine CW.skip ?_
        refine KN.blk ?_
        refine KN.code ?_
        refine CW.reg [0, 1] rfl ?_
        refine s_add 27 rfl rfl rfl (r := ((2 : Nat) : Int)) rfl ?_
        refine s_mv 14 rfl rfl ?_
        refine SX.end_ ?_
        exact KN.back 2 ⟨rfl, rfl, rfl, rfl, rfl, rfl, trivial⟩ (fun _ h => h) ⟨by omega, fun _ => hi1 (by omega), fun h => hp⟩ (by omega)
  · skip
    obtain rfl : i = 2 := by omega
    refine CW.exit rfl ?_
    refine KN.code ?_
    refine CW.seq ?_
    refine CW.reg [0] rfl ?_
    refine s_as 6 rfl rfl ?_
    refine SX.next ?_
    refine CW.ret ?_
    exact KN.ret (rs := [.tmp 6]) Tryd.results81 rfl (fun w hw => ⟨by rw [askB_of (hi1 (by omega)) (hi2 (by omega))]; rfl, hw.nothing⟩)

theorem ask3_spec (g : Nat) (x : DrG) (b : Int) (B : Option Addr) (c : Nat) (e : Nat → Addr) (w : World) (hB : Has (sl 1 B 3 (ints .i64 [0, 1, 2])) w) (heO : Er e w 1) (heB : Er e w 7) (hd : Has (driveA g x) w) (hk : x.bad.length = x.next.length) : Spec1 Tryd.prog 81 [.pointer (some ⟨g, 0, none⟩), .int .i64 b, .slice B 3 c] w (evE e (x.abs.askO x.pages b)) := by
  refine spec_of Tryd.func81 rfl Tryd.ntmps81 rfl ?_
  refine CW.seq ?_
  refine CW.reg [0] rfl ?_
  refine s_as 6 rfl rfl ?_
  refine SX.next ?_
  refine CW.seq ?_
  refine CW.reg [0, 1] rfl ?_
  refine s_call 11 rfl rfl rfl rfl (fun w hw => questions_spec w) (fun _ _ => trivial) (fun q _ => ?_)
  refine s_as 7 rfl rfl ?_
  refine SX.next ?_
  refine CW.seq ?_
  refine CW.seq ?_
  refine CW.reg [0, 1, 2] rfl ?_
  refine s_mv 12 rfl rfl ?_
  refine s_len 13 rfl rfl ?_
  refine s_mv 14 rfl rfl ?_
  refine SX.next ?_
  refine CW.block ?_
  refine CW.loop (G := Nat) (fun i => [(0, .pointer (some ⟨g, 0, none⟩)), (1, .int .i64 b), (7, .map (some q)), (12, .slice B 3 c), (13, .int .i64 3), (14, .int .i64 (i : Nat))]) (fun _ => Sto w [mapA q qsA 3]) (fun i => i ≤ 3 ∧ (0 < i → x.abs.has b = true) ∧ (1 < i → x.abs.bd b = false) ∧ (2 < i → x.abs.nx b < x.pages)) (fun i => 3 - i) 0 ⟨rfl, rfl, rfl, rfl, rfl, rfl, trivial⟩ (fun _ h => h) ⟨by omega, by omega, by omega, by omega⟩ ?_
  rintro i ⟨hi, hi1, hi2, hi3⟩
  refine CW.seq ?_
  refine CW.reg [0] rfl ?_
  refine s_lt 15 rfl rfl rfl rfl ?_
  refine SX.next ?_
  refine CW.seq ?_
  refine CW.test rfl (fun hc => ?_) (fun hc => ?_)
  · skip
    have hlt : i < 3 := by omega
    refine CW.skip ?_
    refine KN.code ?_
    refine CW.seq ?_
    refine CW.block ?_
    refine CW.seq ?_
    rcases (show i = 0 ∨ i = 1 ∨ i = 2 by omega) with rfl | rfl | rfl
    · skip
      refine CW.reg [0, 1, 2] rfl ?_
      refine s_iaV 16 0 (fun w hw => hw.old hB) rfl rfl rfl rfl (by omega) ?_
      refine s_ldV 17 (v := .int .i64 0) (fun w hw => hw.old hB) rfl rfl rfl (by omega) ?_
      refine s_as 9 rfl rfl ?_
      refine SX.next ?_
      refine CW.seq ?_
      refine CW.reg [0, 1, 2, 3, 4, 5, 6] rfl ?_
      refine s_mv 18 rfl rfl ?_
      refine s_mv 19 rfl rfl ?_
      refine s_lookI 20 (j := 0) (fun w hw => hw.has (i := 0) rfl) rfl rfl rfl rfl ?_
      refine s_mv 21 rfl rfl ?_
      refine s_mv 22 rfl rfl ?_
      refine s_call1 23 rfl rfl rfl rfl (fun w hw => there_spec g x b e w (hw.er heO) (hw.old hd)) (fun _ _ => trivial) ?_
      refine s_as 10 rfl rfl ?_
      refine SX.next ?_
      refine CW.seq ?_
      refine CW.reg [0, 1] rfl ?_
      refine s_mv 24 rfl rfl ?_
      refine s_neIG 25 rfl rfl (evE_some e (if x.abs.has b then 0 else 110)) ?_
      refine SX.next ?_
      refine CW.test rfl (fun hz => ?_) (fun hz => ?_)
      · skip
        have hp : x.abs.has b = false := by
          cases h : x.abs.has b with
          | false => rfl
          | true => rw [h] at hz; exact absurd rfl hz
        refine CW.seq ?_
        refine CW.reg [0, 1] rfl ?_
        refine s_mv 26 rfl rfl ?_
        refine s_as 6 rfl rfl ?_
        refine SX.next ?_
        refine CW.ret ?_
        exact KN.ret (rs := [.tmp 6]) Tryd.results81 rfl (fun w hw => ⟨by unfold DrS.askO DrS.askB; rw [hp]; rfl, hw.nothing⟩)
      · skip
        have hp : x.abs.has b = true := by
          cases h : x.abs.has b with
          | true => rfl
          | false => rw [h] at hz; exact absurd (by decide) hz
        refine CW.skip ?_
        refine KN.blk ?_
        refine KN.code ?_
        refine CW.reg [0, 1] rfl ?_
        refine s_add 27 rfl rfl rfl (r := ((1 : Nat) : Int)) rfl ?_
        refine s_mv 14 rfl rfl ?_
        refine SX.end_ ?_
        exact KN.back 1 ⟨rfl, rfl, rfl, rfl, rfl, rfl, trivial⟩ (fun _ h => h) ⟨by omega, fun _ => hp, fun h => by omega, fun h => by omega⟩ (by omega)
    · skip
      refine CW.reg [0, 1, 2] rfl ?_
      refine s_iaV 16 1 (fun w hw => hw.old hB) rfl rfl rfl rfl (by omega) ?_
      refine s_ldV 17 (v := .int .i64 1) (fun w hw => hw.old hB) rfl rfl rfl (by omega) ?_
      refine s_as 9 rfl rfl ?_
      refine SX.next ?_
      refine CW.seq ?_
      refine CW.reg [0, 1, 2, 3, 4, 5, 6] rfl ?_
      refine s_mv 18 rfl rfl ?_
      refine s_mv 19 rfl rfl ?_
      refine s_lookI 20 (j := 1) (fun w hw => hw.has (i := 0) rfl) rfl rfl rfl rfl ?_
      refine s_mv 21 rfl rfl ?_
      refine s_mv 22 rfl rfl ?_
      refine s_call1 23 rfl rfl rfl rfl (fun w hw => good_spec g x b e w (hw.er heB) (hw.old hd) (hi1 (by omega)) hk) (fun _ _ => trivial) ?_
      refine s_as 10 rfl rfl ?_
      refine SX.next ?_
      refine CW.seq ?_
      refine CW.reg [0, 1] rfl ?_
      refine s_mv 24 rfl rfl ?_
      refine s_neIG 25 rfl rfl (evE_some e (if x.abs.bd b then 112 else 0)) ?_
      refine SX.next ?_
      refine CW.test rfl (fun hz => ?_) (fun hz => ?_)
      · skip
        have hp : x.abs.bd b = true := by
          cases h : x.abs.bd b with
          | true => rfl
          | false => rw [h] at hz; exact absurd rfl hz
        refine CW.seq ?_
        refine CW.reg [0, 1] rfl ?_
        refine s_mv 26 rfl rfl ?_
        refine s_as 6 rfl rfl ?_
        refine SX.next ?_
        refine CW.ret ?_
        exact KN.ret (rs := [.tmp 6]) Tryd.results81 rfl (fun w hw => ⟨by unfold DrS.askO DrS.askB; rw [hi1 (by omega), hp]; rfl, hw.nothing⟩)
      · skip
        have hp : x.abs.bd b = false := by
          cases h : x.abs.bd b with
          | false => rfl
          | true => rw [h] at hz; exact absurd (by decide) hz
        refine CW.skip ?_
        refine KN.blk ?_
        refine KN.code ?_
        refine CW.reg [0, 1] rfl ?_
        refine s_add 27 rfl rfl rfl (r := ((2 : Nat) : Int)) rfl ?_
        refine s_mv 14 rfl rfl ?_
        refine SX.end_ ?_
        exact KN.back 2 ⟨rfl, rfl, rfl, rfl, rfl, rfl, trivial⟩ (fun _ h => h) ⟨by omega, fun _ => hi1 (by omega), fun h => hp, fun h => by omega⟩ (by omega)
    · skip
      refine CW.reg [0, 1, 2] rfl ?_
      refine s_iaV 16 2 (fun w hw => hw.old hB) rfl rfl rfl rfl (by omega) ?_
      refine s_ldV 17 (v := .int .i64 2) (fun w hw => hw.old hB) rfl rfl rfl (by omega) ?_
      refine s_as 9 rfl rfl ?_
      refine SX.next ?_
      refine CW.seq ?_
      refine CW.reg [0, 1, 2, 3, 4, 5, 6] rfl ?_
      refine s_mv 18 rfl rfl ?_
      refine s_mv 19 rfl rfl ?_
      refine s_lookI 20 (j := 2) (fun w hw => hw.has (i := 0) rfl) rfl rfl rfl rfl ?_
      refine s_mv 21 rfl rfl ?_
      refine s_mv 22 rfl rfl ?_
      refine s_call1 23 rfl rfl rfl rfl (fun w hw => open_spec g x b e w (hw.er heO) (hw.old hd) (hi1 (by omega))) (fun _ _ => trivial) ?_
      refine s_as 10 rfl rfl ?_
      refine SX.next ?_
      refine CW.seq ?_
      refine CW.reg [0, 1] rfl ?_
      refine s_mv 24 rfl rfl ?_
      refine s_neIG 25 rfl rfl (evE_some e (if x.pages ≤ x.abs.nx b then 110 else 0)) ?_
      refine SX.next ?_
      refine CW.test rfl (fun hz => ?_) (fun hz => ?_)
      · skip
        have hp : x.pages ≤ x.abs.nx b := by
          by_cases h : x.pages ≤ x.abs.nx b
          · exact h
          · rw [if_neg h] at hz; exact absurd rfl hz
        refine CW.seq ?_
        refine CW.reg [0, 1] rfl ?_
        refine s_mv 26 rfl rfl ?_
        refine s_as 6 rfl rfl ?_
        refine SX.next ?_
        refine CW.ret ?_
        exact KN.ret (rs := [.tmp 6]) Tryd.results81 rfl (fun w hw => ⟨by unfold DrS.askO; rw [askB_of (hi1 (by omega)) (hi2 (by omega)), if_pos hp]; rfl, hw.nothing⟩)
      · skip
        have hp : x.abs.nx b < x.pages := by
          by_cases h : x.pages ≤ x.abs.nx b
          · rw [if_pos h] at hz; exact absurd (by decide) hz
          · omega
        refine CW.skip ?_
        refine KN.blk ?_
        refine KN.code ?_
        refine CW.reg [0, 1] rfl ?_
        refine s_add 27 rfl rfl rfl (r := ((3 : Nat) : Int)) rfl ?_
        refine s_mv 14 rfl rfl ?_
        refine SX.end_ ?_
        exact KN.back 3 ⟨rfl, rfl, rfl, rfl, rfl, rfl, trivial⟩ (fun _ h => h) ⟨by omega, fun _ => hi1 (by omega), fun h => hi2 (by omega), fun h => hp⟩ (by omega)
  · skip
    obtain rfl : i = 3 := by omega
    refine CW.exit rfl ?_
    refine KN.code ?_
    refine CW.seq ?_
    refine CW.reg [0] rfl ?_
    refine s_as 6 rfl rfl ?_
    refine SX.next ?_
    refine CW.ret ?_
    exact KN.ret (rs := [.tmp 6]) Tryd.results81 rfl (fun w hw => ⟨by unfold DrS.askO; rw [askB_of (hi1 (by omega)) (hi2 (by omega)), if_pos rfl, if_neg (by have h := hi3 (by omega); have h2 : x.abs.nx b < x.pages := h; omega)]; rfl, hw.nothing⟩)
end Go.Proofs.YtcapijdokbkgaaaDoor
end
section
/- Package drive: what a driver does. Conditions: driver and chip are lent; errors' variables stay. -/
namespace Go.Proofs.YtcapijdokbkgaaaDoor
open Go Go.Sx Go.Fm
set_option maxRecDepth 100000
theorem askO_ask {d : DrS} {pg b : Int} (h : d.askB b ≠ 0) : d.askO pg b = d.askB b := by unfold DrS.askO; rw [if_neg h]
theorem drAp_ask {pg sz : Int} {d : DrS} {s : ChS} {b : Int} {l : List Nat} (h : d.askO pg b ≠ 0) : drAp pg sz d s b l = (0, d.askO pg b, d, s) := by unfold drAp; rw [if_pos h]
theorem drAp_size {pg sz : Int} {d : DrS} {s : ChS} {b : Int} {l : List Nat} (h : d.askO pg b = 0) (h2 : (l.length : Int) ≠ sz) : drAp pg sz d s b l = (0, 116, d, s) := by unfold drAp; rw [if_neg (fun hn => hn h), if_pos h2]
theorem drAp_err {pg sz : Int} {d : DrS} {s : ChS} {b : Int} {l : List Nat} (h : d.askO pg b = 0) (h2 : (l.length : Int) = sz) (h3 : (s.pr b (d.nx b) l).1 ≠ 0) : drAp pg sz d s b l = (0, (s.pr b (d.nx b) l).1, { d with programs := wr (d.programs + 1) }.put b pg, (s.pr b (d.nx b) l).2) := by unfold drAp; rw [if_neg (fun hn => hn h), if_neg (fun hn => hn h2), if_pos h3]
theorem drAp_ok {pg sz : Int} {d : DrS} {s : ChS} {b : Int} {l : List Nat} (h : d.askO pg b = 0) (h2 : (l.length : Int) = sz) (h3 : (s.pr b (d.nx b) l).1 = 0) : drAp pg sz d s b l = (d.nx b, 0, { d with programs := wr (d.programs + 1) }.put b (wr (d.nx b + 1)), (s.pr b (d.nx b) l).2) := by unfold drAp; rw [if_neg (fun hn => hn h), if_neg (fun hn => hn h2), if_neg (fun hn => hn h3)]
theorem drEr_ask {pg : Int} {d : DrS} {s : ChS} {b : Int} (h : d.askB b ≠ 0) : drEr pg d s b = (d.askB b, d, s) := by unfold drEr; rw [if_pos h]
theorem drEr_do {pg : Int} {d : DrS} {s : ChS} {b : Int} (h : d.askB b = 0) : drEr pg d s b = ((s.er b).1, { d with erases := wr (d.erases + 1) }.put b (if (s.er b).1 ≠ 0 then pg else 0), (s.er b).2) := by unfold drEr; rw [if_neg (fun hn => hn h)]
theorem drRd_bad {d : DrS} {s : ChS} {b p v : Int} (h1 : d.has b = true) (h2 : d.bd b = true) : drRd d s b p v = (112, [], d, s) := by unfold drRd; rw [h1, h2]; rfl
theorem drRd_do {d : DrS} {s : ChS} {b p v : Int} (h : d.has b = false ∨ d.bd b = false) : drRd d s b p v = ((s.rd b p v).1, (s.rd b p v).2.1, { d with reads := wr (d.reads + 1) }, (s.rd b p v).2.2) := by
  unfold drRd
  rw [if_neg]
  rcases h with h | h <;> rw [h]
  · simp
  · simp
theorem dr_set {l : List Int} {i : Nat} (a b : Int) : (l.set i a).set i b = l.set i b := by
  apply List.ext_getElem?
  intro j
  rw [List.getElem?_set, List.getElem?_set, List.length_set, List.getElem?_set]
  split
  · rfl
  · rfl

set_option maxHeartbeats 1600000 in

theorem drRead_spec (F : Nat → Prop) (g : Nat) (x : DrG) (y : ChG) (hy : y.abs.Ok) (hyw : y.watch = .nilFunc) (b p level : Int) (e : Nat → Addr) (w : World) (hk : x.bad.length = x.next.length) (heD : ∀ w', Fr F w w' → Er e w' 0) (heO : ∀ w', Fr F w w' → Er e w' 1) (heS : ∀ w', Fr F w w' → Er e w' 2) (heB : ∀ w', Fr F w w' → Er e w' 7) (hw : St F w [driveA g x, chipA x.cb y] w) : SpecP Tryd.prog 46 [.pointer (some ⟨g, 0, none⟩), .agg #[.int .i64 b, .int .i64 p], .int .i64 level] F w (X := (Option Addr × Nat) × DrG × ChG) (fun z => two (.slice z.1.1 (drRd x.abs y.abs b p level).2.1.length z.1.2) (evE e (drRd x.abs y.abs b p level).1)) (fun z => z.2.1.abs = (drRd x.abs y.abs b p level).2.2.1 ∧ x.Keep z.2.1 ∧ z.2.2.abs = (drRd x.abs y.abs b p level).2.2.2 ∧ z.2.2.watch = y.watch) (fun z => [own 5 1 z.1.1 (drRd x.abs y.abs b p level).2.1.length z.1.2 (nats .u8 (drRd x.abs y.abs b p level).2.1), driveA g z.2.1, chipA x.cb z.2.2]) := by
  refine spec_ofC Tryd.func46 rfl Tryd.ntmps46 rfl hw ?_
  refine CW.seq ?_
  refine CW.reg [0, 1, 2] rfl ?_
  refine s_box 4 rfl rfl (fun _ _ => trivial) (fun b4 => ?_)
  refine s_as 6 rfl rfl ?_
  refine s_as 7 rfl rfl ?_
  refine SX.next ?_
  refine CW.seq ?_
  refine CW.seq ?_
  refine CW.regD (.st true 0 (.st true 1 (.st true 2 (.st false 3 (.st true 4 (.st true 5 (.st true 6 (.st true 7 (.st true 8 (.st true 9 (.st true 10 (.st true 11 (.st true 12 (.st true 13 (.st true 14 .done))))))))))))))) (St F w [blk b4 31 #[.int .i64 b, .int .i64 p], driveA g x]) mixed (by kernel_rfl) (fun _ h => h.drew) (fun _ h => h.pick [0, 0] rfl) ?_
  refine s_mv 8 rfl rfl ?_
  refine s_fa 9 rfl rfl ?_
  refine s_ldS 10 rfl rfl (v := .int .i64 b) (fun _ hw => hw.blkCell (i := 0) (j := 0) rfl rfl) ?_
  refine s_call1 11 rfl rfl rfl rfl (fun w hw => there_spec g x b e w (heO _ hw.fr) (hw.has (i := 1) rfl)) (fun _ h => h.pick [0, 0] rfl) ?_
  refine s_eqIG 12 rfl rfl (r := x.abs.has b) (by rw [evE_some]; cases x.abs.has b <;> rfl) ?_
  skip
  refine s_mv 13 rfl rfl ?_
  refine SX.bool 13 rfl (fun hb => ?_) (fun hb => ?_)
  · skip
    obtain ⟨i, hbi, hil⟩ := dhas_at' hb
    have hil2 : i < x.next.length := hil
    have hil3 : i < x.bad.length := by omega
    refine s_mv 14 rfl rfl ?_
    refine s_nil 15 rfl rfl ?_
    refine s_fa 16 rfl rfl ?_
    refine s_ldS 17 rfl rfl (v := .slice x.B x.bad.length x.cc) (fun _ hw => dr_cell (hw.has (i := 1) rfl) rfl) ?_
    refine s_fa 18 rfl rfl ?_
    refine s_ldS 19 rfl rfl (v := .int .i64 b) (fun _ hw => hw.blkCell (i := 0) (j := 0) rfl rfl) ?_
    refine s_iaV 20 i (fun w hw => dr_bd (hw.has (i := 1) rfl)) rfl rfl rfl hbi hil3 ?_
    refine s_ldVS 21 (fun w hw => dr_bd (hw.has (i := 1) rfl)) rfl rfl (by rw [Nat.mul_one]; exact boolsAt hil3) (by omega) ?_
    refine s_pickT 22 rfl rfl rfl ?_
    refine SX.next ?_
    refine CW.cond rfl (fun hbd => ?_) (fun hbd => ?_)
    · skip
      have hbd2 : x.abs.bd b = true := by rw [hbi]; exact hbd
      refine CW.seq ?_
      refine CW.regD (.st true 0 (.st true 1 (.st true 2 .done))) (St F w []) mixed (by kernel_rfl) (fun _ h => h.drew) (fun _ h => h.nothing) ?_
      refine s_ldS 23 rfl rfl (fun _ h => heB _ h.fr) ?_
      refine s_as 6 rfl rfl ?_
      refine s_as 7 rfl rfl ?_
      refine SX.next ?_
      refine CW.ret ?_
      exact KN.ret (rs := [.tmp 6, .tmp 7]) Tryd.results46 rfl (fun w hw => ⟨((none, 0), x, y), by rw [drRd_bad hb hbd2]; rfl, by rw [drRd_bad hb hbd2]; exact ⟨rfl, .refl x, rfl, rfl⟩, by rw [drRd_bad hb hbd2]; exact (hw.pick [1, 1] rfl).begin_ 5 1⟩)
    · skip
      have hno : x.abs.bd b = false := by rw [hbi]; exact hbd
      refine CW.skip ?_
      refine KN.code ?_
      refine CW.seq ?_
      refine CW.pre (fun _ h => (h.pick [1, 0, 0] rfl).driveO) ?_
      refine CW.reg [0, 1, 2, 3, 4, 5, 6, 7] rfl ?_
      refine s_mv 24 rfl rfl ?_
      refine s_nil 25 rfl rfl ?_
      refine s_fa 26 rfl rfl ?_
      refine s_ldB 27 0 rfl rfl rfl (v := .int .i64 x.reads) rfl ?_
      refine s_add 28 rfl rfl rfl (r := wr (x.reads + 1)) rfl ?_
      refine s_nil 29 rfl rfl ?_
      refine s_fa 30 rfl rfl ?_
      refine s_stB 0 rfl rfl rfl rfl rfl (by show 5 < 8; decide) (fun _ _ => trivial) ?_
      refine SX.next ?_
      refine CW.seq ?_
      refine CW.pre (fun _ h => h.driveC (x := { x with reads := wr (x.reads + 1) })) ?_
      refine CW.regD (.st true 0 (.st true 1 (.st true 2 (.st true 3 (.st true 4 (.st true 5 (.st false 6 (.st true 7 (.st true 8 (.st true 9 (.st true 10 .done))))))))))) (St F w [blk b4 31 #[.int .i64 b, .int .i64 p], driveA g ({ x with reads := wr (x.reads + 1) })]) mixed (by kernel_rfl) (fun _ h => h.drew) (fun _ h => h.pick [1, 0] rfl) ?_
      refine s_mv 31 rfl rfl ?_
      refine s_nil 32 rfl rfl ?_
      refine s_fa 33 rfl rfl ?_
      refine s_ldS 34 rfl rfl (v := .pointer (some ⟨x.cb, 0, none⟩)) (fun _ hw => dr_cell (x := { x with reads := wr (x.reads + 1) }) (hw.has (i := 1) rfl) rfl) ?_
      refine s_ldRS 35 (cs := [.int .i64 b, .int .i64 p]) rfl rfl rfl (fun _ hw => hw.blkRow (i := 0) rfl) ?_
      refine s_mv 36 rfl rfl ?_
      refine s_callP 37 [2, 0, 0] (M := [chipA x.cb y]) (R := [driveA g ({ x with reads := wr (x.reads + 1) }), blk b4 31 #[.int .i64 b, .int .i64 p]]) (X := (Option Addr × Nat) × ChG) (v := fun z => two (.slice z.1.1 (y.abs.rd b p level).2.1.length z.1.2) (evE e (y.abs.rd b p level).1)) (pf := fun z => z.2.abs = (y.abs.rd b p level).2.2 ∧ z.2.watch = y.watch) (M' := fun z => [own 5 1 z.1.1 (y.abs.rd b p level).2.1.length z.1.2 (nats .u8 (y.abs.rd b p level).2.1), chipA x.cb z.2]) rfl rfl rfl rfl rfl (fun F' w' hR hM => by have := read_spec F' x.cb y hy b p level e w' hyw (fun w2 hf => heD _ (hR w2 hf).fr) (fun w2 hf => heO _ (hR w2 hf).fr) (fun w2 hf => heS _ (hR w2 hf).fr) hM;  exact this) (fun _ _ h => h.pick [3, 2] rfl) (fun z hz => ?_)
      refine s_ext 38 rfl rfl rfl ?_
      refine s_ext 39 rfl rfl rfl ?_
      refine s_as 6 rfl rfl ?_
      refine s_as 7 rfl rfl ?_
      refine SX.next ?_
      refine CW.ret ?_
      exact KN.ret (rs := [.tmp 6, .tmp 7]) Tryd.results46 rfl (fun w hw => ⟨(z.1, { x with reads := wr (x.reads + 1) }, z.2), by rw [drRd_do (.inr hno)]; rfl, by rw [drRd_do (.inr hno)]; exact ⟨rfl, ⟨rfl, rfl, rfl⟩, hz⟩, by rw [drRd_do (.inr hno)]; exact hw.pick [0, 1, 0] rfl⟩)
  · skip
    have hno := hb
    refine SX.skip rfl ?_
    refine SX.skip rfl ?_
    refine SX.skip rfl ?_
    refine SX.skip rfl ?_
    refine SX.skip rfl ?_
    refine SX.skip rfl ?_
    refine SX.skip rfl ?_
    refine SX.skip rfl ?_
    refine s_pickF 22 rfl rfl rfl ?_
    refine SX.next ?_
    refine CW.condF rfl ?_
    refine CW.skip ?_
    refine KN.code ?_
    refine CW.seq ?_
    refine CW.pre (fun _ h => (h.pick [1, 0, 0] rfl).driveO) ?_
    refine CW.reg [0, 1, 2, 3, 4, 5, 6, 7] rfl ?_
    refine s_mv 24 rfl rfl ?_
    refine s_nil 25 rfl rfl ?_
    refine s_fa 26 rfl rfl ?_
    refine s_ldB 27 0 rfl rfl rfl (v := .int .i64 x.reads) rfl ?_
    refine s_add 28 rfl rfl rfl (r := wr (x.reads + 1)) rfl ?_
    refine s_nil 29 rfl rfl ?_
    refine s_fa 30 rfl rfl ?_
    refine s_stB 0 rfl rfl rfl rfl rfl (by show 5 < 8; decide) (fun _ _ => trivial) ?_
    refine SX.next ?_
    refine CW.seq ?_
    refine CW.pre (fun _ h => h.driveC (x := { x with reads := wr (x.reads + 1) })) ?_
    refine CW.regD (.st true 0 (.st true 1 (.st true 2 (.st true 3 (.st true 4 (.st true 5 (.st false 6 (.st true 7 (.st true 8 (.st true 9 (.st true 10 .done))))))))))) (St F w [blk b4 31 #[.int .i64 b, .int .i64 p], driveA g ({ x with reads := wr (x.reads + 1) })]) mixed (by kernel_rfl) (fun _ h => h.drew) (fun _ h => h.pick [1, 0] rfl) ?_
    refine s_mv 31 rfl rfl ?_
    refine s_nil 32 rfl rfl ?_
    refine s_fa 33 rfl rfl ?_
    refine s_ldS 34 rfl rfl (v := .pointer (some ⟨x.cb, 0, none⟩)) (fun _ hw => dr_cell (x := { x with reads := wr (x.reads + 1) }) (hw.has (i := 1) rfl) rfl) ?_
    refine s_ldRS 35 (cs := [.int .i64 b, .int .i64 p]) rfl rfl rfl (fun _ hw => hw.blkRow (i := 0) rfl) ?_
    refine s_mv 36 rfl rfl ?_
    refine s_callP 37 [2, 0, 0] (M := [chipA x.cb y]) (R := [driveA g ({ x with reads := wr (x.reads + 1) }), blk b4 31 #[.int .i64 b, .int .i64 p]]) (X := (Option Addr × Nat) × ChG) (v := fun z => two (.slice z.1.1 (y.abs.rd b p level).2.1.length z.1.2) (evE e (y.abs.rd b p level).1)) (pf := fun z => z.2.abs = (y.abs.rd b p level).2.2 ∧ z.2.watch = y.watch) (M' := fun z => [own 5 1 z.1.1 (y.abs.rd b p level).2.1.length z.1.2 (nats .u8 (y.abs.rd b p level).2.1), chipA x.cb z.2]) rfl rfl rfl rfl rfl (fun F' w' hR hM => by have := read_spec F' x.cb y hy b p level e w' hyw (fun w2 hf => heD _ (hR w2 hf).fr) (fun w2 hf => heO _ (hR w2 hf).fr) (fun w2 hf => heS _ (hR w2 hf).fr) hM;  exact this) (fun _ _ h => h.pick [3, 2] rfl) (fun z hz => ?_)
    refine s_ext 38 rfl rfl rfl ?_
    refine s_ext 39 rfl rfl rfl ?_
    refine s_as 6 rfl rfl ?_
    refine s_as 7 rfl rfl ?_
    refine SX.next ?_
    refine CW.ret ?_
    exact KN.ret (rs := [.tmp 6, .tmp 7]) Tryd.results46 rfl (fun w hw => ⟨(z.1, { x with reads := wr (x.reads + 1) }, z.2), by rw [drRd_do (.inl hno)]; rfl, by rw [drRd_do (.inl hno)]; exact ⟨rfl, ⟨rfl, rfl, rfl⟩, hz⟩, by rw [drRd_do (.inl hno)]; exact hw.pick [0, 1, 0] rfl⟩)

set_option maxHeartbeats 1600000 in

theorem drAppend_spec (F : Nat → Prop) (g : Nat) (x : DrG) (y : ChG) (hy : y.abs.Ok) (b : Int) (A : Option Addr) (c : Nat) (l : List Nat) (e : Nat → Addr) (w : World) (hk : x.bad.length = x.next.length) (heD : ∀ w', Fr F w w' → Er e w' 0) (heO : ∀ w', Fr F w w' → Er e w' 1) (heS : ∀ w', Fr F w w' → Er e w' 2) (heF : ∀ w', Fr F w w' → Er e w' 5) (heB : ∀ w', Fr F w w' → Er e w' 7) (hB : ∀ w', Fr F w w' → Has (sl 1 A l.length (nats .u8 l)) w') (h8 : ∀ t ∈ l, t < 256) (hw : St F w [driveA g x, chipA x.cb y] w) : SpecP Tryd.prog 45 [.pointer (some ⟨g, 0, none⟩), .int .i64 b, .slice A l.length c] F w (X := DrG × ChG) (fun _ => two (.int .i64 (drAp x.pages x.size x.abs y.abs b l).1) (evE e (drAp x.pages x.size x.abs y.abs b l).2.1)) (fun z => z.1.abs = (drAp x.pages x.size x.abs y.abs b l).2.2.1 ∧ x.Keep z.1 ∧ z.2.abs = (drAp x.pages x.size x.abs y.abs b l).2.2.2 ∧ z.2.watch = y.watch) (fun z => [driveA g z.1, chipA x.cb z.2]) := by
  refine spec_ofC Tryd.func45 rfl Tryd.ntmps45 rfl hw ?_
  refine CW.seq ?_
  refine CW.reg [0, 1] rfl ?_
  refine s_as 6 rfl rfl ?_
  refine s_as 7 rfl rfl ?_
  refine SX.next ?_
  refine CW.seq ?_
  refine CW.seq ?_
  refine CW.reg [0, 1, 2, 3, 4] rfl ?_
  refine s_mv 11 rfl rfl ?_
  refine s_mv 12 rfl rfl ?_
  refine s_bsl 13 rfl rfl (cells := #[.int .i64 0, .int .i64 1, .int .i64 2]) (by kernel_rfl) rfl (fun _ _ => trivial) (fun gT => ?_)
  refine s_call1 14 rfl rfl rfl rfl (fun w hw => ask3_spec g x b (some ⟨gT, 0, none⟩) 3 e w (Has.cong ((hw.has (i := 0) rfl).blk_sl (m := 3) rfl) rfl) (heO _ hw.fr) (heB _ hw.fr) (hw.has (i := 1) rfl) hk) (fun _ _ => trivial) ?_
  refine s_as 8 rfl rfl ?_
  refine SX.next ?_
  refine CW.seq ?_
  refine CW.reg [0, 1] rfl ?_
  refine s_mv 15 rfl rfl ?_
  refine s_neIG 16 rfl rfl (evE_some e (x.abs.askO x.pages b)) ?_
  refine SX.next ?_
  refine CW.test rfl (fun hz => ?_) (fun hz => ?_)
  · skip
    refine CW.seq ?_
    refine CW.reg [0, 1, 2] rfl ?_
    refine s_mv 17 rfl rfl ?_
    refine s_as 6 rfl rfl ?_
    refine s_as 7 rfl rfl ?_
    refine SX.next ?_
    refine CW.ret ?_
    exact KN.ret (rs := [.tmp 6, .tmp 7]) Tryd.results45 rfl (fun w hw => ⟨(x, y), by rw [drAp_ask hz]; rfl, by rw [drAp_ask hz]; exact ⟨rfl, .refl x, rfl, rfl⟩, hw.pick [1, 1] rfl⟩)
  · skip
    have hao := Decidable.of_not_not hz
    obtain ⟨hab, hnx⟩ := askO_zero hao
    refine CW.skip ?_
    refine KN.code ?_
    refine CW.seq ?_
    refine CW.seq ?_
    refine CW.reg [0, 1, 2, 3, 4, 5, 6] rfl ?_
    refine s_mv 18 rfl rfl ?_
    refine s_len 19 rfl rfl ?_
    refine s_mv 20 rfl rfl ?_
    refine s_nil 21 rfl rfl ?_
    refine s_fa 22 rfl rfl ?_
    refine s_ld 23 rfl rfl (v := .int .i64 x.size) (fun _ hw => dr_cell (hw.has (i := 1) rfl) rfl) ?_
    refine s_ne 24 rfl rfl rfl rfl ?_
    refine SX.next ?_
    refine CW.test rfl (fun hsz => ?_) (fun hsz => ?_)
    · skip
      refine CW.seq ?_
      refine CW.regD (.st true 0 (.st true 1 (.st true 2 .done))) (St F w []) mixed (by kernel_rfl) (fun _ h => h.drew) (fun _ h => h.nothing) ?_
      refine s_ldS 25 rfl rfl (fun _ h => heS _ h.fr) ?_
      refine s_as 6 rfl rfl ?_
      refine s_as 7 rfl rfl ?_
      refine SX.next ?_
      refine CW.ret ?_
      exact KN.ret (rs := [.tmp 6, .tmp 7]) Tryd.results45 rfl (fun w hw => ⟨(x, y), by rw [drAp_size hao hsz]; rfl, by rw [drAp_size hao hsz]; exact ⟨rfl, .refl x, rfl, rfl⟩, hw.pick [1, 1] rfl⟩)
    · skip
      have hsz2 := Decidable.of_not_not hsz
      obtain ⟨hhas, hbad⟩ := askB_zero hab
      obtain ⟨i, rfl, hil⟩ := dhas_at' hhas
      have hil2 : i < x.next.length := hil
      have hil3 : i < x.bad.length := by omega
      refine CW.skip ?_
      refine KN.code ?_
      refine CW.seq ?_
      refine CW.pre (fun _ h => (h.pick [1, 0, 0] rfl).driveO) ?_
      refine CW.reg [0, 1, 2, 3, 4, 5, 6, 7] rfl ?_
      refine s_mv 26 rfl rfl ?_
      refine s_nil 27 rfl rfl ?_
      refine s_fa 28 rfl rfl ?_
      refine s_ldB 29 0 rfl rfl rfl (v := .slice x.A x.next.length x.c) rfl ?_
      refine s_mv 30 rfl rfl ?_
      refine s_iaO 31 1 i rfl rfl rfl rfl rfl hil2 ?_
      refine s_ldO 32 1 rfl rfl rfl (intsAt hil2) ?_
      refine s_as 9 rfl rfl ?_
      refine SX.next ?_
      refine CW.seq ?_
      refine CW.reg [0, 1, 2, 3, 4, 5, 6, 7] rfl ?_
      refine s_mv 33 rfl rfl ?_
      refine s_nil 34 rfl rfl ?_
      refine s_fa 35 rfl rfl ?_
      refine s_ldB 36 0 rfl rfl rfl (v := .int .i64 x.programs) rfl ?_
      refine s_add 37 rfl rfl rfl (r := wr (x.programs + 1)) rfl ?_
      refine s_nil 38 rfl rfl ?_
      refine s_fa 39 rfl rfl ?_
      refine s_stB 0 rfl rfl rfl rfl rfl (by show 6 < 8; decide) (fun _ _ => trivial) ?_
      refine SX.next ?_
      refine CW.seq ?_
      refine CW.seq ?_
      refine CW.reg [0, 1, 2, 3, 4, 5, 6, 7, 8, 9] rfl ?_
      refine s_mv 40 rfl rfl ?_
      refine s_nil 41 rfl rfl ?_
      refine s_fa 42 rfl rfl ?_
      refine s_ldB 43 0 rfl rfl rfl (v := .pointer (some ⟨x.cb, 0, none⟩)) rfl ?_
      refine s_mv 44 rfl rfl ?_
      refine s_mv 45 rfl rfl ?_
      refine s_build 46 rfl rfl (cells := #[.int .i64 ((i : Nat) : Int), .int .i64 (x.next.getD i 0)]) (by kernel_rfl) ?_
      refine s_mv 47 rfl rfl ?_
      refine s_callP 48 [4, 0, 0, 0, 0] (M := [chipA x.cb y]) (R := [({ x with programs := wr (x.programs + 1) } : DrG).hd g, x.nxA, x.bdA, blk gT 3 #[.int .i64 0, .int .i64 1, .int .i64 2]]) (X := ChG) (v := fun z => evE e (y.abs.pr (i : Nat) (x.abs.nx (i : Nat)) l).1) (pf := fun z => z.abs = (y.abs.pr (i : Nat) (x.abs.nx (i : Nat)) l).2 ∧ z.watch = y.watch) (M' := fun z => [chipA x.cb z]) rfl rfl rfl rfl rfl (fun F' w' hR hM => by have := program_spec F' x.cb y hy (i : Nat) (x.next.getD i 0) A c l e w' (fun w2 hf => heD _ (hR w2 hf).fr) (fun w2 hf => heO _ (hR w2 hf).fr) (fun w2 hf => heS _ (hR w2 hf).fr) (fun w2 hf => heF _ (hR w2 hf).fr) (fun w2 hf => hB _ (hR w2 hf).fr) h8 hM;  exact this) (fun _ _ _ => trivial) (fun y1 hy1 => ?_)
      refine s_as 10 rfl rfl ?_
      refine SX.next ?_
      refine CW.seq ?_
      refine CW.reg [0, 1] rfl ?_
      refine s_mv 49 rfl rfl ?_
      refine s_neIG 50 rfl rfl (evE_some e (y.abs.pr (i : Nat) (x.abs.nx (i : Nat)) l).1) ?_
      refine SX.next ?_
      refine CW.test rfl (fun hz3 => ?_) (fun hz3 => ?_)
      · skip
        refine CW.seq ?_
        refine CW.regD (.st true 0 (.st true 1 (.st true 2 (.st true 3 (.st true 4 (.st true 5 (.st true 6 (.st true 7 (.st true 8 (.st true 9 (.st false 10 .done))))))))))) (St F w [({ x with programs := wr (x.programs + 1) } : DrG).hd g]) mixed (by kernel_rfl) (fun _ h => h.drew) (fun _ h => h.pick [1] rfl) ?_
        refine s_mv 51 rfl rfl ?_
        refine s_nil 52 rfl rfl ?_
        refine s_fa 53 rfl rfl ?_
        refine s_ldS 54 rfl rfl (v := .slice x.A x.next.length x.c) (fun _ hw => hw.blkCell (i := 0) (j := 3) rfl rfl) ?_
        refine s_mv 55 rfl rfl ?_
        refine s_mv 56 rfl rfl ?_
        refine s_nil 57 rfl rfl ?_
        refine s_fa 58 rfl rfl ?_
        refine s_ldS 59 rfl rfl (v := .int .i64 x.pages) (fun _ hw => hw.blkCell (i := 0) (j := 1) rfl rfl) ?_
        refine s_iaO 60 2 i rfl rfl rfl rfl rfl hil2 ?_
        refine s_stO 2 rfl rfl rfl rfl rfl hil2 (fun _ h => h.pick [1] rfl) ?_
        refine SX.next ?_
        refine CW.seq ?_
        refine CW.reg [0, 1, 2] rfl ?_
        refine s_mv 61 rfl rfl ?_
        refine s_as 6 rfl rfl ?_
        refine s_as 7 rfl rfl ?_
        refine SX.next ?_
        refine CW.ret ?_
        exact KN.ret (rs := [.tmp 6, .tmp 7]) Tryd.results45 rfl (fun w hw => ⟨({ ({ x with programs := wr (x.programs + 1) } : DrG) with next := x.next.set i x.pages }, y1), by rw [drAp_err hao hsz2 hz3]; rfl, by rw [drAp_err hao hsz2 hz3]; exact ⟨rfl, ⟨rfl, rfl, rfl⟩, hy1⟩, St.drivePut (x := ({ x with programs := wr (x.programs + 1) } : DrG)) i x.pages (hw.pick [1, 1, 1, 0] rfl)⟩)
      · skip
        have hz4 := Decidable.of_not_not hz3
        refine CW.skip ?_
        refine KN.code ?_
        refine CW.seq ?_
        refine CW.reg [0, 1, 2, 3, 4, 5, 6, 7, 8, 9] rfl ?_
        refine s_mv 62 rfl rfl ?_
        refine s_nil 63 rfl rfl ?_
        refine s_fa 64 rfl rfl ?_
        refine s_ldB 65 1 rfl rfl rfl (v := .slice x.A x.next.length x.c) rfl ?_
        refine s_mv 66 rfl rfl ?_
        refine s_iaO 67 2 i rfl rfl rfl rfl rfl hil2 ?_
        refine s_ldO 68 2 rfl rfl rfl (intsAt hil2) ?_
        refine s_add 69 rfl rfl rfl (r := wr ((x.next.getD i 0) + 1)) rfl ?_
        refine s_iaO 70 2 i rfl rfl rfl rfl rfl hil2 ?_
        refine s_stO 2 rfl rfl rfl rfl rfl hil2 (fun _ _ => trivial) ?_
        refine SX.next ?_
        refine CW.seq ?_
        refine CW.reg [0, 1, 2] rfl ?_
        refine s_mv 71 rfl rfl ?_
        refine s_as 6 rfl rfl ?_
        refine s_as 7 rfl rfl ?_
        refine SX.next ?_
        refine CW.ret ?_
        exact KN.ret (rs := [.tmp 6, .tmp 7]) Tryd.results45 rfl (fun w hw => ⟨({ ({ x with programs := wr (x.programs + 1) } : DrG) with next := x.next.set i (wr ((x.next.getD i 0) + 1)) }, y1), by rw [drAp_ok hao hsz2 hz4]; rfl, by rw [drAp_ok hao hsz2 hz4]; exact ⟨rfl, ⟨rfl, rfl, rfl⟩, hy1⟩, St.drivePut (x := ({ x with programs := wr (x.programs + 1) } : DrG)) i (wr ((x.next.getD i 0) + 1)) (hw.pick [1, 1, 1, 0] rfl)⟩)

theorem drErase_spec (F : Nat → Prop) (g : Nat) (x : DrG) (y : ChG) (hy : y.abs.Ok) (b : Int) (e : Nat → Addr) (w : World) (hk : x.bad.length = x.next.length) (heD : ∀ w', Fr F w w' → Er e w' 0) (heO : ∀ w', Fr F w w' → Er e w' 1) (heS : ∀ w', Fr F w w' → Er e w' 2) (heF : ∀ w', Fr F w w' → Er e w' 5) (heB : ∀ w', Fr F w w' → Er e w' 7) (hw : St F w [driveA g x, chipA x.cb y] w) : SpecP Tryd.prog 44 [.pointer (some ⟨g, 0, none⟩), .int .i64 b] F w (X := DrG × ChG) (fun _ => evE e (drEr x.pages x.abs y.abs b).1) (fun z => z.1.abs = (drEr x.pages x.abs y.abs b).2.1 ∧ x.Keep z.1 ∧ z.2.abs = (drEr x.pages x.abs y.abs b).2.2 ∧ z.2.watch = y.watch) (fun z => [driveA g z.1, chipA x.cb z.2]) := by
  refine spec_ofC Tryd.func44 rfl Tryd.ntmps44 rfl hw ?_
  refine CW.seq ?_
  refine CW.reg [0] rfl ?_
  refine s_as 4 rfl rfl ?_
  refine SX.next ?_
  refine CW.seq ?_
  refine CW.seq ?_
  refine CW.reg [0, 1, 2, 3, 4] rfl ?_
  refine s_mv 7 rfl rfl ?_
  refine s_mv 8 rfl rfl ?_
  refine s_bsl 9 rfl rfl (cells := #[.int .i64 0, .int .i64 1]) (by kernel_rfl) rfl (fun _ _ => trivial) (fun gT => ?_)
  refine s_call1 10 rfl rfl rfl rfl (fun w hw => ask2_spec g x b (some ⟨gT, 0, none⟩) 2 e w (Has.cong ((hw.has (i := 0) rfl).blk_sl (m := 2) rfl) rfl) (heO _ hw.fr) (heB _ hw.fr) (hw.has (i := 1) rfl) hk) (fun _ _ => trivial) ?_
  refine s_as 5 rfl rfl ?_
  refine SX.next ?_
  refine CW.seq ?_
  refine CW.reg [0, 1] rfl ?_
  refine s_mv 11 rfl rfl ?_
  refine s_neIG 12 rfl rfl (evE_some e (x.abs.askB b)) ?_
  refine SX.next ?_
  refine CW.test rfl (fun hz => ?_) (fun hz => ?_)
  · skip
    refine CW.seq ?_
    refine CW.reg [0, 1] rfl ?_
    refine s_mv 13 rfl rfl ?_
    refine s_as 4 rfl rfl ?_
    refine SX.next ?_
    refine CW.ret ?_
    exact KN.ret (rs := [.tmp 4]) Tryd.results44 rfl (fun w hw => ⟨(x, y), by rw [drEr_ask hz]; rfl, by rw [drEr_ask hz]; exact ⟨rfl, .refl x, rfl, rfl⟩, hw.pick [1, 1] rfl⟩)
  · skip
    have hab := Decidable.of_not_not hz
    obtain ⟨hhas, hbad⟩ := askB_zero hab
    obtain ⟨i, rfl, hil⟩ := dhas_at' hhas
    have hil2 : i < x.next.length := hil
    have hil3 : i < x.bad.length := by omega
    refine CW.skip ?_
    refine KN.code ?_
    refine CW.seq ?_
    refine CW.pre (fun _ h => (h.pick [1, 0, 0] rfl).driveO) ?_
    refine CW.reg [0, 1, 2, 3, 4, 5, 6, 7] rfl ?_
    refine s_mv 14 rfl rfl ?_
    refine s_nil 15 rfl rfl ?_
    refine s_fa 16 rfl rfl ?_
    refine s_ldB 17 0 rfl rfl rfl (v := .int .i64 x.erases) rfl ?_
    refine s_add 18 rfl rfl rfl (r := wr (x.erases + 1)) rfl ?_
    refine s_nil 19 rfl rfl ?_
    refine s_fa 20 rfl rfl ?_
    refine s_stB 0 rfl rfl rfl rfl rfl (by show 7 < 8; decide) (fun _ _ => trivial) ?_
    refine SX.next ?_
    refine CW.seq ?_
    refine CW.reg [0, 1, 2, 3, 4, 5, 6] rfl ?_
    refine s_mv 21 rfl rfl ?_
    refine s_nil 22 rfl rfl ?_
    refine s_fa 23 rfl rfl ?_
    refine s_ldB 24 0 rfl rfl rfl (v := .pointer (some ⟨x.cb, 0, none⟩)) rfl ?_
    refine s_mv 25 rfl rfl ?_
    refine s_callP 26 [4, 0, 0, 0, 0] (M := [chipA x.cb y]) (R := [({ x with erases := wr (x.erases + 1) } : DrG).hd g, x.nxA, x.bdA, blk gT 3 #[.int .i64 0, .int .i64 1]]) (X := ChG) (v := fun z => evE e (y.abs.er (i : Nat)).1) (pf := fun z => z.abs = (y.abs.er (i : Nat)).2 ∧ z.watch = y.watch) (M' := fun z => [chipA x.cb z]) rfl rfl rfl rfl rfl (fun F' w' hR hM => by have := erase_spec F' x.cb y hy (i : Nat) e w' (fun w2 hf => heD _ (hR w2 hf).fr) (fun w2 hf => heO _ (hR w2 hf).fr) (fun w2 hf => heS _ (hR w2 hf).fr) (fun w2 hf => heF _ (hR w2 hf).fr) hM;  exact this) (fun _ _ _ => trivial) (fun y1 hy1 => ?_)
    refine s_as 6 rfl rfl ?_
    refine SX.next ?_
    refine CW.seq ?_
    refine CW.reg [0, 1, 2, 3, 4, 5, 6] rfl ?_
    refine s_mv 27 rfl rfl ?_
    refine s_nil 28 rfl rfl ?_
    refine s_fa 29 rfl rfl ?_
    refine s_ldB 30 1 rfl rfl rfl (v := .slice x.A x.next.length x.c) rfl ?_
    refine s_mv 31 rfl rfl ?_
    refine s_iaO 32 2 i rfl rfl rfl rfl rfl hil2 ?_
    refine s_stO 2 rfl rfl rfl rfl rfl hil2 (fun _ _ => trivial) ?_
    refine SX.next ?_
    refine CW.seq ?_
    refine CW.seq ?_
    refine CW.reg [0, 1] rfl ?_
    refine s_mv 33 rfl rfl ?_
    refine s_neIG 34 rfl rfl (evE_some e (y.abs.er (i : Nat)).1) ?_
    refine SX.next ?_
    refine CW.test rfl (fun hz3 => ?_) (fun hz3 => ?_)
    · skip
      refine CW.regD (.st true 0 (.st true 1 (.st true 2 (.st true 3 (.st true 4 (.st true 5 (.st true 6 (.st true 7 (.st true 8 (.st true 9 (.st false 10 .done))))))))))) (St F w [({ x with erases := wr (x.erases + 1) } : DrG).hd g]) mixed (by kernel_rfl) (fun _ h => h.drew) (fun _ h => h.pick [1] rfl) ?_
      refine s_mv 35 rfl rfl ?_
      refine s_nil 36 rfl rfl ?_
      refine s_fa 37 rfl rfl ?_
      refine s_ldS 38 rfl rfl (v := .slice x.A x.next.length x.c) (fun _ hw => hw.blkCell (i := 0) (j := 3) rfl rfl) ?_
      refine s_mv 39 rfl rfl ?_
      refine s_mv 40 rfl rfl ?_
      refine s_nil 41 rfl rfl ?_
      refine s_fa 42 rfl rfl ?_
      refine s_ldS 43 rfl rfl (v := .int .i64 x.pages) (fun _ hw => hw.blkCell (i := 0) (j := 1) rfl rfl) ?_
      refine s_iaO 44 2 i rfl rfl rfl rfl rfl hil2 ?_
      refine s_stO 2 rfl rfl rfl rfl rfl hil2 (fun _ h => h.pick [1] rfl) ?_
      refine SX.next ?_
      refine CW.seq ?_
      refine CW.reg [0, 1] rfl ?_
      refine s_mv 45 rfl rfl ?_
      refine s_as 4 rfl rfl ?_
      refine SX.next ?_
      refine CW.ret ?_
      exact KN.ret (rs := [.tmp 4]) Tryd.results44 rfl (fun w hw => ⟨({ ({ x with erases := wr (x.erases + 1) } : DrG) with next := x.next.set i x.pages }, y1), by rw [drEr_do hab]; rfl, by rw [drEr_do hab, if_pos hz3]; exact ⟨rfl, ⟨rfl, rfl, rfl⟩, hy1⟩, by
        have h1 := hw.pick [1, 1, 1, 0] rfl
        rw [intsSet, intsSet, dr_set, ← intsSet] at h1
        exact St.drivePut (x := ({ x with erases := wr (x.erases + 1) } : DrG)) i x.pages h1⟩)
    · skip
      refine CW.skip ?_
      refine KN.code ?_
      refine CW.seq ?_
      refine CW.reg [0, 1] rfl ?_
      refine s_mv 45 rfl rfl ?_
      refine s_as 4 rfl rfl ?_
      refine SX.next ?_
      refine CW.ret ?_
      exact KN.ret (rs := [.tmp 4]) Tryd.results44 rfl (fun w hw => ⟨({ ({ x with erases := wr (x.erases + 1) } : DrG) with next := x.next.set i 0 }, y1), by rw [drEr_do hab]; rfl, by rw [drEr_do hab, if_neg hz3]; exact ⟨rfl, ⟨rfl, rfl, rfl⟩, hy1⟩, St.drivePut (x := ({ x with erases := wr (x.erases + 1) } : DrG)) i 0 (hw.pick [1, 1, 1, 0] rfl)⟩)

theorem drClose_spec (F : Nat → Prop) (g : Nat) (x : DrG) (b : Int) (e : Nat → Addr) (w : World) (hk : x.bad.length = x.next.length) (heO : ∀ w', Fr F w w' → Er e w' 1) (hw : St F w [driveA g x] w) : SpecP Tryd.prog 51 [.pointer (some ⟨g, 0, none⟩), .int .i64 b] F w (X := DrG) (fun _ => oneOf []) (fun z => z.abs = drCl x.pages x.abs b ∧ x.Keep z) (fun z => [driveA g z]) := by
  refine spec_ofC Tryd.func51 rfl Tryd.ntmps51 rfl hw ?_
  refine CW.seq ?_
  refine CW.reg [0, 1, 2, 3] rfl ?_
  refine s_mv 4 rfl rfl ?_
  refine s_mv 5 rfl rfl ?_
  refine s_call1 6 rfl rfl rfl rfl (fun w hw => there_spec g x b e w (heO _ hw.fr) (hw.has (i := 0) rfl)) (fun _ _ => trivial) ?_
  refine s_eqIG 7 rfl rfl (r := x.abs.has b) (by rw [evE_some]; cases x.abs.has b <;> rfl) ?_
  refine SX.next ?_
  refine CW.cond rfl (fun hc => ?_) (fun hc => ?_)
  · skip
    obtain ⟨i, rfl, hil⟩ := dhas_at' hc
    have hil2 : i < x.next.length := hil
    have hil3 : i < x.bad.length := by omega
    refine CW.pre (fun _ h => h.driveO) ?_
    refine CW.regD (.st true 0 (.st true 1 (.st true 2 (.st true 3 (.st true 4 (.st true 5 (.st true 6 (.st true 7 (.st true 8 (.st true 9 (.st false 10 .done))))))))))) (St F w [x.hd g]) mixed (by kernel_rfl) (fun _ h => h.drew) (fun _ h => h.pick [0] rfl) ?_
    refine s_mv 8 rfl rfl ?_
    refine s_nil 9 rfl rfl ?_
    refine s_fa 10 rfl rfl ?_
    refine s_ldS 11 rfl rfl (v := .slice x.A x.next.length x.c) (fun _ hw => hw.blkCell (i := 0) (j := 3) rfl rfl) ?_
    refine s_mv 12 rfl rfl ?_
    refine s_mv 13 rfl rfl ?_
    refine s_nil 14 rfl rfl ?_
    refine s_fa 15 rfl rfl ?_
    refine s_ldS 16 rfl rfl (v := .int .i64 x.pages) (fun _ hw => hw.blkCell (i := 0) (j := 1) rfl rfl) ?_
    refine s_iaO 17 1 i rfl rfl rfl rfl rfl hil2 ?_
    refine s_stO 1 rfl rfl rfl rfl rfl hil2 (fun _ h => h.pick [0] rfl) ?_
    refine SX.end_ ?_
    exact KN.ret (rs := []) Tryd.results51 rfl (fun w hw => ⟨{ x with next := x.next.set i x.pages }, rfl, ⟨by unfold drCl; rw [if_pos hc]; rfl, ⟨rfl, rfl, rfl⟩⟩, St.drivePut i x.pages hw⟩)
  · skip
    refine CW.skip ?_
    exact KN.ret (rs := []) Tryd.results51 rfl (fun w hw => ⟨x, rfl, ⟨by unfold drCl; rw [if_neg (by rw [hc]; decide)], .refl x⟩, hw⟩)

theorem _root_.Go.Sx.St.drivePB {F : Nat → Prop} {w₀ w : World} {L : List Atom} {g : Nat} {x : DrG} (i : Nat) (h : St F w₀ (x.hd g :: own 3 1 x.A x.next.length x.c ((ints .i64 x.next).set i (.int .i64 x.pages)) :: own 4 1 x.B x.bad.length x.cc ((bools x.bad).set i (.bool true)) :: L) w) : St F w₀ (driveA g { x with bad := x.bad.set i true, next := x.next.set i x.pages } :: L) w := by
  rw [bools_set, intsSet] at h
  refine St.driveC ?_
  unfold DrG.hd DrG.cells DrG.bdA DrG.nxA at *
  simp only [List.length_set]
  exact h

theorem drRetire_spec (F : Nat → Prop) (g : Nat) (x : DrG) (b : Int) (e : Nat → Addr) (w : World) (hk : x.bad.length = x.next.length) (heO : ∀ w', Fr F w w' → Er e w' 1) (hw : St F w [driveA g x] w) : SpecP Tryd.prog 52 [.pointer (some ⟨g, 0, none⟩), .int .i64 b] F w (X := DrG) (fun _ => oneOf []) (fun z => z.abs = drRe x.pages x.abs b ∧ x.Keep z) (fun z => [driveA g z]) := by
  refine spec_ofC Tryd.func52 rfl Tryd.ntmps52 rfl hw ?_
  refine CW.seq ?_
  refine CW.reg [0, 1, 2, 3] rfl ?_
  refine s_mv 4 rfl rfl ?_
  refine s_mv 5 rfl rfl ?_
  refine s_call1 6 rfl rfl rfl rfl (fun w hw => there_spec g x b e w (heO _ hw.fr) (hw.has (i := 0) rfl)) (fun _ _ => trivial) ?_
  refine s_eqIG 7 rfl rfl (r := x.abs.has b) (by rw [evE_some]; cases x.abs.has b <;> rfl) ?_
  refine SX.next ?_
  refine CW.cond rfl (fun hc => ?_) (fun hc => ?_)
  · skip
    obtain ⟨i, rfl, hil⟩ := dhas_at' hc
    have hil2 : i < x.next.length := hil
    have hil3 : i < x.bad.length := by omega
    refine CW.pre (fun _ h => h.driveO) ?_
    refine CW.regD (.st true 0 (.st true 1 (.st true 2 (.st true 3 (.st true 4 (.st true 5 (.st true 6 (.st true 7 (.st true 8 (.st true 9 (.st true 10 (.st true 11 (.st true 12 (.st true 13 (.st true 14 (.st false 15 (.st true 16 (.st false 17 .done)))))))))))))))))) (St F w [x.hd g]) mixed (by kernel_rfl) (fun _ h => h.drew) (fun _ h => h.pick [0] rfl) ?_
    refine s_mv 8 rfl rfl ?_
    refine s_nil 9 rfl rfl ?_
    refine s_fa 10 rfl rfl ?_
    refine s_ldS 11 rfl rfl (v := .slice x.B x.bad.length x.cc) (fun _ hw => hw.blkCell (i := 0) (j := 4) rfl rfl) ?_
    refine s_mv 12 rfl rfl ?_
    refine s_mv 13 rfl rfl ?_
    refine s_nil 14 rfl rfl ?_
    refine s_fa 15 rfl rfl ?_
    refine s_ldS 16 rfl rfl (v := .slice x.A x.next.length x.c) (fun _ hw => hw.blkCell (i := 0) (j := 3) rfl rfl) ?_
    refine s_mv 17 rfl rfl ?_
    refine s_mv 18 rfl rfl ?_
    refine s_nil 19 rfl rfl ?_
    refine s_fa 20 rfl rfl ?_
    refine s_ldS 21 rfl rfl (v := .int .i64 x.pages) (fun _ hw => hw.blkCell (i := 0) (j := 1) rfl rfl) ?_
    refine s_iaO 22 2 i rfl rfl rfl rfl rfl hil3 ?_
    refine s_stO 2 rfl rfl rfl rfl rfl hil3 (fun _ h => h.pick [0] rfl) ?_
    refine s_iaO 23 1 i rfl rfl rfl rfl rfl hil2 ?_
    refine s_stO 1 rfl rfl rfl rfl rfl hil2 (fun _ h => h.pick [0] rfl) ?_
    refine SX.end_ ?_
    exact KN.ret (rs := []) Tryd.results52 rfl (fun w hw => ⟨{ x with bad := x.bad.set i true, next := x.next.set i x.pages }, rfl, ⟨by unfold drRe; rw [if_pos hc]; rfl, ⟨rfl, rfl, rfl⟩⟩, St.drivePB i hw⟩)
  · skip
    refine CW.skip ?_
    exact KN.ret (rs := []) Tryd.results52 rfl (fun w hw => ⟨x, rfl, ⟨by unfold drRe; rw [if_neg (by rw [hc]; decide)], .refl x⟩, hw⟩)

theorem drFresh_spec (F : Nat → Prop) (g : Nat) (x : DrG) (y : ChG) (hy : y.abs.Ok) (b : Int) (e : Nat → Addr) (w : World) (hk : x.bad.length = x.next.length) (hpg : y.pages = x.pages) (hbl : y.abs.blocks.length = x.next.length) (heO : ∀ w', Fr F w w' → Er e w' 1) (heB : ∀ w', Fr F w w' → Er e w' 7) (hw : St F w [driveA g x, chipA x.cb y] w) : SpecP Tryd.prog 43 [.pointer (some ⟨g, 0, none⟩), .int .i64 b] F w (X := DrG) (fun _ => oneOf []) (fun z => z.abs = drFr x.abs y.abs b ∧ x.Keep z) (fun z => [driveA g z, chipA x.cb y]) := by
  refine spec_ofC Tryd.func43 rfl Tryd.ntmps43 rfl hw ?_
  refine CW.seq ?_
  refine CW.seq ?_
  refine CW.reg [0, 1, 2, 3, 4] rfl ?_
  refine s_mv 5 rfl rfl ?_
  refine s_mv 6 rfl rfl ?_
  refine s_bsl 7 rfl rfl (cells := #[.int .i64 0, .int .i64 1]) (by kernel_rfl) rfl (fun _ _ => trivial) (fun gT => ?_)
  refine s_call1 8 rfl rfl rfl rfl (fun w hw => ask2_spec g x b (some ⟨gT, 0, none⟩) 2 e w (Has.cong ((hw.has (i := 0) rfl).blk_sl (m := 2) rfl) rfl) (heO _ hw.fr) (heB _ hw.fr) (hw.has (i := 1) rfl) hk) (fun _ _ => trivial) ?_
  refine s_neIG 9 rfl rfl (evE_some e (x.abs.askB b)) ?_
  refine SX.next ?_
  refine CW.test rfl (fun hz => ?_) (fun hz => ?_)
  · skip
    refine CW.ret ?_
    exact KN.ret (rs := []) Tryd.results43 rfl (fun w hw => ⟨x, rfl, ⟨by unfold drFr; rw [if_neg (fun h => hz h.1)], .refl x⟩, hw.pick [1, 1] rfl⟩)
  · skip
    have hab := Decidable.of_not_not hz
    obtain ⟨hhas, hbad⟩ := askB_zero hab
    obtain ⟨i, rfl, hil⟩ := dhas_at' hhas
    have hil2 : i < x.next.length := hil
    have hil3 : i < x.bad.length := by omega
    have hp1 : y.pages ≤ 64 := hy.p1
    have hp0 : 1 ≤ y.pages := hy.p0
    obtain ⟨np, hnp⟩ := Int.eq_ofNat_of_zero_le (show 0 ≤ x.pages by omega)
    refine CW.skip ?_
    refine KN.code ?_
    refine CW.seq ?_
    refine CW.seq ?_
    refine CW.reg [0, 1, 2, 3, 4] rfl ?_
    refine s_mv 10 rfl rfl ?_
    refine s_nil 11 rfl rfl ?_
    refine s_fa 12 rfl rfl ?_
    refine s_ld 13 rfl rfl (v := .int .i64 ((np : Nat) : Int)) (fun _ hw => dr_cell (hw.has (i := 1) rfl) (by rw [← hnp]; rfl)) ?_
    refine s_mv 14 rfl rfl ?_
    refine SX.next ?_
    refine CW.block ?_
    refine CW.loop (G := Nat) (fun k => [(0, .pointer (some ⟨g, 0, none⟩)), (1, .int .i64 ((i : Nat) : Int)), (13, .int .i64 ((np : Nat) : Int)), (14, .int .i64 (k : Nat))]) (fun _ => St F w [blk gT 3 #[.int .i64 0, .int .i64 1], driveA g x, chipA x.cb y]) (fun k => k ≤ np ∧ ∀ j, j < k → (y.abs.pg (i : Nat) (j : Nat)).used = false) (fun k => np - k) 0 ⟨rfl, rfl, rfl, rfl, trivial⟩ (fun _ h => h) ⟨Nat.zero_le _, fun j h => by omega⟩ ?_
    rintro k ⟨hk2, hall⟩
    refine CW.seq ?_
    refine CW.reg [0] rfl ?_
    refine s_lt 15 rfl rfl rfl rfl ?_
    refine SX.next ?_
    refine CW.seq ?_
    refine CW.test rfl (fun hc => ?_) (fun hc => ?_)
    · skip
      have hkl : k < np := by omega
      refine CW.skip ?_
      refine KN.code ?_
      refine CW.seq ?_
      refine CW.block ?_
      refine CW.seq ?_
      refine CW.reg [0, 1] rfl ?_
      refine s_mv 16 rfl rfl ?_
      refine s_as 4 rfl rfl ?_
      refine SX.next ?_
      refine CW.seq ?_
      refine CW.reg [0, 1, 2, 3, 4, 5, 6, 7] rfl ?_
      refine s_mv 17 rfl rfl ?_
      refine s_nil 18 rfl rfl ?_
      refine s_fa 19 rfl rfl ?_
      refine s_ld 20 rfl rfl (v := .pointer (some ⟨x.cb, 0, none⟩)) (fun _ hw => dr_cell (hw.has (i := 1) rfl) rfl) ?_
      refine s_mv 21 rfl rfl ?_
      refine s_mv 22 rfl rfl ?_
      refine s_build 23 rfl rfl (cells := #[.int .i64 ((i : Nat) : Int), .int .i64 ((k : Nat) : Int)]) (by kernel_rfl) ?_
      have hin : y.abs.inn (i : Nat) (k : Nat) = true := by
        unfold ChS.inn ChS.has
        have e1 : y.abs.pages = x.pages := hpg
        rw [decide_eq_true (by omega), decide_eq_true (by rw [e1, hnp]; omega)]
        rfl
      refine s_call1 24 rfl rfl rfl rfl (fun w hw => used_spec x.cb y hy (i : Nat) (k : Nat) w (hw.has (i := 2) rfl)) (fun _ _ => trivial) ?_
      refine SX.next ?_
      refine CW.cond rfl (fun hu => ?_) (fun hu => ?_)
      · skip
        rw [hin] at hu
        have hu2 : (y.abs.pg (i : Nat) (k : Nat)).used = true := by simpa using hu
        refine CW.ret ?_
        exact KN.ret (rs := []) Tryd.results43 rfl (fun w hw => ⟨x, rfl, ⟨by unfold drFr; rw [if_neg (fun h => by
          have h2 := h.2 k (by show k < y.pages.toNat; rw [show y.pages = x.pages from hpg, hnp]; omega)
          rw [hu2] at h2
          cases h2)], .refl x⟩, hw.pick [1, 1] rfl⟩)
      · skip
        rw [hin] at hu
        have hu2 : (y.abs.pg (i : Nat) (k : Nat)).used = false := by simpa using hu
        refine CW.skip ?_
        refine KN.blk ?_
        refine KN.code ?_
        refine CW.reg [0, 1] rfl ?_
        refine s_add 25 rfl rfl rfl (r := ((k + 1 : Nat) : Int)) (w64 (by omega)) ?_
        refine s_mv 14 rfl rfl ?_
        refine SX.end_ ?_
        exact KN.back (k + 1) ⟨rfl, rfl, rfl, rfl, trivial⟩ (fun _ h => h) ⟨by omega, fun j hj => by
          by_cases hjk : j = k
          · rw [hjk]; exact hu2
          · exact hall j (by omega)⟩ (by omega)
    · skip
      obtain rfl : k = np := by omega
      refine CW.exit rfl ?_
      refine KN.code ?_
      refine CW.pre (fun _ h => (h.pick [1, 0, 0] rfl).driveO) ?_
      refine CW.reg [0, 1, 2, 3, 4, 5, 6] rfl ?_
      refine s_mv 26 rfl rfl ?_
      refine s_nil 27 rfl rfl ?_
      refine s_fa 28 rfl rfl ?_
      refine s_ldB 29 0 rfl rfl rfl (v := .slice x.A x.next.length x.c) rfl ?_
      refine s_mv 30 rfl rfl ?_
      refine s_iaO 31 1 i rfl rfl rfl rfl rfl hil2 ?_
      refine s_stO 1 rfl rfl rfl rfl rfl hil2 (fun _ _ => trivial) ?_
      refine SX.end_ ?_
      exact KN.ret (rs := []) Tryd.results43 rfl (fun w hw => ⟨{ x with next := x.next.set i 0 }, rfl, ⟨by unfold drFr; rw [if_pos ⟨hab, fun j hj => hall j (by have h3 : j < y.pages.toNat := hj; rw [show y.pages = x.pages from hpg, hnp] at h3; omega)⟩]; rfl, ⟨rfl, rfl, rfl⟩⟩, St.drivePut i 0 (hw.pick [0, 0, 0, 1] rfl)⟩)

theorem drNext_spec (g : Nat) (x : DrG) (b : Int) (e : Nat → Addr) (w : World) (heO : Er e w 1) (hd : Has (driveA g x) w) : Spec1 Tryd.prog 47 [.pointer (some ⟨g, 0, none⟩), .int .i64 b] w (.int .i64 (drNx x.pages x.abs b)) := by
  refine spec_of Tryd.func47 rfl Tryd.ntmps47 rfl ?_
  refine CW.seq ?_
  refine CW.reg [0] rfl ?_
  refine s_as 4 rfl rfl ?_
  refine SX.next ?_
  refine CW.seq ?_
  refine CW.seq ?_
  refine CW.reg [0, 1, 2, 3] rfl ?_
  refine s_mv 5 rfl rfl ?_
  refine s_mv 6 rfl rfl ?_
  refine s_call1 7 rfl rfl rfl rfl (fun w hw => there_spec g x b e w (hw.er heO) (hw.old hd)) (fun _ _ => trivial) ?_
  refine s_neIG 8 rfl rfl (evE_some e (if x.abs.has b then 0 else 110)) ?_
  refine SX.next ?_
  refine CW.test rfl (fun hc => ?_) (fun hc => ?_)
  · skip
    have hno : x.abs.has b = false := by
      cases h : x.abs.has b with
      | false => rfl
      | true => rw [h] at hc; exact absurd rfl hc
    refine CW.seq ?_
    refine CW.reg [0, 1, 2, 3, 4] rfl ?_
    refine s_mv 9 rfl rfl ?_
    refine s_nil 10 rfl rfl ?_
    refine s_fa 11 rfl rfl ?_
    refine s_ld 12 rfl rfl (v := .int .i64 x.pages) (fun _ hw => dr_cell (hw.old hd) rfl) ?_
    refine s_as 4 rfl rfl ?_
    refine SX.next ?_
    refine CW.ret ?_
    exact KN.ret (rs := [.tmp 4]) Tryd.results47 rfl (fun w hw => ⟨by unfold drNx; rw [hno]; rfl, hw.nothing⟩)
  · skip
    have hyes : x.abs.has b = true := by
      cases h : x.abs.has b with
      | true => rfl
      | false => rw [h] at hc; exact absurd (by decide) hc
    obtain ⟨i, rfl, hil⟩ := dhas_at' hyes
    have hil2 : i < x.next.length := hil
    refine CW.skip ?_
    refine KN.code ?_
    refine CW.seq ?_
    refine CW.reg [0, 1, 2, 3, 4, 5, 6, 7] rfl ?_
    refine s_mv 13 rfl rfl ?_
    refine s_nil 14 rfl rfl ?_
    refine s_fa 15 rfl rfl ?_
    refine s_ld 16 rfl rfl (v := .slice x.A x.next.length x.c) (fun _ hw => dr_cell (hw.old hd) rfl) ?_
    refine s_mv 17 rfl rfl ?_
    refine s_iaV 18 i (fun w hw => dr_nx (hw.old hd)) rfl rfl rfl rfl hil2 ?_
    refine s_ldV 19 (fun w hw => dr_nx (hw.old hd)) rfl rfl (by rw [Nat.mul_one]; exact intsAt hil2) (by omega) ?_
    refine s_as 4 rfl rfl ?_
    refine SX.next ?_
    refine CW.ret ?_
    exact KN.ret (rs := [.tmp 4]) Tryd.results47 rfl (fun w hw => ⟨by unfold drNx; rw [hyes]; rfl, hw.nothing⟩)

theorem drBad_spec (g : Nat) (x : DrG) (b : Int) (e : Nat → Addr) (w : World) (heO : Er e w 1) (heB : Er e w 7) (hd : Has (driveA g x) w) (hk : x.bad.length = x.next.length) : Spec1 Tryd.prog 50 [.pointer (some ⟨g, 0, none⟩), .int .i64 b] w (.bool (decide (x.abs.askB b ≠ 0))) := by
  refine spec_of Tryd.func50 rfl Tryd.ntmps50 rfl ?_
  refine CW.seq ?_
  refine CW.reg [0] rfl ?_
  refine s_as 4 rfl rfl ?_
  refine SX.next ?_
  refine CW.seq ?_
  refine CW.reg [0, 1, 2, 3, 4, 5] rfl ?_
  refine s_mv 5 rfl rfl ?_
  refine s_mv 6 rfl rfl ?_
  refine s_bsl 7 rfl rfl (cells := #[.int .i64 0, .int .i64 1]) (by kernel_rfl) rfl (fun _ _ => trivial) (fun gT => ?_)
  refine s_call1 8 rfl rfl rfl rfl (fun w hw => ask2_spec g x b (some ⟨gT, 0, none⟩) 2 e w (Has.cong ((hw.has (i := 0) rfl).blk_sl (m := 2) rfl) rfl) (hw.er heO) (hw.er heB) (hw.old hd) hk) (fun _ _ => trivial) ?_
  refine s_neIG 9 rfl rfl (evE_some e (x.abs.askB b)) ?_
  refine s_as 4 rfl rfl ?_
  refine SX.next ?_
  refine CW.ret ?_
  exact KN.ret (rs := [.tmp 4]) Tryd.results50 rfl (fun w hw => ⟨rfl, hw.nothing⟩)

theorem drChip_spec (g : Nat) (x : DrG) (w : World) (hd : Has (driveA g x) w) : Spec1 Tryd.prog 80 [.pointer (some ⟨g, 0, none⟩)] w (.pointer (some ⟨x.cb, 0, none⟩)) := by
  refine spec_of Tryd.func80 rfl Tryd.ntmps80 rfl ?_
  refine CW.seq ?_
  refine CW.reg [0] rfl ?_
  refine s_as 2 rfl rfl ?_
  refine SX.next ?_
  refine CW.seq ?_
  refine CW.reg [0, 1, 2, 3, 4] rfl ?_
  refine s_mv 3 rfl rfl ?_
  refine s_nil 4 rfl rfl ?_
  refine s_fa 5 rfl rfl ?_
  refine s_ld 6 rfl rfl (v := .pointer (some ⟨x.cb, 0, none⟩)) (fun _ hw => dr_cell (hw.old hd) rfl) ?_
  refine s_as 2 rfl rfl ?_
  refine SX.next ?_
  refine CW.ret ?_
  exact KN.ret (rs := [.tmp 2]) Tryd.results80 rfl (fun w hw => ⟨rfl, hw.nothing⟩)

theorem drCount_spec (g : Nat) (x : DrG) (w : World) (hd : Has (driveA g x) w) : Spec1 Tryd.prog 58 [.pointer (some ⟨g, 0, none⟩)] w (.tuple #[.int .i64 x.reads, .int .i64 x.programs, .int .i64 x.erases]) := by
  refine spec_of Tryd.func58 rfl Tryd.ntmps58 rfl ?_
  refine CW.seq ?_
  refine CW.reg [0, 1, 2] rfl ?_
  refine s_as 2 rfl rfl ?_
  refine s_as 3 rfl rfl ?_
  refine s_as 4 rfl rfl ?_
  refine SX.next ?_
  refine CW.seq ?_
  refine CW.regD (.st true 0 (.st true 1 (.st true 2 (.st true 3 (.st true 4 (.st true 5 (.st true 6 (.st true 7 (.st true 8 (.st true 9 (.st true 10 (.st true 11 (.st true 12 (.st true 13 (.st true 14 .done))))))))))))))) (fun w2 => Has (driveA g x) w2) mixed (by kernel_rfl) (fun _ h => h.drew) (fun _ h => h.old hd) ?_
  refine s_mv 5 rfl rfl ?_
  refine s_nil 6 rfl rfl ?_
  refine s_fa 7 rfl rfl ?_
  refine s_ldS 8 rfl rfl (v := .int .i64 x.reads) (fun _ hw => dr_cell hw rfl) ?_
  refine s_mv 9 rfl rfl ?_
  refine s_nil 10 rfl rfl ?_
  refine s_fa 11 rfl rfl ?_
  refine s_ldS 12 rfl rfl (v := .int .i64 x.programs) (fun _ hw => dr_cell hw rfl) ?_
  refine s_mv 13 rfl rfl ?_
  refine s_nil 14 rfl rfl ?_
  refine s_fa 15 rfl rfl ?_
  refine s_ldS 16 rfl rfl (v := .int .i64 x.erases) (fun _ hw => dr_cell hw rfl) ?_
  refine s_as 2 rfl rfl ?_
  refine s_as 3 rfl rfl ?_
  refine s_as 4 rfl rfl ?_
  refine SX.next ?_
  refine CW.ret ?_
  exact KN.ret (rs := [.tmp 2, .tmp 3, .tmp 4]) Tryd.results58 rfl (fun w hw => ⟨rfl, hw.nothing⟩)
end Go.Proofs.YtcapijdokbkgaaaDoor
end
section
/- Two pointers that are one; parts of lists that are filled. No condition. -/
namespace Go.Sx
open Go
section
variable {P : Program} {ops : Array Oper} {S : World → Prop} {K : Act → World → Prop} {p : Plan} {n i : Nat} {l : List (Nat × Value)} {C : World → Prop} {ty ty' ty2 : TypeId} {x y : Operand} {fl : Bool}
theorem s_eqPP (d : Nat) {a0 : Addr} (ho : opAt ops n l i = some (some d, .binOp .eql ty x y ty', ty2)) [hP : PtrE P ty] (hx : ev l x = some (.pointer (some a0))) (hy : ev l y = some (.pointer (some a0))) (h : SX P ops S K p n ((d, .bool true) :: l) C) : SX P ops S K (.st fl i p) n l C :=
  SX.pure ho (fun a w o he h1 _ => by
    obtain ⟨te, j, it, h2, h3, h4, h5⟩ := hP.under
    have e2 : (binOp .eql ty (.pointer (some a0)) (.pointer (some a0))).run P w = .ok (.bool true) w := by
      simp only [binOp, Op.equal, Op.maxDepth, Sem.run_bind]
      rw [Op.equalIn]
      have e3 : (sizeOf te).run P w = .ok j.size w := by simp only [sizeOf, run_tinfo h3, Sem.run_bind, Result.andThen_ok, Sem.run_pure, Sem.run_map]
      simp only [run_underlying h2, Sem.run_bind, Result.andThen_ok, e3]
      by_cases hz : j.size = 0
      · simp [hz]
      · simp [hz, run_sameAddr_same]
    simp only [execOp, h1, he.ev hx, he.ev hy, Sem.run_bind, eqGuard_ptr, e2, Result.andThen_ok, Sem.run_pure]) h
end
theorem take_set {α : Type} {l : List α} {i : Nat} (h : i < l.length) (z d : α) : (l.take i ++ List.replicate (l.length - i) z).set i (l.getD i d) = l.take (i + 1) ++ List.replicate (l.length - (i + 1)) z := by
  have e : (l.take i).length = i := by rw [List.length_take]; omega
  rw [List.set_append_right _ _ (by omega), e, Nat.sub_self, show l.length - i = (l.length - (i + 1)) + 1 by omega, List.replicate_succ, List.set_cons_zero, List.take_add_one, List.getD_eq_getElem?_getD, List.getElem?_eq_getElem h, List.append_assoc]
  rfl
end Go.Sx
end
section
/- What a place that comes in gives a walk. No condition. -/
namespace Go.Proofs.YtcapijdokbkgaaaDoor
open Go Go.Sx Go.ChangeShapes Go.WideShapes Go.Deep
end Go.Proofs.YtcapijdokbkgaaaDoor
end
section
/- What faults, things that a driver is told, and lists of bytes, that come in give a walk, however large. No condition. -/
namespace Go.Proofs.YtcapijdokbkgaaaDoor
open Go Go.Sx Go.ChangeShapes Go.WideShapes Go.Deep
open Go.Proofs.YtcapijdokbkgaaaDoor.Rows (uptoBulk uptoBulkAll)
/-- Faults that come in, however many bits. -/
structure PlRaw (A : Option Addr) (l : List FtG) (w : World) : Prop where
  rows : Has (sl 5 A l.length (l.flatMap FtG.row)) w
  bits : ∀ f ∈ l, Has (sl 1 f.A f.bits.length (ints .i64 f.bits)) w
theorem PlRaw.turn {A : Option Addr} {l : List FtG} {w w' : World} (h : PlRaw A l w) (hw : Fr (Old w) w w') : PlRaw A l w' := ⟨h.rows.turn hw, fun f hf => (h.bits f hf).turn hw⟩
theorem PlRaw.pl {A : Option Addr} {l : List FtG} {w : World} (h : PlRaw A l w) (hb : ∀ f ∈ l, f.bits.length ≤ 50) : PlIn A l w := ⟨h.rows, h.bits, fun f hf => by have := hb f hf; omega⟩
structure DldG where
  kind : Int
  b : Int
  p : Int
  level : Int
  A : Option Addr
  c : Nat
  l : List Nat
def DldG.row (d : DldG) : List Value := [.int .i64 d.kind, .int .i64 d.b, .int .i64 d.p, .int .i64 d.level, .slice d.A d.l.length d.c]
theorem dlRow_len (d : DldG) : d.row.length = 5 := rfl
structure DldIn (d : DldG) (w : World) : Prop where
  bytes : Has (sl 1 d.A d.l.length (nats .u8 d.l)) w
  lt : ∀ x ∈ d.l, x < 256
  hb : i64B d.b
  hp : i64B d.p
theorem DldIn.turn {d : DldG} {w w' : World} (h : DldIn d w) (hw : Fr (Old w) w w') : DldIn d w' := ⟨h.bytes.turn hw, h.lt, h.hb, h.hp⟩
structure DellIn (A : Option Addr) (l : List DldG) (w : World) : Prop where
  rows : Has (sl 5 A l.length (l.flatMap DldG.row)) w
  each : ∀ d ∈ l, DldIn d w
structure Do15T (P : Program) (t ti tp tb t8 : TypeId) : Prop where
  ht : ∃ f0 f1 f2 f3 : Field, P.underlying t = some (.struct #[f0, f1, f2, f3]) ∧ (f0.type = ti ∧ f1.type = tp ∧ f2.type = ti ∧ f3.type = tb) ∧ f0.offset = 0 ∧ f1.offset = 1 ∧ f2.offset = 3 ∧ f3.offset = 4
  hi : P.underlying ti = some (.int .i64)
  hb : P.underlying tb = some (.slice t8)
  h8 : P.underlying t8 = some (.int .u8)
  ci : P.cellsOf ti = 1
  cp : P.cellsOf tp = 2
  cb : P.cellsOf tb = 1
  c8 : P.cellsOf t8 = 1
  ct : P.cellsOf t = 5
/-- Bytes where they lie. -/
structure BsG where
  A : Option Addr
  c : Nat
  l : List Nat
def BsG.row (b : BsG) : List Value := [.slice b.A b.l.length b.c]
structure BssIn (A : Option Addr) (l : List BsG) (w : World) : Prop where
  rows : Has (sl 1 A l.length (l.flatMap BsG.row)) w
  each : ∀ b ∈ l, Has (sl 1 b.A b.l.length (nats .u8 b.l)) w ∧ ∀ x ∈ b.l, x < 256
section
variable {H : Type} {enc : TypeId × Value → H} {P : Program} {W : World} {base b0 : Nat} {spare : Nat → Bool} {held : Bool}
theorem list4 {α : Type} {l : List α} (h : l.length = 4) : ∃ a0 a1 a2 a3, l = [a0, a1, a2, a3] := by
  match l, h with
  | [a0, a1, a2, a3], _ => exact ⟨_, _, _, _, rfl⟩
theorem open_plan0 {t te ti ts : TypeId} (ht : P.underlying t = some (.slice te)) (hT : FtT P te ti ts) {v : Value} {d : DataW H} {ps : List MemPlace} (hval : Value.okWide P W .any b0 t v) (hd : DataW.Trod enc P W base spare held t v d ps) : ∃ A c l, v = .slice A l.length c ∧ l.length ≤ c ∧ PlRaw A l W := by
  obtain ⟨A, n, c, rfl⟩ := okWide_slice ht hval
  obtain ⟨fuel, hf⟩ := hd
  rw [cells_slice] at hf
  obtain ⟨A, n, c, rows, e, k1, k2, k3, k4, _, k5⟩ := open_rowS ht hT.ct (by decide) hf
  obtain ⟨rfl, rfl, rfl⟩ := Value.slice.inj e
  obtain ⟨l, j1, j2, j3⟩ := rows_any (row := FtG.row) (Q := fun r => r.length = 5 ∧ ∃ m y, DataW.trod enc P W base spare held m te r = some y ∧ uptoBulk y.1 ≤ uptoBulk d) (R := fun f => Has (sl 1 f.A f.bits.length (ints .i64 f.bits)) W) (fun r ⟨_, m, y, hr, hy⟩ => by
    obtain ⟨f, q1, q2, q3⟩ := open_rowF hT hr
    exact ⟨f, q1, q2⟩) rows k4
  obtain rfl : l.length = n := j1.trans k3
  exact ⟨A, c, l, rfl, k1, j2 ▸ k5, j3⟩
theorem open_row15 {t ti tp tb t8 : TypeId} (hT : Do15T P t ti tp tb t8) (hP : PcT P tp ti) {fuel : Nat} {r : List Value} {x : DataW H × List MemPlace} (hf : DataW.trod enc P W base spare held fuel t r = some x) : ∃ d : DldG, r = d.row ∧ DldIn d W := by
  obtain ⟨f0, f1, f2, f3, ht, ⟨t0, t1, t2, t3⟩, o0, o1, o2, o3⟩ := hT.ht
  obtain ⟨xs, n, _, rfl, hl, hlen, h⟩ := DataW.trod_struct ht hf
  rw [hT.ct] at hl
  obtain ⟨y0, y1, y2, y3, rfl⟩ := list4 (show xs.length = 4 from hlen)
  obtain ⟨v0, v1, v2, v3, v4, rfl⟩ := list5 hl
  have k0 := h 0 f0 rfl
  have k1 := h 1 f1 rfl
  have k2 := h 2 f2 rfl
  have k3 := h 3 f3 rfl
  rw [t0, o0, hT.ci] at k0
  rw [t1, o1, hT.cp] at k1
  rw [t2, o2, hT.ci] at k2
  rw [t3, o3, hT.cb] at k3
  obtain ⟨z0, g0, _, _⟩ := DataW.trod_int hT.hi (show DataW.trod enc P W base spare held n ti [v0] = some y0 from k0)
  obtain ⟨b, p, g1, hb, hp⟩ := open_rowP hP (show DataW.trod enc P W base spare held n tp [v1, v2] = some y1 from k1)
  obtain ⟨z3, g3, _, _⟩ := DataW.trod_int hT.hi (show DataW.trod enc P W base spare held n ti [v3] = some y2 from k2)
  obtain ⟨A, q, c, l, rfl, e1, e2, e3, e4, e5⟩ := open_rowB hT.hb hT.h8 hT.c8 (show DataW.trod enc P W base spare held n tb [v4] = some y3 from k3)
  simp only [List.cons.injEq, and_true] at g0 g1 g3
  obtain ⟨rfl, rfl⟩ := g1
  subst g0 g3 e3
  exact ⟨⟨z0, b, p, z3, A, c, l⟩, rfl, e4, e5, hb, hp⟩
theorem open_tell15 {tt t ti tp tb t8 : TypeId} (htt : P.underlying tt = some (.slice t)) (hT : Do15T P t ti tp tb t8) (hP : PcT P tp ti) {v : Value} {d : DataW H} {ps : List MemPlace} (hval : Value.okWide P W .any b0 tt v) (hd : DataW.Trod enc P W base spare held tt v d ps) : ∃ A c l, v = .slice A l.length c ∧ l.length ≤ c ∧ DellIn A l W := by
  obtain ⟨A, n, c, rfl⟩ := okWide_slice htt hval
  obtain ⟨fuel, hf⟩ := hd
  rw [cells_slice] at hf
  obtain ⟨A, n, c, rows, e, k1, k2, k3, k4, _, k5⟩ := open_rowS htt hT.ct (by decide) hf
  obtain ⟨rfl, rfl, rfl⟩ := Value.slice.inj e
  obtain ⟨l, j1, j2, j3⟩ := rows_any (row := DldG.row) (Q := fun r => r.length = 5 ∧ ∃ m y, DataW.trod enc P W base spare held m t r = some y ∧ uptoBulk y.1 ≤ uptoBulk d) (R := fun d => DldIn d W) (fun r ⟨_, m, y, hr, _⟩ => open_row15 hT hP hr) rows k4
  obtain rfl : l.length = n := j1.trans k3
  exact ⟨A, c, l, rfl, k1, j2 ▸ k5, j3⟩
end
theorem doT15 : Do15T Tryd.prog 93 3 31 22 5 := ⟨⟨_, _, _, _, Tryd.underlying93, ⟨rfl, rfl, rfl, rfl⟩, rfl, rfl, rfl, rfl⟩, Tryd.underlying3, Tryd.underlying22, Tryd.underlying5, by kernel_rfl, by kernel_rfl, by kernel_rfl, by kernel_rfl, by kernel_rfl⟩
def gD (l : List DldG) (i : Nat) : DldG := l.getD i ⟨0, 0, 0, 0, none, 0, []⟩
theorem gD_at {l : List DldG} {i : Nat} (h : i < l.length) : l[i]? = some (gD l i) := by
  unfold gD
  rw [List.getD_eq_getElem?_getD, List.getElem?_eq_getElem h, Option.getD_some]
theorem gD_mem {l : List DldG} {i : Nat} (h : i < l.length) : gD l i ∈ l := List.mem_of_getElem? (gD_at h)
def gB (l : List BsG) (i : Nat) : BsG := l.getD i ⟨none, 0, []⟩
end Go.Proofs.YtcapijdokbkgaaaDoor
end
section
/- Package drive: its contracts with the chip's block and measures named; a new driver; chapter 15's small functions. Conditions: what is lent, and read. -/
namespace Go.Proofs.YtcapijdokbkgaaaDoor
open Go Go.Sx Go.Fm
set_option maxRecDepth 100000
structure DrG.At (x : DrG) (cb : Nat) (pg sz : Int) : Prop where
  cb : x.cb = cb
  p : x.pages = pg
  z : x.size = sz
  k : x.bad.length = x.next.length
theorem put_len (d : DrS) (b v : Int) : (d.put b v).bad.length = d.bad.length ∧ (d.put b v).next.length = d.next.length := ⟨rfl, List.length_set⟩
/-- As long as it was. -/
structure DrS.As (d t : DrS) : Prop where
  b : t.bad.length = d.bad.length
  n : t.next.length = d.next.length
theorem drRd_as (d : DrS) (s : ChS) (b p v : Int) : d.As (drRd d s b p v).2.2.1 := by
  unfold drRd
  split
  · exact ⟨rfl, rfl⟩
  · exact ⟨rfl, rfl⟩
theorem drAp_as (pg sz : Int) (d : DrS) (s : ChS) (b : Int) (l : List Nat) : d.As (drAp pg sz d s b l).2.2.1 := by
  unfold drAp
  split
  · exact ⟨rfl, rfl⟩
  · split
    · exact ⟨rfl, rfl⟩
    · split
      · exact ⟨(put_len _ _ _).1, (put_len _ _ _).2⟩
      · exact ⟨(put_len _ _ _).1, (put_len _ _ _).2⟩
theorem drEr_as (pg : Int) (d : DrS) (s : ChS) (b : Int) : d.As (drEr pg d s b).2.1 := by
  unfold drEr
  split
  · exact ⟨rfl, rfl⟩
  · exact ⟨(put_len _ _ _).1, (put_len _ _ _).2⟩
theorem drCl_as (pg : Int) (d : DrS) (b : Int) : d.As (drCl pg d b) := by
  unfold drCl
  split
  · exact ⟨(put_len _ _ _).1, (put_len _ _ _).2⟩
  · exact ⟨rfl, rfl⟩
theorem drRe_as (pg : Int) (d : DrS) (b : Int) : d.As (drRe pg d b) := by
  unfold drRe
  split
  · exact ⟨List.length_set, List.length_set⟩
  · exact ⟨rfl, rfl⟩
theorem drFr_as (d : DrS) (s : ChS) (b : Int) : d.As (drFr d s b) := by
  unfold drFr
  split
  · exact ⟨(put_len _ _ _).1, (put_len _ _ _).2⟩
  · exact ⟨rfl, rfl⟩
theorem DrG.At.keep {x z : DrG} {cb : Nat} {pg sz : Int} {d : DrS} (h : x.At cb pg sz) (hk : x.Keep z) (hd : z.abs = d) (ha : x.abs.As d) : z.At cb pg sz := by
  subst hd
  exact ⟨hk.cb.trans h.cb, hk.p.trans h.p, hk.z.trans h.z, (show z.abs.bad.length = z.abs.next.length from ha.b.trans ((show x.bad.length = x.next.length from h.k).trans ha.n.symm))⟩
section
theorem drRead {F : Nat → Prop} {g cb : Nat} {pg sz : Int} {x : DrG} {y : ChG} (h : x.At cb pg sz) (hy : y.abs.Ok) (hyw : y.watch = .nilFunc) (b p level : Int) (e : Nat → Addr) (w : World) (heD : ∀ w', Fr F w w' → Er e w' 0) (heO : ∀ w', Fr F w w' → Er e w' 1) (heS : ∀ w', Fr F w w' → Er e w' 2) (heB : ∀ w', Fr F w w' → Er e w' 7) (hw : St F w [driveA g x, chipA cb y] w) :
    SpecP Tryd.prog 46 [.pointer (some ⟨g, 0, none⟩), .agg #[.int .i64 b, .int .i64 p], .int .i64 level] F w (X := (Option Addr × Nat) × DrG × ChG) (fun z => two (.slice z.1.1 (drRd x.abs y.abs b p level).2.1.length z.1.2) (evE e (drRd x.abs y.abs b p level).1)) (fun z => z.2.1.abs = (drRd x.abs y.abs b p level).2.2.1 ∧ z.2.1.At cb pg sz ∧ z.2.2.abs = (drRd x.abs y.abs b p level).2.2.2 ∧ z.2.2.watch = .nilFunc) (fun z => [own 5 1 z.1.1 (drRd x.abs y.abs b p level).2.1.length z.1.2 (nats .u8 (drRd x.abs y.abs b p level).2.1), driveA g z.2.1, chipA cb z.2.2]) := by
  obtain ⟨rfl, rfl, rfl, hk⟩ := h
  exact Calls.mono (drRead_spec F g x y hy hyw b p level e w hk heD heO heS heB hw) (fun e2 w2 ⟨z, h1, ⟨h2, h3, h4, h5⟩, h6⟩ => ⟨z, h1, ⟨h2, DrG.At.keep ⟨rfl, rfl, rfl, hk⟩ h3 h2 (drRd_as _ _ _ _ _), h4, h5.trans hyw⟩, h6⟩)
theorem drAppend {F : Nat → Prop} {g cb : Nat} {pg sz : Int} {x : DrG} {y : ChG} (h : x.At cb pg sz) (hy : y.abs.Ok) (hyw : y.watch = .nilFunc) (b : Int) (A : Option Addr) (c : Nat) (l : List Nat) (e : Nat → Addr) (w : World) (heD : ∀ w', Fr F w w' → Er e w' 0) (heO : ∀ w', Fr F w w' → Er e w' 1) (heS : ∀ w', Fr F w w' → Er e w' 2) (heF : ∀ w', Fr F w w' → Er e w' 5) (heB : ∀ w', Fr F w w' → Er e w' 7) (hB : ∀ w', Fr F w w' → Has (sl 1 A l.length (nats .u8 l)) w') (h8 : ∀ t ∈ l, t < 256) (hw : St F w [driveA g x, chipA cb y] w) :
    SpecP Tryd.prog 45 [.pointer (some ⟨g, 0, none⟩), .int .i64 b, .slice A l.length c] F w (X := DrG × ChG) (fun _ => two (.int .i64 (drAp pg sz x.abs y.abs b l).1) (evE e (drAp pg sz x.abs y.abs b l).2.1)) (fun z => z.1.abs = (drAp pg sz x.abs y.abs b l).2.2.1 ∧ z.1.At cb pg sz ∧ z.2.abs = (drAp pg sz x.abs y.abs b l).2.2.2 ∧ z.2.watch = .nilFunc) (fun z => [driveA g z.1, chipA cb z.2]) := by
  obtain ⟨rfl, rfl, rfl, hk⟩ := h
  exact Calls.mono (drAppend_spec F g x y hy b A c l e w hk heD heO heS heF heB hB h8 hw) (fun e2 w2 ⟨z, h1, ⟨h2, h3, h4, h5⟩, h6⟩ => ⟨z, h1, ⟨h2, DrG.At.keep ⟨rfl, rfl, rfl, hk⟩ h3 h2 (drAp_as _ _ _ _ _ _), h4, h5.trans hyw⟩, h6⟩)
theorem drErase {F : Nat → Prop} {g cb : Nat} {pg sz : Int} {x : DrG} {y : ChG} (h : x.At cb pg sz) (hy : y.abs.Ok) (hyw : y.watch = .nilFunc) (b : Int) (e : Nat → Addr) (w : World) (heD : ∀ w', Fr F w w' → Er e w' 0) (heO : ∀ w', Fr F w w' → Er e w' 1) (heS : ∀ w', Fr F w w' → Er e w' 2) (heF : ∀ w', Fr F w w' → Er e w' 5) (heB : ∀ w', Fr F w w' → Er e w' 7) (hw : St F w [driveA g x, chipA cb y] w) :
    SpecP Tryd.prog 44 [.pointer (some ⟨g, 0, none⟩), .int .i64 b] F w (X := DrG × ChG) (fun _ => evE e (drEr pg x.abs y.abs b).1) (fun z => z.1.abs = (drEr pg x.abs y.abs b).2.1 ∧ z.1.At cb pg sz ∧ z.2.abs = (drEr pg x.abs y.abs b).2.2 ∧ z.2.watch = .nilFunc) (fun z => [driveA g z.1, chipA cb z.2]) := by
  obtain ⟨rfl, rfl, rfl, hk⟩ := h
  exact Calls.mono (drErase_spec F g x y hy b e w hk heD heO heS heF heB hw) (fun e2 w2 ⟨z, h1, ⟨h2, h3, h4, h5⟩, h6⟩ => ⟨z, h1, ⟨h2, DrG.At.keep ⟨rfl, rfl, rfl, hk⟩ h3 h2 (drEr_as _ _ _ _), h4, h5.trans hyw⟩, h6⟩)
theorem drClose {F : Nat → Prop} {g cb : Nat} {pg sz : Int} {x : DrG} (h : x.At cb pg sz) (b : Int) (e : Nat → Addr) (w : World) (heO : ∀ w', Fr F w w' → Er e w' 1) (hw : St F w [driveA g x] w) :
    SpecP Tryd.prog 51 [.pointer (some ⟨g, 0, none⟩), .int .i64 b] F w (X := DrG) (fun _ => oneOf []) (fun z => z.abs = drCl pg x.abs b ∧ z.At cb pg sz) (fun z => [driveA g z]) := by
  obtain ⟨rfl, rfl, rfl, hk⟩ := h
  exact Calls.mono (drClose_spec F g x b e w hk heO hw) (fun e2 w2 ⟨z, h1, ⟨h2, h3⟩, h6⟩ => ⟨z, h1, ⟨h2, DrG.At.keep ⟨rfl, rfl, rfl, hk⟩ h3 h2 (drCl_as _ _ _)⟩, h6⟩)
theorem drRetire {F : Nat → Prop} {g cb : Nat} {pg sz : Int} {x : DrG} (h : x.At cb pg sz) (b : Int) (e : Nat → Addr) (w : World) (heO : ∀ w', Fr F w w' → Er e w' 1) (hw : St F w [driveA g x] w) :
    SpecP Tryd.prog 52 [.pointer (some ⟨g, 0, none⟩), .int .i64 b] F w (X := DrG) (fun _ => oneOf []) (fun z => z.abs = drRe pg x.abs b ∧ z.At cb pg sz) (fun z => [driveA g z]) := by
  obtain ⟨rfl, rfl, rfl, hk⟩ := h
  exact Calls.mono (drRetire_spec F g x b e w hk heO hw) (fun e2 w2 ⟨z, h1, ⟨h2, h3⟩, h6⟩ => ⟨z, h1, ⟨h2, DrG.At.keep ⟨rfl, rfl, rfl, hk⟩ h3 h2 (drRe_as _ _ _)⟩, h6⟩)
theorem drFresh {F : Nat → Prop} {g cb : Nat} {pg sz : Int} {x : DrG} {y : ChG} (h : x.At cb pg sz) (hy : y.abs.Ok) (b : Int) (e : Nat → Addr) (w : World) (hpg : y.abs.pages = pg) (hbl : y.abs.blocks.length = x.abs.next.length) (heO : ∀ w', Fr F w w' → Er e w' 1) (heB : ∀ w', Fr F w w' → Er e w' 7) (hw : St F w [driveA g x, chipA cb y] w) :
    SpecP Tryd.prog 43 [.pointer (some ⟨g, 0, none⟩), .int .i64 b] F w (X := DrG) (fun _ => oneOf []) (fun z => z.abs = drFr x.abs y.abs b ∧ z.At cb pg sz) (fun z => [driveA g z, chipA cb y]) := by
  obtain ⟨rfl, rfl, rfl, hk⟩ := h
  exact Calls.mono (drFresh_spec F g x y hy b e w hk hpg hbl heO heB hw) (fun e2 w2 ⟨z, h1, ⟨h2, h3⟩, h6⟩ => ⟨z, h1, ⟨h2, DrG.At.keep ⟨rfl, rfl, rfl, hk⟩ h3 h2 (drFr_as _ _ _)⟩, h6⟩)
theorem drNext {g cb : Nat} {pg sz : Int} {x : DrG} (h : x.At cb pg sz) (b : Int) (e : Nat → Addr) (w : World) (heO : Er e w 1) (hd : Has (driveA g x) w) : Spec1 Tryd.prog 47 [.pointer (some ⟨g, 0, none⟩), .int .i64 b] w (.int .i64 (drNx pg x.abs b)) := by
  obtain ⟨rfl, rfl, rfl, hk⟩ := h
  exact drNext_spec g x b e w heO hd
theorem drChip {g cb : Nat} {pg sz : Int} {x : DrG} (h : x.At cb pg sz) (w : World) (hd : Has (driveA g x) w) : Spec1 Tryd.prog 80 [.pointer (some ⟨g, 0, none⟩)] w (.pointer (some ⟨cb, 0, none⟩)) := by
  obtain ⟨rfl, rfl, rfl, hk⟩ := h
  exact drChip_spec g x w hd
end
def drNew0 (s : ChS) : DrS := ⟨List.replicate s.blocks.length s.pages, s.blocks.map (·.marked), 0, 0, 0⟩

theorem mark_at {y : ChG} {i : Nat} (h : i < y.blocks.length) : (y.abs.has (i : Nat) && (y.abs.bk (i : Nat)).marked) = (y.blocks.map (·.marked)).getD i false := by
  have h1 : y.abs.has (i : Nat) = true := by
    unfold ChS.has
    exact decide_eq_true ⟨by omega, by show ((i : Nat) : Int) < ((y.blocks.map BkG.abs).length : Nat); rw [List.length_map]; omega⟩
  rw [h1, Bool.true_and]
  unfold ChS.bk
  rw [Int.toNat_natCast, List.getD_eq_getElem?_getD, List.getD_eq_getElem?_getD]
  show ((y.blocks.map BkG.abs)[i]?.getD BkS.nul).marked = _
  rw [List.getElem?_map, List.getElem?_map, List.getElem?_eq_getElem h]
  rfl
set_option maxHeartbeats 800000 in

theorem drNew_spec (cb : Nat) (y : ChG) (hy : y.abs.Ok) (w : World) (hch : Has (chipA cb y) w) : SpecX Tryd.prog 42 [.pointer (some ⟨cb, 0, none⟩)] w (X := Nat × DrG) (fun z => .pointer (some ⟨z.1, 0, none⟩)) (fun z => z.2.abs = drNew0 y.abs ∧ z.2.At cb y.pages y.size) (fun z => [driveA z.1 z.2]) := by
  have hb64 : y.blocks.length ≤ 64 := by
    have := hy.b1
    unfold ChG.abs at this
    simp only [List.length_map] at this
    exact this
  refine spec_of Tryd.func42 rfl Tryd.ntmps42 rfl ?_
  refine CW.seq ?_
  refine CW.reg [0] rfl ?_
  refine s_as 2 rfl rfl ?_
  refine SX.next ?_
  refine CW.seq ?_
  refine CW.reg [0, 1, 2, 3, 4, 5, 6, 7, 8, 9, 10] rfl ?_
  refine s_mv 10 rfl rfl ?_
  refine s_call1 11 rfl rfl rfl rfl (fun w hw => shape_spec cb y w (hw.old hch)) (fun _ _ => trivial) ?_
  refine s_mv 9 rfl rfl ?_
  refine s_ext 12 rfl rfl rfl ?_
  refine s_ext 13 rfl rfl rfl ?_
  refine s_ext 14 rfl rfl rfl ?_
  refine s_ext 15 rfl rfl rfl ?_
  refine s_as 3 rfl rfl ?_
  refine s_as 4 rfl rfl ?_
  refine s_as 5 rfl rfl ?_
  refine s_as 6 rfl rfl ?_
  refine SX.next ?_
  refine CW.seq ?_
  refine CW.regD (.st true 0 (.st true 1 (.st true 2 (.st true 3 (.st true 5 (.alt 4 (.st false 6 (.st false 7 (.st false 8 (.st true 9 .done)))) (.st false 6 (.st false 4 (.st false 7 (.st false 8 (.st true 9 .done))))))))))) (fun _ => True) mixed (by kernel_rfl) (fun _ h => h.drew) (fun _ _ => trivial) ?_
  refine s_mv 16 rfl rfl ?_
  refine s_mv 17 rfl rfl ?_
  refine s_mv 18 rfl rfl ?_
  refine s_mv 19 rfl rfl ?_
  refine s_mv 21 rfl rfl ?_
  refine SX.alt ?_ ?_
  · skip
    refine s_make 20 y.blocks.length rfl rfl rfl rfl rfl (by omega) (fun _ _ => trivial) (fun gN => ?_)
    refine s_make 22 y.blocks.length rfl rfl rfl rfl rfl (by omega) (fun _ _ => trivial) (fun gB => ?_)
    refine s_build 23 rfl rfl (cells := #[.pointer (some ⟨cb, 0, none⟩), .int .i64 y.pages, .int .i64 y.size, .slice (some ⟨gN, 0, none⟩) y.blocks.length y.blocks.length, .slice (some ⟨gB, 0, none⟩) y.blocks.length y.blocks.length, .int .i64 0, .int .i64 0, .int .i64 0]) (by kernel_rfl) ?_
    refine s_box 24 rfl rfl (fun _ _ => trivial) (fun g => ?_)
    refine s_as 7 rfl rfl ?_
    refine SX.next ?_
    refine CW.seq ?_
    refine CW.seq ?_
    refine CW.pre (C' := Sto w [blk g 134 #[.pointer (some ⟨cb, 0, none⟩), .int .i64 y.pages, .int .i64 y.size, .slice (some ⟨gN, 0, none⟩) y.blocks.length y.blocks.length, .slice (some ⟨gB, 0, none⟩) y.blocks.length y.blocks.length, .int .i64 0, .int .i64 0, .int .i64 0], blk gN 3 (ints .i64 ((List.replicate y.blocks.length y.pages).take 0 ++ List.replicate (y.blocks.length - 0) 0)).toArray, blk gB 4 (bools ((y.blocks.map (·.marked)).take 0 ++ List.replicate (y.blocks.length - 0) false)).toArray]) (fun _ h => by
      have e1 : (ints .i64 ((List.replicate y.blocks.length y.pages).take 0 ++ List.replicate (y.blocks.length - 0) 0)).toArray = (List.replicate y.blocks.length (Value.int .i64 0)).toArray := by simp [ints]
      have e2 : (bools ((y.blocks.map (·.marked)).take 0 ++ List.replicate (y.blocks.length - 0) false)).toArray = (List.replicate y.blocks.length (Value.bool false)).toArray := by simp [bools]
      rw [e1, e2]
      exact h.pick [0, 1, 0] rfl) ?_
    refine CW.reg [0, 1, 2, 3, 4, 5] rfl ?_
    refine s_mv 25 rfl rfl ?_
    refine s_nil 26 rfl rfl ?_
    refine s_fa 27 rfl rfl ?_
    refine s_ldB 28 0 rfl rfl rfl (v := .slice (some ⟨gN, 0, none⟩) y.blocks.length y.blocks.length) rfl ?_
    refine s_len 29 rfl rfl ?_
    refine s_mv 30 rfl rfl ?_
    refine SX.next ?_
    refine CW.block ?_
    refine CW.loop (G := Nat) (fun i => [(0, .pointer (some ⟨cb, 0, none⟩)), (4, .int .i64 y.pages), (7, .pointer (some ⟨g, 0, none⟩)), (29, .int .i64 (y.blocks.length : Nat)), (30, .int .i64 (i : Nat))]) (fun i => Sto w [blk g 134 #[.pointer (some ⟨cb, 0, none⟩), .int .i64 y.pages, .int .i64 y.size, .slice (some ⟨gN, 0, none⟩) y.blocks.length y.blocks.length, .slice (some ⟨gB, 0, none⟩) y.blocks.length y.blocks.length, .int .i64 0, .int .i64 0, .int .i64 0], blk gN 3 (ints .i64 ((List.replicate y.blocks.length y.pages).take i ++ List.replicate (y.blocks.length - i) 0)).toArray, blk gB 4 (bools ((y.blocks.map (·.marked)).take i ++ List.replicate (y.blocks.length - i) false)).toArray]) (fun i => i ≤ y.blocks.length) (fun i => y.blocks.length - i) 0 ⟨rfl, rfl, rfl, rfl, rfl, trivial⟩ (fun _ h => h) (Nat.zero_le _) ?_
    intro i hi
    refine CW.seq ?_
    refine CW.reg [0] rfl ?_
    refine s_lt 31 rfl rfl rfl rfl ?_
    refine SX.next ?_
    refine CW.seq ?_
    refine CW.test rfl (fun hc => ?_) (fun hc => ?_)
    · skip
      have hil : i < y.blocks.length := by omega
      have hml : (y.blocks.map (·.marked)).length = y.blocks.length := List.length_map ..
      have hrl : (List.replicate y.blocks.length y.pages).length = y.blocks.length := List.length_replicate
      have hns : (ints .i64 ((List.replicate y.blocks.length y.pages).take i ++ List.replicate (y.blocks.length - i) 0)).toArray.size = y.blocks.length := by simp [ints]; omega
      have hbs : (bools ((y.blocks.map (·.marked)).take i ++ List.replicate (y.blocks.length - i) false)).toArray.size = y.blocks.length := by simp [bools]; omega
      refine CW.skip ?_
      refine KN.code ?_
      refine CW.seq ?_
      refine CW.block ?_
      refine CW.seq ?_
      refine CW.reg [0, 1] rfl ?_
      refine s_mv 32 rfl rfl ?_
      refine s_as 8 rfl rfl ?_
      refine SX.next ?_
      refine CW.regD (.st true 0 (.st true 1 (.st true 2 (.st true 3 (.st true 4 (.st true 5 (.st true 6 (.st true 7 (.st true 8 (.st true 9 (.st true 10 (.st true 11 (.st true 12 (.st false 13 (.st true 14 (.st false 15 (.st true 16 (.st false 17 .done)))))))))))))))))) (Sto w [blk g 134 #[.pointer (some ⟨cb, 0, none⟩), .int .i64 y.pages, .int .i64 y.size, .slice (some ⟨gN, 0, none⟩) y.blocks.length y.blocks.length, .slice (some ⟨gB, 0, none⟩) y.blocks.length y.blocks.length, .int .i64 0, .int .i64 0, .int .i64 0]]) mixed (by kernel_rfl) (fun _ h => h.drew) (fun _ h => h.pick [0] rfl) ?_
      refine s_mv 33 rfl rfl ?_
      refine s_nil 34 rfl rfl ?_
      refine s_fa 35 rfl rfl ?_
      refine s_ldS 36 rfl rfl (v := .slice (some ⟨gN, 0, none⟩) y.blocks.length y.blocks.length) (fun _ hw => hw.blkCell (i := 0) (j := 3) rfl rfl) ?_
      refine s_mv 37 rfl rfl ?_
      refine s_mv 38 rfl rfl ?_
      refine s_nil 39 rfl rfl ?_
      refine s_fa 40 rfl rfl ?_
      refine s_ldS 41 rfl rfl (v := .slice (some ⟨gB, 0, none⟩) y.blocks.length y.blocks.length) (fun _ hw => hw.blkCell (i := 0) (j := 4) rfl rfl) ?_
      refine s_mv 42 rfl rfl ?_
      refine s_mv 43 rfl rfl ?_
      refine s_mv 44 rfl rfl ?_
      refine s_mv 45 rfl rfl ?_
      refine s_call1 46 rfl rfl rfl rfl (v := .bool ((y.blocks.map (·.marked)).getD i false)) (fun w hw => by have := marked_spec cb y (i : Nat) w (hw.old hch); rw [mark_at hil] at this; exact this) (fun _ h => h.pick [0] rfl) ?_
      refine s_ia0 47 i rfl rfl rfl rfl hil ?_
      refine s_stB 1 rfl rfl rfl rfl rfl (by rw [hns]; exact hil) (fun _ h => h.pick [0] rfl) ?_
      refine s_ia0 48 i rfl rfl rfl rfl hil ?_
      refine s_stB 2 rfl rfl rfl rfl rfl (by rw [hbs]; exact hil) (fun _ h => h.pick [0] rfl) ?_
      refine SX.end_ ?_
      refine KN.blk ?_
      refine KN.code ?_
      refine CW.reg [0, 1] rfl ?_
      refine s_add 49 rfl rfl rfl (r := ((i + 1 : Nat) : Int)) (w64 (by omega)) ?_
      refine s_mv 30 rfl rfl ?_
      refine SX.end_ ?_
      exact KN.back (i + 1) ⟨rfl, rfl, rfl, rfl, rfl, trivial⟩ (fun _ h => by
        have e1 : (ints .i64 ((List.replicate y.blocks.length y.pages).take (i + 1) ++ List.replicate (y.blocks.length - (i + 1)) 0)).toArray = (ints .i64 ((List.replicate y.blocks.length y.pages).take i ++ List.replicate (y.blocks.length - i) 0)).toArray.setIfInBounds i (.int .i64 y.pages) := by
          have h1 := take_set (l := List.replicate y.blocks.length y.pages) (i := i) (by omega) 0 y.pages
          rw [List.length_replicate, List.getD_eq_getElem?_getD, List.getElem?_replicate, if_pos hil] at h1
          rw [List.setIfInBounds_toArray, intsSet]
          exact congrArg (fun t => (ints .i64 t).toArray) h1.symm
        have e2 : (bools ((y.blocks.map (·.marked)).take (i + 1) ++ List.replicate (y.blocks.length - (i + 1)) false)).toArray = (bools ((y.blocks.map (·.marked)).take i ++ List.replicate (y.blocks.length - i) false)).toArray.setIfInBounds i (.bool ((y.blocks.map (·.marked)).getD i false)) := by
          have h1 := take_set (l := y.blocks.map (·.marked)) (i := i) (by omega) false false
          rw [hml] at h1
          rw [List.setIfInBounds_toArray, bools_set]
          exact congrArg (fun t => (bools t).toArray) h1.symm
        rw [e1, e2]
        exact h) (by omega) (by omega)
    · skip
      obtain rfl : i = y.blocks.length := by omega
      refine CW.exit rfl ?_
      refine KN.code ?_
      refine CW.seq ?_
      refine CW.reg [0, 1] rfl ?_
      refine s_mv 50 rfl rfl ?_
      refine s_as 2 rfl rfl ?_
      refine SX.next ?_
      refine CW.ret ?_
      exact KN.ret (rs := [.tmp 2]) Tryd.results42 rfl (fun w_ hw => ⟨(g, (⟨cb, y.pages, y.size, some ⟨gN, 0, none⟩, y.blocks.length, List.replicate y.blocks.length y.pages, some ⟨gB, 0, none⟩, y.blocks.length, y.blocks.map (·.marked), 0, 0, 0⟩ : DrG)), rfl, ⟨by unfold DrG.abs drNew0 ChG.abs; simp only [List.length_map, List.map_map]; rfl, ⟨rfl, rfl, rfl, by simp only [List.length_map, List.length_replicate]⟩⟩, by
        have e1 : ((List.replicate y.blocks.length y.pages).take y.blocks.length ++ List.replicate (y.blocks.length - y.blocks.length) 0) = List.replicate y.blocks.length y.pages := by rw [List.take_of_length_le (by simp), Nat.sub_self, List.replicate_zero, List.append_nil]
        have e2 : ((y.blocks.map (·.marked)).take y.blocks.length ++ List.replicate (y.blocks.length - y.blocks.length) false) = y.blocks.map (·.marked) := by rw [List.take_of_length_le (by simp), Nat.sub_self, List.replicate_zero, List.append_nil]
        rw [e1, e2] at hw
        have h1 := hw.blkOwnM (q := 1) (m := y.blocks.length) (c := y.blocks.length) (sz := 1) rfl (by simp [ints]) (Nat.le_refl _) (by unfold maxLen; omega)
        have h2 := h1.blkOwnM (q := 2) (m := y.blocks.length) (c := y.blocks.length) (sz := 1) rfl (by simp [bools]) (Nat.le_refl _) (by unfold maxLen; omega)
        rw [List.take_of_length_le (by simp [ints]), List.take_of_length_le (by simp [bools])] at h2
        refine St.driveC ?_
        unfold DrG.hd DrG.cells DrG.nxA DrG.bdA
        simp only [List.length_map, List.length_replicate]
        exact h2⟩)
  · skip
    refine s_make 22 y.blocks.length rfl rfl rfl rfl rfl (by omega) (fun _ _ => trivial) (fun gB => ?_)
    refine s_make 20 y.blocks.length rfl rfl rfl rfl rfl (by omega) (fun _ _ => trivial) (fun gN => ?_)
    refine s_build 23 rfl rfl (cells := #[.pointer (some ⟨cb, 0, none⟩), .int .i64 y.pages, .int .i64 y.size, .slice (some ⟨gN, 0, none⟩) y.blocks.length y.blocks.length, .slice (some ⟨gB, 0, none⟩) y.blocks.length y.blocks.length, .int .i64 0, .int .i64 0, .int .i64 0]) (by kernel_rfl) ?_
    refine s_box 24 rfl rfl (fun _ _ => trivial) (fun g => ?_)
    refine s_as 7 rfl rfl ?_
    refine SX.next ?_
    refine CW.seq ?_
    refine CW.seq ?_
    refine CW.pre (C' := Sto w [blk g 134 #[.pointer (some ⟨cb, 0, none⟩), .int .i64 y.pages, .int .i64 y.size, .slice (some ⟨gN, 0, none⟩) y.blocks.length y.blocks.length, .slice (some ⟨gB, 0, none⟩) y.blocks.length y.blocks.length, .int .i64 0, .int .i64 0, .int .i64 0], blk gN 3 (ints .i64 ((List.replicate y.blocks.length y.pages).take 0 ++ List.replicate (y.blocks.length - 0) 0)).toArray, blk gB 4 (bools ((y.blocks.map (·.marked)).take 0 ++ List.replicate (y.blocks.length - 0) false)).toArray]) (fun _ h => by
      have e1 : (ints .i64 ((List.replicate y.blocks.length y.pages).take 0 ++ List.replicate (y.blocks.length - 0) 0)).toArray = (List.replicate y.blocks.length (Value.int .i64 0)).toArray := by simp [ints]
      have e2 : (bools ((y.blocks.map (·.marked)).take 0 ++ List.replicate (y.blocks.length - 0) false)).toArray = (List.replicate y.blocks.length (Value.bool false)).toArray := by simp [bools]
      rw [e1, e2]
      exact h.pick [0, 0, 0] rfl) ?_
    refine CW.reg [0, 1, 2, 3, 4, 5] rfl ?_
    refine s_mv 25 rfl rfl ?_
    refine s_nil 26 rfl rfl ?_
    refine s_fa 27 rfl rfl ?_
    refine s_ldB 28 0 rfl rfl rfl (v := .slice (some ⟨gN, 0, none⟩) y.blocks.length y.blocks.length) rfl ?_
    refine s_len 29 rfl rfl ?_
    refine s_mv 30 rfl rfl ?_
    refine SX.next ?_
    refine CW.block ?_
    refine CW.loop (G := Nat) (fun i => [(0, .pointer (some ⟨cb, 0, none⟩)), (4, .int .i64 y.pages), (7, .pointer (some ⟨g, 0, none⟩)), (29, .int .i64 (y.blocks.length : Nat)), (30, .int .i64 (i : Nat))]) (fun i => Sto w [blk g 134 #[.pointer (some ⟨cb, 0, none⟩), .int .i64 y.pages, .int .i64 y.size, .slice (some ⟨gN, 0, none⟩) y.blocks.length y.blocks.length, .slice (some ⟨gB, 0, none⟩) y.blocks.length y.blocks.length, .int .i64 0, .int .i64 0, .int .i64 0], blk gN 3 (ints .i64 ((List.replicate y.blocks.length y.pages).take i ++ List.replicate (y.blocks.length - i) 0)).toArray, blk gB 4 (bools ((y.blocks.map (·.marked)).take i ++ List.replicate (y.blocks.length - i) false)).toArray]) (fun i => i ≤ y.blocks.length) (fun i => y.blocks.length - i) 0 ⟨rfl, rfl, rfl, rfl, rfl, trivial⟩ (fun _ h => h) (Nat.zero_le _) ?_
    intro i hi
    refine CW.seq ?_
    refine CW.reg [0] rfl ?_
    refine s_lt 31 rfl rfl rfl rfl ?_
    refine SX.next ?_
    refine CW.seq ?_
    refine CW.test rfl (fun hc => ?_) (fun hc => ?_)
    · skip
      have hil : i < y.blocks.length := by omega
      have hml : (y.blocks.map (·.marked)).length = y.blocks.length := List.length_map ..
      have hrl : (List.replicate y.blocks.length y.pages).length = y.blocks.length := List.length_replicate
      have hns : (ints .i64 ((List.replicate y.blocks.length y.pages).take i ++ List.replicate (y.blocks.length - i) 0)).toArray.size = y.blocks.length := by simp [ints]; omega
      have hbs : (bools ((y.blocks.map (·.marked)).take i ++ List.replicate (y.blocks.length - i) false)).toArray.size = y.blocks.length := by simp [bools]; omega
      refine CW.skip ?_
      refine KN.code ?_
      refine CW.seq ?_
      refine CW.block ?_
      refine CW.seq ?_
      refine CW.reg [0, 1] rfl ?_
      refine s_mv 32 rfl rfl ?_
      refine s_as 8 rfl rfl ?_
      refine SX.next ?_
      refine CW.regD (.st true 0 (.st true 1 (.st true 2 (.st true 3 (.st true 4 (.st true 5 (.st true 6 (.st true 7 (.st true 8 (.st true 9 (.st true 10 (.st true 11 (.st true 12 (.st false 13 (.st true 14 (.st false 15 (.st true 16 (.st false 17 .done)))))))))))))))))) (Sto w [blk g 134 #[.pointer (some ⟨cb, 0, none⟩), .int .i64 y.pages, .int .i64 y.size, .slice (some ⟨gN, 0, none⟩) y.blocks.length y.blocks.length, .slice (some ⟨gB, 0, none⟩) y.blocks.length y.blocks.length, .int .i64 0, .int .i64 0, .int .i64 0]]) mixed (by kernel_rfl) (fun _ h => h.drew) (fun _ h => h.pick [0] rfl) ?_
      refine s_mv 33 rfl rfl ?_
      refine s_nil 34 rfl rfl ?_
      refine s_fa 35 rfl rfl ?_
      refine s_ldS 36 rfl rfl (v := .slice (some ⟨gN, 0, none⟩) y.blocks.length y.blocks.length) (fun _ hw => hw.blkCell (i := 0) (j := 3) rfl rfl) ?_
      refine s_mv 37 rfl rfl ?_
      refine s_mv 38 rfl rfl ?_
      refine s_nil 39 rfl rfl ?_
      refine s_fa 40 rfl rfl ?_
      refine s_ldS 41 rfl rfl (v := .slice (some ⟨gB, 0, none⟩) y.blocks.length y.blocks.length) (fun _ hw => hw.blkCell (i := 0) (j := 4) rfl rfl) ?_
      refine s_mv 42 rfl rfl ?_
      refine s_mv 43 rfl rfl ?_
      refine s_mv 44 rfl rfl ?_
      refine s_mv 45 rfl rfl ?_
      refine s_call1 46 rfl rfl rfl rfl (v := .bool ((y.blocks.map (·.marked)).getD i false)) (fun w hw => by have := marked_spec cb y (i : Nat) w (hw.old hch); rw [mark_at hil] at this; exact this) (fun _ h => h.pick [0] rfl) ?_
      refine s_ia0 47 i rfl rfl rfl rfl hil ?_
      refine s_stB 1 rfl rfl rfl rfl rfl (by rw [hns]; exact hil) (fun _ h => h.pick [0] rfl) ?_
      refine s_ia0 48 i rfl rfl rfl rfl hil ?_
      refine s_stB 2 rfl rfl rfl rfl rfl (by rw [hbs]; exact hil) (fun _ h => h.pick [0] rfl) ?_
      refine SX.end_ ?_
      refine KN.blk ?_
      refine KN.code ?_
      refine CW.reg [0, 1] rfl ?_
      refine s_add 49 rfl rfl rfl (r := ((i + 1 : Nat) : Int)) (w64 (by omega)) ?_
      refine s_mv 30 rfl rfl ?_
      refine SX.end_ ?_
      exact KN.back (i + 1) ⟨rfl, rfl, rfl, rfl, rfl, trivial⟩ (fun _ h => by
        have e1 : (ints .i64 ((List.replicate y.blocks.length y.pages).take (i + 1) ++ List.replicate (y.blocks.length - (i + 1)) 0)).toArray = (ints .i64 ((List.replicate y.blocks.length y.pages).take i ++ List.replicate (y.blocks.length - i) 0)).toArray.setIfInBounds i (.int .i64 y.pages) := by
          have h1 := take_set (l := List.replicate y.blocks.length y.pages) (i := i) (by omega) 0 y.pages
          rw [List.length_replicate, List.getD_eq_getElem?_getD, List.getElem?_replicate, if_pos hil] at h1
          rw [List.setIfInBounds_toArray, intsSet]
          exact congrArg (fun t => (ints .i64 t).toArray) h1.symm
        have e2 : (bools ((y.blocks.map (·.marked)).take (i + 1) ++ List.replicate (y.blocks.length - (i + 1)) false)).toArray = (bools ((y.blocks.map (·.marked)).take i ++ List.replicate (y.blocks.length - i) false)).toArray.setIfInBounds i (.bool ((y.blocks.map (·.marked)).getD i false)) := by
          have h1 := take_set (l := y.blocks.map (·.marked)) (i := i) (by omega) false false
          rw [hml] at h1
          rw [List.setIfInBounds_toArray, bools_set]
          exact congrArg (fun t => (bools t).toArray) h1.symm
        rw [e1, e2]
        exact h) (by omega) (by omega)
    · skip
      obtain rfl : i = y.blocks.length := by omega
      refine CW.exit rfl ?_
      refine KN.code ?_
      refine CW.seq ?_
      refine CW.reg [0, 1] rfl ?_
      refine s_mv 50 rfl rfl ?_
      refine s_as 2 rfl rfl ?_
      refine SX.next ?_
      refine CW.ret ?_
      exact KN.ret (rs := [.tmp 2]) Tryd.results42 rfl (fun w_ hw => ⟨(g, (⟨cb, y.pages, y.size, some ⟨gN, 0, none⟩, y.blocks.length, List.replicate y.blocks.length y.pages, some ⟨gB, 0, none⟩, y.blocks.length, y.blocks.map (·.marked), 0, 0, 0⟩ : DrG)), rfl, ⟨by unfold DrG.abs drNew0 ChG.abs; simp only [List.length_map, List.map_map]; rfl, ⟨rfl, rfl, rfl, by simp only [List.length_map, List.length_replicate]⟩⟩, by
        have e1 : ((List.replicate y.blocks.length y.pages).take y.blocks.length ++ List.replicate (y.blocks.length - y.blocks.length) 0) = List.replicate y.blocks.length y.pages := by rw [List.take_of_length_le (by simp), Nat.sub_self, List.replicate_zero, List.append_nil]
        have e2 : ((y.blocks.map (·.marked)).take y.blocks.length ++ List.replicate (y.blocks.length - y.blocks.length) false) = y.blocks.map (·.marked) := by rw [List.take_of_length_le (by simp), Nat.sub_self, List.replicate_zero, List.append_nil]
        rw [e1, e2] at hw
        have h1 := hw.blkOwnM (q := 1) (m := y.blocks.length) (c := y.blocks.length) (sz := 1) rfl (by simp [ints]) (Nat.le_refl _) (by unfold maxLen; omega)
        have h2 := h1.blkOwnM (q := 2) (m := y.blocks.length) (c := y.blocks.length) (sz := 1) rfl (by simp [bools]) (Nat.le_refl _) (by unfold maxLen; omega)
        rw [List.take_of_length_le (by simp [ints]), List.take_of_length_le (by simp [bools])] at h2
        refine St.driveC ?_
        unfold DrG.hd DrG.cells DrG.nxA DrG.bdA
        simp only [List.length_map, List.length_replicate]
        exact h2⟩)

def light15B (l : List DldG) (pl : List FtG) (n : Nat) : Bool := l.all (fun d => decide (d.l.length ≤ 100)) && pl.all (fun f => decide (f.bits.length ≤ 50)) && (decide (l.length ≤ 60) && decide (pl.length ≤ 60) && decide (n ≤ 8))

theorem light15_fin {l : List DldG} {pl : List FtG} {n : Nat} (h1 : l.all (fun d => decide (d.l.length ≤ 100)) = true ∨ 60 < l.length) (h2 : pl.all (fun f => decide (f.bits.length ≤ 50)) = true ∨ 60 < pl.length) : light15B l pl n = (decide (l.length ≤ 60) && decide (pl.length ≤ 60) && decide (n ≤ 8)) := by
  unfold light15B
  rcases h1 with h1 | h1
  · rcases h2 with h2 | h2
    · rw [h1, h2]; rfl
    · rw [decide_eq_false (show ¬ pl.length ≤ 60 by omega)]; simp
  · rw [decide_eq_false (show ¬ l.length ≤ 60 by omega)]; simp
theorem light15_in {l : List DldG} {pl : List FtG} {n : Nat} (h : light15B l pl n = true) : l.length ≤ 60 ∧ pl.length ≤ 60 ∧ n ≤ 8 ∧ (∀ d ∈ l, d.l.length ≤ 100) ∧ ∀ f ∈ pl, f.bits.length ≤ 50 := by
  unfold light15B at h
  simp only [Bool.and_eq_true, List.all_eq_true, decide_eq_true_iff] at h
  exact ⟨h.2.1.1, h.2.1.2, h.2.2, h.1.1, h.1.2⟩

theorem light15_spec (A : Option Addr) (c : Nat) (l : List DldG) (B : Option Addr) (d : Nat) (pl : List FtG) (D : Option Addr) (n q : Nat) (w : World) (hl : DellIn A l w) (hp : PlRaw B pl w) : Spec1 Tryd.prog 48 [.slice A l.length c, .slice B pl.length d, .slice D n q] w (.bool (light15B l pl n)) := by
  refine spec_of Tryd.func48 rfl Tryd.ntmps48 rfl ?_
  refine CW.seq ?_
  refine CW.reg [0] rfl ?_
  refine s_as 6 rfl rfl ?_
  refine SX.next ?_
  refine CW.seq ?_
  refine CW.seq ?_
  refine CW.reg [0] rfl ?_
  refine s_as 7 rfl rfl ?_
  refine SX.next ?_
  refine CW.block ?_
  refine CW.loop (G := Nat) (fun i => [(0, .slice A l.length c), (1, .slice B pl.length d), (2, .slice D n q), (7, .int .i64 (i : Nat))]) (fun _ => Sto w []) (fun i => i ≤ l.length ∧ (l.take i).all (fun d => decide (d.l.length ≤ 100)) = true) (fun i => l.length - i) 0 ⟨rfl, rfl, rfl, rfl, trivial⟩ (fun _ h => h) ⟨Nat.zero_le _, rfl⟩ ?_
  rintro i ⟨hi, hal⟩
  refine CW.seq ?_
  refine CW.seq ?_
  refine CW.reg [0, 1, 2, 3, 4, 5, 6, 7] rfl ?_
  refine s_mv 9 rfl rfl ?_
  refine s_mv 10 rfl rfl ?_
  refine s_len 11 rfl rfl ?_
  refine s_lt 12 rfl rfl rfl rfl ?_
  refine s_mv 13 rfl rfl ?_
  refine SX.bool 13 rfl (fun hb => ?_) (fun hb => ?_)
  · skip
    have h1 := of_decide_eq_true hb
    refine s_mv 14 rfl rfl ?_
    refine s_le 15 rfl rfl rfl rfl ?_
    refine s_pickT 16 rfl rfl rfl ?_
    refine SX.next ?_
    refine CW.test rfl (fun h2 => ?_) (fun h2 => ?_)
    · skip
      have hil : i < l.length := by omega
      have hg := gD_at hil
      refine CW.skip ?_
      refine KN.code ?_
      refine CW.seq ?_
      refine CW.block ?_
      refine CW.seq ?_
      refine CW.reg [0, 1, 2, 3, 4, 5, 6] rfl ?_
      refine s_mv 19 rfl rfl ?_
      refine s_mv 20 rfl rfl ?_
      refine s_iaV 21 i (fun w hw => hw.old hl.rows) rfl rfl rfl rfl hil ?_
      refine s_fa 22 rfl rfl ?_
      refine s_ld 23 rfl rfl (v := .slice (gD l i).A (gD l i).l.length (gD l i).c) (fun _ hw => (hw.old hl.rows).rowAt dlRow_len hg (by omega) 4 _ rfl) ?_
      refine s_len 24 rfl rfl ?_
      refine s_gt 25 rfl rfl rfl rfl ?_
      refine SX.next ?_
      refine CW.test rfl (fun hbig => ?_) (fun hbig => ?_)
      · skip
        have hz : light15B l pl n = false := by
          unfold light15B
          rw [List.all_eq_false.2 ⟨_, gD_mem hil, by rw [decide_eq_false (by omega)]; decide⟩]
          rfl
        refine CW.seq ?_
        refine CW.reg [0] rfl ?_
        refine s_as 6 rfl rfl ?_
        refine SX.next ?_
        refine CW.ret ?_
        exact KN.ret (rs := [.tmp 6]) Tryd.results48 rfl (fun w hw => ⟨by first
            | (rw [hz]; rfl)
            | (have hv := light15_fin (n := n) hj hj2; rw [hv]; simp only [oneOf]; congr 2; first | (rw [show decide (l.length ≤ 60) = true from decide_eq_true (by omega), show decide (pl.length ≤ 60) = true from decide_eq_true (by omega), Bool.true_and, Bool.true_and]; exact decide_eq_decide.2 (by omega)) | (rw [show decide (l.length ≤ 60) = true from decide_eq_true (by omega), show decide (pl.length ≤ 60) = false from decide_eq_false (by omega)]; rfl) | (rw [show decide (l.length ≤ 60) = false from decide_eq_false (by omega)]; rfl)), hw.nothing⟩)
      · skip
        refine CW.skip ?_
        refine KN.blk ?_
        refine KN.code ?_
        refine CW.reg [0, 1, 2] rfl ?_
        refine s_mv 17 rfl rfl ?_
        refine s_add 18 rfl rfl rfl (r := ((i + 1 : Nat) : Int)) (w64 (by omega)) ?_
        refine s_as 7 rfl rfl ?_
        refine SX.end_ ?_
        exact KN.back (i + 1) ⟨rfl, rfl, rfl, rfl, trivial⟩ (fun _ h => h) ⟨by omega, by rw [List.take_add_one, hg, List.all_append, hal]; simp; omega⟩ (by omega)
    · skip
      have hj : (l.all (fun d => decide (d.l.length ≤ 100)) = true ∨ 60 < l.length) := .inr (by omega)
      refine CW.exit rfl ?_
      refine KN.code ?_
      refine CW.seq ?_
      refine CW.seq ?_
      refine CW.reg [0] rfl ?_
      refine s_as 8 rfl rfl ?_
      refine SX.next ?_
      refine CW.block ?_
      refine CW.loop (G := Nat) (fun i => [(0, .slice A l.length c), (1, .slice B pl.length d), (2, .slice D n q), (8, .int .i64 (i : Nat))]) (fun _ => Sto w []) (fun i => i ≤ pl.length ∧ (pl.take i).all (fun f => decide (f.bits.length ≤ 50)) = true) (fun i => pl.length - i) 0 ⟨rfl, rfl, rfl, rfl, trivial⟩ (fun _ h => h) ⟨Nat.zero_le _, rfl⟩ ?_
      rintro i ⟨hi, hal2⟩
      refine CW.seq ?_
      refine CW.seq ?_
      refine CW.reg [0, 1, 2, 3, 4, 5, 6, 7] rfl ?_
      refine s_mv 26 rfl rfl ?_
      refine s_mv 27 rfl rfl ?_
      refine s_len 28 rfl rfl ?_
      refine s_lt 29 rfl rfl rfl rfl ?_
      refine s_mv 30 rfl rfl ?_
      refine SX.bool 30 rfl (fun hb => ?_) (fun hb => ?_)
      · skip
        have h1 := of_decide_eq_true hb
        refine s_mv 31 rfl rfl ?_
        refine s_le 32 rfl rfl rfl rfl ?_
        refine s_pickT 33 rfl rfl rfl ?_
        refine SX.next ?_
        refine CW.test rfl (fun h2 => ?_) (fun h2 => ?_)
        · skip
          have hil : i < pl.length := by omega
          have hg := gF_at hil
          refine CW.skip ?_
          refine KN.code ?_
          refine CW.seq ?_
          refine CW.block ?_
          refine CW.seq ?_
          refine CW.reg [0, 1, 2, 3, 4, 5, 6] rfl ?_
          refine s_mv 36 rfl rfl ?_
          refine s_mv 37 rfl rfl ?_
          refine s_iaV 38 i (fun w hw => hw.old hp.rows) rfl rfl rfl rfl hil ?_
          refine s_fa 39 rfl rfl ?_
          refine s_ld 40 rfl rfl (v := .slice (gF pl i).A (gF pl i).bits.length (gF pl i).c) (fun _ hw => (hw.old hp.rows).rowAt ftRow_len hg (by omega) 4 _ rfl) ?_
          refine s_len 41 rfl rfl ?_
          refine s_gt 42 rfl rfl rfl rfl ?_
          refine SX.next ?_
          refine CW.test rfl (fun hbig => ?_) (fun hbig => ?_)
          · skip
            have hz : light15B l pl n = false := by
              unfold light15B
              rw [List.all_eq_false (l := pl) |>.2 ⟨_, gF_mem hil, by rw [decide_eq_false (by omega)]; decide⟩, Bool.and_false]
              rfl
            refine CW.seq ?_
            refine CW.reg [0] rfl ?_
            refine s_as 6 rfl rfl ?_
            refine SX.next ?_
            refine CW.ret ?_
            exact KN.ret (rs := [.tmp 6]) Tryd.results48 rfl (fun w hw => ⟨by first
                | (rw [hz]; rfl)
                | (have hv := light15_fin (n := n) hj hj2; rw [hv]; simp only [oneOf]; congr 2; first | (rw [show decide (l.length ≤ 60) = true from decide_eq_true (by omega), show decide (pl.length ≤ 60) = true from decide_eq_true (by omega), Bool.true_and, Bool.true_and]; exact decide_eq_decide.2 (by omega)) | (rw [show decide (l.length ≤ 60) = true from decide_eq_true (by omega), show decide (pl.length ≤ 60) = false from decide_eq_false (by omega)]; rfl) | (rw [show decide (l.length ≤ 60) = false from decide_eq_false (by omega)]; rfl)), hw.nothing⟩)
          · skip
            refine CW.skip ?_
            refine KN.blk ?_
            refine KN.code ?_
            refine CW.reg [0, 1, 2] rfl ?_
            refine s_mv 34 rfl rfl ?_
            refine s_add 35 rfl rfl rfl (r := ((i + 1 : Nat) : Int)) (w64 (by omega)) ?_
            refine s_as 8 rfl rfl ?_
            refine SX.end_ ?_
            exact KN.back (i + 1) ⟨rfl, rfl, rfl, rfl, trivial⟩ (fun _ h => h) ⟨by omega, by rw [List.take_add_one, hg, List.all_append, hal2]; simp; omega⟩ (by omega)
        · skip
          have hj2 : (pl.all (fun f => decide (f.bits.length ≤ 50)) = true ∨ 60 < pl.length) := .inr (by omega)
          refine CW.exit rfl ?_
          refine KN.code ?_
          refine CW.seq ?_
          refine CW.reg [0, 1, 2, 3, 4, 5, 6, 7, 8, 9, 10, 11, 12, 13] rfl ?_
          refine s_mv 43 rfl rfl ?_
          refine s_len 44 rfl rfl ?_
          refine s_le 45 rfl rfl rfl rfl ?_
          refine s_mv 46 rfl rfl ?_
          refine SX.bool 46 rfl (fun hb => ?_) (fun hb => ?_)
          · skip
            have h60 := of_decide_eq_true hb
            refine s_mv 47 rfl rfl ?_
            refine s_len 48 rfl rfl ?_
            refine s_le 49 rfl rfl rfl rfl ?_
            refine s_pickT 50 rfl rfl rfl ?_
            refine s_mv 51 rfl rfl ?_
            refine SX.bool 51 rfl (fun hb => ?_) (fun hb => ?_)
            · skip
              have hq60 := of_decide_eq_true hb
              refine s_mv 52 rfl rfl ?_
              refine s_len 53 rfl rfl ?_
              refine s_le 54 rfl rfl rfl rfl ?_
              refine s_pickT 55 rfl rfl rfl ?_
              refine s_as 6 rfl rfl ?_
              refine SX.next ?_
              refine CW.ret ?_
              exact KN.ret (rs := [.tmp 6]) Tryd.results48 rfl (fun w hw => ⟨by first
                  | (rw [hz]; rfl)
                  | (have hv := light15_fin (n := n) hj hj2; rw [hv]; simp only [oneOf]; congr 2; first | (rw [show decide (l.length ≤ 60) = true from decide_eq_true (by omega), show decide (pl.length ≤ 60) = true from decide_eq_true (by omega), Bool.true_and, Bool.true_and]; exact decide_eq_decide.2 (by omega)) | (rw [show decide (l.length ≤ 60) = true from decide_eq_true (by omega), show decide (pl.length ≤ 60) = false from decide_eq_false (by omega)]; rfl) | (rw [show decide (l.length ≤ 60) = false from decide_eq_false (by omega)]; rfl)), hw.nothing⟩)
            · skip
              have hq60 := of_decide_eq_false hb
              refine SX.skip rfl ?_
              refine SX.skip rfl ?_
              refine SX.skip rfl ?_
              refine s_pickF 55 rfl rfl rfl ?_
              refine s_as 6 rfl rfl ?_
              refine SX.next ?_
              refine CW.ret ?_
              exact KN.ret (rs := [.tmp 6]) Tryd.results48 rfl (fun w hw => ⟨by first
                  | (rw [hz]; rfl)
                  | (have hv := light15_fin (n := n) hj hj2; rw [hv]; simp only [oneOf]; congr 2; first | (rw [show decide (l.length ≤ 60) = true from decide_eq_true (by omega), show decide (pl.length ≤ 60) = true from decide_eq_true (by omega), Bool.true_and, Bool.true_and]; exact decide_eq_decide.2 (by omega)) | (rw [show decide (l.length ≤ 60) = true from decide_eq_true (by omega), show decide (pl.length ≤ 60) = false from decide_eq_false (by omega)]; rfl) | (rw [show decide (l.length ≤ 60) = false from decide_eq_false (by omega)]; rfl)), hw.nothing⟩)
          · skip
            have h60 := of_decide_eq_false hb
            refine SX.skip rfl ?_
            refine SX.skip rfl ?_
            refine SX.skip rfl ?_
            refine s_pickF 50 rfl rfl rfl ?_
            refine s_mv 51 rfl rfl ?_
            refine SX.skip rfl ?_
            refine SX.skip rfl ?_
            refine SX.skip rfl ?_
            refine s_pickF 55 rfl rfl rfl ?_
            refine s_as 6 rfl rfl ?_
            refine SX.next ?_
            refine CW.ret ?_
            exact KN.ret (rs := [.tmp 6]) Tryd.results48 rfl (fun w hw => ⟨by first
                | (rw [hz]; rfl)
                | (have hv := light15_fin (n := n) hj hj2; rw [hv]; simp only [oneOf]; congr 2; first | (rw [show decide (l.length ≤ 60) = true from decide_eq_true (by omega), show decide (pl.length ≤ 60) = true from decide_eq_true (by omega), Bool.true_and, Bool.true_and]; exact decide_eq_decide.2 (by omega)) | (rw [show decide (l.length ≤ 60) = true from decide_eq_true (by omega), show decide (pl.length ≤ 60) = false from decide_eq_false (by omega)]; rfl) | (rw [show decide (l.length ≤ 60) = false from decide_eq_false (by omega)]; rfl)), hw.nothing⟩)
      · skip
        have h1 := of_decide_eq_false hb
        obtain rfl : i = pl.length := by omega
        have hj2 : (pl.all (fun f => decide (f.bits.length ≤ 50)) = true ∨ 60 < pl.length) := .inl (by rw [List.take_length] at hal2; exact hal2)
        refine SX.skip rfl ?_
        refine SX.skip rfl ?_
        refine s_pickF 33 rfl rfl rfl ?_
        refine SX.next ?_
        refine CW.condF rfl ?_
        refine CW.exit rfl ?_
        refine KN.code ?_
        refine CW.seq ?_
        refine CW.reg [0, 1, 2, 3, 4, 5, 6, 7, 8, 9, 10, 11, 12, 13] rfl ?_
        refine s_mv 43 rfl rfl ?_
        refine s_len 44 rfl rfl ?_
        refine s_le 45 rfl rfl rfl rfl ?_
        refine s_mv 46 rfl rfl ?_
        refine SX.bool 46 rfl (fun hb => ?_) (fun hb => ?_)
        · skip
          have h60 := of_decide_eq_true hb
          refine s_mv 47 rfl rfl ?_
          refine s_len 48 rfl rfl ?_
          refine s_le 49 rfl rfl rfl rfl ?_
          refine s_pickT 50 rfl rfl rfl ?_
          refine s_mv 51 rfl rfl ?_
          refine SX.bool 51 rfl (fun hb => ?_) (fun hb => ?_)
          · skip
            have hq60 := of_decide_eq_true hb
            refine s_mv 52 rfl rfl ?_
            refine s_len 53 rfl rfl ?_
            refine s_le 54 rfl rfl rfl rfl ?_
            refine s_pickT 55 rfl rfl rfl ?_
            refine s_as 6 rfl rfl ?_
            refine SX.next ?_
            refine CW.ret ?_
            exact KN.ret (rs := [.tmp 6]) Tryd.results48 rfl (fun w hw => ⟨by first
                | (rw [hz]; rfl)
                | (have hv := light15_fin (n := n) hj hj2; rw [hv]; simp only [oneOf]; congr 2; first | (rw [show decide (l.length ≤ 60) = true from decide_eq_true (by omega), show decide (pl.length ≤ 60) = true from decide_eq_true (by omega), Bool.true_and, Bool.true_and]; exact decide_eq_decide.2 (by omega)) | (rw [show decide (l.length ≤ 60) = true from decide_eq_true (by omega), show decide (pl.length ≤ 60) = false from decide_eq_false (by omega)]; rfl) | (rw [show decide (l.length ≤ 60) = false from decide_eq_false (by omega)]; rfl)), hw.nothing⟩)
          · skip
            have hq60 := of_decide_eq_false hb
            refine SX.skip rfl ?_
            refine SX.skip rfl ?_
            refine SX.skip rfl ?_
            refine s_pickF 55 rfl rfl rfl ?_
            refine s_as 6 rfl rfl ?_
            refine SX.next ?_
            refine CW.ret ?_
            exact KN.ret (rs := [.tmp 6]) Tryd.results48 rfl (fun w hw => ⟨by first
                | (rw [hz]; rfl)
                | (have hv := light15_fin (n := n) hj hj2; rw [hv]; simp only [oneOf]; congr 2; first | (rw [show decide (l.length ≤ 60) = true from decide_eq_true (by omega), show decide (pl.length ≤ 60) = true from decide_eq_true (by omega), Bool.true_and, Bool.true_and]; exact decide_eq_decide.2 (by omega)) | (rw [show decide (l.length ≤ 60) = true from decide_eq_true (by omega), show decide (pl.length ≤ 60) = false from decide_eq_false (by omega)]; rfl) | (rw [show decide (l.length ≤ 60) = false from decide_eq_false (by omega)]; rfl)), hw.nothing⟩)
        · skip
          have h60 := of_decide_eq_false hb
          refine SX.skip rfl ?_
          refine SX.skip rfl ?_
          refine SX.skip rfl ?_
          refine s_pickF 50 rfl rfl rfl ?_
          refine s_mv 51 rfl rfl ?_
          refine SX.skip rfl ?_
          refine SX.skip rfl ?_
          refine SX.skip rfl ?_
          refine s_pickF 55 rfl rfl rfl ?_
          refine s_as 6 rfl rfl ?_
          refine SX.next ?_
          refine CW.ret ?_
          exact KN.ret (rs := [.tmp 6]) Tryd.results48 rfl (fun w hw => ⟨by first
              | (rw [hz]; rfl)
              | (have hv := light15_fin (n := n) hj hj2; rw [hv]; simp only [oneOf]; congr 2; first | (rw [show decide (l.length ≤ 60) = true from decide_eq_true (by omega), show decide (pl.length ≤ 60) = true from decide_eq_true (by omega), Bool.true_and, Bool.true_and]; exact decide_eq_decide.2 (by omega)) | (rw [show decide (l.length ≤ 60) = true from decide_eq_true (by omega), show decide (pl.length ≤ 60) = false from decide_eq_false (by omega)]; rfl) | (rw [show decide (l.length ≤ 60) = false from decide_eq_false (by omega)]; rfl)), hw.nothing⟩)
  · skip
    have h1 := of_decide_eq_false hb
    obtain rfl : i = l.length := by omega
    have hj : (l.all (fun d => decide (d.l.length ≤ 100)) = true ∨ 60 < l.length) := .inl (by rw [List.take_length] at hal; exact hal)
    refine SX.skip rfl ?_
    refine SX.skip rfl ?_
    refine s_pickF 16 rfl rfl rfl ?_
    refine SX.next ?_
    refine CW.condF rfl ?_
    refine CW.exit rfl ?_
    refine KN.code ?_
    refine CW.seq ?_
    refine CW.seq ?_
    refine CW.reg [0] rfl ?_
    refine s_as 8 rfl rfl ?_
    refine SX.next ?_
    refine CW.block ?_
    refine CW.loop (G := Nat) (fun i => [(0, .slice A l.length c), (1, .slice B pl.length d), (2, .slice D n q), (8, .int .i64 (i : Nat))]) (fun _ => Sto w []) (fun i => i ≤ pl.length ∧ (pl.take i).all (fun f => decide (f.bits.length ≤ 50)) = true) (fun i => pl.length - i) 0 ⟨rfl, rfl, rfl, rfl, trivial⟩ (fun _ h => h) ⟨Nat.zero_le _, rfl⟩ ?_
    rintro i ⟨hi, hal2⟩
    refine CW.seq ?_
    refine CW.seq ?_
    refine CW.reg [0, 1, 2, 3, 4, 5, 6, 7] rfl ?_
    refine s_mv 26 rfl rfl ?_
    refine s_mv 27 rfl rfl ?_
    refine s_len 28 rfl rfl ?_
    refine s_lt 29 rfl rfl rfl rfl ?_
    refine s_mv 30 rfl rfl ?_
    refine SX.bool 30 rfl (fun hb => ?_) (fun hb => ?_)
    · skip
      have h1 := of_decide_eq_true hb
      refine s_mv 31 rfl rfl ?_
      refine s_le 32 rfl rfl rfl rfl ?_
      refine s_pickT 33 rfl rfl rfl ?_
      refine SX.next ?_
      refine CW.test rfl (fun h2 => ?_) (fun h2 => ?_)
      · skip
        have hil : i < pl.length := by omega
        have hg := gF_at hil
        refine CW.skip ?_
        refine KN.code ?_
        refine CW.seq ?_
        refine CW.block ?_
        refine CW.seq ?_
        refine CW.reg [0, 1, 2, 3, 4, 5, 6] rfl ?_
        refine s_mv 36 rfl rfl ?_
        refine s_mv 37 rfl rfl ?_
        refine s_iaV 38 i (fun w hw => hw.old hp.rows) rfl rfl rfl rfl hil ?_
        refine s_fa 39 rfl rfl ?_
        refine s_ld 40 rfl rfl (v := .slice (gF pl i).A (gF pl i).bits.length (gF pl i).c) (fun _ hw => (hw.old hp.rows).rowAt ftRow_len hg (by omega) 4 _ rfl) ?_
        refine s_len 41 rfl rfl ?_
        refine s_gt 42 rfl rfl rfl rfl ?_
        refine SX.next ?_
        refine CW.test rfl (fun hbig => ?_) (fun hbig => ?_)
        · skip
          have hz : light15B l pl n = false := by
            unfold light15B
            rw [List.all_eq_false (l := pl) |>.2 ⟨_, gF_mem hil, by rw [decide_eq_false (by omega)]; decide⟩, Bool.and_false]
            rfl
          refine CW.seq ?_
          refine CW.reg [0] rfl ?_
          refine s_as 6 rfl rfl ?_
          refine SX.next ?_
          refine CW.ret ?_
          exact KN.ret (rs := [.tmp 6]) Tryd.results48 rfl (fun w hw => ⟨by first
              | (rw [hz]; rfl)
              | (have hv := light15_fin (n := n) hj hj2; rw [hv]; simp only [oneOf]; congr 2; first | (rw [show decide (l.length ≤ 60) = true from decide_eq_true (by omega), show decide (pl.length ≤ 60) = true from decide_eq_true (by omega), Bool.true_and, Bool.true_and]; exact decide_eq_decide.2 (by omega)) | (rw [show decide (l.length ≤ 60) = true from decide_eq_true (by omega), show decide (pl.length ≤ 60) = false from decide_eq_false (by omega)]; rfl) | (rw [show decide (l.length ≤ 60) = false from decide_eq_false (by omega)]; rfl)), hw.nothing⟩)
        · skip
          refine CW.skip ?_
          refine KN.blk ?_
          refine KN.code ?_
          refine CW.reg [0, 1, 2] rfl ?_
          refine s_mv 34 rfl rfl ?_
          refine s_add 35 rfl rfl rfl (r := ((i + 1 : Nat) : Int)) (w64 (by omega)) ?_
          refine s_as 8 rfl rfl ?_
          refine SX.end_ ?_
          exact KN.back (i + 1) ⟨rfl, rfl, rfl, rfl, trivial⟩ (fun _ h => h) ⟨by omega, by rw [List.take_add_one, hg, List.all_append, hal2]; simp; omega⟩ (by omega)
      · skip
        have hj2 : (pl.all (fun f => decide (f.bits.length ≤ 50)) = true ∨ 60 < pl.length) := .inr (by omega)
        refine CW.exit rfl ?_
        refine KN.code ?_
        refine CW.seq ?_
        refine CW.reg [0, 1, 2, 3, 4, 5, 6, 7, 8, 9, 10, 11, 12, 13] rfl ?_
        refine s_mv 43 rfl rfl ?_
        refine s_len 44 rfl rfl ?_
        refine s_le 45 rfl rfl rfl rfl ?_
        refine s_mv 46 rfl rfl ?_
        refine SX.bool 46 rfl (fun hb => ?_) (fun hb => ?_)
        · skip
          have h60 := of_decide_eq_true hb
          refine s_mv 47 rfl rfl ?_
          refine s_len 48 rfl rfl ?_
          refine s_le 49 rfl rfl rfl rfl ?_
          refine s_pickT 50 rfl rfl rfl ?_
          refine s_mv 51 rfl rfl ?_
          refine SX.bool 51 rfl (fun hb => ?_) (fun hb => ?_)
          · skip
            have hq60 := of_decide_eq_true hb
            refine s_mv 52 rfl rfl ?_
            refine s_len 53 rfl rfl ?_
            refine s_le 54 rfl rfl rfl rfl ?_
            refine s_pickT 55 rfl rfl rfl ?_
            refine s_as 6 rfl rfl ?_
            refine SX.next ?_
            refine CW.ret ?_
            exact KN.ret (rs := [.tmp 6]) Tryd.results48 rfl (fun w hw => ⟨by first
                | (rw [hz]; rfl)
                | (have hv := light15_fin (n := n) hj hj2; rw [hv]; simp only [oneOf]; congr 2; first | (rw [show decide (l.length ≤ 60) = true from decide_eq_true (by omega), show decide (pl.length ≤ 60) = true from decide_eq_true (by omega), Bool.true_and, Bool.true_and]; exact decide_eq_decide.2 (by omega)) | (rw [show decide (l.length ≤ 60) = true from decide_eq_true (by omega), show decide (pl.length ≤ 60) = false from decide_eq_false (by omega)]; rfl) | (rw [show decide (l.length ≤ 60) = false from decide_eq_false (by omega)]; rfl)), hw.nothing⟩)
          · skip
            have hq60 := of_decide_eq_false hb
            refine SX.skip rfl ?_
            refine SX.skip rfl ?_
            refine SX.skip rfl ?_
            refine s_pickF 55 rfl rfl rfl ?_
            refine s_as 6 rfl rfl ?_
            refine SX.next ?_
            refine CW.ret ?_
            exact KN.ret (rs := [.tmp 6]) Tryd.results48 rfl (fun w hw => ⟨by first
                | (rw [hz]; rfl)
                | (have hv := light15_fin (n := n) hj hj2; rw [hv]; simp only [oneOf]; congr 2; first | (rw [show decide (l.length ≤ 60) = true from decide_eq_true (by omega), show decide (pl.length ≤ 60) = true from decide_eq_true (by omega), Bool.true_and, Bool.true_and]; exact decide_eq_decide.2 (by omega)) | (rw [show decide (l.length ≤ 60) = true from decide_eq_true (by omega), show decide (pl.length ≤ 60) = false from decide_eq_false (by omega)]; rfl) | (rw [show decide (l.length ≤ 60) = false from decide_eq_false (by omega)]; rfl)), hw.nothing⟩)
        · skip
          have h60 := of_decide_eq_false hb
          refine SX.skip rfl ?_
          refine SX.skip rfl ?_
          refine SX.skip rfl ?_
          refine s_pickF 50 rfl rfl rfl ?_
          refine s_mv 51 rfl rfl ?_
          refine SX.skip rfl ?_
          refine SX.skip rfl ?_
          refine SX.skip rfl ?_
          refine s_pickF 55 rfl rfl rfl ?_
          refine s_as 6 rfl rfl ?_
          refine SX.next ?_
          refine CW.ret ?_
          exact KN.ret (rs := [.tmp 6]) Tryd.results48 rfl (fun w hw => ⟨by first
              | (rw [hz]; rfl)
              | (have hv := light15_fin (n := n) hj hj2; rw [hv]; simp only [oneOf]; congr 2; first | (rw [show decide (l.length ≤ 60) = true from decide_eq_true (by omega), show decide (pl.length ≤ 60) = true from decide_eq_true (by omega), Bool.true_and, Bool.true_and]; exact decide_eq_decide.2 (by omega)) | (rw [show decide (l.length ≤ 60) = true from decide_eq_true (by omega), show decide (pl.length ≤ 60) = false from decide_eq_false (by omega)]; rfl) | (rw [show decide (l.length ≤ 60) = false from decide_eq_false (by omega)]; rfl)), hw.nothing⟩)
    · skip
      have h1 := of_decide_eq_false hb
      obtain rfl : i = pl.length := by omega
      have hj2 : (pl.all (fun f => decide (f.bits.length ≤ 50)) = true ∨ 60 < pl.length) := .inl (by rw [List.take_length] at hal2; exact hal2)
      refine SX.skip rfl ?_
      refine SX.skip rfl ?_
      refine s_pickF 33 rfl rfl rfl ?_
      refine SX.next ?_
      refine CW.condF rfl ?_
      refine CW.exit rfl ?_
      refine KN.code ?_
      refine CW.seq ?_
      refine CW.reg [0, 1, 2, 3, 4, 5, 6, 7, 8, 9, 10, 11, 12, 13] rfl ?_
      refine s_mv 43 rfl rfl ?_
      refine s_len 44 rfl rfl ?_
      refine s_le 45 rfl rfl rfl rfl ?_
      refine s_mv 46 rfl rfl ?_
      refine SX.bool 46 rfl (fun hb => ?_) (fun hb => ?_)
      · skip
        have h60 := of_decide_eq_true hb
        refine s_mv 47 rfl rfl ?_
        refine s_len 48 rfl rfl ?_
        refine s_le 49 rfl rfl rfl rfl ?_
        refine s_pickT 50 rfl rfl rfl ?_
        refine s_mv 51 rfl rfl ?_
        refine SX.bool 51 rfl (fun hb => ?_) (fun hb => ?_)
        · skip
          have hq60 := of_decide_eq_true hb
          refine s_mv 52 rfl rfl ?_
          refine s_len 53 rfl rfl ?_
          refine s_le 54 rfl rfl rfl rfl ?_
          refine s_pickT 55 rfl rfl rfl ?_
          refine s_as 6 rfl rfl ?_
          refine SX.next ?_
          refine CW.ret ?_
          exact KN.ret (rs := [.tmp 6]) Tryd.results48 rfl (fun w hw => ⟨by first
              | (rw [hz]; rfl)
              | (have hv := light15_fin (n := n) hj hj2; rw [hv]; simp only [oneOf]; congr 2; first | (rw [show decide (l.length ≤ 60) = true from decide_eq_true (by omega), show decide (pl.length ≤ 60) = true from decide_eq_true (by omega), Bool.true_and, Bool.true_and]; exact decide_eq_decide.2 (by omega)) | (rw [show decide (l.length ≤ 60) = true from decide_eq_true (by omega), show decide (pl.length ≤ 60) = false from decide_eq_false (by omega)]; rfl) | (rw [show decide (l.length ≤ 60) = false from decide_eq_false (by omega)]; rfl)), hw.nothing⟩)
        · skip
          have hq60 := of_decide_eq_false hb
          refine SX.skip rfl ?_
          refine SX.skip rfl ?_
          refine SX.skip rfl ?_
          refine s_pickF 55 rfl rfl rfl ?_
          refine s_as 6 rfl rfl ?_
          refine SX.next ?_
          refine CW.ret ?_
          exact KN.ret (rs := [.tmp 6]) Tryd.results48 rfl (fun w hw => ⟨by first
              | (rw [hz]; rfl)
              | (have hv := light15_fin (n := n) hj hj2; rw [hv]; simp only [oneOf]; congr 2; first | (rw [show decide (l.length ≤ 60) = true from decide_eq_true (by omega), show decide (pl.length ≤ 60) = true from decide_eq_true (by omega), Bool.true_and, Bool.true_and]; exact decide_eq_decide.2 (by omega)) | (rw [show decide (l.length ≤ 60) = true from decide_eq_true (by omega), show decide (pl.length ≤ 60) = false from decide_eq_false (by omega)]; rfl) | (rw [show decide (l.length ≤ 60) = false from decide_eq_false (by omega)]; rfl)), hw.nothing⟩)
      · skip
        have h60 := of_decide_eq_false hb
        refine SX.skip rfl ?_
        refine SX.skip rfl ?_
        refine SX.skip rfl ?_
        refine s_pickF 50 rfl rfl rfl ?_
        refine s_mv 51 rfl rfl ?_
        refine SX.skip rfl ?_
        refine SX.skip rfl ?_
        refine SX.skip rfl ?_
        refine s_pickF 55 rfl rfl rfl ?_
        refine s_as 6 rfl rfl ?_
        refine SX.next ?_
        refine CW.ret ?_
        exact KN.ret (rs := [.tmp 6]) Tryd.results48 rfl (fun w hw => ⟨by first
            | (rw [hz]; rfl)
            | (have hv := light15_fin (n := n) hj hj2; rw [hv]; simp only [oneOf]; congr 2; first | (rw [show decide (l.length ≤ 60) = true from decide_eq_true (by omega), show decide (pl.length ≤ 60) = true from decide_eq_true (by omega), Bool.true_and, Bool.true_and]; exact decide_eq_decide.2 (by omega)) | (rw [show decide (l.length ≤ 60) = true from decide_eq_true (by omega), show decide (pl.length ≤ 60) = false from decide_eq_false (by omega)]; rfl) | (rw [show decide (l.length ≤ 60) = false from decide_eq_false (by omega)]; rfl)), hw.nothing⟩)

def someL (ms : List Int) : List Int := ms.map (fun z => ibit .and .i64 z 3)
theorem some_next {ms : List Int} {i : Nat} (h : i < ms.length) : someL (ms.take (i + 1)) = someL (ms.take i) ++ [ibit .and .i64 (ms.getD i 0) 3] := by
  unfold someL
  rw [List.take_add_one, List.getElem?_eq_getElem h, List.map_append, List.getD_eq_getElem?_getD, List.getElem?_eq_getElem h]
  rfl

theorem some_spec (A : Option Addr) (c : Nat) (ms : List Int) (w : World) (hm : Has (sl 1 A ms.length (ints .i64 ms)) w) (h8 : ms.length ≤ 8) : SpecX Tryd.prog 49 [.slice A ms.length c] w (X := Option Addr × Nat) (fun z => .slice z.1 (someL ms).length z.2) (fun z => (someL ms).length ≤ z.2) (fun z => [own 3 1 z.1 (someL ms).length z.2 (ints .i64 (someL ms))]) := by
  refine spec_of Tryd.func49 rfl Tryd.ntmps49 rfl ?_
  refine CW.seq ?_
  refine CW.reg [0] rfl ?_
  refine s_as 2 rfl rfl ?_
  refine SX.next ?_
  refine CW.seq ?_
  refine CW.pre (fun _ h => h.begin_ 3 1) ?_
  refine CW.reg [0] rfl ?_
  refine s_as 3 rfl rfl ?_
  refine SX.next ?_
  refine CW.seq ?_
  refine CW.seq ?_
  refine CW.reg [0] rfl ?_
  refine s_as 4 rfl rfl ?_
  refine SX.next ?_
  refine CW.block ?_
  refine CW.loop (G := Nat × Option Addr × Nat) (fun q => [(0, .slice A ms.length c), (3, .slice q.2.1 q.1 q.2.2), (4, .int .i64 (q.1 : Nat))]) (fun q => Sto w [own 3 1 q.2.1 q.1 q.2.2 (ints .i64 (someL (ms.take q.1)))]) (fun q => q.1 ≤ ms.length ∧ q.1 ≤ q.2.2) (fun q => ms.length - q.1) (0, none, 0) ⟨rfl, rfl, rfl, trivial⟩ (fun _ h => h) ⟨Nat.zero_le _, Nat.le_refl _⟩ ?_
  rintro ⟨i, O, oc⟩ ⟨hi, hoc⟩
  simp only at hi hoc
  dsimp only
  refine CW.seq ?_
  refine CW.seq ?_
  refine CW.reg [0, 1, 2, 3] rfl ?_
  refine s_mv 5 rfl rfl ?_
  refine s_mv 6 rfl rfl ?_
  refine s_len 7 rfl rfl ?_
  refine s_lt 8 rfl rfl rfl rfl ?_
  refine SX.next ?_
  refine CW.test rfl (fun hc => ?_) (fun hc => ?_)
  · skip
    have hil : i < ms.length := by omega
    refine CW.skip ?_
    refine KN.code ?_
    refine CW.seq ?_
    refine CW.block ?_
    refine CW.reg [0, 1, 2, 3, 4, 5, 6, 7, 8] rfl ?_
    refine s_mv 11 rfl rfl ?_
    refine s_mv 12 rfl rfl ?_
    refine s_mv 13 rfl rfl ?_
    refine s_iaV 14 i (fun w hw => hw.old hm) rfl rfl rfl rfl hil ?_
    refine s_ldV 15 (fun w hw => hw.old hm) rfl rfl (by rw [Nat.mul_one]; exact intsAt hil) (by omega) ?_
    refine s_bit 16 rfl rfl rfl rfl rfl ?_
    refine s_bsl 17 rfl rfl (cells := #[.int .i64 (ibit .and .i64 (ms.getD i 0) 3)]) (by kernel_rfl) rfl (fun _ _ => trivial) (fun gT => ?_)
    refine s_app 18 1 rfl rfl rfl rfl (ys := ints .i64 [ibit .and .i64 (ms.getD i 0) 3]) (fun w hw => Has.cong ((hw.has (i := 0) rfl).blk_sl (m := 1) rfl) rfl) (ints_one _ _) rfl (by omega) (by unfold maxLen; omega) (by omega) (fun _ _ _ _ => trivial) (fun O2 oc2 hoc2 => ?_)
    refine s_as 3 rfl rfl ?_
    refine SX.end_ ?_
    refine KN.blk ?_
    refine KN.code ?_
    refine CW.reg [0, 1, 2] rfl ?_
    refine s_mv 9 rfl rfl ?_
    refine s_add 10 rfl rfl rfl (r := ((i + 1 : Nat) : Int)) (w64 (by omega)) ?_
    refine s_as 4 rfl rfl ?_
    refine SX.end_ ?_
    exact KN.back (i + 1, O2, oc2) ⟨rfl, rfl, rfl, trivial⟩ (fun _ h => by
      have e : ints .i64 (someL (ms.take (i + 1))) = ints .i64 (someL (ms.take i)) ++ ints .i64 [ibit .and .i64 (ms.getD i 0) 3] := by
        rw [some_next hil]
        simp [ints]
      simp only
      rw [e]
      exact h.pick [1] rfl) ⟨by simp only; omega, hoc2⟩ (by simp only; omega)
  · skip
    obtain rfl : i = ms.length := by omega
    rw [List.take_length]
    refine CW.exit rfl ?_
    refine KN.code ?_
    refine CW.seq ?_
    refine CW.reg [0, 1] rfl ?_
    refine s_mv 19 rfl rfl ?_
    refine s_as 2 rfl rfl ?_
    refine SX.next ?_
    refine CW.ret ?_
    exact KN.ret (rs := [.tmp 2]) Tryd.results49 rfl (fun w hw => ⟨(O, oc), by unfold someL; rw [List.length_map]; rfl, by unfold someL; rw [List.length_map]; exact hoc, by unfold someL at *; rw [List.length_map]; exact hw⟩)
end Go.Proofs.YtcapijdokbkgaaaDoor
end
section
/- A chip without faults under a driver: plain. No condition. -/
namespace Go.Proofs.YtcapijdokbkgaaaDoor
open Go Go.Sx
set_option maxRecDepth 100000
theorem clamp_self (z : Nat) : clampN (z : Nat) (z : Nat) = z := by
  unfold clampN
  omega
theorem andTo_z {z : Nat} {l : List Nat} (hl : l.length = z) (h8 : ∀ x ∈ l, x < 256) : andTo z (List.replicate z 255) l = l := by
  apply List.ext_getElem?
  intro j
  rw [andTo_at (by rw [hl, List.length_replicate]; exact Nat.le_refl _), List.getElem?_replicate]
  by_cases hj : j < z
  · rw [if_pos hj, if_pos hj, Option.map_some, and255 (getD_lt8 h8 _), List.getD_eq_getElem?_getD, List.getElem?_eq_getElem (by omega)]
    rfl
  · rw [if_neg hj, if_neg hj, List.getElem?_eq_none (by omega)]
/-- Four blocks of four pages, without faults; in each block the first so many pages are used, the others are fresh. -/
structure Kq (zz vv : Nat) (s : ChS) (nx : List Nat) : Prop where
  ok : s.Ok
  p : s.pages = 4
  z : s.size = (zz : Nat)
  v : s.levels = (vv : Nat)
  b : s.blocks.length = 4
  pl : s.plan = []
  of : s.off = false
  br : s.broken = 0
  nl : nx.length = 4
  le : ∀ b : Nat, b < 4 → nx.getD b 0 ≤ 4
  us : ∀ b k : Nat, b < 4 → k < 4 → (s.pg (b : Nat) (k : Nat)).used = decide (k < nx.getD b 0)
  fr : ∀ b k : Nat, b < 4 → k < 4 → nx.getD b 0 ≤ k → (s.pg (b : Nat) (k : Nat)).cells = List.replicate zz 255
section
variable {z v : Nat} {s : ChS} {nx : List Nat}
theorem Kq.hits (h : Kq z v s nx) : s.hits = [] := by
  unfold ChS.hits
  rw [h.pl]
  rfl
theorem Kq.inn (h : Kq z v s nx) {b k : Nat} (hb : b < 4) (hk : k < 4) : s.inn (b : Nat) (k : Nat) = true := by
  unfold ChS.inn ChS.has
  rw [h.p, h.b, decide_eq_true (by omega), decide_eq_true (by omega)]
  rfl
theorem Kq.has (h : Kq z v s nx) {b : Nat} (hb : b < 4) : s.has (b : Nat) = true := by
  unfold ChS.has
  rw [h.b, decide_eq_true (by omega)]
theorem Kq.lay (h : Kq z v s nx) : layN s.hits s.size = (((z : Nat) : Int), (0 : Int)) := by
  rw [h.hits, h.z]
  rfl
theorem Kq.program (h : Kq z v s nx) {b : Nat} (hb : b < 4) (hn : nx.getD b 0 < 4) {l : List Nat} (hl : l.length = z) (h8 : ∀ x ∈ l, x < 256) :
    (s.pr (b : Nat) (nx.getD b 0 : Nat) l).1 = 0 ∧ Kq z v (s.pr (b : Nat) (nx.getD b 0 : Nat) l).2 (nx.set b (nx.getD b 0 + 1)) ∧ ∀ i k : Nat, i < 4 → k < 4 → ((s.pr (b : Nat) (nx.getD b 0 : Nat) l).2.pg (i : Nat) (k : Nat)).cells = if b = i ∧ nx.getD b 0 = k then l else (s.pg (i : Nat) (k : Nat)).cells := by
  have hin := h.inn hb hn
  have hE : s.prE (b : Nat) (nx.getD b 0 : Nat) l.length = 0 := by
    unfold ChS.prE askC
    rw [h.of, hin, h.z, decide_eq_true (by omega)]
    rfl
  have hbk := (bk_ok h.ok (h.has hb)).1.1
  have hw : wrongAt (s.bk (b : Nat)).pages (nx.getD b 0 : Nat) = false := by
    unfold wrongAt
    rw [List.any_eq_false]
    rintro ⟨q, k⟩ hq
    rw [List.mem_zipIdx_iff_getElem?] at hq
    have hk : k < (s.bk (b : Nat)).pages.length := (List.getElem?_eq_some_iff.1 hq).1
    have hk4 : k < 4 := by rw [h.p] at hbk; omega
    have hu := h.us b k hb hk4
    have e : s.pg (b : Nat) (k : Nat) = q := by
      unfold ChS.pg
      rw [Int.toNat_natCast, List.getD_eq_getElem?_getD]
      exact congrArg (·.getD PgS.nul) hq
    rw [e] at hu
    simp only
    rw [hu]
    by_cases hkn : k < nx.getD b 0
    · rw [decide_eq_true hkn, decide_eq_false (show ¬ ((nx.getD b 0 : Nat) : Int) ≤ (k : Int) by omega)]
      simp
    · rw [decide_eq_false hkn, decide_eq_false (show ¬ ((k : Nat) : Int) < ((nx.getD b 0 : Nat) : Int) by omega)]
      simp
  have hpg : ∀ i k : Nat, i < 4 → k < 4 → (s.pr (b : Nat) (nx.getD b 0 : Nat) l).2.pg (i : Nat) (k : Nat) = if b = i ∧ nx.getD b 0 = k then ⟨l, l, true⟩ else s.pg (i : Nat) (k : Nat) := fun i k hi hk => by
    rw [pr_pg h.ok hE (h.inn hi hk), h.lay, h.hits, h.fr b _ hb hn (Nat.le_refl _), h.z, show clampN (((z : Nat) : Int), (0 : Int)).1 (z : Nat) = z from clamp_self z, show spoils [] l = l from rfl, andTo_z hl h8]
    by_cases e : b = i ∧ nx.getD b 0 = k
    · rw [if_pos e, if_pos ⟨by omega, by omega⟩]
    · rw [if_neg e, if_neg (by omega)]
  have has := pr_as s (b : Nat) (nx.getD b 0 : Nat) l
  have hbn : b < nx.length := by rw [h.nl]; exact hb
  refine ⟨by rw [pr_set hE, h.lay], ⟨pr_okp h.ok _ _ h8, has.p.trans h.p, has.z.trans h.z, has.v.trans h.v, has.b.trans h.b, ?_, ?_, ?_, by rw [List.length_set]; exact h.nl, fun i hi => ?_, fun i k hi hk => ?_, fun i k hi hk hik => ?_⟩, fun i k hi hk => ?_⟩
  · rw [pr_set hE]
    exact h.pl
  · rw [pr_set hE, h.hits]
    rfl
  · rw [pr_set hE]
    show (if wrongAt (s.bk (b : Nat)).pages (nx.getD b 0 : Nat) = true then _ else s.broken) = 0
    rw [hw]
    exact h.br
  · rw [getD_set hbn]
    split
    · omega
    · exact h.le i hi
  · rw [hpg i k hi hk, getD_set hbn]
    by_cases e : b = i
    · subst e
      rw [if_pos rfl]
      by_cases e2 : nx.getD b 0 = k
      · rw [if_pos ⟨rfl, e2⟩]
        exact (decide_eq_true (by omega)).symm
      · rw [if_neg (fun hn => e2 hn.2), h.us b k hb hk]
        exact decide_eq_decide.2 (by omega)
    · rw [if_neg (fun hn => e hn.1), if_neg e]
      exact h.us i k hi hk
  · rw [getD_set hbn] at hik
    rw [hpg i k hi hk]
    by_cases e : b = i
    · subst e
      rw [if_pos rfl] at hik
      rw [if_neg (by omega)]
      exact h.fr b k hb hk (by omega)
    · rw [if_neg e] at hik
      rw [if_neg (fun hn => e hn.1)]
      exact h.fr i k hi hk hik
  · rw [hpg i k hi hk]
    split <;> rfl
theorem Kq.erase (h : Kq z v s nx) {b : Nat} (hb : b < 4) :
    (s.er (b : Nat)).1 = 0 ∧ Kq z v (s.er (b : Nat)).2 (nx.set b 0) ∧ ∀ i k : Nat, i < 4 → k < 4 → ((s.er (b : Nat)).2.pg (i : Nat) (k : Nat)).cells = if b = i then List.replicate z 255 else (s.pg (i : Nat) (k : Nat)).cells := by
  have hE : s.erE (b : Nat) = 0 := by
    unfold ChS.erE askC
    rw [h.of, h.has hb]
    rfl
  have hera : eraN s.hits s.pages = (4, 0) := by
    rw [h.hits, h.p]
    rfl
  have hpg : ∀ i k : Nat, i < 4 → k < 4 → (s.er (b : Nat)).2.pg (i : Nat) (k : Nat) = if b = i then PgS.bare z else s.pg (i : Nat) (k : Nat) := fun i k hi hk => by
    rw [er_pg h.ok hE (h.inn hi hk), hera, h.z]
    by_cases e : b = i
    · rw [if_pos e, if_pos (by omega), Int.toNat_natCast, Int.toNat_natCast, List.getD_eq_getElem?_getD, List.getElem?_append_left (by rw [List.length_replicate]; exact hk), List.getElem?_replicate, if_pos hk]
      rfl
    · rw [if_neg e, if_neg (by omega)]
  have has := er_as s (b : Nat)
  have hbn : b < nx.length := by rw [h.nl]; exact hb
  refine ⟨by rw [er_set hE, hera], ⟨er_okp h.ok _, has.p.trans h.p, has.z.trans h.z, has.v.trans h.v, has.b.trans h.b, ?_, ?_, ?_, by rw [List.length_set]; exact h.nl, fun i hi => ?_, fun i k hi hk => ?_, fun i k hi hk hik => ?_⟩, fun i k hi hk => ?_⟩
  · rw [er_set hE]
    exact h.pl
  · rw [er_set hE, h.hits]
    rfl
  · rw [er_set hE]
    exact h.br
  · rw [getD_set hbn]
    split
    · omega
    · exact h.le i hi
  · rw [hpg i k hi hk, getD_set hbn]
    by_cases e : b = i
    · rw [if_pos e, if_pos e]
      exact (decide_eq_false (by omega)).symm
    · rw [if_neg e, if_neg e]
      exact h.us i k hi hk
  · rw [getD_set hbn] at hik
    rw [hpg i k hi hk]
    by_cases e : b = i
    · rw [if_pos e]
      rfl
    · rw [if_neg e] at hik
      rw [if_neg e]
      exact h.fr i k hi hk hik
  · rw [hpg i k hi hk]
    split <;> rfl
theorem Kq.tick (h : Kq z v s nx) : Kq z v s.tick nx := ⟨h.ok.same rfl rfl rfl rfl rfl, h.p, h.z, h.v, h.b, h.pl, h.of, h.br, h.nl, h.le, h.us, h.fr⟩
theorem Kq.read (h : Kq z v s nx) (hv : 0 < v) {b k : Nat} (hb : b < 4) (hk : k < 4) : (s.rd (b : Nat) (k : Nat) 0).1 = 0 ∧ (s.rd (b : Nat) (k : Nat) 0).2.1 = (s.pg (b : Nat) (k : Nat)).cells ∧ Kq z v (s.rd (b : Nat) (k : Nat) 0).2.2 nx := by
  have hE : s.rdE (b : Nat) (k : Nat) 0 = 0 := by
    unfold ChS.rdE askC
    rw [h.of, h.inn hb hk, h.v, decide_eq_true (show (0 : Int) ≤ 0 ∧ (0 : Int) < (v : Nat) by omega)]
    rfl
  unfold ChS.rd
  rw [if_neg (fun hn => hn hE), h.hits]
  exact ⟨rfl, rfl, h.tick⟩
end

def K15 : ChS := ChS.new 4 4 3 1 [] []
theorem K15_kq : Kq 3 1 K15 [0, 0, 0, 0] := by
  refine ⟨new_ok (by decide) (by decide) (by decide) (by decide) (by decide) (by decide) (by decide) (fun m hm => absurd hm List.not_mem_nil) (by decide) (by decide), rfl, rfl, rfl, rfl, rfl, rfl, rfl, rfl, ?_, ?_, ?_⟩
  · intro b hb
    rcases (show b = 0 ∨ b = 1 ∨ b = 2 ∨ b = 3 by omega) with rfl | rfl | rfl | rfl <;> decide
  · intro b k hb hk
    rcases (show b = 0 ∨ b = 1 ∨ b = 2 ∨ b = 3 by omega) with rfl | rfl | rfl | rfl <;> rcases (show k = 0 ∨ k = 1 ∨ k = 2 ∨ k = 3 by omega) with rfl | rfl | rfl | rfl <;> kernel_rfl
  · intro b k hb hk _
    rcases (show b = 0 ∨ b = 1 ∨ b = 2 ∨ b = 3 by omega) with rfl | rfl | rfl | rfl <;> rcases (show k = 0 ∨ k = 1 ∨ k = 2 ∨ k = 3 by omega) with rfl | rfl | rfl | rfl <;> kernel_rfl
/-- A block that takes pages: so many are there. -/
structure FI (d : DrS) (s : ChS) (b n : Nat) : Prop where
  kq : ∃ nx, Kq 3 1 s nx ∧ nx.getD b 0 = n
  nl : d.next.length = 4
  bl : d.bad.length = 4
  b4 : b < 4
  bd : d.bd (b : Nat) = false
  nx : d.nx (b : Nat) = (n : Nat)
theorem DrS.put_nx {d : DrS} {b : Nat} (h : b < d.next.length) (v : Int) : (d.put (b : Nat) v).nx (b : Nat) = v := by
  unfold DrS.put DrS.nx
  simp only
  rw [Int.toNat_natCast, List.getD_eq_getElem?_getD, List.getElem?_set, if_pos rfl, if_pos h]
  rfl
theorem FI.has {d : DrS} {s : ChS} {b n : Nat} (h : FI d s b n) : d.has (b : Nat) = true := by
  unfold DrS.has
  rw [h.nl]
  exact decide_eq_true (by have := h.b4; omega)
theorem FI.ask {d : DrS} {s : ChS} {b n : Nat} (h : FI d s b n) : d.askB (b : Nat) = 0 := askB_of h.has h.bd
theorem FI.n4 {d : DrS} {s : ChS} {b n : Nat} (h : FI d s b n) : n ≤ 4 := by
  obtain ⟨nx, h1, h2⟩ := h.kq
  have := h1.le b h.b4
  omega
theorem FI.askO {d : DrS} {s : ChS} {b n : Nat} (h : FI d s b n) : d.askO 4 (b : Nat) = if n = 4 then 110 else 0 := by
  have := h.n4
  unfold DrS.askO
  rw [if_pos h.ask, h.nx]
  by_cases e : n = 4
  · rw [if_pos e, if_pos (by omega)]
  · rw [if_neg e, if_neg (by omega)]
theorem FI.full {d : DrS} {s : ChS} {b n : Nat} (h : FI d s b n) (h4 : n = 4) (l : List Nat) : drAp 4 3 d s (b : Nat) l = (0, 110, d, s) := by
  have := h.askO
  rw [if_pos h4] at this
  rw [drAp_ask (by rw [this]; decide), this]
theorem FI.size {d : DrS} {s : ChS} {b n : Nat} (h : FI d s b n) (h4 : n ≠ 4) {l : List Nat} (hl : l.length ≠ 3) : drAp 4 3 d s (b : Nat) l = (0, 116, d, s) := by
  have := h.askO
  rw [if_neg h4] at this
  rw [drAp_size this (by omega)]
/-- A page is taken. -/
theorem FI.take {d : DrS} {s : ChS} {b n : Nat} (h : FI d s b n) (h4 : n ≠ 4) {l : List Nat} (hl : l.length = 3) (h8 : ∀ x ∈ l, x < 256) : (drAp 4 3 d s (b : Nat) l).1 = (n : Nat) ∧ (drAp 4 3 d s (b : Nat) l).2.1 = 0 ∧ FI (drAp 4 3 d s (b : Nat) l).2.2.1 (drAp 4 3 d s (b : Nat) l).2.2.2 b (n + 1) ∧ ((drAp 4 3 d s (b : Nat) l).2.2.2.pg (b : Nat) (n : Nat)).cells = l := by
  have ha := h.askO
  rw [if_neg h4] at ha
  have hn := h.n4
  have hb := h.b4
  obtain ⟨nx, h1, h2⟩ := h.kq
  obtain ⟨p1, p2, p3⟩ := h1.program hb (by omega) hl h8
  rw [h2] at p1 p2 p3
  have hz : (s.pr (b : Nat) (d.nx (b : Nat)) l).1 = 0 := by rw [h.nx]; exact p1
  have hw : wr ((n : Nat) + 1 : Int) = ((n + 1 : Nat) : Int) := by
    have : wr ((n : Nat) + 1 : Int) = (n : Nat) + 1 := w64 (by omega)
    omega
  have hbn : b < nx.length := by rw [h1.nl]; exact hb
  rw [drAp_ok ha (by omega) hz]
  simp only
  rw [h.nx, hw]
  refine ⟨rfl, trivial, ⟨⟨_, p2, by rw [getD_set hbn, if_pos rfl]⟩, by rw [(put_len _ _ _).2]; exact h.nl, h.bl, hb, h.bd, DrS.put_nx (by show b < d.next.length; rw [h.nl]; exact hb) _⟩, ?_⟩
  rw [p3 b n hb (by omega), if_pos ⟨rfl, rfl⟩]
/-- And read. -/
theorem FI.read {d : DrS} {s : ChS} {b n : Nat} (h : FI d s b (n + 1)) : (drRd d s (b : Nat) (n : Nat) 0).1 = 0 ∧ (drRd d s (b : Nat) (n : Nat) 0).2.1 = (s.pg (b : Nat) (n : Nat)).cells ∧ FI (drRd d s (b : Nat) (n : Nat) 0).2.2.1 (drRd d s (b : Nat) (n : Nat) 0).2.2.2 b (n + 1) := by
  have hn := h.n4
  obtain ⟨nx, h1, h2⟩ := h.kq
  obtain ⟨p1, p2, p3⟩ := h1.read (by decide) h.b4 (show n < 4 by omega)
  rw [drRd_do (.inr h.bd)]
  exact ⟨p1, p2, ⟨nx, p3, h2⟩, h.nl, h.bl, h.b4, h.bd, h.nx⟩
theorem FI.erase {d : DrS} {s : ChS} {b n : Nat} (h : FI d s b n) : (drEr 4 d s (b : Nat)).1 = 0 ∧ FI (drEr 4 d s (b : Nat)).2.1 (drEr 4 d s (b : Nat)).2.2 b 0 := by
  obtain ⟨nx, h1, h2⟩ := h.kq
  obtain ⟨p1, p2, _⟩ := h1.erase h.b4
  have hbn : b < nx.length := by rw [h1.nl]; exact h.b4
  rw [drEr_do h.ask, p1, if_neg (fun hn => hn rfl)]
  exact ⟨rfl, ⟨_, p2, by rw [getD_set hbn, if_pos rfl]⟩, by rw [(put_len _ _ _).2]; exact h.nl, h.bl, h.b4, h.bd, DrS.put_nx (by show b < d.next.length; rw [h.nl]; exact h.b4) _⟩
theorem FI.next {d : DrS} {s : ChS} {b n : Nat} (h : FI d s b n) : drNx 4 d (b : Nat) = (n : Nat) := by
  unfold drNx
  rw [h.has, if_pos rfl, h.nx]
/-- The first block that is fresh. -/
theorem FI.first {b : Nat} (hb : b < 4) : FI (drFr (drNew0 K15) K15 (b : Nat)) K15 b 0 := by
  have hz : K15.pages = 4 := rfl
  have hhas : (drNew0 K15).has (b : Nat) = true := decide_eq_true ⟨by omega, by show ((b : Nat) : Int) < ((List.replicate K15.blocks.length K15.pages).length : Nat); rw [List.length_replicate, show K15.blocks.length = 4 from rfl]; omega⟩
  have hbd : (drNew0 K15).bd (b : Nat) = false := by
    rcases (show b = 0 ∨ b = 1 ∨ b = 2 ∨ b = 3 by omega) with rfl | rfl | rfl | rfl <;> rfl
  have e : drFr (drNew0 K15) K15 (b : Nat) = (drNew0 K15).put (b : Nat) 0 := by
    unfold drFr
    rw [if_pos ⟨askB_of hhas hbd, fun k hk => by
      have hk4 : k < 4 := hk
      have := K15_kq.us b k hb hk4
      rw [this]
      rcases (show b = 0 ∨ b = 1 ∨ b = 2 ∨ b = 3 by omega) with rfl | rfl | rfl | rfl <;> rfl⟩]
  rw [e]
  refine ⟨⟨_, K15_kq, ?_⟩, (put_len _ _ _).2, rfl, hb, hbd, DrS.put_nx hb _⟩
  rcases (show b = 0 ∨ b = 1 ∨ b = 2 ∨ b = 3 by omega) with rfl | rfl | rfl | rfl <;> rfl
/-! ### The chapter's examples -/
def F15 : ChS := ChS.new 8 4 2 1 [3] []
def D15 : DrS := drNew0 F15
def D15a : DrS := drFr D15 F15 0
def D15b : DrS := (drAp 4 2 D15a F15 0 [1, 2]).2.2.1
def F15b : ChS := (drAp 4 2 D15a F15 0 [1, 2]).2.2.2
def D15c : DrS := (drAp 4 2 D15b F15b 0 [3, 4]).2.2.1
def F15c : ChS := (drAp 4 2 D15b F15b 0 [3, 4]).2.2.2
def D15d : DrS := (drEr 4 D15c F15c 0).2.1
def F15d : ChS := (drEr 4 D15c F15c 0).2.2
theorem F15_ok : F15.Ok := new_ok (by decide) (by decide) (by decide) (by decide) (by decide) (by decide) (by decide) (fun m hm => by
  obtain rfl : m = 3 := by simpa using hm
  decide) (by decide) (by decide)
theorem F15_1 : drAp 4 2 D15 F15 0 [1, 2] = (0, 110, D15, F15) := by kernel_rfl
theorem F15_2 : (drAp 4 2 D15a F15 0 [1, 2]).1 = 0 ∧ (drAp 4 2 D15a F15 0 [1, 2]).2.1 = 0 := ⟨by kernel_rfl, by kernel_rfl⟩
theorem F15_3 : (drAp 4 2 D15b F15b 0 [3, 4]).1 = 1 ∧ (drAp 4 2 D15b F15b 0 [3, 4]).2.1 = 0 := ⟨by kernel_rfl, by kernel_rfl⟩
theorem F15_4 : drNx 4 D15c 0 = 2 := by kernel_rfl
theorem F15_5 : drAp 4 2 D15c F15c 3 [1, 2] = (0, 112, D15c, F15c) := by kernel_rfl
theorem F15_6 : (drEr 4 D15c F15c 0).1 = 0 := by kernel_rfl
theorem F15_7 : drNx 4 D15d 0 = 0 := by kernel_rfl
theorem F15_8 : decide (D15d.askB 3 ≠ 0) = true := by kernel_rfl
theorem drAp_ok' {pg sz : Int} {d : DrS} {s : ChS} (h : s.Ok) (b : Int) {l : List Nat} (h8 : ∀ x ∈ l, x < 256) : (drAp pg sz d s b l).2.2.2.Ok := by
  unfold drAp
  split
  · exact h
  · split
    · exact h
    · split
      · exact pr_okp h _ _ h8
      · exact pr_okp h _ _ h8
theorem drEr_ok' {pg : Int} {d : DrS} {s : ChS} (h : s.Ok) (b : Int) : (drEr pg d s b).2.2.Ok := by
  unfold drEr
  split
  · exact h
  · exact er_okp h _
theorem drRd_ok' {d : DrS} {s : ChS} (h : s.Ok) (b p v : Int) : (drRd d s b p v).2.2.2.Ok := by
  unfold drRd
  split
  · exact h
  · exact rd_okp h _ _ _
theorem F15b_ok : F15b.Ok := drAp_ok' F15_ok 0 (two8 (by decide) (by decide))
theorem F15c_ok : F15c.Ok := drAp_ok' F15b_ok 0 (two8 (by decide) (by decide))
theorem drRd_bytes {d : DrS} {s : ChS} (h : s.Ok) (b p v : Int) : (drRd d s b p v).2.1.length ≤ 4096 ∧ ∀ x ∈ (drRd d s b p v).2.1, x < 256 := by
  unfold drRd
  split
  · exact ⟨Nat.zero_le _, fun x hx => absurd hx List.not_mem_nil⟩
  · exact rd_bytes h _ _ _
end Go.Proofs.YtcapijdokbkgaaaDoor
end
section
/- Chapter 15's examples, and the statement DriveFills, walked. Conditions: what comes in is read where it lies; the errors' variables. -/
namespace Go.Proofs.YtcapijdokbkgaaaDoor
open Go Go.Sx Go.Fm
set_option maxRecDepth 100000

set_option maxHeartbeats 1600000 in

theorem first15_spec (e : Nat → Addr) (w : World) (heD : Er e w 0) (heO : Er e w 1) (heS : Er e w 2) (heF : Er e w 5) (heM : Er e w 6) (heB : Er e w 7) : Spec1 Tryd.prog 41 [] w (.bool true) := by
  refine spec_of Tryd.func41 rfl Tryd.ntmps41 rfl ?_
  refine CW.seq ?_
  refine CW.reg [0] rfl ?_
  refine s_as 0 rfl rfl ?_
  refine SX.next ?_
  refine CW.seq ?_
  refine CW.reg [0, 1, 2, 3, 4, 5, 6] rfl ?_
  refine s_bsl 15 rfl rfl (cells := #[.int .i64 3]) (by kernel_rfl) rfl (fun _ _ => trivial) (fun b15 => ?_)
  refine s_call 16 rfl rfl rfl rfl (X := Nat × ChG) (v := fun z => two (.pointer (some ⟨z.1, 0, none⟩)) .nilIface) (pf := fun z => z.2.abs = F15 ∧ z.2.watch = .nilFunc) (L' := fun z => [chipA z.1 z.2]) (fun w hw => cnew_ok 8 4 2 1 (some ⟨b15, 0, none⟩) 1 [3] none 0 [] e w (by decide) (by decide) (by decide) (by decide) (Has.cong ((hw.has (i := 0) rfl).blk_sl (m := 1) rfl) rfl) (by decide) (fun m hm => by
    obtain rfl : m = 3 := by simpa using hm
    decide) (hw.er heM) ⟨Has.sl_nil w 5 none, fun f hf => absurd hf List.not_mem_nil, fun f hf => absurd hf List.not_mem_nil⟩ (by simp)) (fun _ _ => trivial) (fun z hz => ?_)
  obtain ⟨gc, y0⟩ := z
  obtain ⟨hy0, hyw0⟩ := hz
  simp only at hy0 hyw0
  refine s_mv 14 rfl rfl ?_
  refine s_ext 17 rfl rfl rfl ?_
  refine s_ext 18 rfl rfl rfl ?_
  refine s_as 1 rfl rfl ?_
  refine s_as 2 rfl rfl ?_
  refine SX.next ?_
  refine CW.seq ?_
  refine CW.seq ?_
  refine CW.reg [0, 1, 2, 3, 4, 5] rfl ?_
  refine s_mv 19 rfl rfl ?_
  refine s_eqPN 20 rfl rfl ?_
  refine s_mv 21 rfl rfl ?_
  refine s_mv 22 rfl rfl ?_
  refine s_neNN 23 rfl rfl ?_
  refine s_pickF 24 rfl rfl rfl ?_
  refine SX.next ?_
  refine CW.condF rfl ?_
  refine CW.skip ?_
  refine KN.code ?_
  refine CW.seq ?_
  refine CW.reg [0, 1, 2] rfl ?_
  refine s_mv 25 rfl rfl ?_
  refine s_call 26 rfl rfl rfl rfl (X := Nat × DrG) (v := fun z => .pointer (some ⟨z.1, 0, none⟩)) (pf := fun z => z.2.abs = D15 ∧ z.2.At gc 4 2) (L' := fun z => [driveA z.1 z.2]) (fun w hw => by have := drNew_spec gc y0 (by rw [hy0]; exact F15_ok) w (hw.has (i := 0) rfl); rw [hy0, show y0.pages = F15.pages from congrArg ChS.pages hy0, show y0.size = F15.size from congrArg ChS.size hy0] at this; exact this) (fun _ _ => trivial) (fun z hz => ?_)
  obtain ⟨gd, x0⟩ := z
  obtain ⟨hx0, hxa0⟩ := hz
  simp only at hx0 hxa0
  refine s_as 3 rfl rfl ?_
  refine SX.next ?_
  refine CW.seq ?_
  refine CW.seq ?_
  refine CW.reg [0, 1] rfl ?_
  refine s_mv 27 rfl rfl ?_
  refine s_eqPN 28 rfl rfl ?_
  refine SX.next ?_
  refine CW.condF rfl ?_
  refine CW.skip ?_
  refine KN.code ?_
  refine CW.seq ?_
  refine CW.reg [0, 1, 2, 3, 4, 5, 6, 7] rfl ?_
  refine s_mv 30 rfl rfl ?_
  refine s_bsl 31 rfl rfl (cells := #[.int .u8 1, .int .u8 2]) (by kernel_rfl) rfl (fun _ _ => trivial) (fun b31 => ?_)
  refine s_callP 32 [1, 1, 0, 0] (M := [driveA gd x0, chipA gc y0]) (R := [blk b31 5 #[.int .u8 1, .int .u8 2], blk b15 3 #[.int .i64 3]]) (X := DrG × ChG) (v := fun z => two (.int .i64 0) (evE e 110)) (pf := fun z => z.1.abs = D15 ∧ z.1.At gc 4 2 ∧ z.2.abs = F15 ∧ z.2.watch = .nilFunc) (M' := fun z => [driveA gd z.1, chipA gc z.2]) rfl rfl rfl rfl rfl (fun F' w' hR hM => by have := drAppend hxa0 (by rw [hy0]; exact F15_ok) hyw0 0 (some ⟨b31, 0, none⟩) 2 [1, 2] e w' (fun w2 hf => (hR w2 hf).er heD) (fun w2 hf => (hR w2 hf).er heO) (fun w2 hf => (hR w2 hf).er heS) (fun w2 hf => (hR w2 hf).er heF) (fun w2 hf => (hR w2 hf).er heB) (fun w2 hf => bytes_of ((hR w2 hf).has (i := 0) rfl) (n := 2) rfl rfl rfl) (two8 (by decide) (by decide)) hM; rw [hx0, hy0, F15_1] at this; exact this) (fun _ _ _ => trivial) (fun z1 hz1 => ?_)
  refine s_mv 29 rfl rfl ?_
  refine s_ext 33 rfl rfl rfl ?_
  refine s_ext 34 rfl rfl rfl ?_
  refine s_as 4 rfl rfl ?_
  refine s_as 5 rfl rfl ?_
  refine SX.next ?_
  refine CW.seq ?_
  refine CW.reg [0, 1] rfl ?_
  refine s_mv 35 rfl rfl ?_
  refine s_callP 36 [0, 0, 0, 0] (M := [driveA gd z1.1, chipA gc z1.2]) (R := [blk b31 5 #[.int .u8 1, .int .u8 2], blk b15 3 #[.int .i64 3]]) (X := DrG) (v := fun z => oneOf []) (pf := fun z => z.abs = D15a ∧ z.At gc 4 2) (M' := fun z => [driveA gd z, chipA gc z1.2]) rfl rfl rfl rfl rfl (fun F' w' hR hM => by have := drFresh hz1.2.1 (by rw [hz1.2.2.1]; exact F15_ok) 0 e w' (by rw [hz1.2.2.1]; rfl) (by rw [hz1.2.2.1, hz1.1]; rfl) (fun w2 hf => (hR w2 hf).er heO) (fun w2 hf => (hR w2 hf).er heB) hM; rw [hz1.1, hz1.2.2.1] at this; exact this) (fun _ _ _ => trivial) (fun z2 hz2 => ?_)
  refine SX.next ?_
  refine CW.seq ?_
  refine CW.reg [0, 1, 2, 3, 4, 5, 6, 7] rfl ?_
  refine s_mv 38 rfl rfl ?_
  refine s_bsl 39 rfl rfl (cells := #[.int .u8 1, .int .u8 2]) (by kernel_rfl) rfl (fun _ _ => trivial) (fun b39 => ?_)
  refine s_callP 40 [1, 1, 0, 0, 0] (M := [driveA gd z2, chipA gc z1.2]) (R := [blk b39 5 #[.int .u8 1, .int .u8 2], blk b31 5 #[.int .u8 1, .int .u8 2], blk b15 3 #[.int .i64 3]]) (X := DrG × ChG) (v := fun z => two (.int .i64 0) (evE e 0)) (pf := fun z => z.1.abs = D15b ∧ z.1.At gc 4 2 ∧ z.2.abs = F15b ∧ z.2.watch = .nilFunc) (M' := fun z => [driveA gd z.1, chipA gc z.2]) rfl rfl rfl rfl rfl (fun F' w' hR hM => by have := drAppend hz2.2 (by rw [hz1.2.2.1]; exact F15_ok) hz1.2.2.2 0 (some ⟨b39, 0, none⟩) 2 [1, 2] e w' (fun w2 hf => (hR w2 hf).er heD) (fun w2 hf => (hR w2 hf).er heO) (fun w2 hf => (hR w2 hf).er heS) (fun w2 hf => (hR w2 hf).er heF) (fun w2 hf => (hR w2 hf).er heB) (fun w2 hf => bytes_of ((hR w2 hf).has (i := 0) rfl) (n := 2) rfl rfl rfl) (two8 (by decide) (by decide)) hM; rw [hz2.1, hz1.2.2.1, F15_2.1, F15_2.2] at this; exact this) (fun _ _ _ => trivial) (fun z3 hz3 => ?_)
  refine s_mv 37 rfl rfl ?_
  refine s_ext 41 rfl rfl rfl ?_
  refine s_ext 42 rfl rfl rfl ?_
  refine s_as 6 rfl rfl ?_
  refine s_as 7 rfl rfl ?_
  refine SX.next ?_
  refine CW.seq ?_
  refine CW.reg [0, 1, 2, 3, 4, 5, 6, 7] rfl ?_
  refine s_mv 44 rfl rfl ?_
  refine s_bsl 45 rfl rfl (cells := #[.int .u8 3, .int .u8 4]) (by kernel_rfl) rfl (fun _ _ => trivial) (fun b45 => ?_)
  refine s_callP 46 [1, 1, 0, 0, 0, 0] (M := [driveA gd z3.1, chipA gc z3.2]) (R := [blk b45 5 #[.int .u8 3, .int .u8 4], blk b39 5 #[.int .u8 1, .int .u8 2], blk b31 5 #[.int .u8 1, .int .u8 2], blk b15 3 #[.int .i64 3]]) (X := DrG × ChG) (v := fun z => two (.int .i64 1) (evE e 0)) (pf := fun z => z.1.abs = D15c ∧ z.1.At gc 4 2 ∧ z.2.abs = F15c ∧ z.2.watch = .nilFunc) (M' := fun z => [driveA gd z.1, chipA gc z.2]) rfl rfl rfl rfl rfl (fun F' w' hR hM => by have := drAppend hz3.2.1 (by rw [hz3.2.2.1]; exact F15b_ok) hz3.2.2.2 0 (some ⟨b45, 0, none⟩) 2 [3, 4] e w' (fun w2 hf => (hR w2 hf).er heD) (fun w2 hf => (hR w2 hf).er heO) (fun w2 hf => (hR w2 hf).er heS) (fun w2 hf => (hR w2 hf).er heF) (fun w2 hf => (hR w2 hf).er heB) (fun w2 hf => bytes_of ((hR w2 hf).has (i := 0) rfl) (n := 2) rfl rfl rfl) (two8 (by decide) (by decide)) hM; rw [hz3.1, hz3.2.2.1, F15_3.1, F15_3.2] at this; exact this) (fun _ _ _ => trivial) (fun z4 hz4 => ?_)
  refine s_mv 43 rfl rfl ?_
  refine s_ext 47 rfl rfl rfl ?_
  refine s_ext 48 rfl rfl rfl ?_
  refine s_as 8 rfl rfl ?_
  refine s_as 9 rfl rfl ?_
  refine SX.next ?_
  refine CW.seq ?_
  refine CW.reg [0, 1, 2] rfl ?_
  refine s_mv 49 rfl rfl ?_
  refine s_call1 50 rfl rfl rfl rfl (v := .int .i64 2) (fun w hw => by have := drNext hz4.2.1 0 e w (hw.er heO) (hw.has (i := 0) rfl); rw [hz4.1, F15_4] at this; exact this) (fun _ _ => trivial) ?_
  refine s_as 10 rfl rfl ?_
  refine SX.next ?_
  refine CW.seq ?_
  refine CW.reg [0, 1, 2, 3, 4, 5, 6, 7] rfl ?_
  refine s_mv 52 rfl rfl ?_
  refine s_bsl 53 rfl rfl (cells := #[.int .u8 1, .int .u8 2]) (by kernel_rfl) rfl (fun _ _ => trivial) (fun b53 => ?_)
  refine s_callP 54 [1, 1, 0, 0, 0, 0, 0] (M := [driveA gd z4.1, chipA gc z4.2]) (R := [blk b53 5 #[.int .u8 1, .int .u8 2], blk b45 5 #[.int .u8 3, .int .u8 4], blk b39 5 #[.int .u8 1, .int .u8 2], blk b31 5 #[.int .u8 1, .int .u8 2], blk b15 3 #[.int .i64 3]]) (X := DrG × ChG) (v := fun z => two (.int .i64 0) (evE e 112)) (pf := fun z => z.1.abs = D15c ∧ z.1.At gc 4 2 ∧ z.2.abs = F15c ∧ z.2.watch = .nilFunc) (M' := fun z => [driveA gd z.1, chipA gc z.2]) rfl rfl rfl rfl rfl (fun F' w' hR hM => by have := drAppend hz4.2.1 (by rw [hz4.2.2.1]; exact F15c_ok) hz4.2.2.2 3 (some ⟨b53, 0, none⟩) 2 [1, 2] e w' (fun w2 hf => (hR w2 hf).er heD) (fun w2 hf => (hR w2 hf).er heO) (fun w2 hf => (hR w2 hf).er heS) (fun w2 hf => (hR w2 hf).er heF) (fun w2 hf => (hR w2 hf).er heB) (fun w2 hf => bytes_of ((hR w2 hf).has (i := 0) rfl) (n := 2) rfl rfl rfl) (two8 (by decide) (by decide)) hM; rw [hz4.1, hz4.2.2.1, F15_5] at this; exact this) (fun _ _ _ => trivial) (fun z5 hz5 => ?_)
  refine s_mv 51 rfl rfl ?_
  refine s_ext 55 rfl rfl rfl ?_
  refine s_ext 56 rfl rfl rfl ?_
  refine s_as 11 rfl rfl ?_
  refine s_as 12 rfl rfl ?_
  refine SX.next ?_
  refine CW.seq ?_
  refine CW.reg [0, 1, 2] rfl ?_
  refine s_mv 57 rfl rfl ?_
  refine s_callP 58 [0, 0, 0, 0, 0, 0, 0] (M := [driveA gd z5.1, chipA gc z5.2]) (R := [blk b53 5 #[.int .u8 1, .int .u8 2], blk b45 5 #[.int .u8 3, .int .u8 4], blk b39 5 #[.int .u8 1, .int .u8 2], blk b31 5 #[.int .u8 1, .int .u8 2], blk b15 3 #[.int .i64 3]]) (X := DrG × ChG) (v := fun z => evE e 0) (pf := fun z => z.1.abs = D15d ∧ z.1.At gc 4 2 ∧ z.2.abs = F15d ∧ z.2.watch = .nilFunc) (M' := fun z => [driveA gd z.1, chipA gc z.2]) rfl rfl rfl rfl rfl (fun F' w' hR hM => by have := drErase hz5.2.1 (by rw [hz5.2.2.1]; exact F15c_ok) hz5.2.2.2 0 e w' (fun w2 hf => (hR w2 hf).er heD) (fun w2 hf => (hR w2 hf).er heO) (fun w2 hf => (hR w2 hf).er heS) (fun w2 hf => (hR w2 hf).er heF) (fun w2 hf => (hR w2 hf).er heB) hM; rw [hz5.1, hz5.2.2.1, F15_6] at this; exact this) (fun _ _ _ => trivial) (fun z6 hz6 => ?_)
  refine s_as 13 rfl rfl ?_
  refine SX.next ?_
  refine CW.seq ?_
  refine CW.reg [0, 1, 2, 3, 4, 5, 6, 7, 8, 9, 10, 11, 12, 13, 14, 15, 16, 17, 18, 19, 20, 21, 22, 23, 24, 25, 26, 27, 28, 29, 30, 31, 32, 33, 34, 35, 36, 37, 38, 39, 40, 41, 42, 43, 44, 45, 46, 47] rfl ?_
  refine s_mv 59 rfl rfl ?_
  refine s_ld 60 rfl rfl (fun _ hw => hw.cell heO) ?_
  refine s_eqE 61 rfl rfl rfl ?_
  refine s_mv 62 rfl rfl ?_
  refine s_mv 63 rfl rfl ?_
  refine s_eq 64 rfl rfl rfl (decide_eq_true rfl) ?_
  refine s_pickT 65 rfl rfl rfl ?_
  refine s_mv 66 rfl rfl ?_
  refine s_mv 67 rfl rfl ?_
  refine s_eqNN 68 rfl rfl ?_
  refine s_pickT 69 rfl rfl rfl ?_
  refine s_mv 70 rfl rfl ?_
  refine s_mv 71 rfl rfl ?_
  refine s_eq 72 rfl rfl rfl (decide_eq_true rfl) ?_
  refine s_pickT 73 rfl rfl rfl ?_
  refine s_mv 74 rfl rfl ?_
  refine s_mv 75 rfl rfl ?_
  refine s_eqNN 76 rfl rfl ?_
  refine s_pickT 77 rfl rfl rfl ?_
  refine s_mv 78 rfl rfl ?_
  refine s_mv 79 rfl rfl ?_
  refine s_eq 80 rfl rfl rfl (decide_eq_true rfl) ?_
  refine s_pickT 81 rfl rfl rfl ?_
  refine s_mv 82 rfl rfl ?_
  refine s_mv 83 rfl rfl ?_
  refine s_ld 84 rfl rfl (fun _ hw => hw.cell heB) ?_
  refine s_eqE 85 rfl rfl rfl ?_
  refine s_pickT 86 rfl rfl rfl ?_
  refine s_mv 87 rfl rfl ?_
  refine s_mv 88 rfl rfl ?_
  refine s_eqNN 89 rfl rfl ?_
  refine s_pickT 90 rfl rfl rfl ?_
  refine s_mv 91 rfl rfl ?_
  refine s_mv 92 rfl rfl ?_
  refine s_call1 93 rfl rfl rfl rfl (v := .int .i64 0) (fun w hw => by have := drNext hz6.2.1 0 e w (hw.er heO) (hw.has (i := 0) rfl); rw [hz6.1, F15_7] at this; exact this) (fun _ _ => trivial) ?_
  refine s_eq 94 rfl rfl rfl (decide_eq_true rfl) ?_
  refine s_pickT 95 rfl rfl rfl ?_
  refine s_mv 96 rfl rfl ?_
  refine s_mv 97 rfl rfl ?_
  refine s_call1 98 rfl rfl rfl rfl (v := .bool true) (fun w hw => by have := drBad_spec gd z6.1 3 e w (hw.er heO) (hw.er heB) (hw.has (i := 0) rfl) hz6.2.1.k; rw [hz6.1, F15_8] at this; exact this) (fun _ _ => trivial) ?_
  refine s_pickT 99 rfl rfl rfl ?_
  refine s_mv 100 rfl rfl ?_
  refine s_mv 101 rfl rfl ?_
  refine s_call1 102 rfl rfl rfl rfl (fun w hw => drChip hz6.2.1 w (hw.has (i := 0) rfl)) (fun _ _ => trivial) ?_
  refine s_mv 103 rfl rfl ?_
  refine s_eqPP 104 rfl rfl rfl ?_
  refine s_pickT 105 rfl rfl rfl ?_
  refine s_as 0 rfl rfl ?_
  refine SX.next ?_
  refine CW.ret ?_
  exact KN.ret (rs := [.tmp 0]) Tryd.results41 rfl (fun w hw => ⟨rfl, hw.nothing⟩)

/- The rounds of DriveFills. -/
structure FillG where
  x : DrG
  y : ChG
structure FillI (gc b r : Nat) (z : FillG) : Prop where
  at_ : z.x.At gc 4 3
  ok : z.y.abs.Ok
  wt : z.y.watch = .nilFunc
  nl : z.x.abs.next.length = 4
  kq : ∃ nx, Kq 3 1 z.y.abs nx
  zero : r = 0 → z.x.abs = drNew0 K15 ∧ z.y.abs = K15
  more : r ≠ 0 → ∃ n, FI z.x.abs z.y.abs b n
theorem FI.fill {gc b r n : Nat} {x : DrG} {y : ChG} (h : FI x.abs y.abs b n) (ha : x.At gc 4 3) (hw : y.watch = .nilFunc) (hr : r ≠ 0) : FillI gc b r ⟨x, y⟩ := by
  obtain ⟨nx, h1, h2⟩ := h.kq
  exact ⟨ha, h1.ok, hw, h.nl, ⟨nx, h1⟩, fun h0 => absurd h0 hr, fun _ => ⟨n, h⟩⟩
theorem FI.ok {d : DrS} {s : ChS} {b n : Nat} (h : FI d s b n) : s.Ok := let ⟨_, h1, _⟩ := h.kq; h1.ok
end Go.Proofs.YtcapijdokbkgaaaDoor
end
section
/- A driver keeps the chip's rules, whatever it is told: plain. No condition. -/
namespace Go.Proofs.YtcapijdokbkgaaaDoor
open Go Go.Sx
set_option maxRecDepth 100000
/-- What a driver over a chip of four blocks of three pages of four bytes knows of it. -/
structure KeepD (d : DrS) (s : ChS) : Prop where
  ok : s.Ok
  p : s.pages = 3
  z : s.size = 4
  b : s.blocks.length = 4
  nl : d.next.length = 4
  bl : d.bad.length = 4
  br : s.broken = 0
  us : ∀ b : Nat, b < 4 → d.bd (b : Nat) = false → 3 ≤ d.nx (b : Nat) ∨ (0 ≤ d.nx (b : Nat) ∧ ∀ k : Nat, k < 3 → (s.pg (b : Nat) (k : Nat)).used = decide ((k : Int) < d.nx (b : Nat)))
/-- Bad blocks stay bad, and as they are. -/
structure LeaveD (d d' : DrS) (s s' : ChS) : Prop where
  bd : ∀ b : Nat, b < 4 → d.bd (b : Nat) = true → d'.bd (b : Nat) = true
  pg : ∀ b k : Nat, b < 4 → k < 3 → d.bd (b : Nat) = true → s'.pg (b : Nat) (k : Nat) = s.pg (b : Nat) (k : Nat)
theorem LeaveD.refl (d : DrS) (s : ChS) : LeaveD d d s s := ⟨fun _ _ h => h, fun _ _ _ _ _ => rfl⟩
section
variable {d : DrS} {s : ChS}
theorem KeepD.inn (h : KeepD d s) {b k : Nat} (hb : b < 4) (hk : k < 3) : s.inn (b : Nat) (k : Nat) = true := by
  unfold ChS.inn ChS.has
  rw [h.p, h.b, decide_eq_true (by omega), decide_eq_true (by omega)]
  rfl
theorem KeepD.has (h : KeepD d s) {b : Nat} (hb : b < 4) : d.has (b : Nat) = true := by
  unfold DrS.has
  rw [h.nl]
  exact decide_eq_true (by omega)
theorem KeepD.at_ (h : KeepD d s) {b : Int} (hh : d.has b = true) : ∃ i : Nat, b = (i : Nat) ∧ i < 4 := by
  obtain ⟨i, h1, h2⟩ := dhas_at' hh
  exact ⟨i, h1, by rw [h.nl] at h2; exact h2⟩
theorem KeepD.bad (h : KeepD d s) {b : Nat} (hb : b < 4) : decide (d.askB (b : Nat) ≠ 0) = d.bd (b : Nat) := by
  unfold DrS.askB
  rw [h.has hb]
  cases d.bd (b : Nat) <;> rfl
theorem nx_put (h : d.next.length = 4) {i b : Nat} (hi : i < 4) (v : Int) : (d.put (i : Nat) v).nx (b : Nat) = if i = b then v else d.nx (b : Nat) := by
  unfold DrS.put DrS.nx
  simp only
  rw [Int.toNat_natCast, Int.toNat_natCast, getD_set (by rw [h]; exact hi)]
/-- The chip is another, of which a block's pages alone are others; the block's next page is told anew. -/
theorem KeepD.put (h : KeepD d s) {i : Nat} (hi : i < 4) (hbd : d.bd (i : Nat) = false) {s' : ChS} (hok : s'.Ok) (has : s.As s') (hbr : s'.broken = 0) (hpg : ∀ b k : Nat, b < 4 → k < 3 → b ≠ i → s'.pg (b : Nat) (k : Nat) = s.pg (b : Nat) (k : Nat)) {d1 : DrS} (hn : d1.next = d.next) (hb : d1.bad = d.bad) {v : Int}
    (hv : 3 ≤ v ∨ (0 ≤ v ∧ ∀ k : Nat, k < 3 → (s'.pg (i : Nat) (k : Nat)).used = decide ((k : Int) < v))) : KeepD (d1.put (i : Nat) v) s' ∧ LeaveD d (d1.put (i : Nat) v) s s' := by
  have hbd1 : ∀ b : Nat, (d1.put (i : Nat) v).bd (b : Nat) = d.bd (b : Nat) := fun b => by
    unfold DrS.put DrS.bd
    simp only
    rw [hb]
  have hn1 : d1.next.length = 4 := by rw [hn]; exact h.nl
  refine ⟨⟨hok, has.p.trans h.p, has.z.trans h.z, has.b.trans h.b, by rw [(put_len _ _ _).2]; exact hn1, by rw [(put_len _ _ _).1, hb]; exact h.bl, hbr, fun b hb4 hb1 => ?_⟩, ⟨fun b hb4 hb1 => by rw [hbd1]; exact hb1, fun b k hb4 hk hb1 => hpg b k hb4 hk (fun e => by subst e; rw [hbd] at hb1; cases hb1)⟩⟩
  rw [hbd1] at hb1
  rw [nx_put hn1 hi]
  by_cases e : i = b
  · subst e
    rw [if_pos rfl]
    exact hv
  · rw [if_neg e, show d1.nx (b : Nat) = d.nx (b : Nat) by unfold DrS.nx; rw [hn]]
    rcases h.us b hb4 hb1 with h1 | ⟨h1, h2⟩
    · exact .inl h1
    · exact .inr ⟨h1, fun k hk => by rw [hpg b k hb4 hk (fun e2 => e e2.symm)]; exact h2 k hk⟩
theorem KeepD.read (h : KeepD d s) (b p v : Int) : KeepD (drRd d s b p v).2.2.1 (drRd d s b p v).2.2.2 ∧ LeaveD d (drRd d s b p v).2.2.1 s (drRd d s b p v).2.2.2 := by
  unfold drRd
  split
  · exact ⟨h, .refl d s⟩
  · obtain ⟨h1, h2⟩ := rd_as s b p v
    have hpg : ∀ b k : Int, (s.rd b p v).2.2.pg b k = (s.rd b p v).2.2.pg b k := fun _ _ => rfl
    have hbr : (s.rd b p v).2.2.broken = s.broken := by
      unfold ChS.rd
      split
      · rfl
      · split <;> rfl
    exact ⟨⟨rd_okp h.ok _ _ _, h1.p.trans h.p, h1.z.trans h.z, h1.b.trans h.b, h.nl, h.bl, hbr.trans h.br, fun i hi hbd => by
      rcases h.us i hi hbd with k1 | ⟨k1, k2⟩
      · exact .inl k1
      · exact .inr ⟨k1, fun k hk => by rw [pg_blocks h2]; exact k2 k hk⟩⟩, ⟨fun _ _ h => h, fun i k hi hk _ => pg_blocks h2 _ _⟩⟩
theorem wrong_no (hs : s.Ok) {b n : Nat} (hb : s.has (b : Nat) = true) (hu : ∀ k : Nat, (k : Int) < s.pages → (s.pg (b : Nat) (k : Nat)).used = decide (k < n)) : wrongAt (s.bk (b : Nat)).pages (n : Nat) = false := by
  have hbk := (bk_ok hs hb).1.1
  unfold wrongAt
  rw [List.any_eq_false]
  rintro ⟨q, k⟩ hq
  rw [List.mem_zipIdx_iff_getElem?] at hq
  have hk : k < (s.bk (b : Nat)).pages.length := (List.getElem?_eq_some_iff.1 hq).1
  have hu := hu k (by omega)
  have e : s.pg (b : Nat) (k : Nat) = q := by
    unfold ChS.pg
    rw [Int.toNat_natCast, List.getD_eq_getElem?_getD]
    exact congrArg (·.getD PgS.nul) hq
  rw [e] at hu
  simp only
  rw [hu]
  by_cases hkn : k < n
  · rw [decide_eq_true hkn, decide_eq_false (show ¬ ((n : Nat) : Int) ≤ (k : Int) by omega)]
    simp
  · rw [decide_eq_false hkn, decide_eq_false (show ¬ ((k : Nat) : Int) < ((n : Nat) : Int) by omega)]
    simp
theorem KeepD.append (h : KeepD d s) (b : Int) {l : List Nat} (h8 : ∀ x ∈ l, x < 256) : KeepD (drAp 3 4 d s b l).2.2.1 (drAp 3 4 d s b l).2.2.2 ∧ LeaveD d (drAp 3 4 d s b l).2.2.1 s (drAp 3 4 d s b l).2.2.2 := by
  by_cases ha : d.askO 3 b = 0
  · obtain ⟨hab, hnx⟩ := askO_zero ha
    obtain ⟨hh, hbd⟩ := askB_zero hab
    obtain ⟨i, rfl, hi⟩ := h.at_ hh
    by_cases hl : (l.length : Int) = 4
    · rcases h.us i hi hbd with h3 | ⟨h0, hu⟩
      · omega
      · obtain ⟨n, hn⟩ := Int.eq_ofNat_of_zero_le h0
        rw [hn] at hnx hu
        have hn3 : n < 3 := by omega
        have hin := h.inn hi hn3
        have has := pr_as s (i : Nat) (n : Nat) l
        have hok := pr_okp h.ok (i : Nat) (n : Nat) h8
        have hbr : (s.pr (i : Nat) (n : Nat) l).2.broken = 0 := by
          by_cases hE : s.prE (i : Nat) (n : Nat) l.length = 0
          · rw [pr_set hE]
            show (if wrongAt (s.bk (i : Nat)).pages (n : Nat) = true then _ else s.broken) = 0
            rw [wrong_no h.ok (has_inn hin).1 (fun k hk => by rw [h.p] at hk; rw [hu k (by omega)]; exact decide_eq_decide.2 (by omega))]
            exact h.br
          · rw [pr_err hE]
            exact h.br
        have hpg : ∀ b k : Nat, b < 4 → k < 3 → (s.pr (i : Nat) (n : Nat) l).2.pg (b : Nat) (k : Nat) = s.pg (b : Nat) (k : Nat) ∨ (i = b ∧ n = k ∧ ((s.pr (i : Nat) (n : Nat) l).2.pg (b : Nat) (k : Nat)).used = true) := fun b k hb hk => by
          by_cases hE : s.prE (i : Nat) (n : Nat) l.length = 0
          · rw [pr_pg h.ok hE (h.inn hb hk)]
            by_cases e : ((i : Nat) : Int) = (b : Nat) ∧ ((n : Nat) : Int) = (k : Nat)
            · rw [if_pos e]
              exact .inr ⟨by omega, by omega, rfl⟩
            · rw [if_neg e]
              exact .inl rfl
          · rw [pr_err hE]
            exact .inl rfl
        have hoth : ∀ b k : Nat, b < 4 → k < 3 → b ≠ i → (s.pr (i : Nat) (n : Nat) l).2.pg (b : Nat) (k : Nat) = s.pg (b : Nat) (k : Nat) := fun b k hb hk hne => by
          rcases hpg b k hb hk with h1 | ⟨h1, _⟩
          · exact h1
          · exact absurd h1.symm hne
        by_cases hz : (s.pr (i : Nat) (d.nx (i : Nat)) l).1 = 0
        · rw [drAp_ok ha hl hz]
          simp only
          rw [hn, show wr ((n : Nat) + 1 : Int) = (n : Nat) + 1 from w64 (by omega)]
          refine h.put (d1 := { d with programs := wr (d.programs + 1) }) hi hbd hok has hbr hoth rfl rfl (.inr ⟨by omega, fun k hk => ?_⟩)
          have hE : s.prE (i : Nat) (n : Nat) l.length = 0 := by
            by_cases hE : s.prE (i : Nat) (n : Nat) l.length = 0
            · exact hE
            · rw [hn, pr_err hE] at hz
              exact absurd hz hE
          rw [pr_pg h.ok hE (h.inn hi hk)]
          by_cases e : n = k
          · rw [if_pos ⟨rfl, by omega⟩]
            exact (decide_eq_true (by omega)).symm
          · rw [if_neg (by omega), hu k hk]
            exact decide_eq_decide.2 (by omega)
        · rw [drAp_err ha hl hz]
          simp only
          rw [hn]
          exact h.put (d1 := { d with programs := wr (d.programs + 1) }) hi hbd hok has hbr hoth rfl rfl (.inl (Int.le_refl _))
    · rw [drAp_size ha hl]
      exact ⟨h, .refl d s⟩
  · rw [drAp_ask ha]
    exact ⟨h, .refl d s⟩
theorem KeepD.erase (h : KeepD d s) (b : Int) : KeepD (drEr 3 d s b).2.1 (drEr 3 d s b).2.2 ∧ LeaveD d (drEr 3 d s b).2.1 s (drEr 3 d s b).2.2 := by
  by_cases ha : d.askB b = 0
  · obtain ⟨hh, hbd⟩ := askB_zero ha
    obtain ⟨i, rfl, hi⟩ := h.at_ hh
    have has := er_as s (i : Nat)
    have hok := er_okp h.ok (i : Nat)
    have hbr : (s.er (i : Nat)).2.broken = 0 := by
      by_cases hE : s.erE (i : Nat) = 0
      · rw [er_set hE]
        exact h.br
      · rw [er_err hE]
        exact h.br
    have hoth : ∀ b k : Nat, b < 4 → k < 3 → b ≠ i → (s.er (i : Nat)).2.pg (b : Nat) (k : Nat) = s.pg (b : Nat) (k : Nat) := fun b k hb hk hne => by
      by_cases hE : s.erE (i : Nat) = 0
      · rw [er_pg h.ok hE (h.inn hb hk), if_neg (by omega)]
      · rw [er_err hE]
    rw [drEr_do ha]
    refine h.put (d1 := { d with erases := wr (d.erases + 1) }) hi hbd hok has hbr hoth rfl rfl ?_
    by_cases hz : (s.er (i : Nat)).1 = 0
    · rw [if_neg (fun hn => hn hz)]
      refine .inr ⟨Int.le_refl _, fun k hk => ?_⟩
      have hE : s.erE (i : Nat) = 0 := by
        by_cases hE : s.erE (i : Nat) = 0
        · exact hE
        · rw [er_err hE] at hz
          exact absurd hz hE
      have he : eraN s.hits s.pages = (3, 0) := by
        rw [er_set hE] at hz
        have hz2 : (eraN s.hits s.pages).2 = 0 := hz
        unfold eraN at hz2 ⊢
        split
        · rename_i f hf
          rw [hf] at hz2
          exact absurd (show (109 : Int) = 0 from hz2) (by decide)
        · rename_i hf
          rw [hf] at hz2
          split
          · rename_i f hf2
            rw [hf2] at hz2
            exact absurd (show (111 : Int) = 0 from hz2) (by decide)
          · rw [h.p]
            rfl
      rw [er_pg h.ok hE (h.inn hi hk), if_pos rfl, he, Int.toNat_natCast, List.getD_eq_getElem?_getD, List.getElem?_append_left (by rw [List.length_replicate]; exact hk), List.getElem?_replicate, if_pos hk]
      exact (decide_eq_false (by omega)).symm
    · rw [if_pos hz]
      exact .inl (Int.le_refl _)
  · rw [drEr_ask ha]
    exact ⟨h, .refl d s⟩
theorem KeepD.same (h : KeepD d s) {i : Nat} (hi : i < 4) {d1 : DrS} (hn : d1.next = d.next) (hbl : d1.bad.length = 4) (hb : ∀ b : Nat, b < 4 → d.bd (b : Nat) = true → d1.bd (b : Nat) = true) {v : Int} (hv : 3 ≤ v ∨ (d.bd (i : Nat) = false ∧ 0 ≤ v ∧ ∀ k : Nat, k < 3 → (s.pg (i : Nat) (k : Nat)).used = decide ((k : Int) < v))) : KeepD (d1.put (i : Nat) v) s ∧ LeaveD d (d1.put (i : Nat) v) s s := by
  have hn1 : d1.next.length = 4 := by rw [hn]; exact h.nl
  refine ⟨⟨h.ok, h.p, h.z, h.b, by rw [(put_len _ _ _).2]; exact hn1, by rw [(put_len _ _ _).1]; exact hbl, h.br, fun b hb4 hb1 => ?_⟩, ⟨fun b hb4 hb1 => hb b hb4 hb1, fun _ _ _ _ _ => rfl⟩⟩
  have hb2 : d.bd (b : Nat) = false := by
    cases e : d.bd (b : Nat) with
    | false => rfl
    | true => have := hb b hb4 e; rw [show d1.bd (b : Nat) = false from hb1] at this; cases this
  rw [nx_put hn1 hi]
  by_cases e : i = b
  · subst e
    rw [if_pos rfl]
    rcases hv with h1 | ⟨_, h2, h3⟩
    · exact .inl h1
    · exact .inr ⟨h2, h3⟩
  · rw [if_neg e, show d1.nx (b : Nat) = d.nx (b : Nat) by unfold DrS.nx; rw [hn]]
    exact h.us b hb4 hb2
theorem KeepD.close (h : KeepD d s) (b : Int) : KeepD (drCl 3 d b) s ∧ LeaveD d (drCl 3 d b) s s := by
  unfold drCl
  by_cases hh : d.has b = true
  · rw [if_pos hh]
    obtain ⟨i, rfl, hi⟩ := h.at_ hh
    exact h.same hi rfl h.bl (fun _ _ h => h) (.inl (Int.le_refl _))
  · rw [if_neg hh]
    exact ⟨h, .refl d s⟩
theorem KeepD.retire (h : KeepD d s) (b : Int) : KeepD (drRe 3 d b) s ∧ LeaveD d (drRe 3 d b) s s := by
  unfold drRe
  by_cases hh : d.has b = true
  · rw [if_pos hh]
    obtain ⟨i, rfl, hi⟩ := h.at_ hh
    refine h.same (d1 := { d with bad := d.bad.set (i : Int).toNat true }) hi rfl (by simp only [List.length_set]; exact h.bl) (fun b hb hb1 => ?_) (.inl (Int.le_refl _))
    unfold DrS.bd at hb1 ⊢
    simp only
    rw [Int.toNat_natCast, Int.toNat_natCast, getD_set (by rw [h.bl]; exact hi)]
    split
    · rfl
    · rwa [Int.toNat_natCast] at hb1
  · rw [if_neg hh]
    exact ⟨h, .refl d s⟩
theorem KeepD.fresh (h : KeepD d s) (b : Int) : KeepD (drFr d s b) s ∧ LeaveD d (drFr d s b) s s := by
  unfold drFr
  by_cases hh : d.askB b = 0 ∧ ∀ k : Nat, k < s.pages.toNat → (s.pg b k).used = false
  · rw [if_pos hh]
    obtain ⟨h1, h2⟩ := askB_zero hh.1
    obtain ⟨i, rfl, hi⟩ := h.at_ h1
    refine h.same hi rfl h.bl (fun _ _ h => h) (.inr ⟨h2, Int.le_refl _, fun k hk => ?_⟩)
    rw [hh.2 k (by rw [h.p]; exact hk)]
    exact (decide_eq_false (by omega)).symm
  · rw [if_neg hh]
    exact ⟨h, .refl d s⟩
theorem KeepD.power (h : KeepD d s) : KeepD d { s with off := false } ∧ LeaveD d d s { s with off := false } := ⟨⟨off_okp h.ok _, h.p, h.z, h.b, h.nl, h.bl, h.br, h.us⟩, ⟨fun _ _ h => h, fun _ _ _ _ _ => rfl⟩⟩
end
/-- A thing that a driver is told. -/
def stepD (k : DldG) (d : DrS) (s : ChS) : DrS × ChS :=
  if k.kind = 1 then ((drRd d s k.b k.p k.level).2.2.1, (drRd d s k.b k.p k.level).2.2.2)
  else if k.kind = 2 then ((drAp 3 4 d s k.b k.l).2.2.1, (drAp 3 4 d s k.b k.l).2.2.2)
  else if k.kind = 3 then ((drEr 3 d s k.b).2.1, (drEr 3 d s k.b).2.2)
  else if k.kind = 4 then (drCl 3 d k.b, s)
  else if k.kind = 5 then (drRe 3 d k.b, s)
  else if k.kind = 6 then (drFr d s k.b, s)
  else (d, { s with off := false })
theorem KeepD.step {d : DrS} {s : ChS} (h : KeepD d s) (k : DldG) (h8 : ∀ x ∈ k.l, x < 256) : KeepD (stepD k d s).1 (stepD k d s).2 ∧ LeaveD d (stepD k d s).1 s (stepD k d s).2 := by
  unfold stepD
  repeat' split
  · exact h.read _ _ _
  · exact h.append _ h8
  · exact h.erase _
  · exact h.close _
  · exact h.retire _
  · exact h.fresh _
  · exact h.power
/-- The chip that chapter 15's statements begin with. -/
def N15 (ms : List Int) (pl : List FtS) : ChS := ChS.new 4 3 4 2 ms pl
theorem some_in (ms : List Int) : ∀ m ∈ someL ms, 0 ≤ m ∧ m < ((4 : Nat) : Int) := fun m hm => by
  unfold someL at hm
  obtain ⟨z, _, rfl⟩ := List.mem_map.1 hm
  have h := ibit_and_mask z (m := 2) (by omega) (s := 3) (by decide)
  rw [h]
  show 0 ≤ z % 4 ∧ z % 4 < 4
  omega
theorem N15_ok {ms : List Int} {pl : List FtS} (h1 : pl.length ≤ 1000) (h2 : ∀ f ∈ pl, f.bits.length ≤ 1000000) : (N15 (someL ms) pl).Ok :=
  new_ok (by decide) (by decide) (by decide) (by decide) (by decide) (by decide) (by decide) (some_in ms) h1 h2
theorem N15_len (ms : List Int) (pl : List FtS) : (N15 ms pl).blocks.length = 4 := by
  unfold N15 ChS.new
  simp only
  rw [marks_len, List.length_replicate]
end Go.Proofs.YtcapijdokbkgaaaDoor
end
section
/- The statement DriveKeeps, walked. Conditions: what comes in is read where it lies; the errors' variables. -/
namespace Go.Proofs.YtcapijdokbkgaaaDoor
open Go Go.Sx Go.Fm
set_option maxRecDepth 100000
structure DkG where
  x : DrG
  y : ChG
/-- Lists of bytes that a walk made. -/
structure WsG where
  l : List BsG
  A : Option Addr
  c : Nat
def BsG.dat (b : BsG) : Atom := own 5 1 b.A b.l.length b.c (nats .u8 b.l)
def WsG.out (q : WsG) : Atom := own 22 1 q.A q.l.length q.c (q.l.flatMap BsG.row)
def WsG.star (q : WsG) : Atom := starA (q.l.map BsG.dat)
/-- The cells of the first so many pages, three a block. -/
structure WasI (s : ChS) (n : Nat) (q : WsG) : Prop where
  n : q.l.length = n
  c : q.l.length ≤ q.c
  at_ : ∀ (j : Nat) (b : BsG), q.l[j]? = some b → b.l = (s.pg ((j / 3 : Nat) : Int) ((j % 3 : Nat) : Int)).cells
theorem WasI.more {s : ChS} {n : Nat} {q : WsG} (h : WasI s n q) {b : BsG} (hb : b.l = (s.pg ((n / 3 : Nat) : Int) ((n % 3 : Nat) : Int)).cells) (A : Option Addr) {c : Nat} (hc : q.l.length + 1 ≤ c) : WasI s (n + 1) ⟨q.l ++ [b], A, c⟩ := by
  refine ⟨by simp only [List.length_append, List.length_cons, List.length_nil]; rw [h.n], by simp only [List.length_append, List.length_cons, List.length_nil]; omega, fun j b2 hj => ?_⟩
  simp only at hj
  by_cases e : j < q.l.length
  · rw [List.getElem?_append_left e] at hj
    exact h.at_ j b2 hj
  · have e2 : j = q.l.length := by
      have := (List.getElem?_eq_some_iff.1 hj).1
      simp only [List.length_append, List.length_cons, List.length_nil] at this
      omega
    subst e2
    rw [List.getElem?_append_right (Nat.le_refl _), Nat.sub_self] at hj
    obtain rfl : b = b2 := by simpa using hj
    rw [hb, h.n]
def bdL (d : DrS) : List Bool := [d.bd ((0 : Nat) : Int), d.bd ((1 : Nat) : Int), d.bd ((2 : Nat) : Int), d.bd ((3 : Nat) : Int)]
end Go.Proofs.YtcapijdokbkgaaaDoor
end
section
/- The document's chip: where it lies. No condition. -/
namespace Go.Proofs.YtcapijdokbkgaaaDoor
open Go Go.Sx
set_option maxRecDepth 100000
structure DpG where
  A : Option Addr
  c : Nat
  l : List Nat
  used : Bool
  B : Option Addr
  d : Nat
  laid : List Nat
def DpG.row (p : DpG) : List Value := [.slice p.A p.l.length p.c, .bool p.used, .slice p.B p.laid.length p.d]
def DpG.own1 (p : DpG) : Atom := own 5 1 p.A p.l.length p.c (nats .u8 p.l)
def DpG.own2 (p : DpG) : Atom := own 5 1 p.B p.laid.length p.d (nats .u8 p.laid)
def DpG.dat (p : DpG) : Atom := starA [p.own1, p.own2]
def DpG.abs (p : DpG) : PgS := ⟨p.l, p.laid, p.used⟩
structure DbG where
  A : Option Addr
  c : Nat
  pages : List DpG
  worn : Int
  marked : Bool
def DbG.hdr (b : DbG) : Value := .slice b.A b.pages.length b.c
def DbG.rows (b : DbG) : Atom := own 67 3 b.A b.pages.length b.c (b.pages.flatMap DpG.row)
def DbG.dat (b : DbG) : Atom := starA [b.rows, starA (b.pages.map DpG.dat)]
def DbG.abs (b : DbG) : BkS := ⟨b.pages.map DpG.abs, b.worn, b.marked⟩
structure DcG where
  pages : Int
  size : Int
  levels : Int
  A : Option Addr
  c : Nat
  blocks : List DbG
  mA : Option Addr
  mc : Nat
  wA : Option Addr
  wc : Nat
  pA : Option Addr
  pc : Nat
  plan : List FtG
  ops : Int
  off : Bool
  broken : Int
def DcG.abs (x : DcG) : ChS := ⟨x.pages, x.size, x.levels, x.blocks.map DbG.abs, x.plan.map FtG.abs, x.ops, x.broken, x.off⟩
def DcG.cells (x : DcG) : Array Value := #[.int .i64 (x.blocks.length : Nat), .int .i64 x.pages, .int .i64 x.size, .int .i64 x.levels, .slice x.A x.blocks.length x.c, .slice x.mA x.blocks.length x.mc, .slice x.wA x.blocks.length x.wc, .slice x.pA x.plan.length x.pc, .int .i64 x.ops, .bool x.off, .int .i64 x.broken]
def DcG.hd (g : Nat) (x : DcG) : Atom := blk g 72 x.cells
def DcG.hds (x : DcG) : Atom := own 68 1 x.A x.blocks.length x.c (x.blocks.map DbG.hdr)
def DcG.bst (x : DcG) : Atom := starA (x.blocks.map DbG.dat)
def mkV (b : DbG) : Value := .bool b.marked
def wnV (b : DbG) : Value := .int .i64 b.worn
def DcG.mks (x : DcG) : Atom := own 4 1 x.mA x.blocks.length x.mc (x.blocks.map mkV)
def DcG.wns (x : DcG) : Atom := own 3 1 x.wA x.blocks.length x.wc (x.blocks.map wnV)
def DcG.parts (g : Nat) (x : DcG) : List Atom := [x.hd g, x.hds, x.bst, x.mks, x.wns]
def docA (g : Nat) (x : DcG) : Atom := starA (x.parts g)
theorem dpRow_len (p : DpG) : p.row.length = 3 := rfl
section
variable {F : Nat → Prop} {w₀ w : World} {L : List Atom} {g : Nat} {x : DcG}
theorem _root_.Go.Sx.St.docO (h : St F w₀ (docA g x :: L) w) : St F w₀ (x.hd g :: x.hds :: x.bst :: x.mks :: x.wns :: L) w := h.open_
theorem _root_.Go.Sx.St.docC (h : St F w₀ (x.hd g :: x.hds :: x.bst :: x.mks :: x.wns :: L) w) : St F w₀ (docA g x :: L) w := St.close_ (x.parts g) h
theorem doc_cell (h : Has (docA g x) w) {j : Nat} {v : Value} (hj : x.cells[j]? = some v) : w.cell? ⟨g, j, none⟩ = some v := (h.starM (A := x.hd g) (by simp [DcG.parts])).cellB hj
theorem doc_hds (h : Has (docA g x) w) : Has (sl 1 x.A x.blocks.length (x.blocks.map DbG.hdr)) w := (h.starM (A := x.hds) (by simp [DcG.parts])).of_own
theorem doc_mks (h : Has (docA g x) w) : Has (sl 1 x.mA x.blocks.length (x.blocks.map mkV)) w := (h.starM (A := x.mks) (by simp [DcG.parts])).of_own
theorem doc_bk (h : Has (docA g x) w) {b : DbG} (hb : b ∈ x.blocks) : Has b.dat w := (h.starM (A := x.bst) (by simp [DcG.parts])).starM (List.mem_map_of_mem hb)
theorem db_rows {b : DbG} (h : Has b.dat w) : Has (sl 3 b.A b.pages.length (b.pages.flatMap DpG.row)) w := (h.starM (A := b.rows) (by simp)).of_own
theorem db_pg {b : DbG} (h : Has b.dat w) {p : DpG} (hp : p ∈ b.pages) : Has p.dat w := (h.starM (A := starA (b.pages.map DpG.dat)) (by simp)).starM (List.mem_map_of_mem hp)
theorem dp_own1 {p : DpG} (h : Has p.dat w) : Has (sl 1 p.A p.l.length (nats .u8 p.l)) w := (h.starM (A := p.own1) (by simp)).of_own
/-- A block taken out, and put back. -/
theorem _root_.Go.Sx.St.dbO {b : DbG} {i : Nat} {bs : List DbG} (hb : bs[i]? = some b) (h : St F w₀ (starA (bs.map DbG.dat) :: L) w) : St F w₀ (b.rows :: starA (b.pages.map DpG.dat) :: starA ((bs.map DbG.dat).eraseIdx i) :: L) w :=
  (h.focus (i := i) (A := b.dat) (by rw [List.getElem?_map, hb]; rfl)).open_
theorem _root_.Go.Sx.St.dbI {b : DbG} {i : Nat} {bs : List DbG} (hi : i < bs.length) (h : St F w₀ (b.rows :: starA (b.pages.map DpG.dat) :: starA ((bs.map DbG.dat).eraseIdx i) :: L) w) : St F w₀ (starA ((bs.set i b).map DbG.dat) :: L) w := by
  have h4 := (St.close_ [b.rows, starA (b.pages.map DpG.dat)] h).unfocus (A' := b.dat) (by simpa using hi)
  rw [← List.map_set] at h4
  exact h4
/-- A page is another. -/
theorem _root_.Go.Sx.St.dpPut {ps : List DpG} {k : Nat} {p : DpG} (hk : k < ps.length) (h : St F w₀ (starA (ps.map DpG.dat) :: p.own1 :: p.own2 :: L) w) : St F w₀ (starA ((ps.set k p).map DpG.dat) :: L) w := by
  have h1 := (h.focus (i := k) (A := (ps[k]).dat) (by rw [List.getElem?_map, List.getElem?_eq_getElem hk]; rfl)).tail
  have h2 : St F w₀ (p.own1 :: p.own2 :: starA ((ps.map DpG.dat).eraseIdx k) :: L) w := h1.perm ((List.Perm.swap ..).trans (List.Perm.cons _ (List.Perm.swap ..)))
  have h3 := (St.close_ [p.own1, p.own2] h2).unfocus (A' := p.dat) (by simpa using hk)
  rw [← List.map_set] at h3
  exact h3
end
def DcG.hitsG (x : DcG) : List FtG := x.plan.filter (fun f => decide (f.op = x.ops))
theorem dhits_abs (x : DcG) : x.hitsG.map FtG.abs = x.abs.hits := by
  unfold DcG.hitsG ChS.hits DcG.abs
  simp only [List.filter_map]
  rfl
theorem dplan_len {x : DcG} (hx : x.abs.Ok) : x.plan.length ≤ 1000 := by
  have h1 := hx.pl
  unfold DcG.abs at h1
  simp only [List.length_map] at h1
  exact h1
theorem dft_bits {x : DcG} (hx : x.abs.Ok) {f : FtG} (h : f ∈ x.plan) : f.bits.length ≤ 1000000 := hx.bt f.abs (List.mem_map_of_mem h)
theorem dfind_some (x : DcG) (k : Int) : (findG x.hitsG k).isSome = (findK x.abs.hits k).isSome := by
  rw [← dhits_abs, ← findG_abs, Option.isSome_map]
theorem dhas_eq (x : DcG) (i : Int) : x.abs.has i = decide (0 ≤ i ∧ i < (x.blocks.length : Int)) := by
  unfold ChS.has DcG.abs
  rw [List.length_map]
theorem dabs_bk {x : DcG} {i : Nat} {bk : DbG} (h : x.blocks[i]? = some bk) : x.abs.blocks[i]? = some bk.abs := by
  show (x.blocks.map DbG.abs)[i]? = _
  rw [List.getElem?_map, h]
  rfl
theorem dbk_pgs {x : DcG} (hx : x.abs.Ok) {i : Nat} {bk : DbG} (h : x.blocks[i]? = some bk) : (bk.pages.length : Int) = x.pages := by
  have := (hx.pg _ (List.mem_of_getElem? (dabs_bk h))).1
  unfold DbG.abs at this
  rw [List.length_map] at this
  exact this
theorem dhas_at {x : DcG} {b : Int} (h : x.abs.has b = true) : ∃ (i : Nat) (bk : DbG), b = (i : Nat) ∧ x.blocks[i]? = some bk ∧ x.abs.bk b = bk.abs := by
  rw [dhas_eq] at h
  have h1 := of_decide_eq_true h
  obtain ⟨i, rfl⟩ := Int.eq_ofNat_of_zero_le h1.1
  have hi : i < x.blocks.length := by omega
  refine ⟨i, _, rfl, List.getElem?_eq_getElem hi, ?_⟩
  unfold ChS.bk
  rw [Int.toNat_natCast, List.getD_eq_getElem?_getD, dabs_bk (List.getElem?_eq_getElem hi), Option.getD_some]
/-- A place that is there. -/
theorem dinn_at {x : DcG} (hx : x.abs.Ok) {b p : Int} (h : x.abs.inn b p = true) : ∃ (i k : Nat) (bk : DbG) (pg : DpG), b = (i : Nat) ∧ p = (k : Nat) ∧ x.blocks[i]? = some bk ∧ bk.pages[k]? = some pg ∧ x.abs.bk b = bk.abs ∧ x.abs.pg b p = pg.abs := by
  obtain ⟨h1, h2, h3⟩ := has_inn h
  obtain ⟨i, bk, hb, hbk, hba⟩ := dhas_at h1
  obtain ⟨k, rfl⟩ := Int.eq_ofNat_of_zero_le h2
  have hp := dbk_pgs hx hbk
  have h3' : ((k : Nat) : Int) < x.pages := h3
  have hk : k < bk.pages.length := by omega
  refine ⟨i, k, bk, _, hb, rfl, hbk, List.getElem?_eq_getElem hk, hba, ?_⟩
  unfold ChS.pg
  rw [hba, Int.toNat_natCast, List.getD_eq_getElem?_getD]
  show ((bk.pages.map DpG.abs)[k]?).getD _ = _
  rw [List.getElem?_map, List.getElem?_eq_getElem hk]
  rfl
theorem dpg_ok {x : DcG} (hx : x.abs.Ok) {i k : Nat} {bk : DbG} {pg : DpG} (hbk : x.blocks[i]? = some bk) (hpg : bk.pages[k]? = some pg) : (pg.l.length : Int) = x.size ∧ (∀ t ∈ pg.l, t < 256) ∧ pg.laid.length ≤ 4096 ∧ ∀ t ∈ pg.laid, t < 256 :=
  (hx.pg _ (List.mem_of_getElem? (dabs_bk hbk))).2 pg.abs (List.mem_map_of_mem (List.mem_of_getElem? hpg))
def DcG.tick (x : DcG) : DcG := { x with ops := wr (x.ops + 1) }
end Go.Proofs.YtcapijdokbkgaaaDoor
end
section
/- The document's chip: what it is asked, bits turned, a read. Conditions: it is lent, or read where it lies; its plan is read. -/
namespace Go.Proofs.YtcapijdokbkgaaaDoor
open Go Go.Sx Go.Fm
set_option maxRecDepth 100000
theorem find_filter {l : List FtG} {o k : Int} : findG (l.filter (fun f => decide (f.op = o))) k = l.find? (fun f => decide (f.op = o) && decide (f.kind = k)) := by
  unfold findG
  rw [List.find?_filter]
  congr 1
  funext a
  rw [Bool.eq_iff_iff, decide_eq_true_iff, Bool.and_eq_true]
theorem dfind_at {x : DcG} {k : Int} {i : Nat} {f : FtG} (hno : ∀ j f, j < i → x.plan[j]? = some f → ¬ (f.op = x.ops ∧ f.kind = k)) (hf : x.plan[i]? = some f) (hk : f.op = x.ops ∧ f.kind = k) : findG x.hitsG k = some f := by
  unfold DcG.hitsG
  rw [find_filter, List.find?_eq_some_iff_getElem]
  have hi := (List.getElem?_eq_some_iff.1 hf).1
  refine ⟨by rw [decide_eq_true hk.1, decide_eq_true hk.2]; rfl, i, hi, (List.getElem?_eq_some_iff.1 hf).2, fun j hj => ?_⟩
  have := hno j _ hj (List.getElem?_eq_getElem (by omega))
  rw [Bool.not_eq_true', Bool.and_eq_false_iff, decide_eq_false_iff_not, decide_eq_false_iff_not]
  exact Decidable.not_and_iff_not_or_not.1 this
theorem dfind_none {x : DcG} {k : Int} (hno : ∀ (j : Nat) f, x.plan[j]? = some f → ¬ (f.op = x.ops ∧ f.kind = k)) : findG x.hitsG k = none := by
  unfold DcG.hitsG
  rw [find_filter, List.find?_eq_none]
  intro f hf
  obtain ⟨j, hj⟩ := List.getElem?_of_mem hf
  rw [Bool.and_eq_true, decide_eq_true_iff, decide_eq_true_iff]
  exact hno j f hj
theorem hdr_at {bs : List DbG} {i : Nat} {b : DbG} (h : bs[i]? = some b) : (bs.map DbG.hdr)[i * 1 + 0]? = some (.slice b.A b.pages.length b.c) := by
  rw [Nat.mul_one, Nat.add_zero, List.getElem?_map, h]
  rfl
theorem hdr_at1 {bs : List DbG} {i : Nat} {b : DbG} (h : bs[i]? = some b) : (bs.map DbG.hdr)[i * 1]? = some (.slice b.A b.pages.length b.c) := hdr_at h
theorem dpage_cell {g : Nat} {x : DcG} {w : World} (hc : Has (docA g x) w) {i k : Nat} {bk : DbG} {pg : DpG} (hb : x.blocks[i]? = some bk) (hp : bk.pages[k]? = some pg) {j : Nat} {v : Value} (hj : pg.row[j]? = some v) : w.cell? ⟨ob bk.A, oo bk.A + k * 3 + j, none⟩ = some v := by
  have hk := (List.getElem?_eq_some_iff.1 hp).1
  exact (db_rows (doc_bk hc (List.mem_of_getElem? hb))).rowAt dpRow_len hp (by omega) j v hj

theorem dempty_spec (g q : Nat) (w : World) (hd : w.cell? ⟨g, 2, none⟩ = some (.int .i64 (q : Nat))) (hq1 : q ≤ 4096) : SpecB Tryd.prog 74 [.pointer (some ⟨g, 0, none⟩)] w (List.replicate q 255) := by
  refine spec_of Tryd.func74 rfl Tryd.ntmps74 rfl ?_
  refine CW.seq ?_
  refine CW.reg [0] rfl ?_
  refine s_as 2 rfl rfl ?_
  refine SX.next ?_
  refine CW.seq ?_
  refine CW.reg [0, 1, 2, 3, 4, 5] rfl ?_
  refine s_mv 5 rfl rfl ?_
  refine s_nil 6 rfl rfl ?_
  refine s_fa 7 rfl rfl ?_
  refine s_ld 8 rfl rfl (v := .int .i64 (q : Nat)) (fun _ hw => hw.cell hd) ?_
  refine s_make 9 q rfl rfl rfl rfl rfl (by omega) (fun _ _ => trivial) (fun gb => ?_)
  refine s_as 3 rfl rfl ?_
  refine SX.next ?_
  refine CW.seq ?_
  refine CW.seq ?_
  refine CW.reg [0] rfl ?_
  refine s_as 4 rfl rfl ?_
  refine SX.next ?_
  refine CW.block ?_
  refine CW.loop (G := Nat) (fun i => [(3, .slice (some ⟨gb, 0, none⟩) q q), (4, .int .i64 (i : Nat))]) (fun i => Sto w [blk gb 5 (List.replicate i (Value.int .u8 255) ++ List.replicate (q - i) (Value.int .u8 0)).toArray]) (fun i => i ≤ q) (fun i => q - i) 0 ⟨rfl, rfl, trivial⟩ (fun _ h => h) (Nat.zero_le _) ?_
  intro i hi
  refine CW.seq ?_
  refine CW.seq ?_
  refine CW.reg [0, 1, 2, 3] rfl ?_
  refine s_mv 10 rfl rfl ?_
  refine s_mv 11 rfl rfl ?_
  refine s_len 12 rfl rfl ?_
  refine s_lt 13 rfl rfl rfl rfl ?_
  refine SX.next ?_
  refine CW.test rfl (fun hc => ?_) (fun hc => ?_)
  · skip
    have hil : i < q := by omega
    refine CW.skip ?_
    refine KN.code ?_
    refine CW.seq ?_
    refine CW.block ?_
    refine CW.reg [0, 1, 2, 3] rfl ?_
    refine s_mv 16 rfl rfl ?_
    refine s_mv 17 rfl rfl ?_
    refine s_ia0 18 i rfl rfl rfl rfl hil ?_
    refine s_stB 0 rfl rfl rfl rfl rfl (by simp; omega) (fun _ _ => trivial) ?_
    refine SX.end_ ?_
    refine KN.blk ?_
    refine KN.code ?_
    refine CW.reg [0, 1, 2] rfl ?_
    refine s_mv 14 rfl rfl ?_
    refine s_add 15 rfl rfl rfl (r := ((i + 1 : Nat) : Int)) (w64 (by omega)) ?_
    refine s_as 4 rfl rfl ?_
    refine SX.end_ ?_
    exact KN.back (i + 1) ⟨rfl, rfl, trivial⟩ (fun _ h => by
  have e : ((List.replicate i (Value.int .u8 255) ++ List.replicate (q - i) (Value.int .u8 0)).toArray.setIfInBounds i (Value.int .u8 255)) = (List.replicate (i + 1) (Value.int .u8 255) ++ List.replicate (q - (i + 1)) (Value.int .u8 0)).toArray := by
    rw [List.setIfInBounds_toArray, List.set_append_right _ _ (by simp), List.length_replicate, Nat.sub_self, show q - i = (q - (i + 1)) + 1 by omega, List.replicate_succ, List.set_cons_zero, List.replicate_succ' (n := i), List.append_assoc]
    rfl
  rw [← e]
  exact h) (by omega) (by omega)
  · skip
    obtain rfl : i = q := by omega
    refine CW.exit rfl ?_
    refine KN.code ?_
    refine CW.seq ?_
    refine CW.reg [0, 1] rfl ?_
    refine s_mv 19 rfl rfl ?_
    refine s_as 2 rfl rfl ?_
    refine SX.next ?_
    refine CW.ret ?_
    exact KN.ret (rs := [.tmp 2]) Tryd.results74 rfl (fun w hw => ⟨(some ⟨gb, 0, none⟩, i), by rw [List.length_replicate]; rfl, by rw [List.length_replicate]; exact Nat.le_refl _, by
  have h1 := hw.blkOwnM (q := 0) (m := i) (c := i) (sz := 1) rfl (by simp) (Nat.le_refl _) (by unfold maxLen; omega)
  rw [Nat.mul_one, List.take_of_length_le (by simp), Nat.sub_self, List.replicate_zero, List.append_nil] at h1
  rw [List.length_replicate, show nats .u8 (List.replicate i 255) = List.replicate i (.int .u8 255) from List.map_replicate]
  exact h1⟩)

theorem dhas_spec (g : Nat) (x : DcG) (b p : Int) (w : World) (hd : Has (docA g x) w) : Spec1 Tryd.prog 76 [.pointer (some ⟨g, 0, none⟩), .agg #[.int .i64 b, .int .i64 p]] w (.bool (x.abs.inn b p)) := by
  have hin : x.abs.inn b p = (decide (0 ≤ b ∧ b < (x.blocks.length : Int)) && decide (0 ≤ p ∧ p < x.pages)) := by unfold ChS.inn; rw [dhas_eq]; rfl
  refine spec_of Tryd.func76 rfl Tryd.ntmps76 rfl ?_
  refine CW.seq ?_
  refine CW.reg [0, 1] rfl ?_
  refine s_box 3 rfl rfl (fun _ _ => trivial) (fun b3 => ?_)
  refine s_as 4 rfl rfl ?_
  refine SX.next ?_
  refine CW.seq ?_
  refine CW.regD (.st true 0 (.st true 1 (.st true 2 (.st true 3 (.st true 4 (.st true 5 (.st true 6 (.st true 7 (.st true 8 (.st true 9 (.st true 10 (.st true 11 (.st true 12 (.st true 13 (.st true 14 (.st true 15 (.st true 16 (.st true 17 (.st true 18 (.st true 19 (.st true 20 (.st true 21 (.st true 22 (.st true 23 (.st true 24 (.st true 25 (.st true 26 .done))))))))))))))))))))))))))) (Sto w [blk b3 31 #[.int .i64 b, .int .i64 p]]) mixed (by kernel_rfl) (fun _ h => h.drew) (fun _ h => h) ?_
  refine s_fa 5 rfl rfl ?_
  refine s_ldS 6 rfl rfl (v := .int .i64 b) (fun _ hw => hw.blkCell (i := 0) (j := 0) rfl rfl) ?_
  refine s_ge 7 rfl rfl rfl rfl ?_
  refine s_mv 8 rfl rfl ?_
  refine SX.bool 8 rfl (fun hb => ?_) (fun hb => ?_)
  · skip
    have h1 := of_decide_eq_true hb
    refine s_fa 9 rfl rfl ?_
    refine s_ldS 10 rfl rfl (v := .int .i64 b) (fun _ hw => hw.blkCell (i := 0) (j := 0) rfl rfl) ?_
    refine s_mv 11 rfl rfl ?_
    refine s_nil 12 rfl rfl ?_
    refine s_fa 13 rfl rfl ?_
    refine s_ldS 14 rfl rfl (v := .int .i64 (x.blocks.length : Nat)) (fun _ hw => doc_cell (hw.old hd) rfl) ?_
    refine s_lt 15 rfl rfl rfl rfl ?_
    refine s_pickT 16 rfl rfl rfl ?_
    refine s_mv 17 rfl rfl ?_
    refine SX.bool 17 rfl (fun hb => ?_) (fun hb => ?_)
    · skip
      have h2 := of_decide_eq_true hb
      refine s_fa 18 rfl rfl ?_
      refine s_ldS 19 rfl rfl (v := .int .i64 p) (fun _ hw => hw.blkCell (i := 0) (j := 1) rfl rfl) ?_
      refine s_ge 20 rfl rfl rfl rfl ?_
      refine s_pickT 21 rfl rfl rfl ?_
      refine s_mv 22 rfl rfl ?_
      refine SX.bool 22 rfl (fun hb => ?_) (fun hb => ?_)
      · skip
        have h3 := of_decide_eq_true hb
        have hz : x.abs.inn b p = decide (p < x.pages) := by rw [hin, decide_eq_true ⟨h1, h2⟩, Bool.true_and]; exact decide_eq_decide.2 ⟨fun h => h.2, fun h => ⟨h3, h⟩⟩
        refine s_fa 23 rfl rfl ?_
        refine s_ldS 24 rfl rfl (v := .int .i64 p) (fun _ hw => hw.blkCell (i := 0) (j := 1) rfl rfl) ?_
        refine s_mv 25 rfl rfl ?_
        refine s_nil 26 rfl rfl ?_
        refine s_fa 27 rfl rfl ?_
        refine s_ldS 28 rfl rfl (v := .int .i64 x.pages) (fun _ hw => doc_cell (hw.old hd) rfl) ?_
        refine s_lt 29 rfl rfl rfl rfl ?_
        refine s_pickT 30 rfl rfl rfl ?_
        refine s_as 4 rfl rfl ?_
        refine SX.next ?_
        refine CW.ret ?_
        exact KN.ret (rs := [.tmp 4]) Tryd.results76 rfl (fun w hw => ⟨by rw [hz]; rfl, hw.nothing⟩)
      · skip
        have h3 := of_decide_eq_false hb
        have hz : x.abs.inn b p = false := by rw [hin, decide_eq_false (show ¬ (0 ≤ p ∧ p < x.pages) from fun h => h3 h.1), Bool.and_false]
        refine SX.skip rfl ?_
        refine SX.skip rfl ?_
        refine SX.skip rfl ?_
        refine SX.skip rfl ?_
        refine SX.skip rfl ?_
        refine SX.skip rfl ?_
        refine SX.skip rfl ?_
        refine s_pickF 30 rfl rfl rfl ?_
        refine s_as 4 rfl rfl ?_
        refine SX.next ?_
        refine CW.ret ?_
        exact KN.ret (rs := [.tmp 4]) Tryd.results76 rfl (fun w hw => ⟨by rw [hz]; rfl, hw.nothing⟩)
    · skip
      have h2 := of_decide_eq_false hb
      have hz : x.abs.inn b p = false := by rw [hin, decide_eq_false (fun h => h2 h.2)]; rfl
      refine SX.skip rfl ?_
      refine SX.skip rfl ?_
      refine SX.skip rfl ?_
      refine s_pickF 21 rfl rfl rfl ?_
      refine s_mv 22 rfl rfl ?_
      refine SX.skip rfl ?_
      refine SX.skip rfl ?_
      refine SX.skip rfl ?_
      refine SX.skip rfl ?_
      refine SX.skip rfl ?_
      refine SX.skip rfl ?_
      refine SX.skip rfl ?_
      refine s_pickF 30 rfl rfl rfl ?_
      refine s_as 4 rfl rfl ?_
      refine SX.next ?_
      refine CW.ret ?_
      exact KN.ret (rs := [.tmp 4]) Tryd.results76 rfl (fun w hw => ⟨by rw [hz]; rfl, hw.nothing⟩)
  · skip
    have h1 := of_decide_eq_false hb
    have hz : x.abs.inn b p = false := by rw [hin, decide_eq_false (fun h => h1 h.1)]; rfl
    refine SX.skip rfl ?_
    refine SX.skip rfl ?_
    refine SX.skip rfl ?_
    refine SX.skip rfl ?_
    refine SX.skip rfl ?_
    refine SX.skip rfl ?_
    refine SX.skip rfl ?_
    refine s_pickF 16 rfl rfl rfl ?_
    refine s_mv 17 rfl rfl ?_
    refine SX.skip rfl ?_
    refine SX.skip rfl ?_
    refine SX.skip rfl ?_
    refine s_pickF 21 rfl rfl rfl ?_
    refine s_mv 22 rfl rfl ?_
    refine SX.skip rfl ?_
    refine SX.skip rfl ?_
    refine SX.skip rfl ?_
    refine SX.skip rfl ?_
    refine SX.skip rfl ?_
    refine SX.skip rfl ?_
    refine SX.skip rfl ?_
    refine s_pickF 30 rfl rfl rfl ?_
    refine s_as 4 rfl rfl ?_
    refine SX.next ?_
    refine CW.ret ?_
    exact KN.ret (rs := [.tmp 4]) Tryd.results76 rfl (fun w hw => ⟨by rw [hz]; rfl, hw.nothing⟩)

theorem dfirst_spec (g : Nat) (x : DcG) (kind : Int) (w : World) (hd : Has (docA g x) w) (hp : PlIn x.pA x.plan w) (hn : x.plan.length ≤ 1000) : Spec1 Tryd.prog 77 [.pointer (some ⟨g, 0, none⟩), .int .i64 kind] w (fndV (findG x.hitsG kind)) := by
  refine spec_of Tryd.func77 rfl Tryd.ntmps77 rfl ?_
  refine CW.seq ?_
  refine CW.reg [0, 1] rfl ?_
  refine s_alloc 4 rfl (fun _ _ => trivial) (fun b4 => ?_)
  refine s_as 5 rfl rfl ?_
  refine SX.next ?_
  refine CW.seq ?_
  refine CW.seq ?_
  refine CW.reg [0] rfl ?_
  refine s_as 6 rfl rfl ?_
  refine SX.next ?_
  refine CW.block ?_
  refine CW.loop (G := Nat) (fun i => [(0, .pointer (some ⟨g, 0, none⟩)), (1, .int .i64 kind), (4, .pointer (some ⟨b4, 0, none⟩)), (6, .int .i64 (i : Nat))]) (fun _ => Sto w [blk b4 48 #[.int .i64 0, .int .i64 0, .int .i64 0, .int .i64 0, .slice none 0 0]]) (fun i => i ≤ x.plan.length ∧ ∀ j f, j < i → x.plan[j]? = some f → ¬ (f.op = x.ops ∧ f.kind = kind)) (fun i => x.plan.length - i) 0 ⟨rfl, rfl, rfl, rfl, trivial⟩ (fun _ h => h) ⟨Nat.zero_le _, fun j f h => by omega⟩ ?_
  rintro i ⟨hi, hno⟩
  refine CW.seq ?_
  refine CW.seq ?_
  refine CW.reg [0, 1, 2, 3, 4, 5, 6] rfl ?_
  refine s_mv 7 rfl rfl ?_
  refine s_mv 8 rfl rfl ?_
  refine s_nil 9 rfl rfl ?_
  refine s_fa 10 rfl rfl ?_
  refine s_ld 11 rfl rfl (v := .slice x.pA x.plan.length x.pc) (fun _ hw => doc_cell (hw.old hd) rfl) ?_
  refine s_len 12 rfl rfl ?_
  refine s_lt 13 rfl rfl rfl rfl ?_
  refine SX.next ?_
  refine CW.test rfl (fun hc => ?_) (fun hc => ?_)
  · skip
    have hil : i < x.plan.length := by omega
    have hg := gF_at hil
    refine CW.skip ?_
    refine KN.code ?_
    refine CW.seq ?_
    refine CW.block ?_
    refine CW.seq ?_
    refine CW.regD (.st true 0 (.st true 1 (.st true 2 (.st true 3 (.st true 4 (.st true 5 (.st true 6 (.st true 7 (.st true 8 (.st true 9 (.st true 10 (.st true 11 (.st true 12 (.st true 13 (.st true 14 (.st true 15 (.st true 16 (.st true 17 (.st true 18 (.st true 19 (.st true 20 (.st true 21 (.st true 22 (.st true 23 (.st true 24 .done))))))))))))))))))))))))) (Sto w [blk b4 48 #[.int .i64 0, .int .i64 0, .int .i64 0, .int .i64 0, .slice none 0 0]]) mixed (by kernel_rfl) (fun _ h => h.drew) (fun _ h => h) ?_
    refine s_mv 16 rfl rfl ?_
    refine s_nil 17 rfl rfl ?_
    refine s_fa 18 rfl rfl ?_
    refine s_ldS 19 rfl rfl (v := .slice x.pA x.plan.length x.pc) (fun _ hw => doc_cell (hw.old hd) rfl) ?_
    refine s_mv 20 rfl rfl ?_
    refine s_iaV 21 i (fun w hw => hw.old hp.rows) rfl rfl rfl rfl hil ?_
    refine s_fa 22 rfl rfl ?_
    refine s_ldS 23 rfl rfl (v := .int .i64 (gF x.plan i).op) (fun _ hw => (hw.old hp.rows).rowAt ftRow_len hg (by omega) 0 _ rfl) ?_
    refine s_mv 24 rfl rfl ?_
    refine s_nil 25 rfl rfl ?_
    refine s_fa 26 rfl rfl ?_
    refine s_ldS 27 rfl rfl (v := .int .i64 x.ops) (fun _ hw => doc_cell (hw.old hd) rfl) ?_
    refine s_eq 28 rfl rfl rfl rfl ?_
    refine s_mv 29 rfl rfl ?_
    refine SX.bool 29 rfl (fun hb => ?_) (fun hb => ?_)
    · skip
      have h1 := of_decide_eq_true hb
      refine s_mv 30 rfl rfl ?_
      refine s_nil 31 rfl rfl ?_
      refine s_fa 32 rfl rfl ?_
      refine s_ldS 33 rfl rfl (v := .slice x.pA x.plan.length x.pc) (fun _ hw => doc_cell (hw.old hd) rfl) ?_
      refine s_mv 34 rfl rfl ?_
      refine s_iaV 35 i (fun w hw => hw.old hp.rows) rfl rfl rfl rfl hil ?_
      refine s_fa 36 rfl rfl ?_
      refine s_ldS 37 rfl rfl (v := .int .i64 (gF x.plan i).kind) (fun _ hw => (hw.old hp.rows).rowAt ftRow_len hg (by omega) 1 _ rfl) ?_
      refine s_mv 38 rfl rfl ?_
      refine s_eq 39 rfl rfl rfl rfl ?_
      refine s_pickT 40 rfl rfl rfl ?_
      refine SX.next ?_
      refine CW.test rfl (fun h2 => ?_) (fun h2 => ?_)
      · skip
        have hfs := dfind_at hno hg ⟨h1, h2⟩
        refine CW.seq ?_
        refine CW.reg [0, 1, 2, 3, 4, 5, 6, 7, 8] rfl ?_
        refine s_mv 41 rfl rfl ?_
        refine s_nil 42 rfl rfl ?_
        refine s_fa 43 rfl rfl ?_
        refine s_ld 44 rfl rfl (v := .slice x.pA x.plan.length x.pc) (fun _ hw => doc_cell (hw.old hd) rfl) ?_
        refine s_mv 45 rfl rfl ?_
        refine s_iaV 46 i (fun w hw => hw.old hp.rows) rfl rfl rfl rfl hil ?_
        refine s_ldR 47 (cs := (gF x.plan i).row) rfl rfl rfl (fun w hw => (hw.old hp.rows).rowAt ftRow_len hg (by omega)) ?_
        refine s_stAll 0 rfl rfl (by kernel_rfl) rfl rfl rfl rfl (fun _ _ => trivial) ?_
        refine s_as 5 rfl rfl ?_
        refine SX.next ?_
        refine CW.ret ?_
        exact KN.retC (rs := [.cell 4 48, .tmp 5]) Tryd.results77 (fun w hw => ⟨[_, _], ⟨⟨_, rfl, hw.ldRow (q := 0) rfl (by rfl)⟩, rfl, trivial⟩, by rw [hfs]; rfl, hw.nothing⟩)
      · skip
        have hnot : ¬ ((gF x.plan i).op = x.ops ∧ (gF x.plan i).kind = kind) := fun h => h2 h.2
        refine CW.skip ?_
        refine KN.blk ?_
        refine KN.code ?_
        refine CW.reg [0, 1, 2] rfl ?_
        refine s_mv 14 rfl rfl ?_
        refine s_add 15 rfl rfl rfl (r := ((i + 1 : Nat) : Int)) (w64 (by omega)) ?_
        refine s_as 6 rfl rfl ?_
        refine SX.end_ ?_
        exact KN.back (i + 1) ⟨rfl, rfl, rfl, rfl, trivial⟩ (fun _ h => h) ⟨by omega, fun j f hj hf => by
  by_cases hji : j = i
  · subst hji; rw [hg] at hf; injection hf with h; subst h; exact hnot
  · exact hno j f (by omega) hf⟩ (by omega)
    · skip
      have h1 := of_decide_eq_false hb
      have hnot : ¬ ((gF x.plan i).op = x.ops ∧ (gF x.plan i).kind = kind) := fun h => h1 h.1
      refine SX.skip rfl ?_
      refine SX.skip rfl ?_
      refine SX.skip rfl ?_
      refine SX.skip rfl ?_
      refine SX.skip rfl ?_
      refine SX.skip rfl ?_
      refine SX.skip rfl ?_
      refine SX.skip rfl ?_
      refine SX.skip rfl ?_
      refine SX.skip rfl ?_
      refine s_pickF 40 rfl rfl rfl ?_
      refine SX.next ?_
      refine CW.condF rfl ?_
      refine CW.skip ?_
      refine KN.blk ?_
      refine KN.code ?_
      refine CW.reg [0, 1, 2] rfl ?_
      refine s_mv 14 rfl rfl ?_
      refine s_add 15 rfl rfl rfl (r := ((i + 1 : Nat) : Int)) (w64 (by omega)) ?_
      refine s_as 6 rfl rfl ?_
      refine SX.end_ ?_
      exact KN.back (i + 1) ⟨rfl, rfl, rfl, rfl, trivial⟩ (fun _ h => h) ⟨by omega, fun j f hj hf => by
  by_cases hji : j = i
  · subst hji; rw [hg] at hf; injection hf with h; subst h; exact hnot
  · exact hno j f (by omega) hf⟩ (by omega)
  · skip
    obtain rfl : i = x.plan.length := by omega
    have hfn := dfind_none (fun j f hj => hno j f (List.getElem?_eq_some_iff.1 hj).1 hj)
    refine CW.exit rfl ?_
    refine KN.code ?_
    refine CW.seq ?_
    refine CW.reg [0, 1, 2] rfl ?_
    refine s_build 48 rfl rfl (cells := #[.int .i64 0, .int .i64 0, .int .i64 0, .int .i64 0, .slice none 0 0]) (by kernel_rfl) ?_
    refine s_stAll 0 rfl rfl (by kernel_rfl) rfl rfl rfl rfl (fun _ _ => trivial) ?_
    refine s_as 5 rfl rfl ?_
    refine SX.next ?_
    refine CW.ret ?_
    exact KN.retC (rs := [.cell 4 48, .tmp 5]) Tryd.results77 (fun w hw => ⟨[_, _], ⟨⟨_, rfl, hw.ldRow (q := 0) rfl (by rfl)⟩, rfl, trivial⟩, by rw [hfn]; rfl, hw.nothing⟩)

theorem dturn_spec (F : Nat → Prop) (A : Option Addr) (c : Nat) (p : List Nat) (B : Option Addr) (d : Nat) (l : List Int) (w : World) (h8 : ∀ x ∈ p, x < 256) (hp : p.length ≤ 1000000) (hB : ∀ w', Fr F w w' → Has (sl 1 B l.length (ints .i64 l)) w') (hl : l.length ≤ 1000000) (hw : St F w [own 5 1 A p.length c (nats .u8 (p))] w) : SpecP Tryd.prog 78 [.slice A p.length c, .slice B l.length d] F w (X := Unit) (fun _ => oneOf []) (fun _ => True) (fun _ => [own 5 1 A p.length c (nats .u8 (turnL p l))]) := by
  refine spec_ofC Tryd.func78 rfl Tryd.ntmps78 rfl hw ?_
  refine CW.seq ?_
  refine CW.reg [0] rfl ?_
  refine s_as 4 rfl rfl ?_
  refine SX.next ?_
  refine CW.block ?_
  refine CW.loop (G := Nat) (fun i => [(0, .slice A p.length c), (1, .slice B l.length d), (4, .int .i64 (i : Nat))]) (fun i => St F w [own 5 1 A p.length c (nats .u8 (turnL p (l.take i)))]) (fun i => i ≤ l.length) (fun i => l.length - i) 0 ⟨rfl, rfl, rfl, trivial⟩ (fun _ h => h) (Nat.zero_le _) ?_
  intro i hi
  refine CW.seq ?_
  refine CW.seq ?_
  refine CW.reg [0, 1, 2, 3] rfl ?_
  refine s_mv 5 rfl rfl ?_
  refine s_mv 6 rfl rfl ?_
  refine s_len 7 rfl rfl ?_
  refine s_lt 8 rfl rfl rfl rfl ?_
  refine SX.next ?_
  refine CW.test rfl (fun hc => ?_) (fun hc => ?_)
  · skip
    have hil : i < l.length := by omega
    have hnx := turnL_take (b := p) hil
    have hln := turnL_len p (l.take i)
    have h82 := turnL_lt h8 (l.take i)
    refine CW.skip ?_
    refine KN.code ?_
    refine CW.seq ?_
    refine CW.block ?_
    refine CW.seq ?_
    refine CW.reg [0, 1, 2, 3, 4, 5, 6, 7, 8, 9, 10, 11, 12, 13, 14] rfl ?_
    refine s_mv 11 rfl rfl ?_
    refine s_mv 12 rfl rfl ?_
    refine s_iaV 13 i (fun w hw => hB _ hw.fr) rfl rfl rfl rfl hil ?_
    refine s_ldV 14 (fun w hw => hB _ hw.fr) rfl rfl (by rw [Nat.mul_one]; exact intsAt hil) (by omega) ?_
    refine s_ge 15 rfl rfl rfl rfl ?_
    refine s_mv 16 rfl rfl ?_
    refine SX.bool 16 rfl (fun hb => ?_) (fun hb => ?_)
    · skip
      have h1 := of_decide_eq_true hb
      refine s_mv 17 rfl rfl ?_
      refine s_mv 18 rfl rfl ?_
      refine s_iaV 19 i (fun w hw => hB _ hw.fr) rfl rfl rfl rfl hil ?_
      refine s_ldV 20 (fun w hw => hB _ hw.fr) rfl rfl (by rw [Nat.mul_one]; exact intsAt hil) (by omega) ?_
      refine s_mv 21 rfl rfl ?_
      refine s_len 22 rfl rfl ?_
      refine s_mul 23 rfl rfl rfl (r := ((8 * p.length : Nat) : Int)) (by rw [show (8 : Int) * ((p.length : Nat) : Int) = ((8 * p.length : Nat) : Int) by omega]; exact w64 (by omega)) ?_
      refine s_lt 24 rfl rfl rfl rfl ?_
      refine s_pickT 25 rfl rfl rfl ?_
      refine SX.next ?_
      refine CW.test rfl (fun h2 => ?_) (fun h2 => ?_)
      · skip
        obtain ⟨k, hk⟩ := Int.eq_ofNat_of_zero_le h1
        have hk8 : k / 8 < p.length := by omega
        have hm8 : k % 8 < 8 := Nat.mod_lt _ (by decide)
        have hnx2 : turn1 (turnL p (l.take i)) (l.getD i 0) = (turnL p (l.take i)).set (k / 8) ((turnL p (l.take i)).getD (k / 8) 0 ^^^ 2 ^ (k % 8)) := by
          unfold turn1
          rw [if_pos (by rw [hln]; omega), hk, Int.toNat_natCast]
        refine CW.regD (.st true 0 (.st true 1 (.st true 2 (.st true 3 (.st true 4 (.st true 5 (.st true 6 (.st true 7 (.st true 8 (.st true 9 (.st true 10 (.st true 11 (.st true 12 (.st true 14 (.st true 15 (.st true 16 (.st true 17 (.st true 18 (.st true 19 (.st true 20 (.st false 13 (.st true 21 (.st true 22 (.st false 23 .done)))))))))))))))))))))))) (fun w2 => Has (sl 1 B l.length (ints .i64 l)) w2) mixed (by kernel_rfl) (fun _ h => h.drew) (fun _ h => hB _ h.fr) ?_
        refine s_mv 26 rfl rfl ?_
        refine s_mv 27 rfl rfl ?_
        refine s_mv 28 rfl rfl ?_
        refine s_iaV 29 i (fun w hw => hB _ hw.fr) rfl rfl rfl rfl hil ?_
        refine s_ldVS 30 (fun w hw => hw) rfl rfl (by rw [Nat.mul_one]; exact intsAt hil) (by omega) ?_
        refine s_quo 31 rfl rfl rfl (by omega) (r := ((k / 8 : Nat) : Int)) (by rw [hk, show ((k : Nat) : Int).tdiv 8 = ((k / 8 : Nat) : Int) from rfl]; exact w64 (by omega)) ?_
        refine s_mv 32 rfl rfl ?_
        refine s_mv 33 rfl rfl ?_
        refine s_mv 34 rfl rfl ?_
        refine s_iaV 35 i (fun w hw => hB _ hw.fr) rfl rfl rfl rfl hil ?_
        refine s_ldVS 36 (fun w hw => hw) rfl rfl (by rw [Nat.mul_one]; exact intsAt hil) (by omega) ?_
        refine s_quo 37 rfl rfl rfl (by omega) (r := ((k / 8 : Nat) : Int)) (by rw [hk, show ((k : Nat) : Int).tdiv 8 = ((k / 8 : Nat) : Int) from rfl]; exact w64 (by omega)) ?_
        refine s_iaO 38 0 (k / 8) rfl rfl rfl rfl rfl hk8 ?_
        refine s_mv 40 rfl rfl ?_
        refine s_mv 41 rfl rfl ?_
        refine s_iaV 42 i (fun w hw => hB _ hw.fr) rfl rfl rfl rfl hil ?_
        refine s_ldVS 43 (fun w hw => hw) rfl rfl (by rw [Nat.mul_one]; exact intsAt hil) (by omega) ?_
        refine s_rem 44 rfl rfl rfl (by omega) (r := ((k % 8 : Nat) : Int)) (by rw [hk]; rfl) ?_
        refine s_conv 45 rfl rfl (r := ((k % 8 : Nat) : Int)) (wu64' (by omega)) ?_
        refine s_shl 46 rfl rfl rfl (by omega) (r := ((2 ^ (k % 8) : Nat) : Int)) (shl1_u8 hm8) ?_
        refine s_ldO 39 0 rfl rfl rfl (natsAt8 (by rw [hln]; exact hk8)) ?_
        refine s_bit 47 rfl rfl rfl rfl (r := (((turnL p (l.take i)).getD (k / 8) 0 ^^^ 2 ^ (k % 8) : Nat) : Int)) (ibit_xor_u8 (getD_lt8 h82 _) (show 2 ^ (k % 8) < 2 ^ 8 from Nat.pow_lt_pow_of_lt (by decide) hm8)) ?_
        refine s_iaO 48 0 (k / 8) rfl rfl rfl rfl rfl hk8 ?_
        refine s_stO 0 rfl rfl rfl rfl rfl hk8 (fun _ h => hB _ h.fr) ?_
        refine SX.end_ ?_
        refine KN.blk ?_
        refine KN.code ?_
        refine CW.reg [0, 1, 2] rfl ?_
        refine s_mv 9 rfl rfl ?_
        refine s_add 10 rfl rfl rfl (r := ((i + 1 : Nat) : Int)) (w64 (by omega)) ?_
        refine s_as 4 rfl rfl ?_
        refine SX.end_ ?_
        exact KN.back (i + 1) ⟨rfl, rfl, rfl, trivial⟩ (fun _ h => by rw [hnx, hnx2, nats8_set]; exact h) (by omega) (by omega)
      · skip
        have hnx2 : turn1 (turnL p (l.take i)) (l.getD i 0) = turnL p (l.take i) := by
          unfold turn1
          rw [if_neg (by rw [hln]; omega)]
        refine CW.skip ?_
        refine KN.blk ?_
        refine KN.code ?_
        refine CW.reg [0, 1, 2] rfl ?_
        refine s_mv 9 rfl rfl ?_
        refine s_add 10 rfl rfl rfl (r := ((i + 1 : Nat) : Int)) (w64 (by omega)) ?_
        refine s_as 4 rfl rfl ?_
        refine SX.end_ ?_
        exact KN.back (i + 1) ⟨rfl, rfl, rfl, trivial⟩ (fun _ h => by rw [hnx, hnx2]; exact h) (by omega) (by omega)
    · skip
      have h1 := of_decide_eq_false hb
      have hnx2 : turn1 (turnL p (l.take i)) (l.getD i 0) = turnL p (l.take i) := by
        unfold turn1
        rw [if_neg (by omega)]
      refine SX.skip rfl ?_
      refine SX.skip rfl ?_
      refine SX.skip rfl ?_
      refine SX.skip rfl ?_
      refine SX.skip rfl ?_
      refine SX.skip rfl ?_
      refine SX.skip rfl ?_
      refine SX.skip rfl ?_
      refine s_pickF 25 rfl rfl rfl ?_
      refine SX.next ?_
      refine CW.condF rfl ?_
      refine CW.skip ?_
      refine KN.blk ?_
      refine KN.code ?_
      refine CW.reg [0, 1, 2] rfl ?_
      refine s_mv 9 rfl rfl ?_
      refine s_add 10 rfl rfl rfl (r := ((i + 1 : Nat) : Int)) (w64 (by omega)) ?_
      refine s_as 4 rfl rfl ?_
      refine SX.end_ ?_
      exact KN.back (i + 1) ⟨rfl, rfl, rfl, trivial⟩ (fun _ h => by rw [hnx, hnx2]; exact h) (by omega) (by omega)
  · skip
    obtain rfl : i = l.length := by omega
    refine CW.exit rfl ?_
    exact KN.ret (rs := []) Tryd.results78 rfl (fun w hw => ⟨(), rfl, trivial, by rw [List.take_length] at hw; exact hw⟩)
end Go.Proofs.YtcapijdokbkgaaaDoor
end
