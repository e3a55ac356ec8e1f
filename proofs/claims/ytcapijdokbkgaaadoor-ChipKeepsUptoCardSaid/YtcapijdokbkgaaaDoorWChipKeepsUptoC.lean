/- The walk of the statement ChipKeepsUpto, text 3. Conditions: each theorem tells its own. -/
import Derived.Test.YtcapijdokbkgaaaDoorWChipKeepsUptoB
import Derived.Test.YtcapijdokbkgaaaDoorRows
import Derived.Deep.Strs
section
/- What slices of faults, and of things that a chip or a driver is told, give a walk, with their bulk. No condition. -/
namespace Go.Sx
open Go Go.ChangeShapes Go.WideShapes Go.Deep
open Go.Proofs.YtcapijdokbkgaaaDoor.Rows (uptoBulk uptoBulkAll)
set_option maxRecDepth 100000
section
variable {H : Type} {enc : TypeId × Value → H} {P : Program} {W : World} {base b0 : Nat} {spare : Nat → Bool} {held : Bool}
theorem bulk_pos : ∀ d : DataW H, 1 ≤ uptoBulk d
  | .lit l => by cases l <;> simp [uptoBulk]
  | .nil => by simp [uptoBulk]
  | .ptr _ => by simp only [uptoBulk]; omega
  | .slice _ _ => by simp only [uptoBulk]; omega
  | .agg _ => by simp only [uptoBulk]; omega
  | .iface _ _ => by simp only [uptoBulk]; omega
  | .map _ => by simp only [uptoBulk]; omega
  | .held _ => by simp [uptoBulk]
theorem bulk_len : ∀ l : List (DataW H), l.length ≤ uptoBulkAll l
  | [] => Nat.zero_le _
  | d :: l => by
    have h1 := bulk_pos d
    have h2 := bulk_len l
    simp only [uptoBulkAll, List.length_cons]
    omega
theorem bulk_mem {d : DataW H} : ∀ {l : List (DataW H)}, d ∈ l → uptoBulk d ≤ uptoBulkAll l
  | e :: l, h => by
    simp only [uptoBulkAll]
    rcases List.mem_cons.1 h with rfl | h
    · omega
    · have := bulk_mem h
      omega
theorem bulk_slice (l r : List (DataW H)) : uptoBulk (.slice l r) = uptoBulkAll l + uptoBulkAll r + 1 := by simp only [uptoBulk]
theorem bulk_agg (l : List (DataW H)) : uptoBulk (.agg l) = uptoBulkAll l + 1 := by simp only [uptoBulk]
/-- The rows of a slice's elements, each with its own reading. -/
theorem open_rowS {t e : TypeId} {s fuel : Nat} {v : Value} {x : DataW H × List MemPlace} (ht : P.underlying t = some (.slice e)) (hc : P.cellsOf e = s) (hs : 0 < s) (hf : DataW.trod enc P W base spare held fuel t [v] = some x) :
    ∃ (A : Option Addr) (n c : Nat) (rows : List (List Value)), v = .slice A n c ∧ n ≤ c ∧ (c : Int) ≤ 9223372036854775807 ∧ rows.length = n ∧ (∀ r ∈ rows, r.length = s ∧ ∃ m y, DataW.trod enc P W base spare held m e r = some y ∧ uptoBulk y.1 ≤ uptoBulk x.1) ∧ n ≤ uptoBulk x.1 ∧ Has (sl s A n rows.flatten) W := by
  rcases DataW.trod_slice ht hf with ⟨hcs, _⟩ | ⟨a, n, c, elems, rest, m, _, hcs, hx, hb, hl, hm, hlen, hel, _, _⟩
  · simp only [List.cons.injEq, and_true] at hcs
    subst hcs
    exact ⟨none, 0, 0, [], rfl, Nat.le_refl _, by omega, rfl, (fun r hr => absurd hr (List.not_mem_nil)), Nat.zero_le _, Has.sl_nil W s none⟩
  · simp only [List.cons.injEq, and_true] at hcs
    subst hcs
    subst hc
    have key : ∀ i, i < n → ∃ r, W.cells? base (a.add (i * P.cellsOf e)) (P.cellsOf e) = some r ∧ ∃ y, DataW.trod enc P W base spare held m e r = some y ∧ uptoBulk y.1 ≤ uptoBulk x.1 := fun i hi => by
      have h1 := hel i hi
      rw [List.getElem?_eq_getElem (by omega), Option.bind_eq_some_iff] at h1
      obtain ⟨r, h2, h3⟩ := h1
      refine ⟨r, h2, _, h3, ?_⟩
      rw [hx, bulk_slice]
      have := bulk_mem (List.mem_map_of_mem (f := (·.1)) (List.getElem_mem (h := (by omega : i < elems.length))))
      omega
    have hrows : ∀ k, k ≤ n → ∃ rows : List (List Value), rows.length = k ∧ (∀ r ∈ rows, r.length = P.cellsOf e ∧ ∃ m y, DataW.trod enc P W base spare held m e r = some y ∧ uptoBulk y.1 ≤ uptoBulk x.1) ∧ ∀ i, i < k → W.cells? base (a.add (i * P.cellsOf e)) (P.cellsOf e) = rows[i]? := by
      intro k
      induction k with
      | zero => exact fun _ => ⟨[], rfl, (fun r hr => absurd hr (List.not_mem_nil)), fun i hi => by omega⟩
      | succ k ih =>
        intro hk
        obtain ⟨rows, k1, k2, k3⟩ := ih (by omega)
        obtain ⟨r, h1, h2⟩ := key k (by omega)
        refine ⟨rows ++ [r], by simp [k1], fun r2 hr2 => ?_, fun i hi => ?_⟩
        · rcases List.mem_append.1 hr2 with h | h
          · exact k2 r2 h
          · obtain rfl : r2 = r := by simpa using h
            exact ⟨(World.cells?_some h1).2.1, m, h2⟩
        · by_cases hik : i < k
          · rw [k3 i hik, List.getElem?_append_left (by omega)]
          · obtain rfl : i = k := by omega
            rw [h1, List.getElem?_append_right (by omega), k1, Nat.sub_self]
            rfl
    obtain ⟨rows, k1, k2, k3⟩ := hrows n (Nat.le_refl _)
    refine ⟨some a, n, c, rows, rfl, hl, by unfold maxLen at hm; omega, k1, k2, ?_, ?_⟩
    · rw [hx, bulk_slice]
      have := bulk_len (elems.map (·.1))
      rw [List.length_map] at this
      omega
    by_cases hn : n = 0
    · subst hn
      obtain rfl := List.eq_nil_of_length_eq_zero k1
      exact Has.sl_nil W _ (some a)
    · have hcell : ∀ i, i < n → ∀ j, j < P.cellsOf e → W.cell? (a.add (i * P.cellsOf e + j)) = rows.flatten[i * P.cellsOf e + j]? := by
        intro i hi j hj
        have h1 : ∃ r, rows[i]? = some r := ⟨_, List.getElem?_eq_getElem (by omega)⟩
        obtain ⟨r, hr⟩ := h1
        have h2 := (World.cells?_some ((k3 i hi).trans hr)).2.2 j hj
        have e1 : (a.add (i * P.cellsOf e)).add j = a.add (i * P.cellsOf e + j) := by
          unfold Addr.add
          by_cases z1 : i * P.cellsOf e = 0
          · rw [if_pos z1, z1, Nat.zero_add]
          · by_cases z2 : j = 0
            · subst z2; simp
            · rw [if_neg z1, if_neg z2, if_neg (by omega)]
              simp [Nat.add_assoc]
        rw [e1] at h2
        rw [h2]
        clear h2 e1 hel key hrows k3
        have hl2 : ∀ (rows : List (List Value)) (i : Nat), (∀ r ∈ rows, r.length = P.cellsOf e) → rows[i]? = some r → rows.flatten[i * P.cellsOf e + j]? = r[j]? := by
          intro rows
          induction rows with
          | nil => intro i _ h; simp at h
          | cons r0 rows ih =>
            intro i hrl h
            have hr0 := hrl r0 (by simp)
            cases i with
            | zero =>
              obtain rfl : r0 = r := by simpa using h
              rw [List.flatten_cons, List.getElem?_append_left (by omega)]
              congr 1
              omega
            | succ i =>
              rw [List.flatten_cons, List.getElem?_append_right (by rw [hr0, Nat.succ_mul]; omega), hr0, ← ih i (fun r hr => hrl r (by simp [hr])) (by simpa using h)]
              congr 1
              rw [Nat.succ_mul]
              omega
        exact (hl2 rows i (fun r hr => (k2 r hr).1) hr).symm
      have hfl : rows.flatten.length = n * P.cellsOf e := by
        have : ∀ rows : List (List Value), (∀ r ∈ rows, r.length = P.cellsOf e) → rows.flatten.length = rows.length * P.cellsOf e := by
          intro rows
          induction rows with
          | nil => intro _; simp
          | cons r0 rows ih =>
            intro hrl
            rw [List.flatten_cons, List.length_append, ih (fun r hr => hrl r (by simp [hr])), hrl r0 (by simp), List.length_cons, Nat.succ_mul]
            omega
        rw [this rows (fun r hr => (k2 r hr).1), k1]
      have hall : ∀ q, q < n * P.cellsOf e → W.cell? (a.add q) = rows.flatten[q]? := fun q hq => by
        have hq1 : q / P.cellsOf e < n := (Nat.div_lt_iff_lt_mul hs).2 hq
        have := hcell _ hq1 (q % P.cellsOf e) (Nat.mod_lt _ hs)
        rwa [Nat.div_add_mod'] at this
      have hpos : 0 < n * P.cellsOf e := Nat.mul_pos (by omega) hs
      have h0 := hall 0 hpos
      rw [List.getElem?_eq_getElem (by omega)] at h0
      have ha : a = ⟨a.block, a.off, none⟩ := by
        cases a with
        | mk b o sp =>
          cases sp with
          | none => rfl
          | some x => simp [Addr.add, World.cell?] at h0; split at h0 <;> simp_all
      refine ⟨fun b => b = a.block, ⟨hfl, fun _ => ⟨by simp only [ob, oo]; rw [← ha], rfl, fun j v hj => ?_⟩⟩, fun b hb => ?_⟩
      · have hjn := (List.getElem?_eq_some_iff.1 hj).1
        have h1 := hall j (by omega)
        rw [ha, add_at, hj] at h1
        exact h1
      · subst hb
        have := World.block_lt_of_cell? W _ h0
        rwa [block_add] at this
theorem open_rowB {t e : TypeId} (ht : P.underlying t = some (.slice e)) (he : P.underlying e = some (.int .u8)) (hc : P.cellsOf e = 1) {fuel : Nat} {v : Value} {x : DataW H × List MemPlace} (hf : DataW.trod enc P W base spare held fuel t [v] = some x) :
    ∃ A n c p, v = .slice A n c ∧ n ≤ c ∧ (c : Int) ≤ 9223372036854775807 ∧ p.length = n ∧ Has (sl 1 A n (nats .u8 p)) W ∧ ∀ x ∈ p, x < 256 := by
  rcases open_ints ht he hc hf with ⟨hcs2, _⟩ | ⟨a, n, c, zs, hcs2, _, hl, hm, hz, _, hcell, hw⟩
  · simp only [List.cons.injEq, and_true] at hcs2
    subst hcs2
    exact ⟨none, 0, 0, [], rfl, Nat.le_refl _, by omega, rfl, Has.sl_nil W 1 none, fun z hz => by simp at hz⟩
  · simp only [List.cons.injEq, and_true] at hcs2
    subst hcs2
    have hlz : n ≤ zs.length := by rw [hz]; split <;> omega
    have hlen : (zs.take n).length = n := by rw [List.length_take]; exact Nat.min_eq_left hlz
    have hb : ∀ z ∈ zs.take n, 0 ≤ z ∧ z < 256 := fun z hz => by
      have := hw z (List.mem_of_mem_take hz)
      simp only [Lit.wf, Bool.and_eq_true, decide_eq_true_eq] at this
      have e1 : IntKind.u8.min = 0 := by decide
      have e2 : IntKind.u8.max = 255 := by decide
      omega
    refine ⟨some a, n, c, (zs.take n).map Int.toNat, rfl, hl, by unfold maxLen at hm; omega, by rw [List.length_map]; exact hlen, ?_, fun x hx => ?_⟩
    · have e2 : nats .u8 ((zs.take n).map Int.toNat) = ints .u8 (zs.take n) := by
        unfold nats ints
        rw [List.map_map]
        exact List.map_congr_left (fun z hz => by
          show Value.int .u8 ((z.toNat : Nat) : Int) = Value.int .u8 z
          rw [Int.toNat_of_nonneg (hb z hz).1])
      rw [e2]
      by_cases hn : n = 0
      · subst hn
        exact Has.sl_nil W 1 (some a)
      · have h0 := hcell 0 (by omega)
        have ha : a = ⟨a.block, a.off, none⟩ := by
          cases a with
          | mk b o sp =>
            cases sp with
            | none => rfl
            | some x => simp [Addr.add, World.cell?] at h0; split at h0 <;> simp_all
        refine ⟨fun b => b = a.block, ⟨by simp only [ints, List.length_map, hlen, Nat.mul_one], fun _ => ⟨by simp only [ob, oo]; rw [← ha], rfl, fun j v hj => ?_⟩⟩, fun b hb => ?_⟩
        · have hjn : j < n := by
            have := (List.getElem?_eq_some_iff.1 hj).1
            simp only [ints, List.length_map, hlen] at this
            exact this
          rw [intsAt (by omega)] at hj
          have hc2 := hcell j (by omega)
          rw [ha, add_at] at hc2
          simp only [ob, oo]
          rw [hc2, ← hj]
          simp [hjn]
        · subst hb
          have hc2 := hcell 0 (by omega)
          have := World.block_lt_of_cell? W _ hc2
          rwa [block_add] at this
    · obtain ⟨z, hz, rfl⟩ := List.mem_map.1 hx
      have := hb z hz
      omega

theorem open_rowI {t e : TypeId} (ht : P.underlying t = some (.slice e)) (he : P.underlying e = some (.int .i64)) (hc : P.cellsOf e = 1) {fuel : Nat} {v : Value} {x : DataW H × List MemPlace} (hf : DataW.trod enc P W base spare held fuel t [v] = some x) :
    ∃ A n c p, v = .slice A n c ∧ n ≤ c ∧ (c : Int) ≤ 9223372036854775807 ∧ p.length = n ∧ Has (sl 1 A n (ints .i64 p)) W ∧ n ≤ uptoBulk x.1 := by
  rcases open_ints ht he hc hf with ⟨hcs2, _⟩ | ⟨a, n, c, zs, hcs2, _, hl, hm, hz, hx, hcell, hw⟩
  · simp only [List.cons.injEq, and_true] at hcs2
    subst hcs2
    exact ⟨none, 0, 0, [], rfl, Nat.le_refl _, by omega, rfl, Has.sl_nil W 1 none, Nat.zero_le _⟩
  · simp only [List.cons.injEq, and_true] at hcs2
    subst hcs2
    have hlz : n ≤ zs.length := by rw [hz]; split <;> omega
    have hlen : (zs.take n).length = n := by rw [List.length_take]; exact Nat.min_eq_left hlz
    refine ⟨some a, n, c, zs.take n, rfl, hl, by unfold maxLen at hm; omega, hlen, ?_, ?_⟩
    · by_cases hn : n = 0
      · subst hn
        exact Has.sl_nil W 1 (some a)
      · have h0 := hcell 0 (by omega)
        have ha : a = ⟨a.block, a.off, none⟩ := by
          cases a with
          | mk b o sp =>
            cases sp with
            | none => rfl
            | some x => simp [Addr.add, World.cell?] at h0; split at h0 <;> simp_all
        refine ⟨fun b => b = a.block, ⟨by simp only [ints, List.length_map, hlen, Nat.mul_one], fun _ => ⟨by simp only [ob, oo]; rw [← ha], rfl, fun j v hj => ?_⟩⟩, fun b hb => ?_⟩
        · have hjn : j < n := by
            have := (List.getElem?_eq_some_iff.1 hj).1
            simp only [ints, List.length_map, hlen] at this
            exact this
          rw [intsAt (by omega)] at hj
          have hc2 := hcell j (by omega)
          rw [ha, add_at] at hc2
          simp only [ob, oo]
          rw [hc2, ← hj]
          simp [hjn]
        · subst hb
          have hc2 := hcell 0 (by omega)
          have := World.block_lt_of_cell? W _ hc2
          rwa [block_add] at this
    · rw [hx, bulk_slice]
      have := bulk_len (H := H) (lits .i64 (zs.take n))
      have h2 : (lits (H := H) .i64 (zs.take n)).length = n := by unfold lits; rw [List.length_map]; exact hlen
      omega
theorem rows_any {α : Type} {row : α → List Value} {Q : List Value → Prop} {R : α → Prop} (hQ : ∀ r, Q r → ∃ a, r = row a ∧ R a) : ∀ rows : List (List Value), (∀ r ∈ rows, Q r) → ∃ l : List α, l.length = rows.length ∧ rows.flatten = l.flatMap row ∧ ∀ a ∈ l, R a
  | [], _ => ⟨[], rfl, rfl, fun e he => by cases he⟩
  | r :: rows, h => by
    obtain ⟨l, h1, h2, h3⟩ := rows_any hQ rows (fun r hr => h r (by simp [hr]))
    obtain ⟨a, rfl, h4⟩ := hQ r (h r (by simp))
    refine ⟨a :: l, by simp [h1], by rw [List.flatten_cons, h2]; rfl, fun e he => ?_⟩
    rcases List.mem_cons.1 he with rfl | he
    · exact h4
    · exact h3 e he
end
end Go.Sx
namespace Go.Proofs.YtcapijdokbkgaaaDoor
open Go Go.Sx Go.ChangeShapes Go.WideShapes Go.Deep
open Go.Proofs.YtcapijdokbkgaaaDoor.Rows (uptoBulk uptoBulkAll)
/-! ### What is told -/
/-- Faults that come in. -/
structure PlRead (A : Option Addr) (l : List FtG) (w : World) : Prop where
  rows : Has (sl 5 A l.length (l.flatMap FtG.row)) w
  bits : ∀ f ∈ l, Has (sl 1 f.A f.bits.length (ints .i64 f.bits)) w
  lens : ∀ f ∈ l, f.bits.length ≤ 1048576
theorem PlRead.turn {A : Option Addr} {l : List FtG} {w w' : World} (h : PlRead A l w) (hw : Fr (Old w) w w') : PlRead A l w' := ⟨h.rows.turn hw, fun f hf => (h.bits f hf).turn hw, h.lens⟩
def i64B (n : Int) : Prop := -9223372036854775808 ≤ n ∧ n ≤ 9223372036854775807
structure ToldG where
  kind : Int
  b : Int
  p : Int
  level : Int
  A : Option Addr
  c : Nat
  l : List Nat
  pA : Option Addr
  pc : Nat
  plan : List FtG
def ToldG.row (d : ToldG) : List Value := [.int .i64 d.kind, .int .i64 d.b, .int .i64 d.p, .int .i64 d.level, .slice d.A d.l.length d.c, .slice d.pA d.plan.length d.pc]
theorem toRow_len (d : ToldG) : d.row.length = 6 := rfl
structure ToldIn (d : ToldG) (w : World) : Prop where
  bytes : Has (sl 1 d.A d.l.length (nats .u8 d.l)) w
  lt : ∀ x ∈ d.l, x < 256
  plan : PlRead d.pA d.plan w
  hb : i64B d.b
  hp : i64B d.p
/-- Things that a chip is told, where they lie. -/
structure TellIn (A : Option Addr) (l : List ToldG) (w : World) : Prop where
  rows : Has (sl 6 A l.length (l.flatMap ToldG.row)) w
  each : ∀ d ∈ l, ToldIn d w

structure FtT (P : Program) (t ti ts : TypeId) : Prop where
  ht : ∃ f0 f1 f2 f3 f4 : Field, P.underlying t = some (.struct #[f0, f1, f2, f3, f4]) ∧ (f0.type = ti ∧ f1.type = ti ∧ f2.type = ti ∧ f3.type = ti ∧ f4.type = ts) ∧ f0.offset = 0 ∧ f1.offset = 1 ∧ f2.offset = 2 ∧ f3.offset = 3 ∧ f4.offset = 4
  hi : P.underlying ti = some (.int .i64)
  hs : P.underlying ts = some (.slice ti)
  ci : P.cellsOf ti = 1
  cs : P.cellsOf ts = 1
  ct : P.cellsOf t = 5
structure PcT (P : Program) (t ti : TypeId) : Prop where
  ht : ∃ f0 f1 : Field, P.underlying t = some (.struct #[f0, f1]) ∧ (f0.type = ti ∧ f1.type = ti) ∧ f0.offset = 0 ∧ f1.offset = 1
  hi : P.underlying ti = some (.int .i64)
  ci : P.cellsOf ti = 1
  ct : P.cellsOf t = 2
structure DoT (P : Program) (t ti tp tb t8 tf : TypeId) : Prop where
  ht : ∃ f0 f1 f2 f3 f4 : Field, P.underlying t = some (.struct #[f0, f1, f2, f3, f4]) ∧ (f0.type = ti ∧ f1.type = tp ∧ f2.type = ti ∧ f3.type = tb ∧ f4.type = tf) ∧ f0.offset = 0 ∧ f1.offset = 1 ∧ f2.offset = 3 ∧ f3.offset = 4 ∧ f4.offset = 5
  hi : P.underlying ti = some (.int .i64)
  hb : P.underlying tb = some (.slice t8)
  h8 : P.underlying t8 = some (.int .u8)
  ci : P.cellsOf ti = 1
  cp : P.cellsOf tp = 2
  cb : P.cellsOf tb = 1
  c8 : P.cellsOf t8 = 1
  cf : P.cellsOf tf = 1
  ct : P.cellsOf t = 6
section
variable {H : Type} {enc : TypeId × Value → H} {P : Program} {W : World} {base b0 : Nat} {spare : Nat → Bool} {held : Bool}
theorem list2 {α : Type} {l : List α} (h : l.length = 2) : ∃ a0 a1, l = [a0, a1] := by
  match l, h with
  | [a0, a1], _ => exact ⟨_, _, rfl⟩
theorem list5 {α : Type} {l : List α} (h : l.length = 5) : ∃ a0 a1 a2 a3 a4, l = [a0, a1, a2, a3, a4] := by
  match l, h with
  | [a0, a1, a2, a3, a4], _ => exact ⟨_, _, _, _, _, rfl⟩
theorem list6 {α : Type} {l : List α} (h : l.length = 6) : ∃ a0 a1 a2 a3 a4 a5, l = [a0, a1, a2, a3, a4, a5] := by
  match l, h with
  | [a0, a1, a2, a3, a4, a5], _ => exact ⟨_, _, _, _, _, _, rfl⟩
theorem cells_slice (A : Option Addr) (n c : Nat) : (Value.slice A n c).cells.toList = [.slice A n c] := rfl
theorem i64_w {z : Int} (hw : (Lit.int .i64 z).wf = true) : i64B z := by
  simp only [Lit.wf, Bool.and_eq_true, decide_eq_true_eq] at hw
  have e1 : IntKind.i64.min = -9223372036854775808 := by decide
  have e2 : IntKind.i64.max = 9223372036854775807 := by decide
  unfold i64B
  omega
theorem open_rowF {t ti ts : TypeId} (hT : FtT P t ti ts) {fuel : Nat} {r : List Value} {x : DataW H × List MemPlace} (hf : DataW.trod enc P W base spare held fuel t r = some x) : ∃ f : FtG, r = f.row ∧ Has (sl 1 f.A f.bits.length (ints .i64 f.bits)) W ∧ f.bits.length ≤ uptoBulk x.1 := by
  obtain ⟨f0, f1, f2, f3, f4, ht, ⟨t0, t1, t2, t3, t4⟩, o0, o1, o2, o3, o4⟩ := hT.ht
  obtain ⟨xs, n, _, rfl, hl, hlen, h⟩ := DataW.trod_struct ht hf
  rw [hT.ct] at hl
  obtain ⟨y0, y1, y2, y3, y4, rfl⟩ := list5 (show xs.length = 5 from hlen)
  obtain ⟨v0, v1, v2, v3, v4, rfl⟩ := list5 hl
  have k0 := h 0 f0 rfl
  have k1 := h 1 f1 rfl
  have k2 := h 2 f2 rfl
  have k3 := h 3 f3 rfl
  have k4 := h 4 f4 rfl
  rw [t0, o0, hT.ci] at k0
  rw [t1, o1, hT.ci] at k1
  rw [t2, o2, hT.ci] at k2
  rw [t3, o3, hT.ci] at k3
  rw [t4, o4, hT.cs] at k4
  obtain ⟨z0, g0, _, _⟩ := DataW.trod_int hT.hi (show DataW.trod enc P W base spare held n ti [v0] = some y0 from k0)
  obtain ⟨z1, g1, _, _⟩ := DataW.trod_int hT.hi (show DataW.trod enc P W base spare held n ti [v1] = some y1 from k1)
  obtain ⟨z2, g2, _, _⟩ := DataW.trod_int hT.hi (show DataW.trod enc P W base spare held n ti [v2] = some y2 from k2)
  obtain ⟨z3, g3, _, _⟩ := DataW.trod_int hT.hi (show DataW.trod enc P W base spare held n ti [v3] = some y3 from k3)
  obtain ⟨A, q, c, p, rfl, e1, e2, e3, e4, e5⟩ := open_rowI hT.hs hT.hi hT.ci (show DataW.trod enc P W base spare held n ts [v4] = some y4 from k4)
  simp only [List.cons.injEq, and_true] at g0 g1 g2 g3
  subst g0 g1 g2 g3 e3
  refine ⟨⟨z0, z1, z2, z3, A, c, p⟩, rfl, e4, ?_⟩
  rw [bulk_agg]
  have := bulk_mem (d := y4.1) (l := [y0, y1, y2, y3, y4].map (·.1)) (by simp)
  exact Nat.le_succ_of_le (Nat.le_trans e5 this)
/-- Faults inside of a value. -/
theorem open_rowPl {t te ti ts : TypeId} (ht : P.underlying t = some (.slice te)) (hT : FtT P te ti ts) {fuel : Nat} {v : Value} {x : DataW H × List MemPlace} (hf : DataW.trod enc P W base spare held fuel t [v] = some x) (hx : uptoBulk x.1 ≤ 1048576) : ∃ A c l, v = .slice A l.length c ∧ l.length ≤ c ∧ PlRead A l W := by
  obtain ⟨A, n, c, rows, rfl, k1, k2, k3, k4, _, k5⟩ := open_rowS ht hT.ct (by decide) hf
  obtain ⟨l, j1, j2, j3⟩ := rows_any (row := FtG.row) (Q := fun r => r.length = 5 ∧ ∃ m y, DataW.trod enc P W base spare held m te r = some y ∧ uptoBulk y.1 ≤ uptoBulk x.1) (R := fun f => Has (sl 1 f.A f.bits.length (ints .i64 f.bits)) W ∧ f.bits.length ≤ 1048576) (fun r ⟨_, m, y, hr, hy⟩ => by
    obtain ⟨f, q1, q2, q3⟩ := open_rowF hT hr
    exact ⟨f, q1, q2, by omega⟩) rows k4
  obtain rfl : l.length = n := j1.trans k3
  exact ⟨A, c, l, rfl, k1, j2 ▸ k5, fun f hf => (j3 f hf).1, fun f hf => (j3 f hf).2⟩
theorem open_rowP {t ti : TypeId} (hT : PcT P t ti) {fuel : Nat} {r : List Value} {x : DataW H × List MemPlace} (hf : DataW.trod enc P W base spare held fuel t r = some x) : ∃ b p, r = [.int .i64 b, .int .i64 p] ∧ i64B b ∧ i64B p := by
  obtain ⟨f0, f1, ht, ⟨t0, t1⟩, o0, o1⟩ := hT.ht
  obtain ⟨xs, n, _, rfl, hl, hlen, h⟩ := DataW.trod_struct ht hf
  rw [hT.ct] at hl
  obtain ⟨y0, y1, rfl⟩ := list2 (show xs.length = 2 from hlen)
  obtain ⟨v0, v1, rfl⟩ := list2 hl
  have k0 := h 0 f0 rfl
  have k1 := h 1 f1 rfl
  rw [t0, o0, hT.ci] at k0
  rw [t1, o1, hT.ci] at k1
  obtain ⟨z0, g0, _, w0⟩ := DataW.trod_int hT.hi (show DataW.trod enc P W base spare held n ti [v0] = some y0 from k0)
  obtain ⟨z1, g1, _, w1⟩ := DataW.trod_int hT.hi (show DataW.trod enc P W base spare held n ti [v1] = some y1 from k1)
  simp only [List.cons.injEq, and_true] at g0 g1
  subst g0 g1
  exact ⟨z0, z1, rfl, i64_w w0, i64_w w1⟩
theorem open_rowT {t ti tp tb t8 tf te ts : TypeId} (hT : DoT P t ti tp tb t8 tf) (hP : PcT P tp ti) (hS : P.underlying tf = some (.slice te)) (hF : FtT P te ti ts) {fuel : Nat} {r : List Value} {x : DataW H × List MemPlace} (hf : DataW.trod enc P W base spare held fuel t r = some x) (hx : uptoBulk x.1 ≤ 1048576) : ∃ d : ToldG, r = d.row ∧ ToldIn d W := by
  obtain ⟨f0, f1, f2, f3, f4, ht, ⟨t0, t1, t2, t3, t4⟩, o0, o1, o2, o3, o4⟩ := hT.ht
  obtain ⟨xs, n, _, rfl, hl, hlen, h⟩ := DataW.trod_struct ht hf
  rw [hT.ct] at hl
  obtain ⟨y0, y1, y2, y3, y4, rfl⟩ := list5 (show xs.length = 5 from hlen)
  obtain ⟨v0, v1, v2, v3, v4, v5, rfl⟩ := list6 hl
  have k0 := h 0 f0 rfl
  have k1 := h 1 f1 rfl
  have k2 := h 2 f2 rfl
  have k3 := h 3 f3 rfl
  have k4 := h 4 f4 rfl
  rw [t0, o0, hT.ci] at k0
  rw [t1, o1, hT.cp] at k1
  rw [t2, o2, hT.ci] at k2
  rw [t3, o3, hT.cb] at k3
  rw [t4, o4, hT.cf] at k4
  obtain ⟨z0, g0, _, _⟩ := DataW.trod_int hT.hi (show DataW.trod enc P W base spare held n ti [v0] = some y0 from k0)
  obtain ⟨b, p, g1, hb, hp⟩ := open_rowP hP (show DataW.trod enc P W base spare held n tp [v1, v2] = some y1 from k1)
  obtain ⟨z3, g3, _, _⟩ := DataW.trod_int hT.hi (show DataW.trod enc P W base spare held n ti [v3] = some y2 from k2)
  obtain ⟨A, q, c, l, rfl, e1, e2, e3, e4, e5⟩ := open_rowB hT.hb hT.h8 hT.c8 (show DataW.trod enc P W base spare held n tb [v4] = some y3 from k3)
  rw [bulk_agg] at hx
  have hm := bulk_mem (d := y4.1) (l := [y0, y1, y2, y3, y4].map (·.1)) (by simp)
  obtain ⟨pA, pc, pl, rfl, _, hpl⟩ := open_rowPl hS hF (show DataW.trod enc P W base spare held n tf [v5] = some y4 from k4) (by omega)
  simp only [List.cons.injEq, and_true] at g0 g1 g3
  obtain ⟨rfl, rfl⟩ := g1
  subst g0 g3 e3
  exact ⟨⟨z0, b, p, z3, A, c, l, pA, pc, pl⟩, rfl, e4, e5, hpl, hb, hp⟩
/-- Things that come in. -/
theorem open_tell {tt t ti tp tb t8 tf te ts : TypeId} (htt : P.underlying tt = some (.slice t)) (hT : DoT P t ti tp tb t8 tf) (hP : PcT P tp ti) (hS : P.underlying tf = some (.slice te)) (hF : FtT P te ti ts) {v : Value} {d : DataW H} {ps : List MemPlace} (hval : Value.okWide P W .any b0 tt v) (hd : DataW.Trod enc P W base spare held tt v d ps) (hx : uptoBulk d ≤ 1048576) : ∃ A c l, v = .slice A l.length c ∧ l.length ≤ c ∧ TellIn A l W := by
  obtain ⟨A, n, c, rfl⟩ := okWide_slice htt hval
  obtain ⟨fuel, hf⟩ := hd
  rw [cells_slice] at hf
  obtain ⟨A, n, c, rows, e, k1, k2, k3, k4, _, k5⟩ := open_rowS htt hT.ct (by decide) hf
  obtain ⟨rfl, rfl, rfl⟩ := Value.slice.inj e
  obtain ⟨l, j1, j2, j3⟩ := rows_any (row := ToldG.row) (Q := fun r => r.length = 6 ∧ ∃ m y, DataW.trod enc P W base spare held m t r = some y ∧ uptoBulk y.1 ≤ uptoBulk d) (R := fun d => ToldIn d W) (fun r ⟨_, m, y, hr, hy⟩ => open_rowT hT hP hS hF hr (Nat.le_trans hy hx)) rows k4
  obtain rfl : l.length = n := j1.trans k3
  exact ⟨A, c, l, rfl, k1, j2 ▸ k5, j3⟩
end
theorem ftT : FtT Tryd.prog 48 3 37 := ⟨⟨_, _, _, _, _, Tryd.underlying48, ⟨rfl, rfl, rfl, rfl, rfl⟩, rfl, rfl, rfl, rfl, rfl⟩, Tryd.underlying3, Tryd.underlying37, by kernel_rfl, by kernel_rfl, by kernel_rfl⟩
theorem pcT : PcT Tryd.prog 31 3 := ⟨⟨_, _, Tryd.underlying31, ⟨rfl, rfl⟩, rfl, rfl⟩, Tryd.underlying3, by kernel_rfl, by kernel_rfl⟩
theorem doT : DoT Tryd.prog 40 3 31 22 5 38 := ⟨⟨_, _, _, _, _, Tryd.underlying40, ⟨rfl, rfl, rfl, rfl, rfl⟩, rfl, rfl, rfl, rfl, rfl⟩, Tryd.underlying3, Tryd.underlying22, Tryd.underlying5, by kernel_rfl, by kernel_rfl, by kernel_rfl, by kernel_rfl, by kernel_rfl, by kernel_rfl⟩
end Go.Proofs.YtcapijdokbkgaaaDoor
end
section
/- Whether faults, and things that a chip is told, are few. Conditions: they are read where they lie. -/
namespace Go.Proofs.YtcapijdokbkgaaaDoor
open Go Go.Sx Go.Fm
set_option maxRecDepth 100000
def sumB (l : List FtG) : Nat := (l.map (fun f => f.bits.length)).sum
def lightB (l : List FtG) : Bool := decide (l.length ≤ 60) && decide (sumB l ≤ 600)
def tellB (d : ToldG) : Bool := decide (d.l.length ≤ 300) && lightB d.plan
def allB (l : List ToldG) : Bool := decide (l.length ≤ 60) && l.all tellB
theorem sumB_le {l : List FtG} {B : Nat} (h : ∀ f ∈ l, f.bits.length ≤ B) : sumB l ≤ l.length * B := by
  induction l with
  | nil => exact Nat.zero_le _
  | cons f l ih =>
    have h1 := h f (by simp)
    have h2 := ih (fun f hf => h f (by simp [hf]))
    unfold sumB at h2 ⊢
    rw [List.map_cons, List.sum_cons, List.length_cons, Nat.succ_mul]
    omega
theorem sumB_take {l : List FtG} {i : Nat} (h : i < l.length) : sumB (l.take (i + 1)) = sumB (l.take i) + (gF l i).bits.length := by
  unfold sumB
  rw [List.take_add_one, gF_at h, Option.toList_some, List.map_append, List.sum_append]
  rfl
def gT (l : List ToldG) (i : Nat) : ToldG := l.getD i ⟨0, 0, 0, 0, none, 0, [], none, 0, []⟩
theorem gT_at {l : List ToldG} {i : Nat} (h : i < l.length) : l[i]? = some (gT l i) := by
  unfold gT
  rw [List.getD_eq_getElem?_getD, List.getElem?_eq_getElem h, Option.getD_some]
theorem gT_mem {l : List ToldG} {i : Nat} (h : i < l.length) : gT l i ∈ l := List.mem_of_getElem? (gT_at h)
theorem all_take {l : List ToldG} {i : Nat} (h : i < l.length) : (l.take (i + 1)).all tellB = ((l.take i).all tellB && tellB (gT l i)) := by
  rw [List.take_add_one, gT_at h, Option.toList_some, List.all_append]
  simp only [List.all_cons, List.all_nil, Bool.and_true]
theorem all_no {l : List ToldG} {i : Nat} (h : i < l.length) (hf : tellB (gT l i) = false) : allB l = false := by
  unfold allB
  rw [show l.all tellB = false from List.all_eq_false.2 ⟨_, gT_mem h, by rw [hf]; decide⟩, Bool.and_false]
theorem all_in {l : List ToldG} (h : allB l = true) : l.length ≤ 60 ∧ ∀ d ∈ l, tellB d = true := by
  unfold allB at h
  rw [Bool.and_eq_true, decide_eq_true_iff] at h
  exact ⟨h.1, List.all_eq_true.1 h.2⟩
theorem light_spec (A : Option Addr) (c : Nat) (l : List FtG) (w : World) (hp : PlRead A l w) : Spec1 Tryd.prog 25 [.slice A l.length c] w (.bool (lightB l)) := by
  refine spec_of Tryd.func25 rfl Tryd.ntmps25 rfl ?_
  refine CW.seq ?_
  refine CW.reg [0] rfl ?_
  refine s_as 2 rfl rfl ?_
  refine SX.next ?_
  refine CW.seq ?_
  refine CW.reg [0] rfl ?_
  refine s_as 3 rfl rfl ?_
  refine SX.next ?_
  refine CW.seq ?_
  refine CW.seq ?_
  refine CW.reg [0] rfl ?_
  refine s_as 4 rfl rfl ?_
  refine SX.next ?_
  refine CW.block ?_
  refine CW.loop (G := Nat) (fun i => [(0, .slice A l.length c), (3, .int .i64 (sumB (l.take i) : Nat)), (4, .int .i64 (i : Nat))]) (fun _ => Sto w []) (fun i => i ≤ l.length ∧ i ≤ 61) (fun i => l.length - i) 0 ⟨rfl, rfl, rfl, trivial⟩ (fun _ h => h) ⟨Nat.zero_le _, Nat.zero_le _⟩ ?_
  rintro i ⟨hi, hi2⟩
  refine CW.seq ?_
  refine CW.seq ?_
  refine CW.reg [0, 1, 2, 3, 4, 5, 6, 7] rfl ?_
  refine s_mv 5 rfl rfl ?_
  refine s_mv 6 rfl rfl ?_
  refine s_len 7 rfl rfl ?_
  refine s_lt 8 rfl rfl rfl rfl ?_
  refine s_mv 9 rfl rfl ?_
  refine SX.bool 9 rfl (fun hb => ?_) (fun hb => ?_)
  · skip
    have h1 := of_decide_eq_true hb
    refine s_mv 10 rfl rfl ?_
    refine s_le 11 rfl rfl rfl rfl ?_
    refine s_pickT 12 rfl rfl rfl ?_
    refine SX.next ?_
    refine CW.test rfl (fun h2 => ?_) (fun h2 => ?_)
    · skip
      have hil : i < l.length := by omega
      have hg := gF_at hil
      have hnx := sumB_take hil
      have hb1 : sumB (l.take (i + 1)) ≤ (l.take (i + 1)).length * 1048576 := sumB_le (fun f hf => hp.lens f (List.mem_of_mem_take hf))
      have hb2 : (l.take (i + 1)).length ≤ 61 := by rw [List.length_take]; omega
      refine CW.skip ?_
      refine KN.code ?_
      refine CW.seq ?_
      refine CW.block ?_
      refine CW.reg [0, 1, 2, 3, 4, 5, 6, 7, 8] rfl ?_
      refine s_mv 15 rfl rfl ?_
      refine s_mv 16 rfl rfl ?_
      refine s_mv 17 rfl rfl ?_
      refine s_iaV 18 i (fun w hw => hw.old hp.rows) rfl rfl rfl rfl hil ?_
      refine s_fa 19 rfl rfl ?_
      refine s_ld 20 rfl rfl (v := .slice (gF l i).A (gF l i).bits.length (gF l i).c) (fun _ hw => (hw.old hp.rows).rowAt ftRow_len hg (by omega) 4 _ rfl) ?_
      refine s_len 21 rfl rfl ?_
      refine s_add 22 rfl rfl rfl (r := ((sumB (l.take (i + 1)) : Nat) : Int)) (by
        rw [hnx, Int.natCast_add]
        exact w64 (by omega)) ?_
      refine s_as 3 rfl rfl ?_
      refine SX.end_ ?_
      refine KN.blk ?_
      refine KN.code ?_
      refine CW.reg [0, 1, 2] rfl ?_
      refine s_mv 13 rfl rfl ?_
      refine s_add 14 rfl rfl rfl (r := ((i + 1 : Nat) : Int)) (w64 (by omega)) ?_
      refine s_as 4 rfl rfl ?_
      refine SX.end_ ?_
      exact KN.back (i + 1) ⟨rfl, rfl, rfl, trivial⟩ (fun _ h => h) (by omega) (by omega)
    · skip
      have hz : lightB l = false := by
        unfold lightB
        rw [decide_eq_false (show ¬ l.length ≤ 60 by omega), Bool.false_and]
      refine CW.exit rfl ?_
      refine KN.code ?_
      refine CW.seq ?_
      refine CW.reg [0, 1, 2, 3, 4, 5, 6, 7] rfl ?_
      refine s_mv 23 rfl rfl ?_
      refine s_len 24 rfl rfl ?_
      refine s_le 25 rfl rfl rfl rfl ?_
      refine s_mv 26 rfl rfl ?_
      refine SX.bool 26 rfl (fun hb => ?_) (fun hb => ?_)
      · skip
        have h3 := of_decide_eq_true hb
        refine s_mv 27 rfl rfl ?_
        refine s_le 28 rfl rfl rfl rfl ?_
        refine s_pickT 29 rfl rfl rfl ?_
        refine s_as 2 rfl rfl ?_
        refine SX.next ?_
        refine CW.ret ?_
        exact KN.ret (rs := [.tmp 2]) Tryd.results25 rfl (fun w hw => ⟨by omega, hw.nothing⟩)
      · skip
        have h3 := of_decide_eq_false hb
        refine SX.skip rfl ?_
        refine SX.skip rfl ?_
        refine s_pickF 29 rfl rfl rfl ?_
        refine s_as 2 rfl rfl ?_
        refine SX.next ?_
        refine CW.ret ?_
        exact KN.ret (rs := [.tmp 2]) Tryd.results25 rfl (fun w hw => ⟨by rw [hz]; rfl, hw.nothing⟩)
  · skip
    have h1 := of_decide_eq_false hb
    obtain rfl : i = l.length := by omega
    refine SX.skip rfl ?_
    refine SX.skip rfl ?_
    refine s_pickF 12 rfl rfl rfl ?_
    refine SX.next ?_
    refine CW.condF rfl ?_
    refine CW.exit rfl ?_
    refine KN.code ?_
    refine CW.seq ?_
    refine CW.reg [0, 1, 2, 3, 4, 5, 6, 7] rfl ?_
    refine s_mv 23 rfl rfl ?_
    refine s_len 24 rfl rfl ?_
    refine s_le 25 rfl rfl rfl rfl ?_
    refine s_mv 26 rfl rfl ?_
    refine SX.bool 26 rfl (fun hb => ?_) (fun hb => ?_)
    · skip
      have h3 := of_decide_eq_true hb
      refine s_mv 27 rfl rfl ?_
      refine s_le 28 rfl rfl rfl rfl ?_
      refine s_pickT 29 rfl rfl rfl ?_
      refine s_as 2 rfl rfl ?_
      refine SX.next ?_
      refine CW.ret ?_
      exact KN.ret (rs := [.tmp 2]) Tryd.results25 rfl (fun w hw => ⟨by unfold lightB; rw [List.take_length, decide_eq_true (show l.length ≤ 60 by omega), Bool.true_and, ← decide_eq_decide.2 (show ((sumB l : Nat) : Int) ≤ 600 ↔ sumB l ≤ 600 by omega)]; rfl, hw.nothing⟩)
    · skip
      have h3 := of_decide_eq_false hb
      refine SX.skip rfl ?_
      refine SX.skip rfl ?_
      refine s_pickF 29 rfl rfl rfl ?_
      refine s_as 2 rfl rfl ?_
      refine SX.next ?_
      refine CW.ret ?_
      exact KN.ret (rs := [.tmp 2]) Tryd.results25 rfl (fun w hw => ⟨by unfold lightB; rw [decide_eq_false (show ¬ l.length ≤ 60 by omega)]; rfl, hw.nothing⟩)

theorem all14_spec (A : Option Addr) (c : Nat) (l : List ToldG) (w : World) (hl : TellIn A l w) : Spec1 Tryd.prog 17 [.slice A l.length c] w (.bool (allB l)) := by
  refine spec_of Tryd.func17 rfl Tryd.ntmps17 rfl ?_
  refine CW.seq ?_
  refine CW.reg [0] rfl ?_
  refine s_as 2 rfl rfl ?_
  refine SX.next ?_
  refine CW.seq ?_
  refine CW.seq ?_
  refine CW.reg [0, 1, 2] rfl ?_
  refine s_mv 4 rfl rfl ?_
  refine s_len 5 rfl rfl ?_
  refine s_gt 6 rfl rfl rfl rfl ?_
  refine SX.next ?_
  refine CW.test rfl (fun hc => ?_) (fun hc => ?_)
  · skip
    have hz : allB l = false := by
      unfold allB
      rw [decide_eq_false (show ¬ l.length ≤ 60 by omega), Bool.false_and]
    refine CW.seq ?_
    refine CW.reg [0] rfl ?_
    refine s_as 2 rfl rfl ?_
    refine SX.next ?_
    refine CW.ret ?_
    exact KN.ret (rs := [.tmp 2]) Tryd.results17 rfl (fun w hw => ⟨by rw [hz]; rfl, hw.nothing⟩)
  · skip
    have h60 : l.length ≤ 60 := by omega
    refine CW.skip ?_
    refine KN.code ?_
    refine CW.seq ?_
    refine CW.seq ?_
    refine CW.reg [0] rfl ?_
    refine s_as 3 rfl rfl ?_
    refine SX.next ?_
    refine CW.block ?_
    refine CW.loop (G := Nat) (fun i => [(0, .slice A l.length c), (3, .int .i64 (i : Nat))]) (fun _ => Sto w []) (fun i => i ≤ l.length ∧ (l.take i).all tellB = true) (fun i => l.length - i) 0 ⟨rfl, rfl, trivial⟩ (fun _ h => h) ⟨Nat.zero_le _, rfl⟩ ?_
    rintro i ⟨hi, hal⟩
    refine CW.seq ?_
    refine CW.seq ?_
    refine CW.reg [0, 1, 2, 3] rfl ?_
    refine s_mv 7 rfl rfl ?_
    refine s_mv 8 rfl rfl ?_
    refine s_len 9 rfl rfl ?_
    refine s_lt 10 rfl rfl rfl rfl ?_
    refine SX.next ?_
    refine CW.test rfl (fun hc => ?_) (fun hc => ?_)
    · skip
      have hil : i < l.length := by omega
      have hg := gT_at hil
      have hm := gT_mem hil
      have hnx := all_take hil
      refine CW.skip ?_
      refine KN.code ?_
      refine CW.seq ?_
      refine CW.block ?_
      refine CW.seq ?_
      refine CW.reg [0, 1, 2, 3, 4, 5, 6, 7, 8, 9, 10, 11, 12, 13, 14, 15] rfl ?_
      refine s_mv 13 rfl rfl ?_
      refine s_mv 14 rfl rfl ?_
      refine s_iaV 15 i (fun w hw => hw.old hl.rows) rfl rfl rfl rfl hil ?_
      refine s_fa 16 rfl rfl ?_
      refine s_ld 17 rfl rfl (v := .slice (gT l i).A (gT l i).l.length (gT l i).c) (fun _ hw => (hw.old hl.rows).rowAt toRow_len hg (by omega) 4 _ rfl) ?_
      refine s_len 18 rfl rfl ?_
      refine s_gt 19 rfl rfl rfl rfl ?_
      refine s_mv 20 rfl rfl ?_
      refine SX.bool 20 rfl (fun hb => ?_) (fun hb => ?_)
      · skip
        have h1 := of_decide_eq_true hb
        have hz : allB l = false := all_no hil (by
          unfold tellB
          rw [decide_eq_false (show ¬ (gT l i).l.length ≤ 300 by omega), Bool.false_and])
        refine SX.skip rfl ?_
        refine SX.skip rfl ?_
        refine SX.skip rfl ?_
        refine SX.skip rfl ?_
        refine SX.skip rfl ?_
        refine SX.skip rfl ?_
        refine SX.skip rfl ?_
        refine s_pickT 28 rfl rfl rfl ?_
        refine SX.next ?_
        refine CW.condT rfl ?_
        refine CW.seq ?_
        refine CW.reg [0] rfl ?_
        refine s_as 2 rfl rfl ?_
        refine SX.next ?_
        refine CW.ret ?_
        exact KN.ret (rs := [.tmp 2]) Tryd.results17 rfl (fun w hw => ⟨by rw [hz]; rfl, hw.nothing⟩)
      · skip
        have h1 := of_decide_eq_false hb
        have htl : tellB (gT l i) = lightB (gT l i).plan := by
          unfold tellB
          rw [decide_eq_true (show (gT l i).l.length ≤ 300 by omega), Bool.true_and]
        refine s_mv 21 rfl rfl ?_
        refine s_mv 22 rfl rfl ?_
        refine s_iaV 23 i (fun w hw => hw.old hl.rows) rfl rfl rfl rfl hil ?_
        refine s_fa 24 rfl rfl ?_
        refine s_ld 25 rfl rfl (v := .slice (gT l i).pA (gT l i).plan.length (gT l i).pc) (fun _ hw => (hw.old hl.rows).rowAt toRow_len hg (by omega) 5 _ rfl) ?_
        refine s_call1 26 rfl rfl rfl rfl (fun w hw => light_spec (gT l i).pA (gT l i).pc (gT l i).plan w ((hl.each _ hm).plan.turn hw.fr)) (fun _ _ => trivial) ?_
        refine s_not 27 rfl rfl ?_
        refine s_pickF 28 rfl rfl rfl ?_
        refine SX.next ?_
        refine CW.cond rfl (fun h2 => ?_) (fun h2 => ?_)
        · skip
          have hz : allB l = false := all_no hil (by rw [htl]; simpa using h2)
          refine CW.seq ?_
          refine CW.reg [0] rfl ?_
          refine s_as 2 rfl rfl ?_
          refine SX.next ?_
          refine CW.ret ?_
          exact KN.ret (rs := [.tmp 2]) Tryd.results17 rfl (fun w hw => ⟨by rw [hz]; rfl, hw.nothing⟩)
        · skip
          have h3 : tellB (gT l i) = true := by rw [htl]; simpa using h2
          refine CW.skip ?_
          refine KN.blk ?_
          refine KN.code ?_
          refine CW.reg [0, 1, 2] rfl ?_
          refine s_mv 11 rfl rfl ?_
          refine s_add 12 rfl rfl rfl (r := ((i + 1 : Nat) : Int)) (w64 (by omega)) ?_
          refine s_as 3 rfl rfl ?_
          refine SX.end_ ?_
          exact KN.back (i + 1) ⟨rfl, rfl, trivial⟩ (fun _ h => h) ⟨by omega, by rw [hnx, hal, h3]; rfl⟩ (by omega)
    · skip
      obtain rfl : i = l.length := by omega
      rw [List.take_length] at hal
      refine CW.exit rfl ?_
      refine KN.code ?_
      refine CW.seq ?_
      refine CW.reg [0] rfl ?_
      refine s_as 2 rfl rfl ?_
      refine SX.next ?_
      refine CW.ret ?_
      exact KN.ret (rs := [.tmp 2]) Tryd.results17 rfl (fun w hw => ⟨by unfold allB; rw [hal, decide_eq_true h60]; rfl, hw.nothing⟩)
end Go.Proofs.YtcapijdokbkgaaaDoor
end
section
/- What a chip that is told things does: plain. No condition. -/
namespace Go.Proofs.YtcapijdokbkgaaaDoor
open Go Go.Sx
set_option maxRecDepth 100000
theorem ToldIn.turn {d : ToldG} {w w' : World} (h : ToldIn d w) (hw : Fr (Old w) w w') : ToldIn d w' := ⟨h.bytes.turn hw, h.lt, h.plan.turn hw, h.hb, h.hp⟩
/-- A thing that a chip is told. -/
def stepS (d : ToldG) (s : ChS) : ChS :=
  if d.kind = 1 then (s.rd d.b d.p d.level).2.2 else if d.kind = 2 then (s.pr d.b d.p d.l).2 else if d.kind = 3 then (s.er d.b).2 else { s with off := false }
theorem step_ok {s : ChS} (h : s.Ok) {d : ToldG} (h8 : ∀ x ∈ d.l, x < 256) : (stepS d s).Ok := by
  unfold stepS
  split
  · exact rd_okp h _ _ _
  · split
    · exact pr_okp h _ _ h8
    · split
      · exact er_okp h _
      · exact off_okp h _
/-- As large as it was. -/
structure ChS.As (s t : ChS) : Prop where
  p : t.pages = s.pages
  z : t.size = s.size
  v : t.levels = s.levels
  b : t.blocks.length = s.blocks.length
theorem ChS.As.refl (s : ChS) : s.As s := ⟨rfl, rfl, rfl, rfl⟩
theorem rd_as (s : ChS) (b p v : Int) : s.As (s.rd b p v).2.2 ∧ (s.rd b p v).2.2.blocks = s.blocks := by
  unfold ChS.rd
  split
  · exact ⟨.refl s, rfl⟩
  · split
    · exact ⟨⟨rfl, rfl, rfl, rfl⟩, rfl⟩
    · exact ⟨⟨rfl, rfl, rfl, rfl⟩, rfl⟩
theorem pr_as (s : ChS) (b p : Int) (l : List Nat) : s.As (s.pr b p l).2 := by
  unfold ChS.pr
  split
  · exact .refl s
  · exact ⟨rfl, rfl, rfl, by show (List.set _ _ _).length = _; rw [List.length_set]; rfl⟩
theorem er_as (s : ChS) (b : Int) : s.As (s.er b).2 := by
  unfold ChS.er
  split
  · exact .refl s
  · exact ⟨rfl, rfl, rfl, by show (List.set _ _ _).length = _; rw [List.length_set]⟩
theorem step_as (d : ToldG) (s : ChS) : s.As (stepS d s) := by
  unfold stepS
  split
  · exact (rd_as s _ _ _).1
  · split
    · exact pr_as s _ _ _
    · split
      · exact er_as s _
      · exact ⟨rfl, rfl, rfl, rfl⟩
theorem As.inn {s t : ChS} (h : s.As t) (b p : Int) : t.inn b p = s.inn b p := by
  unfold ChS.inn ChS.has
  rw [h.p, h.b]
theorem getD_set {α : Type} {l : List α} {i j : Nat} {x z : α} (hi : i < l.length) : (l.set i x).getD j z = if i = j then x else l.getD j z := by
  rw [List.getD_eq_getElem?_getD, List.getElem?_set, List.getD_eq_getElem?_getD]
  split
  · first | rfl | (rw [if_pos hi]; rfl)
  · rfl
theorem setPg_pg {s : ChS} (hs : s.Ok) {b p : Int} (h : s.inn b p = true) (q : PgS) {i k : Int} (hi : s.inn i k = true) : (s.setPg b p q).pg i k = if b = i ∧ p = k then q else s.pg i k := by
  obtain ⟨h1, h2, h3⟩ := has_inn h
  obtain ⟨g1, g2, g3⟩ := has_inn hi
  obtain ⟨h4, h5⟩ := bk_ok hs h1
  unfold ChS.has at h1 g1
  have h6 := of_decide_eq_true h1
  have g6 := of_decide_eq_true g1
  unfold ChS.pg ChS.setPg
  simp only
  show ((s.blocks.set b.toNat _).getD i.toNat BkS.nul).pages.getD k.toNat PgS.nul = _
  rw [getD_set h5]
  by_cases e : b = i
  · subst e
    rw [if_pos rfl]
    simp only
    have hl : p.toNat < (s.bk b).pages.length := by
      have := h4.1
      omega
    rw [getD_set hl]
    by_cases e2 : p = k
    · subst e2
      rw [if_pos rfl, if_pos ⟨trivial, rfl⟩]
    · rw [if_neg (by omega), if_neg (fun hn => e2 hn.2)]
  · rw [if_neg (by omega), if_neg (fun hn => e hn.1)]
    rfl
/-- The chip that ChipFalls looks at. -/
structure Is334 (s : ChS) : Prop where
  ok : s.Ok
  p : s.pages = 3
  z : s.size = 4
  b : s.blocks.length = 3
theorem Is334.step {s : ChS} (h : Is334 s) {d : ToldG} (h8 : ∀ x ∈ d.l, x < 256) : Is334 (stepS d s) := by
  have h1 := step_as d s
  exact ⟨step_ok h.ok h8, h1.p.trans h.p, h1.z.trans h.z, h1.b.trans h.b⟩
theorem Is334.inn {s : ChS} (h : Is334 s) {b p : Nat} (hb : b < 3) (hp : p < 3) : s.inn (b : Nat) (p : Nat) = true := by
  unfold ChS.inn ChS.has
  rw [h.p, h.b, decide_eq_true (by omega), decide_eq_true (by omega)]
  rfl
theorem Is334.len {s : ChS} (h : Is334 s) {b p : Nat} (hb : b < 3) (hp : p < 3) : (s.pg (b : Nat) (p : Nat)).cells.length = 4 ∧ ∀ x ∈ (s.pg (b : Nat) (p : Nat)).cells, x < 256 := by
  obtain ⟨h1, h2, _⟩ := page_ok h.ok (h.inn hb hp)
  rw [h.z] at h1
  exact ⟨by omega, h2⟩
theorem Is334.cells {s : ChS} (h : Is334 s) {b p : Nat} (hb : b < 3) (hp : p < 3) : (if s.inn (b : Nat) (p : Nat) = true then (s.pg (b : Nat) (p : Nat)).cells else []) = (s.pg (b : Nat) (p : Nat)).cells := if_pos (h.inn hb hp)
end Go.Proofs.YtcapijdokbkgaaaDoor
end
section
/- A chip without faults keeps what it is given: plain. No condition. -/
namespace Go.Proofs.YtcapijdokbkgaaaDoor
open Go Go.Sx
set_option maxRecDepth 100000
theorem pr_set {s : ChS} {b p : Int} {l : List Nat} (h : s.prE b p l.length = 0) : s.pr b p l = ((layN s.hits s.size).2, ({ ({ s with broken := if wrongAt (s.bk b).pages p then wr (s.broken + 1) else s.broken } : ChS).tick with off := (findK s.hits 3).isSome } : ChS).setPg b p ⟨andTo (clampN (layN s.hits s.size).1 s.size) (s.pg b p).cells (spoils s.hits l), l, true⟩) := by
  unfold ChS.pr
  rw [if_neg (fun hn => hn h)]
theorem pr_pg {s : ChS} (hs : s.Ok) {b p : Int} {l : List Nat} (h : s.prE b p l.length = 0) {i k : Int} (hi : s.inn i k = true) : (s.pr b p l).2.pg i k = if b = i ∧ p = k then ⟨andTo (clampN (layN s.hits s.size).1 s.size) (s.pg b p).cells (spoils s.hits l), l, true⟩ else s.pg i k := by
  rw [pr_set h]
  exact setPg_pg (s := { ({ s with broken := if wrongAt (s.bk b).pages p then wr (s.broken + 1) else s.broken } : ChS).tick with off := (findK s.hits 3).isSome }) (hs.same rfl rfl rfl rfl rfl) (prE_zero h).2.1 _ hi
theorem er_set {s : ChS} {b : Int} (h : s.erE b = 0) : s.er b = ((eraN s.hits s.pages).2, { s.tick with off := (findK s.hits 3).isSome, blocks := s.blocks.set b.toNat { s.bk b with pages := List.replicate (eraN s.hits s.pages).1 (PgS.bare s.size.toNat) ++ (s.bk b).pages.drop (eraN s.hits s.pages).1, worn := if (eraN s.hits s.pages).2 = 0 then wr ((s.bk b).worn + 1) else (s.bk b).worn } }) := by
  unfold ChS.er
  rw [if_neg (fun hn => hn h)]
theorem er_pg {s : ChS} (hs : s.Ok) {b : Int} (h : s.erE b = 0) {i k : Int} (hi : s.inn i k = true) : (s.er b).2.pg i k = if b = i then (List.replicate (eraN s.hits s.pages).1 (PgS.bare s.size.toNat) ++ (s.bk b).pages.drop (eraN s.hits s.pages).1).getD k.toNat PgS.nul else s.pg i k := by
  rw [er_set h]
  obtain ⟨_, h2⟩ := erE_zero h
  obtain ⟨h4, h5⟩ := bk_ok hs h2
  obtain ⟨g1, g2, g3⟩ := has_inn hi
  have h6 : 0 ≤ b ∧ b < (s.blocks.length : Int) := of_decide_eq_true h2
  have g6 : 0 ≤ i ∧ i < (s.blocks.length : Int) := of_decide_eq_true g1
  show ((s.blocks.set b.toNat _).getD i.toNat BkS.nul).pages.getD k.toNat PgS.nul = _
  rw [getD_set h5]
  by_cases e : b = i
  · subst e
    rw [if_pos rfl, if_pos rfl]
  · rw [if_neg (by omega), if_neg e]
    rfl
theorem andTo_all {l : List Nat} (hl : l.length = 6) (h8 : ∀ x ∈ l, x < 256) : andTo 6 (List.replicate 6 255) l = l := by
  apply List.ext_getElem?
  intro j
  rw [andTo_at (by rw [hl]; decide), List.getElem?_replicate]
  by_cases hj : j < 6
  · rw [if_pos hj, if_pos hj, Option.map_some, and255 (getD_lt8 h8 _), List.getD_eq_getElem?_getD, List.getElem?_eq_getElem (by omega)]
    rfl
  · rw [if_neg hj, if_neg hj, List.getElem?_eq_none (by omega)]
/-- Four blocks of four pages of six bytes, without faults; in each block the first so many pages are used, the others are fresh. -/
structure Kp (s : ChS) (nx : List Nat) : Prop where
  ok : s.Ok
  p : s.pages = 4
  z : s.size = 6
  v : s.levels = 2
  b : s.blocks.length = 4
  pl : s.plan = []
  of : s.off = false
  br : s.broken = 0
  nl : nx.length = 4
  le : ∀ b : Nat, b < 4 → nx.getD b 0 ≤ 4
  us : ∀ b k : Nat, b < 4 → k < 4 → (s.pg (b : Nat) (k : Nat)).used = decide (k < nx.getD b 0)
  fr : ∀ b k : Nat, b < 4 → k < 4 → nx.getD b 0 ≤ k → (s.pg (b : Nat) (k : Nat)).cells = List.replicate 6 255
section
variable {s : ChS} {nx : List Nat}
theorem Kp.hits (h : Kp s nx) : s.hits = [] := by
  unfold ChS.hits
  rw [h.pl]
  rfl
theorem Kp.inn (h : Kp s nx) {b k : Nat} (hb : b < 4) (hk : k < 4) : s.inn (b : Nat) (k : Nat) = true := by
  unfold ChS.inn ChS.has
  rw [h.p, h.b, decide_eq_true (by omega), decide_eq_true (by omega)]
  rfl
theorem Kp.has (h : Kp s nx) {b : Nat} (hb : b < 4) : s.has (b : Nat) = true := by
  unfold ChS.has
  rw [h.b, decide_eq_true (by omega)]
theorem Kp.lay (h : Kp s nx) : layN s.hits s.size = (6, 0) := by
  rw [h.hits, h.z]
  rfl
theorem Kp.program (h : Kp s nx) {b : Nat} (hb : b < 4) (hn : nx.getD b 0 < 4) {l : List Nat} (hl : l.length = 6) (h8 : ∀ x ∈ l, x < 256) :
    (s.pr (b : Nat) (nx.getD b 0 : Nat) l).1 = 0 ∧ Kp (s.pr (b : Nat) (nx.getD b 0 : Nat) l).2 (nx.set b (nx.getD b 0 + 1)) ∧ ∀ i k : Nat, i < 4 → k < 4 → ((s.pr (b : Nat) (nx.getD b 0 : Nat) l).2.pg (i : Nat) (k : Nat)).cells = if b = i ∧ nx.getD b 0 = k then l else (s.pg (i : Nat) (k : Nat)).cells := by
  have hin := h.inn hb hn
  have hE : s.prE (b : Nat) (nx.getD b 0 : Nat) l.length = 0 := by
    unfold ChS.prE askC
    rw [h.of, hin, h.z, decide_eq_true (by omega)]
    rfl
  have hbk := (bk_ok h.ok (h.has hb)).1.1
  have hw : wrongAt (s.bk (b : Nat)).pages (nx.getD b 0 : Nat) = false := by
    unfold wrongAt
    rw [List.any_eq_false]
    rintro ⟨q, k⟩ hq
    rw [List.mem_zipIdx_iff_getElem?] at hq
    have hk : k < (s.bk (b : Nat)).pages.length := (List.getElem?_eq_some_iff.1 hq).1
    have hk4 : k < 4 := by rw [h.p] at hbk; omega
    have hu := h.us b k hb hk4
    have e : s.pg (b : Nat) (k : Nat) = q := by
      unfold ChS.pg
      rw [Int.toNat_natCast, List.getD_eq_getElem?_getD]
      exact congrArg (·.getD PgS.nul) hq
    rw [e] at hu
    simp only
    rw [hu]
    by_cases hkn : k < nx.getD b 0
    · rw [decide_eq_true hkn, decide_eq_false (show ¬ ((nx.getD b 0 : Nat) : Int) ≤ (k : Int) by omega)]
      simp
    · rw [decide_eq_false hkn, decide_eq_false (show ¬ ((k : Nat) : Int) < ((nx.getD b 0 : Nat) : Int) by omega)]
      simp
  have hpg : ∀ i k : Nat, i < 4 → k < 4 → (s.pr (b : Nat) (nx.getD b 0 : Nat) l).2.pg (i : Nat) (k : Nat) = if b = i ∧ nx.getD b 0 = k then ⟨l, l, true⟩ else s.pg (i : Nat) (k : Nat) := fun i k hi hk => by
    rw [pr_pg h.ok hE (h.inn hi hk), h.lay, h.hits, h.fr b _ hb hn (Nat.le_refl _), h.z, show clampN (6, 0).1 6 = 6 from rfl, show spoils [] l = l from rfl, andTo_all hl h8]
    by_cases e : b = i ∧ nx.getD b 0 = k
    · rw [if_pos e, if_pos ⟨by omega, by omega⟩]
    · rw [if_neg e, if_neg (by omega)]
  have has := pr_as s (b : Nat) (nx.getD b 0 : Nat) l
  have hbn : b < nx.length := by rw [h.nl]; exact hb
  refine ⟨by rw [pr_set hE, h.lay], ⟨pr_okp h.ok _ _ h8, has.p.trans h.p, has.z.trans h.z, has.v.trans h.v, has.b.trans h.b, ?_, ?_, ?_, by rw [List.length_set]; exact h.nl, fun i hi => ?_, fun i k hi hk => ?_, fun i k hi hk hik => ?_⟩, fun i k hi hk => ?_⟩
  · rw [pr_set hE]
    exact h.pl
  · rw [pr_set hE, h.hits]
    rfl
  · rw [pr_set hE]
    show (if wrongAt (s.bk (b : Nat)).pages (nx.getD b 0 : Nat) = true then _ else s.broken) = 0
    rw [hw]
    exact h.br
  · rw [getD_set hbn]
    split
    · omega
    · exact h.le i hi
  · rw [hpg i k hi hk, getD_set hbn]
    by_cases e : b = i
    · subst e
      rw [if_pos rfl]
      by_cases e2 : nx.getD b 0 = k
      · rw [if_pos ⟨rfl, e2⟩]
        exact (decide_eq_true (by omega)).symm
      · rw [if_neg (fun hn => e2 hn.2), h.us b k hb hk]
        exact decide_eq_decide.2 (by omega)
    · rw [if_neg (fun hn => e hn.1), if_neg e]
      exact h.us i k hi hk
  · rw [getD_set hbn] at hik
    rw [hpg i k hi hk]
    by_cases e : b = i
    · subst e
      rw [if_pos rfl] at hik
      rw [if_neg (by omega)]
      exact h.fr b k hb hk (by omega)
    · rw [if_neg e] at hik
      rw [if_neg (fun hn => e hn.1)]
      exact h.fr i k hi hk hik
  · rw [hpg i k hi hk]
    split <;> rfl
theorem Kp.erase (h : Kp s nx) {b : Nat} (hb : b < 4) :
    (s.er (b : Nat)).1 = 0 ∧ Kp (s.er (b : Nat)).2 (nx.set b 0) ∧ ∀ i k : Nat, i < 4 → k < 4 → ((s.er (b : Nat)).2.pg (i : Nat) (k : Nat)).cells = if b = i then List.replicate 6 255 else (s.pg (i : Nat) (k : Nat)).cells := by
  have hE : s.erE (b : Nat) = 0 := by
    unfold ChS.erE askC
    rw [h.of, h.has hb]
    rfl
  have hera : eraN s.hits s.pages = (4, 0) := by
    rw [h.hits, h.p]
    rfl
  have hpg : ∀ i k : Nat, i < 4 → k < 4 → (s.er (b : Nat)).2.pg (i : Nat) (k : Nat) = if b = i then PgS.bare 6 else s.pg (i : Nat) (k : Nat) := fun i k hi hk => by
    rw [er_pg h.ok hE (h.inn hi hk), hera, h.z]
    by_cases e : b = i
    · rw [if_pos e, if_pos (by omega), Int.toNat_natCast, List.getD_eq_getElem?_getD, List.getElem?_append_left (by rw [List.length_replicate]; exact hk), List.getElem?_replicate, if_pos hk]
      rfl
    · rw [if_neg e, if_neg (by omega)]
  have has := er_as s (b : Nat)
  have hbn : b < nx.length := by rw [h.nl]; exact hb
  refine ⟨by rw [er_set hE, hera], ⟨er_okp h.ok _, has.p.trans h.p, has.z.trans h.z, has.v.trans h.v, has.b.trans h.b, ?_, ?_, ?_, by rw [List.length_set]; exact h.nl, fun i hi => ?_, fun i k hi hk => ?_, fun i k hi hk hik => ?_⟩, fun i k hi hk => ?_⟩
  · rw [er_set hE]
    exact h.pl
  · rw [er_set hE, h.hits]
    rfl
  · rw [er_set hE]
    exact h.br
  · rw [getD_set hbn]
    split
    · omega
    · exact h.le i hi
  · rw [hpg i k hi hk, getD_set hbn]
    by_cases e : b = i
    · rw [if_pos e, if_pos e]
      exact (decide_eq_false (by omega)).symm
    · rw [if_neg e, if_neg e]
      exact h.us i k hi hk
  · rw [getD_set hbn] at hik
    rw [hpg i k hi hk]
    by_cases e : b = i
    · rw [if_pos e]
      rfl
    · rw [if_neg e] at hik
      rw [if_neg e]
      exact h.fr i k hi hk hik
  · rw [hpg i k hi hk]
    split <;> rfl
theorem Kp.read (h : Kp s nx) {b k : Nat} (hb : b < 4) (hk : k < 4) : (s.rd (b : Nat) (k : Nat) 1).1 = 0 ∧ (s.rd (b : Nat) (k : Nat) 1).2.1 = (s.pg (b : Nat) (k : Nat)).cells ∧ (s.rd (b : Nat) (k : Nat) 1).2.2.broken = 0 := by
  have hE : s.rdE (b : Nat) (k : Nat) 1 = 0 := by
    unfold ChS.rdE askC
    rw [h.of, h.inn hb hk, h.v]
    rfl
  unfold ChS.rd
  rw [if_neg (fun hn => hn hE), h.hits]
  exact ⟨rfl, rfl, h.br⟩
end
def K14 : ChS := ChS.new 4 4 6 2 [] []
theorem K14_kp : Kp K14 [0, 0, 0, 0] := by
  refine ⟨new_ok (by decide) (by decide) (by decide) (by decide) (by decide) (by decide) (by decide) (fun m hm => absurd hm List.not_mem_nil) (by decide) (by decide), rfl, rfl, rfl, rfl, rfl, rfl, rfl, rfl, ?_, ?_, ?_⟩
  · intro b hb
    rcases (show b = 0 ∨ b = 1 ∨ b = 2 ∨ b = 3 by omega) with rfl | rfl | rfl | rfl <;> decide
  · intro b k hb hk
    rcases (show b = 0 ∨ b = 1 ∨ b = 2 ∨ b = 3 by omega) with rfl | rfl | rfl | rfl <;> rcases (show k = 0 ∨ k = 1 ∨ k = 2 ∨ k = 3 by omega) with rfl | rfl | rfl | rfl <;> kernel_rfl
  · intro b k hb hk _
    rcases (show b = 0 ∨ b = 1 ∨ b = 2 ∨ b = 3 by omega) with rfl | rfl | rfl | rfl <;> rcases (show k = 0 ∨ k = 1 ∨ k = 2 ∨ k = 3 by omega) with rfl | rfl | rfl | rfl <;> kernel_rfl
/-- What is to be read: what came last, or nothing. -/
def wantL : Option ToldG → List Nat
  | none => List.replicate 6 255
  | some d => d.l
def wantV : Option ToldG → Value
  | none => .slice none 0 0
  | some d => .slice d.A d.l.length d.c
end Go.Proofs.YtcapijdokbkgaaaDoor
end
section
/- The statement ChipKeeps, walked. Conditions: what comes in is read where it lies; the errors' variables. -/
namespace Go.Proofs.YtcapijdokbkgaaaDoor
open Go Go.Sx Go.Fm
set_option maxRecDepth 100000
structure KpG where
  i : Nat
  x : ChG
  nx : List Nat
  W : Option ToldG
theorem nx_set {nx : List Nat} {b v : Nat} : (nats .i64 nx).toArray.setIfInBounds b (.int .i64 (v : Nat)) = (nats .i64 (nx.set b v)).toArray := by
  unfold nats
  rw [List.map_set, List.setIfInBounds_toArray]
theorem nx_at {nx : List Nat} {b : Nat} (h : b < nx.length) : (nats .i64 nx).toArray[b]? = some (.int .i64 (nx.getD b 0 : Nat)) := by
  rw [List.getElem?_toArray]
  exact natsAt h
theorem nx_size {nx : List Nat} {b : Nat} (h : b < nx.length) : b < (nats .i64 nx).toArray.size := by
  simpa [nats] using h
theorem zeros_at (b : Nat) : [0, 0, 0, 0].getD b 0 = 0 := by
  rw [List.getD_eq_getElem?_getD]
  match b with
  | 0 | 1 | 2 | 3 => rfl
  | n + 4 => rfl
theorem ffs8 : ∀ x ∈ List.replicate 6 255, x < 256 := fun x hx => by rw [List.eq_of_mem_replicate hx]; decide

set_option maxHeartbeats 1600000 in

theorem walk_ChipKeeps (A0 : Option Addr) (c0 : Nat) (l0 : List ToldG) (ab ap : Int) (e : Nat → Addr) (w : World) (ht : TellIn A0 l0 w) (heD : Er e w 0) (heO : Er e w 1) (heS : Er e w 2) (heF : Er e w 5) (heM : Er e w 6) : Spec1 Tryd.prog 4 [.slice A0 l0.length c0, .agg #[.int .i64 ab, .int .i64 ap]] w (.bool true) := by
  refine spec_of Tryd.func4 rfl Tryd.ntmps4 rfl ?_
  refine CW.seq ?_
  refine CW.reg [0, 1] rfl ?_
  refine s_box 3 rfl rfl (fun _ _ => trivial) (fun b3 => ?_)
  refine s_as 4 rfl rfl ?_
  refine SX.next ?_
  refine CW.seq ?_
  refine CW.reg [0, 1] rfl ?_
  refine s_call1 15 rfl rfl rfl rfl (fun w hw => first14_spec e w (hw.er heD) (hw.er heO) (hw.er heS) (hw.er heF) (hw.er heM)) (fun _ _ => trivial) ?_
  refine s_as 5 rfl rfl ?_
  refine SX.next ?_
  refine CW.seq ?_
  refine CW.seq ?_
  refine CW.reg [0, 1, 2, 3, 4, 5, 6] rfl ?_
  refine s_mv 16 rfl rfl ?_
  refine s_call1 17 rfl rfl rfl rfl (fun w hw => all14_spec A0 c0 l0 w ⟨hw.old ht.rows, fun d hd => (ht.each d hd).turn hw.fr⟩) (fun _ _ => trivial) ?_
  refine s_not 18 rfl rfl ?_
  refine s_mv 19 rfl rfl ?_
  refine SX.bool 19 rfl (fun hb => ?_) (fun hb => ?_)
  · skip
    skip
    refine SX.skip rfl ?_
    refine SX.skip rfl ?_
    refine s_pickT 22 rfl rfl rfl ?_
    refine SX.next ?_
    refine CW.condT rfl ?_
    refine CW.seq ?_
    refine CW.reg [0, 1] rfl ?_
    refine s_mv 23 rfl rfl ?_
    refine s_as 4 rfl rfl ?_
    refine SX.next ?_
    refine CW.ret ?_
    exact KN.ret (rs := [.tmp 4]) Tryd.results4 rfl (fun w hw => ⟨rfl, hw.nothing⟩)
  · skip
    have hall : allB l0 = true := by simpa using hb
    obtain ⟨h60, hall2⟩ := all_in hall
    obtain ⟨ba, hba⟩ := Int.eq_ofNat_of_zero_le (Int.emod_nonneg ab (b := 4) (by omega))
    obtain ⟨pa, hpa⟩ := Int.eq_ofNat_of_zero_le (Int.emod_nonneg ap (b := 4) (by omega))
    have hba4 : ba < 4 := by have := Int.emod_lt_of_pos ab (b := 4) (by omega); omega
    have hpa4 : pa < 4 := by have := Int.emod_lt_of_pos ap (b := 4) (by omega); omega
    have handb := (ibit_and_mask ab (m := 2) (by omega) (s := 3) rfl).trans hba
    have handp := (ibit_and_mask ap (m := 2) (by omega) (s := 3) rfl).trans hpa
    refine s_mv 20 rfl rfl ?_
    refine s_not 21 rfl rfl ?_
    refine s_pickF 22 rfl rfl rfl ?_
    refine SX.next ?_
    refine CW.condF rfl ?_
    refine CW.skip ?_
    refine KN.code ?_
    refine CW.seq ?_
    refine CW.reg [0, 1, 2, 3, 4, 5] rfl ?_
    refine s_call 25 rfl rfl rfl rfl (X := Nat × ChG) (v := fun z => two (.pointer (some ⟨z.1, 0, none⟩)) .nilIface) (pf := fun z => z.2.abs = K14 ∧ z.2.watch = .nilFunc) (L' := fun z => [chipA z.1 z.2]) (fun w hw => cnew_ok 4 4 6 2 none 0 [] none 0 [] e w (by decide) (by decide) (by decide) (by decide) (Has.sl_nil w 1 none) (by decide) (fun m hm => absurd hm List.not_mem_nil) (hw.er heM) ⟨Has.sl_nil w 5 none, fun f hf => absurd hf List.not_mem_nil, fun f hf => absurd hf List.not_mem_nil⟩ (by decide)) (fun _ _ => trivial) (fun z hz => ?_)
    obtain ⟨g, x0⟩ := z
    refine s_mv 24 rfl rfl ?_
    refine s_ext 26 rfl rfl rfl ?_
    refine s_ext 27 rfl rfl rfl ?_
    refine s_as 6 rfl rfl ?_
    refine s_as 7 rfl rfl ?_
    refine SX.next ?_
    refine CW.seq ?_
    refine CW.seq ?_
    refine CW.reg [0, 1, 2, 3, 4, 5] rfl ?_
    refine s_mv 28 rfl rfl ?_
    refine s_eqPN 29 rfl rfl ?_
    refine s_mv 30 rfl rfl ?_
    refine s_mv 31 rfl rfl ?_
    refine s_neNN 32 rfl rfl ?_
    refine s_pickF 33 rfl rfl rfl ?_
    refine SX.next ?_
    refine CW.condF rfl ?_
    refine CW.skip ?_
    refine KN.code ?_
    refine CW.seq ?_
    refine CW.reg [0, 1, 2, 3, 4, 5, 6, 7] rfl ?_
    refine s_fa 34 rfl rfl ?_
    refine s_ld 35 rfl rfl (v := .int .i64 ab) (fun _ hw => hw.blkCell (i := 1) (j := 0) rfl rfl) ?_
    refine s_bit 36 rfl rfl rfl rfl (r := ((ba : Nat) : Int)) handb ?_
    refine s_fa 37 rfl rfl ?_
    refine s_ld 38 rfl rfl (v := .int .i64 ap) (fun _ hw => hw.blkCell (i := 1) (j := 1) rfl rfl) ?_
    refine s_bit 39 rfl rfl rfl rfl (r := ((pa : Nat) : Int)) handp ?_
    refine s_build 40 rfl rfl (cells := #[.int .i64 ((ba : Nat) : Int), .int .i64 ((pa : Nat) : Int)]) (by kernel_rfl) ?_
    refine s_stAll 1 rfl rfl (by kernel_rfl) rfl rfl rfl rfl (fun _ _ => trivial) ?_
    refine SX.next ?_
    refine CW.seq ?_
    refine CW.reg [0] rfl ?_
    refine s_as 8 rfl rfl ?_
    refine SX.next ?_
    refine CW.seq ?_
    refine CW.reg [0, 1] rfl ?_
    refine s_make 41 4 rfl rfl rfl rfl rfl (by decide) (fun _ _ => trivial) (fun gn => ?_)
    refine s_as 9 rfl rfl ?_
    refine SX.next ?_
    refine CW.seq ?_
    refine CW.seq ?_
    refine CW.reg [0] rfl ?_
    refine s_as 10 rfl rfl ?_
    refine SX.next ?_
    refine CW.block ?_
    refine CW.loop (G := KpG) (fun q => [(0, .slice A0 l0.length c0), (3, .pointer (some ⟨b3, 0, none⟩)), (6, .pointer (some ⟨g, 0, none⟩)), (8, wantV q.W), (9, .slice (some ⟨gn, 0, none⟩) 4 4), (10, .int .i64 (q.i : Nat))]) (fun q => Sto w [blk gn 3 (nats .i64 q.nx).toArray, blk b3 31 #[.int .i64 ((ba : Nat) : Int), .int .i64 ((pa : Nat) : Int)], chipA g q.x]) (fun q => q.i ≤ l0.length ∧ Kp q.x.abs q.nx ∧ q.x.watch = .nilFunc ∧ (q.x.abs.pg (ba : Nat) (pa : Nat)).cells = wantL q.W ∧ ∀ d, q.W = some d → d ∈ l0 ∧ d.l.length = 6) (fun q => l0.length - q.i) ⟨0, x0, [0, 0, 0, 0], none⟩ ⟨rfl, rfl, rfl, rfl, rfl, rfl, trivial⟩ (fun _ h => h.pick [0, 1, 0] rfl) ⟨Nat.zero_le _, by rw [hz.1]; exact K14_kp, hz.2, by rw [hz.1]; exact K14_kp.fr ba pa hba4 hpa4 (by rw [zeros_at]; exact Nat.zero_le _), fun d hd => by cases hd⟩ ?_
    rintro ⟨i, x, nx, W⟩ ⟨hi, hk, hxw, hW, hWd⟩
    simp only at hi hk hxw hW hWd
    dsimp only
    refine CW.seq ?_
    refine CW.seq ?_
    refine CW.reg [0, 1, 2, 3] rfl ?_
    refine s_mv 42 rfl rfl ?_
    refine s_mv 43 rfl rfl ?_
    refine s_len 44 rfl rfl ?_
    refine s_lt 45 rfl rfl rfl rfl ?_
    refine SX.next ?_
    refine CW.test rfl (fun hc => ?_) (fun hc => ?_)
    · skip
      have hil : i < l0.length := by omega
      have hg := gT_at hil
      have hm := gT_mem hil
      have h8 := (ht.each _ hm).lt
      have hB := (ht.each _ hm).bytes
      obtain ⟨b, hbb⟩ := Int.eq_ofNat_of_zero_le (Int.emod_nonneg (gT l0 i).b (b := 4) (by omega))
      have hb4 : b < 4 := by have := Int.emod_lt_of_pos (gT l0 i).b (b := 4) (by omega); omega
      have hand := (ibit_and_mask (gT l0 i).b (m := 2) (by omega) (s := 3) rfl).trans hbb
      have hbn : b < nx.length := by rw [hk.nl]; exact hb4
      refine CW.skip ?_
      refine KN.code ?_
      refine CW.seq ?_
      refine CW.block ?_
      refine CW.seq ?_
      refine CW.reg [0, 1, 2, 3, 4, 5, 6, 7] rfl ?_
      refine s_mv 48 rfl rfl ?_
      refine s_mv 49 rfl rfl ?_
      refine s_iaV 50 i (fun w hw => hw.old ht.rows) rfl rfl rfl rfl hil ?_
      refine s_fa 51 rfl rfl ?_
      refine s_fa 52 rfl rfl ?_
      refine s_ld 53 rfl rfl (v := .int .i64 (gT l0 i).b) (fun _ hw => (hw.old ht.rows).rowAt toRow_len hg (by omega) 1 _ rfl) ?_
      refine s_bit 54 rfl rfl rfl rfl (r := ((b : Nat) : Int)) hand ?_
      refine s_as 11 rfl rfl ?_
      refine SX.next ?_
      refine CW.seq ?_
      refine CW.seq ?_
      refine CW.reg [0, 1, 2, 3, 4, 5] rfl ?_
      refine s_mv 55 rfl rfl ?_
      refine s_mv 56 rfl rfl ?_
      refine s_iaV 57 i (fun w hw => hw.old ht.rows) rfl rfl rfl rfl hil ?_
      refine s_fa 58 rfl rfl ?_
      refine s_ld 59 rfl rfl (v := .int .i64 (gT l0 i).kind) (fun _ hw => (hw.old ht.rows).rowAt toRow_len hg (by omega) 0 _ rfl) ?_
      refine s_eq 60 rfl rfl rfl rfl ?_
      refine SX.next ?_
      refine CW.test rfl (fun hc => ?_) (fun hc => ?_)
      · skip
        obtain ⟨e1, e2, e3⟩ := hk.erase hb4
        refine CW.seq ?_
        refine CW.seq ?_
        refine CW.reg [0, 1, 2, 3] rfl ?_
        refine s_mv 61 rfl rfl ?_
        refine s_mv 62 rfl rfl ?_
        refine s_callP 63 [2, 0, 0] (M := [chipA g x]) (R := [blk gn 3 (nats .i64 nx).toArray, blk b3 31 #[.int .i64 ((ba : Nat) : Int), .int .i64 ((pa : Nat) : Int)]]) (X := ChG) (v := fun z => .nilIface) (pf := fun z => z.abs = (x.abs.er (b : Nat)).2 ∧ z.watch = .nilFunc) (M' := fun z => [chipA g z]) rfl rfl rfl rfl rfl (fun F' w' hR hM => by have := erase_spec F' g x hk.ok (b : Nat) e w' (fun w2 hf => (hR w2 hf).er heD) (fun w2 hf => (hR w2 hf).er heO) (fun w2 hf => (hR w2 hf).er heS) (fun w2 hf => (hR w2 hf).er heF) hM; rw [e1, hxw] at this; exact this) (fun _ _ _ => trivial) (fun y hy => ?_)
        refine s_neNN 64 rfl rfl ?_
        refine SX.next ?_
        refine CW.condF rfl ?_
        refine CW.skip ?_
        refine KN.code ?_
        refine CW.seq ?_
        refine CW.reg [0, 1, 2, 3] rfl ?_
        refine s_mv 65 rfl rfl ?_
        refine s_mv 66 rfl rfl ?_
        refine s_ia0 67 b rfl rfl rfl rfl hb4 ?_
        refine s_stB 1 rfl rfl rfl rfl rfl (nx_size hbn) (fun _ _ => trivial) ?_
        refine SX.next ?_
        refine CW.seq ?_
        refine CW.seq ?_
        refine CW.reg [0, 1, 2, 3] rfl ?_
        refine s_fa 68 rfl rfl ?_
        refine s_ld 69 rfl rfl (v := .int .i64 ((ba : Nat) : Int)) (fun _ hw => hw.blkCell (i := 2) (j := 0) rfl rfl) ?_
        refine s_mv 70 rfl rfl ?_
        refine s_eq 71 rfl rfl rfl rfl ?_
        refine SX.next ?_
        refine CW.test rfl (fun hc => ?_) (fun hc => ?_)
        · skip
          have hbb2 : b = ba := by omega
          refine CW.reg [0] rfl ?_
          refine s_as 8 rfl rfl ?_
          refine SX.next ?_
          refine CW.exit rfl ?_
          refine KN.code ?_
          refine CW.reg [0, 1, 2] rfl ?_
          refine s_mv 46 rfl rfl ?_
          refine s_add 47 rfl rfl rfl (r := ((i + 1 : Nat) : Int)) (w64 (by omega)) ?_
          refine s_as 10 rfl rfl ?_
          refine SX.end_ ?_
          exact KN.back ⟨i + 1, y, nx.set b 0, none⟩ ⟨rfl, rfl, rfl, rfl, rfl, rfl, trivial⟩ (fun _ h => by
            rw [show (.int .i64 0 : Value) = .int .i64 ((0 : Nat) : Int) from rfl, nx_set] at h
            exact h.pick [1, 1, 0] rfl) ⟨by simp only; omega, by rw [hy.1]; exact e2, hy.2, by simp only; rw [hy.1, e3 ba pa hba4 hpa4, if_pos hbb2]; rfl, fun d hd => by cases hd⟩ (by simp only; omega)
        · skip
          have hbb2 : ¬ b = ba := by omega
          refine CW.skip ?_
          refine KN.code ?_
          refine CW.exit rfl ?_
          refine KN.code ?_
          refine CW.reg [0, 1, 2] rfl ?_
          refine s_mv 46 rfl rfl ?_
          refine s_add 47 rfl rfl rfl (r := ((i + 1 : Nat) : Int)) (w64 (by omega)) ?_
          refine s_as 10 rfl rfl ?_
          refine SX.end_ ?_
          exact KN.back ⟨i + 1, y, nx.set b 0, W⟩ ⟨rfl, rfl, rfl, rfl, rfl, rfl, trivial⟩ (fun _ h => by
            rw [show (.int .i64 0 : Value) = .int .i64 ((0 : Nat) : Int) from rfl, nx_set] at h
            exact h.pick [1, 1, 0] rfl) ⟨by simp only; omega, by rw [hy.1]; exact e2, hy.2, by simp only; rw [hy.1, e3 ba pa hba4 hpa4, if_neg hbb2]; exact hW, hWd⟩ (by simp only; omega)
      · skip
        refine CW.skip ?_
        refine KN.code ?_
        refine CW.seq ?_
        refine CW.seq ?_
        refine CW.reg [0, 1, 2, 3, 4, 5, 6, 7, 8, 9, 10, 11, 12, 13] rfl ?_
        refine s_mv 72 rfl rfl ?_
        refine s_mv 73 rfl rfl ?_
        refine s_iaV 74 i (fun w hw => hw.old ht.rows) rfl rfl rfl rfl hil ?_
        refine s_fa 75 rfl rfl ?_
        refine s_ld 76 rfl rfl (v := .slice (gT l0 i).A (gT l0 i).l.length (gT l0 i).c) (fun _ hw => (hw.old ht.rows).rowAt toRow_len hg (by omega) 4 _ rfl) ?_
        refine s_len 77 rfl rfl ?_
        refine s_ne 78 rfl rfl rfl (r := decide ((gT l0 i).l.length ≠ 6)) (decide_eq_decide.2 (by omega)) ?_
        refine s_mv 79 rfl rfl ?_
        refine SX.bool 79 rfl (fun hb => ?_) (fun hb => ?_)
        · skip
          skip
          refine SX.skip rfl ?_
          refine SX.skip rfl ?_
          refine SX.skip rfl ?_
          refine SX.skip rfl ?_
          refine SX.skip rfl ?_
          refine s_pickT 85 rfl rfl rfl ?_
          refine SX.next ?_
          refine CW.condT rfl ?_
          refine CW.exit rfl ?_
          refine KN.code ?_
          refine CW.reg [0, 1, 2] rfl ?_
          refine s_mv 46 rfl rfl ?_
          refine s_add 47 rfl rfl rfl (r := ((i + 1 : Nat) : Int)) (w64 (by omega)) ?_
          refine s_as 10 rfl rfl ?_
          refine SX.end_ ?_
          exact KN.back ⟨i + 1, x, nx, W⟩ ⟨rfl, rfl, rfl, rfl, rfl, rfl, trivial⟩ (fun _ h => h) ⟨by simp only; omega, hk, hxw, hW, hWd⟩ (by simp only; omega)
        · skip
          have hl6 : (gT l0 i).l.length = 6 := Decidable.of_not_not (of_decide_eq_false hb)
          refine s_mv 80 rfl rfl ?_
          refine s_mv 81 rfl rfl ?_
          refine s_ia0 82 b rfl rfl rfl rfl hb4 ?_
          refine s_ldB 83 0 rfl rfl rfl (nx_at hbn) ?_
          refine s_eq 84 rfl rfl rfl rfl ?_
          refine s_pickF 85 rfl rfl rfl ?_
          refine SX.next ?_
          refine CW.test rfl (fun h4 => ?_) (fun h4 => ?_)
          · skip
            refine CW.exit rfl ?_
            refine KN.code ?_
            refine CW.reg [0, 1, 2] rfl ?_
            refine s_mv 46 rfl rfl ?_
            refine s_add 47 rfl rfl rfl (r := ((i + 1 : Nat) : Int)) (w64 (by omega)) ?_
            refine s_as 10 rfl rfl ?_
            refine SX.end_ ?_
            exact KN.back ⟨i + 1, x, nx, W⟩ ⟨rfl, rfl, rfl, rfl, rfl, rfl, trivial⟩ (fun _ h => h) ⟨by simp only; omega, hk, hxw, hW, hWd⟩ (by simp only; omega)
          · skip
            have hn4 : nx.getD b 0 < 4 := by have := hk.le b hb4; omega
            obtain ⟨e1, e2, e3⟩ := hk.program hb4 hn4 hl6 h8
            refine CW.skip ?_
            refine KN.code ?_
            refine CW.seq ?_
            refine CW.reg [0, 1, 2, 3, 4, 5, 6, 7] rfl ?_
            refine s_mv 86 rfl rfl ?_
            refine s_mv 87 rfl rfl ?_
            refine s_mv 88 rfl rfl ?_
            refine s_ia0 89 b rfl rfl rfl rfl hb4 ?_
            refine s_ldB 90 0 rfl rfl rfl (nx_at hbn) ?_
            refine s_build 91 rfl rfl (cells := #[.int .i64 ((b : Nat) : Int), .int .i64 (((nx.getD b 0) : Nat) : Int)]) (by kernel_rfl) ?_
            refine s_alloc 12 rfl (fun _ _ => trivial) (fun b12 => ?_)
            refine s_stAll 0 rfl rfl (by kernel_rfl) rfl rfl rfl rfl (fun _ _ => trivial) ?_
            refine SX.next ?_
            refine CW.seq ?_
            refine CW.seq ?_
            refine CW.regD (.st true 0 (.st true 1 (.st true 2 (.st true 3 (.st true 4 (.st true 5 (.st true 6 (.st false 7 (.st true 8 .done))))))))) (Sto w [blk b12 31 #[.int .i64 ((b : Nat) : Int), .int .i64 (((nx.getD b 0) : Nat) : Int)]]) mixed (by kernel_rfl) (fun _ h => h.drew) (fun _ h => h.pick [0] rfl) ?_
            refine s_mv 92 rfl rfl ?_
            refine s_ldRS 93 (cs := [.int .i64 ((b : Nat) : Int), .int .i64 (((nx.getD b 0) : Nat) : Int)]) rfl rfl rfl (fun _ hw => hw.blkRow (i := 0) rfl) ?_
            refine s_mv 94 rfl rfl ?_
            refine s_mv 95 rfl rfl ?_
            refine s_iaV 96 i (fun w hw => hw.old ht.rows) rfl rfl rfl rfl hil ?_
            refine s_fa 97 rfl rfl ?_
            refine s_ldS 98 rfl rfl (v := .slice (gT l0 i).A (gT l0 i).l.length (gT l0 i).c) (fun _ hw => (hw.old ht.rows).rowAt toRow_len hg (by omega) 4 _ rfl) ?_
            refine s_callP 99 [3, 0, 0, 0] (M := [chipA g x]) (R := [blk b12 31 #[.int .i64 ((b : Nat) : Int), .int .i64 (((nx.getD b 0) : Nat) : Int)], blk gn 3 (nats .i64 nx).toArray, blk b3 31 #[.int .i64 ((ba : Nat) : Int), .int .i64 ((pa : Nat) : Int)]]) (X := ChG) (v := fun z => .nilIface) (pf := fun z => z.abs = (x.abs.pr (b : Nat) ((nx.getD b 0) : Nat) (gT l0 i).l).2 ∧ z.watch = .nilFunc) (M' := fun z => [chipA g z]) rfl rfl rfl rfl rfl (fun F' w' hR hM => by have := program_spec F' g x hk.ok (b : Nat) ((nx.getD b 0) : Nat) (gT l0 i).A (gT l0 i).c (gT l0 i).l e w' (fun w2 hf => (hR w2 hf).er heD) (fun w2 hf => (hR w2 hf).er heO) (fun w2 hf => (hR w2 hf).er heS) (fun w2 hf => (hR w2 hf).er heF) (fun w2 hf => (hR w2 hf).old hB) h8 hM; rw [e1, hxw] at this; exact this) (fun _ _ h => h.pick [1] rfl) (fun y hy => ?_)
            refine s_neNN 100 rfl rfl ?_
            refine SX.next ?_
            refine CW.condF rfl ?_
            refine CW.skip ?_
            refine KN.code ?_
            refine CW.seq ?_
            refine CW.reg [0, 1, 2, 3, 4, 5, 6] rfl ?_
            refine s_mv 101 rfl rfl ?_
            refine s_mv 102 rfl rfl ?_
            refine s_ia0 103 b rfl rfl rfl rfl hb4 ?_
            refine s_ldB 104 2 rfl rfl rfl (nx_at hbn) ?_
            refine s_add 105 rfl rfl rfl (r := ((nx.getD b 0 + 1 : Nat) : Int)) (w64 (by omega)) ?_
            refine s_ia0 106 b rfl rfl rfl rfl hb4 ?_
            refine s_stB 2 rfl rfl rfl rfl rfl (nx_size hbn) (fun _ _ => trivial) ?_
            refine SX.next ?_
            refine CW.seq ?_
            refine CW.reg [0, 1, 2] rfl ?_
            refine s_ldW 107 1 rfl rfl rfl ?_
            refine s_ldW 108 3 rfl rfl rfl ?_
            refine s_call1 109 rfl rfl rfl rfl (fun w hw => samePlace_spec (b : Nat) ((nx.getD b 0) : Nat) (ba : Nat) (pa : Nat) w) (fun _ _ => trivial) ?_
            refine SX.next ?_
            refine CW.test rfl (fun h5 => ?_) (fun h5 => ?_)
            · skip
              have h6 : b = ba ∧ nx.getD b 0 = pa := by omega
              refine CW.reg [0, 1, 2, 3, 4, 5] rfl ?_
              refine s_mv 110 rfl rfl ?_
              refine s_mv 111 rfl rfl ?_
              refine s_iaV 112 i (fun w hw => hw.old ht.rows) rfl rfl rfl rfl hil ?_
              refine s_fa 113 rfl rfl ?_
              refine s_ld 114 rfl rfl (v := .slice (gT l0 i).A (gT l0 i).l.length (gT l0 i).c) (fun _ hw => (hw.old ht.rows).rowAt toRow_len hg (by omega) 4 _ rfl) ?_
              refine s_as 8 rfl rfl ?_
              refine SX.end_ ?_
              refine KN.blk ?_
              refine KN.code ?_
              refine CW.reg [0, 1, 2] rfl ?_
              refine s_mv 46 rfl rfl ?_
              refine s_add 47 rfl rfl rfl (r := ((i + 1 : Nat) : Int)) (w64 (by omega)) ?_
              refine s_as 10 rfl rfl ?_
              refine SX.end_ ?_
              exact KN.back ⟨i + 1, y, nx.set b (nx.getD b 0 + 1), some (gT l0 i)⟩ ⟨rfl, rfl, rfl, rfl, rfl, rfl, trivial⟩ (fun _ h => by
                rw [nx_set] at h
                exact h.pick [2, 2, 0] rfl) ⟨by simp only; omega, by rw [hy.1]; exact e2, hy.2, by simp only; rw [hy.1, e3 ba pa hba4 hpa4, if_pos h6]; rfl, fun d hd => by
                injection hd with hd
                subst hd
                exact ⟨hm, hl6⟩⟩ (by simp only; omega)
            · skip
              have h6 : ¬ (b = ba ∧ nx.getD b 0 = pa) := by omega
              refine CW.skip ?_
              refine KN.blk ?_
              refine KN.code ?_
              refine CW.reg [0, 1, 2] rfl ?_
              refine s_mv 46 rfl rfl ?_
              refine s_add 47 rfl rfl rfl (r := ((i + 1 : Nat) : Int)) (w64 (by omega)) ?_
              refine s_as 10 rfl rfl ?_
              refine SX.end_ ?_
              exact KN.back ⟨i + 1, y, nx.set b (nx.getD b 0 + 1), W⟩ ⟨rfl, rfl, rfl, rfl, rfl, rfl, trivial⟩ (fun _ h => by
                rw [nx_set] at h
                exact h.pick [2, 2, 0] rfl) ⟨by simp only; omega, by rw [hy.1]; exact e2, hy.2, by simp only; rw [hy.1, e3 ba pa hba4 hpa4, if_neg h6]; exact hW, hWd⟩ (by simp only; omega)
    · skip
      refine CW.exit rfl ?_
      refine KN.code ?_
      refine CW.seq ?_
      refine CW.seq ?_
      rcases W with _ | d
      · skip
        have hWc : (x.abs.pg (ba : Nat) (pa : Nat)).cells = List.replicate 6 255 := hW
        refine CW.reg [0, 1] rfl ?_
        refine s_mv 115 rfl rfl ?_
        refine s_eqSN 116 rfl rfl (r := true) rfl ?_
        refine SX.next ?_
        refine CW.condT rfl ?_
        refine CW.reg [0, 1] rfl ?_
        refine s_bsl 117 rfl rfl (cells := #[.int .u8 255, .int .u8 255, .int .u8 255, .int .u8 255, .int .u8 255, .int .u8 255]) (by kernel_rfl) rfl (fun _ _ => trivial) (fun g7 => ?_)
        refine s_as 8 rfl rfl ?_
        refine SX.next ?_
        refine CW.seq ?_
        refine CW.reg [0, 1, 2, 3, 4, 5, 6, 7] rfl ?_
        refine s_mv 119 rfl rfl ?_
        refine s_ldW 120 2 rfl rfl rfl ?_
        obtain ⟨r1, r2, r3⟩ := hk.read hba4 hpa4
        refine s_callP 121 [3, 0, 0, 0] (M := [chipA g x]) (R := [blk g7 5 #[.int .u8 255, .int .u8 255, .int .u8 255, .int .u8 255, .int .u8 255, .int .u8 255], blk gn 3 (nats .i64 nx).toArray, blk b3 31 #[.int .i64 ((ba : Nat) : Int), .int .i64 ((pa : Nat) : Int)]]) (X := (Option Addr × Nat) × ChG) (v := fun z => two (.slice z.1.1 ((List.replicate 6 255) : List Nat).length z.1.2) .nilIface) (pf := fun z => z.2.abs = (x.abs.rd (ba : Nat) (pa : Nat) 1).2.2 ∧ z.2.watch = .nilFunc) (M' := fun z => [own 5 1 z.1.1 ((List.replicate 6 255) : List Nat).length z.1.2 (nats .u8 (List.replicate 6 255)), chipA g z.2]) rfl rfl rfl rfl rfl (fun F' w' hR hM => by have := read_spec F' g x hk.ok (ba : Nat) (pa : Nat) 1 e w' hxw (fun w2 hf => (hR w2 hf).er heD) (fun w2 hf => (hR w2 hf).er heO) (fun w2 hf => (hR w2 hf).er heS) hM; rw [r1, r2, hWc, hxw] at this; exact this) (fun _ _ _ => trivial) (fun y hy => ?_)
        refine s_mv 118 rfl rfl ?_
        refine s_ext 122 rfl rfl rfl ?_
        refine s_ext 123 rfl rfl rfl ?_
        refine s_as 13 rfl rfl ?_
        refine s_as 14 rfl rfl ?_
        refine SX.next ?_
        refine CW.seq ?_
        refine CW.reg [0, 1, 2, 3, 4, 5, 6, 7, 8, 9, 10, 11, 12] rfl ?_
        refine s_mv 124 rfl rfl ?_
        refine s_eqNN 125 rfl rfl ?_
        refine s_mv 126 rfl rfl ?_
        refine s_mv 127 rfl rfl ?_
        refine s_mv 128 rfl rfl ?_
        refine s_call1 129 rfl rfl rfl rfl (v := .bool true) (fun w hw => by have := sameBytes_spec y.1.1 ((List.replicate 6 255) : List Nat).length y.1.2 (List.replicate 6 255) (some ⟨g7, 0, none⟩) 6 6 (List.replicate 6 255) w ((hw.has (i := 0) rfl).of_own) ffs8 (bytes_of (hw.has (i := 2) rfl) (n := 6) rfl rfl rfl) ffs8; rw [decide_eq_true rfl] at this; exact this) (fun _ _ => trivial) ?_
        refine s_pickT 130 rfl rfl rfl ?_
        refine s_mv 131 rfl rfl ?_
        refine s_mv 132 rfl rfl ?_
        refine s_call1 133 rfl rfl rfl rfl (v := .int .i64 0) (fun w hw => by have := broken_spec g y.2 w (hw.has (i := 1) rfl); rw [show y.2.broken = (x.abs.rd (ba : Nat) (pa : Nat) 1).2.2.broken from congrArg ChS.broken hy.1, r3] at this; exact this) (fun _ _ => trivial) ?_
        refine s_eq 134 rfl rfl rfl (decide_eq_true rfl) ?_
        refine s_pickT 135 rfl rfl rfl ?_
        refine s_as 4 rfl rfl ?_
        refine SX.next ?_
        refine CW.ret ?_
        exact KN.ret (rs := [.tmp 4]) Tryd.results4 rfl (fun w hw => ⟨rfl, hw.nothing⟩)
      · skip
        obtain ⟨hd0, hd6⟩ := hWd d rfl
        have hdB := (ht.each _ hd0).bytes
        have hd8 := (ht.each _ hd0).lt
        have hdA : d.A.isNone = false := by
          have h1 := (hdB.sl_cell (j := 0) (by omega) (natsAt8 (by omega))).1
          rw [h1]
          rfl
        have hWc : (x.abs.pg (ba : Nat) (pa : Nat)).cells = d.l := hW
        refine CW.reg [0, 1] rfl ?_
        refine s_mv 115 rfl rfl ?_
        refine s_eqSN 116 rfl rfl hdA ?_
        refine SX.next ?_
        refine CW.condF rfl ?_
        refine CW.skip ?_
        refine KN.code ?_
        refine CW.seq ?_
        refine CW.reg [0, 1, 2, 3, 4, 5, 6, 7] rfl ?_
        refine s_mv 119 rfl rfl ?_
        refine s_ldW 120 1 rfl rfl rfl ?_
        obtain ⟨r1, r2, r3⟩ := hk.read hba4 hpa4
        refine s_callP 121 [2, 0, 0] (M := [chipA g x]) (R := [blk gn 3 (nats .i64 nx).toArray, blk b3 31 #[.int .i64 ((ba : Nat) : Int), .int .i64 ((pa : Nat) : Int)]]) (X := (Option Addr × Nat) × ChG) (v := fun z => two (.slice z.1.1 (d.l : List Nat).length z.1.2) .nilIface) (pf := fun z => z.2.abs = (x.abs.rd (ba : Nat) (pa : Nat) 1).2.2 ∧ z.2.watch = .nilFunc) (M' := fun z => [own 5 1 z.1.1 (d.l : List Nat).length z.1.2 (nats .u8 d.l), chipA g z.2]) rfl rfl rfl rfl rfl (fun F' w' hR hM => by have := read_spec F' g x hk.ok (ba : Nat) (pa : Nat) 1 e w' hxw (fun w2 hf => (hR w2 hf).er heD) (fun w2 hf => (hR w2 hf).er heO) (fun w2 hf => (hR w2 hf).er heS) hM; rw [r1, r2, hWc, hxw] at this; exact this) (fun _ _ _ => trivial) (fun y hy => ?_)
        refine s_mv 118 rfl rfl ?_
        refine s_ext 122 rfl rfl rfl ?_
        refine s_ext 123 rfl rfl rfl ?_
        refine s_as 13 rfl rfl ?_
        refine s_as 14 rfl rfl ?_
        refine SX.next ?_
        refine CW.seq ?_
        refine CW.reg [0, 1, 2, 3, 4, 5, 6, 7, 8, 9, 10, 11, 12] rfl ?_
        refine s_mv 124 rfl rfl ?_
        refine s_eqNN 125 rfl rfl ?_
        refine s_mv 126 rfl rfl ?_
        refine s_mv 127 rfl rfl ?_
        refine s_mv 128 rfl rfl ?_
        refine s_call1 129 rfl rfl rfl rfl (v := .bool true) (fun w hw => by have := sameBytes_spec y.1.1 (d.l : List Nat).length y.1.2 d.l d.A d.l.length d.c d.l w ((hw.has (i := 0) rfl).of_own) hd8 (hw.old hdB) hd8; rw [decide_eq_true rfl] at this; exact this) (fun _ _ => trivial) ?_
        refine s_pickT 130 rfl rfl rfl ?_
        refine s_mv 131 rfl rfl ?_
        refine s_mv 132 rfl rfl ?_
        refine s_call1 133 rfl rfl rfl rfl (v := .int .i64 0) (fun w hw => by have := broken_spec g y.2 w (hw.has (i := 1) rfl); rw [show y.2.broken = (x.abs.rd (ba : Nat) (pa : Nat) 1).2.2.broken from congrArg ChS.broken hy.1, r3] at this; exact this) (fun _ _ => trivial) ?_
        refine s_eq 134 rfl rfl rfl (decide_eq_true rfl) ?_
        refine s_pickT 135 rfl rfl rfl ?_
        refine s_as 4 rfl rfl ?_
        refine SX.next ?_
        refine CW.ret ?_
        exact KN.ret (rs := [.tmp 4]) Tryd.results4 rfl (fun w hw => ⟨rfl, hw.nothing⟩)
end Go.Proofs.YtcapijdokbkgaaaDoor
end
section
/- What a place that comes in gives a walk. No condition. -/
namespace Go.Proofs.YtcapijdokbkgaaaDoor
open Go Go.Sx Go.ChangeShapes Go.WideShapes Go.Deep
theorem open_place {H : Type} {enc : TypeId × Value → H} {P : Program} {W : World} {base b0 : Nat} {spare : Nat → Bool} {held : Bool} {t ti : TypeId} (hT : PcT P t ti) {v : Value} {d : DataW H} {ps : List MemPlace} (hval : Value.okWide P W .any b0 t v) (hd : DataW.Trod enc P W base spare held t v d ps) :
    ∃ b p, v = .agg #[.int .i64 b, .int .i64 p] ∧ i64B b ∧ i64B p := by
  obtain ⟨f0, f1, ht, _⟩ := hT.ht
  obtain ⟨cs, rfl, _⟩ := okWide_struct ht hval
  obtain ⟨fuel, hf⟩ := hd
  obtain ⟨b, p, hr, hb, hp⟩ := open_rowP hT (show DataW.trod enc P W base spare held fuel t cs.toList = some (d, ps) from hf)
  refine ⟨b, p, ?_, hb, hp⟩
  rw [← Array.toArray_toList (xs := cs), hr]
end Go.Proofs.YtcapijdokbkgaaaDoor
end
