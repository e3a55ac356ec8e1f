/- The contracts of binpoly.Of. Conditions: the exponents are read where they lie. -/
import Derived.Test.YtcjddlcinaedaaaDoorBin5
namespace Go.Proofs.YtcjddlcinaedaaaDoor
open Go Go.Lib Go.Sx Go.Fm
set_option maxRecDepth 100000
/-- x to the number at place j. -/
def eX (l : List Int) (j : Nat) : List Nat := xP (l.getD j 0).toNat
theorem eX_b1 (l : List Int) (j : Nat) : B1 (eX l j) := xP_b1 _
/-- What Of's loop keeps: the newest first. -/
structure OfG (l : List Int) (z : Nat × (Option Addr × Nat) × List BlG) : Prop where
  le : z.1 ≤ l.length
  rng : ∀ j, j < z.1 → 0 ≤ l.getD j 0 ∧ l.getD j 0 ≤ 2048
  len : z.2.2.length = z.1
  row : ∀ j, j < z.1 → (z.2.2.reverse.getD j ⟨none, 0, []⟩).l = bys (eX l j)
  cap : ∀ b ∈ z.2.2, b.l.length ≤ b.c
  byt : ∀ b ∈ z.2.2, ∃ k, k ≤ 2048 ∧ b.l = bys (xP k)
theorem OfG.start (l : List Int) : OfG l (0, (none, 0), []) := ⟨Nat.zero_le _, fun j h => by simp at h, rfl, fun j h => by simp at h, fun b h => by simp at h, fun b h => by simp at h⟩
theorem OfG.next {l : List Int} {i k : Nat} {A A2 : Option Addr × Nat} {rs : List BlG} {q : Option Addr × Nat} (h : OfG l (i, A, rs)) (hi : i < l.length) (hk : l.getD i 0 = (k : Nat)) (hk2 : k ≤ 2048) (hq : (bys (xP k)).length ≤ q.2) : OfG l (i + 1, A2, ⟨q.1, q.2, bys (xP k)⟩ :: rs) := by
  obtain ⟨h1, h2, h3, h4, h5, h6⟩ := h
  simp only at h1 h2 h3 h4 h5 h6
  refine ⟨hi, fun j hj => ?_, by simp only [List.length_cons]; omega, fun j hj => ?_, fun b hb => ?_, fun b hb => ?_⟩
  · simp only at hj
    by_cases h : j = i
    · subst h; rw [hk]; omega
    · exact h2 j (by omega)
  · simp only at hj ⊢
    rw [List.reverse_cons, List.getD_eq_getElem?_getD]
    by_cases h : j = i
    · subst h
      rw [List.getElem?_append_right (by simp; omega)]
      simp only [List.length_reverse, h3, Nat.sub_self, List.getElem?_cons_zero, Option.getD_some]
      unfold eX
      rw [hk]
      rfl
    · rw [List.getElem?_append_left (by simp; omega), ← List.getD_eq_getElem?_getD]
      exact h4 j (by omega)
  · rcases List.mem_cons.1 hb with rfl | hb
    · exact hq
    · exact h5 b hb
  · rcases List.mem_cons.1 hb with rfl | hb
    · exact ⟨k, hk2, rfl⟩
    · exact h6 b hb
theorem sumY_congr {f g : Nat → List Nat} {i : Nat} (h : ∀ j, j < i → f j = g j) : sumY f i = sumY g i := by rw [sumY_eq, sumY_eq, sumF_congr h]
theorem OfG.done {l : List Int} {A : Option Addr × Nat} {rs : List BlG} (h : OfG l (l.length, A, rs)) : sumY (blAt rs.reverse) l.length = sumY (eX l) l.length :=
  sumY_congr (fun j hj => by
    unfold blAt
    rw [h.row j hj, bl_bys (eX_b1 l j)])
theorem rev_has {rs : List BlG} {b : BlG} (h : b ∈ rs.reverse) : ∃ k : Nat, (rs.map ownB)[k]? = some (ownB b) := by
  obtain ⟨k, hk⟩ := List.getElem?_of_mem (List.mem_reverse.1 h)
  exact ⟨k, by rw [List.getElem?_map, hk]; rfl⟩

theorem of_spec (A : Option Addr) (n c : Nat) (l : List Int) (w : World) (ha : Has (sl 1 A n (ints .i64 l)) w) (hn : n ≤ 1000000) (hr : ∀ j, j < l.length → 0 ≤ l.getD j 0 ∧ l.getD j 0 ≤ 2048) : SpecBE Tryd.prog 50 [.slice A n c] w (sumY (eX l) l.length) := by
  have hla := ints_len ha
  subst hla
  refine spec_of Tryd.func50 rfl Tryd.ntmps50 rfl ?_
  refine CW.seq ?_
  refine CW.reg [0, 1] rfl ?_   -- 0, binpoly.go:36
  refine s_as 2 rfl rfl ?_
  refine s_as 3 rfl rfl ?_
  refine SX.next ?_
  refine CW.seq ?_
  refine CW.reg [0] rfl ?_   -- 1, binpoly.go:37
  refine s_as 4 rfl rfl ?_
  refine SX.next ?_
  refine CW.seq ?_
  refine CW.seq ?_
  refine CW.reg [0, 1, 2] rfl ?_   -- 2, binpoly.go:38
  refine s_mv 7 rfl rfl ?_
  refine s_len 8 rfl rfl ?_
  refine s_mv 9 rfl rfl ?_
  refine SX.next ?_
  refine CW.block ?_
  refine CW.loop (G := Nat × (Option Addr × Nat) × List BlG) (fun z => [(4, .slice z.2.1.1 z.1 z.2.1.2), (7, .slice A l.length c), (8, .int .i64 (l.length : Nat)), (9, .int .i64 (z.1 : Nat))]) (fun z => Sto w (own 63 1 z.2.1.1 z.1 z.2.1.2 (z.2.2.reverse.map BlG.hdr) :: z.2.2.map ownB)) (OfG l) (fun z => l.length - z.1) (0, (none, 0), []) ⟨rfl, rfl, rfl, rfl, trivial⟩ (fun _ h => h.begin_ _ 1) (OfG.start l) ?_
  rintro ⟨i, q, rs⟩ hz
  have hle := hz.le
  have hrl := hz.len
  simp only at hle hrl
  dsimp only
  refine CW.seq ?_
  refine CW.reg [0] rfl ?_   -- 3, binpoly.go:38
  refine s_lt 10 rfl rfl rfl rfl ?_
  refine SX.next ?_
  refine CW.seq ?_
  refine CW.test rfl (fun hc => ?_) (fun hc => ?_)
  · skip
    have hi : i < l.length := by omega
    obtain ⟨k, hk⟩ := Int.eq_ofNat_of_zero_le (hr i hi).1
    have hk2 : k ≤ 2048 := by have := (hr i hi).2; omega
    refine CW.skip ?_
    refine KN.code ?_
    refine CW.seq ?_
    refine CW.block ?_
    refine CW.seq ?_
    refine CW.reg [0, 1, 2] rfl ?_   -- 4, binpoly.go:38
    refine s_iaV 11 i (fun w hw => hw.old ha) rfl rfl rfl rfl (by omega) ?_
    refine s_ldV 12 (v := .int .i64 (k : Nat)) (fun w hw => hw.old ha) rfl rfl (by rw [Nat.mul_one, intsAt hi, hk]) (by omega) ?_
    refine s_as 6 rfl rfl ?_
    refine SX.next ?_
    refine CW.seq ?_
    refine CW.seq ?_
    refine CW.reg [0, 1, 2, 3, 4, 5] rfl ?_   -- 5, binpoly.go:39
    refine s_mv 13 rfl rfl ?_
    refine s_lt 14 rfl rfl rfl (decide_eq_false (by omega)) ?_
    refine s_mv 15 rfl rfl ?_
    refine s_mv 16 rfl rfl ?_
    refine s_gt 17 rfl rfl rfl (decide_eq_false (by omega)) ?_
    refine s_pickF 18 rfl rfl rfl ?_
    refine SX.next ?_
    refine CW.condF rfl ?_
    refine CW.skip ?_
    refine KN.code ?_
    refine CW.reg [0, 1, 2, 3, 4, 5] rfl ?_   -- 7, binpoly.go:42
    refine s_mv 20 rfl rfl ?_
    refine s_mv 21 rfl rfl ?_
    refine s_call 22 rfl rfl rfl rfl (fun w hw => one_spec k w (by omega)) (fun _ _ => trivial) (fun q22 hq22 => ?_)
    refine s_bsl 23 rfl rfl (cells := #[.slice q22.1 (bys (xP k)).length q22.2]) (by kernel_rfl) rfl (fun _ _ => trivial) (fun gb => ?_)
    refine s_app 24 2 rfl rfl rfl rfl (ys := [.slice q22.1 (bys (xP k)).length q22.2]) (fun w hw => Has.cong ((hw.has (i := 0) rfl).blk_sl (m := 1) rfl) rfl) rfl rfl (by omega) (by unfold maxLen; omega) (by omega) (fun _ _ _ _ => trivial) (fun A2 c2 hc2 => ?_)
    refine s_as 4 rfl rfl ?_
    refine SX.end_ ?_
    refine KN.blk ?_
    refine KN.code ?_
    refine CW.reg [0, 1] rfl ?_   -- 8, binpoly.go:38
    refine s_add 25 rfl rfl rfl (r := ((i + 1 : Nat) : Int)) (w64 (by omega)) ?_
    refine s_mv 9 rfl rfl ?_
    refine SX.end_ ?_
    exact KN.back (i + 1, (A2, c2), ⟨q22.1, q22.2, (bys (xP k))⟩ :: rs) ⟨rfl, rfl, rfl, rfl, trivial⟩ (fun _ h => by simp only [List.reverse_cons, List.map_append]; exact h.tail.swp) (hz.next hi hk hk2 hq22) (by simp only; omega)
  · skip
    obtain rfl : i = l.length := by omega
    refine CW.exit rfl ?_
    refine KN.code ?_
    refine CW.seq ?_
    refine CW.reg [0, 1, 2, 3] rfl ?_   -- 9, binpoly.go:44
    refine s_mv 26 rfl rfl ?_
    refine s_call 27 rfl rfl rfl rfl (fun w hw => by have := fold_spec q.1 l.length q.2 rs.reverse w ((hw.has (i := 0) rfl).of_own) (fun b hb => by
      obtain ⟨k, hk⟩ := rev_has hb
      obtain ⟨k2, hk2, hbl⟩ := hz.byt b (List.mem_reverse.1 hb)
      have hx := xP_len k2
      exact ⟨(hw.has (i := k + 1) (by rw [List.getElem?_cons_succ]; exact hk)).of_own, by rw [hbl]; exact (bys_tr (xP_b1 k2).le).lt, by rw [hbl]; omega, hz.cap b (List.mem_reverse.1 hb)⟩) hn; rw [List.length_reverse, hrl, hz.done] at this; exact this) (fun _ _ => trivial) (fun q3 hq3 => ?_)
    refine s_as 2 rfl rfl ?_
    refine s_as 3 rfl rfl ?_
    refine SX.next ?_
    refine CW.ret ?_
    exact KN.ret (rs := [.tmp 2, .tmp 3]) Tryd.results50 rfl (fun w hw => ⟨q3, rfl, hq3, hw.pick [0] rfl⟩)

theorem of_bad (A : Option Addr) (n c : Nat) (l : List Int) (e : Nat → Addr) (w : World) (ha : Has (sl 1 A n (ints .i64 l)) w) (hn : n ≤ 1000000) (he : Er e w 4) (jb : Nat) (hjb : jb < l.length) (hbad : ¬ (0 ≤ l.getD jb 0 ∧ l.getD jb 0 ≤ 2048)) : Spec1 Tryd.prog 50 [.slice A n c] w (errRes e 4) := by
  have hla := ints_len ha
  subst hla
  refine spec_of Tryd.func50 rfl Tryd.ntmps50 rfl ?_
  refine CW.seq ?_
  refine CW.reg [0, 1] rfl ?_   -- 0, binpoly.go:36
  refine s_as 2 rfl rfl ?_
  refine s_as 3 rfl rfl ?_
  refine SX.next ?_
  refine CW.seq ?_
  refine CW.reg [0] rfl ?_   -- 1, binpoly.go:37
  refine s_as 4 rfl rfl ?_
  refine SX.next ?_
  refine CW.seq ?_
  refine CW.seq ?_
  refine CW.reg [0, 1, 2] rfl ?_   -- 2, binpoly.go:38
  refine s_mv 7 rfl rfl ?_
  refine s_len 8 rfl rfl ?_
  refine s_mv 9 rfl rfl ?_
  refine SX.next ?_
  refine CW.block ?_
  refine CW.loop (G := Nat × (Option Addr × Nat) × List BlG) (fun z => [(4, .slice z.2.1.1 z.1 z.2.1.2), (7, .slice A l.length c), (8, .int .i64 (l.length : Nat)), (9, .int .i64 (z.1 : Nat))]) (fun z => Sto w (own 63 1 z.2.1.1 z.1 z.2.1.2 (z.2.2.reverse.map BlG.hdr) :: z.2.2.map ownB)) (OfG l) (fun z => l.length - z.1) (0, (none, 0), []) ⟨rfl, rfl, rfl, rfl, trivial⟩ (fun _ h => h.begin_ _ 1) (OfG.start l) ?_
  rintro ⟨i, q, rs⟩ hz
  have hle := hz.le
  have hrl := hz.len
  simp only at hle hrl
  dsimp only
  refine CW.seq ?_
  refine CW.reg [0] rfl ?_   -- 3, binpoly.go:38
  refine s_lt 10 rfl rfl rfl rfl ?_
  refine SX.next ?_
  refine CW.seq ?_
  refine CW.test rfl (fun hc => ?_) (fun hc => ?_)
  · skip
    have hi : i < l.length := by omega
    refine CW.skip ?_
    refine KN.code ?_
    refine CW.seq ?_
    refine CW.block ?_
    refine CW.seq ?_
    refine CW.reg [0, 1, 2] rfl ?_   -- 4, binpoly.go:38
    refine s_iaV 11 i (fun w hw => hw.old ha) rfl rfl rfl rfl (by omega) ?_
    refine s_ldV 12 (fun w hw => hw.old ha) rfl rfl (by rw [Nat.mul_one]; exact intsAt hi) (by omega) ?_
    refine s_as 6 rfl rfl ?_
    refine SX.next ?_
    refine CW.seq ?_
    refine CW.seq ?_
    refine CW.reg [0, 1, 2, 3, 4, 5] rfl ?_   -- 5, binpoly.go:39
    refine s_mv 13 rfl rfl ?_
    refine s_lt 14 rfl rfl rfl rfl ?_
    refine s_mv 15 rfl rfl ?_
    refine SX.bool 15 rfl (fun hb => ?_) (fun hb => ?_)
    · skip
      skip
      refine SX.skip rfl ?_
      refine SX.skip rfl ?_
      refine s_pickT 18 rfl rfl rfl ?_
      refine SX.next ?_
      refine CW.condT rfl ?_
      refine CW.seq ?_
      refine CW.regD (.st true 0 (.st true 1 (.st true 2 .done))) (Sto w []) mixed (by kernel_rfl) (fun _ h => h.drew) (fun _ h => h.dropR) ?_
      refine s_ldS 19 rfl rfl (fun _ h => h.cell he) ?_
      refine s_as 2 rfl rfl ?_
      refine s_as 3 rfl rfl ?_
      refine SX.next ?_
      refine CW.ret ?_
      exact KN.ret (rs := [.tmp 2, .tmp 3]) Tryd.results50 rfl (fun w hw => ⟨rfl, hw.dropR⟩)
    · skip
      replace hb := of_decide_eq_false hb
      refine s_mv 16 rfl rfl ?_
      refine s_gt 17 rfl rfl rfl rfl ?_
      refine s_pickF 18 rfl rfl rfl ?_
      refine SX.next ?_
      refine CW.test rfl (fun hc2 => ?_) (fun hc2 => ?_)
      · skip
        refine CW.seq ?_
        refine CW.regD (.st true 0 (.st true 1 (.st true 2 .done))) (Sto w []) mixed (by kernel_rfl) (fun _ h => h.drew) (fun _ h => h.dropR) ?_
        refine s_ldS 19 rfl rfl (fun _ h => h.cell he) ?_
        refine s_as 2 rfl rfl ?_
        refine s_as 3 rfl rfl ?_
        refine SX.next ?_
        refine CW.ret ?_
        exact KN.ret (rs := [.tmp 2, .tmp 3]) Tryd.results50 rfl (fun w hw => ⟨rfl, hw.dropR⟩)
      · skip
        obtain ⟨k, hk⟩ := Int.eq_ofNat_of_zero_le (show 0 ≤ l.getD i 0 by omega)
        have hk2 : k ≤ 2048 := by omega
        refine CW.skip ?_
        refine KN.code ?_
        refine CW.reg [0, 1, 2, 3, 4, 5] rfl ?_   -- 7, binpoly.go:42
        refine s_mv 20 rfl rfl ?_
        refine s_mv 21 (v := .int .i64 (k : Nat)) rfl (by rw [← hk]; rfl) ?_
        refine s_call 22 rfl rfl rfl rfl (fun w hw => one_spec k w (by omega)) (fun _ _ => trivial) (fun q22 hq22 => ?_)
        refine s_bsl 23 rfl rfl (cells := #[.slice q22.1 (bys (xP k)).length q22.2]) (by kernel_rfl) rfl (fun _ _ => trivial) (fun gb => ?_)
        refine s_app 24 2 rfl rfl rfl rfl (ys := [.slice q22.1 (bys (xP k)).length q22.2]) (fun w hw => Has.cong ((hw.has (i := 0) rfl).blk_sl (m := 1) rfl) rfl) rfl rfl (by omega) (by unfold maxLen; omega) (by omega) (fun _ _ _ _ => trivial) (fun A2 c2 hc2 => ?_)
        refine s_as 4 rfl rfl ?_
        refine SX.end_ ?_
        refine KN.blk ?_
        refine KN.code ?_
        refine CW.reg [0, 1] rfl ?_   -- 8, binpoly.go:38
        refine s_add 25 rfl rfl rfl (r := ((i + 1 : Nat) : Int)) (w64 (by omega)) ?_
        refine s_mv 9 rfl rfl ?_
        refine SX.end_ ?_
        exact KN.back (i + 1, (A2, c2), ⟨q22.1, q22.2, (bys (xP k))⟩ :: rs) ⟨rfl, rfl, rfl, rfl, trivial⟩ (fun _ h => by simp only [List.reverse_cons, List.map_append]; exact h.tail.swp) (hz.next hi hk hk2 hq22) (by simp only; omega)
  · skip
    exact absurd (hz.rng jb (by simp only; omega)) hbad
