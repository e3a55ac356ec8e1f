/- The contracts of shaleref's helpers on lists of numbers. Conditions: the lists are read where they lie. -/
import Derived.Test.YtcjddlcinaedaaaDoorFacts2
import Derived.Test.YtcjddlcinaedaaaDoorArgs
namespace Go.Proofs.YtcjddlcinaedaaaDoor
open Go.Sx
set_option maxRecDepth 100000
theorem getD_ext {l1 l2 : List Int} (hl : l1.length = l2.length) (h : ∀ j, j < l1.length → l1.getD j 0 = l2.getD j 0) : l1 = l2 := by
  apply List.ext_getElem hl
  intro j h1 h2
  have := h j h1
  simpa [List.getD, h1, h2] using this

theorem sameInts_spec (A B : Option Addr) (n c k d : Nat) (l1 l2 : List Int) (w : World) (ha : Has (sl 1 A n (ints .i64 l1)) w) (hb : Has (sl 1 B k (ints .i64 l2)) w) (hn : n < 2 ^ 62) : Spec1 Tryd.prog 42 [.slice A n c, .slice B k d] w (.bool (decide (l1 = l2))) := by
  have hla := ints_len ha
  have hlb := ints_len hb
  refine spec_of Tryd.func42 rfl Tryd.ntmps42 rfl ?_
  refine CW.seq ?_
  refine CW.reg [0] rfl ?_   -- 0, ref.go:132
  refine s_as 4 rfl rfl ?_
  refine SX.next ?_
  refine CW.seq ?_
  refine CW.seq ?_
  refine CW.reg [0, 1, 2, 3, 4] rfl ?_   -- 1, ref.go:133
  refine s_mv 7 rfl rfl ?_
  refine s_len 8 rfl rfl ?_
  refine s_mv 9 rfl rfl ?_
  refine s_len 10 rfl rfl ?_
  refine s_ne 11 rfl rfl rfl rfl ?_
  refine SX.next ?_
  refine CW.test rfl (fun hc => ?_) (fun hc => ?_)
  · skip
    refine CW.seq ?_
    refine CW.reg [0] rfl ?_   -- 2, ref.go:134
    refine s_as 4 rfl rfl ?_
    refine SX.next ?_
    refine CW.ret ?_
    exact KN.ret (rs := [.tmp 4]) Tryd.results42 rfl (fun w hw => ⟨by rw [decide_eq_false (fun h => hc (by rw [← hla, ← hlb, h]))]; rfl, hw.nothing⟩)
  · skip
    refine CW.skip ?_
    refine KN.code ?_
    refine CW.seq ?_
    refine CW.seq ?_
    refine CW.reg [0] rfl ?_   -- 3, ref.go:136
    refine s_as 5 rfl rfl ?_
    refine SX.next ?_
    refine CW.block ?_
    refine CW.loop (G := Nat) (fun i => [(0, .slice A n c), (1, .slice B k d), (5, .int .i64 (i : Nat))]) (fun _ => Sto w []) (fun i => i ≤ n ∧ ∀ j, j < i → l1.getD j 0 = l2.getD j 0) (fun i => n - i) 0 ⟨rfl, rfl, rfl, trivial⟩ (fun _ h => h) ⟨Nat.zero_le _, fun j hj => by omega⟩ ?_
    intro i hi
    refine CW.seq ?_
    refine CW.seq ?_
    refine CW.reg [0, 1, 2, 3] rfl ?_   -- 4, ref.go:136
    refine s_mv 12 rfl rfl ?_
    refine s_mv 13 rfl rfl ?_
    refine s_len 14 rfl rfl ?_
    refine s_lt 15 rfl rfl rfl rfl ?_
    refine SX.next ?_
    refine CW.test rfl (fun hc => ?_) (fun hc => ?_)
    · skip
      refine CW.skip ?_
      refine KN.code ?_
      refine CW.seq ?_
      refine CW.block ?_
      refine CW.seq ?_
      refine CW.regD (.st true 0 (.st true 1 (.st true 2 (.st true 3 (.st true 4 (.st true 5 (.st true 6 (.st true 7 (.st true 8 (.st true 9 .done)))))))))) (Sto w []) mixed (by kernel_rfl) (fun _ h => h.drew) (fun _ h => h) ?_
      refine s_mv 18 rfl rfl ?_
      refine s_mv 19 rfl rfl ?_
      refine s_iaV 20 i (fun w hw => hw.old ha) rfl rfl rfl rfl (by omega) ?_
      refine s_ldVS 21 (fun w hw => hw.old ha) rfl rfl (by rw [Nat.mul_one]; exact intsAt (by omega)) (by omega) ?_
      refine s_mv 22 rfl rfl ?_
      refine s_mv 23 rfl rfl ?_
      refine s_iaV 24 i (fun w hw => hw.old hb) rfl rfl rfl rfl (by omega) ?_
      refine s_ldVS 25 (fun w hw => hw.old hb) rfl rfl (by rw [Nat.mul_one]; exact intsAt (by omega)) (by omega) ?_
      refine s_eq 26 rfl rfl rfl rfl ?_
      refine s_as 6 rfl rfl ?_
      refine SX.next ?_
      refine CW.seq ?_
      refine CW.reg [0, 1] rfl ?_   -- 7, ref.go:138
      refine s_mv 27 rfl rfl ?_
      refine s_not 28 rfl rfl ?_
      refine SX.next ?_
      refine CW.cond rfl (fun hc => ?_) (fun hc => ?_)
      · skip
        have hd : l1.getD i 0 ≠ l2.getD i 0 := by simpa using hc
        refine CW.seq ?_
        refine CW.reg [0] rfl ?_   -- 8, ref.go:139
        refine s_as 4 rfl rfl ?_
        refine SX.next ?_
        refine CW.ret ?_
        exact KN.ret (rs := [.tmp 4]) Tryd.results42 rfl (fun w hw => ⟨by rw [decide_eq_false (fun h => hd (by rw [h]))]; rfl, hw.nothing⟩)
      · skip
        have hd : l1.getD i 0 = l2.getD i 0 := by simpa using hc
        refine CW.skip ?_
        refine KN.blk ?_
        refine KN.code ?_
        refine CW.reg [0, 1, 2] rfl ?_   -- 5, ref.go:136
        refine s_mv 16 rfl rfl ?_
        refine s_add 17 rfl rfl rfl (r := ((i + 1 : Nat) : Int)) (w64 (by omega)) ?_
        refine s_as 5 rfl rfl ?_
        refine SX.end_ ?_
        exact KN.back (i + 1) ⟨rfl, rfl, rfl, trivial⟩ (fun _ h => h) ⟨by omega, fun j hj => by
  rcases Nat.lt_or_eq_of_le (Nat.le_of_lt_succ hj) with h | rfl
  · exact hi.2 j h
  · exact hd⟩ (by omega)
    · skip
      refine CW.exit rfl ?_
      refine KN.code ?_
      refine CW.seq ?_
      refine CW.reg [0] rfl ?_   -- 9, ref.go:142
      refine s_as 4 rfl rfl ?_
      refine SX.next ?_
      refine CW.ret ?_
      exact KN.ret (rs := [.tmp 4]) Tryd.results42 rfl (fun w hw => ⟨by rw [decide_eq_true (getD_ext (by omega) (fun j hj => hi.2 j (by omega)))]; rfl, hw.nothing⟩)
