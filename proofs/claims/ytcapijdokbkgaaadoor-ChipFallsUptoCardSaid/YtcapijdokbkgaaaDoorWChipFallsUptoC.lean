/- The walk of the statement ChipFallsUpto, text 3. Conditions: each theorem tells its own. -/
import Derived.Test.YtcapijdokbkgaaaDoorWChipFallsUptoB
import Derived.Test.YtcapijdokbkgaaaDoorRows
import Derived.Deep.Strs
section
/- Chapter 14's examples, walked. Conditions: the errors' variables. -/
namespace Go.Proofs.YtcapijdokbkgaaaDoor
open Go Go.Sx Go.Fm
set_option maxRecDepth 100000
theorem bytes_of {g n : Nat} {cs : Array Value} {l : List Nat} {w : World} (h : Has (blk g 5 cs) w) (hs : cs.size = n * 1) (he : cs.toList = nats .u8 l) (hn : n = l.length) : Has (sl 1 (some ⟨g, 0, none⟩) l.length (nats .u8 l)) w := by
  subst hn
  exact Has.cong (h.blk_sl hs) he

set_option maxHeartbeats 3200000 in

theorem first14_spec (e : Nat → Addr) (w : World) (heD : Er e w 0) (heO : Er e w 1) (heS : Er e w 2) (heF : Er e w 5) (heM : Er e w 6) : Spec1 Tryd.prog 12 [] w (.bool true) := by
  refine spec_of Tryd.func12 rfl Tryd.ntmps12 rfl ?_
  refine CW.seq ?_
  refine CW.reg [0] rfl ?_
  refine s_as 0 rfl rfl ?_
  refine SX.next ?_
  refine CW.seq ?_
  refine CW.reg [0, 1, 2, 3, 4, 5, 6, 7, 8, 9] rfl ?_
  refine s_bsl 15 rfl rfl (cells := #[.int .i64 0]) (by kernel_rfl) rfl (fun _ _ => trivial) (fun g15 => ?_)
  refine s_build 16 rfl rfl (cells := #[.int .i64 1, .int .i64 1, .int .i64 0, .int .i64 0, .slice (some ⟨g15, 0, none⟩) 1 1]) (by kernel_rfl) ?_
  refine s_build 17 rfl rfl (cells := #[.int .i64 2, .int .i64 3, .int .i64 0, .int .i64 1, .slice none 0 0]) (by kernel_rfl) ?_
  refine s_bsl 18 rfl rfl (cells := #[.int .i64 1, .int .i64 1, .int .i64 0, .int .i64 0, .slice (some ⟨g15, 0, none⟩) 1 1, .int .i64 2, .int .i64 3, .int .i64 0, .int .i64 1, .slice none 0 0]) (by kernel_rfl) rfl (fun _ _ => trivial) (fun g18 => ?_)
  refine s_call 19 rfl rfl rfl rfl (X := Nat × ChG) (v := fun z => two (.pointer (some ⟨z.1, 0, none⟩)) .nilIface) (pf := fun z => z.2.abs = F14 ∧ z.2.watch = .nilFunc) (L' := fun z => [chipA z.1 z.2]) (fun w hw => cnew_ok 8 4 2 1 none 0 [] (some ⟨g18, 0, none⟩) 2 [(⟨1, 1, 0, 0, some ⟨g15, 0, none⟩, 1, [0]⟩ : FtG), (⟨2, 3, 0, 1, none, 0, []⟩ : FtG)] e w (by decide) (by decide) (by decide) (by decide) (Has.sl_nil w 1 none) (by decide) (fun m hm => absurd hm List.not_mem_nil) (hw.er heM) ⟨Has.cong ((hw.has (i := 0) rfl).blk_sl (m := 2) rfl) rfl, fun f hf => by
    simp only [List.mem_cons, List.not_mem_nil, or_false] at hf
    rcases hf with rfl | rfl
    · exact Has.cong ((hw.has (i := 1) rfl).blk_sl (m := 1) rfl) rfl
    · exact Has.sl_nil w 1 none, fun f hf => by
    simp only [List.mem_cons, List.not_mem_nil, or_false] at hf
    rcases hf with rfl | rfl <;> simp⟩ (by simp)) (fun _ _ => trivial) (fun z hz => ?_)
  obtain ⟨g, x0⟩ := z
  refine s_mv 14 rfl rfl ?_
  refine s_ext 20 rfl rfl rfl ?_
  refine s_ext 21 rfl rfl rfl ?_
  refine s_as 1 rfl rfl ?_
  refine s_as 2 rfl rfl ?_
  refine SX.next ?_
  refine CW.seq ?_
  refine CW.seq ?_
  refine CW.reg [0, 1, 2, 3, 4, 5] rfl ?_
  refine s_mv 22 rfl rfl ?_
  refine s_eqPN 23 rfl rfl ?_
  refine s_mv 24 rfl rfl ?_
  refine s_mv 25 rfl rfl ?_
  refine s_neNN 26 rfl rfl ?_
  refine s_pickF 27 rfl rfl rfl ?_
  refine SX.next ?_
  refine CW.condF rfl ?_
  refine CW.skip ?_
  refine KN.code ?_
  refine CW.seq ?_
  refine CW.reg [0, 1, 2, 3, 4] rfl ?_
  refine s_mv 28 rfl rfl ?_
  refine s_build 29 rfl rfl (cells := #[.int .i64 0, .int .i64 0]) (by kernel_rfl) ?_
  refine s_bsl 30 rfl rfl (cells := #[.int .u8 1, .int .u8 2]) (by kernel_rfl) rfl (fun _ _ => trivial) (fun b30 => ?_)
  refine s_callP 31 [1, 0, 0, 0] (M := [chipA g x0]) (R := [blk b30 5 #[.int .u8 1, .int .u8 2], blk g18 48 #[.int .i64 1, .int .i64 1, .int .i64 0, .int .i64 0, .slice (some ⟨g15, 0, none⟩) 1 1, .int .i64 2, .int .i64 3, .int .i64 0, .int .i64 1, .slice none 0 0], blk g15 3 #[.int .i64 0]]) (X := ChG) (v := fun z => .nilIface) (pf := fun z => z.abs = F14a ∧ z.watch = .nilFunc) (M' := fun z => [chipA g z]) rfl rfl rfl rfl rfl (fun F' w' hR hM => by have := program_spec F' g x0 (by rw [hz.1]; exact F14_ok) 0 0 (some ⟨b30, 0, none⟩) 2 [1, 2] e w' (fun w2 hf => (hR w2 hf).er heD) (fun w2 hf => (hR w2 hf).er heO) (fun w2 hf => (hR w2 hf).er heS) (fun w2 hf => (hR w2 hf).er heF) (fun w2 hf => bytes_of ((hR w2 hf).has (i := 0) rfl) (n := 2) rfl rfl rfl) (two8 (by decide) (by decide)) hM; rw [hz.1, F14_1, hz.2] at this; exact this) (fun _ _ _ => trivial) (fun x1 hx1 => ?_)
  refine s_as 3 rfl rfl ?_
  refine SX.next ?_
  refine CW.seq ?_
  refine CW.reg [0, 1, 2, 3, 4, 5, 6, 7] rfl ?_
  refine s_mv 33 rfl rfl ?_
  refine s_build 34 rfl rfl (cells := #[.int .i64 0, .int .i64 0]) (by kernel_rfl) ?_
  refine s_callP 35 [0, 0, 0, 0] (M := [chipA g x1]) (R := [blk b30 5 #[.int .u8 1, .int .u8 2], blk g18 48 #[.int .i64 1, .int .i64 1, .int .i64 0, .int .i64 0, .slice (some ⟨g15, 0, none⟩) 1 1, .int .i64 2, .int .i64 3, .int .i64 0, .int .i64 1, .slice none 0 0], blk g15 3 #[.int .i64 0]]) (X := (Option Addr × Nat) × ChG) (v := fun z => two (.slice z.1.1 ([0, 2] : List Nat).length z.1.2) .nilIface) (pf := fun z => z.2.abs = F14b ∧ z.2.watch = .nilFunc) (M' := fun z => [own 5 1 z.1.1 ([0, 2] : List Nat).length z.1.2 (nats .u8 [0, 2]), chipA g z.2]) rfl rfl rfl rfl rfl (fun F' w' hR hM => by have := read_spec F' g x1 (by rw [hx1.1]; exact F14a_ok) 0 0 0 e w' hx1.2 (fun w2 hf => (hR w2 hf).er heD) (fun w2 hf => (hR w2 hf).er heO) (fun w2 hf => (hR w2 hf).er heS) hM; rw [hx1.1, F14_2, F14_2b, hx1.2] at this; exact this) (fun _ _ _ => trivial) (fun x2 hx2 => ?_)
  refine s_mv 32 rfl rfl ?_
  refine s_ext 36 rfl rfl rfl ?_
  refine s_ext 37 rfl rfl rfl ?_
  refine s_as 4 rfl rfl ?_
  refine s_as 5 rfl rfl ?_
  refine SX.next ?_
  refine CW.seq ?_
  refine CW.reg [0, 1, 2, 3, 4] rfl ?_
  refine s_mv 38 rfl rfl ?_
  refine s_build 39 rfl rfl (cells := #[.int .i64 0, .int .i64 1]) (by kernel_rfl) ?_
  refine s_bsl 40 rfl rfl (cells := #[.int .u8 3, .int .u8 4]) (by kernel_rfl) rfl (fun _ _ => trivial) (fun b40 => ?_)
  refine s_callP 41 [2, 0, 0, 0, 0, 0] (M := [chipA g x2.2]) (R := [blk b40 5 #[.int .u8 3, .int .u8 4], own 5 1 x2.1.1 ([0, 2] : List Nat).length x2.1.2 (nats .u8 [0, 2]), blk b30 5 #[.int .u8 1, .int .u8 2], blk g18 48 #[.int .i64 1, .int .i64 1, .int .i64 0, .int .i64 0, .slice (some ⟨g15, 0, none⟩) 1 1, .int .i64 2, .int .i64 3, .int .i64 0, .int .i64 1, .slice none 0 0], blk g15 3 #[.int .i64 0]]) (X := ChG) (v := fun z => errV e 0) (pf := fun z => z.abs = F14c ∧ z.watch = .nilFunc) (M' := fun z => [chipA g z]) rfl rfl rfl rfl rfl (fun F' w' hR hM => by have := program_spec F' g x2.2 (by rw [hx2.1]; exact F14b_ok) 0 1 (some ⟨b40, 0, none⟩) 2 [3, 4] e w' (fun w2 hf => (hR w2 hf).er heD) (fun w2 hf => (hR w2 hf).er heO) (fun w2 hf => (hR w2 hf).er heS) (fun w2 hf => (hR w2 hf).er heF) (fun w2 hf => bytes_of ((hR w2 hf).has (i := 0) rfl) (n := 2) rfl rfl rfl) (two8 (by decide) (by decide)) hM; rw [hx2.1, F14_3, hx2.2] at this; exact this) (fun _ _ _ => trivial) (fun x3 hx3 => ?_)
  refine s_as 6 rfl rfl ?_
  refine SX.next ?_
  refine CW.seq ?_
  refine CW.reg [0, 1, 2, 3] rfl ?_
  refine s_mv 42 rfl rfl ?_
  refine s_call1 43 rfl rfl rfl rfl (v := .bool false) (fun w hw => by have := on_spec g x3 w (hw.has (i := 0) rfl); rw [show x3.off = F14c.off from congrArg ChS.off hx3.1, F14_4] at this; exact this) (fun _ _ => trivial) ?_
  refine s_not 44 rfl rfl ?_
  refine s_as 7 rfl rfl ?_
  refine SX.next ?_
  refine CW.seq ?_
  refine CW.reg [0, 1, 2, 3] rfl ?_
  refine s_mv 45 rfl rfl ?_
  refine s_build 46 rfl rfl (cells := #[.int .i64 0, .int .i64 1]) (by kernel_rfl) ?_
  refine s_call 47 rfl rfl rfl rfl (X := Option Addr × Nat) (v := fun z => .slice z.1 ([3, 255] : List Nat).length z.2) (pf := fun z => ([3, 255] : List Nat).length ≤ z.2) (L' := fun z => [own 5 1 z.1 ([3, 255] : List Nat).length z.2 (nats .u8 [3, 255])]) (fun w hw => by have := cells_spec g x3 (by rw [hx3.1]; exact F14c_ok) 0 1 w (hw.has (i := 0) rfl); rw [hx3.1, F14_5] at this; exact this) (fun _ _ => trivial) (fun z47 hz47 => ?_)
  refine s_as 8 rfl rfl ?_
  refine SX.next ?_
  refine CW.seq ?_
  refine CW.reg [0, 1] rfl ?_
  refine s_mv 48 rfl rfl ?_
  refine s_callP 49 [1, 0, 0, 0, 0, 0, 0] (M := [chipA g x3]) (R := [own 5 1 z47.1 ([3, 255] : List Nat).length z47.2 (nats .u8 [3, 255]), blk b40 5 #[.int .u8 3, .int .u8 4], own 5 1 x2.1.1 ([0, 2] : List Nat).length x2.1.2 (nats .u8 [0, 2]), blk b30 5 #[.int .u8 1, .int .u8 2], blk g18 48 #[.int .i64 1, .int .i64 1, .int .i64 0, .int .i64 0, .slice (some ⟨g15, 0, none⟩) 1 1, .int .i64 2, .int .i64 3, .int .i64 0, .int .i64 1, .slice none 0 0], blk g15 3 #[.int .i64 0]]) (X := Unit) (v := fun z => oneOf []) (pf := fun z => True) (M' := fun z => [chipA g { x3 with off := false }]) rfl rfl rfl rfl rfl (fun F' w' hR hM => by have := power_spec F' g x3 w' hM;  exact this) (fun _ _ _ => trivial) (fun _ _ => ?_)
  have hx4 : ({ x3 with off := false } : ChG).abs = F14d ∧ ({ x3 with off := false } : ChG).watch = .nilFunc := ⟨by unfold F14d; rw [← hx3.1]; rfl, hx3.2⟩
  refine SX.next ?_
  refine CW.seq ?_
  refine CW.reg [0, 1, 2, 3, 4, 5, 6, 7] rfl ?_
  refine s_mv 51 rfl rfl ?_
  refine s_build 52 rfl rfl (cells := #[.int .i64 0, .int .i64 0]) (by kernel_rfl) ?_
  refine s_callP 53 [0, 0, 0, 0, 0, 0, 0] (M := [chipA g { x3 with off := false }]) (R := [own 5 1 z47.1 ([3, 255] : List Nat).length z47.2 (nats .u8 [3, 255]), blk b40 5 #[.int .u8 3, .int .u8 4], own 5 1 x2.1.1 ([0, 2] : List Nat).length x2.1.2 (nats .u8 [0, 2]), blk b30 5 #[.int .u8 1, .int .u8 2], blk g18 48 #[.int .i64 1, .int .i64 1, .int .i64 0, .int .i64 0, .slice (some ⟨g15, 0, none⟩) 1 1, .int .i64 2, .int .i64 3, .int .i64 0, .int .i64 1, .slice none 0 0], blk g15 3 #[.int .i64 0]]) (X := (Option Addr × Nat) × ChG) (v := fun z => two (.slice z.1.1 ([1, 2] : List Nat).length z.1.2) .nilIface) (pf := fun z => z.2.abs = F14e ∧ z.2.watch = .nilFunc) (M' := fun z => [own 5 1 z.1.1 ([1, 2] : List Nat).length z.1.2 (nats .u8 [1, 2]), chipA g z.2]) rfl rfl rfl rfl rfl (fun F' w' hR hM => by have := read_spec F' g { x3 with off := false } (by rw [hx4.1]; exact F14d_ok) 0 0 0 e w' hx4.2 (fun w2 hf => (hR w2 hf).er heD) (fun w2 hf => (hR w2 hf).er heO) (fun w2 hf => (hR w2 hf).er heS) hM; rw [hx4.1, F14_6, F14_6b, hx4.2] at this; exact this) (fun _ _ _ => trivial) (fun x5 hx5 => ?_)
  refine s_mv 50 rfl rfl ?_
  refine s_ext 54 rfl rfl rfl ?_
  refine s_ext 55 rfl rfl rfl ?_
  refine s_as 9 rfl rfl ?_
  refine s_as 10 rfl rfl ?_
  refine SX.next ?_
  refine CW.seq ?_
  refine CW.reg [0, 1, 2, 3, 4] rfl ?_
  refine s_mv 56 rfl rfl ?_
  refine s_build 57 rfl rfl (cells := #[.int .i64 0, .int .i64 1]) (by kernel_rfl) ?_
  refine s_bsl 58 rfl rfl (cells := #[.int .u8 1, .int .u8 1]) (by kernel_rfl) rfl (fun _ _ => trivial) (fun b58 => ?_)
  refine s_callP 59 [2, 0, 0, 0, 0, 0, 0, 0, 0] (M := [chipA g x5.2]) (R := [blk b58 5 #[.int .u8 1, .int .u8 1], own 5 1 x5.1.1 ([1, 2] : List Nat).length x5.1.2 (nats .u8 [1, 2]), own 5 1 z47.1 ([3, 255] : List Nat).length z47.2 (nats .u8 [3, 255]), blk b40 5 #[.int .u8 3, .int .u8 4], own 5 1 x2.1.1 ([0, 2] : List Nat).length x2.1.2 (nats .u8 [0, 2]), blk b30 5 #[.int .u8 1, .int .u8 2], blk g18 48 #[.int .i64 1, .int .i64 1, .int .i64 0, .int .i64 0, .slice (some ⟨g15, 0, none⟩) 1 1, .int .i64 2, .int .i64 3, .int .i64 0, .int .i64 1, .slice none 0 0], blk g15 3 #[.int .i64 0]]) (X := ChG) (v := fun z => .nilIface) (pf := fun z => z.abs = F14f ∧ z.watch = .nilFunc) (M' := fun z => [chipA g z]) rfl rfl rfl rfl rfl (fun F' w' hR hM => by have := program_spec F' g x5.2 (by rw [hx5.1]; exact F14e_ok) 0 1 (some ⟨b58, 0, none⟩) 2 [1, 1] e w' (fun w2 hf => (hR w2 hf).er heD) (fun w2 hf => (hR w2 hf).er heO) (fun w2 hf => (hR w2 hf).er heS) (fun w2 hf => (hR w2 hf).er heF) (fun w2 hf => bytes_of ((hR w2 hf).has (i := 0) rfl) (n := 2) rfl rfl rfl) (two8 (by decide) (by decide)) hM; rw [hx5.1, F14_7, hx5.2] at this; exact this) (fun _ _ _ => trivial) (fun x6 hx6 => ?_)
  refine s_as 11 rfl rfl ?_
  refine SX.next ?_
  refine CW.seq ?_
  refine CW.reg [0, 1, 2, 3, 4, 5, 6, 7] rfl ?_
  refine s_mv 61 rfl rfl ?_
  refine s_build 62 rfl rfl (cells := #[.int .i64 9, .int .i64 0]) (by kernel_rfl) ?_
  refine s_callP 63 [0, 0, 0, 0, 0, 0, 0, 0, 0] (M := [chipA g x6]) (R := [blk b58 5 #[.int .u8 1, .int .u8 1], own 5 1 x5.1.1 ([1, 2] : List Nat).length x5.1.2 (nats .u8 [1, 2]), own 5 1 z47.1 ([3, 255] : List Nat).length z47.2 (nats .u8 [3, 255]), blk b40 5 #[.int .u8 3, .int .u8 4], own 5 1 x2.1.1 ([0, 2] : List Nat).length x2.1.2 (nats .u8 [0, 2]), blk b30 5 #[.int .u8 1, .int .u8 2], blk g18 48 #[.int .i64 1, .int .i64 1, .int .i64 0, .int .i64 0, .slice (some ⟨g15, 0, none⟩) 1 1, .int .i64 2, .int .i64 3, .int .i64 0, .int .i64 1, .slice none 0 0], blk g15 3 #[.int .i64 0]]) (X := (Option Addr × Nat) × ChG) (v := fun z => two (.slice z.1.1 ([] : List Nat).length z.1.2) (errV e 1)) (pf := fun z => z.2.abs = F14g ∧ z.2.watch = .nilFunc) (M' := fun z => [own 5 1 z.1.1 ([] : List Nat).length z.1.2 (nats .u8 []), chipA g z.2]) rfl rfl rfl rfl rfl (fun F' w' hR hM => by have := read_spec F' g x6 (by rw [hx6.1]; exact F14f_ok) 9 0 0 e w' hx6.2 (fun w2 hf => (hR w2 hf).er heD) (fun w2 hf => (hR w2 hf).er heO) (fun w2 hf => (hR w2 hf).er heS) hM; rw [hx6.1, F14_8, F14_8b, hx6.2] at this; exact this) (fun _ _ _ => trivial) (fun x7 hx7 => ?_)
  refine s_mv 60 rfl rfl ?_
  refine s_ext 64 rfl rfl rfl ?_
  refine s_ext 65 rfl rfl rfl ?_
  refine s_as 12 rfl rfl ?_
  refine s_as 13 rfl rfl ?_
  refine SX.next ?_
  refine CW.seq ?_
  refine CW.reg [0, 1, 2, 3, 4, 5, 6, 7, 8, 9, 10, 11, 12, 13, 14, 15, 16, 17, 18, 19, 20, 21, 22, 23, 24, 25, 26, 27, 28, 29, 30, 31, 32, 33, 34, 35, 36, 37, 38, 39, 40, 41, 42, 43, 44, 45, 46, 47] rfl ?_
  refine s_mv 66 rfl rfl ?_
  refine s_eqNN 67 rfl rfl ?_
  refine s_mv 68 rfl rfl ?_
  refine s_mv 69 rfl rfl ?_
  refine s_eqNN 70 rfl rfl ?_
  refine s_pickT 71 rfl rfl rfl ?_
  refine s_mv 72 rfl rfl ?_
  refine s_mv 73 rfl rfl ?_
  refine s_bsl 74 rfl rfl (cells := #[.int .u8 0, .int .u8 2]) (by kernel_rfl) rfl (fun _ _ => trivial) (fun b74 => ?_)
  refine s_call1 75 rfl rfl rfl rfl (v := .bool true) (fun w hw => by have := sameBytes_spec x2.1.1 ([0, 2] : List Nat).length x2.1.2 [0, 2] (some ⟨b74, 0, none⟩) 2 2 [0, 2] w ((hw.has (i := 7) rfl).of_own) (two8 (by decide) (by decide)) (bytes_of (hw.has (i := 0) rfl) (n := 2) rfl rfl rfl) (two8 (by decide) (by decide)); rw [decide_eq_true rfl] at this; exact this) (fun _ _ => trivial) ?_
  refine s_pickT 76 rfl rfl rfl ?_
  refine s_mv 77 rfl rfl ?_
  refine s_mv 78 rfl rfl ?_
  refine s_ld 79 rfl rfl (fun _ hw => hw.cell heD) ?_
  refine s_eqE 80 rfl rfl rfl ?_
  refine s_pickT 81 rfl rfl rfl ?_
  refine s_mv 82 rfl rfl ?_
  refine s_mv 83 rfl rfl ?_
  refine s_pickT 84 rfl rfl rfl ?_
  refine s_mv 85 rfl rfl ?_
  refine s_mv 86 rfl rfl ?_
  refine s_bsl 87 rfl rfl (cells := #[.int .u8 3, .int .u8 255]) (by kernel_rfl) rfl (fun _ _ => trivial) (fun b87 => ?_)
  refine s_call1 88 rfl rfl rfl rfl (v := .bool true) (fun w hw => by have := sameBytes_spec z47.1 ([3, 255] : List Nat).length z47.2 [3, 255] (some ⟨b87, 0, none⟩) 2 2 [3, 255] w ((hw.has (i := 6) rfl).of_own) (two8 (by decide) (by decide)) (bytes_of (hw.has (i := 0) rfl) (n := 2) rfl rfl rfl) (two8 (by decide) (by decide)); rw [decide_eq_true rfl] at this; exact this) (fun _ _ => trivial) ?_
  refine s_pickT 89 rfl rfl rfl ?_
  refine s_mv 90 rfl rfl ?_
  refine s_mv 91 rfl rfl ?_
  refine s_eqNN 92 rfl rfl ?_
  refine s_pickT 93 rfl rfl rfl ?_
  refine s_mv 94 rfl rfl ?_
  refine s_mv 95 rfl rfl ?_
  refine s_bsl 96 rfl rfl (cells := #[.int .u8 1, .int .u8 2]) (by kernel_rfl) rfl (fun _ _ => trivial) (fun b96 => ?_)
  refine s_call1 97 rfl rfl rfl rfl (v := .bool true) (fun w hw => by have := sameBytes_spec x5.1.1 ([1, 2] : List Nat).length x5.1.2 [1, 2] (some ⟨b96, 0, none⟩) 2 2 [1, 2] w ((hw.has (i := 6) rfl).of_own) (two8 (by decide) (by decide)) (bytes_of (hw.has (i := 0) rfl) (n := 2) rfl rfl rfl) (two8 (by decide) (by decide)); rw [decide_eq_true rfl] at this; exact this) (fun _ _ => trivial) ?_
  refine s_pickT 98 rfl rfl rfl ?_
  refine s_mv 99 rfl rfl ?_
  refine s_mv 100 rfl rfl ?_
  refine s_eqNN 101 rfl rfl ?_
  refine s_pickT 102 rfl rfl rfl ?_
  refine s_mv 103 rfl rfl ?_
  refine s_mv 104 rfl rfl ?_
  refine s_call1 105 rfl rfl rfl rfl (v := .int .i64 1) (fun w hw => by have := broken_spec g x7.2 w (hw.has (i := 4) rfl); rw [show x7.2.broken = F14g.broken from congrArg ChS.broken hx7.1, F14_9] at this; exact this) (fun _ _ => trivial) ?_
  refine s_eq 106 rfl rfl rfl (decide_eq_true rfl) ?_
  refine s_pickT 107 rfl rfl rfl ?_
  refine s_mv 108 rfl rfl ?_
  refine s_mv 109 rfl rfl ?_
  refine s_ld 110 rfl rfl (fun _ hw => hw.cell heO) ?_
  refine s_eqE 111 rfl rfl rfl ?_
  refine s_pickT 112 rfl rfl rfl ?_
  refine s_as 0 rfl rfl ?_
  refine SX.next ?_
  refine CW.ret ?_
  exact KN.ret (rs := [.tmp 0]) Tryd.results12 rfl (fun w hw => ⟨rfl, hw.nothing⟩)
end Go.Proofs.YtcapijdokbkgaaaDoor
end
section
/- What a slice of bytes that comes in gives a walk. No condition. -/
namespace Go.Sx
open Go Go.ChangeShapes Go.WideShapes
end Go.Sx
end
section
/- What slices of faults, and of things that a chip or a driver is told, give a walk, with their bulk. No condition. -/
namespace Go.Sx
open Go Go.ChangeShapes Go.WideShapes Go.Deep
open Go.Proofs.YtcapijdokbkgaaaDoor.Rows (uptoBulk uptoBulkAll)
set_option maxRecDepth 100000
section
variable {H : Type} {enc : TypeId × Value → H} {P : Program} {W : World} {base b0 : Nat} {spare : Nat → Bool} {held : Bool}
theorem bulk_pos : ∀ d : DataW H, 1 ≤ uptoBulk d
  | .lit l => by cases l <;> simp [uptoBulk]
  | .nil => by simp [uptoBulk]
  | .ptr _ => by simp only [uptoBulk]; omega
  | .slice _ _ => by simp only [uptoBulk]; omega
  | .agg _ => by simp only [uptoBulk]; omega
  | .iface _ _ => by simp only [uptoBulk]; omega
  | .map _ => by simp only [uptoBulk]; omega
  | .held _ => by simp [uptoBulk]
theorem bulk_len : ∀ l : List (DataW H), l.length ≤ uptoBulkAll l
  | [] => Nat.zero_le _
  | d :: l => by
    have h1 := bulk_pos d
    have h2 := bulk_len l
    simp only [uptoBulkAll, List.length_cons]
    omega
theorem bulk_mem {d : DataW H} : ∀ {l : List (DataW H)}, d ∈ l → uptoBulk d ≤ uptoBulkAll l
  | e :: l, h => by
    simp only [uptoBulkAll]
    rcases List.mem_cons.1 h with rfl | h
    · omega
    · have := bulk_mem h
      omega
theorem bulk_slice (l r : List (DataW H)) : uptoBulk (.slice l r) = uptoBulkAll l + uptoBulkAll r + 1 := by simp only [uptoBulk]
theorem bulk_agg (l : List (DataW H)) : uptoBulk (.agg l) = uptoBulkAll l + 1 := by simp only [uptoBulk]
/-- The rows of a slice's elements, each with its own reading. -/
theorem open_rowS {t e : TypeId} {s fuel : Nat} {v : Value} {x : DataW H × List MemPlace} (ht : P.underlying t = some (.slice e)) (hc : P.cellsOf e = s) (hs : 0 < s) (hf : DataW.trod enc P W base spare held fuel t [v] = some x) :
    ∃ (A : Option Addr) (n c : Nat) (rows : List (List Value)), v = .slice A n c ∧ n ≤ c ∧ (c : Int) ≤ 9223372036854775807 ∧ rows.length = n ∧ (∀ r ∈ rows, r.length = s ∧ ∃ m y, DataW.trod enc P W base spare held m e r = some y ∧ uptoBulk y.1 ≤ uptoBulk x.1) ∧ n ≤ uptoBulk x.1 ∧ Has (sl s A n rows.flatten) W := by
  rcases DataW.trod_slice ht hf with ⟨hcs, _⟩ | ⟨a, n, c, elems, rest, m, _, hcs, hx, hb, hl, hm, hlen, hel, _, _⟩
  · simp only [List.cons.injEq, and_true] at hcs
    subst hcs
    exact ⟨none, 0, 0, [], rfl, Nat.le_refl _, by omega, rfl, (fun r hr => absurd hr (List.not_mem_nil)), Nat.zero_le _, Has.sl_nil W s none⟩
  · simp only [List.cons.injEq, and_true] at hcs
    subst hcs
    subst hc
    have key : ∀ i, i < n → ∃ r, W.cells? base (a.add (i * P.cellsOf e)) (P.cellsOf e) = some r ∧ ∃ y, DataW.trod enc P W base spare held m e r = some y ∧ uptoBulk y.1 ≤ uptoBulk x.1 := fun i hi => by
      have h1 := hel i hi
      rw [List.getElem?_eq_getElem (by omega), Option.bind_eq_some_iff] at h1
      obtain ⟨r, h2, h3⟩ := h1
      refine ⟨r, h2, _, h3, ?_⟩
      rw [hx, bulk_slice]
      have := bulk_mem (List.mem_map_of_mem (f := (·.1)) (List.getElem_mem (h := (by omega : i < elems.length))))
      omega
    have hrows : ∀ k, k ≤ n → ∃ rows : List (List Value), rows.length = k ∧ (∀ r ∈ rows, r.length = P.cellsOf e ∧ ∃ m y, DataW.trod enc P W base spare held m e r = some y ∧ uptoBulk y.1 ≤ uptoBulk x.1) ∧ ∀ i, i < k → W.cells? base (a.add (i * P.cellsOf e)) (P.cellsOf e) = rows[i]? := by
      intro k
      induction k with
      | zero => exact fun _ => ⟨[], rfl, (fun r hr => absurd hr (List.not_mem_nil)), fun i hi => by omega⟩
      | succ k ih =>
        intro hk
        obtain ⟨rows, k1, k2, k3⟩ := ih (by omega)
        obtain ⟨r, h1, h2⟩ := key k (by omega)
        refine ⟨rows ++ [r], by simp [k1], fun r2 hr2 => ?_, fun i hi => ?_⟩
        · rcases List.mem_append.1 hr2 with h | h
          · exact k2 r2 h
          · obtain rfl : r2 = r := by simpa using h
            exact ⟨(World.cells?_some h1).2.1, m, h2⟩
        · by_cases hik : i < k
          · rw [k3 i hik, List.getElem?_append_left (by omega)]
          · obtain rfl : i = k := by omega
            rw [h1, List.getElem?_append_right (by omega), k1, Nat.sub_self]
            rfl
    obtain ⟨rows, k1, k2, k3⟩ := hrows n (Nat.le_refl _)
    refine ⟨some a, n, c, rows, rfl, hl, by unfold maxLen at hm; omega, k1, k2, ?_, ?_⟩
    · rw [hx, bulk_slice]
      have := bulk_len (elems.map (·.1))
      rw [List.length_map] at this
      omega
    by_cases hn : n = 0
    · subst hn
      obtain rfl := List.eq_nil_of_length_eq_zero k1
      exact Has.sl_nil W _ (some a)
    · have hcell : ∀ i, i < n → ∀ j, j < P.cellsOf e → W.cell? (a.add (i * P.cellsOf e + j)) = rows.flatten[i * P.cellsOf e + j]? := by
        intro i hi j hj
        have h1 : ∃ r, rows[i]? = some r := ⟨_, List.getElem?_eq_getElem (by omega)⟩
        obtain ⟨r, hr⟩ := h1
        have h2 := (World.cells?_some ((k3 i hi).trans hr)).2.2 j hj
        have e1 : (a.add (i * P.cellsOf e)).add j = a.add (i * P.cellsOf e + j) := by
          unfold Addr.add
          by_cases z1 : i * P.cellsOf e = 0
          · rw [if_pos z1, z1, Nat.zero_add]
          · by_cases z2 : j = 0
            · subst z2; simp
            · rw [if_neg z1, if_neg z2, if_neg (by omega)]
              simp [Nat.add_assoc]
        rw [e1] at h2
        rw [h2]
        clear h2 e1 hel key hrows k3
        have hl2 : ∀ (rows : List (List Value)) (i : Nat), (∀ r ∈ rows, r.length = P.cellsOf e) → rows[i]? = some r → rows.flatten[i * P.cellsOf e + j]? = r[j]? := by
          intro rows
          induction rows with
          | nil => intro i _ h; simp at h
          | cons r0 rows ih =>
            intro i hrl h
            have hr0 := hrl r0 (by simp)
            cases i with
            | zero =>
              obtain rfl : r0 = r := by simpa using h
              rw [List.flatten_cons, List.getElem?_append_left (by omega)]
              congr 1
              omega
            | succ i =>
              rw [List.flatten_cons, List.getElem?_append_right (by rw [hr0, Nat.succ_mul]; omega), hr0, ← ih i (fun r hr => hrl r (by simp [hr])) (by simpa using h)]
              congr 1
              rw [Nat.succ_mul]
              omega
        exact (hl2 rows i (fun r hr => (k2 r hr).1) hr).symm
      have hfl : rows.flatten.length = n * P.cellsOf e := by
        have : ∀ rows : List (List Value), (∀ r ∈ rows, r.length = P.cellsOf e) → rows.flatten.length = rows.length * P.cellsOf e := by
          intro rows
          induction rows with
          | nil => intro _; simp
          | cons r0 rows ih =>
            intro hrl
            rw [List.flatten_cons, List.length_append, ih (fun r hr => hrl r (by simp [hr])), hrl r0 (by simp), List.length_cons, Nat.succ_mul]
            omega
        rw [this rows (fun r hr => (k2 r hr).1), k1]
      have hall : ∀ q, q < n * P.cellsOf e → W.cell? (a.add q) = rows.flatten[q]? := fun q hq => by
        have hq1 : q / P.cellsOf e < n := (Nat.div_lt_iff_lt_mul hs).2 hq
        have := hcell _ hq1 (q % P.cellsOf e) (Nat.mod_lt _ hs)
        rwa [Nat.div_add_mod'] at this
      have hpos : 0 < n * P.cellsOf e := Nat.mul_pos (by omega) hs
      have h0 := hall 0 hpos
      rw [List.getElem?_eq_getElem (by omega)] at h0
      have ha : a = ⟨a.block, a.off, none⟩ := by
        cases a with
        | mk b o sp =>
          cases sp with
          | none => rfl
          | some x => simp [Addr.add, World.cell?] at h0; split at h0 <;> simp_all
      refine ⟨fun b => b = a.block, ⟨hfl, fun _ => ⟨by simp only [ob, oo]; rw [← ha], rfl, fun j v hj => ?_⟩⟩, fun b hb => ?_⟩
      · have hjn := (List.getElem?_eq_some_iff.1 hj).1
        have h1 := hall j (by omega)
        rw [ha, add_at, hj] at h1
        exact h1
      · subst hb
        have := World.block_lt_of_cell? W _ h0
        rwa [block_add] at this
theorem open_rowB {t e : TypeId} (ht : P.underlying t = some (.slice e)) (he : P.underlying e = some (.int .u8)) (hc : P.cellsOf e = 1) {fuel : Nat} {v : Value} {x : DataW H × List MemPlace} (hf : DataW.trod enc P W base spare held fuel t [v] = some x) :
    ∃ A n c p, v = .slice A n c ∧ n ≤ c ∧ (c : Int) ≤ 9223372036854775807 ∧ p.length = n ∧ Has (sl 1 A n (nats .u8 p)) W ∧ ∀ x ∈ p, x < 256 := by
  rcases open_ints ht he hc hf with ⟨hcs2, _⟩ | ⟨a, n, c, zs, hcs2, _, hl, hm, hz, _, hcell, hw⟩
  · simp only [List.cons.injEq, and_true] at hcs2
    subst hcs2
    exact ⟨none, 0, 0, [], rfl, Nat.le_refl _, by omega, rfl, Has.sl_nil W 1 none, fun z hz => by simp at hz⟩
  · simp only [List.cons.injEq, and_true] at hcs2
    subst hcs2
    have hlz : n ≤ zs.length := by rw [hz]; split <;> omega
    have hlen : (zs.take n).length = n := by rw [List.length_take]; exact Nat.min_eq_left hlz
    have hb : ∀ z ∈ zs.take n, 0 ≤ z ∧ z < 256 := fun z hz => by
      have := hw z (List.mem_of_mem_take hz)
      simp only [Lit.wf, Bool.and_eq_true, decide_eq_true_eq] at this
      have e1 : IntKind.u8.min = 0 := by decide
      have e2 : IntKind.u8.max = 255 := by decide
      omega
    refine ⟨some a, n, c, (zs.take n).map Int.toNat, rfl, hl, by unfold maxLen at hm; omega, by rw [List.length_map]; exact hlen, ?_, fun x hx => ?_⟩
    · have e2 : nats .u8 ((zs.take n).map Int.toNat) = ints .u8 (zs.take n) := by
        unfold nats ints
        rw [List.map_map]
        exact List.map_congr_left (fun z hz => by
          show Value.int .u8 ((z.toNat : Nat) : Int) = Value.int .u8 z
          rw [Int.toNat_of_nonneg (hb z hz).1])
      rw [e2]
      by_cases hn : n = 0
      · subst hn
        exact Has.sl_nil W 1 (some a)
      · have h0 := hcell 0 (by omega)
        have ha : a = ⟨a.block, a.off, none⟩ := by
          cases a with
          | mk b o sp =>
            cases sp with
            | none => rfl
            | some x => simp [Addr.add, World.cell?] at h0; split at h0 <;> simp_all
        refine ⟨fun b => b = a.block, ⟨by simp only [ints, List.length_map, hlen, Nat.mul_one], fun _ => ⟨by simp only [ob, oo]; rw [← ha], rfl, fun j v hj => ?_⟩⟩, fun b hb => ?_⟩
        · have hjn : j < n := by
            have := (List.getElem?_eq_some_iff.1 hj).1
            simp only [ints, List.length_map, hlen] at this
            exact this
          rw [intsAt (by omega)] at hj
          have hc2 := hcell j (by omega)
          rw [ha, add_at] at hc2
          simp only [ob, oo]
          rw [hc2, ← hj]
          simp [hjn]
        · subst hb
          have hc2 := hcell 0 (by omega)
          have := World.block_lt_of_cell? W _ hc2
          rwa [block_add] at this
    · obtain ⟨z, hz, rfl⟩ := List.mem_map.1 hx
      have := hb z hz
      omega

theorem open_rowI {t e : TypeId} (ht : P.underlying t = some (.slice e)) (he : P.underlying e = some (.int .i64)) (hc : P.cellsOf e = 1) {fuel : Nat} {v : Value} {x : DataW H × List MemPlace} (hf : DataW.trod enc P W base spare held fuel t [v] = some x) :
    ∃ A n c p, v = .slice A n c ∧ n ≤ c ∧ (c : Int) ≤ 9223372036854775807 ∧ p.length = n ∧ Has (sl 1 A n (ints .i64 p)) W ∧ n ≤ uptoBulk x.1 := by
  rcases open_ints ht he hc hf with ⟨hcs2, _⟩ | ⟨a, n, c, zs, hcs2, _, hl, hm, hz, hx, hcell, hw⟩
  · simp only [List.cons.injEq, and_true] at hcs2
    subst hcs2
    exact ⟨none, 0, 0, [], rfl, Nat.le_refl _, by omega, rfl, Has.sl_nil W 1 none, Nat.zero_le _⟩
  · simp only [List.cons.injEq, and_true] at hcs2
    subst hcs2
    have hlz : n ≤ zs.length := by rw [hz]; split <;> omega
    have hlen : (zs.take n).length = n := by rw [List.length_take]; exact Nat.min_eq_left hlz
    refine ⟨some a, n, c, zs.take n, rfl, hl, by unfold maxLen at hm; omega, hlen, ?_, ?_⟩
    · by_cases hn : n = 0
      · subst hn
        exact Has.sl_nil W 1 (some a)
      · have h0 := hcell 0 (by omega)
        have ha : a = ⟨a.block, a.off, none⟩ := by
          cases a with
          | mk b o sp =>
            cases sp with
            | none => rfl
            | some x => simp [Addr.add, World.cell?] at h0; split at h0 <;> simp_all
        refine ⟨fun b => b = a.block, ⟨by simp only [ints, List.length_map, hlen, Nat.mul_one], fun _ => ⟨by simp only [ob, oo]; rw [← ha], rfl, fun j v hj => ?_⟩⟩, fun b hb => ?_⟩
        · have hjn : j < n := by
            have := (List.getElem?_eq_some_iff.1 hj).1
            simp only [ints, List.length_map, hlen] at this
            exact this
          rw [intsAt (by omega)] at hj
          have hc2 := hcell j (by omega)
          rw [ha, add_at] at hc2
          simp only [ob, oo]
          rw [hc2, ← hj]
          simp [hjn]
        · subst hb
          have hc2 := hcell 0 (by omega)
          have := World.block_lt_of_cell? W _ hc2
          rwa [block_add] at this
    · rw [hx, bulk_slice]
      have := bulk_len (H := H) (lits .i64 (zs.take n))
      have h2 : (lits (H := H) .i64 (zs.take n)).length = n := by unfold lits; rw [List.length_map]; exact hlen
      omega
theorem rows_any {α : Type} {row : α → List Value} {Q : List Value → Prop} {R : α → Prop} (hQ : ∀ r, Q r → ∃ a, r = row a ∧ R a) : ∀ rows : List (List Value), (∀ r ∈ rows, Q r) → ∃ l : List α, l.length = rows.length ∧ rows.flatten = l.flatMap row ∧ ∀ a ∈ l, R a
  | [], _ => ⟨[], rfl, rfl, fun e he => by cases he⟩
  | r :: rows, h => by
    obtain ⟨l, h1, h2, h3⟩ := rows_any hQ rows (fun r hr => h r (by simp [hr]))
    obtain ⟨a, rfl, h4⟩ := hQ r (h r (by simp))
    refine ⟨a :: l, by simp [h1], by rw [List.flatten_cons, h2]; rfl, fun e he => ?_⟩
    rcases List.mem_cons.1 he with rfl | he
    · exact h4
    · exact h3 e he
end
end Go.Sx
namespace Go.Proofs.YtcapijdokbkgaaaDoor
open Go Go.Sx Go.ChangeShapes Go.WideShapes Go.Deep
open Go.Proofs.YtcapijdokbkgaaaDoor.Rows (uptoBulk uptoBulkAll)
/-! ### What is told -/
/-- Faults that come in. -/
structure PlRead (A : Option Addr) (l : List FtG) (w : World) : Prop where
  rows : Has (sl 5 A l.length (l.flatMap FtG.row)) w
  bits : ∀ f ∈ l, Has (sl 1 f.A f.bits.length (ints .i64 f.bits)) w
  lens : ∀ f ∈ l, f.bits.length ≤ 1048576
theorem PlRead.turn {A : Option Addr} {l : List FtG} {w w' : World} (h : PlRead A l w) (hw : Fr (Old w) w w') : PlRead A l w' := ⟨h.rows.turn hw, fun f hf => (h.bits f hf).turn hw, h.lens⟩
def i64B (n : Int) : Prop := -9223372036854775808 ≤ n ∧ n ≤ 9223372036854775807
structure ToldG where
  kind : Int
  b : Int
  p : Int
  level : Int
  A : Option Addr
  c : Nat
  l : List Nat
  pA : Option Addr
  pc : Nat
  plan : List FtG
def ToldG.row (d : ToldG) : List Value := [.int .i64 d.kind, .int .i64 d.b, .int .i64 d.p, .int .i64 d.level, .slice d.A d.l.length d.c, .slice d.pA d.plan.length d.pc]
theorem toRow_len (d : ToldG) : d.row.length = 6 := rfl
structure ToldIn (d : ToldG) (w : World) : Prop where
  bytes : Has (sl 1 d.A d.l.length (nats .u8 d.l)) w
  lt : ∀ x ∈ d.l, x < 256
  plan : PlRead d.pA d.plan w
  hb : i64B d.b
  hp : i64B d.p
/-- Things that a chip is told, where they lie. -/
structure TellIn (A : Option Addr) (l : List ToldG) (w : World) : Prop where
  rows : Has (sl 6 A l.length (l.flatMap ToldG.row)) w
  each : ∀ d ∈ l, ToldIn d w

structure FtT (P : Program) (t ti ts : TypeId) : Prop where
  ht : ∃ f0 f1 f2 f3 f4 : Field, P.underlying t = some (.struct #[f0, f1, f2, f3, f4]) ∧ (f0.type = ti ∧ f1.type = ti ∧ f2.type = ti ∧ f3.type = ti ∧ f4.type = ts) ∧ f0.offset = 0 ∧ f1.offset = 1 ∧ f2.offset = 2 ∧ f3.offset = 3 ∧ f4.offset = 4
  hi : P.underlying ti = some (.int .i64)
  hs : P.underlying ts = some (.slice ti)
  ci : P.cellsOf ti = 1
  cs : P.cellsOf ts = 1
  ct : P.cellsOf t = 5
structure PcT (P : Program) (t ti : TypeId) : Prop where
  ht : ∃ f0 f1 : Field, P.underlying t = some (.struct #[f0, f1]) ∧ (f0.type = ti ∧ f1.type = ti) ∧ f0.offset = 0 ∧ f1.offset = 1
  hi : P.underlying ti = some (.int .i64)
  ci : P.cellsOf ti = 1
  ct : P.cellsOf t = 2
structure DoT (P : Program) (t ti tp tb t8 tf : TypeId) : Prop where
  ht : ∃ f0 f1 f2 f3 f4 : Field, P.underlying t = some (.struct #[f0, f1, f2, f3, f4]) ∧ (f0.type = ti ∧ f1.type = tp ∧ f2.type = ti ∧ f3.type = tb ∧ f4.type = tf) ∧ f0.offset = 0 ∧ f1.offset = 1 ∧ f2.offset = 3 ∧ f3.offset = 4 ∧ f4.offset = 5
  hi : P.underlying ti = some (.int .i64)
  hb : P.underlying tb = some (.slice t8)
  h8 : P.underlying t8 = some (.int .u8)
  ci : P.cellsOf ti = 1
  cp : P.cellsOf tp = 2
  cb : P.cellsOf tb = 1
  c8 : P.cellsOf t8 = 1
  cf : P.cellsOf tf = 1
  ct : P.cellsOf t = 6
section
variable {H : Type} {enc : TypeId × Value → H} {P : Program} {W : World} {base b0 : Nat} {spare : Nat → Bool} {held : Bool}
theorem list2 {α : Type} {l : List α} (h : l.length = 2) : ∃ a0 a1, l = [a0, a1] := by
  match l, h with
  | [a0, a1], _ => exact ⟨_, _, rfl⟩
theorem list5 {α : Type} {l : List α} (h : l.length = 5) : ∃ a0 a1 a2 a3 a4, l = [a0, a1, a2, a3, a4] := by
  match l, h with
  | [a0, a1, a2, a3, a4], _ => exact ⟨_, _, _, _, _, rfl⟩
theorem list6 {α : Type} {l : List α} (h : l.length = 6) : ∃ a0 a1 a2 a3 a4 a5, l = [a0, a1, a2, a3, a4, a5] := by
  match l, h with
  | [a0, a1, a2, a3, a4, a5], _ => exact ⟨_, _, _, _, _, _, rfl⟩
theorem cells_slice (A : Option Addr) (n c : Nat) : (Value.slice A n c).cells.toList = [.slice A n c] := rfl
theorem i64_w {z : Int} (hw : (Lit.int .i64 z).wf = true) : i64B z := by
  simp only [Lit.wf, Bool.and_eq_true, decide_eq_true_eq] at hw
  have e1 : IntKind.i64.min = -9223372036854775808 := by decide
  have e2 : IntKind.i64.max = 9223372036854775807 := by decide
  unfold i64B
  omega
theorem open_rowF {t ti ts : TypeId} (hT : FtT P t ti ts) {fuel : Nat} {r : List Value} {x : DataW H × List MemPlace} (hf : DataW.trod enc P W base spare held fuel t r = some x) : ∃ f : FtG, r = f.row ∧ Has (sl 1 f.A f.bits.length (ints .i64 f.bits)) W ∧ f.bits.length ≤ uptoBulk x.1 := by
  obtain ⟨f0, f1, f2, f3, f4, ht, ⟨t0, t1, t2, t3, t4⟩, o0, o1, o2, o3, o4⟩ := hT.ht
  obtain ⟨xs, n, _, rfl, hl, hlen, h⟩ := DataW.trod_struct ht hf
  rw [hT.ct] at hl
  obtain ⟨y0, y1, y2, y3, y4, rfl⟩ := list5 (show xs.length = 5 from hlen)
  obtain ⟨v0, v1, v2, v3, v4, rfl⟩ := list5 hl
  have k0 := h 0 f0 rfl
  have k1 := h 1 f1 rfl
  have k2 := h 2 f2 rfl
  have k3 := h 3 f3 rfl
  have k4 := h 4 f4 rfl
  rw [t0, o0, hT.ci] at k0
  rw [t1, o1, hT.ci] at k1
  rw [t2, o2, hT.ci] at k2
  rw [t3, o3, hT.ci] at k3
  rw [t4, o4, hT.cs] at k4
  obtain ⟨z0, g0, _, _⟩ := DataW.trod_int hT.hi (show DataW.trod enc P W base spare held n ti [v0] = some y0 from k0)
  obtain ⟨z1, g1, _, _⟩ := DataW.trod_int hT.hi (show DataW.trod enc P W base spare held n ti [v1] = some y1 from k1)
  obtain ⟨z2, g2, _, _⟩ := DataW.trod_int hT.hi (show DataW.trod enc P W base spare held n ti [v2] = some y2 from k2)
  obtain ⟨z3, g3, _, _⟩ := DataW.trod_int hT.hi (show DataW.trod enc P W base spare held n ti [v3] = some y3 from k3)
  obtain ⟨A, q, c, p, rfl, e1, e2, e3, e4, e5⟩ := open_rowI hT.hs hT.hi hT.ci (show DataW.trod enc P W base spare held n ts [v4] = some y4 from k4)
  simp only [List.cons.injEq, and_true] at g0 g1 g2 g3
  subst g0 g1 g2 g3 e3
  refine ⟨⟨z0, z1, z2, z3, A, c, p⟩, rfl, e4, ?_⟩
  rw [bulk_agg]
  have := bulk_mem (d := y4.1) (l := [y0, y1, y2, y3, y4].map (·.1)) (by simp)
  exact Nat.le_succ_of_le (Nat.le_trans e5 this)
/-- Faults inside of a value. -/
theorem open_rowPl {t te ti ts : TypeId} (ht : P.underlying t = some (.slice te)) (hT : FtT P te ti ts) {fuel : Nat} {v : Value} {x : DataW H × List MemPlace} (hf : DataW.trod enc P W base spare held fuel t [v] = some x) (hx : uptoBulk x.1 ≤ 1048576) : ∃ A c l, v = .slice A l.length c ∧ l.length ≤ c ∧ PlRead A l W := by
  obtain ⟨A, n, c, rows, rfl, k1, k2, k3, k4, _, k5⟩ := open_rowS ht hT.ct (by decide) hf
  obtain ⟨l, j1, j2, j3⟩ := rows_any (row := FtG.row) (Q := fun r => r.length = 5 ∧ ∃ m y, DataW.trod enc P W base spare held m te r = some y ∧ uptoBulk y.1 ≤ uptoBulk x.1) (R := fun f => Has (sl 1 f.A f.bits.length (ints .i64 f.bits)) W ∧ f.bits.length ≤ 1048576) (fun r ⟨_, m, y, hr, hy⟩ => by
    obtain ⟨f, q1, q2, q3⟩ := open_rowF hT hr
    exact ⟨f, q1, q2, by omega⟩) rows k4
  obtain rfl : l.length = n := j1.trans k3
  exact ⟨A, c, l, rfl, k1, j2 ▸ k5, fun f hf => (j3 f hf).1, fun f hf => (j3 f hf).2⟩
theorem open_rowP {t ti : TypeId} (hT : PcT P t ti) {fuel : Nat} {r : List Value} {x : DataW H × List MemPlace} (hf : DataW.trod enc P W base spare held fuel t r = some x) : ∃ b p, r = [.int .i64 b, .int .i64 p] ∧ i64B b ∧ i64B p := by
  obtain ⟨f0, f1, ht, ⟨t0, t1⟩, o0, o1⟩ := hT.ht
  obtain ⟨xs, n, _, rfl, hl, hlen, h⟩ := DataW.trod_struct ht hf
  rw [hT.ct] at hl
  obtain ⟨y0, y1, rfl⟩ := list2 (show xs.length = 2 from hlen)
  obtain ⟨v0, v1, rfl⟩ := list2 hl
  have k0 := h 0 f0 rfl
  have k1 := h 1 f1 rfl
  rw [t0, o0, hT.ci] at k0
  rw [t1, o1, hT.ci] at k1
  obtain ⟨z0, g0, _, w0⟩ := DataW.trod_int hT.hi (show DataW.trod enc P W base spare held n ti [v0] = some y0 from k0)
  obtain ⟨z1, g1, _, w1⟩ := DataW.trod_int hT.hi (show DataW.trod enc P W base spare held n ti [v1] = some y1 from k1)
  simp only [List.cons.injEq, and_true] at g0 g1
  subst g0 g1
  exact ⟨z0, z1, rfl, i64_w w0, i64_w w1⟩
theorem open_rowT {t ti tp tb t8 tf te ts : TypeId} (hT : DoT P t ti tp tb t8 tf) (hP : PcT P tp ti) (hS : P.underlying tf = some (.slice te)) (hF : FtT P te ti ts) {fuel : Nat} {r : List Value} {x : DataW H × List MemPlace} (hf : DataW.trod enc P W base spare held fuel t r = some x) (hx : uptoBulk x.1 ≤ 1048576) : ∃ d : ToldG, r = d.row ∧ ToldIn d W := by
  obtain ⟨f0, f1, f2, f3, f4, ht, ⟨t0, t1, t2, t3, t4⟩, o0, o1, o2, o3, o4⟩ := hT.ht
  obtain ⟨xs, n, _, rfl, hl, hlen, h⟩ := DataW.trod_struct ht hf
  rw [hT.ct] at hl
  obtain ⟨y0, y1, y2, y3, y4, rfl⟩ := list5 (show xs.length = 5 from hlen)
  obtain ⟨v0, v1, v2, v3, v4, v5, rfl⟩ := list6 hl
  have k0 := h 0 f0 rfl
  have k1 := h 1 f1 rfl
  have k2 := h 2 f2 rfl
  have k3 := h 3 f3 rfl
  have k4 := h 4 f4 rfl
  rw [t0, o0, hT.ci] at k0
  rw [t1, o1, hT.cp] at k1
  rw [t2, o2, hT.ci] at k2
  rw [t3, o3, hT.cb] at k3
  rw [t4, o4, hT.cf] at k4
  obtain ⟨z0, g0, _, _⟩ := DataW.trod_int hT.hi (show DataW.trod enc P W base spare held n ti [v0] = some y0 from k0)
  obtain ⟨b, p, g1, hb, hp⟩ := open_rowP hP (show DataW.trod enc P W base spare held n tp [v1, v2] = some y1 from k1)
  obtain ⟨z3, g3, _, _⟩ := DataW.trod_int hT.hi (show DataW.trod enc P W base spare held n ti [v3] = some y2 from k2)
  obtain ⟨A, q, c, l, rfl, e1, e2, e3, e4, e5⟩ := open_rowB hT.hb hT.h8 hT.c8 (show DataW.trod enc P W base spare held n tb [v4] = some y3 from k3)
  rw [bulk_agg] at hx
  have hm := bulk_mem (d := y4.1) (l := [y0, y1, y2, y3, y4].map (·.1)) (by simp)
  obtain ⟨pA, pc, pl, rfl, _, hpl⟩ := open_rowPl hS hF (show DataW.trod enc P W base spare held n tf [v5] = some y4 from k4) (by omega)
  simp only [List.cons.injEq, and_true] at g0 g1 g3
  obtain ⟨rfl, rfl⟩ := g1
  subst g0 g3 e3
  exact ⟨⟨z0, b, p, z3, A, c, l, pA, pc, pl⟩, rfl, e4, e5, hpl, hb, hp⟩
/-- Things that come in. -/
theorem open_tell {tt t ti tp tb t8 tf te ts : TypeId} (htt : P.underlying tt = some (.slice t)) (hT : DoT P t ti tp tb t8 tf) (hP : PcT P tp ti) (hS : P.underlying tf = some (.slice te)) (hF : FtT P te ti ts) {v : Value} {d : DataW H} {ps : List MemPlace} (hval : Value.okWide P W .any b0 tt v) (hd : DataW.Trod enc P W base spare held tt v d ps) (hx : uptoBulk d ≤ 1048576) : ∃ A c l, v = .slice A l.length c ∧ l.length ≤ c ∧ TellIn A l W := by
  obtain ⟨A, n, c, rfl⟩ := okWide_slice htt hval
  obtain ⟨fuel, hf⟩ := hd
  rw [cells_slice] at hf
  obtain ⟨A, n, c, rows, e, k1, k2, k3, k4, _, k5⟩ := open_rowS htt hT.ct (by decide) hf
  obtain ⟨rfl, rfl, rfl⟩ := Value.slice.inj e
  obtain ⟨l, j1, j2, j3⟩ := rows_any (row := ToldG.row) (Q := fun r => r.length = 6 ∧ ∃ m y, DataW.trod enc P W base spare held m t r = some y ∧ uptoBulk y.1 ≤ uptoBulk d) (R := fun d => ToldIn d W) (fun r ⟨_, m, y, hr, hy⟩ => open_rowT hT hP hS hF hr (Nat.le_trans hy hx)) rows k4
  obtain rfl : l.length = n := j1.trans k3
  exact ⟨A, c, l, rfl, k1, j2 ▸ k5, j3⟩
/-- Faults that come in. -/
theorem open_plan {t te ti ts : TypeId} (ht : P.underlying t = some (.slice te)) (hT : FtT P te ti ts) {v : Value} {d : DataW H} {ps : List MemPlace} (hval : Value.okWide P W .any b0 t v) (hd : DataW.Trod enc P W base spare held t v d ps) (hx : uptoBulk d ≤ 1048576) : ∃ A c l, v = .slice A l.length c ∧ l.length ≤ c ∧ PlRead A l W := by
  obtain ⟨A, n, c, rfl⟩ := okWide_slice ht hval
  obtain ⟨fuel, hf⟩ := hd
  rw [cells_slice] at hf
  exact open_rowPl ht hT hf hx
end
theorem ftT : FtT Tryd.prog 48 3 37 := ⟨⟨_, _, _, _, _, Tryd.underlying48, ⟨rfl, rfl, rfl, rfl, rfl⟩, rfl, rfl, rfl, rfl, rfl⟩, Tryd.underlying3, Tryd.underlying37, by kernel_rfl, by kernel_rfl, by kernel_rfl⟩
theorem pcT : PcT Tryd.prog 31 3 := ⟨⟨_, _, Tryd.underlying31, ⟨rfl, rfl⟩, rfl, rfl⟩, Tryd.underlying3, by kernel_rfl, by kernel_rfl⟩
theorem doT : DoT Tryd.prog 40 3 31 22 5 38 := ⟨⟨_, _, _, _, _, Tryd.underlying40, ⟨rfl, rfl, rfl, rfl, rfl⟩, rfl, rfl, rfl, rfl, rfl⟩, Tryd.underlying3, Tryd.underlying22, Tryd.underlying5, by kernel_rfl, by kernel_rfl, by kernel_rfl, by kernel_rfl, by kernel_rfl, by kernel_rfl⟩
end Go.Proofs.YtcapijdokbkgaaaDoor
end
section
/- Whether faults, and things that a chip is told, are few. Conditions: they are read where they lie. -/
namespace Go.Proofs.YtcapijdokbkgaaaDoor
open Go Go.Sx Go.Fm
set_option maxRecDepth 100000
def sumB (l : List FtG) : Nat := (l.map (fun f => f.bits.length)).sum
def lightB (l : List FtG) : Bool := decide (l.length ≤ 60) && decide (sumB l ≤ 600)
def tellB (d : ToldG) : Bool := decide (d.l.length ≤ 300) && lightB d.plan
def allB (l : List ToldG) : Bool := decide (l.length ≤ 60) && l.all tellB
theorem sumB_le {l : List FtG} {B : Nat} (h : ∀ f ∈ l, f.bits.length ≤ B) : sumB l ≤ l.length * B := by
  induction l with
  | nil => exact Nat.zero_le _
  | cons f l ih =>
    have h1 := h f (by simp)
    have h2 := ih (fun f hf => h f (by simp [hf]))
    unfold sumB at h2 ⊢
    rw [List.map_cons, List.sum_cons, List.length_cons, Nat.succ_mul]
    omega
theorem sumB_mem {l : List FtG} {f : FtG} (h : f ∈ l) : f.bits.length ≤ sumB l := by
  induction l with
  | nil => cases h
  | cons g l ih =>
    unfold sumB at ih ⊢
    rw [List.map_cons, List.sum_cons]
    rcases List.mem_cons.1 h with rfl | h
    · omega
    · have := ih h
      omega
theorem sumB_take {l : List FtG} {i : Nat} (h : i < l.length) : sumB (l.take (i + 1)) = sumB (l.take i) + (gF l i).bits.length := by
  unfold sumB
  rw [List.take_add_one, gF_at h, Option.toList_some, List.map_append, List.sum_append]
  rfl
theorem light_pl {A : Option Addr} {l : List FtG} {w : World} (h : PlRead A l w) (hl : lightB l = true) : PlIn A l w ∧ l.length ≤ 60 := by
  unfold lightB at hl
  rw [Bool.and_eq_true, decide_eq_true_iff, decide_eq_true_iff] at hl
  exact ⟨⟨h.rows, h.bits, fun f hf => by have := sumB_mem hf; omega⟩, hl.1⟩
def gT (l : List ToldG) (i : Nat) : ToldG := l.getD i ⟨0, 0, 0, 0, none, 0, [], none, 0, []⟩
theorem gT_at {l : List ToldG} {i : Nat} (h : i < l.length) : l[i]? = some (gT l i) := by
  unfold gT
  rw [List.getD_eq_getElem?_getD, List.getElem?_eq_getElem h, Option.getD_some]
theorem gT_mem {l : List ToldG} {i : Nat} (h : i < l.length) : gT l i ∈ l := List.mem_of_getElem? (gT_at h)
theorem all_take {l : List ToldG} {i : Nat} (h : i < l.length) : (l.take (i + 1)).all tellB = ((l.take i).all tellB && tellB (gT l i)) := by
  rw [List.take_add_one, gT_at h, Option.toList_some, List.all_append]
  simp only [List.all_cons, List.all_nil, Bool.and_true]
theorem all_no {l : List ToldG} {i : Nat} (h : i < l.length) (hf : tellB (gT l i) = false) : allB l = false := by
  unfold allB
  rw [show l.all tellB = false from List.all_eq_false.2 ⟨_, gT_mem h, by rw [hf]; decide⟩, Bool.and_false]
theorem all_in {l : List ToldG} (h : allB l = true) : l.length ≤ 60 ∧ ∀ d ∈ l, tellB d = true := by
  unfold allB at h
  rw [Bool.and_eq_true, decide_eq_true_iff] at h
  exact ⟨h.1, List.all_eq_true.1 h.2⟩
theorem tell_in {d : ToldG} {w : World} (hd : ToldIn d w) (h : tellB d = true) : d.l.length ≤ 300 ∧ PlIn d.pA d.plan w ∧ d.plan.length ≤ 60 := by
  unfold tellB at h
  rw [Bool.and_eq_true, decide_eq_true_iff] at h
  exact ⟨h.1, light_pl hd.plan h.2⟩

theorem light_spec (A : Option Addr) (c : Nat) (l : List FtG) (w : World) (hp : PlRead A l w) : Spec1 Tryd.prog 25 [.slice A l.length c] w (.bool (lightB l)) := by
  refine spec_of Tryd.func25 rfl Tryd.ntmps25 rfl ?_
  refine CW.seq ?_
  refine CW.reg [0] rfl ?_
  refine s_as 2 rfl rfl ?_
  refine SX.next ?_
  refine CW.seq ?_
  refine CW.reg [0] rfl ?_
  refine s_as 3 rfl rfl ?_
  refine SX.next ?_
  refine CW.seq ?_
  refine CW.seq ?_
  refine CW.reg [0] rfl ?_
  refine s_as 4 rfl rfl ?_
  refine SX.next ?_
  refine CW.block ?_
  refine CW.loop (G := Nat) (fun i => [(0, .slice A l.length c), (3, .int .i64 (sumB (l.take i) : Nat)), (4, .int .i64 (i : Nat))]) (fun _ => Sto w []) (fun i => i ≤ l.length ∧ i ≤ 61) (fun i => l.length - i) 0 ⟨rfl, rfl, rfl, trivial⟩ (fun _ h => h) ⟨Nat.zero_le _, Nat.zero_le _⟩ ?_
  rintro i ⟨hi, hi2⟩
  refine CW.seq ?_
  refine CW.seq ?_
  refine CW.reg [0, 1, 2, 3, 4, 5, 6, 7] rfl ?_
  refine s_mv 5 rfl rfl ?_
  refine s_mv 6 rfl rfl ?_
  refine s_len 7 rfl rfl ?_
  refine s_lt 8 rfl rfl rfl rfl ?_
  refine s_mv 9 rfl rfl ?_
  refine SX.bool 9 rfl (fun hb => ?_) (fun hb => ?_)
  · skip
    have h1 := of_decide_eq_true hb
    refine s_mv 10 rfl rfl ?_
    refine s_le 11 rfl rfl rfl rfl ?_
    refine s_pickT 12 rfl rfl rfl ?_
    refine SX.next ?_
    refine CW.test rfl (fun h2 => ?_) (fun h2 => ?_)
    · skip
      have hil : i < l.length := by omega
      have hg := gF_at hil
      have hnx := sumB_take hil
      have hb1 : sumB (l.take (i + 1)) ≤ (l.take (i + 1)).length * 1048576 := sumB_le (fun f hf => hp.lens f (List.mem_of_mem_take hf))
      have hb2 : (l.take (i + 1)).length ≤ 61 := by rw [List.length_take]; omega
      refine CW.skip ?_
      refine KN.code ?_
      refine CW.seq ?_
      refine CW.block ?_
      refine CW.reg [0, 1, 2, 3, 4, 5, 6, 7, 8] rfl ?_
      refine s_mv 15 rfl rfl ?_
      refine s_mv 16 rfl rfl ?_
      refine s_mv 17 rfl rfl ?_
      refine s_iaV 18 i (fun w hw => hw.old hp.rows) rfl rfl rfl rfl hil ?_
      refine s_fa 19 rfl rfl ?_
      refine s_ld 20 rfl rfl (v := .slice (gF l i).A (gF l i).bits.length (gF l i).c) (fun _ hw => (hw.old hp.rows).rowAt ftRow_len hg (by omega) 4 _ rfl) ?_
      refine s_len 21 rfl rfl ?_
      refine s_add 22 rfl rfl rfl (r := ((sumB (l.take (i + 1)) : Nat) : Int)) (by
        rw [hnx, Int.natCast_add]
        exact w64 (by omega)) ?_
      refine s_as 3 rfl rfl ?_
      refine SX.end_ ?_
      refine KN.blk ?_
      refine KN.code ?_
      refine CW.reg [0, 1, 2] rfl ?_
      refine s_mv 13 rfl rfl ?_
      refine s_add 14 rfl rfl rfl (r := ((i + 1 : Nat) : Int)) (w64 (by omega)) ?_
      refine s_as 4 rfl rfl ?_
      refine SX.end_ ?_
      exact KN.back (i + 1) ⟨rfl, rfl, rfl, trivial⟩ (fun _ h => h) (by omega) (by omega)
    · skip
      have hz : lightB l = false := by
        unfold lightB
        rw [decide_eq_false (show ¬ l.length ≤ 60 by omega), Bool.false_and]
      refine CW.exit rfl ?_
      refine KN.code ?_
      refine CW.seq ?_
      refine CW.reg [0, 1, 2, 3, 4, 5, 6, 7] rfl ?_
      refine s_mv 23 rfl rfl ?_
      refine s_len 24 rfl rfl ?_
      refine s_le 25 rfl rfl rfl rfl ?_
      refine s_mv 26 rfl rfl ?_
      refine SX.bool 26 rfl (fun hb => ?_) (fun hb => ?_)
      · skip
        have h3 := of_decide_eq_true hb
        refine s_mv 27 rfl rfl ?_
        refine s_le 28 rfl rfl rfl rfl ?_
        refine s_pickT 29 rfl rfl rfl ?_
        refine s_as 2 rfl rfl ?_
        refine SX.next ?_
        refine CW.ret ?_
        exact KN.ret (rs := [.tmp 2]) Tryd.results25 rfl (fun w hw => ⟨by omega, hw.nothing⟩)
      · skip
        have h3 := of_decide_eq_false hb
        refine SX.skip rfl ?_
        refine SX.skip rfl ?_
        refine s_pickF 29 rfl rfl rfl ?_
        refine s_as 2 rfl rfl ?_
        refine SX.next ?_
        refine CW.ret ?_
        exact KN.ret (rs := [.tmp 2]) Tryd.results25 rfl (fun w hw => ⟨by rw [hz]; rfl, hw.nothing⟩)
  · skip
    have h1 := of_decide_eq_false hb
    obtain rfl : i = l.length := by omega
    refine SX.skip rfl ?_
    refine SX.skip rfl ?_
    refine s_pickF 12 rfl rfl rfl ?_
    refine SX.next ?_
    refine CW.condF rfl ?_
    refine CW.exit rfl ?_
    refine KN.code ?_
    refine CW.seq ?_
    refine CW.reg [0, 1, 2, 3, 4, 5, 6, 7] rfl ?_
    refine s_mv 23 rfl rfl ?_
    refine s_len 24 rfl rfl ?_
    refine s_le 25 rfl rfl rfl rfl ?_
    refine s_mv 26 rfl rfl ?_
    refine SX.bool 26 rfl (fun hb => ?_) (fun hb => ?_)
    · skip
      have h3 := of_decide_eq_true hb
      refine s_mv 27 rfl rfl ?_
      refine s_le 28 rfl rfl rfl rfl ?_
      refine s_pickT 29 rfl rfl rfl ?_
      refine s_as 2 rfl rfl ?_
      refine SX.next ?_
      refine CW.ret ?_
      exact KN.ret (rs := [.tmp 2]) Tryd.results25 rfl (fun w hw => ⟨by unfold lightB; rw [List.take_length, decide_eq_true (show l.length ≤ 60 by omega), Bool.true_and, ← decide_eq_decide.2 (show ((sumB l : Nat) : Int) ≤ 600 ↔ sumB l ≤ 600 by omega)]; rfl, hw.nothing⟩)
    · skip
      have h3 := of_decide_eq_false hb
      refine SX.skip rfl ?_
      refine SX.skip rfl ?_
      refine s_pickF 29 rfl rfl rfl ?_
      refine s_as 2 rfl rfl ?_
      refine SX.next ?_
      refine CW.ret ?_
      exact KN.ret (rs := [.tmp 2]) Tryd.results25 rfl (fun w hw => ⟨by unfold lightB; rw [decide_eq_false (show ¬ l.length ≤ 60 by omega)]; rfl, hw.nothing⟩)

theorem all14_spec (A : Option Addr) (c : Nat) (l : List ToldG) (w : World) (hl : TellIn A l w) : Spec1 Tryd.prog 17 [.slice A l.length c] w (.bool (allB l)) := by
  refine spec_of Tryd.func17 rfl Tryd.ntmps17 rfl ?_
  refine CW.seq ?_
  refine CW.reg [0] rfl ?_
  refine s_as 2 rfl rfl ?_
  refine SX.next ?_
  refine CW.seq ?_
  refine CW.seq ?_
  refine CW.reg [0, 1, 2] rfl ?_
  refine s_mv 4 rfl rfl ?_
  refine s_len 5 rfl rfl ?_
  refine s_gt 6 rfl rfl rfl rfl ?_
  refine SX.next ?_
  refine CW.test rfl (fun hc => ?_) (fun hc => ?_)
  · skip
    have hz : allB l = false := by
      unfold allB
      rw [decide_eq_false (show ¬ l.length ≤ 60 by omega), Bool.false_and]
    refine CW.seq ?_
    refine CW.reg [0] rfl ?_
    refine s_as 2 rfl rfl ?_
    refine SX.next ?_
    refine CW.ret ?_
    exact KN.ret (rs := [.tmp 2]) Tryd.results17 rfl (fun w hw => ⟨by rw [hz]; rfl, hw.nothing⟩)
  · skip
    have h60 : l.length ≤ 60 := by omega
    refine CW.skip ?_
    refine KN.code ?_
    refine CW.seq ?_
    refine CW.seq ?_
    refine CW.reg [0] rfl ?_
    refine s_as 3 rfl rfl ?_
    refine SX.next ?_
    refine CW.block ?_
    refine CW.loop (G := Nat) (fun i => [(0, .slice A l.length c), (3, .int .i64 (i : Nat))]) (fun _ => Sto w []) (fun i => i ≤ l.length ∧ (l.take i).all tellB = true) (fun i => l.length - i) 0 ⟨rfl, rfl, trivial⟩ (fun _ h => h) ⟨Nat.zero_le _, rfl⟩ ?_
    rintro i ⟨hi, hal⟩
    refine CW.seq ?_
    refine CW.seq ?_
    refine CW.reg [0, 1, 2, 3] rfl ?_
    refine s_mv 7 rfl rfl ?_
    refine s_mv 8 rfl rfl ?_
    refine s_len 9 rfl rfl ?_
    refine s_lt 10 rfl rfl rfl rfl ?_
    refine SX.next ?_
    refine CW.test rfl (fun hc => ?_) (fun hc => ?_)
    · skip
      have hil : i < l.length := by omega
      have hg := gT_at hil
      have hm := gT_mem hil
      have hnx := all_take hil
      refine CW.skip ?_
      refine KN.code ?_
      refine CW.seq ?_
      refine CW.block ?_
      refine CW.seq ?_
      refine CW.reg [0, 1, 2, 3, 4, 5, 6, 7, 8, 9, 10, 11, 12, 13, 14, 15] rfl ?_
      refine s_mv 13 rfl rfl ?_
      refine s_mv 14 rfl rfl ?_
      refine s_iaV 15 i (fun w hw => hw.old hl.rows) rfl rfl rfl rfl hil ?_
      refine s_fa 16 rfl rfl ?_
      refine s_ld 17 rfl rfl (v := .slice (gT l i).A (gT l i).l.length (gT l i).c) (fun _ hw => (hw.old hl.rows).rowAt toRow_len hg (by omega) 4 _ rfl) ?_
      refine s_len 18 rfl rfl ?_
      refine s_gt 19 rfl rfl rfl rfl ?_
      refine s_mv 20 rfl rfl ?_
      refine SX.bool 20 rfl (fun hb => ?_) (fun hb => ?_)
      · skip
        have h1 := of_decide_eq_true hb
        have hz : allB l = false := all_no hil (by
          unfold tellB
          rw [decide_eq_false (show ¬ (gT l i).l.length ≤ 300 by omega), Bool.false_and])
        refine SX.skip rfl ?_
        refine SX.skip rfl ?_
        refine SX.skip rfl ?_
        refine SX.skip rfl ?_
        refine SX.skip rfl ?_
        refine SX.skip rfl ?_
        refine SX.skip rfl ?_
        refine s_pickT 28 rfl rfl rfl ?_
        refine SX.next ?_
        refine CW.condT rfl ?_
        refine CW.seq ?_
        refine CW.reg [0] rfl ?_
        refine s_as 2 rfl rfl ?_
        refine SX.next ?_
        refine CW.ret ?_
        exact KN.ret (rs := [.tmp 2]) Tryd.results17 rfl (fun w hw => ⟨by rw [hz]; rfl, hw.nothing⟩)
      · skip
        have h1 := of_decide_eq_false hb
        have htl : tellB (gT l i) = lightB (gT l i).plan := by
          unfold tellB
          rw [decide_eq_true (show (gT l i).l.length ≤ 300 by omega), Bool.true_and]
        refine s_mv 21 rfl rfl ?_
        refine s_mv 22 rfl rfl ?_
        refine s_iaV 23 i (fun w hw => hw.old hl.rows) rfl rfl rfl rfl hil ?_
        refine s_fa 24 rfl rfl ?_
        refine s_ld 25 rfl rfl (v := .slice (gT l i).pA (gT l i).plan.length (gT l i).pc) (fun _ hw => (hw.old hl.rows).rowAt toRow_len hg (by omega) 5 _ rfl) ?_
        refine s_call1 26 rfl rfl rfl rfl (fun w hw => light_spec (gT l i).pA (gT l i).pc (gT l i).plan w ((hl.each _ hm).plan.turn hw.fr)) (fun _ _ => trivial) ?_
        refine s_not 27 rfl rfl ?_
        refine s_pickF 28 rfl rfl rfl ?_
        refine SX.next ?_
        refine CW.cond rfl (fun h2 => ?_) (fun h2 => ?_)
        · skip
          have hz : allB l = false := all_no hil (by rw [htl]; simpa using h2)
          refine CW.seq ?_
          refine CW.reg [0] rfl ?_
          refine s_as 2 rfl rfl ?_
          refine SX.next ?_
          refine CW.ret ?_
          exact KN.ret (rs := [.tmp 2]) Tryd.results17 rfl (fun w hw => ⟨by rw [hz]; rfl, hw.nothing⟩)
        · skip
          have h3 : tellB (gT l i) = true := by rw [htl]; simpa using h2
          refine CW.skip ?_
          refine KN.blk ?_
          refine KN.code ?_
          refine CW.reg [0, 1, 2] rfl ?_
          refine s_mv 11 rfl rfl ?_
          refine s_add 12 rfl rfl rfl (r := ((i + 1 : Nat) : Int)) (w64 (by omega)) ?_
          refine s_as 3 rfl rfl ?_
          refine SX.end_ ?_
          exact KN.back (i + 1) ⟨rfl, rfl, trivial⟩ (fun _ h => h) ⟨by omega, by rw [hnx, hal, h3]; rfl⟩ (by omega)
    · skip
      obtain rfl : i = l.length := by omega
      rw [List.take_length] at hal
      refine CW.exit rfl ?_
      refine KN.code ?_
      refine CW.seq ?_
      refine CW.reg [0] rfl ?_
      refine s_as 2 rfl rfl ?_
      refine SX.next ?_
      refine CW.ret ?_
      exact KN.ret (rs := [.tmp 2]) Tryd.results17 rfl (fun w hw => ⟨by unfold allB; rw [hal, decide_eq_true h60]; rfl, hw.nothing⟩)
end Go.Proofs.YtcapijdokbkgaaaDoor
end
section
/- What a chip that is told things does: plain. No condition. -/
namespace Go.Proofs.YtcapijdokbkgaaaDoor
open Go Go.Sx
set_option maxRecDepth 100000
theorem ToldIn.turn {d : ToldG} {w w' : World} (h : ToldIn d w) (hw : Fr (Old w) w w') : ToldIn d w' := ⟨h.bytes.turn hw, h.lt, h.plan.turn hw, h.hb, h.hp⟩
/-- A thing that a chip is told. -/
def stepS (d : ToldG) (s : ChS) : ChS :=
  if d.kind = 1 then (s.rd d.b d.p d.level).2.2 else if d.kind = 2 then (s.pr d.b d.p d.l).2 else if d.kind = 3 then (s.er d.b).2 else { s with off := false }
theorem step_ok {s : ChS} (h : s.Ok) {d : ToldG} (h8 : ∀ x ∈ d.l, x < 256) : (stepS d s).Ok := by
  unfold stepS
  split
  · exact rd_okp h _ _ _
  · split
    · exact pr_okp h _ _ h8
    · split
      · exact er_okp h _
      · exact off_okp h _
/-- As large as it was. -/
structure ChS.As (s t : ChS) : Prop where
  p : t.pages = s.pages
  z : t.size = s.size
  v : t.levels = s.levels
  b : t.blocks.length = s.blocks.length
theorem ChS.As.refl (s : ChS) : s.As s := ⟨rfl, rfl, rfl, rfl⟩
theorem rd_as (s : ChS) (b p v : Int) : s.As (s.rd b p v).2.2 ∧ (s.rd b p v).2.2.blocks = s.blocks := by
  unfold ChS.rd
  split
  · exact ⟨.refl s, rfl⟩
  · split
    · exact ⟨⟨rfl, rfl, rfl, rfl⟩, rfl⟩
    · exact ⟨⟨rfl, rfl, rfl, rfl⟩, rfl⟩
theorem pr_as (s : ChS) (b p : Int) (l : List Nat) : s.As (s.pr b p l).2 := by
  unfold ChS.pr
  split
  · exact .refl s
  · exact ⟨rfl, rfl, rfl, by show (List.set _ _ _).length = _; rw [List.length_set]; rfl⟩
theorem er_as (s : ChS) (b : Int) : s.As (s.er b).2 := by
  unfold ChS.er
  split
  · exact .refl s
  · exact ⟨rfl, rfl, rfl, by show (List.set _ _ _).length = _; rw [List.length_set]⟩
theorem step_as (d : ToldG) (s : ChS) : s.As (stepS d s) := by
  unfold stepS
  split
  · exact (rd_as s _ _ _).1
  · split
    · exact pr_as s _ _ _
    · split
      · exact er_as s _
      · exact ⟨rfl, rfl, rfl, rfl⟩
theorem As.inn {s t : ChS} (h : s.As t) (b p : Int) : t.inn b p = s.inn b p := by
  unfold ChS.inn ChS.has
  rw [h.p, h.b]
theorem pg_blocks {s t : ChS} (h : t.blocks = s.blocks) (b p : Int) : t.pg b p = s.pg b p := by
  unfold ChS.pg ChS.bk
  rw [h]
/-- With the power off nothing is changed. -/
theorem step_off (d : ToldG) {s : ChS} (h : s.off = true) : (stepS d s).blocks = s.blocks := by
  have ha : ∀ a b, askC s.off a b ≠ 0 := fun a b => by
    rw [h]
    exact (by decide : (109 : Int) ≠ 0)
  unfold stepS
  split
  · exact (rd_as s _ _ _).2
  · split
    · rw [pr_err (show s.prE d.b d.p d.l.length ≠ 0 from ha _ _)]
    · split
      · rw [er_err (show s.erE d.b ≠ 0 from ha _ _)]
      · rfl
theorem getD_set {α : Type} {l : List α} {i j : Nat} {x z : α} (hi : i < l.length) : (l.set i x).getD j z = if i = j then x else l.getD j z := by
  rw [List.getD_eq_getElem?_getD, List.getElem?_set, List.getD_eq_getElem?_getD]
  split
  · first | rfl | (rw [if_pos hi]; rfl)
  · rfl
theorem setPg_pg {s : ChS} (hs : s.Ok) {b p : Int} (h : s.inn b p = true) (q : PgS) {i k : Int} (hi : s.inn i k = true) : (s.setPg b p q).pg i k = if b = i ∧ p = k then q else s.pg i k := by
  obtain ⟨h1, h2, h3⟩ := has_inn h
  obtain ⟨g1, g2, g3⟩ := has_inn hi
  obtain ⟨h4, h5⟩ := bk_ok hs h1
  unfold ChS.has at h1 g1
  have h6 := of_decide_eq_true h1
  have g6 := of_decide_eq_true g1
  unfold ChS.pg ChS.setPg
  simp only
  show ((s.blocks.set b.toNat _).getD i.toNat BkS.nul).pages.getD k.toNat PgS.nul = _
  rw [getD_set h5]
  by_cases e : b = i
  · subst e
    rw [if_pos rfl]
    simp only
    have hl : p.toNat < (s.bk b).pages.length := by
      have := h4.1
      omega
    rw [getD_set hl]
    by_cases e2 : p = k
    · subst e2
      rw [if_pos rfl, if_pos ⟨trivial, rfl⟩]
    · rw [if_neg (by omega), if_neg (fun hn => e2 hn.2)]
  · rw [if_neg (by omega), if_neg (fun hn => e hn.1)]
    rfl
/-- A bit that is there was there. -/
theorem step_falls {s : ChS} (hs : s.Ok) (d : ToldG) (hk : d.kind ≠ 3) {i k : Int} (hi : s.inn i k = true) (j : Nat) : ((stepS d s).pg i k).cells.getD j 0 &&& (s.pg i k).cells.getD j 0 = ((stepS d s).pg i k).cells.getD j 0 := by
  unfold stepS
  split
  · rw [pg_blocks (rd_as s _ _ _).2, Nat.and_self]
  · split
    · by_cases he : s.prE d.b d.p d.l.length = 0
      · obtain ⟨h1, h2, h3⟩ := prE_zero he
        unfold ChS.pr
        rw [if_neg (fun hn => hn he)]
        simp only
        rw [setPg_pg (s := { ({ s with broken := if wrongAt (s.bk d.b).pages d.p then wr (s.broken + 1) else s.broken } : ChS).tick with off := (findK s.hits 3).isSome }) (hs.same rfl rfl rfl rfl rfl) h2 _ hi]
        split
        · rename_i e
          obtain ⟨rfl, rfl⟩ := e
          obtain ⟨p1, p2, p3, p4⟩ := page_ok hs h2
          have hl : (s.pg d.b d.p).cells.length ≤ (spoils s.hits d.l).length := by
            rw [(spoils_ok _ _).1]
            omega
          simp only
          rw [List.getD_eq_getElem?_getD, andTo_at hl, List.getD_eq_getElem?_getD (l := (s.pg d.b d.p).cells)]
          split
          · cases (s.pg d.b d.p).cells[j]? with
            | none => rw [Option.map_none]; rfl
            | some x =>
              rw [Option.map_some, Option.getD_some, Option.getD_some, Nat.and_comm, ← Nat.and_assoc, Nat.and_self]
          · exact Nat.and_self _
        · show (s.pg i k).cells.getD j 0 &&& (s.pg i k).cells.getD j 0 = _
          rw [Nat.and_self]
          rfl
      · rw [pr_err he, Nat.and_self]
    · show (s.pg i k).cells.getD j 0 &&& (s.pg i k).cells.getD j 0 = (s.pg i k).cells.getD j 0
      rw [Nat.and_self]
theorem ibit_andNot_u8 {x y : Nat} (h : x &&& y = x) : ibit .andNot .u8 x y = 0 := by
  show IntKind.u8.wrap ((BitVec.ofInt 8 (x : Int) &&& ~~~ BitVec.ofInt 8 (y : Int)).toNat : Nat) = _
  have e : BitVec.ofInt 8 (x : Int) &&& ~~~ BitVec.ofInt 8 (y : Int) = 0#8 := by
    have e1 : BitVec.ofInt 8 (x : Int) = BitVec.ofInt 8 (x : Int) &&& BitVec.ofInt 8 (y : Int) := by
      rw [BitVec.ofInt_natCast, BitVec.ofInt_natCast, ← BitVec.ofNat_and, h]
    rw [e1, BitVec.and_assoc]
    simp
  rw [e]
  rfl
/-- The chip that ChipFalls looks at. -/
structure Is334 (s : ChS) : Prop where
  ok : s.Ok
  p : s.pages = 3
  z : s.size = 4
  b : s.blocks.length = 3
theorem Is334.step {s : ChS} (h : Is334 s) {d : ToldG} (h8 : ∀ x ∈ d.l, x < 256) : Is334 (stepS d s) := by
  have h1 := step_as d s
  exact ⟨step_ok h.ok h8, h1.p.trans h.p, h1.z.trans h.z, h1.b.trans h.b⟩
theorem Is334.inn {s : ChS} (h : Is334 s) {b p : Nat} (hb : b < 3) (hp : p < 3) : s.inn (b : Nat) (p : Nat) = true := by
  unfold ChS.inn ChS.has
  rw [h.p, h.b, decide_eq_true (by omega), decide_eq_true (by omega)]
  rfl
theorem Is334.len {s : ChS} (h : Is334 s) {b p : Nat} (hb : b < 3) (hp : p < 3) : (s.pg (b : Nat) (p : Nat)).cells.length = 4 ∧ ∀ x ∈ (s.pg (b : Nat) (p : Nat)).cells, x < 256 := by
  obtain ⟨h1, h2, _⟩ := page_ok h.ok (h.inn hb hp)
  rw [h.z] at h1
  exact ⟨by omega, h2⟩
theorem Is334.cells {s : ChS} (h : Is334 s) {b p : Nat} (hb : b < 3) (hp : p < 3) : (if s.inn (b : Nat) (p : Nat) = true then (s.pg (b : Nat) (p : Nat)).cells else []) = (s.pg (b : Nat) (p : Nat)).cells := if_pos (h.inn hb hp)
end Go.Proofs.YtcapijdokbkgaaaDoor
end
section
/- The statement ChipFalls, walked. Conditions: what comes in is read where it lies; the errors' variables. -/
namespace Go.Proofs.YtcapijdokbkgaaaDoor
open Go Go.Sx Go.Fm
set_option maxRecDepth 100000
theorem toPlace {A : Option Addr} {l : List ToldG} {w : World} (h : Has (sl 6 A l.length (l.flatMap ToldG.row)) w) {i : Nat} (hi : i < l.length) : ∀ j v, ([.int .i64 (gT l i).b, .int .i64 (gT l i).p] : List Value)[j]? = some v → w.cell? ⟨ob A, oo A + i * 6 + 1 + j, none⟩ = some v := fun j v hj => by
  have h1 := h.rowAt toRow_len (gT_at hi) (by omega) (1 + j) v (by
    match j, hj with
    | 0, hj => exact hj
    | 1, hj => exact hj)
  rwa [← Nat.add_assoc] at h1
def N334 (l : List FtS) : ChS := ChS.new 3 3 4 1 [] l
theorem N334_is {l : List FtS} (h1 : l.length ≤ 1000) (h2 : ∀ f ∈ l, f.bits.length ≤ 1000000) : Is334 (N334 l) :=
  ⟨new_ok (by decide) (by decide) (by decide) (by decide) (by decide) (by decide) (by decide) (fun m hm => absurd hm List.not_mem_nil) h1 h2, rfl, rfl, rfl⟩

set_option maxHeartbeats 1600000 in

theorem walk_ChipFalls (A0 : Option Addr) (c0 : Nat) (l0 : List FtG) (A1 : Option Addr) (c1 : Nat) (l1 : List ToldG) (e : Nat → Addr) (w : World) (hp : PlRead A0 l0 w) (ht : TellIn A1 l1 w) (heD : Er e w 0) (heO : Er e w 1) (heS : Er e w 2) (heF : Er e w 5) (heM : Er e w 6) : Spec1 Tryd.prog 6 [.slice A0 l0.length c0, .slice A1 l1.length c1] w (.bool true) := by
  refine spec_of Tryd.func6 rfl Tryd.ntmps6 rfl ?_
  refine CW.seq ?_
  refine CW.reg [0] rfl ?_
  refine s_as 4 rfl rfl ?_
  refine SX.next ?_
  refine CW.seq ?_
  refine CW.reg [0, 1] rfl ?_
  refine s_call1 16 rfl rfl rfl rfl (fun w hw => first14_spec e w (hw.er heD) (hw.er heO) (hw.er heS) (hw.er heF) (hw.er heM)) (fun _ _ => trivial) ?_
  refine s_as 5 rfl rfl ?_
  refine SX.next ?_
  refine CW.seq ?_
  refine CW.seq ?_
  refine CW.reg [0, 1, 2, 3, 4, 5, 6, 7, 8, 9, 10, 11] rfl ?_
  refine s_mv 17 rfl rfl ?_
  refine s_call1 18 rfl rfl rfl rfl (fun w hw => all14_spec A1 c1 l1 w ⟨hw.old ht.rows, fun d hd => (ht.each d hd).turn hw.fr⟩) (fun _ _ => trivial) ?_
  refine s_not 19 rfl rfl ?_
  refine s_mv 20 rfl rfl ?_
  refine SX.bool 20 rfl (fun hb => ?_) (fun hb => ?_)
  · skip
    skip
    refine SX.skip rfl ?_
    refine SX.skip rfl ?_
    refine SX.skip rfl ?_
    refine s_pickT 24 rfl rfl rfl ?_
    refine s_mv 25 rfl rfl ?_
    refine SX.skip rfl ?_
    refine SX.skip rfl ?_
    refine s_pickT 28 rfl rfl rfl ?_
    refine SX.next ?_
    refine CW.condT rfl ?_
    refine CW.seq ?_
    refine CW.reg [0, 1] rfl ?_
    refine s_mv 29 rfl rfl ?_
    refine s_as 4 rfl rfl ?_
    refine SX.next ?_
    refine CW.ret ?_
    exact KN.ret (rs := [.tmp 4]) Tryd.results6 rfl (fun w hw => ⟨rfl, hw.nothing⟩)
  · skip
    have hall : allB l1 = true := by simpa using hb
    obtain ⟨h60, hall2⟩ := all_in hall
    refine s_mv 21 rfl rfl ?_
    refine s_call1 22 rfl rfl rfl rfl (fun w hw => light_spec A0 c0 l0 w (hp.turn hw.fr)) (fun _ _ => trivial) ?_
    refine s_not 23 rfl rfl ?_
    refine s_pickF 24 rfl rfl rfl ?_
    refine s_mv 25 rfl rfl ?_
    refine SX.bool 25 rfl (fun hb => ?_) (fun hb => ?_)
    · skip
      skip
      refine SX.skip rfl ?_
      refine SX.skip rfl ?_
      refine s_pickT 28 rfl rfl rfl ?_
      refine SX.next ?_
      refine CW.condT rfl ?_
      refine CW.seq ?_
      refine CW.reg [0, 1] rfl ?_
      refine s_mv 29 rfl rfl ?_
      refine s_as 4 rfl rfl ?_
      refine SX.next ?_
      refine CW.ret ?_
      exact KN.ret (rs := [.tmp 4]) Tryd.results6 rfl (fun w hw => ⟨rfl, hw.nothing⟩)
    · skip
      have hlt : lightB l0 = true := by simpa using hb
      obtain ⟨hpl, hpl60⟩ := light_pl hp hlt
      have hn := N334_is (l := l0.map FtG.abs) (by rw [List.length_map]; omega) (fun f hf => by
        obtain ⟨f2, h2, rfl⟩ := List.mem_map.1 hf
        exact hpl.lens f2 h2)
      refine s_mv 26 rfl rfl ?_
      refine s_not 27 rfl rfl ?_
      refine s_pickF 28 rfl rfl rfl ?_
      refine SX.next ?_
      refine CW.condF rfl ?_
      refine CW.skip ?_
      refine KN.code ?_
      refine CW.seq ?_
      refine CW.reg [0, 1, 2, 3, 4, 5, 6] rfl ?_
      refine s_mv 31 rfl rfl ?_
      refine s_call 32 rfl rfl rfl rfl (X := Nat × ChG) (v := fun z => two (.pointer (some ⟨z.1, 0, none⟩)) .nilIface) (pf := fun z => z.2.abs = N334 (l0.map FtG.abs) ∧ z.2.watch = .nilFunc) (L' := fun z => [chipA z.1 z.2]) (fun w hw => cnew_ok 3 3 4 1 none 0 [] A0 c0 l0 e w (by decide) (by decide) (by decide) (by decide) (Has.sl_nil w 1 none) (by decide) (fun m hm => absurd hm List.not_mem_nil) (hw.er heM) (hpl.turn hw.fr) (by omega)) (fun _ _ => trivial) (fun z hz => ?_)
      obtain ⟨g, x0⟩ := z
      refine s_mv 30 rfl rfl ?_
      refine s_ext 33 rfl rfl rfl ?_
      refine s_ext 34 rfl rfl rfl ?_
      refine s_as 6 rfl rfl ?_
      refine s_as 7 rfl rfl ?_
      refine SX.next ?_
      refine CW.seq ?_
      refine CW.seq ?_
      refine CW.reg [0, 1, 2, 3, 4, 5] rfl ?_
      refine s_mv 35 rfl rfl ?_
      refine s_eqPN 36 rfl rfl ?_
      refine s_mv 37 rfl rfl ?_
      refine s_mv 38 rfl rfl ?_
      refine s_neNN 39 rfl rfl ?_
      refine s_pickF 40 rfl rfl rfl ?_
      refine SX.next ?_
      refine CW.condF rfl ?_
      refine CW.skip ?_
      refine KN.code ?_
      refine CW.seq ?_
      refine CW.seq ?_
      refine CW.reg [0] rfl ?_
      refine s_as 8 rfl rfl ?_
      refine SX.next ?_
      refine CW.block ?_
      refine CW.loop (G := Nat × ChG) (fun q => [(1, .slice A1 l1.length c1), (6, .pointer (some ⟨g, 0, none⟩)), (8, .int .i64 (q.1 : Nat))]) (fun q => Sto w [chipA g q.2]) (fun q => q.1 ≤ l1.length ∧ Is334 q.2.abs ∧ q.2.watch = .nilFunc) (fun q => l1.length - q.1) (0, x0) ⟨rfl, rfl, rfl, trivial⟩ (fun _ h => h.pick [0] rfl) ⟨Nat.zero_le _, by rw [hz.1]; exact hn, hz.2⟩ ?_
      rintro ⟨i, x⟩ ⟨hi, hx, hxw⟩
      simp only at hi hx hxw
      dsimp only
      refine CW.seq ?_
      refine CW.seq ?_
      refine CW.reg [0, 1, 2, 3] rfl ?_
      refine s_mv 41 rfl rfl ?_
      refine s_mv 42 rfl rfl ?_
      refine s_len 43 rfl rfl ?_
      refine s_lt 44 rfl rfl rfl rfl ?_
      refine SX.next ?_
      refine CW.test rfl (fun hc => ?_) (fun hc => ?_)
      · skip
        have hil : i < l1.length := by omega
        have hg := gT_at hil
        have hm := gT_mem hil
        have h8 := (ht.each _ hm).lt
        have hB := (ht.each _ hm).bytes
        obtain ⟨hl300, _, _⟩ := tell_in (ht.each _ hm) (hall2 _ hm)
        refine CW.skip ?_
        refine KN.code ?_
        refine CW.seq ?_
        refine CW.block ?_
        refine CW.seq ?_
        refine CW.reg [0, 1, 2] rfl ?_
        refine s_mv 47 rfl rfl ?_
        refine s_call 48 rfl rfl rfl rfl (X := Nat × ChG) (v := fun z => .pointer (some ⟨z.1, 0, none⟩)) (pf := fun z => z.2.abs = x.abs ∧ z.2.watch = .nilFunc) (L' := fun z => [chipA z.1 z.2]) (fun w hw => cclone_spec g x hx.ok (by rw [hxw]; rfl) w (hw.has (i := 0) rfl)) (fun _ _ => trivial) (fun z hzd => ?_)
        obtain ⟨g2, xd⟩ := z
        have hdok : xd.abs.Ok := by rw [hzd.1]; exact hx.ok
        refine s_as 9 rfl rfl ?_
        refine SX.next ?_
        refine CW.seq ?_
        refine CW.seq ?_
        refine CW.reg [0, 1] rfl ?_
        refine s_mv 49 rfl rfl ?_
        refine s_eqPN 50 rfl rfl ?_
        refine SX.next ?_
        refine CW.condF rfl ?_
        refine CW.skip ?_
        refine KN.code ?_
        refine CW.seq ?_
        refine CW.reg [0, 1, 2] rfl ?_
        refine s_mv 51 rfl rfl ?_
        refine s_call1 52 rfl rfl rfl rfl (fun w hw => on_spec g x w (hw.has (i := 1) rfl)) (fun _ _ => trivial) ?_
        refine s_as 10 rfl rfl ?_
        refine SX.next ?_
        refine CW.cut (G := ChG) (fun _ => [(1, .slice A1 l1.length c1), (6, .pointer (some ⟨g, 0, none⟩)), (8, .int .i64 (i : Nat)), (9, .pointer (some ⟨g2, 0, none⟩)), (10, .bool (!x.off))]) (fun y => Sto w [chipA g y, chipA g2 xd]) (fun y => y.abs = stepS (gT l1 i) x.abs ∧ y.watch = .nilFunc) ?_ ?_
        · skip
          refine CW.seq ?_
          refine CW.reg [0, 1, 2, 3, 4] rfl ?_
          refine s_mv 53 rfl rfl ?_
          refine s_mv 54 rfl rfl ?_
          refine s_iaV 55 i (fun w hw => hw.old ht.rows) rfl rfl rfl rfl hil ?_
          refine s_fa 56 rfl rfl ?_
          refine s_ld 57 rfl rfl (v := .int .i64 (gT l1 i).kind) (fun _ hw => (hw.old ht.rows).rowAt toRow_len hg (by omega) 0 _ rfl) ?_
          refine SX.next ?_
          refine CW.block ?_
          refine CW.seq ?_
          refine CW.reg [0, 1] rfl ?_
          refine s_eq 61 rfl rfl rfl rfl ?_
          refine s_as 60 rfl rfl ?_
          refine SX.next ?_
          refine CW.test rfl (fun hc => ?_) (fun hc => ?_)
          · skip
            have h1 : (gT l1 i).kind = 1 := by simpa using hc
            refine CW.regD (.st true 0 (.st true 1 (.st true 2 (.st true 3 (.st true 4 (.st true 5 (.st true 6 (.st true 7 (.st true 8 (.st true 9 (.st true 10 (.st false 11 .done)))))))))))) (Sto w []) mixed (by kernel_rfl) (fun _ h => h.drew) (fun _ h => h.pick [] rfl) ?_
            refine s_mv 62 rfl rfl ?_
            refine s_mv 63 rfl rfl ?_
            refine s_mv 64 rfl rfl ?_
            refine s_iaV 65 i (fun w hw => hw.old ht.rows) rfl rfl rfl rfl hil ?_
            refine s_fa 66 rfl rfl ?_
            refine s_ldRS 67 (cs := [.int .i64 (gT l1 i).b, .int .i64 (gT l1 i).p]) rfl rfl rfl (fun _ hw => toPlace (hw.old ht.rows) hil) ?_
            refine s_mv 68 rfl rfl ?_
            refine s_mv 69 rfl rfl ?_
            refine s_iaV 70 i (fun w hw => hw.old ht.rows) rfl rfl rfl rfl hil ?_
            refine s_fa 71 rfl rfl ?_
            refine s_ldS 72 rfl rfl (v := .int .i64 (gT l1 i).level) (fun _ hw => (hw.old ht.rows).rowAt toRow_len hg (by omega) 3 _ rfl) ?_
            refine s_callP 73 [1, 0] (M := [chipA g x]) (R := [chipA g2 xd]) (X := (Option Addr × Nat) × ChG) (v := fun z => two (.slice z.1.1 (x.abs.rd (gT l1 i).b (gT l1 i).p (gT l1 i).level).2.1.length z.1.2) (evE e (x.abs.rd (gT l1 i).b (gT l1 i).p (gT l1 i).level).1)) (pf := fun z => z.2.abs = (x.abs.rd (gT l1 i).b (gT l1 i).p (gT l1 i).level).2.2 ∧ z.2.watch = x.watch) (M' := fun z => [own 5 1 z.1.1 (x.abs.rd (gT l1 i).b (gT l1 i).p (gT l1 i).level).2.1.length z.1.2 (nats .u8 (x.abs.rd (gT l1 i).b (gT l1 i).p (gT l1 i).level).2.1), chipA g z.2]) rfl rfl rfl rfl rfl (fun F' w' hR hM => by have := read_spec F' g x hx.ok (gT l1 i).b (gT l1 i).p (gT l1 i).level e w' hxw (fun w2 hf => (hR w2 hf).er heD) (fun w2 hf => (hR w2 hf).er heO) (fun w2 hf => (hR w2 hf).er heS) hM;  exact this) (fun _ _ h => h.pick [] rfl) (fun y hy => ?_)
            refine SX.end_ ?_
            refine KN.blk ?_
            exact KN.join y.2 ⟨rfl, rfl, rfl, rfl, rfl, trivial⟩ (fun _ h => h.pick [1, 1] rfl) ⟨hy.1.trans (by unfold stepS; rw [if_pos h1]), hy.2.trans hxw⟩
          · skip
            have h1 : ¬ (gT l1 i).kind = 1 := by simpa using hc
            refine CW.seq ?_
            refine CW.reg [0, 1] rfl ?_
            refine s_eq 75 rfl rfl rfl rfl ?_
            refine s_as 74 rfl rfl ?_
            refine SX.next ?_
            refine CW.test rfl (fun hc => ?_) (fun hc => ?_)
            · skip
              have h2 : (gT l1 i).kind = 2 := by simpa using hc
              refine CW.regD (.st true 0 (.st true 1 (.st true 2 (.st true 3 (.st true 4 (.st true 5 (.st true 6 (.st true 7 (.st true 8 (.st true 9 (.st true 10 (.st false 11 .done)))))))))))) (Sto w []) mixed (by kernel_rfl) (fun _ h => h.drew) (fun _ h => h.pick [] rfl) ?_
              refine s_mv 76 rfl rfl ?_
              refine s_mv 77 rfl rfl ?_
              refine s_mv 78 rfl rfl ?_
              refine s_iaV 79 i (fun w hw => hw.old ht.rows) rfl rfl rfl rfl hil ?_
              refine s_fa 80 rfl rfl ?_
              refine s_ldRS 81 (cs := [.int .i64 (gT l1 i).b, .int .i64 (gT l1 i).p]) rfl rfl rfl (fun _ hw => toPlace (hw.old ht.rows) hil) ?_
              refine s_mv 82 rfl rfl ?_
              refine s_mv 83 rfl rfl ?_
              refine s_iaV 84 i (fun w hw => hw.old ht.rows) rfl rfl rfl rfl hil ?_
              refine s_fa 85 rfl rfl ?_
              refine s_ldS 86 rfl rfl (v := .slice (gT l1 i).A (gT l1 i).l.length (gT l1 i).c) (fun _ hw => (hw.old ht.rows).rowAt toRow_len hg (by omega) 4 _ rfl) ?_
              refine s_callP 87 [1, 0] (M := [chipA g x]) (R := [chipA g2 xd]) (X := ChG) (v := fun z => evE e (x.abs.pr (gT l1 i).b (gT l1 i).p (gT l1 i).l).1) (pf := fun z => z.abs = (x.abs.pr (gT l1 i).b (gT l1 i).p (gT l1 i).l).2 ∧ z.watch = x.watch) (M' := fun z => [chipA g z]) rfl rfl rfl rfl rfl (fun F' w' hR hM => by have := program_spec F' g x hx.ok (gT l1 i).b (gT l1 i).p (gT l1 i).A (gT l1 i).c (gT l1 i).l e w' (fun w2 hf => (hR w2 hf).er heD) (fun w2 hf => (hR w2 hf).er heO) (fun w2 hf => (hR w2 hf).er heS) (fun w2 hf => (hR w2 hf).er heF) (fun w2 hf => (hR w2 hf).old hB) h8 hM;  exact this) (fun _ _ h => h.pick [] rfl) (fun y hy => ?_)
              refine SX.end_ ?_
              refine KN.blk ?_
              exact KN.join y ⟨rfl, rfl, rfl, rfl, rfl, trivial⟩ (fun _ h => h.pick [0, 0] rfl) ⟨hy.1.trans (by unfold stepS; rw [if_neg h1, if_pos h2]), hy.2.trans hxw⟩
            · skip
              have h2 : ¬ (gT l1 i).kind = 2 := by simpa using hc
              refine CW.seq ?_
              refine CW.reg [0, 1] rfl ?_
              refine s_eq 89 rfl rfl rfl rfl ?_
              refine s_as 88 rfl rfl ?_
              refine SX.next ?_
              refine CW.test rfl (fun hc => ?_) (fun hc => ?_)
              · skip
                have h3 : (gT l1 i).kind = 3 := by simpa using hc
                refine CW.reg [0, 1, 2, 3, 4, 5, 6, 7] rfl ?_
                refine s_mv 90 rfl rfl ?_
                refine s_mv 91 rfl rfl ?_
                refine s_mv 92 rfl rfl ?_
                refine s_iaV 93 i (fun w hw => hw.old ht.rows) rfl rfl rfl rfl hil ?_
                refine s_fa 94 rfl rfl ?_
                refine s_fa 95 rfl rfl ?_
                refine s_ld 96 rfl rfl (v := .int .i64 (gT l1 i).b) (fun _ hw => (hw.old ht.rows).rowAt toRow_len hg (by omega) 1 _ rfl) ?_
                refine s_callP 97 [1, 0] (M := [chipA g x]) (R := [chipA g2 xd]) (X := ChG) (v := fun z => evE e (x.abs.er (gT l1 i).b).1) (pf := fun z => z.abs = (x.abs.er (gT l1 i).b).2 ∧ z.watch = x.watch) (M' := fun z => [chipA g z]) rfl rfl rfl rfl rfl (fun F' w' hR hM => by have := erase_spec F' g x hx.ok (gT l1 i).b e w' (fun w2 hf => (hR w2 hf).er heD) (fun w2 hf => (hR w2 hf).er heO) (fun w2 hf => (hR w2 hf).er heS) (fun w2 hf => (hR w2 hf).er heF) hM;  exact this) (fun _ _ _ => trivial) (fun y hy => ?_)
                refine SX.end_ ?_
                refine KN.blk ?_
                exact KN.join y ⟨rfl, rfl, rfl, rfl, rfl, trivial⟩ (fun _ h => h.pick [0, 0] rfl) ⟨hy.1.trans (by unfold stepS; rw [if_neg h1, if_neg h2, if_pos h3]), hy.2.trans hxw⟩
              · skip
                have h3 : ¬ (gT l1 i).kind = 3 := by simpa using hc
                refine CW.reg [0, 1] rfl ?_
                refine s_mv 58 rfl rfl ?_
                refine s_callP 59 [1, 0] (M := [chipA g x]) (R := [chipA g2 xd]) (X := Unit) (v := fun z => oneOf []) (pf := fun z => True) (M' := fun z => [chipA g { x with off := false }]) rfl rfl rfl rfl rfl (fun F' w' hR hM => by have := power_spec F' g x w' hM;  exact this) (fun _ _ _ => trivial) (fun _ _ => ?_)
                refine SX.end_ ?_
                refine KN.blk ?_
                exact KN.join { x with off := false } ⟨rfl, rfl, rfl, rfl, rfl, trivial⟩ (fun _ h => h.pick [0, 0] rfl) ⟨by unfold stepS; rw [if_neg h1, if_neg h2, if_neg h3]; rfl, hxw⟩
        · skip
          rintro y ⟨hy, hyw⟩
          have hyI : Is334 y.abs := by rw [hy]; exact hx.step h8
          refine CW.seq ?_
          refine CW.reg [0] rfl ?_
          refine s_as 11 rfl rfl ?_
          refine SX.next ?_
          refine CW.block ?_
          refine CW.loop (G := Nat) (fun b => [(1, .slice A1 l1.length c1), (6, .pointer (some ⟨g, 0, none⟩)), (8, .int .i64 (i : Nat)), (9, .pointer (some ⟨g2, 0, none⟩)), (10, .bool (!x.off)), (11, .int .i64 (b : Nat))]) (fun _ => Sto w [chipA g y, chipA g2 xd]) (fun b => b ≤ 3) (fun b => 3 - b) 0 ⟨rfl, rfl, rfl, rfl, rfl, rfl, trivial⟩ (fun _ h => h) (Nat.zero_le _) ?_
          intro b hb3
          refine CW.seq ?_
          refine CW.seq ?_
          refine CW.reg [0, 1] rfl ?_
          refine s_mv 98 rfl rfl ?_
          refine s_lt 99 rfl rfl rfl rfl ?_
          refine SX.next ?_
          refine CW.test rfl (fun hc => ?_) (fun hc => ?_)
          · skip
            have hbl : b < 3 := by omega
            refine CW.skip ?_
            refine KN.code ?_
            refine CW.seq ?_
            refine CW.block ?_
            refine CW.seq ?_
            refine CW.reg [0] rfl ?_
            refine s_as 12 rfl rfl ?_
            refine SX.next ?_
            refine CW.block ?_
            refine CW.loop (G := Nat) (fun p => [(1, .slice A1 l1.length c1), (6, .pointer (some ⟨g, 0, none⟩)), (8, .int .i64 (i : Nat)), (9, .pointer (some ⟨g2, 0, none⟩)), (10, .bool (!x.off)), (11, .int .i64 (b : Nat)), (12, .int .i64 (p : Nat))]) (fun _ => Sto w [chipA g y, chipA g2 xd]) (fun p => p ≤ 3) (fun p => 3 - p) 0 ⟨rfl, rfl, rfl, rfl, rfl, rfl, rfl, trivial⟩ (fun _ h => h) (Nat.zero_le _) ?_
            intro p hp3
            refine CW.seq ?_
            refine CW.seq ?_
            refine CW.reg [0, 1] rfl ?_
            refine s_mv 102 rfl rfl ?_
            refine s_lt 103 rfl rfl rfl rfl ?_
            refine SX.next ?_
            refine CW.test rfl (fun hc => ?_) (fun hc => ?_)
            · skip
              have hpl3 : p < 3 := by omega
              obtain ⟨hlx, h8x⟩ := hx.len hbl hpl3
              obtain ⟨hly, h8y⟩ := hyI.len hbl hpl3
              have hcx := hx.cells hbl hpl3
              have hcy := hyI.cells hbl hpl3
              have hfa : (gT l1 i).kind ≠ 3 → ∀ j, (y.abs.pg (b : Nat) (p : Nat)).cells.getD j 0 &&& (x.abs.pg (b : Nat) (p : Nat)).cells.getD j 0 = (y.abs.pg (b : Nat) (p : Nat)).cells.getD j 0 := fun hk j => by
                rw [hy]
                exact step_falls hx.ok _ hk (hx.inn hbl hpl3) j
              have hof : x.off = true → (y.abs.pg (b : Nat) (p : Nat)).cells = (x.abs.pg (b : Nat) (p : Nat)).cells := fun ho => by
                rw [hy]
                exact congrArg PgS.cells (pg_blocks (step_off _ (s := x.abs) ho) _ _)
              refine CW.skip ?_
              refine KN.code ?_
              refine CW.seq ?_
              refine CW.block ?_
              refine CW.seq ?_
              refine CW.reg [0, 1, 2, 3, 4, 5] rfl ?_
              refine s_mv 106 rfl rfl ?_
              refine s_mv 107 rfl rfl ?_
              refine s_mv 108 rfl rfl ?_
              refine s_build 109 rfl rfl (cells := #[.int .i64 ((b : Nat) : Int), .int .i64 ((p : Nat) : Int)]) (by kernel_rfl) ?_
              refine s_call 110 rfl rfl rfl rfl (X := Option Addr × Nat) (v := fun z => .slice z.1 (x.abs.pg (b : Nat) (p : Nat)).cells.length z.2) (pf := fun z => (x.abs.pg (b : Nat) (p : Nat)).cells.length ≤ z.2) (L' := fun z => [own 5 1 z.1 (x.abs.pg (b : Nat) (p : Nat)).cells.length z.2 (nats .u8 (x.abs.pg (b : Nat) (p : Nat)).cells)]) (fun w hw => by have := cells_spec g2 xd hdok (b : Nat) (p : Nat) w (hw.has (i := 1) rfl); rw [hzd.1, hcx] at this; exact this) (fun _ _ => trivial) (fun zx hzx => ?_)
              refine s_as 13 rfl rfl ?_
              refine SX.next ?_
              refine CW.seq ?_
              refine CW.reg [0, 1, 2, 3, 4, 5] rfl ?_
              refine s_mv 111 rfl rfl ?_
              refine s_mv 112 rfl rfl ?_
              refine s_mv 113 rfl rfl ?_
              refine s_build 114 rfl rfl (cells := #[.int .i64 ((b : Nat) : Int), .int .i64 ((p : Nat) : Int)]) (by kernel_rfl) ?_
              refine s_call 115 rfl rfl rfl rfl (X := Option Addr × Nat) (v := fun z => .slice z.1 (y.abs.pg (b : Nat) (p : Nat)).cells.length z.2) (pf := fun z => (y.abs.pg (b : Nat) (p : Nat)).cells.length ≤ z.2) (L' := fun z => [own 5 1 z.1 (y.abs.pg (b : Nat) (p : Nat)).cells.length z.2 (nats .u8 (y.abs.pg (b : Nat) (p : Nat)).cells)]) (fun w hw => by have := cells_spec g y hyI.ok (b : Nat) (p : Nat) w (hw.has (i := 1) rfl); rw [hcy] at this; exact this) (fun _ _ => trivial) (fun zy hzy => ?_)
              refine s_as 14 rfl rfl ?_
              refine SX.next ?_
              refine CW.seq ?_
              refine CW.seq ?_
              refine CW.reg [0, 1, 2, 3, 4, 5, 6, 7] rfl ?_
              refine s_mv 116 rfl rfl ?_
              refine s_len 117 rfl rfl ?_
              refine s_ne 118 rfl rfl rfl (decide_eq_false (by omega)) ?_
              refine s_mv 119 rfl rfl ?_
              refine s_mv 120 rfl rfl ?_
              refine s_len 121 rfl rfl ?_
              refine s_ne 122 rfl rfl rfl (decide_eq_false (by omega)) ?_
              refine s_pickF 123 rfl rfl rfl ?_
              refine SX.next ?_
              refine CW.condF rfl ?_
              refine CW.skip ?_
              refine KN.code ?_
              refine CW.seq ?_
              refine CW.reg [0] rfl ?_
              refine s_as 15 rfl rfl ?_
              refine SX.next ?_
              refine CW.block ?_
              refine CW.loop (G := Nat) (fun k => [(1, .slice A1 l1.length c1), (6, .pointer (some ⟨g, 0, none⟩)), (8, .int .i64 (i : Nat)), (9, .pointer (some ⟨g2, 0, none⟩)), (10, .bool (!x.off)), (11, .int .i64 (b : Nat)), (12, .int .i64 (p : Nat)), (13, .slice zx.1 (x.abs.pg (b : Nat) (p : Nat)).cells.length zx.2), (14, .slice zy.1 (y.abs.pg (b : Nat) (p : Nat)).cells.length zy.2), (15, .int .i64 (k : Nat))]) (fun _ => Sto w [own 5 1 zy.1 (y.abs.pg (b : Nat) (p : Nat)).cells.length zy.2 (nats .u8 (y.abs.pg (b : Nat) (p : Nat)).cells), own 5 1 zx.1 (x.abs.pg (b : Nat) (p : Nat)).cells.length zx.2 (nats .u8 (x.abs.pg (b : Nat) (p : Nat)).cells), chipA g y, chipA g2 xd]) (fun k => k ≤ 4) (fun k => 4 - k) 0 ⟨rfl, rfl, rfl, rfl, rfl, rfl, rfl, rfl, rfl, rfl, trivial⟩ (fun _ h => h) (Nat.zero_le _) ?_
              intro k hk4
              refine CW.seq ?_
              refine CW.seq ?_
              refine CW.reg [0, 1] rfl ?_
              refine s_mv 124 rfl rfl ?_
              refine s_lt 125 rfl rfl rfl rfl ?_
              refine SX.next ?_
              refine CW.test rfl (fun hc => ?_) (fun hc => ?_)
              · skip
                have hkl : k < 4 := by omega
                have hxk : k < (x.abs.pg (b : Nat) (p : Nat)).cells.length := by omega
                have hyk : k < (y.abs.pg (b : Nat) (p : Nat)).cells.length := by omega
                refine CW.skip ?_
                refine KN.code ?_
                refine CW.seq ?_
                refine CW.block ?_
                refine CW.seq ?_
                refine CW.regD (.st true 0 (.st true 1 (.st true 2 (.st true 3 (.st true 4 (.st true 5 (.st true 6 (.st true 7 (.st true 8 (.st true 9 (.st true 10 (.st true 11 (.st true 12 (.st true 13 (.st true 14 (.st true 15 (.st true 16 (.st true 17 (.st true 18 (.st true 19 (.st true 20 (.st true 21 (.st true 22 (.st true 23 (.st true 24 (.st true 25 (.st true 26 (.st true 27 (.st true 28 (.st true 29 (.st true 30 (.st true 31 (.st true 32 .done))))))))))))))))))))))))))))))))) (Sto w [own 5 1 zy.1 (y.abs.pg (b : Nat) (p : Nat)).cells.length zy.2 (nats .u8 (y.abs.pg (b : Nat) (p : Nat)).cells), own 5 1 zx.1 (x.abs.pg (b : Nat) (p : Nat)).cells.length zx.2 (nats .u8 (x.abs.pg (b : Nat) (p : Nat)).cells), chipA g y, chipA g2 xd]) mixed (by kernel_rfl) (fun _ h => h.drew) (fun _ h => h) ?_
                refine s_mv 128 rfl rfl ?_
                refine s_mv 129 rfl rfl ?_
                refine s_iaV 130 i (fun w hw => hw.old ht.rows) rfl rfl rfl rfl hil ?_
                refine s_fa 131 rfl rfl ?_
                refine s_ldS 132 rfl rfl (v := .int .i64 (gT l1 i).kind) (fun _ hw => (hw.old ht.rows).rowAt toRow_len hg (by omega) 0 _ rfl) ?_
                refine s_ne 133 rfl rfl rfl (r := decide ((gT l1 i).kind ≠ 3)) (decide_eq_decide.2 Iff.rfl) ?_
                refine s_mv 134 rfl rfl ?_
                refine SX.bool 134 rfl (fun hb => ?_) (fun hb => ?_)
                · skip
                  have hk3 := of_decide_eq_true hb
                  refine s_mv 135 rfl rfl ?_
                  refine s_mv 136 rfl rfl ?_
                  refine s_iaV 137 k (fun w hw => (hw.has (i := 0) rfl).of_own) rfl rfl rfl rfl hyk ?_
                  refine s_ldVS 138 (fun w hw => (hw.has (i := 0) rfl).of_own) rfl rfl (by rw [Nat.mul_one]; exact natsAt8 hyk) (by omega) ?_
                  refine s_mv 139 rfl rfl ?_
                  refine s_mv 140 rfl rfl ?_
                  refine s_iaV 141 k (fun w hw => (hw.has (i := 1) rfl).of_own) rfl rfl rfl rfl hxk ?_
                  refine s_ldVS 142 (fun w hw => (hw.has (i := 1) rfl).of_own) rfl rfl (by rw [Nat.mul_one]; exact natsAt8 hxk) (by omega) ?_
                  refine s_bit 143 rfl rfl rfl rfl (r := 0) (ibit_andNot_u8 (hfa hk3 k)) ?_
                  refine s_ne 144 rfl rfl rfl (decide_eq_false (fun h => h rfl)) ?_
                  refine s_pickT 145 rfl rfl rfl ?_
                  refine s_mv 146 rfl rfl ?_
                  refine s_mv 147 rfl rfl ?_
                  refine s_not 148 rfl rfl ?_
                  refine s_mv 149 rfl rfl ?_
                  refine SX.bool 149 rfl (fun hb => ?_) (fun hb => ?_)
                  · skip
                    have hoff : x.off = true := by simpa using hb
                    have hcc := hof hoff
                    refine s_mv 150 rfl rfl ?_
                    refine s_mv 151 rfl rfl ?_
                    refine s_iaV 152 k (fun w hw => (hw.has (i := 1) rfl).of_own) rfl rfl rfl rfl hxk ?_
                    refine s_ldVS 153 (fun w hw => (hw.has (i := 1) rfl).of_own) rfl rfl (by rw [Nat.mul_one]; exact natsAt8 hxk) (by omega) ?_
                    refine s_mv 154 rfl rfl ?_
                    refine s_mv 155 rfl rfl ?_
                    refine s_iaV 156 k (fun w hw => (hw.has (i := 0) rfl).of_own) rfl rfl rfl rfl hyk ?_
                    refine s_ldVS 157 (fun w hw => (hw.has (i := 0) rfl).of_own) rfl rfl (by rw [Nat.mul_one]; exact natsAt8 hyk) (by omega) ?_
                    refine s_ne 158 rfl rfl rfl (decide_eq_false (by rw [hcc]; exact fun h => h rfl)) ?_
                    refine s_pickT 159 rfl rfl rfl ?_
                    refine s_pickF 160 rfl rfl rfl ?_
                    refine SX.next ?_
                    refine CW.condF rfl ?_
                    refine CW.skip ?_
                    refine KN.blk ?_
                    refine KN.code ?_
                    refine CW.reg [0, 1, 2] rfl ?_
                    refine s_mv 126 rfl rfl ?_
                    refine s_add 127 rfl rfl rfl (r := ((k + 1 : Nat) : Int)) (w64 (by omega)) ?_
                    refine s_as 15 rfl rfl ?_
                    refine SX.end_ ?_
                    exact KN.back (k + 1) ⟨rfl, rfl, rfl, rfl, rfl, rfl, rfl, rfl, rfl, rfl, trivial⟩ (fun _ h => h) (by omega) (by omega)
                  · skip
                    skip
                    refine SX.skip rfl ?_
                    refine SX.skip rfl ?_
                    refine SX.skip rfl ?_
                    refine SX.skip rfl ?_
                    refine SX.skip rfl ?_
                    refine SX.skip rfl ?_
                    refine SX.skip rfl ?_
                    refine SX.skip rfl ?_
                    refine SX.skip rfl ?_
                    refine s_pickF 159 rfl rfl rfl ?_
                    refine s_pickF 160 rfl rfl rfl ?_
                    refine SX.next ?_
                    refine CW.condF rfl ?_
                    refine CW.skip ?_
                    refine KN.blk ?_
                    refine KN.code ?_
                    refine CW.reg [0, 1, 2] rfl ?_
                    refine s_mv 126 rfl rfl ?_
                    refine s_add 127 rfl rfl rfl (r := ((k + 1 : Nat) : Int)) (w64 (by omega)) ?_
                    refine s_as 15 rfl rfl ?_
                    refine SX.end_ ?_
                    exact KN.back (k + 1) ⟨rfl, rfl, rfl, rfl, rfl, rfl, rfl, rfl, rfl, rfl, trivial⟩ (fun _ h => h) (by omega) (by omega)
                · skip
                  skip
                  refine SX.skip rfl ?_
                  refine SX.skip rfl ?_
                  refine SX.skip rfl ?_
                  refine SX.skip rfl ?_
                  refine SX.skip rfl ?_
                  refine SX.skip rfl ?_
                  refine SX.skip rfl ?_
                  refine SX.skip rfl ?_
                  refine SX.skip rfl ?_
                  refine SX.skip rfl ?_
                  refine s_pickF 145 rfl rfl rfl ?_
                  refine s_mv 146 rfl rfl ?_
                  refine s_mv 147 rfl rfl ?_
                  refine s_not 148 rfl rfl ?_
                  refine s_mv 149 rfl rfl ?_
                  refine SX.bool 149 rfl (fun hb => ?_) (fun hb => ?_)
                  · skip
                    have hoff : x.off = true := by simpa using hb
                    have hcc := hof hoff
                    refine s_mv 150 rfl rfl ?_
                    refine s_mv 151 rfl rfl ?_
                    refine s_iaV 152 k (fun w hw => (hw.has (i := 1) rfl).of_own) rfl rfl rfl rfl hxk ?_
                    refine s_ldVS 153 (fun w hw => (hw.has (i := 1) rfl).of_own) rfl rfl (by rw [Nat.mul_one]; exact natsAt8 hxk) (by omega) ?_
                    refine s_mv 154 rfl rfl ?_
                    refine s_mv 155 rfl rfl ?_
                    refine s_iaV 156 k (fun w hw => (hw.has (i := 0) rfl).of_own) rfl rfl rfl rfl hyk ?_
                    refine s_ldVS 157 (fun w hw => (hw.has (i := 0) rfl).of_own) rfl rfl (by rw [Nat.mul_one]; exact natsAt8 hyk) (by omega) ?_
                    refine s_ne 158 rfl rfl rfl (decide_eq_false (by rw [hcc]; exact fun h => h rfl)) ?_
                    refine s_pickT 159 rfl rfl rfl ?_
                    refine s_pickF 160 rfl rfl rfl ?_
                    refine SX.next ?_
                    refine CW.condF rfl ?_
                    refine CW.skip ?_
                    refine KN.blk ?_
                    refine KN.code ?_
                    refine CW.reg [0, 1, 2] rfl ?_
                    refine s_mv 126 rfl rfl ?_
                    refine s_add 127 rfl rfl rfl (r := ((k + 1 : Nat) : Int)) (w64 (by omega)) ?_
                    refine s_as 15 rfl rfl ?_
                    refine SX.end_ ?_
                    exact KN.back (k + 1) ⟨rfl, rfl, rfl, rfl, rfl, rfl, rfl, rfl, rfl, rfl, trivial⟩ (fun _ h => h) (by omega) (by omega)
                  · skip
                    skip
                    refine SX.skip rfl ?_
                    refine SX.skip rfl ?_
                    refine SX.skip rfl ?_
                    refine SX.skip rfl ?_
                    refine SX.skip rfl ?_
                    refine SX.skip rfl ?_
                    refine SX.skip rfl ?_
                    refine SX.skip rfl ?_
                    refine SX.skip rfl ?_
                    refine s_pickF 159 rfl rfl rfl ?_
                    refine s_pickF 160 rfl rfl rfl ?_
                    refine SX.next ?_
                    refine CW.condF rfl ?_
                    refine CW.skip ?_
                    refine KN.blk ?_
                    refine KN.code ?_
                    refine CW.reg [0, 1, 2] rfl ?_
                    refine s_mv 126 rfl rfl ?_
                    refine s_add 127 rfl rfl rfl (r := ((k + 1 : Nat) : Int)) (w64 (by omega)) ?_
                    refine s_as 15 rfl rfl ?_
                    refine SX.end_ ?_
                    exact KN.back (k + 1) ⟨rfl, rfl, rfl, rfl, rfl, rfl, rfl, rfl, rfl, rfl, trivial⟩ (fun _ h => h) (by omega) (by omega)
              · skip
                refine CW.exit rfl ?_
                refine KN.blk ?_
                refine KN.code ?_
                refine CW.reg [0, 1, 2] rfl ?_
                refine s_mv 104 rfl rfl ?_
                refine s_add 105 rfl rfl rfl (r := ((p + 1 : Nat) : Int)) (w64 (by omega)) ?_
                refine s_as 12 rfl rfl ?_
                refine SX.end_ ?_
                exact KN.back (p + 1) ⟨rfl, rfl, rfl, rfl, rfl, rfl, rfl, trivial⟩ (fun _ h => h.pick [2, 2] rfl) (by omega) (by omega)
            · skip
              refine CW.exit rfl ?_
              refine KN.blk ?_
              refine KN.code ?_
              refine CW.reg [0, 1, 2] rfl ?_
              refine s_mv 100 rfl rfl ?_
              refine s_add 101 rfl rfl rfl (r := ((b + 1 : Nat) : Int)) (w64 (by omega)) ?_
              refine s_as 11 rfl rfl ?_
              refine SX.end_ ?_
              exact KN.back (b + 1) ⟨rfl, rfl, rfl, rfl, rfl, rfl, trivial⟩ (fun _ h => h) (by omega) (by omega)
          · skip
            refine CW.exit rfl ?_
            refine KN.blk ?_
            refine KN.code ?_
            refine CW.reg [0, 1, 2] rfl ?_
            refine s_mv 45 rfl rfl ?_
            refine s_add 46 rfl rfl rfl (r := ((i + 1 : Nat) : Int)) (w64 (by omega)) ?_
            refine s_as 8 rfl rfl ?_
            refine SX.end_ ?_
            exact KN.back (i + 1, y) ⟨rfl, rfl, rfl, trivial⟩ (fun _ h => h.pick [0] rfl) ⟨by simp only; omega, hyI, hyw⟩ (by simp only; omega)
      · skip
        refine CW.exit rfl ?_
        refine KN.code ?_
        refine CW.seq ?_
        refine CW.reg [0] rfl ?_
        refine s_as 4 rfl rfl ?_
        refine SX.next ?_
        refine CW.ret ?_
        exact KN.ret (rs := [.tmp 4]) Tryd.results6 rfl (fun w hw => ⟨rfl, hw.nothing⟩)
end Go.Proofs.YtcapijdokbkgaaaDoor
end
