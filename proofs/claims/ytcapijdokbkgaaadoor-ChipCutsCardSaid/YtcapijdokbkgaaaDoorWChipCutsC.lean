/- The walk of the statement ChipCuts, text 3. Conditions: each theorem tells its own. -/
import Derived.Test.YtcapijdokbkgaaaDoorWChipCutsB
section
/- The statement ChipCuts, walked. Conditions: the errors' variables. -/
namespace Go.Proofs.YtcapijdokbkgaaaDoor
open Go Go.Sx Go.Fm
set_option maxRecDepth 100000

set_option maxHeartbeats 1600000 in

theorem cuts_prog (A0 : Option Addr) (n0 c0 : Nat) (p0 : List Nat) (a1 : Int) (e : Nat → Addr) (w : World) (ha0 : Has (sl 1 A0 n0 (nats .u8 p0)) w) (hp0 : ∀ x ∈ p0, x < 256) (hn0 : n0 ≤ 9223372036854775807) (_hcp0 : n0 ≤ c0) (heD : Er e w 0) (heO : Er e w 1) (heS : Er e w 2) (heF : Er e w 5) (heM : Er e w 6) : Spec1 Tryd.prog 5 [.slice A0 n0 c0, .int .i64 a1, .bool false] w (.bool true) := by
  have hla0 := nats_len ha0
  subst hla0
  refine spec_of Tryd.func5 rfl Tryd.ntmps5 rfl ?_
  refine CW.seq ?_
  refine CW.reg [0] rfl ?_
  refine s_as 6 rfl rfl ?_
  refine SX.next ?_
  refine CW.seq ?_
  refine CW.reg [0, 1] rfl ?_
  refine s_call1 21 rfl rfl rfl rfl (fun w hw => first14_spec e w (hw.er heD) (hw.er heO) (hw.er heS) (hw.er heF) (hw.er heM)) (fun _ _ => trivial) ?_
  refine s_as 7 rfl rfl ?_
  refine SX.next ?_
  refine CW.seq ?_
  refine CW.seq ?_
  refine CW.reg [0, 1, 2, 3, 4, 5, 6] rfl ?_
  refine s_mv 22 rfl rfl ?_
  refine s_len 23 rfl rfl ?_
  refine s_ne 24 rfl rfl rfl rfl ?_
  refine s_mv 25 rfl rfl ?_
  refine SX.bool 25 rfl (fun hb => ?_) (fun hb => ?_)
  · skip
    skip
    refine SX.skip rfl ?_
    refine SX.skip rfl ?_
    refine s_pickT 28 rfl rfl rfl ?_
    refine SX.next ?_
    refine CW.condT rfl ?_
    refine CW.seq ?_
    refine CW.reg [0, 1] rfl ?_
    refine s_mv 29 rfl rfl ?_
    refine s_as 6 rfl rfl ?_
    refine SX.next ?_
    refine CW.ret ?_
    exact KN.ret (rs := [.tmp 6]) Tryd.results5 rfl (fun w hw => ⟨rfl, hw.nothing⟩)
  · skip
    have hl0 : p0.length = 6 := by have := of_decide_eq_false hb; omega
    refine s_mv 26 rfl rfl ?_
    refine s_not 27 rfl rfl ?_
    refine s_pickF 28 rfl rfl rfl ?_
    refine SX.next ?_
    refine CW.condF rfl ?_
    refine CW.skip ?_
    refine KN.code ?_
    refine CW.seq ?_
    obtain ⟨k, hk⟩ := Int.eq_ofNat_of_zero_le (Int.emod_nonneg a1 (b := 16) (by omega))
    have hk16 : k < 16 := by have := Int.emod_lt_of_pos a1 (b := 16) (by omega); omega
    have hand := (ibit_and_mask a1 (m := 4) (by omega) (s := 15) rfl).trans hk
    have hokk := C14s_ok ((k : Nat) : Int) hp0
    refine CW.reg [0, 1, 2] rfl ?_
    refine s_mv 30 rfl rfl ?_
    refine s_bit 31 rfl rfl rfl rfl (r := ((k : Nat) : Int)) hand ?_
    refine s_as 1 rfl rfl ?_
    refine SX.next ?_
    refine CW.seq ?_
    refine CW.reg [0, 1, 2, 3, 4, 5, 6, 7, 8] rfl ?_
    refine s_mv 33 rfl rfl ?_
    refine s_build 34 rfl rfl (cells := #[.int .i64 5, .int .i64 3, .int .i64 0, .int .i64 ((k : Nat) : Int), .slice none 0 0]) (by kernel_rfl) ?_
    refine s_bsl 35 rfl rfl (cells := #[.int .i64 5, .int .i64 3, .int .i64 0, .int .i64 ((k : Nat) : Int), .slice none 0 0]) (by kernel_rfl) rfl (fun _ _ => trivial) (fun g35 => ?_)
    refine s_call 36 rfl rfl rfl rfl (X := Nat × ChG) (v := fun z => two (.pointer (some ⟨z.1, 0, none⟩)) .nilIface) (pf := fun z => z.2.abs = C14s ((k : Nat) : Int) p0 0 ∧ z.2.watch = .nilFunc) (L' := fun z => [chipA z.1 z.2]) (fun w hw => cnew_ok 2 5 6 1 none 0 [] (some ⟨g35, 0, none⟩) 1 [(⟨5, 3, 0, ((k : Nat) : Int), none, 0, []⟩ : FtG)] e w (by decide) (by decide) (by decide) (by decide) (Has.sl_nil w 1 none) (by decide) (fun m hm => absurd hm List.not_mem_nil) (hw.er heM) ⟨Has.cong ((hw.has (i := 0) rfl).blk_sl (m := 1) rfl) rfl, fun f hf => by
      obtain rfl : f = (⟨5, 3, 0, ((k : Nat) : Int), none, 0, []⟩ : FtG) := by simpa using hf
      exact Has.sl_nil w 1 none, fun f hf => by
      obtain rfl : f = (⟨5, 3, 0, ((k : Nat) : Int), none, 0, []⟩ : FtG) := by simpa using hf
      exact Nat.zero_le _⟩ (by simp)) (fun _ _ => trivial) (fun z hz => ?_)
    obtain ⟨g, x0⟩ := z
    refine s_mv 32 rfl rfl ?_
    refine s_ext 37 rfl rfl rfl ?_
    refine s_ext 38 rfl rfl rfl ?_
    refine s_as 8 rfl rfl ?_
    refine s_as 9 rfl rfl ?_
    refine SX.next ?_
    refine CW.seq ?_
    refine CW.seq ?_
    refine CW.reg [0, 1, 2, 3, 4, 5] rfl ?_
    refine s_mv 39 rfl rfl ?_
    refine s_eqPN 40 rfl rfl ?_
    refine s_mv 41 rfl rfl ?_
    refine s_mv 42 rfl rfl ?_
    refine s_neNN 43 rfl rfl ?_
    refine s_pickF 44 rfl rfl rfl ?_
    refine SX.next ?_
    refine CW.condF rfl ?_
    refine CW.skip ?_
    refine KN.code ?_
    refine CW.seq ?_
    refine CW.seq ?_
    refine CW.reg [0] rfl ?_
    refine s_as 10 rfl rfl ?_
    refine SX.next ?_
    refine CW.block ?_
    refine CW.loop (G := Nat × ChG) (fun q => [(0, .slice A0 p0.length c0), (1, .int .i64 ((k : Nat) : Int)), (2, .bool false), (8, .pointer (some ⟨g, 0, none⟩)), (10, .int .i64 (q.1 : Nat))]) (fun q => Sto w [chipA g q.2]) (fun q => q.1 ≤ 4 ∧ q.2.abs = C14s ((k : Nat) : Int) p0 q.1 ∧ q.2.watch = .nilFunc) (fun q => 4 - q.1) (0, x0) ⟨rfl, rfl, rfl, rfl, rfl, trivial⟩ (fun _ h => h.pick [0] rfl) ⟨Nat.zero_le _, hz⟩ ?_
    rintro ⟨p, x⟩ ⟨hpt, hx⟩
    simp only at hpt hx
    dsimp only
    refine CW.seq ?_
    refine CW.seq ?_
    refine CW.reg [0, 1] rfl ?_
    refine s_mv 45 rfl rfl ?_
    refine s_lt 46 rfl rfl rfl (decide_eq_true (by omega)) ?_
    refine SX.next ?_
    refine CW.condT rfl ?_
    refine CW.skip ?_
    refine KN.code ?_
    refine CW.seq ?_
    refine CW.block ?_
    refine CW.seq ?_
    refine CW.seq ?_
    refine CW.reg [0, 1, 2, 3, 4, 5] rfl ?_
    refine s_mv 49 rfl rfl ?_
    refine s_eq 50 rfl rfl rfl rfl ?_
    refine s_mv 51 rfl rfl ?_
    refine SX.bool 51 rfl (fun hb => ?_) (fun hb => ?_)
    · skip
      obtain rfl : p = 4 := by have := of_decide_eq_true hb; omega
      refine s_mv 52 rfl rfl ?_
      refine s_not 53 rfl rfl ?_
      refine s_pickT 54 rfl rfl rfl ?_
      refine SX.next ?_
      refine CW.condT rfl ?_
      refine CW.exit rfl ?_
      refine KN.code ?_
      refine CW.seq ?_
      refine CW.seq ?_
      refine CW.reg [0, 1] rfl ?_
      refine s_mv 61 rfl rfl ?_
      refine s_not 62 rfl rfl ?_
      refine SX.next ?_
      refine CW.condT rfl ?_
      refine CW.seq ?_
      refine CW.reg [0, 1, 2, 3, 4, 5, 6, 7] rfl ?_
      refine s_mv 64 rfl rfl ?_
      refine s_build 65 rfl rfl (cells := #[.int .i64 0, .int .i64 0]) (by kernel_rfl) ?_
      refine s_callP 66 [0] (M := [chipA g x]) (R := []) (X := (Option Addr × Nat) × ChG) (v := fun z => two (.slice z.1.1 ((C14s ((k : Nat) : Int) p0 4).rd 0 0 0).2.1.length z.1.2) .nilIface) (pf := fun z => z.2.abs = C14t ((k : Nat) : Int) p0 ∧ z.2.watch = .nilFunc) (M' := fun z => [own 5 1 z.1.1 ((C14s ((k : Nat) : Int) p0 4).rd 0 0 0).2.1.length z.1.2 (nats .u8 ((C14s ((k : Nat) : Int) p0 4).rd 0 0 0).2.1), chipA g z.2]) rfl rfl rfl rfl rfl (fun F' w' hR hM => by have := read_spec F' g x (by rw [hx.1]; exact hokk 4) 0 0 0 e w' hx.2 (fun w2 hf => (hR w2 hf).er heD) (fun w2 hf => (hR w2 hf).er heO) (fun w2 hf => (hR w2 hf).er heS) hM; rw [hx.1, cuts_2 ((k : Nat) : Int) hl0, hx.2] at this; exact this) (fun _ _ _ => trivial) (fun x2 hx2 => ?_)
      refine s_mv 63 rfl rfl ?_
      refine s_ext 67 rfl rfl rfl ?_
      refine s_ext 68 rfl rfl rfl ?_
      refine s_as 11 rfl rfl ?_
      refine s_as 12 rfl rfl ?_
      refine SX.next ?_
      refine CW.seq ?_
      refine CW.reg [0, 1, 2, 3, 4] rfl ?_
      refine s_mv 69 rfl rfl ?_
      refine s_build 70 rfl rfl (cells := #[.int .i64 0, .int .i64 4]) (by kernel_rfl) ?_
      obtain ⟨k1, k2, k3, k4⟩ := cuts_3 ((k : Nat) : Int) hl0
      have hcl := cutsC_len ((k : Nat) : Int) hl0
      refine s_mv 71 rfl rfl ?_
      refine s_callP 72 [1, 0] (M := [chipA g x2.2]) (R := [own 5 1 x2.1.1 ((C14s ((k : Nat) : Int) p0 4).rd 0 0 0).2.1.length x2.1.2 (nats .u8 ((C14s ((k : Nat) : Int) p0 4).rd 0 0 0).2.1)]) (X := ChG) (v := fun z => errV e 0) (pf := fun z => z.abs = (C14u ((k : Nat) : Int) p0) ∧ z.watch = .nilFunc) (M' := fun z => [chipA g z]) rfl rfl rfl rfl rfl (fun F' w' hR hM => by have := program_spec F' g x2.2 (by rw [hx2.1]; exact (rd_okp (hokk 4) 0 0 0)) 0 4 A0 c0 p0 e w' (fun w2 hf => (hR w2 hf).er heD) (fun w2 hf => (hR w2 hf).er heO) (fun w2 hf => (hR w2 hf).er heS) (fun w2 hf => (hR w2 hf).er heF) (fun w2 hf => (hR w2 hf).old ha0) hp0 hM; rw [hx2.1, k1, hx2.2] at this; exact this) (fun _ _ _ => trivial) (fun x3 hx3 => ?_)
      refine s_as 13 rfl rfl ?_
      refine SX.next ?_
      refine CW.seq ?_
      refine CW.reg [0, 1, 2, 3] rfl ?_
      refine s_mv 73 rfl rfl ?_
      refine s_build 74 rfl rfl (cells := #[.int .i64 0, .int .i64 4]) (by kernel_rfl) ?_
      refine s_call 75 rfl rfl rfl rfl (X := Option Addr × Nat) (v := fun z => .slice z.1 ((cutsC ((k : Nat) : Int) p0) : List Nat).length z.2) (pf := fun z => ((cutsC ((k : Nat) : Int) p0) : List Nat).length ≤ z.2) (L' := fun z => [own 5 1 z.1 ((cutsC ((k : Nat) : Int) p0) : List Nat).length z.2 (nats .u8 (cutsC ((k : Nat) : Int) p0))]) (fun w hw => by have := cells_spec g x3 (by rw [hx3.1]; exact (pr_okp (rd_okp (hokk 4) 0 0 0) 0 4 hp0)) 0 4 w (hw.has (i := 0) rfl); rw [hx3.1, cuts_4 ((k : Nat) : Int) hl0] at this; exact this) (fun _ _ => trivial) (fun z hz => ?_)
      refine s_as 14 rfl rfl ?_
      refine SX.next ?_
      refine CW.seq ?_
      refine CW.seq ?_
      refine CW.reg [0] rfl ?_
      refine s_as 15 rfl rfl ?_
      refine SX.next ?_
      refine CW.block ?_
      refine CW.loop (G := Nat) (fun i => [(0, .slice A0 p0.length c0), (1, .int .i64 ((k : Nat) : Int)), (8, .pointer (some ⟨g, 0, none⟩)), (12, .nilIface), (13, errV e 0), (14, .slice z.1 (cutsC ((k : Nat) : Int) p0).length z.2), (15, .int .i64 (i : Nat))]) (fun _ => Sto w [own 5 1 z.1 ((cutsC ((k : Nat) : Int) p0) : List Nat).length z.2 (nats .u8 (cutsC ((k : Nat) : Int) p0)), chipA g x3, own 5 1 x2.1.1 ((C14s ((k : Nat) : Int) p0 4).rd 0 0 0).2.1.length x2.1.2 (nats .u8 ((C14s ((k : Nat) : Int) p0 4).rd 0 0 0).2.1)]) (fun i => i ≤ 6) (fun i => 6 - i) 0 ⟨rfl, rfl, rfl, rfl, rfl, rfl, rfl, trivial⟩ (fun _ h => h) (Nat.zero_le _) ?_
      intro i hi
      refine CW.seq ?_
      refine CW.seq ?_
      refine CW.reg [0, 1] rfl ?_
      refine s_mv 76 rfl rfl ?_
      refine s_lt 77 rfl rfl rfl rfl ?_
      refine SX.next ?_
      refine CW.test rfl (fun hc => ?_) (fun hc => ?_)
      · skip
        have hil : i < 6 := by omega
        have hat := cutsC_at (k := k) hl0 hp0 hil
        refine CW.skip ?_
        refine KN.code ?_
        refine CW.seq ?_
        refine CW.block ?_
        refine CW.seq ?_
        refine CW.reg [0] rfl ?_
        refine s_as 16 rfl rfl ?_
        refine SX.next ?_
        refine CW.cut (G := Unit) (fun _ => [(0, .slice A0 p0.length c0), (1, .int .i64 ((k : Nat) : Int)), (8, .pointer (some ⟨g, 0, none⟩)), (12, .nilIface), (13, errV e 0), (14, .slice z.1 (cutsC ((k : Nat) : Int) p0).length z.2), (15, .int .i64 (i : Nat)), (16, .int .u8 ((cutsC ((k : Nat) : Int) p0).getD i 0 : Nat))]) (fun _ => Sto w [own 5 1 z.1 ((cutsC ((k : Nat) : Int) p0) : List Nat).length z.2 (nats .u8 (cutsC ((k : Nat) : Int) p0)), chipA g x3, own 5 1 x2.1.1 ((C14s ((k : Nat) : Int) p0 4).rd 0 0 0).2.1.length x2.1.2 (nats .u8 ((C14s ((k : Nat) : Int) p0 4).rd 0 0 0).2.1)]) (fun _ => True) ?_ ?_
        · skip
          refine CW.seq ?_
          refine CW.reg [0, 1, 2] rfl ?_
          refine s_mv 80 rfl rfl ?_
          refine s_mv 81 rfl rfl ?_
          refine s_lt 82 rfl rfl rfl rfl ?_
          refine SX.next ?_
          refine CW.test rfl (fun h5 => ?_) (fun h5 => ?_)
          · skip
            refine CW.reg [0, 1, 2, 3, 4] rfl ?_
            refine s_mv 83 rfl rfl ?_
            refine s_mv 84 rfl rfl ?_
            refine s_iaV 85 i (fun w hw => hw.old ha0) rfl rfl rfl rfl (by omega) ?_
            refine s_ldV 86 (fun w hw => hw.old ha0) rfl rfl (by rw [Nat.mul_one]; exact natsAt8 (by omega)) (by omega) ?_
            refine s_as 16 rfl rfl ?_
            refine SX.end_ ?_
            exact KN.join () ⟨rfl, rfl, rfl, rfl, rfl, rfl, rfl, by rw [hat, if_pos (by omega)]; rfl, trivial⟩ (fun _ h => h) trivial
          · skip
            refine CW.skip ?_
            exact KN.join () ⟨rfl, rfl, rfl, rfl, rfl, rfl, rfl, by rw [hat, if_neg (by omega)]; rfl, trivial⟩ (fun _ h => h) trivial
        · skip
          intro _ _
          refine CW.seq ?_
          refine CW.reg [0, 1, 2, 3, 4, 5, 6, 7, 8, 9, 10] rfl ?_
          refine s_mv 87 rfl rfl ?_
          refine s_len 88 rfl rfl ?_
          refine s_ne 89 rfl rfl rfl (decide_eq_false (by omega)) ?_
          refine s_mv 90 rfl rfl ?_
          refine s_mv 91 rfl rfl ?_
          refine s_mv 92 rfl rfl ?_
          refine s_iaO 93 0 i rfl rfl rfl rfl rfl (by omega) ?_
          refine s_ldO 94 0 rfl rfl rfl (natsAt8 (by omega)) ?_
          refine s_mv 95 rfl rfl ?_
          refine s_ne 96 rfl rfl rfl (decide_eq_false (fun h => h rfl)) ?_
          refine s_pickF 97 rfl rfl rfl ?_
          refine SX.next ?_
          refine CW.condF rfl ?_
          refine CW.skip ?_
          refine KN.blk ?_
          refine KN.code ?_
          refine CW.reg [0, 1, 2] rfl ?_
          refine s_mv 78 rfl rfl ?_
          refine s_add 79 rfl rfl rfl (r := ((i + 1 : Nat) : Int)) (w64 (by omega)) ?_
          refine s_as 15 rfl rfl ?_
          refine SX.end_ ?_
          exact KN.back (i + 1) ⟨rfl, rfl, rfl, rfl, rfl, rfl, rfl, trivial⟩ (fun _ h => h) (by omega) (by omega)
      · skip
        refine CW.exit rfl ?_
        refine KN.code ?_
        refine CW.seq ?_
        refine CW.reg [0, 1, 2, 3, 4, 5, 6, 7, 8, 9, 10, 11, 12, 13, 14, 15, 16, 17, 18, 19, 20, 21, 22] rfl ?_
        refine s_mv 98 rfl rfl ?_
        refine s_eqNN 99 rfl rfl ?_
        refine s_mv 100 rfl rfl ?_
        refine s_mv 101 rfl rfl ?_
        refine s_ld 102 rfl rfl (fun _ hw => hw.cell heD) ?_
        refine s_eqE 103 rfl rfl rfl ?_
        refine s_pickT 104 rfl rfl rfl ?_
        refine s_mv 105 rfl rfl ?_
        refine s_mv 106 rfl rfl ?_
        refine s_call1 107 rfl rfl rfl rfl (v := .bool false) (fun w hw => by have := on_spec g x3 w (hw.has (i := 1) rfl); rw [show x3.off = (C14u ((k : Nat) : Int) p0).off from congrArg ChS.off hx3.1, k2] at this; exact this) (fun _ _ => trivial) ?_
        refine s_not 108 rfl rfl ?_
        refine s_pickT 109 rfl rfl rfl ?_
        refine s_mv 110 rfl rfl ?_
        refine s_mv 111 rfl rfl ?_
        refine s_build 112 rfl rfl (cells := #[.int .i64 0, .int .i64 4]) (by kernel_rfl) ?_
        refine s_call1 113 rfl rfl rfl rfl (v := .bool true) (fun w hw => by have := used_spec g x3 (by rw [hx3.1]; exact (pr_okp (rd_okp (hokk 4) 0 0 0) 0 4 hp0)) 0 4 w (hw.has (i := 1) rfl); rw [hx3.1, k4] at this; exact this) (fun _ _ => trivial) ?_
        refine s_pickT 114 rfl rfl rfl ?_
        refine s_mv 115 rfl rfl ?_
        refine s_mv 116 rfl rfl ?_
        refine s_call1 117 rfl rfl rfl rfl (v := .int .i64 0) (fun w hw => by have := broken_spec g x3 w (hw.has (i := 1) rfl); rw [show x3.broken = (C14u ((k : Nat) : Int) p0).broken from congrArg ChS.broken hx3.1, k3] at this; exact this) (fun _ _ => trivial) ?_
        refine s_eq 118 rfl rfl rfl (decide_eq_true rfl) ?_
        refine s_pickT 119 rfl rfl rfl ?_
        refine s_as 6 rfl rfl ?_
        refine SX.next ?_
        refine CW.ret ?_
        exact KN.ret (rs := [.tmp 6]) Tryd.results5 rfl (fun w hw => ⟨rfl, hw.nothing⟩)
    · skip
      have hp5 : p < 5 := by omega
      have hp4 : p < 4 := by have := of_decide_eq_false hb; omega
      refine SX.skip rfl ?_
      refine SX.skip rfl ?_
      refine s_pickF 54 rfl rfl rfl ?_
      refine SX.next ?_
      refine CW.condF rfl ?_
      refine CW.skip ?_
      refine KN.code ?_
      refine CW.seq ?_
      refine CW.reg [0, 1, 2, 3, 4, 5] rfl ?_
      refine s_mv 55 rfl rfl ?_
      refine s_mv 56 rfl rfl ?_
      refine s_build 57 rfl rfl (cells := #[.int .i64 0, .int .i64 ((p : Nat) : Int)]) (by kernel_rfl) ?_
      refine s_mv 58 rfl rfl ?_
      refine s_callP 59 [0] (M := [chipA g x]) (R := []) (X := ChG) (v := fun z => .nilIface) (pf := fun z => z.abs = (C14s ((k : Nat) : Int) p0 (p + 1)) ∧ z.watch = .nilFunc) (M' := fun z => [chipA g z]) rfl rfl rfl rfl rfl (fun F' w' hR hM => by have := program_spec F' g x (by rw [hx.1]; exact (hokk p)) 0 ((p : Nat) : Int) A0 c0 p0 e w' (fun w2 hf => (hR w2 hf).er heD) (fun w2 hf => (hR w2 hf).er heO) (fun w2 hf => (hR w2 hf).er heS) (fun w2 hf => (hR w2 hf).er heF) (fun w2 hf => (hR w2 hf).old ha0) hp0 hM; rw [hx.1, cuts_1 ((k : Nat) : Int) hl0 hp5, hx.2] at this; exact this) (fun _ _ _ => trivial) (fun x1 hx1 => ?_)
      refine s_neNN 60 rfl rfl ?_
      refine SX.next ?_
      refine CW.condF rfl ?_
      refine CW.skip ?_
      refine KN.blk ?_
      refine KN.code ?_
      refine CW.reg [0, 1, 2] rfl ?_
      refine s_mv 47 rfl rfl ?_
      refine s_add 48 rfl rfl rfl (r := ((p + 1 : Nat) : Int)) (w64 (by omega)) ?_
      refine s_as 10 rfl rfl ?_
      refine SX.end_ ?_
      exact KN.back (p + 1, x1) ⟨rfl, rfl, rfl, rfl, rfl, trivial⟩ (fun _ h => h) ⟨by simp only; omega, hx1⟩ (by simp only; omega)

set_option maxHeartbeats 1600000 in

theorem cuts_erase (A0 : Option Addr) (n0 c0 : Nat) (p0 : List Nat) (a1 : Int) (e : Nat → Addr) (w : World) (ha0 : Has (sl 1 A0 n0 (nats .u8 p0)) w) (hp0 : ∀ x ∈ p0, x < 256) (hn0 : n0 ≤ 9223372036854775807) (_hcp0 : n0 ≤ c0) (heD : Er e w 0) (heO : Er e w 1) (heS : Er e w 2) (heF : Er e w 5) (heM : Er e w 6) : Spec1 Tryd.prog 5 [.slice A0 n0 c0, .int .i64 a1, .bool true] w (.bool true) := by
  have hla0 := nats_len ha0
  subst hla0
  refine spec_of Tryd.func5 rfl Tryd.ntmps5 rfl ?_
  refine CW.seq ?_
  refine CW.reg [0] rfl ?_
  refine s_as 6 rfl rfl ?_
  refine SX.next ?_
  refine CW.seq ?_
  refine CW.reg [0, 1] rfl ?_
  refine s_call1 21 rfl rfl rfl rfl (fun w hw => first14_spec e w (hw.er heD) (hw.er heO) (hw.er heS) (hw.er heF) (hw.er heM)) (fun _ _ => trivial) ?_
  refine s_as 7 rfl rfl ?_
  refine SX.next ?_
  refine CW.seq ?_
  refine CW.seq ?_
  refine CW.reg [0, 1, 2, 3, 4, 5, 6] rfl ?_
  refine s_mv 22 rfl rfl ?_
  refine s_len 23 rfl rfl ?_
  refine s_ne 24 rfl rfl rfl rfl ?_
  refine s_mv 25 rfl rfl ?_
  refine SX.bool 25 rfl (fun hb => ?_) (fun hb => ?_)
  · skip
    skip
    refine SX.skip rfl ?_
    refine SX.skip rfl ?_
    refine s_pickT 28 rfl rfl rfl ?_
    refine SX.next ?_
    refine CW.condT rfl ?_
    refine CW.seq ?_
    refine CW.reg [0, 1] rfl ?_
    refine s_mv 29 rfl rfl ?_
    refine s_as 6 rfl rfl ?_
    refine SX.next ?_
    refine CW.ret ?_
    exact KN.ret (rs := [.tmp 6]) Tryd.results5 rfl (fun w hw => ⟨rfl, hw.nothing⟩)
  · skip
    have hl0 : p0.length = 6 := by have := of_decide_eq_false hb; omega
    refine s_mv 26 rfl rfl ?_
    refine s_not 27 rfl rfl ?_
    refine s_pickF 28 rfl rfl rfl ?_
    refine SX.next ?_
    refine CW.condF rfl ?_
    refine CW.skip ?_
    refine KN.code ?_
    refine CW.seq ?_
    obtain ⟨k, hk⟩ := Int.eq_ofNat_of_zero_le (Int.emod_nonneg a1 (b := 16) (by omega))
    have hk16 : k < 16 := by have := Int.emod_lt_of_pos a1 (b := 16) (by omega); omega
    have hand := (ibit_and_mask a1 (m := 4) (by omega) (s := 15) rfl).trans hk
    have hokk := C14s_ok ((k : Nat) : Int) hp0
    refine CW.reg [0, 1, 2] rfl ?_
    refine s_mv 30 rfl rfl ?_
    refine s_bit 31 rfl rfl rfl rfl (r := ((k : Nat) : Int)) hand ?_
    refine s_as 1 rfl rfl ?_
    refine SX.next ?_
    refine CW.seq ?_
    refine CW.reg [0, 1, 2, 3, 4, 5, 6, 7, 8] rfl ?_
    refine s_mv 33 rfl rfl ?_
    refine s_build 34 rfl rfl (cells := #[.int .i64 5, .int .i64 3, .int .i64 0, .int .i64 ((k : Nat) : Int), .slice none 0 0]) (by kernel_rfl) ?_
    refine s_bsl 35 rfl rfl (cells := #[.int .i64 5, .int .i64 3, .int .i64 0, .int .i64 ((k : Nat) : Int), .slice none 0 0]) (by kernel_rfl) rfl (fun _ _ => trivial) (fun g35 => ?_)
    refine s_call 36 rfl rfl rfl rfl (X := Nat × ChG) (v := fun z => two (.pointer (some ⟨z.1, 0, none⟩)) .nilIface) (pf := fun z => z.2.abs = C14s ((k : Nat) : Int) p0 0 ∧ z.2.watch = .nilFunc) (L' := fun z => [chipA z.1 z.2]) (fun w hw => cnew_ok 2 5 6 1 none 0 [] (some ⟨g35, 0, none⟩) 1 [(⟨5, 3, 0, ((k : Nat) : Int), none, 0, []⟩ : FtG)] e w (by decide) (by decide) (by decide) (by decide) (Has.sl_nil w 1 none) (by decide) (fun m hm => absurd hm List.not_mem_nil) (hw.er heM) ⟨Has.cong ((hw.has (i := 0) rfl).blk_sl (m := 1) rfl) rfl, fun f hf => by
      obtain rfl : f = (⟨5, 3, 0, ((k : Nat) : Int), none, 0, []⟩ : FtG) := by simpa using hf
      exact Has.sl_nil w 1 none, fun f hf => by
      obtain rfl : f = (⟨5, 3, 0, ((k : Nat) : Int), none, 0, []⟩ : FtG) := by simpa using hf
      exact Nat.zero_le _⟩ (by simp)) (fun _ _ => trivial) (fun z hz => ?_)
    obtain ⟨g, x0⟩ := z
    refine s_mv 32 rfl rfl ?_
    refine s_ext 37 rfl rfl rfl ?_
    refine s_ext 38 rfl rfl rfl ?_
    refine s_as 8 rfl rfl ?_
    refine s_as 9 rfl rfl ?_
    refine SX.next ?_
    refine CW.seq ?_
    refine CW.seq ?_
    refine CW.reg [0, 1, 2, 3, 4, 5] rfl ?_
    refine s_mv 39 rfl rfl ?_
    refine s_eqPN 40 rfl rfl ?_
    refine s_mv 41 rfl rfl ?_
    refine s_mv 42 rfl rfl ?_
    refine s_neNN 43 rfl rfl ?_
    refine s_pickF 44 rfl rfl rfl ?_
    refine SX.next ?_
    refine CW.condF rfl ?_
    refine CW.skip ?_
    refine KN.code ?_
    refine CW.seq ?_
    refine CW.seq ?_
    refine CW.reg [0] rfl ?_
    refine s_as 10 rfl rfl ?_
    refine SX.next ?_
    refine CW.block ?_
    refine CW.loop (G := Nat × ChG) (fun q => [(0, .slice A0 p0.length c0), (1, .int .i64 ((k : Nat) : Int)), (2, .bool true), (8, .pointer (some ⟨g, 0, none⟩)), (10, .int .i64 (q.1 : Nat))]) (fun q => Sto w [chipA g q.2]) (fun q => q.1 ≤ 5 ∧ q.2.abs = C14s ((k : Nat) : Int) p0 q.1 ∧ q.2.watch = .nilFunc) (fun q => 5 - q.1) (0, x0) ⟨rfl, rfl, rfl, rfl, rfl, trivial⟩ (fun _ h => h.pick [0] rfl) ⟨Nat.zero_le _, hz⟩ ?_
    rintro ⟨p, x⟩ ⟨hpt, hx⟩
    simp only at hpt hx
    dsimp only
    refine CW.seq ?_
    refine CW.seq ?_
    refine CW.reg [0, 1] rfl ?_
    refine s_mv 45 rfl rfl ?_
    refine s_lt 46 rfl rfl rfl rfl ?_
    refine SX.next ?_
    refine CW.test rfl (fun hc => ?_) (fun hc => ?_)
    · skip
      have hp5 : p < 5 := by omega
      refine CW.skip ?_
      refine KN.code ?_
      refine CW.seq ?_
      refine CW.block ?_
      refine CW.seq ?_
      refine CW.seq ?_
      refine CW.reg [0, 1, 2, 3, 4, 5] rfl ?_
      refine s_mv 49 rfl rfl ?_
      refine s_eq 50 rfl rfl rfl rfl ?_
      refine s_mv 51 rfl rfl ?_
      refine SX.bool 51 rfl (fun hb => ?_) (fun hb => ?_)
      · skip
        skip
        refine s_mv 52 rfl rfl ?_
        refine s_not 53 rfl rfl ?_
        refine s_pickT 54 rfl rfl rfl ?_
        refine SX.next ?_
        refine CW.condF rfl ?_
        refine CW.skip ?_
        refine KN.code ?_
        refine CW.seq ?_
        refine CW.reg [0, 1, 2, 3, 4, 5] rfl ?_
        refine s_mv 55 rfl rfl ?_
        refine s_mv 56 rfl rfl ?_
        refine s_build 57 rfl rfl (cells := #[.int .i64 0, .int .i64 ((p : Nat) : Int)]) (by kernel_rfl) ?_
        refine s_mv 58 rfl rfl ?_
        refine s_callP 59 [0] (M := [chipA g x]) (R := []) (X := ChG) (v := fun z => .nilIface) (pf := fun z => z.abs = (C14s ((k : Nat) : Int) p0 (p + 1)) ∧ z.watch = .nilFunc) (M' := fun z => [chipA g z]) rfl rfl rfl rfl rfl (fun F' w' hR hM => by have := program_spec F' g x (by rw [hx.1]; exact (hokk p)) 0 ((p : Nat) : Int) A0 c0 p0 e w' (fun w2 hf => (hR w2 hf).er heD) (fun w2 hf => (hR w2 hf).er heO) (fun w2 hf => (hR w2 hf).er heS) (fun w2 hf => (hR w2 hf).er heF) (fun w2 hf => (hR w2 hf).old ha0) hp0 hM; rw [hx.1, cuts_1 ((k : Nat) : Int) hl0 hp5, hx.2] at this; exact this) (fun _ _ _ => trivial) (fun x1 hx1 => ?_)
        refine s_neNN 60 rfl rfl ?_
        refine SX.next ?_
        refine CW.condF rfl ?_
        refine CW.skip ?_
        refine KN.blk ?_
        refine KN.code ?_
        refine CW.reg [0, 1, 2] rfl ?_
        refine s_mv 47 rfl rfl ?_
        refine s_add 48 rfl rfl rfl (r := ((p + 1 : Nat) : Int)) (w64 (by omega)) ?_
        refine s_as 10 rfl rfl ?_
        refine SX.end_ ?_
        exact KN.back (p + 1, x1) ⟨rfl, rfl, rfl, rfl, rfl, trivial⟩ (fun _ h => h) ⟨by simp only; omega, hx1⟩ (by simp only; omega)
      · skip
        refine SX.skip rfl ?_
        refine SX.skip rfl ?_
        refine s_pickF 54 rfl rfl rfl ?_
        refine SX.next ?_
        refine CW.condF rfl ?_
        refine CW.skip ?_
        refine KN.code ?_
        refine CW.seq ?_
        refine CW.reg [0, 1, 2, 3, 4, 5] rfl ?_
        refine s_mv 55 rfl rfl ?_
        refine s_mv 56 rfl rfl ?_
        refine s_build 57 rfl rfl (cells := #[.int .i64 0, .int .i64 ((p : Nat) : Int)]) (by kernel_rfl) ?_
        refine s_mv 58 rfl rfl ?_
        refine s_callP 59 [0] (M := [chipA g x]) (R := []) (X := ChG) (v := fun z => .nilIface) (pf := fun z => z.abs = (C14s ((k : Nat) : Int) p0 (p + 1)) ∧ z.watch = .nilFunc) (M' := fun z => [chipA g z]) rfl rfl rfl rfl rfl (fun F' w' hR hM => by have := program_spec F' g x (by rw [hx.1]; exact (hokk p)) 0 ((p : Nat) : Int) A0 c0 p0 e w' (fun w2 hf => (hR w2 hf).er heD) (fun w2 hf => (hR w2 hf).er heO) (fun w2 hf => (hR w2 hf).er heS) (fun w2 hf => (hR w2 hf).er heF) (fun w2 hf => (hR w2 hf).old ha0) hp0 hM; rw [hx.1, cuts_1 ((k : Nat) : Int) hl0 hp5, hx.2] at this; exact this) (fun _ _ _ => trivial) (fun x1 hx1 => ?_)
        refine s_neNN 60 rfl rfl ?_
        refine SX.next ?_
        refine CW.condF rfl ?_
        refine CW.skip ?_
        refine KN.blk ?_
        refine KN.code ?_
        refine CW.reg [0, 1, 2] rfl ?_
        refine s_mv 47 rfl rfl ?_
        refine s_add 48 rfl rfl rfl (r := ((p + 1 : Nat) : Int)) (w64 (by omega)) ?_
        refine s_as 10 rfl rfl ?_
        refine SX.end_ ?_
        exact KN.back (p + 1, x1) ⟨rfl, rfl, rfl, rfl, rfl, trivial⟩ (fun _ h => h) ⟨by simp only; omega, hx1⟩ (by simp only; omega)
    · skip
      obtain rfl : p = 5 := by omega
      refine CW.exit rfl ?_
      refine KN.code ?_
      refine CW.seq ?_
      refine CW.seq ?_
      refine CW.reg [0, 1] rfl ?_
      refine s_mv 61 rfl rfl ?_
      refine s_not 62 rfl rfl ?_
      refine SX.next ?_
      refine CW.condF rfl ?_
      refine CW.skip ?_
      refine KN.code ?_
      refine CW.seq ?_
      obtain ⟨k1, k2, k3, k4⟩ := cuts_5 ((k : Nat) : Int) hl0
      refine CW.reg [0, 1, 2] rfl ?_
      refine s_mv 120 rfl rfl ?_
      refine s_callP 121 [0] (M := [chipA g x]) (R := []) (X := ChG) (v := fun z => errV e 0) (pf := fun z => z.abs = (C14e ((k : Nat) : Int) p0) ∧ z.watch = .nilFunc) (M' := fun z => [chipA g z]) rfl rfl rfl rfl rfl (fun F' w' hR hM => by have := erase_spec F' g x (by rw [hx.1]; exact (hokk 5)) 0 e w' (fun w2 hf => (hR w2 hf).er heD) (fun w2 hf => (hR w2 hf).er heO) (fun w2 hf => (hR w2 hf).er heS) (fun w2 hf => (hR w2 hf).er heF) hM; rw [hx.1, k1, hx.2] at this; exact this) (fun _ _ _ => trivial) (fun x2 hx2 => ?_)
      refine s_as 17 rfl rfl ?_
      refine SX.next ?_
      refine CW.seq ?_
      refine CW.seq ?_
      refine CW.reg [0] rfl ?_
      refine s_as 18 rfl rfl ?_
      refine SX.next ?_
      refine CW.block ?_
      refine CW.loop (G := Nat) (fun i => [(0, .slice A0 p0.length c0), (1, .int .i64 ((k : Nat) : Int)), (8, .pointer (some ⟨g, 0, none⟩)), (17, errV e 0), (18, .int .i64 (i : Nat))]) (fun _ => Sto w [chipA g x2]) (fun i => i ≤ 5) (fun i => 5 - i) 0 ⟨rfl, rfl, rfl, rfl, rfl, trivial⟩ (fun _ h => h) (Nat.zero_le _) ?_
      intro i hi
      refine CW.seq ?_
      refine CW.seq ?_
      refine CW.reg [0, 1] rfl ?_
      refine s_mv 122 rfl rfl ?_
      refine s_lt 123 rfl rfl rfl rfl ?_
      refine SX.next ?_
      refine CW.test rfl (fun hc => ?_) (fun hc => ?_)
      · skip
        have hil : i < 5 := by omega
        obtain ⟨q1, q2⟩ := cuts_7 (k := k) hl0 hp0 hil
        refine CW.skip ?_
        refine KN.code ?_
        refine CW.seq ?_
        refine CW.block ?_
        refine CW.seq ?_
        refine CW.reg [0, 1, 2, 3, 4, 5, 6, 7, 8, 9, 10, 11, 12, 13, 14, 15, 16, 17, 18, 19, 20, 21] rfl ?_
        refine s_mv 126 rfl rfl ?_
        refine s_mv 127 rfl rfl ?_
        refine s_build 128 rfl rfl (cells := #[.int .i64 0, .int .i64 ((i : Nat) : Int)]) (by kernel_rfl) ?_
        refine s_call1 129 rfl rfl rfl rfl (v := .bool (decide (k ≤ i))) (fun w hw => by have := used_spec g x2 (by rw [hx2.1]; exact (er_okp (hokk 5) 0)) 0 ((i : Nat) : Int) w (hw.has (i := 0) rfl); rw [hx2.1, q2] at this; exact this) (fun _ _ => trivial) ?_
        refine s_mv 130 rfl rfl ?_
        refine s_mv 131 rfl rfl ?_
        refine s_ge 132 rfl rfl rfl (r := decide (k ≤ i)) (decide_eq_decide.2 (by omega)) ?_
        refine s_neB 133 rfl rfl rfl (r := false) (by simp) ?_
        refine s_mv 134 rfl rfl ?_
        refine s_mv 135 rfl rfl ?_
        refine s_mv 136 rfl rfl ?_
        refine s_ge 137 rfl rfl rfl rfl ?_
        refine s_mv 138 rfl rfl ?_
        refine SX.bool 138 rfl (fun hb => ?_) (fun hb => ?_)
        · skip
          have hki := of_decide_eq_true hb
          rw [if_neg (show ¬ i < k by omega)] at q1
          refine s_mv 139 rfl rfl ?_
          refine s_mv 140 rfl rfl ?_
          refine s_build 141 rfl rfl (cells := #[.int .i64 0, .int .i64 ((i : Nat) : Int)]) (by kernel_rfl) ?_
          refine s_call 142 rfl rfl rfl rfl (X := Option Addr × Nat) (v := fun z => .slice z.1 (p0 : List Nat).length z.2) (pf := fun z => (p0 : List Nat).length ≤ z.2) (L' := fun z => [own 5 1 z.1 (p0 : List Nat).length z.2 (nats .u8 p0)]) (fun w hw => by have := cells_spec g x2 (by rw [hx2.1]; exact (er_okp (hokk 5) 0)) 0 ((i : Nat) : Int) w (hw.has (i := 0) rfl); rw [hx2.1, q1] at this; exact this) (fun _ _ => trivial) (fun z hz => ?_)
          refine s_mv 143 rfl rfl ?_
          refine s_call1 144 rfl rfl rfl rfl (v := .bool true) (fun w hw => by have := sameBytes_spec z.1 p0.length z.2 p0 A0 p0.length c0 p0 w ((hw.has (i := 0) rfl).of_own) hp0 (hw.old ha0) hp0; rw [decide_eq_true rfl] at this; exact this) (fun _ _ => trivial) ?_
          refine s_not 145 rfl rfl ?_
          refine s_pickT 146 rfl rfl rfl ?_
          refine s_pickF 147 rfl rfl rfl ?_
          refine SX.next ?_
          refine CW.condF rfl ?_
          refine CW.skip ?_
          refine KN.blk ?_
          refine KN.code ?_
          refine CW.reg [0, 1, 2] rfl ?_
          refine s_mv 124 rfl rfl ?_
          refine s_add 125 rfl rfl rfl (r := ((i + 1 : Nat) : Int)) (w64 (by omega)) ?_
          refine s_as 18 rfl rfl ?_
          refine SX.end_ ?_
          exact KN.back (i + 1) ⟨rfl, rfl, rfl, rfl, rfl, trivial⟩ (fun _ h => h.pick [1] rfl) (by omega) (by omega)
        · skip
          skip
          refine SX.skip rfl ?_
          refine SX.skip rfl ?_
          refine SX.skip rfl ?_
          refine SX.skip rfl ?_
          refine SX.skip rfl ?_
          refine SX.skip rfl ?_
          refine SX.skip rfl ?_
          refine s_pickF 146 rfl rfl rfl ?_
          refine s_pickF 147 rfl rfl rfl ?_
          refine SX.next ?_
          refine CW.condF rfl ?_
          refine CW.skip ?_
          refine KN.blk ?_
          refine KN.code ?_
          refine CW.reg [0, 1, 2] rfl ?_
          refine s_mv 124 rfl rfl ?_
          refine s_add 125 rfl rfl rfl (r := ((i + 1 : Nat) : Int)) (w64 (by omega)) ?_
          refine s_as 18 rfl rfl ?_
          refine SX.end_ ?_
          exact KN.back (i + 1) ⟨rfl, rfl, rfl, rfl, rfl, trivial⟩ (fun _ h => h) (by omega) (by omega)
      · skip
        refine CW.exit rfl ?_
        refine KN.code ?_
        refine CW.seq ?_
        refine CW.reg [0, 1, 2, 3, 4, 5, 6, 7] rfl ?_
        refine s_mv 149 rfl rfl ?_
        refine s_build 150 rfl rfl (cells := #[.int .i64 0, .int .i64 0]) (by kernel_rfl) ?_
        refine s_callP 151 [0] (M := [chipA g x2]) (R := []) (X := (Option Addr × Nat) × ChG) (v := fun z => two (.slice z.1.1 ([] : List Nat).length z.1.2) (errV e 0)) (pf := fun z => z.2.abs = (C14r ((k : Nat) : Int) p0) ∧ z.2.watch = .nilFunc) (M' := fun z => [own 5 1 z.1.1 ([] : List Nat).length z.1.2 (nats .u8 []), chipA g z.2]) rfl rfl rfl rfl rfl (fun F' w' hR hM => by have := read_spec F' g x2 (by rw [hx2.1]; exact (er_okp (hokk 5) 0)) 0 0 0 e w' hx2.2 (fun w2 hf => (hR w2 hf).er heD) (fun w2 hf => (hR w2 hf).er heO) (fun w2 hf => (hR w2 hf).er heS) hM; rw [hx2.1, k2, k3, hx2.2] at this; exact this) (fun _ _ _ => trivial) (fun x3 hx3 => ?_)
        refine s_mv 148 rfl rfl ?_
        refine s_ext 152 rfl rfl rfl ?_
        refine s_ext 153 rfl rfl rfl ?_
        refine s_as 19 rfl rfl ?_
        refine s_as 20 rfl rfl ?_
        refine SX.next ?_
        refine CW.seq ?_
        refine CW.reg [0, 1, 2, 3, 4, 5, 6, 7, 8, 9, 10, 11, 12, 13] rfl ?_
        refine s_mv 154 rfl rfl ?_
        refine s_ld 155 rfl rfl (fun _ hw => hw.cell heD) ?_
        refine s_eqE 156 rfl rfl rfl ?_
        refine s_mv 157 rfl rfl ?_
        refine s_mv 158 rfl rfl ?_
        refine s_ld 159 rfl rfl (fun _ hw => hw.cell heD) ?_
        refine s_eqE 160 rfl rfl rfl ?_
        refine s_pickT 161 rfl rfl rfl ?_
        refine s_mv 162 rfl rfl ?_
        refine s_mv 163 rfl rfl ?_
        refine s_call1 164 rfl rfl rfl rfl (v := .int .i64 0) (fun w hw => by have := worn_spec g x3.2 0 w (hw.has (i := 1) rfl); rw [hx3.1, k4] at this; exact this) (fun _ _ => trivial) ?_
        refine s_eq 165 rfl rfl rfl (decide_eq_true rfl) ?_
        refine s_pickT 166 rfl rfl rfl ?_
        refine s_as 6 rfl rfl ?_
        refine SX.next ?_
        refine CW.ret ?_
        exact KN.ret (rs := [.tmp 6]) Tryd.results5 rfl (fun w hw => ⟨rfl, hw.nothing⟩)

theorem walk_ChipCuts (A0 : Option Addr) (n0 c0 : Nat) (p0 : List Nat) (a1 : Int) (a2 : Bool) (e : Nat → Addr) (w : World) (ha0 : Has (sl 1 A0 n0 (nats .u8 p0)) w) (hp0 : ∀ x ∈ p0, x < 256) (hn0 : n0 ≤ 9223372036854775807) (hcp0 : n0 ≤ c0) (heD : Er e w 0) (heO : Er e w 1) (heS : Er e w 2) (heF : Er e w 5) (heM : Er e w 6) : Spec1 Tryd.prog 5 [.slice A0 n0 c0, .int .i64 a1, .bool a2] w (.bool true) := by
  cases a2 with
  | true => exact cuts_erase A0 n0 c0 p0 a1 e w ha0 hp0 hn0 hcp0 heD heO heS heF heM
  | false => exact cuts_prog A0 n0 c0 p0 a1 e w ha0 hp0 hn0 hcp0 heD heO heS heF heM
end Go.Proofs.YtcapijdokbkgaaaDoor
end
section
/- What a slice of bytes that comes in gives a walk. No condition. -/
namespace Go.Sx
open Go Go.ChangeShapes Go.WideShapes
theorem open_slB {H : Type} {enc : TypeId × Value → H} {P : Program} {W : World} {base b0 : Nat} {spare : Nat → Bool} {held : Bool} {t e : TypeId} {v : Value} {d : DataW H} {ps : List MemPlace}
    (ht : P.underlying t = some (.slice e)) (he : P.underlying e = some (.int .u8)) (hc : P.cellsOf e = 1) (hval : Value.okWide P W .any b0 t v) (hd : DataW.Trod enc P W base spare held t v d ps) :
    ∃ A n c p, v = .slice A n c ∧ n ≤ c ∧ (c : Int) ≤ 9223372036854775807 ∧ p.length = n ∧ Has (sl 1 A n (nats .u8 p)) W ∧ ∀ x ∈ p, x < 256 := by
  obtain ⟨A, n, c, zs, hv, h1, h2, h3, h4, h5⟩ := open_slI ht he hc hval hd
  have hb : ∀ z ∈ zs, 0 ≤ z ∧ z < 256 := fun z hz => by
    have := h5 z hz
    simp only [Lit.wf, Bool.and_eq_true, decide_eq_true_eq] at this
    have e1 : IntKind.u8.min = 0 := by decide
    have e2 : IntKind.u8.max = 255 := by decide
    omega
  refine ⟨A, n, c, zs.map Int.toNat, hv, h1, h2, by simpa using h3, ?_, fun x hx => ?_⟩
  · have e2 : nats .u8 (zs.map Int.toNat) = ints .u8 zs := by
      unfold nats ints
      rw [List.map_map]
      exact List.map_congr_left (fun z hz => by
        show Value.int .u8 ((z.toNat : Nat) : Int) = Value.int .u8 z
        rw [Int.toNat_of_nonneg (hb z hz).1])
    rw [e2]
    exact h4
  · obtain ⟨z, hz, rfl⟩ := List.mem_map.1 hx
    have := hb z hz
    omega
end Go.Sx
end
