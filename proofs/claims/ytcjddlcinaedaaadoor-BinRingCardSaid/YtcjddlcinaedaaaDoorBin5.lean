/- The contracts of package binpoly: sums of powers; and of the document's comparisons of bytes. Conditions: the lists are bytes, read where they lie. -/
import Derived.Test.YtcjddlcinaedaaaDoorBin4
import Derived.Test.YtcjddlcinaedaaaDoorOps9
namespace Go.Proofs.YtcjddlcinaedaaaDoor
open Go Go.Lib Go.Sx Go.Fm
set_option maxRecDepth 100000

theorem sameBytes_spec (A : Option Addr) (n c : Nat) (p : List Nat) (A2 : Option Addr) (n2 c2 : Nat) (p2 : List Nat) (w : World) (ha : Has (sl 1 A n (nats .u8 p)) w) (hp : ∀ x ∈ p, x < 256) (ha2 : Has (sl 1 A2 n2 (nats .u8 p2)) w) (hp2 : ∀ x ∈ p2, x < 256) : Spec1 Tryd.prog 36 [.slice A n c, .slice A2 n2 c2] w (.bool (decide (p = p2))) := by
  refine spec_of Tryd.func36 rfl Tryd.ntmps36 rfl ?_
  refine CW.seq ?_
  refine CW.reg [0] rfl ?_   -- 0, ref.go:120
  refine s_as 4 rfl rfl ?_
  refine SX.next ?_
  refine CW.seq ?_
  refine CW.reg [0, 1, 2, 3, 4, 5] rfl ?_   -- 1, ref.go:120
  refine s_mv 5 rfl rfl ?_
  refine s_b2s 6 (b := p) rfl (by kernel_rfl) (by kernel_rfl) rfl (fun w hw => hw.old ha) ?_
  refine s_mv 7 rfl rfl ?_
  refine s_b2s 8 (b := p2) rfl (by kernel_rfl) (by kernel_rfl) rfl (fun w hw => hw.old ha2) ?_
  refine s_eqS 9 rfl rfl rfl (strB_beq hp hp2) ?_
  refine s_as 4 rfl rfl ?_
  refine SX.next ?_
  refine CW.ret ?_
  exact KN.ret (rs := [.tmp 4]) Tryd.results36 rfl (fun w hw => ⟨rfl, hw.nothing⟩)

/-! ### Powers of x -/
theorem one_bys (n : Nat) : (List.replicate (n / 8 + 1) 0).set (n / 8) (2 ^ (n % 8)) = bys (xP n) := by
  have hv : 2 ^ (n % 8) < 256 := Nat.pow_lt_pow_right (n := 8) (by omega) (Nat.mod_lt _ (by omega))
  have hl : ∀ x ∈ (List.replicate (n / 8 + 1) 0).set (n / 8) (2 ^ (n % 8)), x < 256 := set_lt (zeros_lt _) hv
  have ht : trim ((List.replicate (n / 8 + 1) 0).set (n / 8) (2 ^ (n % 8))) = (List.replicate (n / 8 + 1) 0).set (n / 8) (2 ^ (n % 8)) := by
    refine trim_of ?_
    have h1 := tl_le ((List.replicate (n / 8 + 1) 0).set (n / 8) (2 ^ (n % 8)))
    have h2 : ((List.replicate (n / 8 + 1) 0).set (n / 8) (2 ^ (n % 8))).length = n / 8 + 1 := by simp
    refine Nat.le_antisymm h1 (Nat.le_of_not_lt fun hlt => ?_)
    have h3 := cf_hi _ (n / 8) (show tl ((List.replicate (n / 8 + 1) 0).set (n / 8) (2 ^ (n % 8))) ≤ n / 8 by omega)
    rw [cf_set (by simp), if_pos rfl] at h3
    have := Nat.two_pow_pos (n % 8)
    omega
  rw [← ht]
  refine bys_of hl (xP_b1 n) (fun j => ?_)
  rw [cf_xP]
  by_cases h : j / 8 = n / 8
  · unfold bitN
    rw [cf_set (by simp), if_pos h, shr_two, Nat.testBit_two_pow]
    by_cases h2 : j = n
    · subst h2; simp
    · rw [if_neg h2, decide_eq_false (by omega)]
      rfl
  · rw [if_neg (by omega)]
    refine bitN_zero ?_
    rw [cf_set (by simp), if_neg h]
    unfold cf
    simp only [List.getD_eq_getElem?_getD]
    rw [List.getElem?_replicate]
    split <;> rfl
theorem xP_len (n : Nat) : (bys (xP n)).length = n / 8 + 1 := by rw [← one_bys]; simp
theorem repl8 (N i v : Nat) : (List.replicate N (Value.int .u8 0)).toArray.setIfInBounds i (.int .u8 (v : Nat)) = (nats .u8 ((List.replicate N 0).set i v)).toArray := by
  rw [List.setIfInBounds_toArray, ← nats_set]
  simp [nats]

theorem one_spec (n : Nat) (w : World) (hn : n ≤ 1000000) : SpecB Tryd.prog 103 [.int .i64 (n : Nat)] w (bys (xP n)) := by
  have hob := one_bys n
  have hxl := xP_len n
  have hv : 2 ^ (n % 8) < 256 := Nat.pow_lt_pow_right (n := 8) (by omega) (Nat.mod_lt _ (by omega))
  refine spec_of Tryd.func103 rfl Tryd.ntmps103 rfl ?_
  refine CW.seq ?_
  refine CW.reg [0] rfl ?_   -- 0, binpoly.go:29
  refine s_as 2 rfl rfl ?_
  refine SX.next ?_
  refine CW.seq ?_
  refine CW.reg [0, 1, 2, 3, 4] rfl ?_   -- 1, binpoly.go:30
  refine s_mv 4 rfl rfl ?_
  refine s_quo 5 rfl rfl rfl (by omega) (quo8 n (by omega)) ?_
  refine s_add 6 rfl rfl rfl (r := (((n / 8 + 1) : Nat) : Int)) (w64 (by omega)) ?_
  refine s_make 7 (n / 8 + 1) rfl rfl rfl rfl rfl (by omega) (fun _ _ => trivial) (fun go => ?_)
  refine s_as 3 rfl rfl ?_
  refine SX.next ?_
  refine CW.seq ?_
  refine CW.reg [0, 1, 2, 3, 4, 5, 6, 7] rfl ?_   -- 2, binpoly.go:31
  refine s_mv 8 rfl rfl ?_
  refine s_mv 9 rfl rfl ?_
  refine s_quo 10 rfl rfl rfl (by omega) (quo8 n (by omega)) ?_
  refine s_mv 11 rfl rfl ?_
  refine s_rem 12 rfl rfl rfl (by omega) (tmod8 n) ?_
  refine s_shl 13 rfl rfl rfl (by omega) (r := ((2 ^ (n % 8) : Nat) : Int)) (by rw [show (1 : Int) = ((1 : Nat) : Int) from rfl, shl_u8 (by omega), Nat.one_mul, Nat.mod_eq_of_lt hv]) ?_
  refine s_ia0 14 (n / 8) rfl rfl rfl rfl (by omega) ?_
  refine s_stB 0 rfl rfl rfl rfl rfl (by simp) (fun _ _ => trivial) ?_
  refine SX.next ?_
  refine CW.seq ?_
  refine CW.reg [0, 1] rfl ?_   -- 3, binpoly.go:32
  refine s_mv 15 rfl rfl ?_
  refine s_as 2 rfl rfl ?_
  refine SX.next ?_
  refine CW.ret ?_
  exact KN.ret (rs := [.tmp 2]) Tryd.results103 rfl (fun w hw => ⟨(some ⟨go, 0, none⟩, (n / 8 + 1)), by rw [hxl]; rfl, by rw [hxl]; exact Nat.le_refl _, by
  rw [hxl]
  rw [repl8, hob] at hw
  exact hw.blkOwn (q := 0) (c := (n / 8 + 1)) rfl (by simp [nats, hxl]) (by unfold maxLen; omega)⟩)

/-! ### Sums of many -/
theorem _root_.Go.Sx.St.swp {F : Nat → Prop} {w₀ w : World} {A B : Atom} {L : List Atom} (h : St F w₀ (A :: B :: L) w) : St F w₀ (B :: A :: L) w := ⟨h.fr, h.lt, h.sep.swap⟩
def BlG.hdr (b : BlG) : Value := .slice b.A b.l.length b.c
def ownB (b : BlG) : Atom := own 5 1 b.A b.l.length b.c (nats .u8 b.l)
structure BlG.Fine (b : BlG) (w : World) : Prop where
  has : Has (sl 1 b.A b.l.length (nats .u8 b.l)) w
  lt : ∀ x ∈ b.l, x < 256
  bd : b.l.length ≤ 1000000
  cap : b.l.length ≤ b.c
/-- The sum of the first i. -/
def sumF (f : Nat → List Nat) : Nat → List Nat
  | 0 => []
  | i + 1 => addP (sumF f i) (f i)
theorem sumF_b1 {f : Nat → List Nat} (hf : ∀ i, B1 (f i)) : ∀ i, B1 (sumF f i)
  | 0 => nil_b1
  | i + 1 => addP_b1 (sumF_b1 hf i) (hf i)
theorem addP_le8 (a b : List Nat) : (addP a b).length ≤ max a.length b.length := by
  unfold addP pl
  rw [trim_length]
  simpa using tl_le ((List.range (max a.length b.length)).map fun j => cf a j ^^^ cf b j)
theorem sumF_le {f : Nat → List Nat} {K : Nat} : ∀ {i : Nat}, (∀ j, j < i → (f j).length ≤ K) → (sumF f i).length ≤ K
  | 0, _ => Nat.zero_le _
  | i + 1, h => by
    have h1 := addP_le8 (sumF f i) (f i)
    have h2 := sumF_le (i := i) (fun j hj => h j (by omega))
    have h3 := h i (by omega)
    show (addP (sumF f i) (f i)).length ≤ K
    omega
theorem sumF_congr {f g : Nat → List Nat} : ∀ {i : Nat}, (∀ j, j < i → f j = g j) → sumF f i = sumF g i
  | 0, _ => rfl
  | i + 1, h => by
    show addP (sumF f i) (f i) = addP (sumF g i) (g i)
    rw [sumF_congr (i := i) (fun j hj => h j (by omega)), h i (by omega)]
/-- Its bytes. -/
def sumY (f : Nat → List Nat) : Nat → List Nat
  | 0 => []
  | i + 1 => bys (sumF f (i + 1))
theorem sumY_eq (f : Nat → List Nat) : ∀ i, sumY f i = bys (sumF f i)
  | 0 => bys_nil.symm
  | _ + 1 => rfl
def blAt (bs : List BlG) (i : Nat) : List Nat := bl (bs.getD i ⟨none, 0, []⟩).l
theorem blAt_some {bs : List BlG} {i : Nat} {b : BlG} (h : bs[i]? = some b) : blAt bs i = bl b.l := by
  unfold blAt
  rw [List.getD_eq_getElem?_getD, h]
  rfl

theorem fold_spec (A : Option Addr) (n c : Nat) (bs : List BlG) (w : World) (ha : Has (sl 1 A n (bs.map BlG.hdr)) w) (hb : ∀ b ∈ bs, b.Fine w) (hn : n ≤ 1000000) : SpecB Tryd.prog 104 [.slice A n c, .func (.func 69) #[] #[]] w (sumY (blAt bs) bs.length) := by
  have hla : bs.length = n := by have := ha.sl_len; simpa using this
  subst hla
  refine spec_of Tryd.func104 rfl Tryd.ntmps104 rfl ?_
  refine CW.seq ?_
  refine CW.reg [0] rfl ?_   -- 0, binpoly.go:48
  refine s_as 4 rfl rfl ?_
  refine SX.next ?_
  refine CW.seq ?_
  refine CW.reg [0] rfl ?_   -- 1, binpoly.go:49
  refine s_as 5 rfl rfl ?_
  refine SX.next ?_
  refine CW.seq ?_
  refine CW.seq ?_
  refine CW.reg [0, 1, 2] rfl ?_   -- 2, binpoly.go:50
  refine s_mv 8 rfl rfl ?_
  refine s_len 9 rfl rfl ?_
  refine s_mv 10 rfl rfl ?_
  refine SX.next ?_
  refine CW.block ?_
  refine CW.loop (G := Nat × Option Addr × Nat) (fun q => [(1, .func (.func 69) #[] #[]), (5, .slice q.2.1 (sumY (blAt bs) q.1).length q.2.2), (8, .slice A bs.length c), (9, .int .i64 (bs.length : Nat)), (10, .int .i64 (q.1 : Nat))]) (fun q => Sto w [own 5 1 q.2.1 (sumY (blAt bs) q.1).length q.2.2 (nats .u8 (sumY (blAt bs) q.1))]) (fun q => q.1 ≤ bs.length ∧ (sumY (blAt bs) q.1).length ≤ q.2.2) (fun q => bs.length - q.1) (0, none, 0) ⟨rfl, rfl, rfl, rfl, rfl, trivial⟩ (fun _ h => h.begin_ _ 1) ⟨Nat.zero_le _, Nat.le_refl 0⟩ ?_
  rintro ⟨i, q⟩ ⟨hi, hq⟩
  simp only at hi hq
  dsimp only
  refine CW.seq ?_
  refine CW.reg [0] rfl ?_   -- 3, binpoly.go:50
  refine s_lt 11 rfl rfl rfl rfl ?_
  refine SX.next ?_
  refine CW.seq ?_
  refine CW.test rfl (fun hc => ?_) (fun hc => ?_)
  · skip
    obtain ⟨b, hbi⟩ : ∃ b, bs[i]? = some b := ⟨_, List.getElem?_eq_getElem (by omega)⟩
    obtain ⟨hb1, hb2, hb3, hb4⟩ := hb b (List.mem_of_getElem? hbi)
    have hcell : (bs.map BlG.hdr)[i * 1]? = some (BlG.hdr b) := by rw [Nat.mul_one, List.getElem?_map, hbi]; rfl
    have hsb := sumF_b1 (f := blAt bs) (fun j => bl_b1 _) i
    have hbl : bl (sumY (blAt bs) i) = sumF (blAt bs) i := by rw [sumY_eq]; exact bl_bys hsb
    have hlt8 : ∀ x ∈ (sumY (blAt bs) i), x < 256 := by rw [sumY_eq]; exact (bys_tr hsb.le).lt
    have hsl := sumF_le (f := blAt bs) (K := 8000000) (i := i) (fun j hj => by
      obtain ⟨b2, hb2⟩ : ∃ b, bs[j]? = some b := ⟨_, List.getElem?_eq_getElem (by omega)⟩
      rw [blAt_some hb2]
      have h1 := bl_len b2.l
      have h2 := (hb b2 (List.mem_of_getElem? hb2)).bd
      omega)
    have hbyl := bys_len (sumF (blAt bs) i)
    rw [← sumY_eq] at hbyl
    have hnx : sumY (blAt bs) (i + 1) = bys (addP (sumF (blAt bs) i) (bl b.l)) := by rw [← blAt_some hbi]; rfl
    refine CW.skip ?_
    refine KN.code ?_
    refine CW.seq ?_
    refine CW.block ?_
    refine CW.seq ?_
    refine CW.reg [0, 1, 2] rfl ?_   -- 4, binpoly.go:50
    refine s_iaV 12 i (fun w hw => hw.old ha) rfl rfl rfl rfl (by omega) ?_
    refine s_ldV 13 (v := .slice b.A b.l.length b.c) (fun w hw => hw.old ha) rfl rfl hcell (by omega) ?_
    refine s_as 7 rfl rfl ?_
    refine SX.next ?_
    refine CW.reg [0, 1, 2, 3, 4] rfl ?_   -- 5, binpoly.go:51
    refine s_mv 14 rfl rfl ?_
    refine s_mv 15 rfl rfl ?_
    refine s_mv 16 rfl rfl ?_
    refine s_call 17 rfl rfl rfl rfl (fun w hw => by have := badd_spec q.1 (sumY (blAt bs) i).length q.2 (sumY (blAt bs) i) b.A b.l.length b.c b.l w ((hw.has (i := 0) rfl).of_own) hlt8 (by omega) hq (hw.old hb1) hb2 (by omega) hb4; rw [hbl, ← hnx] at this; exact this) (fun _ _ => trivial) (fun q2 hq2 => ?_)
    refine s_as 5 rfl rfl ?_
    refine SX.end_ ?_
    refine KN.blk ?_
    refine KN.code ?_
    refine CW.reg [0, 1] rfl ?_   -- 6, binpoly.go:50
    refine s_add 18 rfl rfl rfl (r := ((i + 1 : Nat) : Int)) (w64 (by omega)) ?_
    refine s_mv 10 rfl rfl ?_
    refine SX.end_ ?_
    exact KN.back (i + 1, q2) ⟨rfl, rfl, rfl, rfl, rfl, trivial⟩ (fun _ h => h.pick [0] rfl) ⟨by simp only; omega, hq2⟩ (by simp only; omega)
  · skip
    obtain rfl : i = bs.length := by omega
    refine CW.exit rfl ?_
    refine KN.code ?_
    refine CW.seq ?_
    refine CW.reg [0, 1] rfl ?_   -- 7, binpoly.go:53
    refine s_mv 19 rfl rfl ?_
    refine s_as 4 rfl rfl ?_
    refine SX.next ?_
    refine CW.ret ?_
    exact KN.ret (rs := [.tmp 4]) Tryd.results104 rfl (fun w hw => ⟨q, rfl, hq, hw⟩)
