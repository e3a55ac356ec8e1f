/- The walk of the statement SyndromeTells. Conditions: each theorem tells its own. -/
import Derived.Test.YtompcfingkoldaaDoorGB
import Derived.Test.YtompcfingkoldaaDoorRows
import Derived.LaidLaws
import Derived.WalkKit
import Derived.ProofKit
import Derived.OpenShut
import Derived.Deep.DeepHandedRow
import Derived.Deep.DeepWitnessRowRef
import Derived.Test.YtompcfingkoldaaDoorGG
import Derived.Test.YtompcfingkoldaaDoorGD
section
/- What a row's list of error variables gives a walk: each holds a pointer of its own. No condition. -/
namespace Go.Proofs.YtompcfingkoldaaDoor
open Go.Sx Go.ChangeShapes Go.WideShapes Go.RowKit

theorem laidOutT : laidOutB Tryd.prog = true := by kernel_rfl
theorem errStar : "*" ++ "errors.errorString" = "*errors.errorString" := by decide
theorem errRow (u : TypeId) (h : Tryd.prog.typeName? 3 u = some "*errors.errorString") : u = 262 :=
  typeName_ptr_named (nm := "errors.errorString") (by rw [errStar]; kernel_rfl) (by kernel_rfl) (by decide) u (by rw [errStar]; exact h)
theorem errCells : Tryd.prog.cellsOf 279 = 1 := by kernel_rfl
theorem strCells : Tryd.prog.cellsOf 9 = 1 := by kernel_rfl
theorem noKnob : ownKnob Tryd.prog.godebug = none := by kernel_rfl

/-- The pointer that error variable k holds. -/
noncomputable def eOf (W : World) (k : Nat) : Addr := open Classical in if h : ∃ a, W.cell? ⟨k, 0, none⟩ = some (.iface 262 (.pointer (some a))) then Classical.choose h else default

theorem er_of {W : World} {k : Nat} (h : ∃ a, W.cell? ⟨k, 0, none⟩ = some (.iface 262 (.pointer (some a)))) : Er (eOf W) W k := by
  unfold Er errV eOf
  rw [dif_pos h]
  exact Classical.choose_spec h

set_option maxRecDepth 100000 in
theorem er_laid {W : World} : ∀ {l : List (String × DataW Unit)} {ps : List MemPlace}, DataW.LaidVars Tryd.prog W l ps →
    (∀ b off, MemPlace.cell b off ∈ ps → (∃ c t, W.heap[b]? = some (.cells c t (0, 0))) ∧ ∀ u v, W.cell? ⟨b, off, none⟩ = some (.iface u v) → Value.okWide Tryd.prog W .any 0 u v) →
    ∀ n d, (n, d) ∈ l → ∀ text k, d = .iface "*errors.errorString" (.ptr (.agg [.lit (.string text)])) → Tryd.prog.globalNamed n = some k → (Tryd.prog.globals[k]?).map (·.type) = some 34 → Er (eOf W) W k
  | [], _, _, _, _, _, h, _, _, _, _, _ => by cases h
  | (n0, d0) :: r, ps, hl, hrows, n, d, hm, text, k, hd, hk, ht => by
    obtain ⟨g, t, cs, fuel, p, q, hg, htg, hv, htr, hr, hps⟩ := hl
    rcases List.mem_cons.1 hm with he | hm
    · simp only [Prod.mk.injEq] at he
      obtain ⟨rfl, rfl⟩ := he
      subst hd
      obtain rfl := Option.some.inj (hk.symm.trans hg)
      obtain rfl := Option.some.inj (ht.symm.trans htg)
      obtain ⟨l0⟩ := cs
      have ok0 : ∀ u v, l0 = [.iface u v] → Value.okWide Tryd.prog W .any 0 u v := fun u v e => by
        subst e
        exact (hrows k 0 (by rw [hps]; simp [MemPlace.row])).2 u v (by simpa using World.var?_cell hg hv 0)
      obtain ⟨a, s, rfl, _⟩ := errorString_of_trod Tryd.underlying34 errRow Tryd.underlying262 Tryd.underlying279 rfl rfl Tryd.underlying9 errCells strCells htr ok0
      exact er_of ⟨a, by simpa using World.var?_cell hg hv 0⟩
    · exact er_laid hr (fun b off hb => hrows b off (by rw [hps]; exact List.mem_append_right _ hb)) n d hm text k hd hk ht

theorem er_met {W : World} {l : List (String × DataW Unit)} (h : laidMet Tryd.prog l W) (n : String) (d : DataW Unit) (hm : (n, d) ∈ l) (text : List UInt8) (k : Nat) (hd : d = .iface "*errors.errorString" (.ptr (.agg [.lit (.string text)])))
    (hk : Tryd.prog.globalNamed n = some k) (ht : (Tryd.prog.globals[k]?).map (·.type) = some 34) : Er (eOf W) W k :=
  let ⟨_, h1, _, h3⟩ := h
  er_laid h1 h3 n d hm text k hd hk ht

theorem fr_below {w w' : World} (h : Sto w [] w') : Below w.heap.size w w' := h.fr.below
end Go.Proofs.YtompcfingkoldaaDoor
end
section
/- The statement SyndromeTells, walked. Conditions: the errors' variables. -/
namespace Go.Proofs.YtompcfingkoldaaDoor
open Go Go.Sx Go.Fm Nb
set_option maxRecDepth 100000
theorem getD_ofNat (l : List Nat) (i : Nat) : (l.map Int.ofNat).getD i 0 = ((cf l i : Nat) : Int) := by
  unfold cf
  rw [List.getD_eq_getElem?_getD, List.getElem?_map, List.getD_eq_getElem?_getD]
  cases l[i]? <;> rfl
theorem cf_syn {m t : Nat} (P : List Nat) {i : Nat} (h : i < 2 * t) : cf (synL m t P) i = sv m P (i + 1) := cf_tb h
theorem syn_fits {m t : Nat} (h : MT m t) (P : List Nat) : fitsB m ((synL m t P).map Int.ofNat) = true := fits_true (fun i hi => by
  rw [List.length_map, synL_len] at hi
  have hm := h.ok
  unfold fitP
  rw [getD_ofNat, getD_ofNat, cf_syn P hi, cf_syn P (by omega), lo_nat (sv_lt hm _ _), lo_nat (sv_lt hm _ _), sv_sq hm, show 2 * i + 1 + 1 = 2 * (i + 1) by omega])

def plc7 (m t D : Nat) (x : Int) : Nat := (x % ((8 * D + dg m t : Nat) : Int)).toNat
theorem plc7_lt {m t D : Nat} (h : 1 ≤ D) (x : Int) : plc7 m t D x < 8 * D + dg m t := by
  have h1 := Int.emod_nonneg x (b := ((8 * D + dg m t : Nat) : Int)) (by omega)
  have h2 := Int.emod_lt_of_pos x (b := ((8 * D + dg m t : Nat) : Int)) (by omega)
  unfold plc7
  omega
theorem selL_len (f : Nat → Bool) : ∀ n, (selL f n).length ≤ n
  | 0 => Nat.le_refl _
  | n + 1 => by
    have := selL_len f n
    unfold selL
    rw [List.length_append]
    split
    · rw [List.length_singleton]; omega
    · rw [List.length_nil]; omega
section
variable (m t D : Nat) (l : List Int)
def kq (i : Nat) : Nat := plc7 m t D (l.getD i 0)
/-- The word with the first places turned. -/
def dQ (d : List Nat) : Nat → List Nat
  | 0 => d
  | i + 1 => fpD m t (kq m t D l i) (dQ d i)
def pQ (p : List Nat) : Nat → List Nat
  | 0 => p
  | i + 1 => fpP m t (kq m t D l i) (pQ p i)
def plQ : Nat → List Nat
  | 0 => []
  | i + 1 => plQ i ++ [kq m t D l i]
def oddQ : Nat → Nat → Bool
  | 0 => fun _ => false
  | i + 1 => fun j => if j = kq m t D l i then !(oddQ i (kq m t D l i)) else oddQ i j
end
section
variable {m t D : Nat} (l : List Int)
theorem dQ_len (d : List Nat) : ∀ i, (dQ m t D l d i).length = d.length
  | 0 => rfl
  | i + 1 => by show (fpD m t _ _).length = _; rw [fpD_len, dQ_len d i]
theorem pQ_len (p : List Nat) : ∀ i, (pQ m t D l p i).length = p.length
  | 0 => rfl
  | i + 1 => by show (fpP m t _ _).length = _; rw [fpP_len, pQ_len p i]
theorem dQ_lt {d : List Nat} (hd : ∀ x ∈ d, x < 256) : ∀ i, ∀ x ∈ dQ m t D l d i, x < 256
  | 0 => hd
  | i + 1 => fpD_lt (dQ_lt hd i) m t _
theorem pQ_lt {p : List Nat} (hp : ∀ x ∈ p, x < 256) : ∀ i, ∀ x ∈ pQ m t D l p i, x < 256
  | 0 => hp
  | i + 1 => fpP_lt (pQ_lt hp i) m t _
theorem plQ_len : ∀ i, (plQ m t D l i).length = i
  | 0 => rfl
  | i + 1 => by show (plQ m t D l i ++ [_]).length = _; rw [List.length_append, plQ_len i]; rfl
theorem plQ_lt (h : 1 ≤ D) : ∀ i, ∀ x ∈ plQ m t D l i, x < 8 * D + dg m t
  | 0, x, hx => by cases hx
  | i + 1, x, hx => by
    rcases List.mem_append.1 hx with h1 | h1
    · exact plQ_lt h i x h1
    · rw [List.mem_singleton.1 h1]; exact plc7_lt h _
theorem sv_word (hMT : MT m t) (hD : 1 ≤ D) {d : List Nat} (hd : d.length = D) {x : Nat} (h1 : 1 ≤ x) (h2 : x ≤ 2 * t) (hN : x < N m) : ∀ i, sv m (posL m t (dQ m t D l d i) (pQ m t D l (encB m t d) i) (8 * D + dg m t)) x = sv m (plQ m t D l i) x
  | 0 => right_zero hMT hd h1 h2 hN
  | i + 1 => by
    show sv m (posL m t (fpD m t _ _) (fpP m t _ _) _) x = sv m (plQ m t D l i ++ [_]) x
    rw [sv_flip (k := kq m t D l i) (by rw [dQ_len, hd]) (by rw [pQ_len, encB_len]) (plc7_lt hD _), sv_snoc, sv_word hMT hD hd h1 h2 hN i]
theorem sv_odd (hD : 1 ≤ D) (x : Nat) : ∀ i, sv m (plQ m t D l i) x = sv m (selL (oddQ m t D l i) (8 * D + dg m t)) x
  | 0 => by
    show sv m [] x = sv m (selL (fun _ => false) _) x
    rw [selL_none (fun _ _ => rfl)]
  | i + 1 => by
    show sv m (plQ m t D l i ++ [_]) x = _
    have e : selL (oddQ m t D l (i + 1)) (8 * D + dg m t) = selL (fun j => oddQ m t D l i j != decide (j = kq m t D l i)) (8 * D + dg m t) := selL_congr (fun j _ => by
      show (if j = kq m t D l i then !(oddQ m t D l i (kq m t D l i)) else oddQ m t D l i j) = _
      by_cases h : j = kq m t D l i
      · rw [if_pos h, h]; simp
      · rw [if_neg h, decide_eq_false h]; simp)
    rw [e, sv_xor, sv_snoc, sv_odd hD x i]
    congr 1
    rw [sv_sel, xs_one (plc7_lt hD (l.getD i 0)) (fun j hj hne => by rw [if_neg]; simpa [kq] using hne)]
    rw [if_pos]
    · rfl
    · exact decide_eq_true rfl
end
theorem syn_congr {m t : Nat} {P Q : List Nat} (h : ∀ x, 1 ≤ x → x ≤ 2 * t → sv m P x = sv m Q x) : synL m t P = synL m t Q := tb_congr (fun i hi => h (i + 1) (by omega) (by omega))
theorem syn_zero {m t : Nat} {P : List Nat} (h : ∀ x, 1 ≤ x → x ≤ 2 * t → sv m P x = 0) : cleanB ((synL m t P).map Int.ofNat) = true := clean_true (fun i hi => by
  rw [List.length_map, synL_len] at hi
  rw [getD_ofNat, cf_syn P hi, h (i + 1) (by omega) (by omega)]
  rfl)
theorem syn_tells {m t : Nat} (hMT : MT m t) {f : Nat → Bool} {n : Nat} (hn : n ≤ N m) (hle : (selL f n).length ≤ 2 * t) : cleanB ((synL m t (selL f n)).map Int.ofNat) = decide ((selL f n).length = 0) := by
  by_cases h : (selL f n).length = 0
  · rw [decide_eq_true h]
    refine syn_zero (fun x _ _ => ?_)
    rw [List.eq_nil_of_length_eq_zero h]
    rfl
  · rw [decide_eq_false h]
    by_cases hz : ∀ i, i < 2 * t → sv m (selL f n) (i + 1) = 0
    · exact absurd (by rw [sel_far hMT.ok hn hle hz]; rfl) h
    · obtain ⟨i, hi⟩ := Classical.not_forall.1 hz
      obtain ⟨h1, h2⟩ := Classical.not_imp.1 hi
      refine clean_false (i := i) (by rw [List.length_map, synL_len]; exact h1) ?_
      rw [getD_ofNat, cf_syn _ h1]
      omega

theorem tells_long (a0 a1 a2 : Int) (A3 : Option Addr) (n3 c3 : Nat) (p3 : List Nat) (A4 : Option Addr) (n4 c4 : Nat) (l4 : List Int) (e : Nat → Addr) (w : World) (ha3 : Has (sl 1 A3 n3 (nats .u8 p3)) w) (_hp3 : ∀ x ∈ p3, x < 256) (hn3 : n3 ≤ 9223372036854775807) (hcp3 : n3 ≤ c3) (hs4 : Has (sl 1 A4 n4 (ints .i64 l4)) w) (hn4 : n4 ≤ 9223372036854775807) (he : Er e w 1) (h30 : 30 < n4) : Spec1 Tryd.prog 13 [.int .i64 a0, .int .i64 a1, .int .i64 a2, .slice A3 n3 c3, .slice A4 n4 c4] w (.bool true) := by
  have hla3 := nats_len ha3
  subst hla3
  have hla4 := ints_len hs4
  subst hla4
  refine spec_of Tryd.func13 rfl Tryd.ntmps13 rfl ?_
  refine CW.seq ?_
  refine CW.reg [0] rfl ?_   -- 0, law.go:89
  refine s_as 10 rfl rfl ?_
  refine SX.next ?_
  refine CW.seq ?_
  refine CW.reg [0, 1] rfl ?_   -- 1, law.go:90
  refine s_call1 33 rfl rfl rfl rfl (fun w hw => first7_spec e w (hw.er he)) (fun _ _ => trivial) ?_
  refine s_as 11 rfl rfl ?_
  refine SX.next ?_
  refine CW.seq ?_
  refine CW.reg [0, 1, 2, 3, 4, 5, 6, 7, 8, 9, 10, 11] rfl ?_   -- 2, law.go:91
  refine s_mv 35 rfl rfl ?_
  refine s_mv 36 rfl rfl ?_
  refine s_mv 37 rfl rfl ?_
  refine s_call 38 rfl rfl rfl rfl (fun w hw => shalelaw7_made a0 a1 a2 w) (fun _ _ => trivial) (fun z hz => ?_)
  obtain ⟨c, q, m, t, D, g⟩ := z
  obtain ⟨hC, hq, hg, hmM, htT, hdB, hm6⟩ := hz
  simp only at hC hq hg hmM htT hdB hm6
  obtain ⟨hMT, h1D, hDm, hfit⟩ := hC
  have hm := hMT.ok
  have hd1 := hMT.d1
  have hd5 := hMT.d560
  have hp1 := hMT.p1
  have hp7 := hMT.p70
  refine SX.pre (C' := Sto w [codeA c m t D q, genOf m t g]) (fun _ hw => hw) ?_
  refine s_mv 34 rfl rfl ?_
  refine s_ext 39 rfl rfl rfl ?_
  refine s_ext 40 rfl rfl rfl ?_
  refine s_ext 41 rfl rfl rfl ?_
  refine s_alloc 13 rfl (fun _ _ => trivial) (fun b13 => ?_)
  refine s_as 12 rfl rfl ?_
  refine s_stAll 0 rfl rfl (by kernel_rfl) rfl rfl rfl rfl (fun _ _ => trivial) ?_
  refine s_as 14 rfl rfl ?_
  refine SX.next ?_
  refine CW.seq ?_
  refine CW.seq ?_
  refine CW.reg [0, 1, 2, 3, 4, 5, 6, 7, 8, 9, 10] rfl ?_   -- 3, law.go:92
  refine s_mv 42 rfl rfl ?_
  refine s_not 43 rfl rfl ?_
  refine s_mv 44 rfl rfl ?_
  refine s_mv 45 rfl rfl ?_
  refine s_len 46 rfl rfl ?_
  refine s_gt 47 rfl rfl rfl (decide_eq_true (by omega)) ?_
  refine s_pickF 48 rfl rfl rfl ?_
  refine s_mv 49 rfl rfl ?_
  refine SX.skip rfl ?_
  refine SX.skip rfl ?_
  refine s_pickT 52 rfl rfl rfl ?_
  refine SX.next ?_
  refine CW.condT rfl ?_
  refine CW.seq ?_
  refine CW.reg [0, 1, 2, 3, 4] rfl ?_   -- 4, law.go:93
  refine s_mv 53 rfl rfl ?_
  refine s_mv 54 rfl rfl ?_
  refine s_mv 55 rfl rfl ?_
  refine s_pickT 56 rfl rfl rfl ?_
  refine s_as 10 rfl rfl ?_
  refine SX.next ?_
  refine CW.ret ?_
  exact KN.ret (rs := [.tmp 10]) Tryd.results13 rfl (fun w hw => ⟨rfl, hw.nothing⟩)

set_option maxHeartbeats 1600000 in

theorem tells_ok (a0 a1 a2 : Int) (A3 : Option Addr) (n3 c3 : Nat) (p3 : List Nat) (A4 : Option Addr) (n4 c4 : Nat) (l4 : List Int) (e : Nat → Addr) (w : World) (ha3 : Has (sl 1 A3 n3 (nats .u8 p3)) w) (hp3 : ∀ x ∈ p3, x < 256) (hn3 : n3 ≤ 9223372036854775807) (hcp3 : n3 ≤ c3) (hs4 : Has (sl 1 A4 n4 (ints .i64 l4)) w) (hn4 : n4 ≤ 9223372036854775807) (he : Er e w 1) (h30 : n4 ≤ 30) : Spec1 Tryd.prog 13 [.int .i64 a0, .int .i64 a1, .int .i64 a2, .slice A3 n3 c3, .slice A4 n4 c4] w (.bool true) := by
  have hla3 := nats_len ha3
  subst hla3
  have hla4 := ints_len hs4
  subst hla4
  refine spec_of Tryd.func13 rfl Tryd.ntmps13 rfl ?_
  refine CW.seq ?_
  refine CW.reg [0] rfl ?_   -- 0, law.go:89
  refine s_as 10 rfl rfl ?_
  refine SX.next ?_
  refine CW.seq ?_
  refine CW.reg [0, 1] rfl ?_   -- 1, law.go:90
  refine s_call1 33 rfl rfl rfl rfl (fun w hw => first7_spec e w (hw.er he)) (fun _ _ => trivial) ?_
  refine s_as 11 rfl rfl ?_
  refine SX.next ?_
  refine CW.seq ?_
  refine CW.reg [0, 1, 2, 3, 4, 5, 6, 7, 8, 9, 10, 11] rfl ?_   -- 2, law.go:91
  refine s_mv 35 rfl rfl ?_
  refine s_mv 36 rfl rfl ?_
  refine s_mv 37 rfl rfl ?_
  refine s_call 38 rfl rfl rfl rfl (fun w hw => shalelaw7_made a0 a1 a2 w) (fun _ _ => trivial) (fun z hz => ?_)
  obtain ⟨c, q, m, t, D, g⟩ := z
  obtain ⟨hC, hq, hg, hmM, htT, hdB, hm6⟩ := hz
  simp only at hC hq hg hmM htT hdB hm6
  obtain ⟨hMT, h1D, hDm, hfit⟩ := hC
  have hm := hMT.ok
  have hd1 := hMT.d1
  have hd5 := hMT.d560
  have hp1 := hMT.p1
  have hp7 := hMT.p70
  refine SX.pre (C' := Sto w [codeA c m t D q, genOf m t g]) (fun _ hw => hw) ?_
  refine s_mv 34 rfl rfl ?_
  refine s_ext 39 rfl rfl rfl ?_
  refine s_ext 40 rfl rfl rfl ?_
  refine s_ext 41 rfl rfl rfl ?_
  refine s_alloc 13 rfl (fun _ _ => trivial) (fun b13 => ?_)
  refine s_as 12 rfl rfl ?_
  refine s_stAll 0 rfl rfl (by kernel_rfl) rfl rfl rfl rfl (fun _ _ => trivial) ?_
  refine s_as 14 rfl rfl ?_
  refine SX.next ?_
  refine CW.seq ?_
  refine CW.seq ?_
  refine CW.reg [0, 1, 2, 3, 4, 5, 6, 7, 8, 9, 10] rfl ?_   -- 3, law.go:92
  refine s_mv 42 rfl rfl ?_
  refine s_not 43 rfl rfl ?_
  refine s_mv 44 rfl rfl ?_
  refine s_mv 45 rfl rfl ?_
  refine s_len 46 rfl rfl ?_
  refine s_gt 47 rfl rfl rfl (decide_eq_false (by omega)) ?_
  refine s_pickF 48 rfl rfl rfl ?_
  refine s_mv 49 rfl rfl ?_
  refine s_mv 50 rfl rfl ?_
  refine s_not 51 rfl rfl ?_
  refine s_pickF 52 rfl rfl rfl ?_
  refine SX.next ?_
  refine CW.condF rfl ?_
  refine CW.skip ?_
  refine KN.code ?_
  refine CW.seq ?_
  refine CW.reg [0, 1, 2, 3, 4] rfl ?_   -- 5, law.go:95
  refine s_mv 57 rfl rfl ?_
  refine s_fa 58 rfl rfl ?_
  refine s_ldB 59 0 rfl rfl rfl (v := .int .i64 (D : Nat)) rfl ?_
  refine s_call 60 rfl rfl rfl rfl (fun w hw => shalelaw7_fit A3 p3.length c3 p3 D w (hw.old ha3) hp3 (by omega) hcp3 (by omega)) (fun _ _ => trivial) (fun q60 hq60 => ?_)
  refine s_as 15 rfl rfl ?_
  refine SX.next ?_
  refine CW.seq ?_
  refine CW.reg [0, 1, 2, 3, 4, 5, 6, 7] rfl ?_   -- 6, law.go:96
  refine s_mv 62 rfl rfl ?_
  refine s_mv 63 rfl rfl ?_
  refine s_call 64 rfl rfl rfl rfl (fun w hw => cFast_ok c m t D q q60.1 (fitL p3 D).length q60.2 (fitL p3 D) w hMT hq (hw.has (i := 2) rfl) ((hw.has (i := 0) rfl).of_own) (fitL_lt hp3 D) (by have := (fitL_len p3 D); omega) hq60 (fitL_len p3 D)) (fun _ _ => trivial) (fun q64 hq64 => ?_)
  refine s_mv 61 rfl rfl ?_
  refine s_ext 65 rfl rfl rfl ?_
  refine s_ext 66 rfl rfl rfl ?_
  refine s_as 16 rfl rfl ?_
  refine s_as 17 rfl rfl ?_
  refine SX.next ?_
  refine CW.seq ?_
  refine CW.reg [0, 1, 2, 3, 4, 5, 6, 7, 8] rfl ?_   -- 7, law.go:97
  refine s_mv 68 rfl rfl ?_
  refine s_mv 69 rfl rfl ?_
  refine s_mv 70 rfl rfl ?_
  have hfl := fitL_len p3 D
  have hflt := fitL_lt hp3 D
  have hpl := encB_len m t (fitL p3 D)
  have hplt := enc_lt hMT (fitL p3 D)
  have h40 := hMT.t40
  have h2N : 2 * t < N m := by have := N_succ m; have : 2 ^ 6 ≤ 2 ^ m := Nat.pow_le_pow_right (by omega) hm6; omega
  have hcl0 := syn_zero (m := m) (t := t) (fun x h1 h2 => right_zero hMT hfl h1 h2 (by omega))
  refine s_call 71 rfl rfl rfl rfl (fun w hw => of7_ok c m t D q q60.1 (fitL p3 D).length q60.2 (fitL p3 D) q64.1 (encB m t (fitL p3 D)).length q64.2 (encB m t (fitL p3 D)) w hMT hDm (hw.has (i := 3) rfl) ((hw.has (i := 1) rfl).of_own) (fitL_lt hp3 D) (by omega) hq60 ((hw.has (i := 0) rfl).of_own) (enc_lt hMT (fitL p3 D)) (by omega) hq64 hfl hpl) (fun _ _ => trivial) (fun q71 hq71 => ?_)
  refine s_mv 67 rfl rfl ?_
  refine s_ext 72 rfl rfl rfl ?_
  refine s_ext 73 rfl rfl rfl ?_
  refine s_as 18 rfl rfl ?_
  refine s_as 19 rfl rfl ?_
  refine SX.next ?_
  refine CW.seq ?_
  refine CW.seq ?_
  refine CW.reg [0, 1, 2, 3, 4, 5, 6, 7, 8, 9, 10, 11, 12, 13, 14] rfl ?_   -- 8, law.go:98
  refine s_mv 74 rfl rfl ?_
  refine s_neNN 75 rfl rfl ?_
  refine s_mv 76 rfl rfl ?_
  refine s_mv 77 rfl rfl ?_
  refine s_call1 78 rfl rfl rfl rfl (v := .bool true) (fun w hw => by have := clean7_spec q71.1 (synL m t (posL m t (fitL p3 D) (encB m t (fitL p3 D)) (8 * D + dg m t))).length q71.2 ((synL m t (posL m t (fitL p3 D) (encB m t (fitL p3 D)) (8 * D + dg m t))).map Int.ofNat) w (by rw [← nats_ints]; exact (hw.has (i := 0) rfl).of_own) (by rw [synL_len]; omega); rw [hcl0] at this; exact this) (fun _ _ => trivial) ?_
  refine s_not 79 rfl rfl ?_
  refine s_pickF 80 rfl rfl rfl ?_
  refine s_mv 81 rfl rfl ?_
  refine s_mv 82 rfl rfl ?_
  refine s_len 83 rfl rfl ?_
  refine s_fa 84 rfl rfl ?_
  refine s_ldB 85 3 rfl rfl rfl (v := .int .i64 (t : Nat)) rfl ?_
  refine s_mul 86 rfl rfl rfl (r := ((2 * t : Nat) : Int)) (by rw [show (2 : Int) * ((t : Nat) : Int) = ((2 * t : Nat) : Int) by omega]; exact w64 (by omega)) ?_
  refine s_ne 87 rfl rfl rfl (decide_eq_false (fun h => h (by rw [synL_len]))) ?_
  refine s_pickF 88 rfl rfl rfl ?_
  refine SX.next ?_
  refine CW.condF rfl ?_
  refine CW.skip ?_
  refine KN.code ?_
  refine CW.seq ?_
  refine CW.reg [0, 1, 2, 3] rfl ?_   -- 10, law.go:101
  refine s_ldW 89 3 rfl rfl rfl ?_
  refine s_call1 90 rfl rfl rfl rfl (fun w hw => rBits_spec m t D g w hMT hDm) (fun _ _ => trivial) ?_
  refine s_make 91 (8 * D + dg m t) rfl rfl rfl rfl rfl (by omega) (fun _ _ => trivial) (fun bo => ?_)
  refine s_as 20 rfl rfl ?_
  refine SX.next ?_
  refine CW.seq ?_
  refine CW.reg [0] rfl ?_   -- 11, law.go:102
  refine s_as 21 rfl rfl ?_
  refine SX.next ?_
  refine CW.seq ?_
  refine CW.seq ?_
  refine CW.reg [0] rfl ?_   -- 12, law.go:103
  refine s_as 22 rfl rfl ?_
  refine SX.next ?_
  refine CW.block ?_
  refine CW.loop (G := Nat × (Option Addr × Nat) × (Option Addr × Nat) × (Option Addr × Nat)) (fun z => [(4, .slice A4 l4.length c4), (12, .pointer (some ⟨c, 0, none⟩)), (13, .pointer (some ⟨b13, 0, none⟩)), (15, .slice z.2.2.1.1 (dQ m t D l4 (fitL p3 D) z.1).length z.2.2.1.2), (16, .slice z.2.2.2.1 (pQ m t D l4 (encB m t (fitL p3 D)) z.1).length z.2.2.2.2), (20, .slice (some ⟨bo, 0, none⟩) (8 * D + dg m t) (8 * D + dg m t)), (21, .slice z.2.1.1 (plQ m t D l4 z.1).length z.2.1.2), (22, .int .i64 (z.1 : Nat))]) (fun z => Sto w [own 3 1 z.2.1.1 (plQ m t D l4 z.1).length z.2.1.2 (nats .i64 (plQ m t D l4 z.1)), blk bo 4 (btab (8 * D + dg m t) (oddQ m t D l4 z.1)), own 5 1 z.2.2.1.1 (dQ m t D l4 (fitL p3 D) z.1).length z.2.2.1.2 (nats .u8 (dQ m t D l4 (fitL p3 D) z.1)), own 5 1 z.2.2.2.1 (pQ m t D l4 (encB m t (fitL p3 D)) z.1).length z.2.2.2.2 (nats .u8 (pQ m t D l4 (encB m t (fitL p3 D)) z.1)), blk b13 27 (refC m t D g), codeA c m t D q, genOf m t g]) (fun z => z.1 ≤ l4.length ∧ (plQ m t D l4 z.1).length ≤ z.2.1.2 ∧ (dQ m t D l4 (fitL p3 D) z.1).length ≤ z.2.2.1.2 ∧ (pQ m t D l4 (encB m t (fitL p3 D)) z.1).length ≤ z.2.2.2.2) (fun z => l4.length - z.1) (0, (none, 0), q60, q64) ⟨rfl, rfl, rfl, rfl, rfl, rfl, rfl, rfl, trivial⟩ (fun _ hw => by rw [btab_zero] at hw; exact (hw.begin_ 3 1).pick [0, 0, 2, 1, 1, 1, 1] rfl) ⟨Nat.zero_le _, Nat.le_refl _, hq60, hq64⟩ ?_
  rintro ⟨i, y⟩ ⟨hi, hy1, hy2, hy3⟩
  simp only at hi hy1 hy2 hy3
  dsimp only
  have hdl := dQ_len (m := m) (t := t) (D := D) l4 (fitL p3 D) i
  have hpl2 := pQ_len (m := m) (t := t) (D := D) l4 (encB m t (fitL p3 D)) i
  have hdlt := dQ_lt (m := m) (t := t) (D := D) l4 hflt i
  have hplt2 := pQ_lt (m := m) (t := t) (D := D) l4 hplt i
  have hpll := plQ_len (m := m) (t := t) (D := D) l4 i
  refine CW.seq ?_
  refine CW.seq ?_
  refine CW.reg [0, 1, 2, 3] rfl ?_   -- 13, law.go:103
  refine s_mv 92 rfl rfl ?_
  refine s_mv 93 rfl rfl ?_
  refine s_len 94 rfl rfl ?_
  refine s_lt 95 rfl rfl rfl rfl ?_
  refine SX.next ?_
  refine CW.test rfl (fun hc => ?_) (fun hc => ?_)
  · skip
    have hk : (kq m t D l4 i) < (8 * D + dg m t) := plc7_lt h1D _
    refine CW.skip ?_
    refine KN.code ?_
    refine CW.seq ?_
    refine CW.block ?_
    refine CW.seq ?_
    refine CW.regD (.st true 0 (.st true 1 (.st true 2 (.st true 3 (.st true 4 (.st true 7 (.st true 10 (.st false 5 (.st true 6 (.st false 8 (.st true 9 (.st false 11 (.st true 12 (.st true 13 .done)))))))))))))) (Sto w [own 3 1 y.1.1 (plQ m t D l4 i).length y.1.2 (nats .i64 (plQ m t D l4 i)), blk bo 4 (btab (8 * D + dg m t) (oddQ m t D l4 i)), own 5 1 y.2.1.1 (dQ m t D l4 (fitL p3 D) i).length y.2.1.2 (nats .u8 (dQ m t D l4 (fitL p3 D) i)), own 5 1 y.2.2.1 (pQ m t D l4 (encB m t (fitL p3 D)) i).length y.2.2.2 (nats .u8 (pQ m t D l4 (encB m t (fitL p3 D)) i)), blk b13 27 (refC m t D g), codeA c m t D q, genOf m t g]) mixed (by kernel_rfl) (fun _ h => h.drew) (fun _ hw => hw) ?_
    refine s_mv 98 rfl rfl ?_
    refine s_mv 99 rfl rfl ?_
    refine s_iaV 100 i (fun w hw => hw.old hs4) rfl rfl rfl rfl (by omega) ?_
    refine s_ldVS 101 (fun w hw => hw.old hs4) rfl rfl (by rw [Nat.mul_one]; exact intsAt (by omega)) (by omega) ?_
    refine s_ldRS 102 (cs := (refC m t D g).toList) rfl rfl rfl (fun _ hw => hw.blkRow (i := 4) rfl) ?_
    refine s_ldRS 105 (cs := (refC m t D g).toList) rfl rfl rfl (fun _ hw => hw.blkRow (i := 4) rfl) ?_
    refine s_ldRS 108 (cs := (refC m t D g).toList) rfl rfl rfl (fun _ hw => hw.blkRow (i := 4) rfl) ?_
    refine s_call1 103 rfl rfl rfl rfl (fun w hw => rBits_spec m t D g w hMT hDm) (fun _ hw => hw) ?_
    refine s_rem 104 rfl rfl rfl (by omega) rfl ?_
    refine s_call1 106 rfl rfl rfl rfl (fun w hw => rBits_spec m t D g w hMT hDm) (fun _ hw => hw) ?_
    refine s_add 107 rfl rfl rfl (r := (l4.getD i 0).tmod ((8 * D + dg m t : Nat) : Int) + ((8 * D + dg m t : Nat) : Int)) (w64 (by have := tmod_lt2 (k := ((8 * D + dg m t : Nat) : Int)) (by omega) (l4.getD i 0); omega)) ?_
    refine s_call1 109 rfl rfl rfl rfl (fun w hw => rBits_spec m t D g w hMT hDm) (fun _ hw => hw) ?_
    refine s_rem 110 rfl rfl rfl (by omega) (r := (((kq m t D l4 i) : Nat) : Int)) (mkm_val (by omega) _) ?_
    refine s_as 23 rfl rfl ?_
    refine SX.next ?_
    refine CW.seq ?_
    refine CW.reg [0, 1, 2, 3, 4] rfl ?_   -- 16, law.go:105
    refine s_mv 111 rfl rfl ?_
    refine s_mv 112 rfl rfl ?_
    refine s_bsl 113 rfl rfl (cells := #[.int .i64 (((kq m t D l4 i) : Nat) : Int)]) (by kernel_rfl) rfl (fun _ _ => trivial) (fun gb => ?_)
    refine s_app 114 1 rfl rfl rfl rfl (ys := [.int .i64 (((kq m t D l4 i) : Nat) : Int)]) (fun w hw => Has.cong ((hw.has (i := 0) rfl).blk_sl (m := 1) rfl) rfl) rfl rfl (by omega) (by unfold maxLen; omega) (by omega) (fun _ _ _ _ => trivial) (fun A2 c2 hc2 => ?_)
    refine s_as 21 rfl rfl ?_
    refine SX.next ?_
    refine CW.seq ?_
    refine CW.reg [0, 1, 2, 3, 4, 5, 6, 7, 8] rfl ?_   -- 17, law.go:106
    refine s_mv 115 rfl rfl ?_
    refine s_mv 116 rfl rfl ?_
    refine s_mv 117 rfl rfl ?_
    refine s_mv 118 rfl rfl ?_
    refine s_ia0 119 (kq m t D l4 i) rfl rfl rfl rfl hk ?_
    refine s_ldB 120 2 rfl rfl rfl (btab_at hk) ?_
    refine s_not 121 rfl rfl ?_
    refine s_ia0 122 (kq m t D l4 i) rfl rfl rfl rfl hk ?_
    refine s_stB 2 rfl rfl rfl rfl rfl (by rw [btab_size]; exact hk) (fun _ _ => trivial) ?_
    refine SX.next ?_
    refine CW.seq ?_
    refine CW.reg [0, 1, 2, 3, 4, 5, 6, 7, 8, 9, 10, 11] rfl ?_   -- 18, law.go:107
    refine s_mv 124 rfl rfl ?_
    refine s_mv 125 rfl rfl ?_
    refine s_mv 126 rfl rfl ?_
    refine s_mv 127 rfl rfl ?_
    refine s_call 128 rfl rfl rfl rfl (fun w hw => cFlip_ok c m t D q y.2.1.1 (dQ m t D l4 (fitL p3 D) i).length y.2.1.2 (dQ m t D l4 (fitL p3 D) i) y.2.2.1 (pQ m t D l4 (encB m t (fitL p3 D)) i).length y.2.2.2 (pQ m t D l4 (encB m t (fitL p3 D)) i) (kq m t D l4 i) w hMT hDm (hw.has (i := 6) rfl) ((hw.has (i := 3) rfl).of_own) hdlt (by omega) hy2 ((hw.has (i := 4) rfl).of_own) hplt2 (by omega) hy3 (by omega) (by omega) hk) (fun _ _ => trivial) (fun q128 hq128 => ?_)
    refine s_mv 123 rfl rfl ?_
    refine s_ext 129 rfl rfl rfl ?_
    refine s_ext 130 rfl rfl rfl ?_
    refine s_ext 131 rfl rfl rfl ?_
    refine s_as 24 rfl rfl ?_
    refine s_as 25 rfl rfl ?_
    refine s_as 26 rfl rfl ?_
    refine SX.next ?_
    refine CW.seq ?_
    refine CW.seq ?_
    refine CW.reg [0, 1] rfl ?_   -- 19, law.go:108
    refine s_mv 132 rfl rfl ?_
    refine s_neNN 133 rfl rfl ?_
    refine SX.next ?_
    refine CW.condF rfl ?_
    refine CW.skip ?_
    refine KN.code ?_
    refine CW.seq ?_
    refine CW.reg [0, 1] rfl ?_   -- 21, law.go:111
    refine s_mv 134 rfl rfl ?_
    refine s_as 15 rfl rfl ?_
    refine SX.next ?_
    refine CW.reg [0, 1] rfl ?_   -- 22, law.go:112
    refine s_mv 135 rfl rfl ?_
    refine s_as 16 rfl rfl ?_
    refine SX.end_ ?_
    refine KN.blk ?_
    refine KN.code ?_
    refine CW.reg [0, 1, 2] rfl ?_   -- 14, law.go:103
    refine s_mv 96 rfl rfl ?_
    refine s_add 97 rfl rfl rfl (r := ((i + 1 : Nat) : Int)) (w64 (by omega)) ?_
    refine s_as 22 rfl rfl ?_
    refine SX.end_ ?_
    exact KN.back (i + 1, (A2, c2), q128.1, q128.2) ⟨rfl, rfl, rfl, rfl, rfl, rfl, by show _ = some (Value.slice A2 (plQ m t D l4 (i + 1)).length c2); rw [show (plQ m t D l4 (i + 1)).length = (plQ m t D l4 i).length + 1 by rw [plQ_len, plQ_len]]; rfl, rfl, trivial⟩ (fun _ hw => by
      have e1 : (plQ m t D l4 (i + 1)).length = (plQ m t D l4 i).length + 1 := by rw [plQ_len, plQ_len]
      simp only [e1]
      have e2 : nats .i64 (plQ m t D l4 (i + 1)) = nats .i64 (plQ m t D l4 i) ++ [.int .i64 ((kq m t D l4 i : Nat) : Int)] := by simp [plQ, nats]
      rw [e2]
      have e3 : btab (8 * D + dg m t) (oddQ m t D l4 (i + 1)) = (btab (8 * D + dg m t) (oddQ m t D l4 i)).setIfInBounds (kq m t D l4 i) (.bool (!(oddQ m t D l4 i (kq m t D l4 i)))) := by rw [btab_set]; rfl
      rw [e3]
      exact hw.pick [3, 3, 0, 0, 3, 3, 3] rfl) ⟨by simp only; omega, by simp only; rw [plQ_len]; omega, hq128.1, hq128.2⟩ (by simp only; omega)
  · skip
    obtain rfl : i = l4.length := by omega
    have hnb : (8 * D + dg m t) ≤ 20000 := by omega
    refine CW.exit rfl ?_
    refine KN.code ?_
    refine CW.seq ?_
    refine CW.reg [0] rfl ?_   -- 23, law.go:114
    refine s_as 27 rfl rfl ?_
    refine SX.next ?_
    refine CW.seq ?_
    refine CW.seq ?_
    refine CW.reg [0] rfl ?_   -- 24, law.go:115
    refine s_as 28 rfl rfl ?_
    refine SX.next ?_
    refine CW.block ?_
    refine CW.loop (G := Nat) (fun k => [(12, .pointer (some ⟨c, 0, none⟩)), (13, .pointer (some ⟨b13, 0, none⟩)), (15, .slice y.2.1.1 (dQ m t D l4 (fitL p3 D) l4.length).length y.2.1.2), (16, .slice y.2.2.1 (pQ m t D l4 (encB m t (fitL p3 D)) l4.length).length y.2.2.2), (20, .slice (some ⟨bo, 0, none⟩) (8 * D + dg m t) (8 * D + dg m t)), (21, .slice y.1.1 (plQ m t D l4 l4.length).length y.1.2), (27, .int .i64 ((selL (oddQ m t D l4 l4.length) k).length : Nat)), (28, .int .i64 (k : Nat))]) (fun _ => Sto w [own 3 1 y.1.1 (plQ m t D l4 l4.length).length y.1.2 (nats .i64 (plQ m t D l4 l4.length)), blk bo 4 (btab (8 * D + dg m t) (oddQ m t D l4 l4.length)), own 5 1 y.2.1.1 (dQ m t D l4 (fitL p3 D) l4.length).length y.2.1.2 (nats .u8 (dQ m t D l4 (fitL p3 D) l4.length)), own 5 1 y.2.2.1 (pQ m t D l4 (encB m t (fitL p3 D)) l4.length).length y.2.2.2 (nats .u8 (pQ m t D l4 (encB m t (fitL p3 D)) l4.length)), blk b13 27 (refC m t D g), codeA c m t D q, genOf m t g]) (fun k => k ≤ (8 * D + dg m t)) (fun k => (8 * D + dg m t) - k) 0 ⟨rfl, rfl, rfl, rfl, rfl, rfl, rfl, rfl, trivial⟩ (fun _ hw => hw) (Nat.zero_le _) ?_
    intro k hk
    have hsl := selL_len (oddQ m t D l4 l4.length) k
    refine CW.seq ?_
    refine CW.seq ?_
    refine CW.reg [0, 1, 2, 3] rfl ?_   -- 25, law.go:115
    refine s_mv 136 rfl rfl ?_
    refine s_mv 137 rfl rfl ?_
    refine s_len 138 rfl rfl ?_
    refine s_lt 139 rfl rfl rfl rfl ?_
    refine SX.next ?_
    refine CW.test rfl (fun hc => ?_) (fun hc => ?_)
    · skip
      refine CW.skip ?_
      refine KN.code ?_
      refine CW.seq ?_
      refine CW.block ?_
      refine CW.seq ?_
      refine CW.reg [0, 1, 2, 3] rfl ?_   -- 27, law.go:116
      refine s_mv 142 rfl rfl ?_
      refine s_mv 143 rfl rfl ?_
      refine s_ia0 144 k rfl rfl rfl rfl (by omega) ?_
      refine s_ldB 145 1 rfl rfl rfl (btab_at (by omega)) ?_
      refine SX.next ?_
      refine CW.cond rfl (fun hc4 => ?_) (fun hc4 => ?_)
      · skip
        have hnx : (selL (oddQ m t D l4 l4.length) (k + 1)).length = (selL (oddQ m t D l4 l4.length) k).length + 1 := by show (selL _ k ++ _).length = _; rw [if_pos hc4, List.length_append]; rfl
        refine CW.reg [0, 1, 2] rfl ?_   -- 28, law.go:117
        refine s_mv 146 rfl rfl ?_
        refine s_add 147 rfl rfl rfl (r := (((selL (oddQ m t D l4 l4.length) k).length + 1 : Nat) : Int)) (w64 (by omega)) ?_
        refine s_as 27 rfl rfl ?_
        refine SX.end_ ?_
        refine KN.blk ?_
        refine KN.code ?_
        refine CW.reg [0, 1, 2] rfl ?_   -- 26, law.go:115
        refine s_mv 140 rfl rfl ?_
        refine s_add 141 rfl rfl rfl (r := ((k + 1 : Nat) : Int)) (w64 (by omega)) ?_
        refine s_as 28 rfl rfl ?_
        refine SX.end_ ?_
        exact KN.back (k + 1) ⟨rfl, rfl, rfl, rfl, rfl, rfl, by rw [hnx]; rfl, rfl, trivial⟩ (fun _ hw => hw) (by omega) (by omega)
      · skip
        have hnx : (selL (oddQ m t D l4 l4.length) (k + 1)).length = (selL (oddQ m t D l4 l4.length) k).length := by show (selL _ k ++ _).length = _; rw [if_neg (by rw [hc4]; decide), List.append_nil]
        refine CW.skip ?_
        refine KN.blk ?_
        refine KN.code ?_
        refine CW.reg [0, 1, 2] rfl ?_   -- 26, law.go:115
        refine s_mv 140 rfl rfl ?_
        refine s_add 141 rfl rfl rfl (r := ((k + 1 : Nat) : Int)) (w64 (by omega)) ?_
        refine s_as 28 rfl rfl ?_
        refine SX.end_ ?_
        exact KN.back (k + 1) ⟨rfl, rfl, rfl, rfl, rfl, rfl, by rw [hnx]; rfl, rfl, trivial⟩ (fun _ hw => hw) (by omega) (by omega)
    · skip
      obtain rfl : k = (8 * D + dg m t) := by omega
      have hsw := fun (x : Nat) (h1 : 1 ≤ x) (h2 : x ≤ 2 * t) => sv_word l4 hMT h1D hfl h1 h2 (by omega) l4.length
      have hso := fun (x : Nat) => sv_odd (m := m) (t := t) l4 h1D x l4.length
      have hsc := syn_congr (m := m) (t := t) hsw
      have hsc2 := syn_congr (m := m) (t := t) (fun x (h1 : 1 ≤ x) (h2 : x ≤ 2 * t) => (hsw x h1 h2).trans (hso x))
      have hsl1 := synL_len m t (posL m t (dQ m t D l4 (fitL p3 D) l4.length) (pQ m t D l4 (encB m t (fitL p3 D)) l4.length) (8 * D + dg m t))
      have hsl2 := synL_len m t (plQ m t D l4 l4.length)
      refine CW.exit rfl ?_
      refine KN.code ?_
      refine CW.seq ?_
      refine CW.reg [0, 1, 2, 3, 4, 5, 6, 7, 8] rfl ?_   -- 29, law.go:120
      refine s_mv 149 rfl rfl ?_
      refine s_mv 150 rfl rfl ?_
      refine s_mv 151 rfl rfl ?_
      refine s_call 152 rfl rfl rfl rfl (fun w hw => of7_ok c m t D q y.2.1.1 (dQ m t D l4 (fitL p3 D) l4.length).length y.2.1.2 (dQ m t D l4 (fitL p3 D) l4.length) y.2.2.1 (pQ m t D l4 (encB m t (fitL p3 D)) l4.length).length y.2.2.2 (pQ m t D l4 (encB m t (fitL p3 D)) l4.length) w hMT hDm (hw.has (i := 5) rfl) ((hw.has (i := 2) rfl).of_own) hdlt (by omega) hy2 ((hw.has (i := 3) rfl).of_own) hplt2 (by omega) hy3 (by omega) (by omega)) (fun _ _ => trivial) (fun q152 hq152 => ?_)
      refine s_mv 148 rfl rfl ?_
      refine s_ext 153 rfl rfl rfl ?_
      refine s_ext 154 rfl rfl rfl ?_
      refine s_as 29 rfl rfl ?_
      refine s_as 30 rfl rfl ?_
      refine SX.next ?_
      refine CW.seq ?_
      refine CW.reg [0, 1, 2, 3, 4, 5, 6, 7] rfl ?_   -- 30, law.go:121
      refine s_mv 156 rfl rfl ?_
      refine s_mv 157 rfl rfl ?_
      refine s_call 158 rfl rfl rfl rfl (fun w hw => bits7_ok c m t D q y.1.1 y.1.2 (plQ m t D l4 l4.length) w hMT hDm (hw.has (i := 6) rfl) ((hw.has (i := 1) rfl).of_own) (by omega) (plQ_lt l4 h1D _)) (fun _ _ => trivial) (fun q158 hq158 => ?_)
      refine s_mv 155 rfl rfl ?_
      refine s_ext 159 rfl rfl rfl ?_
      refine s_ext 160 rfl rfl rfl ?_
      refine s_as 31 rfl rfl ?_
      refine s_as 32 rfl rfl ?_
      refine SX.next ?_
      refine CW.seq ?_
      refine CW.reg [0, 1, 2, 3, 4, 5, 6, 7, 8, 9, 10, 11, 12, 13, 14, 15, 16, 17, 18, 19, 20, 21, 22, 23, 24, 25, 26, 27, 28, 29, 30, 31] rfl ?_   -- 31, law.go:122
      refine s_mv 161 rfl rfl ?_
      refine s_eqNN 162 rfl rfl ?_
      refine s_mv 163 rfl rfl ?_
      refine s_mv 164 rfl rfl ?_
      refine s_eqNN 165 rfl rfl ?_
      refine s_pickT 166 rfl rfl rfl ?_
      refine s_mv 167 rfl rfl ?_
      refine s_mv 168 rfl rfl ?_
      refine s_mv 169 rfl rfl ?_
      refine s_call1 170 rfl rfl rfl rfl (v := .bool true) (fun w hw => by have := sameInts_spec q152.1 q158.1 (synL m t (posL m t (dQ m t D l4 (fitL p3 D) l4.length) (pQ m t D l4 (encB m t (fitL p3 D)) l4.length) (8 * D + dg m t))).length q152.2 (synL m t (plQ m t D l4 l4.length)).length q158.2 ((synL m t (posL m t (dQ m t D l4 (fitL p3 D) l4.length) (pQ m t D l4 (encB m t (fitL p3 D)) l4.length) (8 * D + dg m t))).map Int.ofNat) ((synL m t (plQ m t D l4 l4.length)).map Int.ofNat) w (by rw [← nats_ints]; exact (hw.has (i := 1) rfl).of_own) (by rw [← nats_ints]; exact (hw.has (i := 0) rfl).of_own) (by omega); rw [decide_eq_true (by rw [hsc])] at this; exact this) (fun _ _ => trivial) ?_
      refine s_pickT 171 rfl rfl rfl ?_
      refine s_mv 172 rfl rfl ?_
      refine s_mv 173 rfl rfl ?_
      refine s_call1 174 rfl rfl rfl rfl (fun w hw => cField_spec c m t D q w (hw.has (i := 7) rfl)) (fun _ _ => trivial) ?_
      refine s_mv 175 rfl rfl ?_
      refine s_call1 176 rfl rfl rfl rfl (v := .bool true) (fun w hw => by have := fits7_spec q.f m q152.1 (synL m t (posL m t (dQ m t D l4 (fitL p3 D) l4.length) (pQ m t D l4 (encB m t (fitL p3 D)) l4.length) (8 * D + dg m t))).length q152.2 ((synL m t (posL m t (dQ m t D l4 (fitL p3 D) l4.length) (pQ m t D l4 (encB m t (fitL p3 D)) l4.length) (8 * D + dg m t))).map Int.ofNat) w hm (code_at (hw.has (i := 7) rfl)).2.2.2.1 (by rw [← nats_ints]; exact (hw.has (i := 1) rfl).of_own) (by omega); rw [syn_fits hMT] at this; exact this) (fun _ _ => trivial) ?_
      refine s_pickT 177 rfl rfl rfl ?_
      refine s_mv 178 rfl rfl ?_
      refine s_mv 179 rfl rfl ?_
      refine s_fa 180 rfl rfl ?_
      refine s_ldB 181 6 rfl rfl rfl (v := .int .i64 (t : Nat)) rfl ?_
      refine s_mul 182 rfl rfl rfl (r := ((2 * t : Nat) : Int)) (by rw [show (2 : Int) * ((t : Nat) : Int) = ((2 * t : Nat) : Int) by omega]; exact w64 (by omega)) ?_
      refine s_gt 183 rfl rfl rfl rfl ?_
      refine s_mv 184 rfl rfl ?_
      refine SX.bool 184 rfl (fun hb => ?_) (fun hb => ?_)
      · skip
        skip
        refine SX.skip rfl ?_
        refine SX.skip rfl ?_
        refine SX.skip rfl ?_
        refine SX.skip rfl ?_
        refine SX.skip rfl ?_
        refine s_pickT 190 rfl rfl rfl ?_
        refine s_pickT 191 rfl rfl rfl ?_
        refine s_as 10 rfl rfl ?_
        refine SX.next ?_
        refine CW.ret ?_
        exact KN.ret (rs := [.tmp 10]) Tryd.results13 rfl (fun w hw => ⟨rfl, hw.nothing⟩)
      · skip
        replace hb := of_decide_eq_false hb
        have hst := syn_tells hMT (f := (oddQ m t D l4 l4.length)) hfit (by omega)
        rw [← hsc2] at hst
        refine s_mv 185 rfl rfl ?_
        refine s_call1 186 rfl rfl rfl rfl (v := .bool (decide ((selL (oddQ m t D l4 l4.length) (8 * D + dg m t)).length = 0))) (fun w hw => by have := clean7_spec q152.1 (synL m t (posL m t (dQ m t D l4 (fitL p3 D) l4.length) (pQ m t D l4 (encB m t (fitL p3 D)) l4.length) (8 * D + dg m t))).length q152.2 ((synL m t (posL m t (dQ m t D l4 (fitL p3 D) l4.length) (pQ m t D l4 (encB m t (fitL p3 D)) l4.length) (8 * D + dg m t))).map Int.ofNat) w (by rw [← nats_ints]; exact (hw.has (i := 1) rfl).of_own) (by omega); rw [hst] at this; exact this) (fun _ _ => trivial) ?_
        refine s_mv 187 rfl rfl ?_
        refine s_eq 188 rfl rfl rfl (r := decide ((selL (oddQ m t D l4 l4.length) (8 * D + dg m t)).length = 0)) (decide_eq_decide.2 (by omega)) ?_
        refine s_eqB 189 rfl rfl rfl (r := true) (beq_self_eq_true _) ?_
        refine s_pickF 190 rfl rfl rfl ?_
        refine s_pickT 191 rfl rfl rfl ?_
        refine s_as 10 rfl rfl ?_
        refine SX.next ?_
        refine CW.ret ?_
        exact KN.ret (rs := [.tmp 10]) Tryd.results13 rfl (fun w hw => ⟨rfl, hw.nothing⟩)

theorem walk_SyndromeTells (a0 a1 a2 : Int) (A3 : Option Addr) (n3 c3 : Nat) (p3 : List Nat) (A4 : Option Addr) (n4 c4 : Nat) (l4 : List Int) (e : Nat → Addr) (w : World) (ha3 : Has (sl 1 A3 n3 (nats .u8 p3)) w) (hp3 : ∀ x ∈ p3, x < 256) (hn3 : n3 ≤ 9223372036854775807) (hcp3 : n3 ≤ c3) (hs4 : Has (sl 1 A4 n4 (ints .i64 l4)) w) (hn4 : n4 ≤ 9223372036854775807) (he : Er e w 1) : Spec1 Tryd.prog 13 [.int .i64 a0, .int .i64 a1, .int .i64 a2, .slice A3 n3 c3, .slice A4 n4 c4] w (.bool true) := by
  by_cases h : n4 ≤ 30
  · exact tells_ok a0 a1 a2 A3 n3 c3 p3 A4 n4 c4 l4 e w ha3 hp3 hn3 hcp3 hs4 hn4 he h
  · exact tells_long a0 a1 a2 A3 n3 c3 p3 A4 n4 c4 l4 e w ha3 hp3 hn3 hcp3 hs4 hn4 he (by omega)
end Go.Proofs.YtompcfingkoldaaDoor
end
