/- The walk of the statement ModelPlays, text 2. Conditions: each theorem tells its own. -/
import Derived.Test.YtaamaifnmppbgaaDoorWModelPlaysA
import Derived.Laws.BytesArg
import Derived.Laws.Strings
import Derived.Deep.Strs
section
/- More closed facts on the types of the program, as instances. No condition. -/
namespace Go.Proofs.YtaamaifnmppbgaaDoor
open Go.Sx
set_option maxRecDepth 100000
instance : BoolT Tryd.prog 4 := ⟨Tryd.underlying4⟩
instance : RowT Tryd.prog 7 4 := RowT.mk' Tryd.underlying7 rfl (by kernel_rfl)
instance : RowT Tryd.prog 8 4 := RowT.mk' Tryd.underlying8 rfl (by kernel_rfl)
instance : RowT Tryd.prog 13 2 := RowT.mk' Tryd.underlying13 rfl (by kernel_rfl)
instance : RowT Tryd.prog 14 2 := RowT.mk' Tryd.underlying14 rfl (by kernel_rfl)
instance : PtrD Tryd.prog 15 := PtrD.mk' Tryd.underlying15 (by kernel_rfl) (by kernel_rfl)
instance : PtrD Tryd.prog 17 := PtrD.mk' Tryd.underlying17 (by kernel_rfl) (by kernel_rfl)
instance : RowT Tryd.prog 18 1 := RowT.mk' Tryd.underlying18 rfl (by kernel_rfl)
instance : RowT Tryd.prog 19 1 := RowT.mk' Tryd.underlying19 rfl (by kernel_rfl)
instance : PtrD Tryd.prog 24 := PtrD.mk' Tryd.underlying24 (by kernel_rfl) (by kernel_rfl)
instance : PtrD Tryd.prog 29 := PtrD.mk' Tryd.underlying29 (by kernel_rfl) (by kernel_rfl)
instance : RowT Tryd.prog 32 3 := RowT.mk' Tryd.underlying32 rfl (by kernel_rfl)
instance : RowT Tryd.prog 33 3 := RowT.mk' Tryd.underlying33 rfl (by kernel_rfl)
instance : RowT Tryd.prog 34 4 := RowT.mk' Tryd.underlying34 rfl (by kernel_rfl)
instance : RowT Tryd.prog 35 4 := RowT.mk' Tryd.underlying35 rfl (by kernel_rfl)
instance : RowT Tryd.prog 39 3 := RowT.mk' Tryd.underlying39 rfl (by kernel_rfl)
instance : RowT Tryd.prog 40 3 := RowT.mk' Tryd.underlying40 rfl (by kernel_rfl)
instance : RowT Tryd.prog 60 3 := RowT.mk' Tryd.underlying60 rfl (by kernel_rfl)
instance : RowT Tryd.prog 61 3 := RowT.mk' Tryd.underlying61 rfl (by kernel_rfl)
instance : RowT Tryd.prog 64 2 := RowT.mk' Tryd.underlying64 rfl (by kernel_rfl)
instance : RowT Tryd.prog 65 2 := RowT.mk' Tryd.underlying65 rfl (by kernel_rfl)
instance : PtrD Tryd.prog 73 := PtrD.mk' Tryd.underlying73 (by kernel_rfl) (by kernel_rfl)
instance : RowT Tryd.prog 75 4 := RowT.mk' Tryd.underlying75 rfl (by kernel_rfl)
instance : RowT Tryd.prog 76 4 := RowT.mk' Tryd.underlying76 rfl (by kernel_rfl)
instance : PtrD Tryd.prog 84 := PtrD.mk' Tryd.underlying84 (by kernel_rfl) (by kernel_rfl)
instance : RowT Tryd.prog 87 11 := RowT.mk' Tryd.underlying87 rfl (by kernel_rfl)
instance : RowT Tryd.prog 88 11 := RowT.mk' Tryd.underlying88 rfl (by kernel_rfl)
instance : RowT Tryd.prog 89 1 := RowT.mk' Tryd.underlying89 rfl (by kernel_rfl)
instance : RowT Tryd.prog 90 1 := RowT.mk' Tryd.underlying90 rfl (by kernel_rfl)
end Go.Proofs.YtaamaifnmppbgaaDoor
end
section
/- Bytes as text, and texts compared. No condition. -/
namespace Go.Sx
open Go

/-- The text of bytes. -/
def strB (l : List Nat) : ByteArray := strOfNums (l.map Int.ofNat)
theorem strB_list (l : List Nat) : (strB l).data.toList = l.map UInt8.ofNat := by
  unfold strB
  rw [strOfNums_data, List.map_map]
  rfl
theorem strB_inj {a b : List Nat} (ha : ∀ x ∈ a, x < 256) (hb : ∀ x ∈ b, x < 256) (h : strB a = strB b) : a = b := by
  have e : a.map UInt8.ofNat = b.map UInt8.ofNat := by rw [← strB_list, ← strB_list, h]
  have k : ∀ l : List Nat, (∀ x ∈ l, x < 256) → (l.map UInt8.ofNat).map UInt8.toNat = l := fun l hl => by
    rw [List.map_map]
    conv => rhs; rw [← List.map_id l]
    exact List.map_congr_left (fun x hx => by
      show (UInt8.ofNat x).toNat = x
      rw [UInt8.toNat_ofNat']
      exact Nat.mod_eq_of_lt (hl x hx))
  rw [← k a ha, ← k b hb, e]
theorem byteList_eq {x y : ByteArray} (h : x.toList = y.toList) : x = y := by
  rw [ByteArray.toList_eq, ByteArray.toList_eq] at h
  cases x; cases y
  simp only [ByteArray.mk.injEq]
  exact Array.toList_inj.1 h
theorem strB_beq {a b : List Nat} (ha : ∀ x ∈ a, x < 256) (hb : ∀ x ∈ b, x < 256) : ((strB a).toList == (strB b).toList) = decide (a = b) := by
  by_cases h : a = b
  · subst h; simp
  · rw [decide_eq_false h]
    rw [beq_eq_false_iff_ne]
    exact fun e => h (strB_inj ha hb (byteList_eq e))
theorem run_b2s {P : Program} {w : World} {T E D by_ : Nat} {zv : Value} [hT : SlT P T E 1 by_ zv] (he : P.underlying E = some (.int .u8)) (hd : P.underlying D = some .string) {A : Option Addr} {n c : Nat} {l : List Nat} (hv : Has (sl 1 A n (nats .u8 l)) w) :
    (convert T D (.slice A n c)).run P w = .ok (.string (strB l)) w := by
  have hln := nats_len hv
  by_cases h0 : n = 0
  · subst h0
    obtain rfl := List.eq_nil_of_length_eq_zero hln
    cases A with
    | none => exact run_convert_bytes_nil w T E hT.under he 0 c D hd
    | some a =>
      rw [run_convert_bytes_string w T D E _ 0 c hT.under he hd, run_bytesToString w a 0 c [] (by unfold loadCells loadCellsFrom; rfl)]
      rfl
  · have hA := hv.sl_some h0
    rw [hA]
    exact run_convert_bytes_arg w T E hT.under he _ _ n c (l.map Int.ofNat) (by simpa using hln) (fun i hi => by
      have := (hv.sl_cell h0 (j := i) (by rw [natsAt (by omega)])).2
      rw [this]
      simp [show i < l.length by omega]) D hd
section
variable {P : Program} {ops : Array Oper} {S : World → Prop} {K : Act → World → Prop} {p : Plan} {n : Nat} {l : List (Nat × Value)} {C : World → Prop} {fl : Bool} {i : Nat} {ty ty' ty2 : TypeId} {x y : Operand}
theorem s_b2s (d : Nat) {E by_ : Nat} {zv : Value} {A : Option Addr} {m c : Nat} {b : List Nat} (ho : opAt ops n l i = some (some d, .convert ty ty' x, ty2)) [SlT P ty E 1 by_ zv] (he : P.underlying E = some (.int .u8)) (hd : P.underlying ty' = some .string) (hx : ev l x = some (.slice A m c)) (hv : ∀ w, C w → Has (sl 1 A m (nats .u8 b)) w)
    (h : SX P ops S K p n ((d, .string (strB b)) :: l) C) : SX P ops S K (.st false i p) n l C :=
  SX.val ho (fun a w o hen _ hs h1 _ => by simp only [execOp, h1, hen.ev hx, Sem.run_bind, run_b2s (c := c) he hd (hv w (hs rfl)), Result.andThen_ok, Sem.run_pure]) h
theorem s_eqS (d : Nat) {a b : ByteArray} {r : Bool} (ho : opAt ops n l i = some (some d, .binOp .eql ty x y ty', ty2)) (hx : ev l x = some (.string a)) (hy : ev l y = some (.string b)) (hr : (a.toList == b.toList) = r)
    (h : SX P ops S K p n ((d, .bool r) :: l) C) : SX P ops S K (.st fl i p) n l C :=
  SX.pure ho (fun e w o he h1 _ => by
    subst hr
    have eg : ∀ (x y : Operand) (v : Value), (eqGuard .eql ty x y (.string a) v).run P w = .ok () w := fun x y v => by simp [eqGuard]
    simp only [execOp, h1, he.ev hx, he.ev hy, Sem.run_bind, eg, binOp_string_eql, Result.andThen_ok, Sem.run_pure]) h
end
end Go.Sx
end
section
/- Bytes copied and compared, for a model of sectors. Conditions: the lists are read where they lie. -/
namespace Go.Proofs.YtaamaifnmppbgaaDoor
open Go Go.Sx
set_option maxRecDepth 100000
/-- Bytes are answered, in memory of their own. -/
abbrev SpecBm (P : Program) (f : FuncId) (args : List Value) (w : World) (E : List Nat) : Prop :=
  SpecX P f args w (X := Option Addr × Nat) (fun q => .slice q.1 E.length q.2) (fun q => E.length ≤ q.2) (fun q => [own 5 1 q.1 E.length q.2 (nats .u8 E)])
theorem natsm_set (l : List Nat) (k v : Nat) : nats .u8 (l.set k v) = (nats .u8 l).set k (.int .u8 (v : Nat)) := by simp [nats, List.map_set]
theorem hasCong {w : World} {sz n : Nat} {A : Option Addr} {vs us : List Value} (h : Has (sl sz A n vs) w) (he : vs = us) : Has (sl sz A n us) w := by rw [← he]; exact h

theorem cloneM_spec (A : Option Addr) (n c : Nat) (p : List Nat) (w : World) (ha : Has (sl 1 A n (nats .u8 p)) w) (hn : n ≤ 1000000) : SpecBm Tryd.prog 24 [.slice A n c] w p := by
  have hla := nats_len ha
  subst hla
  refine spec_of Tryd.func24 rfl Tryd.ntmps24 rfl ?_
  refine CW.seq ?_
  refine CW.reg [0] rfl ?_
  refine s_as 2 rfl rfl ?_
  refine SX.next ?_
  refine CW.seq ?_
  refine CW.seq ?_
  refine CW.reg [0, 1] rfl ?_
  refine s_mv 3 rfl rfl ?_
  refine s_eqSN 4 rfl rfl rfl ?_
  refine SX.next ?_
  refine CW.cond rfl (fun hc => ?_) (fun hc => ?_)
  · skip
    have hp0 : p = [] := by
      cases A with
      | none =>
        refine List.eq_nil_of_length_eq_zero (Classical.byContradiction fun h => ?_)
        have := ha.sl_some h
        cases this
      | some a => cases hc
    refine CW.seq ?_
    refine CW.reg [0] rfl ?_
    refine s_as 2 rfl rfl ?_
    refine SX.next ?_
    refine CW.ret ?_
    exact KN.ret (rs := [.tmp 2]) Tryd.results24 rfl (fun w hw => ⟨(none, 0), by rw [hp0]; rfl, by rw [hp0]; exact Nat.le_refl _, by rw [hp0]; exact hw.begin_ _ 1⟩)
  · skip
    refine CW.skip ?_
    refine KN.code ?_
    refine CW.seq ?_
    refine CW.reg [0, 1, 2, 3] rfl ?_
    refine s_bsl0 5 rfl (fun _ _ => trivial) (fun g0 => ?_)
    refine SX.pre (fun _ h => h.blkOwn0 (q := 0) (sz := 1) rfl) ?_
    refine s_mv 6 rfl rfl ?_
    refine s_app 7 0 rfl rfl rfl rfl (ys := nats .u8 p) (fun w hw => hw.old ha) (nats_one _ _) rfl (by omega) (by unfold maxLen; omega) (by omega) (fun _ _ _ _ => trivial) (fun A2 c2 hc2 => ?_)
    refine s_as 2 rfl rfl ?_
    refine SX.next ?_
    refine CW.ret ?_
    exact KN.ret (rs := [.tmp 2]) Tryd.results24 rfl (fun w hw => ⟨(A2, c2), by rw [Nat.zero_add]; rfl, by omega, by rw [Nat.zero_add] at hw; exact hw⟩)

theorem flatm_one {α : Type} {row : α → List Value} (h : ∀ a, (row a).all (·.oneCell') = true) (l : List α) : (l.flatMap row).all (·.oneCell') = true := by
  rw [List.all_eq_true]
  intro v hv
  obtain ⟨a, _, ha⟩ := List.mem_flatMap.1 hv
  exact List.all_eq_true.1 (h a) v ha

theorem cloneW_spec (A : Option Addr) (c : Nat) (p : List WaG) (w : World) (ha : Has (sl 2 A p.length (p.flatMap WaG.row)) w) (hn : p.length ≤ 1000) : SpecX Tryd.prog 28 [.slice A p.length c] w (X := Option Addr × Nat) (fun q => .slice q.1 p.length q.2) (fun q => p.length ≤ q.2) (fun q => [own 65 2 q.1 p.length q.2 (p.flatMap WaG.row)]) := by
  refine spec_of Tryd.func28 rfl Tryd.ntmps28 rfl ?_
  refine CW.seq ?_
  refine CW.reg [0] rfl ?_
  refine s_as 2 rfl rfl ?_
  refine SX.next ?_
  refine CW.seq ?_
  refine CW.seq ?_
  refine CW.reg [0, 1] rfl ?_
  refine s_mv 3 rfl rfl ?_
  refine s_eqSN 4 rfl rfl rfl ?_
  refine SX.next ?_
  refine CW.cond rfl (fun hc => ?_) (fun hc => ?_)
  · skip
    have hp0 : p = [] := by
      cases A with
      | none =>
        refine List.eq_nil_of_length_eq_zero (Classical.byContradiction fun h => ?_)
        have := ha.sl_some h
        cases this
      | some a => cases hc
    refine CW.seq ?_
    refine CW.reg [0] rfl ?_
    refine s_as 2 rfl rfl ?_
    refine SX.next ?_
    refine CW.ret ?_
    exact KN.ret (rs := [.tmp 2]) Tryd.results28 rfl (fun w hw => ⟨(none, 0), by rw [hp0]; rfl, by rw [hp0]; exact Nat.le_refl _, by rw [hp0]; exact hw.begin_ _ 2⟩)
  · skip
    refine CW.skip ?_
    refine KN.code ?_
    refine CW.seq ?_
    refine CW.reg [0, 1, 2, 3] rfl ?_
    refine s_bsl0 5 rfl (fun _ _ => trivial) (fun g0 => ?_)
    refine SX.pre (fun _ h => h.blkOwn0 (q := 0) (sz := 2) rfl) ?_
    refine s_mv 6 rfl rfl ?_
    refine s_app 7 0 rfl rfl rfl rfl (ys := p.flatMap WaG.row) (fun w hw => hw.old ha) (flatm_one waRow_one _) rfl (by omega) (by unfold maxLen; omega) (by omega) (fun _ _ _ _ => trivial) (fun A2 c2 hc2 => ?_)
    refine s_as 2 rfl rfl ?_
    refine SX.next ?_
    refine CW.ret ?_
    exact KN.ret (rs := [.tmp 2]) Tryd.results28 rfl (fun w hw => ⟨(A2, c2), by rw [Nat.zero_add]; rfl, by omega, by rw [Nat.zero_add] at hw; exact hw⟩)

theorem rbytesM_spec (A : Option Addr) (n c : Nat) (p : List Nat) (w : World) (ha : Has (sl 1 A n (nats .u8 p)) w) (hn : n ≤ 1000000) : SpecBm Tryd.prog 10 [.slice A n c] w p := by
  have hla := nats_len ha
  subst hla
  refine spec_of Tryd.func10 rfl Tryd.ntmps10 rfl ?_
  refine CW.seq ?_
  refine CW.reg [0] rfl ?_
  refine s_as 2 rfl rfl ?_
  refine SX.next ?_
  refine CW.seq ?_
  refine CW.reg [0, 1, 2, 3, 4, 5] rfl ?_
  refine s_mv 3 rfl rfl ?_
  refine s_len 4 rfl rfl ?_
  refine s_makeC 5 p.length rfl rfl rfl rfl rfl (by unfold maxLen; omega) (fun _ _ => trivial) (fun g0 => ?_)
  refine s_mv 6 rfl rfl ?_
  refine s_app 7 0 rfl rfl rfl rfl (ys := nats .u8 p) (fun w hw => hw.old ha) (nats_one _ _) rfl (by omega) (by unfold maxLen; omega) (by omega) (fun _ _ _ _ => trivial) (fun A2 c2 hc2 => ?_)
  refine s_as 2 rfl rfl ?_
  refine SX.next ?_
  refine CW.ret ?_
  exact KN.ret (rs := [.tmp 2]) Tryd.results10 rfl (fun w hw => ⟨(A2, c2), by rw [Nat.zero_add]; rfl, by omega, by rw [Nat.zero_add] at hw; exact hw⟩)

theorem sameBytesM_spec (A : Option Addr) (n c : Nat) (p : List Nat) (A2 : Option Addr) (n2 c2 : Nat) (p2 : List Nat) (w : World) (ha : Has (sl 1 A n (nats .u8 p)) w) (hp : ∀ x ∈ p, x < 256) (ha2 : Has (sl 1 A2 n2 (nats .u8 p2)) w) (hp2 : ∀ x ∈ p2, x < 256) : Spec1 Tryd.prog 14 [.slice A n c, .slice A2 n2 c2] w (.bool (decide (p = p2))) := by
  refine spec_of Tryd.func14 rfl Tryd.ntmps14 rfl ?_
  refine CW.seq ?_
  refine CW.reg [0] rfl ?_
  refine s_as 4 rfl rfl ?_
  refine SX.next ?_
  refine CW.seq ?_
  refine CW.reg [0, 1, 2, 3, 4, 5] rfl ?_
  refine s_mv 5 rfl rfl ?_
  refine s_b2s 6 rfl Tryd.underlying5 Tryd.underlying9 rfl (fun w hw => hw.old ha) ?_
  refine s_mv 7 rfl rfl ?_
  refine s_b2s 8 rfl Tryd.underlying5 Tryd.underlying9 rfl (fun w hw => hw.old ha2) ?_
  refine s_eqS 9 rfl rfl rfl (strB_beq hp hp2) ?_
  refine s_as 4 rfl rfl ?_
  refine SX.next ?_
  refine CW.ret ?_
  exact KN.ret (rs := [.tmp 4]) Tryd.results14 rfl (fun w hw => ⟨rfl, hw.nothing⟩)

theorem eqM_spec (A : Option Addr) (n c : Nat) (p : List Nat) (A2 : Option Addr) (n2 c2 : Nat) (p2 : List Nat) (w : World) (ha : Has (sl 1 A n (nats .u8 p)) w) (hp : ∀ x ∈ p, x < 256) (ha2 : Has (sl 1 A2 n2 (nats .u8 p2)) w) (hp2 : ∀ x ∈ p2, x < 256) : Spec1 Tryd.prog 30 [.slice A n c, .slice A2 n2 c2] w (.bool (decide (p = p2))) := by
  refine spec_of Tryd.func30 rfl Tryd.ntmps30 rfl ?_
  refine CW.seq ?_
  refine CW.reg [0] rfl ?_
  refine s_as 4 rfl rfl ?_
  refine SX.next ?_
  refine CW.seq ?_
  refine CW.reg [0, 1, 2, 3, 4, 5] rfl ?_
  refine s_mv 5 rfl rfl ?_
  refine s_b2s 6 rfl Tryd.underlying5 Tryd.underlying9 rfl (fun w hw => hw.old ha) ?_
  refine s_mv 7 rfl rfl ?_
  refine s_b2s 8 rfl Tryd.underlying5 Tryd.underlying9 rfl (fun w hw => hw.old ha2) ?_
  refine s_eqS 9 rfl rfl rfl (strB_beq hp hp2) ?_
  refine s_as 4 rfl rfl ?_
  refine SX.next ?_
  refine CW.ret ?_
  exact KN.ret (rs := [.tmp 4]) Tryd.results30 rfl (fun w hw => ⟨rfl, hw.nothing⟩)
end Go.Proofs.YtaamaifnmppbgaaDoor
end
section
/- Package model: sectors copied, a front, what is written. Conditions: the model is read where it lies, or lent. -/
namespace Go.Proofs.YtaamaifnmppbgaaDoor
open Go Go.Sx
set_option maxRecDepth 100000
theorem flatBy_more (l : List ByG) (b : ByG) : (l ++ [b]).flatMap ByG.row = l.flatMap ByG.row ++ [.slice b.A b.l.length b.c] := by rw [List.flatMap_append]; rfl
theorem flatBy_set {l : List ByG} {k : Nat} {b : ByG} (h : l[k]? = some b) (z : ByG) : (l.set k z).flatMap ByG.row = (l.flatMap ByG.row).set k (.slice z.A z.l.length z.c) := by
  have := flat_set (row := ByG.row) byRow_len h (j := 0) (b := z) (v := .slice z.A z.l.length z.c) (by decide) rfl
  rw [Nat.mul_one, Nat.add_zero] at this
  exact this
theorem LsG.at_ {q : LsG} {i : Nat} {b : ByG} (h : q.l[i]? = some b) : q.abs[i]? = some b.l := by
  unfold LsG.abs
  rw [List.getElem?_map, h]
  rfl
/-- How long lists are that a walk copies. -/
structure LsB (q : LsG) : Prop where
  n : q.l.length ≤ 1000
  b : ∀ b ∈ q.l, b.l.length ≤ 1000000
theorem abs_lens {q z : LsG} (h : z.abs = q.abs) : z.l.length = q.l.length := by
  have := congrArg List.length h
  rwa [LsG.abs_len, LsG.abs_len] at this

theorem copiedM_spec (q : LsG) (w : World) (hq : LsB q) (h1 : Has (sl 1 q.A q.l.length (q.l.flatMap ByG.row)) w) (h2 : Has q.star w) : SpecX Tryd.prog 27 [q.hdr] w (X := LsG) (fun z => z.hdr) (fun z => z.abs = q.abs ∧ z.l.length ≤ z.c) (fun z => [z.out, z.star]) := by
  refine spec_of Tryd.func27 rfl Tryd.ntmps27 rfl ?_
  refine CW.seq ?_
  refine CW.reg [0] rfl ?_
  refine s_as 2 rfl rfl ?_
  refine SX.next ?_
  refine CW.seq ?_
  refine CW.reg [0] rfl ?_
  refine s_as 3 rfl rfl ?_
  refine SX.next ?_
  refine CW.seq ?_
  refine CW.seq ?_
  refine CW.reg [0, 1, 2] rfl ?_
  refine s_mv 6 rfl rfl ?_
  refine s_len 7 rfl rfl ?_
  refine s_mv 8 rfl rfl ?_
  refine SX.next ?_
  refine CW.block ?_
  refine CW.loop (G := Nat × LsG) (fun z => [(3, z.2.hdr), (6, q.hdr), (7, .int .i64 (q.l.length : Nat)), (8, .int .i64 (z.1 : Nat))]) (fun z => Sto w [z.2.out, z.2.star]) (fun z => z.1 ≤ q.l.length ∧ z.2.abs = q.abs.take z.1 ∧ z.2.l.length ≤ z.2.c) (fun z => q.l.length - z.1) (0, LsG.nil) ⟨rfl, rfl, rfl, rfl, trivial⟩ (fun _ h => by
    have h1 := (h.begin_ 31 1).starNil
    exact h1.pick [1, 0] rfl) ⟨Nat.zero_le _, rfl, Nat.le_refl _⟩ ?_
  rintro ⟨i, z⟩ ⟨hi, hz, hzc⟩
  simp only at hi hz hzc
  dsimp only
  have hzl : z.l.length = i := by
    have := congrArg List.length hz
    rw [LsG.abs_len, List.length_take, LsG.abs_len] at this
    omega
  refine CW.seq ?_
  refine CW.reg [0] rfl ?_
  refine s_lt 9 rfl rfl rfl rfl ?_
  refine SX.next ?_
  refine CW.seq ?_
  refine CW.test rfl (fun hc => ?_) (fun hc => ?_)
  · skip
    have hil : i < q.l.length := by omega
    obtain ⟨b, hb⟩ : ∃ b, q.l[i]? = some b := ⟨_, List.getElem?_eq_getElem hil⟩
    have hbm := List.mem_of_getElem? hb
    have hbl := hq.b b hbm
    have hqn := hq.n
    refine CW.skip ?_
    refine KN.code ?_
    refine CW.seq ?_
    refine CW.block ?_
    refine CW.seq ?_
    refine CW.reg [0, 1, 2] rfl ?_
    refine s_iaV 10 i (fun w hw => hw.old h1) rfl rfl rfl rfl hil ?_
    refine s_ld 11 rfl rfl (v := .slice b.A b.l.length b.c) (fun _ hw => (hw.old h1).rowAt byRow_len hb (by omega) 0 _ rfl) ?_
    refine s_as 5 rfl rfl ?_
    refine SX.next ?_
    refine CW.reg [0, 1, 2, 3, 4, 5] rfl ?_
    refine s_mv 12 rfl rfl ?_
    refine s_mv 13 rfl rfl ?_
    refine s_call 14 rfl rfl rfl rfl (fun w hw => cloneM_spec b.A b.l.length b.c b.l w (hw.old (ls_dat h2 hbm)) (by omega)) (fun _ _ => trivial) (fun zo hzo => ?_)
    refine s_bsl 15 rfl rfl (cells := #[.slice zo.1 b.l.length zo.2]) (by kernel_rfl) rfl (fun _ _ => trivial) (fun gT => ?_)
    refine s_app 16 2 rfl rfl rfl rfl (ys := [.slice zo.1 b.l.length zo.2]) (fun w hw => hasCong ((hw.has (i := 0) rfl).blk_sl (m := 1) rfl) rfl) rfl rfl (by omega) (by unfold maxLen; omega) (by omega) (fun _ _ _ _ => trivial) (fun O2 oc2 hoc2 => ?_)
    refine s_as 3 rfl rfl ?_
    refine SX.end_ ?_
    refine KN.blk ?_
    refine KN.code ?_
    refine CW.reg [0, 1] rfl ?_
    refine s_add 17 rfl rfl rfl (r := ((i + 1 : Nat) : Int)) (w64 (by omega)) ?_
    refine s_mv 8 rfl rfl ?_
    refine SX.end_ ?_
    exact KN.back (i + 1, ⟨O2, oc2, z.l ++ [(⟨zo.1, zo.2, b.l⟩ : ByG)]⟩) ⟨by simp only [LsG.hdr, List.length_append, List.length_cons, List.length_nil]; rfl, rfl, rfl, rfl, trivial⟩ (fun _ h => by
      have h1 := h.pick [1, 2, 1] rfl
      have h2 := St.starPush (A := (⟨zo.1, zo.2, b.l⟩ : ByG).dat) h1
      have h3 := h2.pick [1, 0] rfl
      unfold LsG.out LsG.star
      simp only [List.length_append, List.length_cons, List.length_nil, List.map_append, List.map_cons, List.map_nil]
      rw [flatBy_more]
      exact h3) ⟨by simp only; omega, by
      have e1 := LsG.at_ hb
      unfold LsG.abs at hz e1 ⊢
      simp only
      rw [List.take_add_one, e1, List.map_append, hz]
      rfl, by simp only [List.length_append, List.length_cons, List.length_nil]; omega⟩ (by simp only; omega)
  · skip
    obtain rfl : i = q.l.length := by omega
    refine CW.exit rfl ?_
    refine KN.code ?_
    refine CW.seq ?_
    refine CW.reg [0, 1] rfl ?_
    refine s_mv 18 rfl rfl ?_
    refine s_as 2 rfl rfl ?_
    refine SX.next ?_
    refine CW.ret ?_
    exact KN.ret (rs := [.tmp 2]) Tryd.results27 rfl (fun w hw => ⟨z, rfl, ⟨by rw [hz, ← LsG.abs_len, List.take_length], hzc⟩, hw⟩)

/-- A model's header, read where it lies. -/
def MdH (m : Nat) (x : MdG) (w : World) : Prop := ∀ (j : Nat) (v : Value), x.cells[j]? = some v → w.cell? ⟨m, j, none⟩ = some v
theorem mdH_of {m : Nat} {x : MdG} {w : World} (h : Has (modelA m x) w) : MdH m x w := fun _ _ hj => md_cell h hj
def MdG.has (x : MdG) (k : Int) : Bool := decide (0 ≤ k ∧ k < (x.th.l.length : Int))
/-- What a front is made of. -/
structure MdP (m : Nat) (x : MdG) (w : World) : Prop where
  h : MdH m x w
  t : Has (sl 1 x.th.A x.th.l.length (x.th.l.flatMap ByG.row)) w
  ts : Has x.th.star w
  a : Has (sl 2 x.wa.A x.wa.l.length (x.wa.l.flatMap WaG.row)) w
  as_ : Has x.wa.star w
theorem mdP_of {m : Nat} {x : MdG} {w : World} (h : Has (modelA m x) w) : MdP m x w := ⟨mdH_of h, md_th h, h.starM (by simp [MdG.parts]), md_wa h, h.starM (by simp [MdG.parts])⟩
theorem MdH.old {m : Nat} {x : MdG} {w w₀ : World} {L : List Atom} (hw : Sto w₀ L w) (h : MdH m x w₀) : MdH m x w := fun j v hj => hw.cell (h j v hj)
theorem MdP.old {m : Nat} {x : MdG} {w w₀ : World} {L : List Atom} (hw : Sto w₀ L w) (h : MdP m x w₀) : MdP m x w := ⟨h.h.old hw, hw.old h.t, hw.old h.ts, hw.old h.a, hw.old h.as_⟩

theorem hasM_spec (m : Nat) (x : MdG) (k : Int) (w : World) (h : MdH m x w) : Spec1 Tryd.prog 23 [.pointer (some ⟨m, 0, none⟩), .int .i64 k] w (.bool (x.has k)) := by
  refine spec_of Tryd.func23 rfl Tryd.ntmps23 rfl ?_
  refine CW.seq ?_
  refine CW.reg [0] rfl ?_
  refine s_as 4 rfl rfl ?_
  refine SX.next ?_
  refine CW.seq ?_
  refine CW.reg [0, 1, 2, 3, 4, 5, 6, 7, 8, 9, 10, 11] rfl ?_
  refine s_mv 5 rfl rfl ?_
  refine s_ge 6 rfl rfl rfl rfl ?_
  refine s_mv 7 rfl rfl ?_
  refine SX.bool 7 rfl (fun hb => ?_) (fun hb => ?_)
  · skip
    have h1 := of_decide_eq_true hb
    refine s_mv 8 rfl rfl ?_
    refine s_mv 9 rfl rfl ?_
    refine s_nil 10 rfl rfl ?_
    refine s_fa 11 rfl rfl ?_
    refine s_ld 12 rfl rfl (v := x.th.hdr) (fun _ hw => h.old hw 1 _ rfl) ?_
    refine s_len 13 rfl rfl ?_
    refine s_lt 14 rfl rfl rfl rfl ?_
    refine s_pickT 15 rfl rfl rfl ?_
    refine s_as 4 rfl rfl ?_
    refine SX.next ?_
    refine CW.ret ?_
    exact KN.ret (rs := [.tmp 4]) Tryd.results23 rfl (fun w hw => ⟨by first | (rw [hz]; rfl) | (rw [show x.has k = decide (k < (x.th.l.length : Int)) from decide_eq_decide.2 ⟨fun h => h.2, fun h => ⟨h1, h⟩⟩]; rfl), hw.nothing⟩)
  · skip
    have h1 := of_decide_eq_false hb
    have hz : x.has k = false := by
      unfold MdG.has
      exact decide_eq_false (fun h => h1 h.1)
    refine SX.skip rfl ?_
    refine SX.skip rfl ?_
    refine SX.skip rfl ?_
    refine SX.skip rfl ?_
    refine SX.skip rfl ?_
    refine SX.skip rfl ?_
    refine SX.skip rfl ?_
    refine s_pickF 15 rfl rfl rfl ?_
    refine s_as 4 rfl rfl ?_
    refine SX.next ?_
    refine CW.ret ?_
    exact KN.ret (rs := [.tmp 4]) Tryd.results23 rfl (fun w hw => ⟨by first | (rw [hz]; rfl) | (rw [show x.has k = decide (k < (x.th.l.length : Int)) from decide_eq_decide.2 ⟨fun h => h.2, fun h => ⟨h1, h⟩⟩]; rfl), hw.nothing⟩)

theorem waitingM_spec (m : Nat) (x : MdG) (w : World) (h : MdH m x w) : Spec1 Tryd.prog 15 [.pointer (some ⟨m, 0, none⟩)] w (.int .i64 (x.wa.l.length : Nat)) := by
  refine spec_of Tryd.func15 rfl Tryd.ntmps15 rfl ?_
  refine CW.seq ?_
  refine CW.reg [0] rfl ?_
  refine s_as 2 rfl rfl ?_
  refine SX.next ?_
  refine CW.seq ?_
  refine CW.reg [0, 1, 2, 3, 4, 5] rfl ?_
  refine s_mv 3 rfl rfl ?_
  refine s_nil 4 rfl rfl ?_
  refine s_fa 5 rfl rfl ?_
  refine s_ld 6 rfl rfl (v := x.wa.hdr) (fun _ hw => h.old hw 2 _ rfl) ?_
  refine s_len 7 rfl rfl ?_
  refine s_as 2 rfl rfl ?_
  refine SX.next ?_
  refine CW.ret ?_
  exact KN.ret (rs := [.tmp 2]) Tryd.results15 rfl (fun w hw => ⟨rfl, hw.nothing⟩)

set_option maxHeartbeats 800000 in

theorem frontM_spec (m : Nat) (x : MdG) (n : Nat) (w : World) (hx : x.Ok) (hn : n ≤ x.wa.l.length) (h : MdP m x w) : SpecX Tryd.prog 21 [.pointer (some ⟨m, 0, none⟩), .int .i64 (n : Nat)] w (X := LsG) (fun z => z.hdr) (fun z => z.abs = frontL x.th.abs (x.wa.abs.take n) ∧ z.l.length ≤ z.c) (fun z => [z.out, z.star]) := by
  refine spec_of Tryd.func21 rfl Tryd.ntmps21 rfl ?_
  refine CW.seq ?_
  refine CW.reg [0] rfl ?_
  refine s_as 4 rfl rfl ?_
  refine SX.next ?_
  refine CW.seq ?_
  refine CW.reg [0, 1, 2, 3, 4, 5] rfl ?_
  refine s_mv 8 rfl rfl ?_
  refine s_nil 9 rfl rfl ?_
  refine s_fa 10 rfl rfl ?_
  refine s_ld 11 rfl rfl (v := x.th.hdr) (fun _ hw => h.h.old hw 1 _ rfl) ?_
  refine s_call 12 rfl rfl rfl rfl (fun w hw => copiedM_spec x.th w ⟨by have := hx.n2; omega, fun b hb => by have := hx.th b hb; have := hx.s2; omega⟩ (hw.old h.t) (hw.old h.ts)) (fun _ _ => trivial) (fun z0 hz0 => ?_)
  refine s_as 5 rfl rfl ?_
  refine SX.next ?_
  refine CW.seq ?_
  refine CW.seq ?_
  refine CW.reg [0, 1, 2, 3, 4, 5, 6, 7] rfl ?_
  refine s_mv 13 rfl rfl ?_
  refine s_nil 14 rfl rfl ?_
  refine s_fa 15 rfl rfl ?_
  refine s_ld 16 rfl rfl (v := x.wa.hdr) (fun _ hw => h.h.old hw 2 _ rfl) ?_
  refine s_mv 17 rfl rfl ?_
  refine s_slH 18 n rfl rfl rfl rfl (by have := hx.wc; omega) ?_
  refine s_len 19 rfl rfl ?_
  refine s_mv 20 rfl rfl ?_
  refine SX.next ?_
  refine CW.block ?_
  refine CW.loop (G := Nat × LsG) (fun z => [(5, z.2.hdr), (18, .slice x.wa.A n x.wa.c), (19, .int .i64 (n : Nat)), (20, .int .i64 (z.1 : Nat))]) (fun z => Sto w [z.2.out, z.2.star]) (fun z => z.1 ≤ n ∧ z.2.abs = frontL x.th.abs (x.wa.abs.take z.1) ∧ z.2.l.length ≤ z.2.c) (fun z => n - z.1) (0, z0) ⟨rfl, rfl, rfl, rfl, trivial⟩ (fun _ h => h) ⟨Nat.zero_le _, hz0.1, hz0.2⟩ ?_
  rintro ⟨i, z⟩ ⟨hi, hz, hzc⟩
  simp only at hi hz hzc
  dsimp only
  have hzl : z.l.length = x.th.l.length := by
    have := congrArg List.length hz
    rwa [LsG.abs_len, frontL_len, LsG.abs_len] at this
  refine CW.seq ?_
  refine CW.reg [0] rfl ?_
  refine s_lt 21 rfl rfl rfl rfl ?_
  refine SX.next ?_
  refine CW.seq ?_
  refine CW.test rfl (fun hc => ?_) (fun hc => ?_)
  · skip
    have hil : i < n := by omega
    obtain ⟨e, he⟩ : ∃ e, x.wa.l[i]? = some e := ⟨_, List.getElem?_eq_getElem (by omega)⟩
    have hem := List.mem_of_getElem? he
    obtain ⟨hek, hel, _⟩ := hx.wa e hem
    have hs2 := hx.s2
    have heT : (x.wa.l.take n)[i]? = some e := by rw [List.getElem?_take, if_pos hil]; exact he
    obtain ⟨b0, hb0⟩ : ∃ b0, z.l[e.k]? = some b0 := ⟨_, List.getElem?_eq_getElem (by omega)⟩
    have hn2 := hx.n2
    have hwn := hx.wn
    refine CW.skip ?_
    refine KN.code ?_
    refine CW.seq ?_
    refine CW.block ?_
    refine CW.seq ?_
    refine CW.reg [0, 1, 2, 3] rfl ?_
    refine s_iaV 22 i (fun w hw => (hasCong ((hw.old h.a).sl_take hn) (flat_take waRow_len _ _))) rfl rfl rfl rfl hil ?_
    refine s_ldR 23 (cs := e.row) rfl rfl rfl (fun w hw => ((hasCong ((hw.old h.a).sl_take hn) (flat_take waRow_len _ _))).rowAt waRow_len heT (by omega)) ?_
    refine s_alloc 7 rfl (fun _ _ => trivial) (fun b7 => ?_)
    refine s_stAll 0 rfl rfl (by kernel_rfl) rfl rfl rfl rfl (fun _ _ => trivial) ?_
    refine SX.next ?_
    refine CW.regD (.st true 0 (.st true 1 (.st true 2 (.st true 3 (.st true 4 (.st false 5 (.st true 6 (.st false 7 .done)))))))) (Sto w [blk b7 65 e.row.toArray]) mixed (by kernel_rfl) (fun _ h => h.drew) (fun _ h => h.pick [0] rfl) ?_
    refine s_mv 24 rfl rfl ?_
    refine s_fa 25 rfl rfl ?_
    refine s_ldS 26 rfl rfl (v := .int .i64 (e.k : Nat)) (fun _ hw => hw.blkCell (i := 0) (j := 0) rfl rfl) ?_
    refine s_fa 27 rfl rfl ?_
    refine s_ldS 28 rfl rfl (v := .slice e.A e.l.length e.c) (fun _ hw => hw.blkCell (i := 0) (j := 1) rfl rfl) ?_
    refine s_call 29 rfl rfl rfl rfl (fun w hw => cloneM_spec e.A e.l.length e.c e.l w (hw.old (ws_dat h.as_ hem)) (by omega)) (fun _ h => h.pick [0] rfl) (fun zo hzo => ?_)
    refine s_iaO 30 2 e.k rfl rfl rfl rfl rfl (by omega) ?_
    refine s_stO 2 rfl rfl rfl rfl rfl (by omega) (fun _ h => h.pick [1] rfl) ?_
    refine SX.end_ ?_
    refine KN.blk ?_
    refine KN.code ?_
    refine CW.reg [0, 1] rfl ?_
    refine s_add 31 rfl rfl rfl (r := ((i + 1 : Nat) : Int)) (w64 (by omega)) ?_
    refine s_mv 20 rfl rfl ?_
    refine SX.end_ ?_
    exact KN.back (i + 1, ⟨z.A, z.c, z.l.set e.k (⟨zo.1, zo.2, e.l⟩ : ByG)⟩) ⟨by simp only [LsG.hdr, List.length_set]; rfl, rfl, rfl, rfl, trivial⟩ (fun _ h => by
      have h1 := h.pick [3, 0, 1] rfl
      have h2 := St.starPut (A := b0.dat) (A' := (⟨zo.1, zo.2, e.l⟩ : ByG).dat) (i := e.k) (by rw [List.getElem?_map, hb0]; rfl) h1
      have h3 := h2.pick [1, 0] rfl
      unfold LsG.out LsG.star
      simp only [List.length_set]
      rw [flatBy_set hb0, List.map_set]
      exact h3) ⟨by simp only; omega, by
      have e1 : x.wa.abs[i]? = some e.abs := by unfold WsG.abs; rw [List.getElem?_map, he]; rfl
      rw [front_take_succ e1, ← hz]
      unfold LsG.abs
      simp only
      rw [List.map_set]
      rfl, by simp only [List.length_set]; exact hzc⟩ (by simp only; omega)
  · skip
    obtain rfl : i = n := by omega
    refine CW.exit rfl ?_
    refine KN.code ?_
    refine CW.seq ?_
    refine CW.reg [0, 1] rfl ?_
    refine s_mv 32 rfl rfl ?_
    refine s_as 4 rfl rfl ?_
    refine SX.next ?_
    refine CW.ret ?_
    exact KN.ret (rs := [.tmp 4]) Tryd.results21 rfl (fun w hw => ⟨z, rfl, ⟨hz, hzc⟩, hw⟩)

theorem sectorsM_spec (m : Nat) (x : MdG) (w : World) (hx : x.Ok) (h : MdP m x w) : SpecX Tryd.prog 17 [.pointer (some ⟨m, 0, none⟩)] w (X := LsG) (fun z => z.hdr) (fun z => z.abs = frontL x.th.abs x.wa.abs ∧ z.l.length ≤ z.c) (fun z => [z.out, z.star]) := by
  refine spec_of Tryd.func17 rfl Tryd.ntmps17 rfl ?_
  refine CW.seq ?_
  refine CW.reg [0] rfl ?_
  refine s_as 2 rfl rfl ?_
  refine SX.next ?_
  refine CW.seq ?_
  refine CW.reg [0, 1, 2, 3, 4, 5, 6, 7] rfl ?_
  refine s_mv 3 rfl rfl ?_
  refine s_mv 4 rfl rfl ?_
  refine s_nil 5 rfl rfl ?_
  refine s_fa 6 rfl rfl ?_
  refine s_ld 7 rfl rfl (v := x.wa.hdr) (fun _ hw => h.h.old hw 2 _ rfl) ?_
  refine s_len 8 rfl rfl ?_
  refine s_call 9 rfl rfl rfl rfl (fun w hw => frontM_spec m x x.wa.l.length w hx (Nat.le_refl _) (h.old hw)) (fun _ _ => trivial) (fun z hz => ?_)
  refine s_as 2 rfl rfl ?_
  refine SX.next ?_
  refine CW.ret ?_
  exact KN.ret (rs := [.tmp 2]) Tryd.results17 rfl (fun w hw => ⟨z, rfl, ⟨by rw [hz.1, ← WsG.abs_len, List.take_length], hz.2⟩, hw⟩)

theorem flushM_spec (F : Nat → Prop) (m : Nat) (x : MdG) (w : World) (hx : x.Ok) (hw : St F w [modelA m x] w) : SpecP Tryd.prog 8 [.pointer (some ⟨m, 0, none⟩)] F w (X := MdG) (fun _ => oneOf []) (fun z => z.size = x.size ∧ z.th.abs = frontL x.th.abs x.wa.abs ∧ z.wa = WsG.nil ∧ z.th.l.length ≤ z.th.c) (fun z => [modelA m z]) := by
  refine spec_ofC Tryd.func8 rfl Tryd.ntmps8 rfl hw ?_
  refine CW.pre (fun _ h => h.mdO) ?_
  refine CW.reg [0, 1, 2, 3, 4, 5, 6, 7, 8, 9, 10, 11, 12, 13, 14] rfl ?_
  refine s_mv 2 rfl rfl ?_
  refine s_mv 3 rfl rfl ?_
  refine s_mv 4 rfl rfl ?_
  refine s_mv 5 rfl rfl ?_
  refine s_nil 6 rfl rfl ?_
  refine s_fa 7 rfl rfl ?_
  refine s_ldB 8 0 rfl rfl rfl (v := x.wa.hdr) rfl ?_
  refine s_len 9 rfl rfl ?_
  refine s_call 10 rfl rfl rfl rfl (fun w hw => frontM_spec m x x.wa.l.length w hx (Nat.le_refl _) ⟨fun j v hj => hw.blkCell (i := 0) rfl hj, (hw.has (i := 1) rfl).of_own, hw.has (i := 2) rfl, (hw.has (i := 3) rfl).of_own, hw.has (i := 4) rfl⟩) (fun _ _ => trivial) (fun z hz => ?_)
  refine s_nil 11 rfl rfl ?_
  refine s_fa 12 rfl rfl ?_
  refine s_stB 2 rfl rfl rfl rfl rfl (by show 1 < 3; decide) (fun _ _ => trivial) ?_
  refine s_nil 13 rfl rfl ?_
  refine s_fa 14 rfl rfl ?_
  refine s_stB 2 rfl rfl rfl rfl rfl (by show 2 < 3; decide) (fun _ _ => trivial) ?_
  refine SX.end_ ?_
  exact KN.ret (rs := []) Tryd.results8 rfl (fun w hw => ⟨⟨x.size, z, WsG.nil⟩, rfl, ⟨rfl, by simp only; rw [hz.1, ← WsG.abs_len, List.take_length], rfl, hz.2⟩, by
    have h1 := hw.pick [2, 0, 0] rfl
    have h2 := (h1.begin_ 65 2).starNil
    have h3 := h2.pick [2, 2, 2, 1, 0] rfl
    exact St.mdC (x := ⟨x.size, z, WsG.nil⟩) h3⟩)

/-- What a write answers: 0 none, 1 no such sector, 2 not its size. -/
def MdG.wrC (x : MdG) (k : Int) (n : Nat) : Nat := if x.has k then (if n = x.size then 0 else 2) else 1
def wrV (e : Nat → Addr) (c : Nat) : Value := if c = 0 then .nilIface else if c = 1 then errV e 1 else errV e 2
/-- What is written waits. -/
structure MdG.Put (x z : MdG) (k : Nat) (p : List Nat) : Prop where
  s : z.size = x.size
  t : z.th = x.th
  a : z.wa.abs = x.wa.abs ++ [(k, p)]
  c : z.wa.l.length ≤ z.wa.c
theorem flatWa_more (l : List WaG) (b : WaG) : (l ++ [b]).flatMap WaG.row = l.flatMap WaG.row ++ [.int .i64 (b.k : Nat), .slice b.A b.l.length b.c] := by rw [List.flatMap_append]; rfl

set_option maxHeartbeats 1600000 in

theorem writeM_spec (F : Nat → Prop) (m : Nat) (x : MdG) (k : Int) (A : Option Addr) (c : Nat) (p : List Nat) (e : Nat → Addr) (w : World) (hx : x.Ok) (heN : ∀ w', Fr F w w' → Er e w' 1) (heS : ∀ w', Fr F w w' → Er e w' 2) (hB : ∀ w', Fr F w w' → Has (sl 1 A p.length (nats .u8 p)) w') (hw : St F w [modelA m x] w) : SpecP Tryd.prog 12 [.pointer (some ⟨m, 0, none⟩), .int .i64 k, .slice A p.length c] F w (X := MdG) (fun _ => wrV e (x.wrC k p.length)) (fun z => (x.wrC k p.length = 0 → x.Put z k.toNat p) ∧ (x.wrC k p.length ≠ 0 → z = x)) (fun z => [modelA m z]) := by
  refine spec_ofC Tryd.func12 rfl Tryd.ntmps12 rfl hw ?_
  refine CW.seq ?_
  refine CW.reg [0] rfl ?_
  refine s_as 6 rfl rfl ?_
  refine SX.next ?_
  refine CW.seq ?_
  refine CW.block ?_
  refine CW.seq ?_
  refine CW.reg [0, 1, 2, 3, 4] rfl ?_
  refine s_mv 8 rfl rfl ?_
  refine s_mv 9 rfl rfl ?_
  refine s_call1 10 rfl rfl rfl rfl (fun w hw => hasM_spec m x k w (mdH_of (hw.has (i := 0) rfl))) (fun _ _ => trivial) ?_
  refine s_not 11 rfl rfl ?_
  refine s_as 7 rfl rfl ?_
  refine SX.next ?_
  refine CW.cond rfl (fun hc => ?_) (fun hc => ?_)
  · skip
    have hno : x.has k = false := by simpa using hc
    refine CW.seq ?_
    refine CW.reg [0, 1] rfl ?_
    refine s_ld 12 rfl rfl (fun _ h => heN _ h.fr) ?_
    refine s_as 6 rfl rfl ?_
    refine SX.next ?_
    refine CW.ret ?_
    exact KN.ret (rs := [.tmp 6]) Tryd.results12 rfl (fun w hw => ⟨x, by rw [show x.wrC k p.length = 1 from by unfold MdG.wrC; rw [hno]; rfl]; rfl, ⟨fun h => (by rw [show x.wrC k p.length = 1 from by unfold MdG.wrC; rw [hno]; rfl] at h; cases h), fun _ => rfl⟩, hw⟩)
  · skip
    have hyes : x.has k = true := by simpa using hc
    refine CW.seq ?_
    refine CW.reg [0, 1, 2, 3, 4, 5, 6, 7] rfl ?_
    refine s_mv 14 rfl rfl ?_
    refine s_len 15 rfl rfl ?_
    refine s_mv 16 rfl rfl ?_
    refine s_nil 17 rfl rfl ?_
    refine s_fa 18 rfl rfl ?_
    refine s_ld 19 rfl rfl (v := .int .i64 (x.size : Nat)) (fun _ hw => md_cell (hw.has (i := 0) rfl) rfl) ?_
    refine s_ne 20 rfl rfl rfl rfl ?_
    refine s_as 13 rfl rfl ?_
    refine SX.next ?_
    refine CW.test rfl (fun hc2 => ?_) (fun hc2 => ?_)
    · skip
      have hsz : ¬ p.length = x.size := by omega
      refine CW.seq ?_
      refine CW.reg [0, 1] rfl ?_
      refine s_ld 21 rfl rfl (fun _ h => heS _ h.fr) ?_
      refine s_as 6 rfl rfl ?_
      refine SX.next ?_
      refine CW.ret ?_
      exact KN.ret (rs := [.tmp 6]) Tryd.results12 rfl (fun w hw => ⟨x, by rw [show x.wrC k p.length = 2 from by unfold MdG.wrC; rw [hyes, if_pos rfl, if_neg hsz]]; rfl, ⟨fun h => (by rw [show x.wrC k p.length = 2 from by unfold MdG.wrC; rw [hyes, if_pos rfl, if_neg hsz]] at h; cases h), fun _ => rfl⟩, hw⟩)
    · skip
      have hsz : p.length = x.size := by omega
      obtain ⟨h0k, hkl⟩ := of_decide_eq_true hyes
      have hs2 := hx.s2
      refine CW.skip ?_
      refine KN.blk ?_
      refine KN.code ?_
      refine CW.seq ?_
      refine CW.pre (fun _ h => h.mdO) ?_
      refine CW.regD (.st true 0 (.st true 1 (.st true 2 (.st true 3 (.st true 5 (.st true 6 (.alt 4 (.st false 7 (.st false 8 (.st false 9 (.st false 10 (.st true 11 (.st true 12 (.st false 13 .done))))))) (.st false 7 (.alt 4 (.st false 8 (.st false 9 (.st false 10 (.st true 11 (.st true 12 (.st false 13 .done)))))) (.st false 8 (.alt 4 (.st false 9 (.st false 10 (.st true 11 (.st true 12 (.st false 13 .done))))) (.st false 9 (.st false 4 (.st false 10 (.st true 11 (.st true 12 (.st false 13 .done))))))))))))))))) (St F w []) mixed (by kernel_rfl) (fun _ h => h.drew) (fun _ h => h.nothing) ?_
      refine s_mv 22 rfl rfl ?_
      refine s_mv 23 rfl rfl ?_
      refine s_nil 24 rfl rfl ?_
      refine s_fa 25 rfl rfl ?_
      refine s_mv 27 rfl rfl ?_
      refine s_mv 28 rfl rfl ?_
      refine SX.alt ?_ ?_
      · skip
        refine s_ldB 26 0 rfl rfl rfl (v := x.wa.hdr) rfl ?_
        refine s_call 29 rfl rfl rfl rfl (fun w hw => cloneM_spec A p.length c p w (hB _ hw.fr) (by omega)) (fun _ h => h.nothing) (fun zo hzo => ?_)
        refine s_build 30 rfl rfl (cells := #[.int .i64 k, .slice zo.1 p.length zo.2]) (by kernel_rfl) ?_
        refine s_bsl 31 rfl rfl (cells := #[.int .i64 k, .slice zo.1 p.length zo.2]) (by kernel_rfl) rfl (fun _ h => h.nothing) (fun gT => ?_)
        refine s_app 32 5 rfl rfl rfl rfl (ys := [.int .i64 k, .slice zo.1 p.length zo.2]) (fun w hw => hasCong ((hw.has (i := 0) rfl).blk_sl (m := 1) rfl) rfl) rfl rfl (by omega) (by unfold maxLen; have := hx.wn; omega) (by have := hx.wn; omega) (fun _ _ _ h => h.nothing) (fun O2 oc2 hoc2 => ?_)
        refine s_nil 33 rfl rfl ?_
        refine s_fa 34 rfl rfl ?_
        refine s_stB 2 rfl rfl rfl rfl rfl (by show 2 < 3; decide) (fun _ h => h.nothing) ?_
        refine SX.next ?_
        refine CW.seq ?_
        refine CW.reg [0] rfl ?_
        refine s_as 6 rfl rfl ?_
        refine SX.next ?_
        refine CW.ret ?_
        exact KN.ret (rs := [.tmp 6]) Tryd.results12 rfl (fun w hw => ⟨(⟨x.size, x.th, ⟨O2, oc2, x.wa.l ++ [(⟨k.toNat, zo.1, zo.2, p⟩ : WaG)]⟩⟩ : MdG), by rw [show x.wrC k p.length = 0 from by unfold MdG.wrC; rw [hyes, if_pos rfl, if_pos hsz]]; rfl, ⟨fun _ => ⟨rfl, rfl, by unfold WsG.abs; simp only; rw [List.map_append]; rfl, by simp only [List.length_append, List.length_cons, List.length_nil]; exact hoc2⟩, fun h => absurd (by unfold MdG.wrC; rw [hyes, if_pos rfl, if_pos hsz]) h⟩, by
          have h1 := hw.pick [1, 5, 1, 1, 1, 1] rfl
          have h2 := St.starPush (A := (⟨k.toNat, zo.1, zo.2, p⟩ : WaG).dat) h1
          have h3 := h2.pick [1, 1, 1, 1, 0] rfl
          refine St.mdC (x := (⟨x.size, x.th, ⟨O2, oc2, x.wa.l ++ [(⟨k.toNat, zo.1, zo.2, p⟩ : WaG)]⟩⟩ : MdG)) ?_
          unfold MdG.hd MdG.cells WsG.hdr WsG.out WsG.star
          simp only [List.length_append, List.length_cons, List.length_nil, List.map_append, List.map_cons, List.map_nil]
          rw [flatWa_more, show ((((⟨k.toNat, zo.1, zo.2, p⟩ : WaG)).k : Nat) : Int) = k from Int.toNat_of_nonneg h0k]
          exact h3⟩)
      · skip
        refine s_call 29 rfl rfl rfl rfl (fun w hw => cloneM_spec A p.length c p w (hB _ hw.fr) (by omega)) (fun _ h => h.nothing) (fun zo hzo => ?_)
        refine SX.alt ?_ ?_
        · skip
          refine s_ldB 26 1 rfl rfl rfl (v := x.wa.hdr) rfl ?_
          refine s_build 30 rfl rfl (cells := #[.int .i64 k, .slice zo.1 p.length zo.2]) (by kernel_rfl) ?_
          refine s_bsl 31 rfl rfl (cells := #[.int .i64 k, .slice zo.1 p.length zo.2]) (by kernel_rfl) rfl (fun _ h => h.nothing) (fun gT => ?_)
          refine s_app 32 5 rfl rfl rfl rfl (ys := [.int .i64 k, .slice zo.1 p.length zo.2]) (fun w hw => hasCong ((hw.has (i := 0) rfl).blk_sl (m := 1) rfl) rfl) rfl rfl (by omega) (by unfold maxLen; have := hx.wn; omega) (by have := hx.wn; omega) (fun _ _ _ h => h.nothing) (fun O2 oc2 hoc2 => ?_)
          refine s_nil 33 rfl rfl ?_
          refine s_fa 34 rfl rfl ?_
          refine s_stB 2 rfl rfl rfl rfl rfl (by show 2 < 3; decide) (fun _ h => h.nothing) ?_
          refine SX.next ?_
          refine CW.seq ?_
          refine CW.reg [0] rfl ?_
          refine s_as 6 rfl rfl ?_
          refine SX.next ?_
          refine CW.ret ?_
          exact KN.ret (rs := [.tmp 6]) Tryd.results12 rfl (fun w hw => ⟨(⟨x.size, x.th, ⟨O2, oc2, x.wa.l ++ [(⟨k.toNat, zo.1, zo.2, p⟩ : WaG)]⟩⟩ : MdG), by rw [show x.wrC k p.length = 0 from by unfold MdG.wrC; rw [hyes, if_pos rfl, if_pos hsz]]; rfl, ⟨fun _ => ⟨rfl, rfl, by unfold WsG.abs; simp only; rw [List.map_append]; rfl, by simp only [List.length_append, List.length_cons, List.length_nil]; exact hoc2⟩, fun h => absurd (by unfold MdG.wrC; rw [hyes, if_pos rfl, if_pos hsz]) h⟩, by
            have h1 := hw.pick [1, 5, 1, 1, 1, 1] rfl
            have h2 := St.starPush (A := (⟨k.toNat, zo.1, zo.2, p⟩ : WaG).dat) h1
            have h3 := h2.pick [1, 1, 1, 1, 0] rfl
            refine St.mdC (x := (⟨x.size, x.th, ⟨O2, oc2, x.wa.l ++ [(⟨k.toNat, zo.1, zo.2, p⟩ : WaG)]⟩⟩ : MdG)) ?_
            unfold MdG.hd MdG.cells WsG.hdr WsG.out WsG.star
            simp only [List.length_append, List.length_cons, List.length_nil, List.map_append, List.map_cons, List.map_nil]
            rw [flatWa_more, show ((((⟨k.toNat, zo.1, zo.2, p⟩ : WaG)).k : Nat) : Int) = k from Int.toNat_of_nonneg h0k]
            exact h3⟩)
        · skip
          refine s_build 30 rfl rfl (cells := #[.int .i64 k, .slice zo.1 p.length zo.2]) (by kernel_rfl) ?_
          refine SX.alt ?_ ?_
          · skip
            refine s_ldB 26 1 rfl rfl rfl (v := x.wa.hdr) rfl ?_
            refine s_bsl 31 rfl rfl (cells := #[.int .i64 k, .slice zo.1 p.length zo.2]) (by kernel_rfl) rfl (fun _ h => h.nothing) (fun gT => ?_)
            refine s_app 32 5 rfl rfl rfl rfl (ys := [.int .i64 k, .slice zo.1 p.length zo.2]) (fun w hw => hasCong ((hw.has (i := 0) rfl).blk_sl (m := 1) rfl) rfl) rfl rfl (by omega) (by unfold maxLen; have := hx.wn; omega) (by have := hx.wn; omega) (fun _ _ _ h => h.nothing) (fun O2 oc2 hoc2 => ?_)
            refine s_nil 33 rfl rfl ?_
            refine s_fa 34 rfl rfl ?_
            refine s_stB 2 rfl rfl rfl rfl rfl (by show 2 < 3; decide) (fun _ h => h.nothing) ?_
            refine SX.next ?_
            refine CW.seq ?_
            refine CW.reg [0] rfl ?_
            refine s_as 6 rfl rfl ?_
            refine SX.next ?_
            refine CW.ret ?_
            exact KN.ret (rs := [.tmp 6]) Tryd.results12 rfl (fun w hw => ⟨(⟨x.size, x.th, ⟨O2, oc2, x.wa.l ++ [(⟨k.toNat, zo.1, zo.2, p⟩ : WaG)]⟩⟩ : MdG), by rw [show x.wrC k p.length = 0 from by unfold MdG.wrC; rw [hyes, if_pos rfl, if_pos hsz]]; rfl, ⟨fun _ => ⟨rfl, rfl, by unfold WsG.abs; simp only; rw [List.map_append]; rfl, by simp only [List.length_append, List.length_cons, List.length_nil]; exact hoc2⟩, fun h => absurd (by unfold MdG.wrC; rw [hyes, if_pos rfl, if_pos hsz]) h⟩, by
              have h1 := hw.pick [1, 5, 1, 1, 1, 1] rfl
              have h2 := St.starPush (A := (⟨k.toNat, zo.1, zo.2, p⟩ : WaG).dat) h1
              have h3 := h2.pick [1, 1, 1, 1, 0] rfl
              refine St.mdC (x := (⟨x.size, x.th, ⟨O2, oc2, x.wa.l ++ [(⟨k.toNat, zo.1, zo.2, p⟩ : WaG)]⟩⟩ : MdG)) ?_
              unfold MdG.hd MdG.cells WsG.hdr WsG.out WsG.star
              simp only [List.length_append, List.length_cons, List.length_nil, List.map_append, List.map_cons, List.map_nil]
              rw [flatWa_more, show ((((⟨k.toNat, zo.1, zo.2, p⟩ : WaG)).k : Nat) : Int) = k from Int.toNat_of_nonneg h0k]
              exact h3⟩)
          · skip
            refine s_bsl 31 rfl rfl (cells := #[.int .i64 k, .slice zo.1 p.length zo.2]) (by kernel_rfl) rfl (fun _ h => h.nothing) (fun gT => ?_)
            refine s_ldB 26 2 rfl rfl rfl (v := x.wa.hdr) rfl ?_
            refine s_app 32 5 rfl rfl rfl rfl (ys := [.int .i64 k, .slice zo.1 p.length zo.2]) (fun w hw => hasCong ((hw.has (i := 0) rfl).blk_sl (m := 1) rfl) rfl) rfl rfl (by omega) (by unfold maxLen; have := hx.wn; omega) (by have := hx.wn; omega) (fun _ _ _ h => h.nothing) (fun O2 oc2 hoc2 => ?_)
            refine s_nil 33 rfl rfl ?_
            refine s_fa 34 rfl rfl ?_
            refine s_stB 2 rfl rfl rfl rfl rfl (by show 2 < 3; decide) (fun _ h => h.nothing) ?_
            refine SX.next ?_
            refine CW.seq ?_
            refine CW.reg [0] rfl ?_
            refine s_as 6 rfl rfl ?_
            refine SX.next ?_
            refine CW.ret ?_
            exact KN.ret (rs := [.tmp 6]) Tryd.results12 rfl (fun w hw => ⟨(⟨x.size, x.th, ⟨O2, oc2, x.wa.l ++ [(⟨k.toNat, zo.1, zo.2, p⟩ : WaG)]⟩⟩ : MdG), by rw [show x.wrC k p.length = 0 from by unfold MdG.wrC; rw [hyes, if_pos rfl, if_pos hsz]]; rfl, ⟨fun _ => ⟨rfl, rfl, by unfold WsG.abs; simp only; rw [List.map_append]; rfl, by simp only [List.length_append, List.length_cons, List.length_nil]; exact hoc2⟩, fun h => absurd (by unfold MdG.wrC; rw [hyes, if_pos rfl, if_pos hsz]) h⟩, by
              have h1 := hw.pick [1, 5, 1, 1, 1, 1] rfl
              have h2 := St.starPush (A := (⟨k.toNat, zo.1, zo.2, p⟩ : WaG).dat) h1
              have h3 := h2.pick [1, 1, 1, 1, 0] rfl
              refine St.mdC (x := (⟨x.size, x.th, ⟨O2, oc2, x.wa.l ++ [(⟨k.toNat, zo.1, zo.2, p⟩ : WaG)]⟩⟩ : MdG)) ?_
              unfold MdG.hd MdG.cells WsG.hdr WsG.out WsG.star
              simp only [List.length_append, List.length_cons, List.length_nil, List.map_append, List.map_cons, List.map_nil]
              rw [flatWa_more, show ((((⟨k.toNat, zo.1, zo.2, p⟩ : WaG)).k : Nat) : Int) = k from Int.toNat_of_nonneg h0k]
              exact h3⟩)

theorem trimM_spec (F : Nat → Prop) (m : Nat) (x : MdG) (k : Int) (e : Nat → Addr) (w : World) (hx : x.Ok) (heN : ∀ w', Fr F w w' → Er e w' 1) (heS : ∀ w', Fr F w w' → Er e w' 2) (hw : St F w [modelA m x] w) : SpecP Tryd.prog 11 [.pointer (some ⟨m, 0, none⟩), .int .i64 k] F w (X := MdG) (fun _ => wrV e (x.wrC k x.size)) (fun z => (x.wrC k x.size = 0 → x.Put z k.toNat (List.replicate x.size 0)) ∧ (x.wrC k x.size ≠ 0 → z = x)) (fun z => [modelA m z]) := by
  refine spec_ofC Tryd.func11 rfl Tryd.ntmps11 rfl hw ?_
  refine CW.seq ?_
  refine CW.reg [0] rfl ?_
  refine s_as 4 rfl rfl ?_
  refine SX.next ?_
  refine CW.seq ?_
  refine CW.reg [0, 1, 2, 3, 4, 5, 6, 7, 8] rfl ?_
  refine s_mv 5 rfl rfl ?_
  refine s_mv 6 rfl rfl ?_
  refine s_mv 7 rfl rfl ?_
  refine s_nil 8 rfl rfl ?_
  refine s_fa 9 rfl rfl ?_
  refine s_ld 10 rfl rfl (v := .int .i64 (x.size : Nat)) (fun _ hw => md_cell (hw.has (i := 0) rfl) rfl) ?_
  refine s_make 11 x.size rfl rfl rfl rfl rfl (by have := hx.s2; omega) (fun _ _ => trivial) (fun gz => ?_)
  refine s_callP 12 [1, 0] (M := [modelA m x]) (R := [blk gz 5 (List.replicate x.size (Value.int .u8 0)).toArray]) (X := MdG) (v := fun _ => wrV e (x.wrC k x.size)) (pf := fun z => (x.wrC k x.size = 0 → x.Put z k.toNat (List.replicate x.size 0)) ∧ (x.wrC k x.size ≠ 0 → z = x)) (M' := fun z => [modelA m z]) rfl rfl rfl rfl rfl (fun F' w' hR hM => by
    have h1 := writeM_spec F' m x k (some ⟨gz, 0, none⟩) x.size (List.replicate x.size 0) e w' hx (fun w2 hf => heN _ (hR w2 hf).fr) (fun w2 hf => heS _ (hR w2 hf).fr) (fun w2 hf => by
      have h2 := ((hR w2 hf).has (i := 0) rfl).blk_sl (sz := 1) (m := x.size) (by simp)
      rw [List.length_replicate]
      exact hasCong h2 (by simp [nats])) hM
    rw [List.length_replicate] at h1
    exact h1) (fun _ _ _ => trivial) (fun z hz => ?_)
  refine s_as 4 rfl rfl ?_
  refine SX.next ?_
  refine CW.ret ?_
  exact KN.ret (rs := [.tmp 4]) Tryd.results11 rfl (fun w hw => ⟨z, rfl, hz, hw.pick [0] rfl⟩)

theorem newM_bad (a b : Int) (e : Nat → Addr) (w : World) (hE : Er e w 0) (hbad : ¬ (1 ≤ a ∧ a ≤ 1048576 ∧ 1 ≤ b ∧ b ≤ 1024)) : Spec1 Tryd.prog 6 [.int .i64 a, .int .i64 b] w (two (.pointer none) (errV e 0)) := by
  refine spec_of Tryd.func6 rfl Tryd.ntmps6 rfl ?_
  refine CW.seq ?_
  refine CW.reg [0, 1] rfl ?_
  refine s_as 4 rfl rfl ?_
  refine s_as 5 rfl rfl ?_
  refine SX.next ?_
  refine CW.seq ?_
  refine CW.seq ?_
  refine CW.reg [0, 1, 2, 3, 4, 5, 6, 7, 8, 9, 10, 11, 12, 13] rfl ?_
  refine s_mv 7 rfl rfl ?_
  refine s_lt 8 rfl rfl rfl rfl ?_
  refine s_mv 9 rfl rfl ?_
  refine SX.bool 9 rfl (fun hb => ?_) (fun hb => ?_)
  · skip
    have hq := of_decide_eq_true hb
    refine SX.skip rfl ?_
    refine SX.skip rfl ?_
    refine s_pickT 12 rfl rfl rfl ?_
    refine s_mv 13 rfl rfl ?_
    refine SX.skip rfl ?_
    refine SX.skip rfl ?_
    refine s_pickT 16 rfl rfl rfl ?_
    refine s_mv 17 rfl rfl ?_
    refine SX.skip rfl ?_
    refine SX.skip rfl ?_
    refine s_pickT 20 rfl rfl rfl ?_
    refine SX.next ?_
    refine CW.condT rfl ?_
    refine CW.seq ?_
    refine CW.regD (.st true 0 (.st true 1 (.st true 2 .done))) (Sto w []) mixed (by kernel_rfl) (fun _ h => h.drew) (fun _ h => h.nothing) ?_
    refine s_ldS 21 rfl rfl (fun _ h => h.cell hE) ?_
    refine s_as 4 rfl rfl ?_
    refine s_as 5 rfl rfl ?_
    refine SX.next ?_
    refine CW.ret ?_
    exact KN.ret (rs := [.tmp 4, .tmp 5]) Tryd.results6 rfl (fun w hw => ⟨rfl, hw.nothing⟩)
  · skip
    have hq9 := of_decide_eq_false hb
    refine s_mv 10 rfl rfl ?_
    refine s_gt 11 rfl rfl rfl rfl ?_
    refine s_pickF 12 rfl rfl rfl ?_
    refine s_mv 13 rfl rfl ?_
    refine SX.bool 13 rfl (fun hb => ?_) (fun hb => ?_)
    · skip
      have hq := of_decide_eq_true hb
      refine SX.skip rfl ?_
      refine SX.skip rfl ?_
      refine s_pickT 16 rfl rfl rfl ?_
      refine s_mv 17 rfl rfl ?_
      refine SX.skip rfl ?_
      refine SX.skip rfl ?_
      refine s_pickT 20 rfl rfl rfl ?_
      refine SX.next ?_
      refine CW.condT rfl ?_
      refine CW.seq ?_
      refine CW.regD (.st true 0 (.st true 1 (.st true 2 .done))) (Sto w []) mixed (by kernel_rfl) (fun _ h => h.drew) (fun _ h => h.nothing) ?_
      refine s_ldS 21 rfl rfl (fun _ h => h.cell hE) ?_
      refine s_as 4 rfl rfl ?_
      refine s_as 5 rfl rfl ?_
      refine SX.next ?_
      refine CW.ret ?_
      exact KN.ret (rs := [.tmp 4, .tmp 5]) Tryd.results6 rfl (fun w hw => ⟨rfl, hw.nothing⟩)
    · skip
      have hq13 := of_decide_eq_false hb
      refine s_mv 14 rfl rfl ?_
      refine s_lt 15 rfl rfl rfl rfl ?_
      refine s_pickF 16 rfl rfl rfl ?_
      refine s_mv 17 rfl rfl ?_
      refine SX.bool 17 rfl (fun hb => ?_) (fun hb => ?_)
      · skip
        have hq := of_decide_eq_true hb
        refine SX.skip rfl ?_
        refine SX.skip rfl ?_
        refine s_pickT 20 rfl rfl rfl ?_
        refine SX.next ?_
        refine CW.condT rfl ?_
        refine CW.seq ?_
        refine CW.regD (.st true 0 (.st true 1 (.st true 2 .done))) (Sto w []) mixed (by kernel_rfl) (fun _ h => h.drew) (fun _ h => h.nothing) ?_
        refine s_ldS 21 rfl rfl (fun _ h => h.cell hE) ?_
        refine s_as 4 rfl rfl ?_
        refine s_as 5 rfl rfl ?_
        refine SX.next ?_
        refine CW.ret ?_
        exact KN.ret (rs := [.tmp 4, .tmp 5]) Tryd.results6 rfl (fun w hw => ⟨rfl, hw.nothing⟩)
      · skip
        have hq17 := of_decide_eq_false hb
        refine s_mv 18 rfl rfl ?_
        refine s_gt 19 rfl rfl rfl rfl ?_
        refine s_pickF 20 rfl rfl rfl ?_
        refine SX.next ?_
        refine CW.test rfl (fun hq => ?_) (fun hq => ?_)
        · skip
          refine CW.seq ?_
          refine CW.regD (.st true 0 (.st true 1 (.st true 2 .done))) (Sto w []) mixed (by kernel_rfl) (fun _ h => h.drew) (fun _ h => h.nothing) ?_
          refine s_ldS 21 rfl rfl (fun _ h => h.cell hE) ?_
          refine s_as 4 rfl rfl ?_
          refine s_as 5 rfl rfl ?_
          refine SX.next ?_
          refine CW.ret ?_
          exact KN.ret (rs := [.tmp 4, .tmp 5]) Tryd.results6 rfl (fun w hw => ⟨rfl, hw.nothing⟩)
        · skip
          omega

set_option maxHeartbeats 1600000 in

theorem newM_ok (ns sz : Nat) (w : World) (h1 : 1 ≤ ns) (h2 : ns ≤ 40) (h3 : 1 ≤ sz) (h4 : sz ≤ 1024) : SpecX Tryd.prog 6 [.int .i64 (ns : Nat), .int .i64 (sz : Nat)] w (X := Nat × MdG) (fun z => two (.pointer (some ⟨z.1, 0, none⟩)) .nilIface) (fun z => z.2.size = sz ∧ z.2.th.abs = List.replicate ns (List.replicate sz 0) ∧ z.2.wa = WsG.nil ∧ z.2.th.l.length ≤ z.2.th.c) (fun z => [modelA z.1 z.2]) := by
  refine spec_of Tryd.func6 rfl Tryd.ntmps6 rfl ?_
  refine CW.seq ?_
  refine CW.reg [0, 1] rfl ?_
  refine s_as 4 rfl rfl ?_
  refine s_as 5 rfl rfl ?_
  refine SX.next ?_
  refine CW.seq ?_
  refine CW.seq ?_
  refine CW.reg [0, 1, 2, 3, 4, 5, 6, 7, 8, 9, 10, 11, 12, 13] rfl ?_
  refine s_mv 7 rfl rfl ?_
  refine s_lt 8 rfl rfl rfl (decide_eq_false (by omega)) ?_
  refine s_mv 9 rfl rfl ?_
  refine s_mv 10 rfl rfl ?_
  refine s_gt 11 rfl rfl rfl (decide_eq_false (by omega)) ?_
  refine s_pickF 12 rfl rfl rfl ?_
  refine s_mv 13 rfl rfl ?_
  refine s_mv 14 rfl rfl ?_
  refine s_lt 15 rfl rfl rfl (decide_eq_false (by omega)) ?_
  refine s_pickF 16 rfl rfl rfl ?_
  refine s_mv 17 rfl rfl ?_
  refine s_mv 18 rfl rfl ?_
  refine s_gt 19 rfl rfl rfl (decide_eq_false (by omega)) ?_
  refine s_pickF 20 rfl rfl rfl ?_
  refine SX.next ?_
  refine CW.condF rfl ?_
  refine CW.skip ?_
  refine KN.code ?_
  refine CW.seq ?_
  refine CW.reg [0, 1, 2, 3] rfl ?_
  refine s_mv 22 rfl rfl ?_
  refine s_build 23 rfl rfl (cells := #[.int .i64 (sz : Nat), .slice none 0 0, .slice none 0 0]) (by kernel_rfl) ?_
  refine s_box 24 rfl rfl (fun _ _ => trivial) (fun m => ?_)
  refine s_as 6 rfl rfl ?_
  refine SX.next ?_
  refine CW.seq ?_
  refine CW.seq ?_
  refine CW.reg [0, 1] rfl ?_
  refine s_mv 25 rfl rfl ?_
  refine s_mv 26 rfl rfl ?_
  refine SX.next ?_
  refine CW.block ?_
  refine CW.loop (G := Nat × LsG) (fun z => [(1, .int .i64 (sz : Nat)), (6, .pointer (some ⟨m, 0, none⟩)), (25, .int .i64 (ns : Nat)), (26, .int .i64 (z.1 : Nat))]) (fun z => Sto w [blk m 61 #[.int .i64 (sz : Nat), z.2.hdr, .slice none 0 0], z.2.out, z.2.star]) (fun z => z.1 ≤ ns ∧ z.2.abs = List.replicate z.1 (List.replicate sz 0) ∧ z.2.l.length ≤ z.2.c) (fun z => ns - z.1) (0, LsG.nil) ⟨rfl, rfl, rfl, rfl, trivial⟩ (fun _ h => by
    have h1 := (h.begin_ 31 1).starNil
    exact h1.pick [2, 1, 0] rfl) ⟨Nat.zero_le _, rfl, Nat.le_refl _⟩ ?_
  rintro ⟨i, z⟩ ⟨hi, hz, hzc⟩
  simp only at hi hz hzc
  dsimp only
  have hzl : z.l.length = i := by
    have := congrArg List.length hz
    rwa [LsG.abs_len, List.length_replicate] at this
  refine CW.seq ?_
  refine CW.reg [0] rfl ?_
  refine s_lt 27 rfl rfl rfl rfl ?_
  refine SX.next ?_
  refine CW.seq ?_
  refine CW.test rfl (fun hc => ?_) (fun hc => ?_)
  · skip
    have hil : i < ns := by omega
    refine CW.skip ?_
    refine KN.code ?_
    refine CW.seq ?_
    refine CW.block ?_
    refine CW.regD (.st true 0 (.st true 1 (.st true 2 (.st true 3 (.st true 5 (.alt 4 (.st false 6 (.st false 7 (.st false 8 (.st true 9 (.st true 10 (.st false 11 .done)))))) (.st false 6 (.alt 4 (.st false 7 (.st false 8 (.st true 9 (.st true 10 (.st false 11 .done))))) (.st false 7 (.st false 4 (.st false 8 (.st true 9 (.st true 10 (.st false 11 .done)))))))))))))) (Sto w []) mixed (by kernel_rfl) (fun _ h => h.drew) (fun _ h => h.nothing) ?_
    refine s_mv 28 rfl rfl ?_
    refine s_mv 29 rfl rfl ?_
    refine s_nil 30 rfl rfl ?_
    refine s_fa 31 rfl rfl ?_
    refine s_mv 33 rfl rfl ?_
    refine SX.alt ?_ ?_
    · skip
      refine s_ldB 32 0 rfl rfl rfl (v := z.hdr) rfl ?_
      refine s_make 34 sz rfl rfl rfl rfl rfl (by omega) (fun _ h => h.nothing) (fun gz => ?_)
      refine s_bsl 35 rfl rfl (cells := #[.slice (some ⟨gz, 0, none⟩) sz sz]) (by kernel_rfl) rfl (fun _ h => h.nothing) (fun gT => ?_)
      refine s_app 36 3 rfl rfl rfl rfl (ys := [.slice (some ⟨gz, 0, none⟩) sz sz]) (fun w hw => hasCong ((hw.has (i := 0) rfl).blk_sl (m := 1) rfl) rfl) rfl rfl (by omega) (by unfold maxLen; omega) (by omega) (fun _ _ _ h => h.nothing) (fun O2 oc2 hoc2 => ?_)
      refine s_nil 37 rfl rfl ?_
      refine s_fa 38 rfl rfl ?_
      refine s_stB 2 rfl rfl rfl rfl rfl (by show 1 < 3; decide) (fun _ h => h.nothing) ?_
      refine SX.end_ ?_
      refine KN.blk ?_
      refine KN.code ?_
      refine CW.reg [0, 1] rfl ?_
      refine s_add 39 rfl rfl rfl (r := ((i + 1 : Nat) : Int)) (w64 (by omega)) ?_
      refine s_mv 26 rfl rfl ?_
      refine SX.end_ ?_
      exact KN.back (i + 1, ⟨O2, oc2, z.l ++ [(⟨some ⟨gz, 0, none⟩, sz, List.replicate sz 0⟩ : ByG)]⟩) ⟨rfl, rfl, rfl, rfl, trivial⟩ (fun _ h => by
        have h0 := h.blkOwnM (q := 1) (m := sz) (c := sz) (sz := 1) rfl (by simp) (Nat.le_refl _) (by unfold maxLen; omega)
        rw [List.take_of_length_le (by simp)] at h0
        have h1 := h0.pick [1, 3, 1, 1] rfl
        have h2 := St.starPush (A := (⟨some ⟨gz, 0, none⟩, sz, List.replicate sz 0⟩ : ByG).dat) (X := z.l.map ByG.dat) (by
          unfold ByG.dat
          rw [List.length_replicate, show nats .u8 (List.replicate sz 0) = List.replicate sz (Value.int .u8 0) by simp [nats]]
          exact h1)
        have h3 := h2.pick [1, 1, 0] rfl
        unfold LsG.out LsG.star LsG.hdr
        simp only [List.length_append, List.length_cons, List.length_nil, List.map_append, List.map_cons, List.map_nil]
        rw [flatBy_more, List.length_replicate]
        exact h3) ⟨by simp only; omega, by
        unfold LsG.abs at hz ⊢
        simp only
        rw [List.map_append, hz, List.replicate_succ']
        rfl, by simp only [List.length_append, List.length_cons, List.length_nil]; omega⟩ (by simp only; omega)
    · skip
      refine s_make 34 sz rfl rfl rfl rfl rfl (by omega) (fun _ h => h.nothing) (fun gz => ?_)
      refine SX.alt ?_ ?_
      · skip
        refine s_ldB 32 1 rfl rfl rfl (v := z.hdr) rfl ?_
        refine s_bsl 35 rfl rfl (cells := #[.slice (some ⟨gz, 0, none⟩) sz sz]) (by kernel_rfl) rfl (fun _ h => h.nothing) (fun gT => ?_)
        refine s_app 36 3 rfl rfl rfl rfl (ys := [.slice (some ⟨gz, 0, none⟩) sz sz]) (fun w hw => hasCong ((hw.has (i := 0) rfl).blk_sl (m := 1) rfl) rfl) rfl rfl (by omega) (by unfold maxLen; omega) (by omega) (fun _ _ _ h => h.nothing) (fun O2 oc2 hoc2 => ?_)
        refine s_nil 37 rfl rfl ?_
        refine s_fa 38 rfl rfl ?_
        refine s_stB 2 rfl rfl rfl rfl rfl (by show 1 < 3; decide) (fun _ h => h.nothing) ?_
        refine SX.end_ ?_
        refine KN.blk ?_
        refine KN.code ?_
        refine CW.reg [0, 1] rfl ?_
        refine s_add 39 rfl rfl rfl (r := ((i + 1 : Nat) : Int)) (w64 (by omega)) ?_
        refine s_mv 26 rfl rfl ?_
        refine SX.end_ ?_
        exact KN.back (i + 1, ⟨O2, oc2, z.l ++ [(⟨some ⟨gz, 0, none⟩, sz, List.replicate sz 0⟩ : ByG)]⟩) ⟨rfl, rfl, rfl, rfl, trivial⟩ (fun _ h => by
          have h0 := h.blkOwnM (q := 1) (m := sz) (c := sz) (sz := 1) rfl (by simp) (Nat.le_refl _) (by unfold maxLen; omega)
          rw [List.take_of_length_le (by simp)] at h0
          have h1 := h0.pick [1, 3, 1, 1] rfl
          have h2 := St.starPush (A := (⟨some ⟨gz, 0, none⟩, sz, List.replicate sz 0⟩ : ByG).dat) (X := z.l.map ByG.dat) (by
            unfold ByG.dat
            rw [List.length_replicate, show nats .u8 (List.replicate sz 0) = List.replicate sz (Value.int .u8 0) by simp [nats]]
            exact h1)
          have h3 := h2.pick [1, 1, 0] rfl
          unfold LsG.out LsG.star LsG.hdr
          simp only [List.length_append, List.length_cons, List.length_nil, List.map_append, List.map_cons, List.map_nil]
          rw [flatBy_more, List.length_replicate]
          exact h3) ⟨by simp only; omega, by
          unfold LsG.abs at hz ⊢
          simp only
          rw [List.map_append, hz, List.replicate_succ']
          rfl, by simp only [List.length_append, List.length_cons, List.length_nil]; omega⟩ (by simp only; omega)
      · skip
        refine s_bsl 35 rfl rfl (cells := #[.slice (some ⟨gz, 0, none⟩) sz sz]) (by kernel_rfl) rfl (fun _ h => h.nothing) (fun gT => ?_)
        refine s_ldB 32 2 rfl rfl rfl (v := z.hdr) rfl ?_
        refine s_app 36 3 rfl rfl rfl rfl (ys := [.slice (some ⟨gz, 0, none⟩) sz sz]) (fun w hw => hasCong ((hw.has (i := 0) rfl).blk_sl (m := 1) rfl) rfl) rfl rfl (by omega) (by unfold maxLen; omega) (by omega) (fun _ _ _ h => h.nothing) (fun O2 oc2 hoc2 => ?_)
        refine s_nil 37 rfl rfl ?_
        refine s_fa 38 rfl rfl ?_
        refine s_stB 2 rfl rfl rfl rfl rfl (by show 1 < 3; decide) (fun _ h => h.nothing) ?_
        refine SX.end_ ?_
        refine KN.blk ?_
        refine KN.code ?_
        refine CW.reg [0, 1] rfl ?_
        refine s_add 39 rfl rfl rfl (r := ((i + 1 : Nat) : Int)) (w64 (by omega)) ?_
        refine s_mv 26 rfl rfl ?_
        refine SX.end_ ?_
        exact KN.back (i + 1, ⟨O2, oc2, z.l ++ [(⟨some ⟨gz, 0, none⟩, sz, List.replicate sz 0⟩ : ByG)]⟩) ⟨rfl, rfl, rfl, rfl, trivial⟩ (fun _ h => by
          have h0 := h.blkOwnM (q := 1) (m := sz) (c := sz) (sz := 1) rfl (by simp) (Nat.le_refl _) (by unfold maxLen; omega)
          rw [List.take_of_length_le (by simp)] at h0
          have h1 := h0.pick [1, 3, 1, 1] rfl
          have h2 := St.starPush (A := (⟨some ⟨gz, 0, none⟩, sz, List.replicate sz 0⟩ : ByG).dat) (X := z.l.map ByG.dat) (by
            unfold ByG.dat
            rw [List.length_replicate, show nats .u8 (List.replicate sz 0) = List.replicate sz (Value.int .u8 0) by simp [nats]]
            exact h1)
          have h3 := h2.pick [1, 1, 0] rfl
          unfold LsG.out LsG.star LsG.hdr
          simp only [List.length_append, List.length_cons, List.length_nil, List.map_append, List.map_cons, List.map_nil]
          rw [flatBy_more, List.length_replicate]
          exact h3) ⟨by simp only; omega, by
          unfold LsG.abs at hz ⊢
          simp only
          rw [List.map_append, hz, List.replicate_succ']
          rfl, by simp only [List.length_append, List.length_cons, List.length_nil]; omega⟩ (by simp only; omega)
  · skip
    obtain rfl : i = ns := by omega
    refine CW.exit rfl ?_
    refine KN.code ?_
    refine CW.seq ?_
    refine CW.reg [0, 1, 2] rfl ?_
    refine s_mv 40 rfl rfl ?_
    refine s_as 4 rfl rfl ?_
    refine s_as 5 rfl rfl ?_
    refine SX.next ?_
    refine CW.ret ?_
    exact KN.ret (rs := [.tmp 4, .tmp 5]) Tryd.results6 rfl (fun w hw => ⟨(m, ⟨sz, z, WsG.nil⟩), rfl, ⟨rfl, hz, rfl, hzc⟩, by
      have h2 := (hw.begin_ 65 2).starNil
      exact St.mdC (x := ⟨sz, z, WsG.nil⟩) (h2.pick [2, 2, 2, 1, 0] rfl)⟩)
end Go.Proofs.YtaamaifnmppbgaaDoor
end
section
/- Package model: fronts compared, what is read, the fronts told one by one, settling. Conditions: the model is read where it lies, or lent. -/
namespace Go.Proofs.YtaamaifnmppbgaaDoor
open Go Go.Sx
set_option maxRecDepth 100000
def gW (p : List WaG) (i : Nat) : WaG := p.getD i ⟨0, none, 0, []⟩
theorem gW_at {p : List WaG} {i : Nat} (h : i < p.length) : p[i]? = some (gW p i) := by
  unfold gW
  rw [List.getD_eq_getElem?_getD, List.getElem?_eq_getElem h, Option.getD_some]
theorem md_read_wait {x : MdG} (hx : x.Ok) {k : Int} {j : Nat} {e : WaG} (he : x.wa.l[j]? = some e) (hk : ((e.k : Nat) : Int) = k) (hJ : ∀ (i : Nat) (e2 : WaG), j < i → x.wa.l[i]? = some e2 → ((e2.k : Nat) : Int) ≠ k) : (frontL x.th.abs x.wa.abs)[k.toNat]? = some e.l := by
  obtain ⟨h1, _⟩ := hx.wa e (List.mem_of_getElem? he)
  have e1 : x.wa.abs[j]? = some e.abs := by unfold WsG.abs; rw [List.getElem?_map, he]; rfl
  have e2 := read_wait (t := x.th.abs) e1 (by rw [LsG.abs_len]; exact h1) (fun i e2 hi h2 => by
    unfold WsG.abs at h2
    rw [List.getElem?_map] at h2
    obtain ⟨e3, h3, rfl⟩ := Option.map_eq_some_iff.1 h2
    have := hJ i e3 hi h3
    show e3.k ≠ e.k
    omega)
  have e3 : k.toNat = e.abs.1 := by show _ = e.k; omega
  rw [e3]
  exact e2
theorem md_read_there {x : MdG} {k : Int} (h0 : 0 ≤ k) (hJ : ∀ (i : Nat) (e2 : WaG), x.wa.l[i]? = some e2 → ((e2.k : Nat) : Int) ≠ k) {b : ByG} (hb : x.th.l[k.toNat]? = some b) : (frontL x.th.abs x.wa.abs)[k.toNat]? = some b.l := by
  rw [read_there (fun j e2 h2 => by
    unfold WsG.abs at h2
    rw [List.getElem?_map] at h2
    obtain ⟨e3, h3, rfl⟩ := Option.map_eq_some_iff.1 h2
    have := hJ j e3 h3
    show e3.k ≠ _
    omega)]
  exact LsG.at_ hb
theorem front_all {p : List Nat → Prop} {t : List (List Nat)} {ws : List Wt} (ht : ∀ l ∈ t, p l) (hw : ∀ e ∈ ws, p e.2) : ∀ l ∈ frontL t ws, p l := by
  induction ws generalizing t with
  | nil => exact ht
  | cons e ws ih =>
    refine ih (t := t.set e.1 e.2) (fun l hl => ?_) (fun e he => hw e (by simp [he]))
    rcases List.mem_or_eq_of_mem_set hl with h | h
    · exact ht l h
    · rw [h]; exact hw e (by simp)
theorem LsG.all_ {p : List Nat → Prop} {q : LsG} {l : List (List Nat)} (h : q.abs = l) (hl : ∀ z ∈ l, p z) : ∀ b ∈ q.l, p b.l := fun b hb => hl _ (by rw [← h]; exact List.mem_map_of_mem (f := (·.l)) hb)
theorem MdG.Ok.again {x : MdG} (hx : x.Ok) {z : LsG} (hz : z.abs = x.th.abs) (A : Option Addr) {c : Nat} (hc : x.wa.l.length ≤ c) : MdG.Ok ⟨x.size, z, ⟨A, c, x.wa.l⟩⟩ := by
  have hl := abs_lens hz
  refine ⟨hx.s1, hx.s2, by simp only; rw [hl]; exact hx.n1, by simp only; rw [hl]; exact hx.n2, ?_, hx.wn, hc, fun e he => by simp only; rw [hl]; exact hx.wa e he⟩
  exact LsG.all_ (p := fun l => l.length = x.size ∧ ∀ v ∈ l, v < 256) hz (fun l hl => by
    obtain ⟨b, hb, rfl⟩ := List.mem_map.1 hl
    exact hx.th b hb)
theorem md_front_ok {x : MdG} (hx : x.Ok) (n : Nat) : ∀ l ∈ frontL x.th.abs (x.wa.abs.take n), l.length = x.size ∧ ∀ v ∈ l, v < 256 :=
  front_all (p := fun l => l.length = x.size ∧ ∀ v ∈ l, v < 256) (fun l hl => by
    obtain ⟨b, hb, rfl⟩ := List.mem_map.1 hl
    exact hx.th b hb) (fun e he => by
    obtain ⟨e2, he2, rfl⟩ := List.mem_map.1 (List.mem_of_mem_take he)
    exact (hx.wa e2 he2).2)

theorem eqF_spec (q1 q2 : LsG) (w : World) (h1 : Has (sl 1 q1.A q1.l.length (q1.l.flatMap ByG.row)) w) (s1 : Has q1.star w) (b1 : ∀ b ∈ q1.l, ∀ v ∈ b.l, v < 256) (h2 : Has (sl 1 q2.A q2.l.length (q2.l.flatMap ByG.row)) w) (s2 : Has q2.star w) (b2 : ∀ b ∈ q2.l, ∀ v ∈ b.l, v < 256) (n1 : q1.l.length ≤ 1000) : Spec1 Tryd.prog 29 [q1.hdr, q2.hdr, .func (.func 30) #[] #[]] w (.bool (decide (q1.abs = q2.abs))) := by
  refine spec_of Tryd.func29 rfl Tryd.ntmps29 rfl ?_
  refine CW.seq ?_
  refine CW.reg [0] rfl ?_
  refine s_as 6 rfl rfl ?_
  refine SX.next ?_
  refine CW.seq ?_
  refine CW.seq ?_
  refine CW.reg [0, 1, 2, 3, 4] rfl ?_
  refine s_mv 10 rfl rfl ?_
  refine s_len 11 rfl rfl ?_
  refine s_mv 12 rfl rfl ?_
  refine s_len 13 rfl rfl ?_
  refine s_ne 14 rfl rfl rfl rfl ?_
  refine SX.next ?_
  refine CW.test rfl (fun hc => ?_) (fun hc => ?_)
  · skip
    have hz : decide (q1.abs = q2.abs) = false := decide_eq_false (fun h => hc (by rw [abs_lens h]))
    refine CW.seq ?_
    refine CW.reg [0] rfl ?_
    refine s_as 6 rfl rfl ?_
    refine SX.next ?_
    refine CW.ret ?_
    exact KN.ret (rs := [.tmp 6]) Tryd.results29 rfl (fun w hw => ⟨by rw [hz]; rfl, hw.nothing⟩)
  · skip
    have hlen : q1.l.length = q2.l.length := by omega
    refine CW.skip ?_
    refine KN.code ?_
    refine CW.seq ?_
    refine CW.seq ?_
    refine CW.reg [0, 1, 2] rfl ?_
    refine s_mv 15 rfl rfl ?_
    refine s_len 16 rfl rfl ?_
    refine s_mv 17 rfl rfl ?_
    refine SX.next ?_
    refine CW.block ?_
    refine CW.loop (G := Nat) (fun i => [(0, q1.hdr), (1, q2.hdr), (2, .func (.func 30) #[] #[]), (15, q1.hdr), (16, .int .i64 (q1.l.length : Nat)), (17, .int .i64 (i : Nat))]) (fun _ => Sto w []) (fun i => i ≤ q1.l.length ∧ q1.abs.take i = q2.abs.take i) (fun i => q1.l.length - i) 0 ⟨rfl, rfl, rfl, rfl, rfl, rfl, trivial⟩ (fun _ h => h) ⟨Nat.zero_le _, rfl⟩ ?_
    rintro i ⟨hi, hp⟩
    refine CW.seq ?_
    refine CW.reg [0] rfl ?_
    refine s_lt 18 rfl rfl rfl rfl ?_
    refine SX.next ?_
    refine CW.seq ?_
    refine CW.test rfl (fun hc => ?_) (fun hc => ?_)
    · skip
      have hil : i < q1.l.length := by omega
      obtain ⟨b, hb⟩ : ∃ b, q1.l[i]? = some b := ⟨_, List.getElem?_eq_getElem hil⟩
      obtain ⟨d, hd⟩ : ∃ d, q2.l[i]? = some d := ⟨_, List.getElem?_eq_getElem (by omega)⟩
      have hbm := List.mem_of_getElem? hb
      have hdm := List.mem_of_getElem? hd
      refine CW.skip ?_
      refine KN.code ?_
      refine CW.seq ?_
      refine CW.block ?_
      refine CW.seq ?_
      refine CW.reg [0, 1, 2, 3, 4] rfl ?_
      refine s_mv 19 rfl rfl ?_
      refine s_iaV 20 i (fun w hw => hw.old h1) rfl rfl rfl rfl hil ?_
      refine s_ld 21 rfl rfl (v := .slice b.A b.l.length b.c) (fun _ hw => (hw.old h1).rowAt byRow_len hb (by omega) 0 _ rfl) ?_
      refine s_as 7 rfl rfl ?_
      refine s_as 8 rfl rfl ?_
      refine SX.next ?_
      refine CW.seq ?_
      refine CW.reg [0, 1, 2, 3, 4] rfl ?_
      refine s_mv 22 rfl rfl ?_
      refine s_mv 23 rfl rfl ?_
      refine s_iaV 24 i (fun w hw => hw.old h2) rfl rfl rfl rfl (by omega) ?_
      refine s_ld 25 rfl rfl (v := .slice d.A d.l.length d.c) (fun _ hw => (hw.old h2).rowAt byRow_len hd (by omega) 0 _ rfl) ?_
      refine s_as 9 rfl rfl ?_
      refine SX.next ?_
      refine CW.seq ?_
      refine CW.reg [0, 1, 2, 3, 4] rfl ?_
      refine s_mv 26 rfl rfl ?_
      refine s_mv 27 rfl rfl ?_
      refine s_mv 28 rfl rfl ?_
      refine s_call1 29 rfl rfl rfl rfl (fun w hw => eqM_spec b.A b.l.length b.c b.l d.A d.l.length d.c d.l w (hw.old (ls_dat s1 hbm)) (b1 b hbm) (hw.old (ls_dat s2 hdm)) (b2 d hdm)) (fun _ _ => trivial) ?_
      refine s_not 30 rfl rfl ?_
      refine SX.next ?_
      refine CW.cond rfl (fun hc2 => ?_) (fun hc2 => ?_)
      · skip
        have hne : b.l ≠ d.l := by simpa using hc2
        have hz : decide (q1.abs = q2.abs) = false := decide_eq_false (fun h => hne (by
          have e1 := LsG.at_ hb
          rw [h, LsG.at_ hd] at e1
          exact (Option.some.inj e1).symm))
        refine CW.seq ?_
        refine CW.reg [0] rfl ?_
        refine s_as 6 rfl rfl ?_
        refine SX.next ?_
        refine CW.ret ?_
        exact KN.ret (rs := [.tmp 6]) Tryd.results29 rfl (fun w hw => ⟨by rw [hz]; rfl, hw.nothing⟩)
      · skip
        have heq : b.l = d.l := by simpa using hc2
        refine CW.skip ?_
        refine KN.blk ?_
        refine KN.code ?_
        refine CW.reg [0, 1] rfl ?_
        refine s_add 31 rfl rfl rfl (r := ((i + 1 : Nat) : Int)) (w64 (by omega)) ?_
        refine s_mv 17 rfl rfl ?_
        refine SX.end_ ?_
        exact KN.back (i + 1) ⟨rfl, rfl, rfl, rfl, rfl, rfl, trivial⟩ (fun _ h => h) ⟨by omega, by rw [List.take_add_one, List.take_add_one, hp, LsG.at_ hb, LsG.at_ hd, heq]⟩ (by omega)
    · skip
      obtain rfl : i = q1.l.length := by omega
      have hz : decide (q1.abs = q2.abs) = true := decide_eq_true (by
        have e1 := hp
        rw [← LsG.abs_len q1, List.take_length, LsG.abs_len, hlen, ← LsG.abs_len q2, List.take_length] at e1
        exact e1)
      refine CW.exit rfl ?_
      refine KN.code ?_
      refine CW.seq ?_
      refine CW.reg [0] rfl ?_
      refine s_as 6 rfl rfl ?_
      refine SX.next ?_
      refine CW.ret ?_
      exact KN.ret (rs := [.tmp 6]) Tryd.results29 rfl (fun w hw => ⟨by rw [hz]; rfl, hw.nothing⟩)

theorem backM_spec (A : Option Addr) (n c : Nat) (w : World) : SpecX Tryd.prog 25 [.slice A n c] w (X := Nat) (fun bx => .func (.func 31) #[] #[.pointer (some ⟨bx, 0, none⟩)]) (fun _ => True) (fun bx => [blk bx 59 #[.slice A n c]]) := by
  refine spec_of Tryd.func25 rfl Tryd.ntmps25 rfl ?_
  refine CW.seq ?_
  refine CW.reg [0, 1] rfl ?_
  refine s_box 1 rfl rfl (fun _ _ => trivial) (fun bx => ?_)
  refine s_as 2 rfl rfl ?_
  refine SX.next ?_
  refine CW.seq ?_
  refine CW.reg [0, 1] rfl ?_
  refine s_mkf 3 rfl rfl rfl ?_
  refine s_as 2 rfl rfl ?_
  refine SX.next ?_
  refine CW.ret ?_
  exact KN.ret (rs := [.tmp 2]) Tryd.results25 rfl (fun w hw => ⟨bx, rfl, trivial, hw⟩)

theorem backIt (bx : Nat) (A : Option Addr) (c : Nat) (p : List WaG) (w : World) (hn : p.length ≤ 1000) (hs : Has (sl 2 A p.length (p.flatMap WaG.row)) w) : IterF Tryd.prog (Old w) w (fun _ => True) 31 [.pointer (some ⟨bx, 0, none⟩)] [blk bx 59 #[.slice A p.length c]] (X := Unit) (fun (r : Nat) (_ : Unit) => [.int .i64 ((p.length : Int) - 1 - (r : Nat)), .agg (gW p (p.length - 1 - r)).row.toArray]) (fun _ _ => True) (fun _ _ => []) p.length := by
  intro lr J Jx R w1 _ hY hw
  refine calls_ofI Tryd.func31 rfl Tryd.ntmps31 rfl (C := Sto w [J 0, blk bx 59 #[.slice A p.length c], R]) hw ?_
  refine CWI.seq ?_
  refine CWI.reg [0, 1, 2, 3] rfl (by kernel_rfl) ?_
  refine SXI.of (fun _ hK => s_ld 4 rfl rfl (fun _ h => h.blkCell (i := 1) (j := 0) rfl rfl) (SX.done hK)) ?_
  refine SXI.of (fun _ hK => s_len 5 rfl rfl (SX.done hK)) ?_
  refine SXI.of (fun _ hK => s_sub 6 rfl rfl rfl (r := (p.length : Int) - 1 - ((0 : Nat) : Int)) (by rw [w64 (by omega)]; omega) (SX.done hK)) ?_
  refine SXI.of (fun _ hK => s_as 3 rfl rfl (SX.done hK)) ?_
  refine SXI.next ?_
  refine CWI.block ?_
  refine CWI.loop (G := Nat) (fun _ => []) (fun r => [(0, .func (.yield lr) #[] #[]), (1, .pointer (some ⟨bx, 0, none⟩)), (3, .int .i64 ((p.length : Int) - 1 - (r : Nat)))]) (fun r => Sto w [J r, blk bx 59 #[.slice A p.length c], R]) (fun r => r ≤ p.length) (fun r => p.length - r) 0 rfl ⟨rfl, rfl, rfl, trivial⟩ (fun _ h => h) (Nat.zero_le _) ?_
  intro r hr
  refine CWI.seq ?_
  refine CWI.seq ?_
  refine CWI.reg [0, 1] rfl (by kernel_rfl) ?_
  refine SXI.of (fun _ hK => s_mv 7 rfl rfl (SX.done hK)) ?_
  refine SXI.of (fun _ hK => s_ge 8 rfl rfl rfl rfl (SX.done hK)) ?_
  refine SXI.next ?_
  refine CWI.test rfl (fun hc => ?_) (fun hc => ?_)
  · skip
    have hrl : r < p.length := by omega
    have he := gW_at (p := p) (i := p.length - 1 - r) (by omega)
    refine CWI.skip ?_
    refine KNI.code ?_
    refine CWI.seq ?_
    refine CWI.block ?_
    refine CWI.seq ?_
    refine CWI.reg [0, 1, 2, 3, 4, 5, 6, 7] rfl (by kernel_rfl) ?_
    refine SXI.of (fun _ hK => s_mv 11 rfl rfl (SX.done hK)) ?_
    refine SXI.of (fun _ hK => s_mv 12 rfl rfl (SX.done hK)) ?_
    refine SXI.of (fun _ hK => s_ld 13 rfl rfl (fun _ h => h.blkCell (i := 1) (j := 0) rfl rfl) (SX.done hK)) ?_
    refine SXI.of (fun _ hK => s_mv 14 rfl rfl (SX.done hK)) ?_
    refine SXI.of (fun _ hK => s_iaV 15 (p.length - 1 - r) (fun w hw => hw.old hs) rfl rfl rfl (by omega) (by omega) (SX.done hK)) ?_
    refine SXI.of (fun _ hK => s_ldR 16 (cs := (gW p (p.length - 1 - r)).row) rfl rfl rfl (fun w hw => (hw.old hs).rowAt waRow_len he (by omega)) (SX.done hK)) ?_
    refine s_yieldF 17 [0, 0, 0] () hY hrl trivial rfl rfl rfl rfl (fun _ _ _ => trivial) ?_ ?_
    · skip
      refine SXI.of (fun _ hK => s_not 18 rfl rfl (SX.done hK)) ?_
      refine SXI.next ?_
      refine CWI.condF rfl ?_
      refine CWI.skip ?_
      refine KNI.blk ?_
      refine KNI.code ?_
      refine CWI.reg [0, 1, 2] rfl (by kernel_rfl) ?_
      refine SXI.of (fun _ hK => s_mv 9 rfl rfl (SX.done hK)) ?_
      refine SXI.of (fun _ hK => s_sub 10 rfl rfl rfl (r := (p.length : Int) - 1 - ((r + 1 : Nat) : Int)) (by rw [w64 (by omega)]; omega) (SX.done hK)) ?_
      refine SXI.of (fun _ hK => s_as 3 rfl rfl (SX.done hK)) ?_
      refine SXI.end_ ?_
      exact KNI.back (r + 1) rfl ⟨rfl, rfl, rfl, trivial⟩ (fun _ h => h) (by omega) (by omega)
    · skip
      refine SXI.of (fun _ hK => s_not 18 rfl rfl (SX.done hK)) ?_
      refine SXI.next ?_
      refine CWI.condT rfl ?_
      refine CWI.ret ?_
      exact retMF (rs := []) (vs := []) (L := [Jx (r + 1), blk bx 59 #[.slice A p.length c], R]) [] rfl Tryd.results31 rfl (fun _ h => h) (fun w hw => ⟨_, rfl, .inr ⟨r, hrl, hw⟩⟩)
  · skip
    obtain rfl : r = p.length := by omega
    refine CWI.exit rfl ?_
    exact ⟨retMF (rs := []) (vs := []) (L := [J p.length, blk bx 59 #[.slice A p.length c], R]) [] rfl Tryd.results31 rfl (fun _ h => h) (fun w hw => ⟨_, rfl, .inl hw⟩)⟩

theorem readM_spec (m : Nat) (u : MdG) (k : Int) (w : World) (hu : u.Ok) (h : MdP m u w) : SpecX Tryd.prog 13 [.pointer (some ⟨m, 0, none⟩), .int .i64 k] w (X := ByG) (fun z => two (.slice z.A z.l.length z.c) (.bool (u.has k))) (fun z => z.l.length ≤ z.c ∧ (u.has k = true → (frontL u.th.abs u.wa.abs)[k.toNat]? = some z.l) ∧ (u.has k = false → z = ⟨none, 0, []⟩)) (fun z => [z.dat]) := by
  refine calls_ofI Tryd.func13 rfl Tryd.ntmps13 rfl (C := Sto w []) (St.start w) ?_
  refine CWI.seq ?_
  refine CWI.reg [0, 1, 2] rfl (by kernel_rfl) ?_
  refine SXI.of1 (pf := fun _ => True) (fun _ hK => s_box 3 rfl rfl (fun _ _ => trivial) (fun x => SX.done (hK x trivial))) (fun b3 _ => ?_)
  refine SXI.of1 (pf := fun _ => True) (fun _ hK => s_alloc 4 rfl (fun _ _ => trivial) (fun x => SX.done (hK x trivial))) (fun b4 _ => ?_)
  refine SXI.of1 (pf := fun _ => True) (fun _ hK => s_alloc 5 rfl (fun _ _ => trivial) (fun x => SX.done (hK x trivial))) (fun b5 _ => ?_)
  refine SXI.next ?_
  refine CWI.seq ?_
  refine CWI.seq ?_
  refine CWI.reg [0, 1, 2, 3] rfl (by kernel_rfl) ?_
  refine SXI.of (fun _ hK => s_mv 8 rfl rfl (SX.done hK)) ?_
  refine SXI.of (fun _ hK => s_ld 9 rfl rfl (v := .int .i64 k) (fun _ hw => hw.blkCell (i := 2) (j := 0) rfl rfl) (SX.done hK)) ?_
  refine SXI.of (fun _ hK => s_call1 10 rfl rfl rfl rfl (fun w hw => hasM_spec m u k w (h.h.old hw)) (fun _ _ => trivial) (SX.done hK)) ?_
  refine SXI.of (fun _ hK => s_not 11 rfl rfl (SX.done hK)) ?_
  refine SXI.next ?_
  refine CWI.cond rfl (fun hc => ?_) (fun hc => ?_)
  · skip
    have hno : u.has k = false := by simpa using hc
    refine CWI.seq ?_
    refine CWI.reg [0, 1] rfl (by kernel_rfl) ?_
    refine SXI.of (fun _ hK => s_stB 1 rfl rfl rfl rfl rfl (Nat.lt_succ_self 0) (fun _ _ => trivial) (SX.done hK)) ?_
    refine SXI.of (fun _ hK => s_stB 0 rfl rfl rfl rfl rfl (Nat.lt_succ_self 0) (fun _ _ => trivial) (SX.done hK)) ?_
    refine SXI.next ?_
    refine CWI.ret ?_
    exact retMC (rs := [.cell 4 31, .cell 5 4]) (L := [blk b5 4 #[.bool false], blk b4 31 #[.slice none 0 0]]) [] rfl Tryd.results13 (fun _ h => h.pick [0, 0] rfl) (fun w hw => ⟨[_, _], ⟨⟨_, rfl, run_loadVar1 (hw.blkCell (i := 1) (j := 0) rfl rfl)⟩, ⟨_, rfl, run_loadVar1 (hw.blkCell (i := 0) (j := 0) rfl rfl)⟩, trivial⟩, ⟨⟨none, 0, []⟩, by rw [hno]; rfl, ⟨Nat.le_refl _, fun hh => absurd hh (by rw [hno]; decide), fun _ => rfl⟩, hw.nothing.begin_ 5 1⟩⟩)
  · skip
    have hyes : u.has k = true := by simpa using hc
    obtain ⟨h0k, hkl⟩ := of_decide_eq_true hyes
    have hwn := hu.wn
    have hs2 := hu.s2
    refine CWI.skip ?_
    refine KNI.code ?_
    refine CWI.seq ?_
    refine CWI.seq ?_
    refine CWI.reg [0, 1, 2, 3, 4] rfl (by kernel_rfl) ?_
    refine SXI.of (fun _ hK => s_mv 12 rfl rfl (SX.done hK)) ?_
    refine SXI.of (fun _ hK => s_nil 13 rfl rfl (SX.done hK)) ?_
    refine SXI.of (fun _ hK => s_fa 14 rfl rfl (SX.done hK)) ?_
    refine SXI.of (fun _ hK => s_ld 15 rfl rfl (v := u.wa.hdr) (fun _ hw => h.h.old hw 2 _ rfl) (SX.done hK)) ?_
    refine SXI.of1 (fun _ hK => s_call 16 rfl rfl rfl rfl (fun w hw => backM_spec u.wa.A u.wa.l.length u.wa.c w) (fun _ _ => trivial) (fun x hx => SX.done (hK x hx))) (fun bx _ => ?_)
    refine SXI.next ?_
    refine CWI.block ?_
    refine CWI.rangeFuncG (F := Old w) (G := Unit) (GX := ByG) (X := Unit) (Y := Nat) (fun _ _ => [blk b5 4 #[.bool false], blk b4 31 #[.slice none 0 0], blk b3 3 #[.int .i64 k]]) (fun r _ => (∀ (j : Nat) (e : WaG), u.wa.l.length ≤ j + r → u.wa.l[j]? = some e → ((e.k : Nat) : Int) ≠ k)) (fun _ z => [blk b5 4 #[.bool true], blk b4 31 #[.slice z.A z.l.length z.c], blk b3 3 #[.int .i64 k], z.dat]) (fun _ z => (frontL u.th.abs u.wa.abs)[k.toNat]? = some z.l ∧ z.l.length ≤ z.c) (fun _ => .ret) () [blk bx 59 #[.slice u.wa.A u.wa.l.length u.wa.c]] [] (fun r _ y => [blk y 65 #[.int .i64 ((gW u.wa.l (u.wa.l.length - 1 - r)).k : Nat), .slice (gW u.wa.l (u.wa.l.length - 1 - r)).A (gW u.wa.l (u.wa.l.length - 1 - r)).l.length (gW u.wa.l (u.wa.l.length - 1 - r)).c]]) (fun r _ y => [(3, .pointer (some ⟨b3, 0, none⟩)), (4, .pointer (some ⟨b4, 0, none⟩)), (5, .pointer (some ⟨b5, 0, none⟩)), (7, .pointer (some ⟨y, 0, none⟩))]) rfl (backIt bx u.wa.A u.wa.c u.wa.l w (by omega) h.a) (fun _ _ _ _ _ => trivial) [1, 1, 1, 0] rfl (fun j e hj he => absurd (List.getElem?_eq_some_iff.1 he).1 (by omega)) (fun _ _ => rfl) (by simp) ?_ ?_ ?_ ?_
    · intro lr i x B hi hx
      refine CWI.reg [0, 1] rfl (by kernel_rfl) ?_
      refine SXI.of1 (pf := fun _ => True) (fun _ hK => s_alloc 7 rfl (fun _ _ => trivial) (fun x => SX.done (hK x trivial))) (fun b7 _ => ?_)
      refine SXI.of (fun _ hK => s_stAll 0 rfl rfl (by kernel_rfl) rfl rfl rfl rfl (fun _ _ => trivial) (SX.done hK)) ?_
      refine SXI.end_ ?_
      exact ⟨fun a w he hc => ⟨b7, he.sub (SubL.sub ⟨rfl, rfl, rfl, rfl, trivial⟩), hc⟩⟩
    · intro lr T i g x y hi hg hx
      have hel := gW_at (p := u.wa.l) (i := u.wa.l.length - 1 - i) (by omega)
      obtain ⟨e, he⟩ : ∃ e, e = gW u.wa.l (u.wa.l.length - 1 - i) := ⟨_, rfl⟩
      rw [← he] at hel ⊢
      have hem := List.mem_of_getElem? hel
      obtain ⟨_, hez, _⟩ := hu.wa e hem
      refine CWI.block ?_
      refine CWI.seq ?_
      refine CWI.reg [0, 1, 2, 3] rfl (by kernel_rfl) ?_
      refine SXI.of (fun _ hK => s_fa 19 rfl rfl (SX.done hK)) ?_
      refine SXI.of (fun _ hK => s_ld 20 rfl rfl (v := .int .i64 (e.k : Nat)) (fun _ hw => hw.blkCell (i := 0) (j := 0) rfl rfl) (SX.done hK)) ?_
      refine SXI.of (fun _ hK => s_ld 21 rfl rfl (v := .int .i64 k) (fun _ hw => hw.blkCell (i := 3) (j := 0) rfl rfl) (SX.done hK)) ?_
      refine SXI.of (fun _ hK => s_eq 22 rfl rfl rfl rfl (SX.done hK)) ?_
      refine SXI.next ?_
      refine CWI.test rfl (fun hc => ?_) (fun hc => ?_)
      · skip
        refine CWI.seq ?_
        refine CWI.reg [0, 1, 2, 3, 4] rfl (by kernel_rfl) ?_
        refine SXI.of (fun _ hK => s_fa 23 rfl rfl (SX.done hK)) ?_
        refine SXI.of (fun _ hK => s_ld 24 rfl rfl (v := .slice e.A e.l.length e.c) (fun _ hw => hw.blkCell (i := 0) (j := 1) rfl rfl) (SX.done hK)) ?_
        refine SXI.of1 (fun _ hK => s_call 25 rfl rfl rfl rfl (fun w hw => cloneM_spec e.A e.l.length e.c e.l w (hw.old (ws_dat h.as_ hem)) (by omega)) (fun _ _ => trivial) (fun x hx => SX.done (hK x hx))) (fun zo hzo => ?_)
        refine SXI.of (fun _ hK => s_stB 3 rfl rfl rfl rfl rfl (Nat.lt_succ_self 0) (fun _ _ => trivial) (SX.done hK)) ?_
        refine SXI.of (fun _ hK => s_stB 2 rfl rfl rfl rfl rfl (Nat.lt_succ_self 0) (fun _ _ => trivial) (SX.done hK)) ?_
        refine SXI.next ?_
        refine CWI.ret ?_
        exact (fun a w he2 hc2 => ⟨(⟨zo.1, zo.2, e.l⟩ : ByG), ⟨md_read_wait hu hel hc (fun j e2 hj he3 => hg j e2 (by omega) he3), hzo⟩, rfl, hc2.pick [2, 2, 2, 0, 1] rfl⟩)
      · skip
        refine CWI.skip ?_
        refine KNI.blk ?_
        exact ⟨fun a w he2 hc2 => ⟨(), fun j e2 hj he3 => by
          rcases Nat.lt_or_ge (u.wa.l.length) (j + i + 1) with h1 | h1
          · exact hg j e2 (by omega) he3
          · have : j = u.wa.l.length - 1 - i := by omega
            subst this
            rw [hel] at he3
            obtain rfl := Option.some.inj he3
            exact hc, hc2.pick [1, 1, 1, 1] rfl⟩⟩
    · intro D g hg
      obtain ⟨b, hb⟩ : ∃ b, u.th.l[k.toNat]? = some b := ⟨_, List.getElem?_eq_getElem (by omega)⟩
      have hbm := List.mem_of_getElem? hb
      obtain ⟨hbl, _⟩ := hu.th b hbm
      refine KNI.blk ?_
      refine KNI.code ?_
      refine CWI.seq ?_
      refine CWI.regD (.st true 0 (.st true 1 (.st true 2 (.st true 3 (.st true 4 (.st true 5 (.st true 6 (.st false 7 (.st false 8 (.st false 9 .done)))))))))) (Sto w [blk b3 3 #[.int .i64 k]]) mixed (by kernel_rfl) (fun _ h => h.drew) (fun _ h => by first | exact h.pick [3] rfl | exact h.pick [2] rfl | exact h.pick [4] rfl) ?_
      refine SXI.of (fun _ hK => s_mv 26 rfl rfl (SX.done hK)) ?_
      refine SXI.of (fun _ hK => s_nil 27 rfl rfl (SX.done hK)) ?_
      refine SXI.of (fun _ hK => s_fa 28 rfl rfl (SX.done hK)) ?_
      refine SXI.of (fun _ hK => s_ldS 29 rfl rfl (v := u.th.hdr) (fun _ hw => h.h.old hw 1 _ rfl) (SX.done hK)) ?_
      refine SXI.of (fun _ hK => s_ldS 30 rfl rfl (v := .int .i64 k) (fun _ hw => hw.blkCell (i := 0) (j := 0) rfl rfl) (SX.done hK)) ?_
      refine SXI.of (fun _ hK => s_iaV 31 k.toNat (fun w hw => hw.old h.t) rfl rfl rfl (by omega) (by omega) (SX.done hK)) ?_
      refine SXI.of (fun _ hK => s_ldS 32 rfl rfl (v := .slice b.A b.l.length b.c) (fun _ hw => (hw.old h.t).rowAt byRow_len hb (by omega) 0 _ rfl) (SX.done hK)) ?_
      refine SXI.of1 (fun _ hK => s_call 33 rfl rfl rfl rfl (fun w hw => cloneM_spec b.A b.l.length b.c b.l w (hw.old (ls_dat h.ts hbm)) (by omega)) (fun _ h => by first | exact h.pick [3] rfl | exact h.pick [2] rfl | exact h.pick [4] rfl) (fun x hx => SX.done (hK x hx))) (fun zo hzo => ?_)
      refine SXI.of (fun _ hK => s_stB 3 rfl rfl rfl rfl rfl (Nat.lt_succ_self 0) (fun _ h => by first | exact h.pick [3] rfl | exact h.pick [2] rfl | exact h.pick [4] rfl) (SX.done hK)) ?_
      refine SXI.of (fun _ hK => s_stB 2 rfl rfl rfl rfl rfl (Nat.lt_succ_self 0) (fun _ h => by first | exact h.pick [3] rfl | exact h.pick [2] rfl | exact h.pick [4] rfl) (SX.done hK)) ?_
      refine SXI.next ?_
      refine CWI.ret ?_
      exact retMC (rs := [.cell 4 31, .cell 5 4]) (L := [blk b5 4 #[.bool true], blk b4 31 #[.slice zo.1 b.l.length zo.2], (⟨zo.1, zo.2, b.l⟩ : ByG).dat]) [D] rfl Tryd.results13 (fun _ h => h.pick [1, 1, 1, 0] rfl) (fun w hw => ⟨[_, _], ⟨⟨_, rfl, run_loadVar1 (hw.blkCell (i := 1) (j := 0) rfl rfl)⟩, ⟨_, rfl, run_loadVar1 (hw.blkCell (i := 0) (j := 0) rfl rfl)⟩, trivial⟩, ⟨(⟨zo.1, zo.2, b.l⟩ : ByG), by rw [hyes]; rfl, ⟨hzo, fun _ => (by have h5 := md_read_there h0k (fun j e2 he3 => hg j e2 (by omega) he3) hb; exact h5), fun hh => absurd hh (by rw [hyes]; decide)⟩, hw.pick [2] rfl⟩⟩)
    · intro D i g hi hg
      exact CWI.ret (retMC (rs := [.cell 4 31, .cell 5 4]) (L := [blk b5 4 #[.bool true], blk b4 31 #[.slice g.A g.l.length g.c], g.dat]) [D] rfl Tryd.results13 (fun _ h => h.pick [0, 0, 0, 1] rfl) (fun w hw => ⟨[_, _], ⟨⟨_, rfl, run_loadVar1 (hw.blkCell (i := 1) (j := 0) rfl rfl)⟩, ⟨_, rfl, run_loadVar1 (hw.blkCell (i := 0) (j := 0) rfl rfl)⟩, trivial⟩, ⟨g, by rw [hyes]; rfl, ⟨hg.2, fun _ => hg.1, fun hh => absurd hh (by rw [hyes]; decide)⟩, hw.pick [2] rfl⟩⟩))
end Go.Proofs.YtaamaifnmppbgaaDoor
end
section
/- Package model: the fronts told one by one, settling. Conditions: the model is lent. -/
namespace Go.Proofs.YtaamaifnmppbgaaDoor
open Go Go.Sx
set_option maxRecDepth 100000
/-- What a model is that settled. -/
structure MdG.Is (x z : MdG) (l : List (List Nat)) : Prop where
  s : z.size = x.size
  t : z.th.abs = l
  a : z.wa = WsG.nil
  c : z.th.l.length ≤ z.th.c

theorem frontsM_spec (m : Nat) (w : World) : SpecX Tryd.prog 18 [.pointer (some ⟨m, 0, none⟩)] w (X := Nat) (fun bx => .func (.func 26) #[] #[.pointer (some ⟨bx, 0, none⟩)]) (fun _ => True) (fun bx => [blk bx 24 #[.pointer (some ⟨m, 0, none⟩)]]) := by
  refine spec_of Tryd.func18 rfl Tryd.ntmps18 rfl ?_
  refine CW.seq ?_
  refine CW.reg [0, 1] rfl ?_
  refine s_box 1 rfl rfl (fun _ _ => trivial) (fun bx => ?_)
  refine s_as 2 rfl rfl ?_
  refine SX.next ?_
  refine CW.seq ?_
  refine CW.reg [0, 1] rfl ?_
  refine s_mkf 3 rfl rfl rfl ?_
  refine s_as 2 rfl rfl ?_
  refine SX.next ?_
  refine CW.ret ?_
  exact KN.ret (rs := [.tmp 2]) Tryd.results18 rfl (fun w hw => ⟨bx, rfl, trivial, hw⟩)

theorem frontsIt (F : Nat → Prop) (bx m : Nat) (u : MdG) (w : World) (hu : u.Ok) : IterF Tryd.prog F w (MdH m u) 26 [.pointer (some ⟨bx, 0, none⟩)] [blk bx 24 #[.pointer (some ⟨m, 0, none⟩)], u.th.out, u.th.star, u.wa.out, u.wa.star] (X := LsG) (fun i z => [.int .i64 (i : Nat), z.hdr]) (fun i z => z.abs = frontL u.th.abs (u.wa.abs.take i) ∧ z.l.length ≤ z.c) (fun _ z => [z.out, z.star]) (u.wa.l.length + 1) := by
  intro lr J Jx R w1 hH hY hw
  refine calls_ofI Tryd.func26 rfl Tryd.ntmps26 rfl (C := St F w [J 0, blk bx 24 #[.pointer (some ⟨m, 0, none⟩)], u.th.out, u.th.star, u.wa.out, u.wa.star, R]) hw ?_
  refine CWI.cut (G := LsG × (Option Addr × Nat) × Nat) (fun e => [(0, .func (.yield lr) #[] #[]), (3, .pointer (some ⟨e.2.2, 0, none⟩))]) (fun e => St F w [blk e.2.2 61 (⟨u.size, e.1, ⟨e.2.1.1, e.2.1.2, u.wa.l⟩⟩ : MdG).cells, own 65 2 e.2.1.1 u.wa.l.length e.2.1.2 (u.wa.l.flatMap WaG.row), e.1.out, e.1.star, J 0, blk bx 24 #[.pointer (some ⟨m, 0, none⟩)], u.th.out, u.th.star, u.wa.out, u.wa.star, R]) (fun e => e.1.abs = u.th.abs ∧ e.1.l.length ≤ e.1.c ∧ u.wa.l.length ≤ e.2.1.2) ?_ ?_
  · skip
    refine CWI.regD (.st true 0 (.st true 1 (.st true 2 (.st true 3 (.st true 4 (.st true 5 (.st true 6 (.st true 7 (.st true 9 (.st true 10 (.st true 11 (.st true 12 (.alt 8 (.alt 13 (.alt 14 (.st false 15 (.st false 16 .done)) (.st false 15 (.st false 14 (.st false 16 .done)))) (.st false 15 (.st false 13 (.st false 14 (.st false 16 .done))))) (.st false 15 (.st false 8 (.st false 13 (.st false 14 (.st false 16 .done)))))))))))))))))) (St F w [J 0, blk bx 24 #[.pointer (some ⟨m, 0, none⟩)]]) mixed (by kernel_rfl) (fun _ h => h.drew) (fun _ h => by first | exact h.pick [0, 0] rfl | exact h.pick [2, 2] rfl | exact h.pick [1, 1] rfl | exact h.pick [3, 3] rfl | exact h.pick [4, 4] rfl) ?_
    refine SXI.of (fun _ hK => s_ldS 5 rfl rfl (v := .pointer (some ⟨m, 0, none⟩)) (fun _ h => h.blkCell (i := 1) (j := 0) rfl rfl) (SX.done hK)) ?_
    refine SXI.of (fun _ hK => s_nil 6 rfl rfl (SX.done hK)) ?_
    refine SXI.of (fun _ hK => s_fa 7 rfl rfl (SX.done hK)) ?_
    refine SXI.of (fun _ hK => s_ldS 8 rfl rfl (v := .int .i64 (u.size : Nat)) (fun _ h => hH _ _ h 0 _ rfl) (SX.done hK)) ?_
    refine SXI.of (fun _ hK => s_ldS 9 rfl rfl (v := .pointer (some ⟨m, 0, none⟩)) (fun _ h => h.blkCell (i := 1) (j := 0) rfl rfl) (SX.done hK)) ?_
    refine SXI.of (fun _ hK => s_nil 10 rfl rfl (SX.done hK)) ?_
    refine SXI.of (fun _ hK => s_fa 11 rfl rfl (SX.done hK)) ?_
    refine SXI.of (fun _ hK => s_ldS 12 rfl rfl (v := u.th.hdr) (fun _ h => hH _ _ h 1 _ rfl) (SX.done hK)) ?_
    refine SXI.of (fun _ hK => s_ldS 14 rfl rfl (v := .pointer (some ⟨m, 0, none⟩)) (fun _ h => h.blkCell (i := 1) (j := 0) rfl rfl) (SX.done hK)) ?_
    refine SXI.of (fun _ hK => s_nil 15 rfl rfl (SX.done hK)) ?_
    refine SXI.of (fun _ hK => s_fa 16 rfl rfl (SX.done hK)) ?_
    refine SXI.of (fun _ hK => s_ldS 17 rfl rfl (v := u.wa.hdr) (fun _ h => hH _ _ h 2 _ rfl) (SX.done hK)) ?_
    refine SXI.alt ?_ ?_
    · skip
      refine SXI.of1 (fun _ hK => s_call 13 rfl rfl rfl rfl (fun w hw => copiedM_spec u.th w ⟨by have := hu.n2; omega, fun b hb => by have := hu.th b hb; have := hu.s2; omega⟩ (show Has u.th.out w from (by first | exact hw.has (A := u.th.out) (i := 2) rfl | exact hw.has (A := u.th.out) (i := 3) rfl | exact hw.has (A := u.th.out) (i := 4) rfl | exact hw.has (A := u.th.out) (i := 5) rfl | exact hw.has (A := u.th.out) (i := 6) rfl | exact hw.has (A := u.th.out) (i := 7) rfl)).of_own (by first | exact hw.has (A := u.th.star) (i := 2) rfl | exact hw.has (A := u.th.star) (i := 3) rfl | exact hw.has (A := u.th.star) (i := 4) rfl | exact hw.has (A := u.th.star) (i := 5) rfl | exact hw.has (A := u.th.star) (i := 6) rfl | exact hw.has (A := u.th.star) (i := 7) rfl)) (fun _ h => by first | exact h.pick [0, 0] rfl | exact h.pick [2, 2] rfl | exact h.pick [1, 1] rfl | exact h.pick [3, 3] rfl | exact h.pick [4, 4] rfl) (fun x hx => SX.done (hK x hx))) (fun z hz => ?_)
      refine SXI.alt ?_ ?_
      · skip
        refine SXI.of1 (fun _ hK => s_call 18 rfl rfl rfl rfl (fun w hw => cloneW_spec u.wa.A u.wa.c u.wa.l w (show Has u.wa.out w from (by first | exact hw.has (A := u.wa.out) (i := 2) rfl | exact hw.has (A := u.wa.out) (i := 3) rfl | exact hw.has (A := u.wa.out) (i := 4) rfl | exact hw.has (A := u.wa.out) (i := 5) rfl | exact hw.has (A := u.wa.out) (i := 6) rfl | exact hw.has (A := u.wa.out) (i := 7) rfl)).of_own (by have := hu.wn; omega)) (fun _ h => by first | exact h.pick [0, 0] rfl | exact h.pick [2, 2] rfl | exact h.pick [1, 1] rfl | exact h.pick [3, 3] rfl | exact h.pick [4, 4] rfl) (fun x hx => SX.done (hK x hx))) (fun q hq => ?_)
        refine SXI.alt ?_ ?_
        · skip
          refine SXI.of (fun _ hK => s_build 19 rfl rfl (cells := (⟨u.size, z, ⟨q.1, q.2, u.wa.l⟩⟩ : MdG).cells) (by kernel_rfl) (SX.done hK)) ?_
          refine SXI.of1 (pf := fun _ => True) (fun _ hK => s_alloc 3 rfl (fun _ h => by first | exact h.pick [0, 0] rfl | exact h.pick [2, 2] rfl | exact h.pick [1, 1] rfl | exact h.pick [3, 3] rfl | exact h.pick [4, 4] rfl) (fun x => SX.done (hK x trivial))) (fun b3 _ => ?_)
          refine SXI.of (fun _ hK => s_stAll 0 rfl rfl (by kernel_rfl) rfl rfl rfl rfl (fun _ h => by first | exact h.pick [0, 0] rfl | exact h.pick [2, 2] rfl | exact h.pick [1, 1] rfl | exact h.pick [3, 3] rfl | exact h.pick [4, 4] rfl) (SX.done hK)) ?_
          refine SXI.end_ ?_
          exact KNI.join (z, q, b3) ⟨rfl, rfl, trivial⟩ (fun _ h => h.pick [0, 0, 0, 0, 0, 0, 0, 0, 0, 0, 0] rfl) ⟨hz.1, hz.2, hq⟩
        · skip
          refine SXI.of1 (pf := fun _ => True) (fun _ hK => s_alloc 3 rfl (fun _ h => by first | exact h.pick [0, 0] rfl | exact h.pick [2, 2] rfl | exact h.pick [1, 1] rfl | exact h.pick [3, 3] rfl | exact h.pick [4, 4] rfl) (fun x => SX.done (hK x trivial))) (fun b3 _ => ?_)
          refine SXI.of (fun _ hK => s_build 19 rfl rfl (cells := (⟨u.size, z, ⟨q.1, q.2, u.wa.l⟩⟩ : MdG).cells) (by kernel_rfl) (SX.done hK)) ?_
          refine SXI.of (fun _ hK => s_stAll 0 rfl rfl (by kernel_rfl) rfl rfl rfl rfl (fun _ h => by first | exact h.pick [0, 0] rfl | exact h.pick [2, 2] rfl | exact h.pick [1, 1] rfl | exact h.pick [3, 3] rfl | exact h.pick [4, 4] rfl) (SX.done hK)) ?_
          refine SXI.end_ ?_
          exact KNI.join (z, q, b3) ⟨rfl, rfl, trivial⟩ (fun _ h => h.pick [0, 0, 0, 0, 0, 0, 0, 0, 0, 0, 0] rfl) ⟨hz.1, hz.2, hq⟩
      · skip
        refine SXI.of1 (pf := fun _ => True) (fun _ hK => s_alloc 3 rfl (fun _ h => by first | exact h.pick [0, 0] rfl | exact h.pick [2, 2] rfl | exact h.pick [1, 1] rfl | exact h.pick [3, 3] rfl | exact h.pick [4, 4] rfl) (fun x => SX.done (hK x trivial))) (fun b3 _ => ?_)
        refine SXI.of1 (fun _ hK => s_call 18 rfl rfl rfl rfl (fun w hw => cloneW_spec u.wa.A u.wa.c u.wa.l w (show Has u.wa.out w from (by first | exact hw.has (A := u.wa.out) (i := 2) rfl | exact hw.has (A := u.wa.out) (i := 3) rfl | exact hw.has (A := u.wa.out) (i := 4) rfl | exact hw.has (A := u.wa.out) (i := 5) rfl | exact hw.has (A := u.wa.out) (i := 6) rfl | exact hw.has (A := u.wa.out) (i := 7) rfl)).of_own (by have := hu.wn; omega)) (fun _ h => by first | exact h.pick [0, 0] rfl | exact h.pick [2, 2] rfl | exact h.pick [1, 1] rfl | exact h.pick [3, 3] rfl | exact h.pick [4, 4] rfl) (fun x hx => SX.done (hK x hx))) (fun q hq => ?_)
        refine SXI.of (fun _ hK => s_build 19 rfl rfl (cells := (⟨u.size, z, ⟨q.1, q.2, u.wa.l⟩⟩ : MdG).cells) (by kernel_rfl) (SX.done hK)) ?_
        refine SXI.of (fun _ hK => s_stAll 1 rfl rfl (by kernel_rfl) rfl rfl rfl rfl (fun _ h => by first | exact h.pick [0, 0] rfl | exact h.pick [2, 2] rfl | exact h.pick [1, 1] rfl | exact h.pick [3, 3] rfl | exact h.pick [4, 4] rfl) (SX.done hK)) ?_
        refine SXI.end_ ?_
        exact KNI.join (z, q, b3) ⟨rfl, rfl, trivial⟩ (fun _ h => h.pick [1, 0, 0, 0, 0, 0, 0, 0, 0, 0, 0] rfl) ⟨hz.1, hz.2, hq⟩
    · skip
      refine SXI.of1 (pf := fun _ => True) (fun _ hK => s_alloc 3 rfl (fun _ h => by first | exact h.pick [0, 0] rfl | exact h.pick [2, 2] rfl | exact h.pick [1, 1] rfl | exact h.pick [3, 3] rfl | exact h.pick [4, 4] rfl) (fun x => SX.done (hK x trivial))) (fun b3 _ => ?_)
      refine SXI.of1 (fun _ hK => s_call 13 rfl rfl rfl rfl (fun w hw => copiedM_spec u.th w ⟨by have := hu.n2; omega, fun b hb => by have := hu.th b hb; have := hu.s2; omega⟩ (show Has u.th.out w from (by first | exact hw.has (A := u.th.out) (i := 2) rfl | exact hw.has (A := u.th.out) (i := 3) rfl | exact hw.has (A := u.th.out) (i := 4) rfl | exact hw.has (A := u.th.out) (i := 5) rfl | exact hw.has (A := u.th.out) (i := 6) rfl | exact hw.has (A := u.th.out) (i := 7) rfl)).of_own (by first | exact hw.has (A := u.th.star) (i := 2) rfl | exact hw.has (A := u.th.star) (i := 3) rfl | exact hw.has (A := u.th.star) (i := 4) rfl | exact hw.has (A := u.th.star) (i := 5) rfl | exact hw.has (A := u.th.star) (i := 6) rfl | exact hw.has (A := u.th.star) (i := 7) rfl)) (fun _ h => by first | exact h.pick [0, 0] rfl | exact h.pick [2, 2] rfl | exact h.pick [1, 1] rfl | exact h.pick [3, 3] rfl | exact h.pick [4, 4] rfl) (fun x hx => SX.done (hK x hx))) (fun z hz => ?_)
      refine SXI.of1 (fun _ hK => s_call 18 rfl rfl rfl rfl (fun w hw => cloneW_spec u.wa.A u.wa.c u.wa.l w (show Has u.wa.out w from (by first | exact hw.has (A := u.wa.out) (i := 2) rfl | exact hw.has (A := u.wa.out) (i := 3) rfl | exact hw.has (A := u.wa.out) (i := 4) rfl | exact hw.has (A := u.wa.out) (i := 5) rfl | exact hw.has (A := u.wa.out) (i := 6) rfl | exact hw.has (A := u.wa.out) (i := 7) rfl)).of_own (by have := hu.wn; omega)) (fun _ h => by first | exact h.pick [0, 0] rfl | exact h.pick [2, 2] rfl | exact h.pick [1, 1] rfl | exact h.pick [3, 3] rfl | exact h.pick [4, 4] rfl) (fun x hx => SX.done (hK x hx))) (fun q hq => ?_)
      refine SXI.of (fun _ hK => s_build 19 rfl rfl (cells := (⟨u.size, z, ⟨q.1, q.2, u.wa.l⟩⟩ : MdG).cells) (by kernel_rfl) (SX.done hK)) ?_
      refine SXI.of (fun _ hK => s_stAll 3 rfl rfl (by kernel_rfl) rfl rfl rfl rfl (fun _ h => by first | exact h.pick [0, 0] rfl | exact h.pick [2, 2] rfl | exact h.pick [1, 1] rfl | exact h.pick [3, 3] rfl | exact h.pick [4, 4] rfl) (SX.done hK)) ?_
      refine SXI.end_ ?_
      exact KNI.join (z, q, b3) ⟨rfl, rfl, trivial⟩ (fun _ h => h.pick [3, 0, 0, 0, 0, 0, 0, 0, 0, 0, 0] rfl) ⟨hz.1, hz.2, hq⟩
  · skip
    rintro ⟨z, q, b3⟩ ⟨hz, hzc, hq⟩
    simp only at hz hzc hq
    dsimp only
    have hwn := hu.wn
    refine CWI.seq ?_
    refine CWI.reg [0, 1, 2, 3, 4] rfl (by kernel_rfl) ?_
    refine SXI.of (fun _ hK => s_fa 20 rfl rfl (SX.done hK)) ?_
    refine SXI.of (fun _ hK => s_ldB 21 0 rfl rfl rfl (v := .slice q.1 u.wa.l.length q.2) rfl (SX.done hK)) ?_
    refine SXI.of (fun _ hK => s_len 22 rfl rfl (SX.done hK)) ?_
    refine SXI.of (fun _ hK => s_add 23 rfl rfl rfl (r := ((u.wa.l.length + 1 : Nat) : Int)) (w64 (by omega)) (SX.done hK)) ?_
    refine SXI.of (fun _ hK => s_mv 24 rfl rfl (SX.done hK)) ?_
    refine SXI.next ?_
    refine CWI.block ?_
    refine CWI.loop (G := Nat) (fun _ => []) (fun i => [(0, .func (.yield lr) #[] #[]), (3, .pointer (some ⟨b3, 0, none⟩)), (23, .int .i64 ((u.wa.l.length + 1 : Nat) : Int)), (24, .int .i64 (i : Nat))]) (fun i => St F w [blk b3 61 (⟨u.size, z, ⟨q.1, q.2, u.wa.l⟩⟩ : MdG).cells, own 65 2 q.1 u.wa.l.length q.2 (u.wa.l.flatMap WaG.row), z.out, z.star, J i, blk bx 24 #[.pointer (some ⟨m, 0, none⟩)], u.th.out, u.th.star, u.wa.out, u.wa.star, R]) (fun i => i ≤ u.wa.l.length + 1) (fun i => u.wa.l.length + 1 - i) 0 rfl ⟨rfl, rfl, rfl, rfl, trivial⟩ (fun _ h => h) (Nat.zero_le _) ?_
    intro i hi
    refine CWI.seq ?_
    refine CWI.reg [0] rfl (by kernel_rfl) ?_
    refine SXI.of (fun _ hK => s_lt 25 rfl rfl rfl rfl (SX.done hK)) ?_
    refine SXI.next ?_
    refine CWI.seq ?_
    refine CWI.test rfl (fun hc => ?_) (fun hc => ?_)
    · skip
      have hil : i < u.wa.l.length + 1 := by omega
      refine CWI.skip ?_
      refine KNI.code ?_
      refine CWI.seq ?_
      refine CWI.block ?_
      refine CWI.seq ?_
      refine CWI.reg [0, 1] rfl (by kernel_rfl) ?_
      refine SXI.of (fun _ hK => s_mv 26 rfl rfl (SX.done hK)) ?_
      refine SXI.of (fun _ hK => s_as 4 rfl rfl (SX.done hK)) ?_
      refine SXI.next ?_
      refine CWI.seq ?_
      refine CWI.reg [0, 1, 2, 3, 4, 5] rfl (by kernel_rfl) ?_
      refine SXI.of (fun _ hK => s_mv 27 rfl rfl (SX.done hK)) ?_
      refine SXI.of (fun _ hK => s_mv 28 rfl rfl (SX.done hK)) ?_
      refine SXI.of (fun _ hK => s_mv 29 rfl rfl (SX.done hK)) ?_
      refine SXI.of1 (fun _ hK => s_call 30 rfl rfl rfl rfl (fun w hw => frontM_spec b3 (⟨u.size, z, ⟨q.1, q.2, u.wa.l⟩⟩ : MdG) i w (hu.again hz q.1 hq) (by simp only; omega) ⟨fun j v hj => hw.blkCell (i := 0) rfl hj, (hw.has (i := 2) rfl).of_own, hw.has (i := 3) rfl, (hw.has (i := 1) rfl).of_own, hw.has (i := 9) rfl⟩) (fun _ _ => trivial) (fun x hx => SX.done (hK x hx))) (fun zf hzf => ?_)
      refine s_yieldF 31 [6, 0, 0, 0, 0, 0, 0, 0, 0, 0, 0, 0, 0] zf hY hil ⟨by rw [hzf.1, hz]; rfl, hzf.2⟩ rfl rfl rfl rfl (fun _ _ _ => trivial) ?_ ?_
      · skip
        refine SXI.of (fun _ hK => s_not 32 rfl rfl (SX.done hK)) ?_
        refine SXI.next ?_
        refine CWI.condF rfl ?_
        refine CWI.skip ?_
        refine KNI.blk ?_
        refine KNI.code ?_
        refine CWI.reg [0, 1] rfl (by kernel_rfl) ?_
        refine SXI.of (fun _ hK => s_add 33 rfl rfl rfl (r := ((i + 1 : Nat) : Int)) (w64 (by omega)) (SX.done hK)) ?_
        refine SXI.of (fun _ hK => s_mv 24 rfl rfl (SX.done hK)) ?_
        refine SXI.end_ ?_
        exact KNI.back (i + 1) rfl ⟨rfl, rfl, rfl, rfl, trivial⟩ (fun _ h => h.pick [1, 1, 1, 1, 0, 0, 0, 0, 0, 0, 0] rfl) (by omega) (by omega)
      · skip
        refine SXI.of (fun _ hK => s_not 32 rfl rfl (SX.done hK)) ?_
        refine SXI.next ?_
        refine CWI.condT rfl ?_
        refine CWI.ret ?_
        exact retMF (rs := []) (vs := []) (L := [Jx (i + 1), blk bx 24 #[.pointer (some ⟨m, 0, none⟩)], u.th.out, u.th.star, u.wa.out, u.wa.star, R]) [] rfl Tryd.results26 rfl (fun _ h => h.pick [0, 4, 4, 4, 4, 4, 4] rfl) (fun w hw => ⟨_, rfl, .inr ⟨i, hil, hw⟩⟩)
    · skip
      obtain rfl : i = u.wa.l.length + 1 := by omega
      refine CWI.exit rfl ?_
      exact ⟨retMF (rs := []) (vs := []) (L := [J (u.wa.l.length + 1), blk bx 24 #[.pointer (some ⟨m, 0, none⟩)], u.th.out, u.th.star, u.wa.out, u.wa.star, R]) [] rfl Tryd.results26 rfl (fun _ h => h.pick [4, 4, 4, 4, 4, 4, 4] rfl) (fun w hw => ⟨_, rfl, .inl hw⟩)⟩

theorem md_settles {u : MdG} {q : List (List Nat)} {i : Nat} (hi : i < u.wa.l.length + 1) (h : frontL u.th.abs (u.wa.abs.take i) = q) (hj : ∀ j, j < i → frontL u.th.abs (u.wa.abs.take j) ≠ q) : settleN u.th.abs u.wa.abs q = some i :=
  settle_some (by rw [WsG.abs_len]; omega) h hj
theorem md_settles_not {u : MdG} {q : List (List Nat)} (hj : ∀ j, j < u.wa.l.length + 1 → frontL u.th.abs (u.wa.abs.take j) ≠ q) : settleN u.th.abs u.wa.abs q = none :=
  settle_none (fun j h => hj j (by rw [WsG.abs_len] at h; omega))

theorem settleM_spec (F : Nat → Prop) (m : Nat) (u : MdG) (q : LsG) (w : World) (hu : u.Ok) (hqb : ∀ b ∈ q.l, ∀ v ∈ b.l, v < 256) (hQ : ∀ w2, Fr F w w2 → Has (sl 1 q.A q.l.length (q.l.flatMap ByG.row)) w2 ∧ Has q.star w2) (hw : St F w [modelA m u] w) : SpecP Tryd.prog 19 [.pointer (some ⟨m, 0, none⟩), q.hdr] F w (X := MdG) (fun _ => two (.int .i64 ((settleN u.th.abs u.wa.abs q.abs).getD 0 : Nat)) (.bool (settleN u.th.abs u.wa.abs q.abs).isSome)) (fun z => (∀ n, settleN u.th.abs u.wa.abs q.abs = some n → u.Is z q.abs) ∧ (settleN u.th.abs u.wa.abs q.abs = none → z = u)) (fun z => [modelA m z]) := by
  refine calls_ofI Tryd.func19 rfl Tryd.ntmps19 rfl (C := St F w [modelA m u]) hw ?_
  refine CWI.seq ?_
  refine CWI.pre (fun _ h => h.mdO) ?_
  refine CWI.reg [0, 1, 2, 3] rfl (by kernel_rfl) ?_
  refine SXI.of1 (pf := fun _ => True) (fun _ hK => s_box 2 rfl rfl (fun _ _ => trivial) (fun x => SX.done (hK x trivial))) (fun b2 _ => ?_)
  refine SXI.of1 (pf := fun _ => True) (fun _ hK => s_box 3 rfl rfl (fun _ _ => trivial) (fun x => SX.done (hK x trivial))) (fun b3 _ => ?_)
  refine SXI.of1 (pf := fun _ => True) (fun _ hK => s_alloc 4 rfl (fun _ _ => trivial) (fun x => SX.done (hK x trivial))) (fun b4 _ => ?_)
  refine SXI.of1 (pf := fun _ => True) (fun _ hK => s_alloc 5 rfl (fun _ _ => trivial) (fun x => SX.done (hK x trivial))) (fun b5 _ => ?_)
  refine SXI.next ?_
  refine CWI.seq ?_
  refine CWI.seq ?_
  refine CWI.reg [0, 1] rfl (by kernel_rfl) ?_
  refine SXI.of (fun _ hK => s_ldB 8 3 rfl rfl rfl (v := .pointer (some ⟨m, 0, none⟩)) rfl (SX.done hK)) ?_
  refine SXI.of1 (fun _ hK => s_call 9 rfl rfl rfl rfl (fun w hw => frontsM_spec m w) (fun _ _ => trivial) (fun x hx => SX.done (hK x hx))) (fun bx _ => ?_)
  refine SXI.next ?_
  refine CWI.block ?_
  refine CWI.rangeFuncF (F := F) (G := Unit) (GX := LsG) (X := LsG) (fun _ _ => [blk b5 4 #[.bool false], blk b4 3 #[.int .i64 (0 : Nat)], blk b3 36 #[q.hdr], blk b2 24 #[.pointer (some ⟨m, 0, none⟩)], u.hd m]) (fun r _ => ∀ j, j < r → frontL u.th.abs (u.wa.abs.take j) ≠ q.abs) (fun r z => [blk b5 4 #[.bool true], blk b4 3 #[.int .i64 (r - 1 : Nat)], blk b3 36 #[q.hdr], blk b2 24 #[.pointer (some ⟨m, 0, none⟩)], MdG.hd m (⟨u.size, z, WsG.nil⟩ : MdG), z.out, z.star]) (fun r z => z.abs = q.abs ∧ z.l.length ≤ z.c ∧ settleN u.th.abs u.wa.abs q.abs = some (r - 1)) (fun _ => .ret) () [blk bx 24 #[.pointer (some ⟨m, 0, none⟩)], u.th.out, u.th.star, u.wa.out, u.wa.star] [] (fun r z => [(2, .pointer (some ⟨b2, 0, none⟩)), (3, .pointer (some ⟨b3, 0, none⟩)), (4, .pointer (some ⟨b4, 0, none⟩)), (5, .pointer (some ⟨b5, 0, none⟩)), (6, .int .i64 (r : Nat)), (7, z.hdr)]) rfl (frontsIt F bx m u w hu) (fun _ _ w2 _ h => fun j v hj => h.blkCell (i := 4) rfl hj) [1, 1, 1, 1, 1, 0, 0, 0, 0, 0] rfl (fun j hj => absurd hj (Nat.not_lt_zero j)) (fun _ _ => rfl) (by simp) ?_ ?_ ?_ ?_
  · intro lr i x C hi hx
    refine CWI.seq ?_
    refine CWI.reg [0] rfl (by kernel_rfl) ?_
    refine SXI.of (fun _ hK => s_as 6 rfl rfl (SX.done hK)) ?_
    refine SXI.next ?_
    refine CWI.reg [0] rfl (by kernel_rfl) ?_
    refine SXI.of (fun _ hK => s_as 7 rfl rfl (SX.done hK)) ?_
    refine SXI.end_ ?_
    exact ⟨fun a w he hc => ⟨he.sub (SubL.sub ⟨rfl, rfl, rfl, rfl, rfl, rfl, trivial⟩), hc⟩⟩
  · intro lr T i g x hi hg hx
    obtain ⟨hx1, hx2⟩ := hx
    have hxl : x.l.length = u.th.l.length := by
      have := congrArg List.length hx1
      rwa [LsG.abs_len, frontL_len, LsG.abs_len] at this
    have hn2 := hu.n2
    refine CWI.block ?_
    refine CWI.seq ?_
    refine CWI.reg [0, 1, 2] rfl (by kernel_rfl) ?_
    refine SXI.of (fun _ hK => s_mv 12 rfl rfl (SX.done hK)) ?_
    refine SXI.of (fun _ hK => s_ld 13 rfl rfl (v := q.hdr) (fun _ hw => hw.blkCell (i := 4) (j := 0) rfl rfl) (SX.done hK)) ?_
    refine SXI.of (fun _ hK => s_call1 14 rfl rfl rfl rfl (fun w hw => eqF_spec x q w (hw.has (i := 0) rfl).of_own (hw.has (i := 1) rfl) (fun b hb => (LsG.all_ (p := fun l => l.length = u.size ∧ ∀ v ∈ l, v < 256) hx1 (md_front_ok hu i) b hb).2) (hQ _ hw.fr).1 (hQ _ hw.fr).2 hqb (by omega)) (fun _ _ => trivial) (SX.done hK)) ?_
    refine SXI.next ?_
    refine CWI.cond rfl (fun hc => ?_) (fun hc => ?_)
    · skip
      have heq : x.abs = q.abs := of_decide_eq_true hc
      have hsn := md_settles hi (hx1 ▸ heq) hg
      refine CWI.seq ?_
      refine CWI.regD (.st true 0 (.st true 1 (.st true 2 (.st true 3 (.st true 4 (.st false 5 (.st true 6 (.st true 7 (.st false 8 .done))))))))) (St F w [blk b2 24 #[.pointer (some ⟨m, 0, none⟩)]]) mixed (by kernel_rfl) (fun _ h => h.drew) (fun _ h => h.pick [5] rfl) ?_
      refine SXI.of (fun _ hK => s_ldS 15 rfl rfl (v := .pointer (some ⟨m, 0, none⟩)) (fun _ h => h.blkCell (i := 0) (j := 0) rfl rfl) (SX.done hK)) ?_
      refine SXI.of (fun _ hK => s_ldS 16 rfl rfl (v := .pointer (some ⟨m, 0, none⟩)) (fun _ h => h.blkCell (i := 0) (j := 0) rfl rfl) (SX.done hK)) ?_
      refine SXI.of (fun _ hK => s_mv 17 rfl rfl (SX.done hK)) ?_
      refine SXI.of (fun _ hK => s_nil 18 rfl rfl (SX.done hK)) ?_
      refine SXI.of (fun _ hK => s_fa 19 rfl rfl (SX.done hK)) ?_
      refine SXI.of (fun _ hK => s_stB 6 rfl rfl rfl rfl rfl (by show 1 < 3; decide) (fun _ h => h.pick [5] rfl) (SX.done hK)) ?_
      refine SXI.of (fun _ hK => s_nil 20 rfl rfl (SX.done hK)) ?_
      refine SXI.of (fun _ hK => s_fa 21 rfl rfl (SX.done hK)) ?_
      refine SXI.of (fun _ hK => s_stB 6 rfl rfl rfl rfl rfl (by show 2 < 3; decide) (fun _ h => h.pick [5] rfl) (SX.done hK)) ?_
      refine SXI.next ?_
      refine CWI.seq ?_
      refine CWI.reg [0, 1, 2] rfl (by kernel_rfl) ?_
      refine SXI.of (fun _ hK => s_mv 22 rfl rfl (SX.done hK)) ?_
      refine SXI.of (fun _ hK => s_stB 3 rfl rfl rfl rfl rfl (by show 0 < 1; decide) (fun _ _ => trivial) (SX.done hK)) ?_
      refine SXI.of (fun _ hK => s_stB 2 rfl rfl rfl rfl rfl (by show 0 < 1; decide) (fun _ _ => trivial) (SX.done hK)) ?_
      refine SXI.next ?_
      refine CWI.ret ?_
      exact (fun a w he2 hc2 => ⟨x, ⟨heq, hx2, hsn⟩, rfl, hc2.pick [2, 2, 2, 2, 2, 0, 0, 0] rfl⟩)
    · skip
      have hne : x.abs ≠ q.abs := of_decide_eq_false hc
      refine CWI.skip ?_
      refine KNI.blk ?_
      exact ⟨fun a w he2 hc2 => ⟨(), fun j hj => by
        rcases Nat.lt_or_ge j i with h1 | h1
        · exact hg j h1
        · obtain rfl : j = i := by omega
          rw [← hx1]
          exact hne, hc2.pick [2, 2, 2, 2, 2, 2] rfl⟩⟩
  · intro D g hg
    have hsn := md_settles_not hg
    refine KNI.blk ?_
    refine KNI.code ?_
    refine CWI.seq ?_
    refine CWI.reg [0, 1] rfl (by kernel_rfl) ?_
    refine SXI.of (fun _ hK => s_stB 2 rfl rfl rfl rfl rfl (by show 0 < 1; decide) (fun _ _ => trivial) (SX.done hK)) ?_
    refine SXI.of (fun _ hK => s_stB 1 rfl rfl rfl rfl rfl (by show 0 < 1; decide) (fun _ _ => trivial) (SX.done hK)) ?_
    refine SXI.next ?_
    refine CWI.ret ?_
    exact retMCF (rs := [.cell 4 3, .cell 5 4]) (L := [modelA m u, blk b5 4 #[.bool false], blk b4 3 #[.int .i64 (0 : Nat)]]) [D] rfl Tryd.results19 (fun _ h => (St.mdC (x := u) (h.pick [5, 6, 6, 6, 6, 0, 0, 0] rfl)).pick [1, 0, 0, 0] rfl) (fun w hw => ⟨[_, _], ⟨⟨_, rfl, run_loadVar1 (hw.blkCell (i := 2) (j := 0) rfl rfl)⟩, ⟨_, rfl, run_loadVar1 (hw.blkCell (i := 1) (j := 0) rfl rfl)⟩, trivial⟩, ⟨u, by rw [hsn]; rfl, ⟨fun n h => by rw [hsn] at h; exact (nomatch h), fun _ => rfl⟩, hw.pick [0] rfl⟩⟩)
  · intro D i g hi hg
    exact CWI.ret (retMCF (rs := [.cell 4 3, .cell 5 4]) (L := [modelA m (⟨u.size, g, WsG.nil⟩ : MdG), blk b5 4 #[.bool true], blk b4 3 #[.int .i64 (i + 1 - 1 : Nat)]]) [D] rfl Tryd.results19 (fun _ h => by
      have h1 := h.pick [5, 5, 5, 0, 0, 0] rfl
      have h2 := (h1.begin_ 65 2).starNil
      have h3 := h2.pick [2, 2, 2, 1, 0, 0, 0, 0] rfl
      exact (St.mdC (x := (⟨u.size, g, WsG.nil⟩ : MdG)) h3).pick [1, 0, 0, 0] rfl) (fun w hw => ⟨[_, _], ⟨⟨_, rfl, run_loadVar1 (hw.blkCell (i := 2) (j := 0) rfl rfl)⟩, ⟨_, rfl, run_loadVar1 (hw.blkCell (i := 1) (j := 0) rfl rfl)⟩, trivial⟩, ⟨(⟨u.size, g, WsG.nil⟩ : MdG), by rw [hg.2.2]; rfl, ⟨fun n h => ⟨rfl, hg.1, rfl, hg.2.1⟩, fun h => by rw [hg.2.2] at h; exact (nomatch h)⟩, hw.pick [0] rfl⟩⟩))
end Go.Proofs.YtaamaifnmppbgaaDoor
end
section
/- The document's model: lists of bytes copied and compared, a front, settling. Conditions: the model is read where it lies, or lent. -/
namespace Go.Proofs.YtaamaifnmppbgaaDoor
open Go Go.Sx
set_option maxRecDepth 100000

theorem listsM_spec (q : LsG) (w : World) (hq : LsB q) (h1 : Has (sl 1 q.A q.l.length (q.l.flatMap ByG.row)) w) (h2 : Has q.star w) : SpecX Tryd.prog 22 [q.hdr] w (X := LsG) (fun z => z.hdr) (fun z => z.abs = q.abs ∧ z.l.length ≤ z.c) (fun z => [z.out, z.star]) := by
  refine spec_of Tryd.func22 rfl Tryd.ntmps22 rfl ?_
  refine CW.seq ?_
  refine CW.reg [0] rfl ?_
  refine s_as 2 rfl rfl ?_
  refine SX.next ?_
  refine CW.seq ?_
  refine CW.reg [0, 1, 2, 3] rfl ?_
  refine s_mv 5 rfl rfl ?_
  refine s_len 6 rfl rfl ?_
  refine s_makeC 7 q.l.length rfl rfl rfl rfl rfl (by have := hq.n; unfold maxLen; omega) (fun _ _ => trivial) (fun g0 => ?_)
  refine s_as 3 rfl rfl ?_
  refine SX.next ?_
  refine CW.seq ?_
  refine CW.seq ?_
  refine CW.reg [0] rfl ?_
  refine s_as 4 rfl rfl ?_
  refine SX.next ?_
  refine CW.block ?_
  refine CW.loop (G := Nat × LsG) (fun z => [(0, q.hdr), (3, z.2.hdr), (4, .int .i64 (z.1 : Nat))]) (fun z => Sto w [z.2.out, z.2.star]) (fun z => z.1 ≤ q.l.length ∧ z.2.abs = q.abs.take z.1 ∧ z.2.l.length ≤ z.2.c) (fun z => q.l.length - z.1) (0, ⟨some ⟨g0, 0, none⟩, q.l.length, []⟩) ⟨rfl, rfl, rfl, trivial⟩ (fun _ h => by
    have h1 := h.starNil
    exact h1.pick [1, 0] rfl) ⟨Nat.zero_le _, rfl, Nat.zero_le _⟩ ?_
  rintro ⟨i, z⟩ ⟨hi, hz, hzc⟩
  simp only at hi hz hzc
  dsimp only
  have hzl : z.l.length = i := by
    have := congrArg List.length hz
    rw [LsG.abs_len, List.length_take, LsG.abs_len] at this
    omega
  refine CW.seq ?_
  refine CW.seq ?_
  refine CW.reg [0, 1, 2, 3] rfl ?_
  refine s_mv 8 rfl rfl ?_
  refine s_mv 9 rfl rfl ?_
  refine s_len 10 rfl rfl ?_
  refine s_lt 11 rfl rfl rfl rfl ?_
  refine SX.next ?_
  refine CW.test rfl (fun hc => ?_) (fun hc => ?_)
  · skip
    have hil : i < q.l.length := by omega
    obtain ⟨b, hb⟩ : ∃ b, q.l[i]? = some b := ⟨_, List.getElem?_eq_getElem hil⟩
    have hbm := List.mem_of_getElem? hb
    have hbl := hq.b b hbm
    have hqn := hq.n
    refine CW.skip ?_
    refine KN.code ?_
    refine CW.seq ?_
    refine CW.block ?_
    refine CW.reg [0, 1, 2, 3, 4, 5, 6, 7, 8] rfl ?_
    refine s_mv 14 rfl rfl ?_
    refine s_mv 15 rfl rfl ?_
    refine s_mv 16 rfl rfl ?_
    refine s_iaV 17 i (fun w hw => hw.old h1) rfl rfl rfl rfl hil ?_
    refine s_ld 18 rfl rfl (v := .slice b.A b.l.length b.c) (fun _ hw => (hw.old h1).rowAt byRow_len hb (by omega) 0 _ rfl) ?_
    refine s_call 19 rfl rfl rfl rfl (fun w hw => rbytesM_spec b.A b.l.length b.c b.l w (hw.old (ls_dat h2 hbm)) (by omega)) (fun _ _ => trivial) (fun zo hzo => ?_)
    refine s_bsl 20 rfl rfl (cells := #[.slice zo.1 b.l.length zo.2]) (by kernel_rfl) rfl (fun _ _ => trivial) (fun gT => ?_)
    refine s_app 21 2 rfl rfl rfl rfl (ys := [.slice zo.1 b.l.length zo.2]) (fun w hw => hasCong ((hw.has (i := 0) rfl).blk_sl (m := 1) rfl) rfl) rfl rfl (by omega) (by unfold maxLen; omega) (by omega) (fun _ _ _ _ => trivial) (fun O2 oc2 hoc2 => ?_)
    refine s_as 3 rfl rfl ?_
    refine SX.end_ ?_
    refine KN.blk ?_
    refine KN.code ?_
    refine CW.reg [0, 1, 2] rfl ?_
    refine s_mv 12 rfl rfl ?_
    refine s_add 13 rfl rfl rfl (r := ((i + 1 : Nat) : Int)) (w64 (by omega)) ?_
    refine s_as 4 rfl rfl ?_
    refine SX.end_ ?_
    exact KN.back (i + 1, ⟨O2, oc2, z.l ++ [(⟨zo.1, zo.2, b.l⟩ : ByG)]⟩) ⟨rfl, by simp only [LsG.hdr, List.length_append, List.length_cons, List.length_nil]; rfl, rfl, trivial⟩ (fun _ h => by
      have h1 := h.pick [1, 2, 1] rfl
      have h2 := St.starPush (A := (⟨zo.1, zo.2, b.l⟩ : ByG).dat) h1
      have h3 := h2.pick [1, 0] rfl
      unfold LsG.out LsG.star
      simp only [List.length_append, List.length_cons, List.length_nil, List.map_append, List.map_cons, List.map_nil]
      rw [flatBy_more]
      exact h3) ⟨by simp only; omega, by
      have e1 := LsG.at_ hb
      unfold LsG.abs at hz e1 ⊢
      simp only
      rw [List.take_add_one, e1, List.map_append, hz]
      rfl, by simp only [List.length_append, List.length_cons, List.length_nil]; omega⟩ (by simp only; omega)
  · skip
    obtain rfl : i = q.l.length := by omega
    refine CW.exit rfl ?_
    refine KN.code ?_
    refine CW.seq ?_
    refine CW.reg [0, 1] rfl ?_
    refine s_mv 22 rfl rfl ?_
    refine s_as 2 rfl rfl ?_
    refine SX.next ?_
    refine CW.ret ?_
    exact KN.ret (rs := [.tmp 2]) Tryd.results22 rfl (fun w hw => ⟨z, rfl, ⟨by rw [hz, ← LsG.abs_len, List.take_length], hzc⟩, hw⟩)

theorem sameLsM_spec (q1 q2 : LsG) (w : World) (h1 : Has (sl 1 q1.A q1.l.length (q1.l.flatMap ByG.row)) w) (s1 : Has q1.star w) (b1 : ∀ b ∈ q1.l, ∀ v ∈ b.l, v < 256) (h2 : Has (sl 1 q2.A q2.l.length (q2.l.flatMap ByG.row)) w) (s2 : Has q2.star w) (b2 : ∀ b ∈ q2.l, ∀ v ∈ b.l, v < 256) (n1 : q1.l.length ≤ 1000) : Spec1 Tryd.prog 16 [q1.hdr, q2.hdr] w (.bool (decide (q1.abs = q2.abs))) := by
  refine spec_of Tryd.func16 rfl Tryd.ntmps16 rfl ?_
  refine CW.seq ?_
  refine CW.reg [0] rfl ?_
  refine s_as 4 rfl rfl ?_
  refine SX.next ?_
  refine CW.seq ?_
  refine CW.seq ?_
  refine CW.reg [0, 1, 2, 3, 4] rfl ?_
  refine s_mv 7 rfl rfl ?_
  refine s_len 8 rfl rfl ?_
  refine s_mv 9 rfl rfl ?_
  refine s_len 10 rfl rfl ?_
  refine s_ne 11 rfl rfl rfl rfl ?_
  refine SX.next ?_
  refine CW.test rfl (fun hc => ?_) (fun hc => ?_)
  · skip
    have hz : decide (q1.abs = q2.abs) = false := decide_eq_false (fun h => hc (by rw [abs_lens h]))
    refine CW.seq ?_
    refine CW.reg [0] rfl ?_
    refine s_as 4 rfl rfl ?_
    refine SX.next ?_
    refine CW.ret ?_
    exact KN.ret (rs := [.tmp 4]) Tryd.results16 rfl (fun w hw => ⟨by rw [hz]; rfl, hw.nothing⟩)
  · skip
    have hlen : q1.l.length = q2.l.length := by omega
    refine CW.skip ?_
    refine KN.code ?_
    refine CW.seq ?_
    refine CW.seq ?_
    refine CW.reg [0] rfl ?_
    refine s_as 5 rfl rfl ?_
    refine SX.next ?_
    refine CW.block ?_
    refine CW.loop (G := Nat) (fun i => [(0, q1.hdr), (1, q2.hdr), (5, .int .i64 (i : Nat))]) (fun _ => Sto w []) (fun i => i ≤ q1.l.length ∧ q1.abs.take i = q2.abs.take i) (fun i => q1.l.length - i) 0 ⟨rfl, rfl, rfl, trivial⟩ (fun _ h => h) ⟨Nat.zero_le _, rfl⟩ ?_
    rintro i ⟨hi, hp⟩
    refine CW.seq ?_
    refine CW.seq ?_
    refine CW.reg [0, 1, 2, 3] rfl ?_
    refine s_mv 12 rfl rfl ?_
    refine s_mv 13 rfl rfl ?_
    refine s_len 14 rfl rfl ?_
    refine s_lt 15 rfl rfl rfl rfl ?_
    refine SX.next ?_
    refine CW.test rfl (fun hc => ?_) (fun hc => ?_)
    · skip
      have hil : i < q1.l.length := by omega
      obtain ⟨b, hb⟩ : ∃ b, q1.l[i]? = some b := ⟨_, List.getElem?_eq_getElem hil⟩
      obtain ⟨d, hd⟩ : ∃ d, q2.l[i]? = some d := ⟨_, List.getElem?_eq_getElem (by omega)⟩
      have hbm := List.mem_of_getElem? hb
      have hdm := List.mem_of_getElem? hd
      refine CW.skip ?_
      refine KN.code ?_
      refine CW.seq ?_
      refine CW.block ?_
      refine CW.seq ?_
      refine CW.regD (.st true 0 (.st true 1 (.st true 2 (.st true 3 (.st true 4 (.st true 5 (.st true 6 (.st true 7 (.st false 8 (.st true 9 .done)))))))))) (Sto w []) mixed (by kernel_rfl) (fun _ h => h.drew) (fun _ h => h) ?_
      refine s_mv 18 rfl rfl ?_
      refine s_mv 19 rfl rfl ?_
      refine s_iaV 20 i (fun w hw => hw.old h1) rfl rfl rfl rfl hil ?_
      refine s_ldS 21 rfl rfl (v := .slice b.A b.l.length b.c) (fun _ hw => (hw.old h1).rowAt byRow_len hb (by omega) 0 _ rfl) ?_
      refine s_mv 22 rfl rfl ?_
      refine s_mv 23 rfl rfl ?_
      refine s_iaV 24 i (fun w hw => hw.old h2) rfl rfl rfl rfl (by omega) ?_
      refine s_ldS 25 rfl rfl (v := .slice d.A d.l.length d.c) (fun _ hw => (hw.old h2).rowAt byRow_len hd (by omega) 0 _ rfl) ?_
      refine s_call1 26 rfl rfl rfl rfl (fun w hw => sameBytesM_spec b.A b.l.length b.c b.l d.A d.l.length d.c d.l w (hw.old (ls_dat s1 hbm)) (b1 b hbm) (hw.old (ls_dat s2 hdm)) (b2 d hdm)) (fun _ h => h) ?_
      refine s_as 6 rfl rfl ?_
      refine SX.next ?_
      refine CW.seq ?_
      refine CW.reg [0, 1] rfl ?_
      refine s_mv 27 rfl rfl ?_
      refine s_not 28 rfl rfl ?_
      refine SX.next ?_
      refine CW.cond rfl (fun hc2 => ?_) (fun hc2 => ?_)
      · skip
        have hne : b.l ≠ d.l := by simpa using hc2
        have hz : decide (q1.abs = q2.abs) = false := decide_eq_false (fun h => hne (by
          have e1 := LsG.at_ hb
          rw [h, LsG.at_ hd] at e1
          exact (Option.some.inj e1).symm))
        refine CW.seq ?_
        refine CW.reg [0] rfl ?_
        refine s_as 4 rfl rfl ?_
        refine SX.next ?_
        refine CW.ret ?_
        exact KN.ret (rs := [.tmp 4]) Tryd.results16 rfl (fun w hw => ⟨by rw [hz]; rfl, hw.nothing⟩)
      · skip
        have heq : b.l = d.l := by simpa using hc2
        refine CW.skip ?_
        refine KN.blk ?_
        refine KN.code ?_
        refine CW.reg [0, 1, 2] rfl ?_
        refine s_mv 16 rfl rfl ?_
        refine s_add 17 rfl rfl rfl (r := ((i + 1 : Nat) : Int)) (w64 (by omega)) ?_
        refine s_as 5 rfl rfl ?_
        refine SX.end_ ?_
        exact KN.back (i + 1) ⟨rfl, rfl, rfl, trivial⟩ (fun _ h => h) ⟨by omega, by rw [List.take_add_one, List.take_add_one, hp, LsG.at_ hb, LsG.at_ hd, heq]⟩ (by omega)
    · skip
      obtain rfl : i = q1.l.length := by omega
      have hz : decide (q1.abs = q2.abs) = true := decide_eq_true (by
        have e1 := hp
        rw [← LsG.abs_len q1, List.take_length, LsG.abs_len, hlen, ← LsG.abs_len q2, List.take_length] at e1
        exact e1)
      refine CW.exit rfl ?_
      refine KN.code ?_
      refine CW.seq ?_
      refine CW.reg [0] rfl ?_
      refine s_as 4 rfl rfl ?_
      refine SX.next ?_
      refine CW.ret ?_
      exact KN.ret (rs := [.tmp 4]) Tryd.results16 rfl (fun w hw => ⟨by rw [hz]; rfl, hw.nothing⟩)

set_option maxHeartbeats 1600000 in

theorem newDm_ok (ns sz : Nat) (w : World) (h1 : 1 ≤ ns) (h2 : ns ≤ 40) (h3 : 1 ≤ sz) (h4 : sz ≤ 1024) : SpecX Tryd.prog 7 [.int .i64 (ns : Nat), .int .i64 (sz : Nat)] w (X := Nat × DmG) (fun z => .pointer (some ⟨z.1, 0, none⟩)) (fun z => z.2.size = sz ∧ z.2.th.abs = List.replicate ns (List.replicate sz 0) ∧ z.2.es = [] ∧ z.2.th.l.length ≤ z.2.th.c) (fun z => [dmA z.1 z.2]) := by
  refine spec_of Tryd.func7 rfl Tryd.ntmps7 rfl ?_
  refine CW.seq ?_
  refine CW.reg [0] rfl ?_
  refine s_as 4 rfl rfl ?_
  refine SX.next ?_
  refine CW.seq ?_
  refine CW.reg [0, 1, 2, 3] rfl ?_
  refine s_mv 7 rfl rfl ?_
  refine s_build 8 rfl rfl (cells := #[.int .i64 (sz : Nat), .slice none 0 0, .slice none 0 0]) (by kernel_rfl) ?_
  refine s_box 9 rfl rfl (fun _ _ => trivial) (fun m => ?_)
  refine s_as 5 rfl rfl ?_
  refine SX.next ?_
  refine CW.seq ?_
  refine CW.seq ?_
  refine CW.reg [0] rfl ?_
  refine s_as 6 rfl rfl ?_
  refine SX.next ?_
  refine CW.block ?_
  refine CW.loop (G := Nat × LsG) (fun z => [(0, .int .i64 (ns : Nat)), (1, .int .i64 (sz : Nat)), (5, .pointer (some ⟨m, 0, none⟩)), (6, .int .i64 (z.1 : Nat))]) (fun z => Sto w [blk m 40 #[.int .i64 (sz : Nat), z.2.hdr, .slice none 0 0], z.2.out, z.2.star]) (fun z => z.1 ≤ ns ∧ z.2.abs = List.replicate z.1 (List.replicate sz 0) ∧ z.2.l.length ≤ z.2.c) (fun z => ns - z.1) (0, LsG.nil) ⟨rfl, rfl, rfl, rfl, trivial⟩ (fun _ h => by
    have h1 := (h.begin_ 31 1).starNil
    exact h1.pick [2, 1, 0] rfl) ⟨Nat.zero_le _, rfl, Nat.le_refl _⟩ ?_
  rintro ⟨i, z⟩ ⟨hi, hz, hzc⟩
  simp only at hi hz hzc
  dsimp only
  have hzl : z.l.length = i := by
    have := congrArg List.length hz
    rwa [LsG.abs_len, List.length_replicate] at this
  refine CW.seq ?_
  refine CW.seq ?_
  refine CW.reg [0, 1, 2] rfl ?_
  refine s_mv 10 rfl rfl ?_
  refine s_mv 11 rfl rfl ?_
  refine s_lt 12 rfl rfl rfl rfl ?_
  refine SX.next ?_
  refine CW.test rfl (fun hc => ?_) (fun hc => ?_)
  · skip
    have hil : i < ns := by omega
    refine CW.skip ?_
    refine KN.code ?_
    refine CW.seq ?_
    refine CW.block ?_
    refine CW.regD (.st true 0 (.st true 1 (.st true 2 (.st true 3 (.st true 5 (.alt 4 (.st false 6 (.st false 7 (.st false 8 (.st true 9 (.st true 10 (.st false 11 .done)))))) (.st false 6 (.alt 4 (.st false 7 (.st false 8 (.st true 9 (.st true 10 (.st false 11 .done))))) (.st false 7 (.st false 4 (.st false 8 (.st true 9 (.st true 10 (.st false 11 .done)))))))))))))) (Sto w []) mixed (by kernel_rfl) (fun _ h => h.drew) (fun _ h => h.nothing) ?_
    refine s_mv 15 rfl rfl ?_
    refine s_mv 16 rfl rfl ?_
    refine s_nil 17 rfl rfl ?_
    refine s_fa 18 rfl rfl ?_
    refine s_mv 20 rfl rfl ?_
    refine SX.alt ?_ ?_
    · skip
      refine s_ldB 19 0 rfl rfl rfl (v := z.hdr) rfl ?_
      refine s_make 21 sz rfl rfl rfl rfl rfl (by omega) (fun _ h => h.nothing) (fun gz => ?_)
      refine s_bsl 22 rfl rfl (cells := #[.slice (some ⟨gz, 0, none⟩) sz sz]) (by kernel_rfl) rfl (fun _ h => h.nothing) (fun gT => ?_)
      refine s_app 23 3 rfl rfl rfl rfl (ys := [.slice (some ⟨gz, 0, none⟩) sz sz]) (fun w hw => hasCong ((hw.has (i := 0) rfl).blk_sl (m := 1) rfl) rfl) rfl rfl (by omega) (by unfold maxLen; omega) (by omega) (fun _ _ _ h => h.nothing) (fun O2 oc2 hoc2 => ?_)
      refine s_nil 24 rfl rfl ?_
      refine s_fa 25 rfl rfl ?_
      refine s_stB 2 rfl rfl rfl rfl rfl (by show 1 < 3; decide) (fun _ h => h.nothing) ?_
      refine SX.end_ ?_
      refine KN.blk ?_
      refine KN.code ?_
      refine CW.reg [0, 1, 2] rfl ?_
      refine s_mv 13 rfl rfl ?_
      refine s_add 14 rfl rfl rfl (r := ((i + 1 : Nat) : Int)) (w64 (by omega)) ?_
      refine s_as 6 rfl rfl ?_
      refine SX.end_ ?_
      exact KN.back (i + 1, ⟨O2, oc2, z.l ++ [(⟨some ⟨gz, 0, none⟩, sz, List.replicate sz 0⟩ : ByG)]⟩) ⟨rfl, rfl, rfl, rfl, trivial⟩ (fun _ h => by
        have h0 := h.blkOwnM (q := 1) (m := sz) (c := sz) (sz := 1) rfl (by simp) (Nat.le_refl _) (by unfold maxLen; omega)
        rw [List.take_of_length_le (by simp)] at h0
        have h1 := h0.pick [1, 3, 1, 1] rfl
        have h2 := St.starPush (A := (⟨some ⟨gz, 0, none⟩, sz, List.replicate sz 0⟩ : ByG).dat) (X := z.l.map ByG.dat) (by
          unfold ByG.dat
          rw [List.length_replicate, show nats .u8 (List.replicate sz 0) = List.replicate sz (Value.int .u8 0) by simp [nats]]
          exact h1)
        have h3 := h2.pick [1, 1, 0] rfl
        unfold LsG.out LsG.star LsG.hdr
        simp only [List.length_append, List.length_cons, List.length_nil, List.map_append, List.map_cons, List.map_nil]
        rw [flatBy_more, List.length_replicate]
        exact h3) ⟨by simp only; omega, by
        unfold LsG.abs at hz ⊢
        simp only
        rw [List.map_append, hz, List.replicate_succ']
        rfl, by simp only [List.length_append, List.length_cons, List.length_nil]; omega⟩ (by simp only; omega)
    · skip
      refine s_make 21 sz rfl rfl rfl rfl rfl (by omega) (fun _ h => h.nothing) (fun gz => ?_)
      refine SX.alt ?_ ?_
      · skip
        refine s_ldB 19 1 rfl rfl rfl (v := z.hdr) rfl ?_
        refine s_bsl 22 rfl rfl (cells := #[.slice (some ⟨gz, 0, none⟩) sz sz]) (by kernel_rfl) rfl (fun _ h => h.nothing) (fun gT => ?_)
        refine s_app 23 3 rfl rfl rfl rfl (ys := [.slice (some ⟨gz, 0, none⟩) sz sz]) (fun w hw => hasCong ((hw.has (i := 0) rfl).blk_sl (m := 1) rfl) rfl) rfl rfl (by omega) (by unfold maxLen; omega) (by omega) (fun _ _ _ h => h.nothing) (fun O2 oc2 hoc2 => ?_)
        refine s_nil 24 rfl rfl ?_
        refine s_fa 25 rfl rfl ?_
        refine s_stB 2 rfl rfl rfl rfl rfl (by show 1 < 3; decide) (fun _ h => h.nothing) ?_
        refine SX.end_ ?_
        refine KN.blk ?_
        refine KN.code ?_
        refine CW.reg [0, 1, 2] rfl ?_
        refine s_mv 13 rfl rfl ?_
        refine s_add 14 rfl rfl rfl (r := ((i + 1 : Nat) : Int)) (w64 (by omega)) ?_
        refine s_as 6 rfl rfl ?_
        refine SX.end_ ?_
        exact KN.back (i + 1, ⟨O2, oc2, z.l ++ [(⟨some ⟨gz, 0, none⟩, sz, List.replicate sz 0⟩ : ByG)]⟩) ⟨rfl, rfl, rfl, rfl, trivial⟩ (fun _ h => by
          have h0 := h.blkOwnM (q := 1) (m := sz) (c := sz) (sz := 1) rfl (by simp) (Nat.le_refl _) (by unfold maxLen; omega)
          rw [List.take_of_length_le (by simp)] at h0
          have h1 := h0.pick [1, 3, 1, 1] rfl
          have h2 := St.starPush (A := (⟨some ⟨gz, 0, none⟩, sz, List.replicate sz 0⟩ : ByG).dat) (X := z.l.map ByG.dat) (by
            unfold ByG.dat
            rw [List.length_replicate, show nats .u8 (List.replicate sz 0) = List.replicate sz (Value.int .u8 0) by simp [nats]]
            exact h1)
          have h3 := h2.pick [1, 1, 0] rfl
          unfold LsG.out LsG.star LsG.hdr
          simp only [List.length_append, List.length_cons, List.length_nil, List.map_append, List.map_cons, List.map_nil]
          rw [flatBy_more, List.length_replicate]
          exact h3) ⟨by simp only; omega, by
          unfold LsG.abs at hz ⊢
          simp only
          rw [List.map_append, hz, List.replicate_succ']
          rfl, by simp only [List.length_append, List.length_cons, List.length_nil]; omega⟩ (by simp only; omega)
      · skip
        refine s_bsl 22 rfl rfl (cells := #[.slice (some ⟨gz, 0, none⟩) sz sz]) (by kernel_rfl) rfl (fun _ h => h.nothing) (fun gT => ?_)
        refine s_ldB 19 2 rfl rfl rfl (v := z.hdr) rfl ?_
        refine s_app 23 3 rfl rfl rfl rfl (ys := [.slice (some ⟨gz, 0, none⟩) sz sz]) (fun w hw => hasCong ((hw.has (i := 0) rfl).blk_sl (m := 1) rfl) rfl) rfl rfl (by omega) (by unfold maxLen; omega) (by omega) (fun _ _ _ h => h.nothing) (fun O2 oc2 hoc2 => ?_)
        refine s_nil 24 rfl rfl ?_
        refine s_fa 25 rfl rfl ?_
        refine s_stB 2 rfl rfl rfl rfl rfl (by show 1 < 3; decide) (fun _ h => h.nothing) ?_
        refine SX.end_ ?_
        refine KN.blk ?_
        refine KN.code ?_
        refine CW.reg [0, 1, 2] rfl ?_
        refine s_mv 13 rfl rfl ?_
        refine s_add 14 rfl rfl rfl (r := ((i + 1 : Nat) : Int)) (w64 (by omega)) ?_
        refine s_as 6 rfl rfl ?_
        refine SX.end_ ?_
        exact KN.back (i + 1, ⟨O2, oc2, z.l ++ [(⟨some ⟨gz, 0, none⟩, sz, List.replicate sz 0⟩ : ByG)]⟩) ⟨rfl, rfl, rfl, rfl, trivial⟩ (fun _ h => by
          have h0 := h.blkOwnM (q := 1) (m := sz) (c := sz) (sz := 1) rfl (by simp) (Nat.le_refl _) (by unfold maxLen; omega)
          rw [List.take_of_length_le (by simp)] at h0
          have h1 := h0.pick [1, 3, 1, 1] rfl
          have h2 := St.starPush (A := (⟨some ⟨gz, 0, none⟩, sz, List.replicate sz 0⟩ : ByG).dat) (X := z.l.map ByG.dat) (by
            unfold ByG.dat
            rw [List.length_replicate, show nats .u8 (List.replicate sz 0) = List.replicate sz (Value.int .u8 0) by simp [nats]]
            exact h1)
          have h3 := h2.pick [1, 1, 0] rfl
          unfold LsG.out LsG.star LsG.hdr
          simp only [List.length_append, List.length_cons, List.length_nil, List.map_append, List.map_cons, List.map_nil]
          rw [flatBy_more, List.length_replicate]
          exact h3) ⟨by simp only; omega, by
          unfold LsG.abs at hz ⊢
          simp only
          rw [List.map_append, hz, List.replicate_succ']
          rfl, by simp only [List.length_append, List.length_cons, List.length_nil]; omega⟩ (by simp only; omega)
  · skip
    obtain rfl : i = ns := by omega
    refine CW.exit rfl ?_
    refine KN.code ?_
    refine CW.seq ?_
    refine CW.reg [0, 1] rfl ?_
    refine s_mv 26 rfl rfl ?_
    refine s_as 4 rfl rfl ?_
    refine SX.next ?_
    refine CW.ret ?_
    exact KN.ret (rs := [.tmp 4]) Tryd.results7 rfl (fun w hw => ⟨(m, ⟨sz, z, none, 0, []⟩), rfl, ⟨rfl, hz, rfl, hzc⟩, by
      have h2 := (hw.begin_ 33 3).starNil
      exact St.dmC (x := ⟨sz, z, none, 0, []⟩) (h2.pick [2, 2, 2, 1, 0] rfl)⟩)
end Go.Proofs.YtaamaifnmppbgaaDoor
end
section
/- The document's model: a front, settling. Conditions: the model is read where it lies, or lent. -/
namespace Go.Proofs.YtaamaifnmppbgaaDoor
open Go Go.Sx
set_option maxRecDepth 100000
/-- What the document's front is made of. -/
structure DmP (m : Nat) (x : DmG) (w : World) : Prop where
  h : ∀ (j : Nat) (v : Value), x.cells[j]? = some v → w.cell? ⟨m, j, none⟩ = some v
  t : Has (sl 1 x.th.A x.th.l.length (x.th.l.flatMap ByG.row)) w
  ts : Has x.th.star w
  a : Has (sl 3 x.A x.es.length (rowsE x.es)) w
  as_ : Has x.was w
theorem dmP_of {m : Nat} {x : DmG} {w : World} (h : Has (dmA m x) w) : DmP m x w := ⟨fun _ _ hj => dm_cell h hj, dm_th h, h.starM (by simp [DmG.parts]), dm_wa h, h.starM (by simp [DmG.parts])⟩
theorem DmP.old {m : Nat} {x : DmG} {w w₀ : World} {L : List Atom} (hw : Sto w₀ L w) (h : DmP m x w₀) : DmP m x w := ⟨fun j v hj => hw.cell (h.h j v hj), hw.old h.t, hw.old h.ts, hw.old h.a, hw.old h.as_⟩
theorem dm_wait {x : DmG} {i : Nat} {e : EntG} (h : x.es[i]? = some e) : x.waits[i]? = some (absW x.size e) := by
  unfold DmG.waits
  rw [List.getElem?_map, h]
  rfl
theorem DmG.wlen (x : DmG) : x.waits.length = x.es.length := List.length_map ..
theorem dm_front_ok {x : DmG} (hx : x.Ok) (n : Nat) : ∀ l ∈ frontL x.th.abs (x.waits.take n), l.length = x.size ∧ ∀ v ∈ l, v < 256 :=
  front_all (p := fun l => l.length = x.size ∧ ∀ v ∈ l, v < 256) (fun l hl => by
    obtain ⟨b, hb, rfl⟩ := List.mem_map.1 hl
    exact hx.th b hb) (fun e he => by
    obtain ⟨e2, he2, rfl⟩ := List.mem_map.1 (List.mem_of_mem_take he)
    obtain ⟨_, _, _, h1, h2⟩ := hx.wa e2 he2
    unfold absW
    by_cases ht : e2.tr = true
    · rw [if_pos ht]
      exact ⟨List.length_replicate, fun v hv => by rw [(List.mem_replicate.1 hv).2]; decide⟩
    · rw [if_neg ht]
      exact ⟨h1 (by simpa using ht), h2⟩)

set_option maxHeartbeats 1600000 in

theorem dfront_spec (m : Nat) (x : DmG) (n : Nat) (w : World) (hx : x.Ok) (hn : n ≤ x.es.length) (h : DmP m x w) : SpecX Tryd.prog 9 [.pointer (some ⟨m, 0, none⟩), .int .i64 (n : Nat)] w (X := LsG) (fun z => z.hdr) (fun z => z.abs = frontL x.th.abs (x.waits.take n) ∧ z.l.length ≤ z.c) (fun z => [z.out, z.star]) := by
  refine spec_of Tryd.func9 rfl Tryd.ntmps9 rfl ?_
  refine CW.seq ?_
  refine CW.reg [0] rfl ?_
  refine s_as 4 rfl rfl ?_
  refine SX.next ?_
  refine CW.seq ?_
  refine CW.reg [0, 1, 2, 3, 4, 5] rfl ?_
  refine s_mv 8 rfl rfl ?_
  refine s_nil 9 rfl rfl ?_
  refine s_fa 10 rfl rfl ?_
  refine s_ld 11 rfl rfl (v := x.th.hdr) (fun _ hw => (h.old hw).h 1 _ rfl) ?_
  refine s_call 12 rfl rfl rfl rfl (fun w hw => listsM_spec x.th w ⟨by have := hx.n2; omega, fun b hb => by have := hx.th b hb; have := hx.s2; omega⟩ (hw.old h.t) (hw.old h.ts)) (fun _ _ => trivial) (fun z0 hz0 => ?_)
  refine s_as 5 rfl rfl ?_
  refine SX.next ?_
  refine CW.seq ?_
  refine CW.seq ?_
  refine CW.reg [0] rfl ?_
  refine s_as 6 rfl rfl ?_
  refine SX.next ?_
  refine CW.block ?_
  refine CW.loop (G := Nat × LsG) (fun z => [(0, .pointer (some ⟨m, 0, none⟩)), (1, .int .i64 (n : Nat)), (5, z.2.hdr), (6, .int .i64 (z.1 : Nat))]) (fun z => Sto w [z.2.out, z.2.star]) (fun z => z.1 ≤ n ∧ z.2.abs = frontL x.th.abs (x.waits.take z.1) ∧ z.2.l.length ≤ z.2.c) (fun z => n - z.1) (0, z0) ⟨rfl, rfl, rfl, rfl, trivial⟩ (fun _ h => h) ⟨Nat.zero_le _, hz0.1, hz0.2⟩ ?_
  rintro ⟨i, z⟩ ⟨hi, hz, hzc⟩
  simp only at hi hz hzc
  dsimp only
  have hzl : z.l.length = x.th.l.length := by
    have := congrArg List.length hz
    rwa [LsG.abs_len, frontL_len, LsG.abs_len] at this
  refine CW.seq ?_
  refine CW.seq ?_
  refine CW.reg [0, 1, 2, 3, 4, 5, 6, 7, 8, 9, 10, 11] rfl ?_
  refine s_mv 13 rfl rfl ?_
  refine s_mv 14 rfl rfl ?_
  refine s_lt 15 rfl rfl rfl rfl ?_
  refine s_mv 16 rfl rfl ?_
  refine SX.bool 16 rfl (fun hb => ?_) (fun hb => ?_)
  · skip
    have hin := of_decide_eq_true hb
    refine s_mv 17 rfl rfl ?_
    refine s_mv 18 rfl rfl ?_
    refine s_nil 19 rfl rfl ?_
    refine s_fa 20 rfl rfl ?_
    refine s_ld 21 rfl rfl (v := .slice x.A x.es.length x.c) (fun _ hw => (h.old hw).h 2 _ rfl) ?_
    refine s_len 22 rfl rfl ?_
    refine s_lt 23 rfl rfl rfl (decide_eq_true (by omega)) ?_
    refine s_pickT 24 rfl rfl rfl ?_
    refine SX.next ?_
    refine CW.condT rfl ?_
    refine CW.skip ?_
    refine KN.code ?_
    refine CW.seq ?_
    refine CW.block ?_
    refine CW.seq ?_
    refine CW.reg [0, 1, 2, 3, 4, 5, 6, 7, 8] rfl ?_
    have hil : i < n := by omega
    obtain ⟨e, he⟩ : ∃ e, x.es[i]? = some e := ⟨_, List.getElem?_eq_getElem (by omega)⟩
    have hem := List.mem_of_getElem? he
    obtain ⟨hk0, hkl, hel, htr, _⟩ := hx.wa e hem
    have hs2 := hx.s2
    obtain ⟨b0, hb0⟩ : ∃ b0, z.l[e.k.toNat]? = some b0 := ⟨_, List.getElem?_eq_getElem (by omega)⟩
    have hn2 := hx.n2
    have hwn := hx.wn
    refine s_mv 27 rfl rfl ?_
    refine s_nil 28 rfl rfl ?_
    refine s_fa 29 rfl rfl ?_
    refine s_ld 30 rfl rfl (v := .slice x.A x.es.length x.c) (fun _ hw => (h.old hw).h 2 _ rfl) ?_
    refine s_mv 31 rfl rfl ?_
    refine s_iaV 32 i (fun w hw => (h.old hw).a) rfl rfl rfl rfl (by omega) ?_
    refine s_ldR 33 (cs := e.row) rfl rfl rfl (fun w hw => ((h.old hw).a).entRow he) ?_
    refine s_alloc 7 rfl (fun _ _ => trivial) (fun b7 => ?_)
    refine s_stAll 0 rfl rfl (by kernel_rfl) rfl rfl rfl rfl (fun _ _ => trivial) ?_
    refine SX.next ?_
    refine CW.seq ?_
    refine CW.regD (.st true 0 (.st true 1 (.st true 2 (.st true 3 (.st true 4 (.st true 5 (.st true 6 (.st false 7 (.st true 8 (.st false 9 .done)))))))))) (Sto w [blk b7 33 e.row.toArray]) mixed (by kernel_rfl) (fun _ h => h.drew) (fun _ h => by first | exact h.pick [0] rfl | exact h.pick [1] rfl | exact h.pick [2] rfl) ?_
    refine s_mv 34 rfl rfl ?_
    refine s_fa 35 rfl rfl ?_
    refine s_ldS 36 rfl rfl (v := .int .i64 e.k) (fun _ hw => hw.blkCell (i := 0) (j := 0) rfl rfl) ?_
    refine s_mv 37 rfl rfl ?_
    refine s_nil 38 rfl rfl ?_
    refine s_fa 39 rfl rfl ?_
    refine s_ldS 40 rfl rfl (v := .int .i64 (x.size : Nat)) (fun _ hw => (h.old hw).h 0 _ rfl) ?_
    refine s_make 41 x.size rfl rfl rfl rfl rfl (by omega) (fun _ h => by first | exact h.pick [0] rfl | exact h.pick [1] rfl | exact h.pick [2] rfl) (fun gz => ?_)
    refine s_iaO 42 2 e.k.toNat rfl rfl rfl rfl (by omega) (by omega) ?_
    refine s_stO 2 rfl rfl rfl rfl rfl (by omega) (fun _ h => by first | exact h.pick [0] rfl | exact h.pick [1] rfl | exact h.pick [2] rfl) ?_
    refine SX.next ?_
    refine CW.seq ?_
    refine CW.reg [0, 1, 2] rfl ?_
    refine s_fa 43 rfl rfl ?_
    refine s_ld 44 rfl rfl (v := .bool e.tr) (fun _ hw => hw.blkCell (i := 1) (j := 1) rfl rfl) ?_
    refine s_not 45 rfl rfl ?_
    refine SX.next ?_
    refine CW.cond rfl (fun hc => ?_) (fun hc => ?_)
    · skip
      have hno : e.tr = false := by simpa using hc
      refine CW.regD (.st true 0 (.st true 1 (.st true 2 (.st true 3 (.st true 4 (.st false 5 (.st true 6 (.st false 7 .done)))))))) (Sto w [blk b7 33 e.row.toArray]) mixed (by kernel_rfl) (fun _ h => h.drew) (fun _ h => by first | exact h.pick [0] rfl | exact h.pick [1] rfl | exact h.pick [2] rfl) ?_
      refine s_mv 46 rfl rfl ?_
      refine s_fa 47 rfl rfl ?_
      refine s_ldS 48 rfl rfl (v := .int .i64 e.k) (fun _ hw => hw.blkCell (i := 0) (j := 0) rfl rfl) ?_
      refine s_fa 49 rfl rfl ?_
      refine s_ldS 50 rfl rfl (v := .slice e.A e.l.length e.c) (fun _ hw => hw.blkCell (i := 0) (j := 2) rfl rfl) ?_
      refine s_call 51 rfl rfl rfl rfl (fun w hw => rbytesM_spec e.A e.l.length e.c e.l w (Has.starM (h.old hw).as_ (List.mem_map_of_mem hem)).of_own (by omega)) (fun _ h => by first | exact h.pick [0] rfl | exact h.pick [1] rfl | exact h.pick [2] rfl) (fun zo hzo => ?_)
      refine s_iaO 52 3 e.k.toNat rfl rfl rfl rfl (by omega) (by omega) ?_
      refine s_stO 3 rfl rfl rfl rfl rfl (by omega) (fun _ h => by first | exact h.pick [0] rfl | exact h.pick [1] rfl | exact h.pick [2] rfl) ?_
      refine SX.end_ ?_
      refine KN.blk ?_
      refine KN.code ?_
      refine CW.reg [0, 1, 2] rfl ?_
      refine s_mv 25 rfl rfl ?_
      refine s_add 26 rfl rfl rfl (r := ((i + 1 : Nat) : Int)) (w64 (by omega)) ?_
      refine s_as 6 rfl rfl ?_
      refine SX.end_ ?_
      exact KN.back (i + 1, ⟨z.A, z.c, z.l.set e.k.toNat (⟨zo.1, zo.2, e.l⟩ : ByG)⟩) ⟨rfl, rfl, by simp only [LsG.hdr, List.length_set]; rfl, rfl, trivial⟩ (fun _ h => by
        have h0 := h
        have h1 := h0.pick [4, 0, 2] rfl
        have h2 := St.starPut (A := b0.dat) (A' := (⟨zo.1, zo.2, e.l⟩ : ByG).dat) (X := z.l.map ByG.dat) (i := e.k.toNat) (by rw [List.getElem?_map, hb0]; rfl) (by
          skip
          exact h1)
        have h3 := h2.pick [1, 0] rfl
        unfold LsG.out LsG.star
        simp only [List.length_set]
        rw [flatBy_set hb0, List.map_set]
        rw [List.set_set] at h3
        exact h3) ⟨by simp only; omega, by
        have e2 : absW x.size e = (e.k.toNat, (⟨zo.1, zo.2, e.l⟩ : ByG).l) := by unfold absW; rw [hno]; rfl
        rw [front_take_succ (dm_wait he), ← hz, e2]
        unfold LsG.abs
        simp only
        rw [List.map_set], by simp only [List.length_set]; exact hzc⟩ (by simp only; omega)
    · skip
      have hyes : e.tr = true := by simpa using hc
      refine CW.skip ?_
      refine KN.blk ?_
      refine KN.code ?_
      refine CW.reg [0, 1, 2] rfl ?_
      refine s_mv 25 rfl rfl ?_
      refine s_add 26 rfl rfl rfl (r := ((i + 1 : Nat) : Int)) (w64 (by omega)) ?_
      refine s_as 6 rfl rfl ?_
      refine SX.end_ ?_
      exact KN.back (i + 1, ⟨z.A, z.c, z.l.set e.k.toNat (⟨some ⟨gz, 0, none⟩, x.size, List.replicate x.size 0⟩ : ByG)⟩) ⟨rfl, rfl, by simp only [LsG.hdr, List.length_set]; rfl, rfl, trivial⟩ (fun _ h => by
        have h0 := h.blkOwnM (q := 0) (m := x.size) (c := x.size) (sz := 1) rfl (by simp) (Nat.le_refl _) (by unfold maxLen; omega)
        rw [List.take_of_length_le (by simp)] at h0
        have h1 := h0.pick [3, 0, 1] rfl
        have h2 := St.starPut (A := b0.dat) (A' := (⟨some ⟨gz, 0, none⟩, x.size, List.replicate x.size 0⟩ : ByG).dat) (X := z.l.map ByG.dat) (i := e.k.toNat) (by rw [List.getElem?_map, hb0]; rfl) (by
          unfold ByG.dat
          rw [List.length_replicate, show nats .u8 (List.replicate x.size 0) = List.replicate x.size (Value.int .u8 0) by simp [nats]]
          exact h1)
        have h3 := h2.pick [1, 0] rfl
        unfold LsG.out LsG.star
        simp only [List.length_set]
        rw [flatBy_set hb0, List.map_set]
        simp only [List.length_replicate]
        exact h3) ⟨by simp only; omega, by
        have e2 : absW x.size e = (e.k.toNat, (⟨some ⟨gz, 0, none⟩, x.size, List.replicate x.size 0⟩ : ByG).l) := by unfold absW; rw [hyes]; rfl
        rw [front_take_succ (dm_wait he), ← hz, e2]
        unfold LsG.abs
        simp only
        rw [List.map_set], by simp only [List.length_set]; exact hzc⟩ (by simp only; omega)
  · skip
    have hin := of_decide_eq_false hb
    refine SX.skip rfl ?_
    refine SX.skip rfl ?_
    refine SX.skip rfl ?_
    refine SX.skip rfl ?_
    refine SX.skip rfl ?_
    refine SX.skip rfl ?_
    refine SX.skip rfl ?_
    refine s_pickF 24 rfl rfl rfl ?_
    refine SX.next ?_
    refine CW.condF rfl ?_
    refine CW.exit rfl ?_
    refine KN.code ?_
    refine CW.seq ?_
    refine CW.reg [0, 1] rfl ?_
    refine s_mv 53 rfl rfl ?_
    refine s_as 4 rfl rfl ?_
    refine SX.next ?_
    refine CW.ret ?_
    exact KN.ret (rs := [.tmp 4]) Tryd.results9 rfl (fun w hw => ⟨z, rfl, ⟨by rw [show n = i by omega]; exact hz, hzc⟩, hw⟩)

/-- What the document's model is that settled. -/
structure DmG.Is (x z : DmG) (l : List (List Nat)) : Prop where
  s : z.size = x.size
  t : z.th.abs = l
  a : z.es = []
  c : z.th.l.length ≤ z.th.c
theorem dm_settles {x : DmG} {q : List (List Nat)} {i : Nat} (hi : i ≤ x.es.length) (h : frontL x.th.abs (x.waits.take i) = q) (hj : ∀ j, j < i → frontL x.th.abs (x.waits.take j) ≠ q) : settleN x.th.abs x.waits q = some i :=
  settle_some (by rw [DmG.wlen]; omega) h hj
theorem dm_settles_not {x : DmG} {q : List (List Nat)} (hj : ∀ j, j < x.es.length + 1 → frontL x.th.abs (x.waits.take j) ≠ q) : settleN x.th.abs x.waits q = none :=
  settle_none (fun j h => hj j (by rw [DmG.wlen] at h; omega))
/-- Where it settles, as a number: none is -1. -/
def setI (o : Option Nat) : Int := match o with | some n => (n : Nat) | none => -1

theorem dsettle_spec (F : Nat → Prop) (m : Nat) (x : DmG) (q : LsG) (w : World) (hx : x.Ok) (hqb : ∀ b ∈ q.l, ∀ v ∈ b.l, v < 256) (hQ : ∀ w2, Fr F w w2 → Has (sl 1 q.A q.l.length (q.l.flatMap ByG.row)) w2 ∧ Has q.star w2) (hw : St F w [dmA m x] w) : SpecP Tryd.prog 20 [.pointer (some ⟨m, 0, none⟩), q.hdr] F w (X := DmG) (fun _ => .int .i64 (setI (settleN x.th.abs x.waits q.abs))) (fun z => (∀ n, settleN x.th.abs x.waits q.abs = some n → x.Is z q.abs) ∧ (settleN x.th.abs x.waits q.abs = none → z = x)) (fun z => [dmA m z]) := by
  refine spec_ofC Tryd.func20 rfl Tryd.ntmps20 rfl hw ?_
  refine CW.seq ?_
  refine CW.pre (fun _ h => h.dmO) ?_
  refine CW.reg [0] rfl ?_
  refine s_as 4 rfl rfl ?_
  refine SX.next ?_
  refine CW.seq ?_
  refine CW.seq ?_
  refine CW.reg [0] rfl ?_
  refine s_as 5 rfl rfl ?_
  refine SX.next ?_
  refine CW.block ?_
  refine CW.loop (G := Nat) (fun i => [(0, .pointer (some ⟨m, 0, none⟩)), (1, q.hdr), (5, .int .i64 (i : Nat))]) (fun _ => St F w [x.hd m, x.th.out, x.th.star, x.wao, x.was]) (fun i => i ≤ x.es.length + 1 ∧ ∀ j, j < i → frontL x.th.abs (x.waits.take j) ≠ q.abs) (fun i => x.es.length + 1 - i) 0 ⟨rfl, rfl, rfl, trivial⟩ (fun _ h => h) ⟨Nat.zero_le _, fun j hj => absurd hj (Nat.not_lt_zero j)⟩ ?_
  rintro i ⟨hi, hno⟩
  have hwn := hx.wn
  refine CW.seq ?_
  refine CW.seq ?_
  refine CW.reg [0, 1, 2, 3, 4, 5, 6] rfl ?_
  refine s_mv 7 rfl rfl ?_
  refine s_mv 8 rfl rfl ?_
  refine s_nil 9 rfl rfl ?_
  refine s_fa 10 rfl rfl ?_
  refine s_ldB 11 0 rfl rfl rfl (v := .slice x.A x.es.length x.c) rfl ?_
  refine s_len 12 rfl rfl ?_
  refine s_le 13 rfl rfl rfl rfl ?_
  refine SX.next ?_
  refine CW.test rfl (fun hc => ?_) (fun hc => ?_)
  · skip
    have hil : i ≤ x.es.length := by omega
    refine CW.skip ?_
    refine KN.code ?_
    refine CW.seq ?_
    refine CW.block ?_
    refine CW.seq ?_
    refine CW.reg [0, 1, 2, 3] rfl ?_
    refine s_mv 16 rfl rfl ?_
    refine s_mv 17 rfl rfl ?_
    refine s_call 18 rfl rfl rfl rfl (fun w hw => dfront_spec m x i w hx hil ⟨fun j v hj => hw.blkCell (i := 0) rfl hj, (hw.has (i := 1) rfl).of_own, hw.has (i := 2) rfl, (hw.has (i := 3) rfl).of_own, hw.has (i := 4) rfl⟩) (fun _ _ => trivial) (fun z hz => ?_)
    refine s_as 6 rfl rfl ?_
    refine SX.next ?_
    refine CW.seq ?_
    refine CW.reg [0, 1, 2] rfl ?_
    have hzl : z.l.length = x.th.l.length := by
      have := congrArg List.length hz.1
      rwa [LsG.abs_len, frontL_len, LsG.abs_len] at this
    have hn2 := hx.n2
    refine s_mv 19 rfl rfl ?_
    refine s_mv 20 rfl rfl ?_
    refine s_call1 21 rfl rfl rfl rfl (fun w hw => sameLsM_spec z q w (hw.has (i := 0) rfl).of_own (hw.has (i := 1) rfl) (fun b hb => (LsG.all_ (p := fun l => l.length = x.size ∧ ∀ v ∈ l, v < 256) hz.1 (dm_front_ok hx i) b hb).2) (hQ _ hw.fr).1 (hQ _ hw.fr).2 hqb (by omega)) (fun _ _ => trivial) ?_
    refine SX.next ?_
    refine CW.cond rfl (fun hc2 => ?_) (fun hc2 => ?_)
    · skip
      have heq : z.abs = q.abs := of_decide_eq_true hc2
      have hsn := dm_settles hil (hz.1 ▸ heq) hno
      refine CW.seq ?_
      refine CW.reg [0, 1, 2, 3, 4] rfl ?_
      refine s_mv 22 rfl rfl ?_
      refine s_mv 23 rfl rfl ?_
      refine s_nil 24 rfl rfl ?_
      refine s_fa 25 rfl rfl ?_
      refine s_stB 2 rfl rfl rfl rfl rfl (by show 1 < 3; decide) (fun _ _ => trivial) ?_
      refine SX.next ?_
      refine CW.seq ?_
      refine CW.reg [0, 1, 2, 3] rfl ?_
      refine s_mv 26 rfl rfl ?_
      refine s_nil 27 rfl rfl ?_
      refine s_fa 28 rfl rfl ?_
      refine s_stB 2 rfl rfl rfl rfl rfl (by show 2 < 3; decide) (fun _ _ => trivial) ?_
      refine SX.next ?_
      refine CW.seq ?_
      refine CW.reg [0, 1] rfl ?_
      refine s_mv 29 rfl rfl ?_
      refine s_as 4 rfl rfl ?_
      refine SX.next ?_
      refine CW.ret ?_
      exact KN.ret (rs := [.tmp 4]) Tryd.results20 rfl (fun w hw => ⟨(⟨x.size, z, none, 0, []⟩ : DmG), by rw [hsn]; rfl, ⟨fun n h => ⟨rfl, heq, rfl, hz.2⟩, fun h => by rw [hsn] at h; exact (nomatch h)⟩, by
        have h1 := hw.pick [2, 0, 0] rfl
        have h2 := (h1.begin_ 33 3).starNil
        exact St.dmC (x := (⟨x.size, z, none, 0, []⟩ : DmG)) (h2.pick [2, 2, 2, 1, 0] rfl)⟩)
    · skip
      have hne : z.abs ≠ q.abs := of_decide_eq_false hc2
      refine CW.skip ?_
      refine KN.blk ?_
      refine KN.code ?_
      refine CW.reg [0, 1, 2] rfl ?_
      refine s_mv 14 rfl rfl ?_
      refine s_add 15 rfl rfl rfl (r := ((i + 1 : Nat) : Int)) (w64 (by omega)) ?_
      refine s_as 5 rfl rfl ?_
      refine SX.end_ ?_
      exact KN.back (i + 1) ⟨rfl, rfl, rfl, trivial⟩ (fun _ h => h.pick [2, 2, 2, 2, 2] rfl) ⟨by omega, fun j hj => by
        rcases Nat.lt_or_ge j i with h1 | h1
        · exact hno j h1
        · obtain rfl : j = i := by omega
          rw [← hz.1]
          exact hne⟩ (by omega)
  · skip
    have hsn := dm_settles_not (q := q.abs) (fun j hj => hno j (by omega))
    refine CW.exit rfl ?_
    refine KN.code ?_
    refine CW.seq ?_
    refine CW.reg [0] rfl ?_
    refine s_as 4 rfl rfl ?_
    refine SX.next ?_
    refine CW.ret ?_
    exact KN.ret (rs := [.tmp 4]) Tryd.results20 rfl (fun w hw => ⟨x, by rw [hsn]; rfl, ⟨fun n h => by rw [hsn] at h; exact (nomatch h), fun _ => rfl⟩, St.dmC hw⟩)
end Go.Proofs.YtaamaifnmppbgaaDoor
end
section
/- A model's state, told as lists: what each of its deeds does to it. No condition. -/
namespace Go.Proofs.YtaamaifnmppbgaaDoor
open Go Go.Sx
set_option maxRecDepth 100000
/-- A model that is whole, and what it is. -/
structure MS (x : MdG) (s : Nat) (t : List (List Nat)) (ws : List Wt) : Prop where
  ok : x.Ok
  s : x.size = s
  t : x.th.abs = t
  a : x.wa.abs = ws
namespace MS
variable {x z : MdG} {s : Nat} {t : List (List Nat)} {ws : List Wt}
theorem tl (h : MS x s t ws) : x.th.l.length = t.length := by rw [← h.t, LsG.abs_len]
theorem wl (h : MS x s t ws) : x.wa.l.length = ws.length := by rw [← h.a, WsG.abs_len]
theorem s1 (h : MS x s t ws) : 1 ≤ s := by rw [← h.s]; exact h.ok.s1
theorem s2 (h : MS x s t ws) : s ≤ 1024 := by rw [← h.s]; exact h.ok.s2
theorem n1 (h : MS x s t ws) : 1 ≤ t.length := by rw [← h.tl]; exact h.ok.n1
theorem n2 (h : MS x s t ws) : t.length ≤ 40 := by rw [← h.tl]; exact h.ok.n2
theorem all (h : MS x s t ws) (n : Nat) : ∀ l ∈ frontL t (ws.take n), l.length = s ∧ ∀ v ∈ l, v < 256 := by
  rw [← h.s, ← h.t, ← h.a]
  exact md_front_ok h.ok n
theorem allF (h : MS x s t ws) : ∀ l ∈ frontL t ws, l.length = s ∧ ∀ v ∈ l, v < 256 := by
  have := h.all ws.length
  rwa [List.take_length] at this
theorem new {ns sz : Nat} (h1 : z.size = sz) (h2 : z.th.abs = List.replicate ns (List.replicate sz 0)) (h3 : z.wa = WsG.nil) (h4 : 1 ≤ ns) (h5 : ns ≤ 40) (h6 : 1 ≤ sz) (h7 : sz ≤ 1024) : MS z sz (List.replicate ns (List.replicate sz 0)) [] := by
  have hl : z.th.l.length = ns := by rw [← LsG.abs_len, h2, List.length_replicate]
  refine ⟨⟨by omega, by omega, by omega, by omega, ?_, by rw [h3]; decide, by rw [h3]; decide, fun e he => by rw [h3] at he; exact (nomatch he)⟩, h1, h2, by rw [h3]; rfl⟩
  rw [h1]
  exact LsG.all_ (p := fun l => l.length = sz ∧ ∀ v ∈ l, v < 256) h2 (fun l hl => by
    rw [(List.mem_replicate.1 hl).2]
    exact ⟨List.length_replicate, fun v hv => by rw [(List.mem_replicate.1 hv).2]; decide⟩)
theorem put {k : Nat} {p : List Nat} (h : MS x s t ws) (hp : x.Put z k p) (hk : k < t.length) (hl : p.length = s) (hb : ∀ v ∈ p, v < 256) (hn : ws.length + 1 ≤ 100) : MS z s t (ws ++ [(k, p)]) := by
  have ha : z.wa.abs = ws ++ [(k, p)] := by rw [hp.a, h.a]
  refine ⟨⟨by rw [hp.s]; exact h.ok.s1, by rw [hp.s]; exact h.ok.s2, by rw [hp.t]; exact h.ok.n1, by rw [hp.t]; exact h.ok.n2, by rw [hp.t, hp.s]; exact h.ok.th, by rw [← WsG.abs_len, ha, List.length_append]; exact hn, hp.c, fun e he => ?_⟩, by rw [hp.s, h.s], by rw [hp.t, h.t], ha⟩
  have hm : e.abs ∈ z.wa.abs := List.mem_map_of_mem he
  rw [hp.a, List.mem_append] at hm
  rw [hp.t, hp.s]
  rcases hm with hm | hm
  · obtain ⟨e2, h2, h3⟩ := List.mem_map.1 hm
    have h4 := h.ok.wa e2 h2
    have h5 : e2.k = e.k := congrArg Prod.fst h3
    have h6 : e2.l = e.l := congrArg Prod.snd h3
    rw [← h5, ← h6]
    exact h4
  · obtain h3 : e.abs = (k, p) := by simpa using hm
    have h5 : e.k = k := congrArg Prod.fst h3
    have h6 : e.l = p := congrArg Prod.snd h3
    rw [h5, h6, h.tl, h.s]
    exact ⟨hk, hl, hb⟩
theorem wr (h : MS x s t ws) (k : Int) (n : Nat) : x.wrC k n = if 0 ≤ k ∧ k < (t.length : Int) then (if n = s then 0 else 2) else 1 := by
  unfold MdG.wrC MdG.has
  rw [h.tl, h.s]
  by_cases hk : 0 ≤ k ∧ k < (t.length : Int)
  · rw [if_pos hk, decide_eq_true hk]; rfl
  · rw [if_neg hk, decide_eq_false hk]; rfl
theorem wr0 (h : MS x s t ws) {k : Int} (h0 : 0 ≤ k) (hk : k < (t.length : Int)) : x.wrC k s = 0 := by rw [h.wr, if_pos ⟨h0, hk⟩, if_pos rfl]
theorem settled {l : List (List Nat)} (h : MS x s t ws) (hs : z.size = x.size) (ht : z.th.abs = l) (ha : z.wa = WsG.nil) (hl : l.length = t.length) (hb : ∀ q ∈ l, q.length = s ∧ ∀ v ∈ q, v < 256) : MS z s l [] := by
  have hzl : z.th.l.length = t.length := by rw [← LsG.abs_len, ht, hl]
  have h1 := h.n1
  have h2 := h.n2
  refine ⟨⟨by rw [hs]; exact h.ok.s1, by rw [hs]; exact h.ok.s2, by omega, by omega, ?_, by rw [ha]; decide, by rw [ha]; decide, fun e he => by rw [ha] at he; exact (nomatch he)⟩, by rw [hs, h.s], ht, by rw [ha]; rfl⟩
  rw [hs, h.s]
  exact LsG.all_ (p := fun l => l.length = s ∧ ∀ v ∈ l, v < 256) ht hb
theorem flush (h : MS x s t ws) (hs : z.size = x.size) (ht : z.th.abs = frontL x.th.abs x.wa.abs) (ha : z.wa = WsG.nil) : MS z s (frontL t ws) [] := by
  rw [h.t, h.a] at ht
  exact h.settled hs ht ha (frontL_len ..) h.allF
theorem is {l : List (List Nat)} {n : Nat} (h : MS x s t ws) (hn : settleN t ws l = some n) (hz : x.Is z l) : MS z s l [] := by
  obtain ⟨_, h2, _⟩ := settle_is hn
  refine h.settled hz.s hz.t hz.a (by rw [← h2, frontL_len]) ?_
  rw [← h2]
  exact h.all n
end MS
/-- A list of lists that a walk built: its parts, made one's own. -/
theorem ls_has {q : LsG} {w : World} (h1 : Has q.out w) (h2 : Has q.star w) : Has (sl 1 q.A q.l.length (q.l.flatMap ByG.row)) w ∧ Has q.star w := ⟨h1.of_own, h2⟩
/-- The document's model that is whole, and what it is. -/
structure DS (x : DmG) (s : Nat) (t : List (List Nat)) (ws : List Wt) : Prop where
  ok : x.Ok
  s : x.size = s
  t : x.th.abs = t
  a : x.waits = ws
  c : x.es.length ≤ x.c
namespace DS
variable {x z : DmG} {s : Nat} {t : List (List Nat)} {ws : List Wt}
theorem tl (h : DS x s t ws) : x.th.l.length = t.length := by rw [← h.t, LsG.abs_len]
theorem wl (h : DS x s t ws) : x.es.length = ws.length := by rw [← h.a, DmG.wlen]
theorem new {ns sz : Nat} (h1 : z.size = sz) (h2 : z.th.abs = List.replicate ns (List.replicate sz 0)) (h3 : z.es = []) (h4 : 1 ≤ ns) (h5 : ns ≤ 40) (h6 : 1 ≤ sz) (h7 : sz ≤ 1024) : DS z sz (List.replicate ns (List.replicate sz 0)) [] := by
  have hl : z.th.l.length = ns := by rw [← LsG.abs_len, h2, List.length_replicate]
  refine ⟨⟨by omega, by omega, by omega, by omega, ?_, by rw [h3]; decide, fun e he => by rw [h3] at he; exact (nomatch he)⟩, h1, h2, by unfold DmG.waits; rw [h3]; rfl, by rw [h3]; exact Nat.zero_le _⟩
  rw [h1]
  exact LsG.all_ (p := fun l => l.length = sz ∧ ∀ v ∈ l, v < 256) h2 (fun l hl => by
    rw [(List.mem_replicate.1 hl).2]
    exact ⟨List.length_replicate, fun v hv => by rw [(List.mem_replicate.1 hv).2]; decide⟩)
theorem put (h : DS x s t ws) {A : Option Addr} {c : Nat} {e : EntG} (h0 : 0 ≤ e.k) (hk : e.k < (t.length : Int)) (hd : e.l.length ≤ 2000) (hl : e.tr = false → e.l.length = s) (hb : ∀ v ∈ e.l, v < 256) (hn : ws.length + 1 ≤ 100) (hc : x.es.length + 1 ≤ c) : DS ⟨x.size, x.th, A, c, x.es ++ [e]⟩ s t (ws ++ [absW s e]) := by
  have h1 := h.tl
  have h2 := h.wl
  have hok := h.ok
  refine ⟨⟨hok.s1, hok.s2, hok.n1, hok.n2, hok.th, by simp only [List.length_append, List.length_cons, List.length_nil]; omega, fun e2 he => ?_⟩, h.s, h.t, ?_, by simp only [List.length_append, List.length_cons, List.length_nil]; exact hc⟩
  · rcases List.mem_append.1 he with h3 | h3
    · exact hok.wa e2 h3
    · obtain rfl : e2 = e := by simpa using h3
      exact ⟨h0, by simp only; omega, hd, fun h4 => by simp only; rw [hl h4, h.s], hb⟩
  · unfold DmG.waits
    simp only
    rw [List.map_append, show x.es.map (absW x.size) = ws from h.a, h.s]
    rfl
theorem settled (h : DS x s t ws) {l : List (List Nat)} (hs : z.size = x.size) (ht : z.th.abs = l) (ha : z.es = []) (hl : l.length = t.length) (hb : ∀ q ∈ l, q.length = s ∧ ∀ v ∈ q, v < 256) : DS z s l [] := by
  have hzl : z.th.l.length = t.length := by rw [← LsG.abs_len, ht, hl]
  have h1 : 1 ≤ t.length := by rw [← h.tl]; exact h.ok.n1
  have h2 : t.length ≤ 40 := by rw [← h.tl]; exact h.ok.n2
  refine ⟨⟨by rw [hs]; exact h.ok.s1, by rw [hs]; exact h.ok.s2, by omega, by omega, ?_, by rw [ha]; decide, fun e he => by rw [ha] at he; exact (nomatch he)⟩, by rw [hs, h.s], ht, by unfold DmG.waits; rw [ha]; rfl, by rw [ha]; exact Nat.zero_le _⟩
  rw [hs, h.s]
  exact LsG.all_ (p := fun l => l.length = s ∧ ∀ v ∈ l, v < 256) ht hb
end DS
end Go.Proofs.YtaamaifnmppbgaaDoor
end
section
/- Package model: the chapter's examples. Conditions: the errors' variables. -/
namespace Go.Proofs.YtaamaifnmppbgaaDoor
open Go Go.Sx
set_option maxRecDepth 100000
theorem LsG.row_of {z : LsG} {l : List (List Nat)} {i : Nat} {v : List Nat} (h : z.abs = l) (hv : l[i]? = some v) : ∃ b, z.l[i]? = some b ∧ b.l = v := by
  rw [← h] at hv
  unfold LsG.abs at hv
  rw [List.getElem?_map] at hv
  obtain ⟨b, h1, h2⟩ := Option.map_eq_some_iff.1 hv
  exact ⟨b, h1, h2⟩
/-- The examples' fronts. -/
def exF (i : Nat) : List (List Nat) := frontL [[0], [0]] ([(0, [5]), (0, [6])].take i)
theorem exF_at {i : Nat} (h : i < 3) : ∃ v : Nat, (exF i)[0]? = some [v] ∧ v ≤ 6 ∧ (#[.int .i64 0, .int .i64 5, .int .i64 6] : Array Value)[i]? = some (.int .i64 (v : Nat)) := by
  rcases (show i = 0 ∨ i = 1 ∨ i = 2 by omega) with rfl | rfl | rfl
  · exact ⟨0, by decide, by decide, rfl⟩
  · exact ⟨5, by decide, by decide, rfl⟩
  · exact ⟨6, by decide, by decide, rfl⟩
def exQ (gq g1 g2 a b : Nat) : LsG := ⟨some ⟨gq, 0, none⟩, 2, [⟨some ⟨g1, 0, none⟩, 1, [a]⟩, ⟨some ⟨g2, 0, none⟩, 1, [b]⟩]⟩

theorem exQ_own {F : Nat → Prop} {w₀ w : World} {L : List Atom} {gq g1 g2 a b : Nat} (h : St F w₀ (blk gq 31 #[.slice (some ⟨g1, 0, none⟩) 1 1, .slice (some ⟨g2, 0, none⟩) 1 1] :: blk g2 5 #[.int .u8 (b : Nat)] :: blk g1 5 #[.int .u8 (a : Nat)] :: L) w) : St F w₀ ((exQ gq g1 g2 a b).out :: (exQ gq g1 g2 a b).star :: L) w := by
  have h1 := h.blkOwnM (q := 0) (m := 2) (c := 2) (sz := 1) rfl rfl (Nat.le_refl _) (by decide)
  have h2 := h1.blkOwnM (q := 1) (m := 1) (c := 1) (sz := 1) rfl rfl (Nat.le_refl _) (by decide)
  have h3 := h2.blkOwnM (q := 2) (m := 1) (c := 1) (sz := 1) rfl rfl (Nat.le_refl _) (by decide)
  have h4 := h3.perm ((List.Perm.swap _ _ _).trans (((List.Perm.swap _ _ _).cons _).trans (List.Perm.swap _ _ _)))
  exact (St.close_ [own 5 1 (some ⟨g1, 0, none⟩) 1 1 [.int .u8 (a : Nat)], own 5 1 (some ⟨g2, 0, none⟩) 1 1 [.int .u8 (b : Nat)]] h4).perm (List.Perm.swap _ _ _)
theorem exQ_abs {gq g1 g2 a b : Nat} : (exQ gq g1 g2 a b).abs = [[a], [b]] := rfl
theorem exQ_b {gq g1 g2 a b : Nat} (ha : a < 256) (hb : b < 256) : ∀ x ∈ (exQ gq g1 g2 a b).l, ∀ v ∈ x.l, v < 256 := by
  intro x hx v hv
  unfold exQ at hx
  simp only [List.mem_cons, List.not_mem_nil, or_false] at hx
  rcases hx with rfl | rfl
  · simp only [List.mem_cons, List.not_mem_nil, or_false] at hv
    omega
  · simp only [List.mem_cons, List.not_mem_nil, or_false] at hv
    omega
theorem _root_.Go.Sx.SXI.pre {P : Program} {ops : Array Oper} {S : World → Prop} {K : Act → World → Prop} {p : Plan} {n : Nat} {ds : List Deferred} {l : List (Nat × Value)} {C C' : World → Prop} (hC : ∀ w, C w → C' w) (h : SXI P ops S K p n ds l C') : SXI P ops S K p n ds l C := ⟨fun a w he hc hs => h.run a w he (hC w hc) hs⟩

theorem first_spec (e : Nat → Addr) (w : World) (heN : ∀ w', Fr (Old w) w w' → Er e w' 1) (heS : ∀ w', Fr (Old w) w w' → Er e w' 2) : Spec1 Tryd.prog 5 [] w (.bool true) := by
  refine calls_ofI Tryd.func5 rfl Tryd.ntmps5 rfl (C := Sto w []) (St.start w) ?_
  refine CWI.seq ?_
  refine CWI.reg [0] rfl (by kernel_rfl) ?_
  refine SXI.of1 (pf := fun _ => True) (fun _ hK => s_alloc 0 rfl (fun _ _ => trivial) (fun x => SX.done (hK x trivial))) (fun g0 _ => ?_)
  refine SXI.next ?_
  refine CWI.seq ?_
  refine CWI.reg [0, 1, 2, 3, 4, 5] rfl (by kernel_rfl) ?_
  refine SXI.of1 (fun _ hK => s_call 11 rfl rfl rfl rfl (fun w hw => newM_ok 2 1 w (by decide) (by decide) (by decide) (by decide)) (fun _ _ => trivial) (fun x hx => SX.done (hK x hx))) (fun zz hzz => ?_)
  obtain ⟨m, u0⟩ := zz
  obtain ⟨hz1, hz2, hz3, _⟩ := hzz
  simp only at hz1 hz2 hz3
  have hS := MS.new hz1 hz2 hz3 (by decide) (by decide) (by decide) (by decide)
  dsimp only
  refine SXI.of (fun _ hK => s_mv 10 rfl rfl (SX.done hK)) ?_
  refine SXI.of (fun _ hK => s_ext 12 rfl rfl rfl (SX.done hK)) ?_
  refine SXI.of (fun _ hK => s_ext 13 rfl rfl rfl (SX.done hK)) ?_
  refine SXI.of (fun _ hK => s_as 1 rfl rfl (SX.done hK)) ?_
  refine SXI.of (fun _ hK => s_as 2 rfl rfl (SX.done hK)) ?_
  refine SXI.next ?_
  refine CWI.seq ?_
  refine CWI.seq ?_
  refine CWI.reg [0, 1, 2, 3, 4, 5] rfl (by kernel_rfl) ?_
  refine SXI.of (fun _ hK => s_mv 14 rfl rfl (SX.done hK)) ?_
  refine SXI.of (fun _ hK => s_eqPN 15 rfl rfl (SX.done hK)) ?_
  refine SXI.of (fun _ hK => s_mv 16 rfl rfl (SX.done hK)) ?_
  refine SXI.of (fun _ hK => s_mv 17 rfl rfl (SX.done hK)) ?_
  refine SXI.of (fun _ hK => s_neNN 18 rfl rfl (SX.done hK)) ?_
  refine SXI.of (fun _ hK => s_pickF 19 rfl rfl rfl (SX.done hK)) ?_
  refine SXI.next ?_
  refine CWI.condF rfl ?_
  refine CWI.skip ?_
  refine KNI.code ?_
  refine CWI.seq ?_
  refine CWI.reg [0, 1, 2] rfl (by kernel_rfl) ?_
  refine SXI.of (fun _ hK => s_mv 20 rfl rfl (SX.done hK)) ?_
  refine SXI.of1 (pf := fun _ => True) (fun _ hK => s_bsl 21 rfl rfl (cells := #[.int .u8 (5 : Nat)]) (by kernel_rfl) rfl (fun _ _ => trivial) (fun x => SX.done (hK x trivial))) (fun g1 _ => ?_)
  refine SXI.of1 (fun _ hK => s_callP 22 [1, 0, 0] (M := [modelA m u0]) (R := [blk g1 5 #[.int .u8 (5 : Nat)], blk g0 4 #[.bool false]]) (X := MdG) (v := fun _ => wrV e (u0.wrC 0 ([5]).length)) (pf := fun z => (u0.wrC 0 ([5]).length = 0 → u0.Put z (0 : Int).toNat ([5])) ∧ (u0.wrC 0 ([5]).length ≠ 0 → z = u0)) (M' := fun z => [modelA m z]) rfl rfl rfl rfl rfl (fun F' w' hR hM => writeM_spec F' m u0 0 (some ⟨g1, 0, none⟩) 1 ([5]) e w' hS.ok (fun w2 hf => heN _ (hR w2 hf).fr) (fun w2 hf => heS _ (hR w2 hf).fr) (fun w2 hf => hasCong (((hR w2 hf).has (i := 0) rfl).blk_sl (sz := 1) (m := 1) rfl) rfl) hM) (fun _ _ _ => trivial) (fun x hx => SX.done (hK x hx))) (fun z hz => ?_)
  have hS := hS.put (hz.1 (hS.wr0 (by decide) (by decide))) (by decide) rfl (by decide) (by decide)
  obtain ⟨u1, hu1⟩ : ∃ u1, u1 = z := ⟨_, rfl⟩
  rw [← hu1] at hS ⊢
  refine SXI.next ?_
  refine CWI.seq ?_
  refine CWI.reg [0, 1, 2] rfl (by kernel_rfl) ?_
  refine SXI.of (fun _ hK => s_mv 23 rfl rfl (SX.done hK)) ?_
  refine SXI.of1 (pf := fun _ => True) (fun _ hK => s_bsl 24 rfl rfl (cells := #[.int .u8 (6 : Nat)]) (by kernel_rfl) rfl (fun _ _ => trivial) (fun x => SX.done (hK x trivial))) (fun g2 _ => ?_)
  refine SXI.of1 (fun _ hK => s_callP 25 [1, 0, 0, 0] (M := [modelA m u1]) (R := [blk g2 5 #[.int .u8 (6 : Nat)], blk g1 5 #[.int .u8 (5 : Nat)], blk g0 4 #[.bool false]]) (X := MdG) (v := fun _ => wrV e (u1.wrC 0 ([6]).length)) (pf := fun z => (u1.wrC 0 ([6]).length = 0 → u1.Put z (0 : Int).toNat ([6])) ∧ (u1.wrC 0 ([6]).length ≠ 0 → z = u1)) (M' := fun z => [modelA m z]) rfl rfl rfl rfl rfl (fun F' w' hR hM => writeM_spec F' m u1 0 (some ⟨g2, 0, none⟩) 1 ([6]) e w' hS.ok (fun w2 hf => heN _ (hR w2 hf).fr) (fun w2 hf => heS _ (hR w2 hf).fr) (fun w2 hf => hasCong (((hR w2 hf).has (i := 0) rfl).blk_sl (sz := 1) (m := 1) rfl) rfl) hM) (fun _ _ _ => trivial) (fun x hx => SX.done (hK x hx))) (fun z hz => ?_)
  have hS := hS.put (hz.1 (hS.wr0 (by decide) (by decide))) (by decide) rfl (by decide) (by decide)
  obtain ⟨u, hu⟩ : ∃ u, u = z := ⟨_, rfl⟩
  rw [← hu] at hS ⊢
  refine SXI.next ?_
  refine CWI.seq ?_
  refine CWI.reg [0, 1] rfl (by kernel_rfl) ?_
  refine SXI.of1 (pf := fun _ => True) (fun _ hK => s_alloc 3 rfl (fun _ _ => trivial) (fun x => SX.done (hK x trivial))) (fun g3 _ => ?_)
  refine SXI.of (fun _ hK => s_stB 0 rfl rfl rfl rfl rfl (by show 0 < 1; decide) (fun _ _ => trivial) (SX.done hK)) ?_
  refine SXI.next ?_
  refine CWI.seq ?_
  refine CWI.seq ?_
  refine CWI.reg [0, 1] rfl (by kernel_rfl) ?_
  refine SXI.of (fun _ hK => s_mv 26 rfl rfl (SX.done hK)) ?_
  refine SXI.of1 (fun _ hK => s_call 27 rfl rfl rfl rfl (fun w hw => frontsM_spec m w) (fun _ _ => trivial) (fun x hx => SX.done (hK x hx))) (fun bx _ => ?_)
  refine SXI.next ?_
  refine CWI.block ?_
  refine CWI.pre (fun _ h => St.mdO (h.pick [2, 0, 0, 2] rfl)) ?_
  refine CWI.rangeFuncF (F := Old w) (G := Unit) (GX := Empty) (X := LsG) (fun i _ => [blk g3 3 #[.int .i64 (i : Nat)], blk g0 4 #[.bool false], u.hd m]) (fun _ _ => True) (fun _ z => z.elim) (fun _ _ => False) (fun z => z.elim) () [blk bx 24 #[.pointer (some ⟨m, 0, none⟩)], u.th.out, u.th.star, u.wa.out, u.wa.star] [] (fun r z => [(0, .pointer (some ⟨g0, 0, none⟩)), (3, .pointer (some ⟨g3, 0, none⟩)), (4, .int .i64 (r : Nat)), (5, z.hdr)]) rfl (frontsIt (Old w) bx m u w hS.ok) (fun _ _ w2 _ h => fun j v hj => h.blkCell (i := 2) rfl hj) [6, 6, 0, 4, 0, 0, 0, 0] rfl trivial (fun _ _ => rfl) (by simp) ?_ ?_ ?_ ?_
  · intro lr i x C hi hx
    refine CWI.seq ?_
    refine CWI.reg [0] rfl (by kernel_rfl) ?_
    refine SXI.of (fun _ hK => s_as 4 rfl rfl (SX.done hK)) ?_
    refine SXI.next ?_
    refine CWI.reg [0] rfl (by kernel_rfl) ?_
    refine SXI.of (fun _ hK => s_as 5 rfl rfl (SX.done hK)) ?_
    refine SXI.end_ ?_
    exact ⟨fun a w he hc => ⟨he.sub (SubL.sub ⟨rfl, rfl, rfl, rfl, trivial⟩), hc⟩⟩
  · intro lr T i g x hi hg hx
    obtain ⟨hx1, hx2⟩ := hx
    have hi3 : i < 3 := by have := hS.wl; simp at this; omega
    rw [hS.t, hS.a] at hx1
    replace hx1 : x.abs = exF i := hx1
    obtain ⟨v, hv1, hv6, hvc⟩ := exF_at hi3
    obtain ⟨b, hb1, hb2⟩ := LsG.row_of hx1 hv1
    have hxl : x.l.length = 2 := by rw [← LsG.abs_len, hx1]; unfold exF; rw [frontL_len]; rfl
    have hbm := List.mem_of_getElem? hb1
    have hbl : b.l.length = 1 := by rw [hb2]; rfl
    refine CWI.block ?_
    refine CWI.seq ?_
    refine CWI.seq ?_
    refine CWI.regD (.st true 0 (.st true 1 (.st true 2 (.st true 3 (.st true 4 (.st true 5 (.st true 6 (.st true 7 (.st true 8 (.st true 9 (.st true 10 (.st true 11 (.st true 12 (.st true 13 (.st true 14 (.st true 16 (.st false 15 (.st true 17 (.st false 18 (.st true 19 (.st true 20 .done))))))))))))))))))))) (St (Old w) w [x.out, x.star, blk g3 3 #[.int .i64 (i : Nat)]]) mixed (by kernel_rfl) (fun _ h => h.drew) (fun _ h => by first | exact h.pick [0, 0, 0] rfl | exact h.pick [1, 1, 1] rfl) ?_
    refine SXI.of (fun _ hK => s_mv 30 rfl rfl (SX.done hK)) ?_
    refine SXI.of (fun _ hK => s_ldS 31 rfl rfl (v := .int .i64 (i : Nat)) (fun _ hw => hw.blkCell (i := 2) (j := 0) rfl rfl) (SX.done hK)) ?_
    refine SXI.of (fun _ hK => s_ne 32 rfl rfl rfl (decide_eq_false (fun h => h rfl)) (SX.done hK)) ?_
    refine SXI.of (fun _ hK => s_mv 33 rfl rfl (SX.done hK)) ?_
    refine SXI.of (fun _ hK => s_mv 34 rfl rfl (SX.done hK)) ?_
    refine SXI.of (fun _ hK => s_len 35 rfl rfl (SX.done hK)) ?_
    refine SXI.of (fun _ hK => s_ne 36 rfl rfl rfl (decide_eq_false (by omega)) (SX.done hK)) ?_
    refine SXI.of (fun _ hK => s_pickF 37 rfl rfl rfl (SX.done hK)) ?_
    refine SXI.of (fun _ hK => s_mv 38 rfl rfl (SX.done hK)) ?_
    refine SXI.of (fun _ hK => s_mv 39 rfl rfl (SX.done hK)) ?_
    refine SXI.of (fun _ hK => s_iaV 40 0 (fun w hw => by first | exact (hw.has (A := x.out) (i := 0) rfl).of_own | exact (hw.has (A := x.out) (i := 1) rfl).of_own) rfl rfl rfl rfl (by omega) (SX.done hK)) ?_
    refine SXI.of (fun _ hK => s_ldS 41 rfl rfl (v := .slice b.A b.l.length b.c) (fun _ hw => (hw.has (i := 0) rfl).of_own.rowAt byRow_len hb1 (by omega) 0 _ rfl) (SX.done hK)) ?_
    refine SXI.of (fun _ hK => s_iaV 42 0 (fun w hw => by first | exact ls_dat (hw.has (A := x.star) (i := 1) rfl) hbm | exact ls_dat (hw.has (A := x.star) (i := 2) rfl) hbm) rfl rfl rfl rfl (by omega) (SX.done hK)) ?_
    refine SXI.of (fun _ hK => s_ldVS 43 (fun w hw => ls_dat (hw.has (i := 1) rfl) hbm) rfl rfl (j := 0) (v := .int .u8 (v : Nat)) (by rw [hb2]; rfl) (by omega) (SX.done hK)) ?_
    refine SXI.of (fun _ hK => s_conv 44 rfl rfl (r := (v : Nat)) (w64 (by omega)) (SX.done hK)) ?_
    refine SXI.of (fun _ hK => s_mv 46 rfl rfl (SX.done hK)) ?_
    refine SXI.of1 (pf := fun _ => True) (fun _ hK => s_bsl 45 rfl rfl (cells := #[.int .i64 0, .int .i64 5, .int .i64 6]) (by kernel_rfl) rfl (fun _ h => by first | exact h.pick [0, 0, 0] rfl | exact h.pick [1, 1, 1] rfl) (fun x => SX.done (hK x trivial))) (fun gb _ => ?_)
    refine SXI.of (fun _ hK => s_ia0 47 i rfl rfl rfl rfl (by omega) (SX.done hK)) ?_
    refine SXI.of (fun _ hK => s_ldB 48 0 rfl rfl rfl (v := .int .i64 (v : Nat)) hvc (SX.done hK)) ?_
    refine SXI.of (fun _ hK => s_ne 49 rfl rfl rfl (decide_eq_false (fun h => h rfl)) (SX.done hK)) ?_
    refine SXI.of (fun _ hK => s_pickF 50 rfl rfl rfl (SX.done hK)) ?_
    refine SXI.next ?_
    refine CWI.condF rfl ?_
    refine CWI.skip ?_
    refine KNI.code ?_
    refine CWI.reg [0, 1, 2] rfl (by kernel_rfl) ?_
    refine SXI.of (fun _ hK => s_ldB 51 3 rfl rfl rfl (v := .int .i64 (i : Nat)) rfl (SX.done hK)) ?_
    refine SXI.of (fun _ hK => s_add 52 rfl rfl rfl (r := ((i + 1 : Nat) : Int)) (w64 (by omega)) (SX.done hK)) ?_
    refine SXI.of (fun _ hK => s_stB 3 rfl rfl rfl rfl rfl (by show 0 < 1; decide) (fun _ _ => trivial) (SX.done hK)) ?_
    refine SXI.end_ ?_
    refine KNI.blk ?_
    exact ⟨fun a w he2 hc2 => ⟨(), trivial, hc2.pick [3, 3, 3, 3] rfl⟩⟩
  · intro D g hg
    have hwl : u.wa.l.length + 1 = 3 := by have := hS.wl; simp at this; omega
    rw [hwl]
    refine KNI.blk ?_
    refine KNI.code ?_
    refine CWI.seq ?_
    refine CWI.pre (fun _ h => (St.mdC (x := u) (h.pick [3, 4, 4, 4, 4, 0, 0, 0] rfl))) ?_
    refine CWI.reg [0, 1, 2, 3, 4, 5, 6, 7, 8, 9] rfl (by kernel_rfl) ?_
    refine SXI.of (fun _ hK => s_mv 54 rfl rfl (SX.done hK)) ?_
    refine SXI.of1 (pf := fun _ => True) (fun _ hK => s_bsl 55 rfl rfl (cells := #[.int .u8 (6 : Nat)]) (by kernel_rfl) rfl (fun _ _ => trivial) (fun x => SX.done (hK x trivial))) (fun ga _ => ?_)
    refine SXI.of1 (pf := fun _ => True) (fun _ hK => s_bsl 56 rfl rfl (cells := #[.int .u8 (0 : Nat)]) (by kernel_rfl) rfl (fun _ _ => trivial) (fun x => SX.done (hK x trivial))) (fun gb _ => ?_)
    refine SXI.of1 (pf := fun _ => True) (fun _ hK => s_bsl 57 rfl rfl (cells := #[.slice (some ⟨ga, 0, none⟩) 1 1, .slice (some ⟨gb, 0, none⟩) 1 1]) (by kernel_rfl) rfl (fun _ _ => trivial) (fun x => SX.done (hK x trivial))) (fun gq _ => ?_)
    refine SXI.pre (fun _ h => exQ_own h) ?_
    refine SXI.of1 (fun _ hK => s_callP 58 [2, 0, 0, 0, 0, 0] (M := [modelA m u]) (R := [(exQ gq ga gb 6 0).out, (exQ gq ga gb 6 0).star, defB D, blk g3 3 #[.int .i64 (3 : Nat)], blk g0 4 #[.bool false]]) (X := MdG) (v := fun _ => two (.int .i64 ((settleN u.th.abs u.wa.abs (exQ gq ga gb 6 0).abs).getD 0 : Nat)) (.bool (settleN u.th.abs u.wa.abs (exQ gq ga gb 6 0).abs).isSome)) (pf := fun z => (∀ n, settleN u.th.abs u.wa.abs (exQ gq ga gb 6 0).abs = some n → u.Is z (exQ gq ga gb 6 0).abs) ∧ (settleN u.th.abs u.wa.abs (exQ gq ga gb 6 0).abs = none → z = u)) (M' := fun z => [modelA m z]) rfl rfl rfl rfl rfl (fun F' w' hR hM => settleM_spec F' m u (exQ gq ga gb 6 0) w' hS.ok (exQ_b (by decide) (by decide)) (fun w2 hf => ls_has ((hR w2 hf).has (i := 0) rfl) ((hR w2 hf).has (i := 1) rfl)) hM) (fun _ _ _ => trivial) (fun x hx => SX.done (hK x hx))) (fun z hz => ?_)
    have hsn : settleN u.th.abs u.wa.abs (exQ gq ga gb 6 0).abs = some 2 := by rw [hS.t, hS.a, exQ_abs]; decide
    rw [hsn] at hz ⊢
    have hS := hS.is (by rw [← hS.t, ← hS.a]; exact hsn) (hz.1 2 rfl)
    obtain ⟨u3, hu3⟩ : ∃ u3, u3 = z := ⟨_, rfl⟩
    rw [← hu3] at hS ⊢
    refine SXI.of (fun _ hK => s_mv 53 rfl rfl (SX.done hK)) ?_
    refine SXI.of (fun _ hK => s_ext 59 rfl rfl rfl (SX.done hK)) ?_
    refine SXI.of (fun _ hK => s_ext 60 rfl rfl rfl (SX.done hK)) ?_
    refine SXI.of (fun _ hK => s_as 6 rfl rfl (SX.done hK)) ?_
    refine SXI.of (fun _ hK => s_as 7 rfl rfl (SX.done hK)) ?_
    refine SXI.next ?_
    refine CWI.seq ?_
    refine CWI.reg [0, 1, 2, 3, 4, 5, 6, 7, 8, 9] rfl (by kernel_rfl) ?_
    refine SXI.of (fun _ hK => s_mv 62 rfl rfl (SX.done hK)) ?_
    refine SXI.of1 (pf := fun _ => True) (fun _ hK => s_bsl 63 rfl rfl (cells := #[.int .u8 (9 : Nat)]) (by kernel_rfl) rfl (fun _ _ => trivial) (fun x => SX.done (hK x trivial))) (fun gc _ => ?_)
    refine SXI.of1 (pf := fun _ => True) (fun _ hK => s_bsl 64 rfl rfl (cells := #[.int .u8 (9 : Nat)]) (by kernel_rfl) rfl (fun _ _ => trivial) (fun x => SX.done (hK x trivial))) (fun gd _ => ?_)
    refine SXI.of1 (pf := fun _ => True) (fun _ hK => s_bsl 65 rfl rfl (cells := #[.slice (some ⟨gc, 0, none⟩) 1 1, .slice (some ⟨gd, 0, none⟩) 1 1]) (by kernel_rfl) rfl (fun _ _ => trivial) (fun x => SX.done (hK x trivial))) (fun gr _ => ?_)
    refine SXI.pre (fun _ h => exQ_own h) ?_
    refine SXI.of1 (fun _ hK => s_callP 66 [2, 0, 0, 0, 0, 0, 0, 0] (M := [modelA m u3]) (R := [(exQ gr gc gd 9 9).out, (exQ gr gc gd 9 9).star, (exQ gq ga gb 6 0).out, (exQ gq ga gb 6 0).star, defB D, blk g3 3 #[.int .i64 (3 : Nat)], blk g0 4 #[.bool false]]) (X := MdG) (v := fun _ => two (.int .i64 ((settleN u3.th.abs u3.wa.abs (exQ gr gc gd 9 9).abs).getD 0 : Nat)) (.bool (settleN u3.th.abs u3.wa.abs (exQ gr gc gd 9 9).abs).isSome)) (pf := fun z => (∀ n, settleN u3.th.abs u3.wa.abs (exQ gr gc gd 9 9).abs = some n → u3.Is z (exQ gr gc gd 9 9).abs) ∧ (settleN u3.th.abs u3.wa.abs (exQ gr gc gd 9 9).abs = none → z = u3)) (M' := fun z => [modelA m z]) rfl rfl rfl rfl rfl (fun F' w' hR hM => settleM_spec F' m u3 (exQ gr gc gd 9 9) w' hS.ok (exQ_b (by decide) (by decide)) (fun w2 hf => ls_has ((hR w2 hf).has (i := 0) rfl) ((hR w2 hf).has (i := 1) rfl)) hM) (fun _ _ _ => trivial) (fun x hx => SX.done (hK x hx))) (fun z hz => ?_)
    have hsn2 : settleN u3.th.abs u3.wa.abs (exQ gr gc gd 9 9).abs = none := by rw [hS.t, hS.a, exQ_abs, exQ_abs]; decide
    rw [hsn2] at hz ⊢
    obtain rfl := hz.2 rfl
    refine SXI.of (fun _ hK => s_mv 61 rfl rfl (SX.done hK)) ?_
    refine SXI.of (fun _ hK => s_ext 67 rfl rfl rfl (SX.done hK)) ?_
    refine SXI.of (fun _ hK => s_ext 68 rfl rfl rfl (SX.done hK)) ?_
    refine SXI.of (fun _ hK => s_as 8 rfl rfl (SX.done hK)) ?_
    refine SXI.of (fun _ hK => s_as 9 rfl rfl (SX.done hK)) ?_
    refine SXI.next ?_
    refine CWI.seq ?_
    refine CWI.reg [0, 1, 2, 3, 4, 5, 6, 7, 8, 9, 10, 11, 12, 13, 14, 15, 16, 17, 18] rfl (by kernel_rfl) ?_
    refine SXI.of (fun _ hK => s_ldB 69 6 rfl rfl rfl (v := .int .i64 (3 : Nat)) rfl (SX.done hK)) ?_
    refine SXI.of (fun _ hK => s_eq 70 rfl rfl rfl (decide_eq_true rfl) (SX.done hK)) ?_
    refine SXI.of (fun _ hK => s_mv 71 rfl rfl (SX.done hK)) ?_
    refine SXI.of (fun _ hK => s_mv 72 rfl rfl (SX.done hK)) ?_
    refine SXI.of (fun _ hK => s_eq 73 rfl rfl rfl (decide_eq_true rfl) (SX.done hK)) ?_
    refine SXI.of (fun _ hK => s_pickT 74 rfl rfl rfl (SX.done hK)) ?_
    refine SXI.of (fun _ hK => s_mv 75 rfl rfl (SX.done hK)) ?_
    refine SXI.of (fun _ hK => s_mv 76 rfl rfl (SX.done hK)) ?_
    refine SXI.of (fun _ hK => s_pickT 77 rfl rfl rfl (SX.done hK)) ?_
    refine SXI.of (fun _ hK => s_mv 78 rfl rfl (SX.done hK)) ?_
    refine SXI.of (fun _ hK => s_mv 79 rfl rfl (SX.done hK)) ?_
    refine SXI.of (fun _ hK => s_not 80 rfl rfl (SX.done hK)) ?_
    refine SXI.of (fun _ hK => s_pickT 81 rfl rfl rfl (SX.done hK)) ?_
    refine SXI.of (fun _ hK => s_mv 82 rfl rfl (SX.done hK)) ?_
    refine SXI.of (fun _ hK => s_mv 83 rfl rfl (SX.done hK)) ?_
    refine SXI.of (fun _ hK => s_call1 84 rfl rfl rfl rfl (fun w hw => waitingM_spec m z w (mdH_of (hw.has (i := 0) rfl))) (fun _ _ => trivial) (SX.done hK)) ?_
    refine SXI.of (fun _ hK => s_eq 85 rfl rfl rfl (decide_eq_true (by rw [hS.wl]; rfl)) (SX.done hK)) ?_
    refine SXI.of (fun _ hK => s_pickT 86 rfl rfl rfl (SX.done hK)) ?_
    refine SXI.of (fun _ hK => s_stB 7 rfl rfl rfl rfl rfl (by show 0 < 1; decide) (fun _ _ => trivial) (SX.done hK)) ?_
    refine SXI.next ?_
    refine CWI.ret ?_
    exact retMC (rs := [.cell 0 4]) (L := [blk g0 4 #[.bool true]]) [D] rfl Tryd.results5 (fun _ h => h.pick [5, 6] rfl) (fun w hw => ⟨[_], ⟨⟨_, rfl, run_loadVar1 (hw.blkCell (i := 0) (j := 0) rfl rfl)⟩, trivial⟩, rfl, hw.nothing⟩)
  · intro D i g hi hg
    exact hg.elim
end Go.Proofs.YtaamaifnmppbgaaDoor
end
section
/- What a slice of bytes that comes in gives a walk. No condition. -/
namespace Go.Sx
open Go Go.ChangeShapes Go.WideShapes
end Go.Sx
end
section
/- What slices of entries, and of things that a buffer or a model is told, give a walk. No condition. -/
namespace Go.Sx
open Go Go.ChangeShapes Go.WideShapes Go.Proofs.YtaamaifnmppbgaaDoor Go.Deep
section
variable {H : Type} {enc : TypeId × Value → H} {P : Program} {W : World} {base b0 : Nat} {spare : Nat → Bool} {held : Bool}
/-- The rows of a slice's elements, each with its own reading. -/
theorem open_slS {t e : TypeId} {s : Nat} {v : Value} {d : DataW H} {ps : List MemPlace} (ht : P.underlying t = some (.slice e)) (hc : P.cellsOf e = s) (hs : 0 < s) (hval : Value.okWide P W .any b0 t v) (hd : DataW.Trod enc P W base spare held t v d ps) :
    ∃ (A : Option Addr) (n c : Nat) (rows : List (List Value)), v = .slice A n c ∧ n ≤ c ∧ (c : Int) ≤ 9223372036854775807 ∧ rows.length = n ∧ (∀ r ∈ rows, r.length = s ∧ ∃ m y, DataW.trod enc P W base spare held m e r = some y) ∧ Has (sl s A n rows.flatten) W := by
  obtain ⟨A, n, c, rfl⟩ := okWide_slice ht hval
  obtain ⟨fuel, hf⟩ := hd
  rcases DataW.trod_slice ht hf with ⟨hcs, _⟩ | ⟨a, len, cap, elems, rest, m, _, hcs, _, hb, hl, hm, hlen, hel, _, _⟩
  · have hcs2 : [Value.slice A n c] = [.slice none 0 0] := hcs
    simp only [List.cons.injEq, Value.slice.injEq, and_true] at hcs2
    obtain ⟨rfl, rfl, rfl⟩ := hcs2
    exact ⟨none, 0, 0, [], rfl, Nat.le_refl _, by omega, rfl, (fun r hr => absurd hr (List.not_mem_nil)), Has.sl_nil W s none⟩
  · have hcs2 : [Value.slice A n c] = [.slice (some a) len cap] := hcs
    simp only [List.cons.injEq, Value.slice.injEq, and_true] at hcs2
    obtain ⟨rfl, rfl, rfl⟩ := hcs2
    subst hc
    have key : ∀ i, i < n → ∃ r, W.cells? base (a.add (i * P.cellsOf e)) (P.cellsOf e) = some r ∧ ∃ y, DataW.trod enc P W base spare held m e r = some y := fun i hi => by
      have h1 := hel i hi
      rw [List.getElem?_eq_getElem (by omega), Option.bind_eq_some_iff] at h1
      obtain ⟨r, h2, h3⟩ := h1
      exact ⟨r, h2, _, h3⟩
    have hrows : ∀ k, k ≤ n → ∃ rows : List (List Value), rows.length = k ∧ (∀ r ∈ rows, r.length = P.cellsOf e ∧ ∃ m y, DataW.trod enc P W base spare held m e r = some y) ∧ ∀ i, i < k → W.cells? base (a.add (i * P.cellsOf e)) (P.cellsOf e) = rows[i]? := by
      intro k
      induction k with
      | zero => exact fun _ => ⟨[], rfl, (fun r hr => absurd hr (List.not_mem_nil)), fun i hi => by omega⟩
      | succ k ih =>
        intro hk
        obtain ⟨rows, k1, k2, k3⟩ := ih (by omega)
        obtain ⟨r, h1, h2⟩ := key k (by omega)
        refine ⟨rows ++ [r], by simp [k1], fun r2 hr2 => ?_, fun i hi => ?_⟩
        · rcases List.mem_append.1 hr2 with h | h
          · exact k2 r2 h
          · obtain rfl : r2 = r := by simpa using h
            exact ⟨(World.cells?_some h1).2.1, m, h2⟩
        · by_cases hik : i < k
          · rw [k3 i hik, List.getElem?_append_left (by omega)]
          · obtain rfl : i = k := by omega
            rw [h1, List.getElem?_append_right (by omega), k1, Nat.sub_self]
            rfl
    obtain ⟨rows, k1, k2, k3⟩ := hrows n (Nat.le_refl _)
    refine ⟨some a, n, c, rows, rfl, hl, by unfold maxLen at hm; omega, k1, k2, ?_⟩
    by_cases hn : n = 0
    · subst hn
      obtain rfl := List.eq_nil_of_length_eq_zero k1
      exact Has.sl_nil W _ (some a)
    · have hcell : ∀ i, i < n → ∀ j, j < P.cellsOf e → W.cell? (a.add (i * P.cellsOf e + j)) = rows.flatten[i * P.cellsOf e + j]? := by
        intro i hi j hj
        have h1 : ∃ r, rows[i]? = some r := ⟨_, List.getElem?_eq_getElem (by omega)⟩
        obtain ⟨r, hr⟩ := h1
        have h2 := (World.cells?_some ((k3 i hi).trans hr)).2.2 j hj
        have e1 : (a.add (i * P.cellsOf e)).add j = a.add (i * P.cellsOf e + j) := by
          unfold Addr.add
          by_cases z1 : i * P.cellsOf e = 0
          · rw [if_pos z1, z1, Nat.zero_add]
          · by_cases z2 : j = 0
            · subst z2; simp
            · rw [if_neg z1, if_neg z2, if_neg (by omega)]
              simp [Nat.add_assoc]
        rw [e1] at h2
        rw [h2]
        clear h2 e1 hel key hrows k3
        have hl2 : ∀ (rows : List (List Value)) (i : Nat), (∀ r ∈ rows, r.length = P.cellsOf e) → rows[i]? = some r → rows.flatten[i * P.cellsOf e + j]? = r[j]? := by
          intro rows
          induction rows with
          | nil => intro i _ h; simp at h
          | cons r0 rows ih =>
            intro i hrl h
            have hr0 := hrl r0 (by simp)
            cases i with
            | zero =>
              obtain rfl : r0 = r := by simpa using h
              rw [List.flatten_cons, List.getElem?_append_left (by omega)]
              congr 1
              omega
            | succ i =>
              rw [List.flatten_cons, List.getElem?_append_right (by rw [hr0, Nat.succ_mul]; omega), hr0, ← ih i (fun r hr => hrl r (by simp [hr])) (by simpa using h)]
              congr 1
              rw [Nat.succ_mul]
              omega
        exact (hl2 rows i (fun r hr => (k2 r hr).1) hr).symm
      have hfl : rows.flatten.length = n * P.cellsOf e := by
        have : ∀ rows : List (List Value), (∀ r ∈ rows, r.length = P.cellsOf e) → rows.flatten.length = rows.length * P.cellsOf e := by
          intro rows
          induction rows with
          | nil => intro _; simp
          | cons r0 rows ih =>
            intro hrl
            rw [List.flatten_cons, List.length_append, ih (fun r hr => hrl r (by simp [hr])), hrl r0 (by simp), List.length_cons, Nat.succ_mul]
            omega
        rw [this rows (fun r hr => (k2 r hr).1), k1]
      have hall : ∀ q, q < n * P.cellsOf e → W.cell? (a.add q) = rows.flatten[q]? := fun q hq => by
        have hq1 : q / P.cellsOf e < n := (Nat.div_lt_iff_lt_mul hs).2 hq
        have := hcell _ hq1 (q % P.cellsOf e) (Nat.mod_lt _ hs)
        rwa [Nat.div_add_mod'] at this
      have hpos : 0 < n * P.cellsOf e := Nat.mul_pos (by omega) hs
      have h0 := hall 0 hpos
      rw [List.getElem?_eq_getElem (by omega)] at h0
      have ha : a = ⟨a.block, a.off, none⟩ := by
        cases a with
        | mk b o sp =>
          cases sp with
          | none => rfl
          | some x => simp [Addr.add, World.cell?] at h0; split at h0 <;> simp_all
      refine ⟨fun b => b = a.block, ⟨hfl, fun _ => ⟨by simp only [ob, oo]; rw [← ha], rfl, fun j v hj => ?_⟩⟩, fun b hb => ?_⟩
      · have hjn := (List.getElem?_eq_some_iff.1 hj).1
        have h1 := hall j (by omega)
        rw [ha, add_at, hj] at h1
        exact h1
      · subst hb
        have := World.block_lt_of_cell? W _ h0
        rwa [block_add] at this
/-- A slice of bytes inside of a value. -/
theorem open_rowB {t e : TypeId} (ht : P.underlying t = some (.slice e)) (he : P.underlying e = some (.int .u8)) (hc : P.cellsOf e = 1) {fuel : Nat} {v : Value} {x : DataW H × List MemPlace} (hf : DataW.trod enc P W base spare held fuel t [v] = some x) :
    ∃ A n c p, v = .slice A n c ∧ n ≤ c ∧ (c : Int) ≤ 9223372036854775807 ∧ p.length = n ∧ Has (sl 1 A n (nats .u8 p)) W ∧ ∀ x ∈ p, x < 256 := by
  rcases open_ints ht he hc hf with ⟨hcs2, _⟩ | ⟨a, n, c, zs, hcs2, _, hl, hm, hz, _, hcell, hw⟩
  · simp only [List.cons.injEq, and_true] at hcs2
    subst hcs2
    exact ⟨none, 0, 0, [], rfl, Nat.le_refl _, by omega, rfl, Has.sl_nil W 1 none, fun z hz => by simp at hz⟩
  · simp only [List.cons.injEq, and_true] at hcs2
    subst hcs2
    have hlz : n ≤ zs.length := by rw [hz]; split <;> omega
    have hlen : (zs.take n).length = n := by rw [List.length_take]; exact Nat.min_eq_left hlz
    have hb : ∀ z ∈ zs.take n, 0 ≤ z ∧ z < 256 := fun z hz => by
      have := hw z (List.mem_of_mem_take hz)
      simp only [Lit.wf, Bool.and_eq_true, decide_eq_true_eq] at this
      have e1 : IntKind.u8.min = 0 := by decide
      have e2 : IntKind.u8.max = 255 := by decide
      omega
    refine ⟨some a, n, c, (zs.take n).map Int.toNat, rfl, hl, by unfold maxLen at hm; omega, by rw [List.length_map]; exact hlen, ?_, fun x hx => ?_⟩
    · have e2 : nats .u8 ((zs.take n).map Int.toNat) = ints .u8 (zs.take n) := by
        unfold nats ints
        rw [List.map_map]
        exact List.map_congr_left (fun z hz => by
          show Value.int .u8 ((z.toNat : Nat) : Int) = Value.int .u8 z
          rw [Int.toNat_of_nonneg (hb z hz).1])
      rw [e2]
      by_cases hn : n = 0
      · subst hn
        exact Has.sl_nil W 1 (some a)
      · have h0 := hcell 0 (by omega)
        have ha : a = ⟨a.block, a.off, none⟩ := by
          cases a with
          | mk b o sp =>
            cases sp with
            | none => rfl
            | some x => simp [Addr.add, World.cell?] at h0; split at h0 <;> simp_all
        refine ⟨fun b => b = a.block, ⟨by simp only [ints, List.length_map, hlen, Nat.mul_one], fun _ => ⟨by simp only [ob, oo]; rw [← ha], rfl, fun j v hj => ?_⟩⟩, fun b hb => ?_⟩
        · have hjn : j < n := by
            have := (List.getElem?_eq_some_iff.1 hj).1
            simp only [ints, List.length_map, hlen] at this
            exact this
          rw [intsAt (by omega)] at hj
          have hc2 := hcell j (by omega)
          rw [ha, add_at] at hc2
          simp only [ob, oo]
          rw [hc2, ← hj]
          simp [hjn]
        · subst hb
          have hc2 := hcell 0 (by omega)
          have := World.block_lt_of_cell? W _ hc2
          rwa [block_add] at this
    · obtain ⟨z, hz, rfl⟩ := List.mem_map.1 hx
      have := hb z hz
      omega
/-- What an entry that comes in is. -/
def EntIn (W : World) (en : EntG) : Prop := Has (sl 1 en.A en.l.length (nats .u8 en.l)) W ∧ (∀ x ∈ en.l, x < 256) ∧ (-9223372036854775808 ≤ en.k ∧ en.k ≤ 9223372036854775807) ∧ en.l.length ≤ en.c ∧ (en.c : Int) ≤ 9223372036854775807
theorem open_rowE {t e : TypeId} {f0 f1 f2 : Field} (ht : P.underlying t = some (.struct #[f0, f1, f2])) (hi : P.underlying f0.type = some (.int .i64)) (hb : P.underlying f1.type = some .bool) (hs : P.underlying f2.type = some (.slice e)) (he : P.underlying e = some (.int .u8))
    (hct : P.cellsOf t = 3) (hci : P.cellsOf f0.type = 1) (hcb : P.cellsOf f1.type = 1) (hcs : P.cellsOf f2.type = 1) (hce : P.cellsOf e = 1) (h0 : f0.offset = 0) (h1 : f1.offset = 1) (h2 : f2.offset = 2) {fuel : Nat} {r : List Value} {x : DataW H × List MemPlace} (hf : DataW.trod enc P W base spare held fuel t r = some x) :
    ∃ en : EntG, r = en.row ∧ EntIn W en := by
  obtain ⟨y0, y1, y2, m, _, hl, k0, k1, k2⟩ := trod_struct3 ht hf
  rw [hct] at hl
  match r, hl with
  | [v0, v1, v2], _ =>
    simp only [hci, hcb, hcs, h0, h1, h2, List.drop, List.take] at k0 k1 k2
    obtain ⟨z, hz, _, hw⟩ := DataW.trod_int hi k0
    obtain ⟨b, hb2, _⟩ := DataW.trod_bool hb k1
    obtain ⟨A, n, c, p, rfl, g1, g2, g3, g4, g5⟩ := open_rowB hs he hce k2
    simp only [List.cons.injEq, and_true] at hz hb2
    subst hz hb2 g3
    refine ⟨⟨z, b, A, c, p⟩, rfl, g4, g5, ?_, g1, g2⟩
    simp only [Lit.wf, Bool.and_eq_true, decide_eq_true_eq] at hw
    have e1 : IntKind.i64.min = -9223372036854775808 := by decide
    have e2 : IntKind.i64.max = 9223372036854775807 := by decide
    simp only
    omega
theorem rows_do {Q : List Value → Prop} {R : DoG → Prop} (hQ : ∀ r, Q r → ∃ d : DoG, r = d.row ∧ R d) : ∀ rows : List (List Value), (∀ r ∈ rows, Q r) → ∃ ds : List DoG, ds.length = rows.length ∧ rows.flatten = rowsD ds ∧ ∀ d ∈ ds, R d
  | [], _ => ⟨[], rfl, rfl, fun e he => by cases he⟩
  | r :: rows, h => by
    obtain ⟨ds, h1, h2, h3⟩ := rows_do hQ rows (fun r hr => h r (by simp [hr]))
    obtain ⟨d, rfl, h4⟩ := hQ r (h r (by simp))
    refine ⟨d :: ds, by simp [h1], by rw [List.flatten_cons, h2]; rfl, fun e he => ?_⟩
    rcases List.mem_cons.1 he with rfl | he
    · exact h4
    · exact h3 e he
theorem open_slD {t td e : TypeId} {g0 g1 f0 f1 f2 : Field} {v : Value} {d : DataW H} {ps : List MemPlace} (ht : P.underlying t = some (.slice td)) (htd : P.underlying td = some (.struct #[g0, g1])) (hte : P.underlying g0.type = some (.struct #[f0, f1, f2])) (hcl : P.underlying g1.type = some .bool) (hi : P.underlying f0.type = some (.int .i64)) (hb : P.underlying f1.type = some .bool) (hs : P.underlying f2.type = some (.slice e)) (he : P.underlying e = some (.int .u8))
    (hctd : P.cellsOf td = 4) (hct : P.cellsOf g0.type = 3) (hccl : P.cellsOf g1.type = 1) (hci : P.cellsOf f0.type = 1) (hcb : P.cellsOf f1.type = 1) (hcs : P.cellsOf f2.type = 1) (hce : P.cellsOf e = 1) (m0 : g0.offset = 0) (m1 : g1.offset = 3) (h0 : f0.offset = 0) (h1 : f1.offset = 1) (h2 : f2.offset = 2) (hval : Value.okWide P W .any b0 t v) (hd : DataW.Trod enc P W base spare held t v d ps) :
    ∃ A n c ds, v = .slice A n c ∧ n ≤ c ∧ (c : Int) ≤ 9223372036854775807 ∧ ds.length = n ∧ Has (sl 4 A n (rowsD ds)) W ∧ ∀ d ∈ ds, EntIn W d.e := by
  obtain ⟨A, n, c, rows, rfl, k1, k2, k3, k4, k5⟩ := open_slS ht hctd (by omega) hval hd
  obtain ⟨ds, j1, j2, j3⟩ := rows_do (Q := fun r => r.length = 4 ∧ ∃ m y, DataW.trod enc P W base spare held m td r = some y) (R := fun d => EntIn W d.e) (fun r ⟨hl, m, y, hr⟩ => by
    obtain ⟨y0, y1, m2, _, _, q0, q1⟩ := trod_struct2 htd hr
    match r, hl with
    | [v0, v1, v2, v3], _ =>
      simp only [hct, hccl, m0, m1, List.drop, List.take] at q0 q1
      obtain ⟨en, hrow, hen⟩ := open_rowE hte hi hb hs he hct hci hcb hcs hce h0 h1 h2 q0
      obtain ⟨b, hb2, _⟩ := DataW.trod_bool hcl q1
      simp only [List.cons.injEq, and_true] at hb2
      subst hb2
      refine ⟨⟨en, b⟩, ?_, hen⟩
      show _ = en.row ++ [.bool b]
      rw [← hrow]
      rfl) rows k4
  exact ⟨A, n, c, ds, rfl, k1, k2, j1.trans k3, j2 ▸ k5, j3⟩
end
end Go.Sx
end
section
/- Bits of numbers of 64 and 8 bits, said of natural numbers. No condition. -/
namespace Go.Sx
open Go

end Go.Sx
end
section
/- The statement ModelForgets, walked. Conditions: the errors' variables; the entries are read where they lie. -/
namespace Go.Proofs.YtaamaifnmppbgaaDoor
open Go Go.Sx
set_option maxRecDepth 100000
theorem tmodm_lt {k : Int} (hk : 0 < k) (m : Int) : -k < m.tmod k ∧ m.tmod k < k := by
  have h1 := Int.emod_nonneg m (b := k) (by omega)
  have h2 := Int.emod_lt_of_pos m hk
  rw [Int.tmod_eq_emod]
  split <;> omega
theorem at_norm (n : Nat) (a : Int) : ∃ k : Nat, k ≤ n ∧ (a.tmod ((n + 1 : Nat) : Int) + (n : Nat) + 1).tmod ((n + 1 : Nat) : Int) = (k : Nat) := by
  have h1 := tmodm_lt (k := ((n + 1 : Nat) : Int)) (by omega) a
  have h2 : 0 ≤ a.tmod ((n + 1 : Nat) : Int) + (n : Nat) + 1 := by omega
  have h3 := Int.emod_nonneg (a.tmod ((n + 1 : Nat) : Int) + (n : Nat) + 1) (b := ((n + 1 : Nat) : Int)) (by omega)
  have h4 := Int.emod_lt_of_pos (a.tmod ((n + 1 : Nat) : Int) + (n : Nat) + 1) (b := ((n + 1 : Nat) : Int)) (by omega)
  refine ⟨((a.tmod ((n + 1 : Nat) : Int) + (n : Nat) + 1).tmod ((n + 1 : Nat) : Int)).toNat, ?_, ?_⟩ <;> rw [Int.tmod_eq_emod_of_nonneg h2] <;> omega
theorem er_fr {e : Nat → Addr} {w w2 : World} {k : Nat} (hf : Fr (Old w) w w2) (h : Er e w k) : Er e w2 k :=
  (St.mk hf (fun _ hk => hk) trivial : Sto w [] w2).er h
def gEm (es : List EntG) (i : Nat) : EntG := es.getD i ⟨0, false, none, 0, []⟩
def keyF (e : EntG) : Nat := (e.k % 8).toNat
def fwE (j : Nat) (e : EntG) : Wt := (keyF e, if e.tr then [0] else [j + 1])
def fwL (es : List EntG) (i : Nat) : List Wt := (List.range i).map (fun j => fwE j (gEm es j))
def T8 : List (List Nat) := List.replicate 8 (List.replicate 1 0)
end Go.Proofs.YtaamaifnmppbgaaDoor
end
section
/- The statement ModelPlays, walked. Conditions: the errors' variables; what is told is read where it lies. -/
namespace Go.Proofs.YtaamaifnmppbgaaDoor
open Go Go.Sx
set_option maxRecDepth 100000

theorem plays_long (a0 a1 : Int) (A : Option Addr) (c : Nat) (ds : List DoG) (a3 a4 a5 : Int) (e : Nat → Addr) (w : World) (heN : ∀ w', Fr (Old w) w w' → Er e w' 1) (heS : ∀ w', Fr (Old w) w w' → Er e w' 2) (hn : 60 < ds.length) : Spec1 Tryd.prog 3 [.int .i64 a0, .int .i64 a1, .slice A ds.length c, .int .i64 a3, .int .i64 a4, .int .i64 a5] w (.bool true) := by
  refine calls_ofI Tryd.func3 rfl Tryd.ntmps3 rfl (C := Sto w []) (St.start w) ?_
  refine CWI.seq ?_
  refine CWI.reg [0, 1] rfl (by kernel_rfl) ?_
  refine SXI.of1 (pf := fun _ => True) (fun _ hK => s_box 11 rfl rfl (fun _ _ => trivial) (fun x => SX.done (hK x trivial))) (fun b11 _ => ?_)
  refine SXI.of1 (pf := fun _ => True) (fun _ hK => s_alloc 12 rfl (fun _ _ => trivial) (fun x => SX.done (hK x trivial))) (fun b12 _ => ?_)
  refine SXI.next ?_
  refine CWI.seq ?_
  refine CWI.reg [0, 1] rfl (by kernel_rfl) ?_
  refine SXI.of (fun _ hK => s_call1 37 rfl rfl rfl rfl (fun w hw => first_spec e w (fun w2 hf => heN _ (hw.fr.trans (hf.mono (fun k hk => Nat.lt_of_lt_of_le hk hw.fr.size)))) (fun w2 hf => heS _ (hw.fr.trans (hf.mono (fun k hk => Nat.lt_of_lt_of_le hk hw.fr.size))))) (fun _ _ => trivial) (SX.done hK)) ?_
  refine SXI.of (fun _ hK => s_as 13 rfl rfl (SX.done hK)) ?_
  refine SXI.next ?_
  refine CWI.seq ?_
  refine CWI.seq ?_
  refine CWI.reg [0, 1, 2, 3, 4, 5, 6] rfl (by kernel_rfl) ?_
  refine SXI.of (fun _ hK => s_mv 38 rfl rfl (SX.done hK)) ?_
  refine SXI.of (fun _ hK => s_len 39 rfl rfl (SX.done hK)) ?_
  refine SXI.of (fun _ hK => s_gt 40 rfl rfl rfl (decide_eq_true (by omega)) (SX.done hK)) ?_
  refine SXI.of (fun _ hK => s_mv 41 rfl rfl (SX.done hK)) ?_
  refine SXI.of (fun _ hK => SX.skip rfl (SX.done hK)) ?_
  refine SXI.of (fun _ hK => SX.skip rfl (SX.done hK)) ?_
  refine SXI.of (fun _ hK => s_pickT 44 rfl rfl rfl (SX.done hK)) ?_
  refine SXI.next ?_
  refine CWI.condT rfl ?_
  refine CWI.seq ?_
  refine CWI.reg [0, 1] rfl (by kernel_rfl) ?_
  refine SXI.of (fun _ hK => s_mv 45 rfl rfl (SX.done hK)) ?_
  refine SXI.of (fun _ hK => s_stB 0 rfl rfl rfl rfl rfl (by show 0 < 1; decide) (fun _ _ => trivial) (SX.done hK)) ?_
  refine SXI.next ?_
  refine CWI.ret ?_
  exact retMC (rs := [.cell 12 4]) (L := [blk b12 4 #[.bool true]]) [] rfl Tryd.results3 (fun _ h => h.pick [0] rfl) (fun w hw => ⟨[_], ⟨⟨_, rfl, run_loadVar1 (hw.blkCell (i := 0) (j := 0) rfl rfl)⟩, trivial⟩, rfl, hw.nothing⟩)

theorem plays_bad (a0 a1 : Int) (A : Option Addr) (c : Nat) (ds : List DoG) (a3 a4 a5 : Int) (e : Nat → Addr) (w : World) (heN : ∀ w', Fr (Old w) w w' → Er e w' 1) (heS : ∀ w', Fr (Old w) w w' → Er e w' 2) (heG : Er e w 0) (hn : ds.length ≤ 60) (hbad : ¬ (1 ≤ a0 ∧ a0 ≤ 1048576 ∧ 1 ≤ a1 ∧ a1 ≤ 1024)) : Spec1 Tryd.prog 3 [.int .i64 a0, .int .i64 a1, .slice A ds.length c, .int .i64 a3, .int .i64 a4, .int .i64 a5] w (.bool true) := by
  refine calls_ofI Tryd.func3 rfl Tryd.ntmps3 rfl (C := Sto w []) (St.start w) ?_
  refine CWI.seq ?_
  refine CWI.reg [0, 1] rfl (by kernel_rfl) ?_
  refine SXI.of1 (pf := fun _ => True) (fun _ hK => s_box 11 rfl rfl (fun _ _ => trivial) (fun x => SX.done (hK x trivial))) (fun b11 _ => ?_)
  refine SXI.of1 (pf := fun _ => True) (fun _ hK => s_alloc 12 rfl (fun _ _ => trivial) (fun x => SX.done (hK x trivial))) (fun b12 _ => ?_)
  refine SXI.next ?_
  refine CWI.seq ?_
  refine CWI.reg [0, 1] rfl (by kernel_rfl) ?_
  refine SXI.of (fun _ hK => s_call1 37 rfl rfl rfl rfl (fun w hw => first_spec e w (fun w2 hf => heN _ (hw.fr.trans (hf.mono (fun k hk => Nat.lt_of_lt_of_le hk hw.fr.size)))) (fun w2 hf => heS _ (hw.fr.trans (hf.mono (fun k hk => Nat.lt_of_lt_of_le hk hw.fr.size))))) (fun _ _ => trivial) (SX.done hK)) ?_
  refine SXI.of (fun _ hK => s_as 13 rfl rfl (SX.done hK)) ?_
  refine SXI.next ?_
  refine CWI.seq ?_
  refine CWI.seq ?_
  refine CWI.reg [0, 1, 2, 3, 4, 5, 6] rfl (by kernel_rfl) ?_
  refine SXI.of (fun _ hK => s_mv 38 rfl rfl (SX.done hK)) ?_
  refine SXI.of (fun _ hK => s_len 39 rfl rfl (SX.done hK)) ?_
  refine SXI.of (fun _ hK => s_gt 40 rfl rfl rfl (decide_eq_false (by omega)) (SX.done hK)) ?_
  refine SXI.of (fun _ hK => s_mv 41 rfl rfl (SX.done hK)) ?_
  refine SXI.of (fun _ hK => s_mv 42 rfl rfl (SX.done hK)) ?_
  refine SXI.of (fun _ hK => s_not 43 rfl rfl (SX.done hK)) ?_
  refine SXI.of (fun _ hK => s_pickF 44 rfl rfl rfl (SX.done hK)) ?_
  refine SXI.next ?_
  refine CWI.condF rfl ?_
  refine CWI.skip ?_
  refine KNI.code ?_
  refine CWI.seq ?_
  refine CWI.reg [0, 1, 2, 3, 4, 5, 6, 7, 8, 9, 10, 11, 12, 13, 14] rfl (by kernel_rfl) ?_
  refine SXI.of (fun _ hK => s_mv 46 rfl rfl (SX.done hK)) ?_
  refine SXI.of (fun _ hK => s_ge 47 rfl rfl rfl rfl (SX.done hK)) ?_
  refine SXI.of (fun _ hK => s_mv 48 rfl rfl (SX.done hK)) ?_
  refine SXI.bool 48 rfl (fun hb => ?_) (fun hb => ?_)
  · skip
    have hq48 := of_decide_eq_true hb
    refine SXI.of (fun _ hK => s_mv 49 rfl rfl (SX.done hK)) ?_
    refine SXI.of (fun _ hK => s_le 50 rfl rfl rfl rfl (SX.done hK)) ?_
    refine SXI.of (fun _ hK => s_pickT 51 rfl rfl rfl (SX.done hK)) ?_
    refine SXI.of (fun _ hK => s_mv 52 rfl rfl (SX.done hK)) ?_
    refine SXI.bool 52 rfl (fun hb => ?_) (fun hb => ?_)
    · skip
      have hq52 := of_decide_eq_true hb
      refine SXI.of (fun _ hK => s_mv 53 rfl rfl (SX.done hK)) ?_
      refine SXI.of (fun _ hK => s_ge 54 rfl rfl rfl rfl (SX.done hK)) ?_
      refine SXI.of (fun _ hK => s_pickT 55 rfl rfl rfl (SX.done hK)) ?_
      refine SXI.of (fun _ hK => s_mv 56 rfl rfl (SX.done hK)) ?_
      refine SXI.bool 56 rfl (fun hb => ?_) (fun hb => ?_)
      · skip
        have hq56 := of_decide_eq_true hb
        refine SXI.of (fun _ hK => s_mv 57 rfl rfl (SX.done hK)) ?_
        refine SXI.of (fun _ hK => s_le 58 rfl rfl rfl (decide_eq_false (by omega)) (SX.done hK)) ?_
        refine SXI.of (fun _ hK => s_pickT 59 rfl rfl rfl (SX.done hK)) ?_
        refine SXI.of (fun _ hK => s_as 14 rfl rfl (SX.done hK)) ?_
        refine SXI.next ?_
        refine CWI.seq ?_
        refine CWI.seq ?_
        refine CWI.reg [0, 1, 2, 3, 4] rfl (by kernel_rfl) ?_
        refine SXI.of (fun _ hK => s_mv 60 rfl rfl (SX.done hK)) ?_
        refine SXI.of (fun _ hK => s_mv 61 rfl rfl (SX.done hK)) ?_
        refine SXI.of (fun _ hK => SX.skip rfl (SX.done hK)) ?_
        refine SXI.of (fun _ hK => SX.skip rfl (SX.done hK)) ?_
        refine SXI.of (fun _ hK => s_pickF 64 rfl rfl rfl (SX.done hK)) ?_
        refine SXI.next ?_
        refine CWI.condF rfl ?_
        refine CWI.skip ?_
        refine KNI.code ?_
        refine CWI.seq ?_
        refine CWI.reg [0, 1, 2, 3, 4, 5, 6, 7] rfl (by kernel_rfl) ?_
        refine SXI.of (fun _ hK => s_mv 66 rfl rfl (SX.done hK)) ?_
        refine SXI.of (fun _ hK => s_mv 67 rfl rfl (SX.done hK)) ?_
        refine SXI.of (fun _ hK => s_call1 68 rfl rfl rfl rfl (fun w hw => newM_bad a0 a1 e w (hw.er heG) hbad) (fun _ _ => trivial) (SX.done hK)) ?_
        refine SXI.of (fun _ hK => s_mv 65 rfl rfl (SX.done hK)) ?_
        refine SXI.of (fun _ hK => s_ext 69 rfl rfl rfl (SX.done hK)) ?_
        refine SXI.of (fun _ hK => s_ext 70 rfl rfl rfl (SX.done hK)) ?_
        refine SXI.of (fun _ hK => s_as 15 rfl rfl (SX.done hK)) ?_
        refine SXI.of (fun _ hK => s_as 16 rfl rfl (SX.done hK)) ?_
        refine SXI.next ?_
        refine CWI.seq ?_
        refine CWI.seq ?_
        refine CWI.reg [0, 1] rfl (by kernel_rfl) ?_
        refine SXI.of (fun _ hK => s_mv 71 rfl rfl (SX.done hK)) ?_
        refine SXI.of (fun _ hK => s_not 72 rfl rfl (SX.done hK)) ?_
        refine SXI.next ?_
        refine CWI.condT rfl ?_
        refine CWI.seq ?_
        refine CWI.reg [0, 1, 2, 3, 4, 5, 6, 7] rfl (by kernel_rfl) ?_
        refine SXI.of (fun _ hK => s_mv 73 rfl rfl (SX.done hK)) ?_
        refine SXI.of (fun _ hK => s_eqPNn 74 rfl rfl (SX.done hK)) ?_
        refine SXI.of (fun _ hK => s_mv 75 rfl rfl (SX.done hK)) ?_
        refine SXI.of (fun _ hK => s_mv 76 rfl rfl (SX.done hK)) ?_
        refine SXI.of (fun _ hK => s_ld 77 rfl rfl (fun _ h => h.er heG) (SX.done hK)) ?_
        refine SXI.of (fun _ hK => s_eqE 78 rfl rfl rfl (SX.done hK)) ?_
        refine SXI.of (fun _ hK => s_pickT 79 rfl rfl rfl (SX.done hK)) ?_
        refine SXI.of (fun _ hK => s_stB 0 rfl rfl rfl rfl rfl (by show 0 < 1; decide) (fun _ _ => trivial) (SX.done hK)) ?_
        refine SXI.next ?_
        refine CWI.ret ?_
        exact retMC (rs := [.cell 12 4]) (L := [blk b12 4 #[.bool true]]) [] rfl Tryd.results3 (fun _ h => h.pick [0] rfl) (fun w hw => ⟨[_], ⟨⟨_, rfl, run_loadVar1 (hw.blkCell (i := 0) (j := 0) rfl rfl)⟩, trivial⟩, rfl, hw.nothing⟩)
      · skip
        have hq56 := of_decide_eq_false hb
        refine SXI.of (fun _ hK => SX.skip rfl (SX.done hK)) ?_
        refine SXI.of (fun _ hK => SX.skip rfl (SX.done hK)) ?_
        refine SXI.of (fun _ hK => s_pickF 59 rfl rfl rfl (SX.done hK)) ?_
        refine SXI.of (fun _ hK => s_as 14 rfl rfl (SX.done hK)) ?_
        refine SXI.next ?_
        refine CWI.seq ?_
        refine CWI.seq ?_
        refine CWI.reg [0, 1, 2, 3, 4] rfl (by kernel_rfl) ?_
        refine SXI.of (fun _ hK => s_mv 60 rfl rfl (SX.done hK)) ?_
        refine SXI.of (fun _ hK => s_mv 61 rfl rfl (SX.done hK)) ?_
        refine SXI.of (fun _ hK => SX.skip rfl (SX.done hK)) ?_
        refine SXI.of (fun _ hK => SX.skip rfl (SX.done hK)) ?_
        refine SXI.of (fun _ hK => s_pickF 64 rfl rfl rfl (SX.done hK)) ?_
        refine SXI.next ?_
        refine CWI.condF rfl ?_
        refine CWI.skip ?_
        refine KNI.code ?_
        refine CWI.seq ?_
        refine CWI.reg [0, 1, 2, 3, 4, 5, 6, 7] rfl (by kernel_rfl) ?_
        refine SXI.of (fun _ hK => s_mv 66 rfl rfl (SX.done hK)) ?_
        refine SXI.of (fun _ hK => s_mv 67 rfl rfl (SX.done hK)) ?_
        refine SXI.of (fun _ hK => s_call1 68 rfl rfl rfl rfl (fun w hw => newM_bad a0 a1 e w (hw.er heG) hbad) (fun _ _ => trivial) (SX.done hK)) ?_
        refine SXI.of (fun _ hK => s_mv 65 rfl rfl (SX.done hK)) ?_
        refine SXI.of (fun _ hK => s_ext 69 rfl rfl rfl (SX.done hK)) ?_
        refine SXI.of (fun _ hK => s_ext 70 rfl rfl rfl (SX.done hK)) ?_
        refine SXI.of (fun _ hK => s_as 15 rfl rfl (SX.done hK)) ?_
        refine SXI.of (fun _ hK => s_as 16 rfl rfl (SX.done hK)) ?_
        refine SXI.next ?_
        refine CWI.seq ?_
        refine CWI.seq ?_
        refine CWI.reg [0, 1] rfl (by kernel_rfl) ?_
        refine SXI.of (fun _ hK => s_mv 71 rfl rfl (SX.done hK)) ?_
        refine SXI.of (fun _ hK => s_not 72 rfl rfl (SX.done hK)) ?_
        refine SXI.next ?_
        refine CWI.condT rfl ?_
        refine CWI.seq ?_
        refine CWI.reg [0, 1, 2, 3, 4, 5, 6, 7] rfl (by kernel_rfl) ?_
        refine SXI.of (fun _ hK => s_mv 73 rfl rfl (SX.done hK)) ?_
        refine SXI.of (fun _ hK => s_eqPNn 74 rfl rfl (SX.done hK)) ?_
        refine SXI.of (fun _ hK => s_mv 75 rfl rfl (SX.done hK)) ?_
        refine SXI.of (fun _ hK => s_mv 76 rfl rfl (SX.done hK)) ?_
        refine SXI.of (fun _ hK => s_ld 77 rfl rfl (fun _ h => h.er heG) (SX.done hK)) ?_
        refine SXI.of (fun _ hK => s_eqE 78 rfl rfl rfl (SX.done hK)) ?_
        refine SXI.of (fun _ hK => s_pickT 79 rfl rfl rfl (SX.done hK)) ?_
        refine SXI.of (fun _ hK => s_stB 0 rfl rfl rfl rfl rfl (by show 0 < 1; decide) (fun _ _ => trivial) (SX.done hK)) ?_
        refine SXI.next ?_
        refine CWI.ret ?_
        exact retMC (rs := [.cell 12 4]) (L := [blk b12 4 #[.bool true]]) [] rfl Tryd.results3 (fun _ h => h.pick [0] rfl) (fun w hw => ⟨[_], ⟨⟨_, rfl, run_loadVar1 (hw.blkCell (i := 0) (j := 0) rfl rfl)⟩, trivial⟩, rfl, hw.nothing⟩)
    · skip
      have hq52 := of_decide_eq_false hb
      refine SXI.of (fun _ hK => SX.skip rfl (SX.done hK)) ?_
      refine SXI.of (fun _ hK => SX.skip rfl (SX.done hK)) ?_
      refine SXI.of (fun _ hK => s_pickF 55 rfl rfl rfl (SX.done hK)) ?_
      refine SXI.of (fun _ hK => s_mv 56 rfl rfl (SX.done hK)) ?_
      refine SXI.of (fun _ hK => SX.skip rfl (SX.done hK)) ?_
      refine SXI.of (fun _ hK => SX.skip rfl (SX.done hK)) ?_
      refine SXI.of (fun _ hK => s_pickF 59 rfl rfl rfl (SX.done hK)) ?_
      refine SXI.of (fun _ hK => s_as 14 rfl rfl (SX.done hK)) ?_
      refine SXI.next ?_
      refine CWI.seq ?_
      refine CWI.seq ?_
      refine CWI.reg [0, 1, 2, 3, 4] rfl (by kernel_rfl) ?_
      refine SXI.of (fun _ hK => s_mv 60 rfl rfl (SX.done hK)) ?_
      refine SXI.of (fun _ hK => s_mv 61 rfl rfl (SX.done hK)) ?_
      refine SXI.of (fun _ hK => SX.skip rfl (SX.done hK)) ?_
      refine SXI.of (fun _ hK => SX.skip rfl (SX.done hK)) ?_
      refine SXI.of (fun _ hK => s_pickF 64 rfl rfl rfl (SX.done hK)) ?_
      refine SXI.next ?_
      refine CWI.condF rfl ?_
      refine CWI.skip ?_
      refine KNI.code ?_
      refine CWI.seq ?_
      refine CWI.reg [0, 1, 2, 3, 4, 5, 6, 7] rfl (by kernel_rfl) ?_
      refine SXI.of (fun _ hK => s_mv 66 rfl rfl (SX.done hK)) ?_
      refine SXI.of (fun _ hK => s_mv 67 rfl rfl (SX.done hK)) ?_
      refine SXI.of (fun _ hK => s_call1 68 rfl rfl rfl rfl (fun w hw => newM_bad a0 a1 e w (hw.er heG) hbad) (fun _ _ => trivial) (SX.done hK)) ?_
      refine SXI.of (fun _ hK => s_mv 65 rfl rfl (SX.done hK)) ?_
      refine SXI.of (fun _ hK => s_ext 69 rfl rfl rfl (SX.done hK)) ?_
      refine SXI.of (fun _ hK => s_ext 70 rfl rfl rfl (SX.done hK)) ?_
      refine SXI.of (fun _ hK => s_as 15 rfl rfl (SX.done hK)) ?_
      refine SXI.of (fun _ hK => s_as 16 rfl rfl (SX.done hK)) ?_
      refine SXI.next ?_
      refine CWI.seq ?_
      refine CWI.seq ?_
      refine CWI.reg [0, 1] rfl (by kernel_rfl) ?_
      refine SXI.of (fun _ hK => s_mv 71 rfl rfl (SX.done hK)) ?_
      refine SXI.of (fun _ hK => s_not 72 rfl rfl (SX.done hK)) ?_
      refine SXI.next ?_
      refine CWI.condT rfl ?_
      refine CWI.seq ?_
      refine CWI.reg [0, 1, 2, 3, 4, 5, 6, 7] rfl (by kernel_rfl) ?_
      refine SXI.of (fun _ hK => s_mv 73 rfl rfl (SX.done hK)) ?_
      refine SXI.of (fun _ hK => s_eqPNn 74 rfl rfl (SX.done hK)) ?_
      refine SXI.of (fun _ hK => s_mv 75 rfl rfl (SX.done hK)) ?_
      refine SXI.of (fun _ hK => s_mv 76 rfl rfl (SX.done hK)) ?_
      refine SXI.of (fun _ hK => s_ld 77 rfl rfl (fun _ h => h.er heG) (SX.done hK)) ?_
      refine SXI.of (fun _ hK => s_eqE 78 rfl rfl rfl (SX.done hK)) ?_
      refine SXI.of (fun _ hK => s_pickT 79 rfl rfl rfl (SX.done hK)) ?_
      refine SXI.of (fun _ hK => s_stB 0 rfl rfl rfl rfl rfl (by show 0 < 1; decide) (fun _ _ => trivial) (SX.done hK)) ?_
      refine SXI.next ?_
      refine CWI.ret ?_
      exact retMC (rs := [.cell 12 4]) (L := [blk b12 4 #[.bool true]]) [] rfl Tryd.results3 (fun _ h => h.pick [0] rfl) (fun w hw => ⟨[_], ⟨⟨_, rfl, run_loadVar1 (hw.blkCell (i := 0) (j := 0) rfl rfl)⟩, trivial⟩, rfl, hw.nothing⟩)
  · skip
    have hq48 := of_decide_eq_false hb
    refine SXI.of (fun _ hK => SX.skip rfl (SX.done hK)) ?_
    refine SXI.of (fun _ hK => SX.skip rfl (SX.done hK)) ?_
    refine SXI.of (fun _ hK => s_pickF 51 rfl rfl rfl (SX.done hK)) ?_
    refine SXI.of (fun _ hK => s_mv 52 rfl rfl (SX.done hK)) ?_
    refine SXI.of (fun _ hK => SX.skip rfl (SX.done hK)) ?_
    refine SXI.of (fun _ hK => SX.skip rfl (SX.done hK)) ?_
    refine SXI.of (fun _ hK => s_pickF 55 rfl rfl rfl (SX.done hK)) ?_
    refine SXI.of (fun _ hK => s_mv 56 rfl rfl (SX.done hK)) ?_
    refine SXI.of (fun _ hK => SX.skip rfl (SX.done hK)) ?_
    refine SXI.of (fun _ hK => SX.skip rfl (SX.done hK)) ?_
    refine SXI.of (fun _ hK => s_pickF 59 rfl rfl rfl (SX.done hK)) ?_
    refine SXI.of (fun _ hK => s_as 14 rfl rfl (SX.done hK)) ?_
    refine SXI.next ?_
    refine CWI.seq ?_
    refine CWI.seq ?_
    refine CWI.reg [0, 1, 2, 3, 4] rfl (by kernel_rfl) ?_
    refine SXI.of (fun _ hK => s_mv 60 rfl rfl (SX.done hK)) ?_
    refine SXI.of (fun _ hK => s_mv 61 rfl rfl (SX.done hK)) ?_
    refine SXI.of (fun _ hK => SX.skip rfl (SX.done hK)) ?_
    refine SXI.of (fun _ hK => SX.skip rfl (SX.done hK)) ?_
    refine SXI.of (fun _ hK => s_pickF 64 rfl rfl rfl (SX.done hK)) ?_
    refine SXI.next ?_
    refine CWI.condF rfl ?_
    refine CWI.skip ?_
    refine KNI.code ?_
    refine CWI.seq ?_
    refine CWI.reg [0, 1, 2, 3, 4, 5, 6, 7] rfl (by kernel_rfl) ?_
    refine SXI.of (fun _ hK => s_mv 66 rfl rfl (SX.done hK)) ?_
    refine SXI.of (fun _ hK => s_mv 67 rfl rfl (SX.done hK)) ?_
    refine SXI.of (fun _ hK => s_call1 68 rfl rfl rfl rfl (fun w hw => newM_bad a0 a1 e w (hw.er heG) hbad) (fun _ _ => trivial) (SX.done hK)) ?_
    refine SXI.of (fun _ hK => s_mv 65 rfl rfl (SX.done hK)) ?_
    refine SXI.of (fun _ hK => s_ext 69 rfl rfl rfl (SX.done hK)) ?_
    refine SXI.of (fun _ hK => s_ext 70 rfl rfl rfl (SX.done hK)) ?_
    refine SXI.of (fun _ hK => s_as 15 rfl rfl (SX.done hK)) ?_
    refine SXI.of (fun _ hK => s_as 16 rfl rfl (SX.done hK)) ?_
    refine SXI.next ?_
    refine CWI.seq ?_
    refine CWI.seq ?_
    refine CWI.reg [0, 1] rfl (by kernel_rfl) ?_
    refine SXI.of (fun _ hK => s_mv 71 rfl rfl (SX.done hK)) ?_
    refine SXI.of (fun _ hK => s_not 72 rfl rfl (SX.done hK)) ?_
    refine SXI.next ?_
    refine CWI.condT rfl ?_
    refine CWI.seq ?_
    refine CWI.reg [0, 1, 2, 3, 4, 5, 6, 7] rfl (by kernel_rfl) ?_
    refine SXI.of (fun _ hK => s_mv 73 rfl rfl (SX.done hK)) ?_
    refine SXI.of (fun _ hK => s_eqPNn 74 rfl rfl (SX.done hK)) ?_
    refine SXI.of (fun _ hK => s_mv 75 rfl rfl (SX.done hK)) ?_
    refine SXI.of (fun _ hK => s_mv 76 rfl rfl (SX.done hK)) ?_
    refine SXI.of (fun _ hK => s_ld 77 rfl rfl (fun _ h => h.er heG) (SX.done hK)) ?_
    refine SXI.of (fun _ hK => s_eqE 78 rfl rfl rfl (SX.done hK)) ?_
    refine SXI.of (fun _ hK => s_pickT 79 rfl rfl rfl (SX.done hK)) ?_
    refine SXI.of (fun _ hK => s_stB 0 rfl rfl rfl rfl rfl (by show 0 < 1; decide) (fun _ _ => trivial) (SX.done hK)) ?_
    refine SXI.next ?_
    refine CWI.ret ?_
    exact retMC (rs := [.cell 12 4]) (L := [blk b12 4 #[.bool true]]) [] rfl Tryd.results3 (fun _ h => h.pick [0] rfl) (fun w hw => ⟨[_], ⟨⟨_, rfl, run_loadVar1 (hw.blkCell (i := 0) (j := 0) rfl rfl)⟩, trivial⟩, rfl, hw.nothing⟩)

theorem plays_wide (a0 a1 : Int) (A : Option Addr) (c : Nat) (ds : List DoG) (a3 a4 a5 : Int) (e : Nat → Addr) (w : World) (heN : ∀ w', Fr (Old w) w w' → Er e w' 1) (heS : ∀ w', Fr (Old w) w w' → Er e w' 2) (hn : ds.length ≤ 60) (hok : (1 ≤ a0 ∧ a0 ≤ 1048576 ∧ 1 ≤ a1 ∧ a1 ≤ 1024)) (hbig : 40 < a0) : Spec1 Tryd.prog 3 [.int .i64 a0, .int .i64 a1, .slice A ds.length c, .int .i64 a3, .int .i64 a4, .int .i64 a5] w (.bool true) := by
  refine calls_ofI Tryd.func3 rfl Tryd.ntmps3 rfl (C := Sto w []) (St.start w) ?_
  refine CWI.seq ?_
  refine CWI.reg [0, 1] rfl (by kernel_rfl) ?_
  refine SXI.of1 (pf := fun _ => True) (fun _ hK => s_box 11 rfl rfl (fun _ _ => trivial) (fun x => SX.done (hK x trivial))) (fun b11 _ => ?_)
  refine SXI.of1 (pf := fun _ => True) (fun _ hK => s_alloc 12 rfl (fun _ _ => trivial) (fun x => SX.done (hK x trivial))) (fun b12 _ => ?_)
  refine SXI.next ?_
  refine CWI.seq ?_
  refine CWI.reg [0, 1] rfl (by kernel_rfl) ?_
  refine SXI.of (fun _ hK => s_call1 37 rfl rfl rfl rfl (fun w hw => first_spec e w (fun w2 hf => heN _ (hw.fr.trans (hf.mono (fun k hk => Nat.lt_of_lt_of_le hk hw.fr.size)))) (fun w2 hf => heS _ (hw.fr.trans (hf.mono (fun k hk => Nat.lt_of_lt_of_le hk hw.fr.size))))) (fun _ _ => trivial) (SX.done hK)) ?_
  refine SXI.of (fun _ hK => s_as 13 rfl rfl (SX.done hK)) ?_
  refine SXI.next ?_
  refine CWI.seq ?_
  refine CWI.seq ?_
  refine CWI.reg [0, 1, 2, 3, 4, 5, 6] rfl (by kernel_rfl) ?_
  refine SXI.of (fun _ hK => s_mv 38 rfl rfl (SX.done hK)) ?_
  refine SXI.of (fun _ hK => s_len 39 rfl rfl (SX.done hK)) ?_
  refine SXI.of (fun _ hK => s_gt 40 rfl rfl rfl (decide_eq_false (by omega)) (SX.done hK)) ?_
  refine SXI.of (fun _ hK => s_mv 41 rfl rfl (SX.done hK)) ?_
  refine SXI.of (fun _ hK => s_mv 42 rfl rfl (SX.done hK)) ?_
  refine SXI.of (fun _ hK => s_not 43 rfl rfl (SX.done hK)) ?_
  refine SXI.of (fun _ hK => s_pickF 44 rfl rfl rfl (SX.done hK)) ?_
  refine SXI.next ?_
  refine CWI.condF rfl ?_
  refine CWI.skip ?_
  refine KNI.code ?_
  refine CWI.seq ?_
  refine CWI.reg [0, 1, 2, 3, 4, 5, 6, 7, 8, 9, 10, 11, 12, 13, 14] rfl (by kernel_rfl) ?_
  refine SXI.of (fun _ hK => s_mv 46 rfl rfl (SX.done hK)) ?_
  refine SXI.of (fun _ hK => s_ge 47 rfl rfl rfl (decide_eq_true (by omega)) (SX.done hK)) ?_
  refine SXI.of (fun _ hK => s_mv 48 rfl rfl (SX.done hK)) ?_
  refine SXI.of (fun _ hK => s_mv 49 rfl rfl (SX.done hK)) ?_
  refine SXI.of (fun _ hK => s_le 50 rfl rfl rfl (decide_eq_true (by omega)) (SX.done hK)) ?_
  refine SXI.of (fun _ hK => s_pickT 51 rfl rfl rfl (SX.done hK)) ?_
  refine SXI.of (fun _ hK => s_mv 52 rfl rfl (SX.done hK)) ?_
  refine SXI.of (fun _ hK => s_mv 53 rfl rfl (SX.done hK)) ?_
  refine SXI.of (fun _ hK => s_ge 54 rfl rfl rfl (decide_eq_true (by omega)) (SX.done hK)) ?_
  refine SXI.of (fun _ hK => s_pickT 55 rfl rfl rfl (SX.done hK)) ?_
  refine SXI.of (fun _ hK => s_mv 56 rfl rfl (SX.done hK)) ?_
  refine SXI.of (fun _ hK => s_mv 57 rfl rfl (SX.done hK)) ?_
  refine SXI.of (fun _ hK => s_le 58 rfl rfl rfl (decide_eq_true (by omega)) (SX.done hK)) ?_
  refine SXI.of (fun _ hK => s_pickT 59 rfl rfl rfl (SX.done hK)) ?_
  refine SXI.of (fun _ hK => s_as 14 rfl rfl (SX.done hK)) ?_
  refine SXI.next ?_
  refine CWI.seq ?_
  refine CWI.seq ?_
  refine CWI.reg [0, 1, 2, 3, 4] rfl (by kernel_rfl) ?_
  refine SXI.of (fun _ hK => s_mv 60 rfl rfl (SX.done hK)) ?_
  refine SXI.of (fun _ hK => s_mv 61 rfl rfl (SX.done hK)) ?_
  refine SXI.of (fun _ hK => s_mv 62 rfl rfl (SX.done hK)) ?_
  refine SXI.of (fun _ hK => s_gt 63 rfl rfl rfl (decide_eq_true (by omega)) (SX.done hK)) ?_
  refine SXI.of (fun _ hK => s_pickT 64 rfl rfl rfl (SX.done hK)) ?_
  refine SXI.next ?_
  refine CWI.condT rfl ?_
  refine CWI.seq ?_
  refine CWI.reg [0] rfl (by kernel_rfl) ?_
  refine SXI.of (fun _ hK => s_stB 0 rfl rfl rfl rfl rfl (by show 0 < 1; decide) (fun _ _ => trivial) (SX.done hK)) ?_
  refine SXI.next ?_
  refine CWI.ret ?_
  exact retMC (rs := [.cell 12 4]) (L := [blk b12 4 #[.bool true]]) [] rfl Tryd.results3 (fun _ h => h.pick [0] rfl) (fun w hw => ⟨[_], ⟨⟨_, rfl, run_loadVar1 (hw.blkCell (i := 0) (j := 0) rfl rfl)⟩, trivial⟩, rfl, hw.nothing⟩)
end Go.Proofs.YtaamaifnmppbgaaDoor
end
