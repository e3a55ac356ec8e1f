/- Bytes as text, and texts compared. No condition. -/
import Derived.Test.YtcjddlcinaedaaaDoorArgs
import Derived.Laws.BytesArg
import Derived.Laws.Strings
namespace Go.Sx
open Go

/-- The text of bytes. -/
def strB (l : List Nat) : ByteArray := strOfNums (l.map Int.ofNat)
theorem strB_list (l : List Nat) : (strB l).data.toList = l.map UInt8.ofNat := by
  unfold strB
  rw [strOfNums_data, List.map_map]
  rfl
theorem strB_inj {a b : List Nat} (ha : ∀ x ∈ a, x < 256) (hb : ∀ x ∈ b, x < 256) (h : strB a = strB b) : a = b := by
  have e : a.map UInt8.ofNat = b.map UInt8.ofNat := by rw [← strB_list, ← strB_list, h]
  have k : ∀ l : List Nat, (∀ x ∈ l, x < 256) → (l.map UInt8.ofNat).map UInt8.toNat = l := fun l hl => by
    rw [List.map_map]
    conv => rhs; rw [← List.map_id l]
    exact List.map_congr_left (fun x hx => by
      show (UInt8.ofNat x).toNat = x
      rw [UInt8.toNat_ofNat']
      exact Nat.mod_eq_of_lt (hl x hx))
  rw [← k a ha, ← k b hb, e]
theorem byteList_eq {x y : ByteArray} (h : x.toList = y.toList) : x = y := by
  rw [ByteArray.toList_eq, ByteArray.toList_eq] at h
  cases x; cases y
  simp only [ByteArray.mk.injEq]
  exact Array.toList_inj.1 h
theorem strB_beq {a b : List Nat} (ha : ∀ x ∈ a, x < 256) (hb : ∀ x ∈ b, x < 256) : ((strB a).toList == (strB b).toList) = decide (a = b) := by
  by_cases h : a = b
  · subst h; simp
  · rw [decide_eq_false h]
    rw [beq_eq_false_iff_ne]
    exact fun e => h (strB_inj ha hb (byteList_eq e))
theorem run_b2s {P : Program} {w : World} {T E D by_ : Nat} {zv : Value} [hT : SlT P T E 1 by_ zv] (he : P.underlying E = some (.int .u8)) (hd : P.underlying D = some .string) {A : Option Addr} {n c : Nat} {l : List Nat} (hv : Has (sl 1 A n (nats .u8 l)) w) :
    (convert T D (.slice A n c)).run P w = .ok (.string (strB l)) w := by
  have hln := nats_len hv
  by_cases h0 : n = 0
  · subst h0
    obtain rfl := List.eq_nil_of_length_eq_zero hln
    cases A with
    | none => exact run_convert_bytes_nil w T E hT.under he 0 c D hd
    | some a =>
      rw [run_convert_bytes_string w T D E _ 0 c hT.under he hd, run_bytesToString w a 0 c [] (by unfold loadCells loadCellsFrom; rfl)]
      rfl
  · have hA := hv.sl_some h0
    rw [hA]
    exact run_convert_bytes_arg w T E hT.under he _ _ n c (l.map Int.ofNat) (by simpa using hln) (fun i hi => by
      have := (hv.sl_cell h0 (j := i) (by rw [natsAt (by omega)])).2
      rw [this]
      simp [show i < l.length by omega]) D hd
section
variable {P : Program} {ops : Array Oper} {S : World → Prop} {K : Act → World → Prop} {p : Plan} {n : Nat} {l : List (Nat × Value)} {C : World → Prop} {fl : Bool} {i : Nat} {ty ty' ty2 : TypeId} {x y : Operand}
theorem s_b2s (d : Nat) {E by_ : Nat} {zv : Value} {A : Option Addr} {m c : Nat} {b : List Nat} (ho : opAt ops n l i = some (some d, .convert ty ty' x, ty2)) [SlT P ty E 1 by_ zv] (he : P.underlying E = some (.int .u8)) (hd : P.underlying ty' = some .string) (hx : ev l x = some (.slice A m c)) (hv : ∀ w, C w → Has (sl 1 A m (nats .u8 b)) w)
    (h : SX P ops S K p n ((d, .string (strB b)) :: l) C) : SX P ops S K (.st false i p) n l C :=
  SX.val ho (fun a w o hen _ hs h1 _ => by simp only [execOp, h1, hen.ev hx, Sem.run_bind, run_b2s (c := c) he hd (hv w (hs rfl)), Result.andThen_ok, Sem.run_pure]) h
theorem s_b2sS (d : Nat) {E by_ : Nat} {zv : Value} {A : Option Addr} {m c : Nat} {b : List Nat} (ho : opAt ops n l i = some (some d, .convert ty ty' x, ty2)) [SlT P ty E 1 by_ zv] (he : P.underlying E = some (.int .u8)) (hd : P.underlying ty' = some .string) (hx : ev l x = some (.slice A m c)) (hv : ∀ w, S w → Has (sl 1 A m (nats .u8 b)) w)
    (h : SX P ops S K p n ((d, .string (strB b)) :: l) C) : SX P ops S K (.st true i p) n l C :=
  SX.val ho (fun a w o hen hs _ h1 _ => by simp only [execOp, h1, hen.ev hx, Sem.run_bind, run_b2s (c := c) he hd (hv w (hs rfl)), Result.andThen_ok, Sem.run_pure]) h
theorem s_eqS (d : Nat) {a b : ByteArray} {r : Bool} (ho : opAt ops n l i = some (some d, .binOp .eql ty x y ty', ty2)) (hx : ev l x = some (.string a)) (hy : ev l y = some (.string b)) (hr : (a.toList == b.toList) = r)
    (h : SX P ops S K p n ((d, .bool r) :: l) C) : SX P ops S K (.st fl i p) n l C :=
  SX.pure ho (fun e w o he h1 _ => by
    subst hr
    have eg : ∀ (x y : Operand) (v : Value), (eqGuard .eql ty x y (.string a) v).run P w = .ok () w := fun x y v => by simp [eqGuard]
    simp only [execOp, h1, he.ev hx, he.ev hy, Sem.run_bind, eg, binOp_string_eql, Result.andThen_ok, Sem.run_pure]) h
end
end Go.Sx
