/- One lemma for each kind of operation, for the symbolic walk, over any program. No condition. -/
import Derived.Test.YtcjddlcinaedaaaDoorMem
namespace Go.Sx
open Go

/-! ### What an operation does: plain runs -/
section
variable {P : Program} {w : World}

def ibit (op : BinOp) (k : IntKind) (p q : Int) : Int :=
  let a := BitVec.ofInt k.bits p
  let b := BitVec.ofInt k.bits q
  k.wrap (match op with
    | .and => a &&& b
    | .or => a ||| b
    | .xor => a ^^^ b
    | _ => a &&& ~~~b).toNat

theorem run_eqGuard_int (op : BinOp) (t : TypeId) (x y : Operand) (k k' : IntKind) (p q : Int) : (eqGuard op t x y (.int k p) (.int k' q)).run P w = .ok () w := by
  unfold eqGuard
  cases op <;> rfl

/-- A field's address. -/
class FA (P : Program) (T f : Nat) (off : outParam Nat) : Prop where
  run : ∀ (b o : Nat) (w : World), (Instr.fieldAt T (.pointer (some ⟨b, o, Option.none⟩)) f).run P w = .ok (.pointer (some ⟨b, o + off, Option.none⟩)) w

theorem add_at (b o j : Nat) : (⟨b, o, Option.none⟩ : Addr).add j = ⟨b, o + j, Option.none⟩ := by
  unfold Addr.add
  split
  · rename_i h; subst h; rfl
  · rfl

theorem run_tinfo {t : TypeId} {i : TypeInfo} (h : P.info? t = some i) (w : World) : (typeInfo t).run P w = .ok i w := by
  simp only [typeInfo, Sem.run_bind, run_program, Result.andThen_ok, h, Sem.run_pure]
theorem info_of {α : Type} {t : TypeId} {f : TypeInfo → α} {v : α} (h : (P.info? t).map f = some v) : ∃ i, P.info? t = some i ∧ f i = v := by
  cases hi : P.info? t with
  | none => rw [hi] at h; cases h
  | some i => rw [hi] at h; exact ⟨i, rfl, by simpa using h⟩

theorem FA.mk' {T f off : Nat} {fs : Array Field} {fl : Field} (hT : P.underlying T = some (.struct fs)) (hf : fs[f]? = some fl) (ho : fl.offset = off) (hi : (P.info? fl.type).map (fun i => i.size == 0) = some false) : FA P T f off := by
  obtain ⟨i, hi, hs⟩ := info_of hi
  refine ⟨fun b o w => ?_⟩
  have hs' : ¬ i.size = 0 := by simpa using hs
  simp only [Instr.fieldAt, Sem.run_bind, run_underlying hT, Sem.run_pure, Result.andThen_ok, hf, Instr.sureAddr, fieldPlace, sizeOf, run_tinfo hi, if_neg hs', add_at, ho]

def isRow : TypeDesc → Bool
  | .struct _ | .array _ _ => true
  | _ => false
/-- A type of one cell. -/
class One (P : Program) (T : TypeId) : Prop where
  agg : ∀ w, (isAgg T).run P w = .ok false w
  size : ∀ w, (sizeOf T).run P w = .ok 1 w

theorem One.mk' {T : Nat} {d : TypeDesc} (hT : P.underlying T = some d) (hd : isRow d = false) (hi : (P.info? T).map (·.size) = some 1) : One P T := by
  obtain ⟨i, hi, hs⟩ := info_of hi
  refine ⟨fun w => ?_, fun w => ?_⟩
  · simp only [isAgg, Sem.run_bind, run_underlying hT, Result.andThen_ok]
    cases d <;> first | rfl | (cases hd; done)
  · simp only [sizeOf, Sem.run_bind, run_tinfo hi, Sem.run_pure, Result.andThen_ok, hs]

/-- A kind of integer. -/
class IntT (P : Program) (T : TypeId) (k : outParam IntKind) : Prop where
  under : P.underlying T = some (.int k)
/-- A slice's type: its elements' type, how many cells and bytes one has, the zero value. -/
class SlT (P : Program) (T : TypeId) (E : outParam TypeId) (sz by_ : outParam Nat) (z : outParam Value) : Prop where
  under : P.underlying T = some (.slice E)
  info : ∃ i, P.info? E = some i ∧ i.size = sz ∧ i.bytes = by_ ∧ i.zero = some z

theorem SlT.mk' {T E sz by_ : Nat} {z : Value} (hT : P.underlying T = some (.slice E)) (hi : (P.info? E).map (fun i => (i.size, i.bytes, i.zero)) = some (sz, by_, some z)) : SlT P T E sz by_ z := by
  obtain ⟨i, hi, hs⟩ := info_of hi
  simp only [Prod.mk.injEq] at hs
  exact ⟨hT, i, hi, hs.1, hs.2.1, hs.2.2⟩

theorem run_loadAt {T : TypeId} [h1 : One P T] {a : Addr} {v : Value} (hc : w.cell? a = some v) : (Instr.loadAt T (.pointer (some a))).run P w = .ok v w := by
  simp only [Instr.loadAt, Instr.sureAddr, Sem.run_bind, Sem.run_pure, Result.andThen_ok, loadVar, h1.agg, Bool.false_eq_true, if_false]
  simp only [load, Sem.run, hc]

def oneCell : Value → Bool
  | .agg _ | .tuple _ => false
  | _ => true
theorem cells_of_one {v : Value} (h : oneCell v = true) : v.cells = #[v] := by cases v <;> simp_all [oneCell, Value.cells]

theorem run_store {a : Addr} {v u : Value} (h1 : oneCell v = true) (hc : w.cell? a = some u) (hf : w.frozen? a = false) : (store a v).run P w = .ok () (w.setCell a v) := by
  unfold store
  cases v <;> simp_all [oneCell, Sem.run]

theorem run_storeAt {T : TypeId} [h1 : One P T] {a : Addr} {v u : Value} (hv : oneCell v = true) (hc : w.cell? a = some u) (hf : w.frozen? a = false) : (Instr.storeAt T (.pointer (some a)) v).run P w = .ok () (w.setCell a v) := by
  simp only [Instr.storeAt, Instr.sureAddr, Sem.run_bind, Sem.run_pure, Result.andThen_ok, storeVar, cells_of_one hv, h1.size, List.size_toArray, List.length_cons, List.length_nil]
  simp only [ne_eq, not_true, if_false, Nat.zero_add]
  simp [storeCells, Addr.add, run_store hv hc hf]

/-! ### Numbers -/
theorem wrap_in (k : IntKind) {n : Int} (h1 : k.min ≤ n) (h2 : n ≤ k.max) : k.wrap n = n := by
  cases k <;> simp only [IntKind.min, IntKind.max, IntKind.signed, IntKind.bits, IntKind.wrap] at * <;> simp at * <;> omega
theorem w64 {n : Int} (h : -9223372036854775808 ≤ n ∧ n ≤ 9223372036854775807) : IntKind.i64.wrap n = n :=
  wrap_in .i64 (by simp [IntKind.min, IntKind.signed, IntKind.bits]; omega) (by simp [IntKind.max, IntKind.signed, IntKind.bits]; omega)
theorem wu8 {n : Int} (h : 0 ≤ n ∧ n ≤ 255) : IntKind.u8.wrap n = n :=
  wrap_in .u8 (by simp [IntKind.min, IntKind.signed]; omega) (by simp [IntKind.max, IntKind.signed, IntKind.bits]; omega)
theorem wu64 {n : Int} (h : 0 ≤ n ∧ n ≤ 18446744073709551615) : IntKind.u64.wrap n = n :=
  wrap_in .u64 (by simp [IntKind.min, IntKind.signed]; omega) (by simp [IntKind.max, IntKind.signed, IntKind.bits]; omega)

theorem run_add (t : TypeId) (k : IntKind) (p q r : Int) (hr : k.wrap (p + q) = r) : (binOp .add t (.int k p) (.int k q)).run P w = .ok (.int k r) w := by
  subst hr; simp [binOp, Op.intArith]
theorem run_sub (t : TypeId) (k : IntKind) (p q r : Int) (hr : k.wrap (p - q) = r) : (binOp .sub t (.int k p) (.int k q)).run P w = .ok (.int k r) w := by
  subst hr; simp [binOp, Op.intArith]
theorem run_mul (t : TypeId) (k : IntKind) (p q r : Int) (hr : k.wrap (p * q) = r) : (binOp .mul t (.int k p) (.int k q)).run P w = .ok (.int k r) w := by
  subst hr; simp [binOp, Op.intArith]
def isBits : BinOp → Bool
  | .and | .or | .xor | .andNot => true
  | _ => false
def isCmp : BinOp → Bool
  | .eql | .neq | .lss | .leq | .gtr | .geq => true
  | _ => false
theorem run_bits (op : BinOp) (t : TypeId) (k : IntKind) (p q : Int) (hop : isBits op = true) : (binOp op t (.int k p) (.int k q)).run P w = .ok (.int k (ibit op k p q)) w := by
  cases op <;> first
    | (exfalso; cases hop; done)
    | (simp [binOp, Op.intBits, ibit])
theorem run_rem (t : TypeId) (k : IntKind) (p q : Int) (hq : q ≠ 0) : (binOp .rem t (.int k p) (.int k q)).run P w = .ok (.int k (p.tmod q)) w := by
  simp [binOp, Op.intDiv, hq]
theorem run_quo (t : TypeId) (k : IntKind) (p q r : Int) (hq : q ≠ 0) (hr : k.wrap (p.tdiv q) = r) : (binOp .quo t (.int k p) (.int k q)).run P w = .ok (.int k r) w := by
  subst hr; simp [binOp, Op.intDiv, hq]
theorem run_shl (t : TypeId) (k k' : IntKind) (p q r : Int) (hq : 0 ≤ q) (hr : k.wrap (p * 2 ^ (min q.toNat k.bits)) = r) : (binOp .shl t (.int k p) (.int k' q)).run P w = .ok (.int k r) w := by
  subst hr
  have : ¬ q < 0 := by omega
  simp [binOp, Op.shift, this]
theorem run_shr (t : TypeId) (k k' : IntKind) (p q : Int) (hq : 0 ≤ q) : (binOp .shr t (.int k p) (.int k' q)).run P w = .ok (.int k (p.fdiv (2 ^ (min q.toNat k.bits)))) w := by
  have : ¬ q < 0 := by omega
  simp [binOp, Op.shift, this]
def cmpB (op : BinOp) (p q : Int) : Bool :=
  match op with
  | .eql => decide (p = q)
  | .neq => !decide (p = q)
  | .lss => decide (p < q)
  | .leq => decide (p ≤ q)
  | .gtr => decide (q < p)
  | _ => decide (q ≤ p)
theorem run_cmp (op : BinOp) (t : TypeId) (k : IntKind) (p q : Int) (hop : isCmp op = true) : (binOp op t (.int k p) (.int k q)).run P w = .ok (.bool (cmpB op p q)) w := by
  cases op <;> first
    | (exfalso; cases hop; done)
    | (simp [binOp, Op.intCmp, cmpB]; try rfl)
end

section
variable {P : Program} {ops : Array Oper} {S : World → Prop} {K : Act → World → Prop} {p : Plan} {n : Nat} {l : List (Nat × Value)} {C : World → Prop} {fl : Bool} {i : Nat} {ty ty' ty2 ty3 : TypeId} {x y z : Operand}

theorem s_mv (d : Nat) {v : Value} (ho : opAt ops n l i = some (some d, .move x, ty)) (hx : ev l x = some v) (h : SX P ops S K p n ((d, v) :: l) C) : SX P ops S K (.st fl i p) n l C :=
  SX.pure ho (fun a w o he h1 _ => by simp only [execOp, h1, he.ev hx, Sem.run_pure]) h
theorem s_as (d : Nat) {v : Value} (ho : opAt ops n l i = some (some d, .assign x, ty)) (hx : ev l x = some v) (h : SX P ops S K p n ((d, v) :: l) C) : SX P ops S K (.st fl i p) n l C :=
  SX.pure ho (fun a w o he h1 _ => by simp only [execOp, h1, he.ev hx, Sem.run_pure]) h
theorem s_pick (d : Nat) {b : Bool} {u v : Value} (ho : opAt ops n l i = some (some d, .pick x y z, ty)) (hx : ev l x = some (.bool b)) (hy : b = true → ev l y = some u) (hz : b = false → ev l z = some v) (h : SX P ops S K p n ((d, (if b = true then u else v)) :: l) C) : SX P ops S K (.st fl i p) n l C :=
  SX.pure ho (fun a w o he h1 _ => by
    cases b with
    | true => simp only [execOp, h1, he.ev hx, he.ev (hy rfl), asBool, Sem.run_bind, Sem.run_pure, Result.andThen_ok, if_true]
    | false => simp only [execOp, h1, he.ev hx, he.ev (hz rfl), asBool, Sem.run_bind, Sem.run_pure, Result.andThen_ok, Bool.false_eq_true, if_false]) h
theorem s_pickT (d : Nat) {u : Value} (ho : opAt ops n l i = some (some d, .pick x y z, ty)) (hx : ev l x = some (.bool true)) (hy : ev l y = some u) (h : SX P ops S K p n ((d, u) :: l) C) : SX P ops S K (.st fl i p) n l C :=
  SX.pure ho (fun a w o he h1 _ => by simp only [execOp, h1, he.ev hx, he.ev hy, asBool, Sem.run_bind, Sem.run_pure, Result.andThen_ok, if_true]) h
theorem s_pickF (d : Nat) {u : Value} (ho : opAt ops n l i = some (some d, .pick x y z, ty)) (hx : ev l x = some (.bool false)) (hz : ev l z = some u) (h : SX P ops S K p n ((d, u) :: l) C) : SX P ops S K (.st fl i p) n l C :=
  SX.pure ho (fun a w o he h1 _ => by simp only [execOp, h1, he.ev hx, he.ev hz, asBool, Sem.run_bind, Sem.run_pure, Result.andThen_ok, Bool.false_eq_true, if_false]) h
theorem s_nil (d : Nat) {a0 : Addr} (ho : opAt ops n l i = some (some d, .nilCheck x, ty)) (hx : ev l x = some (.pointer (some a0))) (h : SX P ops S K p n ((d, (.pointer (some a0))) :: l) C) : SX P ops S K (.st fl i p) n l C :=
  SX.pure ho (fun a w o he h1 _ => by simp only [execOp, h1, he.ev hx, Sem.run_pure]) h
theorem s_nilf (d : Nat) {g : FuncId} {f0 c0 : Array Value} (ho : opAt ops n l i = some (some d, .nilCheck x, ty)) (hx : ev l x = some (.func (.func g) f0 c0)) (h : SX P ops S K p n ((d, (.func (.func g) f0 c0)) :: l) C) : SX P ops S K (.st fl i p) n l C :=
  SX.pure ho (fun a w o he h1 _ => by simp only [execOp, h1, he.ev hx, Sem.run_pure]) h
theorem s_bin (d : Nat) {op : BinOp} {k k' : IntKind} {a b : Int} {v : Value} (ho : opAt ops n l i = some (some d, .binOp op ty x y ty', ty2)) (hx : ev l x = some (.int k a)) (hy : ev l y = some (.int k' b))
    (hr : ∀ w, (binOp op ty (.int k a) (.int k' b)).run P w = .ok v w) (h : SX P ops S K p n ((d, v) :: l) C) : SX P ops S K (.st fl i p) n l C :=
  SX.pure ho (fun a w o he h1 _ => by simp only [execOp, h1, he.ev hx, he.ev hy, Sem.run_bind, run_eqGuard_int, Result.andThen_ok, hr, Sem.run_pure]) h
/-- Sums, differences, products: 'hr' by 'w64 (by omega)', or 'rfl' with the wrap left. -/
theorem s_add (d : Nat) {k : IntKind} {a b r : Int} (ho : opAt ops n l i = some (some d, .binOp .add ty x y ty', ty2)) (hx : ev l x = some (.int k a)) (hy : ev l y = some (.int k b))
    (hr : k.wrap (a + b) = r) (h : SX P ops S K p n ((d, (.int k r)) :: l) C) : SX P ops S K (.st fl i p) n l C :=
  s_bin d ho hx hy (fun _ => run_add _ k a b r hr) h
theorem s_sub (d : Nat) {k : IntKind} {a b r : Int} (ho : opAt ops n l i = some (some d, .binOp .sub ty x y ty', ty2)) (hx : ev l x = some (.int k a)) (hy : ev l y = some (.int k b))
    (hr : k.wrap (a - b) = r) (h : SX P ops S K p n ((d, (.int k r)) :: l) C) : SX P ops S K (.st fl i p) n l C :=
  s_bin d ho hx hy (fun _ => run_sub _ k a b r hr) h
theorem s_mul (d : Nat) {k : IntKind} {a b r : Int} (ho : opAt ops n l i = some (some d, .binOp .mul ty x y ty', ty2)) (hx : ev l x = some (.int k a)) (hy : ev l y = some (.int k b))
    (hr : k.wrap (a * b) = r) (h : SX P ops S K p n ((d, (.int k r)) :: l) C) : SX P ops S K (.st fl i p) n l C :=
  s_bin d ho hx hy (fun _ => run_mul _ k a b r hr) h
theorem s_bit (d : Nat) {op : BinOp} {k : IntKind} {a b r : Int} (ho : opAt ops n l i = some (some d, .binOp op ty x y ty', ty2)) (hx : ev l x = some (.int k a)) (hy : ev l y = some (.int k b))
    (hop : isBits op = true) (hr : ibit op k a b = r) (h : SX P ops S K p n ((d, (.int k r)) :: l) C) : SX P ops S K (.st fl i p) n l C :=
  s_bin d ho hx hy (fun _ => by rw [← hr]; exact run_bits op _ k a b hop) h
theorem s_rem (d : Nat) {k : IntKind} {a b r : Int} (ho : opAt ops n l i = some (some d, .binOp .rem ty x y ty', ty2)) (hx : ev l x = some (.int k a)) (hy : ev l y = some (.int k b))
    (hb : b ≠ 0) (hr : a.tmod b = r) (h : SX P ops S K p n ((d, (.int k r)) :: l) C) : SX P ops S K (.st fl i p) n l C :=
  s_bin d ho hx hy (fun _ => by rw [← hr]; exact run_rem _ k a b hb) h
theorem s_quo (d : Nat) {k : IntKind} {a b r : Int} (ho : opAt ops n l i = some (some d, .binOp .quo ty x y ty', ty2)) (hx : ev l x = some (.int k a)) (hy : ev l y = some (.int k b))
    (hb : b ≠ 0) (hr : k.wrap (a.tdiv b) = r) (h : SX P ops S K p n ((d, (.int k r)) :: l) C) : SX P ops S K (.st fl i p) n l C :=
  s_bin d ho hx hy (fun _ => run_quo _ k a b r hb hr) h
theorem s_shl (d : Nat) {k k' : IntKind} {a b r : Int} (ho : opAt ops n l i = some (some d, .binOp .shl ty x y ty', ty2)) (hx : ev l x = some (.int k a)) (hy : ev l y = some (.int k' b))
    (hb : 0 ≤ b) (hr : k.wrap (a * 2 ^ (min b.toNat k.bits)) = r) (h : SX P ops S K p n ((d, (.int k r)) :: l) C) : SX P ops S K (.st fl i p) n l C :=
  s_bin d ho hx hy (fun _ => run_shl _ k k' a b r hb hr) h
theorem s_shr (d : Nat) {k k' : IntKind} {a b r : Int} (ho : opAt ops n l i = some (some d, .binOp .shr ty x y ty', ty2)) (hx : ev l x = some (.int k a)) (hy : ev l y = some (.int k' b))
    (hb : 0 ≤ b) (hr : a.fdiv (2 ^ (min b.toNat k.bits)) = r) (h : SX P ops S K p n ((d, (.int k r)) :: l) C) : SX P ops S K (.st fl i p) n l C :=
  s_bin d ho hx hy (fun _ => by rw [← hr]; exact run_shr _ k k' a b hb) h
/-- Comparisons of numbers: 'hr' by 'rfl', or by 'decide_eq_true ..', 'decide_eq_false ..'. -/
theorem s_eq (d : Nat) {k : IntKind} {a b : Int} {r : Bool} (ho : opAt ops n l i = some (some d, .binOp .eql ty x y ty', ty2)) (hx : ev l x = some (.int k a)) (hy : ev l y = some (.int k b))
    (hr : decide (a = b) = r) (h : SX P ops S K p n ((d, (.bool r)) :: l) C) : SX P ops S K (.st fl i p) n l C :=
  s_bin d ho hx hy (fun _ => by rw [← hr]; exact run_cmp .eql _ k a b rfl) h
theorem s_lt (d : Nat) {k : IntKind} {a b : Int} {r : Bool} (ho : opAt ops n l i = some (some d, .binOp .lss ty x y ty', ty2)) (hx : ev l x = some (.int k a)) (hy : ev l y = some (.int k b))
    (hr : decide (a < b) = r) (h : SX P ops S K p n ((d, (.bool r)) :: l) C) : SX P ops S K (.st fl i p) n l C :=
  s_bin d ho hx hy (fun _ => by rw [← hr]; exact run_cmp .lss _ k a b rfl) h
theorem s_le (d : Nat) {k : IntKind} {a b : Int} {r : Bool} (ho : opAt ops n l i = some (some d, .binOp .leq ty x y ty', ty2)) (hx : ev l x = some (.int k a)) (hy : ev l y = some (.int k b))
    (hr : decide (a ≤ b) = r) (h : SX P ops S K p n ((d, (.bool r)) :: l) C) : SX P ops S K (.st fl i p) n l C :=
  s_bin d ho hx hy (fun _ => by rw [← hr]; exact run_cmp .leq _ k a b rfl) h
theorem s_gt (d : Nat) {k : IntKind} {a b : Int} {r : Bool} (ho : opAt ops n l i = some (some d, .binOp .gtr ty x y ty', ty2)) (hx : ev l x = some (.int k a)) (hy : ev l y = some (.int k b))
    (hr : decide (b < a) = r) (h : SX P ops S K p n ((d, (.bool r)) :: l) C) : SX P ops S K (.st fl i p) n l C :=
  s_bin d ho hx hy (fun _ => by rw [← hr]; exact run_cmp .gtr _ k a b rfl) h
theorem s_ge (d : Nat) {k : IntKind} {a b : Int} {r : Bool} (ho : opAt ops n l i = some (some d, .binOp .geq ty x y ty', ty2)) (hx : ev l x = some (.int k a)) (hy : ev l y = some (.int k b))
    (hr : decide (b ≤ a) = r) (h : SX P ops S K p n ((d, (.bool r)) :: l) C) : SX P ops S K (.st fl i p) n l C :=
  s_bin d ho hx hy (fun _ => by rw [← hr]; exact run_cmp .geq _ k a b rfl) h
theorem s_ne (d : Nat) {k : IntKind} {a b : Int} {r : Bool} (ho : opAt ops n l i = some (some d, .binOp .neq ty x y ty', ty2)) (hx : ev l x = some (.int k a)) (hy : ev l y = some (.int k b))
    (hr : decide (a ≠ b) = r) (h : SX P ops S K p n ((d, (.bool r)) :: l) C) : SX P ops S K (.st fl i p) n l C :=
  s_bin d ho hx hy (fun w => by rw [← hr]; have := run_cmp (P := P) (w := w) .neq ty k a b rfl; rw [this]; simp [cmpB]) h
/-- An integer as one of another kind. -/
theorem s_conv (d : Nat) {k k' k1 : IntKind} {a r : Int} (ho : opAt ops n l i = some (some d, .convert ty ty' x, ty2)) [hs : IntT P ty k1] [hT : IntT P ty' k'] (hx : ev l x = some (.int k a)) (hr : k'.wrap a = r) (h : SX P ops S K p n ((d, (.int k' r)) :: l) C) : SX P ops S K (.st fl i p) n l C :=
  SX.pure ho (fun b w o he h1 _ => by
    simp only [execOp, h1, he.ev hx, Sem.run_bind, convert, run_underlying hs.under, run_underlying hT.under, Result.andThen_ok, Conv.intToInt, Sem.run_pure, hr]) h
theorem s_not (d : Nat) {b : Bool} (ho : opAt ops n l i = some (some d, .unOp .not ty x, ty2)) (hx : ev l x = some (.bool b)) (h : SX P ops S K p n ((d, (.bool (!b))) :: l) C) : SX P ops S K (.st fl i p) n l C :=
  SX.pure ho (fun a w o he h1 _ => by simp only [execOp, h1, he.ev hx, Sem.run_bind, Op.unary, Result.andThen_ok, Sem.run_pure]) h
theorem s_neg (d : Nat) {k : IntKind} {a r : Int} (ho : opAt ops n l i = some (some d, .unOp .neg ty x, ty2)) (hx : ev l x = some (.int k a)) (hr : k.wrap (0 - a) = r) (h : SX P ops S K p n ((d, (.int k r)) :: l) C) : SX P ops S K (.st fl i p) n l C :=
  SX.pure ho (fun b w o he h1 _ => by simp only [execOp, h1, he.ev hx, Sem.run_bind, Op.unary, Op.intArith, Result.andThen_ok, Sem.run_pure, hr]) h
theorem s_ext (d : Nat) {vs : Array Value} {j : Nat} {v : Value} (ho : opAt ops n l i = some (some d, .extract x j, ty)) (hx : ev l x = some (.tuple vs)) (hv : vs[j]? = some v) (h : SX P ops S K p n ((d, v) :: l) C) : SX P ops S K (.st fl i p) n l C :=
  SX.pure ho (fun a w o he h1 _ => by simp only [execOp, h1, he.ev hx, Sem.run_bind, Instr.extract, hv, Result.andThen_ok, Sem.run_pure]) h
theorem s_fa (d : Nat) {f off b o : Nat} (ho : opAt ops n l i = some (some d, .fieldAddr ty x f, ty2)) [hf : FA P ty f off] (hx : ev l x = some (.pointer (some ⟨b, o, none⟩))) (h : SX P ops S K p n ((d, (.pointer (some ⟨b, o + off, none⟩))) :: l) C) : SX P ops S K (.st fl i p) n l C :=
  SX.pure ho (fun a w o he h1 _ => by simp only [execOp, h1, he.ev hx, Sem.run_bind, hf.run, Result.andThen_ok, Sem.run_pure]) h
theorem s_mkf (d : Nat) {fn : Fn} {fs cs : Array Operand} {us vs : List Value} (ho : opAt ops n l i = some (some d, .makeFunc fn fs cs, ty)) (h1 : evs l fs.toList = some us) (h2 : evs l cs.toList = some vs) (h : SX P ops S K p n ((d, (.func fn us.toArray vs.toArray)) :: l) C) : SX P ops S K (.st fl i p) n l C :=
  SX.pure ho (fun a w o he h3 _ => by
    have e1 : fs.map a.eval = us.toArray := by apply Array.ext'; rw [Array.toList_map]; exact he.evs h1
    have e2 : cs.map a.eval = vs.toArray := by apply Array.ext'; rw [Array.toList_map]; exact he.evs h2
    simp only [execOp, h3, e1, e2, Sem.run_bind, Instr.makeFunc, Result.andThen_ok, Sem.run_pure]) h

/-- A load of one cell, first to come up (S knows the cell), or in its turn (C knows it). -/
theorem s_ldS (d : Nat) {a0 : Addr} {v : Value} (ho : opAt ops n l i = some (some d, .load ty x, ty2)) [One P ty] (hx : ev l x = some (.pointer (some a0))) (hc : ∀ w, S w → w.cell? a0 = some v) (h : SX P ops S K p n ((d, v) :: l) C) : SX P ops S K (.st true i p) n l C :=
  SX.val ho (fun a w o he hs _ h1 _ => by simp only [execOp, h1, he.ev hx, Sem.run_bind, run_loadAt (hc w (hs rfl)), Result.andThen_ok, Sem.run_pure]) h
theorem s_ld (d : Nat) {a0 : Addr} {v : Value} (ho : opAt ops n l i = some (some d, .load ty x, ty2)) [One P ty] (hx : ev l x = some (.pointer (some a0))) (hc : ∀ w, C w → w.cell? a0 = some v) (h : SX P ops S K p n ((d, v) :: l) C) : SX P ops S K (.st false i p) n l C :=
  SX.val ho (fun a w o he _ hs h1 _ => by simp only [execOp, h1, he.ev hx, Sem.run_bind, run_loadAt (hc w (hs rfl)), Result.andThen_ok, Sem.run_pure]) h
theorem s_st {C' : World → Prop} {a0 : Addr} {v : Value} (ho : opAt ops n l i = some (none, .store ty x y, ty2)) [One P ty] (hx : ev l x = some (.pointer (some a0))) (hy : ev l y = some v) (hv : oneCell v = true)
    (hc : ∀ w, C w → (∃ u, w.cell? a0 = some u) ∧ w.frozen? a0 = false ∧ C' (w.setCell a0 v)) (hS : ∀ w, C' w → S w) (h : SX P ops S K p n (l) C') : SX P ops S K (.st false i p) n l C :=
  SX.act (X := Unit) (v := fun _ => undef) (C' := fun _ => C') ho (fun a w o he hcw h1 _ => by
    obtain ⟨⟨u, hu⟩, hf, hc'⟩ := hc w hcw
    exact ⟨(), w.setCell a0 v, .inr ⟨by simp only [execOp, h1, he.ev hx, he.ev hy, Sem.run_bind, run_storeAt hv hu hf, Result.andThen_ok, Sem.run_pure], rfl⟩, hc'⟩) (fun _ => hS) (fun _ => h)

/-! ### Calls -/
theorem spec_of {f : FuncId} {fn : Func} {c : Code} {args : List Value} {w : World} {R : Ending → World → Prop} (hf : P.funcs[f]? = some fn) (hb : fn.body = some c) (hn : fn.ntmps = n) (hlen : Nat.ble args.length n = true)
    (h : CW P (Rets fn R P) [] c n (argEnv 0 args) (Sto w [])) : Calls P f args.toArray w R :=
  calls_of hf hb hn hlen ⟨fun a v he hv => h.run a v he (St.of_eq hv)⟩

/-- Function g is one that is entered. -/
class Enters (P : Program) (g : FuncId) : Prop where
  run : ∀ args w, (callFunc g args).run P w = .ok (.enter g args) w
theorem Enters.mk' {g : FuncId} {fn : Func} (hf : P.funcs[g]? = some fn) (hb : fn.body.isNone = false) (hn : (fn.name == "runtime.NumGoroutine") = false) : Enters P g :=
  ⟨fun args w => by simp only [callFunc, Sem.run_bind, run_program, Result.andThen_ok, hf, hn, hb, Bool.false_eq_true, if_false, Sem.run_pure]⟩

theorem SX.enter {d : Option Nat} {op : Op} {ty : TypeId} {g : FuncId} {args : Array Value} {X : Type} {v : X → Value} {pf : X → Prop} {C' : X → World → Prop} (ho : opAt ops n l i = some (d, op, ty))
    (hrun : ∀ a w (o : Oper), Env n l a → o.op = op → o.type = ty → (execOp a.eval o).run P w = .ok (.enter g args) w)
    (hc : ∀ w, C w → Calls P g args w (fun e w' => ∃ x, e = .returned (v x) ∧ pf x ∧ C' x w')) (hS : ∀ x w, C' x w → S w)
    (h : ∀ x, pf x → SX P ops S K p n (insO d (v x) l) (C' x)) : SX P ops S K (.st false i p) n l C := by
  refine ⟨fun a w he hcw _ => ?_⟩
  unfold opAt at ho
  split at ho
  · rename_i o hoi
    by_cases hb : (wantB ops l o.guard && okD n o.dst) = true
    · rw [hb] at ho
      simp only [cond_true, Option.some.injEq, Prod.mk.injEq] at ho
      obtain ⟨rfl, rfl, rfl⟩ := ho
      rw [Bool.and_eq_true] at hb
      simp only [PW, hoi, wanted_of he hb.1, if_true, Oper.wp, hrun a w o he rfl rfl, Oper.upon_enter]
      refine (hc w hcw).mono ?_
      rintro e w' ⟨x, rfl, hp, hc'⟩
      exact ⟨hS x w' hc', (h x hp).run _ w' (he.putO hb.2 (v x)) hc' (hS x w' hc')⟩
    · have : (wantB ops l o.guard && okD n o.dst) = false := by simpa using hb
      rw [this] at ho
      cases ho
  · cases ho

theorem run_call {a : Act} {w : World} {o : Oper} {x : Operand} {as : Array Operand} {ts : Array TypeId} {g : FuncId} {fs cs : Array Value} {vs L : List Value} (he : Env n l a) (h1 : o.op = .call ⟨.value x, as, ts⟩)
    (hx : ev l x = some (.func (.func g) fs cs)) (has : evs l as.toList = some vs) (hL : fs.toList ++ vs ++ cs.toList = L) [hg : Enters P g] : (execOp a.eval o).run P w = .ok (.enter g L.toArray) w := by
  have e1 : as.map a.eval = vs.toArray := by apply Array.ext'; rw [Array.toList_map]; exact he.evs has
  have e2 : fs ++ vs.toArray ++ cs = L.toArray := by rw [← hL]; simp
  simp only [execOp, h1, resolve, e1, he.ev hx, Deferred.ofValue, Sem.run_bind, Sem.run_pure, Result.andThen_ok, invoke, e2, hg.run]

/-- What a contract says: what is answered, and what is known of the world behind it. -/
def SpecX (P : Program) (g : FuncId) (args : List Value) (w : World) {X : Type} (v : X → Value) (pf : X → Prop) (L : X → List Atom) : Prop :=
  Calls P g args.toArray w (fun e w' => ∃ x, e = .returned (v x) ∧ pf x ∧ Sto w (L x) w')
/-- The same where one value is answered and nothing made that is told of. -/
def Spec1 (P : Program) (g : FuncId) (args : List Value) (w : World) (v : Value) : Prop :=
  Calls P g args.toArray w (fun e w' => e = .returned v ∧ Sto w [] w')

theorem s_call (d : Nat) {F : Nat → Prop} {w₀ : World} {A : List Atom} {as : Array Operand} {ts : Array TypeId} {g : FuncId} {fs cs : Array Value} {vs L : List Value} {X : Type} {v : X → Value} {pf : X → Prop} {L' : X → List Atom}
    (ho : opAt ops n l i = some (some d, .call ⟨.value x, as, ts⟩, ty)) (hx : ev l x = some (.func (.func g) fs cs)) (has : evs l as.toList = some vs) (hL : fs.toList ++ vs ++ cs.toList = L) [hg : Enters P g]
    (hc : ∀ w, St F w₀ A w → SpecX P g L w v pf L') (hS : ∀ w, St F w₀ A w → S w) (h : ∀ x, pf x → SX P ops S K p n ((d, (v x)) :: l) (St F w₀ (L' x ++ A))) : SX P ops S K (.st false i p) n l (St F w₀ A) := by
  refine SX.enter (C' := fun x w => St F w₀ (L' x ++ A) w) ho (fun a w o he h1 _ => run_call he h1 hx has hL) (fun w hw => (hc w hw).mono ?_) (fun x w hw => hS w ?_) h
  · rintro e w' ⟨x, he, hp, hs⟩
    exact ⟨x, he, hp, hw.join hs⟩
  · exact ⟨hw.fr, hw.lt, Sep.drop hw.sep⟩
theorem s_call1 (d : Nat) {F : Nat → Prop} {w₀ : World} {A : List Atom} {as : Array Operand} {ts : Array TypeId} {g : FuncId} {fs cs : Array Value} {vs L : List Value} {v : Value}
    (ho : opAt ops n l i = some (some d, .call ⟨.value x, as, ts⟩, ty)) (hx : ev l x = some (.func (.func g) fs cs)) (has : evs l as.toList = some vs) (hL : fs.toList ++ vs ++ cs.toList = L) [hg : Enters P g]
    (hc : ∀ w, St F w₀ A w → Spec1 P g L w v) (hS : ∀ w, St F w₀ A w → S w) (h : SX P ops S K p n ((d, v) :: l) (St F w₀ A)) : SX P ops S K (.st false i p) n l (St F w₀ A) :=
  s_call d (X := Unit) (v := fun _ => v) (pf := fun _ => True) (L' := fun _ => []) ho hx has hL (fun w hw => (hc w hw).mono (fun _ _ ⟨h1, h2⟩ => ⟨(), h1, trivial, h2⟩)) hS (fun _ _ => h)
end
end Go.Sx
