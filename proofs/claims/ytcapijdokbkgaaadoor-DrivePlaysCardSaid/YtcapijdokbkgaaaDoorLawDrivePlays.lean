/- DrivePlays holds: whatever the input, the law answers true. Conditions: those of the given statement alone. -/
import Derived.Test.YtcapijdokbkgaaaDoorCards
import Derived.Test.YtcapijdokbkgaaaDoorTie
import Derived.Test.YtcapijdokbkgaaaDoorWDrivePlaysA
import Derived.Test.YtcapijdokbkgaaaDoorWDrivePlaysE
import Derived.Test.YtcapijdokbkgaaaDoorWDrivePlaysC
namespace Go.Proofs.YtcapijdokbkgaaaDoor.lawDrivePlays
open Go.Sx Go.ChangeShapes Go.WideShapes Go.ChangeAt Go.RowKit
set_option linter.unusedVariables false
theorem laidPlain {W : World} (h : laidMetH Tryd.prog Rows.drivePlaysRow.laid W) : laidMet Tryd.prog Rows.drivePlaysRow.laid W := h
theorem ersL {W : World} (h : laidMetH Tryd.prog Rows.drivePlaysRow.laid W) : Has (ersA (eOf W) [8, 4, 9, 10, 11, 6, 12, 3, 0, 1, 5, 7, 13, 14, 15, 2, 16, 17, 18]) W :=
  ers_met (l := Rows.drivePlaysRow.laid) (laidPlain h) ⟨⟨_, rfl⟩, by kernel_rfl, by kernel_rfl, ⟨⟨_, rfl⟩, by kernel_rfl, by kernel_rfl, ⟨⟨_, rfl⟩, by kernel_rfl, by kernel_rfl, ⟨⟨_, rfl⟩, by kernel_rfl, by kernel_rfl, ⟨⟨_, rfl⟩, by kernel_rfl, by kernel_rfl, ⟨⟨_, rfl⟩, by kernel_rfl, by kernel_rfl, ⟨⟨_, rfl⟩, by kernel_rfl, by kernel_rfl, ⟨⟨_, rfl⟩, by kernel_rfl, by kernel_rfl, ⟨⟨_, rfl⟩, by kernel_rfl, by kernel_rfl, ⟨⟨_, rfl⟩, by kernel_rfl, by kernel_rfl, ⟨⟨_, rfl⟩, by kernel_rfl, by kernel_rfl, ⟨⟨_, rfl⟩, by kernel_rfl, by kernel_rfl, ⟨⟨_, rfl⟩, by kernel_rfl, by kernel_rfl, ⟨⟨_, rfl⟩, by kernel_rfl, by kernel_rfl, ⟨⟨_, rfl⟩, by kernel_rfl, by kernel_rfl, ⟨⟨_, rfl⟩, by kernel_rfl, by kernel_rfl, ⟨⟨_, rfl⟩, by kernel_rfl, by kernel_rfl, ⟨⟨_, rfl⟩, by kernel_rfl, by kernel_rfl, ⟨⟨_, rfl⟩, by kernel_rfl, by kernel_rfl, trivial⟩⟩⟩⟩⟩⟩⟩⟩⟩⟩⟩⟩⟩⟩⟩⟩⟩⟩⟩
set_option maxRecDepth 100000 in
theorem contract (H : Type) (enc : TypeId × Value → H) (W : World) (base : Nat) (args : Array Value) (ds gs : List (DataW H)) (before : List MemPlace)
    (hval : ∀ (j : Nat) t v, Tryd.f11.params[j]? = some t → args[j]? = some v → Value.okWide Tryd.prog W .any base t v)
    (hW : DataW.Whole enc Tryd.prog Tryd.f11.params.toList Rows.drivePlaysSpec.vars false W args.toList ds gs before) (hL : laidMetH Tryd.prog Rows.drivePlaysRow.laid W) :
    Calls Tryd.prog 11 args W fun e W' => ∃ v, e = .returned v ∧ Rows.drivePlaysSpec.post enc Tryd.prog Tryd.f11 false true false false W args v W' := by
  have hW' := hW
  obtain ⟨p, q, hA0, hV, rfl, hfz, hnd⟩ := hW
  have hA : DataW.TrodAll enc Tryd.prog W 0 (fun _ => true) true Tryd.f11.params.toList args.toList ds p := hA0
  rw [Tryd.params11] at hA hval
  obtain ⟨v0, vs0, d0, ds0, p0, q0, hargs, rfl, rfl, h0, r0⟩ := trodAll_cons hA
  obtain ⟨v1, vs1, d1, ds1, p1, q1, rfl, rfl, rfl, h1, r1⟩ := trodAll_cons r0
  obtain ⟨v2, vs2, d2, ds2, p2, q2, rfl, rfl, rfl, h2, r2⟩ := trodAll_cons r1
  obtain ⟨v3, vs3, d3, ds3, p3, q3, rfl, rfl, rfl, h3, r3⟩ := trodAll_cons r2
  obtain ⟨rfl, rfl, rfl⟩ := trodAll_nil r3
  obtain rfl : args = #[v0, v1, v2, v3] := by cases args; simp_all
  obtain ⟨rfl, rfl⟩ := trodVars_none hV
  obtain ⟨A0, n0, c0, l0, rfl, hn0, hc0, rfl, hs0, hz0⟩ := open_slI Tryd.underlying37 Tryd.underlying3 (by kernel_rfl) (hval 0 37 v0 rfl rfl) h0
  obtain ⟨A1, c1, l1, rfl, hc1, hp1⟩ := open_plan0 Tryd.underlying38 ftT (hval 1 38 v1 rfl rfl) h1
  obtain ⟨A2, c2, l2, rfl, hc2, hp2⟩ := open_tell15 Tryd.underlying89 doT15 pcT (hval 2 89 v2 rfl rfl) h2
  obtain ⟨a3, rfl, rfl, rfl, w3⟩ := open_int Tryd.underlying3 (hval 3 3 v3 rfl rfl) h3
  clear hA0
  simp only [List.append_nil] at hW'
  refine Calls.mono (walk_DrivePlays A0 l0.length c0 l0 A1 c1 l1 A2 c2 l2 a3 (eOf W) W hs0 (by omega) hp1 hp2 ((ersL hL).fewer (by decide))) (fun e W' ⟨he, hs⟩ => ?_)
  subst he
  have hb := fr_below hs
  refine ⟨_, rfl, _, _, _, [], _, [], hW', (trodAll_cons_mk (shut_bool Tryd.underlying4 true) trodAll_mk0), (trodAll_cons_mk (Below.trod laidOutT (by kernel_rfl) (of_decide_eq_true (by kernel_rfl)) h0 hb (fun x hx => by simpa using hW'.lt x (by simp [hx]))) (trodAll_cons_mk (Below.trod laidOutT (by kernel_rfl) (of_decide_eq_true (by kernel_rfl)) h1 hb (fun x hx => by simpa using hW'.lt x (by simp [hx]))) (trodAll_cons_mk (Below.trod laidOutT (by kernel_rfl) (of_decide_eq_true (by kernel_rfl)) h2 hb (fun x hx => by simpa using hW'.lt x (by simp [hx]))) (trodAll_cons_mk (shut_int Tryd.underlying3 w3) trodAll_mk0)))), rfl, hb.frame _, fun h => by cases h⟩
/-- A world for the witness. -/
noncomputable def low : Nat := (World.holding Tryd.prog default ⟨#[], #[], []⟩).heap.size
noncomputable def laidWorld (os : Os) : World :=
  { World.holding Tryd.prog os ⟨#[.cells #[.string ⟨#[110, 111, 32, 115, 117, 99, 104, 32, 102, 105, 101, 108, 100]⟩] 178, .cells #[.string ⟨#[110, 111, 32, 115, 117, 99, 104, 32, 110, 117, 109, 98, 101, 114]⟩] 178, .cells #[.string ⟨#[122, 101, 114, 111, 32, 104, 97, 115, 32, 110, 111, 110, 101]⟩] 178, .cells #[.string ⟨#[116, 111, 111, 32, 108, 111, 110, 103]⟩] 178, .cells #[.string ⟨#[110, 111, 32, 115, 117, 99, 104, 32, 99, 111, 100, 101]⟩] 178, .cells #[.string ⟨#[109, 111, 114, 101, 32, 105, 115, 32, 97, 109, 105, 115, 115, 32, 116, 104, 97, 110, 32, 99, 97, 110, 32, 98, 101, 32, 109, 101, 110, 100, 101, 100]⟩] 178, .cells #[.string ⟨#[110, 111, 32, 114, 101, 99, 111, 114, 100]⟩] 178, .cells #[.string ⟨#[110, 111, 32, 115, 117, 99, 104, 32, 99, 104, 105, 112]⟩] 178, .cells #[.string ⟨#[116, 104, 101, 32, 112, 111, 119, 101, 114, 32, 105, 115, 32, 111, 102, 102]⟩] 178, .cells #[.string ⟨#[105, 116, 32, 100, 111, 101, 115, 32, 110, 111, 116, 32, 99, 111, 109, 101, 32, 104, 101, 114, 101]⟩] 178, .cells #[.string ⟨#[116, 104, 101, 32, 99, 104, 105, 112, 32, 102, 97, 105, 108, 101, 100]⟩] 178, .cells #[.string ⟨#[116, 104, 101, 32, 98, 108, 111, 99, 107, 32, 105, 115, 32, 98, 97, 100]⟩] 178, .cells #[.string ⟨#[116, 104, 101, 32, 112, 97, 103, 101, 32, 99, 97, 110, 110, 111, 116, 32, 98, 101, 32, 114, 101, 97, 100]⟩] 178, .cells #[.string ⟨#[110, 111, 32, 114, 111, 111, 109]⟩] 178, .cells #[.string ⟨#[105, 116, 32, 105, 115, 32, 110, 111, 116, 32, 116, 104, 101, 114, 101]⟩] 178, .cells #[.string ⟨#[110, 111, 32, 115, 101, 99, 116, 111, 114, 39, 115, 32, 115, 105, 122, 101]⟩] 178, .cells #[.string ⟨#[105, 116, 32, 99, 97, 110, 32, 111, 110, 108, 121, 32, 98, 101, 32, 114, 101, 97, 100]⟩] 178, .cells #[.string ⟨#[110, 111, 32, 115, 117, 99, 104, 32, 115, 116, 101, 112]⟩] 178, .cells #[.string ⟨#[105, 116, 32, 105, 115, 32, 110, 111, 116, 32, 109, 111, 117, 110, 116, 101, 100]⟩] 178], #[], []⟩ with heap := ((((((((((((((((((((World.holding Tryd.prog os ⟨#[.cells #[.string ⟨#[110, 111, 32, 115, 117, 99, 104, 32, 102, 105, 101, 108, 100]⟩] 178, .cells #[.string ⟨#[110, 111, 32, 115, 117, 99, 104, 32, 110, 117, 109, 98, 101, 114]⟩] 178, .cells #[.string ⟨#[122, 101, 114, 111, 32, 104, 97, 115, 32, 110, 111, 110, 101]⟩] 178, .cells #[.string ⟨#[116, 111, 111, 32, 108, 111, 110, 103]⟩] 178, .cells #[.string ⟨#[110, 111, 32, 115, 117, 99, 104, 32, 99, 111, 100, 101]⟩] 178, .cells #[.string ⟨#[109, 111, 114, 101, 32, 105, 115, 32, 97, 109, 105, 115, 115, 32, 116, 104, 97, 110, 32, 99, 97, 110, 32, 98, 101, 32, 109, 101, 110, 100, 101, 100]⟩] 178, .cells #[.string ⟨#[110, 111, 32, 114, 101, 99, 111, 114, 100]⟩] 178, .cells #[.string ⟨#[110, 111, 32, 115, 117, 99, 104, 32, 99, 104, 105, 112]⟩] 178, .cells #[.string ⟨#[116, 104, 101, 32, 112, 111, 119, 101, 114, 32, 105, 115, 32, 111, 102, 102]⟩] 178, .cells #[.string ⟨#[105, 116, 32, 100, 111, 101, 115, 32, 110, 111, 116, 32, 99, 111, 109, 101, 32, 104, 101, 114, 101]⟩] 178, .cells #[.string ⟨#[116, 104, 101, 32, 99, 104, 105, 112, 32, 102, 97, 105, 108, 101, 100]⟩] 178, .cells #[.string ⟨#[116, 104, 101, 32, 98, 108, 111, 99, 107, 32, 105, 115, 32, 98, 97, 100]⟩] 178, .cells #[.string ⟨#[116, 104, 101, 32, 112, 97, 103, 101, 32, 99, 97, 110, 110, 111, 116, 32, 98, 101, 32, 114, 101, 97, 100]⟩] 178, .cells #[.string ⟨#[110, 111, 32, 114, 111, 111, 109]⟩] 178, .cells #[.string ⟨#[105, 116, 32, 105, 115, 32, 110, 111, 116, 32, 116, 104, 101, 114, 101]⟩] 178, .cells #[.string ⟨#[110, 111, 32, 115, 101, 99, 116, 111, 114, 39, 115, 32, 115, 105, 122, 101]⟩] 178, .cells #[.string ⟨#[105, 116, 32, 99, 97, 110, 32, 111, 110, 108, 121, 32, 98, 101, 32, 114, 101, 97, 100]⟩] 178, .cells #[.string ⟨#[110, 111, 32, 115, 117, 99, 104, 32, 115, 116, 101, 112]⟩] 178, .cells #[.string ⟨#[105, 116, 32, 105, 115, 32, 110, 111, 116, 32, 109, 111, 117, 110, 116, 101, 100]⟩] 178], #[], []⟩).heap.modify 8 fun
      | .cells _ t frozen => .cells #[.iface 162 (.pointer (some ⟨low + 0, 0, none⟩))] t frozen
      | o => o).modify 4 fun
      | .cells _ t frozen => .cells #[.iface 162 (.pointer (some ⟨low + 1, 0, none⟩))] t frozen
      | o => o).modify 9 fun
      | .cells _ t frozen => .cells #[.iface 162 (.pointer (some ⟨low + 2, 0, none⟩))] t frozen
      | o => o).modify 10 fun
      | .cells _ t frozen => .cells #[.iface 162 (.pointer (some ⟨low + 3, 0, none⟩))] t frozen
      | o => o).modify 11 fun
      | .cells _ t frozen => .cells #[.iface 162 (.pointer (some ⟨low + 4, 0, none⟩))] t frozen
      | o => o).modify 6 fun
      | .cells _ t frozen => .cells #[.iface 162 (.pointer (some ⟨low + 5, 0, none⟩))] t frozen
      | o => o).modify 12 fun
      | .cells _ t frozen => .cells #[.iface 162 (.pointer (some ⟨low + 6, 0, none⟩))] t frozen
      | o => o).modify 3 fun
      | .cells _ t frozen => .cells #[.iface 162 (.pointer (some ⟨low + 7, 0, none⟩))] t frozen
      | o => o).modify 0 fun
      | .cells _ t frozen => .cells #[.iface 162 (.pointer (some ⟨low + 8, 0, none⟩))] t frozen
      | o => o).modify 1 fun
      | .cells _ t frozen => .cells #[.iface 162 (.pointer (some ⟨low + 9, 0, none⟩))] t frozen
      | o => o).modify 5 fun
      | .cells _ t frozen => .cells #[.iface 162 (.pointer (some ⟨low + 10, 0, none⟩))] t frozen
      | o => o).modify 7 fun
      | .cells _ t frozen => .cells #[.iface 162 (.pointer (some ⟨low + 11, 0, none⟩))] t frozen
      | o => o).modify 13 fun
      | .cells _ t frozen => .cells #[.iface 162 (.pointer (some ⟨low + 12, 0, none⟩))] t frozen
      | o => o).modify 14 fun
      | .cells _ t frozen => .cells #[.iface 162 (.pointer (some ⟨low + 13, 0, none⟩))] t frozen
      | o => o).modify 15 fun
      | .cells _ t frozen => .cells #[.iface 162 (.pointer (some ⟨low + 14, 0, none⟩))] t frozen
      | o => o).modify 2 fun
      | .cells _ t frozen => .cells #[.iface 162 (.pointer (some ⟨low + 15, 0, none⟩))] t frozen
      | o => o).modify 16 fun
      | .cells _ t frozen => .cells #[.iface 162 (.pointer (some ⟨low + 16, 0, none⟩))] t frozen
      | o => o).modify 17 fun
      | .cells _ t frozen => .cells #[.iface 162 (.pointer (some ⟨low + 17, 0, none⟩))] t frozen
      | o => o).modify 18 fun
      | .cells _ t frozen => .cells #[.iface 162 (.pointer (some ⟨low + 18, 0, none⟩))] t frozen
      | o => o) }
theorem laid_met (os : Os) : laidMet Tryd.prog Rows.drivePlaysRow.laid ((laidWorld os).forCall (fun _ _ => 0) ⟨#[], #[.slice none 0 0, .slice none 0 0, .slice none 0 0, .int .i64 0], []⟩).memory :=
  laidMet_of_run' 8 (by kernel_rfl) (by kernel_rfl)
theorem reads (os : Os) {H : Type} (enc : TypeId × Value → H) : ∃ places, DataW.whole enc Tryd.prog ((laidWorld os).forCall (fun _ _ => 0) ⟨#[], #[.slice none 0 0, .slice none 0 0, .slice none 0 0, .int .i64 0], []⟩).memory Tryd.f11.params.toList Rows.drivePlaysSpec.vars false (#[.slice none 0 0, .slice none 0 0, .slice none 0 0, .int .i64 0] : Array Value).toList 8 = some ([.nil, .nil, .nil, .lit (.int .i64 0)], [], places) :=
  ⟨[], by kernel_rfl⟩
set_option maxRecDepth 100000 in
theorem lifted (os : Os) (started : os.Started) (H : Type) (enc : TypeId × Value → H) (F : Stop.Interp) :
    ReturnsInHanded {} Tryd.checked os 11 .any ((OpenSpec.ofChange Rows.drivePlaysSpec).preRow enc Tryd.prog Tryd.f11 Rows.drivePlaysRow.domain false Rows.drivePlaysRow.laid) (((OpenSpec.ofChange Rows.drivePlaysSpec).at F).post enc Tryd.prog Tryd.f11 false true false false) := by
  obtain ⟨places, hx⟩ := reads os enc
  refine returnsInHanded_of_row (C := Tryd.checked) (s := OpenSpec.ofChange Rows.drivePlaysSpec) noKnob started (by kernel_rfl) Tryd.func11
    (witness_row_atRef (enc := enc) (C := Tryd.checked) false (laidWorld os) #[.slice none 0 0, .slice none 0 0, .slice none 0 0, .int .i64 0] rfl (by kernel_rfl) (by kernel_rfl) (by kernel_rfl)
      (OpenSpec.preRow_of_cond 8 hx (by kernel_rfl) (fun k hk => by cases hk) (by kernel_rfl) (laid_met os))) ?_
  intro W base args ds gs before hval hW _ _ _ hL _ _
  exact contract H enc W base args ds gs before hval hW hL
set_option maxHeartbeats 100000000 in
theorem closed : joinedFacts Tryd.pinned.checked.prog 11 Tryd.f11 (OpenSpec.ofChange Rows.drivePlaysSpec).bare Rows.drivePlaysRow = true := by
  unfold joinedFacts
  repeat' (with_reducible refine Bool.and_eq_true_iff.mpr ⟨?_, ?_⟩)
  all_goals (as_aux_lemma => kernel_rfl)
theorem said : Rows.DrivePlaysSaid :=
  OpenClaim.holds_of_cond 11 Tryd.f11 rfl rfl rfl rfl rfl rfl rfl ⟨rfl, rfl, rfl, rfl, rfl⟩ rfl rfl rfl rfl rfl (by kernel_rfl) Tryd.func11 closed
    (of_decide_eq_true (by kernel_rfl)) (by unfold Func.isWrapper; first | (rw [if_pos (by decide +kernel)]; kernel_rfl) | (rw [if_neg (by decide +kernel)]; exact ⟨rfl, rfl⟩))
    (fun os started H enc _ F => by rw [OpenClaim.pre_eq_preRow]; exact lifted os started H enc F)
theorem plain (f : FuncId) (fn : Func) (hf : Tryd.pinned.checked.prog.funcNamed "shale/shalelaw15.DrivePlays" = some f) (hfn : Tryd.pinned.checked.prog.funcs[f]? = some fn) :
    true = Tryd.pinned.checked.prog.looks [] ∧ ∀ (j : Nat) t, fn.params[j]? = some t → Tryd.pinned.checked.prog.wantsStandIn t = false := by
  obtain rfl : f = 11 := Option.some.inj ((show Tryd.prog.funcNamed "shale/shalelaw15.DrivePlays" = some 11 by kernel_rfl).symm.trans hf) |>.symm
  obtain rfl : fn = Tryd.f11 := (Option.some.inj (Tryd.func11.symm.trans hfn)).symm
  refine ⟨by kernel_rfl, fun j t ht => ?_⟩
  rw [Tryd.params11] at ht
  have hm : t = 37 ∨ t = 38 ∨ t = 89 ∨ t = 3 := by simpa using Array.mem_of_getElem? ht
  rcases hm with rfl | rfl | rfl | rfl
  · exact (show Tryd.prog.wantsStandIn 37 = false by kernel_rfl)
  · exact (show Tryd.prog.wantsStandIn 38 = false by kernel_rfl)
  · exact (show Tryd.prog.wantsStandIn 89 = false by kernel_rfl)
  · exact (show Tryd.prog.wantsStandIn 3 = false by kernel_rfl)
theorem card : Rows.DrivePlaysCardSaid :=
  Claim7.holds_tied_plain_at .later [] _ _ _ _ said (fun _ h => by cases h) (by kernel_rfl) (fun _ h => by cases h) drivePlays_row_tie rfl ⟨rfl, rfl⟩ (by kernel_rfl) rfl plain (by kernel_rfl)
end Go.Proofs.YtcapijdokbkgaaaDoor.lawDrivePlays
