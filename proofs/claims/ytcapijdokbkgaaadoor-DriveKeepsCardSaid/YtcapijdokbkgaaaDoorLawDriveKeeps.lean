/- DriveKeeps holds: whatever the input, the law answers true. Conditions: those of the given statement alone. -/
import Derived.Test.YtcapijdokbkgaaaDoorCards
import Derived.Test.YtcapijdokbkgaaaDoorTie
import Derived.Test.YtcapijdokbkgaaaDoorWDriveKeepsA
import Derived.Test.YtcapijdokbkgaaaDoorWDriveKeepsC
namespace Go.Proofs.YtcapijdokbkgaaaDoor.lawDriveKeeps
open Go.Sx Go.ChangeShapes Go.WideShapes Go.ChangeAt Go.RowKit
set_option linter.unusedVariables false
theorem laidPlain {W : World} (h : laidMetH Tryd.prog Rows.driveKeepsRow.laid W) : laidMet Tryd.prog Rows.driveKeepsRow.laid W := h
theorem er0 {W : World} (h : laidMetH Tryd.prog Rows.driveKeepsRow.laid W) : Er (eOf W) W 4 :=
  er_met (laidPlain h) "shale/api.ErrNumber" Rows.laid_shale_api_ErrNumber (by simp [Rows.driveKeepsRow]) [110, 111, 32, 115, 117, 99, 104, 32, 110, 117, 109, 98, 101, 114] 4 rfl (by kernel_rfl) (by kernel_rfl)
theorem er1 {W : World} (h : laidMetH Tryd.prog Rows.driveKeepsRow.laid W) : Er (eOf W) W 6 :=
  er_met (laidPlain h) "shale/api.ErrMany" Rows.laid_shale_api_ErrMany (by simp [Rows.driveKeepsRow]) [109, 111, 114, 101, 32, 105, 115, 32, 97, 109, 105, 115, 115, 32, 116, 104, 97, 110, 32, 99, 97, 110, 32, 98, 101, 32, 109, 101, 110, 100, 101, 100] 6 rfl (by kernel_rfl) (by kernel_rfl)
theorem er2 {W : World} (h : laidMetH Tryd.prog Rows.driveKeepsRow.laid W) : Er (eOf W) W 3 :=
  er_met (laidPlain h) "shale/api.ErrGeometry" Rows.laid_shale_api_ErrGeometry (by simp [Rows.driveKeepsRow]) [110, 111, 32, 115, 117, 99, 104, 32, 99, 104, 105, 112] 3 rfl (by kernel_rfl) (by kernel_rfl)
theorem er3 {W : World} (h : laidMetH Tryd.prog Rows.driveKeepsRow.laid W) : Er (eOf W) W 0 :=
  er_met (laidPlain h) "shale/api.ErrDead" Rows.laid_shale_api_ErrDead (by simp [Rows.driveKeepsRow]) [116, 104, 101, 32, 112, 111, 119, 101, 114, 32, 105, 115, 32, 111, 102, 102] 0 rfl (by kernel_rfl) (by kernel_rfl)
theorem er4 {W : World} (h : laidMetH Tryd.prog Rows.driveKeepsRow.laid W) : Er (eOf W) W 1 :=
  er_met (laidPlain h) "shale/api.ErrOrder" Rows.laid_shale_api_ErrOrder (by simp [Rows.driveKeepsRow]) [105, 116, 32, 100, 111, 101, 115, 32, 110, 111, 116, 32, 99, 111, 109, 101, 32, 104, 101, 114, 101] 1 rfl (by kernel_rfl) (by kernel_rfl)
theorem er5 {W : World} (h : laidMetH Tryd.prog Rows.driveKeepsRow.laid W) : Er (eOf W) W 5 :=
  er_met (laidPlain h) "shale/api.ErrFailed" Rows.laid_shale_api_ErrFailed (by simp [Rows.driveKeepsRow]) [116, 104, 101, 32, 99, 104, 105, 112, 32, 102, 97, 105, 108, 101, 100] 5 rfl (by kernel_rfl) (by kernel_rfl)
theorem er6 {W : World} (h : laidMetH Tryd.prog Rows.driveKeepsRow.laid W) : Er (eOf W) W 7 :=
  er_met (laidPlain h) "shale/api.ErrBad" Rows.laid_shale_api_ErrBad (by simp [Rows.driveKeepsRow]) [116, 104, 101, 32, 98, 108, 111, 99, 107, 32, 105, 115, 32, 98, 97, 100] 7 rfl (by kernel_rfl) (by kernel_rfl)
theorem er7 {W : World} (h : laidMetH Tryd.prog Rows.driveKeepsRow.laid W) : Er (eOf W) W 2 :=
  er_met (laidPlain h) "shale/api.ErrSize" Rows.laid_shale_api_ErrSize (by simp [Rows.driveKeepsRow]) [110, 111, 32, 115, 101, 99, 116, 111, 114, 39, 115, 32, 115, 105, 122, 101] 2 rfl (by kernel_rfl) (by kernel_rfl)
set_option maxRecDepth 100000 in
theorem contract (H : Type) (enc : TypeId × Value → H) (W : World) (base : Nat) (args : Array Value) (ds gs : List (DataW H)) (before : List MemPlace)
    (hval : ∀ (j : Nat) t v, Tryd.f10.params[j]? = some t → args[j]? = some v → Value.okWide Tryd.prog W .any base t v)
    (hW : DataW.Whole enc Tryd.prog Tryd.f10.params.toList Rows.driveKeepsSpec.vars false W args.toList ds gs before) (hL : laidMetH Tryd.prog Rows.driveKeepsRow.laid W) :
    Calls Tryd.prog 10 args W fun e W' => ∃ v, e = .returned v ∧ Rows.driveKeepsSpec.post enc Tryd.prog Tryd.f10 false true false false W args v W' := by
  have hW' := hW
  obtain ⟨p, q, hA0, hV, rfl, hfz, hnd⟩ := hW
  have hA : DataW.TrodAll enc Tryd.prog W 0 (fun _ => true) true Tryd.f10.params.toList args.toList ds p := hA0
  rw [Tryd.params10] at hA hval
  obtain ⟨v0, vs0, d0, ds0, p0, q0, hargs, rfl, rfl, h0, r0⟩ := trodAll_cons hA
  obtain ⟨v1, vs1, d1, ds1, p1, q1, rfl, rfl, rfl, h1, r1⟩ := trodAll_cons r0
  obtain ⟨v2, vs2, d2, ds2, p2, q2, rfl, rfl, rfl, h2, r2⟩ := trodAll_cons r1
  obtain ⟨rfl, rfl, rfl⟩ := trodAll_nil r2
  obtain rfl : args = #[v0, v1, v2] := by cases args; simp_all
  obtain ⟨rfl, rfl⟩ := trodVars_none hV
  obtain ⟨A0, n0, c0, l0, rfl, hn0, hc0, rfl, hs0, hz0⟩ := open_slI Tryd.underlying37 Tryd.underlying3 (by kernel_rfl) (hval 0 37 v0 rfl rfl) h0
  obtain ⟨A1, c1, l1, rfl, hc1, hp1⟩ := open_plan0 Tryd.underlying38 ftT (hval 1 38 v1 rfl rfl) h1
  obtain ⟨A2, c2, l2, rfl, hc2, hp2⟩ := open_tell15 Tryd.underlying89 doT15 pcT (hval 2 89 v2 rfl rfl) h2
  clear hA0
  simp only [List.append_nil] at hW'
  refine Calls.mono (walk_DriveKeeps A0 l0.length c0 l0 A1 c1 l1 A2 c2 l2 (eOf W) W hs0 (by omega) hp1 hp2 (er3 hL) (er4 hL) (er7 hL) (er5 hL) (er1 hL) (er6 hL)) (fun e W' ⟨he, hs⟩ => ?_)
  subst he
  have hb := fr_below hs
  refine ⟨_, rfl, _, _, _, [], _, [], hW', (trodAll_cons_mk (shut_bool Tryd.underlying4 true) trodAll_mk0), (trodAll_cons_mk (Below.trod laidOutT (by kernel_rfl) (of_decide_eq_true (by kernel_rfl)) h0 hb (fun x hx => by simpa using hW'.lt x (by simp [hx]))) (trodAll_cons_mk (Below.trod laidOutT (by kernel_rfl) (of_decide_eq_true (by kernel_rfl)) h1 hb (fun x hx => by simpa using hW'.lt x (by simp [hx]))) (trodAll_cons_mk (Below.trod laidOutT (by kernel_rfl) (of_decide_eq_true (by kernel_rfl)) h2 hb (fun x hx => by simpa using hW'.lt x (by simp [hx]))) trodAll_mk0))), rfl, hb.frame _, fun h => by cases h⟩
/-- A world for the witness. -/
noncomputable def low : Nat := (World.holding Tryd.prog default ⟨#[], #[], []⟩).heap.size
noncomputable def laidWorld (os : Os) : World :=
  { World.holding Tryd.prog os ⟨#[.cells #[.string ⟨#[110, 111, 32, 115, 117, 99, 104, 32, 110, 117, 109, 98, 101, 114]⟩] 178, .cells #[.string ⟨#[109, 111, 114, 101, 32, 105, 115, 32, 97, 109, 105, 115, 115, 32, 116, 104, 97, 110, 32, 99, 97, 110, 32, 98, 101, 32, 109, 101, 110, 100, 101, 100]⟩] 178, .cells #[.string ⟨#[110, 111, 32, 115, 117, 99, 104, 32, 99, 104, 105, 112]⟩] 178, .cells #[.string ⟨#[116, 104, 101, 32, 112, 111, 119, 101, 114, 32, 105, 115, 32, 111, 102, 102]⟩] 178, .cells #[.string ⟨#[105, 116, 32, 100, 111, 101, 115, 32, 110, 111, 116, 32, 99, 111, 109, 101, 32, 104, 101, 114, 101]⟩] 178, .cells #[.string ⟨#[116, 104, 101, 32, 99, 104, 105, 112, 32, 102, 97, 105, 108, 101, 100]⟩] 178, .cells #[.string ⟨#[116, 104, 101, 32, 98, 108, 111, 99, 107, 32, 105, 115, 32, 98, 97, 100]⟩] 178, .cells #[.string ⟨#[110, 111, 32, 115, 101, 99, 116, 111, 114, 39, 115, 32, 115, 105, 122, 101]⟩] 178], #[], []⟩ with heap := (((((((((World.holding Tryd.prog os ⟨#[.cells #[.string ⟨#[110, 111, 32, 115, 117, 99, 104, 32, 110, 117, 109, 98, 101, 114]⟩] 178, .cells #[.string ⟨#[109, 111, 114, 101, 32, 105, 115, 32, 97, 109, 105, 115, 115, 32, 116, 104, 97, 110, 32, 99, 97, 110, 32, 98, 101, 32, 109, 101, 110, 100, 101, 100]⟩] 178, .cells #[.string ⟨#[110, 111, 32, 115, 117, 99, 104, 32, 99, 104, 105, 112]⟩] 178, .cells #[.string ⟨#[116, 104, 101, 32, 112, 111, 119, 101, 114, 32, 105, 115, 32, 111, 102, 102]⟩] 178, .cells #[.string ⟨#[105, 116, 32, 100, 111, 101, 115, 32, 110, 111, 116, 32, 99, 111, 109, 101, 32, 104, 101, 114, 101]⟩] 178, .cells #[.string ⟨#[116, 104, 101, 32, 99, 104, 105, 112, 32, 102, 97, 105, 108, 101, 100]⟩] 178, .cells #[.string ⟨#[116, 104, 101, 32, 98, 108, 111, 99, 107, 32, 105, 115, 32, 98, 97, 100]⟩] 178, .cells #[.string ⟨#[110, 111, 32, 115, 101, 99, 116, 111, 114, 39, 115, 32, 115, 105, 122, 101]⟩] 178], #[], []⟩).heap.modify 4 fun
      | .cells _ t frozen => .cells #[.iface 162 (.pointer (some ⟨low + 0, 0, none⟩))] t frozen
      | o => o).modify 6 fun
      | .cells _ t frozen => .cells #[.iface 162 (.pointer (some ⟨low + 1, 0, none⟩))] t frozen
      | o => o).modify 3 fun
      | .cells _ t frozen => .cells #[.iface 162 (.pointer (some ⟨low + 2, 0, none⟩))] t frozen
      | o => o).modify 0 fun
      | .cells _ t frozen => .cells #[.iface 162 (.pointer (some ⟨low + 3, 0, none⟩))] t frozen
      | o => o).modify 1 fun
      | .cells _ t frozen => .cells #[.iface 162 (.pointer (some ⟨low + 4, 0, none⟩))] t frozen
      | o => o).modify 5 fun
      | .cells _ t frozen => .cells #[.iface 162 (.pointer (some ⟨low + 5, 0, none⟩))] t frozen
      | o => o).modify 7 fun
      | .cells _ t frozen => .cells #[.iface 162 (.pointer (some ⟨low + 6, 0, none⟩))] t frozen
      | o => o).modify 2 fun
      | .cells _ t frozen => .cells #[.iface 162 (.pointer (some ⟨low + 7, 0, none⟩))] t frozen
      | o => o) }
theorem laid_met (os : Os) : laidMet Tryd.prog Rows.driveKeepsRow.laid ((laidWorld os).forCall (fun _ _ => 0) ⟨#[], #[.slice none 0 0, .slice none 0 0, .slice none 0 0], []⟩).memory :=
  laidMet_of_run' 8 (by kernel_rfl) (by kernel_rfl)
theorem reads (os : Os) {H : Type} (enc : TypeId × Value → H) : ∃ places, DataW.whole enc Tryd.prog ((laidWorld os).forCall (fun _ _ => 0) ⟨#[], #[.slice none 0 0, .slice none 0 0, .slice none 0 0], []⟩).memory Tryd.f10.params.toList Rows.driveKeepsSpec.vars false (#[.slice none 0 0, .slice none 0 0, .slice none 0 0] : Array Value).toList 8 = some ([.nil, .nil, .nil], [], places) :=
  ⟨[], by kernel_rfl⟩
set_option maxRecDepth 100000 in
theorem lifted (os : Os) (started : os.Started) (H : Type) (enc : TypeId × Value → H) (F : Stop.Interp) :
    ReturnsInHanded {} Tryd.checked os 10 .any ((OpenSpec.ofChange Rows.driveKeepsSpec).preRow enc Tryd.prog Tryd.f10 Rows.driveKeepsRow.domain false Rows.driveKeepsRow.laid) (((OpenSpec.ofChange Rows.driveKeepsSpec).at F).post enc Tryd.prog Tryd.f10 false true false false) := by
  obtain ⟨places, hx⟩ := reads os enc
  refine returnsInHanded_of_row (C := Tryd.checked) (s := OpenSpec.ofChange Rows.driveKeepsSpec) noKnob started (by kernel_rfl) Tryd.func10
    (witness_row_atRef (enc := enc) (C := Tryd.checked) false (laidWorld os) #[.slice none 0 0, .slice none 0 0, .slice none 0 0] rfl (by kernel_rfl) (by kernel_rfl) (by kernel_rfl)
      (OpenSpec.preRow_of_cond 8 hx (by kernel_rfl) (fun k hk => by cases hk) (by kernel_rfl) (laid_met os))) ?_
  intro W base args ds gs before hval hW _ _ _ hL _ _
  exact contract H enc W base args ds gs before hval hW hL
set_option maxHeartbeats 100000000 in
theorem closed : joinedFacts Tryd.pinned.checked.prog 10 Tryd.f10 (OpenSpec.ofChange Rows.driveKeepsSpec).bare Rows.driveKeepsRow = true := by
  unfold joinedFacts
  repeat' (with_reducible refine Bool.and_eq_true_iff.mpr ⟨?_, ?_⟩)
  all_goals (as_aux_lemma => kernel_rfl)
theorem said : Rows.DriveKeepsSaid :=
  OpenClaim.holds_of_cond 10 Tryd.f10 rfl rfl rfl rfl rfl rfl rfl ⟨rfl, rfl, rfl, rfl, rfl⟩ rfl rfl rfl rfl rfl (by kernel_rfl) Tryd.func10 closed
    (of_decide_eq_true (by kernel_rfl)) (by unfold Func.isWrapper; first | (rw [if_pos (by decide +kernel)]; kernel_rfl) | (rw [if_neg (by decide +kernel)]; exact ⟨rfl, rfl⟩))
    (fun os started H enc _ F => by rw [OpenClaim.pre_eq_preRow]; exact lifted os started H enc F)
theorem plain (f : FuncId) (fn : Func) (hf : Tryd.pinned.checked.prog.funcNamed "shale/shalelaw15.DriveKeeps" = some f) (hfn : Tryd.pinned.checked.prog.funcs[f]? = some fn) :
    true = Tryd.pinned.checked.prog.looks [] ∧ ∀ (j : Nat) t, fn.params[j]? = some t → Tryd.pinned.checked.prog.wantsStandIn t = false := by
  obtain rfl : f = 10 := Option.some.inj ((show Tryd.prog.funcNamed "shale/shalelaw15.DriveKeeps" = some 10 by kernel_rfl).symm.trans hf) |>.symm
  obtain rfl : fn = Tryd.f10 := (Option.some.inj (Tryd.func10.symm.trans hfn)).symm
  refine ⟨by kernel_rfl, fun j t ht => ?_⟩
  rw [Tryd.params10] at ht
  have hm : t = 37 ∨ t = 38 ∨ t = 89 := by simpa using Array.mem_of_getElem? ht
  rcases hm with rfl | rfl | rfl
  · exact (show Tryd.prog.wantsStandIn 37 = false by kernel_rfl)
  · exact (show Tryd.prog.wantsStandIn 38 = false by kernel_rfl)
  · exact (show Tryd.prog.wantsStandIn 89 = false by kernel_rfl)
theorem card : Rows.DriveKeepsCardSaid :=
  Claim7.holds_tied_plain_at .later [] _ _ _ _ said (fun _ h => by cases h) (by kernel_rfl) (fun _ h => by cases h) driveKeeps_row_tie rfl ⟨rfl, rfl⟩ (by kernel_rfl) rfl plain (by kernel_rfl)
end Go.Proofs.YtcapijdokbkgaaaDoor.lawDriveKeeps
