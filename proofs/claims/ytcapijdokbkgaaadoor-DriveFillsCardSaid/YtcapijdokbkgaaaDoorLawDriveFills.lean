/- DriveFills holds: whatever the input, the law answers true. Conditions: those of the given statement alone. -/
import Derived.Test.YtcapijdokbkgaaaDoorCards
import Derived.Test.YtcapijdokbkgaaaDoorTie
import Derived.Test.YtcapijdokbkgaaaDoorWDriveFillsA
import Derived.Test.YtcapijdokbkgaaaDoorWDriveFillsC
namespace Go.Proofs.YtcapijdokbkgaaaDoor.lawDriveFills
open Go.Sx Go.ChangeShapes Go.WideShapes Go.ChangeAt Go.RowKit
set_option linter.unusedVariables false
theorem laidPlain {W : World} (h : laidMetH Tryd.prog Rows.driveFillsRow.laid W) : laidMet Tryd.prog Rows.driveFillsRow.laid W := h
theorem er0 {W : World} (h : laidMetH Tryd.prog Rows.driveFillsRow.laid W) : Er (eOf W) W 4 :=
  er_met (laidPlain h) "shale/api.ErrNumber" Rows.laid_shale_api_ErrNumber (by simp [Rows.driveFillsRow]) [110, 111, 32, 115, 117, 99, 104, 32, 110, 117, 109, 98, 101, 114] 4 rfl (by kernel_rfl) (by kernel_rfl)
theorem er1 {W : World} (h : laidMetH Tryd.prog Rows.driveFillsRow.laid W) : Er (eOf W) W 6 :=
  er_met (laidPlain h) "shale/api.ErrMany" Rows.laid_shale_api_ErrMany (by simp [Rows.driveFillsRow]) [109, 111, 114, 101, 32, 105, 115, 32, 97, 109, 105, 115, 115, 32, 116, 104, 97, 110, 32, 99, 97, 110, 32, 98, 101, 32, 109, 101, 110, 100, 101, 100] 6 rfl (by kernel_rfl) (by kernel_rfl)
theorem er2 {W : World} (h : laidMetH Tryd.prog Rows.driveFillsRow.laid W) : Er (eOf W) W 3 :=
  er_met (laidPlain h) "shale/api.ErrGeometry" Rows.laid_shale_api_ErrGeometry (by simp [Rows.driveFillsRow]) [110, 111, 32, 115, 117, 99, 104, 32, 99, 104, 105, 112] 3 rfl (by kernel_rfl) (by kernel_rfl)
theorem er3 {W : World} (h : laidMetH Tryd.prog Rows.driveFillsRow.laid W) : Er (eOf W) W 0 :=
  er_met (laidPlain h) "shale/api.ErrDead" Rows.laid_shale_api_ErrDead (by simp [Rows.driveFillsRow]) [116, 104, 101, 32, 112, 111, 119, 101, 114, 32, 105, 115, 32, 111, 102, 102] 0 rfl (by kernel_rfl) (by kernel_rfl)
theorem er4 {W : World} (h : laidMetH Tryd.prog Rows.driveFillsRow.laid W) : Er (eOf W) W 1 :=
  er_met (laidPlain h) "shale/api.ErrOrder" Rows.laid_shale_api_ErrOrder (by simp [Rows.driveFillsRow]) [105, 116, 32, 100, 111, 101, 115, 32, 110, 111, 116, 32, 99, 111, 109, 101, 32, 104, 101, 114, 101] 1 rfl (by kernel_rfl) (by kernel_rfl)
theorem er5 {W : World} (h : laidMetH Tryd.prog Rows.driveFillsRow.laid W) : Er (eOf W) W 5 :=
  er_met (laidPlain h) "shale/api.ErrFailed" Rows.laid_shale_api_ErrFailed (by simp [Rows.driveFillsRow]) [116, 104, 101, 32, 99, 104, 105, 112, 32, 102, 97, 105, 108, 101, 100] 5 rfl (by kernel_rfl) (by kernel_rfl)
theorem er6 {W : World} (h : laidMetH Tryd.prog Rows.driveFillsRow.laid W) : Er (eOf W) W 7 :=
  er_met (laidPlain h) "shale/api.ErrBad" Rows.laid_shale_api_ErrBad (by simp [Rows.driveFillsRow]) [116, 104, 101, 32, 98, 108, 111, 99, 107, 32, 105, 115, 32, 98, 97, 100] 7 rfl (by kernel_rfl) (by kernel_rfl)
theorem er7 {W : World} (h : laidMetH Tryd.prog Rows.driveFillsRow.laid W) : Er (eOf W) W 2 :=
  er_met (laidPlain h) "shale/api.ErrSize" Rows.laid_shale_api_ErrSize (by simp [Rows.driveFillsRow]) [110, 111, 32, 115, 101, 99, 116, 111, 114, 39, 115, 32, 115, 105, 122, 101] 2 rfl (by kernel_rfl) (by kernel_rfl)
set_option maxRecDepth 100000 in
theorem contract (H : Type) (enc : TypeId × Value → H) (W : World) (base : Nat) (args : Array Value) (ds gs : List (DataW H)) (before : List MemPlace)
    (hval : ∀ (j : Nat) t v, Tryd.f9.params[j]? = some t → args[j]? = some v → Value.okWide Tryd.prog W .any base t v)
    (hW : DataW.Whole enc Tryd.prog Tryd.f9.params.toList Rows.driveFillsSpec.vars false W args.toList ds gs before) (hL : laidMetH Tryd.prog Rows.driveFillsRow.laid W) :
    Calls Tryd.prog 9 args W fun e W' => ∃ v, e = .returned v ∧ Rows.driveFillsSpec.post enc Tryd.prog Tryd.f9 false true false false W args v W' := by
  have hW' := hW
  obtain ⟨p, q, hA0, hV, rfl, hfz, hnd⟩ := hW
  have hA : DataW.TrodAll enc Tryd.prog W 0 (fun _ => true) true Tryd.f9.params.toList args.toList ds p := hA0
  rw [Tryd.params9] at hA hval
  obtain ⟨v0, vs0, d0, ds0, p0, q0, hargs, rfl, rfl, h0, r0⟩ := trodAll_cons hA
  obtain ⟨v1, vs1, d1, ds1, p1, q1, rfl, rfl, rfl, h1, r1⟩ := trodAll_cons r0
  obtain ⟨v2, vs2, d2, ds2, p2, q2, rfl, rfl, rfl, h2, r2⟩ := trodAll_cons r1
  obtain ⟨rfl, rfl, rfl⟩ := trodAll_nil r2
  obtain rfl : args = #[v0, v1, v2] := by cases args; simp_all
  obtain ⟨rfl, rfl⟩ := trodVars_none hV
  obtain ⟨a0, rfl, rfl, rfl, w0⟩ := open_int Tryd.underlying3 (hval 0 3 v0 rfl rfl) h0
  obtain ⟨A1, c1, l1, rfl, hc1, hp1⟩ := open_bss Tryd.underlying82 Tryd.underlying22 Tryd.underlying5 (by kernel_rfl) (by kernel_rfl) (hval 1 82 v1 rfl rfl) h1
  obtain ⟨a2, rfl, rfl, rfl⟩ := open_bool Tryd.underlying4 (hval 2 4 v2 rfl rfl) h2
  clear hA0
  simp only [List.append_nil, List.nil_append] at hW'
  refine Calls.mono (walk_DriveFills a0 A1 c1 l1 a2 (eOf W) W hp1 (er3 hL) (er4 hL) (er7 hL) (er5 hL) (er1 hL) (er6 hL)) (fun e W' ⟨he, hs⟩ => ?_)
  subst he
  have hb := fr_below hs
  refine ⟨_, rfl, _, _, _, [], _, [], hW', (trodAll_cons_mk (shut_bool Tryd.underlying4 true) trodAll_mk0), (trodAll_cons_mk (shut_int Tryd.underlying3 w0) (trodAll_cons_mk (Below.trod laidOutT (by kernel_rfl) (of_decide_eq_true (by kernel_rfl)) h1 hb (fun x hx => by simpa using hW'.lt x (by simp [hx]))) (trodAll_cons_mk (shut_bool Tryd.underlying4 a2) trodAll_mk0))), rfl, hb.frame _, fun h => by cases h⟩
/-- A world for the witness. -/
noncomputable def low : Nat := (World.holding Tryd.prog default ⟨#[], #[], []⟩).heap.size
noncomputable def laidWorld (os : Os) : World :=
  { World.holding Tryd.prog os ⟨#[.cells #[.string ⟨#[110, 111, 32, 115, 117, 99, 104, 32, 110, 117, 109, 98, 101, 114]⟩] 178, .cells #[.string ⟨#[109, 111, 114, 101, 32, 105, 115, 32, 97, 109, 105, 115, 115, 32, 116, 104, 97, 110, 32, 99, 97, 110, 32, 98, 101, 32, 109, 101, 110, 100, 101, 100]⟩] 178, .cells #[.string ⟨#[110, 111, 32, 115, 117, 99, 104, 32, 99, 104, 105, 112]⟩] 178, .cells #[.string ⟨#[116, 104, 101, 32, 112, 111, 119, 101, 114, 32, 105, 115, 32, 111, 102, 102]⟩] 178, .cells #[.string ⟨#[105, 116, 32, 100, 111, 101, 115, 32, 110, 111, 116, 32, 99, 111, 109, 101, 32, 104, 101, 114, 101]⟩] 178, .cells #[.string ⟨#[116, 104, 101, 32, 99, 104, 105, 112, 32, 102, 97, 105, 108, 101, 100]⟩] 178, .cells #[.string ⟨#[116, 104, 101, 32, 98, 108, 111, 99, 107, 32, 105, 115, 32, 98, 97, 100]⟩] 178, .cells #[.string ⟨#[110, 111, 32, 115, 101, 99, 116, 111, 114, 39, 115, 32, 115, 105, 122, 101]⟩] 178], #[], []⟩ with heap := (((((((((World.holding Tryd.prog os ⟨#[.cells #[.string ⟨#[110, 111, 32, 115, 117, 99, 104, 32, 110, 117, 109, 98, 101, 114]⟩] 178, .cells #[.string ⟨#[109, 111, 114, 101, 32, 105, 115, 32, 97, 109, 105, 115, 115, 32, 116, 104, 97, 110, 32, 99, 97, 110, 32, 98, 101, 32, 109, 101, 110, 100, 101, 100]⟩] 178, .cells #[.string ⟨#[110, 111, 32, 115, 117, 99, 104, 32, 99, 104, 105, 112]⟩] 178, .cells #[.string ⟨#[116, 104, 101, 32, 112, 111, 119, 101, 114, 32, 105, 115, 32, 111, 102, 102]⟩] 178, .cells #[.string ⟨#[105, 116, 32, 100, 111, 101, 115, 32, 110, 111, 116, 32, 99, 111, 109, 101, 32, 104, 101, 114, 101]⟩] 178, .cells #[.string ⟨#[116, 104, 101, 32, 99, 104, 105, 112, 32, 102, 97, 105, 108, 101, 100]⟩] 178, .cells #[.string ⟨#[116, 104, 101, 32, 98, 108, 111, 99, 107, 32, 105, 115, 32, 98, 97, 100]⟩] 178, .cells #[.string ⟨#[110, 111, 32, 115, 101, 99, 116, 111, 114, 39, 115, 32, 115, 105, 122, 101]⟩] 178], #[], []⟩).heap.modify 4 fun
      | .cells _ t frozen => .cells #[.iface 162 (.pointer (some ⟨low + 0, 0, none⟩))] t frozen
      | o => o).modify 6 fun
      | .cells _ t frozen => .cells #[.iface 162 (.pointer (some ⟨low + 1, 0, none⟩))] t frozen
      | o => o).modify 3 fun
      | .cells _ t frozen => .cells #[.iface 162 (.pointer (some ⟨low + 2, 0, none⟩))] t frozen
      | o => o).modify 0 fun
      | .cells _ t frozen => .cells #[.iface 162 (.pointer (some ⟨low + 3, 0, none⟩))] t frozen
      | o => o).modify 1 fun
      | .cells _ t frozen => .cells #[.iface 162 (.pointer (some ⟨low + 4, 0, none⟩))] t frozen
      | o => o).modify 5 fun
      | .cells _ t frozen => .cells #[.iface 162 (.pointer (some ⟨low + 5, 0, none⟩))] t frozen
      | o => o).modify 7 fun
      | .cells _ t frozen => .cells #[.iface 162 (.pointer (some ⟨low + 6, 0, none⟩))] t frozen
      | o => o).modify 2 fun
      | .cells _ t frozen => .cells #[.iface 162 (.pointer (some ⟨low + 7, 0, none⟩))] t frozen
      | o => o) }
theorem laid_met (os : Os) : laidMet Tryd.prog Rows.driveFillsRow.laid ((laidWorld os).forCall (fun _ _ => 0) ⟨#[], #[.int .i64 0, .slice none 0 0, .bool false], []⟩).memory :=
  laidMet_of_run' 8 (by kernel_rfl) (by kernel_rfl)
theorem reads (os : Os) {H : Type} (enc : TypeId × Value → H) : ∃ places, DataW.whole enc Tryd.prog ((laidWorld os).forCall (fun _ _ => 0) ⟨#[], #[.int .i64 0, .slice none 0 0, .bool false], []⟩).memory Tryd.f9.params.toList Rows.driveFillsSpec.vars false (#[.int .i64 0, .slice none 0 0, .bool false] : Array Value).toList 8 = some ([.lit (.int .i64 0), .nil, .lit (.bool false)], [], places) :=
  ⟨[], by kernel_rfl⟩
set_option maxRecDepth 100000 in
theorem lifted (os : Os) (started : os.Started) (H : Type) (enc : TypeId × Value → H) (F : Stop.Interp) :
    ReturnsInHanded {} Tryd.checked os 9 .any ((OpenSpec.ofChange Rows.driveFillsSpec).preRow enc Tryd.prog Tryd.f9 Rows.driveFillsRow.domain false Rows.driveFillsRow.laid) (((OpenSpec.ofChange Rows.driveFillsSpec).at F).post enc Tryd.prog Tryd.f9 false true false false) := by
  obtain ⟨places, hx⟩ := reads os enc
  refine returnsInHanded_of_row (C := Tryd.checked) (s := OpenSpec.ofChange Rows.driveFillsSpec) noKnob started (by kernel_rfl) Tryd.func9
    (witness_row_atRef (enc := enc) (C := Tryd.checked) false (laidWorld os) #[.int .i64 0, .slice none 0 0, .bool false] rfl (by kernel_rfl) (by kernel_rfl) (by kernel_rfl)
      (OpenSpec.preRow_of_cond 8 hx (by kernel_rfl) (fun k hk => by cases hk) (by kernel_rfl) (laid_met os))) ?_
  intro W base args ds gs before hval hW _ _ _ hL _ _
  exact contract H enc W base args ds gs before hval hW hL
set_option maxHeartbeats 100000000 in
theorem closed : joinedFacts Tryd.pinned.checked.prog 9 Tryd.f9 (OpenSpec.ofChange Rows.driveFillsSpec).bare Rows.driveFillsRow = true := by
  unfold joinedFacts
  repeat' (with_reducible refine Bool.and_eq_true_iff.mpr ⟨?_, ?_⟩)
  all_goals (as_aux_lemma => kernel_rfl)
theorem said : Rows.DriveFillsSaid :=
  OpenClaim.holds_of_cond 9 Tryd.f9 rfl rfl rfl rfl rfl rfl rfl ⟨rfl, rfl, rfl, rfl, rfl⟩ rfl rfl rfl rfl rfl (by kernel_rfl) Tryd.func9 closed
    (of_decide_eq_true (by kernel_rfl)) (by unfold Func.isWrapper; first | (rw [if_pos (by decide +kernel)]; kernel_rfl) | (rw [if_neg (by decide +kernel)]; exact ⟨rfl, rfl⟩))
    (fun os started H enc _ F => by rw [OpenClaim.pre_eq_preRow]; exact lifted os started H enc F)
theorem plain (f : FuncId) (fn : Func) (hf : Tryd.pinned.checked.prog.funcNamed "shale/shalelaw15.DriveFills" = some f) (hfn : Tryd.pinned.checked.prog.funcs[f]? = some fn) :
    true = Tryd.pinned.checked.prog.looks [] ∧ ∀ (j : Nat) t, fn.params[j]? = some t → Tryd.pinned.checked.prog.wantsStandIn t = false := by
  obtain rfl : f = 9 := Option.some.inj ((show Tryd.prog.funcNamed "shale/shalelaw15.DriveFills" = some 9 by kernel_rfl).symm.trans hf) |>.symm
  obtain rfl : fn = Tryd.f9 := (Option.some.inj (Tryd.func9.symm.trans hfn)).symm
  refine ⟨by kernel_rfl, fun j t ht => ?_⟩
  rw [Tryd.params9] at ht
  have hm : t = 3 ∨ t = 82 ∨ t = 4 := by simpa using Array.mem_of_getElem? ht
  rcases hm with rfl | rfl | rfl
  · exact (show Tryd.prog.wantsStandIn 3 = false by kernel_rfl)
  · exact (show Tryd.prog.wantsStandIn 82 = false by kernel_rfl)
  · exact (show Tryd.prog.wantsStandIn 4 = false by kernel_rfl)
theorem card : Rows.DriveFillsCardSaid :=
  Claim7.holds_tied_plain_at .later [] _ _ _ _ said (fun _ h => by cases h) (by kernel_rfl) (fun _ h => by cases h) driveFills_row_tie rfl ⟨rfl, rfl⟩ (by kernel_rfl) rfl plain (by kernel_rfl)
end Go.Proofs.YtcapijdokbkgaaaDoor.lawDriveFills
