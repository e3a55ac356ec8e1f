/- ModelForgets holds: whatever the input, the law answers true. Conditions: those of the given statement alone. -/
import Derived.Test.YtaamaifnmppbgaaDoorCards
import Derived.Test.YtaamaifnmppbgaaDoorTie
import Derived.Test.YtaamaifnmppbgaaDoorWModelForgetsA
import Derived.Test.YtaamaifnmppbgaaDoorWModelForgetsB
namespace Go.Proofs.YtaamaifnmppbgaaDoor.lawModelForgets
open Go.Sx Go.ChangeShapes Go.WideShapes Go.ChangeAt Go.RowKit
set_option linter.unusedVariables false
theorem laidPlain {W : World} (h : laidMetH Tryd.prog Rows.modelForgetsRow.laid W) : laidMet Tryd.prog Rows.modelForgetsRow.laid W := h
theorem er0 {W : World} (h : laidMetH Tryd.prog Rows.modelForgetsRow.laid W) : Er (eOf W) W 1 :=
  er_met (laidPlain h) "shale/api.ErrNumber" Rows.laid_shale_api_ErrNumber (by simp [Rows.modelForgetsRow]) [110, 111, 32, 115, 117, 99, 104, 32, 110, 117, 109, 98, 101, 114] 1 rfl (by kernel_rfl) (by kernel_rfl)
theorem er1 {W : World} (h : laidMetH Tryd.prog Rows.modelForgetsRow.laid W) : Er (eOf W) W 0 :=
  er_met (laidPlain h) "shale/api.ErrGeometry" Rows.laid_shale_api_ErrGeometry (by simp [Rows.modelForgetsRow]) [110, 111, 32, 115, 117, 99, 104, 32, 99, 104, 105, 112] 0 rfl (by kernel_rfl) (by kernel_rfl)
theorem er2 {W : World} (h : laidMetH Tryd.prog Rows.modelForgetsRow.laid W) : Er (eOf W) W 2 :=
  er_met (laidPlain h) "shale/api.ErrSize" Rows.laid_shale_api_ErrSize (by simp [Rows.modelForgetsRow]) [110, 111, 32, 115, 101, 99, 116, 111, 114, 39, 115, 32, 115, 105, 122, 101] 2 rfl (by kernel_rfl) (by kernel_rfl)
set_option maxRecDepth 100000 in
theorem contract (H : Type) (enc : TypeId × Value → H) (W : World) (base : Nat) (args : Array Value) (ds gs : List (DataW H)) (before : List MemPlace)
    (hval : ∀ (j : Nat) t v, Tryd.f4.params[j]? = some t → args[j]? = some v → Value.okWide Tryd.prog W .any base t v)
    (hW : DataW.Whole enc Tryd.prog Tryd.f4.params.toList Rows.modelForgetsSpec.vars false W args.toList ds gs before) (hL : laidMetH Tryd.prog Rows.modelForgetsRow.laid W) :
    Calls Tryd.prog 4 args W fun e W' => ∃ v, e = .returned v ∧ Rows.modelForgetsSpec.post enc Tryd.prog Tryd.f4 false true false false W args v W' := by
  have hW' := hW
  obtain ⟨p, q, hA0, hV, rfl, hfz, hnd⟩ := hW
  have hA : DataW.TrodAll enc Tryd.prog W 0 (fun _ => true) true Tryd.f4.params.toList args.toList ds p := hA0
  rw [Tryd.params4] at hA hval
  obtain ⟨v0, vs0, d0, ds0, p0, q0, hargs, rfl, rfl, h0, r0⟩ := trodAll_cons hA
  obtain ⟨v1, vs1, d1, ds1, p1, q1, rfl, rfl, rfl, h1, r1⟩ := trodAll_cons r0
  obtain ⟨rfl, rfl, rfl⟩ := trodAll_nil r1
  obtain rfl : args = #[v0, v1] := by cases args; simp_all
  obtain ⟨rfl, rfl⟩ := trodVars_none hV
  obtain ⟨A0, n0, c0, l0, rfl, hn0, hc0, rfl, hs0, hz0⟩ := open_slE Tryd.underlying38 Tryd.underlying33 Tryd.underlying3 Tryd.underlying4 Tryd.underlying31 Tryd.underlying5 (by kernel_rfl) (by kernel_rfl) (by kernel_rfl) (by kernel_rfl) (by kernel_rfl) rfl rfl rfl (hval 0 38 v0 rfl rfl) h0
  obtain ⟨a1, rfl, rfl, rfl, w1⟩ := open_int Tryd.underlying3 (hval 1 3 v1 rfl rfl) h1
  clear hA0
  simp only [List.append_nil] at hW'
  refine Calls.mono (walk_ModelForgets A0 l0.length c0 l0 a1 (eOf W) W hs0 hz0 (by omega) (er0 hL) (er2 hL)) (fun e W' ⟨he, hs⟩ => ?_)
  subst he
  have hb := fr_below hs
  refine ⟨_, rfl, _, _, _, [], _, [], hW', (trodAll_cons_mk (shut_bool Tryd.underlying4 true) trodAll_mk0), (trodAll_cons_mk (Below.trod laidOutT (by kernel_rfl) (of_decide_eq_true (by kernel_rfl)) h0 hb (fun x hx => by simpa using hW'.lt x (by simp [hx]))) (trodAll_cons_mk (shut_int Tryd.underlying3 w1) trodAll_mk0)), rfl, hb.frame _, fun h => by cases h⟩
/-- A world for the witness. -/
noncomputable def low : Nat := (World.holding Tryd.prog default ⟨#[], #[], []⟩).heap.size
noncomputable def laidWorld (os : Os) : World :=
  { World.holding Tryd.prog os ⟨#[.cells #[.string ⟨#[110, 111, 32, 115, 117, 99, 104, 32, 110, 117, 109, 98, 101, 114]⟩] 90, .cells #[.string ⟨#[110, 111, 32, 115, 117, 99, 104, 32, 99, 104, 105, 112]⟩] 90, .cells #[.string ⟨#[110, 111, 32, 115, 101, 99, 116, 111, 114, 39, 115, 32, 115, 105, 122, 101]⟩] 90], #[], []⟩ with heap := ((((World.holding Tryd.prog os ⟨#[.cells #[.string ⟨#[110, 111, 32, 115, 117, 99, 104, 32, 110, 117, 109, 98, 101, 114]⟩] 90, .cells #[.string ⟨#[110, 111, 32, 115, 117, 99, 104, 32, 99, 104, 105, 112]⟩] 90, .cells #[.string ⟨#[110, 111, 32, 115, 101, 99, 116, 111, 114, 39, 115, 32, 115, 105, 122, 101]⟩] 90], #[], []⟩).heap.modify 1 fun
      | .cells _ t frozen => .cells #[.iface 73 (.pointer (some ⟨low + 0, 0, none⟩))] t frozen
      | o => o).modify 0 fun
      | .cells _ t frozen => .cells #[.iface 73 (.pointer (some ⟨low + 1, 0, none⟩))] t frozen
      | o => o).modify 2 fun
      | .cells _ t frozen => .cells #[.iface 73 (.pointer (some ⟨low + 2, 0, none⟩))] t frozen
      | o => o) }
theorem laid_met (os : Os) : laidMet Tryd.prog Rows.modelForgetsRow.laid ((laidWorld os).forCall (fun _ _ => 0) ⟨#[], #[.slice none 0 0, .int .i64 0], []⟩).memory :=
  laidMet_of_run' 8 (by kernel_rfl) (by kernel_rfl)
theorem reads (os : Os) {H : Type} (enc : TypeId × Value → H) : ∃ places, DataW.whole enc Tryd.prog ((laidWorld os).forCall (fun _ _ => 0) ⟨#[], #[.slice none 0 0, .int .i64 0], []⟩).memory Tryd.f4.params.toList Rows.modelForgetsSpec.vars false (#[.slice none 0 0, .int .i64 0] : Array Value).toList 8 = some ([.nil, .lit (.int .i64 0)], [], places) :=
  ⟨[], by kernel_rfl⟩
set_option maxRecDepth 100000 in
theorem lifted (os : Os) (started : os.Started) (H : Type) (enc : TypeId × Value → H) (F : Stop.Interp) :
    ReturnsInHanded {} Tryd.checked os 4 .any ((OpenSpec.ofChange Rows.modelForgetsSpec).preRow enc Tryd.prog Tryd.f4 Rows.modelForgetsRow.domain false Rows.modelForgetsRow.laid) (((OpenSpec.ofChange Rows.modelForgetsSpec).at F).post enc Tryd.prog Tryd.f4 false true false false) := by
  obtain ⟨places, hx⟩ := reads os enc
  refine returnsInHanded_of_row (C := Tryd.checked) (s := OpenSpec.ofChange Rows.modelForgetsSpec) noKnob started (by kernel_rfl) Tryd.func4
    (witness_row_atRef (enc := enc) (C := Tryd.checked) false (laidWorld os) #[.slice none 0 0, .int .i64 0] rfl (by kernel_rfl) (by kernel_rfl) (by kernel_rfl)
      (OpenSpec.preRow_of_cond 8 hx (by kernel_rfl) (fun k hk => by cases hk) (by kernel_rfl) (laid_met os))) ?_
  intro W base args ds gs before hval hW _ _ _ hL _ _
  exact contract H enc W base args ds gs before hval hW hL
set_option maxHeartbeats 100000000 in
theorem closed : joinedFacts Tryd.pinned.checked.prog 4 Tryd.f4 (OpenSpec.ofChange Rows.modelForgetsSpec).bare Rows.modelForgetsRow = true := by
  unfold joinedFacts
  repeat' (with_reducible refine Bool.and_eq_true_iff.mpr ⟨?_, ?_⟩)
  all_goals (as_aux_lemma => kernel_rfl)
theorem said : Rows.ModelForgetsSaid :=
  OpenClaim.holds_of_cond 4 Tryd.f4 rfl rfl rfl rfl rfl rfl rfl ⟨rfl, rfl, rfl, rfl, rfl⟩ rfl rfl rfl rfl rfl (by kernel_rfl) Tryd.func4 closed
    (of_decide_eq_true (by kernel_rfl)) (by unfold Func.isWrapper; first | (rw [if_pos (by decide +kernel)]; kernel_rfl) | (rw [if_neg (by decide +kernel)]; exact ⟨rfl, rfl⟩))
    (fun os started H enc _ F => by rw [OpenClaim.pre_eq_preRow]; exact lifted os started H enc F)
theorem plain (f : FuncId) (fn : Func) (hf : Tryd.pinned.checked.prog.funcNamed "shale/shalelaw26.ModelForgets" = some f) (hfn : Tryd.pinned.checked.prog.funcs[f]? = some fn) :
    true = Tryd.pinned.checked.prog.looks [] ∧ ∀ (j : Nat) t, fn.params[j]? = some t → Tryd.pinned.checked.prog.wantsStandIn t = false := by
  obtain rfl : f = 4 := Option.some.inj ((show Tryd.prog.funcNamed "shale/shalelaw26.ModelForgets" = some 4 by kernel_rfl).symm.trans hf) |>.symm
  obtain rfl : fn = Tryd.f4 := (Option.some.inj (Tryd.func4.symm.trans hfn)).symm
  refine ⟨by kernel_rfl, fun j t ht => ?_⟩
  rw [Tryd.params4] at ht
  have hm : t = 38 ∨ t = 3 := by simpa using Array.mem_of_getElem? ht
  rcases hm with rfl | rfl
  · exact (show Tryd.prog.wantsStandIn 38 = false by kernel_rfl)
  · exact (show Tryd.prog.wantsStandIn 3 = false by kernel_rfl)
theorem card : Rows.ModelForgetsCardSaid :=
  Claim7.holds_tied_plain_at .later [] _ _ _ _ said (fun _ h => by cases h) (by kernel_rfl) (fun _ h => by cases h) modelForgets_row_tie rfl ⟨rfl, rfl⟩ (by kernel_rfl) rfl plain (by kernel_rfl)
end Go.Proofs.YtaamaifnmppbgaaDoor.lawModelForgets
