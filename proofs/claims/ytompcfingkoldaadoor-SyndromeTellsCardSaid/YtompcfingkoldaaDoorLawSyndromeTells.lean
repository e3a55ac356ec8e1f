/- SyndromeTells holds: whatever the input, the law answers true. Conditions: those of the given statement alone. -/
import Derived.Test.YtompcfingkoldaaDoorCards
import Derived.Test.YtompcfingkoldaaDoorTie
import Derived.Test.YtompcfingkoldaaDoorWSyndromeTells
import Derived.Test.YtompcfingkoldaaDoorGC
namespace Go.Proofs.YtompcfingkoldaaDoor.lawSyndromeTells
open Go.Sx Go.ChangeShapes Go.WideShapes Go.ChangeAt Go.RowKit
set_option linter.unusedVariables false
theorem laidPlain {W : World} (h : laidMetH Tryd.prog Rows.syndromeTellsRow.laid W) : laidMet Tryd.prog Rows.syndromeTellsRow.laid W := h
theorem er0 {W : World} (h : laidMetH Tryd.prog Rows.syndromeTellsRow.laid W) : Er (eOf W) W 7 :=
  er_met (laidPlain h) "shale/api.ErrField" Rows.laid_shale_api_ErrField (by simp [Rows.syndromeTellsRow]) [110, 111, 32, 115, 117, 99, 104, 32, 102, 105, 101, 108, 100] 7 rfl (by kernel_rfl) (by kernel_rfl)
theorem er1 {W : World} (h : laidMetH Tryd.prog Rows.syndromeTellsRow.laid W) : Er (eOf W) W 1 :=
  er_met (laidPlain h) "shale/api.ErrNumber" Rows.laid_shale_api_ErrNumber (by simp [Rows.syndromeTellsRow]) [110, 111, 32, 115, 117, 99, 104, 32, 110, 117, 109, 98, 101, 114] 1 rfl (by kernel_rfl) (by kernel_rfl)
theorem er2 {W : World} (h : laidMetH Tryd.prog Rows.syndromeTellsRow.laid W) : Er (eOf W) W 0 :=
  er_met (laidPlain h) "shale/api.ErrLong" Rows.laid_shale_api_ErrLong (by simp [Rows.syndromeTellsRow]) [116, 111, 111, 32, 108, 111, 110, 103] 0 rfl (by kernel_rfl) (by kernel_rfl)
theorem er3 {W : World} (h : laidMetH Tryd.prog Rows.syndromeTellsRow.laid W) : Er (eOf W) W 2 :=
  er_met (laidPlain h) "shale/api.ErrCode" Rows.laid_shale_api_ErrCode (by simp [Rows.syndromeTellsRow]) [110, 111, 32, 115, 117, 99, 104, 32, 99, 111, 100, 101] 2 rfl (by kernel_rfl) (by kernel_rfl)
set_option maxRecDepth 100000 in
theorem contract (H : Type) (enc : TypeId × Value → H) (W : World) (base : Nat) (args : Array Value) (ds gs : List (DataW H)) (before : List MemPlace)
    (hval : ∀ (j : Nat) t v, Tryd.f13.params[j]? = some t → args[j]? = some v → Value.okWide Tryd.prog W .any base t v)
    (hW : DataW.Whole enc Tryd.prog Tryd.f13.params.toList Rows.syndromeTellsSpec.vars false W args.toList ds gs before) (hL : laidMetH Tryd.prog Rows.syndromeTellsRow.laid W) :
    Calls Tryd.prog 13 args W fun e W' => ∃ v, e = .returned v ∧ Rows.syndromeTellsSpec.post enc Tryd.prog Tryd.f13 false true false false W args v W' := by
  have hW' := hW
  obtain ⟨p, q, hA0, hV, rfl, hfz, hnd⟩ := hW
  have hA : DataW.TrodAll enc Tryd.prog W 0 (fun _ => true) true Tryd.f13.params.toList args.toList ds p := hA0
  rw [Tryd.params13] at hA hval
  obtain ⟨v0, vs0, d0, ds0, p0, q0, hargs, rfl, rfl, h0, r0⟩ := trodAll_cons hA
  obtain ⟨v1, vs1, d1, ds1, p1, q1, rfl, rfl, rfl, h1, r1⟩ := trodAll_cons r0
  obtain ⟨v2, vs2, d2, ds2, p2, q2, rfl, rfl, rfl, h2, r2⟩ := trodAll_cons r1
  obtain ⟨v3, vs3, d3, ds3, p3, q3, rfl, rfl, rfl, h3, r3⟩ := trodAll_cons r2
  obtain ⟨v4, vs4, d4, ds4, p4, q4, rfl, rfl, rfl, h4, r4⟩ := trodAll_cons r3
  obtain ⟨rfl, rfl, rfl⟩ := trodAll_nil r4
  obtain rfl : args = #[v0, v1, v2, v3, v4] := by cases args; simp_all
  obtain ⟨rfl, rfl⟩ := trodVars_none hV
  obtain ⟨a0, rfl, rfl, rfl, w0⟩ := open_int Tryd.underlying3 (hval 0 3 v0 rfl rfl) h0
  obtain ⟨a1, rfl, rfl, rfl, w1⟩ := open_int Tryd.underlying3 (hval 1 3 v1 rfl rfl) h1
  obtain ⟨a2, rfl, rfl, rfl, w2⟩ := open_int Tryd.underlying3 (hval 2 3 v2 rfl rfl) h2
  obtain ⟨A3, n3, c3, l3, rfl, hn3, hc3, rfl, hs3, hz3⟩ := open_slB Tryd.underlying22 Tryd.underlying5 (by kernel_rfl) (hval 3 22 v3 rfl rfl) h3
  obtain ⟨A4, n4, c4, l4, rfl, hn4, hc4, rfl, hs4, hz4⟩ := open_slI Tryd.underlying23 Tryd.underlying3 (by kernel_rfl) (hval 4 23 v4 rfl rfl) h4
  clear hA0
  simp only [List.append_nil, List.nil_append] at hW'
  refine Calls.mono (walk_SyndromeTells a0 a1 a2 A3 l3.length c3 l3 A4 l4.length c4 l4 (eOf W) W hs3 hz3 (by omega) hn3 hs4 (by omega) (er1 hL)) (fun e W' ⟨he, hs⟩ => ?_)
  subst he
  have hb := fr_below hs
  refine ⟨_, rfl, _, _, _, [], _, [], hW', (trodAll_cons_mk (shut_bool Tryd.underlying4 true) trodAll_mk0), (trodAll_cons_mk (shut_int Tryd.underlying3 w0) (trodAll_cons_mk (shut_int Tryd.underlying3 w1) (trodAll_cons_mk (shut_int Tryd.underlying3 w2) (trodAll_cons_mk (Below.trod laidOutT (by kernel_rfl) (of_decide_eq_true (by kernel_rfl)) h3 hb (fun x hx => by simpa using hW'.lt x (by simp [hx]))) (trodAll_cons_mk (Below.trod laidOutT (by kernel_rfl) (of_decide_eq_true (by kernel_rfl)) h4 hb (fun x hx => by simpa using hW'.lt x (by simp [hx]))) trodAll_mk0))))), rfl, hb.frame _, fun h => by cases h⟩
/-- A world for the witness. -/
noncomputable def low : Nat := (World.holding Tryd.prog default ⟨#[], #[], []⟩).heap.size
noncomputable def laidWorld (os : Os) : World :=
  { World.holding Tryd.prog os ⟨#[.cells #[.string ⟨#[110, 111, 32, 115, 117, 99, 104, 32, 102, 105, 101, 108, 100]⟩] 279, .cells #[.string ⟨#[110, 111, 32, 115, 117, 99, 104, 32, 110, 117, 109, 98, 101, 114]⟩] 279, .cells #[.string ⟨#[116, 111, 111, 32, 108, 111, 110, 103]⟩] 279, .cells #[.string ⟨#[110, 111, 32, 115, 117, 99, 104, 32, 99, 111, 100, 101]⟩] 279], #[], []⟩ with heap := (((((World.holding Tryd.prog os ⟨#[.cells #[.string ⟨#[110, 111, 32, 115, 117, 99, 104, 32, 102, 105, 101, 108, 100]⟩] 279, .cells #[.string ⟨#[110, 111, 32, 115, 117, 99, 104, 32, 110, 117, 109, 98, 101, 114]⟩] 279, .cells #[.string ⟨#[116, 111, 111, 32, 108, 111, 110, 103]⟩] 279, .cells #[.string ⟨#[110, 111, 32, 115, 117, 99, 104, 32, 99, 111, 100, 101]⟩] 279], #[], []⟩).heap.modify 7 fun
      | .cells _ t frozen => .cells #[.iface 262 (.pointer (some ⟨low + 0, 0, none⟩))] t frozen
      | o => o).modify 1 fun
      | .cells _ t frozen => .cells #[.iface 262 (.pointer (some ⟨low + 1, 0, none⟩))] t frozen
      | o => o).modify 0 fun
      | .cells _ t frozen => .cells #[.iface 262 (.pointer (some ⟨low + 2, 0, none⟩))] t frozen
      | o => o).modify 2 fun
      | .cells _ t frozen => .cells #[.iface 262 (.pointer (some ⟨low + 3, 0, none⟩))] t frozen
      | o => o) }
theorem laid_met (os : Os) : laidMet Tryd.prog Rows.syndromeTellsRow.laid ((laidWorld os).forCall (fun _ _ => 0) ⟨#[], #[.int .i64 0, .int .i64 0, .int .i64 0, .slice none 0 0, .slice none 0 0], []⟩).memory :=
  laidMet_of_run' 8 (by kernel_rfl) (by kernel_rfl)
theorem reads (os : Os) {H : Type} (enc : TypeId × Value → H) : ∃ places, DataW.whole enc Tryd.prog ((laidWorld os).forCall (fun _ _ => 0) ⟨#[], #[.int .i64 0, .int .i64 0, .int .i64 0, .slice none 0 0, .slice none 0 0], []⟩).memory Tryd.f13.params.toList Rows.syndromeTellsSpec.vars false (#[.int .i64 0, .int .i64 0, .int .i64 0, .slice none 0 0, .slice none 0 0] : Array Value).toList 8 = some ([.lit (.int .i64 0), .lit (.int .i64 0), .lit (.int .i64 0), .nil, .nil], [], places) :=
  ⟨[], by kernel_rfl⟩
set_option maxRecDepth 100000 in
theorem lifted (os : Os) (started : os.Started) (H : Type) (enc : TypeId × Value → H) (F : Stop.Interp) :
    ReturnsInHanded {} Tryd.checked os 13 .any ((OpenSpec.ofChange Rows.syndromeTellsSpec).preRow enc Tryd.prog Tryd.f13 Rows.syndromeTellsRow.domain false Rows.syndromeTellsRow.laid) (((OpenSpec.ofChange Rows.syndromeTellsSpec).at F).post enc Tryd.prog Tryd.f13 false true false false) := by
  obtain ⟨places, hx⟩ := reads os enc
  refine returnsInHanded_of_row (C := Tryd.checked) (s := OpenSpec.ofChange Rows.syndromeTellsSpec) noKnob started (by kernel_rfl) Tryd.func13
    (witness_row_atRef (enc := enc) (C := Tryd.checked) false (laidWorld os) #[.int .i64 0, .int .i64 0, .int .i64 0, .slice none 0 0, .slice none 0 0] rfl (by kernel_rfl) (by kernel_rfl) (by kernel_rfl)
      (OpenSpec.preRow_of_cond 8 hx (by kernel_rfl) (fun k hk => by cases hk) (by kernel_rfl) (laid_met os))) ?_
  intro W base args ds gs before hval hW _ _ _ hL _ _
  exact contract H enc W base args ds gs before hval hW hL
set_option maxHeartbeats 100000000 in
theorem closed : joinedFacts Tryd.pinned.checked.prog 13 Tryd.f13 (OpenSpec.ofChange Rows.syndromeTellsSpec).bare Rows.syndromeTellsRow = true := by
  unfold joinedFacts
  repeat' (with_reducible refine Bool.and_eq_true_iff.mpr ⟨?_, ?_⟩)
  all_goals (as_aux_lemma => kernel_rfl)
theorem said : Rows.SyndromeTellsSaid :=
  OpenClaim.holds_of_cond 13 Tryd.f13 rfl rfl rfl rfl rfl rfl rfl ⟨rfl, rfl, rfl, rfl, rfl⟩ rfl rfl rfl rfl rfl (by kernel_rfl) Tryd.func13 closed
    (of_decide_eq_true (by kernel_rfl)) (by unfold Func.isWrapper; first | (rw [if_pos (by decide +kernel)]; kernel_rfl) | (rw [if_neg (by decide +kernel)]; exact ⟨rfl, rfl⟩))
    (fun os started H enc _ F => by rw [OpenClaim.pre_eq_preRow]; exact lifted os started H enc F)
theorem plain (f : FuncId) (fn : Func) (hf : Tryd.pinned.checked.prog.funcNamed "shale/shalelaw7.SyndromeTells" = some f) (hfn : Tryd.pinned.checked.prog.funcs[f]? = some fn) :
    true = Tryd.pinned.checked.prog.looks [] ∧ ∀ (j : Nat) t, fn.params[j]? = some t → Tryd.pinned.checked.prog.wantsStandIn t = false := by
  obtain rfl : f = 13 := Option.some.inj ((show Tryd.prog.funcNamed "shale/shalelaw7.SyndromeTells" = some 13 by kernel_rfl).symm.trans hf) |>.symm
  obtain rfl : fn = Tryd.f13 := (Option.some.inj (Tryd.func13.symm.trans hfn)).symm
  refine ⟨by kernel_rfl, fun j t ht => ?_⟩
  rw [Tryd.params13] at ht
  have hm : t = 3 ∨ t = 3 ∨ t = 3 ∨ t = 22 ∨ t = 23 := by simpa using Array.mem_of_getElem? ht
  rcases hm with rfl | rfl | rfl | rfl | rfl
  · exact (show Tryd.prog.wantsStandIn 3 = false by kernel_rfl)
  · exact (show Tryd.prog.wantsStandIn 3 = false by kernel_rfl)
  · exact (show Tryd.prog.wantsStandIn 3 = false by kernel_rfl)
  · exact (show Tryd.prog.wantsStandIn 22 = false by kernel_rfl)
  · exact (show Tryd.prog.wantsStandIn 23 = false by kernel_rfl)
theorem card : Rows.SyndromeTellsCardSaid :=
  Claim7.holds_tied_plain_at .later [] _ _ _ _ said (fun _ h => by cases h) (by kernel_rfl) (fun _ h => by cases h) syndromeTells_row_tie rfl ⟨rfl, rfl⟩ (by kernel_rfl) rfl plain (by kernel_rfl)
end Go.Proofs.YtompcfingkoldaaDoor.lawSyndromeTells
