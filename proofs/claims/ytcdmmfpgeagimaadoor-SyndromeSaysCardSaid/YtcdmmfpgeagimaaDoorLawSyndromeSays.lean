/- SyndromeSays holds: whatever the input, the law answers true. Conditions: those of the given statement alone. -/
import Derived.Test.YtcdmmfpgeagimaaDoorCards
import Derived.Test.YtcdmmfpgeagimaaDoorTie
import Derived.Test.YtcdmmfpgeagimaaDoorWSyndromeSaysA
import Derived.Test.YtcdmmfpgeagimaaDoorWSyndromeSaysD
namespace Go.Proofs.YtcdmmfpgeagimaaDoor.lawSyndromeSays
open Go.Sx Go.ChangeShapes Go.WideShapes Go.ChangeAt Go.RowKit
set_option linter.unusedVariables false
theorem laidPlain {W : World} (h : laidMetH Tryd.prog Rows.syndromeSaysRow.laid W) : laidMet Tryd.prog Rows.syndromeSaysRow.laid W := h
theorem er0 {W : World} (h : laidMetH Tryd.prog Rows.syndromeSaysRow.laid W) : Er (eOf W) W 7 :=
  er_met (laidPlain h) "shale/api.ErrField" Rows.laid_shale_api_ErrField (by simp [Rows.syndromeSaysRow]) [110, 111, 32, 115, 117, 99, 104, 32, 102, 105, 101, 108, 100] 7 rfl (by kernel_rfl) (by kernel_rfl)
theorem er1 {W : World} (h : laidMetH Tryd.prog Rows.syndromeSaysRow.laid W) : Er (eOf W) W 1 :=
  er_met (laidPlain h) "shale/api.ErrNumber" Rows.laid_shale_api_ErrNumber (by simp [Rows.syndromeSaysRow]) [110, 111, 32, 115, 117, 99, 104, 32, 110, 117, 109, 98, 101, 114] 1 rfl (by kernel_rfl) (by kernel_rfl)
theorem er2 {W : World} (h : laidMetH Tryd.prog Rows.syndromeSaysRow.laid W) : Er (eOf W) W 0 :=
  er_met (laidPlain h) "shale/api.ErrLong" Rows.laid_shale_api_ErrLong (by simp [Rows.syndromeSaysRow]) [116, 111, 111, 32, 108, 111, 110, 103] 0 rfl (by kernel_rfl) (by kernel_rfl)
theorem er3 {W : World} (h : laidMetH Tryd.prog Rows.syndromeSaysRow.laid W) : Er (eOf W) W 6 :=
  er_met (laidPlain h) "shale/api.ErrCode" Rows.laid_shale_api_ErrCode (by simp [Rows.syndromeSaysRow]) [110, 111, 32, 115, 117, 99, 104, 32, 99, 111, 100, 101] 6 rfl (by kernel_rfl) (by kernel_rfl)
set_option maxRecDepth 100000 in
theorem contract (H : Type) (enc : TypeId × Value → H) (W : World) (base : Nat) (args : Array Value) (ds gs : List (DataW H)) (before : List MemPlace)
    (hval : ∀ (j : Nat) t v, Tryd.f3.params[j]? = some t → args[j]? = some v → Value.okWide Tryd.prog W .any base t v)
    (hW : DataW.Whole enc Tryd.prog Tryd.f3.params.toList Rows.syndromeSaysSpec.vars false W args.toList ds gs before) (hL : laidMetH Tryd.prog Rows.syndromeSaysRow.laid W) :
    Calls Tryd.prog 3 args W fun e W' => ∃ v, e = .returned v ∧ Rows.syndromeSaysSpec.post enc Tryd.prog Tryd.f3 false true false false W args v W' := by
  have hW' := hW
  obtain ⟨p, q, hA0, hV, rfl, hfz, hnd⟩ := hW
  have hA : DataW.TrodAll enc Tryd.prog W 0 (fun _ => true) true Tryd.f3.params.toList args.toList ds p := hA0
  rw [Tryd.params3] at hA hval
  obtain ⟨v0, vs0, d0, ds0, p0, q0, hargs, rfl, rfl, h0, r0⟩ := trodAll_cons hA
  obtain ⟨v1, vs1, d1, ds1, p1, q1, rfl, rfl, rfl, h1, r1⟩ := trodAll_cons r0
  obtain ⟨v2, vs2, d2, ds2, p2, q2, rfl, rfl, rfl, h2, r2⟩ := trodAll_cons r1
  obtain ⟨v3, vs3, d3, ds3, p3, q3, rfl, rfl, rfl, h3, r3⟩ := trodAll_cons r2
  obtain ⟨v4, vs4, d4, ds4, p4, q4, rfl, rfl, rfl, h4, r4⟩ := trodAll_cons r3
  obtain ⟨v5, vs5, d5, ds5, p5, q5, rfl, rfl, rfl, h5, r5⟩ := trodAll_cons r4
  obtain ⟨v6, vs6, d6, ds6, p6, q6, rfl, rfl, rfl, h6, r6⟩ := trodAll_cons r5
  obtain ⟨v7, vs7, d7, ds7, p7, q7, rfl, rfl, rfl, h7, r7⟩ := trodAll_cons r6
  obtain ⟨rfl, rfl, rfl⟩ := trodAll_nil r7
  obtain rfl : args = #[v0, v1, v2, v3, v4, v5, v6, v7] := by cases args; simp_all
  obtain ⟨rfl, rfl⟩ := trodVars_none hV
  obtain ⟨a0, rfl, rfl, rfl, w0⟩ := open_int Tryd.underlying3 (hval 0 3 v0 rfl rfl) h0
  obtain ⟨a1, rfl, rfl, rfl, w1⟩ := open_int Tryd.underlying3 (hval 1 3 v1 rfl rfl) h1
  obtain ⟨a2, rfl, rfl, rfl, w2⟩ := open_int Tryd.underlying3 (hval 2 3 v2 rfl rfl) h2
  obtain ⟨A3, n3, c3, l3, rfl, hn3, hc3, rfl, hs3, hz3⟩ := open_slB Tryd.underlying22 Tryd.underlying5 (by kernel_rfl) (hval 3 22 v3 rfl rfl) h3
  obtain ⟨A4, n4, c4, l4, rfl, hn4, hc4, rfl, hs4, hz4⟩ := open_slB Tryd.underlying22 Tryd.underlying5 (by kernel_rfl) (hval 4 22 v4 rfl rfl) h4
  obtain ⟨A5, n5, c5, l5, rfl, hn5, hc5, rfl, hs5, hz5⟩ := open_slI Tryd.underlying23 Tryd.underlying3 (by kernel_rfl) (hval 5 23 v5 rfl rfl) h5
  obtain ⟨A6, n6, c6, l6, rfl, hn6, hc6, rfl, hs6, hz6⟩ := open_slI Tryd.underlying23 Tryd.underlying3 (by kernel_rfl) (hval 6 23 v6 rfl rfl) h6
  obtain ⟨A7, n7, c7, l7, rfl, hn7, hc7, rfl, hs7, hz7⟩ := open_slI Tryd.underlying23 Tryd.underlying3 (by kernel_rfl) (hval 7 23 v7 rfl rfl) h7
  clear hA0
  simp only [List.append_nil, List.nil_append] at hW'
  refine Calls.mono (walk_SyndromeSays a0 a1 a2 A3 l3.length c3 l3 A4 l4.length c4 l4 A5 l5.length c5 l5 A6 l6.length c6 l6 A7 l7.length c7 l7 (eOf W) W hs3 hz3 (by omega) hn3 hs4 hz4 (by omega) hn4 hs5 (by omega) hz5 hs6 (by omega) hz6 hs7 (by omega) hz7 (er1 hL) (er2 hL)) (fun e W' ⟨he, hs⟩ => ?_)
  subst he
  have hb := fr_below hs
  refine ⟨_, rfl, _, _, _, [], _, [], hW', (trodAll_cons_mk (shut_bool Tryd.underlying4 true) trodAll_mk0), (trodAll_cons_mk (shut_int Tryd.underlying3 w0) (trodAll_cons_mk (shut_int Tryd.underlying3 w1) (trodAll_cons_mk (shut_int Tryd.underlying3 w2) (trodAll_cons_mk (Below.trod laidOutT (by kernel_rfl) (of_decide_eq_true (by kernel_rfl)) h3 hb (fun x hx => by simpa using hW'.lt x (by simp [hx]))) (trodAll_cons_mk (Below.trod laidOutT (by kernel_rfl) (of_decide_eq_true (by kernel_rfl)) h4 hb (fun x hx => by simpa using hW'.lt x (by simp [hx]))) (trodAll_cons_mk (Below.trod laidOutT (by kernel_rfl) (of_decide_eq_true (by kernel_rfl)) h5 hb (fun x hx => by simpa using hW'.lt x (by simp [hx]))) (trodAll_cons_mk (Below.trod laidOutT (by kernel_rfl) (of_decide_eq_true (by kernel_rfl)) h6 hb (fun x hx => by simpa using hW'.lt x (by simp [hx]))) (trodAll_cons_mk (Below.trod laidOutT (by kernel_rfl) (of_decide_eq_true (by kernel_rfl)) h7 hb (fun x hx => by simpa using hW'.lt x (by simp [hx]))) trodAll_mk0)))))))), rfl, hb.frame _, fun h => by cases h⟩
/-- A world for the witness. -/
noncomputable def low : Nat := (World.holding Tryd.prog default ⟨#[], #[], []⟩).heap.size
noncomputable def laidWorld (os : Os) : World :=
  { World.holding Tryd.prog os ⟨#[.cells #[.string ⟨#[110, 111, 32, 115, 117, 99, 104, 32, 102, 105, 101, 108, 100]⟩] 256, .cells #[.string ⟨#[110, 111, 32, 115, 117, 99, 104, 32, 110, 117, 109, 98, 101, 114]⟩] 256, .cells #[.string ⟨#[116, 111, 111, 32, 108, 111, 110, 103]⟩] 256, .cells #[.string ⟨#[110, 111, 32, 115, 117, 99, 104, 32, 99, 111, 100, 101]⟩] 256], #[], []⟩ with heap := (((((World.holding Tryd.prog os ⟨#[.cells #[.string ⟨#[110, 111, 32, 115, 117, 99, 104, 32, 102, 105, 101, 108, 100]⟩] 256, .cells #[.string ⟨#[110, 111, 32, 115, 117, 99, 104, 32, 110, 117, 109, 98, 101, 114]⟩] 256, .cells #[.string ⟨#[116, 111, 111, 32, 108, 111, 110, 103]⟩] 256, .cells #[.string ⟨#[110, 111, 32, 115, 117, 99, 104, 32, 99, 111, 100, 101]⟩] 256], #[], []⟩).heap.modify 7 fun
      | .cells _ t frozen => .cells #[.iface 239 (.pointer (some ⟨low + 0, 0, none⟩))] t frozen
      | o => o).modify 1 fun
      | .cells _ t frozen => .cells #[.iface 239 (.pointer (some ⟨low + 1, 0, none⟩))] t frozen
      | o => o).modify 0 fun
      | .cells _ t frozen => .cells #[.iface 239 (.pointer (some ⟨low + 2, 0, none⟩))] t frozen
      | o => o).modify 6 fun
      | .cells _ t frozen => .cells #[.iface 239 (.pointer (some ⟨low + 3, 0, none⟩))] t frozen
      | o => o) }
theorem laid_met (os : Os) : laidMet Tryd.prog Rows.syndromeSaysRow.laid ((laidWorld os).forCall (fun _ _ => 0) ⟨#[], #[.int .i64 0, .int .i64 0, .int .i64 0, .slice none 0 0, .slice none 0 0, .slice none 0 0, .slice none 0 0, .slice none 0 0], []⟩).memory :=
  laidMet_of_run' 8 (by kernel_rfl) (by kernel_rfl)
theorem reads (os : Os) {H : Type} (enc : TypeId × Value → H) : ∃ places, DataW.whole enc Tryd.prog ((laidWorld os).forCall (fun _ _ => 0) ⟨#[], #[.int .i64 0, .int .i64 0, .int .i64 0, .slice none 0 0, .slice none 0 0, .slice none 0 0, .slice none 0 0, .slice none 0 0], []⟩).memory Tryd.f3.params.toList Rows.syndromeSaysSpec.vars false (#[.int .i64 0, .int .i64 0, .int .i64 0, .slice none 0 0, .slice none 0 0, .slice none 0 0, .slice none 0 0, .slice none 0 0] : Array Value).toList 8 = some ([.lit (.int .i64 0), .lit (.int .i64 0), .lit (.int .i64 0), .nil, .nil, .nil, .nil, .nil], [], places) :=
  ⟨[], by kernel_rfl⟩
set_option maxRecDepth 100000 in
theorem lifted (os : Os) (started : os.Started) (H : Type) (enc : TypeId × Value → H) (F : Stop.Interp) :
    ReturnsInHanded {} Tryd.checked os 3 .any ((OpenSpec.ofChange Rows.syndromeSaysSpec).preRow enc Tryd.prog Tryd.f3 Rows.syndromeSaysRow.domain false Rows.syndromeSaysRow.laid) (((OpenSpec.ofChange Rows.syndromeSaysSpec).at F).post enc Tryd.prog Tryd.f3 false true false false) := by
  obtain ⟨places, hx⟩ := reads os enc
  refine returnsInHanded_of_row (C := Tryd.checked) (s := OpenSpec.ofChange Rows.syndromeSaysSpec) noKnob started (by kernel_rfl) Tryd.func3
    (witness_row_atRef (enc := enc) (C := Tryd.checked) false (laidWorld os) #[.int .i64 0, .int .i64 0, .int .i64 0, .slice none 0 0, .slice none 0 0, .slice none 0 0, .slice none 0 0, .slice none 0 0] rfl (by kernel_rfl) (by kernel_rfl) (by kernel_rfl)
      (OpenSpec.preRow_of_cond 8 hx (by kernel_rfl) (fun k hk => by cases hk) (by kernel_rfl) (laid_met os))) ?_
  intro W base args ds gs before hval hW _ _ _ hL _ _
  exact contract H enc W base args ds gs before hval hW hL
set_option maxHeartbeats 100000000 in
theorem closed : joinedFacts Tryd.pinned.checked.prog 3 Tryd.f3 (OpenSpec.ofChange Rows.syndromeSaysSpec).bare Rows.syndromeSaysRow = true := by
  unfold joinedFacts
  repeat' (with_reducible refine Bool.and_eq_true_iff.mpr ⟨?_, ?_⟩)
  all_goals (as_aux_lemma => kernel_rfl)
theorem said : Rows.SyndromeSaysSaid :=
  OpenClaim.holds_of_cond 3 Tryd.f3 rfl rfl rfl rfl rfl rfl rfl ⟨rfl, rfl, rfl, rfl, rfl⟩ rfl rfl rfl rfl rfl (by kernel_rfl) Tryd.func3 closed
    (of_decide_eq_true (by kernel_rfl)) (by unfold Func.isWrapper; first | (rw [if_pos (by decide +kernel)]; kernel_rfl) | (rw [if_neg (by decide +kernel)]; exact ⟨rfl, rfl⟩))
    (fun os started H enc _ F => by rw [OpenClaim.pre_eq_preRow]; exact lifted os started H enc F)
theorem plain (f : FuncId) (fn : Func) (hf : Tryd.pinned.checked.prog.funcNamed "shale/shalelaw7.SyndromeSays" = some f) (hfn : Tryd.pinned.checked.prog.funcs[f]? = some fn) :
    true = Tryd.pinned.checked.prog.looks [] ∧ ∀ (j : Nat) t, fn.params[j]? = some t → Tryd.pinned.checked.prog.wantsStandIn t = false := by
  obtain rfl : f = 3 := Option.some.inj ((show Tryd.prog.funcNamed "shale/shalelaw7.SyndromeSays" = some 3 by kernel_rfl).symm.trans hf) |>.symm
  obtain rfl : fn = Tryd.f3 := (Option.some.inj (Tryd.func3.symm.trans hfn)).symm
  refine ⟨by kernel_rfl, fun j t ht => ?_⟩
  rw [Tryd.params3] at ht
  have hm : t = 3 ∨ t = 3 ∨ t = 3 ∨ t = 22 ∨ t = 22 ∨ t = 23 ∨ t = 23 ∨ t = 23 := by simpa using Array.mem_of_getElem? ht
  rcases hm with rfl | rfl | rfl | rfl | rfl | rfl | rfl | rfl
  · exact (show Tryd.prog.wantsStandIn 3 = false by kernel_rfl)
  · exact (show Tryd.prog.wantsStandIn 3 = false by kernel_rfl)
  · exact (show Tryd.prog.wantsStandIn 3 = false by kernel_rfl)
  · exact (show Tryd.prog.wantsStandIn 22 = false by kernel_rfl)
  · exact (show Tryd.prog.wantsStandIn 22 = false by kernel_rfl)
  · exact (show Tryd.prog.wantsStandIn 23 = false by kernel_rfl)
  · exact (show Tryd.prog.wantsStandIn 23 = false by kernel_rfl)
  · exact (show Tryd.prog.wantsStandIn 23 = false by kernel_rfl)
theorem card : Rows.SyndromeSaysCardSaid :=
  Claim7.holds_tied_plain_at .later [] _ _ _ _ said (fun _ h => by cases h) (by kernel_rfl) (fun _ h => by cases h) syndromeSays_row_tie rfl ⟨rfl, rfl⟩ (by kernel_rfl) rfl plain (by kernel_rfl)
end Go.Proofs.YtcdmmfpgeagimaaDoor.lawSyndromeSays
