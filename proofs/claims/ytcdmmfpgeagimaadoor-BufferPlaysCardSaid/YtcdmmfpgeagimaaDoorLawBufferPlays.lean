/- BufferPlays holds: whatever the input, the law answers true. Conditions: those of the given statement alone. -/
import Derived.Test.YtcdmmfpgeagimaaDoorCards
import Derived.Test.YtcdmmfpgeagimaaDoorTie
import Derived.Test.YtcdmmfpgeagimaaDoorWBufferPlaysA
import Derived.Test.YtcdmmfpgeagimaaDoorWBufferPlaysC
namespace Go.Proofs.YtcdmmfpgeagimaaDoor.lawBufferPlays
open Go.Sx Go.ChangeShapes Go.WideShapes Go.ChangeAt Go.RowKit
set_option linter.unusedVariables false
theorem laidPlain {W : World} (h : laidMetH Tryd.prog Rows.bufferPlaysRow.laid W) : laidMet Tryd.prog Rows.bufferPlaysRow.laid W := h
theorem ersL {W : World} (h : laidMetH Tryd.prog Rows.bufferPlaysRow.laid W) : Has (ersA (eOf W) [7, 1, 2, 0, 6, 8, 9, 4, 10, 11, 12, 13, 14, 3, 15, 5, 16, 17, 18]) W :=
  ers_met (l := Rows.bufferPlaysRow.laid) (laidPlain h) ⟨⟨_, rfl⟩, by kernel_rfl, by kernel_rfl, ⟨⟨_, rfl⟩, by kernel_rfl, by kernel_rfl, ⟨⟨_, rfl⟩, by kernel_rfl, by kernel_rfl, ⟨⟨_, rfl⟩, by kernel_rfl, by kernel_rfl, ⟨⟨_, rfl⟩, by kernel_rfl, by kernel_rfl, ⟨⟨_, rfl⟩, by kernel_rfl, by kernel_rfl, ⟨⟨_, rfl⟩, by kernel_rfl, by kernel_rfl, ⟨⟨_, rfl⟩, by kernel_rfl, by kernel_rfl, ⟨⟨_, rfl⟩, by kernel_rfl, by kernel_rfl, ⟨⟨_, rfl⟩, by kernel_rfl, by kernel_rfl, ⟨⟨_, rfl⟩, by kernel_rfl, by kernel_rfl, ⟨⟨_, rfl⟩, by kernel_rfl, by kernel_rfl, ⟨⟨_, rfl⟩, by kernel_rfl, by kernel_rfl, ⟨⟨_, rfl⟩, by kernel_rfl, by kernel_rfl, ⟨⟨_, rfl⟩, by kernel_rfl, by kernel_rfl, ⟨⟨_, rfl⟩, by kernel_rfl, by kernel_rfl, ⟨⟨_, rfl⟩, by kernel_rfl, by kernel_rfl, ⟨⟨_, rfl⟩, by kernel_rfl, by kernel_rfl, ⟨⟨_, rfl⟩, by kernel_rfl, by kernel_rfl, trivial⟩⟩⟩⟩⟩⟩⟩⟩⟩⟩⟩⟩⟩⟩⟩⟩⟩⟩⟩
set_option maxRecDepth 100000 in
theorem contract (H : Type) (enc : TypeId × Value → H) (W : World) (base : Nat) (args : Array Value) (ds gs : List (DataW H)) (before : List MemPlace)
    (hval : ∀ (j : Nat) t v, Tryd.f7.params[j]? = some t → args[j]? = some v → Value.okWide Tryd.prog W .any base t v)
    (hW : DataW.Whole enc Tryd.prog Tryd.f7.params.toList Rows.bufferPlaysSpec.vars false W args.toList ds gs before) (hL : laidMetH Tryd.prog Rows.bufferPlaysRow.laid W) :
    Calls Tryd.prog 7 args W fun e W' => ∃ v, e = .returned v ∧ Rows.bufferPlaysSpec.post enc Tryd.prog Tryd.f7 false true false false W args v W' := by
  have hW' := hW
  obtain ⟨p, q, hA0, hV, rfl, hfz, hnd⟩ := hW
  have hA : DataW.TrodAll enc Tryd.prog W 0 (fun _ => true) true Tryd.f7.params.toList args.toList ds p := hA0
  rw [Tryd.params7] at hA hval
  obtain ⟨v0, vs0, d0, ds0, p0, q0, hargs, rfl, rfl, h0, r0⟩ := trodAll_cons hA
  obtain ⟨v1, vs1, d1, ds1, p1, q1, rfl, rfl, rfl, h1, r1⟩ := trodAll_cons r0
  obtain ⟨v2, vs2, d2, ds2, p2, q2, rfl, rfl, rfl, h2, r2⟩ := trodAll_cons r1
  obtain ⟨v3, vs3, d3, ds3, p3, q3, rfl, rfl, rfl, h3, r3⟩ := trodAll_cons r2
  obtain ⟨v4, vs4, d4, ds4, p4, q4, rfl, rfl, rfl, h4, r4⟩ := trodAll_cons r3
  obtain ⟨v5, vs5, d5, ds5, p5, q5, rfl, rfl, rfl, h5, r5⟩ := trodAll_cons r4
  obtain ⟨rfl, rfl, rfl⟩ := trodAll_nil r5
  obtain rfl : args = #[v0, v1, v2, v3, v4, v5] := by cases args; simp_all
  obtain ⟨rfl, rfl⟩ := trodVars_none hV
  obtain ⟨a0, rfl, rfl, rfl, w0⟩ := open_int Tryd.underlying3 (hval 0 3 v0 rfl rfl) h0
  obtain ⟨a1, rfl, rfl, rfl, w1⟩ := open_int Tryd.underlying3 (hval 1 3 v1 rfl rfl) h1
  obtain ⟨a2, rfl, rfl, rfl, w2⟩ := open_int Tryd.underlying3 (hval 2 3 v2 rfl rfl) h2
  obtain ⟨A3, n3, c3, l3, rfl, hn3, hc3, rfl, hs3, hz3⟩ := open_slD Tryd.underlying68 Tryd.underlying75 Tryd.underlying73 Tryd.underlying4 Tryd.underlying3 Tryd.underlying4 Tryd.underlying22 Tryd.underlying5 (by kernel_rfl) (by kernel_rfl) (by kernel_rfl) (by kernel_rfl) (by kernel_rfl) (by kernel_rfl) (by kernel_rfl) rfl rfl rfl rfl rfl (hval 3 68 v3 rfl rfl) h3
  obtain ⟨a4, rfl, rfl, rfl, w4⟩ := open_int Tryd.underlying3 (hval 4 3 v4 rfl rfl) h4
  obtain ⟨a5, rfl, rfl, rfl, w5⟩ := open_int Tryd.underlying3 (hval 5 3 v5 rfl rfl) h5
  clear hA0
  simp only [List.append_nil, List.nil_append] at hW'
  refine Calls.mono (walk_BufferPlays a0 a1 a2 A3 l3.length c3 l3 a4 a5 (eOf W) W hs3 hz3 (by omega) ((ersL hL).fewer (by decide))) (fun e W' ⟨he, hs⟩ => ?_)
  subst he
  have hb := fr_below hs
  refine ⟨_, rfl, _, _, _, [], _, [], hW', (trodAll_cons_mk (shut_bool Tryd.underlying4 true) trodAll_mk0), (trodAll_cons_mk (shut_int Tryd.underlying3 w0) (trodAll_cons_mk (shut_int Tryd.underlying3 w1) (trodAll_cons_mk (shut_int Tryd.underlying3 w2) (trodAll_cons_mk (Below.trod laidOutT (by kernel_rfl) (of_decide_eq_true (by kernel_rfl)) h3 hb (fun x hx => by simpa using hW'.lt x (by simp [hx]))) (trodAll_cons_mk (shut_int Tryd.underlying3 w4) (trodAll_cons_mk (shut_int Tryd.underlying3 w5) trodAll_mk0)))))), rfl, hb.frame _, fun h => by cases h⟩
/-- A world for the witness. -/
noncomputable def low : Nat := (World.holding Tryd.prog default ⟨#[], #[], []⟩).heap.size
noncomputable def laidWorld (os : Os) : World :=
  { World.holding Tryd.prog os ⟨#[.cells #[.string ⟨#[110, 111, 32, 115, 117, 99, 104, 32, 102, 105, 101, 108, 100]⟩] 256, .cells #[.string ⟨#[110, 111, 32, 115, 117, 99, 104, 32, 110, 117, 109, 98, 101, 114]⟩] 256, .cells #[.string ⟨#[122, 101, 114, 111, 32, 104, 97, 115, 32, 110, 111, 110, 101]⟩] 256, .cells #[.string ⟨#[116, 111, 111, 32, 108, 111, 110, 103]⟩] 256, .cells #[.string ⟨#[110, 111, 32, 115, 117, 99, 104, 32, 99, 111, 100, 101]⟩] 256, .cells #[.string ⟨#[109, 111, 114, 101, 32, 105, 115, 32, 97, 109, 105, 115, 115, 32, 116, 104, 97, 110, 32, 99, 97, 110, 32, 98, 101, 32, 109, 101, 110, 100, 101, 100]⟩] 256, .cells #[.string ⟨#[110, 111, 32, 114, 101, 99, 111, 114, 100]⟩] 256, .cells #[.string ⟨#[110, 111, 32, 115, 117, 99, 104, 32, 99, 104, 105, 112]⟩] 256, .cells #[.string ⟨#[116, 104, 101, 32, 112, 111, 119, 101, 114, 32, 105, 115, 32, 111, 102, 102]⟩] 256, .cells #[.string ⟨#[105, 116, 32, 100, 111, 101, 115, 32, 110, 111, 116, 32, 99, 111, 109, 101, 32, 104, 101, 114, 101]⟩] 256, .cells #[.string ⟨#[116, 104, 101, 32, 99, 104, 105, 112, 32, 102, 97, 105, 108, 101, 100]⟩] 256, .cells #[.string ⟨#[116, 104, 101, 32, 98, 108, 111, 99, 107, 32, 105, 115, 32, 98, 97, 100]⟩] 256, .cells #[.string ⟨#[116, 104, 101, 32, 112, 97, 103, 101, 32, 99, 97, 110, 110, 111, 116, 32, 98, 101, 32, 114, 101, 97, 100]⟩] 256, .cells #[.string ⟨#[110, 111, 32, 114, 111, 111, 109]⟩] 256, .cells #[.string ⟨#[105, 116, 32, 105, 115, 32, 110, 111, 116, 32, 116, 104, 101, 114, 101]⟩] 256, .cells #[.string ⟨#[110, 111, 32, 115, 101, 99, 116, 111, 114, 39, 115, 32, 115, 105, 122, 101]⟩] 256, .cells #[.string ⟨#[105, 116, 32, 99, 97, 110, 32, 111, 110, 108, 121, 32, 98, 101, 32, 114, 101, 97, 100]⟩] 256, .cells #[.string ⟨#[110, 111, 32, 115, 117, 99, 104, 32, 115, 116, 101, 112]⟩] 256, .cells #[.string ⟨#[105, 116, 32, 105, 115, 32, 110, 111, 116, 32, 109, 111, 117, 110, 116, 101, 100]⟩] 256], #[], []⟩ with heap := ((((((((((((((((((((World.holding Tryd.prog os ⟨#[.cells #[.string ⟨#[110, 111, 32, 115, 117, 99, 104, 32, 102, 105, 101, 108, 100]⟩] 256, .cells #[.string ⟨#[110, 111, 32, 115, 117, 99, 104, 32, 110, 117, 109, 98, 101, 114]⟩] 256, .cells #[.string ⟨#[122, 101, 114, 111, 32, 104, 97, 115, 32, 110, 111, 110, 101]⟩] 256, .cells #[.string ⟨#[116, 111, 111, 32, 108, 111, 110, 103]⟩] 256, .cells #[.string ⟨#[110, 111, 32, 115, 117, 99, 104, 32, 99, 111, 100, 101]⟩] 256, .cells #[.string ⟨#[109, 111, 114, 101, 32, 105, 115, 32, 97, 109, 105, 115, 115, 32, 116, 104, 97, 110, 32, 99, 97, 110, 32, 98, 101, 32, 109, 101, 110, 100, 101, 100]⟩] 256, .cells #[.string ⟨#[110, 111, 32, 114, 101, 99, 111, 114, 100]⟩] 256, .cells #[.string ⟨#[110, 111, 32, 115, 117, 99, 104, 32, 99, 104, 105, 112]⟩] 256, .cells #[.string ⟨#[116, 104, 101, 32, 112, 111, 119, 101, 114, 32, 105, 115, 32, 111, 102, 102]⟩] 256, .cells #[.string ⟨#[105, 116, 32, 100, 111, 101, 115, 32, 110, 111, 116, 32, 99, 111, 109, 101, 32, 104, 101, 114, 101]⟩] 256, .cells #[.string ⟨#[116, 104, 101, 32, 99, 104, 105, 112, 32, 102, 97, 105, 108, 101, 100]⟩] 256, .cells #[.string ⟨#[116, 104, 101, 32, 98, 108, 111, 99, 107, 32, 105, 115, 32, 98, 97, 100]⟩] 256, .cells #[.string ⟨#[116, 104, 101, 32, 112, 97, 103, 101, 32, 99, 97, 110, 110, 111, 116, 32, 98, 101, 32, 114, 101, 97, 100]⟩] 256, .cells #[.string ⟨#[110, 111, 32, 114, 111, 111, 109]⟩] 256, .cells #[.string ⟨#[105, 116, 32, 105, 115, 32, 110, 111, 116, 32, 116, 104, 101, 114, 101]⟩] 256, .cells #[.string ⟨#[110, 111, 32, 115, 101, 99, 116, 111, 114, 39, 115, 32, 115, 105, 122, 101]⟩] 256, .cells #[.string ⟨#[105, 116, 32, 99, 97, 110, 32, 111, 110, 108, 121, 32, 98, 101, 32, 114, 101, 97, 100]⟩] 256, .cells #[.string ⟨#[110, 111, 32, 115, 117, 99, 104, 32, 115, 116, 101, 112]⟩] 256, .cells #[.string ⟨#[105, 116, 32, 105, 115, 32, 110, 111, 116, 32, 109, 111, 117, 110, 116, 101, 100]⟩] 256], #[], []⟩).heap.modify 7 fun
      | .cells _ t frozen => .cells #[.iface 239 (.pointer (some ⟨low + 0, 0, none⟩))] t frozen
      | o => o).modify 1 fun
      | .cells _ t frozen => .cells #[.iface 239 (.pointer (some ⟨low + 1, 0, none⟩))] t frozen
      | o => o).modify 2 fun
      | .cells _ t frozen => .cells #[.iface 239 (.pointer (some ⟨low + 2, 0, none⟩))] t frozen
      | o => o).modify 0 fun
      | .cells _ t frozen => .cells #[.iface 239 (.pointer (some ⟨low + 3, 0, none⟩))] t frozen
      | o => o).modify 6 fun
      | .cells _ t frozen => .cells #[.iface 239 (.pointer (some ⟨low + 4, 0, none⟩))] t frozen
      | o => o).modify 8 fun
      | .cells _ t frozen => .cells #[.iface 239 (.pointer (some ⟨low + 5, 0, none⟩))] t frozen
      | o => o).modify 9 fun
      | .cells _ t frozen => .cells #[.iface 239 (.pointer (some ⟨low + 6, 0, none⟩))] t frozen
      | o => o).modify 4 fun
      | .cells _ t frozen => .cells #[.iface 239 (.pointer (some ⟨low + 7, 0, none⟩))] t frozen
      | o => o).modify 10 fun
      | .cells _ t frozen => .cells #[.iface 239 (.pointer (some ⟨low + 8, 0, none⟩))] t frozen
      | o => o).modify 11 fun
      | .cells _ t frozen => .cells #[.iface 239 (.pointer (some ⟨low + 9, 0, none⟩))] t frozen
      | o => o).modify 12 fun
      | .cells _ t frozen => .cells #[.iface 239 (.pointer (some ⟨low + 10, 0, none⟩))] t frozen
      | o => o).modify 13 fun
      | .cells _ t frozen => .cells #[.iface 239 (.pointer (some ⟨low + 11, 0, none⟩))] t frozen
      | o => o).modify 14 fun
      | .cells _ t frozen => .cells #[.iface 239 (.pointer (some ⟨low + 12, 0, none⟩))] t frozen
      | o => o).modify 3 fun
      | .cells _ t frozen => .cells #[.iface 239 (.pointer (some ⟨low + 13, 0, none⟩))] t frozen
      | o => o).modify 15 fun
      | .cells _ t frozen => .cells #[.iface 239 (.pointer (some ⟨low + 14, 0, none⟩))] t frozen
      | o => o).modify 5 fun
      | .cells _ t frozen => .cells #[.iface 239 (.pointer (some ⟨low + 15, 0, none⟩))] t frozen
      | o => o).modify 16 fun
      | .cells _ t frozen => .cells #[.iface 239 (.pointer (some ⟨low + 16, 0, none⟩))] t frozen
      | o => o).modify 17 fun
      | .cells _ t frozen => .cells #[.iface 239 (.pointer (some ⟨low + 17, 0, none⟩))] t frozen
      | o => o).modify 18 fun
      | .cells _ t frozen => .cells #[.iface 239 (.pointer (some ⟨low + 18, 0, none⟩))] t frozen
      | o => o) }
theorem laid_met (os : Os) : laidMet Tryd.prog Rows.bufferPlaysRow.laid ((laidWorld os).forCall (fun _ _ => 0) ⟨#[], #[.int .i64 0, .int .i64 0, .int .i64 0, .slice none 0 0, .int .i64 0, .int .i64 0], []⟩).memory :=
  laidMet_of_run' 8 (by kernel_rfl) (by kernel_rfl)
theorem reads (os : Os) {H : Type} (enc : TypeId × Value → H) : ∃ places, DataW.whole enc Tryd.prog ((laidWorld os).forCall (fun _ _ => 0) ⟨#[], #[.int .i64 0, .int .i64 0, .int .i64 0, .slice none 0 0, .int .i64 0, .int .i64 0], []⟩).memory Tryd.f7.params.toList Rows.bufferPlaysSpec.vars false (#[.int .i64 0, .int .i64 0, .int .i64 0, .slice none 0 0, .int .i64 0, .int .i64 0] : Array Value).toList 8 = some ([.lit (.int .i64 0), .lit (.int .i64 0), .lit (.int .i64 0), .nil, .lit (.int .i64 0), .lit (.int .i64 0)], [], places) :=
  ⟨[], by kernel_rfl⟩
set_option maxRecDepth 100000 in
theorem lifted (os : Os) (started : os.Started) (H : Type) (enc : TypeId × Value → H) (F : Stop.Interp) :
    ReturnsInHanded {} Tryd.checked os 7 .any ((OpenSpec.ofChange Rows.bufferPlaysSpec).preRow enc Tryd.prog Tryd.f7 Rows.bufferPlaysRow.domain false Rows.bufferPlaysRow.laid) (((OpenSpec.ofChange Rows.bufferPlaysSpec).at F).post enc Tryd.prog Tryd.f7 false true false false) := by
  obtain ⟨places, hx⟩ := reads os enc
  refine returnsInHanded_of_row (C := Tryd.checked) (s := OpenSpec.ofChange Rows.bufferPlaysSpec) noKnob started (by kernel_rfl) Tryd.func7
    (witness_row_atRef (enc := enc) (C := Tryd.checked) false (laidWorld os) #[.int .i64 0, .int .i64 0, .int .i64 0, .slice none 0 0, .int .i64 0, .int .i64 0] rfl (by kernel_rfl) (by kernel_rfl) (by kernel_rfl)
      (OpenSpec.preRow_of_cond 8 hx (by kernel_rfl) (fun k hk => by cases hk) (by kernel_rfl) (laid_met os))) ?_
  intro W base args ds gs before hval hW _ _ _ hL _ _
  exact contract H enc W base args ds gs before hval hW hL
set_option maxHeartbeats 100000000 in
theorem closed : joinedFacts Tryd.pinned.checked.prog 7 Tryd.f7 (OpenSpec.ofChange Rows.bufferPlaysSpec).bare Rows.bufferPlaysRow = true := by
  unfold joinedFacts
  repeat' (with_reducible refine Bool.and_eq_true_iff.mpr ⟨?_, ?_⟩)
  all_goals (as_aux_lemma => kernel_rfl)
theorem said : Rows.BufferPlaysSaid :=
  OpenClaim.holds_of_cond 7 Tryd.f7 rfl rfl rfl rfl rfl rfl rfl ⟨rfl, rfl, rfl, rfl, rfl⟩ rfl rfl rfl rfl rfl (by kernel_rfl) Tryd.func7 closed
    (of_decide_eq_true (by kernel_rfl)) (by unfold Func.isWrapper; first | (rw [if_pos (by decide +kernel)]; kernel_rfl) | (rw [if_neg (by decide +kernel)]; exact ⟨rfl, rfl⟩))
    (fun os started H enc _ F => by rw [OpenClaim.pre_eq_preRow]; exact lifted os started H enc F)
theorem plain (f : FuncId) (fn : Func) (hf : Tryd.pinned.checked.prog.funcNamed "shale/shalelaw19.BufferPlays" = some f) (hfn : Tryd.pinned.checked.prog.funcs[f]? = some fn) :
    true = Tryd.pinned.checked.prog.looks [] ∧ ∀ (j : Nat) t, fn.params[j]? = some t → Tryd.pinned.checked.prog.wantsStandIn t = false := by
  obtain rfl : f = 7 := Option.some.inj ((show Tryd.prog.funcNamed "shale/shalelaw19.BufferPlays" = some 7 by kernel_rfl).symm.trans hf) |>.symm
  obtain rfl : fn = Tryd.f7 := (Option.some.inj (Tryd.func7.symm.trans hfn)).symm
  refine ⟨by kernel_rfl, fun j t ht => ?_⟩
  rw [Tryd.params7] at ht
  have hm : t = 3 ∨ t = 3 ∨ t = 3 ∨ t = 68 ∨ t = 3 ∨ t = 3 := by simpa using Array.mem_of_getElem? ht
  rcases hm with rfl | rfl | rfl | rfl | rfl | rfl
  · exact (show Tryd.prog.wantsStandIn 3 = false by kernel_rfl)
  · exact (show Tryd.prog.wantsStandIn 3 = false by kernel_rfl)
  · exact (show Tryd.prog.wantsStandIn 3 = false by kernel_rfl)
  · exact (show Tryd.prog.wantsStandIn 68 = false by kernel_rfl)
  · exact (show Tryd.prog.wantsStandIn 3 = false by kernel_rfl)
  · exact (show Tryd.prog.wantsStandIn 3 = false by kernel_rfl)
theorem card : Rows.BufferPlaysCardSaid :=
  Claim7.holds_tied_plain_at .later [] _ _ _ _ said (fun _ h => by cases h) (by kernel_rfl) (fun _ h => by cases h) bufferPlays_row_tie rfl ⟨rfl, rfl⟩ (by kernel_rfl) rfl plain (by kernel_rfl)
end Go.Proofs.YtcdmmfpgeagimaaDoor.lawBufferPlays
