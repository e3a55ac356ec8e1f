/- WholeCodes holds: whatever the input, the law answers true. Conditions: those of the given statement alone. -/
import Derived.Test.YtcgjepodnfjggaaGreatDoorCards
import Derived.Test.YtcgjepodnfjggaaGreatDoorWWholeCodesG
import Derived.Test.YtcgjepodnfjggaaGreatDoorWWholeCodesA
import Derived.Test.YtcgjepodnfjggaaGreatDoorWWholeCodesX28
import Derived.Test.YtcgjepodnfjggaaGreatDoorWWholeCodesX29
import Derived.Test.YtcgjepodnfjggaaGreatDoorWWholeCodesX30
import Derived.Test.YtcgjepodnfjggaaGreatDoorWWholeCodesE
set_option linter.all false
namespace Go.Proofs.YtcgjepodnfjggaaGreatDoor.lawWholeCodes
open Go.a6 Go.ChangeShapes Go.WideShapes Go.ChangeAt Go.RowKit
set_option linter.unusedVariables false
theorem aml {W : World} (h : laidMetH Tryz.prog Rows.wholeCodesRow.laid W) : laidMet Tryz.prog Rows.wholeCodesRow.laid W := h
theorem ajF {W : World} (h : laidMetH Tryz.prog Rows.wholeCodesRow.laid W) : Has (lF (qj W) [0, 1, 8, 9, 14, 3, 10, 4, 11, 17, 5, 2, 13, 12, 6, 7, 15, 16]) W :=
  aed (l := Rows.wholeCodesRow.laid) (aml h) ⟨⟨_, rfl⟩, by kernel_rfl, by kernel_rfl, ⟨⟨_, rfl⟩, by kernel_rfl, by kernel_rfl, ⟨⟨_, rfl⟩, by kernel_rfl, by kernel_rfl, ⟨⟨_, rfl⟩, by kernel_rfl, by kernel_rfl, ⟨⟨_, rfl⟩, by kernel_rfl, by kernel_rfl, ⟨⟨_, rfl⟩, by kernel_rfl, by kernel_rfl, ⟨⟨_, rfl⟩, by kernel_rfl, by kernel_rfl, ⟨⟨_, rfl⟩, by kernel_rfl, by kernel_rfl, ⟨⟨_, rfl⟩, by kernel_rfl, by kernel_rfl, ⟨⟨_, rfl⟩, by kernel_rfl, by kernel_rfl, ⟨⟨_, rfl⟩, by kernel_rfl, by kernel_rfl, ⟨⟨_, rfl⟩, by kernel_rfl, by kernel_rfl, ⟨⟨_, rfl⟩, by kernel_rfl, by kernel_rfl, ⟨⟨_, rfl⟩, by kernel_rfl, by kernel_rfl, ⟨⟨_, rfl⟩, by kernel_rfl, by kernel_rfl, ⟨⟨_, rfl⟩, by kernel_rfl, by kernel_rfl, ⟨⟨_, rfl⟩, by kernel_rfl, by kernel_rfl, ⟨⟨_, rfl⟩, by kernel_rfl, by kernel_rfl, trivial⟩⟩⟩⟩⟩⟩⟩⟩⟩⟩⟩⟩⟩⟩⟩⟩⟩⟩
set_option maxRecDepth 100000 in
theorem aj8 (H : Type) (enc : TypeId × Value → H) (W : World) (base : Nat) (args : Array Value) (aX gs : List (DataW H)) (before : List MemPlace)
    (nl : ∀ (j : Nat) t v, Tryz.f3.params[j]? = some t → args[j]? = some v → Value.okWide Tryz.prog W .any base t v)
    (gZ : DataW.Whole enc Tryz.prog Tryz.f3.params.toList Rows.wholeCodesSpec.vars false W args.toList aX gs before) (cF : laidMetH Tryz.prog Rows.wholeCodesRow.laid W) :
    Calls Tryz.prog 3 args W fun e aa1 => ∃ v, e = .returned v ∧ Rows.wholeCodesSpec.post enc Tryz.prog Tryz.f3 false true false false W args v aa1 := by
  have BV := gZ
  obtain ⟨p, q, Gl, ars, rfl, U9, gd⟩ := gZ
  have bs : DataW.TrodAll enc Tryz.prog W 0 (fun _ => true) true Tryz.f3.params.toList args.toList aX p := Gl
  rw [Tryz.params3] at bs nl
  obtain ⟨v0, aw4, d0, avM, cT, avi, WL, rfl, rfl, aB, Er⟩ := trodAll_cons bs
  obtain ⟨v1, awH, d1, avW, ix, fG, rfl, rfl, rfl, aa, w6⟩ := trodAll_cons Er
  obtain ⟨v2, awb, d2, avg, ay, da, rfl, rfl, rfl, ab, sZ⟩ := trodAll_cons w6
  obtain ⟨v3, aw2, d3, axk, uZ, lK, rfl, rfl, rfl, an, anL⟩ := trodAll_cons sZ
  obtain ⟨v4, axG, d4, awa, Tu, CA, rfl, rfl, rfl, aK, apy⟩ := trodAll_cons anL
  obtain ⟨rfl, rfl, rfl⟩ := trodAll_nil apy
  obtain rfl : args = #[v0, v1, v2, v3, v4] := by cases args; simp_all
  obtain ⟨rfl, rfl⟩ := trodVars_none ars
  obtain ⟨a0, rfl, rfl, rfl, UO⟩ := open_int Tryz.underlying3 (nl 0 3 v0 rfl rfl) aB
  obtain ⟨ep, rfl⟩ := amn au4 (nl 1 23 v1 rfl rfl) aa
  obtain ⟨bw, cD, c2, l2, rfl, eX, cR, rfl, Gq, oe⟩ := aqB Tryz.underlying24 Tryz.underlying5 (by kernel_rfl) (nl 2 24 v2 rfl rfl) ab
  obtain ⟨uy, UK, k0, kD, rfl, axN, tx, rfl, acx, abk⟩ := M0 Tryz.underlying25 Tryz.underlying3 (by kernel_rfl) (nl 3 25 v3 rfl rfl) an
  obtain ⟨Es, j9, qz, pY, rfl, avj, ZR, rfl, RE, awo⟩ := M0 Tryz.underlying25 Tryz.underlying3 (by kernel_rfl) (nl 4 25 v4 rfl rfl) aK
  clear Gl
  simp only [List.append_nil, List.nil_append] at BV
  refine Calls.mono (ar9 a0 ep bw l2.length c2 l2 uy kD.length k0 kD Es pY.length qz pY (qj W) W Gq oe (by omega) eX acx (by omega) RE (by omega) ((ajF cF).ah3 (by decide))) (fun e aa1 ⟨he, aq⟩ => ?_)
  subst he
  have ad := aiX aq
  refine ⟨_, rfl, _, _, _, [], _, [], BV, (trodAll_cons_mk (shut_bool Tryz.underlying4 true) trodAll_mk0), (trodAll_cons_mk (shut_int Tryz.underlying3 UO) (trodAll_cons_mk (Below.trod J9 (by kernel_rfl) (of_decide_eq_true (by kernel_rfl)) aa ad (fun x af => by simpa using BV.lt x (by simp [af]))) (trodAll_cons_mk (Below.trod J9 (by kernel_rfl) (of_decide_eq_true (by kernel_rfl)) ab ad (fun x af => by simpa using BV.lt x (by simp [af]))) (trodAll_cons_mk (Below.trod J9 (by kernel_rfl) (of_decide_eq_true (by kernel_rfl)) an ad (fun x af => by simpa using BV.lt x (by simp [af]))) (trodAll_cons_mk (Below.trod J9 (by kernel_rfl) (of_decide_eq_true (by kernel_rfl)) aK ad (fun x af => by simpa using BV.lt x (by simp [af]))) trodAll_mk0))))), rfl, ad.frame _, fun h => by cases h⟩
/-- A world for the witness. -/
noncomputable def low : Nat := (World.holding Tryz.prog default ⟨#[], #[], []⟩).heap.size
noncomputable def Rh (os : Os) : World :=
  { World.holding Tryz.prog os ⟨#[.cells #[.string ⟨#[110, 111, 32, 114, 101, 99, 111, 114, 100]⟩] 618, .cells #[.string ⟨#[110, 111, 32, 115, 117, 99, 104, 32, 99, 104, 105, 112]⟩] 618, .cells #[.string ⟨#[116, 111, 111, 32, 108, 111, 110, 103]⟩] 618, .cells #[.string ⟨#[110, 111, 32, 115, 117, 99, 104, 32, 99, 111, 100, 101]⟩] 618, .cells #[.string ⟨#[110, 111, 32, 115, 117, 99, 104, 32, 102, 105, 101, 108, 100]⟩] 618, .cells #[.string ⟨#[110, 111, 32, 115, 117, 99, 104, 32, 110, 117, 109, 98, 101, 114]⟩] 618, .cells #[.string ⟨#[109, 111, 114, 101, 32, 105, 115, 32, 97, 109, 105, 115, 115, 32, 116, 104, 97, 110, 32, 99, 97, 110, 32, 98, 101, 32, 109, 101, 110, 100, 101, 100]⟩] 618, .cells #[.string ⟨#[116, 104, 101, 32, 112, 111, 119, 101, 114, 32, 105, 115, 32, 111, 102, 102]⟩] 618, .cells #[.string ⟨#[105, 116, 32, 100, 111, 101, 115, 32, 110, 111, 116, 32, 99, 111, 109, 101, 32, 104, 101, 114, 101]⟩] 618, .cells #[.string ⟨#[116, 104, 101, 32, 98, 108, 111, 99, 107, 32, 105, 115, 32, 98, 97, 100]⟩] 618, .cells #[.string ⟨#[116, 104, 101, 32, 99, 104, 105, 112, 32, 102, 97, 105, 108, 101, 100]⟩] 618, .cells #[.string ⟨#[110, 111, 32, 115, 101, 99, 116, 111, 114, 39, 115, 32, 115, 105, 122, 101]⟩] 618, .cells #[.string ⟨#[105, 116, 32, 99, 97, 110, 32, 111, 110, 108, 121, 32, 98, 101, 32, 114, 101, 97, 100]⟩] 618, .cells #[.string ⟨#[110, 111, 32, 114, 111, 111, 109]⟩] 618, .cells #[.string ⟨#[110, 111, 32, 115, 117, 99, 104, 32, 115, 116, 101, 112]⟩] 618, .cells #[.string ⟨#[105, 116, 32, 105, 115, 32, 110, 111, 116, 32, 109, 111, 117, 110, 116, 101, 100]⟩] 618, .cells #[.string ⟨#[116, 104, 101, 32, 112, 97, 103, 101, 32, 99, 97, 110, 110, 111, 116, 32, 98, 101, 32, 114, 101, 97, 100]⟩] 618, .cells #[.string ⟨#[122, 101, 114, 111, 32, 104, 97, 115, 32, 110, 111, 110, 101]⟩] 618], #[], []⟩ with heap := (((((((((((((((((((World.holding Tryz.prog os ⟨#[.cells #[.string ⟨#[110, 111, 32, 114, 101, 99, 111, 114, 100]⟩] 618, .cells #[.string ⟨#[110, 111, 32, 115, 117, 99, 104, 32, 99, 104, 105, 112]⟩] 618, .cells #[.string ⟨#[116, 111, 111, 32, 108, 111, 110, 103]⟩] 618, .cells #[.string ⟨#[110, 111, 32, 115, 117, 99, 104, 32, 99, 111, 100, 101]⟩] 618, .cells #[.string ⟨#[110, 111, 32, 115, 117, 99, 104, 32, 102, 105, 101, 108, 100]⟩] 618, .cells #[.string ⟨#[110, 111, 32, 115, 117, 99, 104, 32, 110, 117, 109, 98, 101, 114]⟩] 618, .cells #[.string ⟨#[109, 111, 114, 101, 32, 105, 115, 32, 97, 109, 105, 115, 115, 32, 116, 104, 97, 110, 32, 99, 97, 110, 32, 98, 101, 32, 109, 101, 110, 100, 101, 100]⟩] 618, .cells #[.string ⟨#[116, 104, 101, 32, 112, 111, 119, 101, 114, 32, 105, 115, 32, 111, 102, 102]⟩] 618, .cells #[.string ⟨#[105, 116, 32, 100, 111, 101, 115, 32, 110, 111, 116, 32, 99, 111, 109, 101, 32, 104, 101, 114, 101]⟩] 618, .cells #[.string ⟨#[116, 104, 101, 32, 98, 108, 111, 99, 107, 32, 105, 115, 32, 98, 97, 100]⟩] 618, .cells #[.string ⟨#[116, 104, 101, 32, 99, 104, 105, 112, 32, 102, 97, 105, 108, 101, 100]⟩] 618, .cells #[.string ⟨#[110, 111, 32, 115, 101, 99, 116, 111, 114, 39, 115, 32, 115, 105, 122, 101]⟩] 618, .cells #[.string ⟨#[105, 116, 32, 99, 97, 110, 32, 111, 110, 108, 121, 32, 98, 101, 32, 114, 101, 97, 100]⟩] 618, .cells #[.string ⟨#[110, 111, 32, 114, 111, 111, 109]⟩] 618, .cells #[.string ⟨#[110, 111, 32, 115, 117, 99, 104, 32, 115, 116, 101, 112]⟩] 618, .cells #[.string ⟨#[105, 116, 32, 105, 115, 32, 110, 111, 116, 32, 109, 111, 117, 110, 116, 101, 100]⟩] 618, .cells #[.string ⟨#[116, 104, 101, 32, 112, 97, 103, 101, 32, 99, 97, 110, 110, 111, 116, 32, 98, 101, 32, 114, 101, 97, 100]⟩] 618, .cells #[.string ⟨#[122, 101, 114, 111, 32, 104, 97, 115, 32, 110, 111, 110, 101]⟩] 618], #[], []⟩).heap.modify 0 fun
      | .cells _ t frozen => .cells #[.iface 601 (.pointer (some ⟨low + 0, 0, none⟩))] t frozen
      | o => o).modify 1 fun
      | .cells _ t frozen => .cells #[.iface 601 (.pointer (some ⟨low + 1, 0, none⟩))] t frozen
      | o => o).modify 8 fun
      | .cells _ t frozen => .cells #[.iface 601 (.pointer (some ⟨low + 2, 0, none⟩))] t frozen
      | o => o).modify 9 fun
      | .cells _ t frozen => .cells #[.iface 601 (.pointer (some ⟨low + 3, 0, none⟩))] t frozen
      | o => o).modify 14 fun
      | .cells _ t frozen => .cells #[.iface 601 (.pointer (some ⟨low + 4, 0, none⟩))] t frozen
      | o => o).modify 3 fun
      | .cells _ t frozen => .cells #[.iface 601 (.pointer (some ⟨low + 5, 0, none⟩))] t frozen
      | o => o).modify 10 fun
      | .cells _ t frozen => .cells #[.iface 601 (.pointer (some ⟨low + 6, 0, none⟩))] t frozen
      | o => o).modify 4 fun
      | .cells _ t frozen => .cells #[.iface 601 (.pointer (some ⟨low + 7, 0, none⟩))] t frozen
      | o => o).modify 11 fun
      | .cells _ t frozen => .cells #[.iface 601 (.pointer (some ⟨low + 8, 0, none⟩))] t frozen
      | o => o).modify 17 fun
      | .cells _ t frozen => .cells #[.iface 601 (.pointer (some ⟨low + 9, 0, none⟩))] t frozen
      | o => o).modify 5 fun
      | .cells _ t frozen => .cells #[.iface 601 (.pointer (some ⟨low + 10, 0, none⟩))] t frozen
      | o => o).modify 2 fun
      | .cells _ t frozen => .cells #[.iface 601 (.pointer (some ⟨low + 11, 0, none⟩))] t frozen
      | o => o).modify 13 fun
      | .cells _ t frozen => .cells #[.iface 601 (.pointer (some ⟨low + 12, 0, none⟩))] t frozen
      | o => o).modify 12 fun
      | .cells _ t frozen => .cells #[.iface 601 (.pointer (some ⟨low + 13, 0, none⟩))] t frozen
      | o => o).modify 6 fun
      | .cells _ t frozen => .cells #[.iface 601 (.pointer (some ⟨low + 14, 0, none⟩))] t frozen
      | o => o).modify 7 fun
      | .cells _ t frozen => .cells #[.iface 601 (.pointer (some ⟨low + 15, 0, none⟩))] t frozen
      | o => o).modify 15 fun
      | .cells _ t frozen => .cells #[.iface 601 (.pointer (some ⟨low + 16, 0, none⟩))] t frozen
      | o => o).modify 16 fun
      | .cells _ t frozen => .cells #[.iface 601 (.pointer (some ⟨low + 17, 0, none⟩))] t frozen
      | o => o) }
theorem aso (os : Os) : laidMet Tryz.prog Rows.wholeCodesRow.laid ((Rh os).forCall (fun _ _ => 0) ⟨#[], #[.int .i64 0, .agg #[.int .i64 0, .int .i64 0, .int .i64 0, .int .i64 0, .int .i64 0, .int .i64 0], .slice none 0 0, .slice none 0 0, .slice none 0 0], []⟩).memory :=
  laidMet_of_run' 8 (by kernel_rfl) (by kernel_rfl)
theorem reads (os : Os) {H : Type} (enc : TypeId × Value → H) : ∃ places, DataW.whole enc Tryz.prog ((Rh os).forCall (fun _ _ => 0) ⟨#[], #[.int .i64 0, .agg #[.int .i64 0, .int .i64 0, .int .i64 0, .int .i64 0, .int .i64 0, .int .i64 0], .slice none 0 0, .slice none 0 0, .slice none 0 0], []⟩).memory Tryz.f3.params.toList Rows.wholeCodesSpec.vars false (#[.int .i64 0, .agg #[.int .i64 0, .int .i64 0, .int .i64 0, .int .i64 0, .int .i64 0, .int .i64 0], .slice none 0 0, .slice none 0 0, .slice none 0 0] : Array Value).toList 8 = some ([.lit (.int .i64 0), .agg [.lit (.int .i64 0), .lit (.int .i64 0), .lit (.int .i64 0), .lit (.int .i64 0), .lit (.int .i64 0), .lit (.int .i64 0)], .nil, .nil, .nil], [], places) :=
  ⟨[], by kernel_rfl⟩
set_option maxRecDepth 100000 in
theorem lifted (os : Os) (started : os.Started) (H : Type) (enc : TypeId × Value → H) (F : Stop.Interp) :
    ReturnsInHanded {} Tryz.checked os 3 .any ((OpenSpec.ofChange Rows.wholeCodesSpec).preRow enc Tryz.prog Tryz.f3 Rows.wholeCodesRow.domain false Rows.wholeCodesRow.laid) (((OpenSpec.ofChange Rows.wholeCodesSpec).at F).post enc Tryz.prog Tryz.f3 false true false false) := by
  obtain ⟨places, af⟩ := reads os enc
  refine returnsInHanded_of_row (C := Tryz.checked) (s := OpenSpec.ofChange Rows.wholeCodesSpec) afc started (by kernel_rfl) Tryz.func3
    (witness_row_atRef (enc := enc) (C := Tryz.checked) false (Rh os) #[.int .i64 0, .agg #[.int .i64 0, .int .i64 0, .int .i64 0, .int .i64 0, .int .i64 0, .int .i64 0], .slice none 0 0, .slice none 0 0, .slice none 0 0] rfl (by kernel_rfl) (by kernel_rfl) (by kernel_rfl)
      (OpenSpec.preRow_of_cond 8 af (by kernel_rfl) (fun k ah => by cases ah) (by kernel_rfl) (aso os))) ?_
  intro W base args aX gs before nl gZ _ _ _ cF _ _
  exact aj8 H enc W base args aX gs before nl gZ cF
set_option maxHeartbeats 100000000 in
theorem closed : joinedFacts Tryz.pinned.checked.prog 3 Tryz.f3 (OpenSpec.ofChange Rows.wholeCodesSpec).bare Rows.wholeCodesRow = true := by
  unfold joinedFacts
  repeat' (with_reducible refine Bool.and_eq_true_iff.mpr ⟨?_, ?_⟩)
  all_goals (as_aux_lemma => kernel_rfl)
theorem said : Rows.WholeCodesSaid :=
  OpenClaim.holds_of_cond 3 Tryz.f3 rfl rfl rfl rfl rfl rfl rfl ⟨rfl, rfl, rfl, rfl, rfl⟩ rfl rfl rfl rfl rfl (by kernel_rfl) Tryz.func3 closed
    (of_decide_eq_true (by kernel_rfl)) (by unfold Func.isWrapper; first | (rw [if_pos (by decide +kernel)]; kernel_rfl) | (rw [if_neg (by decide +kernel)]; exact ⟨rfl, rfl⟩))
    (fun os started H enc _ F => by rw [OpenClaim.pre_eq_preRow]; exact lifted os started H enc F)
theorem plain (f : FuncId) (fn : Func) (aI : Tryz.pinned.checked.prog.funcNamed "shale/shaletop.WholeCodes" = some f) (nF : Tryz.pinned.checked.prog.funcs[f]? = some fn) :
    true = Tryz.pinned.checked.prog.looks [] ∧ ∀ (j : Nat) t, fn.params[j]? = some t → Tryz.pinned.checked.prog.wantsStandIn t = false := by
  obtain rfl : f = 3 := Option.some.inj ((show Tryz.prog.funcNamed "shale/shaletop.WholeCodes" = some 3 by kernel_rfl).symm.trans aI) |>.symm
  obtain rfl : fn = Tryz.f3 := (Option.some.inj (Tryz.func3.symm.trans nF)).symm
  refine ⟨by kernel_rfl, fun j t bb => ?_⟩
  rw [Tryz.params3] at bb
  have hm : t = 3 ∨ t = 23 ∨ t = 24 ∨ t = 25 ∨ t = 25 := by simpa using Array.mem_of_getElem? bb
  rcases hm with rfl | rfl | rfl | rfl | rfl
  · exact (show Tryz.prog.wantsStandIn 3 = false by kernel_rfl)
  · exact (show Tryz.prog.wantsStandIn 23 = false by kernel_rfl)
  · exact (show Tryz.prog.wantsStandIn 24 = false by kernel_rfl)
  · exact (show Tryz.prog.wantsStandIn 25 = false by kernel_rfl)
  · exact (show Tryz.prog.wantsStandIn 25 = false by kernel_rfl)
theorem card : Rows.WholeCodesCardSaid :=
  Claim7.holds_tied_plain_at .later [] _ _ _ _ said (fun _ h => by cases h) auX (fun _ h => by cases h) aex rfl ⟨rfl, rfl⟩ alk rfl plain aee
end Go.Proofs.YtcgjepodnfjggaaGreatDoor.lawWholeCodes
