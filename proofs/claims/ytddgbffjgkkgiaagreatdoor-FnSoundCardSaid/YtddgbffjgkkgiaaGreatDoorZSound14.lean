/- FnSound: soundness implies that groups are safe and every look holds; a new world is sound, ready and valid. -/

import Derived.Test.YtddgbffjgkkgiaaGreatDoorZSound13
set_option linter.defProp false
set_option linter.unusedVariables false
set_option linter.unusedSimpArgs false
set_option maxRecDepth 100000
set_option maxHeartbeats 4000000
namespace Go.Proofs.YtddgbffjgkkgiaaGreatDoor
open Go.PQ
open Go Go.AV Go.M
open Go.ChangeShapes Go.WideShapes Go.ChangeAt Go.RowKit
theorem DI4 : Rows.FnSoundSaid :=
  OpenClaim.holds_of_wide 3 Tryz.f3 rfl rfl rfl rfl rfl rfl rfl ⟨rfl, rfl, rfl, rfl, rfl⟩ rfl rfl rfl rfl rfl E3 Tryz.func3 Cj7
    (AB7 E3) (by unfold Func.isWrapper; first | (rw [D9 (by decide +kernel)]; kernel_rfl) | (rw [D0 (by decide +kernel)]; exact ⟨rfl, rfl⟩))
    (fun os started H enc _ => fnSound_lifted os started H enc)
theorem Dh1 {P : Program} (h : P.funcs.toList.any Func.goes = false) (f : FuncId) : P.goes f = false := by
  have h1 : ∀ (g : FuncId), ((P.funcs[g]?).any Func.goes) = false := fun g => by
    cases hg : P.funcs[g]? with
    | none => rfl
    | some fn =>
      have := List.any_eq_false.1 h fn (by simpa using Array.mem_of_getElem? hg);simpa using this
  unfold Program.goes;rw [v9];refine ⟨?_, by rw [← Array.any_toList, h, Bool.and_false]⟩;rw [List.any_eq_false];intro g _;rw [h1 g]; decide
theorem DI5 {P : Program} {c : OpenClaim} (hs : c.start = .entering) (h : P.funcs.toList.any Func.goes = false) : false = c.goesBy P := by
  unfold OpenClaim.goesBy Program.goesAt Program.goesFrom;rw [hs]
  cases P.funcNamed c.func with
  | none => rfl
  | some f => simp [Dh1 h f]
theorem fnSound_proved : Rows.FnSoundCardSaid :=
  Claim7.holds_tied_plain_at .later [] [.data, .data, .data, .sentinel, .sentinel] true (true, "355a3164f102a48e72c312268196ad3d837e3070d7e9a48d47bb24ae9fe12b8e") true
    DI4 (fun _ h => by cases h) (by as_aux_lemma => kernel_rfl) (fun _ h => by cases h) fnSound_row_tie rfl ⟨rfl, rfl⟩ (by as_aux_lemma => kernel_rfl) rfl
    (fun f fn hf hfn => by
      obtain rfl : f = 3 := Option.some.inj ((show Tryz.prog.funcNamed "loop.example/g00850/laws.FnSound" = some 3 by as_aux_lemma => kernel_rfl).symm.trans hf) |>.symm
      obtain rfl : fn = Tryz.f3 := (Option.some.inj (Tryz.func3.symm.trans hfn)).symm;exact ⟨by kernel_rfl, fun j t ht => by
        rw [Tryz.params3] at ht;have hm : t ∈ [22, 22] := by simpa using Array.mem_of_getElem? ht
        have hall : ([22, 22].all fun u => !Tryz.prog.wantsStandIn u) = true := by kernel_rfl
        exact (show Tryz.prog.wantsStandIn t = false by simpa using V7.1 hall t hm)⟩)
    (DI5 rfl (by as_aux_lemma => kernel_rfl))
end Go.Proofs.YtddgbffjgkkgiaaGreatDoor
