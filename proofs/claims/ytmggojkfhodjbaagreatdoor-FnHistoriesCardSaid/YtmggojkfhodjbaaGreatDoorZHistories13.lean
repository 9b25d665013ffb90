/- FnHistories: a world's history is valid, and its text has one line for each deed. -/
import Derived.Test.YtmggojkfhodjbaaGreatDoorZHistories12
set_option linter.unusedVariables false
set_option maxRecDepth 100000
set_option maxHeartbeats 4000000
namespace Go.Proofs.YtmggojkfhodjbaaGreatDoor
open Go.PQ
open Go Go.AV Go.M
open Go.ChangeShapes Go.WideShapes Go.ChangeAt Go.RowKit
theorem CN5 : Rows.FnHistoriesSaid :=
  OpenClaim.holds_of_wide 3 Tryz.f3 rfl rfl rfl rfl rfl rfl rfl ⟨rfl, rfl, rfl, rfl, rfl⟩ rfl rfl rfl rfl rfl E6 Tryz.func3 Bv6
    (AD2 E6) (by unfold Func.isWrapper; first | (rw [D3 (by decide +kernel)]; kernel_rfl) | (rw [C5 (by decide +kernel)]; exact ⟨rfl, rfl⟩))
    (fun os started H enc _ => fnHistories_lifted os started H enc)
theorem fnHistories_proved : Rows.FnHistoriesCardSaid :=
  Claim7.holds_tied_plain_at .later [] [.data, .data, .data, .sentinel, .sentinel] true (true, "8e67856f795829ed4e373fa3fd58503d6f94e3b89b9ebd59d5fc7c70c4fa82f8") true
    CN5 (fun _ h => by cases h) (by as_aux_lemma => kernel_rfl) (fun _ h => by cases h) fnHistories_row_tie rfl ⟨rfl, rfl⟩ (by as_aux_lemma => kernel_rfl) rfl
    (fun f fn hf hfn => by
      obtain rfl : f = 3 := Option.some.inj ((show Tryz.prog.funcNamed "loop.example/g00850/laws.FnHistories" = some 3 by as_aux_lemma => kernel_rfl).symm.trans hf) |>.symm
      obtain rfl : fn = Tryz.f3 := (Option.some.inj (Tryz.func3.symm.trans hfn)).symm;exact ⟨by kernel_rfl, fun j t ht => by
        rw [Tryz.params3] at ht;have hm : t ∈ [22, 22] := by simpa using Array.mem_of_getElem? ht
        have hall : ([22, 22].all fun u => !Tryz.prog.wantsStandIn u) = true := by kernel_rfl
        exact (show Tryz.prog.wantsStandIn t = false by simpa using Y6.1 hall t hm)⟩)
    (by as_aux_lemma => kernel_rfl)
end Go.Proofs.YtmggojkfhodjbaaGreatDoor
