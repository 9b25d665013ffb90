/- FnChanges: a snapshot plus the changes since then is the later snapshot. -/

import Derived.Test.YthpipeokipgafaaGreatDoorZChanges11
set_option linter.defProp false
set_option linter.unusedVariables false
set_option linter.unusedSimpArgs false
set_option maxRecDepth 100000
set_option maxHeartbeats 4000000
namespace Go.Proofs.YthpipeokipgafaaGreatDoor
open Go.PQ
open Go Go.AV Go.M
open Go.ChangeShapes Go.WideShapes Go.ChangeAt Go.RowKit
theorem CR5 : Rows.FnChangesSaid :=
  OpenClaim.holds_of_wide 3 Tryz.f3 rfl rfl rfl rfl rfl rfl rfl ⟨rfl, rfl, rfl, rfl, rfl⟩ rfl rfl rfl rfl rfl D4 Tryz.func3 By3
    (r3 D4) (by unfold Func.isWrapper; first | (rw [D0 (by decide +kernel)]; kernel_rfl) | (rw [C6 (by decide +kernel)]; exact ⟨rfl, rfl⟩))
    (fun os started H enc _ => fnChanges_lifted os started H enc)
theorem fnChanges_proved : Rows.FnChangesCardSaid :=
  Claim7.holds_tied_plain_at .later [] [.data, .data, .data, .sentinel, .sentinel] true (true, "89d57ab466fc8e4af0ab958c816f18ef9ef2d4c36bbb1844b519f998361fbeda") true
    CR5 (fun _ h => by cases h) (by as_aux_lemma => kernel_rfl) (fun _ h => by cases h) fnChanges_row_tie rfl ⟨rfl, rfl⟩ (by as_aux_lemma => kernel_rfl) rfl
    (fun f fn hf hfn => by
      obtain rfl : f = 3 := Option.some.inj ((show Tryz.prog.funcNamed "loop.example/g00850/laws.FnChanges" = some 3 by as_aux_lemma => kernel_rfl).symm.trans hf) |>.symm
      obtain rfl : fn = Tryz.f3 := (Option.some.inj (Tryz.func3.symm.trans hfn)).symm;exact ⟨by kernel_rfl, fun j t ht => by
        rw [Tryz.params3] at ht;have hm : t ∈ [22, 22] := by simpa using Array.mem_of_getElem? ht
        have hall : ([22, 22].all fun u => !Tryz.prog.wantsStandIn u) = true := by kernel_rfl
        exact (show Tryz.prog.wantsStandIn t = false by simpa using l5.1 hall t hm)⟩)
    (by as_aux_lemma => kernel_rfl)
end Go.Proofs.YthpipeokipgafaaGreatDoor
