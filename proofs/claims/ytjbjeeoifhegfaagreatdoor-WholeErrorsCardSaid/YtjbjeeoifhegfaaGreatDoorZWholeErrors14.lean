/- This text is one of those that prove the law WholeErrors of the given program, as its statement says it: true on every input that the statement covers. Its conditions are the statement's own. -/
import Derived.Test.YtjbjeeoifhegfaaGreatDoorRows
import Derived.Test.YtjbjeeoifhegfaaGreatDoorCards
import Derived.Test.YtjbjeeoifhegfaaGreatDoorTie
import Derived.WalkKit
import Derived.ProofKit
import Derived.OpenShut
import Derived.ChangeOld
import Derived.SizedLaws
import Derived.SevenTiedAt
import Derived.Deep.DeepHandedRow
import Derived.Deep.DeepWitnessRowRef
import Derived.Test.YtjbjeeoifhegfaaGreatDoorZWholeErrors1
import Derived.Test.YtjbjeeoifhegfaaGreatDoorZWholeErrors2
import Derived.Test.YtjbjeeoifhegfaaGreatDoorZWholeErrors3
import Derived.Test.YtjbjeeoifhegfaaGreatDoorZWholeErrors4
import Derived.Test.YtjbjeeoifhegfaaGreatDoorZWholeErrors5
import Derived.Test.YtjbjeeoifhegfaaGreatDoorZWholeErrors6
import Derived.Test.YtjbjeeoifhegfaaGreatDoorZWholeErrors7
import Derived.Test.YtjbjeeoifhegfaaGreatDoorZWholeErrors8
import Derived.Test.YtjbjeeoifhegfaaGreatDoorZWholeErrors9
import Derived.Test.YtjbjeeoifhegfaaGreatDoorZWholeErrors10
import Derived.Test.YtjbjeeoifhegfaaGreatDoorZWholeErrors11
import Derived.Test.YtjbjeeoifhegfaaGreatDoorZWholeErrors12
import Derived.Test.YtjbjeeoifhegfaaGreatDoorZWholeErrors13
set_option linter.unusedVariables false
set_option linter.unusedSimpArgs false
namespace Go.Proofs.YtjbjeeoifhegfaaGreatDoor.wholeErrors
open Go.ChangeShapes Go.WideShapes Go.ChangeAt Go.RowKit Go.Proofs.YtjbjeeoifhegfaaGreatDoor.E
set_option maxRecDepth 100000 in
set_option maxHeartbeats 4000000 in
theorem over:Rows.wholeErrorsRow.holds Tryz.pinned (OpenSpec.ofChange Rows.wholeErrorsSpec) :=
 OpenClaim.holds_of_cond 3 Tryz.f3 rfl rfl rfl rfl rfl rfl rfl ⟨rfl,rfl,rfl,rfl,rfl⟩ rfl rfl rfl rfl rfl (by kernel_rfl) Tryz.func3 (by unfold joinedFacts; simp only [Bool.and_eq_true]; and_intros <;> as_aux_lemma => kernel_rfl)
  (of_decide_eq_true (by as_aux_lemma => kernel_rfl)) (by unfold Func.isWrapper; first | (rw [if_pos (by decide +kernel)]; kernel_rfl) | (rw [if_neg (by decide +kernel)]; exact ⟨rfl,rfl⟩))
  (fun os started H enc _ F => by rw [OpenClaim.pre_eq_preRow]; exact zlI os started H enc F)
end Go.Proofs.YtjbjeeoifhegfaaGreatDoor.wholeErrors
