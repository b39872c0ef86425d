/- This text is one of those that prove the law MessageEqual of the given program, as its statement says it: true on every input that the statement covers. Its conditions are the statement's own. -/
import Derived.Test.YtjbjeeoifhegfaaGreatDoorRows
import Derived.Test.YtjbjeeoifhegfaaGreatDoorCards
import Derived.Test.YtjbjeeoifhegfaaGreatDoorTie
import Derived.WalkKit
import Derived.ProofKit
import Derived.OpenShut
import Derived.ChangeOld
import Derived.SizedLaws
import Derived.SevenTiedAt
import Derived.Deep.DeepHandedRow
import Derived.Deep.DeepWitnessRowRef
import Derived.Test.YtjbjeeoifhegfaaGreatDoorZMessageEqual1
import Derived.Test.YtjbjeeoifhegfaaGreatDoorZMessageEqual2
import Derived.Test.YtjbjeeoifhegfaaGreatDoorZMessageEqual3
import Derived.Test.YtjbjeeoifhegfaaGreatDoorZMessageEqual4
import Derived.Test.YtjbjeeoifhegfaaGreatDoorZMessageEqual5
import Derived.Test.YtjbjeeoifhegfaaGreatDoorZMessageEqual6
import Derived.Test.YtjbjeeoifhegfaaGreatDoorZMessageEqual7
import Derived.Test.YtjbjeeoifhegfaaGreatDoorZMessageEqual8
import Derived.Test.YtjbjeeoifhegfaaGreatDoorZMessageEqual9
import Derived.Test.YtjbjeeoifhegfaaGreatDoorZMessageEqual10
import Derived.Test.YtjbjeeoifhegfaaGreatDoorZMessageEqual11
import Derived.Test.YtjbjeeoifhegfaaGreatDoorZMessageEqual12
import Derived.Test.YtjbjeeoifhegfaaGreatDoorZMessageEqual13
set_option linter.unusedVariables false
set_option linter.unusedSimpArgs false
namespace Go.Proofs.YtjbjeeoifhegfaaGreatDoor.messageEqual
open Go.ChangeShapes Go.WideShapes Go.ChangeAt Go.RowKit Go.Proofs.YtjbjeeoifhegfaaGreatDoor.E
set_option maxRecDepth 100000 in
set_option maxHeartbeats 4000000 in
theorem over : Rows.messageEqualRow.holds Tryz.pinned (OpenSpec.ofChange Rows.messageEqualSpec) :=
 OpenClaim.holds_of_cond 8 Tryz.f8 rfl rfl rfl rfl rfl rfl rfl ⟨rfl, rfl, rfl, rfl, rfl⟩ rfl rfl rfl rfl rfl (by kernel_rfl) Tryz.func8 (by unfold joinedFacts; simp only [Bool.and_eq_true]; and_intros <;> as_aux_lemma => kernel_rfl)
  (of_decide_eq_true (by as_aux_lemma => kernel_rfl)) (by unfold Func.isWrapper; first | (rw [if_pos (by decide +kernel)]; kernel_rfl) | (rw [if_neg (by decide +kernel)]; exact ⟨rfl, rfl⟩))
  (fun os started H enc _ F => by rw [OpenClaim.pre_eq_preRow]; exact zlL os started H enc F)
end Go.Proofs.YtjbjeeoifhegfaaGreatDoor.messageEqual
