/- This text is one of those that prove the law MessageHash of the given program, as its statement says it: true on every input that the statement covers. Its conditions are the statement's own. -/
import Derived.Test.YtjbjeeoifhegfaaGreatDoorRows
import Derived.Test.YtjbjeeoifhegfaaGreatDoorCards
import Derived.Test.YtjbjeeoifhegfaaGreatDoorTie
import Derived.WalkKit
import Derived.ProofKit
import Derived.OpenShut
import Derived.ChangeOld
import Derived.SizedLaws
import Derived.SevenTiedAt
import Derived.Deep.DeepHandedRow
import Derived.Deep.DeepWitnessRowRef
import Derived.Test.YtjbjeeoifhegfaaGreatDoorZMessageHash1
import Derived.Test.YtjbjeeoifhegfaaGreatDoorZMessageHash2
import Derived.Test.YtjbjeeoifhegfaaGreatDoorZMessageHash3
import Derived.Test.YtjbjeeoifhegfaaGreatDoorZMessageHash4
import Derived.Test.YtjbjeeoifhegfaaGreatDoorZMessageHash5
import Derived.Test.YtjbjeeoifhegfaaGreatDoorZMessageHash6
import Derived.Test.YtjbjeeoifhegfaaGreatDoorZMessageHash7
import Derived.Test.YtjbjeeoifhegfaaGreatDoorZMessageHash8
import Derived.Test.YtjbjeeoifhegfaaGreatDoorZMessageHash9
import Derived.Test.YtjbjeeoifhegfaaGreatDoorZMessageHash10
import Derived.Test.YtjbjeeoifhegfaaGreatDoorZMessageHash11
import Derived.Test.YtjbjeeoifhegfaaGreatDoorZMessageHash12
import Derived.Test.YtjbjeeoifhegfaaGreatDoorZMessageHash13
set_option linter.unusedVariables false
set_option linter.unusedSimpArgs false
namespace Go.Proofs.YtjbjeeoifhegfaaGreatDoor.messageHash
open Go.ChangeShapes Go.WideShapes Go.ChangeAt Go.RowKit Go.Proofs.YtjbjeeoifhegfaaGreatDoor.E
set_option maxRecDepth 100000 in
set_option maxHeartbeats 4000000 in
theorem over:Rows.messageHashRow.holds Tryz.pinned (OpenSpec.ofChange Rows.messageHashSpec) :=
 OpenClaim.holds_of_cond 9 Tryz.f9 rfl rfl rfl rfl rfl rfl rfl ⟨rfl,rfl,rfl,rfl,rfl⟩ rfl rfl rfl rfl rfl (by kernel_rfl) Tryz.func9 (by unfold joinedFacts;simp only[Bool.and_eq_true];and_intros<;>as_aux_lemma=>kernel_rfl)
  (of_decide_eq_true (by as_aux_lemma=>kernel_rfl)) (by unfold Func.isWrapper;first|(rw[if_pos (by decide +kernel)];kernel_rfl)|(rw[if_neg (by decide +kernel)];exact ⟨rfl,rfl⟩))
  (fun os started H enc _ F=>by rw[OpenClaim.pre_eq_preRow];exact zis os started H enc F)
end Go.Proofs.YtjbjeeoifhegfaaGreatDoor.messageHash
