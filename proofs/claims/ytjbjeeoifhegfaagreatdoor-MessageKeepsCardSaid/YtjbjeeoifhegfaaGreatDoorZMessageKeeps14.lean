/- A part of the proof of the law MessageKeeps, as its statement says it: for every input; its conditions are the statement's own. -/
import Derived.Test.YtjbjeeoifhegfaaGreatDoorRows
import Derived.Test.YtjbjeeoifhegfaaGreatDoorCards
import Derived.Test.YtjbjeeoifhegfaaGreatDoorTie
import Derived.WalkKit
import Derived.ProofKit
import Derived.OpenShut
import Derived.ChangeOld
import Derived.SizedLaws
import Derived.SevenTiedAt
import Derived.Deep.DeepHandedRow
import Derived.Deep.DeepWitnessRowRef
import Derived.Test.YtjbjeeoifhegfaaGreatDoorZMessageKeeps1
import Derived.Test.YtjbjeeoifhegfaaGreatDoorZMessageKeeps2
import Derived.Test.YtjbjeeoifhegfaaGreatDoorZMessageKeeps3
import Derived.Test.YtjbjeeoifhegfaaGreatDoorZMessageKeeps4
import Derived.Test.YtjbjeeoifhegfaaGreatDoorZMessageKeeps5
import Derived.Test.YtjbjeeoifhegfaaGreatDoorZMessageKeeps6
import Derived.Test.YtjbjeeoifhegfaaGreatDoorZMessageKeeps7
import Derived.Test.YtjbjeeoifhegfaaGreatDoorZMessageKeeps8
import Derived.Test.YtjbjeeoifhegfaaGreatDoorZMessageKeeps9
import Derived.Test.YtjbjeeoifhegfaaGreatDoorZMessageKeeps10
import Derived.Test.YtjbjeeoifhegfaaGreatDoorZMessageKeeps11
import Derived.Test.YtjbjeeoifhegfaaGreatDoorZMessageKeeps12
import Derived.Test.YtjbjeeoifhegfaaGreatDoorZMessageKeeps13
set_option linter.unusedVariables false
set_option linter.unusedSimpArgs false
namespace Go.Proofs.YtjbjeeoifhegfaaGreatDoor.messageKeeps
open Go.ChangeShapes Go.WideShapes Go.ChangeAt Go.RowKit Go.Proofs.YtjbjeeoifhegfaaGreatDoor.E
set_option maxRecDepth 100000 in
set_option maxHeartbeats 4000000 in
theorem over:Rows.messageKeepsRow.holds Tryz.pinned (OpenSpec.ofChange Rows.messageKeepsSpec) :=
 OpenClaim.holds_of_cond 11 Tryz.f11 rfl rfl rfl rfl rfl rfl rfl ⟨rfl,rfl,rfl,rfl,rfl⟩ rfl rfl rfl rfl rfl (by kernel_rfl) Tryz.func11 (by unfold joinedFacts;simp only[Bool.and_eq_true];and_intros<;>as_aux_lemma=>kernel_rfl)
  (of_decide_eq_true (by as_aux_lemma=>kernel_rfl)) (by unfold Func.isWrapper;first|(rw[if_pos (by decide +kernel)];kernel_rfl)|(rw[if_neg (by decide +kernel)];exact ⟨rfl,rfl⟩))
  (fun os started H enc _ F=>by rw[OpenClaim.pre_eq_preRow];exact ziB os started H enc F)
end Go.Proofs.YtjbjeeoifhegfaaGreatDoor.messageKeeps
