/- This text is one of those that prove the law MessageCanonical of the given program, as its statement says it: true on every input that the statement covers. Its conditions are the statement's own. -/
import Derived.Test.YtjbjeeoifhegfaaGreatDoorRows
import Derived.Test.YtjbjeeoifhegfaaGreatDoorCards
import Derived.Test.YtjbjeeoifhegfaaGreatDoorTie
import Derived.WalkKit
import Derived.ProofKit
import Derived.OpenShut
import Derived.ChangeOld
import Derived.SizedLaws
import Derived.SevenTiedAt
import Derived.Deep.DeepHandedRow
import Derived.Deep.DeepWitnessRowRef
import Derived.Test.YtjbjeeoifhegfaaGreatDoorZMessageCanonical1
import Derived.Test.YtjbjeeoifhegfaaGreatDoorZMessageCanonical2
import Derived.Test.YtjbjeeoifhegfaaGreatDoorZMessageCanonical3
import Derived.Test.YtjbjeeoifhegfaaGreatDoorZMessageCanonical4
import Derived.Test.YtjbjeeoifhegfaaGreatDoorZMessageCanonical5
import Derived.Test.YtjbjeeoifhegfaaGreatDoorZMessageCanonical6
import Derived.Test.YtjbjeeoifhegfaaGreatDoorZMessageCanonical7
import Derived.Test.YtjbjeeoifhegfaaGreatDoorZMessageCanonical8
import Derived.Test.YtjbjeeoifhegfaaGreatDoorZMessageCanonical9
import Derived.Test.YtjbjeeoifhegfaaGreatDoorZMessageCanonical10
import Derived.Test.YtjbjeeoifhegfaaGreatDoorZMessageCanonical11
import Derived.Test.YtjbjeeoifhegfaaGreatDoorZMessageCanonical12
import Derived.Test.YtjbjeeoifhegfaaGreatDoorZMessageCanonical13
import Derived.Test.YtjbjeeoifhegfaaGreatDoorZMessageCanonical14
set_option linter.unusedVariables false
set_option linter.unusedSimpArgs false
namespace Go.Proofs.YtjbjeeoifhegfaaGreatDoor.messageCanonical
open Go.ChangeShapes Go.WideShapes Go.ChangeAt Go.RowKit Go.Proofs.YtjbjeeoifhegfaaGreatDoor.E
set_option maxRecDepth 100000 in
set_option maxHeartbeats 4000000 in
theorem over:Rows.messageCanonicalRow.holds Tryz.pinned (OpenSpec.ofChange Rows.messageCanonicalSpec) :=
 OpenClaim.holds_of_cond 7 Tryz.f7 rfl rfl rfl rfl rfl rfl rfl ⟨rfl,rfl,rfl,rfl,rfl⟩ rfl rfl rfl rfl rfl (by kernel_rfl) Tryz.func7 (by unfold joinedFacts;simp only[Bool.and_eq_true];and_intros<;>as_aux_lemma=>kernel_rfl)
  (of_decide_eq_true (by as_aux_lemma=>kernel_rfl)) (by unfold Func.isWrapper;first|(rw[if_pos (by decide +kernel)];kernel_rfl)|(rw[if_neg (by decide +kernel)];exact ⟨rfl,rfl⟩))
  (fun os started H enc _ F=>by rw[OpenClaim.pre_eq_preRow];exact zkI os started H enc F)
end Go.Proofs.YtjbjeeoifhegfaaGreatDoor.messageCanonical
