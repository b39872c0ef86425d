/- This text is one of those that prove the law WholeErrors of the given program, as its statement says it: true on every input that the statement covers. Its conditions are the statement's own. -/
import Derived.Test.YtjbjeeoifhegfaaGreatDoorRows
import Derived.Test.YtjbjeeoifhegfaaGreatDoorCards
import Derived.Test.YtjbjeeoifhegfaaGreatDoorTie
import Derived.WalkKit
import Derived.ProofKit
import Derived.OpenShut
import Derived.ChangeOld
import Derived.SizedLaws
import Derived.SevenTiedAt
import Derived.Deep.DeepHandedRow
import Derived.Deep.DeepWitnessRowRef
import Derived.Test.YtjbjeeoifhegfaaGreatDoorZWholeErrors1
import Derived.Test.YtjbjeeoifhegfaaGreatDoorZWholeErrors2
import Derived.Test.YtjbjeeoifhegfaaGreatDoorZWholeErrors3
import Derived.Test.YtjbjeeoifhegfaaGreatDoorZWholeErrors4
import Derived.Test.YtjbjeeoifhegfaaGreatDoorZWholeErrors5
import Derived.Test.YtjbjeeoifhegfaaGreatDoorZWholeErrors6
import Derived.Test.YtjbjeeoifhegfaaGreatDoorZWholeErrors7
import Derived.Test.YtjbjeeoifhegfaaGreatDoorZWholeErrors8
import Derived.Test.YtjbjeeoifhegfaaGreatDoorZWholeErrors9
import Derived.Test.YtjbjeeoifhegfaaGreatDoorZWholeErrors10
import Derived.Test.YtjbjeeoifhegfaaGreatDoorZWholeErrors11
import Derived.Test.YtjbjeeoifhegfaaGreatDoorZWholeErrors12
import Derived.Test.YtjbjeeoifhegfaaGreatDoorZWholeErrors13
import Derived.Test.YtjbjeeoifhegfaaGreatDoorZWholeErrors14
set_option linter.unusedVariables false
set_option linter.unusedSimpArgs false
namespace Go.Proofs.YtjbjeeoifhegfaaGreatDoor.wholeErrors
open Go.ChangeShapes Go.WideShapes Go.ChangeAt Go.RowKit Go.Proofs.YtjbjeeoifhegfaaGreatDoor.E
set_option maxRecDepth 100000 in
set_option maxHeartbeats 4000000 in
theorem card_holds:Rows.WholeErrorsCardSaid :=
 Claim7.holds_tied_plain_at .later [] [.funcs,.handle,.sentinel,.sentinel,.data] true (true, "9aeabcded0cf54af6e6314e3559f8d4ab6bd5f54a79d514b1c3c40e9c347399e") true
  over (fun _ h => by cases h) (by as_aux_lemma => kernel_rfl) (fun _ h => by cases h) wholeErrors_row_tie rfl ⟨rfl,rfl⟩ (by as_aux_lemma => kernel_rfl) rfl
  (fun f fn hf hfn => by
   obtain rfl:f = 3:=Option.some.inj ((show Tryz.prog.funcNamed "capnp/capnptop.WholeErrors" = some 3 by kernel_rfl).symm.trans hf) |>.symm
   obtain rfl:fn = Tryz.f3:=(Option.some.inj (Tryz.func3.symm.trans hfn)).symm
   exact ⟨by as_aux_lemma => kernel_rfl,fun j t ht => by
    rw [Tryz.params3] at ht
    have hm:t ∈ [22,24]:=by simpa using Array.mem_of_getElem? ht
    have hall:([22,24].all fun u => !Tryz.prog.wantsStandIn u) = true:=by kernel_rfl
    exact (show Tryz.prog.wantsStandIn t = false by simpa using List.all_eq_true.1 hall t hm)⟩)
  (by as_aux_lemma => kernel_rfl)
#print axioms card_holds
end Go.Proofs.YtjbjeeoifhegfaaGreatDoor.wholeErrors
namespace Go.Proofs.YtjbjeeoifhegfaaGreatDoor
theorem wholeErrors_holds:Go.Proofs.YtjbjeeoifhegfaaGreatDoor.Rows.WholeErrorsCardSaid:=wholeErrors.card_holds
end Go.Proofs.YtjbjeeoifhegfaaGreatDoor
