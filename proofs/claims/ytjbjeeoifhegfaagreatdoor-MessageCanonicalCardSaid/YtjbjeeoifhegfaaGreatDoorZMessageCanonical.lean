/- This text is one of those that prove the law MessageCanonical of the given program, as its statement says it: true on every input that the statement covers. Its conditions are the statement's own. -/
import Derived.Test.YtjbjeeoifhegfaaGreatDoorRows
import Derived.Test.YtjbjeeoifhegfaaGreatDoorCards
import Derived.Test.YtjbjeeoifhegfaaGreatDoorTie
import Derived.WalkKit
import Derived.ProofKit
import Derived.OpenShut
import Derived.ChangeOld
import Derived.SizedLaws
import Derived.SevenTiedAt
import Derived.Deep.DeepHandedRow
import Derived.Deep.DeepWitnessRowRef
import Derived.Test.YtjbjeeoifhegfaaGreatDoorZMessageCanonical1
import Derived.Test.YtjbjeeoifhegfaaGreatDoorZMessageCanonical2
import Derived.Test.YtjbjeeoifhegfaaGreatDoorZMessageCanonical3
import Derived.Test.YtjbjeeoifhegfaaGreatDoorZMessageCanonical4
import Derived.Test.YtjbjeeoifhegfaaGreatDoorZMessageCanonical5
import Derived.Test.YtjbjeeoifhegfaaGreatDoorZMessageCanonical6
import Derived.Test.YtjbjeeoifhegfaaGreatDoorZMessageCanonical7
import Derived.Test.YtjbjeeoifhegfaaGreatDoorZMessageCanonical8
import Derived.Test.YtjbjeeoifhegfaaGreatDoorZMessageCanonical9
import Derived.Test.YtjbjeeoifhegfaaGreatDoorZMessageCanonical10
import Derived.Test.YtjbjeeoifhegfaaGreatDoorZMessageCanonical11
import Derived.Test.YtjbjeeoifhegfaaGreatDoorZMessageCanonical12
import Derived.Test.YtjbjeeoifhegfaaGreatDoorZMessageCanonical13
import Derived.Test.YtjbjeeoifhegfaaGreatDoorZMessageCanonical14
import Derived.Test.YtjbjeeoifhegfaaGreatDoorZMessageCanonical15
set_option linter.unusedVariables false
set_option linter.unusedSimpArgs false
namespace Go.Proofs.YtjbjeeoifhegfaaGreatDoor.messageCanonical
open Go.ChangeShapes Go.WideShapes Go.ChangeAt Go.RowKit Go.Proofs.YtjbjeeoifhegfaaGreatDoor.E
set_option maxRecDepth 100000 in
set_option maxHeartbeats 4000000 in
theorem card_holds:Rows.MessageCanonicalCardSaid :=
 Claim7.holds_tied_plain_at .later [] [.funcs,.handle,.sentinel,.sentinel,.data] true (true, "9aeabcded0cf54af6e6314e3559f8d4ab6bd5f54a79d514b1c3c40e9c347399e") true
  over (fun _ h=>by cases h) (by as_aux_lemma=>kernel_rfl) (fun _ h=>by cases h) messageCanonical_row_tie rfl ⟨rfl,rfl⟩ (by as_aux_lemma=>kernel_rfl) rfl
  (fun f fn hf wJ=>by
   obtain rfl:f=7:=Option.some.inj ((show Tryz.prog.funcNamed "capnp/capnplaw27.MessageCanonical" = some 7 by kernel_rfl).symm.trans hf) |>.symm
   obtain rfl:fn=Tryz.f7:=(Option.some.inj (Tryz.func7.symm.trans wJ)).symm
   exact ⟨by as_aux_lemma=>kernel_rfl,fun j t ht=>by
    rw[Tryz.params7] at ht
    have hm:t∈[22,24]:=by simpa using Array.mem_of_getElem? ht
    have hall:([22,24].all fun u=>!Tryz.prog.wantsStandIn u)=true:=by kernel_rfl
    exact (show Tryz.prog.wantsStandIn t=false by simpa using List.all_eq_true.1 hall t hm)⟩)
  (by as_aux_lemma=>kernel_rfl)
#print axioms card_holds
end Go.Proofs.YtjbjeeoifhegfaaGreatDoor.messageCanonical
namespace Go.Proofs.YtjbjeeoifhegfaaGreatDoor
theorem messageCanonical_holds:Go.Proofs.YtjbjeeoifhegfaaGreatDoor.Rows.MessageCanonicalCardSaid:=messageCanonical.card_holds
end Go.Proofs.YtjbjeeoifhegfaaGreatDoor
