/- A part of the proof of the law MessageKeeps, as its statement says it: for every input; its conditions are the statement's own. -/
import Derived.Test.YtjbjeeoifhegfaaGreatDoorRows
import Derived.Test.YtjbjeeoifhegfaaGreatDoorCards
import Derived.Test.YtjbjeeoifhegfaaGreatDoorTie
import Derived.WalkKit
import Derived.ProofKit
import Derived.OpenShut
import Derived.ChangeOld
import Derived.SizedLaws
import Derived.SevenTiedAt
import Derived.Deep.DeepHandedRow
import Derived.Deep.DeepWitnessRowRef
import Derived.Test.YtjbjeeoifhegfaaGreatDoorZMessageKeeps1
import Derived.Test.YtjbjeeoifhegfaaGreatDoorZMessageKeeps2
import Derived.Test.YtjbjeeoifhegfaaGreatDoorZMessageKeeps3
import Derived.Test.YtjbjeeoifhegfaaGreatDoorZMessageKeeps4
import Derived.Test.YtjbjeeoifhegfaaGreatDoorZMessageKeeps5
import Derived.Test.YtjbjeeoifhegfaaGreatDoorZMessageKeeps6
import Derived.Test.YtjbjeeoifhegfaaGreatDoorZMessageKeeps7
import Derived.Test.YtjbjeeoifhegfaaGreatDoorZMessageKeeps8
import Derived.Test.YtjbjeeoifhegfaaGreatDoorZMessageKeeps9
import Derived.Test.YtjbjeeoifhegfaaGreatDoorZMessageKeeps10
import Derived.Test.YtjbjeeoifhegfaaGreatDoorZMessageKeeps11
import Derived.Test.YtjbjeeoifhegfaaGreatDoorZMessageKeeps12
import Derived.Test.YtjbjeeoifhegfaaGreatDoorZMessageKeeps13
import Derived.Test.YtjbjeeoifhegfaaGreatDoorZMessageKeeps14
set_option linter.unusedVariables false
set_option linter.unusedSimpArgs false
namespace Go.Proofs.YtjbjeeoifhegfaaGreatDoor.messageKeeps
open Go.ChangeShapes Go.WideShapes Go.ChangeAt Go.RowKit Go.Proofs.YtjbjeeoifhegfaaGreatDoor.E
set_option maxRecDepth 100000 in
set_option maxHeartbeats 4000000 in
theorem card_holds:Rows.MessageKeepsCardSaid :=
 Claim7.holds_tied_plain_at .later [] [.funcs,.handle,.sentinel,.sentinel,.data] true (true, "9aeabcded0cf54af6e6314e3559f8d4ab6bd5f54a79d514b1c3c40e9c347399e") true
  over (fun _ h=>by cases h) (by as_aux_lemma=>kernel_rfl) (fun _ h=>by cases h) messageKeeps_row_tie rfl ⟨rfl,rfl⟩ (by as_aux_lemma=>kernel_rfl) rfl
  (fun f fn hf we=>by
   obtain rfl:f=11:=Option.some.inj ((show Tryz.prog.funcNamed "capnp/capnplaw27.MessageKeeps" = some 11 by kernel_rfl).symm.trans hf) |>.symm
   obtain rfl:fn=Tryz.f11:=(Option.some.inj (Tryz.func11.symm.trans we)).symm
   exact ⟨by as_aux_lemma=>kernel_rfl,fun j t ht=>by
    rw[Tryz.params11] at ht
    have hm:t∈[22,22,24]:=by simpa using Array.mem_of_getElem? ht
    have hall:([22,22,24].all fun u=>!Tryz.prog.wantsStandIn u)=true:=by kernel_rfl
    exact (show Tryz.prog.wantsStandIn t=false by simpa using List.all_eq_true.1 hall t hm)⟩)
  (by as_aux_lemma=>kernel_rfl)
#print axioms card_holds
end Go.Proofs.YtjbjeeoifhegfaaGreatDoor.messageKeeps
namespace Go.Proofs.YtjbjeeoifhegfaaGreatDoor
theorem messageKeeps_holds:Go.Proofs.YtjbjeeoifhegfaaGreatDoor.Rows.MessageKeepsCardSaid:=messageKeeps.card_holds
end Go.Proofs.YtjbjeeoifhegfaaGreatDoor
