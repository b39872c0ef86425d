/- This text is one of those that prove the law MessageHash of the given program, as its statement says it: true on every input that the statement covers. Its conditions are the statement's own. -/
import Derived.Test.YtjbjeeoifhegfaaGreatDoorRows
import Derived.Test.YtjbjeeoifhegfaaGreatDoorCards
import Derived.Test.YtjbjeeoifhegfaaGreatDoorTie
import Derived.WalkKit
import Derived.ProofKit
import Derived.OpenShut
import Derived.ChangeOld
import Derived.SizedLaws
import Derived.SevenTiedAt
import Derived.Deep.DeepHandedRow
import Derived.Deep.DeepWitnessRowRef
import Derived.Test.YtjbjeeoifhegfaaGreatDoorZMessageHash1
import Derived.Test.YtjbjeeoifhegfaaGreatDoorZMessageHash2
import Derived.Test.YtjbjeeoifhegfaaGreatDoorZMessageHash3
import Derived.Test.YtjbjeeoifhegfaaGreatDoorZMessageHash4
import Derived.Test.YtjbjeeoifhegfaaGreatDoorZMessageHash5
import Derived.Test.YtjbjeeoifhegfaaGreatDoorZMessageHash6
import Derived.Test.YtjbjeeoifhegfaaGreatDoorZMessageHash7
import Derived.Test.YtjbjeeoifhegfaaGreatDoorZMessageHash8
import Derived.Test.YtjbjeeoifhegfaaGreatDoorZMessageHash9
import Derived.Test.YtjbjeeoifhegfaaGreatDoorZMessageHash10
import Derived.Test.YtjbjeeoifhegfaaGreatDoorZMessageHash11
import Derived.Test.YtjbjeeoifhegfaaGreatDoorZMessageHash12
import Derived.Test.YtjbjeeoifhegfaaGreatDoorZMessageHash13
import Derived.Test.YtjbjeeoifhegfaaGreatDoorZMessageHash14
set_option linter.unusedVariables false
set_option linter.unusedSimpArgs false
namespace Go.Proofs.YtjbjeeoifhegfaaGreatDoor.messageHash
open Go.ChangeShapes Go.WideShapes Go.ChangeAt Go.RowKit Go.Proofs.YtjbjeeoifhegfaaGreatDoor.E
set_option maxRecDepth 100000 in
set_option maxHeartbeats 4000000 in
theorem card_holds:Rows.MessageHashCardSaid :=
 Claim7.holds_tied_plain_at .later [] [.funcs,.handle,.sentinel,.sentinel,.data] true (true, "9aeabcded0cf54af6e6314e3559f8d4ab6bd5f54a79d514b1c3c40e9c347399e") true
  over (fun _ h=>by cases h) (by as_aux_lemma=>kernel_rfl) (fun _ h=>by cases h) messageHash_row_tie rfl ⟨rfl,rfl⟩ (by as_aux_lemma=>kernel_rfl) rfl
  (fun f fn hf wk=>by
   obtain rfl:f=9:=Option.some.inj ((show Tryz.prog.funcNamed "capnp/capnplaw27.MessageHash" = some 9 by kernel_rfl).symm.trans hf) |>.symm
   obtain rfl:fn=Tryz.f9:=(Option.some.inj (Tryz.func9.symm.trans wk)).symm
   exact ⟨by as_aux_lemma=>kernel_rfl,fun j t ht=>by
    rw[Tryz.params9] at ht
    have hm:t∈[22,24]:=by simpa using Array.mem_of_getElem? ht
    have hall:([22,24].all fun u=>!Tryz.prog.wantsStandIn u)=true:=by kernel_rfl
    exact (show Tryz.prog.wantsStandIn t=false by simpa using List.all_eq_true.1 hall t hm)⟩)
  (by as_aux_lemma=>kernel_rfl)
#print axioms card_holds
end Go.Proofs.YtjbjeeoifhegfaaGreatDoor.messageHash
namespace Go.Proofs.YtjbjeeoifhegfaaGreatDoor
theorem messageHash_holds:Go.Proofs.YtjbjeeoifhegfaaGreatDoor.Rows.MessageHashCardSaid:=messageHash.card_holds
end Go.Proofs.YtjbjeeoifhegfaaGreatDoor
