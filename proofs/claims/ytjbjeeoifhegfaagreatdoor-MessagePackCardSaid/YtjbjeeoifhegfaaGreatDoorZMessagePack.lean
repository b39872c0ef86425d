/- This text is one of those that prove the law MessagePack of the given program, as its statement says it: true on every input that the statement covers. Its conditions are the statement's own. -/
import Derived.Test.YtjbjeeoifhegfaaGreatDoorRows
import Derived.Test.YtjbjeeoifhegfaaGreatDoorCards
import Derived.Test.YtjbjeeoifhegfaaGreatDoorTie
import Derived.WalkKit
import Derived.ProofKit
import Derived.OpenShut
import Derived.ChangeOld
import Derived.SizedLaws
import Derived.SevenTiedAt
import Derived.Deep.DeepHandedRow
import Derived.Deep.DeepWitnessRowRef
import Derived.Test.YtjbjeeoifhegfaaGreatDoorZMessagePack1
import Derived.Test.YtjbjeeoifhegfaaGreatDoorZMessagePack2
import Derived.Test.YtjbjeeoifhegfaaGreatDoorZMessagePack3
import Derived.Test.YtjbjeeoifhegfaaGreatDoorZMessagePack4
import Derived.Test.YtjbjeeoifhegfaaGreatDoorZMessagePack5
import Derived.Test.YtjbjeeoifhegfaaGreatDoorZMessagePack6
import Derived.Test.YtjbjeeoifhegfaaGreatDoorZMessagePack7
import Derived.Test.YtjbjeeoifhegfaaGreatDoorZMessagePack8
import Derived.Test.YtjbjeeoifhegfaaGreatDoorZMessagePack9
import Derived.Test.YtjbjeeoifhegfaaGreatDoorZMessagePack10
import Derived.Test.YtjbjeeoifhegfaaGreatDoorZMessagePack11
import Derived.Test.YtjbjeeoifhegfaaGreatDoorZMessagePack12
import Derived.Test.YtjbjeeoifhegfaaGreatDoorZMessagePack13
import Derived.Test.YtjbjeeoifhegfaaGreatDoorZMessagePack14
import Derived.Test.YtjbjeeoifhegfaaGreatDoorZMessagePack15
set_option linter.unusedVariables false
set_option linter.unusedSimpArgs false
namespace Go.Proofs.YtjbjeeoifhegfaaGreatDoor.messagePack
open Go.ChangeShapes Go.WideShapes Go.ChangeAt Go.RowKit Go.Proofs.YtjbjeeoifhegfaaGreatDoor.E
set_option maxRecDepth 100000 in
set_option maxHeartbeats 4000000 in
theorem card_holds:Rows.MessagePackCardSaid :=
 Claim7.holds_tied_plain_at .later [] [.funcs,.handle,.sentinel,.sentinel,.data] true (true, "9aeabcded0cf54af6e6314e3559f8d4ab6bd5f54a79d514b1c3c40e9c347399e") true
  over (fun _ h => by cases h) (by as_aux_lemma => kernel_rfl) (fun _ h => by cases h) messagePack_row_tie rfl ⟨rfl,rfl⟩ (by as_aux_lemma => kernel_rfl) rfl
  (fun f fn hf hfn => by
   obtain rfl:f = 10:=Option.some.inj ((show Tryz.prog.funcNamed "capnp/capnplaw27.MessagePack" = some 10 by kernel_rfl).symm.trans hf) |>.symm
   obtain rfl:fn = Tryz.f10:=(Option.some.inj (Tryz.func10.symm.trans hfn)).symm
   exact ⟨by as_aux_lemma => kernel_rfl,fun j t ht => by
    rw [Tryz.params10] at ht
    have hm:t ∈ [22,22,3]:=by simpa using Array.mem_of_getElem? ht
    have hall:([22,22,3].all fun u => !Tryz.prog.wantsStandIn u) = true:=by kernel_rfl
    exact (show Tryz.prog.wantsStandIn t = false by simpa using List.all_eq_true.1 hall t hm)⟩)
  (by as_aux_lemma => kernel_rfl)
#print axioms card_holds
end Go.Proofs.YtjbjeeoifhegfaaGreatDoor.messagePack
namespace Go.Proofs.YtjbjeeoifhegfaaGreatDoor
theorem messagePack_holds:Go.Proofs.YtjbjeeoifhegfaaGreatDoor.Rows.MessagePackCardSaid:=messagePack.card_holds
end Go.Proofs.YtjbjeeoifhegfaaGreatDoor
