/- This text is one of those that prove the law MessageEqual of the given program, as its statement says it: true on every input that the statement covers. Its conditions are the statement's own. -/
import Derived.Test.YtjbjeeoifhegfaaGreatDoorRows
import Derived.Test.YtjbjeeoifhegfaaGreatDoorCards
import Derived.Test.YtjbjeeoifhegfaaGreatDoorTie
import Derived.WalkKit
import Derived.ProofKit
import Derived.OpenShut
import Derived.ChangeOld
import Derived.SizedLaws
import Derived.SevenTiedAt
import Derived.Deep.DeepHandedRow
import Derived.Deep.DeepWitnessRowRef
import Derived.Test.YtjbjeeoifhegfaaGreatDoorZMessageEqual1
import Derived.Test.YtjbjeeoifhegfaaGreatDoorZMessageEqual2
import Derived.Test.YtjbjeeoifhegfaaGreatDoorZMessageEqual3
import Derived.Test.YtjbjeeoifhegfaaGreatDoorZMessageEqual4
import Derived.Test.YtjbjeeoifhegfaaGreatDoorZMessageEqual5
import Derived.Test.YtjbjeeoifhegfaaGreatDoorZMessageEqual6
import Derived.Test.YtjbjeeoifhegfaaGreatDoorZMessageEqual7
import Derived.Test.YtjbjeeoifhegfaaGreatDoorZMessageEqual8
import Derived.Test.YtjbjeeoifhegfaaGreatDoorZMessageEqual9
import Derived.Test.YtjbjeeoifhegfaaGreatDoorZMessageEqual10
import Derived.Test.YtjbjeeoifhegfaaGreatDoorZMessageEqual11
import Derived.Test.YtjbjeeoifhegfaaGreatDoorZMessageEqual12
import Derived.Test.YtjbjeeoifhegfaaGreatDoorZMessageEqual13
import Derived.Test.YtjbjeeoifhegfaaGreatDoorZMessageEqual14
set_option linter.unusedVariables false
set_option linter.unusedSimpArgs false
namespace Go.Proofs.YtjbjeeoifhegfaaGreatDoor.messageEqual
open Go.ChangeShapes Go.WideShapes Go.ChangeAt Go.RowKit Go.Proofs.YtjbjeeoifhegfaaGreatDoor.E
set_option maxRecDepth 100000 in
set_option maxHeartbeats 4000000 in
theorem card_holds : Rows.MessageEqualCardSaid :=
 Claim7.holds_tied_plain_at .later [] [.funcs, .handle, .sentinel, .sentinel, .data] true (true, "9aeabcded0cf54af6e6314e3559f8d4ab6bd5f54a79d514b1c3c40e9c347399e") true
  over (fun _ h => by cases h) (by as_aux_lemma => kernel_rfl) (fun _ h => by cases h) messageEqual_row_tie rfl ⟨rfl, rfl⟩ (by as_aux_lemma => kernel_rfl) rfl
  (fun f fn hf hfn => by
   obtain rfl : f = 8 := Option.some.inj ((show Tryz.prog.funcNamed "capnp/capnplaw27.MessageEqual" = some 8 by kernel_rfl).symm.trans hf) |>.symm
   obtain rfl : fn = Tryz.f8 := (Option.some.inj (Tryz.func8.symm.trans hfn)).symm
   exact ⟨by as_aux_lemma => kernel_rfl, fun j t ht => by
    rw [Tryz.params8] at ht
    have hm : t ∈ [22, 22, 24] := by simpa using Array.mem_of_getElem? ht
    have hall : ([22, 22, 24].all fun u => !Tryz.prog.wantsStandIn u) = true := by kernel_rfl
    exact (show Tryz.prog.wantsStandIn t = false by simpa using List.all_eq_true.1 hall t hm)⟩)
  (by as_aux_lemma => kernel_rfl)
#print axioms card_holds
end Go.Proofs.YtjbjeeoifhegfaaGreatDoor.messageEqual
namespace Go.Proofs.YtjbjeeoifhegfaaGreatDoor
theorem messageEqual_holds : Go.Proofs.YtjbjeeoifhegfaaGreatDoor.Rows.MessageEqualCardSaid := messageEqual.card_holds
end Go.Proofs.YtjbjeeoifhegfaaGreatDoor
