/- This text is one of those that prove the law MessagePack of the given program, as its statement says it: true on every input that the statement covers. Its conditions are the statement's own. -/
import Derived.Test.YtjbjeeoifhegfaaGreatDoorRows
import Derived.Test.YtjbjeeoifhegfaaGreatDoorCards
import Derived.Test.YtjbjeeoifhegfaaGreatDoorTie
import Derived.WalkKit
import Derived.ProofKit
import Derived.OpenShut
import Derived.ChangeOld
import Derived.SizedLaws
import Derived.SevenTiedAt
import Derived.Deep.DeepHandedRow
import Derived.Deep.DeepWitnessRowRef
import Derived.Test.YtjbjeeoifhegfaaGreatDoorZMessagePack1
import Derived.Test.YtjbjeeoifhegfaaGreatDoorZMessagePack2
import Derived.Test.YtjbjeeoifhegfaaGreatDoorZMessagePack3
import Derived.Test.YtjbjeeoifhegfaaGreatDoorZMessagePack4
import Derived.Test.YtjbjeeoifhegfaaGreatDoorZMessagePack5
import Derived.Test.YtjbjeeoifhegfaaGreatDoorZMessagePack6
import Derived.Test.YtjbjeeoifhegfaaGreatDoorZMessagePack7
import Derived.Test.YtjbjeeoifhegfaaGreatDoorZMessagePack8
import Derived.Test.YtjbjeeoifhegfaaGreatDoorZMessagePack9
import Derived.Test.YtjbjeeoifhegfaaGreatDoorZMessagePack10
import Derived.Test.YtjbjeeoifhegfaaGreatDoorZMessagePack11
import Derived.Test.YtjbjeeoifhegfaaGreatDoorZMessagePack12
import Derived.Test.YtjbjeeoifhegfaaGreatDoorZMessagePack13
set_option linter.unusedVariables false
set_option linter.unusedSimpArgs false
namespace Go.Proofs.YtjbjeeoifhegfaaGreatDoor.messagePack
open Go.ChangeShapes Go.WideShapes Go.ChangeAt Go.RowKit Go.Proofs.YtjbjeeoifhegfaaGreatDoor.E
theorem own:ownKnob Tryz.prog.godebug = none:=by kernel_rfl
theorem laidOut:laidOutB Tryz.prog = true:=by kernel_rfl
theorem zi1 (os:Os) (args:Array Value):laidMetH Tryz.prog Rows.messagePackRow.laid ((World.doorLaid Tryz.prog 600 os).forCall (fun _ _ => 0) ⟨#[],args,[]⟩).memory :=
 laidMetH_of_parts3 (fuel:=8) (laidMet_of_run' 8 (by kernel_rfl) (by kernel_rfl)) (by kernel_rfl) (by kernel_rfl)
set_option maxRecDepth 100000 in
set_option maxHeartbeats 1000000 in
theorem reads (os:Os) {H:Type} (enc:TypeId × Value → H):DataW.whole enc Tryz.prog ((World.doorLaid Tryz.prog 600 os).forCall (fun _ _ => 0) ⟨#[],#[.slice none 0 0,.slice none 0 0,.int .i64 0],[]⟩).memory Tryz.f10.params.toList Rows.messagePackSpec.vars false (#[.slice none 0 0,.slice none 0 0,.int .i64 0]:Array Value).toList 8 = some ([.nil,.nil,.lit (.int .i64 0)],[],[]):=by kernel_rfl
set_option maxRecDepth 100000 in
set_option maxHeartbeats 1000000 in
theorem zne (os:Os) (started:os.Started) (H:Type) (enc:TypeId × Value → H) (F:Stop.Interp) :
  ReturnsInHanded {} Tryz.checked os 10 .any ((OpenSpec.ofChange Rows.messagePackSpec).preRow enc Tryz.prog Tryz.f10 Rows.messagePackRow.domain false Rows.messagePackRow.laid) (((OpenSpec.ofChange Rows.messagePackSpec).at F).post enc Tryz.prog Tryz.f10 false true false false):=by
 refine returnsInHanded_of_row (C:=Tryz.checked) (s:=(OpenSpec.ofChange Rows.messagePackSpec)) own started (by kernel_rfl) Tryz.func10
  (witness_row_atRef (enc:=enc) (C:=Tryz.checked) false (World.doorLaid Tryz.prog 600 os) #[.slice none 0 0,.slice none 0 0,.int .i64 0] rfl (by kernel_rfl) (by kernel_rfl) (by kernel_rfl)
   (OpenSpec.preRow_of_cond 8 (reads os enc) (by kernel_rfl) (fun k hk => by cases hk) (by kernel_rfl) (zi1 os _))) ?_
 intro W base args ds gs before hval0 hW _ hcond _ hL _ _
 have hval:∀ (j:Nat) t v,Tryz.f10.params[j]? = some t → args[j]? = some v → Value.okWide Tryz.prog W .any base t v:=hval0
 have hW':=hW
 obtain ⟨p,q,hA0,hV,rfl,hfz,hnd⟩:=hW
 have hA:DataW.TrodAll enc Tryz.prog W 0 (fun _ => true) true Tryz.f10.params.toList args.toList ds p:=hA0
 rw [Tryz.params10] at hA hval
 obtain ⟨v0,vs0,d0,ds0,p0,q0,hargs,rfl,rfl,h0,r0⟩:=trodAll_cons hA
 obtain ⟨v1,vs1,d1,ds1,p1,q1,rfl,rfl,rfl,h1,r1⟩:=trodAll_cons r0
 obtain ⟨v2,vs2,d2,ds2,p2,q2,rfl,rfl,rfl,h2,r2⟩:=trodAll_cons r1
 obtain ⟨rfl,rfl,rfl⟩:=trodAll_nil r2
 obtain rfl:args = #[v0,v1,v2]:=by cases args; simp_all
 obtain ⟨rfl,rfl⟩:=trodVars_none hV
 have k0:=h0
 have lt0:∀ x ∈ p0,x.block < W.heap.size:=by obtain ⟨m,hm⟩:=k0; exact DataW.trod_lt m _ _ _ hm
 obtain ⟨x0,y0,z0,rfl⟩:=okWide_slice Tryz.underlying22 (hval 0 22 v0 rfl rfl)
 obtain ⟨a0,g0,s_a0⟩:=zhJ (d:=zg1) (S:=(DS (DI .u8))) zeM (fun _ => rfl) (fun h => by cases h) h0
 have k1:=h1
 have lt1:∀ x ∈ p1,x.block < W.heap.size:=by obtain ⟨m,hm⟩:=k1; exact DataW.trod_lt m _ _ _ hm
 obtain ⟨x1,y1,z1,rfl⟩:=okWide_slice Tryz.underlying22 (hval 1 22 v1 rfl rfl)
 obtain ⟨a1,g1,s_a1⟩:=zhJ (d:=zg1) (S:=(DS (DI .u8))) zeM (fun _ => rfl) (fun h => by cases h) h1
 have k2:=h2
 have lt2:∀ x ∈ p2,x.block < W.heap.size:=by obtain ⟨m,hm⟩:=k2; exact DataW.trod_lt m _ _ _ hm
 obtain ⟨b2,rfl,_,_,_⟩:=open_int Tryz.underlying3 (hval 2 3 v2 rfl rfl) h2
 obtain ⟨a2,g2,s_a2⟩:=zhJ (d:=(zm6 .i64)) (S:=(DI .i64)) (fun n => RdsAt.int Tryz.underlying3) (fun _ => rfl) (fun h => by cases h) h2
 have hG:WOk Tryz.prog env (G0 W) W:=zdH hL (by first | exact List.mem_cons_self | (exact List.mem_cons_of_mem _ List.mem_cons_self)) (by first | exact List.mem_cons_self | (exact List.mem_cons_of_mem _ List.mem_cons_self) | (exact List.mem_cons_of_mem _ (List.mem_cons_of_mem _ List.mem_cons_self))) rfl
 refine (zjI hm hS hfn zms hG (f:=10) (ps:=[.sl 1 (bs a0),.sl 1 (bs a1),.v (.int .i64 a2)]) (vs:=#[_,_,_]) rfl (fun j p x hp hx => ?_) (KD (KP s_a0) (KP s_a1) (zgG s_a2.2))).mono fun e W' ⟨he,bel⟩ => ?_
 ·match j with
  | 0 => cases hp; cases hx; exact g0
  | 1 => cases hp; cases hx; exact g1
  | 2 => cases hp; cases hx; exact g2
  | j + 3 => simp at hp
 subst he
 exact ⟨_,rfl,_,_,_,[],_,[],hW',trodAll_mk1 (shut_bool Tryz.underlying4 _),(trodAll_cons_mk (Below.trod laidOut (by kernel_rfl) (of_decide_eq_true (by kernel_rfl)) k0 bel lt0) (trodAll_cons_mk (Below.trod laidOut (by kernel_rfl) (of_decide_eq_true (by kernel_rfl)) k1 bel lt1) (trodAll_cons_mk (Below.trod laidOut (by kernel_rfl) (of_decide_eq_true (by kernel_rfl)) k2 bel lt2) trodAll_mk0))),rfl,bel.frame _,fun h => by cases h⟩
end Go.Proofs.YtjbjeeoifhegfaaGreatDoor.messagePack
