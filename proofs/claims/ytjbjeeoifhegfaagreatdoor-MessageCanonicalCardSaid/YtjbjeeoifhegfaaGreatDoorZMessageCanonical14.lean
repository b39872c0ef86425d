/- This text is one of those that prove the law MessageCanonical of the given program, as its statement says it: true on every input that the statement covers. Its conditions are the statement's own. -/
import Derived.Test.YtjbjeeoifhegfaaGreatDoorRows
import Derived.Test.YtjbjeeoifhegfaaGreatDoorCards
import Derived.Test.YtjbjeeoifhegfaaGreatDoorTie
import Derived.WalkKit
import Derived.ProofKit
import Derived.OpenShut
import Derived.ChangeOld
import Derived.SizedLaws
import Derived.SevenTiedAt
import Derived.Deep.DeepHandedRow
import Derived.Deep.DeepWitnessRowRef
import Derived.Test.YtjbjeeoifhegfaaGreatDoorZMessageCanonical1
import Derived.Test.YtjbjeeoifhegfaaGreatDoorZMessageCanonical2
import Derived.Test.YtjbjeeoifhegfaaGreatDoorZMessageCanonical3
import Derived.Test.YtjbjeeoifhegfaaGreatDoorZMessageCanonical4
import Derived.Test.YtjbjeeoifhegfaaGreatDoorZMessageCanonical5
import Derived.Test.YtjbjeeoifhegfaaGreatDoorZMessageCanonical6
import Derived.Test.YtjbjeeoifhegfaaGreatDoorZMessageCanonical7
import Derived.Test.YtjbjeeoifhegfaaGreatDoorZMessageCanonical8
import Derived.Test.YtjbjeeoifhegfaaGreatDoorZMessageCanonical9
import Derived.Test.YtjbjeeoifhegfaaGreatDoorZMessageCanonical10
import Derived.Test.YtjbjeeoifhegfaaGreatDoorZMessageCanonical11
import Derived.Test.YtjbjeeoifhegfaaGreatDoorZMessageCanonical12
import Derived.Test.YtjbjeeoifhegfaaGreatDoorZMessageCanonical13
set_option linter.unusedVariables false
set_option linter.unusedSimpArgs false
namespace Go.Proofs.YtjbjeeoifhegfaaGreatDoor.messageCanonical
open Go.ChangeShapes Go.WideShapes Go.ChangeAt Go.RowKit Go.Proofs.YtjbjeeoifhegfaaGreatDoor.E
theorem own:ownKnob Tryz.prog.godebug=none:=by kernel_rfl
theorem laidOut:laidOutB Tryz.prog=true:=by kernel_rfl
theorem zjk (os:Os) (args:Array Value):laidMetH Tryz.prog Rows.messageCanonicalRow.laid ((World.doorLaid Tryz.prog 600 os).forCall (fun _ _=>0) ⟨#[],args,[]⟩).memory :=
 laidMetH_of_parts3 (fuel:=8) (laidMet_of_run' 8 (by kernel_rfl) (by kernel_rfl)) (by kernel_rfl) (by kernel_rfl)
set_option maxRecDepth 100000 in
set_option maxHeartbeats 1000000 in
theorem reads (os:Os) {H:Type} (enc:TypeId×Value->H):DataW.whole enc Tryz.prog ((World.doorLaid Tryz.prog 600 os).forCall (fun _ _=>0) ⟨#[],#[.slice none 0 0,.agg #[.int .i64 0,.int .i64 0,.int .i64 0]],[]⟩).memory Tryz.f7.params.toList Rows.messageCanonicalSpec.vars false (#[.slice none 0 0,.agg #[.int .i64 0,.int .i64 0,.int .i64 0]]:Array Value).toList 8=some ([.nil,.agg [.lit (.int .i64 0),.lit (.int .i64 0),.lit (.int .i64 0)]],[],[]):=by kernel_rfl
set_option maxRecDepth 100000 in
set_option maxHeartbeats 1000000 in
theorem zkI (os:Os) (started:os.Started) (H:Type) (enc:TypeId×Value->H) (F:Stop.Interp) :
  ReturnsInHanded {} Tryz.checked os 7 .any ((OpenSpec.ofChange Rows.messageCanonicalSpec).preRow enc Tryz.prog Tryz.f7 Rows.messageCanonicalRow.domain false Rows.messageCanonicalRow.laid) (((OpenSpec.ofChange Rows.messageCanonicalSpec).at F).post enc Tryz.prog Tryz.f7 false true false false):=by
 refine returnsInHanded_of_row (C:=Tryz.checked) (s:=(OpenSpec.ofChange Rows.messageCanonicalSpec)) own started (by kernel_rfl) Tryz.func7
  (witness_row_atRef (enc:=enc) (C:=Tryz.checked) false (World.doorLaid Tryz.prog 600 os) #[.slice none 0 0,.agg #[.int .i64 0,.int .i64 0,.int .i64 0]] rfl (by kernel_rfl) (by kernel_rfl) (by kernel_rfl)
   (OpenSpec.preRow_of_cond 8 (reads os enc) (by kernel_rfl) (fun k hk=>by cases hk) (by kernel_rfl) (zjk os _))) ?_
 intro W base args ds gs before hval0 hW _ hcond _ hL _ _
 have hval:∀ (j:Nat) t v,Tryz.f7.params[j]? = some t->args[j]? = some v->Value.okWide Tryz.prog W .any base t v:=hval0
 have hW':=hW
 obtain ⟨p,q,hA0,hV,rfl,hfz,hnd⟩:=hW
 have hA:DataW.TrodAll enc Tryz.prog W 0 (fun _=>true) true Tryz.f7.params.toList args.toList ds p:=hA0
 rw[Tryz.params7] at hA hval
 obtain ⟨v0,vs0,d0,ds0,p0,q0,hargs,rfl,rfl,h0,r0⟩:=trodAll_cons hA
 obtain ⟨v1,vs1,d1,ds1,p1,q1,rfl,rfl,rfl,h1,r1⟩:=trodAll_cons r0
 obtain ⟨rfl,rfl,rfl⟩:=trodAll_nil r1
 obtain rfl:args=#[v0,v1]:=by cases args;simp_all
 obtain ⟨rfl,rfl⟩:=trodVars_none hV
 have k0:=h0
 have lt0:∀ x∈p0,x.block<W.heap.size:=by obtain ⟨m,hm⟩:=k0;exact DataW.trod_lt m _ _ _ hm
 obtain ⟨x0,y0,z0,rfl⟩:=okWide_slice Tryz.underlying22 (hval 0 22 v0 rfl rfl)
 obtain ⟨a0,g0,s_a0⟩:=zc6 (d:=zaY) (S:=(DS (DI .u8))) zmD (fun _=>rfl) (fun h=>by cases h) h0
 have k1:=h1
 have lt1:∀ x∈p1,x.block<W.heap.size:=by obtain ⟨m,hm⟩:=k1;exact DataW.trod_lt m _ _ _ hm
 obtain ⟨u1,rfl,sz1⟩:=okWide_struct Tryz.underlying24 (hval 1 24 v1 rfl rfl)
 obtain ⟨a1,g1,s_a1⟩:=zc6 (d:=qd) (S:=gV) zmE (fun h=>by cases h) (fun _=>⟨_,rfl⟩) h1
 have hG:WOk Tryz.prog env (G0 W) W:=zoL hL (by first|exact List.mem_cons_self|(exact List.mem_cons_of_mem _ List.mem_cons_self)) (by first|exact List.mem_cons_self|(exact List.mem_cons_of_mem _ List.mem_cons_self)|(exact List.mem_cons_of_mem _ (List.mem_cons_of_mem _ List.mem_cons_self))) rfl
 refine (zng hm hS wJ Wc hG (f:=7) (ps:=[.sl 1 (bs a0),.agg [I a1.1,I a1.2.1,I a1.2.2]]) (vs:=#[_,_]) rfl (fun j p x hp hx=>?_) (zkG (zlX s_a0) a1.1 a1.2.1 a1.2.2)).mono fun e W' ⟨he,bel⟩=>?_
 ·match j with
  |0=>cases hp;cases hx;exact g0
  |1=>cases hp;cases hx;exact g1
  |j+2=>simp at hp
 subst he
 exact ⟨_,rfl,_,_,_,[],_,[],hW',trodAll_mk1 (shut_bool Tryz.underlying4 _),(trodAll_cons_mk (Below.trod laidOut (by kernel_rfl) (of_decide_eq_true (by kernel_rfl)) k0 bel lt0) (trodAll_cons_mk (Below.trod laidOut (by kernel_rfl) (of_decide_eq_true (by kernel_rfl)) k1 bel lt1) trodAll_mk0)),rfl,bel.frame _,fun h=>by cases h⟩
end Go.Proofs.YtjbjeeoifhegfaaGreatDoor.messageCanonical
