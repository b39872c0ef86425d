/- A part of the proof of the law MessageKeeps, as its statement says it: for every input; its conditions are the statement's own. -/
import Derived.Test.YtjbjeeoifhegfaaGreatDoorRows
import Derived.Test.YtjbjeeoifhegfaaGreatDoorCards
import Derived.Test.YtjbjeeoifhegfaaGreatDoorTie
import Derived.WalkKit
import Derived.ProofKit
import Derived.OpenShut
import Derived.ChangeOld
import Derived.SizedLaws
import Derived.SevenTiedAt
import Derived.Deep.DeepHandedRow
import Derived.Deep.DeepWitnessRowRef
import Derived.Test.YtjbjeeoifhegfaaGreatDoorZMessageKeeps1
import Derived.Test.YtjbjeeoifhegfaaGreatDoorZMessageKeeps2
import Derived.Test.YtjbjeeoifhegfaaGreatDoorZMessageKeeps3
import Derived.Test.YtjbjeeoifhegfaaGreatDoorZMessageKeeps4
import Derived.Test.YtjbjeeoifhegfaaGreatDoorZMessageKeeps5
import Derived.Test.YtjbjeeoifhegfaaGreatDoorZMessageKeeps6
import Derived.Test.YtjbjeeoifhegfaaGreatDoorZMessageKeeps7
import Derived.Test.YtjbjeeoifhegfaaGreatDoorZMessageKeeps8
import Derived.Test.YtjbjeeoifhegfaaGreatDoorZMessageKeeps9
import Derived.Test.YtjbjeeoifhegfaaGreatDoorZMessageKeeps10
import Derived.Test.YtjbjeeoifhegfaaGreatDoorZMessageKeeps11
import Derived.Test.YtjbjeeoifhegfaaGreatDoorZMessageKeeps12
set_option linter.unusedVariables false
set_option linter.unusedSimpArgs false
namespace Go.Proofs.YtjbjeeoifhegfaaGreatDoor.messageKeeps
open Go.ChangeShapes Go.WideShapes Go.ChangeAt Go.RowKit Go.Proofs.YtjbjeeoifhegfaaGreatDoor.E
theorem own:ownKnob Tryz.prog.godebug=none:=by kernel_rfl
theorem laidOut:laidOutB Tryz.prog=true:=by kernel_rfl
theorem zhf (os:Os) (args:Array Value):laidMetH Tryz.prog Rows.messageKeepsRow.laid ((World.doorLaid Tryz.prog 600 os).forCall (fun _ _=>0) ⟨#[],args,[]⟩).memory :=
 laidMetH_of_parts3 (fuel:=8) (laidMet_of_run' 8 (by kernel_rfl) (by kernel_rfl)) (by kernel_rfl) (by kernel_rfl)
set_option maxRecDepth 100000 in
set_option maxHeartbeats 1000000 in
theorem reads (os:Os) {H:Type} (enc:TypeId×Value->H):DataW.whole enc Tryz.prog ((World.doorLaid Tryz.prog 600 os).forCall (fun _ _=>0) ⟨#[],#[.slice none 0 0,.slice none 0 0,.agg #[.int .i64 0,.int .i64 0,.int .i64 0]],[]⟩).memory Tryz.f11.params.toList Rows.messageKeepsSpec.vars false (#[.slice none 0 0,.slice none 0 0,.agg #[.int .i64 0,.int .i64 0,.int .i64 0]]:Array Value).toList 8=some ([.nil,.nil,.agg [.lit (.int .i64 0),.lit (.int .i64 0),.lit (.int .i64 0)]],[],[]):=by kernel_rfl
set_option maxRecDepth 100000 in
set_option maxHeartbeats 1000000 in
theorem ziB (os:Os) (started:os.Started) (H:Type) (enc:TypeId×Value->H) (F:Stop.Interp) :
  ReturnsInHanded {} Tryz.checked os 11 .any ((OpenSpec.ofChange Rows.messageKeepsSpec).preRow enc Tryz.prog Tryz.f11 Rows.messageKeepsRow.domain false Rows.messageKeepsRow.laid) (((OpenSpec.ofChange Rows.messageKeepsSpec).at F).post enc Tryz.prog Tryz.f11 false true false false):=by
 refine returnsInHanded_of_row (C:=Tryz.checked) (s:=(OpenSpec.ofChange Rows.messageKeepsSpec)) own started (by kernel_rfl) Tryz.func11
  (witness_row_atRef (enc:=enc) (C:=Tryz.checked) false (World.doorLaid Tryz.prog 600 os) #[.slice none 0 0,.slice none 0 0,.agg #[.int .i64 0,.int .i64 0,.int .i64 0]] rfl (by kernel_rfl) (by kernel_rfl) (by kernel_rfl)
   (OpenSpec.preRow_of_cond 8 (reads os enc) (by kernel_rfl) (fun k hk=>by cases hk) (by kernel_rfl) (zhf os _))) ?_
 intro W base args ds gs before hval0 hW _ hcond _ hL _ _
 have hval:∀ (j:Nat) t v,Tryz.f11.params[j]? = some t->args[j]? = some v->Value.okWide Tryz.prog W .any base t v:=hval0
 have hW':=hW
 obtain ⟨p,q,hA0,hV,rfl,hfz,hnd⟩:=hW
 have hA:DataW.TrodAll enc Tryz.prog W 0 (fun _=>true) true Tryz.f11.params.toList args.toList ds p:=hA0
 rw[Tryz.params11] at hA hval
 obtain ⟨v0,vs0,d0,ds0,p0,q0,hargs,rfl,rfl,h0,r0⟩:=trodAll_cons hA
 obtain ⟨v1,vs1,d1,ds1,p1,q1,rfl,rfl,rfl,h1,r1⟩:=trodAll_cons r0
 obtain ⟨v2,vs2,d2,ds2,p2,q2,rfl,rfl,rfl,h2,r2⟩:=trodAll_cons r1
 obtain ⟨rfl,rfl,rfl⟩:=trodAll_nil r2
 obtain rfl:args=#[v0,v1,v2]:=by cases args;simp_all
 obtain ⟨rfl,rfl⟩:=trodVars_none hV
 have k0:=h0
 have lt0:∀ x∈p0,x.block<W.heap.size:=by obtain ⟨m,hm⟩:=k0;exact DataW.trod_lt m _ _ _ hm
 obtain ⟨x0,y0,z0,rfl⟩:=okWide_slice Tryz.underlying22 (hval 0 22 v0 rfl rfl)
 obtain ⟨a0,g0,s_a0⟩:=qi (d:=Js) (S:=(DS (DI .u8))) zbF (fun _=>rfl) (fun h=>by cases h) h0
 have k1:=h1
 have lt1:∀ x∈p1,x.block<W.heap.size:=by obtain ⟨m,hm⟩:=k1;exact DataW.trod_lt m _ _ _ hm
 obtain ⟨x1,y1,z1,rfl⟩:=okWide_slice Tryz.underlying22 (hval 1 22 v1 rfl rfl)
 obtain ⟨a1,g1,s_a1⟩:=qi (d:=Js) (S:=(DS (DI .u8))) zbF (fun _=>rfl) (fun h=>by cases h) h1
 have k2:=h2
 have lt2:∀ x∈p2,x.block<W.heap.size:=by obtain ⟨m,hm⟩:=k2;exact DataW.trod_lt m _ _ _ hm
 obtain ⟨u2,rfl,sz2⟩:=okWide_struct Tryz.underlying24 (hval 2 24 v2 rfl rfl)
 obtain ⟨a2,g2,s_a2⟩:=qi (d:=Jt) (S:=uF) zkl (fun h=>by cases h) (fun _=>⟨_,rfl⟩) h2
 have hG:WOk Tryz.prog env (G0 W) W:=zmk hL (by first|exact List.mem_cons_self|(exact List.mem_cons_of_mem _ List.mem_cons_self)) (by first|exact List.mem_cons_self|(exact List.mem_cons_of_mem _ List.mem_cons_self)|(exact List.mem_cons_of_mem _ (List.mem_cons_of_mem _ List.mem_cons_self))) rfl
 refine (zkR hm hS we Xq hG (f:=11) (ps:=[.sl 1 (bs a0),.sl 1 (bs a1),.agg [I a2.1,I a2.2.1,I a2.2.2]]) (vs:=#[_,_,_]) rfl (fun j p x hp hx=>?_) (ziz (zbm s_a0) (zbm s_a1) a2.1 a2.2.1 a2.2.2)).mono fun e W' ⟨he,bel⟩=>?_
 ·match j with
  |0=>cases hp;cases hx;exact g0
  |1=>cases hp;cases hx;exact g1
  |2=>cases hp;cases hx;exact g2
  |j+3=>simp at hp
 subst he
 exact ⟨_,rfl,_,_,_,[],_,[],hW',trodAll_mk1 (shut_bool Tryz.underlying4 _),(trodAll_cons_mk (Below.trod laidOut (by kernel_rfl) (of_decide_eq_true (by kernel_rfl)) k0 bel lt0) (trodAll_cons_mk (Below.trod laidOut (by kernel_rfl) (of_decide_eq_true (by kernel_rfl)) k1 bel lt1) (trodAll_cons_mk (Below.trod laidOut (by kernel_rfl) (of_decide_eq_true (by kernel_rfl)) k2 bel lt2) trodAll_mk0))),rfl,bel.frame _,fun h=>by cases h⟩
end Go.Proofs.YtjbjeeoifhegfaaGreatDoor.messageKeeps
