/- A part of the proof of the law MessageKeeps, as its statement says it: for every input; its conditions are the statement's own. -/
import Derived.Test.YtjbjeeoifhegfaaGreatDoorZMessageKeeps1
import Derived.Test.YtjbjeeoifhegfaaGreatDoorZMessageKeeps2
import Derived.Test.YtjbjeeoifhegfaaGreatDoorZMessageKeeps3
import Derived.Test.YtjbjeeoifhegfaaGreatDoorZMessageKeeps4
import Derived.Test.YtjbjeeoifhegfaaGreatDoorZMessageKeeps5
import Derived.Test.YtjbjeeoifhegfaaGreatDoorZMessageKeeps6
import Derived.Test.YtjbjeeoifhegfaaGreatDoorZMessageKeeps7
import Derived.Test.YtjbjeeoifhegfaaGreatDoorZMessageKeeps8
import Derived.Test.YtjbjeeoifhegfaaGreatDoorZMessageKeeps9
import Derived.Test.YtjbjeeoifhegfaaGreatDoorZMessageKeeps10
set_option linter.unusedVariables false
set_option linter.unusedSimpArgs false
open List renaming getElem?_eq_getElem->zmS
open Int renaming toNat_natCast->zmX
open List renaming getElem?_cons_zero->zm2
open List renaming getElem?_cons_succ->zm3
open Option renaming bind_some->zm4
open List renaming length_cons->zm6
namespace Go.Proofs.YtjbjeeoifhegfaaGreatDoor.E
theorem g8 {D:Nat} {x:Nd} (h:Ok D x):((body D x).length:Int)=zC D x:=gZ D h.vn h.dp
theorem J9 {D:Nat} {t:Nd} (h:Ok D t) (a:Nat) (W:List Int):((vc (body D) a t W).length:Int)=W.length+zC D t:=by
 unfold vc
 split
 ·rename_i h0
  rw[Xt h.vn h0,Int.add_zero]
 ·rw[List.length_append,List.length_set,←g8 h]
  push_cast
  rfl
theorem zbR {D:Nat}:∀ (l:List (Nat×Nd)) (W:List Int),(∀ p∈l,Ok D p.2)->((xg (body D) l W).length:Int)=W.length+zm (l.map fun p=>zC D p.2)
 |[],W,_=>by simp[xg,wn]
 |(a,t)::r,W,h=>by
  rw[xg,zbR r _ (fun p hp=>h p (List.mem_cons_of_mem _ hp)),J9 (h (a,t) List.mem_cons_self),List.map_cons,xY]
  dsimp only
  omega
theorem zbt:∀ (q:List Nd) (i:Nat) (p:Nat×Nd),p∈xa i q->p.2∈q
 |[],i,p,h=>by cases h
 |t::r,i,p,h=>by
  rw[xa] at h
  rcases List.mem_cons.1 h with rfl|h
  ·exact List.mem_cons_self
  ·exact List.mem_cons_of_mem _ (zbt r _ p h)
theorem zbu (f:Nd->Int):∀ (q:List Nd) (i:Nat),zm ((xa i q).map fun p=>f p.2)=zm (q.map f)
 |[],i=>rfl
 |t::r,i=>by rw[xa,List.map_cons,List.map_cons,xY,xY,zbu f r]
theorem Vm (L:List Int) (i:Nat) (w:Int):(ws L).set i (U w)=ws (L.set i w):=by simp[ws,List.map_set]
def YU (D:Nat) (t:Nd):Prop:=∀ (W:List Int) (a:Nat),a<W.length->(W.length:Int)+zC D t<=268435456->ev 228 [.ptr 0 0,.pv (I (a:Int)),.pv t.x] (wh W)=some (.ret (.pv (.tup [])),wh (vc (body D) a t W))
theorem zbn {D:Nat} {t:Nd} (h:t.kind=0):YU D t:=fun W a ha hl=>by
 unfold wh vc
 rw[Nd.x,Wn,beq_iff_eq.2 h,if_pos h]
 rfl
section
variable {D:Nat} {q:List Nd} (hq:q.length<=268435456) (hP:∀ t∈q,YU D t) (hO:∀ t∈q,Ok D t) (xs0:List PV) (p2:PV) (i3 i4 i9 i10 i11:Int) (xs12 xs13:List PV) (p14:PV) (i15:Int) (p16 p17 p18 p19 p20 p21 p22 p23:PV) {f:Nat}
include hq hP hO
theorem zdk:∀ (c j:Nat) (W:List Int),j+c=q.length->f+q.length<=W.length->(W.length:Int)+zm ((q.drop j).map (zC D))<=268435456->
  VQ xs0 (I (f:Int)) p2 i3 i4 (.sl 5 (zD q)) q.length j (ws W) i9 i10 i11 xs12 xs13 p14 i15 p16 p17 p18 p19 p20 p21 p22 p23=Za xs0 p2 i3 (IntKind.wrap .i64 (i4+1)) (ws (xg (body D) (xa (f+j) (q.drop j)) W)) i9 i10 i11 xs12 xs13 p14 i15 p16 p17 p18 p19 p20 p21 p22 p23:=by
 intro c
 induction c with
 |zero=>
  intro j W hj hf hl
  rw[rM,decide_eq_false (by omega),List.drop_eq_nil_of_le (by omega)]
  rfl
 |succ c ih=>
  intro j W hj hf hl
  have hjl:j<q.length:=by omega
  have ho:=hO _ (List.getElem_mem hjl)
  rw[Xh hjl] at hl
  have hnn:=xP D ho.vn
  have hr:0<=zm ((q.drop (j+1)).map (zC D)):=xZ fun y hy=>by
   obtain ⟨t,ht,rfl⟩:=List.mem_map.1 hy
   exact xP D (hO t (List.mem_of_mem_drop ht)).vn
  have h1:=hP _ (List.getElem_mem hjl) W (f+j) (by omega) (by omega)
  have hlen:=J9 ho (f+j) W
  unfold wh at h1
  dsimp only[Nd.x] at h1
  rw[rM,dT ((j:Int)<(q.length:Int))]
  dsimp only[yx,z7,zm4,zc]
  rw[decide_eq_true (show (5:Nat)=5 from rfl),dT (0<=(j:Int)),decide_eq_true (show (j:Int)<((zD q).length:Int) by simp;omega)]
  dsimp only[zo,zc]
  rw[zmX,vR hjl]
  dsimp only[zm4]
  rw[ZA,Z4,show (q[j].c.drop 0).take 5=q[j].c from rfl]
  dsimp only[Nd.c,zm2,zm3,zm4,wg,zo,yF,zc]
  rw[ze (x:=(f:Int)+j),show (f:Int)+j=((f+j:Nat):Int) by push_cast;rfl,h1]
  dsimp only[zl,zm2,xk,zt,zm4,zc,wM]
  rw[yu,ze (x:=(j:Int)+1)]
  dsimp only[zm4]
  have:=ih (j+1) (vc (body D) (f+j) q[j] W) (by omega) (by omega) (by omega)
  rw[List.drop_eq_getElem_cons hjl,xa,xg]
  exact this
theorem zdl:∀ (c j:Nat) (W:List Int),j+c=q.length->f+q.length<=W.length->(W.length:Int)+zm ((q.drop j).map (zC D))<=268435456->
  VR xs0 (I (f:Int)) p2 i3 i4 (.sl 5 (zD q)) q.length j (ws W) i9 i10 i11 xs12 xs13 p14 i15 p16 p17 p18 p19 p20 p21 p22 p23=Yv xs0 p2 i3 (IntKind.wrap .i64 (i4+1)) (ws (xg (body D) (xa (f+j) (q.drop j)) W)) i9 i10 i11 xs12 xs13 p14 i15 p16 p17 p18 p19 p20 p21 p22 p23:=by
 intro c
 induction c with
 |zero=>
  intro j W hj hf hl
  rw[rN,decide_eq_false (by omega),List.drop_eq_nil_of_le (by omega)]
  rfl
 |succ c ih=>
  intro j W hj hf hl
  have hjl:j<q.length:=by omega
  have ho:=hO _ (List.getElem_mem hjl)
  rw[Xh hjl] at hl
  have hnn:=xP D ho.vn
  have hr:0<=zm ((q.drop (j+1)).map (zC D)):=xZ fun y hy=>by
   obtain ⟨t,ht,rfl⟩:=List.mem_map.1 hy
   exact xP D (hO t (List.mem_of_mem_drop ht)).vn
  have h1:=hP _ (List.getElem_mem hjl) W (f+j) (by omega) (by omega)
  have hlen:=J9 ho (f+j) W
  unfold wh at h1
  dsimp only[Nd.x] at h1
  rw[rN,dT ((j:Int)<(q.length:Int))]
  dsimp only[yx,z7,zm4,zc]
  rw[decide_eq_true (show (5:Nat)=5 from rfl),dT (0<=(j:Int)),decide_eq_true (show (j:Int)<((zD q).length:Int) by simp;omega)]
  dsimp only[zo,zc]
  rw[zmX,vR hjl]
  dsimp only[zm4]
  rw[ZA,Z4,show (q[j].c.drop 0).take 5=q[j].c from rfl]
  dsimp only[Nd.c,zm2,zm3,zm4,wg,zo,yF,zc]
  rw[ze (x:=(f:Int)+j),show (f:Int)+j=((f+j:Nat):Int) by push_cast;rfl,h1]
  dsimp only[zl,zm2,xk,zt,zm4,zc,wM]
  rw[yu,ze (x:=(j:Int)+1)]
  dsimp only[zm4]
  have:=ih (j+1) (vc (body D) (f+j) q[j] W) (by omega) (by omega) (by omega)
  rw[List.drop_eq_getElem_cons hjl,xa,xg]
  exact this
end
theorem uI {D:Nat} {x:Nd} (hq:x.kids.length<=268435456) (hP:∀ t∈x.kids,YU D t) (hO:∀ t∈x.kids,Ok D t) (i9 i10 i11:Int) (xs12 xs13:List PV) (p14:PV) (i15:Int) (p16 p17 p18 p19 p20 p21 p22 p23:PV) {f:Nat} {W:List Int} (hf:f+x.kids.length<=W.length) (hl:(W.length:Int)+zm (x.kids.map (zC D))<=268435456) :
  Za [.agg [I x.kind,I x.elem,I x.n,.sl 1 (bs x.data),.sl 5 (zD x.kids)]] (.sl 1 [I (f:Int)]) 1 0 (ws W) i9 i10 i11 xs12 xs13 p14 i15 p16 p17 p18 p19 p20 p21 p22 p23=some (.ret (.pv (.tup [])),wh (xg (body D) (xa f x.kids) W)):=by
 have h:=zdk hq hP hO [.agg [I x.kind,I x.elem,I x.n,.sl 1 (bs x.data),.sl 5 (zD x.kids)]] (.sl 1 [I (f:Int)]) 1 0 i9 i10 i11 xs12 xs13 p14 i15 p16 p17 p18 p19 p20 p21 p22 p23 (f:=f) x.kids.length 0 W (by omega) hf (by rw[List.drop_zero];exact hl)
 rw[Jb,decide_eq_true (show (0:Int)<1 by decide)]
 dsimp only[yx,zm4,zc]
 rw[decide_eq_true (show (1:Nat)=1 from rfl),decide_eq_true (show (0:Int)<=0 by decide),decide_eq_true (show (0:Int)<(([I (f:Int)]:List PV).length:Int) by simp),decide_eq_true (show (0:Int)<(([.agg [I x.kind,I x.elem,I x.n,.sl 1 (bs x.data),.sl 5 (zD x.kids)]]:List PV).length:Int) by simp),show (0:Int).toNat=0 from rfl]
 dsimp only[zo,zm2,zm4,V1,zm3,yx,zc,yi]
 rw[wQ]
 refine (show _=_ from h).trans ?_
 rw[Jb,show IntKind.wrap .i64 (0+1)=1 from rfl,decide_eq_false (by decide),List.drop_zero,Nat.add_zero]
 rfl
theorem zdj {D:Nat} {ks:List Nd} {a b s:Nat} (hq:ks.length<=536870911) (hk:∀ k∈ks,k.kids.length<=b) (hP:∀ k∈ks,∀ t∈k.kids,YU D t) (hO:∀ k∈ks,∀ t∈k.kids,Ok D t) (i9 i10 i11:Int) (xs12 xs13:List PV) (p14:PV) (i15:Int) (p16 p17 p18 p19 p20 p21 p22 p23:PV) (hb:b<=65535):∀ (c i:Nat) (W:List Int),i+c=ks.length->s+ks.length*(a+b)<=W.length->(W.length:Int)+zm ((ks.drop i).map fun k=>zm (k.kids.map (zC D)))<=268435456->
  Yv (zD ks) (.sl 1 ((List.range ks.length).map fun j=>I ((s+j*(a+b)+a:Nat):Int))) ks.length i (ws W) i9 i10 i11 xs12 xs13 p14 i15 p16 p17 p18 p19 p20 p21 p22 p23=some (.ret (.pv (.tup [])),wh (xg (body D) (ZE a (a+b) (s+i*(a+b)) (ks.drop i)) W)):=by
 intro c
 induction c with
 |zero=>
  intro i W hi hs hl
  rw[rL,decide_eq_false (by omega),List.drop_eq_nil_of_le (by omega)]
  rfl
 |succ c ih=>
  intro i W hi hs hl
  have hil:i<ks.length:=by omega
  have hmem:=List.getElem_mem hil
  have hmul:i*(a+b)+(a+b)<=ks.length*(a+b):=by
   have:=Nat.mul_le_mul_right (a+b) (show i+1<=ks.length by omega)
   rw[Nat.add_mul,Nat.one_mul] at this
   exact this
  have nn:∀ k∈ks,0<=zm (k.kids.map (zC D)):=fun k hk=>xZ fun y hy=>by
   obtain ⟨t,ht,rfl⟩:=List.mem_map.1 hy
   exact xP D (hO k hk t ht).vn
  rw[Xh hil] at hl
  have hr:0<=zm ((ks.drop (i+1)).map fun k=>zm (k.kids.map (zC D))):=xZ fun y hy=>by
   obtain ⟨t,ht,rfl⟩:=List.mem_map.1 hy
   exact nn t (List.mem_of_mem_drop ht)
  have hkb:=hk _ hmem
  have h:=zdl (q:=ks[i].kids) (by omega) (hP _ hmem) (hO _ hmem) (zD ks) (.sl 1 ((List.range ks.length).map fun j=>I ((s+j*(a+b)+a:Nat):Int))) ks.length i i9 i10 i11 xs12 xs13 p14 i15 p16 p17 p18 p19 p20 p21 p22 p23 (f:=s+i*(a+b)+a) ks[i].kids.length 0 W (by omega) (by omega) (by rw[List.drop_zero];omega)
  rw[rL,dT ((i:Int)<(ks.length:Int))]
  dsimp only[yx,zm4,zc]
  rw[decide_eq_true (show (1:Nat)=1 from rfl),dT ((0:Int)<=i),decide_eq_true (show (i:Int)<(((List.range ks.length).map fun j=>I ((s+j*(a+b)+a:Nat):Int)).length:Int) by simp;omega),decide_eq_true (show (i:Int)<((zD ks).length:Int) by simp;omega),zmX,List.getElem?_map,List.getElem?_range hil,vR hil]
  dsimp only[zo,Option.map_some,zm4,zc,yi,zm2]
  rw[Z4]
  dsimp only[Nd.c,zm3,zm2,zm4,yx]
  rw[wQ]
  refine (show _=_ from h).trans ?_
  rw[ze (x:=(i:Int)+1),List.drop_zero,Nat.add_zero]
  have hsum:=zbu (zC D) ks[i].kids (s+i*(a+b)+a)
  have hlen:=zbR (xa (s+i*(a+b)+a) ks[i].kids) W (fun p hp=>hO _ hmem p.2 (zbt _ _ p hp))
  rw[hsum] at hlen
  have h0:=nn _ hmem
  have:=ih (i+1) (xg (body D) (xa (s+i*(a+b)+a) ks[i].kids) W) (by omega) (by omega) (by omega)
  rw[show s+(i+1)*(a+b)=s+i*(a+b)+(a+b) by rw[Nat.add_mul,Nat.one_mul];omega] at this
  refine (show _=_ from this).trans ?_
  rw[List.drop_eq_getElem_cons hil,ZE,qo]
theorem zhw (o d q:Int):xd [false,false,false,false,false,false,true,false,false,false] [I 0,I o,I d,I q,I 0,I 0,Bo false,I 0,yJ 0,yJ 0] [I 0,I o,I 0,I 0,I 0,I 0,Bo false,I 0,yJ 0,yJ 0]=some ((d==0)&&(q==0)):=by
 simp[xd]
theorem JA (o e c:Int):xd [false,false,false,false,false,false,true,false,false,false] [I 1,I o,I 0,I 0,I e,I c,Bo false,I 0,yJ 0,yJ 0] [I 0,I o,I 0,I 0,I 0,I 0,Bo false,I 0,yJ 0,yJ 0]=some false:=by
 simp[xd]
theorem zkd {L:List Int} {a:Nat} (ha:a<L.length) (w:Int):∃ y,(ws L)[a]? = some (U y):=⟨L[a],Yk ha⟩
theorem zle {D:Nat} {x:Nd} (h:Ok (D+1) x) (h0:x.kind≠0):0<=zm ((yg x).map (zC D)):=xZ fun y hy=>by
 obtain ⟨t,ht,rfl⟩:=List.mem_map.1 hy
 exact xP D (QG h h0 t ht).vn
theorem zbl:∀ (D:Nat) (x:Nd),Ok D x->YU D x
 |0,x,h=>zbn h.dp
 |D+1,x,h=>by
  by_cases h0:x.kind=0
  ·exact zbn h0
  ·intro W a ha hl
   have hT:=QG h h0
   have hP:∀ t∈yg x,YU D t:=fun t ht=>zbl D t (hT t ht)
   have hsn:=zle h h0
   have hon:=Xv h.vn
   rw[zC] at hl
   rw[zjL h.vn h0 ha]
   have hsl:=zk1 (B:=body D) h.vn h0
   have hol:=za2 (body D) h.vn h0
   have hWl:(W++vT x).length=W.length+(xQ (body D) x).length:=by rw[List.length_append,hsl]
   obtain ⟨hs,hkk⟩:=wT h.vn
   have hal:a<(W++vT x).length:=by omega
   obtain ⟨y0,hy0⟩:=zkd hal 0
   rcases hs with hs|hs|hs
   ·exact absurd hs.1 h0
   ·obtain ⟨d,ks,rfl,g1,g2,g3,g4,g5,g6⟩:=YN h.vn h.tr h.gd hs.1
    have et:yg (.mk 1 0 0 d ks)=ks:=rfl
    rw[et] at hT hP hl hsn
    have ew:vT (.mk 1 0 0 d ks)=zS (d.length/8) d++List.replicate ks.length 0:=rfl
    have ep:XF (.mk 1 0 0 d ks) W.length=xa (W.length+d.length/8) ks:=rfl
    have eo:yB (.mk 1 0 0 d ks)=((d.length/8+ks.length:Nat):Int):=rfl
    rw[ew] at hal hWl hy0 ⊢
    rw[eo] at hol hl
    rw[ep]
    have hst:=zen (W:=W) g3 g4 g5 g6 (by omega) 0 0 (ks:=ks)
    have hloop:∀ (w:Int) (p14:PV) (i15:Int) (p16 p17 p18 p19 p20 p21 p22 p23:PV),Za [.agg [I 1,I 0,I 0,.sl 1 (bs d),.sl 5 (zD ks)]] (.sl 1 [I ((W.length+d.length/8:Nat):Int)]) 1 0 (ws ((W++(zS (d.length/8) d++List.replicate ks.length 0)).set a w)) 1 0 0 (bs d) (zD ks) p14 i15 p16 p17 p18 p19 p20 p21 p22 p23=some (.ret (.pv (.tup [])),wh (xg (body D) (xa (W.length+d.length/8) ks) ((W++(zS (d.length/8) d++List.replicate ks.length 0)).set a w))):=fun w p14 i15 p16 p17 p18 p19 p20 p21 p22 p23=>
     uI (x:=.mk 1 0 0 d ks) (by show ks.length<=_;omega) hP hT 1 0 0 (bs d) (zD ks) p14 i15 p16 p17 p18 p19 p20 p21 p22 p23 (by rw[List.length_set,hWl];show _+ks.length<=_;omega) (by rw[List.length_set,hWl];show _+zm (ks.map (zC D))<=_;push_cast;omega)
    unfold wh at hst hloop ⊢
    show ev 228 [.ptr 0 0,.pv (I (a:Int)),.pv (.agg [I 1,I 0,I 0,.sl 1 (bs d),.sl 5 (zD ks)])] _=_
    rw[Wn,show ((1:Int)==0)=false from rfl,show ((1:Int)==1)=true from rfl,hst]
    dsimp only[uJ,zl,zm2,xk,zt,zm4,z6,zm3,yx,Yp,yF,zo,zc,wM,zu]
    rw[yu,yj,ze (x:=(W.length:Int)-a),ze (x:=(W.length:Int)-a-1),zhw]
    dsimp only[zm4]
    by_cases hz:d.length/8=0/\ks.length=0
    ·have hE:=KG (off:=-1) (d:=d.length/8) (q:=ks.length) (by decide) (by omega) g6
     have e1:yW (.mk 1 0 0 d ks) ((W.length:Int)-a-1)=yk (-1) (d.length/8) ks.length:=by
      show (if (1:Int)=0 then 0 else if (1:Int)=1 then (if d.length/8=0/\ks.length=0 then yk (-1) 0 0 else _) else _)=_
      rw[if_neg (by decide),if_pos rfl,if_pos hz,hz.1,hz.2]
     rw[e1,show (((d.length/8:Nat):Int)==0)=true from by simp[hz.1],show ((ks.length:Int)==0)=true from by simp[hz.2]]
     dsimp only[zo,zc]
     rw[hE]
     dsimp only[zl,zt,zm4,z6,zm3,zm2,yF,zo,zc]
     rw[dT (0<=(a:Int)),decide_eq_true (show (a:Int)<((ws (W++(zS (d.length/8) d++List.replicate ks.length 0))).length:Int) by rw[yj];omega),zmX,hy0]
     dsimp only[zo,setCells,zm6,List.length_nil,zm4,yi,zc]
     rw[Vm]
     exact hloop _ _ _ _ _ _ _ _ _ _ _
    ·have hE:=KG (off:=(W.length:Int)-a-1) (d:=d.length/8) (q:=ks.length) (by omega) (by omega) g6
     have e1:yW (.mk 1 0 0 d ks) ((W.length:Int)-a-1)=yk ((W.length:Int)-a-1) (d.length/8) ks.length:=by
      show (if (1:Int)=0 then 0 else if (1:Int)=1 then (if d.length/8=0/\ks.length=0 then _ else yk ((W.length:Int)-a-1) (d.length/8) ks.length) else _)=_
      rw[if_neg (by decide),if_pos rfl,if_neg hz]
     have e2:((((d.length/8:Nat):Int)==0)&&((ks.length:Int)==0))=false:=by
      rw[Bool.and_eq_false_iff]
      by_cases h1:d.length/8=0
      ·right;exact beq_eq_false_iff_ne.2 (fun h2=>hz ⟨h1,by omega⟩)
      ·left;exact beq_eq_false_iff_ne.2 (fun h2=>h1 (by omega))
     rw[e1,e2]
     dsimp only[zu]
     rw[hE]
     dsimp only[zl,zt,zm4,z6,zm3,zm2,yF,zo,zc]
     rw[dT (0<=(a:Int)),decide_eq_true (show (a:Int)<((ws (W++(zS (d.length/8) d++List.replicate ks.length 0))).length:Int) by rw[yj];omega),zmX,hy0]
     dsimp only[zo,setCells,zm6,List.length_nil,zm4,yi,zc]
     rw[Vm]
     exact hloop _ _ _ _ _ _ _ _ _ _ _
   ·cases x with
    |mk k e n d ks=>
     obtain ⟨k2,hn,he,h6,hl6⟩:=hs
     have k2':k=2:=k2
     subst k2'
     have hn':0<=n/\n<=536870911:=hn
     have he':0<=e/\e<=7:=he
     have hg:=h.gd
     rw[yr] at hg
     by_cases e7:e=7
     ·subst e7
      obtain ⟨a1,a2⟩:=h6 (show (6:Int)<=7 by decide)
      obtain rfl:d=[]:=List.length_eq_zero_iff.1 a1
      have a2':(ks.length:Int)=n:=a2
      have hst:∀ k∈ks,k.kind=1:=by
       cases h.vn with
       |mk v1 v2 v3=>exact v2 rfl rfl
      have htr:∀ k∈ks,TrN k:=by
       cases h.tr with
       |mk t1 t2=>exact t2
      have hparts:∀ k∈ks,(∀ x∈k.data,zj x)/\k.data.length%8=0/\k.data.length<=524280/\k.kids.length<=65535:=fun k hk=>by
       obtain ⟨d,q,rfl,g1,g2,g3,g4,g5,g6⟩:=YN (hkk k hk) (htr k hk) (goods_iff.1 hg.2 k hk) (hst k hk)
       exact ⟨g3,g4,g5,g6⟩
      have et:yg (.mk 2 7 n [] ks)=ks.flatMap Nd.kids:=rfl
      rw[et] at hT hP hl hsn
      rw[W8] at hl hsn
      have ew:vT (.mk 2 7 n [] ks)=yk n (zn ks) (zq ks)::els (zn ks) (zq ks) ks:=rfl
      have ep:XF (.mk 2 7 n [] ks) W.length=ZE (zn ks) (zn ks+zq ks) (W.length+1) ks:=rfl
      have eo:yB (.mk 2 7 n [] ks)=1+n*((zn ks+zq ks:Nat):Int):=rfl
      have hnu:n*((zn ks+zq ks:Nat):Int)=((ks.length*(zn ks+zq ks):Nat):Int):=by rw[←a2'];push_cast;rfl
      rw[eo,hnu] at hol hl
      rw[ew] at hal hWl hy0 ⊢
      rw[ep]
      have hud:zn ks<=65535:=XQ fun x hx=>by have:=(hparts x hx).2.2.1;omega
      have huq:zq ks<=65535:=XR fun x hx=>(hparts x hx).2.2.2
      have hkl2:ks.length<=536870911:=by omega
      have hst':=zek (W:=W) (n:=n) (ks:=ks) hn' a2' hparts (by omega)
      have hE:=uN (off:=(W.length:Int)-a-1) (e:=7) (c:=((ks.length*(zn ks+zq ks):Nat):Int)) (by omega) (by decide) (by omega)
      have e1:yW (.mk 2 7 n [] ks) ((W.length:Int)-a-1)=yG ((W.length:Int)-a-1) 7 ((ks.length*(zn ks+zq ks):Nat):Int):=by rw[←hnu];rfl
      have hloop:∀ (w:Int) (p14:PV) (i15:Int) (p16 p17 p18 p19 p20 p21 p22 p23:PV),Yv (zD ks) (.sl 1 ((List.range ks.length).map fun j=>I ((W.length+1+j*(zn ks+zq ks)+zn ks:Nat):Int))) ks.length 0 (ws ((W++(yk n (zn ks) (zq ks)::els (zn ks) (zq ks) ks)).set a w)) 2 7 n [] (zD ks) p14 i15 p16 p17 p18 p19 p20 p21 p22 p23=some (.ret (.pv (.tup [])),wh (xg (body D) (ZE (zn ks) (zn ks+zq ks) (W.length+1) ks) ((W++(yk n (zn ks) (zq ks)::els (zn ks) (zq ks) ks)).set a w))):=fun w p14 i15 p16 p17 p18 p19 p20 p21 p22 p23=>by
       have:=zdj (D:=D) (ks:=ks) (a:=zn ks) (b:=zq ks) (s:=W.length+1) hkl2 (fun k hk=>XS hk) (fun k hk t ht=>hP t (List.mem_flatMap.2 ⟨k,hk,ht⟩)) (fun k hk t ht=>hT t (List.mem_flatMap.2 ⟨k,hk,ht⟩)) 2 7 n [] (zD ks) p14 i15 p16 p17 p18 p19 p20 p21 p22 p23 huq ks.length 0 ((W++(yk n (zn ks) (zq ks)::els (zn ks) (zq ks) ks)).set a w) (by omega) (by rw[List.length_set,hWl];omega) (by rw[List.length_set,hWl,List.drop_zero];push_cast;omega)
       rw[List.drop_zero,Nat.zero_mul,Nat.add_zero] at this
       exact this
      unfold wh at hst' hloop ⊢
      show ev 228 [.ptr 0 0,.pv (I (a:Int)),.pv (.agg [I 2,I 7,I n,.sl 1 [],.sl 5 (zD ks)])] _=_
      rw[Wn,show ((2:Int)==0)=false from rfl,show ((2:Int)==1)=false from rfl,show ((7:Int)==7)=true from rfl,hst']
      dsimp only[Yn,zl,zm2,xk,zt,zm4,z6,zm3,yx,Yp,yF,zo,zc,wM,zu]
      rw[yu,yj,ze (x:=(W.length:Int)-a),ze (x:=(W.length:Int)-a-1),JA]
      dsimp only[zm4,zu]
      rw[e1,hnu,hE]
      dsimp only[zl,zt,zm4,z6,zm3,zm2,yF,zo,zc]
      rw[dT (0<=(a:Int)),decide_eq_true (show (a:Int)<((ws (W++(yk n (zn ks) (zq ks)::els (zn ks) (zq ks) ks))).length:Int) by rw[yj];omega),zmX,hy0]
      dsimp only[zo,setCells,zm4,yi,zm6,List.length_nil,zc]
      rw[Vm,List.length_map,List.length_range]
      exact hloop _ _ _ _ _ _ _ _ _ _ _
     ·have et:yg (.mk 2 e n d ks)=ks:=by
       show (if (2:Int)=2/\e=7 then _ else ks)=_
       rw[if_neg (fun h=>e7 h.2)]
      have eo:yB (.mk 2 e n d ks)=zs e n:=by
       unfold yB
       show (if (2:Int)=0 then 0 else if (2:Int)=1 then _ else if e=7 then _ else zs e n)=_
       rw[if_neg (by decide),if_neg (by decide),if_neg e7]
      rw[et] at hT hP hl hsn
      have ep:XF (.mk 2 e n d ks) W.length=xa W.length ks:=by
       show (if (2:Int)=1 then _ else if e=7 then _ else xa W.length ks)=_
       rw[if_neg (by decide),if_neg e7]
      have e1:yW (.mk 2 e n d ks) ((W.length:Int)-a-1)=yG ((W.length:Int)-a-1) e n:=by
       show (if (2:Int)=0 then 0 else if (2:Int)=1 then _ else if e=7 then _ else yG ((W.length:Int)-a-1) e n)=_
       rw[if_neg (by decide),if_neg (by decide),if_neg e7]
      have hE:=uN (off:=(W.length:Int)-a-1) (e:=e) (c:=n) (by omega) he' hn'
      rw[ep,e1]
      rw[eo] at hol hl
      by_cases e6:e=6
      ·subst e6
       obtain ⟨a1,a2⟩:=h6 (show (6:Int)<=6 by decide)
       obtain rfl:d=[]:=List.length_eq_zero_iff.1 a1
       have a2':(ks.length:Int)=n:=a2
       have hw6:zs 6 n=n:=by unfold zs bitsOf;simp;omega
       rw[hw6] at hol hl
       have ew:vT (.mk 2 6 n [] ks)=List.replicate ks.length 0:=rfl
       rw[ew] at hal hWl hy0 ⊢
       have hst':=zem (W:=W) (ks:=ks) (n:=ks.length) (by omega) (by omega) (bs [])
       rw[a2'] at hst'
       have hloop:∀ (w:Int) (p14:PV) (i15:Int) (p16 p17 p18 p19 p20 p21 p22 p23:PV),Za [.agg [I 2,I 6,I n,.sl 1 (bs []),.sl 5 (zD ks)]] (.sl 1 [I (W.length:Int)]) 1 0 (ws ((W++List.replicate ks.length 0).set a w)) 2 6 n (bs []) (zD ks) p14 i15 p16 p17 p18 p19 p20 p21 p22 p23=some (.ret (.pv (.tup [])),wh (xg (body D) (xa W.length ks) ((W++List.replicate ks.length 0).set a w))):=fun w p14 i15 p16 p17 p18 p19 p20 p21 p22 p23=>
        uI (x:=.mk 2 6 n [] ks) (by show ks.length<=_;omega) hP hT 2 6 n (bs []) (zD ks) p14 i15 p16 p17 p18 p19 p20 p21 p22 p23 (by rw[List.length_set,hWl];show _+ks.length<=_;omega) (by rw[List.length_set,hWl];show _+zm (ks.map (zC D))<=_;push_cast;omega)
       unfold wh at hst' hloop ⊢
       show ev 228 [.ptr 0 0,.pv (I (a:Int)),.pv (.agg [I 2,I 6,I n,.sl 1 (bs []),.sl 5 (zD ks)])] _=_
       rw[Wn,show ((2:Int)==0)=false from rfl,show ((2:Int)==1)=false from rfl,show ((6:Int)==7)=false from rfl,hst']
       dsimp only[Yn,zl,zm2,xk,zt,zm4,z6,zm3,yx,Yp,yF,zo,zc,wM,zu]
       rw[yu,yj,ze (x:=(W.length:Int)-a),ze (x:=(W.length:Int)-a-1),JA]
       dsimp only[zm4,zu]
       rw[hE]
       dsimp only[zl,zt,zm4,z6,zm3,zm2,yF,zo,zc]
       rw[dT (0<=(a:Int)),decide_eq_true (show (a:Int)<((ws (W++List.replicate ks.length 0)).length:Int) by rw[yj];omega),zmX,hy0]
       dsimp only[zo,setCells,zm6,List.length_nil,zm4,yi,zc]
       rw[Vm]
       exact hloop _ _ _ _ _ _ _ _ _ _ _
      ·obtain ⟨b1,b2,b3⟩:=hl6 (show e<6 by omega)
       obtain rfl:ks=[]:=List.length_eq_zero_iff.1 b1
       have b2':(d.length:Int)=z4 e n:=b2
       have hwr:=Yj (e:=e) hn'
       have ew:vT (.mk 2 e n d [])=zS (zs e n).toNat d:=by
        show (if (2:Int)=1 then _ else if e=7 then _ else if e=6 then _ else zS (zs e n).toNat d)=_
        rw[if_neg (by decide),if_neg e7,if_neg e6]
       rw[ew] at hal hWl hy0 ⊢
       have hO:=uR h.gd h.vn (by rw[eo];omega) (by show 0+0<=_;decide)
       rw[eo] at hO
       have hst':=zel (W:=W) (ks:=[]) ⟨he'.1,by omega⟩ hn' hg.1.2.1 b2' (by simp only[List.map_nil,wn] at hl;omega) (by omega) hO
       unfold wh at hst' ⊢
       show ev 228 [.ptr 0 0,.pv (I (a:Int)),.pv (.agg [I 2,I e,I n,.sl 1 (bs d),.sl 5 (zD [])])] _=_
       rw[Wn,show ((2:Int)==0)=false from rfl,show ((2:Int)==1)=false from rfl,beq_eq_false_iff_ne.2 e7,hst']
       dsimp only[Yn,zl,zm2,xk,zt,zm4,z6,zm3,yx,Yp,yF,zo,zc,wM,zu]
       rw[yu,yj,ze (x:=(W.length:Int)-a),ze (x:=(W.length:Int)-a-1),JA]
       dsimp only[zm4,zu]
       rw[hE]
       dsimp only[zl,zt,zm4,z6,zm3,zm2,yF,zo,zc]
       rw[dT (0<=(a:Int)),decide_eq_true (show (a:Int)<((ws (W++zS (zs e n).toNat d)).length:Int) by rw[yj];omega),zmX,hy0]
       dsimp only[zo,setCells,List.length_nil,zm4,yi,zm6,zc]
       rw[Vm,Jb,decide_eq_false (by decide)]
       rfl
theorem zlR (D:Nat) (x:Nd):vc (body D) 0 x [0]=xi D x:=by
 unfold vc xi
 by_cases h0:x.kind=0
 ·rw[if_pos h0,zbv h0,g9 D x h0]
 ·rw[if_neg h0]
  rfl
theorem uX {D:Nat} {x:Nd} (h:Ok D x) (hb:zC D x<=134217728):ev 165 [.pv x.x] []=some (.ret (.slu 30 1 (ws (xi D x))),[]):=by
 have h1:=zdD h.gd h.vn h.dp (by omega)
 have hn:=xP D h.vn
 have h2:=zbl D x h [0] 0 (by decide) (by simp;omega)
 rw[zlR] at h2
 unfold wh at h2
 dsimp only[Nd.x] at h1 h2
 rw[Nd.x,zge,h1]
 dsimp only[zk,xD,zm4]
 rw[dT (1<=zC D x+1),dT (zC D x+1<=140737488355328),yL (by omega) (by omega)]
 dsimp only[zo,zc]
 rw[show ev 228 [.ptr 0 0,.pv (I 0),.pv (.agg [I x.kind,I x.elem,I x.n,.sl 1 (bs x.data),.sl 5 (zD x.kids)])] [[.slu 30 1 [U 0]]]=_ from h2]
 dsimp only[zl,zm2,xk,zt,zm4,zc,wM]
 rw[yu]
 rfl
@[simp] theorem zj3:∀ (q:List Nd) (i:Nat),(xa i q).length=q.length
 |[],i=>rfl
 |t::r,i=>by rw[xa,zm6,zm6,zj3 r]
section
variable (i3 i4 i5:Int) (xs6 xs7:List PV) (i8 i9 i10 i11 i12 i13:Int) (b14:Bool) (i15 i16 i17 i18 i19 i20 i22 i23:Int) (b24:Bool) (i25 i26 i27:Int)
end
section
variable (i5 i6 i7:Int) (xs8:List PV) (i10 i11 i12 i13 i14 i15:Int) (b16:Bool) (i17 i18 i19 i20 i21 i22 i23 i24 i25:Int) (b26:Bool) (i27 i28 i29:Int)
end
theorem zaV {l:List (List Int)} (hl:zF l) (hs:Sm l) {d w:Int} (hw:w<=4611686018427387904) (h0:(runT l d w).2.2=0):Ok d.toNat (y3 l d w)/\yc d.toNat (y3 l d w)<=vN l d w:=by
 obtain ⟨a1,a2⟩:=zkJ hl hs h0
 have hg:=(Q1 hl hs (d:=d) (w:=w) hw).2
 unfold y3 vN
 rw[if_pos h0,if_pos h0]
 refine ⟨⟨Vj _ a1,zlv _ hg,zh4 _ hg,zhh _ _ a2⟩,?_⟩
 unfold runT at h0 ⊢
 split
 ·rw[XP]
  cases d.toNat with
  |zero=>show (0:Int)<=max w 0-max w 0;omega
  |succ D=>
   rw[yc]
   show (if (0:Int)=0 then (0:Int) else _)<=max w 0-max w 0
   rw[if_pos rfl]
   omega
 ·rename_i he
  rw[if_neg he] at h0
  exact (zg2 hl hs _ _ _ _ h0).1
def nE:Nd:=.mk 1 0 0 [] []
theorem Jv {off:Int} {d q:Nat} (hd:d<=65535) (hq:q<=65535):zU (yk off d q):=by
 have hm:=Int.emod_nonneg off (show (1073741824:Int)≠0 by decide)
 have hl:=Int.emod_lt_of_pos off (show (0:Int)<1073741824 by decide)
 exact ⟨by unfold yk;omega,by unfold yk;omega⟩
theorem jC {off e c:Int} (he:0<=e/\e<=7) (hc:0<=c/\c<=536870911):zU (yG off e c):=by
 have hm:=Int.emod_nonneg off (show (1073741824:Int)≠0 by decide)
 have hl:=Int.emod_lt_of_pos off (show (0:Int)<1073741824 by decide)
 exact ⟨by unfold yG;omega,by unfold yG;omega⟩
theorem zcW:zU 0:=⟨by decide,by decide⟩
theorem zi1 {D:Nat} {x:Nd} (hv:VN x):yB x<=zC D x:=by
 cases D with
 |zero=>exact Int.le_refl _
 |succ D=>
  rw[zC]
  have:0<=zm ((yg x).map (zC D)):=xZ fun y hy=>by
   obtain ⟨t,ht,rfl⟩:=List.mem_map.1 hy
   exact xP D (Zq hv t ht)
  omega
theorem zbw {D:Nat} {t:Nd} (h:Ok D t) (hb:zC D t<=268435456) (off:Int):zU (yW t off):=by
 obtain ⟨hs,hk⟩:=wT h.vn
 have hob:=zi1 (D:=D) h.vn
 unfold yW
 by_cases h0:t.kind=0
 ·rw[if_pos h0];exact zcW
 ·rw[if_neg h0]
  by_cases h1:t.kind=1
  ·obtain ⟨d,q,rfl,g1,g2,g3,g4,g5,g6⟩:=YN h.vn h.tr h.gd h1
   rw[if_pos h1]
   split
   ·exact Jv (by omega) (by omega)
   ·exact Jv (by show d.length/8<=_;omega) g6
  ·rw[if_neg h1]
   have hs2:t.kind=2/\_:=(hs.resolve_left (fun h=>h0 h.1)).resolve_left (fun h=>h1 h.1)
   by_cases h7:t.elem=7
   ·rw[if_pos h7]
    unfold yB at hob
    rw[if_neg h0,if_neg h1,if_pos h7] at hob
    have:=Int.mul_nonneg hs2.2.1.1 (Int.natCast_nonneg (ZN t))
    unfold ZN at this ⊢
    exact jC (by decide) (by omega)
   ·rw[if_neg h7]
    exact jC hs2.2.2.1 hs2.2.1
theorem QQ {B:Nd->List Int}:∀ (l:List Nd) (i p:Nat),(∀ t∈l,∀ off,zU (yW t off))->∀ w∈xe B i p l,zU w
 |[],i,p,h,w,hw=>by cases hw
 |t::r,i,p,h,w,hw=>by
  rw[xe] at hw
  rcases List.mem_cons.1 hw with rfl|hw
  ·exact h t List.mem_cons_self _
  ·exact QQ r _ _ (fun t ht=>h t (List.mem_cons_of_mem _ ht)) w hw
theorem gP {B:Nd->List Int} {a b:Nat}:∀ (l:List Nd) (i p:Nat),(∀ k∈l,(∀ x∈k.data,zj x)/\∀ t∈k.kids,∀ off,zU (yW t off))->∀ w∈xI B a b i p l,zU w
 |[],i,p,h,w,hw=>by cases hw
 |k::r,i,p,h,w,hw=>by
  rw[xI] at hw
  obtain ⟨h1,h2⟩:=h k List.mem_cons_self
  rcases List.mem_append.1 hw with hw|hw
  ·rcases List.mem_append.1 hw with hw|hw
   ·exact Vl _ h1 w hw
   ·rcases List.mem_append.1 hw with hw|hw
    ·exact QQ _ _ _ h2 w hw
    ·rw[(List.mem_replicate.1 hw).2];exact zcW
  ·exact gP r _ _ (fun t ht=>h t (List.mem_cons_of_mem _ ht)) w hw
theorem zck {f:Nd->Int}:∀ {l:List Nd},(∀ t∈l,0<=f t)->∀ t∈l,f t<=zm (l.map f)
 |[],h,t,ht=>by cases ht
 |x::l,h,t,ht=>by
  rw[List.map_cons,xY]
  have h0:=h x List.mem_cons_self
  have hr:0<=zm (l.map f):=xZ fun y hy=>by
   obtain ⟨z,hz,rfl⟩:=List.mem_map.1 hy
   exact h z (List.mem_cons_of_mem _ hz)
  rcases List.mem_cons.1 ht with rfl|ht
  ·omega
  ·have:=zck (fun z hz=>h z (List.mem_cons_of_mem _ hz)) t ht;omega
theorem ra:∀ (D:Nat) (x:Nd),Ok D x->zC D x<=268435456->∀ w∈body D x,zU w
 |0,x,h,hb,w,hw=>by cases hw
 |D+1,x,h,hb,w,hw=>by
  rw[body] at hw
  by_cases h0:x.kind=0
  ·rw[if_pos h0] at hw;cases hw
  ·rw[if_neg h0] at hw
   rw[zC] at hb
   have hT:=QG h h0
   have hon:=Xv h.vn
   have hTb:∀ t∈yg x,zC D t<=268435456:=fun t ht=>by
    have:=zck (f:=zC D) (fun t ht=>xP D (hT t ht).vn) t ht
    omega
   have hP:∀ t∈yg x,∀ off,zU (yW t off):=fun t ht=>zbw (hT t ht) (hTb t ht)
   obtain ⟨hs,hkk⟩:=wT h.vn
   rcases List.mem_append.1 hw with hw|hw
   ·unfold xQ at hw
    by_cases h1:x.kind=1
    ·obtain ⟨d,q,rfl,g1,g2,g3,g4,g5,g6⟩:=YN h.vn h.tr h.gd h1
     rw[if_pos h1] at hw
     rcases List.mem_append.1 hw with hw|hw
     ·exact Vl _ g3 w hw
     ·exact QQ _ _ _ hP w hw
    ·have hs2:=(hs.resolve_left (fun h=>h0 h.1)).resolve_left (fun h=>h1 h.1)
     rw[if_neg h1] at hw
     cases x with
     |mk k e n d ks=>
      have hg:=h.gd
      rw[yr] at hg
      obtain ⟨k2,hn,he,h6,hl6⟩:=hs2
      have k2':k=2:=k2
      subst k2'
      have hn':0<=n/\n<=536870911:=hn
      by_cases e7:e=7
      ·subst e7
       have hw:w∈yk n (zn ks) (zq ks)::xI (body D) (zn ks) (zq ks) 1 (1+ks.length*ZN (.mk 2 7 n d ks)) ks:=hw
       have hst:∀ k∈ks,k.kind=1:=by
        cases h.vn with
        |mk v1 v2 v3=>exact v2 rfl rfl
       have htr:∀ k∈ks,TrN k:=by
        cases h.tr with
        |mk t1 t2=>exact t2
       have hparts:∀ k∈ks,(∀ x∈k.data,zj x)/\k.data.length%8=0/\k.data.length<=524280/\k.kids.length<=65535:=fun k hk=>by
        obtain ⟨d,q,rfl,g1,g2,g3,g4,g5,g6⟩:=YN (hkk k hk) (htr k hk) (goods_iff.1 hg.2 k hk) (hst k hk)
        exact ⟨g3,g4,g5,g6⟩
       rcases List.mem_cons.1 hw with rfl|hw
       ·exact Jv (XQ fun x hx=>by have:=(hparts x hx).2.2.1;omega) (XR fun x hx=>(hparts x hx).2.2.2)
       ·exact gP ks _ _ (fun k hk=>⟨(hparts k hk).1,fun t ht=>hP t (List.mem_flatMap.2 ⟨k,hk,ht⟩)⟩) w hw
      ·have et:yg (.mk 2 e n d ks)=ks:=by
        show (if (2:Int)=2/\e=7 then _ else ks)=_
        rw[if_neg (fun h=>e7 h.2)]
       rw[et] at hP
       rw[if_neg (show ¬(Nd.mk 2 e n d ks).elem=7 from e7)] at hw
       split at hw
       ·exact QQ _ _ _ hP w hw
       ·exact Vl _ hg.1.2.1 w hw
   ·obtain ⟨t,ht,hw⟩:=List.mem_flatMap.1 hw
    exact ra D t (hT t ht) (hTb t ht) w hw
theorem zfT {D:Nat} {x:Nd} (h:Ok D x) (hb:zC D x<=268435456):∀ w∈xi D x,zU w:=fun w hw=>by
 rcases List.mem_cons.1 hw with rfl|hw
 ·exact zbw h hb 0
 ·exact ra D x h hb w hw
theorem Wm {D:Nat} {x:Nd} (h:Ok D x):((xi D x).length:Int)=zC D x+1:=by
 rw[xi,zm6,←g8 h];push_cast;rfl
theorem zfR {D:Nat} {x:Nd} (h:Ok D x) (hb:zC D x<=268435456):zF [xi D x]:=by
 have:=Wm h
 refine ⟨by rw[List.length_singleton];decide,fun s hs=>?_⟩
 rw[List.mem_singleton.1 hs]
 exact ⟨by omega,zfT h hb⟩
theorem zfS {D:Nat} {x:Nd} (h:Ok D x) (hb:zC D x<=268435456):Sm [xi D x]:=by
 have:=Wm h
 intro s
 unfold yz
 rcases Nat.eq_zero_or_pos s.toNat with h0|h0
 ·rw[h0];show ((xi D x).length:Int)<=_;omega
 ·rw[List.getD_eq_getElem?_getD,List.getElem?_eq_none (by rw[List.length_singleton];omega)]
  simp
theorem zfZ {D:Nat} {x:Nd} (h:Ok D x) (hb:zC D x<=134217728) {d w:Int} (hd:d.toNat=D) (hc:yc D x<=max w 0):∃ y,runT [xi D x] d w=(y,max w 0-yc D x,0)/\zi y=x:=by
 have hl:=Wm h
 have R:=jp (W:=xi D x) (by omega) D
 obtain ⟨y,e,ht⟩:=R.one x 0 1 (max w 0) h ⟨[yW x 0],[],by simp[xi],rfl⟩ ⟨[],body D x,by simp[xi],rfl⟩ hc
 refine ⟨y,?_,ht⟩
 unfold runT
 have hne:¬Xj [xi D x]:=fun he=>by
  have h2:(yz [xi D x] 0).length=0:=he.2
  have h3:(yz [xi D x] 0).length=(xi D x).length:=rfl
  have h4:=xP D h.vn
  omega
 rw[if_neg hne,hd]
 exact e
theorem zfW {D:Nat} {x:Nd} (h:Ok D x) (hb:zC D x<=134217728) {d w:Int} (hd:d.toNat=D) (hc:yc D x<=max w 0):yV [xi D x] d w=0/\y3 [xi D x] d w=x/\vN [xi D x] d w=yc D x:=by
 obtain ⟨y,e,ht⟩:=zfZ h hb hd hc
 refine ⟨by unfold yV;rw[e],?_,?_⟩
 ·unfold y3;rw[e,if_pos rfl];exact ht
 ·unfold vN;rw[e,if_pos rfl];show max w 0-(max w 0-yc D x)=_;exact Int.sub_sub_self _ _
noncomputable def xK (l:List (List Int)) (d w:Int):List Int:=if yV l d w=0 then xi d.toNat (y3 l d w) else []
theorem QC {l:List (List Int)} (hl:zF l) (hs:Sm l) {d w:Int} (hw:w<=134217728) (h0:yV l d w=0):Ok d.toNat (y3 l d w)/\zC d.toNat (y3 l d w)<=134217728/\yc d.toNat (y3 l d w)<=max w 0:=by
 obtain ⟨ho,hc⟩:=zaV hl hs (by omega) (show (runT l d w).2.2=0 from h0)
 have hr1:=(Q1 hl hs (d:=d) (w:=w) (by omega)).1
 unfold Mt at hr1
 have hle:=JT d.toNat ho.vn ho.dp
 have hmc:vN l d w<=max w 0:=by
  unfold vN
  split<;>omega
 exact ⟨ho,by omega,by omega⟩
theorem wsl (z:Nat) (x:List PV):(decide ((PV.sl z x).cells.length=1)&&(PV.sl z x).cells.all PV.isCell)=true:=rfl
def zL (b:List Int) (i:Nat):Int:=b.getD (4*i) 0+256*b.getD (4*i+1) 0+65536*b.getD (4*i+2) 0+16777216*b.getD (4*i+3) 0
theorem Qy {b:List Int} (hb:∀ x∈b,zj x) (i:Nat):0<=zL b i/\zL b i<=4294967295:=by
 have h0:=yR hb (4*i)
 have h1:=yR hb (4*i+1)
 have h2:=yR hb (4*i+2)
 have h3:=yR hb (4*i+3)
 unfold zL
 omega
theorem ZU {b:List Int} {x:Int} {i:Nat} (hx:x=i) (h:i<b.length):(bs b)[x.toNat]? = some (U8 (b.getD i 0)):=by
 subst hx
 rw[zmX,Wl h]
theorem KQ {b:List Int} (hb:∀ x∈b,zj x) (hl:b.length<=1099511627776) {i:Nat} (hi:4*i+4<=b.length):ev 85 [.pv (.sl 1 (bs b)),.pv (I (i:Int))] []=ok (I (zL b i)):=by
 have h0:=yR hb (4*i)
 have h1:=yR hb (4*i+1)
 have h2:=yR hb (4*i+2)
 have h3:=yR hb (4*i+3)
 rw[zgr,zK,ze (x:=4*(i:Int)),ze (x:=4*(i:Int)+1),ze (x:=4*(i:Int)+2),ze (x:=4*(i:Int)+3)]
 rw[dT (0<=4*(i:Int)),dT (4*(i:Int)<(b.length:Int)),dT (0<=4*(i:Int)+1),dT (4*(i:Int)+1<(b.length:Int)),
  dT (0<=4*(i:Int)+2),dT (4*(i:Int)+2<(b.length:Int)),dT (0<=4*(i:Int)+3),dT (4*(i:Int)+3<(b.length:Int))]
 rw[ZU (show 4*(i:Int)=((4*i:Nat):Int) by push_cast;rfl) (by omega),ZU (show 4*(i:Int)+1=((4*i+1:Nat):Int) by push_cast;rfl) (by omega),ZU (show 4*(i:Int)+2=((4*i+2:Nat):Int) by push_cast;rfl) (by omega),ZU (show 4*(i:Int)+3=((4*i+3:Nat):Int) by push_cast;rfl) (by omega)]
 dsimp only[zo,zm4,yi,zm2,xD,zc]
 unfold zL
 generalize b.getD (4*i) 0=c0 at h0 ⊢
 generalize b.getD (4*i+1) 0=c1 at h1 ⊢
 generalize b.getD (4*i+2) 0=c2 at h2 ⊢
 generalize b.getD (4*i+3) 0=c3 at h3 ⊢
 rw[ze (x:=c0),ze (x:=c1),ze (x:=c2),ze (x:=c3),ze (x:=256*c1),ze (x:=65536*c2),ze (x:=16777216*c3),ze (x:=c0+256*c1),ze (x:=c0+256*c1+65536*c2),ze (x:=c0+256*c1+65536*c2+16777216*c3)]
theorem or8 {v x:Nat} (hv:v<16777216) (hx:x<256):IntKind.wrap .i64 (BitVec.ofInt 64 (IntKind.wrap .i64 ((v:Int)*2^(min 8 64))) ||| BitVec.ofInt 64 (IntKind.wrap .i64 (x:Int))).toNat=((v*256+x:Nat):Int):=by
 have e1:IntKind.wrap .i64 ((v:Int)*2^(min 8 64))=((v*256:Nat):Int):=by
  have hp:(2:Int)^(min 8 64)=256:=by decide
  rw[hp,show (v:Int)*256=((v*256:Nat):Int) by omega,ze (by omega)]
 rw[e1,ze (x:=(x:Int))]
 have e3:(BitVec.ofInt 64 ((v*256:Nat):Int) ||| BitVec.ofInt 64 (x:Int)).toNat=v*256+x:=by
  rw[BitVec.toNat_or,vw (by omega),vw (by omega),show v*256=2^8*v by omega,←Nat.two_pow_add_eq_or_of_lt (show x<2^8 by omega)]
 rw[e3,zl9 (by omega)]
theorem QF {b:List Int} (hb:∀ x∈b,zj x) (hl:b.length<=1099511627776) {i k:Nat} (hk:k<=3) (hi:4*i+4<=b.length) {v:Nat} (hv:v<16777216):WH (bs b) i v k=WH (bs b) i ((v*256+xh b (4*i+k):Nat):Int) ((k:Int)-1):=by
 have hx:=xc hb (4*i+k)
 rw[zaa,dT ((k:Int)≥0),ze (x:=4*(i:Int)),ze (x:=4*(i:Int)+k),dT (0<=4*(i:Int)+k),decide_eq_true (show 4*(i:Int)+k<((bs b).length:Int) by rw[zK];omega),ZU (show 4*(i:Int)+k=((4*i+k:Nat):Int) by push_cast;rfl) (by omega),←hx.1]
 dsimp only[zo,zm4,yi,zm2,xD,zc]
 rw[or8 hv hx.2,ze (x:=(k:Int)-1)]
theorem Yo:ev 174 [.pv (Bo false)] []=some (.pan (.ifc 225 (.agg [])),[]):=by rw[j9];rfl
theorem Wd:ev 174 [.pv (Bo true)] []=ok (.tup []):=by rw[j9];rfl
theorem gj {b:List Int} (hb:∀ x∈b,zj x) (hl:b.length<=1099511627776) {i:Nat} (hi:4*i+4<=b.length):ev 173 [.pv (.sl 1 (bs b)),.pv (I (i:Int))] []=ok (I (zL b i)):=by
 rw[zab,zK,ze (x:=(i:Int)+1),ze (x:=4*((i:Int)+1)),dT (4*((i:Int)+1)<=(b.length:Int)),Wd]
 dsimp only[zk]
 have h0:((xh b (4*i+0):Nat):Int)=b.getD (4*i) 0/\xh b (4*i+0)<256:=xc hb (4*i)
 have h1:=xc hb (4*i+1)
 have h2:=xc hb (4*i+2)
 have h3:=xc hb (4*i+3)
 have s3:=QF hb hl (k:=3) (by omega) hi (v:=0) (by omega)
 have s2:=QF hb hl (k:=2) (by omega) hi (v:=0*256+xh b (4*i+3)) (by omega)
 have s1:=QF hb hl (k:=1) (by omega) hi (v:=(0*256+xh b (4*i+3))*256+xh b (4*i+2)) (by omega)
 have s0:=QF hb hl (k:=0) (by omega) hi (v:=((0*256+xh b (4*i+3))*256+xh b (4*i+2))*256+xh b (4*i+1)) (by omega)
 have e3:(((3:Nat):Int)-1)=((2:Nat):Int):=rfl
 have e2:(((2:Nat):Int)-1)=((1:Nat):Int):=rfl
 have e1:(((1:Nat):Int)-1)=((0:Nat):Int):=rfl
 rw[e3] at s3
 rw[e2] at s2
 rw[e1] at s1
 refine (s3.trans (s2.trans (s1.trans s0))).trans ?_
 rw[zaa,show decide ((((0:Nat):Int)-1)≥0)=false from rfl]
 refine congrArg (fun z=>ok (I z)) ?_
 unfold zL
 omega
theorem zdZ {b:List Int} (hl:b.length<4):ev 173 [.pv (.sl 1 (bs b)),.pv (I 0)] []=some (.pan (.ifc 225 (.agg [])),[]):=by
 rw[zab,zK,show IntKind.wrap .i64 ((0:Int)+1)=1 from rfl,show IntKind.wrap .i64 ((4:Int)*1)=4 from rfl,dF ((4:Int)<=(b.length:Int)),Yo]
 rfl
def yt (n:Nat):Nat:=if n%2=0 then 4*n+8 else 4*n+4
theorem gz {n:Nat} (hn:n<=1099511627776):ev 167 [.pv (I (n:Int))] []=ok (I (yt n)):=by
 rw[zhV,ze (x:=(n:Int)+1),ze (x:=4*((n:Int)+1)),ze (x:=4*((n:Int)+1)+8),ze (x:=4*((n:Int)+1)+8-1),Int.tdiv_eq_ediv_of_nonneg (by omega),ze (x:=(4*((n:Int)+1)+8-1)/8),ze (x:=(4*((n:Int)+1)+8-1)/8*8)]
 refine congrArg (fun z=>ok (I z)) ?_
 unfold yt
 split<;>(push_cast;omega)
theorem zea {n:Nat} (hn:n<=1099511627776):ev 86 [.pv (I (n:Int))] []=ok (I (yt n)):=by
 rw[zgq,ze (x:=4*(n:Int)),ze (x:=4*(n:Int)+8),ze (x:=4*(n:Int)+4),Int.tmod_eq_emod_of_nonneg (by omega),yv]
 unfold yt
 by_cases h:n%2=0
 ·rw[if_pos (by omega),if_pos h];push_cast;rfl
 ·rw[if_neg (by omega),if_neg h];push_cast;rfl
theorem zmJ {b:List Int} (hl:b.length<=1099511627776):∀ (c i:Nat),i+c=b.length->Qo (bs b) b.length i=ok (Bo ((b.drop i).all (·==0))):=by
 intro c
 induction c with
 |zero=>
  intro i hi
  rw[zad,decide_eq_false (by omega),List.drop_eq_nil_of_le (by omega)]
  rfl
 |succ c ih=>
  intro i hi
  have hil:i<b.length:=by omega
  rw[zad,dT ((i:Int)<(b.length:Int)),dT (0<=(i:Int)),decide_eq_true (show (i:Int)<((bs b).length:Int) by rw[zK];omega),zmX,Yr hil]
  dsimp only[zo,zm4,yi,zm2,vQ,zc]
  rw[ze (x:=(i:Int)+1),List.drop_eq_getElem_cons hil,List.all_cons]
  by_cases h0:b[i]=0
  ·rw[h0,show ((0:Int) != 0)=false from rfl,show ((0:Int)==0)=true from rfl]
   dsimp only[zu,zo]
   exact ih (i+1) (by omega)
  ·rw[ww h0,beq_eq_false_iff_ne.2 h0]
   rfl
theorem zeo {b:List Int} (hl:b.length<=1099511627776):ev 175 [.pv (.sl 1 (bs b))] []=ok (Bo (b.all (·==0))):=by
 rw[zhX,zK]
 exact zmJ hl b.length 0 (by omega)
def e4 (v:Int):List Int:=[v%256,v/256%256,v/65536%256,v/16777216%256]
theorem QT {acc:List Int} (ha:acc.length<=17592186044424) (v:Int) {k:Nat} (hk:k<4):WI (bs acc) v k=WI (bs (acc++[v%256])) (v/256) ((k+1:Nat):Int):=by
 rw[zac,dT ((k:Int)<4),yL (by rw[zK];omega) (by rw[zK];omega),Vn,ze (x:=(k:Int)+1),Zt,show (min 8 64:Nat)=8 from rfl,Int.fdiv_eq_ediv_of_nonneg _ (by decide)]
 rfl
theorem gq {acc:List Int} (ha:acc.length<=17592186044416) (v:Int):ev 166 [.slu 5 1 (bs acc),.pv (I v)] []=some (.ret (.slu 5 1 (bs (acc++e4 v))),[]):=by
 rw[zhW]
 have s0:=QT (acc:=acc) (by omega) v (k:=0) (by omega)
 have s1:=QT (acc:=acc++[v%256]) (by simp;omega) (v/256) (k:=1) (by omega)
 have s2:=QT (acc:=acc++[v%256]++[v/256%256]) (by simp;omega) (v/256/256) (k:=2) (by omega)
 have s3:=QT (acc:=acc++[v%256]++[v/256%256]++[v/256/256%256]) (by simp;omega) (v/256/256/256) (k:=3) (by omega)
 refine (s0.trans (s1.trans (s2.trans s3))).trans ?_
 rw[zac,show decide (((3+1:Nat):Int)<4)=false from rfl]
 have e:acc++[v%256]++[v/256%256]++[v/256/256%256]++[v/256/256/256%256]=acc++e4 v:=by
  unfold e4
  rw[show v/256/256=v/65536 by omega,show v/65536/256=v/16777216 by omega]
  simp
 rw[e]
 rfl
def xu (b:List Int):Nat->Nat->List Int->Option (List (List Int))
 |0,_,rest=>if rest=[] then some [] else none
 |c+1,i,rest=>if zL b i<536870912/\8*zL b i<=(rest.length:Int) then (xu b c (i+1) (rest.drop (8*(zL b i).toNat))).map (zS (zL b i).toNat (rest.take (8*(zL b i).toNat))::·) else none
def yI (b:List Int):Option (List (List Int)) :=
 if b.length<4 then none else if 512<zL b 0+1 then none else if b.length<yt (zL b 0+1).toNat then none
 else if (zL b 0+1).toNat%2=0/\zL b ((zL b 0+1).toNat+1)≠0 then none
 else xu b (zL b 0+1).toNat 1 (b.drop (yt (zL b 0+1).toNat))
def ZF (o:Option (List (List Int))):List PV:=match o with
 |some l=>[.sl 1 (zG l),I 0]
 |none=>[.sl 1 [],I 1]
theorem zb6 (l:List (List Int)) (s:List Int):zG l++[.sl 1 (ws s)]=zG (l++[s]):=by simp[zG]
theorem zaS (o:Option (List (List Int))) (acc:List (List Int)) (s:List Int):(o.map (s::·)).map (acc++·)=o.map ((acc++[s])++·):=by
 cases o<;>simp
theorem Ys {b:List Int} (hb:∀ x∈b,zj x) (n:Nat):∀ x∈b.drop n,zj x:=fun x hx=>hb x (List.mem_of_mem_drop hx)
theorem K2 {b:List Int} (hb:∀ x∈b,zj x) (n:Nat):∀ x∈b.take n,zj x:=fun x hx=>hb x (List.mem_of_mem_take hx)
theorem VI (b:List Int) (n:Nat):(bs b).drop n=bs (b.drop n):=by simp[bs]
theorem zjA {b:List Int} (hb:∀ x∈b,zj x) (hl:b.length<=1099511627776) {n:Nat} (hn:n<=512) (ht:4*n+4<=b.length):∀ (c i:Nat) (rest:List Int) (acc:List (List Int)),i+c=n->(∀ x∈rest,zj x)->rest.length<=1099511627776->acc.length=i->
  Xo (bs b) (bs rest) n i (zG acc) 0=ok (.tup (ZF ((xu b c (i+1) rest).map (acc++·)))):=by
 intro c
 induction c with
 |zero=>
  intro i rest acc hi hr hrl hal
  rw[j6,decide_eq_false (by omega),xu]
  dsimp only[zu]
  by_cases h0:rest=[]
  ·subst h0
   rw[if_pos rfl,show (((bs []).length:Int)==0)=true from rfl,Wd]
   simp[ZF]
  ·have:(((bs rest).length:Int)==0)=false:=by
    rw[zK,beq_eq_false_iff_ne]
    have:=List.length_pos_iff.2 h0
    omega
   rw[if_neg h0,this,Yo]
   rfl
 |succ c ih=>
  intro i rest acc hi hr hrl hal
  have hv:=Qy hb (i+1)
  have e1:(i:Int)+1=((i+1:Nat):Int):=by push_cast;rfl
  rw[j6,dT ((i:Int)<n),ze (x:=(i:Int)+1),e1,gj hb hl (by omega),xu]
  dsimp only[zl,zt,zm4,z7,zc]
  by_cases h1:zL b (i+1)<536870912
  ·rw[decide_eq_true h1,ze (x:=zL b (i+1)*8)]
   dsimp only[zc]
   rw[zK]
   by_cases h2:8*zL b (i+1)<=(rest.length:Int)
   ·rw[dT (zL b (i+1)*8<=(rest.length:Int)),Wd,if_pos ⟨h1,h2⟩]
    have en:(zL b (i+1)*8).toNat=8*(zL b (i+1)).toNat:=by omega
    have hW:=KO (K2 hr (8*(zL b (i+1)).toNat)) (by rw[List.length_take];omega) (n:=(zL b (i+1)).toNat) (by rw[List.length_take];omega)
    dsimp only[zl,zt,zm4]
    rw[dT (0<=zL b (i+1)*8)]
    dsimp only[zo,zc]
    rw[en,List.drop_zero,VJ,hW]
    dsimp only[zl,zt,zm4,z6,zm3,zm2,↓wsl,zo,zc]
    rw[yL (by simp;omega) (by simp;omega),dT ((rest.length:Int)<=(rest.length:Int)),zmX,List.take_of_length_le (show (bs rest).length<=rest.length by rw[zK];exact Nat.le_refl _),VI,zb6]
    dsimp only[zc]
    have:=ih (i+1) (rest.drop (8*(zL b (i+1)).toNat)) (acc++[zS (zL b (i+1)).toNat (rest.take (8*(zL b (i+1)).toNat))]) (by omega) (Ys hr _) (by rw[List.length_drop];omega) (by simp;omega)
    rw[zaS]
    exact this
   ·rw[dF (zL b (i+1)*8<=(rest.length:Int)),Yo,if_neg (fun h=>h2 h.2)]
    rfl
  ·rw[decide_eq_false h1,Yo,if_neg (fun h=>h1 h.1)]
   rfl
theorem Zk (a:AV) (p q:PV):wP 0 2 (.tup 0 a [p,q])=some (a,[p,q]):=rfl
noncomputable def qx (l:List (List Int)) (d w:Int):List PV:=if yV l d w=0 then [.sl 1 (ws (xK l d w))] else []
theorem zdH {l:List (List Int)} (hl:zF l) (hs:Sm l) {d w b:Int} (hd:d<=1099511627775) (hw:w<=134217728):ev 103 [.pv (.sl 1 (zG l)),.pv (.agg [I d,I w,I b])] []=ok (.tup [.sl 1 (qx l d w),I (yV l d w)]):=by
 rw[zf3,zf4,KJ hl hs hd (by omega)]
 dsimp only[Nd.x,zk,z6,zm3,zm2,zm4,z7,Y1,yF,wg,zo,zc]
 unfold qx xK
 by_cases h0:yV l d w=0
 ·obtain ⟨ho,hb,_⟩:=QC hl hs hw h0
  have h1:=uX ho hb
  dsimp only[Nd.x] at h1
  rw[h0,show ((0:Int) != 0)=false from rfl,if_pos rfl,if_pos rfl]
  dsimp only[zu]
  rw[zf2,h1]
  dsimp only[zl]
  rw[yu]
  rfl
 ·rw[ww h0,if_neg h0]
  rfl
theorem ziC {b:List Int} {j:Nat} (h:j+4<=b.length):(b.drop j).take 4=[b.getD j 0,b.getD (j+1) 0,b.getD (j+2) 0,b.getD (j+3) 0]:=by
 have g:∀ i,i<b.length->b.getD i 0=b[i]!:=fun i hi=>by simp[List.getD_eq_getElem?_getD,hi]
 rw[List.drop_eq_getElem_cons (show j<b.length by omega),List.drop_eq_getElem_cons (show j+1<b.length by omega),List.drop_eq_getElem_cons (show j+1+1<b.length by omega),List.drop_eq_getElem_cons (show j+1+1+1<b.length by omega)]
 simp only[List.take_succ_cons,List.take_zero,List.getD_eq_getElem?_getD]
 rw[zmS (show j<b.length by omega),zmS (show j+1<b.length by omega),zmS (show j+2<b.length by omega),zmS (show j+3<b.length by omega)]
 rfl
theorem zct (b:List Int) (j k:Nat):(b.take (j+k)).drop j=(b.drop j).take k:=by
 rw[List.drop_take,Nat.add_sub_cancel_left]
theorem zjz {b:List Int} (hb:∀ x∈b,zj x) {n:Nat} (h:yt n<=b.length):((b.take (yt n)).drop (4*n+4)).all (·==0)=!decide (n%2=0/\zL b (n+1)≠0):=by
 by_cases hn:n%2=0
 ·have ht:yt n=(4*n+4)+4:=by unfold yt;rw[if_pos hn]
  have h0:=yR hb (4*n+4)
  have h1:=yR hb (4*n+4+1)
  have h2:=yR hb (4*n+4+2)
  have h3:=yR hb (4*n+4+3)
  have hl:zL b (n+1)=b.getD (4*n+4) 0+256*b.getD (4*n+4+1) 0+65536*b.getD (4*n+4+2) 0+16777216*b.getD (4*n+4+3) 0:=rfl
  rw[ht,zct,ziC (by omega),hl]
  generalize b.getD (4*n+4) 0=c0 at h0 ⊢
  generalize b.getD (4*n+4+1) 0=c1 at h1 ⊢
  generalize b.getD (4*n+4+2) 0=c2 at h2 ⊢
  generalize b.getD (4*n+4+3) 0=c3 at h3 ⊢
  rw[Bool.eq_iff_iff]
  simp only[List.all_cons,List.all_nil,Bool.and_true,Bool.and_eq_true,beq_iff_eq,Bool.not_eq_true',decide_eq_false_iff_not]
  omega
 ·have ht:yt n=4*n+4:=by unfold yt;rw[if_neg hn]
  rw[ht,List.drop_eq_nil_of_le (by rw[List.length_take];omega),decide_eq_false (fun h=>hn h.1)]
  rfl
theorem zdv {b:List Int} (hb:∀ x∈b,zj x) (hl:b.length<=1099511627776):ev 107 [.pv (.sl 1 (bs b))] []=ok (.tup (ZF (yI b))):=by
 rw[zhT]
 unfold yI
 by_cases h4:b.length<4
 ·rw[zdZ h4,if_pos h4]
  rfl
 have hN:ev 173 [.pv (.sl 1 (bs b)),.pv (I 0)] []=ok (I (zL b 0)):=gj hb hl (i:=0) (by omega)
 have hr:=Qy hb 0
 rw[hN,if_neg h4]
 dsimp only[zl,zt,zm4,z7]
 rw[ze (x:=zL b 0+1)]
 obtain ⟨n,hn⟩:∃ n:Nat,zL b 0+1=n:=⟨(zL b 0+1).toNat,by omega⟩
 rw[hn,zmX n]
 by_cases h5:(512:Int)<n
 ·rw[if_pos h5,decide_eq_false (by omega),Yo]
  rfl
 have htb:yt n<=4*n+8/\4*n+4<=yt n:=by unfold yt;split<;>omega
 rw[if_neg h5,dT ((n:Int)<=512),Wd,gz (by omega)]
 dsimp only[zl,zt,zm4,z7,xD]
 rw[zK]
 by_cases h6:b.length<yt n
 ·rw[if_pos h6,decide_eq_false (by omega),Yo]
  rfl
 rw[if_neg h6,dT ((b.length:Int)≥(yt n:Int)),ze (x:=(n:Int)+1),ze (x:=4*((n:Int)+1)),dT (0<=4*((n:Int)+1)),dT (4*((n:Int)+1)<=(yt n:Int))]
 dsimp only[zo,zc]
 rw[zmX (yt n),show (4*((n:Int)+1)).toNat=4*n+4 by omega,VJ,VI,zeo (by rw[List.length_drop,List.length_take];omega),zjz hb (by omega)]
 dsimp only[zl,zt,zm4,y4]
 by_cases h7:n%2=0/\zL b (n+1)≠0
 ·rw[decide_eq_true h7,if_pos h7,show (!true)=false from rfl,Yo]
  rfl
 rw[decide_eq_false h7,if_neg h7,show (!false)=true from rfl,Wd]
 dsimp only[zl,zt,zm4]
 rw[zmX b.length,dT (0<=(yt n:Int)),dT ((b.length:Int)<=(b.length:Int)),List.take_of_length_le (show (bs b).length<=b.length by rw[zK];exact Nat.le_refl _),VI]
 dsimp only[zo,zc]
 have:=zjA hb hl (n:=n) (by omega) (by omega) n 0 (b.drop (yt n)) [] (by omega) (Ys hb _) (by rw[List.length_drop];omega) rfl
 have e:(xu b n (0+1) (b.drop (yt n))).map (([]:List (List Int))++·)=xu b n 1 (b.drop (yt n)):=by
  cases xu b n 1 (b.drop (yt n))<;>rfl
 rw[e] at this
 exact this
theorem zkD {b:List Int} (hb:∀ x∈b,zj x) (hl:b.length<=1099511627776) {n:Nat} (hn:n<=512) (ht:4*n+4<=b.length):∀ (c i at_:Nat) (acc:List (List Int)),i+c=n+1->at_<=b.length->acc.length<=i->
  Wp (bs b) n (zG acc) (I (at_:Int)) i=ok (.tup (ZF ((xu b c i (b.drop at_)).map (acc++·)))):=by
 intro c
 induction c with
 |zero=>
  intro i at_ acc hi ha hal
  rw[rT,decide_eq_false (by omega),xu]
  dsimp only[z7,xD,zm4,zu]
  rw[zK]
  by_cases h0:at_=b.length
  ·rw[if_pos (by rw[List.drop_eq_nil_iff];omega),h0,show ((b.length:Int) != (b.length:Int))=false by simp]
   simp[ZF]
  ·rw[if_neg (by rw[List.drop_eq_nil_iff];omega),show ((at_:Int) != (b.length:Int))=true from bne_iff_ne.2 (by omega)]
   rfl
 |succ c ih=>
  intro i at_ acc hi ha hal
  have hv:=Qy hb i
  rw[rT,dT ((i:Int)<=n),KQ hb hl (by omega),xu]
  dsimp only[z7,xD,zm4,zk,zc]
  rw[zK,List.length_drop]
  by_cases h1:zL b i<536870912
  ·rw[dF (zL b i≥536870912),ze (x:=8*zL b i),ze (x:=(at_:Int)+8*zL b i)]
   dsimp only[zu]
   by_cases h2:8*zL b i<=((b.length-at_:Nat):Int)
   ·rw[dF ((at_:Int)+8*zL b i>(b.length:Int)),if_pos ⟨h1,h2⟩]
    have en:((at_:Int)+8*zL b i).toNat=at_+8*(zL b i).toNat:=by omega
    have hW:=zd9 (K2 (Ys hb at_) (8*(zL b i).toNat)) (by rw[List.length_take,List.length_drop];omega) (n:=(zL b i).toNat) (by rw[List.length_take,List.length_drop];omega)
    dsimp only[zu]
    rw[dT (0<=(at_:Int)),dT ((at_:Int)<=(at_:Int)+8*zL b i),dT ((at_:Int)+8*zL b i<=(b.length:Int))]
    dsimp only[zo,zc]
    rw[en,zmX,VJ,VI,zct,hW]
    dsimp only[zl]
    rw[Zk]
    dsimp only[zm4,zm3,zm2]
    rw[yu]
    dsimp only[zm4]
    rw[yL (by simp;omega) (by simp;omega),zb6,ze (x:=(i:Int)+1)]
    dsimp only[zc]
    have:=ih (i+1) (at_+8*(zL b i).toNat) (acc++[zS (zL b i).toNat ((b.drop at_).take (8*(zL b i).toNat))]) (by omega) (by omega) (by simp;omega)
    rw[zaS,List.drop_drop,show (at_:Int)+8*zL b i=((at_+8*(zL b i).toNat:Nat):Int) by omega]
    exact this
   ·rw[dT ((at_:Int)+8*zL b i>(b.length:Int)),if_neg (fun h=>h2 h.2)]
    rfl
  ·rw[dT (zL b i≥536870912),if_neg (fun h=>h1 h.1)]
   rfl
theorem zd8 {b:List Int} (hb:∀ x∈b,zj x) (hl:b.length<=1099511627776):ev 43 [.pv (.sl 1 (bs b))] []=ok (.tup (ZF (yI b))):=by
 rw[zgp,zK]
 unfold yI
 by_cases h4:b.length<4
 ·rw[dT ((b.length:Int)<4),if_pos h4]
  rfl
 have hN:ev 85 [.pv (.sl 1 (bs b)),.pv (I 0)] []=ok (I (zL b 0)):=KQ hb hl (i:=0) (by omega)
 have hr:=Qy hb 0
 rw[dF ((b.length:Int)<4),hN,if_neg h4]
 dsimp only[zk,z7,zm4,zu]
 rw[ze (x:=zL b 0+1)]
 obtain ⟨n,hn⟩:∃ n:Nat,zL b 0+1=n:=⟨(zL b 0+1).toNat,by omega⟩
 rw[hn,zmX n]
 by_cases h5:(512:Int)<n
 ·rw[if_pos h5,dT ((n:Int)>512)]
  rfl
 have htb:yt n<=4*n+8/\4*n+4<=yt n:=by unfold yt;split<;>omega
 rw[if_neg h5,dF ((n:Int)>512),zea (by omega)]
 dsimp only[zk,z7,zm4,zu]
 by_cases h6:b.length<yt n
 ·rw[if_pos h6,dT ((b.length:Int)<(yt n:Int))]
  rfl
 rw[if_neg h6,dF ((b.length:Int)<(yt n:Int)),Int.tmod_eq_emod_of_nonneg (by omega),ze (x:=(n:Int)+1)]
 dsimp only[zu]
 have loop:=zkD hb hl (n:=n) (by omega) (by omega) n 1 (yt n) [] (by omega) (by omega) (by simp)
 have e:(xu b n 1 (b.drop (yt n))).map (([]:List (List Int))++·)=xu b n 1 (b.drop (yt n)):=by
  cases xu b n 1 (b.drop (yt n))<;>rfl
 rw[e] at loop
 by_cases h7:n%2=0
 ·have hE:ev 85 [.pv (.sl 1 (bs b)),.pv (I ((n:Int)+1))] []=ok (I (zL b (n+1))):=by
   have ht:yt n=4*n+8:=by unfold yt;rw[if_pos h7]
   have:=KQ hb hl (i:=n+1) (by omega)
   rw[show ((n+1:Nat):Int)=(n:Int)+1 by push_cast;rfl] at this
   exact this
  rw[show ((n:Int)%2==0)=true by rw[beq_iff_eq];omega,hE]
  dsimp only[zk,z7,zm4,zc]
  by_cases h8:zL b (n+1)=0
  ·rw[h8,if_neg (fun h=>h.2 rfl),show ((0:Int) != 0)=false from rfl]
   exact loop
  ·rw[if_pos ⟨h7,h8⟩,ww h8]
   rfl
 ·rw[show ((n:Int)%2==0)=false by rw[beq_eq_false_iff_ne];omega,if_neg (fun h=>h7 h.1)]
  exact loop
def Ka (w:List Int):List Int:=e4 0++e4 w.length++zM w
theorem zkY (w:List Int):(Ka w).length=8+8*w.length:=by
 unfold Ka
 rw[List.length_append,xJ]
 rfl
theorem zdz {w:List Int} (hw:w.length<536870912):ev 105 [.pv (.sl 1 [.sl 1 (ws w)])] []=some (.ret (.tup 0 (.slu 5 1 (bs (Ka w))) [.v .nilIface,I 0]),[]):=by
 have p1:=gq (acc:=[]) (by simp) 0
 have p2:=gq (acc:=e4 0) (by decide) (w.length:Int)
 have hb:=ZQ w (by omega)
 have ht:ev 167 [.pv (I 1)] []=ok (I 8):=gz (n:=1) (by omega)
 have hl:((bs (e4 0++e4 (w.length:Int))).length:Int)=8:=by rw[zK];rfl
 rw[zhU,show decide (((([.sl 1 (ws w)]:List PV).length:Nat):Int)<1)=false from rfl,show decide (((([.sl 1 (ws w)]:List PV).length:Nat):Int)>512)=false from rfl,show IntKind.wrap .i64 (((([.sl 1 (ws w)]:List PV).length:Nat):Int)-1)=0 from rfl]
 dsimp only[zu]
 have p1':ev 166 [.slu 5 1 [],.pv (I 0)] []=some (.ret (.slu 5 1 (bs (e4 0))),[]):=p1
 rw[p1']
 dsimp only[zl]
 rw[yu]
 dsimp only[zm4]
 rw[j7,show decide ((0:Int)<((([.sl 1 (ws w)]:List PV).length:Nat):Int))=true from rfl,show decide ((0:Int)<=0)=true from rfl,show ([.sl 1 (ws w)]:List PV)[(0:Int).toNat]? = some (.sl 1 (ws w)) from rfl]
 dsimp only[zo,zm4,Zb,zm2,yx,zc]
 rw[yj,dF ((w.length:Int)≥536870912),p2]
 dsimp only[zl,zu]
 rw[yu]
 dsimp only[zm4]
 rw[j7,show decide (IntKind.wrap .i64 ((0:Int)+1)<((([.sl 1 (ws w)]:List PV).length:Nat):Int))=false from rfl,show ((([.sl 1 (ws w)]:List PV).length:Nat):Int)=1 from rfl,ht]
 dsimp only[zk,z7,zm4,zu]
 rw[hl,show IntKind.wrap .i64 ((8:Int)-8)=0 from rfl,show (decide ((0:Int)<=0)&&decide ((0:Int)<=140737488355328))=true from rfl,show List.replicate (0:Int).toNat (PV.v (.int .u8 0))=[] from rfl,List.append_nil,show ye ((bs (e4 0++e4 (w.length:Int))).length+([]:List PV).length) 1=true from by rw[zK];rfl]
 dsimp only[zc]
 rw[j8,show decide ((0:Int)<1)=true from rfl,show decide ((0:Int)<((([.sl 1 (ws w)]:List PV).length:Nat):Int))=true from rfl,show decide ((0:Int)<=0)=true from rfl,show ([.sl 1 (ws w)]:List PV)[(0:Int).toNat]? = some (.sl 1 (ws w)) from rfl]
 dsimp only[zo,zm4,Zb,zm2,zc]
 rw[hb]
 dsimp only[zk,yx,zm4]
 rw[show decide ((1:Nat)=1)=true from rfl,yL (by rw[zK,zK,xJ,List.length_append];show (4+4+_)*1<=_;omega) (by rw[zK,zK,xJ,List.length_append];show 4+4+_<=_;omega)]
 dsimp only[zc]
 rw[j8,show decide (IntKind.wrap .i64 ((0:Int)+1)<1)=false from rfl,←Zt]
 rfl
def Yh (s b:Int):Int:=IntKind.wrap .u64 ((IntKind.wrap .u64 ((BitVec.ofInt 64 s ^^^ BitVec.ofInt 64 (IntKind.wrap .u64 b)).toNat:Nat))*1099511628211)
def wc (s:Int) (l:List Int):Int:=l.foldl Yh s
theorem wrap64 (x:Int):IntKind.wrap .u64 x=x%18446744073709551616:=by
 simp[IntKind.wrap,IntKind.bits,IntKind.signed]
theorem zlb (s b:Int):zU (Yh s b):=by
 unfold Yh
 rw[wrap64]
 exact ⟨by omega,by omega⟩
theorem step_loop {l:List Int} (hl:l.length<=4611686018427387904):∀ (c i:Nat) (s:Int),i+c=l.length->Qm s (bs l) l.length i=ok (U (wc s (l.drop i))):=by
 intro c
 induction c with
 |zero=>
  intro i s hi
  rw[j3,decide_eq_false (by omega),List.drop_eq_nil_of_le (by omega)]
  rfl
 |succ c ih=>
  intro i s hi
  have hil:i<l.length:=by omega
  rw[j3,dT ((i:Int)<(l.length:Int)),dT (0<=(i:Int)),decide_eq_true (show (i:Int)<((bs l).length:Int) by rw[zK];omega)]
  dsimp only[zo,zc]
  rw[zmX,show (bs l)[i]? = some (U8 l[i]) by simp[bs,hil]]
  dsimp only[zm4,yi,zm2,xD]
  rw[ze (x:=(i:Int)+1)]
  have:=ih (i+1) (Yh s l[i]) (by omega)
  rw[List.drop_eq_getElem_cons hil]
  exact this
theorem zee {l:List Int} (hl:l.length<=4611686018427387904) (s:Int):ev 232 [.pv (U s),.pv (.sl 1 (bs l))] []=ok (U (wc s l)):=by
 rw[zhP,zK]
 exact step_loop hl l.length 0 s (by omega)
theorem zhM (s:Int) (a b:List Int):wc s (a++b)=wc (wc s a) b:=List.foldl_append ..
theorem zfJ (w:Int) (l:List Int):zM (w::l)=w8 w++zM l:=rfl
theorem zhQ {l:List Int} (hl:l.length<=17592186044416):∀ (c i:Nat) (s:Int),i+c=l.length->Ql (U s) (ws l) l.length i=ok (U (wc s (zM (l.drop i)))):=by
 intro c
 induction c with
 |zero=>
  intro i s hi
  rw[j2,decide_eq_false (by omega),List.drop_eq_nil_of_le (by omega)]
  rfl
 |succ c ih=>
  intro i s hi
  have hil:i<l.length:=by omega
  have hb:=ZQ [l[i]] (by simp)
  have hs:=zee (l:=zM [l[i]]) (by rw[xJ];simp) s
  rw[j2,dT ((i:Int)<(l.length:Int)),dT (0<=(i:Int)),decide_eq_true (show (i:Int)<((ws l).length:Int) by rw[yj];omega)]
  dsimp only[zo,zc]
  rw[zmX,Yk hil]
  have hb':ev 117 [.pv (.sl 1 [U l[i]])] []=ok (.sl 1 (bs (zM [l[i]]))):=hb
  dsimp only[zm4,yi,zm2,↓zmi,zo,zc]
  rw[hb']
  dsimp only[zk]
  rw[hs]
  dsimp only[zk]
  rw[ze (x:=(i:Int)+1)]
  have:=ih (i+1) (wc s (zM [l[i]])) (by omega)
  have e:zM [l[i]]=w8 l[i]:=by simp[zM]
  refine (show _=_ from this).trans ?_
  rw[e,List.drop_eq_getElem_cons hil,zfJ,zhM]
def off:Int:=14695981039346656037
theorem zdT {l:List Int} (hl:l.length<=17592186044416):ev 177 [.pv (.sl 1 (ws l))] []=ok (U (wc off (zM l))):=by
 rw[zhO,zhN]
 dsimp only[zk]
 rw[yj,show (14695981039346656037:Int)=off from rfl]
 exact zhQ hl l.length 0 off (by omega)
theorem zmF (a c k:Nat):(a ^^^ c)%2^(k+1)=(a ^^^ c)%2^k+(if a/2^k%2≠c/2^k%2 then 2^k else 0):=by
 rw[Nat.mod_pow_succ,Nat.xor_div_two_pow]
 have h0:(a/2^k ^^^ c/2^k)%2^1=(a/2^k)%2^1 ^^^ (c/2^k)%2^1:=Nat.xor_mod_two_pow
 rw[Nat.pow_one] at h0
 have h1:=Nat.mod_two_eq_zero_or_one (a/2^k)
 have h2:=Nat.mod_two_eq_zero_or_one (c/2^k)
 rw[h0]
 rcases h1 with h1|h1<;>rcases h2 with h2|h2<;>simp[h1,h2]
theorem zmE (s c:Nat) (hc:c<256):s-s%256+(s%256 ^^^ c)=s ^^^ c:=by
 have h1:(s ^^^ c)%2^8=(s%2^8) ^^^ (c%2^8):=Nat.xor_mod_two_pow
 have h2:(s ^^^ c)/2^8=s/2^8 ^^^ c/2^8:=Nat.xor_div_two_pow
 have e1:c%2^8=c:=Nat.mod_eq_of_lt hc
 have e2:c/2^8=0:=Nat.div_eq_of_lt hc
 rw[e1] at h1
 rw[e2,Nat.xor_zero] at h2
 have h3:(2:Nat)^8=256:=rfl
 rw[h3] at h1 h2
 omega
theorem zmD (s c:Nat) (hs:s<18446744073709551616) (hc:c<256):(BitVec.ofInt 64 (s:Int) ^^^ BitVec.ofInt 64 (IntKind.wrap .u64 (c:Int))).toNat=s ^^^ c:=by
 have e1:∀ m:Nat,m<18446744073709551616->(BitVec.ofInt 64 (m:Int)).toNat=m:=fun m hm=>by simp;omega
 rw[wJ (by omega),BitVec.toNat_xor,e1 s hs,e1 c (by omega)]
theorem zmG (s c:Nat) (hs:s<18446744073709551616) (hc:c<256):s ^^^ c<18446744073709551616:=Nat.xor_lt_two_pow (n:=64) hs (by omega)
theorem ze6 (s c:Nat) (hs:s<18446744073709551616) (hc:c<256):(IntKind.wrap .u64 ((IntKind.wrap .u64 ((IntKind.wrap .u64 ((IntKind.wrap .u64 ((IntKind.wrap .u64 ((s:Int)-((s%256:Nat):Int)))+((s%256 ^^^ c:Nat):Int)))*1099511627776))+(IntKind.wrap .u64 ((IntKind.wrap .u64 ((IntKind.wrap .u64 ((s:Int)-((s%256:Nat):Int)))+((s%256 ^^^ c:Nat):Int)))*256))))+(IntKind.wrap .u64 ((IntKind.wrap .u64 ((IntKind.wrap .u64 ((s:Int)-((s%256:Nat):Int)))+((s%256 ^^^ c:Nat):Int)))*179))))=Yh s c:=by
 have h:=zmE s c hc
 have h2:=zmG s c hs hc
 have hl:s%256<=s:=Nat.mod_le _ _
 have e1:IntKind.wrap .u64 ((s:Int)-((s%256:Nat):Int))=((s-s%256:Nat):Int):=by rw[wJ (by omega)];omega
 have e2:IntKind.wrap .u64 (((s-s%256:Nat):Int)+((s%256 ^^^ c:Nat):Int))=((s ^^^ c:Nat):Int):=by
  rw[wJ (by omega)];omega
 unfold Yh
 rw[e1,e2,zmD s c hs hc,wJ (x:=((s ^^^ c:Nat):Int)) (by omega)]
 generalize s ^^^ c=t at h2
 simp only[wrap64]
 omega
theorem ze7 {l:List Int} {s c:Nat} (hs:s<18446744073709551616) (hc:c<256) (i:Int) (hi:0<=i/\i<=9000000000000000000):∀ (d k:Nat),k+d=8->Wq s (bs l) i ((s%256:Nat):Int) (((s%256 ^^^ c)%2^k:Nat):Int) c k=Xa (Yh s c) (bs l) (i+1):=by
 have hx:s%256 ^^^ c<256:=Nat.xor_lt_two_pow (n:=8) (by omega) (by omega)
 intro d
 induction d with
 |zero=>
  intro k hk
  obtain rfl:k=8:=by omega
  rw[rW,show decide (((8:Nat):Int)<8)=false from rfl,Nat.mod_eq_of_lt (show s%256 ^^^ c<2^8 from hx),ze6 s c hs hc,ze (x:=i+1)]
  rfl
 |succ d ih=>
  intro k hk
  have hp:0<2^k:=Nat.pow_pos (by decide)
  have hp2:2^k<=2^7:=Nat.pow_le_pow_right (by decide) (by omega)
  have hpow:=zdw k (by omega)
  have q:∀ a:Nat,a<256->Int.tmod (IntKind.wrap .u64 (Int.tdiv (a:Int) ((2^k:Nat):Int))) 2=((a/2^k%2:Nat):Int):=fun a ha=>by
   have h1:Int.tdiv (a:Int) ((2^k:Nat):Int)=((a/2^k:Nat):Int):=by
    rw[Int.tdiv_eq_ediv_of_nonneg (by omega)];exact (Int.natCast_ediv a (2^k)).symm
   have h2:a/2^k<=a:=Nat.div_le_self _ _
   generalize a/2^k=z at h1 h2
   rw[h1,wJ (by omega),Int.tmod_eq_emod_of_nonneg (by omega)]
   omega
  have ok:yN .quo ((2^k:Nat):Int)=true:=by
   have:((2^k:Nat):Int)≠0:=by omega
   simp only[yN]
   simpa using this
  have hm:(s%256 ^^^ c)%2^k<2^k:=Nat.mod_lt _ hp
  have hn:=ih (k+1) (by omega)
  rw[zmF] at hn
  rw[rW,dT ((k:Int)<8),hpow]
  dsimp only[zk,vA,zm4,zl,zt,zc]
  rw[ok]
  dsimp only[zc]
  rw[q _ (Nat.mod_lt _ (by decide)),q c hc,ze (x:=(k:Int)+1)]
  by_cases g:s%256/2^k%2=c/2^k%2
  ·rw[if_neg (fun h=>h g),Nat.add_zero] at hn
   rw[show (((s%256/2^k%2:Nat):Int) != ((c/2^k%2:Nat):Int))=false from by rw[g];simp]
   exact hn
  ·rw[if_pos g] at hn
   rw[bne_iff_ne.2 (show ((s%256/2^k%2:Nat):Int)≠((c/2^k%2:Nat):Int) by omega)]
   dsimp only[zc]
   rw[wJ (by omega)]
   exact hn
theorem ze8 {l:List Int} (hb:∀ b∈l,zj b) (hl:l.length<=4611686018427387904):∀ (d i:Nat) (s:Int),zU s->i+d=l.length->Xa s (bs l) i=ok (U (wc s (l.drop i))):=by
 intro d
 induction d with
 |zero=>
  intro i s hs hi
  rw[rV,decide_eq_false (by rw[zK];omega),List.drop_eq_nil_of_le (by omega)]
  rfl
 |succ d ih=>
  intro i s hs hi
  have hil:i<l.length:=by omega
  obtain ⟨b1,b2⟩:=hb _ (List.getElem_mem hil)
  obtain ⟨s1,s2⟩:=hs
  obtain ⟨n,hn⟩:=Int.eq_ofNat_of_zero_le s1
  obtain ⟨c,hc⟩:=Int.eq_ofNat_of_zero_le b1
  have h:=ze7 (l:=l) (s:=n) (c:=c) (by omega) (by omega) (i:Int) (by omega) 8 0 rfl
  have hm:Int.tmod s 256=((n%256:Nat):Int):=by rw[hn,Int.tmod_eq_emod_of_nonneg (by omega)];omega
  rw[rV,decide_eq_true (show (i:Int)<((bs l).length:Int) by rw[zK];omega),dT (0<=(i:Int))]
  dsimp only[zo,zc]
  rw[zmX,show (bs l)[i]? = some (U8 l[i]) by simp[bs,hil]]
  dsimp only[zm4,yi,zm2,xD]
  rw[hm,wJ (x:=l[i]) (by omega)]
  rw[Nat.pow_zero,Nat.mod_one] at h
  have hih:=ih (i+1) (Yh s l[i]) (zlb _ _) (by omega)
  rw[List.drop_eq_getElem_cons hil]
  rw[hn,hc] at hih ⊢
  exact (show _=_ from h).trans hih
theorem zdC {l:List Int} (hb:∀ b∈l,zj b) (hl:l.length<=4611686018427387904):ev 42 [.pv (.sl 1 (bs l))] []=ok (U (wc off l)):=by
 have h:=ze8 hb hl l.length 0 off ⟨by decide,by decide⟩ (by omega)
 rw[List.drop_zero] at h
 have h':Xa 14695981039346656037 (bs l) 0=ok (U (wc off l)):=h
 rw[zgu,zgt,h']
 rfl
theorem eqB_true {α:Type} {x y:α}:yU x y=true↔x=y:=by
 by_cases h:x=y
 ·exact ⟨fun _=>h,fun _=>wN h⟩
 ·exact ⟨fun e=>by (rw[wA h] at e;cases e),fun e=>absurd e h⟩
theorem zfn (b:ByteArray):∀ (c i:Nat) (r:List UInt8),i+c=b.size->ByteArray.toList.loop b i r=r.reverse++b.data.toList.drop i:=by
 intro c
 induction c with
 |zero=>
  intro i r hi
  unfold ByteArray.toList.loop
  rw[if_neg (by omega),List.drop_of_length_le (by rw[Array.length_toList];have:b.size=b.data.size:=rfl;omega),List.append_nil]
 |succ c ih=>
  intro i r hi
  have hib:i<b.data.size:=by show i<b.size;omega
  unfold ByteArray.toList.loop
  rw[if_pos (by omega),ih (i+1) _ (by omega),List.reverse_cons,List.append_assoc]
  congr 1
  conv=>rhs;rw[List.drop_eq_getElem_cons (by rw[Array.length_toList];exact hib)]
  have:b.get! i=b.data[i]:=by
   show b.data[i]! = b.data[i]
   rw[getElem!_pos b.data i hib]
  rw[this,Array.getElem_toList]
  rfl
theorem gQ (b:ByteArray):b.toList=b.data.toList:=by
 unfold ByteArray.toList
 rw[zfn b b.size 0 [] (by omega)]
 rfl
theorem zcf {a b:List Int} (ha:∀ x∈a,zj x) (hb:∀ x∈b,zj x) (h:(strOfNums a).toList=(strOfNums b).toList):a=b:=by
 rw[gQ,gQ,strOfNums_data,strOfNums_data] at h
 have hl:a.length=b.length:=by have:=congrArg List.length h;simpa using this
 apply List.ext_getElem hl
 intro i h1 h2
 have e:=congrArg (fun l:List UInt8=>l[i]?) h
 simp only[List.getElem?_map,zmS h1,zmS h2,Option.map_some,Option.some.injEq] at e
 obtain ⟨p1,p2⟩:=ha _ (List.getElem_mem h1)
 obtain ⟨q1,q2⟩:=hb _ (List.getElem_mem h2)
 have:=congrArg UInt8.toNat e
 rw[UInt8.toNat_ofNat',UInt8.toNat_ofNat',Nat.mod_eq_of_lt (by omega),Nat.mod_eq_of_lt (by omega)] at this
 omega
theorem WV:∀ a:List Int,vz (bs a)=some a
 |[]=>rfl
 |x::a=>by
  show (vz (bs a)).map (fun l=>x::l)=some (x::a)
  rw[WV a];rfl
theorem zdG {a b:List Int} (ha:∀ x∈a,zj x) (hb:∀ x∈b,zj x):ev 212 [.pv (.sl 1 (bs a)),.pv (.sl 1 (bs b))] []=ok (Bo (yU a b)):=by
 rw[zfM,WV,zm4,WV,zm4]
 by_cases h:a=b
 ·rw[wN h,beq_iff_eq.2 (by rw[h])]
 ·rw[wA h,beq_eq_false_iff_ne.2 (fun e=>h (zcf ha hb e))]
def V6 (l:List (List Int)) (D:Nat) (m:Int) (o:Ob):Nd×Int×Int:=if o.kind=1 then zZ (zH l D) l m o else xx (zH l D) l m o
def K1 (o:Ob):Prop:=o.kind=1->o.elem=0/\o.n=0
theorem zjc (l:List (List Int)) (s a:Int):K1 (yn l s a).1:=by
 have hb:∀ e,K1 (bad e).1:=fun e h=>⟨rfl,rfl⟩
 unfold yn vu vv vt wF
 repeat' split
 all_goals first
  |exact hb _
  |exact fun _=>⟨rfl,rfl⟩
  |exact fun h=>absurd h (show ¬((2:Int)=1) by decide)
def Dn (l:List (List Int)) (D:Nat) (o:Ob) (n:Nd):Prop:=(o=wE/\n=nd0)∨∃ D',D=D'+1/\vY l o/\Np o/\K1 o/\∃ m,(V6 l D' m o).2.2=0/\(V6 l D' m o).1=n
theorem V7 {l:List (List Int)} (hl:zF l) (hs:Sm l) {D:Nat} {m s a:Int} (h:(zH l D m s a).2.2=0):Dn l D (yn l s a).1 (zH l D m s a).1:=by
 by_cases he:(zV l s a).2.2.2=0
 ·by_cases h0:(zV l s a).1=0
  ·rw[Ww he h0]
   refine .inl ⟨?_,rfl⟩
   unfold yn
   rw[if_pos he,if_pos h0]
   rfl
  ·cases D with
   |zero=>rw[Jn he h0] at h;exact absurd h (by show ¬((7:Int)=0);decide)
   |succ D=>
    rw[Jo he h0] at h ⊢
    unfold wz at h ⊢
    by_cases hf:(yn l s a).2=0
    ·rw[if_pos hf] at h ⊢
     by_cases h8:(yn l s a).1.cost>m
     ·rw[if_pos h8] at h;exact absurd h (by show ¬((8:Int)=0);decide)
     ·rw[if_neg h8] at h ⊢
      exact .inr ⟨D,rfl,Xw hl hs h0 he hf,za3 hl hs h0 he hf,zjc l s a,m-(yn l s a).1.cost,h,rfl⟩
    ·rw[if_neg hf] at h;exact absurd h hf
 ·rw[Xg he] at h;exact absurd h he
theorem jv {l:List (List Int)} {D:Nat} {o:Ob} {n:Nd} (h:Dn l D o n):n.kind=o.kind/\n.elem=o.elem/\n.n=o.n:=by
 rcases h with ⟨rfl,rfl⟩|⟨D',_,hok,_,hk1,m,hz,rfl⟩
 ·exact ⟨rfl,rfl,rfl⟩
 ·obtain ⟨_,_,_,_,_,_,hk,_⟩:=hok
  unfold V6 at hz ⊢
  by_cases h1:o.kind=1
  ·rw[if_pos h1] at hz ⊢
   have hz':(zW (fun m (i:Nat)=>zH l D' m o.seg (o.at_+o.data+i)) o.ptrs.toNat 0 m []).2.2=0:=hz
   unfold zZ
   rw[vX hz']
   exact ⟨h1.symm,(hk1 h1).1.symm,(hk1 h1).2.symm⟩
  ·rw[if_neg h1] at hz ⊢
   have h2:o.kind=2:=by omega
   unfold xx at hz ⊢
   by_cases h6:o.elem<6
   ·rw[if_pos h6];exact ⟨h2.symm,rfl,rfl⟩
   ·rw[if_neg h6] at hz ⊢
    have hz':(zW (fun m (i:Nat)=>if o.elem=6 then zH l D' m o.seg (o.at_+i) else zZ (zH l D') l m (yl o i)) o.n.toNat 0 m []).2.2=0:=hz
    rw[vX hz']
    exact ⟨h2.symm,rfl,rfl⟩
def vq (l:List (List Int)) (o:Ob) (i:Nat):Ob:=if (i:Int)≥wI o then wE else (yn l o.seg (yY o+i)).1
theorem zch {l:List (List Int)} (hl:zF l) (hs:Sm l) {D:Nat} {m:Int} {o:Ob} (hk:o.kind=1) (hq:0<=o.ptrs) (h:(zZ (zH l D) l m o).2.2=0):∃ ks,(zZ (zH l D) l m o).1=.mk 1 0 0 (zM (cutB l o.seg o.at_ o.data)) ks/\ks.length=o.ptrs.toNat/\∀ i,Dn l D (vq l o i) (ks.getD i nd0):=by
 have hz:(zW (fun m (i:Nat)=>zH l D m o.seg (o.at_+o.data+i)) o.ptrs.toNat 0 m []).2.2=0:=h
 obtain ⟨ks,e1,e2,e3⟩:=zaI (G:=fun m (i:Nat)=>zH l D m o.seg (o.at_+o.data+i)) o.ptrs.toNat 0 m [] hz
 refine ⟨ks,?_,e2,fun i=>?_⟩
 ·unfold zZ
  rw[vX hz]
  dsimp only
  rw[e1,List.nil_append]
 ·have hN:wI o=o.ptrs:=by
   unfold wI
   by_cases h0:0<o.ptrs
   ·rw[if_pos ⟨hk,h0⟩]
   ·rw[if_neg (fun x=>h0 x.2),if_neg (fun x=>absurd x.1 (by omega))];omega
  unfold vq
  rw[hN]
  by_cases hi:(i:Int)≥o.ptrs
  ·rw[if_pos hi,List.getD_eq_getElem?_getD,List.getElem?_eq_none (by omega)]
   exact .inl ⟨rfl,rfl⟩
  ·rw[if_neg hi]
   have hik:i<ks.length:=by omega
   obtain ⟨m1,f1,f2⟩:=e3 i hik
   rw[List.getD_eq_getElem?_getD,zmS hik,Option.getD_some,←f2,Nat.zero_add]
   rw[Nat.zero_add] at f1
   have hA:yY o=o.at_+o.data:=by unfold yY;rw[if_pos ⟨hk,by omega⟩]
   rw[hA]
   exact V7 hl hs f1
abbrev WX (la lb:List (List Int)):AV:=.pv (.agg [.sl 1 (zG la),.sl 1 (zG lb)])
theorem gk {l:List (List Int)} (hl:zF l) (hs:Sm l) {o:Ob} (hat:0<=o.at_/\o.at_<=1125899906842624) (hdt:0<=o.data/\o.data<=65535) (hA:0<=yY o/\yY o<=2251799813685248) {i:Nat} (hi:i<=1073741824):ev 239 [.pv (.sl 1 (zG l)),.pv (.agg o.c),.pv (I i)] []=ok (.agg (vq l o i).c):=by
 have hp:=uT o (by omega)
 rw[Ob.c] at hp ⊢
 rw[zho,hp]
 dsimp only[zk,z6,zm3,zm2,zm4,z7]
 unfold vq
 by_cases h:(i:Int)≥wI o
 ·rw[decide_eq_true h,if_pos h];rfl
 ·rw[decide_eq_false h,if_neg h,ze (x:=yY o+i),KK hl hs]
  rfl
theorem VB {l:List (List Int)} (hl:zF l) (o:Ob) {n:Int} (hn:n<=17592186044416):ev 236 [.pv (.sl 1 (zG l)),.pv (.agg o.c),.pv (I n)] []=ok (.sl 1 (ws (cutB l o.seg o.at_ n))):=by
 rw[Ob.c,zhv,uU hl _ _ _ hn]
 rfl
theorem zj8 {la lb:List (List Int)} {x y:Ob} {q:Nat} (hq:q<=1073741824) (f:Nat->Bool)
  (hx:∀ i,i<q->ev 239 [.pv (.sl 1 (zG la)),.pv (.agg x.c),.pv (I i)] []=ok (.agg (vq la x i).c)) (hy:∀ i,i<q->ev 239 [.pv (.sl 1 (zG lb)),.pv (.agg y.c),.pv (I i)] []=ok (.agg (vq lb y i).c))
  (hf:∀ i,i<q->ev 111 [WX la lb,.pv (.agg (vq la x i).c),.pv (.agg (vq lb y i).c)] []=ok (Bo (f i))):∀ (c i:Nat),i+c=q->(∀ j,j<i->f j=true)->
  Qh q i (zG la) (zG lb) x.kind x.seg x.at_ x.data x.ptrs x.elem x.n x.cost y.kind y.seg y.at_ y.data y.ptrs y.elem y.n y.cost=ok (Bo ((List.range q).all f)):=by
 intro c
 induction c with
 |zero=>
  intro i hi hj
  rw[jJ,decide_eq_false (by omega),List.all_eq_true.2 (fun j h=>hj j (by have:=List.mem_range.1 h;omega))]
  rfl
 |succ c ih=>
  intro i hi hj
  have e1:=hx i (by omega)
  have e2:=hy i (by omega)
  have e3:=hf i (by omega)
  rw[Ob.c] at e1 e2
  rw[jJ,decide_eq_true (by omega),e1]
  dsimp only[zl,zt,zm4,zc]
  rw[e2]
  dsimp only[zk]
  rw[e3]
  dsimp only[zk,y4,zm4]
  cases hfi:f i with
  |true=>
   dsimp only[vp,zu]
   rw[ze (x:=(i:Int)+1)]
   exact ih (i+1) (by omega) fun j h=>by
    rcases Nat.lt_or_ge j i with h1|h1
    ·exact hj j h1
    ·rw[show j=i by omega];exact hfi
  |false=>
   rw[show (List.range q).all f=false from by
    rw[Bool.eq_false_iff]
    intro h
    have:=List.all_eq_true.1 h i (List.mem_range.2 (by omega))
    rw[hfi] at this;cases this]
   rfl
theorem getD_map (l:List Nd) (i:Nat):(l.map zi).getD i nd0=zi (l.getD i nd0):=by
 simp only[List.getD_eq_getElem?_getD,List.getElem?_map]
 cases l[i]? with
 |none=>rfl
 |some x=>rfl
theorem gY {p q:Bool} (h:p=true↔q=true):p=q:=Bool.eq_iff_iff.2 h
def XY (la lb:List (List Int)) (D:Nat):Prop:=∀ x y nx ny,Dn la D x nx->Dn lb D y ny->ev 111 [WX la lb,.pv (.agg x.c),.pv (.agg y.c)] []=ok (Bo (yU (zi nx) (zi ny)))
def Wi (o:Ob):Prop:=(0<=o.at_/\o.at_<=1125899906842624)/\(0<=o.data/\o.data<=65535)/\(0<=o.ptrs/\o.ptrs<=65535)
theorem zcV {o:Ob} (h:Wi o) (hk:o.kind=1):0<=yY o/\yY o<=2251799813685248:=by
 obtain ⟨h1,h2,h3⟩:=h
 unfold yY
 split
 ·omega
 ·rw[if_neg (fun x=>absurd x.1 (by omega))];omega
theorem gp {la lb:List (List Int)} (hla:zF la) (hsa:Sm la) (hlb:zF lb) (hsb:Sm lb) {D:Nat} (ih:XY la lb D) {x y:Ob} (hx1:0<=x.at_/\x.at_<=1125899906842624) (hx2:0<=x.data/\x.data<=65535) (hx3:0<=yY x/\yY x<=2251799813685248) (hy1:0<=y.at_/\y.at_<=1125899906842624) (hy2:0<=y.data/\y.data<=65535) (hy3:0<=yY y/\yY y<=2251799813685248) {q:Nat} (hq:q<=1073741824) {kx ky:List Nd}
  (dx:∀ i,i<q->Dn la D (vq la x i) (kx.getD i nd0)) (dy:∀ i,i<q->Dn lb D (vq lb y i) (ky.getD i nd0)):ev 183 [WX la lb,.pv (.agg x.c),.pv (.agg y.c),.pv (I q)] []=ok (Bo ((List.range q).all fun i=>yU (zi (kx.getD i nd0)) (zi (ky.getD i nd0)))):=by
 have:=zj8 (la:=la) (lb:=lb) (x:=x) (y:=y) hq (fun i=>yU (zi (kx.getD i nd0)) (zi (ky.getD i nd0))) (fun i hi=>gk hla hsa hx1 hx2 hx3 (by omega)) (fun i hi=>gk hlb hsb hy1 hy2 hy3 (by omega)) (fun i hi=>ih _ _ _ _ (dx i hi) (dy i hi)) q 0 (by omega) (fun j h=>absurd h (by omega))
 rw[Ob.c,Ob.c,zhr]
 exact this
theorem gL {q:Nat} {kx ky:List Nd}:((List.range q).all fun i=>yU (zi (kx.getD i nd0)) (zi (ky.getD i nd0)))=true↔∀ i,i<q->(kx.map zi).getD i nd0=(ky.map zi).getD i nd0:=by
 rw[List.all_eq_true]
 constructor
 ·intro h i hi
  rw[getD_map,getD_map]
  exact eqB_true.1 (h i (List.mem_range.2 hi))
 ·intro h i hi
  have:=h i (List.mem_range.1 hi)
  rw[getD_map,getD_map] at this
  exact eqB_true.2 this
theorem zl7 {k e n:Int} {d:List Int} {ks:List Nd} (h:VN (.mk k e n d ks)):∀ y∈ks,VN y:=by
 cases h with
 |mk v1 v2 v3=>exact v1
theorem zcL (d:List Int) (ks:List Nd):zi (.mk 1 0 0 d ks)=.mk 1 0 0 (d.take (8*yp d)) ((ks.map zi).take (yo (ks.map zi))):=by
 rw[zi,if_pos rfl,xo]
 have:=qe ks
 rw[xo] at this
 rw[this]
theorem zcS {k e n:Int} {d:List Int} {ks:List Nd} (h:VN (.mk k e n d ks)):∀ y∈ks,VN y:=(zl7 h)
theorem gx {la lb:List (List Int)} (hla:zF la) (hsa:Sm la) (hlb:zF lb) (hsb:Sm lb) {D:Nat} (ih:XY la lb D) {x y:Ob} (hx:Wi x) (hy:Wi y) (kx:x.kind=1) (ky:y.kind=1) {m m':Int} (zx:(zZ (zH la D) la m x).2.2=0) (zy:(zZ (zH lb D) lb m' y).2.2=0):ev 181 [WX la lb,.pv (.agg x.c),.pv (.agg y.c)] []=ok (Bo (yU (zi (zZ (zH la D) la m x).1) (zi (zZ (zH lb D) lb m' y).1))):=by
 obtain ⟨cx,e1,e2,e3⟩:=zch hla hsa kx hx.2.2.1 zx
 obtain ⟨cy,f1,f2,f3⟩:=zch hlb hsb ky hy.2.2.1 zy
 have vx:=(Kg (V9 hla hsa D) la m hx.2.1.2 hx.2.2 zx).1
 have vy:=(Kg (V9 hlb hsb D) lb m' hy.2.1.2 hy.2.2 zy).1
 rw[e1] at vx ⊢
 rw[f1] at vy ⊢
 have px:=gp (D:=D) hla hsa hlb hsb ih (x:=x) (y:=y) hx.1 hx.2.1 (zcV hx kx) hy.1 hy.2.1 (zcV hy ky) (q:=max cx.length cy.length) (by obtain ⟨_,_,a⟩:=hx;obtain ⟨_,_,b⟩:=hy;omega) (kx:=cx) (ky:=cy) (fun i _=>e3 i) (fun i _=>f3 i)
 have hq:(if y.ptrs>x.ptrs then y.ptrs else x.ptrs)=((max cx.length cy.length:Nat):Int):=by
  obtain ⟨_,_,a⟩:=hx
  obtain ⟨_,_,b⟩:=hy
  split<;>omega
 have wx:=VB hla x (n:=x.data) (by obtain ⟨_,a,_⟩:=hx;omega)
 have wy:=VB hlb y (n:=y.data) (by obtain ⟨_,a,_⟩:=hy;omega)
 have lx:=Zx la x.seg x.at_ x.data
 have ly:=Zx lb y.seg y.at_ y.data
 have dd:=Vv (a:=cutB la x.seg x.at_ x.data) (b:=cutB lb y.seg y.at_ y.data) (by obtain ⟨_,a,_⟩:=hx;omega) (by obtain ⟨_,a,_⟩:=hy;omega)
 have hwx:=(jd hla x.seg x.at_ x.data).2
 have hwy:=(jd hlb y.seg y.at_ y.data).2
 rw[zcL,zcL,zcG hwx,zcG hwy]
 generalize cutB la x.seg x.at_ x.data=ux at *
 generalize cutB lb y.seg y.at_ y.data=uy at *
 have kxv:∀ z∈cx.map zi,VN z:=fun z hz=>by
  obtain ⟨u,hu,rfl⟩:=List.mem_map.1 hz
  exact Vj u ((zcS vx) u hu)
 have kyv:∀ z∈cy.map zi,VN z:=fun z hz=>by
  obtain ⟨u,hu,rfl⟩:=List.mem_map.1 hz
  exact Vj u ((zcS vy) u hu)
 have hcut:=zgU kxv kyv (q:=max cx.length cy.length) (by rw[List.length_map];omega) (by rw[List.length_map];omega)
 rw[Ob.c] at wx wy px
 rw[Ob.c] at px
 rw[Ob.c,Ob.c,zht,wx]
 dsimp only[zl,zt,zm4]
 rw[wy]
 dsimp only[zk]
 rw[dd,hq]
 dsimp only[zk,y4,zm4]
 by_cases hd:xw ux=xw uy
 ·rw[wN hd]
  dsimp only[zc]
  rw[px]
  dsimp only[zk,y4,zm4]
  refine congrArg (fun b=>ok (Bo b)) (gY ?_)
  rw[gL,eqB_true,←hcut,hd]
  simp
 ·have hne:¬(Nd.mk 1 0 0 (zM (xw ux)) ((cx.map zi).take (yo (cx.map zi)))=Nd.mk 1 0 0 (zM (xw uy)) ((cy.map zi).take (yo (cy.map zi)))):=fun h=>hd (rn (fun z hz=>hwx z (List.mem_of_mem_take hz)) (fun z hz=>hwy z (List.mem_of_mem_take hz)) (by injection h))
  rw[wA hd,wA hne]
  rfl
theorem zgL {la lb:List (List Int)} {x y:Ob} {q:Nat} (hq:q<=536870911) (f:Nat->Bool)
  (hx:∀ i:Nat,i<q->ev 238 [.pv (.agg x.c),.pv (I i)] []=ok (.agg (yl x i).c)) (hy:∀ i:Nat,i<q->ev 238 [.pv (.agg y.c),.pv (I i)] []=ok (.agg (yl y i).c))
  (hf:∀ i:Nat,i<q->ev 181 [WX la lb,.pv (.agg (yl x i).c),.pv (.agg (yl y i).c)] []=ok (Bo (f i))):∀ (c i:Nat),i+c=q->(∀ j,j<i->f j=true)->
  Xm q i (zG la) (zG lb) x.kind x.seg x.at_ x.data x.ptrs x.elem x.n x.cost y.kind y.seg y.at_ y.data y.ptrs y.elem y.n y.cost=ok (Bo ((List.range q).all f)):=by
 intro c
 induction c with
 |zero=>
  intro i hi hj
  rw[jI,decide_eq_false (by omega),List.all_eq_true.2 (fun j h=>hj j (by have:=List.mem_range.1 h;omega))]
  rfl
 |succ c ih=>
  intro i hi hj
  have e1:=hx i (by omega)
  have e2:=hy i (by omega)
  have e3:=hf i (by omega)
  rw[Ob.c] at e1 e2
  rw[jI,decide_eq_true (by omega),e1]
  dsimp only[zl,zt,zm4,zc]
  rw[e2]
  dsimp only[zk]
  rw[e3]
  dsimp only[zk,y4,zm4]
  cases hfi:f i with
  |true=>
   dsimp only[vp,zu]
   rw[ze (x:=(i:Int)+1)]
   exact ih (i+1) (by omega) fun j h=>by
    rcases Nat.lt_or_ge j i with h1|h1
    ·exact hj j h1
    ·rw[show j=i by omega];exact hfi
  |false=>
   rw[show (List.range q).all f=false from by
    rw[Bool.eq_false_iff]
    intro h
    have:=List.all_eq_true.1 h i (List.mem_range.2 (by omega))
    rw[hfi] at this;cases this]
   rfl
theorem zaN {l:List (List Int)} {D:Nat} {m:Int} {o:Ob} (h6:¬o.elem<6) (h:(xx (zH l D) l m o).2.2=0):∃ ks,(xx (zH l D) l m o).1=.mk 2 o.elem o.n [] ks/\ks.length=o.n.toNat/\∀ (j:Nat) (hj:j<ks.length),∃ m1,(if o.elem=6 then zH l D m1 o.seg (o.at_+j) else zZ (zH l D) l m1 (yl o j)).2.2=0/\(if o.elem=6 then zH l D m1 o.seg (o.at_+j) else zZ (zH l D) l m1 (yl o j)).1=ks[j]:=by
 unfold xx at h ⊢
 rw[if_neg h6] at h ⊢
 have hz:(zW (fun m (i:Nat)=>if o.elem=6 then zH l D m o.seg (o.at_+i) else zZ (zH l D) l m (yl o i)) o.n.toNat 0 m []).2.2=0:=h
 obtain ⟨ks,e1,e2,e3⟩:=zaI (G:=fun m (i:Nat)=>if o.elem=6 then zH l D m o.seg (o.at_+i) else zZ (zH l D) l m (yl o i)) o.n.toNat 0 m [] hz
 refine ⟨ks,?_,e2,fun j hj=>?_⟩
 ·rw[vX hz]
  dsimp only
  rw[e1,List.nil_append]
 ·have:=e3 j hj
  rw[Nat.zero_add] at this
  exact this
theorem Ko {k e n:Int} (hk:k=2) (d:List Int) (ks:List Nd):zi (.mk k e n d ks)=.mk k e n d (ks.map zi):=by
 rw[zi,if_neg (by omega),xo]
theorem zh1 {a b:List Nd} {q:Nat} (ha:a.length=q) (hb:b.length=q):a=b↔∀ i,i<q->a.getD i nd0=b.getD i nd0:=by
 constructor
 ·intro h i _;rw[h]
 ·intro h
  apply List.ext_getElem (by omega)
  intro i h1 h2
  have:=h i (by omega)
  simp only[List.getD_eq_getElem?_getD,zmS h1,zmS h2,Option.getD_some] at this
  exact this
theorem zcD (x:Nd):(zi x).n=x.n:=by
 cases x with
 |mk k e n d ks=>rw[zi];split<;>rfl
theorem zj7 {o:Ob} (hk:o.kind=2) (h7:o.elem=6):(0<o.n->yY o=o.at_/\wI o=o.n)/\(yY o=o.at_∨yY o=0):=by
 have hA:yY o=if 0<o.n then o.at_ else 0:=by
  unfold yY
  rw[if_neg (fun x=>absurd x.1 (by omega))]
  by_cases h:0<o.n
  ·rw[if_pos ⟨hk,h7,h⟩,if_pos h]
  ·rw[if_neg (fun x=>h x.2.2),if_neg h]
 have hN:wI o=if 0<o.n then o.n else 0:=by
  unfold wI
  rw[if_neg (fun x=>absurd x.1 (by omega))]
  by_cases h:0<o.n
  ·rw[if_pos ⟨hk,h7,h⟩,if_pos h]
  ·rw[if_neg (fun x=>h x.2.2),if_neg h]
 rw[hA,hN]
 by_cases h:0<o.n
 ·rw[if_pos h,if_pos h];exact ⟨fun _=>⟨rfl,rfl⟩,.inl rfl⟩
 ·rw[if_neg h];exact ⟨fun h' => absurd h' h,.inr rfl⟩
theorem zkU {la lb:List (List Int)} (hla:zF la) (hsa:Sm la) (hlb:zF lb) (hsb:Sm lb):∀ D,XY la lb D:=by
 have main:∀ D,(∀ D',D=D'+1->XY la lb D')->XY la lb D:=by
  intro D ih x y nx ny dx dy
  obtain ⟨a1,a2,a3⟩:=jv dx
  obtain ⟨b1,b2,b3⟩:=jv dy
  rw[Ob.c,Ob.c,zhs]
  by_cases hk:x.kind=y.kind
  ·by_cases he:x.elem=y.elem
   ·by_cases hn:x.n=y.n
    ·rw[show (x.kind != y.kind)=false from by simpa using hk,show (x.elem != y.elem)=false from by simpa using he,show (x.n != y.n)=false from by simpa using hn]
     dsimp only[zu]
     by_cases h0:x.kind=0
     ·rw[beq_iff_eq.2 h0]
      have nul:∀ {l:List (List Int)} {o:Ob} {n:Nd},Dn l D o n->o.kind=0->n=nd0:=fun {l o n} h hk0=>by
       rcases h with ⟨_,h⟩|⟨D',_,hok,_⟩
       ·exact h
       ·obtain ⟨_,_,_,_,_,_,hkk,_⟩:=hok;omega
      rw[nul dx h0,nul dy (by omega),wN rfl]
      rfl
     ·rw[beq_eq_false_iff_ne.2 h0]
      rcases dx with ⟨rfl,_⟩|⟨D',hD,okx,npx,_,m,zx,rfl⟩
      ·exact absurd rfl h0
      rcases dy with ⟨rfl,_⟩|⟨D'',hD',oky,npy,_,m',zy,rfl⟩
      ·exact absurd hk h0
      obtain rfl:D' = D'':=by omega
      have ih':=ih D' hD
      obtain ⟨hat,hdt,hq,hel,hnn,hc,hkk,hw,hz⟩:=id okx
      obtain ⟨hat',hdt',hq',hel',hnn',hc',hkk',hw',hz'⟩:=id oky
      unfold V6 at zx zy ⊢
      dsimp only[zu]
      by_cases h1:x.kind=1
      ·rw[beq_iff_eq.2 h1]
       rw[if_pos h1] at zx ⊢
       rw[if_pos (show y.kind=1 by omega)] at zy ⊢
       have:=gx hla hsa hlb hsb ih' (x:=x) (y:=y) ⟨⟨hat.1,by omega⟩,hdt,hq⟩ ⟨⟨hat'.1,by omega⟩,hdt',hq'⟩ h1 (by omega) zx zy
       rw[Ob.c,Ob.c] at this
       dsimp only[zc]
       rw[this]
       rfl
      ·rw[beq_eq_false_iff_ne.2 h1]
       rw[if_neg h1] at zx ⊢
       rw[if_neg (show ¬y.kind=1 by omega)] at zy ⊢
       dsimp only[zu]
       by_cases h6:x.elem<6
       ·rw[beq_eq_false_iff_ne.2 (show x.elem≠7 by omega),beq_eq_false_iff_ne.2 (show x.elem≠6 by omega)]
        dsimp only[zu]
        have h6':y.elem<6:=by omega
        unfold xx
        rw[if_pos h6,if_pos h6']
        dsimp only
        have wx:=VB hla x (n:=x.cost) (by omega)
        have wy:=VB hlb y (n:=y.cost) (by omega)
        have lx:=Zx la x.seg x.at_ x.cost
        have ly:=Zx lb y.seg y.at_ y.cost
        have rx:=VK hnn (hw (by omega) h6) h6
        have ry:=VK hnn' (hw' (by omega) h6') h6'
        rw[Ko rfl,Ko rfl]
        rw[Ob.c] at wx wy
        rw[zhq,wx]
        dsimp only[zk]
        rw[ZQ _ (by omega)]
        dsimp only[zk]
        rw[Vz hel hnn (vl _) rx]
        dsimp only[zl]
        rw[yu]
        dsimp only[zm4]
        rw[wy]
        dsimp only[zk]
        rw[ZQ _ (by omega)]
        dsimp only[zk]
        rw[Vz hel' hnn' (vl _) ry]
        dsimp only[zl]
        rw[yu]
        dsimp only[zm4]
        rw[zdG (Kk _ _ _ (vl _)) (Kk _ _ _ (vl _))]
        dsimp only[zk]
        refine congrArg (fun b=>ok (Bo b)) (Jx ?_)
        rw[he,hn]
        simp
       ·obtain ⟨cx,e1,e2,e3⟩:=zaN h6 zx
        obtain ⟨cy,f1,f2,f3⟩:=zaN (show ¬y.elem<6 by omega) zy
        rw[e1,f1,Ko rfl,Ko rfl]
        have hlen:cx.length=cy.length:=by omega
        have hxn:x.n=((cx.length:Nat):Int):=by omega
        have fin:yU (cx.map zi) (cy.map zi)=yU (Nd.mk 2 x.elem x.n [] (cx.map zi)) (Nd.mk 2 y.elem y.n [] (cy.map zi)):=Jx (by rw[he,hn];simp)
        have getx:∀ i,(h:i<cx.length)->cx.getD i nd0=cx[i]:=fun i h=>by rw[List.getD_eq_getElem?_getD,zmS h,Option.getD_some]
        have gety:∀ i,(h:i<cy.length)->cy.getD i nd0=cy[i]:=fun i h=>by rw[List.getD_eq_getElem?_getD,zmS h,Option.getD_some]
        have res:∀ {e:Option (Out×za)},e=ok (Bo ((List.range cx.length).all fun i=>yU (zi (cx.getD i nd0)) (zi (cy.getD i nd0))))->e=ok (Bo (yU (cx.map zi) (cy.map zi))):=fun {e} h=>by
         rw[h]
         refine congrArg (fun b=>ok (Bo b)) (gY ?_)
         rw[gL,eqB_true,zh1 (q:=cx.length) (by simp) (by simp;omega)]
        rw[←fin]
        by_cases h7:x.elem=7
        ·rw[beq_iff_eq.2 h7]
         dsimp only[zc]
         have mul:∀ (o:Ob) (i:Nat),vY la o∨vY lb o->i<cx.length->0<=(i:Int)*(o.data+o.ptrs)/\(i:Int)*(o.data+o.ptrs)<=536870911*131070:=fun o i ho hi=>by
          have hd:0<=o.data/\o.data<=65535/\0<=o.ptrs/\o.ptrs<=65535:=by
           rcases ho with ho|ho
           ·obtain ⟨_,d,q,_⟩:=ho;omega
           ·obtain ⟨_,d,q,_⟩:=ho;omega
          exact Kd (by omega) (by omega)
         have lp:=zgL (la:=la) (lb:=lb) (x:=x) (y:=y) (q:=cx.length) (by omega) (fun i=>yU (zi (cx.getD i nd0)) (zi (cy.getD i nd0))) (fun i hi=>by have:=mul x i (.inl okx) hi;exact KF x i (by omega) (by omega) (by omega)) (fun i hi=>by have:=mul y i (.inr oky) hi;exact KF y i (by omega) (by omega) (by omega)) (fun i hi=>by
          obtain ⟨m1,g1,g2⟩:=e3 i hi
          obtain ⟨m2,k1,k2⟩:=f3 i (by omega)
          rw[if_neg (by omega)] at g1 g2
          rw[if_neg (by omega)] at k1 k2
          have mx:=mul x i (.inl okx) hi
          have my:=mul y i (.inr oky) hi
          have:=gx hla hsa hlb hsb ih' (x:=yl x i) (y:=yl y i) ⟨⟨by dsimp only[yl];omega,by dsimp only[yl];omega⟩,hdt,hq⟩ ⟨⟨by dsimp only[yl];omega,by dsimp only[yl];omega⟩,hdt',hq'⟩ rfl rfl g1 k1
          rw[g2,k2] at this
          rw[getx i hi,gety i (by omega)]
          exact this) cx.length 0 (by omega) (fun j h=>absurd h (by omega))
         rw[zhp]
         conv=>lhs;rw[show Xm x.n 0=Xm ((cx.length:Nat):Int) ((0:Nat):Int) from by rw[hxn];rfl]
         rw[lp]
         exact res rfl
        ·have h66:x.elem=6:=by omega
         rw[beq_eq_false_iff_ne.2 h7,beq_iff_eq.2 h66]
         dsimp only[zc,zu]
         have hAx:∀ (o:Ob),o.kind=2->o.elem=6->(0<o.n->yY o=o.at_/\wI o=o.n)/\(yY o=o.at_∨yY o=0):=fun o k e=>zj7 k e
         have kx2:x.kind=2:=by omega
         have ky2:y.kind=2:=by omega
         obtain ⟨pa,pb⟩:=hAx x kx2 h66
         obtain ⟨qa,qb⟩:=hAx y ky2 (by omega)
         have lp:=gp (D:=D') hla hsa hlb hsb ih' (x:=x) (y:=y) ⟨hat.1,by omega⟩ hdt (by omega) ⟨hat'.1,by omega⟩ hdt' (by omega) (q:=cx.length) (by omega) (kx:=cx) (ky:=cy) (fun i hi=>by
          obtain ⟨m1,g1,g2⟩:=e3 i hi
          rw[if_pos h66] at g1 g2
          obtain ⟨p1,p2⟩:=pa (by omega)
          rw[getx i hi,←g2]
          unfold vq
          rw[p1,p2,if_neg (by omega)]
          exact V7 hla hsa g1) (fun i hi=>by
          obtain ⟨m1,g1,g2⟩:=f3 i (by omega)
          rw[if_pos (show y.elem=6 by omega)] at g1 g2
          obtain ⟨p1,p2⟩:=qa (by omega)
          rw[gety i (by omega),←g2]
          unfold vq
          rw[p1,p2,if_neg (by omega)]
          exact V7 hlb hsb g1)
         rw[←hxn,Ob.c,Ob.c] at lp
         rw[lp]
         exact res rfl
    ·rw[show (x.kind != y.kind)=false from by simpa using hk,show (x.elem != y.elem)=false from by simpa using he,show (x.n != y.n)=true from by simpa using hn,wA (fun h=>hn (by have:=congrArg Nd.n h;rw[zcD,zcD] at this;omega))]
     rfl
   ·rw[show (x.kind != y.kind)=false from by simpa using hk,show (x.elem != y.elem)=true from by simpa using he,wA (fun h=>he (by have:=congrArg Nd.elem h;rw[qI,qI] at this;omega))]
    rfl
  ·rw[show (x.kind != y.kind)=true from by simpa using hk,wA (fun h=>hk (by have:=congrArg Nd.kind h;rw[YO,YO] at this;omega))]
   rfl
 intro D
 induction D with
 |zero=>exact main 0 fun D' h=>absurd h (by omega)
 |succ D ih=>exact main (D+1) fun D' h=>by rw[show D' = D by omega];exact ih
def W2 (l:List (List Int)):Ob:=if (yz l 0).length=0 then wE else (yn l 0 0).1
theorem gv {l:List (List Int)} (hl:zF l) (hs:Sm l) (h0:0<l.length):ev 112 [.pv (.sl 1 (zG l))] []=ok (.agg (W2 l).c):=by
 rw[zhu,decide_eq_true (show 0<((zG l).length:Int) by rw[W6];omega),zb5 h0]
 dsimp only[zm4,Zb,zm2,yx,zc]
 unfold W2
 by_cases he:(yz l 0).length=0
 ·rw[yj,he,if_pos rfl];rfl
 ·rw[yj,beq_eq_false_iff_ne.2 (show ((yz l 0).length:Int)≠0 by omega),if_neg he,KK hl hs]
  rfl
theorem zbM {l:List (List Int)} (hl:zF l) (hs:Sm l) {d w:Int} (h:(runT l d w).2.2=0):0<l.length/\Dn l d.toNat (W2 l) (runT l d w).1:=by
 by_cases he:Xj l
 ·refine ⟨he.1,?_⟩
  rw[runT,if_pos he]
  exact .inl ⟨by unfold W2;rw[if_pos he.2],rfl⟩
 ·have e1:runT l d w=zH l d.toNat (max w 0) 0 0:=by rw[runT,if_neg he]
  rw[e1] at h ⊢
  have hpos:0<l.length:=by
   by_cases h0:0<l.length
   ·exact h0
   ·exfalso
    have hf:(zV l 0 0).2.2.2=2:=by
     unfold zV
     rw[if_neg (by unfold inB;omega)]
    rw[Xg (by rw[hf];decide),hf] at h
    exact absurd h (by show ¬((2:Int)=0);decide)
  refine ⟨hpos,?_⟩
  unfold W2
  rw[if_neg (fun h' => he ⟨hpos,h'⟩)]
  exact V7 hl hs h
def cE (la lb:List (List Int)) (d w:Int):Int:=if yV la d w=0 then yV lb d w else yV la d w
noncomputable def cB (la lb:List (List Int)) (d w:Int):Bool:=if cE la lb d w=0 then yU (y3 la d w) (y3 lb d w) else false
theorem YV {la lb:List (List Int)} (hla:zF la) (hsa:Sm la) (hlb:zF lb) (hsb:Sm lb) {d w b:Int} (hd:d<=1099511627775) (hw:w<=4611686018427387904):ev 60 [.pv (.sl 1 (zG la)),.pv (.sl 1 (zG lb)),.pv (.agg [I d,I w,I b])] []=ok (.tup [Bo (cB la lb d w),I (cE la lb d w)]):=by
 rw[zhm,zhl,show decide ((0:Int)<2)=true from rfl,show (decide ((0:Int)<=0)&&decide ((0:Int)<(([.sl 1 (zG la),.sl 1 (zG lb)]:List PV).length:Int)))=true from rfl,show ([.sl 1 (zG la),.sl 1 (zG lb)]:List PV)[(0:Int).toNat]? = some (.sl 1 (zG la)) from rfl]
 dsimp only[zm4,Zb,zm2,zc]
 rw[KI hla hsa hd hw]
 dsimp only[zk,z6,zm3,zm2,zm4,z7]
 unfold cB cE
 by_cases ha:yV la d w=0
 ·rw[ha,show ((0:Int) != 0)=false from rfl,if_pos rfl]
  dsimp only[zu]
  rw[show IntKind.wrap .i64 (0+1)=1 from rfl,jG,show decide ((1:Int)<2)=true from rfl,show (decide ((0:Int)<=1)&&decide ((1:Int)<(([.sl 1 (zG la),.sl 1 (zG lb)]:List PV).length:Int)))=true from rfl,show ([.sl 1 (zG la),.sl 1 (zG lb)]:List PV)[(1:Int).toNat]? = some (.sl 1 (zG lb)) from rfl]
  dsimp only[zm4,Zb,zm2,zc]
  rw[KI hlb hsb hd hw]
  dsimp only[zk,z6,zm3,zm2,zm4,z7]
  by_cases hb:yV lb d w=0
  ·obtain ⟨pa,da⟩:=zbM hla hsa ha
   obtain ⟨pb,db⟩:=zbM hlb hsb hb
   rw[hb,show ((0:Int) != 0)=false from rfl,if_pos rfl]
   dsimp only[zu]
   rw[show IntKind.wrap .i64 (1+1)=2 from rfl,jG,show decide ((2:Int)<2)=false from rfl,gv hla hsa pa]
   dsimp only[zk,zu]
   rw[gv hlb hsb pb]
   dsimp only[zk]
   have hs:=zkU hla hsa hlb hsb d.toNat _ _ _ _ da db
   rw[hs,y3,y3,if_pos (show (runT la d w).2.2=0 from ha),if_pos (show (runT lb d w).2.2=0 from hb)]
   rfl
  ·rw[ww hb,if_neg hb]
   rfl
 ·rw[ww ha,if_neg ha,if_neg ha]
  rfl
theorem zca {l:List (List Int)} (h:∀ s∈l,s.length<=300) (hw:∀ s∈l,∀ x∈s,zU x) (hn:l.length<=20):zF l/\Sm l:=by
 refine ⟨⟨by omega,fun s hs=>⟨by have:=h s hs;omega,hw s hs⟩⟩,zb9 fun j hj=>?_⟩
 unfold yz
 rw[zmX,List.getD_eq_getElem?_getD,zmS hj]
 exact h _ (List.getElem_mem hj)
theorem g1:zF [[4294967292]]/\Sm [[4294967292]]:=Zh (by decide) (by intro x hx;simp at hx;unfold zU;omega)
theorem g2:zF [[4294967296,0]]/\Sm [[4294967296,0]]:=Zh (by decide) (by intro x hx;simp at hx;unfold zU;omega)
theorem g3:zF [[0]]/\Sm [[0]]:=Zh (by decide) (by intro x hx;simp at hx;unfold zU;omega)
theorem g4:zF [[3]]/\Sm [[3]]:=Zh (by decide) (by intro x hx;simp at hx;unfold zU;omega)
theorem g5:zF [[7]]/\Sm [[7]]:=Zh (by decide) (by intro x hx;simp at hx;unfold zU;omega)
theorem g6:zF [[4294967298],[4294967296,5]]/\Sm [[4294967298],[4294967296,5]]:=zca (by intro s hs;simp at hs;rcases hs with rfl|rfl<;>decide) (by intro s hs x hx;simp at hs;unfold zU;rcases hs with rfl|rfl<;>(simp at hx;omega)) (by decide)
theorem g7:zF [[8589934596,9,5,0]]/\Sm [[8589934596,9,5,0]]:=Zh (by decide) (by intro x hx;simp at hx;unfold zU;omega)
theorem K3 {la lb:List (List Int)} {d w:Int} {b:Bool} (h:cE la lb d w=0) (hb:yU (y3 la d w) (y3 lb d w)=b):ok (.tup [Bo (cB la lb d w),I (cE la lb d w)])=ok (.tup [Bo b,I 0]):=by rw[cB,if_pos h,h,hb]
theorem ru {la lb:List (List Int)} {d w e:Int} (h:cE la lb d w=e) (he:e≠0):ok (.tup [Bo (cB la lb d w),I (cE la lb d w)])=ok (.tup [Bo false,I e]):=by rw[cB,if_neg (by rw[h];exact he),h]
theorem x1:ev 60 [.pv (.sl 1 [.sl 1 [U 4294967292]]),.pv (.sl 1 [.sl 1 [U 4294967296,U 0]]),.pv (.agg [I 5,I 50,I 0])] []=ok (.tup [Bo true,I 0]):=by
 have h:=YV g1.1 g1.2 g2.1 g2.2 (d:=5) (w:=50) (b:=0) (by decide) (by decide)
 exact h.trans (K3 (by kernel_rfl) (wN (by kernel_rfl)))
theorem x2:ev 60 [.pv (.sl 1 [.sl 1 [U 4294967292]]),.pv (.sl 1 [.sl 1 [U 0]]),.pv (.agg [I 5,I 50,I 0])] []=ok (.tup [Bo false,I 0]):=by
 have h:=YV g1.1 g1.2 g3.1 g3.2 (d:=5) (w:=50) (b:=0) (by decide) (by decide)
 have k1:(y3 [[4294967292]] 5 50).kind=1:=by kernel_rfl
 have k2:(y3 [[0]] 5 50).kind=0:=by kernel_rfl
 exact h.trans (K3 (by kernel_rfl) (wA (fun e=>by rw[e,k2] at k1;exact absurd k1 (by decide))))
theorem x3:ev 60 [.pv (.sl 1 [.sl 1 [U 0]]),.pv (.sl 1 [.sl 1 [U 3]]),.pv (.agg [I 5,I 50,I 0])] []=ok (.tup [Bo false,I 6]):=by
 have h:=YV g3.1 g3.2 g4.1 g4.2 (d:=5) (w:=50) (b:=0) (by decide) (by decide)
 exact h.trans (ru (by kernel_rfl) (by decide))
theorem x4:ev 60 [.pv (.sl 1 [.sl 1 [U 7]]),.pv (.sl 1 [.sl 1 [U 3]]),.pv (.agg [I 5,I 50,I 0])] []=ok (.tup [Bo false,I 4]):=by
 have h:=YV g5.1 g5.2 g4.1 g4.2 (d:=5) (w:=50) (b:=0) (by decide) (by decide)
 exact h.trans (ru (by kernel_rfl) (by decide))
theorem x5:ev 60 [.pv (.sl 1 [.sl 1 [U 4294967298],.sl 1 [U 4294967296,U 5]]),.pv (.sl 1 [.sl 1 [U 8589934596,U 9,U 5,U 0]]),.pv (.agg [I 5,I 50,I 0])] []=ok (.tup [Bo true,I 0]):=by
 have h:=YV g6.1 g6.2 g7.1 g7.2 (d:=5) (w:=50) (b:=0) (by decide) (by decide)
 exact h.trans (K3 (by kernel_rfl) (wN (by kernel_rfl)))
theorem x6:ev 237 [.pv (.sl 1 [U 5,U 0]),.pv (.sl 1 [U 5])] []=ok (Bo true):=by
 have h:=Vv (a:=[5,0]) (b:=[5]) (by decide) (by decide)
 exact h.trans (by rw[wN (by kernel_rfl)])
theorem x7:ev 237 [.pv (.sl 1 [U 5,U 1]),.pv (.sl 1 [U 5])] []=ok (Bo false):=by
 have h:=Vv (a:=[5,1]) (b:=[5]) (by decide) (by decide)
 exact h.trans (by rw[wA (by decide)])
theorem x8:ev 237 [.pv (.sl 1 []),.pv (.sl 1 [U 0])] []=ok (Bo true):=by
 have h:=Vv (a:=[]) (b:=[0]) (by decide) (by decide)
 exact h.trans (by rw[wN (by kernel_rfl)])
theorem k1:zF [[8589934596,99,5,0]]/\Sm [[8589934596,99,5,0]]:=Zh (by decide) (by intro x hx;simp at hx;unfold zU;omega)
theorem k2:zF [[4294967298],[4294967296,5]]/\Sm [[4294967298],[4294967296,5]]:=zca (by intro s hs;simp at hs;rcases hs with rfl|rfl<;>decide) (by intro s hs x hx;simp at hs;unfold zU;rcases hs with rfl|rfl<;>(simp at hx;omega)) (by decide)
theorem k3:zF [[3]]/\Sm [[3]]:=Zh (by decide) (by intro x hx;simp at hx;unfold zU;omega)
theorem k4:zF [[]]/\Sm [[]]:=Zh (by decide) (by intro x hx;cases hx)
theorem zfU {l:List (List Int)} (hl:zF l) (hs:Sm l) {d w:Int} (hw:w<=134217728) (h0:yV l d w=0):zF [xK l d w]/\Sm [xK l d w]/\yV [xK l d w] d w=0/\y3 [xK l d w] d w=y3 l d w/\vN [xK l d w] d w<=vN l d w/\xK [xK l d w] d w=xK l d w/\((xK l d w).length:Int)=zC d.toNat (y3 l d w)+1/\zC d.toNat (y3 l d w)<=vN l d w:=by
 obtain ⟨ho,hb,hx⟩:=QC hl hs hw h0
 obtain ⟨_,hc⟩:=zaV hl hs (show w<=4611686018427387904 by omega) (show (runT l d w).2.2=0 from h0)
 have e3:xK l d w=xi d.toNat (y3 l d w):=by unfold xK;rw[if_pos h0]
 obtain ⟨m1,m2,m3⟩:=zfW ho hb (d:=d) (w:=w) rfl hx
 have hle:=JT d.toNat ho.vn ho.dp
 rw[e3]
 refine ⟨zfR ho (by omega),zfS ho (by omega),m1,m2,by rw[m3];exact hc,?_,Wm ho,by omega⟩
 unfold xK
 rw[if_pos m1,m2]
end Go.Proofs.YtjbjeeoifhegfaaGreatDoor.E
