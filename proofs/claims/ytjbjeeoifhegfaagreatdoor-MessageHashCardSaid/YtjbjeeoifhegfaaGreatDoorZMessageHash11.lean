/- This text is one of those that prove the law MessageHash of the given program, as its statement says it: true on every input that the statement covers. Its conditions are the statement's own. -/
import Derived.Test.YtjbjeeoifhegfaaGreatDoorZMessageHash1
import Derived.Test.YtjbjeeoifhegfaaGreatDoorZMessageHash2
import Derived.Test.YtjbjeeoifhegfaaGreatDoorZMessageHash3
import Derived.Test.YtjbjeeoifhegfaaGreatDoorZMessageHash4
import Derived.Test.YtjbjeeoifhegfaaGreatDoorZMessageHash5
import Derived.Test.YtjbjeeoifhegfaaGreatDoorZMessageHash6
import Derived.Test.YtjbjeeoifhegfaaGreatDoorZMessageHash7
import Derived.Test.YtjbjeeoifhegfaaGreatDoorZMessageHash8
import Derived.Test.YtjbjeeoifhegfaaGreatDoorZMessageHash9
import Derived.Test.YtjbjeeoifhegfaaGreatDoorZMessageHash10
set_option linter.unusedVariables false
set_option linter.unusedSimpArgs false
open List renaming getElem?_cons_zero->zmQ
open List renaming getElem?_cons_succ->zmR
open Option renaming bind_some->zmS
open List renaming length_cons->zmU
namespace Go.Proofs.YtjbjeeoifhegfaaGreatDoor.E
theorem gR {D:Nat} {x:Nd} (h:Ok D x):((body D x).length:Int)=zD D x:=gQ D h.vn h.dp
theorem JS {D:Nat} {t:Nd} (h:Ok D t) (a:Nat) (W:List Int):((vl (body D) a t W).length:Int)=W.length+zD D t:=by
 unfold vl
 split
 ·rename_i h0
  rw[XA h.vn h0,Int.add_zero]
 ·rw[List.length_append,List.length_set,←gR h]
  push_cast
  rfl
theorem zbQ {D:Nat}:∀ (l:List (Nat×Nd)) (W:List Int),(∀ p∈l,Ok D p.2)->((xm (body D) l W).length:Int)=W.length+zo (l.map fun p=>zD D p.2)
 |[],W,_=>by simp[xm,ww]
 |(a,t)::r,W,h=>by
  rw[xm,zbQ r _ (fun p hp=>h p (List.mem_cons_of_mem _ hp)),JS (h (a,t) List.mem_cons_self),List.map_cons,wc]
  dsimp only
  omega
theorem zbq:∀ (q:List Nd) (i:Nat) (p:Nat×Nd),p∈xg i q->p.2∈q
 |[],i,p,h=>by cases h
 |t::r,i,p,h=>by
  rw[xg] at h
  rcases List.mem_cons.1 h with rfl|h
  ·exact List.mem_cons_self
  ·exact List.mem_cons_of_mem _ (zbq r _ p h)
theorem zbr (f:Nd->Int):∀ (q:List Nd) (i:Nat),zo ((xg i q).map fun p=>f p.2)=zo (q.map f)
 |[],i=>rfl
 |t::r,i=>by rw[xg,List.map_cons,List.map_cons,wc,wc,zbr f r]
theorem Vh (L:List Int) (i:Nat) (w:Int):(ws L).set i (U w)=ws (L.set i w):=by simp[ws,List.map_set]
def Y2 (D:Nat) (t:Nd):Prop:=∀ (W:List Int) (a:Nat),a<W.length->(W.length:Int)+zD D t<=268435456->ev 228 [.ptr 0 0,.pv (I (a:Int)),.pv t.x] (wh W)=some (.ret (.pv (.tup [])),wh (vl (body D) a t W))
theorem zbj {D:Nat} {t:Nd} (h:t.kind=0):Y2 D t:=fun W a ha hl=>by
 unfold wh vl
 rw[Nd.x,Wp,beq_iff_eq.2 h,if_pos h]
 rfl
section
variable {D:Nat} {q:List Nd} (hq:q.length<=268435456) (hP:∀ t∈q,Y2 D t) (hO:∀ t∈q,Ok D t) (xs0:List PV) (p2:PV) (i3 i4 i9 i10 i11:Int) (xs12 xs13:List PV) (p14:PV) (i15:Int) (p16 p17 p18 p19 p20 p21 p22 p23:PV) {f:Nat}
include hq hP hO
theorem zdg:∀ (c j:Nat) (W:List Int),j+c=q.length->f+q.length<=W.length->(W.length:Int)+zo ((q.drop j).map (zD D))<=268435456->
  VL xs0 (I (f:Int)) p2 i3 i4 (.sl 5 (zI q)) q.length j (ws W) i9 i10 i11 xs12 xs13 p14 i15 p16 p17 p18 p19 p20 p21 p22 p23=Zc xs0 p2 i3 (IntKind.wrap .i64 (i4+1)) (ws (xm (body D) (xg (f+j) (q.drop j)) W)) i9 i10 i11 xs12 xs13 p14 i15 p16 p17 p18 p19 p20 p21 p22 p23:=by
 intro c
 induction c with
 |zero=>
  intro j W hj hf hl
  rw[rG,decide_eq_false (by omega),List.drop_eq_nil_of_le (by omega)]
  rfl
 |succ c ih=>
  intro j W hj hf hl
  have hjl:j<q.length:=by omega
  have ho:=hO _ (List.getElem_mem hjl)
  rw[Xn hjl] at hl
  have hnn:=xP D ho.vn
  have hr:0<=zo ((q.drop (j+1)).map (zD D)):=we fun y hy=>by
   obtain ⟨t,ht,rfl⟩:=List.mem_map.1 hy
   exact xP D (hO t (List.mem_of_mem_drop ht)).vn
  have h1:=hP _ (List.getElem_mem hjl) W (f+j) (by omega) (by omega)
  have hlen:=JS ho (f+j) W
  unfold wh at h1
  dsimp only[Nd.x] at h1
  rw[rG,decide_eq_true (show (j:Int)<(q.length:Int) by omega)]
  dsimp only[yC,z6,zmS,zc]
  rw[decide_eq_true (show (5:Nat)=5 from rfl),decide_eq_true (show 0<=(j:Int) by omega),decide_eq_true (show (j:Int)<((zI q).length:Int) by simp;omega)]
  dsimp only[zr,zc]
  rw[Int.toNat_natCast,vU hjl]
  dsimp only[zmS]
  rw[ZE,Ya,show (q[j].c.drop 0).take 5=q[j].c from rfl]
  dsimp only[Nd.c,zmQ,zmR,zmS,wl,zr,yM,zc]
  rw[zh (x:=(f:Int)+j) (by omega),show (f:Int)+j=((f+j:Nat):Int) by push_cast;rfl,h1]
  dsimp only[ze,zmQ,yD,zg,zmS,zc,wO]
  rw[yE,zh (x:=(j:Int)+1) (by omega)]
  dsimp only[zmS]
  have:=ih (j+1) (vl (body D) (f+j) q[j] W) (by omega) (by omega) (by omega)
  rw[List.drop_eq_getElem_cons hjl,xg,xm]
  exact this
theorem zdh:∀ (c j:Nat) (W:List Int),j+c=q.length->f+q.length<=W.length->(W.length:Int)+zo ((q.drop j).map (zD D))<=268435456->
  VM xs0 (I (f:Int)) p2 i3 i4 (.sl 5 (zI q)) q.length j (ws W) i9 i10 i11 xs12 xs13 p14 i15 p16 p17 p18 p19 p20 p21 p22 p23=Yx xs0 p2 i3 (IntKind.wrap .i64 (i4+1)) (ws (xm (body D) (xg (f+j) (q.drop j)) W)) i9 i10 i11 xs12 xs13 p14 i15 p16 p17 p18 p19 p20 p21 p22 p23:=by
 intro c
 induction c with
 |zero=>
  intro j W hj hf hl
  rw[rH,decide_eq_false (by omega),List.drop_eq_nil_of_le (by omega)]
  rfl
 |succ c ih=>
  intro j W hj hf hl
  have hjl:j<q.length:=by omega
  have ho:=hO _ (List.getElem_mem hjl)
  rw[Xn hjl] at hl
  have hnn:=xP D ho.vn
  have hr:0<=zo ((q.drop (j+1)).map (zD D)):=we fun y hy=>by
   obtain ⟨t,ht,rfl⟩:=List.mem_map.1 hy
   exact xP D (hO t (List.mem_of_mem_drop ht)).vn
  have h1:=hP _ (List.getElem_mem hjl) W (f+j) (by omega) (by omega)
  have hlen:=JS ho (f+j) W
  unfold wh at h1
  dsimp only[Nd.x] at h1
  rw[rH,decide_eq_true (show (j:Int)<(q.length:Int) by omega)]
  dsimp only[yC,z6,zmS,zc]
  rw[decide_eq_true (show (5:Nat)=5 from rfl),decide_eq_true (show 0<=(j:Int) by omega),decide_eq_true (show (j:Int)<((zI q).length:Int) by simp;omega)]
  dsimp only[zr,zc]
  rw[Int.toNat_natCast,vU hjl]
  dsimp only[zmS]
  rw[ZE,Ya,show (q[j].c.drop 0).take 5=q[j].c from rfl]
  dsimp only[Nd.c,zmQ,zmR,zmS,wl,zr,yM,zc]
  rw[zh (x:=(f:Int)+j) (by omega),show (f:Int)+j=((f+j:Nat):Int) by push_cast;rfl,h1]
  dsimp only[ze,zmQ,yD,zg,zmS,zc,wO]
  rw[yE,zh (x:=(j:Int)+1) (by omega)]
  dsimp only[zmS]
  have:=ih (j+1) (vl (body D) (f+j) q[j] W) (by omega) (by omega) (by omega)
  rw[List.drop_eq_getElem_cons hjl,xg,xm]
  exact this
end
theorem um {D:Nat} {x:Nd} (hq:x.kids.length<=268435456) (hP:∀ t∈x.kids,Y2 D t) (hO:∀ t∈x.kids,Ok D t) (i9 i10 i11:Int) (xs12 xs13:List PV) (p14:PV) (i15:Int) (p16 p17 p18 p19 p20 p21 p22 p23:PV) {f:Nat} {W:List Int} (hf:f+x.kids.length<=W.length) (hl:(W.length:Int)+zo (x.kids.map (zD D))<=268435456) :
  Zc [.agg [I x.kind,I x.elem,I x.n,.sl 1 (bs x.data),.sl 5 (zI x.kids)]] (.sl 1 [I (f:Int)]) 1 0 (ws W) i9 i10 i11 xs12 xs13 p14 i15 p16 p17 p18 p19 p20 p21 p22 p23=some (.ret (.pv (.tup [])),wh (xm (body D) (xg f x.kids) W)):=by
 have h:=zdg hq hP hO [.agg [I x.kind,I x.elem,I x.n,.sl 1 (bs x.data),.sl 5 (zI x.kids)]] (.sl 1 [I (f:Int)]) 1 0 i9 i10 i11 xs12 xs13 p14 i15 p16 p17 p18 p19 p20 p21 p22 p23 (f:=f) x.kids.length 0 W (by omega) hf (by rw[List.drop_zero];exact hl)
 rw[KV,decide_eq_true (show (0:Int)<1 by decide)]
 dsimp only[yC,zmS,zc]
 rw[decide_eq_true (show (1:Nat)=1 from rfl),decide_eq_true (show (0:Int)<=0 by decide),decide_eq_true (show (0:Int)<(([I (f:Int)]:List PV).length:Int) by simp),decide_eq_true (show (0:Int)<(([.agg [I x.kind,I x.elem,I x.n,.sl 1 (bs x.data),.sl 5 (zI x.kids)]]:List PV).length:Int) by simp),show (0:Int).toNat=0 from rfl]
 dsimp only[zr,zmQ,zmS,xA,zmR,yC,zc,ym]
 rw[wT]
 refine (show _=_ from h).trans ?_
 rw[KV,show IntKind.wrap .i64 (0+1)=1 from rfl,decide_eq_false (by decide),List.drop_zero,Nat.add_zero]
 rfl
theorem zdf {D:Nat} {ks:List Nd} {a b s:Nat} (hq:ks.length<=536870911) (hk:∀ k∈ks,k.kids.length<=b) (hP:∀ k∈ks,∀ t∈k.kids,Y2 D t) (hO:∀ k∈ks,∀ t∈k.kids,Ok D t) (i9 i10 i11:Int) (xs12 xs13:List PV) (p14:PV) (i15:Int) (p16 p17 p18 p19 p20 p21 p22 p23:PV) (hb:b<=65535):∀ (c i:Nat) (W:List Int),i+c=ks.length->s+ks.length*(a+b)<=W.length->(W.length:Int)+zo ((ks.drop i).map fun k=>zo (k.kids.map (zD D)))<=268435456->
  Yx (zI ks) (.sl 1 ((List.range ks.length).map fun j=>I ((s+j*(a+b)+a:Nat):Int))) ks.length i (ws W) i9 i10 i11 xs12 xs13 p14 i15 p16 p17 p18 p19 p20 p21 p22 p23=some (.ret (.pv (.tup [])),wh (xm (body D) (ZJ a (a+b) (s+i*(a+b)) (ks.drop i)) W)):=by
 intro c
 induction c with
 |zero=>
  intro i W hi hs hl
  rw[rF,decide_eq_false (by omega),List.drop_eq_nil_of_le (by omega)]
  rfl
 |succ c ih=>
  intro i W hi hs hl
  have hil:i<ks.length:=by omega
  have hmem:=List.getElem_mem hil
  have hmul:i*(a+b)+(a+b)<=ks.length*(a+b):=by
   have:=Nat.mul_le_mul_right (a+b) (show i+1<=ks.length by omega)
   rw[Nat.add_mul,Nat.one_mul] at this
   exact this
  have nn:∀ k∈ks,0<=zo (k.kids.map (zD D)):=fun k hk=>we fun y hy=>by
   obtain ⟨t,ht,rfl⟩:=List.mem_map.1 hy
   exact xP D (hO k hk t ht).vn
  rw[Xn hil] at hl
  have hr:0<=zo ((ks.drop (i+1)).map fun k=>zo (k.kids.map (zD D))):=we fun y hy=>by
   obtain ⟨t,ht,rfl⟩:=List.mem_map.1 hy
   exact nn t (List.mem_of_mem_drop ht)
  have hkb:=hk _ hmem
  have h:=zdh (q:=ks[i].kids) (by omega) (hP _ hmem) (hO _ hmem) (zI ks) (.sl 1 ((List.range ks.length).map fun j=>I ((s+j*(a+b)+a:Nat):Int))) ks.length i i9 i10 i11 xs12 xs13 p14 i15 p16 p17 p18 p19 p20 p21 p22 p23 (f:=s+i*(a+b)+a) ks[i].kids.length 0 W (by omega) (by omega) (by rw[List.drop_zero];omega)
  rw[rF,decide_eq_true (show (i:Int)<(ks.length:Int) by omega)]
  dsimp only[yC,zmS,zc]
  rw[decide_eq_true (show (1:Nat)=1 from rfl),decide_eq_true (show (0:Int)<=i by omega),decide_eq_true (show (i:Int)<(((List.range ks.length).map fun j=>I ((s+j*(a+b)+a:Nat):Int)).length:Int) by simp;omega),decide_eq_true (show (i:Int)<((zI ks).length:Int) by simp;omega),Int.toNat_natCast,List.getElem?_map,List.getElem?_range hil,vU hil]
  dsimp only[zr,Option.map_some,zmS,zc,ym,zmQ]
  rw[Ya]
  dsimp only[Nd.c,zmR,zmQ,zmS,yC]
  rw[wT]
  refine (show _=_ from h).trans ?_
  rw[zh (x:=(i:Int)+1) (by omega),List.drop_zero,Nat.add_zero]
  have hsum:=zbr (zD D) ks[i].kids (s+i*(a+b)+a)
  have hlen:=zbQ (xg (s+i*(a+b)+a) ks[i].kids) W (fun p hp=>hO _ hmem p.2 (zbq _ _ p hp))
  rw[hsum] at hlen
  have h0:=nn _ hmem
  have:=ih (i+1) (xm (body D) (xg (s+i*(a+b)+a) ks[i].kids) W) (by omega) (by omega) (by omega)
  rw[show s+(i+1)*(a+b)=s+i*(a+b)+(a+b) by rw[Nat.add_mul,Nat.one_mul];omega] at this
  refine (show _=_ from this).trans ?_
  rw[List.drop_eq_getElem_cons hil,ZJ,J4]
theorem zhm (o d q:Int):xk [false,false,false,false,false,false,true,false,false,false] [I 0,I o,I d,I q,I 0,I 0,Bo false,I 0,yO 0,yO 0] [I 0,I o,I 0,I 0,I 0,I 0,Bo false,I 0,yO 0,yO 0]=some ((d==0)&&(q==0)):=by
 simp[xk]
theorem Jj (o e c:Int):xk [false,false,false,false,false,false,true,false,false,false] [I 1,I o,I 0,I 0,I e,I c,Bo false,I 0,yO 0,yO 0] [I 0,I o,I 0,I 0,I 0,I 0,Bo false,I 0,yO 0,yO 0]=some false:=by
 simp[xk]
theorem zka {L:List Int} {a:Nat} (ha:a<L.length) (w:Int):∃ y,(ws L)[a]? = some (U y):=⟨L[a],Yq ha⟩
theorem zlc {D:Nat} {x:Nd} (h:Ok (D+1) x) (h0:x.kind≠0):0<=zo ((z9 x).map (zD D)):=we fun y hy=>by
 obtain ⟨t,ht,rfl⟩:=List.mem_map.1 hy
 exact xP D (Qz h h0 t ht).vn
theorem zbi:∀ (D:Nat) (x:Nd),Ok D x->Y2 D x
 |0,x,h=>zbj h.dp
 |D+1,x,h=>by
  by_cases h0:x.kind=0
  ·exact zbj h0
  ·intro W a ha hl
   have hT:=Qz h h0
   have hP:∀ t∈z9 x,Y2 D t:=fun t ht=>zbi D t (hT t ht)
   have hsn:=zlc h h0
   have hon:=XC h.vn
   rw[zD] at hl
   rw[zjF h.vn h0 ha]
   have hsl:=zkZ (B:=body D) h.vn h0
   have hol:=za0 (body D) h.vn h0
   have hWl:(W++vW x).length=W.length+(xy (body D) x).length:=by rw[List.length_append,hsl]
   obtain ⟨hs,hkk⟩:=wX h.vn
   have hal:a<(W++vW x).length:=by omega
   obtain ⟨y0,hy0⟩:=zka hal 0
   rcases hs with hs|hs|hs
   ·exact absurd hs.1 h0
   ·obtain ⟨d,ks,rfl,g1,g2,g3,g4,g5,g6⟩:=YS h.vn h.tr h.gd hs.1
    have et:z9 (.mk 1 0 0 d ks)=ks:=rfl
    rw[et] at hT hP hl hsn
    have ew:vW (.mk 1 0 0 d ks)=zN (d.length/8) d++List.replicate ks.length 0:=rfl
    have ep:XL (.mk 1 0 0 d ks) W.length=xg (W.length+d.length/8) ks:=rfl
    have eo:yB (.mk 1 0 0 d ks)=((d.length/8+ks.length:Nat):Int):=rfl
    rw[ew] at hal hWl hy0 ⊢
    rw[eo] at hol hl
    rw[ep]
    have hst:=zei (W:=W) g3 g4 g5 g6 (by omega) 0 0 (ks:=ks)
    have hloop:∀ (w:Int) (p14:PV) (i15:Int) (p16 p17 p18 p19 p20 p21 p22 p23:PV),Zc [.agg [I 1,I 0,I 0,.sl 1 (bs d),.sl 5 (zI ks)]] (.sl 1 [I ((W.length+d.length/8:Nat):Int)]) 1 0 (ws ((W++(zN (d.length/8) d++List.replicate ks.length 0)).set a w)) 1 0 0 (bs d) (zI ks) p14 i15 p16 p17 p18 p19 p20 p21 p22 p23=some (.ret (.pv (.tup [])),wh (xm (body D) (xg (W.length+d.length/8) ks) ((W++(zN (d.length/8) d++List.replicate ks.length 0)).set a w))):=fun w p14 i15 p16 p17 p18 p19 p20 p21 p22 p23=>
     um (x:=.mk 1 0 0 d ks) (by show ks.length<=_;omega) hP hT 1 0 0 (bs d) (zI ks) p14 i15 p16 p17 p18 p19 p20 p21 p22 p23 (by rw[List.length_set,hWl];show _+ks.length<=_;omega) (by rw[List.length_set,hWl];show _+zo (ks.map (zD D))<=_;push_cast;omega)
    unfold wh at hst hloop ⊢
    show ev 228 [.ptr 0 0,.pv (I (a:Int)),.pv (.agg [I 1,I 0,I 0,.sl 1 (bs d),.sl 5 (zI ks)])] _=_
    rw[Wp,show ((1:Int)==0)=false from rfl,show ((1:Int)==1)=true from rfl,hst]
    dsimp only[uo,ze,zmQ,yD,zg,zmS,z4,zmR,yC,xA,yM,zr,zc,wO,zu]
    rw[yE,yl,zh (x:=(W.length:Int)-a) (by omega),zh (x:=(W.length:Int)-a-1) (by omega),zhm]
    dsimp only[zmS]
    by_cases hz:d.length/8=0/\ks.length=0
    ·have hE:=Ku (off:=-1) (d:=d.length/8) (q:=ks.length) (by decide) (by omega) g6
     have e1:yK (.mk 1 0 0 d ks) ((W.length:Int)-a-1)=ya (-1) (d.length/8) ks.length:=by
      show (if (1:Int)=0 then 0 else if (1:Int)=1 then (if d.length/8=0/\ks.length=0 then ya (-1) 0 0 else _) else _)=_
      rw[if_neg (by decide),if_pos rfl,if_pos hz,hz.1,hz.2]
     rw[e1,show (((d.length/8:Nat):Int)==0)=true from by simp[hz.1],show ((ks.length:Int)==0)=true from by simp[hz.2]]
     dsimp only[zr,zc]
     rw[hE]
     dsimp only[ze,zg,zmS,z4,zmR,zmQ,yM,zr,zc]
     rw[decide_eq_true (show 0<=(a:Int) by omega),decide_eq_true (show (a:Int)<((ws (W++(zN (d.length/8) d++List.replicate ks.length 0))).length:Int) by rw[yl];omega),Int.toNat_natCast,hy0]
     dsimp only[zmU,List.length_nil,zr,setCells,zmS,ym,zc]
     rw[Vh]
     exact hloop _ _ _ _ _ _ _ _ _ _ _
    ·have hE:=Ku (off:=(W.length:Int)-a-1) (d:=d.length/8) (q:=ks.length) (by omega) (by omega) g6
     have e1:yK (.mk 1 0 0 d ks) ((W.length:Int)-a-1)=ya ((W.length:Int)-a-1) (d.length/8) ks.length:=by
      show (if (1:Int)=0 then 0 else if (1:Int)=1 then (if d.length/8=0/\ks.length=0 then _ else ya ((W.length:Int)-a-1) (d.length/8) ks.length) else _)=_
      rw[if_neg (by decide),if_pos rfl,if_neg hz]
     have e2:((((d.length/8:Nat):Int)==0)&&((ks.length:Int)==0))=false:=by
      rw[Bool.and_eq_false_iff]
      by_cases h1:d.length/8=0
      ·right;exact beq_eq_false_iff_ne.2 (fun h2=>hz ⟨h1,by omega⟩)
      ·left;exact beq_eq_false_iff_ne.2 (fun h2=>h1 (by omega))
     rw[e1,e2]
     dsimp only[zu]
     rw[hE]
     dsimp only[ze,zg,zmS,z4,zmR,zmQ,yM,zr,zc]
     rw[decide_eq_true (show 0<=(a:Int) by omega),decide_eq_true (show (a:Int)<((ws (W++(zN (d.length/8) d++List.replicate ks.length 0))).length:Int) by rw[yl];omega),Int.toNat_natCast,hy0]
     dsimp only[zmU,List.length_nil,zr,setCells,zmS,ym,zc]
     rw[Vh]
     exact hloop _ _ _ _ _ _ _ _ _ _ _
   ·cases x with
    |mk k e n d ks=>
     obtain ⟨k2,hn,he,h6,hl6⟩:=hs
     have k2':k=2:=k2
     subst k2'
     have hn':0<=n/\n<=536870911:=hn
     have he':0<=e/\e<=7:=he
     have hg:=h.gd
     rw[yt] at hg
     by_cases e7:e=7
     ·subst e7
      obtain ⟨a1,a2⟩:=h6 (show (6:Int)<=7 by decide)
      obtain rfl:d=[]:=List.length_eq_zero_iff.1 a1
      have a2':(ks.length:Int)=n:=a2
      have hst:∀ k∈ks,k.kind=1:=by
       cases h.vn with
       |mk v1 v2 v3=>exact v2 rfl rfl
      have htr:∀ k∈ks,TrN k:=by
       cases h.tr with
       |mk t1 t2=>exact t2
      have hparts:∀ k∈ks,(∀ x∈k.data,zm x)/\k.data.length%8=0/\k.data.length<=524280/\k.kids.length<=65535:=fun k hk=>by
       obtain ⟨d,q,rfl,g1,g2,g3,g4,g5,g6⟩:=YS (hkk k hk) (htr k hk) (goods_iff.1 hg.2 k hk) (hst k hk)
       exact ⟨g3,g4,g5,g6⟩
      have et:z9 (.mk 2 7 n [] ks)=ks.flatMap Nd.kids:=rfl
      rw[et] at hT hP hl hsn
      rw[W6] at hl hsn
      have ew:vW (.mk 2 7 n [] ks)=ya n (zn ks) (zq ks)::els (zn ks) (zq ks) ks:=rfl
      have ep:XL (.mk 2 7 n [] ks) W.length=ZJ (zn ks) (zn ks+zq ks) (W.length+1) ks:=rfl
      have eo:yB (.mk 2 7 n [] ks)=1+n*((zn ks+zq ks:Nat):Int):=rfl
      have hnu:n*((zn ks+zq ks:Nat):Int)=((ks.length*(zn ks+zq ks):Nat):Int):=by rw[←a2'];push_cast;rfl
      rw[eo,hnu] at hol hl
      rw[ew] at hal hWl hy0 ⊢
      rw[ep]
      have hud:zn ks<=65535:=YT fun x hx=>by have:=(hparts x hx).2.2.1;omega
      have huq:zq ks<=65535:=YU fun x hx=>(hparts x hx).2.2.2
      have hkl2:ks.length<=536870911:=by omega
      have hst':=zef (W:=W) (n:=n) (ks:=ks) hn' a2' hparts (by omega)
      have hE:=uw (off:=(W.length:Int)-a-1) (e:=7) (c:=((ks.length*(zn ks+zq ks):Nat):Int)) (by omega) (by decide) (by omega)
      have e1:yK (.mk 2 7 n [] ks) ((W.length:Int)-a-1)=yv ((W.length:Int)-a-1) 7 ((ks.length*(zn ks+zq ks):Nat):Int):=by rw[←hnu];rfl
      have hloop:∀ (w:Int) (p14:PV) (i15:Int) (p16 p17 p18 p19 p20 p21 p22 p23:PV),Yx (zI ks) (.sl 1 ((List.range ks.length).map fun j=>I ((W.length+1+j*(zn ks+zq ks)+zn ks:Nat):Int))) ks.length 0 (ws ((W++(ya n (zn ks) (zq ks)::els (zn ks) (zq ks) ks)).set a w)) 2 7 n [] (zI ks) p14 i15 p16 p17 p18 p19 p20 p21 p22 p23=some (.ret (.pv (.tup [])),wh (xm (body D) (ZJ (zn ks) (zn ks+zq ks) (W.length+1) ks) ((W++(ya n (zn ks) (zq ks)::els (zn ks) (zq ks) ks)).set a w))):=fun w p14 i15 p16 p17 p18 p19 p20 p21 p22 p23=>by
       have:=zdf (D:=D) (ks:=ks) (a:=zn ks) (b:=zq ks) (s:=W.length+1) hkl2 (fun k hk=>YV hk) (fun k hk t ht=>hP t (List.mem_flatMap.2 ⟨k,hk,ht⟩)) (fun k hk t ht=>hT t (List.mem_flatMap.2 ⟨k,hk,ht⟩)) 2 7 n [] (zI ks) p14 i15 p16 p17 p18 p19 p20 p21 p22 p23 huq ks.length 0 ((W++(ya n (zn ks) (zq ks)::els (zn ks) (zq ks) ks)).set a w) (by omega) (by rw[List.length_set,hWl];omega) (by rw[List.length_set,hWl,List.drop_zero];push_cast;omega)
       rw[List.drop_zero,Nat.zero_mul,Nat.add_zero] at this
       exact this
      unfold wh at hst' hloop ⊢
      show ev 228 [.ptr 0 0,.pv (I (a:Int)),.pv (.agg [I 2,I 7,I n,.sl 1 [],.sl 5 (zI ks)])] _=_
      rw[Wp,show ((2:Int)==0)=false from rfl,show ((2:Int)==1)=false from rfl,show ((7:Int)==7)=true from rfl,hst']
      dsimp only[Yt,ze,zmQ,yD,zg,zmS,z4,zmR,yC,xA,yM,zr,zc,wO,zu]
      rw[yE,yl,zh (x:=(W.length:Int)-a) (by omega),zh (x:=(W.length:Int)-a-1) (by omega),Jj]
      dsimp only[zmS,zu]
      rw[e1,hnu,hE]
      dsimp only[ze,zg,zmS,z4,zmR,zmQ,yM,zr,zc]
      rw[decide_eq_true (show 0<=(a:Int) by omega),decide_eq_true (show (a:Int)<((ws (W++(ya n (zn ks) (zq ks)::els (zn ks) (zq ks) ks))).length:Int) by rw[yl];omega),Int.toNat_natCast,hy0]
      dsimp only[zmU,List.length_nil,zr,setCells,zmS,ym,zc]
      rw[Vh,List.length_map,List.length_range]
      exact hloop _ _ _ _ _ _ _ _ _ _ _
     ·have et:z9 (.mk 2 e n d ks)=ks:=by
       show (if (2:Int)=2/\e=7 then _ else ks)=_
       rw[if_neg (fun h=>e7 h.2)]
      have eo:yB (.mk 2 e n d ks)=zs e n:=by
       unfold yB
       show (if (2:Int)=0 then 0 else if (2:Int)=1 then _ else if e=7 then _ else zs e n)=_
       rw[if_neg (by decide),if_neg (by decide),if_neg e7]
      rw[et] at hT hP hl hsn
      have ep:XL (.mk 2 e n d ks) W.length=xg W.length ks:=by
       show (if (2:Int)=1 then _ else if e=7 then _ else xg W.length ks)=_
       rw[if_neg (by decide),if_neg e7]
      have e1:yK (.mk 2 e n d ks) ((W.length:Int)-a-1)=yv ((W.length:Int)-a-1) e n:=by
       show (if (2:Int)=0 then 0 else if (2:Int)=1 then _ else if e=7 then _ else yv ((W.length:Int)-a-1) e n)=_
       rw[if_neg (by decide),if_neg (by decide),if_neg e7]
      have hE:=uw (off:=(W.length:Int)-a-1) (e:=e) (c:=n) (by omega) he' hn'
      rw[ep,e1]
      rw[eo] at hol hl
      by_cases e6:e=6
      ·subst e6
       obtain ⟨a1,a2⟩:=h6 (show (6:Int)<=6 by decide)
       obtain rfl:d=[]:=List.length_eq_zero_iff.1 a1
       have a2':(ks.length:Int)=n:=a2
       have hw6:zs 6 n=n:=by unfold zs bitsOf;simp;omega
       rw[hw6] at hol hl
       have ew:vW (.mk 2 6 n [] ks)=List.replicate ks.length 0:=rfl
       rw[ew] at hal hWl hy0 ⊢
       have hst':=zeh (W:=W) (ks:=ks) (n:=ks.length) (by omega) (by omega) (bs [])
       rw[a2'] at hst'
       have hloop:∀ (w:Int) (p14:PV) (i15:Int) (p16 p17 p18 p19 p20 p21 p22 p23:PV),Zc [.agg [I 2,I 6,I n,.sl 1 (bs []),.sl 5 (zI ks)]] (.sl 1 [I (W.length:Int)]) 1 0 (ws ((W++List.replicate ks.length 0).set a w)) 2 6 n (bs []) (zI ks) p14 i15 p16 p17 p18 p19 p20 p21 p22 p23=some (.ret (.pv (.tup [])),wh (xm (body D) (xg W.length ks) ((W++List.replicate ks.length 0).set a w))):=fun w p14 i15 p16 p17 p18 p19 p20 p21 p22 p23=>
        um (x:=.mk 2 6 n [] ks) (by show ks.length<=_;omega) hP hT 2 6 n (bs []) (zI ks) p14 i15 p16 p17 p18 p19 p20 p21 p22 p23 (by rw[List.length_set,hWl];show _+ks.length<=_;omega) (by rw[List.length_set,hWl];show _+zo (ks.map (zD D))<=_;push_cast;omega)
       unfold wh at hst' hloop ⊢
       show ev 228 [.ptr 0 0,.pv (I (a:Int)),.pv (.agg [I 2,I 6,I n,.sl 1 (bs []),.sl 5 (zI ks)])] _=_
       rw[Wp,show ((2:Int)==0)=false from rfl,show ((2:Int)==1)=false from rfl,show ((6:Int)==7)=false from rfl,hst']
       dsimp only[Yt,ze,zmQ,yD,zg,zmS,z4,zmR,yC,xA,yM,zr,zc,wO,zu]
       rw[yE,yl,zh (x:=(W.length:Int)-a) (by omega),zh (x:=(W.length:Int)-a-1) (by omega),Jj]
       dsimp only[zmS,zu]
       rw[hE]
       dsimp only[ze,zg,zmS,z4,zmR,zmQ,yM,zr,zc]
       rw[decide_eq_true (show 0<=(a:Int) by omega),decide_eq_true (show (a:Int)<((ws (W++List.replicate ks.length 0)).length:Int) by rw[yl];omega),Int.toNat_natCast,hy0]
       dsimp only[zmU,List.length_nil,zr,setCells,zmS,ym,zc]
       rw[Vh]
       exact hloop _ _ _ _ _ _ _ _ _ _ _
      ·obtain ⟨b1,b2,b3⟩:=hl6 (show e<6 by omega)
       obtain rfl:ks=[]:=List.length_eq_zero_iff.1 b1
       have b2':(d.length:Int)=z5 e n:=b2
       have hwr:=ZT (e:=e) hn'
       have ew:vW (.mk 2 e n d [])=zN (zs e n).toNat d:=by
        show (if (2:Int)=1 then _ else if e=7 then _ else if e=6 then _ else zN (zs e n).toNat d)=_
        rw[if_neg (by decide),if_neg e7,if_neg e6]
       rw[ew] at hal hWl hy0 ⊢
       have hO:=uB h.gd h.vn (by rw[eo];omega) (by show 0+0<=_;decide)
       rw[eo] at hO
       have hst':=zeg (W:=W) (ks:=[]) ⟨he'.1,by omega⟩ hn' hg.1.2.1 b2' (by simp only[List.map_nil,ww] at hl;omega) (by omega) hO
       unfold wh at hst' ⊢
       show ev 228 [.ptr 0 0,.pv (I (a:Int)),.pv (.agg [I 2,I e,I n,.sl 1 (bs d),.sl 5 (zI [])])] _=_
       rw[Wp,show ((2:Int)==0)=false from rfl,show ((2:Int)==1)=false from rfl,beq_eq_false_iff_ne.2 e7,hst']
       dsimp only[Yt,ze,zmQ,yD,zg,zmS,z4,zmR,yC,xA,yM,zr,zc,wO,zu]
       rw[yE,yl,zh (x:=(W.length:Int)-a) (by omega),zh (x:=(W.length:Int)-a-1) (by omega),Jj]
       dsimp only[zmS,zu]
       rw[hE]
       dsimp only[ze,zg,zmS,z4,zmR,zmQ,yM,zr,zc]
       rw[decide_eq_true (show 0<=(a:Int) by omega),decide_eq_true (show (a:Int)<((ws (W++zN (zs e n).toNat d)).length:Int) by rw[yl];omega),Int.toNat_natCast,hy0]
       dsimp only[zmU,List.length_nil,zr,setCells,zmS,ym,zc]
       rw[Vh,KV,decide_eq_false (by decide)]
       rfl
theorem zlN (D:Nat) (x:Nd):vl (body D) 0 x [0]=xd D x:=by
 unfold vl xd
 by_cases h0:x.kind=0
 ·rw[if_pos h0,zbs h0,gU D x h0]
 ·rw[if_neg h0]
  rfl
theorem uK {D:Nat} {x:Nd} (h:Ok D x) (hb:zD D x<=134217728):ev 165 [.pv x.x] []=some (.ret (.slu 30 1 (ws (xd D x))),[]):=by
 have h1:=zdy h.gd h.vn h.dp (by omega)
 have hn:=xP D h.vn
 have h2:=zbi D x h [0] 0 (by decide) (by simp;omega)
 rw[zlN] at h2
 unfold wh at h2
 dsimp only[Nd.x] at h1 h2
 rw[Nd.x,zfZ,h1]
 dsimp only[ze,zg,zmS,xF]
 rw[decide_eq_true (show 1<=zD D x+1 by omega),decide_eq_true (show zD D x+1<=140737488355328 by omega),yW (by omega) (by omega)]
 dsimp only[zr,zc]
 rw[show ev 228 [.ptr 0 0,.pv (I 0),.pv (.agg [I x.kind,I x.elem,I x.n,.sl 1 (bs x.data),.sl 5 (zI x.kids)])] [[.slu 30 1 [U 0]]]=_ from h2]
 dsimp only[ze,zmQ,yD,zg,zmS,zc,wO]
 rw[yE]
 rfl
@[simp] theorem zjY:∀ (q:List Nd) (i:Nat),(xg i q).length=q.length
 |[],i=>rfl
 |t::r,i=>by rw[xg,zmU,zmU,zjY r]
section
variable (i3 i4 i5:Int) (xs6 xs7:List PV) (i8 i9 i10 i11 i12 i13:Int) (b14:Bool) (i15 i16 i17 i18 i19 i20 i22 i23:Int) (b24:Bool) (i25 i26 i27:Int)
end
section
variable (i5 i6 i7:Int) (xs8:List PV) (i10 i11 i12 i13 i14 i15:Int) (b16:Bool) (i17 i18 i19 i20 i21 i22 i23 i24 i25:Int) (b26:Bool) (i27 i28 i29:Int)
end
theorem zaU {l:List (List Int)} (hl:zJ l) (hs:Sm l) {d w:Int} (hw:w<=4611686018427387904) (h0:(runT l d w).2.2=0):Ok d.toNat (yY l d w)/\ye d.toNat (yY l d w)<=vQ l d w:=by
 obtain ⟨a1,a2⟩:=zkH hl hs h0
 have hg:=(QS hl hs (d:=d) (w:=w) hw).2
 unfold yY vQ
 rw[if_pos h0,if_pos h0]
 refine ⟨⟨XY _ a1,zlt _ hg,zhV _ hg,zg5 _ _ a2⟩,?_⟩
 unfold runT at h0 ⊢
 split
 ·rw[Yn]
  cases d.toNat with
  |zero=>show (0:Int)<=max w 0-max w 0;omega
  |succ D=>
   rw[ye]
   show (if (0:Int)=0 then (0:Int) else _)<=max w 0-max w 0
   rw[if_pos rfl]
   omega
 ·rename_i he
  rw[if_neg he] at h0
  exact (zgQ hl hs _ _ _ _ h0).1
def nE:Nd:=.mk 1 0 0 [] []
theorem Je {off:Int} {d q:Nat} (hd:d<=65535) (hq:q<=65535):zH (ya off d q):=by
 have hm:=Int.emod_nonneg off (show (1073741824:Int)≠0 by decide)
 have hl:=Int.emod_lt_of_pos off (show (0:Int)<1073741824 by decide)
 exact ⟨by unfold ya;omega,by unfold ya;omega⟩
theorem jv {off e c:Int} (he:0<=e/\e<=7) (hc:0<=c/\c<=536870911):zH (yv off e c):=by
 have hm:=Int.emod_nonneg off (show (1073741824:Int)≠0 by decide)
 have hl:=Int.emod_lt_of_pos off (show (0:Int)<1073741824 by decide)
 exact ⟨by unfold yv;omega,by unfold yv;omega⟩
theorem zcS:zH 0:=⟨by decide,by decide⟩
theorem ziU {D:Nat} {x:Nd} (hv:VN x):yB x<=zD D x:=by
 cases D with
 |zero=>exact Int.le_refl _
 |succ D=>
  rw[zD]
  have:0<=zo ((z9 x).map (zD D)):=we fun y hy=>by
   obtain ⟨t,ht,rfl⟩:=List.mem_map.1 hy
   exact xP D (Zu hv t ht)
  omega
theorem zbv {D:Nat} {t:Nd} (h:Ok D t) (hb:zD D t<=268435456) (off:Int):zH (yK t off):=by
 obtain ⟨hs,hk⟩:=wX h.vn
 have hob:=ziU (D:=D) h.vn
 unfold yK
 by_cases h0:t.kind=0
 ·rw[if_pos h0];exact zcS
 ·rw[if_neg h0]
  by_cases h1:t.kind=1
  ·obtain ⟨d,q,rfl,g1,g2,g3,g4,g5,g6⟩:=YS h.vn h.tr h.gd h1
   rw[if_pos h1]
   split
   ·exact Je (by omega) (by omega)
   ·exact Je (by show d.length/8<=_;omega) g6
  ·rw[if_neg h1]
   have hs2:t.kind=2/\_:=(hs.resolve_left (fun h=>h0 h.1)).resolve_left (fun h=>h1 h.1)
   by_cases h7:t.elem=7
   ·rw[if_pos h7]
    unfold yB at hob
    rw[if_neg h0,if_neg h1,if_pos h7] at hob
    have:=Int.mul_nonneg hs2.2.1.1 (Int.natCast_nonneg (ZR t))
    unfold ZR at this ⊢
    exact jv (by decide) (by omega)
   ·rw[if_neg h7]
    exact jv hs2.2.2.1 hs2.2.1
theorem QH {B:Nd->List Int}:∀ (l:List Nd) (i p:Nat),(∀ t∈l,∀ off,zH (yK t off))->∀ w∈yu B i p l,zH w
 |[],i,p,h,w,hw=>by cases hw
 |t::r,i,p,h,w,hw=>by
  rw[yu] at hw
  rcases List.mem_cons.1 hw with rfl|hw
  ·exact h t List.mem_cons_self _
  ·exact QH r _ _ (fun t ht=>h t (List.mem_cons_of_mem _ ht)) w hw
theorem gE {B:Nd->List Int} {a b:Nat}:∀ (l:List Nd) (i p:Nat),(∀ k∈l,(∀ x∈k.data,zm x)/\∀ t∈k.kids,∀ off,zH (yK t off))->∀ w∈xw B a b i p l,zH w
 |[],i,p,h,w,hw=>by cases hw
 |k::r,i,p,h,w,hw=>by
  rw[xw] at hw
  obtain ⟨h1,h2⟩:=h k List.mem_cons_self
  rcases List.mem_append.1 hw with hw|hw
  ·rcases List.mem_append.1 hw with hw|hw
   ·exact YZ _ h1 w hw
   ·rcases List.mem_append.1 hw with hw|hw
    ·exact QH _ _ _ h2 w hw
    ·rw[(List.mem_replicate.1 hw).2];exact zcS
  ·exact gE r _ _ (fun t ht=>h t (List.mem_cons_of_mem _ ht)) w hw
theorem zci {f:Nd->Int}:∀ {l:List Nd},(∀ t∈l,0<=f t)->∀ t∈l,f t<=zo (l.map f)
 |[],h,t,ht=>by cases ht
 |x::l,h,t,ht=>by
  rw[List.map_cons,wc]
  have h0:=h x List.mem_cons_self
  have hr:0<=zo (l.map f):=we fun y hy=>by
   obtain ⟨z,hz,rfl⟩:=List.mem_map.1 hy
   exact h z (List.mem_cons_of_mem _ hz)
  rcases List.mem_cons.1 ht with rfl|ht
  ·omega
  ·have:=zci (fun z hz=>h z (List.mem_cons_of_mem _ hz)) t ht;omega
theorem gV:∀ (D:Nat) (x:Nd),Ok D x->zD D x<=268435456->∀ w∈body D x,zH w
 |0,x,h,hb,w,hw=>by cases hw
 |D+1,x,h,hb,w,hw=>by
  rw[body] at hw
  by_cases h0:x.kind=0
  ·rw[if_pos h0] at hw;cases hw
  ·rw[if_neg h0] at hw
   rw[zD] at hb
   have hT:=Qz h h0
   have hon:=XC h.vn
   have hTb:∀ t∈z9 x,zD D t<=268435456:=fun t ht=>by
    have:=zci (f:=zD D) (fun t ht=>xP D (hT t ht).vn) t ht
    omega
   have hP:∀ t∈z9 x,∀ off,zH (yK t off):=fun t ht=>zbv (hT t ht) (hTb t ht)
   obtain ⟨hs,hkk⟩:=wX h.vn
   rcases List.mem_append.1 hw with hw|hw
   ·unfold xy at hw
    by_cases h1:x.kind=1
    ·obtain ⟨d,q,rfl,g1,g2,g3,g4,g5,g6⟩:=YS h.vn h.tr h.gd h1
     rw[if_pos h1] at hw
     rcases List.mem_append.1 hw with hw|hw
     ·exact YZ _ g3 w hw
     ·exact QH _ _ _ hP w hw
    ·have hs2:=(hs.resolve_left (fun h=>h0 h.1)).resolve_left (fun h=>h1 h.1)
     rw[if_neg h1] at hw
     cases x with
     |mk k e n d ks=>
      have hg:=h.gd
      rw[yt] at hg
      obtain ⟨k2,hn,he,h6,hl6⟩:=hs2
      have k2':k=2:=k2
      subst k2'
      have hn':0<=n/\n<=536870911:=hn
      by_cases e7:e=7
      ·subst e7
       have hw:w∈ya n (zn ks) (zq ks)::xw (body D) (zn ks) (zq ks) 1 (1+ks.length*ZR (.mk 2 7 n d ks)) ks:=hw
       have hst:∀ k∈ks,k.kind=1:=by
        cases h.vn with
        |mk v1 v2 v3=>exact v2 rfl rfl
       have htr:∀ k∈ks,TrN k:=by
        cases h.tr with
        |mk t1 t2=>exact t2
       have hparts:∀ k∈ks,(∀ x∈k.data,zm x)/\k.data.length%8=0/\k.data.length<=524280/\k.kids.length<=65535:=fun k hk=>by
        obtain ⟨d,q,rfl,g1,g2,g3,g4,g5,g6⟩:=YS (hkk k hk) (htr k hk) (goods_iff.1 hg.2 k hk) (hst k hk)
        exact ⟨g3,g4,g5,g6⟩
       rcases List.mem_cons.1 hw with rfl|hw
       ·exact Je (YT fun x hx=>by have:=(hparts x hx).2.2.1;omega) (YU fun x hx=>(hparts x hx).2.2.2)
       ·exact gE ks _ _ (fun k hk=>⟨(hparts k hk).1,fun t ht=>hP t (List.mem_flatMap.2 ⟨k,hk,ht⟩)⟩) w hw
      ·have et:z9 (.mk 2 e n d ks)=ks:=by
        show (if (2:Int)=2/\e=7 then _ else ks)=_
        rw[if_neg (fun h=>e7 h.2)]
       rw[et] at hP
       rw[if_neg (show ¬(Nd.mk 2 e n d ks).elem=7 from e7)] at hw
       split at hw
       ·exact QH _ _ _ hP w hw
       ·exact YZ _ hg.1.2.1 w hw
   ·obtain ⟨t,ht,hw⟩:=List.mem_flatMap.1 hw
    exact gV D t (hT t ht) (hTb t ht) w hw
theorem zfE {D:Nat} {x:Nd} (h:Ok D x) (hb:zD D x<=268435456):∀ w∈xd D x,zH w:=fun w hw=>by
 rcases List.mem_cons.1 hw with rfl|hw
 ·exact zbv h hb 0
 ·exact gV D x h hb w hw
theorem Wo {D:Nat} {x:Nd} (h:Ok D x):((xd D x).length:Int)=zD D x+1:=by
 rw[xd,zmU,←gR h];push_cast;rfl
theorem zfC {D:Nat} {x:Nd} (h:Ok D x) (hb:zD D x<=268435456):zJ [xd D x]:=by
 have:=Wo h
 refine ⟨by rw[List.length_singleton];decide,fun s hs=>?_⟩
 rw[List.mem_singleton.1 hs]
 exact ⟨by omega,zfE h hb⟩
theorem zfD {D:Nat} {x:Nd} (h:Ok D x) (hb:zD D x<=268435456):Sm [xd D x]:=by
 have:=Wo h
 intro s
 unfold yw
 rcases Nat.eq_zero_or_pos s.toNat with h0|h0
 ·rw[h0];show ((xd D x).length:Int)<=_;omega
 ·rw[List.getD_eq_getElem?_getD,List.getElem?_eq_none (by rw[List.length_singleton];omega)]
  simp
theorem zfK {D:Nat} {x:Nd} (h:Ok D x) (hb:zD D x<=134217728) {d w:Int} (hd:d.toNat=D) (hc:ye D x<=max w 0):∃ y,runT [xd D x] d w=(y,max w 0-ye D x,0)/\zi y=x:=by
 have hl:=Wo h
 have R:=jg (W:=xd D x) (by omega) D
 obtain ⟨y,e,ht⟩:=R.one x 0 1 (max w 0) h ⟨[yK x 0],[],by simp[xd],rfl⟩ ⟨[],body D x,by simp[xd],rfl⟩ hc
 refine ⟨y,?_,ht⟩
 unfold runT
 have hne:¬Xp [xd D x]:=fun he=>by
  have h2:(yw [xd D x] 0).length=0:=he.2
  have h3:(yw [xd D x] 0).length=(xd D x).length:=rfl
  have h4:=xP D h.vn
  omega
 rw[if_neg hne,hd]
 exact e
theorem zfH {D:Nat} {x:Nd} (h:Ok D x) (hb:zD D x<=134217728) {d w:Int} (hd:d.toNat=D) (hc:ye D x<=max w 0):yJ [xd D x] d w=0/\yY [xd D x] d w=x/\vQ [xd D x] d w=ye D x:=by
 obtain ⟨y,e,ht⟩:=zfK h hb hd hc
 refine ⟨by unfold yJ;rw[e],?_,?_⟩
 ·unfold yY;rw[e,if_pos rfl];exact ht
 ·unfold vQ;rw[e,if_pos rfl];show max w 0-(max w 0-ye D x)=_;exact Int.sub_sub_self _ _
noncomputable def xt (l:List (List Int)) (d w:Int):List Int:=if yJ l d w=0 then xd d.toNat (yY l d w) else []
theorem Qv {l:List (List Int)} (hl:zJ l) (hs:Sm l) {d w:Int} (hw:w<=134217728) (h0:yJ l d w=0):Ok d.toNat (yY l d w)/\zD d.toNat (yY l d w)<=134217728/\ye d.toNat (yY l d w)<=max w 0:=by
 obtain ⟨ho,hc⟩:=zaU hl hs (by omega) (show (runT l d w).2.2=0 from h0)
 have hr1:=(QS hl hs (d:=d) (w:=w) (by omega)).1
 unfold Mt at hr1
 have hle:=JC d.toNat ho.vn ho.dp
 have hmc:vQ l d w<=max w 0:=by
  unfold vQ
  split<;>omega
 exact ⟨ho,by omega,by omega⟩
theorem wsl (z:Nat) (x:List PV):(decide ((PV.sl z x).cells.length=1)&&(PV.sl z x).cells.all PV.isCell)=true:=rfl
def zF (b:List Int) (i:Nat):Int:=b.getD (4*i) 0+256*b.getD (4*i+1) 0+65536*b.getD (4*i+2) 0+16777216*b.getD (4*i+3) 0
theorem Xz {b:List Int} (hb:∀ x∈b,zm x) (i:Nat):0<=zF b i/\zF b i<=4294967295:=by
 have h0:=yL hb (4*i)
 have h1:=yL hb (4*i+1)
 have h2:=yL hb (4*i+2)
 have h3:=yL hb (4*i+3)
 unfold zF
 omega
theorem ZY {b:List Int} {x:Int} {i:Nat} (hx:x=i) (h:i<b.length):(bs b)[x.toNat]? = some (U8 (b.getD i 0)):=by
 subst hx
 rw[Int.toNat_natCast,KM h]
theorem KE {b:List Int} (hb:∀ x∈b,zm x) (hl:b.length<=1099511627776) {i:Nat} (hi:4*i+4<=b.length):ev 85 [.pv (.sl 1 (bs b)),.pv (I (i:Int))] []=ok (I (zF b i)):=by
 have h0:=yL hb (4*i)
 have h1:=yL hb (4*i+1)
 have h2:=yL hb (4*i+2)
 have h3:=yL hb (4*i+3)
 rw[zgc,zR,zh (x:=4*(i:Int)) (by omega),zh (x:=4*(i:Int)+1) (by omega),zh (x:=4*(i:Int)+2) (by omega),zh (x:=4*(i:Int)+3) (by omega)]
 rw[decide_eq_true (show 0<=4*(i:Int) by omega),decide_eq_true (show 4*(i:Int)<(b.length:Int) by omega),decide_eq_true (show 0<=4*(i:Int)+1 by omega),decide_eq_true (show 4*(i:Int)+1<(b.length:Int) by omega),
  decide_eq_true (show 0<=4*(i:Int)+2 by omega),decide_eq_true (show 4*(i:Int)+2<(b.length:Int) by omega),decide_eq_true (show 0<=4*(i:Int)+3 by omega),decide_eq_true (show 4*(i:Int)+3<(b.length:Int) by omega)]
 rw[ZY (show 4*(i:Int)=((4*i:Nat):Int) by push_cast;rfl) (by omega),ZY (show 4*(i:Int)+1=((4*i+1:Nat):Int) by push_cast;rfl) (by omega),ZY (show 4*(i:Int)+2=((4*i+2:Nat):Int) by push_cast;rfl) (by omega),ZY (show 4*(i:Int)+3=((4*i+3:Nat):Int) by push_cast;rfl) (by omega)]
 dsimp only[zr,zmS,ym,zmQ,xF,zc]
 unfold zF
 generalize b.getD (4*i) 0=c0 at h0 ⊢
 generalize b.getD (4*i+1) 0=c1 at h1 ⊢
 generalize b.getD (4*i+2) 0=c2 at h2 ⊢
 generalize b.getD (4*i+3) 0=c3 at h3 ⊢
 rw[zh (x:=c0) (by omega),zh (x:=c1) (by omega),zh (x:=c2) (by omega),zh (x:=c3) (by omega),zh (x:=256*c1) (by omega),zh (x:=65536*c2) (by omega),zh (x:=16777216*c3) (by omega),zh (x:=c0+256*c1) (by omega),zh (x:=c0+256*c1+65536*c2) (by omega),zh (x:=c0+256*c1+65536*c2+16777216*c3) (by omega)]
theorem or8 {v x:Nat} (hv:v<16777216) (hx:x<256):IntKind.wrap .i64 (BitVec.ofInt 64 (IntKind.wrap .i64 ((v:Int)*2^(min 8 64))) ||| BitVec.ofInt 64 (IntKind.wrap .i64 (x:Int))).toNat=((v*256+x:Nat):Int):=by
 have e1:IntKind.wrap .i64 ((v:Int)*2^(min 8 64))=((v*256:Nat):Int):=by
  have hp:(2:Int)^(min 8 64)=256:=by decide
  rw[hp,show (v:Int)*256=((v*256:Nat):Int) by omega,zh (by omega)]
 rw[e1,zh (x:=(x:Int)) (by omega)]
 have e3:(BitVec.ofInt 64 ((v*256:Nat):Int) ||| BitVec.ofInt 64 (x:Int)).toNat=v*256+x:=by
  rw[BitVec.toNat_or,vz (by omega),vz (by omega),show v*256=2^8*v by omega,←Nat.two_pow_add_eq_or_of_lt (show x<2^8 by omega)]
 rw[e3,zl7 (by omega)]
theorem Qy {b:List Int} (hb:∀ x∈b,zm x) (hl:b.length<=1099511627776) {i k:Nat} (hk:k<=3) (hi:4*i+4<=b.length) {v:Nat} (hv:v<16777216):WH (bs b) i v k=WH (bs b) i ((v*256+xn b (4*i+k):Nat):Int) ((k:Int)-1):=by
 have hx:=xi hb (4*i+k)
 rw[j8,decide_eq_true (show (k:Int)≥0 by omega),zh (x:=4*(i:Int)) (by omega),zh (x:=4*(i:Int)+k) (by omega),decide_eq_true (show 0<=4*(i:Int)+k by omega),decide_eq_true (show 4*(i:Int)+k<((bs b).length:Int) by rw[zR];omega),ZY (show 4*(i:Int)+k=((4*i+k:Nat):Int) by push_cast;rfl) (by omega),←hx.1]
 dsimp only[zr,zmS,ym,zmQ,xF,zc]
 rw[or8 hv hx.2,zh (x:=(k:Int)-1) (by omega)]
theorem Yu:ev 174 [.pv (Bo false)] []=some (.pan (.ifc 225 (.agg [])),[]):=by rw[j7];rfl
theorem Wg:ev 174 [.pv (Bo true)] []=ok (.tup []):=by rw[j7];rfl
theorem uX {b:List Int} (hb:∀ x∈b,zm x) (hl:b.length<=1099511627776) {i:Nat} (hi:4*i+4<=b.length):ev 173 [.pv (.sl 1 (bs b)),.pv (I (i:Int))] []=ok (I (zF b i)):=by
 rw[j9,zR,zh (x:=(i:Int)+1) (by omega),zh (x:=4*((i:Int)+1)) (by omega),decide_eq_true (show 4*((i:Int)+1)<=(b.length:Int) by omega),Wg]
 dsimp only[ze,zg,zmS]
 have h0:((xn b (4*i+0):Nat):Int)=b.getD (4*i) 0/\xn b (4*i+0)<256:=xi hb (4*i)
 have h1:=xi hb (4*i+1)
 have h2:=xi hb (4*i+2)
 have h3:=xi hb (4*i+3)
 have s3:=Qy hb hl (k:=3) (by omega) hi (v:=0) (by omega)
 have s2:=Qy hb hl (k:=2) (by omega) hi (v:=0*256+xn b (4*i+3)) (by omega)
 have s1:=Qy hb hl (k:=1) (by omega) hi (v:=(0*256+xn b (4*i+3))*256+xn b (4*i+2)) (by omega)
 have s0:=Qy hb hl (k:=0) (by omega) hi (v:=((0*256+xn b (4*i+3))*256+xn b (4*i+2))*256+xn b (4*i+1)) (by omega)
 have e3:(((3:Nat):Int)-1)=((2:Nat):Int):=rfl
 have e2:(((2:Nat):Int)-1)=((1:Nat):Int):=rfl
 have e1:(((1:Nat):Int)-1)=((0:Nat):Int):=rfl
 rw[e3] at s3
 rw[e2] at s2
 rw[e1] at s1
 refine (s3.trans (s2.trans (s1.trans s0))).trans ?_
 rw[j8,show decide ((((0:Nat):Int)-1)≥0)=false from rfl]
 refine congrArg (fun z=>ok (I z)) ?_
 unfold zF
 omega
theorem zdU {b:List Int} (hl:b.length<4):ev 173 [.pv (.sl 1 (bs b)),.pv (I 0)] []=some (.pan (.ifc 225 (.agg [])),[]):=by
 rw[j9,zR,show IntKind.wrap .i64 ((0:Int)+1)=1 from rfl,show IntKind.wrap .i64 ((4:Int)*1)=4 from rfl,decide_eq_false (show ¬(4:Int)<=(b.length:Int) by omega),Yu]
 rfl
def yp (n:Nat):Nat:=if n%2=0 then 4*n+8 else 4*n+4
theorem gj {n:Nat} (hn:n<=1099511627776):ev 167 [.pv (I (n:Int))] []=ok (I (yp n)):=by
 rw[zhM,zh (x:=(n:Int)+1) (by omega),zh (x:=4*((n:Int)+1)) (by omega),zh (x:=4*((n:Int)+1)+8) (by omega),zh (x:=4*((n:Int)+1)+8-1) (by omega),Int.tdiv_eq_ediv_of_nonneg (by omega),zh (x:=(4*((n:Int)+1)+8-1)/8) (by omega),zh (x:=(4*((n:Int)+1)+8-1)/8*8) (by omega)]
 refine congrArg (fun z=>ok (I z)) ?_
 unfold yp
 split<;>(push_cast;omega)
theorem zd5 {n:Nat} (hn:n<=1099511627776):ev 86 [.pv (I (n:Int))] []=ok (I (yp n)):=by
 rw[zgb,zh (x:=4*(n:Int)) (by omega),zh (x:=4*(n:Int)+8) (by omega),zh (x:=4*(n:Int)+4) (by omega),Int.tmod_eq_emod_of_nonneg (by omega),yx]
 unfold yp
 by_cases h:n%2=0
 ·rw[if_pos (by omega),if_pos h];push_cast;rfl
 ·rw[if_neg (by omega),if_neg h];push_cast;rfl
theorem zmL {b:List Int} (hl:b.length<=1099511627776):∀ (c i:Nat),i+c=b.length->Qj (bs b) b.length i=ok (Bo ((b.drop i).all (·==0))):=by
 intro c
 induction c with
 |zero=>
  intro i hi
  rw[zab,decide_eq_false (by omega),List.drop_eq_nil_of_le (by omega)]
  rfl
 |succ c ih=>
  intro i hi
  have hil:i<b.length:=by omega
  rw[zab,decide_eq_true (show (i:Int)<(b.length:Int) by omega),decide_eq_true (show 0<=(i:Int) by omega),decide_eq_true (show (i:Int)<((bs b).length:Int) by rw[zR];omega),Int.toNat_natCast,Yv hil]
  dsimp only[zr,zmS,ym,zmQ,ZH,zc]
  rw[zh (x:=(i:Int)+1) (by omega),List.drop_eq_getElem_cons hil,List.all_cons]
  by_cases h0:b[i]=0
  ·rw[h0,show ((0:Int) != 0)=false from rfl,show ((0:Int)==0)=true from rfl]
   dsimp only[zu,zr]
   exact ih (i+1) (by omega)
  ·rw[wi h0,beq_eq_false_iff_ne.2 h0]
   rfl
theorem zej {b:List Int} (hl:b.length<=1099511627776):ev 175 [.pv (.sl 1 (bs b))] []=ok (Bo (b.all (·==0))):=by
 rw[zhO,zR]
 exact zmL hl b.length 0 (by omega)
def e4 (v:Int):List Int:=[v%256,v/256%256,v/65536%256,v/16777216%256]
theorem QL {acc:List Int} (ha:acc.length<=17592186044424) (v:Int) {k:Nat} (hk:k<4):WI (bs acc) v k=WI (bs (acc++[v%256])) (v/256) ((k+1:Nat):Int):=by
 rw[zaa,decide_eq_true (show (k:Int)<4 by omega),yW (by rw[zR];omega) (by rw[zR];omega),Vi,zh (x:=(k:Int)+1) (by omega),Zx,show (min 8 64:Nat)=8 from rfl,Int.fdiv_eq_ediv_of_nonneg _ (by decide)]
 rfl
theorem ga {acc:List Int} (ha:acc.length<=17592186044416) (v:Int):ev 166 [.slu 5 1 (bs acc),.pv (I v)] []=some (.ret (.slu 5 1 (bs (acc++e4 v))),[]):=by
 rw[zhN]
 have s0:=QL (acc:=acc) (by omega) v (k:=0) (by omega)
 have s1:=QL (acc:=acc++[v%256]) (by simp;omega) (v/256) (k:=1) (by omega)
 have s2:=QL (acc:=acc++[v%256]++[v/256%256]) (by simp;omega) (v/256/256) (k:=2) (by omega)
 have s3:=QL (acc:=acc++[v%256]++[v/256%256]++[v/256/256%256]) (by simp;omega) (v/256/256/256) (k:=3) (by omega)
 refine (s0.trans (s1.trans (s2.trans s3))).trans ?_
 rw[zaa,show decide (((3+1:Nat):Int)<4)=false from rfl]
 have e:acc++[v%256]++[v/256%256]++[v/256/256%256]++[v/256/256/256%256]=acc++e4 v:=by
  unfold e4
  rw[show v/256/256=v/65536 by omega,show v/65536/256=v/16777216 by omega]
  simp
 rw[e]
 rfl
def y3 (b:List Int):Nat->Nat->List Int->Option (List (List Int))
 |0,_,rest=>if rest=[] then some [] else none
 |c+1,i,rest=>if zF b i<536870912/\8*zF b i<=(rest.length:Int) then (y3 b c (i+1) (rest.drop (8*(zF b i).toNat))).map (zN (zF b i).toNat (rest.take (8*(zF b i).toNat))::·) else none
def yF (b:List Int):Option (List (List Int)) :=
 if b.length<4 then none else if 512<zF b 0+1 then none else if b.length<yp (zF b 0+1).toNat then none
 else if (zF b 0+1).toNat%2=0/\zF b ((zF b 0+1).toNat+1)≠0 then none
 else y3 b (zF b 0+1).toNat 1 (b.drop (yp (zF b 0+1).toNat))
def ZK (o:Option (List (List Int))):List PV:=match o with
 |some l=>[.sl 1 (zL l),I 0]
 |none=>[.sl 1 [],I 1]
theorem zb5 (l:List (List Int)) (s:List Int):zL l++[.sl 1 (ws s)]=zL (l++[s]):=by simp[zL]
theorem zaR (o:Option (List (List Int))) (acc:List (List Int)) (s:List Int):(o.map (s::·)).map (acc++·)=o.map ((acc++[s])++·):=by
 cases o<;>simp
theorem ZZ {b:List Int} (hb:∀ x∈b,zm x) (n:Nat):∀ x∈b.drop n,zm x:=fun x hx=>hb x (List.mem_of_mem_drop hx)
theorem KO {b:List Int} (hb:∀ x∈b,zm x) (n:Nat):∀ x∈b.take n,zm x:=fun x hx=>hb x (List.mem_of_mem_take hx)
theorem Wn (b:List Int) (n:Nat):(bs b).drop n=bs (b.drop n):=by simp[bs]
theorem zjv {b:List Int} (hb:∀ x∈b,zm x) (hl:b.length<=1099511627776) {n:Nat} (hn:n<=512) (ht:4*n+4<=b.length):∀ (c i:Nat) (rest:List Int) (acc:List (List Int)),i+c=n->(∀ x∈rest,zm x)->rest.length<=1099511627776->acc.length=i->
  Xu (bs b) (bs rest) n i (zL acc) 0=ok (.tup (ZK ((y3 b c (i+1) rest).map (acc++·)))):=by
 intro c
 induction c with
 |zero=>
  intro i rest acc hi hr hrl hal
  rw[j4,decide_eq_false (by omega),y3]
  dsimp only[zu]
  by_cases h0:rest=[]
  ·subst h0
   rw[if_pos rfl,show (((bs []).length:Int)==0)=true from rfl,Wg]
   simp[ZK]
  ·have:(((bs rest).length:Int)==0)=false:=by
    rw[zR,beq_eq_false_iff_ne]
    have:=List.length_pos_iff.2 h0
    omega
   rw[if_neg h0,this,Yu]
   rfl
 |succ c ih=>
  intro i rest acc hi hr hrl hal
  have hv:=Xz hb (i+1)
  have e1:(i:Int)+1=((i+1:Nat):Int):=by push_cast;rfl
  rw[j4,decide_eq_true (show (i:Int)<n by omega),zh (x:=(i:Int)+1) (by omega),e1,uX hb hl (by omega),y3]
  dsimp only[ze,zg,zmS,z6,zc]
  by_cases h1:zF b (i+1)<536870912
  ·rw[decide_eq_true h1,zh (x:=zF b (i+1)*8) (by omega)]
   dsimp only[zc]
   rw[zR]
   by_cases h2:8*zF b (i+1)<=(rest.length:Int)
   ·rw[decide_eq_true (show zF b (i+1)*8<=(rest.length:Int) by omega),Wg,if_pos ⟨h1,h2⟩]
    have en:(zF b (i+1)*8).toNat=8*(zF b (i+1)).toNat:=by omega
    have hW:=KC (KO hr (8*(zF b (i+1)).toNat)) (by rw[List.length_take];omega) (n:=(zF b (i+1)).toNat) (by rw[List.length_take];omega)
    dsimp only[ze,zg,zmS]
    rw[decide_eq_true (show 0<=zF b (i+1)*8 by omega)]
    dsimp only[zr,zc]
    rw[en,List.drop_zero,VD,hW]
    dsimp only[ze,zg,zmS,z4,zmR,zmQ,↓wsl,zr,zc]
    rw[yW (by simp;omega) (by simp;omega),decide_eq_true (show (rest.length:Int)<=(rest.length:Int) by omega),Int.toNat_natCast,List.take_of_length_le (show (bs rest).length<=rest.length by rw[zR];exact Nat.le_refl _),Wn,zb5]
    dsimp only[zc]
    have:=ih (i+1) (rest.drop (8*(zF b (i+1)).toNat)) (acc++[zN (zF b (i+1)).toNat (rest.take (8*(zF b (i+1)).toNat))]) (by omega) (ZZ hr _) (by rw[List.length_drop];omega) (by simp;omega)
    rw[zaR]
    exact this
   ·rw[decide_eq_false (show ¬zF b (i+1)*8<=(rest.length:Int) by omega),Yu,if_neg (fun h=>h2 h.2)]
    rfl
  ·rw[decide_eq_false h1,Yu,if_neg (fun h=>h1 h.1)]
   rfl
theorem YJ (a:AV) (p q:PV):vT 0 2 (.tup 0 a [p,q])=some (a,[p,q]):=rfl
noncomputable def J9 (l:List (List Int)) (d w:Int):List PV:=if yJ l d w=0 then [.sl 1 (ws (xt l d w))] else []
theorem zdC {l:List (List Int)} (hl:zJ l) (hs:Sm l) {d w b:Int} (hd:d<=1099511627775) (hw:w<=134217728):ev 103 [.pv (.sl 1 (zL l)),.pv (.agg [I d,I w,I b])] []=ok (.tup [.sl 1 (J9 l d w),I (yJ l d w)]):=by
 rw[zfO,zfP,Kx hl hs hd (by omega)]
 dsimp only[Nd.x,ze,zg,zmS,z4,zmR,zmQ,z6,↓rU,xA,wl,zr,yM,zc]
 unfold J9 xt
 by_cases h0:yJ l d w=0
 ·obtain ⟨ho,hb,_⟩:=Qv hl hs hw h0
  have h1:=uK ho hb
  dsimp only[Nd.x] at h1
  rw[h0,show ((0:Int) != 0)=false from rfl,if_pos rfl,if_pos rfl]
  dsimp only[zu]
  rw[zfN,h1]
  dsimp only[ze]
  rw[yE]
  rfl
 ·rw[wi h0,if_neg h0]
  rfl
theorem Jy {b:List Int} {j:Nat} (h:j+4<=b.length):(b.drop j).take 4=[b.getD j 0,b.getD (j+1) 0,b.getD (j+2) 0,b.getD (j+3) 0]:=by
 have g:∀ i,i<b.length->b.getD i 0=b[i]!:=fun i hi=>by simp[List.getD_eq_getElem?_getD,hi]
 rw[List.drop_eq_getElem_cons (show j<b.length by omega),List.drop_eq_getElem_cons (show j+1<b.length by omega),List.drop_eq_getElem_cons (show j+1+1<b.length by omega),List.drop_eq_getElem_cons (show j+1+1+1<b.length by omega)]
 simp only[List.take_succ_cons,List.take_zero,List.getD_eq_getElem?_getD]
 rw[List.getElem?_eq_getElem (show j<b.length by omega),List.getElem?_eq_getElem (show j+1<b.length by omega),List.getElem?_eq_getElem (show j+2<b.length by omega),List.getElem?_eq_getElem (show j+3<b.length by omega)]
 rfl
theorem zcs (b:List Int) (j k:Nat):(b.take (j+k)).drop j=(b.drop j).take k:=by
 rw[List.drop_take,Nat.add_sub_cancel_left]
theorem zju {b:List Int} (hb:∀ x∈b,zm x) {n:Nat} (h:yp n<=b.length):((b.take (yp n)).drop (4*n+4)).all (·==0)=!decide (n%2=0/\zF b (n+1)≠0):=by
 by_cases hn:n%2=0
 ·have ht:yp n=(4*n+4)+4:=by unfold yp;rw[if_pos hn]
  have h0:=yL hb (4*n+4)
  have h1:=yL hb (4*n+4+1)
  have h2:=yL hb (4*n+4+2)
  have h3:=yL hb (4*n+4+3)
  have hl:zF b (n+1)=b.getD (4*n+4) 0+256*b.getD (4*n+4+1) 0+65536*b.getD (4*n+4+2) 0+16777216*b.getD (4*n+4+3) 0:=rfl
  rw[ht,zcs,Jy (by omega),hl]
  generalize b.getD (4*n+4) 0=c0 at h0 ⊢
  generalize b.getD (4*n+4+1) 0=c1 at h1 ⊢
  generalize b.getD (4*n+4+2) 0=c2 at h2 ⊢
  generalize b.getD (4*n+4+3) 0=c3 at h3 ⊢
  rw[Bool.eq_iff_iff]
  simp only[List.all_cons,List.all_nil,Bool.and_true,Bool.and_eq_true,beq_iff_eq,Bool.not_eq_true',decide_eq_false_iff_not]
  omega
 ·have ht:yp n=4*n+4:=by unfold yp;rw[if_neg hn]
  rw[ht,List.drop_eq_nil_of_le (by rw[List.length_take];omega),decide_eq_false (fun h=>hn h.1)]
  rfl
theorem zdr {b:List Int} (hb:∀ x∈b,zm x) (hl:b.length<=1099511627776):ev 107 [.pv (.sl 1 (bs b))] []=ok (.tup (ZK (yF b))):=by
 rw[zhK]
 unfold yF
 by_cases h4:b.length<4
 ·rw[zdU h4,if_pos h4]
  rfl
 have hN:ev 173 [.pv (.sl 1 (bs b)),.pv (I 0)] []=ok (I (zF b 0)):=uX hb hl (i:=0) (by omega)
 have hr:=Xz hb 0
 rw[hN,if_neg h4]
 dsimp only[ze,zg,zmS,z6]
 rw[zh (x:=zF b 0+1) (by omega)]
 obtain ⟨n,hn⟩:∃ n:Nat,zF b 0+1=n:=⟨(zF b 0+1).toNat,by omega⟩
 rw[hn,Int.toNat_natCast n]
 by_cases h5:(512:Int)<n
 ·rw[if_pos h5,decide_eq_false (by omega),Yu]
  rfl
 have htb:yp n<=4*n+8/\4*n+4<=yp n:=by unfold yp;split<;>omega
 rw[if_neg h5,decide_eq_true (show (n:Int)<=512 by omega),Wg,gj (by omega)]
 dsimp only[ze,zg,zmS,z6,xF]
 rw[zR]
 by_cases h6:b.length<yp n
 ·rw[if_pos h6,decide_eq_false (by omega),Yu]
  rfl
 rw[if_neg h6,decide_eq_true (show (b.length:Int)≥(yp n:Int) by omega),zh (x:=(n:Int)+1) (by omega),zh (x:=4*((n:Int)+1)) (by omega),decide_eq_true (show 0<=4*((n:Int)+1) by omega),decide_eq_true (show 4*((n:Int)+1)<=(yp n:Int) by omega)]
 dsimp only[zr,zc]
 rw[Int.toNat_natCast (yp n),show (4*((n:Int)+1)).toNat=4*n+4 by omega,VD,Wn,zej (by rw[List.length_drop,List.length_take];omega),zju hb (by omega)]
 dsimp only[ze,zg,zmS,xf]
 by_cases h7:n%2=0/\zF b (n+1)≠0
 ·rw[decide_eq_true h7,if_pos h7,show (!true)=false from rfl,Yu]
  rfl
 rw[decide_eq_false h7,if_neg h7,show (!false)=true from rfl,Wg]
 dsimp only[ze,zg,zmS]
 rw[Int.toNat_natCast b.length,decide_eq_true (show 0<=(yp n:Int) by omega),decide_eq_true (show (b.length:Int)<=(b.length:Int) by omega),List.take_of_length_le (show (bs b).length<=b.length by rw[zR];exact Nat.le_refl _),Wn]
 dsimp only[zr,zc]
 have:=zjv hb hl (n:=n) (by omega) (by omega) n 0 (b.drop (yp n)) [] (by omega) (ZZ hb _) (by rw[List.length_drop];omega) rfl
 have e:(y3 b n (0+1) (b.drop (yp n))).map (([]:List (List Int))++·)=y3 b n 1 (b.drop (yp n)):=by
  cases y3 b n 1 (b.drop (yp n))<;>rfl
 rw[e] at this
 exact this
theorem zkB {b:List Int} (hb:∀ x∈b,zm x) (hl:b.length<=1099511627776) {n:Nat} (hn:n<=512) (ht:4*n+4<=b.length):∀ (c i at_:Nat) (acc:List (List Int)),i+c=n+1->at_<=b.length->acc.length<=i->
  Wr (bs b) n (zL acc) (I (at_:Int)) i=ok (.tup (ZK ((y3 b c i (b.drop at_)).map (acc++·)))):=by
 intro c
 induction c with
 |zero=>
  intro i at_ acc hi ha hal
  rw[rL,decide_eq_false (by omega),y3]
  dsimp only[z6,xF,zmS,zu]
  rw[zR]
  by_cases h0:at_=b.length
  ·rw[if_pos (by rw[List.drop_eq_nil_iff];omega),h0,show ((b.length:Int) != (b.length:Int))=false by simp]
   simp[ZK]
  ·rw[if_neg (by rw[List.drop_eq_nil_iff];omega),show ((at_:Int) != (b.length:Int))=true from bne_iff_ne.2 (by omega)]
   rfl
 |succ c ih=>
  intro i at_ acc hi ha hal
  have hv:=Xz hb i
  rw[rL,decide_eq_true (show (i:Int)<=n by omega),KE hb hl (by omega),y3]
  dsimp only[z6,xF,zmS,ze,zg,zc]
  rw[zR,List.length_drop]
  by_cases h1:zF b i<536870912
  ·rw[decide_eq_false (show ¬zF b i≥536870912 by omega),zh (x:=8*zF b i) (by omega),zh (x:=(at_:Int)+8*zF b i) (by omega)]
   dsimp only[zu]
   by_cases h2:8*zF b i<=((b.length-at_:Nat):Int)
   ·rw[decide_eq_false (show ¬(at_:Int)+8*zF b i>(b.length:Int) by omega),if_pos ⟨h1,h2⟩]
    have en:((at_:Int)+8*zF b i).toNat=at_+8*(zF b i).toNat:=by omega
    have hW:=zd4 (KO (ZZ hb at_) (8*(zF b i).toNat)) (by rw[List.length_take,List.length_drop];omega) (n:=(zF b i).toNat) (by rw[List.length_take,List.length_drop];omega)
    dsimp only[zu]
    rw[decide_eq_true (show 0<=(at_:Int) by omega),decide_eq_true (show (at_:Int)<=(at_:Int)+8*zF b i by omega),decide_eq_true (show (at_:Int)+8*zF b i<=(b.length:Int) by omega)]
    dsimp only[zr,zc]
    rw[en,Int.toNat_natCast,VD,Wn,zcs,hW]
    dsimp only[ze]
    rw[YJ]
    dsimp only[zmS,zmR,zmQ]
    rw[yE]
    dsimp only[zmS]
    rw[yW (by simp;omega) (by simp;omega),zb5,zh (x:=(i:Int)+1) (by omega)]
    dsimp only[zc]
    have:=ih (i+1) (at_+8*(zF b i).toNat) (acc++[zN (zF b i).toNat ((b.drop at_).take (8*(zF b i).toNat))]) (by omega) (by omega) (by simp;omega)
    rw[zaR,List.drop_drop,show (at_:Int)+8*zF b i=((at_+8*(zF b i).toNat:Nat):Int) by omega]
    exact this
   ·rw[decide_eq_true (show (at_:Int)+8*zF b i>(b.length:Int) by omega),if_neg (fun h=>h2 h.2)]
    rfl
  ·rw[decide_eq_true (show zF b i≥536870912 by omega),if_neg (fun h=>h1 h.1)]
   rfl
theorem zd3 {b:List Int} (hb:∀ x∈b,zm x) (hl:b.length<=1099511627776):ev 43 [.pv (.sl 1 (bs b))] []=ok (.tup (ZK (yF b))):=by
 rw[zga,zR]
 unfold yF
 by_cases h4:b.length<4
 ·rw[decide_eq_true (show (b.length:Int)<4 by omega),if_pos h4]
  rfl
 have hN:ev 85 [.pv (.sl 1 (bs b)),.pv (I 0)] []=ok (I (zF b 0)):=KE hb hl (i:=0) (by omega)
 have hr:=Xz hb 0
 rw[decide_eq_false (show ¬(b.length:Int)<4 by omega),hN,if_neg h4]
 dsimp only[ze,zg,zmS,z6,zu]
 rw[zh (x:=zF b 0+1) (by omega)]
 obtain ⟨n,hn⟩:∃ n:Nat,zF b 0+1=n:=⟨(zF b 0+1).toNat,by omega⟩
 rw[hn,Int.toNat_natCast n]
 by_cases h5:(512:Int)<n
 ·rw[if_pos h5,decide_eq_true (show (n:Int)>512 by omega)]
  rfl
 have htb:yp n<=4*n+8/\4*n+4<=yp n:=by unfold yp;split<;>omega
 rw[if_neg h5,decide_eq_false (show ¬(n:Int)>512 by omega),zd5 (by omega)]
 dsimp only[ze,zg,zmS,z6,zu]
 by_cases h6:b.length<yp n
 ·rw[if_pos h6,decide_eq_true (show (b.length:Int)<(yp n:Int) by omega)]
  rfl
 rw[if_neg h6,decide_eq_false (show ¬(b.length:Int)<(yp n:Int) by omega),Int.tmod_eq_emod_of_nonneg (by omega),zh (x:=(n:Int)+1) (by omega)]
 dsimp only[zu]
 have loop:=zkB hb hl (n:=n) (by omega) (by omega) n 1 (yp n) [] (by omega) (by omega) (by simp)
 have e:(y3 b n 1 (b.drop (yp n))).map (([]:List (List Int))++·)=y3 b n 1 (b.drop (yp n)):=by
  cases y3 b n 1 (b.drop (yp n))<;>rfl
 rw[e] at loop
 by_cases h7:n%2=0
 ·have hE:ev 85 [.pv (.sl 1 (bs b)),.pv (I ((n:Int)+1))] []=ok (I (zF b (n+1))):=by
   have ht:yp n=4*n+8:=by unfold yp;rw[if_pos h7]
   have:=KE hb hl (i:=n+1) (by omega)
   rw[show ((n+1:Nat):Int)=(n:Int)+1 by push_cast;rfl] at this
   exact this
  rw[show ((n:Int)%2==0)=true by rw[beq_iff_eq];omega,hE]
  dsimp only[ze,zg,zmS,z6,zc]
  by_cases h8:zF b (n+1)=0
  ·rw[h8,if_neg (fun h=>h.2 rfl),show ((0:Int) != 0)=false from rfl]
   exact loop
  ·rw[if_pos ⟨h7,h8⟩,wi h8]
   rfl
 ·rw[show ((n:Int)%2==0)=false by rw[beq_eq_false_iff_ne];omega,if_neg (fun h=>h7 h.1)]
  exact loop
def Yj (w:List Int):List Int:=e4 0++e4 w.length++zA w
theorem qc (w:List Int):(Yj w).length=8+8*w.length:=by
 unfold Yj
 rw[List.length_append,xc]
 rfl
theorem zdu {w:List Int} (hw:w.length<536870912):ev 105 [.pv (.sl 1 [.sl 1 (ws w)])] []=some (.ret (.tup 0 (.slu 5 1 (bs (Yj w))) [.v .nilIface,I 0]),[]):=by
 have p1:=ga (acc:=[]) (by simp) 0
 have p2:=ga (acc:=e4 0) (by decide) (w.length:Int)
 have hb:=ZV w (by omega)
 have ht:ev 167 [.pv (I 1)] []=ok (I 8):=gj (n:=1) (by omega)
 have hl:((bs (e4 0++e4 (w.length:Int))).length:Int)=8:=by rw[zR];rfl
 rw[zhL,show decide (((([.sl 1 (ws w)]:List PV).length:Nat):Int)<1)=false from rfl,show decide (((([.sl 1 (ws w)]:List PV).length:Nat):Int)>512)=false from rfl,show IntKind.wrap .i64 (((([.sl 1 (ws w)]:List PV).length:Nat):Int)-1)=0 from rfl]
 dsimp only[zu]
 have p1':ev 166 [.slu 5 1 [],.pv (I 0)] []=some (.ret (.slu 5 1 (bs (e4 0))),[]):=p1
 rw[p1']
 dsimp only[ze]
 rw[yE]
 dsimp only[zmS]
 rw[j5,show decide ((0:Int)<((([.sl 1 (ws w)]:List PV).length:Nat):Int))=true from rfl,show decide ((0:Int)<=0)=true from rfl,show ([.sl 1 (ws w)]:List PV)[(0:Int).toNat]? = some (.sl 1 (ws w)) from rfl]
 dsimp only[zr,zmS,Zd,zmQ,yC,zc]
 rw[yl,decide_eq_false (show ¬(w.length:Int)≥536870912 by omega),p2]
 dsimp only[ze,zu]
 rw[yE]
 dsimp only[zmS]
 rw[j5,show decide (IntKind.wrap .i64 ((0:Int)+1)<((([.sl 1 (ws w)]:List PV).length:Nat):Int))=false from rfl,show ((([.sl 1 (ws w)]:List PV).length:Nat):Int)=1 from rfl,ht]
 dsimp only[ze,zg,zmS,z6,zu]
 rw[hl,show IntKind.wrap .i64 ((8:Int)-8)=0 from rfl,show (decide ((0:Int)<=0)&&decide ((0:Int)<=140737488355328))=true from rfl,show List.replicate (0:Int).toNat (PV.v (.int .u8 0))=[] from rfl,List.append_nil,show yk ((bs (e4 0++e4 (w.length:Int))).length+([]:List PV).length) 1=true from by rw[zR];rfl]
 dsimp only[zc]
 rw[j6,show decide ((0:Int)<1)=true from rfl,show decide ((0:Int)<((([.sl 1 (ws w)]:List PV).length:Nat):Int))=true from rfl,show decide ((0:Int)<=0)=true from rfl,show ([.sl 1 (ws w)]:List PV)[(0:Int).toNat]? = some (.sl 1 (ws w)) from rfl]
 dsimp only[zr,zmS,Zd,zmQ,zc]
 rw[hb]
 dsimp only[ze,zg,zmS,yC]
 rw[show decide ((1:Nat)=1)=true from rfl,yW (by rw[zR,zR,xc,List.length_append];show (4+4+_)*1<=_;omega) (by rw[zR,zR,xc,List.length_append];show 4+4+_<=_;omega)]
 dsimp only[zc]
 rw[j6,show decide (IntKind.wrap .i64 ((0:Int)+1)<1)=false from rfl,←Zx]
 rfl
def Ym (s b:Int):Int:=IntKind.wrap .u64 ((IntKind.wrap .u64 ((BitVec.ofInt 64 s ^^^ BitVec.ofInt 64 (IntKind.wrap .u64 b)).toNat:Nat))*1099511628211)
def xV (s:Int) (l:List Int):Int:=l.foldl Ym s
theorem wrap64 (x:Int):IntKind.wrap .u64 x=x%18446744073709551616:=by
 simp[IntKind.wrap,IntKind.bits,IntKind.signed]
theorem zk9 (s b:Int):zH (Ym s b):=by
 unfold Ym
 rw[wrap64]
 exact ⟨by omega,by omega⟩
theorem step_loop {l:List Int} (hl:l.length<=4611686018427387904):∀ (c i:Nat) (s:Int),i+c=l.length->Qh s (bs l) l.length i=ok (U (xV s (l.drop i))):=by
 intro c
 induction c with
 |zero=>
  intro i s hi
  rw[jX,decide_eq_false (by omega),List.drop_eq_nil_of_le (by omega)]
  rfl
 |succ c ih=>
  intro i s hi
  have hil:i<l.length:=by omega
  rw[jX,decide_eq_true (show (i:Int)<(l.length:Int) by omega),decide_eq_true (show 0<=(i:Int) by omega),decide_eq_true (show (i:Int)<((bs l).length:Int) by rw[zR];omega)]
  dsimp only[zr,zc]
  rw[Int.toNat_natCast,show (bs l)[i]? = some (U8 l[i]) by simp[bs,hil]]
  dsimp only[zmS,ym,zmQ,xF]
  rw[zh (x:=(i:Int)+1) (by omega)]
  have:=ih (i+1) (Ym s l[i]) (by omega)
  rw[List.drop_eq_getElem_cons hil]
  exact this
theorem zd9 {l:List Int} (hl:l.length<=4611686018427387904) (s:Int):ev 232 [.pv (U s),.pv (.sl 1 (bs l))] []=ok (U (xV s l)):=by
 rw[zhG,zR]
 exact step_loop hl l.length 0 s (by omega)
theorem zhD (s:Int) (a b:List Int):xV s (a++b)=xV (xV s a) b:=List.foldl_append ..
theorem zfw (w:Int) (l:List Int):zA (w::l)=w8 w++zA l:=rfl
theorem zhH {l:List Int} (hl:l.length<=17592186044416):∀ (c i:Nat) (s:Int),i+c=l.length->Qg (U s) (ws l) l.length i=ok (U (xV s (zA (l.drop i)))):=by
 intro c
 induction c with
 |zero=>
  intro i s hi
  rw[jW,decide_eq_false (by omega),List.drop_eq_nil_of_le (by omega)]
  rfl
 |succ c ih=>
  intro i s hi
  have hil:i<l.length:=by omega
  have hb:=ZV [l[i]] (by simp)
  have hs:=zd9 (l:=zA [l[i]]) (by rw[xc];simp) s
  rw[jW,decide_eq_true (show (i:Int)<(l.length:Int) by omega),decide_eq_true (show 0<=(i:Int) by omega),decide_eq_true (show (i:Int)<((ws l).length:Int) by rw[yl];omega)]
  dsimp only[zr,zc]
  rw[Int.toNat_natCast,Yq hil]
  have hb':ev 117 [.pv (.sl 1 [U l[i]])] []=ok (.sl 1 (bs (zA [l[i]]))):=hb
  dsimp only[zmS,ym,zmQ,↓zmi,zr,zc]
  rw[hb']
  dsimp only[ze,zg,zmS]
  rw[hs]
  dsimp only[ze,zg,zmS]
  rw[zh (x:=(i:Int)+1) (by omega)]
  have:=ih (i+1) (xV s (zA [l[i]])) (by omega)
  have e:zA [l[i]]=w8 l[i]:=by simp[zA]
  refine (show _=_ from this).trans ?_
  rw[e,List.drop_eq_getElem_cons hil,zfw,zhD]
def off:Int:=14695981039346656037
theorem zdO {l:List Int} (hl:l.length<=17592186044416):ev 177 [.pv (.sl 1 (ws l))] []=ok (U (xV off (zA l))):=by
 rw[zhF,zhE]
 dsimp only[ze,zg,zmS]
 rw[yl,show (14695981039346656037:Int)=off from rfl]
 exact zhH hl l.length 0 off (by omega)
theorem zmH (a c k:Nat):(a ^^^ c)%2^(k+1)=(a ^^^ c)%2^k+(if a/2^k%2≠c/2^k%2 then 2^k else 0):=by
 rw[Nat.mod_pow_succ,Nat.xor_div_two_pow]
 have h0:(a/2^k ^^^ c/2^k)%2^1=(a/2^k)%2^1 ^^^ (c/2^k)%2^1:=Nat.xor_mod_two_pow
 rw[Nat.pow_one] at h0
 have h1:=Nat.mod_two_eq_zero_or_one (a/2^k)
 have h2:=Nat.mod_two_eq_zero_or_one (c/2^k)
 rw[h0]
 rcases h1 with h1|h1<;>rcases h2 with h2|h2<;>simp[h1,h2]
theorem zmG (s c:Nat) (hc:c<256):s-s%256+(s%256 ^^^ c)=s ^^^ c:=by
 have h1:(s ^^^ c)%2^8=(s%2^8) ^^^ (c%2^8):=Nat.xor_mod_two_pow
 have h2:(s ^^^ c)/2^8=s/2^8 ^^^ c/2^8:=Nat.xor_div_two_pow
 have e1:c%2^8=c:=Nat.mod_eq_of_lt hc
 have e2:c/2^8=0:=Nat.div_eq_of_lt hc
 rw[e1] at h1
 rw[e2,Nat.xor_zero] at h2
 have h3:(2:Nat)^8=256:=rfl
 rw[h3] at h1 h2
 omega
theorem zmF (s c:Nat) (hs:s<18446744073709551616) (hc:c<256):(BitVec.ofInt 64 (s:Int) ^^^ BitVec.ofInt 64 (IntKind.wrap .u64 (c:Int))).toNat=s ^^^ c:=by
 have e1:∀ m:Nat,m<18446744073709551616->(BitVec.ofInt 64 (m:Int)).toNat=m:=fun m hm=>by simp;omega
 rw[wM (by omega),BitVec.toNat_xor,e1 s hs,e1 c (by omega)]
theorem zmI (s c:Nat) (hs:s<18446744073709551616) (hc:c<256):s ^^^ c<18446744073709551616:=Nat.xor_lt_two_pow (n:=64) hs (by omega)
theorem ze0 (s c:Nat) (hs:s<18446744073709551616) (hc:c<256):(IntKind.wrap .u64 ((IntKind.wrap .u64 ((IntKind.wrap .u64 ((IntKind.wrap .u64 ((IntKind.wrap .u64 ((s:Int)-((s%256:Nat):Int)))+((s%256 ^^^ c:Nat):Int)))*1099511627776))+(IntKind.wrap .u64 ((IntKind.wrap .u64 ((IntKind.wrap .u64 ((s:Int)-((s%256:Nat):Int)))+((s%256 ^^^ c:Nat):Int)))*256))))+(IntKind.wrap .u64 ((IntKind.wrap .u64 ((IntKind.wrap .u64 ((s:Int)-((s%256:Nat):Int)))+((s%256 ^^^ c:Nat):Int)))*179))))=Ym s c:=by
 have h:=zmG s c hc
 have h2:=zmI s c hs hc
 have hl:s%256<=s:=Nat.mod_le _ _
 have e1:IntKind.wrap .u64 ((s:Int)-((s%256:Nat):Int))=((s-s%256:Nat):Int):=by rw[wM (by omega)];omega
 have e2:IntKind.wrap .u64 (((s-s%256:Nat):Int)+((s%256 ^^^ c:Nat):Int))=((s ^^^ c:Nat):Int):=by
  rw[wM (by omega)];omega
 unfold Ym
 rw[e1,e2,zmF s c hs hc,wM (x:=((s ^^^ c:Nat):Int)) (by omega)]
 generalize s ^^^ c=t at h2
 simp only[wrap64]
 omega
theorem ze1 {l:List Int} {s c:Nat} (hs:s<18446744073709551616) (hc:c<256) (i:Int) (hi:0<=i/\i<=9000000000000000000):∀ (d k:Nat),k+d=8->Ws s (bs l) i ((s%256:Nat):Int) (((s%256 ^^^ c)%2^k:Nat):Int) c k=Xf (Ym s c) (bs l) (i+1):=by
 have hx:s%256 ^^^ c<256:=Nat.xor_lt_two_pow (n:=8) (by omega) (by omega)
 intro d
 induction d with
 |zero=>
  intro k hk
  obtain rfl:k=8:=by omega
  rw[rO,show decide (((8:Nat):Int)<8)=false from rfl,Nat.mod_eq_of_lt (show s%256 ^^^ c<2^8 from hx),ze0 s c hs hc,zh (x:=i+1) (by omega)]
  rfl
 |succ d ih=>
  intro k hk
  have hp:0<2^k:=Nat.pow_pos (by decide)
  have hp2:2^k<=2^7:=Nat.pow_le_pow_right (by decide) (by omega)
  have hpow:=zds k (by omega)
  have q:∀ a:Nat,a<256->Int.tmod (IntKind.wrap .u64 (Int.tdiv (a:Int) ((2^k:Nat):Int))) 2=((a/2^k%2:Nat):Int):=fun a ha=>by
   have h1:Int.tdiv (a:Int) ((2^k:Nat):Int)=((a/2^k:Nat):Int):=by
    rw[Int.tdiv_eq_ediv_of_nonneg (by omega)];exact (Int.natCast_ediv a (2^k)).symm
   have h2:a/2^k<=a:=Nat.div_le_self _ _
   generalize a/2^k=z at h1 h2
   rw[h1,wM (by omega),Int.tmod_eq_emod_of_nonneg (by omega)]
   omega
  have ok:yS .quo ((2^k:Nat):Int)=true:=by
   have:((2^k:Nat):Int)≠0:=by omega
   simp only[yS]
   simpa using this
  have hm:(s%256 ^^^ c)%2^k<2^k:=Nat.mod_lt _ hp
  have hn:=ih (k+1) (by omega)
  rw[zmH] at hn
  rw[rO,decide_eq_true (show (k:Int)<8 by omega),hpow]
  dsimp only[ze,zg,zmS,wR,zc]
  rw[ok]
  dsimp only[zc]
  rw[q _ (Nat.mod_lt _ (by decide)),q c hc,zh (x:=(k:Int)+1) (by omega)]
  by_cases g:s%256/2^k%2=c/2^k%2
  ·rw[if_neg (fun h=>h g),Nat.add_zero] at hn
   rw[show (((s%256/2^k%2:Nat):Int) != ((c/2^k%2:Nat):Int))=false from by rw[g];simp]
   exact hn
  ·rw[if_pos g] at hn
   rw[bne_iff_ne.2 (show ((s%256/2^k%2:Nat):Int)≠((c/2^k%2:Nat):Int) by omega)]
   dsimp only[zc]
   rw[wM (by omega)]
   exact hn
theorem ze2 {l:List Int} (hb:∀ b∈l,zm b) (hl:l.length<=4611686018427387904):∀ (d i:Nat) (s:Int),zH s->i+d=l.length->Xf s (bs l) i=ok (U (xV s (l.drop i))):=by
 intro d
 induction d with
 |zero=>
  intro i s hs hi
  rw[rN,decide_eq_false (by rw[zR];omega),List.drop_eq_nil_of_le (by omega)]
  rfl
 |succ d ih=>
  intro i s hs hi
  have hil:i<l.length:=by omega
  obtain ⟨b1,b2⟩:=hb _ (List.getElem_mem hil)
  obtain ⟨s1,s2⟩:=hs
  obtain ⟨n,hn⟩:=Int.eq_ofNat_of_zero_le s1
  obtain ⟨c,hc⟩:=Int.eq_ofNat_of_zero_le b1
  have h:=ze1 (l:=l) (s:=n) (c:=c) (by omega) (by omega) (i:Int) (by omega) 8 0 rfl
  have hm:Int.tmod s 256=((n%256:Nat):Int):=by rw[hn,Int.tmod_eq_emod_of_nonneg (by omega)];omega
  rw[rN,decide_eq_true (show (i:Int)<((bs l).length:Int) by rw[zR];omega),decide_eq_true (show 0<=(i:Int) by omega)]
  dsimp only[zr,zc]
  rw[Int.toNat_natCast,show (bs l)[i]? = some (U8 l[i]) by simp[bs,hil]]
  dsimp only[zmS,ym,zmQ,xF]
  rw[hm,wM (x:=l[i]) (by omega)]
  rw[Nat.pow_zero,Nat.mod_one] at h
  have hih:=ih (i+1) (Ym s l[i]) (zk9 _ _) (by omega)
  rw[List.drop_eq_getElem_cons hil]
  rw[hn,hc] at hih ⊢
  exact (show _=_ from h).trans hih
theorem uI {l:List Int} (hb:∀ b∈l,zm b) (hl:l.length<=4611686018427387904):ev 42 [.pv (.sl 1 (bs l))] []=ok (U (xV off l)):=by
 have h:=ze2 hb hl l.length 0 off ⟨by decide,by decide⟩ (by omega)
 rw[List.drop_zero] at h
 have h':Xf 14695981039346656037 (bs l) 0=ok (U (xV off l)):=h
 rw[zgf,zge,h']
 rfl
theorem eqB_true {α:Type} {x y:α}:yV x y=true↔x=y:=by
 by_cases h:x=y
 ·exact ⟨fun _=>h,fun _=>wD h⟩
 ·exact ⟨fun e=>by (rw[wC h] at e;cases e),fun e=>absurd e h⟩
theorem zff (b:ByteArray):∀ (c i:Nat) (r:List UInt8),i+c=b.size->ByteArray.toList.loop b i r=r.reverse++b.data.toList.drop i:=by
 intro c
 induction c with
 |zero=>
  intro i r hi
  unfold ByteArray.toList.loop
  rw[if_neg (by omega),List.drop_of_length_le (by rw[Array.length_toList];have:b.size=b.data.size:=rfl;omega),List.append_nil]
 |succ c ih=>
  intro i r hi
  have hib:i<b.data.size:=by show i<b.size;omega
  unfold ByteArray.toList.loop
  rw[if_pos (by omega),ih (i+1) _ (by omega),List.reverse_cons,List.append_assoc]
  congr 1
  conv=>rhs;rw[List.drop_eq_getElem_cons (by rw[Array.length_toList];exact hib)]
  have:b.get! i=b.data[i]:=by
   show b.data[i]! = b.data[i]
   rw[getElem!_pos b.data i hib]
  rw[this,Array.getElem_toList]
  rfl
theorem gG (b:ByteArray):b.toList=b.data.toList:=by
 unfold ByteArray.toList
 rw[zff b b.size 0 [] (by omega)]
 rfl
theorem zcd {a b:List Int} (ha:∀ x∈a,zm x) (hb:∀ x∈b,zm x) (h:(strOfNums a).toList=(strOfNums b).toList):a=b:=by
 rw[gG,gG,strOfNums_data,strOfNums_data] at h
 have hl:a.length=b.length:=by have:=congrArg List.length h;simpa using this
 apply List.ext_getElem hl
 intro i h1 h2
 have e:=congrArg (fun l:List UInt8=>l[i]?) h
 simp only[List.getElem?_map,List.getElem?_eq_getElem h1,List.getElem?_eq_getElem h2,Option.map_some,Option.some.injEq] at e
 obtain ⟨p1,p2⟩:=ha _ (List.getElem_mem h1)
 obtain ⟨q1,q2⟩:=hb _ (List.getElem_mem h2)
 have:=congrArg UInt8.toNat e
 rw[UInt8.toNat_ofNat',UInt8.toNat_ofNat',Nat.mod_eq_of_lt (by omega),Nat.mod_eq_of_lt (by omega)] at this
 omega
theorem WV:∀ a:List Int,vB (bs a)=some a
 |[]=>rfl
 |x::a=>by
  show (vB (bs a)).map (fun l=>x::l)=some (x::a)
  rw[WV a];rfl
theorem zdB {a b:List Int} (ha:∀ x∈a,zm x) (hb:∀ x∈b,zm x):ev 212 [.pv (.sl 1 (bs a)),.pv (.sl 1 (bs b))] []=ok (Bo (yV a b)):=by
 rw[zfz,WV,zmS,WV,zmS]
 by_cases h:a=b
 ·rw[wD h,beq_iff_eq.2 (by rw[h])]
 ·rw[wC h,beq_eq_false_iff_ne.2 (fun e=>h (zcd ha hb e))]
def V2 (l:List (List Int)) (D:Nat) (m:Int) (o:Ob):Nd×Int×Int:=if o.kind=1 then zQ (zG l D) l m o else xo (zG l D) l m o
def K1 (o:Ob):Prop:=o.kind=1->o.elem=0/\o.n=0
theorem zi6 (l:List (List Int)) (s a:Int):K1 (yn l s a).1:=by
 have hb:∀ e,K1 (bad e).1:=fun e h=>⟨rfl,rfl⟩
 unfold yn wQ wG xY wn
 repeat' split
 all_goals first
  |exact hb _
  |exact fun _=>⟨rfl,rfl⟩
  |exact fun h=>absurd h (show ¬((2:Int)=1) by decide)
def Dn (l:List (List Int)) (D:Nat) (o:Ob) (n:Nd):Prop:=(o=wF/\n=nd0)∨∃ D',D=D'+1/\Za l o/\Np o/\K1 o/\∃ m,(V2 l D' m o).2.2=0/\(V2 l D' m o).1=n
theorem V3 {l:List (List Int)} (hl:zJ l) (hs:Sm l) {D:Nat} {m s a:Int} (h:(zG l D m s a).2.2=0):Dn l D (yn l s a).1 (zG l D m s a).1:=by
 by_cases he:(zV l s a).2.2.2=0
 ·by_cases h0:(zV l s a).1=0
  ·rw[Ww he h0]
   refine .inl ⟨?_,rfl⟩
   unfold yn
   rw[if_pos he,if_pos h0]
   rfl
  ·cases D with
   |zero=>rw[K7 he h0] at h;exact absurd h (by show ¬((7:Int)=0);decide)
   |succ D=>
    rw[K8 he h0] at h ⊢
    unfold xu at h ⊢
    by_cases hf:(yn l s a).2=0
    ·rw[if_pos hf] at h ⊢
     by_cases h8:(yn l s a).1.cost>m
     ·rw[if_pos h8] at h;exact absurd h (by show ¬((8:Int)=0);decide)
     ·rw[if_neg h8] at h ⊢
      exact .inr ⟨D,rfl,XD hl hs h0 he hf,za1 hl hs h0 he hf,zi6 l s a,m-(yn l s a).1.cost,h,rfl⟩
    ·rw[if_neg hf] at h;exact absurd h hf
 ·rw[Xl he] at h;exact absurd h he
theorem jn {l:List (List Int)} {D:Nat} {o:Ob} {n:Nd} (h:Dn l D o n):n.kind=o.kind/\n.elem=o.elem/\n.n=o.n:=by
 rcases h with ⟨rfl,rfl⟩|⟨D',_,hok,_,hk1,m,hz,rfl⟩
 ·exact ⟨rfl,rfl,rfl⟩
 ·obtain ⟨_,_,_,_,_,_,hk,_⟩:=hok
  unfold V2 at hz ⊢
  by_cases h1:o.kind=1
  ·rw[if_pos h1] at hz ⊢
   have hz':(zO (fun m (i:Nat)=>zG l D' m o.seg (o.at_+o.data+i)) o.ptrs.toNat 0 m []).2.2=0:=hz
   unfold zQ
   rw[vZ hz']
   exact ⟨h1.symm,(hk1 h1).1.symm,(hk1 h1).2.symm⟩
  ·rw[if_neg h1] at hz ⊢
   have h2:o.kind=2:=by omega
   unfold xo at hz ⊢
   by_cases h6:o.elem<6
   ·rw[if_pos h6];exact ⟨h2.symm,rfl,rfl⟩
   ·rw[if_neg h6] at hz ⊢
    have hz':(zO (fun m (i:Nat)=>if o.elem=6 then zG l D' m o.seg (o.at_+i) else zQ (zG l D') l m (yj o i)) o.n.toNat 0 m []).2.2=0:=hz
    rw[vZ hz']
    exact ⟨h2.symm,rfl,rfl⟩
def vw (l:List (List Int)) (o:Ob) (i:Nat):Ob:=if (i:Int)≥wK o then wF else (yn l o.seg (yZ o+i)).1
theorem zcf {l:List (List Int)} (hl:zJ l) (hs:Sm l) {D:Nat} {m:Int} {o:Ob} (hk:o.kind=1) (hq:0<=o.ptrs) (h:(zQ (zG l D) l m o).2.2=0):∃ ks,(zQ (zG l D) l m o).1=.mk 1 0 0 (zA (cutB l o.seg o.at_ o.data)) ks/\ks.length=o.ptrs.toNat/\∀ i,Dn l D (vw l o i) (ks.getD i nd0):=by
 have hz:(zO (fun m (i:Nat)=>zG l D m o.seg (o.at_+o.data+i)) o.ptrs.toNat 0 m []).2.2=0:=h
 obtain ⟨ks,e1,e2,e3⟩:=zaH (G:=fun m (i:Nat)=>zG l D m o.seg (o.at_+o.data+i)) o.ptrs.toNat 0 m [] hz
 refine ⟨ks,?_,e2,fun i=>?_⟩
 ·unfold zQ
  rw[vZ hz]
  dsimp only
  rw[e1,List.nil_append]
 ·have hN:wK o=o.ptrs:=by
   unfold wK
   by_cases h0:0<o.ptrs
   ·rw[if_pos ⟨hk,h0⟩]
   ·rw[if_neg (fun x=>h0 x.2),if_neg (fun x=>absurd x.1 (by omega))];omega
  unfold vw
  rw[hN]
  by_cases hi:(i:Int)≥o.ptrs
  ·rw[if_pos hi,List.getD_eq_getElem?_getD,List.getElem?_eq_none (by omega)]
   exact .inl ⟨rfl,rfl⟩
  ·rw[if_neg hi]
   have hik:i<ks.length:=by omega
   obtain ⟨m1,f1,f2⟩:=e3 i hik
   rw[List.getD_eq_getElem?_getD,List.getElem?_eq_getElem hik,Option.getD_some,←f2,Nat.zero_add]
   rw[Nat.zero_add] at f1
   have hA:yZ o=o.at_+o.data:=by unfold yZ;rw[if_pos ⟨hk,by omega⟩]
   rw[hA]
   exact V3 hl hs f1
abbrev WX (la lb:List (List Int)):AV:=.pv (.agg [.sl 1 (zL la),.sl 1 (zL lb)])
theorem uY {l:List (List Int)} (hl:zJ l) (hs:Sm l) {o:Ob} (hat:0<=o.at_/\o.at_<=1125899906842624) (hdt:0<=o.data/\o.data<=65535) (hA:0<=yZ o/\yZ o<=2251799813685248) {i:Nat} (hi:i<=1073741824):ev 239 [.pv (.sl 1 (zL l)),.pv (.agg o.c),.pv (I i)] []=ok (.agg (vw l o i).c):=by
 have hp:=uD o (by omega)
 rw[Ob.c] at hp ⊢
 rw[zhe,hp]
 dsimp only[ze,zg,zmS,z4,zmR,zmQ,z6]
 unfold vw
 by_cases h:(i:Int)≥wK o
 ·rw[decide_eq_true h,if_pos h];rfl
 ·rw[decide_eq_false h,if_neg h,zh (x:=yZ o+i) (by omega),Ky hl hs]
  rfl
theorem Vw {l:List (List Int)} (hl:zJ l) (o:Ob) {n:Int} (hn:n<=17592186044416):ev 236 [.pv (.sl 1 (zL l)),.pv (.agg o.c),.pv (I n)] []=ok (.sl 1 (ws (cutB l o.seg o.at_ n))):=by
 rw[Ob.c,zhl,uH hl _ _ _ hn]
 rfl
theorem zj5 {la lb:List (List Int)} {x y:Ob} {q:Nat} (hq:q<=1073741824) (f:Nat->Bool)
  (hx:∀ i,i<q->ev 239 [.pv (.sl 1 (zL la)),.pv (.agg x.c),.pv (I i)] []=ok (.agg (vw la x i).c)) (hy:∀ i,i<q->ev 239 [.pv (.sl 1 (zL lb)),.pv (.agg y.c),.pv (I i)] []=ok (.agg (vw lb y i).c))
  (hf:∀ i,i<q->ev 111 [WX la lb,.pv (.agg (vw la x i).c),.pv (.agg (vw lb y i).c)] []=ok (Bo (f i))):∀ (c i:Nat),i+c=q->(∀ j,j<i->f j=true)->
  Qb q i (zL la) (zL lb) x.kind x.seg x.at_ x.data x.ptrs x.elem x.n x.cost y.kind y.seg y.at_ y.data y.ptrs y.elem y.n y.cost=ok (Bo ((List.range q).all f)):=by
 intro c
 induction c with
 |zero=>
  intro i hi hj
  rw[jE,decide_eq_false (by omega),List.all_eq_true.2 (fun j h=>hj j (by have:=List.mem_range.1 h;omega))]
  rfl
 |succ c ih=>
  intro i hi hj
  have e1:=hx i (by omega)
  have e2:=hy i (by omega)
  have e3:=hf i (by omega)
  rw[Ob.c] at e1 e2
  rw[jE,decide_eq_true (by omega),e1]
  dsimp only[ze,zg,zmS,zc]
  rw[e2]
  dsimp only[ze,zg,zmS]
  rw[e3]
  dsimp only[ze,zg,zmS,xf]
  cases hfi:f i with
  |true=>
   dsimp only[vv,zu]
   rw[zh (x:=(i:Int)+1) (by omega)]
   exact ih (i+1) (by omega) fun j h=>by
    rcases Nat.lt_or_ge j i with h1|h1
    ·exact hj j h1
    ·rw[show j=i by omega];exact hfi
  |false=>
   rw[show (List.range q).all f=false from by
    rw[Bool.eq_false_iff]
    intro h
    have:=List.all_eq_true.1 h i (List.mem_range.2 (by omega))
    rw[hfi] at this;cases this]
   rfl
theorem getD_map (l:List Nd) (i:Nat):(l.map zi).getD i nd0=zi (l.getD i nd0):=by
 simp only[List.getD_eq_getElem?_getD,List.getElem?_map]
 cases l[i]? with
 |none=>rfl
 |some x=>rfl
theorem gO {p q:Bool} (h:p=true↔q=true):p=q:=Bool.eq_iff_iff.2 h
def Wa (la lb:List (List Int)) (D:Nat):Prop:=∀ x y nx ny,Dn la D x nx->Dn lb D y ny->ev 111 [WX la lb,.pv (.agg x.c),.pv (.agg y.c)] []=ok (Bo (yV (zi nx) (zi ny)))
def Wi (o:Ob):Prop:=(0<=o.at_/\o.at_<=1125899906842624)/\(0<=o.data/\o.data<=65535)/\(0<=o.ptrs/\o.ptrs<=65535)
theorem zcR {o:Ob} (h:Wi o) (hk:o.kind=1):0<=yZ o/\yZ o<=2251799813685248:=by
 obtain ⟨h1,h2,h3⟩:=h
 unfold yZ
 split
 ·omega
 ·rw[if_neg (fun x=>absurd x.1 (by omega))];omega
theorem uZ {la lb:List (List Int)} (hla:zJ la) (hsa:Sm la) (hlb:zJ lb) (hsb:Sm lb) {D:Nat} (ih:Wa la lb D) {x y:Ob} (hx1:0<=x.at_/\x.at_<=1125899906842624) (hx2:0<=x.data/\x.data<=65535) (hx3:0<=yZ x/\yZ x<=2251799813685248) (hy1:0<=y.at_/\y.at_<=1125899906842624) (hy2:0<=y.data/\y.data<=65535) (hy3:0<=yZ y/\yZ y<=2251799813685248) {q:Nat} (hq:q<=1073741824) {kx ky:List Nd}
  (dx:∀ i,i<q->Dn la D (vw la x i) (kx.getD i nd0)) (dy:∀ i,i<q->Dn lb D (vw lb y i) (ky.getD i nd0)):ev 183 [WX la lb,.pv (.agg x.c),.pv (.agg y.c),.pv (I q)] []=ok (Bo ((List.range q).all fun i=>yV (zi (kx.getD i nd0)) (zi (ky.getD i nd0)))):=by
 have:=zj5 (la:=la) (lb:=lb) (x:=x) (y:=y) hq (fun i=>yV (zi (kx.getD i nd0)) (zi (ky.getD i nd0))) (fun i hi=>uY hla hsa hx1 hx2 hx3 (by omega)) (fun i hi=>uY hlb hsb hy1 hy2 hy3 (by omega)) (fun i hi=>ih _ _ _ _ (dx i hi) (dy i hi)) q 0 (by omega) (fun j h=>absurd h (by omega))
 rw[Ob.c,Ob.c,zhh]
 exact this
theorem gA {q:Nat} {kx ky:List Nd}:((List.range q).all fun i=>yV (zi (kx.getD i nd0)) (zi (ky.getD i nd0)))=true↔∀ i,i<q->(kx.map zi).getD i nd0=(ky.map zi).getD i nd0:=by
 rw[List.all_eq_true]
 constructor
 ·intro h i hi
  rw[getD_map,getD_map]
  exact eqB_true.1 (h i (List.mem_range.2 hi))
 ·intro h i hi
  have:=h i (List.mem_range.1 hi)
  rw[getD_map,getD_map] at this
  exact eqB_true.2 this
theorem zl4 {k e n:Int} {d:List Int} {ks:List Nd} (h:VN (.mk k e n d ks)):∀ y∈ks,VN y:=by
 cases h with
 |mk v1 v2 v3=>exact v1
theorem zcK (d:List Int) (ks:List Nd):zi (.mk 1 0 0 d ks)=.mk 1 0 0 (d.take (8*yq d)) ((ks.map zi).take (yf (ks.map zi))):=by
 rw[zi,if_pos rfl,xb]
 have:=QJ ks
 rw[xb] at this
 rw[this]
theorem zcP {k e n:Int} {d:List Int} {ks:List Nd} (h:VN (.mk k e n d ks)):∀ y∈ks,VN y:=(zl4 h)
theorem gh {la lb:List (List Int)} (hla:zJ la) (hsa:Sm la) (hlb:zJ lb) (hsb:Sm lb) {D:Nat} (ih:Wa la lb D) {x y:Ob} (hx:Wi x) (hy:Wi y) (kx:x.kind=1) (ky:y.kind=1) {m m':Int} (zx:(zQ (zG la D) la m x).2.2=0) (zy:(zQ (zG lb D) lb m' y).2.2=0):ev 181 [WX la lb,.pv (.agg x.c),.pv (.agg y.c)] []=ok (Bo (yV (zi (zQ (zG la D) la m x).1) (zi (zQ (zG lb D) lb m' y).1))):=by
 obtain ⟨cx,e1,e2,e3⟩:=zcf hla hsa kx hx.2.2.1 zx
 obtain ⟨cy,f1,f2,f3⟩:=zcf hlb hsb ky hy.2.2.1 zy
 have vx:=(Q0 (Wx hla hsa D) la m hx.2.1.2 hx.2.2 zx).1
 have vy:=(Q0 (Wx hlb hsb D) lb m' hy.2.1.2 hy.2.2 zy).1
 rw[e1] at vx ⊢
 rw[f1] at vy ⊢
 have px:=uZ (D:=D) hla hsa hlb hsb ih (x:=x) (y:=y) hx.1 hx.2.1 (zcR hx kx) hy.1 hy.2.1 (zcR hy ky) (q:=max cx.length cy.length) (by obtain ⟨_,_,a⟩:=hx;obtain ⟨_,_,b⟩:=hy;omega) (kx:=cx) (ky:=cy) (fun i _=>e3 i) (fun i _=>f3 i)
 have hq:(if y.ptrs>x.ptrs then y.ptrs else x.ptrs)=((max cx.length cy.length:Nat):Int):=by
  obtain ⟨_,_,a⟩:=hx
  obtain ⟨_,_,b⟩:=hy
  split<;>omega
 have wx:=Vw hla x (n:=x.data) (by obtain ⟨_,a,_⟩:=hx;omega)
 have wy:=Vw hlb y (n:=y.data) (by obtain ⟨_,a,_⟩:=hy;omega)
 have lx:=Zh la x.seg x.at_ x.data
 have ly:=Zh lb y.seg y.at_ y.data
 have dd:=Vp (a:=cutB la x.seg x.at_ x.data) (b:=cutB lb y.seg y.at_ y.data) (by obtain ⟨_,a,_⟩:=hx;omega) (by obtain ⟨_,a,_⟩:=hy;omega)
 have hwx:=(VY hla x.seg x.at_ x.data).2
 have hwy:=(VY hlb y.seg y.at_ y.data).2
 rw[zcK,zcK,qo hwx,qo hwy]
 generalize cutB la x.seg x.at_ x.data=ux at *
 generalize cutB lb y.seg y.at_ y.data=uy at *
 have kxv:∀ z∈cx.map zi,VN z:=fun z hz=>by
  obtain ⟨u,hu,rfl⟩:=List.mem_map.1 hz
  exact XY u ((zcP vx) u hu)
 have kyv:∀ z∈cy.map zi,VN z:=fun z hz=>by
  obtain ⟨u,hu,rfl⟩:=List.mem_map.1 hz
  exact XY u ((zcP vy) u hu)
 have hcut:=zgI kxv kyv (q:=max cx.length cy.length) (by rw[List.length_map];omega) (by rw[List.length_map];omega)
 rw[Ob.c] at wx wy px
 rw[Ob.c] at px
 rw[Ob.c,Ob.c,zhj,wx]
 dsimp only[ze,zg,zmS]
 rw[wy]
 dsimp only[ze,zg,zmS]
 rw[dd,hq]
 dsimp only[ze,zg,zmS,xf]
 by_cases hd:yQ ux=yQ uy
 ·rw[wD hd]
  dsimp only[zc]
  rw[px]
  dsimp only[ze,zg,zmS,xf]
  refine congrArg (fun b=>ok (Bo b)) (gO ?_)
  rw[gA,eqB_true,←hcut,hd]
  simp
 ·have hne:¬(Nd.mk 1 0 0 (zA (yQ ux)) ((cx.map zi).take (yf (cx.map zi)))=Nd.mk 1 0 0 (zA (yQ uy)) ((cy.map zi).take (yf (cy.map zi)))):=fun h=>hd (VE (fun z hz=>hwx z (List.mem_of_mem_take hz)) (fun z hz=>hwy z (List.mem_of_mem_take hz)) (by injection h))
  rw[wC hd,wC hne]
  rfl
theorem zgy {la lb:List (List Int)} {x y:Ob} {q:Nat} (hq:q<=536870911) (f:Nat->Bool)
  (hx:∀ i:Nat,i<q->ev 238 [.pv (.agg x.c),.pv (I i)] []=ok (.agg (yj x i).c)) (hy:∀ i:Nat,i<q->ev 238 [.pv (.agg y.c),.pv (I i)] []=ok (.agg (yj y i).c))
  (hf:∀ i:Nat,i<q->ev 181 [WX la lb,.pv (.agg (yj x i).c),.pv (.agg (yj y i).c)] []=ok (Bo (f i))):∀ (c i:Nat),i+c=q->(∀ j,j<i->f j=true)->
  Xs q i (zL la) (zL lb) x.kind x.seg x.at_ x.data x.ptrs x.elem x.n x.cost y.kind y.seg y.at_ y.data y.ptrs y.elem y.n y.cost=ok (Bo ((List.range q).all f)):=by
 intro c
 induction c with
 |zero=>
  intro i hi hj
  rw[jD,decide_eq_false (by omega),List.all_eq_true.2 (fun j h=>hj j (by have:=List.mem_range.1 h;omega))]
  rfl
 |succ c ih=>
  intro i hi hj
  have e1:=hx i (by omega)
  have e2:=hy i (by omega)
  have e3:=hf i (by omega)
  rw[Ob.c] at e1 e2
  rw[jD,decide_eq_true (by omega),e1]
  dsimp only[ze,zg,zmS,zc]
  rw[e2]
  dsimp only[ze,zg,zmS]
  rw[e3]
  dsimp only[ze,zg,zmS,xf]
  cases hfi:f i with
  |true=>
   dsimp only[vv,zu]
   rw[zh (x:=(i:Int)+1) (by omega)]
   exact ih (i+1) (by omega) fun j h=>by
    rcases Nat.lt_or_ge j i with h1|h1
    ·exact hj j h1
    ·rw[show j=i by omega];exact hfi
  |false=>
   rw[show (List.range q).all f=false from by
    rw[Bool.eq_false_iff]
    intro h
    have:=List.all_eq_true.1 h i (List.mem_range.2 (by omega))
    rw[hfi] at this;cases this]
   rfl
theorem zaM {l:List (List Int)} {D:Nat} {m:Int} {o:Ob} (h6:¬o.elem<6) (h:(xo (zG l D) l m o).2.2=0):∃ ks,(xo (zG l D) l m o).1=.mk 2 o.elem o.n [] ks/\ks.length=o.n.toNat/\∀ (j:Nat) (hj:j<ks.length),∃ m1,(if o.elem=6 then zG l D m1 o.seg (o.at_+j) else zQ (zG l D) l m1 (yj o j)).2.2=0/\(if o.elem=6 then zG l D m1 o.seg (o.at_+j) else zQ (zG l D) l m1 (yj o j)).1=ks[j]:=by
 unfold xo at h ⊢
 rw[if_neg h6] at h ⊢
 have hz:(zO (fun m (i:Nat)=>if o.elem=6 then zG l D m o.seg (o.at_+i) else zQ (zG l D) l m (yj o i)) o.n.toNat 0 m []).2.2=0:=h
 obtain ⟨ks,e1,e2,e3⟩:=zaH (G:=fun m (i:Nat)=>if o.elem=6 then zG l D m o.seg (o.at_+i) else zQ (zG l D) l m (yj o i)) o.n.toNat 0 m [] hz
 refine ⟨ks,?_,e2,fun j hj=>?_⟩
 ·rw[vZ hz]
  dsimp only
  rw[e1,List.nil_append]
 ·have:=e3 j hj
  rw[Nat.zero_add] at this
  exact this
theorem Kd {k e n:Int} (hk:k=2) (d:List Int) (ks:List Nd):zi (.mk k e n d ks)=.mk k e n d (ks.map zi):=by
 rw[zi,if_neg (by omega),xb]
theorem zhS {a b:List Nd} {q:Nat} (ha:a.length=q) (hb:b.length=q):a=b↔∀ i,i<q->a.getD i nd0=b.getD i nd0:=by
 constructor
 ·intro h i _;rw[h]
 ·intro h
  apply List.ext_getElem (by omega)
  intro i h1 h2
  have:=h i (by omega)
  simp only[List.getD_eq_getElem?_getD,List.getElem?_eq_getElem h1,List.getElem?_eq_getElem h2,Option.getD_some] at this
  exact this
theorem zcE (x:Nd):(zi x).n=x.n:=by
 cases x with
 |mk k e n d ks=>rw[zi];split<;>rfl
theorem zj4 {o:Ob} (hk:o.kind=2) (h7:o.elem=6):(0<o.n->yZ o=o.at_/\wK o=o.n)/\(yZ o=o.at_∨yZ o=0):=by
 have hA:yZ o=if 0<o.n then o.at_ else 0:=by
  unfold yZ
  rw[if_neg (fun x=>absurd x.1 (by omega))]
  by_cases h:0<o.n
  ·rw[if_pos ⟨hk,h7,h⟩,if_pos h]
  ·rw[if_neg (fun x=>h x.2.2),if_neg h]
 have hN:wK o=if 0<o.n then o.n else 0:=by
  unfold wK
  rw[if_neg (fun x=>absurd x.1 (by omega))]
  by_cases h:0<o.n
  ·rw[if_pos ⟨hk,h7,h⟩,if_pos h]
  ·rw[if_neg (fun x=>h x.2.2),if_neg h]
 rw[hA,hN]
 by_cases h:0<o.n
 ·rw[if_pos h,if_pos h];exact ⟨fun _=>⟨rfl,rfl⟩,.inl rfl⟩
 ·rw[if_neg h];exact ⟨fun h' => absurd h' h,.inr rfl⟩
theorem zkS {la lb:List (List Int)} (hla:zJ la) (hsa:Sm la) (hlb:zJ lb) (hsb:Sm lb):∀ D,Wa la lb D:=by
 have main:∀ D,(∀ D',D=D'+1->Wa la lb D')->Wa la lb D:=by
  intro D ih x y nx ny dx dy
  obtain ⟨a1,a2,a3⟩:=jn dx
  obtain ⟨b1,b2,b3⟩:=jn dy
  rw[Ob.c,Ob.c,zhi]
  by_cases hk:x.kind=y.kind
  ·by_cases he:x.elem=y.elem
   ·by_cases hn:x.n=y.n
    ·rw[show (x.kind != y.kind)=false from by simpa using hk,show (x.elem != y.elem)=false from by simpa using he,show (x.n != y.n)=false from by simpa using hn]
     dsimp only[zu]
     by_cases h0:x.kind=0
     ·rw[beq_iff_eq.2 h0]
      have nul:∀ {l:List (List Int)} {o:Ob} {n:Nd},Dn l D o n->o.kind=0->n=nd0:=fun {l o n} h hk0=>by
       rcases h with ⟨_,h⟩|⟨D',_,hok,_⟩
       ·exact h
       ·obtain ⟨_,_,_,_,_,_,hkk,_⟩:=hok;omega
      rw[nul dx h0,nul dy (by omega),wD rfl]
      rfl
     ·rw[beq_eq_false_iff_ne.2 h0]
      rcases dx with ⟨rfl,_⟩|⟨D',hD,okx,npx,_,m,zx,rfl⟩
      ·exact absurd rfl h0
      rcases dy with ⟨rfl,_⟩|⟨D'',hD',oky,npy,_,m',zy,rfl⟩
      ·exact absurd hk h0
      obtain rfl:D' = D'':=by omega
      have ih':=ih D' hD
      obtain ⟨hat,hdt,hq,hel,hnn,hc,hkk,hw,hz⟩:=id okx
      obtain ⟨hat',hdt',hq',hel',hnn',hc',hkk',hw',hz'⟩:=id oky
      unfold V2 at zx zy ⊢
      dsimp only[zu]
      by_cases h1:x.kind=1
      ·rw[beq_iff_eq.2 h1]
       rw[if_pos h1] at zx ⊢
       rw[if_pos (show y.kind=1 by omega)] at zy ⊢
       have:=gh hla hsa hlb hsb ih' (x:=x) (y:=y) ⟨⟨hat.1,by omega⟩,hdt,hq⟩ ⟨⟨hat'.1,by omega⟩,hdt',hq'⟩ h1 (by omega) zx zy
       rw[Ob.c,Ob.c] at this
       dsimp only[zc]
       rw[this]
       rfl
      ·rw[beq_eq_false_iff_ne.2 h1]
       rw[if_neg h1] at zx ⊢
       rw[if_neg (show ¬y.kind=1 by omega)] at zy ⊢
       dsimp only[zu]
       by_cases h6:x.elem<6
       ·rw[beq_eq_false_iff_ne.2 (show x.elem≠7 by omega),beq_eq_false_iff_ne.2 (show x.elem≠6 by omega)]
        dsimp only[zu]
        have h6':y.elem<6:=by omega
        unfold xo
        rw[if_pos h6,if_pos h6']
        dsimp only
        have wx:=Vw hla x (n:=x.cost) (by omega)
        have wy:=Vw hlb y (n:=y.cost) (by omega)
        have lx:=Zh la x.seg x.at_ x.cost
        have ly:=Zh lb y.seg y.at_ y.cost
        have rx:=VG hnn (hw (by omega) h6) h6
        have ry:=VG hnn' (hw' (by omega) h6') h6'
        rw[Kd rfl,Kd rfl]
        rw[Ob.c] at wx wy
        rw[zhg,wx]
        dsimp only[ze,zg,zmS]
        rw[ZV _ (by omega)]
        dsimp only[ze,zg,zmS]
        rw[Vu hel hnn (wj _) rx]
        dsimp only[ze]
        rw[yE]
        dsimp only[zmS]
        rw[wy]
        dsimp only[ze,zg,zmS]
        rw[ZV _ (by omega)]
        dsimp only[ze,zg,zmS]
        rw[Vu hel' hnn' (wj _) ry]
        dsimp only[ze]
        rw[yE]
        dsimp only[zmS]
        rw[zdB (XV _ _ _ (wj _)) (XV _ _ _ (wj _))]
        dsimp only[ze,zg,zmS]
        refine congrArg (fun b=>ok (Bo b)) (Jg ?_)
        rw[he,hn]
        simp
       ·obtain ⟨cx,e1,e2,e3⟩:=zaM h6 zx
        obtain ⟨cy,f1,f2,f3⟩:=zaM (show ¬y.elem<6 by omega) zy
        rw[e1,f1,Kd rfl,Kd rfl]
        have hlen:cx.length=cy.length:=by omega
        have hxn:x.n=((cx.length:Nat):Int):=by omega
        have fin:yV (cx.map zi) (cy.map zi)=yV (Nd.mk 2 x.elem x.n [] (cx.map zi)) (Nd.mk 2 y.elem y.n [] (cy.map zi)):=Jg (by rw[he,hn];simp)
        have getx:∀ i,(h:i<cx.length)->cx.getD i nd0=cx[i]:=fun i h=>by rw[List.getD_eq_getElem?_getD,List.getElem?_eq_getElem h,Option.getD_some]
        have gety:∀ i,(h:i<cy.length)->cy.getD i nd0=cy[i]:=fun i h=>by rw[List.getD_eq_getElem?_getD,List.getElem?_eq_getElem h,Option.getD_some]
        have res:∀ {e:Option (Out×zf)},e=ok (Bo ((List.range cx.length).all fun i=>yV (zi (cx.getD i nd0)) (zi (cy.getD i nd0))))->e=ok (Bo (yV (cx.map zi) (cy.map zi))):=fun {e} h=>by
         rw[h]
         refine congrArg (fun b=>ok (Bo b)) (gO ?_)
         rw[gA,eqB_true,zhS (q:=cx.length) (by simp) (by simp;omega)]
        rw[←fin]
        by_cases h7:x.elem=7
        ·rw[beq_iff_eq.2 h7]
         dsimp only[zc]
         have mul:∀ (o:Ob) (i:Nat),Za la o∨Za lb o->i<cx.length->0<=(i:Int)*(o.data+o.ptrs)/\(i:Int)*(o.data+o.ptrs)<=536870911*131070:=fun o i ho hi=>by
          have hd:0<=o.data/\o.data<=65535/\0<=o.ptrs/\o.ptrs<=65535:=by
           rcases ho with ho|ho
           ·obtain ⟨_,d,q,_⟩:=ho;omega
           ·obtain ⟨_,d,q,_⟩:=ho;omega
          exact QX (by omega) (by omega)
         have lp:=zgy (la:=la) (lb:=lb) (x:=x) (y:=y) (q:=cx.length) (by omega) (fun i=>yV (zi (cx.getD i nd0)) (zi (cy.getD i nd0))) (fun i hi=>by have:=mul x i (.inl okx) hi;exact Kt x i (by omega) (by omega) (by omega)) (fun i hi=>by have:=mul y i (.inr oky) hi;exact Kt y i (by omega) (by omega) (by omega)) (fun i hi=>by
          obtain ⟨m1,g1,g2⟩:=e3 i hi
          obtain ⟨m2,k1,k2⟩:=f3 i (by omega)
          rw[if_neg (by omega)] at g1 g2
          rw[if_neg (by omega)] at k1 k2
          have mx:=mul x i (.inl okx) hi
          have my:=mul y i (.inr oky) hi
          have:=gh hla hsa hlb hsb ih' (x:=yj x i) (y:=yj y i) ⟨⟨by dsimp only[yj];omega,by dsimp only[yj];omega⟩,hdt,hq⟩ ⟨⟨by dsimp only[yj];omega,by dsimp only[yj];omega⟩,hdt',hq'⟩ rfl rfl g1 k1
          rw[g2,k2] at this
          rw[getx i hi,gety i (by omega)]
          exact this) cx.length 0 (by omega) (fun j h=>absurd h (by omega))
         rw[zhf]
         conv=>lhs;rw[show Xs x.n 0=Xs ((cx.length:Nat):Int) ((0:Nat):Int) from by rw[hxn];rfl]
         rw[lp]
         exact res rfl
        ·have h66:x.elem=6:=by omega
         rw[beq_eq_false_iff_ne.2 h7,beq_iff_eq.2 h66]
         dsimp only[zc,zu]
         have hAx:∀ (o:Ob),o.kind=2->o.elem=6->(0<o.n->yZ o=o.at_/\wK o=o.n)/\(yZ o=o.at_∨yZ o=0):=fun o k e=>zj4 k e
         have kx2:x.kind=2:=by omega
         have ky2:y.kind=2:=by omega
         obtain ⟨pa,pb⟩:=hAx x kx2 h66
         obtain ⟨qa,qb⟩:=hAx y ky2 (by omega)
         have lp:=uZ (D:=D') hla hsa hlb hsb ih' (x:=x) (y:=y) ⟨hat.1,by omega⟩ hdt (by omega) ⟨hat'.1,by omega⟩ hdt' (by omega) (q:=cx.length) (by omega) (kx:=cx) (ky:=cy) (fun i hi=>by
          obtain ⟨m1,g1,g2⟩:=e3 i hi
          rw[if_pos h66] at g1 g2
          obtain ⟨p1,p2⟩:=pa (by omega)
          rw[getx i hi,←g2]
          unfold vw
          rw[p1,p2,if_neg (by omega)]
          exact V3 hla hsa g1) (fun i hi=>by
          obtain ⟨m1,g1,g2⟩:=f3 i (by omega)
          rw[if_pos (show y.elem=6 by omega)] at g1 g2
          obtain ⟨p1,p2⟩:=qa (by omega)
          rw[gety i (by omega),←g2]
          unfold vw
          rw[p1,p2,if_neg (by omega)]
          exact V3 hlb hsb g1)
         rw[←hxn,Ob.c,Ob.c] at lp
         rw[lp]
         exact res rfl
    ·rw[show (x.kind != y.kind)=false from by simpa using hk,show (x.elem != y.elem)=false from by simpa using he,show (x.n != y.n)=true from by simpa using hn,wC (fun h=>hn (by have:=congrArg Nd.n h;rw[zcE,zcE] at this;omega))]
     rfl
   ·rw[show (x.kind != y.kind)=false from by simpa using hk,show (x.elem != y.elem)=true from by simpa using he,wC (fun h=>he (by have:=congrArg Nd.elem h;rw[qn,qn] at this;omega))]
    rfl
  ·rw[show (x.kind != y.kind)=true from by simpa using hk,wC (fun h=>hk (by have:=congrArg Nd.kind h;rw[Yo,Yo] at this;omega))]
   rfl
 intro D
 induction D with
 |zero=>exact main 0 fun D' h=>absurd h (by omega)
 |succ D ih=>exact main (D+1) fun D' h=>by rw[show D' = D by omega];exact ih
def W2 (l:List (List Int)):Ob:=if (yw l 0).length=0 then wF else (yn l 0 0).1
theorem gf {l:List (List Int)} (hl:zJ l) (hs:Sm l) (h0:0<l.length):ev 112 [.pv (.sl 1 (zL l))] []=ok (.agg (W2 l).c):=by
 rw[zhk,decide_eq_true (show 0<((zL l).length:Int) by rw[W4];omega),zb4 h0]
 dsimp only[zmS,Zd,zmQ,yC,zc]
 unfold W2
 by_cases he:(yw l 0).length=0
 ·rw[yl,he,if_pos rfl];rfl
 ·rw[yl,beq_eq_false_iff_ne.2 (show ((yw l 0).length:Int)≠0 by omega),if_neg he,Ky hl hs]
  rfl
theorem zbL {l:List (List Int)} (hl:zJ l) (hs:Sm l) {d w:Int} (h:(runT l d w).2.2=0):0<l.length/\Dn l d.toNat (W2 l) (runT l d w).1:=by
 by_cases he:Xp l
 ·refine ⟨he.1,?_⟩
  rw[runT,if_pos he]
  exact .inl ⟨by unfold W2;rw[if_pos he.2],rfl⟩
 ·have e1:runT l d w=zG l d.toNat (max w 0) 0 0:=by rw[runT,if_neg he]
  rw[e1] at h ⊢
  have hpos:0<l.length:=by
   by_cases h0:0<l.length
   ·exact h0
   ·exfalso
    have hf:(zV l 0 0).2.2.2=2:=by
     unfold zV
     rw[if_neg (by unfold inB;omega)]
    rw[Xl (by rw[hf];decide),hf] at h
    exact absurd h (by show ¬((2:Int)=0);decide)
  refine ⟨hpos,?_⟩
  unfold W2
  rw[if_neg (fun h' => he ⟨hpos,h'⟩)]
  exact V3 hl hs h
def cE (la lb:List (List Int)) (d w:Int):Int:=if yJ la d w=0 then yJ lb d w else yJ la d w
noncomputable def cB (la lb:List (List Int)) (d w:Int):Bool:=if cE la lb d w=0 then yV (yY la d w) (yY lb d w) else false
theorem Y3 {la lb:List (List Int)} (hla:zJ la) (hsa:Sm la) (hlb:zJ lb) (hsb:Sm lb) {d w b:Int} (hd:d<=1099511627775) (hw:w<=4611686018427387904):ev 60 [.pv (.sl 1 (zL la)),.pv (.sl 1 (zL lb)),.pv (.agg [I d,I w,I b])] []=ok (.tup [Bo (cB la lb d w),I (cE la lb d w)]):=by
 rw[zhc,zhb,show decide ((0:Int)<2)=true from rfl,show (decide ((0:Int)<=0)&&decide ((0:Int)<(([.sl 1 (zL la),.sl 1 (zL lb)]:List PV).length:Int)))=true from rfl,show ([.sl 1 (zL la),.sl 1 (zL lb)]:List PV)[(0:Int).toNat]? = some (.sl 1 (zL la)) from rfl]
 dsimp only[zmS,Zd,zmQ,zc]
 rw[Kw hla hsa hd hw]
 dsimp only[ze,zg,zmS,z4,zmR,zmQ,z6]
 unfold cB cE
 by_cases ha:yJ la d w=0
 ·rw[ha,show ((0:Int) != 0)=false from rfl,if_pos rfl]
  dsimp only[zu]
  rw[show IntKind.wrap .i64 (0+1)=1 from rfl,jB,show decide ((1:Int)<2)=true from rfl,show (decide ((0:Int)<=1)&&decide ((1:Int)<(([.sl 1 (zL la),.sl 1 (zL lb)]:List PV).length:Int)))=true from rfl,show ([.sl 1 (zL la),.sl 1 (zL lb)]:List PV)[(1:Int).toNat]? = some (.sl 1 (zL lb)) from rfl]
  dsimp only[zmS,Zd,zmQ,zc]
  rw[Kw hlb hsb hd hw]
  dsimp only[ze,zg,zmS,z4,zmR,zmQ,z6]
  by_cases hb:yJ lb d w=0
  ·obtain ⟨pa,da⟩:=zbL hla hsa ha
   obtain ⟨pb,db⟩:=zbL hlb hsb hb
   rw[hb,show ((0:Int) != 0)=false from rfl,if_pos rfl]
   dsimp only[zu]
   rw[show IntKind.wrap .i64 (1+1)=2 from rfl,jB,show decide ((2:Int)<2)=false from rfl,gf hla hsa pa]
   dsimp only[ze,zg,zmS,zu]
   rw[gf hlb hsb pb]
   dsimp only[ze,zg,zmS]
   have hs:=zkS hla hsa hlb hsb d.toNat _ _ _ _ da db
   rw[hs,yY,yY,if_pos (show (runT la d w).2.2=0 from ha),if_pos (show (runT lb d w).2.2=0 from hb)]
   rfl
  ·rw[wi hb,if_neg hb]
   rfl
 ·rw[wi ha,if_neg ha,if_neg ha]
  rfl
theorem qe {l:List (List Int)} (h:∀ s∈l,s.length<=300) (hw:∀ s∈l,∀ x∈s,zH x) (hn:l.length<=20):zJ l/\Sm l:=by
 refine ⟨⟨by omega,fun s hs=>⟨by have:=h s hs;omega,hw s hs⟩⟩,zb8 fun j hj=>?_⟩
 unfold yw
 rw[Int.toNat_natCast,List.getD_eq_getElem?_getD,List.getElem?_eq_getElem hj]
 exact h _ (List.getElem_mem hj)
theorem g1:zJ [[4294967292]]/\Sm [[4294967292]]:=vA (by decide) (by intro x hx;simp at hx;unfold zH;omega)
theorem g2:zJ [[4294967296,0]]/\Sm [[4294967296,0]]:=vA (by decide) (by intro x hx;simp at hx;unfold zH;omega)
theorem g3:zJ [[0]]/\Sm [[0]]:=vA (by decide) (by intro x hx;simp at hx;unfold zH;omega)
theorem g4:zJ [[3]]/\Sm [[3]]:=vA (by decide) (by intro x hx;simp at hx;unfold zH;omega)
theorem g5:zJ [[7]]/\Sm [[7]]:=vA (by decide) (by intro x hx;simp at hx;unfold zH;omega)
theorem g6:zJ [[4294967298],[4294967296,5]]/\Sm [[4294967298],[4294967296,5]]:=qe (by intro s hs;simp at hs;rcases hs with rfl|rfl<;>decide) (by intro s hs x hx;simp at hs;unfold zH;rcases hs with rfl|rfl<;>(simp at hx;omega)) (by decide)
theorem g7:zJ [[8589934596,9,5,0]]/\Sm [[8589934596,9,5,0]]:=vA (by decide) (by intro x hx;simp at hx;unfold zH;omega)
theorem KP {la lb:List (List Int)} {d w:Int} {b:Bool} (h:cE la lb d w=0) (hb:yV (yY la d w) (yY lb d w)=b):ok (.tup [Bo (cB la lb d w),I (cE la lb d w)])=ok (.tup [Bo b,I 0]):=by rw[cB,if_pos h,h,hb]
theorem rc {la lb:List (List Int)} {d w e:Int} (h:cE la lb d w=e) (he:e≠0):ok (.tup [Bo (cB la lb d w),I (cE la lb d w)])=ok (.tup [Bo false,I e]):=by rw[cB,if_neg (by rw[h];exact he),h]
theorem x1:ev 60 [.pv (.sl 1 [.sl 1 [U 4294967292]]),.pv (.sl 1 [.sl 1 [U 4294967296,U 0]]),.pv (.agg [I 5,I 50,I 0])] []=ok (.tup [Bo true,I 0]):=by
 have h:=Y3 g1.1 g1.2 g2.1 g2.2 (d:=5) (w:=50) (b:=0) (by decide) (by decide)
 exact h.trans (KP (by kernel_rfl) (wD (by kernel_rfl)))
theorem x2:ev 60 [.pv (.sl 1 [.sl 1 [U 4294967292]]),.pv (.sl 1 [.sl 1 [U 0]]),.pv (.agg [I 5,I 50,I 0])] []=ok (.tup [Bo false,I 0]):=by
 have h:=Y3 g1.1 g1.2 g3.1 g3.2 (d:=5) (w:=50) (b:=0) (by decide) (by decide)
 have k1:(yY [[4294967292]] 5 50).kind=1:=by kernel_rfl
 have k2:(yY [[0]] 5 50).kind=0:=by kernel_rfl
 exact h.trans (KP (by kernel_rfl) (wC (fun e=>by rw[e,k2] at k1;exact absurd k1 (by decide))))
theorem x3:ev 60 [.pv (.sl 1 [.sl 1 [U 0]]),.pv (.sl 1 [.sl 1 [U 3]]),.pv (.agg [I 5,I 50,I 0])] []=ok (.tup [Bo false,I 6]):=by
 have h:=Y3 g3.1 g3.2 g4.1 g4.2 (d:=5) (w:=50) (b:=0) (by decide) (by decide)
 exact h.trans (rc (by kernel_rfl) (by decide))
theorem x4:ev 60 [.pv (.sl 1 [.sl 1 [U 7]]),.pv (.sl 1 [.sl 1 [U 3]]),.pv (.agg [I 5,I 50,I 0])] []=ok (.tup [Bo false,I 4]):=by
 have h:=Y3 g5.1 g5.2 g4.1 g4.2 (d:=5) (w:=50) (b:=0) (by decide) (by decide)
 exact h.trans (rc (by kernel_rfl) (by decide))
theorem x5:ev 60 [.pv (.sl 1 [.sl 1 [U 4294967298],.sl 1 [U 4294967296,U 5]]),.pv (.sl 1 [.sl 1 [U 8589934596,U 9,U 5,U 0]]),.pv (.agg [I 5,I 50,I 0])] []=ok (.tup [Bo true,I 0]):=by
 have h:=Y3 g6.1 g6.2 g7.1 g7.2 (d:=5) (w:=50) (b:=0) (by decide) (by decide)
 exact h.trans (KP (by kernel_rfl) (wD (by kernel_rfl)))
theorem x6:ev 237 [.pv (.sl 1 [U 5,U 0]),.pv (.sl 1 [U 5])] []=ok (Bo true):=by
 have h:=Vp (a:=[5,0]) (b:=[5]) (by decide) (by decide)
 exact h.trans (by rw[wD (by kernel_rfl)])
theorem x7:ev 237 [.pv (.sl 1 [U 5,U 1]),.pv (.sl 1 [U 5])] []=ok (Bo false):=by
 have h:=Vp (a:=[5,1]) (b:=[5]) (by decide) (by decide)
 exact h.trans (by rw[wC (by decide)])
theorem x8:ev 237 [.pv (.sl 1 []),.pv (.sl 1 [U 0])] []=ok (Bo true):=by
 have h:=Vp (a:=[]) (b:=[0]) (by decide) (by decide)
 exact h.trans (by rw[wD (by kernel_rfl)])
theorem k1:zJ [[8589934596,99,5,0]]/\Sm [[8589934596,99,5,0]]:=vA (by decide) (by intro x hx;simp at hx;unfold zH;omega)
theorem k2:zJ [[4294967298],[4294967296,5]]/\Sm [[4294967298],[4294967296,5]]:=qe (by intro s hs;simp at hs;rcases hs with rfl|rfl<;>decide) (by intro s hs x hx;simp at hs;unfold zH;rcases hs with rfl|rfl<;>(simp at hx;omega)) (by decide)
theorem k3:zJ [[3]]/\Sm [[3]]:=vA (by decide) (by intro x hx;simp at hx;unfold zH;omega)
theorem k4:zJ [[]]/\Sm [[]]:=vA (by decide) (by intro x hx;cases hx)
theorem zfF {l:List (List Int)} (hl:zJ l) (hs:Sm l) {d w:Int} (hw:w<=134217728) (h0:yJ l d w=0):zJ [xt l d w]/\Sm [xt l d w]/\yJ [xt l d w] d w=0/\yY [xt l d w] d w=yY l d w/\vQ [xt l d w] d w<=vQ l d w/\xt [xt l d w] d w=xt l d w/\((xt l d w).length:Int)=zD d.toNat (yY l d w)+1/\zD d.toNat (yY l d w)<=vQ l d w:=by
 obtain ⟨ho,hb,hx⟩:=Qv hl hs hw h0
 obtain ⟨_,hc⟩:=zaU hl hs (show w<=4611686018427387904 by omega) (show (runT l d w).2.2=0 from h0)
 have e3:xt l d w=xd d.toNat (yY l d w):=by unfold xt;rw[if_pos h0]
 obtain ⟨m1,m2,m3⟩:=zfH ho hb (d:=d) (w:=w) rfl hx
 have hle:=JC d.toNat ho.vn ho.dp
 rw[e3]
 refine ⟨zfC ho (by omega),zfD ho (by omega),m1,m2,by rw[m3];exact hc,?_,Wo ho,by omega⟩
 unfold xt
 rw[if_pos m1,m2]
end Go.Proofs.YtjbjeeoifhegfaaGreatDoor.E
