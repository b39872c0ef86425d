/- This text is one of those that prove the law MessageCanonical of the given program, as its statement says it: true on every input that the statement covers. Its conditions are the statement's own. -/
import Derived.Test.YtjbjeeoifhegfaaGreatDoorZMessageCanonical1
import Derived.Test.YtjbjeeoifhegfaaGreatDoorZMessageCanonical2
import Derived.Test.YtjbjeeoifhegfaaGreatDoorZMessageCanonical3
import Derived.Test.YtjbjeeoifhegfaaGreatDoorZMessageCanonical4
import Derived.Test.YtjbjeeoifhegfaaGreatDoorZMessageCanonical5
import Derived.Test.YtjbjeeoifhegfaaGreatDoorZMessageCanonical6
import Derived.Test.YtjbjeeoifhegfaaGreatDoorZMessageCanonical7
import Derived.Test.YtjbjeeoifhegfaaGreatDoorZMessageCanonical8
import Derived.Test.YtjbjeeoifhegfaaGreatDoorZMessageCanonical9
import Derived.Test.YtjbjeeoifhegfaaGreatDoorZMessageCanonical10
set_option linter.unusedVariables false
set_option linter.unusedSimpArgs false
open List renaming getElem?_cons_zero->zph
open List renaming getElem?_cons_succ->zpi
open Option renaming bind_some->zpj
open List renaming length_append->zpk
open List renaming length_cons->zpl
open List renaming nil_append->zpm
namespace Go.Proofs.YtjbjeeoifhegfaaGreatDoor.E
theorem qJ:∀ (D:Nat) {x:Nd},VN x->Dp D x->zI D x<=zW D x
 |0,x,hv,hd=>by
  have h0:x.kind=0:=hd
  rw[Wh hv h0]
  exact Int.le_refl _
 |D+1,x,hv,hd=>by
  by_cases h0:x.kind=0
  ·rw[Wh hv h0]
   exact Yu (D+1) hv
  ·have hd':=(hd.resolve_left h0).2
   rw[zI,zW,if_neg h0]
   have h1:yK x<=xV x:=by
    unfold xV
    split
    ·rename_i h
     obtain ⟨hs,_⟩:=wU hv
     rcases hs with hs|hs|hs<;>omega
    ·omega
   have h2:∀ l:List Nd,(∀ t∈l,zI D t<=zW D t)->zo (l.map (zI D))<=zo (l.map (zW D)):=by
    intro l
    induction l with
    |nil=>intro _;exact Int.le_refl _
    |cons t l ih=>
     intro h
     rw[List.map_cons,List.map_cons,xI,xI]
     have:=h t List.mem_cons_self
     have:=ih fun x hx=>h x (List.mem_cons_of_mem _ hx)
     omega
   have:=h2 (yn x) fun t ht=>qJ D (ZN hv t ht) (hd' t ht)
   omega
theorem Kk {C:Nd->Int} {G:Int->Nat->Nd×Int×Int} {Q:Nd->Prop}:∀ (c i:Nat) (m:Int) (acc:List Nd),(∀ m j,i<=j->j<i+c->(G m j).2.2=0->C (G m j).1<=m-(G m j).2.1/\Q (G m j).1)->(zX G c i m acc).2.2=0->
  ∃ ys,(zX G c i m acc).1=acc++ys/\ys.length=c/\zo (ys.map C)<=m-(zX G c i m acc).2.1/\∀ y∈ys,Q y
 |0,i,m,acc,h,h0=>⟨[],by simp[zX],rfl,by simp[zX,xX],fun y hy=>by cases hy⟩
 |c+1,i,m,acc,h,h0=>by
  rw[zX] at h0 ⊢
  by_cases e:(G m i).2.2=0
  ·rw[if_pos e] at h0 ⊢
   obtain ⟨ys,k1,k2,k3,k4⟩:=Kk c (i+1) _ _ (fun m j q1 q2=>h m j (by omega) (by omega)) h0
   obtain ⟨g1,g2⟩:=h m i (Nat.le_refl _) (by omega) e
   refine ⟨(G m i).1::ys,by rw[k1];simp,by simp[k2],?_,fun y hy=>?_⟩
   ·rw[List.map_cons,xI];omega
   ·rcases List.mem_cons.1 hy with rfl|hy
    ·exact g2
    ·exact k4 y hy
  ·rw[if_neg e] at h0
   exact absurd h0 e
theorem uI {c:Nd->Int}:∀ (l:List Nd) (n:Nat),(∀ x∈l,0<=c x)->zo ((l.take n).map c)<=zo (l.map c)
 |[],n,_=>by simp
 |x::l,0,h=>by
  rw[List.take_zero,List.map_nil,xX]
  exact xZ fun y hy=>by
   obtain ⟨t,ht,rfl⟩:=List.mem_map.1 hy
   exact h t ht
 |x::l,n+1,h=>by
  rw[List.take_succ_cons,List.map_cons,List.map_cons,xI,xI]
  have:=uI l n fun y hy=>h y (List.mem_cons_of_mem _ hy)
  omega
def gU (D:Nat) (F:Int->Int->Int->Nd×Int×Int):Prop:=∀ m s a,(F m s a).2.2=0->zW D (zk (F m s a).1)<=m-(F m s a).2.1/\VN (F m s a).1
theorem zdI {D:Nat} {F:Int->Int->Int->Nd×Int×Int} (h:gU D F) (l:List (List Int)) (m:Int) {o:Ob} (hd:0<=o.data) (hz:(zV F l m o).2.2=0) :
  ∃ d ks,(zV F l m o).1=.mk 1 0 0 d ks/\d.length<=8*o.data.toNat/\ks.length=o.ptrs.toNat/\zo ((ks.map zk).map (zW D))<=m-(zV F l m o).2.1/\(∀ y∈ks,VN y)/\((zV F l m o).2.1=(zV F l m o).2.1):=by
 unfold zV at hz ⊢
 have hz':(zX (fun m (i:Nat)=>F m o.seg (o.at_+o.data+i)) o.ptrs.toNat 0 m []).2.2=0:=hz
 obtain ⟨ys,k1,k2,k3,k4⟩:=Kk (C:=fun x=>zW D (zk x)) (Q:=VN) o.ptrs.toNat 0 m [] (fun m j _ _ h0=>h m o.seg (o.at_+o.data+j) h0) hz'
 rw[Zp hz']
 have hcl:=vM l o.seg o.at_ o.data
 refine ⟨_,_,rfl,by rw[y3];omega,by rw[k1,zpm,k2],?_,fun y hy=>k4 y (by rw[k1,zpm] at hy;exact hy),rfl⟩
 rw[k1,zpm,List.map_map]
 exact k3
theorem uP (d:List Int) (ks:List Nd):zk (.mk 1 0 0 d ks)=.mk 1 0 0 (d.take (8*yg d)) ((ks.map zk).take (yc ks)):=by rw[zk,if_pos rfl,yX]
theorem zlk {l:List (List Int)} (hl:zF l) (hs:Sm l) {s a:Int} (h0:(zY l s a).1≠0) (hf:(zY l s a).2.2.2=0) (he:(yz l s a).2=0) :
  ((yz l s a).1.kind=1->(yz l s a).1.data+(yz l s a).1.ptrs<=(yz l s a).1.cost)/\((yz l s a).1.kind=2->(yz l s a).1.elem≠7->zs (yz l s a).1.elem (yz l s a).1.n<=(yz l s a).1.cost)/\
  ((yz l s a).1.kind=2->(yz l s a).1.elem=7->1+(yz l s a).1.n*((yz l s a).1.data+(yz l s a).1.ptrs)<=(yz l s a).1.cost/\((yz l s a).1.data+(yz l s a).1.ptrs=0->1+(yz l s a).1.n<=(yz l s a).1.cost)):=by
 have hd:=vz (Vr hl s a)
 unfold yz at he ⊢
 rw[if_pos hf,if_neg h0] at he ⊢
 unfold wZ at he ⊢
 generalize zC (zY l s a).1=p at he hd ⊢
 by_cases k0:p.1=0
 ·rw[if_pos k0] at he ⊢
  unfold wL at he ⊢
  by_cases hb:inB l (zY l s a).2.1 ((zY l s a).2.2.1+p.2.1) (p.2.2.1+p.2.2.2.1)
  ·rw[if_pos hb]
   exact ⟨fun _=>by dsimp only;omega,fun h=>absurd h (by dsimp only;omega),fun h=>absurd h (by dsimp only;omega)⟩
  ·rw[if_neg hb] at he;exact ww he (by decide)
 ·rw[if_neg k0] at he ⊢
  by_cases k1:p.1=1
  ·rw[if_pos k1] at he ⊢
   unfold wn at he ⊢
   by_cases h7:p.2.2.2.2.1=7
   ·rw[if_pos h7] at he ⊢
    unfold wC at he ⊢
    by_cases hb:inB l (zY l s a).2.1 ((zY l s a).2.2.1+p.2.1) (p.2.2.2.2.2.1+1)
    ·rw[if_pos hb] at he ⊢
     split at he
     ·rename_i hk
      rw[if_pos hk]
      refine ⟨fun h=>absurd h (by dsimp only;omega),fun _ h=>absurd rfl h,fun _ _=>⟨?_,fun h=>?_⟩⟩
      ·have:=hk.2.1
       have:=hk.2.2
       dsimp only
       split<;>omega
      ·dsimp only at h ⊢
       rw[if_pos h]
       omega
     ·exact ww he (by decide)
    ·rw[if_neg hb] at he;exact ww he (by decide)
   ·rw[if_neg h7] at he ⊢
    by_cases hb:inB l (zY l s a).2.1 ((zY l s a).2.2.1+p.2.1) (zs p.2.2.2.2.1 p.2.2.2.2.2.1)
    ·rw[if_pos hb]
     exact ⟨fun h=>absurd h (by dsimp only;omega),fun _ _=>by dsimp only;omega,fun _ h=>absurd h h7⟩
    ·rw[if_neg hb] at he;exact ww he (by decide)
  ·rw[if_neg k1] at he
   split at he
   ·exact ww he (by decide)
   ·exact ww he (by decide)
theorem zi7 {l:List (List Int)} (hl:zF l) (hs:Sm l):∀ D,gU D (zH l D):=by
 intro D
 induction D with
 |zero=>
  intro m s a hz
  unfold zH at hz ⊢
  by_cases h1:(zY l s a).2.2.2=0
  ·rw[if_pos h1] at hz ⊢
   by_cases h2:(zY l s a).1=0
   ·rw[if_pos h2]
    exact ⟨by show 0<=m-m;omega,WG⟩
   ·rw[if_neg h2] at hz;exact absurd hz (show ¬(7:Int)=0 by decide)
  ·rw[if_neg h1] at hz;exact absurd hz h1
 |succ D ih=>
  intro m s a hz
  refine ⟨?_,(Vi hl hs (D+1) m s a hz).1⟩
  rw[zH] at hz ⊢
  dsimp only at hz ⊢
  by_cases h1:(zY l s a).2.2.2=0
  ·rw[if_pos h1] at hz ⊢
   by_cases h2:(zY l s a).1=0
   ·rw[if_pos h2]
    show zW (D+1) (zk nd0)<=m-m
    rw[YS,zW]
    show (if (0:Int)=0 then 0 else _)<=_
    rw[if_pos rfl]
    omega
   ·rw[if_neg h2] at hz ⊢
    unfold xx at hz ⊢
    by_cases h3:(yz l s a).2=0
    ·rw[if_pos h3] at hz ⊢
     have ho:=Xg hl hs h2 h1 h3
     have hi:=zlk hl hs h2 h1 h3
     generalize (yz l s a).1=o at hz ho hi ⊢
     by_cases h4:o.cost>m
     ·rw[if_pos h4] at hz;exact absurd hz (show ¬(8:Int)=0 by decide)
     ·rw[if_neg h4] at hz ⊢
      obtain ⟨hat,hd,hq,hel,hn,hco,hk,hw,hzz⟩:=ho
      by_cases k1:o.kind=1
      ·rw[if_pos k1] at hz ⊢
       obtain ⟨d,ks,e1,e2,e3,e4,e5,_⟩:=zdI ih l (m-o.cost) hd.1 hz
       rw[e1,uP,zW]
       show (if (1:Int)=0 then 0 else xV (.mk 1 0 0 (d.take (8*yg d)) ((ks.map zk).take (yc ks)))+zo (((ks.map zk).take (yc ks)).map (zW D)))<=_
       rw[if_neg (by decide),YG,if_neg (fun h=>absurd h.1 (by decide))]
       have e6:yK (.mk 1 0 0 (d.take (8*yg d)) ((ks.map zk).take (yc ks)))=(((d.take (8*yg d)).length/8+((ks.map zk).take (yc ks)).length:Nat):Int):=rfl
       have e7:=uI (c:=zW D) (ks.map zk) (yc ks) (fun x hx=>by
        obtain ⟨y,hy,rfl⟩:=List.mem_map.1 hx
        exact Yu D (WH y (e5 y hy)))
       rw[e6,List.length_take,List.length_take,List.length_map]
       have:=hi.1 k1
       omega
      ·have k2:o.kind=2:=by omega
       rw[if_neg k1] at hz ⊢
       unfold xp at hz ⊢
       by_cases h6:o.elem<6
       ·rw[if_pos h6]
        show zW (D+1) (zk (.mk 2 o.elem o.n _ []))<=m-(m-o.cost)
        rw[zk,if_neg (by decide),zW]
        show (if (2:Int)=0 then 0 else xV (.mk 2 o.elem o.n _ [])+zo ((yn (.mk 2 o.elem o.n _ [])).map (zW D)))<=_
        rw[if_neg (by decide),YG,if_neg (fun h=>by omega),zdZ,if_neg (fun h=>by omega)]
        have e6:∀ d,yK (.mk 2 o.elem o.n d [])=zs o.elem o.n:=fun d=>by
         unfold yK
         show (if (2:Int)=0 then 0 else if (2:Int)=1 then _ else if o.elem=7 then _ else zs o.elem o.n)=_
         rw[if_neg (by decide),if_neg (by decide),if_neg (by omega)]
        show yK (.mk 2 o.elem o.n _ [])+0+0<=_
        rw[e6,←(hw k2 h6).2]
        omega
       ·rw[if_neg h6] at hz ⊢
        have hz':(zX (fun m (i:Nat)=>if o.elem=6 then zH l D m o.seg (o.at_+i) else zV (zH l D) l m (yh o i)) o.n.toNat 0 (m-o.cost) []).2.2=0:=hz
        rw[Zp hz']
        by_cases e6:o.elem=6
        ·obtain ⟨ys,q1,q2,q3,q4⟩:=Kk (C:=fun x=>zW D (zk x)) (Q:=VN) o.n.toNat 0 (m-o.cost) [] (fun m j _ _ h0=>by
          rw[if_pos e6] at h0 ⊢
          exact ih _ _ _ h0) hz'
         generalize zX (fun m (i:Nat)=>if o.elem=6 then zH l D m o.seg (o.at_+i) else zV (zH l D) l m (yh o i)) o.n.toNat 0 (m-o.cost) []=K at q1 q3 ⊢
         show zW (D+1) (zk (.mk 2 o.elem o.n [] K.1))<=m-K.2.1
         rw[q1,zpm,zk,if_neg (by decide),yX,zW]
         show (if (2:Int)=0 then 0 else xV (.mk 2 o.elem o.n [] (ys.map zk))+zo ((yn (.mk 2 o.elem o.n [] (ys.map zk))).map (zW D)))<=_
         rw[if_neg (by decide),YG,if_neg (fun h=>by omega),zdZ,if_neg (fun h=>by omega)]
         have e7:yK (.mk 2 o.elem o.n [] (ys.map zk))=zs o.elem o.n:=by
          unfold yK
          show (if (2:Int)=0 then 0 else if (2:Int)=1 then _ else if o.elem=7 then _ else zs o.elem o.n)=_
          rw[if_neg (by decide),if_neg (by decide),if_neg (by omega)]
         have:=hi.2.1 k2 (by omega)
         rw[e7,List.map_map]
         have q3':zo (ys.map (zW D∘zk))<=m-o.cost-K.2.1:=q3
         omega
        ·have e7:o.elem=7:=by omega
         obtain ⟨ys,q1,q2,q3,q4⟩:=Kk (C:=fun x=>zo ((zk x).kids.map (zW D))) (Q:=fun x=>(zk x).data.length/8<=o.data.toNat/\(zk x).kids.length<=o.ptrs.toNat) o.n.toNat 0 (m-o.cost) [] (fun m j _ _ h0=>by
          rw[if_neg e6] at h0 ⊢
          obtain ⟨d,ks,g1,g2,g3,g4,g5,_⟩:=zdI ih l m (o:=yh o j) hd.1 h0
          have g6:=uI (c:=zW D) (ks.map zk) (yc ks) (fun x hx=>by
           obtain ⟨y,hy,rfl⟩:=List.mem_map.1 hx
           exact Yu D (WH y (g5 y hy)))
          rw[g1,uP]
          refine ⟨?_,?_,?_⟩
          ·show zo (((ks.map zk).take (yc ks)).map (zW D))<=_
           omega
          ·show (d.take (8*yg d)).length/8<=_
           have g2':d.length<=8*o.data.toNat:=g2
           rw[List.length_take]
           omega
          ·show ((ks.map zk).take (yc ks)).length<=_
           have g3':ks.length=o.ptrs.toNat:=g3
           rw[List.length_take,List.length_map]
           omega) hz'
         generalize zX (fun m (i:Nat)=>if o.elem=6 then zH l D m o.seg (o.at_+i) else zV (zH l D) l m (yh o i)) o.n.toNat 0 (m-o.cost) []=K at q1 q3 ⊢
         show zW (D+1) (zk (.mk 2 o.elem o.n [] K.1))<=m-K.2.1
         rw[q1,zpm,zk,if_neg (by decide),yX,zW]
         show (if (2:Int)=0 then 0 else xV (.mk 2 o.elem o.n [] (ys.map zk))+zo ((yn (.mk 2 o.elem o.n [] (ys.map zk))).map (zW D)))<=_
         rw[if_neg (by decide),YG,show yn (.mk 2 o.elem o.n [] (ys.map zk))=(ys.map zk).flatMap Nd.kids from if_pos ⟨rfl,e7⟩,WC,List.map_map]
         have e8:yK (.mk 2 o.elem o.n [] (ys.map zk))=1+o.n*((zl (ys.map zk)+zn (ys.map zk):Nat):Int):=by
          unfold yK
          show (if (2:Int)=0 then 0 else if (2:Int)=1 then _ else if o.elem=7 then 1+o.n*((zl (ys.map zk)+zn (ys.map zk):Nat):Int) else _)=_
          rw[if_neg (by decide),if_neg (by decide),if_pos e7]
         have u1:zl (ys.map zk)<=o.data.toNat:=YU fun x hx=>by
          obtain ⟨y,hy,rfl⟩:=List.mem_map.1 hx
          exact (q4 y hy).1
         have u2:zn (ys.map zk)<=o.ptrs.toNat:=YV fun x hx=>by
          obtain ⟨y,hy,rfl⟩:=List.mem_map.1 hx
          exact (q4 y hy).2
         have hc7:=hi.2.2 k2 e7
         have hmul:o.n*((zl (ys.map zk)+zn (ys.map zk):Nat):Int)<=o.n*(o.data+o.ptrs):=Int.mul_le_mul_of_nonneg_left (by omega) hn.1
         rw[e8]
         have q3':zo (ys.map ((fun k=>zo (k.kids.map (zW D)))∘zk))<=m-o.cost-K.2.1:=q3
         split
         ·rename_i hu
          rw[hu.2.2]
          have:o.n<=o.n*(o.data+o.ptrs)∨o.data+o.ptrs=0:=by
           by_cases hz0:o.data+o.ptrs=0
           ·exact .inr hz0
           ·left
            have:=Int.mul_le_mul_of_nonneg_left (show (1:Int)<=o.data+o.ptrs by omega) hn.1
            omega
          rcases this with h|h
          ·simp only[Int.natCast_zero,Int.mul_zero]
           have:=hc7.1
           omega
          ·have:=hc7.2 h
           simp only[Int.natCast_zero,Int.mul_zero]
           omega
         ·have:=hc7.1
          omega
    ·rw[if_neg h3] at hz;exact absurd hz h3
  ·rw[if_neg h1] at hz;exact absurd hz h1
def vh (s:Int):zh:=[[.pv (I s)],[.clo (.func 261) [] [.ptr 0 0,.ptr 1 0]]]
theorem uW:Ya (.func 261) [] [.ptr 0 0,.ptr 1 0] (.clo (.func 261) [] [.ptr 0 0,.ptr 1 0])=true:=rfl
theorem qv (a b:List AV):decide ([a,b].length=2)=true:=rfl
def WS (D:Nat) (t:Nd):Prop:=∀ s:Int,0<=s->s+zI D t<=4611686018427387904->ev 261 [.pv t.x,.ptr 0 0,.ptr 1 0] (vh s)=some (.ret (.pv (.tup [])),vh (s+zI D t))
theorem wm:∀ (D:Nat) {x:Nd},VN x->0<=zI D x
 |0,x,hv=>Wk hv
 |D+1,x,hv=>by
  rw[zI]
  have:=Wk hv
  have:=xZ (l:=(yn x).map (zI D)) fun y hy=>by
   obtain ⟨t,ht,rfl⟩:=List.mem_map.1 hy
   exact wm D (ZN hv t ht)
  omega
theorem XU {f:Nd->Int} {l:List Nd} {i:Nat} (h:i<l.length):zo ((l.drop i).map f)=f l[i]+zo ((l.drop (i+1)).map f):=by
 rw[List.drop_eq_getElem_cons h,List.map_cons,xI]
theorem zow {D:Nat} {q:List Nd} (hq:q.length<=1073741824) (hv:∀ t∈q,WS D t) (hn:∀ t∈q,VN t) (ks:List PV) (i1 i2 i7 i8 i9:Int) (xs10 xs11:List PV) (c0 c1 c2 c3 c4:PV):∀ (c j:Nat) (s:Int),j+c=q.length->0<=s->s+zo ((q.drop j).map (zI D))<=4611686018427387904->
  Qv ks i1 i2 (.sl 5 (zD q)) q.length j (I s) i7 i8 i9 xs10 xs11 c0 c1 c2 c3 c4=Y5 ks i1 (IntKind.wrap .i64 (i2+1)) (I (s+zo ((q.drop j).map (zI D)))) i7 i8 i9 xs10 xs11:=by
 intro c
 induction c with
 |zero=>
  intro j s hj h0 hs
  rw[jW,decide_eq_false (by omega),List.drop_eq_nil_of_le (by omega)]
  simp[xX]
 |succ c ih=>
  intro j s hj h0 hs
  have hjl:j<q.length:=by omega
  have hV:=hv _ (List.getElem_mem hjl) s h0
  have hp:=wm D (hn _ (List.getElem_mem hjl))
  have hr:0<=zo ((q.drop (j+1)).map (zI D)):=xZ fun y hy=>by
   obtain ⟨t,ht,rfl⟩:=List.mem_map.1 hy
   exact wm D (hn t (List.mem_of_mem_drop ht))
  rw[XU hjl] at hs ⊢
  have hV':=hV (by omega)
  unfold vh at hV'
  dsimp only[Nd.x] at hV'
  rw[jW,decide_eq_true (show (j:Int)<(q.length:Int) by omega)]
  dsimp only[yG,zpj,zc]
  rw[decide_eq_true (show (5:Nat)=5 from rfl),decide_eq_true (show 0<=(j:Int) by omega),decide_eq_true (show (j:Int)<((zD q).length:Int) by simp;omega)]
  dsimp only[zr,zc]
  rw[Int.toNat_natCast,vG hjl]
  dsimp only[zpj]
  rw[ZB,YE,show (q[j].c.drop 0).take 5=q[j].c from rfl]
  dsimp only[Nd.c,zph,zpi,zpj,xr,zr,yw,zc]
  rw[hV']
  dsimp only[zf,zph,zpi,zg,zpj,ve,zc]
  rw[uW,qv,ze (x:=(j:Int)+1) (by omega)]
  dsimp only[zc]
  have:=ih (j+1) (s+zI D q[j]) (by omega) (by omega) (by omega)
  rw[show s+(zI D q[j]+zo ((q.drop (j+1)).map (zI D)))=s+zI D q[j]+zo ((q.drop (j+1)).map (zI D)) by omega]
  exact this
theorem zel {D:Nat} {ks:List Nd} (hq:ks.length<=1073741824) (hv:∀ t∈ks,WS D t) (hn:∀ t∈ks,VN t) (i4 i5 i6:Int) (h7:i5≠7) (xs7 xs8:List PV):∀ (c j:Nat) (s:Int),j+c=ks.length->0<=s->s+zo ((ks.drop j).map (zI D))<=4611686018427387904->
  Y5 (zD ks) ks.length j (I s) i4 i5 i6 xs7 xs8=some (.ret (.pv (.tup [])),vh (s+zo ((ks.drop j).map (zI D)))):=by
 intro c
 induction c with
 |zero=>
  intro j s hj h0 hs
  rw[Qu,decide_eq_false (by omega),List.drop_eq_nil_of_le (by omega)]
  simp[xX,vh]
 |succ c ih=>
  intro j s hj h0 hs
  have hjl:j<ks.length:=by omega
  have hV:=hv _ (List.getElem_mem hjl) s h0
  have hp:=wm D (hn _ (List.getElem_mem hjl))
  have hr:0<=zo ((ks.drop (j+1)).map (zI D)):=xZ fun y hy=>by
   obtain ⟨t,ht,rfl⟩:=List.mem_map.1 hy
   exact wm D (hn t (List.mem_of_mem_drop ht))
  rw[XU hjl] at hs ⊢
  have hV':=hV (by omega)
  unfold vh at hV'
  dsimp only[Nd.x] at hV'
  rw[Qu,decide_eq_true (show (j:Int)<(ks.length:Int) by omega),decide_eq_true (show 0<=(j:Int) by omega),decide_eq_true (show (j:Int)<((zD ks).length:Int) by simp;omega)]
  dsimp only[zr,zc]
  rw[Int.toNat_natCast,vG hjl]
  dsimp only[zpj]
  rw[ZB,YE,show (ks[j].c.drop 0).take 5=ks[j].c from rfl,show (i5 != 7)=true from by simpa using h7]
  dsimp only[Nd.c,zph,zpi,zc,zpj,xr,zr,yw]
  rw[hV']
  dsimp only[zf,zph,zpi,zg,zpj,ve,zc]
  rw[uW,qv,ze (x:=(j:Int)+1) (by omega)]
  dsimp only[zc]
  have:=ih (j+1) (s+zI D ks[j]) (by omega) (by omega) (by omega)
  rw[show s+(zI D ks[j]+zo ((ks.drop (j+1)).map (zI D)))=s+zI D ks[j]+zo ((ks.drop (j+1)).map (zI D)) by omega]
  exact this
theorem zov {D:Nat} {ks:List Nd} (hq:ks.length<=1073741824) (hk:∀ k∈ks,k.kids.length<=1073741824) (hv:∀ k∈ks,∀ t∈k.kids,WS D t) (hn:∀ k∈ks,∀ t∈k.kids,VN t) (i4 i6:Int) (xs7 xs8:List PV):∀ (c j:Nat) (s:Int),j+c=ks.length->0<=s->s+zo ((ks.drop j).map fun k=>zo (k.kids.map (zI D)))<=4611686018427387904->
  Y5 (zD ks) ks.length j (I s) i4 7 i6 xs7 xs8=some (.ret (.pv (.tup [])),vh (s+zo ((ks.drop j).map fun k=>zo (k.kids.map (zI D))))):=by
 intro c
 induction c with
 |zero=>
  intro j s hj h0 hs
  rw[Qu,decide_eq_false (by omega),List.drop_eq_nil_of_le (by omega)]
  simp[xX,vh]
 |succ c ih=>
  intro j s hj h0 hs
  have hjl:j<ks.length:=by omega
  have hmem:=List.getElem_mem hjl
  have nn:∀ k∈ks,0<=zo (k.kids.map (zI D)):=fun k hk=>xZ fun y hy=>by
   obtain ⟨t,ht,rfl⟩:=List.mem_map.1 hy
   exact wm D (hn k hk t ht)
  have hp:=nn _ hmem
  have hr:0<=zo ((ks.drop (j+1)).map fun k=>zo (k.kids.map (zI D))):=xZ fun y hy=>by
   obtain ⟨t,ht,rfl⟩:=List.mem_map.1 hy
   exact nn t (List.mem_of_mem_drop ht)
  rw[XU hjl] at hs ⊢
  have hin:=zow (hk _ hmem) (hv _ hmem) (hn _ hmem) (zD ks) ks.length j i4 7 i6 xs7 xs8 (I ks[j].kind) (I ks[j].elem) (I ks[j].n) (.sl 1 (bs ks[j].data)) (.sl 5 (zD ks[j].kids)) ks[j].kids.length 0 s (by omega) h0 (by rw[List.drop_zero];omega)
  rw[List.drop_zero,ze (x:=(j:Int)+1) (by omega)] at hin
  rw[Qu,decide_eq_true (show (j:Int)<(ks.length:Int) by omega),decide_eq_true (show 0<=(j:Int) by omega),decide_eq_true (show (j:Int)<((zD ks).length:Int) by simp;omega)]
  dsimp only[zr,zc]
  rw[Int.toNat_natCast,vG hjl]
  dsimp only[zpj]
  rw[ZB,YE,show (ks[j].c.drop 0).take 5=ks[j].c from rfl,show ((7:Int) != 7)=false from rfl]
  dsimp only[Nd.c,zph,zpi,zt,zpj,xr,zr,yG,yw,zc]
  rw[wE]
  refine hin.trans ?_
  have:=ih (j+1) (s+zo (ks[j].kids.map (zI D))) (by omega) (by omega) (by omega)
  rw[show s+(zo (ks[j].kids.map (zI D))+zo ((ks.drop (j+1)).map fun k=>zo (k.kids.map (zI D))))=s+zo (ks[j].kids.map (zI D))+zo ((ks.drop (j+1)).map fun k=>zo (k.kids.map (zI D))) by omega]
  exact this
theorem zof {x:Nd} (hg:yB x) (hv:VN x):zl x.kids+zn x.kids<=4611686018427387904:=by
 obtain ⟨hd,hk,hks⟩:=Xd hg
 have:=YU (l:=x.kids) (b:=17592186044416) fun y hy=>by
  have:=(Xd (hks y hy)).1
  omega
 have:=YV (l:=x.kids) (b:=1073741824) fun y hy=>(Xd (hks y hy)).2.1
 omega
theorem zek:∀ (D:Nat) (x:Nd),yB x->VN x->Dp D x->WS D x
 |D,x,hg,hv,hd=>by
  intro s h0 hs
  have ho:=Wk hv
  obtain ⟨hgd,hgk,hgs⟩:=Xd hg
  have hob:yK x<=zI D x:=by
   cases D with
   |zero=>exact Int.le_refl _
   |succ D=>
    rw[zI]
    have:=xZ (l:=(yn x).map (zI D)) fun y hy=>by
     obtain ⟨t,ht,rfl⟩:=List.mem_map.1 hy
     exact wm D (ZN hv t ht)
    omega
  have hO:=rj hg hv (by omega) (zof hg hv)
  dsimp only[Nd.x] at hO
  unfold vh
  rw[Nd.x,zhH,hO,wE]
  dsimp only[zf,zg,zpj,zK]
  rw[ze (x:=s+yK x) (by omega)]
  by_cases k0:x.kind=0
  ·have:=Xt hv k0
   subst this
   have:=zel (D:=D) (ks:=[]) (by simp) (fun t h=>by cases h) (fun t h=>by cases h) 0 0 0 (by decide) (bs []) (zD []) 0 0 (s+yK nd0) rfl (by omega) (by simp[xX];omega)
   refine this.trans ?_
   rw[Wh hv k0,qM k0]
   simp[xX,vh]
  ·cases D with
   |zero=>exact absurd hd k0
   |succ D=>
    have hd':=(hd.resolve_left k0).2
    have hT:∀ t∈yn x,WS D t:=fun t ht=>zek D t (zbN hg t ht) (ZN hv t ht) (hd' t ht)
    rw[zI] at hs ⊢
    by_cases h7:x.kind=2/\x.elem=7
    ·have et:yn x=x.kids.flatMap Nd.kids:=if_pos h7
     rw[et,WC] at hs ⊢
     rw[et] at hT
     have:=zov (D:=D) hgk (fun k hk=>(Xd (hgs k hk)).2.1) (fun k hk t ht=>hT t (List.mem_flatMap.2 ⟨k,hk,ht⟩)) (fun k hk t ht=>ZN hv t (by rw[et];exact List.mem_flatMap.2 ⟨k,hk,ht⟩)) x.kind x.n (bs x.data) (zD x.kids) x.kids.length 0 (s+yK x) (by omega) (by omega) (by rw[List.drop_zero];omega)
     rw[List.drop_zero] at this
     rw[h7.2]
     refine this.trans ?_
     unfold vh
     rw[show s+(yK x+zo (x.kids.map fun k=>zo (k.kids.map (zI D))))=s+yK x+zo (x.kids.map fun k=>zo (k.kids.map (zI D))) by omega]
    ·have et:yn x=x.kids:=if_neg h7
     have he7:x.elem≠7:=fun h=>by
      obtain ⟨hs',_⟩:=wU hv
      rcases hs' with h'|h'|h'<;>omega
     rw[et] at hs hT ⊢
     have:=zel (D:=D) hgk hT (fun t ht=>ZN hv t (by rw[et];exact ht)) x.kind x.elem x.n he7 (bs x.data) (zD x.kids) x.kids.length 0 (s+yK x) (by omega) (by omega) (by rw[List.drop_zero];omega)
     rw[List.drop_zero] at this
     refine this.trans ?_
     unfold vh
     rw[show s+(yK x+zo (x.kids.map (zI D)))=s+yK x+zo (x.kids.map (zI D)) by omega]
theorem zeY {D:Nat} {x:Nd} (hg:yB x) (hv:VN x) (hd:Dp D x) (hb:zI D x<=4611686018427387904):ev 217 [.pv x.x] []=ok (I (zI D x)):=by
 have h:=zek D x hg hv hd 0 (Int.le_refl _) (by omega)
 unfold vh at h
 dsimp only[Nd.x] at h
 rw[Nd.x,zhI,h]
 dsimp only[zf,zph,zpi,zg,zpj,ve,zc]
 rw[uW,qv,Int.zero_add]
 rfl
theorem ze7 {D:Nat} {x:Nd} (hg:yB x) (hv:VN x) (hd:Dp D x) (hb:zI D x<=4611686018427387904):ev 156 [.pv x.x] []=ok (I (zI D x+1)):=by
 have h:=zeY hg hv hd hb
 have hn:=wm D hv
 dsimp only[Nd.x] at h
 rw[Nd.x,zhK,h]
 dsimp only[zf,zg,zpj,zK]
 rw[ze (by omega)]
theorem getD_drop (b:List Int) (n k:Nat):(b.drop n).getD k 0=b.getD (n+k) 0:=by
 rw[List.getD_eq_getElem?_getD,List.getD_eq_getElem?_getD,List.getElem?_drop]
theorem JH {b:List Int} {i:Nat} (h:i<b.length):(bs b)[i]? = some (U8 (b.getD i 0)):=by
 rw[Zr h,List.getD_eq_getElem?_getD,List.getElem?_eq_getElem h]
 rfl
def XD (f:Nat->Nat):Nat->Nat
 |0=>0
 |k+1=>XD f k+f k*2^(8*k)
theorem r7 {f:Nat->Nat} (hf:∀ k,f k<256):∀ k,XD f k<2^(8*k)
 |0=>by show 0<1;decide
 |k+1=>by
  have:=r7 hf k
  have h1:=hf k
  have:f k*2^(8*k)<=255*2^(8*k):=Nat.mul_le_mul_right _ (by omega)
  rw[XD,show 8*(k+1)=8*k+8 by omega,Nat.pow_add]
  omega
theorem zlv {a x i:Nat} (ha:a<2^i) (hx:x<256) (hi:i+8<=64):IntKind.wrap .u64 (BitVec.ofInt 64 (a:Int) ||| BitVec.ofInt 64 (IntKind.wrap .u64 (IntKind.wrap .u64 (x:Int)*2^(min (i:Int).toNat 64)))).toNat=((a+x*2^i:Nat):Int):=by
 have hk:2^i*2^8<=2^64:=by rw[←Nat.pow_add];exact Nat.pow_le_pow_right (by decide) hi
 have hi0:0<2^i:=Nat.pow_pos (by decide)
 have hx2:x*2^i<=255*2^i:=Nat.mul_le_mul_right _ (by omega)
 have e:IntKind.wrap .u64 (IntKind.wrap .u64 (x:Int)*2^(min (i:Int).toNat 64))=((x*2^i:Nat):Int):=by
  rw[wu (by omega),Int.toNat_natCast,Nat.min_eq_left (by omega),show (2:Int)^i=((2^i:Nat):Int) by push_cast;rfl,←Int.natCast_mul]
  exact wu (by omega)
 rw[e]
 have e3:(BitVec.ofInt 64 (a:Int) ||| BitVec.ofInt 64 ((x*2^i:Nat):Int)).toNat=a+x*2^i:=by
  rw[BitVec.toNat_or,vP (by omega),vP (by omega),Nat.or_comm,Nat.mul_comm,←Nat.two_pow_add_eq_or_of_lt ha]
  omega
 rw[e3,wu (by omega)]
def xw (b:List Int) (i:Nat):Nat:=(b.getD i 0).toNat
theorem xo {b:List Int} (hb:∀ x∈b,zq x) (i:Nat):((xw b i:Nat):Int)=b.getD i 0/\xw b i<256:=by
 have:=yU hb i
 unfold xw
 omega
theorem zgg (f:Nat->Nat):XD f 8=0+f 0*1+f 1*256+f 2*65536+f 3*16777216+f 4*4294967296+f 5*1099511627776+f 6*281474976710656+f 7*72057594037927936:=rfl
theorem zgh {b:List Int} (hb:∀ x∈b,zq x) (n:Nat):((XD (fun k=>xw b (n+k)) 8:Nat):Int)=wc (b.drop n):=by
 unfold wc
 simp only[getD_drop]
 rw[←(xo hb (n+0)).1,←(xo hb (n+1)).1,←(xo hb (n+2)).1,←(xo hb (n+3)).1,←(xo hb (n+4)).1,←(xo hb (n+5)).1,←(xo hb (n+6)).1,←(xo hb (n+7)).1]
 rw[zgg]
 omega
theorem zj8 {b:List Int} (hb:∀ x∈b,zq x) {i:Nat} (hi:8*i+8<=b.length) (hl:b.length<=17592186044416):∀ (c k:Nat),k+c=8->K5 (bs b) i ((XD (fun k=>xw b (8*i+k)) k:Nat):Int) k=ok (.tup [U (wc (b.drop (8*i))),Bo true]):=by
 intro c
 induction c with
 |zero=>
  intro k hk
  have:k=8:=by omega
  subst this
  rw[zeu,decide_eq_false (by decide),zgh hb]
  rfl
 |succ c ih=>
  intro k hk
  have hx:=xo hb (8*i+k)
  rw[zeu,decide_eq_true (show (k:Int)<8 by omega),ze (x:=8*(i:Int)) (by omega),ze (x:=8*(i:Int)+k) (by omega),decide_eq_true (show 0<=8*(i:Int)+k by omega),decide_eq_true (show 8*(i:Int)+k<((bs b).length:Int) by simp;omega)]
  dsimp only[zr,zc]
  rw[show (8*(i:Int)+k).toNat=8*i+k by omega,JH (by omega),←hx.1]
  dsimp only[zpj,yv,zph,xt]
  rw[ze (x:=8*(k:Int)) (by omega),show (8*(k:Int))=((8*k:Nat):Int) by push_cast;rfl,wu (by omega),zlv (r7 (fun j=>(xo hb (8*i+j)).2) k) hx.2 (by omega),ze (x:=(k:Int)+1) (by omega),show yP .shl ((8*k:Nat):Int)=true from by unfold yP;exact decide_eq_true (by omega)]
  exact ih (k+1) (by omega)
theorem zeW {b:List Int} (hb:∀ x∈b,zq x) {i:Nat} (hi:8*i+8<=b.length) (hl:b.length<=17592186044416):ev 116 [.pv (.sl 1 (bs b)),.pv (I (i:Int))] []=ok (.tup [U (wc (b.drop (8*i))),Bo true]):=by
 rw[zoO,z5,Int.tdiv_eq_ediv_of_nonneg (by omega),ze (x:=(b.length:Int)/8) (by omega),decide_eq_false (show ¬(i:Int)<0 by omega),decide_eq_false (show ¬(i:Int)≥(b.length:Int)/8 by omega)]
 exact zj8 hb hi hl 8 0 rfl
def vJ (f:Nat->Nat):Nat->Nat
 |0=>0
 |k+1=>vJ f k*256+f (7-k)
theorem rZ {f:Nat->Nat} (hf:∀ k,f k<256):∀ k,vJ f k<256^k
 |0=>by show 0<1;decide
 |k+1=>by
  have:=rZ hf k
  have h1:=hf (7-k)
  rw[vJ,Nat.pow_succ]
  omega
theorem zge (f:Nat->Nat):vJ f 8=(((((((0*256+f 7)*256+f 6)*256+f 5)*256+f 4)*256+f 3)*256+f 2)*256+f 1)*256+f 0:=rfl
theorem zgf {b:List Int} (hb:∀ x∈b,zq x) (n:Nat):((vJ (fun k=>xw b (n+k)) 8:Nat):Int)=wc (b.drop n):=by
 unfold wc
 simp only[getD_drop]
 rw[←(xo hb (n+0)).1,←(xo hb (n+1)).1,←(xo hb (n+2)).1,←(xo hb (n+3)).1,←(xo hb (n+4)).1,←(xo hb (n+5)).1,←(xo hb (n+6)).1,←(xo hb (n+7)).1]
 rw[zge]
 omega
theorem zmT {b:List Int} (hb:∀ x∈b,zq x) {i:Nat} (hi:8*i+8<=b.length) (hl:b.length<=17592186044416):∀ (c k:Nat),k+c=8->QA (bs b) i ((vJ (fun k=>xw b (8*i+k)) k:Nat):Int) (7-k)=ok (.tup [U (wc (b.drop (8*i))),Bo true]):=by
 intro c
 induction c with
 |zero=>
  intro k hk
  have:k=8:=by omega
  subst this
  rw[j9,decide_eq_false (by decide),zgf hb]
  rfl
 |succ c ih=>
  intro k hk
  have hx:=xo hb (8*i+(7-k))
  have ha:=rZ (f:=fun k=>xw b (8*i+k)) (fun j=>(xo hb (8*i+j)).2) (k+1)
  have hp:256^(k+1)<=256^8:=Nat.pow_le_pow_right (by decide) (by omega)
  rw[vJ] at ha
  have hq2:vJ (fun k=>xw b (8*i+k)) k*256+xw b (8*i+(7-k))<2^64:=Nat.lt_of_lt_of_le ha (Nat.le_trans hp (by decide))
  have hq:vJ (fun k=>xw b (8*i+k)) k*256<2^64:=Nat.lt_of_le_of_lt (Nat.le_add_right _ _) hq2
  rw[j9,decide_eq_true (show (7:Int)-k≥0 by omega),ze (x:=8*(i:Int)) (by omega),ze (x:=8*(i:Int)+(7-k)) (by omega),decide_eq_true (show 0<=8*(i:Int)+(7-k) by omega),decide_eq_true (show 8*(i:Int)+(7-k)<((bs b).length:Int) by simp;omega)]
  dsimp only[zr,zc]
  rw[show (8*(i:Int)+(7-k)).toNat=8*i+(7-k) by omega,JH (by omega),←hx.1]
  dsimp only[zpj,yv,zph,xt]
  rw[wu (n:=xw b (8*i+(7-k))) (by omega),show ((vJ (fun k=>xw b (8*i+k)) k:Nat):Int)*256=((vJ (fun k=>xw b (8*i+k)) k*256:Nat):Int) by rw[Int.natCast_mul];rfl,wu (n:=vJ (fun k=>xw b (8*i+k)) k*256) hq,←Int.natCast_add,wu hq2,ze (x:=(7:Int)-k-1) (by omega)]
  have:=ih (k+1) (by omega)
  rw[show (7:Int)-((k+1:Nat):Int)=7-k-1 by omega] at this
  exact this
theorem zfF {b:List Int} (hb:∀ x∈b,zq x) {i:Nat} (hi:8*i+8<=b.length) (hl:b.length<=17592186044416):ev 94 [.pv (.sl 1 (bs b)),.pv (I (i:Int))] []=ok (.tup [U (wc (b.drop (8*i))),Bo true]):=by
 rw[zhU,z5,Int.tdiv_eq_ediv_of_nonneg (by omega),ze (x:=(b.length:Int)/8) (by omega),ze (x:=(b.length:Int)/8-1) (by omega),decide_eq_false (show ¬(i:Int)<0 by omega),decide_eq_false (show ¬(i:Int)>(b.length:Int)/8-1 by omega)]
 exact zmT hb hi hl 8 0 rfl
theorem zez:∀ (n i:Nat) (b:List Int),i<n->(zQ n b)[i]? = some (wc (b.drop (8*i)))
 |0,i,b,h=>by omega
 |n+1,0,b,h=>by simp[zQ]
 |n+1,i+1,b,h=>by
  rw[zQ,zpi,zez n i (b.drop 8) (by omega),List.drop_drop]
  congr 3
  omega
theorem zeB {n i:Nat} (b:List Int) (h:i<n):(zQ n b).take (i+1)=(zQ n b).take i++[wc (b.drop (8*i))]:=by
 have hl:i<(zQ n b).length:=by rw[yM];exact h
 rw[List.take_succ_eq_append_getElem hl]
 have:=zez n i b h
 rw[List.getElem?_eq_getElem hl] at this
 rw[Option.some.inj this]
theorem zoF (b:List Int) (z:Nat):wc (b++List.replicate z 0)=wc b:=by
 have h:∀ k,(b++List.replicate z 0).getD k 0=b.getD k 0:=fun k=>by
  rw[List.getD_eq_getElem?_getD,List.getD_eq_getElem?_getD]
  by_cases h1:k<b.length
  ·rw[List.getElem?_append_left h1]
  ·rw[List.getElem?_append_right (by omega),List.getElem?_replicate,List.getElem?_eq_none (by omega)]
   split<;>rfl
 unfold wc
 simp only[h]
theorem zeA:∀ (n:Nat) (b:List Int) (z:Nat),zQ n (b++List.replicate z 0)=zQ n b
 |0,b,z=>rfl
 |n+1,b,z=>by
  rw[zQ,zQ,zoF,List.drop_append,List.drop_replicate,zeA n]
theorem zoV {b:List Int} (hb:∀ x∈b,zq x) (hl:b.length<=1099511627776) {n:Nat} (hn:8*n=b.length):∀ (c i:Nat),i+c=n->K6 (bs b) (ws ((zQ n b).take i)) n i=ok (.tup [.sl 1 (ws (zQ n b)),Bo true]):=by
 intro c
 induction c with
 |zero=>
  intro i hi
  rw[zev,decide_eq_false (by omega),List.take_of_length_le (by rw[yM];omega)]
  rfl
 |succ c ih=>
  intro i hi
  rw[zev,decide_eq_true (show (i:Int)<(n:Int) by omega),zeW hb (by omega) (by omega)]
  dsimp only[zf,zg,zpj,zO,zpi,zph,yv,zc]
  rw[yQ (by rw[yt,List.length_take];omega) (by rw[yt,List.length_take];omega),ze (x:=(i:Int)+1) (by omega),K7,←zeB b (by omega)]
  exact ih (i+1) (by omega)
theorem Js {b:List Int} (hb:∀ x∈b,zq x) (hl:b.length<=1099511627776) {n:Nat} (hn:8*n=b.length):ev 64 [.pv (.sl 1 (bs b))] []=ok (.tup [.sl 1 (ws (zQ n b)),Bo true]):=by
 rw[zoR,z5,Int.tdiv_eq_ediv_of_nonneg (by omega),Int.tmod_eq_emod_of_nonneg (by omega),show (b.length:Int)/8=n by omega,ze (by omega),show ((b.length:Int)%8 != 0)=false from by simp;omega,decide_eq_true (show 0<=(n:Int) by omega),decide_eq_true (show (n:Int)<=140737488355328 by omega),Int.toNat_natCast,yQ (by omega) (by omega)]
 have:=zoV hb hl hn n 0 (by omega)
 rw[List.take_zero] at this
 exact this
theorem znj {b:List Int} (hb:∀ x∈b,zq x) (hl:b.length<=1099511627776) {n:Nat} (hn:8*n=b.length):∀ (c i:Nat),i+c=n->QD (bs b) (ws ((zQ n b).take i)) i=some (.ret (.tup 0 (.slu 30 1 (ws (zQ n b))) [.v .nilIface,Bo true]),[]):=by
 intro c
 induction c with
 |zero=>
  intro i hi
  rw[zab,z5,Int.tdiv_eq_ediv_of_nonneg (by omega),show (b.length:Int)/8=n by omega,ze (x:=(n:Int)) (by omega),decide_eq_false (by omega),List.take_of_length_le (by rw[yM];omega)]
  rfl
 |succ c ih=>
  intro i hi
  rw[zab,z5,Int.tdiv_eq_ediv_of_nonneg (by omega),show (b.length:Int)/8=n by omega,ze (x:=(n:Int)) (by omega),decide_eq_true (show (i:Int)<(n:Int) by omega),zfF hb (by omega) (by omega)]
  dsimp only[zf,zg,zpj,zO,zpi,zph,yv,zc]
  rw[yQ (by rw[yt,List.length_take];omega) (by rw[yt,List.length_take];omega),ze (x:=(i:Int)+1) (by omega),K7,←zeB b (by omega)]
  exact ih (i+1) (by omega)
theorem zfN {b:List Int} (hb:∀ x∈b,zq x) (hl:b.length<=1099511627776) {n:Nat} (hn:8*n=b.length):ev 87 [.pv (.sl 1 (bs b))] []=some (.ret (.tup 0 (.slu 30 1 (ws (zQ n b))) [.v .nilIface,Bo true]),[]):=by
 rw[zhX,z5,Int.tmod_eq_emod_of_nonneg (by omega),show ((b.length:Int)%8 != 0)=false from by simp;omega]
 have:=znj hb hl hn n 0 (by omega)
 rw[List.take_zero] at this
 exact this
theorem zg9 (b:List Int) (z:Nat):bs (b++List.replicate z 0)=bs b++List.replicate z (U8 0):=by simp[bs]
theorem zhi {b:List Int} (hb:∀ x∈b,zq x) (z:Nat):∀ x∈b++List.replicate z 0,zq x:=fun x hx=>by
 rcases List.mem_append.1 hx with h|h
 ·exact hb x h
 ·rw[(List.mem_replicate.1 h).2];exact ⟨by decide,by decide⟩
def wh (W:List Int):zh:=[[.slu 30 1 (ws W)]]
theorem zeD (a b:List Int):ws (a++b)=ws a++ws b:=by simp[ws]
theorem zo3 (n:Nat):ws (List.replicate n 0)=List.replicate n (U 0):=by simp[ws]
theorem JB {W b:List Int} (hb:∀ x∈b,zq x) {n:Nat} (hn:n<=137438953472) (h8:b.length<=8*n) (hW:W.length<=137438953472):ev 293 [.ptr 0 0,.pv (.sl 1 (bs b)),.pv (I (n:Int))] (wh W)=some (.ret (.pv (.tup [])),wh (W++zQ n b)):=by
 unfold wh
 rw[zhM,ze (x:=8*(n:Int)) (by omega),decide_eq_true (show 0<=8*(n:Int) by omega),decide_eq_true (show 8*(n:Int)<=8*(n:Int) by omega),decide_eq_true (show 8*(n:Int)<=140737488355328 by omega),show (8*(n:Int)).toNat=8*n by omega,yQ (by omega) (by omega),List.length_replicate,List.drop_replicate,z5,List.take_of_length_le (show (bs b).length<=8*n by rw[z5];exact h8)]
 have:=Js (zhi hb (8*n-b.length)) (by rw[zpk,List.length_replicate];omega) (n:=n) (by rw[zpk,List.length_replicate];omega)
 rw[zg9,zeA] at this
 dsimp only[zr,zc]
 rw[this]
 dsimp only[zf,zg,zpj,zO,zpi,zph,yG]
 rw[yt,yt,yM,yQ (by omega) (by omega),zeD]
 rfl
theorem JC {W:List Int} {n:Nat} (hn:n<=137438953472) (hW:W.length<=137438953472):ev 292 [.ptr 0 0,.pv (I (n:Int))] (wh W)=some (.ret (.pv (I (W.length:Int))),wh (W++List.replicate n 0)):=by
 unfold wh
 rw[zhP,decide_eq_true (show 0<=(n:Int) by omega),decide_eq_true (show (n:Int)<=140737488355328 by omega),Int.toNat_natCast,yt,List.length_replicate,yQ (by omega) (by omega),zeD,zo3]
 rfl
def vF (B:Nd->List Int) (a:Nat) (t:Nd) (W:List Int):List Int:=if t.kind=0 then W else W.set a (yA t ((W.length:Int)-a-1))++B t
def xv (B:Nd->List Int):List (Nat×Nd)->List Int->List Int
 |[],W=>W
 |(a,t)::r,W=>xv B r (vF B a t W)
def xn (i:Nat):List Nd->List (Nat×Nd)
 |[]=>[]
 |t::r=>(i,t)::xn (i+1) r
def Z5 (a s i:Nat):List Nd->List (Nat×Nd)
 |[]=>[]
 |k::r=>xn (i+a) k.kids++Z5 a s (i+s) r
def els (a b:Nat) (l:List Nd):List Int:=l.flatMap fun k=>zQ a k.data++List.replicate b 0
theorem ut (B:Nd->List Int):∀ (l m:List (Nat×Nd)) (W:List Int),xv B (l++m) W=xv B m (xv B l W)
 |[],m,W=>rfl
 |(a,t)::l,m,W=>ut B l m _
theorem zcT {t:Nd} (h:t.kind=0) (o:Int):yA t o=0:=by unfold yA;rw[if_pos h]
theorem KI {B:Nd->List Int} (hB:∀ t:Nd,t.kind=0->B t=[]):∀ (q:List Nd) (X Y:List Int) (i n:Nat),i=X.length->n=X.length+q.length+Y.length->xv B (xn i q) (X++(List.replicate q.length 0++Y))=X++(yu B i n q++(Y++q.flatMap B))
 |[],X,Y,i,n,hi,hn=>by simp[xv,xn,yu]
 |t::r,X,Y,i,n,hi,hn=>by
  rw[xn,xv,yu,List.flatMap_cons,zpl,List.replicate_succ]
  rw[zpl] at hn
  have e:vF B i t (X++(0::List.replicate r.length 0++Y))=(X++[yA t ((n:Int)-i-1)])++(List.replicate r.length 0++(Y++B t)):=by
   unfold vF
   by_cases h0:t.kind=0
   ·rw[if_pos h0,zcT h0,hB t h0]
    simp
   ·rw[if_neg h0]
    have hl:(X++(0::List.replicate r.length 0++Y)).length=n:=by simp;omega
    rw[hl,hi,List.set_append_right _ _ (Nat.le_refl _),Nat.sub_self]
    simp
  rw[e,KI hB r (X++[yA t ((n:Int)-i-1)]) (Y++B t) (i+1) (n+(B t).length) (by simp[hi]) (by simp;omega)]
  simp only[List.append_assoc,List.singleton_append,List.cons_append,zpm]
theorem za0 (a b:Nat) (k:Nd) (l:List Nd):els a b (k::l)=zQ a k.data++(List.replicate b 0++els a b l):=by simp[els]
theorem QX (a b:Nat):∀ l:List Nd,(els a b l).length=l.length*(a+b)
 |[]=>by simp[els]
 |k::l=>by rw[za0,zpk,zpk,yM,List.length_replicate,QX a b l,zpl,Nat.add_mul];omega
theorem zdg {B:Nd->List Int} (hB:∀ t:Nd,t.kind=0->B t=[]) (a b:Nat):∀ (ks:List Nd) (X Y:List Int) (i n:Nat),i=X.length->n=X.length+ks.length*(a+b)+Y.length->(∀ k∈ks,k.kids.length<=b)->xv B (Z5 a (a+b) i ks) (X++(els a b ks++Y))=X++(xk B a b i n ks++(Y++ks.flatMap fun k=>k.kids.flatMap B))
 |[],X,Y,i,n,hi,hn,_=>by simp[xv,Z5,xk,els]
 |k::r,X,Y,i,n,hi,hn,hk=>by
  have hb:=hk k List.mem_cons_self
  rw[zpl,Nat.add_mul,Nat.one_mul] at hn
  rw[Z5,ut,xk,List.flatMap_cons,za0]
  have e1:X++(zQ a k.data++(List.replicate b 0++els a b r)++Y)=(X++zQ a k.data)++(List.replicate k.kids.length 0++(List.replicate (b-k.kids.length) 0++(els a b r++Y))):=by
   have:List.replicate b (0:Int)=List.replicate k.kids.length 0++List.replicate (b-k.kids.length) 0:=by rw[List.replicate_append_replicate];congr 1;omega
   rw[this]
   simp only[List.append_assoc]
  rw[e1,KI hB k.kids (X++zQ a k.data) (List.replicate (b-k.kids.length) 0++(els a b r++Y)) (i+a) n (by simp[hi]) (by simp[QX];omega)]
  have e2:X++zQ a k.data++(yu B (i+a) n k.kids++(List.replicate (b-k.kids.length) 0++(els a b r++Y)++k.kids.flatMap B))=(X++(zQ a k.data++(yu B (i+a) n k.kids++List.replicate (b-k.kids.length) 0)))++(els a b r++(Y++k.kids.flatMap B)):=by
   simp only[List.append_assoc]
  have r2:=zdg hB a b r (X++(zQ a k.data++(yu B (i+a) n k.kids++List.replicate (b-k.kids.length) 0))) (Y++k.kids.flatMap B) (i+(a+b)) (n+vc B k.kids) (by simp[hi];omega) (by unfold vc;simp;omega) (fun x hx=>hk x (List.mem_cons_of_mem _ hx))
  rw[e2,r2]
  simp only[List.append_assoc]
theorem Ky (B:Nd->List Int) (s:Nat):∀ (l:List Nd) (i n:Nat),yu B (i+s) (n+s) l=yu B i n l
 |[],i,n=>rfl
 |t::r,i,n=>by
  rw[yu,yu]
  have e:=Ky B s r (i+1) (n+(B t).length)
  rw[show i+1+s=i+s+1 by omega,show n+(B t).length+s=n+s+(B t).length by omega] at e
  rw[e]
  congr 2
  omega
theorem jk (B:Nd->List Int) (a b s:Nat):∀ (l:List Nd) (i n:Nat),xk B a b (i+s) (n+s) l=xk B a b i n l
 |[],i,n=>rfl
 |k::r,i,n=>by
  rw[xk,xk]
  have e:=jk B a b s r (i+(a+b)) (n+vc B k.kids)
  rw[show i+(a+b)+s=i+s+(a+b) by omega,show n+vc B k.kids+s=n+s+vc B k.kids by omega] at e
  rw[e]
  have e2:=Ky B s k.kids (i+a) n
  rw[show i+a+s=i+s+a by omega] at e2
  rw[e2]
def Zl (x:Nd):List Int :=
 if x.kind=1 then zQ (x.data.length/8) x.data++List.replicate x.kids.length 0
 else if x.elem=7 then yl x.n (zl x.kids) (zn x.kids)::els (zl x.kids) (zn x.kids) x.kids
 else if x.elem=6 then List.replicate x.kids.length 0
 else zQ (zs x.elem x.n).toNat x.data
def Wr (x:Nd) (s:Nat):List (Nat×Nd) :=
 if x.kind=1 then xn (s+x.data.length/8) x.kids
 else if x.elem=7 then Z5 (zl x.kids) (zl x.kids+zn x.kids) (s+1) x.kids
 else xn s x.kids
theorem znt {B:Nd->List Int} {x:Nd} (hv:VN x) (h0:x.kind≠0):(Zl x).length=(xG B x).length:=by
 obtain ⟨hs,_⟩:=wU hv
 unfold Zl xG
 by_cases h1:x.kind=1
 ·rw[if_pos h1,if_pos h1];simp
 ·rw[if_neg h1,if_neg h1]
  by_cases h7:x.elem=7
  ·rw[if_pos h7,if_pos h7,zpl,zpl,QX,XH _ _ _ _ _ _ (fun k hk=>YW hk)]
  ·rw[if_neg h7,if_neg h7]
   by_cases h6:x.elem=6
   ·rw[if_pos h6,if_pos h6];simp
   ·rw[if_neg h6,if_neg h6]
theorem zm7 {B:Nd->List Int} (hB:∀ t:Nd,t.kind=0->B t=[]) {x:Nd} (hv:VN x) (h0:x.kind≠0) (W:List Int):xv B (Wr x W.length) (W++Zl x)=W++(xG B x++(yn x).flatMap B):=by
 obtain ⟨hs,_⟩:=wU hv
 unfold Wr Zl xG
 by_cases h1:x.kind=1
 ·rw[if_pos h1,if_pos h1,if_pos h1]
  have et:yn x=x.kids:=if_neg (fun h=>by rw[h1] at h;exact absurd h.1 (by decide))
  have r:=KI hB x.kids (W++zQ (x.data.length/8) x.data) [] (W.length+x.data.length/8) (W.length+(x.data.length/8+x.kids.length)) (by simp) (by simp;omega)
  rw[List.append_nil] at r
  rw[←List.append_assoc,r,et,zpm]
  have e:=Ky B W.length x.kids (x.data.length/8) (x.data.length/8+x.kids.length)
  rw[Nat.add_comm _ W.length,Nat.add_comm _ W.length] at e
  rw[e]
  simp only[List.append_assoc]
 ·rw[if_neg h1,if_neg h1,if_neg h1]
  by_cases h7:x.elem=7
  ·rw[if_pos h7,if_pos h7,if_pos h7]
   have hk2:x.kind=2:=by rcases hs with h|h|h<;>omega
   have et:yn x=x.kids.flatMap Nd.kids:=if_pos ⟨hk2,h7⟩
   have r:=zdg hB (zl x.kids) (zn x.kids) x.kids (W++[yl x.n (zl x.kids) (zn x.kids)]) [] (W.length+1) (W.length+(1+x.kids.length*ZJ x)) (by simp) (by unfold ZJ;simp;omega) (fun k hk=>YW hk)
   rw[List.append_nil] at r
   rw[et,Q5]
   have e1:W++yl x.n (zl x.kids) (zn x.kids)::els (zl x.kids) (zn x.kids) x.kids=W++[yl x.n (zl x.kids) (zn x.kids)]++els (zl x.kids) (zn x.kids) x.kids:=by simp
   rw[e1,r,zpm]
   have e:=jk B (zl x.kids) (zn x.kids) W.length x.kids 1 (1+x.kids.length*ZJ x)
   rw[Nat.add_comm _ W.length,Nat.add_comm _ W.length] at e
   rw[e]
   simp
  ·rw[if_neg h7,if_neg h7,if_neg h7]
   have et:yn x=x.kids:=if_neg (fun h=>h7 h.2)
   rw[et]
   by_cases h6:x.elem=6
   ·rw[if_pos h6,if_pos h6]
    have r:=KI hB x.kids W [] W.length (W.length+x.kids.length) rfl (by simp)
    rw[List.append_nil] at r
    rw[r,zpm]
    have e:=Ky B W.length x.kids 0 x.kids.length
    rw[Nat.zero_add,Nat.add_comm] at e
    rw[e]
   ·rw[if_neg h6,if_neg h6]
    have hk:x.kids=[]:=by
     rcases hs with h|h|h
     ·omega
     ·omega
     ·exact List.length_eq_zero_iff.1 (h.2.2.2.2 (by omega)).1
    rw[hk]
    simp[xn,xv]
theorem jB (D:Nat) (t:Nd) (h:t.kind=0):body D t=[]:=by
 cases D with
 |zero=>rfl
 |succ D=>rw[body,if_pos h]
theorem zlV {D:Nat} {x:Nd} (hv:VN x) (h0:x.kind≠0) {a:Nat} {W:List Int} (ha:a<W.length):vF (body (D+1)) a x W=xv (body D) (Wr x W.length) ((W++Zl x).set a (yA x ((W.length:Int)-a-1))):=by
 unfold vF
 rw[if_neg h0,List.set_append_left _ _ ha]
 have r:=zm7 (jB D) hv h0 (W.set a (yA x ((W.length:Int)-a-1)))
 rw[List.length_set] at r
 rw[r,body,if_neg h0]
def gZ (off:Int) (d q:Nat):PV:=.agg [I 0,I off,I d,I q,I 0,I 0,Bo false,I 0,yY 0,yY 0]
def Y0 (off e c:Int):PV:=.agg [I 1,I off,I 0,I 0,I e,I c,Bo false,I 0,yY 0,yY 0]
theorem zf3 {W d:List Int} {ks:List Nd} (hb:∀ x∈d,zq x) (h8:d.length%8=0) (hd:d.length<=524280) (hk:ks.length<=65535) (hW:W.length<=268435456) (e n:Int):ev 269 [.ptr 0 0,.pv (.agg [I 1,I e,I n,.sl 1 (bs d),.sl 5 (zD ks)])] (wh W) =
  some (.ret (.pv (.tup [gZ 0 (d.length/8) ks.length,.sl 1 [I ((W.length+d.length/8:Nat):Int)]])),wh (W++(zQ (d.length/8) d++List.replicate ks.length 0))):=by
 have h1:=JB (W:=W) hb (n:=d.length/8) (by omega) (by omega) (by omega)
 have h2:=JC (W:=W++zQ (d.length/8) d) (n:=ks.length) (by omega) (by simp;omega)
 unfold wh at h1 h2 ⊢
 rw[zhO,z5,wE,Int.tdiv_eq_ediv_of_nonneg (by omega),show (d.length:Int)/8=((d.length/8:Nat):Int) by omega,ze (by omega),h1]
 dsimp only[zf,zph,yO,zg,zpj,zc,ve]
 rw[yN]
 dsimp only[zpj]
 rw[h2]
 dsimp only[zf,zph,yO,zg,zpj,yv,zc,ve]
 rw[zpk,yM,List.append_assoc]
 rfl
theorem zf2 {W:List Int} {ks:List Nd} {n:Nat} (hn:n<=268435456) (hW:W.length<=268435456) (d:List PV):ev 268 [.ptr 0 0,.pv (.agg [I 2,I 6,I (n:Int),.sl 1 d,.sl 5 (zD ks)])] (wh W) =
  some (.ret (.pv (.tup [Y0 0 6 n,.sl 1 [I (W.length:Int)]])),wh (W++List.replicate n 0)):=by
 have h2:=JC (W:=W) (n:=n) (by omega) (by omega)
 unfold wh at h2 ⊢
 rw[jY,show ((6:Int)==6)=true from rfl,h2]
 rfl
theorem zf1 {W d:List Int} {ks:List Nd} {e n:Int} (he:0<=e/\e<6) (hn:0<=n/\n<=536870911) (hb:∀ x∈d,zq x) (hl:(d.length:Int)=zS e n) (hw:zs e n<=268435456) (hW:W.length<=268435456) (hO:ev 262 [.pv (.agg [I 2,I e,I n,.sl 1 (bs d),.sl 5 (zD ks)])] []=ok (I (zs e n))) :
  ev 268 [.ptr 0 0,.pv (.agg [I 2,I e,I n,.sl 1 (bs d),.sl 5 (zD ks)])] (wh W) =
  some (.ret (.pv (.tup [Y0 0 e n,.sl 1 []])),wh (W++zQ (zs e n).toNat d)):=by
 have hr:=Zo (e:=e) hn
 have hbw:=JL he hn
 have h1:=JB (W:=W) hb (n:=(zs e n).toNat) (by omega) (by omega) (by omega)
 rw[show (((zs e n).toNat:Nat):Int)=zs e n by omega] at h1
 unfold wh at h1 ⊢
 rw[jY,beq_eq_false_iff_ne.2 (show e≠6 by omega),hO]
 dsimp only[zf,zg,zpj,zt]
 rw[h1]
 rfl
theorem ziS {W0:List Int} {ks:List Nd} {a b:Nat} (ha:a<=65535) (hb:b<=65535) (hk:ks.length<=536870911) (hs:∀ k∈ks,(∀ x∈k.data,zq x)/\k.data.length<=8*a) (hl:W0.length+ks.length*(a+b)<=268435456) (i7 i8 i9:Int) (xs10 xs11:List PV) (i12 i13 i14 i15 i16 i17:Int) (b18:Bool) (i19 i20 i21:Int):∀ (c i:Nat),i+c=ks.length->
  Qw (I a) (I b) (((List.range i).map fun j=>I ((W0.length+j*(a+b)+a:Nat):Int))) (zD ks) ks.length i (ws (W0++els a b (ks.take i))) i7 i8 i9 xs10 xs11 i12 i13 i14 i15 i16 i17 b18 i19 i20 i21 =
   some (.ret (.pv (.tup [Y0 0 i8 (IntKind.wrap .i64 (i9*((a+b:Nat):Int))),.sl 1 ((List.range ks.length).map fun j=>I ((W0.length+j*(a+b)+a:Nat):Int))])),wh (W0++els a b ks)):=by
 intro c
 induction c with
 |zero=>
  intro i hi
  rw[jX,decide_eq_false (by omega),List.take_of_length_le (by omega),show i=ks.length by omega]
  dsimp only[zK,zpj,zt]
  rw[ze (x:=(a:Int)+b) (by omega),show (a:Int)+b=((a+b:Nat):Int) by push_cast;rfl]
  rfl
 |succ c ih=>
  intro i hi
  have hil:i<ks.length:=by omega
  obtain ⟨s1,s2⟩:=hs _ (List.getElem_mem hil)
  have hmul:i*(a+b)+(a+b)<=ks.length*(a+b):=by
   have:=Nat.mul_le_mul_right (a+b) (show i+1<=ks.length by omega)
   rw[Nat.add_mul,Nat.one_mul] at this
   exact this
  have hel:(els a b (ks.take i)).length=i*(a+b):=by rw[QX,List.length_take,Nat.min_eq_left (by omega)]
  have h1:=JB (W:=W0++els a b (ks.take i)) s1 (n:=a) (by omega) s2 (by rw[zpk,hel];omega)
  have h2:=JC (W:=W0++els a b (ks.take i)++zQ a ks[i].data) (n:=b) (by omega) (by rw[zpk,zpk,hel,yM];omega)
  unfold wh at h1 h2
  rw[jX,decide_eq_true (show (i:Int)<(ks.length:Int) by omega),decide_eq_true (show 0<=(i:Int) by omega),decide_eq_true (show (i:Int)<((zD ks).length:Int) by simp;omega)]
  dsimp only[zr,zc,zK,zpj]
  rw[Int.toNat_natCast,vG hil]
  dsimp only[zpj]
  rw[ZB,YE,show (ks[i].c.drop 0).take 5=ks[i].c from rfl]
  dsimp only[Nd.c,zph,zpi,zpj,xr,zr,yw,zc]
  rw[h1]
  dsimp only[zf,zph,yO,zg,zpj,zc,ve]
  rw[yN]
  dsimp only[zpj]
  rw[h2]
  dsimp only[zf,zph,yO,zg,zpj,yv,zc,ve]
  rw[yN]
  dsimp only[zpj]
  rw[yQ (by simp;omega) (by simp;omega),ze (x:=(i:Int)+1) (by omega)]
  have e1:(List.range i).map (fun j=>I ((W0.length+j*(a+b)+a:Nat):Int))++[I ((W0++els a b (ks.take i)++zQ a ks[i].data).length:Int)]=(List.range (i+1)).map fun j=>I ((W0.length+j*(a+b)+a:Nat):Int):=by
   rw[List.range_succ,List.map_append,List.map_singleton,zpk,zpk,hel,yM]
  have e2:W0++els a b (ks.take i)++zQ a ks[i].data++List.replicate b 0=W0++els a b (ks.take (i+1)):=by
   rw[vl hil]
   unfold els
   rw[List.flatMap_append,List.flatMap_singleton]
   simp only[List.append_assoc]
  have:=ih (i+1) (by omega)
  rw[←e1,←e2] at this
  exact this
theorem zf0 {W:List Int} {ks:List Nd} {n:Int} (hn:0<=n/\n<=536870911) (hk:(ks.length:Int)=n) (hs:∀ k∈ks,(∀ x∈k.data,zq x)/\k.data.length%8=0/\k.data.length<=524280/\k.kids.length<=65535) (hl:W.length+1+ks.length*(zl ks+zn ks)<=268435456) :
  ev 270 [.ptr 0 0,.pv (.agg [I 2,I 7,I n,.sl 1 [],.sl 5 (zD ks)])] (wh W) =
  some (.ret (.pv (.tup [Y0 0 7 (n*((zl ks+zn ks:Nat):Int)),.sl 1 ((List.range ks.length).map fun j=>I ((W.length+1+j*(zl ks+zn ks)+zl ks:Nat):Int))])),wh (W++(yl n (zl ks) (zn ks)::els (zl ks) (zn ks) ks))):=by
 have hud:zl ks<=65535:=YU fun x hx=>by have:=(hs x hx).2.2.1;omega
 have huq:zn ks<=65535:=YV fun x hx=>(hs x hx).2.2.2
 have hU:=rp (x:=.mk 2 7 n [] ks) (by show ks.length<=_;omega) (fun y hy=>by have:=(hs y hy).2.2.1;omega)
 have hE:=Jj (off:=n) (d:=zl ks) (q:=zn ks) (by omega) hud huq
 have hu:ev 219 [.pv (.agg [I 2,I 7,I n,.sl 1 [],.sl 5 (zD ks)])] []=ok (.tup [I (zl ks:Nat),I (zn ks:Nat)]):=hU
 have hL:=ziS (W0:=W++[yl n (zl ks) (zn ks)]) (ks:=ks) hud huq (by omega) (fun k hk=>⟨(hs k hk).1,by have:=uR hk;have:=(hs k hk).2.1;omega⟩) (by rw[zpk,List.length_singleton];omega) 2 7 n [] (zD ks) 0 0 0 0 0 0 false 0 0 0 ks.length 0 (by omega)
 unfold wh at hL ⊢
 rw[zhN,hu]
 dsimp only[zf,zg,zpj,zO,zpi,zph,yw,zr,zc]
 rw[hE]
 dsimp only[zf,zg,zpj,zO,zpi,zph,yv]
 rw[yt,yQ (by omega) (by omega),wE,K7]
 have hL':=hL
 rw[List.take_zero,show els (zl ks) (zn ks) []=[] from rfl,List.append_nil] at hL'
 refine Eq.trans (show _=_ from hL') ?_
 have e1:W++[yl n (zl ks) (zn ks)]++els (zl ks) (zn ks) ks=W++(yl n (zl ks) (zn ks)::els (zl ks) (zn ks) ks):=by simp
 have hnu:n*((zl ks+zn ks:Nat):Int)=((ks.length*(zl ks+zn ks):Nat):Int):=by rw[←hk];push_cast;rfl
 rw[e1,zpk,List.length_singleton,ze (by rw[hnu];omega)]
theorem jA {D:Nat} {x:Nd} (h:Ok D x):((body D x).length:Int)=zI D x:=jz D h.vn h.dp
theorem qZ {D:Nat} {t:Nd} (h:Ok D t) (a:Nat) (W:List Int):((vF (body D) a t W).length:Int)=W.length+zI D t:=by
 unfold vF
 split
 ·rename_i h0
  rw[Wh h.vn h0,Int.add_zero]
 ·rw[zpk,List.length_set,←jA h]
  push_cast
  rfl
theorem zdk {D:Nat}:∀ (l:List (Nat×Nd)) (W:List Int),(∀ p∈l,Ok D p.2)->((xv (body D) l W).length:Int)=W.length+zo (l.map fun p=>zI D p.2)
 |[],W,_=>by simp[xv,xX]
 |(a,t)::r,W,h=>by
  rw[xv,zdk r _ (fun p hp=>h p (List.mem_cons_of_mem _ hp)),qZ (h (a,t) List.mem_cons_self),List.map_cons,xI]
  dsimp only
  omega
theorem zcR:∀ (q:List Nd) (i:Nat) (p:Nat×Nd),p∈xn i q->p.2∈q
 |[],i,p,h=>by cases h
 |t::r,i,p,h=>by
  rw[xn] at h
  rcases List.mem_cons.1 h with rfl|h
  ·exact List.mem_cons_self
  ·exact List.mem_cons_of_mem _ (zcR r _ p h)
theorem zcS (f:Nd->Int):∀ (q:List Nd) (i:Nat),zo ((xn i q).map fun p=>f p.2)=zo (q.map f)
 |[],i=>rfl
 |t::r,i=>by rw[xn,List.map_cons,List.map_cons,xI,xI,zcS f r]
theorem V0 (L:List Int) (i:Nat) (w:Int):(ws L).set i (U w)=ws (L.set i w):=by simp[ws,List.map_set]
def Xz (D:Nat) (t:Nd):Prop:=∀ (W:List Int) (a:Nat),a<W.length->(W.length:Int)+zI D t<=268435456->ev 228 [.ptr 0 0,.pv (I (a:Int)),.pv t.x] (wh W)=some (.ret (.pv (.tup [])),wh (vF (body D) a t W))
theorem zcK {D:Nat} {t:Nd} (h:t.kind=0):Xz D t:=fun W a ha hl=>by
 unfold wh vF
 rw[Nd.x,WZ,beq_iff_eq.2 h,if_pos h]
 rfl
section
variable {D:Nat} {q:List Nd} (hq:q.length<=268435456) (hP:∀ t∈q,Xz D t) (hO:∀ t∈q,Ok D t) (xs0:List PV) (p2:PV) (i3 i4 i9 i10 i11:Int) (xs12 xs13:List PV) (p14:PV) (i15:Int) (p16 p17 p18 p19 p20 p21 p22 p23:PV) {f:Nat}
include hq hP hO
theorem zeO:∀ (c j:Nat) (W:List Int),j+c=q.length->f+q.length<=W.length->(W.length:Int)+zo ((q.drop j).map (zI D))<=268435456->
  Qx xs0 (I (f:Int)) p2 i3 i4 (.sl 5 (zD q)) q.length j (ws W) i9 i10 i11 xs12 xs13 p14 i15 p16 p17 p18 p19 p20 p21 p22 p23=Zs xs0 p2 i3 (IntKind.wrap .i64 (i4+1)) (ws (xv (body D) (xn (f+j) (q.drop j)) W)) i9 i10 i11 xs12 xs13 p14 i15 p16 p17 p18 p19 p20 p21 p22 p23:=by
 intro c
 induction c with
 |zero=>
  intro j W hj hf hl
  rw[j4,decide_eq_false (by omega),List.drop_eq_nil_of_le (by omega)]
  rfl
 |succ c ih=>
  intro j W hj hf hl
  have hjl:j<q.length:=by omega
  have ho:=hO _ (List.getElem_mem hjl)
  rw[XU hjl] at hl
  have hnn:=wm D ho.vn
  have hr:0<=zo ((q.drop (j+1)).map (zI D)):=xZ fun y hy=>by
   obtain ⟨t,ht,rfl⟩:=List.mem_map.1 hy
   exact wm D (hO t (List.mem_of_mem_drop ht)).vn
  have h1:=hP _ (List.getElem_mem hjl) W (f+j) (by omega) (by omega)
  have hlen:=qZ ho (f+j) W
  unfold wh at h1
  dsimp only[Nd.x] at h1
  rw[j4,decide_eq_true (show (j:Int)<(q.length:Int) by omega)]
  dsimp only[yG,zK,zpj,zc]
  rw[decide_eq_true (show (5:Nat)=5 from rfl),decide_eq_true (show 0<=(j:Int) by omega),decide_eq_true (show (j:Int)<((zD q).length:Int) by simp;omega)]
  dsimp only[zr,zc]
  rw[Int.toNat_natCast,vG hjl]
  dsimp only[zpj]
  rw[ZB,YE,show (q[j].c.drop 0).take 5=q[j].c from rfl]
  dsimp only[Nd.c,zph,zpi,zpj,xr,zr,yw,zc]
  rw[ze (x:=(f:Int)+j) (by omega),show (f:Int)+j=((f+j:Nat):Int) by push_cast;rfl,h1]
  dsimp only[zf,zph,yO,zg,zpj,zc,ve]
  rw[yN,ze (x:=(j:Int)+1) (by omega)]
  dsimp only[zpj]
  have:=ih (j+1) (vF (body D) (f+j) q[j] W) (by omega) (by omega) (by omega)
  rw[List.drop_eq_getElem_cons hjl,xn,xv]
  exact this
theorem zeP:∀ (c j:Nat) (W:List Int),j+c=q.length->f+q.length<=W.length->(W.length:Int)+zo ((q.drop j).map (zI D))<=268435456->
  Qy xs0 (I (f:Int)) p2 i3 i4 (.sl 5 (zD q)) q.length j (ws W) i9 i10 i11 xs12 xs13 p14 i15 p16 p17 p18 p19 p20 p21 p22 p23=Y6 xs0 p2 i3 (IntKind.wrap .i64 (i4+1)) (ws (xv (body D) (xn (f+j) (q.drop j)) W)) i9 i10 i11 xs12 xs13 p14 i15 p16 p17 p18 p19 p20 p21 p22 p23:=by
 intro c
 induction c with
 |zero=>
  intro j W hj hf hl
  rw[j5,decide_eq_false (by omega),List.drop_eq_nil_of_le (by omega)]
  rfl
 |succ c ih=>
  intro j W hj hf hl
  have hjl:j<q.length:=by omega
  have ho:=hO _ (List.getElem_mem hjl)
  rw[XU hjl] at hl
  have hnn:=wm D ho.vn
  have hr:0<=zo ((q.drop (j+1)).map (zI D)):=xZ fun y hy=>by
   obtain ⟨t,ht,rfl⟩:=List.mem_map.1 hy
   exact wm D (hO t (List.mem_of_mem_drop ht)).vn
  have h1:=hP _ (List.getElem_mem hjl) W (f+j) (by omega) (by omega)
  have hlen:=qZ ho (f+j) W
  unfold wh at h1
  dsimp only[Nd.x] at h1
  rw[j5,decide_eq_true (show (j:Int)<(q.length:Int) by omega)]
  dsimp only[yG,zK,zpj,zc]
  rw[decide_eq_true (show (5:Nat)=5 from rfl),decide_eq_true (show 0<=(j:Int) by omega),decide_eq_true (show (j:Int)<((zD q).length:Int) by simp;omega)]
  dsimp only[zr,zc]
  rw[Int.toNat_natCast,vG hjl]
  dsimp only[zpj]
  rw[ZB,YE,show (q[j].c.drop 0).take 5=q[j].c from rfl]
  dsimp only[Nd.c,zph,zpi,zpj,xr,zr,yw,zc]
  rw[ze (x:=(f:Int)+j) (by omega),show (f:Int)+j=((f+j:Nat):Int) by push_cast;rfl,h1]
  dsimp only[zf,zph,yO,zg,zpj,zc,ve]
  rw[yN,ze (x:=(j:Int)+1) (by omega)]
  dsimp only[zpj]
  have:=ih (j+1) (vF (body D) (f+j) q[j] W) (by omega) (by omega) (by omega)
  rw[List.drop_eq_getElem_cons hjl,xn,xv]
  exact this
end
theorem gY {D:Nat} {x:Nd} (hq:x.kids.length<=268435456) (hP:∀ t∈x.kids,Xz D t) (hO:∀ t∈x.kids,Ok D t) (i9 i10 i11:Int) (xs12 xs13:List PV) (p14:PV) (i15:Int) (p16 p17 p18 p19 p20 p21 p22 p23:PV) {f:Nat} {W:List Int} (hf:f+x.kids.length<=W.length) (hl:(W.length:Int)+zo (x.kids.map (zI D))<=268435456) :
  Zs [.agg [I x.kind,I x.elem,I x.n,.sl 1 (bs x.data),.sl 5 (zD x.kids)]] (.sl 1 [I (f:Int)]) 1 0 (ws W) i9 i10 i11 xs12 xs13 p14 i15 p16 p17 p18 p19 p20 p21 p22 p23=some (.ret (.pv (.tup [])),wh (xv (body D) (xn f x.kids) W)):=by
 have h:=zeO hq hP hO [.agg [I x.kind,I x.elem,I x.n,.sl 1 (bs x.data),.sl 5 (zD x.kids)]] (.sl 1 [I (f:Int)]) 1 0 i9 i10 i11 xs12 xs13 p14 i15 p16 p17 p18 p19 p20 p21 p22 p23 (f:=f) x.kids.length 0 W (by omega) hf (by rw[List.drop_zero];exact hl)
 rw[JT,decide_eq_true (show (0:Int)<1 by decide)]
 dsimp only[yG,zpj,zc]
 rw[decide_eq_true (show (1:Nat)=1 from rfl),decide_eq_true (show (0:Int)<=0 by decide),decide_eq_true (show (0:Int)<(([I (f:Int)]:List PV).length:Int) by simp),decide_eq_true (show (0:Int)<(([.agg [I x.kind,I x.elem,I x.n,.sl 1 (bs x.data),.sl 5 (zD x.kids)]]:List PV).length:Int) by simp),show (0:Int).toNat=0 from rfl]
 dsimp only[zr,zph,zpj,yT,zpi,yG,zc,yv]
 rw[wE]
 refine (show _=_ from h).trans ?_
 rw[JT,show IntKind.wrap .i64 (0+1)=1 from rfl,decide_eq_false (by decide),List.drop_zero,Nat.add_zero]
 rfl
theorem zeN {D:Nat} {ks:List Nd} {a b s:Nat} (hq:ks.length<=536870911) (hk:∀ k∈ks,k.kids.length<=b) (hP:∀ k∈ks,∀ t∈k.kids,Xz D t) (hO:∀ k∈ks,∀ t∈k.kids,Ok D t) (i9 i10 i11:Int) (xs12 xs13:List PV) (p14:PV) (i15:Int) (p16 p17 p18 p19 p20 p21 p22 p23:PV) (hb:b<=65535):∀ (c i:Nat) (W:List Int),i+c=ks.length->s+ks.length*(a+b)<=W.length->(W.length:Int)+zo ((ks.drop i).map fun k=>zo (k.kids.map (zI D)))<=268435456->
  Y6 (zD ks) (.sl 1 ((List.range ks.length).map fun j=>I ((s+j*(a+b)+a:Nat):Int))) ks.length i (ws W) i9 i10 i11 xs12 xs13 p14 i15 p16 p17 p18 p19 p20 p21 p22 p23=some (.ret (.pv (.tup [])),wh (xv (body D) (Z5 a (a+b) (s+i*(a+b)) (ks.drop i)) W)):=by
 intro c
 induction c with
 |zero=>
  intro i W hi hs hl
  rw[jZ,decide_eq_false (by omega),List.drop_eq_nil_of_le (by omega)]
  rfl
 |succ c ih=>
  intro i W hi hs hl
  have hil:i<ks.length:=by omega
  have hmem:=List.getElem_mem hil
  have hmul:i*(a+b)+(a+b)<=ks.length*(a+b):=by
   have:=Nat.mul_le_mul_right (a+b) (show i+1<=ks.length by omega)
   rw[Nat.add_mul,Nat.one_mul] at this
   exact this
  have nn:∀ k∈ks,0<=zo (k.kids.map (zI D)):=fun k hk=>xZ fun y hy=>by
   obtain ⟨t,ht,rfl⟩:=List.mem_map.1 hy
   exact wm D (hO k hk t ht).vn
  rw[XU hil] at hl
  have hr:0<=zo ((ks.drop (i+1)).map fun k=>zo (k.kids.map (zI D))):=xZ fun y hy=>by
   obtain ⟨t,ht,rfl⟩:=List.mem_map.1 hy
   exact nn t (List.mem_of_mem_drop ht)
  have hkb:=hk _ hmem
  have h:=zeP (q:=ks[i].kids) (by omega) (hP _ hmem) (hO _ hmem) (zD ks) (.sl 1 ((List.range ks.length).map fun j=>I ((s+j*(a+b)+a:Nat):Int))) ks.length i i9 i10 i11 xs12 xs13 p14 i15 p16 p17 p18 p19 p20 p21 p22 p23 (f:=s+i*(a+b)+a) ks[i].kids.length 0 W (by omega) (by omega) (by rw[List.drop_zero];omega)
  rw[jZ,decide_eq_true (show (i:Int)<(ks.length:Int) by omega)]
  dsimp only[yG,zpj,zc]
  rw[decide_eq_true (show (1:Nat)=1 from rfl),decide_eq_true (show (0:Int)<=i by omega),decide_eq_true (show (i:Int)<(((List.range ks.length).map fun j=>I ((s+j*(a+b)+a:Nat):Int)).length:Int) by simp;omega),decide_eq_true (show (i:Int)<((zD ks).length:Int) by simp;omega),Int.toNat_natCast,List.getElem?_map,List.getElem?_range hil,vG hil]
  dsimp only[zr,Option.map_some,zpj,zc,yv,zph]
  rw[YE]
  dsimp only[Nd.c,zpi,zph,zpj,yG]
  rw[wE]
  refine (show _=_ from h).trans ?_
  rw[ze (x:=(i:Int)+1) (by omega),List.drop_zero,Nat.add_zero]
  have hsum:=zcS (zI D) ks[i].kids (s+i*(a+b)+a)
  have hlen:=zdk (xn (s+i*(a+b)+a) ks[i].kids) W (fun p hp=>hO _ hmem p.2 (zcR _ _ p hp))
  rw[hsum] at hlen
  have h0:=nn _ hmem
  have:=ih (i+1) (xv (body D) (xn (s+i*(a+b)+a) ks[i].kids) W) (by omega) (by omega) (by omega)
  rw[show s+(i+1)*(a+b)=s+i*(a+b)+(a+b) by rw[Nat.add_mul,Nat.one_mul];omega] at this
  refine (show _=_ from this).trans ?_
  rw[List.drop_eq_getElem_cons hil,Z5,ut]
theorem zjD (o d q:Int):xq [false,false,false,false,false,false,true,false,false,false] [I 0,I o,I d,I q,I 0,I 0,Bo false,I 0,yY 0,yY 0] [I 0,I o,I 0,I 0,I 0,I 0,Bo false,I 0,yY 0,yY 0]=some ((d==0)&&(q==0)):=by
 simp[xq]
theorem qk (o e c:Int):xq [false,false,false,false,false,false,true,false,false,false] [I 1,I o,I 0,I 0,I e,I c,Bo false,I 0,yY 0,yY 0] [I 0,I o,I 0,I 0,I 0,I 0,Bo false,I 0,yY 0,yY 0]=some false:=by
 simp[xq]
theorem zms {L:List Int} {a:Nat} (ha:a<L.length) (w:Int):∃ y,(ws L)[a]? = some (U y):=⟨L[a],ZO ha⟩
theorem znG {D:Nat} {x:Nd} (h:Ok (D+1) x) (h0:x.kind≠0):0<=zo ((yn x).map (zI D)):=xZ fun y hy=>by
 obtain ⟨t,ht,rfl⟩:=List.mem_map.1 hy
 exact wm D (VD h h0 t ht).vn
theorem zcJ:∀ (D:Nat) (x:Nd),Ok D x->Xz D x
 |0,x,h=>zcK h.dp
 |D+1,x,h=>by
  by_cases h0:x.kind=0
  ·exact zcK h0
  ·intro W a ha hl
   have hT:=VD h h0
   have hP:∀ t∈yn x,Xz D t:=fun t ht=>zcJ D t (hT t ht)
   have hsn:=znG h h0
   have hon:=Wk h.vn
   rw[zI] at hl
   rw[zlV h.vn h0 ha]
   have hsl:=znt (B:=body D) h.vn h0
   have hol:=zcs (body D) h.vn h0
   have hWl:(W++Zl x).length=W.length+(xG (body D) x).length:=by rw[zpk,hsl]
   obtain ⟨hs,hkk⟩:=wU h.vn
   have hal:a<(W++Zl x).length:=by omega
   obtain ⟨y0,hy0⟩:=zms hal 0
   rcases hs with hs|hs|hs
   ·exact absurd hs.1 h0
   ·obtain ⟨d,ks,rfl,g1,g2,g3,g4,g5,g6⟩:=Yc h.vn h.tr h.gd hs.1
    have et:yn (.mk 1 0 0 d ks)=ks:=rfl
    rw[et] at hT hP hl hsn
    have ew:Zl (.mk 1 0 0 d ks)=zQ (d.length/8) d++List.replicate ks.length 0:=rfl
    have ep:Wr (.mk 1 0 0 d ks) W.length=xn (W.length+d.length/8) ks:=rfl
    have eo:yK (.mk 1 0 0 d ks)=((d.length/8+ks.length:Nat):Int):=rfl
    rw[ew] at hal hWl hy0 ⊢
    rw[eo] at hol hl
    rw[ep]
    have hst:=zf3 (W:=W) g3 g4 g5 g6 (by omega) 0 0 (ks:=ks)
    have hloop:∀ (w:Int) (p14:PV) (i15:Int) (p16 p17 p18 p19 p20 p21 p22 p23:PV),Zs [.agg [I 1,I 0,I 0,.sl 1 (bs d),.sl 5 (zD ks)]] (.sl 1 [I ((W.length+d.length/8:Nat):Int)]) 1 0 (ws ((W++(zQ (d.length/8) d++List.replicate ks.length 0)).set a w)) 1 0 0 (bs d) (zD ks) p14 i15 p16 p17 p18 p19 p20 p21 p22 p23=some (.ret (.pv (.tup [])),wh (xv (body D) (xn (W.length+d.length/8) ks) ((W++(zQ (d.length/8) d++List.replicate ks.length 0)).set a w))):=fun w p14 i15 p16 p17 p18 p19 p20 p21 p22 p23=>
     gY (x:=.mk 1 0 0 d ks) (by show ks.length<=_;omega) hP hT 1 0 0 (bs d) (zD ks) p14 i15 p16 p17 p18 p19 p20 p21 p22 p23 (by rw[List.length_set,hWl];show _+ks.length<=_;omega) (by rw[List.length_set,hWl];show _+zo (ks.map (zI D))<=_;push_cast;omega)
    unfold wh at hst hloop ⊢
    show ev 228 [.ptr 0 0,.pv (I (a:Int)),.pv (.agg [I 1,I 0,I 0,.sl 1 (bs d),.sl 5 (zD ks)])] _=_
    rw[WZ,show ((1:Int)==0)=false from rfl,show ((1:Int)==1)=true from rfl,hst]
    dsimp only[gZ,zf,zph,yO,zg,zpj,zO,zpi,yG,yT,yw,zr,zc,ve,zt]
    rw[yN,yt,ze (x:=(W.length:Int)-a) (by omega),ze (x:=(W.length:Int)-a-1) (by omega),zjD]
    dsimp only[zpj]
    by_cases hz:d.length/8=0/\ks.length=0
    ·have hE:=Jj (off:=-1) (d:=d.length/8) (q:=ks.length) (by decide) (by omega) g6
     have e1:yA (.mk 1 0 0 d ks) ((W.length:Int)-a-1)=yl (-1) (d.length/8) ks.length:=by
      show (if (1:Int)=0 then 0 else if (1:Int)=1 then (if d.length/8=0/\ks.length=0 then yl (-1) 0 0 else _) else _)=_
      rw[if_neg (by decide),if_pos rfl,if_pos hz,hz.1,hz.2]
     rw[e1,show (((d.length/8:Nat):Int)==0)=true from by simp[hz.1],show ((ks.length:Int)==0)=true from by simp[hz.2]]
     dsimp only[zr,zc]
     rw[hE]
     dsimp only[zf,zg,zpj,zO,zpi,zph,yw,zr,zc]
     rw[decide_eq_true (show 0<=(a:Int) by omega),decide_eq_true (show (a:Int)<((ws (W++(zQ (d.length/8) d++List.replicate ks.length 0))).length:Int) by rw[yt];omega),Int.toNat_natCast,hy0]
     dsimp only[zpl,List.length_nil,zr,setCells,zpj,yv,zc]
     rw[V0]
     exact hloop _ _ _ _ _ _ _ _ _ _ _
    ·have hE:=Jj (off:=(W.length:Int)-a-1) (d:=d.length/8) (q:=ks.length) (by omega) (by omega) g6
     have e1:yA (.mk 1 0 0 d ks) ((W.length:Int)-a-1)=yl ((W.length:Int)-a-1) (d.length/8) ks.length:=by
      show (if (1:Int)=0 then 0 else if (1:Int)=1 then (if d.length/8=0/\ks.length=0 then _ else yl ((W.length:Int)-a-1) (d.length/8) ks.length) else _)=_
      rw[if_neg (by decide),if_pos rfl,if_neg hz]
     have e2:((((d.length/8:Nat):Int)==0)&&((ks.length:Int)==0))=false:=by
      rw[Bool.and_eq_false_iff]
      by_cases h1:d.length/8=0
      ·right;exact beq_eq_false_iff_ne.2 (fun h2=>hz ⟨h1,by omega⟩)
      ·left;exact beq_eq_false_iff_ne.2 (fun h2=>h1 (by omega))
     rw[e1,e2]
     dsimp only[zt]
     rw[hE]
     dsimp only[zf,zg,zpj,zO,zpi,zph,yw,zr,zc]
     rw[decide_eq_true (show 0<=(a:Int) by omega),decide_eq_true (show (a:Int)<((ws (W++(zQ (d.length/8) d++List.replicate ks.length 0))).length:Int) by rw[yt];omega),Int.toNat_natCast,hy0]
     dsimp only[zpl,List.length_nil,zr,setCells,zpj,yv,zc]
     rw[V0]
     exact hloop _ _ _ _ _ _ _ _ _ _ _
   ·cases x with
    |mk k e n d ks=>
     obtain ⟨k2,hn,he,h6,hl6⟩:=hs
     have k2':k=2:=k2
     subst k2'
     have hn':0<=n/\n<=536870911:=hn
     have he':0<=e/\e<=7:=he
     have hg:=h.gd
     rw[yB] at hg
     by_cases e7:e=7
     ·subst e7
      obtain ⟨a1,a2⟩:=h6 (show (6:Int)<=7 by decide)
      obtain rfl:d=[]:=List.length_eq_zero_iff.1 a1
      have a2':(ks.length:Int)=n:=a2
      have hst:∀ k∈ks,k.kind=1:=by
       cases h.vn with
       |mk v1 v2 v3=>exact v2 rfl rfl
      have htr:∀ k∈ks,TrN k:=by
       cases h.tr with
       |mk t1 t2=>exact t2
      have hparts:∀ k∈ks,(∀ x∈k.data,zq x)/\k.data.length%8=0/\k.data.length<=524280/\k.kids.length<=65535:=fun k hk=>by
       obtain ⟨d,q,rfl,g1,g2,g3,g4,g5,g6⟩:=Yc (hkk k hk) (htr k hk) (goods_iff.1 hg.2 k hk) (hst k hk)
       exact ⟨g3,g4,g5,g6⟩
      have et:yn (.mk 2 7 n [] ks)=ks.flatMap Nd.kids:=rfl
      rw[et] at hT hP hl hsn
      rw[WC] at hl hsn
      have ew:Zl (.mk 2 7 n [] ks)=yl n (zl ks) (zn ks)::els (zl ks) (zn ks) ks:=rfl
      have ep:Wr (.mk 2 7 n [] ks) W.length=Z5 (zl ks) (zl ks+zn ks) (W.length+1) ks:=rfl
      have eo:yK (.mk 2 7 n [] ks)=1+n*((zl ks+zn ks:Nat):Int):=rfl
      have hnu:n*((zl ks+zn ks:Nat):Int)=((ks.length*(zl ks+zn ks):Nat):Int):=by rw[←a2'];push_cast;rfl
      rw[eo,hnu] at hol hl
      rw[ew] at hal hWl hy0 ⊢
      rw[ep]
      have hud:zl ks<=65535:=YU fun x hx=>by have:=(hparts x hx).2.2.1;omega
      have huq:zn ks<=65535:=YV fun x hx=>(hparts x hx).2.2.2
      have hkl2:ks.length<=536870911:=by omega
      have hst':=zf0 (W:=W) (n:=n) (ks:=ks) hn' a2' hparts (by omega)
      have hE:=ra (off:=(W.length:Int)-a-1) (e:=7) (c:=((ks.length*(zl ks+zn ks):Nat):Int)) (by omega) (by decide) (by omega)
      have e1:yA (.mk 2 7 n [] ks) ((W.length:Int)-a-1)=yx ((W.length:Int)-a-1) 7 ((ks.length*(zl ks+zn ks):Nat):Int):=by rw[←hnu];rfl
      have hloop:∀ (w:Int) (p14:PV) (i15:Int) (p16 p17 p18 p19 p20 p21 p22 p23:PV),Y6 (zD ks) (.sl 1 ((List.range ks.length).map fun j=>I ((W.length+1+j*(zl ks+zn ks)+zl ks:Nat):Int))) ks.length 0 (ws ((W++(yl n (zl ks) (zn ks)::els (zl ks) (zn ks) ks)).set a w)) 2 7 n [] (zD ks) p14 i15 p16 p17 p18 p19 p20 p21 p22 p23=some (.ret (.pv (.tup [])),wh (xv (body D) (Z5 (zl ks) (zl ks+zn ks) (W.length+1) ks) ((W++(yl n (zl ks) (zn ks)::els (zl ks) (zn ks) ks)).set a w))):=fun w p14 i15 p16 p17 p18 p19 p20 p21 p22 p23=>by
       have:=zeN (D:=D) (ks:=ks) (a:=zl ks) (b:=zn ks) (s:=W.length+1) hkl2 (fun k hk=>YW hk) (fun k hk t ht=>hP t (List.mem_flatMap.2 ⟨k,hk,ht⟩)) (fun k hk t ht=>hT t (List.mem_flatMap.2 ⟨k,hk,ht⟩)) 2 7 n [] (zD ks) p14 i15 p16 p17 p18 p19 p20 p21 p22 p23 huq ks.length 0 ((W++(yl n (zl ks) (zn ks)::els (zl ks) (zn ks) ks)).set a w) (by omega) (by rw[List.length_set,hWl];omega) (by rw[List.length_set,hWl,List.drop_zero];push_cast;omega)
       rw[List.drop_zero,Nat.zero_mul,Nat.add_zero] at this
       exact this
      unfold wh at hst' hloop ⊢
      show ev 228 [.ptr 0 0,.pv (I (a:Int)),.pv (.agg [I 2,I 7,I n,.sl 1 [],.sl 5 (zD ks)])] _=_
      rw[WZ,show ((2:Int)==0)=false from rfl,show ((2:Int)==1)=false from rfl,show ((7:Int)==7)=true from rfl,hst']
      dsimp only[Y0,zf,zph,yO,zg,zpj,zO,zpi,yG,yT,yw,zr,zc,ve,zt]
      rw[yN,yt,ze (x:=(W.length:Int)-a) (by omega),ze (x:=(W.length:Int)-a-1) (by omega),qk]
      dsimp only[zpj,zt]
      rw[e1,hnu,hE]
      dsimp only[zf,zg,zpj,zO,zpi,zph,yw,zr,zc]
      rw[decide_eq_true (show 0<=(a:Int) by omega),decide_eq_true (show (a:Int)<((ws (W++(yl n (zl ks) (zn ks)::els (zl ks) (zn ks) ks))).length:Int) by rw[yt];omega),Int.toNat_natCast,hy0]
      dsimp only[zpl,List.length_nil,zr,setCells,zpj,yv,zc]
      rw[V0,List.length_map,List.length_range]
      exact hloop _ _ _ _ _ _ _ _ _ _ _
     ·have et:yn (.mk 2 e n d ks)=ks:=by
       show (if (2:Int)=2/\e=7 then _ else ks)=_
       rw[if_neg (fun h=>e7 h.2)]
      have eo:yK (.mk 2 e n d ks)=zs e n:=by
       unfold yK
       show (if (2:Int)=0 then 0 else if (2:Int)=1 then _ else if e=7 then _ else zs e n)=_
       rw[if_neg (by decide),if_neg (by decide),if_neg e7]
      rw[et] at hT hP hl hsn
      have ep:Wr (.mk 2 e n d ks) W.length=xn W.length ks:=by
       show (if (2:Int)=1 then _ else if e=7 then _ else xn W.length ks)=_
       rw[if_neg (by decide),if_neg e7]
      have e1:yA (.mk 2 e n d ks) ((W.length:Int)-a-1)=yx ((W.length:Int)-a-1) e n:=by
       show (if (2:Int)=0 then 0 else if (2:Int)=1 then _ else if e=7 then _ else yx ((W.length:Int)-a-1) e n)=_
       rw[if_neg (by decide),if_neg (by decide),if_neg e7]
      have hE:=ra (off:=(W.length:Int)-a-1) (e:=e) (c:=n) (by omega) he' hn'
      rw[ep,e1]
      rw[eo] at hol hl
      by_cases e6:e=6
      ·subst e6
       obtain ⟨a1,a2⟩:=h6 (show (6:Int)<=6 by decide)
       obtain rfl:d=[]:=List.length_eq_zero_iff.1 a1
       have a2':(ks.length:Int)=n:=a2
       have hw6:zs 6 n=n:=by unfold zs bitsOf;simp;omega
       rw[hw6] at hol hl
       have ew:Zl (.mk 2 6 n [] ks)=List.replicate ks.length 0:=rfl
       rw[ew] at hal hWl hy0 ⊢
       have hst':=zf2 (W:=W) (ks:=ks) (n:=ks.length) (by omega) (by omega) (bs [])
       rw[a2'] at hst'
       have hloop:∀ (w:Int) (p14:PV) (i15:Int) (p16 p17 p18 p19 p20 p21 p22 p23:PV),Zs [.agg [I 2,I 6,I n,.sl 1 (bs []),.sl 5 (zD ks)]] (.sl 1 [I (W.length:Int)]) 1 0 (ws ((W++List.replicate ks.length 0).set a w)) 2 6 n (bs []) (zD ks) p14 i15 p16 p17 p18 p19 p20 p21 p22 p23=some (.ret (.pv (.tup [])),wh (xv (body D) (xn W.length ks) ((W++List.replicate ks.length 0).set a w))):=fun w p14 i15 p16 p17 p18 p19 p20 p21 p22 p23=>
        gY (x:=.mk 2 6 n [] ks) (by show ks.length<=_;omega) hP hT 2 6 n (bs []) (zD ks) p14 i15 p16 p17 p18 p19 p20 p21 p22 p23 (by rw[List.length_set,hWl];show _+ks.length<=_;omega) (by rw[List.length_set,hWl];show _+zo (ks.map (zI D))<=_;push_cast;omega)
       unfold wh at hst' hloop ⊢
       show ev 228 [.ptr 0 0,.pv (I (a:Int)),.pv (.agg [I 2,I 6,I n,.sl 1 (bs []),.sl 5 (zD ks)])] _=_
       rw[WZ,show ((2:Int)==0)=false from rfl,show ((2:Int)==1)=false from rfl,show ((6:Int)==7)=false from rfl,hst']
       dsimp only[Y0,zf,zph,yO,zg,zpj,zO,zpi,yG,yT,yw,zr,zc,ve,zt]
       rw[yN,yt,ze (x:=(W.length:Int)-a) (by omega),ze (x:=(W.length:Int)-a-1) (by omega),qk]
       dsimp only[zpj,zt]
       rw[hE]
       dsimp only[zf,zg,zpj,zO,zpi,zph,yw,zr,zc]
       rw[decide_eq_true (show 0<=(a:Int) by omega),decide_eq_true (show (a:Int)<((ws (W++List.replicate ks.length 0)).length:Int) by rw[yt];omega),Int.toNat_natCast,hy0]
       dsimp only[zpl,List.length_nil,zr,setCells,zpj,yv,zc]
       rw[V0]
       exact hloop _ _ _ _ _ _ _ _ _ _ _
      ·obtain ⟨b1,b2,b3⟩:=hl6 (show e<6 by omega)
       obtain rfl:ks=[]:=List.length_eq_zero_iff.1 b1
       have b2':(d.length:Int)=zS e n:=b2
       have hwr:=Zo (e:=e) hn'
       have ew:Zl (.mk 2 e n d [])=zQ (zs e n).toNat d:=by
        show (if (2:Int)=1 then _ else if e=7 then _ else if e=6 then _ else zQ (zs e n).toNat d)=_
        rw[if_neg (by decide),if_neg e7,if_neg e6]
       rw[ew] at hal hWl hy0 ⊢
       have hO:=rj h.gd h.vn (by rw[eo];omega) (by show 0+0<=_;decide)
       rw[eo] at hO
       have hst':=zf1 (W:=W) (ks:=[]) ⟨he'.1,by omega⟩ hn' hg.1.2.1 b2' (by simp only[List.map_nil,xX] at hl;omega) (by omega) hO
       unfold wh at hst' ⊢
       show ev 228 [.ptr 0 0,.pv (I (a:Int)),.pv (.agg [I 2,I e,I n,.sl 1 (bs d),.sl 5 (zD [])])] _=_
       rw[WZ,show ((2:Int)==0)=false from rfl,show ((2:Int)==1)=false from rfl,beq_eq_false_iff_ne.2 e7,hst']
       dsimp only[Y0,zf,zph,yO,zg,zpj,zO,zpi,yG,yT,yw,zr,zc,ve,zt]
       rw[yN,yt,ze (x:=(W.length:Int)-a) (by omega),ze (x:=(W.length:Int)-a-1) (by omega),qk]
       dsimp only[zpj,zt]
       rw[hE]
       dsimp only[zf,zg,zpj,zO,zpi,zph,yw,zr,zc]
       rw[decide_eq_true (show 0<=(a:Int) by omega),decide_eq_true (show (a:Int)<((ws (W++zQ (zs e n).toNat d)).length:Int) by rw[yt];omega),Int.toNat_natCast,hy0]
       dsimp only[zpl,List.length_nil,zr,setCells,zpj,yv,zc]
       rw[V0,JT,decide_eq_false (by decide)]
       rfl
theorem zog (D:Nat) (x:Nd):vF (body D) 0 x [0]=yH D x:=by
 unfold vF yH
 by_cases h0:x.kind=0
 ·rw[if_pos h0,zcT h0,jB D x h0]
 ·rw[if_neg h0]
  rfl
theorem rq {D:Nat} {x:Nd} (h:Ok D x) (hb:zI D x<=134217728):ev 165 [.pv x.x] []=some (.ret (.slu 30 1 (ws (yH D x))),[]):=by
 have h1:=ze7 h.gd h.vn h.dp (by omega)
 have hn:=wm D h.vn
 have h2:=zcJ D x h [0] 0 (by decide) (by simp;omega)
 rw[zog] at h2
 unfold wh at h2
 dsimp only[Nd.x] at h1 h2
 rw[Nd.x,zhL,h1]
 dsimp only[zf,zg,zpj,xt]
 rw[decide_eq_true (show 1<=zI D x+1 by omega),decide_eq_true (show zI D x+1<=140737488355328 by omega),yQ (by omega) (by omega)]
 dsimp only[zr,zc]
 rw[show ev 228 [.ptr 0 0,.pv (I 0),.pv (.agg [I x.kind,I x.elem,I x.n,.sl 1 (bs x.data),.sl 5 (zD x.kids)])] [[.slu 30 1 [U 0]]]=_ from h2]
 dsimp only[zf,zph,yO,zg,zpj,zc,ve]
 rw[yN]
 rfl
@[simp] theorem zme:∀ (q:List Nd) (i:Nat),(xn i q).length=q.length
 |[],i=>rfl
 |t::r,i=>by rw[xn,zpl,zpl,zme r]
section
variable (i3 i4 i5:Int) (xs6 xs7:List PV) (i8 i9 i10 i11 i12 i13:Int) (b14:Bool) (i15 i16 i17 i18 i19 i20 i22 i23:Int) (b24:Bool) (i25 i26 i27:Int)
end
section
variable (i5 i6 i7:Int) (xs8:List PV) (i10 i11 i12 i13 i14 i15:Int) (b16:Bool) (i17 i18 i19 i20 i21 i22 i23 i24 i25:Int) (b26:Bool) (i27 i28 i29:Int)
end
theorem zcm {l:List (List Int)} (hl:zF l) (hs:Sm l) {d w:Int} (hw:w<=4611686018427387904) (h0:(runT l d w).2.2=0):Ok d.toNat (yJ l d w)/\zW d.toNat (yJ l d w)<=xM l d w:=by
 obtain ⟨a1,a2⟩:=zm8 hl hs h0
 have hg:=(Xm hl hs (d:=d) (w:=w) hw).2
 unfold yJ xM
 rw[if_pos h0,if_pos h0]
 refine ⟨⟨WH _ a1,znX _ hg,zka _ hg,zjm _ _ a2⟩,?_⟩
 unfold runT at h0 ⊢
 split
 ·rw[YS]
  cases d.toNat with
  |zero=>show (0:Int)<=max w 0-max w 0;omega
  |succ D=>
   rw[zW]
   show (if (0:Int)=0 then (0:Int) else _)<=max w 0-max w 0
   rw[if_pos rfl]
   omega
 ·rename_i he
  rw[if_neg he] at h0
  exact (zi7 hl hs _ _ _ _ h0).1
def nE:Nd:=.mk 1 0 0 [] []
theorem qf {off:Int} {d q:Nat} (hd:d<=65535) (hq:q<=65535):zG (yl off d q):=by
 have hm:=Int.emod_nonneg off (show (1073741824:Int)≠0 by decide)
 have hl:=Int.emod_lt_of_pos off (show (0:Int)<1073741824 by decide)
 exact ⟨by unfold yl;omega,by unfold yl;omega⟩
theorem za1 {off e c:Int} (he:0<=e/\e<=7) (hc:0<=c/\c<=536870911):zG (yx off e c):=by
 have hm:=Int.emod_nonneg off (show (1073741824:Int)≠0 by decide)
 have hl:=Int.emod_lt_of_pos off (show (0:Int)<1073741824 by decide)
 exact ⟨by unfold yx;omega,by unfold yx;omega⟩
theorem zer:zG 0:=⟨by decide,by decide⟩
theorem zk9 {D:Nat} {x:Nd} (hv:VN x):yK x<=zI D x:=by
 cases D with
 |zero=>exact Int.le_refl _
 |succ D=>
  rw[zI]
  have:0<=zo ((yn x).map (zI D)):=xZ fun y hy=>by
   obtain ⟨t,ht,rfl⟩:=List.mem_map.1 hy
   exact wm D (ZN hv t ht)
  omega
theorem zcX {D:Nat} {t:Nd} (h:Ok D t) (hb:zI D t<=268435456) (off:Int):zG (yA t off):=by
 obtain ⟨hs,hk⟩:=wU h.vn
 have hob:=zk9 (D:=D) h.vn
 unfold yA
 by_cases h0:t.kind=0
 ·rw[if_pos h0];exact zer
 ·rw[if_neg h0]
  by_cases h1:t.kind=1
  ·obtain ⟨d,q,rfl,g1,g2,g3,g4,g5,g6⟩:=Yc h.vn h.tr h.gd h1
   rw[if_pos h1]
   split
   ·exact qf (by omega) (by omega)
   ·exact qf (by show d.length/8<=_;omega) g6
  ·rw[if_neg h1]
   have hs2:t.kind=2/\_:=(hs.resolve_left (fun h=>h0 h.1)).resolve_left (fun h=>h1 h.1)
   by_cases h7:t.elem=7
   ·rw[if_pos h7]
    unfold yK at hob
    rw[if_neg h0,if_neg h1,if_pos h7] at hob
    have:=Int.mul_nonneg hs2.2.1.1 (Int.natCast_nonneg (ZJ t))
    unfold ZJ at this ⊢
    exact za1 (by decide) (by omega)
   ·rw[if_neg h7]
    exact za1 hs2.2.2.1 hs2.2.1
theorem Kz {B:Nd->List Int}:∀ (l:List Nd) (i p:Nat),(∀ t∈l,∀ off,zG (yA t off))->∀ w∈yu B i p l,zG w
 |[],i,p,h,w,hw=>by cases hw
 |t::r,i,p,h,w,hw=>by
  rw[yu] at hw
  rcases List.mem_cons.1 hw with rfl|hw
  ·exact h t List.mem_cons_self _
  ·exact Kz r _ _ (fun t ht=>h t (List.mem_cons_of_mem _ ht)) w hw
theorem jl {B:Nd->List Int} {a b:Nat}:∀ (l:List Nd) (i p:Nat),(∀ k∈l,(∀ x∈k.data,zq x)/\∀ t∈k.kids,∀ off,zG (yA t off))->∀ w∈xk B a b i p l,zG w
 |[],i,p,h,w,hw=>by cases hw
 |k::r,i,p,h,w,hw=>by
  rw[xk] at hw
  obtain ⟨h1,h2⟩:=h k List.mem_cons_self
  rcases List.mem_append.1 hw with hw|hw
  ·rcases List.mem_append.1 hw with hw|hw
   ·exact Yh _ h1 w hw
   ·rcases List.mem_append.1 hw with hw|hw
    ·exact Kz _ _ _ h2 w hw
    ·rw[(List.mem_replicate.1 hw).2];exact zer
  ·exact jl r _ _ (fun t ht=>h t (List.mem_cons_of_mem _ ht)) w hw
theorem zdM {f:Nd->Int}:∀ {l:List Nd},(∀ t∈l,0<=f t)->∀ t∈l,f t<=zo (l.map f)
 |[],h,t,ht=>by cases ht
 |x::l,h,t,ht=>by
  rw[List.map_cons,xI]
  have h0:=h x List.mem_cons_self
  have hr:0<=zo (l.map f):=xZ fun y hy=>by
   obtain ⟨z,hz,rfl⟩:=List.mem_map.1 hy
   exact h z (List.mem_cons_of_mem _ hz)
  rcases List.mem_cons.1 ht with rfl|ht
  ·omega
  ·have:=zdM (fun z hz=>h z (List.mem_cons_of_mem _ hz)) t ht;omega
theorem jC:∀ (D:Nat) (x:Nd),Ok D x->zI D x<=268435456->∀ w∈body D x,zG w
 |0,x,h,hb,w,hw=>by cases hw
 |D+1,x,h,hb,w,hw=>by
  rw[body] at hw
  by_cases h0:x.kind=0
  ·rw[if_pos h0] at hw;cases hw
  ·rw[if_neg h0] at hw
   rw[zI] at hb
   have hT:=VD h h0
   have hon:=Wk h.vn
   have hTb:∀ t∈yn x,zI D t<=268435456:=fun t ht=>by
    have:=zdM (f:=zI D) (fun t ht=>wm D (hT t ht).vn) t ht
    omega
   have hP:∀ t∈yn x,∀ off,zG (yA t off):=fun t ht=>zcX (hT t ht) (hTb t ht)
   obtain ⟨hs,hkk⟩:=wU h.vn
   rcases List.mem_append.1 hw with hw|hw
   ·unfold xG at hw
    by_cases h1:x.kind=1
    ·obtain ⟨d,q,rfl,g1,g2,g3,g4,g5,g6⟩:=Yc h.vn h.tr h.gd h1
     rw[if_pos h1] at hw
     rcases List.mem_append.1 hw with hw|hw
     ·exact Yh _ g3 w hw
     ·exact Kz _ _ _ hP w hw
    ·have hs2:=(hs.resolve_left (fun h=>h0 h.1)).resolve_left (fun h=>h1 h.1)
     rw[if_neg h1] at hw
     cases x with
     |mk k e n d ks=>
      have hg:=h.gd
      rw[yB] at hg
      obtain ⟨k2,hn,he,h6,hl6⟩:=hs2
      have k2':k=2:=k2
      subst k2'
      have hn':0<=n/\n<=536870911:=hn
      by_cases e7:e=7
      ·subst e7
       have hw:w∈yl n (zl ks) (zn ks)::xk (body D) (zl ks) (zn ks) 1 (1+ks.length*ZJ (.mk 2 7 n d ks)) ks:=hw
       have hst:∀ k∈ks,k.kind=1:=by
        cases h.vn with
        |mk v1 v2 v3=>exact v2 rfl rfl
       have htr:∀ k∈ks,TrN k:=by
        cases h.tr with
        |mk t1 t2=>exact t2
       have hparts:∀ k∈ks,(∀ x∈k.data,zq x)/\k.data.length%8=0/\k.data.length<=524280/\k.kids.length<=65535:=fun k hk=>by
        obtain ⟨d,q,rfl,g1,g2,g3,g4,g5,g6⟩:=Yc (hkk k hk) (htr k hk) (goods_iff.1 hg.2 k hk) (hst k hk)
        exact ⟨g3,g4,g5,g6⟩
       rcases List.mem_cons.1 hw with rfl|hw
       ·exact qf (YU fun x hx=>by have:=(hparts x hx).2.2.1;omega) (YV fun x hx=>(hparts x hx).2.2.2)
       ·exact jl ks _ _ (fun k hk=>⟨(hparts k hk).1,fun t ht=>hP t (List.mem_flatMap.2 ⟨k,hk,ht⟩)⟩) w hw
      ·have et:yn (.mk 2 e n d ks)=ks:=by
        show (if (2:Int)=2/\e=7 then _ else ks)=_
        rw[if_neg (fun h=>e7 h.2)]
       rw[et] at hP
       rw[if_neg (show ¬(Nd.mk 2 e n d ks).elem=7 from e7)] at hw
       split at hw
       ·exact Kz _ _ _ hP w hw
       ·exact Yh _ hg.1.2.1 w hw
   ·obtain ⟨t,ht,hw⟩:=List.mem_flatMap.1 hw
    exact jC D t (hT t ht) (hTb t ht) w hw
theorem jP {D:Nat} {x:Nd} (h:Ok D x) (hb:zI D x<=268435456):∀ w∈yH D x,zG w:=fun w hw=>by
 rcases List.mem_cons.1 hw with rfl|hw
 ·exact zcX h hb 0
 ·exact jC D x h hb w hw
theorem Y4 {D:Nat} {x:Nd} (h:Ok D x):((yH D x).length:Int)=zI D x+1:=by
 rw[yH,zpl,←jA h];push_cast;rfl
theorem zhq {D:Nat} {x:Nd} (h:Ok D x) (hb:zI D x<=268435456):zF [yH D x]:=by
 have:=Y4 h
 refine ⟨by rw[List.length_singleton];decide,fun s hs=>?_⟩
 rw[List.mem_singleton.1 hs]
 exact ⟨by omega,jP h hb⟩
theorem zhr {D:Nat} {x:Nd} (h:Ok D x) (hb:zI D x<=268435456):Sm [yH D x]:=by
 have:=Y4 h
 intro s
 unfold yq
 rcases Nat.eq_zero_or_pos s.toNat with h0|h0
 ·rw[h0];show ((yH D x).length:Int)<=_;omega
 ·rw[List.getD_eq_getElem?_getD,List.getElem?_eq_none (by rw[List.length_singleton];omega)]
  simp
theorem zhw {D:Nat} {x:Nd} (h:Ok D x) (hb:zI D x<=134217728) {d w:Int} (hd:d.toNat=D) (hc:zW D x<=max w 0):∃ y,runT [yH D x] d w=(y,max w 0-zW D x,0)/\zk y=x:=by
 have hl:=Y4 h
 have R:=zaO (W:=yH D x) (by omega) D
 obtain ⟨y,e,ht⟩:=R.one x 0 1 (max w 0) h ⟨[yA x 0],[],by simp[yH],rfl⟩ ⟨[],body D x,by simp[yH],rfl⟩ hc
 refine ⟨y,?_,ht⟩
 unfold runT
 have hne:¬XW [yH D x]:=fun he=>by
  have h2:(yq [yH D x] 0).length=0:=he.2
  have h3:(yq [yH D x] 0).length=(yH D x).length:=rfl
  have h4:=wm D h.vn
  omega
 rw[if_neg hne,hd]
 exact e
theorem JQ {D:Nat} {x:Nd} (h:Ok D x) (hb:zI D x<=134217728) {d w:Int} (hd:d.toNat=D) (hc:zW D x<=max w 0):yF [yH D x] d w=0/\yJ [yH D x] d w=x/\xM [yH D x] d w=zW D x:=by
 obtain ⟨y,e,ht⟩:=zhw h hb hd hc
 refine ⟨by unfold yF;rw[e],?_,?_⟩
 ·unfold yJ;rw[e,if_pos rfl];exact ht
 ·unfold xM;rw[e,if_pos rfl];show max w 0-(max w 0-zW D x)=_;exact Int.sub_sub_self _ _
theorem zht {D:Nat} {x y:Nd} (hx:Ok D x) (hy:Ok D y) (bx:zI D x<=134217728) (by':zI D y<=134217728):yH D x=yH D y↔x=y:=by
 constructor
 ·intro e
  obtain ⟨_,a,_⟩:=JQ hx bx (d:=(D:Int)) (w:=max (zW D x) (zW D y)) (by omega) (by omega)
  obtain ⟨_,b,_⟩:=JQ hy by' (d:=(D:Int)) (w:=max (zW D x) (zW D y)) (by omega) (by omega)
  rw[e] at a
  exact a.symm.trans b
 ·rintro rfl;rfl
noncomputable def yW (l:List (List Int)) (d w:Int):List Int:=if yF l d w=0 then yH d.toNat (yJ l d w) else []
theorem ZZ {l:List (List Int)} (hl:zF l) (hs:Sm l) {d w:Int} (hw:w<=134217728) (h0:yF l d w=0):Ok d.toNat (yJ l d w)/\zI d.toNat (yJ l d w)<=134217728/\zW d.toNat (yJ l d w)<=max w 0:=by
 obtain ⟨ho,hc⟩:=zcm hl hs (by omega) (show (runT l d w).2.2=0 from h0)
 have hr1:=(Xm hl hs (d:=d) (w:=w) (by omega)).1
 unfold Mt at hr1
 have hle:=qJ d.toNat ho.vn ho.dp
 have hmc:xM l d w<=max w 0:=by
  unfold xM
  split<;>omega
 exact ⟨ho,by omega,by omega⟩
theorem wsl (z:Nat) (x:List PV):(decide ((PV.sl z x).cells.length=1)&&(PV.sl z x).cells.all PV.isCell)=true:=rfl
def zM (b:List Int) (i:Nat):Int:=b.getD (4*i) 0+256*b.getD (4*i+1) 0+65536*b.getD (4*i+2) 0+16777216*b.getD (4*i+3) 0
theorem Wf {b:List Int} (hb:∀ x∈b,zq x) (i:Nat):0<=zM b i/\zM b i<=4294967295:=by
 have h0:=yU hb (4*i)
 have h1:=yU hb (4*i+1)
 have h2:=yU hb (4*i+2)
 have h3:=yU hb (4*i+3)
 unfold zM
 omega
theorem Yq {b:List Int} {x:Int} {i:Nat} (hx:x=i) (h:i<b.length):(bs b)[x.toNat]? = some (U8 (b.getD i 0)):=by
 subst hx
 rw[Int.toNat_natCast,JH h]
theorem Ju {b:List Int} (hb:∀ x∈b,zq x) (hl:b.length<=1099511627776) {i:Nat} (hi:4*i+4<=b.length):ev 85 [.pv (.sl 1 (bs b)),.pv (I (i:Int))] []=ok (I (zM b i)):=by
 have h0:=yU hb (4*i)
 have h1:=yU hb (4*i+1)
 have h2:=yU hb (4*i+2)
 have h3:=yU hb (4*i+3)
 rw[zh2,z5,ze (x:=4*(i:Int)) (by omega),ze (x:=4*(i:Int)+1) (by omega),ze (x:=4*(i:Int)+2) (by omega),ze (x:=4*(i:Int)+3) (by omega)]
 rw[decide_eq_true (show 0<=4*(i:Int) by omega),decide_eq_true (show 4*(i:Int)<(b.length:Int) by omega),decide_eq_true (show 0<=4*(i:Int)+1 by omega),decide_eq_true (show 4*(i:Int)+1<(b.length:Int) by omega),
  decide_eq_true (show 0<=4*(i:Int)+2 by omega),decide_eq_true (show 4*(i:Int)+2<(b.length:Int) by omega),decide_eq_true (show 0<=4*(i:Int)+3 by omega),decide_eq_true (show 4*(i:Int)+3<(b.length:Int) by omega)]
 rw[Yq (show 4*(i:Int)=((4*i:Nat):Int) by push_cast;rfl) (by omega),Yq (show 4*(i:Int)+1=((4*i+1:Nat):Int) by push_cast;rfl) (by omega),Yq (show 4*(i:Int)+2=((4*i+2:Nat):Int) by push_cast;rfl) (by omega),Yq (show 4*(i:Int)+3=((4*i+3:Nat):Int) by push_cast;rfl) (by omega)]
 dsimp only[zr,zpj,yv,zph,xt,zc]
 unfold zM
 generalize b.getD (4*i) 0=c0 at h0 ⊢
 generalize b.getD (4*i+1) 0=c1 at h1 ⊢
 generalize b.getD (4*i+2) 0=c2 at h2 ⊢
 generalize b.getD (4*i+3) 0=c3 at h3 ⊢
 rw[ze (x:=c0) (by omega),ze (x:=c1) (by omega),ze (x:=c2) (by omega),ze (x:=c3) (by omega),ze (x:=256*c1) (by omega),ze (x:=65536*c2) (by omega),ze (x:=16777216*c3) (by omega),ze (x:=c0+256*c1) (by omega),ze (x:=c0+256*c1+65536*c2) (by omega),ze (x:=c0+256*c1+65536*c2+16777216*c3) (by omega)]
theorem or8 {v x:Nat} (hv:v<16777216) (hx:x<256):IntKind.wrap .i64 (BitVec.ofInt 64 (IntKind.wrap .i64 ((v:Int)*2^(min 8 64))) ||| BitVec.ofInt 64 (IntKind.wrap .i64 (x:Int))).toNat=((v*256+x:Nat):Int):=by
 have e1:IntKind.wrap .i64 ((v:Int)*2^(min 8 64))=((v*256:Nat):Int):=by
  have hp:(2:Int)^(min 8 64)=256:=by decide
  rw[hp,show (v:Int)*256=((v*256:Nat):Int) by omega,ze (by omega)]
 rw[e1,ze (x:=(x:Int)) (by omega)]
 have e3:(BitVec.ofInt 64 ((v*256:Nat):Int) ||| BitVec.ofInt 64 (x:Int)).toNat=v*256+x:=by
  rw[BitVec.toNat_or,vP (by omega),vP (by omega),show v*256=2^8*v by omega,←Nat.two_pow_add_eq_or_of_lt (show x<2^8 by omega)]
 rw[e3,zeo (by omega)]
theorem Kr {b:List Int} (hb:∀ x∈b,zq x) (hl:b.length<=1099511627776) {i k:Nat} (hk:k<=3) (hi:4*i+4<=b.length) {v:Nat} (hv:v<16777216):Vt (bs b) i v k=Vt (bs b) i ((v*256+xw b (4*i+k):Nat):Int) ((k:Int)-1):=by
 have hx:=xo hb (4*i+k)
 rw[zbB,decide_eq_true (show (k:Int)≥0 by omega),ze (x:=4*(i:Int)) (by omega),ze (x:=4*(i:Int)+k) (by omega),decide_eq_true (show 0<=4*(i:Int)+k by omega),decide_eq_true (show 4*(i:Int)+k<((bs b).length:Int) by rw[z5];omega),Yq (show 4*(i:Int)+k=((4*i+k:Nat):Int) by push_cast;rfl) (by omega),←hx.1]
 dsimp only[zr,zpj,yv,zph,xt,zc]
 rw[or8 hv hx.2,ze (x:=(k:Int)-1) (by omega)]
theorem Y1:ev 174 [.pv (Bo false)] []=some (.pan (.ifc 225 (.agg [])),[]):=by rw[zbA];rfl
theorem WR:ev 174 [.pv (Bo true)] []=ok (.tup []):=by rw[zbA];rfl
theorem rF {b:List Int} (hb:∀ x∈b,zq x) (hl:b.length<=1099511627776) {i:Nat} (hi:4*i+4<=b.length):ev 173 [.pv (.sl 1 (bs b)),.pv (I (i:Int))] []=ok (I (zM b i)):=by
 rw[zbC,z5,ze (x:=(i:Int)+1) (by omega),ze (x:=4*((i:Int)+1)) (by omega),decide_eq_true (show 4*((i:Int)+1)<=(b.length:Int) by omega),WR]
 dsimp only[zf,zg,zpj]
 have h0:((xw b (4*i+0):Nat):Int)=b.getD (4*i) 0/\xw b (4*i+0)<256:=xo hb (4*i)
 have h1:=xo hb (4*i+1)
 have h2:=xo hb (4*i+2)
 have h3:=xo hb (4*i+3)
 have s3:=Kr hb hl (k:=3) (by omega) hi (v:=0) (by omega)
 have s2:=Kr hb hl (k:=2) (by omega) hi (v:=0*256+xw b (4*i+3)) (by omega)
 have s1:=Kr hb hl (k:=1) (by omega) hi (v:=(0*256+xw b (4*i+3))*256+xw b (4*i+2)) (by omega)
 have s0:=Kr hb hl (k:=0) (by omega) hi (v:=((0*256+xw b (4*i+3))*256+xw b (4*i+2))*256+xw b (4*i+1)) (by omega)
 have e3:(((3:Nat):Int)-1)=((2:Nat):Int):=rfl
 have e2:(((2:Nat):Int)-1)=((1:Nat):Int):=rfl
 have e1:(((1:Nat):Int)-1)=((0:Nat):Int):=rfl
 rw[e3] at s3
 rw[e2] at s2
 rw[e1] at s1
 refine (s3.trans (s2.trans (s1.trans s0))).trans ?_
 rw[zbB,show decide ((((0:Nat):Int)-1)≥0)=false from rfl]
 refine congrArg (fun z=>ok (I z)) ?_
 unfold zM
 omega
theorem zfu {b:List Int} (hl:b.length<4):ev 173 [.pv (.sl 1 (bs b)),.pv (I 0)] []=some (.pan (.ifc 225 (.agg [])),[]):=by
 rw[zbC,z5,show IntKind.wrap .i64 ((0:Int)+1)=1 from rfl,show IntKind.wrap .i64 ((4:Int)*1)=4 from rfl,decide_eq_false (show ¬(4:Int)<=(b.length:Int) by omega),Y1]
 rfl
def yC (n:Nat):Nat:=if n%2=0 then 4*n+8 else 4*n+4
theorem rX {n:Nat} (hn:n<=1099511627776):ev 167 [.pv (I (n:Int))] []=ok (I (yC n)):=by
 rw[zj1,ze (x:=(n:Int)+1) (by omega),ze (x:=4*((n:Int)+1)) (by omega),ze (x:=4*((n:Int)+1)+8) (by omega),ze (x:=4*((n:Int)+1)+8-1) (by omega),Int.tdiv_eq_ediv_of_nonneg (by omega),ze (x:=(4*((n:Int)+1)+8-1)/8) (by omega),ze (x:=(4*((n:Int)+1)+8-1)/8*8) (by omega)]
 refine congrArg (fun z=>ok (I z)) ?_
 unfold yC
 split<;>(push_cast;omega)
theorem zfP {n:Nat} (hn:n<=1099511627776):ev 86 [.pv (I (n:Int))] []=ok (I (yC n)):=by
 rw[zh1,ze (x:=4*(n:Int)) (by omega),ze (x:=4*(n:Int)+8) (by omega),ze (x:=4*(n:Int)+4) (by omega),Int.tmod_eq_emod_of_nonneg (by omega),yd]
 unfold yC
 by_cases h:n%2=0
 ·rw[if_pos (by omega),if_pos h];push_cast;rfl
 ·rw[if_neg (by omega),if_neg h];push_cast;rfl
theorem zpc {b:List Int} (hl:b.length<=1099511627776):∀ (c i:Nat),i+c=b.length->Kc (bs b) b.length i=ok (Bo ((b.drop i).all (·==0))):=by
 intro c
 induction c with
 |zero=>
  intro i hi
  rw[zbE,decide_eq_false (by omega),List.drop_eq_nil_of_le (by omega)]
  rfl
 |succ c ih=>
  intro i hi
  have hil:i<b.length:=by omega
  rw[zbE,decide_eq_true (show (i:Int)<(b.length:Int) by omega),decide_eq_true (show 0<=(i:Int) by omega),decide_eq_true (show (i:Int)<((bs b).length:Int) by rw[z5];omega),Int.toNat_natCast,Zr hil]
  dsimp only[zr,zpj,yv,zph,ZE,zc]
  rw[ze (x:=(i:Int)+1) (by omega),List.drop_eq_getElem_cons hil,List.all_cons]
  by_cases h0:b[i]=0
  ·rw[h0,show ((0:Int) != 0)=false from rfl,show ((0:Int)==0)=true from rfl]
   dsimp only[zt,zr]
   exact ih (i+1) (by omega)
  ·rw[xC h0,beq_eq_false_iff_ne.2 h0]
   rfl
theorem zf4 {b:List Int} (hl:b.length<=1099511627776):ev 175 [.pv (.sl 1 (bs b))] []=ok (Bo (b.all (·==0))):=by
 rw[zj3,z5]
 exact zpc hl b.length 0 (by omega)
def e4 (v:Int):List Int:=[v%256,v/256%256,v/65536%256,v/16777216%256]
theorem KD {acc:List Int} (ha:acc.length<=17592186044424) (v:Int) {k:Nat} (hk:k<4):Vu (bs acc) v k=Vu (bs (acc++[v%256])) (v/256) ((k+1:Nat):Int):=by
 rw[zbD,decide_eq_true (show (k:Int)<4 by omega),yQ (by rw[z5];omega) (by rw[z5];omega),Xu,ze (x:=(k:Int)+1) (by omega),vu,show (min 8 64:Nat)=8 from rfl,Int.fdiv_eq_ediv_of_nonneg _ (by decide)]
 rfl
theorem rI {acc:List Int} (ha:acc.length<=17592186044416) (v:Int):ev 166 [.slu 5 1 (bs acc),.pv (I v)] []=some (.ret (.slu 5 1 (bs (acc++e4 v))),[]):=by
 rw[zj2]
 have s0:=KD (acc:=acc) (by omega) v (k:=0) (by omega)
 have s1:=KD (acc:=acc++[v%256]) (by simp;omega) (v/256) (k:=1) (by omega)
 have s2:=KD (acc:=acc++[v%256]++[v/256%256]) (by simp;omega) (v/256/256) (k:=2) (by omega)
 have s3:=KD (acc:=acc++[v%256]++[v/256%256]++[v/256/256%256]) (by simp;omega) (v/256/256/256) (k:=3) (by omega)
 refine (s0.trans (s1.trans (s2.trans s3))).trans ?_
 rw[zbD,show decide (((3+1:Nat):Int)<4)=false from rfl]
 have e:acc++[v%256]++[v/256%256]++[v/256/256%256]++[v/256/256/256%256]=acc++e4 v:=by
  unfold e4
  rw[show v/256/256=v/65536 by omega,show v/65536/256=v/16777216 by omega]
  simp
 rw[e]
 rfl
def xg (b:List Int):Nat->Nat->List Int->Option (List (List Int))
 |0,_,rest=>if rest=[] then some [] else none
 |c+1,i,rest=>if zM b i<536870912/\8*zM b i<=(rest.length:Int) then (xg b c (i+1) (rest.drop (8*(zM b i).toNat))).map (zQ (zM b i).toNat (rest.take (8*(zM b i).toNat))::·) else none
def yI (b:List Int):Option (List (List Int)) :=
 if b.length<4 then none else if 512<zM b 0+1 then none else if b.length<yC (zM b 0+1).toNat then none
 else if (zM b 0+1).toNat%2=0/\zM b ((zM b 0+1).toNat+1)≠0 then none
 else xg b (zM b 0+1).toNat 1 (b.drop (yC (zM b 0+1).toNat))
def ZF (o:Option (List (List Int))):List PV:=match o with
 |some l=>[.sl 1 (zA l),I 0]
 |none=>[.sl 1 [],I 1]
theorem zdy (l:List (List Int)) (s:List Int):zA l++[.sl 1 (ws s)]=zA (l++[s]):=by simp[zA]
theorem zcj (o:Option (List (List Int))) (acc:List (List Int)) (s:List Int):(o.map (s::·)).map (acc++·)=o.map ((acc++[s])++·):=by
 cases o<;>simp
theorem Yr {b:List Int} (hb:∀ x∈b,zq x) (n:Nat):∀ x∈b.drop n,zq x:=fun x hx=>hb x (List.mem_of_mem_drop hx)
theorem JK {b:List Int} (hb:∀ x∈b,zq x) (n:Nat):∀ x∈b.take n,zq x:=fun x hx=>hb x (List.mem_of_mem_take hx)
theorem Qp (b:List Int) (n:Nat):(bs b).drop n=bs (b.drop n):=by simp[bs]
theorem zlL {b:List Int} (hb:∀ x∈b,zq x) (hl:b.length<=1099511627776) {n:Nat} (hn:n<=512) (ht:4*n+4<=b.length):∀ (c i:Nat) (rest:List Int) (acc:List (List Int)),i+c=n->(∀ x∈rest,zq x)->rest.length<=1099511627776->acc.length=i->
  Wa (bs b) (bs rest) n i (zA acc) 0=ok (.tup (ZF ((xg b c (i+1) rest).map (acc++·)))):=by
 intro c
 induction c with
 |zero=>
  intro i rest acc hi hr hrl hal
  rw[zbx,decide_eq_false (by omega),xg]
  dsimp only[zt]
  by_cases h0:rest=[]
  ·subst h0
   rw[if_pos rfl,show (((bs []).length:Int)==0)=true from rfl,WR]
   simp[ZF]
  ·have:(((bs rest).length:Int)==0)=false:=by
    rw[z5,beq_eq_false_iff_ne]
    have:=List.length_pos_iff.2 h0
    omega
   rw[if_neg h0,this,Y1]
   rfl
 |succ c ih=>
  intro i rest acc hi hr hrl hal
  have hv:=Wf hb (i+1)
  have e1:(i:Int)+1=((i+1:Nat):Int):=by push_cast;rfl
  rw[zbx,decide_eq_true (show (i:Int)<n by omega),ze (x:=(i:Int)+1) (by omega),e1,rF hb hl (by omega),xg]
  dsimp only[zf,zg,zpj,zK,zc]
  by_cases h1:zM b (i+1)<536870912
  ·rw[decide_eq_true h1,ze (x:=zM b (i+1)*8) (by omega)]
   dsimp only[zc]
   rw[z5]
   by_cases h2:8*zM b (i+1)<=(rest.length:Int)
   ·rw[decide_eq_true (show zM b (i+1)*8<=(rest.length:Int) by omega),WR,if_pos ⟨h1,h2⟩]
    have en:(zM b (i+1)*8).toNat=8*(zM b (i+1)).toNat:=by omega
    have hW:=Js (JK hr (8*(zM b (i+1)).toNat)) (by rw[List.length_take];omega) (n:=(zM b (i+1)).toNat) (by rw[List.length_take];omega)
    dsimp only[zf,zg,zpj]
    rw[decide_eq_true (show 0<=zM b (i+1)*8 by omega)]
    dsimp only[zr,zc]
    rw[en,List.drop_zero,Qq,hW]
    dsimp only[zf,zg,zpj,zO,zpi,zph,↓wsl,zr,zc]
    rw[yQ (by simp;omega) (by simp;omega),decide_eq_true (show (rest.length:Int)<=(rest.length:Int) by omega),Int.toNat_natCast,List.take_of_length_le (show (bs rest).length<=rest.length by rw[z5];exact Nat.le_refl _),Qp,zdy]
    dsimp only[zc]
    have:=ih (i+1) (rest.drop (8*(zM b (i+1)).toNat)) (acc++[zQ (zM b (i+1)).toNat (rest.take (8*(zM b (i+1)).toNat))]) (by omega) (Yr hr _) (by rw[List.length_drop];omega) (by simp;omega)
    rw[zcj]
    exact this
   ·rw[decide_eq_false (show ¬zM b (i+1)*8<=(rest.length:Int) by omega),Y1,if_neg (fun h=>h2 h.2)]
    rfl
  ·rw[decide_eq_false h1,Y1,if_neg (fun h=>h1 h.1)]
   rfl
theorem YH (a:AV) (p q:PV):vS 0 2 (.tup 0 a [p,q])=some (a,[p,q]):=rfl
noncomputable def uA (l:List (List Int)) (d w:Int):List PV:=if yF l d w=0 then [.sl 1 (ws (yW l d w))] else []
theorem zfb {l:List (List Int)} (hl:zF l) (hs:Sm l) {d w b:Int} (hd:d<=1099511627775) (hw:w<=134217728):ev 103 [.pv (.sl 1 (zA l)),.pv (.agg [I d,I w,I b])] []=ok (.tup [.sl 1 (uA l d w),I (yF l d w)]):=by
 rw[zhA,zhB,Jm hl hs hd (by omega)]
 dsimp only[Nd.x,zf,zg,zpj,zO,zpi,zph,zK,↓cl5,yT,xr,zr,yw,zc]
 unfold uA yW
 by_cases h0:yF l d w=0
 ·obtain ⟨ho,hb,_⟩:=ZZ hl hs hw h0
  have h1:=rq ho hb
  dsimp only[Nd.x] at h1
  rw[h0,show ((0:Int) != 0)=false from rfl,if_pos rfl,if_pos rfl]
  dsimp only[zt]
  rw[zhz,h1]
  dsimp only[zf]
  rw[yN]
  rfl
 ·rw[xC h0,if_neg h0]
  rfl
theorem qE {b:List Int} {j:Nat} (h:j+4<=b.length):(b.drop j).take 4=[b.getD j 0,b.getD (j+1) 0,b.getD (j+2) 0,b.getD (j+3) 0]:=by
 have g:∀ i,i<b.length->b.getD i 0=b[i]!:=fun i hi=>by simp[List.getD_eq_getElem?_getD,hi]
 rw[List.drop_eq_getElem_cons (show j<b.length by omega),List.drop_eq_getElem_cons (show j+1<b.length by omega),List.drop_eq_getElem_cons (show j+1+1<b.length by omega),List.drop_eq_getElem_cons (show j+1+1+1<b.length by omega)]
 simp only[List.take_succ_cons,List.take_zero,List.getD_eq_getElem?_getD]
 rw[List.getElem?_eq_getElem (show j<b.length by omega),List.getElem?_eq_getElem (show j+1<b.length by omega),List.getElem?_eq_getElem (show j+2<b.length by omega),List.getElem?_eq_getElem (show j+3<b.length by omega)]
 rfl
theorem zdW (b:List Int) (j k:Nat):(b.take (j+k)).drop j=(b.drop j).take k:=by
 rw[List.drop_take,Nat.add_sub_cancel_left]
theorem zlK {b:List Int} (hb:∀ x∈b,zq x) {n:Nat} (h:yC n<=b.length):((b.take (yC n)).drop (4*n+4)).all (·==0)=!decide (n%2=0/\zM b (n+1)≠0):=by
 by_cases hn:n%2=0
 ·have ht:yC n=(4*n+4)+4:=by unfold yC;rw[if_pos hn]
  have h0:=yU hb (4*n+4)
  have h1:=yU hb (4*n+4+1)
  have h2:=yU hb (4*n+4+2)
  have h3:=yU hb (4*n+4+3)
  have hl:zM b (n+1)=b.getD (4*n+4) 0+256*b.getD (4*n+4+1) 0+65536*b.getD (4*n+4+2) 0+16777216*b.getD (4*n+4+3) 0:=rfl
  rw[ht,zdW,qE (by omega),hl]
  generalize b.getD (4*n+4) 0=c0 at h0 ⊢
  generalize b.getD (4*n+4+1) 0=c1 at h1 ⊢
  generalize b.getD (4*n+4+2) 0=c2 at h2 ⊢
  generalize b.getD (4*n+4+3) 0=c3 at h3 ⊢
  rw[Bool.eq_iff_iff]
  simp only[List.all_cons,List.all_nil,Bool.and_true,Bool.and_eq_true,beq_iff_eq,Bool.not_eq_true',decide_eq_false_iff_not]
  omega
 ·have ht:yC n=4*n+4:=by unfold yC;rw[if_neg hn]
  rw[ht,List.drop_eq_nil_of_le (by rw[List.length_take];omega),decide_eq_false (fun h=>hn h.1)]
  rfl
theorem zeZ {b:List Int} (hb:∀ x∈b,zq x) (hl:b.length<=1099511627776):ev 107 [.pv (.sl 1 (bs b))] []=ok (.tup (ZF (yI b))):=by
 rw[zjZ]
 unfold yI
 by_cases h4:b.length<4
 ·rw[zfu h4,if_pos h4]
  rfl
 have hN:ev 173 [.pv (.sl 1 (bs b)),.pv (I 0)] []=ok (I (zM b 0)):=rF hb hl (i:=0) (by omega)
 have hr:=Wf hb 0
 rw[hN,if_neg h4]
 dsimp only[zf,zg,zpj,zK]
 rw[ze (x:=zM b 0+1) (by omega)]
 obtain ⟨n,hn⟩:∃ n:Nat,zM b 0+1=n:=⟨(zM b 0+1).toNat,by omega⟩
 rw[hn,Int.toNat_natCast n]
 by_cases h5:(512:Int)<n
 ·rw[if_pos h5,decide_eq_false (by omega),Y1]
  rfl
 have htb:yC n<=4*n+8/\4*n+4<=yC n:=by unfold yC;split<;>omega
 rw[if_neg h5,decide_eq_true (show (n:Int)<=512 by omega),WR,rX (by omega)]
 dsimp only[zf,zg,zpj,zK,xt]
 rw[z5]
 by_cases h6:b.length<yC n
 ·rw[if_pos h6,decide_eq_false (by omega),Y1]
  rfl
 rw[if_neg h6,decide_eq_true (show (b.length:Int)≥(yC n:Int) by omega),ze (x:=(n:Int)+1) (by omega),ze (x:=4*((n:Int)+1)) (by omega),decide_eq_true (show 0<=4*((n:Int)+1) by omega),decide_eq_true (show 4*((n:Int)+1)<=(yC n:Int) by omega)]
 dsimp only[zr,zc]
 rw[Int.toNat_natCast (yC n),show (4*((n:Int)+1)).toNat=4*n+4 by omega,Qq,Qp,zf4 (by rw[List.length_drop,List.length_take];omega),zlK hb (by omega)]
 dsimp only[zf,zg,zpj,xc]
 by_cases h7:n%2=0/\zM b (n+1)≠0
 ·rw[decide_eq_true h7,if_pos h7,show (!true)=false from rfl,Y1]
  rfl
 rw[decide_eq_false h7,if_neg h7,show (!false)=true from rfl,WR]
 dsimp only[zf,zg,zpj]
 rw[Int.toNat_natCast b.length,decide_eq_true (show 0<=(yC n:Int) by omega),decide_eq_true (show (b.length:Int)<=(b.length:Int) by omega),List.take_of_length_le (show (bs b).length<=b.length by rw[z5];exact Nat.le_refl _),Qp]
 dsimp only[zr,zc]
 have:=zlL hb hl (n:=n) (by omega) (by omega) n 0 (b.drop (yC n)) [] (by omega) (Yr hb _) (by rw[List.length_drop];omega) rfl
 have e:(xg b n (0+1) (b.drop (yC n))).map (([]:List (List Int))++·)=xg b n 1 (b.drop (yC n)):=by
  cases xg b n 1 (b.drop (yC n))<;>rfl
 rw[e] at this
 exact this
theorem zmX {b:List Int} (hb:∀ x∈b,zq x) (hl:b.length<=1099511627776) {n:Nat} (hn:n<=512) (ht:4*n+4<=b.length):∀ (c i at_:Nat) (acc:List (List Int)),i+c=n+1->at_<=b.length->acc.length<=i->
  W5 (bs b) n (zA acc) (I (at_:Int)) i=ok (.tup (ZF ((xg b c i (b.drop at_)).map (acc++·)))):=by
 intro c
 induction c with
 |zero=>
  intro i at_ acc hi ha hal
  rw[zac,decide_eq_false (by omega),xg]
  dsimp only[zK,xt,zpj,zt]
  rw[z5]
  by_cases h0:at_=b.length
  ·rw[if_pos (by rw[List.drop_eq_nil_iff];omega),h0,show ((b.length:Int) != (b.length:Int))=false by simp]
   simp[ZF]
  ·rw[if_neg (by rw[List.drop_eq_nil_iff];omega),show ((at_:Int) != (b.length:Int))=true from bne_iff_ne.2 (by omega)]
   rfl
 |succ c ih=>
  intro i at_ acc hi ha hal
  have hv:=Wf hb i
  rw[zac,decide_eq_true (show (i:Int)<=n by omega),Ju hb hl (by omega),xg]
  dsimp only[zK,xt,zpj,zf,zg,zc]
  rw[z5,List.length_drop]
  by_cases h1:zM b i<536870912
  ·rw[decide_eq_false (show ¬zM b i≥536870912 by omega),ze (x:=8*zM b i) (by omega),ze (x:=(at_:Int)+8*zM b i) (by omega)]
   dsimp only[zt]
   by_cases h2:8*zM b i<=((b.length-at_:Nat):Int)
   ·rw[decide_eq_false (show ¬(at_:Int)+8*zM b i>(b.length:Int) by omega),if_pos ⟨h1,h2⟩]
    have en:((at_:Int)+8*zM b i).toNat=at_+8*(zM b i).toNat:=by omega
    have hW:=zfN (JK (Yr hb at_) (8*(zM b i).toNat)) (by rw[List.length_take,List.length_drop];omega) (n:=(zM b i).toNat) (by rw[List.length_take,List.length_drop];omega)
    dsimp only[zt]
    rw[decide_eq_true (show 0<=(at_:Int) by omega),decide_eq_true (show (at_:Int)<=(at_:Int)+8*zM b i by omega),decide_eq_true (show (at_:Int)+8*zM b i<=(b.length:Int) by omega)]
    dsimp only[zr,zc]
    rw[en,Int.toNat_natCast,Qq,Qp,zdW,hW]
    dsimp only[zf]
    rw[YH]
    dsimp only[zpj,zpi,zph]
    rw[yN]
    dsimp only[zpj]
    rw[yQ (by simp;omega) (by simp;omega),zdy,ze (x:=(i:Int)+1) (by omega)]
    dsimp only[zc]
    have:=ih (i+1) (at_+8*(zM b i).toNat) (acc++[zQ (zM b i).toNat ((b.drop at_).take (8*(zM b i).toNat))]) (by omega) (by omega) (by simp;omega)
    rw[zcj,List.drop_drop,show (at_:Int)+8*zM b i=((at_+8*(zM b i).toNat:Nat):Int) by omega]
    exact this
   ·rw[decide_eq_true (show (at_:Int)+8*zM b i>(b.length:Int) by omega),if_neg (fun h=>h2 h.2)]
    rfl
  ·rw[decide_eq_true (show zM b i≥536870912 by omega),if_neg (fun h=>h1 h.1)]
   rfl
theorem rM {b:List Int} (hb:∀ x∈b,zq x) (hl:b.length<=1099511627776):ev 43 [.pv (.sl 1 (bs b))] []=ok (.tup (ZF (yI b))):=by
 rw[zh0,z5]
 unfold yI
 by_cases h4:b.length<4
 ·rw[decide_eq_true (show (b.length:Int)<4 by omega),if_pos h4]
  rfl
 have hN:ev 85 [.pv (.sl 1 (bs b)),.pv (I 0)] []=ok (I (zM b 0)):=Ju hb hl (i:=0) (by omega)
 have hr:=Wf hb 0
 rw[decide_eq_false (show ¬(b.length:Int)<4 by omega),hN,if_neg h4]
 dsimp only[zf,zg,zpj,zK,zt]
 rw[ze (x:=zM b 0+1) (by omega)]
 obtain ⟨n,hn⟩:∃ n:Nat,zM b 0+1=n:=⟨(zM b 0+1).toNat,by omega⟩
 rw[hn,Int.toNat_natCast n]
 by_cases h5:(512:Int)<n
 ·rw[if_pos h5,decide_eq_true (show (n:Int)>512 by omega)]
  rfl
 have htb:yC n<=4*n+8/\4*n+4<=yC n:=by unfold yC;split<;>omega
 rw[if_neg h5,decide_eq_false (show ¬(n:Int)>512 by omega),zfP (by omega)]
 dsimp only[zf,zg,zpj,zK,zt]
 by_cases h6:b.length<yC n
 ·rw[if_pos h6,decide_eq_true (show (b.length:Int)<(yC n:Int) by omega)]
  rfl
 rw[if_neg h6,decide_eq_false (show ¬(b.length:Int)<(yC n:Int) by omega),Int.tmod_eq_emod_of_nonneg (by omega),ze (x:=(n:Int)+1) (by omega)]
 dsimp only[zt]
 have loop:=zmX hb hl (n:=n) (by omega) (by omega) n 1 (yC n) [] (by omega) (by omega) (by simp)
 have e:(xg b n 1 (b.drop (yC n))).map (([]:List (List Int))++·)=xg b n 1 (b.drop (yC n)):=by
  cases xg b n 1 (b.drop (yC n))<;>rfl
 rw[e] at loop
 by_cases h7:n%2=0
 ·have hE:ev 85 [.pv (.sl 1 (bs b)),.pv (I ((n:Int)+1))] []=ok (I (zM b (n+1))):=by
   have ht:yC n=4*n+8:=by unfold yC;rw[if_pos h7]
   have:=Ju hb hl (i:=n+1) (by omega)
   rw[show ((n+1:Nat):Int)=(n:Int)+1 by push_cast;rfl] at this
   exact this
  rw[show ((n:Int)%2==0)=true by rw[beq_iff_eq];omega,hE]
  dsimp only[zf,zg,zpj,zK,zc]
  by_cases h8:zM b (n+1)=0
  ·rw[h8,if_neg (fun h=>h.2 rfl),show ((0:Int) != 0)=false from rfl]
   exact loop
  ·rw[if_pos ⟨h7,h8⟩,xC h8]
   rfl
 ·rw[show ((n:Int)%2==0)=false by rw[beq_eq_false_iff_ne];omega,if_neg (fun h=>h7 h.1)]
  exact loop
def wQ (w:List Int):List Int:=e4 0++e4 w.length++zu w
theorem KL (w:List Int):(wQ w).length=8+8*w.length:=by
 unfold wQ
 rw[zpk,y3]
 rfl
theorem ze2 {w:List Int} (hw:w.length<536870912):ev 105 [.pv (.sl 1 [.sl 1 (ws w)])] []=some (.ret (.tup 0 (.slu 5 1 (bs (wQ w))) [.v .nilIface,I 0]),[]):=by
 have p1:=rI (acc:=[]) (by simp) 0
 have p2:=rI (acc:=e4 0) (by decide) (w.length:Int)
 have hb:=Yk w (by omega)
 have ht:ev 167 [.pv (I 1)] []=ok (I 8):=rX (n:=1) (by omega)
 have hl:((bs (e4 0++e4 (w.length:Int))).length:Int)=8:=by rw[z5];rfl
 rw[zj0,show decide (((([.sl 1 (ws w)]:List PV).length:Nat):Int)<1)=false from rfl,show decide (((([.sl 1 (ws w)]:List PV).length:Nat):Int)>512)=false from rfl,show IntKind.wrap .i64 (((([.sl 1 (ws w)]:List PV).length:Nat):Int)-1)=0 from rfl]
 dsimp only[zt]
 have p1':ev 166 [.slu 5 1 [],.pv (I 0)] []=some (.ret (.slu 5 1 (bs (e4 0))),[]):=p1
 rw[p1']
 dsimp only[zf]
 rw[yN]
 dsimp only[zpj]
 rw[zby,show decide ((0:Int)<((([.sl 1 (ws w)]:List PV).length:Nat):Int))=true from rfl,show decide ((0:Int)<=0)=true from rfl,show ([.sl 1 (ws w)]:List PV)[(0:Int).toNat]? = some (.sl 1 (ws w)) from rfl]
 dsimp only[zr,zpj,vd,zph,yG,zc]
 rw[yt,decide_eq_false (show ¬(w.length:Int)≥536870912 by omega),p2]
 dsimp only[zf,zt]
 rw[yN]
 dsimp only[zpj]
 rw[zby,show decide (IntKind.wrap .i64 ((0:Int)+1)<((([.sl 1 (ws w)]:List PV).length:Nat):Int))=false from rfl,show ((([.sl 1 (ws w)]:List PV).length:Nat):Int)=1 from rfl,ht]
 dsimp only[zf,zg,zpj,zK,zt]
 rw[hl,show IntKind.wrap .i64 ((8:Int)-8)=0 from rfl,show (decide ((0:Int)<=0)&&decide ((0:Int)<=140737488355328))=true from rfl,show List.replicate (0:Int).toNat (PV.v (.int .u8 0))=[] from rfl,List.append_nil,show yf ((bs (e4 0++e4 (w.length:Int))).length+([]:List PV).length) 1=true from by rw[z5];rfl]
 dsimp only[zc]
 rw[zbz,show decide ((0:Int)<1)=true from rfl,show decide ((0:Int)<((([.sl 1 (ws w)]:List PV).length:Nat):Int))=true from rfl,show decide ((0:Int)<=0)=true from rfl,show ([.sl 1 (ws w)]:List PV)[(0:Int).toNat]? = some (.sl 1 (ws w)) from rfl]
 dsimp only[zr,zpj,vd,zph,zc]
 rw[hb]
 dsimp only[zf,zg,zpj,yG]
 rw[show decide ((1:Nat)=1)=true from rfl,yQ (by rw[z5,z5,y3,zpk];show (4+4+_)*1<=_;omega) (by rw[z5,z5,y3,zpk];show 4+4+_<=_;omega)]
 dsimp only[zc]
 rw[zbz,show decide (IntKind.wrap .i64 ((0:Int)+1)<1)=false from rfl,←vu]
 rfl
def YR (s b:Int):Int:=IntKind.wrap .u64 ((IntKind.wrap .u64 ((BitVec.ofInt 64 s ^^^ BitVec.ofInt 64 (IntKind.wrap .u64 b)).toNat:Nat))*1099511628211)
def wI (s:Int) (l:List Int):Int:=l.foldl YR s
theorem wrap64 (x:Int):IntKind.wrap .u64 x=x%18446744073709551616:=by
 simp[IntKind.wrap,IntKind.bits,IntKind.signed]
theorem znD (s b:Int):zG (YR s b):=by
 unfold YR
 rw[wrap64]
 exact ⟨by omega,by omega⟩
theorem step_loop {l:List Int} (hl:l.length<=4611686018427387904):∀ (c i:Nat) (s:Int),i+c=l.length->Kb s (bs l) l.length i=ok (U (wI s (l.drop i))):=by
 intro c
 induction c with
 |zero=>
  intro i s hi
  rw[zbs,decide_eq_false (by omega),List.drop_eq_nil_of_le (by omega)]
  rfl
 |succ c ih=>
  intro i s hi
  have hil:i<l.length:=by omega
  rw[zbs,decide_eq_true (show (i:Int)<(l.length:Int) by omega),decide_eq_true (show 0<=(i:Int) by omega),decide_eq_true (show (i:Int)<((bs l).length:Int) by rw[z5];omega)]
  dsimp only[zr,zc]
  rw[Int.toNat_natCast,show (bs l)[i]? = some (U8 l[i]) by simp[bs,hil]]
  dsimp only[zpj,yv,zph,xt]
  rw[ze (x:=(i:Int)+1) (by omega)]
  have:=ih (i+1) (YR s l[i]) (by omega)
  rw[List.drop_eq_getElem_cons hil]
  exact this
theorem zfU {l:List Int} (hl:l.length<=4611686018427387904) (s:Int):ev 232 [.pv (U s),.pv (.sl 1 (bs l))] []=ok (U (wI s l)):=by
 rw[zjX,z5]
 exact step_loop hl l.length 0 s (by omega)
theorem zjU (s:Int) (a b:List Int):wI s (a++b)=wI (wI s a) b:=List.foldl_append ..
theorem zhg (w:Int) (l:List Int):zu (w::l)=w8 w++zu l:=rfl
theorem zjY {l:List Int} (hl:l.length<=17592186044416):∀ (c i:Nat) (s:Int),i+c=l.length->Ka (U s) (ws l) l.length i=ok (U (wI s (zu (l.drop i)))):=by
 intro c
 induction c with
 |zero=>
  intro i s hi
  rw[zbr,decide_eq_false (by omega),List.drop_eq_nil_of_le (by omega)]
  rfl
 |succ c ih=>
  intro i s hi
  have hil:i<l.length:=by omega
  have hb:=Yk [l[i]] (by simp)
  have hs:=zfU (l:=zu [l[i]]) (by rw[y3];simp) s
  rw[zbr,decide_eq_true (show (i:Int)<(l.length:Int) by omega),decide_eq_true (show 0<=(i:Int) by omega),decide_eq_true (show (i:Int)<((ws l).length:Int) by rw[yt];omega)]
  dsimp only[zr,zc]
  rw[Int.toNat_natCast,ZO hil]
  have hb':ev 117 [.pv (.sl 1 [U l[i]])] []=ok (.sl 1 (bs (zu [l[i]]))):=hb
  dsimp only[zpj,yv,zph,↓zoJ,zr,zc]
  rw[hb']
  dsimp only[zf,zg,zpj]
  rw[hs]
  dsimp only[zf,zg,zpj]
  rw[ze (x:=(i:Int)+1) (by omega)]
  have:=ih (i+1) (wI s (zu [l[i]])) (by omega)
  have e:zu [l[i]]=w8 l[i]:=by simp[zu]
  refine (show _=_ from this).trans ?_
  rw[e,List.drop_eq_getElem_cons hil,zhg,zjU]
def off:Int:=14695981039346656037
theorem zfn {l:List Int} (hl:l.length<=17592186044416):ev 177 [.pv (.sl 1 (ws l))] []=ok (U (wI off (zu l))):=by
 rw[zjW,zjV]
 dsimp only[zf,zg,zpj]
 rw[yt,show (14695981039346656037:Int)=off from rfl]
 exact zjY hl l.length 0 off (by omega)
theorem zo8 (a c k:Nat):(a ^^^ c)%2^(k+1)=(a ^^^ c)%2^k+(if a/2^k%2≠c/2^k%2 then 2^k else 0):=by
 rw[Nat.mod_pow_succ,Nat.xor_div_two_pow]
 have h0:(a/2^k ^^^ c/2^k)%2^1=(a/2^k)%2^1 ^^^ (c/2^k)%2^1:=Nat.xor_mod_two_pow
 rw[Nat.pow_one] at h0
 have h1:=Nat.mod_two_eq_zero_or_one (a/2^k)
 have h2:=Nat.mod_two_eq_zero_or_one (c/2^k)
 rw[h0]
 rcases h1 with h1|h1<;>rcases h2 with h2|h2<;>simp[h1,h2]
theorem zo7 (s c:Nat) (hc:c<256):s-s%256+(s%256 ^^^ c)=s ^^^ c:=by
 have h1:(s ^^^ c)%2^8=(s%2^8) ^^^ (c%2^8):=Nat.xor_mod_two_pow
 have h2:(s ^^^ c)/2^8=s/2^8 ^^^ c/2^8:=Nat.xor_div_two_pow
 have e1:c%2^8=c:=Nat.mod_eq_of_lt hc
 have e2:c/2^8=0:=Nat.div_eq_of_lt hc
 rw[e1] at h1
 rw[e2,Nat.xor_zero] at h2
 have h3:(2:Nat)^8=256:=rfl
 rw[h3] at h1 h2
 omega
theorem zo6 (s c:Nat) (hs:s<18446744073709551616) (hc:c<256):(BitVec.ofInt 64 (s:Int) ^^^ BitVec.ofInt 64 (IntKind.wrap .u64 (c:Int))).toNat=s ^^^ c:=by
 have e1:∀ m:Nat,m<18446744073709551616->(BitVec.ofInt 64 (m:Int)).toNat=m:=fun m hm=>by simp;omega
 rw[xR (by omega),BitVec.toNat_xor,e1 s hs,e1 c (by omega)]
theorem zo9 (s c:Nat) (hs:s<18446744073709551616) (hc:c<256):s ^^^ c<18446744073709551616:=Nat.xor_lt_two_pow (n:=64) hs (by omega)
theorem zgL (s c:Nat) (hs:s<18446744073709551616) (hc:c<256):(IntKind.wrap .u64 ((IntKind.wrap .u64 ((IntKind.wrap .u64 ((IntKind.wrap .u64 ((IntKind.wrap .u64 ((s:Int)-((s%256:Nat):Int)))+((s%256 ^^^ c:Nat):Int)))*1099511627776))+(IntKind.wrap .u64 ((IntKind.wrap .u64 ((IntKind.wrap .u64 ((s:Int)-((s%256:Nat):Int)))+((s%256 ^^^ c:Nat):Int)))*256))))+(IntKind.wrap .u64 ((IntKind.wrap .u64 ((IntKind.wrap .u64 ((s:Int)-((s%256:Nat):Int)))+((s%256 ^^^ c:Nat):Int)))*179))))=YR s c:=by
 have h:=zo7 s c hc
 have h2:=zo9 s c hs hc
 have hl:s%256<=s:=Nat.mod_le _ _
 have e1:IntKind.wrap .u64 ((s:Int)-((s%256:Nat):Int))=((s-s%256:Nat):Int):=by rw[xR (by omega)];omega
 have e2:IntKind.wrap .u64 (((s-s%256:Nat):Int)+((s%256 ^^^ c:Nat):Int))=((s ^^^ c:Nat):Int):=by
  rw[xR (by omega)];omega
 unfold YR
 rw[e1,e2,zo6 s c hs hc,xR (x:=((s ^^^ c:Nat):Int)) (by omega)]
 generalize s ^^^ c=t at h2
 simp only[wrap64]
 omega
theorem zgM {l:List Int} {s c:Nat} (hs:s<18446744073709551616) (hc:c<256) (i:Int) (hi:0<=i/\i<=9000000000000000000):∀ (d k:Nat),k+d=8->Vc s (bs l) i ((s%256:Nat):Int) (((s%256 ^^^ c)%2^k:Nat):Int) c k=XN (YR s c) (bs l) (i+1):=by
 have hx:s%256 ^^^ c<256:=Nat.xor_lt_two_pow (n:=8) (by omega) (by omega)
 intro d
 induction d with
 |zero=>
  intro k hk
  obtain rfl:k=8:=by omega
  rw[zap,show decide (((8:Nat):Int)<8)=false from rfl,Nat.mod_eq_of_lt (show s%256 ^^^ c<2^8 from hx),zgL s c hs hc,ze (x:=i+1) (by omega)]
  rfl
 |succ d ih=>
  intro k hk
  have hp:0<2^k:=Nat.pow_pos (by decide)
  have hp2:2^k<=2^7:=Nat.pow_le_pow_right (by decide) (by omega)
  have hpow:=Qb k (by omega)
  have q:∀ a:Nat,a<256->Int.tmod (IntKind.wrap .u64 (Int.tdiv (a:Int) ((2^k:Nat):Int))) 2=((a/2^k%2:Nat):Int):=fun a ha=>by
   have h1:Int.tdiv (a:Int) ((2^k:Nat):Int)=((a/2^k:Nat):Int):=by
    rw[Int.tdiv_eq_ediv_of_nonneg (by omega)];exact (Int.natCast_ediv a (2^k)).symm
   have h2:a/2^k<=a:=Nat.div_le_self _ _
   generalize a/2^k=z at h1 h2
   rw[h1,xR (by omega),Int.tmod_eq_emod_of_nonneg (by omega)]
   omega
  have ok:yP .quo ((2^k:Nat):Int)=true:=by
   have:((2^k:Nat):Int)≠0:=by omega
   simp only[yP]
   simpa using this
  have hm:(s%256 ^^^ c)%2^k<2^k:=Nat.mod_lt _ hp
  have hn:=ih (k+1) (by omega)
  rw[zo8] at hn
  rw[zap,decide_eq_true (show (k:Int)<8 by omega),hpow]
  dsimp only[zf,zg,zpj,wM,zc]
  rw[ok]
  dsimp only[zc]
  rw[q _ (Nat.mod_lt _ (by decide)),q c hc,ze (x:=(k:Int)+1) (by omega)]
  by_cases g:s%256/2^k%2=c/2^k%2
  ·rw[if_neg (fun h=>h g),Nat.add_zero] at hn
   rw[show (((s%256/2^k%2:Nat):Int) != ((c/2^k%2:Nat):Int))=false from by rw[g];simp]
   exact hn
  ·rw[if_pos g] at hn
   rw[bne_iff_ne.2 (show ((s%256/2^k%2:Nat):Int)≠((c/2^k%2:Nat):Int) by omega)]
   dsimp only[zc]
   rw[xR (by omega)]
   exact hn
theorem zgN {l:List Int} (hb:∀ b∈l,zq b) (hl:l.length<=4611686018427387904):∀ (d i:Nat) (s:Int),zG s->i+d=l.length->XN s (bs l) i=ok (U (wI s (l.drop i))):=by
 intro d
 induction d with
 |zero=>
  intro i s hs hi
  rw[zao,decide_eq_false (by rw[z5];omega),List.drop_eq_nil_of_le (by omega)]
  rfl
 |succ d ih=>
  intro i s hs hi
  have hil:i<l.length:=by omega
  obtain ⟨b1,b2⟩:=hb _ (List.getElem_mem hil)
  obtain ⟨s1,s2⟩:=hs
  obtain ⟨n,hn⟩:=Int.eq_ofNat_of_zero_le s1
  obtain ⟨c,hc⟩:=Int.eq_ofNat_of_zero_le b1
  have h:=zgM (l:=l) (s:=n) (c:=c) (by omega) (by omega) (i:Int) (by omega) 8 0 rfl
  have hm:Int.tmod s 256=((n%256:Nat):Int):=by rw[hn,Int.tmod_eq_emod_of_nonneg (by omega)];omega
  rw[zao,decide_eq_true (show (i:Int)<((bs l).length:Int) by rw[z5];omega),decide_eq_true (show 0<=(i:Int) by omega)]
  dsimp only[zr,zc]
  rw[Int.toNat_natCast,show (bs l)[i]? = some (U8 l[i]) by simp[bs,hil]]
  dsimp only[zpj,yv,zph,xt]
  rw[hm,xR (x:=l[i]) (by omega)]
  rw[Nat.pow_zero,Nat.mod_one] at h
  have hih:=ih (i+1) (YR s l[i]) (znD _ _) (by omega)
  rw[List.drop_eq_getElem_cons hil]
  rw[hn,hc] at hih ⊢
  exact (show _=_ from h).trans hih
theorem ze6 {l:List Int} (hb:∀ b∈l,zq b) (hl:l.length<=4611686018427387904):ev 42 [.pv (.sl 1 (bs l))] []=ok (U (wI off l)):=by
 have h:=zgN hb hl l.length 0 off ⟨by decide,by decide⟩ (by omega)
 rw[List.drop_zero] at h
 have h':XN 14695981039346656037 (bs l) 0=ok (U (wI off l)):=h
 rw[ziq,zio,h']
 rfl
theorem eqB_true {α:Type} {x y:α}:xh x y=true↔x=y:=by
 by_cases h:x=y
 ·exact ⟨fun _=>h,fun _=>wW h⟩
 ·exact ⟨fun e=>by (rw[wV h] at e;cases e),fun e=>absurd e h⟩
theorem zg0 (b:ByteArray):∀ (c i:Nat) (r:List UInt8),i+c=b.size->ByteArray.toList.loop b i r=r.reverse++b.data.toList.drop i:=by
 intro c
 induction c with
 |zero=>
  intro i r hi
  unfold ByteArray.toList.loop
  rw[if_neg (by omega),List.drop_of_length_le (by rw[Array.length_toList];have:b.size=b.data.size:=rfl;omega),List.append_nil]
 |succ c ih=>
  intro i r hi
  have hib:i<b.data.size:=by show i<b.size;omega
  unfold ByteArray.toList.loop
  rw[if_pos (by omega),ih (i+1) _ (by omega),List.reverse_cons,List.append_assoc]
  congr 1
  conv=>rhs;rw[List.drop_eq_getElem_cons (by rw[Array.length_toList];exact hib)]
  have:b.get! i=b.data[i]:=by
   show b.data[i]! = b.data[i]
   rw[getElem!_pos b.data i hib]
  rw[this,Array.getElem_toList]
  rfl
theorem jp (b:ByteArray):b.toList=b.data.toList:=by
 unfold ByteArray.toList
 rw[zg0 b b.size 0 [] (by omega)]
 rfl
theorem zdH {a b:List Int} (ha:∀ x∈a,zq x) (hb:∀ x∈b,zq x) (h:(strOfNums a).toList=(strOfNums b).toList):a=b:=by
 rw[jp,jp,strOfNums_data,strOfNums_data] at h
 have hl:a.length=b.length:=by have:=congrArg List.length h;simpa using this
 apply List.ext_getElem hl
 intro i h1 h2
 have e:=congrArg (fun l:List UInt8=>l[i]?) h
 simp only[List.getElem?_map,List.getElem?_eq_getElem h1,List.getElem?_eq_getElem h2,Option.map_some,Option.some.injEq] at e
 obtain ⟨p1,p2⟩:=ha _ (List.getElem_mem h1)
 obtain ⟨q1,q2⟩:=hb _ (List.getElem_mem h2)
 have:=congrArg UInt8.toNat e
 rw[UInt8.toNat_ofNat',UInt8.toNat_ofNat',Nat.mod_eq_of_lt (by omega),Nat.mod_eq_of_lt (by omega)] at this
 omega
theorem VH:∀ a:List Int,vR (bs a)=some a
 |[]=>rfl
 |x::a=>by
  show (vR (bs a)).map (fun l=>x::l)=some (x::a)
  rw[VH a];rfl
theorem zfa {a b:List Int} (ha:∀ x∈a,zq x) (hb:∀ x∈b,zq x):ev 212 [.pv (.sl 1 (bs a)),.pv (.sl 1 (bs b))] []=ok (Bo (xh a b)):=by
 rw[zhj,VH,zpj,VH,zpj]
 by_cases h:a=b
 ·rw[wW h,beq_iff_eq.2 (by rw[h])]
 ·rw[wV h,beq_eq_false_iff_ne.2 (fun e=>h (zdH ha hb e))]
def QO (l:List (List Int)) (D:Nat) (m:Int) (o:Ob):Nd×Int×Int:=if o.kind=1 then zV (zH l D) l m o else xp (zH l D) l m o
def K1 (o:Ob):Prop:=o.kind=1->o.elem=0/\o.n=0
theorem zll (l:List (List Int)) (s a:Int):K1 (yz l s a).1:=by
 have hb:∀ e,K1 (bad e).1:=fun e h=>⟨rfl,rfl⟩
 unfold yz wZ wL wn wC
 repeat' split
 all_goals first
  |exact hb _
  |exact fun _=>⟨rfl,rfl⟩
  |exact fun h=>absurd h (show ¬((2:Int)=1) by decide)
def Dn (l:List (List Int)) (D:Nat) (o:Ob) (n:Nd):Prop:=(o=wY/\n=nd0)∨∃ D',D=D'+1/\Zq l o/\Np o/\K1 o/\∃ m,(QO l D' m o).2.2=0/\(QO l D' m o).1=n
theorem QQ {l:List (List Int)} (hl:zF l) (hs:Sm l) {D:Nat} {m s a:Int} (h:(zH l D m s a).2.2=0):Dn l D (yz l s a).1 (zH l D m s a).1:=by
 by_cases he:(zY l s a).2.2.2=0
 ·by_cases h0:(zY l s a).1=0
  ·rw[Xa he h0]
   refine .inl ⟨?_,rfl⟩
   unfold yz
   rw[if_pos he,if_pos h0]
   rfl
  ·cases D with
   |zero=>rw[QP he h0] at h;exact absurd h (by show ¬((7:Int)=0);decide)
   |succ D=>
    rw[QR he h0] at h ⊢
    unfold xx at h ⊢
    by_cases hf:(yz l s a).2=0
    ·rw[if_pos hf] at h ⊢
     by_cases h8:(yz l s a).1.cost>m
     ·rw[if_pos h8] at h;exact absurd h (by show ¬((8:Int)=0);decide)
     ·rw[if_neg h8] at h ⊢
      exact .inr ⟨D,rfl,Xg hl hs h0 he hf,zct hl hs h0 he hf,zll l s a,m-(yz l s a).1.cost,h,rfl⟩
    ·rw[if_neg hf] at h;exact absurd h hf
 ·rw[Yw he] at h;exact absurd h he
theorem zaT {l:List (List Int)} {D:Nat} {o:Ob} {n:Nd} (h:Dn l D o n):n.kind=o.kind/\n.elem=o.elem/\n.n=o.n:=by
 rcases h with ⟨rfl,rfl⟩|⟨D',_,hok,_,hk1,m,hz,rfl⟩
 ·exact ⟨rfl,rfl,rfl⟩
 ·obtain ⟨_,_,_,_,_,_,hk,_⟩:=hok
  unfold QO at hz ⊢
  by_cases h1:o.kind=1
  ·rw[if_pos h1] at hz ⊢
   have hz':(zX (fun m (i:Nat)=>zH l D' m o.seg (o.at_+o.data+i)) o.ptrs.toNat 0 m []).2.2=0:=hz
   unfold zV
   rw[Zp hz']
   exact ⟨h1.symm,(hk1 h1).1.symm,(hk1 h1).2.symm⟩
  ·rw[if_neg h1] at hz ⊢
   have h2:o.kind=2:=by omega
   unfold xp at hz ⊢
   by_cases h6:o.elem<6
   ·rw[if_pos h6];exact ⟨h2.symm,rfl,rfl⟩
   ·rw[if_neg h6] at hz ⊢
    have hz':(zX (fun m (i:Nat)=>if o.elem=6 then zH l D' m o.seg (o.at_+i) else zV (zH l D') l m (yh o i)) o.n.toNat 0 m []).2.2=0:=hz
    rw[Zp hz']
    exact ⟨h2.symm,rfl,rfl⟩
def vO (l:List (List Int)) (o:Ob) (i:Nat):Ob:=if (i:Int)≥w9 o then wY else (yz l o.seg (xj o+i)).1
theorem zdJ {l:List (List Int)} (hl:zF l) (hs:Sm l) {D:Nat} {m:Int} {o:Ob} (hk:o.kind=1) (hq:0<=o.ptrs) (h:(zV (zH l D) l m o).2.2=0):∃ ks,(zV (zH l D) l m o).1=.mk 1 0 0 (zu (cutB l o.seg o.at_ o.data)) ks/\ks.length=o.ptrs.toNat/\∀ i,Dn l D (vO l o i) (ks.getD i nd0):=by
 have hz:(zX (fun m (i:Nat)=>zH l D m o.seg (o.at_+o.data+i)) o.ptrs.toNat 0 m []).2.2=0:=h
 obtain ⟨ks,e1,e2,e3⟩:=zb9 (G:=fun m (i:Nat)=>zH l D m o.seg (o.at_+o.data+i)) o.ptrs.toNat 0 m [] hz
 refine ⟨ks,?_,e2,fun i=>?_⟩
 ·unfold zV
  rw[Zp hz]
  dsimp only
  rw[e1,zpm]
 ·have hN:w9 o=o.ptrs:=by
   unfold w9
   by_cases h0:0<o.ptrs
   ·rw[if_pos ⟨hk,h0⟩]
   ·rw[if_neg (fun x=>h0 x.2),if_neg (fun x=>absurd x.1 (by omega))];omega
  unfold vO
  rw[hN]
  by_cases hi:(i:Int)≥o.ptrs
  ·rw[if_pos hi,List.getD_eq_getElem?_getD,List.getElem?_eq_none (by omega)]
   exact .inl ⟨rfl,rfl⟩
  ·rw[if_neg hi]
   have hik:i<ks.length:=by omega
   obtain ⟨m1,f1,f2⟩:=e3 i hik
   rw[List.getD_eq_getElem?_getD,List.getElem?_eq_getElem hik,Option.getD_some,←f2,Nat.zero_add]
   rw[Nat.zero_add] at f1
   have hA:xj o=o.at_+o.data:=by unfold xj;rw[if_pos ⟨hk,by omega⟩]
   rw[hA]
   exact QQ hl hs f1
abbrev VJ (la lb:List (List Int)):AV:=.pv (.agg [.sl 1 (zA la),.sl 1 (zA lb)])
theorem rG {l:List (List Int)} (hl:zF l) (hs:Sm l) {o:Ob} (hat:0<=o.at_/\o.at_<=1125899906842624) (hdt:0<=o.data/\o.data<=65535) (hA:0<=xj o/\xj o<=2251799813685248) {i:Nat} (hi:i<=1073741824):ev 239 [.pv (.sl 1 (zA l)),.pv (.agg o.c),.pv (I i)] []=ok (.agg (vO l o i).c):=by
 have hp:=rm o (by omega)
 rw[Ob.c] at hp ⊢
 rw[zjv,hp]
 dsimp only[zf,zg,zpj,zO,zpi,zph,zK]
 unfold vO
 by_cases h:(i:Int)≥w9 o
 ·rw[decide_eq_true h,if_pos h];rfl
 ·rw[decide_eq_false h,if_neg h,ze (x:=xj o+i) (by omega),Jn hl hs]
  rfl
theorem Qh {l:List (List Int)} (hl:zF l) (o:Ob) {n:Int} (hn:n<=17592186044416):ev 236 [.pv (.sl 1 (zA l)),.pv (.agg o.c),.pv (I n)] []=ok (.sl 1 (ws (cutB l o.seg o.at_ n))):=by
 rw[Ob.c,zjC,rn hl _ _ _ hn]
 rfl
theorem zmn {la lb:List (List Int)} {x y:Ob} {q:Nat} (hq:q<=1073741824) (f:Nat->Bool)
  (hx:∀ i,i<q->ev 239 [.pv (.sl 1 (zA la)),.pv (.agg x.c),.pv (I i)] []=ok (.agg (vO la x i).c)) (hy:∀ i,i<q->ev 239 [.pv (.sl 1 (zA lb)),.pv (.agg y.c),.pv (I i)] []=ok (.agg (vO lb y i).c))
  (hf:∀ i,i<q->ev 111 [VJ la lb,.pv (.agg (vO la x i).c),.pv (.agg (vO lb y i).c)] []=ok (Bo (f i))):∀ (c i:Nat),i+c=q->(∀ j,j<i->f j=true)->
  QY q i (zA la) (zA lb) x.kind x.seg x.at_ x.data x.ptrs x.elem x.n x.cost y.kind y.seg y.at_ y.data y.ptrs y.elem y.n y.cost=ok (Bo ((List.range q).all f)):=by
 intro c
 induction c with
 |zero=>
  intro i hi hj
  rw[za9,decide_eq_false (by omega),List.all_eq_true.2 (fun j h=>hj j (by have:=List.mem_range.1 h;omega))]
  rfl
 |succ c ih=>
  intro i hi hj
  have e1:=hx i (by omega)
  have e2:=hy i (by omega)
  have e3:=hf i (by omega)
  rw[Ob.c] at e1 e2
  rw[za9,decide_eq_true (by omega),e1]
  dsimp only[zf,zg,zpj,zc]
  rw[e2]
  dsimp only[zf,zg,zpj]
  rw[e3]
  dsimp only[zf,zg,zpj,xc]
  cases hfi:f i with
  |true=>
   dsimp only[vN,zt]
   rw[ze (x:=(i:Int)+1) (by omega)]
   exact ih (i+1) (by omega) fun j h=>by
    rcases Nat.lt_or_ge j i with h1|h1
    ·exact hj j h1
    ·rw[show j=i by omega];exact hfi
  |false=>
   rw[show (List.range q).all f=false from by
    rw[Bool.eq_false_iff]
    intro h
    have:=List.all_eq_true.1 h i (List.mem_range.2 (by omega))
    rw[hfi] at this;cases this]
   rfl
theorem getD_map (l:List Nd) (i:Nat):(l.map zk).getD i nd0=zk (l.getD i nd0):=by
 simp only[List.getD_eq_getElem?_getD,List.getElem?_map]
 cases l[i]? with
 |none=>rfl
 |some x=>rfl
theorem jy {p q:Bool} (h:p=true↔q=true):p=q:=Bool.eq_iff_iff.2 h
def WL (la lb:List (List Int)) (D:Nat):Prop:=∀ x y nx ny,Dn la D x nx->Dn lb D y ny->ev 111 [VJ la lb,.pv (.agg x.c),.pv (.agg y.c)] []=ok (Bo (xh (zk nx) (zk ny)))
def Wi (o:Ob):Prop:=(0<=o.at_/\o.at_<=1125899906842624)/\(0<=o.data/\o.data<=65535)/\(0<=o.ptrs/\o.ptrs<=65535)
theorem zeq {o:Ob} (h:Wi o) (hk:o.kind=1):0<=xj o/\xj o<=2251799813685248:=by
 obtain ⟨h1,h2,h3⟩:=h
 unfold xj
 split
 ·omega
 ·rw[if_neg (fun x=>absurd x.1 (by omega))];omega
theorem rH {la lb:List (List Int)} (hla:zF la) (hsa:Sm la) (hlb:zF lb) (hsb:Sm lb) {D:Nat} (ih:WL la lb D) {x y:Ob} (hx1:0<=x.at_/\x.at_<=1125899906842624) (hx2:0<=x.data/\x.data<=65535) (hx3:0<=xj x/\xj x<=2251799813685248) (hy1:0<=y.at_/\y.at_<=1125899906842624) (hy2:0<=y.data/\y.data<=65535) (hy3:0<=xj y/\xj y<=2251799813685248) {q:Nat} (hq:q<=1073741824) {kx ky:List Nd}
  (dx:∀ i,i<q->Dn la D (vO la x i) (kx.getD i nd0)) (dy:∀ i,i<q->Dn lb D (vO lb y i) (ky.getD i nd0)):ev 183 [VJ la lb,.pv (.agg x.c),.pv (.agg y.c),.pv (I q)] []=ok (Bo ((List.range q).all fun i=>xh (zk (kx.getD i nd0)) (zk (ky.getD i nd0)))):=by
 have:=zmn (la:=la) (lb:=lb) (x:=x) (y:=y) hq (fun i=>xh (zk (kx.getD i nd0)) (zk (ky.getD i nd0))) (fun i hi=>rG hla hsa hx1 hx2 hx3 (by omega)) (fun i hi=>rG hlb hsb hy1 hy2 hy3 (by omega)) (fun i hi=>ih _ _ _ _ (dx i hi) (dy i hi)) q 0 (by omega) (fun j h=>absurd h (by omega))
 rw[Ob.c,Ob.c,zjy]
 exact this
theorem jg {q:Nat} {kx ky:List Nd}:((List.range q).all fun i=>xh (zk (kx.getD i nd0)) (zk (ky.getD i nd0)))=true↔∀ i,i<q->(kx.map zk).getD i nd0=(ky.map zk).getD i nd0:=by
 rw[List.all_eq_true]
 constructor
 ·intro h i hi
  rw[getD_map,getD_map]
  exact eqB_true.1 (h i (List.mem_range.2 hi))
 ·intro h i hi
  have:=h i (List.mem_range.1 hi)
  rw[getD_map,getD_map] at this
  exact eqB_true.2 this
theorem zox {k e n:Int} {d:List Int} {ks:List Nd} (h:VN (.mk k e n d ks)):∀ y∈ks,VN y:=by
 cases h with
 |mk v1 v2 v3=>exact v1
theorem zef (d:List Int) (ks:List Nd):zk (.mk 1 0 0 d ks)=.mk 1 0 0 (d.take (8*yg d)) ((ks.map zk).take (yc (ks.map zk))):=by
 rw[zk,if_pos rfl,yX]
 have:=KB ks
 rw[yX] at this
 rw[this]
theorem zem {k e n:Int} {d:List Int} {ks:List Nd} (h:VN (.mk k e n d ks)):∀ y∈ks,VN y:=(zox h)
theorem rV {la lb:List (List Int)} (hla:zF la) (hsa:Sm la) (hlb:zF lb) (hsb:Sm lb) {D:Nat} (ih:WL la lb D) {x y:Ob} (hx:Wi x) (hy:Wi y) (kx:x.kind=1) (ky:y.kind=1) {m m':Int} (zx:(zV (zH la D) la m x).2.2=0) (zy:(zV (zH lb D) lb m' y).2.2=0):ev 181 [VJ la lb,.pv (.agg x.c),.pv (.agg y.c)] []=ok (Bo (xh (zk (zV (zH la D) la m x).1) (zk (zV (zH lb D) lb m' y).1))):=by
 obtain ⟨cx,e1,e2,e3⟩:=zdJ hla hsa kx hx.2.2.1 zx
 obtain ⟨cy,f1,f2,f3⟩:=zdJ hlb hsb ky hy.2.2.1 zy
 have vx:=(KS (Vi hla hsa D) la m hx.2.1.2 hx.2.2 zx).1
 have vy:=(KS (Vi hlb hsb D) lb m' hy.2.1.2 hy.2.2 zy).1
 rw[e1] at vx ⊢
 rw[f1] at vy ⊢
 have px:=rH (D:=D) hla hsa hlb hsb ih (x:=x) (y:=y) hx.1 hx.2.1 (zeq hx kx) hy.1 hy.2.1 (zeq hy ky) (q:=max cx.length cy.length) (by obtain ⟨_,_,a⟩:=hx;obtain ⟨_,_,b⟩:=hy;omega) (kx:=cx) (ky:=cy) (fun i _=>e3 i) (fun i _=>f3 i)
 have hq:(if y.ptrs>x.ptrs then y.ptrs else x.ptrs)=((max cx.length cy.length:Nat):Int):=by
  obtain ⟨_,_,a⟩:=hx
  obtain ⟨_,_,b⟩:=hy
  split<;>omega
 have wx:=Qh hla x (n:=x.data) (by obtain ⟨_,a,_⟩:=hx;omega)
 have wy:=Qh hlb y (n:=y.data) (by obtain ⟨_,a,_⟩:=hy;omega)
 have lx:=vM la x.seg x.at_ x.data
 have ly:=vM lb y.seg y.at_ y.data
 have dd:=V8 (a:=cutB la x.seg x.at_ x.data) (b:=cutB lb y.seg y.at_ y.data) (by obtain ⟨_,a,_⟩:=hx;omega) (by obtain ⟨_,a,_⟩:=hy;omega)
 have hwx:=(XS hla x.seg x.at_ x.data).2
 have hwy:=(XS hlb y.seg y.at_ y.data).2
 rw[zef,zef,uN hwx,uN hwy]
 generalize cutB la x.seg x.at_ x.data=ux at *
 generalize cutB lb y.seg y.at_ y.data=uy at *
 have kxv:∀ z∈cx.map zk,VN z:=fun z hz=>by
  obtain ⟨u,hu,rfl⟩:=List.mem_map.1 hz
  exact WH u ((zem vx) u hu)
 have kyv:∀ z∈cy.map zk,VN z:=fun z hz=>by
  obtain ⟨u,hu,rfl⟩:=List.mem_map.1 hz
  exact WH u ((zem vy) u hu)
 have hcut:=ziZ kxv kyv (q:=max cx.length cy.length) (by rw[List.length_map];omega) (by rw[List.length_map];omega)
 rw[Ob.c] at wx wy px
 rw[Ob.c] at px
 rw[Ob.c,Ob.c,zjA,wx]
 dsimp only[zf,zg,zpj]
 rw[wy]
 dsimp only[zf,zg,zpj]
 rw[dd,hq]
 dsimp only[zf,zg,zpj,xc]
 by_cases hd:y4 ux=y4 uy
 ·rw[wW hd]
  dsimp only[zc]
  rw[px]
  dsimp only[zf,zg,zpj,xc]
  refine congrArg (fun b=>ok (Bo b)) (jy ?_)
  rw[jg,eqB_true,←hcut,hd]
  simp
 ·have hne:¬(Nd.mk 1 0 0 (zu (y4 ux)) ((cx.map zk).take (yc (cx.map zk)))=Nd.mk 1 0 0 (zu (y4 uy)) ((cy.map zk).take (yc (cy.map zk)))):=fun h=>hd (XJ (fun z hz=>hwx z (List.mem_of_mem_take hz)) (fun z hz=>hwy z (List.mem_of_mem_take hz)) (by injection h))
  rw[wV hd,wV hne]
  rfl
theorem ziP {la lb:List (List Int)} {x y:Ob} {q:Nat} (hq:q<=536870911) (f:Nat->Bool)
  (hx:∀ i:Nat,i<q->ev 238 [.pv (.agg x.c),.pv (I i)] []=ok (.agg (yh x i).c)) (hy:∀ i:Nat,i<q->ev 238 [.pv (.agg y.c),.pv (I i)] []=ok (.agg (yh y i).c))
  (hf:∀ i:Nat,i<q->ev 181 [VJ la lb,.pv (.agg (yh x i).c),.pv (.agg (yh y i).c)] []=ok (Bo (f i))):∀ (c i:Nat),i+c=q->(∀ j,j<i->f j=true)->
  X2 q i (zA la) (zA lb) x.kind x.seg x.at_ x.data x.ptrs x.elem x.n x.cost y.kind y.seg y.at_ y.data y.ptrs y.elem y.n y.cost=ok (Bo ((List.range q).all f)):=by
 intro c
 induction c with
 |zero=>
  intro i hi hj
  rw[za8,decide_eq_false (by omega),List.all_eq_true.2 (fun j h=>hj j (by have:=List.mem_range.1 h;omega))]
  rfl
 |succ c ih=>
  intro i hi hj
  have e1:=hx i (by omega)
  have e2:=hy i (by omega)
  have e3:=hf i (by omega)
  rw[Ob.c] at e1 e2
  rw[za8,decide_eq_true (by omega),e1]
  dsimp only[zf,zg,zpj,zc]
  rw[e2]
  dsimp only[zf,zg,zpj]
  rw[e3]
  dsimp only[zf,zg,zpj,xc]
  cases hfi:f i with
  |true=>
   dsimp only[vN,zt]
   rw[ze (x:=(i:Int)+1) (by omega)]
   exact ih (i+1) (by omega) fun j h=>by
    rcases Nat.lt_or_ge j i with h1|h1
    ·exact hj j h1
    ·rw[show j=i by omega];exact hfi
  |false=>
   rw[show (List.range q).all f=false from by
    rw[Bool.eq_false_iff]
    intro h
    have:=List.all_eq_true.1 h i (List.mem_range.2 (by omega))
    rw[hfi] at this;cases this]
   rfl
theorem zce {l:List (List Int)} {D:Nat} {m:Int} {o:Ob} (h6:¬o.elem<6) (h:(xp (zH l D) l m o).2.2=0):∃ ks,(xp (zH l D) l m o).1=.mk 2 o.elem o.n [] ks/\ks.length=o.n.toNat/\∀ (j:Nat) (hj:j<ks.length),∃ m1,(if o.elem=6 then zH l D m1 o.seg (o.at_+j) else zV (zH l D) l m1 (yh o j)).2.2=0/\(if o.elem=6 then zH l D m1 o.seg (o.at_+j) else zV (zH l D) l m1 (yh o j)).1=ks[j]:=by
 unfold xp at h ⊢
 rw[if_neg h6] at h ⊢
 have hz:(zX (fun m (i:Nat)=>if o.elem=6 then zH l D m o.seg (o.at_+i) else zV (zH l D) l m (yh o i)) o.n.toNat 0 m []).2.2=0:=h
 obtain ⟨ks,e1,e2,e3⟩:=zb9 (G:=fun m (i:Nat)=>if o.elem=6 then zH l D m o.seg (o.at_+i) else zV (zH l D) l m (yh o i)) o.n.toNat 0 m [] hz
 refine ⟨ks,?_,e2,fun j hj=>?_⟩
 ·rw[Zp hz]
  dsimp only
  rw[e1,zpm]
 ·have:=e3 j hj
  rw[Nat.zero_add] at this
  exact this
theorem KZ {k e n:Int} (hk:k=2) (d:List Int) (ks:List Nd):zk (.mk k e n d ks)=.mk k e n d (ks.map zk):=by
 rw[zk,if_neg (by omega),yX]
theorem zj7 {a b:List Nd} {q:Nat} (ha:a.length=q) (hb:b.length=q):a=b↔∀ i,i<q->a.getD i nd0=b.getD i nd0:=by
 constructor
 ·intro h i _;rw[h]
 ·intro h
  apply List.ext_getElem (by omega)
  intro i h1 h2
  have:=h i (by omega)
  simp only[List.getD_eq_getElem?_getD,List.getElem?_eq_getElem h1,List.getElem?_eq_getElem h2,Option.getD_some] at this
  exact this
theorem zd9 (x:Nd):(zk x).n=x.n:=by
 cases x with
 |mk k e n d ks=>rw[zk];split<;>rfl
theorem zmm {o:Ob} (hk:o.kind=2) (h7:o.elem=6):(0<o.n->xj o=o.at_/\w9 o=o.n)/\(xj o=o.at_∨xj o=0):=by
 have hA:xj o=if 0<o.n then o.at_ else 0:=by
  unfold xj
  rw[if_neg (fun x=>absurd x.1 (by omega))]
  by_cases h:0<o.n
  ·rw[if_pos ⟨hk,h7,h⟩,if_pos h]
  ·rw[if_neg (fun x=>h x.2.2),if_neg h]
 have hN:w9 o=if 0<o.n then o.n else 0:=by
  unfold w9
  rw[if_neg (fun x=>absurd x.1 (by omega))]
  by_cases h:0<o.n
  ·rw[if_pos ⟨hk,h7,h⟩,if_pos h]
  ·rw[if_neg (fun x=>h x.2.2),if_neg h]
 rw[hA,hN]
 by_cases h:0<o.n
 ·rw[if_pos h,if_pos h];exact ⟨fun _=>⟨rfl,rfl⟩,.inl rfl⟩
 ·rw[if_neg h];exact ⟨fun h' => absurd h' h,.inr rfl⟩
theorem znl {la lb:List (List Int)} (hla:zF la) (hsa:Sm la) (hlb:zF lb) (hsb:Sm lb):∀ D,WL la lb D:=by
 have main:∀ D,(∀ D',D=D'+1->WL la lb D')->WL la lb D:=by
  intro D ih x y nx ny dx dy
  obtain ⟨a1,a2,a3⟩:=zaT dx
  obtain ⟨b1,b2,b3⟩:=zaT dy
  rw[Ob.c,Ob.c,zjz]
  by_cases hk:x.kind=y.kind
  ·by_cases he:x.elem=y.elem
   ·by_cases hn:x.n=y.n
    ·rw[show (x.kind != y.kind)=false from by simpa using hk,show (x.elem != y.elem)=false from by simpa using he,show (x.n != y.n)=false from by simpa using hn]
     dsimp only[zt]
     by_cases h0:x.kind=0
     ·rw[beq_iff_eq.2 h0]
      have nul:∀ {l:List (List Int)} {o:Ob} {n:Nd},Dn l D o n->o.kind=0->n=nd0:=fun {l o n} h hk0=>by
       rcases h with ⟨_,h⟩|⟨D',_,hok,_⟩
       ·exact h
       ·obtain ⟨_,_,_,_,_,_,hkk,_⟩:=hok;omega
      rw[nul dx h0,nul dy (by omega),wW rfl]
      rfl
     ·rw[beq_eq_false_iff_ne.2 h0]
      rcases dx with ⟨rfl,_⟩|⟨D',hD,okx,npx,_,m,zx,rfl⟩
      ·exact absurd rfl h0
      rcases dy with ⟨rfl,_⟩|⟨D'',hD',oky,npy,_,m',zy,rfl⟩
      ·exact absurd hk h0
      obtain rfl:D' = D'':=by omega
      have ih':=ih D' hD
      obtain ⟨hat,hdt,hq,hel,hnn,hc,hkk,hw,hz⟩:=id okx
      obtain ⟨hat',hdt',hq',hel',hnn',hc',hkk',hw',hz'⟩:=id oky
      unfold QO at zx zy ⊢
      dsimp only[zt]
      by_cases h1:x.kind=1
      ·rw[beq_iff_eq.2 h1]
       rw[if_pos h1] at zx ⊢
       rw[if_pos (show y.kind=1 by omega)] at zy ⊢
       have:=rV hla hsa hlb hsb ih' (x:=x) (y:=y) ⟨⟨hat.1,by omega⟩,hdt,hq⟩ ⟨⟨hat'.1,by omega⟩,hdt',hq'⟩ h1 (by omega) zx zy
       rw[Ob.c,Ob.c] at this
       dsimp only[zc]
       rw[this]
       rfl
      ·rw[beq_eq_false_iff_ne.2 h1]
       rw[if_neg h1] at zx ⊢
       rw[if_neg (show ¬y.kind=1 by omega)] at zy ⊢
       dsimp only[zt]
       by_cases h6:x.elem<6
       ·rw[beq_eq_false_iff_ne.2 (show x.elem≠7 by omega),beq_eq_false_iff_ne.2 (show x.elem≠6 by omega)]
        dsimp only[zt]
        have h6':y.elem<6:=by omega
        unfold xp
        rw[if_pos h6,if_pos h6']
        dsimp only
        have wx:=Qh hla x (n:=x.cost) (by omega)
        have wy:=Qh hlb y (n:=y.cost) (by omega)
        have lx:=vM la x.seg x.at_ x.cost
        have ly:=vM lb y.seg y.at_ y.cost
        have rx:=WX hnn (hw (by omega) h6) h6
        have ry:=WX hnn' (hw' (by omega) h6') h6'
        rw[KZ rfl,KZ rfl]
        rw[Ob.c] at wx wy
        rw[zjx,wx]
        dsimp only[zf,zg,zpj]
        rw[Yk _ (by omega)]
        dsimp only[zf,zg,zpj]
        rw[Qd hel hnn (xY _) rx]
        dsimp only[zf]
        rw[yN]
        dsimp only[zpj]
        rw[wy]
        dsimp only[zf,zg,zpj]
        rw[Yk _ (by omega)]
        dsimp only[zf,zg,zpj]
        rw[Qd hel' hnn' (xY _) ry]
        dsimp only[zf]
        rw[yN]
        dsimp only[zpj]
        rw[zfa (WE _ _ _ (xY _)) (WE _ _ _ (xY _))]
        dsimp only[zf,zg,zpj]
        refine congrArg (fun b=>ok (Bo b)) (qh ?_)
        rw[he,hn]
        simp
       ·obtain ⟨cx,e1,e2,e3⟩:=zce h6 zx
        obtain ⟨cy,f1,f2,f3⟩:=zce (show ¬y.elem<6 by omega) zy
        rw[e1,f1,KZ rfl,KZ rfl]
        have hlen:cx.length=cy.length:=by omega
        have hxn:x.n=((cx.length:Nat):Int):=by omega
        have fin:xh (cx.map zk) (cy.map zk)=xh (Nd.mk 2 x.elem x.n [] (cx.map zk)) (Nd.mk 2 y.elem y.n [] (cy.map zk)):=qh (by rw[he,hn];simp)
        have getx:∀ i,(h:i<cx.length)->cx.getD i nd0=cx[i]:=fun i h=>by rw[List.getD_eq_getElem?_getD,List.getElem?_eq_getElem h,Option.getD_some]
        have gety:∀ i,(h:i<cy.length)->cy.getD i nd0=cy[i]:=fun i h=>by rw[List.getD_eq_getElem?_getD,List.getElem?_eq_getElem h,Option.getD_some]
        have res:∀ {e:Option (Out×zh)},e=ok (Bo ((List.range cx.length).all fun i=>xh (zk (cx.getD i nd0)) (zk (cy.getD i nd0))))->e=ok (Bo (xh (cx.map zk) (cy.map zk))):=fun {e} h=>by
         rw[h]
         refine congrArg (fun b=>ok (Bo b)) (jy ?_)
         rw[jg,eqB_true,zj7 (q:=cx.length) (by simp) (by simp;omega)]
        rw[←fin]
        by_cases h7:x.elem=7
        ·rw[beq_iff_eq.2 h7]
         dsimp only[zc]
         have mul:∀ (o:Ob) (i:Nat),Zq la o∨Zq lb o->i<cx.length->0<=(i:Int)*(o.data+o.ptrs)/\(i:Int)*(o.data+o.ptrs)<=536870911*131070:=fun o i ho hi=>by
          have hd:0<=o.data/\o.data<=65535/\0<=o.ptrs/\o.ptrs<=65535:=by
           rcases ho with ho|ho
           ·obtain ⟨_,d,q,_⟩:=ho;omega
           ·obtain ⟨_,d,q,_⟩:=ho;omega
          exact WA (by omega) (by omega)
         have lp:=ziP (la:=la) (lb:=lb) (x:=x) (y:=y) (q:=cx.length) (by omega) (fun i=>xh (zk (cx.getD i nd0)) (zk (cy.getD i nd0))) (fun i hi=>by have:=mul x i (.inl okx) hi;exact Ji x i (by omega) (by omega) (by omega)) (fun i hi=>by have:=mul y i (.inr oky) hi;exact Ji y i (by omega) (by omega) (by omega)) (fun i hi=>by
          obtain ⟨m1,g1,g2⟩:=e3 i hi
          obtain ⟨m2,k1,k2⟩:=f3 i (by omega)
          rw[if_neg (by omega)] at g1 g2
          rw[if_neg (by omega)] at k1 k2
          have mx:=mul x i (.inl okx) hi
          have my:=mul y i (.inr oky) hi
          have:=rV hla hsa hlb hsb ih' (x:=yh x i) (y:=yh y i) ⟨⟨by dsimp only[yh];omega,by dsimp only[yh];omega⟩,hdt,hq⟩ ⟨⟨by dsimp only[yh];omega,by dsimp only[yh];omega⟩,hdt',hq'⟩ rfl rfl g1 k1
          rw[g2,k2] at this
          rw[getx i hi,gety i (by omega)]
          exact this) cx.length 0 (by omega) (fun j h=>absurd h (by omega))
         rw[zjw]
         conv=>lhs;rw[show X2 x.n 0=X2 ((cx.length:Nat):Int) ((0:Nat):Int) from by rw[hxn];rfl]
         rw[lp]
         exact res rfl
        ·have h66:x.elem=6:=by omega
         rw[beq_eq_false_iff_ne.2 h7,beq_iff_eq.2 h66]
         dsimp only[zc,zt]
         have hAx:∀ (o:Ob),o.kind=2->o.elem=6->(0<o.n->xj o=o.at_/\w9 o=o.n)/\(xj o=o.at_∨xj o=0):=fun o k e=>zmm k e
         have kx2:x.kind=2:=by omega
         have ky2:y.kind=2:=by omega
         obtain ⟨pa,pb⟩:=hAx x kx2 h66
         obtain ⟨qa,qb⟩:=hAx y ky2 (by omega)
         have lp:=rH (D:=D') hla hsa hlb hsb ih' (x:=x) (y:=y) ⟨hat.1,by omega⟩ hdt (by omega) ⟨hat'.1,by omega⟩ hdt' (by omega) (q:=cx.length) (by omega) (kx:=cx) (ky:=cy) (fun i hi=>by
          obtain ⟨m1,g1,g2⟩:=e3 i hi
          rw[if_pos h66] at g1 g2
          obtain ⟨p1,p2⟩:=pa (by omega)
          rw[getx i hi,←g2]
          unfold vO
          rw[p1,p2,if_neg (by omega)]
          exact QQ hla hsa g1) (fun i hi=>by
          obtain ⟨m1,g1,g2⟩:=f3 i (by omega)
          rw[if_pos (show y.elem=6 by omega)] at g1 g2
          obtain ⟨p1,p2⟩:=qa (by omega)
          rw[gety i (by omega),←g2]
          unfold vO
          rw[p1,p2,if_neg (by omega)]
          exact QQ hlb hsb g1)
         rw[←hxn,Ob.c,Ob.c] at lp
         rw[lp]
         exact res rfl
    ·rw[show (x.kind != y.kind)=false from by simpa using hk,show (x.elem != y.elem)=false from by simpa using he,show (x.n != y.n)=true from by simpa using hn,wV (fun h=>hn (by have:=congrArg Nd.n h;rw[zd9,zd9] at this;omega))]
     rfl
   ·rw[show (x.kind != y.kind)=false from by simpa using hk,show (x.elem != y.elem)=true from by simpa using he,wV (fun h=>he (by have:=congrArg Nd.elem h;rw[uM,uM] at this;omega))]
    rfl
  ·rw[show (x.kind != y.kind)=true from by simpa using hk,wV (fun h=>hk (by have:=congrArg Nd.kind h;rw[YT,YT] at this;omega))]
   rfl
 intro D
 induction D with
 |zero=>exact main 0 fun D' h=>absurd h (by omega)
 |succ D ih=>exact main (D+1) fun D' h=>by rw[show D' = D by omega];exact ih
def VO (l:List (List Int)):Ob:=if (yq l 0).length=0 then wY else (yz l 0 0).1
theorem rT {l:List (List Int)} (hl:zF l) (hs:Sm l) (h0:0<l.length):ev 112 [.pv (.sl 1 (zA l))] []=ok (.agg (VO l).c):=by
 rw[zjB,decide_eq_true (show 0<((zA l).length:Int) by rw[ZH];omega),KO h0]
 dsimp only[zpj,vd,zph,yG,zc]
 unfold VO
 by_cases he:(yq l 0).length=0
 ·rw[yt,he,if_pos rfl];rfl
 ·rw[yt,beq_eq_false_iff_ne.2 (show ((yq l 0).length:Int)≠0 by omega),if_neg he,Jn hl hs]
  rfl
theorem zdd {l:List (List Int)} (hl:zF l) (hs:Sm l) {d w:Int} (h:(runT l d w).2.2=0):0<l.length/\Dn l d.toNat (VO l) (runT l d w).1:=by
 by_cases he:XW l
 ·refine ⟨he.1,?_⟩
  rw[runT,if_pos he]
  exact .inl ⟨by unfold VO;rw[if_pos he.2],rfl⟩
 ·have e1:runT l d w=zH l d.toNat (max w 0) 0 0:=by rw[runT,if_neg he]
  rw[e1] at h ⊢
  have hpos:0<l.length:=by
   by_cases h0:0<l.length
   ·exact h0
   ·exfalso
    have hf:(zY l 0 0).2.2.2=2:=by
     unfold zY
     rw[if_neg (by unfold inB;omega)]
    rw[Yw (by rw[hf];decide),hf] at h
    exact absurd h (by show ¬((2:Int)=0);decide)
  refine ⟨hpos,?_⟩
  unfold VO
  rw[if_neg (fun h' => he ⟨hpos,h'⟩)]
  exact QQ hl hs h
def cE (la lb:List (List Int)) (d w:Int):Int:=if yF la d w=0 then yF lb d w else yF la d w
noncomputable def cB (la lb:List (List Int)) (d w:Int):Bool:=if cE la lb d w=0 then xh (yJ la d w) (yJ lb d w) else false
theorem XA {la lb:List (List Int)} (hla:zF la) (hsa:Sm la) (hlb:zF lb) (hsb:Sm lb) {d w b:Int} (hd:d<=1099511627775) (hw:w<=4611686018427387904):ev 60 [.pv (.sl 1 (zA la)),.pv (.sl 1 (zA lb)),.pv (.agg [I d,I w,I b])] []=ok (.tup [Bo (cB la lb d w),I (cE la lb d w)]):=by
 rw[zjt,zjs,show decide ((0:Int)<2)=true from rfl,show (decide ((0:Int)<=0)&&decide ((0:Int)<(([.sl 1 (zA la),.sl 1 (zA lb)]:List PV).length:Int)))=true from rfl,show ([.sl 1 (zA la),.sl 1 (zA lb)]:List PV)[(0:Int).toNat]? = some (.sl 1 (zA la)) from rfl]
 dsimp only[zpj,vd,zph,zc]
 rw[Jl hla hsa hd hw]
 dsimp only[zf,zg,zpj,zO,zpi,zph,zK]
 unfold cB cE
 by_cases ha:yF la d w=0
 ·rw[ha,show ((0:Int) != 0)=false from rfl,if_pos rfl]
  dsimp only[zt]
  rw[show IntKind.wrap .i64 (0+1)=1 from rfl,za6,show decide ((1:Int)<2)=true from rfl,show (decide ((0:Int)<=1)&&decide ((1:Int)<(([.sl 1 (zA la),.sl 1 (zA lb)]:List PV).length:Int)))=true from rfl,show ([.sl 1 (zA la),.sl 1 (zA lb)]:List PV)[(1:Int).toNat]? = some (.sl 1 (zA lb)) from rfl]
  dsimp only[zpj,vd,zph,zc]
  rw[Jl hlb hsb hd hw]
  dsimp only[zf,zg,zpj,zO,zpi,zph,zK]
  by_cases hb:yF lb d w=0
  ·obtain ⟨pa,da⟩:=zdd hla hsa ha
   obtain ⟨pb,db⟩:=zdd hlb hsb hb
   rw[hb,show ((0:Int) != 0)=false from rfl,if_pos rfl]
   dsimp only[zt]
   rw[show IntKind.wrap .i64 (1+1)=2 from rfl,za6,show decide ((2:Int)<2)=false from rfl,rT hla hsa pa]
   dsimp only[zf,zg,zpj,zt]
   rw[rT hlb hsb pb]
   dsimp only[zf,zg,zpj]
   have hs:=znl hla hsa hlb hsb d.toNat _ _ _ _ da db
   rw[hs,yJ,yJ,if_pos (show (runT la d w).2.2=0 from ha),if_pos (show (runT lb d w).2.2=0 from hb)]
   rfl
  ·rw[xC hb,if_neg hb]
   rfl
 ·rw[xC ha,if_neg ha,if_neg ha]
  rfl
theorem uD {l:List (List Int)} (h:∀ s∈l,s.length<=300) (hw:∀ s∈l,∀ x∈s,zG x) (hn:l.length<=20):zF l/\Sm l:=by
 refine ⟨⟨by omega,fun s hs=>⟨by have:=h s hs;omega,hw s hs⟩⟩,zdB fun j hj=>?_⟩
 unfold yq
 rw[Int.toNat_natCast,List.getD_eq_getElem?_getD,List.getElem?_eq_getElem hj]
 exact h _ (List.getElem_mem hj)
theorem g1:zF [[4294967292]]/\Sm [[4294967292]]:=vQ (by decide) (by intro x hx;simp at hx;unfold zG;omega)
theorem g2:zF [[4294967296,0]]/\Sm [[4294967296,0]]:=vQ (by decide) (by intro x hx;simp at hx;unfold zG;omega)
theorem g3:zF [[0]]/\Sm [[0]]:=vQ (by decide) (by intro x hx;simp at hx;unfold zG;omega)
theorem g4:zF [[3]]/\Sm [[3]]:=vQ (by decide) (by intro x hx;simp at hx;unfold zG;omega)
theorem g5:zF [[7]]/\Sm [[7]]:=vQ (by decide) (by intro x hx;simp at hx;unfold zG;omega)
theorem g6:zF [[4294967298],[4294967296,5]]/\Sm [[4294967298],[4294967296,5]]:=uD (by intro s hs;simp at hs;rcases hs with rfl|rfl<;>decide) (by intro s hs x hx;simp at hs;unfold zG;rcases hs with rfl|rfl<;>(simp at hx;omega)) (by decide)
theorem g7:zF [[8589934596,9,5,0]]/\Sm [[8589934596,9,5,0]]:=vQ (by decide) (by intro x hx;simp at hx;unfold zG;omega)
theorem JM {la lb:List (List Int)} {d w:Int} {b:Bool} (h:cE la lb d w=0) (hb:xh (yJ la d w) (yJ lb d w)=b):ok (.tup [Bo (cB la lb d w),I (cE la lb d w)])=ok (.tup [Bo b,I 0]):=by rw[cB,if_pos h,h,hb]
theorem jI {la lb:List (List Int)} {d w e:Int} (h:cE la lb d w=e) (he:e≠0):ok (.tup [Bo (cB la lb d w),I (cE la lb d w)])=ok (.tup [Bo false,I e]):=by rw[cB,if_neg (by rw[h];exact he),h]
theorem x1:ev 60 [.pv (.sl 1 [.sl 1 [U 4294967292]]),.pv (.sl 1 [.sl 1 [U 4294967296,U 0]]),.pv (.agg [I 5,I 50,I 0])] []=ok (.tup [Bo true,I 0]):=by
 have h:=XA g1.1 g1.2 g2.1 g2.2 (d:=5) (w:=50) (b:=0) (by decide) (by decide)
 exact h.trans (JM (by kernel_rfl) (wW (by kernel_rfl)))
theorem x2:ev 60 [.pv (.sl 1 [.sl 1 [U 4294967292]]),.pv (.sl 1 [.sl 1 [U 0]]),.pv (.agg [I 5,I 50,I 0])] []=ok (.tup [Bo false,I 0]):=by
 have h:=XA g1.1 g1.2 g3.1 g3.2 (d:=5) (w:=50) (b:=0) (by decide) (by decide)
 have k1:(yJ [[4294967292]] 5 50).kind=1:=by kernel_rfl
 have k2:(yJ [[0]] 5 50).kind=0:=by kernel_rfl
 exact h.trans (JM (by kernel_rfl) (wV (fun e=>by rw[e,k2] at k1;exact absurd k1 (by decide))))
theorem x3:ev 60 [.pv (.sl 1 [.sl 1 [U 0]]),.pv (.sl 1 [.sl 1 [U 3]]),.pv (.agg [I 5,I 50,I 0])] []=ok (.tup [Bo false,I 6]):=by
 have h:=XA g3.1 g3.2 g4.1 g4.2 (d:=5) (w:=50) (b:=0) (by decide) (by decide)
 exact h.trans (jI (by kernel_rfl) (by decide))
theorem x4:ev 60 [.pv (.sl 1 [.sl 1 [U 7]]),.pv (.sl 1 [.sl 1 [U 3]]),.pv (.agg [I 5,I 50,I 0])] []=ok (.tup [Bo false,I 4]):=by
 have h:=XA g5.1 g5.2 g4.1 g4.2 (d:=5) (w:=50) (b:=0) (by decide) (by decide)
 exact h.trans (jI (by kernel_rfl) (by decide))
theorem x5:ev 60 [.pv (.sl 1 [.sl 1 [U 4294967298],.sl 1 [U 4294967296,U 5]]),.pv (.sl 1 [.sl 1 [U 8589934596,U 9,U 5,U 0]]),.pv (.agg [I 5,I 50,I 0])] []=ok (.tup [Bo true,I 0]):=by
 have h:=XA g6.1 g6.2 g7.1 g7.2 (d:=5) (w:=50) (b:=0) (by decide) (by decide)
 exact h.trans (JM (by kernel_rfl) (wW (by kernel_rfl)))
theorem x6:ev 237 [.pv (.sl 1 [U 5,U 0]),.pv (.sl 1 [U 5])] []=ok (Bo true):=by
 have h:=V8 (a:=[5,0]) (b:=[5]) (by decide) (by decide)
 exact h.trans (by rw[wW (by kernel_rfl)])
theorem x7:ev 237 [.pv (.sl 1 [U 5,U 1]),.pv (.sl 1 [U 5])] []=ok (Bo false):=by
 have h:=V8 (a:=[5,1]) (b:=[5]) (by decide) (by decide)
 exact h.trans (by rw[wV (by decide)])
theorem x8:ev 237 [.pv (.sl 1 []),.pv (.sl 1 [U 0])] []=ok (Bo true):=by
 have h:=V8 (a:=[]) (b:=[0]) (by decide) (by decide)
 exact h.trans (by rw[wW (by kernel_rfl)])
theorem k1:zF [[8589934596,99,5,0]]/\Sm [[8589934596,99,5,0]]:=vQ (by decide) (by intro x hx;simp at hx;unfold zG;omega)
theorem k2:zF [[4294967298],[4294967296,5]]/\Sm [[4294967298],[4294967296,5]]:=uD (by intro s hs;simp at hs;rcases hs with rfl|rfl<;>decide) (by intro s hs x hx;simp at hs;unfold zG;rcases hs with rfl|rfl<;>(simp at hx;omega)) (by decide)
theorem k3:zF [[3]]/\Sm [[3]]:=vQ (by decide) (by intro x hx;simp at hx;unfold zG;omega)
theorem k4:zF [[]]/\Sm [[]]:=vQ (by decide) (by intro x hx;cases hx)
theorem zhp {l:List (List Int)} (hl:zF l) (hs:Sm l) {d w:Int} (hw:w<=134217728):(yW l d w).length<=17592186044416:=by
 unfold yW
 split
 ·rename_i h0
  obtain ⟨ho,hb,_⟩:=ZZ hl hs hw h0
  have:=Y4 ho
  omega
 ·simp
theorem jQ {l:List (List Int)} (hl:zF l) (hs:Sm l) {d w:Int} (hw:w<=134217728) (h0:yF l d w=0):zF [yW l d w]/\Sm [yW l d w]/\yF [yW l d w] d w=0/\yJ [yW l d w] d w=yJ l d w/\xM [yW l d w] d w<=xM l d w/\yW [yW l d w] d w=yW l d w/\((yW l d w).length:Int)=zI d.toNat (yJ l d w)+1/\zI d.toNat (yJ l d w)<=xM l d w:=by
 obtain ⟨ho,hb,hx⟩:=ZZ hl hs hw h0
 obtain ⟨_,hc⟩:=zcm hl hs (show w<=4611686018427387904 by omega) (show (runT l d w).2.2=0 from h0)
 have e3:yW l d w=yH d.toNat (yJ l d w):=by unfold yW;rw[if_pos h0]
 obtain ⟨m1,m2,m3⟩:=JQ ho hb (d:=d) (w:=w) rfl hx
 have hle:=qJ d.toNat ho.vn ho.dp
 rw[e3]
 refine ⟨zhq ho (by omega),zhr ho (by omega),m1,m2,by rw[m3];exact hc,?_,Y4 ho,by omega⟩
 unfold yW
 rw[if_pos m1,m2]
end Go.Proofs.YtjbjeeoifhegfaaGreatDoor.E
