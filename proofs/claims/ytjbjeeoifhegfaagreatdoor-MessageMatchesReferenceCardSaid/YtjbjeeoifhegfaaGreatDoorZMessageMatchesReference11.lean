/- A part of the proof of the law MessageMatchesReference, as its statement says it: for every input; its conditions are the statement's own. -/
import Derived.Test.YtjbjeeoifhegfaaGreatDoorZMessageMatchesReference1
import Derived.Test.YtjbjeeoifhegfaaGreatDoorZMessageMatchesReference2
import Derived.Test.YtjbjeeoifhegfaaGreatDoorZMessageMatchesReference3
import Derived.Test.YtjbjeeoifhegfaaGreatDoorZMessageMatchesReference4
import Derived.Test.YtjbjeeoifhegfaaGreatDoorZMessageMatchesReference5
import Derived.Test.YtjbjeeoifhegfaaGreatDoorZMessageMatchesReference6
import Derived.Test.YtjbjeeoifhegfaaGreatDoorZMessageMatchesReference7
import Derived.Test.YtjbjeeoifhegfaaGreatDoorZMessageMatchesReference8
import Derived.Test.YtjbjeeoifhegfaaGreatDoorZMessageMatchesReference9
import Derived.Test.YtjbjeeoifhegfaaGreatDoorZMessageMatchesReference10
set_option linter.unusedVariables false
set_option linter.unusedSimpArgs false
open List renaming getElem?_eq_getElem->zqF
open List renaming length_map->zqH
open List renaming mem_cons_of_mem->zqI
open List renaming mem_cons_self->zqJ
open Int renaming toNat_natCast->zqK
open List renaming length_replicate->zqM
open List renaming length_take->zqN
open List renaming getElem?_cons_zero->zqP
open List renaming getElem?_cons_succ->zqQ
open Option renaming bind_some->zqR
open List renaming length_append->zqS
open List renaming length_cons->zqT
open List renaming nil_append->zqU
namespace Go.Proofs.YtjbjeeoifhegfaaGreatDoor.E
theorem uB:∀ (D:Nat) {x:Nd},VN x->Dp D x->zM D x<=yz D x
 |0,x,hv,hd=>by
  have h0:x.kind=0:=hd
  rw[Wj hv h0]
  exact Int.le_refl _
 |D+1,x,hv,hd=>by
  by_cases h0:x.kind=0
  ·rw[Wj hv h0]
   exact XV (D+1) hv
  ·have hd':=(hd.resolve_left h0).2
   rw[zM,yz,if_neg h0]
   have h1:yG x<=vt x:=by
    unfold vt
    split
    ·rename_i h
     obtain ⟨hs,_⟩:=wB hv
     rcases hs with hs|hs|hs<;>omega
    ·omega
   have h2:∀ l:List Nd,(∀ t∈l,zM D t<=yz D t)->zt (l.map (zM D))<=zt (l.map (yz D)):=by
    intro l
    induction l with
    |nil=>intro _;exact Int.le_refl _
    |cons t l ih=>
     intro h
     rw[List.map_cons,List.map_cons,wI,wI]
     have:=h t zqJ
     have:=ih fun x hx=>h x (zqI _ hx)
     omega
   have:=h2 (yi x) fun t ht=>uB D (Z6 hv t ht) (hd' t ht)
   omega
theorem KO {C:Nd->Int} {G:Int->Nat->Nd×Int×Int} {Q:Nd->Prop}:∀ (c i:Nat) (m:Int) (acc:List Nd),(∀ m j,i<=j->j<i+c->(G m j).2.2=0->C (G m j).1<=m-(G m j).2.1/\Q (G m j).1)->(z6 G c i m acc).2.2=0->
  ∃ ys,(z6 G c i m acc).1=acc++ys/\ys.length=c/\zt (ys.map C)<=m-(z6 G c i m acc).2.1/\∀ y∈ys,Q y
 |0,i,m,acc,h,h0=>⟨[],by simp[z6],rfl,by simp[z6,vf],fun y hy=>by cases hy⟩
 |c+1,i,m,acc,h,h0=>by
  rw[z6] at h0 ⊢
  by_cases e:(G m i).2.2=0
  ·rw[if_pos e] at h0 ⊢
   obtain ⟨ys,k1,k2,k3,k4⟩:=KO c (i+1) _ _ (fun m j q1 q2=>h m j (by omega) (by omega)) h0
   obtain ⟨g1,g2⟩:=h m i (Nat.le_refl _) (by omega) e
   refine ⟨(G m i).1::ys,by rw[k1];simp,by simp[k2],?_,fun y hy=>?_⟩
   ·rw[List.map_cons,wI];omega
   ·rcases List.mem_cons.1 hy with rfl|hy
    ·exact g2
    ·exact k4 y hy
  ·rw[if_neg e] at h0
   exact absurd h0 e
theorem gC {c:Nd->Int}:∀ (l:List Nd) (n:Nat),(∀ x∈l,0<=c x)->zt ((l.take n).map c)<=zt (l.map c)
 |[],n,_=>by simp
 |x::l,0,h=>by
  rw[List.take_zero,List.map_nil,vf]
  exact wJ fun y hy=>by
   obtain ⟨t,ht,rfl⟩:=List.mem_map.1 hy
   exact h t ht
 |x::l,n+1,h=>by
  rw[List.take_succ_cons,List.map_cons,List.map_cons,wI,wI]
  have:=gC l n fun y hy=>h y (zqI _ hy)
  omega
def rT (D:Nat) (F:Int->Int->Int->Nd×Int×Int):Prop:=∀ m s a,(F m s a).2.2=0->yz D (zg (F m s a).1)<=m-(F m s a).2.1/\VN (F m s a).1
theorem zeK {D:Nat} {F:Int->Int->Int->Nd×Int×Int} (h:rT D F) (l:List (List Int)) (m:Int) {o:Ob} (hd:0<=o.data) (hz:(zV F l m o).2.2=0) :
  ∃ d ks,(zV F l m o).1=.mk 1 0 0 d ks/\d.length<=8*o.data.toNat/\ks.length=o.ptrs.toNat/\zt ((ks.map zg).map (yz D))<=m-(zV F l m o).2.1/\(∀ y∈ks,VN y)/\((zV F l m o).2.1=(zV F l m o).2.1):=by
 unfold zV at hz ⊢
 have hz':(z6 (fun m (i:Nat)=>F m o.seg (o.at_+o.data+i)) o.ptrs.toNat 0 m []).2.2=0:=hz
 obtain ⟨ys,k1,k2,k3,k4⟩:=KO (C:=fun x=>yz D (zg x)) (Q:=VN) o.ptrs.toNat 0 m [] (fun m j _ _ h0=>h m o.seg (o.at_+o.data+j) h0) hz'
 rw[ZO hz']
 have hcl:=Zh l o.seg o.at_ o.data
 refine ⟨_,_,rfl,by rw[yT];omega,by rw[k1,zqU,k2],?_,fun y hy=>k4 y (by rw[k1,zqU] at hy;exact hy),rfl⟩
 rw[k1,zqU,List.map_map]
 exact k3
theorem gK (d:List Int) (ks:List Nd):zg (.mk 1 0 0 d ks)=.mk 1 0 0 (d.take (8*yo d)) ((ks.map zg).take (yk ks)):=by rw[zg,if_pos rfl,yY]
theorem zmD {l:List (List Int)} (hl:zN l) (hs:Sm l) {s a:Int} (h0:(ya l s a).1≠0) (hf:(ya l s a).2.2.2=0) (he:(yA l s a).2=0) :
  ((yA l s a).1.kind=1->(yA l s a).1.data+(yA l s a).1.ptrs<=(yA l s a).1.cost)/\((yA l s a).1.kind=2->(yA l s a).1.elem≠7->zn (yA l s a).1.elem (yA l s a).1.n<=(yA l s a).1.cost)/\
  ((yA l s a).1.kind=2->(yA l s a).1.elem=7->1+(yA l s a).1.n*((yA l s a).1.data+(yA l s a).1.ptrs)<=(yA l s a).1.cost/\((yA l s a).1.data+(yA l s a).1.ptrs=0->1+(yA l s a).1.n<=(yA l s a).1.cost)):=by
 have hd:=wF (VE hl s a)
 unfold yA at he ⊢
 rw[if_pos hf,if_neg h0] at he ⊢
 unfold wU at he ⊢
 generalize zk (ya l s a).1=p at he hd ⊢
 by_cases k0:p.1=0
 ·rw[if_pos k0] at he ⊢
  unfold wA at he ⊢
  by_cases hb:inB l (ya l s a).2.1 ((ya l s a).2.2.1+p.2.1) (p.2.2.1+p.2.2.2.1)
  ·rw[if_pos hb]
   exact ⟨fun _=>by dsimp only;omega,fun h=>absurd h (by dsimp only;omega),fun h=>absurd h (by dsimp only;omega)⟩
  ·rw[if_neg hb] at he;exact wO he (by decide)
 ·rw[if_neg k0] at he ⊢
  by_cases k1:p.1=1
  ·rw[if_pos k1] at he ⊢
   unfold xi at he ⊢
   by_cases h7:p.2.2.2.2.1=7
   ·rw[if_pos h7] at he ⊢
    unfold wn at he ⊢
    by_cases hb:inB l (ya l s a).2.1 ((ya l s a).2.2.1+p.2.1) (p.2.2.2.2.2.1+1)
    ·rw[if_pos hb] at he ⊢
     split at he
     ·rename_i hk
      rw[if_pos hk]
      refine ⟨fun h=>absurd h (by dsimp only;omega),fun _ h=>absurd rfl h,fun _ _=>⟨?_,fun h=>?_⟩⟩
      ·have:=hk.2.1
       have:=hk.2.2
       dsimp only
       split<;>omega
      ·dsimp only at h ⊢
       rw[if_pos h]
       omega
     ·exact wO he (by decide)
    ·rw[if_neg hb] at he;exact wO he (by decide)
   ·rw[if_neg h7] at he ⊢
    by_cases hb:inB l (ya l s a).2.1 ((ya l s a).2.2.1+p.2.1) (zn p.2.2.2.2.1 p.2.2.2.2.2.1)
    ·rw[if_pos hb]
     exact ⟨fun h=>absurd h (by dsimp only;omega),fun _ _=>by dsimp only;omega,fun _ h=>absurd h h7⟩
    ·rw[if_neg hb] at he;exact wO he (by decide)
  ·rw[if_neg k1] at he
   split at he
   ·exact wO he (by decide)
   ·exact wO he (by decide)
theorem zkp {l:List (List Int)} (hl:zN l) (hs:Sm l):∀ D,rT D (zR l D):=by
 intro D
 induction D with
 |zero=>
  intro m s a hz
  unfold zR at hz ⊢
  by_cases h1:(ya l s a).2.2.2=0
  ·rw[if_pos h1] at hz ⊢
   by_cases h2:(ya l s a).1=0
   ·rw[if_pos h2]
    exact ⟨by show 0<=m-m;omega,WF⟩
   ·rw[if_neg h2] at hz;exact absurd hz (show ¬(7:Int)=0 by decide)
  ·rw[if_neg h1] at hz;exact absurd hz h1
 |succ D ih=>
  intro m s a hz
  refine ⟨?_,(Vu hl hs (D+1) m s a hz).1⟩
  rw[zR] at hz ⊢
  dsimp only at hz ⊢
  by_cases h1:(ya l s a).2.2.2=0
  ·rw[if_pos h1] at hz ⊢
   by_cases h2:(ya l s a).1=0
   ·rw[if_pos h2]
    show yz (D+1) (zg nd0)<=m-m
    rw[YZ,yz]
    show (if (0:Int)=0 then 0 else _)<=_
    rw[if_pos rfl]
    omega
   ·rw[if_neg h2] at hz ⊢
    unfold yQ at hz ⊢
    by_cases h3:(yA l s a).2=0
    ·rw[if_pos h3] at hz ⊢
     have ho:=Xk hl hs h2 h1 h3
     have hi:=zmD hl hs h2 h1 h3
     generalize (yA l s a).1=o at hz ho hi ⊢
     by_cases h4:o.cost>m
     ·rw[if_pos h4] at hz;exact absurd hz (show ¬(8:Int)=0 by decide)
     ·rw[if_neg h4] at hz ⊢
      obtain ⟨hat,hd,hq,hel,hn,hco,hk,hw,hzz⟩:=ho
      by_cases k1:o.kind=1
      ·rw[if_pos k1] at hz ⊢
       obtain ⟨d,ks,e1,e2,e3,e4,e5,_⟩:=zeK ih l (m-o.cost) hd.1 hz
       rw[e1,gK,yz]
       show (if (1:Int)=0 then 0 else vt (.mk 1 0 0 (d.take (8*yo d)) ((ks.map zg).take (yk ks)))+zt (((ks.map zg).take (yk ks)).map (yz D)))<=_
       rw[if_neg (by decide),Wl,if_neg (fun h=>absurd h.1 (by decide))]
       have e6:yG (.mk 1 0 0 (d.take (8*yo d)) ((ks.map zg).take (yk ks)))=(((d.take (8*yo d)).length/8+((ks.map zg).take (yk ks)).length:Nat):Int):=rfl
       have e7:=gC (c:=yz D) (ks.map zg) (yk ks) (fun x hx=>by
        obtain ⟨y,hy,rfl⟩:=List.mem_map.1 hx
        exact XV D (WG y (e5 y hy)))
       rw[e6,zqN,zqN,zqH]
       have:=hi.1 k1
       omega
      ·have k2:o.kind=2:=by omega
       rw[if_neg k1] at hz ⊢
       unfold xl at hz ⊢
       by_cases h6:o.elem<6
       ·rw[if_pos h6]
        show yz (D+1) (zg (.mk 2 o.elem o.n _ []))<=m-(m-o.cost)
        rw[zg,if_neg (by decide),yz]
        show (if (2:Int)=0 then 0 else vt (.mk 2 o.elem o.n _ [])+zt ((yi (.mk 2 o.elem o.n _ [])).map (yz D)))<=_
        rw[if_neg (by decide),Wl,if_neg (fun h=>by omega),gG,if_neg (fun h=>by omega)]
        have e6:∀ d,yG (.mk 2 o.elem o.n d [])=zn o.elem o.n:=fun d=>by
         unfold yG
         show (if (2:Int)=0 then 0 else if (2:Int)=1 then _ else if o.elem=7 then _ else zn o.elem o.n)=_
         rw[if_neg (by decide),if_neg (by decide),if_neg (by omega)]
        show yG (.mk 2 o.elem o.n _ [])+0+0<=_
        rw[e6,←(hw k2 h6).2]
        omega
       ·rw[if_neg h6] at hz ⊢
        have hz':(z6 (fun m (i:Nat)=>if o.elem=6 then zR l D m o.seg (o.at_+i) else zV (zR l D) l m (ye o i)) o.n.toNat 0 (m-o.cost) []).2.2=0:=hz
        rw[ZO hz']
        by_cases e6:o.elem=6
        ·obtain ⟨ys,q1,q2,q3,q4⟩:=KO (C:=fun x=>yz D (zg x)) (Q:=VN) o.n.toNat 0 (m-o.cost) [] (fun m j _ _ h0=>by
          rw[if_pos e6] at h0 ⊢
          exact ih _ _ _ h0) hz'
         generalize z6 (fun m (i:Nat)=>if o.elem=6 then zR l D m o.seg (o.at_+i) else zV (zR l D) l m (ye o i)) o.n.toNat 0 (m-o.cost) []=K at q1 q3 ⊢
         show yz (D+1) (zg (.mk 2 o.elem o.n [] K.1))<=m-K.2.1
         rw[q1,zqU,zg,if_neg (by decide),yY,yz]
         show (if (2:Int)=0 then 0 else vt (.mk 2 o.elem o.n [] (ys.map zg))+zt ((yi (.mk 2 o.elem o.n [] (ys.map zg))).map (yz D)))<=_
         rw[if_neg (by decide),Wl,if_neg (fun h=>by omega),gG,if_neg (fun h=>by omega)]
         have e7:yG (.mk 2 o.elem o.n [] (ys.map zg))=zn o.elem o.n:=by
          unfold yG
          show (if (2:Int)=0 then 0 else if (2:Int)=1 then _ else if o.elem=7 then _ else zn o.elem o.n)=_
          rw[if_neg (by decide),if_neg (by decide),if_neg (by omega)]
         have:=hi.2.1 k2 (by omega)
         rw[e7,List.map_map]
         have q3':zt (ys.map (yz D∘zg))<=m-o.cost-K.2.1:=q3
         omega
        ·have e7:o.elem=7:=by omega
         obtain ⟨ys,q1,q2,q3,q4⟩:=KO (C:=fun x=>zt ((zg x).kids.map (yz D))) (Q:=fun x=>(zg x).data.length/8<=o.data.toNat/\(zg x).kids.length<=o.ptrs.toNat) o.n.toNat 0 (m-o.cost) [] (fun m j _ _ h0=>by
          rw[if_neg e6] at h0 ⊢
          obtain ⟨d,ks,g1,g2,g3,g4,g5,_⟩:=zeK ih l m (o:=ye o j) hd.1 h0
          have g6:=gC (c:=yz D) (ks.map zg) (yk ks) (fun x hx=>by
           obtain ⟨y,hy,rfl⟩:=List.mem_map.1 hx
           exact XV D (WG y (g5 y hy)))
          rw[g1,gK]
          refine ⟨?_,?_,?_⟩
          ·show zt (((ks.map zg).take (yk ks)).map (yz D))<=_
           omega
          ·show (d.take (8*yo d)).length/8<=_
           have g2':d.length<=8*o.data.toNat:=g2
           rw[zqN]
           omega
          ·show ((ks.map zg).take (yk ks)).length<=_
           have g3':ks.length=o.ptrs.toNat:=g3
           rw[zqN,zqH]
           omega) hz'
         generalize z6 (fun m (i:Nat)=>if o.elem=6 then zR l D m o.seg (o.at_+i) else zV (zR l D) l m (ye o i)) o.n.toNat 0 (m-o.cost) []=K at q1 q3 ⊢
         show yz (D+1) (zg (.mk 2 o.elem o.n [] K.1))<=m-K.2.1
         rw[q1,zqU,zg,if_neg (by decide),yY,yz]
         show (if (2:Int)=0 then 0 else vt (.mk 2 o.elem o.n [] (ys.map zg))+zt ((yi (.mk 2 o.elem o.n [] (ys.map zg))).map (yz D)))<=_
         rw[if_neg (by decide),Wl,show yi (.mk 2 o.elem o.n [] (ys.map zg))=(ys.map zg).flatMap Nd.kids from if_pos ⟨rfl,e7⟩,V5,List.map_map]
         have e8:yG (.mk 2 o.elem o.n [] (ys.map zg))=1+o.n*((zm (ys.map zg)+zo (ys.map zg):Nat):Int):=by
          unfold yG
          show (if (2:Int)=0 then 0 else if (2:Int)=1 then _ else if o.elem=7 then 1+o.n*((zm (ys.map zg)+zo (ys.map zg):Nat):Int) else _)=_
          rw[if_neg (by decide),if_neg (by decide),if_pos e7]
         have u1:zm (ys.map zg)<=o.data.toNat:=Yu fun x hx=>by
          obtain ⟨y,hy,rfl⟩:=List.mem_map.1 hx
          exact (q4 y hy).1
         have u2:zo (ys.map zg)<=o.ptrs.toNat:=Yv fun x hx=>by
          obtain ⟨y,hy,rfl⟩:=List.mem_map.1 hx
          exact (q4 y hy).2
         have hc7:=hi.2.2 k2 e7
         have hmul:o.n*((zm (ys.map zg)+zo (ys.map zg):Nat):Int)<=o.n*(o.data+o.ptrs):=Int.mul_le_mul_of_nonneg_left (by omega) hn.1
         rw[e8]
         have q3':zt (ys.map ((fun k=>zt (k.kids.map (yz D)))∘zg))<=m-o.cost-K.2.1:=q3
         split
         ·rename_i hu
          rw[hu.2.2]
          have:o.n<=o.n*(o.data+o.ptrs)∨o.data+o.ptrs=0:=by
           by_cases hz0:o.data+o.ptrs=0
           ·exact .inr hz0
           ·left
            have:=Int.mul_le_mul_of_nonneg_left (show (1:Int)<=o.data+o.ptrs by omega) hn.1
            omega
          rcases this with h|h
          ·simp only[Int.natCast_zero,Int.mul_zero]
           have:=hc7.1
           omega
          ·have:=hc7.2 h
           simp only[Int.natCast_zero,Int.mul_zero]
           omega
         ·have:=hc7.1
          omega
    ·rw[if_neg h3] at hz;exact absurd hz h3
  ·rw[if_neg h1] at hz;exact absurd hz h1
def vh (s:Int):ze:=[[.pv (I s)],[.clo (.func 261) [] [.ptr 0 0,.ptr 1 0]]]
theorem gO:Yn (.func 261) [] [.ptr 0 0,.ptr 1 0] (.clo (.func 261) [] [.ptr 0 0,.ptr 1 0])=true:=rfl
theorem uh (a b:List AV):decide ([a,b].length=2)=true:=rfl
def WV (D:Nat) (t:Nd):Prop:=∀ s:Int,0<=s->s+zM D t<=4611686018427387904->ev 261 [.pv t.x,.ptr 0 0,.ptr 1 0] (vh s)=some (.ret (.pv (.tup [])),vh (s+zM D t))
theorem wm:∀ (D:Nat) {x:Nd},VN x->0<=zM D x
 |0,x,hv=>Xj hv
 |D+1,x,hv=>by
  rw[zM]
  have:=Xj hv
  have:=wJ (l:=(yi x).map (zM D)) fun y hy=>by
   obtain ⟨t,ht,rfl⟩:=List.mem_map.1 hy
   exact wm D (Z6 hv t ht)
  omega
theorem XX {f:Nd->Int} {l:List Nd} {i:Nat} (h:i<l.length):zt ((l.drop i).map f)=f l[i]+zt ((l.drop (i+1)).map f):=by
 rw[List.drop_eq_getElem_cons h,List.map_cons,wI]
theorem zpN {D:Nat} {q:List Nd} (hq:q.length<=1073741824) (hv:∀ t∈q,WV D t) (hn:∀ t∈q,VN t) (ks:List PV) (i1 i2 i7 i8 i9:Int) (xs10 xs11:List PV) (c0 c1 c2 c3 c4:PV):∀ (c j:Nat) (s:Int),j+c=q.length->0<=s->s+zt ((q.drop j).map (zM D))<=4611686018427387904->
  QR ks i1 i2 (.sl 5 (zr q)) q.length j (I s) i7 i8 i9 xs10 xs11 c0 c1 c2 c3 c4=Y8 ks i1 (IntKind.wrap .i64 (i2+1)) (I (s+zt ((q.drop j).map (zM D)))) i7 i8 i9 xs10 xs11:=by
 intro c
 induction c with
 |zero=>
  intro j s hj h0 hs
  rw[zaM,decide_eq_false (by omega),List.drop_eq_nil_of_le (by omega)]
  simp[vf]
 |succ c ih=>
  intro j s hj h0 hs
  have hjl:j<q.length:=by omega
  have hV:=hv _ (List.getElem_mem hjl) s h0
  have hp:=wm D (hn _ (List.getElem_mem hjl))
  have hr:0<=zt ((q.drop (j+1)).map (zM D)):=wJ fun y hy=>by
   obtain ⟨t,ht,rfl⟩:=List.mem_map.1 hy
   exact wm D (hn t (List.mem_of_mem_drop ht))
  rw[XX hjl] at hs ⊢
  have hV':=hV (by omega)
  unfold vh at hV'
  dsimp only[Nd.x] at hV'
  rw[zaM,dT ((j:Int)<(q.length:Int))]
  dsimp only[yt,zqR,zb]
  rw[decide_eq_true (show (5:Nat)=5 from rfl),dT (0<=(j:Int)),decide_eq_true (show (j:Int)<((zr q).length:Int) by simp;omega)]
  dsimp only[zj,zb]
  rw[zqK,wq hjl]
  dsimp only[zqR]
  rw[vV,vU,show (q[j].c.drop 0).take 5=q[j].c from rfl]
  dsimp only[Nd.c,zqP,zqQ,zqR,xu,zj,yh,zb]
  rw[hV']
  dsimp only[zv,zqP,zqQ,zP,zqR,vA,zb]
  rw[gO,uh,zc (x:=(j:Int)+1)]
  dsimp only[zb]
  have:=ih (j+1) (s+zM D q[j]) (by omega) (by omega) (by omega)
  rw[show s+(zM D q[j]+zt ((q.drop (j+1)).map (zM D)))=s+zM D q[j]+zt ((q.drop (j+1)).map (zM D)) by omega]
  exact this
theorem zfm {D:Nat} {ks:List Nd} (hq:ks.length<=1073741824) (hv:∀ t∈ks,WV D t) (hn:∀ t∈ks,VN t) (i4 i5 i6:Int) (h7:i5≠7) (xs7 xs8:List PV):∀ (c j:Nat) (s:Int),j+c=ks.length->0<=s->s+zt ((ks.drop j).map (zM D))<=4611686018427387904->
  Y8 (zr ks) ks.length j (I s) i4 i5 i6 xs7 xs8=some (.ret (.pv (.tup [])),vh (s+zt ((ks.drop j).map (zM D)))):=by
 intro c
 induction c with
 |zero=>
  intro j s hj h0 hs
  rw[QQ,decide_eq_false (by omega),List.drop_eq_nil_of_le (by omega)]
  simp[vf,vh]
 |succ c ih=>
  intro j s hj h0 hs
  have hjl:j<ks.length:=by omega
  have hV:=hv _ (List.getElem_mem hjl) s h0
  have hp:=wm D (hn _ (List.getElem_mem hjl))
  have hr:0<=zt ((ks.drop (j+1)).map (zM D)):=wJ fun y hy=>by
   obtain ⟨t,ht,rfl⟩:=List.mem_map.1 hy
   exact wm D (hn t (List.mem_of_mem_drop ht))
  rw[XX hjl] at hs ⊢
  have hV':=hV (by omega)
  unfold vh at hV'
  dsimp only[Nd.x] at hV'
  rw[QQ,dT ((j:Int)<(ks.length:Int)),dT (0<=(j:Int)),decide_eq_true (show (j:Int)<((zr ks).length:Int) by simp;omega)]
  dsimp only[zj,zb]
  rw[zqK,wq hjl]
  dsimp only[zqR]
  rw[vV,vU,show (ks[j].c.drop 0).take 5=ks[j].c from rfl,show (i5 != 7)=true from by simpa using h7]
  dsimp only[Nd.c,zqP,zqQ,zb,zqR,xu,zj,yh]
  rw[hV']
  dsimp only[zv,zqP,zqQ,zP,zqR,vA,zb]
  rw[gO,uh,zc (x:=(j:Int)+1)]
  dsimp only[zb]
  have:=ih (j+1) (s+zM D ks[j]) (by omega) (by omega) (by omega)
  rw[show s+(zM D ks[j]+zt ((ks.drop (j+1)).map (zM D)))=s+zM D ks[j]+zt ((ks.drop (j+1)).map (zM D)) by omega]
  exact this
theorem zpM {D:Nat} {ks:List Nd} (hq:ks.length<=1073741824) (hk:∀ k∈ks,k.kids.length<=1073741824) (hv:∀ k∈ks,∀ t∈k.kids,WV D t) (hn:∀ k∈ks,∀ t∈k.kids,VN t) (i4 i6:Int) (xs7 xs8:List PV):∀ (c j:Nat) (s:Int),j+c=ks.length->0<=s->s+zt ((ks.drop j).map fun k=>zt (k.kids.map (zM D)))<=4611686018427387904->
  Y8 (zr ks) ks.length j (I s) i4 7 i6 xs7 xs8=some (.ret (.pv (.tup [])),vh (s+zt ((ks.drop j).map fun k=>zt (k.kids.map (zM D))))):=by
 intro c
 induction c with
 |zero=>
  intro j s hj h0 hs
  rw[QQ,decide_eq_false (by omega),List.drop_eq_nil_of_le (by omega)]
  simp[vf,vh]
 |succ c ih=>
  intro j s hj h0 hs
  have hjl:j<ks.length:=by omega
  have hmem:=List.getElem_mem hjl
  have nn:∀ k∈ks,0<=zt (k.kids.map (zM D)):=fun k hk=>wJ fun y hy=>by
   obtain ⟨t,ht,rfl⟩:=List.mem_map.1 hy
   exact wm D (hn k hk t ht)
  have hp:=nn _ hmem
  have hr:0<=zt ((ks.drop (j+1)).map fun k=>zt (k.kids.map (zM D))):=wJ fun y hy=>by
   obtain ⟨t,ht,rfl⟩:=List.mem_map.1 hy
   exact nn t (List.mem_of_mem_drop ht)
  rw[XX hjl] at hs ⊢
  have hin:=zpN (hk _ hmem) (hv _ hmem) (hn _ hmem) (zr ks) ks.length j i4 7 i6 xs7 xs8 (I ks[j].kind) (I ks[j].elem) (I ks[j].n) (.sl 1 (bs ks[j].data)) (.sl 5 (zr ks[j].kids)) ks[j].kids.length 0 s (by omega) h0 (by rw[List.drop_zero];omega)
  rw[List.drop_zero,zc (x:=(j:Int)+1)] at hin
  rw[QQ,dT ((j:Int)<(ks.length:Int)),dT (0<=(j:Int)),decide_eq_true (show (j:Int)<((zr ks).length:Int) by simp;omega)]
  dsimp only[zj,zb]
  rw[zqK,wq hjl]
  dsimp only[zqR]
  rw[vV,vU,show (ks[j].c.drop 0).take 5=ks[j].c from rfl,show ((7:Int) != 7)=false from rfl]
  dsimp only[Nd.c,zqP,zqQ,zl,zqR,xu,zj,yt,yh,zb]
  rw[xG]
  refine hin.trans ?_
  have:=ih (j+1) (s+zt (ks[j].kids.map (zM D))) (by omega) (by omega) (by omega)
  rw[show s+(zt (ks[j].kids.map (zM D))+zt ((ks.drop (j+1)).map fun k=>zt (k.kids.map (zM D))))=s+zt (ks[j].kids.map (zM D))+zt ((ks.drop (j+1)).map fun k=>zt (k.kids.map (zM D))) by omega]
  exact this
theorem zpD {x:Nd} (hg:yw x) (hv:VN x):zm x.kids+zo x.kids<=4611686018427387904:=by
 obtain ⟨hd,hk,hks⟩:=vR hg
 have:=Yu (l:=x.kids) (b:=17592186044416) fun y hy=>by
  have:=(vR (hks y hy)).1
  omega
 have:=Yv (l:=x.kids) (b:=1073741824) fun y hy=>(vR (hks y hy)).2.1
 omega
theorem zfl:∀ (D:Nat) (x:Nd),yw x->VN x->Dp D x->WV D x
 |D,x,hg,hv,hd=>by
  intro s h0 hs
  have ho:=Xj hv
  obtain ⟨hgd,hgk,hgs⟩:=vR hg
  have hob:yG x<=zM D x:=by
   cases D with
   |zero=>exact Int.le_refl _
   |succ D=>
    rw[zM]
    have:=wJ (l:=(yi x).map (zM D)) fun y hy=>by
     obtain ⟨t,ht,rfl⟩:=List.mem_map.1 hy
     exact wm D (Z6 hv t ht)
    omega
  have hO:=jc hg hv (by omega) (zpD hg hv)
  dsimp only[Nd.x] at hO
  unfold vh
  rw[Nd.x,ziI,hO,xG]
  dsimp only[zv,zP,zqR,zA]
  rw[zc (x:=s+yG x)]
  by_cases k0:x.kind=0
  ·have:=Qf hv k0
   subst this
   have:=zfm (D:=D) (ks:=[]) (by simp) (fun t h=>by cases h) (fun t h=>by cases h) 0 0 0 (by decide) (bs []) (zr []) 0 0 (s+yG nd0) rfl (by omega) (by simp[vf];omega)
   refine this.trans ?_
   rw[Wj hv k0,uI k0]
   simp[vf,vh]
  ·cases D with
   |zero=>exact absurd hd k0
   |succ D=>
    have hd':=(hd.resolve_left k0).2
    have hT:∀ t∈yi x,WV D t:=fun t ht=>zfl D t (zcG hg t ht) (Z6 hv t ht) (hd' t ht)
    rw[zM] at hs ⊢
    by_cases h7:x.kind=2/\x.elem=7
    ·have et:yi x=x.kids.flatMap Nd.kids:=if_pos h7
     rw[et,V5] at hs ⊢
     rw[et] at hT
     have:=zpM (D:=D) hgk (fun k hk=>(vR (hgs k hk)).2.1) (fun k hk t ht=>hT t (List.mem_flatMap.2 ⟨k,hk,ht⟩)) (fun k hk t ht=>Z6 hv t (by rw[et];exact List.mem_flatMap.2 ⟨k,hk,ht⟩)) x.kind x.n (bs x.data) (zr x.kids) x.kids.length 0 (s+yG x) (by omega) (by omega) (by rw[List.drop_zero];omega)
     rw[List.drop_zero] at this
     rw[h7.2]
     refine this.trans ?_
     unfold vh
     rw[show s+(yG x+zt (x.kids.map fun k=>zt (k.kids.map (zM D))))=s+yG x+zt (x.kids.map fun k=>zt (k.kids.map (zM D))) by omega]
    ·have et:yi x=x.kids:=if_neg h7
     have he7:x.elem≠7:=fun h=>by
      obtain ⟨hs',_⟩:=wB hv
      rcases hs' with h'|h'|h'<;>omega
     rw[et] at hs hT ⊢
     have:=zfm (D:=D) hgk hT (fun t ht=>Z6 hv t (by rw[et];exact ht)) x.kind x.elem x.n he7 (bs x.data) (zr x.kids) x.kids.length 0 (s+yG x) (by omega) (by omega) (by rw[List.drop_zero];omega)
     rw[List.drop_zero] at this
     refine this.trans ?_
     unfold vh
     rw[show s+(yG x+zt (x.kids.map (zM D)))=s+yG x+zt (x.kids.map (zM D)) by omega]
theorem zfY {D:Nat} {x:Nd} (hg:yw x) (hv:VN x) (hd:Dp D x) (hb:zM D x<=4611686018427387904):ev 217 [.pv x.x] []=ok (I (zM D x)):=by
 have h:=zfl D x hg hv hd 0 (Int.le_refl _) (by omega)
 unfold vh at h
 dsimp only[Nd.x] at h
 rw[Nd.x,ziJ,h]
 dsimp only[zv,zqP,zqQ,zP,zqR,vA,zb]
 rw[gO,uh,Int.zero_add]
 rfl
theorem zf6 {D:Nat} {x:Nd} (hg:yw x) (hv:VN x) (hd:Dp D x) (hb:zM D x<=4611686018427387904):ev 156 [.pv x.x] []=ok (I (zM D x+1)):=by
 have h:=zfY hg hv hd hb
 have hn:=wm D hv
 dsimp only[Nd.x] at h
 rw[Nd.x,ziL,h]
 dsimp only[zh,zA,zqR]
 rw[zc (by omega)]
theorem getD_drop (b:List Int) (n k:Nat):(b.drop n).getD k 0=b.getD (n+k) 0:=by
 rw[List.getD_eq_getElem?_getD,List.getD_eq_getElem?_getD,List.getElem?_drop]
theorem qj {b:List Int} {i:Nat} (h:i<b.length):(bs b)[i]? = some (U8 (b.getD i 0)):=by
 rw[Ze h,List.getD_eq_getElem?_getD,zqF h]
 rfl
def XG (f:Nat->Nat):Nat->Nat
 |0=>0
 |k+1=>XG f k+f k*2^(8*k)
theorem jT {f:Nat->Nat} (hf:∀ k,f k<256):∀ k,XG f k<2^(8*k)
 |0=>by show 0<1;decide
 |k+1=>by
  have:=jT hf k
  have h1:=hf k
  have:f k*2^(8*k)<=255*2^(8*k):=Nat.mul_le_mul_right _ (by omega)
  rw[XG,show 8*(k+1)=8*k+8 by omega,Nat.pow_add]
  omega
theorem zmM {a x i:Nat} (ha:a<2^i) (hx:x<256) (hi:i+8<=64):IntKind.wrap .u64 (BitVec.ofInt 64 (a:Int) ||| BitVec.ofInt 64 (IntKind.wrap .u64 (IntKind.wrap .u64 (x:Int)*2^(min (i:Int).toNat 64)))).toNat=((a+x*2^i:Nat):Int):=by
 have hk:2^i*2^8<=2^64:=by rw[←Nat.pow_add];exact Nat.pow_le_pow_right (by decide) hi
 have hi0:0<2^i:=Nat.pow_pos (by decide)
 have hx2:x*2^i<=255*2^i:=Nat.mul_le_mul_right _ (by omega)
 have e:IntKind.wrap .u64 (IntKind.wrap .u64 (x:Int)*2^(min (i:Int).toNat 64))=((x*2^i:Nat):Int):=by
  rw[wM (by omega),zqK,Nat.min_eq_left (by omega),show (2:Int)^i=((2^i:Nat):Int) by push_cast;rfl,←Int.natCast_mul]
  exact wM (by omega)
 rw[e]
 have e3:(BitVec.ofInt 64 (a:Int) ||| BitVec.ofInt 64 ((x*2^i:Nat):Int)).toNat=a+x*2^i:=by
  rw[BitVec.toNat_or,Zl (by omega),Zl (by omega),Nat.or_comm,Nat.mul_comm,←Nat.two_pow_add_eq_or_of_lt ha]
  omega
 rw[e3,wM (by omega)]
def xA (b:List Int) (i:Nat):Nat:=(b.getD i 0).toNat
theorem xv {b:List Int} (hb:∀ x∈b,zF x) (i:Nat):((xA b i:Nat):Int)=b.getD i 0/\xA b i<256:=by
 have:=xh hb i
 unfold xA
 omega
theorem zhj (f:Nat->Nat):XG f 8=0+f 0*1+f 1*256+f 2*65536+f 3*16777216+f 4*4294967296+f 5*1099511627776+f 6*281474976710656+f 7*72057594037927936:=rfl
theorem zhk {b:List Int} (hb:∀ x∈b,zF x) (n:Nat):((XG (fun k=>xA b (n+k)) 8:Nat):Int)=wC (b.drop n):=by
 unfold wC
 simp only[getD_drop]
 rw[←(xv hb (n+0)).1,←(xv hb (n+1)).1,←(xv hb (n+2)).1,←(xv hb (n+3)).1,←(xv hb (n+4)).1,←(xv hb (n+5)).1,←(xv hb (n+6)).1,←(xv hb (n+7)).1]
 rw[zhj]
 omega
theorem zlt {b:List Int} (hb:∀ x∈b,zF x) {i:Nat} (hi:8*i+8<=b.length) (hl:b.length<=17592186044416):∀ (c k:Nat),k+c=8->JG (bs b) i ((XG (fun k=>xA b (8*i+k)) k:Nat):Int) k=ok (.tup [U (wC (b.drop (8*i))),Bo true]):=by
 intro c
 induction c with
 |zero=>
  intro k hk
  have:k=8:=by omega
  subst this
  rw[zfv,decide_eq_false (by decide),zhk hb]
  rfl
 |succ c ih=>
  intro k hk
  have hx:=xv hb (8*i+k)
  rw[zfv,dT ((k:Int)<8),zc (x:=8*(i:Int)),zc (x:=8*(i:Int)+k),dT (0<=8*(i:Int)+k),decide_eq_true (show 8*(i:Int)+k<((bs b).length:Int) by simp;omega)]
  dsimp only[zj,zb]
  rw[show (8*(i:Int)+k).toNat=8*i+k by omega,qj (by omega),←hx.1]
  dsimp only[zqR,z9,zqP,xV]
  rw[zc (x:=8*(k:Int)),show (8*(k:Int))=((8*k:Nat):Int) by push_cast;rfl,wM (by omega),zmM (jT (fun j=>(xv hb (8*i+j)).2) k) hx.2 (by omega),zc (x:=(k:Int)+1),show yS .shl ((8*k:Nat):Int)=true from by unfold yS;exact decide_eq_true (by omega)]
  exact ih (k+1) (by omega)
theorem zfW {b:List Int} (hb:∀ x∈b,zF x) {i:Nat} (hi:8*i+8<=b.length) (hl:b.length<=17592186044416):ev 116 [.pv (.sl 1 (bs b)),.pv (I (i:Int))] []=ok (.tup [U (wC (b.drop (8*i))),Bo true]):=by
 rw[zp7,zU,Int.tdiv_eq_ediv_of_nonneg (by omega),zc (x:=(b.length:Int)/8),dF ((i:Int)<0),dF ((i:Int)≥(b.length:Int)/8)]
 exact zlt hb hi hl 8 0 rfl
def Zb (f:Nat->Nat):Nat->Nat
 |0=>0
 |k+1=>Zb f k*256+f (7-k)
theorem jS {f:Nat->Nat} (hf:∀ k,f k<256):∀ k,Zb f k<256^k
 |0=>by show 0<1;decide
 |k+1=>by
  have:=jS hf k
  have h1:=hf (7-k)
  rw[Zb,Nat.pow_succ]
  omega
theorem zhh (f:Nat->Nat):Zb f 8=(((((((0*256+f 7)*256+f 6)*256+f 5)*256+f 4)*256+f 3)*256+f 2)*256+f 1)*256+f 0:=rfl
theorem zhi {b:List Int} (hb:∀ x∈b,zF x) (n:Nat):((Zb (fun k=>xA b (n+k)) 8:Nat):Int)=wC (b.drop n):=by
 unfold wC
 simp only[getD_drop]
 rw[←(xv hb (n+0)).1,←(xv hb (n+1)).1,←(xv hb (n+2)).1,←(xv hb (n+3)).1,←(xv hb (n+4)).1,←(xv hb (n+5)).1,←(xv hb (n+6)).1,←(xv hb (n+7)).1]
 rw[zhh]
 omega
theorem zoe {b:List Int} (hb:∀ x∈b,zF x) {i:Nat} (hi:8*i+8<=b.length) (hl:b.length<=17592186044416):∀ (c k:Nat),k+c=8->QW (bs b) i ((Zb (fun k=>xA b (8*i+k)) k:Nat):Int) (7-k)=ok (.tup [U (wC (b.drop (8*i))),Bo true]):=by
 intro c
 induction c with
 |zero=>
  intro k hk
  have:k=8:=by omega
  subst this
  rw[zaV,decide_eq_false (by decide),zhi hb]
  rfl
 |succ c ih=>
  intro k hk
  have hx:=xv hb (8*i+(7-k))
  have ha:=jS (f:=fun k=>xA b (8*i+k)) (fun j=>(xv hb (8*i+j)).2) (k+1)
  have hp:256^(k+1)<=256^8:=Nat.pow_le_pow_right (by decide) (by omega)
  rw[Zb] at ha
  have hq2:Zb (fun k=>xA b (8*i+k)) k*256+xA b (8*i+(7-k))<2^64:=Nat.lt_of_lt_of_le ha (Nat.le_trans hp (by decide))
  have hq:Zb (fun k=>xA b (8*i+k)) k*256<2^64:=Nat.lt_of_le_of_lt (Nat.le_add_right _ _) hq2
  rw[zaV,dT ((7:Int)-k≥0),zc (x:=8*(i:Int)),zc (x:=8*(i:Int)+(7-k)),dT (0<=8*(i:Int)+(7-k)),decide_eq_true (show 8*(i:Int)+(7-k)<((bs b).length:Int) by simp;omega)]
  dsimp only[zj,zb]
  rw[show (8*(i:Int)+(7-k)).toNat=8*i+(7-k) by omega,qj (by omega),←hx.1]
  dsimp only[zqR,z9,zqP,xV]
  rw[wM (n:=xA b (8*i+(7-k))) (by omega),show ((Zb (fun k=>xA b (8*i+k)) k:Nat):Int)*256=((Zb (fun k=>xA b (8*i+k)) k*256:Nat):Int) by rw[Int.natCast_mul];rfl,wM (n:=Zb (fun k=>xA b (8*i+k)) k*256) hq,←Int.natCast_add,wM hq2,zc (x:=(7:Int)-k-1)]
  have:=ih (k+1) (by omega)
  rw[show (7:Int)-((k+1:Nat):Int)=7-k-1 by omega] at this
  exact this
theorem zgE {b:List Int} (hb:∀ x∈b,zF x) {i:Nat} (hi:8*i+8<=b.length) (hl:b.length<=17592186044416):ev 94 [.pv (.sl 1 (bs b)),.pv (I (i:Int))] []=ok (.tup [U (wC (b.drop (8*i))),Bo true]):=by
 rw[ziV,zU,Int.tdiv_eq_ediv_of_nonneg (by omega),zc (x:=(b.length:Int)/8),zc (x:=(b.length:Int)/8-1),dF ((i:Int)<0),dF ((i:Int)>(b.length:Int)/8-1)]
 exact zoe hb hi hl 8 0 rfl
theorem zfz:∀ (n i:Nat) (b:List Int),i<n->(zW n b)[i]? = some (wC (b.drop (8*i)))
 |0,i,b,h=>by omega
 |n+1,0,b,h=>by simp[zW]
 |n+1,i+1,b,h=>by
  rw[zW,zqQ,zfz n i (b.drop 8) (by omega),List.drop_drop]
  congr 3
  omega
theorem zfB {n i:Nat} (b:List Int) (h:i<n):(zW n b).take (i+1)=(zW n b).take i++[wC (b.drop (8*i))]:=by
 have hl:i<(zW n b).length:=by rw[yZ];exact h
 rw[List.take_succ_eq_append_getElem hl]
 have:=zfz n i b h
 rw[zqF hl] at this
 rw[Option.some.inj this]
theorem zpX (b:List Int) (z:Nat):wC (b++List.replicate z 0)=wC b:=by
 have h:∀ k,(b++List.replicate z 0).getD k 0=b.getD k 0:=fun k=>by
  rw[List.getD_eq_getElem?_getD,List.getD_eq_getElem?_getD]
  by_cases h1:k<b.length
  ·rw[List.getElem?_append_left h1]
  ·rw[List.getElem?_append_right (by omega),List.getElem?_replicate,List.getElem?_eq_none (by omega)]
   split<;>rfl
 unfold wC
 simp only[h]
theorem gS:∀ (n:Nat) (b:List Int) (z:Nat),zW n (b++List.replicate z 0)=zW n b
 |0,b,z=>rfl
 |n+1,b,z=>by
  rw[zW,zW,zpX,List.drop_append,List.drop_replicate,gS n]
theorem zqf {b:List Int} (hb:∀ x∈b,zF x) (hl:b.length<=1099511627776) {n:Nat} (hn:8*n=b.length):∀ (c i:Nat),i+c=n->JH (bs b) (ws ((zW n b).take i)) n i=ok (.tup [.sl 1 (ws (zW n b)),Bo true]):=by
 intro c
 induction c with
 |zero=>
  intro i hi
  rw[zfw,decide_eq_false (by omega),List.take_of_length_le (by rw[yZ];omega)]
  rfl
 |succ c ih=>
  intro i hi
  rw[zfw,dT ((i:Int)<(n:Int)),zfW hb (by omega) (by omega)]
  dsimp only[zh,zK,zqQ,zqP,zqR,z9,zb]
  rw[yq (by rw[zZ,zqN];omega) (by rw[zZ,zqN];omega),zc (x:=(i:Int)+1),WI,←zfB b (by omega)]
  exact ih (i+1) (by omega)
theorem JY {b:List Int} (hb:∀ x∈b,zF x) (hl:b.length<=1099511627776) {n:Nat} (hn:8*n=b.length):ev 64 [.pv (.sl 1 (bs b))] []=ok (.tup [.sl 1 (ws (zW n b)),Bo true]):=by
 rw[zqa,zU,Int.tdiv_eq_ediv_of_nonneg (by omega),Int.tmod_eq_emod_of_nonneg (by omega),show (b.length:Int)/8=n by omega,zc (by omega),show ((b.length:Int)%8 != 0)=false from by simp;omega,dT (0<=(n:Int)),dT ((n:Int)<=140737488355328),zqK,yq (by omega) (by omega)]
 have:=zqf hb hl hn n 0 (by omega)
 rw[List.take_zero] at this
 exact this
theorem zoN {b:List Int} (hb:∀ x∈b,zF x) (hl:b.length<=1099511627776) {n:Nat} (hn:8*n=b.length):∀ (c i:Nat),i+c=n->QZ (bs b) (ws ((zW n b).take i)) i=some (.ret (.tup 0 (.slu 30 1 (ws (zW n b))) [.v .nilIface,Bo true]),[]):=by
 intro c
 induction c with
 |zero=>
  intro i hi
  rw[zaX,zU,Int.tdiv_eq_ediv_of_nonneg (by omega),show (b.length:Int)/8=n by omega,zc (x:=(n:Int)),decide_eq_false (by omega),List.take_of_length_le (by rw[yZ];omega)]
  rfl
 |succ c ih=>
  intro i hi
  rw[zaX,zU,Int.tdiv_eq_ediv_of_nonneg (by omega),show (b.length:Int)/8=n by omega,zc (x:=(n:Int)),dT ((i:Int)<(n:Int)),zgE hb (by omega) (by omega)]
  dsimp only[zh,zK,zqQ,zqP,zqR,z9,zb]
  rw[yq (by rw[zZ,zqN];omega) (by rw[zZ,zqN];omega),zc (x:=(i:Int)+1),WI,←zfB b (by omega)]
  exact ih (i+1) (by omega)
theorem J9 {b:List Int} (hb:∀ x∈b,zF x) (hl:b.length<=1099511627776) {n:Nat} (hn:8*n=b.length):ev 87 [.pv (.sl 1 (bs b))] []=some (.ret (.tup 0 (.slu 30 1 (ws (zW n b))) [.v .nilIface,Bo true]),[]):=by
 rw[ziY,zU,Int.tmod_eq_emod_of_nonneg (by omega),show ((b.length:Int)%8 != 0)=false from by simp;omega]
 have:=zoN hb hl hn n 0 (by omega)
 rw[List.take_zero] at this
 exact this
theorem zic (b:List Int) (z:Nat):bs (b++List.replicate z 0)=bs b++List.replicate z (U8 0):=by simp[bs]
theorem zaw {b:List Int} (hb:∀ x∈b,zF x) (z:Nat):∀ x∈b++List.replicate z 0,zF x:=fun x hx=>by
 rcases List.mem_append.1 hx with h|h
 ·exact hb x h
 ·rw[(List.mem_replicate.1 h).2];exact ⟨by decide,by decide⟩
theorem zm2 {b:List Int} (hb:∀ x∈b,zF x) {n:Nat} (hn:n<=137438953472) (h8:b.length<=8*n):∀ (c z:Nat),b.length+z+c=8*n->Kg n (bs (b++List.replicate z 0))=some (.ret (.slu 30 1 (ws (zW n b))),[]):=by
 intro c
 induction c with
 |zero=>
  intro z hz
  rw[zbk,zc (by omega),decide_eq_false (by rw[zU,zqS,zqM];omega),J9 (zaw hb z) (by rw[zqS,zqM];omega) (n:=n) (by rw[zqS,zqM];omega),gS]
  dsimp only[zv,zl]
  rw[show Zq 0 2 (.tup 0 (.slu 30 1 (ws (zW n b))) [.v .nilIface,Bo true])=some (.slu 30 1 (ws (zW n b)),[.v .nilIface,Bo true]) from rfl]
  dsimp only[zqR,zqQ,zqP]
  rw[xg]
  rfl
 |succ c ih=>
  intro z hz
  rw[zbk,zc (by omega),decide_eq_true (show ((bs (b++List.replicate z 0)).length:Int)<8*(n:Int) by rw[zU,zqS,zqM];omega),yq (by rw[zU,zqS,zqM];omega) (by rw[zU,zqS,zqM];omega)]
  have:=ih (z+1) (by omega)
  rw[List.replicate_succ',←List.append_assoc] at this
  have e:bs (b++List.replicate z 0++[0])=bs (b++List.replicate z 0)++[U8 0]:=by simp[bs]
  rw[e] at this
  exact this
theorem J2 {b:List Int} (hb:∀ x∈b,zF x) {n:Nat} (hn:n<=137438953472) (h8:b.length<=8*n):ev 222 [.pv (.sl 1 (bs b)),.pv (I (n:Int))] []=some (.ret (.slu 30 1 (ws (zW n b))),[]):=by
 rw[zjv,zU,yq (by omega) (by omega)]
 have:=zm2 hb hn h8 (8*n-b.length) 0 (by omega)
 rw[List.replicate_zero,List.append_nil] at this
 exact this
def wh (W:List Int):ze:=[[.slu 30 1 (ws W)]]
theorem Qh (a b:List Int):ws (a++b)=ws a++ws b:=by simp[ws]
theorem zqm (n:Nat):ws (List.replicate n 0)=List.replicate n (U 0):=by simp[ws]
theorem qd {W b:List Int} (hb:∀ x∈b,zF x) {n:Nat} (hn:n<=137438953472) (h8:b.length<=8*n) (hW:W.length<=137438953472):ev 293 [.ptr 0 0,.pv (.sl 1 (bs b)),.pv (I (n:Int))] (wh W)=some (.ret (.pv (.tup [])),wh (W++zW n b)):=by
 unfold wh
 rw[ziN,zc (x:=8*(n:Int)),dT (0<=8*(n:Int)),dT (8*(n:Int)<=8*(n:Int)),dT (8*(n:Int)<=140737488355328),show (8*(n:Int)).toNat=8*n by omega,yq (by omega) (by omega),zqM,List.drop_replicate,zU,List.take_of_length_le (show (bs b).length<=8*n by rw[zU];exact h8)]
 have:=JY (zaw hb (8*n-b.length)) (by rw[zqS,zqM];omega) (n:=n) (by rw[zqS,zqM];omega)
 rw[zic,gS] at this
 dsimp only[zj,zb]
 rw[this]
 dsimp only[zv,zP,zqR,zK,zqQ,zqP,yt]
 rw[zZ,zZ,yZ,yq (by omega) (by omega),Qh]
 rfl
theorem qe {W:List Int} {n:Nat} (hn:n<=137438953472) (hW:W.length<=137438953472):ev 292 [.ptr 0 0,.pv (I (n:Int))] (wh W)=some (.ret (.pv (I (W.length:Int))),wh (W++List.replicate n 0)):=by
 unfold wh
 rw[ziQ,dT (0<=(n:Int)),dT ((n:Int)<=140737488355328),zqK,zZ,zqM,yq (by omega) (by omega),Qh,zqm]
 rfl
def va (B:Nd->List Int) (a:Nat) (t:Nd) (W:List Int):List Int:=if t.kind=0 then W else W.set a (yN t ((W.length:Int)-a-1))++B t
def xp (B:Nd->List Int):List (Nat×Nd)->List Int->List Int
 |[],W=>W
 |(a,t)::r,W=>xp B r (va B a t W)
def yn (i:Nat):List Nd->List (Nat×Nd)
 |[]=>[]
 |t::r=>(i,t)::yn (i+1) r
def yX (a s i:Nat):List Nd->List (Nat×Nd)
 |[]=>[]
 |k::r=>yn (i+a) k.kids++yX a s (i+s) r
def els (a b:Nat) (l:List Nd):List Int:=l.flatMap fun k=>zW a k.data++List.replicate b 0
theorem gq (B:Nd->List Int):∀ (l m:List (Nat×Nd)) (W:List Int),xp B (l++m) W=xp B m (xp B l W)
 |[],m,W=>rfl
 |(a,t)::l,m,W=>gq B l m _
theorem zdV {t:Nd} (h:t.kind=0) (o:Int):yN t o=0:=by unfold yN;rw[if_pos h]
theorem Ji {B:Nd->List Int} (hB:∀ t:Nd,t.kind=0->B t=[]):∀ (q:List Nd) (X Y:List Int) (i n:Nat),i=X.length->n=X.length+q.length+Y.length->xp B (yn i q) (X++(List.replicate q.length 0++Y))=X++(yJ B i n q++(Y++q.flatMap B))
 |[],X,Y,i,n,hi,hn=>by simp[xp,yn,yJ]
 |t::r,X,Y,i,n,hi,hn=>by
  rw[yn,xp,yJ,List.flatMap_cons,zqT,List.replicate_succ]
  rw[zqT] at hn
  have e:va B i t (X++(0::List.replicate r.length 0++Y))=(X++[yN t ((n:Int)-i-1)])++(List.replicate r.length 0++(Y++B t)):=by
   unfold va
   by_cases h0:t.kind=0
   ·rw[if_pos h0,zdV h0,hB t h0]
    simp
   ·rw[if_neg h0]
    have hl:(X++(0::List.replicate r.length 0++Y)).length=n:=by simp;omega
    rw[hl,hi,List.set_append_right _ _ (Nat.le_refl _),Nat.sub_self]
    simp
  rw[e,Ji hB r (X++[yN t ((n:Int)-i-1)]) (Y++B t) (i+1) (n+(B t).length) (by simp[hi]) (by simp;omega)]
  simp only[List.append_assoc,List.singleton_append,List.cons_append,zqU]
theorem zbU (a b:Nat) (k:Nd) (l:List Nd):els a b (k::l)=zW a k.data++(List.replicate b 0++els a b l):=by simp[els]
theorem Xg (a b:Nat):∀ l:List Nd,(els a b l).length=l.length*(a+b)
 |[]=>by simp[els]
 |k::l=>by rw[zbU,zqS,zqS,yZ,zqM,Xg a b l,zqT,Nat.add_mul];omega
theorem zej {B:Nd->List Int} (hB:∀ t:Nd,t.kind=0->B t=[]) (a b:Nat):∀ (ks:List Nd) (X Y:List Int) (i n:Nat),i=X.length->n=X.length+ks.length*(a+b)+Y.length->(∀ k∈ks,k.kids.length<=b)->xp B (yX a (a+b) i ks) (X++(els a b ks++Y))=X++(xO B a b i n ks++(Y++ks.flatMap fun k=>k.kids.flatMap B))
 |[],X,Y,i,n,hi,hn,_=>by simp[xp,yX,xO,els]
 |k::r,X,Y,i,n,hi,hn,hk=>by
  have hb:=hk k zqJ
  rw[zqT,Nat.add_mul,Nat.one_mul] at hn
  rw[yX,gq,xO,List.flatMap_cons,zbU]
  have e1:X++(zW a k.data++(List.replicate b 0++els a b r)++Y)=(X++zW a k.data)++(List.replicate k.kids.length 0++(List.replicate (b-k.kids.length) 0++(els a b r++Y))):=by
   have:List.replicate b (0:Int)=List.replicate k.kids.length 0++List.replicate (b-k.kids.length) 0:=by rw[List.replicate_append_replicate];congr 1;omega
   rw[this]
   simp only[List.append_assoc]
  rw[e1,Ji hB k.kids (X++zW a k.data) (List.replicate (b-k.kids.length) 0++(els a b r++Y)) (i+a) n (by simp[hi]) (by simp[Xg];omega)]
  have e2:X++zW a k.data++(yJ B (i+a) n k.kids++(List.replicate (b-k.kids.length) 0++(els a b r++Y)++k.kids.flatMap B))=(X++(zW a k.data++(yJ B (i+a) n k.kids++List.replicate (b-k.kids.length) 0)))++(els a b r++(Y++k.kids.flatMap B)):=by
   simp only[List.append_assoc]
  have r2:=zej hB a b r (X++(zW a k.data++(yJ B (i+a) n k.kids++List.replicate (b-k.kids.length) 0))) (Y++k.kids.flatMap B) (i+(a+b)) (n+ZQ B k.kids) (by simp[hi];omega) (by unfold ZQ;simp;omega) (fun x hx=>hk x (zqI _ hx))
  rw[e2,r2]
  simp only[List.append_assoc]
theorem K7 (B:Nd->List Int) (s:Nat):∀ (l:List Nd) (i n:Nat),yJ B (i+s) (n+s) l=yJ B i n l
 |[],i,n=>rfl
 |t::r,i,n=>by
  rw[yJ,yJ]
  have e:=K7 B s r (i+1) (n+(B t).length)
  rw[show i+1+s=i+s+1 by omega,show n+(B t).length+s=n+s+(B t).length by omega] at e
  rw[e]
  congr 2
  omega
theorem j9 (B:Nd->List Int) (a b s:Nat):∀ (l:List Nd) (i n:Nat),xO B a b (i+s) (n+s) l=xO B a b i n l
 |[],i,n=>rfl
 |k::r,i,n=>by
  rw[xO,xO]
  have e:=j9 B a b s r (i+(a+b)) (n+ZQ B k.kids)
  rw[show i+(a+b)+s=i+s+(a+b) by omega,show n+ZQ B k.kids+s=n+s+ZQ B k.kids by omega] at e
  rw[e]
  have e2:=K7 B s k.kids (i+a) n
  rw[show i+a+s=i+s+a by omega] at e2
  rw[e2]
def xr (x:Nd):List Int :=
 if x.kind=1 then zW (x.data.length/8) x.data++List.replicate x.kids.length 0
 else if x.elem=7 then yg x.n (zm x.kids) (zo x.kids)::els (zm x.kids) (zo x.kids) x.kids
 else if x.elem=6 then List.replicate x.kids.length 0
 else zW (zn x.elem x.n).toNat x.data
def xF (x:Nd) (s:Nat):List (Nat×Nd) :=
 if x.kind=1 then yn (s+x.data.length/8) x.kids
 else if x.elem=7 then yX (zm x.kids) (zm x.kids+zo x.kids) (s+1) x.kids
 else yn s x.kids
theorem zeC {B:Nd->List Int} {x:Nd} (hv:VN x) (h0:x.kind≠0):(xr x).length=(xU B x).length:=by
 obtain ⟨hs,_⟩:=wB hv
 unfold xr xU
 by_cases h1:x.kind=1
 ·rw[if_pos h1,if_pos h1];simp
 ·rw[if_neg h1,if_neg h1]
  by_cases h7:x.elem=7
  ·rw[if_pos h7,if_pos h7,zqT,zqT,Xg,WX _ _ _ _ _ _ (fun k hk=>Yw hk)]
  ·rw[if_neg h7,if_neg h7]
   by_cases h6:x.elem=6
   ·rw[if_pos h6,if_pos h6];simp
   ·rw[if_neg h6,if_neg h6]
theorem zoy {B:Nd->List Int} (hB:∀ t:Nd,t.kind=0->B t=[]) {x:Nd} (hv:VN x) (h0:x.kind≠0) (W:List Int):xp B (xF x W.length) (W++xr x)=W++(xU B x++(yi x).flatMap B):=by
 obtain ⟨hs,_⟩:=wB hv
 unfold xF xr xU
 by_cases h1:x.kind=1
 ·rw[if_pos h1,if_pos h1,if_pos h1]
  have et:yi x=x.kids:=if_neg (fun h=>by rw[h1] at h;exact absurd h.1 (by decide))
  have r:=Ji hB x.kids (W++zW (x.data.length/8) x.data) [] (W.length+x.data.length/8) (W.length+(x.data.length/8+x.kids.length)) (by simp) (by simp;omega)
  rw[List.append_nil] at r
  rw[←List.append_assoc,r,et,zqU]
  have e:=K7 B W.length x.kids (x.data.length/8) (x.data.length/8+x.kids.length)
  rw[Nat.add_comm _ W.length,Nat.add_comm _ W.length] at e
  rw[e]
  simp only[List.append_assoc]
 ·rw[if_neg h1,if_neg h1,if_neg h1]
  by_cases h7:x.elem=7
  ·rw[if_pos h7,if_pos h7,if_pos h7]
   have hk2:x.kind=2:=by rcases hs with h|h|h<;>omega
   have et:yi x=x.kids.flatMap Nd.kids:=if_pos ⟨hk2,h7⟩
   have r:=zej hB (zm x.kids) (zo x.kids) x.kids (W++[yg x.n (zm x.kids) (zo x.kids)]) [] (W.length+1) (W.length+(1+x.kids.length*Yt x)) (by simp) (by unfold Yt;simp;omega) (fun k hk=>Yw hk)
   rw[List.append_nil] at r
   rw[et,KD]
   have e1:W++yg x.n (zm x.kids) (zo x.kids)::els (zm x.kids) (zo x.kids) x.kids=W++[yg x.n (zm x.kids) (zo x.kids)]++els (zm x.kids) (zo x.kids) x.kids:=by simp
   rw[e1,r,zqU]
   have e:=j9 B (zm x.kids) (zo x.kids) W.length x.kids 1 (1+x.kids.length*Yt x)
   rw[Nat.add_comm _ W.length,Nat.add_comm _ W.length] at e
   rw[e]
   simp
  ·rw[if_neg h7,if_neg h7,if_neg h7]
   have et:yi x=x.kids:=if_neg (fun h=>h7 h.2)
   rw[et]
   by_cases h6:x.elem=6
   ·rw[if_pos h6,if_pos h6]
    have r:=Ji hB x.kids W [] W.length (W.length+x.kids.length) rfl (by simp)
    rw[List.append_nil] at r
    rw[r,zqU]
    have e:=K7 B W.length x.kids 0 x.kids.length
    rw[Nat.zero_add,Nat.add_comm] at e
    rw[e]
   ·rw[if_neg h6,if_neg h6]
    have hk:x.kids=[]:=by
     rcases hs with h|h|h
     ·omega
     ·omega
     ·exact List.length_eq_zero_iff.1 (h.2.2.2.2 (by omega)).1
    rw[hk]
    simp[yn,xp]
theorem zaq (D:Nat) (t:Nd) (h:t.kind=0):body D t=[]:=by
 cases D with
 |zero=>rfl
 |succ D=>rw[body,if_pos h]
theorem zdG {D:Nat} {x:Nd} (hv:VN x) (h0:x.kind≠0) {a:Nat} {W:List Int} (ha:a<W.length):va (body (D+1)) a x W=xp (body D) (xF x W.length) ((W++xr x).set a (yN x ((W.length:Int)-a-1))):=by
 unfold va
 rw[if_neg h0,List.set_append_left _ _ ha]
 have r:=zoy (zaq D) hv h0 (W.set a (yN x ((W.length:Int)-a-1)))
 rw[List.length_set] at r
 rw[r,body,if_neg h0]
def WL (off:Int) (d q:Nat):PV:=.agg [I 0,I off,I d,I q,I 0,I 0,Bo false,I 0,yD 0,yD 0]
def vw (off e c:Int):PV:=.agg [I 1,I off,I 0,I 0,I e,I c,Bo false,I 0,yD 0,yD 0]
theorem zg6 {W d:List Int} {ks:List Nd} (hb:∀ x∈d,zF x) (h8:d.length%8=0) (hd:d.length<=524280) (hk:ks.length<=65535) (hW:W.length<=268435456) (e n:Int):ev 269 [.ptr 0 0,.pv (.agg [I 1,I e,I n,.sl 1 (bs d),.sl 5 (zr ks)])] (wh W) =
  some (.ret (.pv (.tup [WL 0 (d.length/8) ks.length,.sl 1 [I ((W.length+d.length/8:Nat):Int)]])),wh (W++(zW (d.length/8) d++List.replicate ks.length 0))):=by
 have h1:=qd (W:=W) hb (n:=d.length/8) (by omega) (by omega) (by omega)
 have h2:=qe (W:=W++zW (d.length/8) d) (n:=ks.length) (by omega) (by simp;omega)
 unfold wh at h1 h2 ⊢
 rw[ziP,zU,xG,Int.tdiv_eq_ediv_of_nonneg (by omega),show (d.length:Int)/8=((d.length/8:Nat):Int) by omega,zc (by omega),h1]
 dsimp only[zv,zqP,Zj,zP,zqR,zb,vA]
 rw[xg]
 dsimp only[zqR]
 rw[h2]
 dsimp only[zv,zqP,Zj,zP,zqR,z9,zb,vA]
 rw[zqS,yZ,List.append_assoc]
 rfl
theorem zg5 {W:List Int} {ks:List Nd} {n:Nat} (hn:n<=268435456) (hW:W.length<=268435456) (d:List PV):ev 268 [.ptr 0 0,.pv (.agg [I 2,I 6,I (n:Int),.sl 1 d,.sl 5 (zr ks)])] (wh W) =
  some (.ret (.pv (.tup [vw 0 6 n,.sl 1 [I (W.length:Int)]])),wh (W++List.replicate n 0)):=by
 have h2:=qe (W:=W) (n:=n) (by omega) (by omega)
 unfold wh at h2 ⊢
 rw[zaO,show ((6:Int)==6)=true from rfl,h2]
 rfl
theorem zg4 {W d:List Int} {ks:List Nd} {e n:Int} (he:0<=e/\e<6) (hn:0<=n/\n<=536870911) (hb:∀ x∈d,zF x) (hl:(d.length:Int)=z5 e n) (hw:zn e n<=268435456) (hW:W.length<=268435456) (hO:ev 262 [.pv (.agg [I 2,I e,I n,.sl 1 (bs d),.sl 5 (zr ks)])] []=ok (I (zn e n))) :
  ev 268 [.ptr 0 0,.pv (.agg [I 2,I e,I n,.sl 1 (bs d),.sl 5 (zr ks)])] (wh W) =
  some (.ret (.pv (.tup [vw 0 e n,.sl 1 []])),wh (W++zW (zn e n).toNat d)):=by
 have hr:=Zy (e:=e) hn
 have hbw:=qm he hn
 have h1:=qd (W:=W) hb (n:=(zn e n).toNat) (by omega) (by omega) (by omega)
 rw[show (((zn e n).toNat:Nat):Int)=zn e n by omega] at h1
 unfold wh at h1 ⊢
 rw[zaO,beq_eq_false_iff_ne.2 (show e≠6 by omega),hO]
 dsimp only[zv,zP,zqR,zl]
 rw[h1]
 rfl
theorem zj9 {W0:List Int} {ks:List Nd} {a b:Nat} (ha:a<=65535) (hb:b<=65535) (hk:ks.length<=536870911) (hs:∀ k∈ks,(∀ x∈k.data,zF x)/\k.data.length<=8*a) (hl:W0.length+ks.length*(a+b)<=268435456) (i7 i8 i9:Int) (xs10 xs11:List PV) (i12 i13 i14 i15 i16 i17:Int) (b18:Bool) (i19 i20 i21:Int):∀ (c i:Nat),i+c=ks.length->
  QS (I a) (I b) (((List.range i).map fun j=>I ((W0.length+j*(a+b)+a:Nat):Int))) (zr ks) ks.length i (ws (W0++els a b (ks.take i))) i7 i8 i9 xs10 xs11 i12 i13 i14 i15 i16 i17 b18 i19 i20 i21 =
   some (.ret (.pv (.tup [vw 0 i8 (IntKind.wrap .i64 (i9*((a+b:Nat):Int))),.sl 1 ((List.range ks.length).map fun j=>I ((W0.length+j*(a+b)+a:Nat):Int))])),wh (W0++els a b ks)):=by
 intro c
 induction c with
 |zero=>
  intro i hi
  rw[zaN,decide_eq_false (by omega),List.take_of_length_le (by omega),show i=ks.length by omega]
  dsimp only[zA,zqR,zl]
  rw[zc (x:=(a:Int)+b),show (a:Int)+b=((a+b:Nat):Int) by push_cast;rfl]
  rfl
 |succ c ih=>
  intro i hi
  have hil:i<ks.length:=by omega
  obtain ⟨s1,s2⟩:=hs _ (List.getElem_mem hil)
  have hmul:i*(a+b)+(a+b)<=ks.length*(a+b):=by
   have:=Nat.mul_le_mul_right (a+b) (show i+1<=ks.length by omega)
   rw[Nat.add_mul,Nat.one_mul] at this
   exact this
  have hel:(els a b (ks.take i)).length=i*(a+b):=by rw[Xg,zqN,Nat.min_eq_left (by omega)]
  have h1:=qd (W:=W0++els a b (ks.take i)) s1 (n:=a) (by omega) s2 (by rw[zqS,hel];omega)
  have h2:=qe (W:=W0++els a b (ks.take i)++zW a ks[i].data) (n:=b) (by omega) (by rw[zqS,zqS,hel,yZ];omega)
  unfold wh at h1 h2
  rw[zaN,dT ((i:Int)<(ks.length:Int)),dT (0<=(i:Int)),decide_eq_true (show (i:Int)<((zr ks).length:Int) by simp;omega)]
  dsimp only[zj,zb,zA,zqR]
  rw[zqK,wq hil]
  dsimp only[zqR]
  rw[vV,vU,show (ks[i].c.drop 0).take 5=ks[i].c from rfl]
  dsimp only[Nd.c,zqP,zqQ,zqR,xu,zj,yh,zb]
  rw[h1]
  dsimp only[zv,zqP,Zj,zP,zqR,zb,vA]
  rw[xg]
  dsimp only[zqR]
  rw[h2]
  dsimp only[zv,zqP,Zj,zP,zqR,z9,zb,vA]
  rw[xg]
  dsimp only[zqR]
  rw[yq (by simp;omega) (by simp;omega),zc (x:=(i:Int)+1)]
  have e1:(List.range i).map (fun j=>I ((W0.length+j*(a+b)+a:Nat):Int))++[I ((W0++els a b (ks.take i)++zW a ks[i].data).length:Int)]=(List.range (i+1)).map fun j=>I ((W0.length+j*(a+b)+a:Nat):Int):=by
   rw[List.range_succ,List.map_append,List.map_singleton,zqS,zqS,hel,yZ]
  have e2:W0++els a b (ks.take i)++zW a ks[i].data++List.replicate b 0=W0++els a b (ks.take (i+1)):=by
   rw[xH hil]
   unfold els
   rw[List.flatMap_append,List.flatMap_singleton]
   simp only[List.append_assoc]
  have:=ih (i+1) (by omega)
  rw[←e1,←e2] at this
  exact this
theorem zg3 {W:List Int} {ks:List Nd} {n:Int} (hn:0<=n/\n<=536870911) (hk:(ks.length:Int)=n) (hs:∀ k∈ks,(∀ x∈k.data,zF x)/\k.data.length%8=0/\k.data.length<=524280/\k.kids.length<=65535) (hl:W.length+1+ks.length*(zm ks+zo ks)<=268435456) :
  ev 270 [.ptr 0 0,.pv (.agg [I 2,I 7,I n,.sl 1 [],.sl 5 (zr ks)])] (wh W) =
  some (.ret (.pv (.tup [vw 0 7 (n*((zm ks+zo ks:Nat):Int)),.sl 1 ((List.range ks.length).map fun j=>I ((W.length+1+j*(zm ks+zo ks)+zm ks:Nat):Int))])),wh (W++(yg n (zm ks) (zo ks)::els (zm ks) (zo ks) ks))):=by
 have hud:zm ks<=65535:=Yu fun x hx=>by have:=(hs x hx).2.2.1;omega
 have huq:zo ks<=65535:=Yv fun x hx=>(hs x hx).2.2.2
 have hU:=jk (x:=.mk 2 7 n [] ks) (by show ks.length<=_;omega) (fun y hy=>by have:=(hs y hy).2.2.1;omega)
 have hE:=JR (off:=n) (d:=zm ks) (q:=zo ks) (by omega) hud huq
 have hu:ev 219 [.pv (.agg [I 2,I 7,I n,.sl 1 [],.sl 5 (zr ks)])] []=ok (.tup [I (zm ks:Nat),I (zo ks:Nat)]):=hU
 have hL:=zj9 (W0:=W++[yg n (zm ks) (zo ks)]) (ks:=ks) hud huq (by omega) (fun k hk=>⟨(hs k hk).1,by have:=JB hk;have:=(hs k hk).2.1;omega⟩) (by rw[zqS,List.length_singleton];omega) 2 7 n [] (zr ks) 0 0 0 0 0 0 false 0 0 0 ks.length 0 (by omega)
 unfold wh at hL ⊢
 rw[ziO,hu]
 dsimp only[zv,zP,zqR,zK,zqQ,zqP,yh,zj,zb]
 rw[hE]
 dsimp only[zv,zP,zqR,zK,zqQ,zqP,z9]
 rw[zZ,yq (by omega) (by omega),xG,WI]
 have hL':=hL
 rw[List.take_zero,show els (zm ks) (zo ks) []=[] from rfl,List.append_nil] at hL'
 refine Eq.trans (show _=_ from hL') ?_
 have e1:W++[yg n (zm ks) (zo ks)]++els (zm ks) (zo ks) ks=W++(yg n (zm ks) (zo ks)::els (zm ks) (zo ks) ks):=by simp
 have hnu:n*((zm ks+zo ks:Nat):Int)=((ks.length*(zm ks+zo ks):Nat):Int):=by rw[←hk];push_cast;rfl
 rw[e1,zqS,List.length_singleton,zc (by rw[hnu];omega)]
theorem zan {D:Nat} {x:Nd} (h:Ok D x):((body D x).length:Int)=zM D x:=zam D h.vn h.dp
theorem K0 {D:Nat} {t:Nd} (h:Ok D t) (a:Nat) (W:List Int):((va (body D) a t W).length:Int)=W.length+zM D t:=by
 unfold va
 split
 ·rename_i h0
  rw[Wj h.vn h0,Int.add_zero]
 ·rw[zqS,List.length_set,←zan h]
  push_cast
  rfl
theorem zen {D:Nat}:∀ (l:List (Nat×Nd)) (W:List Int),(∀ p∈l,Ok D p.2)->((xp (body D) l W).length:Int)=W.length+zt (l.map fun p=>zM D p.2)
 |[],W,_=>by simp[xp,vf]
 |(a,t)::r,W,h=>by
  rw[xp,zen r _ (fun p hp=>h p (zqI _ hp)),K0 (h (a,t) zqJ),List.map_cons,wI]
  dsimp only
  omega
theorem zdT:∀ (q:List Nd) (i:Nat) (p:Nat×Nd),p∈yn i q->p.2∈q
 |[],i,p,h=>by cases h
 |t::r,i,p,h=>by
  rw[yn] at h
  rcases List.mem_cons.1 h with rfl|h
  ·exact zqJ
  ·exact zqI _ (zdT r _ p h)
theorem zdU (f:Nd->Int):∀ (q:List Nd) (i:Nat),zt ((yn i q).map fun p=>f p.2)=zt (q.map f)
 |[],i=>rfl
 |t::r,i=>by rw[yn,List.map_cons,List.map_cons,wI,wI,zdU f r]
theorem Yy (L:List Int) (i:Nat) (w:Int):(ws L).set i (U w)=ws (L.set i w):=by simp[ws,List.map_set]
def XD (D:Nat) (t:Nd):Prop:=∀ (W:List Int) (a:Nat),a<W.length->(W.length:Int)+zM D t<=268435456->ev 228 [.ptr 0 0,.pv (I (a:Int)),.pv t.x] (wh W)=some (.ret (.pv (.tup [])),wh (va (body D) a t W))
theorem zdJ {D:Nat} {t:Nd} (h:t.kind=0):XD D t:=fun W a ha hl=>by
 unfold wh va
 rw[Nd.x,W6,beq_iff_eq.2 h,if_pos h]
 rfl
section
variable {D:Nat} {q:List Nd} (hq:q.length<=268435456) (hP:∀ t∈q,XD D t) (hO:∀ t∈q,Ok D t) (xs0:List PV) (p2:PV) (i3 i4 i9 i10 i11:Int) (xs12 xs13:List PV) (p14:PV) (i15:Int) (p16 p17 p18 p19 p20 p21 p22 p23:PV) {f:Nat}
include hq hP hO
theorem zfO:∀ (c j:Nat) (W:List Int),j+c=q.length->f+q.length<=W.length->(W.length:Int)+zt ((q.drop j).map (zM D))<=268435456->
  QT xs0 (I (f:Int)) p2 i3 i4 (.sl 5 (zr q)) q.length j (ws W) i9 i10 i11 xs12 xs13 p14 i15 p16 p17 p18 p19 p20 p21 p22 p23=ZR xs0 p2 i3 (IntKind.wrap .i64 (i4+1)) (ws (xp (body D) (yn (f+j) (q.drop j)) W)) i9 i10 i11 xs12 xs13 p14 i15 p16 p17 p18 p19 p20 p21 p22 p23:=by
 intro c
 induction c with
 |zero=>
  intro j W hj hf hl
  rw[zaQ,decide_eq_false (by omega),List.drop_eq_nil_of_le (by omega)]
  rfl
 |succ c ih=>
  intro j W hj hf hl
  have hjl:j<q.length:=by omega
  have ho:=hO _ (List.getElem_mem hjl)
  rw[XX hjl] at hl
  have hnn:=wm D ho.vn
  have hr:0<=zt ((q.drop (j+1)).map (zM D)):=wJ fun y hy=>by
   obtain ⟨t,ht,rfl⟩:=List.mem_map.1 hy
   exact wm D (hO t (List.mem_of_mem_drop ht)).vn
  have h1:=hP _ (List.getElem_mem hjl) W (f+j) (by omega) (by omega)
  have hlen:=K0 ho (f+j) W
  unfold wh at h1
  dsimp only[Nd.x] at h1
  rw[zaQ,dT ((j:Int)<(q.length:Int))]
  dsimp only[yt,zA,zqR,zb]
  rw[decide_eq_true (show (5:Nat)=5 from rfl),dT (0<=(j:Int)),decide_eq_true (show (j:Int)<((zr q).length:Int) by simp;omega)]
  dsimp only[zj,zb]
  rw[zqK,wq hjl]
  dsimp only[zqR]
  rw[vV,vU,show (q[j].c.drop 0).take 5=q[j].c from rfl]
  dsimp only[Nd.c,zqP,zqQ,zqR,xu,zj,yh,zb]
  rw[zc (x:=(f:Int)+j),show (f:Int)+j=((f+j:Nat):Int) by push_cast;rfl,h1]
  dsimp only[zv,zqP,Zj,zP,zqR,zb,vA]
  rw[xg,zc (x:=(j:Int)+1)]
  dsimp only[zqR]
  have:=ih (j+1) (va (body D) (f+j) q[j] W) (by omega) (by omega) (by omega)
  rw[List.drop_eq_getElem_cons hjl,yn,xp]
  exact this
theorem zfP:∀ (c j:Nat) (W:List Int),j+c=q.length->f+q.length<=W.length->(W.length:Int)+zt ((q.drop j).map (zM D))<=268435456->
  QU xs0 (I (f:Int)) p2 i3 i4 (.sl 5 (zr q)) q.length j (ws W) i9 i10 i11 xs12 xs13 p14 i15 p16 p17 p18 p19 p20 p21 p22 p23=Y9 xs0 p2 i3 (IntKind.wrap .i64 (i4+1)) (ws (xp (body D) (yn (f+j) (q.drop j)) W)) i9 i10 i11 xs12 xs13 p14 i15 p16 p17 p18 p19 p20 p21 p22 p23:=by
 intro c
 induction c with
 |zero=>
  intro j W hj hf hl
  rw[zaR,decide_eq_false (by omega),List.drop_eq_nil_of_le (by omega)]
  rfl
 |succ c ih=>
  intro j W hj hf hl
  have hjl:j<q.length:=by omega
  have ho:=hO _ (List.getElem_mem hjl)
  rw[XX hjl] at hl
  have hnn:=wm D ho.vn
  have hr:0<=zt ((q.drop (j+1)).map (zM D)):=wJ fun y hy=>by
   obtain ⟨t,ht,rfl⟩:=List.mem_map.1 hy
   exact wm D (hO t (List.mem_of_mem_drop ht)).vn
  have h1:=hP _ (List.getElem_mem hjl) W (f+j) (by omega) (by omega)
  have hlen:=K0 ho (f+j) W
  unfold wh at h1
  dsimp only[Nd.x] at h1
  rw[zaR,dT ((j:Int)<(q.length:Int))]
  dsimp only[yt,zA,zqR,zb]
  rw[decide_eq_true (show (5:Nat)=5 from rfl),dT (0<=(j:Int)),decide_eq_true (show (j:Int)<((zr q).length:Int) by simp;omega)]
  dsimp only[zj,zb]
  rw[zqK,wq hjl]
  dsimp only[zqR]
  rw[vV,vU,show (q[j].c.drop 0).take 5=q[j].c from rfl]
  dsimp only[Nd.c,zqP,zqQ,zqR,xu,zj,yh,zb]
  rw[zc (x:=(f:Int)+j),show (f:Int)+j=((f+j:Nat):Int) by push_cast;rfl,h1]
  dsimp only[zv,zqP,Zj,zP,zqR,zb,vA]
  rw[xg,zc (x:=(j:Int)+1)]
  dsimp only[zqR]
  have:=ih (j+1) (va (body D) (f+j) q[j] W) (by omega) (by omega) (by omega)
  rw[List.drop_eq_getElem_cons hjl,yn,xp]
  exact this
end
theorem rX {D:Nat} {x:Nd} (hq:x.kids.length<=268435456) (hP:∀ t∈x.kids,XD D t) (hO:∀ t∈x.kids,Ok D t) (i9 i10 i11:Int) (xs12 xs13:List PV) (p14:PV) (i15:Int) (p16 p17 p18 p19 p20 p21 p22 p23:PV) {f:Nat} {W:List Int} (hf:f+x.kids.length<=W.length) (hl:(W.length:Int)+zt (x.kids.map (zM D))<=268435456) :
  ZR [.agg [I x.kind,I x.elem,I x.n,.sl 1 (bs x.data),.sl 5 (zr x.kids)]] (.sl 1 [I (f:Int)]) 1 0 (ws W) i9 i10 i11 xs12 xs13 p14 i15 p16 p17 p18 p19 p20 p21 p22 p23=some (.ret (.pv (.tup [])),wh (xp (body D) (yn f x.kids) W)):=by
 have h:=zfO hq hP hO [.agg [I x.kind,I x.elem,I x.n,.sl 1 (bs x.data),.sl 5 (zr x.kids)]] (.sl 1 [I (f:Int)]) 1 0 i9 i10 i11 xs12 xs13 p14 i15 p16 p17 p18 p19 p20 p21 p22 p23 (f:=f) x.kids.length 0 W (by omega) hf (by rw[List.drop_zero];exact hl)
 rw[qx,decide_eq_true (show (0:Int)<1 by decide)]
 dsimp only[yt,zqR,zb]
 rw[decide_eq_true (show (1:Nat)=1 from rfl),decide_eq_true (show (0:Int)<=0 by decide),decide_eq_true (show (0:Int)<(([I (f:Int)]:List PV).length:Int) by simp),decide_eq_true (show (0:Int)<(([.agg [I x.kind,I x.elem,I x.n,.sl 1 (bs x.data),.sl 5 (zr x.kids)]]:List PV).length:Int) by simp),show (0:Int).toNat=0 from rfl]
 dsimp only[zj,zqP,zqR,Kl,zqQ,yt,zb,z9]
 rw[xG]
 refine (show _=_ from h).trans ?_
 rw[qx,show IntKind.wrap .i64 (0+1)=1 from rfl,decide_eq_false (by decide),List.drop_zero,Nat.add_zero]
 rfl
theorem zfN {D:Nat} {ks:List Nd} {a b s:Nat} (hq:ks.length<=536870911) (hk:∀ k∈ks,k.kids.length<=b) (hP:∀ k∈ks,∀ t∈k.kids,XD D t) (hO:∀ k∈ks,∀ t∈k.kids,Ok D t) (i9 i10 i11:Int) (xs12 xs13:List PV) (p14:PV) (i15:Int) (p16 p17 p18 p19 p20 p21 p22 p23:PV) (hb:b<=65535):∀ (c i:Nat) (W:List Int),i+c=ks.length->s+ks.length*(a+b)<=W.length->(W.length:Int)+zt ((ks.drop i).map fun k=>zt (k.kids.map (zM D)))<=268435456->
  Y9 (zr ks) (.sl 1 ((List.range ks.length).map fun j=>I ((s+j*(a+b)+a:Nat):Int))) ks.length i (ws W) i9 i10 i11 xs12 xs13 p14 i15 p16 p17 p18 p19 p20 p21 p22 p23=some (.ret (.pv (.tup [])),wh (xp (body D) (yX a (a+b) (s+i*(a+b)) (ks.drop i)) W)):=by
 intro c
 induction c with
 |zero=>
  intro i W hi hs hl
  rw[zaP,decide_eq_false (by omega),List.drop_eq_nil_of_le (by omega)]
  rfl
 |succ c ih=>
  intro i W hi hs hl
  have hil:i<ks.length:=by omega
  have hmem:=List.getElem_mem hil
  have hmul:i*(a+b)+(a+b)<=ks.length*(a+b):=by
   have:=Nat.mul_le_mul_right (a+b) (show i+1<=ks.length by omega)
   rw[Nat.add_mul,Nat.one_mul] at this
   exact this
  have nn:∀ k∈ks,0<=zt (k.kids.map (zM D)):=fun k hk=>wJ fun y hy=>by
   obtain ⟨t,ht,rfl⟩:=List.mem_map.1 hy
   exact wm D (hO k hk t ht).vn
  rw[XX hil] at hl
  have hr:0<=zt ((ks.drop (i+1)).map fun k=>zt (k.kids.map (zM D))):=wJ fun y hy=>by
   obtain ⟨t,ht,rfl⟩:=List.mem_map.1 hy
   exact nn t (List.mem_of_mem_drop ht)
  have hkb:=hk _ hmem
  have h:=zfP (q:=ks[i].kids) (by omega) (hP _ hmem) (hO _ hmem) (zr ks) (.sl 1 ((List.range ks.length).map fun j=>I ((s+j*(a+b)+a:Nat):Int))) ks.length i i9 i10 i11 xs12 xs13 p14 i15 p16 p17 p18 p19 p20 p21 p22 p23 (f:=s+i*(a+b)+a) ks[i].kids.length 0 W (by omega) (by omega) (by rw[List.drop_zero];omega)
  rw[zaP,dT ((i:Int)<(ks.length:Int))]
  dsimp only[yt,zqR,zb]
  rw[decide_eq_true (show (1:Nat)=1 from rfl),dT ((0:Int)<=i),decide_eq_true (show (i:Int)<(((List.range ks.length).map fun j=>I ((s+j*(a+b)+a:Nat):Int)).length:Int) by simp;omega),decide_eq_true (show (i:Int)<((zr ks).length:Int) by simp;omega),zqK,List.getElem?_map,List.getElem?_range hil,wq hil]
  dsimp only[zj,Option.map_some,zqR,zb,z9,zqP]
  rw[vU]
  dsimp only[Nd.c,zqQ,zqP,zqR,yt]
  rw[xG]
  refine (show _=_ from h).trans ?_
  rw[zc (x:=(i:Int)+1),List.drop_zero,Nat.add_zero]
  have hsum:=zdU (zM D) ks[i].kids (s+i*(a+b)+a)
  have hlen:=zen (yn (s+i*(a+b)+a) ks[i].kids) W (fun p hp=>hO _ hmem p.2 (zdT _ _ p hp))
  rw[hsum] at hlen
  have h0:=nn _ hmem
  have:=ih (i+1) (xp (body D) (yn (s+i*(a+b)+a) ks[i].kids) W) (by omega) (by omega) (by omega)
  rw[show s+(i+1)*(a+b)=s+i*(a+b)+(a+b) by rw[Nat.add_mul,Nat.one_mul];omega] at this
  refine (show _=_ from this).trans ?_
  rw[List.drop_eq_getElem_cons hil,yX,gq]
theorem zkZ (o d q:Int):xx [false,false,false,false,false,false,true,false,false,false] [I 0,I o,I d,I q,I 0,I 0,Bo false,I 0,yD 0,yD 0] [I 0,I o,I 0,I 0,I 0,I 0,Bo false,I 0,yD 0,yD 0]=some ((d==0)&&(q==0)):=by
 simp[xx]
theorem q9 (o e c:Int):xx [false,false,false,false,false,false,true,false,false,false] [I 1,I o,I 0,I 0,I e,I c,Bo false,I 0,yD 0,yD 0] [I 0,I o,I 0,I 0,I 0,I 0,Bo false,I 0,yD 0,yD 0]=some false:=by
 simp[xx]
theorem zd1 {L:List Int} {a:Nat} (ha:a<L.length) (w:Int):∃ y,(ws L)[a]? = some (U y):=⟨L[a],vZ ha⟩
theorem zeQ {D:Nat} {x:Nd} (h:Ok (D+1) x) (h0:x.kind≠0):0<=zt ((yi x).map (zM D)):=wJ fun y hy=>by
 obtain ⟨t,ht,rfl⟩:=List.mem_map.1 hy
 exact wm D (VR h h0 t ht).vn
theorem zdH:∀ (D:Nat) (x:Nd),Ok D x->XD D x
 |0,x,h=>zdJ h.dp
 |D+1,x,h=>by
  by_cases h0:x.kind=0
  ·exact zdJ h0
  ·intro W a ha hl
   have hT:=VR h h0
   have hP:∀ t∈yi x,XD D t:=fun t ht=>zdH D t (hT t ht)
   have hsn:=zeQ h h0
   have hon:=Xj h.vn
   rw[zM] at hl
   rw[zdG h.vn h0 ha]
   have hsl:=zeC (B:=body D) h.vn h0
   have hol:=uH (body D) h.vn h0
   have hWl:(W++xr x).length=W.length+(xU (body D) x).length:=by rw[zqS,hsl]
   obtain ⟨hs,hkk⟩:=wB h.vn
   have hal:a<(W++xr x).length:=by omega
   obtain ⟨y0,hy0⟩:=zd1 hal 0
   rcases hs with hs|hs|hs
   ·exact absurd hs.1 h0
   ·obtain ⟨d,ks,rfl,g1,g2,g3,g4,g5,g6⟩:=Z4 h.vn h.tr h.gd hs.1
    have et:yi (.mk 1 0 0 d ks)=ks:=rfl
    rw[et] at hT hP hl hsn
    have ew:xr (.mk 1 0 0 d ks)=zW (d.length/8) d++List.replicate ks.length 0:=rfl
    have ep:xF (.mk 1 0 0 d ks) W.length=yn (W.length+d.length/8) ks:=rfl
    have eo:yG (.mk 1 0 0 d ks)=((d.length/8+ks.length:Nat):Int):=rfl
    rw[ew] at hal hWl hy0 ⊢
    rw[eo] at hol hl
    rw[ep]
    have hst:=zg6 (W:=W) g3 g4 g5 g6 (by omega) 0 0 (ks:=ks)
    have hloop:∀ (w:Int) (p14:PV) (i15:Int) (p16 p17 p18 p19 p20 p21 p22 p23:PV),ZR [.agg [I 1,I 0,I 0,.sl 1 (bs d),.sl 5 (zr ks)]] (.sl 1 [I ((W.length+d.length/8:Nat):Int)]) 1 0 (ws ((W++(zW (d.length/8) d++List.replicate ks.length 0)).set a w)) 1 0 0 (bs d) (zr ks) p14 i15 p16 p17 p18 p19 p20 p21 p22 p23=some (.ret (.pv (.tup [])),wh (xp (body D) (yn (W.length+d.length/8) ks) ((W++(zW (d.length/8) d++List.replicate ks.length 0)).set a w))):=fun w p14 i15 p16 p17 p18 p19 p20 p21 p22 p23=>
     rX (x:=.mk 1 0 0 d ks) (by show ks.length<=_;omega) hP hT 1 0 0 (bs d) (zr ks) p14 i15 p16 p17 p18 p19 p20 p21 p22 p23 (by rw[List.length_set,hWl];show _+ks.length<=_;omega) (by rw[List.length_set,hWl];show _+zt (ks.map (zM D))<=_;push_cast;omega)
    unfold wh at hst hloop ⊢
    show ev 228 [.ptr 0 0,.pv (I (a:Int)),.pv (.agg [I 1,I 0,I 0,.sl 1 (bs d),.sl 5 (zr ks)])] _=_
    rw[W6,show ((1:Int)==0)=false from rfl,show ((1:Int)==1)=true from rfl,hst]
    dsimp only[WL,zv,zqP,Zj,zP,zqR,zK,zqQ,yt,vg,yh,zj,zb,vA,zl]
    rw[xg,zZ,zc (x:=(W.length:Int)-a),zc (x:=(W.length:Int)-a-1),zkZ]
    dsimp only[zqR]
    by_cases hz:d.length/8=0/\ks.length=0
    ·have hE:=JR (off:=-1) (d:=d.length/8) (q:=ks.length) (by decide) (by omega) g6
     have e1:yN (.mk 1 0 0 d ks) ((W.length:Int)-a-1)=yg (-1) (d.length/8) ks.length:=by
      show (if (1:Int)=0 then 0 else if (1:Int)=1 then (if d.length/8=0/\ks.length=0 then yg (-1) 0 0 else _) else _)=_
      rw[if_neg (by decide),if_pos rfl,if_pos hz,hz.1,hz.2]
     rw[e1,show (((d.length/8:Nat):Int)==0)=true from by simp[hz.1],show ((ks.length:Int)==0)=true from by simp[hz.2]]
     dsimp only[zj,zb]
     rw[hE]
     dsimp only[zv,zP,zqR,zK,zqQ,zqP,yh,zj,zb]
     rw[dT (0<=(a:Int)),decide_eq_true (show (a:Int)<((ws (W++(zW (d.length/8) d++List.replicate ks.length 0))).length:Int) by rw[zZ];omega),zqK,hy0]
     dsimp only[zj,setCells,zqT,List.length_nil,zqR,z9,zb]
     rw[Yy]
     exact hloop _ _ _ _ _ _ _ _ _ _ _
    ·have hE:=JR (off:=(W.length:Int)-a-1) (d:=d.length/8) (q:=ks.length) (by omega) (by omega) g6
     have e1:yN (.mk 1 0 0 d ks) ((W.length:Int)-a-1)=yg ((W.length:Int)-a-1) (d.length/8) ks.length:=by
      show (if (1:Int)=0 then 0 else if (1:Int)=1 then (if d.length/8=0/\ks.length=0 then _ else yg ((W.length:Int)-a-1) (d.length/8) ks.length) else _)=_
      rw[if_neg (by decide),if_pos rfl,if_neg hz]
     have e2:((((d.length/8:Nat):Int)==0)&&((ks.length:Int)==0))=false:=by
      rw[Bool.and_eq_false_iff]
      by_cases h1:d.length/8=0
      ·right;exact beq_eq_false_iff_ne.2 (fun h2=>hz ⟨h1,by omega⟩)
      ·left;exact beq_eq_false_iff_ne.2 (fun h2=>h1 (by omega))
     rw[e1,e2]
     dsimp only[zl]
     rw[hE]
     dsimp only[zv,zP,zqR,zK,zqQ,zqP,yh,zj,zb]
     rw[dT (0<=(a:Int)),decide_eq_true (show (a:Int)<((ws (W++(zW (d.length/8) d++List.replicate ks.length 0))).length:Int) by rw[zZ];omega),zqK,hy0]
     dsimp only[zj,setCells,zqT,List.length_nil,zqR,z9,zb]
     rw[Yy]
     exact hloop _ _ _ _ _ _ _ _ _ _ _
   ·cases x with
    |mk k e n d ks=>
     obtain ⟨k2,hn,he,h6,hl6⟩:=hs
     have k2':k=2:=k2
     subst k2'
     have hn':0<=n/\n<=536870911:=hn
     have he':0<=e/\e<=7:=he
     have hg:=h.gd
     rw[yw] at hg
     by_cases e7:e=7
     ·subst e7
      obtain ⟨a1,a2⟩:=h6 (show (6:Int)<=7 by decide)
      obtain rfl:d=[]:=List.length_eq_zero_iff.1 a1
      have a2':(ks.length:Int)=n:=a2
      have hst:∀ k∈ks,k.kind=1:=by
       cases h.vn with
       |mk v1 v2 v3=>exact v2 rfl rfl
      have htr:∀ k∈ks,TrN k:=by
       cases h.tr with
       |mk t1 t2=>exact t2
      have hparts:∀ k∈ks,(∀ x∈k.data,zF x)/\k.data.length%8=0/\k.data.length<=524280/\k.kids.length<=65535:=fun k hk=>by
       obtain ⟨d,q,rfl,g1,g2,g3,g4,g5,g6⟩:=Z4 (hkk k hk) (htr k hk) (goods_iff.1 hg.2 k hk) (hst k hk)
       exact ⟨g3,g4,g5,g6⟩
      have et:yi (.mk 2 7 n [] ks)=ks.flatMap Nd.kids:=rfl
      rw[et] at hT hP hl hsn
      rw[V5] at hl hsn
      have ew:xr (.mk 2 7 n [] ks)=yg n (zm ks) (zo ks)::els (zm ks) (zo ks) ks:=rfl
      have ep:xF (.mk 2 7 n [] ks) W.length=yX (zm ks) (zm ks+zo ks) (W.length+1) ks:=rfl
      have eo:yG (.mk 2 7 n [] ks)=1+n*((zm ks+zo ks:Nat):Int):=rfl
      have hnu:n*((zm ks+zo ks:Nat):Int)=((ks.length*(zm ks+zo ks):Nat):Int):=by rw[←a2'];push_cast;rfl
      rw[eo,hnu] at hol hl
      rw[ew] at hal hWl hy0 ⊢
      rw[ep]
      have hud:zm ks<=65535:=Yu fun x hx=>by have:=(hparts x hx).2.2.1;omega
      have huq:zo ks<=65535:=Yv fun x hx=>(hparts x hx).2.2.2
      have hkl2:ks.length<=536870911:=by omega
      have hst':=zg3 (W:=W) (n:=n) (ks:=ks) hn' a2' hparts (by omega)
      have hE:=r9 (off:=(W.length:Int)-a-1) (e:=7) (c:=((ks.length*(zm ks+zo ks):Nat):Int)) (by omega) (by decide) (by omega)
      have e1:yN (.mk 2 7 n [] ks) ((W.length:Int)-a-1)=yE ((W.length:Int)-a-1) 7 ((ks.length*(zm ks+zo ks):Nat):Int):=by rw[←hnu];rfl
      have hloop:∀ (w:Int) (p14:PV) (i15:Int) (p16 p17 p18 p19 p20 p21 p22 p23:PV),Y9 (zr ks) (.sl 1 ((List.range ks.length).map fun j=>I ((W.length+1+j*(zm ks+zo ks)+zm ks:Nat):Int))) ks.length 0 (ws ((W++(yg n (zm ks) (zo ks)::els (zm ks) (zo ks) ks)).set a w)) 2 7 n [] (zr ks) p14 i15 p16 p17 p18 p19 p20 p21 p22 p23=some (.ret (.pv (.tup [])),wh (xp (body D) (yX (zm ks) (zm ks+zo ks) (W.length+1) ks) ((W++(yg n (zm ks) (zo ks)::els (zm ks) (zo ks) ks)).set a w))):=fun w p14 i15 p16 p17 p18 p19 p20 p21 p22 p23=>by
       have:=zfN (D:=D) (ks:=ks) (a:=zm ks) (b:=zo ks) (s:=W.length+1) hkl2 (fun k hk=>Yw hk) (fun k hk t ht=>hP t (List.mem_flatMap.2 ⟨k,hk,ht⟩)) (fun k hk t ht=>hT t (List.mem_flatMap.2 ⟨k,hk,ht⟩)) 2 7 n [] (zr ks) p14 i15 p16 p17 p18 p19 p20 p21 p22 p23 huq ks.length 0 ((W++(yg n (zm ks) (zo ks)::els (zm ks) (zo ks) ks)).set a w) (by omega) (by rw[List.length_set,hWl];omega) (by rw[List.length_set,hWl,List.drop_zero];push_cast;omega)
       rw[List.drop_zero,Nat.zero_mul,Nat.add_zero] at this
       exact this
      unfold wh at hst' hloop ⊢
      show ev 228 [.ptr 0 0,.pv (I (a:Int)),.pv (.agg [I 2,I 7,I n,.sl 1 [],.sl 5 (zr ks)])] _=_
      rw[W6,show ((2:Int)==0)=false from rfl,show ((2:Int)==1)=false from rfl,show ((7:Int)==7)=true from rfl,hst']
      dsimp only[vw,zv,zqP,Zj,zP,zqR,zK,zqQ,yt,vg,yh,zj,zb,vA,zl]
      rw[xg,zZ,zc (x:=(W.length:Int)-a),zc (x:=(W.length:Int)-a-1),q9]
      dsimp only[zqR,zl]
      rw[e1,hnu,hE]
      dsimp only[zv,zP,zqR,zK,zqQ,zqP,yh,zj,zb]
      rw[dT (0<=(a:Int)),decide_eq_true (show (a:Int)<((ws (W++(yg n (zm ks) (zo ks)::els (zm ks) (zo ks) ks))).length:Int) by rw[zZ];omega),zqK,hy0]
      dsimp only[zj,setCells,zqR,z9,zqT,List.length_nil,zb]
      rw[Yy,zqH,List.length_range]
      exact hloop _ _ _ _ _ _ _ _ _ _ _
     ·have et:yi (.mk 2 e n d ks)=ks:=by
       show (if (2:Int)=2/\e=7 then _ else ks)=_
       rw[if_neg (fun h=>e7 h.2)]
      have eo:yG (.mk 2 e n d ks)=zn e n:=by
       unfold yG
       show (if (2:Int)=0 then 0 else if (2:Int)=1 then _ else if e=7 then _ else zn e n)=_
       rw[if_neg (by decide),if_neg (by decide),if_neg e7]
      rw[et] at hT hP hl hsn
      have ep:xF (.mk 2 e n d ks) W.length=yn W.length ks:=by
       show (if (2:Int)=1 then _ else if e=7 then _ else yn W.length ks)=_
       rw[if_neg (by decide),if_neg e7]
      have e1:yN (.mk 2 e n d ks) ((W.length:Int)-a-1)=yE ((W.length:Int)-a-1) e n:=by
       show (if (2:Int)=0 then 0 else if (2:Int)=1 then _ else if e=7 then _ else yE ((W.length:Int)-a-1) e n)=_
       rw[if_neg (by decide),if_neg (by decide),if_neg e7]
      have hE:=r9 (off:=(W.length:Int)-a-1) (e:=e) (c:=n) (by omega) he' hn'
      rw[ep,e1]
      rw[eo] at hol hl
      by_cases e6:e=6
      ·subst e6
       obtain ⟨a1,a2⟩:=h6 (show (6:Int)<=6 by decide)
       obtain rfl:d=[]:=List.length_eq_zero_iff.1 a1
       have a2':(ks.length:Int)=n:=a2
       have hw6:zn 6 n=n:=by unfold zn bitsOf;simp;omega
       rw[hw6] at hol hl
       have ew:xr (.mk 2 6 n [] ks)=List.replicate ks.length 0:=rfl
       rw[ew] at hal hWl hy0 ⊢
       have hst':=zg5 (W:=W) (ks:=ks) (n:=ks.length) (by omega) (by omega) (bs [])
       rw[a2'] at hst'
       have hloop:∀ (w:Int) (p14:PV) (i15:Int) (p16 p17 p18 p19 p20 p21 p22 p23:PV),ZR [.agg [I 2,I 6,I n,.sl 1 (bs []),.sl 5 (zr ks)]] (.sl 1 [I (W.length:Int)]) 1 0 (ws ((W++List.replicate ks.length 0).set a w)) 2 6 n (bs []) (zr ks) p14 i15 p16 p17 p18 p19 p20 p21 p22 p23=some (.ret (.pv (.tup [])),wh (xp (body D) (yn W.length ks) ((W++List.replicate ks.length 0).set a w))):=fun w p14 i15 p16 p17 p18 p19 p20 p21 p22 p23=>
        rX (x:=.mk 2 6 n [] ks) (by show ks.length<=_;omega) hP hT 2 6 n (bs []) (zr ks) p14 i15 p16 p17 p18 p19 p20 p21 p22 p23 (by rw[List.length_set,hWl];show _+ks.length<=_;omega) (by rw[List.length_set,hWl];show _+zt (ks.map (zM D))<=_;push_cast;omega)
       unfold wh at hst' hloop ⊢
       show ev 228 [.ptr 0 0,.pv (I (a:Int)),.pv (.agg [I 2,I 6,I n,.sl 1 (bs []),.sl 5 (zr ks)])] _=_
       rw[W6,show ((2:Int)==0)=false from rfl,show ((2:Int)==1)=false from rfl,show ((6:Int)==7)=false from rfl,hst']
       dsimp only[vw,zv,zqP,Zj,zP,zqR,zK,zqQ,yt,vg,yh,zj,zb,vA,zl]
       rw[xg,zZ,zc (x:=(W.length:Int)-a),zc (x:=(W.length:Int)-a-1),q9]
       dsimp only[zqR,zl]
       rw[hE]
       dsimp only[zv,zP,zqR,zK,zqQ,zqP,yh,zj,zb]
       rw[dT (0<=(a:Int)),decide_eq_true (show (a:Int)<((ws (W++List.replicate ks.length 0)).length:Int) by rw[zZ];omega),zqK,hy0]
       dsimp only[zj,setCells,zqT,List.length_nil,zqR,z9,zb]
       rw[Yy]
       exact hloop _ _ _ _ _ _ _ _ _ _ _
      ·obtain ⟨b1,b2,b3⟩:=hl6 (show e<6 by omega)
       obtain rfl:ks=[]:=List.length_eq_zero_iff.1 b1
       have b2':(d.length:Int)=z5 e n:=b2
       have hwr:=Zy (e:=e) hn'
       have ew:xr (.mk 2 e n d [])=zW (zn e n).toNat d:=by
        show (if (2:Int)=1 then _ else if e=7 then _ else if e=6 then _ else zW (zn e n).toNat d)=_
        rw[if_neg (by decide),if_neg e7,if_neg e6]
       rw[ew] at hal hWl hy0 ⊢
       have hO:=jc h.gd h.vn (by rw[eo];omega) (by show 0+0<=_;decide)
       rw[eo] at hO
       have hst':=zg4 (W:=W) (ks:=[]) ⟨he'.1,by omega⟩ hn' hg.1.2.1 b2' (by simp only[List.map_nil,vf] at hl;omega) (by omega) hO
       unfold wh at hst' ⊢
       show ev 228 [.ptr 0 0,.pv (I (a:Int)),.pv (.agg [I 2,I e,I n,.sl 1 (bs d),.sl 5 (zr [])])] _=_
       rw[W6,show ((2:Int)==0)=false from rfl,show ((2:Int)==1)=false from rfl,beq_eq_false_iff_ne.2 e7,hst']
       dsimp only[vw,zv,zqP,Zj,zP,zqR,zK,zqQ,yt,vg,yh,zj,zb,vA,zl]
       rw[xg,zZ,zc (x:=(W.length:Int)-a),zc (x:=(W.length:Int)-a-1),q9]
       dsimp only[zqR,zl]
       rw[hE]
       dsimp only[zv,zP,zqR,zK,zqQ,zqP,yh,zj,zb]
       rw[dT (0<=(a:Int)),decide_eq_true (show (a:Int)<((ws (W++zW (zn e n).toNat d)).length:Int) by rw[zZ];omega),zqK,hy0]
       dsimp only[zj,setCells,List.length_nil,zqR,z9,zqT,zb]
       rw[Yy,qx,decide_eq_false (by decide)]
       rfl
theorem zff (D:Nat) (x:Nd):va (body D) 0 x [0]=xw D x:=by
 unfold va xw
 by_cases h0:x.kind=0
 ·rw[if_pos h0,zdV h0,zaq D x h0]
 ·rw[if_neg h0]
  rfl
theorem jl {D:Nat} {x:Nd} (h:Ok D x) (hb:zM D x<=134217728):ev 165 [.pv x.x] []=some (.ret (.slu 30 1 (ws (xw D x))),[]):=by
 have h1:=zf6 h.gd h.vn h.dp (by omega)
 have hn:=wm D h.vn
 have h2:=zdH D x h [0] 0 (by decide) (by simp;omega)
 rw[zff] at h2
 unfold wh at h2
 dsimp only[Nd.x] at h1 h2
 rw[Nd.x,ziM,h1]
 dsimp only[zh,xV,zqR]
 rw[dT (1<=zM D x+1),dT (zM D x+1<=140737488355328),yq (by omega) (by omega)]
 dsimp only[zj,zb]
 rw[show ev 228 [.ptr 0 0,.pv (I 0),.pv (.agg [I x.kind,I x.elem,I x.n,.sl 1 (bs x.data),.sl 5 (zr x.kids)])] [[.slu 30 1 [U 0]]]=_ from h2]
 dsimp only[zv,zqP,Zj,zP,zqR,zb,vA]
 rw[xg]
 rfl
theorem znS {l:List Nd} (hl:l.length<=1073741824) (hd:∀ x∈l,x.data.length<=17592186044416) (a b c:Int) (x:List PV):∀ (c0 i:Nat),i+c0=l.length->Xa (zm (l.take i):Nat) (zo (l.take i):Nat) i a b c x (zr l)=ok (.tup [I (zm l:Nat),I (zo l:Nat)]):=by
 intro c0
 induction c0 with
 |zero=>
  intro i hi
  rw[zba,decide_eq_false (by simp;omega),List.take_of_length_le (by omega)]
  rfl
 |succ c0 ih=>
  intro i hi
  have hil:i<l.length:=by omega
  have hdi:=hd _ (List.getElem_mem hil)
  have e1:zm (l.take (i+1))=max (zm (l.take i)) (l[i].data.length/8):=by rw[xH hil,zfd]
  have e2:zo (l.take (i+1))=max (zo (l.take i)) l[i].kids.length:=by rw[xH hil,zfe]
  have hih:=ih (i+1) (by omega)
  rw[zba,decide_eq_true (show (i:Int)<((zr l).length:Int) by simp;omega),dT (0<=(i:Int))]
  dsimp only[zj,zb]
  rw[zqK,wq hil]
  dsimp only[zqR]
  rw[vU]
  dsimp only[Nd.c,zqQ,zqP,zqR,yt]
  rw[zU,xG,Int.tdiv_eq_ediv_of_nonneg (by omega),zc (x:=(l[i].data.length:Int)/8),zc (x:=(i:Int)+1)]
  by_cases g1:(l[i].data.length:Int)/8>((zm (l.take i):Nat):Int)
  ·have f1:(l[i].data.length:Int)/8=((zm (l.take (i+1)):Nat):Int):=by omega
   rw[decide_eq_true g1]
   by_cases g2:(l[i].kids.length:Int)>((zo (l.take i):Nat):Int)
   ·have f2:(l[i].kids.length:Int)=((zo (l.take (i+1)):Nat):Int):=by omega
    rw[decide_eq_true g2,f1,f2]
    exact hih
   ·have f2:((zo (l.take i):Nat):Int)=((zo (l.take (i+1)):Nat):Int):=by omega
    rw[decide_eq_false g2,f1,f2]
    exact hih
  ·have f1:((zm (l.take i):Nat):Int)=((zm (l.take (i+1)):Nat):Int):=by omega
   rw[decide_eq_false g1]
   by_cases g2:(l[i].kids.length:Int)>((zo (l.take i):Nat):Int)
   ·have f2:(l[i].kids.length:Int)=((zo (l.take (i+1)):Nat):Int):=by omega
    rw[decide_eq_true g2,f1,f2]
    exact hih
   ·have f2:((zo (l.take i):Nat):Int)=((zo (l.take (i+1)):Nat):Int):=by omega
    rw[decide_eq_false g2,f1,f2]
    exact hih
theorem jI {x:Nd} (hl:x.kids.length<=1073741824) (hd:∀ y∈x.kids,y.data.length<=17592186044416):ev 127 [.pv x.x] []=ok (.tup [I (zm x.kids:Nat),I (zo x.kids:Nat)]):=by
 rw[Nd.x,zjn]
 exact znS hl hd x.kind x.elem x.n (bs x.data) x.kids.length 0 (by omega)
theorem zgG {x:Nd} (hg:yw x) (hv:VN x) (hb:yG x<=4611686018427387904) (hu:zm x.kids+zo x.kids<=4611686018427387904):ev 73 [.pv x.x] []=ok (I (yG x)):=by
 obtain ⟨hd,hk,hks⟩:=vR hg
 obtain ⟨hs,_⟩:=wB hv
 have hun:=jI hk (fun y hy=>(vR (hks y hy)).1)
 rw[Nd.x] at hun ⊢
 rw[zjr,zU,xG]
 unfold yG at hb ⊢
 rcases hs with hs|hs|hs
 ·rw[beq_iff_eq.2 hs.1,if_pos hs.1];rfl
 ·rw[beq_eq_false_iff_ne.2 (show x.kind≠0 by omega),beq_iff_eq.2 hs.1,if_neg (by omega),if_pos hs.1]
  dsimp only[zb,zl]
  rw[Int.tdiv_eq_ediv_of_nonneg (by omega),zc (x:=(x.data.length:Int)/8),zc (by omega)]
  rw[show (x.data.length:Int)/8+(x.kids.length:Int)=((x.data.length/8+x.kids.length:Nat):Int) by omega]
 ·rw[if_neg (by omega),if_neg (by omega)] at hb ⊢
  rw[beq_eq_false_iff_ne.2 (show x.kind≠0 by omega),beq_eq_false_iff_ne.2 (show x.kind≠1 by omega)]
  dsimp only[zl]
  by_cases h7:x.elem=7
  ·rw[if_pos h7] at hb ⊢
   rw[beq_iff_eq.2 h7]
   dsimp only[zb]
   rw[hun]
   have hm:=Int.mul_nonneg hs.2.1.1 (Int.natCast_nonneg (zm x.kids+zo x.kids))
   dsimp only[zh,zK,zqQ,zqP,zqR,zA]
   rw[zc (x:=((zm x.kids:Nat):Int)+((zo x.kids:Nat):Int)),show ((zm x.kids:Nat):Int)+((zo x.kids:Nat):Int)=((zm x.kids+zo x.kids:Nat):Int) by push_cast;rfl,zc (x:=x.n*((zm x.kids+zo x.kids:Nat):Int)),zc (by omega)]
  ·rw[if_neg h7]
   rw[beq_eq_false_iff_ne.2 h7,QC hs.2.1]
   rfl
theorem zor {l:List Nd} (hl:l.length<=1073741824) (a b c:Int) (x:List PV):∀ (c0 i:Nat),i+c0=l.length->(l.flatMap Nd.kids).length<=1073741824->Kf (zr ((l.take i).flatMap Nd.kids)) i a b c x (zr l)=ok (.sl 5 (zr (l.flatMap Nd.kids))):=by
 intro c0
 induction c0 with
 |zero=>
  intro i hi hf
  rw[zbj,decide_eq_false (by simp;omega),List.take_of_length_le (by omega)]
  rfl
 |succ c0 ih=>
  intro i hi hf
  have hil:i<l.length:=by omega
  rw[zbj,decide_eq_true (show (i:Int)<((zr l).length:Int) by simp;omega),dT (0<=(i:Int))]
  dsimp only[zj,zb]
  rw[zqK,wq hil]
  dsimp only[zqR]
  rw[vU]
  dsimp only[Nd.c,zqQ,zqP,zqR,yt]
  have hnext:zr ((l.take i).flatMap Nd.kids)++zr l[i].kids=zr ((l.take (i+1)).flatMap Nd.kids):=by
   rw[xH hil,List.flatMap_append,Jd]
   simp
  have hlen:((l.take (i+1)).flatMap Nd.kids).length<=(l.flatMap Nd.kids).length:=by
   conv=>rhs;rw[←List.take_append_drop (i+1) l,List.flatMap_append,zqS]
   omega
  have hadd:(zr ((l.take i).flatMap Nd.kids)).length+(zr l[i].kids).length=((l.take (i+1)).flatMap Nd.kids).length:=by
   rw[←zqS,hnext,xG]
  rw[hadd,yq (by omega) (by omega),hnext,zc (x:=(i:Int)+1)]
  exact ih (i+1) (by omega) hf
theorem zgL {x:Nd} (hg:yw x) (hf:(yi x).length<=1073741824):ev 160 [.pv x.x] []=ok (.sl 5 (zr (yi x))):=by
 cases x with
 |mk k e n d ks=>
  rw[yw] at hg
  obtain ⟨⟨hd,hb,hk,h8⟩,hks⟩:=hg
  rw[gG] at hf ⊢
  rw[Nd.x]
  dsimp only[Nd.kind,Nd.elem,Nd.n,Nd.data,Nd.kids]
  rw[zjt]
  by_cases k2:k=2
  ·by_cases e7:e=7
   ·rw[if_pos ⟨k2,e7⟩] at hf ⊢
    rw[show (k != 2)=false from by simpa using k2,show (e != 7)=false from by simpa using e7]
    exact zor hk k e n (bs d) ks.length 0 (by omega) hf
   ·rw[if_neg (fun h=>e7 h.2),show (k != 2)=false from by simpa using k2,show (e != 7)=true from by simpa using e7]
    rfl
  ·rw[if_neg (fun h=>k2 h.1),show (k != 2)=true from by simpa using k2]
   rfl
def ix (P:List (Nat×Nd)):List PV:=P.map fun p=>I (p.1:Int)
theorem uo (a b:List (Nat×Nd)):ix (a++b)=ix a++ix b:=by simp[ix]
@[simp] theorem zlR (a:List (Nat×Nd)):(ix a).length=a.length:=by simp[ix]
theorem K3:∀ (a b:List Nd) (i:Nat),yn i (a++b)=yn i a++yn (i+a.length) b
 |[],b,i=>by simp[yn]
 |x::a,b,i=>by
  rw[List.cons_append,yn,yn,K3 a b (i+1),zqT,List.cons_append,show i+1+a.length=i+(a.length+1) by omega]
theorem zdQ (u s:Nat):∀ (a b:List Nd) (i:Nat),yX u s i (a++b)=yX u s i a++yX u s (i+a.length*s) b
 |[],b,i=>by simp[yX]
 |x::a,b,i=>by
  rw[List.cons_append,yX,yX,zdQ u s a b (i+s),zqT,List.append_assoc,show i+s+a.length*s=i+(a.length+1)*s by rw[Nat.add_mul,Nat.one_mul];omega]
@[simp] theorem znx:∀ (q:List Nd) (i:Nat),(yn i q).length=q.length
 |[],i=>rfl
 |t::r,i=>by rw[yn,zqT,zqT,znx r]
theorem zfA:∀ n:Nat,zW n []=List.replicate n 0
 |0=>rfl
 |n+1=>by
  have:=zfA n
  rw[zW,List.replicate_succ]
  simp only[List.drop_nil,this]
  rfl
section
variable (i3 i4 i5:Int) (xs6 xs7:List PV) (i8 i9 i10 i11 i12 i13:Int) (b14:Bool) (i15 i16 i17 i18 i19 i20 i22 i23:Int) (b24:Bool) (i25 i26 i27:Int)
theorem zoV {q:List Nd} {W:List Int} (hq:q.length<=268435456) (hW:W.length<=268435456):∀ (c j:Nat),j+c=q.length->
  Kd (ix (yn W.length (q.take j))) (ws (W++List.replicate j 0)) j i3 i4 i5 xs6 xs7 i8 i9 i10 i11 i12 i13 b14 i15 i16 i17 i18 i19 i20 q.length i22 i23 b24 i25 i26 i27 =
   ok (.tup [.sl 1 (ws (W++List.replicate q.length 0)),.agg [I i18,I i19,I i20,I (q.length:Int),I i22,I i23,Bo b24,I i25,yD i26,yD i27],.sl 1 (ix (yn W.length q))]):=by
 intro c
 induction c with
 |zero=>
  intro j hj
  rw[zbf,decide_eq_false (by omega),List.take_of_length_le (by omega),show j=q.length by omega]
  rfl
 |succ c ih=>
  intro j hj
  have hjl:j<q.length:=by omega
  rw[zbf,dT ((j:Int)<(q.length:Int))]
  dsimp only[zb]
  rw[yq (by simp;omega) (by simp;omega),yq (by simp;omega) (by simp;omega),zc (x:=(j:Int)+1),WI]
  dsimp only[zb]
  have e1:ix (yn W.length (q.take j))++[I ((ws (W++List.replicate j 0)).length:Int)]=ix (yn W.length (q.take (j+1))):=by
   rw[xH hjl,K3,uo,zZ,zqS,zqM,zqN,Nat.min_eq_left (by omega)]
   rfl
  have e2:W++List.replicate j 0++[0]=W++List.replicate (j+1) (0:Int):=by rw[List.replicate_succ',List.append_assoc]
  rw[e1,e2]
  exact ih (j+1) (by omega)
theorem zoW {q:List Nd} {W:List Int} {i21:Int} (hq:q.length<=1073741824):∀ (c j:Nat),j+c=q.length->
  Ke (ix (yn 0 (q.take j))) (ws W) j i3 i4 i5 xs6 (zr q) i8 i9 i10 i11 i12 i13 b14 i15 i16 i17 i18 i19 i20 i21 i22 i23 b24 i25 i26 i27 =
   ok (.tup [.sl 1 (ws W),.agg [I i18,I i19,I i20,I i21,I i22,I i23,Bo b24,I i25,yD i26,yD i27],.sl 1 (ix (yn 0 q))]):=by
 intro c
 induction c with
 |zero=>
  intro j hj
  rw[zbg,decide_eq_false (by simp;omega),List.take_of_length_le (by omega)]
  rfl
 |succ c ih=>
  intro j hj
  have hjl:j<q.length:=by omega
  rw[zbg,decide_eq_true (show (j:Int)<((zr q).length:Int) by simp;omega)]
  dsimp only[zb]
  rw[yq (by simp;omega) (by simp;omega),zc (x:=(j:Int)+1)]
  dsimp only[zb]
  have e1:ix (yn 0 (q.take j))++[I (j:Int)]=ix (yn 0 (q.take (j+1))):=by
   rw[xH hjl,K3,uo,zqN,Nat.min_eq_left (by omega),Nat.zero_add]
   rfl
  rw[e1]
  exact ih (j+1) (by omega)
end
section
variable (i5 i6 i7:Int) (xs8:List PV) (i10 i11 i12 i13 i14 i15:Int) (b16:Bool) (i17 i18 i19 i20 i21 i22 i23 i24 i25:Int) (b26:Bool) (i27 i28 i29:Int)
theorem zoY {ks:List Nd} {A:List (Nat×Nd)} {W:List Int} {a b i:Nat} (hil:i<ks.length) (hik:ks.length<=1073741824) (hb:ks[i].kids.length<=b) (hb2:b<=65535) (hA:A.length<=1073741824) (hW:W.length<=1073741824):∀ (c j:Nat),j+c=b->
  Vk (ix (A++yn W.length (ks[i].kids.take j))) (I (a:Int)) (I (b:Int)) (ws (W++List.replicate j 0)) i j i5 i6 i7 xs8 (zr ks) i10 i11 i12 i13 i14 i15 b16 i17 i18 i19 i20 i21 i22 i23 i24 i25 b26 i27 i28 i29 =
  Vj (ix (A++yn W.length ks[i].kids)) (I (a:Int)) (I (b:Int)) (ws (W++List.replicate b 0)) ((i+1:Nat):Int) i5 i6 i7 xs8 (zr ks) i10 i11 i12 i13 i14 i15 b16 i17 i18 i19 i20 i21 i22 i23 i24 i25 b26 i27 i28 i29:=by
 intro c
 induction c with
 |zero=>
  intro j hj
  rw[zbi]
  dsimp only[zA,zqR]
  rw[decide_eq_false (by omega),List.take_of_length_le (by omega),show j=b by omega,zc (x:=(i:Int)+1)]
  rfl
 |succ c ih=>
  intro j hj
  rw[zbi]
  dsimp only[zA,zqR]
  rw[dT ((j:Int)<(b:Int)),dT (0<=(i:Int)),decide_eq_true (show (i:Int)<((zr ks).length:Int) by simp;omega)]
  dsimp only[zj,zb]
  rw[zqK,wq hil]
  dsimp only[zqR]
  rw[vU]
  dsimp only[Nd.c,zqQ,zqP,zqR,yt]
  have e2:W++List.replicate j 0++[0]=W++List.replicate (j+1) (0:Int):=by rw[List.replicate_succ',List.append_assoc]
  have hr:zJ ((ws (W++List.replicate j 0)).length+1) 8=true:=yq (by simp;omega) (by simp;omega)
  rw[xG,zc (x:=(j:Int)+1),WI,e2,hr]
  have:=ih (j+1) (by omega)
  by_cases g:j<ks[i].kids.length
  ·rw[dT ((j:Int)<(ks[i].kids.length:Int)),yq (by simp;omega) (by simp;omega)]
   dsimp only[zb]
   have e1:ix (A++yn W.length (ks[i].kids.take j))++[I ((ws (W++List.replicate j 0)).length:Int)]=ix (A++yn W.length (ks[i].kids.take (j+1))):=by
    rw[xH g,K3,←List.append_assoc,uo (A++_),zZ,zqS,zqM,zqN,Nat.min_eq_left (by omega)]
    rfl
   rw[e1]
   exact this
  ·rw[dF ((j:Int)<(ks[i].kids.length:Int)),List.take_of_length_le (by omega)]
   rw[List.take_of_length_le (by omega)] at this
   exact this
theorem zoX {ks:List Nd} {w0:Int} {a b:Nat} (hk:ks.length<=536870911) (ha:a<=65535) (hb2:b<=65535) (hs:∀ k∈ks,(∀ x∈k.data,zF x)/\k.data.length<=8*a/\k.kids.length<=b) (hl:ks.length*(a+b)<=536870912) (hA:∀ i,(yX a (a+b) 1 (ks.take i)).length<=1073741824):∀ (c i:Nat),i+c=ks.length->
  Vj (ix (yX a (a+b) 1 (ks.take i))) (I (a:Int)) (I (b:Int)) (ws (w0::els a b (ks.take i))) i i5 i6 i7 xs8 (zr ks) i10 i11 i12 i13 i14 i15 b16 i17 i18 i19 i20 i21 i22 i23 i24 i25 b26 i27 i28 i29 =
   ok (.tup [.sl 1 (ws (w0::els a b ks)),.agg [I i20,I i21,I i22,I i23,I i24,I ((ks.length*(a+b):Nat):Int),Bo b26,I i27,yD i28,yD i29],.sl 1 (ix (yX a (a+b) 1 ks))]):=by
 intro c
 induction c with
 |zero=>
  intro i hi
  rw[zbh,decide_eq_false (by simp;omega),List.take_of_length_le (by omega),zZ,zqT,Xg,zc (by omega),show ((ks.length*(a+b)+1:Nat):Int)-1=((ks.length*(a+b):Nat):Int) by omega]
  rfl
 |succ c ih=>
  intro i hi
  have hil:i<ks.length:=by omega
  obtain ⟨s1,s2,s3⟩:=hs _ (List.getElem_mem hil)
  have hmul:i*(a+b)+(a+b)<=ks.length*(a+b):=by
   have:=Nat.mul_le_mul_right (a+b) (show i+1<=ks.length by omega)
   rw[Nat.add_mul,Nat.one_mul] at this
   exact this
  have hel:(els a b (ks.take i)).length=i*(a+b):=by rw[Xg,zqN,Nat.min_eq_left (by omega)]
  have hp:=J2 s1 (n:=a) (by omega) s2
  have hWl:(w0::els a b (ks.take i)++zW a ks[i].data).length=1+i*(a+b)+a:=by
   rw[zqS,zqT,hel,yZ];omega
  have h6:=zoY i5 i6 i7 xs8 i10 i11 i12 i13 i14 i15 b16 i17 i18 i19 i20 i21 i22 i23 i24 i25 b26 i27 i28 i29 (a:=a) (A:=yX a (a+b) 1 (ks.take i)) (W:=w0::els a b (ks.take i)++zW a ks[i].data) hil (by omega) s3 hb2 (hA i) (by rw[hWl];omega) b 0 (by omega)
  rw[List.take_zero,List.replicate_zero,List.append_nil,show yn _ ([]:List Nd)=[] from rfl,List.append_nil,hWl] at h6
  rw[zbh,decide_eq_true (show (i:Int)<((zr ks).length:Int) by simp;omega),dT (0<=(i:Int))]
  dsimp only[zj,zb]
  rw[zqK,wq hil]
  dsimp only[zqR]
  rw[vU]
  dsimp only[Nd.c,zqQ,zqP,zqR]
  rw[hp]
  dsimp only[zv]
  rw[xg]
  dsimp only[zqR]
  rw[←Qh,zZ,zZ,yq (by rw[zqT,hel,yZ];omega) (by rw[zqT,hel,yZ];omega)]
  refine (show _=_ from h6).trans ?_
  have e1:yX a (a+b) 1 (ks.take i)++yn (1+i*(a+b)+a) ks[i].kids=yX a (a+b) 1 (ks.take (i+1)):=by
   rw[xH hil,zdQ,zqN,Nat.min_eq_left (by omega),yX,yX,List.append_nil]
  have e2:w0::els a b (ks.take i)++zW a ks[i].data++List.replicate b 0=w0::els a b (ks.take (i+1)):=by
   rw[xH hil]
   unfold els
   rw[List.flatMap_append,List.flatMap_singleton]
   simp only[List.append_assoc,List.cons_append]
  rw[e1,e2]
  exact ih (i+1) (by omega)
end
def VY (x:Nd):PV:=if x.kind=1 then WL 0 (x.data.length/8) x.kids.length else if x.elem=7 then vw 0 7 ((x.kids.length*(zm x.kids+zo x.kids):Nat):Int) else vw 0 x.elem x.n
theorem K4:∀ (q:List Nd) (i:Nat),∀ p∈yn i q,p.1<i+q.length
 |[],i,p,h=>by cases h
 |t::r,i,p,h=>by
  rw[yn] at h
  rw[zqT]
  rcases List.mem_cons.1 h with rfl|h
  ·show i<_;omega
  ·have:=K4 r (i+1) p h;omega
theorem zdR {u s:Nat}:∀ (ks:List Nd) (i:Nat),(∀ k∈ks,u+k.kids.length<=s)->∀ p∈yX u s i ks,p.1<i+ks.length*s
 |[],i,hk,p,h=>by cases h
 |k::r,i,hk,p,h=>by
  rw[yX] at h
  rw[zqT,Nat.add_mul,Nat.one_mul]
  have hb:=hk k zqJ
  rcases List.mem_append.1 h with h|h
  ·have:=K4 k.kids (i+u) p h;omega
  ·have:=zdR r (i+s) (fun x hx=>hk x (zqI _ hx)) p h;omega
theorem K6:∀ (q:List Nd) (i:Nat),(yn i q).map Prod.snd=q
 |[],i=>rfl
 |t::r,i=>by rw[yn,List.map_cons,K6 r]
theorem uX (u s:Nat):∀ (ks:List Nd) (i:Nat),(yX u s i ks).map Prod.snd=ks.flatMap Nd.kids
 |[],i=>rfl
 |k::r,i=>by rw[yX,List.map_append,K6,uX u s r,List.flatMap_cons]
def sh (s:Nat) (p:Nat×Nd):Nat×Nd:=(s+p.1,p.2)
theorem K5 (s:Nat):∀ (q:List Nd) (i:Nat),(yn i q).map (sh s)=yn (s+i) q
 |[],i=>rfl
 |t::r,i=>by rw[yn,yn,List.map_cons,K5 s r,Nat.add_assoc];rfl
theorem zdS (u z s:Nat):∀ (ks:List Nd) (i:Nat),(yX u z i ks).map (sh s)=yX u z (s+i) ks
 |[],i=>rfl
 |k::r,i=>by rw[yX,yX,List.map_append,K5,zdS u z s r,Nat.add_assoc,Nat.add_assoc]
theorem znz (x:Nd) (s:Nat):(xF x 0).map (sh s)=xF x s:=by
 unfold xF
 split
 ·rw[K5,Nat.zero_add]
 ·split
  ·rw[zdS,Nat.zero_add]
  ·rw[K5,Nat.add_zero]
theorem znA {x:Nd} (hv:VN x) (h0:x.kind≠0):(xF x 0).map Prod.snd=yi x:=by
 obtain ⟨hs,_⟩:=wB hv
 unfold xF yi
 rcases hs with hs|hs|hs
 ·exact absurd hs.1 h0
 ·rw[if_pos hs.1,if_neg (by omega),K6]
 ·rw[if_neg (by omega)]
  by_cases h7:x.elem=7
  ·rw[if_pos h7,if_pos ⟨hs.1,h7⟩,uX]
  ·rw[if_neg h7,if_neg (fun h=>h7 h.2),K6]
theorem zny {x:Nd} (hv:VN x) (h0:x.kind≠0):∀ p∈xF x 0,p.1<(xr x).length:=by
 obtain ⟨hs,_⟩:=wB hv
 intro p hp
 unfold xF at hp
 unfold xr
 rcases hs with hs|hs|hs
 ·exact absurd hs.1 h0
 ·rw[if_pos hs.1] at hp ⊢
  have:=K4 _ _ p hp
  simp;omega
 ·rw[if_neg (by omega)] at hp ⊢
  by_cases h7:x.elem=7
  ·rw[if_pos h7] at hp ⊢
   have:=zdR x.kids _ (fun k hk=>Nat.add_le_add_left (Yw hk) _) p hp
   rw[zqT,Xg];omega
  ·rw[if_neg h7] at hp ⊢
   have hl:=K4 _ _ p hp
   by_cases h6:x.elem=6
   ·rw[if_pos h6];simp;omega
   ·exfalso
    have:x.kids.length=0:=(hs.2.2.2.2 (by omega)).1
    omega
theorem zf3 {D:Nat} {x:Nd} (h:Ok D x) (h0:x.kind≠0) (hb:yG x<=268435456) (hf:(yi x).length<=1073741824):ev 158 [.pv x.x] []=ok (.tup [.sl 1 (ws (xr x)),VY x,.sl 1 (ix (xF x 0))]):=by
 obtain ⟨hs,hkk⟩:=wB h.vn
 rcases hs with hs|hs|hs
 ·exact absurd hs.1 h0
 ·obtain ⟨d,ks,rfl,g1,g2,g3,g4,g5,g6⟩:=Z4 h.vn h.tr h.gd hs.1
  have hp:=J2 g3 (n:=d.length/8) (by omega) (by omega)
  have h1:=zoV 1 0 0 (bs d) (zr ks) 0 0 0 0 0 0 false 0 0 0 0 0 ((d.length/8:Nat):Int) 0 0 false 0 0 0 (q:=ks) (W:=zW (d.length/8) d) (by omega) (by rw[yZ];omega) ks.length 0 (by omega)
  rw[List.take_zero,List.replicate_zero,List.append_nil,yZ] at h1
  rw[Nd.x]
  dsimp only[Nd.kind,Nd.elem,Nd.n,Nd.data,Nd.kids]
  rw[qG,show ((1:Int)==1)=true from rfl,zU,xG,Int.tdiv_eq_ediv_of_nonneg (by omega),show (d.length:Int)/8=((d.length/8:Nat):Int) by omega,zc (by omega),hp]
  dsimp only[zv,zb]
  rw[xg]
  dsimp only[zqR]
  refine (show _=_ from h1).trans ?_
  have e:xF (.mk 1 0 0 d ks) 0=yn (d.length/8) ks:=by show yn (0+d.length/8) ks=_;rw[Nat.zero_add]
  rw[e]
  rfl
 ·cases x with
  |mk k e n d ks=>
   obtain ⟨k2,hn,he,h6,hl6⟩:=hs
   have k2':k=2:=k2
   subst k2'
   have hn':0<=n/\n<=536870911:=hn
   have he':0<=e/\e<=7:=he
   have hg:=h.gd
   rw[yw] at hg
   by_cases e7:e=7
   ·subst e7
    obtain ⟨a1,a2⟩:=h6 (show (6:Int)<=7 by decide)
    obtain rfl:d=[]:=List.length_eq_zero_iff.1 a1
    have a2':(ks.length:Int)=n:=a2
    have hst:∀ k∈ks,k.kind=1:=by
     cases h.vn with
     |mk v1 v2 v3=>exact v2 rfl rfl
    have htr:∀ k∈ks,TrN k:=by
     cases h.tr with
     |mk t1 t2=>exact t2
    have hparts:∀ k∈ks,(∀ x∈k.data,zF x)/\k.data.length%8=0/\k.data.length<=524280/\k.kids.length<=65535:=fun k hk=>by
     obtain ⟨d,q,rfl,g1,g2,g3,g4,g5,g6⟩:=Z4 (hkk k hk) (htr k hk) (goods_iff.1 hg.2 k hk) (hst k hk)
     exact ⟨g3,g4,g5,g6⟩
    have hud:zm ks<=65535:=Yu fun x hx=>by have:=(hparts x hx).2.2.1;omega
    have huq:zo ks<=65535:=Yv fun x hx=>(hparts x hx).2.2.2
    have eo:yG (.mk 2 7 n [] ks)=1+n*((zm ks+zo ks:Nat):Int):=rfl
    have hnu:n*((zm ks+zo ks:Nat):Int)=((ks.length*(zm ks+zo ks):Nat):Int):=by rw[←a2'];push_cast;rfl
    rw[eo,hnu] at hb
    have hU:=jI (x:=.mk 2 7 n [] ks) (by show ks.length<=_;omega) (fun y hy=>by have:=(hparts y hy).2.2.1;omega)
    have hU':ev 127 [.pv (.agg [I 2,I 7,I n,.sl 1 (bs []),.sl 5 (zr ks)])] []=ok (.tup [I (zm ks:Nat),I (zo ks:Nat)]):=hU
    have hE:=J6 (off:=n) (d:=zm ks) (q:=zo ks) (by omega) hud huq
    have et:yi (.mk 2 7 n [] ks)=ks.flatMap Nd.kids:=rfl
    rw[et] at hf
    have h4:=zoX 2 7 n (bs []) 0 0 0 0 0 0 false 0 0 0 1 0 0 0 7 n false 0 0 0 (w0:=yg n (zm ks) (zo ks)) (ks:=ks) (by omega) hud huq (fun k hk=>⟨(hparts k hk).1,by have:=JB hk;have:=(hparts k hk).2.1;omega,Yw hk⟩) (by omega) (fun i=>by
     have e1:(yX (zm ks) (zm ks+zo ks) 1 (ks.take i)).length=((ks.take i).flatMap Nd.kids).length:=by rw[←uX (zm ks) (zm ks+zo ks) (ks.take i) 1,zqH]
     have e2:((ks.take i).flatMap Nd.kids).length<=(ks.flatMap Nd.kids).length:=by
      conv=>rhs;rw[←List.take_append_drop i ks,List.flatMap_append,zqS]
      omega
     omega) ks.length 0 (by omega)
    rw[List.take_zero,show yX _ _ 1 ([]:List Nd)=[] from rfl,show els (zm ks) (zo ks) []=[] from rfl] at h4
    rw[Nd.x]
    dsimp only[Nd.kind,Nd.elem,Nd.n,Nd.data,Nd.kids]
    rw[qG,show ((2:Int)==1)=false from rfl,show ((7:Int) != 7)=false from rfl,hU']
    dsimp only[zh,zK,zqQ,zqP,zqR,yh,zj,zb,zl]
    rw[hE]
    dsimp only[zh,zK,zqQ,zqP,zqR,z9]
    refine (show _=_ from h4).trans ?_
    rfl
   ·have eo:yG (.mk 2 e n d ks)=zn e n:=by
     unfold yG
     show (if (2:Int)=0 then 0 else if (2:Int)=1 then _ else if e=7 then _ else zn e n)=_
     rw[if_neg (by decide),if_neg (by decide),if_neg e7]
    have hwr:=Zy (e:=e) hn'
    have hO:=zgG h.gd h.vn (by omega) (by
     by_cases e6:e=6
     ·have hk:=(h6 (show (6:Int)<=e by omega)).2
      have:=Yu (l:=ks) (b:=17592186044416) (fun y hy=>by have:=(vR ((vR h.gd).2.2 y hy)).1;omega)
      have:=Yv (l:=ks) (b:=1073741824) (fun y hy=>(vR ((vR h.gd).2.2 y hy)).2.1)
      show zm ks+zo ks<=_
      omega
     ·obtain rfl:ks=[]:=List.length_eq_zero_iff.1 (hl6 (show e<6 by omega)).1
      show 0+0<=_;decide)
    rw[eo] at hO hb
    have hkl:ks.length<=1073741824:=hg.1.2.2.1
    have h2:∀ W:List Int,_:=fun W=>zoW 2 e n (bs d) 0 0 0 0 0 0 false 0 0 0 1 0 0 e n false 0 0 0 (q:=ks) (W:=W) (i21:=0) hkl ks.length 0 (by omega)
    rw[List.take_zero,show yn 0 ([]:List Nd)=[] from rfl] at h2
    have ep:xF (.mk 2 e n d ks) 0=yn 0 ks:=by
     show (if (2:Int)=1 then _ else if e=7 then _ else yn 0 ks)=_
     rw[if_neg (by decide),if_neg e7]
    have ept:VY (.mk 2 e n d ks)=vw 0 e n:=by
     show (if (2:Int)=1 then _ else if e=7 then _ else vw 0 e n)=_
     rw[if_neg (by decide),if_neg e7]
    have main:∀ (hp:d.length<=8*(zn e n).toNat) (hw:zW (zn e n).toNat d=xr (.mk 2 e n d ks)),ev 158 [.pv (Nd.mk 2 e n d ks).x] []=ok (.tup [.sl 1 (ws (xr (.mk 2 e n d ks))),VY (.mk 2 e n d ks),.sl 1 (ix (xF (.mk 2 e n d ks) 0))]):=fun hp hw=>by
     have h1:=J2 hg.1.2.1 (n:=(zn e n).toNat) (by omega) hp
     rw[show (((zn e n).toNat:Nat):Int)=zn e n by omega,hw] at h1
     have h2':=h2 (xr (.mk 2 e n d ks))
     rw[Nd.x] at hO ⊢
     dsimp only[Nd.kind,Nd.elem,Nd.n,Nd.data,Nd.kids] at hO ⊢
     rw[qG,show ((2:Int)==1)=false from rfl,show (e != 7)=true from by simpa using e7,hO]
     dsimp only[zh,zb,zl]
     rw[h1]
     dsimp only[zv]
     rw[xg]
     dsimp only[zqR]
     refine (show _=_ from h2').trans ?_
     rw[ep,ept]
     rfl
    by_cases e6:e=6
    ·subst e6
     obtain ⟨a1,a2⟩:=h6 (show (6:Int)<=6 by decide)
     obtain rfl:d=[]:=List.length_eq_zero_iff.1 a1
     have a2':(ks.length:Int)=n:=a2
     have hw6:zn 6 n=n:=by unfold zn bitsOf;simp;omega
     refine main (Nat.zero_le _) ?_
     rw[zfA,hw6,show n.toNat=ks.length by omega]
     rfl
    ·obtain ⟨b1,b2,b3⟩:=hl6 (show e<6 by omega)
     have b2':(d.length:Int)=z5 e n:=b2
     have hbw:=qm (e:=e) ⟨he'.1,by omega⟩ hn'
     refine main (by omega) ?_
     show _=(if (2:Int)=1 then _ else if e=7 then _ else if e=6 then _ else zW (zn e n).toNat d)
     rw[if_neg (by decide),if_neg e7,if_neg e6]
def gc (D:Nat) (t:Nd):Prop:=∀ (W:List Int) (a:Nat),a<W.length->(W.length:Int)+zM D t<=268435456->ev 100 [.pv (.sl 1 (ws W)),.pv (I (a:Int)),.pv t.x] []=ok (.sl 1 (ws (va (body D) a t W)))
theorem zeg {D:Nat} {t:Nd} (h:t.kind=0):gc D t:=fun W a ha hl=>by
 unfold va
 rw[Nd.x,qF,beq_iff_eq.2 h,if_pos h]
 rfl
theorem zne (p0:PV) (i1:Int) (xs2:List PV) (p3:PV) (i4:Int) (i5 i6 i7:Int) (xs8 xs9:List PV) (p10:PV) (i11:Int) (p12 p13 p14 p15 p16 p17 p18 p19:PV):Xb p0 i1 xs2 p3 i4 i5 i6 i7 xs8 xs9 p10 i11 p12 p13 p14 p15 p16 p17 p18 p19=Vi p0 i1 (.sl 1 xs2) p3 i4 i5 i6 i7 xs8 xs9 p10 i11 p12 p13 p14 p15 p16 p17 p18 p19:=by
 rw[zjs,qE]
theorem zlQ {P:List (Nat×Nd)} {j:Nat} (h:j<P.length):(ix P)[j]? = some (I ((P[j].1:Nat):Int)):=by simp[ix,h]
theorem znR {D s:Nat} {P:List (Nat×Nd)} (hl:P.length<=1073741824) (hP:∀ p∈P,gc D p.2) (hO:∀ p∈P,Ok D p.2) (i5 i6 i7:Int) (xs8 xs9:List PV) (p10:PV) (i11:Int) (p12 p13 p14 p15 p16 p17 p18 p19:PV):∀ (c j:Nat) (W:List Int),j+c=P.length->(∀ p∈P,s+p.1<W.length)->(W.length:Int)+zt ((P.drop j).map fun p=>zM D p.2)<=268435456->
  Vi (.sl 1 (ix P)) s (.sl 1 (ws W)) (.sl 5 (zr (P.map Prod.snd))) j i5 i6 i7 xs8 xs9 p10 i11 p12 p13 p14 p15 p16 p17 p18 p19=ok (.sl 1 (ws (xp (body D) ((P.drop j).map (sh s)) W))):=by
 intro c
 induction c with
 |zero=>
  intro j W hj hs hb
  rw[qE]
  dsimp only[yt,zqR]
  rw[decide_eq_false (by simp;omega),List.drop_eq_nil_of_le (by omega)]
  rfl
 |succ c ih=>
  intro j W hj hs hb
  have hjl:j<P.length:=by omega
  have hm:=List.getElem_mem hjl
  have ho:=hO _ hm
  have hds:zt ((P.drop j).map fun p=>zM D p.2)=zM D P[j].2+zt ((P.drop (j+1)).map fun p=>zM D p.2):=by
   rw[List.drop_eq_getElem_cons hjl,List.map_cons,wI]
  rw[hds] at hb
  have hnn:=wm D ho.vn
  have hr:0<=zt ((P.drop (j+1)).map fun p=>zM D p.2):=wJ fun y hy=>by
   obtain ⟨t,ht,rfl⟩:=List.mem_map.1 hy
   exact wm D (hO t (List.mem_of_mem_drop ht)).vn
  have hsp:=hs _ hm
  have h1:=hP _ hm W (s+P[j].1) hsp (by omega)
  have hlen:=K0 ho (s+P[j].1) W
  have hg2:(zr (P.map Prod.snd))[j]? = some P[j].2.pv:=by
   rw[wq (by rw[zqH];exact hjl),List.getElem_map]
  dsimp only[Nd.x] at h1
  rw[qE]
  dsimp only[yt,zqR]
  rw[decide_eq_true (show (j:Int)<((zr (P.map Prod.snd)).length:Int) by simp;omega),decide_eq_true (show (1:Nat)=1 from rfl),decide_eq_true (show (5:Nat)=5 from rfl),dT (0<=(j:Int)),decide_eq_true (show (j:Int)<((ix P).length:Int) by rw[zlR];omega)]
  dsimp only[zj,zb]
  rw[zqK,zlQ hjl,hg2]
  dsimp only[zqR,z9,zqP,zA]
  rw[vV,vU,show (P[j].2.c.drop 0).take 5=P[j].2.c from rfl]
  dsimp only[Nd.c,zb]
  rw[zc (x:=(s:Int)+(P[j].1:Int)),show (s:Int)+(P[j].1:Int)=((s+P[j].1:Nat):Int) by push_cast;rfl,h1]
  dsimp only[zh]
  rw[zc (x:=(j:Int)+1)]
  have:=ih (j+1) (va (body D) (s+P[j].1) P[j].2 W) (by omega) (fun p hp=>by have:=hs p hp;omega) (by omega)
  rw[List.drop_eq_getElem_cons hjl,List.map_cons]
  exact this
theorem zef:∀ (D:Nat) (x:Nd),Ok D x->gc D x
 |0,x,h=>zeg h.dp
 |D+1,x,h=>by
  by_cases h0:x.kind=0
  ·exact zeg h0
  ·intro W a ha hl
   have hT:=VR h h0
   have hdp:=h.dp.resolve_left h0
   have hsn:=zeQ h h0
   have hon:=Xj h.vn
   rw[zM] at hl
   have vB:=zf3 h h0 (by omega) hdp.1
   have htg:=zgL h.gd hdp.1
   have hsnd:=znA h.vn h0
   have hpl:(xF x 0).length<=1073741824:=by
    have:=hdp.1
    rw[←hsnd,zqH] at this
    exact this
   have hmem:∀ p∈xF x 0,p.2∈yi x:=fun p hp=>by rw[←hsnd];exact List.mem_map.2 ⟨p,hp,rfl⟩
   rw[zdG h.vn h0 ha]
   have hsl:=zeC (B:=body D) h.vn h0
   have hol:=uH (body D) h.vn h0
   have hWl:(W++xr x).length=W.length+(xr x).length:=zqS
   have hal:a<(W++xr x).length:=by omega
   obtain ⟨y0,hy0⟩:=zd1 hal 0
   have hsum:zt ((xF x 0).map fun p=>zM D p.2)=zt ((yi x).map (zM D)):=by
    rw[←hsnd,List.map_map];rfl
   have hlt:=zny h.vn h0
   have hloop:∀ (w:Int) (i5 i6 i7:Int) (xs8 xs9:List PV) (p10:PV) (i11:Int) (p12 p13 p14 p15 p16 p17 p18 p19:PV),Xb (.sl 1 (ix (xF x 0))) W.length (ws ((W++xr x).set a w)) (.sl 5 (zr (yi x))) 0 i5 i6 i7 xs8 xs9 p10 i11 p12 p13 p14 p15 p16 p17 p18 p19=ok (.sl 1 (ws (xp (body D) (xF x W.length) ((W++xr x).set a w)))):=fun w i5 i6 i7 xs8 xs9 p10 i11 p12 p13 p14 p15 p16 p17 p18 p19=>by
    have:=znR (D:=D) (s:=W.length) (P:=xF x 0) hpl (fun p hp=>zef D p.2 (hT _ (hmem p hp))) (fun p hp=>hT _ (hmem p hp)) i5 i6 i7 xs8 xs9 p10 i11 p12 p13 p14 p15 p16 p17 p18 p19 (xF x 0).length 0 ((W++xr x).set a w) (by omega) (fun p hp=>by rw[List.length_set,hWl];have:=hlt p hp;omega) (by rw[List.length_set,hWl,List.drop_zero,hsum];omega)
    rw[List.drop_zero,znz,hsnd] at this
    rw[zne]
    exact this
   have k0:(x.kind==0)=false:=beq_eq_false_iff_ne.2 h0
   obtain ⟨hs,hkk⟩:=wB h.vn
   rcases hs with hs|hs|hs
   ·exact absurd hs.1 h0
   ·obtain ⟨d,ks,rfl,g1,g2,g3,g4,g5,g6⟩:=Z4 h.vn h.tr h.gd hs.1
    have e0:VY (.mk 1 0 0 d ks)=WL 0 (d.length/8) ks.length:=rfl
    rw[e0] at vB
    dsimp only[Nd.x,Nd.kind,Nd.elem,Nd.n,Nd.data,Nd.kids] at vB htg ⊢
    rw[qF,show ((1:Int)==0)=false from rfl,vB]
    dsimp only[WL,zh,zK,zqQ,zqP,zqR,vg,yh,zj,zA,zb,yt,zl]
    rw[zZ,zc (x:=(W.length:Int)-a),zc (x:=(W.length:Int)-a-1),yq (by omega) (by omega),zZ,yq (by omega) (by omega),←Qh,show ((0:Int)==0)=true from rfl]
    dsimp only[zb]
    by_cases hz:d.length/8=0/\ks.length=0
    ·have hE:=J6 (off:=-1) (d:=d.length/8) (q:=ks.length) (by decide) (by omega) g6
     have e1:yN (.mk 1 0 0 d ks) ((W.length:Int)-a-1)=yg (-1) (d.length/8) ks.length:=by
      show (if (1:Int)=0 then 0 else if (1:Int)=1 then (if d.length/8=0/\ks.length=0 then yg (-1) 0 0 else _) else _)=_
      rw[if_neg (by decide),if_pos rfl,if_pos hz,hz.1,hz.2]
     rw[e1,show (((d.length/8:Nat):Int)==0)=true from by simp[hz.1],show ((ks.length:Int)==0)=true from by simp[hz.2]]
     dsimp only[zb]
     rw[hE]
     dsimp only[zh,zK,zqQ,zqP,zqR,yh,zj,zb]
     rw[decide_eq_true (show (1:Nat)=1 from rfl),dT (0<=(a:Int)),decide_eq_true (show (a:Int)<((ws (W++xr (.mk 1 0 0 d ks))).length:Int) by rw[zZ];omega),zqK,hy0]
     dsimp only[zj,setCells,zqR,z9,zqT,List.length_nil,zb]
     rw[htg]
     dsimp only[zh]
     rw[Yy]
     exact hloop ..
    ·have hE:=J6 (off:=(W.length:Int)-a-1) (d:=d.length/8) (q:=ks.length) (by omega) (by omega) g6
     have e1:yN (.mk 1 0 0 d ks) ((W.length:Int)-a-1)=yg ((W.length:Int)-a-1) (d.length/8) ks.length:=by
      show (if (1:Int)=0 then 0 else if (1:Int)=1 then (if d.length/8=0/\ks.length=0 then _ else yg ((W.length:Int)-a-1) (d.length/8) ks.length) else _)=_
      rw[if_neg (by decide),if_pos rfl,if_neg hz]
     rw[e1]
     by_cases hz1:d.length/8=0
     ·rw[show (((d.length/8:Nat):Int)==0)=true from by simp[hz1],show ((ks.length:Int)==0)=false from beq_eq_false_iff_ne.2 (fun h2=>hz ⟨hz1,by omega⟩)]
      dsimp only[zl,zb]
      rw[hE]
      dsimp only[zh,zK,zqQ,zqP,zqR,yh,zj,zb]
      rw[decide_eq_true (show (1:Nat)=1 from rfl),dT (0<=(a:Int)),decide_eq_true (show (a:Int)<((ws (W++xr (.mk 1 0 0 d ks))).length:Int) by rw[zZ];omega),zqK,hy0]
      dsimp only[zj,setCells,zqR,z9,zqT,List.length_nil,zb]
      rw[htg]
      dsimp only[zh]
      rw[Yy]
      exact hloop ..
     ·rw[show (((d.length/8:Nat):Int)==0)=false from beq_eq_false_iff_ne.2 (by omega)]
      dsimp only[zl]
      rw[hE]
      dsimp only[zh,zK,zqQ,zqP,zqR,yh,zj,zb]
      rw[decide_eq_true (show (1:Nat)=1 from rfl),dT (0<=(a:Int)),decide_eq_true (show (a:Int)<((ws (W++xr (.mk 1 0 0 d ks))).length:Int) by rw[zZ];omega),zqK,hy0]
      dsimp only[zj,setCells,zqR,z9,zqT,List.length_nil,zb]
      rw[htg]
      dsimp only[zh]
      rw[Yy]
      exact hloop ..
   ·cases x with
    |mk k e n d ks=>
     obtain ⟨k2,hn,he,h6,hl6⟩:=hs
     have k2':k=2:=k2
     subst k2'
     have hn':0<=n/\n<=536870911:=hn
     have he':0<=e/\e<=7:=he
     have pt:∃ c:Int,VY (.mk 2 e n d ks)=vw 0 e c/\(0<=c/\c<=536870911)/\yN (.mk 2 e n d ks) ((W.length:Int)-a-1)=yE ((W.length:Int)-a-1) e c:=by
      by_cases e7:e=7
      ·subst e7
       have a2':(ks.length:Int)=n:=(h6 (show (6:Int)<=7 by decide)).2
       have hnu:n*((zm ks+zo ks:Nat):Int)=((ks.length*(zm ks+zo ks):Nat):Int):=by rw[←a2'];push_cast;rfl
       have eo:yG (.mk 2 7 n d ks)=1+n*((zm ks+zo ks:Nat):Int):=rfl
       rw[eo,hnu] at hl
       refine ⟨((ks.length*(zm ks+zo ks):Nat):Int),rfl,by omega,?_⟩
       rw[←hnu];rfl
      ·refine ⟨n,?_,hn',?_⟩
       ·show (if (2:Int)=1 then _ else if e=7 then _ else vw 0 e n)=_
        rw[if_neg (by decide),if_neg e7]
       ·show (if (2:Int)=0 then 0 else if (2:Int)=1 then _ else if e=7 then _ else yE ((W.length:Int)-a-1) e n)=_
        rw[if_neg (by decide),if_neg (by decide),if_neg e7]
     obtain ⟨c,e0,hc,e1⟩:=pt
     have hE:=zgD (off:=(W.length:Int)-a-1) (e:=e) (c:=c) (by omega) he' hc
     rw[e0] at vB
     rw[e1]
     dsimp only[Nd.x,Nd.kind,Nd.elem,Nd.n,Nd.data,Nd.kids] at vB htg ⊢
     rw[qF,show ((2:Int)==0)=false from rfl,vB]
     dsimp only[vw,zh,zK,zqQ,zqP,zqR,vg,yh,zj,zA,zb,yt,zl]
     rw[zZ,zc (x:=(W.length:Int)-a),zc (x:=(W.length:Int)-a-1),yq (by omega) (by omega),zZ,yq (by omega) (by omega),←Qh,show ((1:Int)==0)=false from rfl]
     dsimp only[zb,zl]
     rw[hE]
     dsimp only[zh,zK,zqQ,zqP,zqR,yh,zj,zb]
     rw[decide_eq_true (show (1:Nat)=1 from rfl),dT (0<=(a:Int)),decide_eq_true (show (a:Int)<((ws (W++xr (.mk 2 e n d ks))).length:Int) by rw[zZ];omega),zqK,hy0]
     dsimp only[zj,setCells,zqR,z9,zqT,List.length_nil,zb]
     rw[htg]
     dsimp only[zh]
     rw[Yy]
     exact hloop ..
theorem zgO {D:Nat} {x:Nd} (h:Ok D x) (hb:zM D x<=134217728):ev 51 [.pv x.x] []=ok (.sl 1 (ws (xw D x))):=by
 have h2:=zef D x h [0] 0 (by decide) (by simp;omega)
 rw[zff] at h2
 dsimp only[Nd.x] at h2 ⊢
 rw[zju]
 refine (congrArg (fun z=>zq z _ _) (show _=_ from h2)).trans ?_
 rfl
theorem zdj {l:List (List Int)} (hl:zN l) (hs:Sm l) {d w:Int} (hw:w<=4611686018427387904) (h0:(runT l d w).2.2=0):Ok d.toNat (yR l d w)/\yz d.toNat (yR l d w)<=ZI l d w:=by
 obtain ⟨a1,a2⟩:=zoz hl hs h0
 have hg:=(Ww hl hs (d:=d) (w:=w) hw).2
 unfold yR ZI
 rw[if_pos h0,if_pos h0]
 refine ⟨⟨WG _ a1,zpp _ hg,zcH _ hg,zkH _ _ a2⟩,?_⟩
 unfold runT at h0 ⊢
 split
 ·rw[YZ]
  cases d.toNat with
  |zero=>show (0:Int)<=max w 0-max w 0;omega
  |succ D=>
   rw[yz]
   show (if (0:Int)=0 then (0:Int) else _)<=max w 0-max w 0
   rw[if_pos rfl]
   omega
 ·rename_i he
  rw[if_neg he] at h0
  exact (zkp hl hs _ _ _ _ h0).1
def nE:Nd:=.mk 1 0 0 [] []
theorem qY {off:Int} {d q:Nat} (hd:d<=65535) (hq:q<=65535):zC (yg off d q):=by
 have hm:=Int.emod_nonneg off (show (1073741824:Int)≠0 by decide)
 have hl:=Int.emod_lt_of_pos off (show (0:Int)<1073741824 by decide)
 exact ⟨by unfold yg;omega,by unfold yg;omega⟩
theorem zbV {off e c:Int} (he:0<=e/\e<=7) (hc:0<=c/\c<=536870911):zC (yE off e c):=by
 have hm:=Int.emod_nonneg off (show (1073741824:Int)≠0 by decide)
 have hl:=Int.emod_lt_of_pos off (show (0:Int)<1073741824 by decide)
 exact ⟨by unfold yE;omega,by unfold yE;omega⟩
theorem zfs:zC 0:=⟨by decide,by decide⟩
theorem zmt {D:Nat} {x:Nd} (hv:VN x):yG x<=zM D x:=by
 cases D with
 |zero=>exact Int.le_refl _
 |succ D=>
  rw[zM]
  have:0<=zt ((yi x).map (zM D)):=wJ fun y hy=>by
   obtain ⟨t,ht,rfl⟩:=List.mem_map.1 hy
   exact wm D (Z6 hv t ht)
  omega
theorem zdY {D:Nat} {t:Nd} (h:Ok D t) (hb:zM D t<=268435456) (off:Int):zC (yN t off):=by
 obtain ⟨hs,hk⟩:=wB h.vn
 have hob:=zmt (D:=D) h.vn
 unfold yN
 by_cases h0:t.kind=0
 ·rw[if_pos h0];exact zfs
 ·rw[if_neg h0]
  by_cases h1:t.kind=1
  ·obtain ⟨d,q,rfl,g1,g2,g3,g4,g5,g6⟩:=Z4 h.vn h.tr h.gd h1
   rw[if_pos h1]
   split
   ·exact qY (by omega) (by omega)
   ·exact qY (by show d.length/8<=_;omega) g6
  ·rw[if_neg h1]
   have hs2:t.kind=2/\_:=(hs.resolve_left (fun h=>h0 h.1)).resolve_left (fun h=>h1 h.1)
   by_cases h7:t.elem=7
   ·rw[if_pos h7]
    unfold yG at hob
    rw[if_neg h0,if_neg h1,if_pos h7] at hob
    have:=Int.mul_nonneg hs2.2.1.1 (Int.natCast_nonneg (Yt t))
    unfold Yt at this ⊢
    exact zbV (by decide) (by omega)
   ·rw[if_neg h7]
    exact zbV hs2.2.2.1 hs2.2.1
theorem K8 {B:Nd->List Int}:∀ (l:List Nd) (i p:Nat),(∀ t∈l,∀ off,zC (yN t off))->∀ w∈yJ B i p l,zC w
 |[],i,p,h,w,hw=>by cases hw
 |t::r,i,p,h,w,hw=>by
  rw[yJ] at hw
  rcases List.mem_cons.1 hw with rfl|hw
  ·exact h t zqJ _
  ·exact K8 r _ _ (fun t ht=>h t (zqI _ ht)) w hw
theorem zaa {B:Nd->List Int} {a b:Nat}:∀ (l:List Nd) (i p:Nat),(∀ k∈l,(∀ x∈k.data,zF x)/\∀ t∈k.kids,∀ off,zC (yN t off))->∀ w∈xO B a b i p l,zC w
 |[],i,p,h,w,hw=>by cases hw
 |k::r,i,p,h,w,hw=>by
  rw[xO] at hw
  obtain ⟨h1,h2⟩:=h k zqJ
  rcases List.mem_append.1 hw with hw|hw
  ·rcases List.mem_append.1 hw with hw|hw
   ·exact Y1 _ h1 w hw
   ·rcases List.mem_append.1 hw with hw|hw
    ·exact K8 _ _ _ h2 w hw
    ·rw[(List.mem_replicate.1 hw).2];exact zfs
  ·exact zaa r _ _ (fun t ht=>h t (zqI _ ht)) w hw
theorem zeP {f:Nd->Int}:∀ {l:List Nd},(∀ t∈l,0<=f t)->∀ t∈l,f t<=zt (l.map f)
 |[],h,t,ht=>by cases ht
 |x::l,h,t,ht=>by
  rw[List.map_cons,wI]
  have h0:=h x zqJ
  have hr:0<=zt (l.map f):=wJ fun y hy=>by
   obtain ⟨z,hz,rfl⟩:=List.mem_map.1 hy
   exact h z (zqI _ hz)
  rcases List.mem_cons.1 ht with rfl|ht
  ·omega
  ·have:=zeP (fun z hz=>h z (zqI _ hz)) t ht;omega
theorem zar:∀ (D:Nat) (x:Nd),Ok D x->zM D x<=268435456->∀ w∈body D x,zC w
 |0,x,h,hb,w,hw=>by cases hw
 |D+1,x,h,hb,w,hw=>by
  rw[body] at hw
  by_cases h0:x.kind=0
  ·rw[if_pos h0] at hw;cases hw
  ·rw[if_neg h0] at hw
   rw[zM] at hb
   have hT:=VR h h0
   have hon:=Xj h.vn
   have hTb:∀ t∈yi x,zM D t<=268435456:=fun t ht=>by
    have:=zeP (f:=zM D) (fun t ht=>wm D (hT t ht).vn) t ht
    omega
   have hP:∀ t∈yi x,∀ off,zC (yN t off):=fun t ht=>zdY (hT t ht) (hTb t ht)
   obtain ⟨hs,hkk⟩:=wB h.vn
   rcases List.mem_append.1 hw with hw|hw
   ·unfold xU at hw
    by_cases h1:x.kind=1
    ·obtain ⟨d,q,rfl,g1,g2,g3,g4,g5,g6⟩:=Z4 h.vn h.tr h.gd h1
     rw[if_pos h1] at hw
     rcases List.mem_append.1 hw with hw|hw
     ·exact Y1 _ g3 w hw
     ·exact K8 _ _ _ hP w hw
    ·have hs2:=(hs.resolve_left (fun h=>h0 h.1)).resolve_left (fun h=>h1 h.1)
     rw[if_neg h1] at hw
     cases x with
     |mk k e n d ks=>
      have hg:=h.gd
      rw[yw] at hg
      obtain ⟨k2,hn,he,h6,hl6⟩:=hs2
      have k2':k=2:=k2
      subst k2'
      have hn':0<=n/\n<=536870911:=hn
      by_cases e7:e=7
      ·subst e7
       have hw:w∈yg n (zm ks) (zo ks)::xO (body D) (zm ks) (zo ks) 1 (1+ks.length*Yt (.mk 2 7 n d ks)) ks:=hw
       have hst:∀ k∈ks,k.kind=1:=by
        cases h.vn with
        |mk v1 v2 v3=>exact v2 rfl rfl
       have htr:∀ k∈ks,TrN k:=by
        cases h.tr with
        |mk t1 t2=>exact t2
       have hparts:∀ k∈ks,(∀ x∈k.data,zF x)/\k.data.length%8=0/\k.data.length<=524280/\k.kids.length<=65535:=fun k hk=>by
        obtain ⟨d,q,rfl,g1,g2,g3,g4,g5,g6⟩:=Z4 (hkk k hk) (htr k hk) (goods_iff.1 hg.2 k hk) (hst k hk)
        exact ⟨g3,g4,g5,g6⟩
       rcases List.mem_cons.1 hw with rfl|hw
       ·exact qY (Yu fun x hx=>by have:=(hparts x hx).2.2.1;omega) (Yv fun x hx=>(hparts x hx).2.2.2)
       ·exact zaa ks _ _ (fun k hk=>⟨(hparts k hk).1,fun t ht=>hP t (List.mem_flatMap.2 ⟨k,hk,ht⟩)⟩) w hw
      ·have et:yi (.mk 2 e n d ks)=ks:=by
        show (if (2:Int)=2/\e=7 then _ else ks)=_
        rw[if_neg (fun h=>e7 h.2)]
       rw[et] at hP
       rw[if_neg (show ¬(Nd.mk 2 e n d ks).elem=7 from e7)] at hw
       split at hw
       ·exact K8 _ _ _ hP w hw
       ·exact Y1 _ hg.1.2.1 w hw
   ·obtain ⟨t,ht,hw⟩:=List.mem_flatMap.1 hw
    exact zar D t (hT t ht) (hTb t ht) w hw
theorem zaG {D:Nat} {x:Nd} (h:Ok D x) (hb:zM D x<=268435456):∀ w∈xw D x,zC w:=fun w hw=>by
 rcases List.mem_cons.1 hw with rfl|hw
 ·exact zdY h hb 0
 ·exact zar D x h hb w hw
theorem XN {D:Nat} {x:Nd} (h:Ok D x):((xw D x).length:Int)=zM D x+1:=by
 rw[xw,zqT,←zan h];push_cast;rfl
theorem ziq {D:Nat} {x:Nd} (h:Ok D x) (hb:zM D x<=268435456):zN [xw D x]:=by
 have:=XN h
 refine ⟨by rw[List.length_singleton];decide,fun s hs=>?_⟩
 rw[List.mem_singleton.1 hs]
 exact ⟨by omega,zaG h hb⟩
theorem zir {D:Nat} {x:Nd} (h:Ok D x) (hb:zM D x<=268435456):Sm [xw D x]:=by
 have:=XN h
 intro s
 unfold yu
 rcases Nat.eq_zero_or_pos s.toNat with h0|h0
 ·rw[h0];show ((xw D x).length:Int)<=_;omega
 ·rw[List.getD_eq_getElem?_getD,List.getElem?_eq_none (by rw[List.length_singleton];omega)]
  simp
theorem zix {D:Nat} {x:Nd} (h:Ok D x) (hb:zM D x<=134217728) {d w:Int} (hd:d.toNat=D) (hc:yz D x<=max w 0):∃ y,runT [xw D x] d w=(y,max w 0-yz D x,0)/\zg y=x:=by
 have hl:=XN h
 have R:=zbK (W:=xw D x) (by omega) D
 obtain ⟨y,e,ht⟩:=R.one x 0 1 (max w 0) h ⟨[yN x 0],[],by simp[xw],rfl⟩ ⟨[],body D x,by simp[xw],rfl⟩ hc
 refine ⟨y,?_,ht⟩
 unfold runT
 have hne:¬XZ [xw D x]:=fun he=>by
  have h2:(yu [xw D x] 0).length=0:=he.2
  have h3:(yu [xw D x] 0).length=(xw D x).length:=rfl
  have h4:=wm D h.vn
  omega
 rw[if_neg hne,hd]
 exact e
theorem ziu {D:Nat} {x:Nd} (h:Ok D x) (hb:zM D x<=134217728) {d w:Int} (hd:d.toNat=D) (hc:yz D x<=max w 0):yI [xw D x] d w=0/\yR [xw D x] d w=x/\ZI [xw D x] d w=yz D x:=by
 obtain ⟨y,e,ht⟩:=zix h hb hd hc
 refine ⟨by unfold yI;rw[e],?_,?_⟩
 ·unfold yR;rw[e,if_pos rfl];exact ht
 ·unfold ZI;rw[e,if_pos rfl];show max w 0-(max w 0-yz D x)=_;exact Int.sub_sub_self _ _
noncomputable def xt (l:List (List Int)) (d w:Int):List Int:=if yI l d w=0 then xw d.toNat (yR l d w) else []
theorem Xi {l:List (List Int)} (hl:zN l) (hs:Sm l) {d w:Int} (hw:w<=134217728) (h0:yI l d w=0):Ok d.toNat (yR l d w)/\zM d.toNat (yR l d w)<=134217728/\yz d.toNat (yR l d w)<=max w 0:=by
 obtain ⟨ho,hc⟩:=zdj hl hs (by omega) (show (runT l d w).2.2=0 from h0)
 have hr1:=(Ww hl hs (d:=d) (w:=w) (by omega)).1
 unfold Mt at hr1
 have hle:=uB d.toNat ho.vn ho.dp
 have hmc:ZI l d w<=max w 0:=by
  unfold ZI
  split<;>omega
 exact ⟨ho,by omega,by omega⟩
theorem jA {l:List (List Int)} (hl:zN l) (hs:Sm l) {d w b:Int} (hd:d<=1099511627775) (hw:w<=134217728):ev 75 [.pv (.sl 1 (zL l)),.pv (.agg [I d,I w,I b])] []=ok (.tup [.sl 1 (ws (xt l d w)),I (yI l d w)]):=by
 rw[zjw,WU hl hs hd (by omega)]
 dsimp only[Nd.x,zh,zK,zqQ,zqP,zqR,zA,vj,yh,xu,zj,zb]
 unfold xt
 by_cases h0:yI l d w=0
 ·obtain ⟨ho,hb,_⟩:=Xi hl hs hw h0
  have h1:=zgO ho hb
  dsimp only[Nd.x] at h1
  rw[h0,show ((0:Int) != 0)=false from rfl,if_pos rfl]
  dsimp only[zl]
  rw[h1]
  rfl
 ·rw[yP h0,if_neg h0]
  rfl
theorem wsl (z:Nat) (x:List PV):(decide ((PV.sl z x).cells.length=1)&&(PV.sl z x).cells.all PV.isCell)=true:=rfl
def yb (b:List Int) (i:Nat):Int:=b.getD (4*i) 0+256*b.getD (4*i+1) 0+65536*b.getD (4*i+2) 0+16777216*b.getD (4*i+3) 0
theorem KP {b:List Int} (hb:∀ x∈b,zF x) (i:Nat):0<=yb b i/\yb b i<=4294967295:=by
 have h0:=xh hb (4*i)
 have h1:=xh hb (4*i+1)
 have h2:=xh hb (4*i+2)
 have h3:=xh hb (4*i+3)
 unfold yb
 omega
theorem Ya {b:List Int} {x:Int} {i:Nat} (hx:x=i) (h:i<b.length):(bs b)[x.toNat]? = some (U8 (b.getD i 0)):=by
 subst hx
 rw[zqK,qj h]
theorem J0 {b:List Int} (hb:∀ x∈b,zF x) (hl:b.length<=1099511627776) {i:Nat} (hi:4*i+4<=b.length):ev 85 [.pv (.sl 1 (bs b)),.pv (I (i:Int))] []=ok (I (yb b i)):=by
 have h0:=xh hb (4*i)
 have h1:=xh hb (4*i+1)
 have h2:=xh hb (4*i+2)
 have h3:=xh hb (4*i+3)
 rw[zi5,zU,zc (x:=4*(i:Int)),zc (x:=4*(i:Int)+1),zc (x:=4*(i:Int)+2),zc (x:=4*(i:Int)+3)]
 rw[dT (0<=4*(i:Int)),dT (4*(i:Int)<(b.length:Int)),dT (0<=4*(i:Int)+1),dT (4*(i:Int)+1<(b.length:Int)),
  dT (0<=4*(i:Int)+2),dT (4*(i:Int)+2<(b.length:Int)),dT (0<=4*(i:Int)+3),dT (4*(i:Int)+3<(b.length:Int))]
 rw[Ya (show 4*(i:Int)=((4*i:Nat):Int) by push_cast;rfl) (by omega),Ya (show 4*(i:Int)+1=((4*i+1:Nat):Int) by push_cast;rfl) (by omega),Ya (show 4*(i:Int)+2=((4*i+2:Nat):Int) by push_cast;rfl) (by omega),Ya (show 4*(i:Int)+3=((4*i+3:Nat):Int) by push_cast;rfl) (by omega)]
 dsimp only[zj,zqR,z9,zqP,xV,zb]
 unfold yb
 generalize b.getD (4*i) 0=c0 at h0 ⊢
 generalize b.getD (4*i+1) 0=c1 at h1 ⊢
 generalize b.getD (4*i+2) 0=c2 at h2 ⊢
 generalize b.getD (4*i+3) 0=c3 at h3 ⊢
 rw[zc (x:=c0),zc (x:=c1),zc (x:=c2),zc (x:=c3),zc (x:=256*c1),zc (x:=65536*c2),zc (x:=16777216*c3),zc (x:=c0+256*c1),zc (x:=c0+256*c1+65536*c2),zc (x:=c0+256*c1+65536*c2+16777216*c3)]
theorem or8 {v x:Nat} (hv:v<16777216) (hx:x<256):IntKind.wrap .i64 (BitVec.ofInt 64 (IntKind.wrap .i64 ((v:Int)*2^(min 8 64))) ||| BitVec.ofInt 64 (IntKind.wrap .i64 (x:Int))).toNat=((v*256+x:Nat):Int):=by
 have e1:IntKind.wrap .i64 ((v:Int)*2^(min 8 64))=((v*256:Nat):Int):=by
  have hp:(2:Int)^(min 8 64)=256:=by decide
  rw[hp,show (v:Int)*256=((v*256:Nat):Int) by omega,zc (by omega)]
 rw[e1,zc (x:=(x:Int))]
 have e3:(BitVec.ofInt 64 ((v*256:Nat):Int) ||| BitVec.ofInt 64 (x:Int)).toNat=v*256+x:=by
  rw[BitVec.toNat_or,Zl (by omega),Zl (by omega),show v*256=2^8*v by omega,←Nat.two_pow_add_eq_or_of_lt (show x<2^8 by omega)]
 rw[e3,zfp (by omega)]
theorem KU {b:List Int} (hb:∀ x∈b,zF x) (hl:b.length<=1099511627776) {i k:Nat} (hk:k<=3) (hi:4*i+4<=b.length) {v:Nat} (hv:v<16777216):VG (bs b) i v k=VG (bs b) i ((v*256+xA b (4*i+k):Nat):Int) ((k:Int)-1):=by
 have hx:=xv hb (4*i+k)
 rw[zcu,dT ((k:Int)≥0),zc (x:=4*(i:Int)),zc (x:=4*(i:Int)+k),dT (0<=4*(i:Int)+k),decide_eq_true (show 4*(i:Int)+k<((bs b).length:Int) by rw[zU];omega),Ya (show 4*(i:Int)+k=((4*i+k:Nat):Int) by push_cast;rfl) (by omega),←hx.1]
 dsimp only[zj,zqR,z9,zqP,xV,zb]
 rw[or8 hv hx.2,zc (x:=(k:Int)-1)]
theorem Y6:ev 174 [.pv (Bo false)] []=some (.pan (.ifc 225 (.agg [])),[]):=by rw[zct];rfl
theorem WS:ev 174 [.pv (Bo true)] []=ok (.tup []):=by rw[zct];rfl
theorem jt {b:List Int} (hb:∀ x∈b,zF x) (hl:b.length<=1099511627776) {i:Nat} (hi:4*i+4<=b.length):ev 173 [.pv (.sl 1 (bs b)),.pv (I (i:Int))] []=ok (I (yb b i)):=by
 rw[zcv,zU,zc (x:=(i:Int)+1),zc (x:=4*((i:Int)+1)),dT (4*((i:Int)+1)<=(b.length:Int)),WS]
 dsimp only[zh]
 have h0:((xA b (4*i+0):Nat):Int)=b.getD (4*i) 0/\xA b (4*i+0)<256:=xv hb (4*i)
 have h1:=xv hb (4*i+1)
 have h2:=xv hb (4*i+2)
 have h3:=xv hb (4*i+3)
 have s3:=KU hb hl (k:=3) (by omega) hi (v:=0) (by omega)
 have s2:=KU hb hl (k:=2) (by omega) hi (v:=0*256+xA b (4*i+3)) (by omega)
 have s1:=KU hb hl (k:=1) (by omega) hi (v:=(0*256+xA b (4*i+3))*256+xA b (4*i+2)) (by omega)
 have s0:=KU hb hl (k:=0) (by omega) hi (v:=((0*256+xA b (4*i+3))*256+xA b (4*i+2))*256+xA b (4*i+1)) (by omega)
 have e3:(((3:Nat):Int)-1)=((2:Nat):Int):=rfl
 have e2:(((2:Nat):Int)-1)=((1:Nat):Int):=rfl
 have e1:(((1:Nat):Int)-1)=((0:Nat):Int):=rfl
 rw[e3] at s3
 rw[e2] at s2
 rw[e1] at s1
 refine (s3.trans (s2.trans (s1.trans s0))).trans ?_
 rw[zcu,show decide ((((0:Nat):Int)-1)≥0)=false from rfl]
 refine congrArg (fun z=>ok (I z)) ?_
 unfold yb
 omega
theorem zgp {b:List Int} (hl:b.length<4):ev 173 [.pv (.sl 1 (bs b)),.pv (I 0)] []=some (.pan (.ifc 225 (.agg [])),[]):=by
 rw[zcv,zU,show IntKind.wrap .i64 ((0:Int)+1)=1 from rfl,show IntKind.wrap .i64 ((4:Int)*1)=4 from rfl,dF ((4:Int)<=(b.length:Int)),Y6]
 rfl
def yK (n:Nat):Nat:=if n%2=0 then 4*n+8 else 4*n+4
theorem jQ {n:Nat} (hn:n<=1099511627776):ev 167 [.pv (I (n:Int))] []=ok (I (yK n)):=by
 rw[zlm,zc (x:=(n:Int)+1),zc (x:=4*((n:Int)+1)),zc (x:=4*((n:Int)+1)+8),zc (x:=4*((n:Int)+1)+8-1),Int.tdiv_eq_ediv_of_nonneg (by omega),zc (x:=(4*((n:Int)+1)+8-1)/8),zc (x:=(4*((n:Int)+1)+8-1)/8*8)]
 refine congrArg (fun z=>ok (I z)) ?_
 unfold yK
 split<;>(push_cast;omega)
theorem zgR {n:Nat} (hn:n<=1099511627776):ev 86 [.pv (I (n:Int))] []=ok (I (yK n)):=by
 rw[zi4,zc (x:=4*(n:Int)),zc (x:=4*(n:Int)+8),zc (x:=4*(n:Int)+4),Int.tmod_eq_emod_of_nonneg (by omega),yj]
 unfold yK
 by_cases h:n%2=0
 ·rw[if_pos (by omega),if_pos h];push_cast;rfl
 ·rw[if_neg (by omega),if_neg h];push_cast;rfl
theorem zqv {b:List Int} (hl:b.length<=1099511627776):∀ (c i:Nat),i+c=b.length->KH (bs b) b.length i=ok (Bo ((b.drop i).all (·==0))):=by
 intro c
 induction c with
 |zero=>
  intro i hi
  rw[zcx,decide_eq_false (by omega),List.drop_eq_nil_of_le (by omega)]
  rfl
 |succ c ih=>
  intro i hi
  have hil:i<b.length:=by omega
  rw[zcx,dT ((i:Int)<(b.length:Int)),dT (0<=(i:Int)),decide_eq_true (show (i:Int)<((bs b).length:Int) by rw[zU];omega),zqK,Ze hil]
  dsimp only[zj,zqR,z9,zqP,wV,zb]
  rw[zc (x:=(i:Int)+1),List.drop_eq_getElem_cons hil,List.all_cons]
  by_cases h0:b[i]=0
  ·rw[h0,show ((0:Int) != 0)=false from rfl,show ((0:Int)==0)=true from rfl]
   dsimp only[zl,zj]
   exact ih (i+1) (by omega)
  ·rw[yP h0,beq_eq_false_iff_ne.2 h0]
   rfl
theorem zg7 {b:List Int} (hl:b.length<=1099511627776):ev 175 [.pv (.sl 1 (bs b))] []=ok (Bo (b.all (·==0))):=by
 rw[zlo,zU]
 exact zqv hl b.length 0 (by omega)
def e4 (v:Int):List Int:=[v%256,v/256%256,v/65536%256,v/16777216%256]
theorem Jc {acc:List Int} (ha:acc.length<=17592186044424) (v:Int) {k:Nat} (hk:k<4):VH (bs acc) v k=VH (bs (acc++[v%256])) (v/256) ((k+1:Nat):Int):=by
 rw[zcw,dT ((k:Int)<4),yq (by rw[zU];omega) (by rw[zU];omega),vK,zc (x:=(k:Int)+1),wP,show (min 8 64:Nat)=8 from rfl,Int.fdiv_eq_ediv_of_nonneg _ (by decide)]
 rfl
theorem jx {acc:List Int} (ha:acc.length<=17592186044416) (v:Int):ev 166 [.slu 5 1 (bs acc),.pv (I v)] []=some (.ret (.slu 5 1 (bs (acc++e4 v))),[]):=by
 rw[zln]
 have s0:=Jc (acc:=acc) (by omega) v (k:=0) (by omega)
 have s1:=Jc (acc:=acc++[v%256]) (by simp;omega) (v/256) (k:=1) (by omega)
 have s2:=Jc (acc:=acc++[v%256]++[v/256%256]) (by simp;omega) (v/256/256) (k:=2) (by omega)
 have s3:=Jc (acc:=acc++[v%256]++[v/256%256]++[v/256/256%256]) (by simp;omega) (v/256/256/256) (k:=3) (by omega)
 refine (s0.trans (s1.trans (s2.trans s3))).trans ?_
 rw[zcw,show decide (((3+1:Nat):Int)<4)=false from rfl]
 have e:acc++[v%256]++[v/256%256]++[v/256/256%256]++[v/256/256/256%256]=acc++e4 v:=by
  unfold e4
  rw[show v/256/256=v/65536 by omega,show v/65536/256=v/16777216 by omega]
  simp
 rw[e]
 rfl
theorem jM {acc:List Int} (ha:acc.length<=17592186044416) {v:Int} (hv:0<=v/\v<=4294967295):ev 99 [.slu 5 1 (bs acc),.pv (I v)] []=some (.ret (.slu 5 1 (bs (acc++e4 v))),[]):=by
 rw[zi6,yq (by rw[zU];omega) (by rw[zU];omega),Int.tmod_eq_emod_of_nonneg hv.1,Int.tdiv_eq_ediv_of_nonneg hv.1,Int.tdiv_eq_ediv_of_nonneg hv.1,Int.tdiv_eq_ediv_of_nonneg hv.1,zc (x:=v/256),zc (x:=v/65536),zc (x:=v/16777216),
  Int.tmod_eq_emod_of_nonneg (show 0<=v/256 by omega),Int.tmod_eq_emod_of_nonneg (show 0<=v/65536 by omega),vK,vK,vK,vK,Int.emod_emod_of_dvd _ (by decide),Int.emod_emod_of_dvd _ (by decide),Int.emod_emod_of_dvd _ (by decide),wP]
 rfl
def xX (b:List Int):Nat->Nat->List Int->Option (List (List Int))
 |0,_,rest=>if rest=[] then some [] else none
 |c+1,i,rest=>if yb b i<536870912/\8*yb b i<=(rest.length:Int) then (xX b c (i+1) (rest.drop (8*(yb b i).toNat))).map (zW (yb b i).toNat (rest.take (8*(yb b i).toNat))::·) else none
def yO (b:List Int):Option (List (List Int)) :=
 if b.length<4 then none else if 512<yb b 0+1 then none else if b.length<yK (yb b 0+1).toNat then none
 else if (yb b 0+1).toNat%2=0/\yb b ((yb b 0+1).toNat+1)≠0 then none
 else xX b (yb b 0+1).toNat 1 (b.drop (yK (yb b 0+1).toNat))
def Zr (o:Option (List (List Int))):List PV:=match o with
 |some l=>[.sl 1 (zL l),I 0]
 |none=>[.sl 1 [],I 1]
theorem zeB (l:List (List Int)) (s:List Int):zL l++[.sl 1 (ws s)]=zL (l++[s]):=by simp[zL]
theorem zdf (o:Option (List (List Int))) (acc:List (List Int)) (s:List Int):(o.map (s::·)).map (acc++·)=o.map ((acc++[s])++·):=by
 cases o<;>simp
theorem W4 {b:List Int} (hb:∀ x∈b,zF x) (n:Nat):∀ x∈b.drop n,zF x:=fun x hx=>hb x (List.mem_of_mem_drop hx)
theorem qk {b:List Int} (hb:∀ x∈b,zF x) (n:Nat):∀ x∈b.take n,zF x:=fun x hx=>hb x (List.mem_of_mem_take hx)
theorem QK (b:List Int) (n:Nat):(bs b).drop n=bs (b.drop n):=by simp[bs]
theorem zm3 {b:List Int} (hb:∀ x∈b,zF x) (hl:b.length<=1099511627776) {n:Nat} (hn:n<=512) (ht:4*n+4<=b.length):∀ (c i:Nat) (rest:List Int) (acc:List (List Int)),i+c=n->(∀ x∈rest,zF x)->rest.length<=1099511627776->acc.length=i->
  Wd (bs b) (bs rest) n i (zL acc) 0=ok (.tup (Zr ((xX b c (i+1) rest).map (acc++·)))):=by
 intro c
 induction c with
 |zero=>
  intro i rest acc hi hr hrl hal
  rw[zcq,decide_eq_false (by omega),xX]
  dsimp only[zl]
  by_cases h0:rest=[]
  ·subst h0
   rw[if_pos rfl,show (((bs []).length:Int)==0)=true from rfl,WS]
   simp[Zr]
  ·have:(((bs rest).length:Int)==0)=false:=by
    rw[zU,beq_eq_false_iff_ne]
    have:=List.length_pos_iff.2 h0
    omega
   rw[if_neg h0,this,Y6]
   rfl
 |succ c ih=>
  intro i rest acc hi hr hrl hal
  have hv:=KP hb (i+1)
  have e1:(i:Int)+1=((i+1:Nat):Int):=by push_cast;rfl
  rw[zcq,dT ((i:Int)<n),zc (x:=(i:Int)+1),e1,jt hb hl (by omega),xX]
  dsimp only[zv,zP,zqR,zA,zb]
  by_cases h1:yb b (i+1)<536870912
  ·rw[decide_eq_true h1,zc (x:=yb b (i+1)*8)]
   dsimp only[zb]
   rw[zU]
   by_cases h2:8*yb b (i+1)<=(rest.length:Int)
   ·rw[dT (yb b (i+1)*8<=(rest.length:Int)),WS,if_pos ⟨h1,h2⟩]
    have en:(yb b (i+1)*8).toNat=8*(yb b (i+1)).toNat:=by omega
    have hW:=JY (qk hr (8*(yb b (i+1)).toNat)) (by rw[zqN];omega) (n:=(yb b (i+1)).toNat) (by rw[zqN];omega)
    dsimp only[zv,zP,zqR]
    rw[dT (0<=yb b (i+1)*8)]
    dsimp only[zj,zb]
    rw[en,List.drop_zero,QL,hW]
    dsimp only[zv,zP,zqR,zK,zqQ,zqP,↓wsl,zj,zb]
    rw[yq (by simp;omega) (by simp;omega),dT ((rest.length:Int)<=(rest.length:Int)),zqK,List.take_of_length_le (show (bs rest).length<=rest.length by rw[zU];exact Nat.le_refl _),QK,zeB]
    dsimp only[zb]
    have:=ih (i+1) (rest.drop (8*(yb b (i+1)).toNat)) (acc++[zW (yb b (i+1)).toNat (rest.take (8*(yb b (i+1)).toNat))]) (by omega) (W4 hr _) (by rw[List.length_drop];omega) (by simp;omega)
    rw[zdf]
    exact this
   ·rw[dF (yb b (i+1)*8<=(rest.length:Int)),Y6,if_neg (fun h=>h2 h.2)]
    rfl
  ·rw[decide_eq_false h1,Y6,if_neg (fun h=>h1 h.1)]
   rfl
theorem Wn (a:AV) (p q:PV):Zq 0 2 (.tup 0 a [p,q])=some (a,[p,q]):=rfl
noncomputable def gw (l:List (List Int)) (d w:Int):List PV:=if yI l d w=0 then [.sl 1 (ws (xt l d w))] else []
theorem zga {l:List (List Int)} (hl:zN l) (hs:Sm l) {d w b:Int} (hd:d<=1099511627775) (hw:w<=134217728):ev 103 [.pv (.sl 1 (zL l)),.pv (.agg [I d,I w,I b])] []=ok (.tup [.sl 1 (gw l d w),I (yI l d w)]):=by
 rw[ziB,ziC,JU hl hs hd (by omega)]
 dsimp only[Nd.x,zh,zK,zqQ,zqP,zqR,zA,vj,yh,xu,zj,zb]
 unfold gw xt
 by_cases h0:yI l d w=0
 ·obtain ⟨ho,hb,_⟩:=Xi hl hs hw h0
  have h1:=jl ho hb
  dsimp only[Nd.x] at h1
  rw[h0,show ((0:Int) != 0)=false from rfl,if_pos rfl,if_pos rfl]
  dsimp only[zl]
  rw[ziA,h1]
  dsimp only[zv]
  rw[xg]
  rfl
 ·rw[yP h0,if_neg h0]
  rfl
theorem zl2 {b:List Int} {j:Nat} (h:j+4<=b.length):(b.drop j).take 4=[b.getD j 0,b.getD (j+1) 0,b.getD (j+2) 0,b.getD (j+3) 0]:=by
 have g:∀ i,i<b.length->b.getD i 0=b[i]!:=fun i hi=>by simp[List.getD_eq_getElem?_getD,hi]
 rw[List.drop_eq_getElem_cons (show j<b.length by omega),List.drop_eq_getElem_cons (show j+1<b.length by omega),List.drop_eq_getElem_cons (show j+1+1<b.length by omega),List.drop_eq_getElem_cons (show j+1+1+1<b.length by omega)]
 simp only[List.take_succ_cons,List.take_zero,List.getD_eq_getElem?_getD]
 rw[zqF (show j<b.length by omega),zqF (show j+1<b.length by omega),zqF (show j+2<b.length by omega),zqF (show j+3<b.length by omega)]
 rfl
theorem zeW (b:List Int) (j k:Nat):(b.take (j+k)).drop j=(b.drop j).take k:=by
 rw[List.drop_take,Nat.add_sub_cancel_left]
theorem zm1 {b:List Int} (hb:∀ x∈b,zF x) {n:Nat} (h:yK n<=b.length):((b.take (yK n)).drop (4*n+4)).all (·==0)=!decide (n%2=0/\yb b (n+1)≠0):=by
 by_cases hn:n%2=0
 ·have ht:yK n=(4*n+4)+4:=by unfold yK;rw[if_pos hn]
  have h0:=xh hb (4*n+4)
  have h1:=xh hb (4*n+4+1)
  have h2:=xh hb (4*n+4+2)
  have h3:=xh hb (4*n+4+3)
  have hl:yb b (n+1)=b.getD (4*n+4) 0+256*b.getD (4*n+4+1) 0+65536*b.getD (4*n+4+2) 0+16777216*b.getD (4*n+4+3) 0:=rfl
  rw[ht,zeW,zl2 (by omega),hl]
  generalize b.getD (4*n+4) 0=c0 at h0 ⊢
  generalize b.getD (4*n+4+1) 0=c1 at h1 ⊢
  generalize b.getD (4*n+4+2) 0=c2 at h2 ⊢
  generalize b.getD (4*n+4+3) 0=c3 at h3 ⊢
  rw[Bool.eq_iff_iff]
  simp only[List.all_cons,List.all_nil,Bool.and_true,Bool.and_eq_true,beq_iff_eq,Bool.not_eq_true',decide_eq_false_iff_not]
  omega
 ·have ht:yK n=4*n+4:=by unfold yK;rw[if_neg hn]
  rw[ht,List.drop_eq_nil_of_le (by rw[zqN];omega),decide_eq_false (fun h=>hn h.1)]
  rfl
theorem zf0 {b:List Int} (hb:∀ x∈b,zF x) (hl:b.length<=1099511627776):ev 107 [.pv (.sl 1 (bs b))] []=ok (.tup (Zr (yO b))):=by
 rw[zlk]
 unfold yO
 by_cases h4:b.length<4
 ·rw[zgp h4,if_pos h4]
  rfl
 have hN:ev 173 [.pv (.sl 1 (bs b)),.pv (I 0)] []=ok (I (yb b 0)):=jt hb hl (i:=0) (by omega)
 have hr:=KP hb 0
 rw[hN,if_neg h4]
 dsimp only[zv,zP,zqR,zA]
 rw[zc (x:=yb b 0+1)]
 obtain ⟨n,hn⟩:∃ n:Nat,yb b 0+1=n:=⟨(yb b 0+1).toNat,by omega⟩
 rw[hn,zqK n]
 by_cases h5:(512:Int)<n
 ·rw[if_pos h5,decide_eq_false (by omega),Y6]
  rfl
 have htb:yK n<=4*n+8/\4*n+4<=yK n:=by unfold yK;split<;>omega
 rw[if_neg h5,dT ((n:Int)<=512),WS,jQ (by omega)]
 dsimp only[zv,zP,zqR,zA,xV]
 rw[zU]
 by_cases h6:b.length<yK n
 ·rw[if_pos h6,decide_eq_false (by omega),Y6]
  rfl
 rw[if_neg h6,dT ((b.length:Int)≥(yK n:Int)),zc (x:=(n:Int)+1),zc (x:=4*((n:Int)+1)),dT (0<=4*((n:Int)+1)),dT (4*((n:Int)+1)<=(yK n:Int))]
 dsimp only[zj,zb]
 rw[zqK (yK n),show (4*((n:Int)+1)).toNat=4*n+4 by omega,QL,QK,zg7 (by rw[List.length_drop,zqN];omega),zm1 hb (by omega)]
 dsimp only[zv,zP,zqR,yL]
 by_cases h7:n%2=0/\yb b (n+1)≠0
 ·rw[decide_eq_true h7,if_pos h7,show (!true)=false from rfl,Y6]
  rfl
 rw[decide_eq_false h7,if_neg h7,show (!false)=true from rfl,WS]
 dsimp only[zv,zP,zqR]
 rw[zqK b.length,dT (0<=(yK n:Int)),dT ((b.length:Int)<=(b.length:Int)),List.take_of_length_le (show (bs b).length<=b.length by rw[zU];exact Nat.le_refl _),QK]
 dsimp only[zj,zb]
 have:=zm3 hb hl (n:=n) (by omega) (by omega) n 0 (b.drop (yK n)) [] (by omega) (W4 hb _) (by rw[List.length_drop];omega) rfl
 have e:(xX b n (0+1) (b.drop (yK n))).map (([]:List (List Int))++·)=xX b n 1 (b.drop (yK n)):=by
  cases xX b n 1 (b.drop (yK n))<;>rfl
 rw[e] at this
 exact this
theorem zok {b:List Int} (hb:∀ x∈b,zF x) (hl:b.length<=1099511627776) {n:Nat} (hn:n<=512) (ht:4*n+4<=b.length):∀ (c i at_:Nat) (acc:List (List Int)),i+c=n+1->at_<=b.length->acc.length<=i->
  Va (bs b) n (zL acc) (I (at_:Int)) i=ok (.tup (Zr ((xX b c i (b.drop at_)).map (acc++·)))):=by
 intro c
 induction c with
 |zero=>
  intro i at_ acc hi ha hal
  rw[za0,decide_eq_false (by omega),xX]
  dsimp only[zA,xV,zqR,zl]
  rw[zU]
  by_cases h0:at_=b.length
  ·rw[if_pos (by rw[List.drop_eq_nil_iff];omega),h0,show ((b.length:Int) != (b.length:Int))=false by simp]
   simp[Zr]
  ·rw[if_neg (by rw[List.drop_eq_nil_iff];omega),show ((at_:Int) != (b.length:Int))=true from bne_iff_ne.2 (by omega)]
   rfl
 |succ c ih=>
  intro i at_ acc hi ha hal
  have hv:=KP hb i
  rw[za0,dT ((i:Int)<=n),J0 hb hl (by omega),xX]
  dsimp only[zA,xV,zqR,zh,zb]
  rw[zU,List.length_drop]
  by_cases h1:yb b i<536870912
  ·rw[dF (yb b i≥536870912),zc (x:=8*yb b i),zc (x:=(at_:Int)+8*yb b i)]
   dsimp only[zl]
   by_cases h2:8*yb b i<=((b.length-at_:Nat):Int)
   ·rw[dF ((at_:Int)+8*yb b i>(b.length:Int)),if_pos ⟨h1,h2⟩]
    have en:((at_:Int)+8*yb b i).toNat=at_+8*(yb b i).toNat:=by omega
    have hW:=J9 (qk (W4 hb at_) (8*(yb b i).toNat)) (by rw[zqN,List.length_drop];omega) (n:=(yb b i).toNat) (by rw[zqN,List.length_drop];omega)
    dsimp only[zl]
    rw[dT (0<=(at_:Int)),dT ((at_:Int)<=(at_:Int)+8*yb b i),dT ((at_:Int)+8*yb b i<=(b.length:Int))]
    dsimp only[zj,zb]
    rw[en,zqK,QL,QK,zeW,hW]
    dsimp only[zv]
    rw[Wn]
    dsimp only[zqR,zqQ,zqP]
    rw[xg]
    dsimp only[zqR]
    rw[yq (by simp;omega) (by simp;omega),zeB,zc (x:=(i:Int)+1)]
    dsimp only[zb]
    have:=ih (i+1) (at_+8*(yb b i).toNat) (acc++[zW (yb b i).toNat ((b.drop at_).take (8*(yb b i).toNat))]) (by omega) (by omega) (by simp;omega)
    rw[zdf,List.drop_drop,show (at_:Int)+8*yb b i=((at_+8*(yb b i).toNat:Nat):Int) by omega]
    exact this
   ·rw[dT ((at_:Int)+8*yb b i>(b.length:Int)),if_neg (fun h=>h2 h.2)]
    rfl
  ·rw[dT (yb b i≥536870912),if_neg (fun h=>h1 h.1)]
   rfl
theorem QA {b:List Int} (hb:∀ x∈b,zF x) (hl:b.length<=1099511627776):ev 43 [.pv (.sl 1 (bs b))] []=ok (.tup (Zr (yO b))):=by
 rw[zi2,zU]
 unfold yO
 by_cases h4:b.length<4
 ·rw[dT ((b.length:Int)<4),if_pos h4]
  rfl
 have hN:ev 85 [.pv (.sl 1 (bs b)),.pv (I 0)] []=ok (I (yb b 0)):=J0 hb hl (i:=0) (by omega)
 have hr:=KP hb 0
 rw[dF ((b.length:Int)<4),hN,if_neg h4]
 dsimp only[zh,zA,zqR,zl]
 rw[zc (x:=yb b 0+1)]
 obtain ⟨n,hn⟩:∃ n:Nat,yb b 0+1=n:=⟨(yb b 0+1).toNat,by omega⟩
 rw[hn,zqK n]
 by_cases h5:(512:Int)<n
 ·rw[if_pos h5,dT ((n:Int)>512)]
  rfl
 have htb:yK n<=4*n+8/\4*n+4<=yK n:=by unfold yK;split<;>omega
 rw[if_neg h5,dF ((n:Int)>512),zgR (by omega)]
 dsimp only[zh,zA,zqR,zl]
 by_cases h6:b.length<yK n
 ·rw[if_pos h6,dT ((b.length:Int)<(yK n:Int))]
  rfl
 rw[if_neg h6,dF ((b.length:Int)<(yK n:Int)),Int.tmod_eq_emod_of_nonneg (by omega),zc (x:=(n:Int)+1)]
 dsimp only[zl]
 have loop:=zok hb hl (n:=n) (by omega) (by omega) n 1 (yK n) [] (by omega) (by omega) (by simp)
 have e:(xX b n 1 (b.drop (yK n))).map (([]:List (List Int))++·)=xX b n 1 (b.drop (yK n)):=by
  cases xX b n 1 (b.drop (yK n))<;>rfl
 rw[e] at loop
 by_cases h7:n%2=0
 ·have hE:ev 85 [.pv (.sl 1 (bs b)),.pv (I ((n:Int)+1))] []=ok (I (yb b (n+1))):=by
   have ht:yK n=4*n+8:=by unfold yK;rw[if_pos h7]
   have:=J0 hb hl (i:=n+1) (by omega)
   rw[show ((n+1:Nat):Int)=(n:Int)+1 by push_cast;rfl] at this
   exact this
  rw[show ((n:Int)%2==0)=true by rw[beq_iff_eq];omega,hE]
  dsimp only[zh,zA,zqR,zb]
  by_cases h8:yb b (n+1)=0
  ·rw[h8,if_neg (fun h=>h.2 rfl),show ((0:Int) != 0)=false from rfl]
   exact loop
  ·rw[if_pos ⟨h7,h8⟩,yP h8]
   rfl
 ·rw[show ((n:Int)%2==0)=false by rw[beq_eq_false_iff_ne];omega,if_neg (fun h=>h7 h.1)]
  exact loop
def Wy (w:List Int):List Int:=e4 0++e4 w.length++zu w
theorem zoT (w:List Int):(Wy w).length=8+8*w.length:=by
 unfold Wy
 rw[zqS,yT]
 rfl
theorem zf2 {w:List Int} (hw:w.length<536870912):ev 105 [.pv (.sl 1 [.sl 1 (ws w)])] []=some (.ret (.tup 0 (.slu 5 1 (bs (Wy w))) [.v .nilIface,I 0]),[]):=by
 have p1:=jx (acc:=[]) (by simp) 0
 have p2:=jx (acc:=e4 0) (by decide) (w.length:Int)
 have hb:=YB w (by omega)
 have ht:ev 167 [.pv (I 1)] []=ok (I 8):=jQ (n:=1) (by omega)
 have hl:((bs (e4 0++e4 (w.length:Int))).length:Int)=8:=by rw[zU];rfl
 rw[zll,show decide (((([.sl 1 (ws w)]:List PV).length:Nat):Int)<1)=false from rfl,show decide (((([.sl 1 (ws w)]:List PV).length:Nat):Int)>512)=false from rfl,show IntKind.wrap .i64 (((([.sl 1 (ws w)]:List PV).length:Nat):Int)-1)=0 from rfl]
 dsimp only[zl]
 have p1':ev 166 [.slu 5 1 [],.pv (I 0)] []=some (.ret (.slu 5 1 (bs (e4 0))),[]):=p1
 rw[p1']
 dsimp only[zv]
 rw[xg]
 dsimp only[zqR]
 rw[zcr,show decide ((0:Int)<((([.sl 1 (ws w)]:List PV).length:Nat):Int))=true from rfl,show decide ((0:Int)<=0)=true from rfl,show ([.sl 1 (ws w)]:List PV)[(0:Int).toNat]? = some (.sl 1 (ws w)) from rfl]
 dsimp only[zj,zqR,w5,zqP,yt,zb]
 rw[zZ,dF ((w.length:Int)≥536870912),p2]
 dsimp only[zv,zl]
 rw[xg]
 dsimp only[zqR]
 rw[zcr,show decide (IntKind.wrap .i64 ((0:Int)+1)<((([.sl 1 (ws w)]:List PV).length:Nat):Int))=false from rfl,show ((([.sl 1 (ws w)]:List PV).length:Nat):Int)=1 from rfl,ht]
 dsimp only[zh,zA,zqR,zl]
 rw[hl,show IntKind.wrap .i64 ((8:Int)-8)=0 from rfl,show (decide ((0:Int)<=0)&&decide ((0:Int)<=140737488355328))=true from rfl,show List.replicate (0:Int).toNat (PV.v (.int .u8 0))=[] from rfl,List.append_nil,show zJ ((bs (e4 0++e4 (w.length:Int))).length+([]:List PV).length) 1=true from by rw[zU];rfl]
 dsimp only[zb]
 rw[zcs,show decide ((0:Int)<1)=true from rfl,show decide ((0:Int)<((([.sl 1 (ws w)]:List PV).length:Nat):Int))=true from rfl,show decide ((0:Int)<=0)=true from rfl,show ([.sl 1 (ws w)]:List PV)[(0:Int).toNat]? = some (.sl 1 (ws w)) from rfl]
 dsimp only[zj,zqR,w5,zqP,zb]
 rw[hb]
 dsimp only[zh,yt,zqR]
 rw[show decide ((1:Nat)=1)=true from rfl,yq (by rw[zU,zU,yT,zqS];show (4+4+_)*1<=_;omega) (by rw[zU,zU,yT,zqS];show 4+4+_<=_;omega)]
 dsimp only[zb]
 rw[zcs,show decide (IntKind.wrap .i64 ((0:Int)+1)<1)=false from rfl,←wP]
 rfl
def YY (s b:Int):Int:=IntKind.wrap .u64 ((IntKind.wrap .u64 ((BitVec.ofInt 64 s ^^^ BitVec.ofInt 64 (IntKind.wrap .u64 b)).toNat:Nat))*1099511628211)
def wS (s:Int) (l:List Int):Int:=l.foldl YY s
theorem wrap64 (x:Int):IntKind.wrap .u64 x=x%18446744073709551616:=by
 simp[IntKind.wrap,IntKind.bits,IntKind.signed]
theorem zo7 (s b:Int):zC (YY s b):=by
 unfold YY
 rw[wrap64]
 exact ⟨by omega,by omega⟩
theorem step_loop {l:List Int} (hl:l.length<=4611686018427387904):∀ (c i:Nat) (s:Int),i+c=l.length->KF s (bs l) l.length i=ok (U (wS s (l.drop i))):=by
 intro c
 induction c with
 |zero=>
  intro i s hi
  rw[zcm,decide_eq_false (by omega),List.drop_eq_nil_of_le (by omega)]
  rfl
 |succ c ih=>
  intro i s hi
  have hil:i<l.length:=by omega
  rw[zcm,dT ((i:Int)<(l.length:Int)),dT (0<=(i:Int)),decide_eq_true (show (i:Int)<((bs l).length:Int) by rw[zU];omega)]
  dsimp only[zj,zb]
  rw[zqK,show (bs l)[i]? = some (U8 l[i]) by simp[bs,hil]]
  dsimp only[zqR,z9,zqP,xV]
  rw[zc (x:=(i:Int)+1)]
  have:=ih (i+1) (YY s l[i]) (by omega)
  rw[List.drop_eq_getElem_cons hil]
  exact this
theorem zgX {l:List Int} (hl:l.length<=4611686018427387904) (s:Int):ev 232 [.pv (U s),.pv (.sl 1 (bs l))] []=ok (U (wS s l)):=by
 rw[zli,zU]
 exact step_loop hl l.length 0 s (by omega)
theorem zlf (s:Int) (a b:List Int):wS s (a++b)=wS (wS s a) b:=List.foldl_append ..
theorem zik (w:Int) (l:List Int):zu (w::l)=w8 w++zu l:=rfl
theorem zlj {l:List Int} (hl:l.length<=17592186044416):∀ (c i:Nat) (s:Int),i+c=l.length->KE (U s) (ws l) l.length i=ok (U (wS s (zu (l.drop i)))):=by
 intro c
 induction c with
 |zero=>
  intro i s hi
  rw[zcl,decide_eq_false (by omega),List.drop_eq_nil_of_le (by omega)]
  rfl
 |succ c ih=>
  intro i s hi
  have hil:i<l.length:=by omega
  have hb:=YB [l[i]] (by simp)
  have hs:=zgX (l:=zu [l[i]]) (by rw[yT];simp) s
  rw[zcl,dT ((i:Int)<(l.length:Int)),dT (0<=(i:Int)),decide_eq_true (show (i:Int)<((ws l).length:Int) by rw[zZ];omega)]
  dsimp only[zj,zb]
  rw[zqK,vZ hil]
  have hb':ev 117 [.pv (.sl 1 [U l[i]])] []=ok (.sl 1 (bs (zu [l[i]]))):=hb
  dsimp only[zqR,z9,zqP,↓zp1,zj,zb]
  rw[hb']
  dsimp only[zh]
  rw[hs]
  dsimp only[zh]
  rw[zc (x:=(i:Int)+1)]
  have:=ih (i+1) (wS s (zu [l[i]])) (by omega)
  have e:zu [l[i]]=w8 l[i]:=by simp[zu]
  refine (show _=_ from this).trans ?_
  rw[e,List.drop_eq_getElem_cons hil,zik,zlf]
def off:Int:=14695981039346656037
theorem zgk {l:List Int} (hl:l.length<=17592186044416):ev 177 [.pv (.sl 1 (ws l))] []=ok (U (wS off (zu l))):=by
 rw[zlh,zlg]
 dsimp only[zh]
 rw[zZ,show (14695981039346656037:Int)=off from rfl]
 exact zlj hl l.length 0 off (by omega)
theorem zqr (a c k:Nat):(a ^^^ c)%2^(k+1)=(a ^^^ c)%2^k+(if a/2^k%2≠c/2^k%2 then 2^k else 0):=by
 rw[Nat.mod_pow_succ,Nat.xor_div_two_pow]
 have h0:(a/2^k ^^^ c/2^k)%2^1=(a/2^k)%2^1 ^^^ (c/2^k)%2^1:=Nat.xor_mod_two_pow
 rw[Nat.pow_one] at h0
 have h1:=Nat.mod_two_eq_zero_or_one (a/2^k)
 have h2:=Nat.mod_two_eq_zero_or_one (c/2^k)
 rw[h0]
 rcases h1 with h1|h1<;>rcases h2 with h2|h2<;>simp[h1,h2]
theorem zqq (s c:Nat) (hc:c<256):s-s%256+(s%256 ^^^ c)=s ^^^ c:=by
 have h1:(s ^^^ c)%2^8=(s%2^8) ^^^ (c%2^8):=Nat.xor_mod_two_pow
 have h2:(s ^^^ c)/2^8=s/2^8 ^^^ c/2^8:=Nat.xor_div_two_pow
 have e1:c%2^8=c:=Nat.mod_eq_of_lt hc
 have e2:c/2^8=0:=Nat.div_eq_of_lt hc
 rw[e1] at h1
 rw[e2,Nat.xor_zero] at h2
 have h3:(2:Nat)^8=256:=rfl
 rw[h3] at h1 h2
 omega
theorem zqp (s c:Nat) (hs:s<18446744073709551616) (hc:c<256):(BitVec.ofInt 64 (s:Int) ^^^ BitVec.ofInt 64 (IntKind.wrap .u64 (c:Int))).toNat=s ^^^ c:=by
 have e1:∀ m:Nat,m<18446744073709551616->(BitVec.ofInt 64 (m:Int)).toNat=m:=fun m hm=>by simp;omega
 rw[yC (by omega),BitVec.toNat_xor,e1 s hs,e1 c (by omega)]
theorem zqs (s c:Nat) (hs:s<18446744073709551616) (hc:c<256):s ^^^ c<18446744073709551616:=Nat.xor_lt_two_pow (n:=64) hs (by omega)
theorem zhO (s c:Nat) (hs:s<18446744073709551616) (hc:c<256):(IntKind.wrap .u64 ((IntKind.wrap .u64 ((IntKind.wrap .u64 ((IntKind.wrap .u64 ((IntKind.wrap .u64 ((s:Int)-((s%256:Nat):Int)))+((s%256 ^^^ c:Nat):Int)))*1099511627776))+(IntKind.wrap .u64 ((IntKind.wrap .u64 ((IntKind.wrap .u64 ((s:Int)-((s%256:Nat):Int)))+((s%256 ^^^ c:Nat):Int)))*256))))+(IntKind.wrap .u64 ((IntKind.wrap .u64 ((IntKind.wrap .u64 ((s:Int)-((s%256:Nat):Int)))+((s%256 ^^^ c:Nat):Int)))*179))))=YY s c:=by
 have h:=zqq s c hc
 have h2:=zqs s c hs hc
 have hl:s%256<=s:=Nat.mod_le _ _
 have e1:IntKind.wrap .u64 ((s:Int)-((s%256:Nat):Int))=((s-s%256:Nat):Int):=by rw[yC (by omega)];omega
 have e2:IntKind.wrap .u64 (((s-s%256:Nat):Int)+((s%256 ^^^ c:Nat):Int))=((s ^^^ c:Nat):Int):=by
  rw[yC (by omega)];omega
 unfold YY
 rw[e1,e2,zqp s c hs hc,yC (x:=((s ^^^ c:Nat):Int)) (by omega)]
 generalize s ^^^ c=t at h2
 simp only[wrap64]
 omega
theorem zhP {l:List Int} {s c:Nat} (hs:s<18446744073709551616) (hc:c<256) (i:Int) (hi:0<=i/\i<=9000000000000000000):∀ (d k:Nat),k+d=8->Vm s (bs l) i ((s%256:Nat):Int) (((s%256 ^^^ c)%2^k:Nat):Int) c k=XR (YY s c) (bs l) (i+1):=by
 have hx:s%256 ^^^ c<256:=Nat.xor_lt_two_pow (n:=8) (by omega) (by omega)
 intro d
 induction d with
 |zero=>
  intro k hk
  obtain rfl:k=8:=by omega
  rw[zbo,show decide (((8:Nat):Int)<8)=false from rfl,Nat.mod_eq_of_lt (show s%256 ^^^ c<2^8 from hx),zhO s c hs hc,zc (x:=i+1)]
  rfl
 |succ d ih=>
  intro k hk
  have hp:0<2^k:=Nat.pow_pos (by decide)
  have hp2:2^k<=2^7:=Nat.pow_le_pow_right (by decide) (by omega)
  have hpow:=Qu k (by omega)
  have q:∀ a:Nat,a<256->Int.tmod (IntKind.wrap .u64 (Int.tdiv (a:Int) ((2^k:Nat):Int))) 2=((a/2^k%2:Nat):Int):=fun a ha=>by
   have h1:Int.tdiv (a:Int) ((2^k:Nat):Int)=((a/2^k:Nat):Int):=by
    rw[Int.tdiv_eq_ediv_of_nonneg (by omega)];exact (Int.natCast_ediv a (2^k)).symm
   have h2:a/2^k<=a:=Nat.div_le_self _ _
   generalize a/2^k=z at h1 h2
   rw[h1,yC (by omega),Int.tmod_eq_emod_of_nonneg (by omega)]
   omega
  have ok:yS .quo ((2^k:Nat):Int)=true:=by
   have:((2^k:Nat):Int)≠0:=by omega
   simp only[yS]
   simpa using this
  have hm:(s%256 ^^^ c)%2^k<2^k:=Nat.mod_lt _ hp
  have hn:=ih (k+1) (by omega)
  rw[zqr] at hn
  rw[zbo,dT ((k:Int)<8),hpow]
  dsimp only[zh,xc,zqR,zv,zP,zb]
  rw[ok]
  dsimp only[zb]
  rw[q _ (Nat.mod_lt _ (by decide)),q c hc,zc (x:=(k:Int)+1)]
  by_cases g:s%256/2^k%2=c/2^k%2
  ·rw[if_neg (fun h=>h g),Nat.add_zero] at hn
   rw[show (((s%256/2^k%2:Nat):Int) != ((c/2^k%2:Nat):Int))=false from by rw[g];simp]
   exact hn
  ·rw[if_pos g] at hn
   rw[bne_iff_ne.2 (show ((s%256/2^k%2:Nat):Int)≠((c/2^k%2:Nat):Int) by omega)]
   dsimp only[zb]
   rw[yC (by omega)]
   exact hn
theorem zhQ {l:List Int} (hb:∀ b∈l,zF b) (hl:l.length<=4611686018427387904):∀ (d i:Nat) (s:Int),zC s->i+d=l.length->XR s (bs l) i=ok (U (wS s (l.drop i))):=by
 intro d
 induction d with
 |zero=>
  intro i s hs hi
  rw[zbn,decide_eq_false (by rw[zU];omega),List.drop_eq_nil_of_le (by omega)]
  rfl
 |succ d ih=>
  intro i s hs hi
  have hil:i<l.length:=by omega
  obtain ⟨b1,b2⟩:=hb _ (List.getElem_mem hil)
  obtain ⟨s1,s2⟩:=hs
  obtain ⟨n,hn⟩:=Int.eq_ofNat_of_zero_le s1
  obtain ⟨c,hc⟩:=Int.eq_ofNat_of_zero_le b1
  have h:=zhP (l:=l) (s:=n) (c:=c) (by omega) (by omega) (i:Int) (by omega) 8 0 rfl
  have hm:Int.tmod s 256=((n%256:Nat):Int):=by rw[hn,Int.tmod_eq_emod_of_nonneg (by omega)];omega
  rw[zbn,decide_eq_true (show (i:Int)<((bs l).length:Int) by rw[zU];omega),dT (0<=(i:Int))]
  dsimp only[zj,zb]
  rw[zqK,show (bs l)[i]? = some (U8 l[i]) by simp[bs,hil]]
  dsimp only[zqR,z9,zqP,xV]
  rw[hm,yC (x:=l[i]) (by omega)]
  rw[Nat.pow_zero,Nat.mod_one] at h
  have hih:=ih (i+1) (YY s l[i]) (zo7 _ _) (by omega)
  rw[List.drop_eq_getElem_cons hil]
  rw[hn,hc] at hih ⊢
  exact (show _=_ from h).trans hih
theorem ji {l:List Int} (hb:∀ b∈l,zF b) (hl:l.length<=4611686018427387904):ev 42 [.pv (.sl 1 (bs l))] []=ok (U (wS off l)):=by
 have h:=zhQ hb hl l.length 0 off ⟨by decide,by decide⟩ (by omega)
 rw[List.drop_zero] at h
 have h':XR 14695981039346656037 (bs l) 0=ok (U (wS off l)):=h
 rw[zjB,zjA,h']
 rfl
theorem eqB_true {α:Type} {x y:α}:yU x y=true↔x=y:=by
 by_cases h:x=y
 ·exact ⟨fun _=>h,fun _=>wR h⟩
 ·exact ⟨fun e=>by (rw[xL h] at e;cases e),fun e=>absurd e h⟩
theorem zh4 (b:ByteArray):∀ (c i:Nat) (r:List UInt8),i+c=b.size->ByteArray.toList.loop b i r=r.reverse++b.data.toList.drop i:=by
 intro c
 induction c with
 |zero=>
  intro i r hi
  unfold ByteArray.toList.loop
  rw[if_neg (by omega),List.drop_of_length_le (by rw[Array.length_toList];have:b.size=b.data.size:=rfl;omega),List.append_nil]
 |succ c ih=>
  intro i r hi
  have hib:i<b.data.size:=by show i<b.size;omega
  unfold ByteArray.toList.loop
  rw[if_pos (by omega),ih (i+1) _ (by omega),List.reverse_cons,List.append_assoc]
  congr 1
  conv=>rhs;rw[List.drop_eq_getElem_cons (by rw[Array.length_toList];exact hib)]
  have:b.get! i=b.data[i]:=by
   show b.data[i]! = b.data[i]
   rw[getElem!_pos b.data i hib]
  rw[this,Array.getElem_toList]
  rfl
theorem zac (b:ByteArray):b.toList=b.data.toList:=by
 unfold ByteArray.toList
 rw[zh4 b b.size 0 [] (by omega)]
 rfl
theorem zeJ {a b:List Int} (ha:∀ x∈a,zF x) (hb:∀ x∈b,zF x) (h:(strOfNums a).toList=(strOfNums b).toList):a=b:=by
 rw[zac,zac,strOfNums_data,strOfNums_data] at h
 have hl:a.length=b.length:=by have:=congrArg List.length h;simpa using this
 apply List.ext_getElem hl
 intro i h1 h2
 have e:=congrArg (fun l:List UInt8=>l[i]?) h
 simp only[List.getElem?_map,zqF h1,zqF h2,Option.map_some,Option.some.injEq] at e
 obtain ⟨p1,p2⟩:=ha _ (List.getElem_mem h1)
 obtain ⟨q1,q2⟩:=hb _ (List.getElem_mem h2)
 have:=congrArg UInt8.toNat e
 rw[UInt8.toNat_ofNat',UInt8.toNat_ofNat',Nat.mod_eq_of_lt (by omega),Nat.mod_eq_of_lt (by omega)] at this
 omega
theorem VV:∀ a:List Int,Zo (bs a)=some a
 |[]=>rfl
 |x::a=>by
  show (Zo (bs a)).map (fun l=>x::l)=some (x::a)
  rw[VV a];rfl
theorem zf9 {a b:List Int} (ha:∀ x∈a,zF x) (hb:∀ x∈b,zF x):ev 212 [.pv (.sl 1 (bs a)),.pv (.sl 1 (bs b))] []=ok (Bo (yU a b)):=by
 rw[zim,VV,zqR,VV,zqR]
 by_cases h:a=b
 ·rw[wR h,beq_iff_eq.2 (by rw[h])]
 ·rw[xL h,beq_eq_false_iff_ne.2 (fun e=>h (zeJ ha hb e))]
def Kq (l:List (List Int)) (D:Nat) (m:Int) (o:Ob):Nd×Int×Int:=if o.kind=1 then zV (zR l D) l m o else xl (zR l D) l m o
def K1 (o:Ob):Prop:=o.kind=1->o.elem=0/\o.n=0
theorem zmE (l:List (List Int)) (s a:Int):K1 (yA l s a).1:=by
 have hb:∀ e,K1 (bad e).1:=fun e h=>⟨rfl,rfl⟩
 unfold yA wU wA xi wn
 repeat' split
 all_goals first
  |exact hb _
  |exact fun _=>⟨rfl,rfl⟩
  |exact fun h=>absurd h (show ¬((2:Int)=1) by decide)
def Dn (l:List (List Int)) (D:Nat) (o:Ob) (n:Nd):Prop:=(o=vp/\n=nd0)∨∃ D',D=D'+1/\ZP l o/\Np o/\K1 o/\∃ m,(Kq l D' m o).2.2=0/\(Kq l D' m o).1=n
theorem Ks {l:List (List Int)} (hl:zN l) (hs:Sm l) {D:Nat} {m s a:Int} (h:(zR l D m s a).2.2=0):Dn l D (yA l s a).1 (zR l D m s a).1:=by
 by_cases he:(ya l s a).2.2.2=0
 ·by_cases h0:(ya l s a).1=0
  ·rw[Xe he h0]
   refine .inl ⟨?_,rfl⟩
   unfold yA
   rw[if_pos he,if_pos h0]
   rfl
  ·cases D with
   |zero=>rw[Kr he h0] at h;exact absurd h (by show ¬((7:Int)=0);decide)
   |succ D=>
    rw[Kt he h0] at h ⊢
    unfold yQ at h ⊢
    by_cases hf:(yA l s a).2=0
    ·rw[if_pos hf] at h ⊢
     by_cases h8:(yA l s a).1.cost>m
     ·rw[if_pos h8] at h;exact absurd h (by show ¬((8:Int)=0);decide)
     ·rw[if_neg h8] at h ⊢
      exact .inr ⟨D,rfl,Xk hl hs h0 he hf,zdp hl hs h0 he hf,zmE l s a,m-(yA l s a).1.cost,h,rfl⟩
    ·rw[if_neg hf] at h;exact absurd h hf
 ·rw[YJ he] at h;exact absurd h he
theorem zbP {l:List (List Int)} {D:Nat} {o:Ob} {n:Nd} (h:Dn l D o n):n.kind=o.kind/\n.elem=o.elem/\n.n=o.n:=by
 rcases h with ⟨rfl,rfl⟩|⟨D',_,hok,_,hk1,m,hz,rfl⟩
 ·exact ⟨rfl,rfl,rfl⟩
 ·obtain ⟨_,_,_,_,_,_,hk,_⟩:=hok
  unfold Kq at hz ⊢
  by_cases h1:o.kind=1
  ·rw[if_pos h1] at hz ⊢
   have hz':(z6 (fun m (i:Nat)=>zR l D' m o.seg (o.at_+o.data+i)) o.ptrs.toNat 0 m []).2.2=0:=hz
   unfold zV
   rw[ZO hz']
   exact ⟨h1.symm,(hk1 h1).1.symm,(hk1 h1).2.symm⟩
  ·rw[if_neg h1] at hz ⊢
   have h2:o.kind=2:=by omega
   unfold xl at hz ⊢
   by_cases h6:o.elem<6
   ·rw[if_pos h6];exact ⟨h2.symm,rfl,rfl⟩
   ·rw[if_neg h6] at hz ⊢
    have hz':(z6 (fun m (i:Nat)=>if o.elem=6 then zR l D' m o.seg (o.at_+i) else zV (zR l D') l m (ye o i)) o.n.toNat 0 m []).2.2=0:=hz
    rw[ZO hz']
    exact ⟨h2.symm,rfl,rfl⟩
def Zk (l:List (List Int)) (o:Ob) (i:Nat):Ob:=if (i:Int)≥vu o then vp else (yA l o.seg (xm o+i)).1
theorem zeM {l:List (List Int)} (hl:zN l) (hs:Sm l) {D:Nat} {m:Int} {o:Ob} (hk:o.kind=1) (hq:0<=o.ptrs) (h:(zV (zR l D) l m o).2.2=0):∃ ks,(zV (zR l D) l m o).1=.mk 1 0 0 (zu (cutB l o.seg o.at_ o.data)) ks/\ks.length=o.ptrs.toNat/\∀ i,Dn l D (Zk l o i) (ks.getD i nd0):=by
 have hz:(z6 (fun m (i:Nat)=>zR l D m o.seg (o.at_+o.data+i)) o.ptrs.toNat 0 m []).2.2=0:=h
 obtain ⟨ks,e1,e2,e3⟩:=zc5 (G:=fun m (i:Nat)=>zR l D m o.seg (o.at_+o.data+i)) o.ptrs.toNat 0 m [] hz
 refine ⟨ks,?_,e2,fun i=>?_⟩
 ·unfold zV
  rw[ZO hz]
  dsimp only
  rw[e1,zqU]
 ·have hN:vu o=o.ptrs:=by
   unfold vu
   by_cases h0:0<o.ptrs
   ·rw[if_pos ⟨hk,h0⟩]
   ·rw[if_neg (fun x=>h0 x.2),if_neg (fun x=>absurd x.1 (by omega))];omega
  unfold Zk
  rw[hN]
  by_cases hi:(i:Int)≥o.ptrs
  ·rw[if_pos hi,List.getD_eq_getElem?_getD,List.getElem?_eq_none (by omega)]
   exact .inl ⟨rfl,rfl⟩
  ·rw[if_neg hi]
   have hik:i<ks.length:=by omega
   obtain ⟨m1,f1,f2⟩:=e3 i hik
   rw[List.getD_eq_getElem?_getD,zqF hik,Option.getD_some,←f2,Nat.zero_add]
   rw[Nat.zero_add] at f1
   have hA:xm o=o.at_+o.data:=by unfold xm;rw[if_pos ⟨hk,by omega⟩]
   rw[hA]
   exact Ks hl hs f1
abbrev VX (la lb:List (List Int)):AV:=.pv (.agg [.sl 1 (zL la),.sl 1 (zL lb)])
theorem ju {l:List (List Int)} (hl:zN l) (hs:Sm l) {o:Ob} (hat:0<=o.at_/\o.at_<=1125899906842624) (hdt:0<=o.data/\o.data<=65535) (hA:0<=xm o/\xm o<=2251799813685248) {i:Nat} (hi:i<=1073741824):ev 239 [.pv (.sl 1 (zL l)),.pv (.agg o.c),.pv (I i)] []=ok (.agg (Zk l o i).c):=by
 have hp:=je o (by omega)
 rw[Ob.c] at hp ⊢
 rw[zkR,hp]
 dsimp only[zh,zK,zqQ,zqP,zqR,zA]
 unfold Zk
 by_cases h:(i:Int)≥vu o
 ·rw[decide_eq_true h,if_pos h];rfl
 ·rw[decide_eq_false h,if_neg h,zc (x:=xm o+i),JV hl hs]
  rfl
theorem QD {l:List (List Int)} (hl:zN l) (o:Ob) {n:Int} (hn:n<=17592186044416):ev 236 [.pv (.sl 1 (zL l)),.pv (.agg o.c),.pv (I n)] []=ok (.sl 1 (ws (cutB l o.seg o.at_ n))):=by
 rw[Ob.c,zkY,jg hl _ _ _ hn]
 rfl
theorem znG {la lb:List (List Int)} {x y:Ob} {q:Nat} (hq:q<=1073741824) (f:Nat->Bool)
  (hx:∀ i,i<q->ev 239 [.pv (.sl 1 (zL la)),.pv (.agg x.c),.pv (I i)] []=ok (.agg (Zk la x i).c)) (hy:∀ i,i<q->ev 239 [.pv (.sl 1 (zL lb)),.pv (.agg y.c),.pv (I i)] []=ok (.agg (Zk lb y i).c))
  (hf:∀ i,i<q->ev 111 [VX la lb,.pv (.agg (Zk la x i).c),.pv (.agg (Zk lb y i).c)] []=ok (Bo (f i))):∀ (c i:Nat),i+c=q->(∀ j,j<i->f j=true)->
  KA q i (zL la) (zL lb) x.kind x.seg x.at_ x.data x.ptrs x.elem x.n x.cost y.kind y.seg y.at_ y.data y.ptrs y.elem y.n y.cost=ok (Bo ((List.range q).all f)):=by
 intro c
 induction c with
 |zero=>
  intro i hi hj
  rw[zb3,decide_eq_false (by omega),List.all_eq_true.2 (fun j h=>hj j (by have:=List.mem_range.1 h;omega))]
  rfl
 |succ c ih=>
  intro i hi hj
  have e1:=hx i (by omega)
  have e2:=hy i (by omega)
  have e3:=hf i (by omega)
  rw[Ob.c] at e1 e2
  rw[zb3,decide_eq_true (by omega),e1]
  dsimp only[zv,zP,zqR,zb]
  rw[e2]
  dsimp only[zh]
  rw[e3]
  dsimp only[zh,yL,zqR]
  cases hfi:f i with
  |true=>
   dsimp only[vm,zl]
   rw[zc (x:=(i:Int)+1)]
   exact ih (i+1) (by omega) fun j h=>by
    rcases Nat.lt_or_ge j i with h1|h1
    ·exact hj j h1
    ·rw[show j=i by omega];exact hfi
  |false=>
   rw[show (List.range q).all f=false from by
    rw[Bool.eq_false_iff]
    intro h
    have:=List.all_eq_true.1 h i (List.mem_range.2 (by omega))
    rw[hfi] at this;cases this]
   rfl
theorem getD_map (l:List Nd) (i:Nat):(l.map zg).getD i nd0=zg (l.getD i nd0):=by
 simp only[List.getD_eq_getElem?_getD,List.getElem?_map]
 cases l[i]? with
 |none=>rfl
 |some x=>rfl
theorem zak {p q:Bool} (h:p=true↔q=true):p=q:=Bool.eq_iff_iff.2 h
def WM (la lb:List (List Int)) (D:Nat):Prop:=∀ x y nx ny,Dn la D x nx->Dn lb D y ny->ev 111 [VX la lb,.pv (.agg x.c),.pv (.agg y.c)] []=ok (Bo (yU (zg nx) (zg ny)))
def Wi (o:Ob):Prop:=(0<=o.at_/\o.at_<=1125899906842624)/\(0<=o.data/\o.data<=65535)/\(0<=o.ptrs/\o.ptrs<=65535)
theorem zfr {o:Ob} (h:Wi o) (hk:o.kind=1):0<=xm o/\xm o<=2251799813685248:=by
 obtain ⟨h1,h2,h3⟩:=h
 unfold xm
 split
 ·omega
 ·rw[if_neg (fun x=>absurd x.1 (by omega))];omega
theorem jv {la lb:List (List Int)} (hla:zN la) (hsa:Sm la) (hlb:zN lb) (hsb:Sm lb) {D:Nat} (ih:WM la lb D) {x y:Ob} (hx1:0<=x.at_/\x.at_<=1125899906842624) (hx2:0<=x.data/\x.data<=65535) (hx3:0<=xm x/\xm x<=2251799813685248) (hy1:0<=y.at_/\y.at_<=1125899906842624) (hy2:0<=y.data/\y.data<=65535) (hy3:0<=xm y/\xm y<=2251799813685248) {q:Nat} (hq:q<=1073741824) {kx ky:List Nd}
  (dx:∀ i,i<q->Dn la D (Zk la x i) (kx.getD i nd0)) (dy:∀ i,i<q->Dn lb D (Zk lb y i) (ky.getD i nd0)):ev 183 [VX la lb,.pv (.agg x.c),.pv (.agg y.c),.pv (I q)] []=ok (Bo ((List.range q).all fun i=>yU (zg (kx.getD i nd0)) (zg (ky.getD i nd0)))):=by
 have:=znG (la:=la) (lb:=lb) (x:=x) (y:=y) hq (fun i=>yU (zg (kx.getD i nd0)) (zg (ky.getD i nd0))) (fun i hi=>ju hla hsa hx1 hx2 hx3 (by omega)) (fun i hi=>ju hlb hsb hy1 hy2 hy3 (by omega)) (fun i hi=>ih _ _ _ _ (dx i hi) (dy i hi)) q 0 (by omega) (fun j h=>absurd h (by omega))
 rw[Ob.c,Ob.c,zkU]
 exact this
theorem j6 {q:Nat} {kx ky:List Nd}:((List.range q).all fun i=>yU (zg (kx.getD i nd0)) (zg (ky.getD i nd0)))=true↔∀ i,i<q->(kx.map zg).getD i nd0=(ky.map zg).getD i nd0:=by
 rw[List.all_eq_true]
 constructor
 ·intro h i hi
  rw[getD_map,getD_map]
  exact eqB_true.1 (h i (List.mem_range.2 hi))
 ·intro h i hi
  have:=h i (List.mem_range.1 hi)
  rw[getD_map,getD_map] at this
  exact eqB_true.2 this
theorem zpP {k e n:Int} {d:List Int} {ks:List Nd} (h:VN (.mk k e n d ks)):∀ y∈ks,VN y:=by
 cases h with
 |mk v1 v2 v3=>exact v1
theorem zfc (d:List Int) (ks:List Nd):zg (.mk 1 0 0 d ks)=.mk 1 0 0 (d.take (8*yo d)) ((ks.map zg).take (yk (ks.map zg))):=by
 rw[zg,if_pos rfl,yY]
 have:=Ja ks
 rw[yY] at this
 rw[this]
theorem zfn {k e n:Int} {d:List Int} {ks:List Nd} (h:VN (.mk k e n d ks)):∀ y∈ks,VN y:=(zpP h)
theorem jO {la lb:List (List Int)} (hla:zN la) (hsa:Sm la) (hlb:zN lb) (hsb:Sm lb) {D:Nat} (ih:WM la lb D) {x y:Ob} (hx:Wi x) (hy:Wi y) (kx:x.kind=1) (ky:y.kind=1) {m m':Int} (zx:(zV (zR la D) la m x).2.2=0) (zy:(zV (zR lb D) lb m' y).2.2=0):ev 181 [VX la lb,.pv (.agg x.c),.pv (.agg y.c)] []=ok (Bo (yU (zg (zV (zR la D) la m x).1) (zg (zV (zR lb D) lb m' y).1))):=by
 obtain ⟨cx,e1,e2,e3⟩:=zeM hla hsa kx hx.2.2.1 zx
 obtain ⟨cy,f1,f2,f3⟩:=zeM hlb hsb ky hy.2.2.1 zy
 have vx:=(Jr (Vu hla hsa D) la m hx.2.1.2 hx.2.2 zx).1
 have vy:=(Jr (Vu hlb hsb D) lb m' hy.2.1.2 hy.2.2 zy).1
 rw[e1] at vx ⊢
 rw[f1] at vy ⊢
 have px:=jv (D:=D) hla hsa hlb hsb ih (x:=x) (y:=y) hx.1 hx.2.1 (zfr hx kx) hy.1 hy.2.1 (zfr hy ky) (q:=max cx.length cy.length) (by obtain ⟨_,_,a⟩:=hx;obtain ⟨_,_,b⟩:=hy;omega) (kx:=cx) (ky:=cy) (fun i _=>e3 i) (fun i _=>f3 i)
 have hq:(if y.ptrs>x.ptrs then y.ptrs else x.ptrs)=((max cx.length cy.length:Nat):Int):=by
  obtain ⟨_,_,a⟩:=hx
  obtain ⟨_,_,b⟩:=hy
  split<;>omega
 have wx:=QD hla x (n:=x.data) (by obtain ⟨_,a,_⟩:=hx;omega)
 have wy:=QD hlb y (n:=y.data) (by obtain ⟨_,a,_⟩:=hy;omega)
 have lx:=Zh la x.seg x.at_ x.data
 have ly:=Zh lb y.seg y.at_ y.data
 have dd:=Qr (a:=cutB la x.seg x.at_ x.data) (b:=cutB lb y.seg y.at_ y.data) (by obtain ⟨_,a,_⟩:=hx;omega) (by obtain ⟨_,a,_⟩:=hy;omega)
 have hwx:=(Xc hla x.seg x.at_ x.data).2
 have hwy:=(Xc hlb y.seg y.at_ y.data).2
 rw[zfc,zfc,gJ hwx,gJ hwy]
 generalize cutB la x.seg x.at_ x.data=ux at *
 generalize cutB lb y.seg y.at_ y.data=uy at *
 have kxv:∀ z∈cx.map zg,VN z:=fun z hz=>by
  obtain ⟨u,hu,rfl⟩:=List.mem_map.1 hz
  exact WG u ((zfn vx) u hu)
 have kyv:∀ z∈cy.map zg,VN z:=fun z hz=>by
  obtain ⟨u,hu,rfl⟩:=List.mem_map.1 hz
  exact WG u ((zfn vy) u hu)
 have hcut:=zkg kxv kyv (q:=max cx.length cy.length) (by rw[zqH];omega) (by rw[zqH];omega)
 rw[Ob.c] at wx wy px
 rw[Ob.c] at px
 rw[Ob.c,Ob.c,zkW,wx]
 dsimp only[zv,zP,zqR]
 rw[wy]
 dsimp only[zh]
 rw[dd,hq]
 dsimp only[zh,yL,zqR]
 by_cases hd:xa ux=xa uy
 ·rw[wR hd]
  dsimp only[zb]
  rw[px]
  dsimp only[zh,yL,zqR]
  refine congrArg (fun b=>ok (Bo b)) (zak ?_)
  rw[j6,eqB_true,←hcut,hd]
  simp
 ·have hne:¬(Nd.mk 1 0 0 (zu (xa ux)) ((cx.map zg).take (yk (cx.map zg)))=Nd.mk 1 0 0 (zu (xa uy)) ((cy.map zg).take (yk (cy.map zg)))):=fun h=>hd (QM (fun z hz=>hwx z (List.mem_of_mem_take hz)) (fun z hz=>hwy z (List.mem_of_mem_take hz)) (by injection h))
  rw[xL hd,xL hne]
  rfl
theorem zj5 {la lb:List (List Int)} {x y:Ob} {q:Nat} (hq:q<=536870911) (f:Nat->Bool)
  (hx:∀ i:Nat,i<q->ev 238 [.pv (.agg x.c),.pv (I i)] []=ok (.agg (ye x i).c)) (hy:∀ i:Nat,i<q->ev 238 [.pv (.agg y.c),.pv (I i)] []=ok (.agg (ye y i).c))
  (hf:∀ i:Nat,i<q->ev 181 [VX la lb,.pv (.agg (ye x i).c),.pv (.agg (ye y i).c)] []=ok (Bo (f i))):∀ (c i:Nat),i+c=q->(∀ j,j<i->f j=true)->
  Wb q i (zL la) (zL lb) x.kind x.seg x.at_ x.data x.ptrs x.elem x.n x.cost y.kind y.seg y.at_ y.data y.ptrs y.elem y.n y.cost=ok (Bo ((List.range q).all f)):=by
 intro c
 induction c with
 |zero=>
  intro i hi hj
  rw[zb2,decide_eq_false (by omega),List.all_eq_true.2 (fun j h=>hj j (by have:=List.mem_range.1 h;omega))]
  rfl
 |succ c ih=>
  intro i hi hj
  have e1:=hx i (by omega)
  have e2:=hy i (by omega)
  have e3:=hf i (by omega)
  rw[Ob.c] at e1 e2
  rw[zb2,decide_eq_true (by omega),e1]
  dsimp only[zv,zP,zqR,zb]
  rw[e2]
  dsimp only[zh]
  rw[e3]
  dsimp only[zh,yL,zqR]
  cases hfi:f i with
  |true=>
   dsimp only[vm,zl]
   rw[zc (x:=(i:Int)+1)]
   exact ih (i+1) (by omega) fun j h=>by
    rcases Nat.lt_or_ge j i with h1|h1
    ·exact hj j h1
    ·rw[show j=i by omega];exact hfi
  |false=>
   rw[show (List.range q).all f=false from by
    rw[Bool.eq_false_iff]
    intro h
    have:=List.all_eq_true.1 h i (List.mem_range.2 (by omega))
    rw[hfi] at this;cases this]
   rfl
theorem zda {l:List (List Int)} {D:Nat} {m:Int} {o:Ob} (h6:¬o.elem<6) (h:(xl (zR l D) l m o).2.2=0):∃ ks,(xl (zR l D) l m o).1=.mk 2 o.elem o.n [] ks/\ks.length=o.n.toNat/\∀ (j:Nat) (hj:j<ks.length),∃ m1,(if o.elem=6 then zR l D m1 o.seg (o.at_+j) else zV (zR l D) l m1 (ye o j)).2.2=0/\(if o.elem=6 then zR l D m1 o.seg (o.at_+j) else zV (zR l D) l m1 (ye o j)).1=ks[j]:=by
 unfold xl at h ⊢
 rw[if_neg h6] at h ⊢
 have hz:(z6 (fun m (i:Nat)=>if o.elem=6 then zR l D m o.seg (o.at_+i) else zV (zR l D) l m (ye o i)) o.n.toNat 0 m []).2.2=0:=h
 obtain ⟨ks,e1,e2,e3⟩:=zc5 (G:=fun m (i:Nat)=>if o.elem=6 then zR l D m o.seg (o.at_+i) else zV (zR l D) l m (ye o i)) o.n.toNat 0 m [] hz
 refine ⟨ks,?_,e2,fun j hj=>?_⟩
 ·rw[ZO hz]
  dsimp only
  rw[e1,zqU]
 ·have:=e3 j hj
  rw[Nat.zero_add] at this
  exact this
theorem JA {k e n:Int} (hk:k=2) (d:List Int) (ks:List Nd):zg (.mk k e n d ks)=.mk k e n d (ks.map zg):=by
 rw[zg,if_neg (by omega),yY]
theorem zls {a b:List Nd} {q:Nat} (ha:a.length=q) (hb:b.length=q):a=b↔∀ i,i<q->a.getD i nd0=b.getD i nd0:=by
 constructor
 ·intro h i _;rw[h]
 ·intro h
  apply List.ext_getElem (by omega)
  intro i h1 h2
  have:=h i (by omega)
  simp only[List.getD_eq_getElem?_getD,zqF h1,zqF h2,Option.getD_some] at this
  exact this
theorem ze6 (x:Nd):(zg x).n=x.n:=by
 cases x with
 |mk k e n d ks=>rw[zg];split<;>rfl
theorem znF {o:Ob} (hk:o.kind=2) (h7:o.elem=6):(0<o.n->xm o=o.at_/\vu o=o.n)/\(xm o=o.at_∨xm o=0):=by
 have hA:xm o=if 0<o.n then o.at_ else 0:=by
  unfold xm
  rw[if_neg (fun x=>absurd x.1 (by omega))]
  by_cases h:0<o.n
  ·rw[if_pos ⟨hk,h7,h⟩,if_pos h]
  ·rw[if_neg (fun x=>h x.2.2),if_neg h]
 have hN:vu o=if 0<o.n then o.n else 0:=by
  unfold vu
  rw[if_neg (fun x=>absurd x.1 (by omega))]
  by_cases h:0<o.n
  ·rw[if_pos ⟨hk,h7,h⟩,if_pos h]
  ·rw[if_neg (fun x=>h x.2.2),if_neg h]
 rw[hA,hN]
 by_cases h:0<o.n
 ·rw[if_pos h,if_pos h];exact ⟨fun _=>⟨rfl,rfl⟩,.inl rfl⟩
 ·rw[if_neg h];exact ⟨fun h' => absurd h' h,.inr rfl⟩
theorem zoP {la lb:List (List Int)} (hla:zN la) (hsa:Sm la) (hlb:zN lb) (hsb:Sm lb):∀ D,WM la lb D:=by
 have main:∀ D,(∀ D',D=D'+1->WM la lb D')->WM la lb D:=by
  intro D ih x y nx ny dx dy
  obtain ⟨a1,a2,a3⟩:=zbP dx
  obtain ⟨b1,b2,b3⟩:=zbP dy
  rw[Ob.c,Ob.c,zkV]
  by_cases hk:x.kind=y.kind
  ·by_cases he:x.elem=y.elem
   ·by_cases hn:x.n=y.n
    ·rw[show (x.kind != y.kind)=false from by simpa using hk,show (x.elem != y.elem)=false from by simpa using he,show (x.n != y.n)=false from by simpa using hn]
     dsimp only[zl]
     by_cases h0:x.kind=0
     ·rw[beq_iff_eq.2 h0]
      have nul:∀ {l:List (List Int)} {o:Ob} {n:Nd},Dn l D o n->o.kind=0->n=nd0:=fun {l o n} h hk0=>by
       rcases h with ⟨_,h⟩|⟨D',_,hok,_⟩
       ·exact h
       ·obtain ⟨_,_,_,_,_,_,hkk,_⟩:=hok;omega
      rw[nul dx h0,nul dy (by omega),wR rfl]
      rfl
     ·rw[beq_eq_false_iff_ne.2 h0]
      rcases dx with ⟨rfl,_⟩|⟨D',hD,okx,npx,_,m,zx,rfl⟩
      ·exact absurd rfl h0
      rcases dy with ⟨rfl,_⟩|⟨D'',hD',oky,npy,_,m',zy,rfl⟩
      ·exact absurd hk h0
      obtain rfl:D' = D'':=by omega
      have ih':=ih D' hD
      obtain ⟨hat,hdt,hq,hel,hnn,hc,hkk,hw,hz⟩:=id okx
      obtain ⟨hat',hdt',hq',hel',hnn',hc',hkk',hw',hz'⟩:=id oky
      unfold Kq at zx zy ⊢
      dsimp only[zl]
      by_cases h1:x.kind=1
      ·rw[beq_iff_eq.2 h1]
       rw[if_pos h1] at zx ⊢
       rw[if_pos (show y.kind=1 by omega)] at zy ⊢
       have:=jO hla hsa hlb hsb ih' (x:=x) (y:=y) ⟨⟨hat.1,by omega⟩,hdt,hq⟩ ⟨⟨hat'.1,by omega⟩,hdt',hq'⟩ h1 (by omega) zx zy
       rw[Ob.c,Ob.c] at this
       dsimp only[zb]
       rw[this]
       rfl
      ·rw[beq_eq_false_iff_ne.2 h1]
       rw[if_neg h1] at zx ⊢
       rw[if_neg (show ¬y.kind=1 by omega)] at zy ⊢
       dsimp only[zl]
       by_cases h6:x.elem<6
       ·rw[beq_eq_false_iff_ne.2 (show x.elem≠7 by omega),beq_eq_false_iff_ne.2 (show x.elem≠6 by omega)]
        dsimp only[zl]
        have h6':y.elem<6:=by omega
        unfold xl
        rw[if_pos h6,if_pos h6']
        dsimp only
        have wx:=QD hla x (n:=x.cost) (by omega)
        have wy:=QD hlb y (n:=y.cost) (by omega)
        have lx:=Zh la x.seg x.at_ x.cost
        have ly:=Zh lb y.seg y.at_ y.cost
        have rx:=W5 hnn (hw (by omega) h6) h6
        have ry:=W5 hnn' (hw' (by omega) h6') h6'
        rw[JA rfl,JA rfl]
        rw[Ob.c] at wx wy
        rw[zkT,wx]
        dsimp only[zh]
        rw[YB _ (by omega)]
        dsimp only[zh]
        rw[Qx hel hnn (ww _) rx]
        dsimp only[zv]
        rw[xg]
        dsimp only[zqR]
        rw[wy]
        dsimp only[zh]
        rw[YB _ (by omega)]
        dsimp only[zh]
        rw[Qx hel' hnn' (ww _) ry]
        dsimp only[zv]
        rw[xg]
        dsimp only[zqR]
        rw[zf9 (WE _ _ _ (ww _)) (WE _ _ _ (ww _))]
        dsimp only[zh]
        refine congrArg (fun b=>ok (Bo b)) (Kz ?_)
        rw[he,hn]
        simp
       ·obtain ⟨cx,e1,e2,e3⟩:=zda h6 zx
        obtain ⟨cy,f1,f2,f3⟩:=zda (show ¬y.elem<6 by omega) zy
        rw[e1,f1,JA rfl,JA rfl]
        have hlen:cx.length=cy.length:=by omega
        have hxn:x.n=((cx.length:Nat):Int):=by omega
        have fin:yU (cx.map zg) (cy.map zg)=yU (Nd.mk 2 x.elem x.n [] (cx.map zg)) (Nd.mk 2 y.elem y.n [] (cy.map zg)):=Kz (by rw[he,hn];simp)
        have getx:∀ i,(h:i<cx.length)->cx.getD i nd0=cx[i]:=fun i h=>by rw[List.getD_eq_getElem?_getD,zqF h,Option.getD_some]
        have gety:∀ i,(h:i<cy.length)->cy.getD i nd0=cy[i]:=fun i h=>by rw[List.getD_eq_getElem?_getD,zqF h,Option.getD_some]
        have res:∀ {e:Option (Out×ze)},e=ok (Bo ((List.range cx.length).all fun i=>yU (zg (cx.getD i nd0)) (zg (cy.getD i nd0))))->e=ok (Bo (yU (cx.map zg) (cy.map zg))):=fun {e} h=>by
         rw[h]
         refine congrArg (fun b=>ok (Bo b)) (zak ?_)
         rw[j6,eqB_true,zls (q:=cx.length) (by simp) (by simp;omega)]
        rw[←fin]
        by_cases h7:x.elem=7
        ·rw[beq_iff_eq.2 h7]
         dsimp only[zb]
         have mul:∀ (o:Ob) (i:Nat),ZP la o∨ZP lb o->i<cx.length->0<=(i:Int)*(o.data+o.ptrs)/\(i:Int)*(o.data+o.ptrs)<=536870911*131070:=fun o i ho hi=>by
          have hd:0<=o.data/\o.data<=65535/\0<=o.ptrs/\o.ptrs<=65535:=by
           rcases ho with ho|ho
           ·obtain ⟨_,d,q,_⟩:=ho;omega
           ·obtain ⟨_,d,q,_⟩:=ho;omega
          exact Xv (by omega) (by omega)
         have lp:=zj5 (la:=la) (lb:=lb) (x:=x) (y:=y) (q:=cx.length) (by omega) (fun i=>yU (zg (cx.getD i nd0)) (zg (cy.getD i nd0))) (fun i hi=>by have:=mul x i (.inl okx) hi;exact JQ x i (by omega) (by omega) (by omega)) (fun i hi=>by have:=mul y i (.inr oky) hi;exact JQ y i (by omega) (by omega) (by omega)) (fun i hi=>by
          obtain ⟨m1,g1,g2⟩:=e3 i hi
          obtain ⟨m2,k1,k2⟩:=f3 i (by omega)
          rw[if_neg (by omega)] at g1 g2
          rw[if_neg (by omega)] at k1 k2
          have mx:=mul x i (.inl okx) hi
          have my:=mul y i (.inr oky) hi
          have:=jO hla hsa hlb hsb ih' (x:=ye x i) (y:=ye y i) ⟨⟨by dsimp only[ye];omega,by dsimp only[ye];omega⟩,hdt,hq⟩ ⟨⟨by dsimp only[ye];omega,by dsimp only[ye];omega⟩,hdt',hq'⟩ rfl rfl g1 k1
          rw[g2,k2] at this
          rw[getx i hi,gety i (by omega)]
          exact this) cx.length 0 (by omega) (fun j h=>absurd h (by omega))
         rw[zkS]
         conv=>lhs;rw[show Wb x.n 0=Wb ((cx.length:Nat):Int) ((0:Nat):Int) from by rw[hxn];rfl]
         rw[lp]
         exact res rfl
        ·have h66:x.elem=6:=by omega
         rw[beq_eq_false_iff_ne.2 h7,beq_iff_eq.2 h66]
         dsimp only[zb,zl]
         have hAx:∀ (o:Ob),o.kind=2->o.elem=6->(0<o.n->xm o=o.at_/\vu o=o.n)/\(xm o=o.at_∨xm o=0):=fun o k e=>znF k e
         have kx2:x.kind=2:=by omega
         have ky2:y.kind=2:=by omega
         obtain ⟨pa,pb⟩:=hAx x kx2 h66
         obtain ⟨qa,qb⟩:=hAx y ky2 (by omega)
         have lp:=jv (D:=D') hla hsa hlb hsb ih' (x:=x) (y:=y) ⟨hat.1,by omega⟩ hdt (by omega) ⟨hat'.1,by omega⟩ hdt' (by omega) (q:=cx.length) (by omega) (kx:=cx) (ky:=cy) (fun i hi=>by
          obtain ⟨m1,g1,g2⟩:=e3 i hi
          rw[if_pos h66] at g1 g2
          obtain ⟨p1,p2⟩:=pa (by omega)
          rw[getx i hi,←g2]
          unfold Zk
          rw[p1,p2,if_neg (by omega)]
          exact Ks hla hsa g1) (fun i hi=>by
          obtain ⟨m1,g1,g2⟩:=f3 i (by omega)
          rw[if_pos (show y.elem=6 by omega)] at g1 g2
          obtain ⟨p1,p2⟩:=qa (by omega)
          rw[gety i (by omega),←g2]
          unfold Zk
          rw[p1,p2,if_neg (by omega)]
          exact Ks hlb hsb g1)
         rw[←hxn,Ob.c,Ob.c] at lp
         rw[lp]
         exact res rfl
    ·rw[show (x.kind != y.kind)=false from by simpa using hk,show (x.elem != y.elem)=false from by simpa using he,show (x.n != y.n)=true from by simpa using hn,xL (fun h=>hn (by have:=congrArg Nd.n h;rw[ze6,ze6] at this;omega))]
     rfl
   ·rw[show (x.kind != y.kind)=false from by simpa using hk,show (x.elem != y.elem)=true from by simpa using he,xL (fun h=>he (by have:=congrArg Nd.elem h;rw[gI,gI] at this;omega))]
    rfl
  ·rw[show (x.kind != y.kind)=true from by simpa using hk,xL (fun h=>hk (by have:=congrArg Nd.kind h;rw[Y0,Y0] at this;omega))]
   rfl
 intro D
 induction D with
 |zero=>exact main 0 fun D' h=>absurd h (by omega)
 |succ D ih=>exact main (D+1) fun D' h=>by rw[show D' = D by omega];exact ih
def V2 (l:List (List Int)):Ob:=if (yu l 0).length=0 then vp else (yA l 0 0).1
theorem jL {l:List (List Int)} (hl:zN l) (hs:Sm l) (h0:0<l.length):ev 112 [.pv (.sl 1 (zL l))] []=ok (.agg (V2 l).c):=by
 rw[zkX,decide_eq_true (show 0<((zL l).length:Int) by rw[Yp];omega),gx h0]
 dsimp only[zqR,w5,zqP,yt,zb]
 unfold V2
 by_cases he:(yu l 0).length=0
 ·rw[zZ,he,if_pos rfl];rfl
 ·rw[zZ,beq_eq_false_iff_ne.2 (show ((yu l 0).length:Int)≠0 by omega),if_neg he,JV hl hs]
  rfl
theorem zee {l:List (List Int)} (hl:zN l) (hs:Sm l) {d w:Int} (h:(runT l d w).2.2=0):0<l.length/\Dn l d.toNat (V2 l) (runT l d w).1:=by
 by_cases he:XZ l
 ·refine ⟨he.1,?_⟩
  rw[runT,if_pos he]
  exact .inl ⟨by unfold V2;rw[if_pos he.2],rfl⟩
 ·have e1:runT l d w=zR l d.toNat (max w 0) 0 0:=by rw[runT,if_neg he]
  rw[e1] at h ⊢
  have hpos:0<l.length:=by
   by_cases h0:0<l.length
   ·exact h0
   ·exfalso
    have hf:(ya l 0 0).2.2.2=2:=by
     unfold ya
     rw[if_neg (by unfold inB;omega)]
    rw[YJ (by rw[hf];decide),hf] at h
    exact absurd h (by show ¬((2:Int)=0);decide)
  refine ⟨hpos,?_⟩
  unfold V2
  rw[if_neg (fun h' => he ⟨hpos,h'⟩)]
  exact Ks hl hs h
def cE (la lb:List (List Int)) (d w:Int):Int:=if yI la d w=0 then yI lb d w else yI la d w
noncomputable def cB (la lb:List (List Int)) (d w:Int):Bool:=if cE la lb d w=0 then yU (yR la d w) (yR lb d w) else false
theorem XE {la lb:List (List Int)} (hla:zN la) (hsa:Sm la) (hlb:zN lb) (hsb:Sm lb) {d w b:Int} (hd:d<=1099511627775) (hw:w<=4611686018427387904):ev 60 [.pv (.sl 1 (zL la)),.pv (.sl 1 (zL lb)),.pv (.agg [I d,I w,I b])] []=ok (.tup [Bo (cB la lb d w),I (cE la lb d w)]):=by
 rw[zkO,zkN,show decide ((0:Int)<2)=true from rfl,show (decide ((0:Int)<=0)&&decide ((0:Int)<(([.sl 1 (zL la),.sl 1 (zL lb)]:List PV).length:Int)))=true from rfl,show ([.sl 1 (zL la),.sl 1 (zL lb)]:List PV)[(0:Int).toNat]? = some (.sl 1 (zL la)) from rfl]
 dsimp only[zqR,w5,zqP,zb]
 rw[JT hla hsa hd hw]
 dsimp only[zh,zK,zqQ,zqP,zqR,zA]
 unfold cB cE
 by_cases ha:yI la d w=0
 ·rw[ha,show ((0:Int) != 0)=false from rfl,if_pos rfl]
  dsimp only[zl]
  rw[show IntKind.wrap .i64 (0+1)=1 from rfl,zb0,show decide ((1:Int)<2)=true from rfl,show (decide ((0:Int)<=1)&&decide ((1:Int)<(([.sl 1 (zL la),.sl 1 (zL lb)]:List PV).length:Int)))=true from rfl,show ([.sl 1 (zL la),.sl 1 (zL lb)]:List PV)[(1:Int).toNat]? = some (.sl 1 (zL lb)) from rfl]
  dsimp only[zqR,w5,zqP,zb]
  rw[JT hlb hsb hd hw]
  dsimp only[zh,zK,zqQ,zqP,zqR,zA]
  by_cases hb:yI lb d w=0
  ·obtain ⟨pa,da⟩:=zee hla hsa ha
   obtain ⟨pb,db⟩:=zee hlb hsb hb
   rw[hb,show ((0:Int) != 0)=false from rfl,if_pos rfl]
   dsimp only[zl]
   rw[show IntKind.wrap .i64 (1+1)=2 from rfl,zb0,show decide ((2:Int)<2)=false from rfl,jL hla hsa pa]
   dsimp only[zh,zl]
   rw[jL hlb hsb pb]
   dsimp only[zh]
   have hs:=zoP hla hsa hlb hsb d.toNat _ _ _ _ da db
   rw[hs,yR,yR,if_pos (show (runT la d w).2.2=0 from ha),if_pos (show (runT lb d w).2.2=0 from hb)]
   rfl
  ·rw[yP hb,if_neg hb]
   rfl
 ·rw[yP ha,if_neg ha,if_neg ha]
  rfl
theorem gz {l:List (List Int)} (h:∀ s∈l,s.length<=300) (hw:∀ s∈l,∀ x∈s,zC x) (hn:l.length<=20):zN l/\Sm l:=by
 refine ⟨⟨by omega,fun s hs=>⟨by have:=h s hs;omega,hw s hs⟩⟩,zeF fun j hj=>?_⟩
 unfold yu
 rw[zqK,List.getD_eq_getElem?_getD,zqF hj]
 exact h _ (List.getElem_mem hj)
theorem g1:zN [[4294967292]]/\Sm [[4294967292]]:=Zn (by decide) (by intro x hx;simp at hx;unfold zC;omega)
theorem g2:zN [[4294967296,0]]/\Sm [[4294967296,0]]:=Zn (by decide) (by intro x hx;simp at hx;unfold zC;omega)
theorem g3:zN [[0]]/\Sm [[0]]:=Zn (by decide) (by intro x hx;simp at hx;unfold zC;omega)
theorem g4:zN [[3]]/\Sm [[3]]:=Zn (by decide) (by intro x hx;simp at hx;unfold zC;omega)
theorem g5:zN [[7]]/\Sm [[7]]:=Zn (by decide) (by intro x hx;simp at hx;unfold zC;omega)
theorem g6:zN [[4294967298],[4294967296,5]]/\Sm [[4294967298],[4294967296,5]]:=gz (by intro s hs;simp at hs;rcases hs with rfl|rfl<;>decide) (by intro s hs x hx;simp at hs;unfold zC;rcases hs with rfl|rfl<;>(simp at hx;omega)) (by decide)
theorem g7:zN [[8589934596,9,5,0]]/\Sm [[8589934596,9,5,0]]:=Zn (by decide) (by intro x hx;simp at hx;unfold zC;omega)
theorem qn {la lb:List (List Int)} {d w:Int} {b:Bool} (h:cE la lb d w=0) (hb:yU (yR la d w) (yR lb d w)=b):ok (.tup [Bo (cB la lb d w),I (cE la lb d w)])=ok (.tup [Bo b,I 0]):=by rw[cB,if_pos h,h,hb]
theorem zax {la lb:List (List Int)} {d w e:Int} (h:cE la lb d w=e) (he:e≠0):ok (.tup [Bo (cB la lb d w),I (cE la lb d w)])=ok (.tup [Bo false,I e]):=by rw[cB,if_neg (by rw[h];exact he),h]
theorem x1:ev 60 [.pv (.sl 1 [.sl 1 [U 4294967292]]),.pv (.sl 1 [.sl 1 [U 4294967296,U 0]]),.pv (.agg [I 5,I 50,I 0])] []=ok (.tup [Bo true,I 0]):=by
 have h:=XE g1.1 g1.2 g2.1 g2.2 (d:=5) (w:=50) (b:=0) (by decide) (by decide)
 exact h.trans (qn (by kernel_rfl) (wR (by kernel_rfl)))
theorem x2:ev 60 [.pv (.sl 1 [.sl 1 [U 4294967292]]),.pv (.sl 1 [.sl 1 [U 0]]),.pv (.agg [I 5,I 50,I 0])] []=ok (.tup [Bo false,I 0]):=by
 have h:=XE g1.1 g1.2 g3.1 g3.2 (d:=5) (w:=50) (b:=0) (by decide) (by decide)
 have k1:(yR [[4294967292]] 5 50).kind=1:=by kernel_rfl
 have k2:(yR [[0]] 5 50).kind=0:=by kernel_rfl
 exact h.trans (qn (by kernel_rfl) (xL (fun e=>by rw[e,k2] at k1;exact absurd k1 (by decide))))
theorem x3:ev 60 [.pv (.sl 1 [.sl 1 [U 0]]),.pv (.sl 1 [.sl 1 [U 3]]),.pv (.agg [I 5,I 50,I 0])] []=ok (.tup [Bo false,I 6]):=by
 have h:=XE g3.1 g3.2 g4.1 g4.2 (d:=5) (w:=50) (b:=0) (by decide) (by decide)
 exact h.trans (zax (by kernel_rfl) (by decide))
theorem x4:ev 60 [.pv (.sl 1 [.sl 1 [U 7]]),.pv (.sl 1 [.sl 1 [U 3]]),.pv (.agg [I 5,I 50,I 0])] []=ok (.tup [Bo false,I 4]):=by
 have h:=XE g5.1 g5.2 g4.1 g4.2 (d:=5) (w:=50) (b:=0) (by decide) (by decide)
 exact h.trans (zax (by kernel_rfl) (by decide))
theorem x5:ev 60 [.pv (.sl 1 [.sl 1 [U 4294967298],.sl 1 [U 4294967296,U 5]]),.pv (.sl 1 [.sl 1 [U 8589934596,U 9,U 5,U 0]]),.pv (.agg [I 5,I 50,I 0])] []=ok (.tup [Bo true,I 0]):=by
 have h:=XE g6.1 g6.2 g7.1 g7.2 (d:=5) (w:=50) (b:=0) (by decide) (by decide)
 exact h.trans (qn (by kernel_rfl) (wR (by kernel_rfl)))
theorem x6:ev 237 [.pv (.sl 1 [U 5,U 0]),.pv (.sl 1 [U 5])] []=ok (Bo true):=by
 have h:=Qr (a:=[5,0]) (b:=[5]) (by decide) (by decide)
 exact h.trans (by rw[wR (by kernel_rfl)])
theorem x7:ev 237 [.pv (.sl 1 [U 5,U 1]),.pv (.sl 1 [U 5])] []=ok (Bo false):=by
 have h:=Qr (a:=[5,1]) (b:=[5]) (by decide) (by decide)
 exact h.trans (by rw[xL (by decide)])
theorem x8:ev 237 [.pv (.sl 1 []),.pv (.sl 1 [U 0])] []=ok (Bo true):=by
 have h:=Qr (a:=[]) (b:=[0]) (by decide) (by decide)
 exact h.trans (by rw[wR (by kernel_rfl)])
theorem k1:zN [[8589934596,99,5,0]]/\Sm [[8589934596,99,5,0]]:=Zn (by decide) (by intro x hx;simp at hx;unfold zC;omega)
theorem k2:zN [[4294967298],[4294967296,5]]/\Sm [[4294967298],[4294967296,5]]:=gz (by intro s hs;simp at hs;rcases hs with rfl|rfl<;>decide) (by intro s hs x hx;simp at hs;unfold zC;rcases hs with rfl|rfl<;>(simp at hx;omega)) (by decide)
theorem k3:zN [[3]]/\Sm [[3]]:=Zn (by decide) (by intro x hx;simp at hx;unfold zC;omega)
theorem k4:zN [[]]/\Sm [[]]:=Zn (by decide) (by intro x hx;cases hx)
theorem zaE {l:List (List Int)} (hl:zN l) (hs:Sm l) {d w:Int} (hw:w<=134217728):(xt l d w).length<=17592186044416:=by
 unfold xt
 split
 ·rename_i h0
  obtain ⟨ho,hb,_⟩:=Xi hl hs hw h0
  have:=XN ho
  omega
 ·simp
theorem zis {l:List (List Int)} (hl:zN l) (hs:Sm l) {d w:Int} (hw:w<=134217728) (h0:yI l d w=0):zN [xt l d w]/\Sm [xt l d w]/\yI [xt l d w] d w=0/\yR [xt l d w] d w=yR l d w/\ZI [xt l d w] d w<=ZI l d w/\xt [xt l d w] d w=xt l d w/\((xt l d w).length:Int)=zM d.toNat (yR l d w)+1/\zM d.toNat (yR l d w)<=ZI l d w:=by
 obtain ⟨ho,hb,hx⟩:=Xi hl hs hw h0
 obtain ⟨_,hc⟩:=zdj hl hs (show w<=4611686018427387904 by omega) (show (runT l d w).2.2=0 from h0)
 have e3:xt l d w=xw d.toNat (yR l d w):=by unfold xt;rw[if_pos h0]
 obtain ⟨m1,m2,m3⟩:=ziu ho hb (d:=d) (w:=w) rfl hx
 have hle:=uB d.toNat ho.vn ho.dp
 rw[e3]
 refine ⟨ziq ho (by omega),zir ho (by omega),m1,m2,by rw[m3];exact hc,?_,XN ho,by omega⟩
 unfold xt
 rw[if_pos m1,m2]
end Go.Proofs.YtjbjeeoifhegfaaGreatDoor.E
