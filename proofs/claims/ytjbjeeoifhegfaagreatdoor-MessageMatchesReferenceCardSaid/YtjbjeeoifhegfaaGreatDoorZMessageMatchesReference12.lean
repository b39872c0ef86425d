/- A part of the proof of the law MessageMatchesReference, as its statement says it: for every input; its conditions are the statement's own. -/
import Derived.Below
import Derived.ProofKit
import Derived.OpenShut
import Derived.Stop.Joined
import Derived.LaidMore
import Derived.Deep.Slices
import Derived.Test.YtjbjeeoifhegfaaGreatDoorRows
import Derived.Maps.OwnSet
import Derived.Maps.Keyed
import Derived.LaidSub
import Derived.Lib.LaidTab
import Derived.WalkKit
import Derived.LaidEql
import Derived.Stop.Asserts
import Derived.RowKitTokens
import Derived.Stop.LaidTwo
import Derived.LaidHandle
import Derived.Test.YtjbjeeoifhegfaaGreatDoorZMessageMatchesReference1
import Derived.Test.YtjbjeeoifhegfaaGreatDoorZMessageMatchesReference2
import Derived.Test.YtjbjeeoifhegfaaGreatDoorZMessageMatchesReference3
import Derived.Test.YtjbjeeoifhegfaaGreatDoorZMessageMatchesReference4
import Derived.Test.YtjbjeeoifhegfaaGreatDoorZMessageMatchesReference5
import Derived.Test.YtjbjeeoifhegfaaGreatDoorZMessageMatchesReference6
import Derived.Test.YtjbjeeoifhegfaaGreatDoorZMessageMatchesReference7
import Derived.Test.YtjbjeeoifhegfaaGreatDoorZMessageMatchesReference8
import Derived.Test.YtjbjeeoifhegfaaGreatDoorZMessageMatchesReference9
import Derived.Test.YtjbjeeoifhegfaaGreatDoorZMessageMatchesReference10
import Derived.Test.YtjbjeeoifhegfaaGreatDoorZMessageMatchesReference11
set_option linter.unusedVariables false
set_option linter.unusedSimpArgs false
open List renaming getElem?_eq_getElem->zqF
open List renaming length_map->zqH
open Int renaming toNat_natCast->zqK
open Option renaming getD_some->zqL
open List renaming length_take->zqN
open List renaming length_drop->zqO
open List renaming getElem?_cons_zero->zqP
open List renaming getElem?_cons_succ->zqQ
open Option renaming bind_some->zqR
open List renaming length_append->zqS
open List renaming length_cons->zqT
open List renaming nil_append->zqU
open Option.some renaming injEq->zqW
namespace Go.Proofs.YtjbjeeoifhegfaaGreatDoor.E
open Go.RowKit
def g0 (w:World):Nat->Option (Array Value):=fun b=>match w.heap[b]? with
 |some (.cells c _ _)=>some c
 |_=>none
def G0 (w:World):Gh:=⟨g0 w,fun _=>none,fun b=>if b<w.heap.size then some .imm else none⟩
theorem zlq {w:World} {b:Nat} {c:Array Value} (h:g0 w b=some c):∃ T f,w.heap[b]? = some (.cells c T f):=by
 unfold g0 at h
 split at h
 ·rename_i c' T f hb;cases h;exact ⟨T,f,hb⟩
 ·cases h
theorem Yc {w:World} {a:Addr} {u:Value} (h:w.cell? a=some u):a.spot=none/\∃ c,g0 w a.block=some c/\c[a.off]? = some u:=by
 unfold World.cell? at h
 split at h
 ·rename_i c T f hb
  cases hs:a.spot with
  |some s=>simp[hs] at h
  |none=>simp only[hs,Option.isSome_none,Bool.false_eq_true,if_false] at h;exact ⟨rfl,c,by unfold g0;rw[hb],h⟩
 ·cases h
theorem zp3 {P:Program} {E:Env} {w:World} (hmaps:∀ g l,find E.maps g=some l->∃ v c,g0 w g=some c/\c[0]? = some v/\MRel P E (G0 w) w g v) (hglob:∀ g p,find E.glob g=some p->ERel (G0 w) p 0 (.pointer (some ⟨g,0,none⟩)))
  (hsen:∀ g,find E.glob g=some (.sen g)->∃ c a ca ta,g0 w g=some c/\c[0]? = some (.iface E.sty (.pointer (some a)))/\w.heap[a.block]? = some (.cells ca ta (0,0)))
  (hdst:∀ g1 g2 c1 c2,find E.glob g1=some (.sen g1)->find E.glob g2=some (.sen g2)->g1≠g2->g0 w g1=some c1->g0 w g2=some c2->c1[0]?≠c2[0]?)
  (hfix:∀ g v,find E.fix g=some v->∃ c,g0 w g=some c/\c[0]? = some v):WOk P E (G0 w) w:=by
 refine ⟨fun b c hb=>?_,fun b h hb=>?_,hmaps,hglob,fun g hg=>by
  obtain ⟨c,a,ca,ta,h1,h2,h3⟩:=hsen g hg
  exact ⟨c,a,ca,ta,h1,h2,if_pos (Array.getElem?_eq_some_iff.1 h3).1,h3⟩,hdst,hfix⟩
 ·obtain ⟨T,f,h⟩:=zlq hb
  exact ⟨if_pos (Array.getElem?_eq_some_iff.1 h).1,T,f,h⟩
 ·by_cases hl:b<w.heap.size
  ·exact hl
  ·rw[show (G0 w).ka b=none from if_neg hl] at hb;cases hb
theorem zh5 {w w':World} {G':Gh} (f:Fr (G0 w) w G' w' X0):Below w.heap.size w w' :=
 ⟨f.os,f.tape,f.output,f.size,fun k hk=>(f.ka k .imm (if_pos hk) X0_old.1).2⟩
theorem zoH {P:Program} {E:Env} {yv:List (Nat×Func)} (hm:P.follows .mixedOrders=true) (hS:SysOk P E) (w7:∀ f fn,find yv f=some fn->P.funcs[f]? = some fn/\fn.body.isSome=true/\(fn.name == "runtime.NumGoroutine")=false) (Wf:JO P E)
  {w:World} (hw:WOk P E (G0 w) w) {f:Nat} {ps:List PV} {vs:Array Value} (hsz:vs.size=ps.length) (hps:∀ (j:Nat) (p:PV) (x:Value),ps[j]? = some p->vs[j]? = some x->PRep (g0 w) p x)
  (hv:val E yv f (ps.map .pv) []=some (.ret (.pv (.v (.bool true))),[])):Calls P f vs w fun e w' => e = .returned (.bool true)/\Below w.heap.size w w':=by
 obtain ⟨k,hk⟩:=zpK hv
 refine ((zk5 hm hS w7 Wf k).1 f _ _ _ _ hk (G0 w) w vs ⟨hw,fun l cs hl=>(by simp at hl),fun l b hb=>(by cases hb),(by simpa using hsz),fun j q x hq hx=>?_⟩).mono fun e w' he=>?_
 ·rw[List.getElem?_map] at hq
  cases hj:ps[j]? with
  |none=>simp[hj] at hq
  |some p=>
   simp only[hj,Option.map_some,zqW] at hq
   subst hq
   exact .inl ⟨rfl,fun _=>hps j p x hj hx⟩
 ·obtain ⟨G',f',_,_,_,ho⟩:=he
  refine ⟨?_,zh5 f'⟩
  cases e with
  |returned v=>
   have:PRep G'.g (.v (.bool true)) v:=ho
   rw[xo this]
  |panicked c=>exact ho.elim
  |outgrown=>exact ho.elim
structure Enc (α:Type) where
 cells:α->List PV
 sz:Nat
 agg:Bool
 len:∀ a,(cells a).length=sz
 one:agg=false->sz=1
def Enc.pv {α:Type} (e:Enc α) (a:α):PV:=if e.agg then .agg (e.cells a) else (e.cells a).headD (.v .nilFunc)
def RdsAt {H α:Type} (enc:TypeId×Value->H) (P:Program) (w:World) (n:Nat) (t:TypeId) (e:Enc α) (S:α->DataW H->Prop):Prop :=
 ∀ cs x,DataW.trod enc P w 0 (fun _=>true) true n t cs=some x->∃ a,cs.length=e.sz/\(∀ (j:Nat) (q:PV) (u:Value),(e.cells a)[j]? = some q->cs[j]? = some u->q.isCell=true/\PRep (g0 w) q u)/\S a x.1
def Ky (k:IntKind):Enc Int:=⟨fun n=>[.v (.int k n)],1,false,fun _=>rfl,fun _=>rfl⟩
def qV:Enc Bool:=⟨fun b=>[.v (.bool b)],1,false,fun _=>rfl,fun _=>rfl⟩
def XY {α:Type} (e:Enc α):Enc (List α):=⟨fun l=>[.sl e.sz (l.map e.pv)],1,false,fun _=>rfl,fun _=>rfl⟩
def DI {H:Type} (k:IntKind) (n:Int) (x:DataW H):Prop:=x=.lit (.int k n)/\(Lit.int k n).wf=true
def DB {H:Type} (b:Bool) (x:DataW H):Prop:=x=.lit (.bool b)
inductive DAll {H α:Type} (S:α->DataW H->Prop):List α->List (DataW H)->Prop
 |nil:DAll S [] []
 |cons {a:α} {x:DataW H} {us:List α} {xs:List (DataW H)}:S a x->DAll S us xs->DAll S (a::us) (x::xs)
def DS {H α:Type} (S:α->DataW H->Prop) (xs:List α) (x:DataW H):Prop:=xs.length<=9223372036854775807/\((xs=[]/\x=.nil)∨∃ es rest,x=.slice es rest/\DAll S xs es)
theorem DAll.mem {H α:Type} {S:α->DataW H->Prop} {us:List α} {xs:List (DataW H)} (h:DAll S us xs) {a:α} (ha:a∈us):∃ x,x∈xs/\S a x:=by
 induction h with
 |nil=>cases ha
 |cons h0 _ ih=>
  rcases List.mem_cons.1 ha with rfl|ha
  ·exact ⟨_,List.mem_cons_self,h0⟩
  ·obtain ⟨x,hx,hs⟩:=ih ha
   exact ⟨x,List.mem_cons_of_mem _ hx,hs⟩
theorem DAll.length {H α:Type} {S:α->DataW H->Prop} {us:List α} {xs:List (DataW H)} (h:DAll S us xs):us.length=xs.length:=by
 induction h with
 |nil=>rfl
 |cons _ _ ih=>simp[ih]
theorem DS.mem {H α:Type} {S:α->DataW H->Prop} {xs:List α} {x:DataW H} (h:DS S xs x) {a:α} (ha:a∈xs):∃ y,S a y:=by
 rcases h.2 with ⟨rfl,_⟩|⟨es,rest,_,h⟩
 ·cases ha
 ·obtain ⟨y,_,hs⟩:=h.mem ha
  exact ⟨y,hs⟩
theorem DAll.of_get {H α:Type} {S:α->DataW H->Prop}:∀ {us:List α} {xs:List (DataW H)},us.length=xs.length->(∀ (i:Nat) (a:α) (x:DataW H),us[i]? = some a->xs[i]? = some x->S a x)->DAll S us xs
 |[],[],_,_=>.nil
 |[],_::_,h,_=>by simp at h
 |_::_,[],h,_=>by simp at h
 |a::us,x::xs,h,hg=>.cons (hg 0 a x rfl rfl) (DAll.of_get (by simpa using h) fun i b y hb hy=>hg (i+1) b y (by simpa using hb) (by simpa using hy))
section
variable {H α β:Type} {enc:TypeId×Value->H} {P:Program} {w:World} {n:Nat} {t e:TypeId}
theorem Enc.pv_cells (d:Enc α) (a:α) (hc:∀ q∈d.cells a,q.isCell=true):(d.pv a).cells=d.cells a:=by
 unfold Enc.pv
 cases ha:d.agg with
 |true=>rfl
 |false=>
  simp only[Bool.false_eq_true,if_false]
  have h1:=d.one ha
  have h2:=d.len a
  match hcs:d.cells a with
  |[]=>rw[hcs] at h2;simp at h2;omega
  |[q]=>
   have:=hc q (by rw[hcs];exact List.mem_cons_self)
   simp only[List.headD_cons]
   cases q<;>simp_all [PV.cells,PV.isCell]
  |q::r::l=>rw[hcs] at h2;simp at h2;omega
theorem RdsAt.zero (t:TypeId) (d:Enc α) (S:α->DataW H->Prop):RdsAt enc P w 0 t d S:=by
 intro cs x h
 simp[DataW.trod] at h
theorem RdsAt.int {k:IntKind} (ht:P.underlying t=some (.int k)):RdsAt enc P w n t (Ky k) (DI k):=by
 intro cs x h
 obtain ⟨m,rfl,rfl,hw⟩:=DataW.trod_int ht h
 refine ⟨m,rfl,fun j q u hq hu=>?_,rfl,hw⟩
 cases j with
 |zero=>simp[Ky] at hq hu;subst hq;subst hu;exact ⟨rfl,.v rfl⟩
 |succ j=>simp[Ky] at hq
theorem RdsAt.bool (ht:P.underlying t=some .bool):RdsAt enc P w n t qV DB:=by
 intro cs x h
 obtain ⟨b,rfl,rfl⟩:=DataW.trod_bool ht h
 refine ⟨b,rfl,fun j q u hq hu=>?_,rfl⟩
 cases j with
 |zero=>simp[qV] at hq hu;subst hq;subst hu;exact ⟨rfl,.v rfl⟩
 |succ j=>simp[qV] at hq
theorem zde {f:α->Option β}:∀ {l:List α} {r:List β},l.mapM f=some r->r.length=l.length/\∀ (i:Nat) (x:α),l[i]? = some x->f x=r[i]?
 |[],r,h=>by simp at h;subst h;simp
 |a::l,r,h=>by
  simp only[List.mapM_cons,Option.bind_eq_bind,Option.bind_eq_some_iff,Option.pure_def,zqW] at h
  obtain ⟨b,hb,r',hr,rfl⟩:=h
  obtain ⟨h1,h2⟩:=zde hr
  refine ⟨by simp[h1],fun i x hx=>?_⟩
  cases i with
  |zero=>simp at hx;subst hx;simpa using hb
  |succ i=>simp at hx;simpa using h2 i x hx
theorem zjR {w:World} {a:Addr} {n:Nat} {cs:List Value} (h:w.cells? 0 a n=some cs):cs.length=n/\∀ (i:Nat) (u:Value),cs[i]? = some u->w.cell? (a.add i)=some u:=by
 simp only[World.cells?,Nat.zero_le,if_true] at h
 obtain ⟨h1,h2⟩:=zde h
 refine ⟨by simpa using h1,fun i u hu=>?_⟩
 have hi:i<n:=by have:=(List.getElem?_eq_some_iff.1 hu).1;simp at h1;omega
 rw[h2 i i (by simp[hi]),hu]
theorem zcc {p:Nat->α->Prop}:∀ (m:Nat),(∀ i,i<m->∃ a,p i a)->∃ l:List α,l.length=m/\∀ (i:Nat) (a:α),l[i]? = some a->p i a
 |0,_=>⟨[],rfl,fun i a h=>by simp at h⟩
 |m+1,h=>by
  obtain ⟨l,hl,hp⟩:=zcc m (fun i hi=>h i (by omega))
  obtain ⟨a,ha⟩:=h m (by omega)
  refine ⟨l++[a],by simp[hl],fun i b hb=>?_⟩
  rcases Nat.lt_or_ge i l.length with hi|hi
  ·rw[List.getElem?_append_left hi] at hb
   exact hp i b hb
  ·have:i=l.length:=by
    have:=(List.getElem?_eq_some_iff.1 hb).1
    simp at this
    omega
   subst this
   simp at hb
   subst hb
   rw[hl]
   exact ha
theorem RdsAt.slice {d:Enc α} {S:α->DataW H->Prop} (ht:P.underlying t=some (.slice e)) (hc:P.cellsOf e=d.sz) (h0:0<d.sz) (h:RdsAt enc P w n e d S):RdsAt enc P w (n+1) t (XY d) (DS S):=by
 intro cs x hx
 rcases DataW.trod_slice ht hx with ⟨rfl,rfl⟩|⟨a,len,cap,elems,rest,m,hm,rfl,rfl,_,hl,hcap,hlen,hel,_⟩
 ·refine ⟨[],rfl,fun j q u hq hu=>?_,by simp,.inl ⟨rfl,rfl⟩⟩
  cases j with
  |zero=>simp[XY] at hq hu;subst hq;subst hu;exact ⟨rfl,.sl0⟩
  |succ j=>simp[XY] at hq
 ·obtain rfl:n=m:=by omega
  have key:∀ i,i<len->∃ p:α,(∀ (j:Nat),j<d.sz->∃ q u,(d.cells p)[j]? = some q/\w.cell? (a.add (i*d.sz+j))=some u/\q.isCell=true/\PRep (g0 w) q u)/\∃ y,elems[i]? = some y/\S p y.1:=by
   intro i hi
   have h1:=hel i hi
   rw[zqF (by omega:i<elems.length)] at h1
   obtain ⟨c,hc1,hc2⟩:=Option.bind_eq_some_iff.mp h1
   obtain ⟨p,hp1,hp2,hs⟩:=h c _ hc2
   obtain ⟨k1,k2⟩:=zjR hc1
   refine ⟨p,fun j hj=>?_,_,zqF (by omega),hs⟩
   have hjc:j<c.length:=by omega
   have hjd:j<(d.cells p).length:=by rw[d.len];exact hj
   obtain ⟨g1,g2⟩:=hp2 j _ _ (zqF hjd) (zqF hjc)
   refine ⟨_,_,zqF hjd,?_,g1,g2⟩
   have:=k2 j _ (zqF hjc)
   rwa [Deep.add_add,hc] at this
  obtain ⟨ps,hpl,hps⟩:=zcc len key
  have hcell:∀ p∈ps,∀ q∈d.cells p,q.isCell=true:=fun p hp q hq=>by
   obtain ⟨i,hi,rfl⟩:=List.getElem_of_mem hp
   obtain ⟨j,hj,rfl⟩:=List.getElem_of_mem hq
   rw[d.len] at hj
   obtain ⟨q',u,e1,e2,e3,e4⟩:=(hps i _ (zqF hi)).1 j hj
   rw[zqF (by rw[d.len];exact hj)] at e1
   cases e1
   exact e3
  have hpv:∀ p∈ps,(d.pv p).cells=d.cells p:=fun p hp=>d.pv_cells p (hcell p hp)
  refine ⟨ps,rfl,fun j q u hq hu=>?_,by rw[hpl];unfold maxLen at hcap;omega,.inr ⟨_,_,rfl,?_⟩⟩
  ·cases j with
   |succ j=>simp[XY] at hq
   |zero=>
    simp[XY] at hq hu
    subst hq
    subst hu
    refine ⟨rfl,?_⟩
    match hlen0:len with
    |0=>
     have:ps=[]:=List.length_eq_zero_iff.1 hpl
     subst this
     exact .sl0
    |m+1=>
    have hl0:0<ps.length:=by omega
    obtain ⟨q0,u0,_,e2,_,_⟩:=(hps 0 _ (zqF hl0)).1 0 h0
    rw[show 0*d.sz+0=0 by omega,show a.add 0=a by simp[Addr.add]] at e2
    obtain ⟨hs,c,hg,_⟩:=Yc e2
    obtain ⟨ab,ao,as0⟩:=a
    simp only at hs hg
    subst hs
    have hadd:∀ k,(⟨ab,ao,none⟩:Addr).add k=⟨ab,ao+k,none⟩:=fun k=>by
     unfold Addr.add
     split
     ·rename_i hk;subst hk;rfl
     ·rfl
    have hcells:∀ (i:Nat) (p:α),ps[i]? = some p->∀ (j:Nat),j<d.sz->∃ q u,(d.cells p)[j]? = some q/\c[ao+i*d.sz+j]? = some u/\q.isCell=true/\PRep (g0 w) q u:=fun i p hp j hj=>by
     obtain ⟨q,u,e1,e2,e3,e4⟩:=(hps i p hp).1 j hj
     rw[hadd] at e2
     obtain ⟨_,c',hg',hcu⟩:=Yc e2
     simp only at hg' hcu
     rw[hg] at hg'
     cases hg'
     exact ⟨q,u,e1,by rw[Nat.add_assoc];exact hcu,e3,e4⟩
    have hrep:∀ (i:Nat) (x:PV) (j:Nat) (q:PV) (u:Value),(ps.map d.pv)[i]? = some x->x.cells[j]? = some q->c[ao+i*d.sz+j]? = some u->q.isCell=true/\PRep (g0 w) q u:=fun i x j q u hx hq hu=>by
     rw[List.getElem?_map] at hx
     cases hp:ps[i]? with
     |none=>simp[hp] at hx
     |some p=>
      simp only[hp,Option.map_some,zqW] at hx
      subst hx
      rw[hpv p (List.mem_of_getElem? hp)] at hq
      have hj:j<d.sz:=by rw[←d.len p];exact (List.getElem?_eq_some_iff.1 hq).1
      obtain ⟨q',u',e1,e2,e3,e4⟩:=hcells i p hp j hj
      rw[hq] at e1
      rw[hu] at e2
      cases e1;cases e2
      exact ⟨e3,e4⟩
    have hlast:ao+ps.length*d.sz<=c.size:=by
     obtain ⟨q,u,_,e2,_⟩:=hcells (ps.length-1) _ (zqF (by omega)) (d.sz-1) (by omega)
     have:=(Array.getElem?_eq_some_iff.1 e2).1
     have e:ps.length*d.sz=(ps.length-1)*d.sz+d.sz:=by
      rw[←Nat.succ_mul]
      congr 1
      omega
     omega
    have hfin:=PRep.sl (g:=g0 w) (sz:=d.sz) (b:=ab) (o:=ao) (cap:=cap) (xs:=ps.map d.pv) (c:=c) hg (by simp[hpl];omega) (by simpa using hlast) (fun x hx=>by
      obtain ⟨p,hp,rfl⟩:=List.mem_map.1 hx
      rw[hpv p hp,d.len]) (fun i x j q u hx hq hu=>(hrep i x j q u hx hq hu).1) (fun i x j q u hx hq hu=>(hrep i x j q u hx hq hu).2)
    rw[zqH,hpl] at hfin
    exact hfin
  ·refine DAll.of_get (by simp[hpl,hlen]) fun i p y hp hy=>?_
   obtain ⟨_,z,hz,hs⟩:=hps i p hp
   rw[List.getElem?_map,hz] at hy
   simp at hy
   subst hy
   exact hs
theorem gg {d:Enc α} {S:α->DataW H->Prop} (h:∀ n,RdsAt enc P w n t d S) {v:Value} {x:DataW H} {ps:List MemPlace} (hag:d.agg=false->v.cells=#[v]) (hag':d.agg=true->∃ vs,v=.agg vs) (hv:DataW.Trod enc P w 0 (fun _=>true) true t v x ps):∃ a,PRep (g0 w) (d.pv a) v/\S a x:=by
 obtain ⟨fuel,hf⟩:=hv
 obtain ⟨a,h1,h2,h3⟩:=h fuel _ _ hf
 refine ⟨a,?_,h3⟩
 unfold Enc.pv
 cases ha:d.agg with
 |true=>
  obtain ⟨vs,rfl⟩:=hag' ha
  simp only[if_true]
  have e:(Value.agg vs).cells=vs:=rfl
  rw[e] at h1 h2
  refine .agg (by rw[d.len];simpa using h1) (fun q hq=>?_) (fun j q u hq hu=>(h2 j q u hq (by simpa using hu)).2)
  obtain ⟨j,hj,rfl⟩:=List.getElem_of_mem hq
  have hj':j<vs.size:=by rw[d.len] at hj;simp at h1;omega
  exact (h2 j _ vs[j] (zqF hj) (by simp[hj'])).1
 |false=>
  simp only[Bool.false_eq_true,if_false]
  have hl:=d.len a
  rw[d.one ha] at hl
  obtain ⟨q,hq⟩:=List.length_eq_one_iff.1 hl
  rw[hq]
  simp only[List.headD_cons]
  rw[hag ha] at h2
  exact (h2 0 q v (by rw[hq];rfl) rfl).2
end
open Go.RowKit Go.WideMaps Go.WideElems
theorem hm:Tryz.prog.follows .mixedOrders=true:=by kernel_rfl
theorem hS:SysOk Tryz.prog env:=zpa (by kernel_rfl)
def rW (f:Nat) (fn:Func):Prop:=Tryz.prog.funcs[f]? = some fn/\fn.body.isSome=true/\(fn.name == "runtime.NumGoroutine")=false
def JM:List (Nat×Func)->Prop
 |[]=>True
 |p::l=>rW p.1 p.2/\JM l
theorem zch:∀ {l:List (Nat×Func)} {f:Nat} {fn:Func},JM l->find l f=some fn->rW f fn
 |[],_,_,_,h=>by cases h
 |(k,a)::l,f,fn,hl,h=>by
  unfold find at h
  split at h
  ·rename_i hk
   cases h
   subst hk
   exact hl.1
  ·exact zch hl.2 h
set_option maxRecDepth 100000 in
theorem zle:JM yv:=by repeat' first|exact trivial|refine ⟨?_,?_⟩|kernel_rfl
theorem w7:∀ f fn,find yv f=some fn->Tryz.prog.funcs[f]? = some fn/\fn.body.isSome=true/\(fn.name == "runtime.NumGoroutine")=false:=fun f fn h=>zch zle h
def opsOf:Code->List Oper
 |.region _ ops _=>ops.toList
 |_=>[]
def zlD:Code->Nat
 |.region id _ _=>id
 |_=>0
noncomputable def Zg:Code:=Tryz.f275.body.getD .skip
noncomputable def cl0:Oper:=(opsOf (sub Zg [1,0,0]))[0]?.getD { dst:=none,op:=.move (.tmp 0),type:=0,pos:= "",after:=#[],guard:=none }
noncomputable def cl1:Oper:=(opsOf (sub Zg [1,0,0]))[1]?.getD { dst:=none,op:=.move (.tmp 0),type:=0,pos:= "",after:=#[],guard:=none }
theorem zjX (xs:List PV) (st1:St) (h:yd env ZU 8 275 1 0 (sub Zg [0]) ⟨fun t=>(([.pv (.sl 1 xs)]:List AV)[t]?).getD .dead,[]⟩=some (.normal,st1)):st1.sl 0=.pv (.sl 1 xs):=by
 have:(yd env ZU 8 275 1 0 (sub Zg [0]) ⟨fun t=>(([.pv (.sl 1 xs)]:List AV)[t]?).getD .dead,[]⟩).map (fun r=>r.2.sl 0)=some (.pv (.sl 1 xs)):=by kernel_rfl
 rw[h] at this
 simpa using this
theorem zjY:XU env 8 275 Tryz.f275.results.toList (sub Zg [0]) (.seq (sub Zg [1,0,1,0,0]) .ret) 1 []=some (.ret (.slu 5 1 []),[]):=by kernel_rfl
theorem zjZ (xs:List PV):XU env 8 275 Tryz.f275.results.toList (sub Zg [0]) (.seq (sub Zg [1,1,0]) .ret) 1 xs=cond (zJ (([]:List PV).length+xs.length) 1) (some (.ret (.slu 5 1 xs),[])) none:=by kernel_rfl
theorem zj2 {args:List AV} {H:ze} {out:Out} {H':ze} (hc:clone env (5,1,1) args H=some (out,H')) {G:Gh} {w:World} {vs:Array Value} (pre:PreC Tryz.prog env G w args vs H) :
  Calls Tryz.prog 275 vs w fun e w' => vL Tryz.prog env G w H' out e w' :=
 zj3 hm hS Tryz.func275 (T:=22) (e:=5) (id1:=zlD (sub Zg [1,0,0])) (o0:=cl0) (o1:=cl1) (R0:=sub Zg [0]) (R2:=sub Zg [1,0,1,0,0]) (R3:=sub Zg [1,1,0]) Tryz.underlying22 (by kernel_rfl) (by kernel_rfl) (by kernel_rfl) (by kernel_rfl) (by kernel_rfl) (by kernel_rfl) (by kernel_rfl) (of_decide_eq_true (by kernel_rfl)) zjX zjY (fun xs h=>(zjZ xs).trans (by rw[show ([]:List PV).length+xs.length=xs.length from Nat.zero_add _,h];rfl)) hc (by decide) pre
open Go.RowKit Go.Extern.Stop Go.Stop Go.Extern
theorem X2 {P:Program} {E:Env} {G:Gh} {w w':World} {p:PV} {v:Value} (wo:WOk P E G w) (hb:Below w.heap.size w w') (hp:PRep G.g p v):vL P E G w [] (.ret (.pv p)) (.returned v) w':=by
 have f:Fr G w G w' X0:=⟨fun _ _ h=>h,fun _ _ h=>h,fun b k hk _=>⟨hk,hb.block b (wo.dom b k hk)⟩,X0_old,hb.os,hb.tape,hb.output,hb.size⟩
 refine ⟨G,f,rfl,wo.fr f (fun b c hc=>?_) (fun b k hk=>Nat.lt_of_lt_of_le (wo.dom b k hk) hb.size),fun l cs hl=>(by simp at hl),hp⟩
 obtain ⟨k1,T,q,k2⟩:=wo.imm b c hc
 exact ⟨k1,T,q,(hb.block b (wo.dom b _ k1)).trans k2⟩
theorem znO (t:Addr) (w:World):(ReflectliteValue.unpack (.iface 154 (.pointer (some t)))).run Tryz.prog w
  = .ok (.agg #[.pointer (some ⟨6,154,none⟩),.pointer (some ⟨w.heap.size,0,none⟩),.int .u64 150]) (w.alloc (.cells #[.pointer (some t)] 154)):=by kernel_rfl
theorem znH (a:Addr) (w:World):(ReflectliteValue.methodAny (ReflectliteValue.valueError "reflectlite.Value.Type" 0) (fun t _ _ _=>ReflectliteType.toType t) #[.agg #[.pointer (some ⟨6,154,none⟩),.pointer (some a),.int .u64 150]]).run Tryz.prog w
  = .ok (.iface 265 (.agg #[.pointer (some ⟨6,154,none⟩)])) w:=by kernel_rfl
theorem znj (h:Value) (w:World):(Go.method 466 265 (.agg #[h]) "Kind").run Tryz.prog w=.ok (313,h) w:=by kernel_rfl
theorem znc (w:World):((ReflectliteType.abiMethod fun t=>(fun a:Nat=>Value.int IntKind.u8 (a:Int)) <$> Rtype.kind t) #[.pointer (some ⟨6,154,none⟩)]).run Tryz.prog w=.ok (.int .u8 22) w:=by kernel_rfl
theorem znb (w:World):((ReflectliteType.abiMethod fun t=>(fun a:Nat=>Value.int IntKind.u8 (a:Int)) <$> Rtype.kind t) #[.pointer (some ⟨6,152,none⟩)]).run Tryz.prog w=.ok (.int .u8 25) w:=by kernel_rfl
theorem rlm (z:Sem Value) (f:TypeId->Addr->Nat->Nat->Sem Value) (v:Value) :
  ReflectliteValue.method z f #[v]=(do match ←ReflectliteValue.parts v with|none=>z|some (t,a,fl)=>f t a fl (fl%32)):=rfl
theorem zdO (a:Addr) (w:World):(ReflectliteValue.parts (.agg #[.pointer (some ⟨6,154,none⟩),.pointer (some a),.int .u64 150])).run Tryz.prog w=.ok (some (154,a,150)) w:=by kernel_rfl
theorem zna (a p:Addr) (W:World) (ha:W.cell? a=some (.pointer (some p))) :
  (ReflectliteValue.method (ReflectliteValue.valueError "reflectlite.Value.IsNil" 0) ReflectliteValue.isNil #[.agg #[.pointer (some ⟨6,154,none⟩),.pointer (some a),.int .u64 150]]).run Tryz.prog W=.ok (.bool false) W:=by
 rw[rlm]
 simp only[Sem.run_bind,zdO,Result.andThen]
 simp[ReflectliteValue.isNil,loadVar,isAgg,underlying,Tryz.underlying154,ha,Result.andThen]
theorem znh (h:Value) (w:World):(Go.method 466 265 (.agg #[h]) "Elem").run Tryz.prog w=.ok (324,.agg #[h]) w:=by kernel_rfl
theorem zni (h:Value) (w:World):(Go.method 466 265 (.agg #[h]) "Implements").run Tryz.prog w=.ok (325,.agg #[h]) w:=by kernel_rfl
theorem zng (h:Value) (w:World):(Go.method 466 265 (.agg #[h]) "AssignableTo").run Tryz.prog w=.ok (322,.agg #[h]) w:=by kernel_rfl
theorem zm6 (w:World):(ReflectliteType.method ReflectliteType.elem #[.agg #[.pointer (some ⟨6,154,none⟩)]]).run Tryz.prog w=.ok (.iface 265 (.agg #[.pointer (some ⟨6,152,none⟩)])) w:=by kernel_rfl
theorem zm9 (w:World):(ReflectliteType.relation "Implements" ReflectliteType.implements_ #[.agg #[.pointer (some ⟨6,152,none⟩)],.iface 265 (.agg #[.pointer (some ⟨6,88,none⟩)])]).run Tryz.prog w=.ok (.bool true) w:=by kernel_rfl
theorem znI (v:Value) (w:World):(ReflectliteType.typeOf #[.iface 152 v]).run Tryz.prog w=.ok (.iface 265 (.agg #[.pointer (some ⟨6,152,none⟩)])) w:=by kernel_rfl
theorem zm4 (w:World):(ReflectliteType.relation "AssignableTo" ReflectliteType.assignableTo #[.agg #[.pointer (some ⟨6,152,none⟩)],.iface 265 (.agg #[.pointer (some ⟨6,152,none⟩)])]).run Tryz.prog w=.ok (.bool true) w:=by kernel_rfl
theorem znN (n:Int) (w:World):(ReflectliteValue.unpack (.iface 152 (.agg #[.int .i64 n]))).run Tryz.prog w
  = .ok (.agg #[.pointer (some ⟨6,152,none⟩),.pointer (some ⟨w.heap.size,0,none⟩),.int .u64 153]) (w.alloc (.cells #[.int .i64 n] 152)):=by kernel_rfl
theorem zm7 (w:World):(Rtype.elem? 154).run Tryz.prog w=.ok (some 152) w:=by kernel_rfl
theorem znk (p:Addr) (w:World):(ReflectliteValue.mk 152 p ReflectliteValue.flagAddr).run Tryz.prog w=.ok (.agg #[.pointer (some ⟨6,152,none⟩),.pointer (some p),.int .u64 409]) w:=by kernel_rfl
theorem zm8 (a p:Addr) (W:World) (ha:W.cell? a=some (.pointer (some p))) :
  (ReflectliteValue.method (ReflectliteValue.valueError "reflectlite.Value.Elem" 0) ReflectliteValue.elem #[.agg #[.pointer (some ⟨6,154,none⟩),.pointer (some a),.int .u64 150]]).run Tryz.prog W
   = .ok (.agg #[.pointer (some ⟨6,152,none⟩),.pointer (some p),.int .u64 409]) W:=by
 rw[rlm]
 simp only[Sem.run_bind,zdO,Result.andThen]
 simp[ReflectliteValue.elem,loadVar,isAgg,underlying,Tryz.underlying154,ha,Result.andThen,zm7,znk]
theorem rls (v x:Value):ReflectliteValue.set #[v,x]=(do
  let (some (dst,a,fl),some (src,b,_)):=(←ReflectliteValue.parts v,←ReflectliteValue.parts x)
   |unsupported (.noEntry "extern/(internal/reflectlite.Value).Set.zeroValue")
  if fl/ReflectliteValue.flagAddr%2==0 then unsupported (.noEntry "extern/(internal/reflectlite.Value).Set.unaddressable")
  let val ←loadVar src b
  if ←Rtype.directlyAssignable dst src then storeVar dst a val
  else if ←Rtype.implements dst src then
   if (←Rtype.kind src)==20 then
    match val with
    |.nilIface=>unsupported (.noEntry "extern/reflectlite: a nil value of one interface type handed on as a value of another")
    |_=>storeVar dst a val
   else storeVar dst a (.iface src val)
  else panicString ("reflectlite.Set: value of type " ++ (←Rtype.spelt src)++" is not assignable to type " ++ (←Rtype.spelt dst))
  pure (.tuple #[])):=rfl
theorem znw (a:Addr) (w:World):(ReflectliteValue.parts (.agg #[.pointer (some ⟨6,152,none⟩),.pointer (some a),.int .u64 409])).run Tryz.prog w=.ok (some (152,a,409)) w:=by kernel_rfl
theorem znv (a:Addr) (w:World):(ReflectliteValue.parts (.agg #[.pointer (some ⟨6,152,none⟩),.pointer (some a),.int .u64 153])).run Tryz.prog w=.ok (some (152,a,153)) w:=by kernel_rfl
theorem zm5 (w:World):(Rtype.directlyAssignable 152 152).run Tryz.prog w=.ok true w:=by kernel_rfl
open Go.RowKit Go.Extern.Stop Go.Stop Go.Extern
theorem znB (ta b:Addr) (n m:Int) (W:World) (hbs:b.spot=none) (hts:ta.spot=none) (hb:W.heap[b.block]? = some (.cells #[.int .i64 n] 152 (0,0))) (hbo:b.off=0) (ht:W.cell? ta=some (.int .i64 m)) (hf:W.frozen? ta=false) :
  (ReflectliteValue.set #[.agg #[.pointer (some ⟨6,152,none⟩),.pointer (some ta),.int .u64 409],.agg #[.pointer (some ⟨6,152,none⟩),.pointer (some b),.int .u64 153]]).run Tryz.prog W
   = .ok (.tuple #[]) (W.setCell ta (.int .i64 n)):=by
 obtain ⟨bb,bo,bs⟩:=b
 simp only at hbs hbo hb
 subst hbs hbo
 have hl:(loadVar 152 ⟨bb,0,none⟩).run Tryz.prog W=.ok (.agg #[.int .i64 n]) W:=by
  have h1:=run_loadCells (P:=Tryz.prog) (w:=W) ⟨bb,0,none⟩ 1 (fun _=>.int .i64 n) (fun j hj=>by
   obtain rfl:j=0:=by omega
   simp[World.cell?,hb,Addr.add])
  have hsz:(sizeOf 152).run Tryz.prog W=.ok 1 W:=by kernel_rfl
  have hag:(isAgg 152).run Tryz.prog W=.ok true W:=by kernel_rfl
  simp only[loadVar,Sem.run_bind,hag,Result.andThen,if_true,hsz]
  rw[h1]
  rfl
 rw[rls]
 simp only[Sem.run_bind,znw,znv,Result.andThen]
 have hsz:(sizeOf 152).run Tryz.prog W=.ok 1 W:=by kernel_rfl
 simp[ReflectliteValue.flagAddr,hl,Result.andThen,zm5,storeVar,hsz,Value.cells,storeCells,Addr.add]
 rw[run_store Tryz.prog W ta _ _ (by rfl)]
 simp[ht,hf]
open Go.RowKit Go.Extern.Stop Go.Stop Go.Extern
def XJ (n:Int) (t:Addr) (w:World):World:=((((w.alloc (.cells #[.pointer (some t)] 154)).alloc (.cells #[.pointer (some ⟨6,154,none⟩),.pointer (some ⟨w.heap.size,0,none⟩),.int .u64 150] 216)).alloc (.cells #[.pointer (some ⟨6,154,none⟩),.pointer (some ⟨w.heap.size,0,none⟩),.int .u64 150] 216)).alloc (.cells #[.int .i64 n] 152)).setCell t (.int .i64 n)
theorem zh3 (t:Value) (w:World):Calls Tryz.prog 106 #[.nilIface,t] w fun e w' => e = .returned (.bool false)/\w' = w:=by
 go_enter Tryz.func106,Tryz.ntmps106
 go_wp2
 go_ret
 exact ⟨rfl,rfl⟩
set_option maxHeartbeats 4000000 in
theorem zh2 (n m:Int) (t:Addr) (w:World) (hts:t.spot=none) (hg:w.cell? ⟨3,0,none⟩=some (.iface 265 (.agg #[.pointer (some ⟨6,88,none⟩)]))) (ht0:w.cell? t=some (.int .i64 m)) (hf0:w.frozen? t=false) :
  Calls Tryz.prog 106 #[.iface 152 (.agg #[.int .i64 n]),.iface 154 (.pointer (some t))] w fun ev w' => ev=.returned (.bool true)/\w' = XJ n t w:=by
 have h6:=@run_callFunc_extern Tryz.prog 168 _ (fun args=>ReflectliteValue.unpack (args.getD 0 (.tuple #[]))) Tryz.func168 (by kernel_rfl) (by kernel_rfl) (by kernel_rfl) (by kernel_rfl)
 have h7:=@run_callFunc_extern Tryz.prog 169 _ (ReflectliteValue.methodAny (ReflectliteValue.valueError "reflectlite.Value.Type" 0) (fun t _ _ _=>ReflectliteType.toType t)) Tryz.func169 (by kernel_rfl) (by kernel_rfl) (by kernel_rfl) (by kernel_rfl)
 have h8:=@run_callFunc_extern Tryz.prog 170 _ (ReflectliteValue.method (ReflectliteValue.valueError "reflectlite.Value.IsNil" 0) ReflectliteValue.isNil) Tryz.func170 (by kernel_rfl) (by kernel_rfl) (by kernel_rfl) (by kernel_rfl)
 have h27:=@run_callFunc_extern Tryz.prog 313 _ (ReflectliteType.abiMethod fun t=>do pure (.int .u8 (←Rtype.kind t))) Tryz.func313 (by kernel_rfl) (by kernel_rfl) (by kernel_rfl) (by kernel_rfl)
 have h37:=@run_callFunc_extern Tryz.prog 324 _ (ReflectliteType.method ReflectliteType.elem) Tryz.func324 (by kernel_rfl) (by kernel_rfl) (by kernel_rfl) (by kernel_rfl)
 have h38:=@run_callFunc_extern Tryz.prog 325 _ (ReflectliteType.relation "Implements" ReflectliteType.implements_) Tryz.func325 (by kernel_rfl) (by kernel_rfl) (by kernel_rfl) (by kernel_rfl)
 have h10:=@run_callFunc_extern Tryz.prog 226 _ ReflectliteType.typeOf Tryz.func226 (by kernel_rfl) (by kernel_rfl) (by kernel_rfl) (by kernel_rfl)
 have h35:=@run_callFunc_extern Tryz.prog 322 _ (ReflectliteType.relation "AssignableTo" ReflectliteType.assignableTo) Tryz.func322 (by kernel_rfl) (by kernel_rfl) (by kernel_rfl) (by kernel_rfl)
 have h11:=@run_callFunc_extern Tryz.prog 229 _ (ReflectliteValue.method (ReflectliteValue.valueError "reflectlite.Value.Elem" 0) ReflectliteValue.elem) Tryz.func229 (by kernel_rfl) (by kernel_rfl) (by kernel_rfl) (by kernel_rfl)
 have h12:=@run_callFunc_extern Tryz.prog 230 _ ReflectliteValue.set Tryz.func230 (by kernel_rfl) (by kernel_rfl) (by kernel_rfl) (by kernel_rfl)
 have tO:=znI
 have mA:=zng
 have a25:=zm4
 have v25:=znN
 have f6:=znO
 have f7:=znH
 have mK:=znj
 have mE:=znh
 have mI:=zni
 have k27:=znc
 have k25:=znb
 have e27:=zm6
 have i25:=zm9
 have n8:=zna ⟨w.heap.size,0,none⟩ t ((w.alloc (.cells #[.pointer (some t)] 154)).alloc (.cells #[.pointer (some ⟨6,154,none⟩),.pointer (some ⟨w.heap.size,0,none⟩),.int .u64 150] 216)) (by simp)
 have hlt:3<w.heap.size:=by
  rcases Nat.lt_or_ge 3 w.heap.size with h|h
  ·exact h
  ·simp[World.cell?,Array.getElem?_eq_none h] at hg
 have hg2:((w.alloc (.cells #[.pointer (some t)] 154)).alloc (.cells #[.pointer (some ⟨6,154,none⟩),.pointer (some ⟨w.heap.size,0,none⟩),.int .u64 150] 216)).cell? ⟨3,0,none⟩=some (.iface 265 (.agg #[.pointer (some ⟨6,88,none⟩)])):=by
  rw[World.cell?_alloc_lt _ _ ⟨3,0,none⟩ (by simp;omega),World.cell?_alloc_lt _ _ ⟨3,0,none⟩ hlt];exact hg
 have htl:t.block<w.heap.size:=by
  rcases Nat.lt_or_ge t.block w.heap.size with h|h
  ·exact h
  ·simp[World.cell?,Array.getElem?_eq_none h] at ht0
 have el:=zm8 ⟨w.heap.size,0,none⟩ t (((w.alloc (.cells #[.pointer (some t)] 154)).alloc (.cells #[.pointer (some ⟨6,154,none⟩),.pointer (some ⟨w.heap.size,0,none⟩),.int .u64 150] 216)).alloc (.cells #[.pointer (some ⟨6,154,none⟩),.pointer (some ⟨w.heap.size,0,none⟩),.int .u64 150] 216)) (by rw[World.cell?_alloc_lt _ _ ⟨w.heap.size,0,none⟩ (by simp;omega)];simp)
 have st:=znB t ⟨w.heap.size+1+1+1,0,none⟩ n m ((((w.alloc (.cells #[.pointer (some t)] 154)).alloc (.cells #[.pointer (some ⟨6,154,none⟩),.pointer (some ⟨w.heap.size,0,none⟩),.int .u64 150] 216)).alloc (.cells #[.pointer (some ⟨6,154,none⟩),.pointer (some ⟨w.heap.size,0,none⟩),.int .u64 150] 216)).alloc (.cells #[.int .i64 n] 152)) rfl hts
  (by
   generalize hW:(((w.alloc _).alloc _).alloc _:World)=W3
   have hs:W3.heap.size=w.heap.size+1+1+1:=by rw[←hW];simp
   rw[←hs]
   show (W3.heap.push _)[W3.heap.size]? = _
   simp) rfl
  (by rw[World.cell?_alloc_lt _ _ t (by simp;omega),World.cell?_alloc_lt _ _ t (by simp;omega),World.cell?_alloc_lt _ _ t (by simp;omega),World.cell?_alloc_lt _ _ t htl];exact ht0)
  (by rw[World.frozen?_alloc_old _ _ t (by simp;omega),World.frozen?_alloc_old _ _ t (by simp;omega),World.frozen?_alloc_old _ _ t (by simp;omega),World.frozen?_alloc_old _ _ t (Nat.ne_of_lt htl)];exact hf0)
 go_enter Tryz.func106,Tryz.ntmps106
 go_wp2
 refine wp_loop_rounds 1 ?_
 rw[rounds_succ]
 go_wp2
 go_ret
 exact ⟨rfl,rfl⟩
open Go.RowKit Go.Extern.Stop Go.Stop Go.Extern Go.Extern.Rtype
set_option maxHeartbeats 4000000 in
theorem zmv (w:World):Calls Tryz.prog 56 #[.nilIface] w fun e w' => e = .returned (.int .i64 0)/\Below w.heap.size w w':=by
 go_enter Tryz.func56,Tryz.ntmps56
 go_wp2_with (go_at_call 106;refine (zh3 _ _).mono ?_;rintro e w' ⟨rfl,rfl⟩)
 go_ret
 exact ⟨rfl,(Below.refl _ w).alloc (Nat.le_refl _) _⟩
theorem zh1 (n m:Int) (w:World):(XJ n ⟨w.heap.size,0,none⟩ (w.alloc (.cells #[.int .i64 m] 152))).cell? ⟨w.heap.size,0,none⟩=some (.int .i64 n):=by
 unfold XJ
 refine World.cell?_setCell_same' _ _ _ ?_
 rw[World.cell?_alloc_lt _ _ ⟨w.heap.size,0,none⟩ (by simp;omega),World.cell?_alloc_lt _ _ ⟨w.heap.size,0,none⟩ (by simp;omega),World.cell?_alloc_lt _ _ ⟨w.heap.size,0,none⟩ (by simp;omega),World.cell?_alloc_lt _ _ ⟨w.heap.size,0,none⟩ (by simp)]
 simp
theorem zh0 (n m:Int) (w:World):Below w.heap.size w (XJ n ⟨w.heap.size,0,none⟩ (w.alloc (.cells #[.int .i64 m] 152))):=by
 unfold XJ
 exact (((((((Below.refl _ w).alloc (Nat.le_refl _) _).alloc (by simp) _).alloc (by simp;omega) _).alloc (by simp;omega) _).alloc (by simp;omega) _).setCell (Nat.le_refl _) _)
set_option maxHeartbeats 4000000 in
theorem zmu (n:Int) (w:World) (hg:w.cell? ⟨3,0,none⟩=some (.iface 265 (.agg #[.pointer (some ⟨6,88,none⟩)]))) :
  Calls Tryz.prog 56 #[.iface 152 (.agg #[.int .i64 n])] w fun e w' => e = .returned (.int .i64 n)/\Below w.heap.size w w':=by
 have hlt:3<w.heap.size:=by
  rcases Nat.lt_or_ge 3 w.heap.size with h|h
  ·exact h
  ·simp[World.cell?,Array.getElem?_eq_none h] at hg
 have hgA:(w.alloc (.cells #[.int .i64 0] 152)).cell? ⟨3,0,none⟩=some (.iface 265 (.agg #[.pointer (some ⟨6,88,none⟩)])):=by
  rw[World.cell?_alloc_lt _ _ ⟨3,0,none⟩ hlt];exact hg
 have htA:(w.alloc (.cells #[.int .i64 0] 152)).cell? ⟨w.heap.size,0,none⟩=some (.int .i64 0):=by simp
 have hfA:(w.alloc (.cells #[.int .i64 0] 152)).frozen? ⟨w.heap.size,0,none⟩=false:=by simp
 have hc:=zh1 n 0 w
 have hB:=zh0 n 0 w
 generalize hW:XJ n ⟨w.heap.size,0,none⟩ (w.alloc (.cells #[.int .i64 0] 152))=W at hc hB
 go_enter Tryz.func56,Tryz.ntmps56
 go_wp2_with (go_at_call 106;refine (zh2 n 0 _ _ rfl hgA htA hfA).mono ?_;rintro e w' ⟨rfl,h⟩;rw[hW] at h;obtain rfl:=h)
 go_ret
 exact ⟨rfl,hB⟩
def popT:List UInt8:=[0,1,1,2,1,2,2,3,1,2,2,3,2,3,3,4,1,2,2,3,2,3,3,4,2,3,3,4,3,4,4,5,1,2,2,3,2,3,3,4,2,3,3,4,3,4,4,5,2,3,3,4,3,4,4,5,3,4,4,5,4,5,5,6,1,2,2,3,2,3,3,4,2,3,3,4,3,4,4,5,2,3,3,4,3,4,4,5,3,4,4,5,4,5,5,6,2,3,3,4,3,4,4,5,3,4,4,5,4,5,5,6,3,4,4,5,4,5,5,6,4,5,5,6,5,6,6,7,1,2,2,3,2,3,3,4,2,3,3,4,3,4,4,5,2,3,3,4,3,4,4,5,3,4,4,5,4,5,5,6,2,3,3,4,3,4,4,5,3,4,4,5,4,5,5,6,3,4,4,5,4,5,5,6,4,5,5,6,5,6,6,7,2,3,3,4,3,4,4,5,3,4,4,5,4,5,5,6,3,4,4,5,4,5,5,6,4,5,5,6,5,6,6,7,3,4,4,5,4,5,5,6,4,5,5,6,5,6,6,7,4,5,5,6,5,6,6,7,5,6,6,7,6,7,7,8]
theorem znt:∀ n:Nat,n<256->(popT.toArray[n]?).map UInt8.toNat=some (pop8 n):=by decide +kernel
set_option maxRecDepth 100000 in
set_option maxHeartbeats 4000000 in
theorem zmI (n:Nat) (hn:n<256) (w:World):Calls Tryz.prog 244 #[.int .u8 n] w fun e w' => e = .returned (.int .i64 (pop8 n))/\w' = w:=by
 go_enter Tryz.func244,Tryz.ntmps244
 have e:=znt n hn
 have hsz:n<popT.toArray.size:=hn
 rw[Array.getElem?_eq_getElem hsz] at e
 have e2:(popT.toArray[n]'hsz).toNat=pop8 n:=Option.some.inj e
 have hle:pop8 n<=8:=by unfold pop8;omega
 go_wp2
 go_ret
 refine ⟨?_,rfl⟩
 show Ending.returned (Value.int .i64 (Go.RowKit.wrap64 (((popT.toArray[n]'hsz).toNat:Nat):Int)))=_
 rw[e2,show Go.RowKit.wrap64 ((pop8 n:Nat):Int)=pop8 n by simp only[Go.RowKit.wrap64];omega]
theorem zcU (v:Value) (w:World):(Extern.ReflectliteType.typeOf #[.iface 331 v]).run Tryz.prog w=.ok (.iface 265 (.agg #[.pointer (some ⟨6,331,none⟩)])) w:=by kernel_rfl
theorem zcP (w:World):((Extern.ReflectliteType.method fun t=>do noPackHeld "Comparable" t;(fun a=>Value.bool a.comparable) <$> typeInfo t) #[.agg #[.pointer (some ⟨6,331,none⟩)]]).run Tryz.prog w=.ok (.bool true) w:=by kernel_rfl
theorem zcS (v:Value) (w:World):(Go.method 466 265 v "Comparable").run Tryz.prog w=.ok (323,v) w:=by kernel_rfl
theorem zcO:(Tryz.prog.info? 331).map (·.comparable)=some true:=by kernel_rfl
theorem zcT:(Tryz.prog.info? 353).map (·.size)=some 1:=by kernel_rfl
theorem zmq (v:Value) (xT:TypeId) (w:World):(Instr.typeAssert (.iface 331 v) xT 309 true).run Tryz.prog w=.ok (.tuple #[.nilIface,.bool false]) w:=run_typeAssert_lacksB Tryz.underlying309 (by kernel_rfl) (by kernel_rfl) v xT w
theorem zmr (v:Value) (xT:TypeId) (w:World):(Instr.typeAssert (.iface 331 v) xT 272 true).run Tryz.prog w=.ok (.tuple #[.nilIface,.bool false]) w:=run_typeAssert_lacksB Tryz.underlying272 (by kernel_rfl) (by kernel_rfl) v xT w
theorem zms (v:Value) (xT:TypeId) (w:World):(Instr.typeAssert (.iface 331 v) xT 273 true).run Tryz.prog w=.ok (.tuple #[.nilIface,.bool false]) w:=run_typeAssert_lacksB Tryz.underlying273 (by kernel_rfl) (by kernel_rfl) v xT w
theorem zlM (a:Addr) (w:World) :
  Calls Tryz.prog 162 #[.iface 331 (.pointer (some a)),.iface 331 (.pointer (some a))] w fun e w' => e = .returned (.bool true)/\w' = w:=by
 obtain ⟨i,hi,hcmp⟩:=Option.map_eq_some_iff.1 zcO
 obtain ⟨j,hj,hjs⟩:=Option.map_eq_some_iff.1 zcT
 have h8:=@run_callFunc_extern Tryz.prog 226 _ Extern.ReflectliteType.typeOf Tryz.func226 (by kernel_rfl) (by kernel_rfl) (by kernel_rfl) (by kernel_rfl)
 have h32:=@run_callFunc_extern Tryz.prog 323 _ (Extern.ReflectliteType.method fun t=>do noPackHeld "Comparable" t;pure (.bool (←typeInfo t).comparable)) Tryz.func323 (by kernel_rfl) (by kernel_rfl) (by kernel_rfl) (by kernel_rfl)
 have tT:=zcU
 have cT:=zcP
 have mR:=zcS
 have heq:=run_eql_iface_ptr_same (P:=Tryz.prog) w a Tryz.underlying88 Tryz.underlying331 hi hcmp hj
 go_enter Tryz.func162,Tryz.ntmps162
 go_wp2
 refine wp_loop_rounds 1 ?_
 rw[rounds_succ]
 go_wp2
 go_ret
 exact ⟨rfl,rfl⟩
theorem zlJ (b:Addr) (w:World) :
  Calls Tryz.prog 162 #[.nilIface,.iface 331 (.pointer (some b))] w fun e w' => e = .returned (.bool false)/\w' = w:=by
 have hn:=run_eql_iface_nil_left (P:=Tryz.prog) w 331 (.pointer (some b)) Tryz.underlying88
 go_enter Tryz.func162,Tryz.ntmps162
 go_wp2
 go_ret
 exact ⟨rfl,rfl⟩
theorem zlL (a b:Addr) (ca cb:Array Value) (ta tb:TypeId) (w:World) (hne:a≠b) (ha:w.heap[a.block]? = some (.cells ca ta (0,0))) (hb:w.heap[b.block]? = some (.cells cb tb (0,0))) :
  Calls Tryz.prog 162 #[.iface 331 (.pointer (some a)),.iface 331 (.pointer (some b))] w fun e w' => e = .returned (.bool false)/\w' = w:=by
 obtain ⟨i,hi,hcmp⟩:=Option.map_eq_some_iff.1 zcO
 obtain ⟨j,hj,hjs⟩:=Option.map_eq_some_iff.1 zcT
 have h8:=@run_callFunc_extern Tryz.prog 226 _ Extern.ReflectliteType.typeOf Tryz.func226 (by kernel_rfl) (by kernel_rfl) (by kernel_rfl) (by kernel_rfl)
 have h32:=@run_callFunc_extern Tryz.prog 323 _ (Extern.ReflectliteType.method fun t=>do noPackHeld "Comparable" t;pure (.bool (←typeInfo t).comparable)) Tryz.func323 (by kernel_rfl) (by kernel_rfl) (by kernel_rfl) (by kernel_rfl)
 have tT:=zcU
 have cT:=zcP
 have mR:=zcS
 have nE:=zmq
 have uE:=zmr
 have vE:=zms
 have heq:=run_eql_iface_ptr_other (P:=Tryz.prog) w Tryz.underlying88 Tryz.underlying331 hi hcmp hj (by rw[hjs];decide) hne ha hb
 go_enter Tryz.func162,Tryz.ntmps162
 go_wp2
 refine wp_loop_rounds 1 ?_
 rw[rounds_succ]
 go_wp2
 go_ret
 exact ⟨rfl,rfl⟩
open Go.RowKit
set_option maxRecDepth 100000
theorem zfo {P:Program} {E:Env} {G:Gh} {w:World} {p:PV} {vs:Array Value} (pre:PreC P E G w [.pv p] vs []):∃ x,vs=#[x]/\PRep G.g p x:=by
 have hs:vs.size=1:=pre.sz
 obtain ⟨x,rfl⟩:=Array.size_eq_one_iff.1 hs
 rcases pre.ar 0 (.pv p) x rfl rfl with h|h
 ·exact ⟨x,rfl,h.2 (fun _=>.imm)⟩
 ·cases h.1
theorem zpR {P:Program} {E:Env} {G:Gh} {w:World} {p q:PV} {vs:Array Value} (pre:PreC P E G w [.pv p,.pv q] vs []):∃ x y,vs=#[x,y]/\PRep G.g p x/\PRep G.g q y:=by
 have hs:vs.size=2:=pre.sz
 obtain ⟨x,y,rfl⟩:∃ x y,vs=#[x,y]:=by
  obtain ⟨l⟩:=vs
  match l,hs with
  |[x,y],_=>exact ⟨x,y,rfl⟩
 refine ⟨x,y,rfl,?_,?_⟩
 ·rcases pre.ar 0 (.pv p) x rfl rfl with h|h
  ·exact h.2 (fun _=>.imm)
  ·cases h.1
 ·rcases pre.ar 1 (.pv q) y rfl rfl with h|h
  ·exact h.2 (fun _=>.imm)
  ·cases h.1
theorem zk1 {G:Gh} {w:World} (wo:WOk Tryz.prog env G w):w.cell? ⟨3,0,none⟩=some (.iface 265 (.agg #[.pointer (some ⟨6,88,none⟩)])):=by
 obtain ⟨c,h1,h2⟩:=wo.fix 3 _ rfl
 obtain ⟨_,T,f,h3⟩:=wo.imm _ _ h1
 unfold World.cell?
 simp[h3,h2]
theorem zmw {args:List AV} {H:ze} {out:Out} {H':ze} (hc:Xn env (0,152) args H=some (out,H')) {G:Gh} {w:World} {vs:Array Value} (pre:PreC Tryz.prog env G w args vs H) :
  Calls Tryz.prog 56 vs w fun e w' => vL Tryz.prog env G w H' out e w':=by
 unfold Xn at hc
 split at hc
 ·rename_i p _
  cases hn:KT 152 p with
  |none=>simp[hn] at hc
  |some n=>
   simp only[hn,zqR] at hc
   cases H with
   |cons a b=>simp at hc
   |nil=>
    simp only[List.isEmpty_nil,cond_true,zqW,Prod.mk.injEq] at hc
    obtain ⟨rfl,rfl⟩:=hc
    obtain ⟨x,rfl,hx⟩:=zfo pre
    unfold KT at hn
    split at hn
    ·cases hn
     cases hx
     exact (zmv w).mono fun e w' ⟨he,hb⟩=>by subst he;exact X2 pre.wo hb (.v rfl)
    ·rename_i t' m
     split at hn
     ·rename_i ht
      cases hn
      subst ht
      cases hx with
      |ifc hu=>
       cases hu with
       |agg h1 h2 h3=>
        rename_i us
        obtain ⟨y,rfl⟩:=Array.size_eq_one_iff.1 h1
        cases h3 0 _ y rfl rfl
        exact (zmu n w (zk1 pre.wo)).mono fun e w' ⟨he,hb⟩=>by subst he;exact X2 pre.wo hb (.v rfl)
     ·cases hn
    ·cases hn
 ·rename_i h;cases h
 ·rename_i h;cases h
 ·cases hc
theorem zeA {G:Gh} {w:World} (wo:WOk Tryz.prog env G w) {b:PV} {g:Nat} (h:Wx env b=some g) {x:Value} (hx:PRep G.g b x) :
  find env.glob g=some (.sen g)/\∃ c a ca ta,G.g g=some c/\c[0]? = some x/\x=.iface 331 (.pointer (some a))/\w.heap[a.block]? = some (.cells ca ta (0,0)):=by
 unfold Wx at h
 split at h
 ·rename_i g0
  split at h
  ·rename_i g' hf
   split at h
   ·rename_i e
    cases h
    subst e
    refine ⟨hf,?_⟩
    obtain ⟨c,a,ca,ta,k1,k2,k3,k4⟩:=wo.sen _ hf
    cases hx with
    |sen h1 h2=>
     obtain rfl:=Option.some.inj (k1.symm.trans h1)
     have e:=Option.some.inj (k2.symm.trans h2)
     exact ⟨c,a,ca,ta,k1,by rw[k2,e],e.symm,k4⟩
   ·cases h
  ·cases h
 ·cases h
theorem zlK {args:List AV} {H:ze} {out:Out} {H':ze} (hc:Xn env (1,0) args H=some (out,H')) {G:Gh} {w:World} {vs:Array Value} (pre:PreC Tryz.prog env G w args vs H) :
  Calls Tryz.prog 162 vs w fun e w' => vL Tryz.prog env G w H' out e w':=by
 unfold Xn at hc
 split at hc
 ·rename_i h;cases h
 ·rename_i p r _
  cases hn:ul env p r with
  |none=>simp[hn] at hc
  |some z=>
   simp only[hn,zqR] at hc
   cases H with
   |cons a b=>simp at hc
   |nil=>
    simp only[List.isEmpty_nil,cond_true,zqW,Prod.mk.injEq] at hc
    obtain ⟨rfl,rfl⟩:=hc
    obtain ⟨x,y,rfl,hx,hy⟩:=zpR pre
    unfold ul at hn
    cases hg:Wx env r with
    |none=>simp[hg] at hn
    |some g=>
     simp only[hg,zqR] at hn
     obtain ⟨f1,c,a,ca,ta,q1,q2,rfl,q4⟩:=zeA pre.wo hg hy
     split at hn
     ·cases hn
      cases hx
      exact (zlJ a w).mono fun e w' ⟨he,hb⟩=>by subst he;subst hb;exact X2 pre.wo (Below.refl _ _) (.v rfl)
     ·cases hh:Wx env p with
      |none=>simp[hh] at hn
      |some h=>
       simp only[hh,Option.map_some,zqW] at hn
       obtain ⟨f2,c',a',ca',ta',r1,r2,rfl,r4⟩:=zeA pre.wo hh hx
       by_cases he:h=g
       ·subst he
        obtain rfl:=Option.some.inj (q1.symm.trans r1)
        have e:=Option.some.inj (q2.symm.trans r2)
        obtain rfl:a=a':=by injection e with _ e;injection e with e;injection e
        obtain rfl:z=true:=by rw[←hn];simp
        exact (zlM a w).mono fun e w' ⟨he,hb⟩=>by subst he;subst hb;exact X2 pre.wo (Below.refl _ _) (.v rfl)
       ·have hd:=pre.wo.dst h g c' c f2 f1 he r1 q1
        have hne:a'≠a:=fun e=>hd (by rw[r2,q2,e])
        obtain rfl:z=false:=by rw[←hn];simpa using he
        exact (zlL a' a _ _ _ _ w hne r4 q4).mono fun e w' ⟨he,hb⟩=>by subst he;subst hb;exact X2 pre.wo (Below.refl _ _) (.v rfl)
 ·rename_i h;cases h
 ·cases hc
theorem zmH {args:List AV} {H:ze} {out:Out} {H':ze} (hc:Xn env (2,0) args H=some (out,H')) {G:Gh} {w:World} {vs:Array Value} (pre:PreC Tryz.prog env G w args vs H) :
  Calls Tryz.prog 244 vs w fun e w' => vL Tryz.prog env G w H' out e w':=by
 unfold Xn at hc
 split at hc
 ·rename_i h;cases h
 ·rename_i h;cases h
 ·rename_i p _
  cases hm:za .u8 (.pv p) with
  |none=>simp[hm] at hc
  |some m=>
   have:=uM hm
   cases this
   simp only[hm,zqR] at hc
   unfold K2 at hc
   cases hb:(decide (0<=m)&&decide (m<256)) with
   |false=>simp[hb] at hc
   |true=>
    simp only[Bool.and_eq_true,decide_eq_true_eq] at hb
    simp only[hb,decide_true,Bool.and_self,cond_true,zqR] at hc
    cases H with
    |cons a b=>simp at hc
    |nil=>
     simp only[List.isEmpty_nil,cond_true,zqW,Prod.mk.injEq] at hc
     obtain ⟨rfl,rfl⟩:=hc
     obtain ⟨x,rfl,hx⟩:=zfo pre
     cases hx
     have:=zmI m.toNat (by omega) w
     rw[Int.toNat_of_nonneg hb.1] at this
     exact this.mono fun e w' ⟨he,hb⟩=>by subst he;subst hb;exact X2 pre.wo (Below.refl _ _) (.v rfl)
 ·cases hc
theorem Wf:JO Tryz.prog env:=by
 intro f q hq
 have he:env.cln=[(275,(5,1,1)),(56,(0,0,152)),(162,(1,0,0)),(244,(2,0,0))]:=rfl
 rw[he] at hq
 unfold find at hq
 split at hq
 ·rename_i hk
  cases hq
  subst hk
  exact ⟨⟨_,Tryz.func275,by kernel_rfl,by kernel_rfl⟩,fun args H out H' hc G w vs pre=>zj2 hc pre⟩
 unfold find at hq
 split at hq
 ·rename_i hk
  cases hq
  subst hk
  exact ⟨⟨_,Tryz.func56,by kernel_rfl,by kernel_rfl⟩,fun args H out H' hc G w vs pre=>zmw hc pre⟩
 unfold find at hq
 split at hq
 ·rename_i hk
  cases hq
  subst hk
  exact ⟨⟨_,Tryz.func162,by kernel_rfl,by kernel_rfl⟩,fun args H out H' hc G w vs pre=>zlK hc pre⟩
 unfold find at hq
 split at hq
 ·rename_i hk
  cases hq
  subst hk
  exact ⟨⟨_,Tryz.func244,by kernel_rfl,by kernel_rfl⟩,fun args H out H' hc G w vs pre=>zmH hc pre⟩
 ·cases hq
open Go.RowKit Go.WideMaps Go.WideElems
set_option maxRecDepth 100000
def zeR (i:Nat):Int:=[0,1,8,16,32,64,64,0].getD i 0
theorem gDec:Tryz.prog.globalNamed "capnp/pointer.decoders" = some 4:=by kernel_rfl
theorem tDec:(Tryz.prog.globals[4]?).map (·.type)=some 293:=by kernel_rfl
theorem zqu (W:World):(zeroValue 240).run Tryz.prog W=.ok .nilFunc W:=by kernel_rfl
def zbH:DataW (List UInt8):=.map [(.int .i64 0,.held [99,97,112,110,112,47,112,111,105,110,116,101,114,46,100,101,99,111,100,101,114,115,36,49]),(.int .i64 1,.held [99,97,112,110,112,47,112,111,105,110,116,101,114,46,100,101,99,111,100,101,114,115,36,50]),(.int .i64 2,.held [99,97,112,110,112,47,112,111,105,110,116,101,114,46,100,101,99,111,100,101,114,115,36,51]),(.int .i64 3,.held [99,97,112,110,112,47,112,111,105,110,116,101,114,46,100,101,99,111,100,101,114,115,36,52])]
def rV (w:World):Prop:=∃ bm es clock,w.cell? ⟨4,0,none⟩=some (.map (some bm))/\w.heap[bm]? = some (.map es clock)/\
  ∀ W:World,W.heap[bm]? = some (.map es clock)->
   (Instr.lookup 293 (.map (some bm)) (.int .i64 0) false).run Tryz.prog W=.ok (.func (.func 341) #[] #[]) W/\
   (Instr.lookup 293 (.map (some bm)) (.int .i64 1) false).run Tryz.prog W=.ok (.func (.func 343) #[] #[]) W/\
   (Instr.lookup 293 (.map (some bm)) (.int .i64 2) false).run Tryz.prog W=.ok (.func (.func 344) #[] #[]) W/\
   (Instr.lookup 293 (.map (some bm)) (.int .i64 3) false).run Tryz.prog W=.ok (.func (.func 345) #[] #[]) W
theorem zkl {W:World} {l:List (String×DataW Unit)} (h:laidMetH Tryz.prog l W) (hm:("capnp/pointer.decoders",Rows.laid_capnp_pointer_decoders)∈l):rV W:=by
 obtain ⟨g,t,cs,fuel,p,hg,ht,hv,hd⟩:=h.funcs hm
 obtain rfl:=Option.some.inj (gDec.symm.trans hg)
 obtain rfl:=Option.some.inj (tDec.symm.trans ht)
 have hd':DataW.trod (funcToken Tryz.prog) Tryz.prog W 0 (fun _=>true) true fuel 293 cs.toList=some (zbH,p):=hd
 rcases open_map Tryz.underlying293 hd' with ⟨_,hx⟩|⟨bm,es,clock,n,rfl,hcs,hb,_,F,hx⟩
 ·simp[zbH] at hx
 simp only[Prod.mk.injEq] at hx
 have hcell:W.cell? ⟨4,0,none⟩=some (.map (some bm)):=by
  have:=World.var?_cell hg hv 0
  rw[Array.eq_one_of_toList hcs] at this
  simpa using this
 refine ⟨bm,es,clock,hcell,hb,fun W' hb' => ?_⟩
 have key:∀ (k:Int) (f:FuncId) (b:UInt8) (r:List UInt8),(Lit.int .i64 k).wf=true->(∀ zd,DataW.atKey (.map ((es.toList.map (rg Tryz.prog 3 (elemAt (funcToken Tryz.prog) Tryz.prog W 0 (fun _=>true) true n 240))).foldr DataW.insert [])) (.int .i64 k) zd=.held (b::r))->
   ((List.range Tryz.prog.funcs.size).filter fun f=>(Tryz.prog.funcs[f]?).any (·.name.toUTF8.data.toList==b::r))=[f]->
   (Instr.lookup 293 (.map (some bm)) (.int .i64 k) false).run Tryz.prog W' = .ok (.func (.func f) #[] #[]) W':=by
  intro k f b r hwf hat0 hone
  rcases Maps.fit_look false (Maps.int_keyed Tryz.underlying3) Tryz.underlying293 (zqu W') hb' F (Maps.keyOf_int_mk Tryz.underlying3 hwf) with ⟨_,_,hat⟩|⟨e0,y,_,_,hrun,hRv,hat,_⟩
  ·have:=hat .nil
   rw[hat0] at this
   cases this
  ·have h1:=hat .nil
   rw[hat0] at h1
   obtain ⟨y1,y2⟩:=y
   simp only at h1
   subst h1
   unfold elemAt at hRv
   split at hRv
   ·rename_i hf
    have hv1:e0.val.cells.toList=[e0.val]:=by
     cases he:e0.val<;>simp_all [Value.cells,Value.formed,Tryz.underlying240]
    rw[hv1] at hRv
    have:=func_of_trod Tryz.underlying240 hone hRv
    rw[this] at hrun
    simpa using hrun
   ·cases hRv
 exact ⟨key 0 341 _ _ rfl (fun zd=>by rw[←hx.1];rfl) (by kernel_rfl),key 1 343 _ _ rfl (fun zd=>by rw[←hx.1];rfl) (by kernel_rfl),key 2 344 _ _ rfl (fun zd=>by rw[←hx.1];rfl) (by kernel_rfl),key 3 345 _ _ rfl (fun zd=>by rw[←hx.1];rfl) (by kernel_rfl)⟩
theorem zcA:Tryz.prog.globalNamed "capnp/listsize.bits" = some 5:=by kernel_rfl
theorem zpb:(Tryz.prog.globals[5]?).map (·.type)=some 304:=by kernel_rfl
abbrev senL:List (String×DataW Unit):=[("capnp/unpack.errTruncated",Rows.laid_capnp_unpack_errTruncated),("capnp/unpack.errLimit",Rows.laid_capnp_unpack_errLimit),("capnp/listsize.bits",Rows.laid_capnp_listsize_bits)]
theorem zh9 {W:World} {l:List (String×DataW Unit)} (h:laidMetH Tryz.prog l W) (hf:l.filter (fun x=>x.2.handleName?.isNone)=senL):∀ i:Nat,i<8->W.cell? ⟨5,i,none⟩=some (.int .i64 (zeR i)):=by
 have h1:=(laidMetH_iff.1 h).1
 rw[hf] at h1
 have h2:=h1.filter (fun x=>x.1 == "capnp/listsize.bits")
 have e:senL.filter (fun x=>x.1 == "capnp/listsize.bits")=[("capnp/listsize.bits",Rows.laid_capnp_listsize_bits)]:=by kernel_rfl
 rw[e] at h2
 have ht:Lib.TabIs Tryz.prog W "capnp/listsize.bits" .i64 [0,1,8,16,32,64,64,0]:=Lib.tabIs_of_head (rest:=[]) zcA zpb Tryz.underlying304 Tryz.underlying3 (by kernel_rfl) (by kernel_rfl) h2
 exact fun i hi=>ht.cell zcA i hi
theorem gTr:Tryz.prog.globalNamed "capnp/unpack.errTruncated" = some 2:=by kernel_rfl
theorem tTr:(Tryz.prog.globals[2]?).map (·.type)=some 88:=by kernel_rfl
theorem gLi:Tryz.prog.globalNamed "capnp/unpack.errLimit" = some 1:=by kernel_rfl
theorem tLi:(Tryz.prog.globals[1]?).map (·.type)=some 88:=by kernel_rfl
theorem zb5 : "*" ++ "errors.errorString" = "*errors.errorString":=by decide
theorem zk2 (u:TypeId) (h:Tryz.prog.typeName? 3 u=some "*errors.errorString"):u=331 :=
 typeName_ptr_named (nm:= "errors.errorString") (by rw[zb5];kernel_rfl) (by kernel_rfl) (by decide) u (by rw[zb5];exact h)
theorem zoS {W:World} {l:List (String×DataW Unit)} (h:laidMetH Tryz.prog l W) (hf:l.filter (fun x=>x.2.handleName?.isNone)=senL) :
  ∃ (a0 a1:Addr) (c0 c1:Array Value) (t0 t1:TypeId),W.cell? ⟨2,0,none⟩=some (.iface 331 (.pointer (some a0)))/\W.cell? ⟨1,0,none⟩=some (.iface 331 (.pointer (some a1)))/\a0≠a1/\
   W.heap[a0.block]? = some (.cells c0 t0 (0,0))/\W.heap[a1.block]? = some (.cells c1 t1 (0,0)):=by
 have h1:=(laidMetH_iff.1 h).1
 rw[hf] at h1
 obtain ⟨a0,a1,s0,s1,c0,c1,t0,t1,hv0,hv1,_,_,_,_,_,_,hne,hb0,hb1⟩:=laid_sentinels2 (ti:=88) (tp:=331) (te:=353) (ts:=9) h1 gTr tTr gLi tLi Tryz.underlying88 zk2 Tryz.underlying331 Tryz.underlying353 rfl rfl Tryz.underlying9 (by kernel_rfl) (by kernel_rfl)
 refine ⟨a0,a1,c0,c1,t0,t1,?_,?_,hne,hb0,hb1⟩
 ·simpa using World.var?_cell gTr hv0 0
 ·simpa using World.var?_cell gLi hv1 0
theorem etG:Tryz.prog.globalNamed "errors.errorType" = some 3:=by kernel_rfl
theorem rtT:(Tryz.prog.cutTypes.find? (·.1 == "internal/reflectlite.rtype")).map (·.2)=some 265:=by kernel_rfl
theorem zk4:((List.range Tryz.prog.types.size).filter fun t=>Tryz.prog.rowNamed t [101,114,114,111,114])=[88]:=by kernel_rfl
theorem zlw {W:World} {l:List (String×DataW Unit)} (h:laidMetH Tryz.prog l W) (hm:("errors.errorType",Rows.laid_errors_errorType)∈l):W.cell? ⟨3,0,none⟩=some (.iface 265 (.agg #[.pointer (some ⟨6,88,none⟩)])):=by
 have h2:=(laidMetH_iff.1 h).2
 obtain ⟨name,u,ty,e1,e2,e3,e4,e5⟩:=h2 _ (List.mem_filter.2 ⟨hm,rfl⟩)
 have en:name=[101,114,114,111,114]:=(Option.some.inj e1).symm
 subst en
 obtain rfl:=Option.some.inj (rtT.symm.trans e2)
 have hm2:ty∈(List.range Tryz.prog.types.size).filter fun t=>Tryz.prog.rowNamed t [101,114,114,111,114]:=List.mem_filter.2 ⟨List.mem_range.2 e3,e4⟩
 rw[zk4] at hm2
 obtain rfl:=List.mem_singleton.1 hm2
 have hh:typeHandle Tryz.prog 88=.pointer (some ⟨6,88,none⟩):=by kernel_rfl
 rw[hh] at e5
 simpa using World.var?_cell etG e5 0
theorem zmm {w:World} (h:rV w):∃ v c,g0 w 4=some c/\c[0]? = some v/\MRel Tryz.prog env (G0 w) w 4 v:=by
 obtain ⟨bm,es,clock,h1,h2,h3⟩:=h
 obtain ⟨_,c,hc,hv⟩:=Yc h1
 refine ⟨_,c,hc,hv,bm,es,clock,rfl,if_pos (Array.getElem?_eq_some_iff.1 h2).1,h2,fun W hW l n p hl hp=>?_⟩
 obtain rfl:l=(293,[(0,341),(1,343),(2,344),(3,345)]):=(Option.some.inj hl).symm
 obtain ⟨k0,k1,k2,k3⟩:=h3 W hW
 simp only[List.find?_cons,List.find?_nil] at hp
 split at hp
 ·rename_i hn;cases hp;obtain rfl:(0:Int)=n:=by simpa using hn
  exact k0
 ·split at hp
  ·rename_i hn;cases hp;obtain rfl:(1:Int)=n:=by simpa using hn
   exact k1
  ·split at hp
   ·rename_i hn;cases hp;obtain rfl:(2:Int)=n:=by simpa using hn
    exact k2
   ·split at hp
    ·rename_i hn;cases hp;obtain rfl:(3:Int)=n:=by simpa using hn
     exact k3
    ·cases hp
theorem zk0 {w:World} (h:∀ i:Nat,i<8->w.cell? ⟨5,i,none⟩=some (.int .i64 (zeR i))):ERel (G0 w) (.agg [.v (.int .i64 0),.v (.int .i64 1),.v (.int .i64 8),.v (.int .i64 16),.v (.int .i64 32),.v (.int .i64 64),.v (.int .i64 64),.v (.int .i64 0)]) 0 (.pointer (some ⟨5,0,none⟩)):=by
 obtain ⟨_,c,hc,h7⟩:=Yc (h 7 (by decide))
 have hsz:=(Array.getElem?_eq_some_iff.1 h7).1
 refine ⟨_,c,0,hc,rfl,?_,fun j q u hq hu=>?_⟩
 ·show 0+8<=c.size
  simp only at hsz
  omega
 ·have hj:j<8:=(List.getElem?_eq_some_iff.1 hq).1
  obtain ⟨_,c',hc',hj'⟩:=Yc (h j hj)
  obtain rfl:c=c':=Option.some.inj (hc.symm.trans hc')
  rw[Nat.zero_add] at hu
  simp only at hj'
  rw[hj'] at hu
  cases hu
  match j,hj with
  |0,_|1,_|2,_|3,_|4,_|5,_|6,_|7,_=>cases hq;exact ⟨rfl,.v rfl⟩
theorem zb4 {w:World} {g:Nat} {t:TypeId} {a:Addr} (h:w.cell? ⟨g,0,none⟩=some (.iface t (.pointer (some a)))):ERel (G0 w) (.sen g) 0 (.pointer (some ⟨g,0,none⟩)):=by
 obtain ⟨_,c,hc,h0⟩:=Yc h
 refine ⟨_,c,0,hc,rfl,?_,fun j q u hq hu=>?_⟩
 ·have:=(Array.getElem?_eq_some_iff.1 h0).1
  show 0+1<=c.size
  simp only at this
  omega
 ·match j,hq with
  |0,hq=>
   cases hq
   rw[Nat.zero_add] at hu
   simp only at h0
   rw[h0] at hu
   cases hu
   exact ⟨rfl,.sen hc h0⟩
  |j+1,hq=>cases hq
theorem VI {g:Nat} {p:PV} (h:find env.glob g=some p):(g=5/\p=.agg [.v (.int .i64 0),.v (.int .i64 1),.v (.int .i64 8),.v (.int .i64 16),.v (.int .i64 32),.v (.int .i64 64),.v (.int .i64 64),.v (.int .i64 0)])∨(g=1/\p=.sen 1)∨(g=2/\p=.sen 2):=by
 have he:env.glob=[(5,.agg [.v (.int .i64 0),.v (.int .i64 1),.v (.int .i64 8),.v (.int .i64 16),.v (.int .i64 32),.v (.int .i64 64),.v (.int .i64 64),.v (.int .i64 0)]),(1,.sen 1),(2,.sen 2)]:=rfl
 rw[he] at h
 unfold find at h
 split at h
 ·rename_i hk;cases h;exact .inl ⟨hk.symm,rfl⟩
 unfold find at h
 split at h
 ·rename_i hk;cases h;exact .inr (.inl ⟨hk.symm,rfl⟩)
 unfold find at h
 split at h
 ·rename_i hk;cases h;exact .inr (.inr ⟨hk.symm,rfl⟩)
 ·cases h
theorem zp4 {w:World} {l:List (String×DataW Unit)} (h:laidMetH Tryz.prog l w) (hm:("capnp/pointer.decoders",Rows.laid_capnp_pointer_decoders)∈l) (hm2:("errors.errorType",Rows.laid_errors_errorType)∈l) (hf:l.filter (fun x=>x.2.handleName?.isNone)=senL):WOk Tryz.prog env (G0 w) w:=by
 obtain ⟨a0,a1,c0,c1,t0,t1,hv0,hv1,hne,hb0,hb1⟩:=zoS h hf
 obtain ⟨_,d0,hd0,he0⟩:=Yc hv0
 obtain ⟨_,d1,hd1,he1⟩:=Yc hv1
 refine zp3 (fun g l hl=>?_) (fun g p hp=>?_) (fun g hg=>?_) (fun g1 g2 x1 x2 h1 h2 hn e1 e2=>?_) (fun g v hv=>?_)
 ·have hg:g=4:=by
   have he:env.maps=[(4,(293,[(0,341),(1,343),(2,344),(3,345)]))]:=rfl
   rw[he] at hl
   unfold find at hl
   split at hl
   ·rename_i hk;exact hk.symm
   ·cases hl
  subst hg
  exact zmm (zkl h hm)
 ·rcases VI hp with ⟨rfl,rfl⟩|⟨rfl,rfl⟩|⟨rfl,rfl⟩
  ·exact zk0 (zh9 h hf)
  ·exact zb4 hv1
  ·exact zb4 hv0
 ·rcases VI hg with ⟨rfl,e⟩|⟨rfl,e⟩|⟨rfl,e⟩
  ·cases e
  ·exact ⟨d1,a1,c1,t1,hd1,he1,hb1⟩
  ·exact ⟨d0,a0,c0,t0,hd0,he0,hb0⟩
 ·have key:∀ x:Value,(Value.iface 331 (.pointer (some a0)))=x->(Value.iface 331 (.pointer (some a1)))=x->False:=fun x k1 k2=>by
   rw[←k1] at k2
   injection k2 with _ k2;injection k2 with k2;injection k2 with k2
   exact hne k2.symm
  rcases VI h1 with ⟨rfl,e⟩|⟨rfl,e⟩|⟨rfl,e⟩
  ·cases e
  ·rcases VI h2 with ⟨rfl,e'⟩|⟨rfl,e'⟩|⟨rfl,e'⟩
   ·cases e'
   ·exact absurd rfl hn
   ·obtain rfl:=Option.some.inj (hd1.symm.trans e1)
    obtain rfl:=Option.some.inj (hd0.symm.trans e2)
    intro k
    simp only at he0 he1
    rw[he1,he0] at k
    exact key _ rfl (Option.some.inj k)
  ·rcases VI h2 with ⟨rfl,e'⟩|⟨rfl,e'⟩|⟨rfl,e'⟩
   ·cases e'
   ·obtain rfl:=Option.some.inj (hd0.symm.trans e1)
    obtain rfl:=Option.some.inj (hd1.symm.trans e2)
    intro k
    simp only at he0 he1
    rw[he1,he0] at k
    exact key _ (Option.some.inj k) rfl
   ·exact absurd rfl hn
 ·have he:env.fix=[(3,.iface 265 (.agg #[.pointer (some ⟨6,88,none⟩)]))]:=rfl
  rw[he] at hv
  unfold find at hv
  split at hv
  ·rename_i hk
   cases hv
   subst hk
   obtain ⟨_,c,k1,k2⟩:=Yc (zlw h hm2)
   exact ⟨c,k1,k2⟩
  ·cases hv
open Go.RowKit
set_option maxRecDepth 100000
def uz (n:Int):Prop:=(Lit.int .i64 n).wf=true
theorem zib {n:Int} (h:(Lit.int .u8 n).wf=true):zF n:=by
 simp[Lit.wf,IntKind.min,IntKind.max,IntKind.signed,IntKind.bits] at h
 unfold zF
 omega
def qX:Enc (Int×Int×Int):=⟨fun t=>[I t.1,I t.2.1,I t.2.2],3,true,fun _=>rfl,fun h=>by cases h⟩
def rU {H:Type} (t:Int×Int×Int) (x:DataW H):Prop:=uz t.1/\uz t.2.1/\uz t.2.2
theorem znX {H:Type} {enc:TypeId×Value->H} {w:World} (n:Nat):RdsAt enc Tryz.prog w n 24 qX rU:=by
 intro cs x h
 obtain ⟨xs,n,rfl,rfl,hl,hlen,hf⟩:=DataW.trod_struct Tryz.underlying24 h
 have hc:cs.length=3:=hl.trans (by kernel_rfl)
 obtain ⟨c0,c1,c2,rfl⟩:∃ c0 c1 c2,cs=[c0,c1,c2]:=by
  match cs,hc with
  |[c0,c1,c2],_=>exact ⟨c0,c1,c2,rfl⟩
 obtain ⟨x0,x1,x2,rfl⟩:∃ x0 x1 x2,xs=[x0,x1,x2]:=by
  match xs,(show xs.length=3 from hlen.trans (by kernel_rfl)) with
  |[x0,x1,x2],_=>exact ⟨x0,x1,x2,rfl⟩
 have z0:Tryz.prog.cellsOf 3=1:=by kernel_rfl
 have h0:DataW.trod enc Tryz.prog w 0 (fun _=>true) true n 3 (([c0,c1,c2].drop 0).take (Tryz.prog.cellsOf 3))=[x0,x1,x2][0]?:=hf 0 _ rfl
 have h1:DataW.trod enc Tryz.prog w 0 (fun _=>true) true n 3 (([c0,c1,c2].drop 1).take (Tryz.prog.cellsOf 3))=[x0,x1,x2][1]?:=hf 1 _ rfl
 have h2:DataW.trod enc Tryz.prog w 0 (fun _=>true) true n 3 (([c0,c1,c2].drop 2).take (Tryz.prog.cellsOf 3))=[x0,x1,x2][2]?:=hf 2 _ rfl
 rw[z0] at h0 h1 h2
 obtain ⟨m0,e0,f0,w0⟩:=DataW.trod_int Tryz.underlying3 (show DataW.trod enc Tryz.prog w 0 (fun _=>true) true n 3 [c0]=some x0 from h0)
 obtain ⟨m1,e1,f1,w1⟩:=DataW.trod_int Tryz.underlying3 (show DataW.trod enc Tryz.prog w 0 (fun _=>true) true n 3 [c1]=some x1 from h1)
 obtain ⟨m2,e2,f2,w2⟩:=DataW.trod_int Tryz.underlying3 (show DataW.trod enc Tryz.prog w 0 (fun _=>true) true n 3 [c2]=some x2 from h2)
 cases e0;cases e1;cases e2
 refine ⟨(m0,m1,m2),rfl,fun j q u hq hu=>?_,w0,w1,w2⟩
 match j with
 |0=>cases hq;cases hu;exact ⟨rfl,.v rfl⟩
 |1=>cases hq;cases hu;exact ⟨rfl,.v rfl⟩
 |2=>cases hq;cases hu;exact ⟨rfl,.v rfl⟩
 |j+3=>simp[qX] at hq
abbrev qW:Enc (List Int):=XY (Ky .u8)
theorem zdI {H:Type} {l:List Int} {x:DataW H} (h:DS (DI .u8) l x):Bytes l:=⟨h.1,fun n hn=>by obtain ⟨y,hy⟩:=h.mem hn;exact zib hy.2⟩
theorem zd8 {H:Type} {enc:TypeId×Value->H} {w:World} (n:Nat):RdsAt enc Tryz.prog w n 22 qW (DS (DI .u8)):=by
 cases n with
 |zero=>exact RdsAt.zero _ _ _
 |succ n=>exact RdsAt.slice Tryz.underlying22 (by kernel_rfl) (by decide) (RdsAt.int Tryz.underlying5)
noncomputable def vB (l:List (List Int)) (d w:Int):Int:=if yI l d w=0 then wS off (zu (xt l d w)) else 0
theorem zgm {D:Nat} {x:Nd} (h:Ok D x) (hb:zM D x<=134217728):ev 109 [.pv x.x] []=ok (U (wS off (zu (xw D x)))):=by
 have h1:=jl h hb
 have hl:=XN h
 have h2:=zgk (l:=xw D x) (by omega)
 dsimp only[Nd.x] at h1 ⊢
 rw[zly,h1]
 dsimp only[zv]
 rw[xg]
 dsimp only[zqR]
 rw[h2]
 rfl
theorem zgl {l:List (List Int)} (hl:zN l) (hs:Sm l) {d w b:Int} (hd:d<=1099511627775) (hw:w<=134217728):ev 58 [.pv (.sl 1 (zL l)),.pv (.agg [I d,I w,I b])] []=ok (.tup [U (vB l d w),I (yI l d w)]):=by
 rw[zlx,zlz,JU hl hs hd (by omega)]
 dsimp only[Nd.x,zh,zK,zqQ,zqP,zqR,zA,vj,yh,xu,zj,zb]
 unfold vB xt
 by_cases h0:yI l d w=0
 ·obtain ⟨ho,hb,_⟩:=Xi hl hs hw h0
  have h1:=zgm ho hb
  dsimp only[Nd.x] at h1
  rw[h0,show ((0:Int)==0)=true from rfl,if_pos rfl,if_pos rfl]
  dsimp only[zb]
  rw[h1]
  rfl
 ·rw[beq_eq_false_iff_ne.2 h0,if_neg h0]
  rfl
theorem zaF {l:List (List Int)} (hl:zN l) (hs:Sm l) {d w:Int} (hw:w<=134217728):Words (xt l d w):=by
 have h1:=zaE hl hs (d:=d) (w:=w) hw
 refine ⟨by omega,?_⟩
 unfold xt
 split
 ·rename_i h0
  obtain ⟨ho,hb,_⟩:=Xi hl hs hw h0
  exact zaG ho (by omega)
 ·exact fun x hx=>by cases hx
theorem zgZ {l:List Int} (hw:Words l) (hl:l.length<=17592186044416):ev 42 [.pv (.sl 1 (bs (zu l)))] []=ok (U (wS off (zu l))):=ji (ww l) (by rw[yT];omega)
theorem zgF {l:List (List Int)} (hl:zN l) (hs:Sm l) {d w b:Int} (hd:d<=1099511627775) (hw:w<=134217728):ev 79 [.pv (.sl 1 (zL l)),.pv (.agg [I d,I w,I b])] []=ok (.tup [U (vB l d w),I (yI l d w)]):=by
 have hcl:=zaE hl hs (d:=d) (w:=w) hw
 have hcw:=zaF hl hs (d:=d) (w:=w) hw
 rw[zjC,jA hl hs hd hw]
 dsimp only[zh,zK,zqQ,zqP,zqR,zA]
 unfold vB
 by_cases h0:yI l d w=0
 ·rw[h0,show ((0:Int) != 0)=false from rfl,if_pos rfl]
  dsimp only[zl]
  rw[Y7 _ hcw hcl]
  dsimp only[zh]
  rw[zgZ hcw hcl]
  rfl
 ·rw[yP h0,if_neg h0]
  rfl
def hA:Int:=wS off (zu [0])
def hB:Int:=wS off (zu [4294967296,5])
theorem j1:zN [[0]]/\Sm [[0]]:=Zn (by decide) (by intro x hx;simp at hx;unfold zC;omega)
theorem j2:zN [[4294967296,5]]/\Sm [[4294967296,5]]:=Zn (by decide) (by intro x hx;simp at hx;unfold zC;omega)
theorem j3:zN [[4294967298],[8589934592,5,0]]/\Sm [[4294967298],[8589934592,5,0]]:=gz (by intro s hs;simp at hs;rcases hs with rfl|rfl<;>decide) (by intro s hs x hx;simp at hs;unfold zC;rcases hs with rfl|rfl<;>(simp at hx;omega)) (by decide)
theorem zlv:ev 42 [.pv (.sl 1 [U8 0,U8 0,U8 0,U8 0,U8 0,U8 0,U8 0,U8 0])] []=ok (U hA):=by
 have h:=ji (l:=[0,0,0,0,0,0,0,0]) (by intro b hb;simp at hb;unfold zF;omega) (by decide)
 rw[show wS off [0,0,0,0,0,0,0,0]=hA from by kernel_rfl] at h
 exact h
theorem zoR {b:List Int}:∀ (c i:Nat) (rest:List Int) (l:List (List Int)),(∀ x∈rest,zF x)->xX b c i rest=some l->l.length=c/\∀ s∈l,(∀ x∈s,zC x)/\8*s.length<=rest.length:=by
 intro c
 induction c with
 |zero=>
  intro i rest l hr h
  rw[xX] at h
  split at h
  ·cases h
   exact ⟨rfl,fun s hs=>by cases hs⟩
  ·cases h
 |succ c ih=>
  intro i rest l hr h
  rw[xX] at h
  split at h
  ·rename_i h1
   cases hq:xX b c (i+1) (rest.drop (8*(yb b i).toNat)) with
   |none=>rw[hq] at h;cases h
   |some t=>
    rw[hq] at h
    cases h
    obtain ⟨h2,h3⟩:=ih (i+1) _ t (W4 hr _) hq
    refine ⟨by simp[h2],fun s hs=>?_⟩
    rcases List.mem_cons.1 hs with rfl|hs
    ·refine ⟨Y1 _ (qk hr _),?_⟩
     rw[yZ]
     omega
    ·obtain ⟨h4,h5⟩:=h3 s hs
     rw[zqO] at h5
     exact ⟨h4,by omega⟩
  ·cases h
theorem vG {b:List Int} (hb:∀ x∈b,zF x) (hl:b.length<=1099511627776) {l:List (List Int)} (h:yO b=some l):zN l/\Sm l:=by
 unfold yO at h
 split at h
 ·cases h
 split at h
 ·cases h
 split at h
 ·cases h
 split at h
 ·cases h
 rename_i h1 h2 h3 h4
 obtain ⟨h5,h6⟩:=zoR _ _ _ _ (W4 hb _) h
 have hd:(b.drop (yK (yb b 0+1).toNat)).length<=b.length:=by rw[zqO];omega
 refine ⟨⟨by omega,fun s hs=>?_⟩,fun s=>?_⟩
 ·obtain ⟨h7,h8⟩:=h6 s hs
  exact ⟨by omega,h7⟩
 ·unfold yu
  rw[List.getD_eq_getElem?_getD]
  cases hq:l[s.toNat]? with
  |none=>simp
  |some t=>
   obtain ⟨h7,h8⟩:=h6 t (List.mem_of_getElem? hq)
   rw[zqL]
   omega
noncomputable def mE (b:List Int) (d w:Int):Int:=match yO b with
 |some l=>yI l d w
 |none=>1
noncomputable def ZE (b:List Int) (d w:Int):List Int:=match yO b with
 |some l=>if yI l d w=0 then Wy (xt l d w) else []
 |none=>[]
noncomputable def mN (b:List Int) (d w:Int):Nd:=yR ((yO b).getD []) d w
open Classical in
noncomputable def vQ (a b:List Int) (d w:Int):Bool:=if mE a d w=0/\mE b d w=0 then yU (mN a d w) (mN b d w) else false
noncomputable def vT (a b:List Int) (d w:Int):Int:=if mE a d w=0 then mE b d w else mE a d w
noncomputable def mH (b:List Int) (d w:Int):Int:=match yO b with
 |some l=>vB l d w
 |none=>0
def Yf (e:Int):PV:=if e=0 then .v .nilIface else .ifc 152 (.agg [I e])
theorem Zp (e:Int):xn (.pv (Yf e))=some (decide (e=0)):=by
 unfold Yf
 split
 ·rename_i h;rw[h];rfl
 ·rename_i h;rw[decide_eq_false h];rfl
theorem WR (e:Int):ev 104 [.pv (I e)] []=ok (Yf e):=by
 rw[zmi]
 unfold Yf
 by_cases h:e=0
 ·rw[h];rfl
 ·rw[if_neg h,beq_eq_false_iff_ne.2 h];rfl
theorem WT (e:Int):ev 56 [.pv (Yf e)] []=ok (I e):=by
 rw[zmj]
 unfold Yf
 by_cases h:e=0
 ·rw[h];rfl
 ·rw[if_neg h];rfl
theorem XF {d w b:Int} (hd:d<=1000) (hw:w<=268435455):ev 55 [.pv (.agg [I d,I w,I b])] []=ok (.agg [I d,I w,I b]):=by
 rw[zmh,if_neg (by omega),if_neg (by omega)]
theorem Y5 {b:List Int} (hb:∀ x∈b,zF x) (hl:b.length<=1099511627776):ev 57 [.pv (.sl 1 (bs b))] []=ok (.tup [.sl 1 (zL ((yO b).getD [])),Yf (if yO b=none then 1 else 0)]):=by
 rw[zmk,zf0 hb hl]
 cases h:yO b with
 |none=>
  dsimp only[Zr,zh,zK,zqQ,zqP,zqR]
  rw[WR]
  rfl
 |some l=>
  dsimp only[Zr,zh,zK,zqQ,zqP,zqR]
  rw[WR]
  rfl
theorem qu {l:List (List Int)} (hl:zN l) (hs:Sm l) {d w:Int} (hw:w<=134217728) (h0:yI l d w=0):(xt l d w).length<536870912:=by
 obtain ⟨ho,hb,hx⟩:=Xi hl hs hw h0
 obtain ⟨_,_,_,_,_,_,h7,_⟩:=zis hl hs hw h0
 omega
theorem zgb {b:List Int} (hb:∀ x∈b,zF x) (hl:b.length<=1099511627776) {d w o:Int} (hd:d<=1099511627775) (hw:w<=134217728):ev 54 [.pv (.sl 1 (bs b)),.pv (.agg [I d,I w,I o])] []=some (.ret (.tup 0 (.slu 5 1 (bs (ZE b d w))) [.v .nilIface,Yf (mE b d w)]),[]):=by
 rw[zmg,Y5 hb hl]
 unfold ZE mE
 cases h:yO b with
 |none=>
  rw[if_pos rfl]
  dsimp only[zh,zK,zqQ,zqP,zqR]
  rw[Zp]
  rfl
 |some l=>
  obtain ⟨h1,h2⟩:=vG hb hl h
  rw[if_neg (by simp),zqL]
  dsimp only[zh,zK,zqQ,zqP,zqR]
  rw[Zp,zga h1 h2 hd hw]
  dsimp only[zh,zK,zqQ,zqP,zqR,zA]
  by_cases h0:yI l d w=0
  ·rw[h0,show ((0:Int) != 0)=false from rfl,gw,if_pos h0,if_pos rfl]
   dsimp only[zl]
   have hS:=zf2 (qu h1 h2 hw h0)
   have hS':ev 105 [.pv (.sl 1 [.sl 1 (ws (xt l d w))])] []=_:=hS
   rw[hS']
   dsimp only[zv]
   rw[Wn]
   dsimp only[zqR,zqQ,zqP]
   rw[xg]
   dsimp only[zqR]
   rw[WR]
   rfl
  ·rw[yP h0,if_neg h0]
   dsimp only[zb]
   rw[WR]
   rfl
theorem r7 {b:List Int} (hb:∀ x∈b,zF x) (hl:b.length<=1099511627776) {d w o:Int} (hd:d<=1000) (hw:w<=134217728):ev 16 [.pv (.sl 1 (bs b)),.pv (.agg [I d,I w,I o])] []=some (.ret (.tup 0 (.slu 5 1 (bs (ZE b d w))) [.v .nilIface,I (mE b d w)]),[]):=by
 rw[zmc,XF hd (by omega)]
 dsimp only[zh]
 rw[zgb hb hl (by omega) hw]
 dsimp only[zv]
 rw[Wn]
 dsimp only[zqR,zqQ,zqP]
 rw[xg]
 dsimp only[zqR]
 rw[WT]
 rfl
theorem jJ {b:List Int} (hb:∀ x∈b,zF x) (hl:b.length<=1099511627776) {d w o:Int} (hd:d<=1099511627775) (hw:w<=134217728):ev 59 [.pv (.sl 1 (bs b)),.pv (.agg [I d,I w,I o])] []=ok (.tup [.sl 1 (zL ((yO b).getD [])),Yf (mE b d w)]):=by
 rw[zml,Y5 hb hl]
 unfold mE
 cases h:yO b with
 |none=>
  rw[if_pos rfl]
  dsimp only[zh,zK,zqQ,zqP,zqR]
  rw[Zp]
  rfl
 |some l=>
  obtain ⟨h1,h2⟩:=vG hb hl h
  rw[if_neg (by simp),zqL]
  dsimp only[zh,zK,zqQ,zqP,zqR]
  rw[Zp,JT h1 h2 hd (by omega)]
  dsimp only[zh,zK,zqQ,zqP,zqR]
  rw[WR]
  rfl
theorem J1 {a b:List Int} (ha:∀ x∈a,zF x) (hla:a.length<=1099511627776) (hb:∀ x∈b,zF x) (hl:b.length<=1099511627776) {d w o:Int} (hd:d<=1000) (hw:w<=134217728):ev 18 [.pv (.sl 1 (bs a)),.pv (.sl 1 (bs b)),.pv (.agg [I d,I w,I o])] []=ok (.tup [Bo (vQ a b d w),I (vT a b d w)]):=by
 rw[zmd,XF hd (by omega)]
 dsimp only[zh,zhR,yh,zj,zb]
 rw[jJ ha hla (by omega) hw]
 dsimp only[zh,zK,zqQ,zqP,zqR]
 rw[Zp]
 unfold vQ vT
 by_cases h0:mE a d w=0
 ·rw[decide_eq_true h0,if_pos h0]
  dsimp only[zqR,vm,zl]
  rw[jJ hb hl (by omega) hw]
  dsimp only[zh,zK,zqQ,zqP,zqR]
  rw[Zp]
  by_cases h1:mE b d w=0
  ·obtain ⟨la,e1⟩:∃ l,yO a=some l:=by
    unfold mE at h0
    split at h0
    ·rename_i l h;exact ⟨l,h⟩
    ·cases h0
   obtain ⟨lb,e2⟩:∃ l,yO b=some l:=by
    unfold mE at h1
    split at h1
    ·rename_i l h;exact ⟨l,h⟩
    ·cases h1
   obtain ⟨a1,a2⟩:=vG ha hla e1
   obtain ⟨b1,b2⟩:=vG hb hl e2
   have e3:mE a d w=yI la d w:=by unfold mE;rw[e1]
   have e4:mE b d w=yI lb d w:=by unfold mE;rw[e2]
   rw[decide_eq_true h1,if_pos ⟨h0,h1⟩,e1,e2,zqL,zqL]
   dsimp only[zqR,vm,zl]
   rw[XE a1 a2 b1 b2 (by omega) (by omega)]
   have hE:cE la lb d w=yI lb d w:=by unfold cE;rw[if_pos (by omega)]
   have hB:cB la lb d w=yU (mN a d w) (mN b d w):=by
    unfold cB mN
    rw[if_pos (by rw[hE];omega),e1,e2]
    rfl
   rw[hE,hB,e4]
   rfl
  ·rw[decide_eq_false h1,if_neg (fun h=>h1 h.2)]
   dsimp only[zqR,uC,zb]
   rw[WT]
   rfl
 ·rw[decide_eq_false h0,if_neg h0,if_neg (fun h=>h0 h.1)]
  dsimp only[zqR,uC,zb]
  rw[WT]
  rfl
theorem jq {b:List Int} (hb:∀ x∈b,zF x) (hl:b.length<=1099511627776) {d w o:Int} (hd:d<=1000) (hw:w<=134217728):ev 17 [.pv (.sl 1 (bs b)),.pv (.agg [I d,I w,I o])] []=ok (.tup [U (mH b d w),I (mE b d w)]):=by
 rw[zme,Y5 hb hl]
 unfold mH mE
 cases h:yO b with
 |none=>
  rw[if_pos rfl]
  dsimp only[zh,zK,zqQ,zqP,zqR]
  rw[Zp]
  dsimp only[zqR]
  rw[show (!decide ((1:Int)=0))=true from rfl]
  dsimp only[zb]
  rw[WT]
  rfl
 |some l=>
  obtain ⟨h1,h2⟩:=vG hb hl h
  rw[if_neg (by simp),zqL]
  dsimp only[zh,zK,zqQ,zqP,zqR]
  rw[Zp,XF hd (by omega)]
  dsimp only[zh,zqR]
  rw[zgl h1 h2 (by omega) hw]
  rfl
theorem jh {b:List Int} (hb:∀ x∈b,zF x) (d w o:Int):∃ bl:Bool,ev 15 [.pv (.sl 1 (bs b)),.pv (.agg [I d,I w,I o])] []=ok (Bo bl)/\(bl=true->b.length<=4000/\d<=40/\w<=2000):=by
 rw[zjO,zU]
 by_cases h1:(b.length:Int)>4000
 ·rw[decide_eq_true h1]
  exact ⟨false,rfl,fun h=>by cases h⟩
 rw[decide_eq_false h1]
 by_cases h2:d>40
 ·rw[decide_eq_true h2]
  exact ⟨false,rfl,fun h=>by cases h⟩
 rw[decide_eq_false h2]
 by_cases h3:w>2000
 ·rw[decide_eq_true h3]
  exact ⟨false,rfl,fun h=>by cases h⟩
 rw[decide_eq_false h3,QA hb (by omega)]
 cases h:yO b with
 |none=>exact ⟨true,rfl,fun _=>by omega⟩
 |some l=>
  obtain ⟨h4,h5⟩:=vG hb (by omega) h
  obtain ⟨bl,e1,_⟩:=zf5 h4 d w o
  refine ⟨bl,?_,fun _=>by omega⟩
  dsimp only[Zr,zh,zK,zqQ,zqP,zqR,zA,zl]
  rw[show ((0:Int) != 0)=false from rfl]
  dsimp only[zl]
  rw[e1]
  rfl
def vF (c:Int):Int:=if c=0 then 0 else 1
def xz:List Int->Int
 |[]=>0
 |c::l=>vF c+2*xz l
def nz (l:List Int):List Int:=l.filter fun c=>!decide (c=0)
theorem zmy (c:Int):0<=vF c/\vF c<=1:=by unfold vF;split<;>omega
theorem gD:∀ (l:List Int) (c:Int),xz (l++[c])=xz l+vF c*2^l.length
 |[],c=>by simp[xz]
 |d::l,c=>by
  show vF d+2*xz (l++[c])=vF d+2*xz l+vF c*2^(l.length+1)
  rw[gD l c,Int.pow_succ,Int.mul_add,←Int.mul_assoc,Int.mul_comm 2 (vF c),Int.mul_comm (2^l.length) 2,←Int.mul_assoc]
  omega
theorem V7:∀ l:List Int,0<=xz l/\xz l<2^l.length
 |[]=>by decide
 |c::l=>by
  have:=V7 l
  have h:=zmy c
  rw[zqT,Int.pow_succ]
  unfold xz
  omega
theorem Jv {l:List Int} {i:Nat} (h:i<l.length):l.take (i+1)=l.take i++[l.getD i 0]:=by
 rw[List.take_succ_eq_append_getElem h,List.getD_eq_getElem?_getD,zqF h]
 rfl
theorem zmL:∀ (i:Fin 8) (t:Fin 128),t.val<2^i.val->IntKind.wrap .u8 (BitVec.ofInt 8 (t.val:Int) ||| BitVec.ofInt 8 (IntKind.wrap .u8 (1*2^(min (IntKind.wrap .u64 (i.val:Int)).toNat 8)))).toNat=(t.val:Int)+2^i.val:=by decide +kernel
theorem zmG:∀ i:Fin 8,yS .shl (IntKind.wrap .u64 (i.val:Int))=true:=by decide +kernel
theorem zmF {l:List Int} (h8:l.length=8):∀ (c i:Nat),i+c=8->V9 (xz (l.take i)) (.sl 1 (bs l)) 8 i=ok (U8 (xz l)):=by
 intro c
 induction c with
 |zero=>
  intro i hi
  rw[zeT,decide_eq_false (by omega),List.take_of_length_le (by omega)]
  rfl
 |succ c ih=>
  intro i hi
  have hg:(bs l)[(i:Int).toNat]? = some (U8 (l.getD i 0)):=Ya rfl (by omega)
  have hn:=ih (i+1) (by omega)
  have hr:=V7 (l.take i)
  have hp:(2:Int)^i<=128:=by
   have:(2:Nat)^i<=2^7:=Nat.pow_le_pow_right (by decide) (by omega)
   exact_mod_cast this
  rw[Jv (by omega),gD,zqN,Nat.min_eq_left (by omega)] at hn
  rw[zqN,Nat.min_eq_left (by omega)] at hr
  rw[zeT,dT ((i:Int)<8)]
  dsimp only[yt,zqR,zb]
  rw[zU,h8,dT (0<=(i:Int)),dT ((i:Int)<((8:Nat):Int)),show decide ((1:Nat)=1)=true from rfl]
  dsimp only[zj,zb]
  rw[hg]
  dsimp only[zqR,z9,zqP,wV]
  rw[zc (x:=(i:Int)+1)]
  by_cases h0:l.getD i 0=0
  ·rw[h0,show ((0:Int) != 0)=false from rfl]
   rw[h0,show vF 0=0 from rfl,Int.zero_mul,Int.add_zero] at hn
   exact hn
  ·have hq:=zmL ⟨i,by omega⟩ ⟨(xz (l.take i)).toNat,by omega⟩ (by
    have:((xz (l.take i)).toNat:Int)<((2^i:Nat):Int):=by push_cast;omega
    exact_mod_cast this)
   have hs:=zmG ⟨i,by omega⟩
   dsimp only at hq hs
   rw[show ((xz (l.take i)).toNat:Int)=xz (l.take i) by omega] at hq
   rw[yP h0,hs,hq]
   rw[show vF (l.getD i 0)=1 from if_neg h0,Int.one_mul] at hn
   exact hn
theorem zmx {l:List Int} (h8:l.length=8):∀ (c i:Nat),i+c=8->V8 (bs (nz (l.take i))) (.sl 1 (bs l)) 8 i=ok (.sl 1 (bs (nz l))):=by
 intro c
 induction c with
 |zero=>
  intro i hi
  rw[zeS,decide_eq_false (by omega),List.take_of_length_le (by omega)]
  rfl
 |succ c ih=>
  intro i hi
  have hg:(bs l)[(i:Int).toNat]? = some (U8 (l.getD i 0)):=Ya rfl (by omega)
  have hn:=ih (i+1) (by omega)
  have hf:(nz (l.take i)).length<=8:=by
   have:=List.length_filter_le (fun c:Int=>!decide (c=0)) (l.take i)
   rw[zqN] at this
   unfold nz
   omega
  rw[Jv (by omega)] at hn
  rw[zeS,dT ((i:Int)<8)]
  dsimp only[yt,zqR,zb]
  rw[zU,h8,dT (0<=(i:Int)),dT ((i:Int)<((8:Nat):Int)),show decide ((1:Nat)=1)=true from rfl]
  dsimp only[zj,zb]
  rw[hg]
  dsimp only[zqR,z9,zqP,wV]
  rw[zc (x:=(i:Int)+1)]
  by_cases h0:l.getD i 0=0
  ·rw[h0,show ((0:Int) != 0)=false from rfl]
   rw[h0,show nz (l.take i++[0])=nz (l.take i) by simp[nz]] at hn
   exact hn
  ·rw[yP h0,zU,yq (by omega) (by omega)]
   rw[show nz (l.take i++[l.getD i 0])=nz (l.take i)++[l.getD i 0] by simp only[nz,List.filter_append,List.filter_cons,decide_eq_false h0];rfl,wP] at hn
   exact hn
theorem rZ (w:Int):ev 117 [.pv (.sl 1 [U w])] []=ok (.sl 1 (bs (w8 w))):=by
 have:=YB [w] (show 1<=17592186044416 by decide)
 rw[show zu [w]=w8 w from List.append_nil _] at this
 exact this
def wg (w:Int):Int:=xz (w8 w)
def vo (w:Int):List Int:=nz (w8 w)
theorem Jt (w:Int):0<=wg w/\wg w<256:=by
 have:=V7 (w8 w)
 rw[wu,show (2:Int)^8=256 from rfl] at this
 exact this
theorem uG (w:Int):(vo w).length<=8:=by
 have:=List.length_filter_le (fun c:Int=>!decide (c=0)) (w8 w)
 rw[wu] at this
 exact this
theorem jd (w:Int):ev 115 [.pv (U w)] []=ok (U8 (wg w)):=by
 rw[zpg,rZ]
 dsimp only[zh,yt,zqR]
 rw[zU]
 exact zmF (wu w) 8 0 rfl
theorem zgq (w:Int):ev 185 [.pv (U w)] []=ok (.sl 1 (bs (vo w))):=by
 rw[zpe,rZ]
 dsimp only[zh,yt,zqR]
 rw[zU]
 exact zmx (wu w) 8 0 rfl
theorem zfZ {t:Int} (h:0<=t/\t<256):ev 188 [.pv (U8 t)] []=ok (I (pop8 t.toNat)):=by
 rw[zph,zmb]
 unfold K2
 rw[decide_eq_true h.1,decide_eq_true h.2]
 rfl
noncomputable def yV (w:Int):Bool:=decide ((pop8 (wg w).toNat:Int)≥7)
theorem zfR (w:Int):ev 114 [.pv (U w)] []=ok (Bo (yV w)):=by
 rw[zpf,jd]
 dsimp only[zh]
 rw[zfZ (Jt w)]
 rfl
def runN (p:Int->Bool):Nat->List Int->Nat
 |0,_=>0
 |_+1,[]=>0
 |k+1,x::l=>if p x=true then runN p k l+1 else 0
theorem Xq (p:Int->Bool):∀ (k:Nat) (l:List Int),runN p k l<=k/\runN p k l<=l.length
 |0,_=>⟨Nat.zero_le _,Nat.zero_le _⟩
 |_+1,[]=>⟨Nat.zero_le _,Nat.zero_le _⟩
 |k+1,x::l=>by
  have:=Xq p k l
  rw[runN,zqT]
  split<;>omega
def xQ (x:Int):Bool:=x==0
theorem zoF {l:List Int} (hl:l.length<=17592186044416):∀ (c n:Nat),n+c=255->KW (ws l) n=ok (I (n+runN xQ c (l.drop n):Nat)):=by
 intro c
 induction c with
 |zero=>
  intro n hn
  rw[zdA,zZ,dF ((n:Int)<255)]
  by_cases h:(n:Int)<l.length
  ·rw[decide_eq_true h];rfl
  ·rw[decide_eq_false h];rfl
 |succ c ih=>
  intro n hn
  rw[zdA,zZ,dT ((n:Int)<255)]
  by_cases h:n<l.length
  ·have hn1:=ih (n+1) (by omega)
   have hg:(ws l)[(n:Int).toNat]? = some (U l[n]):=vZ h
   rw[dT ((n:Int)<l.length),dT (0<=(n:Int)),hg]
   dsimp only[zj,zqR,z9,zqP,zb]
   rw[zmW,List.drop_eq_getElem_cons h,runN]
   dsimp only[zh,yL,zqR]
   by_cases h0:l[n]=0
   ·rw[h0,show ((0:Int)==0)=true from rfl,show xQ 0=true from rfl,if_pos rfl,zc (x:=(n:Int)+1)]
    rw[show n+(runN xQ c (l.drop (n+1))+1)=n+1+runN xQ c (l.drop (n+1)) by omega]
    exact hn1
   ·have h1:(l[n]==0)=false:=beq_eq_false_iff_ne.2 h0
    rw[h1,show xQ l[n]=false from h1,if_neg (by decide)]
    rfl
  ·rw[dF ((n:Int)<l.length),List.drop_eq_nil_of_le (by omega)]
   rfl
theorem zou {l:List Int} (hl:l.length<=17592186044416):∀ (c n:Nat),n+c=255->KX (ws l) n=ok (I (n+runN yV c (l.drop n):Nat)):=by
 intro c
 induction c with
 |zero=>
  intro n hn
  rw[zdB,zZ,dF ((n:Int)<255)]
  by_cases h:(n:Int)<l.length
  ·rw[decide_eq_true h];rfl
  ·rw[decide_eq_false h];rfl
 |succ c ih=>
  intro n hn
  rw[zdB,zZ,dT ((n:Int)<255)]
  by_cases h:n<l.length
  ·have hn1:=ih (n+1) (by omega)
   have hg:(ws l)[(n:Int).toNat]? = some (U l[n]):=vZ h
   rw[dT ((n:Int)<l.length),dT (0<=(n:Int)),hg]
   dsimp only[zj,zqR,z9,zqP,zb]
   rw[zfR,List.drop_eq_getElem_cons h,runN]
   dsimp only[zh,yL,zqR]
   cases h0:yV l[n] with
   |true=>
    rw[if_pos rfl,zc (x:=(n:Int)+1)]
    rw[show n+(runN yV c (l.drop (n+1))+1)=n+1+runN yV c (l.drop (n+1)) by omega]
    exact hn1
   |false=>
    rw[if_neg (by decide)]
    rfl
  ·rw[dF ((n:Int)<l.length),List.drop_eq_nil_of_le (by omega)]
   rfl
theorem zgS {l:List Int} (hl:l.length<=17592186044416):ev 186 [.pv (.sl 1 (ws l)),.pv (.v (.func (.func 187) #[] #[]))] []=ok (I (runN xQ 255 l:Nat)):=by
 rw[zmZ]
 have:=zoF hl 255 0 rfl
 rw[Nat.zero_add] at this
 exact this
theorem zgT {l:List Int} (hl:l.length<=17592186044416):ev 186 [.pv (.sl 1 (ws l)),.pv (.v (.func (.func 114) #[] #[]))] []=ok (I (runN yV 255 l:Nat)):=by
 rw[zm0]
 have:=zou hl 255 0 rfl
 rw[Nat.zero_add] at this
 exact this
noncomputable def pk:Nat->List Int->List Int
 |0,_=>[]
 |_+1,[]=>[]
 |f+1,w::l=>
  if wg w=0 then wg w::vo w++((runN xQ 255 l:Int)::pk f (l.drop (runN xQ 255 l)))
  else if wg w=255 then wg w::vo w++((runN yV 255 l:Int)::(zu (l.take (runN yV 255 l))++pk f (l.drop (runN yV 255 l))))
  else wg w::vo w++pk f l
theorem zqn (w:Int) (t:List Int):((ws (w::t)).take ((ws (w::t)).length:Int).toNat).drop 1=ws t:=by
 rw[zqK,List.take_of_length_le (Nat.le_refl _)]
 rfl
theorem zfD (t:List Int) (n:Nat):((ws t).take ((ws t).length:Int).toNat).drop (n:Int).toNat=ws (t.drop n):=by
 rw[zqK,zqK,List.take_of_length_le (Nat.le_refl _)]
 simp[ws]
theorem zqk (t:List Int) (n:Nat):((ws t).take (n:Int).toNat).drop 0=ws (t.take n):=by
 rw[zqK,List.drop_zero]
 simp[ws]
theorem XM (a:List Int) (x:Int):bs a++[U8 x]=bs (a++[x]):=by simp[bs]
theorem zmY:∀ (f:Nat) (l out:List Int),l.length<=f->out.length+16*l.length<=17592186044416->Wo (ws l) (bs out)=ok (.sl 1 (bs (out++pk f l))):=by
 intro f
 induction f with
 |zero=>
  intro l out hl ho
  have:l=[]:=List.length_eq_zero_iff.1 (by omega)
  rw[this,uP,pk,List.append_nil]
  rfl
 |succ f ih=>
  intro l out hl ho
  cases l with
  |nil=>
   rw[uP,pk,List.append_nil]
   rfl
  |cons w t=>
   rw[zqT] at hl ho
   have hz:=uG w
   have ht:=Jt w
   rw[uP,decide_eq_true (show (((ws (w::t)).length:Nat):Int)>0 by rw[zZ,zqT];omega),show (ws (w::t))[0]? = some (U w) from rfl,zqn]
   dsimp only[zqR,z9,zqP,zb]
   rw[jd]
   dsimp only[zh,z9,wV,zqR]
   rw[zgq,zU,yq (by omega) (by omega)]
   dsimp only[zh,yt,zqR,zb]
   rw[XM,zU,zU,yq (by rw[zqS];show (_+1+_)*1<=_;omega) (by rw[zqS];show _+1+_<=_;omega),decide_eq_true (show 1<=(((ws (w::t)).length:Nat):Int) by rw[zZ,zqT];omega),decide_eq_true (Int.le_refl _),←wP]
   dsimp only[zj,zb]
   have hlen:(out++[wg w]++vo w).length<=out.length+9:=by simp;omega
   by_cases h0:wg w=0
   ·have hrn:=Xq xQ 255 t
    rw[beq_iff_eq.2 h0,zgS (by omega)]
    dsimp only[zh,xV,zqR,zb]
    rw[zU,yq (by omega) (by omega),zZ,dT (0<=((runN xQ 255 t:Nat):Int)),dT (((runN xQ 255 t:Nat):Int)<=(t.length:Int)),decide_eq_true (Int.le_refl _),←zZ t,zfD,vK,show ((runN xQ 255 t:Nat):Int)%256=((runN xQ 255 t:Nat):Int) by omega,XM]
    dsimp only[zj,zb]
    rw[ih _ _ (by rw[zqO];omega) (by rw[zqS,zqO];show _+1+_<=_;omega),pk,if_pos h0]
    simp only[List.append_assoc,List.cons_append,zqU]
    rfl
   ·rw[beq_eq_false_iff_ne.2 h0]
    dsimp only[zl]
    by_cases h1:wg w=255
    ·have hrn:=Xq yV 255 t
     rw[beq_iff_eq.2 h1,zgT (by omega)]
     dsimp only[zh,xV,zqR,zb]
     have hB:=YB (t.take (runN yV 255 t)) (by rw[zqN];omega)
     have hbl:(zu (t.take (runN yV 255 t))).length=8*runN yV 255 t:=by rw[yT,zqN];omega
     rw[zU,yq (by omega) (by omega),zZ,dT (0<=((runN yV 255 t:Nat):Int)),dT (((runN yV 255 t:Nat):Int)<=(t.length:Int)),zqk,hB]
     dsimp only[zj,zh,yt,zqR,zb]
     rw[vK,show ((runN yV 255 t:Nat):Int)%256=((runN yV 255 t:Nat):Int) by omega,XM,zU,zU,hbl,yq (by rw[zqS];show (_+1+_)*1<=_;omega) (by rw[zqS];show _+1+_<=_;omega),decide_eq_true (Int.le_refl _),←wP,←zZ t,zfD]
     dsimp only[zb]
     rw[ih _ _ (by rw[zqO];omega) (by rw[zqS,zqS,zqO,hbl];show _+1+_+_<=_;omega),pk,if_neg h0,if_pos h1]
     simp only[List.append_assoc,List.cons_append,zqU]
     rfl
    ·rw[beq_eq_false_iff_ne.2 h1]
     dsimp only[zl]
     rw[ih _ _ (by omega) (by omega),pk,if_neg h0,if_neg h1]
     simp only[List.append_assoc,List.cons_append,zqU]
     rfl
noncomputable def pack (l:List Int):List Int:=pk l.length l
theorem zgv {l:List Int} (hl:l.length<=1099511627776):ev 113 [.pv (.sl 1 (ws l))] []=ok (.sl 1 (bs (pack l))):=by
 rw[zmX]
 exact zmY l.length l [] (Nat.le_refl _) (by show 0+_<=_;omega)
theorem zgu {b:List Int} (hb:∀ x∈b,zF x) (hl:b.length<=1099511627776) {n:Nat} (hn:8*n=b.length):ev 61 [.pv (.sl 1 (bs b))] []=ok (.tup [.sl 1 (bs (pack (zW n b))),I 0]):=by
 rw[zmV,JY hb hl hn]
 dsimp only[zh,zK,zqQ,zqP,zqR,yL,vm,zl]
 rw[zgv (by rw[yZ];omega)]
 rfl
def Yk:Nat->Int->Nat
 |0,_=>0
 |n+1,t=>(if t%2=1 then 1 else 0)+Yk n (t/2)
theorem pop8_eq:∀ t:Fin 256,pop8 t.val=Yk 8 (t.val:Int):=by decide +kernel
theorem znr {t:Int} (h:0<=t/\t<256):pop8 t.toNat=Yk 8 t:=by
 have:=pop8_eq ⟨t.toNat,by omega⟩
 dsimp only at this
 rw[this,Int.toNat_of_nonneg h.1]
def ud:Nat->Int->List Int->List Int
 |0,_,_=>[]
 |n+1,t,b=>if t%2=1 then b.headD 0::ud n (t/2) b.tail else 0::ud n (t/2) b
def zfh:List Int->Int
 |[]=>0
 |c::l=>c+256*zfh l
def exW (t:Int) (b:List Int):Int:=zfh (ud 8 t b)
structure Dr where
 e:Nat
 i:List Int
 o:List Int
def ZZ (t:Int) (inp out:List Int) (yF:Int):Dr :=
 if inp.length<Yk 8 t then ⟨2,inp,out⟩
 else if (out.length:Int)+8>yF then ⟨1,inp.drop (Yk 8 t),out⟩ else ⟨0,inp.drop (Yk 8 t),out++w8 (exW t inp)⟩
theorem zpS (w:Int):∀ x∈w8 w,zF x:=by
 have:=ww [w]
 rw[show zu [w]=w8 w from List.append_nil _] at this
 exact this
def zeo (t yF:Int):Nat->List Int->List Int->Dr
 |0,inp,out=>⟨0,inp,out⟩
 |n+1,inp,out=>if (ZZ t inp out yF).e=0 then zeo t yF n (ZZ t inp out yF).i (ZZ t inp out yF).o else ZZ t inp out yF
def zby (t yF:Int) (inp out:List Int):Dr:=match inp with
 |[]=>⟨2,[],out⟩
 |n::rest=>zeo t yF (if t=0 then n.toNat+1 else n.toNat) rest out
def zcI (t yF:Int) (inp out:List Int):Dr :=
 if t=255 then (if (ZZ t inp out yF).e=0 then zby t yF (ZZ t inp out yF).i (ZZ t inp out yF).o else ZZ t inp out yF) else zby t yF inp out
def V4 (t yF:Int) (inp out:List Int):Dr:=if t=0∨t=255 then zcI t yF inp out else ZZ t inp out yF
attribute [irreducible] V4 ZZ zcI
def zbI (yF:Int):Nat->List Int->List Int->Dr
 |0,inp,out=>⟨0,inp,out⟩
 |_+1,[],out=>⟨0,[],out⟩
 |f+1,t::rest,out=>if (V4 t yF rest out).e=0 then zbI yF f (V4 t yF rest out).i (V4 t yF rest out).o else V4 t yF rest out
def zj6:Nat->Int
 |0=>0
 |1=>11
 |_+2=>10
def zl1 (yF:Int):Int:=if 0>yF then 0 else yF
def gM (p:List Int) (yF:Int):Dr:=zbI (zl1 yF) p.length p []
def zfg (p:List Int) (yF:Int):Int:=zj6 (gM p yF).e
def zpE (p:List Int) (yF:Int):List Int:=if (gM p yF).e=0 then (gM p yF).o else []
theorem zoQ {b:List Int}:∀ (c i:Nat) (rest:List Int) (l:List (List Int)),xX b c i rest=some l->8 ∣ rest.length:=by
 intro c
 induction c with
 |zero=>
  intro i rest l h
  rw[xX] at h
  split at h
  ·rename_i h0
   rw[h0]
   exact ⟨0,rfl⟩
  ·cases h
 |succ c ih=>
  intro i rest l h
  rw[xX] at h
  split at h
  ·rename_i h1
   cases hq:xX b c (i+1) (rest.drop (8*(yb b i).toNat)) with
   |none=>rw[hq] at h;cases h
   |some t=>
    have:=ih _ _ _ hq
    rw[zqO] at this
    omega
  ·cases h
theorem zdP {b:List Int} {l:List (List Int)} (h:yO b=some l):8<=b.length/\8 ∣ b.length:=by
 unfold yO at h
 split at h
 ·cases h
 split at h
 ·cases h
 split at h
 ·cases h
 split at h
 ·cases h
 have h1:=zoQ _ _ _ _ h
 rw[zqO] at h1
 have h2:8 ∣ yK (yb b 0+1).toNat:=by unfold yK;split<;>omega
 have h3:(yb b 0+1).toNat=0->yK (yb b 0+1).toNat=8:=fun h=>by rw[h];rfl
 have h4:4*(yb b 0+1).toNat+4<=yK (yb b 0+1).toNat:=by unfold yK;split<;>omega
 omega
noncomputable def mP (b:List Int):List Int:=if yO b=none then [] else pack (zW (b.length/8) b)
def pE (b:List Int):Int:=if yO b=none then 1 else 0
theorem jr {b:List Int} (hb:∀ x∈b,zF x) (hl:b.length<=1099511627776):ev 19 [.pv (.sl 1 (bs b))] []=ok (.tup [.sl 1 (bs (mP b)),I (pE b)]):=by
 rw[zmf,Y5 hb hl]
 unfold mP pE
 dsimp only[zh,zK,zqQ,zqP,zqR]
 rw[Zp]
 cases h:yO b with
 |none=>
  rw[if_pos rfl,if_pos rfl]
  dsimp only[zqR]
  rw[show (!decide ((1:Int)=0))=true from rfl]
  dsimp only[zb]
  rw[WT]
  rfl
 |some l=>
  obtain ⟨h1,h2⟩:=zdP h
  rw[if_neg (by simp),if_neg (by simp),decide_eq_true (show (0:Int)=0 from rfl)]
  dsimp only[zqR,vm,zl]
  rw[zgu hb hl (n:=b.length/8) (by omega)]
  rfl
noncomputable def uE (p:List Int) (o:Int):Int:=if zfg p o≠0 then zfg p o else if yO (zpE p o)=none then 1 else 0
def mEmp:List Int:=[0,0,0,0,0,0,0,0]
def mNul:List Int:=[0,0,0,0,1,0,0,0,0,0,0,0,0,0,0,0]
def VM:List Int:=[16,1,0,0]
theorem byte_of {l:List Int} (h:(l.all fun x=>decide (0<=x)&&decide (x<=255))=true):∀ x∈l,zF x:=by
 intro x hx
 have:=List.all_eq_true.1 h x hx
 rw[Bool.and_eq_true,decide_eq_true_iff,decide_eq_true_iff] at this
 exact this
theorem Vy:∀ x∈mEmp,zF x:=byte_of rfl
theorem uD:∀ x∈mNul,zF x:=byte_of rfl
theorem zmp:∀ x∈([]:List Int),zF x:=fun x hx=>by cases hx
theorem Vz:mEmp.length<=1099511627776:=by show 8<=1099511627776;decide
theorem uF:mNul.length<=1099511627776:=by show 16<=1099511627776;decide
theorem zg8:ev 16 [.pv (.sl 1 (bs mEmp)),.pv (.agg [I 5,I 100,I 100])] []=some (.ret (.tup 0 (.slu 5 1 (bs mNul)) [.v .nilIface,I 0]),[]):=by
 rw[r7 Vy Vz (d:=5) (w:=100) (o:=100) (by decide) (by decide),show ZE mEmp 5 100=mNul from by kernel_rfl,show mE mEmp 5 100=0 from by kernel_rfl]
theorem zg9:ev 18 [.pv (.sl 1 (bs mEmp)),.pv (.sl 1 (bs mNul)),.pv (.agg [I 5,I 100,I 100])] []=ok (.tup [Bo true,I 0]):=by
 have e1:mE mEmp 5 100=0:=by kernel_rfl
 have e2:mE mNul 5 100=0:=by kernel_rfl
 have e3:mN mEmp 5 100=mN mNul 5 100:=by kernel_rfl
 rw[J1 Vy Vz uD uF (d:=5) (w:=100) (o:=100) (by decide) (by decide)]
 unfold vQ vT
 rw[if_pos ⟨e1,e2⟩,if_pos e1,e2,wR e3]
theorem zha:ev 18 [.pv (.sl 1 (bs mEmp)),.pv (.sl 1 []),.pv (.agg [I 5,I 100,I 100])] []=ok (.tup [Bo false,I 1]):=by
 have e1:mE mEmp 5 100=0:=by kernel_rfl
 have e2:mE [] 5 100=1:=by kernel_rfl
 have h:=J1 Vy Vz zmp (Nat.zero_le _) (d:=5) (w:=100) (o:=100) (by decide) (by decide)
 unfold vQ vT at h
 rw[if_neg (by rw[e2];exact fun h=>absurd h.2 (by decide)),if_pos e1,e2] at h
 exact h
theorem zhb:ev 19 [.pv (.sl 1 (bs mNul))] []=ok (.tup [.sl 1 (bs VM),I 0]):=by
 rw[jr uD uF,show mP mNul=VM from by kernel_rfl,show pE mNul=0 from by kernel_rfl]
set_option maxRecDepth 1000000 in
theorem zhc:ev 20 [.pv (.sl 1 (bs VM)),.pv (.agg [I 5,I 100,I 100])] []=ok (.tup [.sl 1 (bs mNul),I 0]):=(Qd 20 _ []).1 40 _ (by kernel_rfl)
set_option maxRecDepth 1000000 in
theorem zhd:ev 20 [.pv (.sl 1 (bs VM)),.pv (.agg [I 0,I 0,I 15])] []=ok (.tup [.sl 1 [],I 11]):=(Qd 20 _ []).1 40 _ (by kernel_rfl)
theorem zhe:ev 17 [.pv (.sl 1 (bs mEmp)),.pv (.agg [I 5,I 100,I 100])] []=ok (.tup [U hA,I 0]):=by
 rw[jq Vy Vz (d:=5) (w:=100) (o:=100) (by decide) (by decide),show mH mEmp 5 100=hA from by kernel_rfl,show mE mEmp 5 100=0 from by kernel_rfl]
theorem vN:ev 130 [.pv (Bo true)] []=ok (.tup []):=by rw[zaL];rfl
theorem wN:ev 130 [.pv (Bo false)] []=some (.pan (.ifc 174 (.agg [])),[]):=by rw[zaL];rfl
theorem zhf:ev 76 [.pv (.sl 1 []),.pv (.agg [I 5,I 100,I 100])] []=ok (Bo false):=by
 rw[qv,show decide ((([]:List PV).length:Int)>0)=false from rfl,wN]
 rfl
theorem zhg:ev 76 [.pv (.sl 1 [U 0]),.pv (.agg [I 5,I 100,I 100])] []=ok (Bo true):=by
 have hv:=qw [U 0] 1 5 100 100 (max 100 0) 0 1
 have hn:ev 190 [.pv (U 0)] []=ok (Bo true):=by rw[Ws];rfl
 have hv':ev 132 [.ptr 0 0,.pv (I 0),.pv (I 1)] [[.pv (.sl 1 [U 0]),.pv (I 1),.pv (I 5),.pv (I 100),.pv (I 100),.pv (I (max 100 0))]]=some (.ret (.pv (.tup [])),[[.pv (.sl 1 [U 0]),.pv (I 1),.pv (I 5),.pv (I 100),.pv (I 100),.pv (I (max 100 0))]]):=by
  rw[hv]
  rw[show decide ((0:Int)<=0)=true from rfl,show decide ((0:Int)<(([U 0]:List PV).length:Int))=true from rfl,show ([U 0]:List PV)[(0:Int).toNat]? = some (U 0) from rfl]
  dsimp only[zj,zqR,z9,zqP,zb]
  rw[hn]
  rfl
 rw[qv,show decide ((([U 0]:List PV).length:Int)>0)=true from rfl,vN,Qw]
 dsimp only[zv,zP,zqR,Kl,zqP,yh,zj,zb]
 rw[hv']
 rfl
theorem zlB:ev 35 [.pv (.sl 1 (bs mEmp)),.pv (.agg [I 5,I 100,I 100])] []=ok (Bo false):=by
 rw[uA,Y5 Vy Vz,XF (by decide) (by decide),show yO mEmp=some [[]] from by kernel_rfl,if_neg (by simp),zqL]
 dsimp only[zh,zK,zqQ,zqP,zqR,yt]
 rw[Zp]
 show zq (ev 76 [.pv (.sl 1 []),.pv (.agg [I 5,I 100,I 100])] []) _ _=_
 rw[zhf]
 rfl
theorem zlC:ev 35 [.pv (.sl 1 (bs mNul)),.pv (.agg [I 5,I 100,I 100])] []=ok (Bo true):=by
 rw[uA,Y5 uD uF,XF (by decide) (by decide),show yO mNul=some [[0]] from by kernel_rfl,if_neg (by simp),zqL]
 dsimp only[zh,zK,zqQ,zqP,zqR,yt]
 rw[Zp]
 show zq (ev 76 [.pv (.sl 1 [U 0]),.pv (.agg [I 5,I 100,I 100])] []) _ _=_
 rw[zhg]
 rfl
theorem Qv {l:List Int} (h:l.length<=17592186044416):ev 27 [.pv (.sl 1 (bs l)),.pv (.sl 1 (bs l))] []=ok (Bo true):=by
 have:=jf h h
 rw[wR rfl] at this
 exact this
theorem zf8:ev 33 [] []=ok (Bo true):=by
 have c1:ev 16 [.pv (.sl 1 [U8 0,U8 0,U8 0,U8 0,U8 0,U8 0,U8 0,U8 0]),.pv (.agg [I 5,I 100,I 100])] []=some (.ret (.tup 0 (.slu 5 1 [U8 0,U8 0,U8 0,U8 0,U8 1,U8 0,U8 0,U8 0,U8 0,U8 0,U8 0,U8 0,U8 0,U8 0,U8 0,U8 0]) [.v .nilIface,I 0]),[]):=zg8
 have c2:ev 18 [.pv (.sl 1 [U8 0,U8 0,U8 0,U8 0,U8 0,U8 0,U8 0,U8 0]),.pv (.sl 1 [U8 0,U8 0,U8 0,U8 0,U8 1,U8 0,U8 0,U8 0,U8 0,U8 0,U8 0,U8 0,U8 0,U8 0,U8 0,U8 0]),.pv (.agg [I 5,I 100,I 100])] []=ok (.tup [Bo true,I 0]):=zg9
 have c3:ev 18 [.pv (.sl 1 [U8 0,U8 0,U8 0,U8 0,U8 0,U8 0,U8 0,U8 0]),.pv (.sl 1 []),.pv (.agg [I 5,I 100,I 100])] []=ok (.tup [Bo false,I 1]):=zha
 have c4:ev 19 [.pv (.sl 1 [U8 0,U8 0,U8 0,U8 0,U8 1,U8 0,U8 0,U8 0,U8 0,U8 0,U8 0,U8 0,U8 0,U8 0,U8 0,U8 0])] []=ok (.tup [.sl 1 [U8 16,U8 1,U8 0,U8 0],I 0]):=zhb
 have c5:ev 20 [.pv (.sl 1 [U8 16,U8 1,U8 0,U8 0]),.pv (.agg [I 5,I 100,I 100])] []=ok (.tup [.sl 1 [U8 0,U8 0,U8 0,U8 0,U8 1,U8 0,U8 0,U8 0,U8 0,U8 0,U8 0,U8 0,U8 0,U8 0,U8 0,U8 0],I 0]):=zhc
 have c6:ev 20 [.pv (.sl 1 [U8 16,U8 1,U8 0,U8 0]),.pv (.agg [I 0,I 0,I 15])] []=ok (.tup [.sl 1 [],I 11]):=zhd
 have c7:ev 17 [.pv (.sl 1 [U8 0,U8 0,U8 0,U8 0,U8 0,U8 0,U8 0,U8 0]),.pv (.agg [I 5,I 100,I 100])] []=ok (.tup [U hA,I 0]):=zhe
 have c8:ev 35 [.pv (.sl 1 [U8 0,U8 0,U8 0,U8 0,U8 0,U8 0,U8 0,U8 0]),.pv (.agg [I 5,I 100,I 100])] []=ok (Bo false):=zlB
 have c9:ev 35 [.pv (.sl 1 [U8 0,U8 0,U8 0,U8 0,U8 1,U8 0,U8 0,U8 0,U8 0,U8 0,U8 0,U8 0,U8 0,U8 0,U8 0,U8 0]),.pv (.agg [I 5,I 100,I 100])] []=ok (Bo true):=zlC
 have s1:ev 27 [.pv (.sl 1 [U8 0,U8 0,U8 0,U8 0,U8 1,U8 0,U8 0,U8 0,U8 0,U8 0,U8 0,U8 0,U8 0,U8 0,U8 0,U8 0]),.pv (.sl 1 [U8 0,U8 0,U8 0,U8 0,U8 1,U8 0,U8 0,U8 0,U8 0,U8 0,U8 0,U8 0,U8 0,U8 0,U8 0,U8 0])] []=ok (Bo true):=Qv (l:=mNul) (by decide)
 have s2:ev 27 [.pv (.sl 1 [U8 16,U8 1,U8 0,U8 0]),.pv (.sl 1 [U8 16,U8 1,U8 0,U8 0])] []=ok (Bo true):=Qv (l:=VM) (by decide)
 rw[ziS,c1,c2,c3,c4,c7,c8,c9,zlv]
 dsimp only[zh,yL,zqR,uC,zb,xc,zK,zqQ,zqP,zA,zv]
 rw[Wn]
 dsimp only[zqR,zqQ,zqP,zA]
 rw[xg]
 dsimp only[zqR]
 rw[c5,c6,show ((0:Int)==0)=true from rfl,show ((1:Int)==1)=true from rfl,s1,s2,show (hA==hA)=true from by simp]
 dsimp only[zb,zh,yL,zqR,zK,zqQ,zqP,zA]
 rw[show ((0:Int)==0)=true from rfl,show ((11:Int)==11)=true from rfl,s1]
 rfl
theorem KR {b:List Int} {d w:Int} (h:mE b d w=0):∃ l,yO b=some l/\yI l d w=0:=by
 unfold mE at h
 split at h
 ·rename_i l h1
  exact ⟨l,h1,h⟩
 ·cases h
theorem QO {b:List Int} {d w:Int} {l:List (List Int)} (h:yO b=some l) (h0:yI l d w=0):ZE b d w=Wy (xt l d w)/\mN b d w=yR l d w/\mH b d w=vB l d w:=by
 unfold ZE mN mH
 rw[h]
 exact ⟨if_pos h0,rfl,rfl⟩
theorem zio {b:List Int} (hb:∀ x∈b,zF x) (hl:b.length<=1099511627776) {d w:Int} (hw:w<=134217728):(ZE b d w).length<=17592186044416:=by
 unfold ZE
 split
 ·rename_i l h
  split
  ·rename_i h0
   obtain ⟨h1,h2⟩:=vG hb hl h
   have:=qu h1 h2 hw h0
   rw[zoT]
   omega
  ·exact Nat.zero_le _
 ·exact Nat.zero_le _
def ch (W:List Int) (nx d w o m:Int):ze:=[[.pv (.sl 1 (ws W)),.pv (I nx),.pv (I d),.pv (I w),.pv (I o),.pv (I m)]]
theorem JZ {W:List Int} (hW:zN [W]) {nx d w o m at_ n:Int} {p:PT} (ha:0<=at_/\at_<=1099511627776) (hp:-536870912<=p.2.1/\p.2.1<=536870911) (hnx:0<=nx/\nx<=1099511627776) (hn:0<=n/\n<=1099511627776):ev 246 [.ptr 0 0,.pv (I at_),.pv (.agg (yf p)),.pv (I n)] (ch W nx d w o m)=if at_+1+p.2.1=nx/\inB [W] 0 nx n then some (.ret (.pv (I nx)),ch W (nx+n) d w o m) else some (.pan (.ifc 174 (.agg [])),ch W nx d w o m):=by
 unfold yf ch
 rw[ziF,zc (x:=at_+1),zc (x:=at_+1+p.2.1),zc (x:=nx+n)]
 by_cases h1:at_+1+p.2.1=nx
 ·have hb:=WN hW 0 nx n
  have hb':ev 286 [.pv (.sl 1 [.sl 1 (ws W)]),.pv (I 0),.pv (I nx),.pv (I n)] []=ok (Bo (decide (inB [W] 0 nx n))):=hb
  rw[h1,beq_iff_eq.2 rfl]
  dsimp only[zb]
  rw[hb']
  dsimp only[zv,zP,zqR,yL]
  by_cases h2:inB [W] 0 nx n
  ·rw[decide_eq_true h2,if_pos ⟨rfl,h2⟩,vN]
   rfl
  ·rw[decide_eq_false h2,if_neg (fun h=>h2 h.2),wN]
   rfl
 ·rw[beq_eq_false_iff_ne.2 h1,if_neg (fun h=>h1 h.1)]
  dsimp only[zl]
  rw[wN]
  rfl
theorem Qy {W:List Int} {nx d w o m c:Int} (hm:0<=m/\m<=1099511627776) (hc:0<=c/\c<=1099511627776):ev 247 [.ptr 0 0,.pv (I c)] (ch W nx d w o m)=if c>m then some (.pan (.ifc 174 (.agg [])),ch W nx d w o m) else some (.ret (.pv (.tup [])),ch W nx d w o (m-c)):=by
 unfold ch
 rw[ziD,r8 m c (by omega)]
 dsimp only[zv,zP,zqR,zK,zqQ,zqP,zA,Zd,yh,zj,zb]
 by_cases h:c>m
 ·rw[if_pos h,if_pos h,if_pos h,show ((8:Int)==0)=false from rfl,wN]
  rfl
 ·rw[if_neg h,if_neg h,if_neg h,show ((0:Int)==0)=true from rfl,vN]
  rfl
def p5:PT:=(0,0,1,0,0,0,false,0,0,0)
abbrev CS:=Int×Int
def y4 (F:Int->CS->Option CS):Nat->Int->CS->Option CS
 |0,_,s=>some s
 |c+1,a,s=>(F a s).bind (y4 F c (a+1))
def ZF (F:Int->CS->Option CS) (W:List Int) (a:Int) (p:PT) (s:CS):Option CS :=
 if p.2.2.1+p.2.2.2.1=0 then (if p.2.1=-1 then some s else none)
 else if a+1+p.2.1=s.1/\inB [W] 0 s.1 (p.2.2.1+p.2.2.2.1)/\p.2.2.1+p.2.2.2.1<=s.2/\(p.2.2.1=0∨wd [W] 0 (s.1+p.2.2.1-1)≠0)/\(p.2.2.2.1=0∨wd [W] 0 (s.1+p.2.2.1+p.2.2.2.1-1)≠0)
  then y4 F p.2.2.2.1.toNat (s.1+p.2.2.1) (s.1+(p.2.2.1+p.2.2.2.1),s.2-(p.2.2.1+p.2.2.2.1)) else none
def Vs (W:List Int) (d w o:Int) (res:Option (Out×ze)):Option CS->Prop
 |some s=>res=some (.ret (.pv (.tup [])),ch W s.1 d w o s.2)
 |none=>∃ s:CS,res=some (.pan (.ifc 174 (.agg [])),ch W s.1 d w o s.2)
def Rg (W:List Int) (s:CS):Prop:=(0<=s.1/\s.1<=W.length)/\0<=s.2/\s.2<=1099511627776
def VF (W:List Int) (d w o k:Int) (F:Int->CS->Option CS):Prop:=∀ (a:Int) (s:CS),0<=a->a<(W.length:Int)->Rg W s->Vs W d w o (ev 132 [.ptr 0 0,.pv (I a),.pv (I k)] (ch W s.1 d w o s.2)) (F a s)/\∀ s',F a s=some s'->Rg W s'
theorem Km {W:List Int} {F:Int->CS->Option CS} (hF:∀ (a:Int) (s:CS),0<=a->a<(W.length:Int)->Rg W s->∀ s',F a s=some s'->Rg W s'):∀ (c:Nat) (a:Int) (s:CS),0<=a->a+c<=W.length->Rg W s->∀ s',y4 F c a s=some s'->Rg W s':=by
 intro c
 induction c with
 |zero=>intro a s ha hc hs s' h;cases h;exact hs
 |succ c ih=>
  intro a s ha hc hs s' h
  rw[y4] at h
  cases h1:F a s with
  |none=>rw[h1] at h;cases h
  |some t=>
   rw[h1] at h
   exact ih (a+1) t (by omega) (by omega) (hF a s ha (by omega) hs t h1) s' h
theorem zkd {W:List Int} (hl:W.length<=1099511627776) {d w o k:Int} (hk:0<=k/\k<=1099511627776) {F:Int->CS->Option CS} (hF:VF W d w o (k+1) F) {n:Nat} {a:Int} (ha:0<=a) (hn:a+n<=W.length):∀ (c i:Nat) (s:CS),i+c=n->Rg W s->
  Vs W d w o (QP a k n i (.sl 1 (ws W)) (I s.1) (I d) (I w) (I o) (I s.2)) (y4 F c (a+i) s):=by
 intro c
 induction c with
 |zero=>
  intro i s hi hs
  rw[zaK,decide_eq_false (by omega)]
  rfl
 |succ c ih=>
  intro i s hi hs
  obtain ⟨h1,h2⟩:=hF (a+i) s (by omega) (by omega) hs
  unfold ch at h1
  rw[zaK,dT ((i:Int)<n),zc (x:=a+(i:Int)),zc (x:=k+1),zc (x:=(i:Int)+1),y4]
  cases h3:F (a+i) s with
  |none=>
   rw[h3] at h1
   obtain ⟨t,ht⟩:=h1
   unfold ch at ht
   rw[ht]
   exact ⟨t,rfl⟩
  |some t=>
   rw[h3] at h1
   have h1':ev 132 [.ptr 0 0,.pv (I (a+i)),.pv (I (k+1))] [[.pv (.sl 1 (ws W)),.pv (I s.1),.pv (I d),.pv (I w),.pv (I o),.pv (I s.2)]]=some (.ret (.pv (.tup [])),ch W t.1 d w o t.2):=h1
   unfold ch at h1'
   rw[h1']
   have:=ih (i+1) t (by omega) (h2 t h3)
   rw[show a+((i+1:Nat):Int)=a+i+1 by push_cast;omega] at this
   exact this
theorem J3 {W:List Int} (hl:W.length<=1099511627776) {d w o k:Int} (hk:0<=k/\k<=1099511627776) {F:Int->CS->Option CS} (hF:VF W d w o (k+1) F) {n a:Int} (ha:0<=a) (hn0:0<=n) (hn:a+n<=W.length) {s:CS} (hs:Rg W s):Vs W d w o (ev 248 [.ptr 0 0,.pv (I a),.pv (I n),.pv (I k)] (ch W s.1 d w o s.2)) (y4 F n.toNat a s):=by
 unfold ch
 rw[ziG]
 have:=zkd hl hk hF ha (n:=n.toNat) (by omega) n.toNat 0 s (by omega) hs
 rw[show a+((0:Nat):Int)=a by simp,show ((n.toNat:Nat):Int)=n by omega] at this
 exact this
theorem wv {W:List Int} {i:Int} (h0:0<=i) (h:i<W.length):(ws W)[i.toNat]? = some (U (wd [W] 0 i)):=gT h0 h
theorem Zm {W:List Int} (hl:W.length<=1099511627776) (hw:∀ x∈W,zC x):zN [W]:=⟨show 1<=9223372036854775807 by decide,fun s hs=>by rw[List.mem_singleton.1 hs];exact ⟨by omega,hw⟩⟩
theorem vC {W:List Int} {a n:Int} (h:inB [W] 0 a n):0<=a/\0<=n/\a+n<=W.length:=⟨h.2.2.1,h.2.2.2.1,h.2.2.2.2⟩
theorem zgh {W:List Int} (hl:W.length<=1099511627776) (hw:∀ x∈W,zC x) {d w o k:Int} (hk:0<=k/\k<=1099511627776) {F:Int->CS->Option CS} (hF:VF W d w o (k+1) F) {a:Int} (ha:0<=a/\a<W.length) {p:PT} (hp:(-536870912<=p.2.1/\p.2.1<=536870911)/\(0<=p.2.2.1/\p.2.2.1<=65535)/\(0<=p.2.2.2.1/\p.2.2.2.1<=65535)) {s:CS} (hs:Rg W s) :
  Vs W d w o (ev 193 [.ptr 0 0,.pv (I a),.pv (I k),.pv (.agg (yf p))] (ch W s.1 d w o s.2)) (ZF F W a p s)/\∀ s',ZF F W a p s=some s'->Rg W s':=by
 obtain ⟨hp1,hp2,hp3⟩:=hp
 obtain ⟨hs1,hs2,hs3⟩:=hs
 have hS:=Zm hl hw
 have hrg:∀ s',ZF F W a p s=some s'->Rg W s':=by
  intro s' h
  unfold ZF at h
  split at h
  ·split at h
   ·cases h;exact ⟨hs1,hs2,hs3⟩
   ·cases h
  ·split at h
   ·rename_i h1
    obtain ⟨_,h2,h3,_⟩:=h1
    have:=vC h2
    exact Km (fun a s h1 h2 h3=>(hF a s h1 h2 h3).2) _ _ _ (by omega) (by omega) ⟨by dsimp only;omega,by dsimp only;omega,by dsimp only;omega⟩ s' h
   ·cases h
 refine ⟨?_,hrg⟩
 have hE:ev 193 [.ptr 0 0,.pv (I a),.pv (I k),.pv (.agg (yf p))] (ch W s.1 d w o s.2)=_:=ziH (ws W) s.1 d w o s.2 a k p.1 p.2.1 p.2.2.1 p.2.2.2.1 p.2.2.2.2.1 p.2.2.2.2.2.1 p.2.2.2.2.2.2.1 p.2.2.2.2.2.2.2.1 p.2.2.2.2.2.2.2.2.1 p.2.2.2.2.2.2.2.2.2
 have hO:=JZ hS (nx:=s.1) (d:=d) (w:=w) (o:=o) (m:=s.2) (at_:=a) (n:=p.2.2.1+p.2.2.2.1) (p:=p) (by omega) hp1 (by omega) (by omega)
 unfold yf ch at hO
 rw[hE,zc (x:=p.2.2.1+p.2.2.2.1)]
 unfold ZF
 by_cases h0:p.2.2.1+p.2.2.2.1=0
 ·rw[beq_iff_eq.2 h0,if_pos h0]
  dsimp only[zb]
  by_cases h1:p.2.1=-1
  ·rw[beq_iff_eq.2 h1,if_pos h1,vN]
   rfl
  ·rw[beq_eq_false_iff_ne.2 h1,if_neg h1,wN]
   exact ⟨s,rfl⟩
 rw[beq_eq_false_iff_ne.2 h0,if_neg h0]
 dsimp only[zl]
 by_cases h1:a+1+p.2.1=s.1/\inB [W] 0 s.1 (p.2.2.1+p.2.2.2.1)
 ·have hb:=vC h1.2
  have hC:=Qy (W:=W) (nx:=s.1+(p.2.2.1+p.2.2.2.1)) (d:=d) (w:=w) (o:=o) (m:=s.2) (c:=p.2.2.1+p.2.2.2.1) (by omega) (by omega)
  unfold ch at hC
  rw[if_pos h1] at hO
  rw[hO]
  dsimp only[xP,zA,zqR]
  rw[hC]
  by_cases h2:p.2.2.1+p.2.2.2.1>s.2
  ·rw[if_pos h2,if_neg (fun h=>by omega)]
   exact ⟨(s.1+(p.2.2.1+p.2.2.2.1),s.2),rfl⟩
  have hP:=J3 hl hk hF (n:=p.2.2.2.1) (a:=s.1+p.2.2.1) (by omega) (by omega) (by omega) (s:=(s.1+(p.2.2.1+p.2.2.2.1),s.2-(p.2.2.1+p.2.2.2.1))) ⟨by dsimp only;omega,by dsimp only;omega,by dsimp only;omega⟩
  have fin:Vs W d w o (xC (ev 248 [.ptr 0 0,.pv (I (s.1+p.2.2.1)),.pv (I p.2.2.2.1),.pv (I k)] [[.pv (.sl 1 (ws W)),.pv (I (s.1+(p.2.2.1+p.2.2.2.1))),.pv (I d),.pv (I w),.pv (I o),.pv (I (s.2-(p.2.2.1+p.2.2.2.1)))]]) (fun p_55 p_44 p_46 p_48 p_50 p_52 p_54=>some (.ret (.pv (.tup [])),[[(.pv p_44),(.pv p_46),(.pv p_48),(.pv p_50),(.pv p_52),(.pv p_54)]]))) (y4 F p.2.2.2.1.toNat (s.1+p.2.2.1) (s.1+(p.2.2.1+p.2.2.2.1),s.2-(p.2.2.1+p.2.2.2.1))):=by
   cases hq:y4 F p.2.2.2.1.toNat (s.1+p.2.2.1) (s.1+(p.2.2.1+p.2.2.2.1),s.2-(p.2.2.1+p.2.2.2.1)) with
   |none=>
    rw[hq] at hP
    obtain ⟨t,ht⟩:=hP
    unfold ch at ht
    dsimp only at ht
    rw[ht]
    exact ⟨t,rfl⟩
   |some t=>
    rw[hq] at hP
    have hP':ev 248 [.ptr 0 0,.pv (I (s.1+p.2.2.1)),.pv (I p.2.2.2.1),.pv (I k)] [[.pv (.sl 1 (ws W)),.pv (I (s.1+(p.2.2.1+p.2.2.2.1))),.pv (I d),.pv (I w),.pv (I o),.pv (I (s.2-(p.2.2.1+p.2.2.2.1)))]]=some (.ret (.pv (.tup [])),ch W t.1 d w o t.2):=hP
    rw[hP']
    rfl
  rw[if_neg h2]
  dsimp only[xP,yt,zqR]
  rw[zc (x:=s.1+p.2.2.1),zc (x:=s.1+p.2.2.1+p.2.2.2.1)]
  by_cases hd:p.2.2.1=0
  ·have hq:p.2.2.2.1≠0:=fun h=>h0 (by omega)
   rw[beq_iff_eq.2 hd,beq_eq_false_iff_ne.2 hq,vN]
   dsimp only[zv,zP,zqR,zl,zb]
   rw[zc (x:=s.1+p.2.2.1+p.2.2.2.1-1),zZ,dT (0<=s.1+p.2.2.1+p.2.2.2.1-1),dT (s.1+p.2.2.1+p.2.2.2.1-1<(W.length:Int)),wv (by omega) (by omega),show decide ((1:Nat)=1)=true from rfl]
   dsimp only[zj,zqR,z9,zqP,xc,zb]
   by_cases h3:wd [W] 0 (s.1+p.2.2.1+p.2.2.2.1-1)=0
   ·rw[h3,show ((0:Int) != 0)=false from rfl,wN,if_neg (fun h=>by rcases h.2.2.2.2 with x|x;exact hq x;exact x rfl)]
    exact ⟨(s.1+(p.2.2.1+p.2.2.2.1),s.2-(p.2.2.1+p.2.2.2.1)),rfl⟩
   ·rw[yP h3,vN,if_pos ⟨h1.1,h1.2,by omega,.inl hd,.inr h3⟩]
    exact fin
  ·rw[beq_eq_false_iff_ne.2 hd]
   dsimp only[zl]
   rw[zc (x:=s.1+p.2.2.1-1),zZ,dT (0<=s.1+p.2.2.1-1),dT (s.1+p.2.2.1-1<(W.length:Int)),wv (by omega) (by omega),show decide ((1:Nat)=1)=true from rfl]
   dsimp only[zj,zqR,z9,zqP,xc,zb]
   by_cases h3:wd [W] 0 (s.1+p.2.2.1-1)=0
   ·rw[h3,show ((0:Int) != 0)=false from rfl,wN,if_neg (fun h=>by rcases h.2.2.2.1 with x|x;exact hd x;exact x rfl)]
    exact ⟨(s.1+(p.2.2.1+p.2.2.2.1),s.2-(p.2.2.1+p.2.2.2.1)),rfl⟩
   rw[yP h3,vN]
   dsimp only[zv,zP,zqR]
   by_cases hq:p.2.2.2.1=0
   ·rw[beq_iff_eq.2 hq]
    dsimp only[zb]
    rw[if_pos ⟨h1.1,h1.2,by omega,.inr h3,.inl hq⟩]
    exact fin
   ·rw[beq_eq_false_iff_ne.2 hq]
    dsimp only[zl]
    rw[zc (x:=s.1+p.2.2.1+p.2.2.2.1-1),dT (0<=s.1+p.2.2.1+p.2.2.2.1-1),dT (s.1+p.2.2.1+p.2.2.2.1-1<(W.length:Int)),wv (by omega) (by omega)]
    dsimp only[zj,zqR,z9,zqP,xc,zb]
    by_cases h4:wd [W] 0 (s.1+p.2.2.1+p.2.2.2.1-1)=0
    ·rw[h4,show ((0:Int) != 0)=false from rfl,wN,if_neg (fun h=>by rcases h.2.2.2.2 with x|x;exact hq x;exact x rfl)]
     exact ⟨(s.1+(p.2.2.1+p.2.2.2.1),s.2-(p.2.2.1+p.2.2.2.1)),rfl⟩
    ·rw[yP h4,vN,if_pos ⟨h1.1,h1.2,by omega,.inr h3,.inr h4⟩]
     exact fin
 ·rw[if_neg h1] at hO
  rw[hO,if_neg (fun h=>h1 ⟨h.1,h.2.1⟩)]
  exact ⟨s,rfl⟩
def ZK (e c:Int) (b:List Int):Prop:=(trimB e c b++List.replicate b.length 0).take b.length=b
instance (e c:Int) (b:List Int):Decidable (ZK e c b):=by unfold ZK;infer_instance
def xk (W:List Int) (a n:Int):List Int:=(W.drop a.toNat).take n.toNat
def Zf (F:Int->CS->Option CS) (W:List Int) (a:Int) (p:PT) (s:CS):Option CS :=
 if a+1+p.2.1=s.1/\inB [W] 0 s.1 (zn p.2.2.2.2.1 p.2.2.2.2.2.1)/\zn p.2.2.2.2.1 p.2.2.2.2.2.1<=s.2 then
  (if p.2.2.2.2.1=6 then y4 F (zn p.2.2.2.2.1 p.2.2.2.2.2.1).toNat s.1 (s.1+zn p.2.2.2.2.1 p.2.2.2.2.2.1,s.2-zn p.2.2.2.2.1 p.2.2.2.2.2.1)
   else if ZK p.2.2.2.2.1 p.2.2.2.2.2.1 (zu (xk W s.1 (zn p.2.2.2.2.1 p.2.2.2.2.2.1))) then some (s.1+zn p.2.2.2.2.1 p.2.2.2.2.2.1,s.2-zn p.2.2.2.2.1 p.2.2.2.2.2.1) else none)
 else none
theorem zfE {W:List Int} {a n:Int} (ha:0<=a) (hn:0<=n):((ws W).take (a+n).toNat).drop a.toNat=ws (xk W a n):=by
 unfold xk
 rw[ws,←List.map_take,←List.map_drop,show (a+n).toNat=a.toNat+n.toNat by omega,List.drop_take,Nat.add_sub_cancel_left]
 rfl
theorem ql {e c:Int} (he:0<=e/\e<=5) (hc:0<=c/\c<=536870911):z5 e c<=8*zn e c:=by
 unfold z5 zn
 rw[if_neg (by omega)]
 omega
theorem zgf {W:List Int} (hl:W.length<=1099511627776) (hw:∀ x∈W,zC x) {d w o k:Int} (hk:0<=k/\k<=1099511627776) {F:Int->CS->Option CS} (hF:VF W d w o (k+1) F) {a:Int} (ha:0<=a/\a<W.length) {p:PT} (hp:(-536870912<=p.2.1/\p.2.1<=536870911)/\(0<=p.2.2.2.2.1/\p.2.2.2.2.1<=6)/\(0<=p.2.2.2.2.2.1/\p.2.2.2.2.2.1<=536870911)) {s:CS} (hs:Rg W s) :
  Vs W d w o (ev 194 [.ptr 0 0,.pv (I a),.pv (I k),.pv (.agg (yf p))] (ch W s.1 d w o s.2)) (Zf F W a p s)/\∀ s',Zf F W a p s=some s'->Rg W s':=by
 obtain ⟨hp1,hp2,hp3⟩:=hp
 obtain ⟨hs1,hs2,hs3⟩:=hs
 have hS:=Zm hl hw
 have hwr:=Zy (e:=p.2.2.2.2.1) hp3
 have hrg:∀ s',Zf F W a p s=some s'->Rg W s':=by
  intro s' h
  unfold Zf at h
  split at h
  ·rename_i h1
   obtain ⟨_,h2,h3⟩:=h1
   have:=vC h2
   have hr:Rg W (s.1+zn p.2.2.2.2.1 p.2.2.2.2.2.1,s.2-zn p.2.2.2.2.1 p.2.2.2.2.2.1):=⟨by dsimp only;omega,by dsimp only;omega,by dsimp only;omega⟩
   split at h
   ·exact Km (fun a s h1 h2 h3=>(hF a s h1 h2 h3).2) _ _ _ (by omega) (by omega) hr s' h
   ·split at h
    ·cases h;exact hr
    ·cases h
  ·cases h
 refine ⟨?_,hrg⟩
 have hE:ev 194 [.ptr 0 0,.pv (I a),.pv (I k),.pv (.agg (yf p))] (ch W s.1 d w o s.2)=_:=zaJ (ws W) s.1 d w o s.2 a k p.1 p.2.1 p.2.2.1 p.2.2.2.1 p.2.2.2.2.1 p.2.2.2.2.2.1 p.2.2.2.2.2.2.1 p.2.2.2.2.2.2.2.1 p.2.2.2.2.2.2.2.2.1 p.2.2.2.2.2.2.2.2.2
 have hO:=JZ hS (nx:=s.1) (d:=d) (w:=w) (o:=o) (m:=s.2) (at_:=a) (n:=zn p.2.2.2.2.1 p.2.2.2.2.2.1) (p:=p) (by omega) hp1 (by omega) (by omega)
 unfold yf ch at hO
 have h7:¬p.2.2.2.2.1=7:=by omega
 rw[hE,beq_eq_false_iff_ne.2 h7]
 dsimp only[zl]
 rw[JX (by omega) hp3]
 dsimp only[zv,zP,zqR,zA]
 unfold Zf
 by_cases h1:a+1+p.2.1=s.1/\inB [W] 0 s.1 (zn p.2.2.2.2.1 p.2.2.2.2.2.1)
 ·have hb:=vC h1.2
  have hC:=Qy (W:=W) (nx:=s.1+zn p.2.2.2.2.1 p.2.2.2.2.2.1) (d:=d) (w:=w) (o:=o) (m:=s.2) (c:=zn p.2.2.2.2.1 p.2.2.2.2.2.1) (by omega) (by omega)
  unfold ch at hC
  rw[if_pos h1] at hO
  rw[hO]
  dsimp only[xP,zA,xV,zqR]
  rw[hC]
  by_cases h2:zn p.2.2.2.2.1 p.2.2.2.2.2.1>s.2
  ·rw[if_pos h2,if_neg (fun h=>by omega)]
   exact ⟨(s.1+zn p.2.2.2.2.1 p.2.2.2.2.2.1,s.2),rfl⟩
  rw[if_neg h2,if_pos ⟨h1.1,h1.2,by omega⟩]
  dsimp only[xP,yt,zqR]
  by_cases h6:p.2.2.2.2.1=6
  ·rw[beq_iff_eq.2 h6,if_pos h6]
   dsimp only[zb]
   have hP:=J3 hl hk hF (n:=zn p.2.2.2.2.1 p.2.2.2.2.2.1) (a:=s.1) (by omega) (by omega) (by omega) (s:=(s.1+zn p.2.2.2.2.1 p.2.2.2.2.2.1,s.2-zn p.2.2.2.2.1 p.2.2.2.2.2.1)) ⟨by dsimp only;omega,by dsimp only;omega,by dsimp only;omega⟩
   cases hq:y4 F (zn p.2.2.2.2.1 p.2.2.2.2.2.1).toNat s.1 (s.1+zn p.2.2.2.2.1 p.2.2.2.2.2.1,s.2-zn p.2.2.2.2.1 p.2.2.2.2.2.1) with
   |none=>
    rw[hq] at hP
    obtain ⟨t,ht⟩:=hP
    unfold ch at ht
    dsimp only at ht
    rw[ht]
    exact ⟨t,rfl⟩
   |some t=>
    rw[hq] at hP
    have hP':ev 248 [.ptr 0 0,.pv (I s.1),.pv (I (zn p.2.2.2.2.1 p.2.2.2.2.2.1)),.pv (I k)] [[.pv (.sl 1 (ws W)),.pv (I (s.1+zn p.2.2.2.2.1 p.2.2.2.2.2.1)),.pv (I d),.pv (I w),.pv (I o),.pv (I (s.2-zn p.2.2.2.2.1 p.2.2.2.2.2.1))]]=some (.ret (.pv (.tup [])),ch W t.1 d w o t.2):=hP
    rw[hP']
    rfl
  ·rw[beq_eq_false_iff_ne.2 h6,if_neg h6]
   dsimp only[zl]
   have hcl:(xk W s.1 (zn p.2.2.2.2.1 p.2.2.2.2.2.1)).length=(zn p.2.2.2.2.1 p.2.2.2.2.2.1).toNat:=by
    unfold xk
    rw[zqN,zqO]
    omega
   have hbl:(zu (xk W s.1 (zn p.2.2.2.2.1 p.2.2.2.2.2.1))).length=8*(zn p.2.2.2.2.1 p.2.2.2.2.2.1).toNat:=by rw[yT,hcl]
   have hB:=YB (xk W s.1 (zn p.2.2.2.2.1 p.2.2.2.2.2.1)) (by omega)
   have hbf:=ql (e:=p.2.2.2.2.1) (c:=p.2.2.2.2.2.1) (by omega) hp3
   have hT:=Qx (e:=p.2.2.2.2.1) (c:=p.2.2.2.2.2.1) (b:=zu (xk W s.1 (zn p.2.2.2.2.1 p.2.2.2.2.2.1))) (by omega) hp3 (ww _) (by rw[hbl];omega)
   have htl:=gH p.2.2.2.2.1 p.2.2.2.2.2.1 (zu (xk W s.1 (zn p.2.2.2.2.1 p.2.2.2.2.2.1)))
   have htb:=WE p.2.2.2.2.1 p.2.2.2.2.2.1 (zu (xk W s.1 (zn p.2.2.2.2.1 p.2.2.2.2.2.1))) (ww _)
   rw[zc (x:=s.1+zn p.2.2.2.2.1 p.2.2.2.2.2.1),zZ,dT (0<=s.1),dT (s.1<=s.1+zn p.2.2.2.2.1 p.2.2.2.2.2.1),dT (s.1+zn p.2.2.2.2.1 p.2.2.2.2.2.1<=(W.length:Int)),zfE (by omega) (by omega),show decide ((1:Nat)=1)=true from rfl]
   dsimp only[zj,zb]
   rw[hB]
   dsimp only[zv,zP,zqR,yt]
   rw[hT]
   dsimp only[zv]
   rw[xg]
   dsimp only[zqR]
   have e1:∀ bb tb:List Int,((bs tb++List.replicate (((bs bb).length:Nat):Int).toNat (PV.v (.int .u8 0))).take (((bs bb).length:Nat):Int).toNat).drop 0=bs ((tb++List.replicate bb.length 0).take bb.length):=by
    intro bb tb
    rw[zqK,List.drop_zero,zU]
    simp[bs]
   have hz:∀ bb:List Int,(List.replicate (((bs bb).length:Nat):Int).toNat (PV.v (.int .u8 0))).length=bb.length:=fun bb=>by rw[List.length_replicate,zqK,zU]
   rw[dT (0<=(((bs (zu (xk W s.1 (zn p.2.2.2.2.1 p.2.2.2.2.2.1)))).length:Nat):Int)),decide_eq_true (show (((bs (zu (xk W s.1 (zn p.2.2.2.2.1 p.2.2.2.2.2.1)))).length:Nat):Int)<=140737488355328 by rw[zU,hbl];omega),yq (by rw[hz,zU,hbl];omega) (by rw[hz,zU,hbl];omega),e1,decide_eq_true (show (((bs (zu (xk W s.1 (zn p.2.2.2.2.1 p.2.2.2.2.2.1)))).length:Nat):Int)<=(((bs (trimB p.2.2.2.2.1 p.2.2.2.2.2.1 (zu (xk W s.1 (zn p.2.2.2.2.1 p.2.2.2.2.2.1))))++List.replicate (((bs (zu (xk W s.1 (zn p.2.2.2.2.1 p.2.2.2.2.2.1)))).length:Nat):Int).toNat (PV.v (.int .u8 0))).length:Nat):Int) by rw[zqS,hz,zU];omega),VV,VV]
   dsimp only[zj,zqR,zb]
   by_cases h3:ZK p.2.2.2.2.1 p.2.2.2.2.2.1 (zu (xk W s.1 (zn p.2.2.2.2.1 p.2.2.2.2.2.1)))
   ·rw[if_pos h3]
    unfold ZK at h3
    rw[h3,beq_iff_eq.2 rfl,vN]
    rfl
   ·rw[if_neg h3]
    unfold ZK at h3
    rw[beq_eq_false_iff_ne.2 (fun e=>h3 (zeJ (fun x hx=>?_) (ww _) e)),wN]
    ·exact ⟨(s.1+zn p.2.2.2.2.1 p.2.2.2.2.2.1,s.2-zn p.2.2.2.2.1 p.2.2.2.2.2.1),rfl⟩
    ·rcases List.mem_append.1 (List.mem_of_mem_take hx) with h|h
     ·exact htb x h
     ·rw[List.eq_of_mem_replicate h];unfold zF;omega
 ·rw[if_neg h1] at hO
  rw[hO,if_neg (fun h=>h1 ⟨h.1,h.2.1⟩)]
  exact ⟨s,rfl⟩
def xM (f:Nat->Bool):Nat->Nat->Bool->Bool
 |0,_,b=>b
 |c+1,i,b=>xM f c (i+1) (b||f i)
theorem VT (f:Nat->Bool):∀ (c i:Nat) (b:Bool),xM f c i b=true↔b=true∨∃ j,i<=j/\j<i+c/\f j=true
 |0,i,b=>⟨fun h=>.inl h,fun h=>h.elim id fun ⟨j,h1,h2,_⟩=>absurd h2 (by omega)⟩
 |c+1,i,b=>by
  rw[xM,VT f c (i+1)]
  constructor
  ·rintro (h|⟨j,h1,h2,h3⟩)
   ·rcases (Bool.or_eq_true b (f i)).mp h with h|h
    ·exact .inl h
    ·exact .inr ⟨i,Nat.le_refl _,by omega,h⟩
   ·exact .inr ⟨j,by omega,by omega,h3⟩
  ·rintro (h|⟨j,h1,h2,h3⟩)
   ·exact .inl (by rw[h];rfl)
   ·by_cases e:j=i
    ·subst e;exact .inl (by rw[h3];cases b<;>rfl)
    ·exact .inr ⟨j,by omega,by omega,h3⟩
def wQ (G:Nat->CS->Option CS):Nat->Nat->CS->Option CS
 |0,_,s=>some s
 |c+1,i,s=>(G i s).bind (wQ G c (i+1))
def xf (W:List Int) (st sz dd:Int) (i:Nat):Bool:=wd [W] 0 (st+i*sz+dd-1) != 0
def Vq (F:Int->CS->Option CS) (W:List Int) (t:PT) (c:Int) (s:CS):Option CS :=
 if t.2.2.1+t.2.2.2.1=0 then (if t.2.1<=s.2-(c+1) then some (s.1+(c+1),s.2-(c+1)-t.2.1) else none)
 else if (t.2.2.1=0∨xM (xf W (s.1+1) (t.2.2.1+t.2.2.2.1) t.2.2.1) t.2.1.toNat 0 false=true)/\(t.2.2.2.1=0∨xM (xf W (s.1+1) (t.2.2.1+t.2.2.2.1) (t.2.2.1+t.2.2.2.1)) t.2.1.toNat 0 false=true)
  then wQ (fun i=>y4 F t.2.2.2.1.toNat (s.1+1+i*(t.2.2.1+t.2.2.2.1)+t.2.2.1)) t.2.1.toNat 0 (s.1+(c+1),s.2-(c+1)) else none
def vz (F:Int->CS->Option CS) (W:List Int) (a:Int) (p:PT) (s:CS):Option CS :=
 if a+1+p.2.1=s.1/\inB [W] 0 s.1 (p.2.2.2.2.2.1+1)/\((zk (wd [W] 0 s.1)).1=0/\0<=(zk (wd [W] 0 s.1)).2.1/\(zk (wd [W] 0 s.1)).2.1*((zk (wd [W] 0 s.1)).2.2.1+(zk (wd [W] 0 s.1)).2.2.2.1)=p.2.2.2.2.2.1)/\p.2.2.2.2.2.1+1<=s.2 then Vq F W (zk (wd [W] 0 s.1)) p.2.2.2.2.2.1 s else none
def XT (F:Int->CS->Option CS) (W:List Int) (a:Int) (p:PT) (s:CS):Option CS :=
 if p.1=0 then ZF F W a p s else if p.1=1 then (if p.2.2.2.2.1=7 then vz F W a p s else Zf F W a p s) else none
def xK (W:List Int):Nat->Int->CS->Option CS
 |0=>fun a s=>if wd [W] 0 a=0 then some s else none
 |D+1=>fun a s=>if wd [W] 0 a=0 then some s else XT (xK W D) W a (zk (wd [W] 0 a)) s
theorem at_join {W L M:List Int} {p:Nat} (h1:At W p L) (h2:At W (p+L.length) M):At W p (L++M):=by
 obtain ⟨A,C,e,hA⟩:=h1
 obtain ⟨A',C',e',hA'⟩:=h2
 have k1:W.drop (p+L.length)=C:=by rw[e,←hA,←List.append_assoc,←zqS,List.drop_left]
 have k2:W.drop (p+L.length)=M++C':=by rw[e',←hA',List.drop_left]
 exact ⟨A,C',by rw[e,k1.symm.trans k2,List.append_assoc],hA⟩
theorem at_nil {W:List Int} {p:Nat} (h:p<=W.length):At W p []:=⟨W.take p,W.drop p,by rw[zqU,List.take_append_drop],by rw[zqN];omega⟩
theorem zcM {W:List Int} {a n:Int} (h:0<=a) (h2:0<=n) (h3:a+n<=W.length):inB [W] 0 a n:=⟨Int.le_refl _,by simp,h,h2,by rw[Yl];exact h3⟩
theorem zab {W:List Int} {a n:Int} (h:inB [W] 0 a n):At W a.toNat (cutB [W] 0 a n):=by
 obtain ⟨h1,h2,h3⟩:=vC h
 unfold cutB
 rw[if_pos h]
 unfold cut
 rw[Yl]
 exact ⟨W.take a.toNat,(W.drop a.toNat).drop n.toNat,by rw[List.take_append_drop,List.take_append_drop],by rw[zqN];omega⟩
theorem XK {W:List Int} {a:Int} (h0:0<=a) (h:a<W.length):At W a.toNat [wd [W] 0 a]:=by
 refine ⟨W.take a.toNat,W.drop (a.toNat+1),?_,by rw[zqN];omega⟩
 unfold wd rd
 rw[Yl,List.getD_eq_getElem?_getD,zqF (by omega),zqL,List.singleton_append,←List.drop_eq_getElem_cons,List.take_append_drop]
theorem zkf {W:List Int} {a n:Int} (h:inB [W] 0 a n) {i:Nat} (hi:i<(cutB [W] 0 a n).length):(cutB [W] 0 a n)[i]=wd [W] 0 (a+i):=by
 obtain ⟨h1,h2,h3⟩:=vC h
 have hl:i<n.toNat:=Nat.lt_of_lt_of_le hi (Zh _ _ _ _)
 unfold wd rd
 simp only[cutB,if_pos h,cut,Yl,List.getElem_take,List.getElem_drop]
 rw[List.getD_eq_getElem?_getD,zqF (show (a+(i:Int)).toNat<W.length by omega),zqL]
 congr 1
 omega
theorem zbA {W:List Int} {a n:Int} (h:inB [W] 0 a n):(cutB [W] 0 a n).length=n.toNat:=by
 unfold cutB
 rw[if_pos h,qR h]
theorem zbW {w:Int} (hw:zC w) (h4:w%4=0):yg (zk w).2.1 (zk w).2.2.1.toNat (zk w).2.2.2.1.toNat=w:=by
 obtain ⟨h1,h2⟩:=hw
 unfold zk
 rw[if_pos h4]
 unfold yg ve
 dsimp only
 split<;>omega
theorem zkK {w:Int} (hw:zC w) (h4:w%4=1):yE (zk w).2.1 (zk w).2.2.2.2.1 (zk w).2.2.2.2.2.1=w:=by
 obtain ⟨h1,h2⟩:=hw
 unfold zk
 rw[if_neg (show ¬w%4=0 by omega),if_pos h4]
 unfold yE ve
 dsimp only
 split<;>omega
theorem zkj:∀ (l:List Int),∃ n,l=xa l++List.replicate n 0:=by
 intro l
 induction hn:l.length generalizing l with
 |zero=>have:=List.length_eq_zero_iff.1 hn;subst this;exact ⟨0,rfl⟩
 |succ n ih=>
  rcases List.eq_nil_or_concat l with rfl|⟨l',x,rfl⟩
  ·exact ⟨0,rfl⟩
  ·rw[List.concat_eq_append] at hn ⊢
   obtain ⟨m,hm⟩:=ih l' (by simpa using hn)
   have hle:=vl (fun x:Int=>x==0) l'
   unfold xa at hm ⊢
   rw[wz]
   by_cases h:x=0
   ·rw[if_pos (by simpa using h),List.take_append_of_le_length hle]
    refine ⟨m+1,?_⟩
    rw[List.replicate_succ',←List.append_assoc,←hm,h]
   ·rw[if_neg (by simpa using h),List.take_of_length_le (by simp)]
    exact ⟨0,by simp⟩
theorem zkh {l:List Int} (h:∀ h:0<l.length,l[l.length-1]≠0):xa l=l:=by
 rcases List.eq_nil_or_concat l with rfl|⟨l',x,rfl⟩
 ·rfl
 ·rw[List.concat_eq_append] at h ⊢
  have hx:=h (by simp)
  simp at hx
  unfold xa
  rw[wz,if_neg (by simpa using hx),List.take_of_length_le (by simp)]
theorem znD {l:List Nd} (h:∀ h:0<l.length,l[l.length-1].kind≠0):yk l=l.length:=by
 rcases List.eq_nil_or_concat l with rfl|⟨l',x,rfl⟩
 ·rfl
 ·rw[List.concat_eq_append] at h ⊢
  have hx:=h (by simp)
  simp at hx
  unfold yk
  rw[wz,if_neg (by simpa using hx)]
  simp
theorem zij (a b:List Int):zu (a++b)=zu a++zu b:=by simp[zu]
theorem zav:∀ n:Nat,zu (List.replicate n 0)=List.replicate (8*n) 0
 |0=>rfl
 |n+1=>by
  rw[List.replicate_succ]
  have e:zu (0::List.replicate n 0)=w8 0++zu (List.replicate n 0):=rfl
  rw[e,zav n,zpW,List.replicate_append_replicate]
  congr 1
  omega
theorem zqi {u:List Int} (hu:∀ x∈u,zC x):zW u.length (zu (xa u))=u:=by
 obtain ⟨n,hn⟩:=zkj u
 have hle:(xa u).length<=u.length:=by unfold xa;rw[zqN];omega
 refine QM (Y1 _ (ww _)) hu ?_
 rw[W2 _ (ww _) (by rw[yT];omega)]
 have e:zu u=zu (xa u)++zu (List.replicate n 0):=by rw[←zij,←hn]
 rw[e,zav]
 congr 2
 have:=congrArg List.length hn
 rw[zqS,List.length_replicate] at this
 rw[yT]
 omega
theorem qh:∀ D,body D nd0=[]
 |0=>rfl
 |D+1=>by rw[body];exact if_pos rfl
theorem zdW (B:Nd->List Int):∀ (l m:List Nd) (i pos:Nat),yJ B i pos (l++m)=yJ B i pos l++yJ B (i+l.length) (pos+(l.flatMap B).length) m
 |[],m,i,pos=>by simp[yJ]
 |x::l,m,i,pos=>by
  rw[List.cons_append,yJ,zdW B l m,yJ,List.cons_append,List.flatMap_cons,zqS,zqT,show i+1+l.length=i+(l.length+1) by omega,Nat.add_assoc]
theorem zdX (B:Nd->List Int) (hB:B nd0=[]):∀ (n i pos:Nat),yJ B i pos (List.replicate n nd0)=List.replicate n 0
 |0,i,pos=>rfl
 |n+1,i,pos=>by
  rw[List.replicate_succ,yJ,hB,zdX B hB n,List.replicate_succ]
  rfl
theorem zcj (B:Nd->List Int) (hB:B nd0=[]):∀ (n:Nat),(List.replicate n nd0).flatMap B=[]
 |0=>rfl
 |n+1=>by rw[List.replicate_succ,List.flatMap_cons,hB,zcj B hB n];rfl
theorem zpQ {ys:List Nd} (h:∀ y∈ys,VN y):∀ y∈ys.map zg,VN y:=fun y hy=>by
 obtain ⟨z,hz,rfl⟩:=List.mem_map.1 hy
 exact WG z (h z hz)
theorem zlX {B:Nd->List Int} (hB:B nd0=[]) {ys:List Nd} (h:∀ y∈ys,VN y):((ys.map zg).take (yk ys)).length<=ys.length/\((ys.map zg).take (yk ys)).flatMap B=(ys.map zg).flatMap B/\∀ i pos,yJ B i pos ((ys.map zg).take (yk ys))++List.replicate (ys.length-((ys.map zg).take (yk ys)).length) 0=yJ B i pos (ys.map zg):=by
 obtain ⟨n,hn⟩:=qQ (ys.map zg) (zpQ h)
 rw[←yY,Ja,yY] at hn
 have hl:=congrArg List.length hn
 rw[zqS,List.length_replicate,zqH] at hl
 refine ⟨by omega,?_,fun i pos=>?_⟩
 ·conv=>rhs;rw[hn]
  rw[List.flatMap_append,zcj B hB,List.append_nil]
 ·conv=>rhs;rw[hn]
  rw[zdW,zdX B hB]
  congr 2
  omega
def Lk (W:List Int) (D:Nat) (F:Int->CS->Option CS) (G:Int->Int->Int->Nd×Int×Int):Prop :=
 ∀ (a:Int) (s s':CS),0<=a->a<(W.length:Int)->Rg W s->F a s=some s'->Rg W s'/\∃ y,G s.2 0 a=(y,s'.2,0)/\VN y/\wd [W] 0 a=yN (zg y) (s.1-a-1)/\At W s.1.toNat (body D (zg y))/\s'.1=s.1+((body D (zg y)).length:Int)
section
variable {W:List Int} {D:Nat} {F:Int->CS->Option CS} {G:Int->Int->Int->Nd×Int×Int}
theorem zc4 (L:Lk W D F G) (p:Int) (hp:0<=p):∀ (c i:Nat) (s s':CS) (acc:List Nd),p+i+c<=W.length->Rg W s->y4 F c (p+i) s=some s'->
  Rg W s'/\∃ ys,z6 (fun m (i:Nat)=>G m 0 (p+i)) c i s.2 acc=(acc++ys,s'.2,0)/\ys.length=c/\(∀ y∈ys,VN y)/\At W s.1.toNat ((ys.map zg).flatMap (body D))/\s'.1=s.1+(((ys.map zg).flatMap (body D)).length:Int)/\(∀ (i0 pos:Nat),(pos:Int)-i0=s.1-(p+i)->At W (p+i).toNat (yJ (body D) i0 pos (ys.map zg)))/\(∀ (j:Nat) (h:j<ys.length),ys[j].kind=0->wd [W] 0 (p+i+j)=0):=by
 intro c
 induction c with
 |zero=>
  intro i s s' acc hb hs h
  rw[y4] at h
  cases h
  refine ⟨hs,[],by rw[z6,List.append_nil],rfl,(fun y hy=>by cases hy),at_nil (by have:=hs.1;omega),by simp,fun i0 pos _=>at_nil (by omega),fun j h=>absurd h (by simp)⟩
 |succ c ih=>
  intro i s s' acc hb hs h
  rw[y4] at h
  cases h1:F (p+i) s with
  |none=>rw[h1] at h;cases h
  |some t=>
   rw[h1] at h
   have h:y4 F c (p+i+1) t=some s':=h
   obtain ⟨ht,y,e1,v1,p1,a1,n1⟩:=L (p+i) s t (by omega) (by omega) hs h1
   rw[show p+(i:Int)+1=p+((i+1:Nat):Int) by push_cast;omega] at h
   obtain ⟨hr,ys,k1,k2,k3,k4,k5,k6,k7⟩:=ih (i+1) t s' (acc++[y]) (by push_cast;omega) ht h
   have hs1:=hs.1
   have eq:t.1.toNat=s.1.toNat+(body D (zg y)).length:=by omega
   refine ⟨hr,y::ys,?_,by rw[zqT,k2],fun z hz=>(List.mem_cons.1 hz).elim (fun e=>e▸v1) (k3 z),?_,?_,fun i0 pos hq=>?_,fun j hj hz=>?_⟩
   ·rw[z6,e1,if_pos rfl,k1,List.append_assoc,List.singleton_append]
   ·rw[List.map_cons,List.flatMap_cons]
    refine at_join a1 ?_
    rw[←eq]
    exact k4
   ·rw[List.map_cons,List.flatMap_cons,zqS,k5,n1]
    push_cast
    omega
   ·rw[List.map_cons,yJ]
    have hw:=XK (W:=W) (a:=p+i) (by omega) (by omega)
    rw[p1,show s.1-(p+(i:Int))-1=(pos:Int)-i0-1 by omega] at hw
    refine at_join (L:=[_]) hw ?_
    have:=k6 (i0+1) (pos+(body D (zg y)).length) (by push_cast;omega)
    rw[show (p+((i+1:Nat):Int)).toNat=(p+i).toNat+1 by push_cast;omega] at this
    exact this
   ·cases j with
    |zero=>
     have hz':y.kind=0:=hz
     rw[show p+(i:Int)+((0:Nat):Int)=p+i by simp,p1]
     unfold yN
     rw[Y0,if_pos hz']
    |succ j=>
     have hj':j<ys.length:=by simpa using hj
     have hz':ys[j].kind=0:=by simpa using hz
     have:=k7 j hj' hz'
     rw[show p+((i+1:Nat):Int)+(j:Int)=p+(i:Int)+((j+1:Nat):Int) by push_cast;omega] at this
     exact this
theorem Jp (hl:W.length<=1099511627776) (hw:∀ x∈W,zC x) (L:Lk W D F G) {e dd qq:Int} (he:0<=e) (hd:0<=dd) (hq:0<=qq) (hb:e+dd+qq<=W.length) {s s':CS} (hs:Rg W s) (h:y4 F qq.toNat (e+dd) s=some s') {o:Ob} (o1:o.seg=0) (o2:o.at_=e) (o3:o.data=dd) (o4:o.ptrs=qq) :
  Rg W s'/\∃ y d ks,zV G [W] s.2 o=(y,s'.2,0)/\zg y=.mk 1 0 0 d ks/\At W s.1.toNat (ks.flatMap (body D))/\s'.1=s.1+((ks.flatMap (body D)).length:Int)/\d.length<=8*dd.toNat/\ks.length<=qq.toNat/\
   (∀ (i0 pos:Nat),(pos:Int)-i0=s.1-e->At W e.toNat (zW dd.toNat d++(yJ (body D) (i0+dd.toNat) pos ks++List.replicate (qq.toNat-ks.length) 0)))/\
   (dd=0∨wd [W] 0 (e+dd-1)≠0->d.length=8*dd.toNat)/\(qq=0∨wd [W] 0 (e+dd+qq-1)≠0->ks.length=qq.toNat):=by
 rw[show e+dd=e+dd+((0:Nat):Int) by simp] at h
 obtain ⟨hr,ys,k1,k2,k3,k4,k5,k6,k7⟩:=zc4 L (e+dd) (by omega) qq.toNat 0 s s' [] (by omega) hs h
 have hin:=zcM (W:=W) (a:=e) (n:=dd) he hd (by omega)
 have hcl:=zbA hin
 have hcw:∀ x∈cutB [W] 0 e dd,zC x:=(Xc (Zm hl hw) 0 e dd).2
 obtain ⟨c1,c2,c3⟩:=zlX (qh D) k3
 refine ⟨hr,.mk 1 0 0 (zu (cutB [W] 0 e dd)) ys,zu (xa (cutB [W] 0 e dd)),(ys.map zg).take (yk ys),?_,by rw[gK,gJ hcw],?_,?_,?_,?_,fun i0 pos hp=>?_,fun hz=>?_,fun hz=>?_⟩
 ·unfold zV
  rw[o1,o2,o3,o4,k1]
  unfold wL
  dsimp only
  rw[if_pos rfl,zqU]
 ·rw[c2]
  exact k4
 ·rw[c2]
  exact k5
 ·rw[yT]
  have:(xa (cutB [W] 0 e dd)).length<=(cutB [W] 0 e dd).length:=by unfold xa;rw[zqN];omega
  omega
 ·omega
 ·rw[←k2,c3,←hcl,zqi hcw]
  refine at_join (zab hin) ?_
  rw[hcl]
  have:=k6 (i0+dd.toNat) pos (by push_cast;omega)
  rw[show (e+dd+((0:Nat):Int)).toNat=e.toNat+dd.toNat by push_cast;omega] at this
  exact this
 ·rw[zkh (fun h0=>?_),yT,hcl]
  rw[zkf hin]
  rcases hz with hz|hz
  ·omega
  ·rw[show e+(((cutB [W] 0 e dd).length-1:Nat):Int)=e+dd-1 by omega]
   exact hz
 ·rw[znD (fun h0 hk=>?_),List.take_of_length_le (by simp),zqH,k2]
  have:=k7 (ys.length-1) (by omega) hk
  rcases hz with hz|hz
  ·omega
  ·rw[show e+dd+((0:Nat):Int)+((ys.length-1:Nat):Int)=e+dd+qq-1 by omega] at this
   exact hz this
end
section
variable {W:List Int} {D:Nat} {F:Int->CS->Option CS} {G:Int->Int->Int->Nd×Int×Int}
theorem zkI (hl:W.length<=1099511627776) (hw:∀ x∈W,zC x) (L:Lk W D F G) {st dd qq:Int} (he:0<=st) (hd:0<=dd) (hq:0<=qq):∀ (c i:Nat) (s s':CS) (acc:List Nd),st+((i:Int)+c)*(dd+qq)<=W.length->Rg W s->wQ (fun i=>y4 F qq.toNat (st+i*(dd+qq)+dd)) c i s=some s'->
  Rg W s'/\∃ ys,z6 (fun m (i:Nat)=>zV G [W] m ⟨1,0,st+i*(dd+qq),dd,qq,0,0,0⟩) c i s.2 acc=(acc++ys,s'.2,0)/\ys.length=c/\At W s.1.toNat ((ys.map zg).flatMap fun k=>k.kids.flatMap (body D))/\s'.1=s.1+(((ys.map zg).flatMap fun k=>k.kids.flatMap (body D)).length:Int)/\(∀ (i0 pos:Nat),(pos:Int)-i0=s.1-(st+i*(dd+qq))->At W (st+i*(dd+qq)).toNat (xO (body D) dd.toNat qq.toNat i0 pos (ys.map zg)))/\(∀ k∈ys.map zg,k.data.length<=8*dd.toNat/\k.kids.length<=qq.toNat)/\(∀ j:Nat,i<=j->j<i+c->wd [W] 0 (st+j*(dd+qq)+dd-1)≠0->∃ k∈ys.map zg,k.data.length=8*dd.toNat)/\(∀ j:Nat,i<=j->j<i+c->wd [W] 0 (st+j*(dd+qq)+dd+qq-1)≠0->∃ k∈ys.map zg,k.kids.length=qq.toNat):=by
 intro c
 induction c with
 |zero=>
  intro i s s' acc hb hs h
  rw[wQ] at h
  cases h
  have hm:=Int.mul_nonneg (Int.natCast_nonneg i) (show 0<=dd+qq by omega)
  have hb':st+(i:Int)*(dd+qq)<=W.length:=by simpa using hb
  refine ⟨hs,[],by rw[z6,List.append_nil],rfl,at_nil (by have:=hs.1;omega),by simp,fun i0 pos _=>at_nil (by omega),(fun k hk=>by cases hk),(fun j h1 h2=>absurd h2 (by omega)),fun j h1 h2=>absurd h2 (by omega)⟩
 |succ c ih=>
  intro i s s' acc hb hs h
  have hm:=Int.mul_nonneg (Int.natCast_nonneg i) (show 0<=dd+qq by omega)
  have hm2:=Int.mul_nonneg (Int.natCast_nonneg c) (show 0<=dd+qq by omega)
  have e1:((i:Int)+((c+1:Nat):Int))*(dd+qq)=i*(dd+qq)+(dd+qq)+c*(dd+qq):=by
   push_cast
   rw[Int.add_mul,Int.add_mul,Int.one_mul]
   omega
  have e2:(((i+1:Nat):Int)+(c:Int))*(dd+qq)=i*(dd+qq)+(dd+qq)+c*(dd+qq):=by
   push_cast
   rw[Int.add_mul,Int.add_mul,Int.one_mul]
  have e3:((i+1:Nat):Int)*(dd+qq)=i*(dd+qq)+(dd+qq):=by
   push_cast
   rw[Int.add_mul,Int.one_mul]
  rw[wQ] at h
  cases h1:y4 F qq.toNat (st+i*(dd+qq)+dd) s with
  |none=>rw[h1] at h;cases h
  |some t=>
   rw[h1] at h
   have h:wQ (fun i=>y4 F qq.toNat (st+i*(dd+qq)+dd)) c (i+1) t=some s':=h
   obtain ⟨ht,y,d,ks,f1,f2,f3,f4,f5,f6,f7,f8,f9⟩:=Jp hl hw L (e:=st+i*(dd+qq)) (by omega) hd hq (by omega) hs h1 (o:=⟨1,0,st+i*(dd+qq),dd,qq,0,0,0⟩) rfl rfl rfl rfl
   obtain ⟨hr,ys,k1,k2,k3,k4,k5,k6,k7,k8⟩:=ih (i+1) t s' (acc++[y]) (by rw[e2];omega) ht h
   have hs1:=hs.1
   have eq:t.1.toNat=s.1.toNat+(ks.flatMap (body D)).length:=by omega
   refine ⟨hr,y::ys,?_,by rw[zqT,k2],?_,?_,fun i0 pos hp=>?_,fun k hk=>?_,fun j j1 j2 hz=>?_,fun j j1 j2 hz=>?_⟩
   ·rw[z6,f1,if_pos rfl,k1,List.append_assoc,List.singleton_append]
   ·rw[List.map_cons,List.flatMap_cons,f2]
    refine at_join (L:=ks.flatMap (body D)) f3 ?_
    rw[←eq]
    exact k3
   ·rw[List.map_cons,List.flatMap_cons,zqS,k4,f4,f2]
    show s.1+_+_=s.1+(((ks.flatMap (body D)).length+_:Nat):Int)
    push_cast
    omega
   ·rw[List.map_cons,f2,xO]
    have hlen:(zW dd.toNat (Nd.mk 1 0 0 d ks).data++(yJ (body D) (i0+dd.toNat) pos (Nd.mk 1 0 0 d ks).kids++List.replicate (qq.toNat-(Nd.mk 1 0 0 d ks).kids.length) 0)).length=dd.toNat+qq.toNat:=by
     rw[zqS,zqS,yZ,vH,List.length_replicate]
     show dd.toNat+(ks.length+(qq.toNat-ks.length))=_
     omega
    refine at_join (f7 i0 pos hp) ?_
    rw[hlen]
    have:=k5 (i0+(dd.toNat+qq.toNat)) (pos+ZQ (body D) ks) (by rw[e3];unfold ZQ;push_cast;omega)
    rw[e3,show (st+((i:Int)*(dd+qq)+(dd+qq))).toNat=(st+(i:Int)*(dd+qq)).toNat+(dd.toNat+qq.toNat) by omega] at this
    exact this
   ·rw[List.map_cons] at hk
    rcases List.mem_cons.1 hk with rfl|hk
    ·rw[f2];exact ⟨f5,f6⟩
    ·exact k6 k hk
   ·rw[List.map_cons]
    by_cases hj:j=i
    ·subst hj
     exact ⟨_,List.mem_cons_self,by rw[f2];exact f8 (.inr hz)⟩
    ·obtain ⟨k,m1,m2⟩:=k7 j (by omega) (by omega) hz
     exact ⟨k,List.mem_cons_of_mem _ m1,m2⟩
   ·rw[List.map_cons]
    by_cases hj:j=i
    ·subst hj
     exact ⟨_,List.mem_cons_self,by rw[f2];exact f9 (.inr hz)⟩
    ·obtain ⟨k,m1,m2⟩:=k8 j (by omega) (by omega) hz
     exact ⟨k,List.mem_cons_of_mem _ m1,m2⟩
theorem QJ (D:Nat) (d:List Int) (ks:List Nd):body (D+1) (.mk 1 0 0 d ks)=(zW (d.length/8) d++yJ (body D) (d.length/8) (d.length/8+ks.length) ks)++ks.flatMap (body D):=by
 rw[body,if_neg (show ¬(Nd.mk 1 0 0 d ks).kind=0 from (by decide:¬(1:Int)=0))]
 unfold xU yi
 rw[if_pos (show (Nd.mk 1 0 0 d ks).kind=1 from rfl),if_neg (show ¬((Nd.mk 1 0 0 d ks).kind=2/\(Nd.mk 1 0 0 d ks).elem=7) from fun h=>absurd (show (1:Int)=2 from h.1) (by decide))]
 rfl
theorem zao (D:Nat) {e n:Int} (h6:e≠6) (h7:e≠7) (d:List Int):body (D+1) (.mk 2 e n d [])=zW (zn e n).toNat d:=by
 rw[body,if_neg (show ¬(Nd.mk 2 e n d []).kind=0 from (by decide:¬(2:Int)=0))]
 unfold xU yi
 rw[if_neg (show ¬(Nd.mk 2 e n d []).kind=1 from (by decide:¬(2:Int)=1)),if_neg (show ¬(Nd.mk 2 e n d []).elem=7 from h7),if_neg (show ¬(Nd.mk 2 e n d []).elem=6 from h6),if_neg (show ¬((Nd.mk 2 e n d []).kind=2/\(Nd.mk 2 e n d []).elem=7) from fun h=>h7 h.2)]
 exact List.append_nil _
theorem zap (D:Nat) (n:Int) (ks:List Nd):body (D+1) (.mk 2 6 n [] ks)=yJ (body D) 0 ks.length ks++ks.flatMap (body D):=by
 rw[body,if_neg (show ¬(Nd.mk 2 6 n [] ks).kind=0 from (by decide:¬(2:Int)=0))]
 unfold xU yi
 rw[if_neg (show ¬(Nd.mk 2 6 n [] ks).kind=1 from (by decide:¬(2:Int)=1)),if_neg (show ¬(Nd.mk 2 6 n [] ks).elem=7 from (by decide:¬(6:Int)=7)),if_pos (show (Nd.mk 2 6 n [] ks).elem=6 from rfl),if_neg (show ¬((Nd.mk 2 6 n [] ks).kind=2/\(Nd.mk 2 6 n [] ks).elem=7) from fun h=>absurd (show (6:Int)=7 from h.2) (by decide))]
 rfl
theorem zal (D:Nat) (n:Int) (ks:List Nd):body (D+1) (.mk 2 7 n [] ks)=(yg n (zm ks) (zo ks)::xO (body D) (zm ks) (zo ks) 1 (1+ks.length*(zm ks+zo ks)) ks)++ks.flatMap fun k=>k.kids.flatMap (body D):=by
 rw[body,if_neg (show ¬(Nd.mk 2 7 n [] ks).kind=0 from (by decide:¬(2:Int)=0)),←KD]
 unfold xU yi
 rw[if_neg (show ¬(Nd.mk 2 7 n [] ks).kind=1 from (by decide:¬(2:Int)=1)),if_pos (show (Nd.mk 2 7 n [] ks).elem=7 from rfl),if_pos (show ((Nd.mk 2 7 n [] ks).kind=2/\(Nd.mk 2 7 n [] ks).elem=7) from ⟨rfl,rfl⟩)]
 rfl
theorem zl8 (hl:W.length<=1099511627776) (hw:∀ x∈W,zC x) (L:Lk W D F G) {a:Int} (ha:0<=a/\a<W.length) {p:PT} (hp2:0<=p.2.2.1/\p.2.2.1<=65535) (hp3:0<=p.2.2.2.1/\p.2.2.2.1<=65535) {s s':CS} (hs:Rg W s) (h:ZF F W a p s=some s') :
  Rg W s'/\∃ y,yQ G [W] s.2 (wA [W] 0 (a+1+p.2.1) p.2.2.1 p.2.2.2.1)=(y,s'.2,0)/\yN (zg y) (s.1-a-1)=yg p.2.1 p.2.2.1.toNat p.2.2.2.1.toNat/\At W s.1.toNat (body (D+1) (zg y))/\s'.1=s.1+((body (D+1) (zg y)).length:Int):=by
 have hs1:=hs.1
 have hs2:=hs.2
 unfold ZF at h
 split at h
 ·rename_i h0
  split at h
  ·rename_i h1
   cases h
   have d0:p.2.2.1=0:=by omega
   have q0:p.2.2.2.1=0:=by omega
   rw[d0,q0,h1,show a+1+-1=a by omega]
   obtain ⟨hr,y,d,ks,f1,f2,f3,f4,f5,f6,f7,f8,f9⟩:=Jp hl hw L (e:=a) (dd:=0) (qq:=0) ha.1 (Int.le_refl _) (Int.le_refl _) (by omega) hs (s':=s) rfl (o:=⟨1,0,a,0,0,0,0,0+0⟩) rfl rfl rfl rfl
   obtain rfl:d=[]:=List.length_eq_zero_iff.1 (by have:(0:Int).toNat=0:=rfl;omega)
   obtain rfl:ks=[]:=List.length_eq_zero_iff.1 (by have:(0:Int).toNat=0:=rfl;omega)
   refine ⟨hs,y,?_,?_,?_,?_⟩
   ·unfold wA yQ
    rw[if_pos (zcM ha.1 (by decide) (by omega))]
    dsimp only
    rw[if_pos rfl,if_neg (by omega),if_pos rfl,show s.2-(0+0)=s.2 by omega]
    exact f1
   ·rw[f2]
    rfl
   ·rw[f2,QJ]
    exact at_nil (by omega)
   ·rw[f2,QJ]
    simp[zW,yJ]
  ·cases h
 ·rename_i h0
  split at h
  ·rename_i h1
   obtain ⟨g1,g2,g3,g4,g5⟩:=h1
   have hb:=vC g2
   obtain ⟨hr,y,d,ks,f1,f2,f3,f4,f5,f6,f7,f8,f9⟩:=Jp hl hw L (e:=s.1) (dd:=p.2.2.1) (qq:=p.2.2.2.1) (by omega) hp2.1 hp3.1 (by omega) (s:=(s.1+(p.2.2.1+p.2.2.2.1),s.2-(p.2.2.1+p.2.2.2.1))) ⟨by dsimp only;omega,by dsimp only;omega,by dsimp only;omega⟩ h (o:=⟨1,0,s.1,p.2.2.1,p.2.2.2.1,0,0,p.2.2.1+p.2.2.2.1⟩) rfl rfl rfl rfl
   have f8':=f8 g4
   have f9':=f9 g5
   have hd8:d.length/8=p.2.2.1.toNat:=by omega
   dsimp only at f1 f3 f4 f7
   refine ⟨hr,y,?_,?_,?_,?_⟩
   ·rw[g1]
    unfold wA yQ
    rw[if_pos g2]
    dsimp only
    rw[if_pos rfl,if_neg (by omega),if_pos rfl]
    exact f1
   ·rw[f2]
    show (if d.length/8=0/\ks.length=0 then yg (-1) 0 0 else yg (s.1-a-1) (d.length/8) ks.length)=_
    rw[if_neg (by omega),hd8,f9',show s.1-a-1=p.2.1 by omega]
   ·rw[f2,QJ,hd8]
    have h7:=f7 0 (p.2.2.1.toNat+p.2.2.2.1.toNat) (by push_cast;omega)
    rw[f9',Nat.sub_self,List.replicate_zero,List.append_nil,Nat.zero_add] at h7
    rw[f9']
    refine at_join h7 ?_
    rw[zqS,yZ,vH,f9']
    rw[show (s.1+(p.2.2.1+p.2.2.2.1)).toNat=s.1.toNat+(p.2.2.1.toNat+p.2.2.2.1.toNat) by omega] at f3
    exact f3
   ·rw[f2,QJ,zqS,zqS,yZ,vH,f4]
    push_cast
    omega
  ·cases h
theorem zqj {e n:Int} {C:List Int} (hC:∀ x∈C,zC x) (hl:(trimB e n (zu C)).length<=8*C.length) (h:ZK e n (zu C)):zW C.length (trimB e n (zu C))=C:=by
 refine QM (Y1 _ (WE _ _ _ (ww _))) hC ?_
 rw[W2 _ (WE _ _ _ (ww _)) hl]
 unfold ZK at h
 rw[List.take_append,List.take_of_length_le (by rw[yT];exact hl),List.take_replicate,yT] at h
 conv=>rhs;rw[←h]
 congr 2
 omega
theorem zl7 (hl:W.length<=1099511627776) (hw:∀ x∈W,zC x) (L:Lk W D F G) {a:Int} (ha:0<=a/\a<W.length) {p:PT} (hp2:0<=p.2.2.2.2.1/\p.2.2.2.2.1<=6) (hp3:0<=p.2.2.2.2.2.1/\p.2.2.2.2.2.1<=536870911) {s s':CS} (hs:Rg W s) (h:Zf F W a p s=some s') :
  Rg W s'/\∃ y,yQ G [W] s.2 (xi [W] 0 (a+1+p.2.1) p.2.2.2.2.1 p.2.2.2.2.2.1)=(y,s'.2,0)/\yN (zg y) (s.1-a-1)=yE p.2.1 p.2.2.2.2.1 p.2.2.2.2.2.1/\At W s.1.toNat (body (D+1) (zg y))/\s'.1=s.1+((body (D+1) (zg y)).length:Int):=by
 have hs1:=hs.1
 have hs2:=hs.2
 have hwr:=Zy (e:=p.2.2.2.2.1) hp3
 generalize he:p.2.2.2.2.1=e at *
 generalize hn:p.2.2.2.2.2.1=n at *
 unfold Zf at h
 rw[he,hn] at h
 split at h
 ·rename_i h1
  obtain ⟨g1,g2,g3⟩:=h1
  have hb:=vC g2
  have hcl:=zbA g2
  rw[g1]
  unfold xi yQ
  rw[if_neg (show ¬e=7 by omega),if_pos g2]
  dsimp only
  rw[if_pos rfl,if_neg (by omega),if_neg (by decide)]
  unfold xl
  dsimp only
  split at h
  ·rename_i h6
   subst h6
   have w6:zn 6 n=n:=by unfold zn bitsOf;simp;omega
   rw[w6] at h g2 g3 hb ⊢
   rw[if_neg (by decide)]
   have hs':Rg W (s.1+n,s.2-n):=⟨by dsimp only;omega,by dsimp only;omega,by dsimp only;omega⟩
   rw[show y4 F n.toNat s.1 (s.1+n,s.2-n)=y4 F n.toNat (s.1+((0:Nat):Int)) (s.1+n,s.2-n) by simp] at h
   obtain ⟨hr,ys,k1,k2,k3,k4,k5,k6,k7⟩:=zc4 L s.1 (by omega) n.toNat 0 (s.1+n,s.2-n) s' [] (by push_cast;omega) hs' h
   dsimp only at k1 k4 k5 k6
   have hf:(fun m (i:Nat)=>if (6:Int)=6 then G m 0 (s.1+i) else zV G [W] m (ye ⟨2,0,s.1,0,0,6,n,n⟩ i))=fun m (i:Nat)=>G m 0 (s.1+i):=by
    funext m i
    rw[if_pos rfl]
   rw[hf,k1]
   unfold wL
   dsimp only
   rw[if_pos rfl,zqU]
   have et:zg (.mk 2 6 n [] ys)=.mk 2 6 n [] (ys.map zg):=by rw[zg,if_neg (by decide),yY]
   refine ⟨hr,_,rfl,?_,?_,?_⟩
   ·rw[et]
    show yE (s.1-a-1) 6 n=_
    rw[show s.1-a-1=p.2.1 by omega]
   ·rw[et,zap]
    have h6:=k6 0 (ys.map zg).length (by rw[zqH,k2];push_cast;omega)
    rw[show (s.1+((0:Nat):Int)).toNat=s.1.toNat by simp] at h6
    refine at_join h6 ?_
    rw[vH,zqH,k2,←show (s.1+n).toNat=s.1.toNat+n.toNat by omega]
    exact k4
   ·rw[et,zap,zqS,vH,zqH,k2,k5]
    push_cast
    omega
  ·rename_i h6
   split at h
   ·rename_i hpd
    cases h
    rw[if_pos (show e<6 by omega)]
    have hcu:xk W s.1 (zn e n)=cutB [W] 0 s.1 (zn e n):=by
     unfold cutB
     rw[if_pos g2]
     rfl
    rw[hcu] at hpd
    have hcw:∀ x∈cutB [W] 0 s.1 (zn e n),zC x:=(Xc (Zm hl hw) 0 s.1 (zn e n)).2
    have hbf:=ql (e:=e) (c:=n) (by omega) hp3
    have htl:=(ze5 (e:=e) (c:=n) (b:=zu (cutB [W] 0 s.1 (zn e n))) hp3 (by rw[yT];omega)).1
    have hC:=zqj hcw (by omega) hpd
    have et:zg (.mk 2 e n (trimB e n (zu (cutB [W] 0 s.1 (zn e n)))) [])=.mk 2 e n (trimB e n (zu (cutB [W] 0 s.1 (zn e n)))) []:=by rw[zg,if_neg (by decide)];rfl
    refine ⟨⟨by dsimp only;omega,by dsimp only;omega,by dsimp only;omega⟩,_,rfl,?_,?_,?_⟩
    ·rw[et]
     show (if (2:Int)=0 then 0 else if (2:Int)=1 then _ else if e=7 then _ else yE (s.1-a-1) e n)=_
     rw[if_neg (by decide),if_neg (by decide),if_neg (by omega),show s.1-a-1=p.2.1 by omega]
    ·rw[et,zao D h6 (by omega),←hcl,hC]
     exact zab g2
    ·rw[et,zao D h6 (by omega),yZ]
     dsimp only
     omega
   ·cases h
 ·cases h
theorem zl6 (hl:W.length<=1099511627776) (hw:∀ x∈W,zC x) (L:Lk W D F G) {a:Int} (ha:0<=a/\a<W.length) {p:PT} (hp3:0<=p.2.2.2.2.2.1/\p.2.2.2.2.2.1<=536870911) {s s':CS} (hs:Rg W s) (h:vz F W a p s=some s') :
  Rg W s'/\∃ y,yQ G [W] s.2 (xi [W] 0 (a+1+p.2.1) 7 p.2.2.2.2.2.1)=(y,s'.2,0)/\yN (zg y) (s.1-a-1)=yE p.2.1 7 p.2.2.2.2.2.1/\At W s.1.toNat (body (D+1) (zg y))/\s'.1=s.1+((body (D+1) (zg y)).length:Int):=by
 have hs1:=hs.1
 have hs2:=hs.2
 generalize hn:p.2.2.2.2.2.1=c at *
 unfold vz at h
 rw[hn] at h
 split at h
 ·rename_i h1
  obtain ⟨g1,g2,⟨t1,t2,t3⟩,g3⟩:=h1
  have hb:=vC g2
  have hww:zC (wd [W] 0 s.1):=xY (Zm hl hw) 0 s.1
  obtain ⟨-,-,td1,td2,tq1,tq2,-,-,-,-,-,-⟩:=wF hww
  have tn:(zk (wd [W] 0 s.1)).2.1<=536870911:=(wF hww).2.1
  have henc:=zbW hww (by rw[←Zi hww];exact t1)
  have hwat:=XK (W:=W) (a:=s.1) (by omega) (by omega)
  rw[g1]
  unfold xi yQ
  rw[if_pos rfl]
  unfold wn
  have hcond:(zk (wd [W] 0 s.1)).1=0/\0<=(zk (wd [W] 0 s.1)).2.1/\(zk (wd [W] 0 s.1)).2.1*((zk (wd [W] 0 s.1)).2.2.1+(zk (wd [W] 0 s.1)).2.2.2.1)<=c:=⟨t1,t2,by omega⟩
  rw[if_pos g2,if_pos hcond]
  clear hcond
  generalize zk (wd [W] 0 s.1)=t at *
  generalize hdd:t.2.2.1=dd at *
  generalize hqq:t.2.2.2.1=qq at *
  generalize hoo:t.2.1=n at *
  rw[←henc] at hwat
  unfold Vq at h
  rw[hdd,hqq,hoo] at h
  dsimp only
  rw[if_pos rfl]
  have key:∀ s2:CS,Rg W s2->s2.1=s.1+(c+1)->wQ (fun i=>y4 F qq.toNat (s.1+1+i*(dd+qq)+dd)) n.toNat 0 s2=some s'->((dd=0∨xM (xf W (s.1+1) (dd+qq) dd) n.toNat 0 false=true)/\(qq=0∨xM (xf W (s.1+1) (dd+qq) (dd+qq)) n.toNat 0 false=true))->∀ cost,Rg W s'/\∃ y,xl G [W] s2.2 ⟨2,0,s.1+1,dd,qq,7,n,cost⟩=(y,s'.2,0)/\yN (zg y) (s.1-a-1)=yE p.2.1 7 c/\At W s.1.toNat (body (D+1) (zg y))/\s'.1=s.1+((body (D+1) (zg y)).length:Int):=by
   intro s2 hs2 hs21 hE hor cost
   have t3':((0:Nat):Int)+(n.toNat:Int)=n:=by omega
   obtain ⟨hr,ys,k1,k2,k3,k4,k5,k6,k7,k8⟩:=zkI hl hw L (st:=s.1+1) (dd:=dd) (qq:=qq) (by omega) td1 tq1 n.toNat 0 s2 s' [] (by rw[t3',t3];omega) hs2 hE
   have hD:zm (ys.map zg)=dd.toNat:=by
    have hle:zm (ys.map zg)<=dd.toNat:=Yu fun x hx=>by have:=(k6 x hx).1;omega
    rcases hor.1 with h0|h0
    ·omega
    ·rcases (VT _ _ _ _).1 h0 with h0|⟨j,j1,j2,j3⟩
     ·exact absurd h0 (by decide)
     ·unfold xf at j3
      obtain ⟨k,m1,m2⟩:=k7 j j1 j2 (by simpa using j3)
      have:=JB m1
      omega
   have hQ:zo (ys.map zg)=qq.toNat:=by
    have hle:zo (ys.map zg)<=qq.toNat:=Yv fun x hx=>(k6 x hx).2
    rcases hor.2 with h0|h0
    ·omega
    ·rcases (VT _ _ _ _).1 h0 with h0|⟨j,j1,j2,j3⟩
     ·exact absurd h0 (by decide)
     ·unfold xf at j3
      rw[show s.1+1+(j:Int)*(dd+qq)+(dd+qq)-1=s.1+1+(j:Int)*(dd+qq)+dd+qq-1 by omega] at j3
      obtain ⟨k,m1,m2⟩:=k8 j j1 j2 (by simpa using j3)
      have:=Yw m1
      omega
   have et:zg (.mk 2 7 n [] ys)=.mk 2 7 n [] (ys.map zg):=by rw[zg,if_neg (by decide),yY]
   have hlen:(((ys.map zg).length*(dd.toNat+qq.toNat):Nat):Int)=c:=by
    rw[zqH,k2]
    push_cast
    rw[show ((n.toNat:Nat):Int)=n by omega,show ((dd.toNat:Nat):Int)+(qq.toNat:Int)=dd+qq by omega]
    exact t3
   have hal:=WX (body D) dd.toNat qq.toNat 1 (1+(ys.map zg).length*(dd.toNat+qq.toNat)) (ys.map zg) (fun k hk=>(k6 k hk).2)
   refine ⟨hr,.mk 2 7 n [] ys,?_,?_,?_,?_⟩
   ·unfold xl
    dsimp only
    rw[if_neg (by decide)]
    have hf:(fun m (i:Nat)=>if (7:Int)=6 then G m 0 (s.1+1+i) else zV G [W] m (ye ⟨2,0,s.1+1,dd,qq,7,n,cost⟩ i))=fun m (i:Nat)=>zV G [W] m ⟨1,0,s.1+1+i*(dd+qq),dd,qq,0,0,0⟩:=by
     funext m i
     rw[if_neg (by decide)]
     rfl
    rw[hf,k1]
    unfold wL
    dsimp only
    rw[if_pos rfl,zqU]
   ·rw[et]
    show yE (s.1-a-1) 7 (n*((zm (ys.map zg)+zo (ys.map zg):Nat):Int))=_
    rw[hD,hQ,show s.1-a-1=p.2.1 by omega]
    congr 1
    rw[←hlen,zqH,k2]
    push_cast
    rw[show ((n.toNat:Nat):Int)=n by omega]
   ·rw[et,zal,hD,hQ]
    have h5:=k5 1 (1+(ys.map zg).length*(dd.toNat+qq.toNat)) (by rw[hs21];push_cast at hlen ⊢;omega)
    rw[show (s.1+1+((0:Nat):Int)*(dd+qq)).toNat=s.1.toNat+1 by simp;omega] at h5
    have hwat':At W s.1.toNat [yg n dd.toNat qq.toNat]:=hwat
    refine at_join (at_join (L:=[_]) hwat' h5) ?_
    rw[zqT,hal,show s.1.toNat+((ys.map zg).length*(dd.toNat+qq.toNat)+1)=s2.1.toNat by omega]
    exact k3
   ·rw[et,zal,hD,hQ,zqS,zqT,hal,k4,hs21]
    push_cast at hlen ⊢
    omega
  split at h
  ·rename_i hz
   split at h
   ·rename_i hz2
    rw[if_pos hz,if_neg (by omega),if_neg (by decide)]
    have dd0:dd=0:=by omega
    have qq0:qq=0:=by omega
    have hE:∀ (k i:Nat) (s2:CS),wQ (fun i=>y4 F qq.toNat (s.1+1+i*(dd+qq)+dd)) k i s2=some s2:=by
     intro k
     induction k with
     |zero=>intro i s2;rfl
     |succ k ih=>
      intro i s2
      rw[wQ,qq0]
      show (some s2).bind _=_
      have:=ih (i+1) s2
      rw[qq0] at this
      exact this
    cases h
    have:=key (s.1+(c+1),s.2-(c+1)-n) ⟨by dsimp only;omega,by dsimp only;omega,by dsimp only;omega⟩ rfl (hE _ _ _) ⟨.inl dd0,.inl qq0⟩ (c+1+n)
    dsimp only at this
    rw[show s.2-(c+1+n)=s.2-(c+1)-n by omega]
    exact this
   ·cases h
  ·rename_i hz
   split at h
   ·rename_i hor
    rw[if_neg hz,if_neg (by omega),if_neg (by decide)]
    have:=key (s.1+(c+1),s.2-(c+1)) ⟨by dsimp only;omega,by dsimp only;omega,by dsimp only;omega⟩ rfl h hor (c+1+0)
    dsimp only at this
    rw[show s.2-(c+1+0)=s.2-(c+1) by omega]
    exact this
   ·cases h
 ·cases h
end
theorem zbw {W:List Int} (hl:W.length<=1099511627776) (hw:∀ x∈W,zC x):∀ D,Lk W D (xK W D) (zR [W] D):=by
 have hS:=Zm hl hw
 have hSm:Sm [W]:=by
  intro s
  unfold yu
  rcases Nat.eq_zero_or_pos s.toNat with h0|h0
  ·rw[h0];show (W.length:Int)<=_;omega
  ·rw[List.getD_eq_getElem?_getD,List.getElem?_eq_none (by rw[List.length_singleton];omega)]
   simp
 intro D
 induction D with
 |zero=>
  intro a s s' h0 h1 hs h
  rw[xK] at h
  dsimp only at h
  split at h
  ·rename_i hz
   cases h
   obtain ⟨n,rfl⟩:=Int.eq_ofNat_of_zero_le h0
   have hat:=XK h0 h1
   rw[hz] at hat
   refine ⟨hs,nd0,XW hat 0 s.2,WF,by rw[hz];rfl,at_nil (by have:=hs.1;omega),?_⟩
   show s.1=s.1+0
   omega
  ·cases h
 |succ D L=>
  intro a s s' h0 h1 hs h
  rw[xK] at h
  dsimp only at h
  obtain ⟨n,rfl⟩:=Int.eq_ofNat_of_zero_le h0
  have hat:=XK h0 h1
  rw[zqK] at hat
  split at h
  ·rename_i hz
   cases h
   rw[hz] at hat
   refine ⟨hs,nd0,XW hat (D+1) s.2,WF,by rw[hz];rfl,?_,?_⟩
   ·rw[YZ,qh];exact at_nil (by have:=hs.1;omega)
   ·rw[YZ,qh];simp
  ·rename_i hz
   have hww:zC (wd [W] 0 (n:Int)):=xY hS 0 n
   have hk:=Zi hww
   obtain ⟨p1,p2,p3,p4,p5,p6,p7,p8,p9,p10,p11,p12⟩:=wF hww
   have fin:∀ y,zR [W] (D+1) s.2 0 n=(y,s'.2,0)->VN y:=fun y e=>by
    have:=Vu hS hSm (D+1) s.2 0 n (by rw[e])
    rw[e] at this
    exact this.1
   unfold XT at h
   split at h
   ·rename_i h4
    have h4':wd [W] 0 (n:Int)%4=0:=by omega
    obtain ⟨hr,y,e1,e2,e3,e4⟩:=zl8 hl hw L ⟨h0,h1⟩ ⟨p3,p4⟩ ⟨p5,p6⟩ hs h
    rw[zbW hww h4'] at e2
    have hd:zR [W] (D+1) s.2 0 n=(y,s'.2,0):=by
     rw[YK hat (by omega) hz]
     unfold wU
     rw[if_pos h4]
     exact e1
    exact ⟨hr,y,hd,fin y hd,e2.symm,e3,e4⟩
   ·rename_i h4
    split at h
    ·rename_i h5
     have h4':wd [W] 0 (n:Int)%4=1:=by omega
     have hend:=zkK hww h4'
     have hst:∀ m,zR [W] (D+1) m 0 n=yQ (zR [W] D) [W] m (xi [W] 0 ((n:Int)+1+(zk (wd [W] 0 (n:Int))).2.1) (zk (wd [W] 0 (n:Int))).2.2.2.2.1 (zk (wd [W] 0 (n:Int))).2.2.2.2.2.1):=fun m=>by
      rw[YK hat (by omega) hz]
      unfold wU
      rw[if_neg h4,if_pos h5]
     split at h
     ·rename_i h7
      obtain ⟨hr,y,e1,e2,e3,e4⟩:=zl6 hl hw L ⟨h0,h1⟩ ⟨p9,p10⟩ hs h
      rw[←h7,hend] at e2
      have hd:zR [W] (D+1) s.2 0 n=(y,s'.2,0):=by
       rw[hst,h7]
       exact e1
      exact ⟨hr,y,hd,fin y hd,e2.symm,e3,e4⟩
     ·rename_i h7
      obtain ⟨hr,y,e1,e2,e3,e4⟩:=zl7 hl hw L ⟨h0,h1⟩ ⟨p7,by omega⟩ ⟨p9,p10⟩ hs h
      rw[hend] at e2
      have hd:zR [W] (D+1) s.2 0 n=(y,s'.2,0):=by
       rw[hst]
       exact e1
      exact ⟨hr,y,hd,fin y hd,e2.symm,e3,e4⟩
    ·cases h
theorem qo {γ:Type} {o:Option (Out×ze)} {a:AV} {h:ze} {kr:AV->ze->Option γ} {kp:PV->ze->Option γ} (e:o=some (.ret a,h)):zq o kr kp=kr a h:=by rw[e];rfl
theorem zjT {W:List Int} {H:Nat->CS->Option CS}:∀ (c i:Nat),(∀ (j:Nat) (s:CS),i<=j->j<i+c->Rg W s->∀ s',H j s=some s'->Rg W s')->∀ (s:CS),Rg W s->∀ s',wQ H c i s=some s'->Rg W s':=by
 intro c
 induction c with
 |zero=>intro i hH s hs s' h;cases h;exact hs
 |succ c ih=>
  intro i hH s hs s' h
  rw[wQ] at h
  cases h1:H i s with
  |none=>rw[h1] at h;cases h
  |some t=>
   rw[h1] at h
   exact ih (i+1) (fun j s h1 h2=>hH j s (by omega) (by omega)) t (hH i s (Nat.le_refl _) (by omega) hs t h1) s' h
theorem Vx {i n:Nat} {z:Int} (h:i<n) (hz:0<=z/\z<=131070) (hn:n<=536870911):0<=(i:Int)*z/\(i:Int)*z+z<=n*z/\(n:Int)*z<=536870911*131070:=by
 refine ⟨Int.mul_nonneg (Int.natCast_nonneg i) hz.1,?_,Int.mul_le_mul (by omega) hz.2 hz.1 (by omega)⟩
 have:=Int.mul_le_mul_of_nonneg_right (show (i:Int)+1<=n by omega) hz.1
 rw[Int.add_mul,Int.one_mul] at this
 exact this
theorem zj8 {W:List Int} (hl:W.length<=1099511627776) {d w o k:Int} (hk:0<=k/\k<=1099511627776) {F:Int->CS->Option CS} (hF:VF W d w o (k+1) F) {n:Nat} {st dd qq:Int} (hst:0<=st) (hdd:0<=dd/\dd<=65535) (hqq:0<=qq/\qq<=65535) (hn:n<=536870911) (hb:st+1+n*(dd+qq)<=W.length) (x1 x2 x3 x4 x5 x6:Int) (x7:Bool) (x8 x9 x10:Int) (y1 y2 y5 y6 y7 y8 y9 y10:PV):∀ (c i:Nat) (s:CS),i+c=n->Rg W s->
  Vs W d w o (XO k (I st) (dd+qq) (I n) i (.sl 1 (ws W)) (I s.1) (I d) (I w) (I o) (I s.2) x1 x2 x3 x4 x5 x6 x7 x8 x9 x10 y1 y2 (I dd) (I qq) y5 y6 y7 y8 y9 y10) (wQ (fun (i:Nat)=>y4 F qq.toNat (st+1+i*(dd+qq)+dd)) c i s):=by
 intro c
 induction c with
 |zero=>
  intro i s hi hs
  rw[zaI]
  dsimp only[zA,zqR]
  rw[dF ((i:Int)<(n:Int))]
  rfl
 |succ c ih=>
  intro i s hi hs
  obtain ⟨m1,m2,m3⟩:=Vx (show i<n by omega) (z:=dd+qq) ⟨by omega,by omega⟩ hn
  rw[zaI]
  dsimp only[zA,zqR]
  rw[dT ((i:Int)<(n:Int)),zc (x:=st+1),zc (x:=(i:Int)*(dd+qq)),zc (x:=st+1+(i:Int)*(dd+qq)),zc (x:=st+1+(i:Int)*(dd+qq)+dd),zc (x:=(i:Int)+1),wQ]
  have hP:=J3 hl hk hF (n:=qq) (a:=st+1+(i:Int)*(dd+qq)+dd) (by omega) hqq.1 (by omega) hs
  have hR:=Km (fun a s h1 h2 h3=>(hF a s h1 h2 h3).2) qq.toNat (st+1+(i:Int)*(dd+qq)+dd) s (by omega) (by omega) hs
  unfold ch at hP
  cases h3:y4 F qq.toNat (st+1+(i:Int)*(dd+qq)+dd) s with
  |none=>
   rw[h3] at hP
   obtain ⟨t,ht⟩:=hP
   unfold ch at ht
   rw[ht]
   exact ⟨t,rfl⟩
  |some t=>
   rw[h3] at hP
   have hP':ev 248 [.ptr 0 0,.pv (I (st+1+(i:Int)*(dd+qq)+dd)),.pv (I qq),.pv (I k)] [[.pv (.sl 1 (ws W)),.pv (I s.1),.pv (I d),.pv (I w),.pv (I o),.pv (I s.2)]]=some (.ret (.pv (.tup [])),ch W t.1 d w o t.2):=hP
   unfold ch at hP'
   dsimp only[zb,zqR]
   rw[hP']
   exact ih (i+1) t (by omega) (hR t h3)
theorem zj7 {W:List Int} (hl:W.length<=1099511627776) {k:Int} {n:Nat} {st dd qq:Int} (hst:0<=st) (hdd:0<=dd/\dd<=65535) (hqq:0<=qq/\qq<=65535) (hn:n<=536870911) (hb:st+1+n*(dd+qq)<=W.length) (p8 p9 p10 p11 p12:PV) (x1 x2 x3 x4 x5 x6:Int) (x7:Bool) (x8 x9 x10:Int) (y1 y5 y6 y7 y8 y9 y10:PV):∀ (c i:Nat) (b3 b4:Bool),i+c=n->(b3=false->0<dd)->(b4=false->0<qq)->
  Yb k (I st) (dd+qq) b3 b4 (I n) i (.sl 1 (ws W)) p8 p9 p10 p11 p12 x1 x2 x3 x4 x5 x6 x7 x8 x9 x10 y1 (I n) (I dd) (I qq) y5 y6 y7 y8 y9 y10 =
   if xM (xf W (st+1) (dd+qq) dd) c i b3=true/\xM (xf W (st+1) (dd+qq) (dd+qq)) c i b4=true then XO k (I st) (dd+qq) (I n) 0 (.sl 1 (ws W)) p8 p9 p10 p11 p12 x1 x2 x3 x4 x5 x6 x7 x8 x9 x10 y1 (I n) (I dd) (I qq) y5 y6 y7 y8 y9 y10
   else some (.pan (.ifc 174 (.agg [])),[[.pv (.sl 1 (ws W)),.pv p8,.pv p9,.pv p10,.pv p11,.pv p12]]):=by
 intro c
 induction c with
 |zero=>
  intro i b3 b4 hi h3 h4
  rw[zaH]
  dsimp only[zA,yt,zqR]
  rw[dF ((i:Int)<(n:Int))]
  dsimp only[zl]
  cases b3
  ·dsimp only[zl]
   rw[wN,if_neg (fun h=>by cases h.1)]
   rfl
  ·dsimp only[zb]
   cases b4
   ·rw[wN,if_neg (fun h=>by cases h.2)]
    rfl
   ·rw[vN,if_pos ⟨rfl,rfl⟩]
    rfl
 |succ c ih=>
  intro i b3 b4 hi h3 h4
  obtain ⟨m1,m2,m3⟩:=Vx (show i<n by omega) (z:=dd+qq) ⟨by omega,by omega⟩ hn
  rw[zaH,xM,xM]
  dsimp only[zA,yt,zqR]
  rw[dT ((i:Int)<(n:Int)),zc (x:=st+1),zc (x:=(i:Int)*(dd+qq)),zc (x:=st+1+(i:Int)*(dd+qq)),zc (x:=st+1+(i:Int)*(dd+qq)+(dd+qq)),zc (x:=st+1+(i:Int)*(dd+qq)+(dd+qq)-1),zc (x:=st+1+(i:Int)*(dd+qq)+dd),zc (x:=st+1+(i:Int)*(dd+qq)+dd-1),zc (x:=(i:Int)+1),show decide ((1:Nat)=1)=true from rfl,zZ]
  dsimp only[zj,zb]
  have hq:b4=false->(ws W)[(st+1+(i:Int)*(dd+qq)+(dd+qq)-1).toNat]? = some (U (wd [W] 0 (st+1+(i:Int)*(dd+qq)+(dd+qq)-1)))/\decide (0<=st+1+(i:Int)*(dd+qq)+(dd+qq)-1)=true/\decide (st+1+(i:Int)*(dd+qq)+(dd+qq)-1<(W.length:Int))=true:=fun e=>by
   have:=h4 e
   exact ⟨wv (by omega) (by omega),decide_eq_true (by omega),decide_eq_true (by omega)⟩
  have hd:b3=false->(ws W)[(st+1+(i:Int)*(dd+qq)+dd-1).toNat]? = some (U (wd [W] 0 (st+1+(i:Int)*(dd+qq)+dd-1)))/\decide (0<=st+1+(i:Int)*(dd+qq)+dd-1)=true/\decide (st+1+(i:Int)*(dd+qq)+dd-1<(W.length:Int))=true:=fun e=>by
   have:=h3 e
   exact ⟨wv (by omega) (by omega),decide_eq_true (by omega),decide_eq_true (by omega)⟩
  cases b3 with
  |true=>
   dsimp only[zb]
   cases b4 with
   |true=>
    dsimp only[zb]
    exact ih (i+1) true true (by omega) (fun h=>by cases h) (fun h=>by cases h)
   |false=>
    obtain ⟨q1,q2,q3⟩:=hq rfl
    dsimp only[zl]
    rw[q1,q2,q3]
    dsimp only[zj,zqR,z9,zqP,xc,zb]
    exact ih (i+1) true _ (by omega) (fun h=>by cases h) (fun _=>h4 rfl)
  |false=>
   obtain ⟨d1,d2,d3⟩:=hd rfl
   dsimp only[zl]
   rw[d1,d2,d3]
   dsimp only[zj,zqR,z9,zqP,xc,zb]
   cases b4 with
   |true=>
    dsimp only[zb]
    exact ih (i+1) _ true (by omega) (fun _=>h3 rfl) (fun h=>by cases h)
   |false=>
    obtain ⟨q1,q2,q3⟩:=hq rfl
    dsimp only[zl]
    rw[q1,q2,q3]
    dsimp only[zj,zqR,z9,zqP,xc,zb]
    exact ih (i+1) _ _ (by omega) (fun _=>h3 rfl) (fun _=>h4 rfl)
theorem zdt {f:Nat->Bool} {n:Nat} {x:Int}:xM f n 0 (x==0)=true↔x=0∨xM f n 0 false=true:=by
 rw[VT,VT]
 constructor
 ·rintro (h|h)
  ·exact .inl (by simpa using h)
  ·exact .inr (.inr h)
 ·rintro (h|h|h)
  ·exact .inl (by simpa using h)
  ·cases h
  ·exact .inr h
theorem jn {W:List Int} (hl:W.length<=1099511627776) (hw:∀ x∈W,zC x) {d w o k:Int} (hk:0<=k/\k<=1099511627776) {F:Int->CS->Option CS} (hF:VF W d w o (k+1) F) {a:Int} (ha:0<=a/\a<W.length) {p:PT} (hp1:-536870912<=p.2.1/\p.2.1<=536870911) (hp3:0<=p.2.2.2.2.2.1/\p.2.2.2.2.2.1<=536870911) {s:CS} (hs:Rg W s) :
  Vs W d w o (ev 249 [.ptr 0 0,.pv (I a),.pv (I k),.pv (.agg (yf p))] (ch W s.1 d w o s.2)) (vz F W a p s)/\∀ s',vz F W a p s=some s'->Rg W s':=by
 have hs1:=hs.1
 have hs2:=hs.2
 have hS:=Zm hl hw
 have hww:zC (wd [W] 0 s.1):=xY hS 0 s.1
 obtain ⟨to1,to2,td1,td2,tq1,tq2,-,-,-,-,-,-⟩:=wF hww
 have hrg:∀ s',vz F W a p s=some s'->Rg W s':=by
  intro s' h
  unfold vz at h
  split at h
  ·rename_i h1
   obtain ⟨_,h2,⟨h4,h5,h6⟩,h3⟩:=h1
   have hb:=vC h2
   unfold Vq at h
   split at h
   ·split at h
    ·cases h
     exact ⟨by dsimp only;omega,by dsimp only;omega,by dsimp only;omega⟩
    ·cases h
   ·split at h
    ·refine zjT _ _ (fun j s9 _ hj hs9=>?_) _ ⟨by dsimp only;omega,by dsimp only;omega,by dsimp only;omega⟩ s' h
     obtain ⟨m1,m2,m3⟩:=Vx (n:=(zk (wd [W] 0 s.1)).2.1.toNat) (show j<_ by omega) (z:=(zk (wd [W] 0 s.1)).2.2.1+(zk (wd [W] 0 s.1)).2.2.2.1) ⟨by omega,by omega⟩ (by omega)
     rw[show (((zk (wd [W] 0 s.1)).2.1.toNat:Nat):Int)=(zk (wd [W] 0 s.1)).2.1 by omega,h6] at m2
     exact Km (fun a s h1 h2 h3=>(hF a s h1 h2 h3).2) _ _ _ (by omega) (by omega) hs9
    ·cases h
  ·cases h
 refine ⟨?_,hrg⟩
 have hE:ev 249 [.ptr 0 0,.pv (I a),.pv (I k),.pv (.agg (yf p))] (ch W s.1 d w o s.2)=_:=ziE (ws W) s.1 d w o s.2 a k p.1 p.2.1 p.2.2.1 p.2.2.2.1 p.2.2.2.2.1 p.2.2.2.2.2.1 p.2.2.2.2.2.2.1 p.2.2.2.2.2.2.2.1 p.2.2.2.2.2.2.2.2.1 p.2.2.2.2.2.2.2.2.2
 have hO:=JZ hS (nx:=s.1) (d:=d) (w:=w) (o:=o) (m:=s.2) (at_:=a) (n:=p.2.2.2.2.2.1+1) (p:=p) (by omega) hp1 (by omega) (by omega)
 unfold yf ch at hO
 rw[hE,zc (x:=p.2.2.2.2.2.1+1)]
 unfold vz
 by_cases h1:a+1+p.2.1=s.1/\inB [W] 0 s.1 (p.2.2.2.2.2.1+1)
 ·have hb:=vC h1.2
  rw[if_pos h1] at hO
  rw[hO]
  have hD:=wj hww
  have hC:=Qy (W:=W) (nx:=s.1+(p.2.2.2.2.2.1+1)) (d:=d) (w:=w) (o:=o) (m:=s.2) (c:=p.2.2.2.2.2.1+1) (by omega) (by omega)
  have hC2:=Qy (W:=W) (nx:=s.1+(p.2.2.2.2.2.1+1)) (d:=d) (w:=w) (o:=o) (m:=s.2-(p.2.2.2.2.2.1+1)) (c:=(zk (wd [W] 0 s.1)).2.1)
  unfold yf at hD
  unfold ch at hC hC2
  dsimp only[xP,xV,yt,zqR]
  rw[show decide ((1:Nat)=1)=true from rfl,zZ,dT (0<=s.1),dT (s.1<(W.length:Int)),wv (by omega) (by omega)]
  dsimp only[zj,zqR,z9,zqP,zb]
  rw[hD]
  dsimp only[zv,zP,zqR,vg,yh,zj,zA,zb]
  clear hD hww
  generalize zk (wd [W] 0 s.1)=t at *
  rw[zc (x:=t.2.2.1+t.2.2.2.1)]
  by_cases k1:t.1=0
  ·rw[beq_iff_eq.2 k1]
   dsimp only[zb]
   by_cases k2:0<=t.2.1
   ·rw[decide_eq_true (show t.2.1≥0 from k2)]
    dsimp only[zb]
    have hmul:=Xv (o:=t.2.1) (n:=t.2.2.1+t.2.2.2.1) ⟨k2,to2⟩ ⟨by omega,by omega⟩
    rw[zc (x:=t.2.1*(t.2.2.1+t.2.2.2.1))]
    by_cases k3:t.2.1*(t.2.2.1+t.2.2.2.1)=p.2.2.2.2.2.1
    ·rw[beq_iff_eq.2 k3,vN]
     dsimp only[zv,zP,zqR]
     rw[hC]
     by_cases k4:p.2.2.2.2.2.1+1>s.2
     ·rw[if_pos k4,if_neg (fun h=>by omega)]
      exact ⟨(s.1+(p.2.2.2.2.2.1+1),s.2),rfl⟩
     ·rw[if_neg k4,if_pos ⟨h1.1,h1.2,⟨k1,k2,k3⟩,by omega⟩]
      dsimp only[xP]
      unfold Vq
      by_cases hz:t.2.2.1+t.2.2.2.1=0
      ·rw[beq_iff_eq.2 hz,if_pos hz]
       dsimp only[zb]
       rw[hC2 (by omega) (by omega)]
       by_cases k5:t.2.1>s.2-(p.2.2.2.2.2.1+1)
       ·rw[if_pos k5,if_neg (by omega)]
        exact ⟨(s.1+(p.2.2.2.2.2.1+1),s.2-(p.2.2.2.2.2.1+1)),rfl⟩
       ·rw[if_neg k5,if_pos (by omega)]
        rfl
      ·rw[beq_eq_false_iff_ne.2 hz,if_neg hz]
       dsimp only[zl]
       obtain ⟨n,hn⟩:=Int.eq_ofNat_of_zero_le k2
       have hbn:s.1+1+(n:Int)*(t.2.2.1+t.2.2.2.1)<=W.length:=by rw[←hn,k3];omega
       have hL0:=zj7 hl (k:=k) (n:=n) (st:=s.1) (dd:=t.2.2.1) (qq:=t.2.2.2.1) (by omega) ⟨td1,td2⟩ ⟨tq1,tq2⟩ (by omega) hbn (I (s.1+(p.2.2.2.2.2.1+1))) (I d) (I w) (I o) (I (s.2-(p.2.2.2.2.2.1+1))) p.1 p.2.1 p.2.2.1 p.2.2.2.1 p.2.2.2.2.1 p.2.2.2.2.2.1 p.2.2.2.2.2.2.1 p.2.2.2.2.2.2.2.1 p.2.2.2.2.2.2.2.2.1 p.2.2.2.2.2.2.2.2.2 (I t.1) (I t.2.2.2.2.1) (I t.2.2.2.2.2.1) (Bo t.2.2.2.2.2.2.1) (I t.2.2.2.2.2.2.2.1) (yD t.2.2.2.2.2.2.2.2.1) (yD t.2.2.2.2.2.2.2.2.2) n 0 (t.2.2.1==0) (t.2.2.2.1==0) (by omega) (fun h=>by have:=beq_eq_false_iff_ne.1 h;omega) (fun h=>by have:=beq_eq_false_iff_ne.1 h;omega)
       have hL2:=zj8 hl hk hF (n:=n) (st:=s.1) (dd:=t.2.2.1) (qq:=t.2.2.2.1) (by omega) ⟨td1,td2⟩ ⟨tq1,tq2⟩ (by omega) hbn p.1 p.2.1 p.2.2.1 p.2.2.2.1 p.2.2.2.2.1 p.2.2.2.2.2.1 p.2.2.2.2.2.2.1 p.2.2.2.2.2.2.2.1 p.2.2.2.2.2.2.2.2.1 p.2.2.2.2.2.2.2.2.2 (I t.1) (I n) (I t.2.2.2.2.1) (I t.2.2.2.2.2.1) (Bo t.2.2.2.2.2.2.1) (I t.2.2.2.2.2.2.2.1) (yD t.2.2.2.2.2.2.2.2.1) (yD t.2.2.2.2.2.2.2.2.2) n 0 (s.1+(p.2.2.2.2.2.1+1),s.2-(p.2.2.2.2.2.1+1)) (by omega) ⟨by dsimp only;omega,by dsimp only;omega,by dsimp only;omega⟩
       rw[show ((0:Nat):Int)=0 from rfl] at hL0 hL2
       rw[hn,hL0,show ((n:Int)).toNat=n from zqK n]
       simp only[zdt]
       by_cases k6:(t.2.2.1=0∨xM (xf W (s.1+1) (t.2.2.1+t.2.2.2.1) t.2.2.1) n 0 false=true)/\(t.2.2.2.1=0∨xM (xf W (s.1+1) (t.2.2.1+t.2.2.2.1) (t.2.2.1+t.2.2.2.1)) n 0 false=true)
       ·rw[if_pos k6,if_pos k6]
        exact hL2
       ·rw[if_neg k6,if_neg k6]
        exact ⟨(s.1+(p.2.2.2.2.2.1+1),s.2-(p.2.2.2.2.2.1+1)),rfl⟩
    ·rw[beq_eq_false_iff_ne.2 k3,wN,if_neg (fun h=>k3 h.2.2.1.2.2)]
     exact ⟨(s.1+(p.2.2.2.2.2.1+1),s.2),rfl⟩
   ·rw[decide_eq_false (show ¬t.2.1≥0 from k2),if_neg (fun h=>k2 h.2.2.1.2.1)]
    dsimp only[zl]
    rw[wN]
    exact ⟨(s.1+(p.2.2.2.2.2.1+1),s.2),rfl⟩
  ·rw[beq_eq_false_iff_ne.2 k1,if_neg (fun h=>k1 h.2.2.1.1)]
   dsimp only[zl]
   rw[wN]
   exact ⟨(s.1+(p.2.2.2.2.2.1+1),s.2),rfl⟩
 ·rw[if_neg h1] at hO
  rw[hO,if_neg (fun h=>h1 ⟨h.1,h.2.1⟩)]
  exact ⟨s,rfl⟩
theorem zgc {W:List Int} (hl:W.length<=1099511627776) (hw:∀ x∈W,zC x) {d w o k:Int} (hk:0<=k/\k<=1099511627776) {F:Int->CS->Option CS} (hF:VF W d w o (k+1) F) {a:Int} (ha:0<=a/\a<W.length) {p:PT} (hp1:-536870912<=p.2.1/\p.2.1<=536870911) (hp3:0<=p.2.2.2.2.2.1/\p.2.2.2.2.2.1<=536870911) (h7:p.2.2.2.2.1=7) {s:CS} (hs:Rg W s) :
  Vs W d w o (ev 194 [.ptr 0 0,.pv (I a),.pv (I k),.pv (.agg (yf p))] (ch W s.1 d w o s.2)) (vz F W a p s):=by
 have hC:=(jn hl hw hk hF ha hp1 hp3 hs).1
 have hE:ev 194 [.ptr 0 0,.pv (I a),.pv (I k),.pv (.agg (yf p))] (ch W s.1 d w o s.2)=_:=zaJ (ws W) s.1 d w o s.2 a k p.1 p.2.1 p.2.2.1 p.2.2.2.1 p.2.2.2.2.1 p.2.2.2.2.2.1 p.2.2.2.2.2.2.1 p.2.2.2.2.2.2.2.1 p.2.2.2.2.2.2.2.2.1 p.2.2.2.2.2.2.2.2.2
 rw[hE,beq_iff_eq.2 h7]
 dsimp only[zb]
 unfold yf ch at hC
 cases hq:vz F W a p s with
 |none=>
  rw[hq] at hC
  obtain ⟨t,ht⟩:=hC
  unfold ch at ht
  rw[ht]
  exact ⟨t,rfl⟩
 |some t=>
  rw[hq] at hC
  have hC':ev 249 [.ptr 0 0,.pv (I a),.pv (I k),.pv (.agg [I p.1,I p.2.1,I p.2.2.1,I p.2.2.2.1,I p.2.2.2.2.1,I p.2.2.2.2.2.1,Bo p.2.2.2.2.2.2.1,I p.2.2.2.2.2.2.2.1,yD p.2.2.2.2.2.2.2.2.1,yD p.2.2.2.2.2.2.2.2.2])] [[.pv (.sl 1 (ws W)),.pv (I s.1),.pv (I d),.pv (I w),.pv (I o),.pv (I s.2)]]=some (.ret (.pv (.tup [])),ch W t.1 d w o t.2):=hC
  rw[hC']
  rfl
theorem zgi {W:List Int} (hl:W.length<=1099511627776) (hw:∀ x∈W,zC x) {d w o:Int} (hd:d<=1099511627775):∀ (D:Nat) (k:Int),0<=k->k<=1099511627776->(d+1-k).toNat=D->VF W d w o k (xK W D):=by
 have hS:=Zm hl hw
 intro D
 induction D with
 |zero=>
  intro k k0 k1 hD a s ha0 ha1 hs
  have hww:zC (wd [W] 0 a):=xY hS 0 a
  refine ⟨?_,fun s' h=>?_⟩
  ·unfold ch
   rw[qw,zZ,decide_eq_true ha0,decide_eq_true ha1,wv ha0 ha1,xK]
   dsimp only[zj,zqR,z9,zqP,zb]
   rw[Ws]
   by_cases hz:wd [W] 0 a=0
   ·rw[beq_iff_eq.2 hz,if_pos hz]
    rfl
   ·rw[beq_eq_false_iff_ne.2 hz,if_neg hz]
    dsimp only[zv,zP,zqR,yL,zl]
    rw[Qs,if_pos (by omega)]
    dsimp only[zv,zP,zqR,zA]
    rw[show ((7:Int)==0)=false from rfl,wN]
    exact ⟨s,rfl⟩
  ·rw[xK] at h
   dsimp only at h
   split at h
   ·cases h;exact hs
   ·cases h
 |succ D ih=>
  intro k k0 k1 hD a s ha0 ha1 hs
  have hww:zC (wd [W] 0 a):=xY hS 0 a
  have hF:=ih (k+1) (by omega) (by omega) (by omega)
  obtain ⟨p1,p2,p3,p4,p5,p6,p7,p8,p9,p10,p11,p12⟩:=wF hww
  have hk:=Zi hww
  have hst:=zgh hl hw (d:=d) (w:=w) (o:=o) (k:=k) ⟨k0,by omega⟩ hF ⟨ha0,ha1⟩ (p:=zk (wd [W] 0 a)) ⟨⟨p1,p2⟩,⟨p3,p4⟩,⟨p5,p6⟩⟩ hs
  have hco:=jn hl hw (d:=d) (w:=w) (o:=o) (k:=k) ⟨k0,by omega⟩ hF ⟨ha0,ha1⟩ (p:=zk (wd [W] 0 a)) ⟨p1,p2⟩ ⟨p9,p10⟩ hs
  have hli:¬(zk (wd [W] 0 a)).2.2.2.2.1=7->_:=fun h7=>zgf hl hw (d:=d) (w:=w) (o:=o) (k:=k) ⟨k0,by omega⟩ hF ⟨ha0,ha1⟩ (p:=zk (wd [W] 0 a)) ⟨⟨p1,p2⟩,⟨p7,by omega⟩,⟨p9,p10⟩⟩ hs
  have hlc:(zk (wd [W] 0 a)).2.2.2.2.1=7->_:=fun h7=>zgc hl hw (d:=d) (w:=w) (o:=o) (k:=k) ⟨k0,by omega⟩ hF ⟨ha0,ha1⟩ (p:=zk (wd [W] 0 a)) ⟨p1,p2⟩ ⟨p9,p10⟩ h7 hs
  have hLI:Vs W d w o (ev 194 [.ptr 0 0,.pv (I a),.pv (I k),.pv (.agg (yf (zk (wd [W] 0 a))))] (ch W s.1 d w o s.2)) (if (zk (wd [W] 0 a)).2.2.2.2.1=7 then vz (xK W D) W a (zk (wd [W] 0 a)) s else Zf (xK W D) W a (zk (wd [W] 0 a)) s):=by
   by_cases h7:(zk (wd [W] 0 a)).2.2.2.2.1=7
   ·rw[if_pos h7];exact hlc h7
   ·rw[if_neg h7];exact (hli h7).1
  refine ⟨?_,fun s' h=>?_⟩
  ·have hdc:=wj hww
   unfold yf at hdc
   unfold ch
   rw[qw,zZ,decide_eq_true ha0,decide_eq_true ha1,wv ha0 ha1,xK]
   dsimp only[zj,zqR,z9,zqP,zb]
   rw[Ws]
   by_cases hz:wd [W] 0 a=0
   ·rw[beq_iff_eq.2 hz,if_pos hz]
    rfl
   ·rw[beq_eq_false_iff_ne.2 hz,if_neg hz]
    dsimp only[zv,zP,zqR,yL,zl]
    rw[Qs,if_neg (by omega)]
    dsimp only[zv,zP,zqR,zA]
    rw[show ((0:Int)==0)=true from rfl,vN]
    dsimp only[zv,zP,zqR]
    rw[hdc]
    dsimp only[zv,zP,zqR,vg,yh,zj,zA,zb]
    unfold XT
    by_cases h0:(zk (wd [W] 0 a)).1=0
    ·rw[beq_iff_eq.2 h0,if_pos h0]
     dsimp only[zb]
     have hV:=hst.1
     unfold yf ch at hV
     cases hq:ZF (xK W D) W a (zk (wd [W] 0 a)) s with
     |none=>
      rw[hq] at hV
      obtain ⟨t,ht⟩:=hV
      unfold ch at ht
      rw[ht]
      exact ⟨t,rfl⟩
     |some t=>
      rw[hq] at hV
      refine (qo (show _=some (Out.ret (.pv (.tup [])),ch W t.1 d w o t.2) from hV)).trans ?_
      rfl
    ·rw[beq_eq_false_iff_ne.2 h0,if_neg h0]
     dsimp only[zl]
     by_cases h1:(zk (wd [W] 0 a)).1=1
     ·rw[beq_iff_eq.2 h1,if_pos h1]
      dsimp only[zb]
      have hV:=hLI
      unfold yf ch at hV
      cases hq:(if (zk (wd [W] 0 a)).2.2.2.2.1=7 then vz (xK W D) W a (zk (wd [W] 0 a)) s else Zf (xK W D) W a (zk (wd [W] 0 a)) s) with
      |none=>
       rw[hq] at hV
       obtain ⟨t,ht⟩:=hV
       unfold ch at ht
       rw[ht]
       exact ⟨t,rfl⟩
      |some t=>
       rw[hq] at hV
       refine (qo (show _=some (Out.ret (.pv (.tup [])),ch W t.1 d w o t.2) from hV)).trans ?_
       rfl
     ·rw[beq_eq_false_iff_ne.2 h1,if_neg h1]
      dsimp only[zl]
      rw[wN]
      exact ⟨s,rfl⟩
  ·rw[xK] at h
   dsimp only at h
   split at h
   ·cases h;exact hs
   ·unfold XT at h
    split at h
    ·exact hst.2 s' h
    ·split at h
     ·split at h
      ·exact hco.2 s' h
      ·rename_i h7
       exact (hli h7).2 s' h
     ·cases h
def ZG (W:List Int) (d w:Int):Bool:=match xK W d.toNat 0 (1,max w 0) with
 |some s=>decide (0<W.length)&&(s.1==(W.length:Int))
 |none=>false
theorem zgd {W:List Int} (hl:W.length<=1099511627776) (hw:∀ x∈W,zC x) {d w o:Int} (hd:d<=1099511627775) (hm:w<=1099511627776):ev 76 [.pv (.sl 1 (ws W)),.pv (.agg [I d,I w,I o])] []=ok (Bo (ZG W d w)):=by
 rw[qv,zZ]
 by_cases h0:0<W.length
 ·rw[dT ((W.length:Int)>0),vN,Qw]
  dsimp only[zv,zP,zqR,Kl,zqP,yh,zj,zb]
  obtain ⟨hv,-⟩:=zgi hl hw (d:=d) (w:=w) (o:=o) hd d.toNat 1 (by decide) (by decide) (by omega) 0 (1,max w 0) (Int.le_refl _) (by omega) ⟨by dsimp only;omega,by dsimp only;omega,by dsimp only;omega⟩
  unfold ch at hv
  dsimp only at hv
  unfold ZG
  cases hq:xK W d.toNat 0 (1,max w 0) with
  |none=>
   rw[hq] at hv
   obtain ⟨t,ht⟩:=hv
   unfold ch at ht
   rw[ht]
   rfl
  |some t=>
   rw[hq] at hv
   refine (qo (show _=some (Out.ret (.pv (.tup [])),ch W t.1 d w o t.2) from hv)).trans ?_
   dsimp only
   rw[decide_eq_true h0,Bool.true_and]
   rfl
 ·rw[dF ((W.length:Int)>0),wN]
  have hf:ZG W d w=false:=by
   unfold ZG
   cases xK W d.toNat 0 (1,max w 0) with
   |none=>rfl
   |some t=>dsimp only;rw[decide_eq_false h0];rfl
  rw[hf]
  rfl
def rv:Option CS->Int
 |some s=>s.1
 |none=>-1
def Y4 (W:List Int) (F:Int->CS->Option CS) (G:Int->Int->Int->Nd×Int×Int):Prop:=∀ (a:Int) (s:CS),0<=a->a<(W.length:Int)->Rg W s->(G s.2 0 a).2.2=0->ev 133 [.pv (.sl 1 (ws W)),.pv (I s.1),.pv (I a)] []=ok (I (rv (F a s)))
section
variable {W:List Int} {D:Nat} {F:Int->CS->Option CS} {G:Int->Int->Int->Nd×Int×Int}
theorem zpO (hl:W.length<=1099511627776) (L:Lk W D F G) (R:Y4 W F G) {p:Int} (hp:0<=p) {n:Nat} (hb:p+n<=W.length):∀ (c i:Nat) (s:CS) (acc:List Nd),i+c=n->Rg W s->(z6 (fun m (i:Nat)=>G m 0 (p+i)) c i s.2 acc).2.2=0->
  Kh (ws W) p n (I s.1) i=ok (I (rv (y4 F c (p+i) s))):=by
 intro c
 induction c with
 |zero=>
  intro i s acc hi hs hk
  rw[zbm,dF ((i:Int)<(n:Int))]
  rfl
 |succ c ih=>
  intro i s acc hi hs hk
  have h0:(G s.2 0 (p+i)).2.2=0:=by
   apply Classical.byContradiction
   intro h
   rw[ZX (F:=fun m (i:Nat)=>G m 0 (p+i)) h] at hk
   exact h hk
  rw[ZY (F:=fun m (i:Nat)=>G m 0 (p+i)) h0] at hk
  rw[zbm,dT ((i:Int)<(n:Int)),zc (x:=p+(i:Int)),zc (x:=(i:Int)+1)]
  dsimp only[zb]
  rw[R (p+i) s (by omega) (by omega) hs h0,y4]
  cases hF:F (p+i) s with
  |none=>rfl
  |some t=>
   obtain ⟨ht,y,e1,-⟩:=L (p+i) s t (by omega) (by omega) hs hF
   rw[e1] at hk
   have ht1:=ht.1
   dsimp only[rv,zh,zA,zqR]
   rw[dF (t.1<0)]
   have:=ih (i+1) t _ (by omega) ht hk
   rw[show p+((i+1:Nat):Int)=p+i+1 by push_cast;omega] at this
   exact this
theorem qc (hl:W.length<=1099511627776) (L:Lk W D F G) (R:Y4 W F G) {p n:Int} (hp:0<=p) (hn:0<=n) (hb:p+n<=W.length) {s:CS} (hs:Rg W s) (hk:(z6 (fun m (i:Nat)=>G m 0 (p+i)) n.toNat 0 s.2 []).2.2=0) :
  ev 196 [.pv (.sl 1 (ws W)),.pv (I s.1),.pv (I p),.pv (I n)] []=ok (I (rv (y4 F n.toNat p s))):=by
 rw[zjy]
 have:=zpO hl L R hp (n:=n.toNat) (by omega) n.toNat 0 s [] (by omega) hs hk
 rw[show p+((0:Nat):Int)=p by simp,show ((n.toNat:Nat):Int)=n by omega] at this
 exact this
theorem zj4 {b t:List Int} (hb:b.length<=17592186044416) (ht:t.length<=17592186044416) (e:Int) (x1 x2 x3 x4 x5 x6 x7 x8 x9 x10:PV):∀ (c i:Nat),i+c=b.length->((t++List.replicate b.length 0).take b.length).take i=b.take i->
  ZS e (.sl 1 (bs b)) (.sl 1 (bs t)) i x1 x2 x3 x4 x5 x6 x7 x8 x9 x10=ok (I (if (t++List.replicate b.length 0).take b.length=b then e else -1)):=by
 intro c
 induction c with
 |zero=>
  intro i hi hp
  rw[List.take_take,Nat.min_eq_left (by omega),show i=b.length by omega,List.take_length] at hp
  rw[if_pos hp,zbl]
  dsimp only[yt,zqR]
  rw[zU,dF ((i:Int)<(b.length:Int))]
  rfl
 |succ c ih=>
  intro i hi hp
  have hib:i<b.length:=by omega
  have hlen:((t++List.replicate b.length 0).take b.length).length=b.length:=by rw[zqN,zqS,List.length_replicate];omega
  have hq:((t++List.replicate b.length 0).take b.length)[i]'(by rw[hlen];exact hib)=if h:i<t.length then t[i] else 0:=by
   rw[List.getElem_take,List.getElem_append]
   split
   ·rfl
   ·simp
  have hne:b[i]≠(if h:i<t.length then t[i] else 0)->¬(t++List.replicate b.length 0).take b.length=b:=by
   intro h1 h2
   apply h1
   rw[←hq]
   simp only[h2]
  have hgo:b[i]=(if h:i<t.length then t[i] else 0)->((t++List.replicate b.length 0).take b.length).take (i+1)=b.take (i+1):=by
   intro h1
   rw[xH (show i<((t++List.replicate b.length 0).take b.length).length by omega),xH hib,hp,hq,h1]
  rw[zbl]
  dsimp only[yt,zqR]
  rw[zU,zU,dT ((i:Int)<(b.length:Int)),dT ((0:Int)<=(i:Int)),show decide ((1:Nat)=1)=true from rfl,zqK,Ze hib,zc (x:=(i:Int)+1)]
  dsimp only[zj,zqR,z9,zqP,wV,zb]
  by_cases h1:i<t.length
  ·rw[dif_pos h1] at hne hgo
   rw[dT ((i:Int)<(t.length:Int)),Ze h1,dF ((i:Int)≥(t.length:Int))]
   dsimp only[zl,zqR,z9,zqP,wV,zb]
   by_cases h2:b[i]=t[i]
   ·rw[show (b[i] != t[i])=false from by simpa using h2]
    exact ih (i+1) (by omega) (hgo h2)
   ·rw[show (b[i] != t[i])=true from by simpa using h2,if_neg (hne h2)]
    rfl
  ·rw[dif_neg h1] at hne hgo
   rw[dF ((i:Int)<(t.length:Int)),dT ((i:Int)≥(t.length:Int))]
   dsimp only[zb,zl]
   by_cases h2:b[i]=0
   ·rw[show (b[i] != 0)=false from by simpa using h2]
    exact ih (i+1) (by omega) (hgo h2)
   ·rw[yP h2,if_neg (hne h2)]
    rfl
theorem zeL {m:Int} {o:Ob} (h:(zV G [W] m o).2.2=0):(z6 (fun m (i:Nat)=>G m o.seg (o.at_+o.data+i)) o.ptrs.toNat 0 m []).2.2=0:=h
theorem zn2 (hl:W.length<=1099511627776) (hw:∀ x∈W,zC x) (L:Lk W D F G) (R:Y4 W F G) {n:Nat} {st dd qq:Int} (hst:0<=st) (hdd:0<=dd/\dd<=65535) (hqq:0<=qq/\qq<=65535) (hn:n<=536870911) (hb:st+n*(dd+qq)<=W.length) (cost:Int) (x1 x2 x3 x4 x5 x6 x7 x8 x9 x10:PV):∀ (c i:Nat) (s:CS) (acc:List Nd),i+c=n->Rg W s->(z6 (fun m (i:Nat)=>zV G [W] m ⟨1,0,st+i*(dd+qq),dd,qq,0,0,0⟩) c i s.2 acc).2.2=0->
  YI (ws W) (I s.1) i x1 x2 x3 x4 x5 x6 x7 x8 x9 x10 (I 2) (I 0) (I st) (I dd) (I qq) (I 7) (I n) (I cost)=ok (I (rv (wQ (fun (i:Nat)=>y4 F qq.toNat (st+i*(dd+qq)+dd)) c i s))):=by
 intro c
 induction c with
 |zero=>
  intro i s acc hi hs hk
  rw[qI]
  dsimp only[zA,zqR]
  rw[dF ((i:Int)<(n:Int))]
  rfl
 |succ c ih=>
  intro i s acc hi hs hk
  obtain ⟨m1,m2,m3⟩:=Vx (show i<n by omega) (z:=dd+qq) ⟨by omega,by omega⟩ hn
  rw[qI]
  dsimp only[zA,zqR]
  rw[dT ((i:Int)<(n:Int))]
  dsimp only[zb]
  by_cases hq0:qq=0
  ·rw[dF (qq>0)]
   have:∀ (c i:Nat) (s:CS),wQ (fun (i:Nat)=>y4 F qq.toNat (st+i*(dd+qq)+dd)) c i s=some s:=by
    intro c
    induction c with
    |zero=>intro i s;rfl
    |succ c ih2=>
     intro i s
     rw[wQ,hq0]
     have:=ih2 (i+1) s
     rw[hq0] at this
     exact this
   rw[this]
   rfl
  ·have h0:(zV G [W] s.2 ⟨1,0,st+i*(dd+qq),dd,qq,0,0,0⟩).2.2=0:=by
    apply Classical.byContradiction
    intro h
    rw[ZX (F:=fun m (i:Nat)=>zV G [W] m ⟨1,0,st+i*(dd+qq),dd,qq,0,0,0⟩) h] at hk
    exact h hk
   rw[ZY (F:=fun m (i:Nat)=>zV G [W] m ⟨1,0,st+i*(dd+qq),dd,qq,0,0,0⟩) h0] at hk
   have hel:=J5 ⟨2,0,st,dd,qq,7,n,cost⟩ i (by dsimp only;omega) (by dsimp only;omega) (by dsimp only;omega)
   unfold Ob.c ye at hel
   dsimp only at hel
   rw[dT (qq>0)]
   dsimp only[zb]
   rw[hel]
   dsimp only[zh,WW,yh,zj,zA,zqR,zb]
   rw[zc (x:=st+(i:Int)*(dd+qq)+dd)]
   have hv:=qc hl L R (p:=st+(i:Int)*(dd+qq)+dd) (n:=qq) (by omega) hqq.1 (by omega) hs (zeL (o:=⟨1,0,st+i*(dd+qq),dd,qq,0,0,0⟩) h0)
   rw[hv,wQ,zc (x:=(i:Int)+1)]
   cases hP:y4 F qq.toNat (st+(i:Int)*(dd+qq)+dd) s with
   |none=>rfl
   |some t=>
    obtain ⟨ht,y,d,ks,f1,-⟩:=Jp hl hw L (e:=st+i*(dd+qq)) (by omega) hdd.1 hqq.1 (by omega) hs hP (o:=⟨1,0,st+i*(dd+qq),dd,qq,0,0,0⟩) rfl rfl rfl rfl
    rw[f1] at hk
    have ht1:=ht.1
    dsimp only[rv,zh,zA,zqR]
    rw[dF (t.1<0)]
    exact ih (i+1) t _ (by omega) ht hk
theorem zn1 (hl:W.length<=1099511627776) {n:Nat} {st dd qq:Int} (hst:0<=st) (hdd:0<=dd/\dd<=65535) (hqq:0<=qq/\qq<=65535) (hz:¬dd+qq=0) (hn:n<=536870911) (hb:st+n*(dd+qq)<=W.length) (e cost:Int) (x1 x2 x3 x4 x5 x6 x7 x8 x9 x10:PV):∀ (c i:Nat) (b2 b3:Bool),i+c=n->(dd=0->b2=true)->(qq=0->b3=true)->
  wZ (ws W) e b2 b3 i x1 x2 x3 x4 x5 x6 x7 x8 x9 x10 (I 2) (I 0) (I st) (I dd) (I qq) (I 7) (I n) (I cost)=if xM (xf W st (dd+qq) dd) c i b2=true/\xM (xf W st (dd+qq) (dd+qq)) c i b3=true then YI (ws W) (I e) 0 x1 x2 x3 x4 x5 x6 x7 x8 x9 x10 (I 2) (I 0) (I st) (I dd) (I qq) (I 7) (I n) (I cost) else ok (I (-1)):=by
 intro c
 induction c with
 |zero=>
  intro i b2 b3 hi h2 h3
  rw[qH]
  dsimp only[zA,zqR]
  rw[dF ((i:Int)<(n:Int))]
  cases b2
  ·rw[if_neg (fun h=>by cases h.1)];rfl
  ·cases b3
   ·rw[if_neg (fun h=>by cases h.2)];rfl
   ·rw[if_pos ⟨rfl,rfl⟩];rfl
 |succ c ih=>
  intro i b2 b3 hi h2 h3
  obtain ⟨m1,m2,m3⟩:=Vx (show i<n by omega) (z:=dd+qq) ⟨by omega,by omega⟩ hn
  have hel:=J5 ⟨2,0,st,dd,qq,7,n,cost⟩ i (by dsimp only;omega) (by dsimp only;omega) (by dsimp only;omega)
  unfold Ob.c ye at hel
  dsimp only at hel
  rw[qH,xM,xM]
  dsimp only[zA,zqR]
  rw[dT ((i:Int)<(n:Int)),zc (x:=dd+qq),dT (dd+qq>0)]
  dsimp only[zb]
  rw[hel]
  dsimp only[zh,WW,yh,zj,zA,zqR,zb]
  rw[zc (x:=st+(i:Int)*(dd+qq)+dd),zc (x:=st+(i:Int)*(dd+qq)+dd-1),zc (x:=st+(i:Int)*(dd+qq)+dd+qq),zc (x:=st+(i:Int)*(dd+qq)+dd+qq-1),zc (x:=(i:Int)+1),zZ]
  have fin:∀ b2' b3':Bool,(b2||xf W st (dd+qq) dd i)=b2'->(b3||xf W st (dd+qq) (dd+qq) i)=b3'->(dd=0->b2' = true)->(qq=0->b3' = true)->wZ (ws W) e b2' b3' ((i:Int)+1) x1 x2 x3 x4 x5 x6 x7 x8 x9 x10 (I 2) (I 0) (I st) (I dd) (I qq) (I 7) (I n) (I cost)=if xM (xf W st (dd+qq) dd) c (i+1) (b2||xf W st (dd+qq) dd i)=true/\xM (xf W st (dd+qq) (dd+qq)) c (i+1) (b3||xf W st (dd+qq) (dd+qq) i)=true then YI (ws W) (I e) 0 x1 x2 x3 x4 x5 x6 x7 x8 x9 x10 (I 2) (I 0) (I st) (I dd) (I qq) (I 7) (I n) (I cost) else ok (I (-1)):=by
   intro b2' b3' e2 e3 k2 k3
   rw[e2,e3]
   exact ih (i+1) b2' b3' (by omega) k2 k3
  have eq:st+(i:Int)*(dd+qq)+(dd+qq)-1=st+(i:Int)*(dd+qq)+dd+qq-1:=by omega
  have qz:qq=0->(b3||xf W st (dd+qq) (dd+qq) i)=b3:=fun h=>by rw[h3 h];rfl
  have qt:wd [W] 0 (st+(i:Int)*(dd+qq)+dd+qq-1)≠0->(b3||xf W st (dd+qq) (dd+qq) i)=true:=fun h=>by
   unfold xf
   rw[eq,yP h]
   cases b3<;>rfl
  have qf:wd [W] 0 (st+(i:Int)*(dd+qq)+dd+qq-1)=0->(b3||xf W st (dd+qq) (dd+qq) i)=b3:=fun h=>by
   unfold xf
   rw[eq,h]
   cases b3<;>rfl
  have dz:dd=0->(b2||xf W st (dd+qq) dd i)=b2:=fun h=>by rw[h2 h];rfl
  have dt:wd [W] 0 (st+(i:Int)*(dd+qq)+dd-1)≠0->(b2||xf W st (dd+qq) dd i)=true:=fun h=>by
   unfold xf
   rw[yP h]
   cases b2<;>rfl
  have df:wd [W] 0 (st+(i:Int)*(dd+qq)+dd-1)=0->(b2||xf W st (dd+qq) dd i)=b2:=fun h=>by
   unfold xf
   rw[h]
   cases b2<;>rfl
  by_cases hd:dd=0
  ·rw[dF (dd>0),dT (qq>0)]
   dsimp only[zb,zl]
   rw[dT (0<=st+(i:Int)*(dd+qq)+dd+qq-1),dT (st+(i:Int)*(dd+qq)+dd+qq-1<(W.length:Int)),wv (i:=st+(i:Int)*(dd+qq)+dd+qq-1) (by omega) (by omega)]
   dsimp only[zj,zqR,z9,zqP,xc,zb]
   by_cases hq1:wd [W] 0 (st+(i:Int)*(dd+qq)+dd+qq-1)=0
   ·rw[show (wd [W] 0 (st+(i:Int)*(dd+qq)+dd+qq-1) != 0)=false from by simpa using hq1]
    exact fin b2 b3 (dz hd) (qf hq1) h2 h3
   ·rw[yP hq1]
    exact fin b2 true (dz hd) (qt hq1) h2 (fun _=>rfl)
  ·rw[dT (dd>0)]
   dsimp only[zb]
   rw[dT (0<=st+(i:Int)*(dd+qq)+dd-1),dT (st+(i:Int)*(dd+qq)+dd-1<(W.length:Int)),wv (i:=st+(i:Int)*(dd+qq)+dd-1) (by omega) (by omega)]
   dsimp only[zj,zqR,z9,zqP,xc,zb]
   by_cases hd1:wd [W] 0 (st+(i:Int)*(dd+qq)+dd-1)=0
   ·rw[show (wd [W] 0 (st+(i:Int)*(dd+qq)+dd-1) != 0)=false from by simpa using hd1]
    dsimp only[zl]
    by_cases hq:qq=0
    ·rw[dF (qq>0)]
     exact fin b2 b3 (df hd1) (qz hq) h2 h3
    ·rw[dT (qq>0)]
     dsimp only[zb]
     rw[dT (0<=st+(i:Int)*(dd+qq)+dd+qq-1),dT (st+(i:Int)*(dd+qq)+dd+qq-1<(W.length:Int)),wv (i:=st+(i:Int)*(dd+qq)+dd+qq-1) (by omega) (by omega)]
     dsimp only[zj,zqR,z9,zqP,xc,zb]
     by_cases hq1:wd [W] 0 (st+(i:Int)*(dd+qq)+dd+qq-1)=0
     ·rw[show (wd [W] 0 (st+(i:Int)*(dd+qq)+dd+qq-1) != 0)=false from by simpa using hq1]
      exact fin b2 b3 (df hd1) (qf hq1) h2 h3
     ·rw[yP hq1]
      exact fin b2 true (df hd1) (qt hq1) h2 (fun _=>rfl)
   ·rw[yP hd1]
    dsimp only[zb]
    by_cases hq:qq=0
    ·rw[dF (qq>0)]
     exact fin true b3 (dt hd1) (qz hq) (fun _=>rfl) h3
    ·rw[dT (qq>0)]
     dsimp only[zb]
     rw[dT (0<=st+(i:Int)*(dd+qq)+dd+qq-1),dT (st+(i:Int)*(dd+qq)+dd+qq-1<(W.length:Int)),wv (i:=st+(i:Int)*(dd+qq)+dd+qq-1) (by omega) (by omega)]
     dsimp only[zj,zqR,z9,zqP,xc,zb]
     by_cases hq1:wd [W] 0 (st+(i:Int)*(dd+qq)+dd+qq-1)=0
     ·rw[show (wd [W] 0 (st+(i:Int)*(dd+qq)+dd+qq-1) != 0)=false from by simpa using hq1]
      exact fin true b3 (dt hd1) (qf hq1) (fun _=>rfl) h3
     ·rw[yP hq1]
      exact fin true true (dt hd1) (qt hq1) (fun _=>rfl) (fun _=>rfl)
end
theorem zfk {W:List Int} {a nx:Int} (h0:0<=a) (h1:a<(W.length:Int)) (hz:wd [W] 0 a=0):ev 133 [.pv (.sl 1 (ws W)),.pv (I nx),.pv (I a)] []=ok (I nx):=by
 rw[Vl,zZ,decide_eq_true h0,decide_eq_true h1,wv h0 h1,hz]
 rfl
theorem zfj {W:List Int} {a nx:Int} (h0:0<=a) (h1:a<(W.length:Int)) (hw:zC (wd [W] 0 a)) (hk:1<(zk (wd [W] 0 a)).1):ev 133 [.pv (.sl 1 (ws W)),.pv (I nx),.pv (I a)] []=ok (I (-1)):=by
 have hd:=ZA hw
 unfold yf at hd
 have hz:¬wd [W] 0 a=0:=fun h=>by
  rw[Zi hw,h] at hk
  exact absurd hk (by decide)
 rw[Vl,zZ,decide_eq_true h0,decide_eq_true h1,wv h0 h1]
 dsimp only[zj,zqR,z9,zqP,xc,zb]
 rw[beq_eq_false_iff_ne.2 hz]
 dsimp only[zl]
 rw[hd]
 dsimp only[zh,vg,yh,zj,zA,zqR,zb]
 rw[decide_eq_true hk]
 rfl
section
variable {W:List Int} {D:Nat} {F:Int->CS->Option CS} {G:Int->Int->Int->Nd×Int×Int}
theorem zkr {m st d q:Int} (h:(yQ G [W] m (wA [W] 0 st d q)).2.2=0):inB [W] 0 st (d+q)/\d+q<=m/\(zV G [W] (m-(d+q)) ⟨1,0,st,d,q,0,0,d+q⟩).2.2=0:=by
 unfold yQ wA at h
 by_cases hin:inB [W] 0 st (d+q)
 ·rw[if_pos hin] at h
  dsimp only at h
  rw[if_pos rfl] at h
  by_cases hc:d+q>m
  ·rw[if_pos hc] at h
   exact absurd (show (8:Int)=0 from h) (by decide)
  ·rw[if_neg hc,if_pos rfl] at h
   exact ⟨hin,by omega,h⟩
 ·rw[if_neg hin] at h
  exact absurd (show (2:Int)=0 from h) (by decide)
theorem zoK (hl:W.length<=1099511627776) (L:Lk W D F G) (R:Y4 W F G) {a:Int} (ha:0<=a/\a<W.length) (hw:zC (wd [W] 0 a)) (hz:wd [W] 0 a≠0) (hk:(zk (wd [W] 0 a)).1=0) {s:CS} (hs:Rg W s)
  (hden:(yQ G [W] s.2 (wA [W] 0 (a+1+(zk (wd [W] 0 a)).2.1) (zk (wd [W] 0 a)).2.2.1 (zk (wd [W] 0 a)).2.2.2.1)).2.2=0):ev 133 [.pv (.sl 1 (ws W)),.pv (I s.1),.pv (I a)] []=ok (I (rv (ZF F W a (zk (wd [W] 0 a)) s))):=by
 have hs1:=hs.1
 have hs2:=hs.2
 have hd:=ZA hw
 unfold yf at hd
 obtain ⟨p1,p2,p3,p4,p5,p6,-,-,-,-,-,-⟩:=wF hw
 rw[Vl,zZ,decide_eq_true ha.1,decide_eq_true ha.2,wv ha.1 ha.2]
 dsimp only[zj,zqR,z9,zqP,xc,zb]
 rw[beq_eq_false_iff_ne.2 hz]
 dsimp only[zl]
 rw[hd]
 dsimp only[zh,vg,yh,zj,zA,zqR,zb]
 clear hd
 generalize zk (wd [W] 0 a)=p at *
 obtain ⟨hin,hcost,hstr⟩:=zkr hden
 have hkd:=zeL hstr
 dsimp only at hkd
 have hb:=vC hin
 rw[hk,decide_eq_false (show ¬(0:Int)>1 by decide),show ((0:Int)==0)=true from rfl,show ((0:Int)==1)=false from rfl,zc (x:=p.2.2.1+p.2.2.2.1)]
 dsimp only[zb,zl]
 unfold ZF
 by_cases h0:p.2.2.1+p.2.2.2.1=0
 ·rw[beq_iff_eq.2 h0,if_pos h0]
  dsimp only[zb]
  by_cases h1:p.2.1=-1
  ·rw[show (p.2.1 != -1)=false from by simpa using h1,if_pos h1]
   rfl
  ·rw[show (p.2.1 != -1)=true from by simpa using h1,if_neg h1]
   rfl
 rw[beq_eq_false_iff_ne.2 h0,if_neg h0]
 dsimp only[zl]
 rw[zc (x:=a+1),zc (x:=a+1+p.2.1)]
 by_cases h1:a+1+p.2.1=s.1
 ·rw[h1] at hin hkd hb ⊢
  rw[show (s.1 != s.1)=false from by simp]
  dsimp only[zl]
  rw[zc (x:=s.1+p.2.2.1),zc (x:=s.1+p.2.2.1-1),zc (x:=s.1+(p.2.2.1+p.2.2.2.1)),zc (x:=s.1+(p.2.2.1+p.2.2.2.1)-1)]
  have hV:=qc hl L R (p:=s.1+p.2.2.1) (n:=p.2.2.2.1) (by omega) p5 (by omega) (s:=(s.1+(p.2.2.1+p.2.2.2.1),s.2-(p.2.2.1+p.2.2.2.1))) ⟨by dsimp only;omega,by dsimp only;omega,by dsimp only;omega⟩ hkd
  dsimp only at hV
  by_cases hd0:p.2.2.1=0
  ·rw[dF (p.2.2.1>0)]
   dsimp only[zl]
   have hq:p.2.2.2.1>0:=by omega
   rw[decide_eq_true hq]
   dsimp only[zb]
   rw[dT (0<=s.1+(p.2.2.1+p.2.2.2.1)-1),dT (s.1+(p.2.2.1+p.2.2.2.1)-1<(W.length:Int)),wv (i:=s.1+(p.2.2.1+p.2.2.2.1)-1) (by omega) (by omega)]
   dsimp only[zj,zqR,z9,zqP,xc,zb]
   by_cases h3:wd [W] 0 (s.1+(p.2.2.1+p.2.2.2.1)-1)=0
   ·rw[beq_iff_eq.2 h3,if_neg (fun h=>by
     rcases h.2.2.2.2 with x|x
     ·omega
     ·rw[show s.1+p.2.2.1+p.2.2.2.1-1=s.1+(p.2.2.1+p.2.2.2.1)-1 by omega] at x
      exact x h3)]
    rfl
   ·rw[beq_eq_false_iff_ne.2 h3,if_pos ⟨rfl,hin,hcost,.inl hd0,.inr (by rw[show s.1+p.2.2.1+p.2.2.2.1-1=s.1+(p.2.2.1+p.2.2.2.1)-1 by omega];exact h3)⟩]
    dsimp only[zl]
    rw[hV]
    rfl
  ·rw[dT (p.2.2.1>0)]
   dsimp only[zb]
   rw[dT (0<=s.1+p.2.2.1-1),dT (s.1+p.2.2.1-1<(W.length:Int)),wv (i:=s.1+p.2.2.1-1) (by omega) (by omega)]
   dsimp only[zj,zqR,z9,zqP,xc,zb]
   by_cases h3:wd [W] 0 (s.1+p.2.2.1-1)=0
   ·rw[beq_iff_eq.2 h3,if_neg (fun h=>by rcases h.2.2.2.1 with x|x;exact hd0 x;exact x h3)]
    rfl
   ·rw[beq_eq_false_iff_ne.2 h3]
    dsimp only[zl]
    by_cases hq:p.2.2.2.1=0
    ·rw[dF (p.2.2.2.1>0),if_pos ⟨rfl,hin,hcost,.inr h3,.inl hq⟩]
     dsimp only[zl]
     rw[hV]
     rfl
    ·rw[dT (p.2.2.2.1>0)]
     dsimp only[zb]
     rw[dT (0<=s.1+(p.2.2.1+p.2.2.2.1)-1),dT (s.1+(p.2.2.1+p.2.2.2.1)-1<(W.length:Int)),wv (i:=s.1+(p.2.2.1+p.2.2.2.1)-1) (by omega) (by omega)]
     dsimp only[zj,zqR,z9,zqP,xc,zb]
     by_cases h4:wd [W] 0 (s.1+(p.2.2.1+p.2.2.2.1)-1)=0
     ·rw[beq_iff_eq.2 h4,if_neg (fun h=>by
       rcases h.2.2.2.2 with x|x
       ·exact hq x
       ·rw[show s.1+p.2.2.1+p.2.2.2.1-1=s.1+(p.2.2.1+p.2.2.2.1)-1 by omega] at x
        exact x h4)]
      rfl
     ·rw[beq_eq_false_iff_ne.2 h4,if_pos ⟨rfl,hin,hcost,.inr h3,.inr (by rw[show s.1+p.2.2.1+p.2.2.2.1-1=s.1+(p.2.2.1+p.2.2.2.1)-1 by omega];exact h4)⟩]
      dsimp only[zl]
      rw[hV]
      rfl
 ·rw[show (a+1+p.2.1 != s.1)=true from by simpa using h1,if_neg (fun h=>h1 h.1)]
  rfl
theorem zkq {m st e n:Int} (he:e≠7) (h:(yQ G [W] m (xi [W] 0 st e n)).2.2=0):inB [W] 0 st (zn e n)/\zn e n<=m/\(xl G [W] (m-zn e n) ⟨2,0,st,0,0,e,n,zn e n⟩).2.2=0:=by
 unfold yQ xi at h
 rw[if_neg he] at h
 by_cases hin:inB [W] 0 st (zn e n)
 ·rw[if_pos hin] at h
  dsimp only at h
  rw[if_pos rfl] at h
  by_cases hc:zn e n>m
  ·rw[if_pos hc] at h
   exact absurd (show (8:Int)=0 from h) (by decide)
  ·rw[if_neg hc,if_neg (by decide)] at h
   exact ⟨hin,by omega,h⟩
 ·rw[if_neg hin] at h
  exact absurd (show (2:Int)=0 from h) (by decide)
theorem zoJ (hl:W.length<=1099511627776) (hwW:∀ x∈W,zC x) (L:Lk W D F G) (R:Y4 W F G) {a:Int} (ha:0<=a/\a<W.length) (hw:zC (wd [W] 0 a)) (hz:wd [W] 0 a≠0) (hk:(zk (wd [W] 0 a)).1=1) (h7:(zk (wd [W] 0 a)).2.2.2.2.1≠7) {s:CS} (hs:Rg W s)
  (hden:(yQ G [W] s.2 (xi [W] 0 (a+1+(zk (wd [W] 0 a)).2.1) (zk (wd [W] 0 a)).2.2.2.2.1 (zk (wd [W] 0 a)).2.2.2.2.2.1)).2.2=0):ev 133 [.pv (.sl 1 (ws W)),.pv (I s.1),.pv (I a)] []=ok (I (rv (Zf F W a (zk (wd [W] 0 a)) s))):=by
 have hs1:=hs.1
 have hs2:=hs.2
 have hd:=ZA hw
 unfold yf at hd
 obtain ⟨p1,p2,p3,p4,p5,p6,p7,p8,p9,p10,-,-⟩:=wF hw
 rw[Vl,zZ,decide_eq_true ha.1,decide_eq_true ha.2,wv ha.1 ha.2]
 dsimp only[zj,zqR,z9,zqP,xc,zb]
 rw[beq_eq_false_iff_ne.2 hz]
 dsimp only[zl]
 rw[hd]
 dsimp only[zh,vg,yh,zj,zA,zqR,zb]
 clear hd
 generalize zk (wd [W] 0 a)=p at *
 obtain ⟨hin,hcost,hstr⟩:=zkq h7 hden
 have hb:=vC hin
 have hwr:=Zy (e:=p.2.2.2.2.1) (c:=p.2.2.2.2.2.1) ⟨p9,p10⟩
 rw[hk,decide_eq_false (show ¬(1:Int)>1 by decide),show ((1:Int)==0)=false from rfl,show ((1:Int)==1)=true from rfl]
 dsimp only[zl,zb]
 rw[QC ⟨p9,p10⟩]
 dsimp only[zh,zA,zqR]
 rw[zc (x:=a+1),zc (x:=a+1+p.2.1)]
 unfold Zf
 by_cases h1:a+1+p.2.1=s.1
 ·rw[h1] at hin hstr hb ⊢
  rw[show (s.1 != s.1)=false from by simp,if_pos ⟨rfl,hin,hcost⟩]
  dsimp only[zl]
  rw[zc (x:=s.1+zn p.2.2.2.2.1 p.2.2.2.2.2.1)]
  by_cases h6:p.2.2.2.2.1=6
  ·rw[beq_iff_eq.2 h6,if_pos h6]
   dsimp only[zb]
   rw[h6] at hb hcost hstr ⊢
   have w6:zn 6 p.2.2.2.2.2.1=p.2.2.2.2.2.1:=by unfold zn bitsOf;simp;omega
   rw[w6] at hb hcost hstr ⊢
   have hkd:(z6 (fun m (i:Nat)=>G m 0 (s.1+i)) p.2.2.2.2.2.1.toNat 0 (s.2-p.2.2.2.2.2.1) []).2.2=0:=by
    unfold xl at hstr
    dsimp only at hstr
    rw[if_neg (by decide)] at hstr
    have hf:(fun m (i:Nat)=>if (6:Int)=6 then G m 0 (s.1+i) else zV G [W] m (ye ⟨2,0,s.1,0,0,6,p.2.2.2.2.2.1,p.2.2.2.2.2.1⟩ i))=fun m (i:Nat)=>G m 0 (s.1+i):=by
     funext m i
     rw[if_pos rfl]
    rw[hf] at hstr
    exact hstr
   have hV:=qc hl L R (p:=s.1) (n:=p.2.2.2.2.2.1) (by omega) p9 (by omega) (s:=(s.1+p.2.2.2.2.2.1,s.2-p.2.2.2.2.2.1)) ⟨by dsimp only;omega,by dsimp only;omega,by dsimp only;omega⟩ hkd
   dsimp only at hV
   rw[hV]
   rfl
  ·rw[beq_eq_false_iff_ne.2 h6,if_neg h6]
   dsimp only[zl]
   have hcl:(xk W s.1 (zn p.2.2.2.2.1 p.2.2.2.2.2.1)).length=(zn p.2.2.2.2.1 p.2.2.2.2.2.1).toNat:=by
    unfold xk
    rw[zqN,zqO]
    omega
   have hcu:cutB [W] 0 s.1 (zn p.2.2.2.2.1 p.2.2.2.2.2.1)=xk W s.1 (zn p.2.2.2.2.1 p.2.2.2.2.2.1):=by
    unfold cutB
    rw[if_pos hin]
    rfl
   have hbl:(zu (xk W s.1 (zn p.2.2.2.2.1 p.2.2.2.2.2.1))).length=8*(zn p.2.2.2.2.1 p.2.2.2.2.2.1).toNat:=by rw[yT,hcl]
   have hcw:=Xc (Zm hl hwW) 0 s.1 (zn p.2.2.2.2.1 p.2.2.2.2.2.1)
   rw[hcu] at hcw
   have hB:=Y7 (xk W s.1 (zn p.2.2.2.2.1 p.2.2.2.2.2.1)) hcw (by omega)
   have hbf:=ql (e:=p.2.2.2.2.1) (c:=p.2.2.2.2.2.1) (by omega) ⟨p9,p10⟩
   have hT:=jH (e:=p.2.2.2.2.1) (c:=p.2.2.2.2.2.1) (b:=zu (xk W s.1 (zn p.2.2.2.2.1 p.2.2.2.2.2.1))) ⟨p9,p10⟩ (ww _) (by rw[hbl];omega)
   have htl:=gH p.2.2.2.2.1 p.2.2.2.2.2.1 (zu (xk W s.1 (zn p.2.2.2.2.1 p.2.2.2.2.2.1)))
   rw[dT (p.2.2.2.2.1<6)]
   dsimp only[zb]
   rw[dT (0<=s.1),dT (s.1<=s.1+zn p.2.2.2.2.1 p.2.2.2.2.2.1),dT (s.1+zn p.2.2.2.2.1 p.2.2.2.2.2.1<=(W.length:Int)),zfE (by omega) (by omega)]
   dsimp only[zj,zb]
   rw[hB]
   dsimp only[zh]
   rw[hT]
   dsimp only[zh]
   have hL:=zj4 (b:=zu (xk W s.1 (zn p.2.2.2.2.1 p.2.2.2.2.2.1))) (t:=trimB p.2.2.2.2.1 p.2.2.2.2.2.1 (zu (xk W s.1 (zn p.2.2.2.2.1 p.2.2.2.2.2.1)))) (by rw[hbl];omega) (by rw[hbl] at htl;omega) (s.1+zn p.2.2.2.2.1 p.2.2.2.2.2.1) (I 1) (I p.2.1) (I p.2.2.1) (I p.2.2.2.1) (I p.2.2.2.2.1) (I p.2.2.2.2.2.1) (Bo p.2.2.2.2.2.2.1) (I p.2.2.2.2.2.2.2.1) (yD p.2.2.2.2.2.2.2.2.1) (yD p.2.2.2.2.2.2.2.2.2) (zu (xk W s.1 (zn p.2.2.2.2.1 p.2.2.2.2.2.1))).length 0 (by omega) rfl
   refine hL.trans ?_
   by_cases hpd:ZK p.2.2.2.2.1 p.2.2.2.2.2.1 (zu (xk W s.1 (zn p.2.2.2.2.1 p.2.2.2.2.2.1)))
   ·rw[if_pos hpd]
    unfold ZK at hpd
    rw[if_pos hpd]
    rfl
   ·rw[if_neg hpd]
    unfold ZK at hpd
    rw[if_neg hpd]
    rfl
 ·rw[show (a+1+p.2.1 != s.1)=true from by simpa using h1,if_neg (fun h=>h1 h.1)]
  rfl
theorem zko {m st n:Int} (h:(yQ G [W] m (xi [W] 0 st 7 n)).2.2=0):inB [W] 0 st (n+1)/\((zk (wd [W] 0 st)).1=0/\0<=(zk (wd [W] 0 st)).2.1/\(zk (wd [W] 0 st)).2.1*((zk (wd [W] 0 st)).2.2.1+(zk (wd [W] 0 st)).2.2.2.1)<=n)/\n+1+(if (zk (wd [W] 0 st)).2.2.1+(zk (wd [W] 0 st)).2.2.2.1=0 then (zk (wd [W] 0 st)).2.1 else 0)<=m/\
  (z6 (fun m (i:Nat)=>zV G [W] m ⟨1,0,st+1+i*((zk (wd [W] 0 st)).2.2.1+(zk (wd [W] 0 st)).2.2.2.1),(zk (wd [W] 0 st)).2.2.1,(zk (wd [W] 0 st)).2.2.2.1,0,0,0⟩) (zk (wd [W] 0 st)).2.1.toNat 0 (m-(n+1+(if (zk (wd [W] 0 st)).2.2.1+(zk (wd [W] 0 st)).2.2.2.1=0 then (zk (wd [W] 0 st)).2.1 else 0))) []).2.2=0/\
  xi [W] 0 st 7 n=(⟨2,0,st+1,(zk (wd [W] 0 st)).2.2.1,(zk (wd [W] 0 st)).2.2.2.1,7,(zk (wd [W] 0 st)).2.1,n+1+(if (zk (wd [W] 0 st)).2.2.1+(zk (wd [W] 0 st)).2.2.2.1=0 then (zk (wd [W] 0 st)).2.1 else 0)⟩,0):=by
 by_cases hin:inB [W] 0 st (n+1)
 ·by_cases hc:(zk (wd [W] 0 st)).1=0/\0<=(zk (wd [W] 0 st)).2.1/\(zk (wd [W] 0 st)).2.1*((zk (wd [W] 0 st)).2.2.1+(zk (wd [W] 0 st)).2.2.2.1)<=n
  ·have e:xi [W] 0 st 7 n=(⟨2,0,st+1,(zk (wd [W] 0 st)).2.2.1,(zk (wd [W] 0 st)).2.2.2.1,7,(zk (wd [W] 0 st)).2.1,n+1+(if (zk (wd [W] 0 st)).2.2.1+(zk (wd [W] 0 st)).2.2.2.1=0 then (zk (wd [W] 0 st)).2.1 else 0)⟩,0):=by
    unfold xi wn
    rw[if_pos rfl,if_pos hin,if_pos hc]
   rw[e] at h
   unfold yQ at h
   dsimp only at h
   rw[if_pos rfl] at h
   by_cases hm:n+1+(if (zk (wd [W] 0 st)).2.2.1+(zk (wd [W] 0 st)).2.2.2.1=0 then (zk (wd [W] 0 st)).2.1 else 0)>m
   ·rw[if_pos hm] at h
    exact absurd (show (8:Int)=0 from h) (by decide)
   ·rw[if_neg hm,if_neg (by decide)] at h
    unfold xl at h
    dsimp only at h
    rw[if_neg (by decide)] at h
    refine ⟨hin,hc,by omega,?_,e⟩
    have hf:∀ cost,(fun m (i:Nat)=>if (7:Int)=6 then G m 0 (st+1+i) else zV G [W] m (ye ⟨2,0,st+1,(zk (wd [W] 0 st)).2.2.1,(zk (wd [W] 0 st)).2.2.2.1,7,(zk (wd [W] 0 st)).2.1,cost⟩ i))=fun m (i:Nat)=>zV G [W] m ⟨1,0,st+1+i*((zk (wd [W] 0 st)).2.2.1+(zk (wd [W] 0 st)).2.2.2.1),(zk (wd [W] 0 st)).2.2.1,(zk (wd [W] 0 st)).2.2.2.1,0,0,0⟩:=fun cost=>by
     funext m i
     rw[if_neg (by decide)]
     rfl
    rw[hf] at h
    exact h
  ·exfalso
   unfold yQ xi wn at h
   rw[if_pos rfl,if_pos hin,if_neg hc] at h
   exact absurd (show (5:Int)=0 from h) (by decide)
 ·exfalso
  unfold yQ xi wn at h
  rw[if_pos rfl,if_neg hin] at h
  exact absurd (show (2:Int)=0 from h) (by decide)
theorem zoI (hl:W.length<=1099511627776) (hwW:∀ x∈W,zC x) (L:Lk W D F G) (R:Y4 W F G) {a:Int} (ha:0<=a/\a<W.length) (hw:zC (wd [W] 0 a)) (hz:wd [W] 0 a≠0) (hk:(zk (wd [W] 0 a)).1=1) (h7:(zk (wd [W] 0 a)).2.2.2.2.1=7) {s:CS} (hs:Rg W s)
  (hobj:yA [W] 0 a=xi [W] 0 (a+1+(zk (wd [W] 0 a)).2.1) 7 (zk (wd [W] 0 a)).2.2.2.2.2.1)
  (hden:(yQ G [W] s.2 (xi [W] 0 (a+1+(zk (wd [W] 0 a)).2.1) 7 (zk (wd [W] 0 a)).2.2.2.2.2.1)).2.2=0):ev 133 [.pv (.sl 1 (ws W)),.pv (I s.1),.pv (I a)] []=ok (I (rv (vz F W a (zk (wd [W] 0 a)) s))):=by
 have hs1:=hs.1
 have hs2:=hs.2
 have hS:=Zm hl hwW
 have hSm:Sm [W]:=by
  intro s
  unfold yu
  rcases Nat.eq_zero_or_pos s.toNat with h0|h0
  ·rw[h0];show (W.length:Int)<=_;omega
  ·rw[List.getD_eq_getElem?_getD,List.getElem?_eq_none (by rw[List.length_singleton];omega)]
   simp
 have hd:=ZA hw
 unfold yf at hd
 obtain ⟨p1,p2,p3,p4,p5,p6,p7,p8,p9,p10,-,-⟩:=wF hw
 have hO:=jD hS hSm 0 a
 rw[hobj] at hO
 rw[Vl,zZ,decide_eq_true ha.1,decide_eq_true ha.2,wv ha.1 ha.2]
 dsimp only[zj,zqR,z9,zqP,xc,zb]
 rw[beq_eq_false_iff_ne.2 hz]
 dsimp only[zl]
 rw[hd]
 dsimp only[zh,vg,yh,zj,zA,zqR,zb]
 clear hd hobj
 generalize zk (wd [W] 0 a)=p at *
 obtain ⟨hin,⟨c1,c2,c3⟩,hcost,hkd,hob⟩:=zko hden
 have hb:=vC hin
 rw[hob] at hO
 unfold xS Ob.c at hO
 dsimp only at hO
 rw[hk,h7,decide_eq_false (show ¬(1:Int)>1 by decide),show ((1:Int)==0)=false from rfl,show ((1:Int)==1)=true from rfl,show ((7:Int)==6)=false from rfl,decide_eq_false (show ¬(7:Int)<6 by decide)]
 dsimp only[zl,zb]
 rw[QC ⟨p9,p10⟩,show zn 7 p.2.2.2.2.2.1=p.2.2.2.2.2.1+1 from if_pos rfl]
 dsimp only[zh,zA,zqR]
 rw[zc (x:=a+1),zc (x:=a+1+p.2.1)]
 unfold vz
 by_cases h1:a+1+p.2.1=s.1
 ·rw[h1] at hin hkd hb hO hcost c1 c2 c3 ⊢
  have hww:zC (wd [W] 0 s.1):=xY hS 0 s.1
  obtain ⟨to1,to2,td1,td2,tq1,tq2,-,-,-,-,-,-⟩:=wF hww
  clear hww hob hden
  generalize zk (wd [W] 0 s.1)=t at *
  rw[show (s.1 != s.1)=false from by simp]
  dsimp only[zl]
  have hO':ev 137 [.pv (.sl 1 [.sl 1 (ws W)]),.pv (I 0),.pv (I a)] []=_:=hO
  rw[hO',zc (x:=s.1+(p.2.2.2.2.2.1+1))]
  dsimp only[zh,zK,zqQ,zqP,zqR,WW,yh,zj,zA,zb]
  have hmul:=Xv (o:=t.2.1) (n:=t.2.2.1+t.2.2.2.1) ⟨c2,to2⟩ ⟨by omega,by omega⟩
  rw[zc (x:=t.2.2.1+t.2.2.2.1),zc (x:=t.2.1*(t.2.2.1+t.2.2.2.1))]
  by_cases k3:t.2.1*(t.2.2.1+t.2.2.2.1)=p.2.2.2.2.2.1
  ·have hz0:0<=(if t.2.2.1+t.2.2.2.1=0 then t.2.1 else 0):=by split<;>omega
   have hc4:s.1=s.1/\inB [W] 0 s.1 (p.2.2.2.2.2.1+1)/\(t.1=0/\0<=t.2.1/\t.2.1*(t.2.2.1+t.2.2.2.1)=p.2.2.2.2.2.1)/\p.2.2.2.2.2.1+1<=s.2:=⟨rfl,hin,⟨c1,c2,k3⟩,by omega⟩
   rw[show (t.2.1*(t.2.2.1+t.2.2.2.1) != p.2.2.2.2.2.1)=false from by simpa using k3,if_pos hc4]
   clear hc4
   dsimp only[zl]
   obtain ⟨n,hn⟩:=Int.eq_ofNat_of_zero_le c2
   have hbn:s.1+1+(n:Int)*(t.2.2.1+t.2.2.2.1)<=W.length:=by rw[←hn,k3];omega
   rw[hn] at hkd hcost hz0 ⊢
   rw[zqK] at hkd
   unfold Vq
   rw[hn,zqK]
   by_cases hsz:t.2.2.1+t.2.2.2.1=0
   ·have d0:t.2.2.1=0:=by omega
    have q0:t.2.2.2.1=0:=by omega
    simp only[if_pos hsz] at hcost ⊢
    rw[if_pos (show (n:Int)<=s.2-(p.2.2.2.2.2.1+1) by omega),d0,q0,qH,show ((0:Int)==0)=true from rfl]
    dsimp only[zA,vm,zl,zqR]
    have hL4:YI (ws W) (I (s.1+(p.2.2.2.2.2.1+1))) 0 (I 1) (I p.2.1) (I p.2.2.1) (I p.2.2.2.1) (I 7) (I p.2.2.2.2.2.1) (Bo p.2.2.2.2.2.2.1) (I p.2.2.2.2.2.2.2.1) (yD p.2.2.2.2.2.2.2.2.1) (yD p.2.2.2.2.2.2.2.2.2) (I 2) (I 0) (I (s.1+1)) (I 0) (I 0) (I 7) (I n) (I (p.2.2.2.2.2.1+1+n))=ok (I (s.1+(p.2.2.2.2.2.1+1))):=by
     rw[qI]
     dsimp only[zA,zqR]
     by_cases hn0:(0:Int)<(n:Int)
     ·rw[decide_eq_true hn0,decide_eq_false (show ¬(0:Int)>0 by decide)]
      rfl
     ·rw[decide_eq_false hn0]
      rfl
    by_cases hn0:(0:Int)<(n:Int)
    ·rw[decide_eq_true hn0,show IntKind.wrap .i64 (0+0)=0 from rfl,decide_eq_false (show ¬(0:Int)>0 by decide)]
     dsimp only[zl,zb]
     exact hL4
    ·rw[decide_eq_false hn0]
     dsimp only[zl]
     exact hL4
   ·simp only[if_neg hsz] at hcost hkd ⊢
    have hL2:=zn1 hl (n:=n) (st:=s.1+1) (dd:=t.2.2.1) (qq:=t.2.2.2.1) (by omega) ⟨td1,td2⟩ ⟨tq1,tq2⟩ hsz (by omega) hbn (s.1+(p.2.2.2.2.2.1+1)) (p.2.2.2.2.2.1+1+0) (I 1) (I p.2.1) (I p.2.2.1) (I p.2.2.2.1) (I 7) (I p.2.2.2.2.2.1) (Bo p.2.2.2.2.2.2.1) (I p.2.2.2.2.2.2.2.1) (yD p.2.2.2.2.2.2.2.2.1) (yD p.2.2.2.2.2.2.2.2.2) n 0 (t.2.2.1==0) (t.2.2.2.1==0) (by omega) (fun h=>by rw[h];rfl) (fun h=>by rw[h];rfl)
    have hL4:=zn2 hl hwW L R (n:=n) (st:=s.1+1) (dd:=t.2.2.1) (qq:=t.2.2.2.1) (by omega) ⟨td1,td2⟩ ⟨tq1,tq2⟩ (by omega) hbn (p.2.2.2.2.2.1+1+0) (I 1) (I p.2.1) (I p.2.2.1) (I p.2.2.2.1) (I 7) (I p.2.2.2.2.2.1) (Bo p.2.2.2.2.2.2.1) (I p.2.2.2.2.2.2.2.1) (yD p.2.2.2.2.2.2.2.2.1) (yD p.2.2.2.2.2.2.2.2.2) n 0 (s.1+(p.2.2.2.2.2.1+1),s.2-(p.2.2.2.2.2.1+1)) [] (by omega) ⟨by dsimp only;omega,by dsimp only;omega,by dsimp only;omega⟩ (by
     dsimp only
     rw[show s.2-(p.2.2.2.2.2.1+1)=s.2-(p.2.2.2.2.2.1+1+0) by omega]
     exact hkd)
    rw[show ((0:Nat):Int)=0 from rfl] at hL2 hL4
    dsimp only at hL4
    refine hL2.trans ?_
    simp only[zdt]
    by_cases k6:(t.2.2.1=0∨xM (xf W (s.1+1) (t.2.2.1+t.2.2.2.1) t.2.2.1) n 0 false=true)/\(t.2.2.2.1=0∨xM (xf W (s.1+1) (t.2.2.1+t.2.2.2.1) (t.2.2.1+t.2.2.2.1)) n 0 false=true)
    ·rw[if_pos k6,if_pos k6]
     exact hL4
    ·rw[if_neg k6,if_neg k6]
     rfl
  ·have hn4:¬(s.1=s.1/\inB [W] 0 s.1 (p.2.2.2.2.2.1+1)/\(t.1=0/\0<=t.2.1/\t.2.1*(t.2.2.1+t.2.2.2.1)=p.2.2.2.2.2.1)/\p.2.2.2.2.2.1+1<=s.2):=fun h=>k3 h.2.2.1.2.2
   rw[show (t.2.1*(t.2.2.1+t.2.2.2.1) != p.2.2.2.2.2.1)=true from by simpa using k3,if_neg hn4]
   rfl
 ·rw[show (a+1+p.2.1 != s.1)=true from by simpa using h1,if_neg (fun h=>h1 h.1)]
  rfl
end
theorem zgU {W:List Int} (hl:W.length<=1099511627776) (hw:∀ x∈W,zC x):∀ D,Y4 W (xK W D) (zR [W] D):=by
 have hS:=Zm hl hw
 intro D
 induction D with
 |zero=>
  intro a s h0 h1 hs hden
  have hww:zC (wd [W] 0 a):=xY hS 0 a
  rw[xK]
  by_cases hz:wd [W] 0 a=0
  ·dsimp only
   rw[if_pos hz]
   exact zfk h0 h1 hz
  ·dsimp only
   rw[if_neg hz]
   by_cases h4:wd [W] 0 a%4=2
   ·exact zfj h0 h1 hww (by rw[Zi hww];omega)
   ·exfalso
    obtain ⟨n,rfl⟩:=Int.eq_ofNat_of_zero_le h0
    have hat:=XK h0 h1
    rw[zqK] at hat
    have hf:=KG hat h4
    unfold zR at hden
    rw[hf] at hden
    dsimp only at hden
    rw[if_pos rfl,if_neg hz] at hden
    exact absurd (show (7:Int)=0 from hden) (by decide)
 |succ D ih=>
  intro a s h0 h1 hs hden
  have L:=zbw hl hw D
  have hww:zC (wd [W] 0 a):=xY hS 0 a
  rw[xK]
  by_cases hz:wd [W] 0 a=0
  ·dsimp only
   rw[if_pos hz]
   exact zfk h0 h1 hz
  ·dsimp only
   rw[if_neg hz]
   have hk:=Zi hww
   by_cases h4:1<(zk (wd [W] 0 a)).1
   ·unfold XT
    rw[if_neg (by omega),if_neg (by omega)]
    exact zfj h0 h1 hww h4
   ·obtain ⟨n,rfl⟩:=Int.eq_ofNat_of_zero_le h0
    have hat:=XK h0 h1
    rw[zqK] at hat
    have hf:=KG hat (by omega)
    rw[YK hat (by omega) hz] at hden
    have hob:yA [W] 0 (n:Int)=wU [W] 0 ((n:Int)+1) (zk (wd [W] 0 (n:Int))):=by
     unfold yA
     rw[hf]
     dsimp only
     rw[if_pos rfl,if_neg hz]
    unfold XT
    unfold wU at hden hob
    by_cases hk0:(zk (wd [W] 0 (n:Int))).1=0
    ·rw[if_pos hk0] at hden ⊢
     exact zoK hl L ih ⟨h0,h1⟩ hww hz hk0 hs hden
    ·obtain ⟨-,-,-,-,-,-,-,-,-,-,q1,q2⟩:=wF hww
     have hk1:(zk (wd [W] 0 (n:Int))).1=1:=by omega
     rw[if_neg hk0,if_pos hk1] at hden hob ⊢
     by_cases h7:(zk (wd [W] 0 (n:Int))).2.2.2.2.1=7
     ·rw[if_pos h7]
      rw[h7] at hden hob
      exact zoI hl hw L ih ⟨h0,h1⟩ hww hz hk1 h7 hs hob hden
     ·rw[if_neg h7]
      exact zoJ hl hw L ih ⟨h0,h1⟩ hww hz hk1 h7 hs hden
theorem zgP {W:List Int} (hl:W.length<=1099511627776) (hw:∀ x∈W,zC x) {d w o:Int} (hd:d<=1099511627775) (hm:w<=1099511627776):ev 77 [.pv (.sl 1 (ws W)),.pv (.agg [I d,I w,I o])] []=ok (Bo (ZG W d w)):=by
 have hS:=Zm hl hw
 have hSm:Sm [W]:=by
  intro s
  unfold yu
  rcases Nat.eq_zero_or_pos s.toNat with h0|h0
  ·rw[h0];show (W.length:Int)<=_;omega
  ·rw[List.getD_eq_getElem?_getD,List.getElem?_eq_none (by rw[List.length_singleton];omega)]
   simp
 have hM:ev 81 [.pv (.sl 1 [.sl 1 (ws W)]),.pv (.agg [I d,I w,I o])] []=_:=WU hS hSm (d:=d) (w:=w) (b:=o) hd (by omega)
 rw[zjx,zZ]
 by_cases h0:W.length=0
 ·have hf:ZG W d w=false:=by
   unfold ZG
   cases xK W d.toNat 0 (1,max w 0) with
   |none=>rfl
   |some t=>dsimp only;rw[dF (0<W.length)];rfl
  rw[hf,h0]
  rfl
 ·rw[beq_eq_false_iff_ne.2 (show (W.length:Int)≠0 by omega)]
  dsimp only[zl]
  rw[hM]
  unfold Nd.x
  dsimp only[zh,zK,zqQ,zqP,zqR,zA,vj,yh,xu,zj,zb]
  have hr:runT [W] d w=zR [W] d.toNat (max w 0) 0 0:=by
   unfold runT
   rw[if_neg (fun h=>h0 h.2)]
  have hrg:Rg W (1,max w 0):=⟨by dsimp only;omega,by dsimp only;omega,by dsimp only;omega⟩
  by_cases he:yI [W] d w=0
  ·rw[beq_iff_eq.2 he]
   have hV:=zgU hl hw d.toNat 0 (1,max w 0) (Int.le_refl _) (by omega) hrg (by rw[←hr];exact he)
   dsimp only at hV
   dsimp only[zb]
   rw[hV]
   unfold ZG
   cases xK W d.toNat 0 (1,max w 0) with
   |none=>
    dsimp only[rv,zh,zA,zqR]
    rw[beq_eq_false_iff_ne.2 (show (-1:Int)≠(W.length:Int) by omega)]
   |some t=>
    dsimp only[rv,zh,zA,zqR]
    rw[dT (0<W.length),Bool.true_and]
  ·rw[beq_eq_false_iff_ne.2 he]
   have hf:ZG W d w=false:=by
    unfold ZG
    cases hq:xK W d.toNat 0 (1,max w 0) with
    |none=>rfl
    |some t=>
     exfalso
     obtain ⟨-,y,e1,-⟩:=zbw hl hw d.toNat 0 (1,max w 0) t (Int.le_refl _) (by omega) hrg hq
     dsimp only at e1
     apply he
     unfold yI
     rw[hr,e1]
   rw[hf]
   rfl
noncomputable def Wg (b:List Int) (d w:Int):Bool:=match yO b with
 |some [W]=>ZG W d w
 |_=>false
theorem zaD {b:List Int} {d w:Int} (h:mE b d w≠0):ZE b d w=[]/\mH b d w=0:=by
 unfold ZE mH
 unfold mE at h
 split
 ·rename_i l hp
  rw[hp] at h
  have h:yI l d w≠0:=h
  exact ⟨if_neg h,if_neg h⟩
 ·exact ⟨rfl,rfl⟩
theorem zgo {b:List Int} (hb:∀ x∈b,zF x) (hl:b.length<=1099511627776) {d w o:Int} (hd:d<=1000) (hw:w<=134217728):ev 35 [.pv (.sl 1 (bs b)),.pv (.agg [I d,I w,I o])] []=ok (Bo (Wg b d w)):=by
 rw[uA,Y5 hb hl]
 dsimp only[zh,zK,zqQ,zqP,zqR,yt]
 rw[Zp]
 unfold Wg
 cases hp:yO b with
 |none=>rfl
 |some l=>
  obtain ⟨h1,h2⟩:=vG hb hl hp
  rw[if_neg (by simp),zqL]
  dsimp only[zqR]
  rw[show decide ((0:Int)=0)=true from rfl]
  dsimp only[zb]
  match l,h1,h2 with
  |[],_,_=>rfl
  |[W],h1,h2=>
   have hW:=h1.2 W (List.mem_singleton.2 rfl)
   have hWl:W.length<=1099511627776:=by
    have:=h2 0
    rw[Yl] at this
    omega
   have hE:=XF (d:=d) (w:=w) (b:=o) (by omega) (by omega)
   have hC:=zgd hWl hW.2 (d:=d) (w:=w) (o:=o) (by omega) (by omega)
   rw[show zL [W]=[.sl 1 (ws W)] from rfl,show ((([.sl 1 (ws W)]:List PV).length:Nat):Int)=1 from rfl,show ((1:Int)==1)=true from rfl,show decide ((0:Int)<1)=true from rfl,show decide ((1:Nat)=1)=true from rfl]
   dsimp only[zj,zqP,zqR,w5,zb]
   rw[hE]
   dsimp only[zh]
   rw[hC]
   rfl
  |x::y::r,_,_=>
   rw[Yp,show ((((x::y::r).length:Nat):Int)==1)=false from beq_eq_false_iff_ne.2 (by simp only[zqT];omega)]
   rfl
theorem jz {w:Int} (hw:zC w):ev 91 [.pv (.sl 1 [U w])] []=ok (.sl 1 (bs (w8 w))):=by
 have:=Y7 [w] ⟨show 1<=9223372036854775807 by decide,fun x hx=>by rw[List.mem_singleton.1 hx];exact hw⟩ (show 1<=17592186044416 by decide)
 rw[show zu [w]=w8 w from List.append_nil _] at this
 exact this
theorem zoi {l:List Int} (h8:l.length=8):∀ (c i:Nat),i+c=8->Vo (.sl 1 (bs l)) (xz (l.take i)) (2^i) i=ok (U8 (xz l)):=by
 intro c
 induction c with
 |zero=>
  intro i hi
  have hr:=V7 l
  rw[h8,show (2:Int)^8=256 from rfl] at hr
  rw[zbq,decide_eq_false (by omega),List.take_of_length_le (by omega),vK,Int.emod_eq_of_lt hr.1 hr.2]
  rfl
 |succ c ih=>
  intro i hi
  have hg:(bs l)[(i:Int).toNat]? = some (U8 (l.getD i 0)):=Ya rfl (by omega)
  have hn:=ih (i+1) (by omega)
  have hr:=V7 (l.take i)
  have hp:(2:Int)^i<=128:=by
   have:(2:Nat)^i<=2^7:=Nat.pow_le_pow_right (by decide) (by omega)
   exact_mod_cast this
  have hp0:(0:Int)<2^i:=Int.pow_pos (by decide)
  rw[Jv (by omega),gD,zqN,Nat.min_eq_left (by omega),Int.pow_succ] at hn
  rw[zqN,Nat.min_eq_left (by omega)] at hr
  rw[zbq,dT ((i:Int)<8)]
  dsimp only[yt,zqR,zb]
  rw[zU,h8,dT (0<=(i:Int)),dT ((i:Int)<((8:Nat):Int)),show decide ((1:Nat)=1)=true from rfl]
  dsimp only[zj,zb]
  rw[hg]
  dsimp only[zqR,z9,zqP,wV]
  rw[zc (x:=(i:Int)+1),zc (x:=2^i*2),zc (x:=xz (l.take i)+2^i)]
  by_cases h0:l.getD i 0=0
  ·rw[h0,show ((0:Int) != 0)=false from rfl]
   rw[h0,show vF 0=0 from rfl,Int.zero_mul,Int.add_zero] at hn
   exact hn
  ·rw[yP h0]
   rw[show vF (l.getD i 0)=1 from if_neg h0,Int.one_mul] at hn
   exact hn
theorem zoh {l:List Int} (h8:l.length=8):∀ (c i:Nat),i+c=8->Vn (.sl 1 (bs l)) (bs (nz (l.take i))) i=ok (.sl 1 (bs (nz l))):=by
 intro c
 induction c with
 |zero=>
  intro i hi
  rw[zbp,decide_eq_false (by omega),List.take_of_length_le (by omega)]
  rfl
 |succ c ih=>
  intro i hi
  have hg:(bs l)[(i:Int).toNat]? = some (U8 (l.getD i 0)):=Ya rfl (by omega)
  have hn:=ih (i+1) (by omega)
  have hf:(nz (l.take i)).length<=8:=by
   have:=List.length_filter_le (fun c:Int=>!decide (c=0)) (l.take i)
   rw[zqN] at this
   unfold nz
   omega
  rw[Jv (by omega)] at hn
  rw[zbp,dT ((i:Int)<8)]
  dsimp only[yt,zqR,zb]
  rw[zU,h8,dT (0<=(i:Int)),dT ((i:Int)<((8:Nat):Int)),show decide ((1:Nat)=1)=true from rfl]
  dsimp only[zj,zb]
  rw[hg]
  dsimp only[zqR,z9,zqP,wV]
  rw[zc (x:=(i:Int)+1)]
  by_cases h0:l.getD i 0=0
  ·rw[h0,show ((0:Int) != 0)=false from rfl]
   rw[h0,show nz (l.take i++[0])=nz (l.take i) by simp[nz]] at hn
   exact hn
  ·rw[yP h0,zU,yq (by omega) (by omega)]
   rw[show nz (l.take i++[l.getD i 0])=nz (l.take i)++[l.getD i 0] by simp only[nz,List.filter_append,List.filter_cons,decide_eq_false h0];rfl,wP] at hn
   exact hn
theorem zgH {w:Int} (hw:zC w):ev 88 [.pv (U w)] []=ok (U8 (wg w)):=by
 rw[zjF,jz hw]
 exact zoi (wu w) 8 0 rfl
theorem jC {w:Int} (hw:zC w):ev 89 [.pv (U w)] []=ok (.sl 1 (bs (vo w))):=by
 rw[zjD,jz hw]
 exact zoh (wu w) 8 0 rfl
theorem zdN:∀ l:List Int,Yk l.length (xz l)=(nz l).length
 |[]=>rfl
 |c::l=>by
  have:=zdN l
  rw[zqT,Yk,xz]
  unfold vF
  by_cases h:c=0
  ·rw[if_pos h,if_neg (by omega),show (0+2*xz l)/2=xz l by omega,this]
   have:nz (c::l)=nz l:=by simp[nz,h]
   rw[this]
   omega
  ·rw[if_neg h,if_pos (by omega),show (1+2*xz l)/2=xz l by omega,this]
   have:nz (c::l)=c::nz l:=by simp[nz,h]
   rw[this,zqT]
   omega
theorem zns (w:Int):Yk 8 (wg w)=(vo w).length:=by
 have:=zdN (w8 w)
 rw[wu] at this
 exact this
theorem zkD (w:Int):yV w=decide (((vo w).length:Int)≥7):=by
 unfold yV
 rw[znr (Jt w),zns]
theorem zgC {w:Int} (hw:zC w):ev 90 [.pv (U w)] []=ok (Bo (yV w)):=by
 rw[zjE,jC hw,zkD]
 dsimp only[zh,yt,zqR]
 rw[zU]
def uW (a:List Int) (x:List Int×Bool):List Int×Bool:=(a++x.1,x.2)
theorem zql (l:List Int) (i n:Nat):((ws l).take ((i+n:Nat):Int).toNat).drop (i:Int).toNat=ws ((l.drop i).take n):=by
 rw[zqK,zqK,ws,←List.map_take,←List.map_drop,List.drop_take,Nat.add_sub_cancel_left]
 rfl
theorem zom {l out:List Int} (hl:l.length<=1099511627776) (ho:out.length<=8796093022208) {i:Nat}:∀ (c n:Nat),n+c=255->i+n<=l.length->
  ZT (ws l) (bs out) i (U8 0) n=xB (ws l) (bs (out++[((n+runN xQ c (l.drop (i+n)):Nat):Int)])) ((i+(n+runN xQ c (l.drop (i+n))):Nat):Int):=by
 intro c
 have fin:∀ n:Nat,n<=255->i+n<=l.length->(cond (zJ ((bs out).length+1) 1) ((za .u8 (.pv (U8 0))).bind fun n_1=>cond (n_1==255) (cond ((decide (0<=(i:Int))&&decide ((i:Int)<=(IntKind.wrap .i64 ((i:Int)+n))))&&decide ((IntKind.wrap .i64 ((i:Int)+n))<=((ws l).length:Int))) (cp (ev 91 [(.pv (.sl 1 (((ws l).take (IntKind.wrap .i64 ((i:Int)+n)).toNat).drop (i:Int).toNat)))] []) (fun p_4=>(zE p_4).bind fun l_5=>cond (decide (l_5.1=1)) (cond (zJ ((bs out++[(PV.v (.int .u8 (IntKind.wrap .u8 n)))]).length+l_5.2.length) 1) (xB (ws l) ((bs out++[(PV.v (.int .u8 (IntKind.wrap .u8 n)))])++l_5.2) (IntKind.wrap .i64 ((i:Int)+n))) none) none)) none) (xB (ws l) (bs out++[(PV.v (.int .u8 (IntKind.wrap .u8 n)))]) (IntKind.wrap .i64 ((i:Int)+n)))) none)=xB (ws l) (bs (out++[(n:Int)])) ((i+n:Nat):Int):=by
  intro n hn hi
  rw[zU,yq (by omega) (by omega),zc (x:=(i:Int)+n),vK,show (n:Int)%256=n by omega,XM,show (i:Int)+n=((i+n:Nat):Int) by push_cast;rfl]
  rfl
 induction c with
 |zero=>
  intro n hn hi
  rw[Ki,dF ((n:Int)<255)]
  refine Eq.trans ?_ (fin n (by omega) hi)
  cases decide (IntKind.wrap .i64 ((i:Int)+n)<((ws l).length:Int))<;>rfl
 |succ c ih=>
  intro n hn hi
  rw[Ki,dT ((n:Int)<255)]
  by_cases h:i+n<l.length
  ·have hg:(ws l)[(IntKind.wrap .i64 ((i:Int)+n)).toNat]? = some (U l[i+n]):=by
    rw[zc (by omega),show ((i:Int)+n).toNat=i+n by omega]
    exact vZ h
   rw[hg,List.drop_eq_getElem_cons h,runN,decide_eq_true (show IntKind.wrap .i64 ((i:Int)+n)<((ws l).length:Int) by rw[zc (by omega),zZ];omega),decide_eq_true (show 0<=IntKind.wrap .i64 ((i:Int)+n) by rw[zc (by omega)];omega)]
   dsimp only[wV,zj,zqR,z9,zqP,zb,xc]
   rw[show ((0:Int)==0)=true from rfl]
   dsimp only[zb]
   by_cases h0:l[i+n]=0
   ·have hn1:=ih (n+1) (by omega) (by omega)
    rw[h0,show ((0:Int)==0)=true from rfl,show xQ 0=true from rfl,if_pos rfl,zc (x:=(n:Int)+1),show n+(runN xQ c (l.drop (i+n+1))+1)=n+1+runN xQ c (l.drop (i+(n+1))) by rw[show i+(n+1)=i+n+1 by omega];omega]
    exact hn1
   ·have h1:(l[i+n]==0)=false:=beq_eq_false_iff_ne.2 h0
    rw[h1,show xQ l[i+n]=false from h1,if_neg (by decide)]
    exact fin n (by omega) hi
  ·rw[decide_eq_false (show ¬IntKind.wrap .i64 ((i:Int)+n)<((ws l).length:Int) by rw[zc (by omega),zZ];omega),show l.drop (i+n)=[] from List.drop_eq_nil_of_le (by omega)]
   exact fin n (by omega) hi
theorem zon {l out:List Int} (hw:∀ x∈l,zC x) (hl:l.length<=1099511627776) (ho:out.length<=8796093022208) {i:Nat}:∀ (c n:Nat),n+c=255->i+n<=l.length->
  ZT (ws l) (bs out) i (U8 255) n=xB (ws l) (bs (out++[((n+runN yV c (l.drop (i+n)):Nat):Int)]++zu ((l.drop i).take (n+runN yV c (l.drop (i+n)))))) ((i+(n+runN yV c (l.drop (i+n))):Nat):Int):=by
 intro c
 have fin:∀ n:Nat,n<=255->i+n<=l.length->(cond (zJ ((bs out).length+1) 1) ((za .u8 (.pv (U8 255))).bind fun n_1=>cond (n_1==255) (cond ((decide (0<=(i:Int))&&decide ((i:Int)<=(IntKind.wrap .i64 ((i:Int)+n))))&&decide ((IntKind.wrap .i64 ((i:Int)+n))<=((ws l).length:Int))) (cp (ev 91 [(.pv (.sl 1 (((ws l).take (IntKind.wrap .i64 ((i:Int)+n)).toNat).drop (i:Int).toNat)))] []) (fun p_4=>(zE p_4).bind fun l_5=>cond (decide (l_5.1=1)) (cond (zJ ((bs out++[(PV.v (.int .u8 (IntKind.wrap .u8 n)))]).length+l_5.2.length) 1) (xB (ws l) ((bs out++[(PV.v (.int .u8 (IntKind.wrap .u8 n)))])++l_5.2) (IntKind.wrap .i64 ((i:Int)+n))) none) none)) none) (xB (ws l) (bs out++[(PV.v (.int .u8 (IntKind.wrap .u8 n)))]) (IntKind.wrap .i64 ((i:Int)+n)))) none)=xB (ws l) (bs (out++[(n:Int)]++zu ((l.drop i).take n))) ((i+n:Nat):Int):=by
  intro n hn hi
  have hB:=Y7 ((l.drop i).take n) ⟨by rw[zqN,zqO];omega,fun x hx=>hw x (List.mem_of_mem_drop (List.mem_of_mem_take hx))⟩ (by rw[zqN,zqO];omega)
  have hbl:(zu ((l.drop i).take n)).length=8*n:=by rw[yT,zqN,zqO];omega
  rw[zU,yq (by omega) (by omega),zc (x:=(i:Int)+n),vK,show (n:Int)%256=n by omega,XM,show (i:Int)+n=((i+n:Nat):Int) by push_cast;rfl,zql,hB,zZ,dT (0<=(i:Int)),dT ((i:Int)<=((i+n:Nat):Int)),dT (((i+n:Nat):Int)<=l.length)]
  dsimp only[wV,zj,zh,yt,zqR,zb]
  rw[show ((255:Int)==255)=true from rfl]
  dsimp only[zb]
  rw[zU,zU,hbl,yq (by rw[zqS];show (_+1+_)*1<=_;omega) (by rw[zqS];show _+1+_<=_;omega),←wP]
  rfl
 induction c with
 |zero=>
  intro n hn hi
  rw[Ki,dF ((n:Int)<255)]
  refine Eq.trans ?_ (fin n (by omega) hi)
  cases decide (IntKind.wrap .i64 ((i:Int)+n)<((ws l).length:Int))<;>rfl
 |succ c ih=>
  intro n hn hi
  rw[Ki,dT ((n:Int)<255)]
  by_cases h:i+n<l.length
  ·have hg:(ws l)[(IntKind.wrap .i64 ((i:Int)+n)).toNat]? = some (U l[i+n]):=by
    rw[zc (by omega),show ((i:Int)+n).toNat=i+n by omega]
    exact vZ h
   have hx:zC l[i+n]:=hw _ (List.getElem_mem h)
   rw[hg,List.drop_eq_getElem_cons h,runN,decide_eq_true (show IntKind.wrap .i64 ((i:Int)+n)<((ws l).length:Int) by rw[zc (by omega),zZ];omega),decide_eq_true (show 0<=IntKind.wrap .i64 ((i:Int)+n) by rw[zc (by omega)];omega)]
   dsimp only[wV,zj,zqR,z9,zqP,zb,xc]
   rw[show ((255:Int)==0)=false from rfl,show ((255:Int)==255)=true from rfl]
   dsimp only[zb,zl]
   rw[zgC hx]
   dsimp only[zh,yL,zqR]
   cases h0:yV l[i+n] with
   |true=>
    have hn1:=ih (n+1) (by omega) (by omega)
    rw[if_pos rfl,zc (x:=(n:Int)+1),show n+(runN yV c (l.drop (i+n+1))+1)=n+1+runN yV c (l.drop (i+(n+1))) by rw[show i+(n+1)=i+n+1 by omega];omega]
    exact hn1
   |false=>
    rw[if_neg (by decide)]
    exact fin n (by omega) hi
  ·rw[decide_eq_false (show ¬IntKind.wrap .i64 ((i:Int)+n)<((ws l).length:Int) by rw[zc (by omega),zZ];omega),show l.drop (i+n)=[] from List.drop_eq_nil_of_le (by omega)]
   exact fin n (by omega) hi
theorem zol {l:List Int} (hw:∀ x∈l,zC x) (hl:l.length<=1099511627776):∀ (f i:Nat) (out:List Int),i<=l.length->l.length-i<=f->out.length+16*(l.length-i)<=8796093022208->
  xB (ws l) (bs out) i=ok (.sl 1 (bs (out++pk f (l.drop i)))):=by
 intro f
 induction f with
 |zero=>
  intro i out hi hf ho
  rw[qJ,zZ,decide_eq_false (by omega),pk,List.append_nil]
  rfl
 |succ f ih=>
  intro i out hi hf ho
  by_cases h:i<l.length
  ·have hg:(ws l)[(i:Int).toNat]? = some (U l[i]):=vZ h
   have hx:zC l[i]:=hw _ (List.getElem_mem h)
   have hz:=uG l[i]
   have hcast:(i:Int)+1=((i+1:Nat):Int):=by push_cast;rfl
   have hlen:(out++[wg l[i]]++vo l[i]).length<=out.length+9:=by simp;omega
   rw[qJ,zZ,dT ((i:Int)<l.length),dT (0<=(i:Int)),hg,List.drop_eq_getElem_cons h]
   dsimp only[zj,zqR,z9,zqP,zb]
   rw[zgH hx,zU,yq (by omega) (by omega)]
   dsimp only[zb,zh,z9,wV,zqR]
   rw[jC hx]
   dsimp only[zh,yt,zqR]
   rw[XM,zU,zU,yq (by rw[zqS];show (_+1+_)*1<=_;omega) (by rw[zqS];show _+1+_<=_;omega),←wP,zc (x:=(i:Int)+1),hcast]
   dsimp only[zb]
   by_cases h0:wg l[i]=0
   ·have hrn:=Xq xQ 255 (l.drop (i+1))
    rw[zqO] at hrn
    have hr:=zom (l:=l) (out:=out++[wg l[i]]++vo l[i]) hl (by omega) (i:=i+1) 255 0 rfl (by omega)
    rw[Nat.zero_add,Nat.add_zero] at hr
    rw[pk,if_pos h0,h0,show ((0:Int) != 0)=false from rfl]
    rw[h0] at hr
    refine Eq.trans (b:=ZT (ws l) (bs (out++[0]++vo l[i])) ((i+1:Nat):Int) (U8 0) ((0:Nat):Int)) rfl ?_
    rw[hr,ih _ _ (by omega) (by omega) (by rw[h0] at hlen;rw[zqS];show _+1+_<=_;omega),List.drop_drop]
    simp only[List.append_assoc,List.cons_append,zqU]
   ·rw[yP h0]
    dsimp only[zb]
    by_cases h1:wg l[i]=255
    ·have hrn:=Xq yV 255 (l.drop (i+1))
     rw[zqO] at hrn
     have hr:=zon (l:=l) (out:=out++[wg l[i]]++vo l[i]) hw hl (by omega) (i:=i+1) 255 0 rfl (by omega)
     rw[Nat.zero_add,Nat.add_zero] at hr
     have hbl:(zu ((l.drop (i+1)).take (runN yV 255 (l.drop (i+1))))).length=8*runN yV 255 (l.drop (i+1)):=by rw[yT,zqN,zqO];omega
     rw[pk,if_neg h0,if_pos h1,h1,show ((255:Int) != 255)=false from rfl]
     rw[h1] at hr hlen
     refine Eq.trans (b:=ZT (ws l) (bs (out++[255]++vo l[i])) ((i+1:Nat):Int) (U8 255) ((0:Nat):Int)) rfl ?_
     rw[hr,ih _ _ (by omega) (by omega) (by rw[zqS,zqS,hbl];show _+1+_+_<=_;omega),List.drop_drop]
     simp only[List.append_assoc,List.cons_append,zqU]
    ·have h2:(wg l[i] != 255)=true:=bne_iff_ne.2 h1
     rw[pk,if_neg h0,if_neg h1,h2]
     refine Eq.trans (ih (i+1) _ (by omega) (by omega) (by omega)) ?_
     simp only[List.append_assoc,List.cons_append,zqU]
  ·rw[qJ,zZ,decide_eq_false (by omega),List.drop_eq_nil_of_le (by omega),pk,List.append_nil]
   rfl
theorem zgI {l:List Int} (hw:∀ x∈l,zC x) (hl:l.length<=68719476736):ev 44 [.pv (.sl 1 (ws l))] []=ok (.sl 1 (bs (pack l))):=by
 rw[zjH]
 exact zol hw (by omega) l.length 0 [] (by omega) (by omega) (by show 0+_<=_;omega)
theorem zii (a b:List Int):zu (a++b)=zu a++zu b:=by simp[zu]
def DRel (r:Dr) (yF:Int) (out:List Int) (x:List Int×Bool):Prop :=
 ((out.length:Int)+8*x.1.length<=yF->r.e=(if x.2=true then 2 else 0)/\(x.2=false->r.o=out++zu x.1))/\(yF<(out.length:Int)+8*x.1.length->r.e=1)
theorem DRel.pre {r:Dr} {yF:Int} {out a:List Int} {x:List Int×Bool} (h:DRel r yF (out++zu a) x):DRel r yF out (uW a x):=by
 have hl:(out++zu a).length=out.length+8*a.length:=by rw[zqS,yT]
 have hp:(uW a x).1.length=a.length+x.1.length:=by simp[uW]
 obtain ⟨h1,h2⟩:=h
 refine ⟨fun h=>?_,fun h=>h2 (by omega)⟩
 obtain ⟨e1,e2⟩:=h1 (by omega)
 refine ⟨e1,fun hc=>?_⟩
 rw[e2 hc,List.append_assoc]
 show _=out++zu (a++x.1)
 rw[zii]
theorem znd:∀ (g:Nat) (W:List Int),W.length<=g->(∀ x∈pk g W,zF x)/\(pk g W).length<=16*W.length:=by
 intro g
 induction g with
 |zero=>
  intro W hg
  rw[pk]
  exact ⟨(fun x hx=>absurd hx List.not_mem_nil),Nat.zero_le _⟩
 |succ g ih=>
  intro W hg
  cases W with
  |nil=>rw[pk];exact ⟨(fun x hx=>absurd hx List.not_mem_nil),Nat.zero_le _⟩
  |cons w l=>
   rw[zqT] at hg ⊢
   have hz:=uG w
   have ht:zF (wg w):=by have:=Jt w;unfold zF;omega
   have hnz:∀ x∈vo w,zF x:=fun x hx=>zpS w x ((List.mem_filter.1 hx).1)
   rw[pk]
   split
   ·have hr:=Xq xQ 255 l
    obtain ⟨i1,i2⟩:=ih (l.drop (runN xQ 255 l)) (by rw[zqO];omega)
    rw[zqO] at i2
    refine ⟨fun x hx=>?_,?_⟩
    ·rcases List.mem_append.1 hx with h|h
     ·rcases List.mem_cons.1 h with rfl|h
      ·exact ht
      ·exact hnz x h
     ·rcases List.mem_cons.1 h with rfl|h
      ·unfold zF;omega
      ·exact i1 x h
    ·rw[zqS,zqT,zqT];omega
   ·split
    ·have hr:=Xq yV 255 l
     obtain ⟨i1,i2⟩:=ih (l.drop (runN yV 255 l)) (by rw[zqO];omega)
     have hbl:(zu (l.take (runN yV 255 l))).length=8*runN yV 255 l:=by rw[yT,zqN];omega
     rw[zqO] at i2
     refine ⟨fun x hx=>?_,?_⟩
     ·rcases List.mem_append.1 hx with h|h
      ·rcases List.mem_cons.1 h with rfl|h
       ·exact ht
       ·exact hnz x h
      ·rcases List.mem_cons.1 h with rfl|h
       ·unfold zF;omega
       ·rcases List.mem_append.1 h with h|h
        ·exact ww _ x h
        ·exact i1 x h
     ·rw[zqS,zqT,zqT,zqS,hbl];omega
    ·obtain ⟨i1,i2⟩:=ih l (by omega)
     refine ⟨fun x hx=>?_,?_⟩
     ·rcases List.mem_append.1 hx with h|h
      ·rcases List.mem_cons.1 h with rfl|h
       ·exact ht
       ·exact hnz x h
      ·exact i1 x h
     ·rw[zqS,zqT];omega
theorem zma {b:List Int} (hl:b.length<=4000):(∀ x∈mP b,zF x)/\(mP b).length<=65536:=by
 unfold mP
 split
 ·exact ⟨(fun x hx=>absurd hx List.not_mem_nil),Nat.zero_le _⟩
 ·obtain ⟨h1,h2⟩:=znd (zW (b.length/8) b).length (zW (b.length/8) b) (Nat.le_refl _)
  rw[yZ] at h2
  exact ⟨h1,by unfold pack;rw[yZ];omega⟩
end Go.Proofs.YtjbjeeoifhegfaaGreatDoor.E
