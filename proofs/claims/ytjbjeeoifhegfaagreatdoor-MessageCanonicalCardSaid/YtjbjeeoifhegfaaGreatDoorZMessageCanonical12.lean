/- This text is one of those that prove the law MessageCanonical of the given program, as its statement says it: true on every input that the statement covers. Its conditions are the statement's own. -/
import Derived.Below
import Derived.ProofKit
import Derived.OpenShut
import Derived.Stop.Joined
import Derived.LaidMore
import Derived.Deep.Slices
import Derived.Test.YtjbjeeoifhegfaaGreatDoorRows
import Derived.Maps.OwnSet
import Derived.Maps.Keyed
import Derived.LaidSub
import Derived.Lib.LaidTab
import Derived.WalkKit
import Derived.LaidEql
import Derived.Stop.Asserts
import Derived.RowKitTokens
import Derived.Stop.LaidTwo
import Derived.LaidHandle
import Derived.Test.YtjbjeeoifhegfaaGreatDoorZMessageCanonical1
import Derived.Test.YtjbjeeoifhegfaaGreatDoorZMessageCanonical2
import Derived.Test.YtjbjeeoifhegfaaGreatDoorZMessageCanonical3
import Derived.Test.YtjbjeeoifhegfaaGreatDoorZMessageCanonical4
import Derived.Test.YtjbjeeoifhegfaaGreatDoorZMessageCanonical5
import Derived.Test.YtjbjeeoifhegfaaGreatDoorZMessageCanonical6
import Derived.Test.YtjbjeeoifhegfaaGreatDoorZMessageCanonical7
import Derived.Test.YtjbjeeoifhegfaaGreatDoorZMessageCanonical8
import Derived.Test.YtjbjeeoifhegfaaGreatDoorZMessageCanonical9
import Derived.Test.YtjbjeeoifhegfaaGreatDoorZMessageCanonical10
import Derived.Test.YtjbjeeoifhegfaaGreatDoorZMessageCanonical11
set_option linter.unusedVariables false
set_option linter.unusedSimpArgs false
open List renaming getElem?_cons_zero->zph
open List renaming getElem?_cons_succ->zpi
open Option renaming bind_some->zpj
open List renaming length_append->zpk
open List renaming length_cons->zpl
open List renaming nil_append->zpm
open Option.some renaming injEq->zpo
namespace Go.Proofs.YtjbjeeoifhegfaaGreatDoor.E
open Go.RowKit
def g0 (w:World):Nat->Option (Array Value):=fun b=>match w.heap[b]? with
 |some (.cells c _ _)=>some c
 |_=>none
def G0 (w:World):Gh:=⟨g0 w,fun _=>none,fun b=>if b<w.heap.size then some .imm else none⟩
theorem zj5 {w:World} {b:Nat} {c:Array Value} (h:g0 w b=some c):∃ T f,w.heap[b]? = some (.cells c T f):=by
 unfold g0 at h
 split at h
 ·rename_i c' T f hb;cases h;exact ⟨T,f,hb⟩
 ·cases h
theorem ZT {w:World} {a:Addr} {u:Value} (h:w.cell? a=some u):a.spot=none/\∃ c,g0 w a.block=some c/\c[a.off]? = some u:=by
 unfold World.cell? at h
 split at h
 ·rename_i c T f hb
  cases hs:a.spot with
  |some s=>simp[hs] at h
  |none=>simp only[hs,Option.isSome_none,Bool.false_eq_true,if_false] at h;exact ⟨rfl,c,by unfold g0;rw[hb],h⟩
 ·cases h
theorem zoK {P:Program} {E:Env} {w:World} (hmaps:∀ g l,find E.maps g=some l->∃ v c,g0 w g=some c/\c[0]? = some v/\MRel P E (G0 w) w g v) (hglob:∀ g p,find E.glob g=some p->ERel (G0 w) p 0 (.pointer (some ⟨g,0,none⟩)))
  (hsen:∀ g,find E.glob g=some (.sen g)->∃ c a ca ta,g0 w g=some c/\c[0]? = some (.iface E.sty (.pointer (some a)))/\w.heap[a.block]? = some (.cells ca ta (0,0)))
  (hdst:∀ g1 g2 c1 c2,find E.glob g1=some (.sen g1)->find E.glob g2=some (.sen g2)->g1≠g2->g0 w g1=some c1->g0 w g2=some c2->c1[0]?≠c2[0]?)
  (hfix:∀ g v,find E.fix g=some v->∃ c,g0 w g=some c/\c[0]? = some v):WOk P E (G0 w) w:=by
 refine ⟨fun b c hb=>?_,fun b h hb=>?_,hmaps,hglob,fun g hg=>by
  obtain ⟨c,a,ca,ta,h1,h2,h3⟩:=hsen g hg
  exact ⟨c,a,ca,ta,h1,h2,if_pos (Array.getElem?_eq_some_iff.1 h3).1,h3⟩,hdst,hfix⟩
 ·obtain ⟨T,f,h⟩:=zj5 hb
  exact ⟨if_pos (Array.getElem?_eq_some_iff.1 h).1,T,f,h⟩
 ·by_cases hl:b<w.heap.size
  ·exact hl
  ·rw[show (G0 w).ka b=none from if_neg hl] at hb;cases hb
theorem zg1 {w w':World} {G':Gh} (f:Fr (G0 w) w G' w' X0):Below w.heap.size w w' :=
 ⟨f.os,f.tape,f.output,f.size,fun k hk=>(f.ka k .imm (if_pos hk) X0_old.1).2⟩
theorem zng {P:Program} {E:Env} {yr:List (Nat×Func)} (hm:P.follows .mixedOrders=true) (hS:SysOk P E) (wJ:∀ f fn,find yr f=some fn->P.funcs[f]? = some fn/\fn.body.isSome=true/\(fn.name == "runtime.NumGoroutine")=false) (Wc:Je P E)
  {w:World} (hw:WOk P E (G0 w) w) {f:Nat} {ps:List PV} {vs:Array Value} (hsz:vs.size=ps.length) (hps:∀ (j:Nat) (p:PV) (x:Value),ps[j]? = some p->vs[j]? = some x->PRep (g0 w) p x)
  (hv:val E yr f (ps.map .pv) []=some (.ret (.pv (.v (.bool true))),[])):Calls P f vs w fun e w' => e = .returned (.bool true)/\Below w.heap.size w w':=by
 obtain ⟨k,hk⟩:=zot hv
 refine ((zjJ hm hS wJ Wc k).1 f _ _ _ _ hk (G0 w) w vs ⟨hw,fun l cs hl=>(by simp at hl),fun l b hb=>(by cases hb),(by simpa using hsz),fun j q x hq hx=>?_⟩).mono fun e w' he=>?_
 ·rw[List.getElem?_map] at hq
  cases hj:ps[j]? with
  |none=>simp[hj] at hq
  |some p=>
   simp only[hj,Option.map_some,zpo] at hq
   subst hq
   exact .inl ⟨rfl,fun _=>hps j p x hj hx⟩
 ·obtain ⟨G',f',_,_,_,ho⟩:=he
  refine ⟨?_,zg1 f'⟩
  cases e with
  |returned v=>
   have:PRep G'.g (.v (.bool true)) v:=ho
   rw[xl this]
  |panicked c=>exact ho.elim
  |outgrown=>exact ho.elim
structure Enc (α:Type) where
 cells:α->List PV
 sz:Nat
 agg:Bool
 len:∀ a,(cells a).length=sz
 one:agg=false->sz=1
def Enc.pv {α:Type} (e:Enc α) (a:α):PV:=if e.agg then .agg (e.cells a) else (e.cells a).headD (.v .nilFunc)
def RdsAt {H α:Type} (enc:TypeId×Value->H) (P:Program) (w:World) (n:Nat) (t:TypeId) (e:Enc α) (S:α->DataW H->Prop):Prop :=
 ∀ cs x,DataW.trod enc P w 0 (fun _=>true) true n t cs=some x->∃ a,cs.length=e.sz/\(∀ (j:Nat) (q:PV) (u:Value),(e.cells a)[j]? = some q->cs[j]? = some u->q.isCell=true/\PRep (g0 w) q u)/\S a x.1
def QW (k:IntKind):Enc Int:=⟨fun n=>[.v (.int k n)],1,false,fun _=>rfl,fun _=>rfl⟩
def qc:Enc Bool:=⟨fun b=>[.v (.bool b)],1,false,fun _=>rfl,fun _=>rfl⟩
def XV {α:Type} (e:Enc α):Enc (List α):=⟨fun l=>[.sl e.sz (l.map e.pv)],1,false,fun _=>rfl,fun _=>rfl⟩
def DI {H:Type} (k:IntKind) (n:Int) (x:DataW H):Prop:=x=.lit (.int k n)/\(Lit.int k n).wf=true
def DB {H:Type} (b:Bool) (x:DataW H):Prop:=x=.lit (.bool b)
inductive DAll {H α:Type} (S:α->DataW H->Prop):List α->List (DataW H)->Prop
 |nil:DAll S [] []
 |cons {a:α} {x:DataW H} {us:List α} {xs:List (DataW H)}:S a x->DAll S us xs->DAll S (a::us) (x::xs)
def DS {H α:Type} (S:α->DataW H->Prop) (xs:List α) (x:DataW H):Prop:=xs.length<=9223372036854775807/\((xs=[]/\x=.nil)∨∃ es rest,x=.slice es rest/\DAll S xs es)
theorem DAll.mem {H α:Type} {S:α->DataW H->Prop} {us:List α} {xs:List (DataW H)} (h:DAll S us xs) {a:α} (ha:a∈us):∃ x,x∈xs/\S a x:=by
 induction h with
 |nil=>cases ha
 |cons h0 _ ih=>
  rcases List.mem_cons.1 ha with rfl|ha
  ·exact ⟨_,List.mem_cons_self,h0⟩
  ·obtain ⟨x,hx,hs⟩:=ih ha
   exact ⟨x,List.mem_cons_of_mem _ hx,hs⟩
theorem DAll.length {H α:Type} {S:α->DataW H->Prop} {us:List α} {xs:List (DataW H)} (h:DAll S us xs):us.length=xs.length:=by
 induction h with
 |nil=>rfl
 |cons _ _ ih=>simp[ih]
theorem DS.mem {H α:Type} {S:α->DataW H->Prop} {xs:List α} {x:DataW H} (h:DS S xs x) {a:α} (ha:a∈xs):∃ y,S a y:=by
 rcases h.2 with ⟨rfl,_⟩|⟨es,rest,_,h⟩
 ·cases ha
 ·obtain ⟨y,_,hs⟩:=h.mem ha
  exact ⟨y,hs⟩
theorem DAll.of_get {H α:Type} {S:α->DataW H->Prop}:∀ {us:List α} {xs:List (DataW H)},us.length=xs.length->(∀ (i:Nat) (a:α) (x:DataW H),us[i]? = some a->xs[i]? = some x->S a x)->DAll S us xs
 |[],[],_,_=>.nil
 |[],_::_,h,_=>by simp at h
 |_::_,[],h,_=>by simp at h
 |a::us,x::xs,h,hg=>.cons (hg 0 a x rfl rfl) (DAll.of_get (by simpa using h) fun i b y hb hy=>hg (i+1) b y (by simpa using hb) (by simpa using hy))
section
variable {H α β:Type} {enc:TypeId×Value->H} {P:Program} {w:World} {n:Nat} {t e:TypeId}
theorem Enc.pv_cells (d:Enc α) (a:α) (hc:∀ q∈d.cells a,q.isCell=true):(d.pv a).cells=d.cells a:=by
 unfold Enc.pv
 cases ha:d.agg with
 |true=>rfl
 |false=>
  simp only[Bool.false_eq_true,if_false]
  have h1:=d.one ha
  have h2:=d.len a
  match hcs:d.cells a with
  |[]=>rw[hcs] at h2;simp at h2;omega
  |[q]=>
   have:=hc q (by rw[hcs];exact List.mem_cons_self)
   simp only[List.headD_cons]
   cases q<;>simp_all [PV.cells,PV.isCell]
  |q::r::l=>rw[hcs] at h2;simp at h2;omega
theorem RdsAt.zero (t:TypeId) (d:Enc α) (S:α->DataW H->Prop):RdsAt enc P w 0 t d S:=by
 intro cs x h
 simp[DataW.trod] at h
theorem RdsAt.int {k:IntKind} (ht:P.underlying t=some (.int k)):RdsAt enc P w n t (QW k) (DI k):=by
 intro cs x h
 obtain ⟨m,rfl,rfl,hw⟩:=DataW.trod_int ht h
 refine ⟨m,rfl,fun j q u hq hu=>?_,rfl,hw⟩
 cases j with
 |zero=>simp[QW] at hq hu;subst hq;subst hu;exact ⟨rfl,.v rfl⟩
 |succ j=>simp[QW] at hq
theorem RdsAt.bool (ht:P.underlying t=some .bool):RdsAt enc P w n t qc DB:=by
 intro cs x h
 obtain ⟨b,rfl,rfl⟩:=DataW.trod_bool ht h
 refine ⟨b,rfl,fun j q u hq hu=>?_,rfl⟩
 cases j with
 |zero=>simp[qc] at hq hu;subst hq;subst hu;exact ⟨rfl,.v rfl⟩
 |succ j=>simp[qc] at hq
theorem zci {f:α->Option β}:∀ {l:List α} {r:List β},l.mapM f=some r->r.length=l.length/\∀ (i:Nat) (x:α),l[i]? = some x->f x=r[i]?
 |[],r,h=>by simp at h;subst h;simp
 |a::l,r,h=>by
  simp only[List.mapM_cons,Option.bind_eq_bind,Option.bind_eq_some_iff,Option.pure_def,zpo] at h
  obtain ⟨b,hb,r',hr,rfl⟩:=h
  obtain ⟨h1,h2⟩:=zci hr
  refine ⟨by simp[h1],fun i x hx=>?_⟩
  cases i with
  |zero=>simp at hx;subst hx;simpa using hb
  |succ i=>simp at hx;simpa using h2 i x hx
theorem ziz {w:World} {a:Addr} {n:Nat} {cs:List Value} (h:w.cells? 0 a n=some cs):cs.length=n/\∀ (i:Nat) (u:Value),cs[i]? = some u->w.cell? (a.add i)=some u:=by
 simp only[World.cells?,Nat.zero_le,if_true] at h
 obtain ⟨h1,h2⟩:=zci h
 refine ⟨by simpa using h1,fun i u hu=>?_⟩
 have hi:i<n:=by have:=(List.getElem?_eq_some_iff.1 hu).1;simp at h1;omega
 rw[h2 i i (by simp[hi]),hu]
theorem zbi {p:Nat->α->Prop}:∀ (m:Nat),(∀ i,i<m->∃ a,p i a)->∃ l:List α,l.length=m/\∀ (i:Nat) (a:α),l[i]? = some a->p i a
 |0,_=>⟨[],rfl,fun i a h=>by simp at h⟩
 |m+1,h=>by
  obtain ⟨l,hl,hp⟩:=zbi m (fun i hi=>h i (by omega))
  obtain ⟨a,ha⟩:=h m (by omega)
  refine ⟨l++[a],by simp[hl],fun i b hb=>?_⟩
  rcases Nat.lt_or_ge i l.length with hi|hi
  ·rw[List.getElem?_append_left hi] at hb
   exact hp i b hb
  ·have:i=l.length:=by
    have:=(List.getElem?_eq_some_iff.1 hb).1
    simp at this
    omega
   subst this
   simp at hb
   subst hb
   rw[hl]
   exact ha
theorem RdsAt.slice {d:Enc α} {S:α->DataW H->Prop} (ht:P.underlying t=some (.slice e)) (hc:P.cellsOf e=d.sz) (h0:0<d.sz) (h:RdsAt enc P w n e d S):RdsAt enc P w (n+1) t (XV d) (DS S):=by
 intro cs x hx
 rcases DataW.trod_slice ht hx with ⟨rfl,rfl⟩|⟨a,len,cap,elems,rest,m,hm,rfl,rfl,_,hl,hcap,hlen,hel,_⟩
 ·refine ⟨[],rfl,fun j q u hq hu=>?_,by simp,.inl ⟨rfl,rfl⟩⟩
  cases j with
  |zero=>simp[XV] at hq hu;subst hq;subst hu;exact ⟨rfl,.sl0⟩
  |succ j=>simp[XV] at hq
 ·obtain rfl:n=m:=by omega
  have key:∀ i,i<len->∃ p:α,(∀ (j:Nat),j<d.sz->∃ q u,(d.cells p)[j]? = some q/\w.cell? (a.add (i*d.sz+j))=some u/\q.isCell=true/\PRep (g0 w) q u)/\∃ y,elems[i]? = some y/\S p y.1:=by
   intro i hi
   have h1:=hel i hi
   rw[List.getElem?_eq_getElem (by omega:i<elems.length)] at h1
   obtain ⟨c,hc1,hc2⟩:=Option.bind_eq_some_iff.mp h1
   obtain ⟨p,hp1,hp2,hs⟩:=h c _ hc2
   obtain ⟨k1,k2⟩:=ziz hc1
   refine ⟨p,fun j hj=>?_,_,List.getElem?_eq_getElem (by omega),hs⟩
   have hjc:j<c.length:=by omega
   have hjd:j<(d.cells p).length:=by rw[d.len];exact hj
   obtain ⟨g1,g2⟩:=hp2 j _ _ (List.getElem?_eq_getElem hjd) (List.getElem?_eq_getElem hjc)
   refine ⟨_,_,List.getElem?_eq_getElem hjd,?_,g1,g2⟩
   have:=k2 j _ (List.getElem?_eq_getElem hjc)
   rwa [Deep.add_add,hc] at this
  obtain ⟨ps,hpl,hps⟩:=zbi len key
  have hcell:∀ p∈ps,∀ q∈d.cells p,q.isCell=true:=fun p hp q hq=>by
   obtain ⟨i,hi,rfl⟩:=List.getElem_of_mem hp
   obtain ⟨j,hj,rfl⟩:=List.getElem_of_mem hq
   rw[d.len] at hj
   obtain ⟨q',u,e1,e2,e3,e4⟩:=(hps i _ (List.getElem?_eq_getElem hi)).1 j hj
   rw[List.getElem?_eq_getElem (by rw[d.len];exact hj)] at e1
   cases e1
   exact e3
  have hpv:∀ p∈ps,(d.pv p).cells=d.cells p:=fun p hp=>d.pv_cells p (hcell p hp)
  refine ⟨ps,rfl,fun j q u hq hu=>?_,by rw[hpl];unfold maxLen at hcap;omega,.inr ⟨_,_,rfl,?_⟩⟩
  ·cases j with
   |succ j=>simp[XV] at hq
   |zero=>
    simp[XV] at hq hu
    subst hq
    subst hu
    refine ⟨rfl,?_⟩
    match hlen0:len with
    |0=>
     have:ps=[]:=List.length_eq_zero_iff.1 hpl
     subst this
     exact .sl0
    |m+1=>
    have hl0:0<ps.length:=by omega
    obtain ⟨q0,u0,_,e2,_,_⟩:=(hps 0 _ (List.getElem?_eq_getElem hl0)).1 0 h0
    rw[show 0*d.sz+0=0 by omega,show a.add 0=a by simp[Addr.add]] at e2
    obtain ⟨hs,c,hg,_⟩:=ZT e2
    obtain ⟨ab,ao,as0⟩:=a
    simp only at hs hg
    subst hs
    have hadd:∀ k,(⟨ab,ao,none⟩:Addr).add k=⟨ab,ao+k,none⟩:=fun k=>by
     unfold Addr.add
     split
     ·rename_i hk;subst hk;rfl
     ·rfl
    have hcells:∀ (i:Nat) (p:α),ps[i]? = some p->∀ (j:Nat),j<d.sz->∃ q u,(d.cells p)[j]? = some q/\c[ao+i*d.sz+j]? = some u/\q.isCell=true/\PRep (g0 w) q u:=fun i p hp j hj=>by
     obtain ⟨q,u,e1,e2,e3,e4⟩:=(hps i p hp).1 j hj
     rw[hadd] at e2
     obtain ⟨_,c',hg',hcu⟩:=ZT e2
     simp only at hg' hcu
     rw[hg] at hg'
     cases hg'
     exact ⟨q,u,e1,by rw[Nat.add_assoc];exact hcu,e3,e4⟩
    have hrep:∀ (i:Nat) (x:PV) (j:Nat) (q:PV) (u:Value),(ps.map d.pv)[i]? = some x->x.cells[j]? = some q->c[ao+i*d.sz+j]? = some u->q.isCell=true/\PRep (g0 w) q u:=fun i x j q u hx hq hu=>by
     rw[List.getElem?_map] at hx
     cases hp:ps[i]? with
     |none=>simp[hp] at hx
     |some p=>
      simp only[hp,Option.map_some,zpo] at hx
      subst hx
      rw[hpv p (List.mem_of_getElem? hp)] at hq
      have hj:j<d.sz:=by rw[←d.len p];exact (List.getElem?_eq_some_iff.1 hq).1
      obtain ⟨q',u',e1,e2,e3,e4⟩:=hcells i p hp j hj
      rw[hq] at e1
      rw[hu] at e2
      cases e1;cases e2
      exact ⟨e3,e4⟩
    have hlast:ao+ps.length*d.sz<=c.size:=by
     obtain ⟨q,u,_,e2,_⟩:=hcells (ps.length-1) _ (List.getElem?_eq_getElem (by omega)) (d.sz-1) (by omega)
     have:=(Array.getElem?_eq_some_iff.1 e2).1
     have e:ps.length*d.sz=(ps.length-1)*d.sz+d.sz:=by
      rw[←Nat.succ_mul]
      congr 1
      omega
     omega
    have hfin:=PRep.sl (g:=g0 w) (sz:=d.sz) (b:=ab) (o:=ao) (cap:=cap) (xs:=ps.map d.pv) (c:=c) hg (by simp[hpl];omega) (by simpa using hlast) (fun x hx=>by
      obtain ⟨p,hp,rfl⟩:=List.mem_map.1 hx
      rw[hpv p hp,d.len]) (fun i x j q u hx hq hu=>(hrep i x j q u hx hq hu).1) (fun i x j q u hx hq hu=>(hrep i x j q u hx hq hu).2)
    rw[List.length_map,hpl] at hfin
    exact hfin
  ·refine DAll.of_get (by simp[hpl,hlen]) fun i p y hp hy=>?_
   obtain ⟨_,z,hz,hs⟩:=hps i p hp
   rw[List.getElem?_map,hz] at hy
   simp at hy
   subst hy
   exact hs
theorem zc6 {d:Enc α} {S:α->DataW H->Prop} (h:∀ n,RdsAt enc P w n t d S) {v:Value} {x:DataW H} {ps:List MemPlace} (hag:d.agg=false->v.cells=#[v]) (hag':d.agg=true->∃ vs,v=.agg vs) (hv:DataW.Trod enc P w 0 (fun _=>true) true t v x ps):∃ a,PRep (g0 w) (d.pv a) v/\S a x:=by
 obtain ⟨fuel,hf⟩:=hv
 obtain ⟨a,h1,h2,h3⟩:=h fuel _ _ hf
 refine ⟨a,?_,h3⟩
 unfold Enc.pv
 cases ha:d.agg with
 |true=>
  obtain ⟨vs,rfl⟩:=hag' ha
  simp only[if_true]
  have e:(Value.agg vs).cells=vs:=rfl
  rw[e] at h1 h2
  refine .agg (by rw[d.len];simpa using h1) (fun q hq=>?_) (fun j q u hq hu=>(h2 j q u hq (by simpa using hu)).2)
  obtain ⟨j,hj,rfl⟩:=List.getElem_of_mem hq
  have hj':j<vs.size:=by rw[d.len] at hj;simp at h1;omega
  exact (h2 j _ vs[j] (List.getElem?_eq_getElem hj) (by simp[hj'])).1
 |false=>
  simp only[Bool.false_eq_true,if_false]
  have hl:=d.len a
  rw[d.one ha] at hl
  obtain ⟨q,hq⟩:=List.length_eq_one_iff.1 hl
  rw[hq]
  simp only[List.headD_cons]
  rw[hag ha] at h2
  exact (h2 0 q v (by rw[hq];rfl) rfl).2
end
open Go.RowKit Go.WideMaps Go.WideElems
theorem hm:Tryz.prog.follows .mixedOrders=true:=by kernel_rfl
theorem hS:SysOk Tryz.prog env:=znH (by kernel_rfl)
def gX (f:Nat) (fn:Func):Prop:=Tryz.prog.funcs[f]? = some fn/\fn.body.isSome=true/\(fn.name == "runtime.NumGoroutine")=false
def Jc:List (Nat×Func)->Prop
 |[]=>True
 |p::l=>gX p.1 p.2/\Jc l
theorem zbn:∀ {l:List (Nat×Func)} {f:Nat} {fn:Func},Jc l->find l f=some fn->gX f fn
 |[],_,_,_,h=>by cases h
 |(k,a)::l,f,fn,hl,h=>by
  unfold find at h
  split at h
  ·rename_i hk
   cases h
   subst hk
   exact hl.1
  ·exact zbn hl.2 h
set_option maxRecDepth 100000 in
theorem zjT:Jc yr:=by repeat' first|exact trivial|refine ⟨?_,?_⟩|kernel_rfl
theorem wJ:∀ f fn,find yr f=some fn->Tryz.prog.funcs[f]? = some fn/\fn.body.isSome=true/\(fn.name == "runtime.NumGoroutine")=false:=fun f fn h=>zbn zjT h
def opsOf:Code->List Oper
 |.region _ ops _=>ops.toList
 |_=>[]
def zkk:Code->Nat
 |.region id _ _=>id
 |_=>0
noncomputable def vL:Code:=Tryz.f275.body.getD .skip
noncomputable def cl0:Oper:=(opsOf (sub vL [1,0,0]))[0]?.getD { dst:=none,op:=.move (.tmp 0),type:=0,pos:= "",after:=#[],guard:=none }
noncomputable def cl1:Oper:=(opsOf (sub vL [1,0,0]))[1]?.getD { dst:=none,op:=.move (.tmp 0),type:=0,pos:= "",after:=#[],guard:=none }
theorem ziJ (xs:List PV) (st1:St) (h:z9 env Zt 8 275 1 0 (sub vL [0]) ⟨fun t=>(([.pv (.sl 1 xs)]:List AV)[t]?).getD .dead,[]⟩=some (.normal,st1)):st1.sl 0=.pv (.sl 1 xs):=by
 have:(z9 env Zt 8 275 1 0 (sub vL [0]) ⟨fun t=>(([.pv (.sl 1 xs)]:List AV)[t]?).getD .dead,[]⟩).map (fun r=>r.2.sl 0)=some (.pv (.sl 1 xs)):=by kernel_rfl
 rw[h] at this
 simpa using this
theorem ziK:XP env 8 275 Tryz.f275.results.toList (sub vL [0]) (.seq (sub vL [1,0,1,0,0]) .ret) 1 []=some (.ret (.slu 5 1 []),[]):=by kernel_rfl
theorem ziL (xs:List PV):XP env 8 275 Tryz.f275.results.toList (sub vL [0]) (.seq (sub vL [1,1,0]) .ret) 1 xs=cond (yf (([]:List PV).length+xs.length) 1) (some (.ret (.slu 5 1 xs),[])) none:=by kernel_rfl
theorem ziN {args:List AV} {H:zh} {out:Out} {H':zh} (hc:clone env (5,1,1) args H=some (out,H')) {G:Gh} {w:World} {vs:Array Value} (pre:PreC Tryz.prog env G w args vs H) :
  Calls Tryz.prog 275 vs w fun e w' => vo Tryz.prog env G w H' out e w' :=
 ziO hm hS Tryz.func275 (T:=22) (e:=5) (id1:=zkk (sub vL [1,0,0])) (o0:=cl0) (o1:=cl1) (R0:=sub vL [0]) (R2:=sub vL [1,0,1,0,0]) (R3:=sub vL [1,1,0]) Tryz.underlying22 (by kernel_rfl) (by kernel_rfl) (by kernel_rfl) (by kernel_rfl) (by kernel_rfl) (by kernel_rfl) (by kernel_rfl) (of_decide_eq_true (by kernel_rfl)) ziJ ziK (fun xs h=>(ziL xs).trans (by rw[show ([]:List PV).length+xs.length=xs.length from Nat.zero_add _,h];rfl)) hc (by decide) pre
open Go.RowKit Go.Extern.Stop Go.Stop Go.Extern
theorem XX {P:Program} {E:Env} {G:Gh} {w w':World} {p:PV} {v:Value} (wo:WOk P E G w) (hb:Below w.heap.size w w') (hp:PRep G.g p v):vo P E G w [] (.ret (.pv p)) (.returned v) w':=by
 have f:Fr G w G w' X0:=⟨fun _ _ h=>h,fun _ _ h=>h,fun b k hk _=>⟨hk,hb.block b (wo.dom b k hk)⟩,X0_old,hb.os,hb.tape,hb.output,hb.size⟩
 refine ⟨G,f,rfl,wo.fr f (fun b c hc=>?_) (fun b k hk=>Nat.lt_of_lt_of_le (wo.dom b k hk) hb.size),fun l cs hl=>(by simp at hl),hp⟩
 obtain ⟨k1,T,q,k2⟩:=wo.imm b c hc
 exact ⟨k1,T,q,(hb.block b (wo.dom b _ k1)).trans k2⟩
theorem zmw (t:Addr) (w:World):(ReflectliteValue.unpack (.iface 154 (.pointer (some t)))).run Tryz.prog w
  = .ok (.agg #[.pointer (some ⟨6,154,none⟩),.pointer (some ⟨w.heap.size,0,none⟩),.int .u64 150]) (w.alloc (.cells #[.pointer (some t)] 154)):=by kernel_rfl
theorem zmo (a:Addr) (w:World):(ReflectliteValue.methodAny (ReflectliteValue.valueError "reflectlite.Value.Type" 0) (fun t _ _ _=>ReflectliteType.toType t) #[.agg #[.pointer (some ⟨6,154,none⟩),.pointer (some a),.int .u64 150]]).run Tryz.prog w
  = .ok (.iface 265 (.agg #[.pointer (some ⟨6,154,none⟩)])) w:=by kernel_rfl
theorem zl1 (h:Value) (w:World):(Go.method 466 265 (.agg #[h]) "Kind").run Tryz.prog w=.ok (313,h) w:=by kernel_rfl
theorem zlU (w:World):((ReflectliteType.abiMethod fun t=>(fun a:Nat=>Value.int IntKind.u8 (a:Int)) <$> Rtype.kind t) #[.pointer (some ⟨6,154,none⟩)]).run Tryz.prog w=.ok (.int .u8 22) w:=by kernel_rfl
theorem zlT (w:World):((ReflectliteType.abiMethod fun t=>(fun a:Nat=>Value.int IntKind.u8 (a:Int)) <$> Rtype.kind t) #[.pointer (some ⟨6,152,none⟩)]).run Tryz.prog w=.ok (.int .u8 25) w:=by kernel_rfl
theorem rlm (z:Sem Value) (f:TypeId->Addr->Nat->Nat->Sem Value) (v:Value) :
  ReflectliteValue.method z f #[v]=(do match ←ReflectliteValue.parts v with|none=>z|some (t,a,fl)=>f t a fl (fl%32)):=rfl
theorem zcQ (a:Addr) (w:World):(ReflectliteValue.parts (.agg #[.pointer (some ⟨6,154,none⟩),.pointer (some a),.int .u64 150])).run Tryz.prog w=.ok (some (154,a,150)) w:=by kernel_rfl
theorem zlS (a p:Addr) (W:World) (ha:W.cell? a=some (.pointer (some p))) :
  (ReflectliteValue.method (ReflectliteValue.valueError "reflectlite.Value.IsNil" 0) ReflectliteValue.isNil #[.agg #[.pointer (some ⟨6,154,none⟩),.pointer (some a),.int .u64 150]]).run Tryz.prog W=.ok (.bool false) W:=by
 rw[rlm]
 simp only[Sem.run_bind,zcQ,Result.andThen]
 simp[ReflectliteValue.isNil,loadVar,isAgg,underlying,Tryz.underlying154,ha,Result.andThen]
theorem zlZ (h:Value) (w:World):(Go.method 466 265 (.agg #[h]) "Elem").run Tryz.prog w=.ok (324,.agg #[h]) w:=by kernel_rfl
theorem zl0 (h:Value) (w:World):(Go.method 466 265 (.agg #[h]) "Implements").run Tryz.prog w=.ok (325,.agg #[h]) w:=by kernel_rfl
theorem zlY (h:Value) (w:World):(Go.method 466 265 (.agg #[h]) "AssignableTo").run Tryz.prog w=.ok (322,.agg #[h]) w:=by kernel_rfl
theorem zlO (w:World):(ReflectliteType.method ReflectliteType.elem #[.agg #[.pointer (some ⟨6,154,none⟩)]]).run Tryz.prog w=.ok (.iface 265 (.agg #[.pointer (some ⟨6,152,none⟩)])) w:=by kernel_rfl
theorem zlR (w:World):(ReflectliteType.relation "Implements" ReflectliteType.implements_ #[.agg #[.pointer (some ⟨6,152,none⟩)],.iface 265 (.agg #[.pointer (some ⟨6,88,none⟩)])]).run Tryz.prog w=.ok (.bool true) w:=by kernel_rfl
theorem zmp (v:Value) (w:World):(ReflectliteType.typeOf #[.iface 152 v]).run Tryz.prog w=.ok (.iface 265 (.agg #[.pointer (some ⟨6,152,none⟩)])) w:=by kernel_rfl
theorem zlM (w:World):(ReflectliteType.relation "AssignableTo" ReflectliteType.assignableTo #[.agg #[.pointer (some ⟨6,152,none⟩)],.iface 265 (.agg #[.pointer (some ⟨6,152,none⟩)])]).run Tryz.prog w=.ok (.bool true) w:=by kernel_rfl
theorem zmv (n:Int) (w:World):(ReflectliteValue.unpack (.iface 152 (.agg #[.int .i64 n]))).run Tryz.prog w
  = .ok (.agg #[.pointer (some ⟨6,152,none⟩),.pointer (some ⟨w.heap.size,0,none⟩),.int .u64 153]) (w.alloc (.cells #[.int .i64 n] 152)):=by kernel_rfl
theorem zlP (w:World):(Rtype.elem? 154).run Tryz.prog w=.ok (some 152) w:=by kernel_rfl
theorem zl2 (p:Addr) (w:World):(ReflectliteValue.mk 152 p ReflectliteValue.flagAddr).run Tryz.prog w=.ok (.agg #[.pointer (some ⟨6,152,none⟩),.pointer (some p),.int .u64 409]) w:=by kernel_rfl
theorem zlQ (a p:Addr) (W:World) (ha:W.cell? a=some (.pointer (some p))) :
  (ReflectliteValue.method (ReflectliteValue.valueError "reflectlite.Value.Elem" 0) ReflectliteValue.elem #[.agg #[.pointer (some ⟨6,154,none⟩),.pointer (some a),.int .u64 150]]).run Tryz.prog W
   = .ok (.agg #[.pointer (some ⟨6,152,none⟩),.pointer (some p),.int .u64 409]) W:=by
 rw[rlm]
 simp only[Sem.run_bind,zcQ,Result.andThen]
 simp[ReflectliteValue.elem,loadVar,isAgg,underlying,Tryz.underlying154,ha,Result.andThen,zlP,zl2]
theorem rls (v x:Value):ReflectliteValue.set #[v,x]=(do
  let (some (dst,a,fl),some (src,b,_)):=(←ReflectliteValue.parts v,←ReflectliteValue.parts x)
   |unsupported (.noEntry "extern/(internal/reflectlite.Value).Set.zeroValue")
  if fl/ReflectliteValue.flagAddr%2==0 then unsupported (.noEntry "extern/(internal/reflectlite.Value).Set.unaddressable")
  let val ←loadVar src b
  if ←Rtype.directlyAssignable dst src then storeVar dst a val
  else if ←Rtype.implements dst src then
   if (←Rtype.kind src)==20 then
    match val with
    |.nilIface=>unsupported (.noEntry "extern/reflectlite: a nil value of one interface type handed on as a value of another")
    |_=>storeVar dst a val
   else storeVar dst a (.iface src val)
  else panicString ("reflectlite.Set: value of type " ++ (←Rtype.spelt src)++" is not assignable to type " ++ (←Rtype.spelt dst))
  pure (.tuple #[])):=rfl
theorem zmc (a:Addr) (w:World):(ReflectliteValue.parts (.agg #[.pointer (some ⟨6,152,none⟩),.pointer (some a),.int .u64 409])).run Tryz.prog w=.ok (some (152,a,409)) w:=by kernel_rfl
theorem zmb (a:Addr) (w:World):(ReflectliteValue.parts (.agg #[.pointer (some ⟨6,152,none⟩),.pointer (some a),.int .u64 153])).run Tryz.prog w=.ok (some (152,a,153)) w:=by kernel_rfl
theorem zlN (w:World):(Rtype.directlyAssignable 152 152).run Tryz.prog w=.ok true w:=by kernel_rfl
open Go.RowKit Go.Extern.Stop Go.Stop Go.Extern
theorem zmg (ta b:Addr) (n m:Int) (W:World) (hbs:b.spot=none) (hts:ta.spot=none) (hb:W.heap[b.block]? = some (.cells #[.int .i64 n] 152 (0,0))) (hbo:b.off=0) (ht:W.cell? ta=some (.int .i64 m)) (hf:W.frozen? ta=false) :
  (ReflectliteValue.set #[.agg #[.pointer (some ⟨6,152,none⟩),.pointer (some ta),.int .u64 409],.agg #[.pointer (some ⟨6,152,none⟩),.pointer (some b),.int .u64 153]]).run Tryz.prog W
   = .ok (.tuple #[]) (W.setCell ta (.int .i64 n)):=by
 obtain ⟨bb,bo,bs⟩:=b
 simp only at hbs hbo hb
 subst hbs hbo
 have hl:(loadVar 152 ⟨bb,0,none⟩).run Tryz.prog W=.ok (.agg #[.int .i64 n]) W:=by
  have h1:=run_loadCells (P:=Tryz.prog) (w:=W) ⟨bb,0,none⟩ 1 (fun _=>.int .i64 n) (fun j hj=>by
   obtain rfl:j=0:=by omega
   simp[World.cell?,hb,Addr.add])
  have hsz:(sizeOf 152).run Tryz.prog W=.ok 1 W:=by kernel_rfl
  have hag:(isAgg 152).run Tryz.prog W=.ok true W:=by kernel_rfl
  simp only[loadVar,Sem.run_bind,hag,Result.andThen,if_true,hsz]
  rw[h1]
  rfl
 rw[rls]
 simp only[Sem.run_bind,zmc,zmb,Result.andThen]
 have hsz:(sizeOf 152).run Tryz.prog W=.ok 1 W:=by kernel_rfl
 simp[ReflectliteValue.flagAddr,hl,Result.andThen,zlN,storeVar,hsz,Value.cells,storeCells,Addr.add]
 rw[run_store Tryz.prog W ta _ _ (by rfl)]
 simp[ht,hf]
open Go.RowKit Go.Extern.Stop Go.Stop Go.Extern
def XG (n:Int) (t:Addr) (w:World):World:=((((w.alloc (.cells #[.pointer (some t)] 154)).alloc (.cells #[.pointer (some ⟨6,154,none⟩),.pointer (some ⟨w.heap.size,0,none⟩),.int .u64 150] 216)).alloc (.cells #[.pointer (some ⟨6,154,none⟩),.pointer (some ⟨w.heap.size,0,none⟩),.int .u64 150] 216)).alloc (.cells #[.int .i64 n] 152)).setCell t (.int .i64 n)
theorem zgZ (t:Value) (w:World):Calls Tryz.prog 106 #[.nilIface,t] w fun e w' => e = .returned (.bool false)/\w' = w:=by
 go_enter Tryz.func106,Tryz.ntmps106
 go_wp2
 go_ret
 exact ⟨rfl,rfl⟩
set_option maxHeartbeats 4000000 in
theorem zgY (n m:Int) (t:Addr) (w:World) (hts:t.spot=none) (hg:w.cell? ⟨3,0,none⟩=some (.iface 265 (.agg #[.pointer (some ⟨6,88,none⟩)]))) (ht0:w.cell? t=some (.int .i64 m)) (hf0:w.frozen? t=false) :
  Calls Tryz.prog 106 #[.iface 152 (.agg #[.int .i64 n]),.iface 154 (.pointer (some t))] w fun ev w' => ev=.returned (.bool true)/\w' = XG n t w:=by
 have h6:=@run_callFunc_extern Tryz.prog 168 _ (fun args=>ReflectliteValue.unpack (args.getD 0 (.tuple #[]))) Tryz.func168 (by kernel_rfl) (by kernel_rfl) (by kernel_rfl) (by kernel_rfl)
 have h7:=@run_callFunc_extern Tryz.prog 169 _ (ReflectliteValue.methodAny (ReflectliteValue.valueError "reflectlite.Value.Type" 0) (fun t _ _ _=>ReflectliteType.toType t)) Tryz.func169 (by kernel_rfl) (by kernel_rfl) (by kernel_rfl) (by kernel_rfl)
 have h8:=@run_callFunc_extern Tryz.prog 170 _ (ReflectliteValue.method (ReflectliteValue.valueError "reflectlite.Value.IsNil" 0) ReflectliteValue.isNil) Tryz.func170 (by kernel_rfl) (by kernel_rfl) (by kernel_rfl) (by kernel_rfl)
 have h27:=@run_callFunc_extern Tryz.prog 313 _ (ReflectliteType.abiMethod fun t=>do pure (.int .u8 (←Rtype.kind t))) Tryz.func313 (by kernel_rfl) (by kernel_rfl) (by kernel_rfl) (by kernel_rfl)
 have h37:=@run_callFunc_extern Tryz.prog 324 _ (ReflectliteType.method ReflectliteType.elem) Tryz.func324 (by kernel_rfl) (by kernel_rfl) (by kernel_rfl) (by kernel_rfl)
 have h38:=@run_callFunc_extern Tryz.prog 325 _ (ReflectliteType.relation "Implements" ReflectliteType.implements_) Tryz.func325 (by kernel_rfl) (by kernel_rfl) (by kernel_rfl) (by kernel_rfl)
 have h10:=@run_callFunc_extern Tryz.prog 226 _ ReflectliteType.typeOf Tryz.func226 (by kernel_rfl) (by kernel_rfl) (by kernel_rfl) (by kernel_rfl)
 have h35:=@run_callFunc_extern Tryz.prog 322 _ (ReflectliteType.relation "AssignableTo" ReflectliteType.assignableTo) Tryz.func322 (by kernel_rfl) (by kernel_rfl) (by kernel_rfl) (by kernel_rfl)
 have h11:=@run_callFunc_extern Tryz.prog 229 _ (ReflectliteValue.method (ReflectliteValue.valueError "reflectlite.Value.Elem" 0) ReflectliteValue.elem) Tryz.func229 (by kernel_rfl) (by kernel_rfl) (by kernel_rfl) (by kernel_rfl)
 have h12:=@run_callFunc_extern Tryz.prog 230 _ ReflectliteValue.set Tryz.func230 (by kernel_rfl) (by kernel_rfl) (by kernel_rfl) (by kernel_rfl)
 have tO:=zmp
 have mA:=zlY
 have a25:=zlM
 have v25:=zmv
 have f6:=zmw
 have f7:=zmo
 have mK:=zl1
 have mE:=zlZ
 have mI:=zl0
 have k27:=zlU
 have k25:=zlT
 have e27:=zlO
 have i25:=zlR
 have n8:=zlS ⟨w.heap.size,0,none⟩ t ((w.alloc (.cells #[.pointer (some t)] 154)).alloc (.cells #[.pointer (some ⟨6,154,none⟩),.pointer (some ⟨w.heap.size,0,none⟩),.int .u64 150] 216)) (by simp)
 have hlt:3<w.heap.size:=by
  rcases Nat.lt_or_ge 3 w.heap.size with h|h
  ·exact h
  ·simp[World.cell?,Array.getElem?_eq_none h] at hg
 have hg2:((w.alloc (.cells #[.pointer (some t)] 154)).alloc (.cells #[.pointer (some ⟨6,154,none⟩),.pointer (some ⟨w.heap.size,0,none⟩),.int .u64 150] 216)).cell? ⟨3,0,none⟩=some (.iface 265 (.agg #[.pointer (some ⟨6,88,none⟩)])):=by
  rw[World.cell?_alloc_lt _ _ ⟨3,0,none⟩ (by simp;omega),World.cell?_alloc_lt _ _ ⟨3,0,none⟩ hlt];exact hg
 have htl:t.block<w.heap.size:=by
  rcases Nat.lt_or_ge t.block w.heap.size with h|h
  ·exact h
  ·simp[World.cell?,Array.getElem?_eq_none h] at ht0
 have el:=zlQ ⟨w.heap.size,0,none⟩ t (((w.alloc (.cells #[.pointer (some t)] 154)).alloc (.cells #[.pointer (some ⟨6,154,none⟩),.pointer (some ⟨w.heap.size,0,none⟩),.int .u64 150] 216)).alloc (.cells #[.pointer (some ⟨6,154,none⟩),.pointer (some ⟨w.heap.size,0,none⟩),.int .u64 150] 216)) (by rw[World.cell?_alloc_lt _ _ ⟨w.heap.size,0,none⟩ (by simp;omega)];simp)
 have st:=zmg t ⟨w.heap.size+1+1+1,0,none⟩ n m ((((w.alloc (.cells #[.pointer (some t)] 154)).alloc (.cells #[.pointer (some ⟨6,154,none⟩),.pointer (some ⟨w.heap.size,0,none⟩),.int .u64 150] 216)).alloc (.cells #[.pointer (some ⟨6,154,none⟩),.pointer (some ⟨w.heap.size,0,none⟩),.int .u64 150] 216)).alloc (.cells #[.int .i64 n] 152)) rfl hts
  (by
   generalize hW:(((w.alloc _).alloc _).alloc _:World)=W3
   have hs:W3.heap.size=w.heap.size+1+1+1:=by rw[←hW];simp
   rw[←hs]
   show (W3.heap.push _)[W3.heap.size]? = _
   simp) rfl
  (by rw[World.cell?_alloc_lt _ _ t (by simp;omega),World.cell?_alloc_lt _ _ t (by simp;omega),World.cell?_alloc_lt _ _ t (by simp;omega),World.cell?_alloc_lt _ _ t htl];exact ht0)
  (by rw[World.frozen?_alloc_old _ _ t (by simp;omega),World.frozen?_alloc_old _ _ t (by simp;omega),World.frozen?_alloc_old _ _ t (by simp;omega),World.frozen?_alloc_old _ _ t (Nat.ne_of_lt htl)];exact hf0)
 go_enter Tryz.func106,Tryz.ntmps106
 go_wp2
 refine wp_loop_rounds 1 ?_
 rw[rounds_succ]
 go_wp2
 go_ret
 exact ⟨rfl,rfl⟩
open Go.RowKit Go.Extern.Stop Go.Stop Go.Extern Go.Extern.Rtype
set_option maxHeartbeats 4000000 in
theorem zlb (w:World):Calls Tryz.prog 56 #[.nilIface] w fun e w' => e = .returned (.int .i64 0)/\Below w.heap.size w w':=by
 go_enter Tryz.func56,Tryz.ntmps56
 go_wp2_with (go_at_call 106;refine (zgZ _ _).mono ?_;rintro e w' ⟨rfl,rfl⟩)
 go_ret
 exact ⟨rfl,(Below.refl _ w).alloc (Nat.le_refl _) _⟩
theorem zgX (n m:Int) (w:World):(XG n ⟨w.heap.size,0,none⟩ (w.alloc (.cells #[.int .i64 m] 152))).cell? ⟨w.heap.size,0,none⟩=some (.int .i64 n):=by
 unfold XG
 refine World.cell?_setCell_same' _ _ _ ?_
 rw[World.cell?_alloc_lt _ _ ⟨w.heap.size,0,none⟩ (by simp;omega),World.cell?_alloc_lt _ _ ⟨w.heap.size,0,none⟩ (by simp;omega),World.cell?_alloc_lt _ _ ⟨w.heap.size,0,none⟩ (by simp;omega),World.cell?_alloc_lt _ _ ⟨w.heap.size,0,none⟩ (by simp)]
 simp
theorem zgW (n m:Int) (w:World):Below w.heap.size w (XG n ⟨w.heap.size,0,none⟩ (w.alloc (.cells #[.int .i64 m] 152))):=by
 unfold XG
 exact (((((((Below.refl _ w).alloc (Nat.le_refl _) _).alloc (by simp) _).alloc (by simp;omega) _).alloc (by simp;omega) _).alloc (by simp;omega) _).setCell (Nat.le_refl _) _)
set_option maxHeartbeats 4000000 in
theorem zla (n:Int) (w:World) (hg:w.cell? ⟨3,0,none⟩=some (.iface 265 (.agg #[.pointer (some ⟨6,88,none⟩)]))) :
  Calls Tryz.prog 56 #[.iface 152 (.agg #[.int .i64 n])] w fun e w' => e = .returned (.int .i64 n)/\Below w.heap.size w w':=by
 have hlt:3<w.heap.size:=by
  rcases Nat.lt_or_ge 3 w.heap.size with h|h
  ·exact h
  ·simp[World.cell?,Array.getElem?_eq_none h] at hg
 have hgA:(w.alloc (.cells #[.int .i64 0] 152)).cell? ⟨3,0,none⟩=some (.iface 265 (.agg #[.pointer (some ⟨6,88,none⟩)])):=by
  rw[World.cell?_alloc_lt _ _ ⟨3,0,none⟩ hlt];exact hg
 have htA:(w.alloc (.cells #[.int .i64 0] 152)).cell? ⟨w.heap.size,0,none⟩=some (.int .i64 0):=by simp
 have hfA:(w.alloc (.cells #[.int .i64 0] 152)).frozen? ⟨w.heap.size,0,none⟩=false:=by simp
 have hc:=zgX n 0 w
 have hB:=zgW n 0 w
 generalize hW:XG n ⟨w.heap.size,0,none⟩ (w.alloc (.cells #[.int .i64 0] 152))=W at hc hB
 go_enter Tryz.func56,Tryz.ntmps56
 go_wp2_with (go_at_call 106;refine (zgY n 0 _ _ rfl hgA htA hfA).mono ?_;rintro e w' ⟨rfl,h⟩;rw[hW] at h;obtain rfl:=h)
 go_ret
 exact ⟨rfl,hB⟩
def popT:List UInt8:=[0,1,1,2,1,2,2,3,1,2,2,3,2,3,3,4,1,2,2,3,2,3,3,4,2,3,3,4,3,4,4,5,1,2,2,3,2,3,3,4,2,3,3,4,3,4,4,5,2,3,3,4,3,4,4,5,3,4,4,5,4,5,5,6,1,2,2,3,2,3,3,4,2,3,3,4,3,4,4,5,2,3,3,4,3,4,4,5,3,4,4,5,4,5,5,6,2,3,3,4,3,4,4,5,3,4,4,5,4,5,5,6,3,4,4,5,4,5,5,6,4,5,5,6,5,6,6,7,1,2,2,3,2,3,3,4,2,3,3,4,3,4,4,5,2,3,3,4,3,4,4,5,3,4,4,5,4,5,5,6,2,3,3,4,3,4,4,5,3,4,4,5,4,5,5,6,3,4,4,5,4,5,5,6,4,5,5,6,5,6,6,7,2,3,3,4,3,4,4,5,3,4,4,5,4,5,5,6,3,4,4,5,4,5,5,6,4,5,5,6,5,6,6,7,3,4,4,5,4,5,5,6,4,5,5,6,5,6,6,7,4,5,5,6,5,6,6,7,5,6,6,7,6,7,7,8]
theorem zl9:∀ n:Nat,n<256->(popT.toArray[n]?).map UInt8.toNat=some (pop8 n):=by decide +kernel
set_option maxRecDepth 100000 in
set_option maxHeartbeats 4000000 in
theorem zlq (n:Nat) (hn:n<256) (w:World):Calls Tryz.prog 244 #[.int .u8 n] w fun e w' => e = .returned (.int .i64 (pop8 n))/\w' = w:=by
 go_enter Tryz.func244,Tryz.ntmps244
 have e:=zl9 n hn
 have hsz:n<popT.toArray.size:=hn
 rw[Array.getElem?_eq_getElem hsz] at e
 have e2:(popT.toArray[n]'hsz).toNat=pop8 n:=Option.some.inj e
 have hle:pop8 n<=8:=by unfold pop8;omega
 go_wp2
 go_ret
 refine ⟨?_,rfl⟩
 show Ending.returned (Value.int .i64 (Go.RowKit.wrap64 (((popT.toArray[n]'hsz).toNat:Nat):Int)))=_
 rw[e2,show Go.RowKit.wrap64 ((pop8 n:Nat):Int)=pop8 n by simp only[Go.RowKit.wrap64];omega]
theorem zbY (v:Value) (w:World):(Extern.ReflectliteType.typeOf #[.iface 331 v]).run Tryz.prog w=.ok (.iface 265 (.agg #[.pointer (some ⟨6,331,none⟩)])) w:=by kernel_rfl
theorem zbT (w:World):((Extern.ReflectliteType.method fun t=>do noPackHeld "Comparable" t;(fun a=>Value.bool a.comparable) <$> typeInfo t) #[.agg #[.pointer (some ⟨6,331,none⟩)]]).run Tryz.prog w=.ok (.bool true) w:=by kernel_rfl
theorem zbW (v:Value) (w:World):(Go.method 466 265 v "Comparable").run Tryz.prog w=.ok (323,v) w:=by kernel_rfl
theorem zbS:(Tryz.prog.info? 331).map (·.comparable)=some true:=by kernel_rfl
theorem zbX:(Tryz.prog.info? 353).map (·.size)=some 1:=by kernel_rfl
theorem zk6 (v:Value) (xT:TypeId) (w:World):(Instr.typeAssert (.iface 331 v) xT 309 true).run Tryz.prog w=.ok (.tuple #[.nilIface,.bool false]) w:=run_typeAssert_lacksB Tryz.underlying309 (by kernel_rfl) (by kernel_rfl) v xT w
theorem zk7 (v:Value) (xT:TypeId) (w:World):(Instr.typeAssert (.iface 331 v) xT 272 true).run Tryz.prog w=.ok (.tuple #[.nilIface,.bool false]) w:=run_typeAssert_lacksB Tryz.underlying272 (by kernel_rfl) (by kernel_rfl) v xT w
theorem zk8 (v:Value) (xT:TypeId) (w:World):(Instr.typeAssert (.iface 331 v) xT 273 true).run Tryz.prog w=.ok (.tuple #[.nilIface,.bool false]) w:=run_typeAssert_lacksB Tryz.underlying273 (by kernel_rfl) (by kernel_rfl) v xT w
theorem zkv (a:Addr) (w:World) :
  Calls Tryz.prog 162 #[.iface 331 (.pointer (some a)),.iface 331 (.pointer (some a))] w fun e w' => e = .returned (.bool true)/\w' = w:=by
 obtain ⟨i,hi,hcmp⟩:=Option.map_eq_some_iff.1 zbS
 obtain ⟨j,hj,hjs⟩:=Option.map_eq_some_iff.1 zbX
 have h8:=@run_callFunc_extern Tryz.prog 226 _ Extern.ReflectliteType.typeOf Tryz.func226 (by kernel_rfl) (by kernel_rfl) (by kernel_rfl) (by kernel_rfl)
 have h32:=@run_callFunc_extern Tryz.prog 323 _ (Extern.ReflectliteType.method fun t=>do noPackHeld "Comparable" t;pure (.bool (←typeInfo t).comparable)) Tryz.func323 (by kernel_rfl) (by kernel_rfl) (by kernel_rfl) (by kernel_rfl)
 have tT:=zbY
 have cT:=zbT
 have mR:=zbW
 have heq:=run_eql_iface_ptr_same (P:=Tryz.prog) w a Tryz.underlying88 Tryz.underlying331 hi hcmp hj
 go_enter Tryz.func162,Tryz.ntmps162
 go_wp2
 refine wp_loop_rounds 1 ?_
 rw[rounds_succ]
 go_wp2
 go_ret
 exact ⟨rfl,rfl⟩
theorem zks (b:Addr) (w:World) :
  Calls Tryz.prog 162 #[.nilIface,.iface 331 (.pointer (some b))] w fun e w' => e = .returned (.bool false)/\w' = w:=by
 have hn:=run_eql_iface_nil_left (P:=Tryz.prog) w 331 (.pointer (some b)) Tryz.underlying88
 go_enter Tryz.func162,Tryz.ntmps162
 go_wp2
 go_ret
 exact ⟨rfl,rfl⟩
theorem zku (a b:Addr) (ca cb:Array Value) (ta tb:TypeId) (w:World) (hne:a≠b) (ha:w.heap[a.block]? = some (.cells ca ta (0,0))) (hb:w.heap[b.block]? = some (.cells cb tb (0,0))) :
  Calls Tryz.prog 162 #[.iface 331 (.pointer (some a)),.iface 331 (.pointer (some b))] w fun e w' => e = .returned (.bool false)/\w' = w:=by
 obtain ⟨i,hi,hcmp⟩:=Option.map_eq_some_iff.1 zbS
 obtain ⟨j,hj,hjs⟩:=Option.map_eq_some_iff.1 zbX
 have h8:=@run_callFunc_extern Tryz.prog 226 _ Extern.ReflectliteType.typeOf Tryz.func226 (by kernel_rfl) (by kernel_rfl) (by kernel_rfl) (by kernel_rfl)
 have h32:=@run_callFunc_extern Tryz.prog 323 _ (Extern.ReflectliteType.method fun t=>do noPackHeld "Comparable" t;pure (.bool (←typeInfo t).comparable)) Tryz.func323 (by kernel_rfl) (by kernel_rfl) (by kernel_rfl) (by kernel_rfl)
 have tT:=zbY
 have cT:=zbT
 have mR:=zbW
 have nE:=zk6
 have uE:=zk7
 have vE:=zk8
 have heq:=run_eql_iface_ptr_other (P:=Tryz.prog) w Tryz.underlying88 Tryz.underlying331 hi hcmp hj (by rw[hjs];decide) hne ha hb
 go_enter Tryz.func162,Tryz.ntmps162
 go_wp2
 refine wp_loop_rounds 1 ?_
 rw[rounds_succ]
 go_wp2
 go_ret
 exact ⟨rfl,rfl⟩
open Go.RowKit
set_option maxRecDepth 100000
theorem zen {P:Program} {E:Env} {G:Gh} {w:World} {p:PV} {vs:Array Value} (pre:PreC P E G w [.pv p] vs []):∃ x,vs=#[x]/\PRep G.g p x:=by
 have hs:vs.size=1:=pre.sz
 obtain ⟨x,rfl⟩:=Array.size_eq_one_iff.1 hs
 rcases pre.ar 0 (.pv p) x rfl rfl with h|h
 ·exact ⟨x,rfl,h.2 (fun _=>.imm)⟩
 ·cases h.1
theorem zoz {P:Program} {E:Env} {G:Gh} {w:World} {p q:PV} {vs:Array Value} (pre:PreC P E G w [.pv p,.pv q] vs []):∃ x y,vs=#[x,y]/\PRep G.g p x/\PRep G.g q y:=by
 have hs:vs.size=2:=pre.sz
 obtain ⟨x,y,rfl⟩:∃ x y,vs=#[x,y]:=by
  obtain ⟨l⟩:=vs
  match l,hs with
  |[x,y],_=>exact ⟨x,y,rfl⟩
 refine ⟨x,y,rfl,?_,?_⟩
 ·rcases pre.ar 0 (.pv p) x rfl rfl with h|h
  ·exact h.2 (fun _=>.imm)
  ·cases h.1
 ·rcases pre.ar 1 (.pv q) y rfl rfl with h|h
  ·exact h.2 (fun _=>.imm)
  ·cases h.1
theorem zjF {G:Gh} {w:World} (wo:WOk Tryz.prog env G w):w.cell? ⟨3,0,none⟩=some (.iface 265 (.agg #[.pointer (some ⟨6,88,none⟩)])):=by
 obtain ⟨c,h1,h2⟩:=wo.fix 3 _ rfl
 obtain ⟨_,T,f,h3⟩:=wo.imm _ _ h1
 unfold World.cell?
 simp[h3,h2]
theorem zlc {args:List AV} {H:zh} {out:Out} {H':zh} (hc:Xj env (0,152) args H=some (out,H')) {G:Gh} {w:World} {vs:Array Value} (pre:PreC Tryz.prog env G w args vs H) :
  Calls Tryz.prog 56 vs w fun e w' => vo Tryz.prog env G w H' out e w':=by
 unfold Xj at hc
 split at hc
 ·rename_i p _
  cases hn:Kq 152 p with
  |none=>simp[hn] at hc
  |some n=>
   simp only[hn,zpj] at hc
   cases H with
   |cons a b=>simp at hc
   |nil=>
    simp only[List.isEmpty_nil,cond_true,zpo,Prod.mk.injEq] at hc
    obtain ⟨rfl,rfl⟩:=hc
    obtain ⟨x,rfl,hx⟩:=zen pre
    unfold Kq at hn
    split at hn
    ·cases hn
     cases hx
     exact (zlb w).mono fun e w' ⟨he,hb⟩=>by subst he;exact XX pre.wo hb (.v rfl)
    ·rename_i t' m
     split at hn
     ·rename_i ht
      cases hn
      subst ht
      cases hx with
      |ifc hu=>
       cases hu with
       |agg h1 h2 h3=>
        rename_i us
        obtain ⟨y,rfl⟩:=Array.size_eq_one_iff.1 h1
        cases h3 0 _ y rfl rfl
        exact (zla n w (zjF pre.wo)).mono fun e w' ⟨he,hb⟩=>by subst he;exact XX pre.wo hb (.v rfl)
     ·cases hn
    ·cases hn
 ·rename_i h;cases h
 ·rename_i h;cases h
 ·cases hc
theorem zdx {G:Gh} {w:World} (wo:WOk Tryz.prog env G w) {b:PV} {g:Nat} (h:Ww env b=some g) {x:Value} (hx:PRep G.g b x) :
  find env.glob g=some (.sen g)/\∃ c a ca ta,G.g g=some c/\c[0]? = some x/\x=.iface 331 (.pointer (some a))/\w.heap[a.block]? = some (.cells ca ta (0,0)):=by
 unfold Ww at h
 split at h
 ·rename_i g0
  split at h
  ·rename_i g' hf
   split at h
   ·rename_i e
    cases h
    subst e
    refine ⟨hf,?_⟩
    obtain ⟨c,a,ca,ta,k1,k2,k3,k4⟩:=wo.sen _ hf
    cases hx with
    |sen h1 h2=>
     obtain rfl:=Option.some.inj (k1.symm.trans h1)
     have e:=Option.some.inj (k2.symm.trans h2)
     exact ⟨c,a,ca,ta,k1,by rw[k2,e],e.symm,k4⟩
   ·cases h
  ·cases h
 ·cases h
theorem zkt {args:List AV} {H:zh} {out:Out} {H':zh} (hc:Xj env (1,0) args H=some (out,H')) {G:Gh} {w:World} {vs:Array Value} (pre:PreC Tryz.prog env G w args vs H) :
  Calls Tryz.prog 162 vs w fun e w' => vo Tryz.prog env G w H' out e w':=by
 unfold Xj at hc
 split at hc
 ·rename_i h;cases h
 ·rename_i p r _
  cases hn:Kg env p r with
  |none=>simp[hn] at hc
  |some z=>
   simp only[hn,zpj] at hc
   cases H with
   |cons a b=>simp at hc
   |nil=>
    simp only[List.isEmpty_nil,cond_true,zpo,Prod.mk.injEq] at hc
    obtain ⟨rfl,rfl⟩:=hc
    obtain ⟨x,y,rfl,hx,hy⟩:=zoz pre
    unfold Kg at hn
    cases hg:Ww env r with
    |none=>simp[hg] at hn
    |some g=>
     simp only[hg,zpj] at hn
     obtain ⟨f1,c,a,ca,ta,q1,q2,rfl,q4⟩:=zdx pre.wo hg hy
     split at hn
     ·cases hn
      cases hx
      exact (zks a w).mono fun e w' ⟨he,hb⟩=>by subst he;subst hb;exact XX pre.wo (Below.refl _ _) (.v rfl)
     ·cases hh:Ww env p with
      |none=>simp[hh] at hn
      |some h=>
       simp only[hh,Option.map_some,zpo] at hn
       obtain ⟨f2,c',a',ca',ta',r1,r2,rfl,r4⟩:=zdx pre.wo hh hx
       by_cases he:h=g
       ·subst he
        obtain rfl:=Option.some.inj (q1.symm.trans r1)
        have e:=Option.some.inj (q2.symm.trans r2)
        obtain rfl:a=a':=by injection e with _ e;injection e with e;injection e
        obtain rfl:z=true:=by rw[←hn];simp
        exact (zkv a w).mono fun e w' ⟨he,hb⟩=>by subst he;subst hb;exact XX pre.wo (Below.refl _ _) (.v rfl)
       ·have hd:=pre.wo.dst h g c' c f2 f1 he r1 q1
        have hne:a'≠a:=fun e=>hd (by rw[r2,q2,e])
        obtain rfl:z=false:=by rw[←hn];simpa using he
        exact (zku a' a _ _ _ _ w hne r4 q4).mono fun e w' ⟨he,hb⟩=>by subst he;subst hb;exact XX pre.wo (Below.refl _ _) (.v rfl)
 ·rename_i h;cases h
 ·cases hc
theorem zlp {args:List AV} {H:zh} {out:Out} {H':zh} (hc:Xj env (2,0) args H=some (out,H')) {G:Gh} {w:World} {vs:Array Value} (pre:PreC Tryz.prog env G w args vs H) :
  Calls Tryz.prog 244 vs w fun e w' => vo Tryz.prog env G w H' out e w':=by
 unfold Xj at hc
 split at hc
 ·rename_i h;cases h
 ·rename_i h;cases h
 ·rename_i p _
  cases hm:zj .u8 (.pv p) with
  |none=>simp[hm] at hc
  |some m=>
   have:=qQ hm
   cases this
   simp only[hm,zpj] at hc
   unfold Kx at hc
   cases hb:(decide (0<=m)&&decide (m<256)) with
   |false=>simp[hb] at hc
   |true=>
    simp only[Bool.and_eq_true,decide_eq_true_eq] at hb
    simp only[hb,decide_true,Bool.and_self,cond_true,zpj] at hc
    cases H with
    |cons a b=>simp at hc
    |nil=>
     simp only[List.isEmpty_nil,cond_true,zpo,Prod.mk.injEq] at hc
     obtain ⟨rfl,rfl⟩:=hc
     obtain ⟨x,rfl,hx⟩:=zen pre
     cases hx
     have:=zlq m.toNat (by omega) w
     rw[Int.toNat_of_nonneg hb.1] at this
     exact this.mono fun e w' ⟨he,hb⟩=>by subst he;subst hb;exact XX pre.wo (Below.refl _ _) (.v rfl)
 ·cases hc
theorem Wc:Je Tryz.prog env:=by
 intro f q hq
 have he:env.cln=[(275,(5,1,1)),(56,(0,0,152)),(162,(1,0,0)),(244,(2,0,0))]:=rfl
 rw[he] at hq
 unfold find at hq
 split at hq
 ·rename_i hk
  cases hq
  subst hk
  exact ⟨⟨_,Tryz.func275,by kernel_rfl,by kernel_rfl⟩,fun args H out H' hc G w vs pre=>ziN hc pre⟩
 unfold find at hq
 split at hq
 ·rename_i hk
  cases hq
  subst hk
  exact ⟨⟨_,Tryz.func56,by kernel_rfl,by kernel_rfl⟩,fun args H out H' hc G w vs pre=>zlc hc pre⟩
 unfold find at hq
 split at hq
 ·rename_i hk
  cases hq
  subst hk
  exact ⟨⟨_,Tryz.func162,by kernel_rfl,by kernel_rfl⟩,fun args H out H' hc G w vs pre=>zkt hc pre⟩
 unfold find at hq
 split at hq
 ·rename_i hk
  cases hq
  subst hk
  exact ⟨⟨_,Tryz.func244,by kernel_rfl,by kernel_rfl⟩,fun args H out H' hc G w vs pre=>zlp hc pre⟩
 ·cases hq
open Go.RowKit Go.WideMaps Go.WideElems
set_option maxRecDepth 100000
def zdN (i:Nat):Int:=[0,1,8,16,32,64,64,0].getD i 0
theorem gDec:Tryz.prog.globalNamed "capnp/pointer.decoders" = some 4:=by kernel_rfl
theorem tDec:(Tryz.prog.globals[4]?).map (·.type)=some 293:=by kernel_rfl
theorem zpb (W:World):(zeroValue 240).run Tryz.prog W=.ok .nilFunc W:=by kernel_rfl
def zaL:DataW (List UInt8):=.map [(.int .i64 0,.held [99,97,112,110,112,47,112,111,105,110,116,101,114,46,100,101,99,111,100,101,114,115,36,49]),(.int .i64 1,.held [99,97,112,110,112,47,112,111,105,110,116,101,114,46,100,101,99,111,100,101,114,115,36,50]),(.int .i64 2,.held [99,97,112,110,112,47,112,111,105,110,116,101,114,46,100,101,99,111,100,101,114,115,36,51]),(.int .i64 3,.held [99,97,112,110,112,47,112,111,105,110,116,101,114,46,100,101,99,111,100,101,114,115,36,52])]
def gW (w:World):Prop:=∃ bm es clock,w.cell? ⟨4,0,none⟩=some (.map (some bm))/\w.heap[bm]? = some (.map es clock)/\
  ∀ W:World,W.heap[bm]? = some (.map es clock)->
   (Instr.lookup 293 (.map (some bm)) (.int .i64 0) false).run Tryz.prog W=.ok (.func (.func 341) #[] #[]) W/\
   (Instr.lookup 293 (.map (some bm)) (.int .i64 1) false).run Tryz.prog W=.ok (.func (.func 343) #[] #[]) W/\
   (Instr.lookup 293 (.map (some bm)) (.int .i64 2) false).run Tryz.prog W=.ok (.func (.func 344) #[] #[]) W/\
   (Instr.lookup 293 (.map (some bm)) (.int .i64 3) false).run Tryz.prog W=.ok (.func (.func 345) #[] #[]) W
theorem zi4 {W:World} {l:List (String×DataW Unit)} (h:laidMetH Tryz.prog l W) (hm:("capnp/pointer.decoders",Rows.laid_capnp_pointer_decoders)∈l):gW W:=by
 obtain ⟨g,t,cs,fuel,p,hg,ht,hv,hd⟩:=h.funcs hm
 obtain rfl:=Option.some.inj (gDec.symm.trans hg)
 obtain rfl:=Option.some.inj (tDec.symm.trans ht)
 have hd':DataW.trod (funcToken Tryz.prog) Tryz.prog W 0 (fun _=>true) true fuel 293 cs.toList=some (zaL,p):=hd
 rcases open_map Tryz.underlying293 hd' with ⟨_,hx⟩|⟨bm,es,clock,n,rfl,hcs,hb,_,F,hx⟩
 ·simp[zaL] at hx
 simp only[Prod.mk.injEq] at hx
 have hcell:W.cell? ⟨4,0,none⟩=some (.map (some bm)):=by
  have:=World.var?_cell hg hv 0
  rw[Array.eq_one_of_toList hcs] at this
  simpa using this
 refine ⟨bm,es,clock,hcell,hb,fun W' hb' => ?_⟩
 have key:∀ (k:Int) (f:FuncId) (b:UInt8) (r:List UInt8),(Lit.int .i64 k).wf=true->(∀ zd,DataW.atKey (.map ((es.toList.map (rg Tryz.prog 3 (elemAt (funcToken Tryz.prog) Tryz.prog W 0 (fun _=>true) true n 240))).foldr DataW.insert [])) (.int .i64 k) zd=.held (b::r))->
   ((List.range Tryz.prog.funcs.size).filter fun f=>(Tryz.prog.funcs[f]?).any (·.name.toUTF8.data.toList==b::r))=[f]->
   (Instr.lookup 293 (.map (some bm)) (.int .i64 k) false).run Tryz.prog W' = .ok (.func (.func f) #[] #[]) W':=by
  intro k f b r hwf hat0 hone
  rcases Maps.fit_look false (Maps.int_keyed Tryz.underlying3) Tryz.underlying293 (zpb W') hb' F (Maps.keyOf_int_mk Tryz.underlying3 hwf) with ⟨_,_,hat⟩|⟨e0,y,_,_,hrun,hRv,hat,_⟩
  ·have:=hat .nil
   rw[hat0] at this
   cases this
  ·have h1:=hat .nil
   rw[hat0] at h1
   obtain ⟨y1,y2⟩:=y
   simp only at h1
   subst h1
   unfold elemAt at hRv
   split at hRv
   ·rename_i hf
    have hv1:e0.val.cells.toList=[e0.val]:=by
     cases he:e0.val<;>simp_all [Value.cells,Value.formed,Tryz.underlying240]
    rw[hv1] at hRv
    have:=func_of_trod Tryz.underlying240 hone hRv
    rw[this] at hrun
    simpa using hrun
   ·cases hRv
 exact ⟨key 0 341 _ _ rfl (fun zd=>by rw[←hx.1];rfl) (by kernel_rfl),key 1 343 _ _ rfl (fun zd=>by rw[←hx.1];rfl) (by kernel_rfl),key 2 344 _ _ rfl (fun zd=>by rw[←hx.1];rfl) (by kernel_rfl),key 3 345 _ _ rfl (fun zd=>by rw[←hx.1];rfl) (by kernel_rfl)⟩
theorem zbH:Tryz.prog.globalNamed "capnp/listsize.bits" = some 5:=by kernel_rfl
theorem znI:(Tryz.prog.globals[5]?).map (·.type)=some 304:=by kernel_rfl
abbrev senL:List (String×DataW Unit):=[("capnp/unpack.errTruncated",Rows.laid_capnp_unpack_errTruncated),("capnp/unpack.errLimit",Rows.laid_capnp_unpack_errLimit),("capnp/listsize.bits",Rows.laid_capnp_listsize_bits)]
theorem zg5 {W:World} {l:List (String×DataW Unit)} (h:laidMetH Tryz.prog l W) (hf:l.filter (fun x=>x.2.handleName?.isNone)=senL):∀ i:Nat,i<8->W.cell? ⟨5,i,none⟩=some (.int .i64 (zdN i)):=by
 have h1:=(laidMetH_iff.1 h).1
 rw[hf] at h1
 have h2:=h1.filter (fun x=>x.1 == "capnp/listsize.bits")
 have e:senL.filter (fun x=>x.1 == "capnp/listsize.bits")=[("capnp/listsize.bits",Rows.laid_capnp_listsize_bits)]:=by kernel_rfl
 rw[e] at h2
 have ht:Lib.TabIs Tryz.prog W "capnp/listsize.bits" .i64 [0,1,8,16,32,64,64,0]:=Lib.tabIs_of_head (rest:=[]) zbH znI Tryz.underlying304 Tryz.underlying3 (by kernel_rfl) (by kernel_rfl) h2
 exact fun i hi=>ht.cell zbH i hi
theorem gTr:Tryz.prog.globalNamed "capnp/unpack.errTruncated" = some 2:=by kernel_rfl
theorem tTr:(Tryz.prog.globals[2]?).map (·.type)=some 88:=by kernel_rfl
theorem gLi:Tryz.prog.globalNamed "capnp/unpack.errLimit" = some 1:=by kernel_rfl
theorem tLi:(Tryz.prog.globals[1]?).map (·.type)=some 88:=by kernel_rfl
theorem zbc : "*" ++ "errors.errorString" = "*errors.errorString":=by decide
theorem zjG (u:TypeId) (h:Tryz.prog.typeName? 3 u=some "*errors.errorString"):u=331 :=
 typeName_ptr_named (nm:= "errors.errorString") (by rw[zbc];kernel_rfl) (by kernel_rfl) (by decide) u (by rw[zbc];exact h)
theorem zno {W:World} {l:List (String×DataW Unit)} (h:laidMetH Tryz.prog l W) (hf:l.filter (fun x=>x.2.handleName?.isNone)=senL) :
  ∃ (a0 a1:Addr) (c0 c1:Array Value) (t0 t1:TypeId),W.cell? ⟨2,0,none⟩=some (.iface 331 (.pointer (some a0)))/\W.cell? ⟨1,0,none⟩=some (.iface 331 (.pointer (some a1)))/\a0≠a1/\
   W.heap[a0.block]? = some (.cells c0 t0 (0,0))/\W.heap[a1.block]? = some (.cells c1 t1 (0,0)):=by
 have h1:=(laidMetH_iff.1 h).1
 rw[hf] at h1
 obtain ⟨a0,a1,s0,s1,c0,c1,t0,t1,hv0,hv1,_,_,_,_,_,_,hne,hb0,hb1⟩:=laid_sentinels2 (ti:=88) (tp:=331) (te:=353) (ts:=9) h1 gTr tTr gLi tLi Tryz.underlying88 zjG Tryz.underlying331 Tryz.underlying353 rfl rfl Tryz.underlying9 (by kernel_rfl) (by kernel_rfl)
 refine ⟨a0,a1,c0,c1,t0,t1,?_,?_,hne,hb0,hb1⟩
 ·simpa using World.var?_cell gTr hv0 0
 ·simpa using World.var?_cell gLi hv1 0
theorem etG:Tryz.prog.globalNamed "errors.errorType" = some 3:=by kernel_rfl
theorem rtT:(Tryz.prog.cutTypes.find? (·.1 == "internal/reflectlite.rtype")).map (·.2)=some 265:=by kernel_rfl
theorem zjI:((List.range Tryz.prog.types.size).filter fun t=>Tryz.prog.rowNamed t [101,114,114,111,114])=[88]:=by kernel_rfl
theorem zkd {W:World} {l:List (String×DataW Unit)} (h:laidMetH Tryz.prog l W) (hm:("errors.errorType",Rows.laid_errors_errorType)∈l):W.cell? ⟨3,0,none⟩=some (.iface 265 (.agg #[.pointer (some ⟨6,88,none⟩)])):=by
 have h2:=(laidMetH_iff.1 h).2
 obtain ⟨name,u,ty,e1,e2,e3,e4,e5⟩:=h2 _ (List.mem_filter.2 ⟨hm,rfl⟩)
 have en:name=[101,114,114,111,114]:=(Option.some.inj e1).symm
 subst en
 obtain rfl:=Option.some.inj (rtT.symm.trans e2)
 have hm2:ty∈(List.range Tryz.prog.types.size).filter fun t=>Tryz.prog.rowNamed t [101,114,114,111,114]:=List.mem_filter.2 ⟨List.mem_range.2 e3,e4⟩
 rw[zjI] at hm2
 obtain rfl:=List.mem_singleton.1 hm2
 have hh:typeHandle Tryz.prog 88=.pointer (some ⟨6,88,none⟩):=by kernel_rfl
 rw[hh] at e5
 simpa using World.var?_cell etG e5 0
theorem zk2 {w:World} (h:gW w):∃ v c,g0 w 4=some c/\c[0]? = some v/\MRel Tryz.prog env (G0 w) w 4 v:=by
 obtain ⟨bm,es,clock,h1,h2,h3⟩:=h
 obtain ⟨_,c,hc,hv⟩:=ZT h1
 refine ⟨_,c,hc,hv,bm,es,clock,rfl,if_pos (Array.getElem?_eq_some_iff.1 h2).1,h2,fun W hW l n p hl hp=>?_⟩
 obtain rfl:l=(293,[(0,341),(1,343),(2,344),(3,345)]):=(Option.some.inj hl).symm
 obtain ⟨k0,k1,k2,k3⟩:=h3 W hW
 simp only[List.find?_cons,List.find?_nil] at hp
 split at hp
 ·rename_i hn;cases hp;obtain rfl:(0:Int)=n:=by simpa using hn
  exact k0
 ·split at hp
  ·rename_i hn;cases hp;obtain rfl:(1:Int)=n:=by simpa using hn
   exact k1
  ·split at hp
   ·rename_i hn;cases hp;obtain rfl:(2:Int)=n:=by simpa using hn
    exact k2
   ·split at hp
    ·rename_i hn;cases hp;obtain rfl:(3:Int)=n:=by simpa using hn
     exact k3
    ·cases hp
theorem zjE {w:World} (h:∀ i:Nat,i<8->w.cell? ⟨5,i,none⟩=some (.int .i64 (zdN i))):ERel (G0 w) (.agg [.v (.int .i64 0),.v (.int .i64 1),.v (.int .i64 8),.v (.int .i64 16),.v (.int .i64 32),.v (.int .i64 64),.v (.int .i64 64),.v (.int .i64 0)]) 0 (.pointer (some ⟨5,0,none⟩)):=by
 obtain ⟨_,c,hc,h7⟩:=ZT (h 7 (by decide))
 have hsz:=(Array.getElem?_eq_some_iff.1 h7).1
 refine ⟨_,c,0,hc,rfl,?_,fun j q u hq hu=>?_⟩
 ·show 0+8<=c.size
  simp only at hsz
  omega
 ·have hj:j<8:=(List.getElem?_eq_some_iff.1 hq).1
  obtain ⟨_,c',hc',hj'⟩:=ZT (h j hj)
  obtain rfl:c=c':=Option.some.inj (hc.symm.trans hc')
  rw[Nat.zero_add] at hu
  simp only at hj'
  rw[hj'] at hu
  cases hu
  match j,hj with
  |0,_|1,_|2,_|3,_|4,_|5,_|6,_|7,_=>cases hq;exact ⟨rfl,.v rfl⟩
theorem zba {w:World} {g:Nat} {t:TypeId} {a:Addr} (h:w.cell? ⟨g,0,none⟩=some (.iface t (.pointer (some a)))):ERel (G0 w) (.sen g) 0 (.pointer (some ⟨g,0,none⟩)):=by
 obtain ⟨_,c,hc,h0⟩:=ZT h
 refine ⟨_,c,0,hc,rfl,?_,fun j q u hq hu=>?_⟩
 ·have:=(Array.getElem?_eq_some_iff.1 h0).1
  show 0+1<=c.size
  simp only at this
  omega
 ·match j,hq with
  |0,hq=>
   cases hq
   rw[Nat.zero_add] at hu
   simp only at h0
   rw[h0] at hu
   cases hu
   exact ⟨rfl,.sen hc h0⟩
  |j+1,hq=>cases hq
theorem Vv {g:Nat} {p:PV} (h:find env.glob g=some p):(g=5/\p=.agg [.v (.int .i64 0),.v (.int .i64 1),.v (.int .i64 8),.v (.int .i64 16),.v (.int .i64 32),.v (.int .i64 64),.v (.int .i64 64),.v (.int .i64 0)])∨(g=1/\p=.sen 1)∨(g=2/\p=.sen 2):=by
 have he:env.glob=[(5,.agg [.v (.int .i64 0),.v (.int .i64 1),.v (.int .i64 8),.v (.int .i64 16),.v (.int .i64 32),.v (.int .i64 64),.v (.int .i64 64),.v (.int .i64 0)]),(1,.sen 1),(2,.sen 2)]:=rfl
 rw[he] at h
 unfold find at h
 split at h
 ·rename_i hk;cases h;exact .inl ⟨hk.symm,rfl⟩
 unfold find at h
 split at h
 ·rename_i hk;cases h;exact .inr (.inl ⟨hk.symm,rfl⟩)
 unfold find at h
 split at h
 ·rename_i hk;cases h;exact .inr (.inr ⟨hk.symm,rfl⟩)
 ·cases h
theorem zoL {w:World} {l:List (String×DataW Unit)} (h:laidMetH Tryz.prog l w) (hm:("capnp/pointer.decoders",Rows.laid_capnp_pointer_decoders)∈l) (hm2:("errors.errorType",Rows.laid_errors_errorType)∈l) (hf:l.filter (fun x=>x.2.handleName?.isNone)=senL):WOk Tryz.prog env (G0 w) w:=by
 obtain ⟨a0,a1,c0,c1,t0,t1,hv0,hv1,hne,hb0,hb1⟩:=zno h hf
 obtain ⟨_,d0,hd0,he0⟩:=ZT hv0
 obtain ⟨_,d1,hd1,he1⟩:=ZT hv1
 refine zoK (fun g l hl=>?_) (fun g p hp=>?_) (fun g hg=>?_) (fun g1 g2 x1 x2 h1 h2 hn e1 e2=>?_) (fun g v hv=>?_)
 ·have hg:g=4:=by
   have he:env.maps=[(4,(293,[(0,341),(1,343),(2,344),(3,345)]))]:=rfl
   rw[he] at hl
   unfold find at hl
   split at hl
   ·rename_i hk;exact hk.symm
   ·cases hl
  subst hg
  exact zk2 (zi4 h hm)
 ·rcases Vv hp with ⟨rfl,rfl⟩|⟨rfl,rfl⟩|⟨rfl,rfl⟩
  ·exact zjE (zg5 h hf)
  ·exact zba hv1
  ·exact zba hv0
 ·rcases Vv hg with ⟨rfl,e⟩|⟨rfl,e⟩|⟨rfl,e⟩
  ·cases e
  ·exact ⟨d1,a1,c1,t1,hd1,he1,hb1⟩
  ·exact ⟨d0,a0,c0,t0,hd0,he0,hb0⟩
 ·have key:∀ x:Value,(Value.iface 331 (.pointer (some a0)))=x->(Value.iface 331 (.pointer (some a1)))=x->False:=fun x k1 k2=>by
   rw[←k1] at k2
   injection k2 with _ k2;injection k2 with k2;injection k2 with k2
   exact hne k2.symm
  rcases Vv h1 with ⟨rfl,e⟩|⟨rfl,e⟩|⟨rfl,e⟩
  ·cases e
  ·rcases Vv h2 with ⟨rfl,e'⟩|⟨rfl,e'⟩|⟨rfl,e'⟩
   ·cases e'
   ·exact absurd rfl hn
   ·obtain rfl:=Option.some.inj (hd1.symm.trans e1)
    obtain rfl:=Option.some.inj (hd0.symm.trans e2)
    intro k
    simp only at he0 he1
    rw[he1,he0] at k
    exact key _ rfl (Option.some.inj k)
  ·rcases Vv h2 with ⟨rfl,e'⟩|⟨rfl,e'⟩|⟨rfl,e'⟩
   ·cases e'
   ·obtain rfl:=Option.some.inj (hd0.symm.trans e1)
    obtain rfl:=Option.some.inj (hd1.symm.trans e2)
    intro k
    simp only at he0 he1
    rw[he1,he0] at k
    exact key _ (Option.some.inj k) rfl
   ·exact absurd rfl hn
 ·have he:env.fix=[(3,.iface 265 (.agg #[.pointer (some ⟨6,88,none⟩)]))]:=rfl
  rw[he] at hv
  unfold find at hv
  split at hv
  ·rename_i hk
   cases hv
   subst hk
   obtain ⟨_,c,k1,k2⟩:=ZT (zkd h hm2)
   exact ⟨c,k1,k2⟩
  ·cases hv
open Go.RowKit
set_option maxRecDepth 100000
def qG (n:Int):Prop:=(Lit.int .i64 n).wf=true
theorem zg7 {n:Int} (h:(Lit.int .u8 n).wf=true):zq n:=by
 simp[Lit.wf,IntKind.min,IntKind.max,IntKind.signed,IntKind.bits] at h
 unfold zq
 omega
def qd:Enc (Int×Int×Int):=⟨fun t=>[I t.1,I t.2.1,I t.2.2],3,true,fun _=>rfl,fun h=>by cases h⟩
def gV {H:Type} (t:Int×Int×Int) (x:DataW H):Prop:=qG t.1/\qG t.2.1/\qG t.2.2
theorem zmE {H:Type} {enc:TypeId×Value->H} {w:World} (n:Nat):RdsAt enc Tryz.prog w n 24 qd gV:=by
 intro cs x h
 obtain ⟨xs,n,rfl,rfl,hl,hlen,hf⟩:=DataW.trod_struct Tryz.underlying24 h
 have hc:cs.length=3:=hl.trans (by kernel_rfl)
 obtain ⟨c0,c1,c2,rfl⟩:∃ c0 c1 c2,cs=[c0,c1,c2]:=by
  match cs,hc with
  |[c0,c1,c2],_=>exact ⟨c0,c1,c2,rfl⟩
 obtain ⟨x0,x1,x2,rfl⟩:∃ x0 x1 x2,xs=[x0,x1,x2]:=by
  match xs,(show xs.length=3 from hlen.trans (by kernel_rfl)) with
  |[x0,x1,x2],_=>exact ⟨x0,x1,x2,rfl⟩
 have z0:Tryz.prog.cellsOf 3=1:=by kernel_rfl
 have h0:DataW.trod enc Tryz.prog w 0 (fun _=>true) true n 3 (([c0,c1,c2].drop 0).take (Tryz.prog.cellsOf 3))=[x0,x1,x2][0]?:=hf 0 _ rfl
 have h1:DataW.trod enc Tryz.prog w 0 (fun _=>true) true n 3 (([c0,c1,c2].drop 1).take (Tryz.prog.cellsOf 3))=[x0,x1,x2][1]?:=hf 1 _ rfl
 have h2:DataW.trod enc Tryz.prog w 0 (fun _=>true) true n 3 (([c0,c1,c2].drop 2).take (Tryz.prog.cellsOf 3))=[x0,x1,x2][2]?:=hf 2 _ rfl
 rw[z0] at h0 h1 h2
 obtain ⟨m0,e0,f0,w0⟩:=DataW.trod_int Tryz.underlying3 (show DataW.trod enc Tryz.prog w 0 (fun _=>true) true n 3 [c0]=some x0 from h0)
 obtain ⟨m1,e1,f1,w1⟩:=DataW.trod_int Tryz.underlying3 (show DataW.trod enc Tryz.prog w 0 (fun _=>true) true n 3 [c1]=some x1 from h1)
 obtain ⟨m2,e2,f2,w2⟩:=DataW.trod_int Tryz.underlying3 (show DataW.trod enc Tryz.prog w 0 (fun _=>true) true n 3 [c2]=some x2 from h2)
 cases e0;cases e1;cases e2
 refine ⟨(m0,m1,m2),rfl,fun j q u hq hu=>?_,w0,w1,w2⟩
 match j with
 |0=>cases hq;cases hu;exact ⟨rfl,.v rfl⟩
 |1=>cases hq;cases hu;exact ⟨rfl,.v rfl⟩
 |2=>cases hq;cases hu;exact ⟨rfl,.v rfl⟩
 |j+3=>simp[qd] at hq
abbrev zaY:Enc (List Int):=XV (QW .u8)
theorem zlX {H:Type} {l:List Int} {x:DataW H} (h:DS (DI .u8) l x):Bytes l:=⟨h.1,fun n hn=>by obtain ⟨y,hy⟩:=h.mem hn;exact zg7 hy.2⟩
theorem zmD {H:Type} {enc:TypeId×Value->H} {w:World} (n:Nat):RdsAt enc Tryz.prog w n 22 zaY (DS (DI .u8)):=by
 cases n with
 |zero=>exact RdsAt.zero _ _ _
 |succ n=>exact RdsAt.slice Tryz.underlying22 (by kernel_rfl) (by decide) (RdsAt.int Tryz.underlying5)
noncomputable def Vw (l:List (List Int)) (d w:Int):Int:=if yF l d w=0 then wI off (zu (yW l d w)) else 0
theorem zfp {D:Nat} {x:Nd} (h:Ok D x) (hb:zI D x<=134217728):ev 109 [.pv x.x] []=ok (U (wI off (zu (yH D x)))):=by
 have h1:=rq h hb
 have hl:=Y4 h
 have h2:=zfn (l:=yH D x) (by omega)
 dsimp only[Nd.x] at h1 ⊢
 rw[zkf,h1]
 dsimp only[zf]
 rw[yN]
 dsimp only[zpj]
 rw[h2]
 rfl
theorem zfo {l:List (List Int)} (hl:zF l) (hs:Sm l) {d w b:Int} (hd:d<=1099511627775) (hw:w<=134217728):ev 58 [.pv (.sl 1 (zA l)),.pv (.agg [I d,I w,I b])] []=ok (.tup [U (Vw l d w),I (yF l d w)]):=by
 rw[zke,zkg,Jm hl hs hd (by omega)]
 dsimp only[Nd.x,zf,zg,zpj,zO,zpi,zph,zK,↓cl5,yT,xr,zr,yw,zc]
 unfold Vw yW
 by_cases h0:yF l d w=0
 ·obtain ⟨ho,hb,_⟩:=ZZ hl hs hw h0
  have h1:=zfp ho hb
  dsimp only[Nd.x] at h1
  rw[h0,show ((0:Int)==0)=true from rfl,if_pos rfl,if_pos rfl]
  dsimp only[zc]
  rw[h1]
  rfl
 ·rw[beq_eq_false_iff_ne.2 h0,if_neg h0]
  rfl
theorem JP {l:List (List Int)} (hl:zF l) (hs:Sm l) {d w:Int} (hw:w<=134217728):Words (yW l d w):=by
 have h1:=zhp hl hs (d:=d) (w:=w) hw
 refine ⟨by omega,?_⟩
 unfold yW
 split
 ·rename_i h0
  obtain ⟨ho,hb,_⟩:=ZZ hl hs hw h0
  exact jP ho (by omega)
 ·exact fun x hx=>by cases hx
def hA:Int:=wI off (zu [0])
def hB:Int:=wI off (zu [4294967296,5])
theorem j1:zF [[0]]/\Sm [[0]]:=vQ (by decide) (by intro x hx;simp at hx;unfold zG;omega)
theorem j2:zF [[4294967296,5]]/\Sm [[4294967296,5]]:=vQ (by decide) (by intro x hx;simp at hx;unfold zG;omega)
theorem j3:zF [[4294967298],[8589934592,5,0]]/\Sm [[4294967298],[8589934592,5,0]]:=uD (by intro s hs;simp at hs;rcases hs with rfl|rfl<;>decide) (by intro s hs x hx;simp at hs;unfold zG;rcases hs with rfl|rfl<;>(simp at hx;omega)) (by decide)
theorem zkc:ev 42 [.pv (.sl 1 [U8 0,U8 0,U8 0,U8 0,U8 0,U8 0,U8 0,U8 0])] []=ok (U hA):=by
 have h:=ze6 (l:=[0,0,0,0,0,0,0,0]) (by intro b hb;simp at hb;unfold zq;omega) (by decide)
 rw[show wI off [0,0,0,0,0,0,0,0]=hA from by kernel_rfl] at h
 exact h
theorem znn {b:List Int}:∀ (c i:Nat) (rest:List Int) (l:List (List Int)),(∀ x∈rest,zq x)->xg b c i rest=some l->l.length=c/\∀ s∈l,(∀ x∈s,zG x)/\8*s.length<=rest.length:=by
 intro c
 induction c with
 |zero=>
  intro i rest l hr h
  rw[xg] at h
  split at h
  ·cases h
   exact ⟨rfl,fun s hs=>by cases hs⟩
  ·cases h
 |succ c ih=>
  intro i rest l hr h
  rw[xg] at h
  split at h
  ·rename_i h1
   cases hq:xg b c (i+1) (rest.drop (8*(zM b i).toNat)) with
   |none=>rw[hq] at h;cases h
   |some t=>
    rw[hq] at h
    cases h
    obtain ⟨h2,h3⟩:=ih (i+1) _ t (Yr hr _) hq
    refine ⟨by simp[h2],fun s hs=>?_⟩
    rcases List.mem_cons.1 hs with rfl|hs
    ·refine ⟨Yh _ (JK hr _),?_⟩
     rw[yM]
     omega
    ·obtain ⟨h4,h5⟩:=h3 s hs
     rw[List.length_drop] at h5
     exact ⟨h4,by omega⟩
  ·cases h
theorem w7 {b:List Int} (hb:∀ x∈b,zq x) (hl:b.length<=1099511627776) {l:List (List Int)} (h:yI b=some l):zF l/\Sm l:=by
 unfold yI at h
 split at h
 ·cases h
 split at h
 ·cases h
 split at h
 ·cases h
 split at h
 ·cases h
 rename_i h1 h2 h3 h4
 obtain ⟨h5,h6⟩:=znn _ _ _ _ (Yr hb _) h
 have hd:(b.drop (yC (zM b 0+1).toNat)).length<=b.length:=by rw[List.length_drop];omega
 refine ⟨⟨by omega,fun s hs=>?_⟩,fun s=>?_⟩
 ·obtain ⟨h7,h8⟩:=h6 s hs
  exact ⟨by omega,h7⟩
 ·unfold yq
  rw[List.getD_eq_getElem?_getD]
  cases hq:l[s.toNat]? with
  |none=>simp
  |some t=>
   obtain ⟨h7,h8⟩:=h6 t (List.mem_of_getElem? hq)
   rw[Option.getD_some]
   omega
theorem znp (w:List Int):∀ x∈wQ w,zq x:=by
 intro x hx
 unfold wQ e4 at hx
 simp only[List.mem_append,List.mem_cons,List.not_mem_nil,or_false] at hx
 unfold zq
 rcases hx with ((rfl|rfl|rfl|rfl)|(rfl|rfl|rfl|rfl))|h
 any_goals omega
 exact xY _ _ h
theorem zoY {w:List Int} (hw:∀ x∈w,zG x):zQ w.length (zu w)=w:=by
 refine XJ (Yh _ (xY w)) hw ?_
 rw[ZR _ (xY w) (by rw[y3];omega),y3,Nat.sub_self,List.replicate_zero,List.append_nil]
theorem uB (w:List Int):(wQ w).drop 8=zu w:=rfl
theorem znr {w:List Int} (hw:∀ x∈w,zG x) (hn:w.length<536870912):yI (wQ w)=some [w]:=by
 have h0:zM (wQ w) 0=0:=rfl
 have h1:zM (wQ w) 1=w.length:=by
  show (w.length:Int)%256+256*((w.length:Int)/256%256)+65536*((w.length:Int)/65536%256)+16777216*((w.length:Int)/16777216%256)=_
  omega
 unfold yI
 rw[h0,KL,show ((0:Int)+1).toNat=1 from rfl,show yC 1=8 from rfl,if_neg (by omega),if_neg (by omega),if_neg (by omega),if_neg (by omega),uB]
 show xg (wQ w) 1 1 (zu w)=_
 rw[xg,h1,if_pos ⟨by omega,by rw[y3];omega⟩,Int.toNat_natCast,List.take_of_length_le (by rw[y3];exact Nat.le_refl _),List.drop_eq_nil_of_le (by rw[y3];exact Nat.le_refl _),zoY hw]
 rfl
theorem znq {w v:List Int} (hw:∀ x∈w,zG x) (hv:∀ x∈v,zG x) (h:wQ w=wQ v):w=v:=XJ hw hv (by rw[←uB,←uB,h])
noncomputable def mE (b:List Int) (d w:Int):Int:=match yI b with
 |some l=>yF l d w
 |none=>1
noncomputable def xD (b:List Int) (d w:Int):List Int:=match yI b with
 |some l=>if yF l d w=0 then wQ (yW l d w) else []
 |none=>[]
noncomputable def mN (b:List Int) (d w:Int):Nd:=yJ ((yI b).getD []) d w
open Classical in
noncomputable def XZ (a b:List Int) (d w:Int):Bool:=if mE a d w=0/\mE b d w=0 then xh (mN a d w) (mN b d w) else false
noncomputable def Wg (a b:List Int) (d w:Int):Int:=if mE a d w=0 then mE b d w else mE a d w
noncomputable def mH (b:List Int) (d w:Int):Int:=match yI b with
 |some l=>Vw l d w
 |none=>0
def ZX (e:Int):PV:=if e=0 then .v .nilIface else .ifc 152 (.agg [I e])
theorem vD (e:Int):yS (.pv (ZX e))=some (decide (e=0)):=by
 unfold ZX
 split
 ·rename_i h;rw[h];rfl
 ·rename_i h;rw[decide_eq_false h];rfl
theorem WQ (e:Int):ev 104 [.pv (I e)] []=ok (ZX e):=by
 rw[zkY]
 unfold ZX
 by_cases h:e=0
 ·rw[h];rfl
 ·rw[if_neg h,beq_eq_false_iff_ne.2 h];rfl
theorem XC (e:Int):ev 56 [.pv (ZX e)] []=ok (I e):=by
 rw[zkZ]
 unfold ZX
 by_cases h:e=0
 ·rw[h];rfl
 ·rw[if_neg h];rfl
theorem XB {d w b:Int} (hd:d<=1000) (hw:w<=268435455):ev 55 [.pv (.agg [I d,I w,I b])] []=ok (.agg [I d,I w,I b]):=by
 rw[zkX,if_neg (by omega),if_neg (by omega)]
theorem Yl {b:List Int} (hb:∀ x∈b,zq x) (hl:b.length<=1099511627776):ev 57 [.pv (.sl 1 (bs b))] []=ok (.tup [.sl 1 (zA ((yI b).getD [])),ZX (if yI b=none then 1 else 0)]):=by
 rw[zk0,zeZ hb hl]
 cases h:yI b with
 |none=>
  dsimp only[ZF,zf,zg,zpj,zO,zpi,zph]
  rw[WQ]
  rfl
 |some l=>
  dsimp only[ZF,zf,zg,zpj,zO,zpi,zph]
  rw[WQ]
  rfl
theorem Qs {l:List (List Int)} (hl:zF l) (hs:Sm l) {d w:Int} (hw:w<=134217728) (h0:yF l d w=0):(yW l d w).length<536870912:=by
 obtain ⟨ho,hb,hx⟩:=ZZ hl hs hw h0
 obtain ⟨_,_,_,_,_,_,h7,_⟩:=jQ hl hs hw h0
 omega
theorem zfc {b:List Int} (hb:∀ x∈b,zq x) (hl:b.length<=1099511627776) {d w o:Int} (hd:d<=1099511627775) (hw:w<=134217728):ev 54 [.pv (.sl 1 (bs b)),.pv (.agg [I d,I w,I o])] []=some (.ret (.tup 0 (.slu 5 1 (bs (xD b d w))) [.v .nilIface,ZX (mE b d w)]),[]):=by
 rw[zkW,Yl hb hl]
 unfold xD mE
 cases h:yI b with
 |none=>
  rw[if_pos rfl]
  dsimp only[zf,zg,zpj,zO,zpi,zph]
  rw[vD]
  rfl
 |some l=>
  obtain ⟨h1,h2⟩:=w7 hb hl h
  rw[if_neg (by simp),Option.getD_some]
  dsimp only[zf,zg,zpj,zO,zpi,zph]
  rw[vD,zfb h1 h2 hd hw]
  dsimp only[zf,zg,zpj,zO,zpi,zph,zK]
  by_cases h0:yF l d w=0
  ·rw[h0,show ((0:Int) != 0)=false from rfl,uA,if_pos h0,if_pos rfl]
   dsimp only[zt]
   have hS:=ze2 (Qs h1 h2 hw h0)
   have hS':ev 105 [.pv (.sl 1 [.sl 1 (ws (yW l d w))])] []=_:=hS
   rw[hS']
   dsimp only[zf]
   rw[YH]
   dsimp only[zpj,zpi,zph]
   rw[yN]
   dsimp only[zpj]
   rw[WQ]
   rfl
  ·rw[xC h0,if_neg h0]
   dsimp only[zc]
   rw[WQ]
   rfl
theorem Jh {b:List Int} (hb:∀ x∈b,zq x) (hl:b.length<=1099511627776) {d w o:Int} (hd:d<=1000) (hw:w<=134217728):ev 16 [.pv (.sl 1 (bs b)),.pv (.agg [I d,I w,I o])] []=some (.ret (.tup 0 (.slu 5 1 (bs (xD b d w))) [.v .nilIface,I (mE b d w)]),[]):=by
 rw[zkR,XB hd (by omega)]
 dsimp only[zf,zg,zpj]
 rw[zfc hb hl (by omega) hw]
 dsimp only[zf]
 rw[YH]
 dsimp only[zpj,zpi,zph]
 rw[yN]
 dsimp only[zpj]
 rw[XC]
 rfl
theorem rQ {b:List Int} (hb:∀ x∈b,zq x) (hl:b.length<=1099511627776) {d w o:Int} (hd:d<=1099511627775) (hw:w<=134217728):ev 59 [.pv (.sl 1 (bs b)),.pv (.agg [I d,I w,I o])] []=ok (.tup [.sl 1 (zA ((yI b).getD [])),ZX (mE b d w)]):=by
 rw[zk1,Yl hb hl]
 unfold mE
 cases h:yI b with
 |none=>
  rw[if_pos rfl]
  dsimp only[zf,zg,zpj,zO,zpi,zph]
  rw[vD]
  rfl
 |some l=>
  obtain ⟨h1,h2⟩:=w7 hb hl h
  rw[if_neg (by simp),Option.getD_some]
  dsimp only[zf,zg,zpj,zO,zpi,zph]
  rw[vD,Jl h1 h2 hd (by omega)]
  dsimp only[zf,zg,zpj,zO,zpi,zph]
  rw[WQ]
  rfl
theorem Jv {a b:List Int} (ha:∀ x∈a,zq x) (hla:a.length<=1099511627776) (hb:∀ x∈b,zq x) (hl:b.length<=1099511627776) {d w o:Int} (hd:d<=1000) (hw:w<=134217728):ev 18 [.pv (.sl 1 (bs a)),.pv (.sl 1 (bs b)),.pv (.agg [I d,I w,I o])] []=ok (.tup [Bo (XZ a b d w),I (Wg a b d w)]):=by
 rw[zkS,XB hd (by omega)]
 dsimp only[zf,zg,zpj,yT,zph,zpi,yw,zr,zc]
 rw[rQ ha hla (by omega) hw]
 dsimp only[zf,zg,zpj,zO,zpi,zph]
 rw[vD]
 unfold XZ Wg
 by_cases h0:mE a d w=0
 ·rw[decide_eq_true h0,if_pos h0]
  dsimp only[zpj,vN,zt]
  rw[rQ hb hl (by omega) hw]
  dsimp only[zf,zg,zpj,zO,zpi,zph]
  rw[vD]
  by_cases h1:mE b d w=0
  ·obtain ⟨la,e1⟩:∃ l,yI a=some l:=by
    unfold mE at h0
    split at h0
    ·rename_i l h;exact ⟨l,h⟩
    ·cases h0
   obtain ⟨lb,e2⟩:∃ l,yI b=some l:=by
    unfold mE at h1
    split at h1
    ·rename_i l h;exact ⟨l,h⟩
    ·cases h1
   obtain ⟨a1,a2⟩:=w7 ha hla e1
   obtain ⟨b1,b2⟩:=w7 hb hl e2
   have e3:mE a d w=yF la d w:=by unfold mE;rw[e1]
   have e4:mE b d w=yF lb d w:=by unfold mE;rw[e2]
   rw[decide_eq_true h1,if_pos ⟨h0,h1⟩,e1,e2,Option.getD_some,Option.getD_some]
   dsimp only[zpj,vN,zt]
   rw[XA a1 a2 b1 b2 (by omega) (by omega)]
   have hE:cE la lb d w=yF lb d w:=by unfold cE;rw[if_pos (by omega)]
   have hB:cB la lb d w=xh (mN a d w) (mN b d w):=by
    unfold cB mN
    rw[if_pos (by rw[hE];omega),e1,e2]
    rfl
   rw[hE,hB,e4]
   rfl
  ·rw[decide_eq_false h1,if_neg (fun h=>h1 h.2)]
   dsimp only[zpj,Ko,zc]
   rw[XC]
   rfl
 ·rw[decide_eq_false h0,if_neg h0,if_neg (fun h=>h0 h.1)]
  dsimp only[zpj,Ko,zc]
  rw[XC]
  rfl
theorem zfr {b:List Int} (hb:∀ x∈b,zq x) (hl:b.length<=1099511627776) {d w o:Int} (hd:d<=1000) (hw:w<=134217728):ev 17 [.pv (.sl 1 (bs b)),.pv (.agg [I d,I w,I o])] []=ok (.tup [U (mH b d w),I (mE b d w)]):=by
 rw[zkT,Yl hb hl]
 unfold mH mE
 cases h:yI b with
 |none=>
  rw[if_pos rfl]
  dsimp only[zf,zg,zpj,zO,zpi,zph]
  rw[vD]
  dsimp only[zpj]
  rw[show (!decide ((1:Int)=0))=true from rfl]
  dsimp only[zc]
  rw[XC]
  rfl
 |some l=>
  obtain ⟨h1,h2⟩:=w7 hb hl h
  rw[if_neg (by simp),Option.getD_some]
  dsimp only[zf,zg,zpj,zO,zpi,zph]
  rw[vD,XB hd (by omega)]
  dsimp only[zf,zg,zpj]
  rw[zfo h1 h2 (by omega) hw]
  rfl
theorem ze5 {b:List Int} (hb:∀ x∈b,zq x) (d w o:Int):∃ bl:Bool,ev 15 [.pv (.sl 1 (bs b)),.pv (.agg [I d,I w,I o])] []=ok (Bo bl)/\(bl=true->b.length<=4000/\d<=40/\w<=2000):=by
 rw[zis,z5]
 by_cases h1:(b.length:Int)>4000
 ·rw[decide_eq_true h1]
  exact ⟨false,rfl,fun h=>by cases h⟩
 rw[decide_eq_false h1]
 by_cases h2:d>40
 ·rw[decide_eq_true h2]
  exact ⟨false,rfl,fun h=>by cases h⟩
 rw[decide_eq_false h2]
 by_cases h3:w>2000
 ·rw[decide_eq_true h3]
  exact ⟨false,rfl,fun h=>by cases h⟩
 rw[decide_eq_false h3,rM hb (by omega)]
 cases h:yI b with
 |none=>exact ⟨true,rfl,fun _=>by omega⟩
 |some l=>
  obtain ⟨h4,h5⟩:=w7 hb (by omega) h
  obtain ⟨bl,e1,_⟩:=ze4 h4 d w o
  refine ⟨bl,?_,fun _=>by omega⟩
  dsimp only[ZF,zf,zg,zpj,zO,zpi,zph,zK,zt]
  rw[show ((0:Int) != 0)=false from rfl]
  dsimp only[zt]
  rw[e1]
  rfl
def Zh (c:Int):Int:=if c=0 then 0 else 1
def wT:List Int->Int
 |[]=>0
 |c::l=>Zh c+2*wT l
def nz (l:List Int):List Int:=l.filter fun c=>!decide (c=0)
theorem zlf (c:Int):0<=Zh c/\Zh c<=1:=by unfold Zh;split<;>omega
theorem zdO:∀ (l:List Int) (c:Int),wT (l++[c])=wT l+Zh c*2^l.length
 |[],c=>by simp[wT]
 |d::l,c=>by
  show Zh d+2*wT (l++[c])=Zh d+2*wT l+Zh c*2^(l.length+1)
  rw[zdO l c,Int.pow_succ,Int.mul_add,←Int.mul_assoc,Int.mul_comm 2 (Zh c),Int.mul_comm (2^l.length) 2,←Int.mul_assoc]
  omega
theorem uJ:∀ l:List Int,0<=wT l/\wT l<2^l.length
 |[]=>by decide
 |c::l=>by
  have:=uJ l
  have h:=zlf c
  rw[zpl,Int.pow_succ]
  unfold wT
  omega
theorem zdX {l:List Int} {i:Nat} (h:i<l.length):l.take (i+1)=l.take i++[l.getD i 0]:=by
 rw[List.take_succ_eq_append_getElem h,List.getD_eq_getElem?_getD,List.getElem?_eq_getElem h]
 rfl
theorem zlu:∀ (i:Fin 8) (t:Fin 128),t.val<2^i.val->IntKind.wrap .u8 (BitVec.ofInt 8 (t.val:Int) ||| BitVec.ofInt 8 (IntKind.wrap .u8 (1*2^(min (IntKind.wrap .u64 (i.val:Int)).toNat 8)))).toNat=(t.val:Int)+2^i.val:=by decide +kernel
theorem zln:∀ i:Fin 8,yP .shl (IntKind.wrap .u64 (i.val:Int))=true:=by decide +kernel
theorem zlo:∀ i:Fin 8,yP .shr (IntKind.wrap .u64 (i.val:Int))=true:=by decide +kernel
theorem zlm {l:List Int} (h8:l.length=8):∀ (c i:Nat),i+c=8->VU (wT (l.take i)) (.sl 1 (bs l)) 8 i=ok (U8 (wT l)):=by
 intro c
 induction c with
 |zero=>
  intro i hi
  rw[zdT,decide_eq_false (by omega),List.take_of_length_le (by omega)]
  rfl
 |succ c ih=>
  intro i hi
  have hg:(bs l)[(i:Int).toNat]? = some (U8 (l.getD i 0)):=Yq rfl (by omega)
  have hn:=ih (i+1) (by omega)
  have hr:=uJ (l.take i)
  have hp:(2:Int)^i<=128:=by
   have:(2:Nat)^i<=2^7:=Nat.pow_le_pow_right (by decide) (by omega)
   exact_mod_cast this
  rw[zdX (by omega),zdO,List.length_take,Nat.min_eq_left (by omega)] at hn
  rw[List.length_take,Nat.min_eq_left (by omega)] at hr
  rw[zdT,decide_eq_true (show (i:Int)<8 by omega)]
  dsimp only[yG,zpj,zc]
  rw[z5,h8,decide_eq_true (show 0<=(i:Int) by omega),decide_eq_true (show (i:Int)<((8:Nat):Int) by omega),show decide ((1:Nat)=1)=true from rfl]
  dsimp only[zr,zc]
  rw[hg]
  dsimp only[zpj,yv,zph,ZE]
  rw[ze (x:=(i:Int)+1) (by omega)]
  by_cases h0:l.getD i 0=0
  ·rw[h0,show ((0:Int) != 0)=false from rfl]
   rw[h0,show Zh 0=0 from rfl,Int.zero_mul,Int.add_zero] at hn
   exact hn
  ·have hq:=zlu ⟨i,by omega⟩ ⟨(wT (l.take i)).toNat,by omega⟩ (by
    have:((wT (l.take i)).toNat:Int)<((2^i:Nat):Int):=by push_cast;omega
    exact_mod_cast this)
   have hs:=zln ⟨i,by omega⟩
   dsimp only at hq hs
   rw[show ((wT (l.take i)).toNat:Int)=wT (l.take i) by omega] at hq
   rw[xC h0,hs,hq]
   rw[show Zh (l.getD i 0)=1 from if_neg h0,Int.one_mul] at hn
   exact hn
theorem zle {l:List Int} (h8:l.length=8):∀ (c i:Nat),i+c=8->VS (bs (nz (l.take i))) (.sl 1 (bs l)) 8 i=ok (.sl 1 (bs (nz l))):=by
 intro c
 induction c with
 |zero=>
  intro i hi
  rw[zdQ,decide_eq_false (by omega),List.take_of_length_le (by omega)]
  rfl
 |succ c ih=>
  intro i hi
  have hg:(bs l)[(i:Int).toNat]? = some (U8 (l.getD i 0)):=Yq rfl (by omega)
  have hn:=ih (i+1) (by omega)
  have hf:(nz (l.take i)).length<=8:=by
   have:=List.length_filter_le (fun c:Int=>!decide (c=0)) (l.take i)
   rw[List.length_take] at this
   unfold nz
   omega
  rw[zdX (by omega)] at hn
  rw[zdQ,decide_eq_true (show (i:Int)<8 by omega)]
  dsimp only[yG,zpj,zc]
  rw[z5,h8,decide_eq_true (show 0<=(i:Int) by omega),decide_eq_true (show (i:Int)<((8:Nat):Int) by omega),show decide ((1:Nat)=1)=true from rfl]
  dsimp only[zr,zc]
  rw[hg]
  dsimp only[zpj,yv,zph,ZE]
  rw[ze (x:=(i:Int)+1) (by omega)]
  by_cases h0:l.getD i 0=0
  ·rw[h0,show ((0:Int) != 0)=false from rfl]
   rw[h0,show nz (l.take i++[0])=nz (l.take i) by simp[nz]] at hn
   exact hn
  ·rw[xC h0,z5,yQ (by omega) (by omega)]
   rw[show nz (l.take i++[l.getD i 0])=nz (l.take i)++[l.getD i 0] by simp only[nz,List.filter_append,List.filter_cons,decide_eq_false h0];rfl,vu] at hn
   exact hn
theorem Jg (w:Int):ev 117 [.pv (.sl 1 [U w])] []=ok (.sl 1 (bs (w8 w))):=by
 have:=Yk [w] (show 1<=17592186044416 by decide)
 rw[show zu [w]=w8 w from List.append_nil _] at this
 exact this
def vX (w:Int):Int:=wT (w8 w)
def Wj (w:Int):List Int:=nz (w8 w)
theorem zdP (w:Int):0<=vX w/\vX w<256:=by
 have:=uJ (w8 w)
 rw[wb,show (2:Int)^8=256 from rfl] at this
 exact this
theorem zld (w:Int):(Wj w).length<=8:=by
 have:=List.length_filter_le (fun c:Int=>!decide (c=0)) (w8 w)
 rw[wb] at this
 exact this
theorem rk (w:Int):ev 115 [.pv (U w)] []=ok (U8 (vX w)):=by
 rw[znN,Jg]
 dsimp only[zf,zg,zpj,yG]
 rw[z5]
 exact zlm (wb w) 8 0 rfl
theorem zfv (w:Int):ev 185 [.pv (U w)] []=ok (.sl 1 (bs (Wj w))):=by
 rw[znL,Jg]
 dsimp only[zf,zg,zpj,yG]
 rw[z5]
 exact zle (wb w) 8 0 rfl
theorem Jo {t:Int} (h:0<=t/\t<256):ev 188 [.pv (U8 t)] []=ok (I (pop8 t.toNat)):=by
 rw[znO,zkQ]
 unfold Kx
 rw[decide_eq_true h.1,decide_eq_true h.2]
 rfl
noncomputable def wz (w:Int):Bool:=decide ((pop8 (vX w).toNat:Int)≥7)
theorem zeR (w:Int):ev 114 [.pv (U w)] []=ok (Bo (wz w)):=by
 rw[znM,rk]
 dsimp only[zf,zg,zpj]
 rw[Jo (zdP w)]
 rfl
def runN (p:Int->Bool):Nat->List Int->Nat
 |0,_=>0
 |_+1,[]=>0
 |k+1,x::l=>if p x=true then runN p k l+1 else 0
theorem uo (p:Int->Bool):∀ (k:Nat) (l:List Int),runN p k l<=k/\runN p k l<=l.length
 |0,_=>⟨Nat.zero_le _,Nat.zero_le _⟩
 |_+1,[]=>⟨Nat.zero_le _,Nat.zero_le _⟩
 |k+1,x::l=>by
  have:=uo p k l
  rw[runN,zpl]
  split<;>omega
def vA (x:Int):Bool:=x==0
theorem zne {l:List Int} (hl:l.length<=17592186044416):∀ (c n:Nat),n+c=255->Kt (ws l) n=ok (I (n+runN vA c (l.drop n):Nat)):=by
 intro c
 induction c with
 |zero=>
  intro n hn
  rw[zcD,yt,decide_eq_false (show ¬(n:Int)<255 by omega)]
  by_cases h:(n:Int)<l.length
  ·rw[decide_eq_true h];rfl
  ·rw[decide_eq_false h];rfl
 |succ c ih=>
  intro n hn
  rw[zcD,yt,decide_eq_true (show (n:Int)<255 by omega)]
  by_cases h:n<l.length
  ·have hn1:=ih (n+1) (by omega)
   have hg:(ws l)[(n:Int).toNat]? = some (U l[n]):=ZO h
   rw[decide_eq_true (show (n:Int)<l.length by omega),decide_eq_true (show 0<=(n:Int) by omega),hg]
   dsimp only[zr,zpj,yv,zph,zc]
   rw[zlF,List.drop_eq_getElem_cons h,runN]
   dsimp only[zf,zg,zpj,xc]
   by_cases h0:l[n]=0
   ·rw[h0,show ((0:Int)==0)=true from rfl,show vA 0=true from rfl,if_pos rfl,ze (x:=(n:Int)+1) (by omega)]
    rw[show n+(runN vA c (l.drop (n+1))+1)=n+1+runN vA c (l.drop (n+1)) by omega]
    exact hn1
   ·have h1:(l[n]==0)=false:=beq_eq_false_iff_ne.2 h0
    rw[h1,show vA l[n]=false from h1,if_neg (by decide)]
    rfl
  ·rw[decide_eq_false (show ¬(n:Int)<l.length by omega),List.drop_eq_nil_of_le (by omega)]
   rfl
theorem zm3 {l:List Int} (hl:l.length<=17592186044416):∀ (c n:Nat),n+c=255->Ku (ws l) n=ok (I (n+runN wz c (l.drop n):Nat)):=by
 intro c
 induction c with
 |zero=>
  intro n hn
  rw[zcE,yt,decide_eq_false (show ¬(n:Int)<255 by omega)]
  by_cases h:(n:Int)<l.length
  ·rw[decide_eq_true h];rfl
  ·rw[decide_eq_false h];rfl
 |succ c ih=>
  intro n hn
  rw[zcE,yt,decide_eq_true (show (n:Int)<255 by omega)]
  by_cases h:n<l.length
  ·have hn1:=ih (n+1) (by omega)
   have hg:(ws l)[(n:Int).toNat]? = some (U l[n]):=ZO h
   rw[decide_eq_true (show (n:Int)<l.length by omega),decide_eq_true (show 0<=(n:Int) by omega),hg]
   dsimp only[zr,zpj,yv,zph,zc]
   rw[zeR,List.drop_eq_getElem_cons h,runN]
   dsimp only[zf,zg,zpj,xc]
   cases h0:wz l[n] with
   |true=>
    rw[if_pos rfl,ze (x:=(n:Int)+1) (by omega)]
    rw[show n+(runN wz c (l.drop (n+1))+1)=n+1+runN wz c (l.drop (n+1)) by omega]
    exact hn1
   |false=>
    rw[if_neg (by decide)]
    rfl
  ·rw[decide_eq_false (show ¬(n:Int)<l.length by omega),List.drop_eq_nil_of_le (by omega)]
   rfl
theorem zfQ {l:List Int} (hl:l.length<=17592186044416):ev 186 [.pv (.sl 1 (ws l)),.pv (.v (.func (.func 187) #[] #[]))] []=ok (I (runN vA 255 l:Nat)):=by
 rw[zlI]
 have:=zne hl 255 0 rfl
 rw[Nat.zero_add] at this
 exact this
theorem zfR {l:List Int} (hl:l.length<=17592186044416):ev 186 [.pv (.sl 1 (ws l)),.pv (.v (.func (.func 114) #[] #[]))] []=ok (I (runN wz 255 l:Nat)):=by
 rw[zlJ]
 have:=zm3 hl 255 0 rfl
 rw[Nat.zero_add] at this
 exact this
noncomputable def pk:Nat->List Int->List Int
 |0,_=>[]
 |_+1,[]=>[]
 |f+1,w::l=>
  if vX w=0 then vX w::Wj w++((runN vA 255 l:Int)::pk f (l.drop (runN vA 255 l)))
  else if vX w=255 then vX w::Wj w++((runN wz 255 l:Int)::(zu (l.take (runN wz 255 l))++pk f (l.drop (runN wz 255 l))))
  else vX w::Wj w++pk f l
theorem zo4 (w:Int) (t:List Int):((ws (w::t)).take ((ws (w::t)).length:Int).toNat).drop 1=ws t:=by
 rw[Int.toNat_natCast,List.take_of_length_le (Nat.le_refl _)]
 rfl
theorem zeE (t:List Int) (n:Nat):((ws t).take ((ws t).length:Int).toNat).drop (n:Int).toNat=ws (t.drop n):=by
 rw[Int.toNat_natCast,Int.toNat_natCast,List.take_of_length_le (Nat.le_refl _)]
 simp[ws]
theorem zo1 (t:List Int) (n:Nat):((ws t).take (n:Int).toNat).drop 0=ws (t.take n):=by
 rw[Int.toNat_natCast,List.drop_zero]
 simp[ws]
theorem JI (a:List Int) (x:Int):bs a++[U8 x]=bs (a++[x]):=by simp[bs]
theorem zlH:∀ (f:Nat) (l out:List Int),l.length<=f->out.length+16*l.length<=17592186044416->Wm (ws l) (bs out)=ok (.sl 1 (bs (out++pk f l))):=by
 intro f
 induction f with
 |zero=>
  intro l out hl ho
  have:l=[]:=List.length_eq_zero_iff.1 (by omega)
  rw[this,qT,pk,List.append_nil]
  rfl
 |succ f ih=>
  intro l out hl ho
  cases l with
  |nil=>
   rw[qT,pk,List.append_nil]
   rfl
  |cons w t=>
   rw[zpl] at hl ho
   have hz:=zld w
   have ht:=zdP w
   rw[qT,decide_eq_true (show (((ws (w::t)).length:Nat):Int)>0 by rw[yt,zpl];omega),show (ws (w::t))[0]? = some (U w) from rfl,zo4]
   dsimp only[zpj,yv,zph,zc]
   rw[rk]
   dsimp only[zf,zg,zpj,yv,ZE]
   rw[zfv,z5,yQ (by omega) (by omega)]
   dsimp only[zf,zg,zpj,yG,zc]
   rw[JI,z5,z5,yQ (by rw[zpk];show (_+1+_)*1<=_;omega) (by rw[zpk];show _+1+_<=_;omega),decide_eq_true (show 1<=(((ws (w::t)).length:Nat):Int) by rw[yt,zpl];omega),decide_eq_true (Int.le_refl _),←vu]
   dsimp only[zr,zc]
   have hlen:(out++[vX w]++Wj w).length<=out.length+9:=by simp;omega
   by_cases h0:vX w=0
   ·have hrn:=uo vA 255 t
    rw[beq_iff_eq.2 h0,zfQ (by omega)]
    dsimp only[zf,zg,zpj,xt,zc]
    rw[z5,yQ (by omega) (by omega),yt,decide_eq_true (show 0<=((runN vA 255 t:Nat):Int) by omega),decide_eq_true (show ((runN vA 255 t:Nat):Int)<=(t.length:Int) by omega),decide_eq_true (Int.le_refl _),←yt t,zeE,Xu,show ((runN vA 255 t:Nat):Int)%256=((runN vA 255 t:Nat):Int) by omega,JI]
    dsimp only[zr,zc]
    rw[ih _ _ (by rw[List.length_drop];omega) (by rw[zpk,List.length_drop];show _+1+_<=_;omega),pk,if_pos h0]
    simp only[List.append_assoc,List.cons_append,zpm]
    rfl
   ·rw[beq_eq_false_iff_ne.2 h0]
    dsimp only[zt]
    by_cases h1:vX w=255
    ·have hrn:=uo wz 255 t
     rw[beq_iff_eq.2 h1,zfR (by omega)]
     dsimp only[zf,zg,zpj,xt,zc]
     have hB:=Yk (t.take (runN wz 255 t)) (by rw[List.length_take];omega)
     have hbl:(zu (t.take (runN wz 255 t))).length=8*runN wz 255 t:=by rw[y3,List.length_take];omega
     rw[z5,yQ (by omega) (by omega),yt,decide_eq_true (show 0<=((runN wz 255 t:Nat):Int) by omega),decide_eq_true (show ((runN wz 255 t:Nat):Int)<=(t.length:Int) by omega),zo1,hB]
     dsimp only[zr,zf,zg,zpj,yG,zc]
     rw[Xu,show ((runN wz 255 t:Nat):Int)%256=((runN wz 255 t:Nat):Int) by omega,JI,z5,z5,hbl,yQ (by rw[zpk];show (_+1+_)*1<=_;omega) (by rw[zpk];show _+1+_<=_;omega),decide_eq_true (Int.le_refl _),←vu,←yt t,zeE]
     dsimp only[zc]
     rw[ih _ _ (by rw[List.length_drop];omega) (by rw[zpk,zpk,List.length_drop,hbl];show _+1+_+_<=_;omega),pk,if_neg h0,if_pos h1]
     simp only[List.append_assoc,List.cons_append,zpm]
     rfl
    ·rw[beq_eq_false_iff_ne.2 h1]
     dsimp only[zt]
     rw[ih _ _ (by omega) (by omega),pk,if_neg h0,if_neg h1]
     simp only[List.append_assoc,List.cons_append,zpm]
     rfl
noncomputable def pack (l:List Int):List Int:=pk l.length l
theorem zfA {l:List Int} (hl:l.length<=1099511627776):ev 113 [.pv (.sl 1 (ws l))] []=ok (.sl 1 (bs (pack l))):=by
 rw[zlG]
 exact zlH l.length l [] (Nat.le_refl _) (by show 0+_<=_;omega)
theorem zfz {b:List Int} (hb:∀ x∈b,zq x) (hl:b.length<=1099511627776) {n:Nat} (hn:8*n=b.length):ev 61 [.pv (.sl 1 (bs b))] []=ok (.tup [.sl 1 (bs (pack (zQ n b))),I 0]):=by
 rw[zlE,Js hb hl hn]
 dsimp only[zf,zg,zpj,zO,zpi,zph,xc,vN,zt]
 rw[zfA (by rw[yM];omega)]
 rfl
def wN:Nat->Int->Nat
 |0,_=>0
 |n+1,t=>(if t%2=1 then 1 else 0)+wN n (t/2)
theorem pop8_eq:∀ t:Fin 256,pop8 t.val=wN 8 (t.val:Int):=by decide +kernel
theorem zcP {t:Int} (h:0<=t/\t<256):pop8 t.toNat=wN 8 t:=by
 have:=pop8_eq ⟨t.toNat,by omega⟩
 dsimp only at this
 rw[this,Int.toNat_of_nonneg h.1]
theorem znw:∀ (i:Fin 8) (t:Fin 256),((IntKind.wrap .u8 (BitVec.ofInt 8 (Int.fdiv (t.val:Int) (2^(min (IntKind.wrap .u64 (i.val:Int)).toNat 8))) &&& BitVec.ofInt 8 1).toNat)==1)=decide ((t.val:Int)/2^i.val%2=1):=by decide +kernel
def YA:Nat->Int->List Int->List Int
 |0,_,_=>[]
 |n+1,t,b=>if t%2=1 then b.headD 0::YA n (t/2) b.tail else 0::YA n (t/2) b
def YX:List Int->Int
 |[]=>0
 |c::l=>c+256*YX l
def qn (t:Int) (b:List Int):Int:=YX (YA 8 t b)
theorem zjL {b:List Int} (hb:∀ x∈b,zq x) (hl:b.length<=17592186044416) {t:Int} (ht:0<=t/\t<256) (p2:PV):∀ (c i k:Nat) (w:Int),i+c=8->k+wN c (t/2^i)<=b.length->0<=w/\w<2^(8*i)->
  VT t (bs b) p2 (U w) k i=ok (.tup [U (w+2^(8*i)*YX (YA c (t/2^i) (b.drop k))),p2,Bo true]):=by
 intro c
 induction c with
 |zero=>
  intro i k w hi hk hw
  rw[zdR,decide_eq_false (by omega),YA]
  show ok _=_
  rw[YX,Int.mul_zero,Int.add_zero]
 |succ c ih=>
  intro i k w hi hk hw
  have hs:=zlo ⟨i,by omega⟩
  have hbit:=znw ⟨i,by omega⟩ ⟨t.toNat,by omega⟩
  dsimp only at hs hbit
  rw[Int.toNat_of_nonneg ht.1] at hbit
  have hdiv:t/2^i/2=t/2^(i+1):=by rw[Int.pow_succ,Int.ediv_ediv_of_nonneg (Int.pow_nonneg (by decide))]
  have hpow:(2:Int)^(8*(i+1))=2^(8*i)*256:=by rw[show 8*(i+1)=8*i+8 by omega,Int.pow_add];rfl
  have hpos:(0:Int)<2^(8*i):=Int.pow_pos (by decide)
  rw[wN,hdiv] at hk
  rw[zdR,decide_eq_true (show (i:Int)<8 by omega),hs,hbit,ze (x:=(i:Int)+1) (by omega),YA,hdiv]
  by_cases h1:t/2^i%2=1
  ·rw[if_pos h1] at hk
   have hg:(bs b)[(k:Int).toNat]? = some (U8 (b.getD k 0)):=Yq rfl (by omega)
   have hv:=yU hb k
   rw[decide_eq_true h1,if_pos h1,z5,decide_eq_true (show 0<=(k:Int) by omega),decide_eq_true (show (k:Int)<b.length by omega),hg]
   dsimp only[zr,zpj,yv,zph,xt,zc]
   rw[xR (x:=b.getD k 0) (by omega),ze (x:=8*(i:Int)) (by omega),ze (x:=(k:Int)+1) (by omega),show 8*(i:Int)=((8*i:Nat):Int) by push_cast;rfl]
   have hI:=ZQ (w:=w) (v:=b.getD k 0) (i:=8*i) (m:=8) hw (by omega) (by decide) (by omega)
   rw[show (2:Int)^8=256 from rfl,show b.getD k 0%256=b.getD k 0 by omega] at hI
   have hI':ev 291 [.pv (U w),.pv (I ((8*i:Nat):Int)),.pv (I 8),.pv (U (b.getD k 0))] []=_:=hI
   rw[hI']
   dsimp only[zf,zg,zpj]
   have hm:b.getD k 0*2^(8*i)<=255*2^(8*i):=Int.mul_le_mul_of_nonneg_right (by omega) (by omega)
   have hm0:0<=b.getD k 0*2^(8*i):=Int.mul_nonneg (by omega) (by omega)
   have:=ih (i+1) (k+1) (w+b.getD k 0*2^(8*i)) (by omega) (by omega) (by rw[hpow];omega)
   refine this.trans ?_
   have e1:(b.drop k).tail=b.drop (k+1):=by rw[List.tail_drop]
   have e2:(b.drop k).headD 0=b.getD k 0:=by rw[List.headD_eq_head?_getD,List.head?_drop,List.getD_eq_getElem?_getD]
   rw[e1,e2,YX,hpow]
   generalize YX (YA c (t/2^(i+1)) (b.drop (k+1)))=v
   rw[Int.mul_add,Int.mul_comm (2^(8*i)) (b.getD k 0),Int.mul_assoc,Int.add_assoc]
  ·rw[if_neg h1] at hk
   rw[decide_eq_false h1,if_neg h1]
   dsimp only[zt,zc]
   have:=ih (i+1) k w (by omega) (by omega) (by rw[hpow];omega)
   refine this.trans ?_
   rw[YX,hpow]
   generalize YX (YA c (t/2^(i+1)) (b.drop k))=v
   rw[Int.zero_add,Int.mul_assoc]
theorem zeT {b:List Int} {t:Int} (ht:0<=t/\t<256) (h:b.length<wN 8 t):ev 266 [.pv (U8 t),.pv (.sl 1 (bs b))] []=ok (.tup [U 0,I 0,Bo false]):=by
 rw[zdS,Jo ht,zcP ht]
 dsimp only[zf,zg,zpj,zK]
 rw[z5,decide_eq_true (by omega)]
 rfl
theorem zeU {b:List Int} (hb:∀ x∈b,zq x) (hl:b.length<=17592186044416) {t:Int} (ht:0<=t/\t<256) (h:wN 8 t<=b.length):ev 266 [.pv (U8 t),.pv (.sl 1 (bs b))] []=ok (.tup [U (qn t b),I (wN 8 t),Bo true]):=by
 rw[zdS,Jo ht,zcP ht]
 dsimp only[zf,zg,zpj,zK]
 rw[z5,decide_eq_false (by omega)]
 have:=zjL hb hl ht (I (wN 8 t)) 8 0 0 0 rfl (by rw[Int.pow_zero,Int.ediv_one];omega) (by decide)
 rw[Int.pow_zero,Int.ediv_one,Int.one_mul,Int.zero_add] at this
 exact this
def dh (inp out:List Int) (lim:Int):zh:=[[.pv (.sl 1 (bs inp)),.slu 5 1 (bs out),.pv (I lim)]]
def vj:Nat->PV
 |0=>.v .nilIface
 |1=>.sen 1
 |_+2=>.sen 2
theorem Z2 (e:Nat):yS (.pv (vj e))=some (decide (e=0)):=by
 rcases e with _|_|e<;>rfl
theorem Zv (a b c:AV):decide ([a,b,c].length=3)=true:=rfl
theorem zha (x:List Int) (n:Nat):((bs x).take ((bs x).length:Int).toNat).drop (n:Int).toNat=bs (x.drop n):=by
 rw[Int.toNat_natCast,Int.toNat_natCast,List.take_of_length_le (Nat.le_refl _)]
 simp[bs]
theorem zfm {inp out:List Int} {lim:Int} (w:Int) (ho:out.length<=17592186044416):ev 267 [.ptr 0 0,.pv (U w)] (dh inp out lim)=if (out.length:Int)+8>lim then some (.ret (.pv (vj 1)),dh inp out lim) else some (.ret (.pv (vj 0)),dh inp (out++w8 w) lim):=by
 unfold dh
 rw[zol,z5,ze (x:=(out.length:Int)+8) (by omega)]
 by_cases h:(out.length:Int)+8>lim
 ·rw[decide_eq_true h,if_pos h]
  rfl
 ·rw[decide_eq_false h,if_neg h,Jg]
  dsimp only[zf,zg,zpj,yG,zt]
  rw[z5,wb,yQ (by omega) (by omega),←vu]
  rfl
structure Dr where
 e:Nat
 i:List Int
 o:List Int
def xN (t:Int) (inp out:List Int) (lim:Int):Dr :=
 if inp.length<wN 8 t then ⟨2,inp,out⟩
 else if (out.length:Int)+8>lim then ⟨1,inp.drop (wN 8 t),out⟩ else ⟨0,inp.drop (wN 8 t),out++w8 (qn t inp)⟩
theorem Jw {inp out:List Int} {lim:Int} (hb:∀ x∈inp,zq x) (hl:inp.length<=17592186044416) (ho:out.length<=17592186044416) {t:Int} (ht:0<=t/\t<256):ev 225 [.ptr 0 0,.pv (U8 t)] (dh inp out lim)=some (.ret (.pv (vj (xN t inp out lim).e)),dh (xN t inp out lim).i (xN t inp out lim).o lim):=by
 unfold xN
 have hu:ev 225 [.ptr 0 0,.pv (U8 t)] (dh inp out lim)=_:=zom (bs inp) (bs out) lim t
 rw[hu]
 by_cases h1:inp.length<wN 8 t
 ·rw[zeT ht h1,if_pos h1]
  rfl
 ·rw[zeU hb hl ht (by omega),if_neg h1]
  dsimp only[zf,zg,zpj,zO,zpi,zph,xc,vN,zt,xt]
  rw[zha,z5,decide_eq_true (show 0<=((wN 8 t:Nat):Int) by omega),decide_eq_true (show ((wN 8 t:Nat):Int)<=(inp.length:Int) by omega),decide_eq_true (Int.le_refl _)]
  have hE:=zfm (inp:=inp.drop (wN 8 t)) (lim:=lim) (qn t inp) ho
  unfold dh at hE
  dsimp only[zr,zc]
  rw[hE]
  by_cases h2:(out.length:Int)+8>lim
  ·rw[if_pos h2,if_pos h2]
   dsimp only[zf,zph,yO,zg,zpj,zc,zpi]
   rw[yN]
   rfl
  ·rw[if_neg h2,if_neg h2]
   dsimp only[zf,zph,yO,zg,zpj,zc,zpi]
   rw[yN]
   rfl
structure Kp (r:Dr) (inp out:List Int) (n:Nat):Prop where
 bi:∀ x∈r.i,zq x
 li:r.i.length<=inp.length
 bo:∀ x∈r.o,zq x
 lo:r.o.length<=out.length+n
theorem zoA (w:Int):∀ x∈w8 w,zq x:=by
 have:=xY [w]
 rw[show zu [w]=w8 w from List.append_nil _] at this
 exact this
theorem VA {inp out:List Int} (t lim:Int) (hb:∀ x∈inp,zq x) (ho:∀ x∈out,zq x):Kp (xN t inp out lim) inp out 8:=by
 unfold xN
 split
 ·exact ⟨hb,Nat.le_refl _,ho,Nat.le_add_right _ _⟩
 split
 ·exact ⟨Yr hb _,(by rw[List.length_drop];omega),ho,Nat.le_add_right _ _⟩
 ·refine ⟨Yr hb _,by rw[List.length_drop];omega,fun x hx=>?_,by rw[zpk,wb];exact Nat.le_refl _⟩
  rcases List.mem_append.1 hx with h|h
  ·exact ho x h
  ·exact zoA _ x h
def YK (t lim:Int):Nat->List Int->List Int->Dr
 |0,inp,out=>⟨0,inp,out⟩
 |n+1,inp,out=>if (xN t inp out lim).e=0 then YK t lim n (xN t inp out lim).i (xN t inp out lim).o else xN t inp out lim
theorem zdo (t lim:Int):∀ (n:Nat) {inp out:List Int},(∀ x∈inp,zq x)->(∀ x∈out,zq x)->Kp (YK t lim n inp out) inp out (8*n)
 |0,inp,out,hb,ho=>⟨hb,Nat.le_refl _,ho,Nat.le_add_right _ _⟩
 |n+1,inp,out,hb,ho=>by
  have h1:=VA t lim hb ho
  rw[YK]
  split
  ·have h2:=zdo t lim n h1.bi h1.bo
   have a1:=h1.li
   have a2:=h2.li
   have a3:=h1.lo
   have a4:=h2.lo
   exact ⟨h2.bi,by omega,h2.bo,by omega⟩
  ·have a3:=h1.lo
   exact ⟨h1.bi,h1.li,h1.bo,by omega⟩
theorem rR {t lim:Int} (ht:0<=t/\t<256) {N:Nat} (hN:N<=256):∀ (c k:Nat) (inp out:List Int),k+c=N->(∀ x∈inp,zq x)->(∀ x∈out,zq x)->inp.length<=17592186044416->out.length+8*c<=17592186044416->
  ZM t (vj 0) (I N) k (.sl 1 (bs inp)) (bs out) (I lim)=some (.ret (.pv (vj (YK t lim c inp out).e)),dh (YK t lim c inp out).i (YK t lim c inp out).o lim):=by
 intro c
 induction c with
 |zero=>
  intro k inp out hk hb ho hl hlo
  rw[uT]
  dsimp only[zK,zpj]
  rw[decide_eq_false (by omega)]
  rfl
 |succ c ih=>
  intro k inp out hk hb ho hl hlo
  have hn:=Jw (out:=out) (lim:=lim) hb hl (by omega) ht
  have hkp:=VA t lim hb ho
  have a1:=hkp.li
  have a2:=hkp.lo
  unfold dh at hn
  rw[uT]
  dsimp only[zK,zpj]
  rw[decide_eq_true (by omega),hn]
  dsimp only[zf,zph,yO,zg,zpj,zc,zpi]
  rw[yN]
  dsimp only[Zv,zc,zpj]
  rw[Z2,ze (x:=(k:Int)+1) (by omega),YK]
  dsimp only[zpj]
  by_cases h0:(xN t inp out lim).e=0
  ·rw[decide_eq_true h0,if_pos h0,h0]
   exact ih (k+1) _ _ (by omega) hkp.bi hkp.bo (by omega) (by omega)
  ·rw[decide_eq_false h0,if_neg h0]
   rfl
theorem rS {t lim:Int} {e:Nat} (inp out:List Int):ZM t (vj e) (I 0) 0 (.sl 1 (bs inp)) (bs out) (I lim)=some (.ret (.pv (vj e)),dh inp out lim):=by
 rw[uT]
 rfl
def XR (t lim:Int) (inp out:List Int):Dr:=match inp with
 |[]=>⟨2,[],out⟩
 |n::rest=>YK t lim (if t=0 then n.toNat+1 else n.toNat) rest out
def Zz (t lim:Int) (inp out:List Int):Dr :=
 if t=255 then (if (xN t inp out lim).e=0 then XR t lim (xN t inp out lim).i (xN t inp out lim).o else xN t inp out lim) else XR t lim inp out
theorem zaC (t lim:Int) {inp out:List Int} (hb:∀ x∈inp,zq x) (ho:∀ x∈out,zq x):Kp (XR t lim inp out) inp out 2048:=by
 unfold XR
 split
 ·exact ⟨hb,Nat.le_refl _,ho,Nat.le_add_right _ _⟩
 ·rename_i n rest
  have hn:=hb n (List.mem_cons_self ..)
  unfold zq at hn
  have h:=zdo t lim (if t=0 then n.toNat+1 else n.toNat) (inp:=rest) (fun x hx=>hb x (List.mem_cons_of_mem _ hx)) ho
  have a1:=h.li
  have a2:=h.lo
  have a3:(if t=0 then n.toNat+1 else n.toNat)<=256:=by split<;>omega
  exact ⟨h.bi,by rw[zpl];omega,h.bo,by omega⟩
theorem zkb (t lim:Int) {inp out:List Int} (hb:∀ x∈inp,zq x) (ho:∀ x∈out,zq x):Kp (Zz t lim inp out) inp out 2056:=by
 unfold Zz
 have h1:=VA t lim hb ho
 have h3:=zaC t lim hb ho
 have a1:=h1.li
 have a2:=h1.lo
 have a3:=h3.lo
 split
 ·split
  ·have h2:=zaC t lim h1.bi h1.bo
   have a4:=h2.li
   have a5:=h2.lo
   exact ⟨h2.bi,by omega,h2.bo,by omega⟩
  ·exact ⟨h1.bi,h1.li,h1.bo,by omega⟩
 ·exact ⟨h3.bi,h3.li,h3.bo,by omega⟩
theorem rz {out:List Int} {lim:Int}:ev 265 [.ptr 0 0] (dh [] out lim)=some (.ret (.pv (.tup [I 0,vj 2])),dh [] out lim):=by
 have:=zei (bs []) (bs out) lim
 exact this.trans rfl
theorem ru {n:Int} {rest out:List Int} {lim:Int} (hn:zq n):ev 265 [.ptr 0 0] (dh (n::rest) out lim)=some (.ret (.pv (.tup [I n,vj 0])),dh rest out lim):=by
 have:=zei (bs (n::rest)) (bs out) lim
 refine this.trans ?_
 unfold zq at hn
 have hl:(((bs (n::rest)).length:Nat):Int)=rest.length+1:=by rw[z5];rfl
 have hc:((bs (n::rest)).take (((bs (n::rest)).length:Nat):Int).toNat).drop 1=bs rest:=by
  rw[Int.toNat_natCast,List.take_of_length_le (Nat.le_refl _)]
  rfl
 rw[hc,hl,beq_eq_false_iff_ne.2 (by omega),decide_eq_true (show 0<(rest.length:Int)+1 by omega),show (bs (n::rest))[0]? = some (U8 n) from rfl,decide_eq_true (show 1<=(rest.length:Int)+1 by omega),decide_eq_true (Int.le_refl _)]
 dsimp only[zr,zc,zpj,yv,zph,xt,zt]
 rw[ze (x:=n) (by omega)]
 rfl
theorem rC {t lim:Int} (ht:t=0∨t=255) {inp out:List Int} (hb:∀ x∈inp,zq x) (ho:∀ x∈out,zq x) (hl:inp.length<=17592186044416) (hlo:out.length+2056<=17592186044416):ev 224 [.ptr 0 0,.pv (U8 t)] (dh inp out lim)=some (.ret (.pv (vj (Zz t lim inp out).e)),dh (Zz t lim inp out).i (Zz t lim inp out).o lim):=by
 have hu:ev 224 [.ptr 0 0,.pv (U8 t)] (dh inp out lim)=_:=zon (bs inp) (bs out) lim t
 rw[hu]
 unfold Zz
 rcases ht with rfl|rfl
 ·rw[show ((0:Int)==255)=false from rfl,if_neg (by decide)]
  dsimp only[zt]
  cases inp with
  |nil=>
   have h:=rz (out:=out) (lim:=lim)
   unfold dh at h
   rw[h]
   dsimp only[zf,zph,yO,zg,zpj,zO,zpi,zK,zc]
   rw[yN]
   dsimp only[Zv,zc,zpj]
   rw[Z2]
   exact rS [] out
  |cons n rest=>
   have hn:=hb n (List.mem_cons_self ..)
   have h:=ru (rest:=rest) (out:=out) (lim:=lim) hn
   unfold dh at h
   unfold zq at hn
   rw[zpl] at hl
   rw[h]
   dsimp only[zf,zph,yO,zg,zpj,zO,zpi,zK,zc]
   rw[yN]
   dsimp only[Zv,zc,zpj]
   rw[Z2,show ((0:Int)==0)=true from rfl,ze (x:=n+1) (by omega)]
   dsimp only[zc,zpj,XR]
   rw[if_pos rfl]
   have:=rR (t:=0) (lim:=lim) (by decide) (N:=n.toNat+1) (by omega) (n.toNat+1) 0 rest out (by omega) (fun x hx=>hb x (List.mem_cons_of_mem _ hx)) ho (by omega) (by omega)
   rw[show ((n.toNat+1:Nat):Int)=n+1 by omega] at this
   exact this
 ·rw[show ((255:Int)==255)=true from rfl,if_pos rfl]
  dsimp only[zc]
  have hn:=Jw (out:=out) (lim:=lim) hb hl (by omega) (t:=255) (by decide)
  have hkp:=VA 255 lim hb ho
  unfold dh at hn
  rw[hn]
  dsimp only[zf,zph,yO,zg,zpj,zc,zpi]
  rw[yN]
  dsimp only[Zv,zc,zpj]
  rw[Z2]
  dsimp only[zpj]
  by_cases h0:(xN 255 inp out lim).e=0
  ·rw[decide_eq_true h0,if_pos h0]
   dsimp only[vN,zt]
   have a1:=hkp.li
   have a2:=hkp.lo
   have a3:=hkp.bi
   have a4:=hkp.bo
   generalize (xN 255 inp out lim).i=ri at a1 a3 ⊢
   generalize (xN 255 inp out lim).o=ro at a2 a4 ⊢
   cases ri with
   |nil=>
    have h:=rz (out:=ro) (lim:=lim)
    unfold dh at h
    rw[h]
    dsimp only[zf,zph,yO,zg,zpj,zO,zpi,zK,zc]
    rw[yN]
    dsimp only[Zv,zc,zpj]
    rw[Z2]
    exact rS [] ro
   |cons n rest=>
    have hn:=a3 n (List.mem_cons_self ..)
    have h:=ru (rest:=rest) (out:=ro) (lim:=lim) hn
    unfold dh at h
    unfold zq at hn
    rw[zpl] at a1
    rw[h]
    dsimp only[zf,zph,yO,zg,zpj,zO,zpi,zK,zc]
    rw[yN]
    dsimp only[Zv,zc,zpj]
    rw[Z2,show ((255:Int)==0)=false from rfl]
    dsimp only[zt,zpj,XR]
    rw[if_neg (by decide)]
    have:=rR (t:=255) (lim:=lim) (by decide) (N:=n.toNat) (by omega) n.toNat 0 rest ro (by omega) (fun x hx=>a3 x (List.mem_cons_of_mem _ hx)) a4 (by omega) (by omega)
    rw[show ((n.toNat:Nat):Int)=n by omega] at this
    exact this
  ·rw[decide_eq_false h0,if_neg h0]
   rfl
def wS (t lim:Int) (inp out:List Int):Dr:=if t=0∨t=255 then Zz t lim inp out else xN t inp out lim
theorem zdG (t lim:Int) {inp out:List Int} (hb:∀ x∈inp,zq x) (ho:∀ x∈out,zq x):Kp (wS t lim inp out) inp out 2056:=by
 unfold wS
 split
 ·exact zkb t lim hb ho
 ·have h:=VA t lim hb ho
  have a2:=h.lo
  exact ⟨h.bi,h.li,h.bo,by omega⟩
attribute [irreducible] wS xN Zz
def Yv (lim:Int):Nat->List Int->List Int->Dr
 |0,inp,out=>⟨0,inp,out⟩
 |_+1,[],out=>⟨0,[],out⟩
 |f+1,t::rest,out=>if (wS t lim rest out).e=0 then Yv lim f (wS t lim rest out).i (wS t lim rest out).o else wS t lim rest out
theorem zaM (lim:Int):∀ (f:Nat) {inp out:List Int},(∀ x∈inp,zq x)->(∀ x∈out,zq x)->Kp (Yv lim f inp out) inp out (2056*inp.length)
 |0,inp,out,hb,ho=>⟨hb,Nat.le_refl _,ho,Nat.le_add_right _ _⟩
 |f+1,[],out,hb,ho=>⟨hb,Nat.le_refl _,ho,Nat.le_add_right _ _⟩
 |f+1,t::rest,out,hb,ho=>by
  have h:=zdG t lim (inp:=rest) (fun x hx=>hb x (List.mem_cons_of_mem _ hx)) ho
  have a1:=h.li
  have a2:=h.lo
  rw[Yv,zpl]
  split
  ·have h2:=zaM lim f h.bi h.bo
   have a3:=h2.li
   have a4:=h2.lo
   exact ⟨h2.bi,by rw[zpl];omega,h2.bo,by omega⟩
  ·exact ⟨h.bi,by rw[zpl];omega,h.bo,Nat.le_trans a2 (Nat.add_le_add_left (show 2056<=2056*(rest.length+1) by omega) _)⟩
theorem zdc {a b:Nat} (h:a+4096*(b+1)<=17592186044416):a+2056<=17592186044416:=Nat.le_trans (Nat.add_le_add_left (Nat.le_trans (show 2056<=4096*1 by decide) (Nat.mul_le_mul_left 4096 (Nat.le_add_left 1 b))) a) h
theorem zg8 (x:Int) (l:List Int):((bs (x::l)).take (((bs (x::l)).length:Nat):Int).toNat).drop 1=bs l:=by
 rw[Int.toNat_natCast,List.take_of_length_le (Nat.le_refl _)]
 rfl
theorem zfk {lim:Int}:∀ (f:Nat) (inp out:List Int),inp.length<=f->(∀ x∈inp,zq x)->(∀ x∈out,zq x)->out.length+4096*inp.length<=17592186044416->
  WF (vj 0) (.sl 1 (bs inp)) (bs out) (I lim)=some (.ret (.pv (vj (Yv lim f inp out).e)),dh (Yv lim f inp out).i (Yv lim f inp out).o lim):=by
 intro f
 induction f with
 |zero=>
  intro inp out hf hb ho hl
  have:inp=[]:=List.length_eq_zero_iff.1 (by omega)
  rw[this,uS]
  rfl
 |succ f ih=>
  intro inp out hf hb ho hl
  cases inp with
  |nil=>
   rw[uS]
   rfl
  |cons t rest=>
   rw[zpl] at hf hl
   have ht:=hb t (List.mem_cons_self ..)
   unfold zq at ht
   have hbr:∀ x∈rest,zq x:=fun x hx=>hb x (List.mem_cons_of_mem _ hx)
   have hlen:(((bs (t::rest)).length:Nat):Int)=rest.length+1:=by rw[z5];rfl
   have hkp:=zdG t lim hbr ho
   have a1:=hkp.li
   have a2:=hkp.lo
   have a3:=hkp.bi
   have a4:=hkp.bo
   rw[uS,Yv]
   dsimp only[yG,zpj]
   rw[zg8,hlen,decide_eq_true (show (rest.length:Int)+1>0 by omega),show (bs (t::rest))[0]? = some (U8 t) from rfl,decide_eq_true (show 1<=(rest.length:Int)+1 by omega),decide_eq_true (Int.le_refl _),show decide ((1:Nat)=1)=true from rfl]
   dsimp only[zr,zc,zpj,yv,zph,ZE]
   by_cases h0:t=0
   ·have hg:=rC (t:=t) (lim:=lim) (.inl h0) hbr ho (by omega) (zdc hl)
    have hs:wS t lim rest out=Zz t lim rest out:=by unfold wS;rw[if_pos (.inl h0)]
    rw[←hs] at hg
    unfold dh at hg
    rw[beq_iff_eq.2 h0,hg]
    dsimp only[zf,zph,yO,zg,zpj,zc,zpi]
    rw[yN]
    dsimp only[Zv,zc,zpj]
    rw[Z2]
    dsimp only[zpj]
    by_cases h3:(wS t lim rest out).e=0
    ·rw[decide_eq_true h3,if_pos h3,h3]
     exact ih _ _ (by omega) a3 a4 (by omega)
    ·rw[decide_eq_false h3,if_neg h3]
     rfl
   ·rw[beq_eq_false_iff_ne.2 h0]
    dsimp only[zt]
    by_cases h1:t=255
    ·have hg:=rC (t:=t) (lim:=lim) (.inr h1) hbr ho (by omega) (zdc hl)
     have hs:wS t lim rest out=Zz t lim rest out:=by unfold wS;rw[if_pos (.inr h1)]
     rw[←hs] at hg
     unfold dh at hg
     rw[beq_iff_eq.2 h1,hg]
     dsimp only[zf,zph,yO,zg,zpj,zc,zpi]
     rw[yN]
     dsimp only[Zv,zc,zpj]
     rw[Z2]
     dsimp only[zpj]
     by_cases h3:(wS t lim rest out).e=0
     ·rw[decide_eq_true h3,if_pos h3,h3]
      exact ih _ _ (by omega) a3 a4 (by omega)
     ·rw[decide_eq_false h3,if_neg h3]
      rfl
    ·have hg:=Jw (t:=t) (out:=out) (lim:=lim) hbr (by omega) (by omega) (by omega)
     have hs:wS t lim rest out=xN t rest out lim:=by unfold wS;rw[if_neg (by omega)]
     rw[←hs] at hg
     unfold dh at hg
     rw[beq_eq_false_iff_ne.2 h1,hg]
     dsimp only[zf,zph,yO,zg,zpj,zc,zpi,zt]
     rw[yN]
     dsimp only[Zv,zc,zpj]
     rw[Z2]
     dsimp only[zpj]
     by_cases h3:(wS t lim rest out).e=0
     ·rw[decide_eq_true h3,if_pos h3,h3]
      exact ih _ _ (by omega) a3 a4 (by omega)
     ·rw[decide_eq_false h3,if_neg h3]
      rfl
def zaD:Nat->Int
 |0=>0
 |1=>11
 |_+2=>10
def Xf (lim:Int):Int:=if 0>lim then 0 else lim
def ZL (p:List Int) (lim:Int):Dr:=Yv (Xf lim) p.length p []
theorem zfB {p:List Int} (hb:∀ x∈p,zq x) (hl:p.length<=1073741824) (lim:Int):ev 101 [.pv (.sl 1 (bs p)),.pv (I lim)] []=some (.ret (.tup 0 (.slu 5 1 (bs (ZL p lim).o)) [.v .nilIface,I (zaD (ZL p lim).e)]),[]):=by
 have hd:=zfk (lim:=Xf lim) p.length p [] (Nat.le_refl _) hb (fun x hx=>by cases hx) (by show 0+_<=_;omega)
 have hE:ev 161 [.ptr 0 0] [[.pv (.sl 1 (bs p)),.slu 5 1 [],.pv (I (Xf lim))]]=some (.ret (.pv (vj (ZL p lim).e)),dh (ZL p lim).i (ZL p lim).o (Xf lim)):=(zok (bs p) [] (Xf lim)).trans hd
 rw[zoj]
 unfold Xf dh at hE
 rw[hE]
 dsimp only[zf,zph,yO,zg,zpj,zc,zpi]
 rw[yN]
 dsimp only[Zv,zc,zpj]
 rw[zbb,zbb]
 rcases (ZL p lim).e with _|_|e<;>rfl
def ZK (p:List Int) (lim:Int):Int:=zaD (ZL p lim).e
def Zm (p:List Int) (lim:Int):List Int:=if (ZL p lim).e=0 then (ZL p lim).o else []
theorem zfY {p:List Int} (hb:∀ x∈p,zq x) (hl:p.length<=1073741824) (lim:Int):ev 52 [.pv (.sl 1 (bs p)),.pv (I lim)] []=some (.ret (.tup 0 (.slu 5 1 (bs (Zm p lim))) [.v .nilIface,I (ZK p lim)]),[]):=by
 rw[zoi,zfB hb hl]
 dsimp only[zf]
 rw[YH]
 dsimp only[zpj,zpi,zph,zK]
 rw[yN]
 dsimp only[zpj]
 unfold Zm ZK
 rcases (ZL p lim).e with _|_|e<;>rfl
theorem zoh {p:List Int} (hb:∀ x∈p,zq x) (lim:Int):(∀ x∈Zm p lim,zq x)/\(Zm p lim).length<=2056*p.length:=by
 have h:=zaM (Xf lim) p.length hb (out:=[]) (fun x hx=>by cases hx)
 have a2:=h.lo
 have a3:=h.bo
 unfold Zm
 split
 ·refine ⟨a3,?_⟩
  rw[List.length_nil,Nat.zero_add] at a2
  exact a2
 ·exact ⟨(fun x hx=>absurd hx List.not_mem_nil),Nat.zero_le _⟩
theorem znm {b:List Int}:∀ (c i:Nat) (rest:List Int) (l:List (List Int)),xg b c i rest=some l->8 ∣ rest.length:=by
 intro c
 induction c with
 |zero=>
  intro i rest l h
  rw[xg] at h
  split at h
  ·rename_i h0
   rw[h0]
   exact ⟨0,rfl⟩
  ·cases h
 |succ c ih=>
  intro i rest l h
  rw[xg] at h
  split at h
  ·rename_i h1
   cases hq:xg b c (i+1) (rest.drop (8*(zM b i).toNat)) with
   |none=>rw[hq] at h;cases h
   |some t=>
    have:=ih _ _ _ hq
    rw[List.length_drop] at this
    omega
  ·cases h
theorem zmd {b:List Int} {l:List (List Int)} (h:yI b=some l):8<=b.length/\8 ∣ b.length:=by
 unfold yI at h
 split at h
 ·cases h
 split at h
 ·cases h
 split at h
 ·cases h
 split at h
 ·cases h
 have h1:=znm _ _ _ _ h
 rw[List.length_drop] at h1
 have h2:8 ∣ yC (zM b 0+1).toNat:=by unfold yC;split<;>omega
 have h3:(zM b 0+1).toNat=0->yC (zM b 0+1).toNat=8:=fun h=>by rw[h];rfl
 have h4:4*(zM b 0+1).toNat+4<=yC (zM b 0+1).toNat:=by unfold yC;split<;>omega
 omega
noncomputable def mP (b:List Int):List Int:=if yI b=none then [] else pack (zQ (b.length/8) b)
def pE (b:List Int):Int:=if yI b=none then 1 else 0
theorem zft {b:List Int} (hb:∀ x∈b,zq x) (hl:b.length<=1099511627776):ev 19 [.pv (.sl 1 (bs b))] []=ok (.tup [.sl 1 (bs (mP b)),I (pE b)]):=by
 rw[zkU,Yl hb hl]
 unfold mP pE
 dsimp only[zf,zg,zpj,zO,zpi,zph]
 rw[vD]
 cases h:yI b with
 |none=>
  rw[if_pos rfl,if_pos rfl]
  dsimp only[zpj]
  rw[show (!decide ((1:Int)=0))=true from rfl]
  dsimp only[zc]
  rw[XC]
  rfl
 |some l=>
  obtain ⟨h1,h2⟩:=zmd h
  rw[if_neg (by simp),if_neg (by simp),decide_eq_true (show (0:Int)=0 from rfl)]
  dsimp only[zpj,vN,zt]
  rw[zfz hb hl (n:=b.length/8) (by omega)]
  rfl
noncomputable def uE (p:List Int) (o:Int):Int:=if ZK p o≠0 then ZK p o else if yI (Zm p o)=none then 1 else 0
noncomputable def uO (p:List Int) (o:Int):List Int:=if uE p o=0 then Zm p o else []
theorem zn9 {p:List Int} {o:Int} (h:ZK p o≠0):uE p o=ZK p o/\uO p o=[]:=by
 have e:uE p o=ZK p o:=by unfold uE;rw[if_pos h]
 exact ⟨e,by unfold uO;rw[e,if_neg h]⟩
theorem zoa {p:List Int} {o:Int} (h:ZK p o=0) (hp:yI (Zm p o)=none):uE p o=1/\uO p o=[]:=by
 have e:uE p o=1:=by unfold uE;rw[if_neg (fun x=>x h),if_pos hp]
 exact ⟨e,by unfold uO;rw[e,if_neg (by decide)]⟩
theorem zob {p:List Int} {o:Int} (h:ZK p o=0) {l:List (List Int)} (hp:yI (Zm p o)=some l):uE p o=0/\uO p o=Zm p o:=by
 have e:uE p o=0:=by unfold uE;rw[if_neg (fun x=>x h),hp,if_neg (by simp)]
 exact ⟨e,by unfold uO;rw[e,if_pos rfl]⟩
theorem rD {p:List Int} (hb:∀ x∈p,zq x) (hl:p.length<=65536) (d w o:Int):ev 20 [.pv (.sl 1 (bs p)),.pv (.agg [I d,I w,I o])] []=ok (.tup [.sl 1 (bs (uO p o)),I (uE p o)]):=by
 obtain ⟨k1,k2⟩:=zoh hb o
 rw[zkV,zfY hb (by omega)]
 dsimp only[zf]
 rw[YH]
 dsimp only[zpj,zpi,zph,zK]
 rw[yN]
 dsimp only[zpj]
 by_cases h0:ZK p o=0
 ·rw[h0,show ((0:Int) != 0)=false from rfl]
  dsimp only[zt]
  rw[Yl k1 (by omega)]
  dsimp only[zf,zg,zpj,zO,zpi,zph]
  rw[vD]
  cases h:yI (Zm p o) with
  |none=>
   obtain ⟨e1,e2⟩:=zoa h0 h
   rw[e1,e2,if_pos rfl,decide_eq_false (show ¬(1:Int)=0 by decide)]
   dsimp only[zpj,Ko,zc]
   rw[XC]
   rfl
  |some l=>
   obtain ⟨e1,e2⟩:=zob h0 h
   rw[e1,e2,if_neg (by simp),decide_eq_true (show (0:Int)=0 from rfl)]
   rfl
 ·obtain ⟨e1,e2⟩:=zn9 h0
  rw[xC h0,e1,e2]
  rfl
def mEmp:List Int:=[0,0,0,0,0,0,0,0]
def mNul:List Int:=[0,0,0,0,1,0,0,0,0,0,0,0,0,0,0,0]
def ZA:List Int:=[16,1,0,0]
theorem byte_of {l:List Int} (h:(l.all fun x=>decide (0<=x)&&decide (x<=255))=true):∀ x∈l,zq x:=by
 intro x hx
 have:=List.all_eq_true.1 h x hx
 rw[Bool.and_eq_true,decide_eq_true_iff,decide_eq_true_iff] at this
 exact this
theorem Vl:∀ x∈mEmp,zq x:=byte_of rfl
theorem qK:∀ x∈mNul,zq x:=byte_of rfl
theorem zcL:∀ x∈ZA,zq x:=byte_of rfl
theorem zk5:∀ x∈([]:List Int),zq x:=fun x hx=>by cases hx
theorem Vm:mEmp.length<=1099511627776:=by show 8<=1099511627776;decide
theorem qL:mNul.length<=1099511627776:=by show 16<=1099511627776;decide
theorem zf5:ev 16 [.pv (.sl 1 (bs mEmp)),.pv (.agg [I 5,I 100,I 100])] []=some (.ret (.tup 0 (.slu 5 1 (bs mNul)) [.v .nilIface,I 0]),[]):=by
 rw[Jh Vl Vm (d:=5) (w:=100) (o:=100) (by decide) (by decide),show xD mEmp 5 100=mNul from by kernel_rfl,show mE mEmp 5 100=0 from by kernel_rfl]
theorem zf6:ev 18 [.pv (.sl 1 (bs mEmp)),.pv (.sl 1 (bs mNul)),.pv (.agg [I 5,I 100,I 100])] []=ok (.tup [Bo true,I 0]):=by
 have e1:mE mEmp 5 100=0:=by kernel_rfl
 have e2:mE mNul 5 100=0:=by kernel_rfl
 have e3:mN mEmp 5 100=mN mNul 5 100:=by kernel_rfl
 rw[Jv Vl Vm qK qL (d:=5) (w:=100) (o:=100) (by decide) (by decide)]
 unfold XZ Wg
 rw[if_pos ⟨e1,e2⟩,if_pos e1,e2,wW e3]
theorem zf7:ev 18 [.pv (.sl 1 (bs mEmp)),.pv (.sl 1 []),.pv (.agg [I 5,I 100,I 100])] []=ok (.tup [Bo false,I 1]):=by
 have e1:mE mEmp 5 100=0:=by kernel_rfl
 have e2:mE [] 5 100=1:=by kernel_rfl
 have h:=Jv Vl Vm zk5 (Nat.zero_le _) (d:=5) (w:=100) (o:=100) (by decide) (by decide)
 unfold XZ Wg at h
 rw[if_neg (by rw[e2];exact fun h=>absurd h.2 (by decide)),if_pos e1,e2] at h
 exact h
theorem zf8:ev 19 [.pv (.sl 1 (bs mNul))] []=ok (.tup [.sl 1 (bs ZA),I 0]):=by
 rw[zft qK qL,show mP mNul=ZA from by kernel_rfl,show pE mNul=0 from by kernel_rfl]
theorem zf9:ev 20 [.pv (.sl 1 (bs ZA)),.pv (.agg [I 5,I 100,I 100])] []=ok (.tup [.sl 1 (bs mNul),I 0]):=by
 rw[rD zcL (by decide) 5 100 100,show uO ZA 100=mNul from by kernel_rfl,show uE ZA 100=0 from by kernel_rfl]
theorem zga:ev 20 [.pv (.sl 1 (bs ZA)),.pv (.agg [I 0,I 0,I 15])] []=ok (.tup [.sl 1 [],I 11]):=by
 rw[rD zcL (by decide) 0 0 15,show uO ZA 15=[] from by kernel_rfl,show uE ZA 15=11 from by kernel_rfl]
 rfl
theorem zgb:ev 17 [.pv (.sl 1 (bs mEmp)),.pv (.agg [I 5,I 100,I 100])] []=ok (.tup [U hA,I 0]):=by
 rw[zfr Vl Vm (d:=5) (w:=100) (o:=100) (by decide) (by decide),show mH mEmp 5 100=hA from by kernel_rfl,show mE mEmp 5 100=0 from by kernel_rfl]
theorem vq:ev 130 [.pv (Bo true)] []=ok (.tup []):=by rw[jV];rfl
theorem wv:ev 130 [.pv (Bo false)] []=some (.pan (.ifc 174 (.agg [])),[]):=by rw[jV];rfl
theorem zgc:ev 76 [.pv (.sl 1 []),.pv (.agg [I 5,I 100,I 100])] []=ok (Bo false):=by
 rw[JR,show decide ((([]:List PV).length:Int)>0)=false from rfl,wv]
 rfl
theorem zgd:ev 76 [.pv (.sl 1 [U 0]),.pv (.agg [I 5,I 100,I 100])] []=ok (Bo true):=by
 have hv:=JS [U 0] 1 5 100 100 (max 100 0) 0 1
 have hn:ev 190 [.pv (U 0)] []=ok (Bo true):=by rw[Wq];rfl
 have hv':ev 132 [.ptr 0 0,.pv (I 0),.pv (I 1)] [[.pv (.sl 1 [U 0]),.pv (I 1),.pv (I 5),.pv (I 100),.pv (I 100),.pv (I (max 100 0))]]=some (.ret (.pv (.tup [])),[[.pv (.sl 1 [U 0]),.pv (I 1),.pv (I 5),.pv (I 100),.pv (I 100),.pv (I (max 100 0))]]):=by
  rw[hv]
  rw[show decide ((0:Int)<=0)=true from rfl,show decide ((0:Int)<(([U 0]:List PV).length:Int))=true from rfl,show ([U 0]:List PV)[(0:Int).toNat]? = some (U 0) from rfl]
  dsimp only[zr,zpj,yv,zph,zc]
  rw[hn]
  rfl
 rw[JR,show decide ((([U 0]:List PV).length:Int)>0)=true from rfl,vq,Qc]
 dsimp only[zf,zg,zpj,yT,zph,yw,zr,zc]
 rw[hv']
 rfl
theorem zki:ev 35 [.pv (.sl 1 (bs mEmp)),.pv (.agg [I 5,I 100,I 100])] []=ok (Bo false):=by
 rw[qH,Yl Vl Vm,XB (by decide) (by decide),show yI mEmp=some [[]] from by kernel_rfl,if_neg (by simp),Option.getD_some]
 dsimp only[zf,zg,zpj,zO,zpi,zph,yG]
 rw[vD]
 show zb (ev 76 [.pv (.sl 1 []),.pv (.agg [I 5,I 100,I 100])] []) _ _=_
 rw[zgc]
 rfl
theorem zkj:ev 35 [.pv (.sl 1 (bs mNul)),.pv (.agg [I 5,I 100,I 100])] []=ok (Bo true):=by
 rw[qH,Yl qK qL,XB (by decide) (by decide),show yI mNul=some [[0]] from by kernel_rfl,if_neg (by simp),Option.getD_some]
 dsimp only[zf,zg,zpj,zO,zpi,zph,yG]
 rw[vD]
 show zb (ev 76 [.pv (.sl 1 [U 0]),.pv (.agg [I 5,I 100,I 100])] []) _ _=_
 rw[zgd]
 rfl
theorem Jp {l:List Int} (h:l.length<=17592186044416):ev 27 [.pv (.sl 1 (bs l)),.pv (.sl 1 (bs l))] []=ok (Bo true):=by
 have:=ze0 h h
 rw[wW rfl] at this
 exact this
theorem ze9:ev 33 [] []=ok (Bo true):=by
 have c1:ev 16 [.pv (.sl 1 [U8 0,U8 0,U8 0,U8 0,U8 0,U8 0,U8 0,U8 0]),.pv (.agg [I 5,I 100,I 100])] []=some (.ret (.tup 0 (.slu 5 1 [U8 0,U8 0,U8 0,U8 0,U8 1,U8 0,U8 0,U8 0,U8 0,U8 0,U8 0,U8 0,U8 0,U8 0,U8 0,U8 0]) [.v .nilIface,I 0]),[]):=zf5
 have c2:ev 18 [.pv (.sl 1 [U8 0,U8 0,U8 0,U8 0,U8 0,U8 0,U8 0,U8 0]),.pv (.sl 1 [U8 0,U8 0,U8 0,U8 0,U8 1,U8 0,U8 0,U8 0,U8 0,U8 0,U8 0,U8 0,U8 0,U8 0,U8 0,U8 0]),.pv (.agg [I 5,I 100,I 100])] []=ok (.tup [Bo true,I 0]):=zf6
 have c3:ev 18 [.pv (.sl 1 [U8 0,U8 0,U8 0,U8 0,U8 0,U8 0,U8 0,U8 0]),.pv (.sl 1 []),.pv (.agg [I 5,I 100,I 100])] []=ok (.tup [Bo false,I 1]):=zf7
 have c4:ev 19 [.pv (.sl 1 [U8 0,U8 0,U8 0,U8 0,U8 1,U8 0,U8 0,U8 0,U8 0,U8 0,U8 0,U8 0,U8 0,U8 0,U8 0,U8 0])] []=ok (.tup [.sl 1 [U8 16,U8 1,U8 0,U8 0],I 0]):=zf8
 have c5:ev 20 [.pv (.sl 1 [U8 16,U8 1,U8 0,U8 0]),.pv (.agg [I 5,I 100,I 100])] []=ok (.tup [.sl 1 [U8 0,U8 0,U8 0,U8 0,U8 1,U8 0,U8 0,U8 0,U8 0,U8 0,U8 0,U8 0,U8 0,U8 0,U8 0,U8 0],I 0]):=zf9
 have c6:ev 20 [.pv (.sl 1 [U8 16,U8 1,U8 0,U8 0]),.pv (.agg [I 0,I 0,I 15])] []=ok (.tup [.sl 1 [],I 11]):=zga
 have c7:ev 17 [.pv (.sl 1 [U8 0,U8 0,U8 0,U8 0,U8 0,U8 0,U8 0,U8 0]),.pv (.agg [I 5,I 100,I 100])] []=ok (.tup [U hA,I 0]):=zgb
 have c8:ev 35 [.pv (.sl 1 [U8 0,U8 0,U8 0,U8 0,U8 0,U8 0,U8 0,U8 0]),.pv (.agg [I 5,I 100,I 100])] []=ok (Bo false):=zki
 have c9:ev 35 [.pv (.sl 1 [U8 0,U8 0,U8 0,U8 0,U8 1,U8 0,U8 0,U8 0,U8 0,U8 0,U8 0,U8 0,U8 0,U8 0,U8 0,U8 0]),.pv (.agg [I 5,I 100,I 100])] []=ok (Bo true):=zkj
 have s1:ev 27 [.pv (.sl 1 [U8 0,U8 0,U8 0,U8 0,U8 1,U8 0,U8 0,U8 0,U8 0,U8 0,U8 0,U8 0,U8 0,U8 0,U8 0,U8 0]),.pv (.sl 1 [U8 0,U8 0,U8 0,U8 0,U8 1,U8 0,U8 0,U8 0,U8 0,U8 0,U8 0,U8 0,U8 0,U8 0,U8 0,U8 0])] []=ok (Bo true):=Jp (l:=mNul) (by decide)
 have s2:ev 27 [.pv (.sl 1 [U8 16,U8 1,U8 0,U8 0]),.pv (.sl 1 [U8 16,U8 1,U8 0,U8 0])] []=ok (Bo true):=Jp (l:=ZA) (by decide)
 rw[zhR,c1,c2,c3,c4,c7,c8,c9,zkc]
 dsimp only[zf,zg,zpj,xc,Ko,zc,wM,zO,zpi,zph,zK]
 rw[YH]
 dsimp only[zpj,zpi,zph,zK]
 rw[yN]
 dsimp only[zpj]
 rw[c5,c6,show ((0:Int)==0)=true from rfl,show ((1:Int)==1)=true from rfl,s1,s2,show (hA==hA)=true from by simp]
 dsimp only[zc,zf,zg,zpj,xc,zO,zpi,zph,zK]
 rw[show ((0:Int)==0)=true from rfl,show ((11:Int)==11)=true from rfl,s1]
 rfl
theorem Km {b:List Int} {d w:Int} (h:mE b d w=0):∃ l,yI b=some l/\yF l d w=0:=by
 unfold mE at h
 split at h
 ·rename_i l h1
  exact ⟨l,h1,h⟩
 ·cases h
theorem Y3 {b:List Int} {d w:Int} {l:List (List Int)} (h:yI b=some l) (h0:yF l d w=0):xD b d w=wQ (yW l d w)/\mN b d w=yJ l d w/\mH b d w=Vw l d w:=by
 unfold xD mN mH
 rw[h]
 exact ⟨if_pos h0,rfl,rfl⟩
theorem zhm {b:List Int} (hb:∀ x∈b,zq x) (hl:b.length<=1099511627776) {d w:Int} (hw:w<=134217728):(xD b d w).length<=17592186044416:=by
 unfold xD
 split
 ·rename_i l h
  split
  ·rename_i h0
   obtain ⟨h1,h2⟩:=w7 hb hl h
   have:=Qs h1 h2 hw h0
   rw[KL]
   omega
  ·exact Nat.zero_le _
 ·exact Nat.zero_le _
theorem zhl {a b:List Int} (ha:∀ x∈a,zq x) (hla:a.length<=1099511627776) (hb:∀ x∈b,zq x) (hl:b.length<=1099511627776) {d w:Int} (hw:w<=134217728) (h1:mE a d w=0) (h2:mE b d w=0):xD a d w=xD b d w↔mN a d w=mN b d w:=by
 obtain ⟨la,p1,z1⟩:=Km h1
 obtain ⟨lb,p2,z2⟩:=Km h2
 obtain ⟨a1,a2⟩:=w7 ha hla p1
 obtain ⟨b1,b2⟩:=w7 hb hl p2
 obtain ⟨oa,na,xa⟩:=ZZ a1 a2 hw z1
 obtain ⟨ob,nb,xb⟩:=ZZ b1 b2 hw z2
 have e3:yW la d w=yH d.toNat (yJ la d w):=by unfold yW;rw[if_pos z1]
 have e4:yW lb d w=yH d.toNat (yJ lb d w):=by unfold yW;rw[if_pos z2]
 rw[(Y3 p1 z1).1,(Y3 p2 z2).1,(Y3 p1 z1).2.1,(Y3 p2 z2).2.1]
 refine Iff.trans (b:=yH d.toNat (yJ la d w)=yH d.toNat (yJ lb d w)) ⟨fun h=>?_,fun h=>by rw[e3,e4,h]⟩ (zht oa ob na nb)
 have:=znq (JP a1 a2 hw).2 (JP b1 b2 hw).2 h
 rw[e3,e4] at this
 exact this
theorem XQ (a b c d e f:AV):decide ([a,b,c,d,e,f].length=6)=true:=rfl
def ch (W:List Int) (nx d w o m:Int):zh:=[[.pv (.sl 1 (ws W)),.pv (I nx),.pv (I d),.pv (I w),.pv (I o),.pv (I m)]]
theorem Jt {W:List Int} (hW:zF [W]) {nx d w o m at_ n:Int} {p:PT} (ha:0<=at_/\at_<=1099511627776) (hp:-536870912<=p.2.1/\p.2.1<=536870911) (hnx:0<=nx/\nx<=1099511627776) (hn:0<=n/\n<=1099511627776):ev 246 [.ptr 0 0,.pv (I at_),.pv (.agg (yi p)),.pv (I n)] (ch W nx d w o m)=if at_+1+p.2.1=nx/\inB [W] 0 nx n then some (.ret (.pv (I nx)),ch W (nx+n) d w o m) else some (.pan (.ifc 174 (.agg [])),ch W nx d w o m):=by
 unfold yi ch
 rw[zhE,ze (x:=at_+1) (by omega),ze (x:=at_+1+p.2.1) (by omega),ze (x:=nx+n) (by omega)]
 by_cases h1:at_+1+p.2.1=nx
 ·have hb:=WM hW 0 nx n
  have hb':ev 286 [.pv (.sl 1 [.sl 1 (ws W)]),.pv (I 0),.pv (I nx),.pv (I n)] []=ok (Bo (decide (inB [W] 0 nx n))):=hb
  rw[h1,beq_iff_eq.2 rfl]
  dsimp only[zc]
  rw[hb']
  dsimp only[zf,zg,zpj,xc]
  by_cases h2:inB [W] 0 nx n
  ·rw[decide_eq_true h2,if_pos ⟨rfl,h2⟩,vq]
   rfl
  ·rw[decide_eq_false h2,if_neg (fun h=>h2 h.2),wv]
   rfl
 ·rw[beq_eq_false_iff_ne.2 h1,if_neg (fun h=>h1 h.1)]
  dsimp only[zt]
  rw[wv]
  rfl
theorem Qe {W:List Int} {nx d w o m c:Int} (hm:0<=m/\m<=1099511627776) (hc:0<=c/\c<=1099511627776):ev 247 [.ptr 0 0,.pv (I c)] (ch W nx d w o m)=if c>m then some (.pan (.ifc 174 (.agg [])),ch W nx d w o m) else some (.ret (.pv (.tup [])),ch W nx d w o (m-c)):=by
 unfold ch
 rw[zhC,g9 m c (by omega)]
 dsimp only[zf,zg,zpj,zO,zpi,zph,zK,yT,yw,zr,zc]
 by_cases h:c>m
 ·rw[if_pos h,if_pos h,if_pos h,show ((8:Int)==0)=false from rfl,wv]
  rfl
 ·rw[if_neg h,if_neg h,if_neg h,show ((0:Int)==0)=true from rfl,vq]
  rfl
def p5:PT:=(0,0,1,0,0,0,false,0,0,0)
abbrev CS:=Int×Int
def yE (F:Int->CS->Option CS):Nat->Int->CS->Option CS
 |0,_,s=>some s
 |c+1,a,s=>(F a s).bind (yE F c (a+1))
def Ze (F:Int->CS->Option CS) (W:List Int) (a:Int) (p:PT) (s:CS):Option CS :=
 if p.2.2.1+p.2.2.2.1=0 then (if p.2.1=-1 then some s else none)
 else if a+1+p.2.1=s.1/\inB [W] 0 s.1 (p.2.2.1+p.2.2.2.1)/\p.2.2.1+p.2.2.2.1<=s.2/\(p.2.2.1=0∨wd [W] 0 (s.1+p.2.2.1-1)≠0)/\(p.2.2.2.1=0∨wd [W] 0 (s.1+p.2.2.1+p.2.2.2.1-1)≠0)
  then yE F p.2.2.2.1.toNat (s.1+p.2.2.1) (s.1+(p.2.2.1+p.2.2.2.1),s.2-(p.2.2.1+p.2.2.2.1)) else none
def Vs (W:List Int) (d w o:Int) (res:Option (Out×zh)):Option CS->Prop
 |some s=>res=some (.ret (.pv (.tup [])),ch W s.1 d w o s.2)
 |none=>∃ s:CS,res=some (.pan (.ifc 174 (.agg [])),ch W s.1 d w o s.2)
def Rg (W:List Int) (s:CS):Prop:=(0<=s.1/\s.1<=W.length)/\0<=s.2/\s.2<=1099511627776
def VF (W:List Int) (d w o k:Int) (F:Int->CS->Option CS):Prop:=∀ (a:Int) (s:CS),0<=a->a<(W.length:Int)->Rg W s->Vs W d w o (ev 132 [.ptr 0 0,.pv (I a),.pv (I k)] (ch W s.1 d w o s.2)) (F a s)/\∀ s',F a s=some s'->Rg W s'
theorem QM {W:List Int} {F:Int->CS->Option CS} (hF:∀ (a:Int) (s:CS),0<=a->a<(W.length:Int)->Rg W s->∀ s',F a s=some s'->Rg W s'):∀ (c:Nat) (a:Int) (s:CS),0<=a->a+c<=W.length->Rg W s->∀ s',yE F c a s=some s'->Rg W s':=by
 intro c
 induction c with
 |zero=>intro a s ha hc hs s' h;cases h;exact hs
 |succ c ih=>
  intro a s ha hc hs s' h
  rw[yE] at h
  cases h1:F a s with
  |none=>rw[h1] at h;cases h
  |some t=>
   rw[h1] at h
   exact ih (a+1) t (by omega) (by omega) (hF a s ha (by omega) hs t h1) s' h
theorem ziW {W:List Int} (hl:W.length<=1099511627776) {d w o k:Int} (hk:0<=k/\k<=1099511627776) {F:Int->CS->Option CS} (hF:VF W d w o (k+1) F) {n:Nat} {a:Int} (ha:0<=a) (hn:a+n<=W.length):∀ (c i:Nat) (s:CS),i+c=n->Rg W s->
  Vs W d w o (Qt a k n i (.sl 1 (ws W)) (I s.1) (I d) (I w) (I o) (I s.2)) (yE F c (a+i) s):=by
 intro c
 induction c with
 |zero=>
  intro i s hi hs
  rw[jU,decide_eq_false (by omega)]
  rfl
 |succ c ih=>
  intro i s hi hs
  obtain ⟨h1,h2⟩:=hF (a+i) s (by omega) (by omega) hs
  unfold ch at h1
  rw[jU,decide_eq_true (show (i:Int)<n by omega),ze (x:=a+(i:Int)) (by omega),ze (x:=k+1) (by omega),ze (x:=(i:Int)+1) (by omega),yE]
  cases h3:F (a+i) s with
  |none=>
   rw[h3] at h1
   obtain ⟨t,ht⟩:=h1
   unfold ch at ht
   rw[ht]
   exact ⟨t,rfl⟩
  |some t=>
   rw[h3] at h1
   have h1':ev 132 [.ptr 0 0,.pv (I (a+i)),.pv (I (k+1))] [[.pv (.sl 1 (ws W)),.pv (I s.1),.pv (I d),.pv (I w),.pv (I o),.pv (I s.2)]]=some (.ret (.pv (.tup [])),ch W t.1 d w o t.2):=h1
   unfold ch at h1'
   rw[h1']
   have:=ih (i+1) t (by omega) (h2 t h3)
   rw[show a+((i+1:Nat):Int)=a+i+1 by push_cast;omega] at this
   exact this
theorem Jx {W:List Int} (hl:W.length<=1099511627776) {d w o k:Int} (hk:0<=k/\k<=1099511627776) {F:Int->CS->Option CS} (hF:VF W d w o (k+1) F) {n a:Int} (ha:0<=a) (hn0:0<=n) (hn:a+n<=W.length) {s:CS} (hs:Rg W s):Vs W d w o (ev 248 [.ptr 0 0,.pv (I a),.pv (I n),.pv (I k)] (ch W s.1 d w o s.2)) (yE F n.toNat a s):=by
 unfold ch
 rw[zhF]
 have:=ziW hl hk hF ha (n:=n.toNat) (by omega) n.toNat 0 s (by omega) hs
 rw[show a+((0:Nat):Int)=a by simp,show ((n.toNat:Nat):Int)=n by omega] at this
 exact this
theorem YY {W:List Int} {i:Int} (h0:0<=i) (h:i<W.length):(ws W)[i.toNat]? = some (U (wd [W] 0 i)):=ga h0 h
theorem YF {W:List Int} (hl:W.length<=1099511627776) (hw:∀ x∈W,zG x):zF [W]:=⟨show 1<=9223372036854775807 by decide,fun s hs=>by rw[List.mem_singleton.1 hs];exact ⟨by omega,hw⟩⟩
theorem Zf {W:List Int} {a n:Int} (h:inB [W] 0 a n):0<=a/\0<=n/\a+n<=W.length:=⟨h.2.2.1,h.2.2.2.1,h.2.2.2.2⟩
theorem zfi {W:List Int} (hl:W.length<=1099511627776) (hw:∀ x∈W,zG x) {d w o k:Int} (hk:0<=k/\k<=1099511627776) {F:Int->CS->Option CS} (hF:VF W d w o (k+1) F) {a:Int} (ha:0<=a/\a<W.length) {p:PT} (hp:(-536870912<=p.2.1/\p.2.1<=536870911)/\(0<=p.2.2.1/\p.2.2.1<=65535)/\(0<=p.2.2.2.1/\p.2.2.2.1<=65535)) {s:CS} (hs:Rg W s) :
  Vs W d w o (ev 193 [.ptr 0 0,.pv (I a),.pv (I k),.pv (.agg (yi p))] (ch W s.1 d w o s.2)) (Ze F W a p s)/\∀ s',Ze F W a p s=some s'->Rg W s':=by
 obtain ⟨hp1,hp2,hp3⟩:=hp
 obtain ⟨hs1,hs2,hs3⟩:=hs
 have hS:=YF hl hw
 have hrg:∀ s',Ze F W a p s=some s'->Rg W s':=by
  intro s' h
  unfold Ze at h
  split at h
  ·split at h
   ·cases h;exact ⟨hs1,hs2,hs3⟩
   ·cases h
  ·split at h
   ·rename_i h1
    obtain ⟨_,h2,h3,_⟩:=h1
    have:=Zf h2
    exact QM (fun a s h1 h2 h3=>(hF a s h1 h2 h3).2) _ _ _ (by omega) (by omega) ⟨by dsimp only;omega,by dsimp only;omega,by dsimp only;omega⟩ s' h
   ·cases h
 refine ⟨?_,hrg⟩
 have hE:ev 193 [.ptr 0 0,.pv (I a),.pv (I k),.pv (.agg (yi p))] (ch W s.1 d w o s.2)=_:=zhG (ws W) s.1 d w o s.2 a k p.1 p.2.1 p.2.2.1 p.2.2.2.1 p.2.2.2.2.1 p.2.2.2.2.2.1 p.2.2.2.2.2.2.1 p.2.2.2.2.2.2.2.1 p.2.2.2.2.2.2.2.2.1 p.2.2.2.2.2.2.2.2.2
 have hO:=Jt hS (nx:=s.1) (d:=d) (w:=w) (o:=o) (m:=s.2) (at_:=a) (n:=p.2.2.1+p.2.2.2.1) (p:=p) (by omega) hp1 (by omega) (by omega)
 unfold yi ch at hO
 rw[hE,ze (x:=p.2.2.1+p.2.2.2.1) (by omega)]
 unfold Ze
 by_cases h0:p.2.2.1+p.2.2.2.1=0
 ·rw[beq_iff_eq.2 h0,if_pos h0]
  dsimp only[zc]
  by_cases h1:p.2.1=-1
  ·rw[beq_iff_eq.2 h1,if_pos h1,vq]
   rfl
  ·rw[beq_eq_false_iff_ne.2 h1,if_neg h1,wv]
   exact ⟨s,rfl⟩
 rw[beq_eq_false_iff_ne.2 h0,if_neg h0]
 dsimp only[zt]
 by_cases h1:a+1+p.2.1=s.1/\inB [W] 0 s.1 (p.2.2.1+p.2.2.2.1)
 ·have hb:=Zf h1.2
  have hC:=Qe (W:=W) (nx:=s.1+(p.2.2.1+p.2.2.2.1)) (d:=d) (w:=w) (o:=o) (m:=s.2) (c:=p.2.2.1+p.2.2.2.1) (by omega) (by omega)
  unfold ch at hC
  rw[if_pos h1] at hO
  rw[hO]
  dsimp only[zf,zph,yO,zg,zpj,zK,zc,zpi,XQ]
  rw[hC]
  by_cases h2:p.2.2.1+p.2.2.2.1>s.2
  ·rw[if_pos h2,if_neg (fun h=>by omega)]
   exact ⟨(s.1+(p.2.2.1+p.2.2.2.1),s.2),rfl⟩
  have hP:=Jx hl hk hF (n:=p.2.2.2.1) (a:=s.1+p.2.2.1) (by omega) (by omega) (by omega) (s:=(s.1+(p.2.2.1+p.2.2.2.1),s.2-(p.2.2.1+p.2.2.2.1))) ⟨by dsimp only;omega,by dsimp only;omega,by dsimp only;omega⟩
  have fin:Vs W d w o (zb (ev 248 [.ptr 0 0,.pv (I (s.1+p.2.2.1)),.pv (I p.2.2.2.1),.pv (I k)] [[.pv (.sl 1 (ws W)),.pv (I (s.1+(p.2.2.1+p.2.2.2.1))),.pv (I d),.pv (I w),.pv (I o),.pv (I (s.2-(p.2.2.1+p.2.2.2.1)))]]) (fun a_40 h_41=>(h_41[0]?).bind fun c_42=>(c_42[0]?).bind fun e_43=>(za e_43).bind fun p_44=>(c_42[1]?).bind fun e_45=>(za e_45).bind fun p_46=>(c_42[2]?).bind fun e_47=>(za e_47).bind fun p_48=>(c_42[3]?).bind fun e_49=>(za e_49).bind fun p_50=>(c_42[4]?).bind fun e_51=>(za e_51).bind fun p_52=>(c_42[5]?).bind fun e_53=>(za e_53).bind fun p_54=>cond (decide (c_42.length=6)) (cond (decide (h_41.length=1)) ((za a_40).bind fun p_55=>some (.ret (.pv (.tup [])),[[(.pv p_44),(.pv p_46),(.pv p_48),(.pv p_50),(.pv p_52),(.pv p_54)]])) none) none) (fun a_40 h_41=>(h_41[0]?).bind fun c_42=>(c_42[0]?).bind fun e_43=>(za e_43).bind fun p_44=>(c_42[1]?).bind fun e_45=>(za e_45).bind fun p_46=>(c_42[2]?).bind fun e_47=>(za e_47).bind fun p_48=>(c_42[3]?).bind fun e_49=>(za e_49).bind fun p_50=>(c_42[4]?).bind fun e_51=>(za e_51).bind fun p_52=>(c_42[5]?).bind fun e_53=>(za e_53).bind fun p_54=>cond (decide (c_42.length=6)) (cond (decide (h_41.length=1)) (some (.pan a_40,[[(.pv p_44),(.pv p_46),(.pv p_48),(.pv p_50),(.pv p_52),(.pv p_54)]])) none) none)) (yE F p.2.2.2.1.toNat (s.1+p.2.2.1) (s.1+(p.2.2.1+p.2.2.2.1),s.2-(p.2.2.1+p.2.2.2.1))):=by
   cases hq:yE F p.2.2.2.1.toNat (s.1+p.2.2.1) (s.1+(p.2.2.1+p.2.2.2.1),s.2-(p.2.2.1+p.2.2.2.1)) with
   |none=>
    rw[hq] at hP
    obtain ⟨t,ht⟩:=hP
    unfold ch at ht
    dsimp only at ht
    rw[ht]
    exact ⟨t,rfl⟩
   |some t=>
    rw[hq] at hP
    have hP':ev 248 [.ptr 0 0,.pv (I (s.1+p.2.2.1)),.pv (I p.2.2.2.1),.pv (I k)] [[.pv (.sl 1 (ws W)),.pv (I (s.1+(p.2.2.1+p.2.2.2.1))),.pv (I d),.pv (I w),.pv (I o),.pv (I (s.2-(p.2.2.1+p.2.2.2.1)))]]=some (.ret (.pv (.tup [])),ch W t.1 d w o t.2):=hP
    rw[hP']
    rfl
  rw[if_neg h2]
  dsimp only[zf,zph,yO,zg,zpj,zc,zpi,XQ,yG]
  rw[ze (x:=s.1+p.2.2.1) (by omega),ze (x:=s.1+p.2.2.1+p.2.2.2.1) (by omega)]
  by_cases hd:p.2.2.1=0
  ·have hq:p.2.2.2.1≠0:=fun h=>h0 (by omega)
   rw[beq_iff_eq.2 hd,beq_eq_false_iff_ne.2 hq,vq]
   dsimp only[zf,zg,zpj,zt,zc]
   rw[ze (x:=s.1+p.2.2.1+p.2.2.2.1-1) (by omega),yt,decide_eq_true (show 0<=s.1+p.2.2.1+p.2.2.2.1-1 by omega),decide_eq_true (show s.1+p.2.2.1+p.2.2.2.1-1<(W.length:Int) by omega),YY (by omega) (by omega),show decide ((1:Nat)=1)=true from rfl]
   dsimp only[zr,zpj,yv,zph,wM,zc]
   by_cases h3:wd [W] 0 (s.1+p.2.2.1+p.2.2.2.1-1)=0
   ·rw[h3,show ((0:Int) != 0)=false from rfl,wv,if_neg (fun h=>by rcases h.2.2.2.2 with x|x;exact hq x;exact x rfl)]
    exact ⟨(s.1+(p.2.2.1+p.2.2.2.1),s.2-(p.2.2.1+p.2.2.2.1)),rfl⟩
   ·rw[xC h3,vq,if_pos ⟨h1.1,h1.2,by omega,.inl hd,.inr h3⟩]
    exact fin
  ·rw[beq_eq_false_iff_ne.2 hd]
   dsimp only[zt]
   rw[ze (x:=s.1+p.2.2.1-1) (by omega),yt,decide_eq_true (show 0<=s.1+p.2.2.1-1 by omega),decide_eq_true (show s.1+p.2.2.1-1<(W.length:Int) by omega),YY (by omega) (by omega),show decide ((1:Nat)=1)=true from rfl]
   dsimp only[zr,zpj,yv,zph,wM,zc]
   by_cases h3:wd [W] 0 (s.1+p.2.2.1-1)=0
   ·rw[h3,show ((0:Int) != 0)=false from rfl,wv,if_neg (fun h=>by rcases h.2.2.2.1 with x|x;exact hd x;exact x rfl)]
    exact ⟨(s.1+(p.2.2.1+p.2.2.2.1),s.2-(p.2.2.1+p.2.2.2.1)),rfl⟩
   rw[xC h3,vq]
   dsimp only[zf,zg,zpj]
   by_cases hq:p.2.2.2.1=0
   ·rw[beq_iff_eq.2 hq]
    dsimp only[zc]
    rw[if_pos ⟨h1.1,h1.2,by omega,.inr h3,.inl hq⟩]
    exact fin
   ·rw[beq_eq_false_iff_ne.2 hq]
    dsimp only[zt]
    rw[ze (x:=s.1+p.2.2.1+p.2.2.2.1-1) (by omega),decide_eq_true (show 0<=s.1+p.2.2.1+p.2.2.2.1-1 by omega),decide_eq_true (show s.1+p.2.2.1+p.2.2.2.1-1<(W.length:Int) by omega),YY (by omega) (by omega)]
    dsimp only[zr,zpj,yv,zph,wM,zc]
    by_cases h4:wd [W] 0 (s.1+p.2.2.1+p.2.2.2.1-1)=0
    ·rw[h4,show ((0:Int) != 0)=false from rfl,wv,if_neg (fun h=>by rcases h.2.2.2.2 with x|x;exact hq x;exact x rfl)]
     exact ⟨(s.1+(p.2.2.1+p.2.2.2.1),s.2-(p.2.2.1+p.2.2.2.1)),rfl⟩
    ·rw[xC h4,vq,if_pos ⟨h1.1,h1.2,by omega,.inr h3,.inr h4⟩]
     exact fin
 ·rw[if_neg h1] at hO
  rw[hO,if_neg (fun h=>h1 ⟨h.1,h.2.1⟩)]
  exact ⟨s,rfl⟩
def Z4 (e c:Int) (b:List Int):Prop:=(trimB e c b++List.replicate b.length 0).take b.length=b
instance (e c:Int) (b:List Int):Decidable (Z4 e c b):=by unfold Z4;infer_instance
def wj (W:List Int) (a n:Int):List Int:=(W.drop a.toNat).take n.toNat
def vK (F:Int->CS->Option CS) (W:List Int) (a:Int) (p:PT) (s:CS):Option CS :=
 if a+1+p.2.1=s.1/\inB [W] 0 s.1 (zs p.2.2.2.2.1 p.2.2.2.2.2.1)/\zs p.2.2.2.2.1 p.2.2.2.2.2.1<=s.2 then
  (if p.2.2.2.2.1=6 then yE F (zs p.2.2.2.2.1 p.2.2.2.2.2.1).toNat s.1 (s.1+zs p.2.2.2.2.1 p.2.2.2.2.2.1,s.2-zs p.2.2.2.2.1 p.2.2.2.2.2.1)
   else if Z4 p.2.2.2.2.1 p.2.2.2.2.2.1 (zu (wj W s.1 (zs p.2.2.2.2.1 p.2.2.2.2.2.1))) then some (s.1+zs p.2.2.2.2.1 p.2.2.2.2.2.1,s.2-zs p.2.2.2.2.1 p.2.2.2.2.2.1) else none)
 else none
theorem zo2 {W:List Int} {a n:Int} (ha:0<=a) (hn:0<=n):((ws W).take (a+n).toNat).drop a.toNat=ws (wj W a n):=by
 unfold wj
 rw[ws,←List.map_take,←List.map_drop,show (a+n).toNat=a.toNat+n.toNat by omega,List.drop_take,Nat.add_sub_cancel_left]
 rfl
theorem jH {e c:Int} (he:0<=e/\e<=5) (hc:0<=c/\c<=536870911):zS e c<=8*zs e c:=by
 unfold zS zs
 rw[if_neg (by omega)]
 omega
theorem zfg {W:List Int} (hl:W.length<=1099511627776) (hw:∀ x∈W,zG x) {d w o k:Int} (hk:0<=k/\k<=1099511627776) {F:Int->CS->Option CS} (hF:VF W d w o (k+1) F) {a:Int} (ha:0<=a/\a<W.length) {p:PT} (hp:(-536870912<=p.2.1/\p.2.1<=536870911)/\(0<=p.2.2.2.2.1/\p.2.2.2.2.1<=6)/\(0<=p.2.2.2.2.2.1/\p.2.2.2.2.2.1<=536870911)) {s:CS} (hs:Rg W s) :
  Vs W d w o (ev 194 [.ptr 0 0,.pv (I a),.pv (I k),.pv (.agg (yi p))] (ch W s.1 d w o s.2)) (vK F W a p s)/\∀ s',vK F W a p s=some s'->Rg W s':=by
 obtain ⟨hp1,hp2,hp3⟩:=hp
 obtain ⟨hs1,hs2,hs3⟩:=hs
 have hS:=YF hl hw
 have hwr:=Zo (e:=p.2.2.2.2.1) hp3
 have hrg:∀ s',vK F W a p s=some s'->Rg W s':=by
  intro s' h
  unfold vK at h
  split at h
  ·rename_i h1
   obtain ⟨_,h2,h3⟩:=h1
   have:=Zf h2
   have hr:Rg W (s.1+zs p.2.2.2.2.1 p.2.2.2.2.2.1,s.2-zs p.2.2.2.2.1 p.2.2.2.2.2.1):=⟨by dsimp only;omega,by dsimp only;omega,by dsimp only;omega⟩
   split at h
   ·exact QM (fun a s h1 h2 h3=>(hF a s h1 h2 h3).2) _ _ _ (by omega) (by omega) hr s' h
   ·split at h
    ·cases h;exact hr
    ·cases h
  ·cases h
 refine ⟨?_,hrg⟩
 have hE:ev 194 [.ptr 0 0,.pv (I a),.pv (I k),.pv (.agg (yi p))] (ch W s.1 d w o s.2)=_:=jT (ws W) s.1 d w o s.2 a k p.1 p.2.1 p.2.2.1 p.2.2.2.1 p.2.2.2.2.1 p.2.2.2.2.2.1 p.2.2.2.2.2.2.1 p.2.2.2.2.2.2.2.1 p.2.2.2.2.2.2.2.2.1 p.2.2.2.2.2.2.2.2.2
 have hO:=Jt hS (nx:=s.1) (d:=d) (w:=w) (o:=o) (m:=s.2) (at_:=a) (n:=zs p.2.2.2.2.1 p.2.2.2.2.2.1) (p:=p) (by omega) hp1 (by omega) (by omega)
 unfold yi ch at hO
 have h7:¬p.2.2.2.2.1=7:=by omega
 rw[hE,beq_eq_false_iff_ne.2 h7]
 dsimp only[zt]
 rw[Jr (by omega) hp3]
 dsimp only[zf,zg,zpj,zK]
 unfold vK
 by_cases h1:a+1+p.2.1=s.1/\inB [W] 0 s.1 (zs p.2.2.2.2.1 p.2.2.2.2.2.1)
 ·have hb:=Zf h1.2
  have hC:=Qe (W:=W) (nx:=s.1+zs p.2.2.2.2.1 p.2.2.2.2.2.1) (d:=d) (w:=w) (o:=o) (m:=s.2) (c:=zs p.2.2.2.2.1 p.2.2.2.2.2.1) (by omega) (by omega)
  unfold ch at hC
  rw[if_pos h1] at hO
  rw[hO]
  dsimp only[zf,zph,yO,zg,zpj,zK,xt,zc,zpi,XQ]
  rw[hC]
  by_cases h2:zs p.2.2.2.2.1 p.2.2.2.2.2.1>s.2
  ·rw[if_pos h2,if_neg (fun h=>by omega)]
   exact ⟨(s.1+zs p.2.2.2.2.1 p.2.2.2.2.2.1,s.2),rfl⟩
  rw[if_neg h2,if_pos ⟨h1.1,h1.2,by omega⟩]
  dsimp only[zf,zph,yO,zg,zpj,zc,zpi,XQ,yG]
  by_cases h6:p.2.2.2.2.1=6
  ·rw[beq_iff_eq.2 h6,if_pos h6]
   dsimp only[zc]
   have hP:=Jx hl hk hF (n:=zs p.2.2.2.2.1 p.2.2.2.2.2.1) (a:=s.1) (by omega) (by omega) (by omega) (s:=(s.1+zs p.2.2.2.2.1 p.2.2.2.2.2.1,s.2-zs p.2.2.2.2.1 p.2.2.2.2.2.1)) ⟨by dsimp only;omega,by dsimp only;omega,by dsimp only;omega⟩
   cases hq:yE F (zs p.2.2.2.2.1 p.2.2.2.2.2.1).toNat s.1 (s.1+zs p.2.2.2.2.1 p.2.2.2.2.2.1,s.2-zs p.2.2.2.2.1 p.2.2.2.2.2.1) with
   |none=>
    rw[hq] at hP
    obtain ⟨t,ht⟩:=hP
    unfold ch at ht
    dsimp only at ht
    rw[ht]
    exact ⟨t,rfl⟩
   |some t=>
    rw[hq] at hP
    have hP':ev 248 [.ptr 0 0,.pv (I s.1),.pv (I (zs p.2.2.2.2.1 p.2.2.2.2.2.1)),.pv (I k)] [[.pv (.sl 1 (ws W)),.pv (I (s.1+zs p.2.2.2.2.1 p.2.2.2.2.2.1)),.pv (I d),.pv (I w),.pv (I o),.pv (I (s.2-zs p.2.2.2.2.1 p.2.2.2.2.2.1))]]=some (.ret (.pv (.tup [])),ch W t.1 d w o t.2):=hP
    rw[hP']
    rfl
  ·rw[beq_eq_false_iff_ne.2 h6,if_neg h6]
   dsimp only[zt]
   have hcl:(wj W s.1 (zs p.2.2.2.2.1 p.2.2.2.2.2.1)).length=(zs p.2.2.2.2.1 p.2.2.2.2.2.1).toNat:=by
    unfold wj
    rw[List.length_take,List.length_drop]
    omega
   have hbl:(zu (wj W s.1 (zs p.2.2.2.2.1 p.2.2.2.2.2.1))).length=8*(zs p.2.2.2.2.1 p.2.2.2.2.2.1).toNat:=by rw[y3,hcl]
   have hB:=Yk (wj W s.1 (zs p.2.2.2.2.1 p.2.2.2.2.2.1)) (by omega)
   have hbf:=jH (e:=p.2.2.2.2.1) (c:=p.2.2.2.2.2.1) (by omega) hp3
   have hT:=Qd (e:=p.2.2.2.2.1) (c:=p.2.2.2.2.2.1) (b:=zu (wj W s.1 (zs p.2.2.2.2.1 p.2.2.2.2.2.1))) (by omega) hp3 (xY _) (by rw[hbl];omega)
   have htl:=zd6 p.2.2.2.2.1 p.2.2.2.2.2.1 (zu (wj W s.1 (zs p.2.2.2.2.1 p.2.2.2.2.2.1)))
   have htb:=WE p.2.2.2.2.1 p.2.2.2.2.2.1 (zu (wj W s.1 (zs p.2.2.2.2.1 p.2.2.2.2.2.1))) (xY _)
   rw[ze (x:=s.1+zs p.2.2.2.2.1 p.2.2.2.2.2.1) (by omega),yt,decide_eq_true (show 0<=s.1 by omega),decide_eq_true (show s.1<=s.1+zs p.2.2.2.2.1 p.2.2.2.2.2.1 by omega),decide_eq_true (show s.1+zs p.2.2.2.2.1 p.2.2.2.2.2.1<=(W.length:Int) by omega),zo2 (by omega) (by omega),show decide ((1:Nat)=1)=true from rfl]
   dsimp only[zr,zc]
   rw[hB]
   dsimp only[zf,zg,zpj,yG]
   rw[hT]
   dsimp only[zf]
   rw[yN]
   dsimp only[zpj]
   have e1:∀ bb tb:List Int,((bs tb++List.replicate (((bs bb).length:Nat):Int).toNat (PV.v (.int .u8 0))).take (((bs bb).length:Nat):Int).toNat).drop 0=bs ((tb++List.replicate bb.length 0).take bb.length):=by
    intro bb tb
    rw[Int.toNat_natCast,List.drop_zero,z5]
    simp[bs]
   have hz:∀ bb:List Int,(List.replicate (((bs bb).length:Nat):Int).toNat (PV.v (.int .u8 0))).length=bb.length:=fun bb=>by rw[List.length_replicate,Int.toNat_natCast,z5]
   rw[decide_eq_true (show 0<=(((bs (zu (wj W s.1 (zs p.2.2.2.2.1 p.2.2.2.2.2.1)))).length:Nat):Int) by omega),decide_eq_true (show (((bs (zu (wj W s.1 (zs p.2.2.2.2.1 p.2.2.2.2.2.1)))).length:Nat):Int)<=140737488355328 by rw[z5,hbl];omega),yQ (by rw[hz,z5,hbl];omega) (by rw[hz,z5,hbl];omega),e1,decide_eq_true (show (((bs (zu (wj W s.1 (zs p.2.2.2.2.1 p.2.2.2.2.2.1)))).length:Nat):Int)<=(((bs (trimB p.2.2.2.2.1 p.2.2.2.2.2.1 (zu (wj W s.1 (zs p.2.2.2.2.1 p.2.2.2.2.2.1))))++List.replicate (((bs (zu (wj W s.1 (zs p.2.2.2.2.1 p.2.2.2.2.2.1)))).length:Nat):Int).toNat (PV.v (.int .u8 0))).length:Nat):Int) by rw[zpk,hz,z5];omega),VH,VH]
   dsimp only[zr,zpj,zc]
   by_cases h3:Z4 p.2.2.2.2.1 p.2.2.2.2.2.1 (zu (wj W s.1 (zs p.2.2.2.2.1 p.2.2.2.2.2.1)))
   ·rw[if_pos h3]
    unfold Z4 at h3
    rw[h3,beq_iff_eq.2 rfl,vq]
    rfl
   ·rw[if_neg h3]
    unfold Z4 at h3
    rw[beq_eq_false_iff_ne.2 (fun e=>h3 (zdH (fun x hx=>?_) (xY _) e)),wv]
    ·exact ⟨(s.1+zs p.2.2.2.2.1 p.2.2.2.2.2.1,s.2-zs p.2.2.2.2.1 p.2.2.2.2.2.1),rfl⟩
    ·rcases List.mem_append.1 (List.mem_of_mem_take hx) with h|h
     ·exact htb x h
     ·rw[List.eq_of_mem_replicate h];unfold zq;omega
 ·rw[if_neg h1] at hO
  rw[hO,if_neg (fun h=>h1 ⟨h.1,h.2.1⟩)]
  exact ⟨s,rfl⟩
def wD (f:Nat->Bool):Nat->Nat->Bool->Bool
 |0,_,b=>b
 |c+1,i,b=>wD f c (i+1) (b||f i)
theorem Xh (f:Nat->Bool):∀ (c i:Nat) (b:Bool),wD f c i b=true↔b=true∨∃ j,i<=j/\j<i+c/\f j=true
 |0,i,b=>⟨fun h=>.inl h,fun h=>h.elim id fun ⟨j,h1,h2,_⟩=>absurd h2 (by omega)⟩
 |c+1,i,b=>by
  rw[wD,Xh f c (i+1)]
  constructor
  ·rintro (h|⟨j,h1,h2,h3⟩)
   ·rcases (Bool.or_eq_true b (f i)).mp h with h|h
    ·exact .inl h
    ·exact .inr ⟨i,Nat.le_refl _,by omega,h⟩
   ·exact .inr ⟨j,by omega,by omega,h3⟩
  ·rintro (h|⟨j,h1,h2,h3⟩)
   ·exact .inl (by rw[h];rfl)
   ·by_cases e:j=i
    ·subst e;exact .inl (by rw[h3];cases b<;>rfl)
    ·exact .inr ⟨j,by omega,by omega,h3⟩
def wi (G:Nat->CS->Option CS):Nat->Nat->CS->Option CS
 |0,_,s=>some s
 |c+1,i,s=>(G i s).bind (wi G c (i+1))
def vg (W:List Int) (st sz dd:Int) (i:Nat):Bool:=wd [W] 0 (st+i*sz+dd-1) != 0
def Vf (F:Int->CS->Option CS) (W:List Int) (t:PT) (c:Int) (s:CS):Option CS :=
 if t.2.2.1+t.2.2.2.1=0 then (if t.2.1<=s.2-(c+1) then some (s.1+(c+1),s.2-(c+1)-t.2.1) else none)
 else if (t.2.2.1=0∨wD (vg W (s.1+1) (t.2.2.1+t.2.2.2.1) t.2.2.1) t.2.1.toNat 0 false=true)/\(t.2.2.2.1=0∨wD (vg W (s.1+1) (t.2.2.1+t.2.2.2.1) (t.2.2.1+t.2.2.2.1)) t.2.1.toNat 0 false=true)
  then wi (fun i=>yE F t.2.2.2.1.toNat (s.1+1+i*(t.2.2.1+t.2.2.2.1)+t.2.2.1)) t.2.1.toNat 0 (s.1+(c+1),s.2-(c+1)) else none
def vw (F:Int->CS->Option CS) (W:List Int) (a:Int) (p:PT) (s:CS):Option CS :=
 if a+1+p.2.1=s.1/\inB [W] 0 s.1 (p.2.2.2.2.2.1+1)/\((zC (wd [W] 0 s.1)).1=0/\0<=(zC (wd [W] 0 s.1)).2.1/\(zC (wd [W] 0 s.1)).2.1*((zC (wd [W] 0 s.1)).2.2.1+(zC (wd [W] 0 s.1)).2.2.2.1)=p.2.2.2.2.2.1)/\p.2.2.2.2.2.1+1<=s.2 then Vf F W (zC (wd [W] 0 s.1)) p.2.2.2.2.2.1 s else none
def Zu (F:Int->CS->Option CS) (W:List Int) (a:Int) (p:PT) (s:CS):Option CS :=
 if p.1=0 then Ze F W a p s else if p.1=1 then (if p.2.2.2.2.1=7 then vw F W a p s else vK F W a p s) else none
def yR (W:List Int):Nat->Int->CS->Option CS
 |0=>fun a s=>if wd [W] 0 a=0 then some s else none
 |D+1=>fun a s=>if wd [W] 0 a=0 then some s else Zu (yR W D) W a (zC (wd [W] 0 a)) s
theorem at_join {W L M:List Int} {p:Nat} (h1:At W p L) (h2:At W (p+L.length) M):At W p (L++M):=by
 obtain ⟨A,C,e,hA⟩:=h1
 obtain ⟨A',C',e',hA'⟩:=h2
 have k1:W.drop (p+L.length)=C:=by rw[e,←hA,←List.append_assoc,←zpk,List.drop_left]
 have k2:W.drop (p+L.length)=M++C':=by rw[e',←hA',List.drop_left]
 exact ⟨A,C',by rw[e,k1.symm.trans k2,List.append_assoc],hA⟩
theorem at_nil {W:List Int} {p:Nat} (h:p<=W.length):At W p []:=⟨W.take p,W.drop p,by rw[zpm,List.take_append_drop],by rw[List.length_take];omega⟩
theorem qx {W:List Int} {a n:Int} (h:0<=a) (h2:0<=n) (h3:a+n<=W.length):inB [W] 0 a n:=⟨Int.le_refl _,by simp,h,h2,by rw[Zk];exact h3⟩
theorem jn {W:List Int} {a n:Int} (h:inB [W] 0 a n):At W a.toNat (cutB [W] 0 a n):=by
 obtain ⟨h1,h2,h3⟩:=Zf h
 unfold cutB
 rw[if_pos h]
 unfold cut
 rw[Zk]
 exact ⟨W.take a.toNat,(W.drop a.toNat).drop n.toNat,by rw[List.take_append_drop,List.take_append_drop],by rw[List.length_take];omega⟩
theorem WT {W:List Int} {a:Int} (h0:0<=a) (h:a<W.length):At W a.toNat [wd [W] 0 a]:=by
 refine ⟨W.take a.toNat,W.drop (a.toNat+1),?_,by rw[List.length_take];omega⟩
 unfold wd rd
 rw[Zk,List.getD_eq_getElem?_getD,List.getElem?_eq_getElem (by omega),Option.getD_some,List.singleton_append,←List.drop_eq_getElem_cons,List.take_append_drop]
theorem ziY {W:List Int} {a n:Int} (h:inB [W] 0 a n) {i:Nat} (hi:i<(cutB [W] 0 a n).length):(cutB [W] 0 a n)[i]=wd [W] 0 (a+i):=by
 obtain ⟨h1,h2,h3⟩:=Zf h
 have hl:i<n.toNat:=Nat.lt_of_lt_of_le hi (vM _ _ _ _)
 unfold wd rd
 simp only[cutB,if_pos h,cut,Zk,List.getElem_take,List.getElem_drop]
 rw[List.getD_eq_getElem?_getD,List.getElem?_eq_getElem (show (a+(i:Int)).toNat<W.length by omega),Option.getD_some]
 congr 1
 omega
theorem zaE {W:List Int} {a n:Int} (h:inB [W] 0 a n):(cutB [W] 0 a n).length=n.toNat:=by
 unfold cutB
 rw[if_pos h,J6 h]
theorem za2 {w:Int} (hw:zG w) (h4:w%4=0):yl (zC w).2.1 (zC w).2.2.1.toNat (zC w).2.2.2.1.toNat=w:=by
 obtain ⟨h1,h2⟩:=hw
 unfold zC
 rw[if_pos h4]
 unfold yl wR
 dsimp only
 split<;>omega
theorem zjp {w:Int} (hw:zG w) (h4:w%4=1):yx (zC w).2.1 (zC w).2.2.2.2.1 (zC w).2.2.2.2.2.1=w:=by
 obtain ⟨h1,h2⟩:=hw
 unfold zC
 rw[if_neg (show ¬w%4=0 by omega),if_pos h4]
 unfold yx wR
 dsimp only
 split<;>omega
theorem zi2:∀ (l:List Int),∃ n,l=y4 l++List.replicate n 0:=by
 intro l
 induction hn:l.length generalizing l with
 |zero=>have:=List.length_eq_zero_iff.1 hn;subst this;exact ⟨0,rfl⟩
 |succ n ih=>
  rcases List.eq_nil_or_concat l with rfl|⟨l',x,rfl⟩
  ·exact ⟨0,rfl⟩
  ·rw[List.concat_eq_append] at hn ⊢
   obtain ⟨m,hm⟩:=ih l' (by simpa using hn)
   have hle:=wB (fun x:Int=>x==0) l'
   unfold y4 at hm ⊢
   rw[xL]
   by_cases h:x=0
   ·rw[if_pos (by simpa using h),List.take_append_of_le_length hle]
    refine ⟨m+1,?_⟩
    rw[List.replicate_succ',←List.append_assoc,←hm,h]
   ·rw[if_neg (by simpa using h),List.take_of_length_le (by simp)]
    exact ⟨0,by simp⟩
theorem zi0 {l:List Int} (h:∀ h:0<l.length,l[l.length-1]≠0):y4 l=l:=by
 rcases List.eq_nil_or_concat l with rfl|⟨l',x,rfl⟩
 ·rfl
 ·rw[List.concat_eq_append] at h ⊢
  have hx:=h (by simp)
  simp at hx
  unfold y4
  rw[xL,if_neg (by simpa using hx),List.take_of_length_le (by simp)]
theorem zmj {l:List Nd} (h:∀ h:0<l.length,l[l.length-1].kind≠0):yc l=l.length:=by
 rcases List.eq_nil_or_concat l with rfl|⟨l',x,rfl⟩
 ·rfl
 ·rw[List.concat_eq_append] at h ⊢
  have hx:=h (by simp)
  simp at hx
  unfold yc
  rw[xL,if_neg (by simpa using hx)]
  simp
theorem JJ (a b:List Int):zu (a++b)=zu a++zu b:=by simp[zu]
theorem jG:∀ n:Nat,zu (List.replicate n 0)=List.replicate (8*n) 0
 |0=>rfl
 |n+1=>by
  rw[List.replicate_succ]
  have e:zu (0::List.replicate n 0)=w8 0++zu (List.replicate n 0):=rfl
  rw[e,jG n,zoE,List.replicate_append_replicate]
  congr 1
  omega
theorem zoZ {u:List Int} (hu:∀ x∈u,zG x):zQ u.length (zu (y4 u))=u:=by
 obtain ⟨n,hn⟩:=zi2 u
 have hle:(y4 u).length<=u.length:=by unfold y4;rw[List.length_take];omega
 refine XJ (Yh _ (xY _)) hu ?_
 rw[ZR _ (xY _) (by rw[y3];omega)]
 have e:zu u=zu (y4 u)++zu (List.replicate n 0):=by rw[←JJ,←hn]
 rw[e,jG]
 congr 2
 have:=congrArg List.length hn
 rw[zpk,List.length_replicate] at this
 rw[y3]
 omega
theorem Qo:∀ D,body D nd0=[]
 |0=>rfl
 |D+1=>by rw[body];exact if_pos rfl
theorem zcU (B:Nd->List Int):∀ (l m:List Nd) (i pos:Nat),yu B i pos (l++m)=yu B i pos l++yu B (i+l.length) (pos+(l.flatMap B).length) m
 |[],m,i,pos=>by simp[yu]
 |x::l,m,i,pos=>by
  rw[List.cons_append,yu,zcU B l m,yu,List.cons_append,List.flatMap_cons,zpk,zpl,show i+1+l.length=i+(l.length+1) by omega,Nat.add_assoc]
theorem zcW (B:Nd->List Int) (hB:B nd0=[]):∀ (n i pos:Nat),yu B i pos (List.replicate n nd0)=List.replicate n 0
 |0,i,pos=>rfl
 |n+1,i,pos=>by
  rw[List.replicate_succ,yu,hB,zcW B hB n,List.replicate_succ]
  rfl
theorem zbp (B:Nd->List Int) (hB:B nd0=[]):∀ (n:Nat),(List.replicate n nd0).flatMap B=[]
 |0=>rfl
 |n+1=>by rw[List.replicate_succ,List.flatMap_cons,hB,zbp B hB n];rfl
theorem zoy {ys:List Nd} (h:∀ y∈ys,VN y):∀ y∈ys.map zk,VN y:=fun y hy=>by
 obtain ⟨z,hz,rfl⟩:=List.mem_map.1 hy
 exact WH z (h z hz)
theorem zkE {B:Nd->List Int} (hB:B nd0=[]) {ys:List Nd} (h:∀ y∈ys,VN y):((ys.map zk).take (yc ys)).length<=ys.length/\((ys.map zk).take (yc ys)).flatMap B=(ys.map zk).flatMap B/\∀ i pos,yu B i pos ((ys.map zk).take (yc ys))++List.replicate (ys.length-((ys.map zk).take (yc ys)).length) 0=yu B i pos (ys.map zk):=by
 obtain ⟨n,hn⟩:=J5 (ys.map zk) (zoy h)
 rw[←yX,KB,yX] at hn
 have hl:=congrArg List.length hn
 rw[zpk,List.length_replicate,List.length_map] at hl
 refine ⟨by omega,?_,fun i pos=>?_⟩
 ·conv=>rhs;rw[hn]
  rw[List.flatMap_append,zbp B hB,List.append_nil]
 ·conv=>rhs;rw[hn]
  rw[zcU,zcW B hB]
  congr 2
  omega
def Lk (W:List Int) (D:Nat) (F:Int->CS->Option CS) (G:Int->Int->Int->Nd×Int×Int):Prop :=
 ∀ (a:Int) (s s':CS),0<=a->a<(W.length:Int)->Rg W s->F a s=some s'->Rg W s'/\∃ y,G s.2 0 a=(y,s'.2,0)/\VN y/\wd [W] 0 a=yA (zk y) (s.1-a-1)/\At W s.1.toNat (body D (zk y))/\s'.1=s.1+((body D (zk y)).length:Int)
section
variable {W:List Int} {D:Nat} {F:Int->CS->Option CS} {G:Int->Int->Int->Nd×Int×Int}
theorem zb8 (L:Lk W D F G) (p:Int) (hp:0<=p):∀ (c i:Nat) (s s':CS) (acc:List Nd),p+i+c<=W.length->Rg W s->yE F c (p+i) s=some s'->
  Rg W s'/\∃ ys,zX (fun m (i:Nat)=>G m 0 (p+i)) c i s.2 acc=(acc++ys,s'.2,0)/\ys.length=c/\(∀ y∈ys,VN y)/\At W s.1.toNat ((ys.map zk).flatMap (body D))/\s'.1=s.1+(((ys.map zk).flatMap (body D)).length:Int)/\(∀ (i0 pos:Nat),(pos:Int)-i0=s.1-(p+i)->At W (p+i).toNat (yu (body D) i0 pos (ys.map zk)))/\(∀ (j:Nat) (h:j<ys.length),ys[j].kind=0->wd [W] 0 (p+i+j)=0):=by
 intro c
 induction c with
 |zero=>
  intro i s s' acc hb hs h
  rw[yE] at h
  cases h
  refine ⟨hs,[],by rw[zX,List.append_nil],rfl,(fun y hy=>by cases hy),at_nil (by have:=hs.1;omega),by simp,fun i0 pos _=>at_nil (by omega),fun j h=>absurd h (by simp)⟩
 |succ c ih=>
  intro i s s' acc hb hs h
  rw[yE] at h
  cases h1:F (p+i) s with
  |none=>rw[h1] at h;cases h
  |some t=>
   rw[h1] at h
   have h:yE F c (p+i+1) t=some s':=h
   obtain ⟨ht,y,e1,v1,p1,a1,n1⟩:=L (p+i) s t (by omega) (by omega) hs h1
   rw[show p+(i:Int)+1=p+((i+1:Nat):Int) by push_cast;omega] at h
   obtain ⟨hr,ys,k1,k2,k3,k4,k5,k6,k7⟩:=ih (i+1) t s' (acc++[y]) (by push_cast;omega) ht h
   have hs1:=hs.1
   have eq:t.1.toNat=s.1.toNat+(body D (zk y)).length:=by omega
   refine ⟨hr,y::ys,?_,by rw[zpl,k2],fun z hz=>(List.mem_cons.1 hz).elim (fun e=>e▸v1) (k3 z),?_,?_,fun i0 pos hq=>?_,fun j hj hz=>?_⟩
   ·rw[zX,e1,if_pos rfl,k1,List.append_assoc,List.singleton_append]
   ·rw[List.map_cons,List.flatMap_cons]
    refine at_join a1 ?_
    rw[←eq]
    exact k4
   ·rw[List.map_cons,List.flatMap_cons,zpk,k5,n1]
    push_cast
    omega
   ·rw[List.map_cons,yu]
    have hw:=WT (W:=W) (a:=p+i) (by omega) (by omega)
    rw[p1,show s.1-(p+(i:Int))-1=(pos:Int)-i0-1 by omega] at hw
    refine at_join (L:=[_]) hw ?_
    have:=k6 (i0+1) (pos+(body D (zk y)).length) (by push_cast;omega)
    rw[show (p+((i+1:Nat):Int)).toNat=(p+i).toNat+1 by push_cast;omega] at this
    exact this
   ·cases j with
    |zero=>
     have hz':y.kind=0:=hz
     rw[show p+(i:Int)+((0:Nat):Int)=p+i by simp,p1]
     unfold yA
     rw[YT,if_pos hz']
    |succ j=>
     have hj':j<ys.length:=by simpa using hj
     have hz':ys[j].kind=0:=by simpa using hz
     have:=k7 j hj' hz'
     rw[show p+((i+1:Nat):Int)+(j:Int)=p+(i:Int)+((j+1:Nat):Int) by push_cast;omega] at this
     exact this
theorem uG (hl:W.length<=1099511627776) (hw:∀ x∈W,zG x) (L:Lk W D F G) {e dd qq:Int} (he:0<=e) (hd:0<=dd) (hq:0<=qq) (hb:e+dd+qq<=W.length) {s s':CS} (hs:Rg W s) (h:yE F qq.toNat (e+dd) s=some s') {o:Ob} (o1:o.seg=0) (o2:o.at_=e) (o3:o.data=dd) (o4:o.ptrs=qq) :
  Rg W s'/\∃ y d ks,zV G [W] s.2 o=(y,s'.2,0)/\zk y=.mk 1 0 0 d ks/\At W s.1.toNat (ks.flatMap (body D))/\s'.1=s.1+((ks.flatMap (body D)).length:Int)/\d.length<=8*dd.toNat/\ks.length<=qq.toNat/\
   (∀ (i0 pos:Nat),(pos:Int)-i0=s.1-e->At W e.toNat (zQ dd.toNat d++(yu (body D) (i0+dd.toNat) pos ks++List.replicate (qq.toNat-ks.length) 0)))/\
   (dd=0∨wd [W] 0 (e+dd-1)≠0->d.length=8*dd.toNat)/\(qq=0∨wd [W] 0 (e+dd+qq-1)≠0->ks.length=qq.toNat):=by
 rw[show e+dd=e+dd+((0:Nat):Int) by simp] at h
 obtain ⟨hr,ys,k1,k2,k3,k4,k5,k6,k7⟩:=zb8 L (e+dd) (by omega) qq.toNat 0 s s' [] (by omega) hs h
 have hin:=qx (W:=W) (a:=e) (n:=dd) he hd (by omega)
 have hcl:=zaE hin
 have hcw:∀ x∈cutB [W] 0 e dd,zG x:=(XS (YF hl hw) 0 e dd).2
 obtain ⟨c1,c2,c3⟩:=zkE (Qo D) k3
 refine ⟨hr,.mk 1 0 0 (zu (cutB [W] 0 e dd)) ys,zu (y4 (cutB [W] 0 e dd)),(ys.map zk).take (yc ys),?_,by rw[uP,uN hcw],?_,?_,?_,?_,fun i0 pos hp=>?_,fun hz=>?_,fun hz=>?_⟩
 ·unfold zV
  rw[o1,o2,o3,o4,k1]
  unfold wt
  dsimp only
  rw[if_pos rfl,zpm]
 ·rw[c2]
  exact k4
 ·rw[c2]
  exact k5
 ·rw[y3]
  have:(y4 (cutB [W] 0 e dd)).length<=(cutB [W] 0 e dd).length:=by unfold y4;rw[List.length_take];omega
  omega
 ·omega
 ·rw[←k2,c3,←hcl,zoZ hcw]
  refine at_join (jn hin) ?_
  rw[hcl]
  have:=k6 (i0+dd.toNat) pos (by push_cast;omega)
  rw[show (e+dd+((0:Nat):Int)).toNat=e.toNat+dd.toNat by push_cast;omega] at this
  exact this
 ·rw[zi0 (fun h0=>?_),y3,hcl]
  rw[ziY hin]
  rcases hz with hz|hz
  ·omega
  ·rw[show e+(((cutB [W] 0 e dd).length-1:Nat):Int)=e+dd-1 by omega]
   exact hz
 ·rw[zmj (fun h0 hk=>?_),List.take_of_length_le (by simp),List.length_map,k2]
  have:=k7 (ys.length-1) (by omega) hk
  rcases hz with hz|hz
  ·omega
  ·rw[show e+dd+((0:Nat):Int)+((ys.length-1:Nat):Int)=e+dd+qq-1 by omega] at this
   exact hz this
end
section
variable {W:List Int} {D:Nat} {F:Int->CS->Option CS} {G:Int->Int->Int->Nd×Int×Int}
theorem zjn (hl:W.length<=1099511627776) (hw:∀ x∈W,zG x) (L:Lk W D F G) {st dd qq:Int} (he:0<=st) (hd:0<=dd) (hq:0<=qq):∀ (c i:Nat) (s s':CS) (acc:List Nd),st+((i:Int)+c)*(dd+qq)<=W.length->Rg W s->wi (fun i=>yE F qq.toNat (st+i*(dd+qq)+dd)) c i s=some s'->
  Rg W s'/\∃ ys,zX (fun m (i:Nat)=>zV G [W] m ⟨1,0,st+i*(dd+qq),dd,qq,0,0,0⟩) c i s.2 acc=(acc++ys,s'.2,0)/\ys.length=c/\At W s.1.toNat ((ys.map zk).flatMap fun k=>k.kids.flatMap (body D))/\s'.1=s.1+(((ys.map zk).flatMap fun k=>k.kids.flatMap (body D)).length:Int)/\(∀ (i0 pos:Nat),(pos:Int)-i0=s.1-(st+i*(dd+qq))->At W (st+i*(dd+qq)).toNat (xk (body D) dd.toNat qq.toNat i0 pos (ys.map zk)))/\(∀ k∈ys.map zk,k.data.length<=8*dd.toNat/\k.kids.length<=qq.toNat)/\(∀ j:Nat,i<=j->j<i+c->wd [W] 0 (st+j*(dd+qq)+dd-1)≠0->∃ k∈ys.map zk,k.data.length=8*dd.toNat)/\(∀ j:Nat,i<=j->j<i+c->wd [W] 0 (st+j*(dd+qq)+dd+qq-1)≠0->∃ k∈ys.map zk,k.kids.length=qq.toNat):=by
 intro c
 induction c with
 |zero=>
  intro i s s' acc hb hs h
  rw[wi] at h
  cases h
  have hm:=Int.mul_nonneg (Int.natCast_nonneg i) (show 0<=dd+qq by omega)
  have hb':st+(i:Int)*(dd+qq)<=W.length:=by simpa using hb
  refine ⟨hs,[],by rw[zX,List.append_nil],rfl,at_nil (by have:=hs.1;omega),by simp,fun i0 pos _=>at_nil (by omega),(fun k hk=>by cases hk),(fun j h1 h2=>absurd h2 (by omega)),fun j h1 h2=>absurd h2 (by omega)⟩
 |succ c ih=>
  intro i s s' acc hb hs h
  have hm:=Int.mul_nonneg (Int.natCast_nonneg i) (show 0<=dd+qq by omega)
  have hm2:=Int.mul_nonneg (Int.natCast_nonneg c) (show 0<=dd+qq by omega)
  have e1:((i:Int)+((c+1:Nat):Int))*(dd+qq)=i*(dd+qq)+(dd+qq)+c*(dd+qq):=by
   push_cast
   rw[Int.add_mul,Int.add_mul,Int.one_mul]
   omega
  have e2:(((i+1:Nat):Int)+(c:Int))*(dd+qq)=i*(dd+qq)+(dd+qq)+c*(dd+qq):=by
   push_cast
   rw[Int.add_mul,Int.add_mul,Int.one_mul]
  have e3:((i+1:Nat):Int)*(dd+qq)=i*(dd+qq)+(dd+qq):=by
   push_cast
   rw[Int.add_mul,Int.one_mul]
  rw[wi] at h
  cases h1:yE F qq.toNat (st+i*(dd+qq)+dd) s with
  |none=>rw[h1] at h;cases h
  |some t=>
   rw[h1] at h
   have h:wi (fun i=>yE F qq.toNat (st+i*(dd+qq)+dd)) c (i+1) t=some s':=h
   obtain ⟨ht,y,d,ks,f1,f2,f3,f4,f5,f6,f7,f8,f9⟩:=uG hl hw L (e:=st+i*(dd+qq)) (by omega) hd hq (by omega) hs h1 (o:=⟨1,0,st+i*(dd+qq),dd,qq,0,0,0⟩) rfl rfl rfl rfl
   obtain ⟨hr,ys,k1,k2,k3,k4,k5,k6,k7,k8⟩:=ih (i+1) t s' (acc++[y]) (by rw[e2];omega) ht h
   have hs1:=hs.1
   have eq:t.1.toNat=s.1.toNat+(ks.flatMap (body D)).length:=by omega
   refine ⟨hr,y::ys,?_,by rw[zpl,k2],?_,?_,fun i0 pos hp=>?_,fun k hk=>?_,fun j j1 j2 hz=>?_,fun j j1 j2 hz=>?_⟩
   ·rw[zX,f1,if_pos rfl,k1,List.append_assoc,List.singleton_append]
   ·rw[List.map_cons,List.flatMap_cons,f2]
    refine at_join (L:=ks.flatMap (body D)) f3 ?_
    rw[←eq]
    exact k3
   ·rw[List.map_cons,List.flatMap_cons,zpk,k4,f4,f2]
    show s.1+_+_=s.1+(((ks.flatMap (body D)).length+_:Nat):Int)
    push_cast
    omega
   ·rw[List.map_cons,f2,xk]
    have hlen:(zQ dd.toNat (Nd.mk 1 0 0 d ks).data++(yu (body D) (i0+dd.toNat) pos (Nd.mk 1 0 0 d ks).kids++List.replicate (qq.toNat-(Nd.mk 1 0 0 d ks).kids.length) 0)).length=dd.toNat+qq.toNat:=by
     rw[zpk,zpk,yM,xA,List.length_replicate]
     show dd.toNat+(ks.length+(qq.toNat-ks.length))=_
     omega
    refine at_join (f7 i0 pos hp) ?_
    rw[hlen]
    have:=k5 (i0+(dd.toNat+qq.toNat)) (pos+vc (body D) ks) (by rw[e3];unfold vc;push_cast;omega)
    rw[e3,show (st+((i:Int)*(dd+qq)+(dd+qq))).toNat=(st+(i:Int)*(dd+qq)).toNat+(dd.toNat+qq.toNat) by omega] at this
    exact this
   ·rw[List.map_cons] at hk
    rcases List.mem_cons.1 hk with rfl|hk
    ·rw[f2];exact ⟨f5,f6⟩
    ·exact k6 k hk
   ·rw[List.map_cons]
    by_cases hj:j=i
    ·subst hj
     exact ⟨_,List.mem_cons_self,by rw[f2];exact f8 (.inr hz)⟩
    ·obtain ⟨k,m1,m2⟩:=k7 j (by omega) (by omega) hz
     exact ⟨k,List.mem_cons_of_mem _ m1,m2⟩
   ·rw[List.map_cons]
    by_cases hj:j=i
    ·subst hj
     exact ⟨_,List.mem_cons_self,by rw[f2];exact f9 (.inr hz)⟩
    ·obtain ⟨k,m1,m2⟩:=k8 j (by omega) (by omega) hz
     exact ⟨k,List.mem_cons_of_mem _ m1,m2⟩
theorem WV (D:Nat) (d:List Int) (ks:List Nd):body (D+1) (.mk 1 0 0 d ks)=(zQ (d.length/8) d++yu (body D) (d.length/8) (d.length/8+ks.length) ks)++ks.flatMap (body D):=by
 rw[body,if_neg (show ¬(Nd.mk 1 0 0 d ks).kind=0 from (by decide:¬(1:Int)=0))]
 unfold xG yn
 rw[if_pos (show (Nd.mk 1 0 0 d ks).kind=1 from rfl),if_neg (show ¬((Nd.mk 1 0 0 d ks).kind=2/\(Nd.mk 1 0 0 d ks).elem=7) from fun h=>absurd (show (1:Int)=2 from h.1) (by decide))]
 rfl
theorem JE (D:Nat) {e n:Int} (h6:e≠6) (h7:e≠7) (d:List Int):body (D+1) (.mk 2 e n d [])=zQ (zs e n).toNat d:=by
 rw[body,if_neg (show ¬(Nd.mk 2 e n d []).kind=0 from (by decide:¬(2:Int)=0))]
 unfold xG yn
 rw[if_neg (show ¬(Nd.mk 2 e n d []).kind=1 from (by decide:¬(2:Int)=1)),if_neg (show ¬(Nd.mk 2 e n d []).elem=7 from h7),if_neg (show ¬(Nd.mk 2 e n d []).elem=6 from h6),if_neg (show ¬((Nd.mk 2 e n d []).kind=2/\(Nd.mk 2 e n d []).elem=7) from fun h=>h7 h.2)]
 exact List.append_nil _
theorem JF (D:Nat) (n:Int) (ks:List Nd):body (D+1) (.mk 2 6 n [] ks)=yu (body D) 0 ks.length ks++ks.flatMap (body D):=by
 rw[body,if_neg (show ¬(Nd.mk 2 6 n [] ks).kind=0 from (by decide:¬(2:Int)=0))]
 unfold xG yn
 rw[if_neg (show ¬(Nd.mk 2 6 n [] ks).kind=1 from (by decide:¬(2:Int)=1)),if_neg (show ¬(Nd.mk 2 6 n [] ks).elem=7 from (by decide:¬(6:Int)=7)),if_pos (show (Nd.mk 2 6 n [] ks).elem=6 from rfl),if_neg (show ¬((Nd.mk 2 6 n [] ks).kind=2/\(Nd.mk 2 6 n [] ks).elem=7) from fun h=>absurd (show (6:Int)=7 from h.2) (by decide))]
 rfl
theorem Qn (D:Nat) (n:Int) (ks:List Nd):body (D+1) (.mk 2 7 n [] ks)=(yl n (zl ks) (zn ks)::xk (body D) (zl ks) (zn ks) 1 (1+ks.length*(zl ks+zn ks)) ks)++ks.flatMap fun k=>k.kids.flatMap (body D):=by
 rw[body,if_neg (show ¬(Nd.mk 2 7 n [] ks).kind=0 from (by decide:¬(2:Int)=0)),←Q5]
 unfold xG yn
 rw[if_neg (show ¬(Nd.mk 2 7 n [] ks).kind=1 from (by decide:¬(2:Int)=1)),if_pos (show (Nd.mk 2 7 n [] ks).elem=7 from rfl),if_pos (show ((Nd.mk 2 7 n [] ks).kind=2/\(Nd.mk 2 7 n [] ks).elem=7) from ⟨rfl,rfl⟩)]
 rfl
theorem zkO (hl:W.length<=1099511627776) (hw:∀ x∈W,zG x) (L:Lk W D F G) {a:Int} (ha:0<=a/\a<W.length) {p:PT} (hp2:0<=p.2.2.1/\p.2.2.1<=65535) (hp3:0<=p.2.2.2.1/\p.2.2.2.1<=65535) {s s':CS} (hs:Rg W s) (h:Ze F W a p s=some s') :
  Rg W s'/\∃ y,xx G [W] s.2 (wL [W] 0 (a+1+p.2.1) p.2.2.1 p.2.2.2.1)=(y,s'.2,0)/\yA (zk y) (s.1-a-1)=yl p.2.1 p.2.2.1.toNat p.2.2.2.1.toNat/\At W s.1.toNat (body (D+1) (zk y))/\s'.1=s.1+((body (D+1) (zk y)).length:Int):=by
 have hs1:=hs.1
 have hs2:=hs.2
 unfold Ze at h
 split at h
 ·rename_i h0
  split at h
  ·rename_i h1
   cases h
   have d0:p.2.2.1=0:=by omega
   have q0:p.2.2.2.1=0:=by omega
   rw[d0,q0,h1,show a+1+-1=a by omega]
   obtain ⟨hr,y,d,ks,f1,f2,f3,f4,f5,f6,f7,f8,f9⟩:=uG hl hw L (e:=a) (dd:=0) (qq:=0) ha.1 (Int.le_refl _) (Int.le_refl _) (by omega) hs (s':=s) rfl (o:=⟨1,0,a,0,0,0,0,0+0⟩) rfl rfl rfl rfl
   obtain rfl:d=[]:=List.length_eq_zero_iff.1 (by have:(0:Int).toNat=0:=rfl;omega)
   obtain rfl:ks=[]:=List.length_eq_zero_iff.1 (by have:(0:Int).toNat=0:=rfl;omega)
   refine ⟨hs,y,?_,?_,?_,?_⟩
   ·unfold wL xx
    rw[if_pos (qx ha.1 (by decide) (by omega))]
    dsimp only
    rw[if_pos rfl,if_neg (by omega),if_pos rfl,show s.2-(0+0)=s.2 by omega]
    exact f1
   ·rw[f2]
    rfl
   ·rw[f2,WV]
    exact at_nil (by omega)
   ·rw[f2,WV]
    simp[zQ,yu]
  ·cases h
 ·rename_i h0
  split at h
  ·rename_i h1
   obtain ⟨g1,g2,g3,g4,g5⟩:=h1
   have hb:=Zf g2
   obtain ⟨hr,y,d,ks,f1,f2,f3,f4,f5,f6,f7,f8,f9⟩:=uG hl hw L (e:=s.1) (dd:=p.2.2.1) (qq:=p.2.2.2.1) (by omega) hp2.1 hp3.1 (by omega) (s:=(s.1+(p.2.2.1+p.2.2.2.1),s.2-(p.2.2.1+p.2.2.2.1))) ⟨by dsimp only;omega,by dsimp only;omega,by dsimp only;omega⟩ h (o:=⟨1,0,s.1,p.2.2.1,p.2.2.2.1,0,0,p.2.2.1+p.2.2.2.1⟩) rfl rfl rfl rfl
   have f8':=f8 g4
   have f9':=f9 g5
   have hd8:d.length/8=p.2.2.1.toNat:=by omega
   dsimp only at f1 f3 f4 f7
   refine ⟨hr,y,?_,?_,?_,?_⟩
   ·rw[g1]
    unfold wL xx
    rw[if_pos g2]
    dsimp only
    rw[if_pos rfl,if_neg (by omega),if_pos rfl]
    exact f1
   ·rw[f2]
    show (if d.length/8=0/\ks.length=0 then yl (-1) 0 0 else yl (s.1-a-1) (d.length/8) ks.length)=_
    rw[if_neg (by omega),hd8,f9',show s.1-a-1=p.2.1 by omega]
   ·rw[f2,WV,hd8]
    have h7:=f7 0 (p.2.2.1.toNat+p.2.2.2.1.toNat) (by push_cast;omega)
    rw[f9',Nat.sub_self,List.replicate_zero,List.append_nil,Nat.zero_add] at h7
    rw[f9']
    refine at_join h7 ?_
    rw[zpk,yM,xA,f9']
    rw[show (s.1+(p.2.2.1+p.2.2.2.1)).toNat=s.1.toNat+(p.2.2.1.toNat+p.2.2.2.1.toNat) by omega] at f3
    exact f3
   ·rw[f2,WV,zpk,zpk,yM,xA,f4]
    push_cast
    omega
  ·cases h
theorem zo0 {e n:Int} {C:List Int} (hC:∀ x∈C,zG x) (hl:(trimB e n (zu C)).length<=8*C.length) (h:Z4 e n (zu C)):zQ C.length (trimB e n (zu C))=C:=by
 refine XJ (Yh _ (WE _ _ _ (xY _))) hC ?_
 rw[ZR _ (WE _ _ _ (xY _)) hl]
 unfold Z4 at h
 rw[List.take_append,List.take_of_length_le (by rw[y3];exact hl),List.take_replicate,y3] at h
 conv=>rhs;rw[←h]
 congr 2
 omega
theorem zkN (hl:W.length<=1099511627776) (hw:∀ x∈W,zG x) (L:Lk W D F G) {a:Int} (ha:0<=a/\a<W.length) {p:PT} (hp2:0<=p.2.2.2.2.1/\p.2.2.2.2.1<=6) (hp3:0<=p.2.2.2.2.2.1/\p.2.2.2.2.2.1<=536870911) {s s':CS} (hs:Rg W s) (h:vK F W a p s=some s') :
  Rg W s'/\∃ y,xx G [W] s.2 (wn [W] 0 (a+1+p.2.1) p.2.2.2.2.1 p.2.2.2.2.2.1)=(y,s'.2,0)/\yA (zk y) (s.1-a-1)=yx p.2.1 p.2.2.2.2.1 p.2.2.2.2.2.1/\At W s.1.toNat (body (D+1) (zk y))/\s'.1=s.1+((body (D+1) (zk y)).length:Int):=by
 have hs1:=hs.1
 have hs2:=hs.2
 have hwr:=Zo (e:=p.2.2.2.2.1) hp3
 generalize he:p.2.2.2.2.1=e at *
 generalize hn:p.2.2.2.2.2.1=n at *
 unfold vK at h
 rw[he,hn] at h
 split at h
 ·rename_i h1
  obtain ⟨g1,g2,g3⟩:=h1
  have hb:=Zf g2
  have hcl:=zaE g2
  rw[g1]
  unfold wn xx
  rw[if_neg (show ¬e=7 by omega),if_pos g2]
  dsimp only
  rw[if_pos rfl,if_neg (by omega),if_neg (by decide)]
  unfold xp
  dsimp only
  split at h
  ·rename_i h6
   subst h6
   have w6:zs 6 n=n:=by unfold zs bitsOf;simp;omega
   rw[w6] at h g2 g3 hb ⊢
   rw[if_neg (by decide)]
   have hs':Rg W (s.1+n,s.2-n):=⟨by dsimp only;omega,by dsimp only;omega,by dsimp only;omega⟩
   rw[show yE F n.toNat s.1 (s.1+n,s.2-n)=yE F n.toNat (s.1+((0:Nat):Int)) (s.1+n,s.2-n) by simp] at h
   obtain ⟨hr,ys,k1,k2,k3,k4,k5,k6,k7⟩:=zb8 L s.1 (by omega) n.toNat 0 (s.1+n,s.2-n) s' [] (by push_cast;omega) hs' h
   dsimp only at k1 k4 k5 k6
   have hf:(fun m (i:Nat)=>if (6:Int)=6 then G m 0 (s.1+i) else zV G [W] m (yh ⟨2,0,s.1,0,0,6,n,n⟩ i))=fun m (i:Nat)=>G m 0 (s.1+i):=by
    funext m i
    rw[if_pos rfl]
   rw[hf,k1]
   unfold wt
   dsimp only
   rw[if_pos rfl,zpm]
   have et:zk (.mk 2 6 n [] ys)=.mk 2 6 n [] (ys.map zk):=by rw[zk,if_neg (by decide),yX]
   refine ⟨hr,_,rfl,?_,?_,?_⟩
   ·rw[et]
    show yx (s.1-a-1) 6 n=_
    rw[show s.1-a-1=p.2.1 by omega]
   ·rw[et,JF]
    have h6:=k6 0 (ys.map zk).length (by rw[List.length_map,k2];push_cast;omega)
    rw[show (s.1+((0:Nat):Int)).toNat=s.1.toNat by simp] at h6
    refine at_join h6 ?_
    rw[xA,List.length_map,k2,←show (s.1+n).toNat=s.1.toNat+n.toNat by omega]
    exact k4
   ·rw[et,JF,zpk,xA,List.length_map,k2,k5]
    push_cast
    omega
  ·rename_i h6
   split at h
   ·rename_i hpd
    cases h
    rw[if_pos (show e<6 by omega)]
    have hcu:wj W s.1 (zs e n)=cutB [W] 0 s.1 (zs e n):=by
     unfold cutB
     rw[if_pos g2]
     rfl
    rw[hcu] at hpd
    have hcw:∀ x∈cutB [W] 0 s.1 (zs e n),zG x:=(XS (YF hl hw) 0 s.1 (zs e n)).2
    have hbf:=jH (e:=e) (c:=n) (by omega) hp3
    have htl:=(zd7 (e:=e) (c:=n) (b:=zu (cutB [W] 0 s.1 (zs e n))) hp3 (by rw[y3];omega)).1
    have hC:=zo0 hcw (by omega) hpd
    have et:zk (.mk 2 e n (trimB e n (zu (cutB [W] 0 s.1 (zs e n)))) [])=.mk 2 e n (trimB e n (zu (cutB [W] 0 s.1 (zs e n)))) []:=by rw[zk,if_neg (by decide)];rfl
    refine ⟨⟨by dsimp only;omega,by dsimp only;omega,by dsimp only;omega⟩,_,rfl,?_,?_,?_⟩
    ·rw[et]
     show (if (2:Int)=0 then 0 else if (2:Int)=1 then _ else if e=7 then _ else yx (s.1-a-1) e n)=_
     rw[if_neg (by decide),if_neg (by decide),if_neg (by omega),show s.1-a-1=p.2.1 by omega]
    ·rw[et,JE D h6 (by omega),←hcl,hC]
     exact jn g2
    ·rw[et,JE D h6 (by omega),yM]
     dsimp only
     omega
   ·cases h
 ·cases h
theorem zkM (hl:W.length<=1099511627776) (hw:∀ x∈W,zG x) (L:Lk W D F G) {a:Int} (ha:0<=a/\a<W.length) {p:PT} (hp3:0<=p.2.2.2.2.2.1/\p.2.2.2.2.2.1<=536870911) {s s':CS} (hs:Rg W s) (h:vw F W a p s=some s') :
  Rg W s'/\∃ y,xx G [W] s.2 (wn [W] 0 (a+1+p.2.1) 7 p.2.2.2.2.2.1)=(y,s'.2,0)/\yA (zk y) (s.1-a-1)=yx p.2.1 7 p.2.2.2.2.2.1/\At W s.1.toNat (body (D+1) (zk y))/\s'.1=s.1+((body (D+1) (zk y)).length:Int):=by
 have hs1:=hs.1
 have hs2:=hs.2
 generalize hn:p.2.2.2.2.2.1=c at *
 unfold vw at h
 rw[hn] at h
 split at h
 ·rename_i h1
  obtain ⟨g1,g2,⟨t1,t2,t3⟩,g3⟩:=h1
  have hb:=Zf g2
  have hww:zG (wd [W] 0 s.1):=we (YF hl hw) 0 s.1
  obtain ⟨-,-,td1,td2,tq1,tq2,-,-,-,-,-,-⟩:=vz hww
  have tn:(zC (wd [W] 0 s.1)).2.1<=536870911:=(vz hww).2.1
  have henc:=za2 hww (by rw[←ZV hww];exact t1)
  have hwat:=WT (W:=W) (a:=s.1) (by omega) (by omega)
  rw[g1]
  unfold wn xx
  rw[if_pos rfl]
  unfold wC
  have hcond:(zC (wd [W] 0 s.1)).1=0/\0<=(zC (wd [W] 0 s.1)).2.1/\(zC (wd [W] 0 s.1)).2.1*((zC (wd [W] 0 s.1)).2.2.1+(zC (wd [W] 0 s.1)).2.2.2.1)<=c:=⟨t1,t2,by omega⟩
  rw[if_pos g2,if_pos hcond]
  clear hcond
  generalize zC (wd [W] 0 s.1)=t at *
  generalize hdd:t.2.2.1=dd at *
  generalize hqq:t.2.2.2.1=qq at *
  generalize hoo:t.2.1=n at *
  rw[←henc] at hwat
  unfold Vf at h
  rw[hdd,hqq,hoo] at h
  dsimp only
  rw[if_pos rfl]
  have key:∀ s2:CS,Rg W s2->s2.1=s.1+(c+1)->wi (fun i=>yE F qq.toNat (s.1+1+i*(dd+qq)+dd)) n.toNat 0 s2=some s'->((dd=0∨wD (vg W (s.1+1) (dd+qq) dd) n.toNat 0 false=true)/\(qq=0∨wD (vg W (s.1+1) (dd+qq) (dd+qq)) n.toNat 0 false=true))->∀ cost,Rg W s'/\∃ y,xp G [W] s2.2 ⟨2,0,s.1+1,dd,qq,7,n,cost⟩=(y,s'.2,0)/\yA (zk y) (s.1-a-1)=yx p.2.1 7 c/\At W s.1.toNat (body (D+1) (zk y))/\s'.1=s.1+((body (D+1) (zk y)).length:Int):=by
   intro s2 hs2 hs21 hE hor cost
   have t3':((0:Nat):Int)+(n.toNat:Int)=n:=by omega
   obtain ⟨hr,ys,k1,k2,k3,k4,k5,k6,k7,k8⟩:=zjn hl hw L (st:=s.1+1) (dd:=dd) (qq:=qq) (by omega) td1 tq1 n.toNat 0 s2 s' [] (by rw[t3',t3];omega) hs2 hE
   have hD:zl (ys.map zk)=dd.toNat:=by
    have hle:zl (ys.map zk)<=dd.toNat:=YU fun x hx=>by have:=(k6 x hx).1;omega
    rcases hor.1 with h0|h0
    ·omega
    ·rcases (Xh _ _ _ _).1 h0 with h0|⟨j,j1,j2,j3⟩
     ·exact absurd h0 (by decide)
     ·unfold vg at j3
      obtain ⟨k,m1,m2⟩:=k7 j j1 j2 (by simpa using j3)
      have:=uR m1
      omega
   have hQ:zn (ys.map zk)=qq.toNat:=by
    have hle:zn (ys.map zk)<=qq.toNat:=YV fun x hx=>(k6 x hx).2
    rcases hor.2 with h0|h0
    ·omega
    ·rcases (Xh _ _ _ _).1 h0 with h0|⟨j,j1,j2,j3⟩
     ·exact absurd h0 (by decide)
     ·unfold vg at j3
      rw[show s.1+1+(j:Int)*(dd+qq)+(dd+qq)-1=s.1+1+(j:Int)*(dd+qq)+dd+qq-1 by omega] at j3
      obtain ⟨k,m1,m2⟩:=k8 j j1 j2 (by simpa using j3)
      have:=YW m1
      omega
   have et:zk (.mk 2 7 n [] ys)=.mk 2 7 n [] (ys.map zk):=by rw[zk,if_neg (by decide),yX]
   have hlen:(((ys.map zk).length*(dd.toNat+qq.toNat):Nat):Int)=c:=by
    rw[List.length_map,k2]
    push_cast
    rw[show ((n.toNat:Nat):Int)=n by omega,show ((dd.toNat:Nat):Int)+(qq.toNat:Int)=dd+qq by omega]
    exact t3
   have hal:=XH (body D) dd.toNat qq.toNat 1 (1+(ys.map zk).length*(dd.toNat+qq.toNat)) (ys.map zk) (fun k hk=>(k6 k hk).2)
   refine ⟨hr,.mk 2 7 n [] ys,?_,?_,?_,?_⟩
   ·unfold xp
    dsimp only
    rw[if_neg (by decide)]
    have hf:(fun m (i:Nat)=>if (7:Int)=6 then G m 0 (s.1+1+i) else zV G [W] m (yh ⟨2,0,s.1+1,dd,qq,7,n,cost⟩ i))=fun m (i:Nat)=>zV G [W] m ⟨1,0,s.1+1+i*(dd+qq),dd,qq,0,0,0⟩:=by
     funext m i
     rw[if_neg (by decide)]
     rfl
    rw[hf,k1]
    unfold wt
    dsimp only
    rw[if_pos rfl,zpm]
   ·rw[et]
    show yx (s.1-a-1) 7 (n*((zl (ys.map zk)+zn (ys.map zk):Nat):Int))=_
    rw[hD,hQ,show s.1-a-1=p.2.1 by omega]
    congr 1
    rw[←hlen,List.length_map,k2]
    push_cast
    rw[show ((n.toNat:Nat):Int)=n by omega]
   ·rw[et,Qn,hD,hQ]
    have h5:=k5 1 (1+(ys.map zk).length*(dd.toNat+qq.toNat)) (by rw[hs21];push_cast at hlen ⊢;omega)
    rw[show (s.1+1+((0:Nat):Int)*(dd+qq)).toNat=s.1.toNat+1 by simp;omega] at h5
    have hwat':At W s.1.toNat [yl n dd.toNat qq.toNat]:=hwat
    refine at_join (at_join (L:=[_]) hwat' h5) ?_
    rw[zpl,hal,show s.1.toNat+((ys.map zk).length*(dd.toNat+qq.toNat)+1)=s2.1.toNat by omega]
    exact k3
   ·rw[et,Qn,hD,hQ,zpk,zpl,hal,k4,hs21]
    push_cast at hlen ⊢
    omega
  split at h
  ·rename_i hz
   split at h
   ·rename_i hz2
    rw[if_pos hz,if_neg (by omega),if_neg (by decide)]
    have dd0:dd=0:=by omega
    have qq0:qq=0:=by omega
    have hE:∀ (k i:Nat) (s2:CS),wi (fun i=>yE F qq.toNat (s.1+1+i*(dd+qq)+dd)) k i s2=some s2:=by
     intro k
     induction k with
     |zero=>intro i s2;rfl
     |succ k ih=>
      intro i s2
      rw[wi,qq0]
      show (some s2).bind _=_
      have:=ih (i+1) s2
      rw[qq0] at this
      exact this
    cases h
    have:=key (s.1+(c+1),s.2-(c+1)-n) ⟨by dsimp only;omega,by dsimp only;omega,by dsimp only;omega⟩ rfl (hE _ _ _) ⟨.inl dd0,.inl qq0⟩ (c+1+n)
    dsimp only at this
    rw[show s.2-(c+1+n)=s.2-(c+1)-n by omega]
    exact this
   ·cases h
  ·rename_i hz
   split at h
   ·rename_i hor
    rw[if_neg hz,if_neg (by omega),if_neg (by decide)]
    have:=key (s.1+(c+1),s.2-(c+1)) ⟨by dsimp only;omega,by dsimp only;omega,by dsimp only;omega⟩ rfl h hor (c+1+0)
    dsimp only at this
    rw[show s.2-(c+1+0)=s.2-(c+1) by omega]
    exact this
   ·cases h
 ·cases h
end
theorem ziC {W:List Int} (hl:W.length<=1099511627776) (hw:∀ x∈W,zG x):∀ D,Lk W D (yR W D) (zH [W] D):=by
 have hS:=YF hl hw
 have hSm:Sm [W]:=by
  intro s
  unfold yq
  rcases Nat.eq_zero_or_pos s.toNat with h0|h0
  ·rw[h0];show (W.length:Int)<=_;omega
  ·rw[List.getD_eq_getElem?_getD,List.getElem?_eq_none (by rw[List.length_singleton];omega)]
   simp
 intro D
 induction D with
 |zero=>
  intro a s s' h0 h1 hs h
  rw[yR] at h
  dsimp only at h
  split at h
  ·rename_i hz
   cases h
   obtain ⟨n,rfl⟩:=Int.eq_ofNat_of_zero_le h0
   have hat:=WT h0 h1
   rw[hz] at hat
   refine ⟨hs,nd0,XT hat 0 s.2,WG,by rw[hz];rfl,at_nil (by have:=hs.1;omega),?_⟩
   show s.1=s.1+0
   omega
  ·cases h
 |succ D L=>
  intro a s s' h0 h1 hs h
  rw[yR] at h
  dsimp only at h
  obtain ⟨n,rfl⟩:=Int.eq_ofNat_of_zero_le h0
  have hat:=WT h0 h1
  rw[Int.toNat_natCast] at hat
  split at h
  ·rename_i hz
   cases h
   rw[hz] at hat
   refine ⟨hs,nd0,XT hat (D+1) s.2,WG,by rw[hz];rfl,?_,?_⟩
   ·rw[YS,Qo];exact at_nil (by have:=hs.1;omega)
   ·rw[YS,Qo];simp
  ·rename_i hz
   have hww:zG (wd [W] 0 (n:Int)):=we hS 0 n
   have hk:=ZV hww
   obtain ⟨p1,p2,p3,p4,p5,p6,p7,p8,p9,p10,p11,p12⟩:=vz hww
   have fin:∀ y,zH [W] (D+1) s.2 0 n=(y,s'.2,0)->VN y:=fun y e=>by
    have:=Vi hS hSm (D+1) s.2 0 n (by rw[e])
    rw[e] at this
    exact this.1
   unfold Zu at h
   split at h
   ·rename_i h4
    have h4':wd [W] 0 (n:Int)%4=0:=by omega
    obtain ⟨hr,y,e1,e2,e3,e4⟩:=zkO hl hw L ⟨h0,h1⟩ ⟨p3,p4⟩ ⟨p5,p6⟩ hs h
    rw[za2 hww h4'] at e2
    have hd:zH [W] (D+1) s.2 0 n=(y,s'.2,0):=by
     rw[Xb hat (by omega) hz]
     unfold wZ
     rw[if_pos h4]
     exact e1
    exact ⟨hr,y,hd,fin y hd,e2.symm,e3,e4⟩
   ·rename_i h4
    split at h
    ·rename_i h5
     have h4':wd [W] 0 (n:Int)%4=1:=by omega
     have hend:=zjp hww h4'
     have hst:∀ m,zH [W] (D+1) m 0 n=xx (zH [W] D) [W] m (wn [W] 0 ((n:Int)+1+(zC (wd [W] 0 (n:Int))).2.1) (zC (wd [W] 0 (n:Int))).2.2.2.2.1 (zC (wd [W] 0 (n:Int))).2.2.2.2.2.1):=fun m=>by
      rw[Xb hat (by omega) hz]
      unfold wZ
      rw[if_neg h4,if_pos h5]
     split at h
     ·rename_i h7
      obtain ⟨hr,y,e1,e2,e3,e4⟩:=zkM hl hw L ⟨h0,h1⟩ ⟨p9,p10⟩ hs h
      rw[←h7,hend] at e2
      have hd:zH [W] (D+1) s.2 0 n=(y,s'.2,0):=by
       rw[hst,h7]
       exact e1
      exact ⟨hr,y,hd,fin y hd,e2.symm,e3,e4⟩
     ·rename_i h7
      obtain ⟨hr,y,e1,e2,e3,e4⟩:=zkN hl hw L ⟨h0,h1⟩ ⟨p7,by omega⟩ ⟨p9,p10⟩ hs h
      rw[hend] at e2
      have hd:zH [W] (D+1) s.2 0 n=(y,s'.2,0):=by
       rw[hst]
       exact e1
      exact ⟨hr,y,hd,fin y hd,e2.symm,e3,e4⟩
    ·cases h
theorem ziD {W:List Int} (hl:W.length<=1099511627776) (hw:∀ x∈W,zG x) (h0:0<W.length) {D:Nat} {m:Int} (hm:0<=m/\m<=1099511627776) {s':CS} (h:yR W D 0 (1,m)=some s') (he:s'.1=W.length):∃ y,zH [W] D m 0 0=(y,s'.2,0)/\yH D (zk y)=W:=by
 obtain ⟨hr,y,e1,e2,e3,e4,e5⟩:=ziC hl hw D 0 (1,m) s' (Int.le_refl _) (by omega) ⟨by dsimp only;omega,hm.1,hm.2⟩ h
 dsimp only at e1 e3 e4 e5
 refine ⟨y,e1,?_⟩
 unfold yH
 have hat:=WT (W:=W) (a:=0) (Int.le_refl _) (by omega)
 rw[e3,show (1:Int)-0-1=0 from rfl] at hat
 obtain ⟨A,C,hA,hA0⟩:=at_join (L:=[_]) hat (M:=body D (zk y)) e4
 obtain rfl:A=[]:=List.length_eq_zero_iff.1 hA0
 have hlen:=congrArg List.length hA
 simp only[zpm,zpk,zpl,List.length_nil] at hlen
 obtain rfl:C=[]:=List.length_eq_zero_iff.1 (by omega)
 rw[zpm,List.append_nil] at hA
 exact hA.symm
theorem zax {F:Int->CS->Option CS}:∀ (c1 c2:Nat) (a:Int) (s s':CS),yE F c1 a s=some s'->yE F (c1+c2) a s=yE F c2 (a+c1) s'
 |0,c2,a,s,s',h=>by
  rw[yE] at h
  cases h
  rw[Nat.zero_add,show a+((0:Nat):Int)=a by simp]
 |c1+1,c2,a,s,s',h=>by
  rw[yE] at h
  rw[show c1+1+c2=(c1+c2)+1 by omega,yE]
  cases h1:F a s with
  |none=>rw[h1] at h;cases h
  |some t=>
   rw[h1] at h
   have:=zax c1 c2 (a+1) t s' h
   rw[show a+1+(c1:Int)=a+((c1+1:Nat):Int) by push_cast;omega] at this
   exact this
structure Ct (W:List Int) (F:Int->CS->Option CS) (B:Nd->List Int) (c:Nd->Int) (Q:Nd->Prop):Prop where
 one:∀ (t:Nd) (a q:Nat) (m:Int),Q t->At W q (B t)->At W a [yA t ((q:Int)-a-1)]->c t<=m->F a ((q:Int),m)=some (((q+(B t).length:Nat):Int),m-c t)
 null:∀ (a:Nat) (s:CS),At W a [0]->F a s=some s
 nn:∀ t,Q t->0<=c t
section
variable {W:List Int} {F:Int->CS->Option CS} {B:Nd->List Int} {c:Nd->Int} {Q:Nd->Prop}
theorem VR (R:Ct W F B c Q) {ks:List Nd} (h:∀ t∈ks,Q t):0<=zo (ks.map c):=xZ fun y hy=>by
 obtain ⟨t,ht,rfl⟩:=List.mem_map.1 hy
 exact R.nn t (h t ht)
theorem J2 (R:Ct W F B c Q) (p:Nat):∀ (ks:List Nd) (i0 pos:Nat) (m:Int),(∀ t∈ks,Q t)->At W (p+i0) (yu B i0 pos ks)->At W (p+pos) (ks.flatMap B)->zo (ks.map c)<=m->
  yE F ks.length ((p+i0:Nat):Int) (((p+pos:Nat):Int),m)=some (((p+pos+(ks.flatMap B).length:Nat):Int),m-zo (ks.map c))
 |[],i0,pos,m,hQ,h1,h2,hm=>by
  rw[List.length_nil,yE,List.map_nil,xX,List.flatMap_nil,List.length_nil,Nat.add_zero,Int.sub_zero]
 |t::r,i0,pos,m,hQ,h1,h2,hm=>by
  rw[yu] at h1
  obtain ⟨_,_,h1t⟩:=h1.cons
  rw[List.flatMap_cons] at h2
  obtain ⟨h2h,h2t⟩:=h2.app
  rw[List.map_cons,xI] at hm
  have hr:=VR R fun x hx=>hQ x (List.mem_cons_of_mem _ hx)
  have hone:=R.one t (p+i0) (p+pos) m (hQ t List.mem_cons_self) h2h (by
   rw[show ((p+pos:Nat):Int)-((p+i0:Nat):Int)-1=(pos:Int)-i0-1 by omega]
   exact h1.head) (by omega)
  have ih:=J2 R p r (i0+1) (pos+(B t).length) (m-c t) (fun x hx=>hQ x (List.mem_cons_of_mem _ hx)) (by rw[←Nat.add_assoc];exact h1t) (by rw[←Nat.add_assoc];exact h2t) (by omega)
  rw[zpl,yE,hone]
  show yE F r.length (((p+i0:Nat):Int)+1) _=_
  rw[show ((p+i0:Nat):Int)+1=((p+(i0+1):Nat):Int) by push_cast;omega,Nat.add_assoc p pos,ih,List.map_cons,xI,List.flatMap_cons,zpk,show m-c t-zo (r.map c)=m-(c t+zo (r.map c)) by omega]
  congr 2
  congr 1
  omega
theorem zay (R:Ct W F B c Q):∀ (z a:Nat) (s:CS),At W a (List.replicate z 0)->yE F z a s=some s
 |0,a,s,h=>rfl
 |z+1,a,s,h=>by
  rw[List.replicate_succ] at h
  obtain ⟨_,_,ht⟩:=h.cons
  rw[yE,R.null a s h.head]
  show yE F z ((a:Int)+1) s=_
  rw[show (a:Int)+1=((a+1:Nat):Int) by push_cast;rfl]
  exact zay R z (a+1) s ht
theorem zaz (R:Ct W F B c Q) (p:Nat) {ks:List Nd} {a b i0 pos:Nat} {L:List Int} (hL:L.length=a) (hb:ks.length<=b) (hQ:∀ t∈ks,Q t) {m:Int}
  (h1:At W (p+i0) (L++(yu B (i0+a) pos ks++List.replicate (b-ks.length) 0))) (h2:At W (p+pos) (ks.flatMap B)) (hm:zo (ks.map c)<=m) :
  yE F b ((p+i0+a:Nat):Int) (((p+pos:Nat):Int),m)=some (((p+pos+(ks.flatMap B).length:Nat):Int),m-zo (ks.map c)):=by
 obtain ⟨_,hp⟩:=h1.app
 rw[hL] at hp
 obtain ⟨hp1,hp2⟩:=hp.app
 rw[xA] at hp2
 have k1:=J2 R p ks (i0+a) pos m hQ (by rw[←Nat.add_assoc];exact hp1) h2 hm
 have k2:=zax _ (b-ks.length) _ _ _ k1
 rw[show ks.length+(b-ks.length)=b by omega,show ((p+(i0+a):Nat):Int)+(ks.length:Int)=((p+i0+a+ks.length:Nat):Int) by push_cast;omega,zay R _ _ _ hp2] at k2
 rw[Nat.add_assoc p i0 a]
 exact k2
theorem zaw (R:Ct W F B c Q) (p a b:Nat):∀ (ks:List Nd) (i0 pos c0:Nat) (m:Int) (H:Nat->CS->Option CS),(∀ (j:Nat),H (c0+j)=yE F b ((p+i0+j*(a+b)+a:Nat):Int))->(∀ k∈ks,k.kids.length<=b/\∀ t∈k.kids,Q t)->
  At W (p+i0) (xk B a b i0 pos ks)->At W (p+pos) (ks.flatMap fun k=>k.kids.flatMap B)->zo (ks.map fun k=>zo (k.kids.map c))<=m->
  wi H ks.length c0 (((p+pos:Nat):Int),m)=some (((p+pos+(ks.flatMap fun k=>k.kids.flatMap B).length:Nat):Int),m-zo (ks.map fun k=>zo (k.kids.map c)))
 |[],i0,pos,c0,m,H,hH,hQ,h1,h2,hm=>by
  rw[List.length_nil,wi,List.map_nil,xX,List.flatMap_nil,List.length_nil,Nat.add_zero,Int.sub_zero]
 |k::r,i0,pos,c0,m,H,hH,hQ,h1,h2,hm=>by
  rw[xk] at h1
  obtain ⟨h1h,h1t⟩:=h1.app
  rw[List.flatMap_cons] at h2
  obtain ⟨h2h,h2t⟩:=h2.app
  rw[List.map_cons,xI] at hm
  obtain ⟨hkb,hkQ⟩:=hQ k List.mem_cons_self
  have hr:0<=zo (r.map fun k=>zo (k.kids.map c)):=xZ fun y hy=>by
   obtain ⟨t,ht,rfl⟩:=List.mem_map.1 hy
   exact VR R (hQ t (List.mem_cons_of_mem _ ht)).2
  have hone:=zaz R p (L:=zQ a k.data) (yM _ _) hkb hkQ (m:=m) h1h h2h (by omega)
  have hlen:(zQ a k.data++(yu B (i0+a) pos k.kids++List.replicate (b-k.kids.length) 0)).length=a+b:=by
   rw[zpk,zpk,yM,xA,List.length_replicate]
   omega
  rw[hlen] at h1t
  have ih:=zaw R p a b r (i0+(a+b)) (pos+vc B k.kids) (c0+1) (m-zo (k.kids.map c)) H (fun j=>by
   rw[Nat.add_assoc,Nat.add_comm 1 j,hH (j+1)]
   congr 2
   rw[Nat.add_mul,Nat.one_mul]
   omega) (fun x hx=>hQ x (List.mem_cons_of_mem _ hx)) (by rw[←Nat.add_assoc];exact h1t) (by rw[←Nat.add_assoc];exact h2t) (by omega)
  have h0:=hH 0
  rw[Nat.add_zero,Nat.zero_mul,Nat.add_zero] at h0
  rw[zpl,wi,h0,hone]
  show wi H r.length (c0+1) _=_
  have e:p+pos+(k.kids.flatMap B).length=p+(pos+vc B k.kids):=by unfold vc;omega
  rw[e,ih,List.map_cons,xI,List.flatMap_cons,zpk,show m-zo (k.kids.map c)-zo (r.map fun k=>zo (k.kids.map c))=m-(zo (k.kids.map c)+zo (r.map fun k=>zo (k.kids.map c))) by omega]
  congr 2
  congr 1
  unfold vc
  omega
end
theorem zmh {t:Nd} (hv:VN t) (h0:t.kind≠0) (off:Int):yA t off≠0:=by
 have hm:=Int.emod_nonneg off (show (1073741824:Int)≠0 by decide)
 have hm2:=Int.emod_nonneg (-1) (show (1073741824:Int)≠0 by decide)
 obtain ⟨hs,_⟩:=wU hv
 unfold yA
 rw[if_neg h0]
 split
 ·split
  ·decide
  ·unfold yl
   omega
 ·rename_i h1
  have hs2:=(hs.resolve_left (fun h=>h0 h.1)).resolve_left (fun h=>h1 h.1)
  obtain ⟨_,hn,he,_⟩:=hs2
  split
  ·have:=Int.mul_nonneg hn.1 (Int.natCast_nonneg (ZJ t))
   unfold yx
   omega
  ·unfold yx
   omega
theorem zkF {d:List Int} (hb:∀ x∈d,zq x) (h8:8*yg d=d.length) (h0:0<d.length/8):(zQ (d.length/8) d)[d.length/8-1]'(by rw[yM];omega)≠0:=by
 have e:=ZR (d.length/8) hb (by omega)
 rw[show 8*(d.length/8)-d.length=0 by omega,List.replicate_zero,List.append_nil] at e
 have hw:=zew (zQ (d.length/8) d) (Yh _ hb)
 rw[e] at hw
 have key:∀ u:List Int,u.length=d.length/8->yg d=yV (·==0) u->∀ h,u[d.length/8-1]'h=0->False:=by
  intro u hl hw h hz
  rcases List.eq_nil_or_concat u with rfl|⟨u',x,rfl⟩
  ·simp at hl;omega
  ·simp only[List.concat_eq_append] at hl hw hz
   rw[zpk,List.length_singleton] at hl
   have hx:x=0:=by
    have e2:d.length/8-1=u'.length:=by omega
    simp only[e2] at hz
    simpa using hz
   rw[xL,if_pos (by simpa using hx)] at hw
   have:=wB (·==0) u'
   omega
 exact fun hz=>key _ (yM _ _) hw _ hz
theorem jo {W L:List Int} {p:Nat} (h:At W p L) {i:Nat} (hi:i<L.length):wd [W] 0 ((p:Int)+i)=L[i]:=by
 obtain ⟨A,C,rfl,rfl⟩:=h
 unfold wd rd
 rw[Zk,List.getD_eq_getElem?_getD,show ((A.length:Int)+(i:Int)).toNat=A.length+i by omega,List.getElem?_append_right (by omega),show A.length+i-A.length=i by omega,List.getElem?_append_left hi,List.getElem?_eq_getElem hi]
 rfl
theorem zcV (B:Nd->List Int):∀ (l:List Nd) (i pos j:Nat) (h:j<l.length),∃ off,(yu B i pos l)[j]'(by rw[xA];exact h)=yA l[j] off
 |t::r,i,pos,0,h=>⟨_,rfl⟩
 |t::r,i,pos,j+1,h=>by
  obtain ⟨off,e⟩:=zcV B r (i+1) (pos+(B t).length) j (by simpa using h)
  exact ⟨off,e⟩
theorem zmk {l:List Nd} (h:yc l=l.length) (h0:0<l.length):l[l.length-1].kind≠0:=by
 rcases List.eq_nil_or_concat l with rfl|⟨u,x,rfl⟩
 ·simp at h0
 ·simp only[List.concat_eq_append] at *
  intro hk
  have hk':x.kind=0:=by simpa using hk
  unfold yc at h
  rw[xL,if_pos (by simpa using hk')] at h
  have:=wB (fun x:Nd=>x.kind==0) u
  simp at h
  omega
theorem zdD {W:List Int} {B:Nd->List Int} {p i0 pos a b:Nat} {d:List Int} {ks:List Nd} (hb:∀ x∈d,zq x) (h8:8*yg d=d.length) (hq:yc ks=ks.length) (hv:∀ t∈ks,VN t)
  (h:At W (p+i0) (zQ a d++(yu B (i0+a) pos ks++List.replicate (b-ks.length) 0))) :
  (0<a->d.length/8=a->wd [W] 0 (((p+i0:Nat):Int)+a-1)≠0)/\(0<b->ks.length=b->wd [W] 0 (((p+i0:Nat):Int)+a+b-1)≠0):=by
 obtain ⟨h1,h3⟩:=h.app
 obtain ⟨h2,_⟩:=h3.app
 rw[yM] at h2
 clear h h3
 refine ⟨fun ha e=>?_,fun ha e=>?_⟩
 ·subst e
  have:=jo h1 (i:=d.length/8-1) (by rw[yM];omega)
  rw[show ((p+i0:Nat):Int)+((d.length/8:Nat):Int)-1=((p+i0:Nat):Int)+((d.length/8-1:Nat):Int) by omega,this]
  exact zkF hb h8 ha
 ·subst e
  have:=jo h2 (i:=ks.length-1) (by rw[xA];omega)
  obtain ⟨off,e2⟩:=zcV B ks (i0+a) pos (ks.length-1) (by omega)
  rw[show ((p+i0:Nat):Int)+(a:Int)+(ks.length:Int)-1=((p+i0+a:Nat):Int)+((ks.length-1:Nat):Int) by push_cast;omega,this,e2]
  exact zmh (hv _ (List.getElem_mem _)) (zmk hq (by omega)) off
theorem zeg:∀ {l:List Nd},0<zl l->∃ k∈l,k.data.length/8=zl l
 |[],h=>absurd h (by decide)
 |x::l,h=>by
  have e:zl (x::l)=max (x.data.length/8) (zl l):=rfl
  by_cases hc:zl l<=x.data.length/8
  ·exact ⟨x,List.mem_cons_self,by omega⟩
  ·obtain ⟨k,hk,he⟩:=zeg (l:=l) (by omega)
   exact ⟨k,List.mem_cons_of_mem _ hk,by omega⟩
theorem zeh:∀ {l:List Nd},0<zn l->∃ k∈l,k.kids.length=zn l
 |[],h=>absurd h (by decide)
 |x::l,h=>by
  have e:zn (x::l)=max x.kids.length (zn l):=rfl
  by_cases hc:zn l<=x.kids.length
  ·exact ⟨x,List.mem_cons_self,by omega⟩
  ·obtain ⟨k,hk,he⟩:=zeh (l:=l) (by omega)
   exact ⟨k,List.mem_cons_of_mem _ hk,by omega⟩
theorem jm {W:List Int} {B:Nd->List Int} {p a b:Nat}:∀ (ks:List Nd) (i0 pos:Nat),(∀ k∈ks,k.kids.length<=b)->At W (p+i0) (xk B a b i0 pos ks)->∀ k∈ks,∃ j pos',j<ks.length/\At W (p+(i0+j*(a+b))) (zQ a k.data++(yu B (i0+j*(a+b)+a) pos' k.kids++List.replicate (b-k.kids.length) 0))
 |[],i0,pos,hb,h,k,hk=>by cases hk
 |x::r,i0,pos,hb,h,k,hk=>by
  rw[xk] at h
  obtain ⟨h1,h2⟩:=h.app
  rcases List.mem_cons.1 hk with rfl|hk
  ·exact ⟨0,pos,by simp,by rw[Nat.zero_mul,Nat.add_zero];exact h1⟩
  ·have hlen:(zQ a x.data++(yu B (i0+a) pos x.kids++List.replicate (b-x.kids.length) 0)).length=a+b:=by
    have:=hb x List.mem_cons_self
    rw[zpk,zpk,yM,xA,List.length_replicate]
    omega
   rw[hlen,Nat.add_assoc] at h2
   obtain ⟨j,pos',j1,j2⟩:=jm r (i0+(a+b)) _ (fun k hk=>hb k (List.mem_cons_of_mem _ hk)) h2 k hk
   refine ⟨j+1,pos',by simp;omega,?_⟩
   rw[show i0+(a+b)+j*(a+b)=i0+(j+1)*(a+b) by rw[Nat.add_mul,Nat.one_mul];omega] at j2
   exact j2
theorem Ve {W:List Int} {w:Int} {a:Nat} (h:At W a [w]) (h0:w≠0) (D:Nat) (s:CS):yR W (D+1) a s=Zu (yR W D) W a (zC w) s:=by
 rw[yR]
 dsimp only
 obtain ⟨h1,_⟩:=h.cons
 rw[h1,if_neg h0]
theorem QL {W:List Int} {a:Nat} (h:At W a [0]) (D:Nat) (s:CS):yR W D a s=some s:=by
 obtain ⟨h1,_⟩:=h.cons
 cases D with
 |zero=>rw[yR];dsimp only;rw[h1,if_pos rfl]
 |succ D=>rw[yR];dsimp only;rw[h1,if_pos rfl]
theorem zix {W:List Int} (hW:W.length<=268435456) {D:Nat} (R:Ct W (yR W D) (body D) (zW D) (Ok D)) {d:List Int} {ks:List Nd} (h8:8*yg d=d.length) (hq:yc ks=ks.length) (hb:∀ x∈d,zq x) (hd8:d.length%8=0) (hd:d.length<=524280) (hk:ks.length<=65535) (hQ:∀ t∈ks,Ok D t) {p a:Nat} {m:Int}
  (h1:At W p (body (D+1) (.mk 1 0 0 d ks))) (h2:At W a [yA (.mk 1 0 0 d ks) ((p:Int)-a-1)]) (hm:((d.length/8+ks.length:Nat):Int)+zo (ks.map (zW D))<=m) :
  yR W (D+1) a ((p:Int),m)=some (((p+(body (D+1) (.mk 1 0 0 d ks)).length:Nat):Int),m-(((d.length/8+ks.length:Nat):Int)+zo (ks.map (zW D)))):=by
 have hp:=h1.len
 have ha:=h2.len
 have e1:yA (.mk 1 0 0 d ks) ((p:Int)-a-1)=if d.length/8=0/\ks.length=0 then yl (-1) 0 0 else yl ((p:Int)-a-1) (d.length/8) ks.length:=rfl
 have hsn:=VR R hQ
 rw[e1] at h2
 rw[WV] at h1 hp ⊢
 simp only[List.length_singleton] at ha
 by_cases hz:d.length/8=0/\ks.length=0
 ·rw[if_pos hz] at h2
  obtain rfl:d=[]:=List.length_eq_zero_iff.1 (by omega)
  obtain rfl:ks=[]:=List.length_eq_zero_iff.1 hz.2
  obtain ⟨q1,q2,q3⟩:=Y9 (off:=-1) (d:=0) (q:=0) (by decide) (by decide) (by decide)
  rw[Ve h2 (by decide),q1]
  unfold Zu Ze
  dsimp only
  rw[if_pos rfl,if_pos (by decide),if_pos rfl]
  simp[zQ,yu,xX]
 ·rw[if_neg hz] at h2
  obtain ⟨q1,q2,q3⟩:=Y9 (off:=(p:Int)-a-1) (d:=d.length/8) (q:=ks.length) (by omega) (by omega) hk
  have hne:yl ((p:Int)-a-1) (d.length/8) ks.length≠0:=by
   unfold yl
   have:=Int.emod_nonneg ((p:Int)-a-1) (show (1073741824:Int)≠0 by decide)
   omega
  have hlen:(zQ (d.length/8) d++yu (body D) (d.length/8) (d.length/8+ks.length) ks).length=d.length/8+ks.length:=by rw[zpk,yM,xA]
  rw[zpk,hlen] at hp
  obtain ⟨h1a,h1b⟩:=h1.app
  rw[hlen] at h1b
  have h1c:At W (p+0) (zQ (d.length/8) d++(yu (body D) (0+d.length/8) (d.length/8+ks.length) ks++List.replicate (ks.length-ks.length) 0)):=by
   rw[Nat.sub_self,List.replicate_zero,List.append_nil,Nat.zero_add,Nat.add_zero]
   exact h1a
  have hst:=zaz R p (yM (d.length/8) d) (Nat.le_refl ks.length) hQ (m:=m-(((d.length/8:Nat):Int)+(ks.length:Int))) h1c h1b (by push_cast at hm;omega)
  obtain ⟨l1,l2⟩:=zdD hb h8 hq (fun t ht=>(hQ t ht).vn) h1c
  have l1':((d.length/8:Nat):Int)=0∨wd [W] 0 ((p:Int)+((d.length/8:Nat):Int)-1)≠0:=by
   by_cases h0:d.length/8=0
   ·exact .inl (by omega)
   ·have:=l1 (by omega) rfl
    rw[Nat.add_zero] at this
    exact .inr this
  have l2':((ks.length:Nat):Int)=0∨wd [W] 0 ((p:Int)+((d.length/8:Nat):Int)+(ks.length:Int)-1)≠0:=by
   by_cases h0:ks.length=0
   ·exact .inl (by omega)
   ·have:=l2 (by omega) rfl
    rw[Nat.add_zero] at this
    exact .inr this
  rw[Ve h2 hne,q1]
  unfold Zu Ze
  dsimp only
  rw[if_pos rfl,if_neg (by omega),if_pos ⟨by omega,h1a.inB (by rw[hlen];push_cast;rfl),by push_cast at hm;omega,l1',l2'⟩,Int.toNat_natCast]
  ·rw[zpk,hlen]
   rw[Nat.add_zero] at hst
   rw[show (p:Int)+((d.length/8:Nat):Int)=((p+d.length/8:Nat):Int) by push_cast;rfl,show (p:Int)+(((d.length/8:Nat):Int)+(ks.length:Int))=((p+(d.length/8+ks.length):Nat):Int) by push_cast;rfl,hst]
   congr 2
   ·congr 1
    omega
   ·push_cast
    omega
theorem ziv {W:List Int} (hW:W.length<=268435456) {D:Nat} {e n:Int} {d:List Int} (he:0<=e/\e<6) (hn:0<=n/\n<=536870911) (hl:(d.length:Int)=zS e n) (ht:trimB e n d=d) (hb:∀ x∈d,zq x) {p a:Nat} {m:Int}
  (h1:At W p (body (D+1) (.mk 2 e n d []))) (h2:At W a [yA (.mk 2 e n d []) ((p:Int)-a-1)]) (hm:zs e n<=m) :
  yR W (D+1) a ((p:Int),m)=some (((p+(body (D+1) (.mk 2 e n d [])).length:Nat):Int),m-zs e n):=by
 have hp:=h1.len
 have ha:=h2.len
 have e1:yA (.mk 2 e n d []) ((p:Int)-a-1)=yx ((p:Int)-a-1) e n:=by
  unfold yA
  show (if (2:Int)=0 then 0 else if (2:Int)=1 then _ else if e=7 then _ else yx ((p:Int)-a-1) e n)=_
  rw[if_neg (by decide),if_neg (by decide),if_neg (by omega)]
 rw[e1] at h2
 rw[JE D (by omega) (by omega)] at h1 hp ⊢
 have hw:=Zo (e:=e) hn
 simp only[List.length_singleton] at ha
 rw[yM] at hp
 obtain ⟨q1,q2,q3⟩:=Y8 (off:=(p:Int)-a-1) (e:=e) (c:=n) (by omega) (by omega) hn
 have hne:yx ((p:Int)-a-1) e n≠0:=by omega
 have hin:=h1.inB (n:=zs e n) (by rw[yM];omega)
 have hcu:wj W p (zs e n)=zQ (zs e n).toNat d:=by
  rw[←h1.cutB (n:=zs e n) (by rw[yM];omega)]
  unfold cutB
  rw[if_pos hin]
  rfl
 have hbw:=JL he hn
 rw[Ve h2 hne,q1]
 unfold Zu vK
 dsimp only
 rw[if_neg (by decide),if_pos rfl,if_neg (by omega),if_pos ⟨by omega,hin,hm⟩,if_neg (by omega),if_pos ?_,yM]
 ·congr 2
  push_cast
  omega
 ·rw[hcu,ZR _ hb (by omega)]
  unfold Z4
  rw[zd8 hn.1 hl,ht,zpk,List.length_replicate,List.take_append,List.take_of_length_le (by omega),List.take_replicate]
  congr 2
  omega
theorem ziw {W:List Int} (hW:W.length<=268435456) {D:Nat} (R:Ct W (yR W D) (body D) (zW D) (Ok D)) {n:Int} {ks:List Nd} (hn:0<=n/\n<=536870911) (hk:(ks.length:Int)=n) (hQ:∀ t∈ks,Ok D t) {p a:Nat} {m:Int}
  (h1:At W p (body (D+1) (.mk 2 6 n [] ks))) (h2:At W a [yA (.mk 2 6 n [] ks) ((p:Int)-a-1)]) (hm:zs 6 n+zo (ks.map (zW D))<=m) :
  yR W (D+1) a ((p:Int),m)=some (((p+(body (D+1) (.mk 2 6 n [] ks)).length:Nat):Int),m-(zs 6 n+zo (ks.map (zW D)))):=by
 have hp:=h1.len
 have ha:=h2.len
 have e1:yA (.mk 2 6 n [] ks) ((p:Int)-a-1)=yx ((p:Int)-a-1) 6 n:=rfl
 rw[e1] at h2
 rw[JF] at h1 hp ⊢
 have hw:zs 6 n=n:=by unfold zs bitsOf;simp;omega
 have hsn:=VR R hQ
 simp only[List.length_singleton] at ha
 rw[zpk,xA] at hp
 obtain ⟨q1,q2,q3⟩:=Y8 (off:=(p:Int)-a-1) (e:=6) (c:=n) (by omega) (by omega) hn
 have hne:yx ((p:Int)-a-1) 6 n≠0:=by omega
 obtain ⟨h1a,h1b⟩:=h1.app
 rw[xA] at h1b
 have hin:=h1a.inB (n:=zs 6 n) (by rw[xA];omega)
 have hct:=J2 R p ks 0 ks.length (m-n) hQ h1a h1b (by omega)
 rw[Nat.add_zero] at hct
 rw[Ve h2 hne,q1]
 unfold Zu vK
 dsimp only
 rw[if_neg (by decide),if_pos rfl,if_neg (by decide),if_pos ⟨by omega,hin,by omega⟩,if_pos rfl,hw,show n.toNat=ks.length by omega,show (p:Int)+n=((p+ks.length:Nat):Int) by push_cast;omega,hct,zpk,xA]
 congr 2
 ·congr 1
  omega
 ·omega
theorem ziu {W:List Int} (hW:W.length<=268435456) {D:Nat} (R:Ct W (yR W D) (body D) (zW D) (Ok D)) {n:Int} {ks:List Nd} (hn:0<=n/\n<=536870911) (hk:(ks.length:Int)=n)
  (hs:∀ k∈ks,∃ d q,k=.mk 1 0 0 d q/\8*yg d=d.length/\yc q=q.length/\(∀ x∈d,zq x)/\d.length%8=0/\d.length<=524280/\q.length<=65535) (hQ:∀ t∈ks.flatMap Nd.kids,Ok D t) {p a:Nat} {m:Int}
  (h1:At W p (body (D+1) (.mk 2 7 n [] ks))) (h2:At W a [yA (.mk 2 7 n [] ks) ((p:Int)-a-1)]) (hm:xV (.mk 2 7 n [] ks)+zo ((ks.flatMap Nd.kids).map (zW D))<=m) :
  yR W (D+1) a ((p:Int),m)=some (((p+(body (D+1) (.mk 2 7 n [] ks)).length:Nat):Int),m-(xV (.mk 2 7 n [] ks)+zo ((ks.flatMap Nd.kids).map (zW D)))):=by
 have hp:=h1.len
 have ha:=h2.len
 have e1:yA (.mk 2 7 n [] ks) ((p:Int)-a-1)=yx ((p:Int)-a-1) 7 (n*((zl ks+zn ks:Nat):Int)):=rfl
 have e3:xV (.mk 2 7 n [] ks)=1+n*((zl ks+zn ks:Nat):Int)+(if zl ks+zn ks=0 then n else 0):=by
  show (1+n*((zl ks+zn ks:Nat):Int))+(if (2:Int)=2/\(7:Int)=7/\zl ks+zn ks=0 then n else 0)=_
  simp only[true_and]
 have hqm:∀ k∈ks,k.kids.length<=zn ks:=fun k hk=>YW hk
 have hal:=XH (body D) (zl ks) (zn ks) 1 (1+ks.length*(zl ks+zn ks)) ks hqm
 rw[e1] at h2
 rw[Qn,List.cons_append] at h1 hp
 rw[zpl,zpk,hal] at hp
 have hnu:n*((zl ks+zn ks:Nat):Int)=((ks.length*(zl ks+zn ks):Nat):Int):=by rw[←hk];push_cast;rfl
 rw[e3,hnu] at hm ⊢
 rw[hnu] at h2
 have hsn:=VR R hQ
 have hud:zl ks<=65535:=YU fun x hx=>by
  obtain ⟨d,q,rfl,_,_,_,_,g1,_⟩:=hs x hx
  show d.length/8<=65535
  omega
 have huq:zn ks<=65535:=YV fun x hx=>by
  obtain ⟨d,q,rfl,_,_,_,_,_,g1⟩:=hs x hx
  exact g1
 simp only[List.length_singleton] at ha
 obtain ⟨q1,q2,q3⟩:=Y8 (off:=(p:Int)-a-1) (e:=7) (c:=((ks.length*(zl ks+zn ks):Nat):Int)) (by omega) (by omega) (by omega)
 have hne:yx ((p:Int)-a-1) 7 ((ks.length*(zl ks+zn ks):Nat):Int)≠0:=by omega
 obtain ⟨t1,t2,t3⟩:=Y9 (off:=n) (d:=zl ks) (q:=zn ks) (by omega) hud huq
 obtain ⟨w1,w2,w3⟩:=h1.cons
 obtain ⟨h1a,h1b⟩:=w3.app
 rw[hal] at h1b
 have hin:inB [W] 0 p (((ks.length*(zl ks+zn ks):Nat):Int)+1):=qx (by omega) (by omega) (by have:=h1a.len;rw[hal] at this;omega)
 rw[WC] at hm hsn ⊢
 have hbl:(body (D+1) (.mk 2 7 n [] ks)).length=1+ks.length*(zl ks+zn ks)+(ks.flatMap fun k=>k.kids.flatMap (body D)).length:=by
  rw[Qn,zpk,zpl,hal]
  omega
 rw[hbl]
 rw[Ve h2 hne,q1]
 unfold Zu vw
 dsimp only
 have hmul:n*((zl ks:Int)+(zn ks:Int))=((ks.length*(zl ks+zn ks):Nat):Int):=by rw[←hnu];push_cast;rfl
 have hz0:0<=(if zl ks+zn ks=0 then n else 0):=by split<;>omega
 rw[if_neg (by decide),if_pos rfl,if_pos rfl,w1,t1]
 dsimp only
 rw[if_pos ⟨by omega,hin,⟨rfl,hn.1,hmul⟩,by omega⟩]
 unfold Vf
 dsimp only
 have h1a':At W (p+1) (xk (body D) (zl ks) (zn ks) 1 (1+ks.length*(zl ks+zn ks)) ks):=h1a
 have hE:∀ m',zo (ks.map fun k=>zo (k.kids.map (zW D)))<=m'->wi (fun (i:Nat)=>yE (yR W D) ((zn ks:Nat):Int).toNat ((p:Int)+1+i*((zl ks:Int)+(zn ks:Int))+(zl ks:Int))) n.toNat 0 ((p:Int)+(((ks.length*(zl ks+zn ks):Nat):Int)+1),m')=some (((p+(1+ks.length*(zl ks+zn ks))+(ks.flatMap fun k=>k.kids.flatMap (body D)).length:Nat):Int),m'-zo (ks.map fun k=>zo (k.kids.map (zW D)))):=by
  intro m' hm'
  have:=zaw R p (zl ks) (zn ks) ks 1 (1+ks.length*(zl ks+zn ks)) 0 m' (fun (i:Nat)=>yE (yR W D) ((zn ks:Nat):Int).toNat ((p:Int)+1+i*((zl ks:Int)+(zn ks:Int))+(zl ks:Int))) (fun j=>by
   rw[Int.toNat_natCast]
   congr 1
   push_cast
   rw[Int.zero_add]) (fun k hk=>⟨hqm k hk,fun t ht=>hQ t (List.mem_flatMap.2 ⟨k,hk,ht⟩)⟩) h1a' (by rw[←Nat.add_assoc];exact h1b) hm'
  rw[show n.toNat=ks.length by omega,show (p:Int)+(((ks.length*(zl ks+zn ks):Nat):Int)+1)=((p+(1+ks.length*(zl ks+zn ks)):Nat):Int) by omega]
  exact this
 by_cases hu:zl ks+zn ks=0
 ·rw[if_pos (show (zl ks:Int)+(zn ks:Int)=0 by omega)]
  rw[if_pos hu] at hm ⊢
  rw[if_pos (by omega)]
  have hk0:∀ k∈ks,k.kids=[]:=fun k hk=>List.length_eq_zero_iff.1 (by have:=hqm k hk;omega)
  have hf0:(ks.flatMap fun k=>k.kids.flatMap (body D))=[]:=by
   rw[List.flatMap_eq_nil_iff]
   intro k hk
   rw[hk0 k hk]
   rfl
  have hs0:zo (ks.map fun k=>zo (k.kids.map (zW D)))=0:=by
   have:∀ l:List Nd,(∀ k∈l,k.kids=[])->zo (l.map fun k=>zo (k.kids.map (zW D)))=0:=by
    intro l
    induction l with
    |nil=>intro _;rfl
    |cons x l ih=>
     intro h
     rw[List.map_cons,xI,ih fun k hk=>h k (List.mem_cons_of_mem _ hk),h x List.mem_cons_self]
     rfl
   exact this ks hk0
  rw[hf0,hs0]
  congr 2
  ·simp only[List.length_nil]
   omega
  ·omega
 ·rw[if_neg (show ¬(zl ks:Int)+(zn ks:Int)=0 by omega)]
  rw[if_neg hu] at hm ⊢
  have ex:∀ k∈ks,∃ j:Nat,j<ks.length/\(0<zl ks->k.data.length/8=zl ks->wd [W] 0 ((p:Int)+1+j*((zl ks:Int)+(zn ks:Int))+(zl ks:Int)-1)≠0)/\(0<zn ks->k.kids.length=zn ks->wd [W] 0 ((p:Int)+1+j*((zl ks:Int)+(zn ks:Int))+((zl ks:Int)+(zn ks:Int))-1)≠0):=fun k hk=>by
   obtain ⟨d,q,rfl,g1,g2,g3,g4,g5,g6⟩:=hs k hk
   obtain ⟨j,pos',j1,j2⟩:=jm (p:=p) ks 1 _ hqm h1a' _ hk
   obtain ⟨l1,l2⟩:=zdD g3 g1 g2 (fun t ht=>(hQ t (List.mem_flatMap.2 ⟨_,hk,ht⟩)).vn) j2
   have ec:((p+(1+j*(zl ks+zn ks)):Nat):Int)=(p:Int)+1+j*((zl ks:Int)+(zn ks:Int)):=by push_cast;omega
   rw[ec] at l1 l2
   refine ⟨j,j1,l1,fun h0 h3=>?_⟩
   have:=l2 h0 h3
   rw[Int.add_assoc ((p:Int)+1+j*((zl ks:Int)+(zn ks:Int))) (zl ks:Int)] at this
   exact this
  have f1:((zl ks:Nat):Int)=0∨wD (vg W ((p:Int)+1) ((zl ks:Int)+(zn ks:Int)) (zl ks:Int)) n.toNat 0 false=true:=by
   by_cases h0:zl ks=0
   ·exact .inl (by omega)
   ·obtain ⟨k,hk1,hk2⟩:=zeg (l:=ks) (by omega)
    obtain ⟨j,j1,j2,_⟩:=ex k hk1
    refine .inr ((Xh _ _ _ _).2 (.inr ⟨j,Nat.zero_le _,by omega,?_⟩))
    unfold vg
    simpa using j2 (by omega) hk2
  have f2:((zn ks:Nat):Int)=0∨wD (vg W ((p:Int)+1) ((zl ks:Int)+(zn ks:Int)) ((zl ks:Int)+(zn ks:Int))) n.toNat 0 false=true:=by
   by_cases h0:zn ks=0
   ·exact .inl (by omega)
   ·obtain ⟨k,hk1,hk2⟩:=zeh (l:=ks) (by omega)
    obtain ⟨j,j1,_,j2⟩:=ex k hk1
    refine .inr ((Xh _ _ _ _).2 (.inr ⟨j,Nat.zero_le _,by omega,?_⟩))
    unfold vg
    simpa using j2 (by omega) hk2
  rw[if_pos ⟨f1,f2⟩,hE _ (by omega)]
  congr 2
  ·congr 1
   omega
  ·omega
theorem zav {W:List Int} (hW:W.length<=268435456):∀ D,Ct W (yR W D) (body D) (zW D) (Ok D)
 |0=>⟨fun t a q m h1 h2 h3 h4=>by
   have hk:t.kind=0:=h1.dp
   have:=Xt h1.vn hk
   subst this
   rw[QL h3]
   show _=some (((q+0:Nat):Int),m-0)
   rw[Int.sub_zero,Nat.add_zero],fun a s h=>QL h 0 s,fun t h=>Yu 0 h.vn⟩
 |D+1=>by
  have R:=zav hW D
  refine ⟨fun t a q m h1 h2 h3 h4=>?_,fun a s h=>QL h (D+1) s,fun t h=>Yu (D+1) h.vn⟩
  by_cases h0:t.kind=0
  ·have:=Xt h1.vn h0
   subst this
   rw[QL h3,Qo]
   show _=some (((q+0:Nat):Int),m-0)
   rw[Int.sub_zero,Nat.add_zero]
  ·have hT:=VD h1 h0
   rw[zW,if_neg h0] at h4 ⊢
   obtain ⟨hs,hkk⟩:=wU h1.vn
   rcases hs with hs|hs|hs
   ·exact absurd hs.1 h0
   ·obtain ⟨d,ks,rfl,g1,g2,g3,g4,g5,g6⟩:=Yc h1.vn h1.tr h1.gd hs.1
    have e:xV (.mk 1 0 0 d ks)=((d.length/8+ks.length:Nat):Int):=by
     rw[YG,if_neg (fun h=>absurd h.1 (by decide)),Int.add_zero]
     rfl
    rw[e] at h4 ⊢
    exact zix hW R g1 g2 g3 g4 g5 g6 hT h2 h3 h4
   ·cases t with
    |mk k e n d ks=>
     obtain ⟨k2,hn,he,h6,hl6⟩:=hs
     have k2':k=2:=k2
     subst k2'
     have hn':0<=n/\n<=536870911:=hn
     have he':0<=e/\e<=7:=he
     have hg:=h1.gd
     rw[yB] at hg
     by_cases e7:e=7
     ·subst e7
      obtain ⟨a1,a2⟩:=h6 (show (6:Int)<=7 by decide)
      obtain rfl:d=[]:=List.length_eq_zero_iff.1 a1
      have hst:∀ k∈ks,k.kind=1:=by
       cases h1.vn with
       |mk v1 v2 v3=>exact v2 rfl rfl
      have htr:∀ k∈ks,TrN k:=by
       cases h1.tr with
       |mk t1 t2=>exact t2
      exact ziu hW R hn' a2 (fun k hk=>Yc (hkk k hk) (htr k hk) (goods_iff.1 hg.2 k hk) (hst k hk)) hT h2 h3 h4
     ·have et:yn (.mk 2 e n d ks)=ks:=by
       show (if (2:Int)=2/\e=7 then _ else ks)=_
       rw[if_neg (fun h=>e7 h.2)]
      have eo:xV (.mk 2 e n d ks)=zs e n:=by
       rw[YG,if_neg (fun h=>e7 h.2.1),Int.add_zero]
       unfold yK
       show (if (2:Int)=0 then 0 else if (2:Int)=1 then _ else if e=7 then _ else zs e n)=_
       rw[if_neg (by decide),if_neg (by decide),if_neg e7]
      rw[et] at h4 hT ⊢
      rw[eo] at h4 ⊢
      by_cases e6:e=6
      ·subst e6
       obtain ⟨a1,a2⟩:=h6 (show (6:Int)<=6 by decide)
       obtain rfl:d=[]:=List.length_eq_zero_iff.1 a1
       exact ziw hW R hn' a2 hT h2 h3 h4
      ·obtain ⟨b1,b2,b3⟩:=hl6 (show e<6 by omega)
       obtain rfl:ks=[]:=List.length_eq_zero_iff.1 b1
       simp only[List.map_nil,xX,Int.add_zero] at h4 ⊢
       exact ziv hW (e:=e) ⟨he'.1,by omega⟩ hn' b2 b3 hg.1.2.1 h2 h3 h4
theorem ziB {D:Nat} {x:Nd} (h:Ok D x) (hb:zI D x<=134217728) {m:Int} (hc:zW D x<=m):yR (yH D x) D 0 (1,m)=some (((yH D x).length:Int),m-zW D x):=by
 have hl:=Y4 h
 have R:=zav (W:=yH D x) (by omega) D
 have:=R.one x 0 1 m h ⟨[yA x 0],[],by simp[yH],rfl⟩ ⟨[],body D x,by simp[yH],rfl⟩ hc
 refine this.trans ?_
 congr 2
 unfold yH
 rw[zpl]
 omega
theorem JN {γ:Type} {o:Option (Out×zh)} {a:AV} {h:zh} {kr:AV->zh->Option γ} {kp:PV->zh->Option γ} (e:o=some (.ret a,h)):zb o kr kp=kr a h:=by rw[e];rfl
theorem ziE {W:List Int} {H:Nat->CS->Option CS}:∀ (c i:Nat),(∀ (j:Nat) (s:CS),i<=j->j<i+c->Rg W s->∀ s',H j s=some s'->Rg W s')->∀ (s:CS),Rg W s->∀ s',wi H c i s=some s'->Rg W s':=by
 intro c
 induction c with
 |zero=>intro i hH s hs s' h;cases h;exact hs
 |succ c ih=>
  intro i hH s hs s' h
  rw[wi] at h
  cases h1:H i s with
  |none=>rw[h1] at h;cases h
  |some t=>
   rw[h1] at h
   exact ih (i+1) (fun j s h1 h2=>hH j s (by omega) (by omega)) t (hH i s (Nat.le_refl _) (by omega) hs t h1) s' h
theorem qe {i n:Nat} {z:Int} (h:i<n) (hz:0<=z/\z<=131070) (hn:n<=536870911):0<=(i:Int)*z/\(i:Int)*z+z<=n*z/\(n:Int)*z<=536870911*131070:=by
 refine ⟨Int.mul_nonneg (Int.natCast_nonneg i) hz.1,?_,Int.mul_le_mul (by omega) hz.2 hz.1 (by omega)⟩
 have:=Int.mul_le_mul_of_nonneg_right (show (i:Int)+1<=n by omega) hz.1
 rw[Int.add_mul,Int.one_mul] at this
 exact this
theorem ziR {W:List Int} (hl:W.length<=1099511627776) {d w o k:Int} (hk:0<=k/\k<=1099511627776) {F:Int->CS->Option CS} (hF:VF W d w o (k+1) F) {n:Nat} {st dd qq:Int} (hst:0<=st) (hdd:0<=dd/\dd<=65535) (hqq:0<=qq/\qq<=65535) (hn:n<=536870911) (hb:st+1+n*(dd+qq)<=W.length) (x1 x2 x3 x4 x5 x6:Int) (x7:Bool) (x8 x9 x10:Int) (y1 y2 y5 y6 y7 y8 y9 y10:PV):∀ (c i:Nat) (s:CS),i+c=n->Rg W s->
  Vs W d w o (XK k (I st) (dd+qq) (I n) i (.sl 1 (ws W)) (I s.1) (I d) (I w) (I o) (I s.2) x1 x2 x3 x4 x5 x6 x7 x8 x9 x10 y1 y2 (I dd) (I qq) y5 y6 y7 y8 y9 y10) (wi (fun (i:Nat)=>yE F qq.toNat (st+1+i*(dd+qq)+dd)) c i s):=by
 intro c
 induction c with
 |zero=>
  intro i s hi hs
  rw[jS]
  dsimp only[zK,zpj]
  rw[decide_eq_false (show ¬(i:Int)<(n:Int) by omega)]
  rfl
 |succ c ih=>
  intro i s hi hs
  obtain ⟨m1,m2,m3⟩:=qe (show i<n by omega) (z:=dd+qq) ⟨by omega,by omega⟩ hn
  rw[jS]
  dsimp only[zK,zpj]
  rw[decide_eq_true (show (i:Int)<(n:Int) by omega),ze (x:=st+1) (by omega),ze (x:=(i:Int)*(dd+qq)) (by omega),ze (x:=st+1+(i:Int)*(dd+qq)) (by omega),ze (x:=st+1+(i:Int)*(dd+qq)+dd) (by omega),ze (x:=(i:Int)+1) (by omega),wi]
  have hP:=Jx hl hk hF (n:=qq) (a:=st+1+(i:Int)*(dd+qq)+dd) (by omega) hqq.1 (by omega) hs
  have hR:=QM (fun a s h1 h2 h3=>(hF a s h1 h2 h3).2) qq.toNat (st+1+(i:Int)*(dd+qq)+dd) s (by omega) (by omega) hs
  unfold ch at hP
  cases h3:yE F qq.toNat (st+1+(i:Int)*(dd+qq)+dd) s with
  |none=>
   rw[h3] at hP
   obtain ⟨t,ht⟩:=hP
   unfold ch at ht
   rw[ht]
   exact ⟨t,rfl⟩
  |some t=>
   rw[h3] at hP
   have hP':ev 248 [.ptr 0 0,.pv (I (st+1+(i:Int)*(dd+qq)+dd)),.pv (I qq),.pv (I k)] [[.pv (.sl 1 (ws W)),.pv (I s.1),.pv (I d),.pv (I w),.pv (I o),.pv (I s.2)]]=some (.ret (.pv (.tup [])),ch W t.1 d w o t.2):=hP
   unfold ch at hP'
   dsimp only[zc,zpj]
   rw[hP']
   exact ih (i+1) t (by omega) (hR t h3)
theorem ziQ {W:List Int} (hl:W.length<=1099511627776) {k:Int} {n:Nat} {st dd qq:Int} (hst:0<=st) (hdd:0<=dd/\dd<=65535) (hqq:0<=qq/\qq<=65535) (hn:n<=536870911) (hb:st+1+n*(dd+qq)<=W.length) (p8 p9 p10 p11 p12:PV) (x1 x2 x3 x4 x5 x6:Int) (x7:Bool) (x8 x9 x10:Int) (y1 y5 y6 y7 y8 y9 y10:PV):∀ (c i:Nat) (b3 b4:Bool),i+c=n->(b3=false->0<dd)->(b4=false->0<qq)->
  ZS k (I st) (dd+qq) b3 b4 (I n) i (.sl 1 (ws W)) p8 p9 p10 p11 p12 x1 x2 x3 x4 x5 x6 x7 x8 x9 x10 y1 (I n) (I dd) (I qq) y5 y6 y7 y8 y9 y10 =
   if wD (vg W (st+1) (dd+qq) dd) c i b3=true/\wD (vg W (st+1) (dd+qq) (dd+qq)) c i b4=true then XK k (I st) (dd+qq) (I n) 0 (.sl 1 (ws W)) p8 p9 p10 p11 p12 x1 x2 x3 x4 x5 x6 x7 x8 x9 x10 y1 (I n) (I dd) (I qq) y5 y6 y7 y8 y9 y10
   else some (.pan (.ifc 174 (.agg [])),[[.pv (.sl 1 (ws W)),.pv p8,.pv p9,.pv p10,.pv p11,.pv p12]]):=by
 intro c
 induction c with
 |zero=>
  intro i b3 b4 hi h3 h4
  rw[jR]
  dsimp only[zK,yG,zpj]
  rw[decide_eq_false (show ¬(i:Int)<(n:Int) by omega)]
  dsimp only[zt]
  cases b3
  ·dsimp only[zt]
   rw[wv,if_neg (fun h=>by cases h.1)]
   rfl
  ·dsimp only[zc]
   cases b4
   ·rw[wv,if_neg (fun h=>by cases h.2)]
    rfl
   ·rw[vq,if_pos ⟨rfl,rfl⟩]
    rfl
 |succ c ih=>
  intro i b3 b4 hi h3 h4
  obtain ⟨m1,m2,m3⟩:=qe (show i<n by omega) (z:=dd+qq) ⟨by omega,by omega⟩ hn
  rw[jR,wD,wD]
  dsimp only[zK,yG,zpj]
  rw[decide_eq_true (show (i:Int)<(n:Int) by omega),ze (x:=st+1) (by omega),ze (x:=(i:Int)*(dd+qq)) (by omega),ze (x:=st+1+(i:Int)*(dd+qq)) (by omega),ze (x:=st+1+(i:Int)*(dd+qq)+(dd+qq)) (by omega),ze (x:=st+1+(i:Int)*(dd+qq)+(dd+qq)-1) (by omega),ze (x:=st+1+(i:Int)*(dd+qq)+dd) (by omega),ze (x:=st+1+(i:Int)*(dd+qq)+dd-1) (by omega),ze (x:=(i:Int)+1) (by omega),show decide ((1:Nat)=1)=true from rfl,yt]
  dsimp only[zr,zc]
  have hq:b4=false->(ws W)[(st+1+(i:Int)*(dd+qq)+(dd+qq)-1).toNat]? = some (U (wd [W] 0 (st+1+(i:Int)*(dd+qq)+(dd+qq)-1)))/\decide (0<=st+1+(i:Int)*(dd+qq)+(dd+qq)-1)=true/\decide (st+1+(i:Int)*(dd+qq)+(dd+qq)-1<(W.length:Int))=true:=fun e=>by
   have:=h4 e
   exact ⟨YY (by omega) (by omega),decide_eq_true (by omega),decide_eq_true (by omega)⟩
  have hd:b3=false->(ws W)[(st+1+(i:Int)*(dd+qq)+dd-1).toNat]? = some (U (wd [W] 0 (st+1+(i:Int)*(dd+qq)+dd-1)))/\decide (0<=st+1+(i:Int)*(dd+qq)+dd-1)=true/\decide (st+1+(i:Int)*(dd+qq)+dd-1<(W.length:Int))=true:=fun e=>by
   have:=h3 e
   exact ⟨YY (by omega) (by omega),decide_eq_true (by omega),decide_eq_true (by omega)⟩
  cases b3 with
  |true=>
   dsimp only[zc]
   cases b4 with
   |true=>
    dsimp only[zc]
    exact ih (i+1) true true (by omega) (fun h=>by cases h) (fun h=>by cases h)
   |false=>
    obtain ⟨q1,q2,q3⟩:=hq rfl
    dsimp only[zt]
    rw[q1,q2,q3]
    dsimp only[zr,zpj,yv,zph,wM,zc]
    exact ih (i+1) true _ (by omega) (fun h=>by cases h) (fun _=>h4 rfl)
  |false=>
   obtain ⟨d1,d2,d3⟩:=hd rfl
   dsimp only[zt]
   rw[d1,d2,d3]
   dsimp only[zr,zpj,yv,zph,wM,zc]
   cases b4 with
   |true=>
    dsimp only[zc]
    exact ih (i+1) _ true (by omega) (fun _=>h3 rfl) (fun h=>by cases h)
   |false=>
    obtain ⟨q1,q2,q3⟩:=hq rfl
    dsimp only[zt]
    rw[q1,q2,q3]
    dsimp only[zr,zpj,yv,zph,wM,zc]
    exact ih (i+1) _ _ (by omega) (fun _=>h3 rfl) (fun _=>h4 rfl)
theorem zlt {f:Nat->Bool} {n:Nat} {x:Int}:wD f n 0 (x==0)=true↔x=0∨wD f n 0 false=true:=by
 rw[Xh,Xh]
 constructor
 ·rintro (h|h)
  ·exact .inl (by simpa using h)
  ·exact .inr (.inr h)
 ·rintro (h|h|h)
  ·exact .inl (by simpa using h)
  ·cases h
  ·exact .inr h
theorem rt {W:List Int} (hl:W.length<=1099511627776) (hw:∀ x∈W,zG x) {d w o k:Int} (hk:0<=k/\k<=1099511627776) {F:Int->CS->Option CS} (hF:VF W d w o (k+1) F) {a:Int} (ha:0<=a/\a<W.length) {p:PT} (hp1:-536870912<=p.2.1/\p.2.1<=536870911) (hp3:0<=p.2.2.2.2.2.1/\p.2.2.2.2.2.1<=536870911) {s:CS} (hs:Rg W s) :
  Vs W d w o (ev 249 [.ptr 0 0,.pv (I a),.pv (I k),.pv (.agg (yi p))] (ch W s.1 d w o s.2)) (vw F W a p s)/\∀ s',vw F W a p s=some s'->Rg W s':=by
 have hs1:=hs.1
 have hs2:=hs.2
 have hS:=YF hl hw
 have hww:zG (wd [W] 0 s.1):=we hS 0 s.1
 obtain ⟨to1,to2,td1,td2,tq1,tq2,-,-,-,-,-,-⟩:=vz hww
 have hrg:∀ s',vw F W a p s=some s'->Rg W s':=by
  intro s' h
  unfold vw at h
  split at h
  ·rename_i h1
   obtain ⟨_,h2,⟨h4,h5,h6⟩,h3⟩:=h1
   have hb:=Zf h2
   unfold Vf at h
   split at h
   ·split at h
    ·cases h
     exact ⟨by dsimp only;omega,by dsimp only;omega,by dsimp only;omega⟩
    ·cases h
   ·split at h
    ·refine ziE _ _ (fun j s9 _ hj hs9=>?_) _ ⟨by dsimp only;omega,by dsimp only;omega,by dsimp only;omega⟩ s' h
     obtain ⟨m1,m2,m3⟩:=qe (n:=(zC (wd [W] 0 s.1)).2.1.toNat) (show j<_ by omega) (z:=(zC (wd [W] 0 s.1)).2.2.1+(zC (wd [W] 0 s.1)).2.2.2.1) ⟨by omega,by omega⟩ (by omega)
     rw[show (((zC (wd [W] 0 s.1)).2.1.toNat:Nat):Int)=(zC (wd [W] 0 s.1)).2.1 by omega,h6] at m2
     exact QM (fun a s h1 h2 h3=>(hF a s h1 h2 h3).2) _ _ _ (by omega) (by omega) hs9
    ·cases h
  ·cases h
 refine ⟨?_,hrg⟩
 have hE:ev 249 [.ptr 0 0,.pv (I a),.pv (I k),.pv (.agg (yi p))] (ch W s.1 d w o s.2)=_:=zhD (ws W) s.1 d w o s.2 a k p.1 p.2.1 p.2.2.1 p.2.2.2.1 p.2.2.2.2.1 p.2.2.2.2.2.1 p.2.2.2.2.2.2.1 p.2.2.2.2.2.2.2.1 p.2.2.2.2.2.2.2.2.1 p.2.2.2.2.2.2.2.2.2
 have hO:=Jt hS (nx:=s.1) (d:=d) (w:=w) (o:=o) (m:=s.2) (at_:=a) (n:=p.2.2.2.2.2.1+1) (p:=p) (by omega) hp1 (by omega) (by omega)
 unfold yi ch at hO
 rw[hE,ze (x:=p.2.2.2.2.2.1+1) (by omega)]
 unfold vw
 by_cases h1:a+1+p.2.1=s.1/\inB [W] 0 s.1 (p.2.2.2.2.2.1+1)
 ·have hb:=Zf h1.2
  rw[if_pos h1] at hO
  rw[hO]
  have hD:=xS hww
  have hC:=Qe (W:=W) (nx:=s.1+(p.2.2.2.2.2.1+1)) (d:=d) (w:=w) (o:=o) (m:=s.2) (c:=p.2.2.2.2.2.1+1) (by omega) (by omega)
  have hC2:=Qe (W:=W) (nx:=s.1+(p.2.2.2.2.2.1+1)) (d:=d) (w:=w) (o:=o) (m:=s.2-(p.2.2.2.2.2.1+1)) (c:=(zC (wd [W] 0 s.1)).2.1)
  unfold yi at hD
  unfold ch at hC hC2
  dsimp only[zf,zph,yO,zg,zpj,xt,zc,zpi,XQ,yG]
  rw[show decide ((1:Nat)=1)=true from rfl,yt,decide_eq_true (show 0<=s.1 by omega),decide_eq_true (show s.1<(W.length:Int) by omega),YY (by omega) (by omega)]
  dsimp only[zr,zpj,yv,zph,zc]
  rw[hD]
  dsimp only[zf,zg,zpj,yT,zph,zpi,yw,zr,zK,zc]
  clear hD hww
  generalize zC (wd [W] 0 s.1)=t at *
  rw[ze (x:=t.2.2.1+t.2.2.2.1) (by omega)]
  by_cases k1:t.1=0
  ·rw[beq_iff_eq.2 k1]
   dsimp only[zc]
   by_cases k2:0<=t.2.1
   ·rw[decide_eq_true (show t.2.1≥0 from k2)]
    dsimp only[zc]
    have hmul:=WA (o:=t.2.1) (n:=t.2.2.1+t.2.2.2.1) ⟨k2,to2⟩ ⟨by omega,by omega⟩
    rw[ze (x:=t.2.1*(t.2.2.1+t.2.2.2.1)) (by omega)]
    by_cases k3:t.2.1*(t.2.2.1+t.2.2.2.1)=p.2.2.2.2.2.1
    ·rw[beq_iff_eq.2 k3,vq]
     dsimp only[zf,zg,zpj]
     rw[hC]
     by_cases k4:p.2.2.2.2.2.1+1>s.2
     ·rw[if_pos k4,if_neg (fun h=>by omega)]
      exact ⟨(s.1+(p.2.2.2.2.2.1+1),s.2),rfl⟩
     ·rw[if_neg k4,if_pos ⟨h1.1,h1.2,⟨k1,k2,k3⟩,by omega⟩]
      dsimp only[zf,zph,yO,zg,zpj,zc,zpi,XQ]
      unfold Vf
      by_cases hz:t.2.2.1+t.2.2.2.1=0
      ·rw[beq_iff_eq.2 hz,if_pos hz]
       dsimp only[zc]
       rw[hC2 (by omega) (by omega)]
       by_cases k5:t.2.1>s.2-(p.2.2.2.2.2.1+1)
       ·rw[if_pos k5,if_neg (by omega)]
        exact ⟨(s.1+(p.2.2.2.2.2.1+1),s.2-(p.2.2.2.2.2.1+1)),rfl⟩
       ·rw[if_neg k5,if_pos (by omega)]
        rfl
      ·rw[beq_eq_false_iff_ne.2 hz,if_neg hz]
       dsimp only[zt]
       obtain ⟨n,hn⟩:=Int.eq_ofNat_of_zero_le k2
       have hbn:s.1+1+(n:Int)*(t.2.2.1+t.2.2.2.1)<=W.length:=by rw[←hn,k3];omega
       have hL0:=ziQ hl (k:=k) (n:=n) (st:=s.1) (dd:=t.2.2.1) (qq:=t.2.2.2.1) (by omega) ⟨td1,td2⟩ ⟨tq1,tq2⟩ (by omega) hbn (I (s.1+(p.2.2.2.2.2.1+1))) (I d) (I w) (I o) (I (s.2-(p.2.2.2.2.2.1+1))) p.1 p.2.1 p.2.2.1 p.2.2.2.1 p.2.2.2.2.1 p.2.2.2.2.2.1 p.2.2.2.2.2.2.1 p.2.2.2.2.2.2.2.1 p.2.2.2.2.2.2.2.2.1 p.2.2.2.2.2.2.2.2.2 (I t.1) (I t.2.2.2.2.1) (I t.2.2.2.2.2.1) (Bo t.2.2.2.2.2.2.1) (I t.2.2.2.2.2.2.2.1) (yY t.2.2.2.2.2.2.2.2.1) (yY t.2.2.2.2.2.2.2.2.2) n 0 (t.2.2.1==0) (t.2.2.2.1==0) (by omega) (fun h=>by have:=beq_eq_false_iff_ne.1 h;omega) (fun h=>by have:=beq_eq_false_iff_ne.1 h;omega)
       have hL2:=ziR hl hk hF (n:=n) (st:=s.1) (dd:=t.2.2.1) (qq:=t.2.2.2.1) (by omega) ⟨td1,td2⟩ ⟨tq1,tq2⟩ (by omega) hbn p.1 p.2.1 p.2.2.1 p.2.2.2.1 p.2.2.2.2.1 p.2.2.2.2.2.1 p.2.2.2.2.2.2.1 p.2.2.2.2.2.2.2.1 p.2.2.2.2.2.2.2.2.1 p.2.2.2.2.2.2.2.2.2 (I t.1) (I n) (I t.2.2.2.2.1) (I t.2.2.2.2.2.1) (Bo t.2.2.2.2.2.2.1) (I t.2.2.2.2.2.2.2.1) (yY t.2.2.2.2.2.2.2.2.1) (yY t.2.2.2.2.2.2.2.2.2) n 0 (s.1+(p.2.2.2.2.2.1+1),s.2-(p.2.2.2.2.2.1+1)) (by omega) ⟨by dsimp only;omega,by dsimp only;omega,by dsimp only;omega⟩
       rw[show ((0:Nat):Int)=0 from rfl] at hL0 hL2
       rw[hn,hL0,show ((n:Int)).toNat=n from Int.toNat_natCast n]
       simp only[zlt]
       by_cases k6:(t.2.2.1=0∨wD (vg W (s.1+1) (t.2.2.1+t.2.2.2.1) t.2.2.1) n 0 false=true)/\(t.2.2.2.1=0∨wD (vg W (s.1+1) (t.2.2.1+t.2.2.2.1) (t.2.2.1+t.2.2.2.1)) n 0 false=true)
       ·rw[if_pos k6,if_pos k6]
        exact hL2
       ·rw[if_neg k6,if_neg k6]
        exact ⟨(s.1+(p.2.2.2.2.2.1+1),s.2-(p.2.2.2.2.2.1+1)),rfl⟩
    ·rw[beq_eq_false_iff_ne.2 k3,wv,if_neg (fun h=>k3 h.2.2.1.2.2)]
     exact ⟨(s.1+(p.2.2.2.2.2.1+1),s.2),rfl⟩
   ·rw[decide_eq_false (show ¬t.2.1≥0 from k2),if_neg (fun h=>k2 h.2.2.1.2.1)]
    dsimp only[zt]
    rw[wv]
    exact ⟨(s.1+(p.2.2.2.2.2.1+1),s.2),rfl⟩
  ·rw[beq_eq_false_iff_ne.2 k1,if_neg (fun h=>k1 h.2.2.1.1)]
   dsimp only[zt]
   rw[wv]
   exact ⟨(s.1+(p.2.2.2.2.2.1+1),s.2),rfl⟩
 ·rw[if_neg h1] at hO
  rw[hO,if_neg (fun h=>h1 ⟨h.1,h.2.1⟩)]
  exact ⟨s,rfl⟩
theorem zfd {W:List Int} (hl:W.length<=1099511627776) (hw:∀ x∈W,zG x) {d w o k:Int} (hk:0<=k/\k<=1099511627776) {F:Int->CS->Option CS} (hF:VF W d w o (k+1) F) {a:Int} (ha:0<=a/\a<W.length) {p:PT} (hp1:-536870912<=p.2.1/\p.2.1<=536870911) (hp3:0<=p.2.2.2.2.2.1/\p.2.2.2.2.2.1<=536870911) (h7:p.2.2.2.2.1=7) {s:CS} (hs:Rg W s) :
  Vs W d w o (ev 194 [.ptr 0 0,.pv (I a),.pv (I k),.pv (.agg (yi p))] (ch W s.1 d w o s.2)) (vw F W a p s):=by
 have hC:=(rt hl hw hk hF ha hp1 hp3 hs).1
 have hE:ev 194 [.ptr 0 0,.pv (I a),.pv (I k),.pv (.agg (yi p))] (ch W s.1 d w o s.2)=_:=jT (ws W) s.1 d w o s.2 a k p.1 p.2.1 p.2.2.1 p.2.2.2.1 p.2.2.2.2.1 p.2.2.2.2.2.1 p.2.2.2.2.2.2.1 p.2.2.2.2.2.2.2.1 p.2.2.2.2.2.2.2.2.1 p.2.2.2.2.2.2.2.2.2
 rw[hE,beq_iff_eq.2 h7]
 dsimp only[zc]
 unfold yi ch at hC
 cases hq:vw F W a p s with
 |none=>
  rw[hq] at hC
  obtain ⟨t,ht⟩:=hC
  unfold ch at ht
  rw[ht]
  exact ⟨t,rfl⟩
 |some t=>
  rw[hq] at hC
  have hC':ev 249 [.ptr 0 0,.pv (I a),.pv (I k),.pv (.agg [I p.1,I p.2.1,I p.2.2.1,I p.2.2.2.1,I p.2.2.2.2.1,I p.2.2.2.2.2.1,Bo p.2.2.2.2.2.2.1,I p.2.2.2.2.2.2.2.1,yY p.2.2.2.2.2.2.2.2.1,yY p.2.2.2.2.2.2.2.2.2])] [[.pv (.sl 1 (ws W)),.pv (I s.1),.pv (I d),.pv (I w),.pv (I o),.pv (I s.2)]]=some (.ret (.pv (.tup [])),ch W t.1 d w o t.2):=hC
  rw[hC']
  rfl
theorem zfj {W:List Int} (hl:W.length<=1099511627776) (hw:∀ x∈W,zG x) {d w o:Int} (hd:d<=1099511627775):∀ (D:Nat) (k:Int),0<=k->k<=1099511627776->(d+1-k).toNat=D->VF W d w o k (yR W D):=by
 have hS:=YF hl hw
 intro D
 induction D with
 |zero=>
  intro k k0 k1 hD a s ha0 ha1 hs
  have hww:zG (wd [W] 0 a):=we hS 0 a
  refine ⟨?_,fun s' h=>?_⟩
  ·unfold ch
   rw[JS,yt,decide_eq_true ha0,decide_eq_true ha1,YY ha0 ha1,yR]
   dsimp only[zr,zpj,yv,zph,zc]
   rw[Wq]
   by_cases hz:wd [W] 0 a=0
   ·rw[beq_iff_eq.2 hz,if_pos hz]
    rfl
   ·rw[beq_eq_false_iff_ne.2 hz,if_neg hz]
    dsimp only[zf,zg,zpj,xc,zt]
    rw[V9,if_pos (by omega)]
    dsimp only[zf,zg,zpj,zK]
    rw[show ((7:Int)==0)=false from rfl,wv]
    exact ⟨s,rfl⟩
  ·rw[yR] at h
   dsimp only at h
   split at h
   ·cases h;exact hs
   ·cases h
 |succ D ih=>
  intro k k0 k1 hD a s ha0 ha1 hs
  have hww:zG (wd [W] 0 a):=we hS 0 a
  have hF:=ih (k+1) (by omega) (by omega) (by omega)
  obtain ⟨p1,p2,p3,p4,p5,p6,p7,p8,p9,p10,p11,p12⟩:=vz hww
  have hk:=ZV hww
  have hst:=zfi hl hw (d:=d) (w:=w) (o:=o) (k:=k) ⟨k0,by omega⟩ hF ⟨ha0,ha1⟩ (p:=zC (wd [W] 0 a)) ⟨⟨p1,p2⟩,⟨p3,p4⟩,⟨p5,p6⟩⟩ hs
  have hco:=rt hl hw (d:=d) (w:=w) (o:=o) (k:=k) ⟨k0,by omega⟩ hF ⟨ha0,ha1⟩ (p:=zC (wd [W] 0 a)) ⟨p1,p2⟩ ⟨p9,p10⟩ hs
  have hli:¬(zC (wd [W] 0 a)).2.2.2.2.1=7->_:=fun h7=>zfg hl hw (d:=d) (w:=w) (o:=o) (k:=k) ⟨k0,by omega⟩ hF ⟨ha0,ha1⟩ (p:=zC (wd [W] 0 a)) ⟨⟨p1,p2⟩,⟨p7,by omega⟩,⟨p9,p10⟩⟩ hs
  have hlc:(zC (wd [W] 0 a)).2.2.2.2.1=7->_:=fun h7=>zfd hl hw (d:=d) (w:=w) (o:=o) (k:=k) ⟨k0,by omega⟩ hF ⟨ha0,ha1⟩ (p:=zC (wd [W] 0 a)) ⟨p1,p2⟩ ⟨p9,p10⟩ h7 hs
  have hLI:Vs W d w o (ev 194 [.ptr 0 0,.pv (I a),.pv (I k),.pv (.agg (yi (zC (wd [W] 0 a))))] (ch W s.1 d w o s.2)) (if (zC (wd [W] 0 a)).2.2.2.2.1=7 then vw (yR W D) W a (zC (wd [W] 0 a)) s else vK (yR W D) W a (zC (wd [W] 0 a)) s):=by
   by_cases h7:(zC (wd [W] 0 a)).2.2.2.2.1=7
   ·rw[if_pos h7];exact hlc h7
   ·rw[if_neg h7];exact (hli h7).1
  refine ⟨?_,fun s' h=>?_⟩
  ·have hdc:=xS hww
   unfold yi at hdc
   unfold ch
   rw[JS,yt,decide_eq_true ha0,decide_eq_true ha1,YY ha0 ha1,yR]
   dsimp only[zr,zpj,yv,zph,zc]
   rw[Wq]
   by_cases hz:wd [W] 0 a=0
   ·rw[beq_iff_eq.2 hz,if_pos hz]
    rfl
   ·rw[beq_eq_false_iff_ne.2 hz,if_neg hz]
    dsimp only[zf,zg,zpj,xc,zt]
    rw[V9,if_neg (by omega)]
    dsimp only[zf,zg,zpj,zK]
    rw[show ((0:Int)==0)=true from rfl,vq]
    dsimp only[zf,zg,zpj]
    rw[hdc]
    dsimp only[zf,zg,zpj,yT,zph,zpi,yw,zr,zK,zc]
    unfold Zu
    by_cases h0:(zC (wd [W] 0 a)).1=0
    ·rw[beq_iff_eq.2 h0,if_pos h0]
     dsimp only[zc]
     have hV:=hst.1
     unfold yi ch at hV
     cases hq:Ze (yR W D) W a (zC (wd [W] 0 a)) s with
     |none=>
      rw[hq] at hV
      obtain ⟨t,ht⟩:=hV
      unfold ch at ht
      rw[ht]
      exact ⟨t,rfl⟩
     |some t=>
      rw[hq] at hV
      refine (JN (show _=some (Out.ret (.pv (.tup [])),ch W t.1 d w o t.2) from hV)).trans ?_
      rfl
    ·rw[beq_eq_false_iff_ne.2 h0,if_neg h0]
     dsimp only[zt]
     by_cases h1:(zC (wd [W] 0 a)).1=1
     ·rw[beq_iff_eq.2 h1,if_pos h1]
      dsimp only[zc]
      have hV:=hLI
      unfold yi ch at hV
      cases hq:(if (zC (wd [W] 0 a)).2.2.2.2.1=7 then vw (yR W D) W a (zC (wd [W] 0 a)) s else vK (yR W D) W a (zC (wd [W] 0 a)) s) with
      |none=>
       rw[hq] at hV
       obtain ⟨t,ht⟩:=hV
       unfold ch at ht
       rw[ht]
       exact ⟨t,rfl⟩
      |some t=>
       rw[hq] at hV
       refine (JN (show _=some (Out.ret (.pv (.tup [])),ch W t.1 d w o t.2) from hV)).trans ?_
       rfl
     ·rw[beq_eq_false_iff_ne.2 h1,if_neg h1]
      dsimp only[zt]
      rw[wv]
      exact ⟨s,rfl⟩
  ·rw[yR] at h
   dsimp only at h
   split at h
   ·cases h;exact hs
   ·unfold Zu at h
    split at h
    ·exact hst.2 s' h
    ·split at h
     ·split at h
      ·exact hco.2 s' h
      ·rename_i h7
       exact (hli h7).2 s' h
     ·cases h
def ZU (W:List Int) (d w:Int):Bool:=match yR W d.toNat 0 (1,max w 0) with
 |some s=>decide (0<W.length)&&(s.1==(W.length:Int))
 |none=>false
theorem zfe {W:List Int} (hl:W.length<=1099511627776) (hw:∀ x∈W,zG x) {d w o:Int} (hd:d<=1099511627775) (hm:w<=1099511627776):ev 76 [.pv (.sl 1 (ws W)),.pv (.agg [I d,I w,I o])] []=ok (Bo (ZU W d w)):=by
 rw[JR,yt]
 by_cases h0:0<W.length
 ·rw[decide_eq_true (show (W.length:Int)>0 by omega),vq,Qc]
  dsimp only[zf,zg,zpj,yT,zph,yw,zr,zc]
  obtain ⟨hv,-⟩:=zfj hl hw (d:=d) (w:=w) (o:=o) hd d.toNat 1 (by decide) (by decide) (by omega) 0 (1,max w 0) (Int.le_refl _) (by omega) ⟨by dsimp only;omega,by dsimp only;omega,by dsimp only;omega⟩
  unfold ch at hv
  dsimp only at hv
  unfold ZU
  cases hq:yR W d.toNat 0 (1,max w 0) with
  |none=>
   rw[hq] at hv
   obtain ⟨t,ht⟩:=hv
   unfold ch at ht
   rw[ht]
   rfl
  |some t=>
   rw[hq] at hv
   refine (JN (show _=some (Out.ret (.pv (.tup [])),ch W t.1 d w o t.2) from hv)).trans ?_
   dsimp only
   rw[decide_eq_true h0,Bool.true_and]
   rfl
 ·rw[decide_eq_false (show ¬(W.length:Int)>0 by omega),wv]
  have hf:ZU W d w=false:=by
   unfold ZU
   cases yR W d.toNat 0 (1,max w 0) with
   |none=>rfl
   |some t=>dsimp only;rw[decide_eq_false h0];rfl
  rw[hf]
  rfl
def rv:Option CS->Int
 |some s=>s.1
 |none=>-1
section
variable {W:List Int} {D:Nat} {F:Int->CS->Option CS} {G:Int->Int->Int->Nd×Int×Int}
end
noncomputable def Wd (b:List Int) (d w:Int):Bool:=match yI b with
 |some [W]=>ZU W d w
 |_=>false
theorem ziF {W:List Int} (hl:W.length<=1099511627776) (hw:∀ x∈W,zG x) {d w:Int} (hm:w<=1099511627776) (h:ZU W d w=true):yF [W] d w=0/\yW [W] d w=W:=by
 unfold ZU at h
 cases hq:yR W d.toNat 0 (1,max w 0) with
 |none=>rw[hq] at h;cases h
 |some t=>
  rw[hq] at h
  simp only[Bool.and_eq_true,decide_eq_true_eq,beq_iff_eq] at h
  obtain ⟨y,e1,e2⟩:=ziD hl hw h.1 ⟨by omega,by omega⟩ hq h.2
  have hr:runT [W] d w=(y,t.2,0):=by
   unfold runT
   rw[if_neg (fun he=>by have:=he.2;rw[Zk] at this;omega)]
   exact e1
  have he:yF [W] d w=0:=by unfold yF;rw[hr]
  refine ⟨he,?_⟩
  unfold yW yJ
  rw[if_pos he,hr,if_pos rfl]
  exact e2
theorem zaX {b:List Int} (hb:∀ x∈b,zq x) (i:Nat):e4 (zM b i)=[b.getD (4*i) 0,b.getD (4*i+1) 0,b.getD (4*i+2) 0,b.getD (4*i+3) 0]:=by
 have h0:=yU hb (4*i)
 have h1:=yU hb (4*i+1)
 have h2:=yU hb (4*i+2)
 have h3:=yU hb (4*i+3)
 unfold e4 zM
 generalize b.getD (4*i) 0=c0 at *
 generalize b.getD (4*i+1) 0=c1 at *
 generalize b.getD (4*i+2) 0=c2 at *
 generalize b.getD (4*i+3) 0=c3 at *
 simp only[List.cons.injEq,and_true]
 refine ⟨?_,?_,?_,?_⟩<;>omega
theorem zmf {b:List Int} (hb:∀ x∈b,zq x) {W:List Int} (h:yI b=some [W]):wQ W=b:=by
 unfold yI at h
 have hr:=Wf hb 0
 have hr1:=Wf hb 1
 split at h
 ·cases h
 rename_i h4
 split at h
 ·cases h
 split at h
 ·cases h
 rename_i h6
 split at h
 ·cases h
 rename_i h7
 have hn:(zM b 0+1).toNat=1:=by
  cases hc:(zM b 0+1).toNat with
  |zero=>omega
  |succ c=>
   rw[hc] at h
   unfold xg at h
   split at h
   ·rename_i h8
    cases hs:xg b c (1+1) (List.drop (8*(zM b 1).toNat) (List.drop (yC (c+1)) b)) with
    |none=>rw[hs] at h;cases h
    |some l=>
     rw[hs] at h
     simp only[Option.map_some,zpo,List.cons.injEq] at h
     have hl:l=[]:=h.2
     subst hl
     cases c with
     |zero=>rfl
     |succ c=>
      exfalso
      unfold xg at hs
      split at hs
      ·cases hs2:xg b c (1+1+1) (List.drop (8*(zM b (1+1)).toNat) (List.drop (8*(zM b 1).toNat) (List.drop (yC (c+1+1)) b))) with
       |none=>rw[hs2] at hs;cases hs
       |some l2=>rw[hs2] at hs;simp at hs
      ·cases hs
   ·cases h
 rw[hn] at h h6
 have ht:yC 1=8:=rfl
 rw[ht] at h h6
 unfold xg at h
 split at h
 ·rename_i h8
  rw[List.length_drop] at h8
  unfold xg at h
  split at h
  ·rename_i h9
   simp only[Option.map_some,zpo,List.cons.injEq,and_true] at h
   have hlen:b.length=8+8*(zM b 1).toNat:=by
    have:=List.drop_eq_nil_iff.1 h9
    rw[List.length_drop] at this
    omega
   have htk:List.take (8*(zM b 1).toNat) (List.drop 8 b)=List.drop 8 b:=List.take_of_length_le (by rw[List.length_drop];omega)
   rw[htk] at h
   have hbw:zu (zQ (zM b 1).toNat (b.drop 8))=b.drop 8:=by
    rw[ZR _ (Yr hb 8) (by rw[List.length_drop];omega),List.length_drop,show 8*(zM b 1).toNat-(b.length-8)=0 by omega,List.replicate_zero,List.append_nil]
   have hwl:W.length=(zM b 1).toNat:=by rw[←h,yM]
   unfold wQ
   rw[hwl,show (((zM b 1).toNat:Nat):Int)=zM b 1 by omega,←h,hbw]
   have h0:zM b 0=0:=by omega
   have e0:e4 0=(b.drop 0).take 4:=by
    rw[←h0,zaX hb 0,qE (b:=b) (j:=0) (by omega)]
   have e1:e4 (zM b 1)=(b.drop 4).take 4:=by
    rw[zaX hb 1,qE (b:=b) (j:=4) (by omega)]
   rw[e0,e1,List.drop_zero]
   have k1:b.drop 4=(b.drop 4).take 4++b.drop 8:=by
    have:=List.take_append_drop 4 (b.drop 4)
    rw[List.drop_drop] at this
    exact this.symm
   have k2:b=b.take 4++b.drop 4:=(List.take_append_drop 4 b).symm
   rw[List.append_assoc,←k1,←k2]
  ·cases h
 ·cases h
theorem zko {b:List Int} (hb:∀ x∈b,zq x) (hl:b.length<=1099511627776) {d w:Int} (hw:w<=134217728) (h:Wd b d w=true):mE b d w=0/\xD b d w=b:=by
 unfold Wd at h
 split at h
 ·rename_i W hp
  obtain ⟨h1,h2⟩:=w7 hb hl hp
  have hW:=h1.2 W (List.mem_singleton.2 rfl)
  have hWl:W.length<=1099511627776:=by
   have:=h2 0
   rw[Zk] at this
   omega
  obtain ⟨c1,c2⟩:=ziF hWl hW.2 (by omega) h
  have hm:mE b d w=0:=by unfold mE;rw[hp];exact c1
  exact ⟨hm,by rw[(Y3 hp c1).1,c2,zmf hb hp]⟩
 ·cases h
theorem zkn {b:List Int} (hb:∀ x∈b,zq x) (hl:b.length<=1099511627776) {d w:Int} (hw:w<=134217728) (h:mE b d w=0):Wd (xD b d w) d w=true:=by
 obtain ⟨l,p1,z1⟩:=Km h
 obtain ⟨h1,h2⟩:=w7 hb hl p1
 obtain ⟨ho,hn,hc⟩:=ZZ h1 h2 hw z1
 have e3:yW l d w=yH d.toNat (yJ l d w):=by unfold yW;rw[if_pos z1]
 have hwd:=JP h1 h2 (d:=d) hw
 have hlt:=Qs h1 h2 hw z1
 unfold Wd
 rw[(Y3 p1 z1).1,znr hwd.2 hlt]
 show ZU (yW l d w) d w=true
 unfold ZU
 rw[e3,ziB ho hn hc]
 have:0<(yH d.toNat (yJ l d w)).length:=by unfold yH;simp
 simp[this]
theorem WY {b:List Int} {d w:Int}:∀ x∈xD b d w,zq x:=by
 unfold xD
 split
 ·split
  ·exact znp _
  ·intro x hx;cases hx
 ·intro x hx;cases hx
theorem zho {b:List Int} {d w:Int} (h:mE b d w≠0):xD b d w=[]/\mH b d w=0:=by
 unfold xD mH
 unfold mE at h
 split
 ·rename_i l hp
  rw[hp] at h
  have h:yF l d w≠0:=h
  exact ⟨if_neg h,if_neg h⟩
 ·exact ⟨rfl,rfl⟩
theorem zhn {b:List Int} (hb:∀ x∈b,zq x) (hl:b.length<=1099511627776) {d w:Int} (hw:w<=134217728):(xD b d w).length<=1099511627776:=by
 unfold xD
 split
 ·rename_i l h
  split
  ·rename_i h0
   obtain ⟨h1,h2⟩:=w7 hb hl h
   have:=Qs h1 h2 hw h0
   rw[KL]
   omega
  ·exact Nat.zero_le _
 ·exact Nat.zero_le _
theorem zfs {b:List Int} (hb:∀ x∈b,zq x) (hl:b.length<=1099511627776) {d w o:Int} (hd:d<=1000) (hw:w<=134217728):ev 35 [.pv (.sl 1 (bs b)),.pv (.agg [I d,I w,I o])] []=ok (Bo (Wd b d w)):=by
 rw[qH,Yl hb hl]
 dsimp only[zf,zg,zpj,zO,zpi,zph,yG]
 rw[vD]
 unfold Wd
 cases hp:yI b with
 |none=>rfl
 |some l=>
  obtain ⟨h1,h2⟩:=w7 hb hl hp
  rw[if_neg (by simp),Option.getD_some]
  dsimp only[zpj]
  rw[show decide ((0:Int)=0)=true from rfl]
  dsimp only[zc]
  match l,h1,h2 with
  |[],_,_=>rfl
  |[W],h1,h2=>
   have hW:=h1.2 W (List.mem_singleton.2 rfl)
   have hWl:W.length<=1099511627776:=by
    have:=h2 0
    rw[Zk] at this
    omega
   have hE:=XB (d:=d) (w:=w) (b:=o) (by omega) (by omega)
   have hC:=zfe hWl hW.2 (d:=d) (w:=w) (o:=o) (by omega) (by omega)
   rw[show zA [W]=[.sl 1 (ws W)] from rfl,show ((([.sl 1 (ws W)]:List PV).length:Nat):Int)=1 from rfl,show ((1:Int)==1)=true from rfl,show decide ((0:Int)<1)=true from rfl,show decide ((1:Nat)=1)=true from rfl]
   dsimp only[zr,zph,zpj,vd,zc]
   rw[hE]
   dsimp only[zf,zg,zpj]
   rw[hC]
   rfl
  |x::y::r,_,_=>
   rw[ZH,show ((((x::y::r).length:Nat):Int)==1)=false from beq_eq_false_iff_ne.2 (by simp only[zpl];omega)]
   rfl
def ua (a:List Int) (x:List Int×Bool):List Int×Bool:=(a++x.1,x.2)
def DRel (r:Dr) (lim:Int) (out:List Int) (x:List Int×Bool):Prop :=
 ((out.length:Int)+8*x.1.length<=lim->r.e=(if x.2=true then 2 else 0)/\(x.2=false->r.o=out++zu x.1))/\(lim<(out.length:Int)+8*x.1.length->r.e=1)
theorem DRel.pre {r:Dr} {lim:Int} {out a:List Int} {x:List Int×Bool} (h:DRel r lim (out++zu a) x):DRel r lim out (ua a x):=by
 have hl:(out++zu a).length=out.length+8*a.length:=by rw[zpk,y3]
 have hp:(ua a x).1.length=a.length+x.1.length:=by simp[ua]
 obtain ⟨h1,h2⟩:=h
 refine ⟨fun h=>?_,fun h=>h2 (by omega)⟩
 obtain ⟨e1,e2⟩:=h1 (by omega)
 refine ⟨e1,fun hc=>?_⟩
 rw[e2 hc,List.append_assoc]
 show _=out++zu (a++x.1)
 rw[JJ]
end Go.Proofs.YtjbjeeoifhegfaaGreatDoor.E
