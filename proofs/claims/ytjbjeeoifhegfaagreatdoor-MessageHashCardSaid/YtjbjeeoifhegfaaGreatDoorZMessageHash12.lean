/- This text is one of those that prove the law MessageHash of the given program, as its statement says it: true on every input that the statement covers. Its conditions are the statement's own. -/
import Derived.Below
import Derived.ProofKit
import Derived.OpenShut
import Derived.Stop.Joined
import Derived.LaidMore
import Derived.Deep.Slices
import Derived.Test.YtjbjeeoifhegfaaGreatDoorRows
import Derived.Maps.OwnSet
import Derived.Maps.Keyed
import Derived.LaidSub
import Derived.Lib.LaidTab
import Derived.WalkKit
import Derived.LaidEql
import Derived.Stop.Asserts
import Derived.RowKitTokens
import Derived.Stop.LaidTwo
import Derived.LaidHandle
import Derived.Test.YtjbjeeoifhegfaaGreatDoorZMessageHash1
import Derived.Test.YtjbjeeoifhegfaaGreatDoorZMessageHash2
import Derived.Test.YtjbjeeoifhegfaaGreatDoorZMessageHash3
import Derived.Test.YtjbjeeoifhegfaaGreatDoorZMessageHash4
import Derived.Test.YtjbjeeoifhegfaaGreatDoorZMessageHash5
import Derived.Test.YtjbjeeoifhegfaaGreatDoorZMessageHash6
import Derived.Test.YtjbjeeoifhegfaaGreatDoorZMessageHash7
import Derived.Test.YtjbjeeoifhegfaaGreatDoorZMessageHash8
import Derived.Test.YtjbjeeoifhegfaaGreatDoorZMessageHash9
import Derived.Test.YtjbjeeoifhegfaaGreatDoorZMessageHash10
import Derived.Test.YtjbjeeoifhegfaaGreatDoorZMessageHash11
set_option linter.unusedVariables false
set_option linter.unusedSimpArgs false
open List renaming getElem?_cons_zero->zmQ
open List renaming getElem?_cons_succ->zmR
open Option renaming bind_some->zmS
open List renaming length_append->zmT
open List renaming length_cons->zmU
open List renaming nil_append->zmV
open Option.some renaming injEq->zmX
namespace Go.Proofs.YtjbjeeoifhegfaaGreatDoor.E
open Go.RowKit
def g0 (w:World):Nat->Option (Array Value):=fun b=>match w.heap[b]? with
 |some (.cells c _ _)=>some c
 |_=>none
def G0 (w:World):Gh:=⟨g0 w,fun _=>none,fun b=>if b<w.heap.size then some .imm else none⟩
theorem zhQ {w:World} {b:Nat} {c:Array Value} (h:g0 w b=some c):∃ T f,w.heap[b]? = some (.cells c T f):=by
 unfold g0 at h
 split at h
 ·rename_i c' T f hb;cases h;exact ⟨T,f,hb⟩
 ·cases h
theorem Zz {w:World} {a:Addr} {u:Value} (h:w.cell? a=some u):a.spot=none/\∃ c,g0 w a.block=some c/\c[a.off]? = some u:=by
 unfold World.cell? at h
 split at h
 ·rename_i c T f hb
  cases hs:a.spot with
  |some s=>simp[hs] at h
  |none=>simp only[hs,Option.isSome_none,Bool.false_eq_true,if_false] at h;exact ⟨rfl,c,by unfold g0;rw[hb],h⟩
 ·cases h
theorem zmj {P:Program} {E:Env} {w:World} (hmaps:∀ g l,find E.maps g=some l->∃ v c,g0 w g=some c/\c[0]? = some v/\MRel P E (G0 w) w g v) (hglob:∀ g p,find E.glob g=some p->ERel (G0 w) p 0 (.pointer (some ⟨g,0,none⟩)))
  (hsen:∀ g,find E.glob g=some (.sen g)->∃ c a ca ta,g0 w g=some c/\c[0]? = some (.iface E.sty (.pointer (some a)))/\w.heap[a.block]? = some (.cells ca ta (0,0)))
  (hdst:∀ g1 g2 c1 c2,find E.glob g1=some (.sen g1)->find E.glob g2=some (.sen g2)->g1≠g2->g0 w g1=some c1->g0 w g2=some c2->c1[0]?≠c2[0]?)
  (hfix:∀ g v,find E.fix g=some v->∃ c,g0 w g=some c/\c[0]? = some v):WOk P E (G0 w) w:=by
 refine ⟨fun b c hb=>?_,fun b h hb=>?_,hmaps,hglob,fun g hg=>by
  obtain ⟨c,a,ca,ta,h1,h2,h3⟩:=hsen g hg
  exact ⟨c,a,ca,ta,h1,h2,if_pos (Array.getElem?_eq_some_iff.1 h3).1,h3⟩,hdst,hfix⟩
 ·obtain ⟨T,f,h⟩:=zhQ hb
  exact ⟨if_pos (Array.getElem?_eq_some_iff.1 h).1,T,f,h⟩
 ·by_cases hl:b<w.heap.size
  ·exact hl
  ·rw[show (G0 w).ka b=none from if_neg hl] at hb;cases hb
theorem zfg {w w':World} {G':Gh} (f:Fr (G0 w) w G' w' X0):Below w.heap.size w w' :=
 ⟨f.os,f.tape,f.output,f.size,fun k hk=>(f.ka k .imm (if_pos hk) X0_old.1).2⟩
theorem zkP {P:Program} {E:Env} {yc:List (Nat×Func)} (hm:P.follows .mixedOrders=true) (hS:SysOk P E) (wk:∀ f fn,find yc f=some fn->P.funcs[f]? = some fn/\fn.body.isSome=true/\(fn.name == "runtime.NumGoroutine")=false) (Xw:Kq P E)
  {w:World} (hw:WOk P E (G0 w) w) {f:Nat} {ps:List PV} {vs:Array Value} (hsz:vs.size=ps.length) (hps:∀ (j:Nat) (p:PV) (x:Value),ps[j]? = some p->vs[j]? = some x->PRep (g0 w) p x)
  (hv:val E yc f (ps.map .pv) []=some (.ret (.pv (.v (.bool true))),[])):Calls P f vs w fun e w' => e = .returned (.bool true)/\Below w.heap.size w w':=by
 obtain ⟨k,hk⟩:=zl0 hv
 refine ((zhs hm hS wk Xw k).1 f _ _ _ _ hk (G0 w) w vs ⟨hw,fun l cs hl=>(by simp at hl),fun l b hb=>(by cases hb),(by simpa using hsz),fun j q x hq hx=>?_⟩).mono fun e w' he=>?_
 ·rw[List.getElem?_map] at hq
  cases hj:ps[j]? with
  |none=>simp[hj] at hq
  |some p=>
   simp only[hj,Option.map_some,zmX] at hq
   subst hq
   exact .inl ⟨rfl,fun _=>hps j p x hj hx⟩
 ·obtain ⟨G',f',_,_,_,ho⟩:=he
  refine ⟨?_,zfg f'⟩
  cases e with
  |returned v=>
   have:PRep G'.g (.v (.bool true)) v:=ho
   rw[y4 this]
  |panicked c=>exact ho.elim
  |outgrown=>exact ho.elim
structure Enc (α:Type) where
 cells:α->List PV
 sz:Nat
 agg:Bool
 len:∀ a,(cells a).length=sz
 one:agg=false->sz=1
def Enc.pv {α:Type} (e:Enc α) (a:α):PV:=if e.agg then .agg (e.cells a) else (e.cells a).headD (.v .nilFunc)
def RdsAt {H α:Type} (enc:TypeId×Value->H) (P:Program) (w:World) (n:Nat) (t:TypeId) (e:Enc α) (S:α->DataW H->Prop):Prop :=
 ∀ cs x,DataW.trod enc P w 0 (fun _=>true) true n t cs=some x->∃ a,cs.length=e.sz/\(∀ (j:Nat) (q:PV) (u:Value),(e.cells a)[j]? = some q->cs[j]? = some u->q.isCell=true/\PRep (g0 w) q u)/\S a x.1
def V8 (k:IntKind):Enc Int:=⟨fun n=>[.v (.int k n)],1,false,fun _=>rfl,fun _=>rfl⟩
def Jb:Enc Bool:=⟨fun b=>[.v (.bool b)],1,false,fun _=>rfl,fun _=>rfl⟩
def Xo {α:Type} (e:Enc α):Enc (List α):=⟨fun l=>[.sl e.sz (l.map e.pv)],1,false,fun _=>rfl,fun _=>rfl⟩
def DI {H:Type} (k:IntKind) (n:Int) (x:DataW H):Prop:=x=.lit (.int k n)/\(Lit.int k n).wf=true
def DB {H:Type} (b:Bool) (x:DataW H):Prop:=x=.lit (.bool b)
inductive DAll {H α:Type} (S:α->DataW H->Prop):List α->List (DataW H)->Prop
 |nil:DAll S [] []
 |cons {a:α} {x:DataW H} {us:List α} {xs:List (DataW H)}:S a x->DAll S us xs->DAll S (a::us) (x::xs)
def DS {H α:Type} (S:α->DataW H->Prop) (xs:List α) (x:DataW H):Prop:=xs.length<=9223372036854775807/\((xs=[]/\x=.nil)∨∃ es rest,x=.slice es rest/\DAll S xs es)
theorem DAll.mem {H α:Type} {S:α->DataW H->Prop} {us:List α} {xs:List (DataW H)} (h:DAll S us xs) {a:α} (ha:a∈us):∃ x,x∈xs/\S a x:=by
 induction h with
 |nil=>cases ha
 |cons h0 _ ih=>
  rcases List.mem_cons.1 ha with rfl|ha
  ·exact ⟨_,List.mem_cons_self,h0⟩
  ·obtain ⟨x,hx,hs⟩:=ih ha
   exact ⟨x,List.mem_cons_of_mem _ hx,hs⟩
theorem DAll.length {H α:Type} {S:α->DataW H->Prop} {us:List α} {xs:List (DataW H)} (h:DAll S us xs):us.length=xs.length:=by
 induction h with
 |nil=>rfl
 |cons _ _ ih=>simp[ih]
theorem DS.mem {H α:Type} {S:α->DataW H->Prop} {xs:List α} {x:DataW H} (h:DS S xs x) {a:α} (ha:a∈xs):∃ y,S a y:=by
 rcases h.2 with ⟨rfl,_⟩|⟨es,rest,_,h⟩
 ·cases ha
 ·obtain ⟨y,_,hs⟩:=h.mem ha
  exact ⟨y,hs⟩
theorem DAll.of_get {H α:Type} {S:α->DataW H->Prop}:∀ {us:List α} {xs:List (DataW H)},us.length=xs.length->(∀ (i:Nat) (a:α) (x:DataW H),us[i]? = some a->xs[i]? = some x->S a x)->DAll S us xs
 |[],[],_,_=>.nil
 |[],_::_,h,_=>by simp at h
 |_::_,[],h,_=>by simp at h
 |a::us,x::xs,h,hg=>.cons (hg 0 a x rfl rfl) (DAll.of_get (by simpa using h) fun i b y hb hy=>hg (i+1) b y (by simpa using hb) (by simpa using hy))
section
variable {H α β:Type} {enc:TypeId×Value->H} {P:Program} {w:World} {n:Nat} {t e:TypeId}
theorem Enc.pv_cells (d:Enc α) (a:α) (hc:∀ q∈d.cells a,q.isCell=true):(d.pv a).cells=d.cells a:=by
 unfold Enc.pv
 cases ha:d.agg with
 |true=>rfl
 |false=>
  simp only[Bool.false_eq_true,if_false]
  have h1:=d.one ha
  have h2:=d.len a
  match hcs:d.cells a with
  |[]=>rw[hcs] at h2;simp at h2;omega
  |[q]=>
   have:=hc q (by rw[hcs];exact List.mem_cons_self)
   simp only[List.headD_cons]
   cases q<;>simp_all [PV.cells,PV.isCell]
  |q::r::l=>rw[hcs] at h2;simp at h2;omega
theorem RdsAt.zero (t:TypeId) (d:Enc α) (S:α->DataW H->Prop):RdsAt enc P w 0 t d S:=by
 intro cs x h
 simp[DataW.trod] at h
theorem RdsAt.int {k:IntKind} (ht:P.underlying t=some (.int k)):RdsAt enc P w n t (V8 k) (DI k):=by
 intro cs x h
 obtain ⟨m,rfl,rfl,hw⟩:=DataW.trod_int ht h
 refine ⟨m,rfl,fun j q u hq hu=>?_,rfl,hw⟩
 cases j with
 |zero=>simp[V8] at hq hu;subst hq;subst hu;exact ⟨rfl,.v rfl⟩
 |succ j=>simp[V8] at hq
theorem RdsAt.bool (ht:P.underlying t=some .bool):RdsAt enc P w n t Jb DB:=by
 intro cs x h
 obtain ⟨b,rfl,rfl⟩:=DataW.trod_bool ht h
 refine ⟨b,rfl,fun j q u hq hu=>?_,rfl⟩
 cases j with
 |zero=>simp[Jb] at hq hu;subst hq;subst hu;exact ⟨rfl,.v rfl⟩
 |succ j=>simp[Jb] at hq
theorem zaQ {f:α->Option β}:∀ {l:List α} {r:List β},l.mapM f=some r->r.length=l.length/\∀ (i:Nat) (x:α),l[i]? = some x->f x=r[i]?
 |[],r,h=>by simp at h;subst h;simp
 |a::l,r,h=>by
  simp only[List.mapM_cons,Option.bind_eq_bind,Option.bind_eq_some_iff,Option.pure_def,zmX] at h
  obtain ⟨b,hb,r',hr,rfl⟩:=h
  obtain ⟨h1,h2⟩:=zaQ hr
  refine ⟨by simp[h1],fun i x hx=>?_⟩
  cases i with
  |zero=>simp at hx;subst hx;simpa using hb
  |succ i=>simp at hx;simpa using h2 i x hx
theorem zgj {w:World} {a:Addr} {n:Nat} {cs:List Value} (h:w.cells? 0 a n=some cs):cs.length=n/\∀ (i:Nat) (u:Value),cs[i]? = some u->w.cell? (a.add i)=some u:=by
 simp only[World.cells?,Nat.zero_le,if_true] at h
 obtain ⟨h1,h2⟩:=zaQ h
 refine ⟨by simpa using h1,fun i u hu=>?_⟩
 have hi:i<n:=by have:=(List.getElem?_eq_some_iff.1 hu).1;simp at h1;omega
 rw[h2 i i (by simp[hi]),hu]
theorem jN {p:Nat->α->Prop}:∀ (m:Nat),(∀ i,i<m->∃ a,p i a)->∃ l:List α,l.length=m/\∀ (i:Nat) (a:α),l[i]? = some a->p i a
 |0,_=>⟨[],rfl,fun i a h=>by simp at h⟩
 |m+1,h=>by
  obtain ⟨l,hl,hp⟩:=jN m (fun i hi=>h i (by omega))
  obtain ⟨a,ha⟩:=h m (by omega)
  refine ⟨l++[a],by simp[hl],fun i b hb=>?_⟩
  rcases Nat.lt_or_ge i l.length with hi|hi
  ·rw[List.getElem?_append_left hi] at hb
   exact hp i b hb
  ·have:i=l.length:=by
    have:=(List.getElem?_eq_some_iff.1 hb).1
    simp at this
    omega
   subst this
   simp at hb
   subst hb
   rw[hl]
   exact ha
theorem RdsAt.slice {d:Enc α} {S:α->DataW H->Prop} (ht:P.underlying t=some (.slice e)) (hc:P.cellsOf e=d.sz) (h0:0<d.sz) (h:RdsAt enc P w n e d S):RdsAt enc P w (n+1) t (Xo d) (DS S):=by
 intro cs x hx
 rcases DataW.trod_slice ht hx with ⟨rfl,rfl⟩|⟨a,len,cap,elems,rest,m,hm,rfl,rfl,_,hl,hcap,hlen,hel,_⟩
 ·refine ⟨[],rfl,fun j q u hq hu=>?_,by simp,.inl ⟨rfl,rfl⟩⟩
  cases j with
  |zero=>simp[Xo] at hq hu;subst hq;subst hu;exact ⟨rfl,.sl0⟩
  |succ j=>simp[Xo] at hq
 ·obtain rfl:n=m:=by omega
  have key:∀ i,i<len->∃ p:α,(∀ (j:Nat),j<d.sz->∃ q u,(d.cells p)[j]? = some q/\w.cell? (a.add (i*d.sz+j))=some u/\q.isCell=true/\PRep (g0 w) q u)/\∃ y,elems[i]? = some y/\S p y.1:=by
   intro i hi
   have h1:=hel i hi
   rw[List.getElem?_eq_getElem (by omega:i<elems.length)] at h1
   obtain ⟨c,hc1,hc2⟩:=Option.bind_eq_some_iff.mp h1
   obtain ⟨p,hp1,hp2,hs⟩:=h c _ hc2
   obtain ⟨k1,k2⟩:=zgj hc1
   refine ⟨p,fun j hj=>?_,_,List.getElem?_eq_getElem (by omega),hs⟩
   have hjc:j<c.length:=by omega
   have hjd:j<(d.cells p).length:=by rw[d.len];exact hj
   obtain ⟨g1,g2⟩:=hp2 j _ _ (List.getElem?_eq_getElem hjd) (List.getElem?_eq_getElem hjc)
   refine ⟨_,_,List.getElem?_eq_getElem hjd,?_,g1,g2⟩
   have:=k2 j _ (List.getElem?_eq_getElem hjc)
   rwa [Deep.add_add,hc] at this
  obtain ⟨ps,hpl,hps⟩:=jN len key
  have hcell:∀ p∈ps,∀ q∈d.cells p,q.isCell=true:=fun p hp q hq=>by
   obtain ⟨i,hi,rfl⟩:=List.getElem_of_mem hp
   obtain ⟨j,hj,rfl⟩:=List.getElem_of_mem hq
   rw[d.len] at hj
   obtain ⟨q',u,e1,e2,e3,e4⟩:=(hps i _ (List.getElem?_eq_getElem hi)).1 j hj
   rw[List.getElem?_eq_getElem (by rw[d.len];exact hj)] at e1
   cases e1
   exact e3
  have hpv:∀ p∈ps,(d.pv p).cells=d.cells p:=fun p hp=>d.pv_cells p (hcell p hp)
  refine ⟨ps,rfl,fun j q u hq hu=>?_,by rw[hpl];unfold maxLen at hcap;omega,.inr ⟨_,_,rfl,?_⟩⟩
  ·cases j with
   |succ j=>simp[Xo] at hq
   |zero=>
    simp[Xo] at hq hu
    subst hq
    subst hu
    refine ⟨rfl,?_⟩
    match hlen0:len with
    |0=>
     have:ps=[]:=List.length_eq_zero_iff.1 hpl
     subst this
     exact .sl0
    |m+1=>
    have hl0:0<ps.length:=by omega
    obtain ⟨q0,u0,_,e2,_,_⟩:=(hps 0 _ (List.getElem?_eq_getElem hl0)).1 0 h0
    rw[show 0*d.sz+0=0 by omega,show a.add 0=a by simp[Addr.add]] at e2
    obtain ⟨hs,c,hg,_⟩:=Zz e2
    obtain ⟨ab,ao,as0⟩:=a
    simp only at hs hg
    subst hs
    have hadd:∀ k,(⟨ab,ao,none⟩:Addr).add k=⟨ab,ao+k,none⟩:=fun k=>by
     unfold Addr.add
     split
     ·rename_i hk;subst hk;rfl
     ·rfl
    have hcells:∀ (i:Nat) (p:α),ps[i]? = some p->∀ (j:Nat),j<d.sz->∃ q u,(d.cells p)[j]? = some q/\c[ao+i*d.sz+j]? = some u/\q.isCell=true/\PRep (g0 w) q u:=fun i p hp j hj=>by
     obtain ⟨q,u,e1,e2,e3,e4⟩:=(hps i p hp).1 j hj
     rw[hadd] at e2
     obtain ⟨_,c',hg',hcu⟩:=Zz e2
     simp only at hg' hcu
     rw[hg] at hg'
     cases hg'
     exact ⟨q,u,e1,by rw[Nat.add_assoc];exact hcu,e3,e4⟩
    have hrep:∀ (i:Nat) (x:PV) (j:Nat) (q:PV) (u:Value),(ps.map d.pv)[i]? = some x->x.cells[j]? = some q->c[ao+i*d.sz+j]? = some u->q.isCell=true/\PRep (g0 w) q u:=fun i x j q u hx hq hu=>by
     rw[List.getElem?_map] at hx
     cases hp:ps[i]? with
     |none=>simp[hp] at hx
     |some p=>
      simp only[hp,Option.map_some,zmX] at hx
      subst hx
      rw[hpv p (List.mem_of_getElem? hp)] at hq
      have hj:j<d.sz:=by rw[←d.len p];exact (List.getElem?_eq_some_iff.1 hq).1
      obtain ⟨q',u',e1,e2,e3,e4⟩:=hcells i p hp j hj
      rw[hq] at e1
      rw[hu] at e2
      cases e1;cases e2
      exact ⟨e3,e4⟩
    have hlast:ao+ps.length*d.sz<=c.size:=by
     obtain ⟨q,u,_,e2,_⟩:=hcells (ps.length-1) _ (List.getElem?_eq_getElem (by omega)) (d.sz-1) (by omega)
     have:=(Array.getElem?_eq_some_iff.1 e2).1
     have e:ps.length*d.sz=(ps.length-1)*d.sz+d.sz:=by
      rw[←Nat.succ_mul]
      congr 1
      omega
     omega
    have hfin:=PRep.sl (g:=g0 w) (sz:=d.sz) (b:=ab) (o:=ao) (cap:=cap) (xs:=ps.map d.pv) (c:=c) hg (by simp[hpl];omega) (by simpa using hlast) (fun x hx=>by
      obtain ⟨p,hp,rfl⟩:=List.mem_map.1 hx
      rw[hpv p hp,d.len]) (fun i x j q u hx hq hu=>(hrep i x j q u hx hq hu).1) (fun i x j q u hx hq hu=>(hrep i x j q u hx hq hu).2)
    rw[List.length_map,hpl] at hfin
    exact hfin
  ·refine DAll.of_get (by simp[hpl,hlen]) fun i p y hp hy=>?_
   obtain ⟨_,z,hz,hs⟩:=hps i p hp
   rw[List.getElem?_map,hz] at hy
   simp at hy
   subst hy
   exact hs
theorem zbE {d:Enc α} {S:α->DataW H->Prop} (h:∀ n,RdsAt enc P w n t d S) {v:Value} {x:DataW H} {ps:List MemPlace} (hag:d.agg=false->v.cells=#[v]) (hag':d.agg=true->∃ vs,v=.agg vs) (hv:DataW.Trod enc P w 0 (fun _=>true) true t v x ps):∃ a,PRep (g0 w) (d.pv a) v/\S a x:=by
 obtain ⟨fuel,hf⟩:=hv
 obtain ⟨a,h1,h2,h3⟩:=h fuel _ _ hf
 refine ⟨a,?_,h3⟩
 unfold Enc.pv
 cases ha:d.agg with
 |true=>
  obtain ⟨vs,rfl⟩:=hag' ha
  simp only[if_true]
  have e:(Value.agg vs).cells=vs:=rfl
  rw[e] at h1 h2
  refine .agg (by rw[d.len];simpa using h1) (fun q hq=>?_) (fun j q u hq hu=>(h2 j q u hq (by simpa using hu)).2)
  obtain ⟨j,hj,rfl⟩:=List.getElem_of_mem hq
  have hj':j<vs.size:=by rw[d.len] at hj;simp at h1;omega
  exact (h2 j _ vs[j] (List.getElem?_eq_getElem hj) (by simp[hj'])).1
 |false=>
  simp only[Bool.false_eq_true,if_false]
  have hl:=d.len a
  rw[d.one ha] at hl
  obtain ⟨q,hq⟩:=List.length_eq_one_iff.1 hl
  rw[hq]
  simp only[List.headD_cons]
  rw[hag ha] at h2
  exact (h2 0 q v (by rw[hq];rfl) rfl).2
end
open Go.RowKit Go.WideMaps Go.WideElems
theorem hm:Tryz.prog.follows .mixedOrders=true:=by kernel_rfl
theorem hS:SysOk Tryz.prog env:=zld (by kernel_rfl)
def ul (f:Nat) (fn:Func):Prop:=Tryz.prog.funcs[f]? = some fn/\fn.body.isSome=true/\(fn.name == "runtime.NumGoroutine")=false
def Kn:List (Nat×Func)->Prop
 |[]=>True
 |p::l=>ul p.1 p.2/\Kn l
theorem jS:∀ {l:List (Nat×Func)} {f:Nat} {fn:Func},Kn l->find l f=some fn->ul f fn
 |[],_,_,_,h=>by cases h
 |(k,a)::l,f,fn,hl,h=>by
  unfold find at h
  split at h
  ·rename_i hk
   cases h
   subst hk
   exact hl.1
  ·exact jS hl.2 h
set_option maxRecDepth 100000 in
theorem zhC:Kn yc:=by repeat' first|exact trivial|refine ⟨?_,?_⟩|kernel_rfl
theorem wk:∀ f fn,find yc f=some fn->Tryz.prog.funcs[f]? = some fn/\fn.body.isSome=true/\(fn.name == "runtime.NumGoroutine")=false:=fun f fn h=>jS zhC h
def opsOf:Code->List Oper
 |.region _ ops _=>ops.toList
 |_=>[]
def zh5:Code->Nat
 |.region id _ _=>id
 |_=>0
noncomputable def vu:Code:=Tryz.f275.body.getD .skip
noncomputable def cl0:Oper:=(opsOf (sub vu [1,0,0]))[0]?.getD { dst:=none,op:=.move (.tmp 0),type:=0,pos:= "",after:=#[],guard:=none }
noncomputable def cl1:Oper:=(opsOf (sub vu [1,0,0]))[1]?.getD { dst:=none,op:=.move (.tmp 0),type:=0,pos:= "",after:=#[],guard:=none }
theorem zgs (xs:List PV) (st1:St) (h:zS env Ze 8 275 1 0 (sub vu [0]) ⟨fun t=>(([.pv (.sl 1 xs)]:List AV)[t]?).getD .dead,[]⟩=some (.normal,st1)):st1.sl 0=.pv (.sl 1 xs):=by
 have:(zS env Ze 8 275 1 0 (sub vu [0]) ⟨fun t=>(([.pv (.sl 1 xs)]:List AV)[t]?).getD .dead,[]⟩).map (fun r=>r.2.sl 0)=some (.pv (.sl 1 xs)):=by kernel_rfl
 rw[h] at this
 simpa using this
theorem zgt:Xh env 8 275 Tryz.f275.results.toList (sub vu [0]) (.seq (sub vu [1,0,1,0,0]) .ret) 1 []=some (.ret (.slu 5 1 []),[]):=by kernel_rfl
theorem zgu (xs:List PV):Xh env 8 275 Tryz.f275.results.toList (sub vu [0]) (.seq (sub vu [1,1,0]) .ret) 1 xs=cond (yk (([]:List PV).length+xs.length) 1) (some (.ret (.slu 5 1 xs),[])) none:=by kernel_rfl
theorem zgw {args:List AV} {H:zf} {out:Out} {H':zf} (hc:clone env (5,1,1) args H=some (out,H')) {G:Gh} {w:World} {vs:Array Value} (pre:PreC Tryz.prog env G w args vs H) :
  Calls Tryz.prog 275 vs w fun e w' => w5 Tryz.prog env G w H' out e w' :=
 zgx hm hS Tryz.func275 (T:=22) (e:=5) (id1:=zh5 (sub vu [1,0,0])) (o0:=cl0) (o1:=cl1) (R0:=sub vu [0]) (R2:=sub vu [1,0,1,0,0]) (R3:=sub vu [1,1,0]) Tryz.underlying22 (by kernel_rfl) (by kernel_rfl) (by kernel_rfl) (by kernel_rfl) (by kernel_rfl) (by kernel_rfl) (by kernel_rfl) (of_decide_eq_true (by kernel_rfl)) zgs zgt (fun xs h=>(zgu xs).trans (by rw[show ([]:List PV).length+xs.length=xs.length from Nat.zero_add _,h];rfl)) hc (by decide) pre
open Go.RowKit Go.Extern.Stop Go.Stop Go.Extern
theorem Xq {P:Program} {E:Env} {G:Gh} {w w':World} {p:PV} {v:Value} (wo:WOk P E G w) (hb:Below w.heap.size w w') (hp:PRep G.g p v):w5 P E G w [] (.ret (.pv p)) (.returned v) w':=by
 have f:Fr G w G w' X0:=⟨fun _ _ h=>h,fun _ _ h=>h,fun b k hk _=>⟨hk,hb.block b (wo.dom b k hk)⟩,X0_old,hb.os,hb.tape,hb.output,hb.size⟩
 refine ⟨G,f,rfl,wo.fr f (fun b c hc=>?_) (fun b k hk=>Nat.lt_of_lt_of_le (wo.dom b k hk) hb.size),fun l cs hl=>(by simp at hl),hp⟩
 obtain ⟨k1,T,q,k2⟩:=wo.imm b c hc
 exact ⟨k1,T,q,(hb.block b (wo.dom b _ k1)).trans k2⟩
theorem zke (t:Addr) (w:World):(ReflectliteValue.unpack (.iface 154 (.pointer (some t)))).run Tryz.prog w
  = .ok (.agg #[.pointer (some ⟨6,154,none⟩),.pointer (some ⟨w.heap.size,0,none⟩),.int .u64 150]) (w.alloc (.cells #[.pointer (some t)] 154)):=by kernel_rfl
theorem zj6 (a:Addr) (w:World):(ReflectliteValue.methodAny (ReflectliteValue.valueError "reflectlite.Value.Type" 0) (fun t _ _ _=>ReflectliteType.toType t) #[.agg #[.pointer (some ⟨6,154,none⟩),.pointer (some a),.int .u64 150]]).run Tryz.prog w
  = .ok (.iface 265 (.agg #[.pointer (some ⟨6,154,none⟩)])) w:=by kernel_rfl
theorem zjL (h:Value) (w:World):(Go.method 466 265 (.agg #[h]) "Kind").run Tryz.prog w=.ok (313,h) w:=by kernel_rfl
theorem zjE (w:World):((ReflectliteType.abiMethod fun t=>(fun a:Nat=>Value.int IntKind.u8 (a:Int)) <$> Rtype.kind t) #[.pointer (some ⟨6,154,none⟩)]).run Tryz.prog w=.ok (.int .u8 22) w:=by kernel_rfl
theorem zjD (w:World):((ReflectliteType.abiMethod fun t=>(fun a:Nat=>Value.int IntKind.u8 (a:Int)) <$> Rtype.kind t) #[.pointer (some ⟨6,152,none⟩)]).run Tryz.prog w=.ok (.int .u8 25) w:=by kernel_rfl
theorem rlm (z:Sem Value) (f:TypeId->Addr->Nat->Nat->Sem Value) (v:Value) :
  ReflectliteValue.method z f #[v]=(do match ←ReflectliteValue.parts v with|none=>z|some (t,a,fl)=>f t a fl (fl%32)):=rfl
theorem zbp (a:Addr) (w:World):(ReflectliteValue.parts (.agg #[.pointer (some ⟨6,154,none⟩),.pointer (some a),.int .u64 150])).run Tryz.prog w=.ok (some (154,a,150)) w:=by kernel_rfl
theorem zjC (a p:Addr) (W:World) (ha:W.cell? a=some (.pointer (some p))) :
  (ReflectliteValue.method (ReflectliteValue.valueError "reflectlite.Value.IsNil" 0) ReflectliteValue.isNil #[.agg #[.pointer (some ⟨6,154,none⟩),.pointer (some a),.int .u64 150]]).run Tryz.prog W=.ok (.bool false) W:=by
 rw[rlm]
 simp only[Sem.run_bind,zbp,Result.andThen]
 simp[ReflectliteValue.isNil,loadVar,isAgg,underlying,Tryz.underlying154,ha,Result.andThen]
theorem zjJ (h:Value) (w:World):(Go.method 466 265 (.agg #[h]) "Elem").run Tryz.prog w=.ok (324,.agg #[h]) w:=by kernel_rfl
theorem zjK (h:Value) (w:World):(Go.method 466 265 (.agg #[h]) "Implements").run Tryz.prog w=.ok (325,.agg #[h]) w:=by kernel_rfl
theorem zjI (h:Value) (w:World):(Go.method 466 265 (.agg #[h]) "AssignableTo").run Tryz.prog w=.ok (322,.agg #[h]) w:=by kernel_rfl
theorem zjy (w:World):(ReflectliteType.method ReflectliteType.elem #[.agg #[.pointer (some ⟨6,154,none⟩)]]).run Tryz.prog w=.ok (.iface 265 (.agg #[.pointer (some ⟨6,152,none⟩)])) w:=by kernel_rfl
theorem zjB (w:World):(ReflectliteType.relation "Implements" ReflectliteType.implements_ #[.agg #[.pointer (some ⟨6,152,none⟩)],.iface 265 (.agg #[.pointer (some ⟨6,88,none⟩)])]).run Tryz.prog w=.ok (.bool true) w:=by kernel_rfl
theorem zj7 (v:Value) (w:World):(ReflectliteType.typeOf #[.iface 152 v]).run Tryz.prog w=.ok (.iface 265 (.agg #[.pointer (some ⟨6,152,none⟩)])) w:=by kernel_rfl
theorem zjw (w:World):(ReflectliteType.relation "AssignableTo" ReflectliteType.assignableTo #[.agg #[.pointer (some ⟨6,152,none⟩)],.iface 265 (.agg #[.pointer (some ⟨6,152,none⟩)])]).run Tryz.prog w=.ok (.bool true) w:=by kernel_rfl
theorem zkd (n:Int) (w:World):(ReflectliteValue.unpack (.iface 152 (.agg #[.int .i64 n]))).run Tryz.prog w
  = .ok (.agg #[.pointer (some ⟨6,152,none⟩),.pointer (some ⟨w.heap.size,0,none⟩),.int .u64 153]) (w.alloc (.cells #[.int .i64 n] 152)):=by kernel_rfl
theorem zjz (w:World):(Rtype.elem? 154).run Tryz.prog w=.ok (some 152) w:=by kernel_rfl
theorem zjM (p:Addr) (w:World):(ReflectliteValue.mk 152 p ReflectliteValue.flagAddr).run Tryz.prog w=.ok (.agg #[.pointer (some ⟨6,152,none⟩),.pointer (some p),.int .u64 409]) w:=by kernel_rfl
theorem zjA (a p:Addr) (W:World) (ha:W.cell? a=some (.pointer (some p))) :
  (ReflectliteValue.method (ReflectliteValue.valueError "reflectlite.Value.Elem" 0) ReflectliteValue.elem #[.agg #[.pointer (some ⟨6,154,none⟩),.pointer (some a),.int .u64 150]]).run Tryz.prog W
   = .ok (.agg #[.pointer (some ⟨6,152,none⟩),.pointer (some p),.int .u64 409]) W:=by
 rw[rlm]
 simp only[Sem.run_bind,zbp,Result.andThen]
 simp[ReflectliteValue.elem,loadVar,isAgg,underlying,Tryz.underlying154,ha,Result.andThen,zjz,zjM]
theorem rls (v x:Value):ReflectliteValue.set #[v,x]=(do
  let (some (dst,a,fl),some (src,b,_)):=(←ReflectliteValue.parts v,←ReflectliteValue.parts x)
   |unsupported (.noEntry "extern/(internal/reflectlite.Value).Set.zeroValue")
  if fl/ReflectliteValue.flagAddr%2==0 then unsupported (.noEntry "extern/(internal/reflectlite.Value).Set.unaddressable")
  let val ←loadVar src b
  if ←Rtype.directlyAssignable dst src then storeVar dst a val
  else if ←Rtype.implements dst src then
   if (←Rtype.kind src)==20 then
    match val with
    |.nilIface=>unsupported (.noEntry "extern/reflectlite: a nil value of one interface type handed on as a value of another")
    |_=>storeVar dst a val
   else storeVar dst a (.iface src val)
  else panicString ("reflectlite.Set: value of type " ++ (←Rtype.spelt src)++" is not assignable to type " ++ (←Rtype.spelt dst))
  pure (.tuple #[])):=rfl
theorem zjW (a:Addr) (w:World):(ReflectliteValue.parts (.agg #[.pointer (some ⟨6,152,none⟩),.pointer (some a),.int .u64 409])).run Tryz.prog w=.ok (some (152,a,409)) w:=by kernel_rfl
theorem zjV (a:Addr) (w:World):(ReflectliteValue.parts (.agg #[.pointer (some ⟨6,152,none⟩),.pointer (some a),.int .u64 153])).run Tryz.prog w=.ok (some (152,a,153)) w:=by kernel_rfl
theorem zjx (w:World):(Rtype.directlyAssignable 152 152).run Tryz.prog w=.ok true w:=by kernel_rfl
open Go.RowKit Go.Extern.Stop Go.Stop Go.Extern
theorem zj0 (ta b:Addr) (n m:Int) (W:World) (hbs:b.spot=none) (hts:ta.spot=none) (hb:W.heap[b.block]? = some (.cells #[.int .i64 n] 152 (0,0))) (hbo:b.off=0) (ht:W.cell? ta=some (.int .i64 m)) (hf:W.frozen? ta=false) :
  (ReflectliteValue.set #[.agg #[.pointer (some ⟨6,152,none⟩),.pointer (some ta),.int .u64 409],.agg #[.pointer (some ⟨6,152,none⟩),.pointer (some b),.int .u64 153]]).run Tryz.prog W
   = .ok (.tuple #[]) (W.setCell ta (.int .i64 n)):=by
 obtain ⟨bb,bo,bs⟩:=b
 simp only at hbs hbo hb
 subst hbs hbo
 have hl:(loadVar 152 ⟨bb,0,none⟩).run Tryz.prog W=.ok (.agg #[.int .i64 n]) W:=by
  have h1:=run_loadCells (P:=Tryz.prog) (w:=W) ⟨bb,0,none⟩ 1 (fun _=>.int .i64 n) (fun j hj=>by
   obtain rfl:j=0:=by omega
   simp[World.cell?,hb,Addr.add])
  have hsz:(sizeOf 152).run Tryz.prog W=.ok 1 W:=by kernel_rfl
  have hag:(isAgg 152).run Tryz.prog W=.ok true W:=by kernel_rfl
  simp only[loadVar,Sem.run_bind,hag,Result.andThen,if_true,hsz]
  rw[h1]
  rfl
 rw[rls]
 simp only[Sem.run_bind,zjW,zjV,Result.andThen]
 have hsz:(sizeOf 152).run Tryz.prog W=.ok 1 W:=by kernel_rfl
 simp[ReflectliteValue.flagAddr,hl,Result.andThen,zjx,storeVar,hsz,Value.cells,storeCells,Addr.add]
 rw[run_store Tryz.prog W ta _ _ (by rfl)]
 simp[ht,hf]
open Go.RowKit Go.Extern.Stop Go.Stop Go.Extern
def Y9 (n:Int) (t:Addr) (w:World):World:=((((w.alloc (.cells #[.pointer (some t)] 154)).alloc (.cells #[.pointer (some ⟨6,154,none⟩),.pointer (some ⟨w.heap.size,0,none⟩),.int .u64 150] 216)).alloc (.cells #[.pointer (some ⟨6,154,none⟩),.pointer (some ⟨w.heap.size,0,none⟩),.int .u64 150] 216)).alloc (.cells #[.int .i64 n] 152)).setCell t (.int .i64 n)
theorem zfe (t:Value) (w:World):Calls Tryz.prog 106 #[.nilIface,t] w fun e w' => e = .returned (.bool false)/\w' = w:=by
 go_enter Tryz.func106,Tryz.ntmps106
 go_wp2
 go_ret
 exact ⟨rfl,rfl⟩
set_option maxHeartbeats 4000000 in
theorem zfd (n m:Int) (t:Addr) (w:World) (hts:t.spot=none) (hg:w.cell? ⟨3,0,none⟩=some (.iface 265 (.agg #[.pointer (some ⟨6,88,none⟩)]))) (ht0:w.cell? t=some (.int .i64 m)) (hf0:w.frozen? t=false) :
  Calls Tryz.prog 106 #[.iface 152 (.agg #[.int .i64 n]),.iface 154 (.pointer (some t))] w fun ev w' => ev=.returned (.bool true)/\w' = Y9 n t w:=by
 have h6:=@run_callFunc_extern Tryz.prog 168 _ (fun args=>ReflectliteValue.unpack (args.getD 0 (.tuple #[]))) Tryz.func168 (by kernel_rfl) (by kernel_rfl) (by kernel_rfl) (by kernel_rfl)
 have h7:=@run_callFunc_extern Tryz.prog 169 _ (ReflectliteValue.methodAny (ReflectliteValue.valueError "reflectlite.Value.Type" 0) (fun t _ _ _=>ReflectliteType.toType t)) Tryz.func169 (by kernel_rfl) (by kernel_rfl) (by kernel_rfl) (by kernel_rfl)
 have h8:=@run_callFunc_extern Tryz.prog 170 _ (ReflectliteValue.method (ReflectliteValue.valueError "reflectlite.Value.IsNil" 0) ReflectliteValue.isNil) Tryz.func170 (by kernel_rfl) (by kernel_rfl) (by kernel_rfl) (by kernel_rfl)
 have h27:=@run_callFunc_extern Tryz.prog 313 _ (ReflectliteType.abiMethod fun t=>do pure (.int .u8 (←Rtype.kind t))) Tryz.func313 (by kernel_rfl) (by kernel_rfl) (by kernel_rfl) (by kernel_rfl)
 have h37:=@run_callFunc_extern Tryz.prog 324 _ (ReflectliteType.method ReflectliteType.elem) Tryz.func324 (by kernel_rfl) (by kernel_rfl) (by kernel_rfl) (by kernel_rfl)
 have h38:=@run_callFunc_extern Tryz.prog 325 _ (ReflectliteType.relation "Implements" ReflectliteType.implements_) Tryz.func325 (by kernel_rfl) (by kernel_rfl) (by kernel_rfl) (by kernel_rfl)
 have h10:=@run_callFunc_extern Tryz.prog 226 _ ReflectliteType.typeOf Tryz.func226 (by kernel_rfl) (by kernel_rfl) (by kernel_rfl) (by kernel_rfl)
 have h35:=@run_callFunc_extern Tryz.prog 322 _ (ReflectliteType.relation "AssignableTo" ReflectliteType.assignableTo) Tryz.func322 (by kernel_rfl) (by kernel_rfl) (by kernel_rfl) (by kernel_rfl)
 have h11:=@run_callFunc_extern Tryz.prog 229 _ (ReflectliteValue.method (ReflectliteValue.valueError "reflectlite.Value.Elem" 0) ReflectliteValue.elem) Tryz.func229 (by kernel_rfl) (by kernel_rfl) (by kernel_rfl) (by kernel_rfl)
 have h12:=@run_callFunc_extern Tryz.prog 230 _ ReflectliteValue.set Tryz.func230 (by kernel_rfl) (by kernel_rfl) (by kernel_rfl) (by kernel_rfl)
 have tO:=zj7
 have mA:=zjI
 have a25:=zjw
 have v25:=zkd
 have f6:=zke
 have f7:=zj6
 have mK:=zjL
 have mE:=zjJ
 have mI:=zjK
 have k27:=zjE
 have k25:=zjD
 have e27:=zjy
 have i25:=zjB
 have n8:=zjC ⟨w.heap.size,0,none⟩ t ((w.alloc (.cells #[.pointer (some t)] 154)).alloc (.cells #[.pointer (some ⟨6,154,none⟩),.pointer (some ⟨w.heap.size,0,none⟩),.int .u64 150] 216)) (by simp)
 have hlt:3<w.heap.size:=by
  rcases Nat.lt_or_ge 3 w.heap.size with h|h
  ·exact h
  ·simp[World.cell?,Array.getElem?_eq_none h] at hg
 have hg2:((w.alloc (.cells #[.pointer (some t)] 154)).alloc (.cells #[.pointer (some ⟨6,154,none⟩),.pointer (some ⟨w.heap.size,0,none⟩),.int .u64 150] 216)).cell? ⟨3,0,none⟩=some (.iface 265 (.agg #[.pointer (some ⟨6,88,none⟩)])):=by
  rw[World.cell?_alloc_lt _ _ ⟨3,0,none⟩ (by simp;omega),World.cell?_alloc_lt _ _ ⟨3,0,none⟩ hlt];exact hg
 have htl:t.block<w.heap.size:=by
  rcases Nat.lt_or_ge t.block w.heap.size with h|h
  ·exact h
  ·simp[World.cell?,Array.getElem?_eq_none h] at ht0
 have el:=zjA ⟨w.heap.size,0,none⟩ t (((w.alloc (.cells #[.pointer (some t)] 154)).alloc (.cells #[.pointer (some ⟨6,154,none⟩),.pointer (some ⟨w.heap.size,0,none⟩),.int .u64 150] 216)).alloc (.cells #[.pointer (some ⟨6,154,none⟩),.pointer (some ⟨w.heap.size,0,none⟩),.int .u64 150] 216)) (by rw[World.cell?_alloc_lt _ _ ⟨w.heap.size,0,none⟩ (by simp;omega)];simp)
 have st:=zj0 t ⟨w.heap.size+1+1+1,0,none⟩ n m ((((w.alloc (.cells #[.pointer (some t)] 154)).alloc (.cells #[.pointer (some ⟨6,154,none⟩),.pointer (some ⟨w.heap.size,0,none⟩),.int .u64 150] 216)).alloc (.cells #[.pointer (some ⟨6,154,none⟩),.pointer (some ⟨w.heap.size,0,none⟩),.int .u64 150] 216)).alloc (.cells #[.int .i64 n] 152)) rfl hts
  (by
   generalize hW:(((w.alloc _).alloc _).alloc _:World)=W3
   have hs:W3.heap.size=w.heap.size+1+1+1:=by rw[←hW];simp
   rw[←hs]
   show (W3.heap.push _)[W3.heap.size]? = _
   simp) rfl
  (by rw[World.cell?_alloc_lt _ _ t (by simp;omega),World.cell?_alloc_lt _ _ t (by simp;omega),World.cell?_alloc_lt _ _ t (by simp;omega),World.cell?_alloc_lt _ _ t htl];exact ht0)
  (by rw[World.frozen?_alloc_old _ _ t (by simp;omega),World.frozen?_alloc_old _ _ t (by simp;omega),World.frozen?_alloc_old _ _ t (by simp;omega),World.frozen?_alloc_old _ _ t (Nat.ne_of_lt htl)];exact hf0)
 go_enter Tryz.func106,Tryz.ntmps106
 go_wp2
 refine wp_loop_rounds 1 ?_
 rw[rounds_succ]
 go_wp2
 go_ret
 exact ⟨rfl,rfl⟩
open Go.RowKit Go.Extern.Stop Go.Stop Go.Extern Go.Extern.Rtype
set_option maxHeartbeats 4000000 in
theorem ziW (w:World):Calls Tryz.prog 56 #[.nilIface] w fun e w' => e = .returned (.int .i64 0)/\Below w.heap.size w w':=by
 go_enter Tryz.func56,Tryz.ntmps56
 go_wp2_with (go_at_call 106;refine (zfe _ _).mono ?_;rintro e w' ⟨rfl,rfl⟩)
 go_ret
 exact ⟨rfl,(Below.refl _ w).alloc (Nat.le_refl _) _⟩
theorem zfc (n m:Int) (w:World):(Y9 n ⟨w.heap.size,0,none⟩ (w.alloc (.cells #[.int .i64 m] 152))).cell? ⟨w.heap.size,0,none⟩=some (.int .i64 n):=by
 unfold Y9
 refine World.cell?_setCell_same' _ _ _ ?_
 rw[World.cell?_alloc_lt _ _ ⟨w.heap.size,0,none⟩ (by simp;omega),World.cell?_alloc_lt _ _ ⟨w.heap.size,0,none⟩ (by simp;omega),World.cell?_alloc_lt _ _ ⟨w.heap.size,0,none⟩ (by simp;omega),World.cell?_alloc_lt _ _ ⟨w.heap.size,0,none⟩ (by simp)]
 simp
theorem zfb (n m:Int) (w:World):Below w.heap.size w (Y9 n ⟨w.heap.size,0,none⟩ (w.alloc (.cells #[.int .i64 m] 152))):=by
 unfold Y9
 exact (((((((Below.refl _ w).alloc (Nat.le_refl _) _).alloc (by simp) _).alloc (by simp;omega) _).alloc (by simp;omega) _).alloc (by simp;omega) _).setCell (Nat.le_refl _) _)
set_option maxHeartbeats 4000000 in
theorem ziV (n:Int) (w:World) (hg:w.cell? ⟨3,0,none⟩=some (.iface 265 (.agg #[.pointer (some ⟨6,88,none⟩)]))) :
  Calls Tryz.prog 56 #[.iface 152 (.agg #[.int .i64 n])] w fun e w' => e = .returned (.int .i64 n)/\Below w.heap.size w w':=by
 have hlt:3<w.heap.size:=by
  rcases Nat.lt_or_ge 3 w.heap.size with h|h
  ·exact h
  ·simp[World.cell?,Array.getElem?_eq_none h] at hg
 have hgA:(w.alloc (.cells #[.int .i64 0] 152)).cell? ⟨3,0,none⟩=some (.iface 265 (.agg #[.pointer (some ⟨6,88,none⟩)])):=by
  rw[World.cell?_alloc_lt _ _ ⟨3,0,none⟩ hlt];exact hg
 have htA:(w.alloc (.cells #[.int .i64 0] 152)).cell? ⟨w.heap.size,0,none⟩=some (.int .i64 0):=by simp
 have hfA:(w.alloc (.cells #[.int .i64 0] 152)).frozen? ⟨w.heap.size,0,none⟩=false:=by simp
 have hc:=zfc n 0 w
 have hB:=zfb n 0 w
 generalize hW:Y9 n ⟨w.heap.size,0,none⟩ (w.alloc (.cells #[.int .i64 0] 152))=W at hc hB
 go_enter Tryz.func56,Tryz.ntmps56
 go_wp2_with (go_at_call 106;refine (zfd n 0 _ _ rfl hgA htA hfA).mono ?_;rintro e w' ⟨rfl,h⟩;rw[hW] at h;obtain rfl:=h)
 go_ret
 exact ⟨rfl,hB⟩
def popT:List UInt8:=[0,1,1,2,1,2,2,3,1,2,2,3,2,3,3,4,1,2,2,3,2,3,3,4,2,3,3,4,3,4,4,5,1,2,2,3,2,3,3,4,2,3,3,4,3,4,4,5,2,3,3,4,3,4,4,5,3,4,4,5,4,5,5,6,1,2,2,3,2,3,3,4,2,3,3,4,3,4,4,5,2,3,3,4,3,4,4,5,3,4,4,5,4,5,5,6,2,3,3,4,3,4,4,5,3,4,4,5,4,5,5,6,3,4,4,5,4,5,5,6,4,5,5,6,5,6,6,7,1,2,2,3,2,3,3,4,2,3,3,4,3,4,4,5,2,3,3,4,3,4,4,5,3,4,4,5,4,5,5,6,2,3,3,4,3,4,4,5,3,4,4,5,4,5,5,6,3,4,4,5,4,5,5,6,4,5,5,6,5,6,6,7,2,3,3,4,3,4,4,5,3,4,4,5,4,5,5,6,3,4,4,5,4,5,5,6,4,5,5,6,5,6,6,7,3,4,4,5,4,5,5,6,4,5,5,6,5,6,6,7,4,5,5,6,5,6,6,7,5,6,6,7,6,7,7,8]
theorem zjT:∀ n:Nat,n<256->(popT.toArray[n]?).map UInt8.toNat=some (pop8 n):=by decide +kernel
set_option maxRecDepth 100000 in
set_option maxHeartbeats 4000000 in
theorem zjb (n:Nat) (hn:n<256) (w:World):Calls Tryz.prog 244 #[.int .u8 n] w fun e w' => e = .returned (.int .i64 (pop8 n))/\w' = w:=by
 go_enter Tryz.func244,Tryz.ntmps244
 have e:=zjT n hn
 have hsz:n<popT.toArray.size:=hn
 rw[Array.getElem?_eq_getElem hsz] at e
 have e2:(popT.toArray[n]'hsz).toNat=pop8 n:=Option.some.inj e
 have hle:pop8 n<=8:=by unfold pop8;omega
 go_wp2
 go_ret
 refine ⟨?_,rfl⟩
 show Ending.returned (Value.int .i64 (Go.RowKit.wrap64 (((popT.toArray[n]'hsz).toNat:Nat):Int)))=_
 rw[e2,show Go.RowKit.wrap64 ((pop8 n:Nat):Int)=pop8 n by simp only[Go.RowKit.wrap64];omega]
theorem zaw (v:Value) (w:World):(Extern.ReflectliteType.typeOf #[.iface 331 v]).run Tryz.prog w=.ok (.iface 265 (.agg #[.pointer (some ⟨6,331,none⟩)])) w:=by kernel_rfl
theorem zar (w:World):((Extern.ReflectliteType.method fun t=>do noPackHeld "Comparable" t;(fun a=>Value.bool a.comparable) <$> typeInfo t) #[.agg #[.pointer (some ⟨6,331,none⟩)]]).run Tryz.prog w=.ok (.bool true) w:=by kernel_rfl
theorem zau (v:Value) (w:World):(Go.method 466 265 v "Comparable").run Tryz.prog w=.ok (323,v) w:=by kernel_rfl
theorem zaq:(Tryz.prog.info? 331).map (·.comparable)=some true:=by kernel_rfl
theorem zav:(Tryz.prog.info? 353).map (·.size)=some 1:=by kernel_rfl
theorem ziR (v:Value) (xT:TypeId) (w:World):(Instr.typeAssert (.iface 331 v) xT 309 true).run Tryz.prog w=.ok (.tuple #[.nilIface,.bool false]) w:=run_typeAssert_lacksB Tryz.underlying309 (by kernel_rfl) (by kernel_rfl) v xT w
theorem ziS (v:Value) (xT:TypeId) (w:World):(Instr.typeAssert (.iface 331 v) xT 272 true).run Tryz.prog w=.ok (.tuple #[.nilIface,.bool false]) w:=run_typeAssert_lacksB Tryz.underlying272 (by kernel_rfl) (by kernel_rfl) v xT w
theorem ziT (v:Value) (xT:TypeId) (w:World):(Instr.typeAssert (.iface 331 v) xT 273 true).run Tryz.prog w=.ok (.tuple #[.nilIface,.bool false]) w:=run_typeAssert_lacksB Tryz.underlying273 (by kernel_rfl) (by kernel_rfl) v xT w
theorem zif (a:Addr) (w:World) :
  Calls Tryz.prog 162 #[.iface 331 (.pointer (some a)),.iface 331 (.pointer (some a))] w fun e w' => e = .returned (.bool true)/\w' = w:=by
 obtain ⟨i,hi,hcmp⟩:=Option.map_eq_some_iff.1 zaq
 obtain ⟨j,hj,hjs⟩:=Option.map_eq_some_iff.1 zav
 have h8:=@run_callFunc_extern Tryz.prog 226 _ Extern.ReflectliteType.typeOf Tryz.func226 (by kernel_rfl) (by kernel_rfl) (by kernel_rfl) (by kernel_rfl)
 have h32:=@run_callFunc_extern Tryz.prog 323 _ (Extern.ReflectliteType.method fun t=>do noPackHeld "Comparable" t;pure (.bool (←typeInfo t).comparable)) Tryz.func323 (by kernel_rfl) (by kernel_rfl) (by kernel_rfl) (by kernel_rfl)
 have tT:=zaw
 have cT:=zar
 have mR:=zau
 have heq:=run_eql_iface_ptr_same (P:=Tryz.prog) w a Tryz.underlying88 Tryz.underlying331 hi hcmp hj
 go_enter Tryz.func162,Tryz.ntmps162
 go_wp2
 refine wp_loop_rounds 1 ?_
 rw[rounds_succ]
 go_wp2
 go_ret
 exact ⟨rfl,rfl⟩
theorem zic (b:Addr) (w:World) :
  Calls Tryz.prog 162 #[.nilIface,.iface 331 (.pointer (some b))] w fun e w' => e = .returned (.bool false)/\w' = w:=by
 have hn:=run_eql_iface_nil_left (P:=Tryz.prog) w 331 (.pointer (some b)) Tryz.underlying88
 go_enter Tryz.func162,Tryz.ntmps162
 go_wp2
 go_ret
 exact ⟨rfl,rfl⟩
theorem zie (a b:Addr) (ca cb:Array Value) (ta tb:TypeId) (w:World) (hne:a≠b) (ha:w.heap[a.block]? = some (.cells ca ta (0,0))) (hb:w.heap[b.block]? = some (.cells cb tb (0,0))) :
  Calls Tryz.prog 162 #[.iface 331 (.pointer (some a)),.iface 331 (.pointer (some b))] w fun e w' => e = .returned (.bool false)/\w' = w:=by
 obtain ⟨i,hi,hcmp⟩:=Option.map_eq_some_iff.1 zaq
 obtain ⟨j,hj,hjs⟩:=Option.map_eq_some_iff.1 zav
 have h8:=@run_callFunc_extern Tryz.prog 226 _ Extern.ReflectliteType.typeOf Tryz.func226 (by kernel_rfl) (by kernel_rfl) (by kernel_rfl) (by kernel_rfl)
 have h32:=@run_callFunc_extern Tryz.prog 323 _ (Extern.ReflectliteType.method fun t=>do noPackHeld "Comparable" t;pure (.bool (←typeInfo t).comparable)) Tryz.func323 (by kernel_rfl) (by kernel_rfl) (by kernel_rfl) (by kernel_rfl)
 have tT:=zaw
 have cT:=zar
 have mR:=zau
 have nE:=ziR
 have uE:=ziS
 have vE:=ziT
 have heq:=run_eql_iface_ptr_other (P:=Tryz.prog) w Tryz.underlying88 Tryz.underlying331 hi hcmp hj (by rw[hjs];decide) hne ha hb
 go_enter Tryz.func162,Tryz.ntmps162
 go_wp2
 refine wp_loop_rounds 1 ?_
 rw[rounds_succ]
 go_wp2
 go_ret
 exact ⟨rfl,rfl⟩
open Go.RowKit
set_option maxRecDepth 100000
theorem zcQ {P:Program} {E:Env} {G:Gh} {w:World} {p:PV} {vs:Array Value} (pre:PreC P E G w [.pv p] vs []):∃ x,vs=#[x]/\PRep G.g p x:=by
 have hs:vs.size=1:=pre.sz
 obtain ⟨x,rfl⟩:=Array.size_eq_one_iff.1 hs
 rcases pre.ar 0 (.pv p) x rfl rfl with h|h
 ·exact ⟨x,rfl,h.2 (fun _=>.imm)⟩
 ·cases h.1
theorem zl6 {P:Program} {E:Env} {G:Gh} {w:World} {p q:PV} {vs:Array Value} (pre:PreC P E G w [.pv p,.pv q] vs []):∃ x y,vs=#[x,y]/\PRep G.g p x/\PRep G.g q y:=by
 have hs:vs.size=2:=pre.sz
 obtain ⟨x,y,rfl⟩:∃ x y,vs=#[x,y]:=by
  obtain ⟨l⟩:=vs
  match l,hs with
  |[x,y],_=>exact ⟨x,y,rfl⟩
 refine ⟨x,y,rfl,?_,?_⟩
 ·rcases pre.ar 0 (.pv p) x rfl rfl with h|h
  ·exact h.2 (fun _=>.imm)
  ·cases h.1
 ·rcases pre.ar 1 (.pv q) y rfl rfl with h|h
  ·exact h.2 (fun _=>.imm)
  ·cases h.1
theorem zho {G:Gh} {w:World} (wo:WOk Tryz.prog env G w):w.cell? ⟨3,0,none⟩=some (.iface 265 (.agg #[.pointer (some ⟨6,88,none⟩)])):=by
 obtain ⟨c,h1,h2⟩:=wo.fix 3 _ rfl
 obtain ⟨_,T,f,h3⟩:=wo.imm _ _ h1
 unfold World.cell?
 simp[h3,h2]
theorem ziX {args:List AV} {H:zf} {out:Out} {H':zf} (hc:YK env (0,152) args H=some (out,H')) {G:Gh} {w:World} {vs:Array Value} (pre:PreC Tryz.prog env G w args vs H) :
  Calls Tryz.prog 56 vs w fun e w' => w5 Tryz.prog env G w H' out e w':=by
 unfold YK at hc
 split at hc
 ·rename_i p _
  cases hn:Qx 152 p with
  |none=>simp[hn] at hc
  |some n=>
   simp only[hn,zmS] at hc
   cases H with
   |cons a b=>simp at hc
   |nil=>
    simp only[List.isEmpty_nil,cond_true,zmX,Prod.mk.injEq] at hc
    obtain ⟨rfl,rfl⟩:=hc
    obtain ⟨x,rfl,hx⟩:=zcQ pre
    unfold Qx at hn
    split at hn
    ·cases hn
     cases hx
     exact (ziW w).mono fun e w' ⟨he,hb⟩=>by subst he;exact Xq pre.wo hb (.v rfl)
    ·rename_i t' m
     split at hn
     ·rename_i ht
      cases hn
      subst ht
      cases hx with
      |ifc hu=>
       cases hu with
       |agg h1 h2 h3=>
        rename_i us
        obtain ⟨y,rfl⟩:=Array.size_eq_one_iff.1 h1
        cases h3 0 _ y rfl rfl
        exact (ziV n w (zho pre.wo)).mono fun e w' ⟨he,hb⟩=>by subst he;exact Xq pre.wo hb (.v rfl)
     ·cases hn
    ·cases hn
 ·rename_i h;cases h
 ·rename_i h;cases h
 ·cases hc
theorem zb3 {G:Gh} {w:World} (wo:WOk Tryz.prog env G w) {b:PV} {g:Nat} (h:XP env b=some g) {x:Value} (hx:PRep G.g b x) :
  find env.glob g=some (.sen g)/\∃ c a ca ta,G.g g=some c/\c[0]? = some x/\x=.iface 331 (.pointer (some a))/\w.heap[a.block]? = some (.cells ca ta (0,0)):=by
 unfold XP at h
 split at h
 ·rename_i g0
  split at h
  ·rename_i g' hf
   split at h
   ·rename_i e
    cases h
    subst e
    refine ⟨hf,?_⟩
    obtain ⟨c,a,ca,ta,k1,k2,k3,k4⟩:=wo.sen _ hf
    cases hx with
    |sen h1 h2=>
     obtain rfl:=Option.some.inj (k1.symm.trans h1)
     have e:=Option.some.inj (k2.symm.trans h2)
     exact ⟨c,a,ca,ta,k1,by rw[k2,e],e.symm,k4⟩
   ·cases h
  ·cases h
 ·cases h
theorem zid {args:List AV} {H:zf} {out:Out} {H':zf} (hc:YK env (1,0) args H=some (out,H')) {G:Gh} {w:World} {vs:Array Value} (pre:PreC Tryz.prog env G w args vs H) :
  Calls Tryz.prog 162 vs w fun e w' => w5 Tryz.prog env G w H' out e w':=by
 unfold YK at hc
 split at hc
 ·rename_i h;cases h
 ·rename_i p r _
  cases hn:Qn env p r with
  |none=>simp[hn] at hc
  |some z=>
   simp only[hn,zmS] at hc
   cases H with
   |cons a b=>simp at hc
   |nil=>
    simp only[List.isEmpty_nil,cond_true,zmX,Prod.mk.injEq] at hc
    obtain ⟨rfl,rfl⟩:=hc
    obtain ⟨x,y,rfl,hx,hy⟩:=zl6 pre
    unfold Qn at hn
    cases hg:XP env r with
    |none=>simp[hg] at hn
    |some g=>
     simp only[hg,zmS] at hn
     obtain ⟨f1,c,a,ca,ta,q1,q2,rfl,q4⟩:=zb3 pre.wo hg hy
     split at hn
     ·cases hn
      cases hx
      exact (zic a w).mono fun e w' ⟨he,hb⟩=>by subst he;subst hb;exact Xq pre.wo (Below.refl _ _) (.v rfl)
     ·cases hh:XP env p with
      |none=>simp[hh] at hn
      |some h=>
       simp only[hh,Option.map_some,zmX] at hn
       obtain ⟨f2,c',a',ca',ta',r1,r2,rfl,r4⟩:=zb3 pre.wo hh hx
       by_cases he:h=g
       ·subst he
        obtain rfl:=Option.some.inj (q1.symm.trans r1)
        have e:=Option.some.inj (q2.symm.trans r2)
        obtain rfl:a=a':=by injection e with _ e;injection e with e;injection e
        obtain rfl:z=true:=by rw[←hn];simp
        exact (zif a w).mono fun e w' ⟨he,hb⟩=>by subst he;subst hb;exact Xq pre.wo (Below.refl _ _) (.v rfl)
       ·have hd:=pre.wo.dst h g c' c f2 f1 he r1 q1
        have hne:a'≠a:=fun e=>hd (by rw[r2,q2,e])
        obtain rfl:z=false:=by rw[←hn];simpa using he
        exact (zie a' a _ _ _ _ w hne r4 q4).mono fun e w' ⟨he,hb⟩=>by subst he;subst hb;exact Xq pre.wo (Below.refl _ _) (.v rfl)
 ·rename_i h;cases h
 ·cases hc
theorem zja {args:List AV} {H:zf} {out:Out} {H':zf} (hc:YK env (2,0) args H=some (out,H')) {G:Gh} {w:World} {vs:Array Value} (pre:PreC Tryz.prog env G w args vs H) :
  Calls Tryz.prog 244 vs w fun e w' => w5 Tryz.prog env G w H' out e w':=by
 unfold YK at hc
 split at hc
 ·rename_i h;cases h
 ·rename_i h;cases h
 ·rename_i p _
  cases hm:zj .u8 (.pv p) with
  |none=>simp[hm] at hc
  |some m=>
   have:=JJ hm
   cases this
   simp only[hm,zmS] at hc
   unfold QF at hc
   cases hb:(decide (0<=m)&&decide (m<256)) with
   |false=>simp[hb] at hc
   |true=>
    simp only[Bool.and_eq_true,decide_eq_true_eq] at hb
    simp only[hb,decide_true,Bool.and_self,cond_true,zmS] at hc
    cases H with
    |cons a b=>simp at hc
    |nil=>
     simp only[List.isEmpty_nil,cond_true,zmX,Prod.mk.injEq] at hc
     obtain ⟨rfl,rfl⟩:=hc
     obtain ⟨x,rfl,hx⟩:=zcQ pre
     cases hx
     have:=zjb m.toNat (by omega) w
     rw[Int.toNat_of_nonneg hb.1] at this
     exact this.mono fun e w' ⟨he,hb⟩=>by subst he;subst hb;exact Xq pre.wo (Below.refl _ _) (.v rfl)
 ·cases hc
theorem Xw:Kq Tryz.prog env:=by
 intro f q hq
 have he:env.cln=[(275,(5,1,1)),(56,(0,0,152)),(162,(1,0,0)),(244,(2,0,0))]:=rfl
 rw[he] at hq
 unfold find at hq
 split at hq
 ·rename_i hk
  cases hq
  subst hk
  exact ⟨⟨_,Tryz.func275,by kernel_rfl,by kernel_rfl⟩,fun args H out H' hc G w vs pre=>zgw hc pre⟩
 unfold find at hq
 split at hq
 ·rename_i hk
  cases hq
  subst hk
  exact ⟨⟨_,Tryz.func56,by kernel_rfl,by kernel_rfl⟩,fun args H out H' hc G w vs pre=>ziX hc pre⟩
 unfold find at hq
 split at hq
 ·rename_i hk
  cases hq
  subst hk
  exact ⟨⟨_,Tryz.func162,by kernel_rfl,by kernel_rfl⟩,fun args H out H' hc G w vs pre=>zid hc pre⟩
 unfold find at hq
 split at hq
 ·rename_i hk
  cases hq
  subst hk
  exact ⟨⟨_,Tryz.func244,by kernel_rfl,by kernel_rfl⟩,fun args H out H' hc G w vs pre=>zja hc pre⟩
 ·cases hq
open Go.RowKit Go.WideMaps Go.WideElems
set_option maxRecDepth 100000
def zcj (i:Nat):Int:=[0,1,8,16,32,64,64,0].getD i 0
theorem gDec:Tryz.prog.globalNamed "capnp/pointer.decoders" = some 4:=by kernel_rfl
theorem tDec:(Tryz.prog.globals[4]?).map (·.type)=some 293:=by kernel_rfl
theorem zmK (W:World):(zeroValue 240).run Tryz.prog W=.ok .nilFunc W:=by kernel_rfl
def jd:DataW (List UInt8):=.map [(.int .i64 0,.held [99,97,112,110,112,47,112,111,105,110,116,101,114,46,100,101,99,111,100,101,114,115,36,49]),(.int .i64 1,.held [99,97,112,110,112,47,112,111,105,110,116,101,114,46,100,101,99,111,100,101,114,115,36,50]),(.int .i64 2,.held [99,97,112,110,112,47,112,111,105,110,116,101,114,46,100,101,99,111,100,101,114,115,36,51]),(.int .i64 3,.held [99,97,112,110,112,47,112,111,105,110,116,101,114,46,100,101,99,111,100,101,114,115,36,52])]
def uk (w:World):Prop:=∃ bm es clock,w.cell? ⟨4,0,none⟩=some (.map (some bm))/\w.heap[bm]? = some (.map es clock)/\
  ∀ W:World,W.heap[bm]? = some (.map es clock)->
   (Instr.lookup 293 (.map (some bm)) (.int .i64 0) false).run Tryz.prog W=.ok (.func (.func 341) #[] #[]) W/\
   (Instr.lookup 293 (.map (some bm)) (.int .i64 1) false).run Tryz.prog W=.ok (.func (.func 343) #[] #[]) W/\
   (Instr.lookup 293 (.map (some bm)) (.int .i64 2) false).run Tryz.prog W=.ok (.func (.func 344) #[] #[]) W/\
   (Instr.lookup 293 (.map (some bm)) (.int .i64 3) false).run Tryz.prog W=.ok (.func (.func 345) #[] #[]) W
theorem zgN {W:World} {l:List (String×DataW Unit)} (h:laidMetH Tryz.prog l W) (hm:("capnp/pointer.decoders",Rows.laid_capnp_pointer_decoders)∈l):uk W:=by
 obtain ⟨g,t,cs,fuel,p,hg,ht,hv,hd⟩:=h.funcs hm
 obtain rfl:=Option.some.inj (gDec.symm.trans hg)
 obtain rfl:=Option.some.inj (tDec.symm.trans ht)
 have hd':DataW.trod (funcToken Tryz.prog) Tryz.prog W 0 (fun _=>true) true fuel 293 cs.toList=some (jd,p):=hd
 rcases open_map Tryz.underlying293 hd' with ⟨_,hx⟩|⟨bm,es,clock,n,rfl,hcs,hb,_,F,hx⟩
 ·simp[jd] at hx
 simp only[Prod.mk.injEq] at hx
 have hcell:W.cell? ⟨4,0,none⟩=some (.map (some bm)):=by
  have:=World.var?_cell hg hv 0
  rw[Array.eq_one_of_toList hcs] at this
  simpa using this
 refine ⟨bm,es,clock,hcell,hb,fun W' hb' => ?_⟩
 have key:∀ (k:Int) (f:FuncId) (b:UInt8) (r:List UInt8),(Lit.int .i64 k).wf=true->(∀ zd,DataW.atKey (.map ((es.toList.map (rg Tryz.prog 3 (elemAt (funcToken Tryz.prog) Tryz.prog W 0 (fun _=>true) true n 240))).foldr DataW.insert [])) (.int .i64 k) zd=.held (b::r))->
   ((List.range Tryz.prog.funcs.size).filter fun f=>(Tryz.prog.funcs[f]?).any (·.name.toUTF8.data.toList==b::r))=[f]->
   (Instr.lookup 293 (.map (some bm)) (.int .i64 k) false).run Tryz.prog W' = .ok (.func (.func f) #[] #[]) W':=by
  intro k f b r hwf hat0 hone
  rcases Maps.fit_look false (Maps.int_keyed Tryz.underlying3) Tryz.underlying293 (zmK W') hb' F (Maps.keyOf_int_mk Tryz.underlying3 hwf) with ⟨_,_,hat⟩|⟨e0,y,_,_,hrun,hRv,hat,_⟩
  ·have:=hat .nil
   rw[hat0] at this
   cases this
  ·have h1:=hat .nil
   rw[hat0] at h1
   obtain ⟨y1,y2⟩:=y
   simp only at h1
   subst h1
   unfold elemAt at hRv
   split at hRv
   ·rename_i hf
    have hv1:e0.val.cells.toList=[e0.val]:=by
     cases he:e0.val<;>simp_all [Value.cells,Value.formed,Tryz.underlying240]
    rw[hv1] at hRv
    have:=func_of_trod Tryz.underlying240 hone hRv
    rw[this] at hrun
    simpa using hrun
   ·cases hRv
 exact ⟨key 0 341 _ _ rfl (fun zd=>by rw[←hx.1];rfl) (by kernel_rfl),key 1 343 _ _ rfl (fun zd=>by rw[←hx.1];rfl) (by kernel_rfl),key 2 344 _ _ rfl (fun zd=>by rw[←hx.1];rfl) (by kernel_rfl),key 3 345 _ _ rfl (fun zd=>by rw[←hx.1];rfl) (by kernel_rfl)⟩
theorem zae:Tryz.prog.globalNamed "capnp/listsize.bits" = some 5:=by kernel_rfl
theorem zle:(Tryz.prog.globals[5]?).map (·.type)=some 304:=by kernel_rfl
abbrev senL:List (String×DataW Unit):=[("capnp/unpack.errTruncated",Rows.laid_capnp_unpack_errTruncated),("capnp/unpack.errLimit",Rows.laid_capnp_unpack_errLimit),("capnp/listsize.bits",Rows.laid_capnp_listsize_bits)]
theorem zfk {W:World} {l:List (String×DataW Unit)} (h:laidMetH Tryz.prog l W) (hf:l.filter (fun x=>x.2.handleName?.isNone)=senL):∀ i:Nat,i<8->W.cell? ⟨5,i,none⟩=some (.int .i64 (zcj i)):=by
 have h1:=(laidMetH_iff.1 h).1
 rw[hf] at h1
 have h2:=h1.filter (fun x=>x.1 == "capnp/listsize.bits")
 have e:senL.filter (fun x=>x.1 == "capnp/listsize.bits")=[("capnp/listsize.bits",Rows.laid_capnp_listsize_bits)]:=by kernel_rfl
 rw[e] at h2
 have ht:Lib.TabIs Tryz.prog W "capnp/listsize.bits" .i64 [0,1,8,16,32,64,64,0]:=Lib.tabIs_of_head (rest:=[]) zae zle Tryz.underlying304 Tryz.underlying3 (by kernel_rfl) (by kernel_rfl) h2
 exact fun i hi=>ht.cell zae i hi
theorem gTr:Tryz.prog.globalNamed "capnp/unpack.errTruncated" = some 2:=by kernel_rfl
theorem tTr:(Tryz.prog.globals[2]?).map (·.type)=some 88:=by kernel_rfl
theorem gLi:Tryz.prog.globalNamed "capnp/unpack.errLimit" = some 1:=by kernel_rfl
theorem tLi:(Tryz.prog.globals[1]?).map (·.type)=some 88:=by kernel_rfl
theorem jH : "*" ++ "errors.errorString" = "*errors.errorString":=by decide
theorem zhp (u:TypeId) (h:Tryz.prog.typeName? 3 u=some "*errors.errorString"):u=331 :=
 typeName_ptr_named (nm:= "errors.errorString") (by rw[jH];kernel_rfl) (by kernel_rfl) (by decide) u (by rw[jH];exact h)
theorem zkV {W:World} {l:List (String×DataW Unit)} (h:laidMetH Tryz.prog l W) (hf:l.filter (fun x=>x.2.handleName?.isNone)=senL) :
  ∃ (a0 a1:Addr) (c0 c1:Array Value) (t0 t1:TypeId),W.cell? ⟨2,0,none⟩=some (.iface 331 (.pointer (some a0)))/\W.cell? ⟨1,0,none⟩=some (.iface 331 (.pointer (some a1)))/\a0≠a1/\
   W.heap[a0.block]? = some (.cells c0 t0 (0,0))/\W.heap[a1.block]? = some (.cells c1 t1 (0,0)):=by
 have h1:=(laidMetH_iff.1 h).1
 rw[hf] at h1
 obtain ⟨a0,a1,s0,s1,c0,c1,t0,t1,hv0,hv1,_,_,_,_,_,_,hne,hb0,hb1⟩:=laid_sentinels2 (ti:=88) (tp:=331) (te:=353) (ts:=9) h1 gTr tTr gLi tLi Tryz.underlying88 zhp Tryz.underlying331 Tryz.underlying353 rfl rfl Tryz.underlying9 (by kernel_rfl) (by kernel_rfl)
 refine ⟨a0,a1,c0,c1,t0,t1,?_,?_,hne,hb0,hb1⟩
 ·simpa using World.var?_cell gTr hv0 0
 ·simpa using World.var?_cell gLi hv1 0
theorem etG:Tryz.prog.globalNamed "errors.errorType" = some 3:=by kernel_rfl
theorem rtT:(Tryz.prog.cutTypes.find? (·.1 == "internal/reflectlite.rtype")).map (·.2)=some 265:=by kernel_rfl
theorem zhr:((List.range Tryz.prog.types.size).filter fun t=>Tryz.prog.rowNamed t [101,114,114,111,114])=[88]:=by kernel_rfl
theorem zhY {W:World} {l:List (String×DataW Unit)} (h:laidMetH Tryz.prog l W) (hm:("errors.errorType",Rows.laid_errors_errorType)∈l):W.cell? ⟨3,0,none⟩=some (.iface 265 (.agg #[.pointer (some ⟨6,88,none⟩)])):=by
 have h2:=(laidMetH_iff.1 h).2
 obtain ⟨name,u,ty,e1,e2,e3,e4,e5⟩:=h2 _ (List.mem_filter.2 ⟨hm,rfl⟩)
 have en:name=[101,114,114,111,114]:=(Option.some.inj e1).symm
 subst en
 obtain rfl:=Option.some.inj (rtT.symm.trans e2)
 have hm2:ty∈(List.range Tryz.prog.types.size).filter fun t=>Tryz.prog.rowNamed t [101,114,114,111,114]:=List.mem_filter.2 ⟨List.mem_range.2 e3,e4⟩
 rw[zhr] at hm2
 obtain rfl:=List.mem_singleton.1 hm2
 have hh:typeHandle Tryz.prog 88=.pointer (some ⟨6,88,none⟩):=by kernel_rfl
 rw[hh] at e5
 simpa using World.var?_cell etG e5 0
theorem ziN {w:World} (h:uk w):∃ v c,g0 w 4=some c/\c[0]? = some v/\MRel Tryz.prog env (G0 w) w 4 v:=by
 obtain ⟨bm,es,clock,h1,h2,h3⟩:=h
 obtain ⟨_,c,hc,hv⟩:=Zz h1
 refine ⟨_,c,hc,hv,bm,es,clock,rfl,if_pos (Array.getElem?_eq_some_iff.1 h2).1,h2,fun W hW l n p hl hp=>?_⟩
 obtain rfl:l=(293,[(0,341),(1,343),(2,344),(3,345)]):=(Option.some.inj hl).symm
 obtain ⟨k0,k1,k2,k3⟩:=h3 W hW
 simp only[List.find?_cons,List.find?_nil] at hp
 split at hp
 ·rename_i hn;cases hp;obtain rfl:(0:Int)=n:=by simpa using hn
  exact k0
 ·split at hp
  ·rename_i hn;cases hp;obtain rfl:(1:Int)=n:=by simpa using hn
   exact k1
  ·split at hp
   ·rename_i hn;cases hp;obtain rfl:(2:Int)=n:=by simpa using hn
    exact k2
   ·split at hp
    ·rename_i hn;cases hp;obtain rfl:(3:Int)=n:=by simpa using hn
     exact k3
    ·cases hp
theorem zhn {w:World} (h:∀ i:Nat,i<8->w.cell? ⟨5,i,none⟩=some (.int .i64 (zcj i))):ERel (G0 w) (.agg [.v (.int .i64 0),.v (.int .i64 1),.v (.int .i64 8),.v (.int .i64 16),.v (.int .i64 32),.v (.int .i64 64),.v (.int .i64 64),.v (.int .i64 0)]) 0 (.pointer (some ⟨5,0,none⟩)):=by
 obtain ⟨_,c,hc,h7⟩:=Zz (h 7 (by decide))
 have hsz:=(Array.getElem?_eq_some_iff.1 h7).1
 refine ⟨_,c,0,hc,rfl,?_,fun j q u hq hu=>?_⟩
 ·show 0+8<=c.size
  simp only at hsz
  omega
 ·have hj:j<8:=(List.getElem?_eq_some_iff.1 hq).1
  obtain ⟨_,c',hc',hj'⟩:=Zz (h j hj)
  obtain rfl:c=c':=Option.some.inj (hc.symm.trans hc')
  rw[Nat.zero_add] at hu
  simp only at hj'
  rw[hj'] at hu
  cases hu
  match j,hj with
  |0,_|1,_|2,_|3,_|4,_|5,_|6,_|7,_=>cases hq;exact ⟨rfl,.v rfl⟩
theorem jF {w:World} {g:Nat} {t:TypeId} {a:Addr} (h:w.cell? ⟨g,0,none⟩=some (.iface t (.pointer (some a)))):ERel (G0 w) (.sen g) 0 (.pointer (some ⟨g,0,none⟩)):=by
 obtain ⟨_,c,hc,h0⟩:=Zz h
 refine ⟨_,c,0,hc,rfl,?_,fun j q u hq hu=>?_⟩
 ·have:=(Array.getElem?_eq_some_iff.1 h0).1
  show 0+1<=c.size
  simp only at this
  omega
 ·match j,hq with
  |0,hq=>
   cases hq
   rw[Nat.zero_add] at hu
   simp only at h0
   rw[h0] at hu
   cases hu
   exact ⟨rfl,.sen hc h0⟩
  |j+1,hq=>cases hq
theorem WJ {g:Nat} {p:PV} (h:find env.glob g=some p):(g=5/\p=.agg [.v (.int .i64 0),.v (.int .i64 1),.v (.int .i64 8),.v (.int .i64 16),.v (.int .i64 32),.v (.int .i64 64),.v (.int .i64 64),.v (.int .i64 0)])∨(g=1/\p=.sen 1)∨(g=2/\p=.sen 2):=by
 have he:env.glob=[(5,.agg [.v (.int .i64 0),.v (.int .i64 1),.v (.int .i64 8),.v (.int .i64 16),.v (.int .i64 32),.v (.int .i64 64),.v (.int .i64 64),.v (.int .i64 0)]),(1,.sen 1),(2,.sen 2)]:=rfl
 rw[he] at h
 unfold find at h
 split at h
 ·rename_i hk;cases h;exact .inl ⟨hk.symm,rfl⟩
 unfold find at h
 split at h
 ·rename_i hk;cases h;exact .inr (.inl ⟨hk.symm,rfl⟩)
 unfold find at h
 split at h
 ·rename_i hk;cases h;exact .inr (.inr ⟨hk.symm,rfl⟩)
 ·cases h
theorem zmk {w:World} {l:List (String×DataW Unit)} (h:laidMetH Tryz.prog l w) (hm:("capnp/pointer.decoders",Rows.laid_capnp_pointer_decoders)∈l) (hm2:("errors.errorType",Rows.laid_errors_errorType)∈l) (hf:l.filter (fun x=>x.2.handleName?.isNone)=senL):WOk Tryz.prog env (G0 w) w:=by
 obtain ⟨a0,a1,c0,c1,t0,t1,hv0,hv1,hne,hb0,hb1⟩:=zkV h hf
 obtain ⟨_,d0,hd0,he0⟩:=Zz hv0
 obtain ⟨_,d1,hd1,he1⟩:=Zz hv1
 refine zmj (fun g l hl=>?_) (fun g p hp=>?_) (fun g hg=>?_) (fun g1 g2 x1 x2 h1 h2 hn e1 e2=>?_) (fun g v hv=>?_)
 ·have hg:g=4:=by
   have he:env.maps=[(4,(293,[(0,341),(1,343),(2,344),(3,345)]))]:=rfl
   rw[he] at hl
   unfold find at hl
   split at hl
   ·rename_i hk;exact hk.symm
   ·cases hl
  subst hg
  exact ziN (zgN h hm)
 ·rcases WJ hp with ⟨rfl,rfl⟩|⟨rfl,rfl⟩|⟨rfl,rfl⟩
  ·exact zhn (zfk h hf)
  ·exact jF hv1
  ·exact jF hv0
 ·rcases WJ hg with ⟨rfl,e⟩|⟨rfl,e⟩|⟨rfl,e⟩
  ·cases e
  ·exact ⟨d1,a1,c1,t1,hd1,he1,hb1⟩
  ·exact ⟨d0,a0,c0,t0,hd0,he0,hb0⟩
 ·have key:∀ x:Value,(Value.iface 331 (.pointer (some a0)))=x->(Value.iface 331 (.pointer (some a1)))=x->False:=fun x k1 k2=>by
   rw[←k1] at k2
   injection k2 with _ k2;injection k2 with k2;injection k2 with k2
   exact hne k2.symm
  rcases WJ h1 with ⟨rfl,e⟩|⟨rfl,e⟩|⟨rfl,e⟩
  ·cases e
  ·rcases WJ h2 with ⟨rfl,e'⟩|⟨rfl,e'⟩|⟨rfl,e'⟩
   ·cases e'
   ·exact absurd rfl hn
   ·obtain rfl:=Option.some.inj (hd1.symm.trans e1)
    obtain rfl:=Option.some.inj (hd0.symm.trans e2)
    intro k
    simp only at he0 he1
    rw[he1,he0] at k
    exact key _ rfl (Option.some.inj k)
  ·rcases WJ h2 with ⟨rfl,e'⟩|⟨rfl,e'⟩|⟨rfl,e'⟩
   ·cases e'
   ·obtain rfl:=Option.some.inj (hd0.symm.trans e1)
    obtain rfl:=Option.some.inj (hd1.symm.trans e2)
    intro k
    simp only at he0 he1
    rw[he1,he0] at k
    exact key _ (Option.some.inj k) rfl
   ·exact absurd rfl hn
 ·have he:env.fix=[(3,.iface 265 (.agg #[.pointer (some ⟨6,88,none⟩)]))]:=rfl
  rw[he] at hv
  unfold find at hv
  split at hv
  ·rename_i hk
   cases hv
   subst hk
   obtain ⟨_,c,k1,k2⟩:=Zz (zhY h hm2)
   exact ⟨c,k1,k2⟩
  ·cases hv
open Go.RowKit
set_option maxRecDepth 100000
def JA (n:Int):Prop:=(Lit.int .i64 n).wf=true
theorem zfm {n:Int} (h:(Lit.int .u8 n).wf=true):zm n:=by
 simp[Lit.wf,IntKind.min,IntKind.max,IntKind.signed,IntKind.bits] at h
 unfold zm
 omega
def Jc:Enc (Int×Int×Int):=⟨fun t=>[I t.1,I t.2.1,I t.2.2],3,true,fun _=>rfl,fun h=>by cases h⟩
def uj {H:Type} (t:Int×Int×Int) (x:DataW H):Prop:=JA t.1/\JA t.2.1/\JA t.2.2
theorem zkj {H:Type} {enc:TypeId×Value->H} {w:World} (n:Nat):RdsAt enc Tryz.prog w n 24 Jc uj:=by
 intro cs x h
 obtain ⟨xs,n,rfl,rfl,hl,hlen,hf⟩:=DataW.trod_struct Tryz.underlying24 h
 have hc:cs.length=3:=hl.trans (by kernel_rfl)
 obtain ⟨c0,c1,c2,rfl⟩:∃ c0 c1 c2,cs=[c0,c1,c2]:=by
  match cs,hc with
  |[c0,c1,c2],_=>exact ⟨c0,c1,c2,rfl⟩
 obtain ⟨x0,x1,x2,rfl⟩:∃ x0 x1 x2,xs=[x0,x1,x2]:=by
  match xs,(show xs.length=3 from hlen.trans (by kernel_rfl)) with
  |[x0,x1,x2],_=>exact ⟨x0,x1,x2,rfl⟩
 have z0:Tryz.prog.cellsOf 3=1:=by kernel_rfl
 have h0:DataW.trod enc Tryz.prog w 0 (fun _=>true) true n 3 (([c0,c1,c2].drop 0).take (Tryz.prog.cellsOf 3))=[x0,x1,x2][0]?:=hf 0 _ rfl
 have h1:DataW.trod enc Tryz.prog w 0 (fun _=>true) true n 3 (([c0,c1,c2].drop 1).take (Tryz.prog.cellsOf 3))=[x0,x1,x2][1]?:=hf 1 _ rfl
 have h2:DataW.trod enc Tryz.prog w 0 (fun _=>true) true n 3 (([c0,c1,c2].drop 2).take (Tryz.prog.cellsOf 3))=[x0,x1,x2][2]?:=hf 2 _ rfl
 rw[z0] at h0 h1 h2
 obtain ⟨m0,e0,f0,w0⟩:=DataW.trod_int Tryz.underlying3 (show DataW.trod enc Tryz.prog w 0 (fun _=>true) true n 3 [c0]=some x0 from h0)
 obtain ⟨m1,e1,f1,w1⟩:=DataW.trod_int Tryz.underlying3 (show DataW.trod enc Tryz.prog w 0 (fun _=>true) true n 3 [c1]=some x1 from h1)
 obtain ⟨m2,e2,f2,w2⟩:=DataW.trod_int Tryz.underlying3 (show DataW.trod enc Tryz.prog w 0 (fun _=>true) true n 3 [c2]=some x2 from h2)
 cases e0;cases e1;cases e2
 refine ⟨(m0,m1,m2),rfl,fun j q u hq hu=>?_,w0,w1,w2⟩
 match j with
 |0=>cases hq;cases hu;exact ⟨rfl,.v rfl⟩
 |1=>cases hq;cases hu;exact ⟨rfl,.v rfl⟩
 |2=>cases hq;cases hu;exact ⟨rfl,.v rfl⟩
 |j+3=>simp[Jc] at hq
abbrev js:Enc (List Int):=Xo (V8 .u8)
theorem zjH {H:Type} {l:List Int} {x:DataW H} (h:DS (DI .u8) l x):Bytes l:=⟨h.1,fun n hn=>by obtain ⟨y,hy⟩:=h.mem hn;exact zfm hy.2⟩
theorem zki {H:Type} {enc:TypeId×Value->H} {w:World} (n:Nat):RdsAt enc Tryz.prog w n 22 js (DS (DI .u8)):=by
 cases n with
 |zero=>exact RdsAt.zero _ _ _
 |succ n=>exact RdsAt.slice Tryz.underlying22 (by kernel_rfl) (by decide) (RdsAt.int Tryz.underlying5)
noncomputable def Xx (l:List (List Int)) (d w:Int):Int:=if yJ l d w=0 then xV off (zA (xt l d w)) else 0
theorem zdQ {D:Nat} {x:Nd} (h:Ok D x) (hb:zD D x<=134217728):ev 109 [.pv x.x] []=ok (U (xV off (zA (xd D x)))):=by
 have h1:=uK h hb
 have hl:=Wo h
 have h2:=zdO (l:=xd D x) (by omega)
 dsimp only[Nd.x] at h1 ⊢
 rw[zh0,h1]
 dsimp only[ze]
 rw[yE]
 dsimp only[zmS]
 rw[h2]
 rfl
theorem zdP {l:List (List Int)} (hl:zJ l) (hs:Sm l) {d w b:Int} (hd:d<=1099511627775) (hw:w<=134217728):ev 58 [.pv (.sl 1 (zL l)),.pv (.agg [I d,I w,I b])] []=ok (.tup [U (Xx l d w),I (yJ l d w)]):=by
 rw[zhZ,zh1,Kx hl hs hd (by omega)]
 dsimp only[Nd.x,ze,zg,zmS,z4,zmR,zmQ,z6,↓rU,xA,wl,zr,yM,zc]
 unfold Xx xt
 by_cases h0:yJ l d w=0
 ·obtain ⟨ho,hb,_⟩:=Qv hl hs hw h0
  have h1:=zdQ ho hb
  dsimp only[Nd.x] at h1
  rw[h0,show ((0:Int)==0)=true from rfl,if_pos rfl,if_pos rfl]
  dsimp only[zc]
  rw[h1]
  rfl
 ·rw[beq_eq_false_iff_ne.2 h0,if_neg h0]
  rfl
def hA:Int:=xV off (zA [0])
def hB:Int:=xV off (zA [4294967296,5])
theorem j1:zJ [[0]]/\Sm [[0]]:=vA (by decide) (by intro x hx;simp at hx;unfold zH;omega)
theorem j2:zJ [[4294967296,5]]/\Sm [[4294967296,5]]:=vA (by decide) (by intro x hx;simp at hx;unfold zH;omega)
theorem j3:zJ [[4294967298],[8589934592,5,0]]/\Sm [[4294967298],[8589934592,5,0]]:=qe (by intro s hs;simp at hs;rcases hs with rfl|rfl<;>decide) (by intro s hs x hx;simp at hs;unfold zH;rcases hs with rfl|rfl<;>(simp at hx;omega)) (by decide)
theorem zhX:ev 42 [.pv (.sl 1 [U8 0,U8 0,U8 0,U8 0,U8 0,U8 0,U8 0,U8 0])] []=ok (U hA):=by
 have h:=uI (l:=[0,0,0,0,0,0,0,0]) (by intro b hb;simp at hb;unfold zm;omega) (by decide)
 rw[show xV off [0,0,0,0,0,0,0,0]=hA from by kernel_rfl] at h
 exact h
theorem zkU {b:List Int}:∀ (c i:Nat) (rest:List Int) (l:List (List Int)),(∀ x∈rest,zm x)->y3 b c i rest=some l->l.length=c/\∀ s∈l,(∀ x∈s,zH x)/\8*s.length<=rest.length:=by
 intro c
 induction c with
 |zero=>
  intro i rest l hr h
  rw[y3] at h
  split at h
  ·cases h
   exact ⟨rfl,fun s hs=>by cases hs⟩
  ·cases h
 |succ c ih=>
  intro i rest l hr h
  rw[y3] at h
  split at h
  ·rename_i h1
   cases hq:y3 b c (i+1) (rest.drop (8*(zF b i).toNat)) with
   |none=>rw[hq] at h;cases h
   |some t=>
    rw[hq] at h
    cases h
    obtain ⟨h2,h3⟩:=ih (i+1) _ t (ZZ hr _) hq
    refine ⟨by simp[h2],fun s hs=>?_⟩
    rcases List.mem_cons.1 hs with rfl|hs
    ·refine ⟨YZ _ (KO hr _),?_⟩
     rw[xh]
     omega
    ·obtain ⟨h4,h5⟩:=h3 s hs
     rw[List.length_drop] at h5
     exact ⟨h4,by omega⟩
  ·cases h
theorem ZI {b:List Int} (hb:∀ x∈b,zm x) (hl:b.length<=1099511627776) {l:List (List Int)} (h:yF b=some l):zJ l/\Sm l:=by
 unfold yF at h
 split at h
 ·cases h
 split at h
 ·cases h
 split at h
 ·cases h
 split at h
 ·cases h
 rename_i h1 h2 h3 h4
 obtain ⟨h5,h6⟩:=zkU _ _ _ _ (ZZ hb _) h
 have hd:(b.drop (yp (zF b 0+1).toNat)).length<=b.length:=by rw[List.length_drop];omega
 refine ⟨⟨by omega,fun s hs=>?_⟩,fun s=>?_⟩
 ·obtain ⟨h7,h8⟩:=h6 s hs
  exact ⟨by omega,h7⟩
 ·unfold yw
  rw[List.getD_eq_getElem?_getD]
  cases hq:l[s.toNat]? with
  |none=>simp
  |some t=>
   obtain ⟨h7,h8⟩:=h6 t (List.mem_of_getElem? hq)
   rw[Option.getD_some]
   omega
theorem zkW (w:List Int):(Yj w).drop 8=zA w:=rfl
noncomputable def mE (b:List Int) (d w:Int):Int:=match yF b with
 |some l=>yJ l d w
 |none=>1
noncomputable def xj (b:List Int) (d w:Int):List Int:=match yF b with
 |some l=>if yJ l d w=0 then Yj (xt l d w) else []
 |none=>[]
noncomputable def mN (b:List Int) (d w:Int):Nd:=yY ((yF b).getD []) d w
open Classical in
noncomputable def Qa (a b:List Int) (d w:Int):Bool:=if mE a d w=0/\mE b d w=0 then yV (mN a d w) (mN b d w) else false
noncomputable def Qt (a b:List Int) (d w:Int):Int:=if mE a d w=0 then mE b d w else mE a d w
noncomputable def mH (b:List Int) (d w:Int):Int:=match yF b with
 |some l=>Xx l d w
 |none=>0
def ZC (e:Int):PV:=if e=0 then .v .nilIface else .ifc 152 (.agg [I e])
theorem vk (e:Int):yG (.pv (ZC e))=some (decide (e=0)):=by
 unfold ZC
 split
 ·rename_i h;rw[h];rfl
 ·rename_i h;rw[decide_eq_false h];rfl
theorem Wf (e:Int):ev 104 [.pv (I e)] []=ok (ZC e):=by
 rw[ziJ]
 unfold ZC
 by_cases h:e=0
 ·rw[h];rfl
 ·rw[if_neg h,beq_eq_false_iff_ne.2 h];rfl
theorem Y5 (e:Int):ev 56 [.pv (ZC e)] []=ok (I e):=by
 rw[ziK]
 unfold ZC
 by_cases h:e=0
 ·rw[h];rfl
 ·rw[if_neg h];rfl
theorem Y4 {d w b:Int} (hd:d<=1000) (hw:w<=268435455):ev 55 [.pv (.agg [I d,I w,I b])] []=ok (.agg [I d,I w,I b]):=by
 rw[ziI,if_neg (by omega),if_neg (by omega)]
theorem ZW {b:List Int} (hb:∀ x∈b,zm x) (hl:b.length<=1099511627776):ev 57 [.pv (.sl 1 (bs b))] []=ok (.tup [.sl 1 (zL ((yF b).getD [])),ZC (if yF b=none then 1 else 0)]):=by
 rw[ziL,zdr hb hl]
 cases h:yF b with
 |none=>
  dsimp only[ZK,ze,zg,zmS,z4,zmR,zmQ]
  rw[Wf]
  rfl
 |some l=>
  dsimp only[ZK,ze,zg,zmS,z4,zmR,zmQ]
  rw[Wf]
  rfl
theorem rr {l:List (List Int)} (hl:zJ l) (hs:Sm l) {d w:Int} (hw:w<=134217728) (h0:yJ l d w=0):(xt l d w).length<536870912:=by
 obtain ⟨ho,hb,hx⟩:=Qv hl hs hw h0
 obtain ⟨_,_,_,_,_,_,h7,_⟩:=zfF hl hs hw h0
 omega
theorem zdD {b:List Int} (hb:∀ x∈b,zm x) (hl:b.length<=1099511627776) {d w o:Int} (hd:d<=1099511627775) (hw:w<=134217728):ev 54 [.pv (.sl 1 (bs b)),.pv (.agg [I d,I w,I o])] []=some (.ret (.tup 0 (.slu 5 1 (bs (xj b d w))) [.v .nilIface,ZC (mE b d w)]),[]):=by
 rw[ziH,ZW hb hl]
 unfold xj mE
 cases h:yF b with
 |none=>
  rw[if_pos rfl]
  dsimp only[ze,zg,zmS,z4,zmR,zmQ]
  rw[vk]
  rfl
 |some l=>
  obtain ⟨h1,h2⟩:=ZI hb hl h
  rw[if_neg (by simp),Option.getD_some]
  dsimp only[ze,zg,zmS,z4,zmR,zmQ]
  rw[vk,zdC h1 h2 hd hw]
  dsimp only[ze,zg,zmS,z4,zmR,zmQ,z6]
  by_cases h0:yJ l d w=0
  ·rw[h0,show ((0:Int) != 0)=false from rfl,J9,if_pos h0,if_pos rfl]
   dsimp only[zu]
   have hS:=zdu (rr h1 h2 hw h0)
   have hS':ev 105 [.pv (.sl 1 [.sl 1 (ws (xt l d w))])] []=_:=hS
   rw[hS']
   dsimp only[ze]
   rw[YJ]
   dsimp only[zmS,zmR,zmQ]
   rw[yE]
   dsimp only[zmS]
   rw[Wf]
   rfl
  ·rw[wi h0,if_neg h0]
   dsimp only[zc]
   rw[Wf]
   rfl
theorem uu {b:List Int} (hb:∀ x∈b,zm x) (hl:b.length<=1099511627776) {d w o:Int} (hd:d<=1000) (hw:w<=134217728):ev 16 [.pv (.sl 1 (bs b)),.pv (.agg [I d,I w,I o])] []=some (.ret (.tup 0 (.slu 5 1 (bs (xj b d w))) [.v .nilIface,I (mE b d w)]),[]):=by
 rw[ziC,Y4 hd (by omega)]
 dsimp only[ze,zg,zmS]
 rw[zdD hb hl (by omega) hw]
 dsimp only[ze]
 rw[YJ]
 dsimp only[zmS,zmR,zmQ]
 rw[yE]
 dsimp only[zmS]
 rw[Y5]
 rfl
theorem gb {b:List Int} (hb:∀ x∈b,zm x) (hl:b.length<=1099511627776) {d w o:Int} (hd:d<=1099511627775) (hw:w<=134217728):ev 59 [.pv (.sl 1 (bs b)),.pv (.agg [I d,I w,I o])] []=ok (.tup [.sl 1 (zL ((yF b).getD [])),ZC (mE b d w)]):=by
 rw[ziM,ZW hb hl]
 unfold mE
 cases h:yF b with
 |none=>
  rw[if_pos rfl]
  dsimp only[ze,zg,zmS,z4,zmR,zmQ]
  rw[vk]
  rfl
 |some l=>
  obtain ⟨h1,h2⟩:=ZI hb hl h
  rw[if_neg (by simp),Option.getD_some]
  dsimp only[ze,zg,zmS,z4,zmR,zmQ]
  rw[vk,Kw h1 h2 hd (by omega)]
  dsimp only[ze,zg,zmS,z4,zmR,zmQ]
  rw[Wf]
  rfl
theorem uT {a b:List Int} (ha:∀ x∈a,zm x) (hla:a.length<=1099511627776) (hb:∀ x∈b,zm x) (hl:b.length<=1099511627776) {d w o:Int} (hd:d<=1000) (hw:w<=134217728):ev 18 [.pv (.sl 1 (bs a)),.pv (.sl 1 (bs b)),.pv (.agg [I d,I w,I o])] []=ok (.tup [Bo (Qa a b d w),I (Qt a b d w)]):=by
 rw[ziD,Y4 hd (by omega)]
 dsimp only[ze,zg,zmS,xA,zmQ,zmR,yM,zr,zc]
 rw[gb ha hla (by omega) hw]
 dsimp only[ze,zg,zmS,z4,zmR,zmQ]
 rw[vk]
 unfold Qa Qt
 by_cases h0:mE a d w=0
 ·rw[decide_eq_true h0,if_pos h0]
  dsimp only[zmS,vv,zu]
  rw[gb hb hl (by omega) hw]
  dsimp only[ze,zg,zmS,z4,zmR,zmQ]
  rw[vk]
  by_cases h1:mE b d w=0
  ·obtain ⟨la,e1⟩:∃ l,yF a=some l:=by
    unfold mE at h0
    split at h0
    ·rename_i l h;exact ⟨l,h⟩
    ·cases h0
   obtain ⟨lb,e2⟩:∃ l,yF b=some l:=by
    unfold mE at h1
    split at h1
    ·rename_i l h;exact ⟨l,h⟩
    ·cases h1
   obtain ⟨a1,a2⟩:=ZI ha hla e1
   obtain ⟨b1,b2⟩:=ZI hb hl e2
   have e3:mE a d w=yJ la d w:=by unfold mE;rw[e1]
   have e4:mE b d w=yJ lb d w:=by unfold mE;rw[e2]
   rw[decide_eq_true h1,if_pos ⟨h0,h1⟩,e1,e2,Option.getD_some,Option.getD_some]
   dsimp only[zmS,vv,zu]
   rw[Y3 a1 a2 b1 b2 (by omega) (by omega)]
   have hE:cE la lb d w=yJ lb d w:=by unfold cE;rw[if_pos (by omega)]
   have hB:cB la lb d w=yV (mN a d w) (mN b d w):=by
    unfold cB mN
    rw[if_pos (by rw[hE];omega),e1,e2]
    rfl
   rw[hE,hB,e4]
   rfl
  ·rw[decide_eq_false h1,if_neg (fun h=>h1 h.2)]
   dsimp only[zmS,Qw,zc]
   rw[Y5]
   rfl
 ·rw[decide_eq_false h0,if_neg h0,if_neg (fun h=>h0 h.1)]
  dsimp only[zmS,Qw,zc]
  rw[Y5]
  rfl
theorem uU {b:List Int} (hb:∀ x∈b,zm x) (hl:b.length<=1099511627776) {d w o:Int} (hd:d<=1000) (hw:w<=134217728):ev 17 [.pv (.sl 1 (bs b)),.pv (.agg [I d,I w,I o])] []=ok (.tup [U (mH b d w),I (mE b d w)]):=by
 rw[ziE,ZW hb hl]
 unfold mH mE
 cases h:yF b with
 |none=>
  rw[if_pos rfl]
  dsimp only[ze,zg,zmS,z4,zmR,zmQ]
  rw[vk]
  dsimp only[zmS]
  rw[show (!decide ((1:Int)=0))=true from rfl]
  dsimp only[zc]
  rw[Y5]
  rfl
 |some l=>
  obtain ⟨h1,h2⟩:=ZI hb hl h
  rw[if_neg (by simp),Option.getD_some]
  dsimp only[ze,zg,zmS,z4,zmR,zmQ]
  rw[vk,Y4 hd (by omega)]
  dsimp only[ze,zg,zmS]
  rw[zdP h1 h2 (by omega) hw]
  rfl
theorem zdx {b:List Int} (hb:∀ x∈b,zm x) (d w o:Int):∃ bl:Bool,ev 15 [.pv (.sl 1 (bs b)),.pv (.agg [I d,I w,I o])] []=ok (Bo bl)/\(bl=true->b.length<=4000/\d<=40/\w<=2000):=by
 rw[zgg,zR]
 by_cases h1:(b.length:Int)>4000
 ·rw[decide_eq_true h1]
  exact ⟨false,rfl,fun h=>by cases h⟩
 rw[decide_eq_false h1]
 by_cases h2:d>40
 ·rw[decide_eq_true h2]
  exact ⟨false,rfl,fun h=>by cases h⟩
 rw[decide_eq_false h2]
 by_cases h3:w>2000
 ·rw[decide_eq_true h3]
  exact ⟨false,rfl,fun h=>by cases h⟩
 rw[decide_eq_false h3,zd3 hb (by omega)]
 cases h:yF b with
 |none=>exact ⟨true,rfl,fun _=>by omega⟩
 |some l=>
  obtain ⟨h4,h5⟩:=ZI hb (by omega) h
  obtain ⟨bl,e1,_⟩:=zdw h4 d w o
  refine ⟨bl,?_,fun _=>by omega⟩
  dsimp only[ZK,ze,zg,zmS,z4,zmR,zmQ,z6,zu]
  rw[show ((0:Int) != 0)=false from rfl]
  dsimp only[zu]
  rw[e1]
  rfl
def vR (c:Int):Int:=if c=0 then 0 else 1
def wz:List Int->Int
 |[]=>0
 |c::l=>vR c+2*wz l
def nz (l:List Int):List Int:=l.filter fun c=>!decide (c=0)
theorem zi0 (c:Int):0<=vR c/\vR c<=1:=by unfold vR;split<;>omega
theorem zck:∀ (l:List Int) (c:Int),wz (l++[c])=wz l+vR c*2^l.length
 |[],c=>by simp[wz]
 |d::l,c=>by
  show vR d+2*wz (l++[c])=vR d+2*wz l+vR c*2^(l.length+1)
  rw[zck l c,Int.pow_succ,Int.mul_add,←Int.mul_assoc,Int.mul_comm 2 (vR c),Int.mul_comm (2^l.length) 2,←Int.mul_assoc]
  omega
theorem qk:∀ l:List Int,0<=wz l/\wz l<2^l.length
 |[]=>by decide
 |c::l=>by
  have:=qk l
  have h:=zi0 c
  rw[zmU,Int.pow_succ]
  unfold wz
  omega
theorem zct {l:List Int} {i:Nat} (h:i<l.length):l.take (i+1)=l.take i++[l.getD i 0]:=by
 rw[List.take_succ_eq_append_getElem h,List.getD_eq_getElem?_getD,List.getElem?_eq_getElem h]
 rfl
theorem zjf:∀ (i:Fin 8) (t:Fin 128),t.val<2^i.val->IntKind.wrap .u8 (BitVec.ofInt 8 (t.val:Int) ||| BitVec.ofInt 8 (IntKind.wrap .u8 (1*2^(min (IntKind.wrap .u64 (i.val:Int)).toNat 8)))).toNat=(t.val:Int)+2^i.val:=by decide +kernel
theorem zi8:∀ i:Fin 8,yS .shl (IntKind.wrap .u64 (i.val:Int))=true:=by decide +kernel
theorem zi9:∀ i:Fin 8,yS .shr (IntKind.wrap .u64 (i.val:Int))=true:=by decide +kernel
theorem zi7 {l:List Int} (h8:l.length=8):∀ (c i:Nat),i+c=8->Va (wz (l.take i)) (.sl 1 (bs l)) 8 i=ok (U8 (wz l)):=by
 intro c
 induction c with
 |zero=>
  intro i hi
  rw[zcp,decide_eq_false (by omega),List.take_of_length_le (by omega)]
  rfl
 |succ c ih=>
  intro i hi
  have hg:(bs l)[(i:Int).toNat]? = some (U8 (l.getD i 0)):=ZY rfl (by omega)
  have hn:=ih (i+1) (by omega)
  have hr:=qk (l.take i)
  have hp:(2:Int)^i<=128:=by
   have:(2:Nat)^i<=2^7:=Nat.pow_le_pow_right (by decide) (by omega)
   exact_mod_cast this
  rw[zct (by omega),zck,List.length_take,Nat.min_eq_left (by omega)] at hn
  rw[List.length_take,Nat.min_eq_left (by omega)] at hr
  rw[zcp,decide_eq_true (show (i:Int)<8 by omega)]
  dsimp only[yC,zmS,zc]
  rw[zR,h8,decide_eq_true (show 0<=(i:Int) by omega),decide_eq_true (show (i:Int)<((8:Nat):Int) by omega),show decide ((1:Nat)=1)=true from rfl]
  dsimp only[zr,zc]
  rw[hg]
  dsimp only[zmS,ym,zmQ,ZH]
  rw[zh (x:=(i:Int)+1) (by omega)]
  by_cases h0:l.getD i 0=0
  ·rw[h0,show ((0:Int) != 0)=false from rfl]
   rw[h0,show vR 0=0 from rfl,Int.zero_mul,Int.add_zero] at hn
   exact hn
  ·have hq:=zjf ⟨i,by omega⟩ ⟨(wz (l.take i)).toNat,by omega⟩ (by
    have:((wz (l.take i)).toNat:Int)<((2^i:Nat):Int):=by push_cast;omega
    exact_mod_cast this)
   have hs:=zi8 ⟨i,by omega⟩
   dsimp only at hq hs
   rw[show ((wz (l.take i)).toNat:Int)=wz (l.take i) by omega] at hq
   rw[wi h0,hs,hq]
   rw[show vR (l.getD i 0)=1 from if_neg h0,Int.one_mul] at hn
   exact hn
theorem ziZ {l:List Int} (h8:l.length=8):∀ (c i:Nat),i+c=8->W8 (bs (nz (l.take i))) (.sl 1 (bs l)) 8 i=ok (.sl 1 (bs (nz l))):=by
 intro c
 induction c with
 |zero=>
  intro i hi
  rw[zcm,decide_eq_false (by omega),List.take_of_length_le (by omega)]
  rfl
 |succ c ih=>
  intro i hi
  have hg:(bs l)[(i:Int).toNat]? = some (U8 (l.getD i 0)):=ZY rfl (by omega)
  have hn:=ih (i+1) (by omega)
  have hf:(nz (l.take i)).length<=8:=by
   have:=List.length_filter_le (fun c:Int=>!decide (c=0)) (l.take i)
   rw[List.length_take] at this
   unfold nz
   omega
  rw[zct (by omega)] at hn
  rw[zcm,decide_eq_true (show (i:Int)<8 by omega)]
  dsimp only[yC,zmS,zc]
  rw[zR,h8,decide_eq_true (show 0<=(i:Int) by omega),decide_eq_true (show (i:Int)<((8:Nat):Int) by omega),show decide ((1:Nat)=1)=true from rfl]
  dsimp only[zr,zc]
  rw[hg]
  dsimp only[zmS,ym,zmQ,ZH]
  rw[zh (x:=(i:Int)+1) (by omega)]
  by_cases h0:l.getD i 0=0
  ·rw[h0,show ((0:Int) != 0)=false from rfl]
   rw[h0,show nz (l.take i++[0])=nz (l.take i) by simp[nz]] at hn
   exact hn
  ·rw[wi h0,zR,yW (by omega) (by omega)]
   rw[show nz (l.take i++[l.getD i 0])=nz (l.take i)++[l.getD i 0] by simp only[nz,List.filter_append,List.filter_cons,decide_eq_false h0];rfl,Zx] at hn
   exact hn
theorem Ks (w:Int):ev 117 [.pv (.sl 1 [U w])] []=ok (.sl 1 (bs (w8 w))):=by
 have:=ZV [w] (show 1<=17592186044416 by decide)
 rw[show zA [w]=w8 w from List.append_nil _] at this
 exact this
def vH (w:Int):Int:=wz (w8 w)
def XB (w:Int):List Int:=nz (w8 w)
theorem zcl (w:Int):0<=vH w/\vH w<256:=by
 have:=qk (w8 w)
 rw[wA,show (2:Int)^8=256 from rfl] at this
 exact this
theorem ziY (w:Int):(XB w).length<=8:=by
 have:=List.length_filter_le (fun c:Int=>!decide (c=0)) (w8 w)
 rw[wA] at this
 exact this
theorem uC (w:Int):ev 115 [.pv (U w)] []=ok (U8 (vH w)):=by
 rw[zlj,Ks]
 dsimp only[ze,zg,zmS,yC]
 rw[zR]
 exact zi7 (wA w) 8 0 rfl
theorem zdV (w:Int):ev 185 [.pv (U w)] []=ok (.sl 1 (bs (XB w))):=by
 rw[zlh,Ks]
 dsimp only[ze,zg,zmS,yC]
 rw[zR]
 exact ziZ (wA w) 8 0 rfl
theorem Kz {t:Int} (h:0<=t/\t<256):ev 188 [.pv (U8 t)] []=ok (I (pop8 t.toNat)):=by
 rw[zlk,ziB]
 unfold QF
 rw[decide_eq_true h.1,decide_eq_true h.2]
 rfl
noncomputable def xU (w:Int):Bool:=decide ((pop8 (vH w).toNat:Int)≥7)
theorem zdj (w:Int):ev 114 [.pv (U w)] []=ok (Bo (xU w)):=by
 rw[zli,uC]
 dsimp only[ze,zg,zmS]
 rw[Kz (zcl w)]
 rfl
def runN (p:Int->Bool):Nat->List Int->Nat
 |0,_=>0
 |_+1,[]=>0
 |k+1,x::l=>if p x=true then runN p k l+1 else 0
theorem J3 (p:Int->Bool):∀ (k:Nat) (l:List Int),runN p k l<=k/\runN p k l<=l.length
 |0,_=>⟨Nat.zero_le _,Nat.zero_le _⟩
 |_+1,[]=>⟨Nat.zero_le _,Nat.zero_le _⟩
 |k+1,x::l=>by
  have:=J3 p k l
  rw[runN,zmU]
  split<;>omega
def ve (x:Int):Bool:=x==0
theorem zkN {l:List Int} (hl:l.length<=17592186044416):∀ (c n:Nat),n+c=255->QB (ws l) n=ok (I (n+runN ve c (l.drop n):Nat)):=by
 intro c
 induction c with
 |zero=>
  intro n hn
  rw[zbc,yl,decide_eq_false (show ¬(n:Int)<255 by omega)]
  by_cases h:(n:Int)<l.length
  ·rw[decide_eq_true h];rfl
  ·rw[decide_eq_false h];rfl
 |succ c ih=>
  intro n hn
  rw[zbc,yl,decide_eq_true (show (n:Int)<255 by omega)]
  by_cases h:n<l.length
  ·have hn1:=ih (n+1) (by omega)
   have hg:(ws l)[(n:Int).toNat]? = some (U l[n]):=Yq h
   rw[decide_eq_true (show (n:Int)<l.length by omega),decide_eq_true (show 0<=(n:Int) by omega),hg]
   dsimp only[zr,zmS,ym,zmQ,zc]
   rw[zjp,List.drop_eq_getElem_cons h,runN]
   dsimp only[ze,zg,zmS,xf]
   by_cases h0:l[n]=0
   ·rw[h0,show ((0:Int)==0)=true from rfl,show ve 0=true from rfl,if_pos rfl,zh (x:=(n:Int)+1) (by omega)]
    rw[show n+(runN ve c (l.drop (n+1))+1)=n+1+runN ve c (l.drop (n+1)) by omega]
    exact hn1
   ·have h1:(l[n]==0)=false:=beq_eq_false_iff_ne.2 h0
    rw[h1,show ve l[n]=false from h1,if_neg (by decide)]
    rfl
  ·rw[decide_eq_false (show ¬(n:Int)<l.length by omega),List.drop_eq_nil_of_le (by omega)]
   rfl
theorem zkC {l:List Int} (hl:l.length<=17592186044416):∀ (c n:Nat),n+c=255->QC (ws l) n=ok (I (n+runN xU c (l.drop n):Nat)):=by
 intro c
 induction c with
 |zero=>
  intro n hn
  rw[zbd,yl,decide_eq_false (show ¬(n:Int)<255 by omega)]
  by_cases h:(n:Int)<l.length
  ·rw[decide_eq_true h];rfl
  ·rw[decide_eq_false h];rfl
 |succ c ih=>
  intro n hn
  rw[zbd,yl,decide_eq_true (show (n:Int)<255 by omega)]
  by_cases h:n<l.length
  ·have hn1:=ih (n+1) (by omega)
   have hg:(ws l)[(n:Int).toNat]? = some (U l[n]):=Yq h
   rw[decide_eq_true (show (n:Int)<l.length by omega),decide_eq_true (show 0<=(n:Int) by omega),hg]
   dsimp only[zr,zmS,ym,zmQ,zc]
   rw[zdj,List.drop_eq_getElem_cons h,runN]
   dsimp only[ze,zg,zmS,xf]
   cases h0:xU l[n] with
   |true=>
    rw[if_pos rfl,zh (x:=(n:Int)+1) (by omega)]
    rw[show n+(runN xU c (l.drop (n+1))+1)=n+1+runN xU c (l.drop (n+1)) by omega]
    exact hn1
   |false=>
    rw[if_neg (by decide)]
    rfl
  ·rw[decide_eq_false (show ¬(n:Int)<l.length by omega),List.drop_eq_nil_of_le (by omega)]
   rfl
theorem zd6 {l:List Int} (hl:l.length<=17592186044416):ev 186 [.pv (.sl 1 (ws l)),.pv (.v (.func (.func 187) #[] #[]))] []=ok (I (runN ve 255 l:Nat)):=by
 rw[zjs]
 have:=zkN hl 255 0 rfl
 rw[Nat.zero_add] at this
 exact this
theorem zd7 {l:List Int} (hl:l.length<=17592186044416):ev 186 [.pv (.sl 1 (ws l)),.pv (.v (.func (.func 114) #[] #[]))] []=ok (I (runN xU 255 l:Nat)):=by
 rw[zjt]
 have:=zkC hl 255 0 rfl
 rw[Nat.zero_add] at this
 exact this
noncomputable def pk:Nat->List Int->List Int
 |0,_=>[]
 |_+1,[]=>[]
 |f+1,w::l=>
  if vH w=0 then vH w::XB w++((runN ve 255 l:Int)::pk f (l.drop (runN ve 255 l)))
  else if vH w=255 then vH w::XB w++((runN xU 255 l:Int)::(zA (l.take (runN xU 255 l))++pk f (l.drop (runN xU 255 l))))
  else vH w::XB w++pk f l
theorem zmD (w:Int) (t:List Int):((ws (w::t)).take ((ws (w::t)).length:Int).toNat).drop 1=ws t:=by
 rw[Int.toNat_natCast,List.take_of_length_le (Nat.le_refl _)]
 rfl
theorem zc4 (t:List Int) (n:Nat):((ws t).take ((ws t).length:Int).toNat).drop (n:Int).toNat=ws (t.drop n):=by
 rw[Int.toNat_natCast,Int.toNat_natCast,List.take_of_length_le (Nat.le_refl _)]
 simp[ws]
theorem zmA (t:List Int) (n:Nat):((ws t).take (n:Int).toNat).drop 0=ws (t.take n):=by
 rw[Int.toNat_natCast,List.drop_zero]
 simp[ws]
theorem KN (a:List Int) (x:Int):bs a++[U8 x]=bs (a++[x]):=by simp[bs]
theorem zjr:∀ (f:Nat) (l out:List Int),l.length<=f->out.length+16*l.length<=17592186044416->XG (ws l) (bs out)=ok (.sl 1 (bs (out++pk f l))):=by
 intro f
 induction f with
 |zero=>
  intro l out hl ho
  have:l=[]:=List.length_eq_zero_iff.1 (by omega)
  rw[this,JM,pk,List.append_nil]
  rfl
 |succ f ih=>
  intro l out hl ho
  cases l with
  |nil=>
   rw[JM,pk,List.append_nil]
   rfl
  |cons w t=>
   rw[zmU] at hl ho
   have hz:=ziY w
   have ht:=zcl w
   rw[JM,decide_eq_true (show (((ws (w::t)).length:Nat):Int)>0 by rw[yl,zmU];omega),show (ws (w::t))[0]? = some (U w) from rfl,zmD]
   dsimp only[zmS,ym,zmQ,zc]
   rw[uC]
   dsimp only[ze,zg,zmS,ym,ZH]
   rw[zdV,zR,yW (by omega) (by omega)]
   dsimp only[ze,zg,zmS,yC,zc]
   rw[KN,zR,zR,yW (by rw[zmT];show (_+1+_)*1<=_;omega) (by rw[zmT];show _+1+_<=_;omega),decide_eq_true (show 1<=(((ws (w::t)).length:Nat):Int) by rw[yl,zmU];omega),decide_eq_true (Int.le_refl _),←Zx]
   dsimp only[zr,zc]
   have hlen:(out++[vH w]++XB w).length<=out.length+9:=by simp;omega
   by_cases h0:vH w=0
   ·have hrn:=J3 ve 255 t
    rw[beq_iff_eq.2 h0,zd6 (by omega)]
    dsimp only[ze,zg,zmS,xF,zc]
    rw[zR,yW (by omega) (by omega),yl,decide_eq_true (show 0<=((runN ve 255 t:Nat):Int) by omega),decide_eq_true (show ((runN ve 255 t:Nat):Int)<=(t.length:Int) by omega),decide_eq_true (Int.le_refl _),←yl t,zc4,Vi,show ((runN ve 255 t:Nat):Int)%256=((runN ve 255 t:Nat):Int) by omega,KN]
    dsimp only[zr,zc]
    rw[ih _ _ (by rw[List.length_drop];omega) (by rw[zmT,List.length_drop];show _+1+_<=_;omega),pk,if_pos h0]
    simp only[List.append_assoc,List.cons_append,zmV]
    rfl
   ·rw[beq_eq_false_iff_ne.2 h0]
    dsimp only[zu]
    by_cases h1:vH w=255
    ·have hrn:=J3 xU 255 t
     rw[beq_iff_eq.2 h1,zd7 (by omega)]
     dsimp only[ze,zg,zmS,xF,zc]
     have hB:=ZV (t.take (runN xU 255 t)) (by rw[List.length_take];omega)
     have hbl:(zA (t.take (runN xU 255 t))).length=8*runN xU 255 t:=by rw[xc,List.length_take];omega
     rw[zR,yW (by omega) (by omega),yl,decide_eq_true (show 0<=((runN xU 255 t:Nat):Int) by omega),decide_eq_true (show ((runN xU 255 t:Nat):Int)<=(t.length:Int) by omega),zmA,hB]
     dsimp only[zr,ze,zg,zmS,yC,zc]
     rw[Vi,show ((runN xU 255 t:Nat):Int)%256=((runN xU 255 t:Nat):Int) by omega,KN,zR,zR,hbl,yW (by rw[zmT];show (_+1+_)*1<=_;omega) (by rw[zmT];show _+1+_<=_;omega),decide_eq_true (Int.le_refl _),←Zx,←yl t,zc4]
     dsimp only[zc]
     rw[ih _ _ (by rw[List.length_drop];omega) (by rw[zmT,zmT,List.length_drop,hbl];show _+1+_+_<=_;omega),pk,if_neg h0,if_pos h1]
     simp only[List.append_assoc,List.cons_append,zmV]
     rfl
    ·rw[beq_eq_false_iff_ne.2 h1]
     dsimp only[zu]
     rw[ih _ _ (by omega) (by omega),pk,if_neg h0,if_neg h1]
     simp only[List.append_assoc,List.cons_append,zmV]
     rfl
noncomputable def pack (l:List Int):List Int:=pk l.length l
theorem zd0 {l:List Int} (hl:l.length<=1099511627776):ev 113 [.pv (.sl 1 (ws l))] []=ok (.sl 1 (bs (pack l))):=by
 rw[zjq]
 exact zjr l.length l [] (Nat.le_refl _) (by show 0+_<=_;omega)
theorem zdZ {b:List Int} (hb:∀ x∈b,zm x) (hl:b.length<=1099511627776) {n:Nat} (hn:8*n=b.length):ev 61 [.pv (.sl 1 (bs b))] []=ok (.tup [.sl 1 (bs (pack (zN n b))),I 0]):=by
 rw[zjo,KC hb hl hn]
 dsimp only[ze,zg,zmS,z4,zmR,zmQ,xf,vv,zu]
 rw[zd0 (by rw[xh];omega)]
 rfl
def wq:Nat->Int->Nat
 |0,_=>0
 |n+1,t=>(if t%2=1 then 1 else 0)+wq n (t/2)
theorem pop8_eq:∀ t:Fin 256,pop8 t.val=wq 8 (t.val:Int):=by decide +kernel
theorem zbo {t:Int} (h:0<=t/\t<256):pop8 t.toNat=wq 8 t:=by
 have:=pop8_eq ⟨t.toNat,by omega⟩
 dsimp only at this
 rw[this,Int.toNat_of_nonneg h.1]
theorem zk2:∀ (i:Fin 8) (t:Fin 256),((IntKind.wrap .u8 (BitVec.ofInt 8 (Int.fdiv (t.val:Int) (2^(min (IntKind.wrap .u64 (i.val:Int)).toNat 8))) &&& BitVec.ofInt 8 1).toNat)==1)=decide ((t.val:Int)/2^i.val%2=1):=by decide +kernel
def Z6:Nat->Int->List Int->List Int
 |0,_,_=>[]
 |n+1,t,b=>if t%2=1 then b.headD 0::Z6 n (t/2) b.tail else 0::Z6 n (t/2) b
def Yp:List Int->Int
 |[]=>0
 |c::l=>c+256*Yp l
def Jm (t:Int) (b:List Int):Int:=Yp (Z6 8 t b)
theorem zhu {b:List Int} (hb:∀ x∈b,zm x) (hl:b.length<=17592186044416) {t:Int} (ht:0<=t/\t<256) (p2:PV):∀ (c i k:Nat) (w:Int),i+c=8->k+wq c (t/2^i)<=b.length->0<=w/\w<2^(8*i)->
  W9 t (bs b) p2 (U w) k i=ok (.tup [U (w+2^(8*i)*Yp (Z6 c (t/2^i) (b.drop k))),p2,Bo true]):=by
 intro c
 induction c with
 |zero=>
  intro i k w hi hk hw
  rw[zcn,decide_eq_false (by omega),Z6]
  show ok _=_
  rw[Yp,Int.mul_zero,Int.add_zero]
 |succ c ih=>
  intro i k w hi hk hw
  have hs:=zi9 ⟨i,by omega⟩
  have hbit:=zk2 ⟨i,by omega⟩ ⟨t.toNat,by omega⟩
  dsimp only at hs hbit
  rw[Int.toNat_of_nonneg ht.1] at hbit
  have hdiv:t/2^i/2=t/2^(i+1):=by rw[Int.pow_succ,Int.ediv_ediv_of_nonneg (Int.pow_nonneg (by decide))]
  have hpow:(2:Int)^(8*(i+1))=2^(8*i)*256:=by rw[show 8*(i+1)=8*i+8 by omega,Int.pow_add];rfl
  have hpos:(0:Int)<2^(8*i):=Int.pow_pos (by decide)
  rw[wq,hdiv] at hk
  rw[zcn,decide_eq_true (show (i:Int)<8 by omega),hs,hbit,zh (x:=(i:Int)+1) (by omega),Z6,hdiv]
  by_cases h1:t/2^i%2=1
  ·rw[if_pos h1] at hk
   have hg:(bs b)[(k:Int).toNat]? = some (U8 (b.getD k 0)):=ZY rfl (by omega)
   have hv:=yL hb k
   rw[decide_eq_true h1,if_pos h1,zR,decide_eq_true (show 0<=(k:Int) by omega),decide_eq_true (show (k:Int)<b.length by omega),hg]
   dsimp only[zr,zmS,ym,zmQ,xF,zc]
   rw[wM (x:=b.getD k 0) (by omega),zh (x:=8*(i:Int)) (by omega),zh (x:=(k:Int)+1) (by omega),show 8*(i:Int)=((8*i:Nat):Int) by push_cast;rfl]
   have hI:=Zw (w:=w) (v:=b.getD k 0) (i:=8*i) (m:=8) hw (by omega) (by decide) (by omega)
   rw[show (2:Int)^8=256 from rfl,show b.getD k 0%256=b.getD k 0 by omega] at hI
   have hI':ev 291 [.pv (U w),.pv (I ((8*i:Nat):Int)),.pv (I 8),.pv (U (b.getD k 0))] []=_:=hI
   rw[hI']
   dsimp only[ze,zg,zmS]
   have hm:b.getD k 0*2^(8*i)<=255*2^(8*i):=Int.mul_le_mul_of_nonneg_right (by omega) (by omega)
   have hm0:0<=b.getD k 0*2^(8*i):=Int.mul_nonneg (by omega) (by omega)
   have:=ih (i+1) (k+1) (w+b.getD k 0*2^(8*i)) (by omega) (by omega) (by rw[hpow];omega)
   refine this.trans ?_
   have e1:(b.drop k).tail=b.drop (k+1):=by rw[List.tail_drop]
   have e2:(b.drop k).headD 0=b.getD k 0:=by rw[List.headD_eq_head?_getD,List.head?_drop,List.getD_eq_getElem?_getD]
   rw[e1,e2,Yp,hpow]
   generalize Yp (Z6 c (t/2^(i+1)) (b.drop (k+1)))=v
   rw[Int.mul_add,Int.mul_comm (2^(8*i)) (b.getD k 0),Int.mul_assoc,Int.add_assoc]
  ·rw[if_neg h1] at hk
   rw[decide_eq_false h1,if_neg h1]
   dsimp only[zu,zc]
   have:=ih (i+1) k w (by omega) (by omega) (by rw[hpow];omega)
   refine this.trans ?_
   rw[Yp,hpow]
   generalize Yp (Z6 c (t/2^(i+1)) (b.drop k))=v
   rw[Int.zero_add,Int.mul_assoc]
theorem zdl {b:List Int} {t:Int} (ht:0<=t/\t<256) (h:b.length<wq 8 t):ev 266 [.pv (U8 t),.pv (.sl 1 (bs b))] []=ok (.tup [U 0,I 0,Bo false]):=by
 rw[zco,Kz ht,zbo ht]
 dsimp only[ze,zg,zmS,z6]
 rw[zR,decide_eq_true (by omega)]
 rfl
theorem zdm {b:List Int} (hb:∀ x∈b,zm x) (hl:b.length<=17592186044416) {t:Int} (ht:0<=t/\t<256) (h:wq 8 t<=b.length):ev 266 [.pv (U8 t),.pv (.sl 1 (bs b))] []=ok (.tup [U (Jm t b),I (wq 8 t),Bo true]):=by
 rw[zco,Kz ht,zbo ht]
 dsimp only[ze,zg,zmS,z6]
 rw[zR,decide_eq_false (by omega)]
 have:=zhu hb hl ht (I (wq 8 t)) 8 0 0 0 rfl (by rw[Int.pow_zero,Int.ediv_one];omega) (by decide)
 rw[Int.pow_zero,Int.ediv_one,Int.one_mul,Int.zero_add] at this
 exact this
def dh (inp out:List Int) (lim:Int):zf:=[[.pv (.sl 1 (bs inp)),.slu 5 1 (bs out),.pv (I lim)]]
def wU:Nat->PV
 |0=>.v .nilIface
 |1=>.sen 1
 |_+2=>.sen 2
theorem ZG (e:Nat):yG (.pv (wU e))=some (decide (e=0)):=by
 rcases e with _|_|e<;>rfl
theorem Zg (a b c:AV):decide ([a,b,c].length=3)=true:=rfl
theorem zfp (x:List Int) (n:Nat):((bs x).take ((bs x).length:Int).toNat).drop (n:Int).toNat=bs (x.drop n):=by
 rw[Int.toNat_natCast,Int.toNat_natCast,List.take_of_length_le (Nat.le_refl _)]
 simp[bs]
theorem zdN {inp out:List Int} {lim:Int} (w:Int) (ho:out.length<=17592186044416):ev 267 [.ptr 0 0,.pv (U w)] (dh inp out lim)=if (out.length:Int)+8>lim then some (.ret (.pv (wU 1)),dh inp out lim) else some (.ret (.pv (wU 0)),dh inp (out++w8 w) lim):=by
 unfold dh
 rw[zlS,zR,zh (x:=(out.length:Int)+8) (by omega)]
 by_cases h:(out.length:Int)+8>lim
 ·rw[decide_eq_true h,if_pos h]
  rfl
 ·rw[decide_eq_false h,if_neg h,Ks]
  dsimp only[ze,zg,zmS,yC,zu]
  rw[zR,wA,yW (by omega) (by omega),←Zx]
  rfl
structure Dr where
 e:Nat
 i:List Int
 o:List Int
def xD (t:Int) (inp out:List Int) (lim:Int):Dr :=
 if inp.length<wq 8 t then ⟨2,inp,out⟩
 else if (out.length:Int)+8>lim then ⟨1,inp.drop (wq 8 t),out⟩ else ⟨0,inp.drop (wq 8 t),out++w8 (Jm t inp)⟩
theorem KF {inp out:List Int} {lim:Int} (hb:∀ x∈inp,zm x) (hl:inp.length<=17592186044416) (ho:out.length<=17592186044416) {t:Int} (ht:0<=t/\t<256):ev 225 [.ptr 0 0,.pv (U8 t)] (dh inp out lim)=some (.ret (.pv (wU (xD t inp out lim).e)),dh (xD t inp out lim).i (xD t inp out lim).o lim):=by
 unfold xD
 have hu:ev 225 [.ptr 0 0,.pv (U8 t)] (dh inp out lim)=_:=zlT (bs inp) (bs out) lim t
 rw[hu]
 by_cases h1:inp.length<wq 8 t
 ·rw[zdl ht h1,if_pos h1]
  rfl
 ·rw[zdm hb hl ht (by omega),if_neg h1]
  dsimp only[ze,zg,zmS,z4,zmR,zmQ,xf,vv,zu,xF]
  rw[zfp,zR,decide_eq_true (show 0<=((wq 8 t:Nat):Int) by omega),decide_eq_true (show ((wq 8 t:Nat):Int)<=(inp.length:Int) by omega),decide_eq_true (Int.le_refl _)]
  have hE:=zdN (inp:=inp.drop (wq 8 t)) (lim:=lim) (Jm t inp) ho
  unfold dh at hE
  dsimp only[zr,zc]
  rw[hE]
  by_cases h2:(out.length:Int)+8>lim
  ·rw[if_pos h2,if_pos h2]
   dsimp only[ze,zmQ,yD,zg,zmS,zc,zmR]
   rw[yE]
   rfl
  ·rw[if_neg h2,if_neg h2]
   dsimp only[ze,zmQ,yD,zg,zmS,zc,zmR]
   rw[yE]
   rfl
structure Kp (r:Dr) (inp out:List Int) (n:Nat):Prop where
 bi:∀ x∈r.i,zm x
 li:r.i.length<=inp.length
 bo:∀ x∈r.o,zm x
 lo:r.o.length<=out.length+n
theorem zl8 (w:Int):∀ x∈w8 w,zm x:=by
 have:=wj [w]
 rw[show zA [w]=w8 w from List.append_nil _] at this
 exact this
theorem WP {inp out:List Int} (t lim:Int) (hb:∀ x∈inp,zm x) (ho:∀ x∈out,zm x):Kp (xD t inp out lim) inp out 8:=by
 unfold xD
 split
 ·exact ⟨hb,Nat.le_refl _,ho,Nat.le_add_right _ _⟩
 split
 ·exact ⟨ZZ hb _,(by rw[List.length_drop];omega),ho,Nat.le_add_right _ _⟩
 ·refine ⟨ZZ hb _,by rw[List.length_drop];omega,fun x hx=>?_,by rw[zmT,wA];exact Nat.le_refl _⟩
  rcases List.mem_append.1 hx with h|h
  ·exact ho x h
  ·exact zl8 _ x h
def Yf (t lim:Int):Nat->List Int->List Int->Dr
 |0,inp,out=>⟨0,inp,out⟩
 |n+1,inp,out=>if (xD t inp out lim).e=0 then Yf t lim n (xD t inp out lim).i (xD t inp out lim).o else xD t inp out lim
theorem zbU (t lim:Int):∀ (n:Nat) {inp out:List Int},(∀ x∈inp,zm x)->(∀ x∈out,zm x)->Kp (Yf t lim n inp out) inp out (8*n)
 |0,inp,out,hb,ho=>⟨hb,Nat.le_refl _,ho,Nat.le_add_right _ _⟩
 |n+1,inp,out,hb,ho=>by
  have h1:=WP t lim hb ho
  rw[Yf]
  split
  ·have h2:=zbU t lim n h1.bi h1.bo
   have a1:=h1.li
   have a2:=h2.li
   have a3:=h1.lo
   have a4:=h2.lo
   exact ⟨h2.bi,by omega,h2.bo,by omega⟩
  ·have a3:=h1.lo
   exact ⟨h1.bi,h1.li,h1.bo,by omega⟩
theorem gc {t lim:Int} (ht:0<=t/\t<256) {N:Nat} (hN:N<=256):∀ (c k:Nat) (inp out:List Int),k+c=N->(∀ x∈inp,zm x)->(∀ x∈out,zm x)->inp.length<=17592186044416->out.length+8*c<=17592186044416->
  Zt t (wU 0) (I N) k (.sl 1 (bs inp)) (bs out) (I lim)=some (.ret (.pv (wU (Yf t lim c inp out).e)),dh (Yf t lim c inp out).i (Yf t lim c inp out).o lim):=by
 intro c
 induction c with
 |zero=>
  intro k inp out hk hb ho hl hlo
  rw[qx]
  dsimp only[z6,zmS]
  rw[decide_eq_false (by omega)]
  rfl
 |succ c ih=>
  intro k inp out hk hb ho hl hlo
  have hn:=KF (out:=out) (lim:=lim) hb hl (by omega) ht
  have hkp:=WP t lim hb ho
  have a1:=hkp.li
  have a2:=hkp.lo
  unfold dh at hn
  rw[qx]
  dsimp only[z6,zmS]
  rw[decide_eq_true (by omega),hn]
  dsimp only[ze,zmQ,yD,zg,zmS,zc,zmR]
  rw[yE]
  dsimp only[Zg,zc,zmS]
  rw[ZG,zh (x:=(k:Int)+1) (by omega),Yf]
  dsimp only[zmS]
  by_cases h0:(xD t inp out lim).e=0
  ·rw[decide_eq_true h0,if_pos h0,h0]
   exact ih (k+1) _ _ (by omega) hkp.bi hkp.bo (by omega) (by omega)
  ·rw[decide_eq_false h0,if_neg h0]
   rfl
theorem ge {t lim:Int} {e:Nat} (inp out:List Int):Zt t (wU e) (I 0) 0 (.sl 1 (bs inp)) (bs out) (I lim)=some (.ret (.pv (wU e)),dh inp out lim):=by
 rw[qx]
 rfl
def Xj (t lim:Int) (inp out:List Int):Dr:=match inp with
 |[]=>⟨2,[],out⟩
 |n::rest=>Yf t lim (if t=0 then n.toNat+1 else n.toNat) rest out
def Zj (t lim:Int) (inp out:List Int):Dr :=
 if t=255 then (if (xD t inp out lim).e=0 then Xj t lim (xD t inp out lim).i (xD t inp out lim).o else xD t inp out lim) else Xj t lim inp out
theorem rW (t lim:Int) {inp out:List Int} (hb:∀ x∈inp,zm x) (ho:∀ x∈out,zm x):Kp (Xj t lim inp out) inp out 2048:=by
 unfold Xj
 split
 ·exact ⟨hb,Nat.le_refl _,ho,Nat.le_add_right _ _⟩
 ·rename_i n rest
  have hn:=hb n (List.mem_cons_self ..)
  unfold zm at hn
  have h:=zbU t lim (if t=0 then n.toNat+1 else n.toNat) (inp:=rest) (fun x hx=>hb x (List.mem_cons_of_mem _ hx)) ho
  have a1:=h.li
  have a2:=h.lo
  have a3:(if t=0 then n.toNat+1 else n.toNat)<=256:=by split<;>omega
  exact ⟨h.bi,by rw[zmU];omega,h.bo,by omega⟩
theorem zhW (t lim:Int) {inp out:List Int} (hb:∀ x∈inp,zm x) (ho:∀ x∈out,zm x):Kp (Zj t lim inp out) inp out 2056:=by
 unfold Zj
 have h1:=WP t lim hb ho
 have h3:=rW t lim hb ho
 have a1:=h1.li
 have a2:=h1.lo
 have a3:=h3.lo
 split
 ·split
  ·have h2:=rW t lim h1.bi h1.bo
   have a4:=h2.li
   have a5:=h2.lo
   exact ⟨h2.bi,by omega,h2.bo,by omega⟩
  ·exact ⟨h1.bi,h1.li,h1.bo,by omega⟩
 ·exact ⟨h3.bi,h3.li,h3.bo,by omega⟩
theorem uP {out:List Int} {lim:Int}:ev 265 [.ptr 0 0] (dh [] out lim)=some (.ret (.pv (.tup [I 0,wU 2])),dh [] out lim):=by
 have:=zcL (bs []) (bs out) lim
 exact this.trans rfl
theorem uN {n:Int} {rest out:List Int} {lim:Int} (hn:zm n):ev 265 [.ptr 0 0] (dh (n::rest) out lim)=some (.ret (.pv (.tup [I n,wU 0])),dh rest out lim):=by
 have:=zcL (bs (n::rest)) (bs out) lim
 refine this.trans ?_
 unfold zm at hn
 have hl:(((bs (n::rest)).length:Nat):Int)=rest.length+1:=by rw[zR];rfl
 have hc:((bs (n::rest)).take (((bs (n::rest)).length:Nat):Int).toNat).drop 1=bs rest:=by
  rw[Int.toNat_natCast,List.take_of_length_le (Nat.le_refl _)]
  rfl
 rw[hc,hl,beq_eq_false_iff_ne.2 (by omega),decide_eq_true (show 0<(rest.length:Int)+1 by omega),show (bs (n::rest))[0]? = some (U8 n) from rfl,decide_eq_true (show 1<=(rest.length:Int)+1 by omega),decide_eq_true (Int.le_refl _)]
 dsimp only[zr,zc,zmS,ym,zmQ,xF,zu]
 rw[zh (x:=n) (by omega)]
 rfl
theorem uS {t lim:Int} (ht:t=0∨t=255) {inp out:List Int} (hb:∀ x∈inp,zm x) (ho:∀ x∈out,zm x) (hl:inp.length<=17592186044416) (hlo:out.length+2056<=17592186044416):ev 224 [.ptr 0 0,.pv (U8 t)] (dh inp out lim)=some (.ret (.pv (wU (Zj t lim inp out).e)),dh (Zj t lim inp out).i (Zj t lim inp out).o lim):=by
 have hu:ev 224 [.ptr 0 0,.pv (U8 t)] (dh inp out lim)=_:=zlU (bs inp) (bs out) lim t
 rw[hu]
 unfold Zj
 rcases ht with rfl|rfl
 ·rw[show ((0:Int)==255)=false from rfl,if_neg (by decide)]
  dsimp only[zu]
  cases inp with
  |nil=>
   have h:=uP (out:=out) (lim:=lim)
   unfold dh at h
   rw[h]
   dsimp only[ze,zmQ,yD,zg,zmS,z4,zmR,z6,zc]
   rw[yE]
   dsimp only[Zg,zc,zmS]
   rw[ZG]
   exact ge [] out
  |cons n rest=>
   have hn:=hb n (List.mem_cons_self ..)
   have h:=uN (rest:=rest) (out:=out) (lim:=lim) hn
   unfold dh at h
   unfold zm at hn
   rw[zmU] at hl
   rw[h]
   dsimp only[ze,zmQ,yD,zg,zmS,z4,zmR,z6,zc]
   rw[yE]
   dsimp only[Zg,zc,zmS]
   rw[ZG,show ((0:Int)==0)=true from rfl,zh (x:=n+1) (by omega)]
   dsimp only[zc,zmS,Xj]
   rw[if_pos rfl]
   have:=gc (t:=0) (lim:=lim) (by decide) (N:=n.toNat+1) (by omega) (n.toNat+1) 0 rest out (by omega) (fun x hx=>hb x (List.mem_cons_of_mem _ hx)) ho (by omega) (by omega)
   rw[show ((n.toNat+1:Nat):Int)=n+1 by omega] at this
   exact this
 ·rw[show ((255:Int)==255)=true from rfl,if_pos rfl]
  dsimp only[zc]
  have hn:=KF (out:=out) (lim:=lim) hb hl (by omega) (t:=255) (by decide)
  have hkp:=WP 255 lim hb ho
  unfold dh at hn
  rw[hn]
  dsimp only[ze,zmQ,yD,zg,zmS,zc,zmR]
  rw[yE]
  dsimp only[Zg,zc,zmS]
  rw[ZG]
  dsimp only[zmS]
  by_cases h0:(xD 255 inp out lim).e=0
  ·rw[decide_eq_true h0,if_pos h0]
   dsimp only[vv,zu]
   have a1:=hkp.li
   have a2:=hkp.lo
   have a3:=hkp.bi
   have a4:=hkp.bo
   generalize (xD 255 inp out lim).i=ri at a1 a3 ⊢
   generalize (xD 255 inp out lim).o=ro at a2 a4 ⊢
   cases ri with
   |nil=>
    have h:=uP (out:=ro) (lim:=lim)
    unfold dh at h
    rw[h]
    dsimp only[ze,zmQ,yD,zg,zmS,z4,zmR,z6,zc]
    rw[yE]
    dsimp only[Zg,zc,zmS]
    rw[ZG]
    exact ge [] ro
   |cons n rest=>
    have hn:=a3 n (List.mem_cons_self ..)
    have h:=uN (rest:=rest) (out:=ro) (lim:=lim) hn
    unfold dh at h
    unfold zm at hn
    rw[zmU] at a1
    rw[h]
    dsimp only[ze,zmQ,yD,zg,zmS,z4,zmR,z6,zc]
    rw[yE]
    dsimp only[Zg,zc,zmS]
    rw[ZG,show ((255:Int)==0)=false from rfl]
    dsimp only[zu,zmS,Xj]
    rw[if_neg (by decide)]
    have:=gc (t:=255) (lim:=lim) (by decide) (N:=n.toNat) (by omega) n.toNat 0 rest ro (by omega) (fun x hx=>a3 x (List.mem_cons_of_mem _ hx)) a4 (by omega) (by omega)
    rw[show ((n.toNat:Nat):Int)=n by omega] at this
    exact this
  ·rw[decide_eq_false h0,if_neg h0]
   rfl
def wv (t lim:Int) (inp out:List Int):Dr:=if t=0∨t=255 then Zj t lim inp out else xD t inp out lim
theorem zcc (t lim:Int) {inp out:List Int} (hb:∀ x∈inp,zm x) (ho:∀ x∈out,zm x):Kp (wv t lim inp out) inp out 2056:=by
 unfold wv
 split
 ·exact zhW t lim hb ho
 ·have h:=WP t lim hb ho
  have a2:=h.lo
  exact ⟨h.bi,h.li,h.bo,by omega⟩
attribute [irreducible] wv xD Zj
def Z1 (lim:Int):Nat->List Int->List Int->Dr
 |0,inp,out=>⟨0,inp,out⟩
 |_+1,[],out=>⟨0,[],out⟩
 |f+1,t::rest,out=>if (wv t lim rest out).e=0 then Z1 lim f (wv t lim rest out).i (wv t lim rest out).o else wv t lim rest out
theorem je (lim:Int):∀ (f:Nat) {inp out:List Int},(∀ x∈inp,zm x)->(∀ x∈out,zm x)->Kp (Z1 lim f inp out) inp out (2056*inp.length)
 |0,inp,out,hb,ho=>⟨hb,Nat.le_refl _,ho,Nat.le_add_right _ _⟩
 |f+1,[],out,hb,ho=>⟨hb,Nat.le_refl _,ho,Nat.le_add_right _ _⟩
 |f+1,t::rest,out,hb,ho=>by
  have h:=zcc t lim (inp:=rest) (fun x hx=>hb x (List.mem_cons_of_mem _ hx)) ho
  have a1:=h.li
  have a2:=h.lo
  rw[Z1,zmU]
  split
  ·have h2:=je lim f h.bi h.bo
   have a3:=h2.li
   have a4:=h2.lo
   exact ⟨h2.bi,by rw[zmU];omega,h2.bo,by omega⟩
  ·exact ⟨h.bi,by rw[zmU];omega,h.bo,Nat.le_trans a2 (Nat.add_le_add_left (show 2056<=2056*(rest.length+1) by omega) _)⟩
theorem zbK {a b:Nat} (h:a+4096*(b+1)<=17592186044416):a+2056<=17592186044416:=Nat.le_trans (Nat.add_le_add_left (Nat.le_trans (show 2056<=4096*1 by decide) (Nat.mul_le_mul_left 4096 (Nat.le_add_left 1 b))) a) h
theorem zfn (x:Int) (l:List Int):((bs (x::l)).take (((bs (x::l)).length:Nat):Int).toNat).drop 1=bs l:=by
 rw[Int.toNat_natCast,List.take_of_length_le (Nat.le_refl _)]
 rfl
theorem zdL {lim:Int}:∀ (f:Nat) (inp out:List Int),inp.length<=f->(∀ x∈inp,zm x)->(∀ x∈out,zm x)->out.length+4096*inp.length<=17592186044416->
  XW (wU 0) (.sl 1 (bs inp)) (bs out) (I lim)=some (.ret (.pv (wU (Z1 lim f inp out).e)),dh (Z1 lim f inp out).i (Z1 lim f inp out).o lim):=by
 intro f
 induction f with
 |zero=>
  intro inp out hf hb ho hl
  have:inp=[]:=List.length_eq_zero_iff.1 (by omega)
  rw[this,qw]
  rfl
 |succ f ih=>
  intro inp out hf hb ho hl
  cases inp with
  |nil=>
   rw[qw]
   rfl
  |cons t rest=>
   rw[zmU] at hf hl
   have ht:=hb t (List.mem_cons_self ..)
   unfold zm at ht
   have hbr:∀ x∈rest,zm x:=fun x hx=>hb x (List.mem_cons_of_mem _ hx)
   have hlen:(((bs (t::rest)).length:Nat):Int)=rest.length+1:=by rw[zR];rfl
   have hkp:=zcc t lim hbr ho
   have a1:=hkp.li
   have a2:=hkp.lo
   have a3:=hkp.bi
   have a4:=hkp.bo
   rw[qw,Z1]
   dsimp only[yC,zmS]
   rw[zfn,hlen,decide_eq_true (show (rest.length:Int)+1>0 by omega),show (bs (t::rest))[0]? = some (U8 t) from rfl,decide_eq_true (show 1<=(rest.length:Int)+1 by omega),decide_eq_true (Int.le_refl _),show decide ((1:Nat)=1)=true from rfl]
   dsimp only[zr,zc,zmS,ym,zmQ,ZH]
   by_cases h0:t=0
   ·have hg:=uS (t:=t) (lim:=lim) (.inl h0) hbr ho (by omega) (zbK hl)
    have hs:wv t lim rest out=Zj t lim rest out:=by unfold wv;rw[if_pos (.inl h0)]
    rw[←hs] at hg
    unfold dh at hg
    rw[beq_iff_eq.2 h0,hg]
    dsimp only[ze,zmQ,yD,zg,zmS,zc,zmR]
    rw[yE]
    dsimp only[Zg,zc,zmS]
    rw[ZG]
    dsimp only[zmS]
    by_cases h3:(wv t lim rest out).e=0
    ·rw[decide_eq_true h3,if_pos h3,h3]
     exact ih _ _ (by omega) a3 a4 (by omega)
    ·rw[decide_eq_false h3,if_neg h3]
     rfl
   ·rw[beq_eq_false_iff_ne.2 h0]
    dsimp only[zu]
    by_cases h1:t=255
    ·have hg:=uS (t:=t) (lim:=lim) (.inr h1) hbr ho (by omega) (zbK hl)
     have hs:wv t lim rest out=Zj t lim rest out:=by unfold wv;rw[if_pos (.inr h1)]
     rw[←hs] at hg
     unfold dh at hg
     rw[beq_iff_eq.2 h1,hg]
     dsimp only[ze,zmQ,yD,zg,zmS,zc,zmR]
     rw[yE]
     dsimp only[Zg,zc,zmS]
     rw[ZG]
     dsimp only[zmS]
     by_cases h3:(wv t lim rest out).e=0
     ·rw[decide_eq_true h3,if_pos h3,h3]
      exact ih _ _ (by omega) a3 a4 (by omega)
     ·rw[decide_eq_false h3,if_neg h3]
      rfl
    ·have hg:=KF (t:=t) (out:=out) (lim:=lim) hbr (by omega) (by omega) (by omega)
     have hs:wv t lim rest out=xD t rest out lim:=by unfold wv;rw[if_neg (by omega)]
     rw[←hs] at hg
     unfold dh at hg
     rw[beq_eq_false_iff_ne.2 h1,hg]
     dsimp only[ze,zmQ,yD,zg,zmS,zc,zmR,zu]
     rw[yE]
     dsimp only[Zg,zc,zmS]
     rw[ZG]
     dsimp only[zmS]
     by_cases h3:(wv t lim rest out).e=0
     ·rw[decide_eq_true h3,if_pos h3,h3]
      exact ih _ _ (by omega) a3 a4 (by omega)
     ·rw[decide_eq_false h3,if_neg h3]
      rfl
def rX:Nat->Int
 |0=>0
 |1=>11
 |_+2=>10
def YH (lim:Int):Int:=if 0>lim then 0 else lim
def Zs (p:List Int) (lim:Int):Dr:=Z1 (YH lim) p.length p []
theorem zd1 {p:List Int} (hb:∀ x∈p,zm x) (hl:p.length<=1073741824) (lim:Int):ev 101 [.pv (.sl 1 (bs p)),.pv (I lim)] []=some (.ret (.tup 0 (.slu 5 1 (bs (Zs p lim).o)) [.v .nilIface,I (rX (Zs p lim).e)]),[]):=by
 have hd:=zdL (lim:=YH lim) p.length p [] (Nat.le_refl _) hb (fun x hx=>by cases hx) (by show 0+_<=_;omega)
 have hE:ev 161 [.ptr 0 0] [[.pv (.sl 1 (bs p)),.slu 5 1 [],.pv (I (YH lim))]]=some (.ret (.pv (wU (Zs p lim).e)),dh (Zs p lim).i (Zs p lim).o (YH lim)):=(zlR (bs p) [] (YH lim)).trans hd
 rw[zlQ]
 unfold YH dh at hE
 rw[hE]
 dsimp only[ze,zmQ,yD,zg,zmS,zc,zmR]
 rw[yE]
 dsimp only[Zg,zc,zmS]
 rw[jG,jG]
 rcases (Zs p lim).e with _|_|e<;>rfl
def Zr (p:List Int) (lim:Int):Int:=rX (Zs p lim).e
def vX (p:List Int) (lim:Int):List Int:=if (Zs p lim).e=0 then (Zs p lim).o else []
theorem zed {p:List Int} (hb:∀ x∈p,zm x) (hl:p.length<=1073741824) (lim:Int):ev 52 [.pv (.sl 1 (bs p)),.pv (I lim)] []=some (.ret (.tup 0 (.slu 5 1 (bs (vX p lim))) [.v .nilIface,I (Zr p lim)]),[]):=by
 rw[zlP,zd1 hb hl]
 dsimp only[ze]
 rw[YJ]
 dsimp only[zmS,zmR,zmQ,z6]
 rw[yE]
 dsimp only[zmS]
 unfold vX Zr
 rcases (Zs p lim).e with _|_|e<;>rfl
theorem zlO {p:List Int} (hb:∀ x∈p,zm x) (lim:Int):(∀ x∈vX p lim,zm x)/\(vX p lim).length<=2056*p.length:=by
 have h:=je (YH lim) p.length hb (out:=[]) (fun x hx=>by cases hx)
 have a2:=h.lo
 have a3:=h.bo
 unfold vX
 split
 ·refine ⟨a3,?_⟩
  rw[List.length_nil,Nat.zero_add] at a2
  exact a2
 ·exact ⟨(fun x hx=>absurd hx List.not_mem_nil),Nat.zero_le _⟩
theorem zkT {b:List Int}:∀ (c i:Nat) (rest:List Int) (l:List (List Int)),y3 b c i rest=some l->8 ∣ rest.length:=by
 intro c
 induction c with
 |zero=>
  intro i rest l h
  rw[y3] at h
  split at h
  ·rename_i h0
   rw[h0]
   exact ⟨0,rfl⟩
  ·cases h
 |succ c ih=>
  intro i rest l h
  rw[y3] at h
  split at h
  ·rename_i h1
   cases hq:y3 b c (i+1) (rest.drop (8*(zF b i).toNat)) with
   |none=>rw[hq] at h;cases h
   |some t=>
    have:=ih _ _ _ hq
    rw[List.length_drop] at this
    omega
  ·cases h
theorem zjX {b:List Int} {l:List (List Int)} (h:yF b=some l):8<=b.length/\8 ∣ b.length:=by
 unfold yF at h
 split at h
 ·cases h
 split at h
 ·cases h
 split at h
 ·cases h
 split at h
 ·cases h
 have h1:=zkT _ _ _ _ h
 rw[List.length_drop] at h1
 have h2:8 ∣ yp (zF b 0+1).toNat:=by unfold yp;split<;>omega
 have h3:(zF b 0+1).toNat=0->yp (zF b 0+1).toNat=8:=fun h=>by rw[h];rfl
 have h4:4*(zF b 0+1).toNat+4<=yp (zF b 0+1).toNat:=by unfold yp;split<;>omega
 omega
noncomputable def mP (b:List Int):List Int:=if yF b=none then [] else pack (zN (b.length/8) b)
def pE (b:List Int):Int:=if yF b=none then 1 else 0
theorem zdT {b:List Int} (hb:∀ x∈b,zm x) (hl:b.length<=1099511627776):ev 19 [.pv (.sl 1 (bs b))] []=ok (.tup [.sl 1 (bs (mP b)),I (pE b)]):=by
 rw[ziF,ZW hb hl]
 unfold mP pE
 dsimp only[ze,zg,zmS,z4,zmR,zmQ]
 rw[vk]
 cases h:yF b with
 |none=>
  rw[if_pos rfl,if_pos rfl]
  dsimp only[zmS]
  rw[show (!decide ((1:Int)=0))=true from rfl]
  dsimp only[zc]
  rw[Y5]
  rfl
 |some l=>
  obtain ⟨h1,h2⟩:=zjX h
  rw[if_neg (by simp),if_neg (by simp),decide_eq_true (show (0:Int)=0 from rfl)]
  dsimp only[zmS,vv,zu]
  rw[zdZ hb hl (n:=b.length/8) (by omega)]
  rfl
noncomputable def uE (p:List Int) (o:Int):Int:=if Zr p o≠0 then Zr p o else if yF (vX p o)=none then 1 else 0
noncomputable def uO (p:List Int) (o:Int):List Int:=if uE p o=0 then vX p o else []
theorem zlG {p:List Int} {o:Int} (h:Zr p o≠0):uE p o=Zr p o/\uO p o=[]:=by
 have e:uE p o=Zr p o:=by unfold uE;rw[if_pos h]
 exact ⟨e,by unfold uO;rw[e,if_neg h]⟩
theorem zlH {p:List Int} {o:Int} (h:Zr p o=0) (hp:yF (vX p o)=none):uE p o=1/\uO p o=[]:=by
 have e:uE p o=1:=by unfold uE;rw[if_neg (fun x=>x h),if_pos hp]
 exact ⟨e,by unfold uO;rw[e,if_neg (by decide)]⟩
theorem zlI {p:List Int} {o:Int} (h:Zr p o=0) {l:List (List Int)} (hp:yF (vX p o)=some l):uE p o=0/\uO p o=vX p o:=by
 have e:uE p o=0:=by unfold uE;rw[if_neg (fun x=>x h),hp,if_neg (by simp)]
 exact ⟨e,by unfold uO;rw[e,if_pos rfl]⟩
theorem uV {p:List Int} (hb:∀ x∈p,zm x) (hl:p.length<=65536) (d w o:Int):ev 20 [.pv (.sl 1 (bs p)),.pv (.agg [I d,I w,I o])] []=ok (.tup [.sl 1 (bs (uO p o)),I (uE p o)]):=by
 obtain ⟨k1,k2⟩:=zlO hb o
 rw[ziG,zed hb (by omega)]
 dsimp only[ze]
 rw[YJ]
 dsimp only[zmS,zmR,zmQ,z6]
 rw[yE]
 dsimp only[zmS]
 by_cases h0:Zr p o=0
 ·rw[h0,show ((0:Int) != 0)=false from rfl]
  dsimp only[zu]
  rw[ZW k1 (by omega)]
  dsimp only[ze,zg,zmS,z4,zmR,zmQ]
  rw[vk]
  cases h:yF (vX p o) with
  |none=>
   obtain ⟨e1,e2⟩:=zlH h0 h
   rw[e1,e2,if_pos rfl,decide_eq_false (show ¬(1:Int)=0 by decide)]
   dsimp only[zmS,Qw,zc]
   rw[Y5]
   rfl
  |some l=>
   obtain ⟨e1,e2⟩:=zlI h0 h
   rw[e1,e2,if_neg (by simp),decide_eq_true (show (0:Int)=0 from rfl)]
   rfl
 ·obtain ⟨e1,e2⟩:=zlG h0
  rw[wi h0,e1,e2]
  rfl
def mEmp:List Int:=[0,0,0,0,0,0,0,0]
def mNul:List Int:=[0,0,0,0,1,0,0,0,0,0,0,0,0,0,0,0]
def Zk:List Int:=[16,1,0,0]
theorem byte_of {l:List Int} (h:(l.all fun x=>decide (0<=x)&&decide (x<=255))=true):∀ x∈l,zm x:=by
 intro x hx
 have:=List.all_eq_true.1 h x hx
 rw[Bool.and_eq_true,decide_eq_true_iff,decide_eq_true_iff] at this
 exact this
theorem WA:∀ x∈mEmp,zm x:=byte_of rfl
theorem JD:∀ x∈mNul,zm x:=byte_of rfl
theorem zbk:∀ x∈Zk,zm x:=byte_of rfl
theorem ziQ:∀ x∈([]:List Int),zm x:=fun x hx=>by cases hx
theorem WB:mEmp.length<=1099511627776:=by show 8<=1099511627776;decide
theorem JE:mNul.length<=1099511627776:=by show 16<=1099511627776;decide
theorem zek:ev 16 [.pv (.sl 1 (bs mEmp)),.pv (.agg [I 5,I 100,I 100])] []=some (.ret (.tup 0 (.slu 5 1 (bs mNul)) [.v .nilIface,I 0]),[]):=by
 rw[uu WA WB (d:=5) (w:=100) (o:=100) (by decide) (by decide),show xj mEmp 5 100=mNul from by kernel_rfl,show mE mEmp 5 100=0 from by kernel_rfl]
theorem zel:ev 18 [.pv (.sl 1 (bs mEmp)),.pv (.sl 1 (bs mNul)),.pv (.agg [I 5,I 100,I 100])] []=ok (.tup [Bo true,I 0]):=by
 have e1:mE mEmp 5 100=0:=by kernel_rfl
 have e2:mE mNul 5 100=0:=by kernel_rfl
 have e3:mN mEmp 5 100=mN mNul 5 100:=by kernel_rfl
 rw[uT WA WB JD JE (d:=5) (w:=100) (o:=100) (by decide) (by decide)]
 unfold Qa Qt
 rw[if_pos ⟨e1,e2⟩,if_pos e1,e2,wD e3]
theorem zem:ev 18 [.pv (.sl 1 (bs mEmp)),.pv (.sl 1 []),.pv (.agg [I 5,I 100,I 100])] []=ok (.tup [Bo false,I 1]):=by
 have e1:mE mEmp 5 100=0:=by kernel_rfl
 have e2:mE [] 5 100=1:=by kernel_rfl
 have h:=uT WA WB ziQ (Nat.zero_le _) (d:=5) (w:=100) (o:=100) (by decide) (by decide)
 unfold Qa Qt at h
 rw[if_neg (by rw[e2];exact fun h=>absurd h.2 (by decide)),if_pos e1,e2] at h
 exact h
theorem zen:ev 19 [.pv (.sl 1 (bs mNul))] []=ok (.tup [.sl 1 (bs Zk),I 0]):=by
 rw[zdT JD JE,show mP mNul=Zk from by kernel_rfl,show pE mNul=0 from by kernel_rfl]
theorem zeo:ev 20 [.pv (.sl 1 (bs Zk)),.pv (.agg [I 5,I 100,I 100])] []=ok (.tup [.sl 1 (bs mNul),I 0]):=by
 rw[uV zbk (by decide) 5 100 100,show uO Zk 100=mNul from by kernel_rfl,show uE Zk 100=0 from by kernel_rfl]
theorem zep:ev 20 [.pv (.sl 1 (bs Zk)),.pv (.agg [I 0,I 0,I 15])] []=ok (.tup [.sl 1 [],I 11]):=by
 rw[uV zbk (by decide) 0 0 15,show uO Zk 15=[] from by kernel_rfl,show uE Zk 15=11 from by kernel_rfl]
 rfl
theorem zeq:ev 17 [.pv (.sl 1 (bs mEmp)),.pv (.agg [I 5,I 100,I 100])] []=ok (.tup [U hA,I 0]):=by
 rw[uU WA WB (d:=5) (w:=100) (o:=100) (by decide) (by decide),show mH mEmp 5 100=hA from by kernel_rfl,show mE mEmp 5 100=0 from by kernel_rfl]
theorem w9:ev 130 [.pv (Bo true)] []=ok (.tup []):=by rw[rB];rfl
theorem xQ:ev 130 [.pv (Bo false)] []=some (.pan (.ifc 174 (.agg [])),[]):=by rw[rB];rfl
theorem zer:ev 76 [.pv (.sl 1 []),.pv (.agg [I 5,I 100,I 100])] []=ok (Bo false):=by
 rw[KT,show decide ((([]:List PV).length:Int)>0)=false from rfl,xQ]
 rfl
theorem zes:ev 76 [.pv (.sl 1 [U 0]),.pv (.agg [I 5,I 100,I 100])] []=ok (Bo true):=by
 have hv:=KU [U 0] 1 5 100 100 (max 100 0) 0 1
 have hn:ev 190 [.pv (U 0)] []=ok (Bo true):=by rw[XK];rfl
 have hv':ev 132 [.ptr 0 0,.pv (I 0),.pv (I 1)] [[.pv (.sl 1 [U 0]),.pv (I 1),.pv (I 5),.pv (I 100),.pv (I 100),.pv (I (max 100 0))]]=some (.ret (.pv (.tup [])),[[.pv (.sl 1 [U 0]),.pv (I 1),.pv (I 5),.pv (I 100),.pv (I 100),.pv (I (max 100 0))]]):=by
  rw[hv]
  rw[show decide ((0:Int)<=0)=true from rfl,show decide ((0:Int)<(([U 0]:List PV).length:Int))=true from rfl,show ([U 0]:List PV)[(0:Int).toNat]? = some (U 0) from rfl]
  dsimp only[zr,zmS,ym,zmQ,zc]
  rw[hn]
  rfl
 rw[KT,show decide ((([U 0]:List PV).length:Int)>0)=true from rfl,w9,Vt]
 dsimp only[ze,zg,zmS,xA,zmQ,yM,zr,zc]
 rw[hv']
 rfl
theorem zh3:ev 35 [.pv (.sl 1 (bs mEmp)),.pv (.agg [I 5,I 100,I 100])] []=ok (Bo false):=by
 rw[JB,ZW WA WB,Y4 (by decide) (by decide),show yF mEmp=some [[]] from by kernel_rfl,if_neg (by simp),Option.getD_some]
 dsimp only[ze,zg,zmS,z4,zmR,zmQ,yC]
 rw[vk]
 show zb (ev 76 [.pv (.sl 1 []),.pv (.agg [I 5,I 100,I 100])] []) _ _=_
 rw[zer]
 rfl
theorem zh4:ev 35 [.pv (.sl 1 (bs mNul)),.pv (.agg [I 5,I 100,I 100])] []=ok (Bo true):=by
 rw[JB,ZW JD JE,Y4 (by decide) (by decide),show yF mNul=some [[0]] from by kernel_rfl,if_neg (by simp),Option.getD_some]
 dsimp only[ze,zg,zmS,z4,zmR,zmQ,yC]
 rw[vk]
 show zb (ev 76 [.pv (.sl 1 [U 0]),.pv (.agg [I 5,I 100,I 100])] []) _ _=_
 rw[zes]
 rfl
theorem uG {l:List Int} (h:l.length<=17592186044416):ev 27 [.pv (.sl 1 (bs l)),.pv (.sl 1 (bs l))] []=ok (Bo true):=by
 have:=uF h h
 rw[wD rfl] at this
 exact this
theorem zdA:ev 33 [] []=ok (Bo true):=by
 have c1:ev 16 [.pv (.sl 1 [U8 0,U8 0,U8 0,U8 0,U8 0,U8 0,U8 0,U8 0]),.pv (.agg [I 5,I 100,I 100])] []=some (.ret (.tup 0 (.slu 5 1 [U8 0,U8 0,U8 0,U8 0,U8 1,U8 0,U8 0,U8 0,U8 0,U8 0,U8 0,U8 0,U8 0,U8 0,U8 0,U8 0]) [.v .nilIface,I 0]),[]):=zek
 have c2:ev 18 [.pv (.sl 1 [U8 0,U8 0,U8 0,U8 0,U8 0,U8 0,U8 0,U8 0]),.pv (.sl 1 [U8 0,U8 0,U8 0,U8 0,U8 1,U8 0,U8 0,U8 0,U8 0,U8 0,U8 0,U8 0,U8 0,U8 0,U8 0,U8 0]),.pv (.agg [I 5,I 100,I 100])] []=ok (.tup [Bo true,I 0]):=zel
 have c3:ev 18 [.pv (.sl 1 [U8 0,U8 0,U8 0,U8 0,U8 0,U8 0,U8 0,U8 0]),.pv (.sl 1 []),.pv (.agg [I 5,I 100,I 100])] []=ok (.tup [Bo false,I 1]):=zem
 have c4:ev 19 [.pv (.sl 1 [U8 0,U8 0,U8 0,U8 0,U8 1,U8 0,U8 0,U8 0,U8 0,U8 0,U8 0,U8 0,U8 0,U8 0,U8 0,U8 0])] []=ok (.tup [.sl 1 [U8 16,U8 1,U8 0,U8 0],I 0]):=zen
 have c5:ev 20 [.pv (.sl 1 [U8 16,U8 1,U8 0,U8 0]),.pv (.agg [I 5,I 100,I 100])] []=ok (.tup [.sl 1 [U8 0,U8 0,U8 0,U8 0,U8 1,U8 0,U8 0,U8 0,U8 0,U8 0,U8 0,U8 0,U8 0,U8 0,U8 0,U8 0],I 0]):=zeo
 have c6:ev 20 [.pv (.sl 1 [U8 16,U8 1,U8 0,U8 0]),.pv (.agg [I 0,I 0,I 15])] []=ok (.tup [.sl 1 [],I 11]):=zep
 have c7:ev 17 [.pv (.sl 1 [U8 0,U8 0,U8 0,U8 0,U8 0,U8 0,U8 0,U8 0]),.pv (.agg [I 5,I 100,I 100])] []=ok (.tup [U hA,I 0]):=zeq
 have c8:ev 35 [.pv (.sl 1 [U8 0,U8 0,U8 0,U8 0,U8 0,U8 0,U8 0,U8 0]),.pv (.agg [I 5,I 100,I 100])] []=ok (Bo false):=zh3
 have c9:ev 35 [.pv (.sl 1 [U8 0,U8 0,U8 0,U8 0,U8 1,U8 0,U8 0,U8 0,U8 0,U8 0,U8 0,U8 0,U8 0,U8 0,U8 0,U8 0]),.pv (.agg [I 5,I 100,I 100])] []=ok (Bo true):=zh4
 have s1:ev 27 [.pv (.sl 1 [U8 0,U8 0,U8 0,U8 0,U8 1,U8 0,U8 0,U8 0,U8 0,U8 0,U8 0,U8 0,U8 0,U8 0,U8 0,U8 0]),.pv (.sl 1 [U8 0,U8 0,U8 0,U8 0,U8 1,U8 0,U8 0,U8 0,U8 0,U8 0,U8 0,U8 0,U8 0,U8 0,U8 0,U8 0])] []=ok (Bo true):=uG (l:=mNul) (by decide)
 have s2:ev 27 [.pv (.sl 1 [U8 16,U8 1,U8 0,U8 0]),.pv (.sl 1 [U8 16,U8 1,U8 0,U8 0])] []=ok (Bo true):=uG (l:=Zk) (by decide)
 rw[zf5,c1,c2,c3,c4,c7,c8,c9,zhX]
 dsimp only[ze,zg,zmS,xf,Qw,zc,wR,z4,zmR,zmQ,z6]
 rw[YJ]
 dsimp only[zmS,zmR,zmQ,z6]
 rw[yE]
 dsimp only[zmS]
 rw[c5,c6,show ((0:Int)==0)=true from rfl,show ((1:Int)==1)=true from rfl,s1,s2,show (hA==hA)=true from by simp]
 dsimp only[zc,ze,zg,zmS,xf,z4,zmR,zmQ,z6]
 rw[show ((0:Int)==0)=true from rfl,show ((11:Int)==11)=true from rfl,s1]
 rfl
theorem mE0 {b:List Int} {d w:Int} (h:mE b d w=0):∃ l,yF b=some l/\yJ l d w=0:=by
 unfold mE at h
 split at h
 ·rename_i l h1
  exact ⟨l,h1,h⟩
 ·cases h
theorem KS {b:List Int} {d w:Int} {l:List (List Int)} (h:yF b=some l) (h0:yJ l d w=0):xj b d w=Yj (xt l d w)/\mN b d w=yY l d w/\mH b d w=Xx l d w:=by
 unfold xj mN mH
 rw[h]
 exact ⟨if_pos h0,rfl,rfl⟩
theorem Xi (a b c d e f:AV):decide ([a,b,c,d,e,f].length=6)=true:=rfl
def ch (W:List Int) (nx d w o m:Int):zf:=[[.pv (.sl 1 (ws W)),.pv (I nx),.pv (I d),.pv (I w),.pv (I o),.pv (I m)]]
theorem KD {W:List Int} (hW:zJ [W]) {nx d w o m at_ n:Int} {p:PT} (ha:0<=at_/\at_<=1099511627776) (hp:-536870912<=p.2.1/\p.2.1<=536870911) (hnx:0<=nx/\nx<=1099511627776) (hn:0<=n/\n<=1099511627776):ev 246 [.ptr 0 0,.pv (I at_),.pv (.agg (yh p)),.pv (I n)] (ch W nx d w o m)=if at_+1+p.2.1=nx/\inB [W] 0 nx n then some (.ret (.pv (I nx)),ch W (nx+n) d w o m) else some (.pan (.ifc 174 (.agg [])),ch W nx d w o m):=by
 unfold yh ch
 rw[zfS,zh (x:=at_+1) (by omega),zh (x:=at_+1+p.2.1) (by omega),zh (x:=nx+n) (by omega)]
 by_cases h1:at_+1+p.2.1=nx
 ·have hb:=Wb hW 0 nx n
  have hb':ev 286 [.pv (.sl 1 [.sl 1 (ws W)]),.pv (I 0),.pv (I nx),.pv (I n)] []=ok (Bo (decide (inB [W] 0 nx n))):=hb
  rw[h1,beq_iff_eq.2 rfl]
  dsimp only[zc]
  rw[hb']
  dsimp only[ze,zg,zmS,xf]
  by_cases h2:inB [W] 0 nx n
  ·rw[decide_eq_true h2,if_pos ⟨rfl,h2⟩,w9]
   rfl
  ·rw[decide_eq_false h2,if_neg (fun h=>h2 h.2),xQ]
   rfl
 ·rw[beq_eq_false_iff_ne.2 h1,if_neg (fun h=>h1 h.1)]
  dsimp only[zu]
  rw[xQ]
  rfl
theorem Vv {W:List Int} {nx d w o m c:Int} (hm:0<=m/\m<=1099511627776) (hc:0<=c/\c<=1099511627776):ev 247 [.ptr 0 0,.pv (I c)] (ch W nx d w o m)=if c>m then some (.pan (.ifc 174 (.agg [])),ch W nx d w o m) else some (.ret (.pv (.tup [])),ch W nx d w o (m-c)):=by
 unfold ch
 rw[zfQ,uv m c (by omega)]
 dsimp only[ze,zg,zmS,z4,zmR,zmQ,z6,xA,yM,zr,zc]
 by_cases h:c>m
 ·rw[if_pos h,if_pos h,if_pos h,show ((8:Int)==0)=false from rfl,xQ]
  rfl
 ·rw[if_neg h,if_neg h,if_neg h,show ((0:Int)==0)=true from rfl,w9]
  rfl
def p5:PT:=(0,0,1,0,0,0,false,0,0,0)
abbrev CS:=Int×Int
def xe (F:Int->CS->Option CS):Nat->Int->CS->Option CS
 |0,_,s=>some s
 |c+1,a,s=>(F a s).bind (xe F c (a+1))
def ZA (F:Int->CS->Option CS) (W:List Int) (a:Int) (p:PT) (s:CS):Option CS :=
 if p.2.2.1+p.2.2.2.1=0 then (if p.2.1=-1 then some s else none)
 else if a+1+p.2.1=s.1/\inB [W] 0 s.1 (p.2.2.1+p.2.2.2.1)/\p.2.2.1+p.2.2.2.1<=s.2/\(p.2.2.1=0∨wd [W] 0 (s.1+p.2.2.1-1)≠0)/\(p.2.2.2.1=0∨wd [W] 0 (s.1+p.2.2.1+p.2.2.2.1-1)≠0)
  then xe F p.2.2.2.1.toNat (s.1+p.2.2.1) (s.1+(p.2.2.1+p.2.2.2.1),s.2-(p.2.2.1+p.2.2.2.1)) else none
def Vs (W:List Int) (d w o:Int) (res:Option (Out×zf)):Option CS->Prop
 |some s=>res=some (.ret (.pv (.tup [])),ch W s.1 d w o s.2)
 |none=>∃ s:CS,res=some (.pan (.ifc 174 (.agg [])),ch W s.1 d w o s.2)
def Rg (W:List Int) (s:CS):Prop:=(0<=s.1/\s.1<=W.length)/\0<=s.2/\s.2<=1099511627776
def VF (W:List Int) (d w o k:Int) (F:Int->CS->Option CS):Prop:=∀ (a:Int) (s:CS),0<=a->a<(W.length:Int)->Rg W s->Vs W d w o (ev 132 [.ptr 0 0,.pv (I a),.pv (I k)] (ch W s.1 d w o s.2)) (F a s)/\∀ s',F a s=some s'->Rg W s'
theorem VX {W:List Int} {F:Int->CS->Option CS} (hF:∀ (a:Int) (s:CS),0<=a->a<(W.length:Int)->Rg W s->∀ s',F a s=some s'->Rg W s'):∀ (c:Nat) (a:Int) (s:CS),0<=a->a+c<=W.length->Rg W s->∀ s',xe F c a s=some s'->Rg W s':=by
 intro c
 induction c with
 |zero=>intro a s ha hc hs s' h;cases h;exact hs
 |succ c ih=>
  intro a s ha hc hs s' h
  rw[xe] at h
  cases h1:F a s with
  |none=>rw[h1] at h;cases h
  |some t=>
   rw[h1] at h
   exact ih (a+1) t (by omega) (by omega) (hF a s ha (by omega) hs t h1) s' h
theorem zgF {W:List Int} (hl:W.length<=1099511627776) {d w o k:Int} (hk:0<=k/\k<=1099511627776) {F:Int->CS->Option CS} (hF:VF W d w o (k+1) F) {n:Nat} {a:Int} (ha:0<=a) (hn:a+n<=W.length):∀ (c i:Nat) (s:CS),i+c=n->Rg W s->
  Vs W d w o (VH a k n i (.sl 1 (ws W)) (I s.1) (I d) (I w) (I o) (I s.2)) (xe F c (a+i) s):=by
 intro c
 induction c with
 |zero=>
  intro i s hi hs
  rw[rA,decide_eq_false (by omega)]
  rfl
 |succ c ih=>
  intro i s hi hs
  obtain ⟨h1,h2⟩:=hF (a+i) s (by omega) (by omega) hs
  unfold ch at h1
  rw[rA,decide_eq_true (show (i:Int)<n by omega),zh (x:=a+(i:Int)) (by omega),zh (x:=k+1) (by omega),zh (x:=(i:Int)+1) (by omega),xe]
  cases h3:F (a+i) s with
  |none=>
   rw[h3] at h1
   obtain ⟨t,ht⟩:=h1
   unfold ch at ht
   rw[ht]
   exact ⟨t,rfl⟩
  |some t=>
   rw[h3] at h1
   have h1':ev 132 [.ptr 0 0,.pv (I (a+i)),.pv (I (k+1))] [[.pv (.sl 1 (ws W)),.pv (I s.1),.pv (I d),.pv (I w),.pv (I o),.pv (I s.2)]]=some (.ret (.pv (.tup [])),ch W t.1 d w o t.2):=h1
   unfold ch at h1'
   rw[h1']
   have:=ih (i+1) t (by omega) (h2 t h3)
   rw[show a+((i+1:Nat):Int)=a+i+1 by push_cast;omega] at this
   exact this
theorem KG {W:List Int} (hl:W.length<=1099511627776) {d w o k:Int} (hk:0<=k/\k<=1099511627776) {F:Int->CS->Option CS} (hF:VF W d w o (k+1) F) {n a:Int} (ha:0<=a) (hn0:0<=n) (hn:a+n<=W.length) {s:CS} (hs:Rg W s):Vs W d w o (ev 248 [.ptr 0 0,.pv (I a),.pv (I n),.pv (I k)] (ch W s.1 d w o s.2)) (xe F n.toNat a s):=by
 unfold ch
 rw[zfT]
 have:=zgF hl hk hF ha (n:=n.toNat) (by omega) n.toNat 0 s (by omega) hs
 rw[show a+((0:Nat):Int)=a by simp,show ((n.toNat:Nat):Int)=n by omega] at this
 exact this
theorem Yr {W:List Int} {i:Int} (h0:0<=i) (h:i<W.length):(ws W)[i.toNat]? = some (U (wd [W] 0 i)):=zc5 h0 h
theorem Yb {W:List Int} (hl:W.length<=1099511627776) (hw:∀ x∈W,zH x):zJ [W]:=⟨show 1<=9223372036854775807 by decide,fun s hs=>by rw[List.mem_singleton.1 hs];exact ⟨by omega,hw⟩⟩
theorem vP {W:List Int} {a n:Int} (h:inB [W] 0 a n):0<=a/\0<=n/\a+n<=W.length:=⟨h.2.2.1,h.2.2.2.1,h.2.2.2.2⟩
theorem zdJ {W:List Int} (hl:W.length<=1099511627776) (hw:∀ x∈W,zH x) {d w o k:Int} (hk:0<=k/\k<=1099511627776) {F:Int->CS->Option CS} (hF:VF W d w o (k+1) F) {a:Int} (ha:0<=a/\a<W.length) {p:PT} (hp:(-536870912<=p.2.1/\p.2.1<=536870911)/\(0<=p.2.2.1/\p.2.2.1<=65535)/\(0<=p.2.2.2.1/\p.2.2.2.1<=65535)) {s:CS} (hs:Rg W s) :
  Vs W d w o (ev 193 [.ptr 0 0,.pv (I a),.pv (I k),.pv (.agg (yh p))] (ch W s.1 d w o s.2)) (ZA F W a p s)/\∀ s',ZA F W a p s=some s'->Rg W s':=by
 obtain ⟨hp1,hp2,hp3⟩:=hp
 obtain ⟨hs1,hs2,hs3⟩:=hs
 have hS:=Yb hl hw
 have hrg:∀ s',ZA F W a p s=some s'->Rg W s':=by
  intro s' h
  unfold ZA at h
  split at h
  ·split at h
   ·cases h;exact ⟨hs1,hs2,hs3⟩
   ·cases h
  ·split at h
   ·rename_i h1
    obtain ⟨_,h2,h3,_⟩:=h1
    have:=vP h2
    exact VX (fun a s h1 h2 h3=>(hF a s h1 h2 h3).2) _ _ _ (by omega) (by omega) ⟨by dsimp only;omega,by dsimp only;omega,by dsimp only;omega⟩ s' h
   ·cases h
 refine ⟨?_,hrg⟩
 have hE:ev 193 [.ptr 0 0,.pv (I a),.pv (I k),.pv (.agg (yh p))] (ch W s.1 d w o s.2)=_:=zfU (ws W) s.1 d w o s.2 a k p.1 p.2.1 p.2.2.1 p.2.2.2.1 p.2.2.2.2.1 p.2.2.2.2.2.1 p.2.2.2.2.2.2.1 p.2.2.2.2.2.2.2.1 p.2.2.2.2.2.2.2.2.1 p.2.2.2.2.2.2.2.2.2
 have hO:=KD hS (nx:=s.1) (d:=d) (w:=w) (o:=o) (m:=s.2) (at_:=a) (n:=p.2.2.1+p.2.2.2.1) (p:=p) (by omega) hp1 (by omega) (by omega)
 unfold yh ch at hO
 rw[hE,zh (x:=p.2.2.1+p.2.2.2.1) (by omega)]
 unfold ZA
 by_cases h0:p.2.2.1+p.2.2.2.1=0
 ·rw[beq_iff_eq.2 h0,if_pos h0]
  dsimp only[zc]
  by_cases h1:p.2.1=-1
  ·rw[beq_iff_eq.2 h1,if_pos h1,w9]
   rfl
  ·rw[beq_eq_false_iff_ne.2 h1,if_neg h1,xQ]
   exact ⟨s,rfl⟩
 rw[beq_eq_false_iff_ne.2 h0,if_neg h0]
 dsimp only[zu]
 by_cases h1:a+1+p.2.1=s.1/\inB [W] 0 s.1 (p.2.2.1+p.2.2.2.1)
 ·have hb:=vP h1.2
  have hC:=Vv (W:=W) (nx:=s.1+(p.2.2.1+p.2.2.2.1)) (d:=d) (w:=w) (o:=o) (m:=s.2) (c:=p.2.2.1+p.2.2.2.1) (by omega) (by omega)
  unfold ch at hC
  rw[if_pos h1] at hO
  rw[hO]
  dsimp only[ze,zmQ,yD,zg,zmS,z6,zc,zmR,Xi]
  rw[hC]
  by_cases h2:p.2.2.1+p.2.2.2.1>s.2
  ·rw[if_pos h2,if_neg (fun h=>by omega)]
   exact ⟨(s.1+(p.2.2.1+p.2.2.2.1),s.2),rfl⟩
  have hP:=KG hl hk hF (n:=p.2.2.2.1) (a:=s.1+p.2.2.1) (by omega) (by omega) (by omega) (s:=(s.1+(p.2.2.1+p.2.2.2.1),s.2-(p.2.2.1+p.2.2.2.1))) ⟨by dsimp only;omega,by dsimp only;omega,by dsimp only;omega⟩
  have fin:Vs W d w o (zb (ev 248 [.ptr 0 0,.pv (I (s.1+p.2.2.1)),.pv (I p.2.2.2.1),.pv (I k)] [[.pv (.sl 1 (ws W)),.pv (I (s.1+(p.2.2.1+p.2.2.2.1))),.pv (I d),.pv (I w),.pv (I o),.pv (I (s.2-(p.2.2.1+p.2.2.2.1)))]]) (fun a_40 h_41=>(h_41[0]?).bind fun c_42=>(c_42[0]?).bind fun e_43=>(za e_43).bind fun p_44=>(c_42[1]?).bind fun e_45=>(za e_45).bind fun p_46=>(c_42[2]?).bind fun e_47=>(za e_47).bind fun p_48=>(c_42[3]?).bind fun e_49=>(za e_49).bind fun p_50=>(c_42[4]?).bind fun e_51=>(za e_51).bind fun p_52=>(c_42[5]?).bind fun e_53=>(za e_53).bind fun p_54=>cond (decide (c_42.length=6)) (cond (decide (h_41.length=1)) ((za a_40).bind fun p_55=>some (.ret (.pv (.tup [])),[[(.pv p_44),(.pv p_46),(.pv p_48),(.pv p_50),(.pv p_52),(.pv p_54)]])) none) none) (fun a_40 h_41=>(h_41[0]?).bind fun c_42=>(c_42[0]?).bind fun e_43=>(za e_43).bind fun p_44=>(c_42[1]?).bind fun e_45=>(za e_45).bind fun p_46=>(c_42[2]?).bind fun e_47=>(za e_47).bind fun p_48=>(c_42[3]?).bind fun e_49=>(za e_49).bind fun p_50=>(c_42[4]?).bind fun e_51=>(za e_51).bind fun p_52=>(c_42[5]?).bind fun e_53=>(za e_53).bind fun p_54=>cond (decide (c_42.length=6)) (cond (decide (h_41.length=1)) (some (.pan a_40,[[(.pv p_44),(.pv p_46),(.pv p_48),(.pv p_50),(.pv p_52),(.pv p_54)]])) none) none)) (xe F p.2.2.2.1.toNat (s.1+p.2.2.1) (s.1+(p.2.2.1+p.2.2.2.1),s.2-(p.2.2.1+p.2.2.2.1))):=by
   cases hq:xe F p.2.2.2.1.toNat (s.1+p.2.2.1) (s.1+(p.2.2.1+p.2.2.2.1),s.2-(p.2.2.1+p.2.2.2.1)) with
   |none=>
    rw[hq] at hP
    obtain ⟨t,ht⟩:=hP
    unfold ch at ht
    dsimp only at ht
    rw[ht]
    exact ⟨t,rfl⟩
   |some t=>
    rw[hq] at hP
    have hP':ev 248 [.ptr 0 0,.pv (I (s.1+p.2.2.1)),.pv (I p.2.2.2.1),.pv (I k)] [[.pv (.sl 1 (ws W)),.pv (I (s.1+(p.2.2.1+p.2.2.2.1))),.pv (I d),.pv (I w),.pv (I o),.pv (I (s.2-(p.2.2.1+p.2.2.2.1)))]]=some (.ret (.pv (.tup [])),ch W t.1 d w o t.2):=hP
    rw[hP']
    rfl
  rw[if_neg h2]
  dsimp only[ze,zmQ,yD,zg,zmS,zc,zmR,Xi,yC]
  rw[zh (x:=s.1+p.2.2.1) (by omega),zh (x:=s.1+p.2.2.1+p.2.2.2.1) (by omega)]
  by_cases hd:p.2.2.1=0
  ·have hq:p.2.2.2.1≠0:=fun h=>h0 (by omega)
   rw[beq_iff_eq.2 hd,beq_eq_false_iff_ne.2 hq,w9]
   dsimp only[ze,zg,zmS,zu,zc]
   rw[zh (x:=s.1+p.2.2.1+p.2.2.2.1-1) (by omega),yl,decide_eq_true (show 0<=s.1+p.2.2.1+p.2.2.2.1-1 by omega),decide_eq_true (show s.1+p.2.2.1+p.2.2.2.1-1<(W.length:Int) by omega),Yr (by omega) (by omega),show decide ((1:Nat)=1)=true from rfl]
   dsimp only[zr,zmS,ym,zmQ,wR,zc]
   by_cases h3:wd [W] 0 (s.1+p.2.2.1+p.2.2.2.1-1)=0
   ·rw[h3,show ((0:Int) != 0)=false from rfl,xQ,if_neg (fun h=>by rcases h.2.2.2.2 with x|x;exact hq x;exact x rfl)]
    exact ⟨(s.1+(p.2.2.1+p.2.2.2.1),s.2-(p.2.2.1+p.2.2.2.1)),rfl⟩
   ·rw[wi h3,w9,if_pos ⟨h1.1,h1.2,by omega,.inl hd,.inr h3⟩]
    exact fin
  ·rw[beq_eq_false_iff_ne.2 hd]
   dsimp only[zu]
   rw[zh (x:=s.1+p.2.2.1-1) (by omega),yl,decide_eq_true (show 0<=s.1+p.2.2.1-1 by omega),decide_eq_true (show s.1+p.2.2.1-1<(W.length:Int) by omega),Yr (by omega) (by omega),show decide ((1:Nat)=1)=true from rfl]
   dsimp only[zr,zmS,ym,zmQ,wR,zc]
   by_cases h3:wd [W] 0 (s.1+p.2.2.1-1)=0
   ·rw[h3,show ((0:Int) != 0)=false from rfl,xQ,if_neg (fun h=>by rcases h.2.2.2.1 with x|x;exact hd x;exact x rfl)]
    exact ⟨(s.1+(p.2.2.1+p.2.2.2.1),s.2-(p.2.2.1+p.2.2.2.1)),rfl⟩
   rw[wi h3,w9]
   dsimp only[ze,zg,zmS]
   by_cases hq:p.2.2.2.1=0
   ·rw[beq_iff_eq.2 hq]
    dsimp only[zc]
    rw[if_pos ⟨h1.1,h1.2,by omega,.inr h3,.inl hq⟩]
    exact fin
   ·rw[beq_eq_false_iff_ne.2 hq]
    dsimp only[zu]
    rw[zh (x:=s.1+p.2.2.1+p.2.2.2.1-1) (by omega),decide_eq_true (show 0<=s.1+p.2.2.1+p.2.2.2.1-1 by omega),decide_eq_true (show s.1+p.2.2.1+p.2.2.2.1-1<(W.length:Int) by omega),Yr (by omega) (by omega)]
    dsimp only[zr,zmS,ym,zmQ,wR,zc]
    by_cases h4:wd [W] 0 (s.1+p.2.2.1+p.2.2.2.1-1)=0
    ·rw[h4,show ((0:Int) != 0)=false from rfl,xQ,if_neg (fun h=>by rcases h.2.2.2.2 with x|x;exact hq x;exact x rfl)]
     exact ⟨(s.1+(p.2.2.1+p.2.2.2.1),s.2-(p.2.2.1+p.2.2.2.1)),rfl⟩
    ·rw[wi h4,w9,if_pos ⟨h1.1,h1.2,by omega,.inr h3,.inr h4⟩]
     exact fin
 ·rw[if_neg h1] at hO
  rw[hO,if_neg (fun h=>h1 ⟨h.1,h.2.1⟩)]
  exact ⟨s,rfl⟩
def Yc (e c:Int) (b:List Int):Prop:=(trimB e c b++List.replicate b.length 0).take b.length=b
instance (e c:Int) (b:List Int):Decidable (Yc e c b):=by unfold Yc;infer_instance
def xS (W:List Int) (a n:Int):List Int:=(W.drop a.toNat).take n.toNat
def Zf (F:Int->CS->Option CS) (W:List Int) (a:Int) (p:PT) (s:CS):Option CS :=
 if a+1+p.2.1=s.1/\inB [W] 0 s.1 (zs p.2.2.2.2.1 p.2.2.2.2.2.1)/\zs p.2.2.2.2.1 p.2.2.2.2.2.1<=s.2 then
  (if p.2.2.2.2.1=6 then xe F (zs p.2.2.2.2.1 p.2.2.2.2.2.1).toNat s.1 (s.1+zs p.2.2.2.2.1 p.2.2.2.2.2.1,s.2-zs p.2.2.2.2.1 p.2.2.2.2.2.1)
   else if Yc p.2.2.2.2.1 p.2.2.2.2.2.1 (zA (xS W s.1 (zs p.2.2.2.2.1 p.2.2.2.2.2.1))) then some (s.1+zs p.2.2.2.2.1 p.2.2.2.2.2.1,s.2-zs p.2.2.2.2.1 p.2.2.2.2.2.1) else none)
 else none
theorem zmB {W:List Int} {a n:Int} (ha:0<=a) (hn:0<=n):((ws W).take (a+n).toNat).drop a.toNat=ws (xS W a n):=by
 unfold xS
 rw[ws,←List.map_take,←List.map_drop,show (a+n).toNat=a.toNat+n.toNat by omega,List.drop_take,Nat.add_sub_cancel_left]
 rfl
theorem g9 {e c:Int} (he:0<=e/\e<=5) (hc:0<=c/\c<=536870911):z5 e c<=8*zs e c:=by
 unfold z5 zs
 rw[if_neg (by omega)]
 omega
theorem zdH {W:List Int} (hl:W.length<=1099511627776) (hw:∀ x∈W,zH x) {d w o k:Int} (hk:0<=k/\k<=1099511627776) {F:Int->CS->Option CS} (hF:VF W d w o (k+1) F) {a:Int} (ha:0<=a/\a<W.length) {p:PT} (hp:(-536870912<=p.2.1/\p.2.1<=536870911)/\(0<=p.2.2.2.2.1/\p.2.2.2.2.1<=6)/\(0<=p.2.2.2.2.2.1/\p.2.2.2.2.2.1<=536870911)) {s:CS} (hs:Rg W s) :
  Vs W d w o (ev 194 [.ptr 0 0,.pv (I a),.pv (I k),.pv (.agg (yh p))] (ch W s.1 d w o s.2)) (Zf F W a p s)/\∀ s',Zf F W a p s=some s'->Rg W s':=by
 obtain ⟨hp1,hp2,hp3⟩:=hp
 obtain ⟨hs1,hs2,hs3⟩:=hs
 have hS:=Yb hl hw
 have hwr:=ZT (e:=p.2.2.2.2.1) hp3
 have hrg:∀ s',Zf F W a p s=some s'->Rg W s':=by
  intro s' h
  unfold Zf at h
  split at h
  ·rename_i h1
   obtain ⟨_,h2,h3⟩:=h1
   have:=vP h2
   have hr:Rg W (s.1+zs p.2.2.2.2.1 p.2.2.2.2.2.1,s.2-zs p.2.2.2.2.1 p.2.2.2.2.2.1):=⟨by dsimp only;omega,by dsimp only;omega,by dsimp only;omega⟩
   split at h
   ·exact VX (fun a s h1 h2 h3=>(hF a s h1 h2 h3).2) _ _ _ (by omega) (by omega) hr s' h
   ·split at h
    ·cases h;exact hr
    ·cases h
  ·cases h
 refine ⟨?_,hrg⟩
 have hE:ev 194 [.ptr 0 0,.pv (I a),.pv (I k),.pv (.agg (yh p))] (ch W s.1 d w o s.2)=_:=rz (ws W) s.1 d w o s.2 a k p.1 p.2.1 p.2.2.1 p.2.2.2.1 p.2.2.2.2.1 p.2.2.2.2.2.1 p.2.2.2.2.2.2.1 p.2.2.2.2.2.2.2.1 p.2.2.2.2.2.2.2.2.1 p.2.2.2.2.2.2.2.2.2
 have hO:=KD hS (nx:=s.1) (d:=d) (w:=w) (o:=o) (m:=s.2) (at_:=a) (n:=zs p.2.2.2.2.1 p.2.2.2.2.2.1) (p:=p) (by omega) hp1 (by omega) (by omega)
 unfold yh ch at hO
 have h7:¬p.2.2.2.2.1=7:=by omega
 rw[hE,beq_eq_false_iff_ne.2 h7]
 dsimp only[zu]
 rw[KB (by omega) hp3]
 dsimp only[ze,zg,zmS,z6]
 unfold Zf
 by_cases h1:a+1+p.2.1=s.1/\inB [W] 0 s.1 (zs p.2.2.2.2.1 p.2.2.2.2.2.1)
 ·have hb:=vP h1.2
  have hC:=Vv (W:=W) (nx:=s.1+zs p.2.2.2.2.1 p.2.2.2.2.2.1) (d:=d) (w:=w) (o:=o) (m:=s.2) (c:=zs p.2.2.2.2.1 p.2.2.2.2.2.1) (by omega) (by omega)
  unfold ch at hC
  rw[if_pos h1] at hO
  rw[hO]
  dsimp only[ze,zmQ,yD,zg,zmS,z6,xF,zc,zmR,Xi]
  rw[hC]
  by_cases h2:zs p.2.2.2.2.1 p.2.2.2.2.2.1>s.2
  ·rw[if_pos h2,if_neg (fun h=>by omega)]
   exact ⟨(s.1+zs p.2.2.2.2.1 p.2.2.2.2.2.1,s.2),rfl⟩
  rw[if_neg h2,if_pos ⟨h1.1,h1.2,by omega⟩]
  dsimp only[ze,zmQ,yD,zg,zmS,zc,zmR,Xi,yC]
  by_cases h6:p.2.2.2.2.1=6
  ·rw[beq_iff_eq.2 h6,if_pos h6]
   dsimp only[zc]
   have hP:=KG hl hk hF (n:=zs p.2.2.2.2.1 p.2.2.2.2.2.1) (a:=s.1) (by omega) (by omega) (by omega) (s:=(s.1+zs p.2.2.2.2.1 p.2.2.2.2.2.1,s.2-zs p.2.2.2.2.1 p.2.2.2.2.2.1)) ⟨by dsimp only;omega,by dsimp only;omega,by dsimp only;omega⟩
   cases hq:xe F (zs p.2.2.2.2.1 p.2.2.2.2.2.1).toNat s.1 (s.1+zs p.2.2.2.2.1 p.2.2.2.2.2.1,s.2-zs p.2.2.2.2.1 p.2.2.2.2.2.1) with
   |none=>
    rw[hq] at hP
    obtain ⟨t,ht⟩:=hP
    unfold ch at ht
    dsimp only at ht
    rw[ht]
    exact ⟨t,rfl⟩
   |some t=>
    rw[hq] at hP
    have hP':ev 248 [.ptr 0 0,.pv (I s.1),.pv (I (zs p.2.2.2.2.1 p.2.2.2.2.2.1)),.pv (I k)] [[.pv (.sl 1 (ws W)),.pv (I (s.1+zs p.2.2.2.2.1 p.2.2.2.2.2.1)),.pv (I d),.pv (I w),.pv (I o),.pv (I (s.2-zs p.2.2.2.2.1 p.2.2.2.2.2.1))]]=some (.ret (.pv (.tup [])),ch W t.1 d w o t.2):=hP
    rw[hP']
    rfl
  ·rw[beq_eq_false_iff_ne.2 h6,if_neg h6]
   dsimp only[zu]
   have hcl:(xS W s.1 (zs p.2.2.2.2.1 p.2.2.2.2.2.1)).length=(zs p.2.2.2.2.1 p.2.2.2.2.2.1).toNat:=by
    unfold xS
    rw[List.length_take,List.length_drop]
    omega
   have hbl:(zA (xS W s.1 (zs p.2.2.2.2.1 p.2.2.2.2.2.1))).length=8*(zs p.2.2.2.2.1 p.2.2.2.2.2.1).toNat:=by rw[xc,hcl]
   have hB:=ZV (xS W s.1 (zs p.2.2.2.2.1 p.2.2.2.2.2.1)) (by omega)
   have hbf:=g9 (e:=p.2.2.2.2.1) (c:=p.2.2.2.2.2.1) (by omega) hp3
   have hT:=Vu (e:=p.2.2.2.2.1) (c:=p.2.2.2.2.2.1) (b:=zA (xS W s.1 (zs p.2.2.2.2.1 p.2.2.2.2.2.1))) (by omega) hp3 (wj _) (by rw[hbl];omega)
   have htl:=zcC p.2.2.2.2.1 p.2.2.2.2.2.1 (zA (xS W s.1 (zs p.2.2.2.2.1 p.2.2.2.2.2.1)))
   have htb:=XV p.2.2.2.2.1 p.2.2.2.2.2.1 (zA (xS W s.1 (zs p.2.2.2.2.1 p.2.2.2.2.2.1))) (wj _)
   rw[zh (x:=s.1+zs p.2.2.2.2.1 p.2.2.2.2.2.1) (by omega),yl,decide_eq_true (show 0<=s.1 by omega),decide_eq_true (show s.1<=s.1+zs p.2.2.2.2.1 p.2.2.2.2.2.1 by omega),decide_eq_true (show s.1+zs p.2.2.2.2.1 p.2.2.2.2.2.1<=(W.length:Int) by omega),zmB (by omega) (by omega),show decide ((1:Nat)=1)=true from rfl]
   dsimp only[zr,zc]
   rw[hB]
   dsimp only[ze,zg,zmS,yC]
   rw[hT]
   dsimp only[ze]
   rw[yE]
   dsimp only[zmS]
   have e1:∀ bb tb:List Int,((bs tb++List.replicate (((bs bb).length:Nat):Int).toNat (PV.v (.int .u8 0))).take (((bs bb).length:Nat):Int).toNat).drop 0=bs ((tb++List.replicate bb.length 0).take bb.length):=by
    intro bb tb
    rw[Int.toNat_natCast,List.drop_zero,zR]
    simp[bs]
   have hz:∀ bb:List Int,(List.replicate (((bs bb).length:Nat):Int).toNat (PV.v (.int .u8 0))).length=bb.length:=fun bb=>by rw[List.length_replicate,Int.toNat_natCast,zR]
   rw[decide_eq_true (show 0<=(((bs (zA (xS W s.1 (zs p.2.2.2.2.1 p.2.2.2.2.2.1)))).length:Nat):Int) by omega),decide_eq_true (show (((bs (zA (xS W s.1 (zs p.2.2.2.2.1 p.2.2.2.2.2.1)))).length:Nat):Int)<=140737488355328 by rw[zR,hbl];omega),yW (by rw[hz,zR,hbl];omega) (by rw[hz,zR,hbl];omega),e1,decide_eq_true (show (((bs (zA (xS W s.1 (zs p.2.2.2.2.1 p.2.2.2.2.2.1)))).length:Nat):Int)<=(((bs (trimB p.2.2.2.2.1 p.2.2.2.2.2.1 (zA (xS W s.1 (zs p.2.2.2.2.1 p.2.2.2.2.2.1))))++List.replicate (((bs (zA (xS W s.1 (zs p.2.2.2.2.1 p.2.2.2.2.2.1)))).length:Nat):Int).toNat (PV.v (.int .u8 0))).length:Nat):Int) by rw[zmT,hz,zR];omega),WV,WV]
   dsimp only[zr,zmS,zc]
   by_cases h3:Yc p.2.2.2.2.1 p.2.2.2.2.2.1 (zA (xS W s.1 (zs p.2.2.2.2.1 p.2.2.2.2.2.1)))
   ·rw[if_pos h3]
    unfold Yc at h3
    rw[h3,beq_iff_eq.2 rfl,w9]
    rfl
   ·rw[if_neg h3]
    unfold Yc at h3
    rw[beq_eq_false_iff_ne.2 (fun e=>h3 (zcd (fun x hx=>?_) (wj _) e)),xQ]
    ·exact ⟨(s.1+zs p.2.2.2.2.1 p.2.2.2.2.2.1,s.2-zs p.2.2.2.2.1 p.2.2.2.2.2.1),rfl⟩
    ·rcases List.mem_append.1 (List.mem_of_mem_take hx) with h|h
     ·exact htb x h
     ·rw[List.eq_of_mem_replicate h];unfold zm;omega
 ·rw[if_neg h1] at hO
  rw[hO,if_neg (fun h=>h1 ⟨h.1,h.2.1⟩)]
  exact ⟨s,rfl⟩
def wI (f:Nat->Bool):Nat->Nat->Bool->Bool
 |0,_,b=>b
 |c+1,i,b=>wI f c (i+1) (b||f i)
theorem WT (f:Nat->Bool):∀ (c i:Nat) (b:Bool),wI f c i b=true↔b=true∨∃ j,i<=j/\j<i+c/\f j=true
 |0,i,b=>⟨fun h=>.inl h,fun h=>h.elim id fun ⟨j,h1,h2,_⟩=>absurd h2 (by omega)⟩
 |c+1,i,b=>by
  rw[wI,WT f c (i+1)]
  constructor
  ·rintro (h|⟨j,h1,h2,h3⟩)
   ·rcases (Bool.or_eq_true b (f i)).mp h with h|h
    ·exact .inl h
    ·exact .inr ⟨i,Nat.le_refl _,by omega,h⟩
   ·exact .inr ⟨j,by omega,by omega,h3⟩
  ·rintro (h|⟨j,h1,h2,h3⟩)
   ·exact .inl (by rw[h];rfl)
   ·by_cases e:j=i
    ·subst e;exact .inl (by rw[h3];cases b<;>rfl)
    ·exact .inr ⟨j,by omega,by omega,h3⟩
def vd (G:Nat->CS->Option CS):Nat->Nat->CS->Option CS
 |0,_,s=>some s
 |c+1,i,s=>(G i s).bind (vd G c (i+1))
def Zl (W:List Int) (st sz dd:Int) (i:Nat):Bool:=wd [W] 0 (st+i*sz+dd-1) != 0
def VV (F:Int->CS->Option CS) (W:List Int) (t:PT) (c:Int) (s:CS):Option CS :=
 if t.2.2.1+t.2.2.2.1=0 then (if t.2.1<=s.2-(c+1) then some (s.1+(c+1),s.2-(c+1)-t.2.1) else none)
 else if (t.2.2.1=0∨wI (Zl W (s.1+1) (t.2.2.1+t.2.2.2.1) t.2.2.1) t.2.1.toNat 0 false=true)/\(t.2.2.2.1=0∨wI (Zl W (s.1+1) (t.2.2.1+t.2.2.2.1) (t.2.2.1+t.2.2.2.1)) t.2.1.toNat 0 false=true)
  then vd (fun i=>xe F t.2.2.2.1.toNat (s.1+1+i*(t.2.2.1+t.2.2.2.1)+t.2.2.1)) t.2.1.toNat 0 (s.1+(c+1),s.2-(c+1)) else none
def vt (F:Int->CS->Option CS) (W:List Int) (a:Int) (p:PT) (s:CS):Option CS :=
 if a+1+p.2.1=s.1/\inB [W] 0 s.1 (p.2.2.2.2.2.1+1)/\((zv (wd [W] 0 s.1)).1=0/\0<=(zv (wd [W] 0 s.1)).2.1/\(zv (wd [W] 0 s.1)).2.1*((zv (wd [W] 0 s.1)).2.2.1+(zv (wd [W] 0 s.1)).2.2.2.1)=p.2.2.2.2.2.1)/\p.2.2.2.2.2.1+1<=s.2 then VV F W (zv (wd [W] 0 s.1)) p.2.2.2.2.2.1 s else none
def VW (F:Int->CS->Option CS) (W:List Int) (a:Int) (p:PT) (s:CS):Option CS :=
 if p.1=0 then ZA F W a p s else if p.1=1 then (if p.2.2.2.2.1=7 then vt F W a p s else Zf F W a p s) else none
def xK (W:List Int):Nat->Int->CS->Option CS
 |0=>fun a s=>if wd [W] 0 a=0 then some s else none
 |D+1=>fun a s=>if wd [W] 0 a=0 then some s else VW (xK W D) W a (zv (wd [W] 0 a)) s
theorem at_join {W L M:List Int} {p:Nat} (h1:At W p L) (h2:At W (p+L.length) M):At W p (L++M):=by
 obtain ⟨A,C,e,hA⟩:=h1
 obtain ⟨A',C',e',hA'⟩:=h2
 have k1:W.drop (p+L.length)=C:=by rw[e,←hA,←List.append_assoc,←zmT,List.drop_left]
 have k2:W.drop (p+L.length)=M++C':=by rw[e',←hA',List.drop_left]
 exact ⟨A,C',by rw[e,k1.symm.trans k2,List.append_assoc],hA⟩
theorem at_nil {W:List Int} {p:Nat} (h:p<=W.length):At W p []:=⟨W.take p,W.drop p,by rw[zmV,List.take_append_drop],by rw[List.length_take];omega⟩
theorem zao {W:List Int} {a n:Int} (h:0<=a) (h2:0<=n) (h3:a+n<=W.length):inB [W] 0 a n:=⟨Int.le_refl _,by simp,h,h2,by rw[Zo];exact h3⟩
theorem gF {W:List Int} {a n:Int} (h:inB [W] 0 a n):At W a.toNat (cutB [W] 0 a n):=by
 obtain ⟨h1,h2,h3⟩:=vP h
 unfold cutB
 rw[if_pos h]
 unfold cut
 rw[Zo]
 exact ⟨W.take a.toNat,(W.drop a.toNat).drop n.toNat,by rw[List.take_append_drop,List.take_append_drop],by rw[List.length_take];omega⟩
theorem Wk {W:List Int} {a:Int} (h0:0<=a) (h:a<W.length):At W a.toNat [wd [W] 0 a]:=by
 refine ⟨W.take a.toNat,W.drop (a.toNat+1),?_,by rw[List.length_take];omega⟩
 unfold wd rd
 rw[Zo,List.getD_eq_getElem?_getD,List.getElem?_eq_getElem (by omega),Option.getD_some,List.singleton_append,←List.drop_eq_getElem_cons,List.take_append_drop]
theorem zgH {W:List Int} {a n:Int} (h:inB [W] 0 a n) {i:Nat} (hi:i<(cutB [W] 0 a n).length):(cutB [W] 0 a n)[i]=wd [W] 0 (a+i):=by
 obtain ⟨h1,h2,h3⟩:=vP h
 have hl:i<n.toNat:=Nat.lt_of_lt_of_le hi (Zh _ _ _ _)
 unfold wd rd
 simp only[cutB,if_pos h,cut,Zo,List.getElem_take,List.getElem_drop]
 rw[List.getD_eq_getElem?_getD,List.getElem?_eq_getElem (show (a+(i:Int)).toNat<W.length by omega),Option.getD_some]
 congr 1
 omega
theorem rY {W:List Int} {a n:Int} (h:inB [W] 0 a n):(cutB [W] 0 a n).length=n.toNat:=by
 unfold cutB
 rw[if_pos h,jb h]
theorem jx {w:Int} (hw:zH w) (h4:w%4=0):ya (zv w).2.1 (zv w).2.2.1.toNat (zv w).2.2.2.1.toNat=w:=by
 obtain ⟨h1,h2⟩:=hw
 unfold zv
 rw[if_pos h4]
 unfold ya wV
 dsimp only
 split<;>omega
theorem zg8 {w:Int} (hw:zH w) (h4:w%4=1):yv (zv w).2.1 (zv w).2.2.2.2.1 (zv w).2.2.2.2.2.1=w:=by
 obtain ⟨h1,h2⟩:=hw
 unfold zv
 rw[if_neg (show ¬w%4=0 by omega),if_pos h4]
 unfold yv wV
 dsimp only
 split<;>omega
theorem zgL:∀ (l:List Int),∃ n,l=yQ l++List.replicate n 0:=by
 intro l
 induction hn:l.length generalizing l with
 |zero=>have:=List.length_eq_zero_iff.1 hn;subst this;exact ⟨0,rfl⟩
 |succ n ih=>
  rcases List.eq_nil_or_concat l with rfl|⟨l',x,rfl⟩
  ·exact ⟨0,rfl⟩
  ·rw[List.concat_eq_append] at hn ⊢
   obtain ⟨m,hm⟩:=ih l' (by simpa using hn)
   have hle:=vg (fun x:Int=>x==0) l'
   unfold yQ at hm ⊢
   rw[xX]
   by_cases h:x=0
   ·rw[if_pos (by simpa using h),List.take_append_of_le_length hle]
    refine ⟨m+1,?_⟩
    rw[List.replicate_succ',←List.append_assoc,←hm,h]
   ·rw[if_neg (by simpa using h),List.take_of_length_le (by simp)]
    exact ⟨0,by simp⟩
theorem zgJ {l:List Int} (h:∀ h:0<l.length,l[l.length-1]≠0):yQ l=l:=by
 rcases List.eq_nil_or_concat l with rfl|⟨l',x,rfl⟩
 ·rfl
 ·rw[List.concat_eq_append] at h ⊢
  have hx:=h (by simp)
  simp at hx
  unfold yQ
  rw[xX,if_neg (by simpa using hx),List.take_of_length_le (by simp)]
theorem zj2 {l:List Nd} (h:∀ h:0<l.length,l[l.length-1].kind≠0):yf l=l.length:=by
 rcases List.eq_nil_or_concat l with rfl|⟨l',x,rfl⟩
 ·rfl
 ·rw[List.concat_eq_append] at h ⊢
  have hx:=h (by simp)
  simp at hx
  unfold yf
  rw[xX,if_neg (by simpa using hx)]
  simp
theorem zfv (a b:List Int):zA (a++b)=zA a++zA b:=by simp[zA]
theorem gZ:∀ n:Nat,zA (List.replicate n 0)=List.replicate (8*n) 0
 |0=>rfl
 |n+1=>by
  rw[List.replicate_succ]
  have e:zA (0::List.replicate n 0)=w8 0++zA (List.replicate n 0):=rfl
  rw[e,gZ n,zmd,List.replicate_append_replicate]
  congr 1
  omega
theorem zmy {u:List Int} (hu:∀ x∈u,zH x):zN u.length (zA (yQ u))=u:=by
 obtain ⟨n,hn⟩:=zgL u
 have hle:(yQ u).length<=u.length:=by unfold yQ;rw[List.length_take];omega
 refine VE (YZ _ (wj _)) hu ?_
 rw[Xc _ (wj _) (by rw[xc];omega)]
 have e:zA u=zA (yQ u)++zA (List.replicate n 0):=by rw[←zfv,←hn]
 rw[e,gZ]
 congr 2
 have:=congrArg List.length hn
 rw[zmT,List.length_replicate] at this
 rw[xc]
 omega
theorem KK:∀ D,body D nd0=[]
 |0=>rfl
 |D+1=>by rw[body];exact if_pos rfl
theorem zbt (B:Nd->List Int):∀ (l m:List Nd) (i pos:Nat),yu B i pos (l++m)=yu B i pos l++yu B (i+l.length) (pos+(l.flatMap B).length) m
 |[],m,i,pos=>by simp[yu]
 |x::l,m,i,pos=>by
  rw[List.cons_append,yu,zbt B l m,yu,List.cons_append,List.flatMap_cons,zmT,zmU,show i+1+l.length=i+(l.length+1) by omega,Nat.add_assoc]
theorem zbu (B:Nd->List Int) (hB:B nd0=[]):∀ (n i pos:Nat),yu B i pos (List.replicate n nd0)=List.replicate n 0
 |0,i,pos=>rfl
 |n+1,i,pos=>by
  rw[List.replicate_succ,yu,hB,zbu B hB n,List.replicate_succ]
  rfl
theorem jU (B:Nd->List Int) (hB:B nd0=[]):∀ (n:Nat),(List.replicate n nd0).flatMap B=[]
 |0=>rfl
 |n+1=>by rw[List.replicate_succ,List.flatMap_cons,hB,jU B hB n];rfl
theorem zl5 {ys:List Nd} (h:∀ y∈ys,VN y):∀ y∈ys.map zi,VN y:=fun y hy=>by
 obtain ⟨z,hz,rfl⟩:=List.mem_map.1 hy
 exact XY z (h z hz)
theorem zio {B:Nd->List Int} (hB:B nd0=[]) {ys:List Nd} (h:∀ y∈ys,VN y):((ys.map zi).take (yf ys)).length<=ys.length/\((ys.map zi).take (yf ys)).flatMap B=(ys.map zi).flatMap B/\∀ i pos,yu B i pos ((ys.map zi).take (yf ys))++List.replicate (ys.length-((ys.map zi).take (yf ys)).length) 0=yu B i pos (ys.map zi):=by
 obtain ⟨n,hn⟩:=K6 (ys.map zi) (zl5 h)
 rw[←xb,QJ,xb] at hn
 have hl:=congrArg List.length hn
 rw[zmT,List.length_replicate,List.length_map] at hl
 refine ⟨by omega,?_,fun i pos=>?_⟩
 ·conv=>rhs;rw[hn]
  rw[List.flatMap_append,jU B hB,List.append_nil]
 ·conv=>rhs;rw[hn]
  rw[zbt,zbu B hB]
  congr 2
  omega
def Lk (W:List Int) (D:Nat) (F:Int->CS->Option CS) (G:Int->Int->Int->Nd×Int×Int):Prop :=
 ∀ (a:Int) (s s':CS),0<=a->a<(W.length:Int)->Rg W s->F a s=some s'->Rg W s'/\∃ y,G s.2 0 a=(y,s'.2,0)/\VN y/\wd [W] 0 a=yK (zi y) (s.1-a-1)/\At W s.1.toNat (body D (zi y))/\s'.1=s.1+((body D (zi y)).length:Int)
section
variable {W:List Int} {D:Nat} {F:Int->CS->Option CS} {G:Int->Int->Int->Nd×Int×Int}
theorem zaG (L:Lk W D F G) (p:Int) (hp:0<=p):∀ (c i:Nat) (s s':CS) (acc:List Nd),p+i+c<=W.length->Rg W s->xe F c (p+i) s=some s'->
  Rg W s'/\∃ ys,zO (fun m (i:Nat)=>G m 0 (p+i)) c i s.2 acc=(acc++ys,s'.2,0)/\ys.length=c/\(∀ y∈ys,VN y)/\At W s.1.toNat ((ys.map zi).flatMap (body D))/\s'.1=s.1+(((ys.map zi).flatMap (body D)).length:Int)/\(∀ (i0 pos:Nat),(pos:Int)-i0=s.1-(p+i)->At W (p+i).toNat (yu (body D) i0 pos (ys.map zi)))/\(∀ (j:Nat) (h:j<ys.length),ys[j].kind=0->wd [W] 0 (p+i+j)=0):=by
 intro c
 induction c with
 |zero=>
  intro i s s' acc hb hs h
  rw[xe] at h
  cases h
  refine ⟨hs,[],by rw[zO,List.append_nil],rfl,(fun y hy=>by cases hy),at_nil (by have:=hs.1;omega),by simp,fun i0 pos _=>at_nil (by omega),fun j h=>absurd h (by simp)⟩
 |succ c ih=>
  intro i s s' acc hb hs h
  rw[xe] at h
  cases h1:F (p+i) s with
  |none=>rw[h1] at h;cases h
  |some t=>
   rw[h1] at h
   have h:xe F c (p+i+1) t=some s':=h
   obtain ⟨ht,y,e1,v1,p1,a1,n1⟩:=L (p+i) s t (by omega) (by omega) hs h1
   rw[show p+(i:Int)+1=p+((i+1:Nat):Int) by push_cast;omega] at h
   obtain ⟨hr,ys,k1,k2,k3,k4,k5,k6,k7⟩:=ih (i+1) t s' (acc++[y]) (by push_cast;omega) ht h
   have hs1:=hs.1
   have eq:t.1.toNat=s.1.toNat+(body D (zi y)).length:=by omega
   refine ⟨hr,y::ys,?_,by rw[zmU,k2],fun z hz=>(List.mem_cons.1 hz).elim (fun e=>e▸v1) (k3 z),?_,?_,fun i0 pos hq=>?_,fun j hj hz=>?_⟩
   ·rw[zO,e1,if_pos rfl,k1,List.append_assoc,List.singleton_append]
   ·rw[List.map_cons,List.flatMap_cons]
    refine at_join a1 ?_
    rw[←eq]
    exact k4
   ·rw[List.map_cons,List.flatMap_cons,zmT,k5,n1]
    push_cast
    omega
   ·rw[List.map_cons,yu]
    have hw:=Wk (W:=W) (a:=p+i) (by omega) (by omega)
    rw[p1,show s.1-(p+(i:Int))-1=(pos:Int)-i0-1 by omega] at hw
    refine at_join (L:=[_]) hw ?_
    have:=k6 (i0+1) (pos+(body D (zi y)).length) (by push_cast;omega)
    rw[show (p+((i+1:Nat):Int)).toNat=(p+i).toNat+1 by push_cast;omega] at this
    exact this
   ·cases j with
    |zero=>
     have hz':y.kind=0:=hz
     rw[show p+(i:Int)+((0:Nat):Int)=p+i by simp,p1]
     unfold yK
     rw[Yo,if_pos hz']
    |succ j=>
     have hj':j<ys.length:=by simpa using hj
     have hz':ys[j].kind=0:=by simpa using hz
     have:=k7 j hj' hz'
     rw[show p+((i+1:Nat):Int)+(j:Int)=p+(i:Int)+((j+1:Nat):Int) by push_cast;omega] at this
     exact this
theorem qg (hl:W.length<=1099511627776) (hw:∀ x∈W,zH x) (L:Lk W D F G) {e dd qq:Int} (he:0<=e) (hd:0<=dd) (hq:0<=qq) (hb:e+dd+qq<=W.length) {s s':CS} (hs:Rg W s) (h:xe F qq.toNat (e+dd) s=some s') {o:Ob} (o1:o.seg=0) (o2:o.at_=e) (o3:o.data=dd) (o4:o.ptrs=qq) :
  Rg W s'/\∃ y d ks,zQ G [W] s.2 o=(y,s'.2,0)/\zi y=.mk 1 0 0 d ks/\At W s.1.toNat (ks.flatMap (body D))/\s'.1=s.1+((ks.flatMap (body D)).length:Int)/\d.length<=8*dd.toNat/\ks.length<=qq.toNat/\
   (∀ (i0 pos:Nat),(pos:Int)-i0=s.1-e->At W e.toNat (zN dd.toNat d++(yu (body D) (i0+dd.toNat) pos ks++List.replicate (qq.toNat-ks.length) 0)))/\
   (dd=0∨wd [W] 0 (e+dd-1)≠0->d.length=8*dd.toNat)/\(qq=0∨wd [W] 0 (e+dd+qq-1)≠0->ks.length=qq.toNat):=by
 rw[show e+dd=e+dd+((0:Nat):Int) by simp] at h
 obtain ⟨hr,ys,k1,k2,k3,k4,k5,k6,k7⟩:=zaG L (e+dd) (by omega) qq.toNat 0 s s' [] (by omega) hs h
 have hin:=zao (W:=W) (a:=e) (n:=dd) he hd (by omega)
 have hcl:=rY hin
 have hcw:∀ x∈cutB [W] 0 e dd,zH x:=(VY (Yb hl hw) 0 e dd).2
 obtain ⟨c1,c2,c3⟩:=zio (KK D) k3
 refine ⟨hr,.mk 1 0 0 (zA (cutB [W] 0 e dd)) ys,zA (yQ (cutB [W] 0 e dd)),(ys.map zi).take (yf ys),?_,by rw[qr,qo hcw],?_,?_,?_,?_,fun i0 pos hp=>?_,fun hz=>?_,fun hz=>?_⟩
 ·unfold zQ
  rw[o1,o2,o3,o4,k1]
  unfold wZ
  dsimp only
  rw[if_pos rfl,zmV]
 ·rw[c2]
  exact k4
 ·rw[c2]
  exact k5
 ·rw[xc]
  have:(yQ (cutB [W] 0 e dd)).length<=(cutB [W] 0 e dd).length:=by unfold yQ;rw[List.length_take];omega
  omega
 ·omega
 ·rw[←k2,c3,←hcl,zmy hcw]
  refine at_join (gF hin) ?_
  rw[hcl]
  have:=k6 (i0+dd.toNat) pos (by push_cast;omega)
  rw[show (e+dd+((0:Nat):Int)).toNat=e.toNat+dd.toNat by push_cast;omega] at this
  exact this
 ·rw[zgJ (fun h0=>?_),xc,hcl]
  rw[zgH hin]
  rcases hz with hz|hz
  ·omega
  ·rw[show e+(((cutB [W] 0 e dd).length-1:Nat):Int)=e+dd-1 by omega]
   exact hz
 ·rw[zj2 (fun h0 hk=>?_),List.take_of_length_le (by simp),List.length_map,k2]
  have:=k7 (ys.length-1) (by omega) hk
  rcases hz with hz|hz
  ·omega
  ·rw[show e+dd+((0:Nat):Int)+((ys.length-1:Nat):Int)=e+dd+qq-1 by omega] at this
   exact hz this
end
section
variable {W:List Int} {D:Nat} {F:Int->CS->Option CS} {G:Int->Int->Int->Nd×Int×Int}
theorem zg6 (hl:W.length<=1099511627776) (hw:∀ x∈W,zH x) (L:Lk W D F G) {st dd qq:Int} (he:0<=st) (hd:0<=dd) (hq:0<=qq):∀ (c i:Nat) (s s':CS) (acc:List Nd),st+((i:Int)+c)*(dd+qq)<=W.length->Rg W s->vd (fun i=>xe F qq.toNat (st+i*(dd+qq)+dd)) c i s=some s'->
  Rg W s'/\∃ ys,zO (fun m (i:Nat)=>zQ G [W] m ⟨1,0,st+i*(dd+qq),dd,qq,0,0,0⟩) c i s.2 acc=(acc++ys,s'.2,0)/\ys.length=c/\At W s.1.toNat ((ys.map zi).flatMap fun k=>k.kids.flatMap (body D))/\s'.1=s.1+(((ys.map zi).flatMap fun k=>k.kids.flatMap (body D)).length:Int)/\(∀ (i0 pos:Nat),(pos:Int)-i0=s.1-(st+i*(dd+qq))->At W (st+i*(dd+qq)).toNat (xw (body D) dd.toNat qq.toNat i0 pos (ys.map zi)))/\(∀ k∈ys.map zi,k.data.length<=8*dd.toNat/\k.kids.length<=qq.toNat)/\(∀ j:Nat,i<=j->j<i+c->wd [W] 0 (st+j*(dd+qq)+dd-1)≠0->∃ k∈ys.map zi,k.data.length=8*dd.toNat)/\(∀ j:Nat,i<=j->j<i+c->wd [W] 0 (st+j*(dd+qq)+dd+qq-1)≠0->∃ k∈ys.map zi,k.kids.length=qq.toNat):=by
 intro c
 induction c with
 |zero=>
  intro i s s' acc hb hs h
  rw[vd] at h
  cases h
  have hm:=Int.mul_nonneg (Int.natCast_nonneg i) (show 0<=dd+qq by omega)
  have hb':st+(i:Int)*(dd+qq)<=W.length:=by simpa using hb
  refine ⟨hs,[],by rw[zO,List.append_nil],rfl,at_nil (by have:=hs.1;omega),by simp,fun i0 pos _=>at_nil (by omega),(fun k hk=>by cases hk),(fun j h1 h2=>absurd h2 (by omega)),fun j h1 h2=>absurd h2 (by omega)⟩
 |succ c ih=>
  intro i s s' acc hb hs h
  have hm:=Int.mul_nonneg (Int.natCast_nonneg i) (show 0<=dd+qq by omega)
  have hm2:=Int.mul_nonneg (Int.natCast_nonneg c) (show 0<=dd+qq by omega)
  have e1:((i:Int)+((c+1:Nat):Int))*(dd+qq)=i*(dd+qq)+(dd+qq)+c*(dd+qq):=by
   push_cast
   rw[Int.add_mul,Int.add_mul,Int.one_mul]
   omega
  have e2:(((i+1:Nat):Int)+(c:Int))*(dd+qq)=i*(dd+qq)+(dd+qq)+c*(dd+qq):=by
   push_cast
   rw[Int.add_mul,Int.add_mul,Int.one_mul]
  have e3:((i+1:Nat):Int)*(dd+qq)=i*(dd+qq)+(dd+qq):=by
   push_cast
   rw[Int.add_mul,Int.one_mul]
  rw[vd] at h
  cases h1:xe F qq.toNat (st+i*(dd+qq)+dd) s with
  |none=>rw[h1] at h;cases h
  |some t=>
   rw[h1] at h
   have h:vd (fun i=>xe F qq.toNat (st+i*(dd+qq)+dd)) c (i+1) t=some s':=h
   obtain ⟨ht,y,d,ks,f1,f2,f3,f4,f5,f6,f7,f8,f9⟩:=qg hl hw L (e:=st+i*(dd+qq)) (by omega) hd hq (by omega) hs h1 (o:=⟨1,0,st+i*(dd+qq),dd,qq,0,0,0⟩) rfl rfl rfl rfl
   obtain ⟨hr,ys,k1,k2,k3,k4,k5,k6,k7,k8⟩:=ih (i+1) t s' (acc++[y]) (by rw[e2];omega) ht h
   have hs1:=hs.1
   have eq:t.1.toNat=s.1.toNat+(ks.flatMap (body D)).length:=by omega
   refine ⟨hr,y::ys,?_,by rw[zmU,k2],?_,?_,fun i0 pos hp=>?_,fun k hk=>?_,fun j j1 j2 hz=>?_,fun j j1 j2 hz=>?_⟩
   ·rw[zO,f1,if_pos rfl,k1,List.append_assoc,List.singleton_append]
   ·rw[List.map_cons,List.flatMap_cons,f2]
    refine at_join (L:=ks.flatMap (body D)) f3 ?_
    rw[←eq]
    exact k3
   ·rw[List.map_cons,List.flatMap_cons,zmT,k4,f4,f2]
    show s.1+_+_=s.1+(((ks.flatMap (body D)).length+_:Nat):Int)
    push_cast
    omega
   ·rw[List.map_cons,f2,xw]
    have hlen:(zN dd.toNat (Nd.mk 1 0 0 d ks).data++(yu (body D) (i0+dd.toNat) pos (Nd.mk 1 0 0 d ks).kids++List.replicate (qq.toNat-(Nd.mk 1 0 0 d ks).kids.length) 0)).length=dd.toNat+qq.toNat:=by
     rw[zmT,zmT,xh,wS,List.length_replicate]
     show dd.toNat+(ks.length+(qq.toNat-ks.length))=_
     omega
    refine at_join (f7 i0 pos hp) ?_
    rw[hlen]
    have:=k5 (i0+(dd.toNat+qq.toNat)) (pos+Zb (body D) ks) (by rw[e3];unfold Zb;push_cast;omega)
    rw[e3,show (st+((i:Int)*(dd+qq)+(dd+qq))).toNat=(st+(i:Int)*(dd+qq)).toNat+(dd.toNat+qq.toNat) by omega] at this
    exact this
   ·rw[List.map_cons] at hk
    rcases List.mem_cons.1 hk with rfl|hk
    ·rw[f2];exact ⟨f5,f6⟩
    ·exact k6 k hk
   ·rw[List.map_cons]
    by_cases hj:j=i
    ·subst hj
     exact ⟨_,List.mem_cons_self,by rw[f2];exact f8 (.inr hz)⟩
    ·obtain ⟨k,m1,m2⟩:=k7 j (by omega) (by omega) hz
     exact ⟨k,List.mem_cons_of_mem _ m1,m2⟩
   ·rw[List.map_cons]
    by_cases hj:j=i
    ·subst hj
     exact ⟨_,List.mem_cons_self,by rw[f2];exact f9 (.inr hz)⟩
    ·obtain ⟨k,m1,m2⟩:=k8 j (by omega) (by omega) hz
     exact ⟨k,List.mem_cons_of_mem _ m1,m2⟩
theorem VC (D:Nat) (d:List Int) (ks:List Nd):body (D+1) (.mk 1 0 0 d ks)=(zN (d.length/8) d++yu (body D) (d.length/8) (d.length/8+ks.length) ks)++ks.flatMap (body D):=by
 rw[body,if_neg (show ¬(Nd.mk 1 0 0 d ks).kind=0 from (by decide:¬(1:Int)=0))]
 unfold xy z9
 rw[if_pos (show (Nd.mk 1 0 0 d ks).kind=1 from rfl),if_neg (show ¬((Nd.mk 1 0 0 d ks).kind=2/\(Nd.mk 1 0 0 d ks).elem=7) from fun h=>absurd (show (1:Int)=2 from h.1) (by decide))]
 rfl
theorem gS (D:Nat) {e n:Int} (h6:e≠6) (h7:e≠7) (d:List Int):body (D+1) (.mk 2 e n d [])=zN (zs e n).toNat d:=by
 rw[body,if_neg (show ¬(Nd.mk 2 e n d []).kind=0 from (by decide:¬(2:Int)=0))]
 unfold xy z9
 rw[if_neg (show ¬(Nd.mk 2 e n d []).kind=1 from (by decide:¬(2:Int)=1)),if_neg (show ¬(Nd.mk 2 e n d []).elem=7 from h7),if_neg (show ¬(Nd.mk 2 e n d []).elem=6 from h6),if_neg (show ¬((Nd.mk 2 e n d []).kind=2/\(Nd.mk 2 e n d []).elem=7) from fun h=>h7 h.2)]
 exact List.append_nil _
theorem gT (D:Nat) (n:Int) (ks:List Nd):body (D+1) (.mk 2 6 n [] ks)=yu (body D) 0 ks.length ks++ks.flatMap (body D):=by
 rw[body,if_neg (show ¬(Nd.mk 2 6 n [] ks).kind=0 from (by decide:¬(2:Int)=0))]
 unfold xy z9
 rw[if_neg (show ¬(Nd.mk 2 6 n [] ks).kind=1 from (by decide:¬(2:Int)=1)),if_neg (show ¬(Nd.mk 2 6 n [] ks).elem=7 from (by decide:¬(6:Int)=7)),if_pos (show (Nd.mk 2 6 n [] ks).elem=6 from rfl),if_neg (show ¬((Nd.mk 2 6 n [] ks).kind=2/\(Nd.mk 2 6 n [] ks).elem=7) from fun h=>absurd (show (6:Int)=7 from h.2) (by decide))]
 rfl
theorem gP (D:Nat) (n:Int) (ks:List Nd):body (D+1) (.mk 2 7 n [] ks)=(ya n (zn ks) (zq ks)::xw (body D) (zn ks) (zq ks) 1 (1+ks.length*(zn ks+zq ks)) ks)++ks.flatMap fun k=>k.kids.flatMap (body D):=by
 rw[body,if_neg (show ¬(Nd.mk 2 7 n [] ks).kind=0 from (by decide:¬(2:Int)=0)),←Qf]
 unfold xy z9
 rw[if_neg (show ¬(Nd.mk 2 7 n [] ks).kind=1 from (by decide:¬(2:Int)=1)),if_pos (show (Nd.mk 2 7 n [] ks).elem=7 from rfl),if_pos (show ((Nd.mk 2 7 n [] ks).kind=2/\(Nd.mk 2 7 n [] ks).elem=7) from ⟨rfl,rfl⟩)]
 rfl
theorem ziy (hl:W.length<=1099511627776) (hw:∀ x∈W,zH x) (L:Lk W D F G) {a:Int} (ha:0<=a/\a<W.length) {p:PT} (hp2:0<=p.2.2.1/\p.2.2.1<=65535) (hp3:0<=p.2.2.2.1/\p.2.2.2.1<=65535) {s s':CS} (hs:Rg W s) (h:ZA F W a p s=some s') :
  Rg W s'/\∃ y,xu G [W] s.2 (wG [W] 0 (a+1+p.2.1) p.2.2.1 p.2.2.2.1)=(y,s'.2,0)/\yK (zi y) (s.1-a-1)=ya p.2.1 p.2.2.1.toNat p.2.2.2.1.toNat/\At W s.1.toNat (body (D+1) (zi y))/\s'.1=s.1+((body (D+1) (zi y)).length:Int):=by
 have hs1:=hs.1
 have hs2:=hs.2
 unfold ZA at h
 split at h
 ·rename_i h0
  split at h
  ·rename_i h1
   cases h
   have d0:p.2.2.1=0:=by omega
   have q0:p.2.2.2.1=0:=by omega
   rw[d0,q0,h1,show a+1+-1=a by omega]
   obtain ⟨hr,y,d,ks,f1,f2,f3,f4,f5,f6,f7,f8,f9⟩:=qg hl hw L (e:=a) (dd:=0) (qq:=0) ha.1 (Int.le_refl _) (Int.le_refl _) (by omega) hs (s':=s) rfl (o:=⟨1,0,a,0,0,0,0,0+0⟩) rfl rfl rfl rfl
   obtain rfl:d=[]:=List.length_eq_zero_iff.1 (by have:(0:Int).toNat=0:=rfl;omega)
   obtain rfl:ks=[]:=List.length_eq_zero_iff.1 (by have:(0:Int).toNat=0:=rfl;omega)
   refine ⟨hs,y,?_,?_,?_,?_⟩
   ·unfold wG xu
    rw[if_pos (zao ha.1 (by decide) (by omega))]
    dsimp only
    rw[if_pos rfl,if_neg (by omega),if_pos rfl,show s.2-(0+0)=s.2 by omega]
    exact f1
   ·rw[f2]
    rfl
   ·rw[f2,VC]
    exact at_nil (by omega)
   ·rw[f2,VC]
    simp[zN,yu]
  ·cases h
 ·rename_i h0
  split at h
  ·rename_i h1
   obtain ⟨g1,g2,g3,g4,g5⟩:=h1
   have hb:=vP g2
   obtain ⟨hr,y,d,ks,f1,f2,f3,f4,f5,f6,f7,f8,f9⟩:=qg hl hw L (e:=s.1) (dd:=p.2.2.1) (qq:=p.2.2.2.1) (by omega) hp2.1 hp3.1 (by omega) (s:=(s.1+(p.2.2.1+p.2.2.2.1),s.2-(p.2.2.1+p.2.2.2.1))) ⟨by dsimp only;omega,by dsimp only;omega,by dsimp only;omega⟩ h (o:=⟨1,0,s.1,p.2.2.1,p.2.2.2.1,0,0,p.2.2.1+p.2.2.2.1⟩) rfl rfl rfl rfl
   have f8':=f8 g4
   have f9':=f9 g5
   have hd8:d.length/8=p.2.2.1.toNat:=by omega
   dsimp only at f1 f3 f4 f7
   refine ⟨hr,y,?_,?_,?_,?_⟩
   ·rw[g1]
    unfold wG xu
    rw[if_pos g2]
    dsimp only
    rw[if_pos rfl,if_neg (by omega),if_pos rfl]
    exact f1
   ·rw[f2]
    show (if d.length/8=0/\ks.length=0 then ya (-1) 0 0 else ya (s.1-a-1) (d.length/8) ks.length)=_
    rw[if_neg (by omega),hd8,f9',show s.1-a-1=p.2.1 by omega]
   ·rw[f2,VC,hd8]
    have h7:=f7 0 (p.2.2.1.toNat+p.2.2.2.1.toNat) (by push_cast;omega)
    rw[f9',Nat.sub_self,List.replicate_zero,List.append_nil,Nat.zero_add] at h7
    rw[f9']
    refine at_join h7 ?_
    rw[zmT,xh,wS,f9']
    rw[show (s.1+(p.2.2.1+p.2.2.2.1)).toNat=s.1.toNat+(p.2.2.1.toNat+p.2.2.2.1.toNat) by omega] at f3
    exact f3
   ·rw[f2,VC,zmT,zmT,xh,wS,f4]
    push_cast
    omega
  ·cases h
theorem zmz {e n:Int} {C:List Int} (hC:∀ x∈C,zH x) (hl:(trimB e n (zA C)).length<=8*C.length) (h:Yc e n (zA C)):zN C.length (trimB e n (zA C))=C:=by
 refine VE (YZ _ (XV _ _ _ (wj _))) hC ?_
 rw[Xc _ (XV _ _ _ (wj _)) hl]
 unfold Yc at h
 rw[List.take_append,List.take_of_length_le (by rw[xc];exact hl),List.take_replicate,xc] at h
 conv=>rhs;rw[←h]
 congr 2
 omega
theorem zix (hl:W.length<=1099511627776) (hw:∀ x∈W,zH x) (L:Lk W D F G) {a:Int} (ha:0<=a/\a<W.length) {p:PT} (hp2:0<=p.2.2.2.2.1/\p.2.2.2.2.1<=6) (hp3:0<=p.2.2.2.2.2.1/\p.2.2.2.2.2.1<=536870911) {s s':CS} (hs:Rg W s) (h:Zf F W a p s=some s') :
  Rg W s'/\∃ y,xu G [W] s.2 (xY [W] 0 (a+1+p.2.1) p.2.2.2.2.1 p.2.2.2.2.2.1)=(y,s'.2,0)/\yK (zi y) (s.1-a-1)=yv p.2.1 p.2.2.2.2.1 p.2.2.2.2.2.1/\At W s.1.toNat (body (D+1) (zi y))/\s'.1=s.1+((body (D+1) (zi y)).length:Int):=by
 have hs1:=hs.1
 have hs2:=hs.2
 have hwr:=ZT (e:=p.2.2.2.2.1) hp3
 generalize he:p.2.2.2.2.1=e at *
 generalize hn:p.2.2.2.2.2.1=n at *
 unfold Zf at h
 rw[he,hn] at h
 split at h
 ·rename_i h1
  obtain ⟨g1,g2,g3⟩:=h1
  have hb:=vP g2
  have hcl:=rY g2
  rw[g1]
  unfold xY xu
  rw[if_neg (show ¬e=7 by omega),if_pos g2]
  dsimp only
  rw[if_pos rfl,if_neg (by omega),if_neg (by decide)]
  unfold xo
  dsimp only
  split at h
  ·rename_i h6
   subst h6
   have w6:zs 6 n=n:=by unfold zs bitsOf;simp;omega
   rw[w6] at h g2 g3 hb ⊢
   rw[if_neg (by decide)]
   have hs':Rg W (s.1+n,s.2-n):=⟨by dsimp only;omega,by dsimp only;omega,by dsimp only;omega⟩
   rw[show xe F n.toNat s.1 (s.1+n,s.2-n)=xe F n.toNat (s.1+((0:Nat):Int)) (s.1+n,s.2-n) by simp] at h
   obtain ⟨hr,ys,k1,k2,k3,k4,k5,k6,k7⟩:=zaG L s.1 (by omega) n.toNat 0 (s.1+n,s.2-n) s' [] (by push_cast;omega) hs' h
   dsimp only at k1 k4 k5 k6
   have hf:(fun m (i:Nat)=>if (6:Int)=6 then G m 0 (s.1+i) else zQ G [W] m (yj ⟨2,0,s.1,0,0,6,n,n⟩ i))=fun m (i:Nat)=>G m 0 (s.1+i):=by
    funext m i
    rw[if_pos rfl]
   rw[hf,k1]
   unfold wZ
   dsimp only
   rw[if_pos rfl,zmV]
   have et:zi (.mk 2 6 n [] ys)=.mk 2 6 n [] (ys.map zi):=by rw[zi,if_neg (by decide),xb]
   refine ⟨hr,_,rfl,?_,?_,?_⟩
   ·rw[et]
    show yv (s.1-a-1) 6 n=_
    rw[show s.1-a-1=p.2.1 by omega]
   ·rw[et,gT]
    have h6:=k6 0 (ys.map zi).length (by rw[List.length_map,k2];push_cast;omega)
    rw[show (s.1+((0:Nat):Int)).toNat=s.1.toNat by simp] at h6
    refine at_join h6 ?_
    rw[wS,List.length_map,k2,←show (s.1+n).toNat=s.1.toNat+n.toNat by omega]
    exact k4
   ·rw[et,gT,zmT,wS,List.length_map,k2,k5]
    push_cast
    omega
  ·rename_i h6
   split at h
   ·rename_i hpd
    cases h
    rw[if_pos (show e<6 by omega)]
    have hcu:xS W s.1 (zs e n)=cutB [W] 0 s.1 (zs e n):=by
     unfold cutB
     rw[if_pos g2]
     rfl
    rw[hcu] at hpd
    have hcw:∀ x∈cutB [W] 0 s.1 (zs e n),zH x:=(VY (Yb hl hw) 0 s.1 (zs e n)).2
    have hbf:=g9 (e:=e) (c:=n) (by omega) hp3
    have htl:=(zcD (e:=e) (c:=n) (b:=zA (cutB [W] 0 s.1 (zs e n))) hp3 (by rw[xc];omega)).1
    have hC:=zmz hcw (by omega) hpd
    have et:zi (.mk 2 e n (trimB e n (zA (cutB [W] 0 s.1 (zs e n)))) [])=.mk 2 e n (trimB e n (zA (cutB [W] 0 s.1 (zs e n)))) []:=by rw[zi,if_neg (by decide)];rfl
    refine ⟨⟨by dsimp only;omega,by dsimp only;omega,by dsimp only;omega⟩,_,rfl,?_,?_,?_⟩
    ·rw[et]
     show (if (2:Int)=0 then 0 else if (2:Int)=1 then _ else if e=7 then _ else yv (s.1-a-1) e n)=_
     rw[if_neg (by decide),if_neg (by decide),if_neg (by omega),show s.1-a-1=p.2.1 by omega]
    ·rw[et,gS D h6 (by omega),←hcl,hC]
     exact gF g2
    ·rw[et,gS D h6 (by omega),xh]
     dsimp only
     omega
   ·cases h
 ·cases h
theorem ziw (hl:W.length<=1099511627776) (hw:∀ x∈W,zH x) (L:Lk W D F G) {a:Int} (ha:0<=a/\a<W.length) {p:PT} (hp3:0<=p.2.2.2.2.2.1/\p.2.2.2.2.2.1<=536870911) {s s':CS} (hs:Rg W s) (h:vt F W a p s=some s') :
  Rg W s'/\∃ y,xu G [W] s.2 (xY [W] 0 (a+1+p.2.1) 7 p.2.2.2.2.2.1)=(y,s'.2,0)/\yK (zi y) (s.1-a-1)=yv p.2.1 7 p.2.2.2.2.2.1/\At W s.1.toNat (body (D+1) (zi y))/\s'.1=s.1+((body (D+1) (zi y)).length:Int):=by
 have hs1:=hs.1
 have hs2:=hs.2
 generalize hn:p.2.2.2.2.2.1=c at *
 unfold vt at h
 rw[hn] at h
 split at h
 ·rename_i h1
  obtain ⟨g1,g2,⟨t1,t2,t3⟩,g3⟩:=h1
  have hb:=vP g2
  have hww:zH (wd [W] 0 s.1):=wL (Yb hl hw) 0 s.1
  obtain ⟨-,-,td1,td2,tq1,tq2,-,-,-,-,-,-⟩:=vO hww
  have tn:(zv (wd [W] 0 s.1)).2.1<=536870911:=(vO hww).2.1
  have henc:=jx hww (by rw[←YB hww];exact t1)
  have hwat:=Wk (W:=W) (a:=s.1) (by omega) (by omega)
  rw[g1]
  unfold xY xu
  rw[if_pos rfl]
  unfold wn
  have hcond:(zv (wd [W] 0 s.1)).1=0/\0<=(zv (wd [W] 0 s.1)).2.1/\(zv (wd [W] 0 s.1)).2.1*((zv (wd [W] 0 s.1)).2.2.1+(zv (wd [W] 0 s.1)).2.2.2.1)<=c:=⟨t1,t2,by omega⟩
  rw[if_pos g2,if_pos hcond]
  clear hcond
  generalize zv (wd [W] 0 s.1)=t at *
  generalize hdd:t.2.2.1=dd at *
  generalize hqq:t.2.2.2.1=qq at *
  generalize hoo:t.2.1=n at *
  rw[←henc] at hwat
  unfold VV at h
  rw[hdd,hqq,hoo] at h
  dsimp only
  rw[if_pos rfl]
  have key:∀ s2:CS,Rg W s2->s2.1=s.1+(c+1)->vd (fun i=>xe F qq.toNat (s.1+1+i*(dd+qq)+dd)) n.toNat 0 s2=some s'->((dd=0∨wI (Zl W (s.1+1) (dd+qq) dd) n.toNat 0 false=true)/\(qq=0∨wI (Zl W (s.1+1) (dd+qq) (dd+qq)) n.toNat 0 false=true))->∀ cost,Rg W s'/\∃ y,xo G [W] s2.2 ⟨2,0,s.1+1,dd,qq,7,n,cost⟩=(y,s'.2,0)/\yK (zi y) (s.1-a-1)=yv p.2.1 7 c/\At W s.1.toNat (body (D+1) (zi y))/\s'.1=s.1+((body (D+1) (zi y)).length:Int):=by
   intro s2 hs2 hs21 hE hor cost
   have t3':((0:Nat):Int)+(n.toNat:Int)=n:=by omega
   obtain ⟨hr,ys,k1,k2,k3,k4,k5,k6,k7,k8⟩:=zg6 hl hw L (st:=s.1+1) (dd:=dd) (qq:=qq) (by omega) td1 tq1 n.toNat 0 s2 s' [] (by rw[t3',t3];omega) hs2 hE
   have hD:zn (ys.map zi)=dd.toNat:=by
    have hle:zn (ys.map zi)<=dd.toNat:=YT fun x hx=>by have:=(k6 x hx).1;omega
    rcases hor.1 with h0|h0
    ·omega
    ·rcases (WT _ _ _ _).1 h0 with h0|⟨j,j1,j2,j3⟩
     ·exact absurd h0 (by decide)
     ·unfold Zl at j3
      obtain ⟨k,m1,m2⟩:=k7 j j1 j2 (by simpa using j3)
      have:=qv m1
      omega
   have hQ:zq (ys.map zi)=qq.toNat:=by
    have hle:zq (ys.map zi)<=qq.toNat:=YU fun x hx=>(k6 x hx).2
    rcases hor.2 with h0|h0
    ·omega
    ·rcases (WT _ _ _ _).1 h0 with h0|⟨j,j1,j2,j3⟩
     ·exact absurd h0 (by decide)
     ·unfold Zl at j3
      rw[show s.1+1+(j:Int)*(dd+qq)+(dd+qq)-1=s.1+1+(j:Int)*(dd+qq)+dd+qq-1 by omega] at j3
      obtain ⟨k,m1,m2⟩:=k8 j j1 j2 (by simpa using j3)
      have:=YV m1
      omega
   have et:zi (.mk 2 7 n [] ys)=.mk 2 7 n [] (ys.map zi):=by rw[zi,if_neg (by decide),xb]
   have hlen:(((ys.map zi).length*(dd.toNat+qq.toNat):Nat):Int)=c:=by
    rw[List.length_map,k2]
    push_cast
    rw[show ((n.toNat:Nat):Int)=n by omega,show ((dd.toNat:Nat):Int)+(qq.toNat:Int)=dd+qq by omega]
    exact t3
   have hal:=Wj (body D) dd.toNat qq.toNat 1 (1+(ys.map zi).length*(dd.toNat+qq.toNat)) (ys.map zi) (fun k hk=>(k6 k hk).2)
   refine ⟨hr,.mk 2 7 n [] ys,?_,?_,?_,?_⟩
   ·unfold xo
    dsimp only
    rw[if_neg (by decide)]
    have hf:(fun m (i:Nat)=>if (7:Int)=6 then G m 0 (s.1+1+i) else zQ G [W] m (yj ⟨2,0,s.1+1,dd,qq,7,n,cost⟩ i))=fun m (i:Nat)=>zQ G [W] m ⟨1,0,s.1+1+i*(dd+qq),dd,qq,0,0,0⟩:=by
     funext m i
     rw[if_neg (by decide)]
     rfl
    rw[hf,k1]
    unfold wZ
    dsimp only
    rw[if_pos rfl,zmV]
   ·rw[et]
    show yv (s.1-a-1) 7 (n*((zn (ys.map zi)+zq (ys.map zi):Nat):Int))=_
    rw[hD,hQ,show s.1-a-1=p.2.1 by omega]
    congr 1
    rw[←hlen,List.length_map,k2]
    push_cast
    rw[show ((n.toNat:Nat):Int)=n by omega]
   ·rw[et,gP,hD,hQ]
    have h5:=k5 1 (1+(ys.map zi).length*(dd.toNat+qq.toNat)) (by rw[hs21];push_cast at hlen ⊢;omega)
    rw[show (s.1+1+((0:Nat):Int)*(dd+qq)).toNat=s.1.toNat+1 by simp;omega] at h5
    have hwat':At W s.1.toNat [ya n dd.toNat qq.toNat]:=hwat
    refine at_join (at_join (L:=[_]) hwat' h5) ?_
    rw[zmU,hal,show s.1.toNat+((ys.map zi).length*(dd.toNat+qq.toNat)+1)=s2.1.toNat by omega]
    exact k3
   ·rw[et,gP,hD,hQ,zmT,zmU,hal,k4,hs21]
    push_cast at hlen ⊢
    omega
  split at h
  ·rename_i hz
   split at h
   ·rename_i hz2
    rw[if_pos hz,if_neg (by omega),if_neg (by decide)]
    have dd0:dd=0:=by omega
    have qq0:qq=0:=by omega
    have hE:∀ (k i:Nat) (s2:CS),vd (fun i=>xe F qq.toNat (s.1+1+i*(dd+qq)+dd)) k i s2=some s2:=by
     intro k
     induction k with
     |zero=>intro i s2;rfl
     |succ k ih=>
      intro i s2
      rw[vd,qq0]
      show (some s2).bind _=_
      have:=ih (i+1) s2
      rw[qq0] at this
      exact this
    cases h
    have:=key (s.1+(c+1),s.2-(c+1)-n) ⟨by dsimp only;omega,by dsimp only;omega,by dsimp only;omega⟩ rfl (hE _ _ _) ⟨.inl dd0,.inl qq0⟩ (c+1+n)
    dsimp only at this
    rw[show s.2-(c+1+n)=s.2-(c+1)-n by omega]
    exact this
   ·cases h
  ·rename_i hz
   split at h
   ·rename_i hor
    rw[if_neg hz,if_neg (by omega),if_neg (by decide)]
    have:=key (s.1+(c+1),s.2-(c+1)) ⟨by dsimp only;omega,by dsimp only;omega,by dsimp only;omega⟩ rfl h hor (c+1+0)
    dsimp only at this
    rw[show s.2-(c+1+0)=s.2-(c+1) by omega]
    exact this
   ·cases h
 ·cases h
end
theorem zgl {W:List Int} (hl:W.length<=1099511627776) (hw:∀ x∈W,zH x):∀ D,Lk W D (xK W D) (zG [W] D):=by
 have hS:=Yb hl hw
 have hSm:Sm [W]:=by
  intro s
  unfold yw
  rcases Nat.eq_zero_or_pos s.toNat with h0|h0
  ·rw[h0];show (W.length:Int)<=_;omega
  ·rw[List.getD_eq_getElem?_getD,List.getElem?_eq_none (by rw[List.length_singleton];omega)]
   simp
 intro D
 induction D with
 |zero=>
  intro a s s' h0 h1 hs h
  rw[xK] at h
  dsimp only at h
  split at h
  ·rename_i hz
   cases h
   obtain ⟨n,rfl⟩:=Int.eq_ofNat_of_zero_le h0
   have hat:=Wk h0 h1
   rw[hz] at hat
   refine ⟨hs,nd0,Xm hat 0 s.2,XX,by rw[hz];rfl,at_nil (by have:=hs.1;omega),?_⟩
   show s.1=s.1+0
   omega
  ·cases h
 |succ D L=>
  intro a s s' h0 h1 hs h
  rw[xK] at h
  dsimp only at h
  obtain ⟨n,rfl⟩:=Int.eq_ofNat_of_zero_le h0
  have hat:=Wk h0 h1
  rw[Int.toNat_natCast] at hat
  split at h
  ·rename_i hz
   cases h
   rw[hz] at hat
   refine ⟨hs,nd0,Xm hat (D+1) s.2,XX,by rw[hz];rfl,?_,?_⟩
   ·rw[Yn,KK];exact at_nil (by have:=hs.1;omega)
   ·rw[Yn,KK];simp
  ·rename_i hz
   have hww:zH (wd [W] 0 (n:Int)):=wL hS 0 n
   have hk:=YB hww
   obtain ⟨p1,p2,p3,p4,p5,p6,p7,p8,p9,p10,p11,p12⟩:=vO hww
   have fin:∀ y,zG [W] (D+1) s.2 0 n=(y,s'.2,0)->VN y:=fun y e=>by
    have:=Wx hS hSm (D+1) s.2 0 n (by rw[e])
    rw[e] at this
    exact this.1
   unfold VW at h
   split at h
   ·rename_i h4
    have h4':wd [W] 0 (n:Int)%4=0:=by omega
    obtain ⟨hr,y,e1,e2,e3,e4⟩:=ziy hl hw L ⟨h0,h1⟩ ⟨p3,p4⟩ ⟨p5,p6⟩ hs h
    rw[jx hww h4'] at e2
    have hd:zG [W] (D+1) s.2 0 n=(y,s'.2,0):=by
     rw[YC hat (by omega) hz]
     unfold wQ
     rw[if_pos h4]
     exact e1
    exact ⟨hr,y,hd,fin y hd,e2.symm,e3,e4⟩
   ·rename_i h4
    split at h
    ·rename_i h5
     have h4':wd [W] 0 (n:Int)%4=1:=by omega
     have hend:=zg8 hww h4'
     have hst:∀ m,zG [W] (D+1) m 0 n=xu (zG [W] D) [W] m (xY [W] 0 ((n:Int)+1+(zv (wd [W] 0 (n:Int))).2.1) (zv (wd [W] 0 (n:Int))).2.2.2.2.1 (zv (wd [W] 0 (n:Int))).2.2.2.2.2.1):=fun m=>by
      rw[YC hat (by omega) hz]
      unfold wQ
      rw[if_neg h4,if_pos h5]
     split at h
     ·rename_i h7
      obtain ⟨hr,y,e1,e2,e3,e4⟩:=ziw hl hw L ⟨h0,h1⟩ ⟨p9,p10⟩ hs h
      rw[←h7,hend] at e2
      have hd:zG [W] (D+1) s.2 0 n=(y,s'.2,0):=by
       rw[hst,h7]
       exact e1
      exact ⟨hr,y,hd,fin y hd,e2.symm,e3,e4⟩
     ·rename_i h7
      obtain ⟨hr,y,e1,e2,e3,e4⟩:=zix hl hw L ⟨h0,h1⟩ ⟨p7,by omega⟩ ⟨p9,p10⟩ hs h
      rw[hend] at e2
      have hd:zG [W] (D+1) s.2 0 n=(y,s'.2,0):=by
       rw[hst]
       exact e1
      exact ⟨hr,y,hd,fin y hd,e2.symm,e3,e4⟩
    ·cases h
theorem zgm {W:List Int} (hl:W.length<=1099511627776) (hw:∀ x∈W,zH x) (h0:0<W.length) {D:Nat} {m:Int} (hm:0<=m/\m<=1099511627776) {s':CS} (h:xK W D 0 (1,m)=some s') (he:s'.1=W.length):∃ y,zG [W] D m 0 0=(y,s'.2,0)/\xd D (zi y)=W:=by
 obtain ⟨hr,y,e1,e2,e3,e4,e5⟩:=zgl hl hw D 0 (1,m) s' (Int.le_refl _) (by omega) ⟨by dsimp only;omega,hm.1,hm.2⟩ h
 dsimp only at e1 e3 e4 e5
 refine ⟨y,e1,?_⟩
 unfold xd
 have hat:=Wk (W:=W) (a:=0) (Int.le_refl _) (by omega)
 rw[e3,show (1:Int)-0-1=0 from rfl] at hat
 obtain ⟨A,C,hA,hA0⟩:=at_join (L:=[_]) hat (M:=body D (zi y)) e4
 obtain rfl:A=[]:=List.length_eq_zero_iff.1 hA0
 have hlen:=congrArg List.length hA
 simp only[zmV,zmT,zmU,List.length_nil] at hlen
 obtain rfl:C=[]:=List.length_eq_zero_iff.1 (by omega)
 rw[zmV,List.append_nil] at hA
 exact hA.symm
theorem KQ {γ:Type} {o:Option (Out×zf)} {a:AV} {h:zf} {kr:AV->zf->Option γ} {kp:PV->zf->Option γ} (e:o=some (.ret a,h)):zb o kr kp=kr a h:=by rw[e];rfl
theorem zgn {W:List Int} {H:Nat->CS->Option CS}:∀ (c i:Nat),(∀ (j:Nat) (s:CS),i<=j->j<i+c->Rg W s->∀ s',H j s=some s'->Rg W s')->∀ (s:CS),Rg W s->∀ s',vd H c i s=some s'->Rg W s':=by
 intro c
 induction c with
 |zero=>intro i hH s hs s' h;cases h;exact hs
 |succ c ih=>
  intro i hH s hs s' h
  rw[vd] at h
  cases h1:H i s with
  |none=>rw[h1] at h;cases h
  |some t=>
   rw[h1] at h
   exact ih (i+1) (fun j s h1 h2=>hH j s (by omega) (by omega)) t (hH i s (Nat.le_refl _) (by omega) hs t h1) s' h
theorem Jd {i n:Nat} {z:Int} (h:i<n) (hz:0<=z/\z<=131070) (hn:n<=536870911):0<=(i:Int)*z/\(i:Int)*z+z<=n*z/\(n:Int)*z<=536870911*131070:=by
 refine ⟨Int.mul_nonneg (Int.natCast_nonneg i) hz.1,?_,Int.mul_le_mul (by omega) hz.2 hz.1 (by omega)⟩
 have:=Int.mul_le_mul_of_nonneg_right (show (i:Int)+1<=n by omega) hz.1
 rw[Int.add_mul,Int.one_mul] at this
 exact this
theorem zgA {W:List Int} (hl:W.length<=1099511627776) {d w o k:Int} (hk:0<=k/\k<=1099511627776) {F:Int->CS->Option CS} (hF:VF W d w o (k+1) F) {n:Nat} {st dd qq:Int} (hst:0<=st) (hdd:0<=dd/\dd<=65535) (hqq:0<=qq/\qq<=65535) (hn:n<=536870911) (hb:st+1+n*(dd+qq)<=W.length) (x1 x2 x3 x4 x5 x6:Int) (x7:Bool) (x8 x9 x10:Int) (y1 y2 y5 y6 y7 y8 y9 y10:PV):∀ (c i:Nat) (s:CS),i+c=n->Rg W s->
  Vs W d w o (Xd k (I st) (dd+qq) (I n) i (.sl 1 (ws W)) (I s.1) (I d) (I w) (I o) (I s.2) x1 x2 x3 x4 x5 x6 x7 x8 x9 x10 y1 y2 (I dd) (I qq) y5 y6 y7 y8 y9 y10) (vd (fun (i:Nat)=>xe F qq.toNat (st+1+i*(dd+qq)+dd)) c i s):=by
 intro c
 induction c with
 |zero=>
  intro i s hi hs
  rw[ru]
  dsimp only[z6,zmS]
  rw[decide_eq_false (show ¬(i:Int)<(n:Int) by omega)]
  rfl
 |succ c ih=>
  intro i s hi hs
  obtain ⟨m1,m2,m3⟩:=Jd (show i<n by omega) (z:=dd+qq) ⟨by omega,by omega⟩ hn
  rw[ru]
  dsimp only[z6,zmS]
  rw[decide_eq_true (show (i:Int)<(n:Int) by omega),zh (x:=st+1) (by omega),zh (x:=(i:Int)*(dd+qq)) (by omega),zh (x:=st+1+(i:Int)*(dd+qq)) (by omega),zh (x:=st+1+(i:Int)*(dd+qq)+dd) (by omega),zh (x:=(i:Int)+1) (by omega),vd]
  have hP:=KG hl hk hF (n:=qq) (a:=st+1+(i:Int)*(dd+qq)+dd) (by omega) hqq.1 (by omega) hs
  have hR:=VX (fun a s h1 h2 h3=>(hF a s h1 h2 h3).2) qq.toNat (st+1+(i:Int)*(dd+qq)+dd) s (by omega) (by omega) hs
  unfold ch at hP
  cases h3:xe F qq.toNat (st+1+(i:Int)*(dd+qq)+dd) s with
  |none=>
   rw[h3] at hP
   obtain ⟨t,ht⟩:=hP
   unfold ch at ht
   rw[ht]
   exact ⟨t,rfl⟩
  |some t=>
   rw[h3] at hP
   have hP':ev 248 [.ptr 0 0,.pv (I (st+1+(i:Int)*(dd+qq)+dd)),.pv (I qq),.pv (I k)] [[.pv (.sl 1 (ws W)),.pv (I s.1),.pv (I d),.pv (I w),.pv (I o),.pv (I s.2)]]=some (.ret (.pv (.tup [])),ch W t.1 d w o t.2):=hP
   unfold ch at hP'
   dsimp only[zc,zmS]
   rw[hP']
   exact ih (i+1) t (by omega) (hR t h3)
theorem zgz {W:List Int} (hl:W.length<=1099511627776) {k:Int} {n:Nat} {st dd qq:Int} (hst:0<=st) (hdd:0<=dd/\dd<=65535) (hqq:0<=qq/\qq<=65535) (hn:n<=536870911) (hb:st+1+n*(dd+qq)<=W.length) (p8 p9 p10 p11 p12:PV) (x1 x2 x3 x4 x5 x6:Int) (x7:Bool) (x8 x9 x10:Int) (y1 y5 y6 y7 y8 y9 y10:PV):∀ (c i:Nat) (b3 b4:Bool),i+c=n->(b3=false->0<dd)->(b4=false->0<qq)->
  Zy k (I st) (dd+qq) b3 b4 (I n) i (.sl 1 (ws W)) p8 p9 p10 p11 p12 x1 x2 x3 x4 x5 x6 x7 x8 x9 x10 y1 (I n) (I dd) (I qq) y5 y6 y7 y8 y9 y10 =
   if wI (Zl W (st+1) (dd+qq) dd) c i b3=true/\wI (Zl W (st+1) (dd+qq) (dd+qq)) c i b4=true then Xd k (I st) (dd+qq) (I n) 0 (.sl 1 (ws W)) p8 p9 p10 p11 p12 x1 x2 x3 x4 x5 x6 x7 x8 x9 x10 y1 (I n) (I dd) (I qq) y5 y6 y7 y8 y9 y10
   else some (.pan (.ifc 174 (.agg [])),[[.pv (.sl 1 (ws W)),.pv p8,.pv p9,.pv p10,.pv p11,.pv p12]]):=by
 intro c
 induction c with
 |zero=>
  intro i b3 b4 hi h3 h4
  rw[rt]
  dsimp only[z6,yC,zmS]
  rw[decide_eq_false (show ¬(i:Int)<(n:Int) by omega)]
  dsimp only[zu]
  cases b3
  ·dsimp only[zu]
   rw[xQ,if_neg (fun h=>by cases h.1)]
   rfl
  ·dsimp only[zc]
   cases b4
   ·rw[xQ,if_neg (fun h=>by cases h.2)]
    rfl
   ·rw[w9,if_pos ⟨rfl,rfl⟩]
    rfl
 |succ c ih=>
  intro i b3 b4 hi h3 h4
  obtain ⟨m1,m2,m3⟩:=Jd (show i<n by omega) (z:=dd+qq) ⟨by omega,by omega⟩ hn
  rw[rt,wI,wI]
  dsimp only[z6,yC,zmS]
  rw[decide_eq_true (show (i:Int)<(n:Int) by omega),zh (x:=st+1) (by omega),zh (x:=(i:Int)*(dd+qq)) (by omega),zh (x:=st+1+(i:Int)*(dd+qq)) (by omega),zh (x:=st+1+(i:Int)*(dd+qq)+(dd+qq)) (by omega),zh (x:=st+1+(i:Int)*(dd+qq)+(dd+qq)-1) (by omega),zh (x:=st+1+(i:Int)*(dd+qq)+dd) (by omega),zh (x:=st+1+(i:Int)*(dd+qq)+dd-1) (by omega),zh (x:=(i:Int)+1) (by omega),show decide ((1:Nat)=1)=true from rfl,yl]
  dsimp only[zr,zc]
  have hq:b4=false->(ws W)[(st+1+(i:Int)*(dd+qq)+(dd+qq)-1).toNat]? = some (U (wd [W] 0 (st+1+(i:Int)*(dd+qq)+(dd+qq)-1)))/\decide (0<=st+1+(i:Int)*(dd+qq)+(dd+qq)-1)=true/\decide (st+1+(i:Int)*(dd+qq)+(dd+qq)-1<(W.length:Int))=true:=fun e=>by
   have:=h4 e
   exact ⟨Yr (by omega) (by omega),decide_eq_true (by omega),decide_eq_true (by omega)⟩
  have hd:b3=false->(ws W)[(st+1+(i:Int)*(dd+qq)+dd-1).toNat]? = some (U (wd [W] 0 (st+1+(i:Int)*(dd+qq)+dd-1)))/\decide (0<=st+1+(i:Int)*(dd+qq)+dd-1)=true/\decide (st+1+(i:Int)*(dd+qq)+dd-1<(W.length:Int))=true:=fun e=>by
   have:=h3 e
   exact ⟨Yr (by omega) (by omega),decide_eq_true (by omega),decide_eq_true (by omega)⟩
  cases b3 with
  |true=>
   dsimp only[zc]
   cases b4 with
   |true=>
    dsimp only[zc]
    exact ih (i+1) true true (by omega) (fun h=>by cases h) (fun h=>by cases h)
   |false=>
    obtain ⟨q1,q2,q3⟩:=hq rfl
    dsimp only[zu]
    rw[q1,q2,q3]
    dsimp only[zr,zmS,ym,zmQ,wR,zc]
    exact ih (i+1) true _ (by omega) (fun h=>by cases h) (fun _=>h4 rfl)
  |false=>
   obtain ⟨d1,d2,d3⟩:=hd rfl
   dsimp only[zu]
   rw[d1,d2,d3]
   dsimp only[zr,zmS,ym,zmQ,wR,zc]
   cases b4 with
   |true=>
    dsimp only[zc]
    exact ih (i+1) _ true (by omega) (fun _=>h3 rfl) (fun h=>by cases h)
   |false=>
    obtain ⟨q1,q2,q3⟩:=hq rfl
    dsimp only[zu]
    rw[q1,q2,q3]
    dsimp only[zr,zmS,ym,zmQ,wR,zc]
    exact ih (i+1) _ _ (by omega) (fun _=>h3 rfl) (fun _=>h4 rfl)
theorem zje {f:Nat->Bool} {n:Nat} {x:Int}:wI f n 0 (x==0)=true↔x=0∨wI f n 0 false=true:=by
 rw[WT,WT]
 constructor
 ·rintro (h|h)
  ·exact .inl (by simpa using h)
  ·exact .inr (.inr h)
 ·rintro (h|h|h)
  ·exact .inl (by simpa using h)
  ·cases h
  ·exact .inr h
theorem uM {W:List Int} (hl:W.length<=1099511627776) (hw:∀ x∈W,zH x) {d w o k:Int} (hk:0<=k/\k<=1099511627776) {F:Int->CS->Option CS} (hF:VF W d w o (k+1) F) {a:Int} (ha:0<=a/\a<W.length) {p:PT} (hp1:-536870912<=p.2.1/\p.2.1<=536870911) (hp3:0<=p.2.2.2.2.2.1/\p.2.2.2.2.2.1<=536870911) {s:CS} (hs:Rg W s) :
  Vs W d w o (ev 249 [.ptr 0 0,.pv (I a),.pv (I k),.pv (.agg (yh p))] (ch W s.1 d w o s.2)) (vt F W a p s)/\∀ s',vt F W a p s=some s'->Rg W s':=by
 have hs1:=hs.1
 have hs2:=hs.2
 have hS:=Yb hl hw
 have hww:zH (wd [W] 0 s.1):=wL hS 0 s.1
 obtain ⟨to1,to2,td1,td2,tq1,tq2,-,-,-,-,-,-⟩:=vO hww
 have hrg:∀ s',vt F W a p s=some s'->Rg W s':=by
  intro s' h
  unfold vt at h
  split at h
  ·rename_i h1
   obtain ⟨_,h2,⟨h4,h5,h6⟩,h3⟩:=h1
   have hb:=vP h2
   unfold VV at h
   split at h
   ·split at h
    ·cases h
     exact ⟨by dsimp only;omega,by dsimp only;omega,by dsimp only;omega⟩
    ·cases h
   ·split at h
    ·refine zgn _ _ (fun j s9 _ hj hs9=>?_) _ ⟨by dsimp only;omega,by dsimp only;omega,by dsimp only;omega⟩ s' h
     obtain ⟨m1,m2,m3⟩:=Jd (n:=(zv (wd [W] 0 s.1)).2.1.toNat) (show j<_ by omega) (z:=(zv (wd [W] 0 s.1)).2.2.1+(zv (wd [W] 0 s.1)).2.2.2.1) ⟨by omega,by omega⟩ (by omega)
     rw[show (((zv (wd [W] 0 s.1)).2.1.toNat:Nat):Int)=(zv (wd [W] 0 s.1)).2.1 by omega,h6] at m2
     exact VX (fun a s h1 h2 h3=>(hF a s h1 h2 h3).2) _ _ _ (by omega) (by omega) hs9
    ·cases h
  ·cases h
 refine ⟨?_,hrg⟩
 have hE:ev 249 [.ptr 0 0,.pv (I a),.pv (I k),.pv (.agg (yh p))] (ch W s.1 d w o s.2)=_:=zfR (ws W) s.1 d w o s.2 a k p.1 p.2.1 p.2.2.1 p.2.2.2.1 p.2.2.2.2.1 p.2.2.2.2.2.1 p.2.2.2.2.2.2.1 p.2.2.2.2.2.2.2.1 p.2.2.2.2.2.2.2.2.1 p.2.2.2.2.2.2.2.2.2
 have hO:=KD hS (nx:=s.1) (d:=d) (w:=w) (o:=o) (m:=s.2) (at_:=a) (n:=p.2.2.2.2.2.1+1) (p:=p) (by omega) hp1 (by omega) (by omega)
 unfold yh ch at hO
 rw[hE,zh (x:=p.2.2.2.2.2.1+1) (by omega)]
 unfold vt
 by_cases h1:a+1+p.2.1=s.1/\inB [W] 0 s.1 (p.2.2.2.2.2.1+1)
 ·have hb:=vP h1.2
  rw[if_pos h1] at hO
  rw[hO]
  have hD:=xH hww
  have hC:=Vv (W:=W) (nx:=s.1+(p.2.2.2.2.2.1+1)) (d:=d) (w:=w) (o:=o) (m:=s.2) (c:=p.2.2.2.2.2.1+1) (by omega) (by omega)
  have hC2:=Vv (W:=W) (nx:=s.1+(p.2.2.2.2.2.1+1)) (d:=d) (w:=w) (o:=o) (m:=s.2-(p.2.2.2.2.2.1+1)) (c:=(zv (wd [W] 0 s.1)).2.1)
  unfold yh at hD
  unfold ch at hC hC2
  dsimp only[ze,zmQ,yD,zg,zmS,xF,zc,zmR,Xi,yC]
  rw[show decide ((1:Nat)=1)=true from rfl,yl,decide_eq_true (show 0<=s.1 by omega),decide_eq_true (show s.1<(W.length:Int) by omega),Yr (by omega) (by omega)]
  dsimp only[zr,zmS,ym,zmQ,zc]
  rw[hD]
  dsimp only[ze,zg,zmS,xA,zmQ,zmR,yM,zr,z6,zc]
  clear hD hww
  generalize zv (wd [W] 0 s.1)=t at *
  rw[zh (x:=t.2.2.1+t.2.2.2.1) (by omega)]
  by_cases k1:t.1=0
  ·rw[beq_iff_eq.2 k1]
   dsimp only[zc]
   by_cases k2:0<=t.2.1
   ·rw[decide_eq_true (show t.2.1≥0 from k2)]
    dsimp only[zc]
    have hmul:=QX (o:=t.2.1) (n:=t.2.2.1+t.2.2.2.1) ⟨k2,to2⟩ ⟨by omega,by omega⟩
    rw[zh (x:=t.2.1*(t.2.2.1+t.2.2.2.1)) (by omega)]
    by_cases k3:t.2.1*(t.2.2.1+t.2.2.2.1)=p.2.2.2.2.2.1
    ·rw[beq_iff_eq.2 k3,w9]
     dsimp only[ze,zg,zmS]
     rw[hC]
     by_cases k4:p.2.2.2.2.2.1+1>s.2
     ·rw[if_pos k4,if_neg (fun h=>by omega)]
      exact ⟨(s.1+(p.2.2.2.2.2.1+1),s.2),rfl⟩
     ·rw[if_neg k4,if_pos ⟨h1.1,h1.2,⟨k1,k2,k3⟩,by omega⟩]
      dsimp only[ze,zmQ,yD,zg,zmS,zc,zmR,Xi]
      unfold VV
      by_cases hz:t.2.2.1+t.2.2.2.1=0
      ·rw[beq_iff_eq.2 hz,if_pos hz]
       dsimp only[zc]
       rw[hC2 (by omega) (by omega)]
       by_cases k5:t.2.1>s.2-(p.2.2.2.2.2.1+1)
       ·rw[if_pos k5,if_neg (by omega)]
        exact ⟨(s.1+(p.2.2.2.2.2.1+1),s.2-(p.2.2.2.2.2.1+1)),rfl⟩
       ·rw[if_neg k5,if_pos (by omega)]
        rfl
      ·rw[beq_eq_false_iff_ne.2 hz,if_neg hz]
       dsimp only[zu]
       obtain ⟨n,hn⟩:=Int.eq_ofNat_of_zero_le k2
       have hbn:s.1+1+(n:Int)*(t.2.2.1+t.2.2.2.1)<=W.length:=by rw[←hn,k3];omega
       have hL0:=zgz hl (k:=k) (n:=n) (st:=s.1) (dd:=t.2.2.1) (qq:=t.2.2.2.1) (by omega) ⟨td1,td2⟩ ⟨tq1,tq2⟩ (by omega) hbn (I (s.1+(p.2.2.2.2.2.1+1))) (I d) (I w) (I o) (I (s.2-(p.2.2.2.2.2.1+1))) p.1 p.2.1 p.2.2.1 p.2.2.2.1 p.2.2.2.2.1 p.2.2.2.2.2.1 p.2.2.2.2.2.2.1 p.2.2.2.2.2.2.2.1 p.2.2.2.2.2.2.2.2.1 p.2.2.2.2.2.2.2.2.2 (I t.1) (I t.2.2.2.2.1) (I t.2.2.2.2.2.1) (Bo t.2.2.2.2.2.2.1) (I t.2.2.2.2.2.2.2.1) (yO t.2.2.2.2.2.2.2.2.1) (yO t.2.2.2.2.2.2.2.2.2) n 0 (t.2.2.1==0) (t.2.2.2.1==0) (by omega) (fun h=>by have:=beq_eq_false_iff_ne.1 h;omega) (fun h=>by have:=beq_eq_false_iff_ne.1 h;omega)
       have hL2:=zgA hl hk hF (n:=n) (st:=s.1) (dd:=t.2.2.1) (qq:=t.2.2.2.1) (by omega) ⟨td1,td2⟩ ⟨tq1,tq2⟩ (by omega) hbn p.1 p.2.1 p.2.2.1 p.2.2.2.1 p.2.2.2.2.1 p.2.2.2.2.2.1 p.2.2.2.2.2.2.1 p.2.2.2.2.2.2.2.1 p.2.2.2.2.2.2.2.2.1 p.2.2.2.2.2.2.2.2.2 (I t.1) (I n) (I t.2.2.2.2.1) (I t.2.2.2.2.2.1) (Bo t.2.2.2.2.2.2.1) (I t.2.2.2.2.2.2.2.1) (yO t.2.2.2.2.2.2.2.2.1) (yO t.2.2.2.2.2.2.2.2.2) n 0 (s.1+(p.2.2.2.2.2.1+1),s.2-(p.2.2.2.2.2.1+1)) (by omega) ⟨by dsimp only;omega,by dsimp only;omega,by dsimp only;omega⟩
       rw[show ((0:Nat):Int)=0 from rfl] at hL0 hL2
       rw[hn,hL0,show ((n:Int)).toNat=n from Int.toNat_natCast n]
       simp only[zje]
       by_cases k6:(t.2.2.1=0∨wI (Zl W (s.1+1) (t.2.2.1+t.2.2.2.1) t.2.2.1) n 0 false=true)/\(t.2.2.2.1=0∨wI (Zl W (s.1+1) (t.2.2.1+t.2.2.2.1) (t.2.2.1+t.2.2.2.1)) n 0 false=true)
       ·rw[if_pos k6,if_pos k6]
        exact hL2
       ·rw[if_neg k6,if_neg k6]
        exact ⟨(s.1+(p.2.2.2.2.2.1+1),s.2-(p.2.2.2.2.2.1+1)),rfl⟩
    ·rw[beq_eq_false_iff_ne.2 k3,xQ,if_neg (fun h=>k3 h.2.2.1.2.2)]
     exact ⟨(s.1+(p.2.2.2.2.2.1+1),s.2),rfl⟩
   ·rw[decide_eq_false (show ¬t.2.1≥0 from k2),if_neg (fun h=>k2 h.2.2.1.2.1)]
    dsimp only[zu]
    rw[xQ]
    exact ⟨(s.1+(p.2.2.2.2.2.1+1),s.2),rfl⟩
  ·rw[beq_eq_false_iff_ne.2 k1,if_neg (fun h=>k1 h.2.2.1.1)]
   dsimp only[zu]
   rw[xQ]
   exact ⟨(s.1+(p.2.2.2.2.2.1+1),s.2),rfl⟩
 ·rw[if_neg h1] at hO
  rw[hO,if_neg (fun h=>h1 ⟨h.1,h.2.1⟩)]
  exact ⟨s,rfl⟩
theorem zdE {W:List Int} (hl:W.length<=1099511627776) (hw:∀ x∈W,zH x) {d w o k:Int} (hk:0<=k/\k<=1099511627776) {F:Int->CS->Option CS} (hF:VF W d w o (k+1) F) {a:Int} (ha:0<=a/\a<W.length) {p:PT} (hp1:-536870912<=p.2.1/\p.2.1<=536870911) (hp3:0<=p.2.2.2.2.2.1/\p.2.2.2.2.2.1<=536870911) (h7:p.2.2.2.2.1=7) {s:CS} (hs:Rg W s) :
  Vs W d w o (ev 194 [.ptr 0 0,.pv (I a),.pv (I k),.pv (.agg (yh p))] (ch W s.1 d w o s.2)) (vt F W a p s):=by
 have hC:=(uM hl hw hk hF ha hp1 hp3 hs).1
 have hE:ev 194 [.ptr 0 0,.pv (I a),.pv (I k),.pv (.agg (yh p))] (ch W s.1 d w o s.2)=_:=rz (ws W) s.1 d w o s.2 a k p.1 p.2.1 p.2.2.1 p.2.2.2.1 p.2.2.2.2.1 p.2.2.2.2.2.1 p.2.2.2.2.2.2.1 p.2.2.2.2.2.2.2.1 p.2.2.2.2.2.2.2.2.1 p.2.2.2.2.2.2.2.2.2
 rw[hE,beq_iff_eq.2 h7]
 dsimp only[zc]
 unfold yh ch at hC
 cases hq:vt F W a p s with
 |none=>
  rw[hq] at hC
  obtain ⟨t,ht⟩:=hC
  unfold ch at ht
  rw[ht]
  exact ⟨t,rfl⟩
 |some t=>
  rw[hq] at hC
  have hC':ev 249 [.ptr 0 0,.pv (I a),.pv (I k),.pv (.agg [I p.1,I p.2.1,I p.2.2.1,I p.2.2.2.1,I p.2.2.2.2.1,I p.2.2.2.2.2.1,Bo p.2.2.2.2.2.2.1,I p.2.2.2.2.2.2.2.1,yO p.2.2.2.2.2.2.2.2.1,yO p.2.2.2.2.2.2.2.2.2])] [[.pv (.sl 1 (ws W)),.pv (I s.1),.pv (I d),.pv (I w),.pv (I o),.pv (I s.2)]]=some (.ret (.pv (.tup [])),ch W t.1 d w o t.2):=hC
  rw[hC']
  rfl
theorem zdK {W:List Int} (hl:W.length<=1099511627776) (hw:∀ x∈W,zH x) {d w o:Int} (hd:d<=1099511627775):∀ (D:Nat) (k:Int),0<=k->k<=1099511627776->(d+1-k).toNat=D->VF W d w o k (xK W D):=by
 have hS:=Yb hl hw
 intro D
 induction D with
 |zero=>
  intro k k0 k1 hD a s ha0 ha1 hs
  have hww:zH (wd [W] 0 a):=wL hS 0 a
  refine ⟨?_,fun s' h=>?_⟩
  ·unfold ch
   rw[KU,yl,decide_eq_true ha0,decide_eq_true ha1,Yr ha0 ha1,xK]
   dsimp only[zr,zmS,ym,zmQ,zc]
   rw[XK]
   by_cases hz:wd [W] 0 a=0
   ·rw[beq_iff_eq.2 hz,if_pos hz]
    rfl
   ·rw[beq_eq_false_iff_ne.2 hz,if_neg hz]
    dsimp only[ze,zg,zmS,xf,zu]
    rw[Vq,if_pos (by omega)]
    dsimp only[ze,zg,zmS,z6]
    rw[show ((7:Int)==0)=false from rfl,xQ]
    exact ⟨s,rfl⟩
  ·rw[xK] at h
   dsimp only at h
   split at h
   ·cases h;exact hs
   ·cases h
 |succ D ih=>
  intro k k0 k1 hD a s ha0 ha1 hs
  have hww:zH (wd [W] 0 a):=wL hS 0 a
  have hF:=ih (k+1) (by omega) (by omega) (by omega)
  obtain ⟨p1,p2,p3,p4,p5,p6,p7,p8,p9,p10,p11,p12⟩:=vO hww
  have hk:=YB hww
  have hst:=zdJ hl hw (d:=d) (w:=w) (o:=o) (k:=k) ⟨k0,by omega⟩ hF ⟨ha0,ha1⟩ (p:=zv (wd [W] 0 a)) ⟨⟨p1,p2⟩,⟨p3,p4⟩,⟨p5,p6⟩⟩ hs
  have hco:=uM hl hw (d:=d) (w:=w) (o:=o) (k:=k) ⟨k0,by omega⟩ hF ⟨ha0,ha1⟩ (p:=zv (wd [W] 0 a)) ⟨p1,p2⟩ ⟨p9,p10⟩ hs
  have hli:¬(zv (wd [W] 0 a)).2.2.2.2.1=7->_:=fun h7=>zdH hl hw (d:=d) (w:=w) (o:=o) (k:=k) ⟨k0,by omega⟩ hF ⟨ha0,ha1⟩ (p:=zv (wd [W] 0 a)) ⟨⟨p1,p2⟩,⟨p7,by omega⟩,⟨p9,p10⟩⟩ hs
  have hlc:(zv (wd [W] 0 a)).2.2.2.2.1=7->_:=fun h7=>zdE hl hw (d:=d) (w:=w) (o:=o) (k:=k) ⟨k0,by omega⟩ hF ⟨ha0,ha1⟩ (p:=zv (wd [W] 0 a)) ⟨p1,p2⟩ ⟨p9,p10⟩ h7 hs
  have hLI:Vs W d w o (ev 194 [.ptr 0 0,.pv (I a),.pv (I k),.pv (.agg (yh (zv (wd [W] 0 a))))] (ch W s.1 d w o s.2)) (if (zv (wd [W] 0 a)).2.2.2.2.1=7 then vt (xK W D) W a (zv (wd [W] 0 a)) s else Zf (xK W D) W a (zv (wd [W] 0 a)) s):=by
   by_cases h7:(zv (wd [W] 0 a)).2.2.2.2.1=7
   ·rw[if_pos h7];exact hlc h7
   ·rw[if_neg h7];exact (hli h7).1
  refine ⟨?_,fun s' h=>?_⟩
  ·have hdc:=xH hww
   unfold yh at hdc
   unfold ch
   rw[KU,yl,decide_eq_true ha0,decide_eq_true ha1,Yr ha0 ha1,xK]
   dsimp only[zr,zmS,ym,zmQ,zc]
   rw[XK]
   by_cases hz:wd [W] 0 a=0
   ·rw[beq_iff_eq.2 hz,if_pos hz]
    rfl
   ·rw[beq_eq_false_iff_ne.2 hz,if_neg hz]
    dsimp only[ze,zg,zmS,xf,zu]
    rw[Vq,if_neg (by omega)]
    dsimp only[ze,zg,zmS,z6]
    rw[show ((0:Int)==0)=true from rfl,w9]
    dsimp only[ze,zg,zmS]
    rw[hdc]
    dsimp only[ze,zg,zmS,xA,zmQ,zmR,yM,zr,z6,zc]
    unfold VW
    by_cases h0:(zv (wd [W] 0 a)).1=0
    ·rw[beq_iff_eq.2 h0,if_pos h0]
     dsimp only[zc]
     have hV:=hst.1
     unfold yh ch at hV
     cases hq:ZA (xK W D) W a (zv (wd [W] 0 a)) s with
     |none=>
      rw[hq] at hV
      obtain ⟨t,ht⟩:=hV
      unfold ch at ht
      rw[ht]
      exact ⟨t,rfl⟩
     |some t=>
      rw[hq] at hV
      refine (KQ (show _=some (Out.ret (.pv (.tup [])),ch W t.1 d w o t.2) from hV)).trans ?_
      rfl
    ·rw[beq_eq_false_iff_ne.2 h0,if_neg h0]
     dsimp only[zu]
     by_cases h1:(zv (wd [W] 0 a)).1=1
     ·rw[beq_iff_eq.2 h1,if_pos h1]
      dsimp only[zc]
      have hV:=hLI
      unfold yh ch at hV
      cases hq:(if (zv (wd [W] 0 a)).2.2.2.2.1=7 then vt (xK W D) W a (zv (wd [W] 0 a)) s else Zf (xK W D) W a (zv (wd [W] 0 a)) s) with
      |none=>
       rw[hq] at hV
       obtain ⟨t,ht⟩:=hV
       unfold ch at ht
       rw[ht]
       exact ⟨t,rfl⟩
      |some t=>
       rw[hq] at hV
       refine (KQ (show _=some (Out.ret (.pv (.tup [])),ch W t.1 d w o t.2) from hV)).trans ?_
       rfl
     ·rw[beq_eq_false_iff_ne.2 h1,if_neg h1]
      dsimp only[zu]
      rw[xQ]
      exact ⟨s,rfl⟩
  ·rw[xK] at h
   dsimp only at h
   split at h
   ·cases h;exact hs
   ·unfold VW at h
    split at h
    ·exact hst.2 s' h
    ·split at h
     ·split at h
      ·exact hco.2 s' h
      ·rename_i h7
       exact (hli h7).2 s' h
     ·cases h
def Yy (W:List Int) (d w:Int):Bool:=match xK W d.toNat 0 (1,max w 0) with
 |some s=>decide (0<W.length)&&(s.1==(W.length:Int))
 |none=>false
theorem zdF {W:List Int} (hl:W.length<=1099511627776) (hw:∀ x∈W,zH x) {d w o:Int} (hd:d<=1099511627775) (hm:w<=1099511627776):ev 76 [.pv (.sl 1 (ws W)),.pv (.agg [I d,I w,I o])] []=ok (Bo (Yy W d w)):=by
 rw[KT,yl]
 by_cases h0:0<W.length
 ·rw[decide_eq_true (show (W.length:Int)>0 by omega),w9,Vt]
  dsimp only[ze,zg,zmS,xA,zmQ,yM,zr,zc]
  obtain ⟨hv,-⟩:=zdK hl hw (d:=d) (w:=w) (o:=o) hd d.toNat 1 (by decide) (by decide) (by omega) 0 (1,max w 0) (Int.le_refl _) (by omega) ⟨by dsimp only;omega,by dsimp only;omega,by dsimp only;omega⟩
  unfold ch at hv
  dsimp only at hv
  unfold Yy
  cases hq:xK W d.toNat 0 (1,max w 0) with
  |none=>
   rw[hq] at hv
   obtain ⟨t,ht⟩:=hv
   unfold ch at ht
   rw[ht]
   rfl
  |some t=>
   rw[hq] at hv
   refine (KQ (show _=some (Out.ret (.pv (.tup [])),ch W t.1 d w o t.2) from hv)).trans ?_
   dsimp only
   rw[decide_eq_true h0,Bool.true_and]
   rfl
 ·rw[decide_eq_false (show ¬(W.length:Int)>0 by omega),xQ]
  have hf:Yy W d w=false:=by
   unfold Yy
   cases xK W d.toNat 0 (1,max w 0) with
   |none=>rfl
   |some t=>dsimp only;rw[decide_eq_false h0];rfl
  rw[hf]
  rfl
def rv:Option CS->Int
 |some s=>s.1
 |none=>-1
section
variable {W:List Int} {D:Nat} {F:Int->CS->Option CS} {G:Int->Int->Int->Nd×Int×Int}
end
noncomputable def YG (b:List Int) (d w:Int):Bool:=match yF b with
 |some [W]=>Yy W d w
 |_=>false
theorem zgo {W:List Int} (hl:W.length<=1099511627776) (hw:∀ x∈W,zH x) {d w:Int} (hm:w<=1099511627776) (h:Yy W d w=true):yJ [W] d w=0/\xt [W] d w=W:=by
 unfold Yy at h
 cases hq:xK W d.toNat 0 (1,max w 0) with
 |none=>rw[hq] at h;cases h
 |some t=>
  rw[hq] at h
  simp only[Bool.and_eq_true,decide_eq_true_eq,beq_iff_eq] at h
  obtain ⟨y,e1,e2⟩:=zgm hl hw h.1 ⟨by omega,by omega⟩ hq h.2
  have hr:runT [W] d w=(y,t.2,0):=by
   unfold runT
   rw[if_neg (fun he=>by have:=he.2;rw[Zo] at this;omega)]
   exact e1
  have he:yJ [W] d w=0:=by unfold yJ;rw[hr]
  refine ⟨he,?_⟩
  unfold xt yY
  rw[if_pos he,hr,if_pos rfl]
  exact e2
theorem jr {b:List Int} (hb:∀ x∈b,zm x) (i:Nat):e4 (zF b i)=[b.getD (4*i) 0,b.getD (4*i+1) 0,b.getD (4*i+2) 0,b.getD (4*i+3) 0]:=by
 have h0:=yL hb (4*i)
 have h1:=yL hb (4*i+1)
 have h2:=yL hb (4*i+2)
 have h3:=yL hb (4*i+3)
 unfold e4 zF
 generalize b.getD (4*i) 0=c0 at *
 generalize b.getD (4*i+1) 0=c1 at *
 generalize b.getD (4*i+2) 0=c2 at *
 generalize b.getD (4*i+3) 0=c3 at *
 simp only[List.cons.injEq,and_true]
 refine ⟨?_,?_,?_,?_⟩<;>omega
theorem zjZ {b:List Int} (hb:∀ x∈b,zm x) {W:List Int} (h:yF b=some [W]):Yj W=b:=by
 unfold yF at h
 have hr:=Xz hb 0
 have hr1:=Xz hb 1
 split at h
 ·cases h
 rename_i h4
 split at h
 ·cases h
 split at h
 ·cases h
 rename_i h6
 split at h
 ·cases h
 rename_i h7
 have hn:(zF b 0+1).toNat=1:=by
  cases hc:(zF b 0+1).toNat with
  |zero=>omega
  |succ c=>
   rw[hc] at h
   unfold y3 at h
   split at h
   ·rename_i h8
    cases hs:y3 b c (1+1) (List.drop (8*(zF b 1).toNat) (List.drop (yp (c+1)) b)) with
    |none=>rw[hs] at h;cases h
    |some l=>
     rw[hs] at h
     simp only[Option.map_some,zmX,List.cons.injEq] at h
     have hl:l=[]:=h.2
     subst hl
     cases c with
     |zero=>rfl
     |succ c=>
      exfalso
      unfold y3 at hs
      split at hs
      ·cases hs2:y3 b c (1+1+1) (List.drop (8*(zF b (1+1)).toNat) (List.drop (8*(zF b 1).toNat) (List.drop (yp (c+1+1)) b))) with
       |none=>rw[hs2] at hs;cases hs
       |some l2=>rw[hs2] at hs;simp at hs
      ·cases hs
   ·cases h
 rw[hn] at h h6
 have ht:yp 1=8:=rfl
 rw[ht] at h h6
 unfold y3 at h
 split at h
 ·rename_i h8
  rw[List.length_drop] at h8
  unfold y3 at h
  split at h
  ·rename_i h9
   simp only[Option.map_some,zmX,List.cons.injEq,and_true] at h
   have hlen:b.length=8+8*(zF b 1).toNat:=by
    have:=List.drop_eq_nil_iff.1 h9
    rw[List.length_drop] at this
    omega
   have htk:List.take (8*(zF b 1).toNat) (List.drop 8 b)=List.drop 8 b:=List.take_of_length_le (by rw[List.length_drop];omega)
   rw[htk] at h
   have hbw:zA (zN (zF b 1).toNat (b.drop 8))=b.drop 8:=by
    rw[Xc _ (ZZ hb 8) (by rw[List.length_drop];omega),List.length_drop,show 8*(zF b 1).toNat-(b.length-8)=0 by omega,List.replicate_zero,List.append_nil]
   have hwl:W.length=(zF b 1).toNat:=by rw[←h,xh]
   unfold Yj
   rw[hwl,show (((zF b 1).toNat:Nat):Int)=zF b 1 by omega,←h,hbw]
   have h0:zF b 0=0:=by omega
   have e0:e4 0=(b.drop 0).take 4:=by
    rw[←h0,jr hb 0,Jy (b:=b) (j:=0) (by omega)]
   have e1:e4 (zF b 1)=(b.drop 4).take 4:=by
    rw[jr hb 1,Jy (b:=b) (j:=4) (by omega)]
   rw[e0,e1,List.drop_zero]
   have k1:b.drop 4=(b.drop 4).take 4++b.drop 8:=by
    have:=List.take_append_drop 4 (b.drop 4)
    rw[List.drop_drop] at this
    exact this.symm
   have k2:b=b.take 4++b.drop 4:=(List.take_append_drop 4 b).symm
   rw[List.append_assoc,←k1,←k2]
  ·cases h
 ·cases h
theorem zap {b:List Int} (hb:∀ x∈b,zm x) (hl:b.length<=1099511627776) {d w:Int} (hw:w<=134217728) (h:YG b d w=true):mE b d w=0/\xj b d w=b:=by
 unfold YG at h
 split at h
 ·rename_i W hp
  obtain ⟨h1,h2⟩:=ZI hb hl hp
  have hW:=h1.2 W (List.mem_singleton.2 rfl)
  have hWl:W.length<=1099511627776:=by
   have:=h2 0
   rw[Zo] at this
   omega
  obtain ⟨c1,c2⟩:=zgo hWl hW.2 (by omega) h
  have hm:mE b d w=0:=by unfold mE;rw[hp];exact c1
  exact ⟨hm,by rw[(KS hp c1).1,c2,zjZ hb hp]⟩
 ·cases h
theorem zfB {b:List Int} {d w:Int} (h:mE b d w≠0):xj b d w=[]/\mH b d w=0:=by
 unfold xj mH
 unfold mE at h
 split
 ·rename_i l hp
  rw[hp] at h
  have h:yJ l d w≠0:=h
  exact ⟨if_neg h,if_neg h⟩
 ·exact ⟨rfl,rfl⟩
theorem rq {b:List Int} (hb:∀ x∈b,zm x) (hl:b.length<=1099511627776) {d w:Int} (hw:w<=134217728):(xj b d w).length<=1099511627776:=by
 unfold xj
 split
 ·rename_i l h
  split
  ·rename_i h0
   obtain ⟨h1,h2⟩:=ZI hb hl h
   have:=rr h1 h2 hw h0
   rw[qc]
   omega
  ·exact Nat.zero_le _
 ·exact Nat.zero_le _
theorem zdS {b:List Int} (hb:∀ x∈b,zm x) (hl:b.length<=1099511627776) {d w o:Int} (hd:d<=1000) (hw:w<=134217728):ev 35 [.pv (.sl 1 (bs b)),.pv (.agg [I d,I w,I o])] []=ok (Bo (YG b d w)):=by
 rw[JB,ZW hb hl]
 dsimp only[ze,zg,zmS,z4,zmR,zmQ,yC]
 rw[vk]
 unfold YG
 cases hp:yF b with
 |none=>rfl
 |some l=>
  obtain ⟨h1,h2⟩:=ZI hb hl hp
  rw[if_neg (by simp),Option.getD_some]
  dsimp only[zmS]
  rw[show decide ((0:Int)=0)=true from rfl]
  dsimp only[zc]
  match l,h1,h2 with
  |[],_,_=>rfl
  |[W],h1,h2=>
   have hW:=h1.2 W (List.mem_singleton.2 rfl)
   have hWl:W.length<=1099511627776:=by
    have:=h2 0
    rw[Zo] at this
    omega
   have hE:=Y4 (d:=d) (w:=w) (b:=o) (by omega) (by omega)
   have hC:=zdF hWl hW.2 (d:=d) (w:=w) (o:=o) (by omega) (by omega)
   rw[show zL [W]=[.sl 1 (ws W)] from rfl,show ((([.sl 1 (ws W)]:List PV).length:Nat):Int)=1 from rfl,show ((1:Int)==1)=true from rfl,show decide ((0:Int)<1)=true from rfl,show decide ((1:Nat)=1)=true from rfl]
   dsimp only[zr,zmQ,zmS,Zd,zc]
   rw[hE]
   dsimp only[ze,zg,zmS]
   rw[hC]
   rfl
  |x::y::r,_,_=>
   rw[W4,show ((((x::y::r).length:Nat):Int)==1)=false from beq_eq_false_iff_ne.2 (by simp only[zmU];omega)]
   rfl
theorem ziq {b:List Int} (hb:Bytes b) (d w o:Int):ev 9 [.pv (.sl 1 (bs b)),.pv (.agg [I d,I w,I o])] []=ok (Bo true):=by
 obtain ⟨ba,ea,ca⟩:=zdx hb.2 d w o
 rw[zf4,zdA]
 dsimp only[ze,zg,zmS,xf,vv,zu]
 rw[ea]
 dsimp only[ze,zg,zmS,xf]
 cases ba with
 |false=>rfl
 |true=>
  obtain ⟨hlb,hd,hw⟩:=ca rfl
  have hl:b.length<=1099511627776:=by omega
  have hlc:=rq hb.2 hl (d:=d) (w:=w) (by omega)
  dsimp only[vv,zu]
  rw[uU hb.2 hl (by omega) (by omega)]
  dsimp only[ze,zg,zmS,z4,zmR,zmQ,z6,wR]
  rw[uu hb.2 hl (by omega) (by omega)]
  dsimp only[ze]
  rw[YJ]
  dsimp only[zmS,zmR,zmQ,z6]
  rw[yE]
  dsimp only[zmS]
  rw[show (mE b d w != mE b d w)=false from by simp,zdS hb.2 hl (by omega) (by omega)]
  dsimp only[ze,zg,zmS,xf,zu]
  by_cases h0:mE b d w=0
  ·obtain ⟨l,p1,z1⟩:=mE0 h0
   have hcf:=(KS p1 z1).1
   have hmh:mH b d w=xV off (zA (xt l d w)):=by
    rw[(KS p1 z1).2.2]
    unfold Xx
    rw[if_pos z1]
   have hsum:ev 42 [.pv (.sl 1 (((bs (xj b d w)).take ((bs (xj b d w)).length:Int).toNat).drop 8))] []=ok (U (mH b d w)):=by
    rw[Int.toNat_natCast,List.take_length,Wn,hcf,zkW,hmh]
    have:=rq hb.2 hl (d:=d) (w:=w) (by omega)
    rw[hcf,qc] at this
    exact uI (wj _) (by rw[xc];omega)
   have hge:8<=(xj b d w).length:=by rw[hcf,qc];omega
   have hlen:((bs (xj b d w)).length:Int)=((xj b d w).length:Int):=by rw[zR]
   have fin:(cond (decide (((bs (xj b d w)).length:Int)≥8)) (cond (decide (8<=((bs (xj b d w)).length:Int))&&decide (((bs (xj b d w)).length:Int)<=((bs (xj b d w)).length:Int))) (zb (ev 42 [.pv (.sl 1 (((bs (xj b d w)).take ((bs (xj b d w)).length:Int).toNat).drop 8))] []) (fun a_34 h_35=>(za a_34).bind fun p_36=>(zj .u64 (.pv (U (mH b d w)))).bind fun n_37=>(zj .u64 (.pv p_36)).bind fun n_38=>some (.ret (.pv (PV.v (.bool (n_37==n_38)))),[])) (fun a_34 h_35=>some (.pan a_34,[]))) none) (some (.ret (.pv (PV.v (.bool false))),[])):Option (Out×zf))=ok (Bo true):=by
    rw[hsum,decide_eq_true (show ((bs (xj b d w)).length:Int)≥8 by omega),decide_eq_true (Int.le_refl ((bs (xj b d w)).length:Int))]
    dsimp only[zr,wR,zmS,ze,zg,zc]
    rw[beq_iff_eq.2 (rfl:mH b d w=mH b d w)]
   rw[h0,show ((0:Int) != 0)=false from rfl]
   dsimp only[zu]
   cases hi:YG b d w with
   |false=>
    dsimp only[zu]
    exact fin
   |true=>
    obtain ⟨-,hs⟩:=zap hb.2 hl (by omega) hi
    have hS:=uF (show b.length<=17592186044416 by omega) (show (xj b d w).length<=17592186044416 by omega)
    rw[wD hs.symm] at hS
    dsimp only[zc]
    rw[hS]
    dsimp only[ze,zg,zmS,xf,vv,zu]
    exact fin
  ·obtain ⟨-,hz⟩:=zfB h0
   have hi:YG b d w=false:=by
    cases hi:YG b d w with
    |false=>rfl
    |true=>exact absurd (zap hb.2 hl (by omega) hi).1 h0
   rw[wi h0,hz,hi]
   rfl
end Go.Proofs.YtjbjeeoifhegfaaGreatDoor.E
