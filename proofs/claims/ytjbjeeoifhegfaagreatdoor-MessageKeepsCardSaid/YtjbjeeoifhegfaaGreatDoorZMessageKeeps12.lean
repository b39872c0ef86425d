/- A part of the proof of the law MessageKeeps, as its statement says it: for every input; its conditions are the statement's own. -/
import Derived.Below
import Derived.ProofKit
import Derived.OpenShut
import Derived.Stop.Joined
import Derived.LaidMore
import Derived.Deep.Slices
import Derived.Test.YtjbjeeoifhegfaaGreatDoorRows
import Derived.Maps.OwnSet
import Derived.Maps.Keyed
import Derived.LaidSub
import Derived.Lib.LaidTab
import Derived.WalkKit
import Derived.LaidEql
import Derived.Stop.Asserts
import Derived.RowKitTokens
import Derived.Stop.LaidTwo
import Derived.LaidHandle
import Derived.Test.YtjbjeeoifhegfaaGreatDoorZMessageKeeps1
import Derived.Test.YtjbjeeoifhegfaaGreatDoorZMessageKeeps2
import Derived.Test.YtjbjeeoifhegfaaGreatDoorZMessageKeeps3
import Derived.Test.YtjbjeeoifhegfaaGreatDoorZMessageKeeps4
import Derived.Test.YtjbjeeoifhegfaaGreatDoorZMessageKeeps5
import Derived.Test.YtjbjeeoifhegfaaGreatDoorZMessageKeeps6
import Derived.Test.YtjbjeeoifhegfaaGreatDoorZMessageKeeps7
import Derived.Test.YtjbjeeoifhegfaaGreatDoorZMessageKeeps8
import Derived.Test.YtjbjeeoifhegfaaGreatDoorZMessageKeeps9
import Derived.Test.YtjbjeeoifhegfaaGreatDoorZMessageKeeps10
import Derived.Test.YtjbjeeoifhegfaaGreatDoorZMessageKeeps11
set_option linter.unusedVariables false
set_option linter.unusedSimpArgs false
open List renaming getElem?_eq_getElem->zmS
open Int renaming toNat_natCast->zmX
open Option renaming getD_some->zmY
open List renaming length_take->zm0
open List renaming length_drop->zm1
open List renaming getElem?_cons_zero->zm2
open List renaming getElem?_cons_succ->zm3
open Option renaming bind_some->zm4
open List renaming length_append->zm5
open List renaming length_cons->zm6
open Option.some renaming injEq->zm9
namespace Go.Proofs.YtjbjeeoifhegfaaGreatDoor.E
open Go.RowKit
def g0 (w:World):Nat->Option (Array Value):=fun b=>match w.heap[b]? with
 |some (.cells c _ _)=>some c
 |_=>none
def G0 (w:World):Gh:=⟨g0 w,fun _=>none,fun b=>if b<w.heap.size then some .imm else none⟩
theorem zhZ {w:World} {b:Nat} {c:Array Value} (h:g0 w b=some c):∃ T f,w.heap[b]? = some (.cells c T f):=by
 unfold g0 at h
 split at h
 ·rename_i c' T f hb;cases h;exact ⟨T,f,hb⟩
 ·cases h
theorem Zv {w:World} {a:Addr} {u:Value} (h:w.cell? a=some u):a.spot=none/\∃ c,g0 w a.block=some c/\c[a.off]? = some u:=by
 unfold World.cell? at h
 split at h
 ·rename_i c T f hb
  cases hs:a.spot with
  |some s=>simp[hs] at h
  |none=>simp only[hs,Option.isSome_none,Bool.false_eq_true,if_false] at h;exact ⟨rfl,c,by unfold g0;rw[hb],h⟩
 ·cases h
theorem zmj {P:Program} {E:Env} {w:World} (hmaps:∀ g l,find E.maps g=some l->∃ v c,g0 w g=some c/\c[0]? = some v/\MRel P E (G0 w) w g v) (hglob:∀ g p,find E.glob g=some p->ERel (G0 w) p 0 (.pointer (some ⟨g,0,none⟩)))
  (hsen:∀ g,find E.glob g=some (.sen g)->∃ c a ca ta,g0 w g=some c/\c[0]? = some (.iface E.sty (.pointer (some a)))/\w.heap[a.block]? = some (.cells ca ta (0,0)))
  (hdst:∀ g1 g2 c1 c2,find E.glob g1=some (.sen g1)->find E.glob g2=some (.sen g2)->g1≠g2->g0 w g1=some c1->g0 w g2=some c2->c1[0]?≠c2[0]?)
  (hfix:∀ g v,find E.fix g=some v->∃ c,g0 w g=some c/\c[0]? = some v):WOk P E (G0 w) w:=by
 refine ⟨fun b c hb=>?_,fun b h hb=>?_,hmaps,hglob,fun g hg=>by
  obtain ⟨c,a,ca,ta,h1,h2,h3⟩:=hsen g hg
  exact ⟨c,a,ca,ta,h1,h2,if_pos (Array.getElem?_eq_some_iff.1 h3).1,h3⟩,hdst,hfix⟩
 ·obtain ⟨T,f,h⟩:=zhZ hb
  exact ⟨if_pos (Array.getElem?_eq_some_iff.1 h).1,T,f,h⟩
 ·by_cases hl:b<w.heap.size
  ·exact hl
  ·rw[show (G0 w).ka b=none from if_neg hl] at hb;cases hb
theorem zfo {w w':World} {G':Gh} (f:Fr (G0 w) w G' w' X0):Below w.heap.size w w' :=
 ⟨f.os,f.tape,f.output,f.size,fun k hk=>(f.ka k .imm (if_pos hk) X0_old.1).2⟩
theorem zkR {P:Program} {E:Env} {yb:List (Nat×Func)} (hm:P.follows .mixedOrders=true) (hS:SysOk P E) (we:∀ f fn,find yb f=some fn->P.funcs[f]? = some fn/\fn.body.isSome=true/\(fn.name == "runtime.NumGoroutine")=false) (Xq:KC P E)
  {w:World} (hw:WOk P E (G0 w) w) {f:Nat} {ps:List PV} {vs:Array Value} (hsz:vs.size=ps.length) (hps:∀ (j:Nat) (p:PV) (x:Value),ps[j]? = some p->vs[j]? = some x->PRep (g0 w) p x)
  (hv:val E yb f (ps.map .pv) []=some (.ret (.pv (.v (.bool true))),[])):Calls P f vs w fun e w' => e = .returned (.bool true)/\Below w.heap.size w w':=by
 obtain ⟨k,hk⟩:=zl3 hv
 refine ((zhC hm hS we Xq k).1 f _ _ _ _ hk (G0 w) w vs ⟨hw,fun l cs hl=>(by simp at hl),fun l b hb=>(by cases hb),(by simpa using hsz),fun j q x hq hx=>?_⟩).mono fun e w' he=>?_
 ·rw[List.getElem?_map] at hq
  cases hj:ps[j]? with
  |none=>simp[hj] at hq
  |some p=>
   simp only[hj,Option.map_some,zm9] at hq
   subst hq
   exact .inl ⟨rfl,fun _=>hps j p x hj hx⟩
 ·obtain ⟨G',f',_,_,_,ho⟩:=he
  refine ⟨?_,zfo f'⟩
  cases e with
  |returned v=>
   have:PRep G'.g (.v (.bool true)) v:=ho
   rw[yZ this]
  |panicked c=>exact ho.elim
  |outgrown=>exact ho.elim
structure Enc (α:Type) where
 cells:α->List PV
 sz:Nat
 agg:Bool
 len:∀ a,(cells a).length=sz
 one:agg=false->sz=1
def Enc.pv {α:Type} (e:Enc α) (a:α):PV:=if e.agg then .agg (e.cells a) else (e.cells a).headD (.v .nilFunc)
def RdsAt {H α:Type} (enc:TypeId×Value->H) (P:Program) (w:World) (n:Nat) (t:TypeId) (e:Enc α) (S:α->DataW H->Prop):Prop :=
 ∀ cs x,DataW.trod enc P w 0 (fun _=>true) true n t cs=some x->∃ a,cs.length=e.sz/\(∀ (j:Nat) (q:PV) (u:Value),(e.cells a)[j]? = some q->cs[j]? = some u->q.isCell=true/\PRep (g0 w) q u)/\S a x.1
def Qe (k:IntKind):Enc Int:=⟨fun n=>[.v (.int k n)],1,false,fun _=>rfl,fun _=>rfl⟩
def Jr:Enc Bool:=⟨fun b=>[.v (.bool b)],1,false,fun _=>rfl,fun _=>rfl⟩
def Xi {α:Type} (e:Enc α):Enc (List α):=⟨fun l=>[.sl e.sz (l.map e.pv)],1,false,fun _=>rfl,fun _=>rfl⟩
def DI {H:Type} (k:IntKind) (n:Int) (x:DataW H):Prop:=x=.lit (.int k n)/\(Lit.int k n).wf=true
def DB {H:Type} (b:Bool) (x:DataW H):Prop:=x=.lit (.bool b)
inductive DAll {H α:Type} (S:α->DataW H->Prop):List α->List (DataW H)->Prop
 |nil:DAll S [] []
 |cons {a:α} {x:DataW H} {us:List α} {xs:List (DataW H)}:S a x->DAll S us xs->DAll S (a::us) (x::xs)
def DS {H α:Type} (S:α->DataW H->Prop) (xs:List α) (x:DataW H):Prop:=xs.length<=9223372036854775807/\((xs=[]/\x=.nil)∨∃ es rest,x=.slice es rest/\DAll S xs es)
theorem DAll.mem {H α:Type} {S:α->DataW H->Prop} {us:List α} {xs:List (DataW H)} (h:DAll S us xs) {a:α} (ha:a∈us):∃ x,x∈xs/\S a x:=by
 induction h with
 |nil=>cases ha
 |cons h0 _ ih=>
  rcases List.mem_cons.1 ha with rfl|ha
  ·exact ⟨_,List.mem_cons_self,h0⟩
  ·obtain ⟨x,hx,hs⟩:=ih ha
   exact ⟨x,List.mem_cons_of_mem _ hx,hs⟩
theorem DAll.length {H α:Type} {S:α->DataW H->Prop} {us:List α} {xs:List (DataW H)} (h:DAll S us xs):us.length=xs.length:=by
 induction h with
 |nil=>rfl
 |cons _ _ ih=>simp[ih]
theorem DS.mem {H α:Type} {S:α->DataW H->Prop} {xs:List α} {x:DataW H} (h:DS S xs x) {a:α} (ha:a∈xs):∃ y,S a y:=by
 rcases h.2 with ⟨rfl,_⟩|⟨es,rest,_,h⟩
 ·cases ha
 ·obtain ⟨y,_,hs⟩:=h.mem ha
  exact ⟨y,hs⟩
theorem DAll.of_get {H α:Type} {S:α->DataW H->Prop}:∀ {us:List α} {xs:List (DataW H)},us.length=xs.length->(∀ (i:Nat) (a:α) (x:DataW H),us[i]? = some a->xs[i]? = some x->S a x)->DAll S us xs
 |[],[],_,_=>.nil
 |[],_::_,h,_=>by simp at h
 |_::_,[],h,_=>by simp at h
 |a::us,x::xs,h,hg=>.cons (hg 0 a x rfl rfl) (DAll.of_get (by simpa using h) fun i b y hb hy=>hg (i+1) b y (by simpa using hb) (by simpa using hy))
section
variable {H α β:Type} {enc:TypeId×Value->H} {P:Program} {w:World} {n:Nat} {t e:TypeId}
theorem Enc.pv_cells (d:Enc α) (a:α) (hc:∀ q∈d.cells a,q.isCell=true):(d.pv a).cells=d.cells a:=by
 unfold Enc.pv
 cases ha:d.agg with
 |true=>rfl
 |false=>
  simp only[Bool.false_eq_true,if_false]
  have h1:=d.one ha
  have h2:=d.len a
  match hcs:d.cells a with
  |[]=>rw[hcs] at h2;simp at h2;omega
  |[q]=>
   have:=hc q (by rw[hcs];exact List.mem_cons_self)
   simp only[List.headD_cons]
   cases q<;>simp_all [PV.cells,PV.isCell]
  |q::r::l=>rw[hcs] at h2;simp at h2;omega
theorem RdsAt.zero (t:TypeId) (d:Enc α) (S:α->DataW H->Prop):RdsAt enc P w 0 t d S:=by
 intro cs x h
 simp[DataW.trod] at h
theorem RdsAt.int {k:IntKind} (ht:P.underlying t=some (.int k)):RdsAt enc P w n t (Qe k) (DI k):=by
 intro cs x h
 obtain ⟨m,rfl,rfl,hw⟩:=DataW.trod_int ht h
 refine ⟨m,rfl,fun j q u hq hu=>?_,rfl,hw⟩
 cases j with
 |zero=>simp[Qe] at hq hu;subst hq;subst hu;exact ⟨rfl,.v rfl⟩
 |succ j=>simp[Qe] at hq
theorem RdsAt.bool (ht:P.underlying t=some .bool):RdsAt enc P w n t Jr DB:=by
 intro cs x h
 obtain ⟨b,rfl,rfl⟩:=DataW.trod_bool ht h
 refine ⟨b,rfl,fun j q u hq hu=>?_,rfl⟩
 cases j with
 |zero=>simp[Jr] at hq hu;subst hq;subst hu;exact ⟨rfl,.v rfl⟩
 |succ j=>simp[Jr] at hq
theorem zaR {f:α->Option β}:∀ {l:List α} {r:List β},l.mapM f=some r->r.length=l.length/\∀ (i:Nat) (x:α),l[i]? = some x->f x=r[i]?
 |[],r,h=>by simp at h;subst h;simp
 |a::l,r,h=>by
  simp only[List.mapM_cons,Option.bind_eq_bind,Option.bind_eq_some_iff,Option.pure_def,zm9] at h
  obtain ⟨b,hb,r',hr,rfl⟩:=h
  obtain ⟨h1,h2⟩:=zaR hr
  refine ⟨by simp[h1],fun i x hx=>?_⟩
  cases i with
  |zero=>simp at hx;subst hx;simpa using hb
  |succ i=>simp at hx;simpa using h2 i x hx
theorem zgy {w:World} {a:Addr} {n:Nat} {cs:List Value} (h:w.cells? 0 a n=some cs):cs.length=n/\∀ (i:Nat) (u:Value),cs[i]? = some u->w.cell? (a.add i)=some u:=by
 simp only[World.cells?,Nat.zero_le,if_true] at h
 obtain ⟨h1,h2⟩:=zaR h
 refine ⟨by simpa using h1,fun i u hu=>?_⟩
 have hi:i<n:=by have:=(List.getElem?_eq_some_iff.1 hu).1;simp at h1;omega
 rw[h2 i i (by simp[hi]),hu]
theorem jT {p:Nat->α->Prop}:∀ (m:Nat),(∀ i,i<m->∃ a,p i a)->∃ l:List α,l.length=m/\∀ (i:Nat) (a:α),l[i]? = some a->p i a
 |0,_=>⟨[],rfl,fun i a h=>by simp at h⟩
 |m+1,h=>by
  obtain ⟨l,hl,hp⟩:=jT m (fun i hi=>h i (by omega))
  obtain ⟨a,ha⟩:=h m (by omega)
  refine ⟨l++[a],by simp[hl],fun i b hb=>?_⟩
  rcases Nat.lt_or_ge i l.length with hi|hi
  ·rw[List.getElem?_append_left hi] at hb
   exact hp i b hb
  ·have:i=l.length:=by
    have:=(List.getElem?_eq_some_iff.1 hb).1
    simp at this
    omega
   subst this
   simp at hb
   subst hb
   rw[hl]
   exact ha
theorem RdsAt.slice {d:Enc α} {S:α->DataW H->Prop} (ht:P.underlying t=some (.slice e)) (hc:P.cellsOf e=d.sz) (h0:0<d.sz) (h:RdsAt enc P w n e d S):RdsAt enc P w (n+1) t (Xi d) (DS S):=by
 intro cs x hx
 rcases DataW.trod_slice ht hx with ⟨rfl,rfl⟩|⟨a,len,cap,elems,rest,m,hm,rfl,rfl,_,hl,hcap,hlen,hel,_⟩
 ·refine ⟨[],rfl,fun j q u hq hu=>?_,by simp,.inl ⟨rfl,rfl⟩⟩
  cases j with
  |zero=>simp[Xi] at hq hu;subst hq;subst hu;exact ⟨rfl,.sl0⟩
  |succ j=>simp[Xi] at hq
 ·obtain rfl:n=m:=by omega
  have key:∀ i,i<len->∃ p:α,(∀ (j:Nat),j<d.sz->∃ q u,(d.cells p)[j]? = some q/\w.cell? (a.add (i*d.sz+j))=some u/\q.isCell=true/\PRep (g0 w) q u)/\∃ y,elems[i]? = some y/\S p y.1:=by
   intro i hi
   have h1:=hel i hi
   rw[zmS (by omega:i<elems.length)] at h1
   obtain ⟨c,hc1,hc2⟩:=Option.bind_eq_some_iff.mp h1
   obtain ⟨p,hp1,hp2,hs⟩:=h c _ hc2
   obtain ⟨k1,k2⟩:=zgy hc1
   refine ⟨p,fun j hj=>?_,_,zmS (by omega),hs⟩
   have hjc:j<c.length:=by omega
   have hjd:j<(d.cells p).length:=by rw[d.len];exact hj
   obtain ⟨g1,g2⟩:=hp2 j _ _ (zmS hjd) (zmS hjc)
   refine ⟨_,_,zmS hjd,?_,g1,g2⟩
   have:=k2 j _ (zmS hjc)
   rwa [Deep.add_add,hc] at this
  obtain ⟨ps,hpl,hps⟩:=jT len key
  have hcell:∀ p∈ps,∀ q∈d.cells p,q.isCell=true:=fun p hp q hq=>by
   obtain ⟨i,hi,rfl⟩:=List.getElem_of_mem hp
   obtain ⟨j,hj,rfl⟩:=List.getElem_of_mem hq
   rw[d.len] at hj
   obtain ⟨q',u,e1,e2,e3,e4⟩:=(hps i _ (zmS hi)).1 j hj
   rw[zmS (by rw[d.len];exact hj)] at e1
   cases e1
   exact e3
  have hpv:∀ p∈ps,(d.pv p).cells=d.cells p:=fun p hp=>d.pv_cells p (hcell p hp)
  refine ⟨ps,rfl,fun j q u hq hu=>?_,by rw[hpl];unfold maxLen at hcap;omega,.inr ⟨_,_,rfl,?_⟩⟩
  ·cases j with
   |succ j=>simp[Xi] at hq
   |zero=>
    simp[Xi] at hq hu
    subst hq
    subst hu
    refine ⟨rfl,?_⟩
    match hlen0:len with
    |0=>
     have:ps=[]:=List.length_eq_zero_iff.1 hpl
     subst this
     exact .sl0
    |m+1=>
    have hl0:0<ps.length:=by omega
    obtain ⟨q0,u0,_,e2,_,_⟩:=(hps 0 _ (zmS hl0)).1 0 h0
    rw[show 0*d.sz+0=0 by omega,show a.add 0=a by simp[Addr.add]] at e2
    obtain ⟨hs,c,hg,_⟩:=Zv e2
    obtain ⟨ab,ao,as0⟩:=a
    simp only at hs hg
    subst hs
    have hadd:∀ k,(⟨ab,ao,none⟩:Addr).add k=⟨ab,ao+k,none⟩:=fun k=>by
     unfold Addr.add
     split
     ·rename_i hk;subst hk;rfl
     ·rfl
    have hcells:∀ (i:Nat) (p:α),ps[i]? = some p->∀ (j:Nat),j<d.sz->∃ q u,(d.cells p)[j]? = some q/\c[ao+i*d.sz+j]? = some u/\q.isCell=true/\PRep (g0 w) q u:=fun i p hp j hj=>by
     obtain ⟨q,u,e1,e2,e3,e4⟩:=(hps i p hp).1 j hj
     rw[hadd] at e2
     obtain ⟨_,c',hg',hcu⟩:=Zv e2
     simp only at hg' hcu
     rw[hg] at hg'
     cases hg'
     exact ⟨q,u,e1,by rw[Nat.add_assoc];exact hcu,e3,e4⟩
    have hrep:∀ (i:Nat) (x:PV) (j:Nat) (q:PV) (u:Value),(ps.map d.pv)[i]? = some x->x.cells[j]? = some q->c[ao+i*d.sz+j]? = some u->q.isCell=true/\PRep (g0 w) q u:=fun i x j q u hx hq hu=>by
     rw[List.getElem?_map] at hx
     cases hp:ps[i]? with
     |none=>simp[hp] at hx
     |some p=>
      simp only[hp,Option.map_some,zm9] at hx
      subst hx
      rw[hpv p (List.mem_of_getElem? hp)] at hq
      have hj:j<d.sz:=by rw[←d.len p];exact (List.getElem?_eq_some_iff.1 hq).1
      obtain ⟨q',u',e1,e2,e3,e4⟩:=hcells i p hp j hj
      rw[hq] at e1
      rw[hu] at e2
      cases e1;cases e2
      exact ⟨e3,e4⟩
    have hlast:ao+ps.length*d.sz<=c.size:=by
     obtain ⟨q,u,_,e2,_⟩:=hcells (ps.length-1) _ (zmS (by omega)) (d.sz-1) (by omega)
     have:=(Array.getElem?_eq_some_iff.1 e2).1
     have e:ps.length*d.sz=(ps.length-1)*d.sz+d.sz:=by
      rw[←Nat.succ_mul]
      congr 1
      omega
     omega
    have hfin:=PRep.sl (g:=g0 w) (sz:=d.sz) (b:=ab) (o:=ao) (cap:=cap) (xs:=ps.map d.pv) (c:=c) hg (by simp[hpl];omega) (by simpa using hlast) (fun x hx=>by
      obtain ⟨p,hp,rfl⟩:=List.mem_map.1 hx
      rw[hpv p hp,d.len]) (fun i x j q u hx hq hu=>(hrep i x j q u hx hq hu).1) (fun i x j q u hx hq hu=>(hrep i x j q u hx hq hu).2)
    rw[List.length_map,hpl] at hfin
    exact hfin
  ·refine DAll.of_get (by simp[hpl,hlen]) fun i p y hp hy=>?_
   obtain ⟨_,z,hz,hs⟩:=hps i p hp
   rw[List.getElem?_map,hz] at hy
   simp at hy
   subst hy
   exact hs
theorem qi {d:Enc α} {S:α->DataW H->Prop} (h:∀ n,RdsAt enc P w n t d S) {v:Value} {x:DataW H} {ps:List MemPlace} (hag:d.agg=false->v.cells=#[v]) (hag':d.agg=true->∃ vs,v=.agg vs) (hv:DataW.Trod enc P w 0 (fun _=>true) true t v x ps):∃ a,PRep (g0 w) (d.pv a) v/\S a x:=by
 obtain ⟨fuel,hf⟩:=hv
 obtain ⟨a,h1,h2,h3⟩:=h fuel _ _ hf
 refine ⟨a,?_,h3⟩
 unfold Enc.pv
 cases ha:d.agg with
 |true=>
  obtain ⟨vs,rfl⟩:=hag' ha
  simp only[if_true]
  have e:(Value.agg vs).cells=vs:=rfl
  rw[e] at h1 h2
  refine .agg (by rw[d.len];simpa using h1) (fun q hq=>?_) (fun j q u hq hu=>(h2 j q u hq (by simpa using hu)).2)
  obtain ⟨j,hj,rfl⟩:=List.getElem_of_mem hq
  have hj':j<vs.size:=by rw[d.len] at hj;simp at h1;omega
  exact (h2 j _ vs[j] (zmS hj) (by simp[hj'])).1
 |false=>
  simp only[Bool.false_eq_true,if_false]
  have hl:=d.len a
  rw[d.one ha] at hl
  obtain ⟨q,hq⟩:=List.length_eq_one_iff.1 hl
  rw[hq]
  simp only[List.headD_cons]
  rw[hag ha] at h2
  exact (h2 0 q v (by rw[hq];rfl) rfl).2
end
open Go.RowKit Go.WideMaps Go.WideElems
theorem hm:Tryz.prog.follows .mixedOrders=true:=by kernel_rfl
theorem hS:SysOk Tryz.prog env:=zlf (by kernel_rfl)
def uH (f:Nat) (fn:Func):Prop:=Tryz.prog.funcs[f]? = some fn/\fn.body.isSome=true/\(fn.name == "runtime.NumGoroutine")=false
def KA:List (Nat×Func)->Prop
 |[]=>True
 |p::l=>uH p.1 p.2/\KA l
theorem jY:∀ {l:List (Nat×Func)} {f:Nat} {fn:Func},KA l->find l f=some fn->uH f fn
 |[],_,_,_,h=>by cases h
 |(k,a)::l,f,fn,hl,h=>by
  unfold find at h
  split at h
  ·rename_i hk
   cases h
   subst hk
   exact hl.1
  ·exact jY hl.2 h
set_option maxRecDepth 100000 in
theorem zhL:KA yb:=by repeat' first|exact trivial|refine ⟨?_,?_⟩|kernel_rfl
theorem we:∀ f fn,find yb f=some fn->Tryz.prog.funcs[f]? = some fn/\fn.body.isSome=true/\(fn.name == "runtime.NumGoroutine")=false:=fun f fn h=>jY zhL h
def opsOf:Code->List Oper
 |.region _ ops _=>ops.toList
 |_=>[]
def zie:Code->Nat
 |.region id _ _=>id
 |_=>0
noncomputable def vm:Code:=Tryz.f275.body.getD .skip
noncomputable def cl0:Oper:=(opsOf (sub vm [1,0,0]))[0]?.getD { dst:=none,op:=.move (.tmp 0),type:=0,pos:= "",after:=#[],guard:=none }
noncomputable def cl1:Oper:=(opsOf (sub vm [1,0,0]))[1]?.getD { dst:=none,op:=.move (.tmp 0),type:=0,pos:= "",after:=#[],guard:=none }
theorem zgE (xs:List PV) (st1:St) (h:zP env Zc 8 275 1 0 (sub vm [0]) ⟨fun t=>(([.pv (.sl 1 xs)]:List AV)[t]?).getD .dead,[]⟩=some (.normal,st1)):st1.sl 0=.pv (.sl 1 xs):=by
 have:(zP env Zc 8 275 1 0 (sub vm [0]) ⟨fun t=>(([.pv (.sl 1 xs)]:List AV)[t]?).getD .dead,[]⟩).map (fun r=>r.2.sl 0)=some (.pv (.sl 1 xs)):=by kernel_rfl
 rw[h] at this
 simpa using this
theorem zgF:Xd env 8 275 Tryz.f275.results.toList (sub vm [0]) (.seq (sub vm [1,0,1,0,0]) .ret) 1 []=some (.ret (.slu 5 1 []),[]):=by kernel_rfl
theorem zgG (xs:List PV):Xd env 8 275 Tryz.f275.results.toList (sub vm [0]) (.seq (sub vm [1,1,0]) .ret) 1 xs=cond (ye (([]:List PV).length+xs.length) 1) (some (.ret (.slu 5 1 xs),[])) none:=by kernel_rfl
theorem zgJ {args:List AV} {H:za} {out:Out} {H':za} (hc:clone env (5,1,1) args H=some (out,H')) {G:Gh} {w:World} {vs:Array Value} (pre:PreC Tryz.prog env G w args vs H) :
  Calls Tryz.prog 275 vs w fun e w' => wV Tryz.prog env G w H' out e w' :=
 zgK hm hS Tryz.func275 (T:=22) (e:=5) (id1:=zie (sub vm [1,0,0])) (o0:=cl0) (o1:=cl1) (R0:=sub vm [0]) (R2:=sub vm [1,0,1,0,0]) (R3:=sub vm [1,1,0]) Tryz.underlying22 (by kernel_rfl) (by kernel_rfl) (by kernel_rfl) (by kernel_rfl) (by kernel_rfl) (by kernel_rfl) (by kernel_rfl) (of_decide_eq_true (by kernel_rfl)) zgE zgF (fun xs h=>(zgG xs).trans (by rw[show ([]:List PV).length+xs.length=xs.length from Nat.zero_add _,h];rfl)) hc (by decide) pre
open Go.RowKit Go.Extern.Stop Go.Stop Go.Extern
theorem Xk {P:Program} {E:Env} {G:Gh} {w w':World} {p:PV} {v:Value} (wo:WOk P E G w) (hb:Below w.heap.size w w') (hp:PRep G.g p v):wV P E G w [] (.ret (.pv p)) (.returned v) w':=by
 have f:Fr G w G w' X0:=⟨fun _ _ h=>h,fun _ _ h=>h,fun b k hk _=>⟨hk,hb.block b (wo.dom b k hk)⟩,X0_old,hb.os,hb.tape,hb.output,hb.size⟩
 refine ⟨G,f,rfl,wo.fr f (fun b c hc=>?_) (fun b k hk=>Nat.lt_of_lt_of_le (wo.dom b k hk) hb.size),fun l cs hl=>(by simp at hl),hp⟩
 obtain ⟨k1,T,q,k2⟩:=wo.imm b c hc
 exact ⟨k1,T,q,(hb.block b (wo.dom b _ k1)).trans k2⟩
theorem zkh (t:Addr) (w:World):(ReflectliteValue.unpack (.iface 154 (.pointer (some t)))).run Tryz.prog w
  = .ok (.agg #[.pointer (some ⟨6,154,none⟩),.pointer (some ⟨w.heap.size,0,none⟩),.int .u64 150]) (w.alloc (.cells #[.pointer (some t)] 154)):=by kernel_rfl
theorem zj9 (a:Addr) (w:World):(ReflectliteValue.methodAny (ReflectliteValue.valueError "reflectlite.Value.Type" 0) (fun t _ _ _=>ReflectliteType.toType t) #[.agg #[.pointer (some ⟨6,154,none⟩),.pointer (some a),.int .u64 150]]).run Tryz.prog w
  = .ok (.iface 265 (.agg #[.pointer (some ⟨6,154,none⟩)])) w:=by kernel_rfl
theorem zjQ (h:Value) (w:World):(Go.method 466 265 (.agg #[h]) "Kind").run Tryz.prog w=.ok (313,h) w:=by kernel_rfl
theorem zjJ (w:World):((ReflectliteType.abiMethod fun t=>(fun a:Nat=>Value.int IntKind.u8 (a:Int)) <$> Rtype.kind t) #[.pointer (some ⟨6,154,none⟩)]).run Tryz.prog w=.ok (.int .u8 22) w:=by kernel_rfl
theorem zjI (w:World):((ReflectliteType.abiMethod fun t=>(fun a:Nat=>Value.int IntKind.u8 (a:Int)) <$> Rtype.kind t) #[.pointer (some ⟨6,152,none⟩)]).run Tryz.prog w=.ok (.int .u8 25) w:=by kernel_rfl
theorem rlm (z:Sem Value) (f:TypeId->Addr->Nat->Nat->Sem Value) (v:Value) :
  ReflectliteValue.method z f #[v]=(do match ←ReflectliteValue.parts v with|none=>z|some (t,a,fl)=>f t a fl (fl%32)):=rfl
theorem zbs (a:Addr) (w:World):(ReflectliteValue.parts (.agg #[.pointer (some ⟨6,154,none⟩),.pointer (some a),.int .u64 150])).run Tryz.prog w=.ok (some (154,a,150)) w:=by kernel_rfl
theorem zjH (a p:Addr) (W:World) (ha:W.cell? a=some (.pointer (some p))) :
  (ReflectliteValue.method (ReflectliteValue.valueError "reflectlite.Value.IsNil" 0) ReflectliteValue.isNil #[.agg #[.pointer (some ⟨6,154,none⟩),.pointer (some a),.int .u64 150]]).run Tryz.prog W=.ok (.bool false) W:=by
 rw[rlm]
 simp only[Sem.run_bind,zbs,Result.andThen]
 simp[ReflectliteValue.isNil,loadVar,isAgg,underlying,Tryz.underlying154,ha,Result.andThen]
theorem zjO (h:Value) (w:World):(Go.method 466 265 (.agg #[h]) "Elem").run Tryz.prog w=.ok (324,.agg #[h]) w:=by kernel_rfl
theorem zjP (h:Value) (w:World):(Go.method 466 265 (.agg #[h]) "Implements").run Tryz.prog w=.ok (325,.agg #[h]) w:=by kernel_rfl
theorem zjN (h:Value) (w:World):(Go.method 466 265 (.agg #[h]) "AssignableTo").run Tryz.prog w=.ok (322,.agg #[h]) w:=by kernel_rfl
theorem zjD (w:World):(ReflectliteType.method ReflectliteType.elem #[.agg #[.pointer (some ⟨6,154,none⟩)]]).run Tryz.prog w=.ok (.iface 265 (.agg #[.pointer (some ⟨6,152,none⟩)])) w:=by kernel_rfl
theorem zjG (w:World):(ReflectliteType.relation "Implements" ReflectliteType.implements_ #[.agg #[.pointer (some ⟨6,152,none⟩)],.iface 265 (.agg #[.pointer (some ⟨6,88,none⟩)])]).run Tryz.prog w=.ok (.bool true) w:=by kernel_rfl
theorem zka (v:Value) (w:World):(ReflectliteType.typeOf #[.iface 152 v]).run Tryz.prog w=.ok (.iface 265 (.agg #[.pointer (some ⟨6,152,none⟩)])) w:=by kernel_rfl
theorem zjB (w:World):(ReflectliteType.relation "AssignableTo" ReflectliteType.assignableTo #[.agg #[.pointer (some ⟨6,152,none⟩)],.iface 265 (.agg #[.pointer (some ⟨6,152,none⟩)])]).run Tryz.prog w=.ok (.bool true) w:=by kernel_rfl
theorem zkg (n:Int) (w:World):(ReflectliteValue.unpack (.iface 152 (.agg #[.int .i64 n]))).run Tryz.prog w
  = .ok (.agg #[.pointer (some ⟨6,152,none⟩),.pointer (some ⟨w.heap.size,0,none⟩),.int .u64 153]) (w.alloc (.cells #[.int .i64 n] 152)):=by kernel_rfl
theorem zjE (w:World):(Rtype.elem? 154).run Tryz.prog w=.ok (some 152) w:=by kernel_rfl
theorem zjR (p:Addr) (w:World):(ReflectliteValue.mk 152 p ReflectliteValue.flagAddr).run Tryz.prog w=.ok (.agg #[.pointer (some ⟨6,152,none⟩),.pointer (some p),.int .u64 409]) w:=by kernel_rfl
theorem zjF (a p:Addr) (W:World) (ha:W.cell? a=some (.pointer (some p))) :
  (ReflectliteValue.method (ReflectliteValue.valueError "reflectlite.Value.Elem" 0) ReflectliteValue.elem #[.agg #[.pointer (some ⟨6,154,none⟩),.pointer (some a),.int .u64 150]]).run Tryz.prog W
   = .ok (.agg #[.pointer (some ⟨6,152,none⟩),.pointer (some p),.int .u64 409]) W:=by
 rw[rlm]
 simp only[Sem.run_bind,zbs,Result.andThen]
 simp[ReflectliteValue.elem,loadVar,isAgg,underlying,Tryz.underlying154,ha,Result.andThen,zjE,zjR]
theorem rls (v x:Value):ReflectliteValue.set #[v,x]=(do
  let (some (dst,a,fl),some (src,b,_)):=(←ReflectliteValue.parts v,←ReflectliteValue.parts x)
   |unsupported (.noEntry "extern/(internal/reflectlite.Value).Set.zeroValue")
  if fl/ReflectliteValue.flagAddr%2==0 then unsupported (.noEntry "extern/(internal/reflectlite.Value).Set.unaddressable")
  let val ←loadVar src b
  if ←Rtype.directlyAssignable dst src then storeVar dst a val
  else if ←Rtype.implements dst src then
   if (←Rtype.kind src)==20 then
    match val with
    |.nilIface=>unsupported (.noEntry "extern/reflectlite: a nil value of one interface type handed on as a value of another")
    |_=>storeVar dst a val
   else storeVar dst a (.iface src val)
  else panicString ("reflectlite.Set: value of type " ++ (←Rtype.spelt src)++" is not assignable to type " ++ (←Rtype.spelt dst))
  pure (.tuple #[])):=rfl
theorem zj1 (a:Addr) (w:World):(ReflectliteValue.parts (.agg #[.pointer (some ⟨6,152,none⟩),.pointer (some a),.int .u64 409])).run Tryz.prog w=.ok (some (152,a,409)) w:=by kernel_rfl
theorem zj0 (a:Addr) (w:World):(ReflectliteValue.parts (.agg #[.pointer (some ⟨6,152,none⟩),.pointer (some a),.int .u64 153])).run Tryz.prog w=.ok (some (152,a,153)) w:=by kernel_rfl
theorem zjC (w:World):(Rtype.directlyAssignable 152 152).run Tryz.prog w=.ok true w:=by kernel_rfl
open Go.RowKit Go.Extern.Stop Go.Stop Go.Extern
theorem zj4 (ta b:Addr) (n m:Int) (W:World) (hbs:b.spot=none) (hts:ta.spot=none) (hb:W.heap[b.block]? = some (.cells #[.int .i64 n] 152 (0,0))) (hbo:b.off=0) (ht:W.cell? ta=some (.int .i64 m)) (hf:W.frozen? ta=false) :
  (ReflectliteValue.set #[.agg #[.pointer (some ⟨6,152,none⟩),.pointer (some ta),.int .u64 409],.agg #[.pointer (some ⟨6,152,none⟩),.pointer (some b),.int .u64 153]]).run Tryz.prog W
   = .ok (.tuple #[]) (W.setCell ta (.int .i64 n)):=by
 obtain ⟨bb,bo,bs⟩:=b
 simp only at hbs hbo hb
 subst hbs hbo
 have hl:(loadVar 152 ⟨bb,0,none⟩).run Tryz.prog W=.ok (.agg #[.int .i64 n]) W:=by
  have h1:=run_loadCells (P:=Tryz.prog) (w:=W) ⟨bb,0,none⟩ 1 (fun _=>.int .i64 n) (fun j hj=>by
   obtain rfl:j=0:=by omega
   simp[World.cell?,hb,Addr.add])
  have hsz:(sizeOf 152).run Tryz.prog W=.ok 1 W:=by kernel_rfl
  have hag:(isAgg 152).run Tryz.prog W=.ok true W:=by kernel_rfl
  simp only[loadVar,Sem.run_bind,hag,Result.andThen,if_true,hsz]
  rw[h1]
  rfl
 rw[rls]
 simp only[Sem.run_bind,zj1,zj0,Result.andThen]
 have hsz:(sizeOf 152).run Tryz.prog W=.ok 1 W:=by kernel_rfl
 simp[ReflectliteValue.flagAddr,hl,Result.andThen,zjC,storeVar,hsz,Value.cells,storeCells,Addr.add]
 rw[run_store Tryz.prog W ta _ _ (by rfl)]
 simp[ht,hf]
open Go.RowKit Go.Extern.Stop Go.Stop Go.Extern
def Y4 (n:Int) (t:Addr) (w:World):World:=((((w.alloc (.cells #[.pointer (some t)] 154)).alloc (.cells #[.pointer (some ⟨6,154,none⟩),.pointer (some ⟨w.heap.size,0,none⟩),.int .u64 150] 216)).alloc (.cells #[.pointer (some ⟨6,154,none⟩),.pointer (some ⟨w.heap.size,0,none⟩),.int .u64 150] 216)).alloc (.cells #[.int .i64 n] 152)).setCell t (.int .i64 n)
theorem zfm (t:Value) (w:World):Calls Tryz.prog 106 #[.nilIface,t] w fun e w' => e = .returned (.bool false)/\w' = w:=by
 go_enter Tryz.func106,Tryz.ntmps106
 go_wp2
 go_ret
 exact ⟨rfl,rfl⟩
set_option maxHeartbeats 4000000 in
theorem zfl (n m:Int) (t:Addr) (w:World) (hts:t.spot=none) (hg:w.cell? ⟨3,0,none⟩=some (.iface 265 (.agg #[.pointer (some ⟨6,88,none⟩)]))) (ht0:w.cell? t=some (.int .i64 m)) (hf0:w.frozen? t=false) :
  Calls Tryz.prog 106 #[.iface 152 (.agg #[.int .i64 n]),.iface 154 (.pointer (some t))] w fun ev w' => ev=.returned (.bool true)/\w' = Y4 n t w:=by
 have h6:=@run_callFunc_extern Tryz.prog 168 _ (fun args=>ReflectliteValue.unpack (args.getD 0 (.tuple #[]))) Tryz.func168 (by kernel_rfl) (by kernel_rfl) (by kernel_rfl) (by kernel_rfl)
 have h7:=@run_callFunc_extern Tryz.prog 169 _ (ReflectliteValue.methodAny (ReflectliteValue.valueError "reflectlite.Value.Type" 0) (fun t _ _ _=>ReflectliteType.toType t)) Tryz.func169 (by kernel_rfl) (by kernel_rfl) (by kernel_rfl) (by kernel_rfl)
 have h8:=@run_callFunc_extern Tryz.prog 170 _ (ReflectliteValue.method (ReflectliteValue.valueError "reflectlite.Value.IsNil" 0) ReflectliteValue.isNil) Tryz.func170 (by kernel_rfl) (by kernel_rfl) (by kernel_rfl) (by kernel_rfl)
 have h27:=@run_callFunc_extern Tryz.prog 313 _ (ReflectliteType.abiMethod fun t=>do pure (.int .u8 (←Rtype.kind t))) Tryz.func313 (by kernel_rfl) (by kernel_rfl) (by kernel_rfl) (by kernel_rfl)
 have h37:=@run_callFunc_extern Tryz.prog 324 _ (ReflectliteType.method ReflectliteType.elem) Tryz.func324 (by kernel_rfl) (by kernel_rfl) (by kernel_rfl) (by kernel_rfl)
 have h38:=@run_callFunc_extern Tryz.prog 325 _ (ReflectliteType.relation "Implements" ReflectliteType.implements_) Tryz.func325 (by kernel_rfl) (by kernel_rfl) (by kernel_rfl) (by kernel_rfl)
 have h10:=@run_callFunc_extern Tryz.prog 226 _ ReflectliteType.typeOf Tryz.func226 (by kernel_rfl) (by kernel_rfl) (by kernel_rfl) (by kernel_rfl)
 have h35:=@run_callFunc_extern Tryz.prog 322 _ (ReflectliteType.relation "AssignableTo" ReflectliteType.assignableTo) Tryz.func322 (by kernel_rfl) (by kernel_rfl) (by kernel_rfl) (by kernel_rfl)
 have h11:=@run_callFunc_extern Tryz.prog 229 _ (ReflectliteValue.method (ReflectliteValue.valueError "reflectlite.Value.Elem" 0) ReflectliteValue.elem) Tryz.func229 (by kernel_rfl) (by kernel_rfl) (by kernel_rfl) (by kernel_rfl)
 have h12:=@run_callFunc_extern Tryz.prog 230 _ ReflectliteValue.set Tryz.func230 (by kernel_rfl) (by kernel_rfl) (by kernel_rfl) (by kernel_rfl)
 have tO:=zka
 have mA:=zjN
 have a25:=zjB
 have v25:=zkg
 have f6:=zkh
 have f7:=zj9
 have mK:=zjQ
 have mE:=zjO
 have mI:=zjP
 have k27:=zjJ
 have k25:=zjI
 have e27:=zjD
 have i25:=zjG
 have n8:=zjH ⟨w.heap.size,0,none⟩ t ((w.alloc (.cells #[.pointer (some t)] 154)).alloc (.cells #[.pointer (some ⟨6,154,none⟩),.pointer (some ⟨w.heap.size,0,none⟩),.int .u64 150] 216)) (by simp)
 have hlt:3<w.heap.size:=by
  rcases Nat.lt_or_ge 3 w.heap.size with h|h
  ·exact h
  ·simp[World.cell?,Array.getElem?_eq_none h] at hg
 have hg2:((w.alloc (.cells #[.pointer (some t)] 154)).alloc (.cells #[.pointer (some ⟨6,154,none⟩),.pointer (some ⟨w.heap.size,0,none⟩),.int .u64 150] 216)).cell? ⟨3,0,none⟩=some (.iface 265 (.agg #[.pointer (some ⟨6,88,none⟩)])):=by
  rw[World.cell?_alloc_lt _ _ ⟨3,0,none⟩ (by simp;omega),World.cell?_alloc_lt _ _ ⟨3,0,none⟩ hlt];exact hg
 have htl:t.block<w.heap.size:=by
  rcases Nat.lt_or_ge t.block w.heap.size with h|h
  ·exact h
  ·simp[World.cell?,Array.getElem?_eq_none h] at ht0
 have el:=zjF ⟨w.heap.size,0,none⟩ t (((w.alloc (.cells #[.pointer (some t)] 154)).alloc (.cells #[.pointer (some ⟨6,154,none⟩),.pointer (some ⟨w.heap.size,0,none⟩),.int .u64 150] 216)).alloc (.cells #[.pointer (some ⟨6,154,none⟩),.pointer (some ⟨w.heap.size,0,none⟩),.int .u64 150] 216)) (by rw[World.cell?_alloc_lt _ _ ⟨w.heap.size,0,none⟩ (by simp;omega)];simp)
 have st:=zj4 t ⟨w.heap.size+1+1+1,0,none⟩ n m ((((w.alloc (.cells #[.pointer (some t)] 154)).alloc (.cells #[.pointer (some ⟨6,154,none⟩),.pointer (some ⟨w.heap.size,0,none⟩),.int .u64 150] 216)).alloc (.cells #[.pointer (some ⟨6,154,none⟩),.pointer (some ⟨w.heap.size,0,none⟩),.int .u64 150] 216)).alloc (.cells #[.int .i64 n] 152)) rfl hts
  (by
   generalize hW:(((w.alloc _).alloc _).alloc _:World)=W3
   have hs:W3.heap.size=w.heap.size+1+1+1:=by rw[←hW];simp
   rw[←hs]
   show (W3.heap.push _)[W3.heap.size]? = _
   simp) rfl
  (by rw[World.cell?_alloc_lt _ _ t (by simp;omega),World.cell?_alloc_lt _ _ t (by simp;omega),World.cell?_alloc_lt _ _ t (by simp;omega),World.cell?_alloc_lt _ _ t htl];exact ht0)
  (by rw[World.frozen?_alloc_old _ _ t (by simp;omega),World.frozen?_alloc_old _ _ t (by simp;omega),World.frozen?_alloc_old _ _ t (by simp;omega),World.frozen?_alloc_old _ _ t (Nat.ne_of_lt htl)];exact hf0)
 go_enter Tryz.func106,Tryz.ntmps106
 go_wp2
 refine wp_loop_rounds 1 ?_
 rw[rounds_succ]
 go_wp2
 go_ret
 exact ⟨rfl,rfl⟩
open Go.RowKit Go.Extern.Stop Go.Stop Go.Extern Go.Extern.Rtype
set_option maxHeartbeats 4000000 in
theorem zi3 (w:World):Calls Tryz.prog 56 #[.nilIface] w fun e w' => e = .returned (.int .i64 0)/\Below w.heap.size w w':=by
 go_enter Tryz.func56,Tryz.ntmps56
 go_wp2_with (go_at_call 106;refine (zfm _ _).mono ?_;rintro e w' ⟨rfl,rfl⟩)
 go_ret
 exact ⟨rfl,(Below.refl _ w).alloc (Nat.le_refl _) _⟩
theorem zfk (n m:Int) (w:World):(Y4 n ⟨w.heap.size,0,none⟩ (w.alloc (.cells #[.int .i64 m] 152))).cell? ⟨w.heap.size,0,none⟩=some (.int .i64 n):=by
 unfold Y4
 refine World.cell?_setCell_same' _ _ _ ?_
 rw[World.cell?_alloc_lt _ _ ⟨w.heap.size,0,none⟩ (by simp;omega),World.cell?_alloc_lt _ _ ⟨w.heap.size,0,none⟩ (by simp;omega),World.cell?_alloc_lt _ _ ⟨w.heap.size,0,none⟩ (by simp;omega),World.cell?_alloc_lt _ _ ⟨w.heap.size,0,none⟩ (by simp)]
 simp
theorem zfj (n m:Int) (w:World):Below w.heap.size w (Y4 n ⟨w.heap.size,0,none⟩ (w.alloc (.cells #[.int .i64 m] 152))):=by
 unfold Y4
 exact (((((((Below.refl _ w).alloc (Nat.le_refl _) _).alloc (by simp) _).alloc (by simp;omega) _).alloc (by simp;omega) _).alloc (by simp;omega) _).setCell (Nat.le_refl _) _)
set_option maxHeartbeats 4000000 in
theorem zi2 (n:Int) (w:World) (hg:w.cell? ⟨3,0,none⟩=some (.iface 265 (.agg #[.pointer (some ⟨6,88,none⟩)]))) :
  Calls Tryz.prog 56 #[.iface 152 (.agg #[.int .i64 n])] w fun e w' => e = .returned (.int .i64 n)/\Below w.heap.size w w':=by
 have hlt:3<w.heap.size:=by
  rcases Nat.lt_or_ge 3 w.heap.size with h|h
  ·exact h
  ·simp[World.cell?,Array.getElem?_eq_none h] at hg
 have hgA:(w.alloc (.cells #[.int .i64 0] 152)).cell? ⟨3,0,none⟩=some (.iface 265 (.agg #[.pointer (some ⟨6,88,none⟩)])):=by
  rw[World.cell?_alloc_lt _ _ ⟨3,0,none⟩ hlt];exact hg
 have htA:(w.alloc (.cells #[.int .i64 0] 152)).cell? ⟨w.heap.size,0,none⟩=some (.int .i64 0):=by simp
 have hfA:(w.alloc (.cells #[.int .i64 0] 152)).frozen? ⟨w.heap.size,0,none⟩=false:=by simp
 have hc:=zfk n 0 w
 have hB:=zfj n 0 w
 generalize hW:Y4 n ⟨w.heap.size,0,none⟩ (w.alloc (.cells #[.int .i64 0] 152))=W at hc hB
 go_enter Tryz.func56,Tryz.ntmps56
 go_wp2_with (go_at_call 106;refine (zfl n 0 _ _ rfl hgA htA hfA).mono ?_;rintro e w' ⟨rfl,h⟩;rw[hW] at h;obtain rfl:=h)
 go_ret
 exact ⟨rfl,hB⟩
def popT:List UInt8:=[0,1,1,2,1,2,2,3,1,2,2,3,2,3,3,4,1,2,2,3,2,3,3,4,2,3,3,4,3,4,4,5,1,2,2,3,2,3,3,4,2,3,3,4,3,4,4,5,2,3,3,4,3,4,4,5,3,4,4,5,4,5,5,6,1,2,2,3,2,3,3,4,2,3,3,4,3,4,4,5,2,3,3,4,3,4,4,5,3,4,4,5,4,5,5,6,2,3,3,4,3,4,4,5,3,4,4,5,4,5,5,6,3,4,4,5,4,5,5,6,4,5,5,6,5,6,6,7,1,2,2,3,2,3,3,4,2,3,3,4,3,4,4,5,2,3,3,4,3,4,4,5,3,4,4,5,4,5,5,6,2,3,3,4,3,4,4,5,3,4,4,5,4,5,5,6,3,4,4,5,4,5,5,6,4,5,5,6,5,6,6,7,2,3,3,4,3,4,4,5,3,4,4,5,4,5,5,6,3,4,4,5,4,5,5,6,4,5,5,6,5,6,6,7,3,4,4,5,4,5,5,6,4,5,5,6,5,6,6,7,4,5,5,6,5,6,6,7,5,6,6,7,6,7,7,8]
theorem zjY:∀ n:Nat,n<256->(popT.toArray[n]?).map UInt8.toNat=some (pop8 n):=by decide +kernel
set_option maxRecDepth 100000 in
set_option maxHeartbeats 4000000 in
theorem zjh (n:Nat) (hn:n<256) (w:World):Calls Tryz.prog 244 #[.int .u8 n] w fun e w' => e = .returned (.int .i64 (pop8 n))/\w' = w:=by
 go_enter Tryz.func244,Tryz.ntmps244
 have e:=zjY n hn
 have hsz:n<popT.toArray.size:=hn
 rw[Array.getElem?_eq_getElem hsz] at e
 have e2:(popT.toArray[n]'hsz).toNat=pop8 n:=Option.some.inj e
 have hle:pop8 n<=8:=by unfold pop8;omega
 go_wp2
 go_ret
 refine ⟨?_,rfl⟩
 show Ending.returned (Value.int .i64 (Go.RowKit.wrap64 (((popT.toArray[n]'hsz).toNat:Nat):Int)))=_
 rw[e2,show Go.RowKit.wrap64 ((pop8 n:Nat):Int)=pop8 n by simp only[Go.RowKit.wrap64];omega]
theorem zay (v:Value) (w:World):(Extern.ReflectliteType.typeOf #[.iface 331 v]).run Tryz.prog w=.ok (.iface 265 (.agg #[.pointer (some ⟨6,331,none⟩)])) w:=by kernel_rfl
theorem zas (w:World):((Extern.ReflectliteType.method fun t=>do noPackHeld "Comparable" t;(fun a=>Value.bool a.comparable) <$> typeInfo t) #[.agg #[.pointer (some ⟨6,331,none⟩)]]).run Tryz.prog w=.ok (.bool true) w:=by kernel_rfl
theorem zav (v:Value) (w:World):(Go.method 466 265 v "Comparable").run Tryz.prog w=.ok (323,v) w:=by kernel_rfl
theorem zar:(Tryz.prog.info? 331).map (·.comparable)=some true:=by kernel_rfl
theorem zax:(Tryz.prog.info? 353).map (·.size)=some 1:=by kernel_rfl
theorem ziY (v:Value) (xT:TypeId) (w:World):(Instr.typeAssert (.iface 331 v) xT 309 true).run Tryz.prog w=.ok (.tuple #[.nilIface,.bool false]) w:=run_typeAssert_lacksB Tryz.underlying309 (by kernel_rfl) (by kernel_rfl) v xT w
theorem ziZ (v:Value) (xT:TypeId) (w:World):(Instr.typeAssert (.iface 331 v) xT 272 true).run Tryz.prog w=.ok (.tuple #[.nilIface,.bool false]) w:=run_typeAssert_lacksB Tryz.underlying272 (by kernel_rfl) (by kernel_rfl) v xT w
theorem zi0 (v:Value) (xT:TypeId) (w:World):(Instr.typeAssert (.iface 331 v) xT 273 true).run Tryz.prog w=.ok (.tuple #[.nilIface,.bool false]) w:=run_typeAssert_lacksB Tryz.underlying273 (by kernel_rfl) (by kernel_rfl) v xT w
theorem zin (a:Addr) (w:World) :
  Calls Tryz.prog 162 #[.iface 331 (.pointer (some a)),.iface 331 (.pointer (some a))] w fun e w' => e = .returned (.bool true)/\w' = w:=by
 obtain ⟨i,hi,hcmp⟩:=Option.map_eq_some_iff.1 zar
 obtain ⟨j,hj,hjs⟩:=Option.map_eq_some_iff.1 zax
 have h8:=@run_callFunc_extern Tryz.prog 226 _ Extern.ReflectliteType.typeOf Tryz.func226 (by kernel_rfl) (by kernel_rfl) (by kernel_rfl) (by kernel_rfl)
 have h32:=@run_callFunc_extern Tryz.prog 323 _ (Extern.ReflectliteType.method fun t=>do noPackHeld "Comparable" t;pure (.bool (←typeInfo t).comparable)) Tryz.func323 (by kernel_rfl) (by kernel_rfl) (by kernel_rfl) (by kernel_rfl)
 have tT:=zay
 have cT:=zas
 have mR:=zav
 have heq:=run_eql_iface_ptr_same (P:=Tryz.prog) w a Tryz.underlying88 Tryz.underlying331 hi hcmp hj
 go_enter Tryz.func162,Tryz.ntmps162
 go_wp2
 refine wp_loop_rounds 1 ?_
 rw[rounds_succ]
 go_wp2
 go_ret
 exact ⟨rfl,rfl⟩
theorem zik (b:Addr) (w:World) :
  Calls Tryz.prog 162 #[.nilIface,.iface 331 (.pointer (some b))] w fun e w' => e = .returned (.bool false)/\w' = w:=by
 have hn:=run_eql_iface_nil_left (P:=Tryz.prog) w 331 (.pointer (some b)) Tryz.underlying88
 go_enter Tryz.func162,Tryz.ntmps162
 go_wp2
 go_ret
 exact ⟨rfl,rfl⟩
theorem zim (a b:Addr) (ca cb:Array Value) (ta tb:TypeId) (w:World) (hne:a≠b) (ha:w.heap[a.block]? = some (.cells ca ta (0,0))) (hb:w.heap[b.block]? = some (.cells cb tb (0,0))) :
  Calls Tryz.prog 162 #[.iface 331 (.pointer (some a)),.iface 331 (.pointer (some b))] w fun e w' => e = .returned (.bool false)/\w' = w:=by
 obtain ⟨i,hi,hcmp⟩:=Option.map_eq_some_iff.1 zar
 obtain ⟨j,hj,hjs⟩:=Option.map_eq_some_iff.1 zax
 have h8:=@run_callFunc_extern Tryz.prog 226 _ Extern.ReflectliteType.typeOf Tryz.func226 (by kernel_rfl) (by kernel_rfl) (by kernel_rfl) (by kernel_rfl)
 have h32:=@run_callFunc_extern Tryz.prog 323 _ (Extern.ReflectliteType.method fun t=>do noPackHeld "Comparable" t;pure (.bool (←typeInfo t).comparable)) Tryz.func323 (by kernel_rfl) (by kernel_rfl) (by kernel_rfl) (by kernel_rfl)
 have tT:=zay
 have cT:=zas
 have mR:=zav
 have nE:=ziY
 have uE:=ziZ
 have vE:=zi0
 have heq:=run_eql_iface_ptr_other (P:=Tryz.prog) w Tryz.underlying88 Tryz.underlying331 hi hcmp hj (by rw[hjs];decide) hne ha hb
 go_enter Tryz.func162,Tryz.ntmps162
 go_wp2
 refine wp_loop_rounds 1 ?_
 rw[rounds_succ]
 go_wp2
 go_ret
 exact ⟨rfl,rfl⟩
open Go.RowKit
set_option maxRecDepth 100000
theorem zcT {P:Program} {E:Env} {G:Gh} {w:World} {p:PV} {vs:Array Value} (pre:PreC P E G w [.pv p] vs []):∃ x,vs=#[x]/\PRep G.g p x:=by
 have hs:vs.size=1:=pre.sz
 obtain ⟨x,rfl⟩:=Array.size_eq_one_iff.1 hs
 rcases pre.ar 0 (.pv p) x rfl rfl with h|h
 ·exact ⟨x,rfl,h.2 (fun _=>.imm)⟩
 ·cases h.1
theorem zl8 {P:Program} {E:Env} {G:Gh} {w:World} {p q:PV} {vs:Array Value} (pre:PreC P E G w [.pv p,.pv q] vs []):∃ x y,vs=#[x,y]/\PRep G.g p x/\PRep G.g q y:=by
 have hs:vs.size=2:=pre.sz
 obtain ⟨x,y,rfl⟩:∃ x y,vs=#[x,y]:=by
  obtain ⟨l⟩:=vs
  match l,hs with
  |[x,y],_=>exact ⟨x,y,rfl⟩
 refine ⟨x,y,rfl,?_,?_⟩
 ·rcases pre.ar 0 (.pv p) x rfl rfl with h|h
  ·exact h.2 (fun _=>.imm)
  ·cases h.1
 ·rcases pre.ar 1 (.pv q) y rfl rfl with h|h
  ·exact h.2 (fun _=>.imm)
  ·cases h.1
theorem zhy {G:Gh} {w:World} (wo:WOk Tryz.prog env G w):w.cell? ⟨3,0,none⟩=some (.iface 265 (.agg #[.pointer (some ⟨6,88,none⟩)])):=by
 obtain ⟨c,h1,h2⟩:=wo.fix 3 _ rfl
 obtain ⟨_,T,f,h3⟩:=wo.imm _ _ h1
 unfold World.cell?
 simp[h3,h2]
theorem zi4 {args:List AV} {H:za} {out:Out} {H':za} (hc:YF env (0,152) args H=some (out,H')) {G:Gh} {w:World} {vs:Array Value} (pre:PreC Tryz.prog env G w args vs H) :
  Calls Tryz.prog 56 vs w fun e w' => wV Tryz.prog env G w H' out e w':=by
 unfold YF at hc
 split at hc
 ·rename_i p _
  cases hn:QE 152 p with
  |none=>simp[hn] at hc
  |some n=>
   simp only[hn,zm4] at hc
   cases H with
   |cons a b=>simp at hc
   |nil=>
    simp only[List.isEmpty_nil,cond_true,zm9,Prod.mk.injEq] at hc
    obtain ⟨rfl,rfl⟩:=hc
    obtain ⟨x,rfl,hx⟩:=zcT pre
    unfold QE at hn
    split at hn
    ·cases hn
     cases hx
     exact (zi3 w).mono fun e w' ⟨he,hb⟩=>by subst he;exact Xk pre.wo hb (.v rfl)
    ·rename_i t' m
     split at hn
     ·rename_i ht
      cases hn
      subst ht
      cases hx with
      |ifc hu=>
       cases hu with
       |agg h1 h2 h3=>
        rename_i us
        obtain ⟨y,rfl⟩:=Array.size_eq_one_iff.1 h1
        cases h3 0 _ y rfl rfl
        exact (zi2 n w (zhy pre.wo)).mono fun e w' ⟨he,hb⟩=>by subst he;exact Xk pre.wo hb (.v rfl)
     ·cases hn
    ·cases hn
 ·rename_i h;cases h
 ·rename_i h;cases h
 ·cases hc
theorem zb3 {G:Gh} {w:World} (wo:WOk Tryz.prog env G w) {b:PV} {g:Nat} (h:XJ env b=some g) {x:Value} (hx:PRep G.g b x) :
  find env.glob g=some (.sen g)/\∃ c a ca ta,G.g g=some c/\c[0]? = some x/\x=.iface 331 (.pointer (some a))/\w.heap[a.block]? = some (.cells ca ta (0,0)):=by
 unfold XJ at h
 split at h
 ·rename_i g0
  split at h
  ·rename_i g' hf
   split at h
   ·rename_i e
    cases h
    subst e
    refine ⟨hf,?_⟩
    obtain ⟨c,a,ca,ta,k1,k2,k3,k4⟩:=wo.sen _ hf
    cases hx with
    |sen h1 h2=>
     obtain rfl:=Option.some.inj (k1.symm.trans h1)
     have e:=Option.some.inj (k2.symm.trans h2)
     exact ⟨c,a,ca,ta,k1,by rw[k2,e],e.symm,k4⟩
   ·cases h
  ·cases h
 ·cases h
theorem zil {args:List AV} {H:za} {out:Out} {H':za} (hc:YF env (1,0) args H=some (out,H')) {G:Gh} {w:World} {vs:Array Value} (pre:PreC Tryz.prog env G w args vs H) :
  Calls Tryz.prog 162 vs w fun e w' => wV Tryz.prog env G w H' out e w':=by
 unfold YF at hc
 split at hc
 ·rename_i h;cases h
 ·rename_i p r _
  cases hn:Qt env p r with
  |none=>simp[hn] at hc
  |some z=>
   simp only[hn,zm4] at hc
   cases H with
   |cons a b=>simp at hc
   |nil=>
    simp only[List.isEmpty_nil,cond_true,zm9,Prod.mk.injEq] at hc
    obtain ⟨rfl,rfl⟩:=hc
    obtain ⟨x,y,rfl,hx,hy⟩:=zl8 pre
    unfold Qt at hn
    cases hg:XJ env r with
    |none=>simp[hg] at hn
    |some g=>
     simp only[hg,zm4] at hn
     obtain ⟨f1,c,a,ca,ta,q1,q2,rfl,q4⟩:=zb3 pre.wo hg hy
     split at hn
     ·cases hn
      cases hx
      exact (zik a w).mono fun e w' ⟨he,hb⟩=>by subst he;subst hb;exact Xk pre.wo (Below.refl _ _) (.v rfl)
     ·cases hh:XJ env p with
      |none=>simp[hh] at hn
      |some h=>
       simp only[hh,Option.map_some,zm9] at hn
       obtain ⟨f2,c',a',ca',ta',r1,r2,rfl,r4⟩:=zb3 pre.wo hh hx
       by_cases he:h=g
       ·subst he
        obtain rfl:=Option.some.inj (q1.symm.trans r1)
        have e:=Option.some.inj (q2.symm.trans r2)
        obtain rfl:a=a':=by injection e with _ e;injection e with e;injection e
        obtain rfl:z=true:=by rw[←hn];simp
        exact (zin a w).mono fun e w' ⟨he,hb⟩=>by subst he;subst hb;exact Xk pre.wo (Below.refl _ _) (.v rfl)
       ·have hd:=pre.wo.dst h g c' c f2 f1 he r1 q1
        have hne:a'≠a:=fun e=>hd (by rw[r2,q2,e])
        obtain rfl:z=false:=by rw[←hn];simpa using he
        exact (zim a' a _ _ _ _ w hne r4 q4).mono fun e w' ⟨he,hb⟩=>by subst he;subst hb;exact Xk pre.wo (Below.refl _ _) (.v rfl)
 ·rename_i h;cases h
 ·cases hc
theorem zjg {args:List AV} {H:za} {out:Out} {H':za} (hc:YF env (2,0) args H=some (out,H')) {G:Gh} {w:World} {vs:Array Value} (pre:PreC Tryz.prog env G w args vs H) :
  Calls Tryz.prog 244 vs w fun e w' => wV Tryz.prog env G w H' out e w':=by
 unfold YF at hc
 split at hc
 ·rename_i h;cases h
 ·rename_i h;cases h
 ·rename_i p _
  cases hm:zf .u8 (.pv p) with
  |none=>simp[hm] at hc
  |some m=>
   have:=J0 hm
   cases this
   simp only[hm,zm4] at hc
   unfold QO at hc
   cases hb:(decide (0<=m)&&decide (m<256)) with
   |false=>simp[hb] at hc
   |true=>
    simp only[Bool.and_eq_true,decide_eq_true_eq] at hb
    simp only[hb,decide_true,Bool.and_self,cond_true,zm4] at hc
    cases H with
    |cons a b=>simp at hc
    |nil=>
     simp only[List.isEmpty_nil,cond_true,zm9,Prod.mk.injEq] at hc
     obtain ⟨rfl,rfl⟩:=hc
     obtain ⟨x,rfl,hx⟩:=zcT pre
     cases hx
     have:=zjh m.toNat (by omega) w
     rw[Int.toNat_of_nonneg hb.1] at this
     exact this.mono fun e w' ⟨he,hb⟩=>by subst he;subst hb;exact Xk pre.wo (Below.refl _ _) (.v rfl)
 ·cases hc
theorem Xq:KC Tryz.prog env:=by
 intro f q hq
 have he:env.cln=[(275,(5,1,1)),(56,(0,0,152)),(162,(1,0,0)),(244,(2,0,0))]:=rfl
 rw[he] at hq
 unfold find at hq
 split at hq
 ·rename_i hk
  cases hq
  subst hk
  exact ⟨⟨_,Tryz.func275,by kernel_rfl,by kernel_rfl⟩,fun args H out H' hc G w vs pre=>zgJ hc pre⟩
 unfold find at hq
 split at hq
 ·rename_i hk
  cases hq
  subst hk
  exact ⟨⟨_,Tryz.func56,by kernel_rfl,by kernel_rfl⟩,fun args H out H' hc G w vs pre=>zi4 hc pre⟩
 unfold find at hq
 split at hq
 ·rename_i hk
  cases hq
  subst hk
  exact ⟨⟨_,Tryz.func162,by kernel_rfl,by kernel_rfl⟩,fun args H out H' hc G w vs pre=>zil hc pre⟩
 unfold find at hq
 split at hq
 ·rename_i hk
  cases hq
  subst hk
  exact ⟨⟨_,Tryz.func244,by kernel_rfl,by kernel_rfl⟩,fun args H out H' hc G w vs pre=>zjg hc pre⟩
 ·cases hq
open Go.RowKit Go.WideMaps Go.WideElems
set_option maxRecDepth 100000
def zcl (i:Nat):Int:=[0,1,8,16,32,64,64,0].getD i 0
theorem gDec:Tryz.prog.globalNamed "capnp/pointer.decoders" = some 4:=by kernel_rfl
theorem tDec:(Tryz.prog.globals[4]?).map (·.type)=some 293:=by kernel_rfl
theorem zmI (W:World):(zeroValue 240).run Tryz.prog W=.ok .nilFunc W:=by kernel_rfl
def jm:DataW (List UInt8):=.map [(.int .i64 0,.held [99,97,112,110,112,47,112,111,105,110,116,101,114,46,100,101,99,111,100,101,114,115,36,49]),(.int .i64 1,.held [99,97,112,110,112,47,112,111,105,110,116,101,114,46,100,101,99,111,100,101,114,115,36,50]),(.int .i64 2,.held [99,97,112,110,112,47,112,111,105,110,116,101,114,46,100,101,99,111,100,101,114,115,36,51]),(.int .i64 3,.held [99,97,112,110,112,47,112,111,105,110,116,101,114,46,100,101,99,111,100,101,114,115,36,52])]
def uG (w:World):Prop:=∃ bm es clock,w.cell? ⟨4,0,none⟩=some (.map (some bm))/\w.heap[bm]? = some (.map es clock)/\
  ∀ W:World,W.heap[bm]? = some (.map es clock)->
   (Instr.lookup 293 (.map (some bm)) (.int .i64 0) false).run Tryz.prog W=.ok (.func (.func 341) #[] #[]) W/\
   (Instr.lookup 293 (.map (some bm)) (.int .i64 1) false).run Tryz.prog W=.ok (.func (.func 343) #[] #[]) W/\
   (Instr.lookup 293 (.map (some bm)) (.int .i64 2) false).run Tryz.prog W=.ok (.func (.func 344) #[] #[]) W/\
   (Instr.lookup 293 (.map (some bm)) (.int .i64 3) false).run Tryz.prog W=.ok (.func (.func 345) #[] #[]) W
theorem zgZ {W:World} {l:List (String×DataW Unit)} (h:laidMetH Tryz.prog l W) (hm:("capnp/pointer.decoders",Rows.laid_capnp_pointer_decoders)∈l):uG W:=by
 obtain ⟨g,t,cs,fuel,p,hg,ht,hv,hd⟩:=h.funcs hm
 obtain rfl:=Option.some.inj (gDec.symm.trans hg)
 obtain rfl:=Option.some.inj (tDec.symm.trans ht)
 have hd':DataW.trod (funcToken Tryz.prog) Tryz.prog W 0 (fun _=>true) true fuel 293 cs.toList=some (jm,p):=hd
 rcases open_map Tryz.underlying293 hd' with ⟨_,hx⟩|⟨bm,es,clock,n,rfl,hcs,hb,_,F,hx⟩
 ·simp[jm] at hx
 simp only[Prod.mk.injEq] at hx
 have hcell:W.cell? ⟨4,0,none⟩=some (.map (some bm)):=by
  have:=World.var?_cell hg hv 0
  rw[Array.eq_one_of_toList hcs] at this
  simpa using this
 refine ⟨bm,es,clock,hcell,hb,fun W' hb' => ?_⟩
 have key:∀ (k:Int) (f:FuncId) (b:UInt8) (r:List UInt8),(Lit.int .i64 k).wf=true->(∀ zd,DataW.atKey (.map ((es.toList.map (rg Tryz.prog 3 (elemAt (funcToken Tryz.prog) Tryz.prog W 0 (fun _=>true) true n 240))).foldr DataW.insert [])) (.int .i64 k) zd=.held (b::r))->
   ((List.range Tryz.prog.funcs.size).filter fun f=>(Tryz.prog.funcs[f]?).any (·.name.toUTF8.data.toList==b::r))=[f]->
   (Instr.lookup 293 (.map (some bm)) (.int .i64 k) false).run Tryz.prog W' = .ok (.func (.func f) #[] #[]) W':=by
  intro k f b r hwf hat0 hone
  rcases Maps.fit_look false (Maps.int_keyed Tryz.underlying3) Tryz.underlying293 (zmI W') hb' F (Maps.keyOf_int_mk Tryz.underlying3 hwf) with ⟨_,_,hat⟩|⟨e0,y,_,_,hrun,hRv,hat,_⟩
  ·have:=hat .nil
   rw[hat0] at this
   cases this
  ·have h1:=hat .nil
   rw[hat0] at h1
   obtain ⟨y1,y2⟩:=y
   simp only at h1
   subst h1
   unfold elemAt at hRv
   split at hRv
   ·rename_i hf
    have hv1:e0.val.cells.toList=[e0.val]:=by
     cases he:e0.val<;>simp_all [Value.cells,Value.formed,Tryz.underlying240]
    rw[hv1] at hRv
    have:=func_of_trod Tryz.underlying240 hone hRv
    rw[this] at hrun
    simpa using hrun
   ·cases hRv
 exact ⟨key 0 341 _ _ rfl (fun zd=>by rw[←hx.1];rfl) (by kernel_rfl),key 1 343 _ _ rfl (fun zd=>by rw[←hx.1];rfl) (by kernel_rfl),key 2 344 _ _ rfl (fun zd=>by rw[←hx.1];rfl) (by kernel_rfl),key 3 345 _ _ rfl (fun zd=>by rw[←hx.1];rfl) (by kernel_rfl)⟩
theorem zag:Tryz.prog.globalNamed "capnp/listsize.bits" = some 5:=by kernel_rfl
theorem zlg:(Tryz.prog.globals[5]?).map (·.type)=some 304:=by kernel_rfl
abbrev senL:List (String×DataW Unit):=[("capnp/unpack.errTruncated",Rows.laid_capnp_unpack_errTruncated),("capnp/unpack.errLimit",Rows.laid_capnp_unpack_errLimit),("capnp/listsize.bits",Rows.laid_capnp_listsize_bits)]
theorem zfs {W:World} {l:List (String×DataW Unit)} (h:laidMetH Tryz.prog l W) (hf:l.filter (fun x=>x.2.handleName?.isNone)=senL):∀ i:Nat,i<8->W.cell? ⟨5,i,none⟩=some (.int .i64 (zcl i)):=by
 have h1:=(laidMetH_iff.1 h).1
 rw[hf] at h1
 have h2:=h1.filter (fun x=>x.1 == "capnp/listsize.bits")
 have e:senL.filter (fun x=>x.1 == "capnp/listsize.bits")=[("capnp/listsize.bits",Rows.laid_capnp_listsize_bits)]:=by kernel_rfl
 rw[e] at h2
 have ht:Lib.TabIs Tryz.prog W "capnp/listsize.bits" .i64 [0,1,8,16,32,64,64,0]:=Lib.tabIs_of_head (rest:=[]) zag zlg Tryz.underlying304 Tryz.underlying3 (by kernel_rfl) (by kernel_rfl) h2
 exact fun i hi=>ht.cell zag i hi
theorem gTr:Tryz.prog.globalNamed "capnp/unpack.errTruncated" = some 2:=by kernel_rfl
theorem tTr:(Tryz.prog.globals[2]?).map (·.type)=some 88:=by kernel_rfl
theorem gLi:Tryz.prog.globalNamed "capnp/unpack.errLimit" = some 1:=by kernel_rfl
theorem tLi:(Tryz.prog.globals[1]?).map (·.type)=some 88:=by kernel_rfl
theorem jM : "*" ++ "errors.errorString" = "*errors.errorString":=by decide
theorem zhz (u:TypeId) (h:Tryz.prog.typeName? 3 u=some "*errors.errorString"):u=331 :=
 typeName_ptr_named (nm:= "errors.errorString") (by rw[jM];kernel_rfl) (by kernel_rfl) (by decide) u (by rw[jM];exact h)
theorem zkX {W:World} {l:List (String×DataW Unit)} (h:laidMetH Tryz.prog l W) (hf:l.filter (fun x=>x.2.handleName?.isNone)=senL) :
  ∃ (a0 a1:Addr) (c0 c1:Array Value) (t0 t1:TypeId),W.cell? ⟨2,0,none⟩=some (.iface 331 (.pointer (some a0)))/\W.cell? ⟨1,0,none⟩=some (.iface 331 (.pointer (some a1)))/\a0≠a1/\
   W.heap[a0.block]? = some (.cells c0 t0 (0,0))/\W.heap[a1.block]? = some (.cells c1 t1 (0,0)):=by
 have h1:=(laidMetH_iff.1 h).1
 rw[hf] at h1
 obtain ⟨a0,a1,s0,s1,c0,c1,t0,t1,hv0,hv1,_,_,_,_,_,_,hne,hb0,hb1⟩:=laid_sentinels2 (ti:=88) (tp:=331) (te:=353) (ts:=9) h1 gTr tTr gLi tLi Tryz.underlying88 zhz Tryz.underlying331 Tryz.underlying353 rfl rfl Tryz.underlying9 (by kernel_rfl) (by kernel_rfl)
 refine ⟨a0,a1,c0,c1,t0,t1,?_,?_,hne,hb0,hb1⟩
 ·simpa using World.var?_cell gTr hv0 0
 ·simpa using World.var?_cell gLi hv1 0
theorem etG:Tryz.prog.globalNamed "errors.errorType" = some 3:=by kernel_rfl
theorem rtT:(Tryz.prog.cutTypes.find? (·.1 == "internal/reflectlite.rtype")).map (·.2)=some 265:=by kernel_rfl
theorem zhB:((List.range Tryz.prog.types.size).filter fun t=>Tryz.prog.rowNamed t [101,114,114,111,114])=[88]:=by kernel_rfl
theorem zh7 {W:World} {l:List (String×DataW Unit)} (h:laidMetH Tryz.prog l W) (hm:("errors.errorType",Rows.laid_errors_errorType)∈l):W.cell? ⟨3,0,none⟩=some (.iface 265 (.agg #[.pointer (some ⟨6,88,none⟩)])):=by
 have h2:=(laidMetH_iff.1 h).2
 obtain ⟨name,u,ty,e1,e2,e3,e4,e5⟩:=h2 _ (List.mem_filter.2 ⟨hm,rfl⟩)
 have en:name=[101,114,114,111,114]:=(Option.some.inj e1).symm
 subst en
 obtain rfl:=Option.some.inj (rtT.symm.trans e2)
 have hm2:ty∈(List.range Tryz.prog.types.size).filter fun t=>Tryz.prog.rowNamed t [101,114,114,111,114]:=List.mem_filter.2 ⟨List.mem_range.2 e3,e4⟩
 rw[zhB] at hm2
 obtain rfl:=List.mem_singleton.1 hm2
 have hh:typeHandle Tryz.prog 88=.pointer (some ⟨6,88,none⟩):=by kernel_rfl
 rw[hh] at e5
 simpa using World.var?_cell etG e5 0
theorem ziU {w:World} (h:uG w):∃ v c,g0 w 4=some c/\c[0]? = some v/\MRel Tryz.prog env (G0 w) w 4 v:=by
 obtain ⟨bm,es,clock,h1,h2,h3⟩:=h
 obtain ⟨_,c,hc,hv⟩:=Zv h1
 refine ⟨_,c,hc,hv,bm,es,clock,rfl,if_pos (Array.getElem?_eq_some_iff.1 h2).1,h2,fun W hW l n p hl hp=>?_⟩
 obtain rfl:l=(293,[(0,341),(1,343),(2,344),(3,345)]):=(Option.some.inj hl).symm
 obtain ⟨k0,k1,k2,k3⟩:=h3 W hW
 simp only[List.find?_cons,List.find?_nil] at hp
 split at hp
 ·rename_i hn;cases hp;obtain rfl:(0:Int)=n:=by simpa using hn
  exact k0
 ·split at hp
  ·rename_i hn;cases hp;obtain rfl:(1:Int)=n:=by simpa using hn
   exact k1
  ·split at hp
   ·rename_i hn;cases hp;obtain rfl:(2:Int)=n:=by simpa using hn
    exact k2
   ·split at hp
    ·rename_i hn;cases hp;obtain rfl:(3:Int)=n:=by simpa using hn
     exact k3
    ·cases hp
theorem zhx {w:World} (h:∀ i:Nat,i<8->w.cell? ⟨5,i,none⟩=some (.int .i64 (zcl i))):ERel (G0 w) (.agg [.v (.int .i64 0),.v (.int .i64 1),.v (.int .i64 8),.v (.int .i64 16),.v (.int .i64 32),.v (.int .i64 64),.v (.int .i64 64),.v (.int .i64 0)]) 0 (.pointer (some ⟨5,0,none⟩)):=by
 obtain ⟨_,c,hc,h7⟩:=Zv (h 7 (by decide))
 have hsz:=(Array.getElem?_eq_some_iff.1 h7).1
 refine ⟨_,c,0,hc,rfl,?_,fun j q u hq hu=>?_⟩
 ·show 0+8<=c.size
  simp only at hsz
  omega
 ·have hj:j<8:=(List.getElem?_eq_some_iff.1 hq).1
  obtain ⟨_,c',hc',hj'⟩:=Zv (h j hj)
  obtain rfl:c=c':=Option.some.inj (hc.symm.trans hc')
  rw[Nat.zero_add] at hu
  simp only at hj'
  rw[hj'] at hu
  cases hu
  match j,hj with
  |0,_|1,_|2,_|3,_|4,_|5,_|6,_|7,_=>cases hq;exact ⟨rfl,.v rfl⟩
theorem jK {w:World} {g:Nat} {t:TypeId} {a:Addr} (h:w.cell? ⟨g,0,none⟩=some (.iface t (.pointer (some a)))):ERel (G0 w) (.sen g) 0 (.pointer (some ⟨g,0,none⟩)):=by
 obtain ⟨_,c,hc,h0⟩:=Zv h
 refine ⟨_,c,0,hc,rfl,?_,fun j q u hq hu=>?_⟩
 ·have:=(Array.getElem?_eq_some_iff.1 h0).1
  show 0+1<=c.size
  simp only at this
  omega
 ·match j,hq with
  |0,hq=>
   cases hq
   rw[Nat.zero_add] at hu
   simp only at h0
   rw[h0] at hu
   cases hu
   exact ⟨rfl,.sen hc h0⟩
  |j+1,hq=>cases hq
theorem WJ {g:Nat} {p:PV} (h:find env.glob g=some p):(g=5/\p=.agg [.v (.int .i64 0),.v (.int .i64 1),.v (.int .i64 8),.v (.int .i64 16),.v (.int .i64 32),.v (.int .i64 64),.v (.int .i64 64),.v (.int .i64 0)])∨(g=1/\p=.sen 1)∨(g=2/\p=.sen 2):=by
 have he:env.glob=[(5,.agg [.v (.int .i64 0),.v (.int .i64 1),.v (.int .i64 8),.v (.int .i64 16),.v (.int .i64 32),.v (.int .i64 64),.v (.int .i64 64),.v (.int .i64 0)]),(1,.sen 1),(2,.sen 2)]:=rfl
 rw[he] at h
 unfold find at h
 split at h
 ·rename_i hk;cases h;exact .inl ⟨hk.symm,rfl⟩
 unfold find at h
 split at h
 ·rename_i hk;cases h;exact .inr (.inl ⟨hk.symm,rfl⟩)
 unfold find at h
 split at h
 ·rename_i hk;cases h;exact .inr (.inr ⟨hk.symm,rfl⟩)
 ·cases h
theorem zmk {w:World} {l:List (String×DataW Unit)} (h:laidMetH Tryz.prog l w) (hm:("capnp/pointer.decoders",Rows.laid_capnp_pointer_decoders)∈l) (hm2:("errors.errorType",Rows.laid_errors_errorType)∈l) (hf:l.filter (fun x=>x.2.handleName?.isNone)=senL):WOk Tryz.prog env (G0 w) w:=by
 obtain ⟨a0,a1,c0,c1,t0,t1,hv0,hv1,hne,hb0,hb1⟩:=zkX h hf
 obtain ⟨_,d0,hd0,he0⟩:=Zv hv0
 obtain ⟨_,d1,hd1,he1⟩:=Zv hv1
 refine zmj (fun g l hl=>?_) (fun g p hp=>?_) (fun g hg=>?_) (fun g1 g2 x1 x2 h1 h2 hn e1 e2=>?_) (fun g v hv=>?_)
 ·have hg:g=4:=by
   have he:env.maps=[(4,(293,[(0,341),(1,343),(2,344),(3,345)]))]:=rfl
   rw[he] at hl
   unfold find at hl
   split at hl
   ·rename_i hk;exact hk.symm
   ·cases hl
  subst hg
  exact ziU (zgZ h hm)
 ·rcases WJ hp with ⟨rfl,rfl⟩|⟨rfl,rfl⟩|⟨rfl,rfl⟩
  ·exact zhx (zfs h hf)
  ·exact jK hv1
  ·exact jK hv0
 ·rcases WJ hg with ⟨rfl,e⟩|⟨rfl,e⟩|⟨rfl,e⟩
  ·cases e
  ·exact ⟨d1,a1,c1,t1,hd1,he1,hb1⟩
  ·exact ⟨d0,a0,c0,t0,hd0,he0,hb0⟩
 ·have key:∀ x:Value,(Value.iface 331 (.pointer (some a0)))=x->(Value.iface 331 (.pointer (some a1)))=x->False:=fun x k1 k2=>by
   rw[←k1] at k2
   injection k2 with _ k2;injection k2 with k2;injection k2 with k2
   exact hne k2.symm
  rcases WJ h1 with ⟨rfl,e⟩|⟨rfl,e⟩|⟨rfl,e⟩
  ·cases e
  ·rcases WJ h2 with ⟨rfl,e'⟩|⟨rfl,e'⟩|⟨rfl,e'⟩
   ·cases e'
   ·exact absurd rfl hn
   ·obtain rfl:=Option.some.inj (hd1.symm.trans e1)
    obtain rfl:=Option.some.inj (hd0.symm.trans e2)
    intro k
    simp only at he0 he1
    rw[he1,he0] at k
    exact key _ rfl (Option.some.inj k)
  ·rcases WJ h2 with ⟨rfl,e'⟩|⟨rfl,e'⟩|⟨rfl,e'⟩
   ·cases e'
   ·obtain rfl:=Option.some.inj (hd0.symm.trans e1)
    obtain rfl:=Option.some.inj (hd1.symm.trans e2)
    intro k
    simp only at he0 he1
    rw[he1,he0] at k
    exact key _ (Option.some.inj k) rfl
   ·exact absurd rfl hn
 ·have he:env.fix=[(3,.iface 265 (.agg #[.pointer (some ⟨6,88,none⟩)]))]:=rfl
  rw[he] at hv
  unfold find at hv
  split at hv
  ·rename_i hk
   cases hv
   subst hk
   obtain ⟨_,c,k1,k2⟩:=Zv (zh7 h hm2)
   exact ⟨c,k1,k2⟩
  ·cases hv
open Go.RowKit
set_option maxRecDepth 100000
def JR (n:Int):Prop:=(Lit.int .i64 n).wf=true
theorem zfA {n:Int} (h:(Lit.int .u8 n).wf=true):zj n:=by
 simp[Lit.wf,IntKind.min,IntKind.max,IntKind.signed,IntKind.bits] at h
 unfold zj
 omega
def Jt:Enc (Int×Int×Int):=⟨fun t=>[I t.1,I t.2.1,I t.2.2],3,true,fun _=>rfl,fun h=>by cases h⟩
def uF {H:Type} (t:Int×Int×Int) (x:DataW H):Prop:=JR t.1/\JR t.2.1/\JR t.2.2
theorem zkl {H:Type} {enc:TypeId×Value->H} {w:World} (n:Nat):RdsAt enc Tryz.prog w n 24 Jt uF:=by
 intro cs x h
 obtain ⟨xs,n,rfl,rfl,hl,hlen,hf⟩:=DataW.trod_struct Tryz.underlying24 h
 have hc:cs.length=3:=hl.trans (by kernel_rfl)
 obtain ⟨c0,c1,c2,rfl⟩:∃ c0 c1 c2,cs=[c0,c1,c2]:=by
  match cs,hc with
  |[c0,c1,c2],_=>exact ⟨c0,c1,c2,rfl⟩
 obtain ⟨x0,x1,x2,rfl⟩:∃ x0 x1 x2,xs=[x0,x1,x2]:=by
  match xs,(show xs.length=3 from hlen.trans (by kernel_rfl)) with
  |[x0,x1,x2],_=>exact ⟨x0,x1,x2,rfl⟩
 have z0:Tryz.prog.cellsOf 3=1:=by kernel_rfl
 have h0:DataW.trod enc Tryz.prog w 0 (fun _=>true) true n 3 (([c0,c1,c2].drop 0).take (Tryz.prog.cellsOf 3))=[x0,x1,x2][0]?:=hf 0 _ rfl
 have h1:DataW.trod enc Tryz.prog w 0 (fun _=>true) true n 3 (([c0,c1,c2].drop 1).take (Tryz.prog.cellsOf 3))=[x0,x1,x2][1]?:=hf 1 _ rfl
 have h2:DataW.trod enc Tryz.prog w 0 (fun _=>true) true n 3 (([c0,c1,c2].drop 2).take (Tryz.prog.cellsOf 3))=[x0,x1,x2][2]?:=hf 2 _ rfl
 rw[z0] at h0 h1 h2
 obtain ⟨m0,e0,f0,w0⟩:=DataW.trod_int Tryz.underlying3 (show DataW.trod enc Tryz.prog w 0 (fun _=>true) true n 3 [c0]=some x0 from h0)
 obtain ⟨m1,e1,f1,w1⟩:=DataW.trod_int Tryz.underlying3 (show DataW.trod enc Tryz.prog w 0 (fun _=>true) true n 3 [c1]=some x1 from h1)
 obtain ⟨m2,e2,f2,w2⟩:=DataW.trod_int Tryz.underlying3 (show DataW.trod enc Tryz.prog w 0 (fun _=>true) true n 3 [c2]=some x2 from h2)
 cases e0;cases e1;cases e2
 refine ⟨(m0,m1,m2),rfl,fun j q u hq hu=>?_,w0,w1,w2⟩
 match j with
 |0=>cases hq;cases hu;exact ⟨rfl,.v rfl⟩
 |1=>cases hq;cases hu;exact ⟨rfl,.v rfl⟩
 |2=>cases hq;cases hu;exact ⟨rfl,.v rfl⟩
 |j+3=>simp[Jt] at hq
abbrev Js:Enc (List Int):=Xi (Qe .u8)
theorem zbm {H:Type} {l:List Int} {x:DataW H} (h:DS (DI .u8) l x):Bytes l:=⟨h.1,fun n hn=>by obtain ⟨y,hy⟩:=h.mem hn;exact zfA hy.2⟩
theorem zbF {H:Type} {enc:TypeId×Value->H} {w:World} (n:Nat):RdsAt enc Tryz.prog w n 22 Js (DS (DI .u8)):=by
 cases n with
 |zero=>exact RdsAt.zero _ _ _
 |succ n=>exact RdsAt.slice Tryz.underlying22 (by kernel_rfl) (by decide) (RdsAt.int Tryz.underlying5)
noncomputable def Qq (l:List (List Int)) (d w:Int):Int:=if yV l d w=0 then wc off (zM (xK l d w)) else 0
theorem zdV {D:Nat} {x:Nd} (h:Ok D x) (hb:zC D x<=134217728):ev 109 [.pv x.x] []=ok (U (wc off (zM (xi D x)))):=by
 have h1:=uX h hb
 have hl:=Wm h
 have h2:=zdT (l:=xi D x) (by omega)
 dsimp only[Nd.x] at h1 ⊢
 rw[zh9,h1]
 dsimp only[zl]
 rw[yu]
 dsimp only[zm4]
 rw[h2]
 rfl
theorem zdU {l:List (List Int)} (hl:zF l) (hs:Sm l) {d w b:Int} (hd:d<=1099511627775) (hw:w<=134217728):ev 58 [.pv (.sl 1 (zG l)),.pv (.agg [I d,I w,I b])] []=ok (.tup [U (Qq l d w),I (yV l d w)]):=by
 rw[zh8,zia,KJ hl hs hd (by omega)]
 dsimp only[Nd.x,zk,z6,zm3,zm2,zm4,z7,Y1,yF,wg,zo,zc]
 unfold Qq xK
 by_cases h0:yV l d w=0
 ·obtain ⟨ho,hb,_⟩:=QC hl hs hw h0
  have h1:=zdV ho hb
  dsimp only[Nd.x] at h1
  rw[h0,show ((0:Int)==0)=true from rfl,if_pos rfl,if_pos rfl]
  dsimp only[zc]
  rw[h1]
  rfl
 ·rw[beq_eq_false_iff_ne.2 h0,if_neg h0]
  rfl
def hA:Int:=wc off (zM [0])
def hB:Int:=wc off (zM [4294967296,5])
theorem zh6:ev 42 [.pv (.sl 1 [U8 0,U8 0,U8 0,U8 0,U8 0,U8 0,U8 0,U8 0])] []=ok (U hA):=by
 have h:=zdC (l:=[0,0,0,0,0,0,0,0]) (by intro b hb;simp at hb;unfold zj;omega) (by decide)
 rw[show wc off [0,0,0,0,0,0,0,0]=hA from by kernel_rfl] at h
 exact h
theorem zkW {b:List Int}:∀ (c i:Nat) (rest:List Int) (l:List (List Int)),(∀ x∈rest,zj x)->xu b c i rest=some l->l.length=c/\∀ s∈l,(∀ x∈s,zU x)/\8*s.length<=rest.length:=by
 intro c
 induction c with
 |zero=>
  intro i rest l hr h
  rw[xu] at h
  split at h
  ·cases h
   exact ⟨rfl,fun s hs=>by cases hs⟩
  ·cases h
 |succ c ih=>
  intro i rest l hr h
  rw[xu] at h
  split at h
  ·rename_i h1
   cases hq:xu b c (i+1) (rest.drop (8*(zL b i).toNat)) with
   |none=>rw[hq] at h;cases h
   |some t=>
    rw[hq] at h
    cases h
    obtain ⟨h2,h3⟩:=ih (i+1) _ t (Ys hr _) hq
    refine ⟨by simp[h2],fun s hs=>?_⟩
    rcases List.mem_cons.1 hs with rfl|hs
    ·refine ⟨Vl _ (K2 hr _),?_⟩
     rw[xp]
     omega
    ·obtain ⟨h4,h5⟩:=h3 s hs
     rw[zm1] at h5
     exact ⟨h4,by omega⟩
  ·cases h
theorem Z6 {b:List Int} (hb:∀ x∈b,zj x) (hl:b.length<=1099511627776) {l:List (List Int)} (h:yI b=some l):zF l/\Sm l:=by
 unfold yI at h
 split at h
 ·cases h
 split at h
 ·cases h
 split at h
 ·cases h
 split at h
 ·cases h
 rename_i h1 h2 h3 h4
 obtain ⟨h5,h6⟩:=zkW _ _ _ _ (Ys hb _) h
 have hd:(b.drop (yt (zL b 0+1).toNat)).length<=b.length:=by rw[zm1];omega
 refine ⟨⟨by omega,fun s hs=>?_⟩,fun s=>?_⟩
 ·obtain ⟨h7,h8⟩:=h6 s hs
  exact ⟨by omega,h7⟩
 ·unfold yz
  rw[List.getD_eq_getElem?_getD]
  cases hq:l[s.toNat]? with
  |none=>simp
  |some t=>
   obtain ⟨h7,h8⟩:=h6 t (List.mem_of_getElem? hq)
   rw[zmY]
   omega
noncomputable def mE (b:List Int) (d w:Int):Int:=match yI b with
 |some l=>yV l d w
 |none=>1
noncomputable def Yt (b:List Int) (d w:Int):List Int:=match yI b with
 |some l=>if yV l d w=0 then Ka (xK l d w) else []
 |none=>[]
noncomputable def mN (b:List Int) (d w:Int):Nd:=y3 ((yI b).getD []) d w
open Classical in
noncomputable def Qg (a b:List Int) (d w:Int):Bool:=if mE a d w=0/\mE b d w=0 then yU (mN a d w) (mN b d w) else false
noncomputable def QA (a b:List Int) (d w:Int):Int:=if mE a d w=0 then mE b d w else mE a d w
noncomputable def mH (b:List Int) (d w:Int):Int:=match yI b with
 |some l=>Qq l d w
 |none=>0
def vM (e:Int):PV:=if e=0 then .v .nilIface else .ifc 152 (.agg [I e])
theorem va (e:Int):yC (.pv (vM e))=some (decide (e=0)):=by
 unfold vM
 split
 ·rename_i h;rw[h];rfl
 ·rename_i h;rw[decide_eq_false h];rfl
theorem Wc (e:Int):ev 104 [.pv (I e)] []=ok (vM e):=by
 rw[ziQ]
 unfold vM
 by_cases h:e=0
 ·rw[h];rfl
 ·rw[if_neg h,beq_eq_false_iff_ne.2 h];rfl
theorem YX (e:Int):ev 56 [.pv (vM e)] []=ok (I e):=by
 rw[ziR]
 unfold vM
 by_cases h:e=0
 ·rw[h];rfl
 ·rw[if_neg h];rfl
theorem YW {d w b:Int} (hd:d<=1000) (hw:w<=268435455):ev 55 [.pv (.agg [I d,I w,I b])] []=ok (.agg [I d,I w,I b]):=by
 rw[ziP,if_neg (by omega),if_neg (by omega)]
theorem ZR {b:List Int} (hb:∀ x∈b,zj x) (hl:b.length<=1099511627776):ev 57 [.pv (.sl 1 (bs b))] []=ok (.tup [.sl 1 (zG ((yI b).getD [])),vM (if yI b=none then 1 else 0)]):=by
 rw[ziS,zdv hb hl]
 cases h:yI b with
 |none=>
  dsimp only[ZF,zk,z6,zm3,zm2,zm4]
  rw[Wc]
  rfl
 |some l=>
  dsimp only[ZF,zk,z6,zm3,zm2,zm4]
  rw[Wc]
  rfl
theorem rC {l:List (List Int)} (hl:zF l) (hs:Sm l) {d w:Int} (hw:w<=134217728) (h0:yV l d w=0):(xK l d w).length<536870912:=by
 obtain ⟨ho,hb,hx⟩:=QC hl hs hw h0
 obtain ⟨_,_,_,_,_,_,h7,_⟩:=zfU hl hs hw h0
 omega
theorem zdI {b:List Int} (hb:∀ x∈b,zj x) (hl:b.length<=1099511627776) {d w o:Int} (hd:d<=1099511627775) (hw:w<=134217728):ev 54 [.pv (.sl 1 (bs b)),.pv (.agg [I d,I w,I o])] []=some (.ret (.tup 0 (.slu 5 1 (bs (Yt b d w))) [.v .nilIface,vM (mE b d w)]),[]):=by
 rw[ziO,ZR hb hl]
 unfold Yt mE
 cases h:yI b with
 |none=>
  rw[if_pos rfl]
  dsimp only[zk,z6,zm3,zm2,zm4]
  rw[va]
  rfl
 |some l=>
  obtain ⟨h1,h2⟩:=Z6 hb hl h
  rw[if_neg (by simp),zmY]
  dsimp only[zk,z6,zm3,zm2,zm4]
  rw[va,zdH h1 h2 hd hw]
  dsimp only[zk,z6,zm3,zm2,zm4,z7]
  by_cases h0:yV l d w=0
  ·rw[h0,show ((0:Int) != 0)=false from rfl,qx,if_pos h0,if_pos rfl]
   dsimp only[zu]
   have hS:=zdz (rC h1 h2 hw h0)
   have hS':ev 105 [.pv (.sl 1 [.sl 1 (ws (xK l d w))])] []=_:=hS
   rw[hS']
   dsimp only[zl]
   rw[Zk]
   dsimp only[zm4,zm3,zm2]
   rw[yu]
   dsimp only[zm4]
   rw[Wc]
   rfl
  ·rw[ww h0,if_neg h0]
   dsimp only[zc]
   rw[Wc]
   rfl
theorem uL {b:List Int} (hb:∀ x∈b,zj x) (hl:b.length<=1099511627776) {d w o:Int} (hd:d<=1000) (hw:w<=134217728):ev 16 [.pv (.sl 1 (bs b)),.pv (.agg [I d,I w,I o])] []=some (.ret (.tup 0 (.slu 5 1 (bs (Yt b d w))) [.v .nilIface,I (mE b d w)]),[]):=by
 rw[ziJ,YW hd (by omega)]
 dsimp only[zk]
 rw[zdI hb hl (by omega) hw]
 dsimp only[zl]
 rw[Zk]
 dsimp only[zm4,zm3,zm2]
 rw[yu]
 dsimp only[zm4]
 rw[YX]
 rfl
theorem gr {b:List Int} (hb:∀ x∈b,zj x) (hl:b.length<=1099511627776) {d w o:Int} (hd:d<=1099511627775) (hw:w<=134217728):ev 59 [.pv (.sl 1 (bs b)),.pv (.agg [I d,I w,I o])] []=ok (.tup [.sl 1 (zG ((yI b).getD [])),vM (mE b d w)]):=by
 rw[ziT,ZR hb hl]
 unfold mE
 cases h:yI b with
 |none=>
  rw[if_pos rfl]
  dsimp only[zk,z6,zm3,zm2,zm4]
  rw[va]
  rfl
 |some l=>
  obtain ⟨h1,h2⟩:=Z6 hb hl h
  rw[if_neg (by simp),zmY]
  dsimp only[zk,z6,zm3,zm2,zm4]
  rw[va,KI h1 h2 hd (by omega)]
  dsimp only[zk,z6,zm3,zm2,zm4]
  rw[Wc]
  rfl
theorem KR {a b:List Int} (ha:∀ x∈a,zj x) (hla:a.length<=1099511627776) (hb:∀ x∈b,zj x) (hl:b.length<=1099511627776) {d w o:Int} (hd:d<=1000) (hw:w<=134217728):ev 18 [.pv (.sl 1 (bs a)),.pv (.sl 1 (bs b)),.pv (.agg [I d,I w,I o])] []=ok (.tup [Bo (Qg a b d w),I (QA a b d w)]):=by
 rw[ziK,YW hd (by omega)]
 dsimp only[zk,ze9,yF,zo,zc]
 rw[gr ha hla (by omega) hw]
 dsimp only[zk,z6,zm3,zm2,zm4]
 rw[va]
 unfold Qg QA
 by_cases h0:mE a d w=0
 ·rw[decide_eq_true h0,if_pos h0]
  dsimp only[zm4,vp,zu]
  rw[gr hb hl (by omega) hw]
  dsimp only[zk,z6,zm3,zm2,zm4]
  rw[va]
  by_cases h1:mE b d w=0
  ·obtain ⟨la,e1⟩:∃ l,yI a=some l:=by
    unfold mE at h0
    split at h0
    ·rename_i l h;exact ⟨l,h⟩
    ·cases h0
   obtain ⟨lb,e2⟩:∃ l,yI b=some l:=by
    unfold mE at h1
    split at h1
    ·rename_i l h;exact ⟨l,h⟩
    ·cases h1
   obtain ⟨a1,a2⟩:=Z6 ha hla e1
   obtain ⟨b1,b2⟩:=Z6 hb hl e2
   have e3:mE a d w=yV la d w:=by unfold mE;rw[e1]
   have e4:mE b d w=yV lb d w:=by unfold mE;rw[e2]
   rw[decide_eq_true h1,if_pos ⟨h0,h1⟩,e1,e2,zmY,zmY]
   dsimp only[zm4,vp,zu]
   rw[YV a1 a2 b1 b2 (by omega) (by omega)]
   have hE:cE la lb d w=yV lb d w:=by unfold cE;rw[if_pos (by omega)]
   have hB:cB la lb d w=yU (mN a d w) (mN b d w):=by
    unfold cB mN
    rw[if_pos (by rw[hE];omega),e1,e2]
    rfl
   rw[hE,hB,e4]
   rfl
  ·rw[decide_eq_false h1,if_neg (fun h=>h1 h.2)]
   dsimp only[zm4,QD,zc]
   rw[YX]
   rfl
 ·rw[decide_eq_false h0,if_neg h0,if_neg (fun h=>h0 h.1)]
  dsimp only[zm4,QD,zc]
  rw[YX]
  rfl
theorem gg {b:List Int} (hb:∀ x∈b,zj x) (hl:b.length<=1099511627776) {d w o:Int} (hd:d<=1000) (hw:w<=134217728):ev 17 [.pv (.sl 1 (bs b)),.pv (.agg [I d,I w,I o])] []=ok (.tup [U (mH b d w),I (mE b d w)]):=by
 rw[ziL,ZR hb hl]
 unfold mH mE
 cases h:yI b with
 |none=>
  rw[if_pos rfl]
  dsimp only[zk,z6,zm3,zm2,zm4]
  rw[va]
  dsimp only[zm4]
  rw[show (!decide ((1:Int)=0))=true from rfl]
  dsimp only[zc]
  rw[YX]
  rfl
 |some l=>
  obtain ⟨h1,h2⟩:=Z6 hb hl h
  rw[if_neg (by simp),zmY]
  dsimp only[zk,z6,zm3,zm2,zm4]
  rw[va,YW hd (by omega)]
  dsimp only[zk,zm4]
  rw[zdU h1 h2 (by omega) hw]
  rfl
theorem uV {b:List Int} (hb:∀ x∈b,zj x) (d w o:Int):∃ bl:Bool,ev 15 [.pv (.sl 1 (bs b)),.pv (.agg [I d,I w,I o])] []=ok (Bo bl)/\(bl=true->b.length<=4000/\d<=40/\w<=2000):=by
 rw[zgv,zK]
 by_cases h1:(b.length:Int)>4000
 ·rw[decide_eq_true h1]
  exact ⟨false,rfl,fun h=>by cases h⟩
 rw[decide_eq_false h1]
 by_cases h2:d>40
 ·rw[decide_eq_true h2]
  exact ⟨false,rfl,fun h=>by cases h⟩
 rw[decide_eq_false h2]
 by_cases h3:w>2000
 ·rw[decide_eq_true h3]
  exact ⟨false,rfl,fun h=>by cases h⟩
 rw[decide_eq_false h3,zd8 hb (by omega)]
 cases h:yI b with
 |none=>exact ⟨true,rfl,fun _=>by omega⟩
 |some l=>
  obtain ⟨h4,h5⟩:=Z6 hb (by omega) h
  obtain ⟨bl,e1,_⟩:=zdB h4 d w o
  refine ⟨bl,?_,fun _=>by omega⟩
  dsimp only[ZF,zk,z6,zm3,zm2,zm4,z7,zu]
  rw[show ((0:Int) != 0)=false from rfl]
  dsimp only[zu]
  rw[e1]
  rfl
def vO (c:Int):Int:=if c=0 then 0 else 1
def wq:List Int->Int
 |[]=>0
 |c::l=>vO c+2*wq l
def nz (l:List Int):List Int:=l.filter fun c=>!decide (c=0)
theorem zi6 (c:Int):0<=vO c/\vO c<=1:=by unfold vO;split<;>omega
theorem zcm:∀ (l:List Int) (c:Int),wq (l++[c])=wq l+vO c*2^l.length
 |[],c=>by simp[wq]
 |d::l,c=>by
  show vO d+2*wq (l++[c])=vO d+2*wq l+vO c*2^(l.length+1)
  rw[zcm l c,Int.pow_succ,Int.mul_add,←Int.mul_assoc,Int.mul_comm 2 (vO c),Int.mul_comm (2^l.length) 2,←Int.mul_assoc]
  omega
theorem qD:∀ l:List Int,0<=wq l/\wq l<2^l.length
 |[]=>by decide
 |c::l=>by
  have:=qD l
  have h:=zi6 c
  rw[zm6,Int.pow_succ]
  unfold wq
  omega
theorem zcu {l:List Int} {i:Nat} (h:i<l.length):l.take (i+1)=l.take i++[l.getD i 0]:=by
 rw[List.take_succ_eq_append_getElem h,List.getD_eq_getElem?_getD,zmS h]
 rfl
theorem zjl:∀ (i:Fin 8) (t:Fin 128),t.val<2^i.val->IntKind.wrap .u8 (BitVec.ofInt 8 (t.val:Int) ||| BitVec.ofInt 8 (IntKind.wrap .u8 (1*2^(min (IntKind.wrap .u64 (i.val:Int)).toNat 8)))).toNat=(t.val:Int)+2^i.val:=by decide +kernel
theorem zje:∀ i:Fin 8,yN .shl (IntKind.wrap .u64 (i.val:Int))=true:=by decide +kernel
theorem zjf:∀ i:Fin 8,yN .shr (IntKind.wrap .u64 (i.val:Int))=true:=by decide +kernel
theorem zjd {l:List Int} (h8:l.length=8):∀ (c i:Nat),i+c=8->Vc (wq (l.take i)) (.sl 1 (bs l)) 8 i=ok (U8 (wq l)):=by
 intro c
 induction c with
 |zero=>
  intro i hi
  rw[zcq,decide_eq_false (by omega),List.take_of_length_le (by omega)]
  rfl
 |succ c ih=>
  intro i hi
  have hg:(bs l)[(i:Int).toNat]? = some (U8 (l.getD i 0)):=ZU rfl (by omega)
  have hn:=ih (i+1) (by omega)
  have hr:=qD (l.take i)
  have hp:(2:Int)^i<=128:=by
   have:(2:Nat)^i<=2^7:=Nat.pow_le_pow_right (by decide) (by omega)
   exact_mod_cast this
  rw[zcu (by omega),zcm,zm0,Nat.min_eq_left (by omega)] at hn
  rw[zm0,Nat.min_eq_left (by omega)] at hr
  rw[zcq,dT ((i:Int)<8)]
  dsimp only[yx,zm4,zc]
  rw[zK,h8,dT (0<=(i:Int)),dT ((i:Int)<((8:Nat):Int)),show decide ((1:Nat)=1)=true from rfl]
  dsimp only[zo,zc]
  rw[hg]
  dsimp only[zm4,yi,zm2,vQ]
  rw[ze (x:=(i:Int)+1)]
  by_cases h0:l.getD i 0=0
  ·rw[h0,show ((0:Int) != 0)=false from rfl]
   rw[h0,show vO 0=0 from rfl,Int.zero_mul,Int.add_zero] at hn
   exact hn
  ·have hq:=zjl ⟨i,by omega⟩ ⟨(wq (l.take i)).toNat,by omega⟩ (by
    have:((wq (l.take i)).toNat:Int)<((2^i:Nat):Int):=by push_cast;omega
    exact_mod_cast this)
   have hs:=zje ⟨i,by omega⟩
   dsimp only at hq hs
   rw[show ((wq (l.take i)).toNat:Int)=wq (l.take i) by omega] at hq
   rw[ww h0,hs,hq]
   rw[show vO (l.getD i 0)=1 from if_neg h0,Int.one_mul] at hn
   exact hn
theorem zi5 {l:List Int} (h8:l.length=8):∀ (c i:Nat),i+c=8->Va (bs (nz (l.take i))) (.sl 1 (bs l)) 8 i=ok (.sl 1 (bs (nz l))):=by
 intro c
 induction c with
 |zero=>
  intro i hi
  rw[zcn,decide_eq_false (by omega),List.take_of_length_le (by omega)]
  rfl
 |succ c ih=>
  intro i hi
  have hg:(bs l)[(i:Int).toNat]? = some (U8 (l.getD i 0)):=ZU rfl (by omega)
  have hn:=ih (i+1) (by omega)
  have hf:(nz (l.take i)).length<=8:=by
   have:=List.length_filter_le (fun c:Int=>!decide (c=0)) (l.take i)
   rw[zm0] at this
   unfold nz
   omega
  rw[zcu (by omega)] at hn
  rw[zcn,dT ((i:Int)<8)]
  dsimp only[yx,zm4,zc]
  rw[zK,h8,dT (0<=(i:Int)),dT ((i:Int)<((8:Nat):Int)),show decide ((1:Nat)=1)=true from rfl]
  dsimp only[zo,zc]
  rw[hg]
  dsimp only[zm4,yi,zm2,vQ]
  rw[ze (x:=(i:Int)+1)]
  by_cases h0:l.getD i 0=0
  ·rw[h0,show ((0:Int) != 0)=false from rfl]
   rw[h0,show nz (l.take i++[0])=nz (l.take i) by simp[nz]] at hn
   exact hn
  ·rw[ww h0,zK,yL (by omega) (by omega)]
   rw[show nz (l.take i++[l.getD i 0])=nz (l.take i)++[l.getD i 0] by simp only[nz,List.filter_append,List.filter_cons,decide_eq_false h0];rfl,Zt] at hn
   exact hn
theorem KE (w:Int):ev 117 [.pv (.sl 1 [U w])] []=ok (.sl 1 (bs (w8 w))):=by
 have:=ZQ [w] (show 1<=17592186044416 by decide)
 rw[show zM [w]=w8 w from List.append_nil _] at this
 exact this
def ve (w:Int):Int:=wq (w8 w)
def YD (w:Int):List Int:=nz (w8 w)
theorem qE (w:Int):0<=ve w/\ve w<256:=by
 have:=qD (w8 w)
 rw[wt,show (2:Int)^8=256 from rfl] at this
 exact this
theorem za1 (w:Int):(YD w).length<=8:=by
 have:=List.length_filter_le (fun c:Int=>!decide (c=0)) (w8 w)
 rw[wt] at this
 exact this
theorem uS (w:Int):ev 115 [.pv (U w)] []=ok (U8 (ve w)):=by
 rw[zll,KE]
 dsimp only[zk,yx,zm4]
 rw[zK]
 exact zjd (wt w) 8 0 rfl
theorem zd0 (w:Int):ev 185 [.pv (U w)] []=ok (.sl 1 (bs (YD w))):=by
 rw[zlj,KE]
 dsimp only[zk,yx,zm4]
 rw[zK]
 exact zi5 (wt w) 8 0 rfl
theorem KL {t:Int} (h:0<=t/\t<256):ev 188 [.pv (U8 t)] []=ok (I (pop8 t.toNat)):=by
 rw[zlm,ziI]
 unfold QO
 rw[decide_eq_true h.1,decide_eq_true h.2]
 rfl
noncomputable def xy (w:Int):Bool:=decide ((pop8 (ve w).toNat:Int)≥7)
theorem zdn (w:Int):ev 114 [.pv (U w)] []=ok (Bo (xy w)):=by
 rw[zlk,uS]
 dsimp only[zk]
 rw[KL (qE w)]
 rfl
def runN (p:Int->Bool):Nat->List Int->Nat
 |0,_=>0
 |_+1,[]=>0
 |k+1,x::l=>if p x=true then runN p k l+1 else 0
theorem W4 (p:Int->Bool):∀ (k:Nat) (l:List Int),runN p k l<=k/\runN p k l<=l.length
 |0,_=>⟨Nat.zero_le _,Nat.zero_le _⟩
 |_+1,[]=>⟨Nat.zero_le _,Nat.zero_le _⟩
 |k+1,x::l=>by
  have:=W4 p k l
  rw[runN,zm6]
  split<;>omega
def wC (x:Int):Bool:=x==0
theorem zkP {l:List Int} (hl:l.length<=17592186044416):∀ (c n:Nat),n+c=255->QK (ws l) n=ok (I (n+runN wC c (l.drop n):Nat)):=by
 intro c
 induction c with
 |zero=>
  intro n hn
  rw[zbf,yj,dF ((n:Int)<255)]
  by_cases h:(n:Int)<l.length
  ·rw[decide_eq_true h];rfl
  ·rw[decide_eq_false h];rfl
 |succ c ih=>
  intro n hn
  rw[zbf,yj,dT ((n:Int)<255)]
  by_cases h:n<l.length
  ·have hn1:=ih (n+1) (by omega)
   have hg:(ws l)[(n:Int).toNat]? = some (U l[n]):=Yk h
   rw[dT ((n:Int)<l.length),dT (0<=(n:Int)),hg]
   dsimp only[zo,zm4,yi,zm2,zc]
   rw[zju,List.drop_eq_getElem_cons h,runN]
   dsimp only[zk,y4,zm4]
   by_cases h0:l[n]=0
   ·rw[h0,show ((0:Int)==0)=true from rfl,show wC 0=true from rfl,if_pos rfl,ze (x:=(n:Int)+1)]
    rw[show n+(runN wC c (l.drop (n+1))+1)=n+1+runN wC c (l.drop (n+1)) by omega]
    exact hn1
   ·have h1:(l[n]==0)=false:=beq_eq_false_iff_ne.2 h0
    rw[h1,show wC l[n]=false from h1,if_neg (by decide)]
    rfl
  ·rw[dF ((n:Int)<l.length),List.drop_eq_nil_of_le (by omega)]
   rfl
theorem zkE {l:List Int} (hl:l.length<=17592186044416):∀ (c n:Nat),n+c=255->QL (ws l) n=ok (I (n+runN xy c (l.drop n):Nat)):=by
 intro c
 induction c with
 |zero=>
  intro n hn
  rw[zbg,yj,dF ((n:Int)<255)]
  by_cases h:(n:Int)<l.length
  ·rw[decide_eq_true h];rfl
  ·rw[decide_eq_false h];rfl
 |succ c ih=>
  intro n hn
  rw[zbg,yj,dT ((n:Int)<255)]
  by_cases h:n<l.length
  ·have hn1:=ih (n+1) (by omega)
   have hg:(ws l)[(n:Int).toNat]? = some (U l[n]):=Yk h
   rw[dT ((n:Int)<l.length),dT (0<=(n:Int)),hg]
   dsimp only[zo,zm4,yi,zm2,zc]
   rw[zdn,List.drop_eq_getElem_cons h,runN]
   dsimp only[zk,y4,zm4]
   cases h0:xy l[n] with
   |true=>
    rw[if_pos rfl,ze (x:=(n:Int)+1)]
    rw[show n+(runN xy c (l.drop (n+1))+1)=n+1+runN xy c (l.drop (n+1)) by omega]
    exact hn1
   |false=>
    rw[if_neg (by decide)]
    rfl
  ·rw[dF ((n:Int)<l.length),List.drop_eq_nil_of_le (by omega)]
   rfl
theorem zeb {l:List Int} (hl:l.length<=17592186044416):ev 186 [.pv (.sl 1 (ws l)),.pv (.v (.func (.func 187) #[] #[]))] []=ok (I (runN wC 255 l:Nat)):=by
 rw[zjx]
 have:=zkP hl 255 0 rfl
 rw[Nat.zero_add] at this
 exact this
theorem zec {l:List Int} (hl:l.length<=17592186044416):ev 186 [.pv (.sl 1 (ws l)),.pv (.v (.func (.func 114) #[] #[]))] []=ok (I (runN xy 255 l:Nat)):=by
 rw[zjy]
 have:=zkE hl 255 0 rfl
 rw[Nat.zero_add] at this
 exact this
noncomputable def pk:Nat->List Int->List Int
 |0,_=>[]
 |_+1,[]=>[]
 |f+1,w::l=>
  if ve w=0 then ve w::YD w++((runN wC 255 l:Int)::pk f (l.drop (runN wC 255 l)))
  else if ve w=255 then ve w::YD w++((runN xy 255 l:Int)::(zM (l.take (runN xy 255 l))++pk f (l.drop (runN xy 255 l))))
  else ve w::YD w++pk f l
theorem zmB (w:Int) (t:List Int):((ws (w::t)).take ((ws (w::t)).length:Int).toNat).drop 1=ws t:=by
 rw[zmX,List.take_of_length_le (Nat.le_refl _)]
 rfl
theorem zc8 (t:List Int) (n:Nat):((ws t).take ((ws t).length:Int).toNat).drop (n:Int).toNat=ws (t.drop n):=by
 rw[zmX,zmX,List.take_of_length_le (Nat.le_refl _)]
 simp[ws]
theorem zmy (t:List Int) (n:Nat):((ws t).take (n:Int).toNat).drop 0=ws (t.take n):=by
 rw[zmX,List.drop_zero]
 simp[ws]
theorem KZ (a:List Int) (x:Int):bs a++[U8 x]=bs (a++[x]):=by simp[bs]
theorem zjw:∀ (f:Nat) (l out:List Int),l.length<=f->out.length+16*l.length<=17592186044416->Xz (ws l) (bs out)=ok (.sl 1 (bs (out++pk f l))):=by
 intro f
 induction f with
 |zero=>
  intro l out hl ho
  have:l=[]:=List.length_eq_zero_iff.1 (by omega)
  rw[this,J3,pk,List.append_nil]
  rfl
 |succ f ih=>
  intro l out hl ho
  cases l with
  |nil=>
   rw[J3,pk,List.append_nil]
   rfl
  |cons w t=>
   rw[zm6] at hl ho
   have hz:=za1 w
   have ht:=qE w
   rw[J3,decide_eq_true (show (((ws (w::t)).length:Nat):Int)>0 by rw[yj,zm6];omega),show (ws (w::t))[0]? = some (U w) from rfl,zmB]
   dsimp only[zm4,yi,zm2,zc]
   rw[uS]
   dsimp only[zk,yi,vQ,zm4]
   rw[zd0,zK,yL (by omega) (by omega)]
   dsimp only[zk,yx,zm4,zc]
   rw[KZ,zK,zK,yL (by rw[zm5];show (_+1+_)*1<=_;omega) (by rw[zm5];show _+1+_<=_;omega),decide_eq_true (show 1<=(((ws (w::t)).length:Nat):Int) by rw[yj,zm6];omega),decide_eq_true (Int.le_refl _),←Zt]
   dsimp only[zo,zc]
   have hlen:(out++[ve w]++YD w).length<=out.length+9:=by simp;omega
   by_cases h0:ve w=0
   ·have hrn:=W4 wC 255 t
    rw[beq_iff_eq.2 h0,zeb (by omega)]
    dsimp only[zk,xD,zm4,zc]
    rw[zK,yL (by omega) (by omega),yj,dT (0<=((runN wC 255 t:Nat):Int)),dT (((runN wC 255 t:Nat):Int)<=(t.length:Int)),decide_eq_true (Int.le_refl _),←yj t,zc8,Vn,show ((runN wC 255 t:Nat):Int)%256=((runN wC 255 t:Nat):Int) by omega,KZ]
    dsimp only[zo,zc]
    rw[ih _ _ (by rw[zm1];omega) (by rw[zm5,zm1];show _+1+_<=_;omega),pk,if_pos h0]
    simp only[List.append_assoc,List.cons_append,List.nil_append]
    rfl
   ·rw[beq_eq_false_iff_ne.2 h0]
    dsimp only[zu]
    by_cases h1:ve w=255
    ·have hrn:=W4 xy 255 t
     rw[beq_iff_eq.2 h1,zec (by omega)]
     dsimp only[zk,xD,zm4,zc]
     have hB:=ZQ (t.take (runN xy 255 t)) (by rw[zm0];omega)
     have hbl:(zM (t.take (runN xy 255 t))).length=8*runN xy 255 t:=by rw[xJ,zm0];omega
     rw[zK,yL (by omega) (by omega),yj,dT (0<=((runN xy 255 t:Nat):Int)),dT (((runN xy 255 t:Nat):Int)<=(t.length:Int)),zmy,hB]
     dsimp only[zo,zk,yx,zm4,zc]
     rw[Vn,show ((runN xy 255 t:Nat):Int)%256=((runN xy 255 t:Nat):Int) by omega,KZ,zK,zK,hbl,yL (by rw[zm5];show (_+1+_)*1<=_;omega) (by rw[zm5];show _+1+_<=_;omega),decide_eq_true (Int.le_refl _),←Zt,←yj t,zc8]
     dsimp only[zc]
     rw[ih _ _ (by rw[zm1];omega) (by rw[zm5,zm5,zm1,hbl];show _+1+_+_<=_;omega),pk,if_neg h0,if_pos h1]
     simp only[List.append_assoc,List.cons_append,List.nil_append]
     rfl
    ·rw[beq_eq_false_iff_ne.2 h1]
     dsimp only[zu]
     rw[ih _ _ (by omega) (by omega),pk,if_neg h0,if_neg h1]
     simp only[List.append_assoc,List.cons_append,List.nil_append]
     rfl
noncomputable def pack (l:List Int):List Int:=pk l.length l
theorem zd5 {l:List Int} (hl:l.length<=1099511627776):ev 113 [.pv (.sl 1 (ws l))] []=ok (.sl 1 (bs (pack l))):=by
 rw[zjv]
 exact zjw l.length l [] (Nat.le_refl _) (by show 0+_<=_;omega)
theorem zd4 {b:List Int} (hb:∀ x∈b,zj x) (hl:b.length<=1099511627776) {n:Nat} (hn:8*n=b.length):ev 61 [.pv (.sl 1 (bs b))] []=ok (.tup [.sl 1 (bs (pack (zS n b))),I 0]):=by
 rw[zjt,KO hb hl hn]
 dsimp only[zk,z6,zm3,zm2,zm4,y4,vp,zu]
 rw[zd5 (by rw[xp];omega)]
 rfl
def wj:Nat->Int->Nat
 |0,_=>0
 |n+1,t=>(if t%2=1 then 1 else 0)+wj n (t/2)
theorem pop8_eq:∀ t:Fin 256,pop8 t.val=wj 8 (t.val:Int):=by decide +kernel
theorem zbr {t:Int} (h:0<=t/\t<256):pop8 t.toNat=wj 8 t:=by
 have:=pop8_eq ⟨t.toNat,by omega⟩
 dsimp only at this
 rw[this,Int.toNat_of_nonneg h.1]
theorem zk4:∀ (i:Fin 8) (t:Fin 256),((IntKind.wrap .u8 (BitVec.ofInt 8 (Int.fdiv (t.val:Int) (2^(min (IntKind.wrap .u64 (i.val:Int)).toNat 8))) &&& BitVec.ofInt 8 1).toNat)==1)=decide ((t.val:Int)/2^i.val%2=1):=by decide +kernel
def Z1:Nat->Int->List Int->List Int
 |0,_,_=>[]
 |n+1,t,b=>if t%2=1 then b.headD 0::Z1 n (t/2) b.tail else 0::Z1 n (t/2) b
def Yi:List Int->Int
 |[]=>0
 |c::l=>c+256*Yi l
def JD (t:Int) (b:List Int):Int:=Yi (Z1 8 t b)
theorem zhD {b:List Int} (hb:∀ x∈b,zj x) (hl:b.length<=17592186044416) {t:Int} (ht:0<=t/\t<256) (p2:PV):∀ (c i k:Nat) (w:Int),i+c=8->k+wj c (t/2^i)<=b.length->0<=w/\w<2^(8*i)->
  Vb t (bs b) p2 (U w) k i=ok (.tup [U (w+2^(8*i)*Yi (Z1 c (t/2^i) (b.drop k))),p2,Bo true]):=by
 intro c
 induction c with
 |zero=>
  intro i k w hi hk hw
  rw[zco,decide_eq_false (by omega),Z1]
  show ok _=_
  rw[Yi,Int.mul_zero,Int.add_zero]
 |succ c ih=>
  intro i k w hi hk hw
  have hs:=zjf ⟨i,by omega⟩
  have hbit:=zk4 ⟨i,by omega⟩ ⟨t.toNat,by omega⟩
  dsimp only at hs hbit
  rw[Int.toNat_of_nonneg ht.1] at hbit
  have hdiv:t/2^i/2=t/2^(i+1):=by rw[Int.pow_succ,Int.ediv_ediv_of_nonneg (Int.pow_nonneg (by decide))]
  have hpow:(2:Int)^(8*(i+1))=2^(8*i)*256:=by rw[show 8*(i+1)=8*i+8 by omega,Int.pow_add];rfl
  have hpos:(0:Int)<2^(8*i):=Int.pow_pos (by decide)
  rw[wj,hdiv] at hk
  rw[zco,dT ((i:Int)<8),hs,hbit,ze (x:=(i:Int)+1),Z1,hdiv]
  by_cases h1:t/2^i%2=1
  ·rw[if_pos h1] at hk
   have hg:(bs b)[(k:Int).toNat]? = some (U8 (b.getD k 0)):=ZU rfl (by omega)
   have hv:=yR hb k
   rw[decide_eq_true h1,if_pos h1,zK,dT (0<=(k:Int)),dT ((k:Int)<b.length),hg]
   dsimp only[zo,zm4,yi,zm2,xD,zc]
   rw[wJ (x:=b.getD k 0) (by omega),ze (x:=8*(i:Int)),ze (x:=(k:Int)+1),show 8*(i:Int)=((8*i:Nat):Int) by push_cast;rfl]
   have hI:=Zs (w:=w) (v:=b.getD k 0) (i:=8*i) (m:=8) hw (by omega) (by decide) (by omega)
   rw[show (2:Int)^8=256 from rfl,show b.getD k 0%256=b.getD k 0 by omega] at hI
   have hI':ev 291 [.pv (U w),.pv (I ((8*i:Nat):Int)),.pv (I 8),.pv (U (b.getD k 0))] []=_:=hI
   rw[hI']
   dsimp only[zl,zt,zm4,zk,yT,yQ]
   have hm:b.getD k 0*2^(8*i)<=255*2^(8*i):=Int.mul_le_mul_of_nonneg_right (by omega) (by omega)
   have hm0:0<=b.getD k 0*2^(8*i):=Int.mul_nonneg (by omega) (by omega)
   have:=ih (i+1) (k+1) (w+b.getD k 0*2^(8*i)) (by omega) (by omega) (by rw[hpow];omega)
   refine this.trans ?_
   have e1:(b.drop k).tail=b.drop (k+1):=by rw[List.tail_drop]
   have e2:(b.drop k).headD 0=b.getD k 0:=by rw[List.headD_eq_head?_getD,List.head?_drop,List.getD_eq_getElem?_getD]
   rw[e1,e2,Yi,hpow]
   generalize Yi (Z1 c (t/2^(i+1)) (b.drop (k+1)))=v
   rw[Int.mul_add,Int.mul_comm (2^(8*i)) (b.getD k 0),Int.mul_assoc,Int.add_assoc]
  ·rw[if_neg h1] at hk
   rw[decide_eq_false h1,if_neg h1]
   dsimp only[zu,zc]
   have:=ih (i+1) k w (by omega) (by omega) (by rw[hpow];omega)
   refine this.trans ?_
   rw[Yi,hpow]
   generalize Yi (Z1 c (t/2^(i+1)) (b.drop k))=v
   rw[Int.zero_add,Int.mul_assoc]
theorem zdp {b:List Int} {t:Int} (ht:0<=t/\t<256) (h:b.length<wj 8 t):ev 266 [.pv (U8 t),.pv (.sl 1 (bs b))] []=ok (.tup [U 0,I 0,Bo false]):=by
 rw[zcp,KL ht,zbr ht]
 dsimp only[zl,zt,zm4,z7,zk,yT,yQ]
 rw[zK,decide_eq_true (by omega)]
 rfl
theorem zdq {b:List Int} (hb:∀ x∈b,zj x) (hl:b.length<=17592186044416) {t:Int} (ht:0<=t/\t<256) (h:wj 8 t<=b.length):ev 266 [.pv (U8 t),.pv (.sl 1 (bs b))] []=ok (.tup [U (JD t b),I (wj 8 t),Bo true]):=by
 rw[zcp,KL ht,zbr ht]
 dsimp only[zl,zt,zm4,z7,zk,yT,yQ]
 rw[zK,decide_eq_false (by omega)]
 have:=zhD hb hl ht (I (wj 8 t)) 8 0 0 0 rfl (by rw[Int.pow_zero,Int.ediv_one];omega) (by decide)
 rw[Int.pow_zero,Int.ediv_one,Int.one_mul,Int.zero_add] at this
 exact this
def dh (inp out:List Int) (lim:Int):za:=[[.pv (.sl 1 (bs inp)),.slu 5 1 (bs out),.pv (I lim)]]
def wR:Nat->PV
 |0=>.v .nilIface
 |1=>.sen 1
 |_+2=>.sen 2
theorem ZC (e:Nat):yC (.pv (wR e))=some (decide (e=0)):=by
 rcases e with _|_|e<;>rfl
theorem Ze (a b c:AV):decide ([a,b,c].length=3)=true:=rfl
theorem zfD (x:List Int) (n:Nat):((bs x).take ((bs x).length:Int).toNat).drop (n:Int).toNat=bs (x.drop n):=by
 rw[zmX,zmX,List.take_of_length_le (Nat.le_refl _)]
 simp[bs]
theorem zdS {inp out:List Int} {lim:Int} (w:Int) (ho:out.length<=17592186044416):ev 267 [.ptr 0 0,.pv (U w)] (dh inp out lim)=if (out.length:Int)+8>lim then some (.ret (.pv (wR 1)),dh inp out lim) else some (.ret (.pv (wR 0)),dh inp (out++w8 w) lim):=by
 unfold dh
 rw[zlV,zK,ze (x:=(out.length:Int)+8)]
 by_cases h:(out.length:Int)+8>lim
 ·rw[decide_eq_true h,if_pos h]
  rfl
 ·rw[decide_eq_false h,if_neg h,KE]
  dsimp only[zl,zt,zm4,yx,zu,zk,yT,yQ]
  rw[zK,wt,yL (by omega) (by omega),←Zt]
  rfl
structure Dr where
 e:Nat
 i:List Int
 o:List Int
def xB (t:Int) (inp out:List Int) (lim:Int):Dr :=
 if inp.length<wj 8 t then ⟨2,inp,out⟩
 else if (out.length:Int)+8>lim then ⟨1,inp.drop (wj 8 t),out⟩ else ⟨0,inp.drop (wj 8 t),out++w8 (JD t inp)⟩
theorem KS {inp out:List Int} {lim:Int} (hb:∀ x∈inp,zj x) (hl:inp.length<=17592186044416) (ho:out.length<=17592186044416) {t:Int} (ht:0<=t/\t<256):ev 225 [.ptr 0 0,.pv (U8 t)] (dh inp out lim)=some (.ret (.pv (wR (xB t inp out lim).e)),dh (xB t inp out lim).i (xB t inp out lim).o lim):=by
 unfold xB
 have hu:ev 225 [.ptr 0 0,.pv (U8 t)] (dh inp out lim)=_:=zlW (bs inp) (bs out) lim t
 rw[hu]
 by_cases h1:inp.length<wj 8 t
 ·rw[zdp ht h1,if_pos h1]
  rfl
 ·rw[zdq hb hl ht (by omega),if_neg h1]
  dsimp only[zl,zt,zm4,ZD,zm3,zm2,y4,vp,zu,xD,zk,yT,yQ,z6]
  rw[zfD,zK,dT (0<=((wj 8 t:Nat):Int)),dT (((wj 8 t:Nat):Int)<=(inp.length:Int)),decide_eq_true (Int.le_refl _)]
  have hE:=zdS (inp:=inp.drop (wj 8 t)) (lim:=lim) (JD t inp) ho
  unfold dh at hE
  dsimp only[zo,zc]
  rw[hE]
  by_cases h2:(out.length:Int)+8>lim
  ·rw[if_pos h2,if_pos h2]
   dsimp only[zl,zm2,xk,zt,zm4,zc,zm3,zk,yT,yQ]
   rw[yu]
   rfl
  ·rw[if_neg h2,if_neg h2]
   dsimp only[zl,zm2,xk,zt,zm4,zc,zm3,zk,yT,yQ]
   rw[yu]
   rfl
structure Kp (r:Dr) (inp out:List Int) (n:Nat):Prop where
 bi:∀ x∈r.i,zj x
 li:r.i.length<=inp.length
 bo:∀ x∈r.o,zj x
 lo:r.o.length<=out.length+n
theorem zcU (w:Int):∀ x∈w8 w,zj x:=by
 have:=vl [w]
 rw[show zM [w]=w8 w from List.append_nil _] at this
 exact this
theorem WQ {inp out:List Int} (t lim:Int) (hb:∀ x∈inp,zj x) (ho:∀ x∈out,zj x):Kp (xB t inp out lim) inp out 8:=by
 unfold xB
 split
 ·exact ⟨hb,Nat.le_refl _,ho,Nat.le_add_right _ _⟩
 split
 ·exact ⟨Ys hb _,(by rw[zm1];omega),ho,Nat.le_add_right _ _⟩
 ·refine ⟨Ys hb _,by rw[zm1];omega,fun x hx=>?_,by rw[zm5,wt];exact Nat.le_refl _⟩
  rcases List.mem_append.1 hx with h|h
  ·exact ho x h
  ·exact zcU _ x h
def Yb (t lim:Int):Nat->List Int->List Int->Dr
 |0,inp,out=>⟨0,inp,out⟩
 |n+1,inp,out=>if (xB t inp out lim).e=0 then Yb t lim n (xB t inp out lim).i (xB t inp out lim).o else xB t inp out lim
theorem zbU (t lim:Int):∀ (n:Nat) {inp out:List Int},(∀ x∈inp,zj x)->(∀ x∈out,zj x)->Kp (Yb t lim n inp out) inp out (8*n)
 |0,inp,out,hb,ho=>⟨hb,Nat.le_refl _,ho,Nat.le_add_right _ _⟩
 |n+1,inp,out,hb,ho=>by
  have h1:=WQ t lim hb ho
  rw[Yb]
  split
  ·have h2:=zbU t lim n h1.bi h1.bo
   have a1:=h1.li
   have a2:=h2.li
   have a3:=h1.lo
   have a4:=h2.lo
   exact ⟨h2.bi,by omega,h2.bo,by omega⟩
  ·have a3:=h1.lo
   exact ⟨h1.bi,h1.li,h1.bo,by omega⟩
theorem gt {t lim:Int} (ht:0<=t/\t<256) {N:Nat} (hN:N<=256):∀ (c k:Nat) (inp out:List Int),k+c=N->(∀ x∈inp,zj x)->(∀ x∈out,zj x)->inp.length<=17592186044416->out.length+8*c<=17592186044416->
  Zp t (wR 0) (I N) k (.sl 1 (bs inp)) (bs out) (I lim)=some (.ret (.pv (wR (Yb t lim c inp out).e)),dh (Yb t lim c inp out).i (Yb t lim c inp out).o lim):=by
 intro c
 induction c with
 |zero=>
  intro k inp out hk hb ho hl hlo
  rw[qL]
  dsimp only[z7,zm4]
  rw[decide_eq_false (by omega)]
  rfl
 |succ c ih=>
  intro k inp out hk hb ho hl hlo
  have hn:=KS (out:=out) (lim:=lim) hb hl (by omega) ht
  have hkp:=WQ t lim hb ho
  have a1:=hkp.li
  have a2:=hkp.lo
  unfold dh at hn
  rw[qL]
  dsimp only[z7,zm4]
  rw[decide_eq_true (by omega),hn]
  dsimp only[zl,zm2,xk,zt,zm4,zc,zm3,zk,yT,yQ]
  rw[yu]
  dsimp only[Ze,zc,zm4]
  rw[ZC,ze (x:=(k:Int)+1),Yb]
  dsimp only[zm4]
  by_cases h0:(xB t inp out lim).e=0
  ·rw[decide_eq_true h0,if_pos h0,h0]
   exact ih (k+1) _ _ (by omega) hkp.bi hkp.bo (by omega) (by omega)
  ·rw[decide_eq_false h0,if_neg h0]
   rfl
theorem gu {t lim:Int} {e:Nat} (inp out:List Int):Zp t (wR e) (I 0) 0 (.sl 1 (bs inp)) (bs out) (I lim)=some (.ret (.pv (wR e)),dh inp out lim):=by
 rw[qL]
 rfl
def Xe (t lim:Int) (inp out:List Int):Dr:=match inp with
 |[]=>⟨2,[],out⟩
 |n::rest=>Yb t lim (if t=0 then n.toNat+1 else n.toNat) rest out
def Zg (t lim:Int) (inp out:List Int):Dr :=
 if t=255 then (if (xB t inp out lim).e=0 then Xe t lim (xB t inp out lim).i (xB t inp out lim).o else xB t inp out lim) else Xe t lim inp out
theorem ja (t lim:Int) {inp out:List Int} (hb:∀ x∈inp,zj x) (ho:∀ x∈out,zj x):Kp (Xe t lim inp out) inp out 2048:=by
 unfold Xe
 split
 ·exact ⟨hb,Nat.le_refl _,ho,Nat.le_add_right _ _⟩
 ·rename_i n rest
  have hn:=hb n (List.mem_cons_self ..)
  unfold zj at hn
  have h:=zbU t lim (if t=0 then n.toNat+1 else n.toNat) (inp:=rest) (fun x hx=>hb x (List.mem_cons_of_mem _ hx)) ho
  have a1:=h.li
  have a2:=h.lo
  have a3:(if t=0 then n.toNat+1 else n.toNat)<=256:=by split<;>omega
  exact ⟨h.bi,by rw[zm6];omega,h.bo,by omega⟩
theorem zh5 (t lim:Int) {inp out:List Int} (hb:∀ x∈inp,zj x) (ho:∀ x∈out,zj x):Kp (Zg t lim inp out) inp out 2056:=by
 unfold Zg
 have h1:=WQ t lim hb ho
 have h3:=ja t lim hb ho
 have a1:=h1.li
 have a2:=h1.lo
 have a3:=h3.lo
 split
 ·split
  ·have h2:=ja t lim h1.bi h1.bo
   have a4:=h2.li
   have a5:=h2.lo
   exact ⟨h2.bi,by omega,h2.bo,by omega⟩
  ·exact ⟨h1.bi,h1.li,h1.bo,by omega⟩
 ·exact ⟨h3.bi,h3.li,h3.bo,by omega⟩
theorem gb {out:List Int} {lim:Int}:ev 265 [.ptr 0 0] (dh [] out lim)=some (.ret (.pv (.tup [I 0,wR 2])),dh [] out lim):=by
 have:=zcO (bs []) (bs out) lim
 exact this.trans rfl
theorem ga {n:Int} {rest out:List Int} {lim:Int} (hn:zj n):ev 265 [.ptr 0 0] (dh (n::rest) out lim)=some (.ret (.pv (.tup [I n,wR 0])),dh rest out lim):=by
 have:=zcO (bs (n::rest)) (bs out) lim
 refine this.trans ?_
 unfold zj at hn
 have hl:(((bs (n::rest)).length:Nat):Int)=rest.length+1:=by rw[zK];rfl
 have hc:((bs (n::rest)).take (((bs (n::rest)).length:Nat):Int).toNat).drop 1=bs rest:=by
  rw[zmX,List.take_of_length_le (Nat.le_refl _)]
  rfl
 rw[hc,hl,beq_eq_false_iff_ne.2 (by omega),dT (0<(rest.length:Int)+1),show (bs (n::rest))[0]? = some (U8 n) from rfl,dT (1<=(rest.length:Int)+1),decide_eq_true (Int.le_refl _)]
 dsimp only[zo,zc,zm4,yi,zm2,xD,zu]
 rw[ze (x:=n)]
 rfl
theorem gf {t lim:Int} (ht:t=0∨t=255) {inp out:List Int} (hb:∀ x∈inp,zj x) (ho:∀ x∈out,zj x) (hl:inp.length<=17592186044416) (hlo:out.length+2056<=17592186044416):ev 224 [.ptr 0 0,.pv (U8 t)] (dh inp out lim)=some (.ret (.pv (wR (Zg t lim inp out).e)),dh (Zg t lim inp out).i (Zg t lim inp out).o lim):=by
 have hu:ev 224 [.ptr 0 0,.pv (U8 t)] (dh inp out lim)=_:=zlX (bs inp) (bs out) lim t
 rw[hu]
 unfold Zg
 rcases ht with rfl|rfl
 ·rw[show ((0:Int)==255)=false from rfl,if_neg (by decide)]
  dsimp only[zu]
  cases inp with
  |nil=>
   have h:=gb (out:=out) (lim:=lim)
   unfold dh at h
   rw[h]
   dsimp only[zl,zm2,xk,zt,zm4,ZD,zm3,z7,zc,zk,yT,yQ,z6]
   rw[yu]
   dsimp only[Ze,zc,zm4]
   rw[ZC]
   exact gu [] out
  |cons n rest=>
   have hn:=hb n (List.mem_cons_self ..)
   have h:=ga (rest:=rest) (out:=out) (lim:=lim) hn
   unfold dh at h
   unfold zj at hn
   rw[zm6] at hl
   rw[h]
   dsimp only[zl,zm2,xk,zt,zm4,ZD,zm3,z7,zc,zk,yT,yQ,z6]
   rw[yu]
   dsimp only[Ze,zc,zm4]
   rw[ZC,show ((0:Int)==0)=true from rfl,ze (x:=n+1)]
   dsimp only[zc,zm4,Xe]
   rw[if_pos rfl]
   have:=gt (t:=0) (lim:=lim) (by decide) (N:=n.toNat+1) (by omega) (n.toNat+1) 0 rest out (by omega) (fun x hx=>hb x (List.mem_cons_of_mem _ hx)) ho (by omega) (by omega)
   rw[show ((n.toNat+1:Nat):Int)=n+1 by omega] at this
   exact this
 ·rw[show ((255:Int)==255)=true from rfl,if_pos rfl]
  dsimp only[zc]
  have hn:=KS (out:=out) (lim:=lim) hb hl (by omega) (t:=255) (by decide)
  have hkp:=WQ 255 lim hb ho
  unfold dh at hn
  rw[hn]
  dsimp only[zl,zm2,xk,zt,zm4,zc,zm3,zk,yT,yQ]
  rw[yu]
  dsimp only[Ze,zc,zm4]
  rw[ZC]
  dsimp only[zm4]
  by_cases h0:(xB 255 inp out lim).e=0
  ·rw[decide_eq_true h0,if_pos h0]
   dsimp only[vp,zu]
   have a1:=hkp.li
   have a2:=hkp.lo
   have a3:=hkp.bi
   have a4:=hkp.bo
   generalize (xB 255 inp out lim).i=ri at a1 a3 ⊢
   generalize (xB 255 inp out lim).o=ro at a2 a4 ⊢
   cases ri with
   |nil=>
    have h:=gb (out:=ro) (lim:=lim)
    unfold dh at h
    rw[h]
    dsimp only[zl,zm2,xk,zt,zm4,ZD,zm3,z7,zc,zk,yT,yQ,z6]
    rw[yu]
    dsimp only[Ze,zc,zm4]
    rw[ZC]
    exact gu [] ro
   |cons n rest=>
    have hn:=a3 n (List.mem_cons_self ..)
    have h:=ga (rest:=rest) (out:=ro) (lim:=lim) hn
    unfold dh at h
    unfold zj at hn
    rw[zm6] at a1
    rw[h]
    dsimp only[zl,zm2,xk,zt,zm4,ZD,zm3,z7,zc,zk,yT,yQ,z6]
    rw[yu]
    dsimp only[Ze,zc,zm4]
    rw[ZC,show ((255:Int)==0)=false from rfl]
    dsimp only[zu,zm4,Xe]
    rw[if_neg (by decide)]
    have:=gt (t:=255) (lim:=lim) (by decide) (N:=n.toNat) (by omega) n.toNat 0 rest ro (by omega) (fun x hx=>a3 x (List.mem_cons_of_mem _ hx)) a4 (by omega) (by omega)
    rw[show ((n.toNat:Nat):Int)=n by omega] at this
    exact this
  ·rw[decide_eq_false h0,if_neg h0]
   rfl
def wm (t lim:Int) (inp out:List Int):Dr:=if t=0∨t=255 then Zg t lim inp out else xB t inp out lim
theorem zce (t lim:Int) {inp out:List Int} (hb:∀ x∈inp,zj x) (ho:∀ x∈out,zj x):Kp (wm t lim inp out) inp out 2056:=by
 unfold wm
 split
 ·exact zh5 t lim hb ho
 ·have h:=WQ t lim hb ho
  have a2:=h.lo
  exact ⟨h.bi,h.li,h.bo,by omega⟩
attribute [irreducible] wm xB Zg
def ZW (lim:Int):Nat->List Int->List Int->Dr
 |0,inp,out=>⟨0,inp,out⟩
 |_+1,[],out=>⟨0,[],out⟩
 |f+1,t::rest,out=>if (wm t lim rest out).e=0 then ZW lim f (wm t lim rest out).i (wm t lim rest out).o else wm t lim rest out
theorem jn (lim:Int):∀ (f:Nat) {inp out:List Int},(∀ x∈inp,zj x)->(∀ x∈out,zj x)->Kp (ZW lim f inp out) inp out (2056*inp.length)
 |0,inp,out,hb,ho=>⟨hb,Nat.le_refl _,ho,Nat.le_add_right _ _⟩
 |f+1,[],out,hb,ho=>⟨hb,Nat.le_refl _,ho,Nat.le_add_right _ _⟩
 |f+1,t::rest,out,hb,ho=>by
  have h:=zce t lim (inp:=rest) (fun x hx=>hb x (List.mem_cons_of_mem _ hx)) ho
  have a1:=h.li
  have a2:=h.lo
  rw[ZW,zm6]
  split
  ·have h2:=jn lim f h.bi h.bo
   have a3:=h2.li
   have a4:=h2.lo
   exact ⟨h2.bi,by rw[zm6];omega,h2.bo,by omega⟩
  ·exact ⟨h.bi,by rw[zm6];omega,h.bo,Nat.le_trans a2 (Nat.add_le_add_left (show 2056<=2056*(rest.length+1) by omega) _)⟩
theorem zbL {a b:Nat} (h:a+4096*(b+1)<=17592186044416):a+2056<=17592186044416:=Nat.le_trans (Nat.add_le_add_left (Nat.le_trans (show 2056<=4096*1 by decide) (Nat.mul_le_mul_left 4096 (Nat.le_add_left 1 b))) a) h
theorem zfB (x:Int) (l:List Int):((bs (x::l)).take (((bs (x::l)).length:Nat):Int).toNat).drop 1=bs l:=by
 rw[zmX,List.take_of_length_le (Nat.le_refl _)]
 rfl
theorem zdQ {lim:Int}:∀ (f:Nat) (inp out:List Int),inp.length<=f->(∀ x∈inp,zj x)->(∀ x∈out,zj x)->out.length+4096*inp.length<=17592186044416->
  XT (wR 0) (.sl 1 (bs inp)) (bs out) (I lim)=some (.ret (.pv (wR (ZW lim f inp out).e)),dh (ZW lim f inp out).i (ZW lim f inp out).o lim):=by
 intro f
 induction f with
 |zero=>
  intro inp out hf hb ho hl
  have:inp=[]:=List.length_eq_zero_iff.1 (by omega)
  rw[this,qK]
  rfl
 |succ f ih=>
  intro inp out hf hb ho hl
  cases inp with
  |nil=>
   rw[qK]
   rfl
  |cons t rest=>
   rw[zm6] at hf hl
   have ht:=hb t (List.mem_cons_self ..)
   unfold zj at ht
   have hbr:∀ x∈rest,zj x:=fun x hx=>hb x (List.mem_cons_of_mem _ hx)
   have hlen:(((bs (t::rest)).length:Nat):Int)=rest.length+1:=by rw[zK];rfl
   have hkp:=zce t lim hbr ho
   have a1:=hkp.li
   have a2:=hkp.lo
   have a3:=hkp.bi
   have a4:=hkp.bo
   rw[qK,ZW]
   dsimp only[yx,zm4]
   rw[zfB,hlen,dT ((rest.length:Int)+1>0),show (bs (t::rest))[0]? = some (U8 t) from rfl,dT (1<=(rest.length:Int)+1),decide_eq_true (Int.le_refl _),show decide ((1:Nat)=1)=true from rfl]
   dsimp only[zo,zc,zm4,yi,zm2,vQ]
   by_cases h0:t=0
   ·have hg:=gf (t:=t) (lim:=lim) (.inl h0) hbr ho (by omega) (zbL hl)
    have hs:wm t lim rest out=Zg t lim rest out:=by unfold wm;rw[if_pos (.inl h0)]
    rw[←hs] at hg
    unfold dh at hg
    rw[beq_iff_eq.2 h0,hg]
    dsimp only[zl,zm2,xk,zt,zm4,zc,zm3,zk,yT,yQ]
    rw[yu]
    dsimp only[Ze,zc,zm4]
    rw[ZC]
    dsimp only[zm4]
    by_cases h3:(wm t lim rest out).e=0
    ·rw[decide_eq_true h3,if_pos h3,h3]
     exact ih _ _ (by omega) a3 a4 (by omega)
    ·rw[decide_eq_false h3,if_neg h3]
     rfl
   ·rw[beq_eq_false_iff_ne.2 h0]
    dsimp only[zu]
    by_cases h1:t=255
    ·have hg:=gf (t:=t) (lim:=lim) (.inr h1) hbr ho (by omega) (zbL hl)
     have hs:wm t lim rest out=Zg t lim rest out:=by unfold wm;rw[if_pos (.inr h1)]
     rw[←hs] at hg
     unfold dh at hg
     rw[beq_iff_eq.2 h1,hg]
     dsimp only[zl,zm2,xk,zt,zm4,zc,zm3,zk,yT,yQ]
     rw[yu]
     dsimp only[Ze,zc,zm4]
     rw[ZC]
     dsimp only[zm4]
     by_cases h3:(wm t lim rest out).e=0
     ·rw[decide_eq_true h3,if_pos h3,h3]
      exact ih _ _ (by omega) a3 a4 (by omega)
     ·rw[decide_eq_false h3,if_neg h3]
      rfl
    ·have hg:=KS (t:=t) (out:=out) (lim:=lim) hbr (by omega) (by omega) (by omega)
     have hs:wm t lim rest out=xB t rest out lim:=by unfold wm;rw[if_neg (by omega)]
     rw[←hs] at hg
     unfold dh at hg
     rw[beq_eq_false_iff_ne.2 h1,hg]
     dsimp only[zl,zm2,xk,zt,zm4,zc,zm3,zu,zk,yT,yQ]
     rw[yu]
     dsimp only[Ze,zc,zm4]
     rw[ZC]
     dsimp only[zm4]
     by_cases h3:(wm t lim rest out).e=0
     ·rw[decide_eq_true h3,if_pos h3,h3]
      exact ih _ _ (by omega) a3 a4 (by omega)
     ·rw[decide_eq_false h3,if_neg h3]
      rfl
def jb:Nat->Int
 |0=>0
 |1=>11
 |_+2=>10
def YC (lim:Int):Int:=if 0>lim then 0 else lim
def Zo (p:List Int) (lim:Int):Dr:=ZW (YC lim) p.length p []
theorem zd6 {p:List Int} (hb:∀ x∈p,zj x) (hl:p.length<=1073741824) (lim:Int):ev 101 [.pv (.sl 1 (bs p)),.pv (I lim)] []=some (.ret (.tup 0 (.slu 5 1 (bs (Zo p lim).o)) [.v .nilIface,I (jb (Zo p lim).e)]),[]):=by
 have hd:=zdQ (lim:=YC lim) p.length p [] (Nat.le_refl _) hb (fun x hx=>by cases hx) (by show 0+_<=_;omega)
 have hE:ev 161 [.ptr 0 0] [[.pv (.sl 1 (bs p)),.slu 5 1 [],.pv (I (YC lim))]]=some (.ret (.pv (wR (Zo p lim).e)),dh (Zo p lim).i (Zo p lim).o (YC lim)):=(zlU (bs p) [] (YC lim)).trans hd
 rw[zlT]
 unfold YC dh at hE
 rw[hE]
 dsimp only[zl,zm2,xk,zt,zm4,zc,zm3,zk,yT,yQ]
 rw[yu]
 dsimp only[Ze,zc,zm4]
 rw[jL,jL]
 rcases (Zo p lim).e with _|_|e<;>rfl
def Zn (p:List Int) (lim:Int):Int:=jb (Zo p lim).e
def vU (p:List Int) (lim:Int):List Int:=if (Zo p lim).e=0 then (Zo p lim).o else []
theorem zei {p:List Int} (hb:∀ x∈p,zj x) (hl:p.length<=1073741824) (lim:Int):ev 52 [.pv (.sl 1 (bs p)),.pv (I lim)] []=some (.ret (.tup 0 (.slu 5 1 (bs (vU p lim))) [.v .nilIface,I (Zn p lim)]),[]):=by
 rw[zlS,zd6 hb hl]
 dsimp only[zl,zk,yT,yQ]
 rw[Zk]
 dsimp only[zm4,zm3,zm2,z7]
 rw[yu]
 dsimp only[zm4]
 unfold vU Zn
 rcases (Zo p lim).e with _|_|e<;>rfl
theorem zcN {p:List Int} (hb:∀ x∈p,zj x) (lim:Int):(∀ x∈vU p lim,zj x)/\(vU p lim).length<=2056*p.length:=by
 have h:=jn (YC lim) p.length hb (out:=[]) (fun x hx=>by cases hx)
 have a2:=h.lo
 have a3:=h.bo
 unfold vU
 split
 ·refine ⟨a3,?_⟩
  rw[List.length_nil,Nat.zero_add] at a2
  exact a2
 ·exact ⟨(fun x hx=>absurd hx List.not_mem_nil),Nat.zero_le _⟩
theorem zkV {b:List Int}:∀ (c i:Nat) (rest:List Int) (l:List (List Int)),xu b c i rest=some l->8 ∣ rest.length:=by
 intro c
 induction c with
 |zero=>
  intro i rest l h
  rw[xu] at h
  split at h
  ·rename_i h0
   rw[h0]
   exact ⟨0,rfl⟩
  ·cases h
 |succ c ih=>
  intro i rest l h
  rw[xu] at h
  split at h
  ·rename_i h1
   cases hq:xu b c (i+1) (rest.drop (8*(zL b i).toNat)) with
   |none=>rw[hq] at h;cases h
   |some t=>
    have:=ih _ _ _ hq
    rw[zm1] at this
    omega
  ·cases h
theorem zj2 {b:List Int} {l:List (List Int)} (h:yI b=some l):8<=b.length/\8 ∣ b.length:=by
 unfold yI at h
 split at h
 ·cases h
 split at h
 ·cases h
 split at h
 ·cases h
 split at h
 ·cases h
 have h1:=zkV _ _ _ _ h
 rw[zm1] at h1
 have h2:8 ∣ yt (zL b 0+1).toNat:=by unfold yt;split<;>omega
 have h3:(zL b 0+1).toNat=0->yt (zL b 0+1).toNat=8:=fun h=>by rw[h];rfl
 have h4:4*(zL b 0+1).toNat+4<=yt (zL b 0+1).toNat:=by unfold yt;split<;>omega
 omega
noncomputable def mP (b:List Int):List Int:=if yI b=none then [] else pack (zS (b.length/8) b)
def pE (b:List Int):Int:=if yI b=none then 1 else 0
theorem gh {b:List Int} (hb:∀ x∈b,zj x) (hl:b.length<=1099511627776):ev 19 [.pv (.sl 1 (bs b))] []=ok (.tup [.sl 1 (bs (mP b)),I (pE b)]):=by
 rw[ziM,ZR hb hl]
 unfold mP pE
 dsimp only[zk,z6,zm3,zm2,zm4]
 rw[va]
 cases h:yI b with
 |none=>
  rw[if_pos rfl,if_pos rfl]
  dsimp only[zm4]
  rw[show (!decide ((1:Int)=0))=true from rfl]
  dsimp only[zc]
  rw[YX]
  rfl
 |some l=>
  obtain ⟨h1,h2⟩:=zj2 h
  rw[if_neg (by simp),if_neg (by simp),decide_eq_true (show (0:Int)=0 from rfl)]
  dsimp only[zm4,vp,zu]
  rw[zd4 hb hl (n:=b.length/8) (by omega)]
  rfl
noncomputable def uE (p:List Int) (o:Int):Int:=if Zn p o≠0 then Zn p o else if yI (vU p o)=none then 1 else 0
noncomputable def uO (p:List Int) (o:Int):List Int:=if uE p o=0 then vU p o else []
theorem zlK {p:List Int} {o:Int} (h:Zn p o≠0):uE p o=Zn p o/\uO p o=[]:=by
 have e:uE p o=Zn p o:=by unfold uE;rw[if_pos h]
 exact ⟨e,by unfold uO;rw[e,if_neg h]⟩
theorem zlL {p:List Int} {o:Int} (h:Zn p o=0) (hp:yI (vU p o)=none):uE p o=1/\uO p o=[]:=by
 have e:uE p o=1:=by unfold uE;rw[if_neg (fun x=>x h),if_pos hp]
 exact ⟨e,by unfold uO;rw[e,if_neg (by decide)]⟩
theorem zlM {p:List Int} {o:Int} (h:Zn p o=0) {l:List (List Int)} (hp:yI (vU p o)=some l):uE p o=0/\uO p o=vU p o:=by
 have e:uE p o=0:=by unfold uE;rw[if_neg (fun x=>x h),hp,if_neg (by simp)]
 exact ⟨e,by unfold uO;rw[e,if_pos rfl]⟩
theorem zfu (x:PV) (e:Int):Wj [x,vM e]=true:=by
 unfold vM
 split<;>rfl
theorem zdY {p:List Int} (hb:∀ x∈p,zj x) (hl:p.length<=65536) (d w o:Int):ev 20 [.pv (.sl 1 (bs p)),.pv (.agg [I d,I w,I o])] []=some (.ret (.tup 0 (.slu 5 1 (bs (uO p o))) [.v .nilIface,I (uE p o)]),[]):=by
 obtain ⟨k1,k2⟩:=zcN hb o
 rw[ziN,zei hb (by omega)]
 dsimp only[zl]
 rw[Zk]
 dsimp only[zm4,zm3,zm2,z7]
 rw[yu]
 dsimp only[zm4]
 by_cases h0:Zn p o=0
 ·rw[h0,show ((0:Int) != 0)=false from rfl]
  dsimp only[zu]
  rw[ZR k1 (by omega)]
  dsimp only[zl,ZD,zm3,zm2,zm4]
  rw[zfu]
  dsimp only[zc]
  rw[va]
  cases h:yI (vU p o) with
  |none=>
   obtain ⟨e1,e2⟩:=zlL h0 h
   rw[e1,e2,if_pos rfl,decide_eq_false (show ¬(1:Int)=0 by decide)]
   dsimp only[zm4,QD,zc]
   rw[YX]
   rfl
  |some l=>
   obtain ⟨e1,e2⟩:=zlM h0 h
   rw[e1,e2,if_neg (by simp),decide_eq_true (show (0:Int)=0 from rfl)]
   rfl
 ·obtain ⟨e1,e2⟩:=zlK h0
  rw[ww h0,e1,e2]
  rfl
def mEmp:List Int:=[0,0,0,0,0,0,0,0]
def mNul:List Int:=[0,0,0,0,1,0,0,0,0,0,0,0,0,0,0,0]
def WP:List Int:=[16,1,0,0]
theorem byte_of {l:List Int} (h:(l.all fun x=>decide (0<=x)&&decide (x<=255))=true):∀ x∈l,zj x:=by
 intro x hx
 have:=List.all_eq_true.1 h x hx
 rw[Bool.and_eq_true,decide_eq_true_iff,decide_eq_true_iff] at this
 exact this
theorem WA:∀ x∈mEmp,zj x:=byte_of rfl
theorem JU:∀ x∈mNul,zj x:=byte_of rfl
theorem ziX:∀ x∈([]:List Int),zj x:=fun x hx=>by cases hx
theorem WB:mEmp.length<=1099511627776:=by show 8<=1099511627776;decide
theorem JV:mNul.length<=1099511627776:=by show 16<=1099511627776;decide
theorem zep:ev 16 [.pv (.sl 1 (bs mEmp)),.pv (.agg [I 5,I 100,I 100])] []=some (.ret (.tup 0 (.slu 5 1 (bs mNul)) [.v .nilIface,I 0]),[]):=by
 rw[uL WA WB (d:=5) (w:=100) (o:=100) (by decide) (by decide),show Yt mEmp 5 100=mNul from by kernel_rfl,show mE mEmp 5 100=0 from by kernel_rfl]
theorem zeq:ev 18 [.pv (.sl 1 (bs mEmp)),.pv (.sl 1 (bs mNul)),.pv (.agg [I 5,I 100,I 100])] []=ok (.tup [Bo true,I 0]):=by
 have e1:mE mEmp 5 100=0:=by kernel_rfl
 have e2:mE mNul 5 100=0:=by kernel_rfl
 have e3:mN mEmp 5 100=mN mNul 5 100:=by kernel_rfl
 rw[KR WA WB JU JV (d:=5) (w:=100) (o:=100) (by decide) (by decide)]
 unfold Qg QA
 rw[if_pos ⟨e1,e2⟩,if_pos e1,e2,wN e3]
theorem zer:ev 18 [.pv (.sl 1 (bs mEmp)),.pv (.sl 1 []),.pv (.agg [I 5,I 100,I 100])] []=ok (.tup [Bo false,I 1]):=by
 have e1:mE mEmp 5 100=0:=by kernel_rfl
 have e2:mE [] 5 100=1:=by kernel_rfl
 have h:=KR WA WB ziX (Nat.zero_le _) (d:=5) (w:=100) (o:=100) (by decide) (by decide)
 unfold Qg QA at h
 rw[if_neg (by rw[e2];exact fun h=>absurd h.2 (by decide)),if_pos e1,e2] at h
 exact h
theorem zes:ev 19 [.pv (.sl 1 (bs mNul))] []=ok (.tup [.sl 1 (bs WP),I 0]):=by
 rw[gh JU JV,show mP mNul=WP from by kernel_rfl,show pE mNul=0 from by kernel_rfl]
set_option maxRecDepth 1000000 in
theorem zet:ev 20 [.pv (.sl 1 (bs WP)),.pv (.agg [I 5,I 100,I 100])] []=some (.ret (.tup 0 (.slu 5 1 (bs mNul)) [.v .nilIface,I 0]),[]):=(Vg 20 _ []).1 40 _ (by kernel_rfl)
set_option maxRecDepth 1000000 in
theorem zeu:ev 20 [.pv (.sl 1 (bs WP)),.pv (.agg [I 0,I 0,I 15])] []=some (.ret (.tup 0 (.slu 5 1 []) [.v .nilIface,I 11]),[]):=(Vg 20 _ []).1 40 _ (by kernel_rfl)
theorem zev:ev 17 [.pv (.sl 1 (bs mEmp)),.pv (.agg [I 5,I 100,I 100])] []=ok (.tup [U hA,I 0]):=by
 rw[gg WA WB (d:=5) (w:=100) (o:=100) (by decide) (by decide),show mH mEmp 5 100=hA from by kernel_rfl,show mE mEmp 5 100=0 from by kernel_rfl]
theorem wX:ev 130 [.pv (Bo true)] []=ok (.tup []):=by rw[rH];rfl
theorem xS:ev 130 [.pv (Bo false)] []=some (.pan (.ifc 174 (.agg [])),[]):=by rw[rH];rfl
theorem zew:ev 76 [.pv (.sl 1 []),.pv (.agg [I 5,I 100,I 100])] []=ok (Bo false):=by
 rw[K9,show decide ((([]:List PV).length:Int)>0)=false from rfl,xS]
 rfl
theorem zex:ev 76 [.pv (.sl 1 [U 0]),.pv (.agg [I 5,I 100,I 100])] []=ok (Bo true):=by
 have hv:=Ja [U 0] 1 5 100 100 (max 100 0) 0 1
 have hn:ev 190 [.pv (U 0)] []=ok (Bo true):=by rw[XE];rfl
 have hv':ev 132 [.ptr 0 0,.pv (I 0),.pv (I 1)] [[.pv (.sl 1 [U 0]),.pv (I 1),.pv (I 5),.pv (I 100),.pv (I 100),.pv (I (max 100 0))]]=some (.ret (.pv (.tup [])),[[.pv (.sl 1 [U 0]),.pv (I 1),.pv (I 5),.pv (I 100),.pv (I 100),.pv (I (max 100 0))]]):=by
  rw[hv]
  rw[show decide ((0:Int)<=0)=true from rfl,show decide ((0:Int)<(([U 0]:List PV).length:Int))=true from rfl,show ([U 0]:List PV)[(0:Int).toNat]? = some (U 0) from rfl]
  dsimp only[zo,zm4,yi,zm2,zc]
  rw[hn]
  rfl
 rw[K9,show decide ((([U 0]:List PV).length:Int)>0)=true from rfl,wX,Vy]
 dsimp only[zl,zt,zm4,V1,zm2,yF,zo,zc]
 rw[hv']
 rfl
theorem zic:ev 35 [.pv (.sl 1 (bs mEmp)),.pv (.agg [I 5,I 100,I 100])] []=ok (Bo false):=by
 rw[JS,ZR WA WB,YW (by decide) (by decide),show yI mEmp=some [[]] from by kernel_rfl,if_neg (by simp),zmY]
 dsimp only[zk,z6,zm3,zm2,zm4,yx]
 rw[va]
 show zh (ev 76 [.pv (.sl 1 []),.pv (.agg [I 5,I 100,I 100])] []) _ _=_
 rw[zew]
 rfl
theorem zid:ev 35 [.pv (.sl 1 (bs mNul)),.pv (.agg [I 5,I 100,I 100])] []=ok (Bo true):=by
 rw[JS,ZR JU JV,YW (by decide) (by decide),show yI mNul=some [[0]] from by kernel_rfl,if_neg (by simp),zmY]
 dsimp only[zk,z6,zm3,zm2,zm4,yx]
 rw[va]
 show zh (ev 76 [.pv (.sl 1 [U 0]),.pv (.agg [I 5,I 100,I 100])] []) _ _=_
 rw[zex]
 rfl
theorem X2 {l:List Int} (h:l.length<=17592186044416):ev 27 [.pv (.sl 1 (bs l)),.pv (.sl 1 (bs l))] []=ok (Bo true):=by
 have:=zdx h h
 rw[wN rfl] at this
 exact this
theorem zdF:ev 33 [] []=ok (Bo true):=by
 have c1:ev 16 [.pv (.sl 1 [U8 0,U8 0,U8 0,U8 0,U8 0,U8 0,U8 0,U8 0]),.pv (.agg [I 5,I 100,I 100])] []=some (.ret (.tup 0 (.slu 5 1 [U8 0,U8 0,U8 0,U8 0,U8 1,U8 0,U8 0,U8 0,U8 0,U8 0,U8 0,U8 0,U8 0,U8 0,U8 0,U8 0]) [.v .nilIface,I 0]),[]):=zep
 have c2:ev 18 [.pv (.sl 1 [U8 0,U8 0,U8 0,U8 0,U8 0,U8 0,U8 0,U8 0]),.pv (.sl 1 [U8 0,U8 0,U8 0,U8 0,U8 1,U8 0,U8 0,U8 0,U8 0,U8 0,U8 0,U8 0,U8 0,U8 0,U8 0,U8 0]),.pv (.agg [I 5,I 100,I 100])] []=ok (.tup [Bo true,I 0]):=zeq
 have c3:ev 18 [.pv (.sl 1 [U8 0,U8 0,U8 0,U8 0,U8 0,U8 0,U8 0,U8 0]),.pv (.sl 1 []),.pv (.agg [I 5,I 100,I 100])] []=ok (.tup [Bo false,I 1]):=zer
 have c4:ev 19 [.pv (.sl 1 [U8 0,U8 0,U8 0,U8 0,U8 1,U8 0,U8 0,U8 0,U8 0,U8 0,U8 0,U8 0,U8 0,U8 0,U8 0,U8 0])] []=ok (.tup [.sl 1 [U8 16,U8 1,U8 0,U8 0],I 0]):=zes
 have c5:ev 20 [.pv (.sl 1 [U8 16,U8 1,U8 0,U8 0]),.pv (.agg [I 5,I 100,I 100])] []=some (.ret (.tup 0 (.slu 5 1 [U8 0,U8 0,U8 0,U8 0,U8 1,U8 0,U8 0,U8 0,U8 0,U8 0,U8 0,U8 0,U8 0,U8 0,U8 0,U8 0]) [.v .nilIface,I 0]),[]):=zet
 have c6:ev 20 [.pv (.sl 1 [U8 16,U8 1,U8 0,U8 0]),.pv (.agg [I 0,I 0,I 15])] []=some (.ret (.tup 0 (.slu 5 1 []) [.v .nilIface,I 11]),[]):=zeu
 have c7:ev 17 [.pv (.sl 1 [U8 0,U8 0,U8 0,U8 0,U8 0,U8 0,U8 0,U8 0]),.pv (.agg [I 5,I 100,I 100])] []=ok (.tup [U hA,I 0]):=zev
 have c8:ev 35 [.pv (.sl 1 [U8 0,U8 0,U8 0,U8 0,U8 0,U8 0,U8 0,U8 0]),.pv (.agg [I 5,I 100,I 100])] []=ok (Bo false):=zic
 have c9:ev 35 [.pv (.sl 1 [U8 0,U8 0,U8 0,U8 0,U8 1,U8 0,U8 0,U8 0,U8 0,U8 0,U8 0,U8 0,U8 0,U8 0,U8 0,U8 0]),.pv (.agg [I 5,I 100,I 100])] []=ok (Bo true):=zid
 have s1:ev 27 [.pv (.sl 1 [U8 0,U8 0,U8 0,U8 0,U8 1,U8 0,U8 0,U8 0,U8 0,U8 0,U8 0,U8 0,U8 0,U8 0,U8 0,U8 0]),.pv (.sl 1 [U8 0,U8 0,U8 0,U8 0,U8 1,U8 0,U8 0,U8 0,U8 0,U8 0,U8 0,U8 0,U8 0,U8 0,U8 0,U8 0])] []=ok (Bo true):=X2 (l:=mNul) (by decide)
 have s2:ev 27 [.pv (.sl 1 [U8 16,U8 1,U8 0,U8 0]),.pv (.sl 1 [U8 16,U8 1,U8 0,U8 0])] []=ok (Bo true):=X2 (l:=WP) (by decide)
 rw[zgk,c1,c2,c3,c4,c7,c8,c9,zh6]
 dsimp only[zk,y4,zm4,QD,zc,vA,z6,zm3,zm2,z7,zl]
 rw[Zk]
 dsimp only[zm4,zm3,zm2,z7]
 rw[yu]
 dsimp only[zm4]
 rw[c5]
 dsimp only[zl]
 rw[Zk]
 dsimp only[zm4,zm3,zm2,z7]
 rw[yu]
 dsimp only[zm4]
 rw[c6]
 dsimp only[zl]
 rw[Zk]
 dsimp only[zm4,zm3,zm2,z7]
 rw[yu]
 dsimp only[zk,zm4,z6,zm3,zm2,z7]
 rw[show ((0:Int)==0)=true from rfl,show ((1:Int)==1)=true from rfl,show ((11:Int)==11)=true from rfl,s1,s2,show (hA==hA)=true from by simp]
 rfl
def ch (W:List Int) (nx d w o m:Int):za:=[[.pv (.sl 1 (ws W)),.pv (I nx),.pv (I d),.pv (I w),.pv (I o),.pv (I m)]]
theorem KP {W:List Int} (hW:zF [W]) {nx d w o m at_ n:Int} {p:PT} (ha:0<=at_/\at_<=1099511627776) (hp:-536870912<=p.2.1/\p.2.1<=536870911) (hnx:0<=nx/\nx<=1099511627776) (hn:0<=n/\n<=1099511627776):ev 246 [.ptr 0 0,.pv (I at_),.pv (.agg (yh p)),.pv (I n)] (ch W nx d w o m)=if at_+1+p.2.1=nx/\inB [W] 0 nx n then some (.ret (.pv (I nx)),ch W (nx+n) d w o m) else some (.pan (.ifc 174 (.agg [])),ch W nx d w o m):=by
 unfold yh ch
 rw[zf7,ze (x:=at_+1),ze (x:=at_+1+p.2.1),ze (x:=nx+n)]
 by_cases h1:at_+1+p.2.1=nx
 ·have hb:=XZ hW 0 nx n
  have hb':ev 286 [.pv (.sl 1 [.sl 1 (ws W)]),.pv (I 0),.pv (I nx),.pv (I n)] []=ok (Bo (decide (inB [W] 0 nx n))):=hb
  rw[h1,beq_iff_eq.2 rfl]
  dsimp only[zc]
  rw[hb']
  dsimp only[zl,zt,zm4,y4]
  by_cases h2:inB [W] 0 nx n
  ·rw[decide_eq_true h2,if_pos ⟨rfl,h2⟩,wX]
   rfl
  ·rw[decide_eq_false h2,if_neg (fun h=>h2 h.2),xS]
   rfl
 ·rw[beq_eq_false_iff_ne.2 h1,if_neg (fun h=>h1 h.1)]
  dsimp only[zu]
  rw[xS]
  rfl
theorem VA {W:List Int} {nx d w o m c:Int} (hm:0<=m/\m<=1099511627776) (hc:0<=c/\c<=1099511627776):ev 247 [.ptr 0 0,.pv (I c)] (ch W nx d w o m)=if c>m then some (.pan (.ifc 174 (.agg [])),ch W nx d w o m) else some (.ret (.pv (.tup [])),ch W nx d w o (m-c)):=by
 unfold ch
 rw[zf5,uM m c (by omega)]
 dsimp only[zl,zt,zm4,z6,zm3,zm2,z7,Y0,yF,zo,zc]
 by_cases h:c>m
 ·rw[if_pos h,if_pos h,if_pos h,show ((8:Int)==0)=false from rfl,xS]
  rfl
 ·rw[if_neg h,if_neg h,if_neg h,show ((0:Int)==0)=true from rfl,wX]
  rfl
def p5:PT:=(0,0,1,0,0,0,false,0,0,0)
abbrev CS:=Int×Int
def wL (F:Int->CS->Option CS):Nat->Int->CS->Option CS
 |0,_,s=>some s
 |c+1,a,s=>(F a s).bind (wL F c (a+1))
def Yw (F:Int->CS->Option CS) (W:List Int) (a:Int) (p:PT) (s:CS):Option CS :=
 if p.2.2.1+p.2.2.2.1=0 then (if p.2.1=-1 then some s else none)
 else if a+1+p.2.1=s.1/\inB [W] 0 s.1 (p.2.2.1+p.2.2.2.1)/\p.2.2.1+p.2.2.2.1<=s.2/\(p.2.2.1=0∨wd [W] 0 (s.1+p.2.2.1-1)≠0)/\(p.2.2.2.1=0∨wd [W] 0 (s.1+p.2.2.1+p.2.2.2.1-1)≠0)
  then wL F p.2.2.2.1.toNat (s.1+p.2.2.1) (s.1+(p.2.2.1+p.2.2.2.1),s.2-(p.2.2.1+p.2.2.2.1)) else none
def Vs (W:List Int) (d w o:Int) (res:Option (Out×za)):Option CS->Prop
 |some s=>res=some (.ret (.pv (.tup [])),ch W s.1 d w o s.2)
 |none=>∃ s:CS,res=some (.pan (.ifc 174 (.agg [])),ch W s.1 d w o s.2)
def Rg (W:List Int) (s:CS):Prop:=(0<=s.1/\s.1<=W.length)/\0<=s.2/\s.2<=1099511627776
def VF (W:List Int) (d w o k:Int) (F:Int->CS->Option CS):Prop:=∀ (a:Int) (s:CS),0<=a->a<(W.length:Int)->Rg W s->Vs W d w o (ev 132 [.ptr 0 0,.pv (I a),.pv (I k)] (ch W s.1 d w o s.2)) (F a s)/\∀ s',F a s=some s'->Rg W s'
theorem V2 {W:List Int} {F:Int->CS->Option CS} (hF:∀ (a:Int) (s:CS),0<=a->a<(W.length:Int)->Rg W s->∀ s',F a s=some s'->Rg W s'):∀ (c:Nat) (a:Int) (s:CS),0<=a->a+c<=W.length->Rg W s->∀ s',wL F c a s=some s'->Rg W s':=by
 intro c
 induction c with
 |zero=>intro a s ha hc hs s' h;cases h;exact hs
 |succ c ih=>
  intro a s ha hc hs s' h
  rw[wL] at h
  cases h1:F a s with
  |none=>rw[h1] at h;cases h
  |some t=>
   rw[h1] at h
   exact ih (a+1) t (by omega) (by omega) (hF a s ha (by omega) hs t h1) s' h
theorem zgS {W:List Int} (hl:W.length<=1099511627776) {d w o k:Int} (hk:0<=k/\k<=1099511627776) {F:Int->CS->Option CS} (hF:VF W d w o (k+1) F) {n:Nat} {a:Int} (ha:0<=a) (hn:a+n<=W.length):∀ (c i:Nat) (s:CS),i+c=n->Rg W s->
  Vs W d w o (VL a k n i (.sl 1 (ws W)) (I s.1) (I d) (I w) (I o) (I s.2)) (wL F c (a+i) s):=by
 intro c
 induction c with
 |zero=>
  intro i s hi hs
  rw[rG,decide_eq_false (by omega)]
  rfl
 |succ c ih=>
  intro i s hi hs
  obtain ⟨h1,h2⟩:=hF (a+i) s (by omega) (by omega) hs
  unfold ch at h1
  rw[rG,dT ((i:Int)<n),ze (x:=a+(i:Int)),ze (x:=k+1),ze (x:=(i:Int)+1),wL]
  cases h3:F (a+i) s with
  |none=>
   rw[h3] at h1
   obtain ⟨t,ht⟩:=h1
   unfold ch at ht
   rw[ht]
   exact ⟨t,rfl⟩
  |some t=>
   rw[h3] at h1
   have h1':ev 132 [.ptr 0 0,.pv (I (a+i)),.pv (I (k+1))] [[.pv (.sl 1 (ws W)),.pv (I s.1),.pv (I d),.pv (I w),.pv (I o),.pv (I s.2)]]=some (.ret (.pv (.tup [])),ch W t.1 d w o t.2):=h1
   unfold ch at h1'
   rw[h1']
   have:=ih (i+1) t (by omega) (h2 t h3)
   rw[show a+((i+1:Nat):Int)=a+i+1 by push_cast;omega] at this
   exact this
theorem KT {W:List Int} (hl:W.length<=1099511627776) {d w o k:Int} (hk:0<=k/\k<=1099511627776) {F:Int->CS->Option CS} (hF:VF W d w o (k+1) F) {n a:Int} (ha:0<=a) (hn0:0<=n) (hn:a+n<=W.length) {s:CS} (hs:Rg W s):Vs W d w o (ev 248 [.ptr 0 0,.pv (I a),.pv (I n),.pv (I k)] (ch W s.1 d w o s.2)) (wL F n.toNat a s):=by
 unfold ch
 rw[zf8]
 have:=zgS hl hk hF ha (n:=n.toNat) (by omega) n.toNat 0 s (by omega) hs
 rw[show a+((0:Nat):Int)=a by simp,show ((n.toNat:Nat):Int)=n by omega] at this
 exact this
theorem Yl {W:List Int} {i:Int} (h0:0<=i) (h:i<W.length):(ws W)[i.toNat]? = some (U (wd [W] 0 i)):=zc9 h0 h
theorem QH {W:List Int} (hl:W.length<=1099511627776) (hw:∀ x∈W,zU x):zF [W]:=⟨show 1<=9223372036854775807 by decide,fun s hs=>by rw[List.mem_singleton.1 hs];exact ⟨by omega,hw⟩⟩
theorem Xr {W:List Int} {a n:Int} (h:inB [W] 0 a n):0<=a/\0<=n/\a+n<=W.length:=⟨h.2.2.1,h.2.2.2.1,h.2.2.2.2⟩
theorem zdO {W:List Int} (hl:W.length<=1099511627776) (hw:∀ x∈W,zU x) {d w o k:Int} (hk:0<=k/\k<=1099511627776) {F:Int->CS->Option CS} (hF:VF W d w o (k+1) F) {a:Int} (ha:0<=a/\a<W.length) {p:PT} (hp:(-536870912<=p.2.1/\p.2.1<=536870911)/\(0<=p.2.2.1/\p.2.2.1<=65535)/\(0<=p.2.2.2.1/\p.2.2.2.1<=65535)) {s:CS} (hs:Rg W s) :
  Vs W d w o (ev 193 [.ptr 0 0,.pv (I a),.pv (I k),.pv (.agg (yh p))] (ch W s.1 d w o s.2)) (Yw F W a p s)/\∀ s',Yw F W a p s=some s'->Rg W s':=by
 obtain ⟨hp1,hp2,hp3⟩:=hp
 obtain ⟨hs1,hs2,hs3⟩:=hs
 have hS:=QH hl hw
 have hrg:∀ s',Yw F W a p s=some s'->Rg W s':=by
  intro s' h
  unfold Yw at h
  split at h
  ·split at h
   ·cases h;exact ⟨hs1,hs2,hs3⟩
   ·cases h
  ·split at h
   ·rename_i h1
    obtain ⟨_,h2,h3,_⟩:=h1
    have:=Xr h2
    exact V2 (fun a s h1 h2 h3=>(hF a s h1 h2 h3).2) _ _ _ (by omega) (by omega) ⟨by dsimp only;omega,by dsimp only;omega,by dsimp only;omega⟩ s' h
   ·cases h
 refine ⟨?_,hrg⟩
 have hE:ev 193 [.ptr 0 0,.pv (I a),.pv (I k),.pv (.agg (yh p))] (ch W s.1 d w o s.2)=_:=zf9 (ws W) s.1 d w o s.2 a k p.1 p.2.1 p.2.2.1 p.2.2.2.1 p.2.2.2.2.1 p.2.2.2.2.2.1 p.2.2.2.2.2.2.1 p.2.2.2.2.2.2.2.1 p.2.2.2.2.2.2.2.2.1 p.2.2.2.2.2.2.2.2.2
 have hO:=KP hS (nx:=s.1) (d:=d) (w:=w) (o:=o) (m:=s.2) (at_:=a) (n:=p.2.2.1+p.2.2.2.1) (p:=p) (by omega) hp1 (by omega) (by omega)
 unfold yh ch at hO
 rw[hE,ze (x:=p.2.2.1+p.2.2.2.1)]
 unfold Yw
 by_cases h0:p.2.2.1+p.2.2.2.1=0
 ·rw[beq_iff_eq.2 h0,if_pos h0]
  dsimp only[zc]
  by_cases h1:p.2.1=-1
  ·rw[beq_iff_eq.2 h1,if_pos h1,wX]
   rfl
  ·rw[beq_eq_false_iff_ne.2 h1,if_neg h1,xS]
   exact ⟨s,rfl⟩
 rw[beq_eq_false_iff_ne.2 h0,if_neg h0]
 dsimp only[zu]
 by_cases h1:a+1+p.2.1=s.1/\inB [W] 0 s.1 (p.2.2.1+p.2.2.2.1)
 ·have hb:=Xr h1.2
  have hC:=VA (W:=W) (nx:=s.1+(p.2.2.1+p.2.2.2.1)) (d:=d) (w:=w) (o:=o) (m:=s.2) (c:=p.2.2.1+p.2.2.2.1) (by omega) (by omega)
  unfold ch at hC
  rw[if_pos h1] at hO
  rw[hO]
  dsimp only[yQ,z7,zm4]
  rw[hC]
  by_cases h2:p.2.2.1+p.2.2.2.1>s.2
  ·rw[if_pos h2,if_neg (fun h=>by omega)]
   exact ⟨(s.1+(p.2.2.1+p.2.2.2.1),s.2),rfl⟩
  have hP:=KT hl hk hF (n:=p.2.2.2.1) (a:=s.1+p.2.2.1) (by omega) (by omega) (by omega) (s:=(s.1+(p.2.2.1+p.2.2.2.1),s.2-(p.2.2.1+p.2.2.2.1))) ⟨by dsimp only;omega,by dsimp only;omega,by dsimp only;omega⟩
  have fin:Vs W d w o (xj (ev 248 [.ptr 0 0,.pv (I (s.1+p.2.2.1)),.pv (I p.2.2.2.1),.pv (I k)] [[.pv (.sl 1 (ws W)),.pv (I (s.1+(p.2.2.1+p.2.2.2.1))),.pv (I d),.pv (I w),.pv (I o),.pv (I (s.2-(p.2.2.1+p.2.2.2.1)))]]) (fun p_55 p_44 p_46 p_48 p_50 p_52 p_54=>some (.ret (.pv (.tup [])),[[(.pv p_44),(.pv p_46),(.pv p_48),(.pv p_50),(.pv p_52),(.pv p_54)]]))) (wL F p.2.2.2.1.toNat (s.1+p.2.2.1) (s.1+(p.2.2.1+p.2.2.2.1),s.2-(p.2.2.1+p.2.2.2.1))):=by
   cases hq:wL F p.2.2.2.1.toNat (s.1+p.2.2.1) (s.1+(p.2.2.1+p.2.2.2.1),s.2-(p.2.2.1+p.2.2.2.1)) with
   |none=>
    rw[hq] at hP
    obtain ⟨t,ht⟩:=hP
    unfold ch at ht
    dsimp only at ht
    rw[ht]
    exact ⟨t,rfl⟩
   |some t=>
    rw[hq] at hP
    have hP':ev 248 [.ptr 0 0,.pv (I (s.1+p.2.2.1)),.pv (I p.2.2.2.1),.pv (I k)] [[.pv (.sl 1 (ws W)),.pv (I (s.1+(p.2.2.1+p.2.2.2.1))),.pv (I d),.pv (I w),.pv (I o),.pv (I (s.2-(p.2.2.1+p.2.2.2.1)))]]=some (.ret (.pv (.tup [])),ch W t.1 d w o t.2):=hP
    rw[hP']
    rfl
  rw[if_neg h2]
  dsimp only[yQ,yx,zm4]
  rw[ze (x:=s.1+p.2.2.1),ze (x:=s.1+p.2.2.1+p.2.2.2.1)]
  by_cases hd:p.2.2.1=0
  ·have hq:p.2.2.2.1≠0:=fun h=>h0 (by omega)
   rw[beq_iff_eq.2 hd,beq_eq_false_iff_ne.2 hq,wX]
   dsimp only[zl,zt,zm4,zu,zc]
   rw[ze (x:=s.1+p.2.2.1+p.2.2.2.1-1),yj,dT (0<=s.1+p.2.2.1+p.2.2.2.1-1),dT (s.1+p.2.2.1+p.2.2.2.1-1<(W.length:Int)),Yl (by omega) (by omega),show decide ((1:Nat)=1)=true from rfl]
   dsimp only[zo,zm4,yi,zm2,vA,zc]
   by_cases h3:wd [W] 0 (s.1+p.2.2.1+p.2.2.2.1-1)=0
   ·rw[h3,show ((0:Int) != 0)=false from rfl,xS,if_neg (fun h=>by rcases h.2.2.2.2 with x|x;exact hq x;exact x rfl)]
    exact ⟨(s.1+(p.2.2.1+p.2.2.2.1),s.2-(p.2.2.1+p.2.2.2.1)),rfl⟩
   ·rw[ww h3,wX,if_pos ⟨h1.1,h1.2,by omega,.inl hd,.inr h3⟩]
    exact fin
  ·rw[beq_eq_false_iff_ne.2 hd]
   dsimp only[zu]
   rw[ze (x:=s.1+p.2.2.1-1),yj,dT (0<=s.1+p.2.2.1-1),dT (s.1+p.2.2.1-1<(W.length:Int)),Yl (by omega) (by omega),show decide ((1:Nat)=1)=true from rfl]
   dsimp only[zo,zm4,yi,zm2,vA,zc]
   by_cases h3:wd [W] 0 (s.1+p.2.2.1-1)=0
   ·rw[h3,show ((0:Int) != 0)=false from rfl,xS,if_neg (fun h=>by rcases h.2.2.2.1 with x|x;exact hd x;exact x rfl)]
    exact ⟨(s.1+(p.2.2.1+p.2.2.2.1),s.2-(p.2.2.1+p.2.2.2.1)),rfl⟩
   rw[ww h3,wX]
   dsimp only[zl,zt,zm4]
   by_cases hq:p.2.2.2.1=0
   ·rw[beq_iff_eq.2 hq]
    dsimp only[zc]
    rw[if_pos ⟨h1.1,h1.2,by omega,.inr h3,.inl hq⟩]
    exact fin
   ·rw[beq_eq_false_iff_ne.2 hq]
    dsimp only[zu]
    rw[ze (x:=s.1+p.2.2.1+p.2.2.2.1-1),dT (0<=s.1+p.2.2.1+p.2.2.2.1-1),dT (s.1+p.2.2.1+p.2.2.2.1-1<(W.length:Int)),Yl (by omega) (by omega)]
    dsimp only[zo,zm4,yi,zm2,vA,zc]
    by_cases h4:wd [W] 0 (s.1+p.2.2.1+p.2.2.2.1-1)=0
    ·rw[h4,show ((0:Int) != 0)=false from rfl,xS,if_neg (fun h=>by rcases h.2.2.2.2 with x|x;exact hq x;exact x rfl)]
     exact ⟨(s.1+(p.2.2.1+p.2.2.2.1),s.2-(p.2.2.1+p.2.2.2.1)),rfl⟩
    ·rw[ww h4,wX,if_pos ⟨h1.1,h1.2,by omega,.inr h3,.inr h4⟩]
     exact fin
 ·rw[if_neg h1] at hO
  rw[hO,if_neg (fun h=>h1 ⟨h.1,h.2.1⟩)]
  exact ⟨s,rfl⟩
def XA (e c:Int) (b:List Int):Prop:=(trimB e c b++List.replicate b.length 0).take b.length=b
instance (e c:Int) (b:List Int):Decidable (XA e c b):=by unfold XA;infer_instance
def wb (W:List Int) (a n:Int):List Int:=(W.drop a.toNat).take n.toNat
def ZV (F:Int->CS->Option CS) (W:List Int) (a:Int) (p:PT) (s:CS):Option CS :=
 if a+1+p.2.1=s.1/\inB [W] 0 s.1 (zs p.2.2.2.2.1 p.2.2.2.2.2.1)/\zs p.2.2.2.2.1 p.2.2.2.2.2.1<=s.2 then
  (if p.2.2.2.2.1=6 then wL F (zs p.2.2.2.2.1 p.2.2.2.2.2.1).toNat s.1 (s.1+zs p.2.2.2.2.1 p.2.2.2.2.2.1,s.2-zs p.2.2.2.2.1 p.2.2.2.2.2.1)
   else if XA p.2.2.2.2.1 p.2.2.2.2.2.1 (zM (wb W s.1 (zs p.2.2.2.2.1 p.2.2.2.2.2.1))) then some (s.1+zs p.2.2.2.2.1 p.2.2.2.2.2.1,s.2-zs p.2.2.2.2.1 p.2.2.2.2.2.1) else none)
 else none
theorem zmz {W:List Int} {a n:Int} (ha:0<=a) (hn:0<=n):((ws W).take (a+n).toNat).drop a.toNat=ws (wb W a n):=by
 unfold wb
 rw[ws,←List.map_take,←List.map_drop,show (a+n).toNat=a.toNat+n.toNat by omega,List.drop_take,Nat.add_sub_cancel_left]
 rfl
theorem zfN {e c:Int} (he:0<=e/\e<=5) (hc:0<=c/\c<=536870911):z4 e c<=8*zs e c:=by
 unfold z4 zs
 rw[if_neg (by omega)]
 omega
theorem zdM {W:List Int} (hl:W.length<=1099511627776) (hw:∀ x∈W,zU x) {d w o k:Int} (hk:0<=k/\k<=1099511627776) {F:Int->CS->Option CS} (hF:VF W d w o (k+1) F) {a:Int} (ha:0<=a/\a<W.length) {p:PT} (hp:(-536870912<=p.2.1/\p.2.1<=536870911)/\(0<=p.2.2.2.2.1/\p.2.2.2.2.1<=6)/\(0<=p.2.2.2.2.2.1/\p.2.2.2.2.2.1<=536870911)) {s:CS} (hs:Rg W s) :
  Vs W d w o (ev 194 [.ptr 0 0,.pv (I a),.pv (I k),.pv (.agg (yh p))] (ch W s.1 d w o s.2)) (ZV F W a p s)/\∀ s',ZV F W a p s=some s'->Rg W s':=by
 obtain ⟨hp1,hp2,hp3⟩:=hp
 obtain ⟨hs1,hs2,hs3⟩:=hs
 have hS:=QH hl hw
 have hwr:=Yj (e:=p.2.2.2.2.1) hp3
 have hrg:∀ s',ZV F W a p s=some s'->Rg W s':=by
  intro s' h
  unfold ZV at h
  split at h
  ·rename_i h1
   obtain ⟨_,h2,h3⟩:=h1
   have:=Xr h2
   have hr:Rg W (s.1+zs p.2.2.2.2.1 p.2.2.2.2.2.1,s.2-zs p.2.2.2.2.1 p.2.2.2.2.2.1):=⟨by dsimp only;omega,by dsimp only;omega,by dsimp only;omega⟩
   split at h
   ·exact V2 (fun a s h1 h2 h3=>(hF a s h1 h2 h3).2) _ _ _ (by omega) (by omega) hr s' h
   ·split at h
    ·cases h;exact hr
    ·cases h
  ·cases h
 refine ⟨?_,hrg⟩
 have hE:ev 194 [.ptr 0 0,.pv (I a),.pv (I k),.pv (.agg (yh p))] (ch W s.1 d w o s.2)=_:=rF (ws W) s.1 d w o s.2 a k p.1 p.2.1 p.2.2.1 p.2.2.2.1 p.2.2.2.2.1 p.2.2.2.2.2.1 p.2.2.2.2.2.2.1 p.2.2.2.2.2.2.2.1 p.2.2.2.2.2.2.2.2.1 p.2.2.2.2.2.2.2.2.2
 have hO:=KP hS (nx:=s.1) (d:=d) (w:=w) (o:=o) (m:=s.2) (at_:=a) (n:=zs p.2.2.2.2.1 p.2.2.2.2.2.1) (p:=p) (by omega) hp1 (by omega) (by omega)
 unfold yh ch at hO
 have h7:¬p.2.2.2.2.1=7:=by omega
 rw[hE,beq_eq_false_iff_ne.2 h7]
 dsimp only[zu]
 rw[KN (by omega) hp3]
 dsimp only[zl,zt,zm4,z7]
 unfold ZV
 by_cases h1:a+1+p.2.1=s.1/\inB [W] 0 s.1 (zs p.2.2.2.2.1 p.2.2.2.2.2.1)
 ·have hb:=Xr h1.2
  have hC:=VA (W:=W) (nx:=s.1+zs p.2.2.2.2.1 p.2.2.2.2.2.1) (d:=d) (w:=w) (o:=o) (m:=s.2) (c:=zs p.2.2.2.2.1 p.2.2.2.2.2.1) (by omega) (by omega)
  unfold ch at hC
  rw[if_pos h1] at hO
  rw[hO]
  dsimp only[yQ,z7,xD,zm4]
  rw[hC]
  by_cases h2:zs p.2.2.2.2.1 p.2.2.2.2.2.1>s.2
  ·rw[if_pos h2,if_neg (fun h=>by omega)]
   exact ⟨(s.1+zs p.2.2.2.2.1 p.2.2.2.2.2.1,s.2),rfl⟩
  rw[if_neg h2,if_pos ⟨h1.1,h1.2,by omega⟩]
  dsimp only[yQ,yx,zm4]
  by_cases h6:p.2.2.2.2.1=6
  ·rw[beq_iff_eq.2 h6,if_pos h6]
   dsimp only[zc]
   have hP:=KT hl hk hF (n:=zs p.2.2.2.2.1 p.2.2.2.2.2.1) (a:=s.1) (by omega) (by omega) (by omega) (s:=(s.1+zs p.2.2.2.2.1 p.2.2.2.2.2.1,s.2-zs p.2.2.2.2.1 p.2.2.2.2.2.1)) ⟨by dsimp only;omega,by dsimp only;omega,by dsimp only;omega⟩
   cases hq:wL F (zs p.2.2.2.2.1 p.2.2.2.2.2.1).toNat s.1 (s.1+zs p.2.2.2.2.1 p.2.2.2.2.2.1,s.2-zs p.2.2.2.2.1 p.2.2.2.2.2.1) with
   |none=>
    rw[hq] at hP
    obtain ⟨t,ht⟩:=hP
    unfold ch at ht
    dsimp only at ht
    rw[ht]
    exact ⟨t,rfl⟩
   |some t=>
    rw[hq] at hP
    have hP':ev 248 [.ptr 0 0,.pv (I s.1),.pv (I (zs p.2.2.2.2.1 p.2.2.2.2.2.1)),.pv (I k)] [[.pv (.sl 1 (ws W)),.pv (I (s.1+zs p.2.2.2.2.1 p.2.2.2.2.2.1)),.pv (I d),.pv (I w),.pv (I o),.pv (I (s.2-zs p.2.2.2.2.1 p.2.2.2.2.2.1))]]=some (.ret (.pv (.tup [])),ch W t.1 d w o t.2):=hP
    rw[hP']
    rfl
  ·rw[beq_eq_false_iff_ne.2 h6,if_neg h6]
   dsimp only[zu]
   have hcl:(wb W s.1 (zs p.2.2.2.2.1 p.2.2.2.2.2.1)).length=(zs p.2.2.2.2.1 p.2.2.2.2.2.1).toNat:=by
    unfold wb
    rw[zm0,zm1]
    omega
   have hbl:(zM (wb W s.1 (zs p.2.2.2.2.1 p.2.2.2.2.2.1))).length=8*(zs p.2.2.2.2.1 p.2.2.2.2.2.1).toNat:=by rw[xJ,hcl]
   have hB:=ZQ (wb W s.1 (zs p.2.2.2.2.1 p.2.2.2.2.2.1)) (by omega)
   have hbf:=zfN (e:=p.2.2.2.2.1) (c:=p.2.2.2.2.2.1) (by omega) hp3
   have hT:=Vz (e:=p.2.2.2.2.1) (c:=p.2.2.2.2.2.1) (b:=zM (wb W s.1 (zs p.2.2.2.2.1 p.2.2.2.2.2.1))) (by omega) hp3 (vl _) (by rw[hbl];omega)
   have htl:=zcC p.2.2.2.2.1 p.2.2.2.2.2.1 (zM (wb W s.1 (zs p.2.2.2.2.1 p.2.2.2.2.2.1)))
   have htb:=Kk p.2.2.2.2.1 p.2.2.2.2.2.1 (zM (wb W s.1 (zs p.2.2.2.2.1 p.2.2.2.2.2.1))) (vl _)
   rw[ze (x:=s.1+zs p.2.2.2.2.1 p.2.2.2.2.2.1),yj,dT (0<=s.1),dT (s.1<=s.1+zs p.2.2.2.2.1 p.2.2.2.2.2.1),dT (s.1+zs p.2.2.2.2.1 p.2.2.2.2.2.1<=(W.length:Int)),zmz (by omega) (by omega),show decide ((1:Nat)=1)=true from rfl]
   dsimp only[zo,zc]
   rw[hB]
   dsimp only[zl,zt,zm4,yx]
   rw[hT]
   dsimp only[zl]
   rw[yu]
   dsimp only[zm4]
   have e1:∀ bb tb:List Int,((bs tb++List.replicate (((bs bb).length:Nat):Int).toNat (PV.v (.int .u8 0))).take (((bs bb).length:Nat):Int).toNat).drop 0=bs ((tb++List.replicate bb.length 0).take bb.length):=by
    intro bb tb
    rw[zmX,List.drop_zero,zK]
    simp[bs]
   have hz:∀ bb:List Int,(List.replicate (((bs bb).length:Nat):Int).toNat (PV.v (.int .u8 0))).length=bb.length:=fun bb=>by rw[List.length_replicate,zmX,zK]
   rw[dT (0<=(((bs (zM (wb W s.1 (zs p.2.2.2.2.1 p.2.2.2.2.2.1)))).length:Nat):Int)),decide_eq_true (show (((bs (zM (wb W s.1 (zs p.2.2.2.2.1 p.2.2.2.2.2.1)))).length:Nat):Int)<=140737488355328 by rw[zK,hbl];omega),yL (by rw[hz,zK,hbl];omega) (by rw[hz,zK,hbl];omega),e1,decide_eq_true (show (((bs (zM (wb W s.1 (zs p.2.2.2.2.1 p.2.2.2.2.2.1)))).length:Nat):Int)<=(((bs (trimB p.2.2.2.2.1 p.2.2.2.2.2.1 (zM (wb W s.1 (zs p.2.2.2.2.1 p.2.2.2.2.2.1))))++List.replicate (((bs (zM (wb W s.1 (zs p.2.2.2.2.1 p.2.2.2.2.2.1)))).length:Nat):Int).toNat (PV.v (.int .u8 0))).length:Nat):Int) by rw[zm5,hz,zK];omega),WV,WV]
   dsimp only[zo,zm4,zc]
   by_cases h3:XA p.2.2.2.2.1 p.2.2.2.2.2.1 (zM (wb W s.1 (zs p.2.2.2.2.1 p.2.2.2.2.2.1)))
   ·rw[if_pos h3]
    unfold XA at h3
    rw[h3,beq_iff_eq.2 rfl,wX]
    rfl
   ·rw[if_neg h3]
    unfold XA at h3
    rw[beq_eq_false_iff_ne.2 (fun e=>h3 (zcf (fun x hx=>?_) (vl _) e)),xS]
    ·exact ⟨(s.1+zs p.2.2.2.2.1 p.2.2.2.2.2.1,s.2-zs p.2.2.2.2.1 p.2.2.2.2.2.1),rfl⟩
    ·rcases List.mem_append.1 (List.mem_of_mem_take hx) with h|h
     ·exact htb x h
     ·rw[List.eq_of_mem_replicate h];unfold zj;omega
 ·rw[if_neg h1] at hO
  rw[hO,if_neg (fun h=>h1 ⟨h.1,h.2.1⟩)]
  exact ⟨s,rfl⟩
def w9 (f:Nat->Bool):Nat->Nat->Bool->Bool
 |0,_,b=>b
 |c+1,i,b=>w9 f c (i+1) (b||f i)
theorem JY (f:Nat->Bool):∀ (c i:Nat) (b:Bool),w9 f c i b=true↔b=true∨∃ j,i<=j/\j<i+c/\f j=true
 |0,i,b=>⟨fun h=>.inl h,fun h=>h.elim id fun ⟨j,h1,h2,_⟩=>absurd h2 (by omega)⟩
 |c+1,i,b=>by
  rw[w9,JY f c (i+1)]
  constructor
  ·rintro (h|⟨j,h1,h2,h3⟩)
   ·rcases (Bool.or_eq_true b (f i)).mp h with h|h
    ·exact .inl h
    ·exact .inr ⟨i,Nat.le_refl _,by omega,h⟩
   ·exact .inr ⟨j,by omega,by omega,h3⟩
  ·rintro (h|⟨j,h1,h2,h3⟩)
   ·exact .inl (by rw[h];rfl)
   ·by_cases e:j=i
    ·subst e;exact .inl (by rw[h3];cases b<;>rfl)
    ·exact .inr ⟨j,by omega,by omega,h3⟩
def Xc (G:Nat->CS->Option CS):Nat->Nat->CS->Option CS
 |0,_,s=>some s
 |c+1,i,s=>(G i s).bind (Xc G c (i+1))
def Xu (W:List Int) (st sz dd:Int) (i:Nat):Bool:=wd [W] 0 (st+i*sz+dd-1) != 0
def Jj (F:Int->CS->Option CS) (W:List Int) (t:PT) (c:Int) (s:CS):Option CS :=
 if t.2.2.1+t.2.2.2.1=0 then (if t.2.1<=s.2-(c+1) then some (s.1+(c+1),s.2-(c+1)-t.2.1) else none)
 else if (t.2.2.1=0∨w9 (Xu W (s.1+1) (t.2.2.1+t.2.2.2.1) t.2.2.1) t.2.1.toNat 0 false=true)/\(t.2.2.2.1=0∨w9 (Xu W (s.1+1) (t.2.2.1+t.2.2.2.1) (t.2.2.1+t.2.2.2.1)) t.2.1.toNat 0 false=true)
  then Xc (fun i=>wL F t.2.2.2.1.toNat (s.1+1+i*(t.2.2.1+t.2.2.2.1)+t.2.2.1)) t.2.1.toNat 0 (s.1+(c+1),s.2-(c+1)) else none
def Zd (F:Int->CS->Option CS) (W:List Int) (a:Int) (p:PT) (s:CS):Option CS :=
 if a+1+p.2.1=s.1/\inB [W] 0 s.1 (p.2.2.2.2.2.1+1)/\((zI (wd [W] 0 s.1)).1=0/\0<=(zI (wd [W] 0 s.1)).2.1/\(zI (wd [W] 0 s.1)).2.1*((zI (wd [W] 0 s.1)).2.2.1+(zI (wd [W] 0 s.1)).2.2.2.1)=p.2.2.2.2.2.1)/\p.2.2.2.2.2.1+1<=s.2 then Jj F W (zI (wd [W] 0 s.1)) p.2.2.2.2.2.1 s else none
def Jk (F:Int->CS->Option CS) (W:List Int) (a:Int) (p:PT) (s:CS):Option CS :=
 if p.1=0 then Yw F W a p s else if p.1=1 then (if p.2.2.2.2.1=7 then Zd F W a p s else ZV F W a p s) else none
def wK (W:List Int):Nat->Int->CS->Option CS
 |0=>fun a s=>if wd [W] 0 a=0 then some s else none
 |D+1=>fun a s=>if wd [W] 0 a=0 then some s else Jk (wK W D) W a (zI (wd [W] 0 a)) s
section
variable {W:List Int} {D:Nat} {F:Int->CS->Option CS} {G:Int->Int->Int->Nd×Int×Int}
end
theorem K7 {γ:Type} {o:Option (Out×za)} {a:AV} {h:za} {kr:AV->za->Option γ} {kp:PV->za->Option γ} (e:o=some (.ret a,h)):zh o kr kp=kr a h:=by rw[e];rfl
theorem zgA {W:List Int} {H:Nat->CS->Option CS}:∀ (c i:Nat),(∀ (j:Nat) (s:CS),i<=j->j<i+c->Rg W s->∀ s',H j s=some s'->Rg W s')->∀ (s:CS),Rg W s->∀ s',Xc H c i s=some s'->Rg W s':=by
 intro c
 induction c with
 |zero=>intro i hH s hs s' h;cases h;exact hs
 |succ c ih=>
  intro i hH s hs s' h
  rw[Xc] at h
  cases h1:H i s with
  |none=>rw[h1] at h;cases h
  |some t=>
   rw[h1] at h
   exact ih (i+1) (fun j s h1 h2=>hH j s (by omega) (by omega)) t (hH i s (Nat.le_refl _) (by omega) hs t h1) s' h
theorem Ju {i n:Nat} {z:Int} (h:i<n) (hz:0<=z/\z<=131070) (hn:n<=536870911):0<=(i:Int)*z/\(i:Int)*z+z<=n*z/\(n:Int)*z<=536870911*131070:=by
 refine ⟨Int.mul_nonneg (Int.natCast_nonneg i) hz.1,?_,Int.mul_le_mul (by omega) hz.2 hz.1 (by omega)⟩
 have:=Int.mul_le_mul_of_nonneg_right (show (i:Int)+1<=n by omega) hz.1
 rw[Int.add_mul,Int.one_mul] at this
 exact this
theorem zgN {W:List Int} (hl:W.length<=1099511627776) {d w o k:Int} (hk:0<=k/\k<=1099511627776) {F:Int->CS->Option CS} (hF:VF W d w o (k+1) F) {n:Nat} {st dd qq:Int} (hst:0<=st) (hdd:0<=dd/\dd<=65535) (hqq:0<=qq/\qq<=65535) (hn:n<=536870911) (hb:st+1+n*(dd+qq)<=W.length) (x1 x2 x3 x4 x5 x6:Int) (x7:Bool) (x8 x9 x10:Int) (y1 y2 y5 y6 y7 y8 y9 y10:PV):∀ (c i:Nat) (s:CS),i+c=n->Rg W s->
  Vs W d w o (Y8 k (I st) (dd+qq) (I n) i (.sl 1 (ws W)) (I s.1) (I d) (I w) (I o) (I s.2) x1 x2 x3 x4 x5 x6 x7 x8 x9 x10 y1 y2 (I dd) (I qq) y5 y6 y7 y8 y9 y10) (Xc (fun (i:Nat)=>wL F qq.toNat (st+1+i*(dd+qq)+dd)) c i s):=by
 intro c
 induction c with
 |zero=>
  intro i s hi hs
  rw[rE]
  dsimp only[z7,zm4]
  rw[dF ((i:Int)<(n:Int))]
  rfl
 |succ c ih=>
  intro i s hi hs
  obtain ⟨m1,m2,m3⟩:=Ju (show i<n by omega) (z:=dd+qq) ⟨by omega,by omega⟩ hn
  rw[rE]
  dsimp only[z7,zm4]
  rw[dT ((i:Int)<(n:Int)),ze (x:=st+1),ze (x:=(i:Int)*(dd+qq)),ze (x:=st+1+(i:Int)*(dd+qq)),ze (x:=st+1+(i:Int)*(dd+qq)+dd),ze (x:=(i:Int)+1),Xc]
  have hP:=KT hl hk hF (n:=qq) (a:=st+1+(i:Int)*(dd+qq)+dd) (by omega) hqq.1 (by omega) hs
  have hR:=V2 (fun a s h1 h2 h3=>(hF a s h1 h2 h3).2) qq.toNat (st+1+(i:Int)*(dd+qq)+dd) s (by omega) (by omega) hs
  unfold ch at hP
  cases h3:wL F qq.toNat (st+1+(i:Int)*(dd+qq)+dd) s with
  |none=>
   rw[h3] at hP
   obtain ⟨t,ht⟩:=hP
   unfold ch at ht
   rw[ht]
   exact ⟨t,rfl⟩
  |some t=>
   rw[h3] at hP
   have hP':ev 248 [.ptr 0 0,.pv (I (st+1+(i:Int)*(dd+qq)+dd)),.pv (I qq),.pv (I k)] [[.pv (.sl 1 (ws W)),.pv (I s.1),.pv (I d),.pv (I w),.pv (I o),.pv (I s.2)]]=some (.ret (.pv (.tup [])),ch W t.1 d w o t.2):=hP
   unfold ch at hP'
   dsimp only[zc,zm4]
   rw[hP']
   exact ih (i+1) t (by omega) (hR t h3)
theorem zgM {W:List Int} (hl:W.length<=1099511627776) {k:Int} {n:Nat} {st dd qq:Int} (hst:0<=st) (hdd:0<=dd/\dd<=65535) (hqq:0<=qq/\qq<=65535) (hn:n<=536870911) (hb:st+1+n*(dd+qq)<=W.length) (p8 p9 p10 p11 p12:PV) (x1 x2 x3 x4 x5 x6:Int) (x7:Bool) (x8 x9 x10:Int) (y1 y5 y6 y7 y8 y9 y10:PV):∀ (c i:Nat) (b3 b4:Bool),i+c=n->(b3=false->0<dd)->(b4=false->0<qq)->
  Zu k (I st) (dd+qq) b3 b4 (I n) i (.sl 1 (ws W)) p8 p9 p10 p11 p12 x1 x2 x3 x4 x5 x6 x7 x8 x9 x10 y1 (I n) (I dd) (I qq) y5 y6 y7 y8 y9 y10 =
   if w9 (Xu W (st+1) (dd+qq) dd) c i b3=true/\w9 (Xu W (st+1) (dd+qq) (dd+qq)) c i b4=true then Y8 k (I st) (dd+qq) (I n) 0 (.sl 1 (ws W)) p8 p9 p10 p11 p12 x1 x2 x3 x4 x5 x6 x7 x8 x9 x10 y1 (I n) (I dd) (I qq) y5 y6 y7 y8 y9 y10
   else some (.pan (.ifc 174 (.agg [])),[[.pv (.sl 1 (ws W)),.pv p8,.pv p9,.pv p10,.pv p11,.pv p12]]):=by
 intro c
 induction c with
 |zero=>
  intro i b3 b4 hi h3 h4
  rw[rD]
  dsimp only[z7,yx,zm4]
  rw[dF ((i:Int)<(n:Int))]
  dsimp only[zu]
  cases b3
  ·dsimp only[zu]
   rw[xS,if_neg (fun h=>by cases h.1)]
   rfl
  ·dsimp only[zc]
   cases b4
   ·rw[xS,if_neg (fun h=>by cases h.2)]
    rfl
   ·rw[wX,if_pos ⟨rfl,rfl⟩]
    rfl
 |succ c ih=>
  intro i b3 b4 hi h3 h4
  obtain ⟨m1,m2,m3⟩:=Ju (show i<n by omega) (z:=dd+qq) ⟨by omega,by omega⟩ hn
  rw[rD,w9,w9]
  dsimp only[z7,yx,zm4]
  rw[dT ((i:Int)<(n:Int)),ze (x:=st+1),ze (x:=(i:Int)*(dd+qq)),ze (x:=st+1+(i:Int)*(dd+qq)),ze (x:=st+1+(i:Int)*(dd+qq)+(dd+qq)),ze (x:=st+1+(i:Int)*(dd+qq)+(dd+qq)-1),ze (x:=st+1+(i:Int)*(dd+qq)+dd),ze (x:=st+1+(i:Int)*(dd+qq)+dd-1),ze (x:=(i:Int)+1),show decide ((1:Nat)=1)=true from rfl,yj]
  dsimp only[zo,zc]
  have hq:b4=false->(ws W)[(st+1+(i:Int)*(dd+qq)+(dd+qq)-1).toNat]? = some (U (wd [W] 0 (st+1+(i:Int)*(dd+qq)+(dd+qq)-1)))/\decide (0<=st+1+(i:Int)*(dd+qq)+(dd+qq)-1)=true/\decide (st+1+(i:Int)*(dd+qq)+(dd+qq)-1<(W.length:Int))=true:=fun e=>by
   have:=h4 e
   exact ⟨Yl (by omega) (by omega),decide_eq_true (by omega),decide_eq_true (by omega)⟩
  have hd:b3=false->(ws W)[(st+1+(i:Int)*(dd+qq)+dd-1).toNat]? = some (U (wd [W] 0 (st+1+(i:Int)*(dd+qq)+dd-1)))/\decide (0<=st+1+(i:Int)*(dd+qq)+dd-1)=true/\decide (st+1+(i:Int)*(dd+qq)+dd-1<(W.length:Int))=true:=fun e=>by
   have:=h3 e
   exact ⟨Yl (by omega) (by omega),decide_eq_true (by omega),decide_eq_true (by omega)⟩
  cases b3 with
  |true=>
   dsimp only[zc]
   cases b4 with
   |true=>
    dsimp only[zc]
    exact ih (i+1) true true (by omega) (fun h=>by cases h) (fun h=>by cases h)
   |false=>
    obtain ⟨q1,q2,q3⟩:=hq rfl
    dsimp only[zu]
    rw[q1,q2,q3]
    dsimp only[zo,zm4,yi,zm2,vA,zc]
    exact ih (i+1) true _ (by omega) (fun h=>by cases h) (fun _=>h4 rfl)
  |false=>
   obtain ⟨d1,d2,d3⟩:=hd rfl
   dsimp only[zu]
   rw[d1,d2,d3]
   dsimp only[zo,zm4,yi,zm2,vA,zc]
   cases b4 with
   |true=>
    dsimp only[zc]
    exact ih (i+1) _ true (by omega) (fun _=>h3 rfl) (fun h=>by cases h)
   |false=>
    obtain ⟨q1,q2,q3⟩:=hq rfl
    dsimp only[zu]
    rw[q1,q2,q3]
    dsimp only[zo,zm4,yi,zm2,vA,zc]
    exact ih (i+1) _ _ (by omega) (fun _=>h3 rfl) (fun _=>h4 rfl)
theorem zjk {f:Nat->Bool} {n:Nat} {x:Int}:w9 f n 0 (x==0)=true↔x=0∨w9 f n 0 false=true:=by
 rw[JY,JY]
 constructor
 ·rintro (h|h)
  ·exact .inl (by simpa using h)
  ·exact .inr (.inr h)
 ·rintro (h|h|h)
  ·exact .inl (by simpa using h)
  ·cases h
  ·exact .inr h
theorem uZ {W:List Int} (hl:W.length<=1099511627776) (hw:∀ x∈W,zU x) {d w o k:Int} (hk:0<=k/\k<=1099511627776) {F:Int->CS->Option CS} (hF:VF W d w o (k+1) F) {a:Int} (ha:0<=a/\a<W.length) {p:PT} (hp1:-536870912<=p.2.1/\p.2.1<=536870911) (hp3:0<=p.2.2.2.2.2.1/\p.2.2.2.2.2.1<=536870911) {s:CS} (hs:Rg W s) :
  Vs W d w o (ev 249 [.ptr 0 0,.pv (I a),.pv (I k),.pv (.agg (yh p))] (ch W s.1 d w o s.2)) (Zd F W a p s)/\∀ s',Zd F W a p s=some s'->Rg W s':=by
 have hs1:=hs.1
 have hs2:=hs.2
 have hS:=QH hl hw
 have hww:zU (wd [W] 0 s.1):=vj hS 0 s.1
 obtain ⟨to1,to2,td1,td2,tq1,tq2,-,-,-,-,-,-⟩:=ZX hww
 have hrg:∀ s',Zd F W a p s=some s'->Rg W s':=by
  intro s' h
  unfold Zd at h
  split at h
  ·rename_i h1
   obtain ⟨_,h2,⟨h4,h5,h6⟩,h3⟩:=h1
   have hb:=Xr h2
   unfold Jj at h
   split at h
   ·split at h
    ·cases h
     exact ⟨by dsimp only;omega,by dsimp only;omega,by dsimp only;omega⟩
    ·cases h
   ·split at h
    ·refine zgA _ _ (fun j s9 _ hj hs9=>?_) _ ⟨by dsimp only;omega,by dsimp only;omega,by dsimp only;omega⟩ s' h
     obtain ⟨m1,m2,m3⟩:=Ju (n:=(zI (wd [W] 0 s.1)).2.1.toNat) (show j<_ by omega) (z:=(zI (wd [W] 0 s.1)).2.2.1+(zI (wd [W] 0 s.1)).2.2.2.1) ⟨by omega,by omega⟩ (by omega)
     rw[show (((zI (wd [W] 0 s.1)).2.1.toNat:Nat):Int)=(zI (wd [W] 0 s.1)).2.1 by omega,h6] at m2
     exact V2 (fun a s h1 h2 h3=>(hF a s h1 h2 h3).2) _ _ _ (by omega) (by omega) hs9
    ·cases h
  ·cases h
 refine ⟨?_,hrg⟩
 have hE:ev 249 [.ptr 0 0,.pv (I a),.pv (I k),.pv (.agg (yh p))] (ch W s.1 d w o s.2)=_:=zf6 (ws W) s.1 d w o s.2 a k p.1 p.2.1 p.2.2.1 p.2.2.2.1 p.2.2.2.2.1 p.2.2.2.2.2.1 p.2.2.2.2.2.2.1 p.2.2.2.2.2.2.2.1 p.2.2.2.2.2.2.2.2.1 p.2.2.2.2.2.2.2.2.2
 have hO:=KP hS (nx:=s.1) (d:=d) (w:=w) (o:=o) (m:=s.2) (at_:=a) (n:=p.2.2.2.2.2.1+1) (p:=p) (by omega) hp1 (by omega) (by omega)
 unfold yh ch at hO
 rw[hE,ze (x:=p.2.2.2.2.2.1+1)]
 unfold Zd
 by_cases h1:a+1+p.2.1=s.1/\inB [W] 0 s.1 (p.2.2.2.2.2.1+1)
 ·have hb:=Xr h1.2
  rw[if_pos h1] at hO
  rw[hO]
  have hD:=xF hww
  have hC:=VA (W:=W) (nx:=s.1+(p.2.2.2.2.2.1+1)) (d:=d) (w:=w) (o:=o) (m:=s.2) (c:=p.2.2.2.2.2.1+1) (by omega) (by omega)
  have hC2:=VA (W:=W) (nx:=s.1+(p.2.2.2.2.2.1+1)) (d:=d) (w:=w) (o:=o) (m:=s.2-(p.2.2.2.2.2.1+1)) (c:=(zI (wd [W] 0 s.1)).2.1)
  unfold yh at hD
  unfold ch at hC hC2
  dsimp only[yQ,xD,yx,zm4]
  rw[show decide ((1:Nat)=1)=true from rfl,yj,dT (0<=s.1),dT (s.1<(W.length:Int)),Yl (by omega) (by omega)]
  dsimp only[zo,zm4,yi,zm2,zc]
  rw[hD]
  dsimp only[zl,zt,zm4,Yp,yF,zo,z7,zc]
  clear hD hww
  generalize zI (wd [W] 0 s.1)=t at *
  rw[ze (x:=t.2.2.1+t.2.2.2.1)]
  by_cases k1:t.1=0
  ·rw[beq_iff_eq.2 k1]
   dsimp only[zc]
   by_cases k2:0<=t.2.1
   ·rw[decide_eq_true (show t.2.1≥0 from k2)]
    dsimp only[zc]
    have hmul:=Kd (o:=t.2.1) (n:=t.2.2.1+t.2.2.2.1) ⟨k2,to2⟩ ⟨by omega,by omega⟩
    rw[ze (x:=t.2.1*(t.2.2.1+t.2.2.2.1))]
    by_cases k3:t.2.1*(t.2.2.1+t.2.2.2.1)=p.2.2.2.2.2.1
    ·rw[beq_iff_eq.2 k3,wX]
     dsimp only[zl,zt,zm4]
     rw[hC]
     by_cases k4:p.2.2.2.2.2.1+1>s.2
     ·rw[if_pos k4,if_neg (fun h=>by omega)]
      exact ⟨(s.1+(p.2.2.2.2.2.1+1),s.2),rfl⟩
     ·rw[if_neg k4,if_pos ⟨h1.1,h1.2,⟨k1,k2,k3⟩,by omega⟩]
      dsimp only[yQ]
      unfold Jj
      by_cases hz:t.2.2.1+t.2.2.2.1=0
      ·rw[beq_iff_eq.2 hz,if_pos hz]
       dsimp only[zc]
       rw[hC2 (by omega) (by omega)]
       by_cases k5:t.2.1>s.2-(p.2.2.2.2.2.1+1)
       ·rw[if_pos k5,if_neg (by omega)]
        exact ⟨(s.1+(p.2.2.2.2.2.1+1),s.2-(p.2.2.2.2.2.1+1)),rfl⟩
       ·rw[if_neg k5,if_pos (by omega)]
        rfl
      ·rw[beq_eq_false_iff_ne.2 hz,if_neg hz]
       dsimp only[zu]
       obtain ⟨n,hn⟩:=Int.eq_ofNat_of_zero_le k2
       have hbn:s.1+1+(n:Int)*(t.2.2.1+t.2.2.2.1)<=W.length:=by rw[←hn,k3];omega
       have hL0:=zgM hl (k:=k) (n:=n) (st:=s.1) (dd:=t.2.2.1) (qq:=t.2.2.2.1) (by omega) ⟨td1,td2⟩ ⟨tq1,tq2⟩ (by omega) hbn (I (s.1+(p.2.2.2.2.2.1+1))) (I d) (I w) (I o) (I (s.2-(p.2.2.2.2.2.1+1))) p.1 p.2.1 p.2.2.1 p.2.2.2.1 p.2.2.2.2.1 p.2.2.2.2.2.1 p.2.2.2.2.2.2.1 p.2.2.2.2.2.2.2.1 p.2.2.2.2.2.2.2.2.1 p.2.2.2.2.2.2.2.2.2 (I t.1) (I t.2.2.2.2.1) (I t.2.2.2.2.2.1) (Bo t.2.2.2.2.2.2.1) (I t.2.2.2.2.2.2.2.1) (yJ t.2.2.2.2.2.2.2.2.1) (yJ t.2.2.2.2.2.2.2.2.2) n 0 (t.2.2.1==0) (t.2.2.2.1==0) (by omega) (fun h=>by have:=beq_eq_false_iff_ne.1 h;omega) (fun h=>by have:=beq_eq_false_iff_ne.1 h;omega)
       have hL2:=zgN hl hk hF (n:=n) (st:=s.1) (dd:=t.2.2.1) (qq:=t.2.2.2.1) (by omega) ⟨td1,td2⟩ ⟨tq1,tq2⟩ (by omega) hbn p.1 p.2.1 p.2.2.1 p.2.2.2.1 p.2.2.2.2.1 p.2.2.2.2.2.1 p.2.2.2.2.2.2.1 p.2.2.2.2.2.2.2.1 p.2.2.2.2.2.2.2.2.1 p.2.2.2.2.2.2.2.2.2 (I t.1) (I n) (I t.2.2.2.2.1) (I t.2.2.2.2.2.1) (Bo t.2.2.2.2.2.2.1) (I t.2.2.2.2.2.2.2.1) (yJ t.2.2.2.2.2.2.2.2.1) (yJ t.2.2.2.2.2.2.2.2.2) n 0 (s.1+(p.2.2.2.2.2.1+1),s.2-(p.2.2.2.2.2.1+1)) (by omega) ⟨by dsimp only;omega,by dsimp only;omega,by dsimp only;omega⟩
       rw[show ((0:Nat):Int)=0 from rfl] at hL0 hL2
       rw[hn,hL0,show ((n:Int)).toNat=n from zmX n]
       simp only[zjk]
       by_cases k6:(t.2.2.1=0∨w9 (Xu W (s.1+1) (t.2.2.1+t.2.2.2.1) t.2.2.1) n 0 false=true)/\(t.2.2.2.1=0∨w9 (Xu W (s.1+1) (t.2.2.1+t.2.2.2.1) (t.2.2.1+t.2.2.2.1)) n 0 false=true)
       ·rw[if_pos k6,if_pos k6]
        exact hL2
       ·rw[if_neg k6,if_neg k6]
        exact ⟨(s.1+(p.2.2.2.2.2.1+1),s.2-(p.2.2.2.2.2.1+1)),rfl⟩
    ·rw[beq_eq_false_iff_ne.2 k3,xS,if_neg (fun h=>k3 h.2.2.1.2.2)]
     exact ⟨(s.1+(p.2.2.2.2.2.1+1),s.2),rfl⟩
   ·rw[decide_eq_false (show ¬t.2.1≥0 from k2),if_neg (fun h=>k2 h.2.2.1.2.1)]
    dsimp only[zu]
    rw[xS]
    exact ⟨(s.1+(p.2.2.2.2.2.1+1),s.2),rfl⟩
  ·rw[beq_eq_false_iff_ne.2 k1,if_neg (fun h=>k1 h.2.2.1.1)]
   dsimp only[zu]
   rw[xS]
   exact ⟨(s.1+(p.2.2.2.2.2.1+1),s.2),rfl⟩
 ·rw[if_neg h1] at hO
  rw[hO,if_neg (fun h=>h1 ⟨h.1,h.2.1⟩)]
  exact ⟨s,rfl⟩
theorem zdJ {W:List Int} (hl:W.length<=1099511627776) (hw:∀ x∈W,zU x) {d w o k:Int} (hk:0<=k/\k<=1099511627776) {F:Int->CS->Option CS} (hF:VF W d w o (k+1) F) {a:Int} (ha:0<=a/\a<W.length) {p:PT} (hp1:-536870912<=p.2.1/\p.2.1<=536870911) (hp3:0<=p.2.2.2.2.2.1/\p.2.2.2.2.2.1<=536870911) (h7:p.2.2.2.2.1=7) {s:CS} (hs:Rg W s) :
  Vs W d w o (ev 194 [.ptr 0 0,.pv (I a),.pv (I k),.pv (.agg (yh p))] (ch W s.1 d w o s.2)) (Zd F W a p s):=by
 have hC:=(uZ hl hw hk hF ha hp1 hp3 hs).1
 have hE:ev 194 [.ptr 0 0,.pv (I a),.pv (I k),.pv (.agg (yh p))] (ch W s.1 d w o s.2)=_:=rF (ws W) s.1 d w o s.2 a k p.1 p.2.1 p.2.2.1 p.2.2.2.1 p.2.2.2.2.1 p.2.2.2.2.2.1 p.2.2.2.2.2.2.1 p.2.2.2.2.2.2.2.1 p.2.2.2.2.2.2.2.2.1 p.2.2.2.2.2.2.2.2.2
 rw[hE,beq_iff_eq.2 h7]
 dsimp only[zc]
 unfold yh ch at hC
 cases hq:Zd F W a p s with
 |none=>
  rw[hq] at hC
  obtain ⟨t,ht⟩:=hC
  unfold ch at ht
  rw[ht]
  exact ⟨t,rfl⟩
 |some t=>
  rw[hq] at hC
  have hC':ev 249 [.ptr 0 0,.pv (I a),.pv (I k),.pv (.agg [I p.1,I p.2.1,I p.2.2.1,I p.2.2.2.1,I p.2.2.2.2.1,I p.2.2.2.2.2.1,Bo p.2.2.2.2.2.2.1,I p.2.2.2.2.2.2.2.1,yJ p.2.2.2.2.2.2.2.2.1,yJ p.2.2.2.2.2.2.2.2.2])] [[.pv (.sl 1 (ws W)),.pv (I s.1),.pv (I d),.pv (I w),.pv (I o),.pv (I s.2)]]=some (.ret (.pv (.tup [])),ch W t.1 d w o t.2):=hC
  rw[hC']
  rfl
theorem zdP {W:List Int} (hl:W.length<=1099511627776) (hw:∀ x∈W,zU x) {d w o:Int} (hd:d<=1099511627775):∀ (D:Nat) (k:Int),0<=k->k<=1099511627776->(d+1-k).toNat=D->VF W d w o k (wK W D):=by
 have hS:=QH hl hw
 intro D
 induction D with
 |zero=>
  intro k k0 k1 hD a s ha0 ha1 hs
  have hww:zU (wd [W] 0 a):=vj hS 0 a
  refine ⟨?_,fun s' h=>?_⟩
  ·unfold ch
   rw[Ja,yj,decide_eq_true ha0,decide_eq_true ha1,Yl ha0 ha1,wK]
   dsimp only[zo,zm4,yi,zm2,zc]
   rw[XE]
   by_cases hz:wd [W] 0 a=0
   ·rw[beq_iff_eq.2 hz,if_pos hz]
    rfl
   ·rw[beq_eq_false_iff_ne.2 hz,if_neg hz]
    dsimp only[zl,zt,zm4,y4,zu]
    rw[Vw,if_pos (by omega)]
    dsimp only[zl,zt,zm4,z7]
    rw[show ((7:Int)==0)=false from rfl,xS]
    exact ⟨s,rfl⟩
  ·rw[wK] at h
   dsimp only at h
   split at h
   ·cases h;exact hs
   ·cases h
 |succ D ih=>
  intro k k0 k1 hD a s ha0 ha1 hs
  have hww:zU (wd [W] 0 a):=vj hS 0 a
  have hF:=ih (k+1) (by omega) (by omega) (by omega)
  obtain ⟨p1,p2,p3,p4,p5,p6,p7,p8,p9,p10,p11,p12⟩:=ZX hww
  have hk:=Wv hww
  have hst:=zdO hl hw (d:=d) (w:=w) (o:=o) (k:=k) ⟨k0,by omega⟩ hF ⟨ha0,ha1⟩ (p:=zI (wd [W] 0 a)) ⟨⟨p1,p2⟩,⟨p3,p4⟩,⟨p5,p6⟩⟩ hs
  have hco:=uZ hl hw (d:=d) (w:=w) (o:=o) (k:=k) ⟨k0,by omega⟩ hF ⟨ha0,ha1⟩ (p:=zI (wd [W] 0 a)) ⟨p1,p2⟩ ⟨p9,p10⟩ hs
  have hli:¬(zI (wd [W] 0 a)).2.2.2.2.1=7->_:=fun h7=>zdM hl hw (d:=d) (w:=w) (o:=o) (k:=k) ⟨k0,by omega⟩ hF ⟨ha0,ha1⟩ (p:=zI (wd [W] 0 a)) ⟨⟨p1,p2⟩,⟨p7,by omega⟩,⟨p9,p10⟩⟩ hs
  have hlc:(zI (wd [W] 0 a)).2.2.2.2.1=7->_:=fun h7=>zdJ hl hw (d:=d) (w:=w) (o:=o) (k:=k) ⟨k0,by omega⟩ hF ⟨ha0,ha1⟩ (p:=zI (wd [W] 0 a)) ⟨p1,p2⟩ ⟨p9,p10⟩ h7 hs
  have hLI:Vs W d w o (ev 194 [.ptr 0 0,.pv (I a),.pv (I k),.pv (.agg (yh (zI (wd [W] 0 a))))] (ch W s.1 d w o s.2)) (if (zI (wd [W] 0 a)).2.2.2.2.1=7 then Zd (wK W D) W a (zI (wd [W] 0 a)) s else ZV (wK W D) W a (zI (wd [W] 0 a)) s):=by
   by_cases h7:(zI (wd [W] 0 a)).2.2.2.2.1=7
   ·rw[if_pos h7];exact hlc h7
   ·rw[if_neg h7];exact (hli h7).1
  refine ⟨?_,fun s' h=>?_⟩
  ·have hdc:=xF hww
   unfold yh at hdc
   unfold ch
   rw[Ja,yj,decide_eq_true ha0,decide_eq_true ha1,Yl ha0 ha1,wK]
   dsimp only[zo,zm4,yi,zm2,zc]
   rw[XE]
   by_cases hz:wd [W] 0 a=0
   ·rw[beq_iff_eq.2 hz,if_pos hz]
    rfl
   ·rw[beq_eq_false_iff_ne.2 hz,if_neg hz]
    dsimp only[zl,zt,zm4,y4,zu]
    rw[Vw,if_neg (by omega)]
    dsimp only[zl,zt,zm4,z7]
    rw[show ((0:Int)==0)=true from rfl,wX]
    dsimp only[zl,zt,zm4]
    rw[hdc]
    dsimp only[zl,zt,zm4,Yp,yF,zo,z7,zc]
    unfold Jk
    by_cases h0:(zI (wd [W] 0 a)).1=0
    ·rw[beq_iff_eq.2 h0,if_pos h0]
     dsimp only[zc]
     have hV:=hst.1
     unfold yh ch at hV
     cases hq:Yw (wK W D) W a (zI (wd [W] 0 a)) s with
     |none=>
      rw[hq] at hV
      obtain ⟨t,ht⟩:=hV
      unfold ch at ht
      rw[ht]
      exact ⟨t,rfl⟩
     |some t=>
      rw[hq] at hV
      refine (K7 (show _=some (Out.ret (.pv (.tup [])),ch W t.1 d w o t.2) from hV)).trans ?_
      rfl
    ·rw[beq_eq_false_iff_ne.2 h0,if_neg h0]
     dsimp only[zu]
     by_cases h1:(zI (wd [W] 0 a)).1=1
     ·rw[beq_iff_eq.2 h1,if_pos h1]
      dsimp only[zc]
      have hV:=hLI
      unfold yh ch at hV
      cases hq:(if (zI (wd [W] 0 a)).2.2.2.2.1=7 then Zd (wK W D) W a (zI (wd [W] 0 a)) s else ZV (wK W D) W a (zI (wd [W] 0 a)) s) with
      |none=>
       rw[hq] at hV
       obtain ⟨t,ht⟩:=hV
       unfold ch at ht
       rw[ht]
       exact ⟨t,rfl⟩
      |some t=>
       rw[hq] at hV
       refine (K7 (show _=some (Out.ret (.pv (.tup [])),ch W t.1 d w o t.2) from hV)).trans ?_
       rfl
     ·rw[beq_eq_false_iff_ne.2 h1,if_neg h1]
      dsimp only[zu]
      rw[xS]
      exact ⟨s,rfl⟩
  ·rw[wK] at h
   dsimp only at h
   split at h
   ·cases h;exact hs
   ·unfold Jk at h
    split at h
    ·exact hst.2 s' h
    ·split at h
     ·split at h
      ·exact hco.2 s' h
      ·rename_i h7
       exact (hli h7).2 s' h
     ·cases h
def Ws (W:List Int) (d w:Int):Bool:=match wK W d.toNat 0 (1,max w 0) with
 |some s=>decide (0<W.length)&&(s.1==(W.length:Int))
 |none=>false
theorem zdK {W:List Int} (hl:W.length<=1099511627776) (hw:∀ x∈W,zU x) {d w o:Int} (hd:d<=1099511627775) (hm:w<=1099511627776):ev 76 [.pv (.sl 1 (ws W)),.pv (.agg [I d,I w,I o])] []=ok (Bo (Ws W d w)):=by
 rw[K9,yj]
 by_cases h0:0<W.length
 ·rw[dT ((W.length:Int)>0),wX,Vy]
  dsimp only[zl,zt,zm4,V1,zm2,yF,zo,zc]
  obtain ⟨hv,-⟩:=zdP hl hw (d:=d) (w:=w) (o:=o) hd d.toNat 1 (by decide) (by decide) (by omega) 0 (1,max w 0) (Int.le_refl _) (by omega) ⟨by dsimp only;omega,by dsimp only;omega,by dsimp only;omega⟩
  unfold ch at hv
  dsimp only at hv
  unfold Ws
  cases hq:wK W d.toNat 0 (1,max w 0) with
  |none=>
   rw[hq] at hv
   obtain ⟨t,ht⟩:=hv
   unfold ch at ht
   rw[ht]
   rfl
  |some t=>
   rw[hq] at hv
   refine (K7 (show _=some (Out.ret (.pv (.tup [])),ch W t.1 d w o t.2) from hv)).trans ?_
   dsimp only
   rw[decide_eq_true h0,Bool.true_and]
   rfl
 ·rw[dF ((W.length:Int)>0),xS]
  have hf:Ws W d w=false:=by
   unfold Ws
   cases wK W d.toNat 0 (1,max w 0) with
   |none=>rfl
   |some t=>dsimp only;rw[decide_eq_false h0];rfl
  rw[hf]
  rfl
def rv:Option CS->Int
 |some s=>s.1
 |none=>-1
section
variable {W:List Int} {D:Nat} {F:Int->CS->Option CS} {G:Int->Int->Int->Nd×Int×Int}
end
noncomputable def isC (b:List Int) (d w:Int):Bool:=match yI b with
 |some [W]=>Ws W d w
 |_=>false
theorem zfQ {b:List Int} (hb:∀ x∈b,zj x) (hl:b.length<=1099511627776) {d w:Int} (hw:w<=134217728):(Yt b d w).length<=1099511627776:=by
 unfold Yt
 split
 ·rename_i l h
  split
  ·rename_i h0
   obtain ⟨h1,h2⟩:=Z6 hb hl h
   have:=rC h1 h2 hw h0
   rw[zkY]
   omega
  ·exact Nat.zero_le _
 ·exact Nat.zero_le _
theorem zdX {b:List Int} (hb:∀ x∈b,zj x) (hl:b.length<=1099511627776) {d w o:Int} (hd:d<=1000) (hw:w<=134217728):ev 35 [.pv (.sl 1 (bs b)),.pv (.agg [I d,I w,I o])] []=ok (Bo (isC b d w)):=by
 rw[JS,ZR hb hl]
 dsimp only[zk,z6,zm3,zm2,zm4,yx]
 rw[va]
 unfold isC
 cases hp:yI b with
 |none=>rfl
 |some l=>
  obtain ⟨h1,h2⟩:=Z6 hb hl hp
  rw[if_neg (by simp),zmY]
  dsimp only[zm4]
  rw[show decide ((0:Int)=0)=true from rfl]
  dsimp only[zc]
  match l,h1,h2 with
  |[],_,_=>rfl
  |[W],h1,h2=>
   have hW:=h1.2 W (List.mem_singleton.2 rfl)
   have hWl:W.length<=1099511627776:=by
    have:=h2 0
    rw[QW] at this
    omega
   have hE:=YW (d:=d) (w:=w) (b:=o) (by omega) (by omega)
   have hC:=zdK hWl hW.2 (d:=d) (w:=w) (o:=o) (by omega) (by omega)
   rw[show zG [W]=[.sl 1 (ws W)] from rfl,show ((([.sl 1 (ws W)]:List PV).length:Nat):Int)=1 from rfl,show ((1:Int)==1)=true from rfl,show decide ((0:Int)<1)=true from rfl,show decide ((1:Nat)=1)=true from rfl]
   dsimp only[zo,zm2,zm4,Zb,zc]
   rw[hE]
   dsimp only[zk]
   rw[hC]
   rfl
  |x::y::r,_,_=>
   rw[W6,show ((((x::y::r).length:Nat):Int)==1)=false from beq_eq_false_iff_ne.2 (by simp only[zm6];omega)]
   rfl
theorem zjK:∀ (g:Nat) (W:List Int),W.length<=g->(∀ x∈pk g W,zj x)/\(pk g W).length<=16*W.length:=by
 intro g
 induction g with
 |zero=>
  intro W hg
  rw[pk]
  exact ⟨(fun x hx=>absurd hx List.not_mem_nil),Nat.zero_le _⟩
 |succ g ih=>
  intro W hg
  cases W with
  |nil=>rw[pk];exact ⟨(fun x hx=>absurd hx List.not_mem_nil),Nat.zero_le _⟩
  |cons w l=>
   rw[zm6] at hg ⊢
   have hz:=za1 w
   have ht:zj (ve w):=by have:=qE w;unfold zj;omega
   have hnz:∀ x∈YD w,zj x:=fun x hx=>zcU w x ((List.mem_filter.1 hx).1)
   rw[pk]
   split
   ·have hr:=W4 wC 255 l
    obtain ⟨i1,i2⟩:=ih (l.drop (runN wC 255 l)) (by rw[zm1];omega)
    rw[zm1] at i2
    refine ⟨fun x hx=>?_,?_⟩
    ·rcases List.mem_append.1 hx with h|h
     ·rcases List.mem_cons.1 h with rfl|h
      ·exact ht
      ·exact hnz x h
     ·rcases List.mem_cons.1 h with rfl|h
      ·unfold zj;omega
      ·exact i1 x h
    ·rw[zm5,zm6,zm6];omega
   ·split
    ·have hr:=W4 xy 255 l
     obtain ⟨i1,i2⟩:=ih (l.drop (runN xy 255 l)) (by rw[zm1];omega)
     have hbl:(zM (l.take (runN xy 255 l))).length=8*runN xy 255 l:=by rw[xJ,zm0];omega
     rw[zm1] at i2
     refine ⟨fun x hx=>?_,?_⟩
     ·rcases List.mem_append.1 hx with h|h
      ·rcases List.mem_cons.1 h with rfl|h
       ·exact ht
       ·exact hnz x h
      ·rcases List.mem_cons.1 h with rfl|h
       ·unfold zj;omega
       ·rcases List.mem_append.1 h with h|h
        ·exact vl _ x h
        ·exact i1 x h
     ·rw[zm5,zm6,zm6,zm5,hbl];omega
    ·obtain ⟨i1,i2⟩:=ih l (by omega)
     refine ⟨fun x hx=>?_,?_⟩
     ·rcases List.mem_append.1 hx with h|h
      ·rcases List.mem_cons.1 h with rfl|h
       ·exact ht
       ·exact hnz x h
      ·exact i1 x h
     ·rw[zm5,zm6];omega
theorem ziH {b:List Int} (hl:b.length<=4000):(∀ x∈mP b,zj x)/\(mP b).length<=65536:=by
 unfold mP
 split
 ·exact ⟨(fun x hx=>absurd hx List.not_mem_nil),Nat.zero_le _⟩
 ·obtain ⟨h1,h2⟩:=zjK (zS (b.length/8) b).length (zS (b.length/8) b) (Nat.le_refl _)
  rw[xp] at h2
  exact ⟨h1,by unfold pack;rw[xp];omega⟩
theorem olc1 (a:Int):decide (1<=(U8 a).cells.length)=true:=rfl
theorem zb4 (a b:Int):setCells (U8 a) 0 [U8 b]=some (U8 b):=rfl
theorem rm (c:List Int) (i:Nat) (x:Int):(bs c).set i (U8 x)=bs (c.set i x):=by unfold bs;rw[List.map_set]
theorem ziy {a b p:List Int} (ha:a.length<=17592186044416) (hb:b.length<=17592186044416) (hp:p.length<=17592186044416) (i8 i9 i10:Int):∀ (n:Nat) (u:List Int) (i:Nat),u.length<=17592186044416->u.length=i+n->VT (bs a) (bs b) (bs a) (bs b) (.sl 1 (bs p)) (bs p) (bs u) (i:Int) i8 i9 i10=ok (Bo true):=by
 intro n
 induction n with
 |zero=>
  intro u i hl hn
  rw[rP,zK,dF ((i:Int)<(u.length:Int))]
  dsimp only[zu]
  rw[X2 ha]
  dsimp only[zk,y4,zm4,zc]
  rw[X2 hb]
  dsimp only[zk,y4,zm4,zc]
  rw[X2 hp]
  rfl
 |succ n ih=>
  intro u i hl hn
  rw[rP,zK,dT ((i:Int)<(u.length:Int)),dT ((0:Int)<=(i:Int)),zmX,Wl (by omega)]
  dsimp only[zo,zc,zm4]
  rw[olc1]
  dsimp only[yi,zm2,zm4,vQ,zc]
  rw[zb4]
  dsimp only[zm4]
  rw[rm,ze (x:=(i:Int)+1)]
  exact ih _ (i+1) (by rw[List.length_set];exact hl) (by rw[List.length_set];omega)
theorem zix {a b p u:List Int} (ha:a.length<=17592186044416) (hb:b.length<=17592186044416) (hp:p.length<=17592186044416) (hu:u.length<=17592186044416) (i8 i9 i10:Int):∀ (n:Nat) (c:List Int) (i:Nat),c.length<=17592186044416->c.length=i+n->VS (bs a) (bs b) (bs a) (bs b) (bs c) (.sl 1 (bs p)) (bs p) (bs u) (i:Int) i8 i9 i10=ok (Bo true):=by
 intro n
 induction n with
 |zero=>
  intro c i hl hn
  rw[rO,zK,dF ((i:Int)<(c.length:Int))]
  dsimp only[zu]
  exact ziy ha hb hp i8 i9 i10 u.length u 0 hu (by omega)
 |succ n ih=>
  intro c i hl hn
  rw[rO,zK,dT ((i:Int)<(c.length:Int)),dT ((0:Int)<=(i:Int)),zmX,Wl (by omega)]
  dsimp only[zo,zc,zm4]
  rw[olc1]
  dsimp only[yi,zm2,zm4,vQ,zc]
  rw[zb4]
  dsimp only[zm4]
  rw[rm,ze (x:=(i:Int)+1)]
  exact ih _ (i+1) (by rw[List.length_set];exact hl) (by rw[List.length_set];omega)
theorem zlJ {p:List Int} (hb:∀ x∈p,zj x) (hl:p.length<=65536) (o:Int):(uO p o).length<=134742016:=by
 unfold uO
 split
 ·have:=(zcN hb o).2
  omega
 ·exact Nat.zero_le _
theorem ziz {a b:List Int} (ha:Bytes a) (hb:Bytes b) (d w o:Int):ev 11 [.pv (.sl 1 (bs a)),.pv (.sl 1 (bs b)),.pv (.agg [I d,I w,I o])] []=ok (Bo true):=by
 obtain ⟨ba,ea,ca⟩:=uV ha.2 d w o
 obtain ⟨bb,eb,cb⟩:=uV hb.2 d w o
 rw[zgj,zdF]
 dsimp only[zk,y4,zm4,vp,zu]
 rw[ea]
 dsimp only[zk,y4,zm4]
 cases ba with
 |false=>rfl
 |true=>
  dsimp only[vp,zu]
  rw[eb]
  dsimp only[zk,y4,zm4]
  cases bb with
  |false=>rfl
  |true=>
   obtain ⟨hla,hd,hw⟩:=ca rfl
   obtain ⟨hlb,_,_⟩:=cb rfl
   have hlA:a.length<=1099511627776:=by omega
   have hlB:b.length<=1099511627776:=by omega
   dsimp only[vp,zu]
   by_cases ho:o>100000
   ·rw[decide_eq_true ho]
    rfl
   rw[decide_eq_false ho,zK,zK,yL (by omega) (by omega),yL (by omega) (by omega)]
   dsimp only[zu,zc]
   rw[uL ha.2 hlA (by omega) (by omega)]
   dsimp only[zl]
   rw[Zk]
   dsimp only[zm4,zm3,zm2]
   rw[yu]
   dsimp only[zm4]
   obtain ⟨q1,q2⟩:=ziH (b:=a) (by omega)
   rw[gh ha.2 hlA]
   dsimp only[zk,z6,zm3,zm2,zm4,yx]
   rw[zK,yL (by omega) (by omega),show decide ((1:Nat)=1)=true from rfl]
   dsimp only[zc]
   rw[zdY q1 q2 d w o]
   dsimp only[zl]
   rw[Zk]
   dsimp only[zm4,zm3,zm2]
   rw[yu]
   dsimp only[zm4]
   rw[KR ha.2 hlA hb.2 hlB (by omega) (by omega),gg hb.2 hlB (by omega) (by omega),zdX hb.2 hlB (by omega) (by omega)]
   dsimp only[zk]
   have hc:=zfQ ha.2 hlA (d:=d) (w:=w) (by omega)
   have hu:=zlJ q1 q2 o
   exact zix (by omega) (by omega) (by omega) (by omega) d w o _ (Yt a d w) 0 (by omega) (Nat.zero_add _).symm
end Go.Proofs.YtjbjeeoifhegfaaGreatDoor.E
