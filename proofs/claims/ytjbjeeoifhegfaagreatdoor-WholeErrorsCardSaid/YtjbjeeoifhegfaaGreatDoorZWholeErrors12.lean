/- This text is one of those that prove the law WholeErrors of the given program, as its statement says it: true on every input that the statement covers. Its conditions are the statement's own. -/
import Derived.Below
import Derived.ProofKit
import Derived.OpenShut
import Derived.Stop.Joined
import Derived.LaidMore
import Derived.Deep.Slices
import Derived.Test.YtjbjeeoifhegfaaGreatDoorRows
import Derived.Maps.OwnSet
import Derived.Maps.Keyed
import Derived.LaidSub
import Derived.Lib.LaidTab
import Derived.WalkKit
import Derived.LaidEql
import Derived.Stop.Asserts
import Derived.RowKitTokens
import Derived.Stop.LaidTwo
import Derived.LaidHandle
import Derived.Test.YtjbjeeoifhegfaaGreatDoorZWholeErrors1
import Derived.Test.YtjbjeeoifhegfaaGreatDoorZWholeErrors2
import Derived.Test.YtjbjeeoifhegfaaGreatDoorZWholeErrors3
import Derived.Test.YtjbjeeoifhegfaaGreatDoorZWholeErrors4
import Derived.Test.YtjbjeeoifhegfaaGreatDoorZWholeErrors5
import Derived.Test.YtjbjeeoifhegfaaGreatDoorZWholeErrors6
import Derived.Test.YtjbjeeoifhegfaaGreatDoorZWholeErrors7
import Derived.Test.YtjbjeeoifhegfaaGreatDoorZWholeErrors8
import Derived.Test.YtjbjeeoifhegfaaGreatDoorZWholeErrors9
import Derived.Test.YtjbjeeoifhegfaaGreatDoorZWholeErrors10
import Derived.Test.YtjbjeeoifhegfaaGreatDoorZWholeErrors11
set_option linter.unusedVariables false
set_option linter.unusedSimpArgs false
open List renaming getElem?_cons_zero → znu
open List renaming getElem?_cons_succ → znv
open Option renaming bind_some → znw
open List renaming length_append → znx
open List renaming length_cons → zny
open Option.some renaming injEq → znB
namespace Go.Proofs.YtjbjeeoifhegfaaGreatDoor.E
open Go.RowKit
def g0 (w:World):Nat → Option (Array Value):=fun b => match w.heap[b]? with
 | some (.cells c _ _) => some c
 | _ => none
def G0 (w:World):Gh:=⟨g0 w,fun _ => none,fun b => if b < w.heap.size then some .imm else none⟩
theorem zjQ {w:World} {b:Nat} {c:Array Value} (h:g0 w b = some c):∃ T f,w.heap[b]? = some (.cells c T f):=by
 unfold g0 at h
 split at h
 ·rename_i c' T f hb; cases h; exact ⟨T,f,hb⟩
 ·cases h
theorem ZT {w:World} {a:Addr} {u:Value} (h:w.cell? a = some u):a.spot = none ∧ ∃ c,g0 w a.block = some c ∧ c[a.off]? = some u:=by
 unfold World.cell? at h
 split at h
 ·rename_i c T f hb
  cases hs:a.spot with
  | some s => simp [hs] at h
  | none => simp only [hs,Option.isSome_none,Bool.false_eq_true,if_false] at h; exact ⟨rfl,c,by unfold g0; rw [hb],h⟩
 ·cases h
theorem znt {P:Program} {E:Env} {w:World} (hmaps:∀ g l,find E.maps g = some l → ∃ v c,g0 w g = some c ∧ c[0]? = some v ∧ MRel P E (G0 w) w g v) (hglob:∀ g p,find E.glob g = some p → ERel (G0 w) p 0 (.pointer (some ⟨g,0,none⟩)))
  (hsen:∀ g,find E.glob g = some (.sen g) → ∃ c a ca ta,g0 w g = some c ∧ c[0]? = some (.iface E.sty (.pointer (some a))) ∧ w.heap[a.block]? = some (.cells ca ta (0,0)))
  (hdst:∀ g1 g2 c1 c2,find E.glob g1 = some (.sen g1) → find E.glob g2 = some (.sen g2) → g1 ≠ g2 → g0 w g1 = some c1 → g0 w g2 = some c2 → c1[0]? ≠ c2[0]?)
  (hfix:∀ g v,find E.fix g = some v → ∃ c,g0 w g = some c ∧ c[0]? = some v):WOk P E (G0 w) w:=by
 refine ⟨fun b c hb => ?_,fun b h hb => ?_,hmaps,hglob,fun g hg => by
  obtain ⟨c,a,ca,ta,h1,h2,h3⟩:=hsen g hg
  exact ⟨c,a,ca,ta,h1,h2,if_pos (Array.getElem?_eq_some_iff.1 h3).1,h3⟩,hdst,hfix⟩
 ·obtain ⟨T,f,h⟩:=zjQ hb
  exact ⟨if_pos (Array.getElem?_eq_some_iff.1 h).1,T,f,h⟩
 ·by_cases hl:b < w.heap.size
  ·exact hl
  ·rw [show (G0 w).ka b = none from if_neg hl] at hb; cases hb
theorem zbS {w w':World} {G':Gh} (f:Fr (G0 w) w G' w' X0):Below w.heap.size w w' :=
 ⟨f.os,f.tape,f.output,f.size,fun k hk => (f.ka k .imm (if_pos hk) X0_old.1).2⟩
theorem zh6 {P:Program} {E:Env} {fns:List (Nat × Func)} (hm:P.follows .mixedOrders = true) (hS:SysOk P E) (hfn:∀ f fn,find fns f = some fn → P.funcs[f]? = some fn ∧ fn.body.isSome = true ∧ (fn.name == "runtime.NumGoroutine") = false) (zkX:zi7 P E)
  {w:World} (hw:WOk P E (G0 w) w) {f:Nat} {ps:List PV} {vs:Array Value} (hsz:vs.size = ps.length) (hps:∀ (j:Nat) (p:PV) (x:Value),ps[j]? = some p → vs[j]? = some x → PRep (g0 w) p x)
  (hv:val E fns f (ps.map .pv) [] = some (.ret (.pv (.v (.bool true))),[])):Calls P f vs w fun e w' => e = .returned (.bool true) ∧ Below w.heap.size w w':=by
 obtain ⟨k,hk⟩:=zil hv
 refine ((zfI hm hS hfn zkX k).1 f _ _ _ _ hk (G0 w) w vs ⟨hw,fun l cs hl => (by simp at hl),fun l b hb => (by cases hb),(by simpa using hsz),fun j q x hq hx => ?_⟩).mono fun e w' he => ?_
 ·rw [List.getElem?_map] at hq
  cases hj:ps[j]? with
  | none => simp [hj] at hq
  | some p =>
   simp only [hj,Option.map_some,znB] at hq
   subst hq
   exact .inl ⟨rfl,fun _ => hps j p x hj hx⟩
 ·obtain ⟨G',f',_,_,_,ho⟩:=he
  refine ⟨?_,zbS f'⟩
  cases e with
  | returned v =>
   have:PRep G'.g (.v (.bool true)) v:=ho
   rw [WO this]
  | panicked c => exact ho.elim
  | outgrown => exact ho.elim
structure Enc (α:Type) where
 cells:α → List PV
 sz:Nat
 agg:Bool
 len:∀ a,(cells a).length = sz
 one:agg = false → sz = 1
def Enc.pv {α:Type} (e:Enc α) (a:α):PV:=if e.agg then .agg (e.cells a) else (e.cells a).headD (.v .nilFunc)
def RdsAt {H α:Type} (enc:TypeId × Value → H) (P:Program) (w:World) (n:Nat) (t:TypeId) (e:Enc α) (S:α → DataW H → Prop):Prop :=
 ∀ cs x,DataW.trod enc P w 0 (fun _ => true) true n t cs = some x → ∃ a,cs.length = e.sz ∧ (∀ (j:Nat) (q:PV) (u:Value),(e.cells a)[j]? = some q → cs[j]? = some u → q.isCell = true ∧ PRep (g0 w) q u) ∧ S a x.1
def zmq (k:IntKind):Enc Int:=⟨fun n => [.v (.int k n)],1,false,fun _ => rfl,fun _ => rfl⟩
def zjN:Enc Bool:=⟨fun b => [.v (.bool b)],1,false,fun _ => rfl,fun _ => rfl⟩
def eSl {α:Type} (e:Enc α):Enc (List α):=⟨fun l => [.sl e.sz (l.map e.pv)],1,false,fun _ => rfl,fun _ => rfl⟩
def DI {H:Type} (k:IntKind) (n:Int) (x:DataW H):Prop:=x = .lit (.int k n) ∧ (Lit.int k n).wf = true
def DB {H:Type} (b:Bool) (x:DataW H):Prop:=x = .lit (.bool b)
inductive DAll {H α:Type} (S:α → DataW H → Prop):List α → List (DataW H) → Prop
 | nil:DAll S [] []
 | cons {a:α} {x:DataW H} {us:List α} {xs:List (DataW H)}:S a x → DAll S us xs → DAll S (a :: us) (x :: xs)
def DS {H α:Type} (S:α → DataW H → Prop) (xs:List α) (x:DataW H):Prop:=xs.length ≤ 9223372036854775807 ∧ ((xs = [] ∧ x = .nil) ∨ ∃ es rest,x = .slice es rest ∧ DAll S xs es)
theorem DAll.mem {H α:Type} {S:α → DataW H → Prop} {us:List α} {xs:List (DataW H)} (h:DAll S us xs) {a:α} (ha:a ∈ us):∃ x,x ∈ xs ∧ S a x:=by
 induction h with
 | nil => cases ha
 | cons h0 _ ih =>
  rcases List.mem_cons.1 ha with rfl | ha
  ·exact ⟨_,List.mem_cons_self,h0⟩
  ·obtain ⟨x,hx,hs⟩:=ih ha
   exact ⟨x,List.mem_cons_of_mem _ hx,hs⟩
theorem DAll.length {H α:Type} {S:α → DataW H → Prop} {us:List α} {xs:List (DataW H)} (h:DAll S us xs):us.length = xs.length:=by
 induction h with
 | nil => rfl
 | cons _ _ ih => simp [ih]
theorem DS.mem {H α:Type} {S:α → DataW H → Prop} {xs:List α} {x:DataW H} (h:DS S xs x) {a:α} (ha:a ∈ xs):∃ y,S a y:=by
 rcases h.2 with ⟨rfl,_⟩ | ⟨es,rest,_,h⟩
 ·cases ha
 ·obtain ⟨y,_,hs⟩:=h.mem ha
  exact ⟨y,hs⟩
theorem DAll.of_get {H α:Type} {S:α → DataW H → Prop}:∀ {us:List α} {xs:List (DataW H)},us.length = xs.length → (∀ (i:Nat) (a:α) (x:DataW H),us[i]? = some a → xs[i]? = some x → S a x) → DAll S us xs
 | [],[],_,_ => .nil
 | [],_ :: _,h,_ => by simp at h
 | _ :: _,[],h,_ => by simp at h
 | a :: us,x :: xs,h,hg => .cons (hg 0 a x rfl rfl) (DAll.of_get (by simpa using h) fun i b y hb hy => hg (i + 1) b y (by simpa using hb) (by simpa using hy))
section
variable {H α β:Type} {enc:TypeId × Value → H} {P:Program} {w:World} {n:Nat} {t e:TypeId}
theorem Enc.pv_cells (d:Enc α) (a:α) (hc:∀ q ∈ d.cells a,q.isCell = true):(d.pv a).cells = d.cells a:=by
 unfold Enc.pv
 cases ha:d.agg with
 | true => rfl
 | false =>
  simp only [Bool.false_eq_true,if_false]
  have h1:=d.one ha
  have h2:=d.len a
  match hcs:d.cells a with
  | [] => rw [hcs] at h2; simp at h2; omega
  | [q] =>
   have:=hc q (by rw [hcs]; exact List.mem_cons_self)
   simp only [List.headD_cons]
   cases q <;> simp_all [PV.cells,PV.isCell]
  | q :: r :: l => rw [hcs] at h2; simp at h2; omega
theorem RdsAt.zero (t:TypeId) (d:Enc α) (S:α → DataW H → Prop):RdsAt enc P w 0 t d S:=by
 intro cs x h
 simp [DataW.trod] at h
theorem RdsAt.int {k:IntKind} (ht:P.underlying t = some (.int k)):RdsAt enc P w n t (zmq k) (DI k):=by
 intro cs x h
 obtain ⟨m,rfl,rfl,hw⟩:=DataW.trod_int ht h
 refine ⟨m,rfl,fun j q u hq hu => ?_,rfl,hw⟩
 cases j with
 | zero => simp [zmq] at hq hu; subst hq; subst hu; exact ⟨rfl,.v rfl⟩
 | succ j => simp [zmq] at hq
theorem RdsAt.bool (ht:P.underlying t = some .bool):RdsAt enc P w n t zjN DB:=by
 intro cs x h
 obtain ⟨b,rfl,rfl⟩:=DataW.trod_bool ht h
 refine ⟨b,rfl,fun j q u hq hu => ?_,rfl⟩
 cases j with
 | zero => simp [zjN] at hq hu; subst hq; subst hu; exact ⟨rfl,.v rfl⟩
 | succ j => simp [zjN] at hq
theorem zdi {f:α → Option β}:∀ {l:List α} {r:List β},l.mapM f = some r → r.length = l.length ∧ ∀ (i:Nat) (x:α),l[i]? = some x → f x = r[i]?
 | [],r,h => by simp at h; subst h; simp
 | a :: l,r,h => by
  simp only [List.mapM_cons,Option.bind_eq_bind,Option.bind_eq_some_iff,Option.pure_def,znB] at h
  obtain ⟨b,hb,r',hr,rfl⟩:=h
  obtain ⟨h1,h2⟩:=zdi hr
  refine ⟨by simp [h1],fun i x hx => ?_⟩
  cases i with
  | zero => simp at hx; subst hx; simpa using hb
  | succ i => simp at hx; simpa using h2 i x hx
theorem zd3 {w:World} {a:Addr} {n:Nat} {cs:List Value} (h:w.cells? 0 a n = some cs):cs.length = n ∧ ∀ (i:Nat) (u:Value),cs[i]? = some u → w.cell? (a.add i) = some u:=by
 simp only [World.cells?,Nat.zero_le,if_true] at h
 obtain ⟨h1,h2⟩:=zdi h
 refine ⟨by simpa using h1,fun i u hu => ?_⟩
 have hi:i < n:=by have:=(List.getElem?_eq_some_iff.1 hu).1; simp at h1; omega
 rw [h2 i i (by simp [hi]),hu]
theorem Qr {p:Nat → α → Prop}:∀ (m:Nat),(∀ i,i < m → ∃ a,p i a) → ∃ l:List α,l.length = m ∧ ∀ (i:Nat) (a:α),l[i]? = some a → p i a
 | 0,_ => ⟨[],rfl,fun i a h => by simp at h⟩
 | m + 1,h => by
  obtain ⟨l,hl,hp⟩:=Qr m (fun i hi => h i (by omega))
  obtain ⟨a,ha⟩:=h m (by omega)
  refine ⟨l ++ [a],by simp [hl],fun i b hb => ?_⟩
  rcases Nat.lt_or_ge i l.length with hi | hi
  ·rw [List.getElem?_append_left hi] at hb
   exact hp i b hb
  ·have:i = l.length:=by
    have:=(List.getElem?_eq_some_iff.1 hb).1
    simp at this
    omega
   subst this
   simp at hb
   subst hb
   rw [hl]
   exact ha
theorem RdsAt.slice {d:Enc α} {S:α → DataW H → Prop} (ht:P.underlying t = some (.slice e)) (hc:P.cellsOf e = d.sz) (h0:0 < d.sz) (h:RdsAt enc P w n e d S):RdsAt enc P w (n + 1) t (eSl d) (DS S):=by
 intro cs x hx
 rcases DataW.trod_slice ht hx with ⟨rfl,rfl⟩ | ⟨a,len,cap,elems,rest,m,hm,rfl,rfl,_,hl,hcap,hlen,hel,_⟩
 ·refine ⟨[],rfl,fun j q u hq hu => ?_,by simp,.inl ⟨rfl,rfl⟩⟩
  cases j with
  | zero => simp [eSl] at hq hu; subst hq; subst hu; exact ⟨rfl,.sl0⟩
  | succ j => simp [eSl] at hq
 ·obtain rfl:n = m:=by omega
  have key:∀ i,i < len → ∃ p:α,(∀ (j:Nat),j < d.sz → ∃ q u,(d.cells p)[j]? = some q ∧ w.cell? (a.add (i * d.sz + j)) = some u ∧ q.isCell = true ∧ PRep (g0 w) q u) ∧ ∃ y,elems[i]? = some y ∧ S p y.1:=by
   intro i hi
   have h1:=hel i hi
   rw [List.getElem?_eq_getElem (by omega:i < elems.length)] at h1
   obtain ⟨c,hc1,hc2⟩:=Option.bind_eq_some_iff.mp h1
   obtain ⟨p,hp1,hp2,hs⟩:=h c _ hc2
   obtain ⟨k1,k2⟩:=zd3 hc1
   refine ⟨p,fun j hj => ?_,_,List.getElem?_eq_getElem (by omega),hs⟩
   have hjc:j < c.length:=by omega
   have hjd:j < (d.cells p).length:=by rw [d.len]; exact hj
   obtain ⟨g1,g2⟩:=hp2 j _ _ (List.getElem?_eq_getElem hjd) (List.getElem?_eq_getElem hjc)
   refine ⟨_,_,List.getElem?_eq_getElem hjd,?_,g1,g2⟩
   have:=k2 j _ (List.getElem?_eq_getElem hjc)
   rwa [Deep.add_add,hc] at this
  obtain ⟨ps,hpl,hps⟩:=Qr len key
  have hcell:∀ p ∈ ps,∀ q ∈ d.cells p,q.isCell = true:=fun p hp q hq => by
   obtain ⟨i,hi,rfl⟩:=List.getElem_of_mem hp
   obtain ⟨j,hj,rfl⟩:=List.getElem_of_mem hq
   rw [d.len] at hj
   obtain ⟨q',u,e1,e2,e3,e4⟩:=(hps i _ (List.getElem?_eq_getElem hi)).1 j hj
   rw [List.getElem?_eq_getElem (by rw [d.len]; exact hj)] at e1
   cases e1
   exact e3
  have hpv:∀ p ∈ ps,(d.pv p).cells = d.cells p:=fun p hp => d.pv_cells p (hcell p hp)
  refine ⟨ps,rfl,fun j q u hq hu => ?_,by rw [hpl]; unfold maxLen at hcap; omega,.inr ⟨_,_,rfl,?_⟩⟩
  ·cases j with
   | succ j => simp [eSl] at hq
   | zero =>
    simp [eSl] at hq hu
    subst hq
    subst hu
    refine ⟨rfl,?_⟩
    match hlen0:len with
    | 0 =>
     have:ps = []:=List.length_eq_zero_iff.1 hpl
     subst this
     exact .sl0
    | m + 1 =>
    have hl0:0 < ps.length:=by omega
    obtain ⟨q0,u0,_,e2,_,_⟩:=(hps 0 _ (List.getElem?_eq_getElem hl0)).1 0 h0
    rw [show 0 * d.sz + 0 = 0 by omega,show a.add 0 = a by simp [Addr.add]] at e2
    obtain ⟨hs,c,hg,_⟩:=ZT e2
    obtain ⟨ab,ao,as0⟩:=a
    simp only at hs hg
    subst hs
    have hadd:∀ k,(⟨ab,ao,none⟩:Addr).add k = ⟨ab,ao + k,none⟩:=fun k => by
     unfold Addr.add
     split
     ·rename_i hk; subst hk; rfl
     ·rfl
    have hcells:∀ (i:Nat) (p:α),ps[i]? = some p → ∀ (j:Nat),j < d.sz → ∃ q u,(d.cells p)[j]? = some q ∧ c[ao + i * d.sz + j]? = some u ∧ q.isCell = true ∧ PRep (g0 w) q u:=fun i p hp j hj => by
     obtain ⟨q,u,e1,e2,e3,e4⟩:=(hps i p hp).1 j hj
     rw [hadd] at e2
     obtain ⟨_,c',hg',hcu⟩:=ZT e2
     simp only at hg' hcu
     rw [hg] at hg'
     cases hg'
     exact ⟨q,u,e1,by rw [Nat.add_assoc]; exact hcu,e3,e4⟩
    have hrep:∀ (i:Nat) (x:PV) (j:Nat) (q:PV) (u:Value),(ps.map d.pv)[i]? = some x → x.cells[j]? = some q → c[ao + i * d.sz + j]? = some u → q.isCell = true ∧ PRep (g0 w) q u:=fun i x j q u hx hq hu => by
     rw [List.getElem?_map] at hx
     cases hp:ps[i]? with
     | none => simp [hp] at hx
     | some p =>
      simp only [hp,Option.map_some,znB] at hx
      subst hx
      rw [hpv p (List.mem_of_getElem? hp)] at hq
      have hj:j < d.sz:=by rw [← d.len p]; exact (List.getElem?_eq_some_iff.1 hq).1
      obtain ⟨q',u',e1,e2,e3,e4⟩:=hcells i p hp j hj
      rw [hq] at e1
      rw [hu] at e2
      cases e1; cases e2
      exact ⟨e3,e4⟩
    have hlast:ao + ps.length * d.sz ≤ c.size:=by
     obtain ⟨q,u,_,e2,_⟩:=hcells (ps.length - 1) _ (List.getElem?_eq_getElem (by omega)) (d.sz - 1) (by omega)
     have:=(Array.getElem?_eq_some_iff.1 e2).1
     have e:ps.length * d.sz = (ps.length - 1) * d.sz + d.sz:=by
      rw [← Nat.succ_mul]
      congr 1
      omega
     omega
    have hfin:=PRep.sl (g:=g0 w) (sz:=d.sz) (b:=ab) (o:=ao) (cap:=cap) (xs:=ps.map d.pv) (c:=c) hg (by simp [hpl]; omega) (by simpa using hlast) (fun x hx => by
      obtain ⟨p,hp,rfl⟩:=List.mem_map.1 hx
      rw [hpv p hp,d.len]) (fun i x j q u hx hq hu => (hrep i x j q u hx hq hu).1) (fun i x j q u hx hq hu => (hrep i x j q u hx hq hu).2)
    rw [List.length_map,hpl] at hfin
    exact hfin
  ·refine DAll.of_get (by simp [hpl,hlen]) fun i p y hp hy => ?_
   obtain ⟨_,z,hz,hs⟩:=hps i p hp
   rw [List.getElem?_map,hz] at hy
   simp at hy
   subst hy
   exact hs
theorem ziR {d:Enc α} {S:α → DataW H → Prop} (h:∀ n,RdsAt enc P w n t d S) {v:Value} {x:DataW H} {ps:List MemPlace} (hag:d.agg = false → v.cells = #[v]) (hag':d.agg = true → ∃ vs,v = .agg vs) (hv:DataW.Trod enc P w 0 (fun _ => true) true t v x ps):∃ a,PRep (g0 w) (d.pv a) v ∧ S a x:=by
 obtain ⟨fuel,hf⟩:=hv
 obtain ⟨a,h1,h2,h3⟩:=h fuel _ _ hf
 refine ⟨a,?_,h3⟩
 unfold Enc.pv
 cases ha:d.agg with
 | true =>
  obtain ⟨vs,rfl⟩:=hag' ha
  simp only [if_true]
  have e:(Value.agg vs).cells = vs:=rfl
  rw [e] at h1 h2
  refine .agg (by rw [d.len]; simpa using h1) (fun q hq => ?_) (fun j q u hq hu => (h2 j q u hq (by simpa using hu)).2)
  obtain ⟨j,hj,rfl⟩:=List.getElem_of_mem hq
  have hj':j < vs.size:=by rw [d.len] at hj; simp at h1; omega
  exact (h2 j _ vs[j] (List.getElem?_eq_getElem hj) (by simp [hj'])).1
 | false =>
  simp only [Bool.false_eq_true,if_false]
  have hl:=d.len a
  rw [d.one ha] at hl
  obtain ⟨q,hq⟩:=List.length_eq_one_iff.1 hl
  rw [hq]
  simp only [List.headD_cons]
  rw [hag ha] at h2
  exact (h2 0 q v (by rw [hq]; rfl) rfl).2
end
open Go.RowKit Go.WideMaps Go.WideElems
theorem hm:Tryz.prog.follows .mixedOrders = true:=by kernel_rfl
theorem hS:SysOk Tryz.prog env:=zl8 (by kernel_rfl)
def zm7 (f:Nat) (fn:Func):Prop:=Tryz.prog.funcs[f]? = some fn ∧ fn.body.isSome = true ∧ (fn.name == "runtime.NumGoroutine") = false
def zmA:List (Nat × Func) → Prop
 | [] => True
 | p :: l => zm7 p.1 p.2 ∧ zmA l
theorem zaI:∀ {l:List (Nat × Func)} {f:Nat} {fn:Func},zmA l → find l f = some fn → zm7 f fn
 | [],_,_,_,h => by cases h
 | (k,a) :: l,f,fn,hl,h => by
  unfold find at h
  split at h
  ·rename_i hk
   cases h
   subst hk
   exact hl.1
  ·exact zaI hl.2 h
set_option maxRecDepth 100000 in
theorem zjP:zmA fns:=⟨⟨Tryz.func3,by kernel_rfl,by kernel_rfl⟩,⟨Tryz.func4,by kernel_rfl,by kernel_rfl⟩,⟨Tryz.func5,by kernel_rfl,by kernel_rfl⟩,⟨Tryz.func6,by kernel_rfl,by kernel_rfl⟩,⟨Tryz.func7,by kernel_rfl,by kernel_rfl⟩,⟨Tryz.func8,by kernel_rfl,by kernel_rfl⟩,⟨Tryz.func9,by kernel_rfl,by kernel_rfl⟩,⟨Tryz.func10,by kernel_rfl,by kernel_rfl⟩,⟨Tryz.func11,by kernel_rfl,by kernel_rfl⟩,⟨Tryz.func12,by kernel_rfl,by kernel_rfl⟩,⟨Tryz.func13,by kernel_rfl,by kernel_rfl⟩,⟨Tryz.func14,by kernel_rfl,by kernel_rfl⟩,⟨Tryz.func15,by kernel_rfl,by kernel_rfl⟩,⟨Tryz.func16,by kernel_rfl,by kernel_rfl⟩,⟨Tryz.func17,by kernel_rfl,by kernel_rfl⟩,⟨Tryz.func18,by kernel_rfl,by kernel_rfl⟩,⟨Tryz.func19,by kernel_rfl,by kernel_rfl⟩,⟨Tryz.func20,by kernel_rfl,by kernel_rfl⟩,⟨Tryz.func21,by kernel_rfl,by kernel_rfl⟩,⟨Tryz.func22,by kernel_rfl,by kernel_rfl⟩,⟨Tryz.func23,by kernel_rfl,by kernel_rfl⟩,⟨Tryz.func24,by kernel_rfl,by kernel_rfl⟩,⟨Tryz.func25,by kernel_rfl,by kernel_rfl⟩,⟨Tryz.func26,by kernel_rfl,by kernel_rfl⟩,⟨Tryz.func27,by kernel_rfl,by kernel_rfl⟩,⟨Tryz.func28,by kernel_rfl,by kernel_rfl⟩,⟨Tryz.func29,by kernel_rfl,by kernel_rfl⟩,⟨Tryz.func30,by kernel_rfl,by kernel_rfl⟩,⟨Tryz.func31,by kernel_rfl,by kernel_rfl⟩,⟨Tryz.func32,by kernel_rfl,by kernel_rfl⟩,⟨Tryz.func33,by kernel_rfl,by kernel_rfl⟩,⟨Tryz.func34,by kernel_rfl,by kernel_rfl⟩,⟨Tryz.func35,by kernel_rfl,by kernel_rfl⟩,⟨Tryz.func36,by kernel_rfl,by kernel_rfl⟩,⟨Tryz.func37,by kernel_rfl,by kernel_rfl⟩,⟨Tryz.func38,by kernel_rfl,by kernel_rfl⟩,⟨Tryz.func39,by kernel_rfl,by kernel_rfl⟩,⟨Tryz.func40,by kernel_rfl,by kernel_rfl⟩,⟨Tryz.func41,by kernel_rfl,by kernel_rfl⟩,⟨Tryz.func42,by kernel_rfl,by kernel_rfl⟩,⟨Tryz.func43,by kernel_rfl,by kernel_rfl⟩,⟨Tryz.func44,by kernel_rfl,by kernel_rfl⟩,⟨Tryz.func45,by kernel_rfl,by kernel_rfl⟩,⟨Tryz.func46,by kernel_rfl,by kernel_rfl⟩,⟨Tryz.func47,by kernel_rfl,by kernel_rfl⟩,⟨Tryz.func48,by kernel_rfl,by kernel_rfl⟩,⟨Tryz.func49,by kernel_rfl,by kernel_rfl⟩,⟨Tryz.func50,by kernel_rfl,by kernel_rfl⟩,⟨Tryz.func51,by kernel_rfl,by kernel_rfl⟩,⟨Tryz.func52,by kernel_rfl,by kernel_rfl⟩,⟨Tryz.func53,by kernel_rfl,by kernel_rfl⟩,⟨Tryz.func54,by kernel_rfl,by kernel_rfl⟩,⟨Tryz.func55,by kernel_rfl,by kernel_rfl⟩,⟨Tryz.func56,by kernel_rfl,by kernel_rfl⟩,⟨Tryz.func57,by kernel_rfl,by kernel_rfl⟩,⟨Tryz.func58,by kernel_rfl,by kernel_rfl⟩,⟨Tryz.func59,by kernel_rfl,by kernel_rfl⟩,⟨Tryz.func60,by kernel_rfl,by kernel_rfl⟩,⟨Tryz.func61,by kernel_rfl,by kernel_rfl⟩,⟨Tryz.func62,by kernel_rfl,by kernel_rfl⟩,⟨Tryz.func63,by kernel_rfl,by kernel_rfl⟩,⟨Tryz.func64,by kernel_rfl,by kernel_rfl⟩,⟨Tryz.func65,by kernel_rfl,by kernel_rfl⟩,⟨Tryz.func66,by kernel_rfl,by kernel_rfl⟩,⟨Tryz.func67,by kernel_rfl,by kernel_rfl⟩,⟨Tryz.func68,by kernel_rfl,by kernel_rfl⟩,⟨Tryz.func69,by kernel_rfl,by kernel_rfl⟩,⟨Tryz.func70,by kernel_rfl,by kernel_rfl⟩,⟨Tryz.func71,by kernel_rfl,by kernel_rfl⟩,⟨Tryz.func72,by kernel_rfl,by kernel_rfl⟩,⟨Tryz.func73,by kernel_rfl,by kernel_rfl⟩,⟨Tryz.func74,by kernel_rfl,by kernel_rfl⟩,⟨Tryz.func75,by kernel_rfl,by kernel_rfl⟩,⟨Tryz.func76,by kernel_rfl,by kernel_rfl⟩,⟨Tryz.func77,by kernel_rfl,by kernel_rfl⟩,⟨Tryz.func78,by kernel_rfl,by kernel_rfl⟩,⟨Tryz.func79,by kernel_rfl,by kernel_rfl⟩,⟨Tryz.func80,by kernel_rfl,by kernel_rfl⟩,⟨Tryz.func81,by kernel_rfl,by kernel_rfl⟩,⟨Tryz.func82,by kernel_rfl,by kernel_rfl⟩,⟨Tryz.func83,by kernel_rfl,by kernel_rfl⟩,⟨Tryz.func84,by kernel_rfl,by kernel_rfl⟩,⟨Tryz.func85,by kernel_rfl,by kernel_rfl⟩,⟨Tryz.func86,by kernel_rfl,by kernel_rfl⟩,⟨Tryz.func87,by kernel_rfl,by kernel_rfl⟩,⟨Tryz.func88,by kernel_rfl,by kernel_rfl⟩,⟨Tryz.func89,by kernel_rfl,by kernel_rfl⟩,⟨Tryz.func90,by kernel_rfl,by kernel_rfl⟩,⟨Tryz.func91,by kernel_rfl,by kernel_rfl⟩,⟨Tryz.func92,by kernel_rfl,by kernel_rfl⟩,⟨Tryz.func93,by kernel_rfl,by kernel_rfl⟩,⟨Tryz.func94,by kernel_rfl,by kernel_rfl⟩,⟨Tryz.func95,by kernel_rfl,by kernel_rfl⟩,⟨Tryz.func96,by kernel_rfl,by kernel_rfl⟩,⟨Tryz.func97,by kernel_rfl,by kernel_rfl⟩,⟨Tryz.func98,by kernel_rfl,by kernel_rfl⟩,⟨Tryz.func99,by kernel_rfl,by kernel_rfl⟩,⟨Tryz.func100,by kernel_rfl,by kernel_rfl⟩,⟨Tryz.func101,by kernel_rfl,by kernel_rfl⟩,⟨Tryz.func102,by kernel_rfl,by kernel_rfl⟩,⟨Tryz.func103,by kernel_rfl,by kernel_rfl⟩,⟨Tryz.func104,by kernel_rfl,by kernel_rfl⟩,⟨Tryz.func105,by kernel_rfl,by kernel_rfl⟩,⟨Tryz.func106,by kernel_rfl,by kernel_rfl⟩,⟨Tryz.func107,by kernel_rfl,by kernel_rfl⟩,⟨Tryz.func108,by kernel_rfl,by kernel_rfl⟩,⟨Tryz.func109,by kernel_rfl,by kernel_rfl⟩,⟨Tryz.func110,by kernel_rfl,by kernel_rfl⟩,⟨Tryz.func111,by kernel_rfl,by kernel_rfl⟩,⟨Tryz.func112,by kernel_rfl,by kernel_rfl⟩,⟨Tryz.func113,by kernel_rfl,by kernel_rfl⟩,⟨Tryz.func114,by kernel_rfl,by kernel_rfl⟩,⟨Tryz.func115,by kernel_rfl,by kernel_rfl⟩,⟨Tryz.func116,by kernel_rfl,by kernel_rfl⟩,⟨Tryz.func117,by kernel_rfl,by kernel_rfl⟩,⟨Tryz.func118,by kernel_rfl,by kernel_rfl⟩,⟨Tryz.func119,by kernel_rfl,by kernel_rfl⟩,⟨Tryz.func120,by kernel_rfl,by kernel_rfl⟩,⟨Tryz.func121,by kernel_rfl,by kernel_rfl⟩,⟨Tryz.func122,by kernel_rfl,by kernel_rfl⟩,⟨Tryz.func123,by kernel_rfl,by kernel_rfl⟩,⟨Tryz.func124,by kernel_rfl,by kernel_rfl⟩,⟨Tryz.func125,by kernel_rfl,by kernel_rfl⟩,⟨Tryz.func126,by kernel_rfl,by kernel_rfl⟩,⟨Tryz.func127,by kernel_rfl,by kernel_rfl⟩,⟨Tryz.func128,by kernel_rfl,by kernel_rfl⟩,⟨Tryz.func129,by kernel_rfl,by kernel_rfl⟩,⟨Tryz.func130,by kernel_rfl,by kernel_rfl⟩,⟨Tryz.func131,by kernel_rfl,by kernel_rfl⟩,⟨Tryz.func132,by kernel_rfl,by kernel_rfl⟩,⟨Tryz.func133,by kernel_rfl,by kernel_rfl⟩,⟨Tryz.func134,by kernel_rfl,by kernel_rfl⟩,⟨Tryz.func135,by kernel_rfl,by kernel_rfl⟩,⟨Tryz.func136,by kernel_rfl,by kernel_rfl⟩,⟨Tryz.func137,by kernel_rfl,by kernel_rfl⟩,⟨Tryz.func138,by kernel_rfl,by kernel_rfl⟩,⟨Tryz.func139,by kernel_rfl,by kernel_rfl⟩,⟨Tryz.func140,by kernel_rfl,by kernel_rfl⟩,⟨Tryz.func141,by kernel_rfl,by kernel_rfl⟩,⟨Tryz.func142,by kernel_rfl,by kernel_rfl⟩,⟨Tryz.func143,by kernel_rfl,by kernel_rfl⟩,⟨Tryz.func144,by kernel_rfl,by kernel_rfl⟩,⟨Tryz.func145,by kernel_rfl,by kernel_rfl⟩,⟨Tryz.func146,by kernel_rfl,by kernel_rfl⟩,⟨Tryz.func147,by kernel_rfl,by kernel_rfl⟩,⟨Tryz.func148,by kernel_rfl,by kernel_rfl⟩,⟨Tryz.func149,by kernel_rfl,by kernel_rfl⟩,⟨Tryz.func150,by kernel_rfl,by kernel_rfl⟩,⟨Tryz.func151,by kernel_rfl,by kernel_rfl⟩,⟨Tryz.func152,by kernel_rfl,by kernel_rfl⟩,⟨Tryz.func153,by kernel_rfl,by kernel_rfl⟩,⟨Tryz.func154,by kernel_rfl,by kernel_rfl⟩,⟨Tryz.func155,by kernel_rfl,by kernel_rfl⟩,⟨Tryz.func156,by kernel_rfl,by kernel_rfl⟩,⟨Tryz.func157,by kernel_rfl,by kernel_rfl⟩,⟨Tryz.func158,by kernel_rfl,by kernel_rfl⟩,⟨Tryz.func159,by kernel_rfl,by kernel_rfl⟩,⟨Tryz.func160,by kernel_rfl,by kernel_rfl⟩,⟨Tryz.func161,by kernel_rfl,by kernel_rfl⟩,⟨Tryz.func162,by kernel_rfl,by kernel_rfl⟩,⟨Tryz.func163,by kernel_rfl,by kernel_rfl⟩,⟨Tryz.func164,by kernel_rfl,by kernel_rfl⟩,⟨Tryz.func165,by kernel_rfl,by kernel_rfl⟩,⟨Tryz.func166,by kernel_rfl,by kernel_rfl⟩,⟨Tryz.func167,by kernel_rfl,by kernel_rfl⟩,⟨Tryz.func171,by kernel_rfl,by kernel_rfl⟩,⟨Tryz.func172,by kernel_rfl,by kernel_rfl⟩,⟨Tryz.func173,by kernel_rfl,by kernel_rfl⟩,⟨Tryz.func174,by kernel_rfl,by kernel_rfl⟩,⟨Tryz.func175,by kernel_rfl,by kernel_rfl⟩,⟨Tryz.func176,by kernel_rfl,by kernel_rfl⟩,⟨Tryz.func177,by kernel_rfl,by kernel_rfl⟩,⟨Tryz.func178,by kernel_rfl,by kernel_rfl⟩,⟨Tryz.func179,by kernel_rfl,by kernel_rfl⟩,⟨Tryz.func180,by kernel_rfl,by kernel_rfl⟩,⟨Tryz.func181,by kernel_rfl,by kernel_rfl⟩,⟨Tryz.func182,by kernel_rfl,by kernel_rfl⟩,⟨Tryz.func183,by kernel_rfl,by kernel_rfl⟩,⟨Tryz.func184,by kernel_rfl,by kernel_rfl⟩,⟨Tryz.func185,by kernel_rfl,by kernel_rfl⟩,⟨Tryz.func186,by kernel_rfl,by kernel_rfl⟩,⟨Tryz.func187,by kernel_rfl,by kernel_rfl⟩,⟨Tryz.func188,by kernel_rfl,by kernel_rfl⟩,⟨Tryz.func189,by kernel_rfl,by kernel_rfl⟩,⟨Tryz.func190,by kernel_rfl,by kernel_rfl⟩,⟨Tryz.func191,by kernel_rfl,by kernel_rfl⟩,⟨Tryz.func192,by kernel_rfl,by kernel_rfl⟩,⟨Tryz.func193,by kernel_rfl,by kernel_rfl⟩,⟨Tryz.func194,by kernel_rfl,by kernel_rfl⟩,⟨Tryz.func195,by kernel_rfl,by kernel_rfl⟩,⟨Tryz.func196,by kernel_rfl,by kernel_rfl⟩,⟨Tryz.func197,by kernel_rfl,by kernel_rfl⟩,⟨Tryz.func198,by kernel_rfl,by kernel_rfl⟩,⟨Tryz.func199,by kernel_rfl,by kernel_rfl⟩,⟨Tryz.func200,by kernel_rfl,by kernel_rfl⟩,⟨Tryz.func201,by kernel_rfl,by kernel_rfl⟩,⟨Tryz.func202,by kernel_rfl,by kernel_rfl⟩,⟨Tryz.func203,by kernel_rfl,by kernel_rfl⟩,⟨Tryz.func204,by kernel_rfl,by kernel_rfl⟩,⟨Tryz.func205,by kernel_rfl,by kernel_rfl⟩,⟨Tryz.func206,by kernel_rfl,by kernel_rfl⟩,⟨Tryz.func207,by kernel_rfl,by kernel_rfl⟩,⟨Tryz.func208,by kernel_rfl,by kernel_rfl⟩,⟨Tryz.func209,by kernel_rfl,by kernel_rfl⟩,⟨Tryz.func210,by kernel_rfl,by kernel_rfl⟩,⟨Tryz.func211,by kernel_rfl,by kernel_rfl⟩,⟨Tryz.func212,by kernel_rfl,by kernel_rfl⟩,⟨Tryz.func213,by kernel_rfl,by kernel_rfl⟩,⟨Tryz.func214,by kernel_rfl,by kernel_rfl⟩,⟨Tryz.func215,by kernel_rfl,by kernel_rfl⟩,⟨Tryz.func216,by kernel_rfl,by kernel_rfl⟩,⟨Tryz.func217,by kernel_rfl,by kernel_rfl⟩,⟨Tryz.func218,by kernel_rfl,by kernel_rfl⟩,⟨Tryz.func219,by kernel_rfl,by kernel_rfl⟩,⟨Tryz.func220,by kernel_rfl,by kernel_rfl⟩,⟨Tryz.func221,by kernel_rfl,by kernel_rfl⟩,⟨Tryz.func222,by kernel_rfl,by kernel_rfl⟩,⟨Tryz.func223,by kernel_rfl,by kernel_rfl⟩,⟨Tryz.func224,by kernel_rfl,by kernel_rfl⟩,⟨Tryz.func225,by kernel_rfl,by kernel_rfl⟩,⟨Tryz.func227,by kernel_rfl,by kernel_rfl⟩,⟨Tryz.func228,by kernel_rfl,by kernel_rfl⟩,⟨Tryz.func231,by kernel_rfl,by kernel_rfl⟩,⟨Tryz.func232,by kernel_rfl,by kernel_rfl⟩,⟨Tryz.func233,by kernel_rfl,by kernel_rfl⟩,⟨Tryz.func234,by kernel_rfl,by kernel_rfl⟩,⟨Tryz.func235,by kernel_rfl,by kernel_rfl⟩,⟨Tryz.func236,by kernel_rfl,by kernel_rfl⟩,⟨Tryz.func237,by kernel_rfl,by kernel_rfl⟩,⟨Tryz.func238,by kernel_rfl,by kernel_rfl⟩,⟨Tryz.func239,by kernel_rfl,by kernel_rfl⟩,⟨Tryz.func240,by kernel_rfl,by kernel_rfl⟩,⟨Tryz.func241,by kernel_rfl,by kernel_rfl⟩,⟨Tryz.func242,by kernel_rfl,by kernel_rfl⟩,⟨Tryz.func243,by kernel_rfl,by kernel_rfl⟩,⟨Tryz.func244,by kernel_rfl,by kernel_rfl⟩,⟨Tryz.func245,by kernel_rfl,by kernel_rfl⟩,⟨Tryz.func246,by kernel_rfl,by kernel_rfl⟩,⟨Tryz.func247,by kernel_rfl,by kernel_rfl⟩,⟨Tryz.func248,by kernel_rfl,by kernel_rfl⟩,⟨Tryz.func249,by kernel_rfl,by kernel_rfl⟩,⟨Tryz.func250,by kernel_rfl,by kernel_rfl⟩,⟨Tryz.func251,by kernel_rfl,by kernel_rfl⟩,⟨Tryz.func252,by kernel_rfl,by kernel_rfl⟩,⟨Tryz.func253,by kernel_rfl,by kernel_rfl⟩,⟨Tryz.func254,by kernel_rfl,by kernel_rfl⟩,⟨Tryz.func255,by kernel_rfl,by kernel_rfl⟩,⟨Tryz.func256,by kernel_rfl,by kernel_rfl⟩,⟨Tryz.func257,by kernel_rfl,by kernel_rfl⟩,⟨Tryz.func258,by kernel_rfl,by kernel_rfl⟩,⟨Tryz.func259,by kernel_rfl,by kernel_rfl⟩,⟨Tryz.func260,by kernel_rfl,by kernel_rfl⟩,⟨Tryz.func261,by kernel_rfl,by kernel_rfl⟩,⟨Tryz.func262,by kernel_rfl,by kernel_rfl⟩,⟨Tryz.func263,by kernel_rfl,by kernel_rfl⟩,⟨Tryz.func264,by kernel_rfl,by kernel_rfl⟩,⟨Tryz.func265,by kernel_rfl,by kernel_rfl⟩,⟨Tryz.func266,by kernel_rfl,by kernel_rfl⟩,⟨Tryz.func267,by kernel_rfl,by kernel_rfl⟩,⟨Tryz.func268,by kernel_rfl,by kernel_rfl⟩,⟨Tryz.func269,by kernel_rfl,by kernel_rfl⟩,⟨Tryz.func270,by kernel_rfl,by kernel_rfl⟩,⟨Tryz.func271,by kernel_rfl,by kernel_rfl⟩,⟨Tryz.func272,by kernel_rfl,by kernel_rfl⟩,⟨Tryz.func273,by kernel_rfl,by kernel_rfl⟩,⟨Tryz.func274,by kernel_rfl,by kernel_rfl⟩,⟨Tryz.func275,by kernel_rfl,by kernel_rfl⟩,⟨Tryz.func276,by kernel_rfl,by kernel_rfl⟩,⟨Tryz.func277,by kernel_rfl,by kernel_rfl⟩,⟨Tryz.func278,by kernel_rfl,by kernel_rfl⟩,⟨Tryz.func279,by kernel_rfl,by kernel_rfl⟩,⟨Tryz.func280,by kernel_rfl,by kernel_rfl⟩,⟨Tryz.func281,by kernel_rfl,by kernel_rfl⟩,⟨Tryz.func282,by kernel_rfl,by kernel_rfl⟩,⟨Tryz.func283,by kernel_rfl,by kernel_rfl⟩,⟨Tryz.func284,by kernel_rfl,by kernel_rfl⟩,⟨Tryz.func285,by kernel_rfl,by kernel_rfl⟩,⟨Tryz.func286,by kernel_rfl,by kernel_rfl⟩,⟨Tryz.func287,by kernel_rfl,by kernel_rfl⟩,⟨Tryz.func288,by kernel_rfl,by kernel_rfl⟩,⟨Tryz.func289,by kernel_rfl,by kernel_rfl⟩,⟨Tryz.func290,by kernel_rfl,by kernel_rfl⟩,⟨Tryz.func291,by kernel_rfl,by kernel_rfl⟩,⟨Tryz.func292,by kernel_rfl,by kernel_rfl⟩,⟨Tryz.func293,by kernel_rfl,by kernel_rfl⟩,⟨Tryz.func294,by kernel_rfl,by kernel_rfl⟩,⟨Tryz.func295,by kernel_rfl,by kernel_rfl⟩,⟨Tryz.func296,by kernel_rfl,by kernel_rfl⟩,⟨Tryz.func297,by kernel_rfl,by kernel_rfl⟩,⟨Tryz.func298,by kernel_rfl,by kernel_rfl⟩,⟨Tryz.func316,by kernel_rfl,by kernel_rfl⟩,⟨Tryz.func334,by kernel_rfl,by kernel_rfl⟩,⟨Tryz.func335,by kernel_rfl,by kernel_rfl⟩,⟨Tryz.func336,by kernel_rfl,by kernel_rfl⟩,⟨Tryz.func337,by kernel_rfl,by kernel_rfl⟩,⟨Tryz.func338,by kernel_rfl,by kernel_rfl⟩,⟨Tryz.func339,by kernel_rfl,by kernel_rfl⟩,⟨Tryz.func340,by kernel_rfl,by kernel_rfl⟩,⟨Tryz.func341,by kernel_rfl,by kernel_rfl⟩,⟨Tryz.func342,by kernel_rfl,by kernel_rfl⟩,⟨Tryz.func343,by kernel_rfl,by kernel_rfl⟩,⟨Tryz.func344,by kernel_rfl,by kernel_rfl⟩,⟨Tryz.func345,by kernel_rfl,by kernel_rfl⟩,trivial⟩
theorem hfn:∀ f fn,find fns f = some fn → Tryz.prog.funcs[f]? = some fn ∧ fn.body.isSome = true ∧ (fn.name == "runtime.NumGoroutine") = false:=fun f fn h => zaI zjP h
def opsOf:Code → List Oper
 | .region _ ops _ => ops.toList
 | _ => []
def znr:Code → Nat
 | .region id _ _ => id
 | _ => 0
noncomputable def clB:Code:=Tryz.f275.body.getD .skip
noncomputable def cl0:Oper:=(opsOf (sub clB [1,0,0]))[0]?.getD { dst:=none,op:=.move (.tmp 0),type:=0,pos:= "",after:=#[],guard:=none }
noncomputable def cl1:Oper:=(opsOf (sub clB [1,0,0]))[1]?.getD { dst:=none,op:=.move (.tmp 0),type:=0,pos:= "",after:=#[],guard:=none }
theorem zmG (xs:List PV) (st1:St) (h:evC env cf0 8 275 1 0 (sub clB [0]) ⟨fun t => (([.pv (.sl 1 xs)]:List AV)[t]?).getD .dead,[]⟩ = some (.normal,st1)):st1.sl 0 = .pv (.sl 1 xs):=by
 have:(evC env cf0 8 275 1 0 (sub clB [0]) ⟨fun t => (([.pv (.sl 1 xs)]:List AV)[t]?).getD .dead,[]⟩).map (fun r => r.2.sl 0) = some (.pv (.sl 1 xs)):=by kernel_rfl
 rw [h] at this
 simpa using this
theorem zmH:clK env 8 275 Tryz.f275.results.toList (sub clB [0]) (.seq (sub clB [1,0,1,0,0]) .ret) 1 [] = some (.ret (.slu 5 1 []),[]):=by kernel_rfl
theorem zmI (xs:List PV):clK env 8 275 Tryz.f275.results.toList (sub clB [0]) (.seq (sub clB [1,1,0]) .ret) 1 xs = cond (yV (([]:List PV).length + xs.length) 1) (some (.ret (.slu 5 1 xs),[])) none:=by kernel_rfl
theorem zfu {args:List AV} {H:zX} {out:Out} {H':zX} (hc:clone env (5,1,1) args H = some (out,H')) {G:Gh} {w:World} {vs:Array Value} (pre:PreC Tryz.prog env G w args vs H) :
  Calls Tryz.prog 275 vs w fun e w' => Wn Tryz.prog env G w H' out e w' :=
 zjD hm hS Tryz.func275 (T:=22) (e:=5) (id1:=znr (sub clB [1,0,0])) (o0:=cl0) (o1:=cl1) (R0:=sub clB [0]) (R2:=sub clB [1,0,1,0,0]) (R3:=sub clB [1,1,0]) Tryz.underlying22 (by kernel_rfl) (by kernel_rfl) (by kernel_rfl) (by kernel_rfl) (by kernel_rfl) (by kernel_rfl) (by kernel_rfl) (of_decide_eq_true (by kernel_rfl)) zmG zmH (fun xs h => (zmI xs).trans (by rw [show ([]:List PV).length + xs.length = xs.length from Nat.zero_add _,h]; rfl)) hc (by decide) pre
open Go.RowKit Go.Extern.Stop Go.Stop Go.Extern
theorem wc {P:Program} {E:Env} {G:Gh} {w w':World} {p:PV} {v:Value} (wo:WOk P E G w) (hb:Below w.heap.size w w') (hp:PRep G.g p v):Wn P E G w [] (.ret (.pv p)) (.returned v) w':=by
 have f:Fr G w G w' X0:=⟨fun _ _ h => h,fun _ _ h => h,fun b k hk _ => ⟨hk,hb.block b (wo.dom b k hk)⟩,X0_old,hb.os,hb.tape,hb.output,hb.size⟩
 refine ⟨G,f,rfl,wo.fr f (fun b c hc => ?_) (fun b k hk => Nat.lt_of_lt_of_le (wo.dom b k hk) hb.size),fun l cs hl => (by simp at hl),hp⟩
 obtain ⟨k1,T,q,k2⟩:=wo.imm b c hc
 exact ⟨k1,T,q,(hb.block b (wo.dom b _ k1)).trans k2⟩
theorem zmZ (t:Addr) (w:World):(ReflectliteValue.unpack (.iface 154 (.pointer (some t)))).run Tryz.prog w
  = .ok (.agg #[.pointer (some ⟨6,154,none⟩),.pointer (some ⟨w.heap.size,0,none⟩),.int .u64 150]) (w.alloc (.cells #[.pointer (some t)] 154)):=by kernel_rfl
theorem zlX (a:Addr) (w:World):(ReflectliteValue.methodAny (ReflectliteValue.valueError "reflectlite.Value.Type" 0) (fun t _ _ _ => ReflectliteType.toType t) #[.agg #[.pointer (some ⟨6,154,none⟩),.pointer (some a),.int .u64 150]]).run Tryz.prog w
  = .ok (.iface 265 (.agg #[.pointer (some ⟨6,154,none⟩)])) w:=by kernel_rfl
theorem zlV (h:Value) (w:World):(Go.method 466 265 (.agg #[h]) "Kind").run Tryz.prog w = .ok (313,h) w:=by kernel_rfl
theorem zmW (w:World):((ReflectliteType.abiMethod fun t => (fun a:Nat => Value.int IntKind.u8 (a:Int)) <$> Rtype.kind t) #[.pointer (some ⟨6,154,none⟩)]).run Tryz.prog w = .ok (.int .u8 22) w:=by kernel_rfl
theorem zmV (w:World):((ReflectliteType.abiMethod fun t => (fun a:Nat => Value.int IntKind.u8 (a:Int)) <$> Rtype.kind t) #[.pointer (some ⟨6,152,none⟩)]).run Tryz.prog w = .ok (.int .u8 25) w:=by kernel_rfl
theorem rlm (z:Sem Value) (f:TypeId → Addr → Nat → Nat → Sem Value) (v:Value) :
  ReflectliteValue.method z f #[v] = (do match ← ReflectliteValue.parts v with | none => z | some (t,a,fl) => f t a fl (fl % 32)):=rfl
theorem zba (a:Addr) (w:World):(ReflectliteValue.parts (.agg #[.pointer (some ⟨6,154,none⟩),.pointer (some a),.int .u64 150])).run Tryz.prog w = .ok (some (154,a,150)) w:=by kernel_rfl
theorem zgc (a p:Addr) (W:World) (ha:W.cell? a = some (.pointer (some p))) :
  (ReflectliteValue.method (ReflectliteValue.valueError "reflectlite.Value.IsNil" 0) ReflectliteValue.isNil #[.agg #[.pointer (some ⟨6,154,none⟩),.pointer (some a),.int .u64 150]]).run Tryz.prog W = .ok (.bool false) W:=by
 rw [rlm]
 simp only [Sem.run_bind,zba,Result.andThen]
 simp [ReflectliteValue.isNil,loadVar,isAgg,underlying,Tryz.underlying154,ha,Result.andThen]
theorem zlU (h:Value) (w:World):(Go.method 466 265 (.agg #[h]) "Elem").run Tryz.prog w = .ok (324,.agg #[h]) w:=by kernel_rfl
theorem za9 (h:Value) (w:World):(Go.method 466 265 (.agg #[h]) "Implements").run Tryz.prog w = .ok (325,.agg #[h]) w:=by kernel_rfl
theorem Ky (h:Value) (w:World):(Go.method 466 265 (.agg #[h]) "AssignableTo").run Tryz.prog w = .ok (322,.agg #[h]) w:=by kernel_rfl
theorem zhR (w:World):(ReflectliteType.method ReflectliteType.elem #[.agg #[.pointer (some ⟨6,154,none⟩)]]).run Tryz.prog w = .ok (.iface 265 (.agg #[.pointer (some ⟨6,152,none⟩)])) w:=by kernel_rfl
theorem Kx (w:World):(ReflectliteType.relation "Implements" ReflectliteType.implements_ #[.agg #[.pointer (some ⟨6,152,none⟩)],.iface 265 (.agg #[.pointer (some ⟨6,88,none⟩)])]).run Tryz.prog w = .ok (.bool true) w:=by kernel_rfl
theorem zen (v:Value) (w:World):(ReflectliteType.typeOf #[.iface 152 v]).run Tryz.prog w = .ok (.iface 265 (.agg #[.pointer (some ⟨6,152,none⟩)])) w:=by kernel_rfl
theorem Kw (w:World):(ReflectliteType.relation "AssignableTo" ReflectliteType.assignableTo #[.agg #[.pointer (some ⟨6,152,none⟩)],.iface 265 (.agg #[.pointer (some ⟨6,152,none⟩)])]).run Tryz.prog w = .ok (.bool true) w:=by kernel_rfl
theorem zmY (n:Int) (w:World):(ReflectliteValue.unpack (.iface 152 (.agg #[.int .i64 n]))).run Tryz.prog w
  = .ok (.agg #[.pointer (some ⟨6,152,none⟩),.pointer (some ⟨w.heap.size,0,none⟩),.int .u64 153]) (w.alloc (.cells #[.int .i64 n] 152)):=by kernel_rfl
theorem zek (w:World):(Rtype.elem? 154).run Tryz.prog w = .ok (some 152) w:=by kernel_rfl
theorem zlW (p:Addr) (w:World):(ReflectliteValue.mk 152 p ReflectliteValue.flagAddr).run Tryz.prog w = .ok (.agg #[.pointer (some ⟨6,152,none⟩),.pointer (some p),.int .u64 409]) w:=by kernel_rfl
theorem zgb (a p:Addr) (W:World) (ha:W.cell? a = some (.pointer (some p))) :
  (ReflectliteValue.method (ReflectliteValue.valueError "reflectlite.Value.Elem" 0) ReflectliteValue.elem #[.agg #[.pointer (some ⟨6,154,none⟩),.pointer (some a),.int .u64 150]]).run Tryz.prog W
   = .ok (.agg #[.pointer (some ⟨6,152,none⟩),.pointer (some p),.int .u64 409]) W:=by
 rw [rlm]
 simp only [Sem.run_bind,zba,Result.andThen]
 simp [ReflectliteValue.elem,loadVar,isAgg,underlying,Tryz.underlying154,ha,Result.andThen,zek,zlW]
theorem rls (v x:Value):ReflectliteValue.set #[v,x] = (do
  let (some (dst,a,fl),some (src,b,_)):=(← ReflectliteValue.parts v,← ReflectliteValue.parts x)
   | unsupported (.noEntry "extern/(internal/reflectlite.Value).Set.zeroValue")
  if fl / ReflectliteValue.flagAddr % 2 == 0 then unsupported (.noEntry "extern/(internal/reflectlite.Value).Set.unaddressable")
  let val ← loadVar src b
  if ← Rtype.directlyAssignable dst src then storeVar dst a val
  else if ← Rtype.implements dst src then
   if (← Rtype.kind src) == 20 then
    match val with
    | .nilIface => unsupported (.noEntry "extern/reflectlite: a nil value of one interface type handed on as a value of another")
    | _ => storeVar dst a val
   else storeVar dst a (.iface src val)
  else panicString ("reflectlite.Set: value of type " ++ (← Rtype.spelt src) ++ " is not assignable to type " ++ (← Rtype.spelt dst))
  pure (.tuple #[])):=rfl
theorem zel (a:Addr) (w:World):(ReflectliteValue.parts (.agg #[.pointer (some ⟨6,152,none⟩),.pointer (some a),.int .u64 409])).run Tryz.prog w = .ok (some (152,a,409)) w:=by kernel_rfl
theorem zge (a:Addr) (w:World):(ReflectliteValue.parts (.agg #[.pointer (some ⟨6,152,none⟩),.pointer (some a),.int .u64 153])).run Tryz.prog w = .ok (some (152,a,153)) w:=by kernel_rfl
theorem zej (w:World):(Rtype.directlyAssignable 152 152).run Tryz.prog w = .ok true w:=by kernel_rfl
open Go.RowKit Go.Extern.Stop Go.Stop Go.Extern
theorem zkm (ta b:Addr) (n m:Int) (W:World) (hbs:b.spot = none) (hts:ta.spot = none) (hb:W.heap[b.block]? = some (.cells #[.int .i64 n] 152 (0,0))) (hbo:b.off = 0) (ht:W.cell? ta = some (.int .i64 m)) (hf:W.frozen? ta = false) :
  (ReflectliteValue.set #[.agg #[.pointer (some ⟨6,152,none⟩),.pointer (some ta),.int .u64 409],.agg #[.pointer (some ⟨6,152,none⟩),.pointer (some b),.int .u64 153]]).run Tryz.prog W
   = .ok (.tuple #[]) (W.setCell ta (.int .i64 n)):=by
 obtain ⟨bb,bo,bs⟩:=b
 simp only at hbs hbo hb
 subst hbs hbo
 have hl:(loadVar 152 ⟨bb,0,none⟩).run Tryz.prog W = .ok (.agg #[.int .i64 n]) W:=by
  have h1:=run_loadCells (P:=Tryz.prog) (w:=W) ⟨bb,0,none⟩ 1 (fun _ => .int .i64 n) (fun j hj => by
   obtain rfl:j = 0:=by omega
   simp [World.cell?,hb,Addr.add])
  have hsz:(sizeOf 152).run Tryz.prog W = .ok 1 W:=by kernel_rfl
  have hag:(isAgg 152).run Tryz.prog W = .ok true W:=by kernel_rfl
  simp only [loadVar,Sem.run_bind,hag,Result.andThen,if_true,hsz]
  rw [h1]
  rfl
 rw [rls]
 simp only [Sem.run_bind,zel,zge,Result.andThen]
 have hsz:(sizeOf 152).run Tryz.prog W = .ok 1 W:=by kernel_rfl
 simp [ReflectliteValue.flagAddr,hl,Result.andThen,zej,storeVar,hsz,Value.cells,storeCells,Addr.add]
 rw [run_store Tryz.prog W ta _ _ (by rfl)]
 simp [ht,hf]
open Go.RowKit Go.Extern.Stop Go.Stop Go.Extern
def asW (n:Int) (t:Addr) (w:World):World:=((((w.alloc (.cells #[.pointer (some t)] 154)).alloc (.cells #[.pointer (some ⟨6,154,none⟩),.pointer (some ⟨w.heap.size,0,none⟩),.int .u64 150] 216)).alloc (.cells #[.pointer (some ⟨6,154,none⟩),.pointer (some ⟨w.heap.size,0,none⟩),.int .u64 150] 216)).alloc (.cells #[.int .i64 n] 152)).setCell t (.int .i64 n)
theorem zlq (t:Value) (w:World):Calls Tryz.prog 106 #[.nilIface,t] w fun e w' => e = .returned (.bool false) ∧ w' = w:=by
 go_enter Tryz.func106,Tryz.ntmps106
 go_wp2
 go_ret
 exact ⟨rfl,rfl⟩
set_option maxHeartbeats 4000000 in
theorem zlp (n m:Int) (t:Addr) (w:World) (hts:t.spot = none) (hg:w.cell? ⟨3,0,none⟩ = some (.iface 265 (.agg #[.pointer (some ⟨6,88,none⟩)]))) (ht0:w.cell? t = some (.int .i64 m)) (hf0:w.frozen? t = false) :
  Calls Tryz.prog 106 #[.iface 152 (.agg #[.int .i64 n]),.iface 154 (.pointer (some t))] w fun ev w' => ev = .returned (.bool true) ∧ w' = asW n t w:=by
 have h6:=@run_callFunc_extern Tryz.prog 168 _ (fun args => ReflectliteValue.unpack (args.getD 0 (.tuple #[]))) Tryz.func168 (by kernel_rfl) (by kernel_rfl) (by kernel_rfl) (by kernel_rfl)
 have h7:=@run_callFunc_extern Tryz.prog 169 _ (ReflectliteValue.methodAny (ReflectliteValue.valueError "reflectlite.Value.Type" 0) (fun t _ _ _ => ReflectliteType.toType t)) Tryz.func169 (by kernel_rfl) (by kernel_rfl) (by kernel_rfl) (by kernel_rfl)
 have h8:=@run_callFunc_extern Tryz.prog 170 _ (ReflectliteValue.method (ReflectliteValue.valueError "reflectlite.Value.IsNil" 0) ReflectliteValue.isNil) Tryz.func170 (by kernel_rfl) (by kernel_rfl) (by kernel_rfl) (by kernel_rfl)
 have h27:=@run_callFunc_extern Tryz.prog 313 _ (ReflectliteType.abiMethod fun t => do pure (.int .u8 (← Rtype.kind t))) Tryz.func313 (by kernel_rfl) (by kernel_rfl) (by kernel_rfl) (by kernel_rfl)
 have h37:=@run_callFunc_extern Tryz.prog 324 _ (ReflectliteType.method ReflectliteType.elem) Tryz.func324 (by kernel_rfl) (by kernel_rfl) (by kernel_rfl) (by kernel_rfl)
 have h38:=@run_callFunc_extern Tryz.prog 325 _ (ReflectliteType.relation "Implements" ReflectliteType.implements_) Tryz.func325 (by kernel_rfl) (by kernel_rfl) (by kernel_rfl) (by kernel_rfl)
 have h10:=@run_callFunc_extern Tryz.prog 226 _ ReflectliteType.typeOf Tryz.func226 (by kernel_rfl) (by kernel_rfl) (by kernel_rfl) (by kernel_rfl)
 have h35:=@run_callFunc_extern Tryz.prog 322 _ (ReflectliteType.relation "AssignableTo" ReflectliteType.assignableTo) Tryz.func322 (by kernel_rfl) (by kernel_rfl) (by kernel_rfl) (by kernel_rfl)
 have h11:=@run_callFunc_extern Tryz.prog 229 _ (ReflectliteValue.method (ReflectliteValue.valueError "reflectlite.Value.Elem" 0) ReflectliteValue.elem) Tryz.func229 (by kernel_rfl) (by kernel_rfl) (by kernel_rfl) (by kernel_rfl)
 have h12:=@run_callFunc_extern Tryz.prog 230 _ ReflectliteValue.set Tryz.func230 (by kernel_rfl) (by kernel_rfl) (by kernel_rfl) (by kernel_rfl)
 have tO:=zen
 have mA:=Ky
 have a25:=Kw
 have v25:=zmY
 have f6:=zmZ
 have f7:=zlX
 have mK:=zlV
 have mE:=zlU
 have mI:=za9
 have k27:=zmW
 have k25:=zmV
 have e27:=zhR
 have i25:=Kx
 have n8:=zgc ⟨w.heap.size,0,none⟩ t ((w.alloc (.cells #[.pointer (some t)] 154)).alloc (.cells #[.pointer (some ⟨6,154,none⟩),.pointer (some ⟨w.heap.size,0,none⟩),.int .u64 150] 216)) (by simp)
 have hlt:3 < w.heap.size:=by
  rcases Nat.lt_or_ge 3 w.heap.size with h | h
  ·exact h
  ·simp [World.cell?,Array.getElem?_eq_none h] at hg
 have hg2:((w.alloc (.cells #[.pointer (some t)] 154)).alloc (.cells #[.pointer (some ⟨6,154,none⟩),.pointer (some ⟨w.heap.size,0,none⟩),.int .u64 150] 216)).cell? ⟨3,0,none⟩ = some (.iface 265 (.agg #[.pointer (some ⟨6,88,none⟩)])):=by
  rw [World.cell?_alloc_lt _ _ ⟨3,0,none⟩ (by simp; omega),World.cell?_alloc_lt _ _ ⟨3,0,none⟩ hlt]; exact hg
 have htl:t.block < w.heap.size:=by
  rcases Nat.lt_or_ge t.block w.heap.size with h | h
  ·exact h
  ·simp [World.cell?,Array.getElem?_eq_none h] at ht0
 have el:=zgb ⟨w.heap.size,0,none⟩ t (((w.alloc (.cells #[.pointer (some t)] 154)).alloc (.cells #[.pointer (some ⟨6,154,none⟩),.pointer (some ⟨w.heap.size,0,none⟩),.int .u64 150] 216)).alloc (.cells #[.pointer (some ⟨6,154,none⟩),.pointer (some ⟨w.heap.size,0,none⟩),.int .u64 150] 216)) (by rw [World.cell?_alloc_lt _ _ ⟨w.heap.size,0,none⟩ (by simp; omega)]; simp)
 have st:=zkm t ⟨w.heap.size + 1 + 1 + 1,0,none⟩ n m ((((w.alloc (.cells #[.pointer (some t)] 154)).alloc (.cells #[.pointer (some ⟨6,154,none⟩),.pointer (some ⟨w.heap.size,0,none⟩),.int .u64 150] 216)).alloc (.cells #[.pointer (some ⟨6,154,none⟩),.pointer (some ⟨w.heap.size,0,none⟩),.int .u64 150] 216)).alloc (.cells #[.int .i64 n] 152)) rfl hts
  (by
   generalize hW:(((w.alloc _).alloc _).alloc _:World) = W3
   have hs:W3.heap.size = w.heap.size + 1 + 1 + 1:=by rw [← hW]; simp
   rw [← hs]
   show (W3.heap.push _)[W3.heap.size]? = _
   simp) rfl
  (by rw [World.cell?_alloc_lt _ _ t (by simp; omega),World.cell?_alloc_lt _ _ t (by simp; omega),World.cell?_alloc_lt _ _ t (by simp; omega),World.cell?_alloc_lt _ _ t htl]; exact ht0)
  (by rw [World.frozen?_alloc_old _ _ t (by simp; omega),World.frozen?_alloc_old _ _ t (by simp; omega),World.frozen?_alloc_old _ _ t (by simp; omega),World.frozen?_alloc_old _ _ t (Nat.ne_of_lt htl)]; exact hf0)
 go_enter Tryz.func106,Tryz.ntmps106
 go_wp2
 refine wp_loop_rounds 1 ?_
 rw [rounds_succ]
 go_wp2
 go_ret
 exact ⟨rfl,rfl⟩
open Go.RowKit Go.Extern.Stop Go.Stop Go.Extern Go.Extern.Rtype
set_option maxHeartbeats 4000000 in
theorem zef (w:World):Calls Tryz.prog 56 #[.nilIface] w fun e w' => e = .returned (.int .i64 0) ∧ Below w.heap.size w w':=by
 go_enter Tryz.func56,Tryz.ntmps56
 go_wp2_with (go_at_call 106; refine (zlq _ _).mono ?_; rintro e w' ⟨rfl,rfl⟩)
 go_ret
 exact ⟨rfl,(Below.refl _ w).alloc (Nat.le_refl _) _⟩
theorem zhe (n m:Int) (w:World):(asW n ⟨w.heap.size,0,none⟩ (w.alloc (.cells #[.int .i64 m] 152))).cell? ⟨w.heap.size,0,none⟩ = some (.int .i64 n):=by
 unfold asW
 refine World.cell?_setCell_same' _ _ _ ?_
 rw [World.cell?_alloc_lt _ _ ⟨w.heap.size,0,none⟩ (by simp; omega),World.cell?_alloc_lt _ _ ⟨w.heap.size,0,none⟩ (by simp; omega),World.cell?_alloc_lt _ _ ⟨w.heap.size,0,none⟩ (by simp; omega),World.cell?_alloc_lt _ _ ⟨w.heap.size,0,none⟩ (by simp)]
 simp
theorem zfi (n m:Int) (w:World):Below w.heap.size w (asW n ⟨w.heap.size,0,none⟩ (w.alloc (.cells #[.int .i64 m] 152))):=by
 unfold asW
 exact (((((((Below.refl _ w).alloc (Nat.le_refl _) _).alloc (by simp) _).alloc (by simp; omega) _).alloc (by simp; omega) _).alloc (by simp; omega) _).setCell (Nat.le_refl _) _)
set_option maxHeartbeats 4000000 in
theorem zee (n:Int) (w:World) (hg:w.cell? ⟨3,0,none⟩ = some (.iface 265 (.agg #[.pointer (some ⟨6,88,none⟩)]))) :
  Calls Tryz.prog 56 #[.iface 152 (.agg #[.int .i64 n])] w fun e w' => e = .returned (.int .i64 n) ∧ Below w.heap.size w w':=by
 have hlt:3 < w.heap.size:=by
  rcases Nat.lt_or_ge 3 w.heap.size with h | h
  ·exact h
  ·simp [World.cell?,Array.getElem?_eq_none h] at hg
 have hgA:(w.alloc (.cells #[.int .i64 0] 152)).cell? ⟨3,0,none⟩ = some (.iface 265 (.agg #[.pointer (some ⟨6,88,none⟩)])):=by
  rw [World.cell?_alloc_lt _ _ ⟨3,0,none⟩ hlt]; exact hg
 have htA:(w.alloc (.cells #[.int .i64 0] 152)).cell? ⟨w.heap.size,0,none⟩ = some (.int .i64 0):=by simp
 have hfA:(w.alloc (.cells #[.int .i64 0] 152)).frozen? ⟨w.heap.size,0,none⟩ = false:=by simp
 have hc:=zhe n 0 w
 have hB:=zfi n 0 w
 generalize hW:asW n ⟨w.heap.size,0,none⟩ (w.alloc (.cells #[.int .i64 0] 152)) = W at hc hB
 go_enter Tryz.func56,Tryz.ntmps56
 go_wp2_with (go_at_call 106; refine (zlp n 0 _ _ rfl hgA htA hfA).mono ?_; rintro e w' ⟨rfl,h⟩; rw [hW] at h; obtain rfl:=h)
 go_ret
 exact ⟨rfl,hB⟩
def popT:List UInt8:=[0,1,1,2,1,2,2,3,1,2,2,3,2,3,3,4,1,2,2,3,2,3,3,4,2,3,3,4,3,4,4,5,1,2,2,3,2,3,3,4,2,3,3,4,3,4,4,5,2,3,3,4,3,4,4,5,3,4,4,5,4,5,5,6,1,2,2,3,2,3,3,4,2,3,3,4,3,4,4,5,2,3,3,4,3,4,4,5,3,4,4,5,4,5,5,6,2,3,3,4,3,4,4,5,3,4,4,5,4,5,5,6,3,4,4,5,4,5,5,6,4,5,5,6,5,6,6,7,1,2,2,3,2,3,3,4,2,3,3,4,3,4,4,5,2,3,3,4,3,4,4,5,3,4,4,5,4,5,5,6,2,3,3,4,3,4,4,5,3,4,4,5,4,5,5,6,3,4,4,5,4,5,5,6,4,5,5,6,5,6,6,7,2,3,3,4,3,4,4,5,3,4,4,5,4,5,5,6,3,4,4,5,4,5,5,6,4,5,5,6,5,6,6,7,3,4,4,5,4,5,5,6,4,5,5,6,5,6,6,7,4,5,5,6,5,6,6,7,5,6,6,7,6,7,7,8]
theorem zkk:∀ n:Nat,n < 256 → (popT.toArray[n]?).map UInt8.toNat = some (pop8 n):=by decide +kernel
set_option maxRecDepth 100000 in
set_option maxHeartbeats 4000000 in
theorem zhO (n:Nat) (hn:n < 256) (w:World):Calls Tryz.prog 244 #[.int .u8 n] w fun e w' => e = .returned (.int .i64 (pop8 n)) ∧ w' = w:=by
 go_enter Tryz.func244,Tryz.ntmps244
 have e:=zkk n hn
 have hsz:n < popT.toArray.size:=hn
 rw [Array.getElem?_eq_getElem hsz] at e
 have e2:(popT.toArray[n]'hsz).toNat = pop8 n:=Option.some.inj e
 have hle:pop8 n ≤ 8:=by unfold pop8; omega
 go_wp2
 go_ret
 refine ⟨?_,rfl⟩
 show Ending.returned (Value.int .i64 (Go.RowKit.wrap64 (((popT.toArray[n]'hsz).toNat:Nat):Int))) = _
 rw [e2,show Go.RowKit.wrap64 ((pop8 n:Nat):Int) = pop8 n by simp only [Go.RowKit.wrap64]; omega]
theorem zc9 (v:Value) (w:World):(Extern.ReflectliteType.typeOf #[.iface 331 v]).run Tryz.prog w = .ok (.iface 265 (.agg #[.pointer (some ⟨6,331,none⟩)])) w:=by kernel_rfl
theorem Vf (w:World):((Extern.ReflectliteType.method fun t => do noPackHeld "Comparable" t; (fun a => Value.bool a.comparable) <$> typeInfo t) #[.agg #[.pointer (some ⟨6,331,none⟩)]]).run Tryz.prog w = .ok (.bool true) w:=by kernel_rfl
theorem Zf (v:Value) (w:World):(Go.method 466 265 v "Comparable").run Tryz.prog w = .ok (323,v) w:=by kernel_rfl
theorem ziH:(Tryz.prog.info? 331).map (·.comparable) = some true:=by kernel_rfl
theorem ziI:(Tryz.prog.info? 353).map (·.size) = some 1:=by kernel_rfl
theorem zmT (v:Value) (xT:TypeId) (w:World):(Instr.typeAssert (.iface 331 v) xT 309 true).run Tryz.prog w = .ok (.tuple #[.nilIface,.bool false]) w:=run_typeAssert_lacksB Tryz.underlying309 (by kernel_rfl) (by kernel_rfl) v xT w
theorem zf0 (v:Value) (xT:TypeId) (w:World):(Instr.typeAssert (.iface 331 v) xT 272 true).run Tryz.prog w = .ok (.tuple #[.nilIface,.bool false]) w:=run_typeAssert_lacksB Tryz.underlying272 (by kernel_rfl) (by kernel_rfl) v xT w
theorem zed (v:Value) (xT:TypeId) (w:World):(Instr.typeAssert (.iface 331 v) xT 273 true).run Tryz.prog w = .ok (.tuple #[.nilIface,.bool false]) w:=run_typeAssert_lacksB Tryz.underlying273 (by kernel_rfl) (by kernel_rfl) v xT w
theorem zjX (a:Addr) (w:World) :
  Calls Tryz.prog 162 #[.iface 331 (.pointer (some a)),.iface 331 (.pointer (some a))] w fun e w' => e = .returned (.bool true) ∧ w' = w:=by
 obtain ⟨i,hi,hcmp⟩:=Option.map_eq_some_iff.1 ziH
 obtain ⟨j,hj,hjs⟩:=Option.map_eq_some_iff.1 ziI
 have h8:=@run_callFunc_extern Tryz.prog 226 _ Extern.ReflectliteType.typeOf Tryz.func226 (by kernel_rfl) (by kernel_rfl) (by kernel_rfl) (by kernel_rfl)
 have h32:=@run_callFunc_extern Tryz.prog 323 _ (Extern.ReflectliteType.method fun t => do noPackHeld "Comparable" t; pure (.bool (← typeInfo t).comparable)) Tryz.func323 (by kernel_rfl) (by kernel_rfl) (by kernel_rfl) (by kernel_rfl)
 have tT:=zc9
 have cT:=Vf
 have mR:=Zf
 have heq:=run_eql_iface_ptr_same (P:=Tryz.prog) w a Tryz.underlying88 Tryz.underlying331 hi hcmp hj
 go_enter Tryz.func162,Tryz.ntmps162
 go_wp2
 refine wp_loop_rounds 1 ?_
 rw [rounds_succ]
 go_wp2
 go_ret
 exact ⟨rfl,rfl⟩
theorem zlH (b:Addr) (w:World) :
  Calls Tryz.prog 162 #[.nilIface,.iface 331 (.pointer (some b))] w fun e w' => e = .returned (.bool false) ∧ w' = w:=by
 have hn:=run_eql_iface_nil_left (P:=Tryz.prog) w 331 (.pointer (some b)) Tryz.underlying88
 go_enter Tryz.func162,Tryz.ntmps162
 go_wp2
 go_ret
 exact ⟨rfl,rfl⟩
theorem zhI (a b:Addr) (ca cb:Array Value) (ta tb:TypeId) (w:World) (hne:a ≠ b) (ha:w.heap[a.block]? = some (.cells ca ta (0,0))) (hb:w.heap[b.block]? = some (.cells cb tb (0,0))) :
  Calls Tryz.prog 162 #[.iface 331 (.pointer (some a)),.iface 331 (.pointer (some b))] w fun e w' => e = .returned (.bool false) ∧ w' = w:=by
 obtain ⟨i,hi,hcmp⟩:=Option.map_eq_some_iff.1 ziH
 obtain ⟨j,hj,hjs⟩:=Option.map_eq_some_iff.1 ziI
 have h8:=@run_callFunc_extern Tryz.prog 226 _ Extern.ReflectliteType.typeOf Tryz.func226 (by kernel_rfl) (by kernel_rfl) (by kernel_rfl) (by kernel_rfl)
 have h32:=@run_callFunc_extern Tryz.prog 323 _ (Extern.ReflectliteType.method fun t => do noPackHeld "Comparable" t; pure (.bool (← typeInfo t).comparable)) Tryz.func323 (by kernel_rfl) (by kernel_rfl) (by kernel_rfl) (by kernel_rfl)
 have tT:=zc9
 have cT:=Vf
 have mR:=Zf
 have nE:=zmT
 have uE:=zf0
 have vE:=zed
 have heq:=run_eql_iface_ptr_other (P:=Tryz.prog) w Tryz.underlying88 Tryz.underlying331 hi hcmp hj (by rw [hjs]; decide) hne ha hb
 go_enter Tryz.func162,Tryz.ntmps162
 go_wp2
 refine wp_loop_rounds 1 ?_
 rw [rounds_succ]
 go_wp2
 go_ret
 exact ⟨rfl,rfl⟩
open Go.RowKit
set_option maxRecDepth 100000
theorem zi3 {P:Program} {E:Env} {G:Gh} {w:World} {p:PV} {vs:Array Value} (pre:PreC P E G w [.pv p] vs []):∃ x,vs = #[x] ∧ PRep G.g p x:=by
 have hs:vs.size = 1:=pre.sz
 obtain ⟨x,rfl⟩:=Array.size_eq_one_iff.1 hs
 rcases pre.ar 0 (.pv p) x rfl rfl with h | h
 ·exact ⟨x,rfl,h.2 (fun _ => .imm)⟩
 ·cases h.1
theorem zmf {P:Program} {E:Env} {G:Gh} {w:World} {p q:PV} {vs:Array Value} (pre:PreC P E G w [.pv p,.pv q] vs []):∃ x y,vs = #[x,y] ∧ PRep G.g p x ∧ PRep G.g q y:=by
 have hs:vs.size = 2:=pre.sz
 obtain ⟨x,y,rfl⟩:∃ x y,vs = #[x,y]:=by
  obtain ⟨l⟩:=vs
  match l,hs with
  | [x,y],_ => exact ⟨x,y,rfl⟩
 refine ⟨x,y,rfl,?_,?_⟩
 ·rcases pre.ar 0 (.pv p) x rfl rfl with h | h
  ·exact h.2 (fun _ => .imm)
  ·cases h.1
 ·rcases pre.ar 1 (.pv q) y rfl rfl with h | h
  ·exact h.2 (fun _ => .imm)
  ·cases h.1
theorem zhx {G:Gh} {w:World} (wo:WOk Tryz.prog env G w):w.cell? ⟨3,0,none⟩ = some (.iface 265 (.agg #[.pointer (some ⟨6,88,none⟩)])):=by
 obtain ⟨c,h1,h2⟩:=wo.fix 3 _ rfl
 obtain ⟨_,T,f,h3⟩:=wo.imm _ _ h1
 unfold World.cell?
 simp [h3,h2]
theorem zf2 {args:List AV} {H:zX} {out:Out} {H':zX} (hc:zkl env (0,152) args H = some (out,H')) {G:Gh} {w:World} {vs:Array Value} (pre:PreC Tryz.prog env G w args vs H) :
  Calls Tryz.prog 56 vs w fun e w' => Wn Tryz.prog env G w H' out e w':=by
 unfold zkl at hc
 split at hc
 ·rename_i p _
  cases hn:zmr 152 p with
  | none => simp [hn] at hc
  | some n =>
   simp only [hn,znw] at hc
   cases H with
   | cons a b => simp at hc
   | nil =>
    simp only [List.isEmpty_nil,cond_true,znB,Prod.mk.injEq] at hc
    obtain ⟨rfl,rfl⟩:=hc
    obtain ⟨x,rfl,hx⟩:=zi3 pre
    unfold zmr at hn
    split at hn
    ·cases hn
     cases hx
     exact (zef w).mono fun e w' ⟨he,hb⟩ => by subst he; exact wc pre.wo hb (.v rfl)
    ·rename_i t' m
     split at hn
     ·rename_i ht
      cases hn
      subst ht
      cases hx with
      | ifc hu =>
       cases hu with
       | agg h1 h2 h3 =>
        rename_i us
        obtain ⟨y,rfl⟩:=Array.size_eq_one_iff.1 h1
        cases h3 0 _ y rfl rfl
        exact (zee n w (zhx pre.wo)).mono fun e w' ⟨he,hb⟩ => by subst he; exact wc pre.wo hb (.v rfl)
     ·cases hn
    ·cases hn
 ·rename_i h; cases h
 ·rename_i h; cases h
 ·cases hc
theorem zbk {G:Gh} {w:World} (wo:WOk Tryz.prog env G w) {b:PV} {g:Nat} (h:zk0 env b = some g) {x:Value} (hx:PRep G.g b x) :
  find env.glob g = some (.sen g) ∧ ∃ c a ca ta,G.g g = some c ∧ c[0]? = some x ∧ x = .iface 331 (.pointer (some a)) ∧ w.heap[a.block]? = some (.cells ca ta (0,0)):=by
 unfold zk0 at h
 split at h
 ·rename_i g0
  split at h
  ·rename_i g' hf
   split at h
   ·rename_i e
    cases h
    subst e
    refine ⟨hf,?_⟩
    obtain ⟨c,a,ca,ta,k1,k2,k3,k4⟩:=wo.sen _ hf
    cases hx with
    | sen h1 h2 =>
     obtain rfl:=Option.some.inj (k1.symm.trans h1)
     have e:=Option.some.inj (k2.symm.trans h2)
     exact ⟨c,a,ca,ta,k1,by rw [k2,e],e.symm,k4⟩
   ·cases h
  ·cases h
 ·cases h
theorem zmP {args:List AV} {H:zX} {out:Out} {H':zX} (hc:zkl env (1,0) args H = some (out,H')) {G:Gh} {w:World} {vs:Array Value} (pre:PreC Tryz.prog env G w args vs H) :
  Calls Tryz.prog 162 vs w fun e w' => Wn Tryz.prog env G w H' out e w':=by
 unfold zkl at hc
 split at hc
 ·rename_i h; cases h
 ·rename_i p r _
  cases hn:isV env p r with
  | none => simp [hn] at hc
  | some z =>
   simp only [hn,znw] at hc
   cases H with
   | cons a b => simp at hc
   | nil =>
    simp only [List.isEmpty_nil,cond_true,znB,Prod.mk.injEq] at hc
    obtain ⟨rfl,rfl⟩:=hc
    obtain ⟨x,y,rfl,hx,hy⟩:=zmf pre
    unfold isV at hn
    cases hg:zk0 env r with
    | none => simp [hg] at hn
    | some g =>
     simp only [hg,znw] at hn
     obtain ⟨f1,c,a,ca,ta,q1,q2,rfl,q4⟩:=zbk pre.wo hg hy
     split at hn
     ·cases hn
      cases hx
      exact (zlH a w).mono fun e w' ⟨he,hb⟩ => by subst he; subst hb; exact wc pre.wo (Below.refl _ _) (.v rfl)
     ·cases hh:zk0 env p with
      | none => simp [hh] at hn
      | some h =>
       simp only [hh,Option.map_some,znB] at hn
       obtain ⟨f2,c',a',ca',ta',r1,r2,rfl,r4⟩:=zbk pre.wo hh hx
       by_cases he:h = g
       ·subst he
        obtain rfl:=Option.some.inj (q1.symm.trans r1)
        have e:=Option.some.inj (q2.symm.trans r2)
        obtain rfl:a = a':=by injection e with _ e; injection e with e; injection e
        obtain rfl:z = true:=by rw [← hn]; simp
        exact (zjX a w).mono fun e w' ⟨he,hb⟩ => by subst he; subst hb; exact wc pre.wo (Below.refl _ _) (.v rfl)
       ·have hd:=pre.wo.dst h g c' c f2 f1 he r1 q1
        have hne:a' ≠ a:=fun e => hd (by rw [r2,q2,e])
        obtain rfl:z = false:=by rw [← hn]; simpa using he
        exact (zhI a' a _ _ _ _ w hne r4 q4).mono fun e w' ⟨he,hb⟩ => by subst he; subst hb; exact wc pre.wo (Below.refl _ _) (.v rfl)
 ·rename_i h; cases h
 ·cases hc
theorem zkc {args:List AV} {H:zX} {out:Out} {H':zX} (hc:zkl env (2,0) args H = some (out,H')) {G:Gh} {w:World} {vs:Array Value} (pre:PreC Tryz.prog env G w args vs H) :
  Calls Tryz.prog 244 vs w fun e w' => Wn Tryz.prog env G w H' out e w':=by
 unfold zkl at hc
 split at hc
 ·rename_i h; cases h
 ·rename_i h; cases h
 ·rename_i p _
  cases hm:zG .u8 (.pv p) with
  | none => simp [hm] at hc
  | some m =>
   have:=WI hm
   cases this
   simp only [hm,znw] at hc
   unfold zmt at hc
   cases hb:(decide (0 ≤ m) && decide (m < 256)) with
   | false => simp [hb] at hc
   | true =>
    simp only [Bool.and_eq_true,decide_eq_true_eq] at hb
    simp only [hb,decide_true,Bool.and_self,cond_true,znw] at hc
    cases H with
    | cons a b => simp at hc
    | nil =>
     simp only [List.isEmpty_nil,cond_true,znB,Prod.mk.injEq] at hc
     obtain ⟨rfl,rfl⟩:=hc
     obtain ⟨x,rfl,hx⟩:=zi3 pre
     cases hx
     have:=zhO m.toNat (by omega) w
     rw [Int.toNat_of_nonneg hb.1] at this
     exact this.mono fun e w' ⟨he,hb⟩ => by subst he; subst hb; exact wc pre.wo (Below.refl _ _) (.v rfl)
 ·cases hc
theorem zkX:zi7 Tryz.prog env:=by
 intro f q hq
 have he:env.cln = [(275,(5,1,1)),(56,(0,0,152)),(162,(1,0,0)),(244,(2,0,0))]:=rfl
 rw [he] at hq
 unfold find at hq
 split at hq
 ·rename_i hk
  cases hq
  subst hk
  exact ⟨⟨_,Tryz.func275,by kernel_rfl,by kernel_rfl⟩,fun args H out H' hc G w vs pre => zfu hc pre⟩
 unfold find at hq
 split at hq
 ·rename_i hk
  cases hq
  subst hk
  exact ⟨⟨_,Tryz.func56,by kernel_rfl,by kernel_rfl⟩,fun args H out H' hc G w vs pre => zf2 hc pre⟩
 unfold find at hq
 split at hq
 ·rename_i hk
  cases hq
  subst hk
  exact ⟨⟨_,Tryz.func162,by kernel_rfl,by kernel_rfl⟩,fun args H out H' hc G w vs pre => zmP hc pre⟩
 unfold find at hq
 split at hq
 ·rename_i hk
  cases hq
  subst hk
  exact ⟨⟨_,Tryz.func244,by kernel_rfl,by kernel_rfl⟩,fun args H out H' hc G w vs pre => zkc hc pre⟩
 ·cases hq
open Go.RowKit Go.WideMaps Go.WideElems
set_option maxRecDepth 100000
def znk (i:Nat):Int:=[0,1,8,16,32,64,64,0].getD i 0
theorem gDec:Tryz.prog.globalNamed "capnp/pointer.decoders" = some 4:=by kernel_rfl
theorem tDec:(Tryz.prog.globals[4]?).map (·.type) = some 293:=by kernel_rfl
theorem zm5 (W:World):(zeroValue 240).run Tryz.prog W = .ok .nilFunc W:=by kernel_rfl
def zne:DataW (List UInt8):=.map [(.int .i64 0,.held [99,97,112,110,112,47,112,111,105,110,116,101,114,46,100,101,99,111,100,101,114,115,36,49]),(.int .i64 1,.held [99,97,112,110,112,47,112,111,105,110,116,101,114,46,100,101,99,111,100,101,114,115,36,50]),(.int .i64 2,.held [99,97,112,110,112,47,112,111,105,110,116,101,114,46,100,101,99,111,100,101,114,115,36,51]),(.int .i64 3,.held [99,97,112,110,112,47,112,111,105,110,116,101,114,46,100,101,99,111,100,101,114,115,36,52])]
def zk2 (w:World):Prop:=∃ bm es clock,w.cell? ⟨4,0,none⟩ = some (.map (some bm)) ∧ w.heap[bm]? = some (.map es clock) ∧
  ∀ W:World,W.heap[bm]? = some (.map es clock) →
   (Instr.lookup 293 (.map (some bm)) (.int .i64 0) false).run Tryz.prog W = .ok (.func (.func 341) #[] #[]) W ∧
   (Instr.lookup 293 (.map (some bm)) (.int .i64 1) false).run Tryz.prog W = .ok (.func (.func 343) #[] #[]) W ∧
   (Instr.lookup 293 (.map (some bm)) (.int .i64 2) false).run Tryz.prog W = .ok (.func (.func 344) #[] #[]) W ∧
   (Instr.lookup 293 (.map (some bm)) (.int .i64 3) false).run Tryz.prog W = .ok (.func (.func 345) #[] #[]) W
theorem zbZ {W:World} {l:List (String × DataW Unit)} (h:laidMetH Tryz.prog l W) (hm:("capnp/pointer.decoders",Rows.laid_capnp_pointer_decoders) ∈ l):zk2 W:=by
 obtain ⟨g,t,cs,fuel,p,hg,ht,hv,hd⟩:=h.funcs hm
 obtain rfl:=Option.some.inj (gDec.symm.trans hg)
 obtain rfl:=Option.some.inj (tDec.symm.trans ht)
 have hd':DataW.trod (funcToken Tryz.prog) Tryz.prog W 0 (fun _ => true) true fuel 293 cs.toList = some (zne,p):=hd
 rcases open_map Tryz.underlying293 hd' with ⟨_,hx⟩ | ⟨bm,es,clock,n,rfl,hcs,hb,_,F,hx⟩
 ·simp [zne] at hx
 simp only [Prod.mk.injEq] at hx
 have hcell:W.cell? ⟨4,0,none⟩ = some (.map (some bm)):=by
  have:=World.var?_cell hg hv 0
  rw [Array.eq_one_of_toList hcs] at this
  simpa using this
 refine ⟨bm,es,clock,hcell,hb,fun W' hb' => ?_⟩
 have key:∀ (k:Int) (f:FuncId) (b:UInt8) (r:List UInt8),(Lit.int .i64 k).wf = true → (∀ zd,DataW.atKey (.map ((es.toList.map (rg Tryz.prog 3 (elemAt (funcToken Tryz.prog) Tryz.prog W 0 (fun _ => true) true n 240))).foldr DataW.insert [])) (.int .i64 k) zd = .held (b :: r)) →
   ((List.range Tryz.prog.funcs.size).filter fun f => (Tryz.prog.funcs[f]?).any (·.name.toUTF8.data.toList == b :: r)) = [f] →
   (Instr.lookup 293 (.map (some bm)) (.int .i64 k) false).run Tryz.prog W' = .ok (.func (.func f) #[] #[]) W':=by
  intro k f b r hwf hat0 hone
  rcases Maps.fit_look false (Maps.int_keyed Tryz.underlying3) Tryz.underlying293 (zm5 W') hb' F (Maps.keyOf_int_mk Tryz.underlying3 hwf) with ⟨_,_,hat⟩ | ⟨e0,y,_,_,hrun,hRv,hat,_⟩
  ·have:=hat .nil
   rw [hat0] at this
   cases this
  ·have h1:=hat .nil
   rw [hat0] at h1
   obtain ⟨y1,y2⟩:=y
   simp only at h1
   subst h1
   unfold elemAt at hRv
   split at hRv
   ·rename_i hf
    have hv1:e0.val.cells.toList = [e0.val]:=by
     cases he:e0.val <;> simp_all [Value.cells,Value.formed,Tryz.underlying240]
    rw [hv1] at hRv
    have:=func_of_trod Tryz.underlying240 hone hRv
    rw [this] at hrun
    simpa using hrun
   ·cases hRv
 exact ⟨key 0 341 _ _ rfl (fun zd => by rw [← hx.1]; rfl) (by kernel_rfl),key 1 343 _ _ rfl (fun zd => by rw [← hx.1]; rfl) (by kernel_rfl),key 2 344 _ _ rfl (fun zd => by rw [← hx.1]; rfl) (by kernel_rfl),key 3 345 _ _ rfl (fun zd => by rw [← hx.1]; rfl) (by kernel_rfl)⟩
theorem zlF:Tryz.prog.globalNamed "capnp/listsize.bits" = some 5:=by kernel_rfl
theorem zm1:(Tryz.prog.globals[5]?).map (·.type) = some 304:=by kernel_rfl
abbrev senL:List (String × DataW Unit):=[("capnp/unpack.errTruncated",Rows.laid_capnp_unpack_errTruncated),("capnp/unpack.errLimit",Rows.laid_capnp_unpack_errLimit),("capnp/listsize.bits",Rows.laid_capnp_listsize_bits)]
theorem zar {W:World} {l:List (String × DataW Unit)} (h:laidMetH Tryz.prog l W) (hf:l.filter (fun x => x.2.handleName?.isNone) = senL):∀ i:Nat,i < 8 → W.cell? ⟨5,i,none⟩ = some (.int .i64 (znk i)):=by
 have h1:=(laidMetH_iff.1 h).1
 rw [hf] at h1
 have h2:=h1.filter (fun x => x.1 == "capnp/listsize.bits")
 have e:senL.filter (fun x => x.1 == "capnp/listsize.bits") = [("capnp/listsize.bits",Rows.laid_capnp_listsize_bits)]:=by kernel_rfl
 rw [e] at h2
 have ht:Lib.TabIs Tryz.prog W "capnp/listsize.bits" .i64 [0,1,8,16,32,64,64,0]:=Lib.tabIs_of_head (rest:=[]) zlF zm1 Tryz.underlying304 Tryz.underlying3 (by kernel_rfl) (by kernel_rfl) h2
 exact fun i hi => ht.cell zlF i hi
theorem gTr:Tryz.prog.globalNamed "capnp/unpack.errTruncated" = some 2:=by kernel_rfl
theorem tTr:(Tryz.prog.globals[2]?).map (·.type) = some 88:=by kernel_rfl
theorem gLi:Tryz.prog.globalNamed "capnp/unpack.errLimit" = some 1:=by kernel_rfl
theorem tLi:(Tryz.prog.globals[1]?).map (·.type) = some 88:=by kernel_rfl
theorem ziE : "*" ++ "errors.errorString" = "*errors.errorString":=by decide
theorem zmM (u:TypeId) (h:Tryz.prog.typeName? 3 u = some "*errors.errorString"):u = 331 :=
 typeName_ptr_named (nm:= "errors.errorString") (by rw [ziE]; kernel_rfl) (by kernel_rfl) (by decide) u (by rw [ziE]; exact h)
theorem zcq {W:World} {l:List (String × DataW Unit)} (h:laidMetH Tryz.prog l W) (hf:l.filter (fun x => x.2.handleName?.isNone) = senL) :
  ∃ (a0 a1:Addr) (c0 c1:Array Value) (t0 t1:TypeId),W.cell? ⟨2,0,none⟩ = some (.iface 331 (.pointer (some a0))) ∧ W.cell? ⟨1,0,none⟩ = some (.iface 331 (.pointer (some a1))) ∧ a0 ≠ a1 ∧
   W.heap[a0.block]? = some (.cells c0 t0 (0,0)) ∧ W.heap[a1.block]? = some (.cells c1 t1 (0,0)):=by
 have h1:=(laidMetH_iff.1 h).1
 rw [hf] at h1
 obtain ⟨a0,a1,s0,s1,c0,c1,t0,t1,hv0,hv1,_,_,_,_,_,_,hne,hb0,hb1⟩:=laid_sentinels2 (ti:=88) (tp:=331) (te:=353) (ts:=9) h1 gTr tTr gLi tLi Tryz.underlying88 zmM Tryz.underlying331 Tryz.underlying353 rfl rfl Tryz.underlying9 (by kernel_rfl) (by kernel_rfl)
 refine ⟨a0,a1,c0,c1,t0,t1,?_,?_,hne,hb0,hb1⟩
 ·simpa using World.var?_cell gTr hv0 0
 ·simpa using World.var?_cell gLi hv1 0
theorem etG:Tryz.prog.globalNamed "errors.errorType" = some 3:=by kernel_rfl
theorem rtT:(Tryz.prog.cutTypes.find? (·.1 == "internal/reflectlite.rtype")).map (·.2) = some 265:=by kernel_rfl
theorem zmN:((List.range Tryz.prog.types.size).filter fun t => Tryz.prog.rowNamed t [101,114,114,111,114]) = [88]:=by kernel_rfl
theorem Kt {W:World} {l:List (String × DataW Unit)} (h:laidMetH Tryz.prog l W) (hm:("errors.errorType",Rows.laid_errors_errorType) ∈ l):W.cell? ⟨3,0,none⟩ = some (.iface 265 (.agg #[.pointer (some ⟨6,88,none⟩)])):=by
 have h2:=(laidMetH_iff.1 h).2
 obtain ⟨name,u,ty,e1,e2,e3,e4,e5⟩:=h2 _ (List.mem_filter.2 ⟨hm,rfl⟩)
 have en:name = [101,114,114,111,114]:=(Option.some.inj e1).symm
 subst en
 obtain rfl:=Option.some.inj (rtT.symm.trans e2)
 have hm2:ty ∈ (List.range Tryz.prog.types.size).filter fun t => Tryz.prog.rowNamed t [101,114,114,111,114]:=List.mem_filter.2 ⟨List.mem_range.2 e3,e4⟩
 rw [zmN] at hm2
 obtain rfl:=List.mem_singleton.1 hm2
 have hh:typeHandle Tryz.prog 88 = .pointer (some ⟨6,88,none⟩):=by kernel_rfl
 rw [hh] at e5
 simpa using World.var?_cell etG e5 0
theorem zhN {w:World} (h:zk2 w):∃ v c,g0 w 4 = some c ∧ c[0]? = some v ∧ MRel Tryz.prog env (G0 w) w 4 v:=by
 obtain ⟨bm,es,clock,h1,h2,h3⟩:=h
 obtain ⟨_,c,hc,hv⟩:=ZT h1
 refine ⟨_,c,hc,hv,bm,es,clock,rfl,if_pos (Array.getElem?_eq_some_iff.1 h2).1,h2,fun W hW l n p hl hp => ?_⟩
 obtain rfl:l = (293,[(0,341),(1,343),(2,344),(3,345)]):=(Option.some.inj hl).symm
 obtain ⟨k0,k1,k2,k3⟩:=h3 W hW
 simp only [List.find?_cons,List.find?_nil] at hp
 split at hp
 ·rename_i hn; cases hp; obtain rfl:(0:Int) = n:=by simpa using hn
  exact k0
 ·split at hp
  ·rename_i hn; cases hp; obtain rfl:(1:Int) = n:=by simpa using hn
   exact k1
  ·split at hp
   ·rename_i hn; cases hp; obtain rfl:(2:Int) = n:=by simpa using hn
    exact k2
   ·split at hp
    ·rename_i hn; cases hp; obtain rfl:(3:Int) = n:=by simpa using hn
     exact k3
    ·cases hp
theorem zfG {w:World} (h:∀ i:Nat,i < 8 → w.cell? ⟨5,i,none⟩ = some (.int .i64 (znk i))):ERel (G0 w) (.agg [.v (.int .i64 0),.v (.int .i64 1),.v (.int .i64 8),.v (.int .i64 16),.v (.int .i64 32),.v (.int .i64 64),.v (.int .i64 64),.v (.int .i64 0)]) 0 (.pointer (some ⟨5,0,none⟩)):=by
 obtain ⟨_,c,hc,h7⟩:=ZT (h 7 (by decide))
 have hsz:=(Array.getElem?_eq_some_iff.1 h7).1
 refine ⟨_,c,0,hc,rfl,?_,fun j q u hq hu => ?_⟩
 ·show 0 + 8 ≤ c.size
  simp only at hsz
  omega
 ·have hj:j < 8:=(List.getElem?_eq_some_iff.1 hq).1
  obtain ⟨_,c',hc',hj'⟩:=ZT (h j hj)
  obtain rfl:c = c':=Option.some.inj (hc.symm.trans hc')
  rw [Nat.zero_add] at hu
  simp only at hj'
  rw [hj'] at hu
  cases hu
  match j,hj with
  | 0,_ | 1,_ | 2,_ | 3,_ | 4,_ | 5,_ | 6,_ | 7,_ => cases hq; exact ⟨rfl,.v rfl⟩
theorem zcZ {w:World} {g:Nat} {t:TypeId} {a:Addr} (h:w.cell? ⟨g,0,none⟩ = some (.iface t (.pointer (some a)))):ERel (G0 w) (.sen g) 0 (.pointer (some ⟨g,0,none⟩)):=by
 obtain ⟨_,c,hc,h0⟩:=ZT h
 refine ⟨_,c,0,hc,rfl,?_,fun j q u hq hu => ?_⟩
 ·have:=(Array.getElem?_eq_some_iff.1 h0).1
  show 0 + 1 ≤ c.size
  simp only at this
  omega
 ·match j,hq with
  | 0,hq =>
   cases hq
   rw [Nat.zero_add] at hu
   simp only at h0
   rw [h0] at hu
   cases hu
   exact ⟨rfl,.sen hc h0⟩
  | j + 1,hq => cases hq
theorem ZC {g:Nat} {p:PV} (h:find env.glob g = some p):(g = 5 ∧ p = .agg [.v (.int .i64 0),.v (.int .i64 1),.v (.int .i64 8),.v (.int .i64 16),.v (.int .i64 32),.v (.int .i64 64),.v (.int .i64 64),.v (.int .i64 0)]) ∨ (g = 1 ∧ p = .sen 1) ∨ (g = 2 ∧ p = .sen 2):=by
 have he:env.glob = [(5,.agg [.v (.int .i64 0),.v (.int .i64 1),.v (.int .i64 8),.v (.int .i64 16),.v (.int .i64 32),.v (.int .i64 64),.v (.int .i64 64),.v (.int .i64 0)]),(1,.sen 1),(2,.sen 2)]:=rfl
 rw [he] at h
 unfold find at h
 split at h
 ·rename_i hk; cases h; exact .inl ⟨hk.symm,rfl⟩
 unfold find at h
 split at h
 ·rename_i hk; cases h; exact .inr (.inl ⟨hk.symm,rfl⟩)
 unfold find at h
 split at h
 ·rename_i hk; cases h; exact .inr (.inr ⟨hk.symm,rfl⟩)
 ·cases h
theorem zcv {w:World} {l:List (String × DataW Unit)} (h:laidMetH Tryz.prog l w) (hm:("capnp/pointer.decoders",Rows.laid_capnp_pointer_decoders) ∈ l) (hm2:("errors.errorType",Rows.laid_errors_errorType) ∈ l) (hf:l.filter (fun x => x.2.handleName?.isNone) = senL):WOk Tryz.prog env (G0 w) w:=by
 obtain ⟨a0,a1,c0,c1,t0,t1,hv0,hv1,hne,hb0,hb1⟩:=zcq h hf
 obtain ⟨_,d0,hd0,he0⟩:=ZT hv0
 obtain ⟨_,d1,hd1,he1⟩:=ZT hv1
 refine znt (fun g l hl => ?_) (fun g p hp => ?_) (fun g hg => ?_) (fun g1 g2 x1 x2 h1 h2 hn e1 e2 => ?_) (fun g v hv => ?_)
 ·have hg:g = 4:=by
   have he:env.maps = [(4,(293,[(0,341),(1,343),(2,344),(3,345)]))]:=rfl
   rw [he] at hl
   unfold find at hl
   split at hl
   ·rename_i hk; exact hk.symm
   ·cases hl
  subst hg
  exact zhN (zbZ h hm)
 ·rcases ZC hp with ⟨rfl,rfl⟩ | ⟨rfl,rfl⟩ | ⟨rfl,rfl⟩
  ·exact zfG (zar h hf)
  ·exact zcZ hv1
  ·exact zcZ hv0
 ·rcases ZC hg with ⟨rfl,e⟩ | ⟨rfl,e⟩ | ⟨rfl,e⟩
  ·cases e
  ·exact ⟨d1,a1,c1,t1,hd1,he1,hb1⟩
  ·exact ⟨d0,a0,c0,t0,hd0,he0,hb0⟩
 ·have key:∀ x:Value,(Value.iface 331 (.pointer (some a0))) = x → (Value.iface 331 (.pointer (some a1))) = x → False:=fun x k1 k2 => by
   rw [← k1] at k2
   injection k2 with _ k2; injection k2 with k2; injection k2 with k2
   exact hne k2.symm
  rcases ZC h1 with ⟨rfl,e⟩ | ⟨rfl,e⟩ | ⟨rfl,e⟩
  ·cases e
  ·rcases ZC h2 with ⟨rfl,e'⟩ | ⟨rfl,e'⟩ | ⟨rfl,e'⟩
   ·cases e'
   ·exact absurd rfl hn
   ·obtain rfl:=Option.some.inj (hd1.symm.trans e1)
    obtain rfl:=Option.some.inj (hd0.symm.trans e2)
    intro k
    simp only at he0 he1
    rw [he1,he0] at k
    exact key _ rfl (Option.some.inj k)
  ·rcases ZC h2 with ⟨rfl,e'⟩ | ⟨rfl,e'⟩ | ⟨rfl,e'⟩
   ·cases e'
   ·obtain rfl:=Option.some.inj (hd0.symm.trans e1)
    obtain rfl:=Option.some.inj (hd1.symm.trans e2)
    intro k
    simp only at he0 he1
    rw [he1,he0] at k
    exact key _ (Option.some.inj k) rfl
   ·exact absurd rfl hn
 ·have he:env.fix = [(3,.iface 265 (.agg #[.pointer (some ⟨6,88,none⟩)]))]:=rfl
  rw [he] at hv
  unfold find at hv
  split at hv
  ·rename_i hk
   cases hv
   subst hk
   obtain ⟨_,c,k1,k2⟩:=ZT (Kt h hm2)
   exact ⟨c,k1,k2⟩
  ·cases hv
open Go.RowKit
set_option maxRecDepth 100000
def zb8 (n:Int):Prop:=(Lit.int .i64 n).wf = true
theorem zhf {n:Int} (h:(Lit.int .u8 n).wf = true):yE n:=by
 simp [Lit.wf,IntKind.min,IntKind.max,IntKind.signed,IntKind.bits] at h
 unfold yE
 omega
def zmK:Enc (Int × Int × Int):=⟨fun t => [I t.1,I t.2.1,I t.2.2],3,true,fun _ => rfl,fun h => by cases h⟩
def zm6 {H:Type} (t:Int × Int × Int) (x:DataW H):Prop:=zb8 t.1 ∧ zb8 t.2.1 ∧ zb8 t.2.2
theorem zl0 {H:Type} {enc:TypeId × Value → H} {w:World} (n:Nat):RdsAt enc Tryz.prog w n 24 zmK zm6:=by
 intro cs x h
 obtain ⟨xs,n,rfl,rfl,hl,hlen,hf⟩:=DataW.trod_struct Tryz.underlying24 h
 have hc:cs.length = 3:=hl.trans (by kernel_rfl)
 obtain ⟨c0,c1,c2,rfl⟩:∃ c0 c1 c2,cs = [c0,c1,c2]:=by
  match cs,hc with
  | [c0,c1,c2],_ => exact ⟨c0,c1,c2,rfl⟩
 obtain ⟨x0,x1,x2,rfl⟩:∃ x0 x1 x2,xs = [x0,x1,x2]:=by
  match xs,(show xs.length = 3 from hlen.trans (by kernel_rfl)) with
  | [x0,x1,x2],_ => exact ⟨x0,x1,x2,rfl⟩
 have z0:Tryz.prog.cellsOf 3 = 1:=by kernel_rfl
 have h0:DataW.trod enc Tryz.prog w 0 (fun _ => true) true n 3 (([c0,c1,c2].drop 0).take (Tryz.prog.cellsOf 3)) = [x0,x1,x2][0]?:=hf 0 _ rfl
 have h1:DataW.trod enc Tryz.prog w 0 (fun _ => true) true n 3 (([c0,c1,c2].drop 1).take (Tryz.prog.cellsOf 3)) = [x0,x1,x2][1]?:=hf 1 _ rfl
 have h2:DataW.trod enc Tryz.prog w 0 (fun _ => true) true n 3 (([c0,c1,c2].drop 2).take (Tryz.prog.cellsOf 3)) = [x0,x1,x2][2]?:=hf 2 _ rfl
 rw [z0] at h0 h1 h2
 obtain ⟨m0,e0,f0,w0⟩:=DataW.trod_int Tryz.underlying3 (show DataW.trod enc Tryz.prog w 0 (fun _ => true) true n 3 [c0] = some x0 from h0)
 obtain ⟨m1,e1,f1,w1⟩:=DataW.trod_int Tryz.underlying3 (show DataW.trod enc Tryz.prog w 0 (fun _ => true) true n 3 [c1] = some x1 from h1)
 obtain ⟨m2,e2,f2,w2⟩:=DataW.trod_int Tryz.underlying3 (show DataW.trod enc Tryz.prog w 0 (fun _ => true) true n 3 [c2] = some x2 from h2)
 cases e0; cases e1; cases e2
 refine ⟨(m0,m1,m2),rfl,fun j q u hq hu => ?_,w0,w1,w2⟩
 match j with
 | 0 => cases hq; cases hu; exact ⟨rfl,.v rfl⟩
 | 1 => cases hq; cases hu; exact ⟨rfl,.v rfl⟩
 | 2 => cases hq; cases hu; exact ⟨rfl,.v rfl⟩
 | j + 3 => simp [zmK] at hq
abbrev ziD:Enc (List Int):=eSl (zmq .u8)
theorem zcf {H:Type} {l:List Int} {x:DataW H} (h:DS (DI .u8) l x):Bytes l:=⟨h.1,fun n hn => by obtain ⟨y,hy⟩:=h.mem hn; exact zhf hy.2⟩
theorem zh1 {H:Type} {enc:TypeId × Value → H} {w:World} (n:Nat):RdsAt enc Tryz.prog w n 22 ziD (DS (DI .u8)):=by
 cases n with
 | zero => exact RdsAt.zero _ _ _
 | succ n => exact RdsAt.slice Tryz.underlying22 (by kernel_rfl) (by decide) (RdsAt.int Tryz.underlying5)
noncomputable def hsh (l:List (List Int)) (d w:Int):Int:=if XD l d w = 0 then zez off (byt (Jt l d w)) else 0
theorem zjg {D:Nat} {x:Nd} (h:Ok D x) (hb:yc D x ≤ 134217728):ev 109 [.pv x.x] [] = ok (U (zez off (byt (VL D x)))):=by
 have h1:=zeR h hb
 have hl:=XM h
 have h2:=zmF (l:=VL D x) (by omega)
 dsimp only [Nd.x] at h1 ⊢
 rw [zaQ,h1]
 dsimp only [za,zb,zf,znw,zj,zm,zq,zl,zs,zn,zN,zP,zO,pU8,znu,znv,zk,zg,zc,zh,ze,zA,zv,zr,zo,zM,zL,zI,zJ,zK,len8,zD,zC,zt,zu]
 rw [yH]
 dsimp only [za,zb,zf,znw,zj,zm,zq,zl,zs,zn,zN,zP,zO,pU8,znu,znv,zk,zg,zc,zh,ze,zA,zv,zr,zo,zM,zL,zI,zJ,zK,len8,zD,zC,zt,zu]
 rw [h2]
 rfl
theorem zlc {l:List (List Int)} (hl:xq l) (hs:Sm l) {d w b:Int} (hd:d ≤ 1099511627775) (hw:w ≤ 134217728):ev 58 [.pv (.sl 1 (sgs l)),.pv (.agg [I d,I w,I b])] [] = ok (.tup [U (hsh l d w),I (XD l d w)]):=by
 rw [Qv,WC,V4 hl hs hd (by omega)]
 dsimp only [Nd.x,↓cl5,za,zb,zf,znw,zj,zm,zq,zl,zs,zn,zN,zP,zO,pU8,znu,znv,zk,zg,zc,zh,ze,zA,zv,zr,zo,zM,zL,zI,zJ,zK,len8,zD,zC,zt,zu]
 unfold hsh Jt
 by_cases h0:XD l d w = 0
 ·obtain ⟨ho,hb,_⟩:=Wa hl hs hw h0
  have h1:=zjg ho hb
  dsimp only [Nd.x] at h1
  rw [h0,show ((0:Int) == 0) = true from rfl,if_pos rfl,if_pos rfl]
  dsimp only [↓cl5,za,zb,zf,znw,zj,zm,zq,zl,zs,zn,zN,zP,zO,pU8,znu,znv,zk,zg,zc,zh,ze,zA,zv,zr,zo,zM,zL,zI,zJ,zK,len8,zD,zC,zt,zu]
  rw [h1]
  rfl
 ·rw [beq_eq_false_iff_ne.2 h0,if_neg h0]
  rfl
def hA:Int:=zez off (byt [0])
def hB:Int:=zez off (byt [4294967296,5])
theorem j2:xq [[4294967296,5]] ∧ Sm [[4294967296,5]]:=wP (by decide) (by intro x hx; simp at hx; unfold wO; omega)
theorem zku {b:List Int}:∀ (c i:Nat) (rest:List Int) (l:List (List Int)),(∀ x ∈ rest,yE x) → Ke b c i rest = some l → l.length = c ∧ ∀ s ∈ l,(∀ x ∈ s,wO x) ∧ 8 * s.length ≤ rest.length:=by
 intro c
 induction c with
 | zero =>
  intro i rest l hr h
  rw [Ke] at h
  split at h
  ·cases h
   exact ⟨rfl,fun s hs => by cases hs⟩
  ·cases h
 | succ c ih =>
  intro i rest l hr h
  rw [Ke] at h
  split at h
  ·rename_i h1
   cases hq:Ke b c (i + 1) (rest.drop (8 * (le4 b i).toNat)) with
   | none => rw [hq] at h; cases h
   | some t =>
    rw [hq] at h
    cases h
    obtain ⟨h2,h3⟩:=ih (i + 1) _ t (vI hr _) hq
    refine ⟨by simp [h2],fun s hs => ?_⟩
    rcases List.mem_cons.1 hs with rfl | hs
    ·refine ⟨YR _ (Qc hr _),?_⟩
     rw [yG]
     omega
    ·obtain ⟨h4,h5⟩:=h3 s hs
     rw [List.length_drop] at h5
     exact ⟨h4,by omega⟩
  ·cases h
theorem WM {b:List Int} (hb:∀ x ∈ b,yE x) (hl:b.length ≤ 1099511627776) {l:List (List Int)} (h:Yt b = some l):xq l ∧ Sm l:=by
 unfold Yt at h
 split at h
 ·cases h
 split at h
 ·cases h
 split at h
 ·cases h
 split at h
 ·cases h
 rename_i h1 h2 h3 h4
 obtain ⟨h5,h6⟩:=zku _ _ _ _ (vI hb _) h
 have hd:(b.drop (tbl (le4 b 0 + 1).toNat)).length ≤ b.length:=by rw [List.length_drop]; omega
 refine ⟨⟨by omega,fun s hs => ?_⟩,fun s => ?_⟩
 ·obtain ⟨h7,h8⟩:=h6 s hs
  exact ⟨by omega,h7⟩
 ·unfold rdL
  rw [List.getD_eq_getElem?_getD]
  cases hq:l[s.toNat]? with
  | none => simp
  | some t =>
   obtain ⟨h7,h8⟩:=h6 t (List.mem_of_getElem? hq)
   rw [Option.getD_some]
   omega
noncomputable def mE (b:List Int) (d w:Int):Int:=match Yt b with
 | some l => XD l d w
 | none => 1
noncomputable def zjx (b:List Int) (d w:Int):List Int:=match Yt b with
 | some l => if XD l d w = 0 then zmx (Jt l d w) else []
 | none => []
noncomputable def mN (b:List Int) (d w:Int):Nd:=Vg ((Yt b).getD []) d w
open Classical in
noncomputable def eqM (a b:List Int) (d w:Int):Bool:=if mE a d w = 0 ∧ mE b d w = 0 then eqB (mN a d w) (mN b d w) else false
noncomputable def mEE (a b:List Int) (d w:Int):Int:=if mE a d w = 0 then mE b d w else mE a d w
noncomputable def mH (b:List Int) (d w:Int):Int:=match Yt b with
 | some l => hsh l d w
 | none => 0
def zhw (e:Int):PV:=if e = 0 then .v .nilIface else .ifc 152 (.agg [I e])
theorem xF (e:Int):Ys (.pv (zhw e)) = some (decide (e = 0)):=by
 unfold zhw
 split
 ·rename_i h; rw [h]; rfl
 ·rename_i h; rw [decide_eq_false h]; rfl
theorem zai (e:Int):ev 104 [.pv (I e)] [] = ok (zhw e):=by
 rw [QB]
 unfold zhw
 by_cases h:e = 0
 ·rw [h]; rfl
 ·rw [if_neg h,beq_eq_false_iff_ne.2 h]; rfl
theorem zdW (e:Int):ev 56 [.pv (zhw e)] [] = ok (I e):=by
 rw [WF]
 unfold zhw
 by_cases h:e = 0
 ·rw [h]; rfl
 ·rw [if_neg h]; rfl
theorem zgX {d w b:Int} (hd:d ≤ 1000) (hw:w ≤ 268435455):ev 55 [.pv (.agg [I d,I w,I b])] [] = ok (.agg [I d,I w,I b]):=by
 rw [Xa,if_neg (by omega),if_neg (by omega)]
theorem YT {b:List Int} (hb:∀ x ∈ b,yE x) (hl:b.length ≤ 1099511627776):ev 57 [.pv (.sl 1 (bs b))] [] = ok (.tup [.sl 1 (sgs ((Yt b).getD [])),zhw (if Yt b = none then 1 else 0)]):=by
 rw [Vt,zja hb hl]
 cases h:Yt b with
 | none =>
  dsimp only [zhT,za,zb,zf,znw,zj,zm,zq,zl,zs,zn,zN,zP,zO,pU8,znu,znv,zk,zg,zc,zh,ze,zA,zv,zr,zo,zM,zL,zI,zJ,zK,len8,zD,zC,zt,zu]
  rw [zai]
  rfl
 | some l =>
  dsimp only [zhT,za,zb,zf,znw,zj,zm,zq,zl,zs,zn,zN,zP,zO,pU8,znu,znv,zk,zg,zc,zh,ze,zA,zv,zr,zo,zM,zL,zI,zJ,zK,len8,zD,zC,zt,zu]
  rw [zai]
  rfl
theorem zjy {l:List (List Int)} (hl:xq l) (hs:Sm l) {d w:Int} (hw:w ≤ 134217728) (h0:XD l d w = 0):(Jt l d w).length < 536870912:=by
 obtain ⟨ho,hb,hx⟩:=Wa hl hs hw h0
 obtain ⟨_,_,_,_,_,_,h7,_⟩:=zfr hl hs hw h0
 omega
theorem Kg {b:List Int} (hb:∀ x ∈ b,yE x) (hl:b.length ≤ 1099511627776) {d w o:Int} (hd:d ≤ 1099511627775) (hw:w ≤ 134217728):ev 54 [.pv (.sl 1 (bs b)),.pv (.agg [I d,I w,I o])] [] = some (.ret (.tup 0 (.slu 5 1 (bs (zjx b d w))) [.v .nilIface,zhw (mE b d w)]),[]):=by
 rw [ZY,YT hb hl]
 unfold zjx mE
 cases h:Yt b with
 | none =>
  rw [if_pos rfl]
  dsimp only [za,zb,zf,znw,zj,zm,zq,zl,zs,zn,zN,zP,zO,pU8,znu,znv,zk,zg,zc,zh,ze,zA,zv,zr,zo,zM,zL,zI,zJ,zK,len8,zD,zC,zt,zu]
  rw [xF]
  rfl
 | some l =>
  obtain ⟨h1,h2⟩:=WM hb hl h
  rw [if_neg (by simp),Option.getD_some]
  dsimp only [za,zb,zf,znw,zj,zm,zq,zl,zs,zn,zN,zP,zO,pU8,znu,znv,zk,zg,zc,zh,ze,zA,zv,zr,zo,zM,zL,zI,zJ,zK,len8,zD,zC,zt,zu]
  rw [xF,zk7 h1 h2 hd hw]
  dsimp only [za,zb,zf,znw,zj,zm,zq,zl,zs,zn,zN,zP,zO,pU8,znu,znv,zk,zg,zc,zh,ze,zA,zv,zr,zo,zM,zL,zI,zJ,zK,len8,zD,zC,zt,zu]
  by_cases h0:XD l d w = 0
  ·rw [h0,show ((0:Int) != 0) = false from rfl,zm0,if_pos h0,if_pos rfl]
   dsimp only [za,zb,zf,znw,zj,zm,zq,zl,zs,zn,zN,zP,zO,pU8,znu,znv,zk,zg,zc,zh,ze,zA,zv,zr,zo,zM,zL,zI,zJ,zK,len8,zD,zC,zt,zu]
   have hS:=zk5 (zjy h1 h2 hw h0)
   have hS':ev 105 [.pv (.sl 1 [.sl 1 (ws (Jt l d w))])] [] = _:=hS
   rw [hS']
   dsimp only [za,zb,zf,znw,zj,zm,zq,zl,zs,zn,zN,zP,zO,pU8,znu,znv,zk,zg,zc,zh,ze,zA,zv,zr,zo,zM,zL,zI,zJ,zK,len8,zD,zC,zt,zu]
   rw [YF]
   dsimp only [za,zb,zf,znw,zj,zm,zq,zl,zs,zn,zN,zP,zO,pU8,znu,znv,zk,zg,zc,zh,ze,zA,zv,zr,zo,zM,zL,zI,zJ,zK,len8,zD,zC,zt,zu]
   rw [yH]
   dsimp only [za,zb,zf,znw,zj,zm,zq,zl,zs,zn,zN,zP,zO,pU8,znu,znv,zk,zg,zc,zh,ze,zA,zv,zr,zo,zM,zL,zI,zJ,zK,len8,zD,zC,zt,zu]
   rw [zai]
   rfl
  ·rw [Vp h0,if_neg h0]
   dsimp only [za,zb,zf,znw,zj,zm,zq,zl,zs,zn,zN,zP,zO,pU8,znu,znv,zk,zg,zc,zh,ze,zA,zv,zr,zo,zM,zL,zI,zJ,zK,len8,zD,zC,zt,zu]
   rw [zai]
   rfl
theorem zeH {b:List Int} (hb:∀ x ∈ b,yE x) (hl:b.length ≤ 1099511627776) {d w o:Int} (hd:d ≤ 1000) (hw:w ≤ 134217728):ev 16 [.pv (.sl 1 (bs b)),.pv (.agg [I d,I w,I o])] [] = some (.ret (.tup 0 (.slu 5 1 (bs (zjx b d w))) [.v .nilIface,I (mE b d w)]),[]):=by
 rw [ZX,zgX hd (by omega)]
 dsimp only [za,zb,zf,znw,zj,zm,zq,zl,zs,zn,zN,zP,zO,pU8,znu,znv,zk,zg,zc,zh,ze,zA,zv,zr,zo,zM,zL,zI,zJ,zK,len8,zD,zC,zt,zu]
 rw [Kg hb hl (by omega) hw]
 dsimp only [za,zb,zf,znw,zj,zm,zq,zl,zs,zn,zN,zP,zO,pU8,znu,znv,zk,zg,zc,zh,ze,zA,zv,zr,zo,zM,zL,zI,zJ,zK,len8,zD,zC,zt,zu]
 rw [YF]
 dsimp only [za,zb,zf,znw,zj,zm,zq,zl,zs,zn,zN,zP,zO,pU8,znu,znv,zk,zg,zc,zh,ze,zA,zv,zr,zo,zM,zL,zI,zJ,zK,len8,zD,zC,zt,zu]
 rw [yH]
 dsimp only [za,zb,zf,znw,zj,zm,zq,zl,zs,zn,zN,zP,zO,pU8,znu,znv,zk,zg,zc,zh,ze,zA,zv,zr,zo,zM,zL,zI,zJ,zK,len8,zD,zC,zt,zu]
 rw [zdW]
 rfl
theorem ziu {b:List Int} (hb:∀ x ∈ b,yE x) (hl:b.length ≤ 1099511627776) {d w o:Int} (hd:d ≤ 1099511627775) (hw:w ≤ 134217728):ev 59 [.pv (.sl 1 (bs b)),.pv (.agg [I d,I w,I o])] [] = ok (.tup [.sl 1 (sgs ((Yt b).getD [])),zhw (mE b d w)]):=by
 rw [QC,YT hb hl]
 unfold mE
 cases h:Yt b with
 | none =>
  rw [if_pos rfl]
  dsimp only [za,zb,zf,znw,zj,zm,zq,zl,zs,zn,zN,zP,zO,pU8,znu,znv,zk,zg,zc,zh,ze,zA,zv,zr,zo,zM,zL,zI,zJ,zK,len8,zD,zC,zt,zu]
  rw [xF]
  rfl
 | some l =>
  obtain ⟨h1,h2⟩:=WM hb hl h
  rw [if_neg (by simp),Option.getD_some]
  dsimp only [za,zb,zf,znw,zj,zm,zq,zl,zs,zn,zN,zP,zO,pU8,znu,znv,zk,zg,zc,zh,ze,zA,zv,zr,zo,zM,zL,zI,zJ,zK,len8,zD,zC,zt,zu]
  rw [xF,V3 h1 h2 hd (by omega)]
  dsimp only [za,zb,zf,znw,zj,zm,zq,zl,zs,zn,zN,zP,zO,pU8,znu,znv,zk,zg,zc,zh,ze,zA,zv,zr,zo,zM,zL,zI,zJ,zK,len8,zD,zC,zt,zu]
  rw [zai]
  rfl
theorem zgY {a b:List Int} (ha:∀ x ∈ a,yE x) (hla:a.length ≤ 1099511627776) (hb:∀ x ∈ b,yE x) (hl:b.length ≤ 1099511627776) {d w o:Int} (hd:d ≤ 1000) (hw:w ≤ 134217728):ev 18 [.pv (.sl 1 (bs a)),.pv (.sl 1 (bs b)),.pv (.agg [I d,I w,I o])] [] = ok (.tup [Bo (eqM a b d w),I (mEE a b d w)]):=by
 rw [Vs,zgX hd (by omega)]
 dsimp only [za,zb,zf,znw,zj,zm,zq,zl,zs,zn,zN,zP,zO,pU8,znu,znv,zk,zg,zc,zh,ze,zA,zv,zr,zo,zM,zL,zI,zJ,zK,len8,zD,zC,zt,zu]
 rw [ziu ha hla (by omega) hw]
 dsimp only [za,zb,zf,znw,zj,zm,zq,zl,zs,zn,zN,zP,zO,pU8,znu,znv,zk,zg,zc,zh,ze,zA,zv,zr,zo,zM,zL,zI,zJ,zK,len8,zD,zC,zt,zu]
 rw [xF]
 unfold eqM mEE
 by_cases h0:mE a d w = 0
 ·rw [decide_eq_true h0,if_pos h0]
  dsimp only [za,zb,zf,znw,zj,zm,zq,zl,zs,zn,zN,zP,zO,pU8,znu,znv,zk,zg,zc,zh,ze,zA,zv,zr,zo,zM,zL,zI,zJ,zK,len8,zD,zC,zt,zu]
  rw [ziu hb hl (by omega) hw]
  dsimp only [za,zb,zf,znw,zj,zm,zq,zl,zs,zn,zN,zP,zO,pU8,znu,znv,zk,zg,zc,zh,ze,zA,zv,zr,zo,zM,zL,zI,zJ,zK,len8,zD,zC,zt,zu]
  rw [xF]
  by_cases h1:mE b d w = 0
  ·obtain ⟨la,e1⟩:∃ l,Yt a = some l:=by
    unfold mE at h0
    split at h0
    ·rename_i l h; exact ⟨l,h⟩
    ·cases h0
   obtain ⟨lb,e2⟩:∃ l,Yt b = some l:=by
    unfold mE at h1
    split at h1
    ·rename_i l h; exact ⟨l,h⟩
    ·cases h1
   obtain ⟨a1,a2⟩:=WM ha hla e1
   obtain ⟨b1,b2⟩:=WM hb hl e2
   have e3:mE a d w = XD la d w:=by unfold mE; rw [e1]
   have e4:mE b d w = XD lb d w:=by unfold mE; rw [e2]
   rw [decide_eq_true h1,if_pos ⟨h0,h1⟩,e1,e2,Option.getD_some,Option.getD_some]
   dsimp only [za,zb,zf,znw,zj,zm,zq,zl,zs,zn,zN,zP,zO,pU8,znu,znv,zk,zg,zc,zh,ze,zA,zv,zr,zo,zM,zL,zI,zJ,zK,len8,zD,zC,zt,zu]
   rw [zgV a1 a2 b1 b2 (by omega) (by omega)]
   have hE:cE la lb d w = XD lb d w:=by unfold cE; rw [if_pos (by omega)]
   have hB:cB la lb d w = eqB (mN a d w) (mN b d w):=by
    unfold cB mN
    rw [if_pos (by rw [hE]; omega),e1,e2]
    rfl
   rw [hE,hB,e4]
   rfl
  ·rw [decide_eq_false h1,if_neg (fun h => h1 h.2)]
   dsimp only [za,zb,zf,znw,zj,zm,zq,zl,zs,zn,zN,zP,zO,pU8,znu,znv,zk,zg,zc,zh,ze,zA,zv,zr,zo,zM,zL,zI,zJ,zK,len8,zD,zC,zt,zu]
   rw [zdW]
   rfl
 ·rw [decide_eq_false h0,if_neg h0,if_neg (fun h => h0 h.1)]
  dsimp only [za,zb,zf,znw,zj,zm,zq,zl,zs,zn,zN,zP,zO,pU8,znu,znv,zk,zg,zc,zh,ze,zA,zv,zr,zo,zM,zL,zI,zJ,zK,len8,zD,zC,zt,zu]
  rw [zdW]
  rfl
theorem zjh {b:List Int} (hb:∀ x ∈ b,yE x) (hl:b.length ≤ 1099511627776) {d w o:Int} (hd:d ≤ 1000) (hw:w ≤ 134217728):ev 17 [.pv (.sl 1 (bs b)),.pv (.agg [I d,I w,I o])] [] = ok (.tup [U (mH b d w),I (mE b d w)]):=by
 rw [QA,YT hb hl]
 unfold mH mE
 cases h:Yt b with
 | none =>
  rw [if_pos rfl]
  dsimp only [za,zb,zf,znw,zj,zm,zq,zl,zs,zn,zN,zP,zO,pU8,znu,znv,zk,zg,zc,zh,ze,zA,zv,zr,zo,zM,zL,zI,zJ,zK,len8,zD,zC,zt,zu]
  rw [xF]
  dsimp only [za,zb,zf,znw,zj,zm,zq,zl,zs,zn,zN,zP,zO,pU8,znu,znv,zk,zg,zc,zh,ze,zA,zv,zr,zo,zM,zL,zI,zJ,zK,len8,zD,zC,zt,zu]
  rw [show (!decide ((1:Int) = 0)) = true from rfl]
  dsimp only [za,zb,zf,znw,zj,zm,zq,zl,zs,zn,zN,zP,zO,pU8,znu,znv,zk,zg,zc,zh,ze,zA,zv,zr,zo,zM,zL,zI,zJ,zK,len8,zD,zC,zt,zu]
  rw [zdW]
  rfl
 | some l =>
  obtain ⟨h1,h2⟩:=WM hb hl h
  rw [if_neg (by simp),Option.getD_some]
  dsimp only [za,zb,zf,znw,zj,zm,zq,zl,zs,zn,zN,zP,zO,pU8,znu,znv,zk,zg,zc,zh,ze,zA,zv,zr,zo,zM,zL,zI,zJ,zK,len8,zD,zC,zt,zu]
  rw [xF,zgX hd (by omega)]
  dsimp only [za,zb,zf,znw,zj,zm,zq,zl,zs,zn,zN,zP,zO,pU8,znu,znv,zk,zg,zc,zh,ze,zA,zv,zr,zo,zM,zL,zI,zJ,zK,len8,zD,zC,zt,zu]
  rw [zlc h1 h2 (by omega) hw]
  rfl
theorem zeN {b:List Int} (hb:∀ x ∈ b,yE x) (d w o:Int):∃ bl:Bool,ev 15 [.pv (.sl 1 (bs b)),.pv (.agg [I d,I w,I o])] [] = ok (Bo bl) ∧ (bl = true → b.length ≤ 4000 ∧ d ≤ 40 ∧ w ≤ 2000):=by
 rw [Xy,ya]
 by_cases h1:(b.length:Int) > 4000
 ·rw [decide_eq_true h1]
  exact ⟨false,rfl,fun h => by cases h⟩
 rw [decide_eq_false h1]
 by_cases h2:d > 40
 ·rw [decide_eq_true h2]
  exact ⟨false,rfl,fun h => by cases h⟩
 rw [decide_eq_false h2]
 by_cases h3:w > 2000
 ·rw [decide_eq_true h3]
  exact ⟨false,rfl,fun h => by cases h⟩
 rw [decide_eq_false h3,zg0 hb (by omega)]
 cases h:Yt b with
 | none => exact ⟨true,rfl,fun _ => by omega⟩
 | some l =>
  obtain ⟨h4,h5⟩:=WM hb (by omega) h
  obtain ⟨bl,e1,_⟩:=zjd h4 d w o
  refine ⟨bl,?_,fun _ => by omega⟩
  dsimp only [zhT,za,zb,zf,znw,zj,zm,zq,zl,zs,zn,zN,zP,zO,pU8,znu,znv,zk,zg,zc,zh,ze,zA,zv,zr,zo,zM,zL,zI,zJ,zK,len8,zD,zC,zt,zu]
  rw [show ((0:Int) != 0) = false from rfl]
  dsimp only [za,zb,zf,znw,zj,zm,zq,zl,zs,zn,zN,zP,zO,pU8,znu,znv,zk,zg,zc,zh,ze,zA,zv,zr,zo,zM,zL,zI,zJ,zK,len8,zD,zC,zt,zu]
  rw [e1]
  rfl
def nzb (c:Int):Int:=if c = 0 then 0 else 1
def zbI:List Int → Int
 | [] => 0
 | c :: l => nzb c + 2 * zbI l
def nz (l:List Int):List Int:=l.filter fun c => !decide (c = 0)
theorem zf3 (c:Int):0 ≤ nzb c ∧ nzb c ≤ 1:=by unfold nzb; split <;> omega
theorem zbr:∀ (l:List Int) (c:Int),zbI (l ++ [c]) = zbI l + nzb c * 2 ^ l.length
 | [],c => by simp [zbI]
 | d :: l,c => by
  show nzb d + 2 * zbI (l ++ [c]) = nzb d + 2 * zbI l + nzb c * 2 ^ (l.length + 1)
  rw [zbr l c,Int.pow_succ,Int.mul_add,← Int.mul_assoc,Int.mul_comm 2 (nzb c),Int.mul_comm (2 ^ l.length) 2,← Int.mul_assoc]
  omega
theorem zcs:∀ l:List Int,0 ≤ zbI l ∧ zbI l < 2 ^ l.length
 | [] => by decide
 | c :: l => by
  have:=zcs l
  have h:=zf3 c
  rw [zny,Int.pow_succ]
  unfold zbI
  omega
theorem K9 {l:List Int} {i:Nat} (h:i < l.length):l.take (i + 1) = l.take i ++ [l.getD i 0]:=by
 rw [List.take_succ_eq_append_getElem h,List.getD_eq_getElem?_getD,List.getElem?_eq_getElem h]
 rfl
theorem zlR:∀ (i:Fin 8) (t:Fin 128),t.val < 2 ^ i.val → IntKind.wrap .u8 (BitVec.ofInt 8 (t.val:Int) ||| BitVec.ofInt 8 (IntKind.wrap .u8 (1 * 2 ^ (min (IntKind.wrap .u64 (i.val:Int)).toNat 8)))).toNat = (t.val:Int) + 2 ^ i.val:=by decide +kernel
theorem zlO:∀ i:Fin 8,wM .shl (IntKind.wrap .u64 (i.val:Int)) = true:=by decide +kernel
theorem zlP:∀ i:Fin 8,wM .shr (IntKind.wrap .u64 (i.val:Int)) = true:=by decide +kernel
theorem zkb {l:List Int} (h8:l.length = 8):∀ (c i:Nat),i + c = 8 → ww (zbI (l.take i)) (.sl 1 (bs l)) 8 i = ok (U8 (zbI l)):=by
 intro c
 induction c with
 | zero =>
  intro i hi
  rw [Yh,decide_eq_false (by omega),List.take_of_length_le (by omega)]
  rfl
 | succ c ih =>
  intro i hi
  have hg:(bs l)[(i:Int).toNat]? = some (U8 (l.getD i 0)):=W9 rfl (by omega)
  have hn:=ih (i + 1) (by omega)
  have hr:=zcs (l.take i)
  have hp:(2:Int) ^ i ≤ 128:=by
   have:(2:Nat) ^ i ≤ 2 ^ 7:=Nat.pow_le_pow_right (by decide) (by omega)
   exact_mod_cast this
  rw [K9 (by omega),zbr,List.length_take,Nat.min_eq_left (by omega)] at hn
  rw [List.length_take,Nat.min_eq_left (by omega)] at hr
  rw [Yh,decide_eq_true (show (i:Int) < 8 by omega)]
  dsimp only [za,zb,zf,znw,zj,zm,zq,zl,zs,zn,zN,zP,zO,pU8,znu,znv,zk,zg,zc,zh,ze,zA,zv,zr,zo,zM,zL,zI,zJ,zK,len8,zD,zC,zt,zu]
  rw [ya,h8,decide_eq_true (show 0 ≤ (i:Int) by omega),decide_eq_true (show (i:Int) < ((8:Nat):Int) by omega),show decide ((1:Nat) = 1) = true from rfl]
  dsimp only [za,zb,zf,znw,zj,zm,zq,zl,zs,zn,zN,zP,zO,pU8,znu,znv,zk,zg,zc,zh,ze,zA,zv,zr,zo,zM,zL,zI,zJ,zK,len8,zD,zC,zt,zu]
  rw [hg]
  dsimp only [za,zb,zf,znw,zj,zm,zq,zl,zs,zn,zN,zP,zO,pU8,znu,znv,zk,zg,zc,zh,ze,zA,zv,zr,zo,zM,zL,zI,zJ,zK,len8,zD,zC,zt,zu]
  rw [w64 (x:=(i:Int) + 1) (by omega)]
  by_cases h0:l.getD i 0 = 0
  ·rw [h0,show ((0:Int) != 0) = false from rfl]
   rw [h0,show nzb 0 = 0 from rfl,Int.zero_mul,Int.add_zero] at hn
   exact hn
  ·have hq:=zlR ⟨i,by omega⟩ ⟨(zbI (l.take i)).toNat,by omega⟩ (by
    have:((zbI (l.take i)).toNat:Int) < ((2 ^ i:Nat):Int):=by push_cast; omega
    exact_mod_cast this)
   have hs:=zlO ⟨i,by omega⟩
   dsimp only at hq hs
   rw [show ((zbI (l.take i)).toNat:Int) = zbI (l.take i) by omega] at hq
   rw [Vp h0,hs,hq]
   rw [show nzb (l.getD i 0) = 1 from if_neg h0,Int.one_mul] at hn
   exact hn
theorem zj3 {l:List Int} (h8:l.length = 8):∀ (c i:Nat),i + c = 8 → xv (bs (nz (l.take i))) (.sl 1 (bs l)) 8 i = ok (.sl 1 (bs (nz l))):=by
 intro c
 induction c with
 | zero =>
  intro i hi
  rw [vM,decide_eq_false (by omega),List.take_of_length_le (by omega)]
  rfl
 | succ c ih =>
  intro i hi
  have hg:(bs l)[(i:Int).toNat]? = some (U8 (l.getD i 0)):=W9 rfl (by omega)
  have hn:=ih (i + 1) (by omega)
  have hf:(nz (l.take i)).length ≤ 8:=by
   have:=List.length_filter_le (fun c:Int => !decide (c = 0)) (l.take i)
   rw [List.length_take] at this
   unfold nz
   omega
  rw [K9 (by omega)] at hn
  rw [vM,decide_eq_true (show (i:Int) < 8 by omega)]
  dsimp only [za,zb,zf,znw,zj,zm,zq,zl,zs,zn,zN,zP,zO,pU8,znu,znv,zk,zg,zc,zh,ze,zA,zv,zr,zo,zM,zL,zI,zJ,zK,len8,zD,zC,zt,zu]
  rw [ya,h8,decide_eq_true (show 0 ≤ (i:Int) by omega),decide_eq_true (show (i:Int) < ((8:Nat):Int) by omega),show decide ((1:Nat) = 1) = true from rfl]
  dsimp only [za,zb,zf,znw,zj,zm,zq,zl,zs,zn,zN,zP,zO,pU8,znu,znv,zk,zg,zc,zh,ze,zA,zv,zr,zo,zM,zL,zI,zJ,zK,len8,zD,zC,zt,zu]
  rw [hg]
  dsimp only [za,zb,zf,znw,zj,zm,zq,zl,zs,zn,zN,zP,zO,pU8,znu,znv,zk,zg,zc,zh,ze,zA,zv,zr,zo,zM,zL,zI,zJ,zK,len8,zD,zC,zt,zu]
  rw [w64 (x:=(i:Int) + 1) (by omega)]
  by_cases h0:l.getD i 0 = 0
  ·rw [h0,show ((0:Int) != 0) = false from rfl]
   rw [h0,show nz (l.take i ++ [0]) = nz (l.take i) by simp [nz]] at hn
   exact hn
  ·rw [Vp h0,ya,yj (by omega) (by omega)]
   rw [show nz (l.take i ++ [l.getD i 0]) = nz (l.take i) ++ [l.getD i 0] by simp only [nz,List.filter_append,List.filter_cons,decide_eq_false h0]; rfl,XL] at hn
   exact hn
theorem Jd (w:Int):ev 117 [.pv (.sl 1 [U w])] [] = ok (.sl 1 (bs (w8 w))):=by
 have:=Xn [w] (show 1 ≤ 17592186044416 by decide)
 rw [show byt [w] = w8 w from List.append_nil _] at this
 exact this
def zeB (w:Int):Int:=zbI (w8 w)
def nzW (w:Int):List Int:=nz (w8 w)
theorem zgy (w:Int):0 ≤ zeB w ∧ zeB w < 256:=by
 have:=zcs (w8 w)
 rw [vo,show (2:Int) ^ 8 = 256 from rfl] at this
 exact this
theorem zj2 (w:Int):(nzW w).length ≤ 8:=by
 have:=List.length_filter_le (fun c:Int => !decide (c = 0)) (w8 w)
 rw [vo] at this
 exact this
theorem zm8 (w:Int):ev 115 [.pv (U w)] [] = ok (U8 (zeB w)):=by
 rw [J3,Jd]
 dsimp only [za,zb,zf,znw,zj,zm,zq,zl,zs,zn,zN,zP,zO,pU8,znu,znv,zk,zg,zc,zh,ze,zA,zv,zr,zo,zM,zL,zI,zJ,zK,len8,zD,zC,zt,zu]
 rw [ya]
 exact zkb (vo w) 8 0 rfl
theorem znm (w:Int):ev 185 [.pv (U w)] [] = ok (.sl 1 (bs (nzW w))):=by
 rw [VC,Jd]
 dsimp only [za,zb,zf,znw,zj,zm,zq,zl,zs,zn,zN,zP,zO,pU8,znu,znv,zk,zg,zc,zh,ze,zA,zv,zr,zo,zM,zL,zI,zJ,zK,len8,zD,zC,zt,zu]
 rw [ya]
 exact zj3 (vo w) 8 0 rfl
theorem zeL {t:Int} (h:0 ≤ t ∧ t < 256):ev 188 [.pv (U8 t)] [] = ok (I (pop8 t.toNat)):=by
 rw [QY,ZW]
 unfold zmt
 rw [decide_eq_true h.1,decide_eq_true h.2]
 rfl
noncomputable def dns (w:Int):Bool:=decide ((pop8 (zeB w).toNat:Int) ≥ 7)
theorem zi9 (w:Int):ev 114 [.pv (U w)] [] = ok (Bo (dns w)):=by
 rw [VD,zm8]
 dsimp only [za,zb,zf,znw,zj,zm,zq,zl,zs,zn,zN,zP,zO,pU8,znu,znv,zk,zg,zc,zh,ze,zA,zv,zr,zo,zM,zL,zI,zJ,zK,len8,zD,zC,zt,zu]
 rw [zeL (zgy w)]
 rfl
def runN (p:Int → Bool):Nat → List Int → Nat
 | 0,_ => 0
 | _ + 1,[] => 0
 | k + 1,x :: l => if p x = true then runN p k l + 1 else 0
theorem zcl (p:Int → Bool):∀ (k:Nat) (l:List Int),runN p k l ≤ k ∧ runN p k l ≤ l.length
 | 0,_ => ⟨Nat.zero_le _,Nat.zero_le _⟩
 | _ + 1,[] => ⟨Nat.zero_le _,Nat.zero_le _⟩
 | k + 1,x :: l => by
  have:=zcl p k l
  rw [runN,zny]
  split <;> omega
def is0 (x:Int):Bool:=x == 0
theorem zh5 {l:List Int} (hl:l.length ≤ 17592186044416):∀ (c n:Nat),n + c = 255 → Z0 (ws l) n = ok (I (n + runN is0 c (l.drop n):Nat)):=by
 intro c
 induction c with
 | zero =>
  intro n hn
  rw [Xj,yz,decide_eq_false (show ¬ (n:Int) < 255 by omega)]
  by_cases h:(n:Int) < l.length
  ·rw [decide_eq_true h]; rfl
  ·rw [decide_eq_false h]; rfl
 | succ c ih =>
  intro n hn
  rw [Xj,yz,decide_eq_true (show (n:Int) < 255 by omega)]
  by_cases h:n < l.length
  ·have hn1:=ih (n + 1) (by omega)
   have hg:(ws l)[(n:Int).toNat]? = some (U l[n]):=Vo h
   rw [decide_eq_true (show (n:Int) < l.length by omega),decide_eq_true (show 0 ≤ (n:Int) by omega),hg]
   dsimp only [za,zb,zf,znw,zj,zm,zq,zl,zs,zn,zN,zP,zO,pU8,znu,znv,zk,zg,zc,zh,ze,zA,zv,zr,zo,zM,zL,zI,zJ,zK,len8,zD,zC,zt,zu]
   rw [QI,List.drop_eq_getElem_cons h,runN]
   dsimp only [za,zb,zf,znw,zj,zm,zq,zl,zs,zn,zN,zP,zO,pU8,znu,znv,zk,zg,zc,zh,ze,zA,zv,zr,zo,zM,zL,zI,zJ,zK,len8,zD,zC,zt,zu]
   by_cases h0:l[n] = 0
   ·rw [h0,show ((0:Int) == 0) = true from rfl,show is0 0 = true from rfl,if_pos rfl,w64 (x:=(n:Int) + 1) (by omega)]
    rw [show n + (runN is0 c (l.drop (n + 1)) + 1) = n + 1 + runN is0 c (l.drop (n + 1)) by omega]
    exact hn1
   ·have h1:(l[n] == 0) = false:=beq_eq_false_iff_ne.2 h0
    rw [h1,show is0 l[n] = false from h1,if_neg (by decide)]
    rfl
  ·rw [decide_eq_false (show ¬ (n:Int) < l.length by omega),List.drop_eq_nil_of_le (by omega)]
   rfl
theorem zgq {l:List Int} (hl:l.length ≤ 17592186044416):∀ (c n:Nat),n + c = 255 → wQ (ws l) n = ok (I (n + runN dns c (l.drop n):Nat)):=by
 intro c
 induction c with
 | zero =>
  intro n hn
  rw [ZI,yz,decide_eq_false (show ¬ (n:Int) < 255 by omega)]
  by_cases h:(n:Int) < l.length
  ·rw [decide_eq_true h]; rfl
  ·rw [decide_eq_false h]; rfl
 | succ c ih =>
  intro n hn
  rw [ZI,yz,decide_eq_true (show (n:Int) < 255 by omega)]
  by_cases h:n < l.length
  ·have hn1:=ih (n + 1) (by omega)
   have hg:(ws l)[(n:Int).toNat]? = some (U l[n]):=Vo h
   rw [decide_eq_true (show (n:Int) < l.length by omega),decide_eq_true (show 0 ≤ (n:Int) by omega),hg]
   dsimp only [za,zb,zf,znw,zj,zm,zq,zl,zs,zn,zN,zP,zO,pU8,znu,znv,zk,zg,zc,zh,ze,zA,zv,zr,zo,zM,zL,zI,zJ,zK,len8,zD,zC,zt,zu]
   rw [zi9,List.drop_eq_getElem_cons h,runN]
   dsimp only [za,zb,zf,znw,zj,zm,zq,zl,zs,zn,zN,zP,zO,pU8,znu,znv,zk,zg,zc,zh,ze,zA,zv,zr,zo,zM,zL,zI,zJ,zK,len8,zD,zC,zt,zu]
   cases h0:dns l[n] with
   | true =>
    rw [if_pos rfl,w64 (x:=(n:Int) + 1) (by omega)]
    rw [show n + (runN dns c (l.drop (n + 1)) + 1) = n + 1 + runN dns c (l.drop (n + 1)) by omega]
    exact hn1
   | false =>
    rw [if_neg (by decide)]
    rfl
  ·rw [decide_eq_false (show ¬ (n:Int) < l.length by omega),List.drop_eq_nil_of_le (by omega)]
   rfl
theorem zli {l:List Int} (hl:l.length ≤ 17592186044416):ev 186 [.pv (.sl 1 (ws l)),.pv (.v (.func (.func 187) #[] #[]))] [] = ok (I (runN is0 255 l:Nat)):=by
 rw [zcc]
 have:=zh5 hl 255 0 rfl
 rw [Nat.zero_add] at this
 exact this
theorem zlj {l:List Int} (hl:l.length ≤ 17592186044416):ev 186 [.pv (.sl 1 (ws l)),.pv (.v (.func (.func 114) #[] #[]))] [] = ok (I (runN dns 255 l:Nat)):=by
 rw [Kv]
 have:=zgq hl 255 0 rfl
 rw [Nat.zero_add] at this
 exact this
noncomputable def pk:Nat → List Int → List Int
 | 0,_ => []
 | _ + 1,[] => []
 | f + 1,w :: l =>
  if zeB w = 0 then zeB w :: nzW w ++ ((runN is0 255 l:Int) :: pk f (l.drop (runN is0 255 l)))
  else if zeB w = 255 then zeB w :: nzW w ++ ((runN dns 255 l:Int) :: (byt (l.take (runN dns 255 l)) ++ pk f (l.drop (runN dns 255 l))))
  else zeB w :: nzW w ++ pk f l
theorem zkQ (w:Int) (t:List Int):((ws (w :: t)).take ((ws (w :: t)).length:Int).toNat).drop 1 = ws t:=by
 rw [Int.toNat_natCast,List.take_of_length_le (Nat.le_refl _)]
 rfl
theorem zgK (t:List Int) (n:Nat):((ws t).take ((ws t).length:Int).toNat).drop (n:Int).toNat = ws (t.drop n):=by
 rw [Int.toNat_natCast,Int.toNat_natCast,List.take_of_length_le (Nat.le_refl _)]
 simp [ws]
theorem zkP (t:List Int) (n:Nat):((ws t).take (n:Int).toNat).drop 0 = ws (t.take n):=by
 rw [Int.toNat_natCast,List.drop_zero]
 simp [ws]
theorem zbU (a:List Int) (x:Int):bs a ++ [U8 x] = bs (a ++ [x]):=by simp [bs]
theorem zf9:∀ (f:Nat) (l out:List Int),l.length ≤ f → out.length + 16 * l.length ≤ 17592186044416 → xM (ws l) (bs out) = ok (.sl 1 (bs (out ++ pk f l))):=by
 intro f
 induction f with
 | zero =>
  intro l out hl ho
  have:l = []:=List.length_eq_zero_iff.1 (by omega)
  rw [this,w7,pk,List.append_nil]
  rfl
 | succ f ih =>
  intro l out hl ho
  cases l with
  | nil =>
   rw [w7,pk,List.append_nil]
   rfl
  | cons w t =>
   rw [zny] at hl ho
   have hz:=zj2 w
   have ht:=zgy w
   rw [w7,decide_eq_true (show (((ws (w :: t)).length:Nat):Int) > 0 by rw [yz,zny]; omega),show (ws (w :: t))[0]? = some (U w) from rfl,zkQ]
   dsimp only [za,zb,zf,znw,zj,zm,zq,zl,zs,zn,zN,zP,zO,pU8,znu,znv,zk,zg,zc,zh,ze,zA,zv,zr,zo,zM,zL,zI,zJ,zK,len8,zD,zC,zt,zu]
   rw [zm8]
   dsimp only [za,zb,zf,znw,zj,zm,zq,zl,zs,zn,zN,zP,zO,pU8,znu,znv,zk,zg,zc,zh,ze,zA,zv,zr,zo,zM,zL,zI,zJ,zK,len8,zD,zC,zt,zu]
   rw [znm,ya,yj (by omega) (by omega)]
   dsimp only [za,zb,zf,znw,zj,zm,zq,zl,zs,zn,zN,zP,zO,pU8,znu,znv,zk,zg,zc,zh,ze,zA,zv,zr,zo,zM,zL,zI,zJ,zK,len8,zD,zC,zt,zu]
   rw [zbU,ya,ya,yj (by rw [znx]; show (_ + 1 + _) * 1 ≤ _; omega) (by rw [znx]; show _ + 1 + _ ≤ _; omega),decide_eq_true (show 1 ≤ (((ws (w :: t)).length:Nat):Int) by rw [yz,zny]; omega),decide_eq_true (Int.le_refl _),← XL]
   dsimp only [za,zb,zf,znw,zj,zm,zq,zl,zs,zn,zN,zP,zO,pU8,znu,znv,zk,zg,zc,zh,ze,zA,zv,zr,zo,zM,zL,zI,zJ,zK,len8,zD,zC,zt,zu]
   have hlen:(out ++ [zeB w] ++ nzW w).length ≤ out.length + 9:=by simp; omega
   by_cases h0:zeB w = 0
   ·have hrn:=zcl is0 255 t
    rw [beq_iff_eq.2 h0,zli (by omega)]
    dsimp only [za,zb,zf,znw,zj,zm,zq,zl,zs,zn,zN,zP,zO,pU8,znu,znv,zk,zg,zc,zh,ze,zA,zv,zr,zo,zM,zL,zI,zJ,zK,len8,zD,zC,zt,zu]
    rw [ya,yj (by omega) (by omega),yz,decide_eq_true (show 0 ≤ ((runN is0 255 t:Nat):Int) by omega),decide_eq_true (show ((runN is0 255 t:Nat):Int) ≤ (t.length:Int) by omega),decide_eq_true (Int.le_refl _),← yz t,zgK,Kd,show ((runN is0 255 t:Nat):Int) % 256 = ((runN is0 255 t:Nat):Int) by omega,zbU]
    dsimp only [za,zb,zf,znw,zj,zm,zq,zl,zs,zn,zN,zP,zO,pU8,znu,znv,zk,zg,zc,zh,ze,zA,zv,zr,zo,zM,zL,zI,zJ,zK,len8,zD,zC,zt,zu]
    rw [ih _ _ (by rw [List.length_drop]; omega) (by rw [znx,List.length_drop]; show _ + 1 + _ ≤ _; omega),pk,if_pos h0]
    simp only [List.append_assoc,List.cons_append,List.nil_append]
    rfl
   ·rw [beq_eq_false_iff_ne.2 h0]
    dsimp only [za,zb,zf,znw,zj,zm,zq,zl,zs,zn,zN,zP,zO,pU8,znu,znv,zk,zg,zc,zh,ze,zA,zv,zr,zo,zM,zL,zI,zJ,zK,len8,zD,zC,zt,zu]
    by_cases h1:zeB w = 255
    ·have hrn:=zcl dns 255 t
     rw [beq_iff_eq.2 h1,zlj (by omega)]
     dsimp only [za,zb,zf,znw,zj,zm,zq,zl,zs,zn,zN,zP,zO,pU8,znu,znv,zk,zg,zc,zh,ze,zA,zv,zr,zo,zM,zL,zI,zJ,zK,len8,zD,zC,zt,zu]
     have hB:=Xn (t.take (runN dns 255 t)) (by rw [List.length_take]; omega)
     have hbl:(byt (t.take (runN dns 255 t))).length = 8 * runN dns 255 t:=by rw [xB,List.length_take]; omega
     rw [ya,yj (by omega) (by omega),yz,decide_eq_true (show 0 ≤ ((runN dns 255 t:Nat):Int) by omega),decide_eq_true (show ((runN dns 255 t:Nat):Int) ≤ (t.length:Int) by omega),zkP,hB]
     dsimp only [za,zb,zf,znw,zj,zm,zq,zl,zs,zn,zN,zP,zO,pU8,znu,znv,zk,zg,zc,zh,ze,zA,zv,zr,zo,zM,zL,zI,zJ,zK,len8,zD,zC,zt,zu]
     rw [Kd,show ((runN dns 255 t:Nat):Int) % 256 = ((runN dns 255 t:Nat):Int) by omega,zbU,ya,ya,hbl,yj (by rw [znx]; show (_ + 1 + _) * 1 ≤ _; omega) (by rw [znx]; show _ + 1 + _ ≤ _; omega),decide_eq_true (Int.le_refl _),← XL,← yz t,zgK]
     dsimp only [za,zb,zf,znw,zj,zm,zq,zl,zs,zn,zN,zP,zO,pU8,znu,znv,zk,zg,zc,zh,ze,zA,zv,zr,zo,zM,zL,zI,zJ,zK,len8,zD,zC,zt,zu]
     rw [ih _ _ (by rw [List.length_drop]; omega) (by rw [znx,znx,List.length_drop,hbl]; show _ + 1 + _ + _ ≤ _; omega),pk,if_neg h0,if_pos h1]
     simp only [List.append_assoc,List.cons_append,List.nil_append]
     rfl
    ·rw [beq_eq_false_iff_ne.2 h1]
     dsimp only [za,zb,zf,znw,zj,zm,zq,zl,zs,zn,zN,zP,zO,pU8,znu,znv,zk,zg,zc,zh,ze,zA,zv,zr,zo,zM,zL,zI,zJ,zK,len8,zD,zC,zt,zu]
     rw [ih _ _ (by omega) (by omega),pk,if_neg h0,if_neg h1]
     simp only [List.append_assoc,List.cons_append,List.nil_append]
     rfl
noncomputable def pack (l:List Int):List Int:=pk l.length l
theorem zjm {l:List Int} (hl:l.length ≤ 1099511627776):ev 113 [.pv (.sl 1 (ws l))] [] = ok (.sl 1 (bs (pack l))):=by
 rw [JP]
 exact zf9 l.length l [] (Nat.le_refl _) (by show 0 + _ ≤ _; omega)
theorem zjl {b:List Int} (hb:∀ x ∈ b,yE x) (hl:b.length ≤ 1099511627776) {n:Nat} (hn:8 * n = b.length):ev 61 [.pv (.sl 1 (bs b))] [] = ok (.tup [.sl 1 (bs (pack (xX n b))),I 0]):=by
 rw [JO,Jh hb hl hn]
 dsimp only [za,zb,zf,znw,zj,zm,zq,zl,zs,zn,zN,zP,zO,pU8,znu,znv,zk,zg,zc,zh,ze,zA,zv,zr,zo,zM,zL,zI,zJ,zK,len8,zD,zC,zt,zu]
 rw [zjm (by rw [yG]; omega)]
 rfl
def zbG:Nat → Int → Nat
 | 0,_ => 0
 | n + 1,t => (if t % 2 = 1 then 1 else 0) + zbG n (t / 2)
theorem pop8_eq:∀ t:Fin 256,pop8 t.val = zbG 8 (t.val:Int):=by decide +kernel
theorem ziO {t:Int} (h:0 ≤ t ∧ t < 256):pop8 t.toNat = zbG 8 t:=by
 have:=pop8_eq ⟨t.toNat,by omega⟩
 dsimp only at this
 rw [this,Int.toNat_of_nonneg h.1]
theorem zky:∀ (i:Fin 8) (t:Fin 256),((IntKind.wrap .u8 (BitVec.ofInt 8 (Int.fdiv (t.val:Int) (2 ^ (min (IntKind.wrap .u64 (i.val:Int)).toNat 8))) &&& BitVec.ofInt 8 1).toNat) == 1) = decide ((t.val:Int) / 2 ^ i.val % 2 = 1):=by decide +kernel
def ziG:Nat → Int → List Int → List Int
 | 0,_,_ => []
 | n + 1,t,b => if t % 2 = 1 then b.headD 0 :: ziG n (t / 2) b.tail else 0 :: ziG n (t / 2) b
def zi2:List Int → Int
 | [] => 0
 | c :: l => c + 256 * zi2 l
def exW (t:Int) (b:List Int):Int:=zi2 (ziG 8 t b)
theorem zhy {b:List Int} (hb:∀ x ∈ b,yE x) (hl:b.length ≤ 17592186044416) {t:Int} (ht:0 ≤ t ∧ t < 256) (p2:PV):∀ (c i k:Nat) (w:Int),i + c = 8 → k + zbG c (t / 2 ^ i) ≤ b.length → 0 ≤ w ∧ w < 2 ^ (8 * i) →
  xj t (bs b) p2 (U w) k i = ok (.tup [U (w + 2 ^ (8 * i) * zi2 (ziG c (t / 2 ^ i) (b.drop k))),p2,Bo true]):=by
 intro c
 induction c with
 | zero =>
  intro i k w hi hk hw
  rw [vl,decide_eq_false (by omega),ziG]
  show ok _ = _
  rw [zi2,Int.mul_zero,Int.add_zero]
 | succ c ih =>
  intro i k w hi hk hw
  have hs:=zlP ⟨i,by omega⟩
  have hbit:=zky ⟨i,by omega⟩ ⟨t.toNat,by omega⟩
  dsimp only at hs hbit
  rw [Int.toNat_of_nonneg ht.1] at hbit
  have hdiv:t / 2 ^ i / 2 = t / 2 ^ (i + 1):=by rw [Int.pow_succ,Int.ediv_ediv_of_nonneg (Int.pow_nonneg (by decide))]
  have hpow:(2:Int) ^ (8 * (i + 1)) = 2 ^ (8 * i) * 256:=by rw [show 8 * (i + 1) = 8 * i + 8 by omega,Int.pow_add]; rfl
  have hpos:(0:Int) < 2 ^ (8 * i):=Int.pow_pos (by decide)
  rw [zbG,hdiv] at hk
  rw [vl,decide_eq_true (show (i:Int) < 8 by omega),hs,hbit,w64 (x:=(i:Int) + 1) (by omega),ziG,hdiv]
  by_cases h1:t / 2 ^ i % 2 = 1
  ·rw [if_pos h1] at hk
   have hg:(bs b)[(k:Int).toNat]? = some (U8 (b.getD k 0)):=W9 rfl (by omega)
   have hv:=z7 hb k
   rw [decide_eq_true h1,if_pos h1,ya,decide_eq_true (show 0 ≤ (k:Int) by omega),decide_eq_true (show (k:Int) < b.length by omega),hg]
   dsimp only [za,zb,zf,znw,zj,zm,zq,zl,zs,zn,zN,zP,zO,pU8,znu,znv,zk,zg,zc,zh,ze,zA,zv,zr,zo,zM,zL,zI,zJ,zK,len8,zD,zC,zt,zu]
   rw [zi6 (x:=b.getD k 0) (by omega),w64 (x:=8 * (i:Int)) (by omega),w64 (x:=(k:Int) + 1) (by omega),show 8 * (i:Int) = ((8 * i:Nat):Int) by push_cast; rfl]
   have hI:=wk (w:=w) (v:=b.getD k 0) (i:=8 * i) (m:=8) hw (by omega) (by decide) (by omega)
   rw [show (2:Int) ^ 8 = 256 from rfl,show b.getD k 0 % 256 = b.getD k 0 by omega] at hI
   have hI':ev 291 [.pv (U w),.pv (I ((8 * i:Nat):Int)),.pv (I 8),.pv (U (b.getD k 0))] [] = _:=hI
   rw [hI']
   dsimp only [za,zb,zf,znw,zj,zm,zq,zl,zs,zn,zN,zP,zO,pU8,znu,znv,zk,zg,zc,zh,ze,zA,zv,zr,zo,zM,zL,zI,zJ,zK,len8,zD,zC,zt,zu]
   have hm:b.getD k 0 * 2 ^ (8 * i) ≤ 255 * 2 ^ (8 * i):=Int.mul_le_mul_of_nonneg_right (by omega) (by omega)
   have hm0:0 ≤ b.getD k 0 * 2 ^ (8 * i):=Int.mul_nonneg (by omega) (by omega)
   have:=ih (i + 1) (k + 1) (w + b.getD k 0 * 2 ^ (8 * i)) (by omega) (by omega) (by rw [hpow]; omega)
   refine this.trans ?_
   have e1:(b.drop k).tail = b.drop (k + 1):=by rw [List.tail_drop]
   have e2:(b.drop k).headD 0 = b.getD k 0:=by rw [List.headD_eq_head?_getD,List.head?_drop,List.getD_eq_getElem?_getD]
   rw [e1,e2,zi2,hpow]
   generalize zi2 (ziG c (t / 2 ^ (i + 1)) (b.drop (k + 1))) = v
   rw [Int.mul_add,Int.mul_comm (2 ^ (8 * i)) (b.getD k 0),Int.mul_assoc,Int.add_assoc]
  ·rw [if_neg h1] at hk
   rw [decide_eq_false h1,if_neg h1]
   dsimp only [za,zb,zf,znw,zj,zm,zq,zl,zs,zn,zN,zP,zO,pU8,znu,znv,zk,zg,zc,zh,ze,zA,zv,zr,zo,zM,zL,zI,zJ,zK,len8,zD,zC,zt,zu]
   have:=ih (i + 1) k w (by omega) (by omega) (by rw [hpow]; omega)
   refine this.trans ?_
   rw [zi2,hpow]
   generalize zi2 (ziG c (t / 2 ^ (i + 1)) (b.drop k)) = v
   rw [Int.zero_add,Int.mul_assoc]
theorem zeJ {b:List Int} {t:Int} (ht:0 ≤ t ∧ t < 256) (h:b.length < zbG 8 t):ev 266 [.pv (U8 t),.pv (.sl 1 (bs b))] [] = ok (.tup [U 0,I 0,Bo false]):=by
 rw [ZM,zeL ht,ziO ht]
 dsimp only [za,zb,zf,znw,zj,zm,zq,zl,zs,zn,zN,zP,zO,pU8,znu,znv,zk,zg,zc,zh,ze,zA,zv,zr,zo,zM,zL,zI,zJ,zK,len8,zD,zC,zt,zu]
 rw [ya,decide_eq_true (by omega)]
 rfl
theorem zeK {b:List Int} (hb:∀ x ∈ b,yE x) (hl:b.length ≤ 17592186044416) {t:Int} (ht:0 ≤ t ∧ t < 256) (h:zbG 8 t ≤ b.length):ev 266 [.pv (U8 t),.pv (.sl 1 (bs b))] [] = ok (.tup [U (exW t b),I (zbG 8 t),Bo true]):=by
 rw [ZM,zeL ht,ziO ht]
 dsimp only [za,zb,zf,znw,zj,zm,zq,zl,zs,zn,zN,zP,zO,pU8,znu,znv,zk,zg,zc,zh,ze,zA,zv,zr,zo,zM,zL,zI,zJ,zK,len8,zD,zC,zt,zu]
 rw [ya,decide_eq_false (by omega)]
 have:=zhy hb hl ht (I (zbG 8 t)) 8 0 0 0 rfl (by rw [Int.pow_zero,Int.ediv_one]; omega) (by decide)
 rw [Int.pow_zero,Int.ediv_one,Int.one_mul,Int.zero_add] at this
 exact this
def dh (inp out:List Int) (lim:Int):zX:=[[.pv (.sl 1 (bs inp)),.slu 5 1 (bs out),.pv (I lim)]]
def zdD:Nat → PV
 | 0 => .v .nilIface
 | 1 => .sen 1
 | _ + 2 => .sen 2
theorem wu (e:Nat):Ys (.pv (zdD e)) = some (decide (e = 0)):=by
 rcases e with _ | _ | e <;> rfl
theorem Km (a b c:AV):decide ([a,b,c].length = 3) = true:=rfl
theorem zhh (x:List Int) (n:Nat):((bs x).take ((bs x).length:Int).toNat).drop (n:Int).toNat = bs (x.drop n):=by
 rw [Int.toNat_natCast,Int.toNat_natCast,List.take_of_length_le (Nat.le_refl _)]
 simp [bs]
theorem zla {inp out:List Int} {lim:Int} (w:Int) (ho:out.length ≤ 17592186044416):ev 267 [.ptr 0 0,.pv (U w)] (dh inp out lim) = if (out.length:Int) + 8 > lim then some (.ret (.pv (zdD 1)),dh inp out lim) else some (.ret (.pv (zdD 0)),dh inp (out ++ w8 w) lim):=by
 unfold dh
 rw [Yq,ya,w64 (x:=(out.length:Int) + 8) (by omega)]
 by_cases h:(out.length:Int) + 8 > lim
 ·rw [decide_eq_true h,if_pos h]
  rfl
 ·rw [decide_eq_false h,if_neg h,Jd]
  dsimp only [za,zb,zf,znw,zj,zm,zq,zl,zs,zn,zN,zP,zO,pU8,znu,znv,zk,zg,zc,zh,ze,zA,zv,zr,zo,zM,zL,zI,zJ,zK,len8,zD,zC,zt,zu]
  rw [ya,vo,yj (by omega) (by omega),← XL]
  rfl
structure Dr where
 e:Nat
 i:List Int
 o:List Int
def Zp (t:Int) (inp out:List Int) (lim:Int):Dr :=
 if inp.length < zbG 8 t then ⟨2,inp,out⟩
 else if (out.length:Int) + 8 > lim then ⟨1,inp.drop (zbG 8 t),out⟩ else ⟨0,inp.drop (zbG 8 t),out ++ w8 (exW t inp)⟩
theorem zeW {inp out:List Int} {lim:Int} (hb:∀ x ∈ inp,yE x) (hl:inp.length ≤ 17592186044416) (ho:out.length ≤ 17592186044416) {t:Int} (ht:0 ≤ t ∧ t < 256):ev 225 [.ptr 0 0,.pv (U8 t)] (dh inp out lim) = some (.ret (.pv (zdD (Zp t inp out lim).e)),dh (Zp t inp out lim).i (Zp t inp out lim).o lim):=by
 unfold Zp
 have hu:ev 225 [.ptr 0 0,.pv (U8 t)] (dh inp out lim) = _:=Yr (bs inp) (bs out) lim t
 rw [hu]
 by_cases h1:inp.length < zbG 8 t
 ·rw [zeJ ht h1,if_pos h1]
  rfl
 ·rw [zeK hb hl ht (by omega),if_neg h1]
  dsimp only [za,zb,zf,znw,zj,zm,zq,zl,zs,zn,zN,zP,zO,pU8,znu,znv,zk,zg,zc,zh,ze,zA,zv,zr,zo,zM,zL,zI,zJ,zK,len8,zD,zC,zt,zu]
  rw [zhh,ya,decide_eq_true (show 0 ≤ ((zbG 8 t:Nat):Int) by omega),decide_eq_true (show ((zbG 8 t:Nat):Int) ≤ (inp.length:Int) by omega),decide_eq_true (Int.le_refl _)]
  have hE:=zla (inp:=inp.drop (zbG 8 t)) (lim:=lim) (exW t inp) ho
  unfold dh at hE
  dsimp only [za,zb,zf,znw,zj,zm,zq,zl,zs,zn,zN,zP,zO,pU8,znu,znv,zk,zg,zc,zh,ze,zA,zv,zr,zo,zM,zL,zI,zJ,zK,len8,zD,zC,zt,zu]
  rw [hE]
  by_cases h2:(out.length:Int) + 8 > lim
  ·rw [if_pos h2,if_pos h2]
   dsimp only [za,zb,zf,znw,zj,zm,zq,zl,zs,zn,zN,zP,zO,pU8,znu,znv,zk,zg,zc,zh,ze,zA,zv,zr,zo,zM,zL,zI,zJ,zK,len8,zD,zC,zt,zu]
   rw [yH]
   rfl
  ·rw [if_neg h2,if_neg h2]
   dsimp only [za,zb,zf,znw,zj,zm,zq,zl,zs,zn,zN,zP,zO,pU8,znu,znv,zk,zg,zc,zh,ze,zA,zv,zr,zo,zM,zL,zI,zJ,zK,len8,zD,zC,zt,zu]
   rw [yH]
   rfl
structure Kp (r:Dr) (inp out:List Int) (n:Nat):Prop where
 bi:∀ x ∈ r.i,yE x
 li:r.i.length ≤ inp.length
 bo:∀ x ∈ r.o,yE x
 lo:r.o.length ≤ out.length + n
theorem zkL (w:Int):∀ x ∈ w8 w,yE x:=by
 have:=vZ [w]
 rw [show byt [w] = w8 w from List.append_nil _] at this
 exact this
theorem QD {inp out:List Int} (t lim:Int) (hb:∀ x ∈ inp,yE x) (ho:∀ x ∈ out,yE x):Kp (Zp t inp out lim) inp out 8:=by
 unfold Zp
 split
 ·exact ⟨hb,Nat.le_refl _,ho,Nat.le_add_right _ _⟩
 split
 ·exact ⟨vI hb _,(by rw [List.length_drop]; omega),ho,Nat.le_add_right _ _⟩
 ·refine ⟨vI hb _,by rw [List.length_drop]; omega,fun x hx => ?_,by rw [znx,vo]; exact Nat.le_refl _⟩
  rcases List.mem_append.1 hx with h | h
  ·exact ho x h
  ·exact zkL _ x h
def ziT (t lim:Int):Nat → List Int → List Int → Dr
 | 0,inp,out => ⟨0,inp,out⟩
 | n + 1,inp,out => if (Zp t inp out lim).e = 0 then ziT t lim n (Zp t inp out lim).i (Zp t inp out lim).o else Zp t inp out lim
theorem ziU (t lim:Int):∀ (n:Nat) {inp out:List Int},(∀ x ∈ inp,yE x) → (∀ x ∈ out,yE x) → Kp (ziT t lim n inp out) inp out (8 * n)
 | 0,inp,out,hb,ho => ⟨hb,Nat.le_refl _,ho,Nat.le_add_right _ _⟩
 | n + 1,inp,out,hb,ho => by
  have h1:=QD t lim hb ho
  rw [ziT]
  split
  ·have h2:=ziU t lim n h1.bi h1.bo
   have a1:=h1.li
   have a2:=h2.li
   have a3:=h1.lo
   have a4:=h2.lo
   exact ⟨h2.bi,by omega,h2.bo,by omega⟩
  ·have a3:=h1.lo
   exact ⟨h1.bi,h1.li,h1.bo,by omega⟩
theorem zeZ {t lim:Int} (ht:0 ≤ t ∧ t < 256) {N:Nat} (hN:N ≤ 256):∀ (c k:Nat) (inp out:List Int),k + c = N → (∀ x ∈ inp,yE x) → (∀ x ∈ out,yE x) → inp.length ≤ 17592186044416 → out.length + 8 * c ≤ 17592186044416 →
  z5 t (zdD 0) (I N) k (.sl 1 (bs inp)) (bs out) (I lim) = some (.ret (.pv (zdD (ziT t lim c inp out).e)),dh (ziT t lim c inp out).i (ziT t lim c inp out).o lim):=by
 intro c
 induction c with
 | zero =>
  intro k inp out hk hb ho hl hlo
  rw [xk]
  dsimp only [za,zb,zf,znw,zj,zm,zq,zl,zs,zn,zN,zP,zO,pU8,znu,znv,zk,zg,zc,zh,ze,zA,zv,zr,zo,zM,zL,zI,zJ,zK,len8,zD,zC,zt,zu]
  rw [decide_eq_false (by omega)]
  rfl
 | succ c ih =>
  intro k inp out hk hb ho hl hlo
  have hn:=zeW (out:=out) (lim:=lim) hb hl (by omega) ht
  have hkp:=QD t lim hb ho
  have a1:=hkp.li
  have a2:=hkp.lo
  unfold dh at hn
  rw [xk]
  dsimp only [za,zb,zf,znw,zj,zm,zq,zl,zs,zn,zN,zP,zO,pU8,znu,znv,zk,zg,zc,zh,ze,zA,zv,zr,zo,zM,zL,zI,zJ,zK,len8,zD,zC,zt,zu]
  rw [decide_eq_true (by omega),hn]
  dsimp only [za,zb,zf,znw,zj,zm,zq,zl,zs,zn,zN,zP,zO,pU8,znu,znv,zk,zg,zc,zh,ze,zA,zv,zr,zo,zM,zL,zI,zJ,zK,len8,zD,zC,zt,zu]
  rw [yH]
  dsimp only [Km,za,zb,zf,znw,zj,zm,zq,zl,zs,zn,zN,zP,zO,pU8,znu,znv,zk,zg,zc,zh,ze,zA,zv,zr,zo,zM,zL,zI,zJ,zK,len8,zD,zC,zt,zu]
  rw [wu,w64 (x:=(k:Int) + 1) (by omega),ziT]
  dsimp only [za,zb,zf,znw,zj,zm,zq,zl,zs,zn,zN,zP,zO,pU8,znu,znv,zk,zg,zc,zh,ze,zA,zv,zr,zo,zM,zL,zI,zJ,zK,len8,zD,zC,zt,zu]
  by_cases h0:(Zp t inp out lim).e = 0
  ·rw [decide_eq_true h0,if_pos h0,h0]
   exact ih (k + 1) _ _ (by omega) hkp.bi hkp.bo (by omega) (by omega)
  ·rw [decide_eq_false h0,if_neg h0]
   rfl
theorem zcH {t lim:Int} {e:Nat} (inp out:List Int):z5 t (zdD e) (I 0) 0 (.sl 1 (bs inp)) (bs out) (I lim) = some (.ret (.pv (zdD e)),dh inp out lim):=by
 rw [xk]
 rfl
def zkV (t lim:Int) (inp out:List Int):Dr:=match inp with
 | [] => ⟨2,[],out⟩
 | n :: rest => ziT t lim (if t = 0 then n.toNat + 1 else n.toNat) rest out
def zgO (t lim:Int) (inp out:List Int):Dr :=
 if t = 255 then (if (Zp t inp out lim).e = 0 then zkV t lim (Zp t inp out lim).i (Zp t inp out lim).o else Zp t inp out lim) else zkV t lim inp out
theorem ziz (t lim:Int) {inp out:List Int} (hb:∀ x ∈ inp,yE x) (ho:∀ x ∈ out,yE x):Kp (zkV t lim inp out) inp out 2048:=by
 unfold zkV
 split
 ·exact ⟨hb,Nat.le_refl _,ho,Nat.le_add_right _ _⟩
 ·rename_i n rest
  have hn:=hb n (List.mem_cons_self ..)
  unfold yE at hn
  have h:=ziU t lim (if t = 0 then n.toNat + 1 else n.toNat) (inp:=rest) (fun x hx => hb x (List.mem_cons_of_mem _ hx)) ho
  have a1:=h.li
  have a2:=h.lo
  have a3:(if t = 0 then n.toNat + 1 else n.toNat) ≤ 256:=by split <;> omega
  exact ⟨h.bi,by rw [zny]; omega,h.bo,by omega⟩
theorem zlG (t lim:Int) {inp out:List Int} (hb:∀ x ∈ inp,yE x) (ho:∀ x ∈ out,yE x):Kp (zgO t lim inp out) inp out 2056:=by
 unfold zgO
 have h1:=QD t lim hb ho
 have h3:=ziz t lim hb ho
 have a1:=h1.li
 have a2:=h1.lo
 have a3:=h3.lo
 split
 ·split
  ·have h2:=ziz t lim h1.bi h1.bo
   have a4:=h2.li
   have a5:=h2.lo
   exact ⟨h2.bi,by omega,h2.bo,by omega⟩
  ·exact ⟨h1.bi,h1.li,h1.bo,by omega⟩
 ·exact ⟨h3.bi,h3.li,h3.bo,by omega⟩
theorem zcE {out:List Int} {lim:Int}:ev 265 [.ptr 0 0] (dh [] out lim) = some (.ret (.pv (.tup [I 0,zdD 2])),dh [] out lim):=by
 have:=wB (bs []) (bs out) lim
 exact this.trans rfl
theorem zcD {n:Int} {rest out:List Int} {lim:Int} (hn:yE n):ev 265 [.ptr 0 0] (dh (n :: rest) out lim) = some (.ret (.pv (.tup [I n,zdD 0])),dh rest out lim):=by
 have:=wB (bs (n :: rest)) (bs out) lim
 refine this.trans ?_
 unfold yE at hn
 have hl:(((bs (n :: rest)).length:Nat):Int) = rest.length + 1:=by rw [ya]; rfl
 have hc:((bs (n :: rest)).take (((bs (n :: rest)).length:Nat):Int).toNat).drop 1 = bs rest:=by
  rw [Int.toNat_natCast,List.take_of_length_le (Nat.le_refl _)]
  rfl
 rw [hc,hl,beq_eq_false_iff_ne.2 (by omega),decide_eq_true (show 0 < (rest.length:Int) + 1 by omega),show (bs (n :: rest))[0]? = some (U8 n) from rfl,decide_eq_true (show 1 ≤ (rest.length:Int) + 1 by omega),decide_eq_true (Int.le_refl _)]
 dsimp only [za,zb,zf,znw,zj,zm,zq,zl,zs,zn,zN,zP,zO,pU8,znu,znv,zk,zg,zc,zh,ze,zA,zv,zr,zo,zM,zL,zI,zJ,zK,len8,zD,zC,zt,zu]
 rw [w64 (x:=n) (by omega)]
 rfl
theorem zlb {t lim:Int} (ht:t = 0 ∨ t = 255) {inp out:List Int} (hb:∀ x ∈ inp,yE x) (ho:∀ x ∈ out,yE x) (hl:inp.length ≤ 17592186044416) (hlo:out.length + 2056 ≤ 17592186044416):ev 224 [.ptr 0 0,.pv (U8 t)] (dh inp out lim) = some (.ret (.pv (zdD (zgO t lim inp out).e)),dh (zgO t lim inp out).i (zgO t lim inp out).o lim):=by
 have hu:ev 224 [.ptr 0 0,.pv (U8 t)] (dh inp out lim) = _:=YQ (bs inp) (bs out) lim t
 rw [hu]
 unfold zgO
 rcases ht with rfl | rfl
 ·rw [show ((0:Int) == 255) = false from rfl,if_neg (by decide)]
  dsimp only [za,zb,zf,znw,zj,zm,zq,zl,zs,zn,zN,zP,zO,pU8,znu,znv,zk,zg,zc,zh,ze,zA,zv,zr,zo,zM,zL,zI,zJ,zK,len8,zD,zC,zt,zu]
  cases inp with
  | nil =>
   have h:=zcE (out:=out) (lim:=lim)
   unfold dh at h
   rw [h]
   dsimp only [za,zb,zf,znw,zj,zm,zq,zl,zs,zn,zN,zP,zO,pU8,znu,znv,zk,zg,zc,zh,ze,zA,zv,zr,zo,zM,zL,zI,zJ,zK,len8,zD,zC,zt,zu]
   rw [yH]
   dsimp only [Km,za,zb,zf,znw,zj,zm,zq,zl,zs,zn,zN,zP,zO,pU8,znu,znv,zk,zg,zc,zh,ze,zA,zv,zr,zo,zM,zL,zI,zJ,zK,len8,zD,zC,zt,zu]
   rw [wu]
   exact zcH [] out
  | cons n rest =>
   have hn:=hb n (List.mem_cons_self ..)
   have h:=zcD (rest:=rest) (out:=out) (lim:=lim) hn
   unfold dh at h
   unfold yE at hn
   rw [zny] at hl
   rw [h]
   dsimp only [za,zb,zf,znw,zj,zm,zq,zl,zs,zn,zN,zP,zO,pU8,znu,znv,zk,zg,zc,zh,ze,zA,zv,zr,zo,zM,zL,zI,zJ,zK,len8,zD,zC,zt,zu]
   rw [yH]
   dsimp only [Km,za,zb,zf,znw,zj,zm,zq,zl,zs,zn,zN,zP,zO,pU8,znu,znv,zk,zg,zc,zh,ze,zA,zv,zr,zo,zM,zL,zI,zJ,zK,len8,zD,zC,zt,zu]
   rw [wu,show ((0:Int) == 0) = true from rfl,w64 (x:=n + 1) (by omega)]
   dsimp only [zkV,za,zb,zf,znw,zj,zm,zq,zl,zs,zn,zN,zP,zO,pU8,znu,znv,zk,zg,zc,zh,ze,zA,zv,zr,zo,zM,zL,zI,zJ,zK,len8,zD,zC,zt,zu]
   rw [if_pos rfl]
   have:=zeZ (t:=0) (lim:=lim) (by decide) (N:=n.toNat + 1) (by omega) (n.toNat + 1) 0 rest out (by omega) (fun x hx => hb x (List.mem_cons_of_mem _ hx)) ho (by omega) (by omega)
   rw [show ((n.toNat + 1:Nat):Int) = n + 1 by omega] at this
   exact this
 ·rw [show ((255:Int) == 255) = true from rfl,if_pos rfl]
  dsimp only [za,zb,zf,znw,zj,zm,zq,zl,zs,zn,zN,zP,zO,pU8,znu,znv,zk,zg,zc,zh,ze,zA,zv,zr,zo,zM,zL,zI,zJ,zK,len8,zD,zC,zt,zu]
  have hn:=zeW (out:=out) (lim:=lim) hb hl (by omega) (t:=255) (by decide)
  have hkp:=QD 255 lim hb ho
  unfold dh at hn
  rw [hn]
  dsimp only [za,zb,zf,znw,zj,zm,zq,zl,zs,zn,zN,zP,zO,pU8,znu,znv,zk,zg,zc,zh,ze,zA,zv,zr,zo,zM,zL,zI,zJ,zK,len8,zD,zC,zt,zu]
  rw [yH]
  dsimp only [Km,za,zb,zf,znw,zj,zm,zq,zl,zs,zn,zN,zP,zO,pU8,znu,znv,zk,zg,zc,zh,ze,zA,zv,zr,zo,zM,zL,zI,zJ,zK,len8,zD,zC,zt,zu]
  rw [wu]
  dsimp only [za,zb,zf,znw,zj,zm,zq,zl,zs,zn,zN,zP,zO,pU8,znu,znv,zk,zg,zc,zh,ze,zA,zv,zr,zo,zM,zL,zI,zJ,zK,len8,zD,zC,zt,zu]
  by_cases h0:(Zp 255 inp out lim).e = 0
  ·rw [decide_eq_true h0,if_pos h0]
   dsimp only [za,zb,zf,znw,zj,zm,zq,zl,zs,zn,zN,zP,zO,pU8,znu,znv,zk,zg,zc,zh,ze,zA,zv,zr,zo,zM,zL,zI,zJ,zK,len8,zD,zC,zt,zu]
   have a1:=hkp.li
   have a2:=hkp.lo
   have a3:=hkp.bi
   have a4:=hkp.bo
   generalize (Zp 255 inp out lim).i = ri at a1 a3 ⊢
   generalize (Zp 255 inp out lim).o = ro at a2 a4 ⊢
   cases ri with
   | nil =>
    have h:=zcE (out:=ro) (lim:=lim)
    unfold dh at h
    rw [h]
    dsimp only [za,zb,zf,znw,zj,zm,zq,zl,zs,zn,zN,zP,zO,pU8,znu,znv,zk,zg,zc,zh,ze,zA,zv,zr,zo,zM,zL,zI,zJ,zK,len8,zD,zC,zt,zu]
    rw [yH]
    dsimp only [Km,za,zb,zf,znw,zj,zm,zq,zl,zs,zn,zN,zP,zO,pU8,znu,znv,zk,zg,zc,zh,ze,zA,zv,zr,zo,zM,zL,zI,zJ,zK,len8,zD,zC,zt,zu]
    rw [wu]
    exact zcH [] ro
   | cons n rest =>
    have hn:=a3 n (List.mem_cons_self ..)
    have h:=zcD (rest:=rest) (out:=ro) (lim:=lim) hn
    unfold dh at h
    unfold yE at hn
    rw [zny] at a1
    rw [h]
    dsimp only [za,zb,zf,znw,zj,zm,zq,zl,zs,zn,zN,zP,zO,pU8,znu,znv,zk,zg,zc,zh,ze,zA,zv,zr,zo,zM,zL,zI,zJ,zK,len8,zD,zC,zt,zu]
    rw [yH]
    dsimp only [Km,za,zb,zf,znw,zj,zm,zq,zl,zs,zn,zN,zP,zO,pU8,znu,znv,zk,zg,zc,zh,ze,zA,zv,zr,zo,zM,zL,zI,zJ,zK,len8,zD,zC,zt,zu]
    rw [wu,show ((255:Int) == 0) = false from rfl]
    dsimp only [zkV,za,zb,zf,znw,zj,zm,zq,zl,zs,zn,zN,zP,zO,pU8,znu,znv,zk,zg,zc,zh,ze,zA,zv,zr,zo,zM,zL,zI,zJ,zK,len8,zD,zC,zt,zu]
    rw [if_neg (by decide)]
    have:=zeZ (t:=255) (lim:=lim) (by decide) (N:=n.toNat) (by omega) n.toNat 0 rest ro (by omega) (fun x hx => a3 x (List.mem_cons_of_mem _ hx)) a4 (by omega) (by omega)
    rw [show ((n.toNat:Nat):Int) = n by omega] at this
    exact this
  ·rw [decide_eq_false h0,if_neg h0]
   rfl
def zbH (t lim:Int) (inp out:List Int):Dr:=if t = 0 ∨ t = 255 then zgO t lim inp out else Zp t inp out lim
theorem ziX (t lim:Int) {inp out:List Int} (hb:∀ x ∈ inp,yE x) (ho:∀ x ∈ out,yE x):Kp (zbH t lim inp out) inp out 2056:=by
 unfold zbH
 split
 ·exact zlG t lim hb ho
 ·have h:=QD t lim hb ho
  have a2:=h.lo
  exact ⟨h.bi,h.li,h.bo,by omega⟩
attribute [irreducible] zbH Zp zgO
def ziA (lim:Int):Nat → List Int → List Int → Dr
 | 0,inp,out => ⟨0,inp,out⟩
 | _ + 1,[],out => ⟨0,[],out⟩
 | f + 1,t :: rest,out => if (zbH t lim rest out).e = 0 then ziA lim f (zbH t lim rest out).i (zbH t lim rest out).o else zbH t lim rest out
theorem ziB (lim:Int):∀ (f:Nat) {inp out:List Int},(∀ x ∈ inp,yE x) → (∀ x ∈ out,yE x) → Kp (ziA lim f inp out) inp out (2056 * inp.length)
 | 0,inp,out,hb,ho => ⟨hb,Nat.le_refl _,ho,Nat.le_add_right _ _⟩
 | f + 1,[],out,hb,ho => ⟨hb,Nat.le_refl _,ho,Nat.le_add_right _ _⟩
 | f + 1,t :: rest,out,hb,ho => by
  have h:=ziX t lim (inp:=rest) (fun x hx => hb x (List.mem_cons_of_mem _ hx)) ho
  have a1:=h.li
  have a2:=h.lo
  rw [ziA,zny]
  split
  ·have h2:=ziB lim f h.bi h.bo
   have a3:=h2.li
   have a4:=h2.lo
   exact ⟨h2.bi,by rw [zny]; omega,h2.bo,by omega⟩
  ·exact ⟨h.bi,by rw [zny]; omega,h.bo,Nat.le_trans a2 (Nat.add_le_add_left (show 2056 ≤ 2056 * (rest.length + 1) by omega) _)⟩
theorem zdA {a b:Nat} (h:a + 4096 * (b + 1) ≤ 17592186044416):a + 2056 ≤ 17592186044416:=Nat.le_trans (Nat.add_le_add_left (Nat.le_trans (show 2056 ≤ 4096 * 1 by decide) (Nat.mul_le_mul_left 4096 (Nat.le_add_left 1 b))) a) h
theorem zhg (x:Int) (l:List Int):((bs (x :: l)).take (((bs (x :: l)).length:Nat):Int).toNat).drop 1 = bs l:=by
 rw [Int.toNat_natCast,List.take_of_length_le (Nat.le_refl _)]
 rfl
theorem zmE {lim:Int}:∀ (f:Nat) (inp out:List Int),inp.length ≤ f → (∀ x ∈ inp,yE x) → (∀ x ∈ out,yE x) → out.length + 4096 * inp.length ≤ 17592186044416 →
  yi (zdD 0) (.sl 1 (bs inp)) (bs out) (I lim) = some (.ret (.pv (zdD (ziA lim f inp out).e)),dh (ziA lim f inp out).i (ziA lim f inp out).o lim):=by
 intro f
 induction f with
 | zero =>
  intro inp out hf hb ho hl
  have:inp = []:=List.length_eq_zero_iff.1 (by omega)
  rw [this,yY]
  rfl
 | succ f ih =>
  intro inp out hf hb ho hl
  cases inp with
  | nil =>
   rw [yY]
   rfl
  | cons t rest =>
   rw [zny] at hf hl
   have ht:=hb t (List.mem_cons_self ..)
   unfold yE at ht
   have hbr:∀ x ∈ rest,yE x:=fun x hx => hb x (List.mem_cons_of_mem _ hx)
   have hlen:(((bs (t :: rest)).length:Nat):Int) = rest.length + 1:=by rw [ya]; rfl
   have hkp:=ziX t lim hbr ho
   have a1:=hkp.li
   have a2:=hkp.lo
   have a3:=hkp.bi
   have a4:=hkp.bo
   rw [yY,ziA]
   dsimp only [za,zb,zf,znw,zj,zm,zq,zl,zs,zn,zN,zP,zO,pU8,znu,znv,zk,zg,zc,zh,ze,zA,zv,zr,zo,zM,zL,zI,zJ,zK,len8,zD,zC,zt,zu]
   rw [zhg,hlen,decide_eq_true (show (rest.length:Int) + 1 > 0 by omega),show (bs (t :: rest))[0]? = some (U8 t) from rfl,decide_eq_true (show 1 ≤ (rest.length:Int) + 1 by omega),decide_eq_true (Int.le_refl _),show decide ((1:Nat) = 1) = true from rfl]
   dsimp only [za,zb,zf,znw,zj,zm,zq,zl,zs,zn,zN,zP,zO,pU8,znu,znv,zk,zg,zc,zh,ze,zA,zv,zr,zo,zM,zL,zI,zJ,zK,len8,zD,zC,zt,zu]
   by_cases h0:t = 0
   ·have hg:=zlb (t:=t) (lim:=lim) (.inl h0) hbr ho (by omega) (zdA hl)
    have hs:zbH t lim rest out = zgO t lim rest out:=by unfold zbH; rw [if_pos (.inl h0)]
    rw [← hs] at hg
    unfold dh at hg
    rw [beq_iff_eq.2 h0,hg]
    dsimp only [za,zb,zf,znw,zj,zm,zq,zl,zs,zn,zN,zP,zO,pU8,znu,znv,zk,zg,zc,zh,ze,zA,zv,zr,zo,zM,zL,zI,zJ,zK,len8,zD,zC,zt,zu]
    rw [yH]
    dsimp only [Km,za,zb,zf,znw,zj,zm,zq,zl,zs,zn,zN,zP,zO,pU8,znu,znv,zk,zg,zc,zh,ze,zA,zv,zr,zo,zM,zL,zI,zJ,zK,len8,zD,zC,zt,zu]
    rw [wu]
    dsimp only [za,zb,zf,znw,zj,zm,zq,zl,zs,zn,zN,zP,zO,pU8,znu,znv,zk,zg,zc,zh,ze,zA,zv,zr,zo,zM,zL,zI,zJ,zK,len8,zD,zC,zt,zu]
    by_cases h3:(zbH t lim rest out).e = 0
    ·rw [decide_eq_true h3,if_pos h3,h3]
     exact ih _ _ (by omega) a3 a4 (by omega)
    ·rw [decide_eq_false h3,if_neg h3]
     rfl
   ·rw [beq_eq_false_iff_ne.2 h0]
    dsimp only [za,zb,zf,znw,zj,zm,zq,zl,zs,zn,zN,zP,zO,pU8,znu,znv,zk,zg,zc,zh,ze,zA,zv,zr,zo,zM,zL,zI,zJ,zK,len8,zD,zC,zt,zu]
    by_cases h1:t = 255
    ·have hg:=zlb (t:=t) (lim:=lim) (.inr h1) hbr ho (by omega) (zdA hl)
     have hs:zbH t lim rest out = zgO t lim rest out:=by unfold zbH; rw [if_pos (.inr h1)]
     rw [← hs] at hg
     unfold dh at hg
     rw [beq_iff_eq.2 h1,hg]
     dsimp only [za,zb,zf,znw,zj,zm,zq,zl,zs,zn,zN,zP,zO,pU8,znu,znv,zk,zg,zc,zh,ze,zA,zv,zr,zo,zM,zL,zI,zJ,zK,len8,zD,zC,zt,zu]
     rw [yH]
     dsimp only [Km,za,zb,zf,znw,zj,zm,zq,zl,zs,zn,zN,zP,zO,pU8,znu,znv,zk,zg,zc,zh,ze,zA,zv,zr,zo,zM,zL,zI,zJ,zK,len8,zD,zC,zt,zu]
     rw [wu]
     dsimp only [za,zb,zf,znw,zj,zm,zq,zl,zs,zn,zN,zP,zO,pU8,znu,znv,zk,zg,zc,zh,ze,zA,zv,zr,zo,zM,zL,zI,zJ,zK,len8,zD,zC,zt,zu]
     by_cases h3:(zbH t lim rest out).e = 0
     ·rw [decide_eq_true h3,if_pos h3,h3]
      exact ih _ _ (by omega) a3 a4 (by omega)
     ·rw [decide_eq_false h3,if_neg h3]
      rfl
    ·have hg:=zeW (t:=t) (out:=out) (lim:=lim) hbr (by omega) (by omega) (by omega)
     have hs:zbH t lim rest out = Zp t rest out lim:=by unfold zbH; rw [if_neg (by omega)]
     rw [← hs] at hg
     unfold dh at hg
     rw [beq_eq_false_iff_ne.2 h1,hg]
     dsimp only [za,zb,zf,znw,zj,zm,zq,zl,zs,zn,zN,zP,zO,pU8,znu,znv,zk,zg,zc,zh,ze,zA,zv,zr,zo,zM,zL,zI,zJ,zK,len8,zD,zC,zt,zu]
     rw [yH]
     dsimp only [Km,za,zb,zf,znw,zj,zm,zq,zl,zs,zn,zN,zP,zO,pU8,znu,znv,zk,zg,zc,zh,ze,zA,zv,zr,zo,zM,zL,zI,zJ,zK,len8,zD,zC,zt,zu]
     rw [wu]
     dsimp only [za,zb,zf,znw,zj,zm,zq,zl,zs,zn,zN,zP,zO,pU8,znu,znv,zk,zg,zc,zh,ze,zA,zv,zr,zo,zM,zL,zI,zJ,zK,len8,zD,zC,zt,zu]
     by_cases h3:(zbH t lim rest out).e = 0
     ·rw [decide_eq_true h3,if_pos h3,h3]
      exact ih _ _ (by omega) a3 a4 (by omega)
     ·rw [decide_eq_false h3,if_neg h3]
      rfl
def zkW:Nat → Int
 | 0 => 0
 | 1 => 11
 | _ + 2 => 10
def zjZ (lim:Int):Int:=if 0 > lim then 0 else lim
def zeC (p:List Int) (lim:Int):Dr:=ziA (zjZ lim) p.length p []
theorem zgZ {p:List Int} (hb:∀ x ∈ p,yE x) (hl:p.length ≤ 1073741824) (lim:Int):ev 101 [.pv (.sl 1 (bs p)),.pv (I lim)] [] = some (.ret (.tup 0 (.slu 5 1 (bs (zeC p lim).o)) [.v .nilIface,I (zkW (zeC p lim).e)]),[]):=by
 have hd:=zmE (lim:=zjZ lim) p.length p [] (Nat.le_refl _) hb (fun x hx => by cases hx) (by show 0 + _ ≤ _; omega)
 have hE:ev 161 [.ptr 0 0] [[.pv (.sl 1 (bs p)),.slu 5 1 [],.pv (I (zjZ lim))]] = some (.ret (.pv (zdD (zeC p lim).e)),dh (zeC p lim).i (zeC p lim).o (zjZ lim)):=(ZO (bs p) [] (zjZ lim)).trans hd
 rw [VF]
 unfold zjZ dh at hE
 rw [hE]
 dsimp only [za,zb,zf,znw,zj,zm,zq,zl,zs,zn,zN,zP,zO,pU8,znu,znv,zk,zg,zc,zh,ze,zA,zv,zr,zo,zM,zL,zI,zJ,zK,len8,zD,zC,zt,zu]
 rw [yH]
 dsimp only [Km,za,zb,zf,znw,zj,zm,zq,zl,zs,zn,zN,zP,zO,pU8,znu,znv,zk,zg,zc,zh,ze,zA,zv,zr,zo,zM,zL,zI,zJ,zK,len8,zD,zC,zt,zu]
 rw [Vb,Vb]
 rcases (zeC p lim).e with _ | _ | e <;> rfl
def zet (p:List Int) (lim:Int):Int:=zkW (zeC p lim).e
def zeu (p:List Int) (lim:Int):List Int:=if (zeC p lim).e = 0 then (zeC p lim).o else []
theorem zll {p:List Int} (hb:∀ x ∈ p,yE x) (hl:p.length ≤ 1073741824) (lim:Int):ev 52 [.pv (.sl 1 (bs p)),.pv (I lim)] [] = some (.ret (.tup 0 (.slu 5 1 (bs (zeu p lim))) [.v .nilIface,I (zet p lim)]),[]):=by
 rw [Q2,zgZ hb hl]
 dsimp only [za,zb,zf,znw,zj,zm,zq,zl,zs,zn,zN,zP,zO,pU8,znu,znv,zk,zg,zc,zh,ze,zA,zv,zr,zo,zM,zL,zI,zJ,zK,len8,zD,zC,zt,zu]
 rw [YF]
 dsimp only [za,zb,zf,znw,zj,zm,zq,zl,zs,zn,zN,zP,zO,pU8,znu,znv,zk,zg,zc,zh,ze,zA,zv,zr,zo,zM,zL,zI,zJ,zK,len8,zD,zC,zt,zu]
 rw [yH]
 dsimp only [za,zb,zf,znw,zj,zm,zq,zl,zs,zn,zN,zP,zO,pU8,znu,znv,zk,zg,zc,zh,ze,zA,zv,zr,zo,zM,zL,zI,zJ,zK,len8,zD,zC,zt,zu]
 unfold zeu zet
 rcases (zeC p lim).e with _ | _ | e <;> rfl
theorem zkG {p:List Int} (hb:∀ x ∈ p,yE x) (lim:Int):(∀ x ∈ zeu p lim,yE x) ∧ (zeu p lim).length ≤ 2056 * p.length:=by
 have h:=ziB (zjZ lim) p.length hb (out:=[]) (fun x hx => by cases hx)
 have a2:=h.lo
 have a3:=h.bo
 unfold zeu
 split
 ·refine ⟨a3,?_⟩
  rw [List.length_nil,Nat.zero_add] at a2
  exact a2
 ·exact ⟨(fun x hx => absurd hx List.not_mem_nil),Nat.zero_le _⟩
theorem zh7 {b:List Int}:∀ (c i:Nat) (rest:List Int) (l:List (List Int)),Ke b c i rest = some l → 8 ∣ rest.length:=by
 intro c
 induction c with
 | zero =>
  intro i rest l h
  rw [Ke] at h
  split at h
  ·rename_i h0
   rw [h0]
   exact ⟨0,rfl⟩
  ·cases h
 | succ c ih =>
  intro i rest l h
  rw [Ke] at h
  split at h
  ·rename_i h1
   cases hq:Ke b c (i + 1) (rest.drop (8 * (le4 b i).toNat)) with
   | none => rw [hq] at h; cases h
   | some t =>
    have:=ih _ _ _ hq
    rw [List.length_drop] at this
    omega
  ·cases h
theorem JQ {b:List Int} {l:List (List Int)} (h:Yt b = some l):8 ≤ b.length ∧ 8 ∣ b.length:=by
 unfold Yt at h
 split at h
 ·cases h
 split at h
 ·cases h
 split at h
 ·cases h
 split at h
 ·cases h
 have h1:=zh7 _ _ _ _ h
 rw [List.length_drop] at h1
 have h2:8 ∣ tbl (le4 b 0 + 1).toNat:=by unfold tbl; split <;> omega
 have h3:(le4 b 0 + 1).toNat = 0 → tbl (le4 b 0 + 1).toNat = 8:=fun h => by rw [h]; rfl
 have h4:4 * (le4 b 0 + 1).toNat + 4 ≤ tbl (le4 b 0 + 1).toNat:=by unfold tbl; split <;> omega
 omega
noncomputable def mP (b:List Int):List Int:=if Yt b = none then [] else pack (xX (b.length / 8) b)
def pE (b:List Int):Int:=if Yt b = none then 1 else 0
theorem zeU {b:List Int} (hb:∀ x ∈ b,yE x) (hl:b.length ≤ 1099511627776):ev 19 [.pv (.sl 1 (bs b))] [] = ok (.tup [.sl 1 (bs (mP b)),I (pE b)]):=by
 rw [Yp,YT hb hl]
 unfold mP pE
 dsimp only [za,zb,zf,znw,zj,zm,zq,zl,zs,zn,zN,zP,zO,pU8,znu,znv,zk,zg,zc,zh,ze,zA,zv,zr,zo,zM,zL,zI,zJ,zK,len8,zD,zC,zt,zu]
 rw [xF]
 cases h:Yt b with
 | none =>
  rw [if_pos rfl,if_pos rfl]
  dsimp only [za,zb,zf,znw,zj,zm,zq,zl,zs,zn,zN,zP,zO,pU8,znu,znv,zk,zg,zc,zh,ze,zA,zv,zr,zo,zM,zL,zI,zJ,zK,len8,zD,zC,zt,zu]
  rw [show (!decide ((1:Int) = 0)) = true from rfl]
  dsimp only [za,zb,zf,znw,zj,zm,zq,zl,zs,zn,zN,zP,zO,pU8,znu,znv,zk,zg,zc,zh,ze,zA,zv,zr,zo,zM,zL,zI,zJ,zK,len8,zD,zC,zt,zu]
  rw [zdW]
  rfl
 | some l =>
  obtain ⟨h1,h2⟩:=JQ h
  rw [if_neg (by simp),if_neg (by simp),decide_eq_true (show (0:Int) = 0 from rfl)]
  dsimp only [za,zb,zf,znw,zj,zm,zq,zl,zs,zn,zN,zP,zO,pU8,znu,znv,zk,zg,zc,zh,ze,zA,zv,zr,zo,zM,zL,zI,zJ,zK,len8,zD,zC,zt,zu]
  rw [zjl hb hl (n:=b.length / 8) (by omega)]
  rfl
noncomputable def uE (p:List Int) (o:Int):Int:=if zet p o ≠ 0 then zet p o else if Yt (zeu p o) = none then 1 else 0
noncomputable def uO (p:List Int) (o:Int):List Int:=if uE p o = 0 then zeu p o else []
theorem zmc {p:List Int} {o:Int} (h:zet p o ≠ 0):uE p o = zet p o ∧ uO p o = []:=by
 have e:uE p o = zet p o:=by unfold uE; rw [if_pos h]
 exact ⟨e,by unfold uO; rw [e,if_neg h]⟩
theorem zi0 {p:List Int} {o:Int} (h:zet p o = 0) (hp:Yt (zeu p o) = none):uE p o = 1 ∧ uO p o = []:=by
 have e:uE p o = 1:=by unfold uE; rw [if_neg (fun x => x h),if_pos hp]
 exact ⟨e,by unfold uO; rw [e,if_neg (by decide)]⟩
theorem zi1 {p:List Int} {o:Int} (h:zet p o = 0) {l:List (List Int)} (hp:Yt (zeu p o) = some l):uE p o = 0 ∧ uO p o = zeu p o:=by
 have e:uE p o = 0:=by unfold uE; rw [if_neg (fun x => x h),hp,if_neg (by simp)]
 exact ⟨e,by unfold uO; rw [e,if_pos rfl]⟩
theorem zeV {p:List Int} (hb:∀ x ∈ p,yE x) (hl:p.length ≤ 65536) (d w o:Int):ev 20 [.pv (.sl 1 (bs p)),.pv (.agg [I d,I w,I o])] [] = ok (.tup [.sl 1 (bs (uO p o)),I (uE p o)]):=by
 obtain ⟨k1,k2⟩:=zkG hb o
 rw [ZF,zll hb (by omega)]
 dsimp only [za,zb,zf,znw,zj,zm,zq,zl,zs,zn,zN,zP,zO,pU8,znu,znv,zk,zg,zc,zh,ze,zA,zv,zr,zo,zM,zL,zI,zJ,zK,len8,zD,zC,zt,zu]
 rw [YF]
 dsimp only [za,zb,zf,znw,zj,zm,zq,zl,zs,zn,zN,zP,zO,pU8,znu,znv,zk,zg,zc,zh,ze,zA,zv,zr,zo,zM,zL,zI,zJ,zK,len8,zD,zC,zt,zu]
 rw [yH]
 dsimp only [za,zb,zf,znw,zj,zm,zq,zl,zs,zn,zN,zP,zO,pU8,znu,znv,zk,zg,zc,zh,ze,zA,zv,zr,zo,zM,zL,zI,zJ,zK,len8,zD,zC,zt,zu]
 by_cases h0:zet p o = 0
 ·rw [h0,show ((0:Int) != 0) = false from rfl]
  dsimp only [za,zb,zf,znw,zj,zm,zq,zl,zs,zn,zN,zP,zO,pU8,znu,znv,zk,zg,zc,zh,ze,zA,zv,zr,zo,zM,zL,zI,zJ,zK,len8,zD,zC,zt,zu]
  rw [YT k1 (by omega)]
  dsimp only [za,zb,zf,znw,zj,zm,zq,zl,zs,zn,zN,zP,zO,pU8,znu,znv,zk,zg,zc,zh,ze,zA,zv,zr,zo,zM,zL,zI,zJ,zK,len8,zD,zC,zt,zu]
  rw [xF]
  cases h:Yt (zeu p o) with
  | none =>
   obtain ⟨e1,e2⟩:=zi0 h0 h
   rw [e1,e2,if_pos rfl,decide_eq_false (show ¬ (1:Int) = 0 by decide)]
   dsimp only [za,zb,zf,znw,zj,zm,zq,zl,zs,zn,zN,zP,zO,pU8,znu,znv,zk,zg,zc,zh,ze,zA,zv,zr,zo,zM,zL,zI,zJ,zK,len8,zD,zC,zt,zu]
   rw [zdW]
   rfl
  | some l =>
   obtain ⟨e1,e2⟩:=zi1 h0 h
   rw [e1,e2,if_neg (by simp),decide_eq_true (show (0:Int) = 0 from rfl)]
   rfl
 ·obtain ⟨e1,e2⟩:=zmc h0
  rw [Vp h0,e1,e2]
  rfl
theorem byte_of {l:List Int} (h:(l.all fun x => decide (0 ≤ x) && decide (x ≤ 255)) = true):∀ x ∈ l,yE x:=by
 intro x hx
 have:=List.all_eq_true.1 h x hx
 rw [Bool.and_eq_true,decide_eq_true_iff,decide_eq_true_iff] at this
 exact this
theorem XJ:ev 130 [.pv (Bo true)] [] = ok (.tup []):=by rw [Za]; rfl
theorem Ji:ev 130 [.pv (Bo false)] [] = some (.pan (.ifc 174 (.agg [])),[]):=by rw [Za]; rfl
theorem zeM {l:List Int} (h:l.length ≤ 17592186044416):ev 27 [.pv (.sl 1 (bs l)),.pv (.sl 1 (bs l))] [] = ok (Bo true):=by
 have:=zjb h h
 rw [Qo rfl] at this
 exact this
def Cd (e:Int):Prop:=e = 0 ∨ (2 ≤ e ∧ e ≤ 8)
theorem cd0:Cd 0:=.inl rfl
theorem cdn {e:Int} (h:2 ≤ e ∧ e ≤ 8):Cd e:=.inr h
theorem zl5 (l:List (List Int)) (a:Int):Cd (sgl l a).2.2.2:=by
 unfold sgl
 split
 ·split
  ·exact cdn (by decide)
  ·exact cd0
 ·exact cdn (by decide)
theorem zlx (l:List (List Int)) (a:Int):Cd (dbl l a).2.2.2:=by
 unfold dbl
 split
 ·split
  ·exact cd0
  ·exact cdn (by decide)
 ·exact cdn (by decide)
theorem zfP (l:List (List Int)) (s a:Int):Cd (fol l s a).2.2.2:=by
 unfold fol
 split
 ·split
  ·split
   ·exact zlx l _
   ·exact zl5 l _
  ·exact cd0
 ·exact cdn (by decide)
theorem W8 {e:Int} (h:Cd e):Cd (bad e).2:=h
theorem zj4 (l:List (List Int)) (s st c:Int):Cd (za1 l s st c).2:=by
 unfold za1
 split
 ·split
  ·exact cd0
  ·exact W8 (cdn (by decide))
 ·exact W8 (cdn (by decide))
theorem zj6 (l:List (List Int)) (s st e c:Int):Cd (zdl l s st e c).2:=by
 unfold zdl
 split
 ·exact zj4 ..
 ·split
  ·exact cd0
  ·exact W8 (cdn (by decide))
theorem zj8 (l:List (List Int)) (s b:Int) (p:PT):Cd (zdm l s b p).2:=by
 unfold zdm
 split
 ·unfold zeg
  split
  ·exact cd0
  ·exact W8 (cdn (by decide))
 ·split
  ·exact zj6 ..
  ·split
   ·exact W8 (cdn (by decide))
   ·exact W8 (cdn (by decide))
theorem zlM (l:List (List Int)) (s a:Int):Cd (obj l s a).2:=by
 unfold obj
 split
 ·split
  ·exact W8 cd0
  ·exact zj8 ..
 ·exact W8 (zfP ..)
theorem zdb {F:Int → Nat → Nd × Int × Int} (hF:∀ m i,Cd (F m i).2.2):∀ c i m acc,Cd (yo F c i m acc).2.2:=by
 intro c
 induction c with
 | zero => intro i m acc; exact cd0
 | succ c ih =>
  intro i m acc
  rw [yo]
  split
  ·exact ih ..
  ·exact hF ..
theorem zdP {t:List Nd × Int × Int} {f:List Nd → Nd} (h:Cd t.2.2):Cd (VH t f).2.2:=h
theorem zdF {F:Int → Int → Int → Nd × Int × Int} (hF:∀ m s a,Cd (F m s a).2.2) (l:List (List Int)) (m:Int) (o:Ob):Cd (yu F l m o).2.2 :=
 zdP (zdb (fun m i => hF ..) ..)
theorem zjH {F:Int → Int → Int → Nd × Int × Int} (hF:∀ m s a,Cd (F m s a).2.2) (l:List (List Int)) (m:Int) (o:Ob):Cd (Qj F l m o).2.2:=by
 unfold Qj
 split
 ·exact cd0
 ·refine zdP (zdb (fun m i => ?_) ..)
  split
  ·exact hF ..
  ·exact zdF hF ..
theorem zjI {F:Int → Int → Int → Nd × Int × Int} (hF:∀ m s a,Cd (F m s a).2.2) (l:List (List Int)) (m:Int) {t:Ob × Int} (h:Cd t.2):Cd (zaB F l m t).2.2:=by
 unfold zaB
 split
 ·split
  ·exact cdn (e:=8) (by decide)
  ·split
   ·exact zdF hF ..
   ·exact zjH hF ..
 ·exact h
theorem zly (l:List (List Int)):∀ D m s a,Cd (den l D m s a).2.2:=by
 intro D
 induction D with
 | zero =>
  intro m s a
  rw [den]
  dsimp only
  split
  ·split
   ·exact cd0
   ·exact cdn (e:=7) (by decide)
  ·exact zfP ..
 | succ D ih =>
  intro m s a
  rw [den]
  dsimp only
  split
  ·split
   ·exact cd0
   ·exact zjI ih l m (zlM ..)
  ·exact zfP ..
theorem zj0 (l:List (List Int)) (d w:Int):Cd (XD l d w):=by
 unfold XD runT
 split
 ·exact cd0
 ·exact zly ..
theorem zjE (e:Nat):zkW e = 0 ∨ zkW e = 11 ∨ zkW e = 10:=by
 rcases e with _ | _ | e
 ·exact .inl rfl
 ·exact .inr (.inl rfl)
 ·exact .inr (.inr rfl)
theorem zmb (p:List Int) (o:Int):(uE p o = 0 ∧ 0 < (uO p o).length) ∨ ((uE p o = 1 ∨ uE p o = 10 ∨ uE p o = 11) ∧ uO p o = []):=by
 by_cases h0:zet p o = 0
 ·cases h:Yt (zeu p o) with
  | none =>
   obtain ⟨e1,e2⟩:=zi0 h0 h
   exact .inr ⟨.inl e1,e2⟩
  | some l =>
   obtain ⟨e1,e2⟩:=zi1 h0 h
   have:=JQ h
   exact .inl ⟨e1,by rw [e2]; omega⟩
 ·obtain ⟨e1,e2⟩:=zmc h0
  have:=zjE (zeC p o).e
  have e3:zet p o = zkW (zeC p o).e:=rfl
  exact .inr ⟨by omega,e2⟩
theorem zhP {l:List Int} (h:0 < l.length):0 < (pack l).length:=by
 cases l with
 | nil => cases h
 | cons w t =>
  unfold pack
  rw [zny,pk]
  split
  ·simp
  ·split
   ·simp
   ·simp
theorem zmS (b:List Int):(pE b = 0 ∧ 0 < (mP b).length ∧ Yt b ≠ none) ∨ (pE b = 1 ∧ mP b = [] ∧ Yt b = none):=by
 unfold pE mP
 by_cases h:Yt b = none
 ·rw [if_pos h,if_pos h]
  exact .inr ⟨rfl,rfl,h⟩
 ·rw [if_neg h,if_neg h]
  obtain ⟨l,hl⟩:=Option.ne_none_iff_exists'.1 h
  have:=JQ hl
  exact .inl ⟨rfl,zhP (by rw [yG]; omega),h⟩
theorem zmR (b:List Int) (d w:Int):0 ≤ mE b d w ∧ mE b d w ≤ 8 ∧ (mE b d w = 1 ↔ Yt b = none) ∧ (mE b d w = 0 → 0 < (zjx b d w).length) ∧ (mE b d w ≠ 0 → zjx b d w = [] ∧ mH b d w = 0):=by
 unfold mE zjx mH
 cases h:Yt b with
 | none =>
  dsimp only
  exact ⟨by decide,by decide,⟨fun _ => rfl,fun _ => rfl⟩,fun h => absurd h (by decide),fun _ => ⟨rfl,rfl⟩⟩
 | some l =>
  have hc:=zj0 l d w
  unfold Cd at hc
  dsimp only
  refine ⟨by omega,by omega,⟨fun h => by omega,fun h => by cases h⟩,fun h0 => ?_,fun h0 => ?_⟩
  ·rw [if_pos h0,zh8]
   omega
  ·rw [if_neg h0]
   exact ⟨rfl,by unfold hsh; rw [if_neg h0]⟩
theorem zgs (b:List Int) (d w:Int):eqM b b d w = decide (mE b d w = 0) ∧ mEE b b d w = mE b d w:=by
 unfold eqM mEE
 by_cases h:mE b d w = 0
 ·rw [if_pos ⟨h,h⟩,if_pos h,Qo rfl,decide_eq_true h]
  exact ⟨rfl,rfl⟩
 ·rw [if_neg (fun x => h x.1),if_neg h,decide_eq_false h]
  exact ⟨rfl,rfl⟩
theorem XC {l:List Int} (h:0 < l.length):decide (((bs l).length:Int) > 0) = true:=decide_eq_true (by rw [ya]; omega)
theorem X2 (haw:ev 14 [] [] = ok (Bo true)) {b:List Int} (hb:Bytes b) (d w o:Int):ev 3 [.pv (.sl 1 (bs b)),.pv (.agg [I d,I w,I o])] [] = ok (Bo true):=by
 obtain ⟨bb,eb,cb⟩:=zeN hb.2 d w o
 rw [ZS,haw]
 dsimp only [za,zb,zf,znw,zj,zm,zq,zl,zs,zn,zN,zP,zO,pU8,znu,znv,zk,zg,zc,zh,ze,zA,zv,zr,zo,zM,zL,zI,zJ,zK,len8,zD,zC,zt,zu]
 rw [eb]
 dsimp only [za,zb,zf,znw,zj,zm,zq,zl,zs,zn,zN,zP,zO,pU8,znu,znv,zk,zg,zc,zh,ze,zA,zv,zr,zo,zM,zL,zI,zJ,zK,len8,zD,zC,zt,zu]
 cases bb with
 | false => rfl
 | true =>
  obtain ⟨hl,hd,hw⟩:=cb rfl
  have hlB:b.length ≤ 1099511627776:=by omega
  obtain ⟨a1,a2,a3,a4,a5⟩:=zmR b d w
  obtain ⟨s1,s2⟩:=zgs b d w
  dsimp only [za,zb,zf,znw,zj,zm,zq,zl,zs,zn,zN,zP,zO,pU8,znu,znv,zk,zg,zc,zh,ze,zA,zv,zr,zo,zM,zL,zI,zJ,zK,len8,zD,zC,zt,zu]
  by_cases ho:o > 100000
  ·rw [decide_eq_true ho]
   rfl
  rw [decide_eq_false ho]
  dsimp only [za,zb,zf,znw,zj,zm,zq,zl,zs,zn,zN,zP,zO,pU8,znu,znv,zk,zg,zc,zh,ze,zA,zv,zr,zo,zM,zL,zI,zJ,zK,len8,zD,zC,zt,zu]
  rw [zeH hb.2 hlB (by omega) (by omega)]
  dsimp only [za,zb,zf,znw,zj,zm,zq,zl,zs,zn,zN,zP,zO,pU8,znu,znv,zk,zg,zc,zh,ze,zA,zv,zr,zo,zM,zL,zI,zJ,zK,len8,zD,zC,zt,zu]
  rw [YF]
  dsimp only [za,zb,zf,znw,zj,zm,zq,zl,zs,zn,zN,zP,zO,pU8,znu,znv,zk,zg,zc,zh,ze,zA,zv,zr,zo,zM,zL,zI,zJ,zK,len8,zD,zC,zt,zu]
  rw [yH]
  dsimp only [za,zb,zf,znw,zj,zm,zq,zl,zs,zn,zN,zP,zO,pU8,znu,znv,zk,zg,zc,zh,ze,zA,zv,zr,zo,zM,zL,zI,zJ,zK,len8,zD,zC,zt,zu]
  rw [zjh hb.2 hlB (by omega) (by omega)]
  dsimp only [za,zb,zf,znw,zj,zm,zq,zl,zs,zn,zN,zP,zO,pU8,znu,znv,zk,zg,zc,zh,ze,zA,zv,zr,zo,zM,zL,zI,zJ,zK,len8,zD,zC,zt,zu]
  rw [zgY hb.2 hlB hb.2 hlB (by omega) (by omega)]
  dsimp only [za,zb,zf,znw,zj,zm,zq,zl,zs,zn,zN,zP,zO,pU8,znu,znv,zk,zg,zc,zh,ze,zA,zv,zr,zo,zM,zL,zI,zJ,zK,len8,zD,zC,zt,zu]
  rw [zeU hb.2 hlB]
  dsimp only [za,zb,zf,znw,zj,zm,zq,zl,zs,zn,zN,zP,zO,pU8,znu,znv,zk,zg,zc,zh,ze,zA,zv,zr,zo,zM,zL,zI,zJ,zK,len8,zD,zC,zt,zu]
  rw [zeV hb.2 (by omega)]
  dsimp only [za,zb,zf,znw,zj,zm,zq,zl,zs,zn,zN,zP,zO,pU8,znu,znv,zk,zg,zc,zh,ze,zA,zv,zr,zo,zM,zL,zI,zJ,zK,len8,zD,zC,zt,zu]
  rw [s1,s2,decide_eq_false (show ¬ mE b d w < 0 by omega),decide_eq_false (show ¬ mE b d w > 8 by omega),show (mE b d w != mE b d w) = false from by simp]
  dsimp only [za,zb,zf,znw,zj,zm,zq,zl,zs,zn,zN,zP,zO,pU8,znu,znv,zk,zg,zc,zh,ze,zA,zv,zr,zo,zM,zL,zI,zJ,zK,len8,zD,zC,zt,zu]
  rcases zmS b with ⟨p1,p2,p3⟩ | ⟨p1,p2,p3⟩
  ·rw [p1,XC p2,show ((0:Int) != 0) = false from rfl,show ((0:Int) == 0) = true from rfl,show ((0:Int) == 1) = false from rfl]
   have n1:¬ mE b d w = 1:=fun h => p3 (a3.1 h)
   rw [beq_eq_false_iff_ne.2 n1]
   rcases zmb b o with ⟨q1,q2⟩ | ⟨q1,q2⟩
   ·rw [q1,XC q2]
    by_cases h0:mE b d w = 0
    ·rw [XC (a4 h0),h0]
     rfl
    ·rw [(a5 h0).1,(a5 h0).2,beq_eq_false_iff_ne.2 h0,decide_eq_false h0]
     rfl
   ·rw [q2]
    rcases q1 with q1 | q1 | q1
    ·rw [q1]
     by_cases h0:mE b d w = 0
     ·rw [XC (a4 h0),h0]
      rfl
     ·rw [(a5 h0).1,(a5 h0).2,beq_eq_false_iff_ne.2 h0,decide_eq_false h0]
      rfl
    ·rw [q1]
     by_cases h0:mE b d w = 0
     ·rw [XC (a4 h0),h0]
      rfl
     ·rw [(a5 h0).1,(a5 h0).2,beq_eq_false_iff_ne.2 h0,decide_eq_false h0]
      rfl
    ·rw [q1]
     by_cases h0:mE b d w = 0
     ·rw [XC (a4 h0),h0]
      rfl
     ·rw [(a5 h0).1,(a5 h0).2,beq_eq_false_iff_ne.2 h0,decide_eq_false h0]
      rfl
  ·have h1:=a3.2 p3
   have h0:mE b d w ≠ 0:=by rw [h1]; decide
   rw [p1,p2,(a5 h0).1,(a5 h0).2,h1]
   rcases zmb b o with ⟨q1,q2⟩ | ⟨q1,q2⟩
   ·rw [q1,XC q2]
    rfl
   ·rw [q2]
    rcases q1 with q1 | q1 | q1 <;> rw [q1] <;> rfl
theorem zlw (a b c d e f:AV):decide ([a,b,c,d,e,f].length = 6) = true:=rfl
def ch (W:List Int) (nx d w o m:Int):zX:=[[.pv (.sl 1 (ws W)),.pv (I nx),.pv (I d),.pv (I w),.pv (I o),.pv (I m)]]
theorem zk9 {W:List Int} (hW:xq [W]) {nx d w o m at_ n:Int} {p:PT} (ha:0 ≤ at_ ∧ at_ ≤ 1099511627776) (hp:-536870912 ≤ p.2.1 ∧ p.2.1 ≤ 536870911) (hnx:0 ≤ nx ∧ nx ≤ 1099511627776) (hn:0 ≤ n ∧ n ≤ 1099511627776):ev 246 [.ptr 0 0,.pv (I at_),.pv (.agg (ptc p)),.pv (I n)] (ch W nx d w o m) = if at_ + 1 + p.2.1 = nx ∧ inB [W] 0 nx n then some (.ret (.pv (I nx)),ch W (nx + n) d w o m) else some (.pan (.ifc 174 (.agg [])),ch W nx d w o m):=by
 unfold ptc ch
 rw [vt,w64 (x:=at_ + 1) (by omega),w64 (x:=at_ + 1 + p.2.1) (by omega),w64 (x:=nx + n) (by omega)]
 by_cases h1:at_ + 1 + p.2.1 = nx
 ·have hb:=Zu hW 0 nx n
  have hb':ev 286 [.pv (.sl 1 [.sl 1 (ws W)]),.pv (I 0),.pv (I nx),.pv (I n)] [] = ok (Bo (decide (inB [W] 0 nx n))):=hb
  rw [h1,beq_iff_eq.2 rfl]
  dsimp only [za,zb,zf,znw,zj,zm,zq,zl,zs,zn,zN,zP,zO,pU8,znu,znv,zk,zg,zc,zh,ze,zA,zv,zr,zo,zM,zL,zI,zJ,zK,len8,zD,zC,zt,zu]
  rw [hb']
  dsimp only [za,zb,zf,znw,zj,zm,zq,zl,zs,zn,zN,zP,zO,pU8,znu,znv,zk,zg,zc,zh,ze,zA,zv,zr,zo,zM,zL,zI,zJ,zK,len8,zD,zC,zt,zu]
  by_cases h2:inB [W] 0 nx n
  ·rw [decide_eq_true h2,if_pos ⟨rfl,h2⟩,XJ]
   rfl
  ·rw [decide_eq_false h2,if_neg (fun h => h2 h.2),Ji]
   rfl
 ·rw [beq_eq_false_iff_ne.2 h1,if_neg (fun h => h1 h.1)]
  dsimp only [za,zb,zf,znw,zj,zm,zq,zl,zs,zn,zN,zP,zO,pU8,znu,znv,zk,zg,zc,zh,ze,zA,zv,zr,zo,zM,zL,zI,zJ,zK,len8,zD,zC,zt,zu]
  rw [Ji]
  rfl
theorem zk8 {W:List Int} {nx d w o m c:Int} (hm:0 ≤ m ∧ m ≤ 1099511627776) (hc:0 ≤ c ∧ c ≤ 1099511627776):ev 247 [.ptr 0 0,.pv (I c)] (ch W nx d w o m) = if c > m then some (.pan (.ifc 174 (.agg [])),ch W nx d w o m) else some (.ret (.pv (.tup [])),ch W nx d w o (m - c)):=by
 unfold ch
 rw [vq,zcA m c (by omega)]
 dsimp only [za,zb,zf,znw,zj,zm,zq,zl,zs,zn,zN,zP,zO,pU8,znu,znv,zk,zg,zc,zh,ze,zA,zv,zr,zo,zM,zL,zI,zJ,zK,len8,zD,zC,zt,zu]
 by_cases h:c > m
 ·rw [if_pos h,if_pos h,if_pos h,show ((8:Int) == 0) = false from rfl,Ji]
  rfl
 ·rw [if_neg h,if_neg h,if_neg h,show ((0:Int) == 0) = true from rfl,XJ]
  rfl
theorem zjf {W:List Int} {nx d w o m a x:Int}:ev 248 [.ptr 0 0,.pv (I a),.pv (I 0),.pv (I x)] (ch W nx d w o m) = some (.ret (.pv (.tup [])),ch W nx d w o m):=by
 unfold ch
 rw [wT,wm]
 rfl
def p5:PT:=(0,0,1,0,0,0,false,0,0,0)
theorem cs5:ev 193 [.ptr 0 0,.pv (I 0),.pv (I 1),.pv (.agg (ptc p5))] (ch [4294967296,5] 1 5 100 100 100) = some (.ret (.pv (.tup [])),ch [4294967296,5] 2 5 100 100 99):=by
 have h1:=zk9 (W:=[4294967296,5]) j2.1 (nx:=1) (d:=5) (w:=100) (o:=100) (m:=100) (at_:=0) (n:=1) (p:=p5) (by decide) (by decide) (by decide) (by decide)
 rw [if_pos (by decide)] at h1
 have h2:=zk8 (W:=[4294967296,5]) (nx:=2) (d:=5) (w:=100) (o:=100) (m:=100) (c:=1) (by decide) (by decide)
 rw [if_neg (by decide)] at h2
 have h3:=zjf (W:=[4294967296,5]) (nx:=2) (d:=5) (w:=100) (o:=100) (m:=99) (a:=2) (x:=1)
 unfold ch ptc p5 at h1
 unfold ch at h2 h3
 dsimp only at h1
 unfold ch ptc p5
 dsimp only
 rw [wL,show IntKind.wrap .i64 (1 + 0) = 1 from rfl,show ((1:Int) == 0) = false from rfl,h1]
 dsimp only [zlw,za,zb,zf,znw,zj,zm,zq,zl,zs,zn,zN,zP,zO,pU8,znu,znv,zk,zg,zc,zh,ze,zA,zv,zr,zo,zM,zL,zI,zJ,zK,len8,zD,zC,zt,zu]
 have h2':ev 247 [.ptr 0 0,.pv (I 1)] [[.pv (.sl 1 (ws [4294967296,5])),.pv (I (1 + 1)),.pv (I 5),.pv (I 100),.pv (I 100),.pv (I 100)]] = some (.ret (.pv (.tup [])),[[.pv (.sl 1 (ws [4294967296,5])),.pv (I 2),.pv (I 5),.pv (I 100),.pv (I 100),.pv (I 99)]]):=h2
 rw [h2']
 dsimp only [zlw,za,zb,zf,znw,zj,zm,zq,zl,zs,zn,zN,zP,zO,pU8,znu,znv,zk,zg,zc,zh,ze,zA,zv,zr,zo,zM,zL,zI,zJ,zK,len8,zD,zC,zt,zu]
 rw [show IntKind.wrap .i64 (IntKind.wrap .i64 (1 + 1) - 1) = 1 from rfl,show decide ((1:Nat) = 1) = true from rfl,show decide ((0:Int) ≤ 1) = true from rfl,show decide ((1:Int) < ((ws [4294967296,5]).length:Int)) = true from rfl,show (ws [4294967296,5])[(1:Int).toNat]? = some (U 5) from rfl]
 dsimp only [za,zb,zf,znw,zj,zm,zq,zl,zs,zn,zN,zP,zO,pU8,znu,znv,zk,zg,zc,zh,ze,zA,zv,zr,zo,zM,zL,zI,zJ,zK,len8,zD,zC,zt,zu]
 rw [show ((5:Int) != 0) = true from rfl,XJ]
 dsimp only [za,zb,zf,znw,zj,zm,zq,zl,zs,zn,zN,zP,zO,pU8,znu,znv,zk,zg,zc,zh,ze,zA,zv,zr,zo,zM,zL,zI,zJ,zK,len8,zD,zC,zt,zu]
 rw [show ((0:Int) == 0) = true from rfl,show IntKind.wrap .i64 (1 + 1) = 2 from rfl]
 dsimp only [za,zb,zf,znw,zj,zm,zq,zl,zs,zn,zN,zP,zO,pU8,znu,znv,zk,zg,zc,zh,ze,zA,zv,zr,zo,zM,zL,zI,zJ,zK,len8,zD,zC,zt,zu]
 rw [h3]
 rfl
theorem cv5:ev 132 [.ptr 0 0,.pv (I 0),.pv (I 1)] (ch [4294967296,5] 1 5 100 100 100) = some (.ret (.pv (.tup [])),ch [4294967296,5] 2 5 100 100 99):=by
 have hs:=cs5
 have hd:=yS (a:=4294967296) (by unfold wO; omega)
 rw [show vO 4294967296 = p5 from by kernel_rfl] at hd
 unfold ptc p5 at hd hs
 unfold ch at hs ⊢
 dsimp only at hd hs
 rw [vJ,show decide ((0:Int) ≤ 0) = true from rfl,show decide ((0:Int) < ((ws [4294967296,5]).length:Int)) = true from rfl,show (ws [4294967296,5])[(0:Int).toNat]? = some (U 4294967296) from rfl]
 dsimp only [za,zb,zf,znw,zj,zm,zq,zl,zs,zn,zN,zP,zO,pU8,znu,znv,zk,zg,zc,zh,ze,zA,zv,zr,zo,zM,zL,zI,zJ,zK,len8,zD,zC,zt,zu]
 rw [xN,show ((4294967296:Int) == 0) = false from rfl]
 dsimp only [za,zb,zf,znw,zj,zm,zq,zl,zs,zn,zN,zP,zO,pU8,znu,znv,zk,zg,zc,zh,ze,zA,zv,zr,zo,zM,zL,zI,zJ,zK,len8,zD,zC,zt,zu]
 rw [zbJ,if_neg (by decide)]
 dsimp only [za,zb,zf,znw,zj,zm,zq,zl,zs,zn,zN,zP,zO,pU8,znu,znv,zk,zg,zc,zh,ze,zA,zv,zr,zo,zM,zL,zI,zJ,zK,len8,zD,zC,zt,zu]
 rw [show ((0:Int) == 0) = true from rfl,XJ]
 dsimp only [za,zb,zf,znw,zj,zm,zq,zl,zs,zn,zN,zP,zO,pU8,znu,znv,zk,zg,zc,zh,ze,zA,zv,zr,zo,zM,zL,zI,zJ,zK,len8,zD,zC,zt,zu]
 rw [hd]
 dsimp only [za,zb,zf,znw,zj,zm,zq,zl,zs,zn,zN,zP,zO,pU8,znu,znv,zk,zg,zc,zh,ze,zA,zv,zr,zo,zM,zL,zI,zJ,zK,len8,zD,zC,zt,zu]
 rw [show ((0:Int) == 0) = true from rfl]
 dsimp only [za,zb,zf,znw,zj,zm,zq,zl,zs,zn,zN,zP,zO,pU8,znu,znv,zk,zg,zc,zh,ze,zA,zv,zr,zo,zM,zL,zI,zJ,zK,len8,zD,zC,zt,zu]
 rw [hs]
 rfl
theorem cw5:ev 76 [.pv (.sl 1 [U 4294967296,U 5]),.pv (.agg [I 5,I 100,I 100])] [] = ok (Bo true):=by
 have hv:=cv5
 unfold ch at hv
 have hv':ev 132 [.ptr 0 0,.pv (I 0),.pv (I 1)] [[.pv (.sl 1 [U 4294967296,U 5]),.pv (I 1),.pv (I 5),.pv (I 100),.pv (I 100),.pv (I (max 100 0))]] = some (.ret (.pv (.tup [])),[[.pv (.sl 1 [U 4294967296,U 5]),.pv (I 2),.pv (I 5),.pv (I 100),.pv (I 100),.pv (I 99)]]):=hv
 rw [Xq,show decide ((([U 4294967296,U 5]:List PV).length:Int) > 0) = true from rfl,XJ,zbM]
 dsimp only [za,zb,zf,znw,zj,zm,zq,zl,zs,zn,zN,zP,zO,pU8,znu,znv,zk,zg,zc,zh,ze,zA,zv,zr,zo,zM,zL,zI,zJ,zK,len8,zD,zC,zt,zu]
 rw [hv']
 rfl
def five:List Int:=[0,0,0,0,2,0,0,0,0,0,0,0,1,0,0,0,5,0,0,0,0,0,0,0]
def pfv:List Int:=[16,2,16,1,1,5]
theorem zfM:∀ x ∈ five,yE x:=byte_of rfl
theorem zmU:∀ x ∈ pfv,yE x:=byte_of rfl
theorem zfN:five.length ≤ 1099511627776:=by show 24 ≤ 1099511627776; decide
theorem t5a:ev 16 [.pv (.sl 1 (bs five)),.pv (.agg [I 5,I 100,I 100])] [] = some (.ret (.tup 0 (.slu 5 1 (bs five)) [.v .nilIface,I 0]),[]):=by
 rw [zeH zfM zfN (d:=5) (w:=100) (o:=100) (by decide) (by decide),show zjx five 5 100 = five from by kernel_rfl,show mE five 5 100 = 0 from by kernel_rfl]
theorem t5b:ev 19 [.pv (.sl 1 (bs five))] [] = ok (.tup [.sl 1 (bs pfv),I 0]):=by
 rw [zeU zfM zfN,show mP five = pfv from by kernel_rfl,show pE five = 0 from by kernel_rfl]
theorem t5c:ev 52 [.pv (.sl 1 (bs pfv)),.pv (I 100)] [] = some (.ret (.tup 0 (.slu 5 1 (bs five)) [.v .nilIface,I 0]),[]):=by
 rw [zll zmU (by decide) 100,show zeu pfv 100 = five from by kernel_rfl,show zet pfv 100 = 0 from by kernel_rfl]
theorem t5d:ev 35 [.pv (.sl 1 (bs five)),.pv (.agg [I 5,I 100,I 100])] [] = ok (Bo true):=by
 rw [Yo,YT zfM zfN,zgX (by decide) (by decide),show Yt five = some [[4294967296,5]] from by kernel_rfl,if_neg (by simp),Option.getD_some]
 dsimp only [za,zb,zf,znw,zj,zm,zq,zl,zs,zn,zN,zP,zO,pU8,znu,znv,zk,zg,zc,zh,ze,zA,zv,zr,zo,zM,zL,zI,zJ,zK,len8,zD,zC,zt,zu]
 rw [xF]
 show zE (ev 76 [.pv (.sl 1 [U 4294967296,U 5]),.pv (.agg [I 5,I 100,I 100])] []) _ _ = _
 rw [cw5]
 rfl
theorem zgU:ev 14 [] [] = ok (Bo true):=by
 have c1:ev 16 [.pv (.sl 1 [U8 0,U8 0,U8 0,U8 0,U8 2,U8 0,U8 0,U8 0,U8 0,U8 0,U8 0,U8 0,U8 1,U8 0,U8 0,U8 0,U8 5,U8 0,U8 0,U8 0,U8 0,U8 0,U8 0,U8 0]),.pv (.agg [I 5,I 100,I 100])] [] = some (.ret (.tup 0 (.slu 5 1 [U8 0,U8 0,U8 0,U8 0,U8 2,U8 0,U8 0,U8 0,U8 0,U8 0,U8 0,U8 0,U8 1,U8 0,U8 0,U8 0,U8 5,U8 0,U8 0,U8 0,U8 0,U8 0,U8 0,U8 0]) [.v .nilIface,I 0]),[]):=t5a
 have c2:ev 19 [.pv (.sl 1 [U8 0,U8 0,U8 0,U8 0,U8 2,U8 0,U8 0,U8 0,U8 0,U8 0,U8 0,U8 0,U8 1,U8 0,U8 0,U8 0,U8 5,U8 0,U8 0,U8 0,U8 0,U8 0,U8 0,U8 0])] [] = ok (.tup [.sl 1 [U8 16,U8 2,U8 16,U8 1,U8 1,U8 5],I 0]):=t5b
 have c3:ev 52 [.pv (.sl 1 [U8 16,U8 2,U8 16,U8 1,U8 1,U8 5]),.pv (I 100)] [] = some (.ret (.tup 0 (.slu 5 1 [U8 0,U8 0,U8 0,U8 0,U8 2,U8 0,U8 0,U8 0,U8 0,U8 0,U8 0,U8 0,U8 1,U8 0,U8 0,U8 0,U8 5,U8 0,U8 0,U8 0,U8 0,U8 0,U8 0,U8 0]) [.v .nilIface,I 0]),[]):=t5c
 have c4:ev 35 [.pv (.sl 1 [U8 0,U8 0,U8 0,U8 0,U8 2,U8 0,U8 0,U8 0,U8 0,U8 0,U8 0,U8 0,U8 1,U8 0,U8 0,U8 0,U8 5,U8 0,U8 0,U8 0,U8 0,U8 0,U8 0,U8 0]),.pv (.agg [I 5,I 100,I 100])] [] = ok (Bo true):=t5d
 have s1:ev 27 [.pv (.sl 1 [U8 0,U8 0,U8 0,U8 0,U8 2,U8 0,U8 0,U8 0,U8 0,U8 0,U8 0,U8 0,U8 1,U8 0,U8 0,U8 0,U8 5,U8 0,U8 0,U8 0,U8 0,U8 0,U8 0,U8 0]),.pv (.sl 1 [U8 0,U8 0,U8 0,U8 0,U8 2,U8 0,U8 0,U8 0,U8 0,U8 0,U8 0,U8 0,U8 1,U8 0,U8 0,U8 0,U8 5,U8 0,U8 0,U8 0,U8 0,U8 0,U8 0,U8 0])] [] = ok (Bo true):=zeM (l:=five) (by decide)
 have s2:ev 27 [.pv (.sl 1 [U8 16,U8 2,U8 16,U8 1,U8 1,U8 5]),.pv (.sl 1 [U8 16,U8 2,U8 16,U8 1,U8 1,U8 5])] [] = ok (Bo true):=zeM (l:=pfv) (by decide)
 rw [Ww,c1,c2,c4]
 dsimp only [za,zb,zf,znw,zj,zm,zq,zl,zs,zn,zN,zP,zO,pU8,znu,znv,zk,zg,zc,zh,ze,zA,zv,zr,zo,zM,zL,zI,zJ,zK,len8,zD,zC,zt,zu]
 rw [YF]
 dsimp only [za,zb,zf,znw,zj,zm,zq,zl,zs,zn,zN,zP,zO,pU8,znu,znv,zk,zg,zc,zh,ze,zA,zv,zr,zo,zM,zL,zI,zJ,zK,len8,zD,zC,zt,zu]
 rw [yH]
 dsimp only [za,zb,zf,znw,zj,zm,zq,zl,zs,zn,zN,zP,zO,pU8,znu,znv,zk,zg,zc,zh,ze,zA,zv,zr,zo,zM,zL,zI,zJ,zK,len8,zD,zC,zt,zu]
 rw [c3]
 dsimp only [za,zb,zf,znw,zj,zm,zq,zl,zs,zn,zN,zP,zO,pU8,znu,znv,zk,zg,zc,zh,ze,zA,zv,zr,zo,zM,zL,zI,zJ,zK,len8,zD,zC,zt,zu]
 rw [YF]
 dsimp only [za,zb,zf,znw,zj,zm,zq,zl,zs,zn,zN,zP,zO,pU8,znu,znv,zk,zg,zc,zh,ze,zA,zv,zr,zo,zM,zL,zI,zJ,zK,len8,zD,zC,zt,zu]
 rw [yH]
 dsimp only [za,zb,zf,znw,zj,zm,zq,zl,zs,zn,zN,zP,zO,pU8,znu,znv,zk,zg,zc,zh,ze,zA,zv,zr,zo,zM,zL,zI,zJ,zK,len8,zD,zC,zt,zu]
 rw [show ((0:Int) == 0) = true from rfl,s1,s2]
 rfl
theorem Qy {b:List Int} (hb:Bytes b) (d w o:Int):ev 3 [.pv (.sl 1 (bs b)),.pv (.agg [I d,I w,I o])] [] = ok (Bo true):=X2 zgU hb d w o
end Go.Proofs.YtjbjeeoifhegfaaGreatDoor.E
