/- This text is one of those that prove the law MessagePack of the given program, as its statement says it: true on every input that the statement covers. Its conditions are the statement's own. -/
import Derived.Below
import Derived.ProofKit
import Derived.OpenShut
import Derived.Stop.Joined
import Derived.LaidMore
import Derived.Deep.Slices
import Derived.Test.YtjbjeeoifhegfaaGreatDoorRows
import Derived.Maps.OwnSet
import Derived.Maps.Keyed
import Derived.LaidSub
import Derived.Lib.LaidTab
import Derived.WalkKit
import Derived.LaidEql
import Derived.Stop.Asserts
import Derived.RowKitTokens
import Derived.Stop.LaidTwo
import Derived.LaidHandle
import Derived.Test.YtjbjeeoifhegfaaGreatDoorZMessagePack1
import Derived.Test.YtjbjeeoifhegfaaGreatDoorZMessagePack2
import Derived.Test.YtjbjeeoifhegfaaGreatDoorZMessagePack3
import Derived.Test.YtjbjeeoifhegfaaGreatDoorZMessagePack4
import Derived.Test.YtjbjeeoifhegfaaGreatDoorZMessagePack5
import Derived.Test.YtjbjeeoifhegfaaGreatDoorZMessagePack6
import Derived.Test.YtjbjeeoifhegfaaGreatDoorZMessagePack7
import Derived.Test.YtjbjeeoifhegfaaGreatDoorZMessagePack8
import Derived.Test.YtjbjeeoifhegfaaGreatDoorZMessagePack9
import Derived.Test.YtjbjeeoifhegfaaGreatDoorZMessagePack10
import Derived.Test.YtjbjeeoifhegfaaGreatDoorZMessagePack11
set_option linter.unusedVariables false
set_option linter.unusedSimpArgs false
open List renaming getElem?_cons_zero → zpg
open List renaming getElem?_cons_succ → zph
open Option renaming bind_some → zpi
open List renaming length_append → zpj
open List renaming length_cons → zpk
open List renaming nil_append → zpl
open Option.some renaming injEq → zpn
namespace Go.Proofs.YtjbjeeoifhegfaaGreatDoor.E
open Go.RowKit
def g0 (w:World):Nat → Option (Array Value):=fun b => match w.heap[b]? with
 | some (.cells c _ _) => some c
 | _ => none
def G0 (w:World):Gh:=⟨g0 w,fun _ => none,fun b => if b < w.heap.size then some .imm else none⟩
theorem zlp {w:World} {b:Nat} {c:Array Value} (h:g0 w b = some c):∃ T f,w.heap[b]? = some (.cells c T f):=by
 unfold g0 at h
 split at h
 ·rename_i c' T f hb; cases h; exact ⟨T,f,hb⟩
 ·cases h
theorem YB {w:World} {a:Addr} {u:Value} (h:w.cell? a = some u):a.spot = none ∧ ∃ c,g0 w a.block = some c ∧ c[a.off]? = some u:=by
 unfold World.cell? at h
 split at h
 ·rename_i c T f hb
  cases hs:a.spot with
  | some s => simp [hs] at h
  | none => simp only [hs,Option.isSome_none,Bool.false_eq_true,if_false] at h; exact ⟨rfl,c,by unfold g0; rw [hb],h⟩
 ·cases h
theorem zpf {P:Program} {E:Env} {w:World} (hmaps:∀ g l,find E.maps g = some l → ∃ v c,g0 w g = some c ∧ c[0]? = some v ∧ MRel P E (G0 w) w g v) (hglob:∀ g p,find E.glob g = some p → ERel (G0 w) p 0 (.pointer (some ⟨g,0,none⟩)))
  (hsen:∀ g,find E.glob g = some (.sen g) → ∃ c a ca ta,g0 w g = some c ∧ c[0]? = some (.iface E.sty (.pointer (some a))) ∧ w.heap[a.block]? = some (.cells ca ta (0,0)))
  (hdst:∀ g1 g2 c1 c2,find E.glob g1 = some (.sen g1) → find E.glob g2 = some (.sen g2) → g1 ≠ g2 → g0 w g1 = some c1 → g0 w g2 = some c2 → c1[0]? ≠ c2[0]?)
  (hfix:∀ g v,find E.fix g = some v → ∃ c,g0 w g = some c ∧ c[0]? = some v):WOk P E (G0 w) w:=by
 refine ⟨fun b c hb => ?_,fun b h hb => ?_,hmaps,hglob,fun g hg => by
  obtain ⟨c,a,ca,ta,h1,h2,h3⟩:=hsen g hg
  exact ⟨c,a,ca,ta,h1,h2,if_pos (Array.getElem?_eq_some_iff.1 h3).1,h3⟩,hdst,hfix⟩
 ·obtain ⟨T,f,h⟩:=zlp hb
  exact ⟨if_pos (Array.getElem?_eq_some_iff.1 h).1,T,f,h⟩
 ·by_cases hl:b < w.heap.size
  ·exact hl
  ·rw [show (G0 w).ka b = none from if_neg hl] at hb; cases hb
theorem zc3 {w w':World} {G':Gh} (f:Fr (G0 w) w G' w' X0):Below w.heap.size w w' :=
 ⟨f.os,f.tape,f.output,f.size,fun k hk => (f.ka k .imm (if_pos hk) X0_old.1).2⟩
theorem zjI {P:Program} {E:Env} {fns:List (Nat × Func)} (hm:P.follows .mixedOrders = true) (hS:SysOk P E) (hfn:∀ f fn,find fns f = some fn → P.funcs[f]? = some fn ∧ fn.body.isSome = true ∧ (fn.name == "runtime.NumGoroutine") = false) (zms:zkD P E)
  {w:World} (hw:WOk P E (G0 w) w) {f:Nat} {ps:List PV} {vs:Array Value} (hsz:vs.size = ps.length) (hps:∀ (j:Nat) (p:PV) (x:Value),ps[j]? = some p → vs[j]? = some x → PRep (g0 w) p x)
  (hv:val E fns f (ps.map .pv) [] = some (.ret (.pv (.v (.bool true))),[])):Calls P f vs w fun e w' => e = .returned (.bool true) ∧ Below w.heap.size w w':=by
 obtain ⟨k,hk⟩:=zjY hv
 refine ((zg8 hm hS hfn zms k).1 f _ _ _ _ hk (G0 w) w vs ⟨hw,fun l cs hl => (by simp at hl),fun l b hb => (by cases hb),(by simpa using hsz),fun j q x hq hx => ?_⟩).mono fun e w' he => ?_
 ·rw [List.getElem?_map] at hq
  cases hj:ps[j]? with
  | none => simp [hj] at hq
  | some p =>
   simp only [hj,Option.map_some,zpn] at hq
   subst hq
   exact .inl ⟨rfl,fun _ => hps j p x hj hx⟩
 ·obtain ⟨G',f',_,_,_,ho⟩:=he
  refine ⟨?_,zc3 f'⟩
  cases e with
  | returned v =>
   have:PRep G'.g (.v (.bool true)) v:=ho
   rw [VK this]
  | panicked c => exact ho.elim
  | outgrown => exact ho.elim
structure Enc (α:Type) where
 cells:α → List PV
 sz:Nat
 agg:Bool
 len:∀ a,(cells a).length = sz
 one:agg = false → sz = 1
def Enc.pv {α:Type} (e:Enc α) (a:α):PV:=if e.agg then .agg (e.cells a) else (e.cells a).headD (.v .nilFunc)
def RdsAt {H α:Type} (enc:TypeId × Value → H) (P:Program) (w:World) (n:Nat) (t:TypeId) (e:Enc α) (S:α → DataW H → Prop):Prop :=
 ∀ cs x,DataW.trod enc P w 0 (fun _ => true) true n t cs = some x → ∃ a,cs.length = e.sz ∧ (∀ (j:Nat) (q:PV) (u:Value),(e.cells a)[j]? = some q → cs[j]? = some u → q.isCell = true ∧ PRep (g0 w) q u) ∧ S a x.1
def zm6 (k:IntKind):Enc Int:=⟨fun n => [.v (.int k n)],1,false,fun _ => rfl,fun _ => rfl⟩
def zll:Enc Bool:=⟨fun b => [.v (.bool b)],1,false,fun _ => rfl,fun _ => rfl⟩
def eSl {α:Type} (e:Enc α):Enc (List α):=⟨fun l => [.sl e.sz (l.map e.pv)],1,false,fun _ => rfl,fun _ => rfl⟩
def DI {H:Type} (k:IntKind) (n:Int) (x:DataW H):Prop:=x = .lit (.int k n) ∧ (Lit.int k n).wf = true
def DB {H:Type} (b:Bool) (x:DataW H):Prop:=x = .lit (.bool b)
inductive DAll {H α:Type} (S:α → DataW H → Prop):List α → List (DataW H) → Prop
 | nil:DAll S [] []
 | cons {a:α} {x:DataW H} {us:List α} {xs:List (DataW H)}:S a x → DAll S us xs → DAll S (a :: us) (x :: xs)
def DS {H α:Type} (S:α → DataW H → Prop) (xs:List α) (x:DataW H):Prop:=xs.length ≤ 9223372036854775807 ∧ ((xs = [] ∧ x = .nil) ∨ ∃ es rest,x = .slice es rest ∧ DAll S xs es)
theorem DAll.mem {H α:Type} {S:α → DataW H → Prop} {us:List α} {xs:List (DataW H)} (h:DAll S us xs) {a:α} (ha:a ∈ us):∃ x,x ∈ xs ∧ S a x:=by
 induction h with
 | nil => cases ha
 | cons h0 _ ih =>
  rcases List.mem_cons.1 ha with rfl | ha
  ·exact ⟨_,List.mem_cons_self,h0⟩
  ·obtain ⟨x,hx,hs⟩:=ih ha
   exact ⟨x,List.mem_cons_of_mem _ hx,hs⟩
theorem DAll.length {H α:Type} {S:α → DataW H → Prop} {us:List α} {xs:List (DataW H)} (h:DAll S us xs):us.length = xs.length:=by
 induction h with
 | nil => rfl
 | cons _ _ ih => simp [ih]
theorem DS.mem {H α:Type} {S:α → DataW H → Prop} {xs:List α} {x:DataW H} (h:DS S xs x) {a:α} (ha:a ∈ xs):∃ y,S a y:=by
 rcases h.2 with ⟨rfl,_⟩ | ⟨es,rest,_,h⟩
 ·cases ha
 ·obtain ⟨y,_,hs⟩:=h.mem ha
  exact ⟨y,hs⟩
theorem DAll.of_get {H α:Type} {S:α → DataW H → Prop}:∀ {us:List α} {xs:List (DataW H)},us.length = xs.length → (∀ (i:Nat) (a:α) (x:DataW H),us[i]? = some a → xs[i]? = some x → S a x) → DAll S us xs
 | [],[],_,_ => .nil
 | [],_ :: _,h,_ => by simp at h
 | _ :: _,[],h,_ => by simp at h
 | a :: us,x :: xs,h,hg => .cons (hg 0 a x rfl rfl) (DAll.of_get (by simpa using h) fun i b y hb hy => hg (i + 1) b y (by simpa using hb) (by simpa using hy))
section
variable {H α β:Type} {enc:TypeId × Value → H} {P:Program} {w:World} {n:Nat} {t e:TypeId}
theorem Enc.pv_cells (d:Enc α) (a:α) (hc:∀ q ∈ d.cells a,q.isCell = true):(d.pv a).cells = d.cells a:=by
 unfold Enc.pv
 cases ha:d.agg with
 | true => rfl
 | false =>
  simp only [Bool.false_eq_true,if_false]
  have h1:=d.one ha
  have h2:=d.len a
  match hcs:d.cells a with
  | [] => rw [hcs] at h2; simp at h2; omega
  | [q] =>
   have:=hc q (by rw [hcs]; exact List.mem_cons_self)
   simp only [List.headD_cons]
   cases q <;> simp_all [PV.cells,PV.isCell]
  | q :: r :: l => rw [hcs] at h2; simp at h2; omega
theorem RdsAt.zero (t:TypeId) (d:Enc α) (S:α → DataW H → Prop):RdsAt enc P w 0 t d S:=by
 intro cs x h
 simp [DataW.trod] at h
theorem RdsAt.int {k:IntKind} (ht:P.underlying t = some (.int k)):RdsAt enc P w n t (zm6 k) (DI k):=by
 intro cs x h
 obtain ⟨m,rfl,rfl,hw⟩:=DataW.trod_int ht h
 refine ⟨m,rfl,fun j q u hq hu => ?_,rfl,hw⟩
 cases j with
 | zero => simp [zm6] at hq hu; subst hq; subst hu; exact ⟨rfl,.v rfl⟩
 | succ j => simp [zm6] at hq
theorem RdsAt.bool (ht:P.underlying t = some .bool):RdsAt enc P w n t zll DB:=by
 intro cs x h
 obtain ⟨b,rfl,rfl⟩:=DataW.trod_bool ht h
 refine ⟨b,rfl,fun j q u hq hu => ?_,rfl⟩
 cases j with
 | zero => simp [zll] at hq hu; subst hq; subst hu; exact ⟨rfl,.v rfl⟩
 | succ j => simp [zll] at hq
theorem zev {f:α → Option β}:∀ {l:List α} {r:List β},l.mapM f = some r → r.length = l.length ∧ ∀ (i:Nat) (x:α),l[i]? = some x → f x = r[i]?
 | [],r,h => by simp at h; subst h; simp
 | a :: l,r,h => by
  simp only [List.mapM_cons,Option.bind_eq_bind,Option.bind_eq_some_iff,Option.pure_def,zpn] at h
  obtain ⟨b,hb,r',hr,rfl⟩:=h
  obtain ⟨h1,h2⟩:=zev hr
  refine ⟨by simp [h1],fun i x hx => ?_⟩
  cases i with
  | zero => simp at hx; subst hx; simpa using hb
  | succ i => simp at hx; simpa using h2 i x hx
theorem zfm {w:World} {a:Addr} {n:Nat} {cs:List Value} (h:w.cells? 0 a n = some cs):cs.length = n ∧ ∀ (i:Nat) (u:Value),cs[i]? = some u → w.cell? (a.add i) = some u:=by
 simp only [World.cells?,Nat.zero_le,if_true] at h
 obtain ⟨h1,h2⟩:=zev h
 refine ⟨by simpa using h1,fun i u hu => ?_⟩
 have hi:i < n:=by have:=(List.getElem?_eq_some_iff.1 hu).1; simp at h1; omega
 rw [h2 i i (by simp [hi]),hu]
theorem Kv {p:Nat → α → Prop}:∀ (m:Nat),(∀ i,i < m → ∃ a,p i a) → ∃ l:List α,l.length = m ∧ ∀ (i:Nat) (a:α),l[i]? = some a → p i a
 | 0,_ => ⟨[],rfl,fun i a h => by simp at h⟩
 | m + 1,h => by
  obtain ⟨l,hl,hp⟩:=Kv m (fun i hi => h i (by omega))
  obtain ⟨a,ha⟩:=h m (by omega)
  refine ⟨l ++ [a],by simp [hl],fun i b hb => ?_⟩
  rcases Nat.lt_or_ge i l.length with hi | hi
  ·rw [List.getElem?_append_left hi] at hb
   exact hp i b hb
  ·have:i = l.length:=by
    have:=(List.getElem?_eq_some_iff.1 hb).1
    simp at this
    omega
   subst this
   simp at hb
   subst hb
   rw [hl]
   exact ha
theorem RdsAt.slice {d:Enc α} {S:α → DataW H → Prop} (ht:P.underlying t = some (.slice e)) (hc:P.cellsOf e = d.sz) (h0:0 < d.sz) (h:RdsAt enc P w n e d S):RdsAt enc P w (n + 1) t (eSl d) (DS S):=by
 intro cs x hx
 rcases DataW.trod_slice ht hx with ⟨rfl,rfl⟩ | ⟨a,len,cap,elems,rest,m,hm,rfl,rfl,_,hl,hcap,hlen,hel,_⟩
 ·refine ⟨[],rfl,fun j q u hq hu => ?_,by simp,.inl ⟨rfl,rfl⟩⟩
  cases j with
  | zero => simp [eSl] at hq hu; subst hq; subst hu; exact ⟨rfl,.sl0⟩
  | succ j => simp [eSl] at hq
 ·obtain rfl:n = m:=by omega
  have key:∀ i,i < len → ∃ p:α,(∀ (j:Nat),j < d.sz → ∃ q u,(d.cells p)[j]? = some q ∧ w.cell? (a.add (i * d.sz + j)) = some u ∧ q.isCell = true ∧ PRep (g0 w) q u) ∧ ∃ y,elems[i]? = some y ∧ S p y.1:=by
   intro i hi
   have h1:=hel i hi
   rw [List.getElem?_eq_getElem (by omega:i < elems.length)] at h1
   obtain ⟨c,hc1,hc2⟩:=Option.bind_eq_some_iff.mp h1
   obtain ⟨p,hp1,hp2,hs⟩:=h c _ hc2
   obtain ⟨k1,k2⟩:=zfm hc1
   refine ⟨p,fun j hj => ?_,_,List.getElem?_eq_getElem (by omega),hs⟩
   have hjc:j < c.length:=by omega
   have hjd:j < (d.cells p).length:=by rw [d.len]; exact hj
   obtain ⟨g1,g2⟩:=hp2 j _ _ (List.getElem?_eq_getElem hjd) (List.getElem?_eq_getElem hjc)
   refine ⟨_,_,List.getElem?_eq_getElem hjd,?_,g1,g2⟩
   have:=k2 j _ (List.getElem?_eq_getElem hjc)
   rwa [Deep.add_add,hc] at this
  obtain ⟨ps,hpl,hps⟩:=Kv len key
  have hcell:∀ p ∈ ps,∀ q ∈ d.cells p,q.isCell = true:=fun p hp q hq => by
   obtain ⟨i,hi,rfl⟩:=List.getElem_of_mem hp
   obtain ⟨j,hj,rfl⟩:=List.getElem_of_mem hq
   rw [d.len] at hj
   obtain ⟨q',u,e1,e2,e3,e4⟩:=(hps i _ (List.getElem?_eq_getElem hi)).1 j hj
   rw [List.getElem?_eq_getElem (by rw [d.len]; exact hj)] at e1
   cases e1
   exact e3
  have hpv:∀ p ∈ ps,(d.pv p).cells = d.cells p:=fun p hp => d.pv_cells p (hcell p hp)
  refine ⟨ps,rfl,fun j q u hq hu => ?_,by rw [hpl]; unfold maxLen at hcap; omega,.inr ⟨_,_,rfl,?_⟩⟩
  ·cases j with
   | succ j => simp [eSl] at hq
   | zero =>
    simp [eSl] at hq hu
    subst hq
    subst hu
    refine ⟨rfl,?_⟩
    match hlen0:len with
    | 0 =>
     have:ps = []:=List.length_eq_zero_iff.1 hpl
     subst this
     exact .sl0
    | m + 1 =>
    have hl0:0 < ps.length:=by omega
    obtain ⟨q0,u0,_,e2,_,_⟩:=(hps 0 _ (List.getElem?_eq_getElem hl0)).1 0 h0
    rw [show 0 * d.sz + 0 = 0 by omega,show a.add 0 = a by simp [Addr.add]] at e2
    obtain ⟨hs,c,hg,_⟩:=YB e2
    obtain ⟨ab,ao,as0⟩:=a
    simp only at hs hg
    subst hs
    have hadd:∀ k,(⟨ab,ao,none⟩:Addr).add k = ⟨ab,ao + k,none⟩:=fun k => by
     unfold Addr.add
     split
     ·rename_i hk; subst hk; rfl
     ·rfl
    have hcells:∀ (i:Nat) (p:α),ps[i]? = some p → ∀ (j:Nat),j < d.sz → ∃ q u,(d.cells p)[j]? = some q ∧ c[ao + i * d.sz + j]? = some u ∧ q.isCell = true ∧ PRep (g0 w) q u:=fun i p hp j hj => by
     obtain ⟨q,u,e1,e2,e3,e4⟩:=(hps i p hp).1 j hj
     rw [hadd] at e2
     obtain ⟨_,c',hg',hcu⟩:=YB e2
     simp only at hg' hcu
     rw [hg] at hg'
     cases hg'
     exact ⟨q,u,e1,by rw [Nat.add_assoc]; exact hcu,e3,e4⟩
    have hrep:∀ (i:Nat) (x:PV) (j:Nat) (q:PV) (u:Value),(ps.map d.pv)[i]? = some x → x.cells[j]? = some q → c[ao + i * d.sz + j]? = some u → q.isCell = true ∧ PRep (g0 w) q u:=fun i x j q u hx hq hu => by
     rw [List.getElem?_map] at hx
     cases hp:ps[i]? with
     | none => simp [hp] at hx
     | some p =>
      simp only [hp,Option.map_some,zpn] at hx
      subst hx
      rw [hpv p (List.mem_of_getElem? hp)] at hq
      have hj:j < d.sz:=by rw [← d.len p]; exact (List.getElem?_eq_some_iff.1 hq).1
      obtain ⟨q',u',e1,e2,e3,e4⟩:=hcells i p hp j hj
      rw [hq] at e1
      rw [hu] at e2
      cases e1; cases e2
      exact ⟨e3,e4⟩
    have hlast:ao + ps.length * d.sz ≤ c.size:=by
     obtain ⟨q,u,_,e2,_⟩:=hcells (ps.length - 1) _ (List.getElem?_eq_getElem (by omega)) (d.sz - 1) (by omega)
     have:=(Array.getElem?_eq_some_iff.1 e2).1
     have e:ps.length * d.sz = (ps.length - 1) * d.sz + d.sz:=by
      rw [← Nat.succ_mul]
      congr 1
      omega
     omega
    have hfin:=PRep.sl (g:=g0 w) (sz:=d.sz) (b:=ab) (o:=ao) (cap:=cap) (xs:=ps.map d.pv) (c:=c) hg (by simp [hpl]; omega) (by simpa using hlast) (fun x hx => by
      obtain ⟨p,hp,rfl⟩:=List.mem_map.1 hx
      rw [hpv p hp,d.len]) (fun i x j q u hx hq hu => (hrep i x j q u hx hq hu).1) (fun i x j q u hx hq hu => (hrep i x j q u hx hq hu).2)
    rw [List.length_map,hpl] at hfin
    exact hfin
  ·refine DAll.of_get (by simp [hpl,hlen]) fun i p y hp hy => ?_
   obtain ⟨_,z,hz,hs⟩:=hps i p hp
   rw [List.getElem?_map,hz] at hy
   simp at hy
   subst hy
   exact hs
theorem zhJ {d:Enc α} {S:α → DataW H → Prop} (h:∀ n,RdsAt enc P w n t d S) {v:Value} {x:DataW H} {ps:List MemPlace} (hag:d.agg = false → v.cells = #[v]) (hag':d.agg = true → ∃ vs,v = .agg vs) (hv:DataW.Trod enc P w 0 (fun _ => true) true t v x ps):∃ a,PRep (g0 w) (d.pv a) v ∧ S a x:=by
 obtain ⟨fuel,hf⟩:=hv
 obtain ⟨a,h1,h2,h3⟩:=h fuel _ _ hf
 refine ⟨a,?_,h3⟩
 unfold Enc.pv
 cases ha:d.agg with
 | true =>
  obtain ⟨vs,rfl⟩:=hag' ha
  simp only [if_true]
  have e:(Value.agg vs).cells = vs:=rfl
  rw [e] at h1 h2
  refine .agg (by rw [d.len]; simpa using h1) (fun q hq => ?_) (fun j q u hq hu => (h2 j q u hq (by simpa using hu)).2)
  obtain ⟨j,hj,rfl⟩:=List.getElem_of_mem hq
  have hj':j < vs.size:=by rw [d.len] at hj; simp at h1; omega
  exact (h2 j _ vs[j] (List.getElem?_eq_getElem hj) (by simp [hj'])).1
 | false =>
  simp only [Bool.false_eq_true,if_false]
  have hl:=d.len a
  rw [d.one ha] at hl
  obtain ⟨q,hq⟩:=List.length_eq_one_iff.1 hl
  rw [hq]
  simp only [List.headD_cons]
  rw [hag ha] at h2
  exact (h2 0 q v (by rw [hq]; rfl) rfl).2
end
open Go.RowKit Go.WideMaps Go.WideElems
theorem hm:Tryz.prog.follows .mixedOrders = true:=by kernel_rfl
theorem hS:SysOk Tryz.prog env:=znE (by kernel_rfl)
def zoH (f:Nat) (fn:Func):Prop:=Tryz.prog.funcs[f]? = some fn ∧ fn.body.isSome = true ∧ (fn.name == "runtime.NumGoroutine") = false
def zn6:List (Nat × Func) → Prop
 | [] => True
 | p :: l => zoH p.1 p.2 ∧ zn6 l
theorem zbV:∀ {l:List (Nat × Func)} {f:Nat} {fn:Func},zn6 l → find l f = some fn → zoH f fn
 | [],_,_,_,h => by cases h
 | (k,a) :: l,f,fn,hl,h => by
  unfold find at h
  split at h
  ·rename_i hk
   cases h
   subst hk
   exact hl.1
  ·exact zbV hl.2 h
set_option maxRecDepth 100000 in
theorem zlo:zn6 fns:=⟨⟨Tryz.func3,by kernel_rfl,by kernel_rfl⟩,⟨Tryz.func4,by kernel_rfl,by kernel_rfl⟩,⟨Tryz.func5,by kernel_rfl,by kernel_rfl⟩,⟨Tryz.func6,by kernel_rfl,by kernel_rfl⟩,⟨Tryz.func7,by kernel_rfl,by kernel_rfl⟩,⟨Tryz.func8,by kernel_rfl,by kernel_rfl⟩,⟨Tryz.func9,by kernel_rfl,by kernel_rfl⟩,⟨Tryz.func10,by kernel_rfl,by kernel_rfl⟩,⟨Tryz.func11,by kernel_rfl,by kernel_rfl⟩,⟨Tryz.func12,by kernel_rfl,by kernel_rfl⟩,⟨Tryz.func13,by kernel_rfl,by kernel_rfl⟩,⟨Tryz.func14,by kernel_rfl,by kernel_rfl⟩,⟨Tryz.func15,by kernel_rfl,by kernel_rfl⟩,⟨Tryz.func16,by kernel_rfl,by kernel_rfl⟩,⟨Tryz.func17,by kernel_rfl,by kernel_rfl⟩,⟨Tryz.func18,by kernel_rfl,by kernel_rfl⟩,⟨Tryz.func19,by kernel_rfl,by kernel_rfl⟩,⟨Tryz.func20,by kernel_rfl,by kernel_rfl⟩,⟨Tryz.func21,by kernel_rfl,by kernel_rfl⟩,⟨Tryz.func22,by kernel_rfl,by kernel_rfl⟩,⟨Tryz.func23,by kernel_rfl,by kernel_rfl⟩,⟨Tryz.func24,by kernel_rfl,by kernel_rfl⟩,⟨Tryz.func25,by kernel_rfl,by kernel_rfl⟩,⟨Tryz.func26,by kernel_rfl,by kernel_rfl⟩,⟨Tryz.func27,by kernel_rfl,by kernel_rfl⟩,⟨Tryz.func28,by kernel_rfl,by kernel_rfl⟩,⟨Tryz.func29,by kernel_rfl,by kernel_rfl⟩,⟨Tryz.func30,by kernel_rfl,by kernel_rfl⟩,⟨Tryz.func31,by kernel_rfl,by kernel_rfl⟩,⟨Tryz.func32,by kernel_rfl,by kernel_rfl⟩,⟨Tryz.func33,by kernel_rfl,by kernel_rfl⟩,⟨Tryz.func34,by kernel_rfl,by kernel_rfl⟩,⟨Tryz.func35,by kernel_rfl,by kernel_rfl⟩,⟨Tryz.func36,by kernel_rfl,by kernel_rfl⟩,⟨Tryz.func37,by kernel_rfl,by kernel_rfl⟩,⟨Tryz.func38,by kernel_rfl,by kernel_rfl⟩,⟨Tryz.func39,by kernel_rfl,by kernel_rfl⟩,⟨Tryz.func40,by kernel_rfl,by kernel_rfl⟩,⟨Tryz.func41,by kernel_rfl,by kernel_rfl⟩,⟨Tryz.func42,by kernel_rfl,by kernel_rfl⟩,⟨Tryz.func43,by kernel_rfl,by kernel_rfl⟩,⟨Tryz.func44,by kernel_rfl,by kernel_rfl⟩,⟨Tryz.func45,by kernel_rfl,by kernel_rfl⟩,⟨Tryz.func46,by kernel_rfl,by kernel_rfl⟩,⟨Tryz.func47,by kernel_rfl,by kernel_rfl⟩,⟨Tryz.func48,by kernel_rfl,by kernel_rfl⟩,⟨Tryz.func49,by kernel_rfl,by kernel_rfl⟩,⟨Tryz.func50,by kernel_rfl,by kernel_rfl⟩,⟨Tryz.func51,by kernel_rfl,by kernel_rfl⟩,⟨Tryz.func52,by kernel_rfl,by kernel_rfl⟩,⟨Tryz.func53,by kernel_rfl,by kernel_rfl⟩,⟨Tryz.func54,by kernel_rfl,by kernel_rfl⟩,⟨Tryz.func55,by kernel_rfl,by kernel_rfl⟩,⟨Tryz.func56,by kernel_rfl,by kernel_rfl⟩,⟨Tryz.func57,by kernel_rfl,by kernel_rfl⟩,⟨Tryz.func58,by kernel_rfl,by kernel_rfl⟩,⟨Tryz.func59,by kernel_rfl,by kernel_rfl⟩,⟨Tryz.func60,by kernel_rfl,by kernel_rfl⟩,⟨Tryz.func61,by kernel_rfl,by kernel_rfl⟩,⟨Tryz.func62,by kernel_rfl,by kernel_rfl⟩,⟨Tryz.func63,by kernel_rfl,by kernel_rfl⟩,⟨Tryz.func64,by kernel_rfl,by kernel_rfl⟩,⟨Tryz.func65,by kernel_rfl,by kernel_rfl⟩,⟨Tryz.func66,by kernel_rfl,by kernel_rfl⟩,⟨Tryz.func67,by kernel_rfl,by kernel_rfl⟩,⟨Tryz.func68,by kernel_rfl,by kernel_rfl⟩,⟨Tryz.func69,by kernel_rfl,by kernel_rfl⟩,⟨Tryz.func70,by kernel_rfl,by kernel_rfl⟩,⟨Tryz.func71,by kernel_rfl,by kernel_rfl⟩,⟨Tryz.func72,by kernel_rfl,by kernel_rfl⟩,⟨Tryz.func73,by kernel_rfl,by kernel_rfl⟩,⟨Tryz.func74,by kernel_rfl,by kernel_rfl⟩,⟨Tryz.func75,by kernel_rfl,by kernel_rfl⟩,⟨Tryz.func76,by kernel_rfl,by kernel_rfl⟩,⟨Tryz.func77,by kernel_rfl,by kernel_rfl⟩,⟨Tryz.func78,by kernel_rfl,by kernel_rfl⟩,⟨Tryz.func79,by kernel_rfl,by kernel_rfl⟩,⟨Tryz.func80,by kernel_rfl,by kernel_rfl⟩,⟨Tryz.func81,by kernel_rfl,by kernel_rfl⟩,⟨Tryz.func82,by kernel_rfl,by kernel_rfl⟩,⟨Tryz.func83,by kernel_rfl,by kernel_rfl⟩,⟨Tryz.func84,by kernel_rfl,by kernel_rfl⟩,⟨Tryz.func85,by kernel_rfl,by kernel_rfl⟩,⟨Tryz.func86,by kernel_rfl,by kernel_rfl⟩,⟨Tryz.func87,by kernel_rfl,by kernel_rfl⟩,⟨Tryz.func88,by kernel_rfl,by kernel_rfl⟩,⟨Tryz.func89,by kernel_rfl,by kernel_rfl⟩,⟨Tryz.func90,by kernel_rfl,by kernel_rfl⟩,⟨Tryz.func91,by kernel_rfl,by kernel_rfl⟩,⟨Tryz.func92,by kernel_rfl,by kernel_rfl⟩,⟨Tryz.func93,by kernel_rfl,by kernel_rfl⟩,⟨Tryz.func94,by kernel_rfl,by kernel_rfl⟩,⟨Tryz.func95,by kernel_rfl,by kernel_rfl⟩,⟨Tryz.func96,by kernel_rfl,by kernel_rfl⟩,⟨Tryz.func97,by kernel_rfl,by kernel_rfl⟩,⟨Tryz.func98,by kernel_rfl,by kernel_rfl⟩,⟨Tryz.func99,by kernel_rfl,by kernel_rfl⟩,⟨Tryz.func100,by kernel_rfl,by kernel_rfl⟩,⟨Tryz.func101,by kernel_rfl,by kernel_rfl⟩,⟨Tryz.func102,by kernel_rfl,by kernel_rfl⟩,⟨Tryz.func103,by kernel_rfl,by kernel_rfl⟩,⟨Tryz.func104,by kernel_rfl,by kernel_rfl⟩,⟨Tryz.func105,by kernel_rfl,by kernel_rfl⟩,⟨Tryz.func106,by kernel_rfl,by kernel_rfl⟩,⟨Tryz.func107,by kernel_rfl,by kernel_rfl⟩,⟨Tryz.func108,by kernel_rfl,by kernel_rfl⟩,⟨Tryz.func109,by kernel_rfl,by kernel_rfl⟩,⟨Tryz.func110,by kernel_rfl,by kernel_rfl⟩,⟨Tryz.func111,by kernel_rfl,by kernel_rfl⟩,⟨Tryz.func112,by kernel_rfl,by kernel_rfl⟩,⟨Tryz.func113,by kernel_rfl,by kernel_rfl⟩,⟨Tryz.func114,by kernel_rfl,by kernel_rfl⟩,⟨Tryz.func115,by kernel_rfl,by kernel_rfl⟩,⟨Tryz.func116,by kernel_rfl,by kernel_rfl⟩,⟨Tryz.func117,by kernel_rfl,by kernel_rfl⟩,⟨Tryz.func118,by kernel_rfl,by kernel_rfl⟩,⟨Tryz.func119,by kernel_rfl,by kernel_rfl⟩,⟨Tryz.func120,by kernel_rfl,by kernel_rfl⟩,⟨Tryz.func121,by kernel_rfl,by kernel_rfl⟩,⟨Tryz.func122,by kernel_rfl,by kernel_rfl⟩,⟨Tryz.func123,by kernel_rfl,by kernel_rfl⟩,⟨Tryz.func124,by kernel_rfl,by kernel_rfl⟩,⟨Tryz.func125,by kernel_rfl,by kernel_rfl⟩,⟨Tryz.func126,by kernel_rfl,by kernel_rfl⟩,⟨Tryz.func127,by kernel_rfl,by kernel_rfl⟩,⟨Tryz.func128,by kernel_rfl,by kernel_rfl⟩,⟨Tryz.func129,by kernel_rfl,by kernel_rfl⟩,⟨Tryz.func130,by kernel_rfl,by kernel_rfl⟩,⟨Tryz.func131,by kernel_rfl,by kernel_rfl⟩,⟨Tryz.func132,by kernel_rfl,by kernel_rfl⟩,⟨Tryz.func133,by kernel_rfl,by kernel_rfl⟩,⟨Tryz.func134,by kernel_rfl,by kernel_rfl⟩,⟨Tryz.func135,by kernel_rfl,by kernel_rfl⟩,⟨Tryz.func136,by kernel_rfl,by kernel_rfl⟩,⟨Tryz.func137,by kernel_rfl,by kernel_rfl⟩,⟨Tryz.func138,by kernel_rfl,by kernel_rfl⟩,⟨Tryz.func139,by kernel_rfl,by kernel_rfl⟩,⟨Tryz.func140,by kernel_rfl,by kernel_rfl⟩,⟨Tryz.func141,by kernel_rfl,by kernel_rfl⟩,⟨Tryz.func142,by kernel_rfl,by kernel_rfl⟩,⟨Tryz.func143,by kernel_rfl,by kernel_rfl⟩,⟨Tryz.func144,by kernel_rfl,by kernel_rfl⟩,⟨Tryz.func145,by kernel_rfl,by kernel_rfl⟩,⟨Tryz.func146,by kernel_rfl,by kernel_rfl⟩,⟨Tryz.func147,by kernel_rfl,by kernel_rfl⟩,⟨Tryz.func148,by kernel_rfl,by kernel_rfl⟩,⟨Tryz.func149,by kernel_rfl,by kernel_rfl⟩,⟨Tryz.func150,by kernel_rfl,by kernel_rfl⟩,⟨Tryz.func151,by kernel_rfl,by kernel_rfl⟩,⟨Tryz.func152,by kernel_rfl,by kernel_rfl⟩,⟨Tryz.func153,by kernel_rfl,by kernel_rfl⟩,⟨Tryz.func154,by kernel_rfl,by kernel_rfl⟩,⟨Tryz.func155,by kernel_rfl,by kernel_rfl⟩,⟨Tryz.func156,by kernel_rfl,by kernel_rfl⟩,⟨Tryz.func157,by kernel_rfl,by kernel_rfl⟩,⟨Tryz.func158,by kernel_rfl,by kernel_rfl⟩,⟨Tryz.func159,by kernel_rfl,by kernel_rfl⟩,⟨Tryz.func160,by kernel_rfl,by kernel_rfl⟩,⟨Tryz.func161,by kernel_rfl,by kernel_rfl⟩,⟨Tryz.func162,by kernel_rfl,by kernel_rfl⟩,⟨Tryz.func163,by kernel_rfl,by kernel_rfl⟩,⟨Tryz.func164,by kernel_rfl,by kernel_rfl⟩,⟨Tryz.func165,by kernel_rfl,by kernel_rfl⟩,⟨Tryz.func166,by kernel_rfl,by kernel_rfl⟩,⟨Tryz.func167,by kernel_rfl,by kernel_rfl⟩,⟨Tryz.func171,by kernel_rfl,by kernel_rfl⟩,⟨Tryz.func172,by kernel_rfl,by kernel_rfl⟩,⟨Tryz.func173,by kernel_rfl,by kernel_rfl⟩,⟨Tryz.func174,by kernel_rfl,by kernel_rfl⟩,⟨Tryz.func175,by kernel_rfl,by kernel_rfl⟩,⟨Tryz.func176,by kernel_rfl,by kernel_rfl⟩,⟨Tryz.func177,by kernel_rfl,by kernel_rfl⟩,⟨Tryz.func178,by kernel_rfl,by kernel_rfl⟩,⟨Tryz.func179,by kernel_rfl,by kernel_rfl⟩,⟨Tryz.func180,by kernel_rfl,by kernel_rfl⟩,⟨Tryz.func181,by kernel_rfl,by kernel_rfl⟩,⟨Tryz.func182,by kernel_rfl,by kernel_rfl⟩,⟨Tryz.func183,by kernel_rfl,by kernel_rfl⟩,⟨Tryz.func184,by kernel_rfl,by kernel_rfl⟩,⟨Tryz.func185,by kernel_rfl,by kernel_rfl⟩,⟨Tryz.func186,by kernel_rfl,by kernel_rfl⟩,⟨Tryz.func187,by kernel_rfl,by kernel_rfl⟩,⟨Tryz.func188,by kernel_rfl,by kernel_rfl⟩,⟨Tryz.func189,by kernel_rfl,by kernel_rfl⟩,⟨Tryz.func190,by kernel_rfl,by kernel_rfl⟩,⟨Tryz.func191,by kernel_rfl,by kernel_rfl⟩,⟨Tryz.func192,by kernel_rfl,by kernel_rfl⟩,⟨Tryz.func193,by kernel_rfl,by kernel_rfl⟩,⟨Tryz.func194,by kernel_rfl,by kernel_rfl⟩,⟨Tryz.func195,by kernel_rfl,by kernel_rfl⟩,⟨Tryz.func196,by kernel_rfl,by kernel_rfl⟩,⟨Tryz.func197,by kernel_rfl,by kernel_rfl⟩,⟨Tryz.func198,by kernel_rfl,by kernel_rfl⟩,⟨Tryz.func199,by kernel_rfl,by kernel_rfl⟩,⟨Tryz.func200,by kernel_rfl,by kernel_rfl⟩,⟨Tryz.func201,by kernel_rfl,by kernel_rfl⟩,⟨Tryz.func202,by kernel_rfl,by kernel_rfl⟩,⟨Tryz.func203,by kernel_rfl,by kernel_rfl⟩,⟨Tryz.func204,by kernel_rfl,by kernel_rfl⟩,⟨Tryz.func205,by kernel_rfl,by kernel_rfl⟩,⟨Tryz.func206,by kernel_rfl,by kernel_rfl⟩,⟨Tryz.func207,by kernel_rfl,by kernel_rfl⟩,⟨Tryz.func208,by kernel_rfl,by kernel_rfl⟩,⟨Tryz.func209,by kernel_rfl,by kernel_rfl⟩,⟨Tryz.func210,by kernel_rfl,by kernel_rfl⟩,⟨Tryz.func211,by kernel_rfl,by kernel_rfl⟩,⟨Tryz.func212,by kernel_rfl,by kernel_rfl⟩,⟨Tryz.func213,by kernel_rfl,by kernel_rfl⟩,⟨Tryz.func214,by kernel_rfl,by kernel_rfl⟩,⟨Tryz.func215,by kernel_rfl,by kernel_rfl⟩,⟨Tryz.func216,by kernel_rfl,by kernel_rfl⟩,⟨Tryz.func217,by kernel_rfl,by kernel_rfl⟩,⟨Tryz.func218,by kernel_rfl,by kernel_rfl⟩,⟨Tryz.func219,by kernel_rfl,by kernel_rfl⟩,⟨Tryz.func220,by kernel_rfl,by kernel_rfl⟩,⟨Tryz.func221,by kernel_rfl,by kernel_rfl⟩,⟨Tryz.func222,by kernel_rfl,by kernel_rfl⟩,⟨Tryz.func223,by kernel_rfl,by kernel_rfl⟩,⟨Tryz.func224,by kernel_rfl,by kernel_rfl⟩,⟨Tryz.func225,by kernel_rfl,by kernel_rfl⟩,⟨Tryz.func227,by kernel_rfl,by kernel_rfl⟩,⟨Tryz.func228,by kernel_rfl,by kernel_rfl⟩,⟨Tryz.func231,by kernel_rfl,by kernel_rfl⟩,⟨Tryz.func232,by kernel_rfl,by kernel_rfl⟩,⟨Tryz.func233,by kernel_rfl,by kernel_rfl⟩,⟨Tryz.func234,by kernel_rfl,by kernel_rfl⟩,⟨Tryz.func235,by kernel_rfl,by kernel_rfl⟩,⟨Tryz.func236,by kernel_rfl,by kernel_rfl⟩,⟨Tryz.func237,by kernel_rfl,by kernel_rfl⟩,⟨Tryz.func238,by kernel_rfl,by kernel_rfl⟩,⟨Tryz.func239,by kernel_rfl,by kernel_rfl⟩,⟨Tryz.func240,by kernel_rfl,by kernel_rfl⟩,⟨Tryz.func241,by kernel_rfl,by kernel_rfl⟩,⟨Tryz.func242,by kernel_rfl,by kernel_rfl⟩,⟨Tryz.func243,by kernel_rfl,by kernel_rfl⟩,⟨Tryz.func244,by kernel_rfl,by kernel_rfl⟩,⟨Tryz.func245,by kernel_rfl,by kernel_rfl⟩,⟨Tryz.func246,by kernel_rfl,by kernel_rfl⟩,⟨Tryz.func247,by kernel_rfl,by kernel_rfl⟩,⟨Tryz.func248,by kernel_rfl,by kernel_rfl⟩,⟨Tryz.func249,by kernel_rfl,by kernel_rfl⟩,⟨Tryz.func250,by kernel_rfl,by kernel_rfl⟩,⟨Tryz.func251,by kernel_rfl,by kernel_rfl⟩,⟨Tryz.func252,by kernel_rfl,by kernel_rfl⟩,⟨Tryz.func253,by kernel_rfl,by kernel_rfl⟩,⟨Tryz.func254,by kernel_rfl,by kernel_rfl⟩,⟨Tryz.func255,by kernel_rfl,by kernel_rfl⟩,⟨Tryz.func256,by kernel_rfl,by kernel_rfl⟩,⟨Tryz.func257,by kernel_rfl,by kernel_rfl⟩,⟨Tryz.func258,by kernel_rfl,by kernel_rfl⟩,⟨Tryz.func259,by kernel_rfl,by kernel_rfl⟩,⟨Tryz.func260,by kernel_rfl,by kernel_rfl⟩,⟨Tryz.func261,by kernel_rfl,by kernel_rfl⟩,⟨Tryz.func262,by kernel_rfl,by kernel_rfl⟩,⟨Tryz.func263,by kernel_rfl,by kernel_rfl⟩,⟨Tryz.func264,by kernel_rfl,by kernel_rfl⟩,⟨Tryz.func265,by kernel_rfl,by kernel_rfl⟩,⟨Tryz.func266,by kernel_rfl,by kernel_rfl⟩,⟨Tryz.func267,by kernel_rfl,by kernel_rfl⟩,⟨Tryz.func268,by kernel_rfl,by kernel_rfl⟩,⟨Tryz.func269,by kernel_rfl,by kernel_rfl⟩,⟨Tryz.func270,by kernel_rfl,by kernel_rfl⟩,⟨Tryz.func271,by kernel_rfl,by kernel_rfl⟩,⟨Tryz.func272,by kernel_rfl,by kernel_rfl⟩,⟨Tryz.func273,by kernel_rfl,by kernel_rfl⟩,⟨Tryz.func274,by kernel_rfl,by kernel_rfl⟩,⟨Tryz.func275,by kernel_rfl,by kernel_rfl⟩,⟨Tryz.func276,by kernel_rfl,by kernel_rfl⟩,⟨Tryz.func277,by kernel_rfl,by kernel_rfl⟩,⟨Tryz.func278,by kernel_rfl,by kernel_rfl⟩,⟨Tryz.func279,by kernel_rfl,by kernel_rfl⟩,⟨Tryz.func280,by kernel_rfl,by kernel_rfl⟩,⟨Tryz.func281,by kernel_rfl,by kernel_rfl⟩,⟨Tryz.func282,by kernel_rfl,by kernel_rfl⟩,⟨Tryz.func283,by kernel_rfl,by kernel_rfl⟩,⟨Tryz.func284,by kernel_rfl,by kernel_rfl⟩,⟨Tryz.func285,by kernel_rfl,by kernel_rfl⟩,⟨Tryz.func286,by kernel_rfl,by kernel_rfl⟩,⟨Tryz.func287,by kernel_rfl,by kernel_rfl⟩,⟨Tryz.func288,by kernel_rfl,by kernel_rfl⟩,⟨Tryz.func289,by kernel_rfl,by kernel_rfl⟩,⟨Tryz.func290,by kernel_rfl,by kernel_rfl⟩,⟨Tryz.func291,by kernel_rfl,by kernel_rfl⟩,⟨Tryz.func292,by kernel_rfl,by kernel_rfl⟩,⟨Tryz.func293,by kernel_rfl,by kernel_rfl⟩,⟨Tryz.func294,by kernel_rfl,by kernel_rfl⟩,⟨Tryz.func295,by kernel_rfl,by kernel_rfl⟩,⟨Tryz.func296,by kernel_rfl,by kernel_rfl⟩,⟨Tryz.func297,by kernel_rfl,by kernel_rfl⟩,⟨Tryz.func298,by kernel_rfl,by kernel_rfl⟩,⟨Tryz.func316,by kernel_rfl,by kernel_rfl⟩,⟨Tryz.func334,by kernel_rfl,by kernel_rfl⟩,⟨Tryz.func335,by kernel_rfl,by kernel_rfl⟩,⟨Tryz.func336,by kernel_rfl,by kernel_rfl⟩,⟨Tryz.func337,by kernel_rfl,by kernel_rfl⟩,⟨Tryz.func338,by kernel_rfl,by kernel_rfl⟩,⟨Tryz.func339,by kernel_rfl,by kernel_rfl⟩,⟨Tryz.func340,by kernel_rfl,by kernel_rfl⟩,⟨Tryz.func341,by kernel_rfl,by kernel_rfl⟩,⟨Tryz.func342,by kernel_rfl,by kernel_rfl⟩,⟨Tryz.func343,by kernel_rfl,by kernel_rfl⟩,⟨Tryz.func344,by kernel_rfl,by kernel_rfl⟩,⟨Tryz.func345,by kernel_rfl,by kernel_rfl⟩,trivial⟩
theorem hfn:∀ f fn,find fns f = some fn → Tryz.prog.funcs[f]? = some fn ∧ fn.body.isSome = true ∧ (fn.name == "runtime.NumGoroutine") = false:=fun f fn h => zbV zlo h
def opsOf:Code → List Oper
 | .region _ ops _ => ops.toList
 | _ => []
def zpd:Code → Nat
 | .region id _ _ => id
 | _ => 0
noncomputable def clB:Code:=Tryz.f275.body.getD .skip
noncomputable def cl0:Oper:=(opsOf (sub clB [1,0,0]))[0]?.getD { dst:=none,op:=.move (.tmp 0),type:=0,pos:= "",after:=#[],guard:=none }
noncomputable def cl1:Oper:=(opsOf (sub clB [1,0,0]))[1]?.getD { dst:=none,op:=.move (.tmp 0),type:=0,pos:= "",after:=#[],guard:=none }
theorem zog (xs:List PV) (st1:St) (h:evC env cf0 8 275 1 0 (sub clB [0]) ⟨fun t => (([.pv (.sl 1 xs)]:List AV)[t]?).getD .dead,[]⟩ = some (.normal,st1)):st1.sl 0 = .pv (.sl 1 xs):=by
 have:(evC env cf0 8 275 1 0 (sub clB [0]) ⟨fun t => (([.pv (.sl 1 xs)]:List AV)[t]?).getD .dead,[]⟩).map (fun r => r.2.sl 0) = some (.pv (.sl 1 xs)):=by kernel_rfl
 rw [h] at this
 simpa using this
theorem zoh:clK env 8 275 Tryz.f275.results.toList (sub clB [0]) (.seq (sub clB [1,0,1,0,0]) .ret) 1 [] = some (.ret (.slu 5 1 []),[]):=by kernel_rfl
theorem zoi (xs:List PV):clK env 8 275 Tryz.f275.results.toList (sub clB [0]) (.seq (sub clB [1,1,0]) .ret) 1 xs = cond (yr (([]:List PV).length + xs.length) 1) (some (.ret (.slu 5 1 xs),[])) none:=by kernel_rfl
theorem zgP {args:List AV} {H:z6} {out:Out} {H':z6} (hc:clone env (5,1,1) args H = some (out,H')) {G:Gh} {w:World} {vs:Array Value} (pre:PreC Tryz.prog env G w args vs H) :
  Calls Tryz.prog 275 vs w fun e w' => Vi Tryz.prog env G w H' out e w' :=
 zlb hm hS Tryz.func275 (T:=22) (e:=5) (id1:=zpd (sub clB [1,0,0])) (o0:=cl0) (o1:=cl1) (R0:=sub clB [0]) (R2:=sub clB [1,0,1,0,0]) (R3:=sub clB [1,1,0]) Tryz.underlying22 (by kernel_rfl) (by kernel_rfl) (by kernel_rfl) (by kernel_rfl) (by kernel_rfl) (by kernel_rfl) (by kernel_rfl) (of_decide_eq_true (by kernel_rfl)) zog zoh (fun xs h => (zoi xs).trans (by rw [show ([]:List PV).length + xs.length = xs.length from Nat.zero_add _,h]; rfl)) hc (by decide) pre
open Go.RowKit Go.Extern.Stop Go.Stop Go.Extern
theorem wO {P:Program} {E:Env} {G:Gh} {w w':World} {p:PV} {v:Value} (wo:WOk P E G w) (hb:Below w.heap.size w w') (hp:PRep G.g p v):Vi P E G w [] (.ret (.pv p)) (.returned v) w':=by
 have f:Fr G w G w' X0:=⟨fun _ _ h => h,fun _ _ h => h,fun b k hk _ => ⟨hk,hb.block b (wo.dom b k hk)⟩,X0_old,hb.os,hb.tape,hb.output,hb.size⟩
 refine ⟨G,f,rfl,wo.fr f (fun b c hc => ?_) (fun b k hk => Nat.lt_of_lt_of_le (wo.dom b k hk) hb.size),fun l cs hl => (by simp at hl),hp⟩
 obtain ⟨k1,T,q,k2⟩:=wo.imm b c hc
 exact ⟨k1,T,q,(hb.block b (wo.dom b _ k1)).trans k2⟩
theorem zoy (t:Addr) (w:World):(ReflectliteValue.unpack (.iface 154 (.pointer (some t)))).run Tryz.prog w
  = .ok (.agg #[.pointer (some ⟨6,154,none⟩),.pointer (some ⟨w.heap.size,0,none⟩),.int .u64 150]) (w.alloc (.cells #[.pointer (some t)] 154)):=by kernel_rfl
theorem znv (a:Addr) (w:World):(ReflectliteValue.methodAny (ReflectliteValue.valueError "reflectlite.Value.Type" 0) (fun t _ _ _ => ReflectliteType.toType t) #[.agg #[.pointer (some ⟨6,154,none⟩),.pointer (some a),.int .u64 150]]).run Tryz.prog w
  = .ok (.iface 265 (.agg #[.pointer (some ⟨6,154,none⟩)])) w:=by kernel_rfl
theorem znr (h:Value) (w:World):(Go.method 466 265 (.agg #[h]) "Kind").run Tryz.prog w = .ok (313,h) w:=by kernel_rfl
theorem zou (w:World):((ReflectliteType.abiMethod fun t => (fun a:Nat => Value.int IntKind.u8 (a:Int)) <$> Rtype.kind t) #[.pointer (some ⟨6,154,none⟩)]).run Tryz.prog w = .ok (.int .u8 22) w:=by kernel_rfl
theorem zot (w:World):((ReflectliteType.abiMethod fun t => (fun a:Nat => Value.int IntKind.u8 (a:Int)) <$> Rtype.kind t) #[.pointer (some ⟨6,152,none⟩)]).run Tryz.prog w = .ok (.int .u8 25) w:=by kernel_rfl
theorem rlm (z:Sem Value) (f:TypeId → Addr → Nat → Nat → Sem Value) (v:Value) :
  ReflectliteValue.method z f #[v] = (do match ← ReflectliteValue.parts v with | none => z | some (t,a,fl) => f t a fl (fl % 32)):=rfl
theorem zcn (a:Addr) (w:World):(ReflectliteValue.parts (.agg #[.pointer (some ⟨6,154,none⟩),.pointer (some a),.int .u64 150])).run Tryz.prog w = .ok (some (154,a,150)) w:=by kernel_rfl
theorem zhA (a p:Addr) (W:World) (ha:W.cell? a = some (.pointer (some p))) :
  (ReflectliteValue.method (ReflectliteValue.valueError "reflectlite.Value.IsNil" 0) ReflectliteValue.isNil #[.agg #[.pointer (some ⟨6,154,none⟩),.pointer (some a),.int .u64 150]]).run Tryz.prog W = .ok (.bool false) W:=by
 rw [rlm]
 simp only [Sem.run_bind,zcn,Result.andThen]
 simp [ReflectliteValue.isNil,loadVar,isAgg,underlying,Tryz.underlying154,ha,Result.andThen]
theorem znq (h:Value) (w:World):(Go.method 466 265 (.agg #[h]) "Elem").run Tryz.prog w = .ok (324,.agg #[h]) w:=by kernel_rfl
theorem zcl (h:Value) (w:World):(Go.method 466 265 (.agg #[h]) "Implements").run Tryz.prog w = .ok (325,.agg #[h]) w:=by kernel_rfl
theorem JF (h:Value) (w:World):(Go.method 466 265 (.agg #[h]) "AssignableTo").run Tryz.prog w = .ok (322,.agg #[h]) w:=by kernel_rfl
theorem zjp (w:World):(ReflectliteType.method ReflectliteType.elem #[.agg #[.pointer (some ⟨6,154,none⟩)]]).run Tryz.prog w = .ok (.iface 265 (.agg #[.pointer (some ⟨6,152,none⟩)])) w:=by kernel_rfl
theorem JE (w:World):(ReflectliteType.relation "Implements" ReflectliteType.implements_ #[.agg #[.pointer (some ⟨6,152,none⟩)],.iface 265 (.agg #[.pointer (some ⟨6,88,none⟩)])]).run Tryz.prog w = .ok (.bool true) w:=by kernel_rfl
theorem zfG (v:Value) (w:World):(ReflectliteType.typeOf #[.iface 152 v]).run Tryz.prog w = .ok (.iface 265 (.agg #[.pointer (some ⟨6,152,none⟩)])) w:=by kernel_rfl
theorem JD (w:World):(ReflectliteType.relation "AssignableTo" ReflectliteType.assignableTo #[.agg #[.pointer (some ⟨6,152,none⟩)],.iface 265 (.agg #[.pointer (some ⟨6,152,none⟩)])]).run Tryz.prog w = .ok (.bool true) w:=by kernel_rfl
theorem zox (n:Int) (w:World):(ReflectliteValue.unpack (.iface 152 (.agg #[.int .i64 n]))).run Tryz.prog w
  = .ok (.agg #[.pointer (some ⟨6,152,none⟩),.pointer (some ⟨w.heap.size,0,none⟩),.int .u64 153]) (w.alloc (.cells #[.int .i64 n] 152)):=by kernel_rfl
theorem zfC (w:World):(Rtype.elem? 154).run Tryz.prog w = .ok (some 152) w:=by kernel_rfl
theorem zns (p:Addr) (w:World):(ReflectliteValue.mk 152 p ReflectliteValue.flagAddr).run Tryz.prog w = .ok (.agg #[.pointer (some ⟨6,152,none⟩),.pointer (some p),.int .u64 409]) w:=by kernel_rfl
theorem zhz (a p:Addr) (W:World) (ha:W.cell? a = some (.pointer (some p))) :
  (ReflectliteValue.method (ReflectliteValue.valueError "reflectlite.Value.Elem" 0) ReflectliteValue.elem #[.agg #[.pointer (some ⟨6,154,none⟩),.pointer (some a),.int .u64 150]]).run Tryz.prog W
   = .ok (.agg #[.pointer (some ⟨6,152,none⟩),.pointer (some p),.int .u64 409]) W:=by
 rw [rlm]
 simp only [Sem.run_bind,zcn,Result.andThen]
 simp [ReflectliteValue.elem,loadVar,isAgg,underlying,Tryz.underlying154,ha,Result.andThen,zfC,zns]
theorem rls (v x:Value):ReflectliteValue.set #[v,x] = (do
  let (some (dst,a,fl),some (src,b,_)):=(← ReflectliteValue.parts v,← ReflectliteValue.parts x)
   | unsupported (.noEntry "extern/(internal/reflectlite.Value).Set.zeroValue")
  if fl / ReflectliteValue.flagAddr % 2 == 0 then unsupported (.noEntry "extern/(internal/reflectlite.Value).Set.unaddressable")
  let val ← loadVar src b
  if ← Rtype.directlyAssignable dst src then storeVar dst a val
  else if ← Rtype.implements dst src then
   if (← Rtype.kind src) == 20 then
    match val with
    | .nilIface => unsupported (.noEntry "extern/reflectlite: a nil value of one interface type handed on as a value of another")
    | _ => storeVar dst a val
   else storeVar dst a (.iface src val)
  else panicString ("reflectlite.Set: value of type " ++ (← Rtype.spelt src) ++ " is not assignable to type " ++ (← Rtype.spelt dst))
  pure (.tuple #[])):=rfl
theorem zfD (a:Addr) (w:World):(ReflectliteValue.parts (.agg #[.pointer (some ⟨6,152,none⟩),.pointer (some a),.int .u64 409])).run Tryz.prog w = .ok (some (152,a,409)) w:=by kernel_rfl
theorem zhE (a:Addr) (w:World):(ReflectliteValue.parts (.agg #[.pointer (some ⟨6,152,none⟩),.pointer (some a),.int .u64 153])).run Tryz.prog w = .ok (some (152,a,153)) w:=by kernel_rfl
theorem zfB (w:World):(Rtype.directlyAssignable 152 152).run Tryz.prog w = .ok true w:=by kernel_rfl
open Go.RowKit Go.Extern.Stop Go.Stop Go.Extern
theorem zlR (ta b:Addr) (n m:Int) (W:World) (hbs:b.spot = none) (hts:ta.spot = none) (hb:W.heap[b.block]? = some (.cells #[.int .i64 n] 152 (0,0))) (hbo:b.off = 0) (ht:W.cell? ta = some (.int .i64 m)) (hf:W.frozen? ta = false) :
  (ReflectliteValue.set #[.agg #[.pointer (some ⟨6,152,none⟩),.pointer (some ta),.int .u64 409],.agg #[.pointer (some ⟨6,152,none⟩),.pointer (some b),.int .u64 153]]).run Tryz.prog W
   = .ok (.tuple #[]) (W.setCell ta (.int .i64 n)):=by
 obtain ⟨bb,bo,bs⟩:=b
 simp only at hbs hbo hb
 subst hbs hbo
 have hl:(loadVar 152 ⟨bb,0,none⟩).run Tryz.prog W = .ok (.agg #[.int .i64 n]) W:=by
  have h1:=run_loadCells (P:=Tryz.prog) (w:=W) ⟨bb,0,none⟩ 1 (fun _ => .int .i64 n) (fun j hj => by
   obtain rfl:j = 0:=by omega
   simp [World.cell?,hb,Addr.add])
  have hsz:(sizeOf 152).run Tryz.prog W = .ok 1 W:=by kernel_rfl
  have hag:(isAgg 152).run Tryz.prog W = .ok true W:=by kernel_rfl
  simp only [loadVar,Sem.run_bind,hag,Result.andThen,if_true,hsz]
  rw [h1]
  rfl
 rw [rls]
 simp only [Sem.run_bind,zfD,zhE,Result.andThen]
 have hsz:(sizeOf 152).run Tryz.prog W = .ok 1 W:=by kernel_rfl
 simp [ReflectliteValue.flagAddr,hl,Result.andThen,zfB,storeVar,hsz,Value.cells,storeCells,Addr.add]
 rw [run_store Tryz.prog W ta _ _ (by rfl)]
 simp [ht,hf]
open Go.RowKit Go.Extern.Stop Go.Stop Go.Extern
def asW (n:Int) (t:Addr) (w:World):World:=((((w.alloc (.cells #[.pointer (some t)] 154)).alloc (.cells #[.pointer (some ⟨6,154,none⟩),.pointer (some ⟨w.heap.size,0,none⟩),.int .u64 150] 216)).alloc (.cells #[.pointer (some ⟨6,154,none⟩),.pointer (some ⟨w.heap.size,0,none⟩),.int .u64 150] 216)).alloc (.cells #[.int .i64 n] 152)).setCell t (.int .i64 n)
theorem zmT (t:Value) (w:World):Calls Tryz.prog 106 #[.nilIface,t] w fun e w' => e = .returned (.bool false) ∧ w' = w:=by
 go_enter Tryz.func106,Tryz.ntmps106
 go_wp2
 go_ret
 exact ⟨rfl,rfl⟩
set_option maxHeartbeats 4000000 in
theorem zmS (n m:Int) (t:Addr) (w:World) (hts:t.spot = none) (hg:w.cell? ⟨3,0,none⟩ = some (.iface 265 (.agg #[.pointer (some ⟨6,88,none⟩)]))) (ht0:w.cell? t = some (.int .i64 m)) (hf0:w.frozen? t = false) :
  Calls Tryz.prog 106 #[.iface 152 (.agg #[.int .i64 n]),.iface 154 (.pointer (some t))] w fun ev w' => ev = .returned (.bool true) ∧ w' = asW n t w:=by
 have h6:=@run_callFunc_extern Tryz.prog 168 _ (fun args => ReflectliteValue.unpack (args.getD 0 (.tuple #[]))) Tryz.func168 (by kernel_rfl) (by kernel_rfl) (by kernel_rfl) (by kernel_rfl)
 have h7:=@run_callFunc_extern Tryz.prog 169 _ (ReflectliteValue.methodAny (ReflectliteValue.valueError "reflectlite.Value.Type" 0) (fun t _ _ _ => ReflectliteType.toType t)) Tryz.func169 (by kernel_rfl) (by kernel_rfl) (by kernel_rfl) (by kernel_rfl)
 have h8:=@run_callFunc_extern Tryz.prog 170 _ (ReflectliteValue.method (ReflectliteValue.valueError "reflectlite.Value.IsNil" 0) ReflectliteValue.isNil) Tryz.func170 (by kernel_rfl) (by kernel_rfl) (by kernel_rfl) (by kernel_rfl)
 have h27:=@run_callFunc_extern Tryz.prog 313 _ (ReflectliteType.abiMethod fun t => do pure (.int .u8 (← Rtype.kind t))) Tryz.func313 (by kernel_rfl) (by kernel_rfl) (by kernel_rfl) (by kernel_rfl)
 have h37:=@run_callFunc_extern Tryz.prog 324 _ (ReflectliteType.method ReflectliteType.elem) Tryz.func324 (by kernel_rfl) (by kernel_rfl) (by kernel_rfl) (by kernel_rfl)
 have h38:=@run_callFunc_extern Tryz.prog 325 _ (ReflectliteType.relation "Implements" ReflectliteType.implements_) Tryz.func325 (by kernel_rfl) (by kernel_rfl) (by kernel_rfl) (by kernel_rfl)
 have h10:=@run_callFunc_extern Tryz.prog 226 _ ReflectliteType.typeOf Tryz.func226 (by kernel_rfl) (by kernel_rfl) (by kernel_rfl) (by kernel_rfl)
 have h35:=@run_callFunc_extern Tryz.prog 322 _ (ReflectliteType.relation "AssignableTo" ReflectliteType.assignableTo) Tryz.func322 (by kernel_rfl) (by kernel_rfl) (by kernel_rfl) (by kernel_rfl)
 have h11:=@run_callFunc_extern Tryz.prog 229 _ (ReflectliteValue.method (ReflectliteValue.valueError "reflectlite.Value.Elem" 0) ReflectliteValue.elem) Tryz.func229 (by kernel_rfl) (by kernel_rfl) (by kernel_rfl) (by kernel_rfl)
 have h12:=@run_callFunc_extern Tryz.prog 230 _ ReflectliteValue.set Tryz.func230 (by kernel_rfl) (by kernel_rfl) (by kernel_rfl) (by kernel_rfl)
 have tO:=zfG
 have mA:=JF
 have a25:=JD
 have v25:=zox
 have f6:=zoy
 have f7:=znv
 have mK:=znr
 have mE:=znq
 have mI:=zcl
 have k27:=zou
 have k25:=zot
 have e27:=zjp
 have i25:=JE
 have n8:=zhA ⟨w.heap.size,0,none⟩ t ((w.alloc (.cells #[.pointer (some t)] 154)).alloc (.cells #[.pointer (some ⟨6,154,none⟩),.pointer (some ⟨w.heap.size,0,none⟩),.int .u64 150] 216)) (by simp)
 have hlt:3 < w.heap.size:=by
  rcases Nat.lt_or_ge 3 w.heap.size with h | h
  ·exact h
  ·simp [World.cell?,Array.getElem?_eq_none h] at hg
 have hg2:((w.alloc (.cells #[.pointer (some t)] 154)).alloc (.cells #[.pointer (some ⟨6,154,none⟩),.pointer (some ⟨w.heap.size,0,none⟩),.int .u64 150] 216)).cell? ⟨3,0,none⟩ = some (.iface 265 (.agg #[.pointer (some ⟨6,88,none⟩)])):=by
  rw [World.cell?_alloc_lt _ _ ⟨3,0,none⟩ (by simp; omega),World.cell?_alloc_lt _ _ ⟨3,0,none⟩ hlt]; exact hg
 have htl:t.block < w.heap.size:=by
  rcases Nat.lt_or_ge t.block w.heap.size with h | h
  ·exact h
  ·simp [World.cell?,Array.getElem?_eq_none h] at ht0
 have el:=zhz ⟨w.heap.size,0,none⟩ t (((w.alloc (.cells #[.pointer (some t)] 154)).alloc (.cells #[.pointer (some ⟨6,154,none⟩),.pointer (some ⟨w.heap.size,0,none⟩),.int .u64 150] 216)).alloc (.cells #[.pointer (some ⟨6,154,none⟩),.pointer (some ⟨w.heap.size,0,none⟩),.int .u64 150] 216)) (by rw [World.cell?_alloc_lt _ _ ⟨w.heap.size,0,none⟩ (by simp; omega)]; simp)
 have st:=zlR t ⟨w.heap.size + 1 + 1 + 1,0,none⟩ n m ((((w.alloc (.cells #[.pointer (some t)] 154)).alloc (.cells #[.pointer (some ⟨6,154,none⟩),.pointer (some ⟨w.heap.size,0,none⟩),.int .u64 150] 216)).alloc (.cells #[.pointer (some ⟨6,154,none⟩),.pointer (some ⟨w.heap.size,0,none⟩),.int .u64 150] 216)).alloc (.cells #[.int .i64 n] 152)) rfl hts
  (by
   generalize hW:(((w.alloc _).alloc _).alloc _:World) = W3
   have hs:W3.heap.size = w.heap.size + 1 + 1 + 1:=by rw [← hW]; simp
   rw [← hs]
   show (W3.heap.push _)[W3.heap.size]? = _
   simp) rfl
  (by rw [World.cell?_alloc_lt _ _ t (by simp; omega),World.cell?_alloc_lt _ _ t (by simp; omega),World.cell?_alloc_lt _ _ t (by simp; omega),World.cell?_alloc_lt _ _ t htl]; exact ht0)
  (by rw [World.frozen?_alloc_old _ _ t (by simp; omega),World.frozen?_alloc_old _ _ t (by simp; omega),World.frozen?_alloc_old _ _ t (by simp; omega),World.frozen?_alloc_old _ _ t (Nat.ne_of_lt htl)]; exact hf0)
 go_enter Tryz.func106,Tryz.ntmps106
 go_wp2
 refine wp_loop_rounds 1 ?_
 rw [rounds_succ]
 go_wp2
 go_ret
 exact ⟨rfl,rfl⟩
open Go.RowKit Go.Extern.Stop Go.Stop Go.Extern Go.Extern.Rtype
set_option maxHeartbeats 4000000 in
theorem zfy (w:World):Calls Tryz.prog 56 #[.nilIface] w fun e w' => e = .returned (.int .i64 0) ∧ Below w.heap.size w w':=by
 go_enter Tryz.func56,Tryz.ntmps56
 go_wp2_with (go_at_call 106; refine (zmT _ _).mono ?_; rintro e w' ⟨rfl,rfl⟩)
 go_ret
 exact ⟨rfl,(Below.refl _ w).alloc (Nat.le_refl _) _⟩
theorem ziM (n m:Int) (w:World):(asW n ⟨w.heap.size,0,none⟩ (w.alloc (.cells #[.int .i64 m] 152))).cell? ⟨w.heap.size,0,none⟩ = some (.int .i64 n):=by
 unfold asW
 refine World.cell?_setCell_same' _ _ _ ?_
 rw [World.cell?_alloc_lt _ _ ⟨w.heap.size,0,none⟩ (by simp; omega),World.cell?_alloc_lt _ _ ⟨w.heap.size,0,none⟩ (by simp; omega),World.cell?_alloc_lt _ _ ⟨w.heap.size,0,none⟩ (by simp; omega),World.cell?_alloc_lt _ _ ⟨w.heap.size,0,none⟩ (by simp)]
 simp
theorem zgB (n m:Int) (w:World):Below w.heap.size w (asW n ⟨w.heap.size,0,none⟩ (w.alloc (.cells #[.int .i64 m] 152))):=by
 unfold asW
 exact (((((((Below.refl _ w).alloc (Nat.le_refl _) _).alloc (by simp) _).alloc (by simp; omega) _).alloc (by simp; omega) _).alloc (by simp; omega) _).setCell (Nat.le_refl _) _)
set_option maxHeartbeats 4000000 in
theorem zfx (n:Int) (w:World) (hg:w.cell? ⟨3,0,none⟩ = some (.iface 265 (.agg #[.pointer (some ⟨6,88,none⟩)]))) :
  Calls Tryz.prog 56 #[.iface 152 (.agg #[.int .i64 n])] w fun e w' => e = .returned (.int .i64 n) ∧ Below w.heap.size w w':=by
 have hlt:3 < w.heap.size:=by
  rcases Nat.lt_or_ge 3 w.heap.size with h | h
  ·exact h
  ·simp [World.cell?,Array.getElem?_eq_none h] at hg
 have hgA:(w.alloc (.cells #[.int .i64 0] 152)).cell? ⟨3,0,none⟩ = some (.iface 265 (.agg #[.pointer (some ⟨6,88,none⟩)])):=by
  rw [World.cell?_alloc_lt _ _ ⟨3,0,none⟩ hlt]; exact hg
 have htA:(w.alloc (.cells #[.int .i64 0] 152)).cell? ⟨w.heap.size,0,none⟩ = some (.int .i64 0):=by simp
 have hfA:(w.alloc (.cells #[.int .i64 0] 152)).frozen? ⟨w.heap.size,0,none⟩ = false:=by simp
 have hc:=ziM n 0 w
 have hB:=zgB n 0 w
 generalize hW:asW n ⟨w.heap.size,0,none⟩ (w.alloc (.cells #[.int .i64 0] 152)) = W at hc hB
 go_enter Tryz.func56,Tryz.ntmps56
 go_wp2_with (go_at_call 106; refine (zmS n 0 _ _ rfl hgA htA hfA).mono ?_; rintro e w' ⟨rfl,h⟩; rw [hW] at h; obtain rfl:=h)
 go_ret
 exact ⟨rfl,hB⟩
def popT:List UInt8:=[0,1,1,2,1,2,2,3,1,2,2,3,2,3,3,4,1,2,2,3,2,3,3,4,2,3,3,4,3,4,4,5,1,2,2,3,2,3,3,4,2,3,3,4,3,4,4,5,2,3,3,4,3,4,4,5,3,4,4,5,4,5,5,6,1,2,2,3,2,3,3,4,2,3,3,4,3,4,4,5,2,3,3,4,3,4,4,5,3,4,4,5,4,5,5,6,2,3,3,4,3,4,4,5,3,4,4,5,4,5,5,6,3,4,4,5,4,5,5,6,4,5,5,6,5,6,6,7,1,2,2,3,2,3,3,4,2,3,3,4,3,4,4,5,2,3,3,4,3,4,4,5,3,4,4,5,4,5,5,6,2,3,3,4,3,4,4,5,3,4,4,5,4,5,5,6,3,4,4,5,4,5,5,6,4,5,5,6,5,6,6,7,2,3,3,4,3,4,4,5,3,4,4,5,4,5,5,6,3,4,4,5,4,5,5,6,4,5,5,6,5,6,6,7,3,4,4,5,4,5,5,6,4,5,5,6,5,6,6,7,4,5,5,6,5,6,6,7,5,6,6,7,6,7,7,8]
theorem zlP:∀ n:Nat,n < 256 → (popT.toArray[n]?).map UInt8.toNat = some (pop8 n):=by decide +kernel
set_option maxRecDepth 100000 in
set_option maxHeartbeats 4000000 in
theorem zjn (n:Nat) (hn:n < 256) (w:World):Calls Tryz.prog 244 #[.int .u8 n] w fun e w' => e = .returned (.int .i64 (pop8 n)) ∧ w' = w:=by
 go_enter Tryz.func244,Tryz.ntmps244
 have e:=zlP n hn
 have hsz:n < popT.toArray.size:=hn
 rw [Array.getElem?_eq_getElem hsz] at e
 have e2:(popT.toArray[n]'hsz).toNat = pop8 n:=Option.some.inj e
 have hle:pop8 n ≤ 8:=by unfold pop8; omega
 go_wp2
 go_ret
 refine ⟨?_,rfl⟩
 show Ending.returned (Value.int .i64 (Go.RowKit.wrap64 (((popT.toArray[n]'hsz).toNat:Nat):Int))) = _
 rw [e2,show Go.RowKit.wrap64 ((pop8 n:Nat):Int) = pop8 n by simp only [Go.RowKit.wrap64]; omega]
theorem zen (v:Value) (w:World):(Extern.ReflectliteType.typeOf #[.iface 331 v]).run Tryz.prog w = .ok (.iface 265 (.agg #[.pointer (some ⟨6,331,none⟩)])) w:=by kernel_rfl
theorem Qa (w:World):((Extern.ReflectliteType.method fun t => do noPackHeld "Comparable" t; (fun a => Value.bool a.comparable) <$> typeInfo t) #[.agg #[.pointer (some ⟨6,331,none⟩)]]).run Tryz.prog w = .ok (.bool true) w:=by kernel_rfl
theorem ZR (v:Value) (w:World):(Go.method 466 265 v "Comparable").run Tryz.prog w = .ok (323,v) w:=by kernel_rfl
theorem zkj:(Tryz.prog.info? 331).map (·.comparable) = some true:=by kernel_rfl
theorem zkk:(Tryz.prog.info? 353).map (·.size) = some 1:=by kernel_rfl
theorem zos (v:Value) (xT:TypeId) (w:World):(Instr.typeAssert (.iface 331 v) xT 309 true).run Tryz.prog w = .ok (.tuple #[.nilIface,.bool false]) w:=run_typeAssert_lacksB Tryz.underlying309 (by kernel_rfl) (by kernel_rfl) v xT w
theorem zho (v:Value) (xT:TypeId) (w:World):(Instr.typeAssert (.iface 331 v) xT 272 true).run Tryz.prog w = .ok (.tuple #[.nilIface,.bool false]) w:=run_typeAssert_lacksB Tryz.underlying272 (by kernel_rfl) (by kernel_rfl) v xT w
theorem zfw (v:Value) (xT:TypeId) (w:World):(Instr.typeAssert (.iface 331 v) xT 273 true).run Tryz.prog w = .ok (.tuple #[.nilIface,.bool false]) w:=run_typeAssert_lacksB Tryz.underlying273 (by kernel_rfl) (by kernel_rfl) v xT w
theorem zlw (a:Addr) (w:World) :
  Calls Tryz.prog 162 #[.iface 331 (.pointer (some a)),.iface 331 (.pointer (some a))] w fun e w' => e = .returned (.bool true) ∧ w' = w:=by
 obtain ⟨i,hi,hcmp⟩:=Option.map_eq_some_iff.1 zkj
 obtain ⟨j,hj,hjs⟩:=Option.map_eq_some_iff.1 zkk
 have h8:=@run_callFunc_extern Tryz.prog 226 _ Extern.ReflectliteType.typeOf Tryz.func226 (by kernel_rfl) (by kernel_rfl) (by kernel_rfl) (by kernel_rfl)
 have h32:=@run_callFunc_extern Tryz.prog 323 _ (Extern.ReflectliteType.method fun t => do noPackHeld "Comparable" t; pure (.bool (← typeInfo t).comparable)) Tryz.func323 (by kernel_rfl) (by kernel_rfl) (by kernel_rfl) (by kernel_rfl)
 have tT:=zen
 have cT:=Qa
 have mR:=ZR
 have heq:=run_eql_iface_ptr_same (P:=Tryz.prog) w a Tryz.underlying88 Tryz.underlying331 hi hcmp hj
 go_enter Tryz.func162,Tryz.ntmps162
 go_wp2
 refine wp_loop_rounds 1 ?_
 rw [rounds_succ]
 go_wp2
 go_ret
 exact ⟨rfl,rfl⟩
theorem znd (b:Addr) (w:World) :
  Calls Tryz.prog 162 #[.nilIface,.iface 331 (.pointer (some b))] w fun e w' => e = .returned (.bool false) ∧ w' = w:=by
 have hn:=run_eql_iface_nil_left (P:=Tryz.prog) w 331 (.pointer (some b)) Tryz.underlying88
 go_enter Tryz.func162,Tryz.ntmps162
 go_wp2
 go_ret
 exact ⟨rfl,rfl⟩
theorem zjh (a b:Addr) (ca cb:Array Value) (ta tb:TypeId) (w:World) (hne:a ≠ b) (ha:w.heap[a.block]? = some (.cells ca ta (0,0))) (hb:w.heap[b.block]? = some (.cells cb tb (0,0))) :
  Calls Tryz.prog 162 #[.iface 331 (.pointer (some a)),.iface 331 (.pointer (some b))] w fun e w' => e = .returned (.bool false) ∧ w' = w:=by
 obtain ⟨i,hi,hcmp⟩:=Option.map_eq_some_iff.1 zkj
 obtain ⟨j,hj,hjs⟩:=Option.map_eq_some_iff.1 zkk
 have h8:=@run_callFunc_extern Tryz.prog 226 _ Extern.ReflectliteType.typeOf Tryz.func226 (by kernel_rfl) (by kernel_rfl) (by kernel_rfl) (by kernel_rfl)
 have h32:=@run_callFunc_extern Tryz.prog 323 _ (Extern.ReflectliteType.method fun t => do noPackHeld "Comparable" t; pure (.bool (← typeInfo t).comparable)) Tryz.func323 (by kernel_rfl) (by kernel_rfl) (by kernel_rfl) (by kernel_rfl)
 have tT:=zen
 have cT:=Qa
 have mR:=ZR
 have nE:=zos
 have uE:=zho
 have vE:=zfw
 have heq:=run_eql_iface_ptr_other (P:=Tryz.prog) w Tryz.underlying88 Tryz.underlying331 hi hcmp hj (by rw [hjs]; decide) hne ha hb
 go_enter Tryz.func162,Tryz.ntmps162
 go_wp2
 refine wp_loop_rounds 1 ?_
 rw [rounds_succ]
 go_wp2
 go_ret
 exact ⟨rfl,rfl⟩
open Go.RowKit
set_option maxRecDepth 100000
theorem zkB {P:Program} {E:Env} {G:Gh} {w:World} {p:PV} {vs:Array Value} (pre:PreC P E G w [.pv p] vs []):∃ x,vs = #[x] ∧ PRep G.g p x:=by
 have hs:vs.size = 1:=pre.sz
 obtain ⟨x,rfl⟩:=Array.size_eq_one_iff.1 hs
 rcases pre.ar 0 (.pv p) x rfl rfl with h | h
 ·exact ⟨x,rfl,h.2 (fun _ => .imm)⟩
 ·cases h.1
theorem znK {P:Program} {E:Env} {G:Gh} {w:World} {p q:PV} {vs:Array Value} (pre:PreC P E G w [.pv p,.pv q] vs []):∃ x y,vs = #[x,y] ∧ PRep G.g p x ∧ PRep G.g q y:=by
 have hs:vs.size = 2:=pre.sz
 obtain ⟨x,y,rfl⟩:∃ x y,vs = #[x,y]:=by
  obtain ⟨l⟩:=vs
  match l,hs with
  | [x,y],_ => exact ⟨x,y,rfl⟩
 refine ⟨x,y,rfl,?_,?_⟩
 ·rcases pre.ar 0 (.pv p) x rfl rfl with h | h
  ·exact h.2 (fun _ => .imm)
  ·cases h.1
 ·rcases pre.ar 1 (.pv q) y rfl rfl with h | h
  ·exact h.2 (fun _ => .imm)
  ·cases h.1
theorem zi6 {G:Gh} {w:World} (wo:WOk Tryz.prog env G w):w.cell? ⟨3,0,none⟩ = some (.iface 265 (.agg #[.pointer (some ⟨6,88,none⟩)])):=by
 obtain ⟨c,h1,h2⟩:=wo.fix 3 _ rfl
 obtain ⟨_,T,f,h3⟩:=wo.imm _ _ h1
 unfold World.cell?
 simp [h3,h2]
theorem zhq {args:List AV} {H:z6} {out:Out} {H':z6} (hc:zlQ env (0,152) args H = some (out,H')) {G:Gh} {w:World} {vs:Array Value} (pre:PreC Tryz.prog env G w args vs H) :
  Calls Tryz.prog 56 vs w fun e w' => Vi Tryz.prog env G w H' out e w':=by
 unfold zlQ at hc
 split at hc
 ·rename_i p _
  cases hn:znY 152 p with
  | none => simp [hn] at hc
  | some n =>
   simp only [hn,zpi] at hc
   cases H with
   | cons a b => simp at hc
   | nil =>
    simp only [List.isEmpty_nil,cond_true,zpn,Prod.mk.injEq] at hc
    obtain ⟨rfl,rfl⟩:=hc
    obtain ⟨x,rfl,hx⟩:=zkB pre
    unfold znY at hn
    split at hn
    ·cases hn
     cases hx
     exact (zfy w).mono fun e w' ⟨he,hb⟩ => by subst he; exact wO pre.wo hb (.v rfl)
    ·rename_i t' m
     split at hn
     ·rename_i ht
      cases hn
      subst ht
      cases hx with
      | ifc hu =>
       cases hu with
       | agg h1 h2 h3 =>
        rename_i us
        obtain ⟨y,rfl⟩:=Array.size_eq_one_iff.1 h1
        cases h3 0 _ y rfl rfl
        exact (zfx n w (zi6 pre.wo)).mono fun e w' ⟨he,hb⟩ => by subst he; exact wO pre.wo hb (.v rfl)
     ·cases hn
    ·cases hn
 ·rename_i h; cases h
 ·rename_i h; cases h
 ·cases hc
theorem zcw {G:Gh} {w:World} (wo:WOk Tryz.prog env G w) {b:PV} {g:Nat} (h:zmv env b = some g) {x:Value} (hx:PRep G.g b x) :
  find env.glob g = some (.sen g) ∧ ∃ c a ca ta,G.g g = some c ∧ c[0]? = some x ∧ x = .iface 331 (.pointer (some a)) ∧ w.heap[a.block]? = some (.cells ca ta (0,0)):=by
 unfold zmv at h
 split at h
 ·rename_i g0
  split at h
  ·rename_i g' hf
   split at h
   ·rename_i e
    cases h
    subst e
    refine ⟨hf,?_⟩
    obtain ⟨c,a,ca,ta,k1,k2,k3,k4⟩:=wo.sen _ hf
    cases hx with
    | sen h1 h2 =>
     obtain rfl:=Option.some.inj (k1.symm.trans h1)
     have e:=Option.some.inj (k2.symm.trans h2)
     exact ⟨c,a,ca,ta,k1,by rw [k2,e],e.symm,k4⟩
   ·cases h
  ·cases h
 ·cases h
theorem zop {args:List AV} {H:z6} {out:Out} {H':z6} (hc:zlQ env (1,0) args H = some (out,H')) {G:Gh} {w:World} {vs:Array Value} (pre:PreC Tryz.prog env G w args vs H) :
  Calls Tryz.prog 162 vs w fun e w' => Vi Tryz.prog env G w H' out e w':=by
 unfold zlQ at hc
 split at hc
 ·rename_i h; cases h
 ·rename_i p r _
  cases hn:isV env p r with
  | none => simp [hn] at hc
  | some z =>
   simp only [hn,zpi] at hc
   cases H with
   | cons a b => simp at hc
   | nil =>
    simp only [List.isEmpty_nil,cond_true,zpn,Prod.mk.injEq] at hc
    obtain ⟨rfl,rfl⟩:=hc
    obtain ⟨x,y,rfl,hx,hy⟩:=znK pre
    unfold isV at hn
    cases hg:zmv env r with
    | none => simp [hg] at hn
    | some g =>
     simp only [hg,zpi] at hn
     obtain ⟨f1,c,a,ca,ta,q1,q2,rfl,q4⟩:=zcw pre.wo hg hy
     split at hn
     ·cases hn
      cases hx
      exact (znd a w).mono fun e w' ⟨he,hb⟩ => by subst he; subst hb; exact wO pre.wo (Below.refl _ _) (.v rfl)
     ·cases hh:zmv env p with
      | none => simp [hh] at hn
      | some h =>
       simp only [hh,Option.map_some,zpn] at hn
       obtain ⟨f2,c',a',ca',ta',r1,r2,rfl,r4⟩:=zcw pre.wo hh hx
       by_cases he:h = g
       ·subst he
        obtain rfl:=Option.some.inj (q1.symm.trans r1)
        have e:=Option.some.inj (q2.symm.trans r2)
        obtain rfl:a = a':=by injection e with _ e; injection e with e; injection e
        obtain rfl:z = true:=by rw [← hn]; simp
        exact (zlw a w).mono fun e w' ⟨he,hb⟩ => by subst he; subst hb; exact wO pre.wo (Below.refl _ _) (.v rfl)
       ·have hd:=pre.wo.dst h g c' c f2 f1 he r1 q1
        have hne:a' ≠ a:=fun e => hd (by rw [r2,q2,e])
        obtain rfl:z = false:=by rw [← hn]; simpa using he
        exact (zjh a' a _ _ _ _ w hne r4 q4).mono fun e w' ⟨he,hb⟩ => by subst he; subst hb; exact wO pre.wo (Below.refl _ _) (.v rfl)
 ·rename_i h; cases h
 ·cases hc
theorem zlH {args:List AV} {H:z6} {out:Out} {H':z6} (hc:zlQ env (2,0) args H = some (out,H')) {G:Gh} {w:World} {vs:Array Value} (pre:PreC Tryz.prog env G w args vs H) :
  Calls Tryz.prog 244 vs w fun e w' => Vi Tryz.prog env G w H' out e w':=by
 unfold zlQ at hc
 split at hc
 ·rename_i h; cases h
 ·rename_i h; cases h
 ·rename_i p _
  cases hm:zQ .u8 (.pv p) with
  | none => simp [hm] at hc
  | some m =>
   have:=VF hm
   cases this
   simp only [hm,zpi] at hc
   unfold zn0 at hc
   cases hb:(decide (0 ≤ m) && decide (m < 256)) with
   | false => simp [hb] at hc
   | true =>
    simp only [Bool.and_eq_true,decide_eq_true_eq] at hb
    simp only [hb,decide_true,Bool.and_self,cond_true,zpi] at hc
    cases H with
    | cons a b => simp at hc
    | nil =>
     simp only [List.isEmpty_nil,cond_true,zpn,Prod.mk.injEq] at hc
     obtain ⟨rfl,rfl⟩:=hc
     obtain ⟨x,rfl,hx⟩:=zkB pre
     cases hx
     have:=zjn m.toNat (by omega) w
     rw [Int.toNat_of_nonneg hb.1] at this
     exact this.mono fun e w' ⟨he,hb⟩ => by subst he; subst hb; exact wO pre.wo (Below.refl _ _) (.v rfl)
 ·cases hc
theorem zms:zkD Tryz.prog env:=by
 intro f q hq
 have he:env.cln = [(275,(5,1,1)),(56,(0,0,152)),(162,(1,0,0)),(244,(2,0,0))]:=rfl
 rw [he] at hq
 unfold find at hq
 split at hq
 ·rename_i hk
  cases hq
  subst hk
  exact ⟨⟨_,Tryz.func275,by kernel_rfl,by kernel_rfl⟩,fun args H out H' hc G w vs pre => zgP hc pre⟩
 unfold find at hq
 split at hq
 ·rename_i hk
  cases hq
  subst hk
  exact ⟨⟨_,Tryz.func56,by kernel_rfl,by kernel_rfl⟩,fun args H out H' hc G w vs pre => zhq hc pre⟩
 unfold find at hq
 split at hq
 ·rename_i hk
  cases hq
  subst hk
  exact ⟨⟨_,Tryz.func162,by kernel_rfl,by kernel_rfl⟩,fun args H out H' hc G w vs pre => zop hc pre⟩
 unfold find at hq
 split at hq
 ·rename_i hk
  cases hq
  subst hk
  exact ⟨⟨_,Tryz.func244,by kernel_rfl,by kernel_rfl⟩,fun args H out H' hc G w vs pre => zlH hc pre⟩
 ·cases hq
open Go.RowKit Go.WideMaps Go.WideElems
set_option maxRecDepth 100000
def zoW (i:Nat):Int:=[0,1,8,16,32,64,64,0].getD i 0
theorem gDec:Tryz.prog.globalNamed "capnp/pointer.decoders" = some 4:=by kernel_rfl
theorem tDec:(Tryz.prog.globals[4]?).map (·.type) = some 293:=by kernel_rfl
theorem zoG (W:World):(zeroValue 240).run Tryz.prog W = .ok .nilFunc W:=by kernel_rfl
def zoP:DataW (List UInt8):=.map [(.int .i64 0,.held [99,97,112,110,112,47,112,111,105,110,116,101,114,46,100,101,99,111,100,101,114,115,36,49]),(.int .i64 1,.held [99,97,112,110,112,47,112,111,105,110,116,101,114,46,100,101,99,111,100,101,114,115,36,50]),(.int .i64 2,.held [99,97,112,110,112,47,112,111,105,110,116,101,114,46,100,101,99,111,100,101,114,115,36,51]),(.int .i64 3,.held [99,97,112,110,112,47,112,111,105,110,116,101,114,46,100,101,99,111,100,101,114,115,36,52])]
def zmx (w:World):Prop:=∃ bm es clock,w.cell? ⟨4,0,none⟩ = some (.map (some bm)) ∧ w.heap[bm]? = some (.map es clock) ∧
  ∀ W:World,W.heap[bm]? = some (.map es clock) →
   (Instr.lookup 293 (.map (some bm)) (.int .i64 0) false).run Tryz.prog W = .ok (.func (.func 341) #[] #[]) W ∧
   (Instr.lookup 293 (.map (some bm)) (.int .i64 1) false).run Tryz.prog W = .ok (.func (.func 343) #[] #[]) W ∧
   (Instr.lookup 293 (.map (some bm)) (.int .i64 2) false).run Tryz.prog W = .ok (.func (.func 344) #[] #[]) W ∧
   (Instr.lookup 293 (.map (some bm)) (.int .i64 3) false).run Tryz.prog W = .ok (.func (.func 345) #[] #[]) W
theorem zc9 {W:World} {l:List (String × DataW Unit)} (h:laidMetH Tryz.prog l W) (hm:("capnp/pointer.decoders",Rows.laid_capnp_pointer_decoders) ∈ l):zmx W:=by
 obtain ⟨g,t,cs,fuel,p,hg,ht,hv,hd⟩:=h.funcs hm
 obtain rfl:=Option.some.inj (gDec.symm.trans hg)
 obtain rfl:=Option.some.inj (tDec.symm.trans ht)
 have hd':DataW.trod (funcToken Tryz.prog) Tryz.prog W 0 (fun _ => true) true fuel 293 cs.toList = some (zoP,p):=hd
 rcases open_map Tryz.underlying293 hd' with ⟨_,hx⟩ | ⟨bm,es,clock,n,rfl,hcs,hb,_,F,hx⟩
 ·simp [zoP] at hx
 simp only [Prod.mk.injEq] at hx
 have hcell:W.cell? ⟨4,0,none⟩ = some (.map (some bm)):=by
  have:=World.var?_cell hg hv 0
  rw [Array.eq_one_of_toList hcs] at this
  simpa using this
 refine ⟨bm,es,clock,hcell,hb,fun W' hb' => ?_⟩
 have key:∀ (k:Int) (f:FuncId) (b:UInt8) (r:List UInt8),(Lit.int .i64 k).wf = true → (∀ zd,DataW.atKey (.map ((es.toList.map (rg Tryz.prog 3 (elemAt (funcToken Tryz.prog) Tryz.prog W 0 (fun _ => true) true n 240))).foldr DataW.insert [])) (.int .i64 k) zd = .held (b :: r)) →
   ((List.range Tryz.prog.funcs.size).filter fun f => (Tryz.prog.funcs[f]?).any (·.name.toUTF8.data.toList == b :: r)) = [f] →
   (Instr.lookup 293 (.map (some bm)) (.int .i64 k) false).run Tryz.prog W' = .ok (.func (.func f) #[] #[]) W':=by
  intro k f b r hwf hat0 hone
  rcases Maps.fit_look false (Maps.int_keyed Tryz.underlying3) Tryz.underlying293 (zoG W') hb' F (Maps.keyOf_int_mk Tryz.underlying3 hwf) with ⟨_,_,hat⟩ | ⟨e0,y,_,_,hrun,hRv,hat,_⟩
  ·have:=hat .nil
   rw [hat0] at this
   cases this
  ·have h1:=hat .nil
   rw [hat0] at h1
   obtain ⟨y1,y2⟩:=y
   simp only at h1
   subst h1
   unfold elemAt at hRv
   split at hRv
   ·rename_i hf
    have hv1:e0.val.cells.toList = [e0.val]:=by
     cases he:e0.val <;> simp_all [Value.cells,Value.formed,Tryz.underlying240]
    rw [hv1] at hRv
    have:=func_of_trod Tryz.underlying240 hone hRv
    rw [this] at hrun
    simpa using hrun
   ·cases hRv
 exact ⟨key 0 341 _ _ rfl (fun zd => by rw [← hx.1]; rfl) (by kernel_rfl),key 1 343 _ _ rfl (fun zd => by rw [← hx.1]; rfl) (by kernel_rfl),key 2 344 _ _ rfl (fun zd => by rw [← hx.1]; rfl) (by kernel_rfl),key 3 345 _ _ rfl (fun zd => by rw [← hx.1]; rfl) (by kernel_rfl)⟩
theorem zm9:Tryz.prog.globalNamed "capnp/listsize.bits" = some 5:=by kernel_rfl
theorem zoA:(Tryz.prog.globals[5]?).map (·.type) = some 304:=by kernel_rfl
abbrev senL:List (String × DataW Unit):=[("capnp/unpack.errTruncated",Rows.laid_capnp_unpack_errTruncated),("capnp/unpack.errLimit",Rows.laid_capnp_unpack_errLimit),("capnp/listsize.bits",Rows.laid_capnp_listsize_bits)]
theorem zbE {W:World} {l:List (String × DataW Unit)} (h:laidMetH Tryz.prog l W) (hf:l.filter (fun x => x.2.handleName?.isNone) = senL):∀ i:Nat,i < 8 → W.cell? ⟨5,i,none⟩ = some (.int .i64 (zoW i)):=by
 have h1:=(laidMetH_iff.1 h).1
 rw [hf] at h1
 have h2:=h1.filter (fun x => x.1 == "capnp/listsize.bits")
 have e:senL.filter (fun x => x.1 == "capnp/listsize.bits") = [("capnp/listsize.bits",Rows.laid_capnp_listsize_bits)]:=by kernel_rfl
 rw [e] at h2
 have ht:Lib.TabIs Tryz.prog W "capnp/listsize.bits" .i64 [0,1,8,16,32,64,64,0]:=Lib.tabIs_of_head (rest:=[]) zm9 zoA Tryz.underlying304 Tryz.underlying3 (by kernel_rfl) (by kernel_rfl) h2
 exact fun i hi => ht.cell zm9 i hi
theorem gTr:Tryz.prog.globalNamed "capnp/unpack.errTruncated" = some 2:=by kernel_rfl
theorem tTr:(Tryz.prog.globals[2]?).map (·.type) = some 88:=by kernel_rfl
theorem gLi:Tryz.prog.globalNamed "capnp/unpack.errLimit" = some 1:=by kernel_rfl
theorem tLi:(Tryz.prog.globals[1]?).map (·.type) = some 88:=by kernel_rfl
theorem zkh : "*" ++ "errors.errorString" = "*errors.errorString":=by decide
theorem zol (u:TypeId) (h:Tryz.prog.typeName? 3 u = some "*errors.errorString"):u = 331 :=
 typeName_ptr_named (nm:= "errors.errorString") (by rw [zkh]; kernel_rfl) (by kernel_rfl) (by decide) u (by rw [zkh]; exact h)
theorem zdC {W:World} {l:List (String × DataW Unit)} (h:laidMetH Tryz.prog l W) (hf:l.filter (fun x => x.2.handleName?.isNone) = senL) :
  ∃ (a0 a1:Addr) (c0 c1:Array Value) (t0 t1:TypeId),W.cell? ⟨2,0,none⟩ = some (.iface 331 (.pointer (some a0))) ∧ W.cell? ⟨1,0,none⟩ = some (.iface 331 (.pointer (some a1))) ∧ a0 ≠ a1 ∧
   W.heap[a0.block]? = some (.cells c0 t0 (0,0)) ∧ W.heap[a1.block]? = some (.cells c1 t1 (0,0)):=by
 have h1:=(laidMetH_iff.1 h).1
 rw [hf] at h1
 obtain ⟨a0,a1,s0,s1,c0,c1,t0,t1,hv0,hv1,_,_,_,_,_,_,hne,hb0,hb1⟩:=laid_sentinels2 (ti:=88) (tp:=331) (te:=353) (ts:=9) h1 gTr tTr gLi tLi Tryz.underlying88 zol Tryz.underlying331 Tryz.underlying353 rfl rfl Tryz.underlying9 (by kernel_rfl) (by kernel_rfl)
 refine ⟨a0,a1,c0,c1,t0,t1,?_,?_,hne,hb0,hb1⟩
 ·simpa using World.var?_cell gTr hv0 0
 ·simpa using World.var?_cell gLi hv1 0
theorem etG:Tryz.prog.globalNamed "errors.errorType" = some 3:=by kernel_rfl
theorem rtT:(Tryz.prog.cutTypes.find? (·.1 == "internal/reflectlite.rtype")).map (·.2) = some 265:=by kernel_rfl
theorem zom:((List.range Tryz.prog.types.size).filter fun t => Tryz.prog.rowNamed t [101,114,114,111,114]) = [88]:=by kernel_rfl
theorem JA {W:World} {l:List (String × DataW Unit)} (h:laidMetH Tryz.prog l W) (hm:("errors.errorType",Rows.laid_errors_errorType) ∈ l):W.cell? ⟨3,0,none⟩ = some (.iface 265 (.agg #[.pointer (some ⟨6,88,none⟩)])):=by
 have h2:=(laidMetH_iff.1 h).2
 obtain ⟨name,u,ty,e1,e2,e3,e4,e5⟩:=h2 _ (List.mem_filter.2 ⟨hm,rfl⟩)
 have en:name = [101,114,114,111,114]:=(Option.some.inj e1).symm
 subst en
 obtain rfl:=Option.some.inj (rtT.symm.trans e2)
 have hm2:ty ∈ (List.range Tryz.prog.types.size).filter fun t => Tryz.prog.rowNamed t [101,114,114,111,114]:=List.mem_filter.2 ⟨List.mem_range.2 e3,e4⟩
 rw [zom] at hm2
 obtain rfl:=List.mem_singleton.1 hm2
 have hh:typeHandle Tryz.prog 88 = .pointer (some ⟨6,88,none⟩):=by kernel_rfl
 rw [hh] at e5
 simpa using World.var?_cell etG e5 0
theorem zjm {w:World} (h:zmx w):∃ v c,g0 w 4 = some c ∧ c[0]? = some v ∧ MRel Tryz.prog env (G0 w) w 4 v:=by
 obtain ⟨bm,es,clock,h1,h2,h3⟩:=h
 obtain ⟨_,c,hc,hv⟩:=YB h1
 refine ⟨_,c,hc,hv,bm,es,clock,rfl,if_pos (Array.getElem?_eq_some_iff.1 h2).1,h2,fun W hW l n p hl hp => ?_⟩
 obtain rfl:l = (293,[(0,341),(1,343),(2,344),(3,345)]):=(Option.some.inj hl).symm
 obtain ⟨k0,k1,k2,k3⟩:=h3 W hW
 simp only [List.find?_cons,List.find?_nil] at hp
 split at hp
 ·rename_i hn; cases hp; obtain rfl:(0:Int) = n:=by simpa using hn
  exact k0
 ·split at hp
  ·rename_i hn; cases hp; obtain rfl:(1:Int) = n:=by simpa using hn
   exact k1
  ·split at hp
   ·rename_i hn; cases hp; obtain rfl:(2:Int) = n:=by simpa using hn
    exact k2
   ·split at hp
    ·rename_i hn; cases hp; obtain rfl:(3:Int) = n:=by simpa using hn
     exact k3
    ·cases hp
theorem zg6 {w:World} (h:∀ i:Nat,i < 8 → w.cell? ⟨5,i,none⟩ = some (.int .i64 (zoW i))):ERel (G0 w) (.agg [.v (.int .i64 0),.v (.int .i64 1),.v (.int .i64 8),.v (.int .i64 16),.v (.int .i64 32),.v (.int .i64 64),.v (.int .i64 64),.v (.int .i64 0)]) 0 (.pointer (some ⟨5,0,none⟩)):=by
 obtain ⟨_,c,hc,h7⟩:=YB (h 7 (by decide))
 have hsz:=(Array.getElem?_eq_some_iff.1 h7).1
 refine ⟨_,c,0,hc,rfl,?_,fun j q u hq hu => ?_⟩
 ·show 0 + 8 ≤ c.size
  simp only at hsz
  omega
 ·have hj:j < 8:=(List.getElem?_eq_some_iff.1 hq).1
  obtain ⟨_,c',hc',hj'⟩:=YB (h j hj)
  obtain rfl:c = c':=Option.some.inj (hc.symm.trans hc')
  rw [Nat.zero_add] at hu
  simp only at hj'
  rw [hj'] at hu
  cases hu
  match j,hj with
  | 0,_ | 1,_ | 2,_ | 3,_ | 4,_ | 5,_ | 6,_ | 7,_ => cases hq; exact ⟨rfl,.v rfl⟩
theorem zeb {w:World} {g:Nat} {t:TypeId} {a:Addr} (h:w.cell? ⟨g,0,none⟩ = some (.iface t (.pointer (some a)))):ERel (G0 w) (.sen g) 0 (.pointer (some ⟨g,0,none⟩)):=by
 obtain ⟨_,c,hc,h0⟩:=YB h
 refine ⟨_,c,0,hc,rfl,?_,fun j q u hq hu => ?_⟩
 ·have:=(Array.getElem?_eq_some_iff.1 h0).1
  show 0 + 1 ≤ c.size
  simp only at this
  omega
 ·match j,hq with
  | 0,hq =>
   cases hq
   rw [Nat.zero_add] at hu
   simp only at h0
   rw [h0] at hu
   cases hu
   exact ⟨rfl,.sen hc h0⟩
  | j + 1,hq => cases hq
theorem Yj {g:Nat} {p:PV} (h:find env.glob g = some p):(g = 5 ∧ p = .agg [.v (.int .i64 0),.v (.int .i64 1),.v (.int .i64 8),.v (.int .i64 16),.v (.int .i64 32),.v (.int .i64 64),.v (.int .i64 64),.v (.int .i64 0)]) ∨ (g = 1 ∧ p = .sen 1) ∨ (g = 2 ∧ p = .sen 2):=by
 have he:env.glob = [(5,.agg [.v (.int .i64 0),.v (.int .i64 1),.v (.int .i64 8),.v (.int .i64 16),.v (.int .i64 32),.v (.int .i64 64),.v (.int .i64 64),.v (.int .i64 0)]),(1,.sen 1),(2,.sen 2)]:=rfl
 rw [he] at h
 unfold find at h
 split at h
 ·rename_i hk; cases h; exact .inl ⟨hk.symm,rfl⟩
 unfold find at h
 split at h
 ·rename_i hk; cases h; exact .inr (.inl ⟨hk.symm,rfl⟩)
 unfold find at h
 split at h
 ·rename_i hk; cases h; exact .inr (.inr ⟨hk.symm,rfl⟩)
 ·cases h
theorem zdH {w:World} {l:List (String × DataW Unit)} (h:laidMetH Tryz.prog l w) (hm:("capnp/pointer.decoders",Rows.laid_capnp_pointer_decoders) ∈ l) (hm2:("errors.errorType",Rows.laid_errors_errorType) ∈ l) (hf:l.filter (fun x => x.2.handleName?.isNone) = senL):WOk Tryz.prog env (G0 w) w:=by
 obtain ⟨a0,a1,c0,c1,t0,t1,hv0,hv1,hne,hb0,hb1⟩:=zdC h hf
 obtain ⟨_,d0,hd0,he0⟩:=YB hv0
 obtain ⟨_,d1,hd1,he1⟩:=YB hv1
 refine zpf (fun g l hl => ?_) (fun g p hp => ?_) (fun g hg => ?_) (fun g1 g2 x1 x2 h1 h2 hn e1 e2 => ?_) (fun g v hv => ?_)
 ·have hg:g = 4:=by
   have he:env.maps = [(4,(293,[(0,341),(1,343),(2,344),(3,345)]))]:=rfl
   rw [he] at hl
   unfold find at hl
   split at hl
   ·rename_i hk; exact hk.symm
   ·cases hl
  subst hg
  exact zjm (zc9 h hm)
 ·rcases Yj hp with ⟨rfl,rfl⟩ | ⟨rfl,rfl⟩ | ⟨rfl,rfl⟩
  ·exact zg6 (zbE h hf)
  ·exact zeb hv1
  ·exact zeb hv0
 ·rcases Yj hg with ⟨rfl,e⟩ | ⟨rfl,e⟩ | ⟨rfl,e⟩
  ·cases e
  ·exact ⟨d1,a1,c1,t1,hd1,he1,hb1⟩
  ·exact ⟨d0,a0,c0,t0,hd0,he0,hb0⟩
 ·have key:∀ x:Value,(Value.iface 331 (.pointer (some a0))) = x → (Value.iface 331 (.pointer (some a1))) = x → False:=fun x k1 k2 => by
   rw [← k1] at k2
   injection k2 with _ k2; injection k2 with k2; injection k2 with k2
   exact hne k2.symm
  rcases Yj h1 with ⟨rfl,e⟩ | ⟨rfl,e⟩ | ⟨rfl,e⟩
  ·cases e
  ·rcases Yj h2 with ⟨rfl,e'⟩ | ⟨rfl,e'⟩ | ⟨rfl,e'⟩
   ·cases e'
   ·exact absurd rfl hn
   ·obtain rfl:=Option.some.inj (hd1.symm.trans e1)
    obtain rfl:=Option.some.inj (hd0.symm.trans e2)
    intro k
    simp only at he0 he1
    rw [he1,he0] at k
    exact key _ rfl (Option.some.inj k)
  ·rcases Yj h2 with ⟨rfl,e'⟩ | ⟨rfl,e'⟩ | ⟨rfl,e'⟩
   ·cases e'
   ·obtain rfl:=Option.some.inj (hd0.symm.trans e1)
    obtain rfl:=Option.some.inj (hd1.symm.trans e2)
    intro k
    simp only at he0 he1
    rw [he1,he0] at k
    exact key _ (Option.some.inj k) rfl
   ·exact absurd rfl hn
 ·have he:env.fix = [(3,.iface 265 (.agg #[.pointer (some ⟨6,88,none⟩)]))]:=rfl
  rw [he] at hv
  unfold find at hv
  split at hv
  ·rename_i hk
   cases hv
   subst hk
   obtain ⟨_,c,k1,k2⟩:=YB (JA h hm2)
   exact ⟨c,k1,k2⟩
  ·cases hv
open Go.RowKit
set_option maxRecDepth 100000
def zhl (n:Int):Prop:=(Lit.int .i64 n).wf = true
theorem zgG {n:Int} (h:zhl n):-9223372036854775808 ≤ n ∧ n ≤ 9223372036854775807:=by
 have:=h
 simp [zhl,Lit.wf,IntKind.min,IntKind.max,IntKind.signed,IntKind.bits] at this
 omega
theorem ziN {n:Int} (h:(Lit.int .u8 n).wf = true):yq n:=by
 simp [Lit.wf,IntKind.min,IntKind.max,IntKind.signed,IntKind.bits] at h
 unfold yq
 omega
abbrev zg1:Enc (List Int):=eSl (zm6 .u8)
theorem KP {H:Type} {l:List Int} {x:DataW H} (h:DS (DI .u8) l x):Bytes l:=⟨h.1,fun n hn => by obtain ⟨y,hy⟩:=h.mem hn; exact ziN hy.2⟩
theorem zeM {H:Type} {enc:TypeId × Value → H} {w:World} (n:Nat):RdsAt enc Tryz.prog w n 22 zg1 (DS (DI .u8)):=by
 cases n with
 | zero => exact RdsAt.zero _ _ _
 | succ n => exact RdsAt.slice Tryz.underlying22 (by kernel_rfl) (by decide) (RdsAt.int Tryz.underlying5)
noncomputable def hsh (l:List (List Int)) (d w:Int):Int:=if W5 l d w = 0 then zcS off (byt (zaz l d w)) else 0
theorem zkL {D:Nat} {x:Nd} (h:Ok D x) (hb:yh D x ≤ 134217728):ev 109 [.pv x.x] [] = ok (U (zcS off (byt (QG D x)))):=by
 have h1:=zf8 h hb
 have hl:=WN h
 have h2:=zod (l:=QG D x) (by omega)
 dsimp only [Nd.x] at h1 ⊢
 rw [zb3,h1]
 dsimp only [za,zb,zf,zpi,zj,zm,zq,zk,zs,zn,zK,zM,zL,pU8,zpg,zph,zi,zg,zc,zh,ze,zA,zv,zr,zo,zJ,zI,zF,zG,zH,len8,zD,zC,zt,zu]
 rw [yO]
 dsimp only [za,zb,zf,zpi,zj,zm,zq,zk,zs,zn,zK,zM,zL,pU8,zpg,zph,zi,zg,zc,zh,ze,zA,zv,zr,zo,zJ,zI,zF,zG,zH,len8,zD,zC,zt,zu]
 rw [h2]
 rfl
theorem zmF {l:List (List Int)} (hl:xZ l) (hs:Sm l) {d w b:Int} (hd:d ≤ 1099511627775) (hw:w ≤ 134217728):ev 58 [.pv (.sl 1 (sgs l)),.pv (.agg [I d,I w,I b])] [] = ok (.tup [U (hsh l d w),I (W5 l d w)]):=by
 rw [KA,Vz,QZ hl hs hd (by omega)]
 dsimp only [Nd.x,↓cl5,za,zb,zf,zpi,zj,zm,zq,zk,zs,zn,zK,zM,zL,pU8,zpg,zph,zi,zg,zc,zh,ze,zA,zv,zr,zo,zJ,zI,zF,zG,zH,len8,zD,zC,zt,zu]
 unfold hsh zaz
 by_cases h0:W5 l d w = 0
 ·obtain ⟨ho,hb,_⟩:=W6 hl hs hw h0
  have h1:=zkL ho hb
  dsimp only [Nd.x] at h1
  rw [h0,show ((0:Int) == 0) = true from rfl,if_pos rfl,if_pos rfl]
  dsimp only [↓cl5,za,zb,zf,zpi,zj,zm,zq,zk,zs,zn,zK,zM,zL,pU8,zpg,zph,zi,zg,zc,zh,ze,zA,zv,zr,zo,zJ,zI,zF,zG,zH,len8,zD,zC,zt,zu]
  rw [h1]
  rfl
 ·rw [beq_eq_false_iff_ne.2 h0,if_neg h0]
  rfl
def hA:Int:=zcS off (byt [0])
def hB:Int:=zcS off (byt [4294967296,5])
theorem j1:xZ [[0]] ∧ Sm [[0]]:=w5 (by decide) (by intro x hx; simp at hx; unfold xI; omega)
theorem j2:xZ [[4294967296,5]] ∧ Sm [[4294967296,5]]:=w5 (by decide) (by intro x hx; simp at hx; unfold xI; omega)
theorem zpc:ev 42 [.pv (.sl 1 [U8 0,U8 0,U8 0,U8 0,U8 0,U8 0,U8 0,U8 0])] [] = ok (U hA):=by
 have h:=zob (l:=[0,0,0,0,0,0,0,0]) (by intro b hb; simp at hb; unfold yq; omega) (by decide)
 rw [show zcS off [0,0,0,0,0,0,0,0] = hA from by kernel_rfl] at h
 exact h
theorem zlZ {b:List Int}:∀ (c i:Nat) (rest:List Int) (l:List (List Int)),(∀ x ∈ rest,yq x) → Jj b c i rest = some l → l.length = c ∧ ∀ s ∈ l,(∀ x ∈ s,xI x) ∧ 8 * s.length ≤ rest.length:=by
 intro c
 induction c with
 | zero =>
  intro i rest l hr h
  rw [Jj] at h
  split at h
  ·cases h
   exact ⟨rfl,fun s hs => by cases hs⟩
  ·cases h
 | succ c ih =>
  intro i rest l hr h
  rw [Jj] at h
  split at h
  ·rename_i h1
   cases hq:Jj b c (i + 1) (rest.drop (8 * (le4 b i).toNat)) with
   | none => rw [hq] at h; cases h
   | some t =>
    rw [hq] at h
    cases h
    obtain ⟨h2,h3⟩:=ih (i + 1) _ t (xr hr _) hq
    refine ⟨by simp [h2],fun s hs => ?_⟩
    rcases List.mem_cons.1 hs with rfl | hs
    ·refine ⟨vj _ (Ke hr _),?_⟩
     rw [yp]
     omega
    ·obtain ⟨h4,h5⟩:=h3 s hs
     rw [List.length_drop] at h5
     exact ⟨h4,by omega⟩
  ·cases h
theorem KQ {b:List Int} (hb:∀ x ∈ b,yq x) (hl:b.length ≤ 1099511627776) {l:List (List Int)} (h:Xt b = some l):xZ l ∧ Sm l:=by
 unfold Xt at h
 split at h
 ·cases h
 split at h
 ·cases h
 split at h
 ·cases h
 split at h
 ·cases h
 rename_i h1 h2 h3 h4
 obtain ⟨h5,h6⟩:=zlZ _ _ _ _ (xr hb _) h
 have hd:(b.drop (tbl (le4 b 0 + 1).toNat)).length ≤ b.length:=by rw [List.length_drop]; omega
 refine ⟨⟨by omega,fun s hs => ?_⟩,fun s => ?_⟩
 ·obtain ⟨h7,h8⟩:=h6 s hs
  exact ⟨by omega,h7⟩
 ·unfold rdL
  rw [List.getD_eq_getElem?_getD]
  cases hq:l[s.toNat]? with
  | none => simp
  | some t =>
   obtain ⟨h7,h8⟩:=h6 t (List.mem_of_getElem? hq)
   rw [Option.getD_some]
   omega
noncomputable def mE (b:List Int) (d w:Int):Int:=match Xt b with
 | some l => W5 l d w
 | none => 1
noncomputable def znW (b:List Int) (d w:Int):List Int:=match Xt b with
 | some l => if W5 l d w = 0 then zoU (zaz l d w) else []
 | none => []
noncomputable def mN (b:List Int) (d w:Int):Nd:=Qb ((Xt b).getD []) d w
open Classical in
noncomputable def eqM (a b:List Int) (d w:Int):Bool:=if mE a d w = 0 ∧ mE b d w = 0 then eqB (mN a d w) (mN b d w) else false
noncomputable def mEE (a b:List Int) (d w:Int):Int:=if mE a d w = 0 then mE b d w else mE a d w
noncomputable def mH (b:List Int) (d w:Int):Int:=match Xt b with
 | some l => hsh l d w
 | none => 0
def zi5 (e:Int):PV:=if e = 0 then .v .nilIface else .ifc 152 (.agg [I e])
theorem xU (e:Int):Y9 (.pv (zi5 e)) = some (decide (e = 0)):=by
 unfold zi5
 split
 ·rename_i h; rw [h]; rfl
 ·rename_i h; rw [decide_eq_false h]; rfl
theorem zbt (e:Int):ev 104 [.pv (I e)] [] = ok (zi5 e):=by
 rw [KG]
 unfold zi5
 by_cases h:e = 0
 ·rw [h]; rfl
 ·rw [if_neg h,beq_eq_false_iff_ne.2 h]; rfl
theorem zfc (e:Int):ev 56 [.pv (zi5 e)] [] = ok (I e):=by
 rw [VC]
 unfold zi5
 by_cases h:e = 0
 ·rw [h]; rfl
 ·rw [if_neg h]; rfl
theorem zgc {d w b:Int} (hd:d ≤ 1000) (hw:w ≤ 268435455):ev 55 [.pv (.agg [I d,I w,I b])] [] = ok (.agg [I d,I w,I b]):=by
 rw [XV,if_neg (by omega),if_neg (by omega)]
theorem Yx {b:List Int} (hb:∀ x ∈ b,yq x) (hl:b.length ≤ 1099511627776):ev 57 [.pv (.sl 1 (bs b))] [] = ok (.tup [.sl 1 (sgs ((Xt b).getD [])),zi5 (if Xt b = none then 1 else 0)]):=by
 rw [Qo,zkH hb hl]
 cases h:Xt b with
 | none =>
  dsimp only [zfE,za,zb,zf,zpi,zj,zm,zq,zk,zs,zn,zK,zM,zL,pU8,zpg,zph,zi,zg,zc,zh,ze,zA,zv,zr,zo,zJ,zI,zF,zG,zH,len8,zD,zC,zt,zu]
  rw [zbt]
  rfl
 | some l =>
  dsimp only [zfE,za,zb,zf,zpi,zj,zm,zq,zk,zs,zn,zK,zM,zL,pU8,zpg,zph,zi,zg,zc,zh,ze,zA,zv,zr,zo,zJ,zI,zF,zG,zH,len8,zD,zC,zt,zu]
  rw [zbt]
  rfl
theorem zk6 {l:List (List Int)} (hl:xZ l) (hs:Sm l) {d w:Int} (hw:w ≤ 134217728) (h0:W5 l d w = 0):(zaz l d w).length < 536870912:=by
 obtain ⟨ho,hb,hx⟩:=W6 hl hs hw h0
 obtain ⟨_,_,_,_,_,_,h7,_⟩:=zgM hl hs hw h0
 omega
theorem Jm {b:List Int} (hb:∀ x ∈ b,yq x) (hl:b.length ≤ 1099511627776) {d w o:Int} (hd:d ≤ 1099511627775) (hw:w ≤ 134217728):ev 54 [.pv (.sl 1 (bs b)),.pv (.agg [I d,I w,I o])] [] = some (.ret (.tup 0 (.slu 5 1 (bs (znW b d w))) [.v .nilIface,zi5 (mE b d w)]),[]):=by
 rw [YG,Yx hb hl]
 unfold znW mE
 cases h:Xt b with
 | none =>
  rw [if_pos rfl]
  dsimp only [za,zb,zf,zpi,zj,zm,zq,zk,zs,zn,zK,zM,zL,pU8,zpg,zph,zi,zg,zc,zh,ze,zA,zv,zr,zo,zJ,zI,zF,zG,zH,len8,zD,zC,zt,zu]
  rw [xU]
  rfl
 | some l =>
  obtain ⟨h1,h2⟩:=KQ hb hl h
  rw [if_neg (by simp),Option.getD_some]
  dsimp only [za,zb,zf,zpi,zj,zm,zq,zk,zs,zn,zK,zM,zL,pU8,zpg,zph,zi,zg,zc,zh,ze,zA,zv,zr,zo,zJ,zI,zF,zG,zH,len8,zD,zC,zt,zu]
  rw [xU,zmC h1 h2 hd hw]
  dsimp only [za,zb,zf,zpi,zj,zm,zq,zk,zs,zn,zK,zM,zL,pU8,zpg,zph,zi,zg,zc,zh,ze,zA,zv,zr,zo,zJ,zI,zF,zG,zH,len8,zD,zC,zt,zu]
  by_cases h0:W5 l d w = 0
  ·rw [h0,show ((0:Int) != 0) = false from rfl,zoz,if_pos h0,if_pos rfl]
   dsimp only [za,zb,zf,zpi,zj,zm,zq,zk,zs,zn,zK,zM,zL,pU8,zpg,zph,zi,zg,zc,zh,ze,zA,zv,zr,zo,zJ,zI,zF,zG,zH,len8,zD,zC,zt,zu]
   have hS:=zmA (zk6 h1 h2 hw h0)
   have hS':ev 105 [.pv (.sl 1 [.sl 1 (ws (zaz l d w))])] [] = _:=hS
   rw [hS']
   dsimp only [za,zb,zf,zpi,zj,zm,zq,zk,zs,zn,zK,zM,zL,pU8,zpg,zph,zi,zg,zc,zh,ze,zA,zv,zr,zo,zJ,zI,zF,zG,zH,len8,zD,zC,zt,zu]
   rw [WE]
   dsimp only [za,zb,zf,zpi,zj,zm,zq,zk,zs,zn,zK,zM,zL,pU8,zpg,zph,zi,zg,zc,zh,ze,zA,zv,zr,zo,zJ,zI,zF,zG,zH,len8,zD,zC,zt,zu]
   rw [yO]
   dsimp only [za,zb,zf,zpi,zj,zm,zq,zk,zs,zn,zK,zM,zL,pU8,zpg,zph,zi,zg,zc,zh,ze,zA,zv,zr,zo,zJ,zI,zF,zG,zH,len8,zD,zC,zt,zu]
   rw [zbt]
   rfl
  ·rw [Yy h0,if_neg h0]
   dsimp only [za,zb,zf,zpi,zj,zm,zq,zk,zs,zn,zK,zM,zL,pU8,zpg,zph,zi,zg,zc,zh,ze,zA,zv,zr,zo,zJ,zI,zF,zG,zH,len8,zD,zC,zt,zu]
   rw [zbt]
   rfl
theorem zkF {b:List Int} (hb:∀ x ∈ b,yq x) (hl:b.length ≤ 1099511627776) {d w o:Int} (hd:d ≤ 1000) (hw:w ≤ 134217728):ev 16 [.pv (.sl 1 (bs b)),.pv (.agg [I d,I w,I o])] [] = some (.ret (.tup 0 (.slu 5 1 (bs (znW b d w))) [.v .nilIface,I (mE b d w)]),[]):=by
 rw [YF,zgc hd (by omega)]
 dsimp only [za,zb,zf,zpi,zj,zm,zq,zk,zs,zn,zK,zM,zL,pU8,zpg,zph,zi,zg,zc,zh,ze,zA,zv,zr,zo,zJ,zI,zF,zG,zH,len8,zD,zC,zt,zu]
 rw [Jm hb hl (by omega) hw]
 dsimp only [za,zb,zf,zpi,zj,zm,zq,zk,zs,zn,zK,zM,zL,pU8,zpg,zph,zi,zg,zc,zh,ze,zA,zv,zr,zo,zJ,zI,zF,zG,zH,len8,zD,zC,zt,zu]
 rw [WE]
 dsimp only [za,zb,zf,zpi,zj,zm,zq,zk,zs,zn,zK,zM,zL,pU8,zpg,zph,zi,zg,zc,zh,ze,zA,zv,zr,zo,zJ,zI,zF,zG,zH,len8,zD,zC,zt,zu]
 rw [yO]
 dsimp only [za,zb,zf,zpi,zj,zm,zq,zk,zs,zn,zK,zM,zL,pU8,zpg,zph,zi,zg,zc,zh,ze,zA,zv,zr,zo,zJ,zI,zF,zG,zH,len8,zD,zC,zt,zu]
 rw [zfc]
 rfl
theorem zj8 {b:List Int} (hb:∀ x ∈ b,yq x) (hl:b.length ≤ 1099511627776) {d w o:Int} (hd:d ≤ 1099511627775) (hw:w ≤ 134217728):ev 59 [.pv (.sl 1 (bs b)),.pv (.agg [I d,I w,I o])] [] = ok (.tup [.sl 1 (sgs ((Xt b).getD [])),zi5 (mE b d w)]):=by
 rw [KH,Yx hb hl]
 unfold mE
 cases h:Xt b with
 | none =>
  rw [if_pos rfl]
  dsimp only [za,zb,zf,zpi,zj,zm,zq,zk,zs,zn,zK,zM,zL,pU8,zpg,zph,zi,zg,zc,zh,ze,zA,zv,zr,zo,zJ,zI,zF,zG,zH,len8,zD,zC,zt,zu]
  rw [xU]
  rfl
 | some l =>
  obtain ⟨h1,h2⟩:=KQ hb hl h
  rw [if_neg (by simp),Option.getD_some]
  dsimp only [za,zb,zf,zpi,zj,zm,zq,zk,zs,zn,zK,zM,zL,pU8,zpg,zph,zi,zg,zc,zh,ze,zA,zv,zr,zo,zJ,zI,zF,zG,zH,len8,zD,zC,zt,zu]
  rw [xU,QY h1 h2 hd (by omega)]
  dsimp only [za,zb,zf,zpi,zj,zm,zq,zk,zs,zn,zK,zM,zL,pU8,zpg,zph,zi,zg,zc,zh,ze,zA,zv,zr,zo,zJ,zI,zF,zG,zH,len8,zD,zC,zt,zu]
  rw [zbt]
  rfl
theorem zdP {a b:List Int} (ha:∀ x ∈ a,yq x) (hla:a.length ≤ 1099511627776) (hb:∀ x ∈ b,yq x) (hl:b.length ≤ 1099511627776) {d w o:Int} (hd:d ≤ 1000) (hw:w ≤ 134217728):ev 18 [.pv (.sl 1 (bs a)),.pv (.sl 1 (bs b)),.pv (.agg [I d,I w,I o])] [] = ok (.tup [Bo (eqM a b d w),I (mEE a b d w)]):=by
 rw [Qn,zgc hd (by omega)]
 dsimp only [za,zb,zf,zpi,zj,zm,zq,zk,zs,zn,zK,zM,zL,pU8,zpg,zph,zi,zg,zc,zh,ze,zA,zv,zr,zo,zJ,zI,zF,zG,zH,len8,zD,zC,zt,zu]
 rw [zj8 ha hla (by omega) hw]
 dsimp only [za,zb,zf,zpi,zj,zm,zq,zk,zs,zn,zK,zM,zL,pU8,zpg,zph,zi,zg,zc,zh,ze,zA,zv,zr,zo,zJ,zI,zF,zG,zH,len8,zD,zC,zt,zu]
 rw [xU]
 unfold eqM mEE
 by_cases h0:mE a d w = 0
 ·rw [decide_eq_true h0,if_pos h0]
  dsimp only [za,zb,zf,zpi,zj,zm,zq,zk,zs,zn,zK,zM,zL,pU8,zpg,zph,zi,zg,zc,zh,ze,zA,zv,zr,zo,zJ,zI,zF,zG,zH,len8,zD,zC,zt,zu]
  rw [zj8 hb hl (by omega) hw]
  dsimp only [za,zb,zf,zpi,zj,zm,zq,zk,zs,zn,zK,zM,zL,pU8,zpg,zph,zi,zg,zc,zh,ze,zA,zv,zr,zo,zJ,zI,zF,zG,zH,len8,zD,zC,zt,zu]
  rw [xU]
  by_cases h1:mE b d w = 0
  ·obtain ⟨la,e1⟩:∃ l,Xt a = some l:=by
    unfold mE at h0
    split at h0
    ·rename_i l h; exact ⟨l,h⟩
    ·cases h0
   obtain ⟨lb,e2⟩:∃ l,Xt b = some l:=by
    unfold mE at h1
    split at h1
    ·rename_i l h; exact ⟨l,h⟩
    ·cases h1
   obtain ⟨a1,a2⟩:=KQ ha hla e1
   obtain ⟨b1,b2⟩:=KQ hb hl e2
   have e3:mE a d w = W5 la d w:=by unfold mE; rw [e1]
   have e4:mE b d w = W5 lb d w:=by unfold mE; rw [e2]
   rw [decide_eq_true h1,if_pos ⟨h0,h1⟩,e1,e2,Option.getD_some,Option.getD_some]
   dsimp only [za,zb,zf,zpi,zj,zm,zq,zk,zs,zn,zK,zM,zL,pU8,zpg,zph,zi,zg,zc,zh,ze,zA,zv,zr,zo,zJ,zI,zF,zG,zH,len8,zD,zC,zt,zu]
   rw [zir a1 a2 b1 b2 (by omega) (by omega)]
   have hE:cE la lb d w = W5 lb d w:=by unfold cE; rw [if_pos (by omega)]
   have hB:cB la lb d w = eqB (mN a d w) (mN b d w):=by
    unfold cB mN
    rw [if_pos (by rw [hE]; omega),e1,e2]
    rfl
   rw [hE,hB,e4]
   rfl
  ·rw [decide_eq_false h1,if_neg (fun h => h1 h.2)]
   dsimp only [za,zb,zf,zpi,zj,zm,zq,zk,zs,zn,zK,zM,zL,pU8,zpg,zph,zi,zg,zc,zh,ze,zA,zv,zr,zo,zJ,zI,zF,zG,zH,len8,zD,zC,zt,zu]
   rw [zfc]
   rfl
 ·rw [decide_eq_false h0,if_neg h0,if_neg (fun h => h0 h.1)]
  dsimp only [za,zb,zf,zpi,zj,zm,zq,zk,zs,zn,zK,zM,zL,pU8,zpg,zph,zi,zg,zc,zh,ze,zA,zv,zr,zo,zJ,zI,zF,zG,zH,len8,zD,zC,zt,zu]
  rw [zfc]
  rfl
theorem zkM {b:List Int} (hb:∀ x ∈ b,yq x) (hl:b.length ≤ 1099511627776) {d w o:Int} (hd:d ≤ 1000) (hw:w ≤ 134217728):ev 17 [.pv (.sl 1 (bs b)),.pv (.agg [I d,I w,I o])] [] = ok (.tup [U (mH b d w),I (mE b d w)]):=by
 rw [KF,Yx hb hl]
 unfold mH mE
 cases h:Xt b with
 | none =>
  rw [if_pos rfl]
  dsimp only [za,zb,zf,zpi,zj,zm,zq,zk,zs,zn,zK,zM,zL,pU8,zpg,zph,zi,zg,zc,zh,ze,zA,zv,zr,zo,zJ,zI,zF,zG,zH,len8,zD,zC,zt,zu]
  rw [xU]
  dsimp only [za,zb,zf,zpi,zj,zm,zq,zk,zs,zn,zK,zM,zL,pU8,zpg,zph,zi,zg,zc,zh,ze,zA,zv,zr,zo,zJ,zI,zF,zG,zH,len8,zD,zC,zt,zu]
  rw [show (!decide ((1:Int) = 0)) = true from rfl]
  dsimp only [za,zb,zf,zpi,zj,zm,zq,zk,zs,zn,zK,zM,zL,pU8,zpg,zph,zi,zg,zc,zh,ze,zA,zv,zr,zo,zJ,zI,zF,zG,zH,len8,zD,zC,zt,zu]
  rw [zfc]
  rfl
 | some l =>
  obtain ⟨h1,h2⟩:=KQ hb hl h
  rw [if_neg (by simp),Option.getD_some]
  dsimp only [za,zb,zf,zpi,zj,zm,zq,zk,zs,zn,zK,zM,zL,pU8,zpg,zph,zi,zg,zc,zh,ze,zA,zv,zr,zo,zJ,zI,zF,zG,zH,len8,zD,zC,zt,zu]
  rw [xU,zgc hd (by omega)]
  dsimp only [za,zb,zf,zpi,zj,zm,zq,zk,zs,zn,zK,zM,zL,pU8,zpg,zph,zi,zg,zc,zh,ze,zA,zv,zr,zo,zJ,zI,zF,zG,zH,len8,zD,zC,zt,zu]
  rw [zmF h1 h2 (by omega) hw]
  rfl
def nzb (c:Int):Int:=if c = 0 then 0 else 1
def Wf:List Int → Int
 | [] => 0
 | c :: l => nzb c + 2 * Wf l
def nz (l:List Int):List Int:=l.filter fun c => !decide (c = 0)
theorem zhr (c:Int):0 ≤ nzb c ∧ nzb c ≤ 1:=by unfold nzb; split <;> omega
theorem K8:∀ (l:List Int) (c:Int),Wf (l ++ [c]) = Wf l + nzb c * 2 ^ l.length
 | [],c => by simp [Wf]
 | d :: l,c => by
  show nzb d + 2 * Wf (l ++ [c]) = nzb d + 2 * Wf l + nzb c * 2 ^ (l.length + 1)
  rw [K8 l c,Int.pow_succ,Int.mul_add,← Int.mul_assoc,Int.mul_comm 2 (nzb c),Int.mul_comm (2 ^ l.length) 2,← Int.mul_assoc]
  omega
theorem K7:∀ l:List Int,0 ≤ Wf l ∧ Wf l < 2 ^ l.length
 | [] => by decide
 | c :: l => by
  have:=K7 l
  have h:=zhr c
  rw [zpk,Int.pow_succ]
  unfold Wf
  omega
theorem XO {l:List Int} {i:Nat} (h:i < l.length):l.take (i + 1) = l.take i ++ [l.getD i 0]:=by
 rw [List.take_succ_eq_append_getElem h,List.getD_eq_getElem?_getD,List.getElem?_eq_getElem h]
 rfl
theorem znn:∀ (i:Fin 8) (t:Fin 128),t.val < 2 ^ i.val → IntKind.wrap .u8 (BitVec.ofInt 8 (t.val:Int) ||| BitVec.ofInt 8 (IntKind.wrap .u8 (1 * 2 ^ (min (IntKind.wrap .u64 (i.val:Int)).toNat 8)))).toNat = (t.val:Int) + 2 ^ i.val:=by decide +kernel
theorem znk:∀ i:Fin 8,wI .shl (IntKind.wrap .u64 (i.val:Int)) = true:=by decide +kernel
theorem znl:∀ i:Fin 8,wI .shr (IntKind.wrap .u64 (i.val:Int)) = true:=by decide +kernel
theorem zlG {l:List Int} (h8:l.length = 8):∀ (c i:Nat),i + c = 8 → va (Wf (l.take i)) (.sl 1 (bs l)) 8 i = ok (U8 (Wf l)):=by
 intro c
 induction c with
 | zero =>
  intro i hi
  rw [YY,decide_eq_false (by omega),List.take_of_length_le (by omega)]
  rfl
 | succ c ih =>
  intro i hi
  have hg:(bs l)[(i:Int).toNat]? = some (U8 (l.getD i 0)):=ZL rfl (by omega)
  have hn:=ih (i + 1) (by omega)
  have hr:=K7 (l.take i)
  have hp:(2:Int) ^ i ≤ 128:=by
   have:(2:Nat) ^ i ≤ 2 ^ 7:=Nat.pow_le_pow_right (by decide) (by omega)
   exact_mod_cast this
  rw [XO (by omega),K8,List.length_take,Nat.min_eq_left (by omega)] at hn
  rw [List.length_take,Nat.min_eq_left (by omega)] at hr
  rw [YY,decide_eq_true (show (i:Int) < 8 by omega)]
  dsimp only [za,zb,zf,zpi,zj,zm,zq,zk,zs,zn,zK,zM,zL,pU8,zpg,zph,zi,zg,zc,zh,ze,zA,zv,zr,zo,zJ,zI,zF,zG,zH,len8,zD,zC,zt,zu]
  rw [zV,h8,decide_eq_true (show 0 ≤ (i:Int) by omega),decide_eq_true (show (i:Int) < ((8:Nat):Int) by omega),show decide ((1:Nat) = 1) = true from rfl]
  dsimp only [za,zb,zf,zpi,zj,zm,zq,zk,zs,zn,zK,zM,zL,pU8,zpg,zph,zi,zg,zc,zh,ze,zA,zv,zr,zo,zJ,zI,zF,zG,zH,len8,zD,zC,zt,zu]
  rw [hg]
  dsimp only [za,zb,zf,zpi,zj,zm,zq,zk,zs,zn,zK,zM,zL,pU8,zpg,zph,zi,zg,zc,zh,ze,zA,zv,zr,zo,zJ,zI,zF,zG,zH,len8,zD,zC,zt,zu]
  rw [w64 (x:=(i:Int) + 1) (by omega)]
  by_cases h0:l.getD i 0 = 0
  ·rw [h0,show ((0:Int) != 0) = false from rfl]
   rw [h0,show nzb 0 = 0 from rfl,Int.zero_mul,Int.add_zero] at hn
   exact hn
  ·have hq:=znn ⟨i,by omega⟩ ⟨(Wf (l.take i)).toNat,by omega⟩ (by
    have:((Wf (l.take i)).toNat:Int) < ((2 ^ i:Nat):Int):=by push_cast; omega
    exact_mod_cast this)
   have hs:=znk ⟨i,by omega⟩
   dsimp only at hq hs
   rw [show ((Wf (l.take i)).toNat:Int) = Wf (l.take i) by omega] at hq
   rw [Yy h0,hs,hq]
   rw [show nzb (l.getD i 0) = 1 from if_neg h0,Int.one_mul] at hn
   exact hn
theorem zlB {l:List Int} (h8:l.length = 8):∀ (c i:Nat),i + c = 8 → xW (bs (nz (l.take i))) (.sl 1 (bs l)) 8 i = ok (.sl 1 (bs (nz l))):=by
 intro c
 induction c with
 | zero =>
  intro i hi
  rw [Zy,decide_eq_false (by omega),List.take_of_length_le (by omega)]
  rfl
 | succ c ih =>
  intro i hi
  have hg:(bs l)[(i:Int).toNat]? = some (U8 (l.getD i 0)):=ZL rfl (by omega)
  have hn:=ih (i + 1) (by omega)
  have hf:(nz (l.take i)).length ≤ 8:=by
   have:=List.length_filter_le (fun c:Int => !decide (c = 0)) (l.take i)
   rw [List.length_take] at this
   unfold nz
   omega
  rw [XO (by omega)] at hn
  rw [Zy,decide_eq_true (show (i:Int) < 8 by omega)]
  dsimp only [za,zb,zf,zpi,zj,zm,zq,zk,zs,zn,zK,zM,zL,pU8,zpg,zph,zi,zg,zc,zh,ze,zA,zv,zr,zo,zJ,zI,zF,zG,zH,len8,zD,zC,zt,zu]
  rw [zV,h8,decide_eq_true (show 0 ≤ (i:Int) by omega),decide_eq_true (show (i:Int) < ((8:Nat):Int) by omega),show decide ((1:Nat) = 1) = true from rfl]
  dsimp only [za,zb,zf,zpi,zj,zm,zq,zk,zs,zn,zK,zM,zL,pU8,zpg,zph,zi,zg,zc,zh,ze,zA,zv,zr,zo,zJ,zI,zF,zG,zH,len8,zD,zC,zt,zu]
  rw [hg]
  dsimp only [za,zb,zf,zpi,zj,zm,zq,zk,zs,zn,zK,zM,zL,pU8,zpg,zph,zi,zg,zc,zh,ze,zA,zv,zr,zo,zJ,zI,zF,zG,zH,len8,zD,zC,zt,zu]
  rw [w64 (x:=(i:Int) + 1) (by omega)]
  by_cases h0:l.getD i 0 = 0
  ·rw [h0,show ((0:Int) != 0) = false from rfl]
   rw [h0,show nz (l.take i ++ [0]) = nz (l.take i) by simp [nz]] at hn
   exact hn
  ·rw [Yy h0,zV,yb (by omega) (by omega)]
   rw [show nz (l.take i ++ [l.getD i 0]) = nz (l.take i) ++ [l.getD i 0] by simp only [nz,List.filter_append,List.filter_cons,decide_eq_false h0]; rfl,Zr] at hn
   exact hn
theorem zak (w:Int):ev 117 [.pv (.sl 1 [U w])] [] = ok (.sl 1 (bs (w8 w))):=by
 have:=Wj [w] (show 1 ≤ 17592186044416 by decide)
 rw [show byt [w] = w8 w from List.append_nil _] at this
 exact this
def Qh (w:Int):Int:=Wf (w8 w)
def nzW (w:Int):List Int:=nz (w8 w)
theorem zbc (w:Int):0 ≤ Qh w ∧ Qh w < 256:=by
 have:=K7 (w8 w)
 rw [xA,show (2:Int) ^ 8 = 256 from rfl] at this
 exact this
theorem zdk (w:Int):(nzW w).length ≤ 8:=by
 have:=List.length_filter_le (fun c:Int => !decide (c = 0)) (w8 w)
 rw [xA] at this
 exact this
theorem zoI (w:Int):ev 115 [.pv (U w)] [] = ok (U8 (Qh w)):=by
 rw [zbd,zak]
 dsimp only [za,zb,zf,zpi,zj,zm,zq,zk,zs,zn,zK,zM,zL,pU8,zpg,zph,zi,zg,zc,zh,ze,zA,zv,zr,zo,zJ,zI,zF,zG,zH,len8,zD,zC,zt,zu]
 rw [zV]
 exact zlG (xA w) 8 0 rfl
theorem zoY (w:Int):ev 185 [.pv (U w)] [] = ok (.sl 1 (bs (nzW w))):=by
 rw [Qw,zak]
 dsimp only [za,zb,zf,zpi,zj,zm,zq,zk,zs,zn,zK,zM,zL,pU8,zpg,zph,zi,zg,zc,zh,ze,zA,zv,zr,zo,zJ,zI,zF,zG,zH,len8,zD,zC,zt,zu]
 rw [zV]
 exact zlB (xA w) 8 0 rfl
theorem zf4 {t:Int} (h:0 ≤ t ∧ t < 256):ev 188 [.pv (U8 t)] [] = ok (I (pop8 t.toNat)):=by
 rw [K9,YE]
 unfold zn0
 rw [decide_eq_true h.1,decide_eq_true h.2]
 rfl
noncomputable def dns (w:Int):Bool:=decide ((pop8 (Qh w).toNat:Int) ≥ 7)
theorem zkG (w:Int):ev 114 [.pv (U w)] [] = ok (Bo (dns w)):=by
 rw [Qx,zoI]
 dsimp only [za,zb,zf,zpi,zj,zm,zq,zk,zs,zn,zK,zM,zL,pU8,zpg,zph,zi,zg,zc,zh,ze,zA,zv,zr,zo,zJ,zI,zF,zG,zH,len8,zD,zC,zt,zu]
 rw [zf4 (zbc w)]
 rfl
def runN (p:Int → Bool):Nat → List Int → Nat
 | 0,_ => 0
 | _ + 1,[] => 0
 | k + 1,x :: l => if p x = true then runN p k l + 1 else 0
theorem YK (p:Int → Bool):∀ (k:Nat) (l:List Int),runN p k l ≤ k ∧ runN p k l ≤ l.length
 | 0,_ => ⟨Nat.zero_le _,Nat.zero_le _⟩
 | _ + 1,[] => ⟨Nat.zero_le _,Nat.zero_le _⟩
 | k + 1,x :: l => by
  have:=YK p k l
  rw [runN,zpk]
  split <;> omega
def is0 (x:Int):Bool:=x == 0
theorem zjH {l:List Int} (hl:l.length ≤ 17592186044416):∀ (c n:Nat),n + c = 255 → YI (ws l) n = ok (I (n + runN is0 c (l.drop n):Nat)):=by
 intro c
 induction c with
 | zero =>
  intro n hn
  rw [Wc,ym,decide_eq_false (show ¬ (n:Int) < 255 by omega)]
  by_cases h:(n:Int) < l.length
  ·rw [decide_eq_true h]; rfl
  ·rw [decide_eq_false h]; rfl
 | succ c ih =>
  intro n hn
  rw [Wc,ym,decide_eq_true (show (n:Int) < 255 by omega)]
  by_cases h:n < l.length
  ·have hn1:=ih (n + 1) (by omega)
   have hg:(ws l)[(n:Int).toNat]? = some (U l[n]):=Y2 h
   rw [decide_eq_true (show (n:Int) < l.length by omega),decide_eq_true (show 0 ≤ (n:Int) by omega),hg]
   dsimp only [za,zb,zf,zpi,zj,zm,zq,zk,zs,zn,zK,zM,zL,pU8,zpg,zph,zi,zg,zc,zh,ze,zA,zv,zr,zo,zJ,zI,zF,zG,zH,len8,zD,zC,zt,zu]
   rw [KO,List.drop_eq_getElem_cons h,runN]
   dsimp only [za,zb,zf,zpi,zj,zm,zq,zk,zs,zn,zK,zM,zL,pU8,zpg,zph,zi,zg,zc,zh,ze,zA,zv,zr,zo,zJ,zI,zF,zG,zH,len8,zD,zC,zt,zu]
   by_cases h0:l[n] = 0
   ·rw [h0,show ((0:Int) == 0) = true from rfl,show is0 0 = true from rfl,if_pos rfl,w64 (x:=(n:Int) + 1) (by omega)]
    rw [show n + (runN is0 c (l.drop (n + 1)) + 1) = n + 1 + runN is0 c (l.drop (n + 1)) by omega]
    exact hn1
   ·have h1:(l[n] == 0) = false:=beq_eq_false_iff_ne.2 h0
    rw [h1,show is0 l[n] = false from h1,if_neg (by decide)]
    rfl
  ·rw [decide_eq_false (show ¬ (n:Int) < l.length by omega),List.drop_eq_nil_of_le (by omega)]
   rfl
theorem zhT {l:List Int} (hl:l.length ≤ 17592186044416):∀ (c n:Nat),n + c = 255 → vB (ws l) n = ok (I (n + runN dns c (l.drop n):Nat)):=by
 intro c
 induction c with
 | zero =>
  intro n hn
  rw [Yo,ym,decide_eq_false (show ¬ (n:Int) < 255 by omega)]
  by_cases h:(n:Int) < l.length
  ·rw [decide_eq_true h]; rfl
  ·rw [decide_eq_false h]; rfl
 | succ c ih =>
  intro n hn
  rw [Yo,ym,decide_eq_true (show (n:Int) < 255 by omega)]
  by_cases h:n < l.length
  ·have hn1:=ih (n + 1) (by omega)
   have hg:(ws l)[(n:Int).toNat]? = some (U l[n]):=Y2 h
   rw [decide_eq_true (show (n:Int) < l.length by omega),decide_eq_true (show 0 ≤ (n:Int) by omega),hg]
   dsimp only [za,zb,zf,zpi,zj,zm,zq,zk,zs,zn,zK,zM,zL,pU8,zpg,zph,zi,zg,zc,zh,ze,zA,zv,zr,zo,zJ,zI,zF,zG,zH,len8,zD,zC,zt,zu]
   rw [zkG,List.drop_eq_getElem_cons h,runN]
   dsimp only [za,zb,zf,zpi,zj,zm,zq,zk,zs,zn,zK,zM,zL,pU8,zpg,zph,zi,zg,zc,zh,ze,zA,zv,zr,zo,zJ,zI,zF,zG,zH,len8,zD,zC,zt,zu]
   cases h0:dns l[n] with
   | true =>
    rw [if_pos rfl,w64 (x:=(n:Int) + 1) (by omega)]
    rw [show n + (runN dns c (l.drop (n + 1)) + 1) = n + 1 + runN dns c (l.drop (n + 1)) by omega]
    exact hn1
   | false =>
    rw [if_neg (by decide)]
    rfl
  ·rw [decide_eq_false (show ¬ (n:Int) < l.length by omega),List.drop_eq_nil_of_le (by omega)]
   rfl
theorem zmL {l:List Int} (hl:l.length ≤ 17592186044416):ev 186 [.pv (.sl 1 (ws l)),.pv (.v (.func (.func 187) #[] #[]))] [] = ok (I (runN is0 255 l:Nat)):=by
 rw [zdp]
 have:=zjH hl 255 0 rfl
 rw [Nat.zero_add] at this
 exact this
theorem zmM {l:List Int} (hl:l.length ≤ 17592186044416):ev 186 [.pv (.sl 1 (ws l)),.pv (.v (.func (.func 114) #[] #[]))] [] = ok (I (runN dns 255 l:Nat)):=by
 rw [JC]
 have:=zhT hl 255 0 rfl
 rw [Nat.zero_add] at this
 exact this
noncomputable def pk:Nat → List Int → List Int
 | 0,_ => []
 | _ + 1,[] => []
 | f + 1,w :: l =>
  if Qh w = 0 then Qh w :: nzW w ++ ((runN is0 255 l:Int) :: pk f (l.drop (runN is0 255 l)))
  else if Qh w = 255 then Qh w :: nzW w ++ ((runN dns 255 l:Int) :: (byt (l.take (runN dns 255 l)) ++ pk f (l.drop (runN dns 255 l))))
  else Qh w :: nzW w ++ pk f l
theorem zmm (w:Int) (t:List Int):((ws (w :: t)).take ((ws (w :: t)).length:Int).toNat).drop 1 = ws t:=by
 rw [Int.toNat_natCast,List.take_of_length_le (Nat.le_refl _)]
 rfl
theorem zif (t:List Int) (n:Nat):((ws t).take ((ws t).length:Int).toNat).drop (n:Int).toNat = ws (t.drop n):=by
 rw [Int.toNat_natCast,Int.toNat_natCast,List.take_of_length_le (Nat.le_refl _)]
 simp [ws]
theorem zmk (t:List Int) (n:Nat):((ws t).take (n:Int).toNat).drop 0 = ws (t.take n):=by
 rw [Int.toNat_natCast,List.drop_zero]
 simp [ws]
theorem Vo (a:List Int) (x:Int):bs a ++ [U8 x] = bs (a ++ [x]):=by simp [bs]
theorem zhx:∀ (f:Nat) (l out:List Int),l.length ≤ f → out.length + 16 * l.length ≤ 17592186044416 → wn (ws l) (bs out) = ok (.sl 1 (bs (out ++ pk f l))):=by
 intro f
 induction f with
 | zero =>
  intro l out hl ho
  have:l = []:=List.length_eq_zero_iff.1 (by omega)
  rw [this,vN,pk,List.append_nil]
  rfl
 | succ f ih =>
  intro l out hl ho
  cases l with
  | nil =>
   rw [vN,pk,List.append_nil]
   rfl
  | cons w t =>
   rw [zpk] at hl ho
   have hz:=zdk w
   have ht:=zbc w
   rw [vN,decide_eq_true (show (((ws (w :: t)).length:Nat):Int) > 0 by rw [ym,zpk]; omega),show (ws (w :: t))[0]? = some (U w) from rfl,zmm]
   dsimp only [za,zb,zf,zpi,zj,zm,zq,zk,zs,zn,zK,zM,zL,pU8,zpg,zph,zi,zg,zc,zh,ze,zA,zv,zr,zo,zJ,zI,zF,zG,zH,len8,zD,zC,zt,zu]
   rw [zoI]
   dsimp only [za,zb,zf,zpi,zj,zm,zq,zk,zs,zn,zK,zM,zL,pU8,zpg,zph,zi,zg,zc,zh,ze,zA,zv,zr,zo,zJ,zI,zF,zG,zH,len8,zD,zC,zt,zu]
   rw [zoY,zV,yb (by omega) (by omega)]
   dsimp only [za,zb,zf,zpi,zj,zm,zq,zk,zs,zn,zK,zM,zL,pU8,zpg,zph,zi,zg,zc,zh,ze,zA,zv,zr,zo,zJ,zI,zF,zG,zH,len8,zD,zC,zt,zu]
   rw [Vo,zV,zV,yb (by rw [zpj]; show (_ + 1 + _) * 1 ≤ _; omega) (by rw [zpj]; show _ + 1 + _ ≤ _; omega),decide_eq_true (show 1 ≤ (((ws (w :: t)).length:Nat):Int) by rw [ym,zpk]; omega),decide_eq_true (Int.le_refl _),← Zr]
   dsimp only [za,zb,zf,zpi,zj,zm,zq,zk,zs,zn,zK,zM,zL,pU8,zpg,zph,zi,zg,zc,zh,ze,zA,zv,zr,zo,zJ,zI,zF,zG,zH,len8,zD,zC,zt,zu]
   have hlen:(out ++ [Qh w] ++ nzW w).length ≤ out.length + 9:=by simp; omega
   by_cases h0:Qh w = 0
   ·have hrn:=YK is0 255 t
    rw [beq_iff_eq.2 h0,zmL (by omega)]
    dsimp only [za,zb,zf,zpi,zj,zm,zq,zk,zs,zn,zK,zM,zL,pU8,zpg,zph,zi,zg,zc,zh,ze,zA,zv,zr,zo,zJ,zI,zF,zG,zH,len8,zD,zC,zt,zu]
    rw [zV,yb (by omega) (by omega),ym,decide_eq_true (show 0 ≤ ((runN is0 255 t:Nat):Int) by omega),decide_eq_true (show ((runN is0 255 t:Nat):Int) ≤ (t.length:Int) by omega),decide_eq_true (Int.le_refl _),← ym t,zif,YQ,show ((runN is0 255 t:Nat):Int) % 256 = ((runN is0 255 t:Nat):Int) by omega,Vo]
    dsimp only [za,zb,zf,zpi,zj,zm,zq,zk,zs,zn,zK,zM,zL,pU8,zpg,zph,zi,zg,zc,zh,ze,zA,zv,zr,zo,zJ,zI,zF,zG,zH,len8,zD,zC,zt,zu]
    rw [ih _ _ (by rw [List.length_drop]; omega) (by rw [zpj,List.length_drop]; show _ + 1 + _ ≤ _; omega),pk,if_pos h0]
    simp only [List.append_assoc,List.cons_append,zpl]
    rfl
   ·rw [beq_eq_false_iff_ne.2 h0]
    dsimp only [za,zb,zf,zpi,zj,zm,zq,zk,zs,zn,zK,zM,zL,pU8,zpg,zph,zi,zg,zc,zh,ze,zA,zv,zr,zo,zJ,zI,zF,zG,zH,len8,zD,zC,zt,zu]
    by_cases h1:Qh w = 255
    ·have hrn:=YK dns 255 t
     rw [beq_iff_eq.2 h1,zmM (by omega)]
     dsimp only [za,zb,zf,zpi,zj,zm,zq,zk,zs,zn,zK,zM,zL,pU8,zpg,zph,zi,zg,zc,zh,ze,zA,zv,zr,zo,zJ,zI,zF,zG,zH,len8,zD,zC,zt,zu]
     have hB:=Wj (t.take (runN dns 255 t)) (by rw [List.length_take]; omega)
     have hbl:(byt (t.take (runN dns 255 t))).length = 8 * runN dns 255 t:=by rw [yX,List.length_take]; omega
     rw [zV,yb (by omega) (by omega),ym,decide_eq_true (show 0 ≤ ((runN dns 255 t:Nat):Int) by omega),decide_eq_true (show ((runN dns 255 t:Nat):Int) ≤ (t.length:Int) by omega),zmk,hB]
     dsimp only [za,zb,zf,zpi,zj,zm,zq,zk,zs,zn,zK,zM,zL,pU8,zpg,zph,zi,zg,zc,zh,ze,zA,zv,zr,zo,zJ,zI,zF,zG,zH,len8,zD,zC,zt,zu]
     rw [YQ,show ((runN dns 255 t:Nat):Int) % 256 = ((runN dns 255 t:Nat):Int) by omega,Vo,zV,zV,hbl,yb (by rw [zpj]; show (_ + 1 + _) * 1 ≤ _; omega) (by rw [zpj]; show _ + 1 + _ ≤ _; omega),decide_eq_true (Int.le_refl _),← Zr,← ym t,zif]
     dsimp only [za,zb,zf,zpi,zj,zm,zq,zk,zs,zn,zK,zM,zL,pU8,zpg,zph,zi,zg,zc,zh,ze,zA,zv,zr,zo,zJ,zI,zF,zG,zH,len8,zD,zC,zt,zu]
     rw [ih _ _ (by rw [List.length_drop]; omega) (by rw [zpj,zpj,List.length_drop,hbl]; show _ + 1 + _ + _ ≤ _; omega),pk,if_neg h0,if_pos h1]
     simp only [List.append_assoc,List.cons_append,zpl]
     rfl
    ·rw [beq_eq_false_iff_ne.2 h1]
     dsimp only [za,zb,zf,zpi,zj,zm,zq,zk,zs,zn,zK,zM,zL,pU8,zpg,zph,zi,zg,zc,zh,ze,zA,zv,zr,zo,zJ,zI,zF,zG,zH,len8,zD,zC,zt,zu]
     rw [ih _ _ (by omega) (by omega),pk,if_neg h0,if_neg h1]
     simp only [List.append_assoc,List.cons_append,zpl]
     rfl
noncomputable def pack (l:List Int):List Int:=pk l.length l
theorem zkR {l:List Int} (hl:l.length ≤ 1099511627776):ev 113 [.pv (.sl 1 (ws l))] [] = ok (.sl 1 (bs (pack l))):=by
 rw [zaW]
 exact zhx l.length l [] (Nat.le_refl _) (by show 0 + _ ≤ _; omega)
theorem zkQ {b:List Int} (hb:∀ x ∈ b,yq x) (hl:b.length ≤ 1099511627776) {n:Nat} (hn:8 * n = b.length):ev 61 [.pv (.sl 1 (bs b))] [] = ok (.tup [.sl 1 (bs (pack (xi n b))),I 0]):=by
 rw [zaV,zao hb hl hn]
 dsimp only [za,zb,zf,zpi,zj,zm,zq,zk,zs,zn,zK,zM,zL,pU8,zpg,zph,zi,zg,zc,zh,ze,zA,zv,zr,zo,zJ,zI,zF,zG,zH,len8,zD,zC,zt,zu]
 rw [zkR (by rw [yp]; omega)]
 rfl
def w7:Nat → Int → Nat
 | 0,_ => 0
 | n + 1,t => (if t % 2 = 1 then 1 else 0) + w7 n (t / 2)
theorem pop8_eq:∀ t:Fin 256,pop8 t.val = w7 8 (t.val:Int):=by decide +kernel
theorem zhD {t:Int} (h:0 ≤ t ∧ t < 256):pop8 t.toNat = w7 8 t:=by
 have:=pop8_eq ⟨t.toNat,by omega⟩
 dsimp only at this
 rw [this,Int.toNat_of_nonneg h.1]
theorem zhC:∀ (n:Nat) (t:Int),w7 n t ≤ n
 | 0,_ => Nat.le_refl _
 | n + 1,t => by
  have:=zhC n (t / 2)
  rw [w7]
  split <;> omega
theorem zl3:∀ (i:Fin 8) (t:Fin 256),((IntKind.wrap .u8 (BitVec.ofInt 8 (Int.fdiv (t.val:Int) (2 ^ (min (IntKind.wrap .u64 (i.val:Int)).toNat 8))) &&& BitVec.ofInt 8 1).toNat) == 1) = decide ((t.val:Int) / 2 ^ i.val % 2 = 1):=by decide +kernel
def Jw:Nat → Int → List Int → List Int
 | 0,_,_ => []
 | n + 1,t,b => if t % 2 = 1 then b.headD 0 :: Jw n (t / 2) b.tail else 0 :: Jw n (t / 2) b
def zcT:List Int → Int
 | [] => 0
 | c :: l => c + 256 * zcT l
theorem zec:∀ (n:Nat) (t:Int) (b:List Int),(Jw n t b).length = n
 | 0,_,_ => rfl
 | n + 1,t,b => by
  rw [Jw]
  split <;> simp [zec n]
theorem Kw:∀ (n:Nat) (t:Int) {b:List Int},(∀ x ∈ b,yq x) → ∀ x ∈ Jw n t b,yq x
 | 0,_,_,_,x,hx => by cases hx
 | n + 1,t,b,hb,x,hx => by
  have h0:yq 0:=by unfold yq; omega
  rw [Jw] at hx
  split at hx
  ·rcases List.mem_cons.1 hx with rfl | hx
   ·cases b with
    | nil => exact h0
    | cons y l => exact hb y (List.mem_cons_self ..)
   ·exact Kw n _ (fun y hy => hb y (List.mem_of_mem_tail hy)) x hx
  ·rcases List.mem_cons.1 hx with rfl | hx
   ·exact h0
   ·exact Kw n _ hb x hx
theorem zaj:∀ {l:List Int},(∀ x ∈ l,yq x) → 0 ≤ zcT l ∧ zcT l < 256 ^ l.length
 | [],_ => by decide
 | c :: l,h => by
  have h1:=zaj (l:=l) fun x hx => h x (List.mem_cons_of_mem _ hx)
  have h2:=h c (List.mem_cons_self ..)
  unfold yq at h2
  rw [zpk,Int.pow_succ]
  unfold zcT
  omega
def exW (t:Int) (b:List Int):Int:=zcT (Jw 8 t b)
theorem zi8 {b:List Int} (hb:∀ x ∈ b,yq x) (hl:b.length ≤ 17592186044416) {t:Int} (ht:0 ≤ t ∧ t < 256) (p2:PV):∀ (c i k:Nat) (w:Int),i + c = 8 → k + w7 c (t / 2 ^ i) ≤ b.length → 0 ≤ w ∧ w < 2 ^ (8 * i) →
  xG t (bs b) p2 (U w) k i = ok (.tup [U (w + 2 ^ (8 * i) * zcT (Jw c (t / 2 ^ i) (b.drop k))),p2,Bo true]):=by
 intro c
 induction c with
 | zero =>
  intro i k w hi hk hw
  rw [Za,decide_eq_false (by omega),Jw]
  show ok _ = _
  rw [zcT,Int.mul_zero,Int.add_zero]
 | succ c ih =>
  intro i k w hi hk hw
  have hs:=znl ⟨i,by omega⟩
  have hbit:=zl3 ⟨i,by omega⟩ ⟨t.toNat,by omega⟩
  dsimp only at hs hbit
  rw [Int.toNat_of_nonneg ht.1] at hbit
  have hdiv:t / 2 ^ i / 2 = t / 2 ^ (i + 1):=by rw [Int.pow_succ,Int.ediv_ediv_of_nonneg (Int.pow_nonneg (by decide))]
  have hpow:(2:Int) ^ (8 * (i + 1)) = 2 ^ (8 * i) * 256:=by rw [show 8 * (i + 1) = 8 * i + 8 by omega,Int.pow_add]; rfl
  have hpos:(0:Int) < 2 ^ (8 * i):=Int.pow_pos (by decide)
  rw [w7,hdiv] at hk
  rw [Za,decide_eq_true (show (i:Int) < 8 by omega),hs,hbit,w64 (x:=(i:Int) + 1) (by omega),Jw,hdiv]
  by_cases h1:t / 2 ^ i % 2 = 1
  ·rw [if_pos h1] at hk
   have hg:(bs b)[(k:Int).toNat]? = some (U8 (b.getD k 0)):=ZL rfl (by omega)
   have hv:=z5 hb k
   rw [decide_eq_true h1,if_pos h1,zV,decide_eq_true (show 0 ≤ (k:Int) by omega),decide_eq_true (show (k:Int) < b.length by omega),hg]
   dsimp only [za,zb,zf,zpi,zj,zm,zq,zk,zs,zn,zK,zM,zL,pU8,zpg,zph,zi,zg,zc,zh,ze,zA,zv,zr,zo,zJ,zI,zF,zG,zH,len8,zD,zC,zt,zu]
   rw [zcU (x:=b.getD k 0) (by omega),w64 (x:=8 * (i:Int)) (by omega),w64 (x:=(k:Int) + 1) (by omega),show 8 * (i:Int) = ((8 * i:Nat):Int) by push_cast; rfl]
   have hI:=wU (w:=w) (v:=b.getD k 0) (i:=8 * i) (m:=8) hw (by omega) (by decide) (by omega)
   rw [show (2:Int) ^ 8 = 256 from rfl,show b.getD k 0 % 256 = b.getD k 0 by omega] at hI
   have hI':ev 291 [.pv (U w),.pv (I ((8 * i:Nat):Int)),.pv (I 8),.pv (U (b.getD k 0))] [] = _:=hI
   rw [hI']
   dsimp only [za,zb,zf,zpi,zj,zm,zq,zk,zs,zn,zK,zM,zL,pU8,zpg,zph,zi,zg,zc,zh,ze,zA,zv,zr,zo,zJ,zI,zF,zG,zH,len8,zD,zC,zt,zu]
   have hm:b.getD k 0 * 2 ^ (8 * i) ≤ 255 * 2 ^ (8 * i):=Int.mul_le_mul_of_nonneg_right (by omega) (by omega)
   have hm0:0 ≤ b.getD k 0 * 2 ^ (8 * i):=Int.mul_nonneg (by omega) (by omega)
   have:=ih (i + 1) (k + 1) (w + b.getD k 0 * 2 ^ (8 * i)) (by omega) (by omega) (by rw [hpow]; omega)
   refine this.trans ?_
   have e1:(b.drop k).tail = b.drop (k + 1):=by rw [List.tail_drop]
   have e2:(b.drop k).headD 0 = b.getD k 0:=by rw [List.headD_eq_head?_getD,List.head?_drop,List.getD_eq_getElem?_getD]
   rw [e1,e2,zcT,hpow]
   generalize zcT (Jw c (t / 2 ^ (i + 1)) (b.drop (k + 1))) = v
   rw [Int.mul_add,Int.mul_comm (2 ^ (8 * i)) (b.getD k 0),Int.mul_assoc,Int.add_assoc]
  ·rw [if_neg h1] at hk
   rw [decide_eq_false h1,if_neg h1]
   dsimp only [za,zb,zf,zpi,zj,zm,zq,zk,zs,zn,zK,zM,zL,pU8,zpg,zph,zi,zg,zc,zh,ze,zA,zv,zr,zo,zJ,zI,zF,zG,zH,len8,zD,zC,zt,zu]
   have:=ih (i + 1) k w (by omega) (by omega) (by rw [hpow]; omega)
   refine this.trans ?_
   rw [zcT,hpow]
   generalize zcT (Jw c (t / 2 ^ (i + 1)) (b.drop k)) = v
   rw [Int.zero_add,Int.mul_assoc]
theorem zf2 {b:List Int} {t:Int} (ht:0 ≤ t ∧ t < 256) (h:b.length < w7 8 t):ev 266 [.pv (U8 t),.pv (.sl 1 (bs b))] [] = ok (.tup [U 0,I 0,Bo false]):=by
 rw [Ys,zf4 ht,zhD ht]
 dsimp only [za,zb,zf,zpi,zj,zm,zq,zk,zs,zn,zK,zM,zL,pU8,zpg,zph,zi,zg,zc,zh,ze,zA,zv,zr,zo,zJ,zI,zF,zG,zH,len8,zD,zC,zt,zu]
 rw [zV,decide_eq_true (by omega)]
 rfl
theorem zf3 {b:List Int} (hb:∀ x ∈ b,yq x) (hl:b.length ≤ 17592186044416) {t:Int} (ht:0 ≤ t ∧ t < 256) (h:w7 8 t ≤ b.length):ev 266 [.pv (U8 t),.pv (.sl 1 (bs b))] [] = ok (.tup [U (exW t b),I (w7 8 t),Bo true]):=by
 rw [Ys,zf4 ht,zhD ht]
 dsimp only [za,zb,zf,zpi,zj,zm,zq,zk,zs,zn,zK,zM,zL,pU8,zpg,zph,zi,zg,zc,zh,ze,zA,zv,zr,zo,zJ,zI,zF,zG,zH,len8,zD,zC,zt,zu]
 rw [zV,decide_eq_false (by omega)]
 have:=zi8 hb hl ht (I (w7 8 t)) 8 0 0 0 rfl (by rw [Int.pow_zero,Int.ediv_one]; omega) (by decide)
 rw [Int.pow_zero,Int.ediv_one,Int.one_mul,Int.zero_add] at this
 exact this
def dh (inp out:List Int) (lim:Int):z6:=[[.pv (.sl 1 (bs inp)),.slu 5 1 (bs out),.pv (I lim)]]
def zeR:Nat → PV
 | 0 => .v .nilIface
 | 1 => .sen 1
 | _ + 2 => .sen 2
theorem w6 (e:Nat):Y9 (.pv (zeR e)) = some (decide (e = 0)):=by
 rcases e with _ | _ | e <;> rfl
theorem Js (a b c:AV):decide ([a,b,c].length = 3) = true:=rfl
theorem ziP (x:List Int) (n:Nat):((bs x).take ((bs x).length:Int).toNat).drop (n:Int).toNat = bs (x.drop n):=by
 rw [Int.toNat_natCast,Int.toNat_natCast,List.take_of_length_le (Nat.le_refl _)]
 simp [bs]
theorem zmD {inp out:List Int} {lim:Int} (w:Int) (ho:out.length ≤ 17592186044416):ev 267 [.ptr 0 0,.pv (U w)] (dh inp out lim) = if (out.length:Int) + 8 > lim then some (.ret (.pv (zeR 1)),dh inp out lim) else some (.ret (.pv (zeR 0)),dh inp (out ++ w8 w) lim):=by
 unfold dh
 rw [Y7,zV,w64 (x:=(out.length:Int) + 8) (by omega)]
 by_cases h:(out.length:Int) + 8 > lim
 ·rw [decide_eq_true h,if_pos h]
  rfl
 ·rw [decide_eq_false h,if_neg h,zak]
  dsimp only [za,zb,zf,zpi,zj,zm,zq,zk,zs,zn,zK,zM,zL,pU8,zpg,zph,zi,zg,zc,zh,ze,zA,zv,zr,zo,zJ,zI,zF,zG,zH,len8,zD,zC,zt,zu]
  rw [zV,xA,yb (by omega) (by omega),← Zr]
  rfl
structure Dr where
 e:Nat
 i:List Int
 o:List Int
def xc (t:Int) (inp out:List Int) (lim:Int):Dr :=
 if inp.length < w7 8 t then ⟨2,inp,out⟩
 else if (out.length:Int) + 8 > lim then ⟨1,inp.drop (w7 8 t),out⟩ else ⟨0,inp.drop (w7 8 t),out ++ w8 (exW t inp)⟩
theorem zge {inp out:List Int} {lim:Int} (hb:∀ x ∈ inp,yq x) (hl:inp.length ≤ 17592186044416) (ho:out.length ≤ 17592186044416) {t:Int} (ht:0 ≤ t ∧ t < 256):ev 225 [.ptr 0 0,.pv (U8 t)] (dh inp out lim) = some (.ret (.pv (zeR (xc t inp out lim).e)),dh (xc t inp out lim).i (xc t inp out lim).o lim):=by
 unfold xc
 have hu:ev 225 [.ptr 0 0,.pv (U8 t)] (dh inp out lim) = _:=Y8 (bs inp) (bs out) lim t
 rw [hu]
 by_cases h1:inp.length < w7 8 t
 ·rw [zf2 ht h1,if_pos h1]
  rfl
 ·rw [zf3 hb hl ht (by omega),if_neg h1]
  dsimp only [za,zb,zf,zpi,zj,zm,zq,zk,zs,zn,zK,zM,zL,pU8,zpg,zph,zi,zg,zc,zh,ze,zA,zv,zr,zo,zJ,zI,zF,zG,zH,len8,zD,zC,zt,zu]
  rw [ziP,zV,decide_eq_true (show 0 ≤ ((w7 8 t:Nat):Int) by omega),decide_eq_true (show ((w7 8 t:Nat):Int) ≤ (inp.length:Int) by omega),decide_eq_true (Int.le_refl _)]
  have hE:=zmD (inp:=inp.drop (w7 8 t)) (lim:=lim) (exW t inp) ho
  unfold dh at hE
  dsimp only [za,zb,zf,zpi,zj,zm,zq,zk,zs,zn,zK,zM,zL,pU8,zpg,zph,zi,zg,zc,zh,ze,zA,zv,zr,zo,zJ,zI,zF,zG,zH,len8,zD,zC,zt,zu]
  rw [hE]
  by_cases h2:(out.length:Int) + 8 > lim
  ·rw [if_pos h2,if_pos h2]
   dsimp only [za,zb,zf,zpi,zj,zm,zq,zk,zs,zn,zK,zM,zL,pU8,zpg,zph,zi,zg,zc,zh,ze,zA,zv,zr,zo,zJ,zI,zF,zG,zH,len8,zD,zC,zt,zu]
   rw [yO]
   rfl
  ·rw [if_neg h2,if_neg h2]
   dsimp only [za,zb,zf,zpi,zj,zm,zq,zk,zs,zn,zK,zM,zL,pU8,zpg,zph,zi,zg,zc,zh,ze,zA,zv,zr,zo,zJ,zI,zF,zG,zH,len8,zD,zC,zt,zu]
   rw [yO]
   rfl
structure Kp (r:Dr) (inp out:List Int) (n:Nat):Prop where
 bi:∀ x ∈ r.i,yq x
 li:r.i.length ≤ inp.length
 bo:∀ x ∈ r.o,yq x
 lo:r.o.length ≤ out.length + n
theorem zib (w:Int):∀ x ∈ w8 w,yq x:=by
 have:=Zd [w]
 rw [show byt [w] = w8 w from List.append_nil _] at this
 exact this
theorem KI {inp out:List Int} (t lim:Int) (hb:∀ x ∈ inp,yq x) (ho:∀ x ∈ out,yq x):Kp (xc t inp out lim) inp out 8:=by
 unfold xc
 split
 ·exact ⟨hb,Nat.le_refl _,ho,Nat.le_add_right _ _⟩
 split
 ·exact ⟨xr hb _,(by rw [List.length_drop]; omega),ho,Nat.le_add_right _ _⟩
 ·refine ⟨xr hb _,by rw [List.length_drop]; omega,fun x hx => ?_,by rw [zpj,xA]; exact Nat.le_refl _⟩
  rcases List.mem_append.1 hx with h | h
  ·exact ho x h
  ·exact zib _ x h
def QP (t lim:Int):Nat → List Int → List Int → Dr
 | 0,inp,out => ⟨0,inp,out⟩
 | n + 1,inp,out => if (xc t inp out lim).e = 0 then QP t lim n (xc t inp out lim).i (xc t inp out lim).o else xc t inp out lim
theorem zku (t lim:Int):∀ (n:Nat) {inp out:List Int},(∀ x ∈ inp,yq x) → (∀ x ∈ out,yq x) → Kp (QP t lim n inp out) inp out (8 * n)
 | 0,inp,out,hb,ho => ⟨hb,Nat.le_refl _,ho,Nat.le_add_right _ _⟩
 | n + 1,inp,out,hb,ho => by
  have h1:=KI t lim hb ho
  rw [QP]
  split
  ·have h2:=zku t lim n h1.bi h1.bo
   have a1:=h1.li
   have a2:=h2.li
   have a3:=h1.lo
   have a4:=h2.lo
   exact ⟨h2.bi,by omega,h2.bo,by omega⟩
  ·have a3:=h1.lo
   exact ⟨h1.bi,h1.li,h1.bo,by omega⟩
theorem zgi {t lim:Int} (ht:0 ≤ t ∧ t < 256) {N:Nat} (hN:N ≤ 256):∀ (c k:Nat) (inp out:List Int),k + c = N → (∀ x ∈ inp,yq x) → (∀ x ∈ out,yq x) → inp.length ≤ 17592186044416 → out.length + 8 * c ≤ 17592186044416 →
  yd t (zeR 0) (I N) k (.sl 1 (bs inp)) (bs out) (I lim) = some (.ret (.pv (zeR (QP t lim c inp out).e)),dh (QP t lim c inp out).i (QP t lim c inp out).o lim):=by
 intro c
 induction c with
 | zero =>
  intro k inp out hk hb ho hl hlo
  rw [xH]
  dsimp only [za,zb,zf,zpi,zj,zm,zq,zk,zs,zn,zK,zM,zL,pU8,zpg,zph,zi,zg,zc,zh,ze,zA,zv,zr,zo,zJ,zI,zF,zG,zH,len8,zD,zC,zt,zu]
  rw [decide_eq_false (by omega)]
  rfl
 | succ c ih =>
  intro k inp out hk hb ho hl hlo
  have hn:=zge (out:=out) (lim:=lim) hb hl (by omega) ht
  have hkp:=KI t lim hb ho
  have a1:=hkp.li
  have a2:=hkp.lo
  unfold dh at hn
  rw [xH]
  dsimp only [za,zb,zf,zpi,zj,zm,zq,zk,zs,zn,zK,zM,zL,pU8,zpg,zph,zi,zg,zc,zh,ze,zA,zv,zr,zo,zJ,zI,zF,zG,zH,len8,zD,zC,zt,zu]
  rw [decide_eq_true (by omega),hn]
  dsimp only [za,zb,zf,zpi,zj,zm,zq,zk,zs,zn,zK,zM,zL,pU8,zpg,zph,zi,zg,zc,zh,ze,zA,zv,zr,zo,zJ,zI,zF,zG,zH,len8,zD,zC,zt,zu]
  rw [yO]
  dsimp only [Js,za,zb,zf,zpi,zj,zm,zq,zk,zs,zn,zK,zM,zL,pU8,zpg,zph,zi,zg,zc,zh,ze,zA,zv,zr,zo,zJ,zI,zF,zG,zH,len8,zD,zC,zt,zu]
  rw [w6,w64 (x:=(k:Int) + 1) (by omega),QP]
  dsimp only [za,zb,zf,zpi,zj,zm,zq,zk,zs,zn,zK,zM,zL,pU8,zpg,zph,zi,zg,zc,zh,ze,zA,zv,zr,zo,zJ,zI,zF,zG,zH,len8,zD,zC,zt,zu]
  by_cases h0:(xc t inp out lim).e = 0
  ·rw [decide_eq_true h0,if_pos h0,h0]
   exact ih (k + 1) _ _ (by omega) hkp.bi hkp.bo (by omega) (by omega)
  ·rw [decide_eq_false h0,if_neg h0]
   rfl
theorem zdT {t lim:Int} {e:Nat} (inp out:List Int):yd t (zeR e) (I 0) 0 (.sl 1 (bs inp)) (bs out) (I lim) = some (.ret (.pv (zeR e)),dh inp out lim):=by
 rw [xH]
 rfl
def zfQ (t lim:Int) (inp out:List Int):Dr:=match inp with
 | [] => ⟨2,[],out⟩
 | n :: rest => QP t lim (if t = 0 then n.toNat + 1 else n.toNat) rest out
def zfR (t lim:Int) (inp out:List Int):Dr :=
 if t = 255 then (if (xc t inp out lim).e = 0 then zfQ t lim (xc t inp out lim).i (xc t inp out lim).o else xc t inp out lim) else zfQ t lim inp out
theorem zkd (t lim:Int) {inp out:List Int} (hb:∀ x ∈ inp,yq x) (ho:∀ x ∈ out,yq x):Kp (zfQ t lim inp out) inp out 2048:=by
 unfold zfQ
 split
 ·exact ⟨hb,Nat.le_refl _,ho,Nat.le_add_right _ _⟩
 ·rename_i n rest
  have hn:=hb n (List.mem_cons_self ..)
  unfold yq at hn
  have h:=zku t lim (if t = 0 then n.toNat + 1 else n.toNat) (inp:=rest) (fun x hx => hb x (List.mem_cons_of_mem _ hx)) ho
  have a1:=h.li
  have a2:=h.lo
  have a3:(if t = 0 then n.toNat + 1 else n.toNat) ≤ 256:=by split <;> omega
  exact ⟨h.bi,by rw [zpk]; omega,h.bo,by omega⟩
theorem zna (t lim:Int) {inp out:List Int} (hb:∀ x ∈ inp,yq x) (ho:∀ x ∈ out,yq x):Kp (zfR t lim inp out) inp out 2056:=by
 unfold zfR
 have h1:=KI t lim hb ho
 have h3:=zkd t lim hb ho
 have a1:=h1.li
 have a2:=h1.lo
 have a3:=h3.lo
 split
 ·split
  ·have h2:=zkd t lim h1.bi h1.bo
   have a4:=h2.li
   have a5:=h2.lo
   exact ⟨h2.bi,by omega,h2.bo,by omega⟩
  ·exact ⟨h1.bi,h1.li,h1.bo,by omega⟩
 ·exact ⟨h3.bi,h3.li,h3.bo,by omega⟩
theorem zdO {out:List Int} {lim:Int}:ev 265 [.ptr 0 0] (dh [] out lim) = some (.ret (.pv (.tup [I 0,zeR 2])),dh [] out lim):=by
 have:=ve (bs []) (bs out) lim
 exact this.trans rfl
theorem zdN {n:Int} {rest out:List Int} {lim:Int} (hn:yq n):ev 265 [.ptr 0 0] (dh (n :: rest) out lim) = some (.ret (.pv (.tup [I n,zeR 0])),dh rest out lim):=by
 have:=ve (bs (n :: rest)) (bs out) lim
 refine this.trans ?_
 unfold yq at hn
 have hl:(((bs (n :: rest)).length:Nat):Int) = rest.length + 1:=by rw [zV]; rfl
 have hc:((bs (n :: rest)).take (((bs (n :: rest)).length:Nat):Int).toNat).drop 1 = bs rest:=by
  rw [Int.toNat_natCast,List.take_of_length_le (Nat.le_refl _)]
  rfl
 rw [hc,hl,beq_eq_false_iff_ne.2 (by omega),decide_eq_true (show 0 < (rest.length:Int) + 1 by omega),show (bs (n :: rest))[0]? = some (U8 n) from rfl,decide_eq_true (show 1 ≤ (rest.length:Int) + 1 by omega),decide_eq_true (Int.le_refl _)]
 dsimp only [za,zb,zf,zpi,zj,zm,zq,zk,zs,zn,zK,zM,zL,pU8,zpg,zph,zi,zg,zc,zh,ze,zA,zv,zr,zo,zJ,zI,zF,zG,zH,len8,zD,zC,zt,zu]
 rw [w64 (x:=n) (by omega)]
 rfl
theorem zmE {t lim:Int} (ht:t = 0 ∨ t = 255) {inp out:List Int} (hb:∀ x ∈ inp,yq x) (ho:∀ x ∈ out,yq x) (hl:inp.length ≤ 17592186044416) (hlo:out.length + 2056 ≤ 17592186044416):ev 224 [.ptr 0 0,.pv (U8 t)] (dh inp out lim) = some (.ret (.pv (zeR (zfR t lim inp out).e)),dh (zfR t lim inp out).i (zfR t lim inp out).o lim):=by
 have hu:ev 224 [.ptr 0 0,.pv (U8 t)] (dh inp out lim) = _:=Xy (bs inp) (bs out) lim t
 rw [hu]
 unfold zfR
 rcases ht with rfl | rfl
 ·rw [show ((0:Int) == 255) = false from rfl,if_neg (by decide)]
  dsimp only [za,zb,zf,zpi,zj,zm,zq,zk,zs,zn,zK,zM,zL,pU8,zpg,zph,zi,zg,zc,zh,ze,zA,zv,zr,zo,zJ,zI,zF,zG,zH,len8,zD,zC,zt,zu]
  cases inp with
  | nil =>
   have h:=zdO (out:=out) (lim:=lim)
   unfold dh at h
   rw [h]
   dsimp only [za,zb,zf,zpi,zj,zm,zq,zk,zs,zn,zK,zM,zL,pU8,zpg,zph,zi,zg,zc,zh,ze,zA,zv,zr,zo,zJ,zI,zF,zG,zH,len8,zD,zC,zt,zu]
   rw [yO]
   dsimp only [Js,za,zb,zf,zpi,zj,zm,zq,zk,zs,zn,zK,zM,zL,pU8,zpg,zph,zi,zg,zc,zh,ze,zA,zv,zr,zo,zJ,zI,zF,zG,zH,len8,zD,zC,zt,zu]
   rw [w6]
   exact zdT [] out
  | cons n rest =>
   have hn:=hb n (List.mem_cons_self ..)
   have h:=zdN (rest:=rest) (out:=out) (lim:=lim) hn
   unfold dh at h
   unfold yq at hn
   rw [zpk] at hl
   rw [h]
   dsimp only [za,zb,zf,zpi,zj,zm,zq,zk,zs,zn,zK,zM,zL,pU8,zpg,zph,zi,zg,zc,zh,ze,zA,zv,zr,zo,zJ,zI,zF,zG,zH,len8,zD,zC,zt,zu]
   rw [yO]
   dsimp only [Js,za,zb,zf,zpi,zj,zm,zq,zk,zs,zn,zK,zM,zL,pU8,zpg,zph,zi,zg,zc,zh,ze,zA,zv,zr,zo,zJ,zI,zF,zG,zH,len8,zD,zC,zt,zu]
   rw [w6,show ((0:Int) == 0) = true from rfl,w64 (x:=n + 1) (by omega)]
   dsimp only [zfQ,za,zb,zf,zpi,zj,zm,zq,zk,zs,zn,zK,zM,zL,pU8,zpg,zph,zi,zg,zc,zh,ze,zA,zv,zr,zo,zJ,zI,zF,zG,zH,len8,zD,zC,zt,zu]
   rw [if_pos rfl]
   have:=zgi (t:=0) (lim:=lim) (by decide) (N:=n.toNat + 1) (by omega) (n.toNat + 1) 0 rest out (by omega) (fun x hx => hb x (List.mem_cons_of_mem _ hx)) ho (by omega) (by omega)
   rw [show ((n.toNat + 1:Nat):Int) = n + 1 by omega] at this
   exact this
 ·rw [show ((255:Int) == 255) = true from rfl,if_pos rfl]
  dsimp only [za,zb,zf,zpi,zj,zm,zq,zk,zs,zn,zK,zM,zL,pU8,zpg,zph,zi,zg,zc,zh,ze,zA,zv,zr,zo,zJ,zI,zF,zG,zH,len8,zD,zC,zt,zu]
  have hn:=zge (out:=out) (lim:=lim) hb hl (by omega) (t:=255) (by decide)
  have hkp:=KI 255 lim hb ho
  unfold dh at hn
  rw [hn]
  dsimp only [za,zb,zf,zpi,zj,zm,zq,zk,zs,zn,zK,zM,zL,pU8,zpg,zph,zi,zg,zc,zh,ze,zA,zv,zr,zo,zJ,zI,zF,zG,zH,len8,zD,zC,zt,zu]
  rw [yO]
  dsimp only [Js,za,zb,zf,zpi,zj,zm,zq,zk,zs,zn,zK,zM,zL,pU8,zpg,zph,zi,zg,zc,zh,ze,zA,zv,zr,zo,zJ,zI,zF,zG,zH,len8,zD,zC,zt,zu]
  rw [w6]
  dsimp only [za,zb,zf,zpi,zj,zm,zq,zk,zs,zn,zK,zM,zL,pU8,zpg,zph,zi,zg,zc,zh,ze,zA,zv,zr,zo,zJ,zI,zF,zG,zH,len8,zD,zC,zt,zu]
  by_cases h0:(xc 255 inp out lim).e = 0
  ·rw [decide_eq_true h0,if_pos h0]
   dsimp only [za,zb,zf,zpi,zj,zm,zq,zk,zs,zn,zK,zM,zL,pU8,zpg,zph,zi,zg,zc,zh,ze,zA,zv,zr,zo,zJ,zI,zF,zG,zH,len8,zD,zC,zt,zu]
   have a1:=hkp.li
   have a2:=hkp.lo
   have a3:=hkp.bi
   have a4:=hkp.bo
   generalize (xc 255 inp out lim).i = ri at a1 a3 ⊢
   generalize (xc 255 inp out lim).o = ro at a2 a4 ⊢
   cases ri with
   | nil =>
    have h:=zdO (out:=ro) (lim:=lim)
    unfold dh at h
    rw [h]
    dsimp only [za,zb,zf,zpi,zj,zm,zq,zk,zs,zn,zK,zM,zL,pU8,zpg,zph,zi,zg,zc,zh,ze,zA,zv,zr,zo,zJ,zI,zF,zG,zH,len8,zD,zC,zt,zu]
    rw [yO]
    dsimp only [Js,za,zb,zf,zpi,zj,zm,zq,zk,zs,zn,zK,zM,zL,pU8,zpg,zph,zi,zg,zc,zh,ze,zA,zv,zr,zo,zJ,zI,zF,zG,zH,len8,zD,zC,zt,zu]
    rw [w6]
    exact zdT [] ro
   | cons n rest =>
    have hn:=a3 n (List.mem_cons_self ..)
    have h:=zdN (rest:=rest) (out:=ro) (lim:=lim) hn
    unfold dh at h
    unfold yq at hn
    rw [zpk] at a1
    rw [h]
    dsimp only [za,zb,zf,zpi,zj,zm,zq,zk,zs,zn,zK,zM,zL,pU8,zpg,zph,zi,zg,zc,zh,ze,zA,zv,zr,zo,zJ,zI,zF,zG,zH,len8,zD,zC,zt,zu]
    rw [yO]
    dsimp only [Js,za,zb,zf,zpi,zj,zm,zq,zk,zs,zn,zK,zM,zL,pU8,zpg,zph,zi,zg,zc,zh,ze,zA,zv,zr,zo,zJ,zI,zF,zG,zH,len8,zD,zC,zt,zu]
    rw [w6,show ((255:Int) == 0) = false from rfl]
    dsimp only [zfQ,za,zb,zf,zpi,zj,zm,zq,zk,zs,zn,zK,zM,zL,pU8,zpg,zph,zi,zg,zc,zh,ze,zA,zv,zr,zo,zJ,zI,zF,zG,zH,len8,zD,zC,zt,zu]
    rw [if_neg (by decide)]
    have:=zgi (t:=255) (lim:=lim) (by decide) (N:=n.toNat) (by omega) n.toNat 0 rest ro (by omega) (fun x hx => a3 x (List.mem_cons_of_mem _ hx)) a4 (by omega) (by omega)
    rw [show ((n.toNat:Nat):Int) = n by omega] at this
    exact this
  ·rw [decide_eq_false h0,if_neg h0]
   rfl
def Jk (t lim:Int) (inp out:List Int):Dr:=if t = 0 ∨ t = 255 then zfR t lim inp out else xc t inp out lim
theorem zkx (t lim:Int) {inp out:List Int} (hb:∀ x ∈ inp,yq x) (ho:∀ x ∈ out,yq x):Kp (Jk t lim inp out) inp out 2056:=by
 unfold Jk
 split
 ·exact zna t lim hb ho
 ·have h:=KI t lim hb ho
  have a2:=h.lo
  exact ⟨h.bi,h.li,h.bo,by omega⟩
attribute [irreducible] Jk xc zfR
def zgV (lim:Int):Nat → List Int → List Int → Dr
 | 0,inp,out => ⟨0,inp,out⟩
 | _ + 1,[],out => ⟨0,[],out⟩
 | f + 1,t :: rest,out => if (Jk t lim rest out).e = 0 then zgV lim f (Jk t lim rest out).i (Jk t lim rest out).o else Jk t lim rest out
theorem zke (lim:Int):∀ (f:Nat) {inp out:List Int},(∀ x ∈ inp,yq x) → (∀ x ∈ out,yq x) → Kp (zgV lim f inp out) inp out (2056 * inp.length)
 | 0,inp,out,hb,ho => ⟨hb,Nat.le_refl _,ho,Nat.le_add_right _ _⟩
 | f + 1,[],out,hb,ho => ⟨hb,Nat.le_refl _,ho,Nat.le_add_right _ _⟩
 | f + 1,t :: rest,out,hb,ho => by
  have h:=zkx t lim (inp:=rest) (fun x hx => hb x (List.mem_cons_of_mem _ hx)) ho
  have a1:=h.li
  have a2:=h.lo
  rw [zgV,zpk]
  split
  ·have h2:=zke lim f h.bi h.bo
   have a3:=h2.li
   have a4:=h2.lo
   exact ⟨h2.bi,by rw [zpk]; omega,h2.bo,by omega⟩
  ·exact ⟨h.bi,by rw [zpk]; omega,h.bo,Nat.le_trans a2 (Nat.add_le_add_left (show 2056 ≤ 2056 * (rest.length + 1) by omega) _)⟩
theorem zeN {a b:Nat} (h:a + 4096 * (b + 1) ≤ 17592186044416):a + 2056 ≤ 17592186044416:=Nat.le_trans (Nat.add_le_add_left (Nat.le_trans (show 2056 ≤ 4096 * 1 by decide) (Nat.mul_le_mul_left 4096 (Nat.le_add_left 1 b))) a) h
theorem ziO (x:Int) (l:List Int):((bs (x :: l)).take (((bs (x :: l)).length:Nat):Int).toNat).drop 1 = bs l:=by
 rw [Int.toNat_natCast,List.take_of_length_le (Nat.le_refl _)]
 rfl
theorem zoc {lim:Int}:∀ (f:Nat) (inp out:List Int),inp.length ≤ f → (∀ x ∈ inp,yq x) → (∀ x ∈ out,yq x) → out.length + 4096 * inp.length ≤ 17592186044416 →
  yv (zeR 0) (.sl 1 (bs inp)) (bs out) (I lim) = some (.ret (.pv (zeR (zgV lim f inp out).e)),dh (zgV lim f inp out).i (zgV lim f inp out).o lim):=by
 intro f
 induction f with
 | zero =>
  intro inp out hf hb ho hl
  have:inp = []:=List.length_eq_zero_iff.1 (by omega)
  rw [this,xh]
  rfl
 | succ f ih =>
  intro inp out hf hb ho hl
  cases inp with
  | nil =>
   rw [xh]
   rfl
  | cons t rest =>
   rw [zpk] at hf hl
   have ht:=hb t (List.mem_cons_self ..)
   unfold yq at ht
   have hbr:∀ x ∈ rest,yq x:=fun x hx => hb x (List.mem_cons_of_mem _ hx)
   have hlen:(((bs (t :: rest)).length:Nat):Int) = rest.length + 1:=by rw [zV]; rfl
   have hkp:=zkx t lim hbr ho
   have a1:=hkp.li
   have a2:=hkp.lo
   have a3:=hkp.bi
   have a4:=hkp.bo
   rw [xh,zgV]
   dsimp only [za,zb,zf,zpi,zj,zm,zq,zk,zs,zn,zK,zM,zL,pU8,zpg,zph,zi,zg,zc,zh,ze,zA,zv,zr,zo,zJ,zI,zF,zG,zH,len8,zD,zC,zt,zu]
   rw [ziO,hlen,decide_eq_true (show (rest.length:Int) + 1 > 0 by omega),show (bs (t :: rest))[0]? = some (U8 t) from rfl,decide_eq_true (show 1 ≤ (rest.length:Int) + 1 by omega),decide_eq_true (Int.le_refl _),show decide ((1:Nat) = 1) = true from rfl]
   dsimp only [za,zb,zf,zpi,zj,zm,zq,zk,zs,zn,zK,zM,zL,pU8,zpg,zph,zi,zg,zc,zh,ze,zA,zv,zr,zo,zJ,zI,zF,zG,zH,len8,zD,zC,zt,zu]
   by_cases h0:t = 0
   ·have hg:=zmE (t:=t) (lim:=lim) (.inl h0) hbr ho (by omega) (zeN hl)
    have hs:Jk t lim rest out = zfR t lim rest out:=by unfold Jk; rw [if_pos (.inl h0)]
    rw [← hs] at hg
    unfold dh at hg
    rw [beq_iff_eq.2 h0,hg]
    dsimp only [za,zb,zf,zpi,zj,zm,zq,zk,zs,zn,zK,zM,zL,pU8,zpg,zph,zi,zg,zc,zh,ze,zA,zv,zr,zo,zJ,zI,zF,zG,zH,len8,zD,zC,zt,zu]
    rw [yO]
    dsimp only [Js,za,zb,zf,zpi,zj,zm,zq,zk,zs,zn,zK,zM,zL,pU8,zpg,zph,zi,zg,zc,zh,ze,zA,zv,zr,zo,zJ,zI,zF,zG,zH,len8,zD,zC,zt,zu]
    rw [w6]
    dsimp only [za,zb,zf,zpi,zj,zm,zq,zk,zs,zn,zK,zM,zL,pU8,zpg,zph,zi,zg,zc,zh,ze,zA,zv,zr,zo,zJ,zI,zF,zG,zH,len8,zD,zC,zt,zu]
    by_cases h3:(Jk t lim rest out).e = 0
    ·rw [decide_eq_true h3,if_pos h3,h3]
     exact ih _ _ (by omega) a3 a4 (by omega)
    ·rw [decide_eq_false h3,if_neg h3]
     rfl
   ·rw [beq_eq_false_iff_ne.2 h0]
    dsimp only [za,zb,zf,zpi,zj,zm,zq,zk,zs,zn,zK,zM,zL,pU8,zpg,zph,zi,zg,zc,zh,ze,zA,zv,zr,zo,zJ,zI,zF,zG,zH,len8,zD,zC,zt,zu]
    by_cases h1:t = 255
    ·have hg:=zmE (t:=t) (lim:=lim) (.inr h1) hbr ho (by omega) (zeN hl)
     have hs:Jk t lim rest out = zfR t lim rest out:=by unfold Jk; rw [if_pos (.inr h1)]
     rw [← hs] at hg
     unfold dh at hg
     rw [beq_iff_eq.2 h1,hg]
     dsimp only [za,zb,zf,zpi,zj,zm,zq,zk,zs,zn,zK,zM,zL,pU8,zpg,zph,zi,zg,zc,zh,ze,zA,zv,zr,zo,zJ,zI,zF,zG,zH,len8,zD,zC,zt,zu]
     rw [yO]
     dsimp only [Js,za,zb,zf,zpi,zj,zm,zq,zk,zs,zn,zK,zM,zL,pU8,zpg,zph,zi,zg,zc,zh,ze,zA,zv,zr,zo,zJ,zI,zF,zG,zH,len8,zD,zC,zt,zu]
     rw [w6]
     dsimp only [za,zb,zf,zpi,zj,zm,zq,zk,zs,zn,zK,zM,zL,pU8,zpg,zph,zi,zg,zc,zh,ze,zA,zv,zr,zo,zJ,zI,zF,zG,zH,len8,zD,zC,zt,zu]
     by_cases h3:(Jk t lim rest out).e = 0
     ·rw [decide_eq_true h3,if_pos h3,h3]
      exact ih _ _ (by omega) a3 a4 (by omega)
     ·rw [decide_eq_false h3,if_neg h3]
      rfl
    ·have hg:=zge (t:=t) (out:=out) (lim:=lim) hbr (by omega) (by omega) (by omega)
     have hs:Jk t lim rest out = xc t rest out lim:=by unfold Jk; rw [if_neg (by omega)]
     rw [← hs] at hg
     unfold dh at hg
     rw [beq_eq_false_iff_ne.2 h1,hg]
     dsimp only [za,zb,zf,zpi,zj,zm,zq,zk,zs,zn,zK,zM,zL,pU8,zpg,zph,zi,zg,zc,zh,ze,zA,zv,zr,zo,zJ,zI,zF,zG,zH,len8,zD,zC,zt,zu]
     rw [yO]
     dsimp only [Js,za,zb,zf,zpi,zj,zm,zq,zk,zs,zn,zK,zM,zL,pU8,zpg,zph,zi,zg,zc,zh,ze,zA,zv,zr,zo,zJ,zI,zF,zG,zH,len8,zD,zC,zt,zu]
     rw [w6]
     dsimp only [za,zb,zf,zpi,zj,zm,zq,zk,zs,zn,zK,zM,zL,pU8,zpg,zph,zi,zg,zc,zh,ze,zA,zv,zr,zo,zJ,zI,zF,zG,zH,len8,zD,zC,zt,zu]
     by_cases h3:(Jk t lim rest out).e = 0
     ·rw [decide_eq_true h3,if_pos h3,h3]
      exact ih _ _ (by omega) a3 a4 (by omega)
     ·rw [decide_eq_false h3,if_neg h3]
      rfl
def zoO:Nat → Int
 | 0 => 0
 | 1 => 11
 | _ + 2 => 10
def WD (lim:Int):Int:=if 0 > lim then 0 else lim
def zh7 (p:List Int) (lim:Int):Dr:=zgV (WD lim) p.length p []
theorem ziw {p:List Int} (hb:∀ x ∈ p,yq x) (hl:p.length ≤ 1073741824) (lim:Int):ev 101 [.pv (.sl 1 (bs p)),.pv (I lim)] [] = some (.ret (.tup 0 (.slu 5 1 (bs (zh7 p lim).o)) [.v .nilIface,I (zoO (zh7 p lim).e)]),[]):=by
 have hd:=zoc (lim:=WD lim) p.length p [] (Nat.le_refl _) hb (fun x hx => by cases hx) (by show 0 + _ ≤ _; omega)
 have hE:ev 161 [.ptr 0 0] [[.pv (.sl 1 (bs p)),.slu 5 1 [],.pv (I (WD lim))]] = some (.ret (.pv (zeR (zh7 p lim).e)),dh (zh7 p lim).i (zh7 p lim).o (WD lim)):=(Yu (bs p) [] (WD lim)).trans hd
 rw [Qz]
 unfold WD dh at hE
 rw [hE]
 dsimp only [za,zb,zf,zpi,zj,zm,zq,zk,zs,zn,zK,zM,zL,pU8,zpg,zph,zi,zg,zc,zh,ze,zA,zv,zr,zo,zJ,zI,zF,zG,zH,len8,zD,zC,zt,zu]
 rw [yO]
 dsimp only [Js,za,zb,zf,zpi,zj,zm,zq,zk,zs,zn,zK,zM,zL,pU8,zpg,zph,zi,zg,zc,zh,ze,zA,zv,zr,zo,zJ,zI,zF,zG,zH,len8,zD,zC,zt,zu]
 rw [V6,V6]
 rcases (zh7 p lim).e with _ | _ | e <;> rfl
def zbn (p:List Int) (lim:Int):Int:=zoO (zh7 p lim).e
def zbf (p:List Int) (lim:Int):List Int:=if (zh7 p lim).e = 0 then (zh7 p lim).o else []
theorem zof {p:List Int} (hb:∀ x ∈ p,yq x) (hl:p.length ≤ 1073741824) (lim:Int):ev 52 [.pv (.sl 1 (bs p)),.pv (I lim)] [] = some (.ret (.tup 0 (.slu 5 1 (bs (zbf p lim))) [.v .nilIface,I (zbn p lim)]),[]):=by
 rw [Jd,ziw hb hl]
 dsimp only [za,zb,zf,zpi,zj,zm,zq,zk,zs,zn,zK,zM,zL,pU8,zpg,zph,zi,zg,zc,zh,ze,zA,zv,zr,zo,zJ,zI,zF,zG,zH,len8,zD,zC,zt,zu]
 rw [WE]
 dsimp only [za,zb,zf,zpi,zj,zm,zq,zk,zs,zn,zK,zM,zL,pU8,zpg,zph,zi,zg,zc,zh,ze,zA,zv,zr,zo,zJ,zI,zF,zG,zH,len8,zD,zC,zt,zu]
 rw [yO]
 dsimp only [za,zb,zf,zpi,zj,zm,zq,zk,zs,zn,zK,zM,zL,pU8,zpg,zph,zi,zg,zc,zh,ze,zA,zv,zr,zo,zJ,zI,zF,zG,zH,len8,zD,zC,zt,zu]
 unfold zbf zbn
 rcases (zh7 p lim).e with _ | _ | e <;> rfl
theorem zdE {p:List Int} (hb:∀ x ∈ p,yq x) (lim:Int):(∀ x ∈ zbf p lim,yq x) ∧ (zbf p lim).length ≤ 2056 * p.length:=by
 have h:=zke (WD lim) p.length hb (out:=[]) (fun x hx => by cases hx)
 have a2:=h.lo
 have a3:=h.bo
 unfold zbf
 split
 ·refine ⟨a3,?_⟩
  rw [List.length_nil,Nat.zero_add] at a2
  exact a2
 ·exact ⟨(fun x hx => absurd hx List.not_mem_nil),Nat.zero_le _⟩
theorem zjJ {b:List Int}:∀ (c i:Nat) (rest:List Int) (l:List (List Int)),Jj b c i rest = some l → 8 ∣ rest.length:=by
 intro c
 induction c with
 | zero =>
  intro i rest l h
  rw [Jj] at h
  split at h
  ·rename_i h0
   rw [h0]
   exact ⟨0,rfl⟩
  ·cases h
 | succ c ih =>
  intro i rest l h
  rw [Jj] at h
  split at h
  ·rename_i h1
   cases hq:Jj b c (i + 1) (rest.drop (8 * (le4 b i).toNat)) with
   | none => rw [hq] at h; cases h
   | some t =>
    have:=ih _ _ _ hq
    rw [List.length_drop] at this
    omega
  ·cases h
theorem zaZ {b:List Int} {l:List (List Int)} (h:Xt b = some l):8 ≤ b.length ∧ 8 ∣ b.length:=by
 unfold Xt at h
 split at h
 ·cases h
 split at h
 ·cases h
 split at h
 ·cases h
 split at h
 ·cases h
 have h1:=zjJ _ _ _ _ h
 rw [List.length_drop] at h1
 have h2:8 ∣ tbl (le4 b 0 + 1).toNat:=by unfold tbl; split <;> omega
 have h3:(le4 b 0 + 1).toNat = 0 → tbl (le4 b 0 + 1).toNat = 8:=fun h => by rw [h]; rfl
 have h4:4 * (le4 b 0 + 1).toNat + 4 ≤ tbl (le4 b 0 + 1).toNat:=by unfold tbl; split <;> omega
 omega
noncomputable def mP (b:List Int):List Int:=if Xt b = none then [] else pack (xi (b.length / 8) b)
def pE (b:List Int):Int:=if Xt b = none then 1 else 0
theorem zgd {b:List Int} (hb:∀ x ∈ b,yq x) (hl:b.length ≤ 1099511627776):ev 19 [.pv (.sl 1 (bs b))] [] = ok (.tup [.sl 1 (bs (mP b)),I (pE b)]):=by
 rw [Y6,Yx hb hl]
 unfold mP pE
 dsimp only [za,zb,zf,zpi,zj,zm,zq,zk,zs,zn,zK,zM,zL,pU8,zpg,zph,zi,zg,zc,zh,ze,zA,zv,zr,zo,zJ,zI,zF,zG,zH,len8,zD,zC,zt,zu]
 rw [xU]
 cases h:Xt b with
 | none =>
  rw [if_pos rfl,if_pos rfl]
  dsimp only [za,zb,zf,zpi,zj,zm,zq,zk,zs,zn,zK,zM,zL,pU8,zpg,zph,zi,zg,zc,zh,ze,zA,zv,zr,zo,zJ,zI,zF,zG,zH,len8,zD,zC,zt,zu]
  rw [show (!decide ((1:Int) = 0)) = true from rfl]
  dsimp only [za,zb,zf,zpi,zj,zm,zq,zk,zs,zn,zK,zM,zL,pU8,zpg,zph,zi,zg,zc,zh,ze,zA,zv,zr,zo,zJ,zI,zF,zG,zH,len8,zD,zC,zt,zu]
  rw [zfc]
  rfl
 | some l =>
  obtain ⟨h1,h2⟩:=zaZ h
  rw [if_neg (by simp),if_neg (by simp),decide_eq_true (show (0:Int) = 0 from rfl)]
  dsimp only [za,zb,zf,zpi,zj,zm,zq,zk,zs,zn,zK,zM,zL,pU8,zpg,zph,zi,zg,zc,zh,ze,zA,zv,zr,zo,zJ,zI,zF,zG,zH,len8,zD,zC,zt,zu]
  rw [zkQ hb hl (n:=b.length / 8) (by omega)]
  rfl
noncomputable def uE (p:List Int) (o:Int):Int:=if zbn p o ≠ 0 then zbn p o else if Xt (zbf p o) = none then 1 else 0
noncomputable def uO (p:List Int) (o:Int):List Int:=if uE p o = 0 then zbf p o else []
theorem zjV {p:List Int} {o:Int} (h:zbn p o ≠ 0):uE p o = zbn p o ∧ uO p o = []:=by
 have e:uE p o = zbn p o:=by unfold uE; rw [if_pos h]
 exact ⟨e,by unfold uO; rw [e,if_neg h]⟩
theorem zh3 {p:List Int} {o:Int} (h:zbn p o = 0) (hp:Xt (zbf p o) = none):uE p o = 1 ∧ uO p o = []:=by
 have e:uE p o = 1:=by unfold uE; rw [if_neg (fun x => x h),if_pos hp]
 exact ⟨e,by unfold uO; rw [e,if_neg (by decide)]⟩
theorem ze0 {p:List Int} {o:Int} (h:zbn p o = 0) {l:List (List Int)} (hp:Xt (zbf p o) = some l):uE p o = 0 ∧ uO p o = zbf p o:=by
 have e:uE p o = 0:=by unfold uE; rw [if_neg (fun x => x h),hp,if_neg (by simp)]
 exact ⟨e,by unfold uO; rw [e,if_pos rfl]⟩
theorem Ya {p:List Int} (hb:∀ x ∈ p,yq x) (hl:p.length ≤ 65536) (d w o:Int):ev 20 [.pv (.sl 1 (bs p)),.pv (.agg [I d,I w,I o])] [] = ok (.tup [.sl 1 (bs (uO p o)),I (uE p o)]):=by
 obtain ⟨k1,k2⟩:=zdE hb o
 rw [Ym,zof hb (by omega)]
 dsimp only [za,zb,zf,zpi,zj,zm,zq,zk,zs,zn,zK,zM,zL,pU8,zpg,zph,zi,zg,zc,zh,ze,zA,zv,zr,zo,zJ,zI,zF,zG,zH,len8,zD,zC,zt,zu]
 rw [WE]
 dsimp only [za,zb,zf,zpi,zj,zm,zq,zk,zs,zn,zK,zM,zL,pU8,zpg,zph,zi,zg,zc,zh,ze,zA,zv,zr,zo,zJ,zI,zF,zG,zH,len8,zD,zC,zt,zu]
 rw [yO]
 dsimp only [za,zb,zf,zpi,zj,zm,zq,zk,zs,zn,zK,zM,zL,pU8,zpg,zph,zi,zg,zc,zh,ze,zA,zv,zr,zo,zJ,zI,zF,zG,zH,len8,zD,zC,zt,zu]
 by_cases h0:zbn p o = 0
 ·rw [h0,show ((0:Int) != 0) = false from rfl]
  dsimp only [za,zb,zf,zpi,zj,zm,zq,zk,zs,zn,zK,zM,zL,pU8,zpg,zph,zi,zg,zc,zh,ze,zA,zv,zr,zo,zJ,zI,zF,zG,zH,len8,zD,zC,zt,zu]
  rw [Yx k1 (by omega)]
  dsimp only [za,zb,zf,zpi,zj,zm,zq,zk,zs,zn,zK,zM,zL,pU8,zpg,zph,zi,zg,zc,zh,ze,zA,zv,zr,zo,zJ,zI,zF,zG,zH,len8,zD,zC,zt,zu]
  rw [xU]
  cases h:Xt (zbf p o) with
  | none =>
   obtain ⟨e1,e2⟩:=zh3 h0 h
   rw [e1,e2,if_pos rfl,decide_eq_false (show ¬ (1:Int) = 0 by decide)]
   dsimp only [za,zb,zf,zpi,zj,zm,zq,zk,zs,zn,zK,zM,zL,pU8,zpg,zph,zi,zg,zc,zh,ze,zA,zv,zr,zo,zJ,zI,zF,zG,zH,len8,zD,zC,zt,zu]
   rw [zfc]
   rfl
  | some l =>
   obtain ⟨e1,e2⟩:=ze0 h0 h
   rw [e1,e2,if_neg (by simp),decide_eq_true (show (0:Int) = 0 from rfl)]
   rfl
 ·obtain ⟨e1,e2⟩:=zjV h0
  rw [Yy h0,e1,e2]
  rfl
def mEmp:List Int:=[0,0,0,0,0,0,0,0]
def mNul:List Int:=[0,0,0,0,1,0,0,0,0,0,0,0,0,0,0,0]
def zij:List Int:=[16,1,0,0]
theorem byte_of {l:List Int} (h:(l.all fun x => decide (0 ≤ x) && decide (x ≤ 255)) = true):∀ x ∈ l,yq x:=by
 intro x hx
 have:=List.all_eq_true.1 h x hx
 rw [Bool.and_eq_true,decide_eq_true_iff,decide_eq_true_iff] at this
 exact this
theorem zg2:∀ x ∈ mEmp,yq x:=byte_of rfl
theorem zlz:∀ x ∈ mNul,yq x:=byte_of rfl
theorem znt:∀ x ∈ zij,yq x:=byte_of rfl
theorem zor:∀ x ∈ ([]:List Int),yq x:=fun x hx => by cases hx
theorem zg3:mEmp.length ≤ 1099511627776:=by show 8 ≤ 1099511627776; decide
theorem zlA:mNul.length ≤ 1099511627776:=by show 16 ≤ 1099511627776; decide
theorem zoZ:ev 16 [.pv (.sl 1 (bs mEmp)),.pv (.agg [I 5,I 100,I 100])] [] = some (.ret (.tup 0 (.slu 5 1 (bs mNul)) [.v .nilIface,I 0]),[]):=by
 rw [zkF zg2 zg3 (d:=5) (w:=100) (o:=100) (by decide) (by decide),show znW mEmp 5 100 = mNul from by kernel_rfl,show mE mEmp 5 100 = 0 from by kernel_rfl]
theorem zo0:ev 18 [.pv (.sl 1 (bs mEmp)),.pv (.sl 1 (bs mNul)),.pv (.agg [I 5,I 100,I 100])] [] = ok (.tup [Bo true,I 0]):=by
 have e1:mE mEmp 5 100 = 0:=by kernel_rfl
 have e2:mE mNul 5 100 = 0:=by kernel_rfl
 have e3:mN mEmp 5 100 = mN mNul 5 100:=by kernel_rfl
 rw [zdP zg2 zg3 zlz zlA (d:=5) (w:=100) (o:=100) (by decide) (by decide)]
 unfold eqM mEE
 rw [if_pos ⟨e1,e2⟩,if_pos e1,e2,Ks e3]
theorem zo1:ev 18 [.pv (.sl 1 (bs mEmp)),.pv (.sl 1 []),.pv (.agg [I 5,I 100,I 100])] [] = ok (.tup [Bo false,I 1]):=by
 have e1:mE mEmp 5 100 = 0:=by kernel_rfl
 have e2:mE [] 5 100 = 1:=by kernel_rfl
 have h:=zdP zg2 zg3 zor (Nat.zero_le _) (d:=5) (w:=100) (o:=100) (by decide) (by decide)
 unfold eqM mEE at h
 rw [if_neg (by rw [e2]; exact fun h => absurd h.2 (by decide)),if_pos e1,e2] at h
 exact h
theorem zo2:ev 19 [.pv (.sl 1 (bs mNul))] [] = ok (.tup [.sl 1 (bs zij),I 0]):=by
 rw [zgd zlz zlA,show mP mNul = zij from by kernel_rfl,show pE mNul = 0 from by kernel_rfl]
theorem zo3:ev 20 [.pv (.sl 1 (bs zij)),.pv (.agg [I 5,I 100,I 100])] [] = ok (.tup [.sl 1 (bs mNul),I 0]):=by
 rw [Ya znt (by decide) 5 100 100,show uO zij 100 = mNul from by kernel_rfl,show uE zij 100 = 0 from by kernel_rfl]
theorem zo4:ev 20 [.pv (.sl 1 (bs zij)),.pv (.agg [I 0,I 0,I 15])] [] = ok (.tup [.sl 1 [],I 11]):=by
 rw [Ya znt (by decide) 0 0 15,show uO zij 15 = [] from by kernel_rfl,show uE zij 15 = 11 from by kernel_rfl]
 rfl
theorem zo5:ev 17 [.pv (.sl 1 (bs mEmp)),.pv (.agg [I 5,I 100,I 100])] [] = ok (.tup [U hA,I 0]):=by
 rw [zkM zg2 zg3 (d:=5) (w:=100) (o:=100) (by decide) (by decide),show mH mEmp 5 100 = hA from by kernel_rfl,show mE mEmp 5 100 = 0 from by kernel_rfl]
theorem zit:ev 130 [.pv (Bo true)] [] = ok (.tup []):=by rw [ZM]; rfl
theorem zis:ev 130 [.pv (Bo false)] [] = some (.pan (.ifc 174 (.agg [])),[]):=by rw [ZM]; rfl
theorem zo6:ev 76 [.pv (.sl 1 []),.pv (.agg [I 5,I 100,I 100])] [] = ok (Bo false):=by
 rw [Zs,show decide ((([]:List PV).length:Int) > 0) = false from rfl,zis]
 rfl
theorem zo7:ev 76 [.pv (.sl 1 [U 0]),.pv (.agg [I 5,I 100,I 100])] [] = ok (Bo true):=by
 have hv:=Zt [U 0] 1 5 100 100 (max 100 0) 0 1
 have hn:ev 190 [.pv (U 0)] [] = ok (Bo true):=by rw [wq]; rfl
 have hv':ev 132 [.ptr 0 0,.pv (I 0),.pv (I 1)] [[.pv (.sl 1 [U 0]),.pv (I 1),.pv (I 5),.pv (I 100),.pv (I 100),.pv (I (max 100 0))]] = some (.ret (.pv (.tup [])),[[.pv (.sl 1 [U 0]),.pv (I 1),.pv (I 5),.pv (I 100),.pv (I 100),.pv (I (max 100 0))]]):=by
  rw [hv]
  rw [show decide ((0:Int) ≤ 0) = true from rfl,show decide ((0:Int) < (([U 0]:List PV).length:Int)) = true from rfl,show ([U 0]:List PV)[(0:Int).toNat]? = some (U 0) from rfl]
  dsimp only [za,zb,zf,zpi,zj,zm,zq,zk,zs,zn,zK,zM,zL,pU8,zpg,zph,zi,zg,zc,zh,ze,zA,zv,zr,zo,zJ,zI,zF,zG,zH,len8,zD,zC,zt,zu]
  rw [hn]
  rfl
 rw [Zs,show decide ((([U 0]:List PV).length:Int) > 0) = true from rfl,zit,zcX]
 dsimp only [za,zb,zf,zpi,zj,zm,zq,zk,zs,zn,zK,zM,zL,pU8,zpg,zph,zi,zg,zc,zh,ze,zA,zv,zr,zo,zJ,zI,zF,zG,zH,len8,zD,zC,zt,zu]
 rw [hv']
 rfl
theorem znb:ev 35 [.pv (.sl 1 (bs mEmp)),.pv (.agg [I 5,I 100,I 100])] [] = ok (Bo false):=by
 rw [vz,Yx zg2 zg3,zgc (by decide) (by decide),show Xt mEmp = some [[]] from by kernel_rfl,if_neg (by simp),Option.getD_some]
 dsimp only [za,zb,zf,zpi,zj,zm,zq,zk,zs,zn,zK,zM,zL,pU8,zpg,zph,zi,zg,zc,zh,ze,zA,zv,zr,zo,zJ,zI,zF,zG,zH,len8,zD,zC,zt,zu]
 rw [xU]
 show zE (ev 76 [.pv (.sl 1 []),.pv (.agg [I 5,I 100,I 100])] []) _ _ = _
 rw [zo6]
 rfl
theorem znc:ev 35 [.pv (.sl 1 (bs mNul)),.pv (.agg [I 5,I 100,I 100])] [] = ok (Bo true):=by
 rw [vz,Yx zlz zlA,zgc (by decide) (by decide),show Xt mNul = some [[0]] from by kernel_rfl,if_neg (by simp),Option.getD_some]
 dsimp only [za,zb,zf,zpi,zj,zm,zq,zk,zs,zn,zK,zM,zL,pU8,zpg,zph,zi,zg,zc,zh,ze,zA,zv,zr,zo,zJ,zI,zF,zG,zH,len8,zD,zC,zt,zu]
 rw [xU]
 show zE (ev 76 [.pv (.sl 1 [U 0]),.pv (.agg [I 5,I 100,I 100])] []) _ _ = _
 rw [zo7]
 rfl
theorem Q0 {l:List Int} (h:l.length ≤ 17592186044416):ev 27 [.pv (.sl 1 (bs l)),.pv (.sl 1 (bs l))] [] = ok (Bo true):=by
 have:=zkI h h
 rw [Ks rfl] at this
 exact this
theorem zf9:ev 33 [] [] = ok (Bo true):=by
 have c1:ev 16 [.pv (.sl 1 [U8 0,U8 0,U8 0,U8 0,U8 0,U8 0,U8 0,U8 0]),.pv (.agg [I 5,I 100,I 100])] [] = some (.ret (.tup 0 (.slu 5 1 [U8 0,U8 0,U8 0,U8 0,U8 1,U8 0,U8 0,U8 0,U8 0,U8 0,U8 0,U8 0,U8 0,U8 0,U8 0,U8 0]) [.v .nilIface,I 0]),[]):=zoZ
 have c2:ev 18 [.pv (.sl 1 [U8 0,U8 0,U8 0,U8 0,U8 0,U8 0,U8 0,U8 0]),.pv (.sl 1 [U8 0,U8 0,U8 0,U8 0,U8 1,U8 0,U8 0,U8 0,U8 0,U8 0,U8 0,U8 0,U8 0,U8 0,U8 0,U8 0]),.pv (.agg [I 5,I 100,I 100])] [] = ok (.tup [Bo true,I 0]):=zo0
 have c3:ev 18 [.pv (.sl 1 [U8 0,U8 0,U8 0,U8 0,U8 0,U8 0,U8 0,U8 0]),.pv (.sl 1 []),.pv (.agg [I 5,I 100,I 100])] [] = ok (.tup [Bo false,I 1]):=zo1
 have c4:ev 19 [.pv (.sl 1 [U8 0,U8 0,U8 0,U8 0,U8 1,U8 0,U8 0,U8 0,U8 0,U8 0,U8 0,U8 0,U8 0,U8 0,U8 0,U8 0])] [] = ok (.tup [.sl 1 [U8 16,U8 1,U8 0,U8 0],I 0]):=zo2
 have c5:ev 20 [.pv (.sl 1 [U8 16,U8 1,U8 0,U8 0]),.pv (.agg [I 5,I 100,I 100])] [] = ok (.tup [.sl 1 [U8 0,U8 0,U8 0,U8 0,U8 1,U8 0,U8 0,U8 0,U8 0,U8 0,U8 0,U8 0,U8 0,U8 0,U8 0,U8 0],I 0]):=zo3
 have c6:ev 20 [.pv (.sl 1 [U8 16,U8 1,U8 0,U8 0]),.pv (.agg [I 0,I 0,I 15])] [] = ok (.tup [.sl 1 [],I 11]):=zo4
 have c7:ev 17 [.pv (.sl 1 [U8 0,U8 0,U8 0,U8 0,U8 0,U8 0,U8 0,U8 0]),.pv (.agg [I 5,I 100,I 100])] [] = ok (.tup [U hA,I 0]):=zo5
 have c8:ev 35 [.pv (.sl 1 [U8 0,U8 0,U8 0,U8 0,U8 0,U8 0,U8 0,U8 0]),.pv (.agg [I 5,I 100,I 100])] [] = ok (Bo false):=znb
 have c9:ev 35 [.pv (.sl 1 [U8 0,U8 0,U8 0,U8 0,U8 1,U8 0,U8 0,U8 0,U8 0,U8 0,U8 0,U8 0,U8 0,U8 0,U8 0,U8 0]),.pv (.agg [I 5,I 100,I 100])] [] = ok (Bo true):=znc
 have s1:ev 27 [.pv (.sl 1 [U8 0,U8 0,U8 0,U8 0,U8 1,U8 0,U8 0,U8 0,U8 0,U8 0,U8 0,U8 0,U8 0,U8 0,U8 0,U8 0]),.pv (.sl 1 [U8 0,U8 0,U8 0,U8 0,U8 1,U8 0,U8 0,U8 0,U8 0,U8 0,U8 0,U8 0,U8 0,U8 0,U8 0,U8 0])] [] = ok (Bo true):=Q0 (l:=mNul) (by decide)
 have s2:ev 27 [.pv (.sl 1 [U8 16,U8 1,U8 0,U8 0]),.pv (.sl 1 [U8 16,U8 1,U8 0,U8 0])] [] = ok (Bo true):=Q0 (l:=zij) (by decide)
 rw [Wp,c1,c2,c3,c4,c7,c8,c9,zpc]
 dsimp only [za,zb,zf,zpi,zj,zm,zq,zk,zs,zn,zK,zM,zL,pU8,zpg,zph,zi,zg,zc,zh,ze,zA,zv,zr,zo,zJ,zI,zF,zG,zH,len8,zD,zC,zt,zu]
 rw [WE]
 dsimp only [za,zb,zf,zpi,zj,zm,zq,zk,zs,zn,zK,zM,zL,pU8,zpg,zph,zi,zg,zc,zh,ze,zA,zv,zr,zo,zJ,zI,zF,zG,zH,len8,zD,zC,zt,zu]
 rw [yO]
 dsimp only [za,zb,zf,zpi,zj,zm,zq,zk,zs,zn,zK,zM,zL,pU8,zpg,zph,zi,zg,zc,zh,ze,zA,zv,zr,zo,zJ,zI,zF,zG,zH,len8,zD,zC,zt,zu]
 rw [c5,c6,show ((0:Int) == 0) = true from rfl,show ((1:Int) == 1) = true from rfl,s1,s2,show (hA == hA) = true from by simp]
 dsimp only [za,zb,zf,zpi,zj,zm,zq,zk,zs,zn,zK,zM,zL,pU8,zpg,zph,zi,zg,zc,zh,ze,zA,zv,zr,zo,zJ,zI,zF,zG,zH,len8,zD,zC,zt,zu]
 rw [show ((0:Int) == 0) = true from rfl,show ((11:Int) == 11) = true from rfl,s1]
 rfl
theorem zbu {w:Int} (hw:xI w):ev 91 [.pv (.sl 1 [U w])] [] = ok (.sl 1 (bs (w8 w))):=by
 have:=QB [w] ⟨show 1 ≤ 9223372036854775807 by decide,fun x hx => by rw [List.mem_singleton.1 hx]; exact hw⟩ (show 1 ≤ 17592186044416 by decide)
 rw [show byt [w] = w8 w from List.append_nil _] at this
 exact this
theorem zjC {l:List Int} (h8:l.length = 8):∀ (c i:Nat),i + c = 8 → xR (.sl 1 (bs l)) (Wf (l.take i)) (2 ^ i) i = ok (U8 (Wf l)):=by
 intro c
 induction c with
 | zero =>
  intro i hi
  have hr:=K7 l
  rw [h8,show (2:Int) ^ 8 = 256 from rfl] at hr
  rw [Zu,decide_eq_false (by omega),List.take_of_length_le (by omega),YQ,Int.emod_eq_of_lt hr.1 hr.2]
  rfl
 | succ c ih =>
  intro i hi
  have hg:(bs l)[(i:Int).toNat]? = some (U8 (l.getD i 0)):=ZL rfl (by omega)
  have hn:=ih (i + 1) (by omega)
  have hr:=K7 (l.take i)
  have hp:(2:Int) ^ i ≤ 128:=by
   have:(2:Nat) ^ i ≤ 2 ^ 7:=Nat.pow_le_pow_right (by decide) (by omega)
   exact_mod_cast this
  have hp0:(0:Int) < 2 ^ i:=Int.pow_pos (by decide)
  rw [XO (by omega),K8,List.length_take,Nat.min_eq_left (by omega),Int.pow_succ] at hn
  rw [List.length_take,Nat.min_eq_left (by omega)] at hr
  rw [Zu,decide_eq_true (show (i:Int) < 8 by omega)]
  dsimp only [za,zb,zf,zpi,zj,zm,zq,zk,zs,zn,zK,zM,zL,pU8,zpg,zph,zi,zg,zc,zh,ze,zA,zv,zr,zo,zJ,zI,zF,zG,zH,len8,zD,zC,zt,zu]
  rw [zV,h8,decide_eq_true (show 0 ≤ (i:Int) by omega),decide_eq_true (show (i:Int) < ((8:Nat):Int) by omega),show decide ((1:Nat) = 1) = true from rfl]
  dsimp only [za,zb,zf,zpi,zj,zm,zq,zk,zs,zn,zK,zM,zL,pU8,zpg,zph,zi,zg,zc,zh,ze,zA,zv,zr,zo,zJ,zI,zF,zG,zH,len8,zD,zC,zt,zu]
  rw [hg]
  dsimp only [za,zb,zf,zpi,zj,zm,zq,zk,zs,zn,zK,zM,zL,pU8,zpg,zph,zi,zg,zc,zh,ze,zA,zv,zr,zo,zJ,zI,zF,zG,zH,len8,zD,zC,zt,zu]
  rw [w64 (x:=(i:Int) + 1) (by omega),w64 (x:=2 ^ i * 2) (by omega),w64 (x:=Wf (l.take i) + 2 ^ i) (by omega)]
  by_cases h0:l.getD i 0 = 0
  ·rw [h0,show ((0:Int) != 0) = false from rfl]
   rw [h0,show nzb 0 = 0 from rfl,Int.zero_mul,Int.add_zero] at hn
   exact hn
  ·rw [Yy h0]
   rw [show nzb (l.getD i 0) = 1 from if_neg h0,Int.one_mul] at hn
   exact hn
theorem zjB {l:List Int} (h8:l.length = 8):∀ (c i:Nat),i + c = 8 → xf (.sl 1 (bs l)) (bs (nz (l.take i))) i = ok (.sl 1 (bs (nz l))):=by
 intro c
 induction c with
 | zero =>
  intro i hi
  rw [vt,decide_eq_false (by omega),List.take_of_length_le (by omega)]
  rfl
 | succ c ih =>
  intro i hi
  have hg:(bs l)[(i:Int).toNat]? = some (U8 (l.getD i 0)):=ZL rfl (by omega)
  have hn:=ih (i + 1) (by omega)
  have hf:(nz (l.take i)).length ≤ 8:=by
   have:=List.length_filter_le (fun c:Int => !decide (c = 0)) (l.take i)
   rw [List.length_take] at this
   unfold nz
   omega
  rw [XO (by omega)] at hn
  rw [vt,decide_eq_true (show (i:Int) < 8 by omega)]
  dsimp only [za,zb,zf,zpi,zj,zm,zq,zk,zs,zn,zK,zM,zL,pU8,zpg,zph,zi,zg,zc,zh,ze,zA,zv,zr,zo,zJ,zI,zF,zG,zH,len8,zD,zC,zt,zu]
  rw [zV,h8,decide_eq_true (show 0 ≤ (i:Int) by omega),decide_eq_true (show (i:Int) < ((8:Nat):Int) by omega),show decide ((1:Nat) = 1) = true from rfl]
  dsimp only [za,zb,zf,zpi,zj,zm,zq,zk,zs,zn,zK,zM,zL,pU8,zpg,zph,zi,zg,zc,zh,ze,zA,zv,zr,zo,zJ,zI,zF,zG,zH,len8,zD,zC,zt,zu]
  rw [hg]
  dsimp only [za,zb,zf,zpi,zj,zm,zq,zk,zs,zn,zK,zM,zL,pU8,zpg,zph,zi,zg,zc,zh,ze,zA,zv,zr,zo,zJ,zI,zF,zG,zH,len8,zD,zC,zt,zu]
  rw [w64 (x:=(i:Int) + 1) (by omega)]
  by_cases h0:l.getD i 0 = 0
  ·rw [h0,show ((0:Int) != 0) = false from rfl]
   rw [h0,show nz (l.take i ++ [0]) = nz (l.take i) by simp [nz]] at hn
   exact hn
  ·rw [Yy h0,zV,yb (by omega) (by omega)]
   rw [show nz (l.take i ++ [l.getD i 0]) = nz (l.take i) ++ [l.getD i 0] by simp only [nz,List.filter_append,List.filter_cons,decide_eq_false h0]; rfl,Zr] at hn
   exact hn
theorem zoe {w:Int} (hw:xI w):ev 88 [.pv (U w)] [] = ok (U8 (Qh w)):=by
 rw [Ql,zbu hw]
 exact zjC (xA w) 8 0 rfl
theorem zmJ {w:Int} (hw:xI w):ev 89 [.pv (U w)] [] = ok (.sl 1 (bs (nzW w))):=by
 rw [Ww,zbu hw]
 exact zjB (xA w) 8 0 rfl
theorem zcm:∀ n,w7 n 0 = 0
 | 0 => rfl
 | n + 1 => by rw [w7,if_neg (by decide),show (0:Int) / 2 = 0 from rfl,zcm n]
theorem zeG:∀ l:List Int,w7 l.length (Wf l) = (nz l).length
 | [] => rfl
 | c :: l => by
  have:=zeG l
  rw [zpk,w7,Wf]
  unfold nzb
  by_cases h:c = 0
  ·rw [if_pos h,if_neg (by omega),show (0 + 2 * Wf l) / 2 = Wf l by omega,this]
   have:nz (c :: l) = nz l:=by simp [nz,h]
   rw [this]
   omega
  ·rw [if_neg h,if_pos (by omega),show (1 + 2 * Wf l) / 2 = Wf l by omega,this]
   have:nz (c :: l) = c :: nz l:=by simp [nz,h]
   rw [this,zpk]
   omega
theorem zkq (w:Int):w7 8 (Qh w) = (nzW w).length:=by
 have:=zeG (w8 w)
 rw [xA] at this
 exact this
theorem zm2 (w:Int):dns w = decide (((nzW w).length:Int) ≥ 7):=by
 unfold dns
 rw [zhD (zbc w),zkq]
theorem zix {w:Int} (hw:xI w):ev 90 [.pv (U w)] [] = ok (Bo (dns w)):=by
 rw [Wx,zmJ hw,zm2]
 dsimp only [za,zb,zf,zpi,zj,zm,zq,zk,zs,zn,zK,zM,zL,pU8,zpg,zph,zi,zg,zc,zh,ze,zA,zv,zr,zo,zJ,zI,zF,zG,zH,len8,zD,zC,zt,zu]
 rw [zV]
theorem VP:∀ (n:Nat) (t:Int) (k:Nat),k + n ≤ 8 → 0 ≤ t → t < 2 ^ n → x6 k t = ok (I (k + w7 n t:Nat))
 | 0,t,k,hn,h0,h1 => by
  have:t = 0:=by rw [Int.pow_zero] at h1; omega
  rw [this,vH]
  rfl
 | n + 1,t,k,hn,h0,h1 => by
  rw [Int.pow_succ] at h1
  have hp:(2:Int) ^ n ≤ 128:=by
   have:(2:Nat) ^ n ≤ 2 ^ 7:=Nat.pow_le_pow_right (by decide) (by omega)
   exact_mod_cast this
  rw [vH]
  by_cases h:t > 0
  ·rw [decide_eq_true h,Int.tmod_eq_emod_of_nonneg h0,Int.tdiv_eq_ediv_of_nonneg h0,w64 (x:=t / 2) (by omega),w64 (x:=(k:Int) + t % 2) (by omega),w7]
   dsimp only [za,zb,zf,zpi,zj,zm,zq,zk,zs,zn,zK,zM,zL,pU8,zpg,zph,zi,zg,zc,zh,ze,zA,zv,zr,zo,zJ,zI,zF,zG,zH,len8,zD,zC,zt,zu]
   by_cases h2:t % 2 = 1
   ·have:=VP n (t / 2) (k + 1) (by omega) (by omega) (by omega)
    rw [if_pos h2,h2]
    rw [show k + 1 + w7 n (t / 2) = k + (1 + w7 n (t / 2)) by omega] at this
    exact this
   ·have:=VP n (t / 2) k (by omega) (by omega) (by omega)
    rw [if_neg h2,show t % 2 = 0 by omega,Int.add_zero,Nat.zero_add]
    exact this
  ·have:t = 0:=by omega
   rw [this,zcm]
   rfl
theorem zgh {t:Int} (h:0 ≤ t ∧ t < 256):ev 144 [.pv (U8 t)] [] = ok (I (w7 8 t)):=by
 have:=VP 8 t 0 (by decide) h.1 h.2
 rw [Nat.zero_add] at this
 rw [WP,w64 (x:=t) (by omega)]
 exact this
theorem zkA {l:List Int} (h:l.length = 8):w8i l = zcT l:=by
 match l,h with
 | [a0,a1,a2,a3,a4,a5,a6,a7],_ =>
  simp only [w8i,zcT,List.getD_cons_zero,List.getD_cons_succ]
  omega
theorem zhO {b:List Int} (hb:∀ x ∈ b,yq x) (p1:PV):∀ (c i k:Nat) (t:Int) (acc:List Int),i + c = 8 → acc.length = i → (∀ x ∈ acc,yq x) → 0 ≤ t → t < 256 → k + w7 c t ≤ b.length → b.length ≤ 17592186044416 →
  y7 (bs b) p1 (bs acc) t k i = ok (.tup [U (zcT (acc ++ Jw c t (b.drop k))),p1,Bo true]):=by
 intro c
 induction c with
 | zero =>
  intro i k t acc hi ha hab h0 h1 hk hl
  have hg:=zgg hab (i:=0) (by omega) (by omega)
  have hg':ev 94 [.pv (.sl 1 (bs acc)),.pv (I 0)] [] = _:=hg
  rw [Nat.mul_zero,List.drop_zero,zkA (by omega)] at hg'
  rw [wX,decide_eq_false (by omega),hg',Jw,List.append_nil]
  rfl
 | succ c ih =>
  intro i k t acc hi ha hab h0 h1 hk hl
  rw [w7] at hk
  rw [wX,decide_eq_true (show (i:Int) < 8 by omega),Int.tmod_eq_emod_of_nonneg h0,Int.tdiv_eq_ediv_of_nonneg h0,w64 (x:=t / 2) (by omega),w64 (x:=(i:Int) + 1) (by omega),Jw]
  dsimp only [za,zb,zf,zpi,zj,zm,zq,zk,zs,zn,zK,zM,zL,pU8,zpg,zph,zi,zg,zc,zh,ze,zA,zv,zr,zo,zJ,zI,zF,zG,zH,len8,zD,zC,zt,zu]
  rw [zV,zV,yb (by omega) (by omega)]
  by_cases h2:t % 2 = 1
  ·rw [if_pos h2] at hk ⊢
   have hg:(bs b)[(k:Int).toNat]? = some (U8 (b.getD k 0)):=ZL rfl (by omega)
   have hv:=z5 hb k
   have e1:(b.drop k).tail = b.drop (k + 1):=by rw [List.tail_drop]
   have e2:(b.drop k).headD 0 = b.getD k 0:=by rw [List.headD_eq_head?_getD,List.head?_drop,List.getD_eq_getElem?_getD]
   rw [beq_iff_eq.2 h2,decide_eq_true (show 0 ≤ (k:Int) by omega),decide_eq_true (show (k:Int) < b.length by omega),hg,w64 (x:=(k:Int) + 1) (by omega),e1,e2]
   have:=ih (i + 1) (k + 1) (t / 2) (acc ++ [b.getD k 0]) (by omega) (by simp [ha]) (fun x hx => by
    rcases List.mem_append.1 hx with h | h
    ·exact hab x h
    ·rw [List.mem_singleton.1 h]; exact hv) (by omega) (by omega) (by omega) hl
   rw [List.append_assoc,Zr] at this
   exact this
  ·rw [if_neg h2] at hk ⊢
   rw [beq_eq_false_iff_ne.2 h2]
   have:=ih (i + 1) k (t / 2) (acc ++ [0]) (by omega) (by simp [ha]) (fun x hx => by
    rcases List.mem_append.1 hx with h | h
    ·exact hab x h
    ·rw [List.mem_singleton.1 h]; unfold yq; omega) (by omega) (by omega) (by omega) hl
   rw [List.append_assoc,Zr] at this
   exact this
theorem zfd {b:List Int} {t:Int} (ht:0 ≤ t ∧ t < 256) (h:b.length < w7 8 t):ev 93 [.pv (U8 t),.pv (.sl 1 (bs b))] [] = ok (.tup [U 0,I 0,Bo false]):=by
 rw [vY,zgh ht]
 dsimp only [za,zb,zf,zpi,zj,zm,zq,zk,zs,zn,zK,zM,zL,pU8,zpg,zph,zi,zg,zc,zh,ze,zA,zv,zr,zo,zJ,zI,zF,zG,zH,len8,zD,zC,zt,zu]
 rw [zV,decide_eq_true (by omega)]
 rfl
theorem zfe {b:List Int} (hb:∀ x ∈ b,yq x) (hl:b.length ≤ 17592186044416) {t:Int} (ht:0 ≤ t ∧ t < 256) (h:w7 8 t ≤ b.length):ev 93 [.pv (U8 t),.pv (.sl 1 (bs b))] [] = ok (.tup [U (exW t b),I (w7 8 t),Bo true]):=by
 rw [vY,zgh ht]
 dsimp only [za,zb,zf,zpi,zj,zm,zq,zk,zs,zn,zK,zM,zL,pU8,zpg,zph,zi,zg,zc,zh,ze,zA,zv,zr,zo,zJ,zI,zF,zG,zH,len8,zD,zC,zt,zu]
 rw [zV,decide_eq_false (by omega),w64 (x:=t) (by omega)]
 exact zhO hb (I (w7 8 t)) 8 0 0 t [] rfl rfl (fun x hx => by cases hx) ht.1 ht.2 (by omega) hl
theorem zkS {b:List Int} (h:b.length < 8):ev 94 [.pv (.sl 1 (bs b)),.pv (I 0)] [] = ok (.tup [U 0,Bo false]):=by
 rw [Yc,zV,Int.tdiv_eq_ediv_of_nonneg (by omega),show (b.length:Int) / 8 = 0 by omega]
 rfl
def zaX (a:List Int) (x:List Int × Bool):List Int × Bool:=(a ++ x.1,x.2)
def d22:Nat → List Int → List Int × Bool
 | 0,_ => ([],false)
 | _ + 1,[] => ([],false)
 | f + 1,t :: rest =>
  if t = 0 then (match rest with
   | [] => ([],true)
   | n :: r2 => zaX (List.replicate (n.toNat + 1) 0) (d22 f r2))
  else if rest.length < w7 8 t then ([],true)
  else if t = 255 then (match rest.drop (w7 8 t) with
   | [] => ([exW t rest],true)
   | n :: r2 => if r2.length < 8 * n.toNat then (exW t rest :: xi (r2.length / 8) r2,true) else zaX (exW t rest :: xi n.toNat r2) (d22 f (r2.drop (8 * n.toNat))))
  else zaX [exW t rest] (d22 f (rest.drop (w7 8 t)))
theorem zgH (p:List Int) (i:Nat):((bs p).take ((p.length:Nat):Int).toNat).drop (i:Int).toNat = bs (p.drop i):=by
 rw [Int.toNat_natCast,Int.toNat_natCast,List.take_of_length_le (by rw [zV]; exact Nat.le_refl _)]
 simp [bs]
theorem zlk {p:List Int} (hb:∀ x ∈ p,yq x) (hl:p.length ≤ 1073741824) {i:Nat} (hi:i < p.length):∀ (c k:Nat) (acc:List Int),k + c = (p.getD i 0).toNat + 1 → acc.length + c ≤ 4398046511104 →
  y8 (bs p) (ws acc) i k = yi (bs p) (ws (acc ++ List.replicate c 0)) ((i + 1:Nat):Int):=by
 have hv:=z5 hb i
 have hg:(bs p)[(i:Int).toNat]? = some (U8 (p.getD i 0)):=ZL rfl hi
 intro c
 induction c with
 | zero =>
  intro k acc hk ha
  rw [wu,zV,decide_eq_true (show 0 ≤ (i:Int) by omega),decide_eq_true (show (i:Int) < p.length by omega),hg]
  dsimp only [za,zb,zf,zpi,zj,zm,zq,zk,zs,zn,zK,zM,zL,pU8,zpg,zph,zi,zg,zc,zh,ze,zA,zv,zr,zo,zJ,zI,zF,zG,zH,len8,zD,zC,zt,zu]
  rw [w64 (x:=p.getD i 0) (by omega),decide_eq_false (by omega),w64 (x:=(i:Int) + 1) (by omega),List.replicate_zero,List.append_nil,show (i:Int) + 1 = ((i + 1:Nat):Int) by push_cast; rfl]
  rfl
 | succ c ih =>
  intro k acc hk ha
  have:=ih (k + 1) (acc ++ [0]) (by omega) (by simp; omega)
  rw [wu,zV,decide_eq_true (show 0 ≤ (i:Int) by omega),decide_eq_true (show (i:Int) < p.length by omega),hg]
  dsimp only [za,zb,zf,zpi,zj,zm,zq,zk,zs,zn,zK,zM,zL,pU8,zpg,zph,zi,zg,zc,zh,ze,zA,zv,zr,zo,zJ,zI,zF,zG,zH,len8,zD,zC,zt,zu]
  rw [w64 (x:=p.getD i 0) (by omega),decide_eq_true (by omega),ym,yb (by omega) (by omega),w64 (x:=(k:Int) + 1) (by omega)]
  rw [List.append_assoc,show [(0:Int)] ++ List.replicate c 0 = List.replicate (c + 1) 0 by rw [List.replicate_succ]; rfl,zie] at this
  exact this
theorem zlj {p:List Int} (hb:∀ x ∈ p,yq x) (hl:p.length ≤ 1073741824) {n:Nat} (hn:n ≤ 255):∀ (c k i:Nat) (acc:List Int),k + c = n → i ≤ p.length → acc.length + c ≤ 4398046511104 →
  y9 (bs p) (ws acc) i n k = if (p.drop i).length < 8 * c then ok (.tup [.sl 1 (ws (acc ++ xi ((p.drop i).length / 8) (p.drop i))),Bo true]) else yi (bs p) (ws (acc ++ xi c (p.drop i))) ((i + 8 * c:Nat):Int):=by
 intro c
 induction c with
 | zero =>
  intro k i acc hk hi ha
  rw [wv,decide_eq_false (by omega),if_neg (by omega),xi,List.append_nil]
  rfl
 | succ c ih =>
  intro k i acc hk hi ha
  rw [wv,decide_eq_true (show (k:Int) < n by omega),zV,decide_eq_true (show 0 ≤ (i:Int) by omega),decide_eq_true (show (i:Int) ≤ p.length by omega),decide_eq_true (Int.le_refl _),zgH]
  dsimp only [za,zb,zf,zpi,zj,zm,zq,zk,zs,zn,zK,zM,zL,pU8,zpg,zph,zi,zg,zc,zh,ze,zA,zv,zr,zo,zJ,zI,zF,zG,zH,len8,zD,zC,zt,zu]
  by_cases h:(p.drop i).length < 8
  ·rw [zkS h,if_pos (by omega),show (p.drop i).length / 8 = 0 by omega,xi,List.append_nil]
   rfl
  ·have hG:=zgg (xr hb i) (i:=0) (by omega) (by rw [List.length_drop]; omega)
   have hG':ev 94 [.pv (.sl 1 (bs (p.drop i))),.pv (I 0)] [] = _:=hG
   have hd:(p.drop i).length = p.length - i:=List.length_drop
   have:=ih (k + 1) (i + 8) (acc ++ [w8i (p.drop i)]) (by omega) (by omega) (by simp; omega)
   rw [Nat.mul_zero,List.drop_zero] at hG'
   rw [hG']
   dsimp only [za,zb,zf,zpi,zj,zm,zq,zk,zs,zn,zK,zM,zL,pU8,zpg,zph,zi,zg,zc,zh,ze,zA,zv,zr,zo,zJ,zI,zF,zG,zH,len8,zD,zC,zt,zu]
   rw [ym,yb (by omega) (by omega),w64 (x:=(i:Int) + 8) (by omega),w64 (x:=(k:Int) + 1) (by omega),show (i:Int) + 8 = ((i + 8:Nat):Int) by push_cast; rfl,show (k:Int) + 1 = ((k + 1:Nat):Int) by push_cast; rfl]
   rw [← WI] at this
   refine Eq.trans this ?_
   have hd2:(p.drop (i + 8)).length = p.length - (i + 8):=List.length_drop
   have e1:xi (c + 1) (p.drop i) = w8i (p.drop i) :: xi c (p.drop (i + 8)):=by rw [xi,List.drop_drop]
   by_cases h2:(p.drop i).length < 8 * (c + 1)
   ·obtain ⟨q,hq⟩:∃ q,(p.drop i).length / 8 = q + 1:=⟨(p.drop i).length / 8 - 1,by omega⟩
    rw [if_pos h2,if_pos (by omega),hq,show (p.drop (i + 8)).length / 8 = q by omega,xi,List.drop_drop,List.append_assoc]
    rfl
   ·rw [if_neg h2,if_neg (by omega),e1,List.append_assoc,show i + 8 + 8 * c = i + 8 * (c + 1) by omega]
    rfl
theorem Kk (f:Nat):d22 f [] = ([],false):=by cases f <;> rfl
theorem XF (f:Nat) (t:Int) (rest:List Int):d22 (f + 1) (t :: rest) = if t = 0 then (match rest with
   | [] => ([],true)
   | n :: r2 => zaX (List.replicate (n.toNat + 1) 0) (d22 f r2))
  else if rest.length < w7 8 t then ([],true)
  else if t = 255 then (match rest.drop (w7 8 t) with
   | [] => ([exW t rest],true)
   | n :: r2 => if r2.length < 8 * n.toNat then (exW t rest :: xi (r2.length / 8) r2,true) else zaX (exW t rest :: xi n.toNat r2) (d22 f (r2.drop (8 * n.toNat))))
  else zaX [exW t rest] (d22 f (rest.drop (w7 8 t))):=rfl
theorem Kq {p:List Int} {i:Nat} (h:i < p.length):p.drop i = p.getD i 0 :: p.drop (i + 1):=by
 rw [List.drop_eq_getElem_cons h,List.getD_eq_getElem?_getD,List.getElem?_eq_getElem h]
 rfl
theorem zaY (a:List Int) (b:List Int) (x:List Int × Bool):a ++ (zaX b x).1 = (a ++ b) ++ x.1 ∧ (zaX b x).2 = x.2:=⟨by simp [zaX],rfl⟩
theorem zm0 {p:List Int} (hb:∀ x ∈ p,yq x) (hl:p.length ≤ 1073741824):∀ (f i:Nat) (acc:List Int),i ≤ p.length → p.length - i ≤ f → acc.length + 512 * (p.length - i) ≤ 1099511627776 →
  yi (bs p) (ws acc) i = ok (.tup [.sl 1 (ws (acc ++ (d22 f (p.drop i)).1)),Bo (d22 f (p.drop i)).2]):=by
 intro f
 induction f with
 | zero =>
  intro i acc hi hf ha
  rw [xo,zV,decide_eq_false (by omega),d22,List.append_nil]
  rfl
 | succ f ih =>
  intro i acc hi hf ha
  by_cases h:i < p.length
  ·have hv:=z5 hb i
   have hg:(bs p)[(i:Int).toNat]? = some (U8 (p.getD i 0)):=ZL rfl h
   have hc1:(i:Int) + 1 = ((i + 1:Nat):Int):=by push_cast; rfl
   have hd1:(p.drop (i + 1)).length = p.length - (i + 1):=List.length_drop
   rw [xo,zV,decide_eq_true (show (i:Int) < p.length by omega),decide_eq_true (show 0 ≤ (i:Int) by omega),hg,w64 (x:=(i:Int) + 1) (by omega),hc1,Kq h,XF]
   dsimp only [za,zb,zf,zpi,zj,zm,zq,zk,zs,zn,zK,zM,zL,pU8,zpg,zph,zi,zg,zc,zh,ze,zA,zv,zr,zo,zJ,zI,zF,zG,zH,len8,zD,zC,zt,zu]
   by_cases h0:p.getD i 0 = 0
   ·rw [if_pos h0,beq_iff_eq.2 h0]
    by_cases h1:i + 1 < p.length
    ·have hv1:=z5 hb (i + 1)
     have hz:=zlk hb hl h1 ((p.getD (i + 1) 0).toNat + 1) 0 acc (by omega) (by omega)
     rw [beq_eq_false_iff_ne.2 (show ((i + 1:Nat):Int) ≠ p.length by omega),Kq h1]
     dsimp only
     obtain ⟨e1,e2⟩:=zaY acc (List.replicate ((p.getD (i + 1) 0).toNat + 1) 0) (d22 f (p.drop (i + 1 + 1)))
     rw [e1,e2,← ih (i + 1 + 1) _ (by omega) (by omega) (by rw [zpj,List.length_replicate]; omega)]
     exact hz
    ·have h2:p.length = i + 1:=by omega
     rw [beq_iff_eq.2 (show ((i + 1:Nat):Int) = p.length by omega),show p.drop (i + 1) = [] from List.drop_eq_nil_of_le (by omega)]
     dsimp only
     rw [List.append_nil]
     all_goals rfl
   ·have hpn:=zhC 8 (p.getD i 0)
    rw [if_neg h0,beq_eq_false_iff_ne.2 h0,decide_eq_true (show 0 ≤ ((i + 1:Nat):Int) by omega),decide_eq_true (show ((i + 1:Nat):Int) ≤ p.length by omega),decide_eq_true (Int.le_refl _),zgH]
    dsimp only [za,zb,zf,zpi,zj,zm,zq,zk,zs,zn,zK,zM,zL,pU8,zpg,zph,zi,zg,zc,zh,ze,zA,zv,zr,zo,zJ,zI,zF,zG,zH,len8,zD,zC,zt,zu]
    by_cases h1:(p.drop (i + 1)).length < w7 8 (p.getD i 0)
    ·rw [if_pos h1,zfd (by omega) h1]
     dsimp only [za,zb,zf,zpi,zj,zm,zq,zk,zs,zn,zK,zM,zL,pU8,zpg,zph,zi,zg,zc,zh,ze,zA,zv,zr,zo,zJ,zI,zF,zG,zH,len8,zD,zC,zt,zu]
     rw [List.append_nil]
     all_goals rfl
    ·have hc2:((i + 1:Nat):Int) + ((w7 8 (p.getD i 0):Nat):Int) = ((i + 1 + w7 8 (p.getD i 0):Nat):Int):=by push_cast; rfl
     rw [if_neg h1,zfe (xr hb _) (by omega) (by omega) (by omega)]
     dsimp only [za,zb,zf,zpi,zj,zm,zq,zk,zs,zn,zK,zM,zL,pU8,zpg,zph,zi,zg,zc,zh,ze,zA,zv,zr,zo,zJ,zI,zF,zG,zH,len8,zD,zC,zt,zu]
     rw [ym,yb (by omega) (by omega),w64 (x:=((i + 1:Nat):Int) + ((w7 8 (p.getD i 0):Nat):Int)) (by omega),hc2,List.drop_drop]
     by_cases h2:p.getD i 0 = 255
     ·rw [if_pos h2,show (p.getD i 0 != 255) = false by rw [h2]; rfl]
      generalize hj:i + 1 + w7 8 (p.getD i 0) = j
      by_cases h3:j < p.length
      ·have hv3:=z5 hb j
       have hg3:(bs p)[(j:Int).toNat]? = some (U8 (p.getD j 0)):=ZL rfl h3
       have hc3:(j:Int) + 1 = ((j + 1:Nat):Int):=by push_cast; rfl
       have hd3:(p.drop (j + 1)).length = p.length - (j + 1):=List.length_drop
       have hz:=zlj hb hl (n:=(p.getD j 0).toNat) (by omega) (p.getD j 0).toNat 0 (j + 1) (acc ++ [exW (p.getD i 0) (p.drop (i + 1))]) (by omega) (by omega) (by rw [zpj]; show _ + 1 + _ ≤ _; omega)
       rw [beq_eq_false_iff_ne.2 (show (j:Int) ≠ p.length by omega),decide_eq_true (show 0 ≤ (j:Int) by omega),decide_eq_true (show (j:Int) < p.length by omega),hg3,Kq h3]
       dsimp only [za,zb,zf,zpi,zj,zm,zq,zk,zs,zn,zK,zM,zL,pU8,zpg,zph,zi,zg,zc,zh,ze,zA,zv,zr,zo,zJ,zI,zF,zG,zH,len8,zD,zC,zt,zu]
       rw [w64 (x:=(j:Int) + 1) (by omega),w64 (x:=p.getD j 0) (by omega),hc3]
       rw [show (((p.getD j 0).toNat:Nat):Int) = p.getD j 0 by omega] at hz
       rw [WI]
       refine Eq.trans hz ?_
       by_cases h4:(p.drop (j + 1)).length < 8 * (p.getD j 0).toNat
       ·rw [if_pos h4,if_pos h4,List.append_assoc]
        rfl
       ·rw [if_neg h4,if_neg h4]
        obtain ⟨e1,e2⟩:=zaY acc (exW (p.getD i 0) (p.drop (i + 1)) :: xi (p.getD j 0).toNat (p.drop (j + 1))) (d22 f ((p.drop (j + 1)).drop (8 * (p.getD j 0).toNat)))
        rw [e1,e2,List.drop_drop,← ih (j + 1 + 8 * (p.getD j 0).toNat) _ (by omega) (by omega) (by rw [zpj,zpk,yp]; omega),List.append_assoc]
        rfl
      ·rw [beq_iff_eq.2 (show (j:Int) = p.length by omega),show p.drop j = [] from List.drop_eq_nil_of_le (show p.length ≤ j by omega)]
       dsimp only [za,zb,zf,zpi,zj,zm,zq,zk,zs,zn,zK,zM,zL,pU8,zpg,zph,zi,zg,zc,zh,ze,zA,zv,zr,zo,zJ,zI,zF,zG,zH,len8,zD,zC,zt,zu]
       rw [WI]
       rfl
     ·rw [if_neg h2,show (p.getD i 0 != 255) = true from bne_iff_ne.2 h2]
      obtain ⟨e1,e2⟩:=zaY acc [exW (p.getD i 0) (p.drop (i + 1))] (d22 f (p.drop (i + 1 + w7 8 (p.getD i 0))))
      rw [e1,e2,← ih (i + 1 + w7 8 (p.getD i 0)) _ (by omega) (by omega) (by rw [zpj]; show _ + 1 + _ ≤ _; omega),← WI]
      rfl
  ·rw [xo,zV,decide_eq_false (by omega),show p.drop i = [] from List.drop_eq_nil_of_le (by omega),Kk,List.append_nil]
   rfl
def xN (p:List Int):List Int × Bool:=d22 p.length p
theorem zdS {p:List Int} (hb:∀ x ∈ p,yq x) (hl:p.length ≤ 1073741824):ev 47 [.pv (.sl 1 (bs p))] [] = ok (.tup [.sl 1 (ws (xN p).1),Bo (xN p).2]):=by
 rw [YA]
 exact zm0 hb hl p.length 0 [] (by omega) (by omega) (by show 0 + _ ≤ _; omega)
theorem zml (l:List Int) (i n:Nat):((ws l).take ((i + n:Nat):Int).toNat).drop (i:Int).toNat = ws ((l.drop i).take n):=by
 rw [Int.toNat_natCast,Int.toNat_natCast,ws,← List.map_take,← List.map_drop,List.drop_take,Nat.add_sub_cancel_left]
 rfl
theorem zjE {l out:List Int} (hl:l.length ≤ 1099511627776) (ho:out.length ≤ 8796093022208) {i:Nat}:∀ (c n:Nat),n + c = 255 → i + n ≤ l.length →
  yl (ws l) (bs out) i (U8 0) n = zP (ws l) (bs (out ++ [((n + runN is0 c (l.drop (i + n)):Nat):Int)])) ((i + (n + runN is0 c (l.drop (i + n))):Nat):Int):=by
 intro c
 have fin:∀ n:Nat,n ≤ 255 → i + n ≤ l.length → (cond (yr ((bs out).length + 1) 1) ((zQ .u8 (.pv (U8 0))).bind fun n_1 => cond (n_1 == 255) (cond ((decide (0 ≤ (i:Int)) && decide ((i:Int) ≤ (IntKind.wrap .i64 ((i:Int) + n)))) && decide ((IntKind.wrap .i64 ((i:Int) + n)) ≤ ((ws l).length:Int))) (zE (ev 91 [(.pv (.sl 1 (((ws l).take (IntKind.wrap .i64 ((i:Int) + n)).toNat).drop (i:Int).toNat)))] []) (fun a_2 h_3 => (zl a_2).bind fun p_4 => (pSl p_4).bind fun l_5 => cond (decide (l_5.1 = 1)) (cond (yr ((bs out ++ [(PV.v (.int .u8 (IntKind.wrap .u8 n)))]).length + l_5.2.length) 1) (zP (ws l) ((bs out ++ [(PV.v (.int .u8 (IntKind.wrap .u8 n)))]) ++ l_5.2) (IntKind.wrap .i64 ((i:Int) + n))) none) none) (fun a_2 h_3 => some (.pan a_2,[]))) none) (zP (ws l) (bs out ++ [(PV.v (.int .u8 (IntKind.wrap .u8 n)))]) (IntKind.wrap .i64 ((i:Int) + n)))) none) = zP (ws l) (bs (out ++ [(n:Int)])) ((i + n:Nat):Int):=by
  intro n hn hi
  rw [zV,yb (by omega) (by omega),w64 (x:=(i:Int) + n) (by omega),YQ,show (n:Int) % 256 = n by omega,Vo,show (i:Int) + n = ((i + n:Nat):Int) by push_cast; rfl]
  rfl
 induction c with
 | zero =>
  intro n hn hi
  rw [xl,decide_eq_false (show ¬ (n:Int) < 255 by omega)]
  refine Eq.trans ?_ (fin n (by omega) hi)
  cases decide (IntKind.wrap .i64 ((i:Int) + n) < ((ws l).length:Int)) <;> rfl
 | succ c ih =>
  intro n hn hi
  rw [xl,decide_eq_true (show (n:Int) < 255 by omega)]
  by_cases h:i + n < l.length
  ·have hg:(ws l)[(IntKind.wrap .i64 ((i:Int) + n)).toNat]? = some (U l[i + n]):=by
    rw [w64 (by omega),show ((i:Int) + n).toNat = i + n by omega]
    exact Y2 h
   rw [hg,List.drop_eq_getElem_cons h,runN,decide_eq_true (show IntKind.wrap .i64 ((i:Int) + n) < ((ws l).length:Int) by rw [w64 (by omega),ym]; omega),decide_eq_true (show 0 ≤ IntKind.wrap .i64 ((i:Int) + n) by rw [w64 (by omega)]; omega)]
   dsimp only [za,zb,zf,zpi,zj,zm,zq,zk,zs,zn,zK,zM,zL,pU8,zpg,zph,zi,zg,zc,zh,ze,zA,zv,zr,zo,zJ,zI,zF,zG,zH,len8,zD,zC,zt,zu]
   rw [show ((0:Int) == 0) = true from rfl]
   dsimp only [za,zb,zf,zpi,zj,zm,zq,zk,zs,zn,zK,zM,zL,pU8,zpg,zph,zi,zg,zc,zh,ze,zA,zv,zr,zo,zJ,zI,zF,zG,zH,len8,zD,zC,zt,zu]
   by_cases h0:l[i + n] = 0
   ·have hn1:=ih (n + 1) (by omega) (by omega)
    rw [h0,show ((0:Int) == 0) = true from rfl,show is0 0 = true from rfl,if_pos rfl,w64 (x:=(n:Int) + 1) (by omega),show n + (runN is0 c (l.drop (i + n + 1)) + 1) = n + 1 + runN is0 c (l.drop (i + (n + 1))) by rw [show i + (n + 1) = i + n + 1 by omega]; omega]
    exact hn1
   ·have h1:(l[i + n] == 0) = false:=beq_eq_false_iff_ne.2 h0
    rw [h1,show is0 l[i + n] = false from h1,if_neg (by decide)]
    exact fin n (by omega) hi
  ·rw [decide_eq_false (show ¬ IntKind.wrap .i64 ((i:Int) + n) < ((ws l).length:Int) by rw [w64 (by omega),ym]; omega),show l.drop (i + n) = [] from List.drop_eq_nil_of_le (by omega)]
   exact fin n (by omega) hi
theorem zjF {l out:List Int} (hw:∀ x ∈ l,xI x) (hl:l.length ≤ 1099511627776) (ho:out.length ≤ 8796093022208) {i:Nat}:∀ (c n:Nat),n + c = 255 → i + n ≤ l.length →
  yl (ws l) (bs out) i (U8 255) n = zP (ws l) (bs (out ++ [((n + runN dns c (l.drop (i + n)):Nat):Int)] ++ byt ((l.drop i).take (n + runN dns c (l.drop (i + n)))))) ((i + (n + runN dns c (l.drop (i + n))):Nat):Int):=by
 intro c
 have fin:∀ n:Nat,n ≤ 255 → i + n ≤ l.length → (cond (yr ((bs out).length + 1) 1) ((zQ .u8 (.pv (U8 255))).bind fun n_1 => cond (n_1 == 255) (cond ((decide (0 ≤ (i:Int)) && decide ((i:Int) ≤ (IntKind.wrap .i64 ((i:Int) + n)))) && decide ((IntKind.wrap .i64 ((i:Int) + n)) ≤ ((ws l).length:Int))) (zE (ev 91 [(.pv (.sl 1 (((ws l).take (IntKind.wrap .i64 ((i:Int) + n)).toNat).drop (i:Int).toNat)))] []) (fun a_2 h_3 => (zl a_2).bind fun p_4 => (pSl p_4).bind fun l_5 => cond (decide (l_5.1 = 1)) (cond (yr ((bs out ++ [(PV.v (.int .u8 (IntKind.wrap .u8 n)))]).length + l_5.2.length) 1) (zP (ws l) ((bs out ++ [(PV.v (.int .u8 (IntKind.wrap .u8 n)))]) ++ l_5.2) (IntKind.wrap .i64 ((i:Int) + n))) none) none) (fun a_2 h_3 => some (.pan a_2,[]))) none) (zP (ws l) (bs out ++ [(PV.v (.int .u8 (IntKind.wrap .u8 n)))]) (IntKind.wrap .i64 ((i:Int) + n)))) none) = zP (ws l) (bs (out ++ [(n:Int)] ++ byt ((l.drop i).take n))) ((i + n:Nat):Int):=by
  intro n hn hi
  have hB:=QB ((l.drop i).take n) ⟨by rw [List.length_take,List.length_drop]; omega,fun x hx => hw x (List.mem_of_mem_drop (List.mem_of_mem_take hx))⟩ (by rw [List.length_take,List.length_drop]; omega)
  have hbl:(byt ((l.drop i).take n)).length = 8 * n:=by rw [yX,List.length_take,List.length_drop]; omega
  rw [zV,yb (by omega) (by omega),w64 (x:=(i:Int) + n) (by omega),YQ,show (n:Int) % 256 = n by omega,Vo,show (i:Int) + n = ((i + n:Nat):Int) by push_cast; rfl,zml,hB,ym,decide_eq_true (show 0 ≤ (i:Int) by omega),decide_eq_true (show (i:Int) ≤ ((i + n:Nat):Int) by omega),decide_eq_true (show ((i + n:Nat):Int) ≤ l.length by omega)]
  dsimp only [za,zb,zf,zpi,zj,zm,zq,zk,zs,zn,zK,zM,zL,pU8,zpg,zph,zi,zg,zc,zh,ze,zA,zv,zr,zo,zJ,zI,zF,zG,zH,len8,zD,zC,zt,zu]
  rw [show ((255:Int) == 255) = true from rfl]
  dsimp only [za,zb,zf,zpi,zj,zm,zq,zk,zs,zn,zK,zM,zL,pU8,zpg,zph,zi,zg,zc,zh,ze,zA,zv,zr,zo,zJ,zI,zF,zG,zH,len8,zD,zC,zt,zu]
  rw [zV,zV,hbl,yb (by rw [zpj]; show (_ + 1 + _) * 1 ≤ _; omega) (by rw [zpj]; show _ + 1 + _ ≤ _; omega),← Zr]
  rfl
 induction c with
 | zero =>
  intro n hn hi
  rw [xl,decide_eq_false (show ¬ (n:Int) < 255 by omega)]
  refine Eq.trans ?_ (fin n (by omega) hi)
  cases decide (IntKind.wrap .i64 ((i:Int) + n) < ((ws l).length:Int)) <;> rfl
 | succ c ih =>
  intro n hn hi
  rw [xl,decide_eq_true (show (n:Int) < 255 by omega)]
  by_cases h:i + n < l.length
  ·have hg:(ws l)[(IntKind.wrap .i64 ((i:Int) + n)).toNat]? = some (U l[i + n]):=by
    rw [w64 (by omega),show ((i:Int) + n).toNat = i + n by omega]
    exact Y2 h
   have hx:xI l[i + n]:=hw _ (List.getElem_mem h)
   rw [hg,List.drop_eq_getElem_cons h,runN,decide_eq_true (show IntKind.wrap .i64 ((i:Int) + n) < ((ws l).length:Int) by rw [w64 (by omega),ym]; omega),decide_eq_true (show 0 ≤ IntKind.wrap .i64 ((i:Int) + n) by rw [w64 (by omega)]; omega)]
   dsimp only [za,zb,zf,zpi,zj,zm,zq,zk,zs,zn,zK,zM,zL,pU8,zpg,zph,zi,zg,zc,zh,ze,zA,zv,zr,zo,zJ,zI,zF,zG,zH,len8,zD,zC,zt,zu]
   rw [show ((255:Int) == 0) = false from rfl,show ((255:Int) == 255) = true from rfl]
   dsimp only [za,zb,zf,zpi,zj,zm,zq,zk,zs,zn,zK,zM,zL,pU8,zpg,zph,zi,zg,zc,zh,ze,zA,zv,zr,zo,zJ,zI,zF,zG,zH,len8,zD,zC,zt,zu]
   rw [zix hx]
   dsimp only [za,zb,zf,zpi,zj,zm,zq,zk,zs,zn,zK,zM,zL,pU8,zpg,zph,zi,zg,zc,zh,ze,zA,zv,zr,zo,zJ,zI,zF,zG,zH,len8,zD,zC,zt,zu]
   cases h0:dns l[i + n] with
   | true =>
    have hn1:=ih (n + 1) (by omega) (by omega)
    rw [if_pos rfl,w64 (x:=(n:Int) + 1) (by omega),show n + (runN dns c (l.drop (i + n + 1)) + 1) = n + 1 + runN dns c (l.drop (i + (n + 1))) by rw [show i + (n + 1) = i + n + 1 by omega]; omega]
    exact hn1
   | false =>
    rw [if_neg (by decide)]
    exact fin n (by omega) hi
  ·rw [decide_eq_false (show ¬ IntKind.wrap .i64 ((i:Int) + n) < ((ws l).length:Int) by rw [w64 (by omega),ym]; omega),show l.drop (i + n) = [] from List.drop_eq_nil_of_le (by omega)]
   exact fin n (by omega) hi
theorem zjD {l:List Int} (hw:∀ x ∈ l,xI x) (hl:l.length ≤ 1099511627776):∀ (f i:Nat) (out:List Int),i ≤ l.length → l.length - i ≤ f → out.length + 16 * (l.length - i) ≤ 8796093022208 →
  zP (ws l) (bs out) i = ok (.sl 1 (bs (out ++ pk f (l.drop i)))):=by
 intro f
 induction f with
 | zero =>
  intro i out hi hf ho
  rw [x4,ym,decide_eq_false (by omega),pk,List.append_nil]
  rfl
 | succ f ih =>
  intro i out hi hf ho
  by_cases h:i < l.length
  ·have hg:(ws l)[(i:Int).toNat]? = some (U l[i]):=Y2 h
   have hx:xI l[i]:=hw _ (List.getElem_mem h)
   have hz:=zdk l[i]
   have hcast:(i:Int) + 1 = ((i + 1:Nat):Int):=by push_cast; rfl
   have hlen:(out ++ [Qh l[i]] ++ nzW l[i]).length ≤ out.length + 9:=by simp; omega
   rw [x4,ym,decide_eq_true (show (i:Int) < l.length by omega),decide_eq_true (show 0 ≤ (i:Int) by omega),hg,List.drop_eq_getElem_cons h]
   dsimp only [za,zb,zf,zpi,zj,zm,zq,zk,zs,zn,zK,zM,zL,pU8,zpg,zph,zi,zg,zc,zh,ze,zA,zv,zr,zo,zJ,zI,zF,zG,zH,len8,zD,zC,zt,zu]
   rw [zoe hx,zV,yb (by omega) (by omega)]
   dsimp only [za,zb,zf,zpi,zj,zm,zq,zk,zs,zn,zK,zM,zL,pU8,zpg,zph,zi,zg,zc,zh,ze,zA,zv,zr,zo,zJ,zI,zF,zG,zH,len8,zD,zC,zt,zu]
   rw [zmJ hx]
   dsimp only [za,zb,zf,zpi,zj,zm,zq,zk,zs,zn,zK,zM,zL,pU8,zpg,zph,zi,zg,zc,zh,ze,zA,zv,zr,zo,zJ,zI,zF,zG,zH,len8,zD,zC,zt,zu]
   rw [Vo,zV,zV,yb (by rw [zpj]; show (_ + 1 + _) * 1 ≤ _; omega) (by rw [zpj]; show _ + 1 + _ ≤ _; omega),← Zr,w64 (x:=(i:Int) + 1) (by omega),hcast]
   dsimp only [za,zb,zf,zpi,zj,zm,zq,zk,zs,zn,zK,zM,zL,pU8,zpg,zph,zi,zg,zc,zh,ze,zA,zv,zr,zo,zJ,zI,zF,zG,zH,len8,zD,zC,zt,zu]
   by_cases h0:Qh l[i] = 0
   ·have hrn:=YK is0 255 (l.drop (i + 1))
    rw [List.length_drop] at hrn
    have hr:=zjE (l:=l) (out:=out ++ [Qh l[i]] ++ nzW l[i]) hl (by omega) (i:=i + 1) 255 0 rfl (by omega)
    rw [Nat.zero_add,Nat.add_zero] at hr
    rw [pk,if_pos h0,h0,show ((0:Int) != 0) = false from rfl]
    rw [h0] at hr
    refine Eq.trans (b:=yl (ws l) (bs (out ++ [0] ++ nzW l[i])) ((i + 1:Nat):Int) (U8 0) ((0:Nat):Int)) rfl ?_
    rw [hr,ih _ _ (by omega) (by omega) (by rw [h0] at hlen; rw [zpj]; show _ + 1 + _ ≤ _; omega),List.drop_drop]
    simp only [List.append_assoc,List.cons_append,zpl]
   ·rw [Yy h0]
    dsimp only [za,zb,zf,zpi,zj,zm,zq,zk,zs,zn,zK,zM,zL,pU8,zpg,zph,zi,zg,zc,zh,ze,zA,zv,zr,zo,zJ,zI,zF,zG,zH,len8,zD,zC,zt,zu]
    by_cases h1:Qh l[i] = 255
    ·have hrn:=YK dns 255 (l.drop (i + 1))
     rw [List.length_drop] at hrn
     have hr:=zjF (l:=l) (out:=out ++ [Qh l[i]] ++ nzW l[i]) hw hl (by omega) (i:=i + 1) 255 0 rfl (by omega)
     rw [Nat.zero_add,Nat.add_zero] at hr
     have hbl:(byt ((l.drop (i + 1)).take (runN dns 255 (l.drop (i + 1))))).length = 8 * runN dns 255 (l.drop (i + 1)):=by rw [yX,List.length_take,List.length_drop]; omega
     rw [pk,if_neg h0,if_pos h1,h1,show ((255:Int) != 255) = false from rfl]
     rw [h1] at hr hlen
     refine Eq.trans (b:=yl (ws l) (bs (out ++ [255] ++ nzW l[i])) ((i + 1:Nat):Int) (U8 255) ((0:Nat):Int)) rfl ?_
     rw [hr,ih _ _ (by omega) (by omega) (by rw [zpj,zpj,hbl]; show _ + 1 + _ + _ ≤ _; omega),List.drop_drop]
     simp only [List.append_assoc,List.cons_append,zpl]
    ·have h2:(Qh l[i] != 255) = true:=bne_iff_ne.2 h1
     rw [pk,if_neg h0,if_neg h1,h2]
     refine Eq.trans (ih (i + 1) _ (by omega) (by omega) (by omega)) ?_
     simp only [List.append_assoc,List.cons_append,zpl]
  ·rw [x4,ym,decide_eq_false (by omega),List.drop_eq_nil_of_le (by omega),pk,List.append_nil]
   rfl
theorem zkT {l:List Int} (hw:∀ x ∈ l,xI x) (hl:l.length ≤ 68719476736):ev 44 [.pv (.sl 1 (ws l))] [] = ok (.sl 1 (bs (pack l))):=by
 rw [Wy]
 exact zjD hw (by omega) l.length 0 [] (by omega) (by omega) (by show 0 + _ ≤ _; omega)
theorem zed:∀ (l r:List Int),Jw l.length (Wf l) (nz l ++ r) = l
 | [],_ => rfl
 | c :: l,r => by
  have ih:=zed l r
  rw [zpk,Jw,Wf]
  unfold nzb
  by_cases h:c = 0
  ·rw [if_pos h,if_neg (by omega),show (0 + 2 * Wf l) / 2 = Wf l by omega,show nz (c :: l) = nz l by simp [nz,h],ih,h]
  ·rw [if_neg h,if_pos (by omega),show (1 + 2 * Wf l) / 2 = Wf l by omega,show nz (c :: l) = c :: nz l by simp [nz,h]]
   show c :: Jw l.length (Wf l) (nz l ++ r) = _
   rw [ih]
theorem zmd {w:Int} (hw:xI w):zcT (w8 w) = w:=by
 have:=zcL hw
 rw [VY]
 simp only [zcT]
 omega
theorem zde {w:Int} (hw:xI w) (r:List Int):exW (Qh w) (nzW w ++ r) = w:=by
 have:=zed (w8 w) r
 rw [xA] at this
 unfold exW Qh nzW
 rw [this,zmd hw]
theorem zbT:∀ (n:Nat) (l:List Int),n ≤ l.length → Jw n (2 ^ n - 1) l = l.take n
 | 0,_,_ => rfl
 | n + 1,[],h => by simp at h
 | n + 1,c :: l,h => by
  have ih:=zbT n l (by simp at h; omega)
  have hp:(0:Int) < 2 ^ n:=Int.pow_pos (by decide)
  rw [Jw,Int.pow_succ,if_pos (by omega),show ((2:Int) ^ n * 2 - 1) / 2 = 2 ^ n - 1 by omega]
  show c :: Jw n (2 ^ n - 1) l = _
  rw [ih,List.take_succ_cons]
theorem zlm {l:List Int} (h:8 ≤ l.length):exW 255 l = w8i l:=by
 have:=zbT 8 l h
 unfold exW
 rw [show (255:Int) = 2 ^ 8 - 1 from rfl,this,← zkA (by rw [List.length_take]; omega)]
 match l,h with
 | a0 :: a1 :: a2 :: a3 :: a4 :: a5 :: a6 :: a7 :: t,_ => rfl
theorem zon (l:List Int):exW 0 l = 0:=rfl
theorem znu:w7 8 0 = 0:=rfl
theorem Xs:w7 8 255 = 8:=rfl
theorem zay:byt [] = []:=rfl
theorem zk5 (a b:List Int):byt (a ++ b) = byt a ++ byt b:=by simp [byt]
theorem zeO {lim:Int}:∀ (n:Nat) (inp out:List Int),(out.length:Int) ≤ lim →
  ((out.length:Int) + 8 * n ≤ lim → QP 0 lim n inp out = ⟨0,inp,out ++ byt (List.replicate n 0)⟩) ∧ (lim < (out.length:Int) + 8 * n → (QP 0 lim n inp out).e = 1)
 | 0,inp,out,ho => by
  refine ⟨fun _ => ?_,fun h => by omega⟩
  rw [QP,List.replicate_zero,zay,List.append_nil]
 | n + 1,inp,out,ho => by
  have hl:(out ++ w8 0).length = out.length + 8:=by rw [zpj,xA]
  by_cases h8:(out.length:Int) + 8 > lim
  ·have hn:xc 0 inp out lim = ⟨1,inp,out⟩:=by
    unfold xc
    rw [znu,if_neg (by omega),if_pos h8]
    rfl
   rw [QP,hn]
   exact ⟨fun h => by omega,fun _ => rfl⟩
  ·have hn:xc 0 inp out lim = ⟨0,inp,out ++ w8 0⟩:=by
    unfold xc
    rw [znu,if_neg (by omega),if_neg h8,zon]
    rfl
   obtain ⟨i1,i2⟩:=zeO (lim:=lim) n inp (out ++ w8 0) (by omega)
   rw [QP,hn]
   dsimp only
   rw [if_pos rfl]
   refine ⟨fun h => ?_,fun h => i2 (by omega)⟩
   rw [i1 (by omega),List.append_assoc,List.replicate_succ,XD]
theorem J6 {lim:Int}:∀ (n:Nat) (inp out:List Int),(out.length:Int) ≤ lim →
  (inp.length < 8 * n → ((out.length:Int) + 8 * ((inp.length / 8:Nat):Int) ≤ lim → (QP 255 lim n inp out).e = 2) ∧ (lim < (out.length:Int) + 8 * ((inp.length / 8:Nat):Int) → (QP 255 lim n inp out).e = 1)) ∧
  (8 * n ≤ inp.length → ((out.length:Int) + 8 * n ≤ lim → QP 255 lim n inp out = ⟨0,inp.drop (8 * n),out ++ byt (xi n inp)⟩) ∧ (lim < (out.length:Int) + 8 * n → (QP 255 lim n inp out).e = 1))
 | 0,inp,out,ho => by
  refine ⟨fun h => by omega,fun _ => ⟨fun _ => ?_,fun h => by omega⟩⟩
  rw [QP,xi,zay,List.append_nil]
  rfl
 | n + 1,inp,out,ho => by
  have hl:(out ++ w8 (w8i inp)).length = out.length + 8:=by rw [zpj,xA]
  by_cases h0:inp.length < 8
  ·have hn:xc 255 inp out lim = ⟨2,inp,out⟩:=by
    unfold xc
    rw [Xs,if_pos h0]
   rw [QP,hn]
   exact ⟨fun _ => ⟨fun _ => rfl,fun h => by omega⟩,fun h => by omega⟩
  ·by_cases h8:(out.length:Int) + 8 > lim
   ·have hn:xc 255 inp out lim = ⟨1,inp.drop 8,out⟩:=by
     unfold xc
     rw [Xs,if_neg h0,if_pos h8]
    rw [QP,hn]
    exact ⟨fun _ => ⟨fun h => by omega,fun _ => rfl⟩,fun _ => ⟨fun h => by omega,fun _ => rfl⟩⟩
   ·have hn:xc 255 inp out lim = ⟨0,inp.drop 8,out ++ w8 (w8i inp)⟩:=by
     unfold xc
     rw [Xs,if_neg h0,if_neg h8,zlm (by omega)]
    have hd:(inp.drop 8).length = inp.length - 8:=List.length_drop
    obtain ⟨i1,i2⟩:=J6 (lim:=lim) n (inp.drop 8) (out ++ w8 (w8i inp)) (by omega)
    rw [QP,hn]
    dsimp only
    rw [if_pos rfl]
    refine ⟨fun h => ?_,fun h => ?_⟩
    ·obtain ⟨j1,j2⟩:=i1 (by omega)
     exact ⟨fun h => j1 (by omega),fun h => j2 (by omega)⟩
    ·obtain ⟨j1,j2⟩:=i2 (by omega)
     refine ⟨fun h => ?_,fun h => j2 (by omega)⟩
     rw [j1 (by omega),List.append_assoc,xi,XD,List.drop_drop,show 8 + 8 * n = 8 * (n + 1) by omega]
def DRel (r:Dr) (lim:Int) (out:List Int) (x:List Int × Bool):Prop :=
 ((out.length:Int) + 8 * x.1.length ≤ lim → r.e = (if x.2 = true then 2 else 0) ∧ (x.2 = false → r.o = out ++ byt x.1)) ∧ (lim < (out.length:Int) + 8 * x.1.length → r.e = 1)
theorem DRel.pre {r:Dr} {lim:Int} {out a:List Int} {x:List Int × Bool} (h:DRel r lim (out ++ byt a) x):DRel r lim out (zaX a x):=by
 have hl:(out ++ byt a).length = out.length + 8 * a.length:=by rw [zpj,yX]
 have hp:(zaX a x).1.length = a.length + x.1.length:=by simp [zaX]
 obtain ⟨h1,h2⟩:=h
 refine ⟨fun h => ?_,fun h => h2 (by omega)⟩
 obtain ⟨e1,e2⟩:=h1 (by omega)
 refine ⟨e1,fun hc => ?_⟩
 rw [e2 hc,List.append_assoc]
 show _ = out ++ byt (a ++ x.1)
 rw [zk5]
theorem zg0 {l:List Int} {n f:Nat} (h:l.length ≤ f):(l.drop n).length ≤ f:=by rw [List.length_drop]; omega
theorem zle {lim:Int}:∀ (f:Nat) (inp out:List Int),inp.length ≤ f → (∀ x ∈ inp,yq x) → (out.length:Int) ≤ lim → DRel (zgV lim f inp out) lim out (d22 f inp):=by
 intro f
 induction f with
 | zero =>
  intro inp out hf hb ho
  rw [zgV,d22]
  exact ⟨fun _ => ⟨rfl,fun _ => by rw [zay,List.append_nil]⟩,fun h => absurd h (by show ¬ lim < (out.length:Int) + 8 * ((0:Nat):Int); omega)⟩
 | succ f ih =>
  intro inp out hf hb ho
  cases inp with
  | nil =>
   rw [Kk]
   exact ⟨fun _ => ⟨rfl,fun _ => by rw [zay,List.append_nil]; rfl⟩,fun h => absurd h (by show ¬ lim < (out.length:Int) + 8 * ((0:Nat):Int); omega)⟩
  | cons t rest =>
   rw [zpk] at hf
   have hbr:∀ x ∈ rest,yq x:=fun x hx => hb x (List.mem_cons_of_mem _ hx)
   have ht:=hb t (List.mem_cons_self ..)
   unfold yq at ht
   rw [XF,zgV]
   by_cases h0:t = 0
   ·rw [if_pos h0]
    have hs:Jk t lim rest out = zfQ t lim rest out:=by
     unfold Jk
     rw [if_pos (.inl h0)]
     unfold zfR
     rw [if_neg (by omega)]
    rw [hs,h0]
    cases rest with
    | nil =>
     dsimp only
     show DRel (zfQ 0 lim [] out) lim out ([],true)
     exact ⟨fun _ => ⟨rfl,fun h => by cases h⟩,fun h => absurd h (by show ¬ lim < (out.length:Int) + 8 * ((0:Nat):Int); omega)⟩
    | cons n r2 =>
     rw [zpk] at hf
     dsimp only
     obtain ⟨a1,a2⟩:=zeO (lim:=lim) (n.toNat + 1) r2 out ho
     have hc:zfQ 0 lim (n :: r2) out = QP 0 lim (n.toNat + 1) r2 out:=rfl
     rw [hc]
     by_cases h1:(out.length:Int) + 8 * ((n.toNat + 1:Nat):Int) ≤ lim
     ·rw [a1 h1]
      dsimp only
      rw [if_pos rfl]
      exact (ih r2 _ (by omega) (fun x hx => hbr x (List.mem_cons_of_mem _ hx)) (by rw [zpj,yX,List.length_replicate]; omega)).pre
     ·have e1:=a2 (by omega)
      rw [if_neg (by rw [e1]; decide)]
      refine ⟨fun h => ?_,fun _ => e1⟩
      have:(zaX (List.replicate (n.toNat + 1) 0) (d22 f r2)).1.length = n.toNat + 1 + (d22 f r2).1.length:=by simp [zaX]
      omega
   ·rw [if_neg h0]
    by_cases h2:t = 255
    ·have hs:Jk t lim rest out = (if (xc 255 rest out lim).e = 0 then zfQ 255 lim (xc 255 rest out lim).i (xc 255 rest out lim).o else xc 255 rest out lim):=by
      unfold Jk
      rw [if_pos (.inr h2)]
      unfold zfR
      rw [if_pos h2,h2]
     rw [hs,if_pos h2,h2,Xs]
     by_cases h1:rest.length < 8
     ·have hn:xc 255 rest out lim = ⟨2,rest,out⟩:=by
       unfold xc
       rw [Xs,if_pos h1]
      rw [if_pos h1,hn]
      exact ⟨fun _ => ⟨rfl,fun h => by cases h⟩,fun h => absurd h (by show ¬ lim < (out.length:Int) + 8 * ((0:Nat):Int); omega)⟩
     ·rw [if_neg h1]
      have hd:(rest.drop 8).length = rest.length - 8:=List.length_drop
      by_cases h8:(out.length:Int) + 8 > lim
      ·have hn:xc 255 rest out lim = ⟨1,rest.drop 8,out⟩:=by
        unfold xc
        rw [Xs,if_neg h1,if_pos h8]
       rw [hn]
       dsimp only
       rw [if_neg (show ¬ (1:Nat) = 0 by decide)]
       dsimp only
       rw [if_neg (show ¬ (1:Nat) = 0 by decide)]
       have hw:∀ x:List Int × Bool,1 ≤ x.1.length → DRel ⟨1,rest.drop 8,out⟩ lim out x:=fun x hx => ⟨fun h => by omega,fun _ => rfl⟩
       apply hw
       split
       ·exact Nat.le_refl _
       ·split
        ·simp
        ·simp [zaX]
      ·have hn:xc 255 rest out lim = ⟨0,rest.drop 8,out ++ w8 (exW 255 rest)⟩:=by
        unfold xc
        rw [Xs,if_neg h1,if_neg h8]
       have hl:(out ++ w8 (exW 255 rest)).length = out.length + 8:=by rw [zpj,xA]
       have hbd:=xr hbr 8
       rw [hn]
       dsimp only
       rw [if_pos rfl]
       generalize rest.drop 8 = r1 at hd hbd ⊢
       cases r1 with
       | nil =>
        dsimp only
        show DRel (zfQ 255 lim [] (out ++ w8 (exW 255 rest))) lim out ([exW 255 rest],true)
        exact ⟨fun _ => ⟨rfl,fun h => by cases h⟩,fun h => absurd h (by show ¬ lim < (out.length:Int) + 8 * ((1:Nat):Int); omega)⟩
       | cons n r2 =>
        rw [zpk] at hd
        dsimp only
        have hc:zfQ 255 lim (n :: r2) (out ++ w8 (exW 255 rest)) = QP 255 lim n.toNat r2 (out ++ w8 (exW 255 rest)):=by
         show QP 255 lim (if (255:Int) = 0 then n.toNat + 1 else n.toNat) r2 _ = _
         rw [if_neg (by decide)]
        obtain ⟨a1,a2⟩:=J6 (lim:=lim) n.toNat r2 (out ++ w8 (exW 255 rest)) (by omega)
        rw [hc]
        by_cases h4:r2.length < 8 * n.toNat
        ·obtain ⟨b1,b2⟩:=a1 h4
         rw [if_pos h4]
         by_cases h5:((out ++ w8 (exW 255 rest)).length:Int) + 8 * ((r2.length / 8:Nat):Int) ≤ lim
         ·have e1:=b1 h5
          rw [if_neg (by rw [e1]; decide)]
          refine ⟨fun h => ⟨e1,fun h => by cases h⟩,fun h => ?_⟩
          rw [zpk,yp] at h
          omega
         ·have e1:=b2 (by omega)
          rw [if_neg (by rw [e1]; decide)]
          refine ⟨fun h => ?_,fun h => e1⟩
          rw [zpk,yp] at h
          omega
        ·obtain ⟨b1,b2⟩:=a2 (by omega)
         rw [if_neg h4]
         by_cases h5:((out ++ w8 (exW 255 rest)).length:Int) + 8 * ((n.toNat:Nat):Int) ≤ lim
         ·rw [b1 h5]
          dsimp only
          rw [if_pos rfl]
          have:=ih (r2.drop (8 * n.toNat)) (out ++ byt (exW 255 rest :: xi n.toNat r2)) (zg0 (by omega)) (xr (fun x hx => hbd x (List.mem_cons_of_mem _ hx)) _) (by rw [zpj,yX,zpk,yp]; omega)
          rw [XD,← List.append_assoc] at this
          have q:=DRel.pre (a:=exW 255 rest :: xi n.toNat r2) (by rw [XD,← List.append_assoc]; exact this)
          exact q
         ·have e1:=b2 (by omega)
          rw [if_neg (by rw [e1]; decide)]
          refine ⟨fun h => ?_,fun _ => e1⟩
          have:(zaX (exW 255 rest :: xi n.toNat r2) (d22 f (r2.drop (8 * n.toNat)))).1.length = n.toNat + 1 + (d22 f (r2.drop (8 * n.toNat))).1.length:=by simp [zaX]; omega
          omega
    ·have hs:Jk t lim rest out = xc t rest out lim:=by
      unfold Jk
      rw [if_neg (by omega)]
     rw [hs,if_neg h2]
     by_cases h1:rest.length < w7 8 t
     ·have hn:xc t rest out lim = ⟨2,rest,out⟩:=by
       unfold xc
       rw [if_pos h1]
      rw [if_pos h1,hn]
      exact ⟨fun _ => ⟨rfl,fun h => by cases h⟩,fun h => absurd h (by show ¬ lim < (out.length:Int) + 8 * ((0:Nat):Int); omega)⟩
     ·rw [if_neg h1]
      by_cases h8:(out.length:Int) + 8 > lim
      ·have hn:xc t rest out lim = ⟨1,rest.drop (w7 8 t),out⟩:=by
        unfold xc
        rw [if_neg h1,if_pos h8]
       rw [hn]
       dsimp only
       rw [if_neg (by decide)]
       refine ⟨fun h => ?_,fun _ => rfl⟩
       have:(zaX [exW t rest] (d22 f (rest.drop (w7 8 t)))).1.length = 1 + (d22 f (rest.drop (w7 8 t))).1.length:=by simp [zaX]; omega
       omega
      ·have hn:xc t rest out lim = ⟨0,rest.drop (w7 8 t),out ++ w8 (exW t rest)⟩:=by
        unfold xc
        rw [if_neg h1,if_neg h8]
       rw [hn]
       dsimp only
       rw [if_pos rfl]
       refine DRel.pre (a:=[exW t rest]) ?_
       rw [show byt [exW t rest] = w8 (exW t rest) from List.append_nil _]
       exact ih _ _ (zg0 (by omega)) (xr hbr _) (by rw [zpj,xA]; omega)
theorem J7:∀ (k:Nat) (l:List Int),l.take (runN is0 k l) = List.replicate (runN is0 k l) 0
 | 0,_ => rfl
 | _ + 1,[] => rfl
 | k + 1,x :: l => by
  rw [runN]
  by_cases h:is0 x = true
  ·rw [if_pos h,List.take_succ_cons,List.replicate_succ,J7 k l,show x = 0 from eq_of_beq h]
  ·rw [if_neg h]
   rfl
theorem znN {x:Int} (hx:xI x) (r:List Int):w8i (w8 x ++ r) = x:=by
 have:=zcL hx
 rw [VY]
 simp only [w8i,List.cons_append,List.getD_cons_zero,List.getD_cons_succ]
 omega
theorem ze6:∀ (a r:List Int),(∀ x ∈ a,xI x) → xi a.length (byt a ++ r) = a
 | [],_,_ => rfl
 | x :: a,r,h => by
  rw [zpk,xi,XD,List.append_assoc,znN (h x (List.mem_cons_self ..)),List.drop_append,xA,List.drop_of_length_le (by rw [xA]; exact Nat.le_refl _),Nat.sub_self,List.drop_zero,zpl,ze6 a r fun y hy => h y (List.mem_cons_of_mem _ hy)]
theorem zaH {a r:List Int} {n:Nat} (h:a.length = n):(a ++ r).drop n = r:=by rw [← h,List.drop_left]
theorem ziW:∀ (g:Nat) (W:List Int),W.length ≤ g → (∀ x ∈ W,xI x) → ∀ f,(pk g W).length ≤ f → d22 f (pk g W) = (W,false):=by
 intro g
 induction g with
 | zero =>
  intro W hg hw f hf
  have:W = []:=List.length_eq_zero_iff.1 (by omega)
  rw [this,pk,Kk]
 | succ g ih =>
  intro W hg hw f hf
  cases W with
  | nil => rw [pk,Kk]
  | cons w l =>
   rw [zpk] at hg
   have hww:=hw w (List.mem_cons_self ..)
   have hwl:∀ x ∈ l,xI x:=fun x hx => hw x (List.mem_cons_of_mem _ hx)
   have hpn:=zkq w
   rw [pk] at hf ⊢
   by_cases h0:Qh w = 0
   ·rw [if_pos h0] at hf ⊢
    have hz:nzW w = []:=List.length_eq_zero_iff.1 (by rw [← hpn,h0]; rfl)
    have hw0:w = 0:=by
     have:=zde hww []
     rw [h0] at this
     exact this.symm
    have hr:=YK is0 255 l
    rw [hz] at hf ⊢
    rw [h0]
    cases f with
    | zero => simp at hf
    | succ f =>
     have e:=ih (l.drop (runN is0 255 l)) (by rw [List.length_drop]; omega) (fun x hx => hwl x (List.mem_of_mem_drop hx)) f (by simp at hf; omega)
     show d22 (f + 1) (0 :: ((runN is0 255 l:Nat):Int) :: pk g (l.drop (runN is0 255 l))) = _
     rw [XF,if_pos rfl]
     dsimp only
     rw [e,Int.toNat_natCast]
     show (List.replicate (runN is0 255 l + 1) 0 ++ l.drop (runN is0 255 l),false) = _
     rw [List.replicate_succ,List.cons_append,← J7,List.take_append_drop,hw0]
   ·rw [if_neg h0] at hf ⊢
    by_cases h1:Qh w = 255
    ·rw [if_pos h1] at hf ⊢
     have hz:(nzW w).length = 8:=by rw [← hpn,h1]; rfl
     have hr:=YK dns 255 l
     have hbl:(byt (l.take (runN dns 255 l))).length = 8 * runN dns 255 l:=by rw [yX,List.length_take]; omega
     cases f with
     | zero => simp at hf
     | succ f =>
      have e:=ih (l.drop (runN dns 255 l)) (by rw [List.length_drop]; omega) (fun x hx => hwl x (List.mem_of_mem_drop hx)) f (by simp at hf; omega)
      have hx:=zde hww (((runN dns 255 l:Nat):Int) :: (byt (l.take (runN dns 255 l)) ++ pk g (l.drop (runN dns 255 l))))
      rw [h1] at hx
      rw [h1]
      show d22 (f + 1) (255 :: (nzW w ++ (((runN dns 255 l:Nat):Int) :: (byt (l.take (runN dns 255 l)) ++ pk g (l.drop (runN dns 255 l)))))) = _
      rw [XF,if_neg (by decide),Xs,if_neg (by rw [zpj]; omega),if_pos rfl,zaH hz]
      dsimp only
      rw [Int.toNat_natCast,if_neg (by rw [zpj]; omega),zaH hbl,e,hx]
      have hn:(l.take (runN dns 255 l)).length = runN dns 255 l:=by rw [List.length_take]; omega
      have hq:=ze6 (l.take (runN dns 255 l)) (pk g (l.drop (runN dns 255 l))) (fun x hx => hwl x (List.mem_of_mem_take hx))
      rw [hn] at hq
      rw [hq]
      show ((w :: l.take (runN dns 255 l)) ++ l.drop (runN dns 255 l),false) = _
      rw [List.cons_append,List.take_append_drop]
    ·rw [if_neg h1] at hf ⊢
     cases f with
     | zero => simp at hf
     | succ f =>
      have e:=ih l (by omega) hwl f (by simp at hf; omega)
      show d22 (f + 1) (Qh w :: (nzW w ++ pk g l)) = _
      rw [XF,if_neg h0,if_neg (by rw [zpj]; omega),if_neg h1,zaH hpn.symm,e,zde hww]
      rfl
theorem ziX {W:List Int} (hw:∀ x ∈ W,xI x):xN (pack W) = (W,false):=ziW W.length W (Nat.le_refl _) hw _ (Nat.le_refl _)
theorem zi7 (t:Int) {b:List Int} (hb:∀ x ∈ b,yq x):xI (exW t b):=by
 have:=zaj (Kw 8 t hb)
 rw [zec,show (256:Int) ^ 8 = 18446744073709551616 from rfl] at this
 unfold xI exW
 omega
theorem zmZ:∀ (f:Nat) (inp:List Int),inp.length ≤ f → (∀ x ∈ inp,yq x) → (∀ x ∈ (d22 f inp).1,xI x) ∧ (d22 f inp).1.length ≤ 256 * inp.length:=by
 intro f
 induction f with
 | zero => intro inp hf hb; exact ⟨(fun x hx => absurd hx List.not_mem_nil),Nat.zero_le _⟩
 | succ f ih =>
  intro inp hf hb
  cases inp with
  | nil => rw [Kk]; exact ⟨(fun x hx => absurd hx List.not_mem_nil),Nat.zero_le _⟩
  | cons t rest =>
   rw [zpk] at hf
   have hbr:∀ x ∈ rest,yq x:=fun x hx => hb x (List.mem_cons_of_mem _ hx)
   have hw0:xI 0:=by unfold xI; omega
   rw [XF,zpk]
   split
   ·cases rest with
    | nil => exact ⟨(fun x hx => absurd hx List.not_mem_nil),Nat.zero_le _⟩
    | cons n r2 =>
     rw [zpk] at hf ⊢
     have hn:=hbr n (List.mem_cons_self ..)
     unfold yq at hn
     obtain ⟨i1,i2⟩:=ih r2 (by omega) fun x hx => hbr x (List.mem_cons_of_mem _ hx)
     refine ⟨fun x hx => ?_,?_⟩
     ·rcases List.mem_append.1 hx with h | h
      ·rw [List.eq_of_mem_replicate h]; exact hw0
      ·exact i1 x h
     ·show (List.replicate (n.toNat + 1) 0 ++ (d22 f r2).1).length ≤ _
      rw [zpj,List.length_replicate]
      omega
   ·split
    ·exact ⟨(fun x hx => absurd hx List.not_mem_nil),Nat.zero_le _⟩
    ·have hx0:=zi7 t hbr
     have hbd:=xr hbr (w7 8 t)
     have hdl:(rest.drop (w7 8 t)).length ≤ rest.length:=by rw [List.length_drop]; omega
     split
     ·generalize rest.drop (w7 8 t) = r1 at hbd hdl
      cases r1 with
      | nil =>
       refine ⟨fun x hx => ?_,by show 1 ≤ _; omega⟩
       rw [List.mem_singleton.1 hx]; exact hx0
      | cons n r2 =>
       rw [zpk] at hdl
       have hn:=hbd n (List.mem_cons_self ..)
       have hb2:∀ x ∈ r2,yq x:=fun x hx => hbd x (List.mem_cons_of_mem _ hx)
       unfold yq at hn
       dsimp only
       split
       ·refine ⟨fun x hx => ?_,?_⟩
        ·rcases List.mem_cons.1 hx with rfl | h
         ·exact hx0
         ·exact vj _ hb2 x h
        ·rw [zpk,yp]; omega
       ·obtain ⟨i1,i2⟩:=ih (r2.drop (8 * n.toNat)) (by rw [List.length_drop]; omega) (xr hb2 _)
        rw [List.length_drop] at i2
        refine ⟨fun x hx => ?_,?_⟩
        ·rcases List.mem_append.1 hx with h | h
         ·rcases List.mem_cons.1 h with rfl | h
          ·exact hx0
          ·exact vj _ hb2 x h
         ·exact i1 x h
        ·show ((exW t rest :: xi n.toNat r2) ++ (d22 f (r2.drop (8 * n.toNat))).1).length ≤ _
         rw [zpj,zpk,yp]
         omega
     ·obtain ⟨i1,i2⟩:=ih (rest.drop (w7 8 t)) (by omega) hbd
      refine ⟨fun x hx => ?_,?_⟩
      ·rcases List.mem_append.1 hx with h | h
       ·rw [List.mem_singleton.1 h]; exact hx0
       ·exact i1 x h
      ·show ([exW t rest] ++ (d22 f (rest.drop (w7 8 t))).1).length ≤ _
       rw [zpj]
       show 1 + _ ≤ _
       omega
theorem zkf {p:List Int} (hb:∀ x ∈ p,yq x):(∀ x ∈ (xN p).1,xI x) ∧ (xN p).1.length ≤ 256 * p.length:=zmZ p.length p (Nat.le_refl _) hb
theorem zmc {p:List Int} (hb:∀ x ∈ p,yq x) (lim:Int):DRel (zh7 p lim) (WD lim) [] (xN p) :=
 zle p.length p [] (Nat.le_refl _) hb (by unfold WD; show (0:Int) ≤ _; split <;> omega)
theorem ze2 {p:List Int} (hb:∀ x ∈ p,yq x) (lim:Int):(WD lim < 8 * (xN p).1.length ∧ zbn p lim = 11 ∧ zbf p lim = []) ∨ (8 * ((xN p).1.length:Int) ≤ WD lim ∧ (xN p).2 = true ∧ zbn p lim = 10 ∧ zbf p lim = []) ∨ (8 * ((xN p).1.length:Int) ≤ WD lim ∧ (xN p).2 = false ∧ zbn p lim = 0 ∧ zbf p lim = byt (xN p).1):=by
 obtain ⟨h1,h2⟩:=zmc hb lim
 rw [show ((([]:List Int).length:Nat):Int) = 0 from rfl,Int.zero_add] at h1 h2
 unfold zbn zbf
 by_cases h:8 * ((xN p).1.length:Int) ≤ WD lim
 ·obtain ⟨e1,e2⟩:=h1 h
  cases hc:(xN p).2 with
  | true =>
   rw [hc,if_pos rfl] at e1
   rw [e1]
   exact .inr (.inl ⟨h,rfl,rfl,rfl⟩)
  | false =>
   rw [hc,if_neg (by decide)] at e1
   rw [e1,e2 hc]
   exact .inr (.inr ⟨h,rfl,rfl,rfl⟩)
 ·rw [h2 (by omega)]
  exact .inl ⟨by omega,rfl,rfl⟩
theorem zff {p:List Int} (hb:∀ x ∈ p,yq x) (hl:p.length ≤ 65536) {lim:Int} (hlim:-9223372036854775808 ≤ lim ∧ lim ≤ 9223372036854775807):ev 92 [.pv (.sl 1 (bs p)),.pv (I lim)] [] = ok (.tup [.sl 1 (bs (zbf p lim)),I (zbn p lim)]):=by
 obtain ⟨d1,d2⟩:=zkf hb
 have hwd:Words (xN p).1:=⟨by omega,d1⟩
 have hB:=QB (xN p).1 hwd (by omega)
 have hwt:∀ n:Nat,Words ((xN p).1.take n):=fun n => ⟨by rw [List.length_take]; omega,fun x hx => d1 x (List.mem_of_mem_take hx)⟩
 have hBt:∀ n:Nat,ev 91 [.pv (.sl 1 (ws ((xN p).1.take n)))] [] = ok (.sl 1 (bs (byt ((xN p).1.take n)))):=fun n => QB _ (hwt n) (by rw [List.length_take]; omega)
 have hm:WD lim = if 0 > lim then 0 else lim:=rfl
 rw [Wz,XR,zdS hb (by omega)]
 dsimp only [za,zb,zf,zpi,zj,zm,zq,zk,zs,zn,zK,zM,zL,pU8,zpg,zph,zi,zg,zc,zh,ze,zA,zv,zr,zo,zJ,zI,zF,zG,zH,len8,zD,zC,zt,zu]
 by_cases h0:lim ≤ -8
 ·have ht:Int.tdiv lim 8 < 0:=by
   have:Int.tdiv lim 8 = -((-lim) / 8):=by rw [← Int.tdiv_eq_ediv_of_nonneg (by omega),Int.neg_tdiv,Int.neg_neg]
   omega
  have ht2:-9223372036854775808 ≤ Int.tdiv lim 8:=by
   have:Int.tdiv lim 8 = -((-lim) / 8):=by rw [← Int.tdiv_eq_ediv_of_nonneg (by omega),Int.neg_tdiv,Int.neg_neg]
   omega
  rw [if_pos (by omega)] at hm
  rw [w64 (x:=Int.tdiv lim 8) (by omega),decide_eq_true ht]
  dsimp only [za,zb,zf,zpi,zj,zm,zq,zk,zs,zn,zK,zM,zL,pU8,zpg,zph,zi,zg,zc,zh,ze,zA,zv,zr,zo,zJ,zI,zF,zG,zH,len8,zD,zC,zt,zu]
  rw [ym]
  rcases ze2 hb lim with ⟨e0,e1,e2⟩ | ⟨e0,e3,e1,e2⟩ | ⟨e0,e3,e1,e2⟩
  ·have h2:=hBt 0
   rw [decide_eq_true (show ((xN p).1.length:Int) > 0 by omega),e1,e2,decide_eq_true (show 0 ≤ ((xN p).1.length:Int) by omega)]
   dsimp only [za,zb,zf,zpi,zj,zm,zq,zk,zs,zn,zK,zM,zL,pU8,zpg,zph,zi,zg,zc,zh,ze,zA,zv,zr,zo,zJ,zI,zF,zG,zH,len8,zD,zC,zt,zu]
   have h2':ev 91 [.pv (.sl 1 (((ws (xN p).1).take 0).drop 0))] [] = ok (.sl 1 (bs (byt ((xN p).1.take 0)))):=h2
   rw [show decide ((1:Nat) = 1) = true from rfl,h2']
   rfl
  ·rw [decide_eq_false (show ¬ ((xN p).1.length:Int) > 0 by omega),e1,e2,e3]
   dsimp only [za,zb,zf,zpi,zj,zm,zq,zk,zs,zn,zK,zM,zL,pU8,zpg,zph,zi,zg,zc,zh,ze,zA,zv,zr,zo,zJ,zI,zF,zG,zH,len8,zD,zC,zt,zu]
   rw [hB]
   rfl
  ·rw [decide_eq_false (show ¬ ((xN p).1.length:Int) > 0 by omega),e1,e2,e3]
   dsimp only [za,zb,zf,zpi,zj,zm,zq,zk,zs,zn,zK,zM,zL,pU8,zpg,zph,zi,zg,zc,zh,ze,zA,zv,zr,zo,zJ,zI,zF,zG,zH,len8,zD,zC,zt,zu]
   rw [hB]
   rfl
 ·have ht:Int.tdiv lim 8 = WD lim / 8:=by
   rw [hm]
   split
   ·have:Int.tdiv lim 8 = -((-lim) / 8):=by rw [← Int.tdiv_eq_ediv_of_nonneg (by omega),Int.neg_tdiv,Int.neg_neg]
    omega
   ·rw [Int.tdiv_eq_ediv_of_nonneg (by omega)]
  have hm0:0 ≤ WD lim ∧ WD lim ≤ 9223372036854775807:=by rw [hm]; split <;> omega
  rw [ht,w64 (x:=WD lim / 8) (by omega),decide_eq_false (show ¬ WD lim / 8 < 0 by omega)]
  dsimp only [za,zb,zf,zpi,zj,zm,zq,zk,zs,zn,zK,zM,zL,pU8,zpg,zph,zi,zg,zc,zh,ze,zA,zv,zr,zo,zJ,zI,zF,zG,zH,len8,zD,zC,zt,zu]
  rw [ym]
  rcases ze2 hb lim with ⟨e0,e1,e2⟩ | ⟨e0,e3,e1,e2⟩ | ⟨e0,e3,e1,e2⟩
  ·have h2:=hBt (WD lim / 8).toNat
   rw [decide_eq_true (show ((xN p).1.length:Int) > WD lim / 8 by omega),e1,e2,decide_eq_true (show 0 ≤ WD lim / 8 by omega),decide_eq_true (show WD lim / 8 ≤ ((xN p).1.length:Int) by omega)]
   dsimp only [za,zb,zf,zpi,zj,zm,zq,zk,zs,zn,zK,zM,zL,pU8,zpg,zph,zi,zg,zc,zh,ze,zA,zv,zr,zo,zJ,zI,zF,zG,zH,len8,zD,zC,zt,zu]
   have h2':ev 91 [.pv (.sl 1 (((ws (xN p).1).take (WD lim / 8).toNat).drop 0))] [] = ok (.sl 1 (bs (byt ((xN p).1.take (WD lim / 8).toNat)))):=by
    rw [List.drop_zero,show (ws (xN p).1).take (WD lim / 8).toNat = ws ((xN p).1.take (WD lim / 8).toNat) by simp [ws]]
    exact h2
   rw [show decide ((1:Nat) = 1) = true from rfl,h2']
   rfl
  ·rw [decide_eq_false (show ¬ ((xN p).1.length:Int) > WD lim / 8 by omega),e1,e2,e3]
   dsimp only [za,zb,zf,zpi,zj,zm,zq,zk,zs,zn,zK,zM,zL,pU8,zpg,zph,zi,zg,zc,zh,ze,zA,zv,zr,zo,zJ,zI,zF,zG,zH,len8,zD,zC,zt,zu]
   rw [hB]
   rfl
  ·rw [decide_eq_false (show ¬ ((xN p).1.length:Int) > WD lim / 8 by omega),e1,e2,e3]
   dsimp only [za,zb,zf,zpi,zj,zm,zq,zk,zs,zn,zK,zM,zL,pU8,zpg,zph,zi,zg,zc,zh,ze,zA,zv,zr,zo,zJ,zI,zF,zG,zH,len8,zD,zC,zt,zu]
   rw [hB]
   rfl
theorem Vk {p:List Int} (hb:∀ x ∈ p,yq x) (hl:p.length ≤ 65536) {d w o:Int} (ho:-9223372036854775808 ≤ o ∧ o ≤ 9223372036854775807):ev 46 [.pv (.sl 1 (bs p)),.pv (.agg [I d,I w,I o])] [] = ok (.tup [.sl 1 (bs (uO p o)),I (uE p o)]):=by
 obtain ⟨k1,k2⟩:=zdE hb o
 rw [Zv,zff hb hl ho]
 dsimp only [za,zb,zf,zpi,zj,zm,zq,zk,zs,zn,zK,zM,zL,pU8,zpg,zph,zi,zg,zc,zh,ze,zA,zv,zr,zo,zJ,zI,zF,zG,zH,len8,zD,zC,zt,zu]
 by_cases h0:zbn p o = 0
 ·rw [h0,show ((0:Int) != 0) = false from rfl]
  dsimp only [za,zb,zf,zpi,zj,zm,zq,zk,zs,zn,zK,zM,zL,pU8,zpg,zph,zi,zg,zc,zh,ze,zA,zv,zr,zo,zJ,zI,zF,zG,zH,len8,zD,zC,zt,zu]
  rw [WL k1 (by omega)]
  cases h:Xt (zbf p o) with
  | none =>
   obtain ⟨e1,e2⟩:=zh3 h0 h
   rw [e1,e2]
   rfl
  | some l =>
   obtain ⟨e1,e2⟩:=ze0 h0 h
   rw [e1,e2]
   rfl
 ·obtain ⟨e1,e2⟩:=zjV h0
  rw [Yy h0,e1,e2]
  rfl
end Go.Proofs.YtjbjeeoifhegfaaGreatDoor.E
