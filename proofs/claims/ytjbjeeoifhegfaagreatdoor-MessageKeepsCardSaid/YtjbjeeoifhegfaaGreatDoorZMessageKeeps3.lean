/- A part of the proof of the law MessageKeeps, as its statement says it: for every input; its conditions are the statement's own. -/
import Derived.Test.YtjbjeeoifhegfaaGreatDoorProg
import Derived.KernelRfl
import Derived.Laws.StructEq
import Derived.Test.YtjbjeeoifhegfaaGreatDoorZMessageKeeps1
import Derived.Test.YtjbjeeoifhegfaaGreatDoorZMessageKeeps2
set_option linter.unusedVariables false
set_option linter.unusedSimpArgs false
open Option renaming bind_some->zm4
open Bool renaming and_eq_true->zm8
open Option.some renaming injEq->zm9
namespace Go.Proofs.YtjbjeeoifhegfaaGreatDoor.E
section
variable {α β R:Type}
def LimO (c:Nat->Option β) (o:Option β):Prop:=(∀ k x,c k=some x->o=some x)/\∀ x,o=some x->∃ k0,∀ k,k0<=k->c k=some x
theorem LimO.const (o:Option β):LimO (fun _=>o) o:=⟨fun _ _ h=>h,fun _ h=>⟨0,fun _ _=>h⟩⟩
theorem LimO.of_eq {c d:Nat->Option β} {o p:Option β} (h:LimO c o) (hc:∀ k,d k=c k) (ho:p=o):LimO d p:=by
 have:d=c:=funext hc
 rw[this,ho];exact h
theorem LimO.bind {c:Nat->Option α} {o:Option α} {F:Nat->α->Option β} {f:α->Option β} (h:LimO c o) (hf:∀ x,LimO (fun k=>F k x) (f x)):LimO (fun k=>(c k).bind (F k)) (o.bind f):=by
 refine ⟨fun k x hx=>?_,fun x hx=>?_⟩
 ·cases hc:c k with
  |none=>simp[hc] at hx
  |some y=>
   simp only[hc,zm4] at hx
   rw[h.1 k y hc]
   exact (hf y).1 k x hx
 ·cases ho:o with
  |none=>simp[ho] at hx
  |some y=>
   simp only[ho,zm4] at hx
   obtain ⟨k1,h1⟩:=h.2 y ho
   obtain ⟨k2,h2⟩:=(hf y).2 x hx
   exact ⟨max k1 k2,fun k hk=>by simp only[h1 k (by omega),zm4];exact h2 k (by omega)⟩
theorem LimO.map {c:Nat->Option α} {o:Option α} (h:LimO c o) (f:α->β):LimO (fun k=>(c k).map f) (o.map f) :=
 (h.bind (F:=fun _ x=>some (f x)) fun x=>LimO.const (some (f x))).of_eq (fun k=>by cases c k<;>rfl) (by cases o<;>rfl)
theorem LimO.unique {c:Nat->Option β} {o p:Option β} (h:LimO c o) (k:LimO c p):o=p:=by
 cases ho:o with
 |some x=>
  obtain ⟨k0,h0⟩:=h.2 x ho
  exact (k.1 k0 x (h0 k0 (Nat.le_refl _))).symm
 |none=>
  cases hp:p with
  |none=>rfl
  |some x=>
   obtain ⟨k0,h0⟩:=k.2 x hp
   have:=h.1 k0 x (h0 k0 (Nat.le_refl _))
   rw[ho] at this
   cases this
theorem LimO.shift {c:Nat->Option β} {o:Option β} (h:LimO c o):LimO (fun k=>c (k+1)) o :=
 ⟨fun k x hx=>h.1 (k+1) x hx,fun x hx=>by obtain ⟨k0,h0⟩:=h.2 x hx;exact ⟨k0,fun k hk=>h0 (k+1) (by omega)⟩⟩
open Classical in
noncomputable def lim (c:Nat->Option β):Option β:=if h:∃ x k,c k=some x then some h.choose else none
theorem QB {c:Nat->Option β} (h:∀ k x,c k=some x->c (k+1)=some x) {k j:Nat} (hk:k<=j) {x:β} (hx:c k=some x):c j=some x:=by
 induction j with
 |zero=>rw[show k=0 by omega] at hx;exact hx
 |succ j ih=>
  by_cases he:k=j+1
  ·rw[←he];exact hx
  ·exact h j x (ih (by omega))
theorem zaM {c:Nat->Option β} (h:∀ k x,c k=some x->c (k+1)=some x):LimO c (lim c):=by
 have hu:∀ k x,c k=some x->lim c=some x:=fun k x hx=>by
  unfold lim
  have he:∃ x k,c k=some x:=⟨x,k,hx⟩
  rw[dif_pos he]
  obtain ⟨j,hj⟩:=he.choose_spec
  have h1:=QB h (Nat.le_max_left k j) hx
  have h2:=QB h (Nat.le_max_right k j) hj
  rw[h1] at h2
  exact h2.symm
 refine ⟨hu,fun x hx=>?_⟩
 unfold lim at hx
 by_cases he:∃ x k,c k=some x
 ·rw[dif_pos he] at hx
  obtain ⟨j,hj⟩:=he.choose_spec
  cases hx
  exact ⟨j,fun k hk=>QB h hk hj⟩
 ·rw[dif_neg he] at hx;cases hx
end
section
variable {α β R:Type}
def RM.rl (m:RM α) (s:RS):Option ((List W×α)×List Loc):=(m.run s).map fun x=>(x,m.log s)
theorem zbJ (m:RM α) (s:RS):m.run s=(m.rl s).map (·.1):=by
 unfold RM.rl
 cases m.run s<;>rfl
theorem zkA {m:RM α} {s:RS} {x:List W×α} {l:List Loc} (h:m.rl s=some (x,l)):m.run s=some x/\m.log s=l:=by
 unfold RM.rl at h
 cases hr:m.run s with
 |none=>simp[hr] at h
 |some y=>simp only[hr,Option.map_some,zm9,Prod.mk.injEq] at h;exact ⟨by rw[h.1],h.2⟩
theorem vC:∀ (m:RM α) (f:α->RM β) (s:RS),(m.bind f).rl s=(m.rl s).bind fun x=>((f x.1.2).rl (s.puts x.1.1)).map fun y=>((x.1.1++y.1.1,y.1.2),x.2++y.2)
 |.ret a,f,s=>by
  simp only[RM.bind,RM.rl,RM.run,RM.log,Option.map_some,zm4,RS.puts]
  cases (f a).run s<;>simp
 |.fail,f,s=>rfl
 |.rs t k,f,s=>by
  have h:=vC (k (s.sl t)) f s
  simp only[RM.rl,RM.bind,RM.run,RM.log] at h ⊢
  cases h1:((k (s.sl t)).bind f).run s with
  |none=>
   rw[h1] at h
   cases h2:(k (s.sl t)).run s with
   |none=>rfl
   |some x=>
    rw[h2] at h
    simp only[Option.map_none,Option.map_some,zm4] at h ⊢
    cases h3:(f x.2).run (s.puts x.1) with
    |none=>rfl
    |some y=>rw[h3] at h;cases h
  |some z=>
   rw[h1] at h
   cases h2:(k (s.sl t)).run s with
   |none=>rw[h2] at h;cases h
   |some x=>
    rw[h2] at h
    simp only[Option.map_some,zm4] at h ⊢
    cases h3:(f x.2).run (s.puts x.1) with
    |none=>rw[h3] at h;cases h
    |some y=>
     rw[h3] at h
     simp only[Option.map_some,zm9,Prod.mk.injEq] at h ⊢
     exact ⟨h.1,by rw[h.2];rfl⟩
 |.rb l k,f,s=>by
  have h:=vC (k (s.H[l]?,s.mb l)) f s
  simp only[RM.rl,RM.bind,RM.run,RM.log] at h ⊢
  cases h1:((k (s.H[l]?,s.mb l)).bind f).run s with
  |none=>
   rw[h1] at h
   cases h2:(k (s.H[l]?,s.mb l)).run s with
   |none=>rfl
   |some x=>
    rw[h2] at h
    simp only[Option.map_none,Option.map_some,zm4] at h ⊢
    cases h3:(f x.2).run (s.puts x.1) with
    |none=>rfl
    |some y=>rw[h3] at h;cases h
  |some z=>
   rw[h1] at h
   cases h2:(k (s.H[l]?,s.mb l)).run s with
   |none=>rw[h2] at h;cases h
   |some x=>
    rw[h2] at h
    simp only[Option.map_some,zm4] at h ⊢
    cases h3:(f x.2).run (s.puts x.1) with
    |none=>rw[h3] at h;cases h
    |some y=>
     rw[h3] at h
     simp only[Option.map_some,zm9,Prod.mk.injEq] at h ⊢
     exact ⟨h.1,by rw[h.2];rfl⟩
 |.rh k,f,s=>by
  have h:=vC (k s.H) f s
  simp only[RM.rl,RM.bind,RM.run,RM.log] at h ⊢
  cases h1:((k s.H).bind f).run s with
  |none=>
   rw[h1] at h
   cases h2:(k s.H).run s with
   |none=>rfl
   |some x=>
    rw[h2] at h
    simp only[Option.map_none,Option.map_some,zm4] at h ⊢
    cases h3:(f x.2).run (s.puts x.1) with
    |none=>rfl
    |some y=>rw[h3] at h;cases h
  |some z=>
   rw[h1] at h
   cases h2:(k s.H).run s with
   |none=>rw[h2] at h;cases h
   |some x=>
    rw[h2] at h
    simp only[Option.map_some,zm4] at h ⊢
    cases h3:(f x.2).run (s.puts x.1) with
    |none=>rw[h3] at h;cases h
    |some y=>
     rw[h3] at h
     simp only[Option.map_some,zm9,Prod.mk.injEq] at h ⊢
     exact ⟨h.1,by rw[h.2];rfl⟩
 |.wr w k,f,s=>by
  have h:=vC k f (s.put w)
  simp only[RM.rl,RM.bind,RM.run,RM.log] at h ⊢
  cases h1:(k.bind f).run (s.put w) with
  |none=>
   rw[h1] at h
   cases h2:k.run (s.put w) with
   |none=>rfl
   |some x=>
    rw[h2] at h
    simp only[Option.map_none,Option.map_some,zm4,RS.puts] at h ⊢
    cases h3:(f x.2).run ((s.put w).puts x.1) with
    |none=>rfl
    |some y=>rw[h3] at h;cases h
  |some z=>
   rw[h1] at h
   cases h2:k.run (s.put w) with
   |none=>rw[h2] at h;cases h
   |some x=>
    rw[h2] at h
    simp only[Option.map_some,zm4,RS.puts] at h ⊢
    cases h3:(f x.2).run ((s.put w).puts x.1) with
    |none=>rw[h3] at h;cases h
    |some y=>
     rw[h3] at h
     simp only[Option.map_some,zm9,Prod.mk.injEq] at h ⊢
     obtain ⟨z1,z2⟩:=z
     simp only[Prod.mk.injEq] at h ⊢
     exact ⟨⟨by rw[h.1.1];rfl,h.1.2⟩,h.2⟩
 |.dyn o k,f,s=>by
  cases o with
  |none=>rfl
  |some x=>exact vC (k x) f s
 |.need b k,f,s=>by
  cases b with
  |false=>rfl
  |true=>exact vC k f s
 |.alt b x y,f,s=>by
  cases b with
  |false=>exact vC y f s
  |true=>exact vC x f s
 |.out o kr kp,f,s=>by
  cases o with
  |none=>rfl
  |some z=>
   obtain ⟨o,h⟩:=z
   cases o with
   |ret a=>exact vC (kr a h) f s
   |pan p=>exact vC (kp p h) f s
def Lim (M:Nat->RM α) (m:RM α):Prop:=∀ s,LimO (fun k=>(M k).rl s) (m.rl s)
theorem Lim.const (m:RM α):Lim (fun _=>m) m:=fun s=>LimO.const _
theorem Lim.bind {M:Nat->RM α} {m:RM α} {F:Nat->α->RM β} {f:α->RM β} (h:Lim M m) (hf:∀ a,Lim (fun k=>F k a) (f a)):Lim (fun k=>M k >>= F k) (m >>= f):=fun s=>
 ((h s).bind (F:=fun k x=>((F k x.1.2).rl (s.puts x.1.1)).map fun y=>((x.1.1++y.1.1,y.1.2),x.2++y.2)) fun x=>(hf x.1.2 (s.puts x.1.1)).map _).of_eq (fun k=>vC (M k) (F k) s) (vC m f s)
theorem Lim.bind' {m:RM α} {F:Nat->α->RM β} {f:α->RM β} (hf:∀ a,Lim (fun k=>F k a) (f a)):Lim (fun k=>m >>= F k) (m >>= f):=Lim.bind (Lim.const m) hf
theorem Lim.alt {b:Bool} {M N:Nat->RM α} {m n:RM α} (h:Lim M m) (k:Lim N n):Lim (fun k=>.alt b (M k) (N k)) (.alt b m n):=by
 cases b with
 |false=>exact fun s=>(k s).of_eq (fun _=>rfl) rfl
 |true=>exact fun s=>(h s).of_eq (fun _=>rfl) rfl
theorem Lim.out {c:Nat->Option (Out×za)} {o:Option (Out×za)} (h:LimO c o) (kr:AV->za->RM α) (kp:PV->za->RM α):Lim (fun k=>.out (c k) kr kp) (.out o kr kp):=fun s=>by
 have e:∀ o:Option (Out×za),(RM.out o kr kp).rl s=o.bind fun z=>match z with|(.ret a,h)=>(kr a h).rl s|(.pan p,h)=>(kp p h).rl s:=fun o=>by
  cases o with
  |none=>rfl
  |some z=>obtain ⟨o,h⟩:=z;cases o<;>rfl
 exact (h.bind (F:=fun _ z=>match z with|(.ret a,h)=>(kr a h).rl s|(.pan p,h)=>(kp p h).rl s) fun z=>LimO.const _).of_eq (fun k=>e (c k)) (e o)
end
abbrev Cf:=Nat->List AV->za->Option (Out×za)
section
variable {E:Env} {cfs:Nat->Cf} {cf:Cf}
def wW (cfs:Nat->Cf) (cf:Cf):Prop:=∀ f a H,LimO (fun k=>cfs k f a H) (cf f a H)
theorem K5 (hc:wW cfs cf) (d:Option Nat) (f:Nat) (args:List AV):Lim (fun k=>wZ E (cfs k) d f args) (wZ E cf d f args):=by
 unfold wZ
 split
 ·exact Lim.out (hc _ _ _) _ _
 ·refine Lim.bind' fun ls=>Lim.bind' fun bs=>?_
  split
  ·exact Lim.out (hc _ _ _) _ _
  ·exact Lim.const _
theorem re (hc:wW cfs cf) (d:Option Nat) (n:Nat) (v:AV):Lim (fun k=>Yq E (cfs k) d n v) (Yq E cf d n v):=by
 unfold Yq
 split
 ·exact Lim.out (hc _ _ _) _ _
 ·exact K5 hc _ _ _
 ·exact Lim.const _
theorem zfv (hc:wW cfs cf) (d:Option Nat) (n i:Nat):Lim (fun k=>Y7 E (cfs k) d n i) (Y7 E cf d n i):=by
 unfold Y7
 refine Lim.bind' fun c=>?_
 split
 ·exact re hc _ _ _
 ·refine Lim.bind' fun c=>?_
  split
  ·exact Lim.const _
  ·exact re hc _ _ _
 ·exact Lim.const _
theorem gF (hc:wW cfs cf) (pre:Option Nat) (o:Oper):Lim (fun k=>act E (cfs k) pre o) (act E cf pre o):=by
 unfold act
 split
 case h_25 c he=>
  refine Lim.bind' fun args=>?_
  split
  ·exact Lim.const _
  ·split
   ·exact zfv hc _ _ _
   ·refine Lim.bind' fun as1=>Lim.bind' fun f=>?_
    split
    ·exact K5 hc _ _ _
    ·exact K5 hc _ _ _
    ·exact Lim.const _
  ·exact Lim.const _
 all_goals exact Lim.const _
theorem gD (hc:wW cfs cf) (n:Nat) (ops:Array Oper) (pre:Option Nat) (o:Oper):Lim (fun k=>yK E (cfs k) n ops pre o) (yK E cf n ops pre o):=by
 unfold yK
 split
 ·split
  ·exact gF hc _ _
  ·split
   ·refine Lim.bind' fun c=>Lim.bind' fun _=>?_
    split
    ·exact Lim.const _
    ·exact Lim.bind' fun b=>Lim.alt (gF hc _ _) (Lim.const _)
   ·exact Lim.const _
 ·exact Lim.const _
theorem zbP (hc:wW cfs cf) (n:Nat) (ops:Array Oper):∀ (L:List Nat) (s:RS),LimO (fun k=>xf E (cfs k) n ops L s) (xf E cf n ops L s)
 |[],s=>LimO.const _
 |i::r,s=>by
  cases ho:ops[i]? with
  |none=>exact (LimO.const none).of_eq (fun k=>by simp[xf,ho]) (by simp[xf,ho])
  |some o=>
   have e:∀ cf:Cf,xf E cf n ops (i::r) s=((yK E cf n ops none o).rl s).bind fun x=>if s.H.length<=(s.puts x.1.1).H.length then (match x.1.2 with|none=>xf E cf n ops r (s.puts x.1.1)|some p=>some (s.puts x.1.1,some p)) else none:=fun cf=>by
    simp only[xf,ho]
    rw[zbJ]
    cases (yK E cf n ops none o).rl s with
    |none=>rfl
    |some x=>obtain ⟨⟨ws,pn⟩,l⟩:=x;cases pn<;>rfl
   refine ((gD hc n ops none o s).bind (F:=fun k x=>if s.H.length<=(s.puts x.1.1).H.length then (match x.1.2 with|none=>xf E (cfs k) n ops r (s.puts x.1.1)|some p=>some (s.puts x.1.1,some p)) else none)
    (f:=fun x=>if s.H.length<=(s.puts x.1.1).H.length then (match x.1.2 with|none=>xf E cf n ops r (s.puts x.1.1)|some p=>some (s.puts x.1.1,some p)) else none) fun x=>?_).of_eq (fun k=>e (cfs k)) (e cf)
   by_cases hl:s.H.length<=(s.puts x.1.1).H.length
   ·simp only[hl,if_true]
    cases x.1.2 with
    |none=>exact zbP hc n ops r _
    |some p=>exact LimO.const _
   ·simp only[hl,if_false]
    exact LimO.const _
theorem zcz (hc:wW cfs cf) (n:Nat) (ops:Array Oper) (plan:List (Nat×Nat)):∀ (L:List Nat) (s:RS),LimO (fun k=>yA E (cfs k) n ops plan L s) (yA E cf n ops plan L s)
 |[],s=>LimO.const _
 |i::r,s=>by
  cases ho:ops[i]? with
  |none=>exact (LimO.const none).of_eq (fun k=>by simp[yA,ho]) (by simp[yA,ho])
  |some o=>
   let F:Cf->((List W×Pn)×List Loc)->Option (List Tr×RS×Option PV):=fun cf x=>if x.1.1.all yM then (match x.1.2 with
    |none=>(yA E cf n ops plan r (s.puts x.1.1)).map fun y=>(⟨i,x.2,x.1.1.map W.loc⟩::y.1,y.2)
    |some p=>some ([⟨i,x.2,x.1.1.map W.loc⟩],s.puts x.1.1,some p)) else none
   have e:∀ cf:Cf,yA E cf n ops plan (i::r) s=((yK E cf n ops (find plan i) o).rl s).bind (F cf):=fun cf=>by
    simp only[yA,ho]
    cases hr:(yK E cf n ops (find plan i) o).rl s with
    |none=>
     have:(yK E cf n ops (find plan i) o).run s=none:=by rw[zbJ,hr];rfl
     rw[this];rfl
    |some x=>
     obtain ⟨⟨ws,pn⟩,l⟩:=x
     obtain ⟨h1,h2⟩:=zkA hr
     rw[h1,h2]
     cases pn with
     |none=>
      simp only[zm4,F]
      split
      ·cases yA E cf n ops plan r (s.puts ws)<;>rfl
      ·rfl
     |some p=>rfl
   refine ((gD hc n ops (find plan i) o s).bind (F:=fun k=>F (cfs k)) (f:=F cf) fun x=>?_).of_eq (fun k=>e (cfs k)) (e cf)
   simp only[F]
   by_cases hl:x.1.1.all yM=true
   ·simp only[hl,if_true]
    cases x.1.2 with
    |none=>exact (zcz hc n ops plan r _).map _
    |some p=>exact LimO.const _
   ·rw[if_neg hl]
    simp only[hl,if_false]
    exact LimO.const _
theorem zkG (hc:wW cfs cf) (n:Nat) (ops:Array Oper) (s:St):LimO (fun k=>xX E (cfs k) n ops s) (xX E cf n ops s):=by
 have e:∀ cf:Cf,xX E cf n ops s=(yA E cf n ops (xt s.H.length ops.toList 0) (List.range ops.size) (Yz ops s)).bind fun x=>cond (ZB ops (xt s.H.length ops.toList 0) x.1 x.2.2) (some (x.2.1,x.2.2)) none:=fun cf=>by
  unfold xX
  cases yA E cf n ops (xt s.H.length ops.toList 0) (List.range ops.size) (Yz ops s) with
  |none=>rfl
  |some x=>obtain ⟨tr,z,pn⟩:=x;rfl
 exact ((zcz hc n ops _ _ _).bind (F:=fun _ x=>cond (ZB ops (xt s.H.length ops.toList 0) x.1 x.2.2) (some (x.2.1,x.2.2)) none) fun x=>LimO.const _).of_eq (fun k=>e (cfs k)) (e cf)
def xA (g:St->Option (Ex×St)) (kp:St->St):Nat->St->Option (Ex×St)
 |0,_=>none
 |j+1,s=>(g s).bind fun r=>match r with
  |(.normal,s')=>xA g kp j (kp s')
  |r=>some r
theorem zaA (g:St->Option (Ex×St)) (kp:St->St):∀ (j:Nat) (s:St),iter (fun s=>g (kp s)) j s=xA g kp j (kp s)
 |0,s=>rfl
 |j+1,s=>by
  simp only[iter,xA]
  cases g (kp s) with
  |none=>rfl
  |some r=>
   obtain ⟨ex,s'⟩:=r
   cases ex with
   |normal=>exact zaA g kp j s'
   |_=>rfl
theorem Qv (g:St->Option (Ex×St)) (kp:St->St):∀ (j:Nat) (s:St) (x:Ex×St),xA g kp j s=some x->xA g kp (j+1) s=some x
 |0,s,x,h=>by cases h
 |j+1,s,x,h=>by
  simp only[xA] at h
  rw[xA]
  cases hg:g s with
  |none=>simp[hg] at h
  |some r=>
   simp only[hg,zm4] at h ⊢
   obtain ⟨ex,s'⟩:=r
   cases ex with
   |normal=>exact Qv g kp j (kp s') x h
   |_=>exact h
theorem Xs {gs:Nat->St->Option (Ex×St)} {g:St->Option (Ex×St)} (h:∀ s,LimO (fun k=>gs k s) (g s)) (kp:St->St):∀ (j:Nat) (s:St),LimO (fun k=>xA (gs k) kp j s) (xA g kp j s)
 |0,s=>LimO.const _
 |j+1,s=>by
  refine (h s).bind fun r=>?_
  obtain ⟨ex,s'⟩:=r
  cases ex with
  |normal=>exact Xs h kp j (kp s')
  |_=>exact LimO.const _
abbrev It:=(St->Option (Ex×St))->(St->St)->St->Option (Ex×St)
noncomputable def zN:It:=fun g kp s=>lim fun j=>xA g kp j s
theorem Qw (g:St->Option (Ex×St)) (kp:St->St) (s:St):LimO (fun j=>xA g kp j s) (zN g kp s):=zaM fun j x h=>Qv g kp j s x h
theorem zir (g:St->Option (Ex×St)) (kp:St->St) (s:St):zN g kp s=(g s).bind fun r=>match r with
  |(.normal,s')=>zN g kp (kp s')
  |r=>some r:=by
 refine (Qw g kp s).shift.unique ?_
 refine (LimO.const (g s)).bind (F:=fun k r=>match r with
  |(.normal,s')=>xA g kp k (kp s')
  |r=>some r) fun r=>?_
 obtain ⟨ex,s'⟩:=r
 cases ex with
 |normal=>exact Qw g kp (kp s')
 |_=>exact LimO.const _
def XW (Its:Nat->It) (I:It):Prop:=∀ (gs:Nat->St->Option (Ex×St)) (g:St->Option (Ex×St)) (kp:St->St),(∀ s,LimO (fun k=>gs k s) (g s))->∀ s,LimO (fun k=>Its k (gs k) kp s) (I g kp s)
theorem itW:XW (fun k g kp s=>xA g kp k s) zN:=fun gs g kp h s=>by
 refine ⟨fun k x hx=>(Qw g kp s).1 k x ((Xs h kp k s).1 k x hx),fun x hx=>?_⟩
 obtain ⟨j,hj⟩:=(Qw g kp s).2 x hx
 obtain ⟨k0,h0⟩:=(Xs h kp j s).2 x (hj j (Nat.le_refl _))
 exact ⟨max k0 j,fun k hk=>QB (c:=fun j=>xA (gs k) kp j s) (fun i x hi=>Qv (gs k) kp i s x hi) (show j<=k by omega) (h0 k (by omega))⟩
theorem it2 (j:Nat):XW (fun k g kp s=>xA g kp (if k=0 then j else j+1) s) (fun g kp s=>xA g kp (j+1) s):=fun gs g kp h s=>by
 refine ⟨fun k x hx=>?_,fun x hx=>?_⟩
 ·by_cases hk:k=0
  ·subst hk
   exact Qv g kp j s x ((Xs h kp j s).1 0 x (by simpa using hx))
  ·simp only[hk,if_false] at hx
   exact (Xs h kp (j+1) s).1 k x hx
 ·obtain ⟨k0,h0⟩:=(Xs h kp (j+1) s).2 x hx
  refine ⟨k0+1,fun k hk=>?_⟩
  have:¬k=0:=by omega
  simp only[this,if_false]
  exact h0 k (by omega)
def JC (x:RS×Option PV):Ex×St:=match x.2 with
 |none=>(.normal,x.1.stop)
 |some p=>(.pan p,x.1.stop)
def zA (E:Env) (cf:Cf) (I:It) (n f:Nat):Nat->Code->St->Option (Ex×St)
 |_,.skip,s=>some (.normal,s)
 |_,.label _,s=>some (.normal,s)
 |b,.scope x,s=>zA E cf I n f b x s
 |_,.region _ ops draw,s=>(if draw then xX E cf n ops s else xf E cf n ops (List.range ops.size) s.start).map JC
 |b,.seq x y,s=>(zA E cf I n f b x s).bind fun r=>match r with
  |(.normal,s')=>zA E cf I n f b y s'
  |r=>some r
 |b,.cond c x y,s=>(vK s c).bind fun t=>match t with
  |true=>zA E cf I n f b x s
  |false=>zA E cf I n f b y s
 |_,.block id x,s=>(zA E cf I n f id x s).bind fun r=>match r with
  |(.exit j,s')=>if j=id then some (.normal,s') else some (.exit j,s')
  |r=>some r
 |b,.loop x,s=>I (fun s' => zA E cf I n f b x s') (zJ E f b s.H.length) (zJ E f b s.H.length s)
 |_,.exit id,s=>some (.exit id,s)
 |_,.ret,s=>some (.ret,s)
 |_,_,_=>none
theorem jN (n f k:Nat):∀ (c:Code) (b:Nat) (s:St),zP E cf n f k b c s=zA E cf (fun g kp s=>xA g kp k s) n f b c s:=by
 intro c
 induction c with
 |skip=>intro b s;rfl
 |label l=>intro b s;rfl
 |scope x ihx=>intro b s;exact ihx b s
 |exit id=>intro b s;rfl
 |ret=>intro b s;rfl
 |region id ops draw=>
  intro b s
  simp only[zP,zA]
  cases (if draw=true then xX E cf n ops s else xf E cf n ops (List.range ops.size) s.start) with
  |none=>rfl
  |some x=>obtain ⟨z,pn⟩:=x;cases pn<;>rfl
 |seq x y ihx ihy=>
  intro b s
  simp only[zP,zA]
  rw[ihx]
  cases zA E cf (fun g kp s=>xA g kp k s) n f b x s with
  |none=>rfl
  |some r=>
   obtain ⟨ex,s'⟩:=r
   cases ex with
   |normal=>exact ihy b s'
   |_=>rfl
 |cond c x y ihx ihy=>
  intro b s
  simp only[zP,zA]
  cases vK s c with
  |none=>rfl
  |some t=>cases t with
   |true=>exact ihx b s
   |false=>exact ihy b s
 |block id x ihx=>
  intro b s
  simp only[zP,zA]
  rw[ihx]
  cases zA E cf (fun g kp s=>xA g kp k s) n f id x s with
  |none=>rfl
  |some r=>
   obtain ⟨ex,s'⟩:=r
   cases ex<;>rfl
 |loop x ihx=>
  intro b s
  simp only[zP,zA]
  rw[show (fun s' => zP E cf n f k b x (zJ E f b s.H.length s'))=fun s' => (fun s' => zA E cf (fun g kp s=>xA g kp k s) n f b x s') (zJ E f b s.H.length s') from funext fun s' => ihx b _]
  exact zaA _ _ k s
 |_=>intro b s;rfl
theorem jR (hc:wW cfs cf) {Its:Nat->It} {I:It} (hI:XW Its I) (n f:Nat):∀ (c:Code) (b:Nat) (s:St),LimO (fun k=>zA E (cfs k) (Its k) n f b c s) (zA E cf I n f b c s):=by
 intro c
 induction c with
 |skip=>intro b s;exact LimO.const _
 |label l=>intro b s;exact LimO.const _
 |scope x ihx=>intro b s;exact ihx b s
 |exit id=>intro b s;exact LimO.const _
 |ret=>intro b s;exact LimO.const _
 |region id ops draw=>
  intro b s
  cases draw with
  |true=>exact (zkG hc n ops s).map JC
  |false=>exact (zbP hc n ops _ _).map JC
 |seq x y ihx ihy=>
  intro b s
  refine (ihx b s).bind fun r=>?_
  obtain ⟨ex,s'⟩:=r
  cases ex with
  |normal=>exact ihy b s'
  |_=>exact LimO.const _
 |cond c x y ihx ihy=>
  intro b s
  refine (LimO.const (vK s c)).bind fun t=>?_
  cases t with
  |true=>exact ihx b s
  |false=>exact ihy b s
 |block id x ihx=>intro b s;exact (ihx id s).bind fun r=>LimO.const _
 |loop x ihx=>
  intro b s
  exact hI (fun k s' => zA E (cfs k) (Its k) n f b x s') (fun s' => zA E cf I n f b x s') _ (fun s' => ihx b s') _
 |_=>intro b s;exact LimO.const _
variable {yb:List (Nat×Func)}
def Wh (E:Env) (cf:Cf) (I:It) (fn:Func) (f:Nat) (args:List AV) (H:za):Option (Out×za) :=
 fn.body.bind fun c=>(zA E cf I fn.ntmps f 0 c ⟨fun t=>(args[t]?).getD .dead,H⟩).bind (z8 E f fn.results.toList H.length)
theorem zft (hc:wW cfs cf) {Its:Nat->It} {I:It} (hI:XW Its I) (fn:Func) (f:Nat) (args:List AV) (H:za):LimO (fun k=>Wh E (cfs k) (Its k) fn f args H) (Wh E cf I fn f args H) :=
 (LimO.const fn.body).bind fun c=>(jR hc hI fn.ntmps f c 0 _).bind fun r=>LimO.const _
def ZJ (E:Env) (yb:List (Nat×Func)) (cf:Cf) (I:It) (f:Nat) (args:List AV) (H:za):Option (Out×za) :=
 match find E.cln f with
 |some q=>clone E q args H
 |none=>(find yb f).bind fun fn=>match find E.dfr f with
  |some g=>(find yb g).bind fun gn=>(ZZ g fn gn).bind fun d=>ZY E f g fn gn d args H (fun n f c s=>zA E cf I n f 0 c s)
  |none=>Wh E cf I fn f args H
theorem zg9 {f g:Nat} {fn gn:Func} {d:DP} {args:List AV} {H:za} {rs:Nat->Nat->Nat->Code->St->Option (Ex×St)} {r:Nat->Nat->Code->St->Option (Ex×St)} (h:∀ n f c s,LimO (fun k=>rs k n f c s) (r n f c s)) :
  LimO (fun k=>ZY E f g fn gn d args H (rs k)) (ZY E f g fn gn d args H r):=by
 refine (h _ _ _ _).bind fun x=>?_
 obtain ⟨ex,s0⟩:=x
 cases ex with
 |normal=>
  simp only
  cases (d.caps.all fun c=>w6 (s0.sl c)) with
  |false=>exact LimO.const _
  |true=>exact (h _ _ _ _).bind fun y=>(LimO.const _).bind fun p=>(h _ _ _ _).bind fun z=>LimO.const _
 |_=>exact LimO.const _
theorem zcc (hc:wW cfs cf) {Its:Nat->It} {I:It} (hI:XW Its I) (f:Nat) (args:List AV) (H:za):LimO (fun k=>ZJ E yb (cfs k) (Its k) f args H) (ZJ E yb cf I f args H):=by
 unfold ZJ
 cases find E.cln f with
 |some q=>exact LimO.const _
 |none=>
  refine (LimO.const _).bind fun fn=>?_
  cases find E.dfr f with
  |some g=>exact (LimO.const _).bind fun gn=>(LimO.const _).bind fun d=>zg9 fun n f c s=>jR hc hI n f c 0 s
  |none=>exact zft hc hI fn f args H
theorem jP (k f:Nat) (args:List AV) (H:za):xz E yb (k+1) f args H=ZJ E yb (xz E yb k) (fun g kp s=>xA g kp k s) f args H:=by
 simp only[xz,ZJ]
 cases find E.cln f with
 |some q=>rfl
 |none=>
  simp only
  cases find yb f with
  |none=>rfl
  |some fn=>
   simp only[zm4]
   cases find E.dfr f with
   |some g=>
    simp only
    congr 1
    funext gn
    congr 1
    funext d
    congr 1
    funext n f c s
    exact jN n f k c 0 s
   |none=>
    simp only
    unfold Wh
    cases fn.body with
    |none=>rfl
    |some c=>
     simp only[zm4]
     rw[←jN]
     have e:∀ (s:St),((wk E f fn.results.toList).runK (fun _ _ a z=>wi H.length (.ret a) z.H) [] [] s.start)=(match (wk E f fn.results.toList).run s.start with
       |some (ws,a)=>wi H.length (.ret a) (s.start.puts ws).H
       |none=>none):=fun s=>by
      rw[wl]
      cases (wk E f fn.results.toList).run s.start with
      |none=>rfl
      |some x=>rfl
     cases zP E (xz E yb k) fn.ntmps f k 0 c ⟨fun t=>(args[t]?).getD .dead,H⟩ with
     |none=>rfl
     |some r=>
      obtain ⟨ex,s⟩:=r
      cases ex with
      |normal=>exact (e s).symm
      |ret=>exact (e s).symm
      |_=>rfl
theorem jO:∀ (k f:Nat) (args:List AV) (H:za) (x:Out×za),xz E yb k f args H=some x->xz E yb (k+1) f args H=some x
 |0,f,args,H,x,h=>by cases h
 |k+1,f,args,H,x,h=>by
  rw[jP] at h ⊢
  have hc:wW (fun j=>if j=0 then xz E yb k else xz E yb (k+1)) (xz E yb (k+1)):=fun f a H=>
   ⟨fun j x hx=>by
    by_cases hj:j=0
    ·simp only[hj,if_true] at hx;exact jO k f a H x hx
    ·simp only[hj,if_false] at hx;exact hx,
   fun x hx=>⟨1,fun j hj=>by
     have:¬j=0:=by omega
     simp only[this,if_false];exact hx⟩⟩
  exact (zcc hc (it2 k) f args H).1 0 x (by simpa using h)
noncomputable def val (E:Env) (yb:List (Nat×Func)):Cf:=fun f args H=>lim fun k=>xz E yb k f args H
theorem Vg:wW (xz E yb) (val E yb):=fun f args H=>zaM fun k x h=>jO k f args H x h
theorem zl3 {f:Nat} {args:List AV} {H:za} {x:Out×za} (h:val E yb f args H=some x):∃ k,xz E yb k f args H=some x:=by
 obtain ⟨k,hk⟩:=(Vg f args H).2 x h
 exact ⟨k,hk k (Nat.le_refl _)⟩
theorem qM (f:Nat) (args:List AV) (H:za):val E yb f args H=ZJ E yb (val E yb) zN f args H :=
 (Vg f args H).shift.unique ((zcc Vg itW f args H).of_eq (fun k=>jP k f args H) rfl)
noncomputable def ya {R:Type} (g:St->Option (Ex×St)) (kp:St->St) (κ:Ex×St->Option R) (s:St):Option R:=(zN g kp s).bind κ
noncomputable def XI {R:Type} (g:St->Option (Ex×St)) (kp:St->St) (κ:Ex×St->Option R) (r:Ex×St):Option R :=
 match r with
 |(.normal,s')=>ya g kp κ (kp s')
 |r=>κ r
noncomputable def zT {R:Type} (E:Env) (cf:Cf) (n f:Nat):Nat->Code->(Ex×St->Option R)->St->Option R
 |_,.skip,κ,s=>κ (.normal,s)
 |_,.label _,κ,s=>κ (.normal,s)
 |b,.scope x,κ,s=>zT E cf n f b x κ s
 |_,.region _ ops draw,κ,s=>match draw with
  |true=>Qd E cf n ops (fun z pn=>match pn with
   |none=>κ (.normal,z.stop)
   |some p=>κ (.pan p,z.stop)) s
  |false=>WT E cf n ops (fun z pn=>match pn with
   |none=>κ (.normal,z.stop)
   |some p=>κ (.pan p,z.stop)) (List.range ops.size) s.start
 |b,.seq x y,κ,s=>zT E cf n f b x (yf (zT E cf n f b y) κ) s
 |b,.cond c x y,κ,s=>(vK s c).bind fun t=>cond t (zT E cf n f b x κ (XK s c true)) (zT E cf n f b y κ (XK s c false))
 |_,.block id x,κ,s=>zT E cf n f id x (zQ id κ) s
 |b,.loop x,κ,s=>ya (zA E cf zN n f b x) (zJ E f b s.H.length) κ (zJ E f b s.H.length s)
 |_,.exit id,κ,s=>κ (.exit id,s)
 |_,.ret,κ,s=>κ (.ret,s)
 |_,_,_,_=>none
theorem WD {R:Type} (n f:Nat):∀ (c:Code) (b:Nat) (κ:Ex×St->Option R) (s:St),zT E cf n f b c κ s=(zA E cf zN n f b c s).bind κ:=by
 intro c
 induction c with
 |skip=>intro b κ s;rfl
 |label l=>intro b κ s;rfl
 |scope x ihx=>intro b κ s;exact ihx b κ s
 |exit id=>intro b κ s;rfl
 |ret=>intro b κ s;rfl
 |region id ops draw=>
  intro b κ s
  simp only[zT,zA]
  cases draw with
  |true=>
   simp only[if_true]
   rw[jx]
   cases xX E cf n ops s with
   |none=>rfl
   |some x=>obtain ⟨z,pn⟩:=x;cases pn<;>rfl
  |false=>
   simp only[Bool.false_eq_true,if_false]
   rw[JX]
   cases xf E cf n ops (List.range ops.size) s.start with
   |none=>rfl
   |some x=>obtain ⟨z,pn⟩:=x;cases pn<;>rfl
 |seq x y ihx ihy=>
  intro b κ s
  simp only[zT,zA]
  rw[ihx]
  cases zA E cf zN n f b x s with
  |none=>rfl
  |some r=>
   obtain ⟨ex,s'⟩:=r
   cases ex with
   |normal=>exact ihy b κ s'
   |_=>rfl
 |cond c x y ihx ihy=>
  intro b κ s
  simp only[zT,zA]
  cases hb:vK s c with
  |none=>rfl
  |some t=>
   cases t with
   |true=>simp only[zm4,cond_true];rw[Kc hb];exact ihx b κ s
   |false=>simp only[zm4,cond_false];rw[Kc hb];exact ihy b κ s
 |block id x ihx=>
  intro b κ s
  simp only[zT,zA]
  rw[ihx]
  cases zA E cf zN n f id x s with
  |none=>rfl
  |some r=>
   obtain ⟨ex,s'⟩:=r
   cases ex with
   |exit j=>
    simp only[zm4,zQ]
    split<;>rfl
   |_=>rfl
 |loop x ihx=>intro b κ s;rfl
 |_=>intro b κ s;rfl
theorem yd {R:Type} (n f b:Nat) (x:Code) (kp:St->St) (κ:Ex×St->Option R) (s:St) :
  ya (zA E cf zN n f b x) kp κ s=zT E cf n f b x (XI (zA E cf zN n f b x) kp κ) s:=by
 rw[WD]
 unfold ya
 rw[zir]
 cases zA E cf zN n f b x s with
 |none=>rfl
 |some r=>
  obtain ⟨ex,s'⟩:=r
  cases ex<;>rfl
noncomputable def Wg (E:Env) (cf:Cf) (fn:Func) (f:Nat) (args:List AV) (H:za):Option (Out×za) :=
 match fn.body with
 |none=>none
 |some c=>zT E cf fn.ntmps f 0 c (z8 E f fn.results.toList H.length) ⟨fun t=>(args[t]?).getD .dead,H⟩
theorem zl2 {f:Nat} {fn:Func} (hf:find yb f=some fn) (hc:find E.cln f=none) (hd:find E.dfr f=none) (args:List AV) (H:za):val E yb f args H=Wg E (val E yb) fn f args H:=by
 rw[qM]
 simp only[ZJ,hf,hc,hd,zm4]
 unfold Wh Wg
 cases fn.body with
 |none=>rfl
 |some c=>simp only[zm4];rw[WD]
theorem zl0 {f:Nat} {q:Nat×Nat×Nat} (hc:find E.cln f=some q) (args:List AV) (H:za):val E yb f args H=clone E q args H:=by
 rw[qM]
 simp only[ZJ,hc]
noncomputable def Jq (E:Env) (cf:Cf) (f g:Nat) (fn gn:Func) (d:DP) (m:Nat) (cp:List AV) (kl:List (Nat×AV)) (y:Ex×St):Option (Out×za) :=
 (XB y.1).bind fun p=>zT E cf gn.ntmps g 0 d.grest (fun z=>cond (WC z.1) ((wk E f fn.results.toList).runK (fun _ _ a zz=>wi m (.ret a) zz.H) [] [] (St.start ⟨zR kl,z.2.H⟩)) none) (Wt d cp y.2 p)
noncomputable def Qc (E:Env) (cf:Cf) (f g:Nat) (fn gn:Func) (d:DP) (args:List AV) (H:za):Option (Out×za) :=
 zT E cf fn.ntmps f 0 d.r0 (fun x=>match x with
  |(.normal,s0)=>cond (d.caps.all fun c=>w6 (s0.sl c)) (zT E cf fn.ntmps f 0 d.rest (Jq E cf f g fn gn d H.length (d.caps.map s0.sl) (Zm d fn.results.toList s0)) ⟨fun t=>cond (decide (t=d.t8)) .dead (s0.sl t),s0.H⟩) none
  |_=>none) ⟨fun t=>(args[t]?).getD .dead,H⟩
theorem zhc {f g:Nat} {fn gn:Func} {d:DP} {args:List AV} {H:za}:ZY E f g fn gn d args H (fun n f c s=>zA E cf zN n f 0 c s)=Qc E cf f g fn gn d args H:=by
 unfold ZY Qc
 rw[WD]
 congr 1
 funext x
 obtain ⟨ex,s0⟩:=x
 cases ex with
 |normal=>
  simp only
  congr 1
  rw[WD]
  congr 1
  funext y
  unfold Jq
  congr 1
  funext p
  rw[WD]
  congr 1
  funext z
  cases WC z.1 with
  |false=>rfl
  |true=>
   simp only[cond_true]
   rw[wl]
 |_=>rfl
theorem zl1 {f g:Nat} {fn gn:Func} {d:DP} (hf:find yb f=some fn) (hg:find yb g=some gn) (hc:find E.cln f=none) (hd:find E.dfr f=some g) (hp:ZZ g fn gn=some d) (args:List AV) (H:za):val E yb f args H=Qc E (val E yb) f g fn gn d args H:=by
 rw[qM]
 simp only[ZJ,hf,hc,hd,hg,hp,zm4]
 exact zhc
end
def cp (o:Option (Out×za)) (k:PV->Option (Out×za)):Option (Out×za):=zh o (fun a _=>(zb a).bind k) (fun a _=>some (.pan a,[]))
@[simp] theorem zk (a:PV) (h:za) (k:PV->Option (Out×za)):cp (some (.ret (.pv a),h)) k=k a:=rfl
@[simp] theorem zmL (p:PV) (h:za) (k:PV->Option (Out×za)):cp (some (.pan p,h)) k=some (.pan p,[]):=rfl
def tK (p:PV) (i:Nat) (k:PV->Option (Out×za)):Option (Out×za):=(Z5 (.pv p)).bind fun s=>(s[i]?).bind k
@[simp] theorem z6 (xs:List PV) (i:Nat) (k:PV->Option (Out×za)):tK (.tup xs) i k=(xs[i]?).bind k:=rfl
def o1 (n:Nat) (l:List Nat):List Nat:=List.replicate n 1++l
def Wf (p:PV) (k:PV->Option (Out×za)):Option (Out×za):=cond (decide (p.cells.length=1)) ((p.cells[0]?).bind fun a0=>cond (a0.isCell&&true) (k a0) none) none
@[simp] theorem Y0 (a0:PV) (k:PV->Option (Out×za)):Wf (.agg [a0]) k=cond (a0.isCell&&true) (k a0) none:=rfl
def VC (p:PV) (k:PV->PV->PV->Option (Out×za)):Option (Out×za):=cond (decide (p.cells.length=3)) ((p.cells[0]?).bind fun a0=>(p.cells[1]?).bind fun a1=>(p.cells[2]?).bind fun a2=>cond (a0.isCell&&(a1.isCell&&(a2.isCell&&true))) (k a0 a1 a2) none) none
@[simp] theorem ze9 (a0 a1 a2:PV) (k:PV->PV->PV->Option (Out×za)):VC (.agg [a0,a1,a2]) k=cond (a0.isCell&&(a1.isCell&&(a2.isCell&&true))) (k a0 a1 a2) none:=rfl
def vZ (p:PV) (k:PV->PV->PV->PV->PV->Option (Out×za)):Option (Out×za):=cond (decide (p.cells.length=5)) ((p.cells[0]?).bind fun a0=>(p.cells[1]?).bind fun a1=>(p.cells[2]?).bind fun a2=>(p.cells[3]?).bind fun a3=>(p.cells[4]?).bind fun a4=>cond (a0.isCell&&(a1.isCell&&(a2.isCell&&(a3.isCell&&(a4.isCell&&true))))) (k a0 a1 a2 a3 a4) none) none
@[simp] theorem Y1 (a0 a1 a2 a3 a4:PV) (k:PV->PV->PV->PV->PV->Option (Out×za)):vZ (.agg [a0,a1,a2,a3,a4]) k=cond (a0.isCell&&(a1.isCell&&(a2.isCell&&(a3.isCell&&(a4.isCell&&true))))) (k a0 a1 a2 a3 a4) none:=rfl
def vJ (p:PV) (k:PV->PV->PV->PV->PV->PV->PV->PV->Option (Out×za)):Option (Out×za):=cond (decide (p.cells.length=8)) ((p.cells[0]?).bind fun a0=>(p.cells[1]?).bind fun a1=>(p.cells[2]?).bind fun a2=>(p.cells[3]?).bind fun a3=>(p.cells[4]?).bind fun a4=>(p.cells[5]?).bind fun a5=>(p.cells[6]?).bind fun a6=>(p.cells[7]?).bind fun a7=>cond (a0.isCell&&(a1.isCell&&(a2.isCell&&(a3.isCell&&(a4.isCell&&(a5.isCell&&(a6.isCell&&(a7.isCell&&true)))))))) (k a0 a1 a2 a3 a4 a5 a6 a7) none) none
@[simp] theorem zfa (a0 a1 a2 a3 a4 a5 a6 a7:PV) (k:PV->PV->PV->PV->PV->PV->PV->PV->Option (Out×za)):vJ (.agg [a0,a1,a2,a3,a4,a5,a6,a7]) k=cond (a0.isCell&&(a1.isCell&&(a2.isCell&&(a3.isCell&&(a4.isCell&&(a5.isCell&&(a6.isCell&&(a7.isCell&&true)))))))) (k a0 a1 a2 a3 a4 a5 a6 a7) none:=rfl
def wv (p:PV) (k:PV->PV->PV->PV->PV->PV->PV->PV->PV->PV->Option (Out×za)):Option (Out×za):=cond (decide (p.cells.length=10)) ((p.cells[0]?).bind fun a0=>(p.cells[1]?).bind fun a1=>(p.cells[2]?).bind fun a2=>(p.cells[3]?).bind fun a3=>(p.cells[4]?).bind fun a4=>(p.cells[5]?).bind fun a5=>(p.cells[6]?).bind fun a6=>(p.cells[7]?).bind fun a7=>(p.cells[8]?).bind fun a8=>(p.cells[9]?).bind fun a9=>cond (a0.isCell&&(a1.isCell&&(a2.isCell&&(a3.isCell&&(a4.isCell&&(a5.isCell&&(a6.isCell&&(a7.isCell&&(a8.isCell&&(a9.isCell&&true)))))))))) (k a0 a1 a2 a3 a4 a5 a6 a7 a8 a9) none) none
@[simp] theorem Yp (a0 a1 a2 a3 a4 a5 a6 a7 a8 a9:PV) (k:PV->PV->PV->PV->PV->PV->PV->PV->PV->PV->Option (Out×za)):wv (.agg [a0,a1,a2,a3,a4,a5,a6,a7,a8,a9]) k=cond (a0.isCell&&(a1.isCell&&(a2.isCell&&(a3.isCell&&(a4.isCell&&(a5.isCell&&(a6.isCell&&(a7.isCell&&(a8.isCell&&(a9.isCell&&true)))))))))) (k a0 a1 a2 a3 a4 a5 a6 a7 a8 a9) none:=rfl
def Zw (o:Option (Out×za)) (k:PV->PV->PV->PV->PV->PV->Option (Out×za)):Option (Out×za):=zh o (fun a h=>(h[0]?).bind fun c=>(c[0]?).bind fun e=>(zb e).bind fun a0=>(c[1]?).bind fun e=>(zb e).bind fun a1=>(c[2]?).bind fun e=>(zb e).bind fun a2=>(c[3]?).bind fun e=>(zb e).bind fun a3=>(c[4]?).bind fun e=>(zb e).bind fun a4=>cond (decide (c.length=5)) (cond (decide (h.length=1)) ((zb a).bind fun r=>k r a0 a1 a2 a3 a4) none) none) (fun a h=>(h[0]?).bind fun c=>(c[0]?).bind fun e=>(zb e).bind fun a0=>(c[1]?).bind fun e=>(zb e).bind fun a1=>(c[2]?).bind fun e=>(zb e).bind fun a2=>(c[3]?).bind fun e=>(zb e).bind fun a3=>(c[4]?).bind fun e=>(zb e).bind fun a4=>cond (decide (c.length=5)) (cond (decide (h.length=1)) (some (.pan a,[[.pv a0,.pv a1,.pv a2,.pv a3,.pv a4]])) none) none)
@[simp] theorem yT (r a0 a1 a2 a3 a4:PV) (k:PV->PV->PV->PV->PV->PV->Option (Out×za)):Zw (some (.ret (.pv r),[[.pv a0,.pv a1,.pv a2,.pv a3,.pv a4]])) k=k r a0 a1 a2 a3 a4:=rfl
@[simp] theorem jc (r a0 a1 a2 a3 a4:PV) (k:PV->PV->PV->PV->PV->PV->Option (Out×za)):Zw (some (.pan r,[[.pv a0,.pv a1,.pv a2,.pv a3,.pv a4]])) k=some (.pan r,[[.pv a0,.pv a1,.pv a2,.pv a3,.pv a4]]):=rfl
def xj (o:Option (Out×za)) (k:PV->PV->PV->PV->PV->PV->PV->Option (Out×za)):Option (Out×za):=zh o (fun a h=>(h[0]?).bind fun c=>(c[0]?).bind fun e=>(zb e).bind fun a0=>(c[1]?).bind fun e=>(zb e).bind fun a1=>(c[2]?).bind fun e=>(zb e).bind fun a2=>(c[3]?).bind fun e=>(zb e).bind fun a3=>(c[4]?).bind fun e=>(zb e).bind fun a4=>(c[5]?).bind fun e=>(zb e).bind fun a5=>cond (decide (c.length=6)) (cond (decide (h.length=1)) ((zb a).bind fun r=>k r a0 a1 a2 a3 a4 a5) none) none) (fun a h=>(h[0]?).bind fun c=>(c[0]?).bind fun e=>(zb e).bind fun a0=>(c[1]?).bind fun e=>(zb e).bind fun a1=>(c[2]?).bind fun e=>(zb e).bind fun a2=>(c[3]?).bind fun e=>(zb e).bind fun a3=>(c[4]?).bind fun e=>(zb e).bind fun a4=>(c[5]?).bind fun e=>(zb e).bind fun a5=>cond (decide (c.length=6)) (cond (decide (h.length=1)) (some (.pan a,[[.pv a0,.pv a1,.pv a2,.pv a3,.pv a4,.pv a5]])) none) none)
@[simp] theorem yQ (r a0 a1 a2 a3 a4 a5:PV) (k:PV->PV->PV->PV->PV->PV->PV->Option (Out×za)):xj (some (.ret (.pv r),[[.pv a0,.pv a1,.pv a2,.pv a3,.pv a4,.pv a5]])) k=k r a0 a1 a2 a3 a4 a5:=rfl
@[simp] theorem zmM (r a0 a1 a2 a3 a4 a5:PV) (k:PV->PV->PV->PV->PV->PV->PV->Option (Out×za)):xj (some (.pan r,[[.pv a0,.pv a1,.pv a2,.pv a3,.pv a4,.pv a5]])) k=some (.pan r,[[.pv a0,.pv a1,.pv a2,.pv a3,.pv a4,.pv a5]]):=rfl
def zna:TI:=⟨1,false,none,none,none,false,false,[],[.pv (.v .nilFunc)],0,false,false,[]⟩
def znb:TI:=⟨1,false,none,none,none,false,false,[],[.dead],0,false,false,[]⟩
def znc:TI:=⟨1,false,none,none,none,false,false,[],[.pv (.v .nilIface)],0,false,true,[]⟩
def znd:TI:=⟨1,false,none,none,(some .u8),false,false,[],[.pv (.v (.int .u8 0))],0,false,false,[]⟩
def zne:TI:=⟨1,false,none,none,(some .u64),false,false,[],[.pv (.v (.int .u64 0))],0,false,false,[]⟩
def znf:TI:=⟨1,true,none,none,none,false,false,[(0,17)],[.dead],0,false,false,[]⟩
def zng:TI:=⟨1,false,none,none,(some .i32),false,false,[],[.pv (.v (.int .i32 0))],0,false,false,[]⟩
def znh:TI:=⟨1,false,none,none,(some .i64),false,false,[],[.pv (.v (.int .i64 0))],0,false,false,[]⟩
def zni:TI:=⟨1,false,none,none,none,false,false,[],[.pv (.v (.string ⟨#[]⟩))],0,true,false,[]⟩
def znj:TI:=⟨4,true,none,none,none,false,false,[(0,2),(1,3),(2,4),(3,6)],[.pv (.v (.int .i64 0)),.pv (.v (.int .i64 0)),.pv (.v (.bool false)),.pv (.v (.int .u8 0))],0,false,false,[]⟩
def znk:TI:=⟨2,true,none,none,none,false,false,[(0,9),(1,12)],[.pv (.v (.string ⟨#[]⟩)),.pv (.v (.int .u64 0))],0,false,false,[]⟩
def znl:TI:=⟨3,true,none,none,none,false,false,[(0,22),(1,3),(2,22)],[.slu 5 1 [],.pv (.v (.int .i64 0)),.slu 5 1 []],0,false,false,[]⟩
def znm:TI:=⟨6,true,none,none,none,false,false,[(0,3),(1,5),(2,22),(3,3),(4,3),(5,27)],[.pv (.v (.int .i64 0)),.pv (.v (.int .u8 0)),.slu 5 1 [],.pv (.v (.int .i64 0)),.pv (.v (.int .i64 0)),.pv (.v (.int .i64 0))],0,false,false,[]⟩
def znn:TI:=⟨5,true,none,none,none,false,false,[(0,3),(1,3),(2,3),(3,22),(4,51)],[.pv (.v (.int .i64 0)),.pv (.v (.int .i64 0)),.pv (.v (.int .i64 0)),.slu 5 1 [],.slu 53 5 []],0,false,false,[]⟩
def zno:TI:=⟨4,true,none,none,none,false,false,[(0,38),(3,22)],[.slu 5 1 [],.pv (.v (.int .i64 0)),.slu 5 1 [],.slu 5 1 []],0,false,false,[]⟩
def znp:TI:=⟨8,true,none,none,none,false,false,[(0,44),(6,3),(7,22)],[.pv (.v (.int .i64 0)),.pv (.v (.int .u8 0)),.slu 5 1 [],.pv (.v (.int .i64 0)),.pv (.v (.int .i64 0)),.pv (.v (.int .i64 0)),.pv (.v (.int .i64 0)),.slu 5 1 []],0,false,false,[]⟩
def znq:TI:=⟨2,true,none,none,none,false,false,[(0,4),(1,137)],[.pv (.v (.bool false)),.pv (.v .nilFunc)],0,false,false,[]⟩
def znr:TI:=⟨1,true,none,none,none,false,false,[(0,27)],[.pv (.v (.int .i64 0))],0,false,false,[]⟩
def zns:TI:=⟨1,true,none,none,none,false,true,[(0,27)],[.pv (.v (.int .i64 0))],0,false,false,[false]⟩
def znt:TI:=⟨2,true,none,none,none,false,false,[(0,67),(1,67)],[.slu 75 1 [],.slu 75 1 []],0,false,false,[]⟩
def znu:TI:=⟨0,true,none,none,none,false,true,[],[],0,false,false,[]⟩
def znv:TI:=⟨6,true,none,none,none,false,false,[(0,75),(1,3),(2,24),(5,120)],[.slu 30 1 [],.pv (.v (.int .i64 0)),.pv (.v (.int .i64 0)),.pv (.v (.int .i64 0)),.pv (.v (.int .i64 0)),.pv (.v (.int .i64 0))],0,false,false,[]⟩
def znw:TI:=⟨13,true,none,none,none,false,false,[(0,75),(1,197),(11,198),(12,198)],[.slu 30 1 [],.pv (.v (.int .i64 0)),.pv (.v (.int .i64 0)),.pv (.v (.int .i64 0)),.pv (.v (.int .i64 0)),.pv (.v (.int .i64 0)),.pv (.v (.int .i64 0)),.pv (.v (.bool false)),.pv (.v (.int .i64 0)),.pv (.v (.int .u32 0)),.pv (.v (.int .u32 0)),.slu 3 1 [],.slu 3 1 []],0,false,false,[]⟩
def znx:TI:=⟨3,true,none,none,none,false,false,[(0,22),(1,22),(2,3)],[.slu 5 1 [],.slu 5 1 [],.pv (.v (.int .i64 0))],0,false,false,[]⟩
def zny:TI:=⟨3,true,none,none,none,false,false,[(0,17),(1,213),(2,214)],[.dead,.dead,.pv (.v (.int .u64 0))],0,false,false,[]⟩
def znz:TI:=⟨1,true,none,none,none,false,false,[(0,75)],[.slu 30 1 []],0,false,false,[]⟩
def znA:TI:=⟨5,true,none,none,none,false,false,[(0,67),(1,24),(4,120)],[.slu 75 1 [],.pv (.v (.int .i64 0)),.pv (.v (.int .i64 0)),.pv (.v (.int .i64 0)),.pv (.v (.int .i64 0))],0,false,false,[]⟩
def znB:TI:=⟨1,true,none,none,none,false,false,[(0,120)],[.pv (.v (.int .i64 0))],0,false,false,[]⟩
def znC:TI:=⟨4,true,none,none,none,false,false,[(0,17),(1,17),(2,17),(3,9)],[.dead,.dead,.dead,.pv (.v (.string ⟨#[]⟩))],0,false,false,[]⟩
def znD:TI:=⟨0,true,none,none,none,false,false,[(0,335)],[],0,false,false,[]⟩
def znE:TI:=⟨11,true,none,none,none,false,false,[(0,12),(1,12),(2,195),(3,340),(4,5),(5,5),(6,221),(7,341),(8,342),(9,343),(10,344)],[.pv (.v (.int .u64 0)),.pv (.v (.int .u64 0)),.pv (.v (.int .u32 0)),.pv (.v (.int .u8 0)),.pv (.v (.int .u8 0)),.pv (.v (.int .u8 0)),.pv (.v (.int .u8 0)),.pv (.v .nilFunc),.dead,.pv (.v (.int .i32 0)),.pv (.v (.int .i32 0))],0,false,false,[]⟩
def znF:TI:=⟨2,true,none,none,none,false,false,[(0,9),(1,221)],[.pv (.v (.string ⟨#[]⟩)),.pv (.v (.int .u8 0))],0,false,false,[]⟩
def znG:TI:=⟨1,true,none,none,none,false,false,[(0,9)],[.pv (.v (.string ⟨#[]⟩))],0,false,false,[]⟩
def znH:TI:=⟨5,true,none,none,none,false,false,[(0,343),(1,356),(2,356),(3,195),(4,195)],[.pv (.v (.int .i32 0)),.pv (.v (.int .u16 0)),.pv (.v (.int .u16 0)),.pv (.v (.int .u32 0)),.pv (.v (.int .u32 0))],0,false,false,[]⟩
def znI:TI:=⟨4,true,none,none,none,false,false,[(0,343),(1,344),(2,360),(3,360)],[.pv (.v (.int .i32 0)),.pv (.v (.int .i32 0)),.pv (.v (.int .i32 0)),.pv (.v (.int .i32 0))],0,false,false,[]⟩
def tis:List (Nat×TI):=[
 (1,zna),(2,znh),(3,znh),(4,⟨1,false,none,none,none,true,false,[],[.pv (.v (.bool false))],0,false,false,[]⟩),(5,znd),(6,znd),(7,znj),(8,znj),(9,zni),(10,zni),(11,zni),(12,zne),(13,znk),(14,znk),(15,znb),(16,znb),(17,znb),(18,znf),(19,znf),(20,znc),(21,zng),(22,⟨1,false,(some (5,1,1)),none,none,false,false,[],[.slu 5 1 []],0,false,false,[]⟩),(23,⟨3,true,none,none,none,false,false,[(0,3),(1,3),(2,3)],[.pv (.v (.int .i64 0)),.pv (.v (.int .i64 0)),.pv (.v (.int .i64 0))],0,false,false,[]⟩),(24,⟨3,true,none,none,none,false,true,[(0,3),(1,3),(2,3)],[.pv (.v (.int .i64 0)),.pv (.v (.int .i64 0)),.pv (.v (.int .i64 0))],0,false,false,[false,false,false]⟩),(25,zna),(26,zna),(27,znh),(29,zna),(30,zne),(32,zna),(34,zna),(35,zna),(36,⟨1,false,(some (22,1,24)),none,none,false,false,[],[.slu 22 1 []],0,false,false,[]⟩),(37,znl),(38,znl),(39,zna),(41,zna),(42,zna),(43,znm),(44,znm),(45,zna),(47,zna),(48,zna),(49,zna),(50,zna),(51,⟨1,false,(some (53,5,72)),none,none,false,false,[],[.slu 53 5 []],0,false,false,[]⟩),(52,znn),(53,znn),(54,zna),(55,zna),(56,zna),(57,zna),(58,zna),(60,zna),(62,zna),(64,zna),(65,zna),(66,zna),(67,⟨1,false,(some (75,1,24)),none,none,false,false,[],[.slu 75 1 []],0,false,false,[]⟩),(69,zna),(71,zna),(72,zna),(73,zna),(74,zna),(75,⟨1,false,(some (30,1,8)),none,none,false,false,[],[.slu 30 1 []],0,false,false,[]⟩),(76,zna),(78,zna),(79,zna),(81,zna),(82,zna),(83,zna),(84,zna),(85,zna),(86,zna),(87,znc),(88,znc),(90,zna),(91,zna),(92,zna),(94,zna),(95,zna),(96,zna),(97,zna),(98,znb),(99,zna),(100,zno),(101,zno),(102,zna),(103,zna),(104,zna),(105,znb),(106,znp),(107,znp),(108,zna),(109,zna),(110,⟨5,true,none,(some (5,1)),none,false,false,[],[.pv (.v .nilFunc),.pv (.v .nilFunc),.pv (.v .nilFunc),.pv (.v .nilFunc),.pv (.v .nilFunc)],109,false,false,[]⟩),(111,zna),(113,zna),(114,zna),(115,zna),(116,zna),(118,zna),(119,⟨1,true,none,none,none,false,false,[(0,3)],[.pv (.v (.int .i64 0))],0,false,false,[]⟩),(120,⟨1,true,none,none,none,false,true,[(0,3)],[.pv (.v (.int .i64 0))],0,false,false,[false]⟩),(121,zna),(123,zna),(124,zna),(125,zna),(126,zna),(127,zna),(128,zna),(129,zna),(130,zna),(132,zna),(134,zna),(135,⟨1,false,(some (139,2,16)),none,none,false,false,[],[.slu 139 2 []],0,false,false,[]⟩),(136,zna),(137,zna),(138,znq),(139,znq),(140,zna),(141,⟨1,false,(some (200,13,144)),none,none,false,false,[],[.slu 200 13 []],0,false,false,[]⟩),(143,zna),(144,zna),(145,zna),(146,zna),(148,zna),(149,zna),(150,zna),(151,znr),(152,zns),(153,zna),(154,znb),(155,zna),(156,zna),(157,zna),(159,zna),(160,⟨1,false,(some (67,1,24)),none,none,false,false,[],[.slu 67 1 []],0,false,false,[]⟩),(161,znt),(162,znt),(163,zna),(164,⟨8,true,none,none,none,false,false,[(0,3),(1,3),(2,3),(3,3),(4,3),(5,3),(6,3),(7,3)],[.pv (.v (.int .i64 0)),.pv (.v (.int .i64 0)),.pv (.v (.int .i64 0)),.pv (.v (.int .i64 0)),.pv (.v (.int .i64 0)),.pv (.v (.int .i64 0)),.pv (.v (.int .i64 0)),.pv (.v (.int .i64 0))],0,false,false,[]⟩),(165,⟨8,true,none,none,none,false,true,[(0,3),(1,3),(2,3),(3,3),(4,3),(5,3),(6,3),(7,3)],[.pv (.v (.int .i64 0)),.pv (.v (.int .i64 0)),.pv (.v (.int .i64 0)),.pv (.v (.int .i64 0)),.pv (.v (.int .i64 0)),.pv (.v (.int .i64 0)),.pv (.v (.int .i64 0)),.pv (.v (.int .i64 0))],0,false,false,[false,false,false,false,false,false,false,false]⟩),(166,zna),(167,zna),(168,zna),(169,zna),(170,zna),(171,zna),(172,zna),(173,⟨0,true,none,none,none,false,false,[],[],0,false,false,[]⟩),(174,znu),(176,zna),(177,znb),(178,znv),(179,znv),(180,zna),(181,zna),(182,zna),(184,zna),(186,zna),(188,zna),(189,zna),(190,zna),(191,zna),(192,zna),(193,zna),(194,zna),(195,⟨1,false,none,none,(some .u32),false,false,[],[.pv (.v (.int .u32 0))],0,false,false,[]⟩),(196,⟨10,true,none,none,none,false,false,[(0,3),(1,3),(2,3),(3,3),(4,3),(5,3),(6,4),(7,3),(8,195),(9,195)],[.pv (.v (.int .i64 0)),.pv (.v (.int .i64 0)),.pv (.v (.int .i64 0)),.pv (.v (.int .i64 0)),.pv (.v (.int .i64 0)),.pv (.v (.int .i64 0)),.pv (.v (.bool false)),.pv (.v (.int .i64 0)),.pv (.v (.int .u32 0)),.pv (.v (.int .u32 0))],0,false,false,[]⟩),(197,⟨10,true,none,none,none,false,true,[(0,3),(1,3),(2,3),(3,3),(4,3),(5,3),(6,4),(7,3),(8,195),(9,195)],[.pv (.v (.int .i64 0)),.pv (.v (.int .i64 0)),.pv (.v (.int .i64 0)),.pv (.v (.int .i64 0)),.pv (.v (.int .i64 0)),.pv (.v (.int .i64 0)),.pv (.v (.bool false)),.pv (.v (.int .i64 0)),.pv (.v (.int .u32 0)),.pv (.v (.int .u32 0))],0,false,false,[false,false,false,false,false,false,true,false,false,false]⟩),(198,⟨1,false,(some (3,1,8)),none,none,false,false,[],[.slu 3 1 []],0,false,false,[]⟩),(199,znw),(200,znw),(202,zna),(204,zna),(205,zna),(206,znb),(207,znx),(208,znx),(209,zna),(210,zna),(211,zna),(212,zna),(213,znb),(214,zne),(215,zny),(216,zny),(217,zna),(218,znc),(219,znc),(220,zna),(221,znd),(222,zna),(223,zna),(224,zna),(225,znu),(227,zna),(229,zna),(230,zna),(232,zna),(233,zna),(234,zna),(236,zna),(237,zna),(238,zne),(239,zna),(240,zna),(241,zna),(242,zna),(243,zna),(244,zna),(245,zna),(246,zna),(247,zna),(248,zna),(249,zna),(250,zna),(251,zna),(252,zna),(253,zna),(254,zna),(255,zna),(256,zna),(257,zna),(258,zna),(259,zna),(260,znb),(261,znz),(262,znz),(263,zna),(264,znf),(265,znf),(266,znb),(267,zna),(268,zna),(269,znc),(271,zna),(272,znc),(273,znc),(274,⟨1,false,(some (88,1,16)),none,none,false,false,[],[.slu 88 1 []],0,false,false,[]⟩),(275,zna),(276,zna),(277,zna),(278,znr),(279,zns),(281,znb),(282,znA),(283,znA),(284,zna),(285,zna),(286,zna),(287,zna),(289,zna),(290,zna),(291,⟨4,true,none,(some (4,1)),none,false,false,[],[.pv (.v .nilFunc),.pv (.v .nilFunc),.pv (.v .nilFunc),.pv (.v .nilFunc)],290,false,false,[]⟩),(292,zna),(293,znb),(294,zna),(295,zna),(296,zna),(297,zna),(298,zna),(299,zna),(300,zna),(301,zna),(302,zna),(303,znb),(304,⟨8,true,none,(some (8,1)),none,false,false,[],[.pv (.v (.int .i64 0)),.pv (.v (.int .i64 0)),.pv (.v (.int .i64 0)),.pv (.v (.int .i64 0)),.pv (.v (.int .i64 0)),.pv (.v (.int .i64 0)),.pv (.v (.int .i64 0)),.pv (.v (.int .i64 0))],3,false,false,[]⟩),(305,zna),(307,zna),(308,zna),(309,znc),(311,zna),(312,zna),(314,zna),(316,zna),(317,zna),(318,zna),(319,⟨3,true,none,none,none,false,false,[(0,30),(1,3),(2,3)],[.pv (.v (.int .u64 0)),.pv (.v (.int .i64 0)),.pv (.v (.int .i64 0))],0,false,false,[]⟩),(320,⟨3,true,none,none,none,false,true,[(0,30),(1,3),(2,3)],[.pv (.v (.int .u64 0)),.pv (.v (.int .i64 0)),.pv (.v (.int .i64 0))],0,false,false,[false,false,false]⟩),(321,zna),(323,zna),(324,zna),(325,zna),(326,znb),(327,znB),(328,znB),(329,zna),(330,zna),(331,znb),(332,zna),(333,znC),(334,znC),(335,⟨0,true,none,(some (0,1)),none,false,false,[],[],16,false,false,[]⟩),(336,znD),(337,znD),(338,zna),(339,zna),(340,znd),(341,zna),(342,znb),(343,zng),(344,zng),(345,znE),(346,znE),(347,zna),(348,zna),(349,zna),(350,znF),(351,znF),(352,znG),(353,znG),(354,znb),(355,zna),(356,⟨1,false,none,none,(some .u16),false,false,[],[.pv (.v (.int .u16 0))],0,false,false,[]⟩),(357,znH),(358,znH),(359,⟨1,false,(some (362,4,16)),none,none,false,false,[],[.slu 362 4 []],0,false,false,[]⟩),(360,zng),(361,znI),(362,znI),(363,zna),(364,zna),(365,znb)]
def env:Env:=⟨tis,[(5,.agg [.v (.int .i64 0),.v (.int .i64 1),.v (.int .i64 8),.v (.int .i64 16),.v (.int .i64 32),.v (.int .i64 64),.v (.int .i64 64),.v (.int .i64 0)]),(1,.sen 1),(2,.sen 2)],[(4,(293,[(0,341),(1,343),(2,344),(3,345)]))],[((4,0),[0,1,5,6,7,8]),((4,2),[6,7,12,13,14,15,16]),((11,0),[0,1,7,8,9,11,13,14,16]),((11,2),[0,1,7,8,11,13,14,17]),((22,0),[4,6,7,8,50,51,52]),((25,0),[6,9,33,34,35]),((27,0),[0,1,5]),((32,0),[3,4,5]),((43,0),[0,4,5,6,7]),((44,0),[0,3,4]),((44,2),[0,3,4,6,7]),((47,0),[0,4,5]),((47,2),[0,4,5,7]),((47,4),[0,4,5,11,12]),((49,0),[0,4,5]),((49,2),[0,4,6]),((50,0),[3,4,5]),((60,0),[0,1,5,14,15,16]),((63,0),[46,47,48]),((64,0),[0,4,18,19]),((69,0),[1,3]),((70,0),[1,3]),((71,0),[3,4,5]),((72,0),[1,3]),((74,0),[1,3,4]),((83,0),[0,5,7,12,13,15,20,22,26]),((84,0),[0,1,5]),((84,2),[0,1,5,6,7,8,9]),((87,0),[0,4,5]),((88,0),[3,4,5,6]),((89,0),[3,4,5]),((91,0),[0,3,4]),((91,2),[0,3,4,5,6]),((93,0),[1,7,8,9,10,11]),((94,0),[0,1,6,7]),((97,0),[1,2,3,9,10,11]),((98,1),[0,8,43,44,45]),((100,0),[9,10,11,12,13]),((102,0),[0,3]),((105,0),[0,4,21,22,23]),((105,2),[4,43,44,45]),((107,0),[0,2,3,6,37,38]),((113,0),[0,3]),((115,0),[3,8,9,10]),((116,0),[0,1,6,17]),((117,0),[3,11,12,13]),((117,2),[3,5,11,12,13,17]),((121,0),[1,3,4]),((122,0),[1,3,4]),((124,0),[0,1,2,7,8]),((124,2),[0,1,2,7,8,9,10,11,12]),((125,0),[0,3,4]),((126,0),[0,3,4]),((127,0),[1,4,5,6]),((133,0),[11,12,13,14]),((133,2),[0,11,15,17,18,19]),((133,4),[0,11,15,21]),((134,0),[2,3,5]),((135,0),[1,2,3,4,5,6]),((135,2),[1,2,4,5,7]),((139,0),[0,4,6,8,10,11,13,16,17]),((140,0),[0,1,2,3,10,11]),((142,0),[0,3,4]),((144,0),[3,4]),((146,0),[1,2,3,4,9,10,22,23]),((146,2),[9,10,12,51,52,53]),((146,4),[9,10,12,13,14,51,52,53,59,60,61]),((149,0),[5,6,13,14,15]),((153,0),[2,3,36,37,38]),((155,0),[14,15,16]),((157,1),[1,2,4,44,45]),((158,0),[3,5,6,7,8]),((158,2),[1,3,5,6,9,10]),((158,4),[1,3,5,6,11,12,15,16]),((158,6),[1,3,5,6,11,12,15,16,17]),((160,0),[1,3,4]),((161,0),[0,2]),((166,0),[0,1,5]),((171,0),[0,1,3,6]),((171,3),[1,3,6,48,49,50]),((173,0),[0,1,5,6]),((175,0),[5,6,7]),((177,0),[3,7,8,9]),((182,0),[3,4,5,9,10]),((183,0),[4,5,6,10,11]),((185,0),[3,8,9,10]),((186,0),[0,1,5]),((196,0),[0,2,3,9,10]),((197,0),[0,1,2,8]),((197,2),[0,1,2,8,9]),((205,0),[2,3,9,21,22,23]),((205,2),[2,3,9,11,12,13,21,22,23,38,39,40]),((213,0),[1,2,15,16,17]),((218,0),[0,2,3,8,13,14,15]),((218,2),[0,2,3,8,13,14,15,32,33,34]),((219,0),[4,5,9,10,11]),((222,0),[1,5]),((224,0),[0,1,7,29,30]),((227,0),[0,1,2]),((227,3),[1,2,43,44,45]),((228,1),[0,7,69,70,71]),((228,3),[0,7,12,69,70,71,80,81,82]),((232,0),[0,7,8,9]),((237,0),[1,14,15,16]),((248,0),[0,1,3,9,10]),((249,0),[0,2,8,9,10,11,12,72,73]),((249,2),[0,2,8,9,10,118,119]),((251,0),[0,1,2,7,8]),((256,0),[0,1,5]),((258,0),[0,1,5]),((260,0),[0,1,8,9,10]),((260,2),[0,1,8,9,10,22,23,24]),((261,0),[2,3,13,14,15]),((261,2),[2,3,13,14,15,26,27,28]),((266,0),[0,1,7,8,9,17]),((270,0),[0,3,4,6,7,10,38,39,40]),((274,1),[0,2,4,6,7,39,40]),((296,0),[0,2,4,7,8,16,17]),((298,0),[0,1,7,8]),((336,0),[0,4])],[(16,(.t 0 2 (.u 5 1))),(20,(.t 0 2 (.u 5 1))),(52,(.t 0 2 (.u 5 1))),(54,(.t 0 2 (.u 5 1))),(62,(.s (.u 5 1))),(87,(.t 0 2 (.u 30 1))),(99,(.s (.u 5 1))),(101,(.t 0 2 (.u 5 1))),(105,(.t 0 2 (.u 5 1))),(165,(.s (.u 30 1))),(166,(.s (.u 5 1))),(222,(.s (.u 30 1))),(235,(.s (.u 5 1))),(275,(.s (.u 5 1)))],[(76,129),(107,172),(178,233)],[(275,(5,1,1)),(56,(0,0,152)),(162,(1,0,0)),(244,(2,0,0))],[(2,75,29),(4,75,24),(2,75,15),(4,22,15),(2,22,54),(4,22,34),(4,22,15),(4,22,22),(4,22,30),(4,22,34),(4,22,17),(2,22,10),(6,22,35),(4,22,29)],[(99,0),(166,0)],[(3,.iface 265 (.agg #[.pointer (some ⟨6,88,none⟩)]))],331,[(57,())]⟩
noncomputable def yb:List (Nat×Func):=[(3,Tryz.f3),(4,Tryz.f4),(5,Tryz.f5),(6,Tryz.f6),(7,Tryz.f7),(8,Tryz.f8),(9,Tryz.f9),(10,Tryz.f10),(11,Tryz.f11),(12,Tryz.f12),(13,Tryz.f13),(14,Tryz.f14),(15,Tryz.f15),(16,Tryz.f16),(17,Tryz.f17),(18,Tryz.f18),(19,Tryz.f19),(20,Tryz.f20),(21,Tryz.f21),(22,Tryz.f22),(23,Tryz.f23),(24,Tryz.f24),(25,Tryz.f25),(26,Tryz.f26),(27,Tryz.f27),(28,Tryz.f28),(29,Tryz.f29),(30,Tryz.f30),(31,Tryz.f31),(32,Tryz.f32),(33,Tryz.f33),(34,Tryz.f34),(35,Tryz.f35),(36,Tryz.f36),(37,Tryz.f37),(38,Tryz.f38),(39,Tryz.f39),(40,Tryz.f40),(41,Tryz.f41),(42,Tryz.f42),(43,Tryz.f43),(44,Tryz.f44),(45,Tryz.f45),(46,Tryz.f46),(47,Tryz.f47),(48,Tryz.f48),(49,Tryz.f49),(50,Tryz.f50),(51,Tryz.f51),(52,Tryz.f52),(53,Tryz.f53),(54,Tryz.f54),(55,Tryz.f55),(56,Tryz.f56),(57,Tryz.f57),(58,Tryz.f58),(59,Tryz.f59),(60,Tryz.f60),(61,Tryz.f61),(62,Tryz.f62),(63,Tryz.f63),(64,Tryz.f64),(65,Tryz.f65),(66,Tryz.f66),(67,Tryz.f67),(68,Tryz.f68),(69,Tryz.f69),(70,Tryz.f70),(71,Tryz.f71),(72,Tryz.f72),(73,Tryz.f73),(74,Tryz.f74),(75,Tryz.f75),(76,Tryz.f76),(77,Tryz.f77),(78,Tryz.f78),(79,Tryz.f79),(80,Tryz.f80),(81,Tryz.f81),(82,Tryz.f82),(83,Tryz.f83),(84,Tryz.f84),(85,Tryz.f85),(86,Tryz.f86),(87,Tryz.f87),(88,Tryz.f88),(89,Tryz.f89),(90,Tryz.f90),(91,Tryz.f91),(92,Tryz.f92),(93,Tryz.f93),(94,Tryz.f94),(95,Tryz.f95),(96,Tryz.f96),(97,Tryz.f97),(98,Tryz.f98),(99,Tryz.f99),(100,Tryz.f100),(101,Tryz.f101),(102,Tryz.f102),(103,Tryz.f103),(104,Tryz.f104),(105,Tryz.f105),(106,Tryz.f106),(107,Tryz.f107),(108,Tryz.f108),(109,Tryz.f109),(110,Tryz.f110),(111,Tryz.f111),(112,Tryz.f112),(113,Tryz.f113),(114,Tryz.f114),(115,Tryz.f115),(116,Tryz.f116),(117,Tryz.f117),(118,Tryz.f118),(119,Tryz.f119),(120,Tryz.f120),(121,Tryz.f121),(122,Tryz.f122),(123,Tryz.f123),(124,Tryz.f124),(125,Tryz.f125),(126,Tryz.f126),(127,Tryz.f127),(128,Tryz.f128),(129,Tryz.f129),(130,Tryz.f130),(131,Tryz.f131),(132,Tryz.f132),(133,Tryz.f133),(134,Tryz.f134),(135,Tryz.f135),(136,Tryz.f136),(137,Tryz.f137),(138,Tryz.f138),(139,Tryz.f139),(140,Tryz.f140),(141,Tryz.f141),(142,Tryz.f142),(143,Tryz.f143),(144,Tryz.f144),(145,Tryz.f145),(146,Tryz.f146),(147,Tryz.f147),(148,Tryz.f148),(149,Tryz.f149),(150,Tryz.f150),(151,Tryz.f151),(152,Tryz.f152),(153,Tryz.f153),(154,Tryz.f154),(155,Tryz.f155),(156,Tryz.f156),(157,Tryz.f157),(158,Tryz.f158),(159,Tryz.f159),(160,Tryz.f160),(161,Tryz.f161),(162,Tryz.f162),(163,Tryz.f163),(164,Tryz.f164),(165,Tryz.f165),(166,Tryz.f166),(167,Tryz.f167),(171,Tryz.f171),(172,Tryz.f172),(173,Tryz.f173),(174,Tryz.f174),(175,Tryz.f175),(176,Tryz.f176),(177,Tryz.f177),(178,Tryz.f178),(179,Tryz.f179),(180,Tryz.f180),(181,Tryz.f181),(182,Tryz.f182),(183,Tryz.f183),(184,Tryz.f184),(185,Tryz.f185),(186,Tryz.f186),(187,Tryz.f187),(188,Tryz.f188),(189,Tryz.f189),(190,Tryz.f190),(191,Tryz.f191),(192,Tryz.f192),(193,Tryz.f193),(194,Tryz.f194),(195,Tryz.f195),(196,Tryz.f196),(197,Tryz.f197),(198,Tryz.f198),(199,Tryz.f199),(200,Tryz.f200),(201,Tryz.f201),(202,Tryz.f202),(203,Tryz.f203),(204,Tryz.f204),(205,Tryz.f205),(206,Tryz.f206),(207,Tryz.f207),(208,Tryz.f208),(209,Tryz.f209),(210,Tryz.f210),(211,Tryz.f211),(212,Tryz.f212),(213,Tryz.f213),(214,Tryz.f214),(215,Tryz.f215),(216,Tryz.f216),(217,Tryz.f217),(218,Tryz.f218),(219,Tryz.f219),(220,Tryz.f220),(221,Tryz.f221),(222,Tryz.f222),(223,Tryz.f223),(224,Tryz.f224),(225,Tryz.f225),(227,Tryz.f227),(228,Tryz.f228),(231,Tryz.f231),(232,Tryz.f232),(233,Tryz.f233),(234,Tryz.f234),(235,Tryz.f235),(236,Tryz.f236),(237,Tryz.f237),(238,Tryz.f238),(239,Tryz.f239),(240,Tryz.f240),(241,Tryz.f241),(242,Tryz.f242),(243,Tryz.f243),(244,Tryz.f244),(245,Tryz.f245),(246,Tryz.f246),(247,Tryz.f247),(248,Tryz.f248),(249,Tryz.f249),(250,Tryz.f250),(251,Tryz.f251),(252,Tryz.f252),(253,Tryz.f253),(254,Tryz.f254),(255,Tryz.f255),(256,Tryz.f256),(257,Tryz.f257),(258,Tryz.f258),(259,Tryz.f259),(260,Tryz.f260),(261,Tryz.f261),(262,Tryz.f262),(263,Tryz.f263),(264,Tryz.f264),(265,Tryz.f265),(266,Tryz.f266),(267,Tryz.f267),(268,Tryz.f268),(269,Tryz.f269),(270,Tryz.f270),(271,Tryz.f271),(272,Tryz.f272),(273,Tryz.f273),(274,Tryz.f274),(275,Tryz.f275),(276,Tryz.f276),(277,Tryz.f277),(278,Tryz.f278),(279,Tryz.f279),(280,Tryz.f280),(281,Tryz.f281),(282,Tryz.f282),(283,Tryz.f283),(284,Tryz.f284),(285,Tryz.f285),(286,Tryz.f286),(287,Tryz.f287),(288,Tryz.f288),(289,Tryz.f289),(290,Tryz.f290),(291,Tryz.f291),(292,Tryz.f292),(293,Tryz.f293),(294,Tryz.f294),(295,Tryz.f295),(296,Tryz.f296),(297,Tryz.f297),(298,Tryz.f298),(316,Tryz.f316),(334,Tryz.f334),(335,Tryz.f335),(336,Tryz.f336),(337,Tryz.f337),(338,Tryz.f338),(339,Tryz.f339),(340,Tryz.f340),(341,Tryz.f341),(342,Tryz.f342),(343,Tryz.f343),(344,Tryz.f344),(345,Tryz.f345)]
noncomputable def ev:Cf:=val env yb
theorem jS {f:Nat} {fn:Func} (hf:find yb f=some fn) (hc:find env.cln f=none) (hd:find env.dfr f=none) (args:List AV) (H:za):ev f args H=Wg env ev fn f args H:=zl2 hf hc hd args H
theorem evq {f:Nat} {fn:Func} (args:List AV) (H:za) (hf:find yb f=some fn:=by kernel_rfl) (hc:find env.cln f=none:=by kernel_rfl) (hd:find env.dfr f=none:=by kernel_rfl):ev f args H=Wg env ev fn f args H:=jS hf hc hd args H
theorem zg {f:Nat} {fn:Func} {t:Option (Out×za)} (args:List AV) (H:za) (hf:find yb f=some fn:=by kernel_rfl) (hc:find env.cln f=none:=by kernel_rfl) (hd:find env.dfr f=none:=by kernel_rfl) (h:Wg env ev fn f args H=t:=by kernel_rfl):ev f args H=t:=(jS hf hc hd args H).trans h
theorem JB {f g:Nat} {fn gn:Func} {d:DP} (hf:find yb f=some fn) (hg:find yb g=some gn) (hc:find env.cln f=none) (hd:find env.dfr f=some g) (hp:ZZ g fn gn=some d) (args:List AV) (H:za):ev f args H=Qc env ev f g fn gn d args H:=zl1 hf hg hc hd hp args H
theorem Qj {f:Nat} {q:Nat×Nat×Nat} (hc:find env.cln f=some q) (args:List AV) (H:za):ev f args H=clone env q args H:=zl0 hc args H
def Zc:Nat->List AV->za->Option (Out×za):=fun _ _ _=>none
def Yy (s:St):St:=⟨fun t=>if t=3 then .dead else if t=4 then .dead else s.sl t,s.H⟩
def Xd (E:Env) (n f:Nat) (rs:List ResultVar) (R0 R:Code) (sz:Nat) (xs:List PV):Option (Out×za) :=
 wB E Zc n f 1 0 R0 (fun r=>match r.1 with
  |.normal=>wB E Zc n f 1 0 R (fun r=>match r.1 with
   |.ret=>z8 E f rs 0 r
   |_=>none) (Yy r.2)
  |_=>none) ⟨fun t=>(([.pv (.sl sz xs)]:List AV)[t]?).getD .dead,[]⟩
section
variable {P:Program} {E:Env}
theorem r9 {n f:Nat} {rs:List ResultVar} {R0 R:Code} {sz:Nat} {xs:List PV} {x:Out×za} (h:Xd E n f rs R0 R sz xs=some x):∃ st1 r,zP E Zc n f 1 0 R0 ⟨fun t=>(([.pv (.sl sz xs)]:List AV)[t]?).getD .dead,[]⟩=some (.normal,st1)/\zP E Zc n f 1 0 R (Yy st1)=some r/\z8 E f rs 0 r=some x/\r.1=.ret:=by
 unfold Xd at h
 rw[jQ] at h
 obtain ⟨⟨ex,st1⟩,h1,h2⟩:=Option.bind_eq_some_iff.1 h
 cases ex with
 |normal=>
  simp only[jQ] at h2
  obtain ⟨⟨ex,st⟩,h3,h4⟩:=Option.bind_eq_some_iff.1 h2
  cases ex with
  |ret=>exact ⟨st1,_,h1,h3,h4,rfl⟩
  |normal=>cases h4
  |exit id=>cases h4
  |pan p=>cases h4
 |ret=>cases h2
 |exit id=>cases h2
 |pan p=>cases h2
theorem zkp {G:Gh} {st:St} {a:Act} {w:World} (h:Rel P E G st.start a w) (x y:Value):Rel P E G (Yy st).start ((a.put (some 3) x).put (some 4) y) w:=by
 refine ⟨h.wo,h.bx,fun t=>?_,fun t r hr=>(by cases hr),h.dm⟩
 show VRel P E G w (fun j=>.s t j) ((Yy st).sl t) _
 unfold Yy
 simp only
 by_cases h3:t=3
 ·rw[if_pos h3];trivial
 ·rw[if_neg h3]
  by_cases h4:t=4
  ·rw[if_pos h4];trivial
  ·rw[if_neg h4]
   have e1:=(Ye (a:=a) (some 3) x).tmps t (by simp;omega)
   have e2:=(Ye (a:=a.put (some 3) x) (some 4) y).tmps t (by simp;omega)
   rw[e2,e1]
   exact h.sl t
theorem zkN {w:World} {T e:Nat} (hT:P.underlying T=some (.slice e)) (p:Option Addr) (n c:Nat):(binOp .eql T (.slice p n c) (.slice none 0 0)).run P w=.ok (.bool p.isNone) w:=by
 have k:∀ m,(Op.equalIn (m+1) T (.slice p n c) (.slice none 0 0)).run P w=.ok p.isNone w:=fun m=>by
  cases p<;>simp only[Op.equalIn,Sem.run_bind,run_underlying hT,Result.andThen_ok,Sem.run_pure]<;>rfl
 show (do pure (.bool (←Op.equal T (.slice p n c) (.slice none 0 0))):Sem Value).run P w=_
 have:=k 9999
 simp only[Sem.run_bind,show (Op.equal T (.slice p n c) (.slice none 0 0)).run P w=.ok p.isNone w from this,Result.andThen_ok,Sem.run_pure]
theorem zc1 {o:Oper} {i:Nat} {ops:Array Oper} {L:List Nat} {a:Act} {w:World} {Q:Exit->Act->World->Prop} {v:Value} (hi:ops[i]? = some o) (hg:o.guard=none) (hx:(execOp a.eval o).run P w=.ok (.value v) w) (h:wpOps P ops Q L (a.put o.dst v) w):wpOps P ops Q (i::L) a w:=by
 rw[wpOps_cons]
 unfold wpOp
 have hw:Region.wanted o (yielded ops a.tmps)=true:=by unfold Region.wanted;rw[hg]
 simp only[hi,hw,if_true]
 refine .inl ?_
 unfold Oper.wp
 rw[hx]
 exact h
theorem zgK (hm:P.follows .mixedOrders=true) (hS:SysOk P E) {f:Nat} {fn:Func} (hf:P.funcs[f]? = some fn) {T e sz by_ id1:Nat} {o0 o1:Oper} {R0 R2 R3:Code} (hT:P.underlying T=some (.slice e))
  (hb:fn.body=some (.seq R0 (.seq (.seq (.region id1 #[o0,o1] false) (.cond (.tmp 4) (.seq R2 .ret) .skip)) (.seq R3 .ret))))
  (ho0:o0.op=.move (.tmp 0)) (hd0:o0.dst=some 3) (hg0:o0.guard=none) (ho1:o1.op=.binOp .eql T (.tmp 3) (.const (.slice none 0 0)) T) (hd1:o1.dst=some 4) (hg1:o1.guard=none) (hn:5<=fn.ntmps)
  (hw0:∀ xs st1,zP E Zc fn.ntmps f 1 0 R0 ⟨fun t=>(([.pv (.sl sz xs)]:List AV)[t]?).getD .dead,[]⟩=some (.normal,st1)->st1.sl 0=.pv (.sl sz xs))
  (k2:Xd E fn.ntmps f fn.results.toList R0 (.seq R2 .ret) sz []=some (.ret (.slu e sz []),[]))
  (k3:∀ xs,ye xs.length by_=true->Xd E fn.ntmps f fn.results.toList R0 (.seq R3 .ret) sz xs=some (.ret (.slu e sz xs),[]))
  {args:List AV} {H:za} {out:Out} {H':za} (hc:clone E (e,sz,by_) args H=some (out,H')) (hz:sz≠0) {G:Gh} {w:World} {vs:Array Value} (pre:PreC P E G w args vs H):Calls P f vs w fun e w' => wV P E G w H' out e w':=by
 have hC:xR P E Zc:=fun f args H out H' h=>by cases h
 have hF:∀ f args H r,Zc f args H=some r->xH P f:=fun f args H r h=>by cases h
 replace hc:Jl (e,sz,by_) args H=some (out,H'):=by
  cases sz with
  |zero=>exact absurd rfl hz
  |succ n=>exact hc
 unfold Jl at hc
 split at hc
 case h_2=>cases hc
 case h_1 p=>
 cases hps:zX p with
 |none=>simp[hps] at hc
 |some l=>
 obtain ⟨z,xs⟩:=l
 obtain rfl:=WW hps
 simp only[hps,zm4] at hc
 cases hcc:(decide (z=sz)&&ye xs.length by_&&H.isEmpty) with
 |false=>simp[hcc] at hc
 |true=>
 simp only[hcc,cond_true,zm9,Prod.mk.injEq] at hc
 obtain ⟨rfl,rfl⟩:=hc
 simp only[zm8,decide_eq_true_eq,List.isEmpty_iff] at hcc
 obtain ⟨⟨rfl,hroom⟩,rfl⟩:=hcc
 obtain ⟨st1,r3,c0,c3,fk3,g3⟩:=r9 (k3 xs hroom)
 refine calls_of_wp hf hb ?_
 have r0:=Jw pre fn.ntmps
 refine wp_seq (Xn hm hS hC hF (D:=fun _=>True) R0 0 (N:=0) (fun _ _=>trivial) c0 r0 (by simp;omega) (Nat.zero_le _) ⟨fun ex he G1 a1 w1 f1 p1 r1 s1 d1=>?_,fun p hp=>(by cases hp)⟩)
 cases he
 have hsz:5<=a1.tmps.size:=by rw[s1];simp;omega
 have hv0:PRep G1.g (.sl z xs) (tmp a1 0):=by
  have:=r1.sl 0
  have e0:(st1.start.sl 0).a=.pv (.sl z xs):=hw0 xs st1 c0
  rw[e0] at this
  exact this
 have fin:∀ {R:Code} {r:Ex×St} {G2:Gh} {a2:Act} {w2:World} {ys:List PV} {Q:Exit->Act->World->Prop},zP E Zc fn.ntmps f 1 0 R (Yy st1)=some r->z8 E f fn.results.toList 0 r=some (.ret (.slu e z ys),[])->r.1=.ret->Fr G w G2 w2 X0->Rel P E G2 (Yy st1).start a2 w2->5<=a2.tmps.size->fn.ntmps<=a2.tmps.size->a2.defers=[]->(ys=xs)->
   (∀ a3 w3,bodyPost P fn (fun e_1 w' => wV P E G w [] (.ret (.slu e z xs)) e_1 w') .ret a3 w3->Q .ret a3 w3)->R.wp P Q a2 w2:=by
  intro R r G2 a2 w2 ys Q hr hfk hret f2 r2 hs hsn hdf hys hQ
  subst hys
  refine Xn hm hS hC hF (D:=fun _=>True) R 0 (N:=0) (fun _ _=>trivial) hr r2 hsn (Nat.zero_le _) ⟨fun ex he G3 a3 w3 f3 p3 r3 s3 d3=>?_,fun p hp G3 a3 w3 v s2 f3 p3 r3 hH s3 d3 hv=>?_⟩
  ·have go:(wk E f fn.results.toList).runK (fun _ _ a z=>wi 0 (.ret a) z.H) [] [] r.2.start=some (.ret (.slu e z ys),[])->bodyPost P fn (fun e_1 w' => wV P E G w [] (.ret (.slu e z ys)) e_1 w') .ret a3 w3:=by
    intro hres
    rw[wl] at hres
    cases hz:(wk E f fn.results.toList).run r.2.start with
    |none=>simp[hz] at hres
    |some zz=>
     obtain ⟨ws,v⟩:=zz
     simp only[hz] at hres
     obtain ⟨G4,x,f4,p4,r4,e4,o4⟩:=qk hS r3 hz
     exact ⟨d3.defers.trans hdf,x,e4,Qz (H:=[]) pre.dm ((f2.trans f3).trans (f4.weaken xn X0_old)) (fun l b hl hb=>absurd hl (by simp)) r4 (by simpa using hres) o4⟩
   obtain ⟨ex1,st3⟩:=r
   cases ex1 with
   |normal=>cases hret
   |ret=>cases he;exact hQ _ _ (go hfk)
   |exit id=>cases hfk
   |pan p=>cases he
  ·obtain ⟨ex1,st3⟩:=r
   simp only at hp
   subst hp
   simp only[z8] at hfk
   unfold wi at hfk
   split at hfk
   ·cases hfk
   ·cases hfk
 refine wp_seq (wp_seq (wp_region ?_))
 show wpOps P #[o0,o1] _ [0,1] a1 w1
 refine zc1 (o:=o0) (v:=tmp a1 0) rfl hg0 (by simp only[execOp,ho0];rfl) ?_
 rw[hd0]
 have hx3:tmp (a1.put (some 3) (tmp a1 0)) 3=tmp a1 0:=(XO (by omega) _ 3).trans (if_pos rfl)
 obtain ⟨p0,n0,c00,hp0,hnil⟩:∃ p0 n0 c00,tmp a1 0=.slice p0 n0 c00/\(p0=none->xs=[]):=by
  generalize tmp a1 0=y at hv0
  cases hv0 with
  |sl0=>exact ⟨_,_,_,rfl,fun _=>rfl⟩
  |sl=>exact ⟨_,_,_,rfl,fun h=>by cases h⟩
 refine zc1 (o:=o1) (v:=.bool p0.isNone) rfl hg1 ?_ ?_
 ·have e3:(a1.put (some 3) (tmp a1 0)).eval (.tmp 3)=.slice p0 n0 c00:=hx3.trans hp0
  have hgd:(eqGuard .eql T (.tmp 3) (.const (.slice none 0 0)) (.slice p0 n0 c00) (.slice none 0 0)).run P w1=.ok () w1:=by simp[eqGuard]
  have e4:(a1.put (some 3) (tmp a1 0)).eval (.const (.slice none 0 0))=.slice none 0 0:=rfl
  simp only[execOp,ho1,e3,e4,Sem.run_bind,hgd,Result.andThen_ok,zkN hT,Sem.run_pure]
 rw[hd1]
 show Exit.then _ _ .normal _ _
 have hr2:=zkp r1 (tmp a1 0) (.bool p0.isNone)
 have hsz2:((a1.put (some 3) (tmp a1 0)).put (some 4) (.bool p0.isNone)).tmps.size=a1.tmps.size:=by rw[Yg,Yg]
 have h4:((a1.put (some 3) (tmp a1 0)).put (some 4) (.bool p0.isNone)).eval (.tmp 4)=.bool p0.isNone:=(XO (by rw[Yg];omega) _ 4).trans (if_pos rfl)
 have hnn:fn.ntmps<=((a1.put (some 3) (tmp a1 0)).put (some 4) (.bool p0.isNone)).tmps.size:=by rw[hsz2,s1];simp;omega
 have hdf:((a1.put (some 3) (tmp a1 0)).put (some 4) (.bool p0.isNone)).defers=[]:=by show a1.defers=[];exact d1.defers
 refine wp_cond h4 ?_
 cases hpn:p0.isNone with
 |true=>
  have hp':p0=none:=by simpa using hpn
  obtain rfl:=hnil hp'
  obtain ⟨st1',r2,c0',c2,fk2,g2⟩:=r9 k2
  obtain rfl:st1=st1':=by rw[c0] at c0';cases c0';rfl
  rw[hpn] at hr2 hsz2 hnn hdf
  exact fin c2 fk2 g2 f1 hr2 (by rw[hsz2];exact hsz) hnn hdf rfl fun a3 w3 hb=>hb
 |false=>
  rw[hpn] at hr2 hsz2 hnn hdf
  refine wp_skip ?_
  show (Code.seq R3 .ret).wp P _ _ _
  exact fin c3 fk3 g3 f1 hr2 (by rw[hsz2];exact hsz) hnn hdf rfl fun a3 w3 hb=>hb
end
def z1:AV->Value->Bool
 |.pv (.v (.int k n)),.int k' n' => decide (k=k')&&decide (n=n')
 |.pv (.v (.bool b)),.bool b' => b == b'
 |.pv (.v (.string s)),.string s' => s.data.toList.isEmpty&&s'.data.toList.isEmpty
 |.pv (.v .nilFunc),.nilFunc=>true
 |.pv (.v .nilIface),.nilIface=>true
 |.slu _ sz [],.slice none 0 0=>decide (0<sz)
 |.dead,v=>v.oneCell'
 |_,_=>false
def zB:List AV->List Value->Bool
 |[],[]=>true
 |a::r,v::q=>z1 a v&&zB r q
 |_,_=>false
section
variable (P:Program)
def JK (e sz by_:Nat):Bool:=match P.info? e with
 |some k=>decide (k.size=sz)&&decide (k.bytes=by_)&&decide (0<sz)&&(match k.zero with|some z=>decide (z.cells.size=sz)|none=>false)
 |none=>false
def Xl:List Field->Nat->List Bool->Bool
 |[],_,[]=>true
 |f::r,j,b::q=>!(f.name == "_")&&decide (f.offset=j)&&(match P.underlying f.type with|some (.int _)=>!b|some .bool=>b|_=>false)&&Xl r (j+1) q
 |_,_,_=>false
def qJ (t:Nat) (i:TI):Bool:=match P.info? t,P.underlying t with
 |some k,some d=>decide (k.size=i.size)&&(match k.zero with|some z=>zB i.zero z.cells.toList|none=>false)&&decide (i.zero.length=i.size)&&
  (i.agg==Y2 d)&&(i.agg||decide (i.size=1))&&
  (match i.el with|none=>true|some x=>(match d with|.slice e=>decide (e=x.1)&&JK P e x.2.1 x.2.2|_=>false))&&
  (match i.arr with|none=>true|some x=>(match d with|.array n e=>decide (n=x.1)&&decide (e=i.ae)&&(match P.info? e with|some k=>decide (k.size=x.2)|none=>false)|_=>false))&&
  (match i.int with|none=>true|some k=>(match d with|.int k' => decide (k=k')|_=>false))&&
  (!i.bool||(match d with|.bool=>true|_=>false))&&(!i.str||(match d with|.string=>true|_=>false))&&(!i.ifc||(match d with|.interface _=>true|_=>false))&&
  ((i.fields.isEmpty&&!(i.agg&&i.arr.isNone))||(match d with|.struct fs=>decide (fs.toList.map (fun f=>(f.offset,f.type))=i.fields)|_=>false))&&
  (!i.eq||((match d with|.struct fs=>Xl P fs.toList 0 i.tags|_=>false)&&!P.stoodInHeld t&&!P.eqGuardType P.depth t))
 |_,_=>false
end
section
variable {P:Program}
theorem zmH {a:AV} {v:Value} (h:z1 a v=true):ZRel a v:=by
 unfold z1 at h
 split at h
 ·simp only[zm8,decide_eq_true_eq] at h
  obtain ⟨rfl,rfl⟩:=h
  exact ⟨rfl,rfl⟩
 ·simp only[beq_iff_eq] at h
  subst h
  exact ⟨rfl,rfl⟩
 ·rename_i s s'
  simp only[zm8,List.isEmpty_iff] at h
  obtain ⟨⟨d⟩⟩:=s
  obtain ⟨⟨d'⟩⟩:=s'
  simp only at h
  obtain ⟨rfl,rfl⟩:=h
  exact ⟨rfl,rfl⟩
 ·exact ⟨rfl,rfl⟩
 ·exact ⟨rfl,rfl⟩
 ·exact ⟨rfl,of_decide_eq_true h⟩
 ·exact h
 ·cases h
theorem zdb:∀ {as0:List AV} {vs:List Value},zB as0 vs=true->vs.length=as0.length/\∀ (j:Nat) (a:AV) (x:Value),as0[j]? = some a->vs[j]? = some x->ZRel a x
 |[],[],_=>⟨rfl,fun j a x h=>by simp at h⟩
 |[],_::_,h=>by simp[zB] at h
 |_::_,[],h=>by simp[zB] at h
 |a::r,v::q,h=>by
  simp only[zB,zm8] at h
  obtain ⟨k1,k2⟩:=zdb h.2
  refine ⟨by simp[k1],fun j b x hb hx=>?_⟩
  cases j with
  |zero=>simp at hb hx;subst hb;subst hx;exact zmH h.1
  |succ j=>exact k2 j b x (by simpa using hb) (by simpa using hx)
theorem Jy {w:World} {g:Nat->Option (Array Value)} {vs us:Array Value} {cs ds:List PV} (hc:PRep g (.agg cs) (.agg vs)) (hd:PRep g (.agg ds) (.agg us)) (d:Nat):∀ (fs:List Field) (j:Nat) (tags:List Bool) (z:Bool),Xl P fs j tags=true->xd tags (cs.drop j) (ds.drop j)=some z->(Op.eqFields (d+1) vs us fs).run P w=.ok z w
 |[],j,tags,z,h,he=>by
  cases tags with
  |cons b q=>simp[Xl] at h
  |nil=>
   unfold xd at he
   split at he
   ·simp at he;subst he;simp[Op.eqFields]
   ·rename_i h1 _ _;cases h1
   ·rename_i h1 _ _;cases h1
   ·cases he
 |f::r,j,[],z,h,he=>by simp[Xl] at h
 |f::r,j,b::q,z,h,he=>by
  simp only[Xl,zm8,Bool.not_eq_true',decide_eq_true_eq] at h
  obtain ⟨⟨⟨hn,ho⟩,ht⟩,hr⟩:=h
  have hn':f.name ≠ "_":=by intro e;rw[e] at hn;simp at hn
  have cellC:∀ {cs:List PV} {vs:Array Value} {x:Value} {l:List PV},PRep g (.agg cs) (.agg vs)->cs.drop j=.v x::l->vs[j]? = some x/\cs.drop (j+1)=l:=fun {cs vs x l} hP hl=>by
   cases hP with
   |agg h1 h2 h3=>
    have hj:cs[j]? = some (.v x):=by have:=congrArg (fun l=>l[0]?) hl;simpa using this
    have hlt:j<vs.size:=by rw[h1];exact (List.getElem?_eq_some_iff.1 hj).1
    have:=h3 j _ vs[j] hj (Array.getElem?_eq_getElem hlt)
    have e:vs[j]=x:=by cases this;rfl
    refine ⟨by rw[Array.getElem?_eq_getElem hlt,e],?_⟩
    have:=congrArg (List.drop 1) hl
    simpa[List.drop_drop] using this
  have step:∀ {a c:Value} {y zz:Bool},vs[j]? = some a->us[j]? = some c->((part f.type vs f.offset).run P w=.ok a w)->((part f.type us f.offset).run P w=.ok c w)->(Op.equalIn (d+1) f.type a c).run P w=.ok y w->(Op.eqFields (d+1) vs us r).run P w=.ok zz w->(Op.eqFields (d+1) vs us (f::r)).run P w=.ok (y&&zz) w:=fun {a c y zz} _ _ h1 h2 h3 h4=>by
   rw[Op.eqFields]
   simp only[if_pos hn',Sem.run_bind,h1,h2,h3,Result.andThen_ok]
   cases y
   ·simp
   ·simpa using h4
  unfold xd at he
  split at he
  ·rename_i h1 _ _;cases h1
  ·rename_i tt k a l1 k' b' l2 e1 e2 e3
   cases e1
   split at he
   ·rename_i hk
    subst hk
    obtain ⟨v1,d1⟩:=cellC hc e2
    obtain ⟨v2,d2⟩:=cellC hd e3
    cases hrec:xd q l1 l2 with
    |none=>simp[hrec] at he
    |some zz=>
     simp only[hrec,Option.map_some,zm9] at he
     subst he
     have ih:=Jy (w:=w) hc hd d r (j+1) q zz hr (by rw[d1,d2];exact hrec)
     split at ht
     ·rename_i kk hu
      refine step v1 v2 ?_ ?_ ?_ ih
      ·simp[part,isAgg,run_underlying hu,ho,v1]
      ·simp[part,isAgg,run_underlying hu,ho,v2]
      ·simp[Op.equalIn,run_underlying hu]
     ·cases ht
     ·cases ht
   ·cases he
  ·rename_i tt a l1 b' l2 e1 e2 e3
   cases e1
   obtain ⟨v1,d1⟩:=cellC hc e2
   obtain ⟨v2,d2⟩:=cellC hd e3
   cases hrec:xd q l1 l2 with
   |none=>simp[hrec] at he
   |some zz=>
    simp only[hrec,Option.map_some,zm9] at he
    subst he
    have ih:=Jy (w:=w) hc hd d r (j+1) q zz hr (by rw[d1,d2];exact hrec)
    split at ht
    ·cases ht
    ·rename_i hu
     refine step v1 v2 ?_ ?_ ?_ ih
     ·simp[part,isAgg,run_underlying hu,ho,v1]
     ·simp[part,isAgg,run_underlying hu,ho,v2]
     ·simp[Op.equalIn,run_underlying hu]
    ·cases ht
  ·cases he
theorem zig {e sz by_:Nat} (h:JK P e sz by_=true):∃ k z,P.info? e=some k/\k.size=sz/\k.bytes=by_/\k.zero=some z/\z.cells.size=sz/\0<sz:=by
 unfold JK at h
 split at h
 ·rename_i k hk
  simp only[zm8,decide_eq_true_eq] at h
  obtain ⟨⟨⟨h1,h2⟩,h3⟩,h4⟩:=h
  split at h4
  ·rename_i z hz;exact ⟨k,z,hk,h1,h2,hz,of_decide_eq_true h4,h3⟩
  ·cases h4
 ·cases h
theorem zlI {t:Nat} {i:TI} (h:qJ P t i=true):TyOk P t i:=by
 unfold qJ at h
 split at h
 ·rename_i k d hk hd
  simp only[zm8] at h
  obtain ⟨⟨⟨⟨⟨⟨⟨⟨⟨⟨⟨⟨h1,h2⟩,h3⟩,h4⟩,h5⟩,h6⟩,h7⟩,h8⟩,h9⟩,h10⟩,h11⟩,h12⟩,h13⟩:=h
  refine ⟨?_,⟨d,hd,by simpa using h4⟩,fun ha=>?_,fun x hx=>?_,fun x hx=>?_,fun k hk=>?_,fun hb=>?_,fun hb=>?_,fun hb=>?_,fun f x hx=>?_,fun hf hg=>?_,fun he=>?_⟩
  ·split at h2
   ·rename_i z hz
    obtain ⟨k1,k2⟩:=zdb h2
    exact ⟨k,z,hk,of_decide_eq_true h1,hz,by simpa using k1,of_decide_eq_true h3,fun j a x ha hx=>k2 j a x ha (by simpa using hx)⟩
   ·cases h2
  ·rw[ha] at h5;simpa using h5
  ·rw[hx] at h6
   simp only at h6
   split at h6
   ·simp only[zm8,decide_eq_true_eq] at h6
    obtain ⟨rfl,h6⟩:=h6
    exact ⟨hd,zig h6⟩
   ·cases h6
  ·rw[hx] at h7
   simp only at h7
   split at h7
   ·simp only[zm8,decide_eq_true_eq] at h7
    obtain ⟨⟨rfl,rfl⟩,h7⟩:=h7
    split at h7
    ·rename_i ke hke;exact ⟨_,ke,hd,hke,of_decide_eq_true h7,rfl⟩
    ·cases h7
   ·cases h7
  ·rw[hk] at h8
   simp only at h8
   split at h8
   ·have:=of_decide_eq_true h8;subst this;exact hd
   ·cases h8
  ·rw[hb] at h9
   simp only[Bool.not_true,Bool.false_or] at h9
   split at h9
   ·exact hd
   ·cases h9
  ·rw[hb] at h10
   simp only[Bool.not_true,Bool.false_or] at h10
   split at h10
   ·exact hd
   ·cases h10
  ·rw[hb] at h11
   simp only[Bool.not_true,Bool.false_or] at h11
   split at h11
   ·exact ⟨_,hd⟩
   ·cases h11
  ·have hne:i.fields.isEmpty=false:=by cases hi:i.fields with
    |nil=>rw[hi] at hx;simp at hx
    |cons a b=>rfl
   rw[hne,Bool.false_and,Bool.false_or] at h12
   split at h12
   ·rename_i fs
    have e:=of_decide_eq_true h12
    rw[←e,List.getElem?_map] at hx
    cases hj:fs.toList[f]? with
    |none=>simp[hj] at hx
    |some fd=>
     simp only[hj,Option.map_some,zm9] at hx
     subst hx
     exact ⟨fs,fd,hd,by simpa using hj,rfl,rfl⟩
   ·cases h12
  ·rw[hf,hg,Option.isNone_none,Bool.true_and,Bool.not_true,Bool.and_false,Bool.false_or] at h12
   split at h12
   ·rename_i fs
    have e:=of_decide_eq_true h12
    exact ⟨fs,hd,by rw[←e];simp⟩
   ·cases h12
  ·rw[he] at h13
   simp only[Bool.not_true,Bool.false_or,zm8,Bool.not_eq_true'] at h13
   obtain ⟨⟨h13,h14⟩,h15⟩:=h13
   intro w vs us cs ds z g hc hd' hz
   split at h13
   ·rename_i fs
    refine ⟨?_,h15⟩
    have:=Jy (w:=w) hc hd' 9998 fs.toList 0 i.tags z h13 (by simpa using hz)
    have hf:P.fieldsOf t=fs:=by simp[Program.fieldsOf,hd]
    have e:=run_equalIn_struct (P:=P) w 9999 t vs us (by rw[hf];exact hd) h14
    rw[hf] at e
    exact e.trans this
   ·cases h13
 ·cases h
theorem zlf {E:Env} (h:(E.ti.all fun x=>qJ P x.1 x.2)=true):SysOk P E:=by
 refine ⟨fun t i hi=>?_⟩
 have hm:=jZ hi
 exact zlI (List.all_eq_true.1 h _ hm)
end
@[simp] theorem xD (k:IntKind) (n:Int):yq (.pv (.v (.int k n)))=some (k,n):=rfl
@[simp] theorem zbc (k:IntKind) (n:Int):zf k (.pv (.v (.int k n)))=some n:=by simp[zf]
@[simp] theorem y4 (b:Bool):zY (.pv (.v (.bool b)))=some b:=rfl
@[simp] theorem yx (z:Nat) (xs:List PV):zX (.sl z xs)=some (z,xs):=rfl
@[simp] theorem zjr (cs:List PV):YE (.pv (.agg cs))=some cs:=rfl
@[simp] theorem gJ (cs:List PV):Y3 (.pv (.agg cs))=some cs:=rfl
@[simp] theorem ZD (cs:List PV):Z5 (.pv (.tup cs))=some cs:=rfl
@[simp] theorem zmQ (t:Nat) (p:PV):xC (.pv (.ifc t p))=some (t,p):=rfl
@[simp] theorem yu (e z:Nat) (xs:List PV):zO e z (.slu e z xs)=some xs:=by simp[zO]
@[simp] theorem zt (p:PV):zb (.pv p)=some p:=rfl
@[simp] theorem yi (x:Value):(PV.v x).cells=[.v x]:=rfl
@[simp] theorem Zb (z:Nat) (xs:List PV):(PV.sl z xs).cells=[.sl z xs]:=rfl
@[simp] theorem V1 (cs:List PV):(PV.agg cs).cells=cs:=rfl
@[simp] theorem yF (x:Value):(PV.v x).isCell=true:=rfl
@[simp] theorem wg (z:Nat) (xs:List PV):(PV.sl z xs).isCell=true:=rfl
@[simp] theorem zmO (cs:List PV):(PV.agg cs).isCell=false:=rfl
@[simp] theorem zmP (l o:Nat):Qs l o (.ptr l o)=true:=by simp[Qs]
@[simp] theorem zl {γ:Type} (a:AV) (h:za) (kr:AV->za->Option γ) (kp:PV->za->Option γ):zh (some (.ret a,h)) kr kp=kr a h:=rfl
@[simp] theorem zmK {γ:Type} (p:PV) (h:za) (kr:AV->za->Option γ) (kp:PV->za->Option γ):zh (some (.pan p,h)) kr kp=kp p h:=rfl
theorem dT (p:Prop) [Decidable p] (h:p:=by omega):decide p=true:=decide_eq_true h
theorem dF (p:Prop) [Decidable p] (h:¬p:=by omega):decide p=false:=decide_eq_false h
theorem ze {x:Int} (h:-9223372036854775808<=x/\x<=9223372036854775807:=by omega):IntKind.wrap .i64 x=x:=by
 simp only[IntKind.wrap,IntKind.bits,IntKind.signed]
 simp
 split<;>omega
theorem zl9 {n:Nat} (h:n<=9223372036854775807):IntKind.wrap .i64 (n:Int)=n:=ze ⟨by omega,by omega⟩
theorem wJ {x:Int} (h:0<=x/\x<=18446744073709551615):IntKind.wrap .u64 x=x:=by
 simp only[IntKind.wrap,IntKind.bits,IntKind.signed]
 simp
 omega
theorem Kx (x:Int):IntKind.wrap .u64 x=x%18446744073709551616:=by simp[IntKind.wrap,IntKind.bits,IntKind.signed]
theorem zda (x:Int):IntKind.wrap .u32 x=x%4294967296:=by simp[IntKind.wrap,IntKind.bits,IntKind.signed]
theorem Vn (x:Int):IntKind.wrap .u8 x=x%256:=by simp[IntKind.wrap,IntKind.bits,IntKind.signed]
theorem yw {γ:Type} {p:Prop} [Decidable p] (x y:γ):cond (decide p) x y=if p then x else y:=by by_cases h:p<;>simp[h]
theorem yv {γ:Type} (a b:Int) (x y:γ):cond (a==b) x y=if a=b then x else y:=by
 by_cases h:a=b
 ·rw[if_pos h,beq_iff_eq.2 h];rfl
 ·rw[if_neg h,beq_eq_false_iff_ne.2 h];rfl
theorem yE {γ:Type} (a b:Int) (x y:γ):cond (a != b) x y=if a=b then y else x:=by
 by_cases h:a=b
 ·rw[if_pos h,bne,beq_iff_eq.2 h];rfl
 ·rw[if_neg h,bne,beq_eq_false_iff_ne.2 h];rfl
theorem yD {γ:Type} (a b:Bool) (x y:γ):cond (a&&b) x y=cond a (cond b x y) y:=by cases a<;>rfl
theorem z7 (n:Int):zf .i64 (.pv (.v (.int .i64 n)))=some n:=rfl
theorem vA (n:Int):zf .u64 (.pv (.v (.int .u64 n)))=some n:=rfl
theorem vQ (n:Int):zf .u8 (.pv (.v (.int .u8 n)))=some n:=rfl
theorem zo (b:Bool):(true&&b)=b:=rfl
theorem zc {γ:Type} (x y:γ):cond true x y=x:=rfl
theorem zu {γ:Type} (x y:γ):cond false x y=y:=rfl
theorem vp:(!true)=false:=rfl
theorem QD:(!false)=true:=rfl
theorem WN (a:PV):decide ([a].length=1)=true:=rfl
theorem ziA (a b c d e:PV):decide ([a,b,c,d,e].length=5)=true:=rfl
theorem xk (a:List AV):decide ([a].length=1)=true:=rfl
theorem wM (a:AV):decide ([a].length=1)=true:=rfl
theorem zgH (a b c d e:AV):decide ([a,b,c,d,e].length=5)=true:=rfl
abbrev I (n:Int):PV:=.v (.int .i64 n)
abbrev U (n:Int):PV:=.v (.int .u64 n)
abbrev yJ (n:Int):PV:=.v (.int .u32 n)
abbrev U8 (n:Int):PV:=.v (.int .u8 n)
abbrev Bo (b:Bool):PV:=.v (.bool b)
abbrev ok (p:PV):Option (Out×za):=some (.ret (.pv p),[])
def ws (l:List Int):List PV:=l.map fun n=>.v (.int .u64 n)
def bs (l:List Int):List PV:=l.map fun n=>.v (.int .u8 n)
def zG (l:List (List Int)):List PV:=l.map fun s=>.sl 1 (ws s)
def zU (x:Int):Prop:=0<=x/\x<=18446744073709551615
def Words (xs:List Int):Prop:=xs.length<=9223372036854775807/\∀ x∈xs,zU x
def zj (x:Int):Prop:=0<=x/\x<=255
def Bytes (xs:List Int):Prop:=xs.length<=9223372036854775807/\∀ x∈xs,zj x
def zF (l:List (List Int)):Prop:=l.length<=9223372036854775807/\∀ s∈l,Words s
@[simp] theorem yj (l:List Int):(ws l).length=l.length:=by simp[ws]
@[simp] theorem zK (l:List Int):(bs l).length=l.length:=by simp[bs]
@[simp] theorem W6 (l:List (List Int)):(zG l).length=l.length:=by simp[zG]
theorem Yk {l:List Int} {i:Nat} (h:i<l.length):(ws l)[i]? = some (.v (.int .u64 l[i])):=by simp[ws,h]
theorem Yr {l:List Int} {i:Nat} (h:i<l.length):(bs l)[i]? = some (.v (.int .u8 l[i])):=by simp[bs,h]
theorem zk0 {l:List (List Int)} {i:Nat} (h:i<l.length):(zG l)[i]? = some (.sl 1 (ws l[i])):=by simp[zG,h]
def rd (l:List Int) (i:Int):Int:=l.getD i.toNat 0
def yz (l:List (List Int)) (i:Int):List Int:=l.getD i.toNat []
theorem zc9 {l:List Int} {i:Int} (h0:0<=i) (h:i<l.length):(ws l)[i.toNat]? = some (.v (.int .u64 (rd l i))):=by
 rw[Yk (by omega)];simp[rd,List.getD_eq_getElem?_getD,show i.toNat<l.length by omega]
theorem XL {l:List (List Int)} {i:Int} (h0:0<=i) (h:i<l.length):(zG l)[i.toNat]? = some (.sl 1 (ws (yz l i))):=by
 rw[zk0 (by omega)];simp[yz,List.getD_eq_getElem?_getD,show i.toNat<l.length by omega]
theorem QX {l:List (List Int)} (h:zF l) (i:Int):Words (yz l i):=by
 unfold yz
 rw[List.getD_eq_getElem?_getD]
 by_cases hs:i.toNat<l.length
 ·rw[List.getElem?_eq_getElem hs];exact h.2 _ (List.getElem_mem hs)
 ·rw[List.getElem?_eq_none (by omega)];exact ⟨by simp,fun x hx=>by simp at hx⟩
theorem zkm {l:List Int} (h:Words l) (i:Int):zU (rd l i):=by
 unfold rd
 rw[List.getD_eq_getElem?_getD]
 by_cases hs:i.toNat<l.length
 ·rw[List.getElem?_eq_getElem hs];exact h.2 _ (List.getElem_mem hs)
 ·rw[List.getElem?_eq_none (by omega)];exact ⟨by simp,by simp⟩
end Go.Proofs.YtjbjeeoifhegfaaGreatDoor.E
