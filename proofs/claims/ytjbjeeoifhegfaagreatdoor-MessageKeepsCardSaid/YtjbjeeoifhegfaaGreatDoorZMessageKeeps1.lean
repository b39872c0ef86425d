/- A part of the proof of the law MessageKeeps, as its statement says it: for every input; its conditions are the statement's own. -/
import Derived.Laws.AppendOwn
import Derived.Laws.MakeOwn
import Derived.Laws.CopyRow
import Derived.Laws.Slices
import Derived.Below
import Derived.Calls
import Derived.Laws.BytesArg
import Derived.Orders
import Derived.Deep.MidRow
import Derived.Great.BuildSlice
import Derived.Laws.OwnMore
import Derived.Lib.AppendZerosOnto
set_option linter.unusedVariables false
set_option linter.unusedSimpArgs false
open List renaming nil_append->zm7
open Bool renaming and_eq_true->zm8
open Option.some renaming injEq->zm9
namespace Go.Proofs.YtjbjeeoifhegfaaGreatDoor.E
inductive PV where
 |v (x:Value)
 |sl (sz:Nat) (xs:List PV)
 |agg (cs:List PV)
 |tup (xs:List PV)
 |ifc (t:Nat) (x:PV)
 |sen (g:Nat)
 deriving Inhabited
def PV.cells:PV->List PV
 |.agg cs=>cs
 |p=>[p]
def PV.isCell:PV->Bool
 |.agg _=>false
 |.tup _=>false
 |_=>true
inductive AV where
 |pv (p:PV)
 |slu (e sz:Nat) (xs:List PV)
 |agg (cs:List AV)
 |ptr (l o:Nat)
 |elp (x:PV) (o:Nat)
 |clo (fn:Fn) (first captured:List AV)
 |gm (g:Nat)
 |mp (g:Nat)
 |tup (k:Nat) (a:AV) (ps:List PV)
 |dead
 |und
 deriving Inhabited
inductive Var where
 |s (t:Nat)
 |c (l o:Nat)
inductive Ref where
 |whole (v:Var)
 |elem (v:Var) (sz i o:Nat)
structure TI where
 size:Nat
 agg:Bool
 el:Option (Nat×Nat×Nat)
 arr:Option (Nat×Nat)
 int:Option IntKind
 bool:Bool
 eq:Bool
 fields:List (Nat×Nat)
 zero:List AV
 ae:Nat:=0
 str:Bool:=false
 ifc:Bool:=false
 tags:List Bool:=[]
inductive RP where
 |u (e sz:Nat)
 |a (cs:List (Option (Nat×Nat)))
inductive UQ where
 |s (r:RP)
 |t (k n:Nat) (r:RP)
structure Env where
 ti:List (Nat×TI)
 glob:List (Nat×PV)
 maps:List (Nat×(Nat×List (Int×Nat)))
 keep:List ((Nat×Nat)×List Nat)
 uq:List (Nat×UQ)
 dfr:List (Nat×Nat):=[]
 cln:List (Nat×(Nat×Nat×Nat)):=[]
 tk:List (Nat×Nat×Nat):=[]
 ow:List (Nat×Nat):=[]
 fix:List (Nat×Value):=[]
 sty:Nat:=0
 bor:List (Nat×Unit):=[]
def find {α:Type}:List (Nat×α)->Nat->Option α
 |[],_=>none
 |(k,a)::l,n=>if k=n then some a else find l n
def JE {α:Type}:List ((Nat×Nat)×α)->Nat->Nat->Option α
 |[],_,_=>none
 |(k,a)::l,n,m=>if k.1=n then (if k.2=m then some a else JE l n m) else JE l n m
abbrev za:=List (List AV)
structure Sl where
 a:AV
 r:Option Ref
 m:Bool
structure RS where
 sl:Nat->Sl
 H:za
 mb:Nat->Bool
inductive Loc where
 |s (t:Nat)
 |b (l:Nat)
 |h
inductive W where
 |s (t:Nat) (a:AV) (r:Option Ref) (m:Bool)
 |c (l o:Nat) (a:AV) (m:Bool)
 |b (l:Nat) (cs:List AV)
 |new (cs:List AV)
 |all (h:za)
def RS.put (s:RS):W->RS
 |.s t a r m=>{ s with sl:=fun t' => if t' = t then ⟨a,r,(s.sl t).m||m⟩ else s.sl t' }
 |.c l o a m=>{ s with H:=s.H.modify l fun cs=>cs.set o a,mb:=fun l' => if l' = l then (s.mb l||m) else s.mb l' }
 |.b l cs=>{ s with H:=s.H.set l cs,mb:=fun l' => if l' = l then true else s.mb l' }
 |.new cs=>{ s with H:=s.H++[cs] }
 |.all h=>{ s with H:=h,mb:=fun _=>true }
def RS.puts (s:RS):List W->RS
 |[]=>s
 |w::ws=>(s.put w).puts ws
inductive Out where
 |ret (a:AV)
 |pan (p:PV)
inductive RM (α:Type):Type 1 where
 |ret (a:α)
 |fail
 |rs (t:Nat) (k:Sl->RM α)
 |rb (l:Nat) (k:Option (List AV)×Bool->RM α)
 |rh (k:za->RM α)
 |wr (w:W) (k:RM α)
 |dyn {β:Type} (o:Option β) (k:β->RM α)
 |need (b:Bool) (k:RM α)
 |alt (b:Bool) (x y:RM α)
 |out (o:Option (Out×za)) (kr:AV->za->RM α) (kp:PV->za->RM α)
def zh {γ:Type} (o:Option (Out×za)) (kr:AV->za->Option γ) (kp:PV->za->Option γ):Option γ :=
 match o with
 |some (.ret a,h)=>kr a h
 |some (.pan p,h)=>kp p h
 |none=>none
namespace RM
def bind {α β:Type}:RM α->(α->RM β)->RM β
 |.ret a,f=>f a
 |.fail,_=>.fail
 |.rs t k,f=>.rs t fun c=>(k c).bind f
 |.rb l k,f=>.rb l fun c=>(k c).bind f
 |.rh k,f=>.rh fun c=>(k c).bind f
 |.wr w k,f=>.wr w (k.bind f)
 |.dyn o k,f=>.dyn o fun x=>(k x).bind f
 |.need b k,f=>.need b (k.bind f)
 |.alt b x y,f=>.alt b (x.bind f) (y.bind f)
 |.out o kr kp,f=>.out o (fun a h=>(kr a h).bind f) (fun p h=>(kp p h).bind f)
def run {α:Type}:RM α->RS->Option (List W×α)
 |.ret a,_=>some ([],a)
 |.fail,_=>none
 |.rs t k,s=>(k (s.sl t)).run s
 |.rb l k,s=>(k (s.H[l]?,s.mb l)).run s
 |.rh k,s=>(k s.H).run s
 |.wr w k,s=>match k.run (s.put w) with
  |some (ws,a)=>some (w::ws,a)
  |none=>none
 |.dyn o k,s=>o.bind fun x=>(k x).run s
 |.need b k,s=>cond b (k.run s) none
 |.alt b x y,s=>cond b (x.run s) (y.run s)
 |.out o kr kp,s=>zh o (fun a h=>(kr a h).run s) (fun p h=>(kp p h).run s)
def log {α:Type}:RM α->RS->List Loc
 |.ret _,_=>[]
 |.fail,_=>[]
 |.rs t k,s=>.s t::(k (s.sl t)).log s
 |.rb l k,s=>.b l::(k (s.H[l]?,s.mb l)).log s
 |.rh k,s=>.h::(k s.H).log s
 |.wr w k,s=>k.log (s.put w)
 |.dyn o k,s=>match o with
  |some x=>(k x).log s
  |none=>[]
 |.need _ k,s=>k.log s
 |.alt b x y,s=>cond b (x.log s) (y.log s)
 |.out o kr kp,s=>match o with
  |some (.ret a,h)=>(kr a h).log s
  |some (.pan p,h)=>(kp p h).log s
  |none=>[]
end RM
instance:Monad RM where
 pure:=RM.ret
 bind:=RM.bind
def zv {α:Type} (o:Option α):RM α:=.dyn o .ret
def xb (t:Nat):RM Sl:=.rs t .ret
def vS (l:Nat):RM (Option (List AV)×Bool):=.rb l .ret
def rdH:RM za:=.rh .ret
def xE (w:W):RM Unit:=.wr w (.ret ())
def need (b:Bool):RM Unit:=.need b (.ret ())
def xq:AV->Bool
 |.pv _=>true
 |_=>false
def xr:AV->Bool
 |.slu ..=>true
 |_=>false
def za8:AV->Bool
 |.slu ..=>true
 |.agg cs=>cs.any xr
 |.tup ..=>true
 |_=>false
def wD:AV->Bool
 |.dead=>true
 |_=>false
def Z2:AV->Bool
 |.und=>true
 |_=>false
def wS:AV->Bool
 |.pv _=>true
 |.ptr ..=>true
 |_=>false
def zb:AV->Option PV
 |.pv p=>some p
 |_=>none
def vH:AV->AV
 |.slu _ sz xs=>.pv (.sl sz xs)
 |a=>a
def z9:AV->List AV
 |.pv p=>p.cells.map .pv
 |.agg cs=>cs
 |a=>[a]
def wG:AV->Bool
 |.pv p=>p.isCell
 |.slu ..=>true
 |.ptr ..=>true
 |.clo ..=>true
 |_=>false
def VD (cs:List AV):AV:=match cs.mapM zb with
 |some ps=>.pv (.agg ps)
 |none=>.agg cs
def yq:AV->Option (IntKind×Int)
 |.pv (.v (.int k n))=>some (k,n)
 |_=>none
def zf (K:IntKind):AV->Option Int
 |.pv (.v (.int k n))=>if k=K then some n else none
 |_=>none
def zY:AV->Option Bool
 |.pv (.v (.bool b))=>some b
 |_=>none
def zX:PV->Option (Nat×List PV)
 |.sl sz xs=>some (sz,xs)
 |_=>none
def YE:AV->Option (List PV)
 |.pv (.agg cs)=>some cs
 |_=>none
def Z5:AV->Option (List PV)
 |.pv (.tup ps)=>some ps
 |_=>none
def xC:AV->Option (Nat×PV)
 |.pv (.ifc t p)=>some (t,p)
 |_=>none
def QJ:AV->Option ByteArray
 |.pv (.v (.string s))=>some s
 |_=>none
def yC:AV->Option Bool
 |.pv (.v .nilIface)=>some true
 |.pv (.ifc _ _)=>some false
 |.pv (.sen _)=>some false
 |_=>none
def Qr:AV->Bool
 |.pv (.v .nilIface)=>true
 |_=>false
def vz:List PV->Option (List Int)
 |[]=>some []
 |.v (.int .u8 n)::r=>(vz r).map fun l=>n::l
 |_=>none
def zO (e sz:Nat):AV->Option (List PV)
 |.slu e' sz' xs=>if e' = e /\ sz' = sz then some xs else none
 |_=>none
def za9:AV->Option (List AV)
 |.agg cs=>some cs
 |_=>none
def wP (k n:Nat):AV->Option (AV×List PV)
 |.tup k' a ps=>if k' = k /\ ps.length=n then some (a,ps) else none
 |_=>none
def Qs (l o:Nat):AV->Bool
 |.ptr l' o' => decide (l' = l)&&decide (o' = o)
 |_=>false
section
variable (E:Env)
def ty (t:Nat):RM TI:=zv (find E.ti t)
def Wu (t:Nat):Value->Option AV
 |.int k n=>some (.pv (.v (.int k n)))
 |.bool b=>some (.pv (.v (.bool b)))
 |.string s=>some (.pv (.v (.string s)))
 |.nilFunc=>some (.pv (.v .nilFunc))
 |.nilIface=>some (.pv (.v .nilIface))
 |.slice none 0 0=>((find E.ti t).bind (·.el)).map fun x=>.slu x.1 x.2.1 []
 |_=>none
def varOf:Var->RM AV
 |.s t=>do let c ←xb t;if c.m then .fail else pure c.a
 |.c l o=>do let c ←vS l;if c.2 then .fail else zv (c.1.bind (·[o]?))
def YL (m:Bool) (a:AV):Var->RM Unit
 |.s t=>xE (.s t a none m)
 |.c l o=>xE (.c l o a m)
def Zi (t:Nat):Operand->RM AV
 |.const v=>zv (Wu E t v)
 |.global g=>match find E.glob g with
  |some p=>pure (.elp p 0)
  |none=>match find E.maps g with
   |some _=>pure (.gm g)
   |none=>.fail
 |.func f=>pure (.pv (.v (.func (.func f) #[] #[])))
 |.tmp _=>.fail
def rdv (t:Nat):Operand->RM AV
 |.tmp x=>do
  let c ←xb x
  match c.r with
  |none=>pure c.a
  |some (.whole v)=>varOf v
  |some (.elem ..)=>.fail
 |x=>Zi E t x
def Yf:Operand->RM Unit
 |.tmp x=>do
  let c ←xb x
  match c.r with
  |none=>match c.a with
   |.slu _ sz xs=>xE (.s x (.pv (.sl sz xs)) none false)
   |.agg cs=>xE (.s x (VD (cs.map vH)) none false)
   |_=>pure ()
  |some (.whole v)=>do
   let a ←varOf v
   match a with
   |.slu _ sz xs=>YL false (.pv (.sl sz xs)) v
   |_=>pure ()
  |some (.elem ..)=>.fail
 |_=>pure ()
def WR:AV->RM AV
 |.slu _ sz []=>pure (.pv (.sl sz []))
 |.slu ..=>.fail
 |.dead=>.fail
 |.tup ..=>.fail
 |.agg cs=>if cs.any xr then .fail else pure (.agg cs)
 |a=>pure a
def vI (t:Nat) (x:Operand):RM AV:=do
 Yf x
 let a ←rdv E t x
 WR a
def vf (t:Nat) (x:Operand):RM AV :=
 match x with
 |.tmp i=>do
  let c ←xb i
  match c.r with
  |none=>
   if za8 c.a then do
    xE (.s i .dead none false)
    pure c.a
   else if wD c.a then .fail else pure c.a
  |some _=>vI E t x
 |x=>Zi E t x
def Ki (x:Operand):RM AV:=do
 match x with
 |.tmp i=>do
  let c ←xb i
  match c.r with
  |some (.whole v)=>do
   let a ←varOf v
   match a with
   |.slu e sz xs=>do
    YL true .dead v
    pure (.slu e sz xs)
   |_=>.fail
  |_=>.fail
 |_=>.fail
def ZO:List (Operand×Nat)->RM (List AV)
 |[]=>pure []
 |(x,t)::r=>do
  Yf x
  let as0 ←ZO r
  let a ←rdv E t x
  let a ←WR a
  pure (a::as0)
def takeA (t:Nat) (x:Operand):RM AV:=do
 let a ←(match x with
  |.tmp q=>do
   let g ←xb q
   match g.r with
   |some (.whole _)=>Ki x
   |_=>vf E t x
  |x=>vf E t x)
 match a with
 |.slu e sz xs=>pure (.slu e sz xs)
 |_=>.fail
def Vh:Nat->List (Operand×Nat)->RM (List AV)
 |_,[]=>pure []
 |0,(x,t)::r=>do
  let as0 ←ZO E r
  let a ←takeA E t x
  pure (a::as0)
 |j+1,(x,t)::r=>do
  Yf x
  let as0 ←Vh j r
  let a ←rdv E t x
  let a ←WR a
  pure (a::as0)
def WU:Operand->Option Nat
 |.func n=>find E.ow n
 |_=>none
def Kr (f:Operand) (args:List (Operand×Nat)):RM (List AV):=match WU E f with
 |some j=>Vh E j args
 |none=>ZO E args
def WO (t:Nat) (x:Operand):RM (Nat×List PV):=do
 match ←rdv E t x with
 |.pv p=>zv (zX p)
 |.slu _ sz xs=>pure (sz,xs)
 |_=>.fail
def intOf (t:Nat) (x:Operand):RM (IntKind×Int):=do
 let a ←rdv E t x
 zv (yq a)
def yN (op:BinOp) (b:Int):Bool :=
 match op with
 |.shl=>decide (0<=b)
 |.shr=>decide (0<=b)
 |.quo=>b != 0
 |.rem=>b != 0
 |_=>true
def arith (op:BinOp) (k:IntKind) (a b:Int):Option Int :=
 match op with
 |.shl=>some (k.wrap (a*2^(min b.toNat k.bits)))
 |.shr=>some (a.fdiv (2^(min b.toNat k.bits)))
 |.add=>some (k.wrap (a+b))
 |.sub=>some (k.wrap (a-b))
 |.mul=>some (k.wrap (a*b))
 |.quo=>some (k.wrap (a.tdiv b))
 |.rem=>some (a.tmod b)
 |.and=>some (k.wrap (BitVec.ofInt k.bits a &&& BitVec.ofInt k.bits b).toNat)
 |.or=>some (k.wrap (BitVec.ofInt k.bits a ||| BitVec.ofInt k.bits b).toNat)
 |.xor=>some (k.wrap (BitVec.ofInt k.bits a ^^^ BitVec.ofInt k.bits b).toNat)
 |.andNot=>some (k.wrap (BitVec.ofInt k.bits a &&& ~~~BitVec.ofInt k.bits b).toNat)
 |_=>none
def Jm (op:BinOp) (a b:Int):Option Bool :=
 match op with
 |.eql=>some (a==b)
 |.neq=>some (a != b)
 |.lss=>some (decide (a<b))
 |.leq=>some (decide (a<=b))
 |.gtr=>some (decide (a>b))
 |.geq=>some (decide (a≥b))
 |_=>none
def WK:BinOp->Bool
 |.shl=>true
 |.shr=>true
 |_=>false
def Y5 (op:BinOp) (k:IntKind) (a:Int) (k':IntKind) (b:Int):Option Value :=
 match op with
 |.shl=>if b<0 then none else some (.int k (k.wrap (a*2^(min b.toNat k.bits))))
 |.shr=>if b<0 then none else some (.int k (a.fdiv (2^(min b.toNat k.bits))))
 |op=>if k=k' then
   match op with
   |.add=>some (.int k (k.wrap (a+b)))
   |.sub=>some (.int k (k.wrap (a-b)))
   |.mul=>some (.int k (k.wrap (a*b)))
   |.quo=>if b=0 then none else some (.int k (k.wrap (a.tdiv b)))
   |.rem=>if b=0 then none else some (.int k (a.tmod b))
   |.and=>some (.int k (k.wrap (BitVec.ofInt k.bits a &&& BitVec.ofInt k.bits b).toNat))
   |.or=>some (.int k (k.wrap (BitVec.ofInt k.bits a ||| BitVec.ofInt k.bits b).toNat))
   |.xor=>some (.int k (k.wrap (BitVec.ofInt k.bits a ^^^ BitVec.ofInt k.bits b).toNat))
   |.andNot=>some (.int k (k.wrap (BitVec.ofInt k.bits a &&& ~~~BitVec.ofInt k.bits b).toNat))
   |.eql=>some (.bool (a==b))
   |.neq=>some (.bool (a != b))
   |.lss=>some (.bool (decide (a<b)))
   |.leq=>some (.bool (decide (a<=b)))
   |.gtr=>some (.bool (decide (a>b)))
   |.geq=>some (.bool (decide (a≥b)))
   |_=>none
  else none
def xd:List Bool->List PV->List PV->Option Bool
 |[],[],[]=>some true
 |false::t,.v (.int k a)::r,.v (.int k' b)::q=>if k=k' then (xd t r q).map fun z=>(a==b)&&z else none
 |true::t,.v (.bool a)::r,.v (.bool b)::q=>(xd t r q).map fun z=>(a==b)&&z
 |_,_,_=>none
def Y3:AV->Option (List PV)
 |.pv (.agg cs)=>some cs
 |.agg cs=>cs.mapM zb
 |_=>none
def yP {α:Type} (l:List α) (o:Nat) (m:List α):List α:=l.take o++m++l.drop (o+m.length)
def WE (size:Nat->Option (Nat×Nat)) (cells:List AV):List (Nat×List AV)->Option (List AV)
 |[]=>some cells
 |(i,cs)::r=>match size i with
  |some (o,n)=>if cs.length=n/\o+n<=cells.length then WE size (yP cells o cs) r else none
  |none=>none
def QR:List AV->List Nat
 |[]=>[]
 |.ptr l _::r=>l::QR r
 |_::r=>QR r
def zj5:AV->List Nat
 |.ptr l _=>[l]
 |.clo _ x y=>QR x++QR y
 |_=>[]
def qd:List AV->List Nat
 |[]=>[]
 |a::r=>zj5 a++qd r
def QY (ls:List Nat):AV->AV
 |.ptr l o=>.ptr (ls.idxOf l) o
 |a=>a
def ZH (ls:List Nat):AV->AV
 |.ptr l o=>.ptr (ls.idxOf l) o
 |.clo f x y=>.clo f (x.map (QY ls)) (y.map (QY ls))
 |a=>a
def Kq (ls:List Nat):AV->AV
 |.ptr i o=>.ptr ((ls[i]?).getD 0) o
 |a=>a
def Vf (ls:List Nat):AV->AV
 |.ptr i o=>.ptr ((ls[i]?).getD 0) o
 |.clo f x y=>.clo f (x.map (Kq ls)) (y.map (Kq ls))
 |a=>a
def okD (m:Nat->Bool):AV->Bool
 |.pv _=>true
 |.ptr l _=>m l
 |_=>false
def vP (m:Nat->Bool):AV->Bool
 |.pv _=>true
 |.slu ..=>true
 |.dead=>true
 |.ptr l _=>m l
 |.clo _ x y=>x.all (okD m)&&y.all (okD m)
 |_=>false
def Xx (m:Nat->Bool):AV->Bool
 |.pv _=>true
 |.slu ..=>true
 |.ptr l _=>m l
 |.clo _ x y=>x.all (okD m)&&y.all (okD m)
 |_=>false
def nodupB:List Nat->Bool
 |[]=>true
 |l::r=>!r.contains l&&nodupB r
def Wk:List Nat->RM (List (List AV))
 |[]=>pure []
 |l::r=>do
  let c ←vS l
  let cs ←zv c.1
  let cr ←Wk r
  pure (cs::cr)
def WY:Nat->List Nat->List Nat->RM (List Nat)
 |0,_,ls=>pure ls
 |_,[],ls=>pure ls
 |n+1,l::r,ls=>if ls.contains l then WY n r ls else do
  let c ←vS l
  let cs ←zv c.1
  WY n (r++qd cs) (ls++[l])
def XU:List Nat->za->RM Unit
 |l::r,cs::h=>do xE (.b l cs);XU r h
 |_,_=>pure ()
variable (cf:Nat->List AV->za->Option (Out×za))
abbrev Pn:=Option PV
def done (d:Option Nat) (a:AV):RM Pn :=
 match d with
 |some t=>do xE (.s t a none true);pure none
 |none=>pure none
def Z0 (d:Option Nat) (r:Ref):RM Pn :=
 match d with
 |some t=>do xE (.s t .dead (some r) true);pure none
 |none=>pure none
def JZ (d:Option Nat):Out->RM Pn
 |.ret a=>done d a
 |.pan p=>pure (some p)
def zb0:AV->AV->Bool
 |.ptr l o,.ptr l' o' => decide (l=l')&&decide (o=o')
 |_,_=>false
def YK:List AV->List AV->Bool
 |[],[]=>true
 |x::r,y::q=>zb0 x y&&YK r q
 |_,_=>false
def zbZ:Fn->Fn->Bool
 |.func f,.func g=>decide (f=g)
 |_,_=>false
def ZI (f:Fn) (x y:List AV):AV->Bool
 |.clo f' x' y' => zbZ f f'&&YK x x'&&YK y y'
 |_=>false
def Jf (old new:AV):RM AV :=
 match old with
 |.pv _=>do
  let p ←zv (zb new)
  pure (.pv p)
 |.slu e sz _=>do
  let xs ←zv (zO e sz new)
  pure (.slu e sz xs)
 |.ptr l o=>do
  need (Qs l o new)
  pure (.ptr l o)
 |.clo f x y=>do
  need (ZI f x y new)
  pure (.clo f x y)
 |.dead=>do
  need (wD new)
  pure .dead
 |_=>.fail
def VZ:List AV->Nat->List AV->RM (List AV)
 |[],j,new=>do
  need (decide (new.length=j))
  pure []
 |c::old,j,new=>do
  let n ←zv (new[j]?)
  let c' ←Jf c n
  let r ←VZ old (j+1) new
  pure (c'::r)
def Wr:za->Nat->za->RM za
 |[],j,new=>do
  need (decide (new.length=j))
  pure []
 |c::old,j,new=>do
  let n ←zv (new[j]?)
  let c' ←VZ c 0 n
  let r ←Wr old (j+1) new
  pure (c'::r)
def V0:List (Option (Nat×Nat))->Nat->List AV->RM (List AV)
 |[],j,cs=>do
  need (decide (cs.length=j))
  pure []
 |p::r,j,cs=>do
  let c ←zv (cs[j]?)
  let c' ←(match p with
   |some x=>do
    let xs ←zv (zO x.1 x.2 c)
    pure (AV.slu x.1 x.2 xs)
   |none=>do
    let p ←zv (zb c)
    pure (AV.pv p))
  let cr ←V0 r (j+1) cs
  pure (c'::cr)
def Jh:RP->AV->RM AV
 |.u e sz,a=>do
  let xs ←zv (zO e sz a)
  pure (.slu e sz xs)
 |.a l,a=>do
  let cs ←zv (za9 a)
  let cs' ←V0 l 0 cs
  pure (.agg cs')
def r7 (f:Nat) (a:AV):RM AV :=
 match find E.uq f with
 |some (.s r)=>Jh r a
 |some (.t k n r)=>do
  let q ←zv (wP k n a)
  let b ←Jh r q.1
  pure (.tup k b q.2)
 |none=>do
  let p ←zv (zb a)
  pure (.pv p)
def PV.bare0:PV->Bool
 |.v _=>true
 |_=>false
def PV.bare:PV->Bool
 |.v _=>true
 |.agg cs=>cs.all PV.bare0
 |.ifc _ (.v _)=>true
 |.ifc _ (.agg cs)=>cs.all PV.bare0
 |_=>false
def Wj:List PV->Bool
 |[]=>false
 |_::r=>r.all PV.bare
def KX (f:Operand) (args:List (Operand×Nat)):Option (Nat×Nat) :=
 match f,args with
 |.func n,[(.tmp i,_)]=>match find E.bor n with
  |some _=>some (n,i)
  |none=>none
 |_,_=>none
def rk (d:Option Nat) (a:AV):RM Pn:=do
 let ps ←zv (Z5 a)
 need (Wj ps)
 done d (.tup 0 .dead ps)
def rj (p:PV):RM Pn:=do
 need p.bare
 pure (some p)
def QZ (d:Option Nat) (f:Nat) (a:AV):RM Pn:=do
 let a ←r7 E f a
 done d a
def wZ (d:Option Nat) (f:Nat) (args:List AV):RM Pn :=
 if args.all xq then .out (cf f args []) (fun a _=>QZ E d f a) (fun p _=>pure (some p))
 else do
  let ls ←WY 64 (qd args) []
  let bs ←Wk ls
  if args.all (Xx ls.contains)&&bs.all (fun cs=>cs.all (vP ls.contains))&&nodupB ls then
   .out (cf f (args.map (ZH ls)) (bs.map fun cs=>cs.map (ZH ls)))
    (fun a h=>do
     let h ←Wr (bs.map fun cs=>cs.map (ZH ls)) 0 h
     need (h.all fun cs=>cs.all (vP fun i=>decide (i<ls.length)))
     XU ls (h.map fun cs=>cs.map (Vf ls))
     QZ E d f a)
    (fun p h=>do
     let h ←Wr (bs.map fun cs=>cs.map (ZH ls)) 0 h
     need (h.all fun cs=>cs.all (vP fun i=>decide (i<ls.length)))
     XU ls (h.map fun cs=>cs.map (Vf ls))
     pure (some p))
  else .fail
def Yq (d:Option Nat) (n:Nat):AV->RM Pn
 |.slu _ sz xs=>.out (cf n [.pv (.sl sz xs)] []) (fun a _=>rk d a) (fun p _=>rj p)
 |.pv p=>wZ E cf d n [.pv p]
 |_=>.fail
def Y7 (d:Option Nat) (n i:Nat):RM Pn:=do
 let c ←xb i
 match c.r with
 |none=>Yq E cf d n c.a
 |some (.whole (.s t))=>do
  let c ←xb t
  if c.m then .fail else Yq E cf d n c.a
 |_=>.fail
def ye (n bytes:Nat):Bool:=decide (n*bytes<=140737488355328)&&decide (n<=140737488355328)
def Ky (e:Nat):RM PV:=do
 let i ←ty E e
 let ps ←zv (i.zero.mapM fun a=>zb (vH a))
 if i.agg then pure (.agg ps) else match ps with
  |[p]=>pure p
  |_=>.fail
def VE (d:Option Nat) (t:Nat) (x:Operand) (e sz bytes:Nat) (ys:List PV):RM Pn:=do
 match ←rdv E t x with
 |.slu e' sz' xs=>do
  need (decide (e' = e)&&decide (sz' = sz)&&ye (xs.length+ys.length) bytes)
  match x with
  |.tmp i=>do
   let c ←xb i
   match c.r with
   |none=>xE (.s i .dead none true)
   |some (.whole v)=>YL true .dead v
   |_=>.fail
   done d (.slu e sz (xs++ys))
  |_=>done d (.slu e sz (xs++ys))
 |_=>.fail
def vL (d:Option Nat) (b:Builtin) (args:List (Operand×Nat)):RM Pn :=
 match b,args with
 |.len,[(x,t)]=>do
  let i ←ty E t
  let _ ←zv i.el
  let l ←WO E t x
  done d (.pv (.v (.int .i64 l.2.length)))
 |.append,[(x,t),(y,u)]=>do
  let i ←ty E t
  let el ←zv i.el
  if t=u then do
   let l ←WO E u y
   need (decide (l.1=el.2.1))
   VE E d t x el.1 el.2.1 el.2.2 l.2
  else do
   let j ←ty E u
   need j.int.isSome
   let n ←intOf E u y
   need (decide (0<=n.2)&&decide (n.2<=140737488355328))
   let z ←Ky E el.1
   need (decide (z.cells.length=el.2.1))
   VE E d t x el.1 el.2.1 el.2.2 (List.replicate n.2.toNat z)
 |.max,[(x,t),(y,u)]=>do
  let a ←intOf E t x
  let b ←intOf E u y
  done d (.pv (.v (.int a.1 (if b.2>a.2 then b.2 else a.2))))
 |.min,[(x,t),(y,u)]=>do
  let a ←intOf E t x
  let b ←intOf E u y
  done d (.pv (.v (.int a.1 (if b.2<a.2 then b.2 else a.2))))
 |.copy,[(.tmp i,t),(y,u)]=>do
  let l ←WO E u y
  let c ←xb i
  match c.r with
  |some (.whole v)=>do
   match ←varOf v with
   |.slu e sz xs=>do
    let i ←ty E t
    let el ←zv i.el
    need (decide (l.1=1)&&decide (sz=1)&&decide (el.1=e)&&decide (el.2.1=1))
    YL false (.slu e sz (l.2.take xs.length++xs.drop l.2.length)) v
    done d (.pv (.v (.int .i64 (min l.2.length xs.length:Nat))))
   |_=>.fail
  |_=>.fail
 |_,_=>.fail
def XV (xs:List Operand) (ts:List Nat):Option (List (Operand×Nat)):=if xs.length=ts.length then some (xs.zip ts) else none
def ZS (x:PV) (off n:Nat) (agg:Bool):RM AV :=
 if agg then do
  need (decide (off+n<=x.cells.length))
  pure (.pv (.agg ((x.cells.drop off).take n)))
 else do
  let p ←zv (x.cells[off]?)
  pure (.pv p)
def zb7 (l o:Nat):Option AV->RM Unit
 |some (.slu _ sz xs)=>xE (.c l o (.pv (.sl sz xs)) false)
 |_=>pure ()
def W7 (l:Nat):Nat->Nat->RM Unit
 |_,0=>pure ()
 |o,n+1=>do
  let c ←vS l
  let cs ←zv c.1
  zb7 l o (cs[o]?)
  W7 l (o+1) n
def zcv (tk:List (Nat×Nat×Nat)) (d:Option Nat) (t:Nat):Operand->Bool
 |.tmp x=>match d with
  |some d=>tk.any fun q=>q.1==d&&q.2.1==t&&q.2.2==x
  |none=>false
 |_=>false
def zaP (d:Option Nat) (i:TI) (x:Operand):RM Pn:=do
 let g ←(match x with|.tmp t=>xb t|x=>do let a ←Zi E 0 x;pure (⟨a,none,false⟩:Sl))
 match g.r with
 |some (.elem v sz j off)=>do
  match ←varOf v with
  |.slu _ sz' xs=>do
   need (decide (sz' = sz))
   let p ←zv (xs[j]?)
   let a ←ZS p off i.size i.agg
   done d a
  |.pv (.sl sz' xs)=>do
   need (decide (sz' = sz))
   let p ←zv (xs[j]?)
   let a ←ZS p off i.size i.agg
   done d a
  |_=>.fail
 |some (.whole _)=>.fail
 |none=>match g.a with
  |.ptr l off=>
   if i.agg then do
    W7 l off i.size
    let c ←vS l
    let cs ←zv c.1
    need (decide (off+i.size<=cs.length)&&!((cs.drop off).take i.size).any wD&&!((cs.drop off).take i.size).any xr)
    done d (VD ((cs.drop off).take i.size))
   else do
    let c ←vS l
    let cs ←zv c.1
    match cs[off]? with
    |some (.slu ..)=>if c.2 then .fail else Z0 d (.whole (.c l off))
    |some .dead=>.fail
    |some a=>done d a
    |none=>.fail
  |.elp p off=>do
   let a ←ZS p off i.size i.agg
   done d a
  |.gm g=>if i.agg then .fail else done d (.mp g)
  |_=>.fail
def loadT (d:Option Nat) (i:TI) (x:Operand):RM Pn:=do
 match x with
 |.tmp q=>do
  let g ←xb q
  match g.r,g.a with
  |none,.ptr l off=>do
   let c ←vS l
   let cs ←zv c.1
   need (i.agg&&decide (off+i.size<=cs.length)&&!((cs.drop off).take i.size).any wD)
   xE (.b l (yP cs off (List.replicate i.size .dead)))
   done d (.agg ((cs.drop off).take i.size))
  |_,_=>.fail
 |_=>.fail
def QN (p:PV):Nat->Nat->RM (List AV)
 |_,0=>pure []
 |j,n+1=>do
  let q ←zv (p.cells[j]?)
  let r ←QN p (j+1) n
  pure (.pv q::r)
def partsOf (size:Nat) (agg:Bool):AV->RM (List AV)
 |.pv p=>if agg then do
   need (decide (p.cells.length=size))
   QN p 0 size
  else do
   need (p.isCell&&decide (size=1))
   pure [.pv p]
 |a=>do
  need (decide ((z9 a).length=size))
  pure (z9 a)
def QM:List (AV×Nat)->RM (List (List AV))
 |[]=>pure []
 |(a,t)::r=>do
  let i ←ty E t
  let cs ←partsOf i.size i.agg a
  let rs ←QM r
  pure (cs::rs)
def setCells (p:PV) (off:Nat) (ps:List PV):Option PV:=match p with
 |.agg qs=>some (.agg (yP qs off ps))
 |_=>match ps with
  |[q]=>some q
  |_=>none
def QS (l:Nat):Nat->List AV->RM Unit
 |_,[]=>pure ()
 |o,a::r=>do xE (.c l o a true);QS l (o+1) r
def zbx (l o:Nat) (cs:List AV):List AV->RM Unit
 |[]=>xE (.b l cs)
 |a::r=>QS l o (a::r)
def JM (x:Operand):RM Bool:=do
 match x with
 |.tmp q=>do
  let g ←xb q
  match g.r with
  |some (.whole _)=>pure true
  |_=>pure false
 |_=>pure false
def qF (q:Bool) (t:Nat) (x:Operand):RM AV:=match q with
 |true=>do
  let b ←JM x
  if b then Ki x else vf E t x
 |false=>vf E t x
def JL (x:Operand):RM Bool:=do
 match x with
 |.tmp q=>do
  let g ←xb q
  match g.r with
  |some (.elem ..)=>pure true
  |_=>pure false
 |_=>pure false
def qG (el:Bool) (t:Nat) (y:Operand):RM AV:=match el with
 |true=>vI E t y
 |false=>vf E t y
def zcd (i:TI) (t:Nat) (x y:Operand):RM Pn:=do
 let el ←JL x
 let a ←qG E el t y
 let as0 ←partsOf i.size i.agg a
 need (as0.all wG)
 match x with
 |.tmp q=>do
  let g ←xb q
  match g.r with
  |none=>match g.a with
   |.ptr l off=>do
    let c ←vS l
    let cs ←zv c.1
    need (decide (off+i.size<=cs.length)&&true)
    zbx l off cs as0
    pure none
   |_=>.fail
  |some (.elem v sz j off)=>do
   match ←varOf v with
   |.slu e sz' xs=>do
    need (decide (sz' = sz))
    let p ←zv (xs[j]?)
    need (decide (off+i.size<=p.cells.length))
    let ps ←zv (as0.mapM zb)
    let p' ←zv (setCells p off ps)
    YL false (.slu e sz (xs.set j p')) v
    pure none
   |_=>.fail
  |_=>.fail
 |_=>.fail
def Qk (i:TI) (f:Nat):RM (Nat×TI):=do
 let q ←zv (i.fields[f]?)
 let k ←ty E q.2
 pure (q.1,k)
def J8 (n:Int):Nat->Nat->RM Nat
 |_,0=>.fail
 |i,k+1=>.alt ((i:Int)==n) (.ret i) (J8 n (i+1) k)
def J4 (i:TI) (j:Nat):Nat:=match i.arr with
 |some _=>i.ae
 |none=>((i.fields[j]?).map (·.2)).getD 0
def XC (i:TI) (j:Nat):Option (Nat×Nat):=match i.arr with
 |some x=>some (j*x.2,x.2)
 |none=>(i.fields[j]?).bind fun f=>(find E.ti f.2).map fun k=>(f.1,k.size)
def gV (d:Option Nat) (op:BinOp) (a b:AV):RM Pn:=do
 let x ←zv (QJ a)
 let y ←zv (QJ b)
 match op with
 |.eql=>done d (.pv (.v (.bool (x.toList==y.toList))))
 |.neq=>done d (.pv (.v (.bool (!(x.toList==y.toList)))))
 |_=>.fail
def isK:Operand->Bool
 |.const _=>true
 |_=>false
def gU (d:Option Nat) (op:BinOp) (y:Operand) (a b:AV):RM Pn:=do
 need (Qr b&&isK y)
 let z ←zv (yC a)
 match op with
 |.eql=>done d (.pv (.v (.bool z)))
 |.neq=>done d (.pv (.v (.bool !z)))
 |_=>.fail
def J7 (n:Int):List (Int×Nat)->RM Nat
 |[]=>.fail
 |q::l=>.alt (q.1==n) (.ret q.2) (J7 n l)
def gS (d:Option Nat) (op:BinOp) (a b:AV):RM Pn:=do
 let x ←zv (zY a)
 let y ←zv (zY b)
 match op with
 |.eql=>done d (.pv (.v (.bool (x==y))))
 |.neq=>done d (.pv (.v (.bool (x != y))))
 |_=>.fail
def gT (d:Option Nat) (ok:Bool) (tags:List Bool) (op:BinOp) (a b:AV):RM Pn:=do
 need ok
 let cs ←zv (Y3 a)
 let ds ←zv (Y3 b)
 let z ←zv (xd tags cs ds)
 match op with
 |.eql=>done d (.pv (.v (.bool z)))
 |.neq=>done d (.pv (.v (.bool !z)))
 |_=>.fail
def jV (d:Option Nat) (y i k:Nat) (b:AV) (ps:List PV):RM Pn :=
 if i=k then if wD b then done d .dead else do
  xE (.s y (.tup k .dead ps) none false)
  done d b
 else do
  let p ←zv (ps[i]?)
  done d (.pv p)
def jU (d:Option Nat) (x:Operand) (i:Nat):RM Pn:=do
 match x with
 |.tmp y=>do
  let c ←xb y
  match c.r,c.a with
  |none,.tup k b ps=>jV d y i k b ps
  |_,_=>do
   let a ←rdv E 0 x
   let ps ←zv (Z5 a)
   let p ←zv (ps[i]?)
   done d (.pv p)
 |_=>.fail
def zgY:Operand->RM Bool
 |.tmp i=>do
  let c ←xb i
  pure (c.r.isNone&&wD c.a)
 |_=>pure false
def act (pre:Option Nat) (o:Oper):RM Pn :=
 match o.op with
 |.move x=>match x with
  |.tmp t=>do
   let c ←xb t
   match c.r with
   |some r=>Z0 o.dst r
   |none=>match c.a with
    |.slu ..=>if c.m then .fail else Z0 o.dst (.whole (.s t))
    |.agg cs=>if cs.any xr then .fail else done o.dst (.agg cs)
    |.tup ..=>do
     let a ←vf E o.type (.tmp t)
     done o.dst a
    |a=>done o.dst a
  |x=>do
   let a ←Zi E o.type x
   done o.dst a
 |.assign x=>do
  let q ←zgY x
  if q then done o.dst .dead else do
   let a ←qF E (zcv E.tk o.dst o.type x) o.type x
   done o.dst a
 |.pick c a b=>do
  let q ←rdv E o.type c
  let t ←zv (zY q)
  let g ←rdv E o.type a
  let h ←rdv E o.type b
  let i ←ty E o.type
  if Z2 g then do
   need ((!t)&&xq h)
   done o.dst h
  else if Z2 h then do
   need (t&&xq g)
   done o.dst g
  else if i.bool then do
   let x ←zv (zY g)
   let y ←zv (zY h)
   done o.dst (.pv (.v (.bool (bif t then x else y))))
  else if xq g&&xq h then .alt t (done o.dst g) (done o.dst h)
  else .fail
 |.alloc t=>do
  let i ←ty E t
  match pre with
  |some l=>do
   xE (.b l i.zero)
   done o.dst (.ptr l 0)
  |none=>do
   let H ←rdH
   xE (.new i.zero)
   done o.dst (.ptr H.length 0)
 |.box t x=>do
  let i ←ty E t
  let a ←vf E t x
  let as0 ←partsOf i.size i.agg a
  need (as0.all wG)
  match pre with
  |some l=>do
   xE (.b l as0)
   done o.dst (.ptr l 0)
  |none=>do
   let H ←rdH
   xE (.new as0)
   done o.dst (.ptr H.length 0)
 |.build t parts=>do
  let i ←ty E t
  need (i.agg&&(i.arr.isSome||(i.fields.all fun x=>(find E.ti x.2).isSome)))
  let as0 ←(match parts.toList with
   |[p]=>do
    let a ←vf E (J4 i p.1) p.2
    pure [a]
   |ps=>ZO E (ps.map fun p=>(p.2,J4 i p.1)))
  let css ←QM E (as0.zip (parts.toList.map fun p=>J4 i p.1))
  need (css.all fun cs=>cs.all wG)
  let r ←zv (WE (XC E i) i.zero ((parts.toList.map (·.1)).zip css))
  done o.dst (.agg r)
 |.buildSlice t n parts=>do
  let i ←ty E t
  let el ←zv i.el
  need (decide (n*el.2.1<=16777216)&&decide (parts.toList.map (·.1)=List.range n))
  let as0 ←ZO E (parts.toList.map fun p=>(p.2,el.1))
  let ps ←zv (as0.mapM zb)
  need (ps.all fun p=>decide (p.cells.length=el.2.1)&&p.cells.all PV.isCell)
  done o.dst (.slu el.1 el.2.1 ps)
 |.load t x=>do
  let i ←ty E t
  if zcv E.tk o.dst t x then loadT o.dst i x else zaP E o.dst i x
 |.store t x y=>do
  need o.dst.isNone
  let i ←ty E t
  zcd E i t x y
 |.nilCheck x=>match x with
  |.tmp t=>do
   let c ←xb t
   match c.r,c.a with
   |none,.ptr l off=>done o.dst (.ptr l off)
   |none,.elp p off=>done o.dst (.elp p off)
   |_,_=>.fail
  |_=>.fail
 |.fieldAddr t x f=>do
  let i ←ty E t
  let q ←Qk E i f
  need (decide (0<q.2.size))
  match x with
  |.tmp y=>do
   let c ←xb y
   match c.r with
   |none=>match c.a with
    |.ptr l p=>done o.dst (.ptr l (p+q.1))
    |.elp x p=>done o.dst (.elp x (p+q.1))
    |_=>.fail
   |some (.elem v sz j p)=>do
    let _ ←varOf v
    Z0 o.dst (.elem v sz j (p+q.1))
   |_=>.fail
  |_=>.fail
 |.field t x f=>do
  let i ←ty E t
  let q ←Qk E i f
  let r ←rdv E t x
  let cs ←zv (YE r)
  let a ←ZS (.agg cs) q.1 q.2.size q.2.agg
  done o.dst a
 |.indexAddr t x y=>do
  let i ←ty E t
  let n ←intOf E 3 y
  match i.arr with
  |some (len,esz)=>do
   match ←rdv E t x with
   |.elp p off=>do
    need (decide (0<=n.2)&&decide (n.2<len))
    done o.dst (.elp p (off+n.2.toNat*esz))
   |.ptr l off=>do
    need (decide (0<=n.2)&&decide (n.2<len))
    let j ←J8 n.2 0 len
    done o.dst (.ptr l (off+j*esz))
   |_=>.fail
  |none=>do
   let el ←zv i.el
   match x with
   |.tmp z=>do
    let c ←xb z
    match c.r with
    |some (.whole v)=>do
     match ←varOf v with
     |.slu _ sz xs=>do
      need (decide (sz=el.2.1)&&decide (0<=n.2)&&decide (n.2<xs.length))
      Z0 o.dst (.elem v sz n.2.toNat 0)
     |.pv q=>do
      let l ←zv (zX q)
      need (decide (l.1=el.2.1)&&decide (0<=n.2)&&decide (n.2<l.2.length))
      let p ←zv (l.2[n.2.toNat]?)
      done o.dst (.elp p 0)
     |_=>.fail
    |some _=>.fail
    |none=>do
     Yf x
     match ←rdv E t x with
     |.pv q=>do
      let l ←zv (zX q)
      need (decide (l.1=el.2.1)&&decide (0<=n.2)&&decide (n.2<l.2.length))
      let p ←zv (l.2[n.2.toNat]?)
      done o.dst (.elp p 0)
     |_=>.fail
   |_=>.fail
 |.binOp op t x y u=>do
  let a ←rdv E t x
  let b ←rdv E u y
  let i ←ty E t
  match i.int with
  |some k=>do
   let j ←ty E u
   let k' ←zv j.int
   need (decide (k=k')||WK op)
   let m ←zv (zf k a)
   let n ←zv (zf k' b)
   need (yN op n)
   match arith op k m n,Jm op m n with
   |some z,_=>done o.dst (.pv (.v (.int k z)))
   |none,some z=>done o.dst (.pv (.v (.bool z)))
   |none,none=>.fail
  |none=>if i.bool then gS o.dst op a b else if i.str then gV o.dst op a b else if i.ifc then gU o.dst op y a b else gT o.dst i.eq i.tags op a b
 |.unOp op t x=>do
  let a ←rdv E t x
  match op with
  |.not=>do
   let b ←zv (zY a)
   done o.dst (.pv (.v (.bool !b)))
  |.neg=>do
   let q ←zv (yq a)
   done o.dst (.pv (.v (.int q.1 (q.1.wrap (0-q.2)))))
  |.xor=>do
   let q ←zv (yq a)
   done o.dst (.pv (.v (.int q.1 (q.1.wrap (BitVec.ofInt q.1.bits (if q.1.signed then -1 else q.1.max) ^^^ BitVec.ofInt q.1.bits q.2).toNat))))
  |_=>.fail
 |.convert t u x=>do
  let _ ←ty E t
  let i ←ty E u
  if i.str then do
   let j ←ty E t
   let el ←zv j.el
   let e ←ty E el.1
   need (decide (e.int=some .u8))
   match ←vI E t x with
   |.pv p=>do
    let l ←zv (zX p)
    need (decide (l.1=1))
    let ns ←zv (vz l.2)
    done o.dst (.pv (.v (.string (strOfNums ns))))
   |_=>.fail
  else do
  let k ←zv i.int
  let n ←intOf E t x
  done o.dst (.pv (.v (.int k (k.wrap n.2))))
 |.extract x i=>jU E o.dst x i
 |.makeFunc fn first captured=>do
  let fs ←ZO E (first.toList.map fun x=>(x,0))
  let cs ←ZO E (captured.toList.map fun x=>(x,0))
  if fs.isEmpty&&cs.isEmpty then done o.dst (.pv (.v (.func fn #[] #[])))
  else if fs.all wS&&cs.all wS then done o.dst (.clo fn fs cs)
  else .fail
 |.makeSlice t x y=>do
  let i ←ty E t
  let el ←zv i.el
  let n ←intOf E 3 x
  let m ←intOf E 3 y
  need (decide (0<=n.2)&&decide (n.2<=m.2)&&decide (m.2<=140737488355328)&&ye m.2.toNat el.2.2)
  let z ←Ky E el.1
  need (decide (z.cells.length=el.2.1))
  done o.dst (.slu el.1 el.2.1 (List.replicate n.2.toNat z))
 |.slice t x lo hi none=>do
  let i ←ty E t
  let el ←zv i.el
  match ←vI E t x with
  |.pv p=>do
   let q ←zv (zX p)
   need (decide (q.1=el.2.1))
   let h ←(match hi with|some y=>do let n ←intOf E 3 y;pure n.2|none=>pure (q.2.length:Int))
   let l ←(match lo with|some y=>do let n ←intOf E 3 y;pure n.2|none=>pure (0:Int))
   need (decide (0<=l)&&decide (l<=h)&&decide (h<=q.2.length))
   done o.dst (.pv (.sl q.1 ((q.2.take h.toNat).drop l.toNat)))
  |_=>.fail
 |.lookup t x y false=>do
  match ←rdv E t x with
  |.mp g=>do
   let n ←intOf E 3 y
   let l ←zv (find E.maps g)
   need (decide (l.1=t)&&decide (n.1=.i64))
   let f ←J7 n.2 l.2
   done o.dst (.pv (.v (.func (.func f) #[] #[])))
  |_=>.fail
 |.makeInterface t x=>do
  let i ←ty E t
  need i.agg
  match ←vI E t x with
  |.pv p=>done o.dst (.pv (.ifc t p))
  |_=>.fail
 |.typeAssert x t u true=>do
  let i ←ty E u
  need i.agg
  match ←vI E t x with
  |.pv p=>do
   let q ←zv (xC (.pv p))
   need (decide (q.1=u))
   done o.dst (.pv (.tup [q.2,.v (.bool true)]))
  |_=>.fail
 |.panic x=>do
  let a ←rdv E o.type x
  let q ←zv (xC a)
  pure (some (.ifc q.1 q.2))
 |.call c=>do
  let args ←zv (XV c.args.toList c.argTypes.toList)
  match c.callee with
  |.builtin b=>vL E o.dst b args
  |.value f=>match KX E f args with
   |some q=>Y7 E cf o.dst q.1 q.2
   |none=>do
    let as0 ←Kr E f args
    match ←rdv E 0 f with
    |.pv (.v (.func (.func n) _ _))=>wZ E cf o.dst n as0
    |.clo (.func n) first captured=>wZ E cf o.dst n (first++as0++captured)
    |_=>.fail
  |_=>.fail
 |_=>.fail
end
inductive Ex where
 |normal
 |exit (id:Nat)
 |ret
 |pan (p:PV)
structure St where
 sl:Nat->AV
 H:za
def St.start (s:St):RS:=⟨fun t=>⟨s.sl t,none,false⟩,s.H,fun _=>false⟩
def RS.stop (s:RS):St:=⟨fun t=>(s.sl t).a,s.H⟩
section
variable (E:Env) (cf:Nat->List AV->za->Option (Out×za))
def jz (n:Nat) (o:Oper):Bool:=match o.dst with
 |some d=>decide (d<n)
 |none=>true
def yK (n:Nat) (ops:Array Oper) (pre:Option Nat) (o:Oper):RM Pn :=
 if jz n o then
  match o.guard with
  |none=>act E cf pre o
  |some (j,want)=>match (ops[j]?).bind (·.dst) with
   |some t=>do
    let c ←xb t
    need c.r.isNone
    if Z2 c.a then done o.dst .und
    else do
     let b ←zv (zY c.a)
     .alt (cond want b (!b)) (act E cf pre o) (done o.dst .und)
   |none=>.fail
 else .fail
def xf (n:Nat) (ops:Array Oper):List Nat->RS->Option (RS×Option PV)
 |[],s=>some (s,none)
 |i::r,s=>match ops[i]? with
  |none=>none
  |some o=>match (yK E cf n ops none o).run s with
   |none=>none
   |some (ws,none)=>if s.H.length<=(s.puts ws).H.length then xf n ops r (s.puts ws) else none
   |some (ws,some p)=>if s.H.length<=(s.puts ws).H.length then some (s.puts ws,some p) else none
def wY (ops:List Oper):List Nat :=
 ops.foldl (fun acc o=>acc++[o.after.toList.foldl (fun s e=>if Region.binds .any e then s ||| 2^e.on ||| acc.getD e.on 0 else s) 0]) []
def zih (o:Oper):Bool:=match o.op with|.alloc _|.box ..=>o.guard.isNone|_=>false
def xt (base:Nat):List Oper->Nat->List (Nat×Nat)
 |[],_=>[]
 |o::r,i=>if zih o then (i,base)::xt (base+1) r (i+1) else xt base r (i+1)
def yM:W->Bool
 |.new _=>false
 |.all _=>false
 |_=>true
structure Tr where
 i:Nat
 rd:List Loc
 wr:List Loc
def W.loc:W->Loc
 |.s t _ _ _=>.s t
 |.c l _ _ _=>.b l
 |.b l _=>.b l
 |.new _=>.h
 |.all _=>.h
def Loc.hits:Loc->Loc->Bool
 |.s t,.s u=>t==u
 |.b l,.b m=>l==m
 |.h,.b _=>true
 |.b _,.h=>true
 |.h,.h=>true
 |_,_=>false
def apart (a b:List Loc):Bool:=a.all fun x=>b.all fun y=>!x.hits y
def yA (n:Nat) (ops:Array Oper) (plan:List (Nat×Nat)):List Nat->RS->Option (List Tr×RS×Option PV)
 |[],s=>some ([],s,none)
 |i::r,s=>match ops[i]? with
  |none=>none
  |some o=>
   match (yK E cf n ops (find plan i) o).run s with
   |none=>none
   |some (ws,none)=>if ws.all yM then
     match yA n ops plan r (s.puts ws) with
     |some (tr,z)=>some (⟨i,(yK E cf n ops (find plan i) o).log s,ws.map W.loc⟩::tr,z)
     |none=>none
    else none
   |some (ws,some p)=>if ws.all yM then some ([⟨i,(yK E cf n ops (find plan i) o).log s,ws.map W.loc⟩],s.puts ws,some p) else none
def Tr.free (a b:Tr):Bool:=apart a.wr b.wr&&apart a.wr b.rd&&apart a.rd b.wr
def w5 (bef:List Nat):List Tr->Bool
 |[]=>true
 |a::r=>r.all (fun b=>(bef.getD b.i 0).testBit a.i||a.free b)&&w5 bef r
def XN (l:List Loc):Bool:=l.all fun|.s _=>true|_=>false
def VH (ops:Array Oper):Bool:=(List.range ops.size).all fun i=>match ops[i]? with|some o=>o.after.toList.all fun e=>!Region.binds .any e||decide (e.on<i)|none=>true
def ZB (ops:Array Oper) (plan:List (Nat×Nat)) (tr:List Tr):Pn->Bool
 |none=>w5 (wY ops.toList) tr&&VH ops
 |some _=>w5 (wY ops.toList) tr&&VH ops&&plan.isEmpty&&
  match tr.getLast? with
  |some x=>(tr.dropLast.all fun a=>((wY ops.toList).getD x.i 0).testBit a.i||XN a.wr)&&
    ((List.range ops.size).drop tr.length).all (fun k=>((wY ops.toList).getD k 0).testBit x.i)
  |none=>false
def Yz (ops:Array Oper) (s:St):RS:={ s.start with H:=s.H++List.replicate (xt s.H.length ops.toList 0).length [] }
def xX (n:Nat) (ops:Array Oper) (s:St):Option (RS×Option PV) :=
 match yA E cf n ops (xt s.H.length ops.toList 0) (List.range ops.size) (Yz ops s) with
 |none=>none
 |some (tr,z,pn)=>cond (ZB ops (xt s.H.length ops.toList 0) tr pn) (some (z,pn)) none
def zR (l:List (Nat×AV)) (t:Nat):AV:=match find l t with|some a=>a|none=>.dead
def iter (f:St->Option (Ex×St)):Nat->St->Option (Ex×St)
 |0,_=>none
 |k+1,s=>match f s with
  |some (.normal,s')=>iter f k s'
  |r=>r
def Z9 (m:Nat):AV->Bool
 |.ptr l _=>decide (l<m)
 |_=>true
def below (m:Nat):AV->Bool
 |.ptr l _=>decide (l<m)
 |.clo _ x y=>x.all (Z9 m)&&y.all (Z9 m)
 |_=>true
def KW (m:Nat):AV->Bool
 |.agg cs=>cs.all (below m)
 |a=>below m a
def zJ (f b m:Nat) (s:St):St:=match JE E.keep f b with
 |some ks=>⟨zR (ks.map fun t=>(t,s.sl t)),cond ((ks.all fun t=>KW m (s.sl t))&&(s.H.take m).all (fun cs=>cs.all (below m))) (s.H.take m) s.H⟩
 |none=>s
def vK (s:St):Operand->Option Bool
 |.tmp t=>zY (s.sl t)
 |.const (.bool b)=>some b
 |_=>none
def zP (n:Nat) (f:Nat) (k:Nat):Nat->Code->St->Option (Ex×St)
 |_,.skip,s=>some (.normal,s)
 |_,.label _,s=>some (.normal,s)
 |b,.scope x,s=>zP n f k b x s
 |_,.region _ ops draw,s=>match (if draw then xX E cf n ops s else xf E cf n ops (List.range ops.size) s.start) with
  |some (z,none)=>some (.normal,z.stop)
  |some (z,some p)=>some (.pan p,z.stop)
  |none=>none
 |b,.seq x y,s=>match zP n f k b x s with
  |some (.normal,s')=>zP n f k b y s'
  |r=>r
 |b,.cond c x y,s=>match vK s c with
  |some true=>zP n f k b x s
  |some false=>zP n f k b y s
  |none=>none
 |_,.block id x,s=>match zP n f k id x s with
  |some (.exit j,s')=>if j=id then some (.normal,s') else some (.exit j,s')
  |r=>r
 |b,.loop x,s=>iter (fun s' => zP n f k b x (zJ E f b s.H.length s')) k s
 |_,.exit id,s=>some (.exit id,s)
 |_,.ret,s=>some (.ret,s)
 |_,_,_=>none
def Ji (t a:Nat):RM PV:=do
 let i ←ty E t
 let c ←xb a
 match c.r,c.a with
 |none,.ptr l off=>do
  W7 l off i.size
  let c ←vS l
  let cs ←zv c.1
  need (decide (off+i.size<=cs.length))
  let ps ←zv (((cs.drop off).take i.size).mapM zb)
  if i.agg then pure (.agg ps) else match ps with
   |[p]=>pure p
   |_=>.fail
 |_,_=>.fail
def XH:ResultVar->RM PV
 |.tmp t=>do
  let a ←vI E 0 (.tmp t)
  zv (zb a)
 |.cell a t=>Ji E t a
def WZ:List ResultVar->RM (List PV)
 |[]=>pure []
 |r::rs=>do
  let p ←XH E r
  let ps ←WZ rs
  pure (p::ps)
def okO:AV->Bool
 |.pv _=>true
 |.slu ..=>true
 |.agg cs=>cs.all fun c=>xq c||xr c
 |_=>false
def W1:ResultVar->RM AV
 |.tmp t=>vf E 0 (.tmp t)
 |.cell a t=>do
  let i ←ty E t
  let c ←xb a
  match c.r,c.a with
  |none,.ptr l off=>do
   let c ←vS l
   let cs ←zv c.1
   need (i.agg&&decide (off+i.size<=cs.length))
   xE (.b l (yP cs off (List.replicate i.size .dead)))
   pure (.agg ((cs.drop off).take i.size))
  |_,_=>.fail
def YH:List ResultVar->Nat->RM (AV×List PV)
 |r::rs,0=>do
  let a ←W1 E r
  need (okO a)
  let ps ←WZ E rs
  pure (a,.v .nilIface::ps)
 |r::rs,k+1=>do
  let p ←XH E r
  let q ←YH rs k
  pure (q.1,p::q.2)
 |[],_=>.fail
def wk (f:Nat) (rs:List ResultVar):RM AV :=
 match find E.uq f,rs with
 |some (.s _),[r]=>do
  let a ←W1 E r
  need (okO a)
  pure a
 |some (.t k n _),r::r'::rs=>do
  let q ←YH E (r::r'::rs) k
  pure (.tup k q.1 q.2)
 |_,[r]=>do
  let p ←XH E r
  pure (.pv p)
 |_,rs=>do
  let ps ←WZ E rs
  pure (.pv (.tup ps))
def wi (m:Nat) (o:Out) (h:za):Option (Out×za) :=
 if (h.take m).all (fun cs=>cs.all (below m)) then some (o,h.take m) else none
structure DP where
 r0:Code
 rest:Code
 grest:Code
 caps:List Nat
 u:Nat
 t8:Nat
def ZM:List Operand->Option (List Nat)
 |[]=>some []
 |.tmp i::r=>(ZM r).map fun l=>i::l
 |_=>none
def Wy (g:Nat) (ops:Array Oper):Option (Nat×List Nat) :=
 match ops.toList with
 |[m,d]=>match m.dst,m.op,m.guard,d.dst,d.op,d.guard with
  |some t,.makeFunc (.func g') fs cs,none,none,.defer c,none=>match c.callee with
   |.value (.tmp t')=>if g' = g /\ t' = t /\ fs=#[]/\c.args=#[] then (ZM cs.toList).map fun l=>(t,l) else none
   |_=>none
  |_,_,_,_,_,_=>none
 |_=>none
def YG (ops:Array Oper):Option (Nat×Nat) :=
 match ops.toList with
 |[c,m]=>match c.dst,c.op,c.guard,m.dst,m.op,m.guard with
  |some t,.call q,none,some u,.assign (.tmp t'),none=>match q.callee with
   |.builtin .recover=>if t' = t /\ q.args=#[] then some (t,u) else none
   |_=>none
  |_,_,_,_,_,_=>none
 |_=>none
def ZZ (g:Nat) (fn gn:Func):Option DP :=
 match fn.body,gn.body with
 |some (.seq r0 (.seq (.region _ ops1 false) rest)),some (.seq (.region _ ops2 false) grest)=>
  (Wy g ops1).bind fun x=>(YG ops2).bind fun y=>if gn.results=#[]/\y.1<gn.ntmps/\y.2<gn.ntmps/\x.2.length<=y.1/\x.1<fn.ntmps then some ⟨r0,rest,grest,x.2,y.2,x.1⟩ else none
 |_,_=>none
def w6:AV->Bool
 |.ptr ..=>true
 |_=>false
def XB:Ex->Option PV
 |.normal=>some (.v .nilIface)
 |.ret=>some (.v .nilIface)
 |.pan p=>some p
 |.exit _=>none
def WC:Ex->Bool
 |.normal=>true
 |.ret=>true
 |_=>false
def wU:Code->Nat->Bool
 |.region _ ops _,t=>ops.toList.any fun o=>decide (o.dst=some t)
 |.seq x y,t=>wU x t||wU y t
 |.cond _ x y,t=>wU x t||wU y t
 |.block _ x,t=>wU x t
 |.scope x,t=>wU x t
 |.loop x,t=>wU x t
 |_,_=>false
def stays (d:DP) (s0:St) (t:Nat):AV:=cond (w6 (s0.sl t)&&!wU d.rest t&&decide (t≠d.t8)) (s0.sl t) .dead
def Wt (d:DP) (cp:List AV) (s1:St) (p:PV):St:=⟨fun i=>cond (decide (i=d.u)) (.pv p) ((cp[i]?).getD .dead),s1.H⟩
def qn:ResultVar->Nat
 |.tmp t=>t
 |.cell a _=>a
def Zm (d:DP) (rs:List ResultVar) (s0:St):List (Nat×AV):=rs.map fun r=>(qn r,stays d s0 (qn r))
def ZY (f g:Nat) (fn gn:Func) (d:DP) (args:List AV) (H:za) (run:Nat->Nat->Code->St->Option (Ex×St)):Option (Out×za) :=
 (run fn.ntmps f d.r0 ⟨fun t=>(args[t]?).getD .dead,H⟩).bind fun x=>match x with
 |(.normal,s0)=>cond (d.caps.all fun c=>w6 (s0.sl c))
   ((run fn.ntmps f d.rest ⟨fun t=>cond (decide (t=d.t8)) .dead (s0.sl t),s0.H⟩).bind fun y=>(XB y.1).bind fun p=>
    (run gn.ntmps g d.grest (Wt d (d.caps.map s0.sl) y.2 p)).bind fun z=>cond (WC z.1)
     (((wk E f fn.results.toList).run (St.start ⟨zR (Zm d fn.results.toList s0),z.2.H⟩)).bind fun u=>wi H.length (.ret u.2) ((St.start ⟨zR (Zm d fn.results.toList s0),z.2.H⟩).puts u.1).H) none) none
 |_=>none
def QE (t:Nat):PV->Option Int
 |.v .nilIface=>some 0
 |.ifc t' (.agg [.v (.int .i64 n)])=>if t' = t then some n else none
 |_=>none
def XJ:PV->Option Nat
 |.sen g=>match find E.glob g with
  |some (.sen g')=>if g' = g then some g else none
  |_=>none
 |_=>none
def Qt (a b:PV):Option Bool:=(XJ E b).bind fun g=>match a with
 |.v .nilIface=>some false
 |a=>(XJ E a).map fun h=>h==g
def pop8 (n:Nat):Nat:=n%2+n/2%2+n/4%2+n/8%2+n/16%2+n/32%2+n/64%2+n/128%2
def QO (n:Int):Option Int:=cond (decide (0<=n)&&decide (n<256)) (some (pop8 n.toNat)) none
def YF (q:Nat×Nat) (args:List AV) (H:za):Option (Out×za) :=
 match q.1,args with
 |0,[.pv p]=>(QE q.2 p).bind fun n=>cond H.isEmpty (some (.ret (.pv (.v (.int .i64 n))),H)) none
 |1,[.pv p,.pv r]=>(Qt E p r).bind fun b=>cond H.isEmpty (some (.ret (.pv (.v (.bool b))),H)) none
 |2,[.pv p]=>(zf .u8 (.pv p)).bind fun m=>(QO m).bind fun n=>cond H.isEmpty (some (.ret (.pv (.v (.int .i64 n))),H)) none
 |_,_=>none
def Jl (q:Nat×Nat×Nat) (args:List AV) (H:za):Option (Out×za) :=
 match args with
 |[.pv p]=>(zX p).bind fun l=>cond (decide (l.1=q.2.1)&&ye l.2.length q.2.2&&H.isEmpty) (some (.ret (.slu q.1 q.2.1 l.2),H)) none
 |_=>none
def clone (q:Nat×Nat×Nat) (args:List AV) (H:za):Option (Out×za):=match q.2.1 with
 |0=>YF E (q.1,q.2.2) args H
 |_+1=>Jl q args H
variable (yb:List (Nat×Func))
def xz:Nat->Nat->List AV->za->Option (Out×za)
 |0,_,_,_=>none
 |k+1,f,args,H=>match find E.cln f with
  |some q=>clone E q args H
  |none=>match find yb f with
   |none=>none
   |some fn=>match find E.dfr f with
    |some g=>(find yb g).bind fun gn=>(ZZ g fn gn).bind fun d=>ZY E f g fn gn d args H (fun n f c s=>zP E (xz k) n f k 0 c s)
    |none=>match fn.body with
     |none=>none
     |some c=>match zP E (xz k) fn.ntmps f k 0 c ⟨fun t=>(args[t]?).getD .dead,H⟩ with
      |some (.ret,s)=>match (wk E f fn.results.toList).run s.start with
       |some (ws,a)=>wi H.length (.ret a) (s.start.puts ws).H
       |none=>none
      |some (.normal,s)=>match (wk E f fn.results.toList).run s.start with
       |some (ws,a)=>wi H.length (.ret a) (s.start.puts ws).H
       |none=>none
      |some (.pan p,s)=>wi H.length (.pan p) s.H
      |_=>none
end
inductive Hd where
 |imm
 |box (l:Nat)
 |c (l o:Nat)
 |s (t j:Nat)
 |frn
 |hand (j:Nat)
 deriving DecidableEq
structure Gh where
 g:Nat->Option (Array Value)
 ph:Nat->Option Nat
 ka:Nat->Option Hd
def okV:Value->Bool
 |.bool _=>true
 |.int _ _=>true
 |.string _=>true
 |.nilFunc=>true
 |.nilIface=>true
 |.func _ f c=>f.isEmpty&&c.isEmpty
 |_=>false
inductive PRep (g:Nat->Option (Array Value)):PV->Value->Prop
 |v {x:Value}:okV x=true->PRep g (.v x) x
 |sl0 {sz cap:Nat} {p:Option Addr}:PRep g (.sl sz []) (.slice p 0 cap)
 |sl {sz b o cap:Nat} {xs:List PV} {c:Array Value}:g b=some c->xs.length<=cap->o+xs.length*sz<=c.size->(∀ x∈xs,x.cells.length=sz)->
   (∀ (i:Nat) (x:PV) (j:Nat) (q:PV) (u:Value),xs[i]? = some x->x.cells[j]? = some q->c[o+i*sz+j]? = some u->q.isCell=true)->
   (∀ (i:Nat) (x:PV) (j:Nat) (q:PV) (u:Value),xs[i]? = some x->x.cells[j]? = some q->c[o+i*sz+j]? = some u->PRep g q u)->
   PRep g (.sl sz xs) (.slice (some ⟨b,o,none⟩) xs.length cap)
 |agg {cs:List PV} {vs:Array Value}:vs.size=cs.length->(∀ q∈cs,q.isCell=true)->(∀ (j:Nat) (q:PV) (u:Value),cs[j]? = some q->vs[j]? = some u->PRep g q u)->PRep g (.agg cs) (.agg vs)
 |tup {ps:List PV} {vs:Array Value}:vs.size=ps.length->(∀ (j:Nat) (q:PV) (u:Value),ps[j]? = some q->vs[j]? = some u->PRep g q u)->PRep g (.tup ps) (.tuple vs)
 |ifc {t:Nat} {p:PV} {u:Value}:PRep g p u->PRep g (.ifc t p) (.iface t u)
 |sen {b:Nat} {c:Array Value} {t:TypeId} {a:Addr}:g b=some c->c[0]? = some (.iface t (.pointer (some a)))->PRep g (.sen b) (.iface t (.pointer (some a)))
theorem PRep.mono {g g':Nat->Option (Array Value)} (hg:∀ b c,g b=some c->g' b=some c) {p:PV} {v:Value} (h:PRep g p v):PRep g' p v:=by
 induction h with
 |v h=>exact .v h
 |sl0=>exact .sl0
 |sl h1 h2 h3 h4 h5 _ ih=>exact .sl (hg _ _ h1) h2 h3 h4 h5 ih
 |agg h1 h2 _ ih=>exact .agg h1 h2 ih
 |tup h1 _ ih=>exact .tup h1 ih
 |ifc _ ih=>exact .ifc ih
 |sen h1 h2=>exact .sen (hg _ _ h1) h2
theorem PRep.one {g:Nat->Option (Array Value)} {p:PV} {v:Value} (h:PRep g p v) (hc:p.isCell=true):v.oneCell' = true:=by
 cases h with
 |v h=>cases v<;>simp_all [Value.oneCell',okV]
 |sl0=>rfl
 |sl=>rfl
 |agg=>simp[PV.isCell] at hc
 |tup=>simp[PV.isCell] at hc
 |ifc=>rfl
 |sen=>rfl
def SRel (G:Gh):AV->Value->Prop
 |.pv p,v=>PRep G.g p v
 |.ptr l o,v=>∃ b,G.ph l=some b/\v=.pointer (some ⟨b,o,none⟩)
 |_,_=>False
def LRel (G:Gh) (as0:List AV) (vs:Array Value):Prop:=vs.size=as0.length/\∀ (j:Nat) (a:AV) (x:Value),as0[j]? = some a->vs[j]? = some x->SRel G a x
def CRel (G:Gh):AV->Value->Prop
 |.clo fn fs cs,v=>∃ fs' cs',v=.func fn fs' cs'/\LRel G fs fs'/\LRel G cs cs'
 |a,v=>SRel G a v
def RowRep (g:Nat->Option (Array Value)) (sz:Nat) (xs:List PV) (us:List Value):Prop :=
 (∀ x∈xs,x.cells.length=sz)/\∀ (i:Nat) (x:PV) (j:Nat) (q:PV) (u:Value),xs[i]? = some x->x.cells[j]? = some q->us[i*sz+j]? = some u->q.isCell=true/\PRep g q u
def URel (G:Gh) (w:World) (h:Hd) (e sz:Nat) (xs:List PV) (v:Value):Prop :=
 0<sz/\∃ us,w.ownsRow 0 e sz v xs.length us/\RowRep G.g sz xs us/\∀ b,v.ownBlock=some b->G.ka b=some h
def BRel (G:Gh) (w:World) (h:Hd):AV->Value->Prop
 |.slu e sz xs,v=>URel G w h e sz xs v
 |.dead,v=>v.oneCell' = true
 |.pv p,v=>p.isCell=true/\PRep G.g p v
 |a,v=>CRel G a v
def ERel (G:Gh) (x:PV) (o:Nat) (v:Value):Prop :=
 ∃ b c p,G.g b=some c/\v=.pointer (some ⟨b,p+o,none⟩)/\p+x.cells.length<=c.size/\∀ (j:Nat) (q:PV) (u:Value),x.cells[j]? = some q->c[p+j]? = some u->q.isCell=true/\PRep G.g q u
section
variable (P:Program) (E:Env)
def MRel (G:Gh) (w:World) (g:Nat) (v:Value):Prop :=
 ∃ bm es clock,v=.map (some bm)/\G.ka bm=some .imm/\w.heap[bm]? = some (.map es clock)/\
  ∀ W:World,W.heap[bm]? = some (.map es clock)->∀ l n p,find E.maps g=some l->l.2.find? (fun q=>q.1==n)=some p->
   (Instr.lookup l.1 (.map (some bm)) (.int .i64 n) false).run P W=.ok (.func (.func p.2) #[] #[]) W
def TRel (G:Gh) (w:World) (h:Nat->Hd):AV->Value->Prop
 |.pv p,v=>PRep G.g p v
 |.slu e sz xs,v=>URel G w (h 0) e sz xs v
 |.agg cs,v=>∃ vs,v=.agg vs/\vs.size=cs.length/\∀ (j:Nat) (a:AV) (x:Value),cs[j]? = some a->vs[j]? = some x->(xq a||xr a)=true/\BRel G w (h j) a x
 |.dead,_=>True
 |_,_=>False
def VRel (G:Gh) (w:World) (h:Nat->Hd):AV->Value->Prop
 |.tup k a ps,v=>∃ vs,v=.tuple vs/\vs.size=ps.length/\k<vs.size/\(∀ (j:Nat) (q:PV) (u:Value),j≠k->ps[j]? = some q->vs[j]? = some u->PRep G.g q u)/\∀ u,vs[k]? = some u->TRel G w h a u
 |.slu e sz xs,v=>URel G w (h 0) e sz xs v
 |.agg cs,v=>∃ vs,v=.agg vs/\vs.size=cs.length/\∀ (j:Nat) (a:AV) (x:Value),cs[j]? = some a->vs[j]? = some x->BRel G w (h j) a x
 |.elp x o,v=>ERel G x o v
 |.gm g,v=>v=.pointer (some ⟨g,0,none⟩)/\(find E.maps g).isSome=true
 |.mp g,v=>MRel P E G w g v
 |.dead,_=>True
 |.und,v=>v=undef
 |a,v=>CRel G a v
def tmp (a:Act) (t:Nat):Value:=a.tmps.getD t undef
def conc (G:Gh) (a:Act) (w:World):Var->Value->Prop
 |.s t,y=>y=tmp a t
 |.c l o,y=>∃ b,G.ph l=some b/\G.ka b=some (.box l)/\w.cell? ⟨b,o,none⟩=some y
def RS.md (s:RS):Var->Bool
 |.s t=>(s.sl t).m
 |.c l _=>s.mb l
def RefOk (G:Gh) (s:RS) (a:Act) (w:World):Ref->Value->Prop
 |.whole v,x=>s.md v=false->conc G a w v x
 |.elem v sz i o,x=>s.md v=false->∃ b n cap,conc G a w v (.slice (some ⟨b,0,none⟩) n cap)/\x=.pointer (some ⟨b,i*sz+o,none⟩)
def BoxOk (G:Gh) (w:World) (l:Nat) (cs:List AV) (b:Nat):Prop :=
 G.ka b=some (.box l)/\∃ T c,w.heap[b]? = some (.cells c T (0,0))/\c.size=cs.length/\∀ (o:Nat) (a:AV) (x:Value),cs[o]? = some a->c[o]? = some x->BRel G w (.c l o) a x
structure WOk (G:Gh) (w:World):Prop where
 imm:∀ b c,G.g b=some c->G.ka b=some .imm/\∃ T f,w.heap[b]? = some (.cells c T f)
 dom:∀ b h,G.ka b=some h->b<w.heap.size
 maps:∀ g l,find E.maps g=some l->∃ v c,G.g g=some c/\c[0]? = some v/\MRel P E G w g v
 glob:∀ g p,find E.glob g=some p->ERel G p 0 (.pointer (some ⟨g,0,none⟩))
 sen:∀ g,find E.glob g=some (.sen g)->∃ c a ca ta,G.g g=some c/\c[0]? = some (.iface E.sty (.pointer (some a)))/\G.ka a.block=some .imm/\w.heap[a.block]? = some (.cells ca ta (0,0))
 dst:∀ g1 g2 c1 c2,find E.glob g1=some (.sen g1)->find E.glob g2=some (.sen g2)->g1≠g2->G.g g1=some c1->G.g g2=some c2->c1[0]?≠c2[0]?
 fix:∀ g v,find E.fix g=some v->∃ c,G.g g=some c/\c[0]? = some v
structure Rel (G:Gh) (s:RS) (a:Act) (w:World):Prop where
 wo:WOk P E G w
 bx:∀ l cs,s.H[l]? = some cs->∀ b,G.ph l=some b->BoxOk G w l cs b
 sl:∀ t,VRel P E G w (fun j=>.s t j) (s.sl t).a (tmp a t)
 rf:∀ t r,(s.sl t).r=some r->RefOk G s a w r (tmp a t)
 dm:∀ l b,G.ph l=some b->l<s.H.length
structure Fr (G:Gh) (w:World) (G':Gh) (w':World) (X:Hd->Prop):Prop where
 g:∀ b c,G.g b=some c->G'.g b=some c
 ph:∀ l b,G.ph l=some b->G'.ph l=some b
 ka:∀ b h,G.ka b=some h->¬X h->G'.ka b=some h/\w'.heap[b]? = w.heap[b]?
 old:¬X .imm/\¬X .frn
 os:w'.os=w.os
 tape:w'.tape=w.tape
 output:w'.output=w.output
 size:w.heap.size<=w'.heap.size
end
section
variable {P:Program} {E:Env} {G G':Gh} {w w':World} {X:Hd->Prop}
theorem Fr.refl:Fr G w G w (fun _=>False):=⟨fun _ _ h=>h,fun _ _ h=>h,fun _ _ h _=>⟨h,rfl⟩,⟨id,id⟩,rfl,rfl,rfl,Nat.le_refl _⟩
theorem Fr.weaken {Y:Hd->Prop} (h:Fr G w G' w' X) (hXY:∀ k,X k->Y k) (hY:¬Y .imm/\¬Y .frn):Fr G w G' w' Y :=
 ⟨h.g,h.ph,fun b k hb hk=>h.ka b k hb (fun hx=>hk (hXY k hx)),hY,h.os,h.tape,h.output,h.size⟩
theorem Fr.trans {G'':Gh} {w'':World} (h:Fr G w G' w' X) (k:Fr G' w' G'' w'' X):Fr G w G'' w'' X :=
 ⟨fun b c hb=>k.g b c (h.g b c hb),fun l b hb=>k.ph l b (h.ph l b hb),fun b q hb hq=>by
  obtain ⟨h1,h2⟩:=h.ka b q hb hq
  obtain ⟨k1,k2⟩:=k.ka b q h1 hq
  exact ⟨k1,k2.trans h2⟩,h.old,k.os.trans h.os,k.tape.trans h.tape,k.output.trans h.output,Nat.le_trans h.size k.size⟩
theorem SRel.fr (f:Fr G w G' w' X):∀ {a:AV} {v:Value},SRel G a v->SRel G' a v
 |.pv p,v,h=>PRep.mono f.g h
 |.ptr l o,v,h=>by obtain ⟨b,hb,hv⟩:=h;exact ⟨b,f.ph _ _ hb,hv⟩
 |.slu ..,_,h=>h.elim
 |.agg ..,_,h=>h.elim
 |.elp ..,_,h=>h.elim
 |.clo ..,_,h=>h.elim
 |.gm ..,_,h=>h.elim
 |.mp ..,_,h=>h.elim
 |.tup ..,_,h=>h.elim
 |.und,_,h=>h.elim
 |.dead,_,h=>h.elim
theorem LRel.fr (f:Fr G w G' w' X) {as0:List AV} {vs:Array Value} (h:LRel G as0 vs):LRel G' as0 vs :=
 ⟨h.1,fun j a x ha hx=>(h.2 j a x ha hx).fr f⟩
theorem CRel.fr (f:Fr G w G' w' X):∀ {a:AV} {v:Value},CRel G a v->CRel G' a v
 |.clo fn fs cs,v,h=>by obtain ⟨fs',cs',hv,h1,h2⟩:=h;exact ⟨fs',cs',hv,h1.fr f,h2.fr f⟩
 |.pv p,v,h=>SRel.fr (a:=.pv p) f h
 |.ptr l o,v,h=>SRel.fr (a:=.ptr l o) f h
 |.slu ..,_,h=>h.elim
 |.agg ..,_,h=>h.elim
 |.elp ..,_,h=>h.elim
 |.gm ..,_,h=>h.elim
 |.mp ..,_,h=>h.elim
 |.tup ..,_,h=>h.elim
 |.und,_,h=>h.elim
 |.dead,_,h=>h.elim
theorem RowRep.mono {g g':Nat->Option (Array Value)} (hg:∀ b c,g b=some c->g' b=some c) {sz:Nat} {xs:List PV} {us:List Value} (h:RowRep g sz xs us):RowRep g' sz xs us :=
 ⟨h.1,fun i x j q u hx hq hu=>⟨(h.2 i x j q u hx hq hu).1,((h.2 i x j q u hx hq hu).2).mono hg⟩⟩
theorem zjo {e sz n:Nat} {v:Value} {us:List Value} (h:w.ownsRow 0 e sz v n us) (hb:∀ b,v.ownBlock=some b->w'.heap[b]? = w.heap[b]?):w'.ownsRow 0 e sz v n us:=by
 refine ⟨h.1,?_⟩
 rcases h.2 with h|⟨g,cap,cur,rfl,h0,hg,rest⟩
 ·exact .inl h
 ·exact .inr ⟨g,cap,cur,rfl,h0,(hb g rfl).trans hg,rest⟩
theorem URel.move (hg:∀ b c,G.g b=some c->G'.g b=some c) {h h':Hd} (hk:∀ b,G.ka b=some h->G'.ka b=some h'/\w'.heap[b]? = w.heap[b]?) {e sz:Nat} {xs:List PV} {v:Value} (u:URel G w h e sz xs v):URel G' w' h' e sz xs v:=by
 obtain ⟨h0,us,h1,h2,h3⟩:=u
 exact ⟨h0,us,zjo h1 (fun b hb=>(hk b (h3 b hb)).2),h2.mono hg,fun b hb=>(hk b (h3 b hb)).1⟩
theorem URel.fr (f:Fr G w G' w' X) {h:Hd} (hx:¬X h) {e sz:Nat} {xs:List PV} {v:Value} (u:URel G w h e sz xs v):URel G' w' h e sz xs v :=
 u.move f.g (fun b hb=>f.ka b h hb hx)
theorem BRel.move (f:Fr G w G' w' X) {h h':Hd} (hk:∀ b,G.ka b=some h->G'.ka b=some h'/\w'.heap[b]? = w.heap[b]?):∀ {a:AV} {v:Value},BRel G w h a v->BRel G' w' h' a v
 |.slu e sz xs,v,u=>URel.move f.g hk u
 |.dead,v,u=>u
 |.pv p,v,u=>⟨u.1,u.2.mono f.g⟩
 |.ptr l o,v,u=>CRel.fr (a:=.ptr l o) f u
 |.clo x y z,v,u=>CRel.fr (a:=.clo x y z) f u
 |.agg ..,_,u=>u.elim
 |.elp ..,_,u=>u.elim
 |.gm ..,_,u=>u.elim
 |.mp ..,_,u=>u.elim
 |.tup ..,_,u=>u.elim
 |.und,_,u=>u.elim
theorem BRel.fr (f:Fr G w G' w' X) {h:Hd} (hx:¬X h) {a:AV} {v:Value} (u:BRel G w h a v):BRel G' w' h a v:=u.move f (fun b hb=>f.ka b h hb hx)
theorem BRel.one {h:Hd}:∀ {a:AV} {v:Value},BRel G w h a v->v.oneCell' = true
 |.slu e sz xs,v,u=>by
  obtain ⟨_,us,h1,_,_⟩:=u
  rcases h1.2 with ⟨rfl,_⟩|⟨g,cap,cur,rfl,_⟩<;>rfl
 |.dead,v,u=>u
 |.pv p,v,u=>u.2.one u.1
 |.ptr l o,v,u=>by obtain ⟨b,_,rfl⟩:=(show SRel G (.ptr l o) v from u);rfl
 |.clo x y z,v,u=>by obtain ⟨fs,cs,rfl,_⟩:=(show ∃ fs cs,v=.func x fs cs/\_ from u);rfl
 |.agg ..,_,u=>u.elim
 |.elp ..,_,u=>u.elim
 |.gm ..,_,u=>u.elim
 |.mp ..,_,u=>u.elim
 |.tup ..,_,u=>u.elim
 |.und,_,u=>u.elim
theorem ERel.fr (f:Fr G w G' w' X) {x:PV} {o:Nat} {v:Value} (h:ERel G x o v):ERel G' x o v:=by
 obtain ⟨b,c,p,h1,h2,h3,h4⟩:=h
 exact ⟨b,c,p,f.g _ _ h1,h2,h3,fun j q u hq hu=>⟨(h4 j q u hq hu).1,(h4 j q u hq hu).2.mono f.g⟩⟩
theorem MRel.fr (f:Fr G w G' w' X) {g:Nat} {v:Value} (h:MRel P E G w g v):MRel P E G' w' g v:=by
 obtain ⟨bm,es,clock,h1,h2,h3,h4⟩:=h
 obtain ⟨k1,k2⟩:=f.ka bm .imm h2 f.old.1
 exact ⟨bm,es,clock,h1,k1,k2.trans h3,h4⟩
theorem BRel.plain (hg:∀ b c,G.g b=some c->G'.g b=some c) {h h':Hd} (hk:∀ b,G.ka b=some h->G'.ka b=some h'/\w'.heap[b]? = w.heap[b]?) {x:AV} (hp:(xq x||xr x)=true) {v:Value} (u:BRel G w h x v):BRel G' w' h' x v:=by
 cases x with
 |pv p=>exact ⟨u.1,u.2.mono hg⟩
 |slu e sz xs=>exact URel.move hg hk u
 |_=>simp[xq,xr] at hp
theorem TRel.move (hg:∀ b c,G.g b=some c->G'.g b=some c) {h h':Nat->Hd} (hk:∀ j b,G.ka b=some (h j)->G'.ka b=some (h' j)/\w'.heap[b]? = w.heap[b]?):∀ {a:AV} {v:Value},TRel G w h a v->TRel G' w' h' a v
 |.slu e sz xs,v,u=>URel.move hg (hk 0) u
 |.agg cs,v,u=>by
  obtain ⟨vs,hv,h1,h2⟩:=u
  exact ⟨vs,hv,h1,fun j a x ha hx=>⟨(h2 j a x ha hx).1,BRel.plain hg (hk j) (h2 j a x ha hx).1 (h2 j a x ha hx).2⟩⟩
 |.pv p,v,u=>PRep.mono hg u
 |.dead,v,u=>trivial
 |.ptr ..,_,u=>u.elim
 |.clo ..,_,u=>u.elim
 |.elp ..,_,u=>u.elim
 |.gm ..,_,u=>u.elim
 |.mp ..,_,u=>u.elim
 |.und,_,u=>u.elim
 |.tup ..,_,u=>u.elim
theorem VRel.move (f:Fr G w G' w' X) {h h':Nat->Hd} (hk:∀ j b,G.ka b=some (h j)->G'.ka b=some (h' j)/\w'.heap[b]? = w.heap[b]?):∀ {a:AV} {v:Value},VRel P E G w h a v->VRel P E G' w' h' a v
 |.slu e sz xs,v,u=>URel.move f.g (hk 0) u
 |.tup k a ps,v,u=>by
  obtain ⟨vs,hv,h1,h0,h2,h3⟩:=u
  exact ⟨vs,hv,h1,h0,fun j q x hj hq hx=>(h2 j q x hj hq hx).mono f.g,fun x hx=>(h3 x hx).move f.g hk⟩
 |.agg cs,v,u=>by
  obtain ⟨vs,hv,h1,h2⟩:=u
  exact ⟨vs,hv,h1,fun j a x ha hx=>(h2 j a x ha hx).move f (hk j)⟩
 |.elp x o,v,u=>ERel.fr f u
 |.gm g,v,u=>u
 |.mp g,v,u=>MRel.fr f u
 |.und,v,u=>u
 |.dead,v,u=>trivial
 |.pv p,v,u=>CRel.fr (a:=.pv p) f u
 |.ptr l o,v,u=>CRel.fr (a:=.ptr l o) f u
 |.clo x y z,v,u=>CRel.fr (a:=.clo x y z) f u
theorem VRel.fr (f:Fr G w G' w' X) {h:Nat->Hd} (hx:∀ j,¬X (h j)) {a:AV} {v:Value} (u:VRel P E G w h a v):VRel P E G' w' h a v:=u.move f (fun j b hb=>f.ka b (h j) hb (hx j))
theorem BoxOk.fr (f:Fr G w G' w' X) {l:Nat} (hb:¬X (.box l)) (hc:∀ o,¬X (.c l o)) {cs:List AV} {b:Nat} (u:BoxOk G w l cs b):BoxOk G' w' l cs b:=by
 obtain ⟨h1,T,c,h2,h3,h4⟩:=u
 obtain ⟨k1,k2⟩:=f.ka b _ h1 hb
 exact ⟨k1,T,c,k2.trans h2,h3,fun o a x ha hx=>(h4 o a x ha hx).fr f (hc o)⟩
theorem WOk.fr (f:Fr G w G' w' X) (h:WOk P E G w) (hi:∀ b c,G'.g b=some c->G'.ka b=some .imm/\∃ T q,w'.heap[b]? = some (.cells c T q)) (hd:∀ b k,G'.ka b=some k->b<w'.heap.size):WOk P E G' w' :=
 ⟨hi,hd,fun g l hl=>by obtain ⟨v,c,hv,h0,hm⟩:=h.maps g l hl;exact ⟨v,c,f.g _ _ hv,h0,hm.fr f⟩,fun g p hp=>(h.glob g p hp).fr f,
  fun g hg=>by
  obtain ⟨c,a,ca,ta,h1,h2,h3,h4⟩:=h.sen g hg
  obtain ⟨k1,k2⟩:=f.ka a.block .imm h3 f.old.1
  exact ⟨c,a,ca,ta,f.g _ _ h1,h2,k1,k2.trans h4⟩,
  fun g1 g2 c1 c2 h1 h2 hne e1 e2=>by
  obtain ⟨d1,_,_,_,k1,_⟩:=h.sen g1 h1
  obtain ⟨d2,_,_,_,k2,_⟩:=h.sen g2 h2
  obtain rfl:=Option.some.inj ((f.g _ _ k1).symm.trans e1)
  obtain rfl:=Option.some.inj ((f.g _ _ k2).symm.trans e2)
  exact h.dst g1 g2 _ _ h1 h2 hne k1 k2,
  fun g v hv=>by obtain ⟨c,h1,h2⟩:=h.fix g v hv;exact ⟨c,f.g _ _ h1,h2⟩⟩
end
theorem RM.run_bind' {α β:Type}:∀ (m:RM α) (f:α->RM β) (s:RS),(m.bind f).run s=match m.run s with
  |none=>none
  |some (ws,x)=>match (f x).run (s.puts ws) with
   |none=>none
   |some (us,y)=>some (ws++us,y)
 |.ret a,f,s=>by
  simp only[RM.bind,RM.run,RS.puts,zm7]
  cases (f a).run s<;>rfl
 |.fail,f,s=>rfl
 |.rs t k,f,s=>by simp only[RM.bind,RM.run];exact RM.run_bind' (k _) f s
 |.rb l k,f,s=>by simp only[RM.bind,RM.run];exact RM.run_bind' (k _) f s
 |.rh k,f,s=>by simp only[RM.bind,RM.run];exact RM.run_bind' (k _) f s
 |.wr w k,f,s=>by
  simp only[RM.bind,RM.run]
  rw[RM.run_bind' k f (s.put w)]
  cases h:k.run (s.put w) with
  |none=>rfl
  |some p=>
   obtain ⟨ws,x⟩:=p
   simp only[RS.puts]
   cases (f x).run ((s.put w).puts ws) with
   |none=>rfl
   |some q=>obtain ⟨us,y⟩:=q;rfl
 |.dyn o k,f,s=>by
  cases o with
  |none=>rfl
  |some x=>exact RM.run_bind' (k x) f s
 |.need b k,f,s=>by
  cases b with
  |false=>rfl
  |true=>exact RM.run_bind' k f s
 |.alt b x y,f,s=>by
  cases b with
  |false=>exact RM.run_bind' y f s
  |true=>exact RM.run_bind' x f s
 |.out o kr kp,f,s=>by
  cases o with
  |none=>rfl
  |some z=>
   obtain ⟨o,h⟩:=z
   cases o with
   |ret a=>exact RM.run_bind' (kr a h) f s
   |pan p=>exact RM.run_bind' (kp p h) f s
theorem W5 {α:Type} {o:Option (Out×za)} {kr:AV->za->RM α} {kp:PV->za->RM α} {s:RS} {ws:List W} {z:α} (h:(RM.out o kr kp).run s=some (ws,z)) :
  (∃ a h',o=some (.ret a,h')/\(kr a h').run s=some (ws,z))∨∃ p h',o=some (.pan p,h')/\(kp p h').run s=some (ws,z):=by
 simp only[RM.run,zh] at h
 split at h
 ·exact .inl ⟨_,_,rfl,h⟩
 ·exact .inr ⟨_,_,rfl,h⟩
 ·cases h
theorem zmR {α β:Type} {m:RM α} {f:α->RM β} {s:RS} {ws:List W} {y:β} (h:(m >>= f).run s=some (ws,y)) :
  ∃ u x v,m.run s=some (u,x)/\(f x).run (s.puts u)=some (v,y)/\ws=u++v:=by
 have h':(m.bind f).run s=some (ws,y):=h
 rw[RM.run_bind'] at h'
 cases hm:m.run s with
 |none=>simp[hm] at h'
 |some p=>
  obtain ⟨u,x⟩:=p
  simp only[hm] at h'
  cases hf:(f x).run (s.puts u) with
  |none=>simp[hf] at h'
  |some q=>
   obtain ⟨v,z⟩:=q
   simp only[hf,zm9,Prod.mk.injEq] at h'
   obtain ⟨h1,rfl⟩:=h'
   exact ⟨u,x,v,rfl,hf,h1.symm⟩
theorem RS.puts_append (s:RS):∀ (u v:List W),s.puts (u++v)=(s.puts u).puts v
 |[],v=>rfl
 |w::u,v=>by simp only[List.cons_append,RS.puts];exact RS.puts_append _ u v
theorem Yd {α:Type} {a:α} {s:RS} {ws:List W} {y:α} (h:(RM.ret a).run s=some (ws,y)):ws=[]/\y=a:=by
 simp only[RM.run,zm9,Prod.mk.injEq] at h
 exact ⟨h.1.symm,h.2.symm⟩
theorem run_pure {α:Type} {a:α} {s:RS} {ws:List W} {y:α} (h:(pure a:RM α).run s=some (ws,y)):ws=[]/\y=a:=Yd h
theorem yS {t:Nat} {s:RS} {ws:List W} {c:Sl} (h:(xb t).run s=some (ws,c)):ws=[]/\c=s.sl t:=Yd (s:=s) h
theorem vD {l:Nat} {s:RS} {ws:List W} {c:Option (List AV)×Bool} (h:(vS l).run s=some (ws,c)):ws=[]/\c=(s.H[l]?,s.mb l):=Yd (s:=s) h
theorem zbW {s:RS} {ws:List W} {c:za} (h:rdH.run s=some (ws,c)):ws=[]/\c=s.H:=Yd (s:=s) h
theorem yO {w:W} {s:RS} {ws:List W} {c:Unit} (h:(xE w).run s=some (ws,c)):ws=[w]:=by
 simp only[xE,RM.run,zm9,Prod.mk.injEq] at h
 exact h.1.symm
theorem zE {α:Type} {o:Option α} {s:RS} {ws:List W} {y:α} (h:(zv o).run s=some (ws,y)):ws=[]/\o=some y:=by
 cases o with
 |none=>simp[zv,RM.run] at h
 |some x=>obtain ⟨h1,h2⟩:=Yd (s:=s) (a:=x) h;exact ⟨h1,by rw[h2]⟩
theorem z5 {b:Bool} {s:RS} {ws:List W} {y:Unit} (h:(need b).run s=some (ws,y)):ws=[]/\b=true:=by
 cases b with
 |false=>simp[need,RM.run] at h
 |true=>exact ⟨(Yd (s:=s) (a:=()) h).1,rfl⟩
theorem zr {α:Type} {s:RS} {ws:List W} {y:α} (h:(RM.fail:RM α).run s=some (ws,y)):False:=by simp[RM.run] at h
theorem Q2 {α:Type} {b:Bool} {x y:RM α} {s:RS} {ws:List W} {z:α} (h:(RM.alt b x y).run s=some (ws,z)):(b=true/\x.run s=some (ws,z))∨(b=false/\y.run s=some (ws,z)):=by
 cases b with
 |true=>exact .inl ⟨rfl,h⟩
 |false=>exact .inr ⟨rfl,h⟩
theorem J1 {a:AV} {q:IntKind×Int} (h:yq a=some q):a=.pv (.v (.int q.1 q.2)):=by
 unfold yq at h
 split at h
 ·simp only[zm9] at h;subst h;rfl
 ·cases h
theorem J0 {K:IntKind} {a:AV} {n:Int} (h:zf K a=some n):a=.pv (.v (.int K n)):=by
 unfold zf at h
 split at h
 ·split at h
  ·rename_i hk;simp only[zm9] at h;rw[h,hk]
  ·cases h
 ·cases h
theorem Zj {a:AV} {b:Bool} (h:zY a=some b):a=.pv (.v (.bool b)):=by
 unfold zY at h
 split at h
 ·simp only[zm9] at h;subst h;rfl
 ·cases h
theorem WW {p:PV} {q:Nat×List PV} (h:zX p=some q):p=.sl q.1 q.2:=by
 unfold zX at h
 split at h
 ·simp only[zm9] at h;subst h;rfl
 ·cases h
theorem zjq {a:AV} {cs:List PV} (h:YE a=some cs):a=.pv (.agg cs):=by
 unfold YE at h
 split at h
 ·simp only[zm9] at h;subst h;rfl
 ·cases h
theorem zbe {a:AV} {cs:List PV} (h:Z5 a=some cs):a=.pv (.tup cs):=by
 unfold Z5 at h
 split at h
 ·simp only[zm9] at h;subst h;rfl
 ·cases h
theorem zbb {a:AV} {q:Nat×PV} (h:xC a=some q):a=.pv (.ifc q.1 q.2):=by
 unfold xC at h
 split at h
 ·simp only[zm9] at h;subst h;rfl
 ·cases h
theorem zbi (p:PV):∀ (n j:Nat) {s:RS} {ws:List W} {cs:List AV},(QN p j n).run s=some (ws,cs)->ws=[]/\cs=((p.cells.drop j).take n).map .pv/\j+n<=p.cells.length∨(ws=[]/\n=0/\cs=[])
 |0,j,s,ws,cs,h=>by
  obtain ⟨rfl,rfl⟩:=run_pure h
  exact .inr ⟨rfl,rfl,rfl⟩
 |n+1,j,s,ws,cs,h=>by
  simp only[QN] at h
  obtain ⟨u1,q,v1,h1,h2,rfl⟩:=zmR h
  obtain ⟨rfl,hq⟩:=zE h1
  simp only[RS.puts,zm7] at h2 ⊢
  obtain ⟨u2,r,v2,h3,h4,rfl⟩:=zmR h2
  obtain ⟨rfl,rfl⟩:=run_pure h4
  obtain ⟨hj,hq2⟩:=List.getElem?_eq_some_iff.1 hq
  left
  have hd:p.cells.drop j=q::p.cells.drop (j+1):=by rw[List.drop_eq_getElem_cons hj,hq2]
  rcases zbi p n (j+1) h3 with ⟨rfl,rfl,hl⟩|⟨rfl,rfl,rfl⟩
  ·exact ⟨rfl,by rw[hd];simp,by omega⟩
  ·exact ⟨rfl,by rw[hd];simp,by omega⟩
theorem J6 {size:Nat} {agg:Bool} {a:AV} {s:RS} {ws:List W} {cs:List AV} (h:(partsOf size agg a).run s=some (ws,cs)):ws=[]/\cs=z9 a/\(z9 a).length=size:=by
 have K:(do need (decide ((z9 a).length=size));pure (z9 a):RM (List AV)).run s=some (ws,cs)->ws=[]/\cs=z9 a/\(z9 a).length=size:=fun h=>by
  obtain ⟨u1,_,v1,h1,h2,rfl⟩:=zmR h
  obtain ⟨rfl,hn⟩:=z5 h1
  obtain ⟨rfl,rfl⟩:=run_pure h2
  exact ⟨rfl,rfl,of_decide_eq_true hn⟩
 cases a with
 |pv p=>
  simp only[partsOf] at h
  split at h
  ·obtain ⟨u1,_,v1,h1,h2,rfl⟩:=zmR h
   obtain ⟨rfl,hn⟩:=z5 h1
   have hn':=of_decide_eq_true hn
   simp only[RS.puts,zm7] at h2 ⊢
   rcases zbi p _ _ h2 with ⟨rfl,rfl,_⟩|⟨rfl,rfl,rfl⟩
   ·refine ⟨rfl,?_,by simpa[z9] using hn'⟩
    simp only[List.drop_zero,z9]
    rw[List.take_of_length_le (by omega)]
   ·refine ⟨rfl,?_,by simpa[z9] using hn'⟩
    have:p.cells=[]:=List.length_eq_zero_iff.1 hn'
    simp[z9,this]
  ·obtain ⟨u1,_,v1,h1,h2,rfl⟩:=zmR h
   obtain ⟨rfl,hn⟩:=z5 h1
   obtain ⟨rfl,rfl⟩:=run_pure h2
   simp only[zm8,decide_eq_true_eq] at hn
   have:p.cells=[p]:=by cases p<;>simp_all [PV.cells,PV.isCell]
   exact ⟨rfl,by simp[z9,this],by simp[z9,this,hn.2]⟩
 |_=>exact K h
theorem qv:∀ {x y:List AV},YK x y=true->x=y
 |[],[],_=>rfl
 |a::x,b::y,h=>by
  simp only[YK,zm8] at h
  have h1:a=b:=by
   have:=h.1
   cases a<;>cases b<;>simp_all [zb0]
  rw[h1,qv h.2]
 |[],_::_,h=>by simp[YK] at h
 |_::_,[],h=>by simp[YK] at h
theorem zgw {old new c:AV} {s:RS} {ws:List W} (h:(Jf old new).run s=some (ws,c)):ws=[]/\c=new:=by
 unfold Jf at h
 split at h
 ·obtain ⟨u1,q,v1,h1,h2,rfl⟩:=zmR h
  obtain ⟨rfl,hq⟩:=zE h1
  obtain ⟨rfl,rfl⟩:=run_pure h2
  exact ⟨rfl,by cases new<;>simp_all [zb]⟩
 ·obtain ⟨u1,q,v1,h1,h2,rfl⟩:=zmR h
  obtain ⟨rfl,hq⟩:=zE h1
  obtain ⟨rfl,rfl⟩:=run_pure h2
  exact ⟨rfl,by cases new<;>simp_all [zO]⟩
 ·obtain ⟨u1,q,v1,h1,h2,rfl⟩:=zmR h
  obtain ⟨rfl,hq⟩:=z5 h1
  obtain ⟨rfl,rfl⟩:=run_pure h2
  exact ⟨rfl,by cases new<;>simp_all [Qs]⟩
 ·rename_i f x y
  obtain ⟨u1,q,v1,h1,h2,rfl⟩:=zmR h
  obtain ⟨rfl,hq⟩:=z5 h1
  obtain ⟨rfl,rfl⟩:=run_pure h2
  refine ⟨rfl,?_⟩
  cases new<;>simp only[ZI,Bool.false_eq_true,zm8] at hq
  rename_i f' x' y'
  obtain ⟨⟨q1,q2⟩,q3⟩:=hq
  have:f=f':=by cases f<;>cases f'<;>simp_all [zbZ]
  rw[this,qv q2,qv q3]
 ·obtain ⟨u1,q,v1,h1,h2,rfl⟩:=zmR h
  obtain ⟨rfl,hq⟩:=z5 h1
  obtain ⟨rfl,rfl⟩:=run_pure h2
  exact ⟨rfl,by cases new<;>simp_all [wD]⟩
 ·exact (zr h).elim
theorem rX:∀ (old:List AV) (j:Nat) (new:List AV) {s:RS} {ws:List W} {cs:List AV},(VZ old j new).run s=some (ws,cs)->ws=[]/\cs=new.drop j/\new.length=old.length+j
 |[],j,new,s,ws,cs,h=>by
  obtain ⟨u1,q,v1,h1,h2,rfl⟩:=zmR h
  obtain ⟨rfl,hq⟩:=z5 h1
  obtain ⟨rfl,rfl⟩:=run_pure h2
  have:=of_decide_eq_true hq
  exact ⟨rfl,by rw[List.drop_eq_nil_of_le (by omega)],by simpa using this⟩
 |c::old,j,new,s,ws,cs,h=>by
  simp only[VZ] at h
  obtain ⟨u1,q,v1,h1,h2,rfl⟩:=zmR h
  obtain ⟨rfl,hq⟩:=zE h1
  simp only[RS.puts,zm7] at h2 ⊢
  obtain ⟨u2,c',v2,h3,h4,rfl⟩:=zmR h2
  obtain ⟨rfl,rfl⟩:=zgw h3
  simp only[RS.puts,zm7] at h4 ⊢
  obtain ⟨u3,r,v3,h5,h6,rfl⟩:=zmR h4
  obtain ⟨rfl,rfl,hl⟩:=rX old (j+1) new h5
  obtain ⟨rfl,rfl⟩:=run_pure h6
  obtain ⟨hj,hq2⟩:=List.getElem?_eq_some_iff.1 hq
  exact ⟨rfl,by rw[List.drop_eq_getElem_cons hj,hq2],by simp;omega⟩
theorem Jg:∀ (old:za) (j:Nat) (new:za) {s:RS} {ws:List W} {cs:za},(Wr old j new).run s=some (ws,cs)->ws=[]/\cs=new.drop j/\new.length=old.length+j
 |[],j,new,s,ws,cs,h=>by
  obtain ⟨u1,q,v1,h1,h2,rfl⟩:=zmR h
  obtain ⟨rfl,hq⟩:=z5 h1
  obtain ⟨rfl,rfl⟩:=run_pure h2
  have:=of_decide_eq_true hq
  exact ⟨rfl,by rw[List.drop_eq_nil_of_le (by omega)],by simpa using this⟩
 |c::old,j,new,s,ws,cs,h=>by
  simp only[Wr] at h
  obtain ⟨u1,q,v1,h1,h2,rfl⟩:=zmR h
  obtain ⟨rfl,hq⟩:=zE h1
  simp only[RS.puts,zm7] at h2 ⊢
  obtain ⟨u2,c',v2,h3,h4,rfl⟩:=zmR h2
  obtain ⟨rfl,rfl,_⟩:=rX c 0 q h3
  simp only[RS.puts,zm7] at h4 ⊢
  obtain ⟨u3,r,v3,h5,h6,rfl⟩:=zmR h4
  obtain ⟨rfl,rfl,hl⟩:=Jg old (j+1) new h5
  obtain ⟨rfl,rfl⟩:=run_pure h6
  obtain ⟨hj,hq2⟩:=List.getElem?_eq_some_iff.1 hq
  exact ⟨rfl,by rw[List.drop_eq_getElem_cons hj,hq2],by simp;omega⟩
theorem rY:∀ (l:List (Option (Nat×Nat))) (j:Nat) (cs:List AV) {s:RS} {ws:List W} {cs':List AV},(V0 l j cs).run s=some (ws,cs')->ws=[]/\cs' = cs.drop j
 |[],j,cs,s,ws,cs',h=>by
  obtain ⟨u1,q,v1,h1,h2,rfl⟩:=zmR h
  obtain ⟨rfl,hq⟩:=z5 h1
  obtain ⟨rfl,rfl⟩:=run_pure h2
  have:=of_decide_eq_true hq
  exact ⟨rfl,by rw[List.drop_eq_nil_of_le (by omega)]⟩
 |p::l,j,cs,s,ws,cs',h=>by
  simp only[V0] at h
  obtain ⟨u1,c,v1,h1,h2,rfl⟩:=zmR h
  obtain ⟨rfl,hq⟩:=zE h1
  simp only[RS.puts,zm7] at h2 ⊢
  obtain ⟨u2,c',v2,h3,h4,rfl⟩:=zmR h2
  have:u2=[]/\c' = c:=by
   cases p with
   |some x=>
    obtain ⟨u5,q,v5,h5,h6,rfl⟩:=zmR h3
    obtain ⟨rfl,hx⟩:=zE h5
    obtain ⟨rfl,rfl⟩:=run_pure h6
    exact ⟨rfl,by cases c<;>simp_all [zO]⟩
   |none=>
    obtain ⟨u5,q,v5,h5,h6,rfl⟩:=zmR h3
    obtain ⟨rfl,hx⟩:=zE h5
    obtain ⟨rfl,rfl⟩:=run_pure h6
    exact ⟨rfl,by cases c<;>simp_all [zb]⟩
  obtain ⟨rfl,rfl⟩:=this
  simp only[RS.puts,zm7] at h4 ⊢
  obtain ⟨u3,r,v3,h5,h6,rfl⟩:=zmR h4
  obtain ⟨rfl,rfl⟩:=rY l (j+1) cs h5
  obtain ⟨rfl,rfl⟩:=run_pure h6
  obtain ⟨hj,hq2⟩:=List.getElem?_eq_some_iff.1 hq
  exact ⟨rfl,by rw[List.drop_eq_getElem_cons hj,hq2]⟩
theorem rZ {r:RP} {a a':AV} {s:RS} {ws:List W} (h:(Jh r a).run s=some (ws,a')):ws=[]/\a' = a:=by
 cases r with
 |u e sz=>
  obtain ⟨u2,q,v2,h3,h4,rfl⟩:=zmR h
  obtain ⟨rfl,hq⟩:=zE h3
  obtain ⟨rfl,rfl⟩:=run_pure h4
  exact ⟨rfl,by cases a<;>simp_all [zO]⟩
 |a l=>
  obtain ⟨u2,q,v2,h3,h4,rfl⟩:=zmR h
  obtain ⟨rfl,hq⟩:=zE h3
  simp only[RS.puts,zm7] at h4 ⊢
  obtain ⟨u5,cs,v5,h5,h6,rfl⟩:=zmR h4
  obtain ⟨rfl,rfl⟩:=rY _ _ _ h5
  obtain ⟨rfl,rfl⟩:=run_pure h6
  exact ⟨rfl,by cases a<;>simp_all [za9]⟩
theorem zjs {k n:Nat} {a:AV} {q:AV×List PV} (h:wP k n a=some q):a=.tup k q.1 q.2/\q.2.length=n:=by
 cases a<;>simp[wP] at h
 obtain ⟨⟨rfl,h2⟩,rfl⟩:=h
 exact ⟨rfl,h2⟩
theorem zbI {E:Env} {d:Option Nat} {f:Nat} {a:AV} {s:RS} {ws:List W} {pn:Pn} (h:(QZ E d f a).run s=some (ws,pn)):(done d a).run s=some (ws,pn):=by
 unfold QZ at h
 obtain ⟨u1,a',v1,h1,h2,rfl⟩:=zmR h
 unfold r7 at h1
 have:u1=[]/\a' = a:=by
  split at h1
  ·exact rZ h1
  ·obtain ⟨u2,q,v2,h3,h4,rfl⟩:=zmR h1
   obtain ⟨rfl,hq⟩:=zE h3
   obtain ⟨rfl,hn⟩:=zjs hq
   simp only[RS.puts,zm7] at h4 ⊢
   obtain ⟨u5,b,v5,h5,h6,rfl⟩:=zmR h4
   obtain ⟨rfl,rfl⟩:=rZ h5
   obtain ⟨rfl,rfl⟩:=run_pure h6
   exact ⟨rfl,rfl⟩
  ·obtain ⟨u2,q,v2,h3,h4,rfl⟩:=zmR h1
   obtain ⟨rfl,hq⟩:=zE h3
   obtain ⟨rfl,rfl⟩:=run_pure h4
   exact ⟨rfl,by cases a<;>simp_all [zb]⟩
 obtain ⟨rfl,rfl⟩:=this
 exact h2
theorem jZ {α:Type}:∀ {l:List (Nat×α)} {n:Nat} {a:α},find l n=some a->(n,a)∈l
 |(k,b)::l,n,a,h=>by
  simp only[find] at h
  split at h
  ·rename_i hk;subst hk;simp at h;subst h;exact List.mem_cons_self
  ·exact List.mem_cons_of_mem _ (jZ h)
section
variable {P:Program} {E:Env} {G G':Gh} {w w':World} {X:Hd->Prop} {s:RS} {a a':Act}
theorem conc.fr (f:Fr G w G' w' X) {v:Var} {y:Value} (hX:∀ l o,v=.c l o->¬X (.box l)) (ht:∀ t,v=.s t->tmp a' t=tmp a t) (h:conc G a w v y):conc G' a' w' v y:=by
 cases v with
 |s t=>exact h.trans (ht t rfl).symm
 |c l o=>
  obtain ⟨b,h1,h2,h3⟩:=h
  obtain ⟨k1,k2⟩:=f.ka b _ h2 (hX l o rfl)
  exact ⟨b,f.ph _ _ h1,k1,(World.cell?_of_block (a:=⟨b,o,none⟩) k2).trans h3⟩
theorem RefOk.fr {s':RS} (f:Fr G w G' w' X) (hm:∀ v,s'.md v=false->s.md v=false) (hX:∀ v,s'.md v=false->∀ l o,v=.c l o->¬X (.box l)) (ht:∀ v,s'.md v=false->∀ t,v=.s t->tmp a' t=tmp a t) {r:Ref} {x:Value} (h:RefOk G s a w r x):RefOk G' s' a' w' r x:=by
 cases r with
 |whole v=>exact fun hv=>(h (hm v hv)).fr f (hX v hv) (ht v hv)
 |elem v sz i o=>
  intro hv
  obtain ⟨b,n,cap,h1,h2⟩:=h (hm v hv)
  exact ⟨b,n,cap,h1.fr f (hX v hv) (ht v hv),h2⟩
def xl:Hd->Prop|.hand _=>True|_=>False
theorem Rel.slot (h:Rel P E G s a w) (f:Fr G w G' w' X) (wo:WOk P E G' w') (hp:∀ l b,G'.ph l=some b->G.ph l=some b) (t:Nat) (hX:∀ k,X k->(∃ j,k=.s t j)∨xl k) {x:AV} {r:Option Ref} {m:Bool} {v:Value}
  (ht:tmp a' t=v) (ho:∀ u,u≠t->tmp a' u=tmp a u) (hv:VRel P E G' w' (fun j=>.s t j) x v) (hr:∀ q,r=some q->RefOk G s a w q v) (hm:m=true∨v=tmp a t) :
  Rel P E G' (s.put (.s t x r m)) a' w':=by
 have nb:∀ l,¬X (.box l):=fun l hx=>by rcases hX _ hx with ⟨j,hj⟩|hj<;>first|cases hj|exact hj
 have nc:∀ l o,¬X (.c l o):=fun l o hx=>by rcases hX _ hx with ⟨j,hj⟩|hj<;>first|cases hj|exact hj
 have ns:∀ u j,u≠t->¬X (.s u j):=fun u j hu hx=>by
  rcases hX _ hx with ⟨j',hj⟩|hj
  ·cases hj;exact hu rfl
  ·exact hj
 have hmd:∀ v',(s.put (.s t x r m)).md v' = false->s.md v' = false:=by
  intro v' hv'
  cases v' with
  |s u=>
   simp only[RS.md,RS.put] at hv' ⊢
   split at hv'
   ·rename_i hu;subst hu;simp at hv';exact hv'.1
   ·exact hv'
  |c l o=>exact hv'
 have htm:∀ v',(s.put (.s t x r m)).md v' = false->∀ u,v' = .s u->tmp a' u=tmp a u:=by
  intro v' hv' u hu
  subst hu
  by_cases hut:u=t
  ·subst hut
   rcases hm with hm|hm
   ·simp[RS.md,RS.put,hm] at hv'
   ·rw[ht,hm]
  ·exact ho u hut
 have ref:∀ q y,RefOk G s a w q y->RefOk G' (s.put (.s t x r m)) a' w' q y:=fun q y hq=>hq.fr f hmd (fun v' _ l o _=>nb l) htm
 refine ⟨wo,fun l cs hl b hb=>?_,fun u=>?_,fun u q hq=>?_,fun l b hb=>h.dm l b (hp l b hb)⟩
 ·have hl':s.H[l]? = some cs:=hl
  exact (h.bx l cs hl' b (hp l b hb)).fr f (nb l) (nc l)
 ·by_cases hu:u=t
  ·subst hu
   simp only[RS.put,if_true]
   rw[ht];exact hv
  ·simp only[RS.put,if_neg hu]
   rw[ho u hu]
   exact (h.sl u).fr f (fun j=>ns u j hu)
 ·by_cases hu:u=t
  ·subst hu
   simp only[RS.put,if_true] at hq
   rw[ht]
   exact ref q _ (hr q hq)
  ·simp only[RS.put,if_neg hu] at hq
   rw[ho u hu]
   exact ref q _ (h.rf u q hq)
theorem Rel.boxw (h:Rel P E G s a w) (f:Fr G w G' w' X) (wo:WOk P E G' w') (hp:∀ l b,G'.ph l=some b->G.ph l=some b) (l:Nat) (hX:∀ k,X k->k=.box l∨(∃ o,k=.c l o)∨xl k)
  {s':RS} (h1:s'.sl=s.sl) (h2:∀ l',l'≠l->s'.H[l']? = s.H[l']?/\s'.mb l' = s.mb l') (h3:∀ cs b,s'.H[l]? = some cs->G'.ph l=some b->BoxOk G' w' l cs b)
  (h4:s'.mb l=true∨(s'.mb l=s.mb l/\¬X (.box l))) (h5:s'.H.length=s.H.length):Rel P E G' s' a w':=by
 have nb:∀ l',l'≠l->¬X (.box l'):=fun l' hl hx=>by rcases hX _ hx with hj|⟨o,hj⟩|hj<;>first|(cases hj;exact hl rfl)|cases hj|exact hj
 have nc:∀ l' o,l'≠l->¬X (.c l' o):=fun l' o hl hx=>by rcases hX _ hx with hj|⟨o,hj⟩|hj<;>first|(cases hj;exact hl rfl)|cases hj|exact hj
 have ns:∀ u j,¬X (.s u j):=fun u j hx=>by rcases hX _ hx with hj|⟨o,hj⟩|hj<;>first|cases hj|exact hj
 have hmd:∀ v',s'.md v' = false->s.md v' = false:=by
  intro v' hv'
  cases v' with
  |s u=>simp only[RS.md,h1] at hv' ⊢;exact hv'
  |c l' o=>
   simp only[RS.md] at hv' ⊢
   by_cases hl:l' = l
   ·subst hl
    rcases h4 with h4|⟨h4,_⟩
    ·rw[h4] at hv';cases hv'
    ·rw[←h4];exact hv'
   ·rw[←(h2 l' hl).2];exact hv'
 have hxb:∀ v',s'.md v' = false->∀ l' o,v' = .c l' o->¬X (.box l'):=by
  intro v' hv' l' o hvo
  subst hvo
  by_cases hl:l' = l
  ·subst hl
   rcases h4 with h4|⟨_,h4⟩
   ·simp only[RS.md] at hv';rw[h4] at hv';cases hv'
   ·exact h4
  ·exact nb l' hl
 refine ⟨wo,fun l' cs hl b hb=>?_,fun u=>?_,fun u q hq=>?_,fun l' b hb=>h5▸h.dm l' b (hp l' b hb)⟩
 ·by_cases hll:l' = l
  ·subst hll;exact h3 cs b hl hb
  ·exact (h.bx l' cs ((h2 l' hll).1▸hl) b (hp l' b hb)).fr f (nb l' hll) (fun o=>nc l' o hll)
 ·rw[h1];exact (h.sl u).fr f (fun j=>ns u j)
 ·rw[h1] at hq
  exact (h.rf u q hq).fr f hmd hxb (fun _ _ _ _=>rfl)
theorem URel.freezeK (wo:WOk P E G w) {k:Hd} (hk:k≠.imm) (hk':k≠.frn) {e sz:Nat} {xs:List PV} {v:Value} (u:URel G w k e sz xs v) :
  ∃ G':Gh,Fr G w G' w (fun q=>q=k)/\WOk P E G' w/\PRep G'.g (.sl sz xs) v/\G'.ph=G.ph/\∀ b,G.ka b=some k->G'.ka b=some .imm∨G'.ka b=some k:=by
 obtain ⟨h0,us,⟨hl,h1⟩,h2,h3⟩:=u
 rcases h1 with ⟨rfl,hn⟩|⟨b,cap,cur,rfl,_,hb,hnc,hcm,hcs,htk⟩
 ·obtain rfl:xs=[]:=List.eq_nil_of_length_eq_zero hn
  exact ⟨G,⟨fun _ _ h=>h,fun _ _ h=>h,fun _ _ h _=>⟨h,rfl⟩,⟨fun e=>hk e.symm,fun e=>hk' e.symm⟩,rfl,rfl,rfl,Nat.le_refl _⟩,wo,.sl0,rfl,fun b hb=>.inr hb⟩
 ·have hkb:G.ka b=some k:=h3 b rfl
  have hgb:∀ c,G.g b≠some c:=fun c hc=>by
   have:=(wo.imm b c hc).1
   rw[hkb] at this
   exact hk (Option.some.inj this)
  let G':Gh:=⟨fun b' => if b' = b then some cur else G.g b',G.ph,fun b' => if b' = b then some .imm else G.ka b'⟩
  have hg:∀ b' c,G.g b' = some c->G'.g b' = some c:=fun b' c hc=>by
   show (if b' = b then some cur else G.g b')=some c
   rw[if_neg (fun e=>by subst e;exact hgb c hc)];exact hc
  have f:Fr G w G' w (fun q=>q=k):=⟨hg,fun _ _ h=>h,fun b' q hq hnq=>by
    refine ⟨?_,rfl⟩
    show (if b' = b then some Hd.imm else G.ka b')=some q
    by_cases hbb:b' = b
    ·subst hbb;rw[hkb] at hq;exact absurd (Option.some.inj hq).symm hnq
    ·rw[if_neg hbb];exact hq,⟨fun e=>hk e.symm,fun e=>hk' e.symm⟩,rfl,rfl,rfl,Nat.le_refl _⟩
  refine ⟨G',f,wo.fr f ?_ ?_,?_,rfl,fun b' hb' => ?_⟩
  rotate_right 1
  ·by_cases hbb:b' = b
   ·exact .inl (by simp[G',hbb])
   ·exact .inr (by simpa[G',hbb] using hb')
  ·intro b' c hc
   by_cases hbb:b' = b
   ·subst hbb
    have hc':some cur=some c:=by simpa[G'] using hc
    cases hc'
    exact ⟨by simp[G'],e,_,hb⟩
   ·have hc':G.g b' = some c:=by simpa[G',hbb] using hc
    obtain ⟨k1,k2⟩:=wo.imm b' c hc'
    exact ⟨by simpa[G',hbb] using k1,k2⟩
  ·intro b' q hq
   by_cases hbb:b' = b
   ·subst hbb;exact (Array.getElem?_eq_some_iff.1 hb).1
   ·exact wo.dom b' q (by simpa[G',hbb] using hq)
  ·have hin:∀ (i:Nat) (x:PV) (j:Nat) (q:PV) (z:Value),xs[i]? = some x->x.cells[j]? = some q->cur[0+i*sz+j]? = some z->us[i*sz+j]? = some z:=by
    intro i x j q z hx hq hz
    have hi:i<xs.length:=(List.getElem?_eq_some_iff.1 hx).1
    have hj:j<sz:=by rw[←h2.1 x (List.mem_of_getElem? hx)];exact (List.getElem?_eq_some_iff.1 hq).1
    have hlt:i*sz+j<xs.length*sz:=by
     calc i*sz+j<i*sz+sz:=by omega
      _=(i+1)*sz:=by rw[Nat.add_mul,Nat.one_mul]
      _<=xs.length*sz:=Nat.mul_le_mul_right _ hi
    rw[←htk,List.getElem?_take,if_pos hlt]
    simpa using hz
   refine .sl (c:=cur) (by simp[G']) hnc (by rw[hcs,Nat.zero_add];exact Nat.mul_le_mul_right _ hnc) h2.1 ?_ ?_
   ·exact fun i x j q z hx hq hz=>(h2.2 i x j q z hx hq (hin i x j q z hx hq hz)).1
   ·exact fun i x j q z hx hq hz=>((h2.2 i x j q z hx hq (hin i x j q z hx hq hz)).2).mono hg
theorem URel.freeze (wo:WOk P E G w) {k:Hd} (hk:k≠.imm) (hk':k≠.frn) {e sz:Nat} {xs:List PV} {v:Value} (u:URel G w k e sz xs v) :
  ∃ G':Gh,Fr G w G' w (fun q=>q=k)/\WOk P E G' w/\PRep G'.g (.sl sz xs) v/\G'.ph=G.ph:=by
 obtain ⟨G',h1,h2,h3,h4,_⟩:=URel.freezeK wo hk hk' u
 exact ⟨G',h1,h2,h3,h4⟩
end
def ZRel:AV->Value->Prop
 |.pv (.v x),y=>okV x=true/\x=y
 |.slu _ sz [],y=>y=.slice none 0 0/\0<sz
 |.dead,y=>y.oneCell' = true
 |_,_=>False
def Y2:TypeDesc->Bool
 |.struct _=>true
 |.array _ _=>true
 |_=>false
structure TyOk (P:Program) (t:Nat) (i:TI):Prop where
 info:∃ k z,P.info? t=some k/\k.size=i.size/\k.zero=some z/\z.cells.size=i.zero.length/\i.zero.length=i.size/\(∀ (j:Nat) (a:AV) (x:Value),i.zero[j]? = some a->z.cells[j]? = some x->ZRel a x)
 un:∃ d,P.underlying t=some d/\i.agg=Y2 d
 one:i.agg=false->i.size=1
 el:∀ x:Nat×Nat×Nat,i.el=some x->P.underlying t=some (.slice x.1)/\∃ k z,P.info? x.1=some k/\k.size=x.2.1/\k.bytes=x.2.2/\k.zero=some z/\z.cells.size=x.2.1/\0<x.2.1
 arr:∀ x:Nat×Nat,i.arr=some x->∃ e k,P.underlying t=some (.array x.1 e)/\P.info? e=some k/\k.size=x.2/\e=i.ae
 int:∀ k,i.int=some k->P.underlying t=some (.int k)
 bool:i.bool=true->P.underlying t=some .bool
 str:i.str=true->P.underlying t=some .string
 ifc:i.ifc=true->∃ ms,P.underlying t=some (.interface ms)
 fields:∀ (f:Nat) (x:Nat×Nat),i.fields[f]? = some x->∃ (fs:Array Field) (fd:Field),P.underlying t=some (.struct fs)/\fs[f]? = some fd/\fd.offset=x.1/\fd.type=x.2
 struct:i.agg=true->i.arr=none->∃ fs:Array Field,P.underlying t=some (.struct fs)/\fs.size=i.fields.length
 eq:i.eq=true->∀ (w:World) (vs us:Array Value) (cs ds:List PV) (z:Bool) (g:Nat->Option (Array Value)),PRep g (.agg cs) (.agg vs)->PRep g (.agg ds) (.agg us)->xd i.tags cs ds=some z->
  (Op.equal t (.agg vs) (.agg us)).run P w=.ok z w/\P.eqGuardType P.depth t=false
structure SysOk (P:Program) (E:Env):Prop where
 ty:∀ t i,find E.ti t=some i->TyOk P t i
section
variable {P:Program} {E:Env} {G G':Gh} {w w':World} {X:Hd->Prop} {s:RS} {a a':Act}
theorem yX {t:Nat} {ws:List W} {i:TI} (h:(ty E t).run s=some (ws,i)):ws=[]/\find E.ti t=some i:=zE h
def shd:AV->Bool
 |.slu ..=>false
 |.agg cs=>!cs.any xr
 |.tup ..=>false
 |_=>true
theorem BRel.any {h h':Hd}:∀ {x:AV} {v:Value},xr x=false->BRel G w h x v->BRel G w h' x v
 |.slu ..,_,hx,_=>by simp[xr] at hx
 |.dead,_,_,u=>u
 |.pv _,_,_,u=>u
 |.ptr ..,_,_,u=>u
 |.clo ..,_,_,u=>u
 |.agg ..,_,_,u=>u.elim
 |.elp ..,_,_,u=>u.elim
 |.gm ..,_,_,u=>u.elim
 |.mp ..,_,_,u=>u.elim
 |.tup ..,_,_,u=>u.elim
 |.und,_,_,u=>u.elim
theorem VRel.any {h h':Nat->Hd}:∀ {x:AV} {v:Value},shd x=true->VRel P E G w h x v->VRel P E G w h' x v
 |.slu ..,_,hx,_=>by simp[shd] at hx
 |.tup ..,_,hx,_=>by simp[shd] at hx
 |.agg cs,v,hx,u=>by
  obtain ⟨vs,hv,h1,h2⟩:=u
  refine ⟨vs,hv,h1,fun j q y hq hy=>(h2 j q y hq hy).any ?_⟩
  simp only[shd,Bool.not_eq_true',List.any_eq_false] at hx
  simpa using hx q (List.mem_of_getElem? hq)
 |.dead,_,_,u=>u
 |.pv _,_,_,u=>u
 |.ptr ..,_,_,u=>u
 |.clo ..,_,_,u=>u
 |.elp ..,_,_,u=>u
 |.gm ..,_,_,u=>u
 |.mp ..,_,_,u=>u
 |.und,_,_,u=>u
theorem BRel.v {h:Hd} {h':Nat->Hd} (h0:h' 0=h):∀ {x:AV} {v:Value},BRel G w h x v->VRel P E G w h' x v
 |.slu ..,_,u=>by show URel G w (h' 0) _ _ _ _;rw[h0];exact u
 |.dead,_,u=>trivial
 |.pv _,_,u=>u.2
 |.ptr ..,_,u=>u
 |.clo ..,_,u=>u
 |.agg ..,_,u=>u.elim
 |.elp ..,_,u=>u.elim
 |.gm ..,_,u=>u.elim
 |.mp ..,_,u=>u.elim
 |.tup ..,_,u=>u.elim
 |.und,_,u=>u.elim
theorem URel.nil {h:Hd} {e sz:Nat} (h0:0<sz):URel G w h e sz [] (.slice none 0 0) :=
 ⟨h0,[],World.ownsRow_nil w 0 e sz,⟨fun x hx=>by simp at hx,fun i x j q u hx=>by simp at hx⟩,fun b hb=>by simp[Value.ownBlock] at hb⟩
theorem URel.nil_shared {h:Hd} {e sz:Nat} {v:Value} (u:URel G w h e sz [] v):PRep G.g (.sl sz []) v:=by
 obtain ⟨_,us,h1,_,_⟩:=u
 rcases h1.2 with ⟨rfl,_⟩|⟨g,cap,cur,rfl,_⟩<;>exact .sl0
theorem zgQ (hS:SysOk P E) {t:Nat} {v:Value} {x:AV} (h:Wu E t v=some x) (hh:Nat->Hd):VRel P E G w hh x v:=by
 unfold Wu at h
 split at h
 ·cases h;exact PRep.v rfl
 ·cases h;exact PRep.v rfl
 ·cases h;exact PRep.v rfl
 ·cases h;exact PRep.v rfl
 ·cases h;exact PRep.v rfl
 ·cases hf:find E.ti t with
  |none=>simp[hf] at h
  |some i=>
   cases he:i.el with
   |none=>simp[hf,he] at h
   |some q=>
    simp only[hf,Option.bind_some,he,Option.map_some,zm9] at h
    subst h
    obtain ⟨_,k,z,_,_,_,_,_,h0⟩:=(hS.ty t i hf).el q he
    exact URel.nil h0
 ·cases h
theorem zgR {t:Nat} {v:Value} {x:AV} (h:Wu E t v=some x):shd x=true∨∃ e sz,x=.slu e sz []:=by
 unfold Wu at h
 split at h
 iterate 5 (cases h;exact .inl rfl)
 ·cases hf:find E.ti t with
  |none=>simp[hf] at h
  |some i=>
   cases he:i.el with
   |none=>simp[hf,he] at h
   |some q=>simp only[hf,Option.bind_some,he,Option.map_some,zm9] at h;exact .inr ⟨_,_,h.symm⟩
 ·cases h
theorem w7 (hS:SysOk P E) (wo:WOk P E G w) {t:Nat} {x:Operand} {ws:List W} {v:AV} (h:(Zi E t x).run s=some (ws,v)) (hh:Nat->Hd):ws=[]/\VRel P E G w hh v (a.eval x)/\(shd v=true∨∃ e sz,v=.slu e sz []):=by
 cases x with
 |const c=>
  obtain ⟨h1,h2⟩:=zE h
  exact ⟨h1,zgQ hS h2 hh,zgR h2⟩
 |tmp t=>exact (zr h).elim
 |func f=>obtain ⟨h1,rfl⟩:=run_pure h;exact ⟨h1,PRep.v rfl,.inl rfl⟩
 |global g=>
  simp only[Zi] at h
  cases hg:find E.glob g with
  |some p=>
   simp only[hg] at h
   obtain ⟨h1,rfl⟩:=run_pure h
   exact ⟨h1,wo.glob g p hg,.inl rfl⟩
  |none=>
   simp only[hg] at h
   cases hm:find E.maps g with
   |none=>simp only[hm] at h;exact (zr h).elim
   |some l=>
    simp only[hm] at h
    obtain ⟨h1,rfl⟩:=run_pure h
    exact ⟨h1,⟨rfl,by simp[hm]⟩,.inl rfl⟩
theorem vV (h:Rel P E G s a w) {v:Var} {ws:List W} {x:AV} (hr:(varOf v).run s=some (ws,x)) :
  ws=[]/\s.md v=false/\∀ y,conc G a w v y->VRel P E G w (fun j=>match v with|.s t=>.s t j|.c l o=>.c l o) x y:=by
 cases v with
 |s t=>
  simp only[varOf] at hr
  obtain ⟨u,c,v,h1,h2,rfl⟩:=zmR hr
  obtain ⟨rfl,rfl⟩:=yS h1
  simp only[RS.puts] at h2
  split at h2
  ·exact (zr h2).elim
  ·rename_i hm
   obtain ⟨rfl,rfl⟩:=run_pure h2
   refine ⟨rfl,by simpa[RS.md] using hm,fun y hy=>?_⟩
   rw[show y=tmp a t from hy]
   exact h.sl t
 |c l o=>
  simp only[varOf] at hr
  obtain ⟨u,c,v,h1,h2,rfl⟩:=zmR hr
  obtain ⟨rfl,rfl⟩:=vD h1
  simp only[RS.puts] at h2
  split at h2
  ·exact (zr h2).elim
  ·rename_i hm
   obtain ⟨rfl,h3⟩:=zE h2
   refine ⟨rfl,by simpa[RS.md] using hm,fun y hy=>?_⟩
   obtain ⟨b,hb,_,hc⟩:=hy
   cases hl:s.H[l]? with
   |none=>simp[hl] at h3
   |some cs=>
    simp only[hl,Option.bind_some] at h3
    obtain ⟨_,T,c,hb1,hsz,hcell⟩:=h.bx l cs hl b hb
    have hy':c[o]? = some y:=by simpa[World.cell?,hb1] using hc
    exact (hcell o x y h3 hy').v rfl
theorem xG (hS:SysOk P E) (h:Rel P E G s a w) {t:Nat} {x:Operand} {ws:List W} {v:AV} (hr:(rdv E t x).run s=some (ws,v)):ws=[]/\∃ hh,VRel P E G w hh v (a.eval x):=by
 cases x with
 |tmp i=>
  simp only[rdv] at hr
  obtain ⟨u,c,v',h1,h2,rfl⟩:=zmR hr
  obtain ⟨rfl,rfl⟩:=yS h1
  simp only[RS.puts] at h2
  split at h2
  ·obtain ⟨rfl,rfl⟩:=run_pure h2
   exact ⟨rfl,_,h.sl i⟩
  ·rename_i q hq
   obtain ⟨rfl,hm,hv⟩:=vV h h2
   exact ⟨rfl,_,hv _ (h.rf i _ hq hm)⟩
  ·exact (zr h2).elim
 |const c=>obtain ⟨h1,h2,_⟩:=w7 (a:=a) hS h.wo (t:=t) (x:=.const c) hr (fun _=>.imm);exact ⟨h1,_,h2⟩
 |global c=>obtain ⟨h1,h2,_⟩:=w7 (a:=a) hS h.wo (t:=t) (x:=.global c) hr (fun _=>.imm);exact ⟨h1,_,h2⟩
 |func c=>obtain ⟨h1,h2,_⟩:=w7 (a:=a) hS h.wo (t:=t) (x:=.func c) hr (fun _=>.imm);exact ⟨h1,_,h2⟩
end
def X0 (k:Hd):Prop:=k≠.imm/\k≠.frn
def X1 (k:Hd):Prop:=k≠.imm/\k≠.frn/\¬xl k
theorem X0_old:¬X0 .imm/\¬X0 .frn:=⟨fun h=>h.1 rfl,fun h=>h.2 rfl⟩
theorem X1_old:¬X1 .imm/\¬X1 .frn:=⟨fun h=>h.1 rfl,fun h=>h.2.1 rfl⟩
theorem xn:∀ k,X1 k->X0 k:=fun k h=>⟨h.1,h.2.1⟩
section
variable {P:Program} {E:Env} {G G':Gh} {w w':World} {X:Hd->Prop} {s:RS} {a a':Act}
theorem Rel.fr (h:Rel P E G s a w) (f:Fr G w G' w' X) (wo:WOk P E G' w') (hp:∀ l b,G'.ph l=some b->G.ph l=some b) (hX:∀ k,X k->xl k):Rel P E G' s a w':=by
 have nb:∀ l',¬X (.box l'):=fun l' hx=>hX _ hx
 have nc:∀ l' o,¬X (.c l' o):=fun l' o hx=>hX _ hx
 have ns:∀ u j,¬X (.s u j):=fun u j hx=>hX _ hx
 exact ⟨wo,fun l cs hl b hb=>(h.bx l cs hl b (hp l b hb)).fr f (nb l) (nc l),fun t=>(h.sl t).fr f (ns t),fun t r hr=>(h.rf t r hr).fr f (fun _ hv=>hv) (fun v _ l o _=>nb l) (fun _ _ _ _=>rfl),fun l b hb=>h.dm l b (hp l b hb)⟩
theorem gK {h:Nat->Hd} {cs:List AV} {vs:Array Value} (hs:vs.size=cs.length) (hc:∀ (j:Nat) (q:AV) (y:Value),cs[j]? = some q->vs[j]? = some y->BRel G w (h j) q y):VRel P E G w h (VD cs) (.agg vs):=by
 unfold VD
 cases hm:cs.mapM zb with
 |none=>exact ⟨vs,rfl,hs,hc⟩
 |some ps=>
  have key:∀ (cs:List AV) (ps:List PV),cs.mapM zb=some ps->cs=ps.map .pv:=by
   intro cs
   induction cs with
   |nil=>intro ps h;simp at h;subst h;rfl
   |cons q r ih=>
    intro ps h
    simp only[List.mapM_cons,Option.bind_eq_bind,Option.bind_eq_some_iff,Option.pure_def,zm9] at h
    obtain ⟨p,hp,ps',hps,rfl⟩:=h
    cases q<;>simp[zb] at hp
    subst hp
    simp[ih ps' hps]
  have hcs:=key cs ps hm
  subst hcs
  refine PRep.agg (by simpa using hs) ?_ ?_
  ·intro q hq
   obtain ⟨j,hj,rfl⟩:=List.getElem_of_mem hq
   have hj':j<vs.size:=by rw[hs];simpa using hj
   exact (hc j (.pv ps[j]) vs[j] (by simp[hj]) (by simp[hj'])).1
  ·intro j q y hq hy
   exact (hc j (.pv q) y (by simp[hq]) hy).2
theorem zae (x:Nat):∀ (cs:List AV) (vs:List Value) (o:Nat) {G:Gh},WOk P E G w->(∀ (j:Nat) (q:AV) (y:Value),cs[j]? = some q->vs[j]? = some y->BRel G w (.s x (o+j)) q y)->
  ∃ G',Fr G w G' w (fun q=>∃ j,o<=j/\q=.s x j)/\G'.ph=G.ph/\WOk P E G' w/\∀ (j:Nat) (q:AV) (y:Value),cs[j]? = some q->vs[j]? = some y->BRel G' w .imm (vH q) y
 |[],vs,o,G,wo,h=>⟨G,Fr.refl.weaken (fun _ h=>h.elim) ⟨fun ⟨_,_,h⟩=>(by cases h),fun ⟨_,_,h⟩=>(by cases h)⟩,rfl,wo,fun j q y hq=>by simp at hq⟩
 |c::cs,vs,o,G,wo,h=>by
  have hne:∀ {o':Nat},(¬ ∃ j,o'<=j/\Hd.imm=.s x j)/\¬ ∃ j,o'<=j/\Hd.frn=.s x j:=⟨fun ⟨_,_,h⟩=>(by cases h),fun ⟨_,_,h⟩=>(by cases h)⟩
  have step:∃ G1,Fr G w G1 w (fun q=>q=.s x o)/\G1.ph=G.ph/\WOk P E G1 w/\∀ y,vs[0]? = some y->BRel G1 w .imm (vH c) y:=by
   cases hv:vs[0]? with
   |none=>exact ⟨G,Fr.refl.weaken (fun _ h=>h.elim) ⟨by simp,by simp⟩,rfl,wo,fun y hy=>by cases hy⟩
   |some y=>
    have hB:=h 0 c y rfl hv
    by_cases hs:xr c=true
    ·cases c with
     |slu e sz xs=>
      obtain ⟨G1,f,wo1,hP,hph⟩:=URel.freeze wo (by simp) (by simp) (show URel G w (.s x (o+0)) e sz xs y from hB)
      exact ⟨G1,f,hph,wo1,fun y' hy' => by cases hy';exact ⟨rfl,hP⟩⟩
     |_=>simp[xr] at hs
    ·have hs':xr c=false:=by simpa using hs
     have hu:vH c=c:=by cases c<;>first|rfl|simp[xr] at hs'
     exact ⟨G,Fr.refl.weaken (fun _ h=>h.elim) ⟨by simp,by simp⟩,rfl,wo,fun y' hy' => by cases hy';rw[hu];exact hB.any hs'⟩
  obtain ⟨G1,f1,p1,wo1,hc⟩:=step
  obtain ⟨G2,f2,p2,wo2,hcs⟩:=zae x cs (vs.drop 1) (o+1) wo1 (fun j q y hq hy=>by
   have:=h (j+1) q y (by simpa using hq) (by rw[List.getElem?_drop] at hy;rwa [Nat.add_comm])
   rw[show o+(j+1)=o+1+j by omega] at this
   exact this.fr f1 (fun e=>by injection e with _ e;omega))
  refine ⟨G2,(f1.weaken (fun k hk=>⟨o,Nat.le_refl _,hk⟩) hne).trans (f2.weaken (fun k ⟨j,hj,hk⟩=>⟨j,by omega,hk⟩) hne),p2.trans p1,wo2,fun j q y hq hy=>?_⟩
  cases j with
  |zero=>simp at hq;subst hq;exact (hc y hy).fr f2 (fun ⟨_,_,h⟩=>by cases h)
  |succ j=>exact hcs j q y (by simpa using hq) (by rw[List.getElem?_drop,Nat.add_comm];exact hy)
theorem zaT {α:Type} {l:List α} {i:Nat} {f:α->α} {x:α} (h:l[i]? = some x):(l.modify i f)[i]? = some (f x):=by
 rw[List.getElem?_modify];simp[h]
theorem zaU {α:Type} {l:List α} {i j:Nat} {f:α->α} (h:j≠i):(l.modify i f)[j]? = l[j]?:=by
 rw[List.getElem?_modify];simp[Ne.symm h]
theorem Rel.cellg (h:Rel P E G s a w) (f:Fr G w G' w' X) (wo:WOk P E G' w') (hp:∀ l b,G'.ph l=some b->G.ph l=some b) (l o:Nat) (hX:∀ k,X k->k=.c l o∨xl k) (x:AV) (m:Bool)
  (hc:∀ b y,G.ph l=some b->w.cell? ⟨b,o,none⟩=some y->BRel G' w' (.c l o) x y):Rel P E G' (s.put (.c l o x m)) a w':=by
 refine h.boxw f wo hp l (fun k hk=>?_) (s':=s.put (.c l o x m)) rfl (fun l' hl=>⟨zaU hl,if_neg hl⟩) (fun cs b hcs hb=>?_) ?_ (by simp[RS.put])
 ·rcases hX k hk with hk|hk
  ·exact .inr (.inl ⟨o,hk⟩)
  ·exact .inr (.inr hk)
 ·cases hl:s.H[l]? with
  |none=>
   have:(s.put (.c l o x m)).H[l]? = none:=by simp only[RS.put];rw[List.getElem?_modify];simp[hl]
   rw[this] at hcs;cases hcs
  |some cs0=>
   have:(s.put (.c l o x m)).H[l]? = some (cs0.set o x):=by simp only[RS.put];exact zaT hl
   rw[this] at hcs
   cases hcs
   obtain ⟨h1,T,c,h2,h3,h4⟩:=h.bx l cs0 hl b (hp l b hb)
   have nb:¬X (.box l):=fun hx=>by rcases hX _ hx with hk|hk<;>first|cases hk|exact hk
   obtain ⟨k1,k2⟩:=f.ka b _ h1 nb
   refine ⟨k1,T,c,k2.trans h2,by simpa using h3,fun o' q y hq hy=>?_⟩
   by_cases ho:o' = o
   ·subst ho
    have hlt:o'<cs0.length:=by have:=(List.getElem?_eq_some_iff.1 hq).1;simpa using this
    rw[List.getElem?_set_self hlt] at hq
    cases hq
    exact hc b y (hp l b hb) (by simp[World.cell?,h2,hy])
   ·rw[List.getElem?_set_ne (Ne.symm ho)] at hq
    exact (h4 o' q y hq hy).fr f (fun hx=>by
     rcases hX _ hx with hk|hk
     ·cases hk;exact ho rfl
     ·exact hk)
 ·cases m with
  |true=>left;simp[RS.put]
  |false=>right;exact ⟨by simp[RS.put],fun hx=>by rcases hX _ hx with hk|hk<;>first|cases hk|exact hk⟩
theorem zk2 (h:Rel P E G s a w) {l o:Nat} {cs:List AV} {e sz:Nat} {xs:List PV} (hl:s.H[l]? = some cs) (ho:cs[o]? = some (.slu e sz xs)) :
  ∃ G',Fr G w G' w X1/\G'.ph=G.ph/\Rel P E G' (s.put (.c l o (.pv (.sl sz xs)) false)) a w:=by
 cases hb:G.ph l with
 |none=>exact ⟨G,Fr.refl.weaken (fun _ h=>h.elim) X1_old,rfl,h.cellg Fr.refl h.wo (fun _ _ h=>h) l o (fun k hk=>hk.elim) _ false (fun b y hb' _=>by rw[hb] at hb';cases hb')⟩
 |some b=>
  obtain ⟨h1,T,c,h2,h3,h4⟩:=h.bx l cs hl b hb
  have hlt:o<c.size:=by rw[h3];exact (List.getElem?_eq_some_iff.1 ho).1
  have ur:URel G w (.c l o) e sz xs c[o]:=h4 o _ c[o] ho (by simp[hlt])
  obtain ⟨G',f,wo,hP,hph⟩:=ur.freeze h.wo (by simp) (by simp)
  refine ⟨G',f.weaken (fun k hk=>by subst hk;exact ⟨by simp,by simp,id⟩) X1_old,hph,?_⟩
  refine h.cellg f wo (fun l b hb=>hph▸hb) l o (fun k hk=>.inl hk) _ false (fun b' y' hb' hy' => ?_)
  rw[hb] at hb';cases hb'
  have:y' = c[o]:=by
   have:c[o]? = some y':=by simpa[World.cell?,h2] using hy'
   rw[Array.getElem?_eq_getElem hlt] at this
   exact (Option.some.inj this).symm
  rw[this]
  exact ⟨rfl,hP⟩
theorem zk3 (h:Rel P E G s a w) {v:Var} {ws:List W} {e sz:Nat} {xs:List PV} (h1:(varOf v).run s=some ([],.slu e sz xs)) {u:Unit} (h2:(YL false (.pv (.sl sz xs)) v).run s=some (ws,u)) :
  ∃ G',Fr G w G' w X1/\G'.ph=G.ph/\Rel P E G' (s.puts ws) a w:=by
 obtain ⟨_,hm,hv⟩:=vV h h1
 cases v with
 |s t=>
  have ur:URel G w (.s t 0) e sz xs (tmp a t):=hv (tmp a t) rfl
  obtain ⟨G',f,wo,hP,hph⟩:=ur.freeze h.wo (by simp) (by simp)
  have hw:=yO h2
  subst hw
  refine ⟨G',f.weaken (fun k hk=>by subst hk;exact ⟨by simp,by simp,id⟩) X1_old,hph,?_⟩
  exact h.slot f wo (fun l b hb=>hph▸hb) t (fun k hk=>.inl ⟨0,hk⟩) rfl (fun _ _=>rfl) hP (fun q hq=>by cases hq) (.inr rfl)
 |c l o=>
  have hw:=yO h2
  subst hw
  by_cases hex:∃ b y,G.ph l=some b/\G.ka b=some (.box l)/\w.cell? ⟨b,o,none⟩=some y
  ·obtain ⟨b,y,hb,hkb,hy⟩:=hex
   have ur:URel G w (.c l o) e sz xs y:=hv y ⟨b,hb,hkb,hy⟩
   obtain ⟨G',f,wo,hP,hph⟩:=ur.freeze h.wo (by simp) (by simp)
   refine ⟨G',f.weaken (fun k hk=>by subst hk;exact ⟨by simp,by simp,id⟩) X1_old,hph,?_⟩
   refine h.cellg f wo (fun l b hb=>hph▸hb) l o (fun k hk=>.inl hk) _ false (fun b' y' hb' hy' => ?_)
   rw[hb] at hb';cases hb'
   rw[hy] at hy';cases hy'
   exact ⟨rfl,hP⟩
  ·refine ⟨G,Fr.refl.weaken (fun _ h=>h.elim) X1_old,rfl,?_⟩
   refine h.cellg Fr.refl h.wo (fun _ _ h=>h) l o (fun k hk=>hk.elim) _ false (fun b y hb hy=>?_)
   cases hl:s.H[l]? with
   |none=>
    simp only[varOf] at h1
    obtain ⟨u',c',v',g1,g2,_⟩:=zmR h1
    obtain ⟨rfl,rfl⟩:=vD g1
    simp only[RS.puts] at g2
    split at g2
    ·exact (zr g2).elim
    ·simp[hl,zv,RM.run] at g2
   |some cs=>exact absurd ⟨b,y,hb,(h.bx l cs hl b hb).1,hy⟩ hex
theorem XM (h:Rel P E G s a w) {x:Operand} {ws:List W} {u:Unit} (hr:(Yf x).run s=some (ws,u)):∃ G',Fr G w G' w X1/\G'.ph=G.ph/\Rel P E G' (s.puts ws) a w:=by
 have same:ws=[]->∃ G',Fr G w G' w X1/\G'.ph=G.ph/\Rel P E G' (s.puts ws) a w:=fun e=>by
  subst e;exact ⟨G,Fr.refl.weaken (fun _ h=>h.elim) X1_old,rfl,h⟩
 cases x with
 |const c=>exact same (run_pure hr).1
 |global c=>exact same (run_pure hr).1
 |func c=>exact same (run_pure hr).1
 |tmp i=>
  simp only[Yf] at hr
  obtain ⟨u1,c,v1,h1,h2,rfl⟩:=zmR hr
  obtain ⟨rfl,rfl⟩:=yS h1
  simp only[RS.puts] at h2
  simp only[zm7] at same ⊢
  cases hq:(s.sl i).r with
  |none=>
   simp only[hq] at h2
   cases ha:(s.sl i).a with
   |slu e sz xs=>
    simp only[ha] at h2
    have hv:URel G w (.s i 0) e sz xs (tmp a i):=by have:=h.sl i;rw[ha] at this;exact this
    obtain ⟨G',f,wo,hP,hph⟩:=hv.freeze h.wo (by simp) (by simp)
    have hw:=yO h2
    subst hw
    exact ⟨G',f.weaken (fun k hk=>by subst hk;exact ⟨by simp,by simp,id⟩) X1_old,hph,h.slot f wo (fun l b hb=>hph▸hb) i (fun k hk=>.inl ⟨0,hk⟩) rfl (fun _ _=>rfl) hP (fun q hq=>by cases hq) (.inr rfl)⟩
   |agg cs=>
    simp only[ha] at h2
    have hw:=yO h2
    subst hw
    have hv:=h.sl i
    rw[ha] at hv
    obtain ⟨vs,he,hs,hc⟩:=hv
    obtain ⟨G1,f,hph,wo,hcs⟩:=zae i cs vs.toList 0 h.wo (fun j q y hq hy=>by
     have:=hc j q y hq (by simpa using hy)
     rwa [Nat.zero_add])
    refine ⟨G1,f.weaken (fun k ⟨j,_,hk⟩=>by subst hk;exact ⟨by simp,by simp,id⟩) X1_old,hph,h.slot f wo (fun l b hb=>hph▸hb) i (fun k ⟨j,_,hk⟩=>.inl ⟨j,hk⟩) (v:=tmp a i) rfl (fun _ _=>rfl) ?_ (fun q hq=>by cases hq) (.inr rfl)⟩
    rw[he]
    refine gK (by simpa using hs) (fun j q y hq' hy=>?_)
    rw[List.getElem?_map] at hq'
    cases hj:cs[j]? with
    |none=>simp[hj] at hq'
    |some q0=>
     simp only[hj,Option.map_some,zm9] at hq'
     subst hq'
     refine (hcs j q0 y hj (by simpa using hy)).any ?_
     cases q0<;>rfl
   |pv p=>simp only[ha] at h2;exact same (run_pure h2).1
   |ptr l o=>simp only[ha] at h2;exact same (run_pure h2).1
   |elp x o=>simp only[ha] at h2;exact same (run_pure h2).1
   |clo f x y=>simp only[ha] at h2;exact same (run_pure h2).1
   |gm g=>simp only[ha] at h2;exact same (run_pure h2).1
   |mp g=>simp only[ha] at h2;exact same (run_pure h2).1
   |tup k b ps=>simp only[ha] at h2;exact same (run_pure h2).1
   |dead=>simp only[ha] at h2;exact same (run_pure h2).1
   |und=>simp only[ha] at h2;exact same (run_pure h2).1
  |some q=>
   cases q with
   |elem v sz i o=>simp only[hq] at h2;exact (zr h2).elim
   |whole v=>
    simp only[hq] at h2
    obtain ⟨u2,b,v2,h3,h4,rfl⟩:=zmR h2
    obtain ⟨rfl,_,_⟩:=vV h h3
    simp only[RS.puts] at h4
    simp only[zm7] at same ⊢
    cases b with
    |slu e sz xs=>exact zk3 h h3 h4
    |pv p=>exact same (run_pure h4).1
    |agg cs=>exact same (run_pure h4).1
    |ptr l o=>exact same (run_pure h4).1
    |elp x o=>exact same (run_pure h4).1
    |clo f x y=>exact same (run_pure h4).1
    |gm g=>exact same (run_pure h4).1
    |mp g=>exact same (run_pure h4).1
    |tup k b ps=>exact same (run_pure h4).1
    |und=>exact same (run_pure h4).1
    |dead=>exact same (run_pure h4).1
theorem WS {v v':AV} {ws:List W} (hr:(WR v).run s=some (ws,v')):ws=[]/\shd v' = true/\wD v' = false/\∀ (h:Nat->Hd) (y:Value),VRel P E G w h v y->∀ h',VRel P E G w h' v' y:=by
 unfold WR at hr
 split at hr
 ·obtain ⟨rfl,rfl⟩:=run_pure hr
  exact ⟨rfl,rfl,rfl,fun h y hv h' => URel.nil_shared (h:=h 0) hv⟩
 ·exact (zr hr).elim
 ·exact (zr hr).elim
 ·exact (zr hr).elim
 ·split at hr
  ·exact (zr hr).elim
  ·rename_i cs hc
   obtain ⟨rfl,rfl⟩:=run_pure hr
   have hs:shd (.agg cs)=true:=by simpa[shd] using hc
   exact ⟨rfl,hs,rfl,fun h y hv h' => hv.any hs⟩
 ·rename_i h1 h2 h3 h4 h5
  obtain ⟨rfl,rfl⟩:=run_pure hr
  have hs:shd v' = true:=by cases v'<;>simp_all [shd]
  exact ⟨rfl,hs,by cases v'<;>simp_all [wD],fun h y hv h' => hv.any hs⟩
theorem YP (hS:SysOk P E) (h:Rel P E G s a w) {t:Nat} {x:Operand} {ws:List W} {v:AV} (hr:(vI E t x).run s=some (ws,v)) :
  ∃ G',Fr G w G' w X1/\G'.ph=G.ph/\Rel P E G' (s.puts ws) a w/\shd v=true/\wD v=false/\∀ hh,VRel P E G' w hh v (a.eval x):=by
 unfold vI at hr
 obtain ⟨u1,_,v1,h1,h2,rfl⟩:=zmR hr
 obtain ⟨G',f,hph,hrel⟩:=XM h h1
 obtain ⟨u2,b,v2,h3,h4,rfl⟩:=zmR h2
 obtain ⟨rfl,hh,hv⟩:=xG hS hrel h3
 simp only[RS.puts] at h4
 obtain ⟨rfl,g1,g2,g3⟩:=WS (P:=P) (E:=E) (G:=G') (w:=w) h4
 exact ⟨G',f,hph,by simpa using hrel,g1,g2,g3 hh _ hv⟩
theorem zlY (wo0:WOk P E G w) (i:Nat):∃ G',Fr G w G' w (fun k=>∃ j,k=.s i j)/\G'.ph=G.ph/\WOk P E G' w/\∀ b j,G.ka b=some (.s i j)->G'.ka b=some (.hand j):=by
 let G':Gh:=⟨G.g,G.ph,fun b=>match G.ka b with|some (.s i' j)=>if i' = i then some (.hand j) else some (.s i' j)|q=>q⟩
 have hka:∀ b k,G.ka b=some k->(∀ j,k≠.s i j)->G'.ka b=some k:=by
  intro b k hb hk
  show (match G.ka b with|some (.s i' j)=>if i' = i then some (Hd.hand j) else some (.s i' j)|q=>q)=some k
  rw[hb]
  cases k with
  |s i' j=>simp only;rw[if_neg (fun e=>hk j (by rw[e]))]
  |_=>rfl
 have hkb:∀ b j,G.ka b=some (.s i j)->G'.ka b=some (.hand j):=by
  intro b j hb
  show (match G.ka b with|some (.s i' j)=>if i' = i then some (Hd.hand j) else some (.s i' j)|q=>q)=some (.hand j)
  rw[hb];simp
 have f:Fr G w G' w (fun k=>∃ j,k=.s i j):=⟨fun _ _ h=>h,fun _ _ h=>h,fun b k hb hk=>⟨hka b k hb (fun j hj=>hk ⟨j,hj⟩),rfl⟩,⟨fun ⟨_,hj⟩=>(by cases hj),fun ⟨_,hj⟩=>(by cases hj)⟩,rfl,rfl,rfl,Nat.le_refl _⟩
 have wo:WOk P E G' w:=wo0.fr f (fun b c hc=>by
   obtain ⟨k1,k2⟩:=wo0.imm b c hc
   exact ⟨hka b _ k1 (fun j hj=>by cases hj),k2⟩) (fun b k hb=>by
   cases hg:G.ka b with
   |none=>
    have:G'.ka b=none:=by
     show (match G.ka b with|some (.s i' j)=>if i' = i then some (Hd.hand j) else some (.s i' j)|q=>q)=none
     rw[hg]
    rw[this] at hb;cases hb
   |some q=>exact wo0.dom b q hg)
 exact ⟨G',f,rfl,wo,hkb⟩
theorem TRel.v {h:Nat->Hd}:∀ {b:AV} {v:Value},wD b=false->TRel G w h b v->VRel P E G w h b v
 |.slu ..,_,_,u=>u
 |.pv _,_,_,u=>u
 |.agg cs,v,_,u=>by
  obtain ⟨vs,hv,h1,h2⟩:=u
  exact ⟨vs,hv,h1,fun j a x ha hx=>(h2 j a x ha hx).2⟩
 |.dead,_,hd,_=>by simp[wD] at hd
 |.ptr ..,_,_,u=>u.elim
 |.clo ..,_,_,u=>u.elim
 |.elp ..,_,_,u=>u.elim
 |.gm ..,_,_,u=>u.elim
 |.mp ..,_,_,u=>u.elim
 |.und,_,_,u=>u.elim
 |.tup ..,_,_,u=>u.elim
theorem ZK (hS:SysOk P E) (h:Rel P E G s a w) {t:Nat} {x:Operand} {ws:List W} {v:AV} (hr:(vf E t x).run s=some (ws,v)) :
  ∃ G',Fr G w G' w X1/\G'.ph=G.ph/\Rel P E G' (s.puts ws) a w/\VRel P E G' w (fun j=>.hand j) v (a.eval x):=by
 have K:∀ x',(∀ i,x'≠.tmp i)->(Zi E t x').run s=some (ws,v)->∃ G',Fr G w G' w X1/\G'.ph=G.ph/\Rel P E G' (s.puts ws) a w/\VRel P E G' w (fun j=>.hand j) v (a.eval x'):=by
  intro x' _ hk
  obtain ⟨rfl,hv,_⟩:=w7 (a:=a) hS h.wo hk (fun j=>.hand j)
  exact ⟨G,Fr.refl.weaken (fun _ h=>h.elim) X1_old,rfl,h,hv⟩
 cases x with
 |const c=>exact K _ (by simp) hr
 |global c=>exact K _ (by simp) hr
 |func c=>exact K _ (by simp) hr
 |tmp i=>
  simp only[vf] at hr
  obtain ⟨u1,c,v1,h1,h2,rfl⟩:=zmR hr
  obtain ⟨rfl,rfl⟩:=yS h1
  simp only[RS.puts] at h2
  simp only[zm7]
  cases hq:(s.sl i).r with
  |some q=>
   simp only[hq] at h2
   obtain ⟨G',f,hph,hrel,_,_,hv⟩:=YP hS h h2
   exact ⟨G',f,hph,hrel,hv _⟩
  |none=>
   simp only[hq] at h2
   split at h2
   ·obtain ⟨u2,_,v2,h3,h4,rfl⟩:=zmR h2
    have hw:=yO h3
    subst hw
    obtain ⟨rfl,rfl⟩:=run_pure h4
    let G':Gh:=⟨G.g,G.ph,fun b=>match G.ka b with|some (.s i' j)=>if i' = i then some (.hand j) else some (.s i' j)|q=>q⟩
    have hka:∀ b k,G.ka b=some k->(∀ j,k≠.s i j)->G'.ka b=some k:=by
     intro b k hb hk
     show (match G.ka b with|some (.s i' j)=>if i' = i then some (Hd.hand j) else some (.s i' j)|q=>q)=some k
     rw[hb]
     cases k with
     |s i' j=>simp only;rw[if_neg (fun e=>hk j (by rw[e]))]
     |_=>rfl
    have hkb:∀ b j,G.ka b=some (.s i j)->G'.ka b=some (.hand j):=by
     intro b j hb
     show (match G.ka b with|some (.s i' j)=>if i' = i then some (Hd.hand j) else some (.s i' j)|q=>q)=some (.hand j)
     rw[hb];simp
    have f:Fr G w G' w (fun k=>∃ j,k=.s i j):=⟨fun _ _ h=>h,fun _ _ h=>h,fun b k hb hk=>⟨hka b k hb (fun j hj=>hk ⟨j,hj⟩),rfl⟩,⟨fun ⟨_,hj⟩=>(by cases hj),fun ⟨_,hj⟩=>(by cases hj)⟩,rfl,rfl,rfl,Nat.le_refl _⟩
    have wo:WOk P E G' w:=h.wo.fr f (fun b c hc=>by
      obtain ⟨k1,k2⟩:=h.wo.imm b c hc
      exact ⟨hka b _ k1 (fun j hj=>by cases hj),k2⟩) (fun b k hb=>by
      cases hg:G.ka b with
      |none=>
       have:G'.ka b=none:=by
        show (match G.ka b with|some (.s i' j)=>if i' = i then some (Hd.hand j) else some (.s i' j)|q=>q)=none
        rw[hg]
       rw[this] at hb;cases hb
      |some q=>exact h.wo.dom b q hg)
    refine ⟨G',f.weaken (fun k hk=>by obtain ⟨j,rfl⟩:=hk;exact ⟨by simp,by simp,id⟩) X1_old,rfl,?_,?_⟩
    ·exact h.slot f wo (fun _ _ h=>h) i (fun k hk=>.inl hk) (v:=tmp a i) rfl (fun _ _=>rfl) trivial (fun q hq=>by cases hq) (.inr rfl)
    ·exact (h.sl i).move f (fun j b hb=>⟨hkb b j hb,rfl⟩)
   ·split at h2
    ·exact (zr h2).elim
    ·rename_i hn hd
     obtain ⟨rfl,rfl⟩:=run_pure h2
     have hs:shd (s.sl i).a=true:=by
      cases ha:(s.sl i).a<;>simp_all [shd,za8]
     exact ⟨G,Fr.refl.weaken (fun _ h=>h.elim) X1_old,rfl,h,(h.sl i).any hs⟩
theorem hold (h:Rel P E G s a w) {k:Hd} (hk:k≠.imm/\k≠.frn) {e sz:Nat} {xs:List PV} {v:Value} (u:URel G w k e sz xs v) :
  ∃ G':Gh,Fr G w G' w (fun q=>q=k)/\G'.ph=G.ph/\WOk P E G' w/\URel G' w (.hand 0) e sz xs v:=by
 let G':Gh:=⟨G.g,G.ph,fun b=>if v.ownBlock=some b then some (.hand 0) else G.ka b⟩
 obtain ⟨h0,us,h1,h2,h3⟩:=u
 have hka:∀ b q,G.ka b=some q->q≠k->G'.ka b=some q:=by
  intro b q hb hq
  show (if v.ownBlock=some b then some (Hd.hand 0) else G.ka b)=some q
  rw[if_neg (fun e=>by rw[h3 b e] at hb;exact hq (Option.some.inj hb).symm)]
  exact hb
 have f:Fr G w G' w (fun q=>q=k):=⟨fun _ _ h=>h,fun _ _ h=>h,fun b q hb hq=>⟨hka b q hb hq,rfl⟩,⟨fun e=>hk.1 e.symm,fun e=>hk.2 e.symm⟩,rfl,rfl,rfl,Nat.le_refl _⟩
 refine ⟨G',f,rfl,h.wo.fr f (fun b c hc=>?_) (fun b q hb=>?_),h0,us,h1,h2,fun b hb=>?_⟩
 ·obtain ⟨k1,k2⟩:=h.wo.imm b c hc
  exact ⟨hka b _ k1 (fun e=>hk.1 e.symm),k2⟩
 ·have hb':(if v.ownBlock=some b then some (Hd.hand 0) else G.ka b)=some q:=hb
  split at hb'
  ·rename_i e;exact h.wo.dom b k (h3 b e)
  ·exact h.wo.dom b q hb'
 ·show (if v.ownBlock=some b then some (Hd.hand 0) else G.ka b)=some (.hand 0)
  rw[if_pos hb]
theorem zcr (h:Rel P E G s a w) {x:Operand} {ws:List W} {v:AV} (hr:(Ki x).run s=some (ws,v)) :
  ∃ G',Fr G w G' w X1/\G'.ph=G.ph/\Rel P E G' (s.puts ws) a w/\VRel P E G' w (fun j=>.hand j) v (a.eval x):=by
 unfold Ki at hr
 cases x with
 |const c=>exact (zr hr).elim
 |global c=>exact (zr hr).elim
 |func c=>exact (zr hr).elim
 |tmp i=>
  simp only at hr
  obtain ⟨u2,c,v2,h3,h4,rfl⟩:=zmR hr
  obtain ⟨rfl,rfl⟩:=yS h3
  simp only[RS.puts,zm7] at h4 ⊢
  split at h4
  ·rename_i vr hq
   obtain ⟨u5,A,v5,h5,h6,rfl⟩:=zmR h4
   obtain ⟨rfl,hm,hval⟩:=vV h h5
   simp only[RS.puts,zm7] at h6 ⊢
   have hconc:=h.rf i _ hq hm
   have hv:=hval _ hconc
   split at h6
   ·rename_i e sz xs
    obtain ⟨u7,_,v7,h9,h10,rfl⟩:=zmR h6
    obtain ⟨rfl,rfl⟩:=run_pure h10
    rw[List.append_nil]
    cases vr with
    |s t' =>
     have hw:=yO h9
     subst hw
     have hUU:URel G w (.s t' 0) e sz xs (tmp a i):=hv
     obtain ⟨G1,f1,p1,wo1,hU⟩:=hold h (k:=.s t' 0) ⟨by simp,by simp⟩ hUU
     have r1:=h.slot f1 wo1 (fun l b hb=>p1▸hb) t' (fun k hk=>.inl ⟨0,hk⟩) (x:=.dead) (r:=none) (m:=true) (v:=tmp a t') rfl (fun _ _=>rfl) trivial (fun q hq=>by cases hq) (.inl rfl)
     exact ⟨G1,f1.weaken (fun k hk=>by subst hk;exact ⟨by simp,by simp,id⟩) X1_old,p1,r1,hU⟩
    |c l o' =>
     have hw:=yO h9
     subst hw
     have hUU:URel G w (.c l o') e sz xs (tmp a i):=hv
     obtain ⟨b0,hb0,hkb0,hcell0⟩:=hconc
     obtain ⟨G1,f1,p1,wo1,hU⟩:=hold h (k:=.c l o') ⟨by simp,by simp⟩ hUU
     have r1:=h.cellg f1 wo1 (fun l b hb=>p1▸hb) l o' (fun k hk=>.inl hk) .dead true (fun b1 y1 hb1 hy1=>by
      rw[hb0] at hb1
      cases hb1
      rw[hcell0] at hy1
      cases hy1
      exact BRel.one (w:=w) (h:=.c l o') (a:=.slu e sz xs) hUU)
     exact ⟨G1,f1.weaken (fun k hk=>by subst hk;exact ⟨by simp,by simp,id⟩) X1_old,p1,r1,hU⟩
   ·exact (zr h6).elim
  ·exact (zr h4).elim
theorem zij {x:Operand} {ws:List W} {b:Bool} (hr:(JM x).run s=some (ws,b)):ws=[]:=by
 unfold JM at hr
 cases x with
 |tmp q=>
  simp only at hr
  obtain ⟨u1,g,v1,h1,h2,rfl⟩:=zmR hr
  obtain ⟨rfl,rfl⟩:=yS h1
  simp only[RS.puts,zm7] at h2 ⊢
  split at h2
  ·exact (run_pure h2).1
  ·exact (run_pure h2).1
 |_=>exact (run_pure hr).1
theorem zlo (hS:SysOk P E) (h:Rel P E G s a w) {q:Bool} {t:Nat} {x:Operand} {ws:List W} {v:AV} (hr:(qF E q t x).run s=some (ws,v)) :
  ∃ G',Fr G w G' w X1/\G'.ph=G.ph/\Rel P E G' (s.puts ws) a w/\VRel P E G' w (fun j=>.hand j) v (a.eval x):=by
 cases q with
 |true=>
  simp only[qF] at hr
  obtain ⟨u1,b,v1,h1,h2,rfl⟩:=zmR hr
  have:=zij h1
  subst this
  simp only[RS.puts,zm7] at h2 ⊢
  split at h2
  ·exact zcr h h2
  ·exact ZK hS h h2
 |false=>exact ZK hS h hr
theorem YQ (hS:SysOk P E):∀ (l:List (Operand×Nat)) {G:Gh} {s:RS} {ws:List W} {as0:List AV},Rel P E G s a w->(ZO E l).run s=some (ws,as0)->
  ∃ G',Fr G w G' w X1/\G'.ph=G.ph/\Rel P E G' (s.puts ws) a w/\as0.length=l.length/\
   ∀ (j:Nat) (v:AV) (q:Operand×Nat),as0[j]? = some v->l[j]? = some q->shd v=true/\wD v=false/\∀ hh,VRel P E G' w hh v (a.eval q.1)
 |[],G,s,ws,as0,h,hr=>by
  obtain ⟨rfl,rfl⟩:=run_pure hr
  exact ⟨G,Fr.refl.weaken (fun _ h=>h.elim) X1_old,rfl,h,rfl,fun j v q hv=>by simp at hv⟩
 |(x,t)::l,G,s,ws,as0,h,hr=>by
  simp only[ZO] at hr
  obtain ⟨u1,_,v1,h1,h2,rfl⟩:=zmR hr
  obtain ⟨G1,f1,hp1,hrel1⟩:=XM h h1
  obtain ⟨u2,bs,v2,h3,h4,rfl⟩:=zmR h2
  obtain ⟨G2,f2,hp2,hrel2,hlen,hvs⟩:=YQ hS l hrel1 h3
  obtain ⟨u3,b,v3,h5,h6,rfl⟩:=zmR h4
  obtain ⟨rfl,hh,hv⟩:=xG hS hrel2 h5
  simp only[RS.puts] at h6
  obtain ⟨u4,b',v4,h7,h8,rfl⟩:=zmR h6
  obtain ⟨rfl,g1,g2,g3⟩:=WS (P:=P) (E:=E) (G:=G2) (w:=w) h7
  simp only[RS.puts] at h8
  obtain ⟨rfl,rfl⟩:=run_pure h8
  refine ⟨G2,f1.trans f2,hp2.trans hp1,by simpa[RS.puts_append] using hrel2,by simp[hlen],fun j v q hj hq=>?_⟩
  cases j with
  |zero=>simp at hj hq;subst hj hq;exact ⟨g1,g2,g3 hh _ hv⟩
  |succ j=>simp at hj hq;exact hvs j v q hj hq
theorem zln (hS:SysOk P E) (h:Rel P E G s a w) {t:Nat} {x:Operand} {ws:List W} {v:AV} (hr:(takeA E t x).run s=some (ws,v)) :
  ∃ G',Fr G w G' w X1/\G'.ph=G.ph/\Rel P E G' (s.puts ws) a w/\xr v=true/\VRel P E G' w (fun j=>.hand j) v (a.eval x):=by
 unfold takeA at hr
 obtain ⟨u1,b,v1,h1,h2,rfl⟩:=zmR hr
 have key:∃ G',Fr G w G' w X1/\G'.ph=G.ph/\Rel P E G' (s.puts u1) a w/\VRel P E G' w (fun j=>.hand j) b (a.eval x):=by
  cases x with
  |tmp q=>
   simp only at h1
   obtain ⟨u2,g,v2,h3,h4,rfl⟩:=zmR h1
   obtain ⟨rfl,rfl⟩:=yS h3
   simp only[RS.puts,zm7] at h4 ⊢
   split at h4
   ·exact zcr h h4
   ·exact ZK hS h h4
  |_=>exact ZK hS h h1
 obtain ⟨G',f,p,r,hv⟩:=key
 split at h2
 ·obtain ⟨rfl,rfl⟩:=run_pure h2
  exact ⟨G',f,p,by rw[List.append_nil];exact r,rfl,hv⟩
 ·exact (zr h2).elim
def ArgR (P:Program) (E:Env) (G:Gh) (w:World) (ow:Option Nat) (j:Nat) (v:AV) (x:Value):Prop :=
 (shd v=true/\∀ hh,VRel P E G w hh v x)∨(ow=some j/\xr v=true/\VRel P E G w (fun i=>.hand i) v x)
theorem ArgR.fr {G1:Gh} (f:Fr G w G1 w X1) {ow:Option Nat} {j:Nat} {v:AV} {x:Value} (h:ArgR P E G w ow j v x):ArgR P E G1 w ow j v x :=
 h.imp (fun h=>⟨h.1,fun hh=>((h.2 (fun _=>.imm)).fr f (fun _ e=>e.1 rfl)).any h.1⟩) (fun h=>⟨h.1,h.2.1,h.2.2.fr f (fun j e=>e.2.2 (show xl (.hand j) from trivial))⟩)
theorem zcP (hS:SysOk P E):∀ (j0:Nat) (l:List (Operand×Nat)) {G:Gh} {s:RS} {ws:List W} {as0:List AV},Rel P E G s a w->(Vh E j0 l).run s=some (ws,as0)->
  ∃ G',Fr G w G' w X1/\G'.ph=G.ph/\Rel P E G' (s.puts ws) a w/\as0.length=l.length/\
   ∀ (j:Nat) (v:AV) (q:Operand×Nat),as0[j]? = some v->l[j]? = some q->ArgR P E G' w (some j0) j v (a.eval q.1)
 |j0,[],G,s,ws,as0,h,hr=>by
  have hr':(pure []:RM (List AV)).run s=some (ws,as0):=by cases j0<;>exact hr
  obtain ⟨rfl,rfl⟩:=run_pure hr'
  exact ⟨G,Fr.refl.weaken (fun _ h=>h.elim) X1_old,rfl,h,rfl,fun j v q hv=>by simp at hv⟩
 |0,(x,t)::l,G,s,ws,as0,h,hr=>by
  simp only[Vh] at hr
  obtain ⟨u1,bs,v1,h1,h2,rfl⟩:=zmR hr
  obtain ⟨G1,f1,hp1,hrel1,hlen,hvs⟩:=YQ hS l h h1
  obtain ⟨u2,b,v2,h3,h4,rfl⟩:=zmR h2
  obtain ⟨G2,f2,hp2,hrel2,hs,hv⟩:=zln hS hrel1 h3
  obtain ⟨rfl,rfl⟩:=run_pure h4
  refine ⟨G2,f1.trans f2,hp2.trans hp1,by simpa[RS.puts_append] using hrel2,by simp[hlen],fun j v q hj hq=>?_⟩
  cases j with
  |zero=>simp at hj hq;subst hj hq;exact .inr ⟨rfl,hs,hv⟩
  |succ j=>
   simp at hj hq
   obtain ⟨g1,_,g3⟩:=hvs j v q hj hq
   exact (show ArgR P E G1 w (some 0) (j+1) v (a.eval q.1) from .inl ⟨g1,g3⟩).fr f2
 |j0+1,(x,t)::l,G,s,ws,as0,h,hr=>by
  simp only[Vh] at hr
  obtain ⟨u1,_,v1,h1,h2,rfl⟩:=zmR hr
  obtain ⟨G1,f1,hp1,hrel1⟩:=XM h h1
  obtain ⟨u2,bs,v2,h3,h4,rfl⟩:=zmR h2
  obtain ⟨G2,f2,hp2,hrel2,hlen,hvs⟩:=zcP hS j0 l hrel1 h3
  obtain ⟨u3,b,v3,h5,h6,rfl⟩:=zmR h4
  obtain ⟨rfl,hh,hv⟩:=xG hS hrel2 h5
  simp only[RS.puts] at h6
  obtain ⟨u4,b',v4,h7,h8,rfl⟩:=zmR h6
  obtain ⟨rfl,g1,g2,g3⟩:=WS (P:=P) (E:=E) (G:=G2) (w:=w) h7
  simp only[RS.puts] at h8
  obtain ⟨rfl,rfl⟩:=run_pure h8
  refine ⟨G2,f1.trans f2,hp2.trans hp1,by simpa[RS.puts_append] using hrel2,by simp[hlen],fun j v q hj hq=>?_⟩
  cases j with
  |zero=>simp at hj hq;subst hj hq;exact .inl ⟨g1,g3 hh _ hv⟩
  |succ j=>
   simp at hj hq
   exact (hvs j v q hj hq).imp id (fun ⟨k1,k2⟩=>⟨by cases k1;rfl,k2⟩)
theorem zl4 (hS:SysOk P E) (f:Operand) (l:List (Operand×Nat)) {ws:List W} {as0:List AV} (h:Rel P E G s a w) (hr:(Kr E f l).run s=some (ws,as0)) :
  ∃ G',Fr G w G' w X1/\G'.ph=G.ph/\Rel P E G' (s.puts ws) a w/\as0.length=l.length/\
   ∀ (j:Nat) (v:AV) (q:Operand×Nat),as0[j]? = some v->l[j]? = some q->ArgR P E G' w (WU E f) j v (a.eval q.1):=by
 unfold Kr at hr
 split at hr
 ·rename_i j0 hj0
  rw[hj0]
  exact zcP hS j0 l h hr
 ·obtain ⟨G1,f1,hp1,hrel1,hlen,hvs⟩:=YQ hS l h hr
  exact ⟨G1,f1,hp1,hrel1,hlen,fun j v q hj hq=>.inl ⟨(hvs j v q hj hq).1,(hvs j v q hj hq).2.2⟩⟩
theorem JQ (hS:SysOk P E) (h:Rel P E G s a w) {t:Nat} {x:Operand} {ws:List W} {l:Nat×List PV} (hr:(WO E t x).run s=some (ws,l)) :
  ws=[]/\(PRep G.g (.sl l.1 l.2) (a.eval x)∨∃ k e,URel G w k e l.1 l.2 (a.eval x)):=by
 unfold WO at hr
 obtain ⟨u1,b,v1,h1,h2,rfl⟩:=zmR hr
 obtain ⟨rfl,hh,hv⟩:=xG hS h h1
 simp only[RS.puts] at h2
 split at h2
 ·obtain ⟨rfl,hp⟩:=zE h2
  have:=WW hp
  subst this
  exact ⟨rfl,.inl hv⟩
 ·obtain ⟨rfl,rfl⟩:=run_pure h2;exact ⟨rfl,.inr ⟨_,_,hv⟩⟩
 ·exact (zr h2).elim
theorem Zz (hS:SysOk P E) (h:Rel P E G s a w) {t:Nat} {x:Operand} {ws:List W} {n:IntKind×Int} (hr:(intOf E t x).run s=some (ws,n)):ws=[]/\a.eval x=.int n.1 n.2:=by
 unfold intOf at hr
 obtain ⟨u1,b,v1,h1,h2,rfl⟩:=zmR hr
 obtain ⟨rfl,hh,hv⟩:=xG hS h h1
 obtain ⟨rfl,hp⟩:=zE h2
 have:=J1 hp
 subst this
 have hv':PRep G.g (.v _) (a.eval x):=hv
 generalize a.eval x=y at hv'
 cases hv'
 exact ⟨rfl,rfl⟩
theorem XO {d:Nat} (hd:d<a.tmps.size) (v:Value) (u:Nat):tmp (a.put (some d) v) u=if u=d then v else tmp a u:=by
 unfold tmp Act.put
 simp only[Array.getD_eq_getD_getElem?,Array.getElem?_setIfInBounds]
 by_cases h:d=u
 ·subst h;simp[hd]
 ·rw[if_neg h,if_neg (Ne.symm h)]
theorem Wz (h:Rel P E G s a w) {d:Option Nat} (hd:∀ d',d=some d'->d'<a.tmps.size) {v:AV} {ws:List W} {pn:Pn} (hr:(done d v).run s=some (ws,pn)) {x:Value} (hv:VRel P E G w (fun j=>.hand j) v x) :
  pn=none/\∃ G',Fr G w G' w X0/\G'.ph=G.ph/\Rel P E G' (s.puts ws) (a.put d x) w:=by
 cases d with
 |none=>
  obtain ⟨rfl,rfl⟩:=run_pure hr
  exact ⟨rfl,G,Fr.refl.weaken (fun _ h=>h.elim) X0_old,rfl,h⟩
 |some d=>
  simp only[done] at hr
  obtain ⟨u1,_,v1,h1,h2,rfl⟩:=zmR hr
  have hw:=yO h1
  subst hw
  obtain ⟨rfl,rfl⟩:=run_pure h2
  have hd':=hd d rfl
  let G':Gh:=⟨G.g,G.ph,fun b=>match G.ka b with|some (.hand j)=>some (.s d j)|q=>q⟩
  have hka:∀ b k,G.ka b=some k->¬xl k->G'.ka b=some k:=by
   intro b k hb hk
   show (match G.ka b with|some (.hand j)=>some (Hd.s d j)|q=>q)=some k
   rw[hb]
   cases k<;>first|rfl|exact absurd trivial hk
  have f:Fr G w G' w xl:=⟨fun _ _ h=>h,fun _ _ h=>h,fun b k hb hk=>⟨hka b k hb hk,rfl⟩,⟨id,id⟩,rfl,rfl,rfl,Nat.le_refl _⟩
  have wo:WOk P E G' w:=h.wo.fr f (fun b c hc=>by
    obtain ⟨k1,k2⟩:=h.wo.imm b c hc
    exact ⟨hka b _ k1 id,k2⟩) (fun b k hb=>by
    cases hg:G.ka b with
    |none=>
     have:G'.ka b=none:=by
      show (match G.ka b with|some (.hand j)=>some (Hd.s d j)|q=>q)=none
      rw[hg]
     rw[this] at hb;cases hb
    |some q=>exact h.wo.dom b q hg)
  refine ⟨rfl,G',f.weaken (fun k hk=>by cases k<;>first|exact hk.elim|exact ⟨by simp,by simp⟩) X0_old,rfl,?_⟩
  refine h.slot f wo (fun _ _ h=>h) d (fun k hk=>.inr hk) (v:=x) (by rw[XO hd',if_pos rfl]) (fun u hu=>by rw[XO hd',if_neg hu]) ?_ (fun q hq=>by cases hq) (.inl rfl)
  exact hv.move f (fun j b hb=>⟨by
   show (match G.ka b with|some (.hand j)=>some (Hd.s d j)|q=>q)=some (.s d j)
   rw[hb],rfl⟩)
theorem zhe (h:Rel P E G s a w) {d:Option Nat} (hd:∀ d',d=some d'->d'<a.tmps.size) {r:Ref} {ws:List W} {pn:Pn} (hr:(Z0 d r).run s=some (ws,pn)) {x:Value} (hv:RefOk G s a w r x) :
  pn=none/\∃ G',Fr G w G' w X0/\G'.ph=G.ph/\Rel P E G' (s.puts ws) (a.put d x) w:=by
 cases d with
 |none=>
  obtain ⟨rfl,rfl⟩:=run_pure hr
  exact ⟨rfl,G,Fr.refl.weaken (fun _ h=>h.elim) X0_old,rfl,h⟩
 |some d=>
  simp only[Z0] at hr
  obtain ⟨u1,_,v1,h1,h2,rfl⟩:=zmR hr
  have hw:=yO h1
  subst hw
  obtain ⟨rfl,rfl⟩:=run_pure h2
  have hd':=hd d rfl
  exact ⟨rfl,G,Fr.refl.weaken (fun _ h=>h.elim) X0_old,rfl,h.slot Fr.refl h.wo (fun _ _ h=>h) d (fun k hk=>hk.elim) (v:=x) (by rw[XO hd',if_pos rfl]) (fun u hu=>by rw[XO hd',if_neg hu]) trivial (fun q hq=>by cases hq;exact hv) (.inl rfl)⟩
def JN:W->Bool
 |.s ..=>true
 |.c ..=>true
 |.b ..=>true
 |_=>false
theorem qg:∀ (ws:List W) (s:RS),ws.all JN=true->(s.puts ws).H.length=s.H.length
 |[],s,_=>rfl
 |w::ws,s,h=>by
  simp only[List.all_cons,zm8] at h
  simp only[RS.puts]
  rw[qg ws _ h.2]
  cases w<;>simp_all [RS.put,JN]
theorem zb8 {x:Operand} {ws:List W} {u:Unit} (hr:(Yf x).run s=some (ws,u)):ws.all JN=true:=by
 cases x with
 |const c=>rw[(run_pure hr).1];rfl
 |global c=>rw[(run_pure hr).1];rfl
 |func c=>rw[(run_pure hr).1];rfl
 |tmp i=>
  simp only[Yf] at hr
  obtain ⟨u1,c,v1,h1,h2,rfl⟩:=zmR hr
  obtain ⟨rfl,rfl⟩:=yS h1
  simp only[RS.puts,zm7] at h2 ⊢
  split at h2
  ·split at h2
   ·rw[yO h2];rfl
   ·rw[yO h2];rfl
   ·rw[(run_pure h2).1];rfl
  ·obtain ⟨u2,b,v2,h3,h4,rfl⟩:=zmR h2
   rename_i v hv
   have hu:u2=[]:=by
    cases v with
    |s t=>
     simp only[varOf] at h3
     obtain ⟨u3,c3,v3,h5,h6,rfl⟩:=zmR h3
     obtain ⟨rfl,rfl⟩:=yS h5
     split at h6
     ·exact (zr h6).elim
     ·rw[(run_pure h6).1];rfl
    |c l o=>
     simp only[varOf] at h3
     obtain ⟨u3,c3,v3,h5,h6,rfl⟩:=zmR h3
     obtain ⟨rfl,rfl⟩:=vD h5
     split at h6
     ·exact (zr h6).elim
     ·rw[(zE h6).1];rfl
   subst hu
   simp only[RS.puts,zm7] at h4 ⊢
   split at h4
   ·cases v<;>(rw[yO h4];rfl)
   ·rw[(run_pure h4).1];rfl
  ·exact (zr h2).elim
theorem zlZ (hS:SysOk P E) (h:Rel P E G s a w) {t:Nat} {x:Operand} {ws:List W} {v:AV} (hr:(vI E t x).run s=some (ws,v)):(s.puts ws).H.length=s.H.length:=by
 unfold vI at hr
 obtain ⟨u2,_,v2,h3,h4,rfl⟩:=zmR hr
 obtain ⟨G1,f1,p1,r1⟩:=XM h h3
 obtain ⟨u3,b,v3,h5,h6,rfl⟩:=zmR h4
 have e1:=(xG hS r1 h5).1
 subst e1
 have e2:=(WS (P:=P) (E:=E) (G:=G) (w:=w) h6).1
 subst e2
 simp only[List.append_nil]
 exact qg _ _ (zb8 h3)
theorem zcs (hS:SysOk P E) (h:Rel P E G s a w) {t:Nat} {x:Operand} {ws:List W} {v:AV} (hr:(vf E t x).run s=some (ws,v)):(s.puts ws).H.length=s.H.length:=by
 have K:∀ x',(Zi E t x').run s=some (ws,v)->(s.puts ws).H.length=s.H.length:=by
  intro x' hk
  obtain ⟨rfl,_⟩:=w7 (a:=a) hS h.wo hk (fun j=>.hand j)
  rfl
 cases x with
 |const c=>exact K (.const c) hr
 |global c=>exact K (.global c) hr
 |func c=>exact K (.func c) hr
 |tmp i=>
  simp only[vf] at hr
  obtain ⟨u1,c,v1,h1,h2,rfl⟩:=zmR hr
  obtain ⟨rfl,rfl⟩:=yS h1
  simp only[RS.puts,zm7] at h2 ⊢
  split at h2
  ·split at h2
   ·obtain ⟨u2,_,v2,h3,h4,rfl⟩:=zmR h2
    rw[yO h3,(run_pure h4).1]
    rfl
   ·split at h2
    ·exact (zr h2).elim
    ·rw[(run_pure h2).1];rfl
  ·unfold vI at h2
   obtain ⟨u2,_,v2,h3,h4,rfl⟩:=zmR h2
   obtain ⟨G1,f1,p1,r1⟩:=XM h h3
   obtain ⟨u3,b,v3,h5,h6,rfl⟩:=zmR h4
   have e1:=(xG hS r1 h5).1
   subst e1
   have e2:=(WS (P:=P) (E:=E) (G:=G) (w:=w) h6).1
   subst e2
   simp only[List.append_nil]
   exact qg _ _ (zb8 h3)
end
section
variable {P:Program} {E:Env} {G G':Gh} {w w':World} {X:Hd->Prop} {s s':RS} {a a':Act}
structure Same (D:Nat->Prop) (a a':Act):Prop where
 defers:a'.defers=a.defers
 tmps:∀ t,¬D t->tmp a' t=tmp a t
theorem Same.refl {D:Nat->Prop}:Same D a a:=⟨rfl,fun _ _=>rfl⟩
theorem Same.trans {D:Nat->Prop} {a'':Act} (h:Same D a a') (k:Same D a' a''):Same D a a'':=⟨k.defers.trans h.defers,fun t ht=>(k.tmps t ht).trans (h.tmps t ht)⟩
theorem Same.mono {D D':Nat->Prop} (h:Same D a a') (hD:∀ t,D t->D' t):Same D' a a':=⟨h.defers,fun t ht=>h.tmps t fun h' => ht (hD t h')⟩
theorem Ye (d:Option Nat) (v:Value):Same (fun t=>d=some t) a (a.put d v):=by
 cases d with
 |none=>exact ⟨rfl,fun _ _=>rfl⟩
 |some d=>
  refine ⟨rfl,fun t ht=>?_⟩
  have:d≠t:=fun e=>ht (by rw[e])
  simp[tmp,Act.put,Array.getElem?_setIfInBounds,this]
def OpOk (P:Program) (E:Env) (G:Gh) (s:RS) (a:Act) (w:World) (pre:Option Nat) (o:Oper) (s':RS):Pn->Prop
 |none=>∀ (K:Act->World->Prop) (Q:Exit->Act->World->Prop),
   (∀ G' a' w',Fr G w G' w' X0->(∀ l b,l<s.H.length->pre≠some l->G'.ph l=some b->G.ph l=some b)->Rel P E G' s' a' w'->a'.tmps.size=a.tmps.size->Same (fun t=>o.dst=some t) a a'->K a' w')->o.wp P a w K Q
 |some p=>∀ (K:Act->World->Prop) (Q:Exit->Act->World->Prop),
   (∀ G' w' v,Fr G w G' w' X0->(∀ l b,l<s.H.length->pre≠some l->G'.ph l=some b->G.ph l=some b)->Rel P E G' s' a w'->PRep G'.g p v->Q (.panic [{ v,recovered:=false }]) a w')->o.wp P a w K Q
theorem Yg (d:Option Nat) (v:Value):(a.put d v).tmps.size=a.tmps.size:=by cases d<;>simp[Act.put]
theorem OpOk.val {pre:Option Nat} {o:Oper} {v:Value} {w1:World} {pn:Pn} (hx:(execOp a.eval o).run P w=.ok (.value v) w1)
  (h:pn=none/\∃ G',Fr G w G' w1 X0/\(∀ l b,l<s.H.length->pre≠some l->G'.ph l=some b->G.ph l=some b)/\Rel P E G' s' (a.put o.dst v) w1):OpOk P E G s a w pre o s' pn:=by
 obtain ⟨rfl,G',f,hp,hr⟩:=h
 intro K Q hK
 unfold Oper.wp
 rw[hx]
 exact hK G' _ w1 f hp hr (Yg _ _) (Ye _ _)
theorem xO (h:Rel P E G s a w) {G1:Gh} {w1:World} {s1:RS} (f:Fr G w G1 w1 X0) (hp:∀ l b,l<s.H.length->G1.ph l=some b->G.ph l=some b) (h1:Rel P E G1 s1 a w1) {o:Oper} (hd:∀ d',o.dst=some d'->d'<a.tmps.size) {v:AV} {ws:List W} {pn:Pn}
  (hr:(done o.dst v).run s1=some (ws,pn)) {x:Value} (hv:VRel P E G1 w1 (fun j=>.hand j) v x) (hx:(execOp a.eval o).run P w=.ok (.value x) w1) (pre:Option Nat):OpOk P E G s a w pre o (s1.puts ws) pn:=by
 obtain ⟨rfl,G',f',hp',hr'⟩:=Wz h1 hd hr hv
 exact OpOk.val hx ⟨rfl,G',f.trans f',fun l b hl _ hb=>hp l b hl (hp'▸hb),hr'⟩
theorem ym (h:Rel P E G s a w) {o:Oper} (hd:∀ d',o.dst=some d'->d'<a.tmps.size) {v:AV} {ws:List W} {pn:Pn} (hr:(done o.dst v).run s=some (ws,pn)) {x:Value} (hv:VRel P E G w (fun j=>.hand j) v x)
  (hx:(execOp a.eval o).run P w=.ok (.value x) w) (pre:Option Nat):OpOk P E G s a w pre o (s.puts ws) pn :=
 xO h (Fr.refl.weaken (fun _ h=>h.elim) X0_old) (fun _ _ _ h=>h) h hd hr hv hx pre
theorem WF (h:Rel P E G s a w) {o:Oper} (hd:∀ d',o.dst=some d'->d'<a.tmps.size) {r:Ref} {ws:List W} {pn:Pn} (hr:(Z0 o.dst r).run s=some (ws,pn)) {x:Value} (hv:RefOk G s a w r x)
  (hx:(execOp a.eval o).run P w=.ok (.value x) w) (pre:Option Nat):OpOk P E G s a w pre o (s.puts ws) pn:=by
 obtain ⟨rfl,G',f',hp',hr'⟩:=zhe h hd hr hv
 exact OpOk.val hx ⟨rfl,G',f',fun l b hl _ hb=>hp'▸hb,hr'⟩
theorem xV {G1:Gh} (h:G1.ph=G.ph):∀ l b,l<s.H.length->G1.ph l=some b->G.ph l=some b:=fun l b _ hb=>h▸hb
theorem vi {k:IntKind} {n:Int} {hh:Nat->Hd}:VRel P E G w hh (.pv (.v (.int k n))) (.int k n):=PRep.v rfl
theorem vb {b:Bool} {hh:Nat->Hd}:VRel P E G w hh (.pv (.v (.bool b))) (.bool b):=PRep.v rfl
theorem yZ {x:Value} {y:Value} {g:Nat->Option (Array Value)} (h:PRep g (.v x) y):y=x:=by cases h;rfl
variable {cf:Nat->List AV->za->Option (Out×za)}
theorem zeY (hS:SysOk P E) (h:Rel P E G s a w) {pre:Option Nat} {o:Oper} {x:Operand} (ho:o.op=.move x) (hd:∀ d',o.dst=some d'->d'<a.tmps.size) {ws:List W} {pn:Pn} (hr:(act E cf pre o).run s=some (ws,pn)):OpOk P E G s a w pre o (s.puts ws) pn:=by
 have hx:(execOp a.eval o).run P w=.ok (.value (a.eval x)) w:=by simp[execOp,ho]
 simp only[act,ho] at hr
 have K:(do let v ←Zi E o.type x;done o.dst v:RM Pn).run s=some (ws,pn)->OpOk P E G s a w pre o (s.puts ws) pn:=by
  intro hr
  obtain ⟨u1,v,v1,h1,h2,rfl⟩:=zmR hr
  obtain ⟨rfl,hv,_⟩:=w7 (a:=a) hS h.wo h1 (fun j=>.hand j)
  simp only[RS.puts] at h2
  exact ym h hd h2 hv hx pre
 cases x with
 |const c=>exact K hr
 |global c=>exact K hr
 |func c=>exact K hr
 |tmp t=>
  simp only at hr
  obtain ⟨u1,c,v1,h1,h2,rfl⟩:=zmR hr
  obtain ⟨rfl,rfl⟩:=yS h1
  simp only[RS.puts,zm7] at h2 ⊢
  cases hq:(s.sl t).r with
  |some q=>simp only[hq] at h2;exact WF h hd h2 (h.rf t q hq) hx pre
  |none=>
   simp only[hq] at h2
   have hv:=h.sl t
   cases ha:(s.sl t).a with
   |slu e sz xs=>
    simp only[ha] at h2
    split at h2
    ·exact (zr h2).elim
    ·exact WF h hd h2 (fun _=>rfl) hx pre
   |agg cs=>
    simp only[ha] at h2
    split at h2
    ·exact (zr h2).elim
    ·rename_i hc
     rw[ha] at hv
     exact ym h hd h2 (hv.any (by simpa[shd] using hc)) hx pre
   |pv p=>simp only[ha] at h2;rw[ha] at hv;exact ym h hd h2 (hv.any rfl) hx pre
   |ptr l o=>simp only[ha] at h2;rw[ha] at hv;exact ym h hd h2 (hv.any rfl) hx pre
   |elp x o=>simp only[ha] at h2;rw[ha] at hv;exact ym h hd h2 (hv.any rfl) hx pre
   |clo f x y=>simp only[ha] at h2;rw[ha] at hv;exact ym h hd h2 (hv.any rfl) hx pre
   |gm g=>simp only[ha] at h2;rw[ha] at hv;exact ym h hd h2 (hv.any rfl) hx pre
   |mp g=>simp only[ha] at h2;rw[ha] at hv;exact ym h hd h2 (hv.any rfl) hx pre
   |tup k b ps=>
    simp only[ha] at h2
    obtain ⟨u5,b',v5,h5,h6,rfl⟩:=zmR h2
    obtain ⟨G1,f,hp,h3,hv'⟩:=ZK hS h h5
    rw[RS.puts_append]
    exact xO h (f.weaken xn X0_old) (xV hp) h3 hd h6 hv' hx pre
   |dead=>simp only[ha] at h2;rw[ha] at hv;exact ym h hd h2 (hv.any rfl) hx pre
   |und=>simp only[ha] at h2;rw[ha] at hv;exact ym h hd h2 (hv.any rfl) hx pre
theorem zeE (hS:SysOk P E) (h:Rel P E G s a w) {pre:Option Nat} {o:Oper} {x:Operand} (ho:o.op=.assign x) (hd:∀ d',o.dst=some d'->d'<a.tmps.size) {ws:List W} {pn:Pn} (hr:(act E cf pre o).run s=some (ws,pn)):OpOk P E G s a w pre o (s.puts ws) pn:=by
 have hx:(execOp a.eval o).run P w=.ok (.value (a.eval x)) w:=by simp[execOp,ho]
 simp only[act,ho] at hr
 obtain ⟨u0,q,v0,h01,h02,rfl⟩:=zmR hr
 have hq:u0=[]:=by
  cases x with
  |tmp i=>
   obtain ⟨u1,c,v1,h1,h2,rfl⟩:=zmR h01
   rw[(yS h1).1,(run_pure h2).1];rfl
  |_=>exact (run_pure h01).1
 subst hq
 simp only[RS.puts,zm7] at h02 ⊢
 split at h02
 ·exact ym h hd h02 (x:=a.eval x) trivial hx pre
 obtain ⟨u1,v,v1,h1,h2,rfl⟩:=zmR h02
 obtain ⟨G1,f,hp,h3,hv⟩:=zlo hS h h1
 rw[RS.puts_append]
 exact xO h (f.weaken xn X0_old) (xV hp) h3 hd h2 hv hx pre
theorem ze1 (hS:SysOk P E) (h:Rel P E G s a w) {pre:Option Nat} {o:Oper} {c x y:Operand} (ho:o.op=.pick c x y) (hd:∀ d',o.dst=some d'->d'<a.tmps.size) {ws:List W} {pn:Pn} (hr:(act E cf pre o).run s=some (ws,pn)):OpOk P E G s a w pre o (s.puts ws) pn:=by
 simp only[act,ho] at hr
 obtain ⟨u1,v,v1,h1,h2,rfl⟩:=zmR hr
 obtain ⟨rfl,hh,hv⟩:=xG hS h h1
 simp only[RS.puts,zm7] at h2 ⊢
 obtain ⟨u0,t,v0,h01,h02,rfl⟩:=zmR h2
 obtain ⟨rfl,ht⟩:=zE h01
 have:=Zj ht
 subst this
 simp only[RS.puts,zm7] at h02 ⊢
 have hc:a.eval c=.bool t:=yZ hv
 obtain ⟨u2,g,v2,h3,h4,rfl⟩:=zmR h02
 obtain ⟨rfl,hg,hgv⟩:=xG hS h h3
 simp only[RS.puts,zm7] at h4 ⊢
 obtain ⟨u3,k,v3,h5,h6,rfl⟩:=zmR h4
 obtain ⟨rfl,hk,hkv⟩:=xG hS h h5
 simp only[RS.puts,zm7] at h6 ⊢
 obtain ⟨u4,i,v4,h7,h8,rfl⟩:=zmR h6
 obtain ⟨rfl,hi⟩:=yX h7
 simp only[RS.puts,zm7] at h8 ⊢
 have hx:(execOp a.eval o).run P w=.ok (.value (if t then a.eval x else a.eval y)) w:=by simp[execOp,ho,hc,asBool]
 split at h8
 ·obtain ⟨u5,_,v5,h9,h10,rfl⟩:=zmR h8
  obtain ⟨rfl,hn⟩:=z5 h9
  simp only[zm8,Bool.not_eq_true'] at hn
  obtain ⟨rfl,hn2⟩:=hn
  simp only[RS.puts,zm7] at h10 ⊢
  refine ym h hd h10 ?_ hx pre
  cases k<;>simp[xq] at hn2
  exact hkv.any rfl
 ·split at h8
  ·obtain ⟨u5,_,v5,h9,h10,rfl⟩:=zmR h8
   obtain ⟨rfl,hn⟩:=z5 h9
   simp only[zm8] at hn
   obtain ⟨rfl,hn2⟩:=hn
   simp only[RS.puts,zm7] at h10 ⊢
   refine ym h hd h10 ?_ hx pre
   cases g<;>simp[xq] at hn2
   exact hgv.any rfl
  ·
   split at h8
   ·obtain ⟨u5,m,v5,h9,h10,rfl⟩:=zmR h8
    obtain ⟨rfl,hm⟩:=zE h9
    have:=Zj hm
    subst this
    simp only[RS.puts,zm7] at h10 ⊢
    obtain ⟨u6,n,v6,h11,h12,rfl⟩:=zmR h10
    obtain ⟨rfl,hn⟩:=zE h11
    have:=Zj hn
    subst this
    simp only[RS.puts,zm7] at h12 ⊢
    refine ym h hd h12 ?_ hx pre
    rw[show a.eval x=_ from yZ hgv,show a.eval y=_ from yZ hkv]
    cases t<;>exact vb
   ·split at h8
    ·rename_i hp
     simp only[zm8] at hp
     rcases Q2 h8 with ⟨rfl,h9⟩|⟨rfl,h9⟩
     ·refine ym h hd h9 ?_ hx pre
      have:xq g=true:=hp.1
      cases g<;>simp[xq] at this
      exact hgv.any rfl
     ·refine ym h hd h9 ?_ hx pre
      have:xq k=true:=hp.2
      cases k<;>simp[xq] at this
      exact hkv.any rfl
    ·exact (zr h8).elim
theorem ze5 (hS:SysOk P E) (h:Rel P E G s a w) {pre:Option Nat} {o:Oper} {op:UnOp} {t:Nat} {x:Operand} (ho:o.op=.unOp op t x) (hd:∀ d',o.dst=some d'->d'<a.tmps.size) {ws:List W} {pn:Pn} (hr:(act E cf pre o).run s=some (ws,pn)):OpOk P E G s a w pre o (s.puts ws) pn:=by
 simp only[act,ho] at hr
 obtain ⟨u1,v,v1,h1,h2,rfl⟩:=zmR hr
 obtain ⟨rfl,hh,hv⟩:=xG hS h h1
 simp only[RS.puts,zm7] at h2 ⊢
 cases op with
 |not=>
  simp only at h2
  obtain ⟨u2,b,v2,h3,h4,rfl⟩:=zmR h2
  obtain ⟨rfl,hb⟩:=zE h3
  have:=Zj hb
  subst this
  simp only[RS.puts,zm7] at h4 ⊢
  exact ym h hd h4 vb (by simp[execOp,ho,show a.eval x=_ from yZ hv,Op.unary]) pre
 |neg=>
  simp only at h2
  obtain ⟨u2,b,v2,h3,h4,rfl⟩:=zmR h2
  obtain ⟨rfl,hb⟩:=zE h3
  have:=J1 hb
  subst this
  simp only[RS.puts,zm7] at h4 ⊢
  exact ym h hd h4 vi (by simp[execOp,ho,show a.eval x=_ from yZ hv,Op.unary,Op.intArith]) pre
 |xor=>
  simp only at h2
  obtain ⟨u2,b,v2,h3,h4,rfl⟩:=zmR h2
  obtain ⟨rfl,hb⟩:=zE h3
  have:=J1 hb
  subst this
  simp only[RS.puts,zm7] at h4 ⊢
  exact ym h hd h4 vi (by simp[execOp,ho,show a.eval x=_ from yZ hv,Op.unary,Op.intBits]) pre
 |_=>exact (zr h2).elim
theorem zba:∀ {xs:List PV} {ns:List Int},vz xs=some ns->xs=ns.map fun n=>PV.v (.int .u8 n)
 |[],ns,h=>by cases h;rfl
 |p::r,ns,h=>by
  unfold vz at h
  split at h
  ·rename_i he;cases he
  ·rename_i n r' he
   cases he
   cases hr:vz r with
   |none=>simp[hr] at h
   |some l=>simp only[hr,Option.map_some,zm9] at h;subst h;rw[zba hr];rfl
  ·cases h
theorem zfO (wo:WOk P E G w) {xs:List PV} {ns:List Int} {v:Value} (hP:PRep G.g (.sl 1 xs) v) (hns:vz xs=some ns) {t u e:Nat} (hsu:P.underlying t=some (.slice e)) (heu:P.underlying e=some (.int .u8)) (hu:P.underlying u=some .string) :
  (convert t u v).run P w=.ok (.string (strOfNums ns)) w:=by
 have hx:=zba hns
 cases hP with
 |sl0=>
  have:ns=[]:=by simpa using hx.symm
  subst this
  rename_i cap p
  rw[run_convert_bytes_string w t u e p 0 cap hsu heu hu]
  cases p with
  |none=>simp[Conv.bytesToString,strOfNums,ByteArray.empty,ByteArray.emptyWithCapacity];rfl
  |some q=>exact (run_bytesToString w q 0 cap [] (by have:=run_loadCells (P:=P) (w:=w) q 0 (fun _=>undef) (fun j hj=>absurd hj (by omega));simpa using this)).trans rfl
 |sl g1 g2 g3 g4 g5 g6=>
  rename_i b o cap c
  obtain ⟨_,T,f,hb⟩:=wo.imm b c g1
  have hlen:xs.length=ns.length:=by rw[hx];simp
  refine run_convert_bytes_arg w t e hsu heu b o xs.length cap ns hlen.symm (fun i hi=>?_) u hu
  have hi':i<ns.length:=by omega
  have hp:xs[i]? = some (.v (.int .u8 ns[i])):=by rw[hx];simp[hi']
  have hci:o+i<c.size:=by omega
  have hrep:=g6 i _ 0 _ c[o+i] hp rfl (by rw[show o+i*1+0=o+i by omega];exact Array.getElem?_eq_getElem hci)
  have:=yZ hrep
  simp only[World.cell?,hb]
  rw[Array.getElem?_eq_getElem hci,this]
  simp[List.getD_eq_getElem?_getD,hi']
theorem zeM (hS:SysOk P E) (h:Rel P E G s a w) {pre:Option Nat} {o:Oper} {t u:Nat} {x:Operand} (ho:o.op=.convert t u x) (hd:∀ d',o.dst=some d'->d'<a.tmps.size) {ws:List W} {pn:Pn} (hr:(act E cf pre o).run s=some (ws,pn)):OpOk P E G s a w pre o (s.puts ws) pn:=by
 simp only[act,ho] at hr
 obtain ⟨u0,i0,v0,h01,h02,rfl⟩:=zmR hr
 obtain ⟨rfl,hi0⟩:=yX h01
 simp only[RS.puts,zm7] at h02 ⊢
 obtain ⟨d0,hdu,_⟩:=(hS.ty t i0 hi0).un
 obtain ⟨u1,i,v1,h1,h2,rfl⟩:=zmR h02
 obtain ⟨rfl,hi⟩:=yX h1
 simp only[RS.puts,zm7] at h2 ⊢
 split at h2
 ·rename_i hstr
  have hu:=(hS.ty u i hi).str hstr
  obtain ⟨u2,j,v2,h3,h4,rfl⟩:=zmR h2
  obtain ⟨rfl,hj⟩:=yX h3
  simp only[RS.puts,zm7] at h4 ⊢
  obtain ⟨u3,el,v3,h5,h6,rfl⟩:=zmR h4
  obtain ⟨rfl,hel⟩:=zE h5
  simp only[RS.puts,zm7] at h6 ⊢
  obtain ⟨u4,e,v4,h7,h8,rfl⟩:=zmR h6
  obtain ⟨rfl,he⟩:=yX h7
  simp only[RS.puts,zm7] at h8 ⊢
  obtain ⟨u5,_,v5,h9,h10,rfl⟩:=zmR h8
  obtain ⟨rfl,hn⟩:=z5 h9
  simp only[RS.puts,zm7] at h10 ⊢
  have heu:=(hS.ty el.1 e he).int .u8 (of_decide_eq_true hn)
  have hsu:=((hS.ty t j hj).el el hel).1
  obtain ⟨u6,v,v6,h11,h12,rfl⟩:=zmR h10
  obtain ⟨G1,f1,p1,r1,_,_,hv⟩:=YP hS h h11
  rw[RS.puts_append]
  split at h12
  ·rename_i p
   obtain ⟨u7,l,v7,h13,h14,rfl⟩:=zmR h12
   obtain ⟨rfl,hl⟩:=zE h13
   have:=WW hl
   subst this
   obtain ⟨sz,xs⟩:=l
   simp only[RS.puts,zm7] at h14 ⊢
   obtain ⟨u8,_,v8,h15,h16,rfl⟩:=zmR h14
   obtain ⟨rfl,hsz⟩:=z5 h15
   obtain rfl:sz=1:=of_decide_eq_true hsz
   simp only[RS.puts,zm7] at h16 ⊢
   obtain ⟨u9,ns,v9,h17,h18,rfl⟩:=zmR h16
   obtain ⟨rfl,hns⟩:=zE h17
   simp only[RS.puts,zm7] at h18 ⊢
   have hP:PRep G1.g (.sl 1 xs) (a.eval x):=hv (fun _=>.imm)
   have hrun:=zfO r1.wo hP hns hsu heu hu
   exact xO h (f1.weaken xn X0_old) (xV p1) r1 hd h18 (x:=.string (strOfNums ns)) (PRep.v rfl) (by simp[execOp,ho,hrun]) pre
  ·exact (zr h12).elim
 obtain ⟨u2,k,v2,h3,h4,rfl⟩:=zmR h2
 obtain ⟨rfl,hk⟩:=zE h3
 simp only[RS.puts,zm7] at h4 ⊢
 obtain ⟨u3,n,v3,h5,h6,rfl⟩:=zmR h4
 obtain ⟨rfl,hn⟩:=Zz hS h h5
 simp only[RS.puts,zm7] at h6 ⊢
 have hu:=(hS.ty u i hi).int k hk
 exact ym h hd h6 vi (by simp[execOp,ho,hn,convert,run_underlying hdu,run_underlying hu,Conv.intToInt]) pre
theorem zeO (hS:SysOk P E) (h:Rel P E G s a w) {pre:Option Nat} {o:Oper} {i:Nat} {x:Operand} (ho:o.op=.extract x i) (hd:∀ d',o.dst=some d'->d'<a.tmps.size) {ws:List W} {pn:Pn} (hr:(act E cf pre o).run s=some (ws,pn)):OpOk P E G s a w pre o (s.puts ws) pn:=by
 have K:∀ {ws:List W} {pn:Pn},(do let b ←rdv E 0 x;let ps ←zv (Z5 b);let p ←zv (ps[i]?);done o.dst (.pv p):RM Pn).run s=some (ws,pn)->OpOk P E G s a w pre o (s.puts ws) pn:=by
  intro ws pn hr
  obtain ⟨u1,v,v1,h1,h2,rfl⟩:=zmR hr
  obtain ⟨rfl,hh,hv⟩:=xG hS h h1
  simp only[RS.puts,zm7] at h2 ⊢
  obtain ⟨u0,ps,v0,h01,h02,rfl⟩:=zmR h2
  obtain ⟨rfl,hps⟩:=zE h01
  have:=zbe hps
  subst this
  simp only[RS.puts,zm7] at h02 ⊢
  obtain ⟨u2,p,v2,h3,h4,rfl⟩:=zmR h02
  obtain ⟨rfl,hp⟩:=zE h3
  simp only[RS.puts,zm7] at h4 ⊢
  have hv':PRep G.g (.tup ps) (a.eval x):=hv
  generalize hy:a.eval x=y at hv'
  cases hv' with
  |tup h1 h2=>
   rename_i vs
   have hlt:i<vs.size:=by rw[h1];exact (List.getElem?_eq_some_iff.1 hp).1
   exact ym h hd h4 (x:=vs[i]) (h2 i p vs[i] hp (by simp[hlt])) (by simp[execOp,ho,hy,Instr.extract,hlt]) pre
 simp only[act,ho,jU] at hr
 cases x with
 |const c=>exact (zr hr).elim
 |global c=>exact (zr hr).elim
 |func c=>exact (zr hr).elim
 |tmp y=>
  simp only at hr
  obtain ⟨u1,c,v1,h1,h2,rfl⟩:=zmR hr
  obtain ⟨rfl,rfl⟩:=yS h1
  simp only[RS.puts,zm7] at h2 ⊢
  split at h2
  ·rename_i k b ps hcr hca
   have hv:=h.sl y
   rw[hca] at hv
   obtain ⟨vs,hvs,hsz,hlt0,hp,hk⟩:=hv
   have hy:a.eval (.tmp y)=.tuple vs:=hvs
   unfold jV at h2
   split at h2
   ·rename_i hik
    subst hik
    split at h2
    ·exact ym h hd h2 (x:=vs[i]) trivial (by simp[execOp,ho,hy,Instr.extract,hlt0]) pre
    rename_i hnd
    obtain ⟨u3,_,v3,h5,h6,rfl⟩:=zmR h2
    have hw:=yO h5
    subst hw
    rw[RS.puts_append]
    obtain ⟨G1,f,hph,wo,hkb⟩:=zlY h.wo y
    have r1:Rel P E G1 (s.puts [.s y (.tup i .dead ps) none false]) a w :=
     h.slot f wo (fun l b hb=>hph▸hb) y (fun k hk=>.inl hk) (v:=tmp a y) rfl (fun _ _=>rfl) ⟨vs,hvs,hsz,hlt0,fun j q u hj hq hu=>(hp j q u hj hq hu).mono f.g,fun _ _=>trivial⟩ (fun q hq=>by cases hq) (.inr rfl)
    have hlt:=hlt0
    have hvr:VRel P E G1 w (fun j=>.hand j) b vs[i]:=((hk vs[i] (by simp[hlt])).move (w':=w) f.g (fun j bb hb=>⟨hkb bb j hb,rfl⟩)).v (by simpa using hnd)
    exact xO h (f.weaken (fun k hk=>by obtain ⟨j,rfl⟩:=hk;exact ⟨by simp,by simp⟩) X0_old) (xV hph) r1 hd h6 (x:=vs[i]) hvr (by simp[execOp,ho,hy,Instr.extract,hlt]) pre
   ·rename_i hik
    obtain ⟨u2,p,v2,h3,h4,rfl⟩:=zmR h2
    obtain ⟨rfl,hpi⟩:=zE h3
    simp only[RS.puts,zm7] at h4 ⊢
    have hlt:i<vs.size:=by rw[hsz];exact (List.getElem?_eq_some_iff.1 hpi).1
    exact ym h hd h4 (x:=vs[i]) (hp i p vs[i] hik hpi (by simp[hlt])) (by simp[execOp,ho,hy,Instr.extract,hlt]) pre
  ·exact K h2
theorem gW {op:BinOp} {t:Nat} {k k':IntKind} {m n:Int} {z:Value} (h:Y5 op k m k' n=some z):(binOp op t (.int k m) (.int k' n)).run P w=.ok z w/\okV z=true:=by
 unfold Y5 at h
 split at h
 ·split at h
  ·cases h
  ·rename_i hb
   cases h
   exact ⟨by simp[binOp,Op.shift,hb],rfl⟩
 ·split at h
  ·cases h
  ·rename_i hb
   cases h
   exact ⟨by simp[binOp,Op.shift,hb],rfl⟩
 ·split at h
  ·rename_i hk
   subst hk
   split at h<;>first
    |(cases h;exact ⟨by simp[binOp,Op.intArith,Op.intBits,Op.intCmp],rfl⟩)
    |(
      split at h
      ·cases h
      ·rename_i hb
       cases h
       exact ⟨by simp[binOp,Op.intDiv,hb],rfl⟩)
    |cases h
  ·cases h
theorem zfi {op:BinOp} {k k':IntKind} {m n z:Int} (hb:yN op n=true) (hk:(decide (k=k')||WK op)=true) (h:arith op k m n=some z):Y5 op k m k' n=some (.int k z):=by
 unfold arith at h
 split at h<;>simp only[zm9,reduceCtorEq] at h<;>subst h<;>simp_all [Y5,yN,WK]
theorem zgP {op:BinOp} {k k':IntKind} {m n:Int} {z:Bool} (hk:(decide (k=k')||WK op)=true) (h:Jm op m n=some z):Y5 op k m k' n=some (.bool z):=by
 unfold Jm at h
 split at h<;>simp only[zm9,reduceCtorEq] at h<;>subst h<;>simp_all [Y5,WK]
theorem zap {op:BinOp} {t:Nat} {x y:Operand} {k k':IntKind} {m n:Int}:(eqGuard op t x y (.int k m) (.int k' n)).run P w=.ok () w:=by
 unfold eqGuard;split<;>rfl
theorem zao {op:BinOp} {t:Nat} {x y:Operand} {m n:Bool}:(eqGuard op t x y (.bool m) (.bool n)).run P w=.ok () w:=by
 unfold eqGuard;split<;>rfl
theorem QV {cs:List AV} {ps:List PV} (hm:cs.mapM zb=some ps):cs=ps.map .pv:=by
 induction cs generalizing ps with
 |nil=>simp at hm;subst hm;rfl
 |cons q r ih=>
  simp only[List.mapM_cons,Option.bind_eq_bind,Option.bind_eq_some_iff,Option.pure_def,zm9] at hm
  obtain ⟨p,hp,ps',hps,rfl⟩:=hm
  cases q<;>simp[zb] at hp
  subst hp
  simp[ih hps]
theorem gI {hh:Nat->Hd} {v:AV} {y:Value} {cs:List PV} (hv:VRel P E G w hh v y) (h:Y3 v=some cs):∃ vs,y=.agg vs/\PRep G.g (.agg cs) (.agg vs):=by
 unfold Y3 at h
 split at h
 ·cases h
  have hv':PRep G.g (.agg cs) y:=hv
  cases hv' with
  |agg h1 h2 h3=>exact ⟨_,rfl,.agg h1 h2 h3⟩
 ·have:=QV h
  subst this
  obtain ⟨vs,rfl,h1,h2⟩:=hv
  refine ⟨vs,rfl,.agg (by simpa using h1) (fun q hq=>?_) (fun j q u hq hu=>(h2 j (.pv q) u (by simp[hq]) hu).2)⟩
  obtain ⟨j,hj,rfl⟩:=List.getElem_of_mem hq
  have hj':j<vs.size:=by rw[h1];simpa using hj
  exact (h2 j (.pv cs[j]) vs[j] (by simp[hj]) (by simp[hj'])).1
 ·cases h
theorem jH {t:Nat} {c d:Bool} (hu:P.underlying t=some .bool):(Op.equal t (.bool c) (.bool d)).run P w=.ok (c==d) w:=by
 have k:∀ n,(Op.equalIn (n+1) t (.bool c) (.bool d)).run P w=.ok (c==d) w:=fun n=>by
  simp only[Op.equalIn,Sem.run_bind,run_underlying hu,Result.andThen_ok,Sem.run_pure]
 exact k 9999
theorem zfp {t:Nat} {c d:Bool} (hu:P.underlying t=some .bool):(binOp .eql t (.bool c) (.bool d)).run P w=.ok (.bool (c==d)) w:=by
 show (do pure (.bool (←Op.equal t (.bool c) (.bool d))):Sem Value).run P w=_
 simp only[Sem.run_bind,jH hu,Result.andThen_ok,Sem.run_pure]
theorem zfq {t:Nat} {c d:Bool} (hu:P.underlying t=some .bool):(binOp .neq t (.bool c) (.bool d)).run P w=.ok (.bool (c != d)) w:=by
 show (do pure (.bool (!(←Op.equal t (.bool c) (.bool d)))):Sem Value).run P w=_
 simp only[Sem.run_bind,jH hu,Result.andThen_ok,Sem.run_pure,bne]
theorem zbd {a:AV} {s:ByteArray} (h:QJ a=some s):a=.pv (.v (.string s)):=by
 unfold QJ at h
 split at h
 ·cases h;rfl
 ·cases h
theorem J2 {a:AV} {z:Bool} (h:yC a=some z):(z=true/\a=.pv (.v .nilIface))∨(z=false/\∃ p,a=.pv p/\∀ g v,PRep g p v->∃ t q,v=.iface t q):=by
 unfold yC at h
 split at h
 ·cases h;exact .inl ⟨rfl,rfl⟩
 ·cases h;exact .inr ⟨rfl,_,rfl,fun g v hv=>by cases hv;exact ⟨_,_,rfl⟩⟩
 ·cases h;exact .inr ⟨rfl,_,rfl,fun g v hv=>by cases hv;exact ⟨_,_,rfl⟩⟩
 ·cases h
theorem zeF (hS:SysOk P E) (h:Rel P E G s a w) {pre:Option Nat} {o:Oper} {op:BinOp} {t u:Nat} {x y:Operand} (ho:o.op=.binOp op t x y u) (hd:∀ d',o.dst=some d'->d'<a.tmps.size) {ws:List W} {pn:Pn} (hr:(act E cf pre o).run s=some (ws,pn)):OpOk P E G s a w pre o (s.puts ws) pn:=by
 simp only[act,ho] at hr
 obtain ⟨u1,v,v1,h1,h2,rfl⟩:=zmR hr
 obtain ⟨rfl,hh,hv⟩:=xG hS h h1
 simp only[RS.puts,zm7] at h2 ⊢
 obtain ⟨u2,v',v2,h3,h4,rfl⟩:=zmR h2
 obtain ⟨rfl,hh',hv'⟩:=xG hS h h3
 simp only[RS.puts,zm7] at h4 ⊢
 obtain ⟨u3,i,v3,h5,h6,rfl⟩:=zmR h4
 obtain ⟨rfl,hi⟩:=yX h5
 simp only[RS.puts,zm7] at h6 ⊢
 split at h6
 ·rename_i k hk
  obtain ⟨u4,j,v4,h7,h8,rfl⟩:=zmR h6
  obtain ⟨rfl,hj⟩:=yX h7
  simp only[RS.puts,zm7] at h8 ⊢
  obtain ⟨u5,k',v5,h9,h10,rfl⟩:=zmR h8
  obtain ⟨rfl,hk'⟩:=zE h9
  simp only[RS.puts,zm7] at h10 ⊢
  obtain ⟨u6,_,v6,h11,h12,rfl⟩:=zmR h10
  obtain ⟨rfl,hkk⟩:=z5 h11
  simp only[RS.puts,zm7] at h12 ⊢
  obtain ⟨u7,m,v7,h13,h14,rfl⟩:=zmR h12
  obtain ⟨rfl,hm⟩:=zE h13
  have:=J0 hm
  subst this
  simp only[RS.puts,zm7] at h14 ⊢
  obtain ⟨u8,n,v8,h15,h16,rfl⟩:=zmR h14
  obtain ⟨rfl,hn⟩:=zE h15
  have:=J0 hn
  subst this
  simp only[RS.puts,zm7] at h16 ⊢
  obtain ⟨u9,_,v9,h17,h18,rfl⟩:=zmR h16
  obtain ⟨rfl,hok⟩:=z5 h17
  simp only[RS.puts,zm7] at h18 ⊢
  split at h18
  ·rename_i z _ hz
   obtain ⟨hz1,hz2⟩:=gW (P:=P) (w:=w) (t:=t) (zfi hok hkk hz)
   exact ym h hd h18 vi (by simp[execOp,ho,show a.eval x=_ from yZ hv,show a.eval y=_ from yZ hv',zap,hz1]) pre
  ·rename_i z _ hz
   obtain ⟨hz1,hz2⟩:=gW (P:=P) (w:=w) (t:=t) (zgP hkk hz)
   exact ym h hd h18 vb (by simp[execOp,ho,show a.eval x=_ from yZ hv,show a.eval y=_ from yZ hv',zap,hz1]) pre
  ·exact (zr h18).elim
 ·split at h6
  ·rename_i hb
   unfold gS at h6
   obtain ⟨u7,c,v7,h13,h14,rfl⟩:=zmR h6
   obtain ⟨rfl,hc⟩:=zE h13
   have:=Zj hc
   subst this
   simp only[RS.puts,zm7] at h14 ⊢
   obtain ⟨u8,d,v8,h15,h8,rfl⟩:=zmR h14
   obtain ⟨rfl,hdd⟩:=zE h15
   have:=Zj hdd
   subst this
   simp only[RS.puts,zm7] at h8 ⊢
   have hu:=(hS.ty t i hi).bool hb
   split at h8
   ·exact ym h hd h8 vb (by simp only[execOp,ho,show a.eval x=_ from yZ hv,show a.eval y=_ from yZ hv',Sem.run_bind,zao,Result.andThen_ok,zfp hu,Sem.run_pure]) pre
   ·exact ym h hd h8 vb (by simp only[execOp,ho,show a.eval x=_ from yZ hv,show a.eval y=_ from yZ hv',Sem.run_bind,zao,Result.andThen_ok,zfq hu,Sem.run_pure]) pre
   ·exact (zr h8).elim
  split at h6
  ·rename_i hb
   unfold gV at h6
   obtain ⟨u7,c,v7,h13,h14,rfl⟩:=zmR h6
   obtain ⟨rfl,hc⟩:=zE h13
   have:=zbd hc
   subst this
   simp only[RS.puts,zm7] at h14 ⊢
   obtain ⟨u8,d,v8,h15,h8,rfl⟩:=zmR h14
   obtain ⟨rfl,hdd⟩:=zE h15
   have:=zbd hdd
   subst this
   simp only[RS.puts,zm7] at h8 ⊢
   have hu:=(hS.ty t i hi).str hb
   have hg:∀ op,(eqGuard op t x y (.string c) (.string d)).run P w=.ok () w:=fun op=>by unfold eqGuard;split<;>rfl
   have e1:(binOp .eql t (.string c) (.string d)).run P w=.ok (.bool (c.toList==d.toList)) w:=by
    show (Op.stringOp .eql c d).run P w=_
    simp[Op.stringOp]
   have e2:(binOp .neq t (.string c) (.string d)).run P w=.ok (.bool (!(c.toList==d.toList))) w:=by
    show (Op.stringOp .neq c d).run P w=_
    simp[Op.stringOp]
   split at h8
   ·exact ym h hd h8 vb (by simp only[execOp,ho,show a.eval x=_ from yZ hv,show a.eval y=_ from yZ hv',Sem.run_bind,hg,Result.andThen_ok,e1,Sem.run_pure]) pre
   ·exact ym h hd h8 vb (by simp only[execOp,ho,show a.eval x=_ from yZ hv,show a.eval y=_ from yZ hv',Sem.run_bind,hg,Result.andThen_ok,e2,Sem.run_pure]) pre
   ·exact (zr h8).elim
  split at h6
  ·rename_i hb
   unfold gU at h6
   obtain ⟨u7,_,v7,h13,h14,rfl⟩:=zmR h6
   obtain ⟨rfl,hc0⟩:=z5 h13
   simp only[zm8] at hc0
   obtain ⟨hc,hky⟩:=hc0
   have hy:a.eval y=.nilIface:=by
    cases v' with
    |pv p=>
     cases p with
     |v z=>cases z<;>simp[Qr] at hc;exact yZ hv'
     |_=>simp[Qr] at hc
    |_=>simp[Qr] at hc
   simp only[RS.puts,zm7] at h14 ⊢
   obtain ⟨u8,z,v8,h15,h8,rfl⟩:=zmR h14
   obtain ⟨rfl,hz⟩:=zE h15
   simp only[RS.puts,zm7] at h8 ⊢
   obtain ⟨ms,hu⟩:=(hS.ty t i hi).ifc hb
   have he:(Op.equal t (a.eval x) .nilIface).run P w=.ok z w/\∀ op,(eqGuard op t x y (a.eval x) .nilIface).run P w=.ok () w:=by
    obtain ⟨ky,rfl⟩:∃ c,y=.const c:=by cases y<;>simp[isK] at hky;exact ⟨_,rfl⟩
    rcases J2 hz with ⟨rfl,rfl⟩|⟨rfl,pp,rfl,hpp⟩
    ·have hx:a.eval x=.nilIface:=yZ hv
     rw[hx]
     refine ⟨?_,fun op=>by unfold eqGuard;cases op<;>simp⟩
     have k:∀ n,(Op.equalIn (n+1) t .nilIface .nilIface).run P w=.ok true w:=fun n=>by
      simp only[Op.equalIn,Sem.run_bind,run_underlying hu,Result.andThen_ok,Sem.run_pure]
     exact k 9999
    ·obtain ⟨tt,q,hx⟩:=hpp _ _ hv
     rw[hx]
     refine ⟨?_,fun op=>by unfold eqGuard;split<;>rfl⟩
     have k:∀ n,(Op.equalIn (n+1) t (.iface tt q) .nilIface).run P w=.ok false w:=fun n=>by
      simp only[Op.equalIn,Sem.run_bind,run_underlying hu,Result.andThen_ok,Sem.run_pure]
     exact k 9999
   have e1:(binOp .eql t (a.eval x) .nilIface).run P w=.ok (.bool z) w:=by
    rcases J2 hz with ⟨rfl,rfl⟩|⟨rfl,pp,rfl,hpp⟩
    ·have hx:a.eval x=.nilIface:=yZ hv
     rw[hx] at he ⊢
     show (do pure (.bool (←Op.equal t .nilIface .nilIface)):Sem Value).run P w=_
     simp only[Sem.run_bind,he.1,Result.andThen_ok,Sem.run_pure]
    ·obtain ⟨tt,q,hx⟩:=hpp _ _ hv
     rw[hx] at he ⊢
     show (do pure (.bool (←Op.equal t (.iface tt q) .nilIface)):Sem Value).run P w=_
     simp only[Sem.run_bind,he.1,Result.andThen_ok,Sem.run_pure]
   have e2:(binOp .neq t (a.eval x) .nilIface).run P w=.ok (.bool (!z)) w:=by
    rcases J2 hz with ⟨rfl,rfl⟩|⟨rfl,pp,rfl,hpp⟩
    ·have hx:a.eval x=.nilIface:=yZ hv
     rw[hx] at he ⊢
     show (do pure (.bool (!(←Op.equal t .nilIface .nilIface))):Sem Value).run P w=_
     simp only[Sem.run_bind,he.1,Result.andThen_ok,Sem.run_pure]
    ·obtain ⟨tt,q,hx⟩:=hpp _ _ hv
     rw[hx] at he ⊢
     show (do pure (.bool (!(←Op.equal t (.iface tt q) .nilIface))):Sem Value).run P w=_
     simp only[Sem.run_bind,he.1,Result.andThen_ok,Sem.run_pure]
   split at h8
   ·exact ym h hd h8 vb (by simp only[execOp,ho,hy,Sem.run_bind,he.2,Result.andThen_ok,e1,Sem.run_pure]) pre
   ·exact ym h hd h8 vb (by simp only[execOp,ho,hy,Sem.run_bind,he.2,Result.andThen_ok,e2,Sem.run_pure]) pre
   ·exact (zr h8).elim
  unfold gT at h6
  obtain ⟨u4,_,v4,h7,h8,rfl⟩:=zmR h6
  obtain ⟨rfl,hb⟩:=z5 h7
  simp only[RS.puts,zm7] at h8 ⊢
  obtain ⟨u5,cs,v5,h9,h10,rfl⟩:=zmR h8
  obtain ⟨rfl,hcs⟩:=zE h9
  simp only[RS.puts,zm7] at h10 ⊢
  obtain ⟨u6,ds,v6,h11,h12,rfl⟩:=zmR h10
  obtain ⟨rfl,hds⟩:=zE h11
  simp only[RS.puts,zm7] at h12 ⊢
  obtain ⟨u7,z,v7,h13,h14,rfl⟩:=zmR h12
  obtain ⟨rfl,hz⟩:=zE h13
  simp only[RS.puts,zm7] at h14 ⊢
  obtain ⟨vs,e1,r1⟩:=gI hv hcs
  obtain ⟨us,e2,r2⟩:=gI hv' hds
  obtain ⟨q1,q2⟩:=(hS.ty t i hi).eq hb w vs us cs ds z G.g r1 r2 hz
  have hg:∀ op,(eqGuard op t x y (.agg vs) (.agg us)).run P w=.ok () w:=by
   intro op
   cases op<;>simp[eqGuard,q2]
  split at h14
  ·exact ym h hd h14 vb (by simp only[execOp,ho,e1,e2,Sem.run_bind,hg,Result.andThen_ok,binOp,q1,Sem.run_pure]) pre
  ·exact ym h hd h14 vb (by simp only[execOp,ho,e1,e2,Sem.run_bind,hg,Result.andThen_ok,binOp,q1,Sem.run_pure]) pre
  ·exact (zr h14).elim
theorem J5 {p:PV} {off:Nat} {t:Nat} {i:TI} (hT:TyOk P t i) {v:AV} {ws:List W} {s1:RS} (hr:(ZS p off i.size i.agg).run s1=some (ws,v)) {vs:List Value} (hvs:p.cells.length=vs.length)
  (hc:∀ (j:Nat) (q:PV) (u:Value),p.cells[j]? = some q->vs[j]? = some u->q.isCell=true/\PRep G.g q u) :
  ws=[]/\(i.agg=true->off+i.size<=vs.length)/\(i.agg=false->off<vs.length)/\shd v=true/\
   ∀ hh,VRel P E G w hh v (if i.agg then .agg ((vs.drop off).take i.size).toArray else (vs[off]?).getD undef):=by
 unfold ZS at hr
 split at hr
 ·rename_i hag
  obtain ⟨u1,_,v1,h1,h2,rfl⟩:=zmR hr
  obtain ⟨rfl,hb⟩:=z5 h1
  obtain ⟨rfl,rfl⟩:=run_pure h2
  have hle:off+i.size<=vs.length:=by rw[←hvs];exact of_decide_eq_true hb
  refine ⟨rfl,fun _=>hle,fun e=>(by rw[hag] at e;cases e),rfl,fun hh=>?_⟩
  rw[if_pos hag]
  have get:∀ (j:Nat) (q:PV),((p.cells.drop off).take i.size)[j]? = some q->j<i.size/\p.cells[off+j]? = some q:=by
   intro j q hq
   rw[List.getElem?_take] at hq
   split at hq
   ·rename_i hj;rw[List.getElem?_drop] at hq;exact ⟨hj,hq⟩
   ·cases hq
  have getv:∀ (j:Nat) (u:Value),j<i.size->((vs.drop off).take i.size)[j]? = some u->vs[off+j]? = some u:=by
   intro j u hj hu
   rw[List.getElem?_take,if_pos hj,List.getElem?_drop] at hu
   exact hu
  refine PRep.agg ?_ ?_ ?_
  ·simp;omega
  ·intro q hq
   obtain ⟨j,hj,rfl⟩:=List.getElem_of_mem hq
   obtain ⟨h3,h4⟩:=get j _ (List.getElem?_eq_getElem hj)
   have hlt:off+j<vs.length:=by omega
   exact (hc (off+j) _ vs[off+j] h4 (List.getElem?_eq_getElem hlt)).1
  ·intro j q u hq hu
   obtain ⟨h3,h4⟩:=get j q hq
   exact (hc (off+j) q u h4 (getv j u h3 (by simpa using hu))).2
 ·rename_i hag
  obtain ⟨u1,q,v1,h1,h2,rfl⟩:=zmR hr
  obtain ⟨rfl,hq⟩:=zE h1
  obtain ⟨rfl,rfl⟩:=run_pure h2
  have hlt:off<vs.length:=by rw[←hvs];exact (List.getElem?_eq_some_iff.1 hq).1
  refine ⟨rfl,fun e=>absurd e hag,fun _=>hlt,rfl,fun hh=>?_⟩
  rw[if_neg hag,List.getElem?_eq_getElem hlt,Option.getD_some]
  exact (hc off q vs[off] hq (List.getElem?_eq_getElem hlt)).2
end
section
variable {P:Program} {E:Env} {G G':Gh} {w w':World} {X:Hd->Prop} {s s':RS} {a a':Act}
theorem zci {α:Type} (l:List α) (p n off k:Nat) (h:off+k<=n):(((l.drop p).take n).drop off).take k=(l.drop (p+off)).take k:=by
 rw[List.drop_take,List.take_take,List.drop_drop,Nat.min_eq_left (by omega)]
theorem Kh {α:Type} (l:List α) (p n off:Nat) (h:off<n):((l.drop p).take n)[off]? = l[p+off]?:=by
 rw[List.getElem?_take,if_pos h,List.getElem?_drop]
def xm (i:TI) (c:List Value) (off:Nat):Value:=if i.agg then .agg ((c.drop off).take i.size).toArray else (c[off]?).getD undef
theorem Yc {t:Nat} {i:TI} (hT:TyOk P t i) {b off:Nat} {c:Array Value} {T:TypeId} {fr:Nat×Nat} (hb:w.heap[b]? = some (.cells c T fr)) (h1:i.agg=true->off+i.size<=c.size) (h2:i.agg=false->off<c.size) :
  (Instr.loadAt t (.pointer (some ⟨b,off,none⟩))).run P w=.ok (xm i c.toList off) w:=by
 obtain ⟨d,hu,hd⟩:=hT.un
 obtain ⟨k,z,hi,hs,_⟩:=hT.info
 cases hag:i.agg with
 |true=>
  have hrow:d.isRow=true:=by rw[hag] at hd;clear hu;revert hd;cases d<;>simp[Y2,TypeDesc.isRow]
  have hle:=h1 hag
  have:=run_loadAt_mid (P:=P) w b off t ((c.toList.drop off).take i.size) d (fun j v hv=>by
   rw[List.getElem?_take] at hv
   split at hv
   ·rw[List.getElem?_drop] at hv
    simpa[World.cell?,hb] using hv
   ·cases hv) hu hrow (by simp[hi,hs];omega)
  rw[this]
  simp[xm,hag]
 |false=>
  have hlt:=h2 hag
  have hagg:(isAgg t).run P w=.ok false w:=by
   unfold isAgg
   rw[Sem.run_bind,run_underlying hu w]
   rw[hag] at hd
   clear hu
   revert hd
   cases d<;>simp[Y2]
  have hc:w.cell? ⟨b,off,none⟩=some c[off]:=by simp[World.cell?,hb,hlt]
  simp[Instr.loadAt,Instr.sureAddr,loadVar,hagg,hc,xm,hag,hlt]
theorem zhi {x:PV} {p:Nat} {v:Value} (hE:ERel G x p v) (wo:WOk P E G w) {t:Nat} {i:TI} (hT:TyOk P t i) {r:AV} {ws:List W} {s1:RS} (hr:(ZS x p i.size i.agg).run s1=some (ws,r)) :
  ws=[]/\shd r=true/\∃ y,(Instr.loadAt t v).run P w=.ok y w/\∀ hh,VRel P E G w hh r y:=by
 obtain ⟨b,c,q,h1,rfl,h3,h4⟩:=hE
 obtain ⟨_,T,fr,hb⟩:=wo.imm b c h1
 obtain ⟨g1,g2,g3,g4,g5⟩:=J5 (P:=P) (E:=E) (G:=G) (w:=w) hT hr (vs:=(c.toList.drop q).take x.cells.length) (by simp;omega) (fun j u y hu hy=>by
  have hj:j<x.cells.length:=(List.getElem?_eq_some_iff.1 hu).1
  rw[Kh _ _ _ _ hj] at hy
  exact h4 j u y hu (by simpa using hy))
 have hl:((c.toList.drop q).take x.cells.length).length=x.cells.length:=by simp;omega
 refine ⟨g1,g4,xm i c.toList (q+p),Yc hT hb (fun e=>by have:=g2 e;rw[hl] at this;omega) (fun e=>by have:=g3 e;rw[hl] at this;omega),fun hh=>?_⟩
 have:=g5 hh
 cases hag:i.agg with
 |true=>
  rw[hag] at this
  simp only[if_true] at this
  have hle:=g2 hag
  rw[hl] at hle
  rw[zci _ _ _ _ _ hle] at this
  simpa[xm,hag] using this
 |false=>
  rw[hag] at this
  simp only[Bool.false_eq_true,if_false] at this
  have hlt:=g3 hag
  rw[hl] at hlt
  rw[Kh _ _ _ _ hlt] at this
  simpa[xm,hag] using this
theorem qy {a:Act} {w:World} {l:Nat}:∀ (n o:Nat) {G:Gh} {s:RS} {ws:List W} {u:Unit},Rel P E G s a w->(W7 l o n).run s=some (ws,u)->∃ G',Fr G w G' w X1/\G'.ph=G.ph/\Rel P E G' (s.puts ws) a w
 |0,o,G,s,ws,u,h,hr=>by
  obtain ⟨rfl,_⟩:=run_pure hr
  exact ⟨G,Fr.refl.weaken (fun _ h=>h.elim) X1_old,rfl,h⟩
 |n+1,o,G,s,ws,u,h,hr=>by
  simp only[W7] at hr
  obtain ⟨u1,c,v1,h1,h2,rfl⟩:=zmR hr
  obtain ⟨rfl,rfl⟩:=vD h1
  simp only[RS.puts,zm7] at h2 ⊢
  obtain ⟨u2,cs,v2,h3,h4,rfl⟩:=zmR h2
  obtain ⟨rfl,hl⟩:=zE h3
  simp only[RS.puts,zm7] at h4 ⊢
  obtain ⟨u3,q,v3,h5,h6,rfl⟩:=zmR h4
  have key:∃ G',Fr G w G' w X1/\G'.ph=G.ph/\Rel P E G' (s.puts u3) a w:=by
   unfold zb7 at h5
   split at h5
   ·rename_i e sz xs ho
    have hw:=yO h5
    subst hw
    exact zk2 h hl ho
   ·obtain ⟨rfl,_⟩:=run_pure h5
    exact ⟨G,Fr.refl.weaken (fun _ h=>h.elim) X1_old,rfl,h⟩
  obtain ⟨G1,f1,p1,r1⟩:=key
  obtain ⟨G2,f2,p2,r2⟩:=qy n (o+1) r1 h6
  exact ⟨G2,f1.trans f2,p2.trans p1,by rw[RS.puts_append];exact r2⟩
variable {cf:Nat->List AV->za->Option (Out×za)}
theorem YJ {o:Oper} {t:Nat} {x:Operand} {y:Value} (ho:o.op=.load t x) (h:(Instr.loadAt t (a.eval x)).run P w=.ok y w):(execOp a.eval o).run P w=.ok (.value y) w:=by
 simp only[execOp,ho,Sem.run_bind,h,Result.andThen_ok,Sem.run_pure]
theorem zkC {v:Var} (h:Rel P E G s a w) {sz j off:Nat} {x:Value} (hx:RefOk G s a w (.elem v sz j off) x) {A:AV} (hA:(varOf v).run s=some ([],A)) {xs:List PV} {p:PV} (hs:(∃ e,A=.slu e sz xs)∨A=.pv (.sl sz xs)) (hp:xs[j]? = some p) :
  ∃ b c q T fr,x=.pointer (some ⟨b,q+off,none⟩)/\w.heap[b]? = some (.cells c T fr)/\q+p.cells.length<=c.size/\∀ (i:Nat) (z:PV) (y:Value),p.cells[i]? = some z->c[q+i]? = some y->z.isCell=true/\PRep G.g z y:=by
 obtain ⟨_,hm,hv⟩:=vV h hA
 obtain ⟨b,n,cap,hc,rfl⟩:=hx hm
 have hval:=hv _ hc
 have hj:j<xs.length:=(List.getElem?_eq_some_iff.1 hp).1
 rcases hs with ⟨e,rfl⟩|rfl
 ·have hU:∃ k,URel G w k e sz xs (.slice (some ⟨b,0,none⟩) n cap):=⟨_,hval⟩
  obtain ⟨k,h0,us,⟨hl,h1⟩,h2,_⟩:=hU
  rcases h1 with ⟨he,_⟩|⟨g,cap',cur,he,_,hg,hnc,_,hcs,htk⟩
  ·cases he
  ·have e1:b=g:=by injection he with e1 _ _;injection e1 with e1;injection e1
   subst e1
   have hpl:p.cells.length=sz:=h2.1 p (List.mem_of_getElem? hp)
   have hmul:j*sz+sz<=xs.length*sz:=by
    calc j*sz+sz=(j+1)*sz:=by rw[Nat.add_mul,Nat.one_mul]
     _<=xs.length*sz:=Nat.mul_le_mul_right _ hj
   have hcur:xs.length*sz<=cur.size:=by rw[hcs];exact Nat.mul_le_mul_right _ hnc
   refine ⟨b,cur,j*sz,_,_,rfl,hg,by omega,fun i z y hz hy=>?_⟩
   have hi:i<sz:=by rw[←hpl];exact (List.getElem?_eq_some_iff.1 hz).1
   refine h2.2 j p i z y hp hz ?_
   rw[←htk,List.getElem?_take,if_pos (by omega)]
   simpa using hy
 ·have hP:PRep G.g (.sl sz xs) (.slice (some ⟨b,0,none⟩) n cap):=hval
  generalize hyy:Value.slice (some ⟨b,0,none⟩) n cap=yy at hP
  cases hP with
  |sl0=>simp at hp
  |sl g1 g2 g3 g4 g5 g6=>
   rename_i b' o' cap' c'
   have e1:b=b':=by injection hyy with e1 _ _;injection e1 with e1;injection e1
   have e2:0=o':=by injection hyy with e1 _ _;injection e1 with e1;injection e1
   subst e1
   subst e2
   obtain ⟨_,T,fr,hb⟩:=h.wo.imm b c' g1
   have hpl:p.cells.length=sz:=g4 p (List.mem_of_getElem? hp)
   have hmul:j*sz+sz<=xs.length*sz:=by
    calc j*sz+sz=(j+1)*sz:=by rw[Nat.add_mul,Nat.one_mul]
     _<=xs.length*sz:=Nat.mul_le_mul_right _ hj
   exact ⟨b,c',j*sz,T,fr,rfl,hb,by omega,fun i z y hz hy=>⟨g5 j p i z y hp hz (by simpa using hy),g6 j p i z y hp hz (by simpa using hy)⟩⟩
theorem zk9 {α:Type} {l m:List α} {o j:Nat} (h:o+m.length<=l.length):(yP l o m)[j]? = if o<=j/\j<o+m.length then m[j-o]? else l[j]?:=by
 unfold yP
 by_cases h1:j<o
 ·rw[if_neg (by omega),List.append_assoc,List.getElem?_append_left (by simp;omega),List.getElem?_take,if_pos h1]
 ·by_cases h2:j<o+m.length
  ·rw[if_pos ⟨by omega,h2⟩,List.append_assoc,List.getElem?_append_right (by simp;omega),List.getElem?_append_left (by simp;omega)]
   congr 1;simp;omega
  ·rw[if_neg (by omega),List.getElem?_append_right (by simp;omega),List.getElem?_drop]
   congr 1;simp;omega
theorem zaK (h:Rel P E G s a w) {l off n b:Nat} {cs:List AV} (hb:G.ph l=some b) (hl:s.H[l]? = some cs) (hle:off+n<=cs.length) :
  ∃ G' T c,Fr G w G' w X1/\G'.ph=G.ph/\Rel P E G' (s.puts [.b l (yP cs off (List.replicate n .dead))]) a w/\w.heap[b]? = some (.cells c T (0,0))/\c.size=cs.length/\
   ∀ (j:Nat) (q:AV) (y:Value),((cs.drop off).take n)[j]? = some q->c[off+j]? = some y->BRel G' w (.hand j) q y:=by
 obtain ⟨hkb,T,c,hb2,hsz,hcell⟩:=h.bx l cs hl b hb
 let fk:Option Hd->Option Hd:=fun k=>match k with
  |some (.c l' o')=>if l' = l /\ off<=o'/\o'<off+n then some (.hand (o'-off)) else some (.c l' o')
  |k=>k
 let G':Gh:=⟨G.g,G.ph,fun b=>fk (G.ka b)⟩
 have hka:∀ b k,G.ka b=some k->(∀ o',off<=o'->o'<off+n->k≠.c l o')->G'.ka b=some k:=by
  intro b k hbk hk
  show fk (G.ka b)=some k
  rw[hbk]
  cases k with
  |c l' o' => simp only[fk];rw[if_neg (fun e=>hk o' e.2.1 e.2.2 (by rw[e.1]))]
  |_=>rfl
 have hkb':∀ b o',off<=o'->o'<off+n->G.ka b=some (.c l o')->G'.ka b=some (.hand (o'-off)):=by
  intro b o' h1 h2 hbk
  show fk (G.ka b)=_
  rw[hbk];simp[fk,h1,h2]
 have f:Fr G w G' w (fun k=>∃ o',off<=o'/\o'<off+n/\k=.c l o'):=⟨fun _ _ h=>h,fun _ _ h=>h,fun b k hb hk=>⟨hka b k hb (fun o' q1 q2 hj=>hk ⟨o',q1,q2,hj⟩),rfl⟩,⟨fun ⟨_,_,_,hj⟩=>(by cases hj),fun ⟨_,_,_,hj⟩=>(by cases hj)⟩,rfl,rfl,rfl,Nat.le_refl _⟩
 have wo:WOk P E G' w:=h.wo.fr f (fun b c hc=>by
   obtain ⟨k1,k2⟩:=h.wo.imm b c hc
   exact ⟨hka b _ k1 (fun o' _ _ hj=>by cases hj),k2⟩) (fun b k hb=>by
   cases hg:G.ka b with
   |none=>
    have:G'.ka b=none:=by show fk (G.ka b)=none;rw[hg]
    rw[this] at hb;cases hb
   |some q=>exact h.wo.dom b q hg)
 have hlr:(List.replicate n AV.dead).length=n:=by simp
 have hls:(yP cs off (List.replicate n AV.dead)).length=cs.length:=by unfold yP;simp;omega
 refine ⟨G',T,c,f.weaken (fun k hk=>by obtain ⟨o',_,_,rfl⟩:=hk;exact ⟨by simp,by simp,id⟩) X1_old,rfl,?_,hb2,hsz,fun j q y hq hy=>?_⟩
 ·have hlt:l<s.H.length:=(List.getElem?_eq_some_iff.1 hl).1
  refine h.boxw f wo (fun _ _ h=>h) l (fun k hk=>by obtain ⟨o',_,_,rfl⟩:=hk;exact .inr (.inl ⟨o',rfl⟩)) rfl (fun l' hl' => ⟨by simp only[RS.puts,RS.put];rw[List.getElem?_set_ne (Ne.symm hl')],by simp[RS.puts,RS.put,hl']⟩) (fun cs' b' hcs' hb' => ?_) (.inl (by simp[RS.puts,RS.put])) (by simp[RS.puts,RS.put])
  have hb'':G.ph l=some b':=hb'
  rw[hb] at hb'';cases hb''
  simp only[RS.puts,RS.put,List.getElem?_set_self hlt,zm9] at hcs'
  subst hcs'
  refine ⟨hka b _ hkb (fun o' _ _ hj=>by cases hj),T,c,hb2,hsz.trans hls.symm,fun o' q y hq hy=>?_⟩
  rw[zk9 (by rw[hlr];exact hle),hlr] at hq
  split at hq
  ·rename_i hr'
   rw[List.getElem?_replicate,if_pos (by omega)] at hq
   cases hq
   have:o'<cs.length:=by omega
   exact BRel.one (hcell o' cs[o'] y (by simp[this]) hy)
  ·rename_i hr'
   exact (hcell o' q y hq hy).fr f (fun ⟨o2,q1,q2,hj⟩=>by cases hj;exact hr' ⟨q1,q2⟩)
 ·rw[List.getElem?_take] at hq
  split at hq
  ·rename_i hj
   rw[List.getElem?_drop] at hq
   refine (hcell (off+j) q y hq hy).move f (fun b' hb' => ⟨?_,rfl⟩)
   have:=hkb' b' (off+j) (by omega) (by omega) hb'
   rwa [Nat.add_sub_cancel_left] at this
  ·cases hq
theorem zaL {i:TI} {c:Array Value} {off:Nat} {cs:List AV} (hag:i.agg=true) (hsz:c.size=cs.length) (hle:off+i.size<=cs.length) {G':Gh} (hB:∀ (j:Nat) (q:AV) (y:Value),((cs.drop off).take i.size)[j]? = some q->c[off+j]? = some y->BRel G' w (.hand j) q y) :
  VRel P E G' w (fun j=>.hand j) (.agg ((cs.drop off).take i.size)) (xm i c.toList off):=by
 rw[xm,if_pos hag]
 refine ⟨_,rfl,by simp;omega,fun j q y hq hy=>hB j q y hq ?_⟩
 have hj:j<i.size:=by
  have:=(List.getElem?_eq_some_iff.1 hq).1
  simp at this;omega
 have:((c.toList.drop off).take i.size)[j]? = some y:=by simpa using hy
 rw[List.getElem?_take,if_pos hj,List.getElem?_drop] at this
 simpa using this
theorem ziG (hS:SysOk P E) (h:Rel P E G s a w) {pre:Option Nat} {o:Oper} {t:Nat} {i:TI} (hT:TyOk P t i) {x:Operand} (ho:o.op=.load t x) (hd:∀ d',o.dst=some d'->d'<a.tmps.size) {ws:List W} {pn:Pn} (hr:(loadT o.dst i x).run s=some (ws,pn)):OpOk P E G s a w pre o (s.puts ws) pn:=by
 unfold loadT at hr
 cases x with
 |const c=>exact (zr hr).elim
 |global c=>exact (zr hr).elim
 |func c=>exact (zr hr).elim
 |tmp q=>
  simp only at hr
  obtain ⟨u1,g,v1,h1,h2,rfl⟩:=zmR hr
  obtain ⟨rfl,rfl⟩:=yS h1
  simp only[RS.puts,zm7] at h2 ⊢
  split at h2
  ·rename_i l off hgr hga
   have hv:=h.sl q
   rw[hga] at hv
   obtain ⟨b,hb,hx⟩:∃ b,G.ph l=some b/\a.eval (.tmp q)=.pointer (some ⟨b,off,none⟩):=hv
   obtain ⟨u2,c,v2,h3,h4,rfl⟩:=zmR h2
   obtain ⟨rfl,rfl⟩:=vD h3
   simp only[RS.puts,zm7] at h4 ⊢
   obtain ⟨u5,cs,v5,h9,h10,rfl⟩:=zmR h4
   obtain ⟨rfl,hl⟩:=zE h9
   simp only[RS.puts,zm7] at h10 ⊢
   obtain ⟨u6,_,v6,h11,h12,rfl⟩:=zmR h10
   obtain ⟨rfl,hn⟩:=z5 h11
   simp only[RS.puts,zm7] at h12 ⊢
   simp only[zm8,decide_eq_true_eq,Bool.not_eq_true',List.any_eq_false] at hn
   obtain ⟨⟨hag,hle⟩,hdead⟩:=hn
   obtain ⟨u7,_,v7,h13,h14,rfl⟩:=zmR h12
   have hw:=yO h13
   subst hw
   rw[RS.puts_append]
   obtain ⟨G',T,c,f,hph,r1,hb2,hsz,hB⟩:=zaK h hb hl hle
   have hrunL:=Yc (w:=w) hT hb2 (off:=off) (fun _=>by omega) (fun e=>by rw[hag] at e;cases e)
   rw[←hx] at hrunL
   exact xO h (f.weaken xn X0_old) (xV hph) r1 hd h14 (x:=xm i c.toList off) (zaL hag hsz hle hB) (YJ ho hrunL) pre
  ·exact (zr h2).elim
theorem zeT (hS:SysOk P E) (h:Rel P E G s a w) {pre:Option Nat} {o:Oper} {t:Nat} {x:Operand} (ho:o.op=.load t x) (hd:∀ d',o.dst=some d'->d'<a.tmps.size) {ws:List W} {pn:Pn} (hr:(act E cf pre o).run s=some (ws,pn)):OpOk P E G s a w pre o (s.puts ws) pn:=by
 simp only[act,ho] at hr
 obtain ⟨u1,i,v1,h1,h2,rfl⟩:=zmR hr
 obtain ⟨rfl,hi⟩:=yX h1
 have hT:=hS.ty t i hi
 simp only[RS.puts,zm7] at h2 ⊢
 split at h2
 ·exact ziG hS h hT ho hd h2
 simp only[zaP] at h2
 obtain ⟨u2,g,v2,h3,h4,rfl⟩:=zmR h2
 have pl:u2=[]/\(∀ q,g.r=some q->RefOk G s a w q (a.eval x))/\(g.r=none->∃ hh,VRel P E G w hh g.a (a.eval x)):=by
  cases x with
  |tmp q=>
   obtain ⟨rfl,rfl⟩:=yS h3
   exact ⟨rfl,fun r hr=>h.rf q r hr,fun _=>⟨_,h.sl q⟩⟩
  |const c=>
   obtain ⟨u3,b,v3,h5,h6,rfl⟩:=zmR h3
   obtain ⟨rfl,hv,_⟩:=w7 (a:=a) hS h.wo h5 (fun j=>.hand j)
   obtain ⟨rfl,rfl⟩:=run_pure h6
   exact ⟨rfl,fun r hr=>(by cases hr),fun _=>⟨_,hv⟩⟩
  |global c=>
   obtain ⟨u3,b,v3,h5,h6,rfl⟩:=zmR h3
   obtain ⟨rfl,hv,_⟩:=w7 (a:=a) hS h.wo h5 (fun j=>.hand j)
   obtain ⟨rfl,rfl⟩:=run_pure h6
   exact ⟨rfl,fun r hr=>(by cases hr),fun _=>⟨_,hv⟩⟩
  |func c=>
   obtain ⟨u3,b,v3,h5,h6,rfl⟩:=zmR h3
   obtain ⟨rfl,hv,_⟩:=w7 (a:=a) hS h.wo h5 (fun j=>.hand j)
   obtain ⟨rfl,rfl⟩:=run_pure h6
   exact ⟨rfl,fun r hr=>(by cases hr),fun _=>⟨_,hv⟩⟩
 obtain ⟨rfl,href,hval⟩:=pl
 simp only[RS.puts,zm7] at h4 ⊢
 have rowcase:∀ {v:Var} {sz j off:Nat} {A:AV} {xs:List PV},g.r=some (.elem v sz j off)->(varOf v).run s=some ([],A)->((∃ e,A=.slu e sz xs)∨A=.pv (.sl sz xs))->∀ {v3:List W},
   (do let p ←zv (xs[j]?);let r ←ZS p off i.size i.agg;done o.dst r:RM Pn).run s=some (v3,pn)->OpOk P E G s a w pre o (s.puts v3) pn:=by
  intro v sz j off A xs hg hA hs v3 hrun
  obtain ⟨u4,p,v4,h7,h8,rfl⟩:=zmR hrun
  obtain ⟨rfl,hp⟩:=zE h7
  simp only[RS.puts,zm7] at h8 ⊢
  obtain ⟨u5,r,v5,h9,h10,rfl⟩:=zmR h8
  obtain ⟨b,c,q,T,fr,hx,hb,hle,hcell⟩:=zkC h (href _ hg) hA hs hp
  obtain ⟨g1,g2,g3,g4,g5⟩:=J5 (P:=P) (E:=E) (G:=G) (w:=w) hT h9 (vs:=(c.toList.drop q).take p.cells.length) (by simp;omega) (fun j u y hu hy=>by
   have hj:j<p.cells.length:=(List.getElem?_eq_some_iff.1 hu).1
   rw[Kh _ _ _ _ hj] at hy
   exact hcell j u y hu (by simpa using hy))
  subst g1
  simp only[RS.puts,zm7] at h10 ⊢
  have hl:((c.toList.drop q).take p.cells.length).length=p.cells.length:=by simp;omega
  have hrunL:=Yc (w:=w) hT hb (off:=q+off) (fun e=>by have:=g2 e;rw[hl] at this;omega) (fun e=>by have:=g3 e;rw[hl] at this;omega)
  rw[←hx] at hrunL
  refine ym h hd h10 ?_ (YJ ho hrunL) pre
  have:=g5 (fun j=>.hand j)
  cases hag:i.agg with
  |true=>
   rw[hag] at this
   simp only[if_true] at this
   have hle:=g2 hag
   rw[hl] at hle
   rw[zci _ _ _ _ _ hle] at this
   simpa[xm,hag] using this
  |false=>
   rw[hag] at this
   simp only[Bool.false_eq_true,if_false] at this
   have hlt:=g3 hag
   rw[hl] at hlt
   rw[Kh _ _ _ _ hlt] at this
   simpa[xm,hag] using this
 split at h4
 ·rename_i v sz j off hg
  obtain ⟨u3,A,v3,h5,h6,rfl⟩:=zmR h4
  have hA:u3=[]:=(vV h h5).1
  subst hA
  simp only[RS.puts,zm7] at h6 ⊢
  split at h6
  ·obtain ⟨u4,_,v4,h7,h8,rfl⟩:=zmR h6
   obtain ⟨rfl,hn⟩:=z5 h7
   have:=of_decide_eq_true hn
   subst this
   simp only[RS.puts,zm7] at h8 ⊢
   exact rowcase hg h5 (.inl ⟨_,rfl⟩) h8
  ·obtain ⟨u4,_,v4,h7,h8,rfl⟩:=zmR h6
   obtain ⟨rfl,hn⟩:=z5 h7
   have:=of_decide_eq_true hn
   subst this
   simp only[RS.puts,zm7] at h8 ⊢
   exact rowcase hg h5 (.inr rfl) h8
  ·exact (zr h6).elim
 ·exact (zr h4).elim
 ·rename_i hg
  obtain ⟨hh,hv⟩:=hval hg
  split at h4
  ·rename_i l off ha
   rw[ha] at hv
   obtain ⟨b,hb,hx⟩:∃ b,G.ph l=some b/\a.eval x=.pointer (some ⟨b,off,none⟩):=hv
   split at h4
   ·rename_i hag
    obtain ⟨u3,_,v3,h5,h6,rfl⟩:=zmR h4
    obtain ⟨G1,f1,p1,r1⟩:=qy _ _ h h5
    rw[RS.puts_append]
    obtain ⟨u4,c,v4,h7,h8,rfl⟩:=zmR h6
    obtain ⟨rfl,rfl⟩:=vD h7
    simp only[RS.puts,zm7] at h8 ⊢
    obtain ⟨u5,cs,v5,h9,h10,rfl⟩:=zmR h8
    obtain ⟨rfl,hl⟩:=zE h9
    simp only[RS.puts,zm7] at h10 ⊢
    obtain ⟨u6,_,v6,h11,h12,rfl⟩:=zmR h10
    obtain ⟨rfl,hn⟩:=z5 h11
    simp only[RS.puts,zm7] at h12 ⊢
    simp only[zm8,decide_eq_true_eq,Bool.not_eq_true',List.any_eq_false] at hn
    obtain ⟨⟨hle,hdead⟩,hslu⟩:=hn
    obtain ⟨_,T,c,hb2,hsz,hcell⟩:=r1.bx l cs hl b (p1▸hb)
    have hrunL:=Yc (w:=w) hT hb2 (off:=off) (fun _=>by omega) (fun e=>by rw[hag] at e;cases e)
    rw[←hx] at hrunL
    refine xO h (f1.weaken xn X0_old) (xV p1) r1 hd h12 (x:=xm i c.toList off) ?_ (YJ ho hrunL) pre
    rw[xm,if_pos hag]
    refine gK (by simp;omega) (fun j q y hq hy=>?_)
    have hq':=hq
    rw[List.getElem?_take] at hq
    split at hq
    ·rename_i hj
     rw[List.getElem?_drop] at hq
     have hy':c[off+j]? = some y:=by
      have:((c.toList.drop off).take i.size)[j]? = some y:=by simpa using hy
      rw[List.getElem?_take,if_pos hj,List.getElem?_drop] at this
      simpa using this
     exact (hcell (off+j) q y hq hy').any (by simpa using hslu q (List.mem_of_getElem? hq'))
    ·cases hq
   ·rename_i hag
    have hag':i.agg=false:=by simpa using hag
    obtain ⟨u4,c,v4,h7,h8,rfl⟩:=zmR h4
    obtain ⟨rfl,rfl⟩:=vD h7
    simp only[RS.puts,zm7] at h8 ⊢
    obtain ⟨u5,cs,v5,h9,h10,rfl⟩:=zmR h8
    obtain ⟨rfl,hl⟩:=zE h9
    simp only[RS.puts,zm7] at h10 ⊢
    obtain ⟨hkb,T,c,hb2,hsz,hcell⟩:=h.bx l cs hl b hb
    have lt:∀ {q},cs[off]? = some q->off<c.size:=fun hq=>by rw[hsz];exact (List.getElem?_eq_some_iff.1 hq).1
    have run:∀ {q},cs[off]? = some q->(Instr.loadAt t (a.eval x)).run P w=.ok (xm i c.toList off) w:=fun hq=>by
     have:=Yc (w:=w) hT hb2 (off:=off) (fun e=>by rw[hag'] at e;cases e) (fun _=>lt hq)
     rwa [←hx] at this
    have val:∀ {q},(hq:cs[off]? = some q)->xm i c.toList off=c[off]'(lt hq):=fun hq=>by
     have:=lt hq
     simp[xm,hag',this]
    split at h10
    ·rename_i hq
     split at h10
     ·exact (zr h10).elim
     ·rename_i hm
      refine WF h hd h10 (x:=xm i c.toList off) (fun _=>⟨b,hb,hkb,?_⟩) (YJ ho (run hq)) pre
      rw[val hq]
      have:=lt hq
      simp[World.cell?,hb2,this]
    ·exact (zr h10).elim
    ·rename_i q h1 h2 hq
     refine ym h hd h10 (x:=xm i c.toList off) ?_ (YJ ho (run hq)) pre
     rw[val hq]
     have hB:=hcell off q (c[off]'(lt hq)) hq (by simp[lt hq])
     have hs:xr q=false:=by cases q<;>simp_all [xr]
     exact ((hB.any (h':=.hand 0) hs).v rfl)
    ·exact (zr h10).elim
  ·rename_i p off ha
   rw[ha] at hv
   obtain ⟨u3,r,v3,h5,h6,rfl⟩:=zmR h4
   obtain ⟨rfl,_,y,hrun,hv'⟩:=zhi hv h.wo hT h5
   simp only[RS.puts,zm7] at h6 ⊢
   exact ym h hd h6 (hv' _) (YJ ho hrun) pre
  ·rename_i gl ha
   rw[ha] at hv
   obtain ⟨hx,hsome⟩:a.eval x=.pointer (some ⟨gl,0,none⟩)/\(find E.maps gl).isSome=true:=hv
   obtain ⟨l,hl⟩:=Option.isSome_iff_exists.1 hsome
   obtain ⟨v,c,hgv,h0,hm⟩:=h.wo.maps gl l hl
   obtain ⟨_,T,fr,hb⟩:=h.wo.imm gl _ hgv
   split at h4
   ·exact (zr h4).elim
   ·rename_i hag
    have hag':i.agg=false:=by simpa using hag
    have hrun:=Yc (w:=w) hT hb (off:=0) (fun e=>by rw[hag'] at e;cases e) (fun _=>by have:=(Array.getElem?_eq_some_iff.1 h0).1;omega)
    rw[←hx] at hrun
    refine ym h hd h4 (x:=xm i _ 0) ?_ (YJ ho hrun) pre
    simp only[xm,hag',Bool.false_eq_true,if_false]
    have h0':c.toList[0]? = some v:=by simpa using h0
    rw[h0']
    exact hm
  ·exact (zr h4).elim
end
section
variable {P:Program} {E:Env} {G G':Gh} {w w':World} {X:Hd->Prop} {s s':RS} {a a':Act}
variable {cf:Nat->List AV->za->Option (Out×za)}
theorem zeZ (hS:SysOk P E) (h:Rel P E G s a w) {pre:Option Nat} {o:Oper} {x:Operand} (ho:o.op=.nilCheck x) (hd:∀ d',o.dst=some d'->d'<a.tmps.size) {ws:List W} {pn:Pn} (hr:(act E cf pre o).run s=some (ws,pn)):OpOk P E G s a w pre o (s.puts ws) pn:=by
 simp only[act,ho] at hr
 cases x with
 |const c=>exact (zr hr).elim
 |global c=>exact (zr hr).elim
 |func c=>exact (zr hr).elim
 |tmp t=>
  simp only at hr
  obtain ⟨u1,c,v1,h1,h2,rfl⟩:=zmR hr
  obtain ⟨rfl,rfl⟩:=yS h1
  simp only[RS.puts,zm7] at h2 ⊢
  have hv:=h.sl t
  split at h2
  ·rename_i l off hn ha
   rw[ha] at hv
   obtain ⟨b,hb,hx⟩:∃ b,G.ph l=some b/\a.eval (.tmp t)=.pointer (some ⟨b,off,none⟩):=hv
   exact ym h hd h2 (x:=.pointer (some ⟨b,off,none⟩)) ⟨b,hb,rfl⟩ (by simp[execOp,ho,hx]) pre
  ·rename_i p off hn ha
   rw[ha] at hv
   obtain ⟨b,c,q,k1,hx,k3,k4⟩:ERel G p off (a.eval (.tmp t)):=hv
   exact ym h hd h2 (x:=.pointer (some ⟨b,q+off,none⟩)) ⟨b,c,q,k1,rfl,k3,k4⟩ (by simp[execOp,ho,hx]) pre
  ·exact (zr h2).elim
theorem jW (hS:SysOk P E) {t:Nat} {i:TI} (hi:find E.ti t=some i) {f:Nat} {ws:List W} {q:Nat×TI} (hr:(Qk E i f).run s=some (ws,q)) :
  ws=[]/\∃ (fs:Array Field) (fd:Field),P.underlying t=some (.struct fs)/\fs[f]? = some fd/\fd.offset=q.1/\TyOk P fd.type q.2:=by
 unfold Qk at hr
 obtain ⟨u1,z,v1,h1,h2,rfl⟩:=zmR hr
 obtain ⟨rfl,hz⟩:=zE h1
 obtain ⟨u2,k,v2,h3,h4,rfl⟩:=zmR h2
 obtain ⟨rfl,hk⟩:=yX h3
 obtain ⟨rfl,rfl⟩:=run_pure h4
 obtain ⟨fs,fd,k1,k2,k3,k4⟩:=(hS.ty t i hi).fields f z hz
 exact ⟨rfl,fs,fd,k1,k2,k3,k4▸hS.ty _ k hk⟩
theorem qu {t:Nat} {i:TI} (hT:TyOk P t i) (w:World):(sizeOf t).run P w=.ok i.size w:=by
 obtain ⟨k,z,h1,h2,_⟩:=hT.info
 simp[sizeOf,typeInfo,h1,h2]
theorem zkO {t f:Nat} {fs:Array Field} {fd:Field} {k:TI} (hu:P.underlying t=some (.struct fs)) (hf:fs[f]? = some fd) (hT:TyOk P fd.type k) (h0:0<k.size) (w:World) (b off:Nat) :
  (Instr.fieldAt t (.pointer (some ⟨b,off,none⟩)) f).run P w=.ok (.pointer (some ⟨b,off+fd.offset,none⟩)) w:=by
 have hne:¬(k.size=0):=by omega
 simp[Instr.fieldAt,run_underlying hu,hf,Instr.sureAddr,fieldPlace,qu hT,hne,Addr.add_lit]
theorem zeQ (hS:SysOk P E) (h:Rel P E G s a w) {pre:Option Nat} {o:Oper} {t f:Nat} {x:Operand} (ho:o.op=.fieldAddr t x f) (hd:∀ d',o.dst=some d'->d'<a.tmps.size) {ws:List W} {pn:Pn} (hr:(act E cf pre o).run s=some (ws,pn)):OpOk P E G s a w pre o (s.puts ws) pn:=by
 simp only[act,ho] at hr
 obtain ⟨u1,i,v1,h1,h2,rfl⟩:=zmR hr
 obtain ⟨rfl,hi⟩:=yX h1
 simp only[RS.puts,zm7] at h2 ⊢
 obtain ⟨u2,q,v2,h3,h4,rfl⟩:=zmR h2
 obtain ⟨rfl,fs,fd,hu,hf,hof,hT⟩:=jW hS hi h3
 simp only[RS.puts,zm7] at h4 ⊢
 obtain ⟨u3,_,v3,h5,h6,rfl⟩:=zmR h4
 obtain ⟨rfl,hn⟩:=z5 h5
 simp only[RS.puts,zm7] at h6 ⊢
 have h0:0<q.2.size:=of_decide_eq_true hn
 have run:∀ b off,a.eval x=.pointer (some ⟨b,off,none⟩)->(execOp a.eval o).run P w=.ok (.value (.pointer (some ⟨b,off+q.1,none⟩))) w:=by
  intro b off hx
  have:=zkO hu hf hT h0 w b off
  simp only[execOp,ho,hx,Sem.run_bind,this,Result.andThen_ok,Sem.run_pure,hof]
 cases x with
 |const c=>exact (zr h6).elim
 |global c=>exact (zr h6).elim
 |func c=>exact (zr h6).elim
 |tmp y=>
  simp only at h6
  obtain ⟨u4,c,v4,h7,h8,rfl⟩:=zmR h6
  obtain ⟨rfl,rfl⟩:=yS h7
  simp only[RS.puts,zm7] at h8 ⊢
  have hv:=h.sl y
  split at h8
  ·split at h8
   ·rename_i l p ha
    rw[ha] at hv
    obtain ⟨b,hb,hx⟩:∃ b,G.ph l=some b/\a.eval (.tmp y)=.pointer (some ⟨b,p,none⟩):=hv
    exact ym h hd h8 (x:=.pointer (some ⟨b,p+q.1,none⟩)) ⟨b,hb,rfl⟩ (run _ _ hx) pre
   ·rename_i z p ha
    rw[ha] at hv
    obtain ⟨b,c,r,k1,hx,k3,k4⟩:ERel G z p (a.eval (.tmp y)):=hv
    refine ym h hd h8 (x:=.pointer (some ⟨b,r+p+q.1,none⟩)) ⟨b,c,r,k1,by rw[Nat.add_assoc],k3,k4⟩ (run _ _ hx) pre
   ·exact (zr h8).elim
  ·rename_i v sz j p hq
   have hR:=h.rf y _ hq
   obtain ⟨u5,A,v5,h9,h10,rfl⟩:=zmR h8
   obtain ⟨rfl,hm,_⟩:=vV h h9
   simp only[RS.puts,zm7] at h10 ⊢
   obtain ⟨b,n,cap,hc,hx⟩:=hR hm
   exact WF h hd h10 (x:=.pointer (some ⟨b,j*sz+p+q.1,none⟩)) (fun hm' => ⟨b,n,cap,hc,by rw[Nat.add_assoc]⟩) (run _ _ hx) pre
  ·exact (zr h8).elim
theorem zeP (hS:SysOk P E) (h:Rel P E G s a w) {pre:Option Nat} {o:Oper} {t f:Nat} {x:Operand} (ho:o.op=.field t x f) (hd:∀ d',o.dst=some d'->d'<a.tmps.size) {ws:List W} {pn:Pn} (hr:(act E cf pre o).run s=some (ws,pn)):OpOk P E G s a w pre o (s.puts ws) pn:=by
 simp only[act,ho] at hr
 obtain ⟨u1,i,v1,h1,h2,rfl⟩:=zmR hr
 obtain ⟨rfl,hi⟩:=yX h1
 simp only[RS.puts,zm7] at h2 ⊢
 obtain ⟨u2,q,v2,h3,h4,rfl⟩:=zmR h2
 obtain ⟨rfl,fs,fd,hu,hf,hof,hT⟩:=jW hS hi h3
 simp only[RS.puts,zm7] at h4 ⊢
 obtain ⟨u3,v,v3,h5,h6,rfl⟩:=zmR h4
 obtain ⟨rfl,hh,hv⟩:=xG hS h h5
 simp only[RS.puts,zm7] at h6 ⊢
 obtain ⟨u0,cs,v0,h01,h06,rfl⟩:=zmR h6
 obtain ⟨rfl,hcs⟩:=zE h01
 have:=zjq hcs
 subst this
 simp only[RS.puts,zm7] at h06 ⊢
 have hv':PRep G.g (.agg cs) (a.eval x):=hv
 generalize hy:a.eval x=y at hv'
 cases hv' with
 |agg g1 g2 g3=>
  rename_i vs
  obtain ⟨u4,r,v4,h7,h8,rfl⟩:=zmR h06
  obtain ⟨k1,k2,k3,k4,k5⟩:=J5 (P:=P) (E:=E) (G:=G) (w:=w) hT h7 (vs:=vs.toList) (by simp[PV.cells,g1]) (fun j u y hu hy=>⟨g2 u (List.mem_of_getElem? hu),g3 j u y hu (by simpa using hy)⟩)
  subst k1
  simp only[RS.puts,zm7] at h8 ⊢
  obtain ⟨d,hud,hdd⟩:=hT.un
  have hagg:(isAgg fd.type).run P w=.ok q.2.agg w:=by
   unfold isAgg
   rw[Sem.run_bind,run_underlying hud w,hdd]
   clear hud hdd
   cases d<;>rfl
  refine ym h hd h8 (k5 _) ?_ pre
  cases hag:q.2.agg with
  |true=>
   have hle:=k2 hag
   simp only[Array.length_toList] at hle
   have hex:vs.extract q.1 (q.1+q.2.size)=((vs.toList.drop q.1).take q.2.size).toArray:=by
    apply Array.ext'
    simp[Array.toList_extract,List.extract_eq_take_drop]
   simp only[execOp,ho,hy,Sem.run_bind,Instr.field,run_underlying hu,Result.andThen_ok,hf,asAgg,Sem.run_pure,part,hof,hagg,hag,if_true,Sem.run_ite,qu hT,hex]
  |false=>
   have hlt:=k3 hag
   simp only[Array.length_toList] at hlt
   simp[execOp,ho,hy,Instr.field,run_underlying hu,hf,asAgg,part,hof,hagg,hag,hlt]
end
section
variable {P:Program} {E:Env} {G G':Gh} {w w':World} {X:Hd->Prop} {s s':RS} {a a':Act}
variable {cf:Nat->List AV->za->Option (Out×za)}
theorem zbT {t e sz:Nat} {ke:TypeInfo} (hu:P.underlying t=some (.slice e)) (he:P.info? e=some ke) (hs:ke.size=sz) (w:World) (b off len cap:Nat) (k:IntKind) (n:Int) (h0:0<=n) (h1:n<len) :
  (Instr.indexAt t (.slice (some ⟨b,off,none⟩) len cap) (.int k n)).run P w=.ok (.pointer (some ⟨b,off+n.toNat*sz,none⟩)) w:=by
 simp[Instr.indexAt,asIntOf,run_underlying hu,h0,h1,sizeOf,typeInfo,he,hs,Addr.add_lit]
theorem zbS {t e len sz:Nat} {ke:TypeInfo} (hu:P.underlying t=some (.array len e)) (he:P.info? e=some ke) (hs:ke.size=sz) (w:World) (b off:Nat) (k:IntKind) (n:Int) (h0:0<=n) (h1:n<len) :
  (Instr.indexAt t (.pointer (some ⟨b,off,none⟩)) (.int k n)).run P w=.ok (.pointer (some ⟨b,off+n.toNat*sz,none⟩)) w:=by
 simp[Instr.indexAt,asIntOf,run_underlying hu,h0,h1,sizeOf,typeInfo,he,hs,Instr.sureAddr,Addr.add_lit]
theorem zk7 {sz:Nat} {xs:List PV} {v:Value} (h:PRep G.g (.sl sz xs) v) {n:Int} (h0:0<=n) (h1:n<xs.length) {p:PV} (hp:xs[n.toNat]? = some p) :
  ∃ b off cap,v=.slice (some ⟨b,off,none⟩) xs.length cap/\ERel G p 0 (.pointer (some ⟨b,off+n.toNat*sz,none⟩)):=by
 cases h with
 |sl0=>simp at hp
 |sl g1 g2 g3 g4 g5 g6=>
  rename_i b o cap c
  have hpl:p.cells.length=sz:=g4 p (List.mem_of_getElem? hp)
  have hi:n.toNat<xs.length:=(List.getElem?_eq_some_iff.1 hp).1
  have hmul:n.toNat*sz+sz<=xs.length*sz:=by
   calc n.toNat*sz+sz=(n.toNat+1)*sz:=by rw[Nat.add_mul,Nat.one_mul]
    _<=xs.length*sz:=Nat.mul_le_mul_right _ hi
  exact ⟨b,o,cap,rfl,b,c,o+n.toNat*sz,g1,rfl,by omega,fun j q u hq hu=>⟨g5 n.toNat p j q u hp hq hu,g6 n.toNat p j q u hp hq hu⟩⟩
theorem zbk {n:Int}:∀ (i k:Nat) {s:RS} {ws:List W} {f:Nat},(J8 n i k).run s=some (ws,f)->ws=[]/\(f:Int)=n
 |i,0,s,ws,f,h=>(zr h).elim
 |i,k+1,s,ws,f,h=>by
  rcases Q2 h with ⟨hb,h'⟩|⟨hb,h'⟩
  ·obtain ⟨rfl,rfl⟩:=Yd h'
   exact ⟨rfl,by simpa using hb⟩
  ·exact zbk (i+1) k h'
theorem zeR (hS:SysOk P E) (h:Rel P E G s a w) {pre:Option Nat} {o:Oper} {t:Nat} {x y:Operand} (ho:o.op=.indexAddr t x y) (hd:∀ d',o.dst=some d'->d'<a.tmps.size) {ws:List W} {pn:Pn} (hr:(act E cf pre o).run s=some (ws,pn)):OpOk P E G s a w pre o (s.puts ws) pn:=by
 simp only[act,ho] at hr
 obtain ⟨u1,i,v1,h1,h2,rfl⟩:=zmR hr
 obtain ⟨rfl,hi⟩:=yX h1
 have hT:=hS.ty t i hi
 simp only[RS.puts,zm7] at h2 ⊢
 obtain ⟨u2,n,v2,h3,h4,rfl⟩:=zmR h2
 obtain ⟨rfl,hn⟩:=Zz hS h h3
 simp only[RS.puts,zm7] at h4 ⊢
 have ex:∀ {v:Value},(Instr.indexAt t (a.eval x) (.int n.1 n.2)).run P w=.ok v w->(execOp a.eval o).run P w=.ok (.value v) w:=fun hrun=>by
  simp only[execOp,ho,hn,Sem.run_bind,hrun,Result.andThen_ok,Sem.run_pure]
 split at h4
 ·rename_i len esz harr
  obtain ⟨e,ke,hu,he,hke,_⟩:=hT.arr _ harr
  obtain ⟨u3,v,v3,h5,h6,rfl⟩:=zmR h4
  obtain ⟨rfl,hh,hv⟩:=xG hS h h5
  simp only[RS.puts,zm7] at h6 ⊢
  split at h6
  ·rename_i p off
   obtain ⟨b,c,q,k1,hx,k3,k4⟩:ERel G p off (a.eval x):=hv
   obtain ⟨u4,_,v4,h7,h8,rfl⟩:=zmR h6
   obtain ⟨rfl,hb⟩:=z5 h7
   simp only[zm8,decide_eq_true_eq] at hb
   simp only[RS.puts,zm7] at h8 ⊢
   refine ym h hd h8 (x:=.pointer (some ⟨b,q+off+n.2.toNat*esz,none⟩)) ⟨b,c,q,k1,by rw[Nat.add_assoc],k3,k4⟩ (ex ?_) pre
   rw[hx]
   exact zbS hu he hke w b _ _ _ hb.1 hb.2
  ·rename_i l off
   obtain ⟨b,hb0,hx⟩:∃ b,G.ph l=some b/\a.eval x=.pointer (some ⟨b,off,none⟩):=hv
   obtain ⟨u4,_,v4,h7,h8,rfl⟩:=zmR h6
   obtain ⟨rfl,hb⟩:=z5 h7
   simp only[zm8,decide_eq_true_eq] at hb
   simp only[RS.puts,zm7] at h8 ⊢
   obtain ⟨u5,j,v5,h9,h10,rfl⟩:=zmR h8
   obtain ⟨rfl,hj⟩:=zbk _ _ h9
   simp only[RS.puts,zm7] at h10 ⊢
   refine ym h hd h10 (x:=.pointer (some ⟨b,off+j*esz,none⟩)) ⟨b,hb0,rfl⟩ (ex ?_) pre
   rw[hx]
   have:=zbS hu he hke w b off n.1 n.2 hb.1 hb.2
   rwa [show n.2.toNat=j by omega] at this
  ·exact (zr h6).elim
 ·obtain ⟨u3,el,v3,h5,h6,rfl⟩:=zmR h4
  obtain ⟨rfl,hel⟩:=zE h5
  obtain ⟨hu,ke,z,he,hks,_⟩:=hT.el el hel
  simp only[RS.puts,zm7] at h6 ⊢
  have shared:∀ {G1:Gh} {s1:RS} {q:PV} {ws':List W},Fr G w G1 w X0->G1.ph=G.ph->Rel P E G1 s1 a w->PRep G1.g q (a.eval x)->
    (do let l ←zv (zX q);need (decide (l.1=el.2.1)&&decide (0<=n.2)&&decide (n.2<l.2.length));let p ←zv (l.2[n.2.toNat]?);done o.dst (.elp p 0):RM Pn).run s1=some (ws',pn)->OpOk P E G s a w pre o (s1.puts ws') pn:=by
   intro G1 s1 q ws' f1 p1 r1 hP hrun
   obtain ⟨u0,l,v0,h01,h02,rfl⟩:=zmR hrun
   obtain ⟨rfl,hl⟩:=zE h01
   have:=WW hl
   subst this
   obtain ⟨sz,xs⟩:=l
   simp only[RS.puts,zm7] at h02 ⊢
   obtain ⟨u4,_,v4,h7,h8,rfl⟩:=zmR h02
   obtain ⟨rfl,hb⟩:=z5 h7
   simp only[zm8,decide_eq_true_eq] at hb
   simp only[RS.puts,zm7] at h8 ⊢
   obtain ⟨u5,p,v5,h9,h10,rfl⟩:=zmR h8
   obtain ⟨rfl,hp⟩:=zE h9
   simp only[RS.puts,zm7] at h10 ⊢
   obtain ⟨b,off,cap,hx,hE⟩:=zk7 hP hb.1.2 hb.2 hp
   refine xO h f1 (xV p1) r1 hd h10 (x:=.pointer (some ⟨b,off+n.2.toNat*sz,none⟩)) hE (ex ?_) pre
   rw[hx]
   exact zbT hu he (hks.trans hb.1.1.symm) w b off _ cap _ _ hb.1.2 hb.2
  cases x with
  |const c=>exact (zr h6).elim
  |global c=>exact (zr h6).elim
  |func c=>exact (zr h6).elim
  |tmp z=>
   simp only at h6
   obtain ⟨u4,c,v4,h7,h8,rfl⟩:=zmR h6
   obtain ⟨rfl,rfl⟩:=yS h7
   simp only[RS.puts,zm7] at h8 ⊢
   split at h8
   ·rename_i v hq
    obtain ⟨u5,A,v5,h9,h10,rfl⟩:=zmR h8
    obtain ⟨rfl,hm,hval⟩:=vV h h9
    simp only[RS.puts,zm7] at h10 ⊢
    have hc:=h.rf z _ hq hm
    have hv:=hval _ hc
    split at h10
    ·rename_i e sz xs
     obtain ⟨u6,_,v6,h11,h12,rfl⟩:=zmR h10
     obtain ⟨rfl,hb⟩:=z5 h11
     simp only[zm8,decide_eq_true_eq] at hb
     simp only[RS.puts,zm7] at h12 ⊢
     have hU:∃ k,URel G w k e sz xs (a.eval (.tmp z)):=⟨_,hv⟩
     obtain ⟨k,h0,us,⟨hl,hw⟩,h2',_⟩:=hU
     rcases hw with ⟨hx,hz⟩|⟨g,cap,cur,hx,_⟩
     ·have:=hb.2;rw[hz] at this;omega
     ·refine WF h hd h12 (x:=.pointer (some ⟨g,0+n.2.toNat*sz,none⟩)) (fun _=>⟨g,_,cap,(show tmp a z=_ from hx)▸hc,by simp⟩) (ex ?_) pre
      rw[hx]
      exact zbT hu he (hks.trans hb.1.1.symm) w g 0 _ cap _ _ hb.1.2 hb.2
    ·exact shared (Fr.refl.weaken (fun _ h=>h.elim) X0_old) rfl h hv h10
    ·exact (zr h10).elim
   ·exact (zr h8).elim
   ·obtain ⟨u5,_,v5,h9,h10,rfl⟩:=zmR h8
    obtain ⟨G1,f1,p1,r1⟩:=XM h h9
    rw[RS.puts_append]
    obtain ⟨u6,v,v6,h11,h12,rfl⟩:=zmR h10
    obtain ⟨rfl,hh,hv⟩:=xG hS r1 h11
    simp only[RS.puts,zm7] at h12 ⊢
    split at h12
    ·exact shared (f1.weaken xn X0_old) p1 r1 hv h12
    ·exact (zr h12).elim
theorem Xb {hh:Nat->Hd} {x:AV} {v:Value} (hv:VRel P E G w hh x v) (hok:(z9 x).all wG=true) :
  v.cells.size=(z9 x).length/\∀ (j:Nat) (q:AV) (y:Value),(z9 x)[j]? = some q->v.cells[j]? = some y->BRel G w (hh j) q y:=by
 have one:∀ {q:AV} {y:Value},y.oneCell' = true->BRel G w (hh 0) q y->y.cells.size=[q].length/\∀ (j:Nat) (q':AV) (y':Value),[q][j]? = some q'->y.cells[j]? = some y'->BRel G w (hh j) q' y':=by
  intro q y h1 hB
  have hc:y.cells=#[y]:=by cases y<;>simp_all [Value.oneCell',Value.cells]
  rw[hc]
  refine ⟨rfl,fun j q' y' hq hy=>?_⟩
  cases j with
  |zero=>simp at hq hy;subst hq;subst hy;exact hB
  |succ j=>simp at hq
 cases x with
 |pv p=>
  have hP:PRep G.g p v:=hv
  cases p with
  |agg cs=>
   cases hP with
   |agg g1 g2 g3=>
    refine ⟨by simp[z9,PV.cells,Value.cells,g1],fun j q y hq hy=>?_⟩
    simp only[z9,PV.cells,List.getElem?_map] at hq
    cases hj:cs[j]? with
    |none=>simp[hj] at hq
    |some q0=>
     simp only[hj,Option.map_some,zm9] at hq
     subst hq
     exact ⟨g2 q0 (List.mem_of_getElem? hj),g3 j q0 y hj hy⟩
  |tup xs=>simp[z9,PV.cells,wG,PV.isCell] at hok
  |v x=>exact one (hP.one rfl) ⟨rfl,hP⟩
  |sl sz xs=>exact one (hP.one rfl) ⟨rfl,hP⟩
  |ifc t x=>exact one (hP.one rfl) ⟨rfl,hP⟩
  |sen g=>exact one (hP.one rfl) ⟨rfl,hP⟩
 |slu e sz xs=>exact one (BRel.one (h:=hh 0) (a:=.slu e sz xs) hv) hv
 |agg cs=>
  obtain ⟨vs,rfl,g1,g2⟩:=hv
  exact ⟨g1,g2⟩
 |ptr l o=>exact one (BRel.one (w:=w) (h:=hh 0) (a:=.ptr l o) hv) hv
 |elp x o=>simp[z9,wG] at hok
 |clo f x y=>exact one (BRel.one (w:=w) (h:=hh 0) (a:=.clo f x y) hv) hv
 |gm g=>simp[z9,wG] at hok
 |mp g=>simp[z9,wG] at hok
 |tup k b ps=>simp[z9,wG] at hok
 |und=>simp[z9,wG] at hok
 |dead=>simp[z9,wG] at hok
theorem Rel.newbox (h:Rel P E G s a w) {T:TypeId} {c:Array Value} {cs:List AV} (hsz:c.size=cs.length) (l:Nat) (hc:∀ (j:Nat) (q:AV) (y:Value),cs[j]? = some q->c[j]? = some y->BRel G w (.hand j) q y)
  (hl:G.ph l=none) {s':RS} (h1:s'.sl=s.sl) (h2:∀ l',l'≠l->∀ cs',s'.H[l']? = some cs'->s.H[l']? = some cs') (h3:∀ cs',s'.H[l]? = some cs'->cs' = cs) (h4:∀ v,s'.md v=false->s.md v=false) (h5:s.H.length<=s'.H.length) (h6:l<s'.H.length) :
  ∃ G':Gh,Fr G w G' (w.alloc (.cells c T)) xl/\(∀ l' b,l'≠l->G'.ph l' = some b->G.ph l' = some b)/\G'.ph l=some w.heap.size/\Rel P E G' s' a (w.alloc (.cells c T)):=by
 let G':Gh:=⟨G.g,fun l' => if l' = l then some w.heap.size else G.ph l',fun b=>if b=w.heap.size then some (.box l) else match G.ka b with|some (.hand j)=>some (.c l j)|q=>q⟩
 have hlt:∀ b k,G.ka b=some k->b≠w.heap.size:=fun b k hb=>Nat.ne_of_lt (h.wo.dom b k hb)
 have hka:∀ b k,G.ka b=some k->¬xl k->G'.ka b=some k:=by
  intro b k hb hk
  show (if b=w.heap.size then some (Hd.box l) else match G.ka b with|some (.hand j)=>some (Hd.c l j)|q=>q)=some k
  rw[if_neg (hlt b k hb),hb]
  cases k<;>first|rfl|exact absurd trivial hk
 have hold:∀ b k,G.ka b=some k->(w.alloc (.cells c T)).heap[b]? = w.heap[b]?:=fun b k hb=>heap_alloc_old w _ b (h.wo.dom b k hb)
 have f:Fr G w G' (w.alloc (.cells c T)) xl:=⟨fun _ _ h=>h,fun l' b hb=>by
   show (if l' = l then some w.heap.size else G.ph l')=some b
   rw[if_neg (fun e=>by subst e;rw[hl] at hb;cases hb)];exact hb,fun b k hb hk=>⟨hka b k hb hk,hold b k hb⟩,⟨id,id⟩,rfl,rfl,rfl,by simp⟩
 have hbox:G'.ka w.heap.size=some (.box l):=by
  show (if w.heap.size=w.heap.size then some (Hd.box l) else _)=_
  rw[if_pos rfl]
 have wo:WOk P E G' (w.alloc (.cells c T)):=h.wo.fr f (fun b cc hc=>by
   obtain ⟨k1,T',fr,k2⟩:=h.wo.imm b cc hc
   exact ⟨hka b _ k1 id,T',fr,(hold b _ k1).trans k2⟩) (fun b k hb=>by
   by_cases hbb:b=w.heap.size
   ·subst hbb;simp
   ·cases hg:G.ka b with
    |none=>
     have:G'.ka b=none:=by
      show (if b=w.heap.size then some (Hd.box l) else match G.ka b with|some (.hand j)=>some (Hd.c l j)|q=>q)=none
      rw[if_neg hbb,hg]
     rw[this] at hb;cases hb
    |some q=>have:=h.wo.dom b q hg;simp;omega)
 refine ⟨G',f,fun l' b hne hb=>by
  have:(if l' = l then some w.heap.size else G.ph l')=some b:=hb
  rwa [if_neg hne] at this,by show (if l=l then some w.heap.size else G.ph l)=_;rw[if_pos rfl],wo,fun l' cs' hl' b hb=>?_,fun t=>?_,fun t r hr=>?_,fun l' b hb=>?_⟩
 ·by_cases hll:l' = l
  ·subst hll
   have hcs:=h3 cs' hl'
   subst hcs
   have hb':b=w.heap.size:=by
    have:(if l' = l' then some w.heap.size else G.ph l')=some b:=hb
    rw[if_pos rfl] at this
    exact (Option.some.inj this).symm
   subst hb'
   refine ⟨hbox,T,c,heap_alloc_new w _,hsz,fun o q y hq hy=>?_⟩
   exact (hc o q y hq hy).move f (fun b hb=>⟨by
    show (if b=w.heap.size then some (Hd.box l') else match G.ka b with|some (.hand j)=>some (Hd.c l' j)|q=>q)=some (.c l' o)
    rw[if_neg (hlt b _ hb),hb],hold b _ hb⟩)
  ·have hb':G.ph l' = some b:=by
    have:(if l' = l then some w.heap.size else G.ph l')=some b:=hb
    rwa [if_neg hll] at this
   exact (h.bx l' cs' (h2 l' hll cs' hl') b hb').fr f id (fun o=>id)
 ·rw[h1];exact (h.sl t).fr f (fun j=>id)
 ·rw[h1] at hr
  exact (h.rf t r hr).fr f h4 (fun v _ l o _=>id) (fun _ _ _ _=>rfl)
 ·by_cases hll:l' = l
  ·subst hll;exact h6
  ·have hb':(if l' = l then some w.heap.size else G.ph l')=some b:=hb
   rw[if_neg hll] at hb'
   exact Nat.lt_of_lt_of_le (h.dm l' b hb') h5
theorem zbV {t:Nat} {v:Value} (w:World):(newVar t v).run P w=.ok ⟨w.heap.size,0,none⟩ (w.alloc (.cells v.cells t)):=by
 simp[newVar,newRow]
theorem gN {α:Type} {l:List α} {x y:α} {i:Nat} (h:(l++[x])[i]? = some y) (hi:i≠l.length):l[i]? = some y:=by
 rcases Nat.lt_or_ge i l.length with hlt|hge
 ·rwa [List.getElem?_append_left hlt] at h
 ·have:=(List.getElem?_eq_some_iff.1 h).1
  simp at this
  omega
theorem ZRel.b {h:Hd}:∀ {x:AV} {y:Value},ZRel x y->BRel G w h x y
 |.pv (.v x),y,hz=>by obtain ⟨h1,rfl⟩:=hz;exact ⟨rfl,.v h1⟩
 |.slu e sz [],y,hz=>by obtain ⟨rfl,h0⟩:=hz;exact URel.nil h0
 |.dead,y,hz=>hz
 |.slu e sz (_::_),_,hz=>hz.elim
 |.pv (.sl ..),_,hz=>hz.elim
 |.pv (.agg ..),_,hz=>hz.elim
 |.pv (.tup ..),_,hz=>hz.elim
 |.pv (.ifc ..),_,hz=>hz.elim
 |.agg ..,_,hz=>hz.elim
 |.ptr ..,_,hz=>hz.elim
 |.elp ..,_,hz=>hz.elim
 |.clo ..,_,hz=>hz.elim
 |.gm ..,_,hz=>hz.elim
 |.mp ..,_,hz=>hz.elim
 |.tup ..,_,hz=>hz.elim
 |.und,_,hz=>hz.elim
def XX (E:Env) (G:Gh) (s:RS) (o:Oper):Option Nat->Prop
 |none=>True
 |some l=>G.ph l=none/\l<s.H.length
theorem boxed (h:Rel P E G s a w) {G1:Gh} {s1:RS} (f1:Fr G w G1 w X0) (p1:G1.ph=G.ph) (r1:Rel P E G1 s1 a w) {o:Oper} (hd:∀ d',o.dst=some d'->d'<a.tmps.size) {T:TypeId} {v:Value} {cs:List AV}
  (hsz:v.cells.size=cs.length) (hc:∀ (j:Nat) (q:AV) (y:Value),cs[j]? = some q->v.cells[j]? = some y->BRel G1 w (.hand j) q y) {l:Nat} {s2:RS} (hl:G.ph l=none)
  (h1:s2.sl=s1.sl) (h2:∀ l',l'≠l->∀ cs',s2.H[l']? = some cs'->s1.H[l']? = some cs') (h3:∀ cs',s2.H[l]? = some cs'->cs' = cs) (h4:∀ v,s2.md v=false->s1.md v=false) (h5:s1.H.length<=s2.H.length) (h6:l<s2.H.length)
  {pre:Option Nat} (hpre:∀ l',l'<s.H.length->pre≠some l'->l'≠l) {ws:List W} {pn:Pn} (hr:(done o.dst (.ptr l 0)).run s2=some (ws,pn))
  (hx:(execOp a.eval o).run P w=.ok (.value (.pointer (some ⟨w.heap.size,0,none⟩))) (w.alloc (.cells v.cells T))):OpOk P E G s a w pre o (s2.puts ws) pn:=by
 obtain ⟨G2,f2,p2,p3,r2⟩:=r1.newbox hsz l hc (p1▸hl) h1 h2 h3 h4 h5 h6 (T:=T)
 obtain ⟨rfl,G3,f3,p4,r3⟩:=Wz r2 hd hr (x:=.pointer (some ⟨w.heap.size,0,none⟩)) ⟨_,p3,rfl⟩
 exact OpOk.val hx ⟨rfl,G3,(f1.trans (f2.weaken (fun k hk=>by cases k<;>first|exact hk.elim|exact ⟨by simp,by simp⟩) X0_old)).trans f3,fun l' b hl' hpr hb=>by
  have hb':G2.ph l' = some b:=p4▸hb
  exact p1▸p2 l' b (hpre l' hl' hpr) hb',r3⟩
theorem zeC (hS:SysOk P E) (h:Rel P E G s a w) {pre:Option Nat} {o:Oper} {t:Nat} (ho:o.op=.alloc t) (hd:∀ d',o.dst=some d'->d'<a.tmps.size) (hpr:XX E G s o pre) {ws:List W} {pn:Pn} (hr:(act E cf pre o).run s=some (ws,pn)):OpOk P E G s a w pre o (s.puts ws) pn:=by
 simp only[act,ho] at hr
 obtain ⟨u1,i,v1,h1,h2,rfl⟩:=zmR hr
 obtain ⟨rfl,hi⟩:=yX h1
 simp only[RS.puts,zm7] at h2 ⊢
 obtain ⟨k,z,hk,hks,hz,hzs,hzl,hzr⟩:=(hS.ty t i hi).info
 have hx:(execOp a.eval o).run P w=.ok (.value (.pointer (some ⟨w.heap.size,0,none⟩))) (w.alloc (.cells z.cells t)):=by
  simp[execOp,ho,Instr.alloc,zeroValue,typeInfo,hk,hz,zbV]
 have hc:∀ (j:Nat) (q:AV) (y:Value),i.zero[j]? = some q->z.cells[j]? = some y->BRel G w (.hand j) q y:=fun j q y hq hy=>(hzr j q y hq hy).b
 split at h2
 ·rename_i l
  obtain ⟨q1,q2⟩:=hpr
  obtain ⟨u4,_,v4,h7,h8,rfl⟩:=zmR h2
  have hw:=yO h7
  subst hw
  simp only[List.cons_append,zm7,RS.puts] at h8 ⊢
  refine boxed h (Fr.refl.weaken (fun _ h=>h.elim) X0_old) rfl h hd hzs hc q1 (s2:=s.put (.b l i.zero)) rfl (fun l' hne cs' hl' => ?_) (fun cs' hcs=>?_) (fun v hv=>?_) (by simp[RS.put]) (by simp[RS.put];exact q2) (fun l' _ hne e=>hne (by rw[e])) h8 hx
  ·simp only[RS.put] at hl'
   rwa [List.getElem?_set_ne (Ne.symm hne)] at hl'
  ·simp only[RS.put] at hcs
   rw[List.getElem?_set_self q2] at hcs
   exact (Option.some.inj hcs).symm
  ·cases v with
   |s u=>exact hv
   |c l' o=>
    simp only[RS.md,RS.put] at hv ⊢
    split at hv
    ·cases hv
    ·exact hv
 ·obtain ⟨u2,H,v2,h3,h4,rfl⟩:=zmR h2
  obtain ⟨rfl,rfl⟩:=zbW h3
  simp only[RS.puts,zm7] at h4 ⊢
  obtain ⟨u3,_,v3,h5,h6,rfl⟩:=zmR h4
  have hw:=yO h5
  subst hw
  simp only[List.cons_append,zm7,RS.puts] at h6 ⊢
  have hph:G.ph s.H.length=none:=by
   cases hg:G.ph s.H.length with
   |none=>rfl
   |some b=>exact absurd (h.dm _ b hg) (Nat.lt_irrefl _)
  exact boxed h (Fr.refl.weaken (fun _ h=>h.elim) X0_old) rfl h hd hzs hc hph (s2:=s.put (.new i.zero)) rfl (fun l' hne cs' hl' => gN hl' hne) (fun cs' hcs=>by simp[RS.put] at hcs;exact hcs.symm) (fun _ h=>h) (by simp[RS.put]) (by simp[RS.put]) (fun l' hl' _=>Nat.ne_of_lt hl') h6 hx
theorem zeH (hS:SysOk P E) (h:Rel P E G s a w) {pre:Option Nat} {o:Oper} {t:Nat} {x:Operand} (ho:o.op=.box t x) (hd:∀ d',o.dst=some d'->d'<a.tmps.size) (hpr:XX E G s o pre) {ws:List W} {pn:Pn} (hr:(act E cf pre o).run s=some (ws,pn)):OpOk P E G s a w pre o (s.puts ws) pn:=by
 simp only[act,ho] at hr
 obtain ⟨u1,i,v1,h1,h2,rfl⟩:=zmR hr
 obtain ⟨rfl,hi⟩:=yX h1
 simp only[RS.puts,zm7] at h2 ⊢
 obtain ⟨u2,r,v2,h3,h4,rfl⟩:=zmR h2
 obtain ⟨G1,f1,p1,r1,hv⟩:=ZK hS h h3
 rw[RS.puts_append]
 have WN:(s.puts u2).H.length=s.H.length:=zcs hS h h3
 obtain ⟨u0,cs,v0,h01,h02,rfl⟩:=zmR h4
 obtain ⟨rfl,rfl,_⟩:=J6 h01
 simp only[RS.puts,zm7] at h02 ⊢
 obtain ⟨u3,_,v3,h5,h6,rfl⟩:=zmR h02
 obtain ⟨rfl,hn⟩:=z5 h5
 simp only[RS.puts,zm7] at h6 ⊢
 obtain ⟨hsz,hc⟩:=Xb hv hn
 have hx:(execOp a.eval o).run P w=.ok (.value (.pointer (some ⟨w.heap.size,0,none⟩))) (w.alloc (.cells (a.eval x).cells t)):=by
  simp[execOp,ho,Instr.box,zbV]
 split at h6
 ·rename_i l
  obtain ⟨q1,q2⟩:=hpr
  obtain ⟨u4,_,v4,h7,h8,rfl⟩:=zmR h6
  have hw:=yO h7
  subst hw
  simp only[List.cons_append,zm7,RS.puts] at h8 ⊢
  have hlt:l<(s.puts u2).H.length:=by rw[WN];exact q2
  refine boxed h (f1.weaken xn X0_old) p1 r1 hd hsz hc q1 (s2:=(s.puts u2).put (.b l (z9 r))) rfl (fun l' hne cs' hl' => ?_) (fun cs' hcs=>?_) (fun v hv=>?_) (by simp[RS.put]) (by simp[RS.put];exact hlt) (fun l' _ hne e=>hne (by rw[e])) h8 hx
  ·simp only[RS.put] at hl'
   rwa [List.getElem?_set_ne (Ne.symm hne)] at hl'
  ·simp only[RS.put] at hcs
   rw[List.getElem?_set_self hlt] at hcs
   exact (Option.some.inj hcs).symm
  ·cases v with
   |s u=>exact hv
   |c l' o=>
    simp only[RS.md,RS.put] at hv ⊢
    split at hv
    ·cases hv
    ·exact hv
 ·obtain ⟨u4,H,v4,h7,h8,rfl⟩:=zmR h6
  obtain ⟨rfl,rfl⟩:=zbW h7
  simp only[RS.puts,zm7] at h8 ⊢
  obtain ⟨u5,_,v5,h9,h10,rfl⟩:=zmR h8
  have hw:=yO h9
  subst hw
  simp only[List.cons_append,zm7,RS.puts] at h10 ⊢
  have hph:G.ph (s.puts u2).H.length=none:=by
   cases hg:G.ph (s.puts u2).H.length with
   |none=>rfl
   |some b=>exact absurd (h.dm _ b hg) (by rw[WN];exact Nat.lt_irrefl _)
  exact boxed h (f1.weaken xn X0_old) p1 r1 hd hsz hc hph (s2:=(s.puts u2).put (.new (z9 r))) rfl (fun l' hne cs' hl' => gN hl' hne) (fun cs' hcs=>by simp[RS.put] at hcs;exact hcs.symm) (fun _ h=>h) (by simp[RS.put]) (by simp[RS.put]) (fun l' hl' _=>by rw[WN];exact Nat.ne_of_lt hl') h10 hx
end
section
variable {P:Program} {E:Env} {G G':Gh} {w w':World} {X:Hd->Prop} {s s':RS} {a a':Act}
variable {cf:Nat->List AV->za->Option (Out×za)}
theorem zbX {t:Nat} {i:TI} (hT:TyOk P t i) {b off:Nat} {cur:Array Value} {T:TypeId} {v:Value} (hb:w.heap[b]? = some (.cells cur T (0,0))) (hs:v.cells.size=i.size) (hle:off+i.size<=cur.size) (h1:∀ y∈v.cells.toList,y.oneCell' = true) :
  (Instr.storeAt t (.pointer (some ⟨b,off,none⟩)) v).run P w=.ok () (w.setRow b (cur.toList.take off++v.cells.toList++cur.toList.drop (off+v.cells.toList.length)).toArray):=by
 have:=run_storeCells_at P b off T v.cells.toList 0 cur w hb (by simp[hs];omega) h1
 simp only[Nat.add_zero] at this
 simp only[Instr.storeAt,Instr.sureAddr,Sem.run_bind,Sem.run_pure,Result.andThen_ok,storeVar,qu hT,Sem.run_ite,hs,ne_eq,not_true_eq_false,if_false,this]
theorem zbY {o:Oper} {t:Nat} {x y:Operand} (ho:o.op=.store t x y) (hrun:(Instr.storeAt t (a.eval x) (a.eval y)).run P w=.ok () w'):(execOp a.eval o).run P w=.ok .skip w':=by
 simp only[execOp,ho,Sem.run_bind,hrun,Result.andThen_ok,Sem.run_pure]
theorem OpOk.skip {pre:Option Nat} {o:Oper} {w1:World} {pn:Pn} (hx:(execOp a.eval o).run P w=.ok .skip w1)
  (h:pn=none/\∃ G',Fr G w G' w1 X0/\(∀ l b,l<s.H.length->pre≠some l->G'.ph l=some b->G.ph l=some b)/\Rel P E G' s' (a.put o.dst undef) w1):OpOk P E G s a w pre o s' pn:=by
 obtain ⟨rfl,G',f,hp,hr⟩:=h
 intro K Q hK
 unfold Oper.wp
 rw[hx]
 exact hK G' _ w1 f hp hr (Yg _ _) (Ye _ _)
theorem zcb {α:Type} (l:List α) (o:Nat) (x:α) (r:List α) (h:o+(r.length+1)<=l.length):yP (l.set o x) (o+1) r=yP l o (x::r):=by
 unfold yP
 have h1:(l.set o x).take (o+1)=l.take o++[x]:=by
  rw[List.take_succ_eq_append_getElem (by simp;omega),List.take_set_of_le (Nat.le_refl _)]
  simp
 have h2:(l.set o x).drop (o+1+r.length)=l.drop (o+(r.length+1)):=by
  rw[List.drop_set_of_lt (by omega)]
  congr 1
  omega
 rw[h1,h2]
 simp
theorem Kf {α:Type} (l:List α) (o:Nat) (m:List α) (h:o+m.length<=l.length):(yP l o m).length=l.length:=by
 unfold yP;simp;omega
theorem Ke {α:Type} (l:List α) (o:Nat) (m:List α) (h:o+m.length<=l.length) (j:Nat):(yP l o m)[j]? = if o<=j/\j<o+m.length then m[j-o]? else l[j]?:=by
 unfold yP
 have h1:(l.take o).length=o:=by simp;omega
 by_cases c1:j<o
 ·rw[if_neg (by omega),List.append_assoc,List.getElem?_append_left (by omega),List.getElem?_take,if_pos c1]
 ·by_cases c2:j<o+m.length
  ·rw[if_pos (by omega),List.append_assoc,List.getElem?_append_right (by omega),List.getElem?_append_left (by omega),h1]
  ·rw[if_neg (by omega),List.getElem?_append_right (by simp;omega),List.getElem?_drop]
   simp only[List.length_append,h1]
   congr 1
   omega
theorem zla (hS:SysOk P E) (h:Rel P E G s a w) {G1:Gh} {s1:RS} (f1:Fr G w G1 w X1) (p1:G1.ph=G.ph) (r1:Rel P E G1 s1 a w) {t:Nat} {i:TI} (hT:TyOk P t i) {pre:Option Nat} {o:Oper} {q:Nat} {y:Operand}
  (ho:o.op=.store t (.tmp q) y) (hdn:o.dst=none) {v:Var} {sz j off:Nat} (hq:(s1.sl q).r=some (.elem v sz j off)) {r:AV} (hsz':(a.eval y).cells.size=i.size) (hone:∀ z∈(a.eval y).cells.toList,z.oneCell' = true)
  (hc:∀ (j:Nat) (q:AV) (u:Value),(z9 r)[j]? = some q->(a.eval y).cells[j]? = some u->BRel G1 w (.hand j) q u) (hn:(z9 r).length=i.size/\(z9 r).all wG=true) {ws:List W} {pn:Pn}
  (hr:(do
   match ←varOf v with
   |.slu e sz' xs=>do
    need (decide (sz' = sz))
    let p ←zv (xs[j]?)
    need (decide (off+i.size<=p.cells.length))
    let ps ←zv ((z9 r).mapM zb)
    let p' ←zv (setCells p off ps)
    YL false (.slu e sz (xs.set j p')) v
    pure none
   |_=>.fail:RM Pn).run s1=some (ws,pn)):OpOk P E G s a w pre o (s1.puts ws) pn:=by
 obtain ⟨u1,A,v1,h1,h2,rfl⟩:=zmR hr
 obtain ⟨rfl,hm,hval⟩:=vV r1 h1
 simp only[RS.puts,zm7] at h2 ⊢
 split at h2
 ·rename_i e sz' xs
  obtain ⟨u2,_,v2,h3,h4,rfl⟩:=zmR h2
  obtain ⟨rfl,hn1⟩:=z5 h3
  have:=of_decide_eq_true hn1
  subst this
  simp only[RS.puts,zm7] at h4 ⊢
  obtain ⟨u3,p,v3,h5,h6,rfl⟩:=zmR h4
  obtain ⟨rfl,hp⟩:=zE h5
  simp only[RS.puts,zm7] at h6 ⊢
  obtain ⟨u4,_,v4,h7,h8,rfl⟩:=zmR h6
  obtain ⟨rfl,hn2⟩:=z5 h7
  have hle:off+i.size<=p.cells.length:=of_decide_eq_true hn2
  simp only[RS.puts,zm7] at h8 ⊢
  obtain ⟨u5,ps,v5,h9,h10,rfl⟩:=zmR h8
  obtain ⟨rfl,hps⟩:=zE h9
  have hpv:=QV hps
  have hpl:ps.length=i.size:=by rw[←hn.1,hpv];simp
  simp only[RS.puts,zm7] at h10 ⊢
  obtain ⟨u6,p',v6,h11,h12,rfl⟩:=zmR h10
  have hp':u6=[]/\p'.cells=yP p.cells off ps:=by
   obtain ⟨rfl,hset⟩:=zE h11
   unfold setCells at hset
   split at hset
   ·cases hset;exact ⟨rfl,rfl⟩
   ·rename_i hna
    split at hset
    ·rename_i z
     cases hset
     have hcl:p.cells=[p]:=by cases p<;>first|rfl|exact absurd rfl (hna _)
     have hzc:p'.isCell=true:=by
      have:=hn.2
      rw[hpv] at this
      simpa[wG] using this
     have hz:p'.cells=[p']:=by cases p'<;>simp_all [PV.cells,PV.isCell]
     have h1:i.size=1:=by simpa using hpl.symm
     have h0:off=0:=by rw[hcl,h1] at hle;simp at hle;omega
     subst h0
     exact ⟨rfl,by rw[hz,hcl];rfl⟩
    ·cases hset
  obtain ⟨rfl,hpc⟩:=hp'
  simp only[RS.puts,zm7] at h12 ⊢
  obtain ⟨u7,_,v7,h13,h14,rfl⟩:=zmR h12
  obtain ⟨rfl,rfl⟩:=run_pure h14
  rw[List.append_nil]
  obtain ⟨b,n,cap0,hconc,hx⟩:=r1.rf q _ hq hm
  have hU:=hval _ hconc
  obtain ⟨k,hk,hkl,hU⟩:∃ k,(k≠.imm/\k≠.frn)/\(match v with|.s t' => k = .s t' 0|.c l o=>k=.c l o)/\URel G1 w k e sz' xs (.slice (some ⟨b,0,none⟩) n cap0):=by
   cases v with
   |s t' => exact ⟨.s t' 0,⟨by simp,by simp⟩,rfl,hU⟩
   |c l o=>exact ⟨.c l o,⟨by simp,by simp⟩,rfl,hU⟩
  obtain ⟨h0,us,⟨hl,hw⟩,h2',h3'⟩:=hU
  rcases hw with ⟨he,_⟩|⟨g,cap,cur,he,_,hg,hnc,hcm,hcs,htk⟩
  ·cases he
  have e1:b=g:=by injection he with e1 _ _;injection e1 with e1;injection e1
  have e2:n=xs.length:=by injection he
  have e3:cap0=cap:=by injection he
  subst e1 e2 e3
  have hjl:j<xs.length:=(List.getElem?_eq_some_iff.1 hp).1
  have hpsz:p.cells.length=sz':=h2'.1 p (List.mem_of_getElem? hp)
  have hmul:j*sz'+sz'<=xs.length*sz':=by
   calc j*sz'+sz' = (j+1)*sz':=by rw[Nat.add_mul,Nat.one_mul]
    _<=xs.length*sz':=Nat.mul_le_mul_right _ hjl
  have hcur:xs.length*sz'<=cur.size:=by rw[hcs];exact Nat.mul_le_mul_right _ hnc
  have hbk:G1.ka b=some k:=h3' b rfl
  have hrun:=zbX (w:=w) hT hg hsz' (off:=j*sz'+off) (by omega) hone
  rw[←hx] at hrun
  refine OpOk.skip (zbY ho hrun) ⟨rfl,?_⟩
  rw[hdn]
  have hvl:(a.eval y).cells.toList.length=i.size:=by simpa using hsz'
  have hrow:cur.toList.take (j*sz'+off)++(a.eval y).cells.toList++cur.toList.drop (j*sz'+off+(a.eval y).cells.toList.length)=yP cur.toList (j*sz'+off) (a.eval y).cells.toList:=rfl
  rw[hrow]
  generalize hnew:(yP cur.toList (j*sz'+off) (a.eval y).cells.toList)=new at *
  have hfit:j*sz'+off+(a.eval y).cells.toList.length<=cur.toList.length:=by rw[hvl];simp;omega
  have hnl:new.length=cur.size:=by rw[←hnew,Kf _ _ _ hfit];simp
  have hother:∀ b' k',G1.ka b' = some k'->k'≠k->(w.setRow b new.toArray).heap[b']? = w.heap[b']?:=fun b' k' hb' hne=>setRow_other w b b' _ (fun e=>by subst e;rw[hbk] at hb';exact hne (Option.some.inj hb').symm)
  have f2:Fr G1 w G1 (w.setRow b new.toArray) (fun k' => k' = k):=⟨fun _ _ h=>h,fun _ _ h=>h,fun b' k' hb' hne=>⟨hb',hother b' k' hb' hne⟩,⟨fun e=>hk.1 e.symm,fun e=>hk.2 e.symm⟩,rfl,rfl,rfl,by simp[World.setRow]⟩
  have wo:WOk P E G1 (w.setRow b new.toArray):=r1.wo.fr f2 (fun b' c hc' => by
    obtain ⟨k1,T',fr,k2⟩:=r1.wo.imm b' c hc'
    exact ⟨k1,T',fr,(hother b' _ k1 (fun e=>hk.1 e.symm)).trans k2⟩) (fun b' k' hb' => by simpa[World.setRow] using r1.wo.dom b' k' hb')
  have hnget:∀ z,new[z]? = if j*sz'+off<=z/\z<j*sz'+off+i.size then (a.eval y).cells.toList[z-(j*sz'+off)]? else cur.toList[z]?:=fun z=>by
   rw[←hnew,Ke _ _ _ hfit,hvl]
  have hU2:URel G1 (w.setRow b new.toArray) k e sz' (xs.set j p') (.slice (some ⟨b,0,none⟩) xs.length cap0):=by
   refine ⟨h0,new.take (xs.length*sz'),⟨by simp[hnl];omega,.inr ⟨b,cap0,new.toArray,by simp,Nat.zero_le _,setRow_heap w b cur _ e (0,0) hg,by simpa using hnc,hcm,by simp[hnl,hcs],by simp⟩⟩,⟨fun z hz=>?_,fun i' z j' c u hz hc' hu=>?_⟩,fun b' hb' => by simp[Value.ownBlock] at hb';subst hb';exact hbk⟩
   ·rcases List.mem_or_eq_of_mem_set hz with hz|rfl
    ·exact h2'.1 z hz
    ·rw[hpc,Kf _ _ _ (by rw[hpl];exact hle)];exact hpsz
   ·have hil:i'<xs.length:=by have:=(List.getElem?_eq_some_iff.1 hz).1;simpa using this
    have hmul':i'*sz'+sz'<=xs.length*sz':=by
     calc i'*sz'+sz' = (i'+1)*sz':=by rw[Nat.add_mul,Nat.one_mul]
      _<=xs.length*sz':=Nat.mul_le_mul_right _ hil
    have oldu:∀ {z0:PV},xs[i']? = some z0->z0.cells[j']? = some c->cur.toList[i'*sz'+j']? = some u->c.isCell=true/\PRep G1.g c u:=by
     intro z0 hz0 hc0 hu0
     have hj0:j'<sz':=by rw[←h2'.1 z0 (List.mem_of_getElem? hz0)];exact (List.getElem?_eq_some_iff.1 hc0).1
     refine h2'.2 i' z0 j' c u hz0 hc0 ?_
     rw[←htk,List.getElem?_take,if_pos (by omega)]
     exact hu0
    by_cases hij:i' = j
    ·subst hij
     rw[List.getElem?_set_self hil] at hz
     cases hz
     rw[hpc,Ke _ _ _ (by rw[hpl];exact hle),hpl] at hc'
     have hj0:j'<sz':=by
      by_cases hj1:off<=j'/\j'<off+i.size
      ·omega
      ·rw[if_neg hj1] at hc';rw[←hpsz];exact (List.getElem?_eq_some_iff.1 hc').1
     rw[List.getElem?_take,if_pos (by omega),hnget] at hu
     by_cases hj1:off<=j'/\j'<off+i.size
     ·rw[if_pos hj1] at hc'
      rw[if_pos (by omega)] at hu
      have hcc:(z9 r)[j'-off]? = some (.pv c):=by rw[hpv];simp[hc']
      have:=hc (j'-off) (.pv c) u hcc (by rw[show i'*sz'+j'-(i'*sz'+off)=j'-off by omega] at hu;simpa using hu)
      exact this
     ·rw[if_neg hj1] at hc'
      rw[if_neg (by omega)] at hu
      exact oldu hp hc' hu
    ·rw[List.getElem?_set_ne (Ne.symm hij)] at hz
     have hj0:j'<sz':=by rw[←h2'.1 z (List.mem_of_getElem? hz)];exact (List.getElem?_eq_some_iff.1 hc').1
     rw[List.getElem?_take,if_pos (by omega),hnget,if_neg] at hu
     ·exact oldu hz hc' hu
     ·intro hh
      rcases Nat.lt_or_gt_of_ne hij with hlt|hgt
      ·have:i'*sz'+sz'<=j*sz':=by
        calc i'*sz'+sz' = (i'+1)*sz':=by rw[Nat.add_mul,Nat.one_mul]
         _<=j*sz':=Nat.mul_le_mul_right _ hlt
       omega
      ·have:j*sz'+sz'<=i'*sz':=by
        calc j*sz'+sz' = (j+1)*sz':=by rw[Nat.add_mul,Nat.one_mul]
         _<=i'*sz':=Nat.mul_le_mul_right _ hgt
       omega
  have fin:∀ {s2},Rel P E G1 s2 a (w.setRow b new.toArray)->∃ G',Fr G w G' (w.setRow b new.toArray) X0/\(∀ l b,l<s.H.length->pre≠some l->G'.ph l=some b->G.ph l=some b)/\Rel P E G' s2 a (w.setRow b new.toArray):=fun hR=>
   ⟨G1,(f1.weaken xn X0_old).trans (f2.weaken (fun k' hk' => by subst hk';exact ⟨hk.1,hk.2⟩) X0_old),fun l b' _ _ hb' => p1▸hb',hR⟩
  cases v with
  |s t' =>
   have hw:=yO h13
   subst hw
   have hkl':k=.s t' 0:=hkl
   subst hkl'
   have htt:Value.slice (some ⟨b,0,none⟩) xs.length cap0=tmp a t':=hconc
   refine fin (r1.slot f2 wo (fun _ _ h=>h) t' (fun k' hk' => .inl ⟨0,hk'⟩) (v:=tmp a t') rfl (fun _ _=>rfl) ?_ (fun q hq=>by cases hq) (.inr rfl))
   rw[←htt]
   exact hU2
  |c l o' =>
   have hw:=yO h13
   subst hw
   have hkl':k=.c l o':=hkl
   subst hkl'
   obtain ⟨b0,hb0,hkb0,hcell0⟩:=hconc
   refine fin (r1.cellg f2 wo (fun _ _ h=>h) l o' (fun k' hk' => .inl hk') _ false (fun b1 y1 hb1 hy1=>?_))
   rw[hb0] at hb1
   cases hb1
   rw[hcell0] at hy1
   cases hy1
   exact hU2
 ·exact (zr h2).elim
theorem zby:∀ (cs:List AV) (l o:Nat) {s:RS} {ws:List W} {u:Unit} {old:List AV},(QS l o cs).run s=some (ws,u)->s.H[l]? = some old->o+cs.length<=old.length->
  (s.puts ws).sl=s.sl/\(∀ l',l'≠l->(s.puts ws).H[l']? = s.H[l']?/\(s.puts ws).mb l' = s.mb l')/\(s.puts ws).H[l]? = some (yP old o cs)/\(cs≠[]->(s.puts ws).mb l=true)/\(s.puts ws).H.length=s.H.length
 |[],l,o,s,ws,u,old,hr,hl,hle=>by
  obtain ⟨rfl,_⟩:=run_pure hr
  exact ⟨rfl,fun _ _=>⟨rfl,rfl⟩,by simp[RS.puts,yP,hl],fun h=>absurd rfl h,rfl⟩
 |x::r,l,o,s,ws,u,old,hr,hl,hle=>by
  simp only[QS] at hr
  obtain ⟨u1,_,v1,h1,h2,rfl⟩:=zmR hr
  have hw:=yO h1
  subst hw
  simp only[List.cons_append,zm7,RS.puts] at h2 ⊢
  have hl1:(s.put (.c l o x true)).H[l]? = some (old.set o x):=zaT hl
  obtain ⟨g1,g2,g3,g4,g5⟩:=zby r l (o+1) h2 hl1 (by simp at hle ⊢;omega)
  refine ⟨g1,fun l' hne=>?_,?_,fun _=>?_,by rw[g5];simp[RS.put]⟩
  ·obtain ⟨k1,k2⟩:=g2 l' hne
   exact ⟨k1.trans (zaU hne),k2.trans (if_neg hne)⟩
  ·rw[g3]
   congr 1
   exact zcb old o x r (by simpa using hle)
  ·by_cases hr0:r=[]
   ·subst hr0
    obtain ⟨rfl,_⟩:=run_pure h2
    simp[RS.puts,RS.put]
   ·exact g4 hr0
theorem zkb (cs:List AV) (l o:Nat) {s:RS} {ws:List W} {u:Unit} {old:List AV} (hr:(zbx l o old cs).run s=some (ws,u)) (hl:s.H[l]? = some old) (hle:o+cs.length<=old.length) :
  (s.puts ws).sl=s.sl/\(∀ l',l'≠l->(s.puts ws).H[l']? = s.H[l']?/\(s.puts ws).mb l' = s.mb l')/\(s.puts ws).H[l]? = some (yP old o cs)/\(s.puts ws).mb l=true/\(s.puts ws).H.length=s.H.length:=by
 cases cs with
 |nil=>
  have hw:=yO hr
  subst hw
  have hlt:=(List.getElem?_eq_some_iff.1 hl).1
  refine ⟨rfl,fun l' hne=>⟨?_,?_⟩,?_,?_,?_⟩
  ·simp only[RS.puts,RS.put];rw[List.getElem?_set_ne (Ne.symm hne)]
  ·simp[RS.puts,RS.put,hne]
  ·simp only[RS.puts,RS.put];rw[List.getElem?_set_self hlt];simp[yP]
  ·simp[RS.puts,RS.put]
  ·simp[RS.puts,RS.put]
 |cons a r=>
  obtain ⟨g1,g2,g3,g4,g5⟩:=zby (a::r) l o hr hl hle
  exact ⟨g1,g2,g3,g4 (by simp),g5⟩
theorem zii {x:Operand} {ws:List W} {b:Bool} (hr:(JL x).run s=some (ws,b)):ws=[]:=by
 unfold JL at hr
 cases x with
 |tmp q=>
  simp only at hr
  obtain ⟨u1,g,v1,h1,h2,rfl⟩:=zmR hr
  obtain ⟨rfl,rfl⟩:=yS h1
  simp only[RS.puts,zm7] at h2 ⊢
  split at h2
  ·exact (run_pure h2).1
  ·exact (run_pure h2).1
 |_=>exact (run_pure hr).1
theorem zlq (hS:SysOk P E) (h:Rel P E G s a w) {el:Bool} {t:Nat} {x:Operand} {ws:List W} {v:AV} (hr:(qG E el t x).run s=some (ws,v)) :
  ∃ G',Fr G w G' w X1/\G'.ph=G.ph/\Rel P E G' (s.puts ws) a w/\VRel P E G' w (fun j=>.hand j) v (a.eval x):=by
 cases el with
 |true=>
  obtain ⟨G1,f1,p1,r1,_,_,hv⟩:=YP hS h hr
  exact ⟨G1,f1,p1,r1,hv _⟩
 |false=>exact ZK hS h hr
theorem zlp (hS:SysOk P E) (h:Rel P E G s a w) {el:Bool} {t:Nat} {x:Operand} {ws:List W} {v:AV} (hr:(qG E el t x).run s=some (ws,v)):(s.puts ws).H.length=s.H.length:=by
 cases el with
 |true=>exact zlZ hS h hr
 |false=>exact zcs hS h hr
theorem ze3 (hS:SysOk P E) (h:Rel P E G s a w) {pre:Option Nat} {o:Oper} {t:Nat} {x y:Operand} (ho:o.op=.store t x y) {ws:List W} {pn:Pn} (hr:(act E cf pre o).run s=some (ws,pn)):OpOk P E G s a w pre o (s.puts ws) pn:=by
 simp only[act,ho] at hr
 obtain ⟨u0,_,v0,h0,hr',rfl⟩:=zmR hr
 obtain ⟨rfl,hdn'⟩:=z5 h0
 have hdn:o.dst=none:=by simpa using hdn'
 simp only[RS.puts,zm7] at hr' ⊢
 obtain ⟨u1,i,v1,h1,h2,rfl⟩:=zmR hr'
 obtain ⟨rfl,hi⟩:=yX h1
 have hT:=hS.ty t i hi
 simp only[RS.puts,zm7,zcd] at h2 ⊢
 obtain ⟨u0,el,v0,h0e,h2e,rfl⟩:=zmR h2
 have hu0:u0=[]:=zii h0e
 subst hu0
 simp only[RS.puts,zm7] at h2e ⊢
 obtain ⟨u2,r,v2,h3,h4,rfl⟩:=zmR h2e
 obtain ⟨G1,f1,p1,r1,hv⟩:=zlq hS h h3
 have WN:=zlp hS h h3
 rw[RS.puts_append]
 generalize hs1:s.puts u2=s1 at *
 obtain ⟨u9,as0,v9,h05,h06,rfl⟩:=zmR h4
 obtain ⟨rfl,rfl,hsize⟩:=J6 h05
 simp only[RS.puts,zm7] at h06 ⊢
 obtain ⟨u3,_,v3,h5,h6,rfl⟩:=zmR h06
 obtain ⟨rfl,hok⟩:=z5 h5
 have hn:=And.intro hsize hok
 obtain ⟨hsz,hc⟩:=Xb hv hn.2
 have hsz':(a.eval y).cells.size=i.size:=hsz.trans hn.1
 have hone:∀ z∈(a.eval y).cells.toList,z.oneCell' = true:=fun z hz=>by
  obtain ⟨j,hj,rfl⟩:=List.getElem_of_mem hz
  have hj':j<(z9 r).length:=by rw[←hsz];simpa using hj
  exact (hc j (z9 r)[j] _ (List.getElem?_eq_getElem hj') (by simp at hj;simp[hj])).one
 simp only[RS.puts,zm7] at h6 ⊢
 cases x with
 |const c=>exact (zr h6).elim
 |global c=>exact (zr h6).elim
 |func c=>exact (zr h6).elim
 |tmp q=>
  simp only at h6
  obtain ⟨u4,g,v4,h7,h8,rfl⟩:=zmR h6
  obtain ⟨rfl,rfl⟩:=yS h7
  simp only[RS.puts,zm7] at h8 ⊢
  split at h8
  ·rename_i hq
   split at h8
   ·rename_i l off ha
    have hvq:=r1.sl q
    rw[ha] at hvq
    obtain ⟨b,hb,hx⟩:∃ b,G1.ph l=some b/\a.eval (.tmp q)=.pointer (some ⟨b,off,none⟩):=hvq
    obtain ⟨u5,c,v5,h9,h10,rfl⟩:=zmR h8
    obtain ⟨rfl,rfl⟩:=vD h9
    simp only[RS.puts,zm7] at h10 ⊢
    obtain ⟨u6,old,v6,h11,h12,rfl⟩:=zmR h10
    obtain ⟨rfl,hl⟩:=zE h11
    simp only[RS.puts,zm7] at h12 ⊢
    obtain ⟨u7,_,v7,h13,h14,rfl⟩:=zmR h12
    obtain ⟨rfl,hn2⟩:=z5 h13
    simp only[zm8,decide_eq_true_eq] at hn2
    simp only[RS.puts,zm7] at h14 ⊢
    obtain ⟨u8,_,v8,h15,h16,rfl⟩:=zmR h14
    obtain ⟨rfl,rfl⟩:=run_pure h16
    rw[List.append_nil]
    obtain ⟨g1,g2,g3,g4,g5⟩:=zkb (z9 r) l off h15 hl (by rw[hn.1];exact hn2.1)
    obtain ⟨hkb,T,cur,hb2,hcs,hcell⟩:=r1.bx l old hl b hb
    have hrun:=zbX (w:=w) hT hb2 hsz' (off:=off) (by rw[hcs];exact hn2.1) hone
    rw[←hx] at hrun
    refine OpOk.skip (zbY ho hrun) ⟨rfl,?_⟩
    rw[hdn]
    generalize hrow:(cur.toList.take off++(a.eval y).cells.toList++cur.toList.drop (off+(a.eval y).cells.toList.length)).toArray=row
    have hlen:row.size=old.length:=by
     subst hrow
     simp only[List.size_toArray,List.length_append,List.length_take,List.length_drop,Array.length_toList]
     omega
    let G2:Gh:=⟨G1.g,G1.ph,fun b=>match G1.ka b with|some (.hand j)=>some (.c l (off+j))|q=>q⟩
    have hka:∀ b k,G1.ka b=some k->¬xl k->G2.ka b=some k:=by
     intro b k hb hk
     show (match G1.ka b with|some (.hand j)=>some (Hd.c l (off+j))|q=>q)=some k
     rw[hb]
     cases k<;>first|rfl|exact absurd trivial hk
    have hhand:∀ b j,G1.ka b=some (.hand j)->G2.ka b=some (.c l (off+j)):=by
     intro b j hb
     show (match G1.ka b with|some (.hand j)=>some (Hd.c l (off+j))|q=>q)=_
     rw[hb]
    have hother:∀ b' k,G1.ka b' = some k->k≠.box l->(w.setRow b row).heap[b']? = w.heap[b']?:=fun b' k hb' hk=>setRow_other w b b' row (fun e=>by subst e;rw[hkb] at hb';exact hk (Option.some.inj hb').symm)
    let Y:Hd->Prop:=fun k=>k=.box l∨(∃ o,k=.c l o)∨xl k
    have fY:Fr G1 w G2 (w.setRow b row) (fun k=>k=.box l∨xl k):=⟨fun _ _ h=>h,fun _ _ h=>h,fun b' k hb' hk=>⟨hka b' k hb' (fun h=>hk (.inr h)),hother b' k hb' (fun h=>hk (.inl h))⟩,
     ⟨fun h=>by rcases h with h|h<;>first|cases h|exact h,fun h=>by rcases h with h|h<;>first|cases h|exact h⟩,rfl,rfl,rfl,by simp[World.setRow]⟩
    have wo:WOk P E G2 (w.setRow b row):=r1.wo.fr fY (fun b' cc hcc=>by
      obtain ⟨k1,T',fr,k2⟩:=r1.wo.imm b' cc hcc
      exact ⟨hka b' _ k1 id,T',fr,(hother b' _ k1 (by simp)).trans k2⟩) (fun b' k hb' => by
      have:∃ k',G1.ka b' = some k':=by
       cases hg:G1.ka b' with
       |none=>
        have:G2.ka b' = none:=by
         show (match G1.ka b' with|some (.hand j)=>some (Hd.c l (off+j))|q=>q)=none
         rw[hg]
        rw[this] at hb';cases hb'
       |some k' => exact ⟨k',rfl⟩
      obtain ⟨k',hk'⟩:=this
      have:=r1.wo.dom b' k' hk'
      simpa[World.setRow] using this)
    have hY:Rel P E G2 (s1.puts u8) a (w.setRow b row):=by
     refine r1.boxw (X:=Y) (fY.weaken (fun k hk=>by rcases hk with hk|hk<;>first|exact .inl hk|exact .inr (.inr hk)) ⟨fun h=>by rcases h with h|⟨o,h⟩|h<;>first|cases h|exact h,fun h=>by rcases h with h|⟨o,h⟩|h<;>first|cases h|exact h⟩) wo (fun _ _ h=>h) l (fun k hk=>hk) g1 g2 (fun cs2 b2 hcs2 hb2' => ?_) (.inl g4) g5
     rw[g3] at hcs2
     cases hcs2
     have hb2'':b2=b:=by have:G1.ph l=some b2:=hb2';rw[hb] at this;exact (Option.some.inj this).symm
     subst hb2''
     refine ⟨hka b2 _ hkb id,T,row,setRow_heap w b2 cur row T (0,0) hb2,by rw[hlen];simp[yP];omega,fun o' z u hz hu=>?_⟩
     have hu':(cur.toList.take off++(a.eval y).cells.toList++cur.toList.drop (off+(a.eval y).cells.toList.length))[o']? = some u:=by
      rw[←hrow] at hu;simpa using hu
     have hlc:(a.eval y).cells.toList.length=(z9 r).length:=by simpa using hsz
     unfold yP at hz
     have ht1:(old.take off).length=off:=by simp;omega
     have ht2:(cur.toList.take off).length=off:=by simp;omega
     by_cases ho1:o'<off
     ·rw[List.append_assoc,List.getElem?_append_left (by rw[ht1];exact ho1),List.getElem?_take,if_pos ho1] at hz
      rw[List.append_assoc,List.getElem?_append_left (by rw[ht2];exact ho1),List.getElem?_take,if_pos ho1] at hu'
      exact (hcell o' z u hz (by simpa using hu')).fr fY (fun h=>by rcases h with h|h<;>first|cases h|exact h)
     ·by_cases ho2:o'<off+(z9 r).length
      ·rw[List.append_assoc,List.getElem?_append_right (by rw[ht1];omega),List.getElem?_append_left (by rw[ht1];omega),ht1] at hz
       rw[List.append_assoc,List.getElem?_append_right (by rw[ht2];omega),List.getElem?_append_left (by rw[ht2,hlc];omega),ht2] at hu'
       have:=(hc (o'-off) z u hz (by simpa using hu')).move fY (h':=.c l (off+(o'-off))) (fun b3 hb3=>⟨hhand b3 _ hb3,hother b3 _ hb3 (by simp)⟩)
       rwa [show off+(o'-off)=o' by omega] at this
      ·rw[List.getElem?_append_right (by simp;omega)] at hz hu'
       simp only[List.length_append,ht1,ht2,List.getElem?_drop] at hz hu'
       rw[show off+(z9 r).length+(o'-(off+(z9 r).length))=o' by omega] at hz
       rw[hlc,show off+(z9 r).length+(o'-(off+(z9 r).length))=o' by omega] at hu'
       exact (hcell o' z u hz (by simpa using hu')).fr fY (fun h=>by rcases h with h|h<;>first|cases h|exact h)
    exact ⟨G2,(f1.weaken xn X0_old).trans (fY.weaken (fun k hk=>by
     rcases hk with hk|hk
     ·subst hk;exact ⟨by simp,by simp⟩
     ·cases k<;>first|exact hk.elim|exact ⟨by simp,by simp⟩) X0_old),fun l' b' _ _ hb' => p1▸hb',hY⟩
   ·exact (zr h8).elim
  ·rename_i v sz j off hq
   exact zla hS h f1 p1 r1 hT ho hdn hq hsz' hone hc hn h8
  ·exact (zr h8).elim
end
end Go.Proofs.YtjbjeeoifhegfaaGreatDoor.E
