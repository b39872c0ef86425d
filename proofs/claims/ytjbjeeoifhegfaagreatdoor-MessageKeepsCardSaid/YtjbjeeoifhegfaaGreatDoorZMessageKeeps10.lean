/- A part of the proof of the law MessageKeeps, as its statement says it: for every input; its conditions are the statement's own. -/
import Derived.Test.YtjbjeeoifhegfaaGreatDoorZMessageKeeps1
import Derived.Test.YtjbjeeoifhegfaaGreatDoorZMessageKeeps2
import Derived.Test.YtjbjeeoifhegfaaGreatDoorZMessageKeeps3
import Derived.Test.YtjbjeeoifhegfaaGreatDoorZMessageKeeps4
import Derived.Test.YtjbjeeoifhegfaaGreatDoorZMessageKeeps5
import Derived.Test.YtjbjeeoifhegfaaGreatDoorZMessageKeeps6
import Derived.Test.YtjbjeeoifhegfaaGreatDoorZMessageKeeps7
import Derived.Test.YtjbjeeoifhegfaaGreatDoorZMessageKeeps8
import Derived.Test.YtjbjeeoifhegfaaGreatDoorZMessageKeeps9
set_option linter.unusedVariables false
set_option linter.unusedSimpArgs false
open List renaming getElem?_eq_getElem->zmS
open List renaming length_map->zmU
open List renaming mem_cons_of_mem->zmV
open List renaming mem_cons_self->zmW
open Int renaming toNat_natCast->zmX
open List renaming length_replicate->zmZ
open List renaming length_take->zm0
open List renaming getElem?_cons_zero->zm2
open List renaming getElem?_cons_succ->zm3
open Option renaming bind_some->zm4
open List renaming length_append->zm5
open List renaming length_cons->zm6
open List renaming nil_append->zm7
namespace Go.Proofs.YtjbjeeoifhegfaaGreatDoor.E
def inB (l:List (List Int)) (s a n:Int):Prop:=0<=s/\s<(l.length:Int)/\0<=a/\0<=n/\a+n<=((yz l s).length:Int)
instance (l:List (List Int)) (s a n:Int):Decidable (inB l s a n):=by unfold inB;infer_instance
theorem XZ {l:List (List Int)} (h:zF l) (s a n:Int) :
  ev 286 [.pv (.sl 1 (zG l)),.pv (.v (.int .i64 s)),.pv (.v (.int .i64 a)),.pv (.v (.int .i64 n))] []=some (.ret (.pv (.v (.bool (decide (inB l s a n))))),[]):=by
 have hw:=(QX h s).1
 rw[zff]
 simp only[yw,W6]
 by_cases h1:0<=s/\s<(l.length:Int)
 ·rw[if_pos h1.1,if_pos h1.2]
  simp only[XL h1.1 h1.2,h1.1,h1.2,decide_true,Bool.and_self,cond_true,zm4,Zb,zm2,yx,yj]
  by_cases h2:0<=a/\0<=n/\a<=((yz l s).length:Int)
  ·rw[if_pos h2.1,if_pos h2.2.1,if_pos h2.2.2,ze (by omega)]
   rw[show decide (n<=((yz l s).length:Int)-a)=decide (inB l s a n) from decide_eq_decide.2 (by unfold inB;omega)]
  ·rw[show decide (inB l s a n)=false from decide_eq_false (by unfold inB;omega)]
   repeat' split
   all_goals first
    |rfl
    |(exfalso;omega)
 ·rw[show decide (inB l s a n)=false from decide_eq_false (by unfold inB;omega)]
  repeat' split
  all_goals first
   |rfl
   |(exfalso;omega)
theorem zdE {l:List (List Int)} (h:zF l) (s a:Int) :
  ev 278 [.pv (.sl 1 (zG l)),.pv (.v (.int .i64 s)),.pv (.v (.int .i64 a))] [] =
   some (.ret (.pv (.tup (if inB l s a 1 then [.v (.int .u64 (rd (yz l s) a)),.v (.bool true)] else [.v (.int .u64 0),.v (.bool false)]))),[]):=by
 rw[zfh,XZ h]
 by_cases hb:inB l s a 1
 ·have hb':=hb
  obtain ⟨h1,h2,h3,h4,h5⟩:=hb'
  rw[if_pos hb]
  simp[-getElem?_pos,zm2,zm3,yw,yv,yE,yD,hb,h1,h2,h3,XL h1 h2,zc9 h3 (show a<(yz l s).length by omega),show a<(yz l s).length by omega]
 ·rw[if_neg hb]
  simp[hb]
def cut (l:List (List Int)) (s a n:Int):List Int:=((yz l s).drop a.toNat).take n.toNat
theorem zgW {l:List (List Int)} {s a n:Int} (h:inB l s a n):(cut l s a n).length=n.toNat:=by
 obtain ⟨h1,h2,h3,h4,h5⟩:=h
 simp[cut];omega
theorem KM {l:List (List Int)} (h:zF l) (s a n:Int) (hn:n<=17592186044416) :
  ev 276 [.pv (.sl 1 (zG l)),.pv (.v (.int .i64 s)),.pv (.v (.int .i64 a)),.pv (.v (.int .i64 n))] [] =
   some (.ret (.pv (.tup (if inB l s a n then [.sl 1 (ws (cut l s a n)),.v (.bool true)] else [.sl 1 [],.v (.bool false)]))),[]):=by
 rw[zfg,XZ h]
 by_cases hb:inB l s a n
 ·have hb':=hb
  obtain ⟨h1,h2,h3,h4,h5⟩:=hb'
  rw[if_pos hb]
  have hr:ye n.toNat 8=true:=by simp[ye];omega
  have e:List.take n.toNat (List.drop a.toNat (ws (yz l s)))=ws (cut l s a n):=by simp[ws,cut,List.map_take,List.map_drop]
  have hle:a.toNat<=(yz l s).length:=by omega
  have hz:n.toNat-((yz l s).length-a.toNat)=0:=by omega
  simp[-getElem?_pos,zm2,zm3,yw,yv,yE,yD,hb,h1,h2,h3,h4,XL h1 h2,hr,show a<=(yz l s).length by omega,show n<=140737488355328 by omega,List.take_of_length_le,e,hz]
 ·rw[if_neg hb]
  simp[hb]
theorem vw {a:Nat} (h:a<2^64):(BitVec.ofInt 64 (a:Int)).toNat=a:=by
 simp;omega
theorem wu {n:Nat} (h:n<2^64):IntKind.wrap .u64 (n:Int)=n:=wJ ⟨Int.natCast_nonneg _,by omega⟩
theorem zfd {a:Nat} (h:a<2^64) {m:Nat} (hm:m<=64):IntKind.wrap .u64 (((BitVec.ofInt 64 (a:Int) &&& BitVec.ofInt 64 ((2^m-1:Nat):Int)).toNat:Nat):Int)=((a%2^m:Nat):Int):=by
 have hp:2^m<=2^64:=Nat.pow_le_pow_right (by decide) hm
 have hq:0<2^m:=Nat.pow_pos (by decide)
 rw[BitVec.toNat_and,vw h,vw (show 2^m-1<2^64 by omega),Nat.and_two_pow_sub_one_eq_mod]
 have:=Nat.mod_lt a hq
 exact wu (by omega)
theorem gi (m:Nat) (h1:1<=m) (h2:m<=64):ev 285 [.pv (I m)] []=ok (U ((2^m-1:Nat):Int)):=by
 rw[zmr]
 have e1:IntKind.wrap .i64 (64-(m:Int))=((64-m:Nat):Int):=by rw[ze (by omega)];omega
 rw[e1,wu (by omega)]
 have hk:2^64=2^m*2^(64-m):=by rw[←Nat.pow_add];congr 1;omega
 have hp:0<2^(64-m):=Nat.pow_pos (by decide)
 have hd:(18446744073709551615:Nat)/2^(64-m)=2^m-1:=by
  rw[show (18446744073709551615:Nat)=2^64-1 from rfl,hk,Nat.div_eq_iff hp]
  have hq:0<2^m:=Nat.pow_pos (by decide)
  constructor
  ·rw[Nat.sub_mul];omega
  ·have:(2^m-1)*2^(64-m)=2^m*2^(64-m)-2^(64-m):=by rw[Nat.sub_mul,Nat.one_mul]
   have h3:2^(64-m)<=2^m*2^(64-m):=Nat.le_mul_of_pos_left _ hq
   omega
 have hf:Int.fdiv 18446744073709551615 (2^(min ((64-m:Nat):Int).toNat 64))=((2^m-1:Nat):Int):=by
  rw[zmX,Nat.min_eq_left (by omega),Int.fdiv_eq_ediv_of_nonneg _ (Int.le_of_lt (Int.pow_pos (by decide))),←hd]
  simp only[Int.natCast_ediv,Int.natCast_pow]
  rfl
 rw[hf]
 simp[yN]
theorem zk5 (a i:Nat) (hi:i<=64):Int.fdiv (a:Int) (2^(min (i:Int).toNat 64))=((a/2^i:Nat):Int):=by
 rw[zmX,Nat.min_eq_left hi,Int.fdiv_eq_ediv_of_nonneg _ (Int.le_of_lt (Int.pow_pos (by decide)))]
 push_cast
 rfl
theorem zdr (a:Nat) (h:a<2^64) (i m:Nat) (h1:1<=m) (h2:i+m<=64):ev 245 [.pv (U a),.pv (I i),.pv (I m)] []=ok (U ((a/2^i%2^m:Nat):Int)):=by
 rw[zmm,wu (by omega),gi m h1 (by omega),zk5 a i (by omega)]
 have:=zfd (a:=a/2^i) (Nat.lt_of_le_of_lt (Nat.div_le_self _ _) h) (m:=m) (by omega)
 simp only[zl,zt,zm4,zbc,this,zk,yT,yQ]
 simp[yN]
theorem Zr {a:Int} (h:zU a) (i m:Nat) (h1:1<=m) (h2:i+m<=64):ev 245 [.pv (U a),.pv (I i),.pv (I m)] []=ok (U (a/2^i%2^m)):=by
 obtain ⟨n,rfl⟩:=Int.eq_ofNat_of_zero_le h.1
 rw[zdr n (by have:=h.2;omega) i m h1 h2]
 simp
def vG (v:Int):Int:=if 536870912<=v then v-1073741824 else v
theorem zdA {a:Int} (h:zU a):ev 342 [.pv (U a),.pv (I 2),.pv (I 30)] []=ok (I (vG (a/4%1073741824))):=by
 obtain ⟨h1,h2⟩:=h
 rw[zmp]
 rw[show IntKind.wrap .i64 ((IntKind.wrap .i64 (64-2))-30)=32 by decide,show IntKind.wrap .u64 32=32 by decide,show IntKind.wrap .u64 (IntKind.wrap .i64 (64-30))=34 by decide]
 simp only[yN]
 rw[show (min (32:Int).toNat 64)=32 by decide,show (min (34:Int).toNat 64)=34 by decide]
 have e:IntKind.wrap .i64 (IntKind.wrap .u64 (a*2^32))=vG (a/4%1073741824)*17179869184+(a%4)*4294967296:=by
  rw[Kx]
  have e2:a*2^32%18446744073709551616=(a/4%1073741824)*17179869184+(a%4)*4294967296:=by omega
  rw[e2]
  unfold vG
  simp only[IntKind.wrap,IntKind.bits,IntKind.signed]
  simp
  split<;>split<;>omega
 rw[e,Int.fdiv_eq_ediv_of_nonneg _ (by decide)]
 have e3:(vG (a/4%1073741824)*17179869184+(a%4)*4294967296)/2^34=vG (a/4%1073741824):=by omega
 rw[e3]
 rfl
abbrev PT:=Int×Int×Int×Int×Int×Int×Bool×Int×Int×Int
def yh (p:PT):List PV:=[I p.1,I p.2.1,I p.2.2.1,I p.2.2.2.1,I p.2.2.2.2.1,I p.2.2.2.2.2.1,Bo p.2.2.2.2.2.2.1,I p.2.2.2.2.2.2.2.1,yJ p.2.2.2.2.2.2.2.2.1,yJ p.2.2.2.2.2.2.2.2.2]
def zI (a:Int):PT :=
 if a%4=0 then (0,vG (a/4%1073741824),a/4294967296%65536,a/281474976710656%65536,0,0,false,0,0,0)
 else if a%4=1 then (1,vG (a/4%1073741824),0,0,a/4294967296%8,a/34359738368%536870912,false,0,0,0)
 else if a%4=2 then (2,0,0,0,0,0,a/4%2==1,a/8%536870912,a/4294967296%4294967296,0)
 else (3,0,0,0,0,0,false,0,a/4294967296%4294967296,a/4%1073741824)
theorem xF {a:Int} (h:zU a):ev 192 [.pv (U a)] []=ok (.agg (yh (zI a))):=by
 have k0:ev 245 [.pv (U a),.pv (I 0),.pv (I 2)] []=ok (U (a%4)):=by have:=Zr h 0 2 (by decide) (by decide);simpa using this
 have k1:ev 245 [.pv (U a),.pv (I 32),.pv (I 16)] []=ok (U (a/4294967296%65536)):=Zr h 32 16 (by decide) (by decide)
 have k2:ev 245 [.pv (U a),.pv (I 48),.pv (I 16)] []=ok (U (a/281474976710656%65536)):=Zr h 48 16 (by decide) (by decide)
 have k3:ev 245 [.pv (U a),.pv (I 32),.pv (I 3)] []=ok (U (a/4294967296%8)):=Zr h 32 3 (by decide) (by decide)
 have k4:ev 245 [.pv (U a),.pv (I 35),.pv (I 29)] []=ok (U (a/34359738368%536870912)):=Zr h 35 29 (by decide) (by decide)
 have k5:ev 245 [.pv (U a),.pv (I 2),.pv (I 1)] []=ok (U (a/4%2)):=Zr h 2 1 (by decide) (by decide)
 have k6:ev 245 [.pv (U a),.pv (I 3),.pv (I 29)] []=ok (U (a/8%536870912)):=Zr h 3 29 (by decide) (by decide)
 have k7:ev 245 [.pv (U a),.pv (I 32),.pv (I 32)] []=ok (U (a/4294967296%4294967296)):=Zr h 32 32 (by decide) (by decide)
 have k8:ev 245 [.pv (U a),.pv (I 2),.pv (I 30)] []=ok (U (a/4%1073741824)):=Zr h 2 30 (by decide) (by decide)
 rw[zjS,zjU,zjV,zjW,zjX,k0,k1,k2,k3,k4,k5,k6,k7,k8,zdA h]
 simp only[zl,zt,zm4,xD,zbc,zk,yT,yQ]
 rw[ze (x:=a/4294967296%65536),ze (x:=a/281474976710656%65536),ze (x:=a/4294967296%8),ze (x:=a/34359738368%536870912),ze (x:=a/8%536870912),ze (x:=a%4)]
 rw[zda,zda,show a/4294967296%4294967296%4294967296=a/4294967296%4294967296 by omega,show a/4%1073741824%4294967296=a/4%1073741824 by omega]
 unfold zI
 by_cases c0:a%4=0
 ·simp[-getElem?_pos,zm2,zm3,yw,yv,yE,yD,c0,yh]
 by_cases c1:a%4=1
 ·simp[-getElem?_pos,zm2,zm3,yw,yv,yE,yD,c1,yh]
 by_cases c2:a%4=2
 ·simp[-getElem?_pos,zm2,zm3,yw,yv,yE,yD,c2,yh]
 ·have c3:a%4=3:=by omega
  simp[-getElem?_pos,zm2,zm3,yw,yv,yE,yD,c3,yh]
theorem zjZ (n:Nat) (hn:n<=63):∀ (d j:Nat),j+d=n->VV n ((2^j:Nat):Int) j=ok (U ((2^n:Nat):Int)):=by
 intro d
 induction d with
 |zero=>
  intro j hj
  obtain rfl:j=n:=by omega
  rw[rR]
  simp
 |succ d ih=>
  intro j hj
  rw[rR]
  have h2:2^(j+1)<=2^63:=Nat.pow_le_pow_right (by decide) (by omega)
  have e:((2^j:Nat):Int)*2=((2^(j+1):Nat):Int):=by rw[Nat.pow_succ];push_cast;rfl
  rw[e,wu (by omega),ze (by omega),show (j:Int)+1=((j+1:Nat):Int) by push_cast;rfl,ih (j+1) (by omega)]
  simp only[yw]
  rw[if_pos (by omega)]
theorem zdw (n:Nat) (hn:n<=63):ev 142 [.pv (I n)] []=ok (U ((2^n:Nat):Int)):=by
 rw[zgm]
 exact zjZ n hn n 0 (by omega)
def YR (l:List (List Int)) (s a:Int):Option (Out×za):=ok (.tup (if inB l s a 1 then [U (rd (yz l s) a),Bo true] else [U 0,Bo false]))
theorem X6 {l:List (List Int)} (h:zF l) (s a:Int):ev 278 [.pv (.sl 1 (zG l)),.pv (I s),.pv (I a)] []=YR l s a:=zdE h s a
def wd (l:List (List Int)) (s a:Int):Int:=rd (yz l s) a
theorem vj {l:List (List Int)} (h:zF l) (s a:Int):zU (wd l s a):=zkm (QX h s) a
theorem Wv {a:Int} (h:zU a):(zI a).1=a%4:=by
 obtain ⟨h1,h2⟩:=h
 unfold zI
 repeat' split
 all_goals (simp;omega)
theorem V5 {a:Int} (hr:zU a) (h:a%4=2):zI a=(2,0,0,0,0,0,a/4%2==1,a/8%536870912,a/4294967296,0):=by
 obtain ⟨h1,h2⟩:=hr
 unfold zI
 rw[if_neg (by omega),if_neg (by omega),if_pos h,Int.emod_eq_of_lt (a:=a/4294967296) (by omega) (by omega)]
def YM (l:List (List Int)) (a:Int):Int×Int×Int×Int :=
 if inB l (a/4294967296) (a/8%536870912) 1 then (if wd l (a/4294967296) (a/8%536870912)%4=2 then (0,0,0,3) else (wd l (a/4294967296) (a/8%536870912),a/4294967296,a/8%536870912+1,0)) else (0,0,0,2)
def Yx (l:List (List Int)) (a:Int):Int×Int×Int×Int :=
 if inB l (a/4294967296) (a/8%536870912) 2 then
  (if wd l (a/4294967296) (a/8%536870912)%4=2/\wd l (a/4294967296) (a/8%536870912)/4%2=0/\wd l (a/4294967296) (a/8%536870912+1)%4<=1/\(zI (wd l (a/4294967296) (a/8%536870912+1))).2.1=0
   then (wd l (a/4294967296) (a/8%536870912+1),wd l (a/4294967296) (a/8%536870912)/4294967296,wd l (a/4294967296) (a/8%536870912)/8%536870912,0) else (0,0,0,3)) else (0,0,0,2)
def zV (l:List (List Int)) (s a:Int):Int×Int×Int×Int :=
 if inB l s a 1 then (if wd l s a%4=2 then (if wd l s a/4%2=1 then Yx l (wd l s a) else YM l (wd l s a)) else (wd l s a,s,a+1,0)) else (0,0,0,2)
def WG (t:Int×Int×Int×Int):List PV:=[U t.1,I t.2.1,I t.2.2.1,I t.2.2.2]
def XD (t:Int×Int×Int×Int):List PV:=[.agg [U t.1,I t.2.1,I t.2.2.1],I t.2.2.2]
theorem Vx {a:Int} (h:zU a):ev 279 [.pv (U a)] []=ok (Bo (a%4==2)):=by
 rw[zhF,xF h]
 simp[-getElem?_pos,zm2,zm3,yw,yv,yE,yD,yh,Wv h]
theorem uQ {a:Int} (h:zU a) (hf:a%4=2):ev 297 [.pv (U a)] []=ok (.tup [I (a/4294967296),I (a/8%536870912)]):=by
 rw[zhG,xF h,V5 h hf]
 obtain ⟨h1,h2⟩:=h
 simp[-getElem?_pos,zm2,zm3,yw,yv,yE,yD,yh,ze (x:=a/4294967296)]
theorem zed {l:List (List Int)} (hl:zF l) {a:Int} (h:zU a) (hf:a%4=2):ev 280 [.pv (.sl 1 (zG l)),.pv (U a)] []=ok (.tup (XD (YM l a))):=by
 rw[zhI,uQ h hf]
 have hw:=vj hl (a/4294967296) (a/8%536870912)
 have hx:=Vx hw
 unfold wd at hx
 unfold YM XD
 by_cases hb:inB l (a/4294967296) (a/8%536870912) 1
 ·by_cases hc:wd l (a/4294967296) (a/8%536870912)%4=2
  ·unfold wd at hc
   simp[-getElem?_pos,zm2,zm3,yw,yv,yE,yD,X6 hl,YR,hb,hx,hc,wd]
  ·unfold wd at hc
   simp[-getElem?_pos,zm2,zm3,yw,yv,yE,yD,X6 hl,YR,hb,hx,hc,wd,ze (x:=a/8%536870912+1)]
 ·simp[-getElem?_pos,zm2,zm3,yw,yv,yE,yD,X6 hl,YR,hb]
theorem zlH (L:List Int) (n:Nat) (h:n+2<=L.length):(L.drop n).take 2=[L.getD n 0,L.getD (n+1) 0]:=by
 rw[List.drop_eq_getElem_cons (by omega),List.drop_eq_getElem_cons (i:=n+1) (by omega),List.getD_eq_getElem?_getD,List.getD_eq_getElem?_getD,zmS (by omega),zmS (by omega)]
 rfl
theorem zgX {l:List (List Int)} {s a:Int} (h:inB l s a 2):cut l s a 2=[wd l s a,wd l s (a+1)]:=by
 obtain ⟨h1,h2,h3,h4,h5⟩:=h
 unfold cut wd rd
 rw[show (2:Int).toNat=2 from rfl,zlH _ _ (by omega),show (a+1).toNat=a.toNat+1 by omega]
theorem zdR {l:List (List Int)} (hl:zF l) {a:Int} (h:zU a) (hf:a%4=2):ev 281 [.pv (.sl 1 (zG l)),.pv (U a)] []=ok (.tup (XD (Yx l a))):=by
 rw[zhH,uQ h hf]
 unfold Yx XD
 by_cases hb:inB l (a/4294967296) (a/8%536870912) 2
 case neg=>simp[-getElem?_pos,zm2,zm3,yw,yv,yE,yD,KM hl,hb]
 have h1:=vj hl (a/4294967296) (a/8%536870912)
 have h2:=vj hl (a/4294967296) (a/8%536870912+1)
 simp only[zl,zt,zm4,ZD,zm2,zm3,KM hl _ _ 2 (by decide),hb,if_true,zgX hb,zk,yT,yQ,z6]
 generalize wd l (a/4294967296) (a/8%536870912)=y at h1
 generalize wd l (a/4294967296) (a/8%536870912+1)=z at h2
 have k1:=Wv h1
 have k2:=Wv h2
 by_cases c1:y%4=2
 case neg=>simp[-getElem?_pos,zm2,zm3,yw,yv,yE,yD,ws,xF h1,xF h2,yh,k1,c1]
 have k3:=V5 h1 c1
 by_cases c2:y/4%2=1
 case pos=>simp[-getElem?_pos,zm2,zm3,yw,yv,yE,yD,ws,xF h1,xF h2,yh,k3,c1,c2]
 by_cases c3:z%4<=1
 case neg=>simp[-getElem?_pos,zm2,zm3,yw,yv,yE,yD,ws,xF h1,xF h2,yh,k2,k3,c1,c2,c3,show 1<z%4 by omega]
 by_cases c4:(zI z).2.1=0
 case neg=>simp[-getElem?_pos,zm2,zm3,yw,yv,yE,yD,ws,xF h1,xF h2,yh,k2,k3,c1,c2,c3,c4,show ¬1<z%4 by omega]
 obtain ⟨g1,g2⟩:=h1
 simp[-getElem?_pos,zm2,zm3,yw,yv,yE,yD,ws,xF ⟨g1,g2⟩,xF h2,yh,k2,k3,c1,c2,c3,c4,show ¬1<z%4 by omega,show y/4%2=0 by omega,ze (x:=y/4294967296)]
theorem KH {l:List (List Int)} (hl:zF l) (s a:Int):ev 240 [.pv (.sl 1 (zG l)),.pv (I s),.pv (I a)] []=ok (.tup (WG (zV l s a))):=by
 rw[zhE,X6 hl]
 unfold zV WG
 by_cases hb:inB l s a 1
 case neg=>simp[-getElem?_pos,zm2,zm3,yw,yv,yE,yD,YR,hb]
 have h0:=vj hl s a
 have hlen:=(QX hl s).1
 have ha:a+1<=9223372036854775807/\0<=a:=by have:=hb.2.2;omega
 simp only[YR,hb,if_true,zl,zt,zm4,ZD,zm2,zm3,y4,show rd (yz l s) a=wd l s a from rfl,zk,yT,yQ,z6]
 by_cases hf:wd l s a%4=2
 case neg=>simp[-getElem?_pos,zm2,zm3,yw,yv,yE,yD,Vx h0,hf,ze (x:=a+1),xd]
 generalize wd l s a=x at h0 hf
 by_cases h4:x/4%2=1
 ·simp only[hf,h4,if_true,Vx h0,xF h0,zdR hl h0 hf]
  unfold Yx
  repeat' split
  all_goals (simp[-getElem?_pos,zm2,zm3,yw,yv,yE,yD,yh,V5 h0 hf,XD,hf,h4,xd];try (split<;>rfl))
 ·simp only[hf,h4,if_true,if_false,Vx h0,xF h0,zed hl h0 hf]
  unfold YM
  repeat' split
  all_goals (simp[-getElem?_pos,zm2,zm3,yw,yv,yE,yD,yh,V5 h0 hf,XD,hf,h4,xd];try (split<;>rfl))
structure Ob where
 kind:Int
 seg:Int
 at_:Int
 data:Int
 ptrs:Int
 elem:Int
 n:Int
 cost:Int
 deriving DecidableEq
def Ob.c (o:Ob):List PV:=[I o.kind,I o.seg,I o.at_,I o.data,I o.ptrs,I o.elem,I o.n,I o.cost]
def wE:Ob:=⟨0,0,0,0,0,0,0,0⟩
def xL (t:Ob×Int):List PV:=[.agg t.1.c,I t.2]
def bitsOf (e:Int):Int:=if e=1 then 1 else if e=2 then 8 else if e=3 then 16 else if e=4 then 32 else if e=5 then 64 else if e=6 then 64 else 0
theorem zfr (e:Int):0<=bitsOf e/\bitsOf e<=64:=by
 unfold bitsOf
 repeat' split
 all_goals omega
def zs (e c:Int):Int:=if e=7 then c+1 else (bitsOf e*c+63)/64
theorem Y6 {e c:Int} (hc:0<=c/\c<=536870911):0<=bitsOf e*c/\bitsOf e*c<=64*536870911:=by
 have hb:=zfr e
 exact ⟨Int.mul_nonneg hb.1 hc.1,Int.mul_le_mul hb.2 hc.2 hc.1 (by omega)⟩
theorem Yj {e c:Int} (hc:0<=c/\c<=536870911):0<=zs e c/\zs e c<=536870912:=by
 have h:=Y6 (e:=e) hc
 unfold zs
 split<;>omega
theorem gX {e:Int} (he:0<=e/\e<=7):([I 0,I 1,I 8,I 16,I 32,I 64,I 64,I 0]:List PV)[e.toNat]? = some (I (bitsOf e)):=by
 obtain ⟨h1,h2⟩:=he
 have:e=0∨e=1∨e=2∨e=3∨e=4∨e=5∨e=6∨e=7:=by omega
 rcases this with rfl|rfl|rfl|rfl|rfl|rfl|rfl|rfl<;>rfl
theorem KN {e c:Int} (he:0<=e/\e<=7) (hc:0<=c/\c<=536870911):ev 221 [.pv (I e),.pv (I c)] []=ok (I (zs e c)):=by
 have h:=Y6 (e:=e) hc
 rw[ziF]
 unfold zs
 by_cases h7:e=7
 ·simp[-getElem?_pos,zm2,zm3,yw,yv,yE,yD,h7,ze (x:=c+1)]
 ·have hb:=gX he
  simp only[I] at hb
  rw[show (0+e.toNat*1)=e.toNat by omega]
  simp only[hb,zaO]
  rw[if_neg h7]
  simp[-getElem?_pos,zm2,zm3,yw,yv,yE,yD,h7,he.1,show e<8 by omega,yN,ze (x:=bitsOf e*c),ze (x:=bitsOf e*c+64),ze (x:=bitsOf e*c+64-1)]
  rw[Int.tdiv_eq_ediv_of_nonneg (by omega),ze (by omega),show bitsOf e*c+64-1=bitsOf e*c+63 by omega]
def bad (e:Int):Ob×Int:=(wE,e)
def vv (l:List (List Int)) (s st d q:Int):Ob×Int:=if inB l s st (d+q) then (⟨1,s,st,d,q,0,0,d+q⟩,0) else bad 2
def wF (l:List (List Int)) (s st c:Int):Ob×Int :=
 if inB l s st (c+1) then
  (if (zI (wd l s st)).1=0/\0<=(zI (wd l s st)).2.1/\(zI (wd l s st)).2.1*((zI (wd l s st)).2.2.1+(zI (wd l s st)).2.2.2.1)<=c then (⟨2,s,st+1,(zI (wd l s st)).2.2.1,(zI (wd l s st)).2.2.2.1,7,(zI (wd l s st)).2.1,c+1+(if (zI (wd l s st)).2.2.1+(zI (wd l s st)).2.2.2.1=0 then (zI (wd l s st)).2.1 else 0)⟩,0) else bad 5) else bad 2
def vt (l:List (List Int)) (s st e c:Int):Ob×Int:=if e=7 then wF l s st c else if inB l s st (zs e c) then (⟨2,s,st,0,0,e,c,zs e c⟩,0) else bad 2
def vu (l:List (List Int)) (s b:Int) (p:PT):Ob×Int :=
 if p.1=0 then vv l s (b+p.2.1) p.2.2.1 p.2.2.2.1 else if p.1=1 then vt l s (b+p.2.1) p.2.2.2.2.1 p.2.2.2.2.2.1 else if p.2.2.2.2.2.2.2.2.2=0 then bad 6 else bad 4
def yn (l:List (List Int)) (s a:Int):Ob×Int :=
 if (zV l s a).2.2.2=0 then (if (zV l s a).1=0 then bad 0 else vu l (zV l s a).2.1 (zV l s a).2.2.1 (zI (zV l s a).1)) else bad (zV l s a).2.2.2
theorem ZX {x:Int} (h:zU x):-536870912<=(zI x).2.1/\(zI x).2.1<=536870911/\0<=(zI x).2.2.1/\(zI x).2.2.1<=65535/\0<=(zI x).2.2.2.1/\(zI x).2.2.2.1<=65535/\0<=(zI x).2.2.2.2.1/\(zI x).2.2.2.2.1<=7/\0<=(zI x).2.2.2.2.2.1/\(zI x).2.2.2.2.2.1<=536870911/\0<=(zI x).1/\(zI x).1<=3:=by
 obtain ⟨h1,h2⟩:=h
 unfold zI vG
 repeat' split
 all_goals (simp only[];try split)
 all_goals (simp;try omega)
def Sm (l:List (List Int)):Prop:=∀ s,((yz l s).length:Int)<=1099511627776
theorem zhR {l:List (List Int)} (hl:zF l) (hs:Sm l) (s a:Int) (h:(zV l s a).2.2.2=0):0<=(zV l s a).2.2.1/\(zV l s a).2.2.1<=1099511627777:=by
 obtain ⟨h0,h0'⟩:=vj hl s a
 have hs':=hs s
 unfold zV at h ⊢
 by_cases hb:inB l s a 1
 case neg=>rw[if_neg hb] at h;simp at h
 rw[if_pos hb] at h ⊢
 by_cases hf:wd l s a%4=2
 case neg=>
  rw[if_neg hf] at h ⊢
  unfold inB at hb
  simp only
  omega
 rw[if_pos hf] at h ⊢
 generalize wd l s a=x at *
 by_cases h4:x/4%2=1
 ·rw[if_pos h4] at h ⊢
  unfold Yx at h ⊢
  by_cases c1:inB l (x/4294967296) (x/8%536870912) 2
  case neg=>rw[if_neg c1] at h;simp at h
  rw[if_pos c1] at h ⊢
  split at h
  ·rename_i c2
   rw[if_pos c2]
   simp only
   omega
  ·simp at h
 ·rw[if_neg h4] at h ⊢
  unfold YM at h ⊢
  by_cases c1:inB l (x/4294967296) (x/8%536870912) 1
  case neg=>rw[if_neg c1] at h;simp at h
  rw[if_pos c1] at h ⊢
  split at h
  ·simp at h
  ·rename_i c2
   rw[if_neg c2]
   simp only
   omega
theorem Qn {l:List (List Int)} (hl:zF l) (s a:Int):zU (zV l s a).1:=by
 have w0:zU 0:=⟨by decide,by decide⟩
 unfold zV
 split
 ·split
  ·split
   ·unfold Yx
    split
    ·split
     ·exact vj hl _ _
     ·exact w0
    ·exact w0
   ·unfold YM
    split
    ·split
     ·exact w0
     ·exact vj hl _ _
    ·exact w0
  ·exact vj hl _ _
 ·exact w0
theorem gA {l:List (List Int)} (hl:zF l) (o:Ob) (st n:Int):ev 282 [.pv (.sl 1 (zG l)),.pv (.agg o.c),.pv (I st),.pv (I n)] []=ok (.tup (xL (if inB l o.seg st n then (o,0) else bad 2))):=by
 rw[Ob.c,zkx,XZ hl]
 split<;>simp[-getElem?_pos,zm2,zm3,yw,yv,yE,yD, *,xL,Ob.c,bad,wE]
theorem zef {l:List (List Int)} (hl:zF l) (p:PT) (s st:Int) (hp:0<=p.2.2.1/\p.2.2.1<=65535/\0<=p.2.2.2.1/\p.2.2.2.1<=65535):ev 241 [.pv (.sl 1 (zG l)),.pv (.agg (yh p)),.pv (I s),.pv (I st)] []=ok (.tup (xL (vv l s st p.2.2.1 p.2.2.2.1))):=by
 rw[yh,zkw,ze (x:=p.2.2.1+p.2.2.2.1)]
 have:=gA hl ⟨1,s,st,p.2.2.1,p.2.2.2.1,0,0,p.2.2.1+p.2.2.2.1⟩ st (p.2.2.1+p.2.2.2.1)
 simp only[Ob.c] at this
 rw[this]
 unfold vv
 split<;>simp[-getElem?_pos,zm2,zm3,yw,yv,yE,yD,xL,Ob.c,bad,wE]
theorem zif {l:List (List Int)} {s st n:Int} (h:inB l s st n) (hn:1<=n):inB l s st 1:=by unfold inB at h ⊢;omega
theorem Kd {o n:Int} (ho:0<=o/\o<=536870911) (hn:0<=n/\n<=131070):0<=o*n/\o*n<=536870911*131070:=⟨Int.mul_nonneg ho.1 hn.1,Int.mul_le_mul ho.2 hn.2 hn.1 (by omega)⟩
theorem zdN {l:List (List Int)} (hl:zF l) (hs:Sm l) (p:PT) (s st:Int) (hc:0<=p.2.2.2.2.2.1/\p.2.2.2.2.2.1<=536870911):ev 283 [.pv (.sl 1 (zG l)),.pv (.agg (yh p)),.pv (I s),.pv (I st)] []=ok (.tup (xL (wF l s st p.2.2.2.2.2.1))):=by
 have hs':=hs s
 rw[yh,zkt]
 generalize p.2.2.2.2.2.1=c at hc
 unfold wF
 rw[ze (x:=c+1),XZ hl]
 by_cases hb:inB l s st (c+1)
 case neg=>simp[-getElem?_pos,zm2,zm3,yw,yv,yE,yD,hb,xL,bad,wE,Ob.c]
 have hst:0<=st/\st<=1099511627776:=by unfold inB at hb;omega
 have hw:ev 278 [.pv (.sl 1 (zG l)),.pv (I s),.pv (I st)] []=ok (.tup [U (wd l s st),Bo true]):=by
  rw[X6 hl,YR,if_pos (zif hb (by omega))]
  rfl
 have h0:=vj hl s st
 have hd:=ZX h0
 rw[hw]
 simp only[hb,decide_true,Bool.not_true,cond_false,zl,zt,zm4,y4,ZD,zm2,zm3,xF h0,if_true,zk,yT,yQ,z6]
 generalize zI (wd l s st)=q at hd
 obtain ⟨k,o,d,m,e,c',b,pd,sg,lo⟩:=q
 simp only at hd ⊢
 by_cases hk:k=0
 case neg=>simp[-getElem?_pos,zm2,zm3,yw,yv,yE,yD,hk,yh,xL,bad,wE,Ob.c]
 by_cases ho:o<0
 case pos=>simp[-getElem?_pos,zm2,zm3,yw,yv,yE,yD,hk,ho,yh,xL,bad,wE,Ob.c,show ¬0<=o by omega]
 have hm:=Kd (o:=o) (n:=d+m) (by omega) (by omega)
 by_cases hg:o*(d+m)<=c
 case neg=>simp[-getElem?_pos,zm2,zm3,yw,yv,yE,yD,hk,ho,yh,xL,bad,wE,Ob.c,hg,ze (x:=d+m),ze (x:=o*(d+m)),show c<o*(d+m) by omega]
 by_cases hz:d+m=0
 ·simp[-getElem?_pos,zm2,zm3,yw,yv,yE,yD,hk,ho,yh,xL,bad,wE,Ob.c,hg,ze (x:=d+m),ze (x:=o*(d+m)),show ¬c<o*(d+m) by omega,show 0<=o by omega,hz,ze (x:=0),show ¬c<0 by omega,hc.1,ze (x:=st+1),ze (x:=c+1+o)]
 ·simp[-getElem?_pos,zm2,zm3,yw,yv,yE,yD,hk,ho,yh,xL,bad,wE,Ob.c,hg,ze (x:=d+m),ze (x:=o*(d+m)),show ¬c<o*(d+m) by omega,show 0<=o by omega,hz,ze (x:=st+1)]
theorem zdW {l:List (List Int)} (hl:zF l) (hs:Sm l) (p:PT) (s st:Int) (he:0<=p.2.2.2.2.1/\p.2.2.2.2.1<=7) (hc:0<=p.2.2.2.2.2.1/\p.2.2.2.2.2.1<=536870911):ev 242 [.pv (.sl 1 (zG l)),.pv (.agg (yh p)),.pv (I s),.pv (I st)] []=ok (.tup (xL (vt l s st p.2.2.2.2.1 p.2.2.2.2.2.1))):=by
 have hco:=zdN hl hs p s st hc
 rw[yh,zku,KN he hc]
 have hco':=hco
 rw[yh] at hco'
 unfold vt
 by_cases h7:p.2.2.2.2.1=7
 ·simp only[yv,if_pos h7]
  rw[hco']
  simp[-getElem?_pos,zm2,zm3,yw,yv,yE,yD,xL,Ob.c]
 ·have:=gA hl ⟨2,s,st,0,0,p.2.2.2.2.1,p.2.2.2.2.2.1,zs p.2.2.2.2.1 p.2.2.2.2.2.1⟩ st (zs p.2.2.2.2.1 p.2.2.2.2.2.1)
  simp only[Ob.c] at this
  simp only[yv,if_neg h7]
  simp only[zl,zt,zm4,yF,Bool.and_self,cond_true,this,zk,yT,yQ]
  split<;>simp[-getElem?_pos,zm2,zm3,yw,yv,yE,yD,xL,Ob.c,bad,wE]
theorem zd1 {l:List (List Int)} (p:PT) (s st:Int) (h3:p.1=3):ev 243 [.pv (.sl 1 (zG l)),.pv (.agg (yh p)),.pv (I s),.pv (I st)] []=ok (.tup (xL (if p.2.2.2.2.2.2.2.2.2=0 then bad 6 else bad 4))):=by
 rw[yh,zkv,zjT]
 by_cases h:p.2.2.2.2.2.2.2.2.2=0
 ·simp[-getElem?_pos,zm2,zm3,yw,yv,yE,yD,h3,h,xL,bad,wE,Ob.c]
 ·simp[-getElem?_pos,zm2,zm3,yw,yv,yE,yD,h3,h,xL,bad,wE,Ob.c]
theorem zhS {l:List (List Int)} (hl:zF l) (s a:Int) (h:(zV l s a).2.2.2=0):(zV l s a).1%4≠2:=by
 unfold zV at h ⊢
 split at h
 case isFalse=>simp at h
 rename_i hb
 rw[if_pos hb]
 split at h
 case isFalse=>rename_i hf;rw[if_neg hf];exact hf
 rename_i hf
 rw[if_pos hf]
 split at h
 ·rename_i h4
  rw[if_pos h4]
  unfold Yx at h ⊢
  split at h
  case isFalse=>simp at h
  rename_i c1
  rw[if_pos c1]
  split at h
  case isFalse=>simp at h
  rename_i c2
  rw[if_pos c2]
  simp only
  omega
 ·rename_i h4
  rw[if_neg h4]
  unfold YM at h ⊢
  split at h
  case isFalse=>simp at h
  rename_i c1
  rw[if_pos c1]
  split at h
  case isTrue=>simp at h
  rename_i c2
  rw[if_neg c2]
  exact c2
theorem KK {l:List (List Int)} (hl:zF l) (hs:Sm l) (s a:Int):ev 184 [.pv (.sl 1 (zG l)),.pv (I s),.pv (I a)] []=ok (.tup (xL (yn l s a))):=by
 rw[zkr,KH hl]
 unfold yn
 have hb:=zhR hl hs s a
 have hw:=Qn hl s a
 have hk:=zhS hl s a
 generalize zV l s a=t at hb hw hk
 obtain ⟨w,s',b,e⟩:=t
 dsimp only at hb hw hk
 dsimp only[WG,zk,z6,zm3,zm2,zm4,z7]
 by_cases he:e=0
 case neg=>
  rw[if_neg he,bne_iff_ne.2 he]
  rfl
 subst he
 rw[if_pos rfl,show ((0:Int) != 0)=false from rfl]
 dsimp only[zu]
 rw[XE]
 dsimp only[zk,y4,zm4]
 by_cases hz:w=0
 case pos=>
  rw[if_pos hz,beq_iff_eq.2 hz]
  rfl
 have hd:=ZX hw
 have hk':=hk rfl
 have hb':=hb rfl
 rw[←Wv hw] at hk'
 rw[if_neg hz,beq_eq_false_iff_ne.2 hz]
 dsimp only[zu]
 rw[xF hw]
 generalize zI w=p at hd hk'
 have h1:=zef hl p s' (b+p.2.1) (by omega)
 have h2:=zdW hl hs p s' (b+p.2.1) (by omega) (by omega)
 have h3:=zd1 (l:=l) p s' (b+p.2.1)
 have hwp:=ze (x:=b+p.2.1)
 unfold vu
 rw[yh] at h1 h2 h3 ⊢
 dsimp only[zk,Yp,yF,zo,xD,z7,zm4,zc]
 have h4:p.1=0∨p.1=1∨p.1=3:=by omega
 rcases h4 with h|h|h
 ·rw[h] at h1 ⊢
  rw[show (decide ((0:Int)<=0)&&decide ((0:Int)<4))=true from rfl,show ((0:Int)==0)=true from rfl]
  dsimp only[zc]
  rw[hwp,h1,if_pos rfl]
  rfl
 ·rw[h] at h2 ⊢
  rw[show (decide ((0:Int)<=1)&&decide ((1:Int)<4))=true from rfl,show ((0:Int)==1)=false from rfl,show ((1:Int)==1)=true from rfl]
  dsimp only[zc,zu]
  rw[hwp,h2,if_neg (by decide),if_pos rfl]
  rfl
 ·have h3':=h3 h
  rw[h] at h3' ⊢
  rw[show (decide ((0:Int)<=3)&&decide ((3:Int)<4))=true from rfl,show ((0:Int)==3)=false from rfl,show ((1:Int)==3)=false from rfl,show ((2:Int)==3)=false from rfl,show ((3:Int)==3)=true from rfl]
  dsimp only[zc,zu]
  rw[hwp,h3',if_neg (show ¬(3:Int)=0 by decide),if_neg (show ¬(3:Int)=1 by decide)]
  split<;>rfl
theorem yL {n b:Nat} (h:n*b<=140737488355328) (h1:n<=140737488355328):ye n b=true:=by simp[ye,h,h1]
def w8 (w:Int):List Int:=(List.range 8).map fun k=>w/256^k%256
def zM (l:List Int):List Int:=l.flatMap w8
theorem wt (w:Int):(w8 w).length=8:=by simp[w8]
theorem xJ (l:List Int):(zM l).length=8*l.length:=by
 induction l with
 |nil=>rfl
 |cons w l ih=>simp only[zM,List.flatMap_cons,zm5,wt,zm6] at ih ⊢;omega
theorem vl (l:List Int):∀ b∈zM l,zj b:=by
 intro b hb
 obtain ⟨w,_,hw⟩:=List.mem_flatMap.1 hb
 obtain ⟨k,_,rfl⟩:=List.mem_map.1 hw
 exact ⟨by omega,by omega⟩
theorem zmc {w:Int} {k:Nat} (h:k<8):(w8 w).take (k+1)=(w8 w).take k++[w/256^k%256]:=by
 rw[List.take_succ_eq_append_getElem (by simp[wt,h])]
 simp[w8]
theorem Zt (a b:List Int):bs (a++b)=bs a++bs b:=by simp[bs]
theorem zjp (w:Int) (k:Nat) (hk:k<8):Int.fdiv w (2^(min ((8*k:Nat):Int).toNat 64))=w/256^k:=by
 rw[zmX,Nat.min_eq_left (by omega),Int.fdiv_eq_ediv_of_nonneg _ (Int.le_of_lt (Int.pow_pos (by decide))),Int.pow_mul]
 rfl
theorem zmg {l:List Int} (w:Int) (n i:Int) (hi:0<=i/\i<=9000000000000000000) (acc:List Int) (ha:acc.length+8<=140737488355328):∀ (d k:Nat),k+d=8->Ku (bs (acc++(w8 w).take k)) (U w) (ws l) n i k=Vk (bs (acc++w8 w)) (ws l) n (i+1):=by
 intro d
 induction d with
 |zero=>
  intro k hk
  obtain rfl:k=8:=by omega
  rw[zcY,List.take_of_length_le (by simp[wt])]
  rw[show decide (((8:Nat):Int)<8)=false from rfl,ze (x:=i+1)]
  rfl
 |succ d ih=>
  intro k hk
  rw[zcY,dT ((k:Int)<8)]
  dsimp only[vA,zm4,zc]
  have e:IntKind.wrap .u64 (IntKind.wrap .i64 (8*(k:Int)))=((8*k:Nat):Int):=by rw[ze (by omega),wJ (by omega)];push_cast;rfl
  have hr:ye ((bs (acc++(w8 w).take k)).length+1) 1=true:=yL (by simp[wt];omega) (by simp[wt];omega)
  rw[e,zjp w k (by omega),Vn,hr,ze (x:=(k:Int)+1)]
  have:=ih (k+1) (by omega)
  rw[zmc (by omega),←List.append_assoc,Zt] at this
  simp only[yN,Int.natCast_nonneg,decide_true,cond_true]
  exact this
theorem zmh (l:List Int) (hl:l.length<=17592186044416):∀ (d i:Nat),i+d=l.length->Vk (bs (zM (l.take i))) (ws l) l.length i=ok (.sl 1 (bs (zM l))):=by
 intro d
 induction d with
 |zero=>
  intro i hi
  obtain rfl:i=l.length:=by omega
  rw[zcX,decide_eq_false (by omega),List.take_length]
  rfl
 |succ d ih=>
  intro i hi
  have hil:i<l.length:=by omega
  rw[zcX,decide_eq_true (by omega)]
  have hg:(ws l)[(i:Int).toNat]? = some (U l[i]):=by rw[zmX,Yk hil]
  rw[hg]
  have:=ih (i+1) (by omega)
  have h2:=zmg (l:=l) l[i] l.length i (by omega) (zM (l.take i)) (by rw[xJ];simp;omega) 8 0 rfl
  rw[List.take_zero,List.append_nil] at h2
  have e:zM (l.take i)++w8 l[i]=zM (l.take (i+1)):=by rw[List.take_succ_eq_append_getElem hil];simp only[zM,List.flatMap_append,List.flatMap_cons,List.flatMap_nil,List.append_nil]
  rw[e] at h2
  simp only[yj,Int.natCast_nonneg,decide_true,Bool.true_and,dT ((i:Int)<l.length),cond_true,zm4,yi,zm2]
  exact h2.trans this
theorem ZQ (l:List Int) (hl:l.length<=17592186044416):ev 117 [.pv (.sl 1 (ws l))] []=ok (.sl 1 (bs (zM l))):=by
 rw[zml,yj,ze (x:=8*(l.length:Int)),yL (by omega) (by omega)]
 simp only[dT ((0:Int)<=8*(l.length:Int)),dT (8*(l.length:Int)<=140737488355328),Bool.and_self,cond_true]
 exact zmh l hl l.length 0 (by omega)
def z4 (e c:Int):Int:=(bitsOf e*c+7)/8
theorem rr {e c:Int} (hc:0<=c/\c<=536870911):0<=z4 e c/\z4 e c<=4294967296:=by
 have h:=Y6 (e:=e) hc
 unfold z4
 omega
theorem zdm {e c:Int} (he:0<=e/\e<=7) (hc:0<=c/\c<=536870911):ev 255 [.pv (I e),.pv (I c)] []=ok (I (z4 e c)):=by
 have h:=Y6 (e:=e) hc
 rw[ziD]
 have hb:=gX he
 simp only[I] at hb
 rw[show (0+e.toNat*1)=e.toNat by omega,hb,decide_eq_true he.1,dT (e<8)]
 dsimp only[zo,zm4,z7,zc]
 rw[zaO,ze (x:=bitsOf e*c),ze (x:=bitsOf e*c+8),ze (x:=bitsOf e*c+8-1),Int.tdiv_eq_ediv_of_nonneg (by omega),ze (by omega),show bitsOf e*c+8-1=bitsOf e*c+7 by omega]
 rfl
def trimB (e c:Int) (b:List Int):List Int :=
 if e=1/\0<c%8 then b.take (z4 e c-1).toNat++[rd b (z4 e c-1)%2^(c%8).toNat] else b.take (z4 e c).toNat
theorem zfb {a:Int} (h:zj a) {r:Nat} (hr:r<=7):IntKind.wrap .u8 (((BitVec.ofInt 8 a &&& BitVec.ofInt 8 ((2^r-1:Nat):Int)).toNat:Nat):Int)=a%2^r:=by
 obtain ⟨n,rfl⟩:=Int.eq_ofNat_of_zero_le h.1
 have hn:n<256:=by have:=h.2;omega
 have e1:∀ m:Nat,m<256->(BitVec.ofInt 8 (m:Int)).toNat=m:=fun m hm=>by simp;omega
 have hp:2^r<=2^7:=Nat.pow_le_pow_right (by decide) hr
 rw[BitVec.toNat_and,e1 n hn,e1 _ (by omega),Nat.and_two_pow_sub_one_eq_mod,Vn]
 have:n%2^r<=n:=Nat.mod_le _ _
 rw[Int.emod_eq_of_lt (Int.natCast_nonneg _) (by omega)]
 push_cast
 rfl
theorem Vz {e c:Int} {b:List Int} (he:0<=e/\e<=7) (hc:0<=c/\c<=536870911) (hb:∀ x∈b,zj x) (hn:z4 e c<=b.length):ev 235 [.pv (I e),.pv (I c),.pv (.sl 1 (bs b))] []=some (.ret (.slu 5 1 (bs (trimB e c b))),[]):=by
 have hr:=rr (e:=e) hc
 rw[ziE,zdm he hc]
 dsimp only[zk,xD,zm4]
 rw[decide_eq_true hr.1,decide_eq_true (show z4 e c<=((bs b).length:Int) by simpa using hn)]
 dsimp only[zo,zc]
 have et:List.drop 0 (List.take (z4 e c).toNat (bs b))=bs (b.take (z4 e c).toNat):=by simp[bs]
 rw[et,zk8,yL (by simp;omega) (by simp;omega)]
 dsimp only[zo,zc,zl]
 rw[show zO 5 1 (.slu 5 1 (bs (b.take (z4 e c).toNat)))=some (bs (b.take (z4 e c).toNat)) from yu _ _ _]
 dsimp only[zm4]
 unfold trimB
 by_cases h1:e=1
 case neg=>rw[beq_eq_false_iff_ne.2 h1,if_neg (fun h=>h1 h.1)];rfl
 subst h1
 rw[show ((1:Int)==1)=true from rfl,Int.tmod_eq_emod_of_nonneg hc.1]
 dsimp only[zc]
 by_cases h8:0<c%8
 case neg=>rw[dF (c%8>0),if_neg (fun h=>h8 h.2)];rfl
 rw[dT (c%8>0),if_pos ⟨rfl,h8⟩]
 have hpos:1<=z4 1 c:=by unfold z4 bitsOf;simp;omega
 have hlen:((bs (b.take (z4 1 c).toNat)).length:Int)=z4 1 c:=by simp;omega
 rw[hlen,ze (x:=z4 1 c-1),dT (0<=z4 1 c-1),dT (z4 1 c-1<z4 1 c)]
 have hg:(bs (b.take (z4 1 c).toNat))[(z4 1 c-1).toNat]? = some (U8 (rd b (z4 1 c-1))):=by
  rw[Yr (by simp;omega)]
  simp only[rd,List.getD_eq_getElem?_getD,List.getElem_take]
  rw[zmS (show (z4 1 c-1).toNat<b.length by omega)]
  rfl
 have hby:zj (rd b (z4 1 c-1)):=by
  unfold rd
  rw[List.getD_eq_getElem?_getD,zmS (by omega)]
  exact hb _ (List.getElem_mem _)
 dsimp only[zo,zc]
 rw[hg]
 dsimp only[zm4,yi,zm2,vQ]
 have hs:IntKind.wrap .u64 (c%8)=c%8:=wJ (by omega)
 have hk:(c%8).toNat<=7:=by omega
 have hmask:IntKind.wrap .u8 (IntKind.wrap .u8 (1*2^(min (c%8).toNat 8))-1)=((2^(c%8).toNat-1:Nat):Int):=by
  generalize (c%8).toNat=r at hk
  have:r=0∨r=1∨r=2∨r=3∨r=4∨r=5∨r=6∨r=7:=by omega
  rcases this with rfl|rfl|rfl|rfl|rfl|rfl|rfl|rfl<;>rfl
 rw[hs,hmask,zfb hby hk,show yN .shl (c%8)=true by simp[yN];omega]
 have hset:(bs (b.take (z4 1 c).toNat)).set (z4 1 c-1).toNat (U8 (rd b (z4 1 c-1)%2^(c%8).toNat))=bs (b.take (z4 1 c-1).toNat++[rd b (z4 1 c-1)%2^(c%8).toNat]):=by
  have e1:(z4 1 c).toNat=(z4 1 c-1).toNat+1:=by omega
  rw[e1,List.take_succ_eq_append_getElem (by omega),Zt,Zt]
  have hl:(bs (b.take (z4 1 c-1).toNat)).length=(z4 1 c-1).toNat:=by simp;omega
  rw[List.set_append_right _ _ (by omega),hl,Nat.sub_self]
  rfl
 have hcell:setCells (U8 (rd b (z4 1 c-1))) 0 [U8 (rd b (z4 1 c-1)%2^(c%8).toNat)]=some (U8 (rd b (z4 1 c-1)%2^(c%8).toNat)):=rfl
 dsimp only[zc]
 rw[hcell]
 dsimp only[zm4]
 rw[hset]
 rfl
def yl (o:Ob) (i:Int):Ob:=⟨1,o.seg,o.at_+i*(o.data+o.ptrs),o.data,o.ptrs,0,0,0⟩
def yY (o:Ob):Int:=if o.kind=1/\0<o.ptrs then o.at_+o.data else if o.kind=2/\o.elem=6/\0<o.n then o.at_ else 0
def wI (o:Ob):Int:=if o.kind=1/\0<o.ptrs then o.ptrs else if o.kind=2/\o.elem=6/\0<o.n then o.n else 0
theorem KF (o:Ob) (i:Int) (h1:-4611686018427387904<=o.data+o.ptrs/\o.data+o.ptrs<=4611686018427387904) (h2:-4611686018427387904<=i*(o.data+o.ptrs)/\i*(o.data+o.ptrs)<=4611686018427387904) (h3:-4611686018427387904<=o.at_/\o.at_<=4611686018427387903):ev 238 [.pv (.agg o.c),.pv (I i)] []=ok (.agg (yl o i).c):=by
 rw[Ob.c,zkq,ze (x:=o.data+o.ptrs),ze (x:=i*(o.data+o.ptrs)),ze (by omega)]
 rfl
theorem uT (o:Ob) (h1:-4611686018427387904<=o.at_+o.data/\o.at_+o.data<=4611686018427387904):ev 277 [.pv (.agg o.c)] []=ok (.tup [I (yY o),I (wI o)]):=by
 rw[Ob.c,zks,ze (x:=o.at_+o.data)]
 unfold yY wI
 simp only[yv,yw]
 by_cases k1:o.kind=1
 ·by_cases k2:0<o.ptrs
  ·simp[k1,k2]
  ·simp[k1,k2]
 ·by_cases k3:o.kind=2
  ·by_cases k4:o.elem=6
   ·by_cases k5:0<o.n
    ·simp[k3,k4,k5]
    ·simp[k3,k4,k5]
   ·simp[k3,k4]
  ·simp[k1,k3]
theorem Vy (d w o:Int):ev 131 [.pv (.agg [I d,I w,I o])] []=ok (.agg [I (max w 0)]):=by
 rw[zfG]
 have:(if 0>w then 0 else w)=max w 0:=by omega
 rw[this]
theorem Vw (d w o x:Int):ev 191 [.pv (.agg [I d,I w,I o]),.pv (I x)] []=ok (I (if x>d then 7 else 0)):=by
 rw[zfF,yw]
 split<;>rfl
theorem uM (m c:Int) (hm:-4611686018427387904<=m-c/\m-c<=4611686018427387904):ev 272 [.pv (.agg [I m]),.pv (I c)] []=ok (.tup [.agg [I (if c>m then m else m-c)],I (if c>m then 8 else 0)]):=by
 rw[zfE,zfI,ze (x:=m-c)]
 by_cases h:c>m
 ·rw[decide_eq_true h,if_pos h,if_pos h];rfl
 ·rw[decide_eq_false h,if_neg h,if_neg h];rfl
inductive Nd where
 |mk (kind elem n:Int) (data:List Int) (kids:List Nd)
def Nd.kind:Nd->Int|.mk k _ _ _ _=>k
def Nd.elem:Nd->Int|.mk _ e _ _ _=>e
def Nd.n:Nd->Int|.mk _ _ n _ _=>n
def Nd.data:Nd->List Int|.mk _ _ _ d _=>d
def Nd.kids:Nd->List Nd|.mk _ _ _ _ ks=>ks
def nd0:Nd:=.mk 0 0 0 [] []
theorem Nd.ind {P:Nd->Prop} (h:∀ k e n d ks,(∀ x∈ks,P x)->P (.mk k e n d ks)):∀ x,P x
 |.mk k e n d ks=>h k e n d ks fun x hx=>Nd.ind h x
termination_by x=>SizeOf.sizeOf x
decreasing_by
 have:=List.sizeOf_lt_of_mem hx
 simp
 omega
mutual
def Nd.pv:Nd->PV
 |.mk k e n d ks=>.agg [I k,I e,I n,.sl 1 (bs d),.sl 5 (zD ks)]
def zD:List Nd->List PV
 |[]=>[]
 |x::l=>x.pv::zD l
end
theorem Ya:∀ l:List Nd,zD l=l.map Nd.pv
 |[]=>rfl
 |x::l=>by rw[zD,Ya l];rfl
def Nd.c (x:Nd):List PV:=[I x.kind,I x.elem,I x.n,.sl 1 (bs x.data),.sl 5 (zD x.kids)]
theorem Nd.pv_c (x:Nd):x.pv=.agg x.c:=by cases x;rfl
theorem Z4 (x:Nd):x.pv.cells=x.c:=by rw[Nd.pv_c];rfl
@[simp] theorem wQ (l:List Nd):(zD l).length=l.length:=by rw[Ya];simp
theorem vR {l:List Nd} {i:Nat} (h:i<l.length):(zD l)[i]? = some l[i].pv:=by rw[Ya];simp[h]
theorem zkk (l:List Nd) (n:Nat):(zD l).take n=zD (l.take n):=by rw[Ya,Ya,List.map_take]
theorem zbC (a b:List Nd):zD (a++b)=zD a++zD b:=by rw[Ya,Ya,Ya,List.map_append]
theorem VJ (l:List Int) (n:Nat):(bs l).take n=bs (l.take n):=by simp[bs]
theorem ziV (x:Nd):((decide (x.pv.cells.length=5)&&x.pv.cells.all PV.isCell)&&true)=true:=by cases x;rfl
mutual
def yr:Nd->Prop
 |.mk k e n d ks=>(d.length<=17592186044416/\(∀ b∈d,zj b)/\ks.length<=1073741824/\(k=1->d.length%8=0))/\YB ks
def YB:List Nd->Prop
 |[]=>True
 |x::l=>yr x/\YB l
end
theorem goods_iff:∀ {l:List Nd},YB l↔∀ x∈l,yr x
 |[]=>by simp[YB]
 |x::l=>by simp[YB,goods_iff (l:=l)]
def yH {α:Type} (p:α->Bool) (l:List α):Nat:=(l.reverse.dropWhile p).length
theorem vo {α:Type} (p:α->Bool) (l:List α):yH p l<=l.length:=by
 unfold yH
 have:=(List.dropWhile_sublist p (l:=l.reverse)).length_le
 simpa using this
theorem wO {α:Type} (p:α->Bool) (l:List α) (x:α):yH p (l++[x])=if p x then yH p l else l.length+1:=by
 unfold yH
 rw[List.reverse_append]
 simp only[List.reverse_cons,List.reverse_nil,zm7,List.singleton_append,List.dropWhile_cons]
 split<;>simp
def yp (d:List Int):Nat:=(yH (·==0) d+7)/8
def yo (ks:List Nd):Nat:=yH (fun x=>x.kind==0) ks
mutual
def zi:Nd->Nd
 |.mk k e n d ks=>if k=1 then .mk k e n (d.take (8*yp d)) ((vg ks).take (yo ks)) else .mk k e n d (vg ks)
def vg:List Nd->List Nd
 |[]=>[]
 |x::l=>zi x::vg l
end
theorem xo:∀ l:List Nd,vg l=l.map zi
 |[]=>rfl
 |x::l=>by rw[vg,xo l];rfl
theorem ZL {α:Type} {l:List α} {i:Nat} (h:i<l.length):l.take (i+1)=l.take i++[l[i]]:=List.take_succ_eq_append_getElem h
theorem ziv {d:List Int} (hd:d.length<=17592186044416):∀ i:Nat,i<=d.length->Kn (bs d) i=ok (I (yH (·==0) (d.take i):Nat)):=by
 intro i
 induction i with
 |zero=>
  intro _
  rw[zcI]
  rfl
 |succ i ih=>
  intro hi
  rw[zcI,decide_eq_true (by omega),ze (x:=((i+1:Nat):Int)-1),show ((i+1:Nat):Int)-1=(i:Int) by omega,decide_eq_true (by omega),decide_eq_true (by simp;omega)]
  dsimp only[zo,zc]
  rw[zmX,Yr (by omega)]
  dsimp only[zm4,yi,zm2]
  rw[zlC,ih (by omega),ZL (by omega),wO]
  dsimp only[zk,y4,zm4]
  by_cases h0:d[i]=0
  ·rw[beq_iff_eq.2 h0];rfl
  ·rw[beq_eq_false_iff_ne.2 h0]
   simp[show i<=d.length by omega]
theorem zeh {d:List Int} (hd:d.length<=17592186044416):ev 214 [.pv (.sl 1 (bs d))] []=ok (I (yp d:Nat)):=by
 have hk:=vo (·==0) d
 rw[zlD,zlF]
 have:=ziv hd d.length (by omega)
 rw[List.take_length] at this
 rw[zK,this]
 dsimp only[zk,z7,zm4]
 rw[ze (x:=(yH (·==0) d:Nat)+8),ze (x:=((yH (·==0) d:Nat):Int)+8-1),Int.tdiv_eq_ediv_of_nonneg (by omega),ze (by omega)]
 have e:(((yH (·==0) d:Nat):Int)+8-1)/8=((yp d:Nat):Int):=by unfold yp;omega
 rw[e]
theorem zaY (x:Nd):PV.agg ((x.pv.cells.drop 0).take 5)=x.pv:=by cases x;rfl
theorem ZA (x:Nd):decide (5<=x.pv.cells.length)=true:=by cases x;rfl
theorem ziw {l:List Nd} (hl:l.length<=1073741824):∀ i:Nat,i<=l.length->Km (zD l) i=ok (I (yo (l.take i):Nat)):=by
 intro i
 induction i with
 |zero=>
  intro _
  rw[zcH]
  rfl
 |succ i ih=>
  intro hi
  rw[zcH,decide_eq_true (by omega),ze (x:=((i+1:Nat):Int)-1),show ((i+1:Nat):Int)-1=(i:Int) by omega,decide_eq_true (by omega),decide_eq_true (by simp;omega)]
  dsimp only[zo,zc]
  rw[zmX,vR (by omega)]
  dsimp only[zm4]
  rw[ZA,zaY,Nd.pv_c,Nd.c,zly,ih (by omega),ZL (by omega)]
  unfold yo
  rw[wO]
  dsimp only[zk,y4,zm4,zc]
  by_cases h0:l[i].kind=0
  ·rw[beq_iff_eq.2 h0];rfl
  ·rw[beq_eq_false_iff_ne.2 h0]
   simp[show i<=l.length by omega]
theorem zeg {l:List Nd} (hl:l.length<=1073741824):ev 215 [.pv (.sl 5 (zD l))] []=ok (I (yo l:Nat)):=by
 rw[zlz,zlE]
 have:=ziw hl l.length (by omega)
 rw[List.take_length] at this
 rw[wQ,this]
 rfl
theorem ziW (x:Nd):∃ c0 c1 c2 c3 c4,x.pv.cells=[c0,c1,c2,c3,c4]/\x.pv=.agg [c0,c1,c2,c3,c4]/\c0.isCell=true/\c1.isCell=true/\c2.isCell=true/\c3.isCell=true/\c4.isCell=true:=by
 cases x;exact ⟨_,_,_,_,_,rfl,rfl,rfl,rfl,rfl,rfl,rfl⟩
theorem zcJ {l:List Nd} (hl:l.length<=1073741824) (hv:∀ x∈l,ev 153 [.pv x.pv] []=ok (zi x).pv) (i3 i4 i5:Int) (xs6 xs7:List PV) (i8 i9 i10:Int) (xs11 xs12:List PV) (k e n:Int) (d:List Int):∀ (m i:Nat),i+m=l.length->
  Ve (zD l) l.length i i3 i4 i5 xs6 xs7 i8 i9 i10 xs11 xs12 k e n (bs d) (zD (vg (l.take i)))=ok (Nd.mk k e n d (vg l)).pv:=by
 intro m
 induction m with
 |zero=>
  intro i hi
  obtain rfl:i=l.length:=by omega
  rw[zcE,decide_eq_false (by omega),List.take_length]
  rfl
 |succ m ih=>
  intro i hi
  have hil:i<l.length:=by omega
  rw[zcE,decide_eq_true (by omega),decide_eq_true (by omega),decide_eq_true (by simp;omega)]
  dsimp only[zo,zc]
  rw[zmX,vR hil]
  obtain ⟨c0,c1,c2,c3,c4,h1,h2,h3,h4,h5,h6,h7⟩:=ziW l[i]
  have hvi:=hv _ (List.getElem_mem hil)
  rw[h2] at hvi
  dsimp only[zm4]
  rw[h1]
  rw[show decide (5<=[c0,c1,c2,c3,c4].length)=true from rfl,show List.take 5 (List.drop 0 [c0,c1,c2,c3,c4])=[c0,c1,c2,c3,c4] from rfl]
  dsimp only[ziA,zm2,zm3,zm4,zc]
  rw[h3,h4,h5,h6,h7]
  dsimp only[zo,zc]
  rw[hvi]
  dsimp only[zk]
  have hroom:ye ((zD (vg (l.take i))).length+1) 72=true:=yL (by rw[wQ,xo];simp;omega) (by rw[wQ,xo];simp;omega)
  have hnext:zD (vg (l.take i))++[(zi l[i]).pv]=zD (vg (l.take (i+1))):=by
   rw[ZL hil,xo,xo,List.map_append,zbC]
   rfl
  rw[ziV,hroom,hnext,ze (x:=(i:Int)+1)]
  exact ih (i+1) (by omega)
theorem jy {α:Type} (l:List α):l.drop 0=l:=rfl
theorem gy (x:Nd):yr x->ev 153 [.pv x.pv] []=ok (zi x).pv:=by
 induction x using Nd.ind with
 |h k e n d ks ih=>
  intro hg
  rw[yr,goods_iff] at hg
  obtain ⟨⟨hd,hb,hk,h8⟩,hks⟩:=hg
  have hv:∀ x∈ks,ev 153 [.pv x.pv] []=ok (zi x).pv:=fun x hx=>ih x hx (hks x hx)
  rw[Nd.pv,zlA,zi]
  by_cases h1:k=1
  ·subst h1
   have hkw:=vo (·==0) d
   have h88:=h8 rfl
   have hw:8*yp d<=d.length:=by unfold yp;omega
   have hp:yo ks<=ks.length:=vo _ _
   rw[show ((1:Int)==1)=true from rfl,zeh hd,zeg hk,if_pos rfl]
   dsimp only[zk,xD,zm4,zl,zt,z7,zc]
   rw[ze (x:=8*((yp d:Nat):Int)),decide_eq_true (by omega),decide_eq_true (by simp;omega),decide_eq_true (by omega),decide_eq_true (by simp;omega)]
   dsimp only[zo,zc]
   have e1:(8*((yp d:Nat):Int)).toNat=8*yp d:=by omega
   rw[e1,zmX,jy,jy,VJ,zkk,yL (by simp;omega) (by simp;omega),wQ]
   dsimp only[zc]
   have:=zcJ (l:=ks.take (yo ks)) (by simp;omega) (fun x hx=>hv x (List.mem_of_mem_take hx)) 1 e n (bs d) (zD ks) 0 0 0 [] [] 1 e n (d.take (8*yp d)) (ks.take (yo ks)).length 0 (by omega)
   refine this.trans ?_
   rw[xo,xo,List.map_take]
  ·rw[beq_eq_false_iff_ne.2 h1,if_neg h1,yL (by simp;omega) (by simp;omega),wQ]
   exact zcJ hk hv k e n (bs d) (zD ks) 0 0 0 [] [] k e n d ks.length 0 (by omega)
def cutB (l:List (List Int)) (s a n:Int):List Int:=if inB l s a n then cut l s a n else []
theorem jd {l:List (List Int)} (h:zF l) (s a n:Int):Words (cutB l s a n):=by
 unfold cutB
 split
 ·have hw:=QX h s
  refine ⟨?_,fun x hx=>hw.2 x (List.mem_of_mem_drop (List.mem_of_mem_take hx))⟩
  have:=hw.1
  unfold cut
  rw[zm0,List.length_drop]
  omega
 ·exact ⟨by simp,by simp⟩
theorem Zx (l:List (List Int)) (s a n:Int):(cutB l s a n).length<=n.toNat:=by
 unfold cutB
 split
 ·unfold cut
  rw[zm0]
  omega
 ·simp
theorem uU {l:List (List Int)} (h:zF l) (s a n:Int) (hn:n<=17592186044416):ev 276 [.pv (.sl 1 (zG l)),.pv (I s),.pv (I a),.pv (I n)] []=ok (.tup [.sl 1 (ws (cutB l s a n)),Bo (decide (inB l s a n))]):=by
 rw[KM h s a n hn]
 unfold cutB
 by_cases hb:inB l s a n
 ·rw[if_pos hb,if_pos hb,decide_eq_true hb]
 ·rw[if_neg hb,if_neg hb,decide_eq_false hb];rfl
theorem qQ (a:List Int) (x:Int):ws a++[U x]=ws (a++[x]):=by simp[ws]
def vY (l:List (List Int)) (o:Ob):Prop:=(0<=o.at_/\o.at_<=1099511627776)/\(0<=o.data/\o.data<=65535)/\(0<=o.ptrs/\o.ptrs<=65535)/\(0<=o.elem/\o.elem<=7)/\(0<=o.n/\o.n<=536870911)/\(0<=o.cost/\o.cost<=2147483648)/\(o.kind=1∨o.kind=2)/\(o.kind=2->o.elem<6->inB l o.seg o.at_ o.cost/\o.cost=zs o.elem o.n)/\(o.kind=2->o.elem≠7->o.data=0/\o.ptrs=0)
theorem JJ {l:List (List Int)} (hs:Sm l) {s a n:Int} (h:inB l s a n):0<=a/\a+n<=1099511627776/\0<=n:=by
 have:=hs s
 obtain ⟨h1,h2,h3,h4,h5⟩:=h
 omega
theorem xU {e:Int} {P:Prop} (h:(bad e).2=0) (he:e≠0):P:=absurd h he
theorem zja {l:List (List Int)} (hs:Sm l) {s st d q:Int} (hd:0<=d/\d<=65535) (hq:0<=q/\q<=65535) (h:(vv l s st d q).2=0):vY l (vv l s st d q).1:=by
 unfold vv at h ⊢
 by_cases hb:inB l s st (d+q)
 ·rw[if_pos hb] at h ⊢
  obtain ⟨a1,a2,a3⟩:=JJ hs hb
  exact ⟨⟨a1,by dsimp only;omega⟩,hd,hq,⟨by dsimp only;omega,by dsimp only;omega⟩,⟨by dsimp only;omega,by dsimp only;omega⟩,⟨by dsimp only;omega,by dsimp only;omega⟩,.inl rfl,fun h=>absurd h (by dsimp only;omega),fun h=>absurd h (by dsimp only;omega)⟩
 ·rw[if_neg hb] at h
  exact xU h (by decide)
theorem zi8 {l:List (List Int)} (hl:zF l) (hs:Sm l) {s st c:Int} (hc:0<=c/\c<=536870911) (h:(wF l s st c).2=0):vY l (wF l s st c).1:=by
 unfold wF at h ⊢
 by_cases hb:inB l s st (c+1)
 ·rw[if_pos hb] at h ⊢
  have hd:=ZX (vj hl s st)
  generalize zI (wd l s st)=p at h hd ⊢
  by_cases hk:p.1=0/\0<=p.2.1/\p.2.1*(p.2.2.1+p.2.2.2.1)<=c
  ·rw[if_pos hk] at h ⊢
   obtain ⟨a1,a2,a3⟩:=JJ hs hb
   refine ⟨⟨by dsimp only;omega,by dsimp only;omega⟩,⟨by dsimp only;omega,by dsimp only;omega⟩,⟨by dsimp only;omega,by dsimp only;omega⟩,⟨by dsimp only;omega,by dsimp only;omega⟩,⟨by dsimp only;omega,by dsimp only;omega⟩,⟨by dsimp only;split<;>omega,by dsimp only;split<;>omega⟩,.inr rfl,fun _ h=>absurd h (by dsimp only;omega),fun _ h=>absurd rfl h⟩
  ·rw[if_neg hk] at h
   exact xU h (by decide)
 ·rw[if_neg hb] at h
  exact xU h (by decide)
theorem zi9 {l:List (List Int)} (hl:zF l) (hs:Sm l) {s st e c:Int} (he:0<=e/\e<=7) (hc:0<=c/\c<=536870911) (h:(vt l s st e c).2=0):vY l (vt l s st e c).1:=by
 unfold vt at h ⊢
 by_cases h7:e=7
 ·rw[if_pos h7] at h ⊢
  exact zi8 hl hs hc h
 ·rw[if_neg h7] at h ⊢
  by_cases hb:inB l s st (zs e c)
  ·rw[if_pos hb] at h ⊢
   obtain ⟨a1,a2,a3⟩:=JJ hs hb
   have hw:=Yj (e:=e) hc
   exact ⟨⟨a1,by dsimp only;omega⟩,⟨by dsimp only;omega,by dsimp only;omega⟩,⟨by dsimp only;omega,by dsimp only;omega⟩,he,hc,⟨hw.1,by dsimp only;omega⟩,.inr rfl,fun _ _=>⟨hb,rfl⟩,fun _ _=>⟨rfl,rfl⟩⟩
  ·rw[if_neg hb] at h
   exact xU h (by decide)
theorem Xw {l:List (List Int)} (hl:zF l) (hs:Sm l) {s a:Int} (h0:(zV l s a).1≠0) (he:(zV l s a).2.2.2=0) (h:(yn l s a).2=0):vY l (yn l s a).1:=by
 have hd:=ZX (Qn hl s a)
 unfold yn at h ⊢
 rw[if_pos he,if_neg h0] at h ⊢
 unfold vu at h ⊢
 generalize zI (zV l s a).1=p at h hd ⊢
 by_cases k0:p.1=0
 ·rw[if_pos k0] at h ⊢
  exact zja hs (by omega) (by omega) h
 ·rw[if_neg k0] at h ⊢
  by_cases k1:p.1=1
  ·rw[if_pos k1] at h ⊢
   exact zi9 hl hs (by omega) (by omega) h
  ·rw[if_neg k1] at h
   split at h
   ·exact xU h (by decide)
   ·exact xU h (by decide)
def zW (F:Int->Nat->Nd×Int×Int):Nat->Nat->Int->List Nd->List Nd×Int×Int
 |0,_,m,acc=>(acc,m,0)
 |c+1,i,m,acc=>if (F m i).2.2=0 then zW F c (i+1) (F m i).2.1 (acc++[(F m i).1]) else ([],(F m i).2.1,(F m i).2.2)
def vW (t:List Nd×Int×Int) (f:List Nd->Nd):Nd×Int×Int:=(if t.2.2=0 then f t.1 else nd0,t.2.1,t.2.2)
def zZ (F:Int->Int->Int->Nd×Int×Int) (l:List (List Int)) (m:Int) (o:Ob):Nd×Int×Int :=
 vW (zW (fun m i=>F m o.seg (o.at_+o.data+i)) o.ptrs.toNat 0 m []) fun ks=>.mk 1 0 0 (zM (cutB l o.seg o.at_ o.data)) ks
def xx (F:Int->Int->Int->Nd×Int×Int) (l:List (List Int)) (m:Int) (o:Ob):Nd×Int×Int :=
 if o.elem<6 then (.mk 2 o.elem o.n (trimB o.elem o.n (zM (cutB l o.seg o.at_ o.cost))) [],m,0)
 else vW (zW (fun m i=>if o.elem=6 then F m o.seg (o.at_+i) else zZ F l m (yl o i)) o.n.toNat 0 m []) fun ks=>.mk 2 o.elem o.n [] ks
def wz (F:Int->Int->Int->Nd×Int×Int) (l:List (List Int)) (m:Int) (t:Ob×Int):Nd×Int×Int :=
 if t.2=0 then (if t.1.cost>m then (nd0,m,8) else if t.1.kind=1 then zZ F l (m-t.1.cost) t.1 else xx F l (m-t.1.cost) t.1) else (nd0,m,t.2)
def zH (l:List (List Int)):Nat->Int->Int->Int->Nd×Int×Int
 |0=>fun m s a=>if (zV l s a).2.2.2=0 then (if (zV l s a).1=0 then (nd0,m,0) else (nd0,m,7)) else (nd0,m,(zV l s a).2.2.2)
 |D+1=>fun m s a=>if (zV l s a).2.2.2=0 then (if (zV l s a).1=0 then (nd0,m,0) else wz (zH l D) l m (yn l s a)) else (nd0,m,(zV l s a).2.2.2)
def Mt (m:Int):Prop:=0<=m/\m<=4611686018427387904
def Fn (t:Nd×Int×Int):Prop:=Mt t.2.1/\yr t.1
theorem Zf:yr nd0:=by unfold nd0;rw[yr];exact ⟨⟨by simp,by simp,by simp,by simp⟩,trivial⟩
theorem zaF {F:Int->Nat->Nd×Int×Int} (hF:∀ m i,Mt m->Fn (F m i)):∀ c i m acc,Mt m->YB acc->Mt (zW F c i m acc).2.1/\YB (zW F c i m acc).1/\(zW F c i m acc).1.length<=acc.length+c:=by
 intro c
 induction c with
 |zero=>intro i m acc hm ha;exact ⟨hm,ha,Nat.le_refl _⟩
 |succ c ih=>
  intro i m acc hm ha
  rw[zW]
  split
  ·obtain ⟨a1,a2,a3⟩:=ih (i+1) (F m i).2.1 (acc++[(F m i).1]) (hF m i hm).1 (goods_iff.2 fun x hx=>by
    rcases List.mem_append.1 hx with h|h
    ·exact goods_iff.1 ha x h
    ·rw[List.mem_singleton.1 h];exact (hF m i hm).2)
   exact ⟨a1,a2,by simp at a3;omega⟩
  ·exact ⟨(hF m i hm).1,trivial,by simp⟩
theorem zc2 {t:List Nd×Int×Int} {f:List Nd->Nd} (hm:Mt t.2.1) (hf:yr (f t.1)):Fn (vW t f):=by
 refine ⟨hm,?_⟩
 unfold vW
 dsimp only
 split
 ·exact hf
 ·exact Zf
theorem rq (l:List (List Int)) (s a n:Int):(zM (cutB l s a n)).length%8=0:=by rw[xJ];omega
theorem zcC (e c:Int) (b:List Int):(trimB e c b).length<=b.length+1:=by
 unfold trimB
 split
 ·rw[zm5,zm0];simp;omega
 ·rw[zm0];omega
theorem Kk (e c:Int) (b:List Int) (hb:∀ x∈b,zj x):∀ x∈trimB e c b,zj x:=by
 unfold trimB
 intro x hx
 split at hx
 ·rename_i h1
  rcases List.mem_append.1 hx with h|h
  ·exact hb x (List.mem_of_mem_take h)
  ·rw[List.mem_singleton.1 h]
   have hc:(c%8).toNat=0∨(c%8).toNat=1∨(c%8).toNat=2∨(c%8).toNat=3∨(c%8).toNat=4∨(c%8).toNat=5∨(c%8).toNat=6∨(c%8).toNat=7:=by omega
   unfold zj
   rcases hc with h|h|h|h|h|h|h|h<;>rw[h]<;>simp only[Nat.reducePow,Int.reducePow,Int.pow_zero,Int.pow_succ,Int.reduceMul]<;>omega
 ·exact hb x (List.mem_of_mem_take hx)
theorem qA {F:Int->Int->Int->Nd×Int×Int} (hF:∀ m s a,Mt m->Fn (F m s a)) (l:List (List Int)) {m:Int} (hm:Mt m) {o:Ob} (hd:o.data<=65535) (hq:o.ptrs<=65535):Fn (zZ F l m o):=by
 obtain ⟨a1,a2,a3⟩:=zaF (F:=fun m i=>F m o.seg (o.at_+o.data+i)) (fun m i h=>hF m _ _ h) o.ptrs.toNat 0 m [] hm trivial
 refine zc2 a1 ?_
 rw[yr]
 have:=Zx l o.seg o.at_ o.data
 refine ⟨⟨?_,vl _,?_,fun _=>rq l _ _ _⟩,a2⟩
 ·rw[xJ];omega
 ·simp at a3;omega
theorem zg1 {F:Int->Int->Int->Nd×Int×Int} (hF:∀ m s a,Mt m->Fn (F m s a)) (l:List (List Int)) {m:Int} (hm:Mt m) {t:Ob×Int} (ht:t.2=0->vY l t.1):Fn (wz F l m t):=by
 unfold wz
 by_cases h0:t.2=0
 ·rw[if_pos h0]
  obtain ⟨hat,hd,hq,he,hn,hc,hk,hw,hz⟩:=ht h0
  by_cases h8:t.1.cost>m
  ·rw[if_pos h8];exact ⟨hm,Zf⟩
  ·rw[if_neg h8]
   have hm':Mt (m-t.1.cost):=⟨by unfold Mt at hm;omega,by unfold Mt at hm;omega⟩
   by_cases h1:t.1.kind=1
   ·rw[if_pos h1];exact qA hF l hm' hd.2 hq.2
   ·rw[if_neg h1]
    unfold xx
    by_cases h6:t.1.elem<6
    ·rw[if_pos h6]
     refine ⟨hm',?_⟩
     rw[yr]
     have:=Zx l t.1.seg t.1.at_ t.1.cost
     have:=zcC t.1.elem t.1.n (zM (cutB l t.1.seg t.1.at_ t.1.cost))
     rw[xJ] at this
     exact ⟨⟨by omega,Kk _ _ _ (vl _),by simp,fun h=>absurd h (by decide)⟩,trivial⟩
    ·rw[if_neg h6]
     obtain ⟨a1,a2,a3⟩:=zaF (F:=fun m i=>if t.1.elem=6 then F m t.1.seg (t.1.at_+i) else zZ F l m (yl t.1 i)) (fun m i h=>by
      split
      ·exact hF m _ _ h
      ·exact qA hF l h hd.2 hq.2) t.1.n.toNat 0 (m-t.1.cost) [] hm' trivial
     refine zc2 a1 ?_
     rw[yr]
     exact ⟨⟨by simp,by simp,by simp at a3;omega,fun h=>absurd h (by decide)⟩,a2⟩
 ·rw[if_neg h0];exact ⟨hm,Zf⟩
theorem jq {l:List (List Int)} (hl:zF l) (hs:Sm l):∀ D m s a,Mt m->Fn (zH l D m s a):=by
 intro D
 induction D with
 |zero=>
  intro m s a hm
  unfold zH
  split
  ·split<;>exact ⟨hm,Zf⟩
  ·exact ⟨hm,Zf⟩
 |succ D ih=>
  intro m s a hm
  unfold zH
  split
  ·rename_i he
   split
   ·exact ⟨hm,Zf⟩
   ·rename_i h0
    exact zg1 ih l hm fun h=>Xw hl hs h0 he h
  ·exact ⟨hm,Zf⟩
theorem zkj (acc:List Nd) (x:Nd):zD acc++[.agg [I x.kind,I x.elem,I x.n,.sl 1 (bs x.data),.sl 5 (zD x.kids)]]=zD (acc++[x]):=by
 rw[zbC]
 cases x;rfl
theorem WL {F:Int->Nat->Nd×Int×Int} {c i:Nat} {m:Int} {acc:List Nd} (h:(F m i).2.2≠0):zW F (c+1) i m acc=([],(F m i).2.1,(F m i).2.2):=by rw[zW,if_neg h]
theorem WM {F:Int->Nat->Nd×Int×Int} {c i:Nat} {m:Int} {acc:List Nd} (h:(F m i).2.2=0):zW F (c+1) i m acc=zW F c (i+1) (F m i).2.1 (acc++[(F m i).1]):=by rw[zW,if_pos h]
theorem Xg {l:List (List Int)} {D:Nat} {m s a:Int} (h:(zV l s a).2.2.2≠0):zH l D m s a=(nd0,m,(zV l s a).2.2.2):=by
 cases D<;>(rw[zH];dsimp only;rw[if_neg h])
theorem Ww {l:List (List Int)} {D:Nat} {m s a:Int} (h:(zV l s a).2.2.2=0) (h0:(zV l s a).1=0):zH l D m s a=(nd0,m,0):=by
 cases D<;>(rw[zH];dsimp only;rw[if_pos h,if_pos h0])
theorem Jn {l:List (List Int)} {m s a:Int} (h:(zV l s a).2.2.2=0) (h0:(zV l s a).1≠0):zH l 0 m s a=(nd0,m,7):=by
 rw[zH];dsimp only;rw[if_pos h,if_neg h0]
theorem Jo {l:List (List Int)} {D:Nat} {m s a:Int} (h:(zV l s a).2.2.2=0) (h0:(zV l s a).1≠0):zH l (D+1) m s a=wz (zH l D) l m (yn l s a):=by
 rw[zH];dsimp only;rw[if_pos h,if_neg h0]
theorem ww {a:Int} (h:a≠0):(a != 0)=true:=by simpa using h
theorem VK {l:List (List Int)} {o:Ob} (hn:0<=o.n/\o.n<=536870911) (hb:inB l o.seg o.at_ o.cost/\o.cost=zs o.elem o.n) (h6:o.elem<6):z4 o.elem o.n<=((zM (cutB l o.seg o.at_ o.cost)).length:Int):=by
 rw[xJ]
 unfold cutB
 rw[if_pos hb.1,zgW hb.1]
 have hw:=Yj (e:=o.elem) hn
 have h2:=hb.2
 unfold zs at h2
 rw[if_neg (by omega)] at h2
 unfold z4
 have:=Y6 (e:=o.elem) hn
 omega
abbrev hp (l:List (List Int)) (d w b m:Int):za:=[[.pv (.sl 1 (zG l)),.pv (I d),.pv (I w),.pv (I b),.pv (I m)]]
def Zl (l:List (List Int)) (d w b:Int) (e m:Int) (p:PV):Option (Out×za):=if e=0 then some (.ret (.pv p),hp l d w b m) else some (.pan (.ifc 279 (.agg [I e])),hp l d w b m)
theorem vB {l:List (List Int)} {d w b e m:Int} {p:PV} (h:e=0):Zl l d w b e m p=some (.ret (.pv p),[[.pv (.sl 1 (zG l)),.pv (I d),.pv (I w),.pv (I b),.pv (I m)]]):=by rw[Zl,if_pos h]
theorem xW {l:List (List Int)} {d w b e m:Int} {p:PV} (h:e≠0):Zl l d w b e m p=some (.pan (.ifc 279 (.agg [I e])),[[.pv (.sl 1 (zG l)),.pv (I d),.pv (I w),.pv (I b),.pv (I m)]]):=by rw[Zl,if_neg h]
def Nd.x (x:Nd):PV:=.agg [I x.kind,I x.elem,I x.n,.sl 1 (bs x.data),.sl 5 (zD x.kids)]
def CV (l:List (List Int)) (d w b:Int) (dep:Int) (F:Int->Int->Int->Nd×Int×Int):Prop:=∀ m s a,Mt m->ev 234 [.ptr 0 0,.pv (I s),.pv (I a),.pv (I dep)] [[.pv (.sl 1 (zG l)),.pv (I d),.pv (I w),.pv (I b),.pv (I m)]]=Zl l d w b (F m s a).2.2 (F m s a).2.1 (F m s a).1.x
theorem Wa {e:Int} (h:e=0):ev 271 [.pv (I e)] []=ok (.tup []):=by rw[jr,h];rfl
theorem Wb {e:Int} (h:e≠0):ev 271 [.pv (I e)] []=some (.pan (.ifc 279 (.agg [I e])),[]):=by rw[jr,ww h];rfl
theorem zaX (x:Nd):((decide (x.x.cells.length=5)&&x.x.cells.all PV.isCell)&&true)=true:=rfl
theorem zbD (acc:List Nd) (x:Nd):zD acc++[x.x]=zD (acc++[x]):=zkj acc x
theorem uY {l:List (List Int)} (hl:zF l) (d w b m:Int) (o:Ob) (a n:Int) (hn:n<=8796093022208):ev 295 [.ptr 0 0,.pv (.agg o.c),.pv (I a),.pv (I n)] [[.pv (.sl 1 (zG l)),.pv (I d),.pv (I w),.pv (I b),.pv (I m)]]=some (.ret (.pv (.sl 1 (bs (zM (cutB l o.seg a n))))),[[.pv (.sl 1 (zG l)),.pv (I d),.pv (I w),.pv (I b),.pv (I m)]]):=by
 have hcl:=Zx l o.seg a n
 rw[Ob.c,zg5,uU hl _ _ _ (by omega)]
 dsimp only[zl,zt,zm4,z6,zm3,zm2]
 rw[ZQ _ (by omega)]
 rfl
theorem zgT {l:List (List Int)} {d w b dep:Int} {F:Int->Int->Int->Nd×Int×Int} (hF:CV l d w b (dep+1) F) (hO:∀ m s a,Mt m->Fn (F m s a)) (hdep:0<=dep/\dep<=1099511627776) {k sg at_ dt q e n cst A Q:Int} (hA:0<=A/\A<=2251799813685248) (hQ:0<=Q/\Q<=536870911):∀ (c i:Nat) (m:Int) (acc:List Nd),i+c=Q.toNat->acc.length=i->Mt m->
  Qb dep (zD acc) (I A) (I Q) i (.sl 1 (zG l)) (I d) (I w) (I b) (I m) k sg at_ dt q e n cst=Zl l d w b (zW (fun m i=>F m sg (A+i)) c i m acc).2.2 (zW (fun m i=>F m sg (A+i)) c i m acc).2.1 (.sl 5 (zD (zW (fun m i=>F m sg (A+i)) c i m acc).1)):=by
 intro c
 induction c with
 |zero=>
  intro i m acc hi ha hm
  rw[jt]
  dsimp only[z7,zm4]
  rw[decide_eq_false (by omega)]
  rfl
 |succ c ih=>
  intro i m acc hi ha hm
  rw[jt]
  dsimp only[z7,zm4]
  rw[dT ((i:Int)<Q),ze (x:=A+i),ze (x:=dep+1)]
  dsimp only[zc]
  rw[hF m sg (A+i) hm]
  by_cases h0:(F m sg (A+i)).2.2=0
  ·rw[WM (F:=fun m (i:Nat)=>F m sg (A+i)) (by exact h0),vB h0]
   dsimp only[yT]
   rw[zaX]
   dsimp only[zc]
   rw[yL (by simp;omega) (by simp;omega),zbD,ze (x:=(i:Int)+1)]
   exact ih (i+1) _ _ (by omega) (by simp;omega) (hO m sg _ hm).1
  ·rw[WL (F:=fun m (i:Nat)=>F m sg (A+i)) (by exact h0),xW h0,xW h0]
   rfl
theorem gc {l:List (List Int)} {d w b dep:Int} {F:Int->Int->Int->Nd×Int×Int} (hF:CV l d w b (dep+1) F) (hO:∀ m s a,Mt m->Fn (F m s a)) (hdep:0<=dep/\dep<=1099511627776) {o:Ob} (hat:0<=o.at_/\o.at_<=1125899906842624) (hdt:0<=o.data/\o.data<=65535) {A Q:Int} (hA:yY o=A) (hQ:wI o=Q) (hA':0<=A/\A<=2251799813685248) (hQ':0<=Q/\Q<=536870911) {m:Int} (hm:Mt m):ev 296 [.ptr 0 0,.pv (.agg o.c),.pv (I dep)] [[.pv (.sl 1 (zG l)),.pv (I d),.pv (I w),.pv (I b),.pv (I m)]]=Zl l d w b (zW (fun m i=>F m o.seg (A+i)) Q.toNat 0 m []).2.2 (zW (fun m i=>F m o.seg (A+i)) Q.toNat 0 m []).2.1 (.sl 5 (zD (zW (fun m i=>F m o.seg (A+i)) Q.toNat 0 m []).1)):=by
 have hp:=uT o (by omega)
 rw[hA,hQ] at hp
 rw[Ob.c] at hp ⊢
 rw[zg6,hp]
 dsimp only[zl,zt,zm4,z6,zm3,zm2]
 exact zgT hF hO hdep hA' hQ' Q.toNat 0 m [] (by omega) rfl hm
theorem zaE {F:Int->Int->Int->Nd×Int×Int} (sg:Int) {A A' Q:Int} {m:Int} (h:0<Q->A' = A):zW (fun m (i:Nat)=>F m sg (A'+i)) (if 0<Q then Q else 0).toNat 0 m []=zW (fun m (i:Nat)=>F m sg (A+i)) Q.toNat 0 m []:=by
 by_cases hQ:0<Q
 ·rw[if_pos hQ,h hQ]
 ·rw[if_neg hQ,show Q.toNat=0 by omega];rfl
theorem vX {t:List Nd×Int×Int} {f:List Nd->Nd} (h:t.2.2=0):vW t f=(f t.1,t.2.1,t.2.2):=by
 unfold vW
 rw[if_pos h]
theorem qP {t:List Nd×Int×Int} {f:List Nd->Nd} (h:t.2.2≠0):vW t f=(nd0,t.2.1,t.2.2):=by
 unfold vW
 rw[if_neg h]
theorem ge {l:List (List Int)} (hl:zF l) {d w b dep:Int} {F:Int->Int->Int->Nd×Int×Int} (hF:CV l d w b (dep+1) F) (hO:∀ m s a,Mt m->Fn (F m s a)) (hdep:0<=dep/\dep<=1099511627776) {o:Ob} (hat:0<=o.at_/\o.at_<=1125899906842624) (hdt:0<=o.data/\o.data<=65535) (hq:0<=o.ptrs/\o.ptrs<=65535) (hk:o.kind=1) {m:Int} (hm:Mt m):ev 273 [.ptr 0 0,.pv (.agg o.c),.pv (I dep)] [[.pv (.sl 1 (zG l)),.pv (I d),.pv (I w),.pv (I b),.pv (I m)]]=Zl l d w b (zZ F l m o).2.2 (zZ F l m o).2.1 (zZ F l m o).1.x:=by
 have e1:=uY hl d w b m o o.at_ o.data (by omega)
 have hA:yY o=if 0<o.ptrs then o.at_+o.data else 0:=by
  unfold yY
  by_cases h:0<o.ptrs
  ·rw[if_pos ⟨hk,h⟩,if_pos h]
  ·rw[if_neg (fun x=>h x.2),if_neg (fun x=>absurd x.1 (by omega)),if_neg h]
 have hQ:wI o=if 0<o.ptrs then o.ptrs else 0:=by
  unfold wI
  by_cases h:0<o.ptrs
  ·rw[if_pos ⟨hk,h⟩,if_pos h]
  ·rw[if_neg (fun x=>h x.2),if_neg (fun x=>absurd x.1 (by omega)),if_neg h]
 have e2:=gc hF hO hdep hat hdt hA hQ (by split<;>omega) (by split<;>omega) hm
 rw[zaE (F:=F) o.seg (A:=o.at_+o.data) (fun h=>if_pos h)] at e2
 rw[Ob.c] at e1 e2 ⊢
 rw[zg7,e1]
 dsimp only[zl,zm2,xk,zt,zm4,wg,zo,zc,zm3,zgH]
 rw[e2]
 unfold zZ
 generalize hK:zW (fun m (i:Nat)=>F m o.seg (o.at_+o.data+i)) o.ptrs.toNat 0 m []=K
 by_cases h0:K.2.2=0
 ·rw[vB h0,vX h0]
  dsimp only[yT,wg,zo,zc]
  rw[vB h0]
  rfl
 ·rw[xW h0,qP h0]
  dsimp only[jc]
  rw[xW h0]
theorem zgI {l:List (List Int)} (hl:zF l) {d w b dep:Int} {F:Int->Int->Int->Nd×Int×Int} (hF:CV l d w b (dep+1) F) (hO:∀ m s a,Mt m->Fn (F m s a)) (hdep:0<=dep/\dep<=1099511627776) {o:Ob} (hat:0<=o.at_/\o.at_<=1099511627776) (hdt:0<=o.data/\o.data<=65535) (hq:0<=o.ptrs/\o.ptrs<=65535) (hn:0<=o.n/\o.n<=536870911):∀ (c i:Nat) (m:Int) (acc:List Nd),i+c=o.n.toNat->acc.length=i->Mt m->
  Qa dep o.n i (.sl 1 (zG l)) (I d) (I w) (I b) (I m) o.kind o.seg o.at_ o.data o.ptrs o.elem o.n o.cost 0 0 0 [] [] 2 o.elem o.n [] (zD acc)=Zl l d w b (zW (fun m (i:Nat)=>zZ F l m (yl o i)) c i m acc).2.2 (zW (fun m (i:Nat)=>zZ F l m (yl o i)) c i m acc).2.1 (.agg [I 2,I o.elem,I o.n,.sl 1 [],.sl 5 (zD (zW (fun m (i:Nat)=>zZ F l m (yl o i)) c i m acc).1)]):=by
 intro c
 induction c with
 |zero=>
  intro i m acc hi ha hm
  rw[js,decide_eq_false (by omega)]
  rfl
 |succ c ih=>
  intro i m acc hi ha hm
  have hmul:0<=(i:Int)*(o.data+o.ptrs)/\(i:Int)*(o.data+o.ptrs)<=536870911*131070:=Kd (by omega) (by omega)
  have hel:=KF o i (by omega) (by omega) (by omega)
  rw[Ob.c] at hel
  rw[js,decide_eq_true (by omega),hel]
  dsimp only[zl,zt,zm4,zc]
  rw[ge hl hF hO hdep (o:=yl o i) ⟨by dsimp only[yl];omega,by dsimp only[yl];omega⟩ hdt hq rfl hm]
  have hk:=qA hO l hm (o:=yl o i) hdt.2 hq.2
  by_cases h0:(zZ F l m (yl o i)).2.2=0
  ·rw[WM (F:=fun m (i:Nat)=>zZ F l m (yl o i)) (by exact h0),vB h0]
   dsimp only[yT]
   rw[zaX]
   dsimp only[zc]
   rw[yL (by simp;omega) (by simp;omega),zbD,ze (x:=(i:Int)+1)]
   exact ih (i+1) _ _ (by omega) (by simp;omega) hk.1
  ·rw[WL (F:=fun m (i:Nat)=>zZ F l m (yl o i)) (by exact h0),xW h0,xW h0]
   rfl
theorem zdL {l:List (List Int)} (hl:zF l) {d w b dep:Int} {F:Int->Int->Int->Nd×Int×Int} (hF:CV l d w b (dep+1) F) (hO:∀ m s a,Mt m->Fn (F m s a)) (hdep:0<=dep/\dep<=1099511627776) {o:Ob} (hok:vY l o) (hk:o.kind=2) {m:Int} (hm:Mt m):ev 274 [.ptr 0 0,.pv (.agg o.c),.pv (I dep)] [[.pv (.sl 1 (zG l)),.pv (I d),.pv (I w),.pv (I b),.pv (I m)]]=Zl l d w b (xx F l m o).2.2 (xx F l m o).2.1 (xx F l m o).1.x:=by
 obtain ⟨hat,hdt,hq,hel,hn,hc,hk',hw,hz⟩:=hok
 unfold xx
 by_cases h6:o.elem<6
 ·have e1:=uY hl d w b m o o.at_ o.cost (by omega)
  rw[Ob.c] at e1 ⊢
  rw[Jp,beq_eq_false_iff_ne.2 (show o.elem≠6 by omega),beq_eq_false_iff_ne.2 (show o.elem≠7 by omega),e1,if_pos h6]
  dsimp only[yT,zu]
  rw[Vz hel hn (vl _) (VK hn (hw hk h6) h6)]
  rfl
 ·rw[if_neg h6]
  by_cases h7:o.elem=6
  ·have hE:(fun m (i:Nat)=>if o.elem=6 then F m o.seg (o.at_+i) else zZ F l m (yl o i))=fun m (i:Nat)=>F m o.seg (o.at_+i):=by funext m i;rw[if_pos h7]
   rw[hE]
   have hA:yY o=if 0<o.n then o.at_ else 0:=by
    unfold yY
    rw[if_neg (fun x=>absurd x.1 (by omega))]
    by_cases h:0<o.n
    ·rw[if_pos ⟨hk,h7,h⟩,if_pos h]
    ·rw[if_neg (fun x=>h x.2.2),if_neg h]
   have hQ:wI o=if 0<o.n then o.n else 0:=by
    unfold wI
    rw[if_neg (fun x=>absurd x.1 (by omega))]
    by_cases h:0<o.n
    ·rw[if_pos ⟨hk,h7,h⟩,if_pos h]
    ·rw[if_neg (fun x=>h x.2.2),if_neg h]
   have e2:=gc hF hO hdep (o:=o) ⟨hat.1,by omega⟩ hdt hA hQ (by split<;>omega) (by split<;>omega) hm
   rw[zaE (F:=F) o.seg (A:=o.at_) (fun h=>if_pos h)] at e2
   rw[Ob.c] at e2 ⊢
   rw[Jp,beq_iff_eq.2 h7,e2]
   generalize hK:zW (fun m (i:Nat)=>F m o.seg (o.at_+i)) o.n.toNat 0 m []=K
   by_cases h0:K.2.2=0
   ·rw[vB h0,vX h0]
    dsimp only[yT,wg,zo,zc]
    rw[vB h0]
    rfl
   ·rw[xW h0,qP h0]
    dsimp only[jc,zc]
    rw[xW h0]
  ·have hE:(fun m (i:Nat)=>if o.elem=6 then F m o.seg (o.at_+i) else zZ F l m (yl o i))=fun m (i:Nat)=>zZ F l m (yl o i):=by funext m i;rw[if_neg h7]
   rw[hE,Ob.c,Jp,beq_eq_false_iff_ne.2 h7,beq_iff_eq.2 (show o.elem=7 by omega)]
   dsimp only[zc,zu]
   refine (zgI hl hF hO hdep hat hdt hq hn o.n.toNat 0 m [] (by omega) rfl hm).trans ?_
   generalize hK:zW (fun m (i:Nat)=>zZ F l m (yl o i)) o.n.toNat 0 m []=K
   by_cases h0:K.2.2=0
   ·rw[vB h0,vX h0]
    dsimp only
    rw[vB h0]
    rfl
   ·rw[xW h0,qP h0]
    dsimp only
    rw[xW h0]
theorem zej {l:List (List Int)} (hl:zF l) (hs:Sm l) {d w b:Int} (hd:d<=1099511627775):∀ (D:Nat) (dep:Int),0<=dep->dep<=1099511627776->(d+1-dep).toNat=D->CV l d w b dep (zH l D):=by
 intro D
 induction D with
 |zero=>
  intro dep h0 h1 hD m s a hm
  rw[ju,KH hl]
  dsimp only[WG,zl,zt,zm4,z6,zm3,zm2]
  by_cases he:(zV l s a).2.2.2=0
  ·rw[Wa he]
   dsimp only[zl,zt,zm4]
   rw[XE]
   dsimp only[zl,zt,zm4,y4]
   by_cases hz:(zV l s a).1=0
   ·rw[beq_iff_eq.2 hz,Ww he hz]
    rfl
   ·rw[beq_eq_false_iff_ne.2 hz,Vw,if_pos (show dep>d by omega),Jn he hz]
    dsimp only[zl,zt,zm4,zu]
    rw[Wb (by decide)]
    rfl
  ·rw[Wb he,Xg he,xW he]
   rfl
 |succ D ih=>
  intro dep h0 h1 hD m s a hm
  have hF:=ih (dep+1) (by omega) (by omega) (by omega)
  have hO:=jq hl hs D
  rw[ju,KH hl]
  dsimp only[WG,zl,zt,zm4,z6,zm3,zm2]
  by_cases he:(zV l s a).2.2.2=0
  ·rw[Wa he]
   dsimp only[zl,zt,zm4]
   rw[XE]
   dsimp only[zl,zt,zm4,y4]
   by_cases hz:(zV l s a).1=0
   ·rw[beq_iff_eq.2 hz,Ww he hz]
    rfl
   ·have hok:=Xw hl hs hz he
    rw[beq_eq_false_iff_ne.2 hz,Vw,if_neg (show ¬dep>d by omega),Jo he hz]
    dsimp only[zl,zt,zm4,zu]
    rw[Wa rfl,KK hl hs]
    generalize yn l s a=t at hok ⊢
    dsimp only[xL,Ob.c,zl,zt,zm4,z6,zm3,zm2,zfa,yF,zo,z7,zc]
    unfold wz
    by_cases hf:t.2=0
    ·have hok:=hok hf
     obtain ⟨hat,hdt,hq,hel,hn,hc,hk,hw,hz'⟩:=id hok
     obtain ⟨o,f⟩:=t
     dsimp only at hf hok hat hdt hq hel hn hc hk hw hz' ⊢
     rw[Wa hf,if_pos hf]
     dsimp only[zl,zt,zm4]
     rw[uM m o.cost (by unfold Mt at hm;omega)]
     dsimp only[zl,zt,zm4,z6,zm3,zm2,Y0,yF,zo,zc]
     by_cases h8:o.cost>m
     ·rw[if_pos h8,if_pos h8,if_pos h8,Wb (by decide)]
      rfl
     ·have hm':Mt (m-o.cost):=⟨by unfold Mt at hm;omega,by unfold Mt at hm;omega⟩
      rw[if_neg h8,if_neg h8,if_neg h8,Wa rfl]
      dsimp only[zl,zt,zm4]
      by_cases hk1:o.kind=1
      ·rw[beq_iff_eq.2 hk1,if_pos hk1]
       dsimp only[zc]
       have:=ge hl hF hO ⟨h0,by omega⟩ (o:=o) ⟨hat.1,by omega⟩ hdt hq hk1 hm'
       rw[Ob.c] at this
       rw[this]
       generalize zZ (zH l D) l (m-o.cost) o=K
       by_cases h9:K.2.2=0
       ·rw[vB h9];rfl
       ·rw[xW h9];rfl
      ·have hk2:o.kind=2:=by omega
       rw[beq_eq_false_iff_ne.2 hk1,if_neg hk1]
       dsimp only[zu]
       have:=zdL hl hF hO ⟨h0,by omega⟩ hok hk2 hm'
       rw[Ob.c] at this
       rw[this]
       generalize xx (zH l D) l (m-o.cost) o=K
       by_cases h9:K.2.2=0
       ·rw[vB h9];rfl
       ·rw[xW h9];rfl
    ·rw[if_neg hf,Wb hf,xW hf]
     rfl
  ·rw[Wb he,Xg he,xW he]
   rfl
def Xj (l:List (List Int)):Prop:=0<l.length/\(yz l 0).length=0
instance (l:List (List Int)):Decidable (Xj l):=by unfold Xj;infer_instance
def runT (l:List (List Int)) (d w:Int):Nd×Int×Int:=if Xj l then (nd0,max w 0,0) else zH l d.toNat (max w 0) 0 0
def y3 (l:List (List Int)) (d w:Int):Nd:=if (runT l d w).2.2=0 then zi (runT l d w).1 else nd0
def yV (l:List (List Int)) (d w:Int):Int:=(runT l d w).2.2
def vN (l:List (List Int)) (d w:Int):Int:=if (runT l d w).2.2=0 then max w 0-(runT l d w).2.1 else 0
theorem zgD (a:PV):decide ((PV.agg [a]).cells.length=1)=true:=rfl
theorem XP:zi nd0=nd0:=rfl
theorem Q1 {l:List (List Int)} (hl:zF l) (hs:Sm l) {d w:Int} (hw:w<=4611686018427387904):Fn (runT l d w):=by
 have hm:Mt (max w 0):=⟨by omega,by omega⟩
 unfold runT
 split
 ·exact ⟨hm,Zf⟩
 ·exact jq hl hs _ _ _ _ hm
theorem zb5 {l:List (List Int)} (h:0<l.length):(zG l)[0]? = some (.sl 1 (ws (yz l 0))):=by
 have:=XL (l:=l) (i:=0) (by omega) (by omega)
 exact this
def YI (t:Nd×Int×Int):PV:=.tup [if t.2.2=0 then t.1.x else nd0.x,.agg [if t.2.2=0 then I t.2.1 else I 0],I t.2.2]
theorem zaW:nd0.x=.agg [I 0,I 0,I 0,.sl 1 [],.sl 5 []]:=rfl
theorem gw {l:List (List Int)} (hl:zF l) (hs:Sm l) {d w b:Int} (hd:d<=1099511627775) (hw:w<=4611686018427387904):ev 178 [.pv (.sl 1 (zG l)),.pv (.agg [I d,I w,I b])] []=ok (YI (runT l d w)):=by
 have hm:Mt (max w 0):=⟨by omega,by omega⟩
 have hv:=zej hl hs (d:=d) (w:=w) (b:=b) hd d.toNat 1 (by omega) (by omega) (by omega) (max w 0) 0 0 hm
 rw[zg8,Vy]
 dsimp only[zl,zt,zm4]
 rw[zgD]
 dsimp only[V1,zm2,zm4,yF,zo,zc]
 by_cases h0:0<l.length
 ·rw[decide_eq_true (show ((zG l).length:Int)>0 by rw[W6];omega),zb5 h0]
  dsimp only[zm4,Zb,zm2,yx,zc]
  by_cases he:(yz l 0).length=0
  ·rw[yj,he,show (((0:Nat):Int)==0)=true from rfl]
   dsimp only[zc]
   rw[runT,if_pos ⟨h0,he⟩]
   rfl
  ·rw[yj,beq_eq_false_iff_ne.2 (show ((yz l 0).length:Int)≠0 by omega)]
   dsimp only[zu]
   rw[hv,runT,if_neg (fun h=>he h.2)]
   generalize zH l d.toNat (max w 0) 0 0=K
   by_cases h9:K.2.2=0
   ·rw[vB h9,YI,if_pos h9,if_pos h9,h9];rfl
   ·rw[xW h9,YI,if_neg h9,if_neg h9];rfl
 ·rw[decide_eq_false (show ¬((zG l).length:Int)>0 by rw[W6];omega)]
  dsimp only[zu]
  rw[hv,runT,if_neg (fun h=>h0 h.1)]
  generalize zH l d.toNat (max w 0) 0 0=K
  by_cases h9:K.2.2=0
  ·rw[vB h9,YI,if_pos h9,if_pos h9,h9];rfl
  ·rw[xW h9,YI,if_neg h9,if_neg h9];rfl
theorem QU (x:Nd):x.pv=x.x:=by cases x;rfl
theorem KJ {l:List (List Int)} (hl:zF l) (hs:Sm l) {d w b:Int} (hd:d<=1099511627775) (hw:w<=4611686018427387904):ev 176 [.pv (.sl 1 (zG l)),.pv (.agg [I d,I w,I b])] []=ok (.tup [(y3 l d w).x,I (yV l d w)]):=by
 have hr:=Q1 hl hs (d:=d) hw
 rw[zg4,gw hl hs hd hw]
 unfold y3 yV
 generalize runT l d w=K at hr
 unfold YI
 by_cases h9:K.2.2=0
 ·rw[if_pos h9,if_pos h9,if_pos h9]
  have ht:=gy K.1 hr.2
  rw[QU,QU] at ht
  dsimp only[Nd.x,zk,z6,zm3,zm2,zm4,Y0,yF,zo,zc,Y1,wg] at ht ⊢
  rw[ht]
  rfl
 ·rw[if_neg h9,if_neg h9,if_neg h9]
  have ht:=gy nd0 Zf
  rw[XP,QU] at ht
  rw[zaW] at ht ⊢
  dsimp only[zk,z6,zm3,zm2,zm4,Y0,yF,zo,zc,Y1,wg]
  rw[ht]
  rfl
theorem KI {l:List (List Int)} (hl:zF l) (hs:Sm l) {d w b:Int} (hd:d<=1099511627775) (hw:w<=4611686018427387904):ev 110 [.pv (.sl 1 (zG l)),.pv (.agg [I d,I w,I b])] []=ok (.tup [I (vN l d w),I (yV l d w)]):=by
 have hr:=Q1 hl hs (d:=d) hw
 rw[zg3,gw hl hs hd hw]
 unfold vN yV
 generalize runT l d w=K at hr
 have hm:=hr.1
 unfold Mt at hm
 unfold YI
 by_cases h9:K.2.2=0
 ·rw[if_pos h9,if_pos h9,if_pos h9,h9]
  dsimp only[Nd.x,zk,z6,zm3,zm2,zm4,z7,Y0,yF,zo,zc,Y1,wg]
  rw[show ((0:Int) != 0)=false from rfl,zfH,Vy]
  dsimp only[zl,zt,zm4,zjr,zm2,z7,zk,zu]
  rw[ze (by omega)]
 ·rw[if_neg h9,if_neg h9,if_neg h9,zaW]
  dsimp only[zk,z6,zm3,zm2,zm4,z7,Y0,yF,zo,zc,Y1,wg]
  rw[ww h9]
  rfl
theorem zb1 {d:List Int} (hd:d.length<=17592186044416):∀ (c i:Nat),i+c=d.length->Y9 (bs d) (bs d) i=ok (Bo true):=by
 intro c
 induction c with
 |zero=>intro i hi;rw[VW,decide_eq_false (by simp;omega)];rfl
 |succ c ih=>
  intro i hi
  rw[VW,decide_eq_true (show (i:Int)<((bs d).length:Int) by simp;omega),dT (0<=(i:Int))]
  dsimp only[zo,zc]
  rw[zmX,Yr (by omega)]
  dsimp only[zm4,yi,zm2,vQ]
  rw[show (d[i] != d[i])=false from by simp,ze (x:=(i:Int)+1)]
  exact ih (i+1) (by omega)
theorem zhn {l:List Nd} (hl:l.length<=1073741824) (hv:∀ x∈l,ev 134 [.pv x.pv,.pv x.pv] []=ok (Bo true)) (a b c a' b' c':Int) (x y:List PV):∀ (c0 i:Nat),i+c0=l.length->VY i a b c x (zD l) a' b' c' y (zD l)=ok (Bo true):=by
 intro c0
 induction c0 with
 |zero=>intro i hi;rw[rU,decide_eq_false (by simp;omega)];rfl
 |succ c0 ih=>
  intro i hi
  have hil:i<l.length:=by omega
  rw[rU,decide_eq_true (show (i:Int)<((zD l).length:Int) by simp;omega),dT (0<=(i:Int))]
  dsimp only[zo,zc]
  rw[zmX,vR hil]
  dsimp only[zm4]
  rw[ZA,zaY,hv _ (List.getElem_mem hil),ze (x:=(i:Int)+1)]
  exact ih (i+1) (by omega)
theorem zdo (x:Nd):yr x->ev 134 [.pv x.pv,.pv x.pv] []=ok (Bo true):=by
 induction x using Nd.ind with
 |h k e n d ks ih=>
  intro hg
  rw[yr,goods_iff] at hg
  obtain ⟨⟨hd,hb,hk,h8⟩,hks⟩:=hg
  rw[Nd.pv,zgs,show (k != k)=false from by simp,show (e != e)=false from by simp,show (n != n)=false from by simp,Jc,show (((bs d).length:Int) != ((bs d).length:Int))=false from by simp]
  dsimp only[zu]
  have hsm:Y9 (bs d) (bs d) 0=ok (Bo true):=zb1 hd d.length 0 (by omega)
  rw[hsm,show (((zD ks).length:Int) != ((zD ks).length:Int))=false from by simp]
  dsimp only[zu,zk,y4,zm4,vp]
  exact zhn hk (fun x hx=>ih x hx (hks x hx)) k e n k e n (bs d) (bs d) ks.length 0 (by omega)
theorem uP {x:Nd} (h:yr x):ev 134 [.pv x.x,.pv x.x] []=ok (Bo true):=by
 have:=zdo x h
 rwa [QU] at this
theorem zh4 (x:Nd):yr x->yr (zi x):=by
 induction x using Nd.ind with
 |h k e n d ks ih=>
  intro hg
  rw[yr,goods_iff] at hg
  obtain ⟨⟨hd,hb,hk,h8⟩,hks⟩:=hg
  rw[zi,xo]
  by_cases h1:k=1
  ·rw[if_pos h1,yr,goods_iff]
   have h88:=h8 h1
   refine ⟨⟨by rw[zm0];omega,fun b hx=>hb b (List.mem_of_mem_take hx),by rw[zm0,zmU];omega,fun _=>?_⟩,?_⟩
   ·rw[zm0]
    have:=vo (·==0) d
    unfold yp
    omega
   ·intro y hy
    obtain ⟨x,hx,rfl⟩:=List.mem_map.1 (List.mem_of_mem_take hy)
    exact ih x hx (hks x hx)
  ·rw[if_neg h1,yr,goods_iff]
   refine ⟨⟨hd,hb,by rw[zmU];omega,fun h=>absurd h h1⟩,?_⟩
   intro y hy
   obtain ⟨x,hx,rfl⟩:=List.mem_map.1 hy
   exact ih x hx (hks x hx)
theorem zhJ {l:List (List Int)} (hl:zF l):∀ (c i:Nat),i+c=l.length->(∀ j,j<i->(yz l j).length<=300)->∃ bl:Bool,Wo (zG l) i=ok (Bo bl)/\(bl=true->l.length<=20/\∀ j:Nat,j<l.length->(yz l j).length<=300):=by
 intro c
 induction c with
 |zero=>
  intro i hi hj
  refine ⟨decide (((zG l).length:Int)<=20),?_,?_⟩
  ·rw[Jd,decide_eq_false (by simp;omega)];rfl
  ·intro h
   have:=of_decide_eq_true h
   simp at this
   exact ⟨by omega,fun j h=>hj j (by omega)⟩
 |succ c ih=>
  intro i hi hj
  have hil:i<l.length:=by omega
  have hb:=hl.1
  by_cases h3:(yz l (i:Int)).length<=300
  ·obtain ⟨bl,e,hbl⟩:=ih (i+1) (by omega) fun j hjj=>by
    rcases Nat.lt_or_ge j i with h|h
    ·exact hj j h
    ·rw[show j=i by omega];exact h3
   refine ⟨bl,?_,hbl⟩
   rw[Jd,decide_eq_true (show (i:Int)<((zG l).length:Int) by simp;omega),dT (0<=(i:Int)),XL (by omega) (by omega)]
   dsimp only[zo,zm4,Zb,zm2,yx,zc]
   rw[decide_eq_false (by simp;omega),ze (x:=(i:Int)+1)]
   exact e
  ·refine ⟨false,?_,fun h=>absurd h (by decide)⟩
   rw[Jd,decide_eq_true (show (i:Int)<((zG l).length:Int) by simp;omega),dT (0<=(i:Int)),XL (by omega) (by omega)]
   dsimp only[zo,zm4,Zb,zm2,yx,zc]
   rw[decide_eq_true (by simp;omega)]
   rfl
theorem zdB {l:List (List Int)} (hl:zF l) (d w b:Int):∃ bl:Bool,ev 53 [.pv (.sl 1 (zG l)),.pv (.agg [I d,I w,I b])] []=ok (Bo bl)/\(bl=true->d<=40/\w<=2000/\l.length<=20/\∀ j:Nat,j<l.length->(yz l j).length<=300):=by
 obtain ⟨bl,e,hb⟩:=zhJ hl l.length 0 (by omega) (fun j h=>absurd h (by omega))
 by_cases h1:d<=40
 ·by_cases h2:w<=2000
  ·refine ⟨bl,?_,fun h=>⟨h1,h2,hb h⟩⟩
   have e':Wo (zG l) 0=ok (Bo bl):=e
   rw[Je,decide_eq_true h1,decide_eq_true h2,zgo,e']
   rfl
  ·refine ⟨false,?_,fun h=>absurd h (by decide)⟩
   rw[Je,decide_eq_true h1,decide_eq_false h2]
   rfl
 ·refine ⟨false,?_,fun h=>absurd h (by decide)⟩
  rw[Je,decide_eq_false h1]
  rfl
theorem zb9 {l:List (List Int)} (h:∀ j:Nat,j<l.length->(yz l j).length<=300):Sm l:=by
 intro s
 unfold yz
 rcases Nat.lt_or_ge s.toNat l.length with h1|h1
 ·have:=h s.toNat h1
  unfold yz at this
  rw[zmX] at this
  omega
 ·rw[List.getD_eq_getElem?_getD,List.getElem?_eq_none h1]
  simp
theorem zdy {d:List Int} (hd:d.length<=17592186044416):ev 27 [.pv (.sl 1 (bs d)),.pv (.sl 1 (bs d))] []=ok (Bo true):=by
 rw[Jc,show (((bs d).length:Int) != ((bs d).length:Int))=false from by simp]
 exact zb1 hd d.length 0 (by omega)
theorem Zh {s:List Int} (h:s.length<=300) (hw:∀ x∈s,zU x):zF [s]/\Sm [s]:=by
 refine ⟨⟨by simp,fun t ht=>?_⟩,zb9 fun j hj=>?_⟩
 ·rw[List.mem_singleton.1 ht];exact ⟨by omega,hw⟩
 ·rw[show j=0 by simp at hj;omega];exact h
theorem sA:zF [[281483566645248,7,0,107374182401,255]]/\Sm [[281483566645248,7,0,107374182401,255]]:=Zh (by decide) (by intro x hx;simp at hx;unfold zU;omega)
theorem mA:ev 176 [.pv (.sl 1 [.sl 1 [U 281483566645248,U 7,U 0,U 107374182401,U 255]]),.pv (.agg [I 3,I 20,I 0])] []=ok (.tup [.agg [I 1,I 0,I 0,.sl 1 (bs [7,0,0,0,0,0,0,0]),.sl 5 [.agg [I 2,I 1,I 3,.sl 1 (bs [7]),.sl 5 []]]],I 0]):=by
 have h:=KJ sA.1 sA.2 (d:=3) (w:=20) (b:=0) (by decide) (by decide)
 have e:ok (.tup [(y3 [[281483566645248,7,0,107374182401,255]] 3 20).x,I (yV [[281483566645248,7,0,107374182401,255]] 3 20)])=ok (.tup [.agg [I 1,I 0,I 0,.sl 1 (bs [7,0,0,0,0,0,0,0]),.sl 5 [.agg [I 2,I 1,I 3,.sl 1 (bs [7]),.sl 5 []]]],I 0]):=by kernel_rfl
 exact h.trans e
theorem zmi (x:Value):(decide ((PV.v x).cells.length=1)&&(PV.v x).cells.all PV.isCell)=true:=rfl
theorem q0:ev 134 [.pv (.agg [I 0,I 0,I 0,.sl 1 [],.sl 5 []]),.pv (.agg [I 0,I 0,I 0,.sl 1 [],.sl 5 []])] []=ok (Bo true):=uP Zf
theorem zh3:yr (.mk 2 1 3 [7] []):=by rw[yr];exact ⟨⟨by simp,by intro b hb;simp at hb;unfold zj;omega,by simp,fun h=>absurd h (by decide)⟩,trivial⟩
theorem q1:ev 134 [.pv (.agg [I 2,I 1,I 3,.sl 1 (bs [7]),.sl 5 []]),.pv (.agg [I 2,I 1,I 3,.sl 1 [U8 7],.sl 5 []])] []=ok (Bo true):=uP zh3
theorem q2:ev 27 [.pv (.sl 1 (bs [7,0,0,0,0,0,0,0])),.pv (.sl 1 [U8 7,U8 0,U8 0,U8 0,U8 0,U8 0,U8 0,U8 0])] []=ok (Bo true):=zdy (by decide)
theorem zit {α:Type} {p:α->Bool} {l:List α}:yH p (l.take (yH p l))=yH p l:=by
 induction hn:l.length generalizing l with
 |zero=>have:=List.length_eq_zero_iff.1 hn;subst this;rfl
 |succ n ih=>
  rcases List.eq_nil_or_concat l with rfl|⟨l',x,rfl⟩
  ·rfl
  ·rw[List.concat_eq_append] at hn ⊢
   have hl:l'.length=n:=by simpa using hn
   rw[wO]
   have hle:=vo p l'
   split
   ·rw[List.take_append_of_le_length hle]
    exact ih hl
   ·rename_i hp
    rw[show (l'++[x]).take (l'.length+1)=l'++[x] from List.take_of_length_le (by simp),wO,if_neg hp]
theorem zmt {d:List Int} (h8:d.length%8=0):(d.take (8*yp d)).length=8*yp d/\yp (d.take (8*yp d))=yp d:=by
 have hle:=vo (·==0) d
 have h1:(d.take (8*yp d)).length=8*yp d:=by
  rw[zm0]
  unfold yp
  omega
 refine ⟨h1,?_⟩
 have h2:8*yp d<=d.length:=by unfold yp;omega
 have hk:yH (·==0) (d.take (8*yp d))=yH (·==0) d:=by
  have hge:yH (·==0) d<=8*yp d:=by unfold yp;omega
  have mono:∀ (j:Nat),yH (·==0) d<=j->j<=d.length->yH (·==0) (d.take j)=yH (·==0) d:=by
   intro j hj hjd
   induction hm:d.length-j generalizing j with
   |zero=>rw[List.take_of_length_le (by omega)]
   |succ m ih=>
    have hjl:j<d.length:=by omega
    have:=ih (j+1) (by omega) (by omega) (by omega)
    rw[ZL hjl,wO] at this
    split at this
    ·exact this
    ·rw[zm0] at this
     omega
  exact mono _ hge (by omega)
 unfold yp at hk ⊢
 rw[hk]
theorem zj6 (ks:List Nd):yo (ks.take (yo ks))=yo ks/\(ks.take (yo ks)).length=yo ks:=⟨zit,by rw[zm0];have:=vo (fun x:Nd=>x.kind==0) ks;unfold yo;omega⟩
theorem YO (x:Nd):(zi x).kind=x.kind:=by
 cases x with
 |mk k e n d ks=>rw[zi];split<;>rfl
theorem qe (ks:List Nd):yo (vg ks)=yo ks:=by
 rw[xo]
 unfold yo
 induction hn:ks.length generalizing ks with
 |zero=>have:=List.length_eq_zero_iff.1 hn;subst this;rfl
 |succ n ih=>
  rcases List.eq_nil_or_concat ks with rfl|⟨l',x,rfl⟩
  ·rfl
  ·rw[List.concat_eq_append] at hn ⊢
   rw[List.map_append,List.map_singleton,wO,wO,YO,ih l' (by simpa using hn),zmU]
inductive TrN:Nd->Prop
 |mk {k e n:Int} {d:List Int} {ks:List Nd}:(k=1->8*yp d=d.length/\yo ks=ks.length)->(∀ x∈ks,TrN x)->TrN (.mk k e n d ks)
theorem zlv (x:Nd):yr x->TrN (zi x):=by
 induction x using Nd.ind with
 |h k e n d ks ih=>
  intro hg
  rw[yr,goods_iff] at hg
  obtain ⟨⟨hd,hb,hk,h8⟩,hks⟩:=hg
  rw[zi]
  by_cases h1:k=1
  ·rw[if_pos h1]
   refine .mk (fun _=>?_) fun y hy=>?_
   ·obtain ⟨a1,a2⟩:=zmt (h8 h1)
    have:=zj6 (vg ks)
    rw[qe] at this
    exact ⟨by rw[a1,a2],by rw[this.1,this.2]⟩
   ·have:=List.mem_of_mem_take hy
    rw[xo] at this
    obtain ⟨x,hx,rfl⟩:=List.mem_map.1 this
    exact ih x hx (hks x hx)
  ·rw[if_neg h1]
   refine .mk (fun h=>absurd h h1) fun y hy=>?_
   rw[xo] at hy
   obtain ⟨x,hx,rfl⟩:=List.mem_map.1 hy
   exact ih x hx (hks x hx)
def yg (x:Nd):List Nd:=if x.kind=2/\x.elem=7 then x.kids.flatMap Nd.kids else x.kids
def Dp:Nat->Nd->Prop
 |0,x=>x.kind=0
 |D+1,x=>x.kind=0∨((yg x).length<=1073741824/\∀ y∈yg x,Dp D y)
theorem zhg {D:Nat} {x:Nd} (h:x.kind=0):Dp D x:=by
 cases D with
 |zero=>exact h
 |succ D=>exact .inl h
def KD (k e n:Int) (d:List Int) (q:Nat):Prop :=
 (k=0/\e=0/\n=0/\d.length=0/\q=0)∨(k=1/\e=0/\n=0/\d.length%8=0/\d.length<=524280/\q<=65535)∨
 (k=2/\(0<=n/\n<=536870911)/\(0<=e/\e<=7)/\(6<=e->d.length=0/\(q:Int)=n)/\(e<6->q=0/\(d.length:Int)=z4 e n/\trimB e n d=d))
inductive VN:Nd->Prop
 |mk {k e n:Int} {d:List Int} {ks:List Nd}:(∀ x∈ks,VN x)->(k=2->e=7->∀ x∈ks,x.kind=1)->KD k e n d ks.length->VN (.mk k e n d ks)
theorem Ks:VN nd0:=.mk (fun x h=>by cases h) (fun _ _ x h=>by cases h) (.inl ⟨rfl,rfl,rfl,rfl,rfl⟩)
theorem zaG {G:Int->Nat->Nd×Int×Int} {Q:Nd->Prop} (h:∀ m i,(G m i).2.2=0->Q (G m i).1):∀ c i m acc,(∀ x∈acc,Q x)->∀ x∈(zW G c i m acc).1,Q x:=by
 intro c
 induction c with
 |zero=>intro i m acc ha;exact ha
 |succ c ih=>
  intro i m acc ha
  by_cases h0:(G m i).2.2=0
  ·rw[WM h0]
   refine ih _ _ _ fun x hx=>?_
   rcases List.mem_append.1 hx with h1|h1
   ·exact ha x h1
   ·rw[List.mem_singleton.1 h1];exact h m i h0
  ·rw[WL h0]
   exact fun x hx=>by cases hx
theorem zaH {G:Int->Nat->Nd×Int×Int}:∀ c i m acc,(zW G c i m acc).2.2=0->(zW G c i m acc).1.length=acc.length+c:=by
 intro c
 induction c with
 |zero=>intro i m acc _;rfl
 |succ c ih=>
  intro i m acc hz
  by_cases h0:(G m i).2.2=0
  ·rw[WM h0] at hz ⊢
   rw[ih _ _ _ hz]
   simp
   omega
  ·rw[WL h0] at hz
   exact absurd hz h0
def Vu (D:Nat) (F:Int->Int->Int->Nd×Int×Int):Prop:=∀ m s a,(F m s a).2.2=0->VN (F m s a).1/\Dp D (F m s a).1
theorem Kg {D:Nat} {F:Int->Int->Int->Nd×Int×Int} (h:Vu D F) (l:List (List Int)) (m:Int) {o:Ob} (hd:o.data<=65535) (hq:0<=o.ptrs/\o.ptrs<=65535) (hz:(zZ F l m o).2.2=0):VN (zZ F l m o).1/\(zZ F l m o).1.kind=1/\(zZ F l m o).1.kids.length=o.ptrs.toNat/\∀ y∈(zZ F l m o).1.kids,Dp D y:=by
 unfold zZ at hz ⊢
 have hz':(zW (fun m (i:Nat)=>F m o.seg (o.at_+o.data+i)) o.ptrs.toNat 0 m []).2.2=0:=hz
 have ha:=zaG (G:=fun m (i:Nat)=>F m o.seg (o.at_+o.data+i)) (Q:=fun x=>VN x/\Dp D x) (fun m i h0=>h m _ _ h0) o.ptrs.toNat 0 m [] (fun x hx=>by cases hx)
 have hl:=zaH (G:=fun m (i:Nat)=>F m o.seg (o.at_+o.data+i)) o.ptrs.toNat 0 m [] hz'
 rw[vX hz']
 generalize zW (fun m (i:Nat)=>F m o.seg (o.at_+o.data+i)) o.ptrs.toNat 0 m []=K at ha hl
 have hcl:=Zx l o.seg o.at_ o.data
 refine ⟨.mk (fun x hx=>(ha x hx).1) (fun h2=>absurd h2 (by decide)) (.inr (.inl ⟨rfl,rfl,rfl,rq l _ _ _,?_,?_⟩)),rfl,?_,fun y hy=>(ha y hy).2⟩
 ·rw[xJ];omega
 ·simp at hl;omega
 ·show K.1.length=_
  simpa using hl
theorem zlc {D:Nat} {F:Int->Int->Int->Nd×Int×Int} (h:Vu D F) (l:List (List Int)) (m:Int) {o:Ob} (hd:o.data<=65535) (hq:0<=o.ptrs/\o.ptrs<=65535) (hz:(zZ F l m o).2.2=0):VN (zZ F l m o).1/\Dp (D+1) (zZ F l m o).1:=by
 obtain ⟨a1,a2,a3,a4⟩:=Kg h l m hd hq hz
 refine ⟨a1,.inr ?_⟩
 have:yg (zZ F l m o).1=(zZ F l m o).1.kids:=by unfold yg;rw[if_neg (fun x=>by rw[a2] at x;exact absurd x.1 (by decide))]
 rw[this]
 exact ⟨by rw[a3];omega,a4⟩
theorem zlw {e c:Int} {b:List Int} (hc:0<=c/\c<=536870911) (hn:z4 e c<=b.length):((trimB e c b).length:Int)=z4 e c/\trimB e c (trimB e c b)=trimB e c b:=by
 have hr:=rr (e:=e) hc
 unfold trimB
 by_cases h1:e=1/\0<c%8
 ·simp only[if_pos h1]
  have hb1:1<=z4 e c:=by
   obtain ⟨rfl,h8⟩:=h1
   have hbn:z4 1 c=(c+7)/8:=by unfold z4 bitsOf;simp
   omega
  have hlen:(b.take (z4 e c-1).toNat).length=(z4 e c-1).toNat:=by rw[zm0];omega
  refine ⟨by rw[zm5,hlen];simp;omega,?_⟩
  rw[List.take_append_of_le_length (by omega),List.take_of_length_le (by omega)]
  congr 2
  have:rd (b.take (z4 e c-1).toNat++[rd b (z4 e c-1)%2^(c%8).toNat]) (z4 e c-1)=rd b (z4 e c-1)%2^(c%8).toNat:=by
   conv=>lhs;unfold rd
   rw[List.getD_eq_getElem?_getD,List.getElem?_append_right (by omega),hlen,Nat.sub_self]
   rfl
  rw[this,Int.emod_emod_of_dvd _ (Int.dvd_refl _)]
 ·simp only[if_neg h1]
  refine ⟨by rw[zm0];omega,?_⟩
  rw[List.take_take,Nat.min_self]
theorem zi7 {l:List (List Int)} {s st c:Int} (h:(wF l s st c).2=0):(wF l s st c).1.n*(wF l s st c).1.ptrs<=c∨(wF l s st c).1.data<0∨(wF l s st c).1.n<0:=by
 unfold wF at h ⊢
 by_cases hb:inB l s st (c+1)
 ·rw[if_pos hb] at h ⊢
  generalize zI (wd l s st)=p at h ⊢
  by_cases hk:p.1=0/\0<=p.2.1/\p.2.1*(p.2.2.1+p.2.2.2.1)<=c
  ·rw[if_pos hk]
   dsimp only
   by_cases h0:p.2.2.1<0
   ·exact .inr (.inl h0)
   ·refine .inl ?_
    have:p.2.1*p.2.2.2.1<=p.2.1*(p.2.2.1+p.2.2.2.1):=Int.mul_le_mul_of_nonneg_left (by omega) hk.2.1
    omega
  ·rw[if_neg hk] at h
   exact xU h (by decide)
 ·rw[if_neg hb] at h
  exact xU h (by decide)
def Np (o:Ob):Prop:=o.kind=2->o.elem=7->o.n*o.ptrs<=536870911
theorem za3 {l:List (List Int)} (hl:zF l) (hs:Sm l) {s a:Int} (h0:(zV l s a).1≠0) (he:(zV l s a).2.2.2=0) (h:(yn l s a).2=0):Np (yn l s a).1:=by
 have hok:=Xw hl hs h0 he h
 obtain ⟨_,hdt,_,_,hn,_⟩:=hok
 have hd:=ZX (Qn hl s a)
 unfold yn at h hdt hn ⊢
 rw[if_pos he,if_neg h0] at h hdt hn ⊢
 unfold vu at h hdt hn ⊢
 generalize zI (zV l s a).1=p at h hdt hn hd ⊢
 by_cases k0:p.1=0
 ·rw[if_pos k0] at h hdt hn ⊢
  intro k2
  unfold vv at k2
  split at k2<;>first|exact absurd k2 (show ¬((1:Int)=2) by decide)|exact absurd k2 (show ¬((0:Int)=2) by decide)
 ·rw[if_neg k0] at h hdt hn ⊢
  by_cases k1:p.1=1
  ·rw[if_pos k1] at h hdt hn ⊢
   unfold vt at h hdt hn ⊢
   by_cases h7:p.2.2.2.2.1=7
   ·rw[if_pos h7] at h hdt hn ⊢
    intro _ _
    have:=zi7 h
    omega
   ·rw[if_neg h7] at h ⊢
    split
    ·exact fun _ h=>absurd h h7
    ·rename_i hb
     rw[if_neg hb] at h
     exact xU h (by decide)
  ·rw[if_neg k1] at h
   split at h
   ·exact xU h (by decide)
   ·exact xU h (by decide)
theorem zhK {l:List Nd} {q:Nat} (h:∀ x∈l,x.kids.length=q):(l.flatMap Nd.kids).length=l.length*q:=by
 induction l with
 |nil=>simp
 |cons x l ih=>
  rw[List.flatMap_cons,zm5,ih (fun y hy=>h y (zmV _ hy)),h x zmW,zm6,Nat.succ_mul]
  omega
theorem zg0 {D:Nat} {F:Int->Int->Int->Nd×Int×Int} (h:Vu D F) (l:List (List Int)) (m:Int) {o:Ob} (ho:vY l o) (hp:Np o) (hk:o.kind=2) (hz:(xx F l m o).2.2=0):VN (xx F l m o).1/\Dp (D+1) (xx F l m o).1:=by
 obtain ⟨hat,hd,hq,he,hn,hc,_,hw,_⟩:=ho
 unfold xx at hz ⊢
 by_cases h6:o.elem<6
 ·rw[if_pos h6]
  have ht:=zlw hn (VK hn (hw hk h6) h6)
  refine ⟨.mk (fun x hx=>by cases hx) (fun _ _ x hx=>by cases hx) (.inr (.inr ⟨rfl,hn,he,fun h=>absurd h (by omega),fun _=>⟨rfl,ht.1,ht.2⟩⟩)),.inr ?_⟩
  have:yg (.mk 2 o.elem o.n (trimB o.elem o.n (zM (cutB l o.seg o.at_ o.cost))) [])=[]:=by unfold yg;split<;>rfl
  rw[this]
  exact ⟨by simp,fun y hy=>by cases hy⟩
 ·rw[if_neg h6] at hz ⊢
  have hz':(zW (fun m (i:Nat)=>if o.elem=6 then F m o.seg (o.at_+i) else zZ F l m (yl o i)) o.n.toNat 0 m []).2.2=0:=hz
  have ha:=zaG (G:=fun m (i:Nat)=>if o.elem=6 then F m o.seg (o.at_+i) else zZ F l m (yl o i)) (Q:=fun x=>VN x/\(o.elem=6->Dp D x)/\(o.elem≠6->x.kind=1/\x.kids.length=o.ptrs.toNat/\∀ y∈x.kids,Dp D y)) (fun m i h0=>by
   by_cases h7:o.elem=6
   ·simp only[if_pos h7] at h0 ⊢
    obtain ⟨b1,b2⟩:=h m _ _ h0
    exact ⟨b1,fun _=>b2,fun h=>absurd h7 h⟩
   ·simp only[if_neg h7] at h0 ⊢
    obtain ⟨b1,b2,b3,b4⟩:=Kg h l m (o:=yl o i) hd.2 hq h0
    exact ⟨b1,fun h=>absurd h h7,fun _=>⟨b2,b3,b4⟩⟩) o.n.toNat 0 m [] (fun x hx=>by cases hx)
  have hl:=zaH (G:=fun m (i:Nat)=>if o.elem=6 then F m o.seg (o.at_+i) else zZ F l m (yl o i)) o.n.toNat 0 m [] hz'
  rw[vX hz']
  generalize zW (fun m (i:Nat)=>if o.elem=6 then F m o.seg (o.at_+i) else zZ F l m (yl o i)) o.n.toNat 0 m []=K at ha hl
  have hl':K.1.length=o.n.toNat:=by simpa using hl
  refine ⟨.mk (fun x hx=>(ha x hx).1) (fun _ h7 x hx=>((ha x hx).2.2 (by omega)).1) (.inr (.inr ⟨rfl,hn,he,fun _=>⟨rfl,by omega⟩,fun h=>absurd h h6⟩)),.inr ?_⟩
  dsimp only
  by_cases h7:o.elem=7
  ·have ht:yg (.mk 2 o.elem o.n [] K.1)=K.1.flatMap Nd.kids:=by unfold yg;exact if_pos ⟨rfl,h7⟩
   rw[ht]
   refine ⟨?_,fun y hy=>?_⟩
   ·rw[zhK (fun x hx=>((ha x hx).2.2 (by omega)).2.1),hl']
    have:=hp hk h7
    have e:((o.n.toNat*o.ptrs.toNat:Nat):Int)=o.n*o.ptrs:=by rw[Int.natCast_mul,Int.toNat_of_nonneg hn.1,Int.toNat_of_nonneg hq.1]
    omega
   ·obtain ⟨x,hx,hy⟩:=List.mem_flatMap.1 hy
    exact ((ha x hx).2.2 (by omega)).2.2 y hy
  ·have ht:yg (.mk 2 o.elem o.n [] K.1)=K.1:=by unfold yg;exact if_neg (fun x=>h7 x.2)
   rw[ht]
   exact ⟨by rw[hl'];omega,fun y hy=>(ha y hy).2.1 (by omega)⟩
theorem V9 {l:List (List Int)} (hl:zF l) (hs:Sm l):∀ D,Vu D (zH l D):=by
 intro D
 induction D with
 |zero=>
  intro m s a hz
  by_cases he:(zV l s a).2.2.2=0
  ·by_cases h0:(zV l s a).1=0
   ·rw[Ww he h0];exact ⟨Ks,rfl⟩
   ·rw[Jn he h0] at hz;exact absurd hz (by show ¬((7:Int)=0);decide)
  ·rw[Xg he] at hz;exact absurd hz he
 |succ D ih=>
  intro m s a hz
  by_cases he:(zV l s a).2.2.2=0
  ·by_cases h0:(zV l s a).1=0
   ·rw[Ww he h0];exact ⟨Ks,.inl rfl⟩
   ·rw[Jo he h0] at hz ⊢
    unfold wz at hz ⊢
    by_cases hf:(yn l s a).2=0
    ·rw[if_pos hf] at hz ⊢
     have hok:=Xw hl hs h0 he hf
     have hnp:=za3 hl hs h0 he hf
     by_cases h8:(yn l s a).1.cost>m
     ·rw[if_pos h8] at hz;exact absurd hz (by show ¬((8:Int)=0);decide)
     ·rw[if_neg h8] at hz ⊢
      obtain ⟨hat,hd,hq,_,_,_,hk,_⟩:=id hok
      by_cases h1:(yn l s a).1.kind=1
      ·rw[if_pos h1] at hz ⊢
       exact zlc ih l _ hd.2 hq hz
      ·rw[if_neg h1] at hz ⊢
       exact zg0 ih l _ hok hnp (by omega) hz
    ·rw[if_neg hf] at hz;exact absurd hz hf
  ·rw[Xg he] at hz;exact absurd hz he
theorem Vj (x:Nd):VN x->VN (zi x):=by
 induction x using Nd.ind with
 |h k e n d ks ih=>
  intro hv
  cases hv with
  |mk v1 v2 v3=>
  rw[zi,xo]
  have hm:∀ y∈ks.map zi,VN y:=fun y hy=>by
   obtain ⟨x,hx,rfl⟩:=List.mem_map.1 hy
   exact ih x hx (v1 x hx)
  by_cases h1:k=1
  ·rw[if_pos h1]
   refine .mk (fun x hx=>hm x (List.mem_of_mem_take hx)) (fun h2=>absurd h2 (by omega)) ?_
   unfold KD at v3 ⊢
   rw[zm0,zm0,zmU]
   rcases v3 with v3|v3|v3
   ·omega
   ·obtain ⟨_,a2,a3,a4,a5,a6⟩:=v3
    have:=vo (·==0) d
    refine .inr (.inl ⟨h1,a2,a3,?_,by omega,by omega⟩)
    unfold yp
    omega
   ·omega
  ·rw[if_neg h1]
   refine .mk hm (fun h2 h7 y hy=>?_) ?_
   ·obtain ⟨x,hx,rfl⟩:=List.mem_map.1 hy
    rw[YO]
    exact v2 h2 h7 x hx
   ·rw[zmU];exact v3
theorem JP (x:Nd):(zi x).kids.length<=x.kids.length/\∀ y∈(zi x).kids,∃ z∈x.kids,y=zi z:=by
 cases x with
 |mk k e n d ks=>
  rw[zi,xo]
  split
  ·refine ⟨by show ((ks.map zi).take _).length<=ks.length;rw[zm0,zmU];omega,fun y hy=>?_⟩
   have hy':y∈(ks.map zi).take (yo ks):=hy
   obtain ⟨z,hz,rfl⟩:=List.mem_map.1 (List.mem_of_mem_take hy')
   exact ⟨z,hz,rfl⟩
  ·refine ⟨by show (ks.map zi).length<=ks.length;rw[zmU];omega,fun y hy=>?_⟩
   have hy':y∈ks.map zi:=hy
   obtain ⟨z,hz,rfl⟩:=List.mem_map.1 hy'
   exact ⟨z,hz,rfl⟩
theorem qI (x:Nd):(zi x).elem=x.elem:=by
 cases x with
 |mk k e n d ks=>rw[zi];split<;>rfl
theorem j1:∀ l:List Nd,((l.map zi).flatMap Nd.kids).length<=(l.flatMap Nd.kids).length
 |[]=>Nat.le_refl _
 |x::l=>by
  have:=j1 l
  have:=(JP x).1
  rw[List.map_cons,List.flatMap_cons,List.flatMap_cons,zm5,zm5]
  omega
theorem zlt (x:Nd):(yg (zi x)).length<=(yg x).length/\∀ y∈yg (zi x),∃ z∈yg x,y=zi z:=by
 unfold yg
 rw[YO,qI]
 by_cases h:x.kind=2/\x.elem=7
 ·rw[if_pos h,if_pos h]
  have hk:(zi x).kids=x.kids.map zi:=by
   cases x with
   |mk k e n d ks=>
    rw[zi,xo,if_neg (fun h1=>by have:k=2:=h.1;omega)]
    rfl
  rw[hk]
  refine ⟨j1 _,fun y hy=>?_⟩
  obtain ⟨u,hu,hy⟩:=List.mem_flatMap.1 hy
  obtain ⟨v,hv,rfl⟩:=List.mem_map.1 hu
  obtain ⟨z,hz,rfl⟩:=(JP v).2 y hy
  exact ⟨z,List.mem_flatMap.2 ⟨v,hv,hz⟩,rfl⟩
 ·rw[if_neg h,if_neg h]
  exact JP x
theorem zhh:∀ (D:Nat) (x:Nd),Dp D x->Dp D (zi x):=by
 intro D
 induction D with
 |zero=>intro x h;exact (YO x).trans h
 |succ D ih=>
  intro x h
  rcases h with h|⟨h1,h2⟩
  ·exact .inl ((YO x).trans h)
  ·obtain ⟨a1,a2⟩:=zlt x
   exact .inr ⟨by omega,fun y hy=>by obtain ⟨z,hz,rfl⟩:=a2 y hy;exact ih z (h2 z hz)⟩
theorem zcw (k e n:Int) (d:List Int) (ks:List Nd):yg (.mk k e n d ks)=if k=2/\e=7 then ks.flatMap Nd.kids else ks:=rfl
theorem zam {x:Nd} (hg:yr x):∀ y∈yg x,yr y:=by
 have kid:∀ {x:Nd},yr x->∀ y∈x.kids,yr y:=fun {x} h y hy=>by
  cases x with
  |mk k e n d ks=>rw[yr,goods_iff] at h;exact h.2 y hy
 unfold yg
 split
 ·intro y hy
  obtain ⟨z,hz,hy⟩:=List.mem_flatMap.1 hy
  exact kid (kid hg z hz) y hy
 ·exact kid hg
theorem zkJ {l:List (List Int)} (hl:zF l) (hs:Sm l) {d w:Int} (h:(runT l d w).2.2=0):VN (runT l d w).1/\Dp d.toNat (runT l d w).1:=by
 by_cases he:Xj l
 ·rw[runT,if_pos he]
  exact ⟨Ks,zhg rfl⟩
 ·have e1:runT l d w=zH l d.toNat (max w 0) 0 0:=by rw[runT,if_neg he]
  rw[e1] at h ⊢
  exact V9 hl hs _ _ _ _ h
def zn (l:List Nd):Nat:=l.foldr (fun x a=>max (x.data.length/8) a) 0
def zq (l:List Nd):Nat:=l.foldr (fun x a=>max x.kids.length a) 0
def yB (x:Nd):Int:=if x.kind=0 then 0 else if x.kind=1 then ((x.data.length/8+x.kids.length:Nat):Int) else if x.elem=7 then 1+x.n*((zn x.kids+zq x.kids:Nat):Int) else zs x.elem x.n
def zm (l:List Int):Int:=l.foldr (fun a b=>a+b) 0
def zC:Nat->Nd->Int
 |0,x=>yB x
 |D+1,x=>yB x+zm ((yg x).map (zC D))
theorem zld (a b:List Int):zm (a++b)=zm a+zm b:=by
 unfold zm
 induction a with
 |nil=>simp
 |cons x a ih=>simp only[List.cons_append,List.foldr_cons,ih];omega
theorem wn:zm []=0:=rfl
theorem xY (x:Int) (l:List Int):zm (x::l)=x+zm l:=rfl
theorem xZ {l:List Int} (h:∀ x∈l,0<=x):0<=zm l:=by
 induction l with
 |nil=>exact Int.le_refl _
 |cons x l ih=>
  rw[xY]
  have:=h x zmW
  have:=ih fun y hy=>h y (zmV _ hy)
  omega
theorem zcM {l:List Nd} {x:Nd} (h:x∈l):x.data.length/8<=zn l:=by
 unfold zn
 induction l with
 |nil=>cases h
 |cons y l ih=>
  rw[List.foldr_cons]
  rcases List.mem_cons.1 h with rfl|h
  ·omega
  ·have:=ih h;omega
theorem XQ {l:List Nd} {b:Nat} (h:∀ x∈l,x.data.length/8<=b):zn l<=b:=by
 unfold zn
 induction l with
 |nil=>exact Nat.zero_le _
 |cons y l ih=>
  rw[List.foldr_cons]
  have:=h y zmW
  have:=ih fun x hx=>h x (zmV _ hx)
  omega
theorem XR {l:List Nd} {b:Nat} (h:∀ x∈l,x.kids.length<=b):zq l<=b:=by
 unfold zq
 induction l with
 |nil=>exact Nat.zero_le _
 |cons y l ih=>
  rw[List.foldr_cons]
  have:=h y zmW
  have:=ih fun x hx=>h x (zmV _ hx)
  omega
theorem zlN (l:List Nd) (x:Nd):zn (l++[x])=max (zn l) (x.data.length/8):=by
 unfold zn
 induction l with
 |nil=>simp
 |cons y l ih=>simp only[List.cons_append,List.foldr_cons,ih];omega
theorem zlO (l:List Nd) (x:Nd):zq (l++[x])=max (zq l) x.kids.length:=by
 unfold zq
 induction l with
 |nil=>simp
 |cons y l ih=>simp only[List.cons_append,List.foldr_cons,ih];omega
theorem zlP {l:List Nd} (hl:l.length<=1073741824) (hd:∀ x∈l,x.data.length<=17592186044416) (a b c:Int) (x y:List PV):∀ (c0 i:Nat),i+c0=l.length->Kl (zn (l.take i):Nat) (zq (l.take i):Nat) (zD l) l.length i a b c x y=ok (.tup [I (zn l:Nat),I (zq l:Nat)]):=by
 intro c0
 induction c0 with
 |zero=>
  intro i hi
  rw[zcF,decide_eq_false (by omega),List.take_of_length_le (by omega)]
  rfl
 |succ c0 ih=>
  intro i hi
  have hil:i<l.length:=by omega
  have hdi:=hd _ (List.getElem_mem hil)
  rw[zcF,dT ((i:Int)<(l.length:Int)),dT (0<=(i:Int)),decide_eq_true (show (i:Int)<((zD l).length:Int) by simp;omega)]
  dsimp only[zo,zc]
  rw[zmX,vR hil]
  dsimp only[zm4]
  rw[ZA,Z4,show (l[i].c.drop 0).take 5=l[i].c from rfl]
  dsimp only[Nd.c,zm2,zm3,zm4,wg,zo,yx,yF,zc]
  rw[zK,wQ,Int.tdiv_eq_ediv_of_nonneg (by omega),ze (x:=(l[i].data.length:Int)/8),ze (x:=(i:Int)+1)]
  have h1:(if (l[i].data.length:Int)/8>((zn (l.take i):Nat):Int) then (l[i].data.length:Int)/8 else ((zn (l.take i):Nat):Int))=((zn (l.take (i+1)):Nat):Int):=by
   rw[ZL hil,zlN]
   split<;>omega
  have h2:(if (l[i].kids.length:Int)>((zq (l.take i):Nat):Int) then (l[i].kids.length:Int) else ((zq (l.take i):Nat):Int))=((zq (l.take (i+1)):Nat):Int):=by
   rw[ZL hil,zlO]
   split<;>omega
  rw[h1,h2]
  exact ih (i+1) (by omega)
theorem uW {x:Nd} (hl:x.kids.length<=1073741824) (hd:∀ y∈x.kids,y.data.length<=17592186044416):ev 219 [.pv x.x] []=ok (.tup [I (zn x.kids:Nat),I (zq x.kids:Nat)]):=by
 rw[Nd.x,zlB,wQ]
 exact zlP hl hd x.kind x.elem x.n (bs x.data) (zD x.kids) x.kids.length 0 (by omega)
theorem YA {x:Nd} (h:yr x):x.data.length<=17592186044416/\x.kids.length<=1073741824/\∀ y∈x.kids,yr y:=by
 cases x with
 |mk k e n d ks=>
  rw[yr,goods_iff] at h
  exact ⟨h.1.1,h.1.2.2.1,h.2⟩
theorem wT {x:Nd} (h:VN x):KD x.kind x.elem x.n x.data x.kids.length/\(∀ y∈x.kids,VN y):=by
 cases h with
 |mk v1 v2 v3=>exact ⟨v3,v1⟩
theorem Xv {x:Nd} (h:VN x):0<=yB x:=by
 obtain ⟨hs,_⟩:=wT h
 unfold yB
 rcases hs with hs|hs|hs
 ·rw[if_pos hs.1];exact Int.le_refl _
 ·rw[if_neg (by omega),if_pos hs.1];omega
 ·rw[if_neg (by omega),if_neg (by omega)]
  split
  ·have:=Int.mul_nonneg hs.2.1.1 (Int.natCast_nonneg (zn x.kids+zq x.kids))
   omega
  ·exact (Yj hs.2.1).1
theorem uR {x:Nd} (hg:yr x) (hv:VN x) (hb:yB x<=4611686018427387904) (hu:zn x.kids+zq x.kids<=4611686018427387904):ev 262 [.pv x.x] []=ok (I (yB x)):=by
 obtain ⟨hd,hk,hks⟩:=YA hg
 obtain ⟨hs,_⟩:=wT hv
 have hun:=uW hk (fun y hy=>(YA (hks y hy)).1)
 rw[Nd.x] at hun ⊢
 rw[zgc,zK,wQ]
 unfold yB at hb ⊢
 rcases hs with hs|hs|hs
 ·rw[beq_iff_eq.2 hs.1,if_pos hs.1];rfl
 ·rw[beq_eq_false_iff_ne.2 (show x.kind≠0 by omega),beq_iff_eq.2 hs.1,if_neg (by omega),if_pos hs.1]
  dsimp only[zc,zu]
  rw[Int.tdiv_eq_ediv_of_nonneg (by omega),ze (x:=(x.data.length:Int)/8),ze (by omega)]
  rw[show (x.data.length:Int)/8+(x.kids.length:Int)=((x.data.length/8+x.kids.length:Nat):Int) by omega]
 ·rw[if_neg (by omega),if_neg (by omega)] at hb ⊢
  rw[beq_eq_false_iff_ne.2 (show x.kind≠0 by omega),beq_eq_false_iff_ne.2 (show x.kind≠1 by omega)]
  dsimp only[zu]
  by_cases h7:x.elem=7
  ·rw[if_pos h7] at hb ⊢
   rw[beq_iff_eq.2 h7]
   dsimp only[zc]
   rw[hun]
   have hm:=Int.mul_nonneg hs.2.1.1 (Int.natCast_nonneg (zn x.kids+zq x.kids))
   dsimp only[zk,z6,zm3,zm2,zm4,z7]
   rw[ze (x:=((zn x.kids:Nat):Int)+((zq x.kids:Nat):Int)),show ((zn x.kids:Nat):Int)+((zq x.kids:Nat):Int)=((zn x.kids+zq x.kids:Nat):Int) by push_cast;rfl,ze (x:=x.n*((zn x.kids+zq x.kids:Nat):Int)),ze (by omega)]
  ·rw[if_neg h7]
   rw[beq_eq_false_iff_ne.2 h7,KN hs.2.2.1 hs.2.1]
   rfl
noncomputable def yU {α:Type} (x y:α):Bool:=@decide (x=y) (Classical.propDecidable _)
theorem wN {α:Type} {x y:α} (h:x=y):yU x y=true:=by unfold yU;exact @decide_eq_true _ (Classical.propDecidable _) h
theorem wA {α:Type} {x y:α} (h:¬x=y):yU x y=false:=by unfold yU;exact @decide_eq_false _ (Classical.propDecidable _) h
theorem Jx {α β:Type} {x y:α} {u v:β} (h:x=y↔u=v):yU x y=yU u v:=by
 by_cases hx:x=y
 ·rw[wN hx,wN (h.1 hx)]
 ·rw[wA hx,wA (fun e=>hx (h.2 e))]
theorem zlr {α:Type} {a b:List α} {i:Nat} (ha:i<a.length) (hb:i<b.length) (h:a.take i=b.take i) (e:a[i]=b[i]):a.take (i+1)=b.take (i+1):=by
 rw[ZL ha,ZL hb,h,e]
theorem zkT {d d':List Int} (hd:d.length<=17592186044416) (hl:d.length=d'.length):∀ (c i:Nat),i+c=d.length->d.take i=d'.take i->Y9 (bs d) (bs d') i=ok (Bo (yU d d')):=by
 intro c
 induction c with
 |zero=>
  intro i hi ht
  rw[List.take_of_length_le (by omega),List.take_of_length_le (by omega)] at ht
  rw[VW,decide_eq_false (by simp;omega),wN ht]
  rfl
 |succ c ih=>
  intro i hi ht
  rw[VW,decide_eq_true (show (i:Int)<((bs d).length:Int) by simp;omega),dT (0<=(i:Int)),decide_eq_true (show (i:Int)<((bs d').length:Int) by simp;omega)]
  dsimp only[zo,zc]
  rw[zmX,Yr (l:=d) (by omega)]
  dsimp only[zm4,yi,zm2,vQ]
  rw[Yr (l:=d') (by omega)]
  dsimp only[zm4,yi,zm2,vQ]
  by_cases he:d[i]=d'[i]
  ·rw[show (d[i] != d'[i])=false from by simpa using he,ze (x:=(i:Int)+1)]
   exact ih (i+1) (by omega) (zlr (by omega) (by omega) ht he)
  ·rw[bne_iff_ne.2 he,wA (fun h=>he (by subst h;rfl))]
   rfl
theorem zdx {d d':List Int} (hd:d.length<=17592186044416) (hd':d'.length<=17592186044416):ev 27 [.pv (.sl 1 (bs d)),.pv (.sl 1 (bs d'))] []=ok (Bo (yU d d')):=by
 rw[Jc,zK,zK]
 by_cases hl:d.length=d'.length
 ·rw[show ((d.length:Int) != (d'.length:Int))=false from by simp;omega]
  exact zkT hd hl d.length 0 (by omega) (by rw[List.take_zero,List.take_zero])
 ·rw[show ((d.length:Int) != (d'.length:Int))=true from by simp;omega,wA (fun h=>hl (by rw[h]))]
  rfl
def xw (l:List Int):List Int:=l.take (yH (·==0) l)
theorem ji (l:List Int) (x:Int):xw (l++[x])=if x=0 then xw l else l++[x]:=by
 unfold xw
 rw[wO]
 by_cases h:x=0
 ·subst h
  rw[if_pos (by rfl),if_pos rfl,List.take_append_of_le_length (vo _ _)]
 ·rw[if_neg (by simpa using h),if_neg h,List.take_of_length_le (by simp)]
theorem jk:∀ (n:Nat) (l:List Int),xw (l++List.replicate n 0)=xw l
 |0,l=>by simp
 |n+1,l=>by rw[List.replicate_succ',←List.append_assoc,ji,if_pos rfl,jk n l]
theorem jg (l:List Int):∃ n,l=xw l++List.replicate n 0:=by
 induction hn:l.length generalizing l with
 |zero=>have:=List.length_eq_zero_iff.1 hn;subst this;exact ⟨0,rfl⟩
 |succ n ih=>
  rcases List.eq_nil_or_concat l with rfl|⟨l',x,rfl⟩
  ·exact ⟨0,rfl⟩
  ·rw[List.concat_eq_append] at hn ⊢
   rw[ji]
   by_cases h:x=0
   ·subst h
    obtain ⟨m,hm⟩:=ih l' (by simpa using hn)
    refine ⟨m+1,?_⟩
    rw[if_pos rfl,List.replicate_succ',←List.append_assoc,←hm]
   ·rw[if_neg h]
    exact ⟨0,by simp⟩
theorem jh {a b:List Int} (h:xw a=xw b) (i:Nat):a.getD i 0=b.getD i 0:=by
 obtain ⟨n,hn⟩:=jg a
 obtain ⟨m,hm⟩:=jg b
 have key:∀ (c:List Int) (n i:Nat),(c++List.replicate n 0).getD i 0=c.getD i 0:=fun c n i=>by
  simp only[List.getD_eq_getElem?_getD]
  rcases Nat.lt_or_ge i c.length with h|h
  ·rw[List.getElem?_append_left h]
  ·rw[List.getElem?_append_right h,List.getElem?_eq_none h,List.getElem?_replicate]
   split<;>rfl
 rw[hn,hm,key,key,h]
theorem zgV {a b:List Int} (hl:a.length<=b.length) (h:∀ i,a.getD i 0=b.getD i 0):xw a=xw b:=by
 have:b=a++List.replicate (b.length-a.length) 0:=by
  apply List.ext_getElem
  ·simp;omega
  ·intro i h1 h2
   have:=h i
   simp only[List.getD_eq_getElem?_getD,zmS h1,Option.getD_some] at this
   rw[←this]
   rcases Nat.lt_or_ge i a.length with h3|h3
   ·rw[List.getElem_append_left h3,zmS h3];rfl
   ·rw[List.getElem_append_right h3,List.getElem?_eq_none h3];simp
 rw[this,jk]
theorem jl {a b:List Int} (hb:b.length<=17592186044416) (hl:a.length<=b.length):∀ (c i:Nat),i+c=b.length->(∀ j,j<i->a.getD j 0=b.getD j 0)->Zy (ws a) (ws b) b.length i=ok (Bo (yU (xw a) (xw b))):=by
 intro c
 induction c with
 |zero=>
  intro i hi ht
  rw[jE,decide_eq_false (by omega),wN (zgV hl fun j=>by
   rcases Nat.lt_or_ge j i with h|h
   ·exact ht j h
   ·simp only[List.getD_eq_getElem?_getD]
    rw[List.getElem?_eq_none (by omega),List.getElem?_eq_none (by omega)])]
  rfl
 |succ c ih=>
  intro i hi ht
  have hib:i<b.length:=by omega
  have hgb:b.getD i 0=b[i]:=by simp only[List.getD_eq_getElem?_getD,zmS hib];rfl
  have next:a.getD i 0=b.getD i 0->Zy (ws a) (ws b) b.length ((i:Int)+1)=ok (Bo (yU (xw a) (xw b))):=fun he=>ih (i+1) (by omega) fun j hj=>by
   rcases Nat.lt_or_ge j i with h|h
   ·exact ht j h
   ·rw[show j=i by omega];exact he
  rw[jE,dT ((i:Int)<(b.length:Int)),dT (0<=(i:Int)),yj,yj,dT ((i:Int)<(b.length:Int))]
  dsimp only[zo,zc]
  rw[zmX,Yk hib]
  dsimp only[zm4,yi,zm2,vA]
  rw[ze (x:=(i:Int)+1)]
  by_cases hia:i<a.length
  ·have hga:a.getD i 0=a[i]:=by simp only[List.getD_eq_getElem?_getD,zmS hia];rfl
   rw[dT ((i:Int)<(a.length:Int)),Yk hia,dF ((i:Int)≥(a.length:Int))]
   dsimp only[zu,zm4,yi,zm2,vA,zc]
   by_cases he:a[i]=b[i]
   ·rw[show (a[i] != b[i])=false from by simpa using he]
    exact next (by rw[hga,hgb,he])
   ·rw[bne_iff_ne.2 he,wA (fun h=>he (by have:=jh h i;rw[hga,hgb] at this;exact this))]
    rfl
  ·have hga:a.getD i 0=0:=by simp only[List.getD_eq_getElem?_getD];rw[List.getElem?_eq_none (by omega)];rfl
   rw[dF ((i:Int)<(a.length:Int)),dT ((i:Int)≥(a.length:Int))]
   dsimp only[zc,zu]
   by_cases he:b[i]=0
   ·rw[show (b[i] != 0)=false from by simpa using he]
    exact next (by rw[hga,hgb,he])
   ·rw[ww he,wA (fun h=>he (by have:=jh h i;rw[hga,hgb] at this;exact this.symm))]
    rfl
theorem zhj {α:Type} (x y:α):yU x y=yU y x:=Jx ⟨Eq.symm,Eq.symm⟩
theorem Vv {a b:List Int} (ha:a.length<=17592186044416) (hb:b.length<=17592186044416):ev 237 [.pv (.sl 1 (ws a)),.pv (.sl 1 (ws b))] []=ok (Bo (yU (xw a) (xw b))):=by
 rw[zhk,yj,yj]
 by_cases hl:a.length<b.length
 ·rw[dT ((a.length:Int)<(b.length:Int))]
  exact jl hb (by omega) b.length 0 (by omega) (fun j h=>absurd h (by omega))
 ·rw[dF ((a.length:Int)<(b.length:Int)),zhj]
  exact jl ha (by omega) a.length 0 (by omega) (fun j h=>absurd h (by omega))
theorem zaC {α:Type} (p:α->Bool) (a:List α):∀ b:List α,yH p (a++b)=if yH p b=0 then yH p a else a.length+yH p b:=by
 intro b
 induction hn:b.length generalizing b with
 |zero=>have:=List.length_eq_zero_iff.1 hn;subst this;rw[List.append_nil,if_pos (by rfl)]
 |succ n ih=>
  rcases List.eq_nil_or_concat b with rfl|⟨b',x,rfl⟩
  ·rw[List.append_nil,if_pos (by rfl)]
  ·rw[List.concat_eq_append] at hn ⊢
   rw[←List.append_assoc,wO,wO,ih b' (by simpa using hn)]
   by_cases hp:p x=true
   ·rw[if_pos hp,if_pos hp]
   ·rw[if_neg hp,if_neg hp,if_neg (by omega),zm5]
    omega
theorem zfK (u:List Int) (x:Int):zM (u++[x])=zM u++w8 x:=by simp[zM]
theorem qO {w:Int} (h:zU w):w=w/256^0%256+256*(w/256^1%256)+65536*(w/256^2%256)+16777216*(w/256^3%256)+4294967296*(w/256^4%256)+1099511627776*(w/256^5%256)+281474976710656*(w/256^6%256)+72057594037927936*(w/256^7%256):=by
 obtain ⟨h1,h2⟩:=h
 simp only[show (256:Int)^0=1 from rfl,show (256:Int)^1=256 from rfl,show (256:Int)^2=65536 from rfl,show (256:Int)^3=16777216 from rfl,show (256:Int)^4=4294967296 from rfl,show (256:Int)^5=1099511627776 from rfl,show (256:Int)^6=281474976710656 from rfl,show (256:Int)^7=72057594037927936 from rfl]
 omega
theorem Kt (w:Int):w8 w=[w/256^0%256,w/256^1%256,w/256^2%256,w/256^3%256,w/256^4%256,w/256^5%256,w/256^6%256,w/256^7%256]:=rfl
theorem zma {a b:Int} (ha:zU a) (hb:zU b) (h:w8 a=w8 b):a=b:=by
 rw[Kt,Kt] at h
 simp only[List.cons.injEq,and_true] at h
 obtain ⟨e0,e1,e2,e3,e4,e5,e6,e7⟩:=h
 rw[qO ha,qO hb,e0,e1,e2,e3,e4,e5,e6,e7]
theorem zmb {x:Int} (hx:zU x):(x=0->yH (·==0) (w8 x)=0)/\(x≠0->1<=yH (·==0) (w8 x)/\yH (·==0) (w8 x)<=8):=by
 refine ⟨fun h=>by subst h;rfl,fun h=>⟨?_,?_⟩⟩
 ·by_cases h0:yH (·==0) (w8 x)=0
  ·exfalso
   apply h
   have hall:∀ y∈w8 x,y=0:=by
    have key:∀ (l:List Int),yH (·==0) l=0->∀ y∈l,y=0:=by
     intro l
     induction hn:l.length generalizing l with
     |zero=>have:=List.length_eq_zero_iff.1 hn;subst this;intro _ y hy;cases hy
     |succ n ih=>
      rcases List.eq_nil_or_concat l with rfl|⟨l',z,rfl⟩
      ·intro _ y hy;cases hy
      ·rw[List.concat_eq_append] at hn ⊢
       rw[wO]
       intro hk y hy
       split at hk
       ·rename_i hz
        rcases List.mem_append.1 hy with h1|h1
        ·exact ih l' (by simpa using hn) hk y h1
        ·rw[List.mem_singleton.1 h1];simpa using hz
       ·omega
    exact key _ h0
   rw[qO hx]
   rw[Kt] at hall
   simp only[List.mem_cons,List.not_mem_nil,or_false,forall_eq_or_imp,forall_eq] at hall
   obtain ⟨e0,e1,e2,e3,e4,e5,e6,e7⟩:=hall
   rw[e0,e1,e2,e3,e4,e5,e6,e7]
   rfl
  ·omega
 ·have:=vo (·==0) (w8 x)
  rw[wt] at this
  exact this
theorem zms:∀ (u:List Int),(∀ x∈u,zU x)->yp (zM u)=yH (·==0) u:=by
 intro u
 induction hn:u.length generalizing u with
 |zero=>have:=List.length_eq_zero_iff.1 hn;subst this;intro _;rfl
 |succ n ih=>
  rcases List.eq_nil_or_concat u with rfl|⟨u',x,rfl⟩
  ·intro _;rfl
  ·rw[List.concat_eq_append] at hn ⊢
   intro hw
   have hx:=hw x (by simp)
   have hu:=ih u' (by simpa using hn) fun y hy=>hw y (List.mem_append_left _ hy)
   obtain ⟨k1,k2⟩:=zmb hx
   unfold yp at hu ⊢
   rw[zfK,zaC,wO]
   by_cases h0:x=0
   ·rw[if_pos (k1 h0),hu,if_pos (by simpa using h0)]
   ·obtain ⟨a1,a2⟩:=k2 h0
    rw[if_neg (by omega),if_neg (by simpa using h0),xJ]
    omega
theorem rp:∀ (u:List Int) (k:Nat),(zM u).take (8*k)=zM (u.take k)
 |[],k=>by simp[zM]
 |x::u,0=>by simp[zM]
 |x::u,k+1=>by
  have e:zM (x::u)=w8 x++zM u:=rfl
  rw[e,List.take_append,wt,List.take_of_length_le (by rw[wt];omega),show 8*(k+1)-8=8*k by omega,rp u k,List.take_succ_cons]
  rfl
theorem zcG {u:List Int} (h:∀ x∈u,zU x):(zM u).take (8*yp (zM u))=zM (xw u):=by
 rw[zms u h,rp]
 rfl
theorem rn:∀ {a b:List Int},(∀ x∈a,zU x)->(∀ x∈b,zU x)->zM a=zM b->a=b
 |[],[],_,_,_=>rfl
 |[],y::b,_,_,h=>by have:=congrArg List.length h;rw[xJ,xJ] at this;simp at this
 |x::a,[],_,_,h=>by have:=congrArg List.length h;rw[xJ,xJ] at this;simp at this
 |x::a,y::b,ha,hb,h=>by
  have e:w8 x++zM a=w8 y++zM b:=h
  obtain ⟨e1,e2⟩:=List.append_inj e (by rw[wt,wt])
  rw[zma (ha x zmW) (hb y zmW) e1,rn (fun z hz=>ha z (zmV _ hz)) (fun z hz=>hb z (zmV _ hz)) e2]
theorem Vi {x:Nd} (h:VN x) (hk:x.kind=0):x=nd0:=by
 cases h with
 |mk v1 v2 v3=>
  rename_i k e n d ks
  have hk':k=0:=hk
  rcases v3 with ⟨a1,a2,a3,a4,a5⟩|⟨a1,_⟩|⟨a1,_⟩
  ·rw[a1,a2,a3,List.length_eq_zero_iff.1 a4,List.length_eq_zero_iff.1 a5];rfl
  ·omega
  ·omega
theorem je:∀ (l:List Nd),(∀ x∈l,VN x)->∃ n,l=l.take (yo l)++List.replicate n nd0:=by
 intro l
 induction hn:l.length generalizing l with
 |zero=>have:=List.length_eq_zero_iff.1 hn;subst this;exact fun _=>⟨0,rfl⟩
 |succ n ih=>
  rcases List.eq_nil_or_concat l with rfl|⟨l',x,rfl⟩
  ·exact fun _=>⟨0,rfl⟩
  ·rw[List.concat_eq_append] at hn ⊢
   intro hv
   obtain ⟨m,hm⟩:=ih l' (by simpa using hn) fun y hy=>hv y (List.mem_append_left _ hy)
   have hle:=vo (fun x:Nd=>x.kind==0) l'
   unfold yo at hm ⊢
   rw[wO]
   by_cases h:x.kind=0
   ·rw[if_pos (by simpa using h),List.take_append_of_le_length hle]
    refine ⟨m+1,?_⟩
    rw[List.replicate_succ',←List.append_assoc,←hm,Vi (hv x (by simp)) h]
   ·rw[if_neg (by simpa using h),List.take_of_length_le (by simp)]
    exact ⟨0,by simp⟩
theorem zak (c:List Nd) (n i:Nat):(c++List.replicate n nd0).getD i nd0=c.getD i nd0:=by
 simp only[List.getD_eq_getElem?_getD]
 rcases Nat.lt_or_ge i c.length with h|h
 ·rw[List.getElem?_append_left h]
 ·rw[List.getElem?_append_right h,List.getElem?_eq_none h,List.getElem?_replicate]
  split<;>rfl
theorem qf (c:List Nd):∀ n,(c++List.replicate n nd0).take (yo (c++List.replicate n nd0))=c.take (yo c)
 |0=>by simp
 |n+1=>by
  have ih:=qf c n
  have hle:=vo (fun x:Nd=>x.kind==0) (c++List.replicate n nd0)
  unfold yo at ih ⊢
  rw[List.replicate_succ',←List.append_assoc,wO,if_pos (by rfl),List.take_append_of_le_length hle,ih]
theorem jf {a b:List Nd} (hl:a.length<=b.length) (h:∀ i,i<b.length->a.getD i nd0=b.getD i nd0):a.take (yo a)=b.take (yo b):=by
 have:b=a++List.replicate (b.length-a.length) nd0:=by
  apply List.ext_getElem
  ·simp;omega
  ·intro i h1 h2
   have:=h i h1
   simp only[List.getD_eq_getElem?_getD,zmS h1,Option.getD_some] at this
   rw[←this]
   rcases Nat.lt_or_ge i a.length with h3|h3
   ·rw[List.getElem_append_left h3,zmS h3];rfl
   ·rw[List.getElem_append_right h3,List.getElem?_eq_none h3];simp
 rw[this,qf]
theorem zgU {a b:List Nd} (ha:∀ x∈a,VN x) (hb:∀ x∈b,VN x) {q:Nat} (hq:a.length<=q) (hq':b.length<=q):a.take (yo a)=b.take (yo b)↔∀ i,i<q->a.getD i nd0=b.getD i nd0:=by
 constructor
 ·intro h i _
  obtain ⟨n,hn⟩:=je a ha
  obtain ⟨m,hm⟩:=je b hb
  rw[hn,hm,zak,zak,h]
 ·intro h
  rcases Nat.le_total a.length b.length with hl|hl
  ·exact jf hl fun i hi=>h i (by omega)
  ·exact (jf hl fun i hi=>(h i (by omega)).symm).symm
theorem zaI {G:Int->Nat->Nd×Int×Int}:∀ c i m acc,(zW G c i m acc).2.2=0->∃ l',(zW G c i m acc).1=acc++l'/\l'.length=c/\∀ (j:Nat) (h:j<l'.length),∃ m1,(G m1 (i+j)).2.2=0/\(G m1 (i+j)).1=l'[j]:=by
 intro c
 induction c with
 |zero=>intro i m acc _;exact ⟨[],by simp[zW],rfl,fun j h=>absurd h (by simp)⟩
 |succ c ih=>
  intro i m acc hz
  by_cases h0:(G m i).2.2=0
  ·rw[WM h0] at hz ⊢
   obtain ⟨l',e1,e2,e3⟩:=ih _ _ _ hz
   refine ⟨(G m i).1::l',by rw[e1,List.append_assoc];rfl,by simp[e2],fun j h=>?_⟩
   cases j with
   |zero=>exact ⟨m,h0,rfl⟩
   |succ j=>
    obtain ⟨m1,f1,f2⟩:=e3 j (by simpa using h)
    refine ⟨m1,?_,?_⟩
    ·rw[show i+(j+1)=i+1+j by omega];exact f1
    ·rw[show i+(j+1)=i+1+j by omega];exact f2
  ·rw[WL h0] at hz
   exact absurd hz h0
def xM (b:List Int):Int:=b.getD 0 0+256*b.getD 1 0+65536*b.getD 2 0+16777216*b.getD 3 0+4294967296*b.getD 4 0+1099511627776*b.getD 5 0+281474976710656*b.getD 6 0+72057594037927936*b.getD 7 0
def zS:Nat->List Int->List Int
 |0,_=>[]
 |n+1,b=>xM b::zS n (b.drop 8)
@[simp] theorem xp:∀ (n:Nat) (b:List Int),(zS n b).length=n
 |0,_=>rfl
 |n+1,b=>by simp[zS,xp n]
theorem yR {b:List Int} (hb:∀ x∈b,zj x) (i:Nat):0<=b.getD i 0/\b.getD i 0<=255:=by
 rw[List.getD_eq_getElem?_getD]
 by_cases h:i<b.length
 ·rw[zmS h];exact hb _ (List.getElem_mem h)
 ·rw[List.getElem?_eq_none (by omega)];exact ⟨by simp,by simp⟩
theorem zmf {b:List Int} (hb:∀ x∈b,zj x):zU (xM b):=by
 have h0:=yR hb 0
 have h1:=yR hb 1
 have h2:=yR hb 2
 have h3:=yR hb 3
 have h4:=yR hb 4
 have h5:=yR hb 5
 have h6:=yR hb 6
 have h7:=yR hb 7
 unfold xM zU
 omega
theorem Vl:∀ (n:Nat) {b:List Int},(∀ x∈b,zj x)->∀ w∈zS n b,zU w
 |0,b,hb,w,hw=>by cases hw
 |n+1,b,hb,w,hw=>by
  rw[zS] at hw
  rcases List.mem_cons.1 hw with rfl|hw
  ·exact zmf hb
  ·exact Vl n (fun x hx=>hb x (List.mem_of_mem_drop hx)) w hw
theorem take8:∀ b:List Int,[b.getD 0 0,b.getD 1 0,b.getD 2 0,b.getD 3 0,b.getD 4 0,b.getD 5 0,b.getD 6 0,b.getD 7 0]=b.take 8++List.replicate (8-b.length) 0
 |[]=>rfl
 |[_]=>rfl
 |[_,_]=>rfl
 |[_,_,_]=>rfl
 |[_,_,_,_]=>rfl
 |[_,_,_,_,_]=>rfl
 |[_,_,_,_,_,_]=>rfl
 |[_,_,_,_,_,_,_]=>rfl
 |_::_::_::_::_::_::_::_::r=>by
  rw[show 8-(_::_::_::_::_::_::_::_::r:List Int).length=0 by simp]
  simp
theorem zmd {b:List Int} (hb:∀ x∈b,zj x):w8 (xM b)=b.take 8++List.replicate (8-b.length) 0:=by
 rw[←take8,Kt]
 have h0:=yR hb 0
 have h1:=yR hb 1
 have h2:=yR hb 2
 have h3:=yR hb 3
 have h4:=yR hb 4
 have h5:=yR hb 5
 have h6:=yR hb 6
 have h7:=yR hb 7
 unfold xM
 simp only[Int.reducePow,Int.pow_zero,Int.pow_succ,Int.reduceMul,List.cons.injEq,and_true]
 refine ⟨?_,?_,?_,?_,?_,?_,?_,?_⟩<;>omega
theorem K0:∀ (n:Nat) {b:List Int},(∀ x∈b,zj x)->b.length<=8*n->zM (zS n b)=b++List.replicate (8*n-b.length) 0
 |0,b,hb,hl=>by
  have:b=[]:=List.length_eq_zero_iff.1 (by omega)
  subst this
  rfl
 |n+1,b,hb,hl=>by
  have e:zM (zS (n+1) b)=w8 (xM b)++zM (zS n (b.drop 8)):=rfl
  rw[e,zmd hb,K0 n (fun x hx=>hb x (List.mem_of_mem_drop hx)) (by rw[List.length_drop];omega),List.length_drop]
  by_cases h:b.length<=8
  ·rw[List.take_of_length_le h,List.drop_eq_nil_of_le h,zm7,List.append_assoc,List.replicate_append_replicate]
   congr 2
   omega
  ·rw[show 8-b.length=0 by omega,List.replicate_zero,List.append_nil,←List.append_assoc,List.take_append_drop]
   congr 2
   omega
def yk (off:Int) (d q:Nat):Int:=off%1073741824*4+d*4294967296+q*281474976710656
def yG (off e c:Int):Int:=off%1073741824*4+1+e*4294967296+c*34359738368
theorem V4 {off:Int} {d q:Nat} (ho:-536870912<=off/\off<=536870911) (hd:d<=65535) (hq:q<=65535):zI (yk off d q)=(0,off,(d:Int),(q:Int),0,0,false,0,0,0)/\zU (yk off d q)/\yk off d q%4=0:=by
 have hm:=Int.emod_nonneg off (show (1073741824:Int)≠0 by decide)
 have hl:=Int.emod_lt_of_pos off (show (0:Int)<1073741824 by decide)
 have h4:yk off d q%4=0:=by unfold yk;omega
 refine ⟨?_,⟨by unfold yk;omega,by unfold yk;omega⟩,h4⟩
 unfold zI
 rw[if_pos h4]
 have e1:yk off d q/4%1073741824=off%1073741824:=by unfold yk;omega
 have e2:yk off d q/4294967296%65536=d:=by unfold yk;omega
 have e3:yk off d q/281474976710656%65536=q:=by unfold yk;omega
 rw[e1,e2,e3]
 have e4:vG (off%1073741824)=off:=by unfold vG;split<;>omega
 rw[e4]
theorem V3 {off e c:Int} (ho:-536870912<=off/\off<=536870911) (he:0<=e/\e<=7) (hc:0<=c/\c<=536870911):zI (yG off e c)=(1,off,0,0,e,c,false,0,0,0)/\zU (yG off e c)/\yG off e c%4=1:=by
 have hm:=Int.emod_nonneg off (show (1073741824:Int)≠0 by decide)
 have hl:=Int.emod_lt_of_pos off (show (0:Int)<1073741824 by decide)
 have h4:yG off e c%4=1:=by unfold yG;omega
 refine ⟨?_,⟨by unfold yG;omega,by unfold yG;omega⟩,h4⟩
 unfold zI
 rw[if_neg (by omega),if_pos h4]
 have e1:yG off e c/4%1073741824=off%1073741824:=by unfold yG;omega
 have e2:yG off e c/4294967296%8=e:=by unfold yG;omega
 have e3:yG off e c/34359738368%536870912=c:=by unfold yG;omega
 rw[e1,e2,e3]
 have e4:vG (off%1073741824)=off:=by unfold vG;split<;>omega
 rw[e4]
def ZN (x:Nd):Nat:=zn x.kids+zq x.kids
def yW (x:Nd) (off:Int):Int :=
 if x.kind=0 then 0 else if x.kind=1 then (if x.data.length/8=0/\x.kids.length=0 then yk (-1) 0 0 else yk off (x.data.length/8) x.kids.length)
 else if x.elem=7 then yG off 7 (x.n*(ZN x:Nat)) else yG off x.elem x.n
def xe (B:Nd->List Int):Nat->Nat->List Nd->List Int
 |_,_,[]=>[]
 |i,pos,t::r=>yW t ((pos:Int)-i-1)::xe B (i+1) (pos+(B t).length) r
def ZT (B:Nd->List Int) (ts:List Nd):Nat:=(ts.flatMap B).length
def xI (B:Nd->List Int) (a b:Nat):Nat->Nat->List Nd->List Int
 |_,_,[]=>[]
 |i,pos,k::r=>(zS a k.data++(xe B (i+a) pos k.kids++List.replicate (b-k.kids.length) 0))++xI B a b (i+(a+b)) (pos+ZT B k.kids) r
def xQ (B:Nd->List Int) (x:Nd):List Int :=
 if x.kind=1 then zS (x.data.length/8) x.data++xe B (x.data.length/8) (x.data.length/8+x.kids.length) x.kids
 else if x.elem=7 then yk x.n (zn x.kids) (zq x.kids)::xI B (zn x.kids) (zq x.kids) 1 (1+x.kids.length*ZN x) x.kids
 else if x.elem=6 then xe B 0 x.kids.length x.kids
 else zS (zs x.elem x.n).toNat x.data
def body:Nat->Nd->List Int
 |0,_=>[]
 |D+1,x=>if x.kind=0 then [] else xQ (body D) x++(yg x).flatMap (body D)
def xi (D:Nat) (x:Nd):List Int:=yW x 0::body D x
@[simp] theorem ZG (B:Nd->List Int):∀ (i pos:Nat) (l:List Nd),(xe B i pos l).length=l.length
 |_,_,[]=>rfl
 |i,pos,t::r=>by simp[xe,ZG B]
theorem VG (B:Nd->List Int) (a b:Nat):∀ (i pos:Nat) (l:List Nd),(∀ k∈l,k.kids.length<=b)->(xI B a b i pos l).length=l.length*(a+b)
 |_,_,[],_=>by simp[xI]
 |i,pos,k::r,h=>by
  have h1:=h k zmW
  have h2:=VG B a b (i+(a+b)) (pos+ZT B k.kids) r fun x hx=>h x (zmV _ hx)
  simp only[xI,zm5,xp,ZG,zmZ,h2,zm6]
  rw[Nat.add_mul]
  omega
theorem XS {l:List Nd} {x:Nd} (h:x∈l):x.kids.length<=zq l:=by
 unfold zq
 induction l with
 |nil=>cases h
 |cons y l ih=>
  rw[List.foldr_cons]
  rcases List.mem_cons.1 h with rfl|h
  ·omega
  ·have:=ih h;omega
theorem za2 (B:Nd->List Int) {x:Nd} (hv:VN x) (h0:x.kind≠0):((xQ B x).length:Int)=yB x:=by
 obtain ⟨hs,_⟩:=wT hv
 unfold xQ yB
 rw[if_neg h0]
 rcases hs with hs|hs|hs
 ·exact absurd hs.1 h0
 ·rw[if_pos hs.1,if_pos hs.1,zm5,xp,ZG]
 ·have hk1:¬x.kind=1:=by omega
  rw[if_neg hk1,if_neg hk1]
  by_cases h7:x.elem=7
  ·rw[if_pos h7,if_pos h7,zm6,VG _ _ _ _ _ _ (fun k hk=>XS hk),←(hs.2.2.2.1 (by omega)).2]
   push_cast
   omega
  ·rw[if_neg h7,if_neg h7]
   by_cases h6:x.elem=6
   ·rw[if_pos h6,ZG,h6]
    have:=(hs.2.2.2.1 (by omega)).2
    unfold zs bitsOf
    rw[if_neg (by decide)]
    simp
    omega
   ·rw[if_neg h6,xp]
    have:=(Yj (e:=x.elem) hs.2.1).1
    omega
theorem zcj (B:Nd->List Int) (S:Nd->Int):∀ (l:List Nd),(∀ t∈l,((B t).length:Int)=S t)->((l.flatMap B).length:Int)=zm (l.map S)
 |[],_=>rfl
 |t::l,h=>by
  rw[List.flatMap_cons,zm5,List.map_cons,xY,←h t zmW,←zcj B S l fun x hx=>h x (zmV _ hx)]
  push_cast
  rfl
theorem Zq {x:Nd} (hv:VN x):∀ t∈yg x,VN t:=by
 obtain ⟨_,hk⟩:=wT hv
 intro t ht
 unfold yg at ht
 split at ht
 ·obtain ⟨k,hk1,hk2⟩:=List.mem_flatMap.1 ht
  exact (wT (hk k hk1)).2 t hk2
 ·exact hk t ht
theorem JW {x:Nd} (h:x.kind=0):yB x=0:=by unfold yB;rw[if_pos h]
theorem zls {x:Nd} (hv:VN x) (h:x.kind=0):yg x=[]:=by rw[Vi hv h];rfl
theorem Xt {x:Nd} (hv:VN x) (h:x.kind=0):∀ D,zC D x=0
 |0=>JW h
 |D+1=>by rw[zC,zls hv h,JW h];rfl
theorem gZ:∀ (D:Nat) {x:Nd},VN x->Dp D x->((body D x).length:Int)=zC D x
 |0,x,hv,hd=>by
  have:x.kind=0:=hd
  rw[Xt hv this]
  rfl
 |D+1,x,hv,hd=>by
  rw[body]
  by_cases h0:x.kind=0
  ·rw[if_pos h0,Xt hv h0];rfl
  ·have hd':=hd.resolve_left h0
   rw[if_neg h0,zC,zm5,←za2 (body D) hv h0,←zcj (body D) (zC D) (yg x) fun t ht=>gZ D (Zq hv t ht) (hd'.2 t ht)]
   push_cast
   rfl
def At (W:List Int) (p:Nat) (L:List Int):Prop:=∃ A C,W=A++(L++C)/\A.length=p
theorem At.app {W L M:List Int} {p:Nat} (h:At W p (L++M)):At W p L/\At W (p+L.length) M:=by
 obtain ⟨A,C,rfl,rfl⟩:=h
 exact ⟨⟨A,M++C,by simp,rfl⟩,⟨A++L,C,by simp,by simp⟩⟩
theorem At.len {W L:List Int} {p:Nat} (h:At W p L):p+L.length<=W.length:=by
 obtain ⟨A,C,rfl,rfl⟩:=h
 simp
theorem QW (W:List Int):yz [W] 0=W:=rfl
theorem At.inB {W L:List Int} {p:Nat} (h:At W p L) {n:Int} (hn:n=L.length):inB [W] 0 p n:=by
 have:=h.len
 refine ⟨Int.le_refl _,by simp,by omega,by omega,?_⟩
 rw[QW]
 omega
theorem At.cutB {W L:List Int} {p:Nat} (h:At W p L) {n:Int} (hn:n=L.length):cutB [W] 0 p n=L:=by
 unfold E.cutB
 rw[if_pos (h.inB hn)]
 obtain ⟨A,C,rfl,rfl⟩:=h
 unfold cut
 rw[QW,hn]
 simp
theorem At.cons {W L:List Int} {x:Int} {p:Nat} (h:At W p (x::L)):wd [W] 0 p=x/\E.inB [W] 0 p 1/\At W (p+1) L:=by
 have h1:At W p ([x]++L):=h
 obtain ⟨a1,a2⟩:=h1.app
 refine ⟨?_,a1.inB rfl,a2⟩
 obtain ⟨A,C,rfl,rfl⟩:=h
 unfold wd rd
 rw[QW,List.getD_eq_getElem?_getD]
 simp
theorem At.head {W L:List Int} {x:Int} {p:Nat} (h:At W p (x::L)):At W p [x]:=(show At W p ([x]++L) from h).app.1
theorem j4 {W:List Int} {x:Int} {a:Nat} (h:At W a [x]) (h4:x%4≠2):zV [W] 0 a=(x,(0:Int),(a:Int)+1,(0:Int)):=by
 obtain ⟨h1,h2,_⟩:=h.cons
 unfold zV
 rw[if_pos h2,h1,if_neg h4]
theorem ziu (n:Nat):yH (fun x:Int=>x==0) (List.replicate n 0)=0:=by
 unfold yH
 rw[List.reverse_replicate]
 induction n with
 |zero=>rfl
 |succ n ih=>rw[List.replicate_succ,List.dropWhile_cons];simp
theorem zmu (d:List Int) (n:Nat):yp (d++List.replicate n 0)=yp d:=by
 unfold yp
 rw[zaC,if_pos (ziu n)]
theorem zlG {d:List Int} {ks ys:List Nd} (h8:8*yp d=d.length) (hq:yo ks=ks.length) (hb:∀ x∈d,zj x) {a:Nat} (ha:d.length<=8*a) (z:Nat) (hy:ys.map zi=ks):zi (.mk 1 0 0 (zM (zS a d)) (ys++List.replicate z nd0))=.mk 1 0 0 d ks:=by
 have e1:vg (ys++List.replicate z nd0)=ks++List.replicate z nd0:=by
  rw[xo,List.map_append,hy,List.map_replicate,XP]
 rw[zi,if_pos rfl,K0 a hb ha,zmu,h8,List.take_left,←qe,e1,qf,hq,List.take_length]
def wH (x:Nd):Int:=yB x+(if x.kind=2/\x.elem=7/\ZN x=0 then x.n else 0)
def yc:Nat->Nd->Int
 |0,_=>0
 |D+1,x=>if x.kind=0 then 0 else wH x+zm ((yg x).map (yc D))
theorem zjn {x:Nd} (hv:VN x):0<=wH x:=by
 have:=Xv hv
 obtain ⟨hs,_⟩:=wT hv
 unfold wH
 split
 ·rename_i h
  rcases hs with hs|hs|hs
  ·omega
  ·omega
  ·omega
 ·omega
theorem Xf:∀ (D:Nat) {x:Nd},VN x->0<=yc D x
 |0,x,_=>Int.le_refl _
 |D+1,x,hv=>by
  rw[yc]
  split
  ·exact Int.le_refl _
  ·have:=zjn hv
   have:=xZ (l:=(yg x).map (yc D)) fun y hy=>by
    obtain ⟨t,ht,rfl⟩:=List.mem_map.1 hy
    exact Xf D (Zq hv t ht)
   omega
structure Ok (D:Nat) (t:Nd):Prop where
 vn:VN t
 tr:TrN t
 gd:yr t
 dp:Dp D t
section
variable {W:List Int} {F:Int->Int->Int->Nd×Int×Int} {B:Nd->List Int} {c:Nd->Int} {Q:Nd->Prop}
structure Rt (W:List Int) (F:Int->Int->Int->Nd×Int×Int) (B:Nd->List Int) (c:Nd->Int) (Q:Nd->Prop):Prop where
 one:∀ (t:Nd) (a q:Nat) (m:Int),Q t->At W q (B t)->At W a [yW t ((q:Int)-a-1)]->c t<=m->∃ y,F m 0 a=(y,m-c t,0)/\zi y=t
 null:∀ (a:Nat) (m:Int),At W a [0]->F m 0 a=(nd0,m,0)
 nn:∀ t,Q t->0<=c t
theorem W9 (R:Rt W F B c Q) {ks:List Nd} (h:∀ t∈ks,Q t):0<=zm (ks.map c):=xZ fun y hy=>by
 obtain ⟨t,ht,rfl⟩:=List.mem_map.1 hy
 exact R.nn t (h t ht)
theorem JO (R:Rt W F B c Q) (p:Nat):∀ (ks:List Nd) (i0 pos c0:Nat) (m:Int) (acc:List Nd) (G:Int->Nat->Nd×Int×Int),(∀ m (j:Nat),G m (c0+j)=F m 0 ((p+i0+j:Nat):Int))->(∀ t∈ks,Q t)->
  At W (p+i0) (xe B i0 pos ks)->At W (p+pos) (ks.flatMap B)->zm (ks.map c)<=m->∃ ys,zW G ks.length c0 m acc=(acc++ys,m-zm (ks.map c),0)/\ys.map zi=ks
 |[],i0,pos,c0,m,acc,G,hG,hQ,h1,h2,hm=>⟨[],by simp[zW,wn],rfl⟩
 |t::r,i0,pos,c0,m,acc,G,hG,hQ,h1,h2,hm=>by
  rw[xe] at h1
  obtain ⟨_,_,h1t⟩:=h1.cons
  rw[List.flatMap_cons] at h2
  obtain ⟨h2h,h2t⟩:=h2.app
  rw[List.map_cons,xY] at hm
  have hr:=W9 R fun x hx=>hQ x (zmV _ hx)
  have ht:=R.nn t (hQ t zmW)
  obtain ⟨y,hy,hty⟩:=R.one t (p+i0) (p+pos) m (hQ t zmW) h2h (by
   rw[show ((p+pos:Nat):Int)-((p+i0:Nat):Int)-1=(pos:Int)-i0-1 by omega]
   exact h1.head) (by omega)
  have e:G m c0=(y,m-c t,0):=by
   have:=hG m 0
   rw[Nat.add_zero,Nat.add_zero] at this
   rw[this,hy]
  obtain ⟨ys,k1,k2⟩:=JO R p r (i0+1) (pos+(B t).length) (c0+1) (m-c t) (acc++[y]) G (fun m j=>by
   rw[Nat.add_assoc,Nat.add_comm 1 j,hG m (j+1)]
   congr 2
   omega) (fun x hx=>hQ x (zmV _ hx)) (by rw[←Nat.add_assoc];exact h1t) (by rw[←Nat.add_assoc];exact h2t) (by omega)
  refine ⟨y::ys,?_,by rw[List.map_cons,hty,k2]⟩
  rw[zm6,zW,e]
  dsimp only
  rw[if_pos rfl,k1,List.map_cons,xY,List.append_assoc,List.singleton_append,show m-c t-zm (r.map c)=m-(c t+zm (r.map c)) by omega]
theorem zaJ (R:Rt W F B c Q) (p:Nat):∀ (z i0 c0:Nat) (m:Int) (acc:List Nd) (G:Int->Nat->Nd×Int×Int),(∀ m (j:Nat),G m (c0+j)=F m 0 ((p+i0+j:Nat):Int))->At W (p+i0) (List.replicate z 0)->zW G z c0 m acc=(acc++List.replicate z nd0,m,0)
 |0,i0,c0,m,acc,G,hG,h1=>by simp[zW]
 |z+1,i0,c0,m,acc,G,hG,h1=>by
  rw[List.replicate_succ] at h1
  obtain ⟨_,_,h1t⟩:=h1.cons
  have e:G m c0=(nd0,m,0):=by
   have:=hG m 0
   rw[Nat.add_zero,Nat.add_zero] at this
   rw[this,R.null _ _ h1.head]
  rw[zW,e]
  dsimp only
  rw[if_pos rfl,zaJ R p z (i0+1) (c0+1) m _ G (fun m j=>by
   rw[Nat.add_assoc,Nat.add_comm 1 j,hG m (j+1)]
   congr 2
   omega) (by rw[←Nat.add_assoc];exact h1t),List.replicate_succ,List.append_assoc,List.singleton_append]
theorem zaD {G:Int->Nat->Nd×Int×Int}:∀ (c1 c2 i:Nat) (m m':Int) (acc l:List Nd),zW G c1 i m acc=(l,m',0)->zW G (c1+c2) i m acc=zW G c2 (i+c1) m' l
 |0,c2,i,m,m',acc,l,h=>by
  rw[zW] at h
  cases h
  rw[Nat.zero_add,Nat.add_zero]
 |c1+1,c2,i,m,m',acc,l,h=>by
  rw[zW] at h
  rw[show c1+1+c2=(c1+c2)+1 by omega,zW]
  split at h
  ·rename_i h0
   rw[if_pos h0,zaD c1 c2 (i+1) _ m' _ l h,show i+1+c1=i+(c1+1) by omega]
  ·rename_i h0
   have:(G m i).2.2=0:=by injection h with _ h;injection h
   exact absurd this h0
theorem qB (R:Rt W F B c Q) (p:Nat) {d:List Int} {ks:List Nd} (h8:8*yp d=d.length) (hq:yo ks=ks.length) (hb:∀ x∈d,zj x) {a z i0 pos:Nat} (ha:d.length<=8*a) (hQ:∀ t∈ks,Q t) {m:Int}
  (h1:At W (p+i0) (zS a d++(xe B (i0+a) pos ks++List.replicate z 0))) (h2:At W (p+pos) (ks.flatMap B)) (hm:zm (ks.map c)<=m) {o:Ob} (o1:o.seg=0) (o2:o.at_=((p+i0:Nat):Int)) (o3:o.data=a) (o4:o.ptrs=((ks.length+z:Nat):Int)) :
  ∃ y,zZ F [W] m o=(y,m-zm (ks.map c),0)/\zi y=.mk 1 0 0 d ks:=by
 obtain ⟨hd,hp⟩:=h1.app
 rw[xp] at hp
 obtain ⟨hp1,hp2⟩:=hp.app
 rw[ZG] at hp2
 have hG:∀ m (j:Nat),(fun m (i:Nat)=>F m o.seg (o.at_+o.data+i)) m (0+j)=F m 0 ((p+(i0+a)+j:Nat):Int):=fun m j=>by
  dsimp only
  rw[o1,o2,o3]
  congr 1
  omega
 obtain ⟨ys,k1,k2⟩:=JO R p ks (i0+a) pos 0 m [] (fun m (i:Nat)=>F m o.seg (o.at_+o.data+i)) hG hQ (by rw[←Nat.add_assoc];exact hp1) h2 hm
 have k3:=zaD _ z _ _ _ _ _ k1
 rw[zaJ R p z (i0+a+ks.length) (0+ks.length) _ _ (fun m (i:Nat)=>F m o.seg (o.at_+o.data+i)) (fun m j=>by
  refine Eq.trans ?_ ((hG m (ks.length+j)).trans (by congr 2;omega))
  rw[Nat.add_assoc 0]) (by rw[show p+(i0+a+ks.length)=p+i0+a+ks.length by omega];exact hp2)] at k3
 refine ⟨_,?_,zlG h8 hq hb ha z k2⟩
 unfold zZ
 rw[o4,zmX,k3]
 unfold vW
 dsimp only
 rw[if_pos rfl,o1,o2,o3,hd.cutB (by rw[xp]),zm7]
theorem jA (R:Rt W F B c Q) (p a b:Nat):∀ (ks:List Nd) (i0 pos c0:Nat) (m:Int) (acc:List Nd) (G:Int->Nat->Nd×Int×Int),(∀ m (j:Nat),G m (c0+j)=zZ F [W] m ⟨1,0,((p+i0+j*(a+b):Nat):Int),a,b,0,0,0⟩)->
  (∀ k∈ks,(∃ d q,k=.mk 1 0 0 d q/\8*yp d=d.length/\yo q=q.length/\(∀ x∈d,zj x)/\d.length<=8*a/\q.length<=b)/\∀ t∈k.kids,Q t)->
  At W (p+i0) (xI B a b i0 pos ks)->At W (p+pos) (ks.flatMap fun k=>k.kids.flatMap B)->zm (ks.map fun k=>zm (k.kids.map c))<=m->∃ ys,zW G ks.length c0 m acc=(acc++ys,m-zm (ks.map fun k=>zm (k.kids.map c)),0)/\ys.map zi=ks
 |[],i0,pos,c0,m,acc,G,hG,hQ,h1,h2,hm=>⟨[],by simp[zW,wn],rfl⟩
 |k::r,i0,pos,c0,m,acc,G,hG,hQ,h1,h2,hm=>by
  rw[xI] at h1
  obtain ⟨h1h,h1t⟩:=h1.app
  rw[List.flatMap_cons] at h2
  obtain ⟨h2h,h2t⟩:=h2.app
  rw[List.map_cons,xY] at hm
  obtain ⟨⟨d,q,rfl,e8,eq,eb,ea,el⟩,hQk⟩:=hQ k zmW
  have hr:0<=zm (r.map fun k=>zm (k.kids.map c)):=xZ fun y hy=>by
   obtain ⟨t,ht,rfl⟩:=List.mem_map.1 hy
   exact W9 R (hQ t (zmV _ ht)).2
  obtain ⟨y,k1,k2⟩:=qB R p e8 eq eb (a:=a) (z:=b-q.length) (i0:=i0) (pos:=pos) ea hQk (m:=m) h1h h2h (by
   have:zm (q.map c)+zm (r.map fun k=>zm (k.kids.map c))<=m:=hm
   omega) (o:=⟨1,0,((p+i0+0*(a+b):Nat):Int),a,b,0,0,0⟩) rfl (by show ((p+i0+0*(a+b):Nat):Int)=_;rw[Nat.zero_mul,Nat.add_zero]) rfl (by show (b:Int)=_;congr 1;omega)
  have e:G m c0=(y,m-zm (q.map c),0):=by
   have:=hG m 0
   rw[Nat.add_zero] at this
   rw[this,k1]
  have hlen:(zS a (Nd.mk 1 0 0 d q).data++(xe B (i0+a) pos (Nd.mk 1 0 0 d q).kids++List.replicate (b-(Nd.mk 1 0 0 d q).kids.length) 0)).length=a+b:=by
   rw[zm5,zm5,xp,ZG,zmZ]
   show a+(q.length+(b-q.length))=_
   omega
  rw[hlen] at h1t
  obtain ⟨ys,k3,k4⟩:=jA R p a b r (i0+(a+b)) (pos+ZT B q) (c0+1) (m-zm (q.map c)) (acc++[y]) G (fun m j=>by
   rw[Nat.add_assoc,Nat.add_comm 1 j,hG m (j+1)]
   congr 3
   rw[Nat.add_mul,Nat.one_mul]
   omega) (fun x hx=>hQ x (zmV _ hx)) (by rw[←Nat.add_assoc];exact h1t) (by rw[←Nat.add_assoc];exact h2t) (by
   have:zm (q.map c)+zm (r.map fun k=>zm (k.kids.map c))<=m:=hm
   omega)
  refine ⟨y::ys,?_,by rw[List.map_cons,k2,k4]⟩
  rw[zm6,zW,e]
  dsimp only
  rw[if_pos rfl,k3,List.map_cons,xY,List.append_assoc,List.singleton_append]
  have:m-zm (q.map c)-zm (r.map fun k=>zm (k.kids.map c))=m-(zm ((Nd.mk 1 0 0 d q).kids.map c)+zm (r.map fun k=>zm (k.kids.map c))):=by
   show _=m-(zm (q.map c)+_)
   omega
  rw[this]
end
theorem Wx {W:List Int} {w:Int} {a:Nat} (h:At W a [w]) (h4:w%4≠2) (h0:w≠0) (D:Nat) (m:Int):zH [W] (D+1) m 0 a=wz (zH [W] D) [W] m (vu [W] 0 (a+1) (zI w)):=by
 rw[zH]
 dsimp only
 have hf:=j4 h h4
 unfold yn
 rw[hf]
 dsimp only
 rw[if_pos rfl,if_neg h0,if_pos rfl,if_neg h0]
theorem V8 {W:List Int} {a:Nat} (h:At W a [0]) (D:Nat) (m:Int):zH [W] D m 0 a=(nd0,m,0):=by
 have hf:=j4 h (by decide)
 cases D with
 |zero=>unfold zH;rw[hf];rfl
 |succ D=>rw[zH];dsimp only;rw[hf];rfl
theorem W8 (c:Nd->Int):∀ l:List Nd,zm ((l.flatMap Nd.kids).map c)=zm (l.map fun k=>zm (k.kids.map c))
 |[]=>rfl
 |k::l=>by rw[List.flatMap_cons,List.map_append,zld,List.map_cons,xY,W8 c l]
theorem JF (B:Nd->List Int):∀ l:List Nd,(l.flatMap Nd.kids).flatMap B=l.flatMap fun k=>k.kids.flatMap B
 |[]=>rfl
 |k::l=>by rw[List.flatMap_cons,List.flatMap_append,List.flatMap_cons,JF B l]
theorem QG {D:Nat} {x:Nd} (h:Ok (D+1) x) (h0:x.kind≠0):∀ t∈yg x,Ok D t:=by
 have hd:=h.dp.resolve_left h0
 intro t ht
 refine ⟨Zq h.vn t ht,?_,zam h.gd t ht,hd.2 t ht⟩
 have htr:=h.tr
 have tk:∀ {y:Nd},TrN y->∀ z∈y.kids,TrN z:=fun hy=>by
  cases hy with
  |mk t1 t2=>exact t2
 unfold yg at ht
 split at ht
 ·obtain ⟨k,hk1,hk2⟩:=List.mem_flatMap.1 ht
  exact tk (tk htr k hk1) t hk2
 ·exact tk htr t ht
theorem Xy (k e n:Int) (d:List Int) (ks:List Nd):wH (.mk k e n d ks)=yB (.mk k e n d ks)+(if k=2/\e=7/\zn ks+zq ks=0 then n else 0):=rfl
theorem YN {k:Nd} (hv:VN k) (ht:TrN k) (hg:yr k) (h1:k.kind=1):∃ d q,k=.mk 1 0 0 d q/\8*yp d=d.length/\yo q=q.length/\(∀ x∈d,zj x)/\d.length%8=0/\d.length<=524280/\q.length<=65535:=by
 cases hv with
 |mk v1 v2 v3=>
  rename_i k e n d ks
  have h1':k=1:=h1
  subst h1'
  rcases v3 with ⟨a1,_⟩|⟨_,a2,a3,a4,a5,a6⟩|⟨a1,_⟩
  ·omega
  ·subst a2;subst a3
   cases ht with
   |mk t1 t2=>
    rw[yr] at hg
    exact ⟨d,ks,rfl,(t1 rfl).1,(t1 rfl).2,hg.1.2.1,a4,a5,a6⟩
  ·omega
theorem zlx {e n:Int} {d:List Int} {z:Nat} (hn0:0<=n) (hl:(d.length:Int)=z4 e n):trimB e n (d++List.replicate z 0)=trimB e n d:=by
 unfold trimB
 split
 ·rename_i h
  have hn:1<=z4 e n:=by
   unfold z4 bitsOf
   rw[if_pos h.1]
   omega
  rw[List.take_append_of_le_length (by omega)]
  congr 3
  unfold rd
  rw[List.getD_eq_getElem?_getD,List.getD_eq_getElem?_getD,List.getElem?_append_left (by omega)]
 ·rw[List.take_append_of_le_length (by omega)]
theorem rt {e n:Int} (he:0<=e/\e<6) (hn:0<=n/\n<=536870911):z4 e n<=8*zs e n:=by
 have h:=Y6 (e:=e) hn
 unfold z4 zs
 rw[if_neg (by omega)]
 omega
theorem zf1 {W:List Int} {D:Nat} (R:Rt W (zH [W] D) (body D) (yc D) (Ok D)) {a:Nat} {w:Int} (ha:At W a [w]) (m:Int) (hm:0<=m):∃ y,wz (zH [W] D) [W] m (vv [W] 0 (a:Int) 0 0)=(y,m,0)/\zi y=.mk 1 0 0 [] []:=by
 have ha0:At W a []:=(show At W a ([]++[w]) from ha).app.1
 obtain ⟨y,k1,k2⟩:=qB R a (d:=[]) (ks:=[]) rfl rfl (fun x h=>by cases h) (a:=0) (z:=0) (i0:=0) (pos:=0) (Nat.zero_le _) (fun t h=>by cases h) (m:=m-0) ha0 ha0 (by simp[wn];omega) (o:=⟨1,0,a,0,0,0,0,0+0⟩) rfl rfl rfl rfl
 refine ⟨y,?_,k2⟩
 unfold vv wz
 rw[if_pos (ha0.inB (n:=0+0) rfl)]
 dsimp only at k1 ⊢
 rw[if_pos rfl,if_neg (by omega),if_pos rfl]
 simp only[wn,List.map_nil] at k1
 have:zZ (zH [W] D) [W] (m-(0+0)) ⟨1,0,a,0,0,0,0,0+0⟩=(y,m-0-0,0):=k1
 rw[this]
 simp
theorem zf0 {W:List Int} (hW:W.length<=268435456) {D:Nat} (R:Rt W (zH [W] D) (body D) (yc D) (Ok D)) {d:List Int} {ks:List Nd} (h8:8*yp d=d.length) (hq:yo ks=ks.length) (hb:∀ x∈d,zj x) (hd8:d.length%8=0) (hd:d.length<=524280) (hk:ks.length<=65535) (hQ:∀ t∈ks,Ok D t) {p a:Nat} {m:Int}
  (h1:At W p (xQ (body D) (.mk 1 0 0 d ks)++ks.flatMap (body D))) (h2:At W a [yW (.mk 1 0 0 d ks) ((p:Int)-a-1)]) (hm:((d.length/8+ks.length:Nat):Int)+zm (ks.map (yc D))<=m) :
  ∃ y,zH [W] (D+1) m 0 a=(y,m-(((d.length/8+ks.length:Nat):Int)+zm (ks.map (yc D))),0)/\zi y=.mk 1 0 0 d ks:=by
 have hp:=h1.len
 have ha:=h2.len
 have e1:yW (.mk 1 0 0 d ks) ((p:Int)-a-1)=if d.length/8=0/\ks.length=0 then yk (-1) 0 0 else yk ((p:Int)-a-1) (d.length/8) ks.length:=rfl
 have hsn:=W9 R hQ
 rw[e1] at h2
 simp only[List.length_singleton] at ha
 by_cases hz:d.length/8=0/\ks.length=0
 ·rw[if_pos hz] at h2
  obtain rfl:d=[]:=List.length_eq_zero_iff.1 (by omega)
  obtain rfl:ks=[]:=List.length_eq_zero_iff.1 hz.2
  obtain ⟨q1,q2,q3⟩:=V4 (off:=-1) (d:=0) (q:=0) (by decide) (by decide) (by decide)
  rw[Wx h2 (by omega) (by decide),q1]
  unfold vu
  dsimp only
  rw[if_pos rfl,show (a:Int)+1+-1=a by omega]
  obtain ⟨y,k1,k2⟩:=zf1 R h2 m (by simp[wn] at hm;omega)
  exact ⟨y,by rw[show ((0:Nat):Int)=0 from rfl,k1];simp[wn],k2⟩
 ·rw[if_neg hz] at h2
  obtain ⟨q1,q2,q3⟩:=V4 (off:=(p:Int)-a-1) (d:=d.length/8) (q:=ks.length) (by omega) (by omega) hk
  have hne:yk ((p:Int)-a-1) (d.length/8) ks.length≠0:=by
   unfold yk
   have:=Int.emod_nonneg ((p:Int)-a-1) (show (1073741824:Int)≠0 by decide)
   omega
  rw[Wx h2 (by omega) hne,q1]
  unfold vu
  dsimp only
  rw[if_pos rfl,show (a:Int)+1+((p:Int)-a-1)=p by omega]
  have e2:xQ (body D) (.mk 1 0 0 d ks)=zS (d.length/8) d++xe (body D) (d.length/8) (d.length/8+ks.length) ks:=rfl
  rw[e2] at h1
  obtain ⟨h1a,h1b⟩:=h1.app
  have hlen:(zS (d.length/8) d++xe (body D) (d.length/8) (d.length/8+ks.length) ks).length=d.length/8+ks.length:=by rw[zm5,xp,ZG]
  rw[hlen] at h1b
  have hin:=h1a.inB (n:=((d.length/8:Nat):Int)+(ks.length:Int)) (by rw[hlen];push_cast;rfl)
  obtain ⟨y,k1,k2⟩:=qB R p h8 hq hb (a:=d.length/8) (z:=0) (i0:=0) (pos:=d.length/8+ks.length) (by omega) hQ (m:=m-(((d.length/8:Nat):Int)+(ks.length:Int))) (by simpa using h1a) h1b (by push_cast at hm;omega) (o:=⟨1,0,p,((d.length/8:Nat):Int),ks.length,0,0,((d.length/8:Nat):Int)+(ks.length:Int)⟩) rfl rfl rfl (by simp)
  refine ⟨y,?_,k2⟩
  unfold vv wz
  rw[if_pos hin]
  dsimp only at k1 ⊢
  rw[if_pos rfl,if_neg (by push_cast at hm;omega),if_pos rfl,k1]
  congr 2
  push_cast
  omega
theorem zfX {W:List Int} (hW:W.length<=268435456) {D:Nat} {e n:Int} {d:List Int} (he:0<=e/\e<6) (hn:0<=n/\n<=536870911) (hl:(d.length:Int)=z4 e n) (ht:trimB e n d=d) (hb:∀ x∈d,zj x) {p a:Nat} {m:Int}
  (h1:At W p (xQ (body D) (.mk 2 e n d []))) (h2:At W a [yW (.mk 2 e n d []) ((p:Int)-a-1)]) (hm:zs e n<=m) :
  ∃ y,zH [W] (D+1) m 0 a=(y,m-zs e n,0)/\zi y=.mk 2 e n d []:=by
 have hp:=h1.len
 have ha:=h2.len
 have e1:yW (.mk 2 e n d []) ((p:Int)-a-1)=yG ((p:Int)-a-1) e n:=by
  unfold yW
  show (if (2:Int)=0 then 0 else if (2:Int)=1 then _ else if e=7 then _ else yG ((p:Int)-a-1) e n)=_
  rw[if_neg (by decide),if_neg (by decide),if_neg (by omega)]
 have e2:xQ (body D) (.mk 2 e n d [])=zS (zs e n).toNat d:=by
  unfold xQ
  show (if (2:Int)=1 then _ else if e=7 then _ else if e=6 then _ else zS (zs e n).toNat d)=_
  rw[if_neg (by decide),if_neg (by omega),if_neg (by omega)]
 rw[e1] at h2
 rw[e2] at h1
 have hw:=Yj (e:=e) hn
 simp only[List.length_singleton] at ha
 rw[e2,xp] at hp
 obtain ⟨q1,q2,q3⟩:=V3 (off:=(p:Int)-a-1) (e:=e) (c:=n) (by omega) (by omega) hn
 have hne:yG ((p:Int)-a-1) e n≠0:=by omega
 rw[Wx h2 (by omega) hne,q1]
 unfold vu
 dsimp only
 rw[if_neg (by decide),if_pos rfl,show (a:Int)+1+((p:Int)-a-1)=p by omega]
 have hin:=h1.inB (n:=zs e n) (by rw[xp];omega)
 have h7:¬e=7:=by omega
 unfold vt wz
 rw[if_neg h7,if_pos hin]
 dsimp only
 rw[if_pos rfl,if_neg (by omega),if_neg (by decide)]
 unfold xx
 dsimp only
 rw[if_pos he.2,h1.cutB (by rw[xp];omega)]
 have hbw:=rt he hn
 refine ⟨_,rfl,?_⟩
 rw[K0 _ hb (by omega),zlx hn.1 hl,ht,zi,if_neg (by decide)]
 rfl
theorem zfY {W:List Int} (hW:W.length<=268435456) {D:Nat} (R:Rt W (zH [W] D) (body D) (yc D) (Ok D)) {n:Int} {ks:List Nd} (hn:0<=n/\n<=536870911) (hk:(ks.length:Int)=n) (hQ:∀ t∈ks,Ok D t) {p a:Nat} {m:Int}
  (h1:At W p (xQ (body D) (.mk 2 6 n [] ks)++ks.flatMap (body D))) (h2:At W a [yW (.mk 2 6 n [] ks) ((p:Int)-a-1)]) (hm:zs 6 n+zm (ks.map (yc D))<=m) :
  ∃ y,zH [W] (D+1) m 0 a=(y,m-(zs 6 n+zm (ks.map (yc D))),0)/\zi y=.mk 2 6 n [] ks:=by
 have hp:=h1.len
 have ha:=h2.len
 have e1:yW (.mk 2 6 n [] ks) ((p:Int)-a-1)=yG ((p:Int)-a-1) 6 n:=rfl
 have e2:xQ (body D) (.mk 2 6 n [] ks)=xe (body D) 0 ks.length ks:=rfl
 rw[e1] at h2
 rw[e2] at h1
 have hw:zs 6 n=n:=by unfold zs bitsOf;simp;omega
 have hsn:=W9 R hQ
 simp only[List.length_singleton] at ha
 obtain ⟨q1,q2,q3⟩:=V3 (off:=(p:Int)-a-1) (e:=6) (c:=n) (by omega) (by omega) hn
 have hne:yG ((p:Int)-a-1) 6 n≠0:=by omega
 obtain ⟨h1a,h1b⟩:=h1.app
 rw[ZG] at h1b
 rw[Wx h2 (by omega) hne,q1]
 unfold vu
 dsimp only
 rw[if_neg (by decide),if_pos rfl,show (a:Int)+1+((p:Int)-a-1)=p by omega]
 have hin:=h1a.inB (n:=zs 6 n) (by rw[ZG];omega)
 unfold vt wz
 rw[if_neg (show ¬(6:Int)=7 by decide),if_pos hin]
 dsimp only
 rw[if_pos rfl,if_neg (by omega),if_neg (by decide)]
 unfold xx
 dsimp only
 rw[if_neg (by decide)]
 obtain ⟨ys,k1,k2⟩:=JO R p ks 0 ks.length 0 (m-zs 6 n) [] (fun m (i:Nat)=>if (6:Int)=6 then zH [W] D m 0 ((p:Int)+i) else zZ (zH [W] D) [W] m (yl ⟨2,0,p,0,0,6,n,zs 6 n⟩ i)) (fun m j=>by
  rw[if_pos (show (6:Int)=6 from rfl)]
  congr 1
  omega) hQ h1a h1b (by omega)
 rw[show n.toNat=ks.length by omega,k1]
 unfold vW
 dsimp only
 rw[if_pos rfl,zm7]
 refine ⟨_,by rw[show m-zs 6 n-zm (ks.map (yc D))=m-(zs 6 n+zm (ks.map (yc D))) by omega],?_⟩
 rw[zi,if_neg (by decide),xo,k2]
theorem zfV {W:List Int} (hW:W.length<=268435456) {D:Nat} (R:Rt W (zH [W] D) (body D) (yc D) (Ok D)) {n:Int} {ks:List Nd} (hn:0<=n/\n<=536870911) (hk:(ks.length:Int)=n)
  (hs:∀ k∈ks,∃ d q,k=.mk 1 0 0 d q/\8*yp d=d.length/\yo q=q.length/\(∀ x∈d,zj x)/\d.length%8=0/\d.length<=524280/\q.length<=65535) (hQ:∀ t∈ks.flatMap Nd.kids,Ok D t) {p a:Nat} {m:Int}
  (h1:At W p (xQ (body D) (.mk 2 7 n [] ks)++(ks.flatMap Nd.kids).flatMap (body D))) (h2:At W a [yW (.mk 2 7 n [] ks) ((p:Int)-a-1)]) (hm:wH (.mk 2 7 n [] ks)+zm ((ks.flatMap Nd.kids).map (yc D))<=m) :
  ∃ y,zH [W] (D+1) m 0 a=(y,m-(wH (.mk 2 7 n [] ks)+zm ((ks.flatMap Nd.kids).map (yc D))),0)/\zi y=.mk 2 7 n [] ks:=by
 have hp:=h1.len
 have ha:=h2.len
 have e1:yW (.mk 2 7 n [] ks) ((p:Int)-a-1)=yG ((p:Int)-a-1) 7 (n*((zn ks+zq ks:Nat):Int)):=rfl
 have e2:xQ (body D) (.mk 2 7 n [] ks)=yk n (zn ks) (zq ks)::xI (body D) (zn ks) (zq ks) 1 (1+ks.length*(zn ks+zq ks)) ks:=rfl
 have e3:wH (.mk 2 7 n [] ks)=1+n*((zn ks+zq ks:Nat):Int)+(if zn ks+zq ks=0 then n else 0):=by
  show (1+n*((zn ks+zq ks:Nat):Int))+(if (2:Int)=2/\(7:Int)=7/\zn ks+zq ks=0 then n else 0)=_
  simp only[true_and]
 have hal:=VG (body D) (zn ks) (zq ks) 1 (1+ks.length*(zn ks+zq ks)) ks (fun k hk=>XS hk)
 rw[e1] at h2
 rw[e2,List.cons_append] at h1
 rw[e2,List.cons_append,zm6,zm5,hal] at hp
 have hnu:n*((zn ks+zq ks:Nat):Int)=((ks.length*(zn ks+zq ks):Nat):Int):=by rw[←hk];push_cast;rfl
 rw[e3,hnu] at hm ⊢
 rw[hnu] at h2
 have hsn:=W9 R hQ
 have hud:zn ks<=65535:=XQ fun x hx=>by
  obtain ⟨d,q,rfl,_,_,_,_,g1,_⟩:=hs x hx
  show d.length/8<=65535
  omega
 have huq:zq ks<=65535:=XR fun x hx=>by
  obtain ⟨d,q,rfl,_,_,_,_,_,g1⟩:=hs x hx
  exact g1
 simp only[List.length_singleton] at ha
 obtain ⟨q1,q2,q3⟩:=V3 (off:=(p:Int)-a-1) (e:=7) (c:=((ks.length*(zn ks+zq ks):Nat):Int)) (by omega) (by omega) (by omega)
 have hne:yG ((p:Int)-a-1) 7 ((ks.length*(zn ks+zq ks):Nat):Int)≠0:=by omega
 obtain ⟨t1,t2,t3⟩:=V4 (off:=n) (d:=zn ks) (q:=zq ks) (by omega) hud huq
 obtain ⟨w1,w2,w3⟩:=h1.cons
 obtain ⟨h1a,h1b⟩:=w3.app
 rw[hal] at h1b
 have hin:inB [W] 0 p (((ks.length*(zn ks+zq ks):Nat):Int)+1):=by
  have:=(show At W p ([yk n (zn ks) (zq ks)]++(xI (body D) (zn ks) (zq ks) 1 (1+ks.length*(zn ks+zq ks)) ks++(ks.flatMap Nd.kids).flatMap (body D))) from h1)
  rw[←List.append_assoc] at this
  exact this.app.1.inB (by rw[zm5,hal,List.length_singleton];push_cast;omega)
 rw[Wx h2 (by omega) hne,q1]
 unfold vu
 dsimp only
 rw[if_neg (by decide),if_pos rfl,show (a:Int)+1+((p:Int)-a-1)=p by omega]
 unfold vt wF wz
 rw[if_pos (show (7:Int)=7 from rfl),if_pos hin,w1,t1]
 dsimp only
 have hcond:(0:Int)=0/\0<=n/\n*((zn ks:Int)+(zq ks:Int))<=((ks.length*(zn ks+zq ks):Nat):Int):=⟨rfl,hn.1,by rw[show n*((zn ks:Int)+(zq ks:Int))=n*((zn ks+zq ks:Nat):Int) by push_cast;rfl,hnu];exact Int.le_refl _⟩
 rw[if_pos hcond]
 dsimp only
 have hun:((zn ks:Int)+(zq ks:Int)=0)=(zn ks+zq ks=0):=by
  apply propext
  omega
 simp only[hun]
 generalize hz:(if zn ks+zq ks=0 then n else 0)=z at hm ⊢
 have hz0:0<=z:=by subst hz;split<;>omega
 rw[if_pos trivial,if_neg (by omega),if_neg (by decide)]
 unfold xx
 dsimp only
 rw[if_neg (by decide)]
 rw[W8] at hm hsn ⊢
 rw[JF] at h1b
 obtain ⟨ys,k1,k2⟩:=jA R p (zn ks) (zq ks) ks 1 (1+ks.length*(zn ks+zq ks)) 0 (m-(((ks.length*(zn ks+zq ks):Nat):Int)+1+z)) [] (fun m (i:Nat)=>if (7:Int)=6 then zH [W] D m 0 ((p:Int)+1+i) else zZ (zH [W] D) [W] m (yl ⟨2,0,(p:Int)+1,zn ks,zq ks,7,n,((ks.length*(zn ks+zq ks):Nat):Int)+1+z⟩ i)) (fun m j=>by
  rw[if_neg (show ¬(7:Int)=6 by decide)]
  unfold yl
  congr 2
  push_cast
  rw[Int.zero_add]) (fun k hk=>by
  obtain ⟨d,q,rfl,g1,g2,g3,g4,g5,g6⟩:=hs k hk
  have hud:=zcM hk
  have hup:=XS hk
  have hud':d.length/8<=zn ks:=hud
  exact ⟨⟨d,q,rfl,g1,g2,g3,by omega,hup⟩,fun t ht=>hQ t (List.mem_flatMap.2 ⟨_,hk,ht⟩)⟩) h1a (by rw[←Nat.add_assoc];exact h1b) (by omega)
 rw[show n.toNat=ks.length by omega,k1]
 unfold vW
 dsimp only
 rw[if_pos rfl,zm7]
 refine ⟨_,by congr 2;omega,?_⟩
 rw[zi,if_neg (by decide),xo,k2]
theorem jp {W:List Int} (hW:W.length<=268435456):∀ D,Rt W (zH [W] D) (body D) (yc D) (Ok D)
 |0=>⟨fun t a q m h1 h2 h3 h4=>by
   have hk:t.kind=0:=h1.dp
   have:=Vi h1.vn hk
   subst this
   exact ⟨nd0,by rw[V8 h3];show _=(nd0,m-0,_);rw[Int.sub_zero],XP⟩,fun a m h=>V8 h 0 m,fun t h=>Xf 0 h.vn⟩
 |D+1=>by
  have R:=jp hW D
  refine ⟨fun t a q m h1 h2 h3 h4=>?_,fun a m h=>V8 h (D+1) m,fun t h=>Xf (D+1) h.vn⟩
  by_cases h0:t.kind=0
  ·have:=Vi h1.vn h0
   subst this
   refine ⟨nd0,?_,XP⟩
   rw[V8 h3]
   show _=(nd0,m-0,_)
   rw[Int.sub_zero]
  ·have hT:=QG h1 h0
   rw[body,if_neg h0] at h2
   rw[yc,if_neg h0] at h4 ⊢
   obtain ⟨hs,hkk⟩:=wT h1.vn
   rcases hs with hs|hs|hs
   ·exact absurd hs.1 h0
   ·obtain ⟨d,ks,rfl,g1,g2,g3,g4,g5,g6⟩:=YN h1.vn h1.tr h1.gd hs.1
    have e:wH (.mk 1 0 0 d ks)=((d.length/8+ks.length:Nat):Int):=by
     rw[Xy,if_neg (fun h=>absurd h.1 (by decide)),Int.add_zero]
     rfl
    rw[e] at h4 ⊢
    exact zf0 hW R g1 g2 g3 g4 g5 g6 hT h2 h3 h4
   ·cases t with
    |mk k e n d ks=>
     obtain ⟨k2,hn,he,h6,hl6⟩:=hs
     have k2':k=2:=k2
     subst k2'
     have hn':0<=n/\n<=536870911:=hn
     have he':0<=e/\e<=7:=he
     have hg:=h1.gd
     rw[yr] at hg
     by_cases e7:e=7
     ·subst e7
      obtain ⟨a1,a2⟩:=h6 (show (6:Int)<=7 by decide)
      obtain rfl:d=[]:=List.length_eq_zero_iff.1 a1
      have hst:∀ k∈ks,k.kind=1:=by
       cases h1.vn with
       |mk v1 v2 v3=>exact v2 rfl rfl
      have htr:∀ k∈ks,TrN k:=by
       cases h1.tr with
       |mk t1 t2=>exact t2
      exact zfV hW R hn' a2 (fun k hk=>YN (hkk k hk) (htr k hk) (goods_iff.1 hg.2 k hk) (hst k hk)) hT h2 h3 h4
     ·have et:yg (.mk 2 e n d ks)=ks:=by
       show (if (2:Int)=2/\e=7 then _ else ks)=_
       rw[if_neg (fun h=>e7 h.2)]
      have eo:wH (.mk 2 e n d ks)=zs e n:=by
       rw[Xy,if_neg (fun h=>e7 h.2.1),Int.add_zero]
       unfold yB
       show (if (2:Int)=0 then 0 else if (2:Int)=1 then _ else if e=7 then _ else zs e n)=_
       rw[if_neg (by decide),if_neg (by decide),if_neg e7]
      rw[et] at h2 h4 hT ⊢
      rw[eo] at h4 ⊢
      by_cases e6:e=6
      ·subst e6
       obtain ⟨a1,a2⟩:=h6 (show (6:Int)<=6 by decide)
       obtain rfl:d=[]:=List.length_eq_zero_iff.1 a1
       exact zfY hW R hn' a2 hT h2 h3 h4
      ·obtain ⟨b1,b2,b3⟩:=hl6 (show e<6 by omega)
       obtain rfl:ks=[]:=List.length_eq_zero_iff.1 b1
       rw[List.flatMap_nil,List.append_nil] at h2
       simp only[List.map_nil,wn,Int.add_zero] at h4 ⊢
       exact zfX hW (e:=e) ⟨he'.1,by omega⟩ hn' b2 b3 hg.1.2.1 h2 h3 h4
theorem zfc {w i m:Nat} (hw:w<2^i) (h:i+m<=64):w &&& (2^64-1-(2^m-1)*2^i)=w:=by
 have hk:2^64=2^(64-i)*2^i:=by rw[←Nat.pow_add];congr 1;omega
 have hmi:2^m<=2^(64-i):=Nat.pow_le_pow_right (by decide) (by omega)
 have hi:0<2^i:=Nat.pow_pos (by decide)
 have hm:0<2^m:=Nat.pow_pos (by decide)
 have e:2^64-1-(2^m-1)*2^i=2^i*(2^(64-i)-2^m)+(2^i-1):=by
  have h2:2^m*2^i<=2^(64-i)*2^i:=Nat.mul_le_mul_right _ hmi
  rw[hk,Nat.sub_mul,Nat.one_mul,Nat.mul_sub,Nat.mul_comm (2^i) (2^(64-i)),Nat.mul_comm (2^i) (2^m)]
  have h3:2^i<=2^m*2^i:=Nat.le_mul_of_pos_left _ hm
  omega
 rw[e]
 apply Nat.eq_of_testBit_eq
 intro j
 rw[Nat.testBit_and,Nat.testBit_two_pow_mul_add _ (by omega)]
 by_cases hj:j<i
 ·rw[if_pos hj,Nat.testBit_two_pow_sub_one,decide_eq_true hj,Bool.and_true]
 ·rw[if_neg hj]
  have:w.testBit j=false:=Nat.testBit_lt_two_pow (Nat.lt_of_lt_of_le hw (Nat.pow_le_pow_right (by decide) (by omega)))
  rw[this,Bool.false_and]
theorem zfe {v i m:Nat} (h:i+m<=64):(v*2^i%2^64) &&& ((2^m-1)*2^i)=v%2^m*2^i:=by
 apply Nat.eq_of_testBit_eq
 intro j
 rw[Nat.testBit_and,Nat.testBit_mod_two_pow,Nat.mul_comm v,Nat.mul_comm (2^m-1),Nat.mul_comm (v%2^m),Nat.testBit_two_pow_mul,Nat.testBit_two_pow_mul,Nat.testBit_two_pow_mul,Nat.testBit_two_pow_sub_one,Nat.testBit_mod_two_pow]
 by_cases h1:j≥i
 ·by_cases h2:j-i<m
  ·rw[decide_eq_true h1,decide_eq_true h2,dT (j<64)];simp
  ·rw[decide_eq_false h2];simp
 ·rw[decide_eq_false h1];simp
theorem zdt {w v i m:Nat} (hw:w<2^i) (hv:v<2^64) (h1:1<=m) (h2:i+m<=64):ev 291 [.pv (U (w:Int)),.pv (I (i:Int)),.pv (I (m:Int)),.pv (U (v:Int))] []=ok (U ((w+v%2^m*2^i:Nat):Int)):=by
 have hk:2^64=2^(64-i)*2^i:=by rw[←Nat.pow_add];congr 1;omega
 have hmi:2^m<=2^(64-i):=Nat.pow_le_pow_right (by decide) (by omega)
 have hi:0<2^i:=Nat.pow_pos (by decide)
 have hm:0<2^m:=Nat.pow_pos (by decide)
 have h64:2^m*2^i<=2^64:=by rw[hk];exact Nat.mul_le_mul_right _ hmi
 have hM:(2^m-1)*2^i<2^64:=by
  rw[Nat.sub_mul,Nat.one_mul]
  have h3:2^i<=2^m*2^i:=Nat.le_mul_of_pos_left _ hm
  omega
 have hw64:w<2^64:=Nat.lt_of_lt_of_le hw (Nat.pow_le_pow_right (by decide) (by omega))
 have hx:v%2^m*2^i<2^64:=by
  have:=Nat.mod_lt v hm
  have:v%2^m*2^i<=(2^m-1)*2^i:=Nat.mul_le_mul_right _ (by omega)
  omega
 rw[zmo,gi m h1 (by omega),wu (n:=i) (by omega)]
 dsimp only[zk,vA,zm4]
 have hmin:min (i:Int).toNat 64=i:=by rw[zmX,Nat.min_eq_left (by omega)]
 have ei:(2:Int)^i=((2^i:Nat):Int):=by push_cast;rfl
 have eM:IntKind.wrap .u64 (((2^m-1:Nat):Int)*2^i)=(((2^m-1)*2^i:Nat):Int):=by
  rw[ei,←Int.natCast_mul];exact wu hM
 have eV:IntKind.wrap .u64 ((v:Int)*2^i)=((v*2^i%2^64:Nat):Int):=by
  rw[Kx,ei,←Int.natCast_mul]
  have:(18446744073709551616:Int)=((2^64:Nat):Int):=rfl
  rw[this,←Int.natCast_emod]
 rw[hmin,eM,eV]
 have e1:(BitVec.ofInt 64 (w:Int) &&& ~~~BitVec.ofInt 64 (((2^m-1)*2^i:Nat):Int)).toNat=w:=by
  rw[BitVec.toNat_and,BitVec.toNat_not,vw hw64,vw hM,zfc hw h2]
 have e2:(BitVec.ofInt 64 ((v*2^i%2^64:Nat):Int) &&& BitVec.ofInt 64 (((2^m-1)*2^i:Nat):Int)).toNat=v%2^m*2^i:=by
  rw[BitVec.toNat_and,vw (Nat.mod_lt _ (by decide)),vw hM,zfe h2]
 rw[e1,e2,wu hw64,wu hx]
 have e3:(BitVec.ofInt 64 (w:Int) ||| BitVec.ofInt 64 ((v%2^m*2^i:Nat):Int)).toNat=w+v%2^m*2^i:=by
  rw[BitVec.toNat_or,vw hw64,vw hx,Nat.or_comm,Nat.mul_comm,←Nat.two_pow_add_eq_or_of_lt hw]
  omega
 have hs:w+v%2^m*2^i<2^64:=by
  have h3:v%2^m*2^i<=(2^m-1)*2^i:=Nat.mul_le_mul_right _ (by have:=Nat.mod_lt v hm;omega)
  have h4:(2^m-1)*2^i+2^i<=2^64:=by
   rw[Nat.sub_mul,Nat.one_mul]
   have h3:2^i<=2^m*2^i:=Nat.le_mul_of_pos_left _ hm
   omega
  omega
 rw[e3,wu hs]
 simp[yN]
theorem Zs {w v:Int} {i m:Nat} (hw:0<=w/\w<2^i) (hv:0<=v/\v<18446744073709551616) (h1:1<=m) (h2:i+m<=64):ev 291 [.pv (U w),.pv (I (i:Int)),.pv (I (m:Int)),.pv (U v)] []=ok (U (w+v%2^m*2^i)):=by
 obtain ⟨a,rfl⟩:=Int.eq_ofNat_of_zero_le hw.1
 obtain ⟨b,rfl⟩:=Int.eq_ofNat_of_zero_le hv.1
 have hw':a<2^i:=by have:=hw.2;exact_mod_cast this
 have hv':b<2^64:=by have:=hv.2;omega
 rw[zdt hw' hv' h1 h2]
 push_cast
 rfl
theorem zd2 {off:Int} {d q:Nat} (hd:d<=65535) (hq:q<=65535):ev 288 [.pv (.agg [I 0,I off,I d,I q,I 0,I 0,Bo false,I 0,yJ 0,yJ 0])] []=ok (U (yk off d q)):=by
 have hm:=Int.emod_nonneg off (show (1073741824:Int)≠0 by decide)
 have hl:=Int.emod_lt_of_pos off (show (0:Int)<1073741824 by decide)
 have i1:=Zs (w:=0) (v:=0) (i:=0) (m:=2) (by decide) (by decide) (by decide) (by decide)
 have i2:=Zs (w:=0) (v:=off%18446744073709551616) (i:=2) (m:=30) (by decide) (by omega) (by decide) (by decide)
 have e2:(0:Int)+off%18446744073709551616%2^30*2^2=off%1073741824*4:=by omega
 rw[e2] at i2
 have i3:=Zs (w:=off%1073741824*4) (v:=d) (i:=32) (m:=16) (by omega) (by omega) (by decide) (by decide)
 have e3:off%1073741824*4+(d:Int)%2^16*2^32=off%1073741824*4+d*4294967296:=by omega
 rw[e3] at i3
 have i4:=Zs (w:=off%1073741824*4+d*4294967296) (v:=q) (i:=48) (m:=16) (by omega) (by omega) (by decide) (by decide)
 have e4:off%1073741824*4+d*4294967296+(q:Int)%2^16*2^48=yk off d q:=by unfold yk;omega
 rw[e4] at i4
 rw[zbq,show IntKind.wrap .u64 0=0 from rfl,show ev 291 [.pv (U 0),.pv (I 0),.pv (I 2),.pv (U 0)] []=ok (U 0) from i1]
 dsimp only[zu,zk]
 rw[show ((0:Int)==0)=true from rfl,Kx off]
 dsimp only[zc]
 rw[show ev 291 [.pv (U 0),.pv (I 2),.pv (I 30),.pv (U (off%18446744073709551616))] []=ok (U (off%1073741824*4)) from i2]
 dsimp only[zk]
 rw[wJ (x:=(d:Int)) (by omega),show ev 291 [.pv (U (off%1073741824*4)),.pv (I 32),.pv (I 16),.pv (U d)] []=ok (U (off%1073741824*4+d*4294967296)) from i3]
 dsimp only[zl,zt,zm4]
 rw[wJ (x:=(q:Int)) (by omega),show ev 291 [.pv (U (off%1073741824*4+d*4294967296)),.pv (I 48),.pv (I 16),.pv (U q)] []=ok (U (yk off d q)) from i4]
 rfl
theorem zd3 {off e c:Int} (he:0<=e/\e<=7) (hc:0<=c/\c<=536870911):ev 288 [.pv (.agg [I 1,I off,I 0,I 0,I e,I c,Bo false,I 0,yJ 0,yJ 0])] []=ok (U (yG off e c)):=by
 have hm:=Int.emod_nonneg off (show (1073741824:Int)≠0 by decide)
 have hl:=Int.emod_lt_of_pos off (show (0:Int)<1073741824 by decide)
 have i1:=Zs (w:=0) (v:=1) (i:=0) (m:=2) (by decide) (by decide) (by decide) (by decide)
 have i2:=Zs (w:=1) (v:=off%18446744073709551616) (i:=2) (m:=30) (by decide) (by omega) (by decide) (by decide)
 have e2:(1:Int)+off%18446744073709551616%2^30*2^2=off%1073741824*4+1:=by omega
 rw[e2] at i2
 have i3:=Zs (w:=off%1073741824*4+1) (v:=e) (i:=32) (m:=3) (by omega) (by omega) (by decide) (by decide)
 have e3:off%1073741824*4+1+e%2^3*2^32=off%1073741824*4+1+e*4294967296:=by omega
 rw[e3] at i3
 have i4:=Zs (w:=off%1073741824*4+1+e*4294967296) (v:=c) (i:=35) (m:=29) (by omega) (by omega) (by decide) (by decide)
 have e4:off%1073741824*4+1+e*4294967296+c%2^29*2^35=yG off e c:=by unfold yG;omega
 rw[e4] at i4
 rw[zbq,show IntKind.wrap .u64 1=1 from rfl,show ev 291 [.pv (U 0),.pv (I 0),.pv (I 2),.pv (U 1)] []=ok (U 1) from i1]
 dsimp only[zu,zk]
 rw[show ((1:Int)==0)=false from rfl,show ((1:Int)==1)=true from rfl,Kx off]
 dsimp only[zc,zu]
 rw[show ev 291 [.pv (U 1),.pv (I 2),.pv (I 30),.pv (U (off%18446744073709551616))] []=ok (U (off%1073741824*4+1)) from i2]
 dsimp only[zk]
 rw[wJ (x:=e) (by omega),show ev 291 [.pv (U (off%1073741824*4+1)),.pv (I 32),.pv (I 3),.pv (U e)] []=ok (U (off%1073741824*4+1+e*4294967296)) from i3]
 dsimp only[zl,zt,zm4]
 rw[wJ (x:=c) (by omega),show ev 291 [.pv (U (off%1073741824*4+1+e*4294967296)),.pv (I 35),.pv (I 29),.pv (U c)] []=ok (U (yG off e c)) from i4]
 rfl
theorem jD {a1 a2 a3 a4 a5 a6 a7 a8 a9:Int} {b:Bool}:xd [false,false,false,false,false,false,true,false,false,false] [I a1,I a2,I a3,I a4,I a5,I a6,Bo b,I a7,yJ a8,yJ a9] [I a1,I a2,I a3,I a4,I a5,I a6,Bo b,I a7,yJ a8,yJ a9]=some true:=by
 simp[xd]
theorem KG {off:Int} {d q:Nat} (ho:-536870912<=off/\off<=536870911) (hd:d<=65535) (hq:q<=65535):ev 252 [.pv (.agg [I 0,I off,I d,I q,I 0,I 0,Bo false,I 0,yJ 0,yJ 0])] []=ok (.tup [U (yk off d q),Bo true]):=by
 have hp:=zd2 (off:=off) hd hq
 obtain ⟨q1,q2,q3⟩:=V4 ho hd hq
 rw[zbo,zbp,hp]
 dsimp only[zl,zt,zm4,zk]
 rw[xF q2,q1]
 dsimp only[yh,zl,zt,zm4,gJ]
 rw[jD]
 rfl
theorem uN {off e c:Int} (ho:-536870912<=off/\off<=536870911) (he:0<=e/\e<=7) (hc:0<=c/\c<=536870911):ev 252 [.pv (.agg [I 1,I off,I 0,I 0,I e,I c,Bo false,I 0,yJ 0,yJ 0])] []=ok (.tup [U (yG off e c),Bo true]):=by
 have hp:=zd3 (off:=off) he hc
 obtain ⟨q1,q2,q3⟩:=V3 ho he hc
 rw[zbo,zbp,hp]
 dsimp only[zl,zt,zm4,zk]
 rw[xF q2,q1]
 dsimp only[yh,zl,zt,zm4,gJ]
 rw[jD]
 rfl
theorem JT:∀ (D:Nat) {x:Nd},VN x->Dp D x->zC D x<=yc D x
 |0,x,hv,hd=>by
  have h0:x.kind=0:=hd
  rw[Xt hv h0]
  exact Int.le_refl _
 |D+1,x,hv,hd=>by
  by_cases h0:x.kind=0
  ·rw[Xt hv h0]
   exact Xf (D+1) hv
  ·have hd':=(hd.resolve_left h0).2
   rw[zC,yc,if_neg h0]
   have h1:yB x<=wH x:=by
    unfold wH
    split
    ·rename_i h
     obtain ⟨hs,_⟩:=wT hv
     rcases hs with hs|hs|hs<;>omega
    ·omega
   have h2:∀ l:List Nd,(∀ t∈l,zC D t<=yc D t)->zm (l.map (zC D))<=zm (l.map (yc D)):=by
    intro l
    induction l with
    |nil=>intro _;exact Int.le_refl _
    |cons t l ih=>
     intro h
     rw[List.map_cons,List.map_cons,xY,xY]
     have:=h t zmW
     have:=ih fun x hx=>h x (zmV _ hx)
     omega
   have:=h2 (yg x) fun t ht=>JT D (Zq hv t ht) (hd' t ht)
   omega
theorem Qx {C:Nd->Int} {G:Int->Nat->Nd×Int×Int} {Q:Nd->Prop}:∀ (c i:Nat) (m:Int) (acc:List Nd),(∀ m j,i<=j->j<i+c->(G m j).2.2=0->C (G m j).1<=m-(G m j).2.1/\Q (G m j).1)->(zW G c i m acc).2.2=0->
  ∃ ys,(zW G c i m acc).1=acc++ys/\ys.length=c/\zm (ys.map C)<=m-(zW G c i m acc).2.1/\∀ y∈ys,Q y
 |0,i,m,acc,h,h0=>⟨[],by simp[zW],rfl,by simp[zW,wn],fun y hy=>by cases hy⟩
 |c+1,i,m,acc,h,h0=>by
  rw[zW] at h0 ⊢
  by_cases e:(G m i).2.2=0
  ·rw[if_pos e] at h0 ⊢
   obtain ⟨ys,k1,k2,k3,k4⟩:=Qx c (i+1) _ _ (fun m j q1 q2=>h m j (by omega) (by omega)) h0
   obtain ⟨g1,g2⟩:=h m i (Nat.le_refl _) (by omega) e
   refine ⟨(G m i).1::ys,by rw[k1];simp,by simp[k2],?_,fun y hy=>?_⟩
   ·rw[List.map_cons,xY];omega
   ·rcases List.mem_cons.1 hy with rfl|hy
    ·exact g2
    ·exact k4 y hy
  ·rw[if_neg e] at h0
   exact absurd h0 e
theorem qC {c:Nd->Int}:∀ (l:List Nd) (n:Nat),(∀ x∈l,0<=c x)->zm ((l.take n).map c)<=zm (l.map c)
 |[],n,_=>by simp
 |x::l,0,h=>by
  rw[List.take_zero,List.map_nil,wn]
  exact xZ fun y hy=>by
   obtain ⟨t,ht,rfl⟩:=List.mem_map.1 hy
   exact h t ht
 |x::l,n+1,h=>by
  rw[List.take_succ_cons,List.map_cons,List.map_cons,xY,xY]
  have:=qC l n fun y hy=>h y (zmV _ hy)
  omega
def uD (D:Nat) (F:Int->Int->Int->Nd×Int×Int):Prop:=∀ m s a,(F m s a).2.2=0->yc D (zi (F m s a).1)<=m-(F m s a).2.1/\VN (F m s a).1
theorem zcg {D:Nat} {F:Int->Int->Int->Nd×Int×Int} (h:uD D F) (l:List (List Int)) (m:Int) {o:Ob} (hd:0<=o.data) (hz:(zZ F l m o).2.2=0) :
  ∃ d ks,(zZ F l m o).1=.mk 1 0 0 d ks/\d.length<=8*o.data.toNat/\ks.length=o.ptrs.toNat/\zm ((ks.map zi).map (yc D))<=m-(zZ F l m o).2.1/\(∀ y∈ks,VN y)/\((zZ F l m o).2.1=(zZ F l m o).2.1):=by
 unfold zZ at hz ⊢
 have hz':(zW (fun m (i:Nat)=>F m o.seg (o.at_+o.data+i)) o.ptrs.toNat 0 m []).2.2=0:=hz
 obtain ⟨ys,k1,k2,k3,k4⟩:=Qx (C:=fun x=>yc D (zi x)) (Q:=VN) o.ptrs.toNat 0 m [] (fun m j _ _ h0=>h m o.seg (o.at_+o.data+j) h0) hz'
 rw[vX hz']
 have hcl:=Zx l o.seg o.at_ o.data
 refine ⟨_,_,rfl,by rw[xJ];omega,by rw[k1,zm7,k2],?_,fun y hy=>k4 y (by rw[k1,zm7] at hy;exact hy),rfl⟩
 rw[k1,zm7,List.map_map]
 exact k3
theorem zcK (d:List Int) (ks:List Nd):zi (.mk 1 0 0 d ks)=.mk 1 0 0 (d.take (8*yp d)) ((ks.map zi).take (yo ks)):=by rw[zi,if_pos rfl,xo]
theorem zjb {l:List (List Int)} (hl:zF l) (hs:Sm l) {s a:Int} (h0:(zV l s a).1≠0) (hf:(zV l s a).2.2.2=0) (he:(yn l s a).2=0) :
  ((yn l s a).1.kind=1->(yn l s a).1.data+(yn l s a).1.ptrs<=(yn l s a).1.cost)/\((yn l s a).1.kind=2->(yn l s a).1.elem≠7->zs (yn l s a).1.elem (yn l s a).1.n<=(yn l s a).1.cost)/\
  ((yn l s a).1.kind=2->(yn l s a).1.elem=7->1+(yn l s a).1.n*((yn l s a).1.data+(yn l s a).1.ptrs)<=(yn l s a).1.cost/\((yn l s a).1.data+(yn l s a).1.ptrs=0->1+(yn l s a).1.n<=(yn l s a).1.cost)):=by
 have hd:=ZX (Qn hl s a)
 unfold yn at he ⊢
 rw[if_pos hf,if_neg h0] at he ⊢
 unfold vu at he ⊢
 generalize zI (zV l s a).1=p at he hd ⊢
 by_cases k0:p.1=0
 ·rw[if_pos k0] at he ⊢
  unfold vv at he ⊢
  by_cases hb:inB l (zV l s a).2.1 ((zV l s a).2.2.1+p.2.1) (p.2.2.1+p.2.2.2.1)
  ·rw[if_pos hb]
   exact ⟨fun _=>by dsimp only;omega,fun h=>absurd h (by dsimp only;omega),fun h=>absurd h (by dsimp only;omega)⟩
  ·rw[if_neg hb] at he;exact xU he (by decide)
 ·rw[if_neg k0] at he ⊢
  by_cases k1:p.1=1
  ·rw[if_pos k1] at he ⊢
   unfold vt at he ⊢
   by_cases h7:p.2.2.2.2.1=7
   ·rw[if_pos h7] at he ⊢
    unfold wF at he ⊢
    by_cases hb:inB l (zV l s a).2.1 ((zV l s a).2.2.1+p.2.1) (p.2.2.2.2.2.1+1)
    ·rw[if_pos hb] at he ⊢
     split at he
     ·rename_i hk
      rw[if_pos hk]
      refine ⟨fun h=>absurd h (by dsimp only;omega),fun _ h=>absurd rfl h,fun _ _=>⟨?_,fun h=>?_⟩⟩
      ·have:=hk.2.1
       have:=hk.2.2
       dsimp only
       split<;>omega
      ·dsimp only at h ⊢
       rw[if_pos h]
       omega
     ·exact xU he (by decide)
    ·rw[if_neg hb] at he;exact xU he (by decide)
   ·rw[if_neg h7] at he ⊢
    by_cases hb:inB l (zV l s a).2.1 ((zV l s a).2.2.1+p.2.1) (zs p.2.2.2.2.1 p.2.2.2.2.2.1)
    ·rw[if_pos hb]
     exact ⟨fun h=>absurd h (by dsimp only;omega),fun _ _=>by dsimp only;omega,fun _ h=>absurd h h7⟩
    ·rw[if_neg hb] at he;exact xU he (by decide)
  ·rw[if_neg k1] at he
   split at he
   ·exact xU he (by decide)
   ·exact xU he (by decide)
theorem zg2 {l:List (List Int)} (hl:zF l) (hs:Sm l):∀ D,uD D (zH l D):=by
 intro D
 induction D with
 |zero=>
  intro m s a hz
  unfold zH at hz ⊢
  by_cases h1:(zV l s a).2.2.2=0
  ·rw[if_pos h1] at hz ⊢
   by_cases h2:(zV l s a).1=0
   ·rw[if_pos h2]
    exact ⟨by show 0<=m-m;omega,Ks⟩
   ·rw[if_neg h2] at hz;exact absurd hz (show ¬(7:Int)=0 by decide)
  ·rw[if_neg h1] at hz;exact absurd hz h1
 |succ D ih=>
  intro m s a hz
  refine ⟨?_,(V9 hl hs (D+1) m s a hz).1⟩
  rw[zH] at hz ⊢
  dsimp only at hz ⊢
  by_cases h1:(zV l s a).2.2.2=0
  ·rw[if_pos h1] at hz ⊢
   by_cases h2:(zV l s a).1=0
   ·rw[if_pos h2]
    show yc (D+1) (zi nd0)<=m-m
    rw[XP,yc]
    show (if (0:Int)=0 then 0 else _)<=_
    rw[if_pos rfl]
    omega
   ·rw[if_neg h2] at hz ⊢
    unfold wz at hz ⊢
    by_cases h3:(yn l s a).2=0
    ·rw[if_pos h3] at hz ⊢
     have ho:=Xw hl hs h2 h1 h3
     have hi:=zjb hl hs h2 h1 h3
     generalize (yn l s a).1=o at hz ho hi ⊢
     by_cases h4:o.cost>m
     ·rw[if_pos h4] at hz;exact absurd hz (show ¬(8:Int)=0 by decide)
     ·rw[if_neg h4] at hz ⊢
      obtain ⟨hat,hd,hq,hel,hn,hco,hk,hw,hzz⟩:=ho
      by_cases k1:o.kind=1
      ·rw[if_pos k1] at hz ⊢
       obtain ⟨d,ks,e1,e2,e3,e4,e5,_⟩:=zcg ih l (m-o.cost) hd.1 hz
       rw[e1,zcK,yc]
       show (if (1:Int)=0 then 0 else wH (.mk 1 0 0 (d.take (8*yp d)) ((ks.map zi).take (yo ks)))+zm (((ks.map zi).take (yo ks)).map (yc D)))<=_
       rw[if_neg (by decide),Xy,if_neg (fun h=>absurd h.1 (by decide))]
       have e6:yB (.mk 1 0 0 (d.take (8*yp d)) ((ks.map zi).take (yo ks)))=(((d.take (8*yp d)).length/8+((ks.map zi).take (yo ks)).length:Nat):Int):=rfl
       have e7:=qC (c:=yc D) (ks.map zi) (yo ks) (fun x hx=>by
        obtain ⟨y,hy,rfl⟩:=List.mem_map.1 hx
        exact Xf D (Vj y (e5 y hy)))
       rw[e6,zm0,zm0,zmU]
       have:=hi.1 k1
       omega
      ·have k2:o.kind=2:=by omega
       rw[if_neg k1] at hz ⊢
       unfold xx at hz ⊢
       by_cases h6:o.elem<6
       ·rw[if_pos h6]
        show yc (D+1) (zi (.mk 2 o.elem o.n _ []))<=m-(m-o.cost)
        rw[zi,if_neg (by decide),yc]
        show (if (2:Int)=0 then 0 else wH (.mk 2 o.elem o.n _ [])+zm ((yg (.mk 2 o.elem o.n _ [])).map (yc D)))<=_
        rw[if_neg (by decide),Xy,if_neg (fun h=>by omega),zcw,if_neg (fun h=>by omega)]
        have e6:∀ d,yB (.mk 2 o.elem o.n d [])=zs o.elem o.n:=fun d=>by
         unfold yB
         show (if (2:Int)=0 then 0 else if (2:Int)=1 then _ else if o.elem=7 then _ else zs o.elem o.n)=_
         rw[if_neg (by decide),if_neg (by decide),if_neg (by omega)]
        show yB (.mk 2 o.elem o.n _ [])+0+0<=_
        rw[e6,←(hw k2 h6).2]
        omega
       ·rw[if_neg h6] at hz ⊢
        have hz':(zW (fun m (i:Nat)=>if o.elem=6 then zH l D m o.seg (o.at_+i) else zZ (zH l D) l m (yl o i)) o.n.toNat 0 (m-o.cost) []).2.2=0:=hz
        rw[vX hz']
        by_cases e6:o.elem=6
        ·obtain ⟨ys,q1,q2,q3,q4⟩:=Qx (C:=fun x=>yc D (zi x)) (Q:=VN) o.n.toNat 0 (m-o.cost) [] (fun m j _ _ h0=>by
          rw[if_pos e6] at h0 ⊢
          exact ih _ _ _ h0) hz'
         generalize zW (fun m (i:Nat)=>if o.elem=6 then zH l D m o.seg (o.at_+i) else zZ (zH l D) l m (yl o i)) o.n.toNat 0 (m-o.cost) []=K at q1 q3 ⊢
         show yc (D+1) (zi (.mk 2 o.elem o.n [] K.1))<=m-K.2.1
         rw[q1,zm7,zi,if_neg (by decide),xo,yc]
         show (if (2:Int)=0 then 0 else wH (.mk 2 o.elem o.n [] (ys.map zi))+zm ((yg (.mk 2 o.elem o.n [] (ys.map zi))).map (yc D)))<=_
         rw[if_neg (by decide),Xy,if_neg (fun h=>by omega),zcw,if_neg (fun h=>by omega)]
         have e7:yB (.mk 2 o.elem o.n [] (ys.map zi))=zs o.elem o.n:=by
          unfold yB
          show (if (2:Int)=0 then 0 else if (2:Int)=1 then _ else if o.elem=7 then _ else zs o.elem o.n)=_
          rw[if_neg (by decide),if_neg (by decide),if_neg (by omega)]
         have:=hi.2.1 k2 (by omega)
         rw[e7,List.map_map]
         have q3':zm (ys.map (yc D∘zi))<=m-o.cost-K.2.1:=q3
         omega
        ·have e7:o.elem=7:=by omega
         obtain ⟨ys,q1,q2,q3,q4⟩:=Qx (C:=fun x=>zm ((zi x).kids.map (yc D))) (Q:=fun x=>(zi x).data.length/8<=o.data.toNat/\(zi x).kids.length<=o.ptrs.toNat) o.n.toNat 0 (m-o.cost) [] (fun m j _ _ h0=>by
          rw[if_neg e6] at h0 ⊢
          obtain ⟨d,ks,g1,g2,g3,g4,g5,_⟩:=zcg ih l m (o:=yl o j) hd.1 h0
          have g6:=qC (c:=yc D) (ks.map zi) (yo ks) (fun x hx=>by
           obtain ⟨y,hy,rfl⟩:=List.mem_map.1 hx
           exact Xf D (Vj y (g5 y hy)))
          rw[g1,zcK]
          refine ⟨?_,?_,?_⟩
          ·show zm (((ks.map zi).take (yo ks)).map (yc D))<=_
           omega
          ·show (d.take (8*yp d)).length/8<=_
           have g2':d.length<=8*o.data.toNat:=g2
           rw[zm0]
           omega
          ·show ((ks.map zi).take (yo ks)).length<=_
           have g3':ks.length=o.ptrs.toNat:=g3
           rw[zm0,zmU]
           omega) hz'
         generalize zW (fun m (i:Nat)=>if o.elem=6 then zH l D m o.seg (o.at_+i) else zZ (zH l D) l m (yl o i)) o.n.toNat 0 (m-o.cost) []=K at q1 q3 ⊢
         show yc (D+1) (zi (.mk 2 o.elem o.n [] K.1))<=m-K.2.1
         rw[q1,zm7,zi,if_neg (by decide),xo,yc]
         show (if (2:Int)=0 then 0 else wH (.mk 2 o.elem o.n [] (ys.map zi))+zm ((yg (.mk 2 o.elem o.n [] (ys.map zi))).map (yc D)))<=_
         rw[if_neg (by decide),Xy,show yg (.mk 2 o.elem o.n [] (ys.map zi))=(ys.map zi).flatMap Nd.kids from if_pos ⟨rfl,e7⟩,W8,List.map_map]
         have e8:yB (.mk 2 o.elem o.n [] (ys.map zi))=1+o.n*((zn (ys.map zi)+zq (ys.map zi):Nat):Int):=by
          unfold yB
          show (if (2:Int)=0 then 0 else if (2:Int)=1 then _ else if o.elem=7 then 1+o.n*((zn (ys.map zi)+zq (ys.map zi):Nat):Int) else _)=_
          rw[if_neg (by decide),if_neg (by decide),if_pos e7]
         have u1:zn (ys.map zi)<=o.data.toNat:=XQ fun x hx=>by
          obtain ⟨y,hy,rfl⟩:=List.mem_map.1 hx
          exact (q4 y hy).1
         have u2:zq (ys.map zi)<=o.ptrs.toNat:=XR fun x hx=>by
          obtain ⟨y,hy,rfl⟩:=List.mem_map.1 hx
          exact (q4 y hy).2
         have hc7:=hi.2.2 k2 e7
         have hmul:o.n*((zn (ys.map zi)+zq (ys.map zi):Nat):Int)<=o.n*(o.data+o.ptrs):=Int.mul_le_mul_of_nonneg_left (by omega) hn.1
         rw[e8]
         have q3':zm (ys.map ((fun k=>zm (k.kids.map (yc D)))∘zi))<=m-o.cost-K.2.1:=q3
         split
         ·rename_i hu
          rw[hu.2.2]
          have:o.n<=o.n*(o.data+o.ptrs)∨o.data+o.ptrs=0:=by
           by_cases hz0:o.data+o.ptrs=0
           ·exact .inr hz0
           ·left
            have:=Int.mul_le_mul_of_nonneg_left (show (1:Int)<=o.data+o.ptrs by omega) hn.1
            omega
          rcases this with h|h
          ·simp only[Int.natCast_zero,Int.mul_zero]
           have:=hc7.1
           omega
          ·have:=hc7.2 h
           simp only[Int.natCast_zero,Int.mul_zero]
           omega
         ·have:=hc7.1
          omega
    ·rw[if_neg h3] at hz;exact absurd hz h3
  ·rw[if_neg h1] at hz;exact absurd hz h1
def vh (s:Int):za:=[[.pv (I s)],[.clo (.func 261) [] [.ptr 0 0,.ptr 1 0]]]
theorem qN:ZI (.func 261) [] [.ptr 0 0,.ptr 1 0] (.clo (.func 261) [] [.ptr 0 0,.ptr 1 0])=true:=rfl
theorem JI (a b:List AV):decide ([a,b].length=2)=true:=rfl
def We (D:Nat) (t:Nd):Prop:=∀ s:Int,0<=s->s+zC D t<=4611686018427387904->ev 261 [.pv t.x,.ptr 0 0,.ptr 1 0] (vh s)=some (.ret (.pv (.tup [])),vh (s+zC D t))
theorem xP:∀ (D:Nat) {x:Nd},VN x->0<=zC D x
 |0,x,hv=>Xv hv
 |D+1,x,hv=>by
  rw[zC]
  have:=Xv hv
  have:=xZ (l:=(yg x).map (zC D)) fun y hy=>by
   obtain ⟨t,ht,rfl⟩:=List.mem_map.1 hy
   exact xP D (Zq hv t ht)
  omega
theorem Xh {f:Nd->Int} {l:List Nd} {i:Nat} (h:i<l.length):zm ((l.drop i).map f)=f l[i]+zm ((l.drop (i+1)).map f):=by
 rw[List.drop_eq_getElem_cons h,List.map_cons,xY]
theorem zl6 {D:Nat} {q:List Nd} (hq:q.length<=1073741824) (hv:∀ t∈q,We D t) (hn:∀ t∈q,VN t) (ks:List PV) (i1 i2 i7 i8 i9:Int) (xs10 xs11:List PV) (c0 c1 c2 c3 c4:PV):∀ (c j:Nat) (s:Int),j+c=q.length->0<=s->s+zm ((q.drop j).map (zC D))<=4611686018427387904->
  VO ks i1 i2 (.sl 5 (zD q)) q.length j (I s) i7 i8 i9 xs10 xs11 c0 c1 c2 c3 c4=Yu ks i1 (IntKind.wrap .i64 (i2+1)) (I (s+zm ((q.drop j).map (zC D)))) i7 i8 i9 xs10 xs11:=by
 intro c
 induction c with
 |zero=>
  intro j s hj h0 hs
  rw[rI,decide_eq_false (by omega),List.drop_eq_nil_of_le (by omega)]
  simp[wn]
 |succ c ih=>
  intro j s hj h0 hs
  have hjl:j<q.length:=by omega
  have hV:=hv _ (List.getElem_mem hjl) s h0
  have hp:=xP D (hn _ (List.getElem_mem hjl))
  have hr:0<=zm ((q.drop (j+1)).map (zC D)):=xZ fun y hy=>by
   obtain ⟨t,ht,rfl⟩:=List.mem_map.1 hy
   exact xP D (hn t (List.mem_of_mem_drop ht))
  rw[Xh hjl] at hs ⊢
  have hV':=hV (by omega)
  unfold vh at hV'
  dsimp only[Nd.x] at hV'
  rw[rI,dT ((j:Int)<(q.length:Int))]
  dsimp only[yx,zm4,zc]
  rw[decide_eq_true (show (5:Nat)=5 from rfl),dT (0<=(j:Int)),decide_eq_true (show (j:Int)<((zD q).length:Int) by simp;omega)]
  dsimp only[zo,zc]
  rw[zmX,vR hjl]
  dsimp only[zm4]
  rw[ZA,Z4,show (q[j].c.drop 0).take 5=q[j].c from rfl]
  dsimp only[Nd.c,zm2,zm3,zm4,wg,zo,yF,zc]
  rw[hV']
  dsimp only[zl,zm2,zm3,zt,zm4,wM,zc]
  rw[qN,JI,ze (x:=(j:Int)+1)]
  dsimp only[zc]
  have:=ih (j+1) (s+zC D q[j]) (by omega) (by omega) (by omega)
  rw[show s+(zC D q[j]+zm ((q.drop (j+1)).map (zC D)))=s+zC D q[j]+zm ((q.drop (j+1)).map (zC D)) by omega]
  exact this
theorem zcR {D:Nat} {ks:List Nd} (hq:ks.length<=1073741824) (hv:∀ t∈ks,We D t) (hn:∀ t∈ks,VN t) (i4 i5 i6:Int) (h7:i5≠7) (xs7 xs8:List PV):∀ (c j:Nat) (s:Int),j+c=ks.length->0<=s->s+zm ((ks.drop j).map (zC D))<=4611686018427387904->
  Yu (zD ks) ks.length j (I s) i4 i5 i6 xs7 xs8=some (.ret (.pv (.tup [])),vh (s+zm ((ks.drop j).map (zC D)))):=by
 intro c
 induction c with
 |zero=>
  intro j s hj h0 hs
  rw[VM,decide_eq_false (by omega),List.drop_eq_nil_of_le (by omega)]
  simp[wn,vh]
 |succ c ih=>
  intro j s hj h0 hs
  have hjl:j<ks.length:=by omega
  have hV:=hv _ (List.getElem_mem hjl) s h0
  have hp:=xP D (hn _ (List.getElem_mem hjl))
  have hr:0<=zm ((ks.drop (j+1)).map (zC D)):=xZ fun y hy=>by
   obtain ⟨t,ht,rfl⟩:=List.mem_map.1 hy
   exact xP D (hn t (List.mem_of_mem_drop ht))
  rw[Xh hjl] at hs ⊢
  have hV':=hV (by omega)
  unfold vh at hV'
  dsimp only[Nd.x] at hV'
  rw[VM,dT ((j:Int)<(ks.length:Int)),dT (0<=(j:Int)),decide_eq_true (show (j:Int)<((zD ks).length:Int) by simp;omega)]
  dsimp only[zo,zc]
  rw[zmX,vR hjl]
  dsimp only[zm4]
  rw[ZA,Z4,show (ks[j].c.drop 0).take 5=ks[j].c from rfl,show (i5 != 7)=true from by simpa using h7]
  dsimp only[Nd.c,zm2,zm3,zc,zm4,wg,zo,yF]
  rw[hV']
  dsimp only[zl,zm2,zm3,zt,zm4,wM,zc]
  rw[qN,JI,ze (x:=(j:Int)+1)]
  dsimp only[zc]
  have:=ih (j+1) (s+zC D ks[j]) (by omega) (by omega) (by omega)
  rw[show s+(zC D ks[j]+zm ((ks.drop (j+1)).map (zC D)))=s+zC D ks[j]+zm ((ks.drop (j+1)).map (zC D)) by omega]
  exact this
theorem zl5 {D:Nat} {ks:List Nd} (hq:ks.length<=1073741824) (hk:∀ k∈ks,k.kids.length<=1073741824) (hv:∀ k∈ks,∀ t∈k.kids,We D t) (hn:∀ k∈ks,∀ t∈k.kids,VN t) (i4 i6:Int) (xs7 xs8:List PV):∀ (c j:Nat) (s:Int),j+c=ks.length->0<=s->s+zm ((ks.drop j).map fun k=>zm (k.kids.map (zC D)))<=4611686018427387904->
  Yu (zD ks) ks.length j (I s) i4 7 i6 xs7 xs8=some (.ret (.pv (.tup [])),vh (s+zm ((ks.drop j).map fun k=>zm (k.kids.map (zC D))))):=by
 intro c
 induction c with
 |zero=>
  intro j s hj h0 hs
  rw[VM,decide_eq_false (by omega),List.drop_eq_nil_of_le (by omega)]
  simp[wn,vh]
 |succ c ih=>
  intro j s hj h0 hs
  have hjl:j<ks.length:=by omega
  have hmem:=List.getElem_mem hjl
  have nn:∀ k∈ks,0<=zm (k.kids.map (zC D)):=fun k hk=>xZ fun y hy=>by
   obtain ⟨t,ht,rfl⟩:=List.mem_map.1 hy
   exact xP D (hn k hk t ht)
  have hp:=nn _ hmem
  have hr:0<=zm ((ks.drop (j+1)).map fun k=>zm (k.kids.map (zC D))):=xZ fun y hy=>by
   obtain ⟨t,ht,rfl⟩:=List.mem_map.1 hy
   exact nn t (List.mem_of_mem_drop ht)
  rw[Xh hjl] at hs ⊢
  have hin:=zl6 (hk _ hmem) (hv _ hmem) (hn _ hmem) (zD ks) ks.length j i4 7 i6 xs7 xs8 (I ks[j].kind) (I ks[j].elem) (I ks[j].n) (.sl 1 (bs ks[j].data)) (.sl 5 (zD ks[j].kids)) ks[j].kids.length 0 s (by omega) h0 (by rw[List.drop_zero];omega)
  rw[List.drop_zero,ze (x:=(j:Int)+1)] at hin
  rw[VM,dT ((j:Int)<(ks.length:Int)),dT (0<=(j:Int)),decide_eq_true (show (j:Int)<((zD ks).length:Int) by simp;omega)]
  dsimp only[zo,zc]
  rw[zmX,vR hjl]
  dsimp only[zm4]
  rw[ZA,Z4,show (ks[j].c.drop 0).take 5=ks[j].c from rfl,show ((7:Int) != 7)=false from rfl]
  dsimp only[Nd.c,zm2,zm3,zu,zm4,wg,zo,yx,yF,zc]
  rw[wQ]
  refine hin.trans ?_
  have:=ih (j+1) (s+zm (ks[j].kids.map (zC D))) (by omega) (by omega) (by omega)
  rw[show s+(zm (ks[j].kids.map (zC D))+zm ((ks.drop (j+1)).map fun k=>zm (k.kids.map (zC D))))=s+zm (ks[j].kids.map (zC D))+zm ((ks.drop (j+1)).map fun k=>zm (k.kids.map (zC D))) by omega]
  exact this
theorem zlQ {x:Nd} (hg:yr x) (hv:VN x):zn x.kids+zq x.kids<=4611686018427387904:=by
 obtain ⟨hd,hk,hks⟩:=YA hg
 have:=XQ (l:=x.kids) (b:=17592186044416) fun y hy=>by
  have:=(YA (hks y hy)).1
  omega
 have:=XR (l:=x.kids) (b:=1073741824) fun y hy=>(YA (hks y hy)).2.1
 omega
theorem zcQ:∀ (D:Nat) (x:Nd),yr x->VN x->Dp D x->We D x
 |D,x,hg,hv,hd=>by
  intro s h0 hs
  have ho:=Xv hv
  obtain ⟨hgd,hgk,hgs⟩:=YA hg
  have hob:yB x<=zC D x:=by
   cases D with
   |zero=>exact Int.le_refl _
   |succ D=>
    rw[zC]
    have:=xZ (l:=(yg x).map (zC D)) fun y hy=>by
     obtain ⟨t,ht,rfl⟩:=List.mem_map.1 hy
     exact xP D (Zq hv t ht)
    omega
  have hO:=uR hg hv (by omega) (zlQ hg hv)
  dsimp only[Nd.x] at hO
  unfold vh
  rw[Nd.x,zga,hO,wQ]
  dsimp only[zl,zt,zm4,z7]
  rw[ze (x:=s+yB x)]
  by_cases k0:x.kind=0
  ·have:=Vi hv k0
   subst this
   have:=zcR (D:=D) (ks:=[]) (by simp) (fun t h=>by cases h) (fun t h=>by cases h) 0 0 0 (by decide) (bs []) (zD []) 0 0 (s+yB nd0) rfl (by omega) (by simp[wn];omega)
   refine this.trans ?_
   rw[Xt hv k0,JW k0]
   simp[wn,vh]
  ·cases D with
   |zero=>exact absurd hd k0
   |succ D=>
    have hd':=(hd.resolve_left k0).2
    have hT:∀ t∈yg x,We D t:=fun t ht=>zcQ D t (zam hg t ht) (Zq hv t ht) (hd' t ht)
    rw[zC] at hs ⊢
    by_cases h7:x.kind=2/\x.elem=7
    ·have et:yg x=x.kids.flatMap Nd.kids:=if_pos h7
     rw[et,W8] at hs ⊢
     rw[et] at hT
     have:=zl5 (D:=D) hgk (fun k hk=>(YA (hgs k hk)).2.1) (fun k hk t ht=>hT t (List.mem_flatMap.2 ⟨k,hk,ht⟩)) (fun k hk t ht=>Zq hv t (by rw[et];exact List.mem_flatMap.2 ⟨k,hk,ht⟩)) x.kind x.n (bs x.data) (zD x.kids) x.kids.length 0 (s+yB x) (by omega) (by omega) (by rw[List.drop_zero];omega)
     rw[List.drop_zero] at this
     rw[h7.2]
     refine this.trans ?_
     unfold vh
     rw[show s+(yB x+zm (x.kids.map fun k=>zm (k.kids.map (zC D))))=s+yB x+zm (x.kids.map fun k=>zm (k.kids.map (zC D))) by omega]
    ·have et:yg x=x.kids:=if_neg h7
     have he7:x.elem≠7:=fun h=>by
      obtain ⟨hs',_⟩:=wT hv
      rcases hs' with h'|h'|h'<;>omega
     rw[et] at hs hT ⊢
     have:=zcR (D:=D) hgk hT (fun t ht=>Zq hv t (by rw[et];exact ht)) x.kind x.elem x.n he7 (bs x.data) (zD x.kids) x.kids.length 0 (s+yB x) (by omega) (by omega) (by rw[List.drop_zero];omega)
     rw[List.drop_zero] at this
     refine this.trans ?_
     unfold vh
     rw[show s+(yB x+zm (x.kids.map (zC D)))=s+yB x+zm (x.kids.map (zC D)) by omega]
theorem zdu {D:Nat} {x:Nd} (hg:yr x) (hv:VN x) (hd:Dp D x) (hb:zC D x<=4611686018427387904):ev 217 [.pv x.x] []=ok (I (zC D x)):=by
 have h:=zcQ D x hg hv hd 0 (Int.le_refl _) (by omega)
 unfold vh at h
 dsimp only[Nd.x] at h
 rw[Nd.x,zgb,h]
 dsimp only[zl,zm2,zm3,zt,zm4,wM,zc]
 rw[qN,JI,Int.zero_add]
 rfl
theorem zdD {D:Nat} {x:Nd} (hg:yr x) (hv:VN x) (hd:Dp D x) (hb:zC D x<=4611686018427387904):ev 156 [.pv x.x] []=ok (I (zC D x+1)):=by
 have h:=zdu hg hv hd hb
 have hn:=xP D hv
 dsimp only[Nd.x] at h
 rw[Nd.x,zgd,h]
 dsimp only[zk,z7,zm4]
 rw[ze (by omega)]
theorem getD_drop (b:List Int) (n k:Nat):(b.drop n).getD k 0=b.getD (n+k) 0:=by
 rw[List.getD_eq_getElem?_getD,List.getD_eq_getElem?_getD,List.getElem?_drop]
theorem Wl {b:List Int} {i:Nat} (h:i<b.length):(bs b)[i]? = some (U8 (b.getD i 0)):=by
 rw[Yr h,List.getD_eq_getElem?_getD,zmS h]
 rfl
def YY (f:Nat->Nat):Nat->Nat
 |0=>0
 |k+1=>YY f k+f k*2^(8*k)
theorem gC {f:Nat->Nat} (hf:∀ k,f k<256):∀ k,YY f k<2^(8*k)
 |0=>by show 0<1;decide
 |k+1=>by
  have:=gC hf k
  have h1:=hf k
  have:f k*2^(8*k)<=255*2^(8*k):=Nat.mul_le_mul_right _ (by omega)
  rw[YY,show 8*(k+1)=8*k+8 by omega,Nat.pow_add]
  omega
theorem zjm {a x i:Nat} (ha:a<2^i) (hx:x<256) (hi:i+8<=64):IntKind.wrap .u64 (BitVec.ofInt 64 (a:Int) ||| BitVec.ofInt 64 (IntKind.wrap .u64 (IntKind.wrap .u64 (x:Int)*2^(min (i:Int).toNat 64)))).toNat=((a+x*2^i:Nat):Int):=by
 have hk:2^i*2^8<=2^64:=by rw[←Nat.pow_add];exact Nat.pow_le_pow_right (by decide) hi
 have hi0:0<2^i:=Nat.pow_pos (by decide)
 have hx2:x*2^i<=255*2^i:=Nat.mul_le_mul_right _ (by omega)
 have e:IntKind.wrap .u64 (IntKind.wrap .u64 (x:Int)*2^(min (i:Int).toNat 64))=((x*2^i:Nat):Int):=by
  rw[wu (by omega),zmX,Nat.min_eq_left (by omega),show (2:Int)^i=((2^i:Nat):Int) by push_cast;rfl,←Int.natCast_mul]
  exact wu (by omega)
 rw[e]
 have e3:(BitVec.ofInt 64 (a:Int) ||| BitVec.ofInt 64 ((x*2^i:Nat):Int)).toNat=a+x*2^i:=by
  rw[BitVec.toNat_or,vw (by omega),vw (by omega),Nat.or_comm,Nat.mul_comm,←Nat.two_pow_add_eq_or_of_lt ha]
  omega
 rw[e3,wu (by omega)]
def xh (b:List Int) (i:Nat):Nat:=(b.getD i 0).toNat
theorem xc {b:List Int} (hb:∀ x∈b,zj x) (i:Nat):((xh b i:Nat):Int)=b.getD i 0/\xh b i<256:=by
 have:=yR hb i
 unfold xh
 omega
theorem zeA (f:Nat->Nat):YY f 8=0+f 0*1+f 1*256+f 2*65536+f 3*16777216+f 4*4294967296+f 5*1099511627776+f 6*281474976710656+f 7*72057594037927936:=rfl
theorem zeB {b:List Int} (hb:∀ x∈b,zj x) (n:Nat):((YY (fun k=>xh b (n+k)) 8:Nat):Int)=xM (b.drop n):=by
 unfold xM
 simp only[getD_drop]
 rw[←(xc hb (n+0)).1,←(xc hb (n+1)).1,←(xc hb (n+2)).1,←(xc hb (n+3)).1,←(xc hb (n+4)).1,←(xc hb (n+5)).1,←(xc hb (n+6)).1,←(xc hb (n+7)).1]
 rw[zeA]
 omega
theorem zh2 {b:List Int} (hb:∀ x∈b,zj x) {i:Nat} (hi:8*i+8<=b.length) (hl:b.length<=17592186044416):∀ (c k:Nat),k+c=8->Kv (bs b) i ((YY (fun k=>xh b (8*i+k)) k:Nat):Int) k=ok (.tup [U (xM (b.drop (8*i))),Bo true]):=by
 intro c
 induction c with
 |zero=>
  intro k hk
  have:k=8:=by omega
  subst this
  rw[zcZ,decide_eq_false (by decide),zeB hb]
  rfl
 |succ c ih=>
  intro k hk
  have hx:=xc hb (8*i+k)
  rw[zcZ,dT ((k:Int)<8),ze (x:=8*(i:Int)),ze (x:=8*(i:Int)+k),dT (0<=8*(i:Int)+k),decide_eq_true (show 8*(i:Int)+k<((bs b).length:Int) by simp;omega)]
  dsimp only[zo,zc]
  rw[show (8*(i:Int)+k).toNat=8*i+k by omega,Wl (by omega),←hx.1]
  dsimp only[zm4,yi,zm2,xD]
  rw[ze (x:=8*(k:Int)),show (8*(k:Int))=((8*k:Nat):Int) by push_cast;rfl,wu (by omega),zjm (gC (fun j=>(xc hb (8*i+j)).2) k) hx.2 (by omega),ze (x:=(k:Int)+1),show yN .shl ((8*k:Nat):Int)=true from by unfold yN;exact decide_eq_true (by omega)]
  exact ih (k+1) (by omega)
theorem zds {b:List Int} (hb:∀ x∈b,zj x) {i:Nat} (hi:8*i+8<=b.length) (hl:b.length<=17592186044416):ev 116 [.pv (.sl 1 (bs b)),.pv (I (i:Int))] []=ok (.tup [U (xM (b.drop (8*i))),Bo true]):=by
 rw[zmn,zK,Int.tdiv_eq_ediv_of_nonneg (by omega),ze (x:=(b.length:Int)/8),dF ((i:Int)<0),dF ((i:Int)≥(b.length:Int)/8)]
 exact zh2 hb hi hl 8 0 rfl
def vk (f:Nat->Nat):Nat->Nat
 |0=>0
 |k+1=>vk f k*256+f (7-k)
theorem gB {f:Nat->Nat} (hf:∀ k,f k<256):∀ k,vk f k<256^k
 |0=>by show 0<1;decide
 |k+1=>by
  have:=gB hf k
  have h1:=hf (7-k)
  rw[vk,Nat.pow_succ]
  omega
theorem zey (f:Nat->Nat):vk f 8=(((((((0*256+f 7)*256+f 6)*256+f 5)*256+f 4)*256+f 3)*256+f 2)*256+f 1)*256+f 0:=rfl
theorem zez {b:List Int} (hb:∀ x∈b,zj x) (n:Nat):((vk (fun k=>xh b (n+k)) 8:Nat):Int)=xM (b.drop n):=by
 unfold xM
 simp only[getD_drop]
 rw[←(xc hb (n+0)).1,←(xc hb (n+1)).1,←(xc hb (n+2)).1,←(xc hb (n+3)).1,←(xc hb (n+4)).1,←(xc hb (n+5)).1,←(xc hb (n+6)).1,←(xc hb (n+7)).1]
 rw[zey]
 omega
theorem zkz {b:List Int} (hb:∀ x∈b,zj x) {i:Nat} (hi:8*i+8<=b.length) (hl:b.length<=17592186044416):∀ (c k:Nat),k+c=8->VU (bs b) i ((vk (fun k=>xh b (8*i+k)) k:Nat):Int) (7-k)=ok (.tup [U (xM (b.drop (8*i))),Bo true]):=by
 intro c
 induction c with
 |zero=>
  intro k hk
  have:k=8:=by omega
  subst this
  rw[rQ,decide_eq_false (by decide),zez hb]
  rfl
 |succ c ih=>
  intro k hk
  have hx:=xc hb (8*i+(7-k))
  have ha:=gB (f:=fun k=>xh b (8*i+k)) (fun j=>(xc hb (8*i+j)).2) (k+1)
  have hp:256^(k+1)<=256^8:=Nat.pow_le_pow_right (by decide) (by omega)
  rw[vk] at ha
  have hq2:vk (fun k=>xh b (8*i+k)) k*256+xh b (8*i+(7-k))<2^64:=Nat.lt_of_lt_of_le ha (Nat.le_trans hp (by decide))
  have hq:vk (fun k=>xh b (8*i+k)) k*256<2^64:=Nat.lt_of_le_of_lt (Nat.le_add_right _ _) hq2
  rw[rQ,dT ((7:Int)-k≥0),ze (x:=8*(i:Int)),ze (x:=8*(i:Int)+(7-k)),dT (0<=8*(i:Int)+(7-k)),decide_eq_true (show 8*(i:Int)+(7-k)<((bs b).length:Int) by simp;omega)]
  dsimp only[zo,zc]
  rw[show (8*(i:Int)+(7-k)).toNat=8*i+(7-k) by omega,Wl (by omega),←hx.1]
  dsimp only[zm4,yi,zm2,xD]
  rw[wu (n:=xh b (8*i+(7-k))) (by omega),show ((vk (fun k=>xh b (8*i+k)) k:Nat):Int)*256=((vk (fun k=>xh b (8*i+k)) k*256:Nat):Int) by rw[Int.natCast_mul];rfl,wu (n:=vk (fun k=>xh b (8*i+k)) k*256) hq,←Int.natCast_add,wu hq2,ze (x:=(7:Int)-k-1)]
  have:=ih (k+1) (by omega)
  rw[show (7:Int)-((k+1:Nat):Int)=7-k-1 by omega] at this
  exact this
theorem zd7 {b:List Int} (hb:∀ x∈b,zj x) {i:Nat} (hi:8*i+8<=b.length) (hl:b.length<=17592186044416):ev 94 [.pv (.sl 1 (bs b)),.pv (I (i:Int))] []=ok (.tup [U (xM (b.drop (8*i))),Bo true]):=by
 rw[zgl,zK,Int.tdiv_eq_ediv_of_nonneg (by omega),ze (x:=(b.length:Int)/8),ze (x:=(b.length:Int)/8-1),dF ((i:Int)<0),dF ((i:Int)>(b.length:Int)/8-1)]
 exact zkz hb hi hl 8 0 rfl
theorem zc3:∀ (n i:Nat) (b:List Int),i<n->(zS n b)[i]? = some (xM (b.drop (8*i)))
 |0,i,b,h=>by omega
 |n+1,0,b,h=>by simp[zS]
 |n+1,i+1,b,h=>by
  rw[zS,zm3,zc3 n i (b.drop 8) (by omega),List.drop_drop]
  congr 3
  omega
theorem zc5 {n i:Nat} (b:List Int) (h:i<n):(zS n b).take (i+1)=(zS n b).take i++[xM (b.drop (8*i))]:=by
 have hl:i<(zS n b).length:=by rw[xp];exact h
 rw[List.take_succ_eq_append_getElem hl]
 have:=zc3 n i b h
 rw[zmS hl] at this
 rw[Option.some.inj this]
theorem zme (b:List Int) (z:Nat):xM (b++List.replicate z 0)=xM b:=by
 have h:∀ k,(b++List.replicate z 0).getD k 0=b.getD k 0:=fun k=>by
  rw[List.getD_eq_getElem?_getD,List.getD_eq_getElem?_getD]
  by_cases h1:k<b.length
  ·rw[List.getElem?_append_left h1]
  ·rw[List.getElem?_append_right (by omega),List.getElem?_replicate,List.getElem?_eq_none (by omega)]
   split<;>rfl
 unfold xM
 simp only[h]
theorem zc4:∀ (n:Nat) (b:List Int) (z:Nat),zS n (b++List.replicate z 0)=zS n b
 |0,b,z=>rfl
 |n+1,b,z=>by
  rw[zS,zS,zme,List.drop_append,List.drop_replicate,zc4 n]
theorem zmv {b:List Int} (hb:∀ x∈b,zj x) (hl:b.length<=1099511627776) {n:Nat} (hn:8*n=b.length):∀ (c i:Nat),i+c=n->Kw (bs b) (ws ((zS n b).take i)) n i=ok (.tup [.sl 1 (ws (zS n b)),Bo true]):=by
 intro c
 induction c with
 |zero=>
  intro i hi
  rw[zc0,decide_eq_false (by omega),List.take_of_length_le (by rw[xp];omega)]
  rfl
 |succ c ih=>
  intro i hi
  rw[zc0,dT ((i:Int)<(n:Int)),zds hb (by omega) (by omega)]
  dsimp only[zk,z6,zm3,zm2,zm4,yi,zc]
  rw[yL (by rw[yj,zm0];omega) (by rw[yj,zm0];omega),ze (x:=(i:Int)+1),qQ,←zc5 b (by omega)]
  exact ih (i+1) (by omega)
theorem KO {b:List Int} (hb:∀ x∈b,zj x) (hl:b.length<=1099511627776) {n:Nat} (hn:8*n=b.length):ev 64 [.pv (.sl 1 (bs b))] []=ok (.tup [.sl 1 (ws (zS n b)),Bo true]):=by
 rw[zmq,zK,Int.tdiv_eq_ediv_of_nonneg (by omega),Int.tmod_eq_emod_of_nonneg (by omega),show (b.length:Int)/8=n by omega,ze (by omega),show ((b.length:Int)%8 != 0)=false from by simp;omega,dT (0<=(n:Int)),dT ((n:Int)<=140737488355328),zmX,yL (by omega) (by omega)]
 have:=zmv hb hl hn n 0 (by omega)
 rw[List.take_zero] at this
 exact this
theorem zkS {b:List Int} (hb:∀ x∈b,zj x) (hl:b.length<=1099511627776) {n:Nat} (hn:8*n=b.length):∀ (c i:Nat),i+c=n->VX (bs b) (ws ((zS n b).take i)) i=some (.ret (.tup 0 (.slu 30 1 (ws (zS n b))) [.v .nilIface,Bo true]),[]):=by
 intro c
 induction c with
 |zero=>
  intro i hi
  rw[rS,zK,Int.tdiv_eq_ediv_of_nonneg (by omega),show (b.length:Int)/8=n by omega,ze (x:=(n:Int)),decide_eq_false (by omega),List.take_of_length_le (by rw[xp];omega)]
  rfl
 |succ c ih=>
  intro i hi
  rw[rS,zK,Int.tdiv_eq_ediv_of_nonneg (by omega),show (b.length:Int)/8=n by omega,ze (x:=(n:Int)),dT ((i:Int)<(n:Int)),zd7 hb (by omega) (by omega)]
  dsimp only[zk,z6,zm3,zm2,zm4,yi,zc]
  rw[yL (by rw[yj,zm0];omega) (by rw[yj,zm0];omega),ze (x:=(i:Int)+1),qQ,←zc5 b (by omega)]
  exact ih (i+1) (by omega)
theorem zd9 {b:List Int} (hb:∀ x∈b,zj x) (hl:b.length<=1099511627776) {n:Nat} (hn:8*n=b.length):ev 87 [.pv (.sl 1 (bs b))] []=some (.ret (.tup 0 (.slu 30 1 (ws (zS n b))) [.v .nilIface,Bo true]),[]):=by
 rw[zgn,zK,Int.tmod_eq_emod_of_nonneg (by omega),show ((b.length:Int)%8 != 0)=false from by simp;omega]
 have:=zkS hb hl hn n 0 (by omega)
 rw[List.take_zero] at this
 exact this
theorem zfC (b:List Int) (z:Nat):bs (b++List.replicate z 0)=bs b++List.replicate z (U8 0):=by simp[bs]
theorem zfL {b:List Int} (hb:∀ x∈b,zj x) (z:Nat):∀ x∈b++List.replicate z 0,zj x:=fun x hx=>by
 rcases List.mem_append.1 hx with h|h
 ·exact hb x h
 ·rw[(List.mem_replicate.1 h).2];exact ⟨by decide,by decide⟩
def wh (W:List Int):za:=[[.slu 30 1 (ws W)]]
theorem zc7 (a b:List Int):ws (a++b)=ws a++ws b:=by simp[ws]
theorem zmA (n:Nat):ws (List.replicate n 0)=List.replicate n (U 0):=by simp[ws]
theorem KU {W b:List Int} (hb:∀ x∈b,zj x) {n:Nat} (hn:n<=137438953472) (h8:b.length<=8*n) (hW:W.length<=137438953472):ev 293 [.ptr 0 0,.pv (.sl 1 (bs b)),.pv (I (n:Int))] (wh W)=some (.ret (.pv (.tup [])),wh (W++zS n b)):=by
 unfold wh
 rw[zgf,ze (x:=8*(n:Int)),dT (0<=8*(n:Int)),dT (8*(n:Int)<=8*(n:Int)),dT (8*(n:Int)<=140737488355328),show (8*(n:Int)).toNat=8*n by omega,yL (by omega) (by omega),zmZ,List.drop_replicate,zK,List.take_of_length_le (show (bs b).length<=8*n by rw[zK];exact h8)]
 have:=KO (zfL hb (8*n-b.length)) (by rw[zm5,zmZ];omega) (n:=n) (by rw[zm5,zmZ];omega)
 rw[zfC,zc4] at this
 dsimp only[zo,zc]
 rw[this]
 dsimp only[zl,zt,zm4,z6,zm3,zm2,yx]
 rw[yj,yj,xp,yL (by omega) (by omega),zc7]
 rfl
theorem KV {W:List Int} {n:Nat} (hn:n<=137438953472) (hW:W.length<=137438953472):ev 292 [.ptr 0 0,.pv (I (n:Int))] (wh W)=some (.ret (.pv (I (W.length:Int))),wh (W++List.replicate n 0)):=by
 unfold wh
 rw[zgi,dT (0<=(n:Int)),dT ((n:Int)<=140737488355328),zmX,yj,zmZ,yL (by omega) (by omega),zc7,zmA]
 rfl
def vc (B:Nd->List Int) (a:Nat) (t:Nd) (W:List Int):List Int:=if t.kind=0 then W else W.set a (yW t ((W.length:Int)-a-1))++B t
def xg (B:Nd->List Int):List (Nat×Nd)->List Int->List Int
 |[],W=>W
 |(a,t)::r,W=>xg B r (vc B a t W)
def xa (i:Nat):List Nd->List (Nat×Nd)
 |[]=>[]
 |t::r=>(i,t)::xa (i+1) r
def ZE (a s i:Nat):List Nd->List (Nat×Nd)
 |[]=>[]
 |k::r=>xa (i+a) k.kids++ZE a s (i+s) r
def els (a b:Nat) (l:List Nd):List Int:=l.flatMap fun k=>zS a k.data++List.replicate b 0
theorem qo (B:Nd->List Int):∀ (l m:List (Nat×Nd)) (W:List Int),xg B (l++m) W=xg B m (xg B l W)
 |[],m,W=>rfl
 |(a,t)::l,m,W=>qo B l m _
theorem zbv {t:Nd} (h:t.kind=0) (o:Int):yW t o=0:=by unfold yW;rw[if_pos h]
theorem Q0 {B:Nd->List Int} (hB:∀ t:Nd,t.kind=0->B t=[]):∀ (q:List Nd) (X Y:List Int) (i n:Nat),i=X.length->n=X.length+q.length+Y.length->xg B (xa i q) (X++(List.replicate q.length 0++Y))=X++(xe B i n q++(Y++q.flatMap B))
 |[],X,Y,i,n,hi,hn=>by simp[xg,xa,xe]
 |t::r,X,Y,i,n,hi,hn=>by
  rw[xa,xg,xe,List.flatMap_cons,zm6,List.replicate_succ]
  rw[zm6] at hn
  have e:vc B i t (X++(0::List.replicate r.length 0++Y))=(X++[yW t ((n:Int)-i-1)])++(List.replicate r.length 0++(Y++B t)):=by
   unfold vc
   by_cases h0:t.kind=0
   ·rw[if_pos h0,zbv h0,hB t h0]
    simp
   ·rw[if_neg h0]
    have hl:(X++(0::List.replicate r.length 0++Y)).length=n:=by simp;omega
    rw[hl,hi,List.set_append_right _ _ (Nat.le_refl _),Nat.sub_self]
    simp
  rw[e,Q0 hB r (X++[yW t ((n:Int)-i-1)]) (Y++B t) (i+1) (n+(B t).length) (by simp[hi]) (by simp;omega)]
  simp only[List.append_assoc,List.singleton_append,List.cons_append,zm7]
theorem jB (a b:Nat) (k:Nd) (l:List Nd):els a b (k::l)=zS a k.data++(List.replicate b 0++els a b l):=by simp[els]
theorem Qf (a b:Nat):∀ l:List Nd,(els a b l).length=l.length*(a+b)
 |[]=>by simp[els]
 |k::l=>by rw[jB,zm5,zm5,xp,zmZ,Qf a b l,zm6,Nat.add_mul];omega
theorem zbN {B:Nd->List Int} (hB:∀ t:Nd,t.kind=0->B t=[]) (a b:Nat):∀ (ks:List Nd) (X Y:List Int) (i n:Nat),i=X.length->n=X.length+ks.length*(a+b)+Y.length->(∀ k∈ks,k.kids.length<=b)->xg B (ZE a (a+b) i ks) (X++(els a b ks++Y))=X++(xI B a b i n ks++(Y++ks.flatMap fun k=>k.kids.flatMap B))
 |[],X,Y,i,n,hi,hn,_=>by simp[xg,ZE,xI,els]
 |k::r,X,Y,i,n,hi,hn,hk=>by
  have hb:=hk k zmW
  rw[zm6,Nat.add_mul,Nat.one_mul] at hn
  rw[ZE,qo,xI,List.flatMap_cons,jB]
  have e1:X++(zS a k.data++(List.replicate b 0++els a b r)++Y)=(X++zS a k.data)++(List.replicate k.kids.length 0++(List.replicate (b-k.kids.length) 0++(els a b r++Y))):=by
   have:List.replicate b (0:Int)=List.replicate k.kids.length 0++List.replicate (b-k.kids.length) 0:=by rw[List.replicate_append_replicate];congr 1;omega
   rw[this]
   simp only[List.append_assoc]
  rw[e1,Q0 hB k.kids (X++zS a k.data) (List.replicate (b-k.kids.length) 0++(els a b r++Y)) (i+a) n (by simp[hi]) (by simp[Qf];omega)]
  have e2:X++zS a k.data++(xe B (i+a) n k.kids++(List.replicate (b-k.kids.length) 0++(els a b r++Y)++k.kids.flatMap B))=(X++(zS a k.data++(xe B (i+a) n k.kids++List.replicate (b-k.kids.length) 0)))++(els a b r++(Y++k.kids.flatMap B)):=by
   simp only[List.append_assoc]
  have r2:=zbN hB a b r (X++(zS a k.data++(xe B (i+a) n k.kids++List.replicate (b-k.kids.length) 0))) (Y++k.kids.flatMap B) (i+(a+b)) (n+ZT B k.kids) (by simp[hi];omega) (by unfold ZT;simp;omega) (fun x hx=>hk x (zmV _ hx))
  rw[e2,r2]
  simp only[List.append_assoc]
theorem QP (B:Nd->List Int) (s:Nat):∀ (l:List Nd) (i n:Nat),xe B (i+s) (n+s) l=xe B i n l
 |[],i,n=>rfl
 |t::r,i,n=>by
  rw[xe,xe]
  have e:=QP B s r (i+1) (n+(B t).length)
  rw[show i+1+s=i+s+1 by omega,show n+(B t).length+s=n+s+(B t).length by omega] at e
  rw[e]
  congr 2
  omega
theorem gO (B:Nd->List Int) (a b s:Nat):∀ (l:List Nd) (i n:Nat),xI B a b (i+s) (n+s) l=xI B a b i n l
 |[],i,n=>rfl
 |k::r,i,n=>by
  rw[xI,xI]
  have e:=gO B a b s r (i+(a+b)) (n+ZT B k.kids)
  rw[show i+(a+b)+s=i+s+(a+b) by omega,show n+ZT B k.kids+s=n+s+ZT B k.kids by omega] at e
  rw[e]
  have e2:=QP B s k.kids (i+a) n
  rw[show i+a+s=i+s+a by omega] at e2
  rw[e2]
def vT (x:Nd):List Int :=
 if x.kind=1 then zS (x.data.length/8) x.data++List.replicate x.kids.length 0
 else if x.elem=7 then yk x.n (zn x.kids) (zq x.kids)::els (zn x.kids) (zq x.kids) x.kids
 else if x.elem=6 then List.replicate x.kids.length 0
 else zS (zs x.elem x.n).toNat x.data
def XF (x:Nd) (s:Nat):List (Nat×Nd) :=
 if x.kind=1 then xa (s+x.data.length/8) x.kids
 else if x.elem=7 then ZE (zn x.kids) (zn x.kids+zq x.kids) (s+1) x.kids
 else xa s x.kids
theorem zk1 {B:Nd->List Int} {x:Nd} (hv:VN x) (h0:x.kind≠0):(vT x).length=(xQ B x).length:=by
 obtain ⟨hs,_⟩:=wT hv
 unfold vT xQ
 by_cases h1:x.kind=1
 ·rw[if_pos h1,if_pos h1];simp
 ·rw[if_neg h1,if_neg h1]
  by_cases h7:x.elem=7
  ·rw[if_pos h7,if_pos h7,zm6,zm6,Qf,VG _ _ _ _ _ _ (fun k hk=>XS hk)]
  ·rw[if_neg h7,if_neg h7]
   by_cases h6:x.elem=6
   ·rw[if_pos h6,if_pos h6];simp
   ·rw[if_neg h6,if_neg h6]
theorem zkI {B:Nd->List Int} (hB:∀ t:Nd,t.kind=0->B t=[]) {x:Nd} (hv:VN x) (h0:x.kind≠0) (W:List Int):xg B (XF x W.length) (W++vT x)=W++(xQ B x++(yg x).flatMap B):=by
 obtain ⟨hs,_⟩:=wT hv
 unfold XF vT xQ
 by_cases h1:x.kind=1
 ·rw[if_pos h1,if_pos h1,if_pos h1]
  have et:yg x=x.kids:=if_neg (fun h=>by rw[h1] at h;exact absurd h.1 (by decide))
  have r:=Q0 hB x.kids (W++zS (x.data.length/8) x.data) [] (W.length+x.data.length/8) (W.length+(x.data.length/8+x.kids.length)) (by simp) (by simp;omega)
  rw[List.append_nil] at r
  rw[←List.append_assoc,r,et,zm7]
  have e:=QP B W.length x.kids (x.data.length/8) (x.data.length/8+x.kids.length)
  rw[Nat.add_comm _ W.length,Nat.add_comm _ W.length] at e
  rw[e]
  simp only[List.append_assoc]
 ·rw[if_neg h1,if_neg h1,if_neg h1]
  by_cases h7:x.elem=7
  ·rw[if_pos h7,if_pos h7,if_pos h7]
   have hk2:x.kind=2:=by rcases hs with h|h|h<;>omega
   have et:yg x=x.kids.flatMap Nd.kids:=if_pos ⟨hk2,h7⟩
   have r:=zbN hB (zn x.kids) (zq x.kids) x.kids (W++[yk x.n (zn x.kids) (zq x.kids)]) [] (W.length+1) (W.length+(1+x.kids.length*ZN x)) (by simp) (by unfold ZN;simp;omega) (fun k hk=>XS hk)
   rw[List.append_nil] at r
   rw[et,JF]
   have e1:W++yk x.n (zn x.kids) (zq x.kids)::els (zn x.kids) (zq x.kids) x.kids=W++[yk x.n (zn x.kids) (zq x.kids)]++els (zn x.kids) (zq x.kids) x.kids:=by simp
   rw[e1,r,zm7]
   have e:=gO B (zn x.kids) (zq x.kids) W.length x.kids 1 (1+x.kids.length*ZN x)
   rw[Nat.add_comm _ W.length,Nat.add_comm _ W.length] at e
   rw[e]
   simp
  ·rw[if_neg h7,if_neg h7,if_neg h7]
   have et:yg x=x.kids:=if_neg (fun h=>h7 h.2)
   rw[et]
   by_cases h6:x.elem=6
   ·rw[if_pos h6,if_pos h6]
    have r:=Q0 hB x.kids W [] W.length (W.length+x.kids.length) rfl (by simp)
    rw[List.append_nil] at r
    rw[r,zm7]
    have e:=QP B W.length x.kids 0 x.kids.length
    rw[Nat.zero_add,Nat.add_comm] at e
    rw[e]
   ·rw[if_neg h6,if_neg h6]
    have hk:x.kids=[]:=by
     rcases hs with h|h|h
     ·omega
     ·omega
     ·exact List.length_eq_zero_iff.1 (h.2.2.2.2 (by omega)).1
    rw[hk]
    simp[xa,xg]
theorem g9 (D:Nat) (t:Nd) (h:t.kind=0):body D t=[]:=by
 cases D with
 |zero=>rfl
 |succ D=>rw[body,if_pos h]
theorem zjL {D:Nat} {x:Nd} (hv:VN x) (h0:x.kind≠0) {a:Nat} {W:List Int} (ha:a<W.length):vc (body (D+1)) a x W=xg (body D) (XF x W.length) ((W++vT x).set a (yW x ((W.length:Int)-a-1))):=by
 unfold vc
 rw[if_neg h0,List.set_append_left _ _ ha]
 have r:=zkI (g9 D) hv h0 (W.set a (yW x ((W.length:Int)-a-1)))
 rw[List.length_set] at r
 rw[r,body,if_neg h0]
def uJ (off:Int) (d q:Nat):PV:=.agg [I 0,I off,I d,I q,I 0,I 0,Bo false,I 0,yJ 0,yJ 0]
def Yn (off e c:Int):PV:=.agg [I 1,I off,I 0,I 0,I e,I c,Bo false,I 0,yJ 0,yJ 0]
theorem zen {W d:List Int} {ks:List Nd} (hb:∀ x∈d,zj x) (h8:d.length%8=0) (hd:d.length<=524280) (hk:ks.length<=65535) (hW:W.length<=268435456) (e n:Int):ev 269 [.ptr 0 0,.pv (.agg [I 1,I e,I n,.sl 1 (bs d),.sl 5 (zD ks)])] (wh W) =
  some (.ret (.pv (.tup [uJ 0 (d.length/8) ks.length,.sl 1 [I ((W.length+d.length/8:Nat):Int)]])),wh (W++(zS (d.length/8) d++List.replicate ks.length 0))):=by
 have h1:=KU (W:=W) hb (n:=d.length/8) (by omega) (by omega) (by omega)
 have h2:=KV (W:=W++zS (d.length/8) d) (n:=ks.length) (by omega) (by simp;omega)
 unfold wh at h1 h2 ⊢
 rw[zgh,zK,wQ,Int.tdiv_eq_ediv_of_nonneg (by omega),show (d.length:Int)/8=((d.length/8:Nat):Int) by omega,ze (by omega),h1]
 dsimp only[zl,zm2,xk,zt,zm4,zc,wM]
 rw[yu]
 dsimp only[zm4]
 rw[h2]
 dsimp only[zl,zm2,xk,zt,zm4,yi,zc,wM]
 rw[zm5,xp,List.append_assoc]
 rfl
theorem zem {W:List Int} {ks:List Nd} {n:Nat} (hn:n<=268435456) (hW:W.length<=268435456) (d:List PV):ev 268 [.ptr 0 0,.pv (.agg [I 2,I 6,I (n:Int),.sl 1 d,.sl 5 (zD ks)])] (wh W) =
  some (.ret (.pv (.tup [Yn 0 6 n,.sl 1 [I (W.length:Int)]])),wh (W++List.replicate n 0)):=by
 have h2:=KV (W:=W) (n:=n) (by omega) (by omega)
 unfold wh at h2 ⊢
 rw[rK,show ((6:Int)==6)=true from rfl,h2]
 rfl
theorem zel {W d:List Int} {ks:List Nd} {e n:Int} (he:0<=e/\e<6) (hn:0<=n/\n<=536870911) (hb:∀ x∈d,zj x) (hl:(d.length:Int)=z4 e n) (hw:zs e n<=268435456) (hW:W.length<=268435456) (hO:ev 262 [.pv (.agg [I 2,I e,I n,.sl 1 (bs d),.sl 5 (zD ks)])] []=ok (I (zs e n))) :
  ev 268 [.ptr 0 0,.pv (.agg [I 2,I e,I n,.sl 1 (bs d),.sl 5 (zD ks)])] (wh W) =
  some (.ret (.pv (.tup [Yn 0 e n,.sl 1 []])),wh (W++zS (zs e n).toNat d)):=by
 have hr:=Yj (e:=e) hn
 have hbw:=rt he hn
 have h1:=KU (W:=W) hb (n:=(zs e n).toNat) (by omega) (by omega) (by omega)
 rw[show (((zs e n).toNat:Nat):Int)=zs e n by omega] at h1
 unfold wh at h1 ⊢
 rw[rK,beq_eq_false_iff_ne.2 (show e≠6 by omega),hO]
 dsimp only[zl,zt,zm4,zu]
 rw[h1]
 rfl
theorem zgO {W0:List Int} {ks:List Nd} {a b:Nat} (ha:a<=65535) (hb:b<=65535) (hk:ks.length<=536870911) (hs:∀ k∈ks,(∀ x∈k.data,zj x)/\k.data.length<=8*a) (hl:W0.length+ks.length*(a+b)<=268435456) (i7 i8 i9:Int) (xs10 xs11:List PV) (i12 i13 i14 i15 i16 i17:Int) (b18:Bool) (i19 i20 i21:Int):∀ (c i:Nat),i+c=ks.length->
  VP (I a) (I b) (((List.range i).map fun j=>I ((W0.length+j*(a+b)+a:Nat):Int))) (zD ks) ks.length i (ws (W0++els a b (ks.take i))) i7 i8 i9 xs10 xs11 i12 i13 i14 i15 i16 i17 b18 i19 i20 i21 =
   some (.ret (.pv (.tup [Yn 0 i8 (IntKind.wrap .i64 (i9*((a+b:Nat):Int))),.sl 1 ((List.range ks.length).map fun j=>I ((W0.length+j*(a+b)+a:Nat):Int))])),wh (W0++els a b ks)):=by
 intro c
 induction c with
 |zero=>
  intro i hi
  rw[rJ,decide_eq_false (by omega),List.take_of_length_le (by omega),show i=ks.length by omega]
  dsimp only[z7,zm4,zu]
  rw[ze (x:=(a:Int)+b),show (a:Int)+b=((a+b:Nat):Int) by push_cast;rfl]
  rfl
 |succ c ih=>
  intro i hi
  have hil:i<ks.length:=by omega
  obtain ⟨s1,s2⟩:=hs _ (List.getElem_mem hil)
  have hmul:i*(a+b)+(a+b)<=ks.length*(a+b):=by
   have:=Nat.mul_le_mul_right (a+b) (show i+1<=ks.length by omega)
   rw[Nat.add_mul,Nat.one_mul] at this
   exact this
  have hel:(els a b (ks.take i)).length=i*(a+b):=by rw[Qf,zm0,Nat.min_eq_left (by omega)]
  have h1:=KU (W:=W0++els a b (ks.take i)) s1 (n:=a) (by omega) s2 (by rw[zm5,hel];omega)
  have h2:=KV (W:=W0++els a b (ks.take i)++zS a ks[i].data) (n:=b) (by omega) (by rw[zm5,zm5,hel,xp];omega)
  unfold wh at h1 h2
  rw[rJ,dT ((i:Int)<(ks.length:Int)),dT (0<=(i:Int)),decide_eq_true (show (i:Int)<((zD ks).length:Int) by simp;omega)]
  dsimp only[zo,zc,z7,zm4]
  rw[zmX,vR hil]
  dsimp only[zm4]
  rw[ZA,Z4,show (ks[i].c.drop 0).take 5=ks[i].c from rfl]
  dsimp only[Nd.c,zm2,zm3,zm4,wg,zo,yF,zc]
  rw[h1]
  dsimp only[zl,zm2,xk,zt,zm4,zc,wM]
  rw[yu]
  dsimp only[zm4]
  rw[h2]
  dsimp only[zl,zm2,xk,zt,zm4,yi,zc,wM]
  rw[yu]
  dsimp only[zm4]
  rw[yL (by simp;omega) (by simp;omega),ze (x:=(i:Int)+1)]
  have e1:(List.range i).map (fun j=>I ((W0.length+j*(a+b)+a:Nat):Int))++[I ((W0++els a b (ks.take i)++zS a ks[i].data).length:Int)]=(List.range (i+1)).map fun j=>I ((W0.length+j*(a+b)+a:Nat):Int):=by
   rw[List.range_succ,List.map_append,List.map_singleton,zm5,zm5,hel,xp]
  have e2:W0++els a b (ks.take i)++zS a ks[i].data++List.replicate b 0=W0++els a b (ks.take (i+1)):=by
   rw[ZL hil]
   unfold els
   rw[List.flatMap_append,List.flatMap_singleton]
   simp only[List.append_assoc]
  have:=ih (i+1) (by omega)
  rw[←e1,←e2] at this
  exact this
theorem zek {W:List Int} {ks:List Nd} {n:Int} (hn:0<=n/\n<=536870911) (hk:(ks.length:Int)=n) (hs:∀ k∈ks,(∀ x∈k.data,zj x)/\k.data.length%8=0/\k.data.length<=524280/\k.kids.length<=65535) (hl:W.length+1+ks.length*(zn ks+zq ks)<=268435456) :
  ev 270 [.ptr 0 0,.pv (.agg [I 2,I 7,I n,.sl 1 [],.sl 5 (zD ks)])] (wh W) =
  some (.ret (.pv (.tup [Yn 0 7 (n*((zn ks+zq ks:Nat):Int)),.sl 1 ((List.range ks.length).map fun j=>I ((W.length+1+j*(zn ks+zq ks)+zn ks:Nat):Int))])),wh (W++(yk n (zn ks) (zq ks)::els (zn ks) (zq ks) ks))):=by
 have hud:zn ks<=65535:=XQ fun x hx=>by have:=(hs x hx).2.2.1;omega
 have huq:zq ks<=65535:=XR fun x hx=>(hs x hx).2.2.2
 have hU:=uW (x:=.mk 2 7 n [] ks) (by show ks.length<=_;omega) (fun y hy=>by have:=(hs y hy).2.2.1;omega)
 have hE:=KG (off:=n) (d:=zn ks) (q:=zq ks) (by omega) hud huq
 have hu:ev 219 [.pv (.agg [I 2,I 7,I n,.sl 1 [],.sl 5 (zD ks)])] []=ok (.tup [I (zn ks:Nat),I (zq ks:Nat)]):=hU
 have hL:=zgO (W0:=W++[yk n (zn ks) (zq ks)]) (ks:=ks) hud huq (by omega) (fun k hk=>⟨(hs k hk).1,by have:=zcM hk;have:=(hs k hk).2.1;omega⟩) (by rw[zm5,List.length_singleton];omega) 2 7 n [] (zD ks) 0 0 0 0 0 0 false 0 0 0 ks.length 0 (by omega)
 unfold wh at hL ⊢
 rw[zgg,hu]
 dsimp only[zl,zt,zm4,z6,zm3,zm2,yF,zo,zc]
 rw[hE]
 dsimp only[zl,zt,zm4,z6,zm3,zm2,yi]
 rw[yj,yL (by omega) (by omega),wQ,qQ]
 have hL':=hL
 rw[List.take_zero,show els (zn ks) (zq ks) []=[] from rfl,List.append_nil] at hL'
 refine Eq.trans (show _=_ from hL') ?_
 have e1:W++[yk n (zn ks) (zq ks)]++els (zn ks) (zq ks) ks=W++(yk n (zn ks) (zq ks)::els (zn ks) (zq ks) ks):=by simp
 have hnu:n*((zn ks+zq ks:Nat):Int)=((ks.length*(zn ks+zq ks):Nat):Int):=by rw[←hk];push_cast;rfl
 rw[e1,zm5,List.length_singleton,ze (by rw[hnu];omega)]
end Go.Proofs.YtjbjeeoifhegfaaGreatDoor.E
