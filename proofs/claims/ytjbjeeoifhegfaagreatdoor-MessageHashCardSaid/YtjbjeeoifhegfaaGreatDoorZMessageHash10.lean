/- This text is one of those that prove the law MessageHash of the given program, as its statement says it: true on every input that the statement covers. Its conditions are the statement's own. -/
import Derived.Test.YtjbjeeoifhegfaaGreatDoorZMessageHash1
import Derived.Test.YtjbjeeoifhegfaaGreatDoorZMessageHash2
import Derived.Test.YtjbjeeoifhegfaaGreatDoorZMessageHash3
import Derived.Test.YtjbjeeoifhegfaaGreatDoorZMessageHash4
import Derived.Test.YtjbjeeoifhegfaaGreatDoorZMessageHash5
import Derived.Test.YtjbjeeoifhegfaaGreatDoorZMessageHash6
import Derived.Test.YtjbjeeoifhegfaaGreatDoorZMessageHash7
import Derived.Test.YtjbjeeoifhegfaaGreatDoorZMessageHash8
import Derived.Test.YtjbjeeoifhegfaaGreatDoorZMessageHash9
set_option linter.unusedVariables false
set_option linter.unusedSimpArgs false
open List renaming getElem?_cons_zero->zmQ
open List renaming getElem?_cons_succ->zmR
open Option renaming bind_some->zmS
open List renaming length_append->zmT
open List renaming length_cons->zmU
open List renaming nil_append->zmV
namespace Go.Proofs.YtjbjeeoifhegfaaGreatDoor.E
def inB (l:List (List Int)) (s a n:Int):Prop:=0<=s/\s<(l.length:Int)/\0<=a/\0<=n/\a+n<=((yw l s).length:Int)
instance (l:List (List Int)) (s a n:Int):Decidable (inB l s a n):=by unfold inB;infer_instance
theorem Wb {l:List (List Int)} (h:zJ l) (s a n:Int) :
  ev 286 [.pv (.sl 1 (zL l)),.pv (.v (.int .i64 s)),.pv (.v (.int .i64 a)),.pv (.v (.int .i64 n))] []=some (.ret (.pv (.v (.bool (decide (inB l s a n))))),[]):=by
 have hw:=(QO h s).1
 rw[ze7]
 simp only[yz,W4]
 by_cases h1:0<=s/\s<(l.length:Int)
 ·rw[if_pos h1.1,if_pos h1.2]
  simp only[XR h1.1 h1.2,h1.1,h1.2,decide_true,Bool.and_self,cond_true,zmS,Zd,zmQ,yC,yl]
  by_cases h2:0<=a/\0<=n/\a<=((yw l s).length:Int)
  ·rw[if_pos h2.1,if_pos h2.2.1,if_pos h2.2.2,zh (by omega)]
   rw[show decide (n<=((yw l s).length:Int)-a)=decide (inB l s a n) from decide_eq_decide.2 (by unfold inB;omega)]
  ·rw[show decide (inB l s a n)=false from decide_eq_false (by unfold inB;omega)]
   repeat' split
   all_goals first
    |rfl
    |(exfalso;omega)
 ·rw[show decide (inB l s a n)=false from decide_eq_false (by unfold inB;omega)]
  repeat' split
  all_goals first
   |rfl
   |(exfalso;omega)
theorem zdz {l:List (List Int)} (h:zJ l) (s a:Int) :
  ev 278 [.pv (.sl 1 (zL l)),.pv (.v (.int .i64 s)),.pv (.v (.int .i64 a))] [] =
   some (.ret (.pv (.tup (if inB l s a 1 then [.v (.int .u64 (rd (yw l s) a)),.v (.bool true)] else [.v (.int .u64 0),.v (.bool false)]))),[]):=by
 rw[ze9,Wb h]
 by_cases hb:inB l s a 1
 ·have hb':=hb
  obtain ⟨h1,h2,h3,h4,h5⟩:=hb'
  rw[if_pos hb]
  simp[-getElem?_pos,zmQ,zmR,yz,yx,yI,yH,hb,h1,h2,h3,XR h1 h2,zc5 h3 (show a<(yw l s).length by omega),show a<(yw l s).length by omega]
 ·rw[if_neg hb]
  simp[hb]
def cut (l:List (List Int)) (s a n:Int):List Int:=((yw l s).drop a.toNat).take n.toNat
theorem jb {l:List (List Int)} {s a n:Int} (h:inB l s a n):(cut l s a n).length=n.toNat:=by
 obtain ⟨h1,h2,h3,h4,h5⟩:=h
 simp[cut];omega
theorem KA {l:List (List Int)} (h:zJ l) (s a n:Int) (hn:n<=17592186044416) :
  ev 276 [.pv (.sl 1 (zL l)),.pv (.v (.int .i64 s)),.pv (.v (.int .i64 a)),.pv (.v (.int .i64 n))] [] =
   some (.ret (.pv (.tup (if inB l s a n then [.sl 1 (ws (cut l s a n)),.v (.bool true)] else [.sl 1 [],.v (.bool false)]))),[]):=by
 rw[ze8,Wb h]
 by_cases hb:inB l s a n
 ·have hb':=hb
  obtain ⟨h1,h2,h3,h4,h5⟩:=hb'
  rw[if_pos hb]
  have hr:yk n.toNat 8=true:=by simp[yk];omega
  have e:List.take n.toNat (List.drop a.toNat (ws (yw l s)))=ws (cut l s a n):=by simp[ws,cut,List.map_take,List.map_drop]
  have hle:a.toNat<=(yw l s).length:=by omega
  have hz:n.toNat-((yw l s).length-a.toNat)=0:=by omega
  simp[-getElem?_pos,zmQ,zmR,yz,yx,yI,yH,hb,h1,h2,h3,h4,XR h1 h2,hr,show a<=(yw l s).length by omega,show n<=140737488355328 by omega,List.take_of_length_le,e,hz]
 ·rw[if_neg hb]
  simp[hb]
theorem vz {a:Nat} (h:a<2^64):(BitVec.ofInt 64 (a:Int)).toNat=a:=by
 simp;omega
theorem wB {n:Nat} (h:n<2^64):IntKind.wrap .u64 (n:Int)=n:=wM ⟨Int.natCast_nonneg _,by omega⟩
theorem ze5 {a:Nat} (h:a<2^64) {m:Nat} (hm:m<=64):IntKind.wrap .u64 (((BitVec.ofInt 64 (a:Int) &&& BitVec.ofInt 64 ((2^m-1:Nat):Int)).toNat:Nat):Int)=((a%2^m:Nat):Int):=by
 have hp:2^m<=2^64:=Nat.pow_le_pow_right (by decide) hm
 have hq:0<2^m:=Nat.pow_pos (by decide)
 rw[BitVec.toNat_and,vz h,vz (show 2^m-1<2^64 by omega),Nat.and_two_pow_sub_one_eq_mod]
 have:=Nat.mod_lt a hq
 exact wB (by omega)
theorem uW (m:Nat) (h1:1<=m) (h2:m<=64):ev 285 [.pv (I m)] []=ok (U ((2^m-1:Nat):Int)):=by
 rw[zmr]
 have e1:IntKind.wrap .i64 (64-(m:Int))=((64-m:Nat):Int):=by rw[zh (by omega)];omega
 rw[e1,wB (by omega)]
 have hk:2^64=2^m*2^(64-m):=by rw[←Nat.pow_add];congr 1;omega
 have hp:0<2^(64-m):=Nat.pow_pos (by decide)
 have hd:(18446744073709551615:Nat)/2^(64-m)=2^m-1:=by
  rw[show (18446744073709551615:Nat)=2^64-1 from rfl,hk,Nat.div_eq_iff hp]
  have hq:0<2^m:=Nat.pow_pos (by decide)
  constructor
  ·rw[Nat.sub_mul];omega
  ·have:(2^m-1)*2^(64-m)=2^m*2^(64-m)-2^(64-m):=by rw[Nat.sub_mul,Nat.one_mul]
   have h3:2^(64-m)<=2^m*2^(64-m):=Nat.le_mul_of_pos_left _ hq
   omega
 have hf:Int.fdiv 18446744073709551615 (2^(min ((64-m:Nat):Int).toNat 64))=((2^m-1:Nat):Int):=by
  rw[Int.toNat_natCast,Nat.min_eq_left (by omega),Int.fdiv_eq_ediv_of_nonneg _ (Int.le_of_lt (Int.pow_pos (by decide))),←hd]
  simp only[Int.natCast_ediv,Int.natCast_pow]
  rfl
 rw[hf]
 simp[yS]
theorem zk3 (a i:Nat) (hi:i<=64):Int.fdiv (a:Int) (2^(min (i:Int).toNat 64))=((a/2^i:Nat):Int):=by
 rw[Int.toNat_natCast,Nat.min_eq_left hi,Int.fdiv_eq_ediv_of_nonneg _ (Int.le_of_lt (Int.pow_pos (by decide)))]
 push_cast
 rfl
theorem zdn (a:Nat) (h:a<2^64) (i m:Nat) (h1:1<=m) (h2:i+m<=64):ev 245 [.pv (U a),.pv (I i),.pv (I m)] []=ok (U ((a/2^i%2^m:Nat):Int)):=by
 rw[zmm,wB (by omega),uW m h1 (by omega),zk3 a i (by omega)]
 have:=ze5 (a:=a/2^i) (Nat.lt_of_le_of_lt (Nat.div_le_self _ _) h) (m:=m) (by omega)
 simp only[ze,zg,zmS,zba,this]
 simp[yS]
theorem Zv {a:Int} (h:zH a) (i m:Nat) (h1:1<=m) (h2:i+m<=64):ev 245 [.pv (U a),.pv (I i),.pv (I m)] []=ok (U (a/2^i%2^m)):=by
 obtain ⟨n,rfl⟩:=Int.eq_ofNat_of_zero_le h.1
 rw[zdn n (by have:=h.2;omega) i m h1 h2]
 simp
def wV (v:Int):Int:=if 536870912<=v then v-1073741824 else v
theorem zdv {a:Int} (h:zH a):ev 342 [.pv (U a),.pv (I 2),.pv (I 30)] []=ok (I (wV (a/4%1073741824))):=by
 obtain ⟨h1,h2⟩:=h
 rw[zmp]
 rw[show IntKind.wrap .i64 ((IntKind.wrap .i64 (64-2))-30)=32 by decide,show IntKind.wrap .u64 32=32 by decide,show IntKind.wrap .u64 (IntKind.wrap .i64 (64-30))=34 by decide]
 simp only[yS]
 rw[show (min (32:Int).toNat 64)=32 by decide,show (min (34:Int).toNat 64)=34 by decide]
 have e:IntKind.wrap .i64 (IntKind.wrap .u64 (a*2^32))=wV (a/4%1073741824)*17179869184+(a%4)*4294967296:=by
  rw[Kk]
  have e2:a*2^32%18446744073709551616=(a/4%1073741824)*17179869184+(a%4)*4294967296:=by omega
  rw[e2]
  unfold wV
  simp only[IntKind.wrap,IntKind.bits,IntKind.signed]
  simp
  split<;>split<;>omega
 rw[e,Int.fdiv_eq_ediv_of_nonneg _ (by decide)]
 have e3:(wV (a/4%1073741824)*17179869184+(a%4)*4294967296)/2^34=wV (a/4%1073741824):=by omega
 rw[e3]
 rfl
abbrev PT:=Int×Int×Int×Int×Int×Int×Bool×Int×Int×Int
def yh (p:PT):List PV:=[I p.1,I p.2.1,I p.2.2.1,I p.2.2.2.1,I p.2.2.2.2.1,I p.2.2.2.2.2.1,Bo p.2.2.2.2.2.2.1,I p.2.2.2.2.2.2.2.1,yO p.2.2.2.2.2.2.2.2.1,yO p.2.2.2.2.2.2.2.2.2]
def zv (a:Int):PT :=
 if a%4=0 then (0,wV (a/4%1073741824),a/4294967296%65536,a/281474976710656%65536,0,0,false,0,0,0)
 else if a%4=1 then (1,wV (a/4%1073741824),0,0,a/4294967296%8,a/34359738368%536870912,false,0,0,0)
 else if a%4=2 then (2,0,0,0,0,0,a/4%2==1,a/8%536870912,a/4294967296%4294967296,0)
 else (3,0,0,0,0,0,false,0,a/4294967296%4294967296,a/4%1073741824)
theorem xH {a:Int} (h:zH a):ev 192 [.pv (U a)] []=ok (.agg (yh (zv a))):=by
 have k0:ev 245 [.pv (U a),.pv (I 0),.pv (I 2)] []=ok (U (a%4)):=by have:=Zv h 0 2 (by decide) (by decide);simpa using this
 have k1:ev 245 [.pv (U a),.pv (I 32),.pv (I 16)] []=ok (U (a/4294967296%65536)):=Zv h 32 16 (by decide) (by decide)
 have k2:ev 245 [.pv (U a),.pv (I 48),.pv (I 16)] []=ok (U (a/281474976710656%65536)):=Zv h 48 16 (by decide) (by decide)
 have k3:ev 245 [.pv (U a),.pv (I 32),.pv (I 3)] []=ok (U (a/4294967296%8)):=Zv h 32 3 (by decide) (by decide)
 have k4:ev 245 [.pv (U a),.pv (I 35),.pv (I 29)] []=ok (U (a/34359738368%536870912)):=Zv h 35 29 (by decide) (by decide)
 have k5:ev 245 [.pv (U a),.pv (I 2),.pv (I 1)] []=ok (U (a/4%2)):=Zv h 2 1 (by decide) (by decide)
 have k6:ev 245 [.pv (U a),.pv (I 3),.pv (I 29)] []=ok (U (a/8%536870912)):=Zv h 3 29 (by decide) (by decide)
 have k7:ev 245 [.pv (U a),.pv (I 32),.pv (I 32)] []=ok (U (a/4294967296%4294967296)):=Zv h 32 32 (by decide) (by decide)
 have k8:ev 245 [.pv (U a),.pv (I 2),.pv (I 30)] []=ok (U (a/4%1073741824)):=Zv h 2 30 (by decide) (by decide)
 rw[zjN,zjP,zjQ,zjR,zjS,k0,k1,k2,k3,k4,k5,k6,k7,k8,zdv h]
 simp only[ze,zg,zmS,xF,zba]
 rw[zh (x:=a/4294967296%65536) (by omega),zh (x:=a/281474976710656%65536) (by omega),zh (x:=a/4294967296%8) (by omega),zh (x:=a/34359738368%536870912) (by omega),zh (x:=a/8%536870912) (by omega),zh (x:=a%4) (by omega)]
 rw[zc6,zc6,show a/4294967296%4294967296%4294967296=a/4294967296%4294967296 by omega,show a/4%1073741824%4294967296=a/4%1073741824 by omega]
 unfold zv
 by_cases c0:a%4=0
 ·simp[-getElem?_pos,zmQ,zmR,yz,yx,yI,yH,c0,yh]
 by_cases c1:a%4=1
 ·simp[-getElem?_pos,zmQ,zmR,yz,yx,yI,yH,c1,yh]
 by_cases c2:a%4=2
 ·simp[-getElem?_pos,zmQ,zmR,yz,yx,yI,yH,c2,yh]
 ·have c3:a%4=3:=by omega
  simp[-getElem?_pos,zmQ,zmR,yz,yx,yI,yH,c3,yh]
theorem zjU (n:Nat) (hn:n<=63):∀ (d j:Nat),j+d=n->VP n ((2^j:Nat):Int) j=ok (U ((2^n:Nat):Int)):=by
 intro d
 induction d with
 |zero=>
  intro j hj
  obtain rfl:j=n:=by omega
  rw[rJ]
  simp
 |succ d ih=>
  intro j hj
  rw[rJ]
  have h2:2^(j+1)<=2^63:=Nat.pow_le_pow_right (by decide) (by omega)
  have e:((2^j:Nat):Int)*2=((2^(j+1):Nat):Int):=by rw[Nat.pow_succ];push_cast;rfl
  rw[e,wB (by omega),zh (by omega),show (j:Int)+1=((j+1:Nat):Int) by push_cast;rfl,ih (j+1) (by omega)]
  simp only[yz]
  rw[if_pos (by omega)]
theorem zds (n:Nat) (hn:n<=63):ev 142 [.pv (I n)] []=ok (U ((2^n:Nat):Int)):=by
 rw[zf7]
 exact zjU n hn n 0 (by omega)
def YY (l:List (List Int)) (s a:Int):Option (Out×zf):=ok (.tup (if inB l s a 1 then [U (rd (yw l s) a),Bo true] else [U 0,Bo false]))
theorem Wc {l:List (List Int)} (h:zJ l) (s a:Int):ev 278 [.pv (.sl 1 (zL l)),.pv (I s),.pv (I a)] []=YY l s a:=zdz h s a
def wd (l:List (List Int)) (s a:Int):Int:=rd (yw l s) a
theorem wL {l:List (List Int)} (h:zJ l) (s a:Int):zH (wd l s a):=zkk (QO h s) a
theorem YB {a:Int} (h:zH a):(zv a).1=a%4:=by
 obtain ⟨h1,h2⟩:=h
 unfold zv
 repeat' split
 all_goals (simp;omega)
theorem V1 {a:Int} (hr:zH a) (h:a%4=2):zv a=(2,0,0,0,0,0,a/4%2==1,a/8%536870912,a/4294967296,0):=by
 obtain ⟨h1,h2⟩:=hr
 unfold zv
 rw[if_neg (by omega),if_neg (by omega),if_pos h,Int.emod_eq_of_lt (a:=a/4294967296) (by omega) (by omega)]
def YR (l:List (List Int)) (a:Int):Int×Int×Int×Int :=
 if inB l (a/4294967296) (a/8%536870912) 1 then (if wd l (a/4294967296) (a/8%536870912)%4=2 then (0,0,0,3) else (wd l (a/4294967296) (a/8%536870912),a/4294967296,a/8%536870912+1,0)) else (0,0,0,2)
def Yz (l:List (List Int)) (a:Int):Int×Int×Int×Int :=
 if inB l (a/4294967296) (a/8%536870912) 2 then
  (if wd l (a/4294967296) (a/8%536870912)%4=2/\wd l (a/4294967296) (a/8%536870912)/4%2=0/\wd l (a/4294967296) (a/8%536870912+1)%4<=1/\(zv (wd l (a/4294967296) (a/8%536870912+1))).2.1=0
   then (wd l (a/4294967296) (a/8%536870912+1),wd l (a/4294967296) (a/8%536870912)/4294967296,wd l (a/4294967296) (a/8%536870912)/8%536870912,0) else (0,0,0,3)) else (0,0,0,2)
def zV (l:List (List Int)) (s a:Int):Int×Int×Int×Int :=
 if inB l s a 1 then (if wd l s a%4=2 then (if wd l s a/4%2=1 then Yz l (wd l s a) else YR l (wd l s a)) else (wd l s a,s,a+1,0)) else (0,0,0,2)
def WG (t:Int×Int×Int×Int):List PV:=[U t.1,I t.2.1,I t.2.2.1,I t.2.2.2]
def XJ (t:Int×Int×Int×Int):List PV:=[.agg [U t.1,I t.2.1,I t.2.2.1],I t.2.2.2]
theorem Vr {a:Int} (h:zH a):ev 279 [.pv (U a)] []=ok (Bo (a%4==2)):=by
 rw[zhw,xH h]
 simp[-getElem?_pos,zmQ,zmR,yz,yx,yI,yH,yh,YB h]
theorem uA {a:Int} (h:zH a) (hf:a%4=2):ev 297 [.pv (U a)] []=ok (.tup [I (a/4294967296),I (a/8%536870912)]):=by
 rw[zhx,xH h,V1 h hf]
 obtain ⟨h1,h2⟩:=h
 simp[-getElem?_pos,zmQ,zmR,yz,yx,yI,yH,yh,zh (x:=a/4294967296) (by omega)]
theorem zd8 {l:List (List Int)} (hl:zJ l) {a:Int} (h:zH a) (hf:a%4=2):ev 280 [.pv (.sl 1 (zL l)),.pv (U a)] []=ok (.tup (XJ (YR l a))):=by
 rw[zhz,uA h hf]
 have hw:=wL hl (a/4294967296) (a/8%536870912)
 have hx:=Vr hw
 unfold wd at hx
 unfold YR XJ
 by_cases hb:inB l (a/4294967296) (a/8%536870912) 1
 ·by_cases hc:wd l (a/4294967296) (a/8%536870912)%4=2
  ·unfold wd at hc
   simp[-getElem?_pos,zmQ,zmR,yz,yx,yI,yH,Wc hl,YY,hb,hx,hc,wd]
  ·unfold wd at hc
   simp[-getElem?_pos,zmQ,zmR,yz,yx,yI,yH,Wc hl,YY,hb,hx,hc,wd,zh (x:=a/8%536870912+1) (by omega)]
 ·simp[-getElem?_pos,zmQ,zmR,yz,yx,yI,yH,Wc hl,YY,hb]
theorem zlE (L:List Int) (n:Nat) (h:n+2<=L.length):(L.drop n).take 2=[L.getD n 0,L.getD (n+1) 0]:=by
 rw[List.drop_eq_getElem_cons (by omega),List.drop_eq_getElem_cons (i:=n+1) (by omega),List.getD_eq_getElem?_getD,List.getD_eq_getElem?_getD,List.getElem?_eq_getElem (by omega),List.getElem?_eq_getElem (by omega)]
 rfl
theorem zgM {l:List (List Int)} {s a:Int} (h:inB l s a 2):cut l s a 2=[wd l s a,wd l s (a+1)]:=by
 obtain ⟨h1,h2,h3,h4,h5⟩:=h
 unfold cut wd rd
 rw[show (2:Int).toNat=2 from rfl,zlE _ _ (by omega),show (a+1).toNat=a.toNat+1 by omega]
theorem zdM {l:List (List Int)} (hl:zJ l) {a:Int} (h:zH a) (hf:a%4=2):ev 281 [.pv (.sl 1 (zL l)),.pv (U a)] []=ok (.tup (XJ (Yz l a))):=by
 rw[zhy,uA h hf]
 unfold Yz XJ
 by_cases hb:inB l (a/4294967296) (a/8%536870912) 2
 case neg=>simp[-getElem?_pos,zmQ,zmR,yz,yx,yI,yH,KA hl,hb]
 have h1:=wL hl (a/4294967296) (a/8%536870912)
 have h2:=wL hl (a/4294967296) (a/8%536870912+1)
 simp only[ze,zg,zmS,z4,zmQ,zmR,KA hl _ _ 2 (by decide),hb,if_true,zgM hb]
 generalize wd l (a/4294967296) (a/8%536870912)=y at h1
 generalize wd l (a/4294967296) (a/8%536870912+1)=z at h2
 have k1:=YB h1
 have k2:=YB h2
 by_cases c1:y%4=2
 case neg=>simp[-getElem?_pos,zmQ,zmR,yz,yx,yI,yH,ws,xH h1,xH h2,yh,k1,c1]
 have k3:=V1 h1 c1
 by_cases c2:y/4%2=1
 case pos=>simp[-getElem?_pos,zmQ,zmR,yz,yx,yI,yH,ws,xH h1,xH h2,yh,k3,c1,c2]
 by_cases c3:z%4<=1
 case neg=>simp[-getElem?_pos,zmQ,zmR,yz,yx,yI,yH,ws,xH h1,xH h2,yh,k2,k3,c1,c2,c3,show 1<z%4 by omega]
 by_cases c4:(zv z).2.1=0
 case neg=>simp[-getElem?_pos,zmQ,zmR,yz,yx,yI,yH,ws,xH h1,xH h2,yh,k2,k3,c1,c2,c3,c4,show ¬1<z%4 by omega]
 obtain ⟨g1,g2⟩:=h1
 simp[-getElem?_pos,zmQ,zmR,yz,yx,yI,yH,ws,xH ⟨g1,g2⟩,xH h2,yh,k2,k3,c1,c2,c3,c4,show ¬1<z%4 by omega,show y/4%2=0 by omega,zh (x:=y/4294967296) (by omega)]
theorem Kv {l:List (List Int)} (hl:zJ l) (s a:Int):ev 240 [.pv (.sl 1 (zL l)),.pv (I s),.pv (I a)] []=ok (.tup (WG (zV l s a))):=by
 rw[zhv,Wc hl]
 unfold zV WG
 by_cases hb:inB l s a 1
 case neg=>simp[-getElem?_pos,zmQ,zmR,yz,yx,yI,yH,YY,hb]
 have h0:=wL hl s a
 have hlen:=(QO hl s).1
 have ha:a+1<=9223372036854775807/\0<=a:=by have:=hb.2.2;omega
 simp only[YY,hb,if_true,ze,zg,zmS,z4,zmQ,zmR,xf,show rd (yw l s) a=wd l s a from rfl]
 by_cases hf:wd l s a%4=2
 case neg=>simp[-getElem?_pos,zmQ,zmR,yz,yx,yI,yH,Vr h0,hf,zh (x:=a+1) (by omega),xk]
 generalize wd l s a=x at h0 hf
 by_cases h4:x/4%2=1
 ·simp only[hf,h4,if_true,Vr h0,xH h0,zdM hl h0 hf]
  unfold Yz
  repeat' split
  all_goals (simp[-getElem?_pos,zmQ,zmR,yz,yx,yI,yH,yh,V1 h0 hf,XJ,hf,h4,xk];try (split<;>rfl))
 ·simp only[hf,h4,if_true,if_false,Vr h0,xH h0,zd8 hl h0 hf]
  unfold YR
  repeat' split
  all_goals (simp[-getElem?_pos,zmQ,zmR,yz,yx,yI,yH,yh,V1 h0 hf,XJ,hf,h4,xk];try (split<;>rfl))
structure Ob where
 kind:Int
 seg:Int
 at_:Int
 data:Int
 ptrs:Int
 elem:Int
 n:Int
 cost:Int
 deriving DecidableEq
def Ob.c (o:Ob):List PV:=[I o.kind,I o.seg,I o.at_,I o.data,I o.ptrs,I o.elem,I o.n,I o.cost]
def wF:Ob:=⟨0,0,0,0,0,0,0,0⟩
def xL (t:Ob×Int):List PV:=[.agg t.1.c,I t.2]
def bitsOf (e:Int):Int:=if e=1 then 1 else if e=2 then 8 else if e=3 then 16 else if e=4 then 32 else if e=5 then 64 else if e=6 then 64 else 0
theorem zfj (e:Int):0<=bitsOf e/\bitsOf e<=64:=by
 unfold bitsOf
 repeat' split
 all_goals omega
def zs (e c:Int):Int:=if e=7 then c+1 else (bitsOf e*c+63)/64
theorem Xb {e c:Int} (hc:0<=c/\c<=536870911):0<=bitsOf e*c/\bitsOf e*c<=64*536870911:=by
 have hb:=zfj e
 exact ⟨Int.mul_nonneg hb.1 hc.1,Int.mul_le_mul hb.2 hc.2 hc.1 (by omega)⟩
theorem ZT {e c:Int} (hc:0<=c/\c<=536870911):0<=zs e c/\zs e c<=536870912:=by
 have h:=Xb (e:=e) hc
 unfold zs
 split<;>omega
theorem gN {e:Int} (he:0<=e/\e<=7):([I 0,I 1,I 8,I 16,I 32,I 64,I 64,I 0]:List PV)[e.toNat]? = some (I (bitsOf e)):=by
 obtain ⟨h1,h2⟩:=he
 have:e=0∨e=1∨e=2∨e=3∨e=4∨e=5∨e=6∨e=7:=by omega
 rcases this with rfl|rfl|rfl|rfl|rfl|rfl|rfl|rfl<;>rfl
theorem KB {e c:Int} (he:0<=e/\e<=7) (hc:0<=c/\c<=536870911):ev 221 [.pv (I e),.pv (I c)] []=ok (I (zs e c)):=by
 have h:=Xb (e:=e) hc
 rw[ziv]
 unfold zs
 by_cases h7:e=7
 ·simp[-getElem?_pos,zmQ,zmR,yz,yx,yI,yH,h7,zh (x:=c+1) (by omega)]
 ·have hb:=gN he
  simp only[I] at hb
  rw[show (0+e.toNat*1)=e.toNat by omega]
  simp only[hb,zaN]
  rw[if_neg h7]
  simp[-getElem?_pos,zmQ,zmR,yz,yx,yI,yH,h7,he.1,show e<8 by omega,yS,zh (x:=bitsOf e*c) (by omega),zh (x:=bitsOf e*c+64) (by omega),zh (x:=bitsOf e*c+64-1) (by omega)]
  rw[Int.tdiv_eq_ediv_of_nonneg (by omega),zh (by omega),show bitsOf e*c+64-1=bitsOf e*c+63 by omega]
def bad (e:Int):Ob×Int:=(wF,e)
def wG (l:List (List Int)) (s st d q:Int):Ob×Int:=if inB l s st (d+q) then (⟨1,s,st,d,q,0,0,d+q⟩,0) else bad 2
def wn (l:List (List Int)) (s st c:Int):Ob×Int :=
 if inB l s st (c+1) then
  (if (zv (wd l s st)).1=0/\0<=(zv (wd l s st)).2.1/\(zv (wd l s st)).2.1*((zv (wd l s st)).2.2.1+(zv (wd l s st)).2.2.2.1)<=c then (⟨2,s,st+1,(zv (wd l s st)).2.2.1,(zv (wd l s st)).2.2.2.1,7,(zv (wd l s st)).2.1,c+1+(if (zv (wd l s st)).2.2.1+(zv (wd l s st)).2.2.2.1=0 then (zv (wd l s st)).2.1 else 0)⟩,0) else bad 5) else bad 2
def xY (l:List (List Int)) (s st e c:Int):Ob×Int:=if e=7 then wn l s st c else if inB l s st (zs e c) then (⟨2,s,st,0,0,e,c,zs e c⟩,0) else bad 2
def wQ (l:List (List Int)) (s b:Int) (p:PT):Ob×Int :=
 if p.1=0 then wG l s (b+p.2.1) p.2.2.1 p.2.2.2.1 else if p.1=1 then xY l s (b+p.2.1) p.2.2.2.2.1 p.2.2.2.2.2.1 else if p.2.2.2.2.2.2.2.2.2=0 then bad 6 else bad 4
def yn (l:List (List Int)) (s a:Int):Ob×Int :=
 if (zV l s a).2.2.2=0 then (if (zV l s a).1=0 then bad 0 else wQ l (zV l s a).2.1 (zV l s a).2.2.1 (zv (zV l s a).1)) else bad (zV l s a).2.2.2
theorem vO {x:Int} (h:zH x):-536870912<=(zv x).2.1/\(zv x).2.1<=536870911/\0<=(zv x).2.2.1/\(zv x).2.2.1<=65535/\0<=(zv x).2.2.2.1/\(zv x).2.2.2.1<=65535/\0<=(zv x).2.2.2.2.1/\(zv x).2.2.2.2.1<=7/\0<=(zv x).2.2.2.2.2.1/\(zv x).2.2.2.2.2.1<=536870911/\0<=(zv x).1/\(zv x).1<=3:=by
 obtain ⟨h1,h2⟩:=h
 unfold zv wV
 repeat' split
 all_goals (simp only[];try split)
 all_goals (simp;try omega)
def Sm (l:List (List Int)):Prop:=∀ s,((yw l s).length:Int)<=1099511627776
theorem zhI {l:List (List Int)} (hl:zJ l) (hs:Sm l) (s a:Int) (h:(zV l s a).2.2.2=0):0<=(zV l s a).2.2.1/\(zV l s a).2.2.1<=1099511627777:=by
 obtain ⟨h0,h0'⟩:=wL hl s a
 have hs':=hs s
 unfold zV at h ⊢
 by_cases hb:inB l s a 1
 case neg=>rw[if_neg hb] at h;simp at h
 rw[if_pos hb] at h ⊢
 by_cases hf:wd l s a%4=2
 case neg=>
  rw[if_neg hf] at h ⊢
  unfold inB at hb
  simp only
  omega
 rw[if_pos hf] at h ⊢
 generalize wd l s a=x at *
 by_cases h4:x/4%2=1
 ·rw[if_pos h4] at h ⊢
  unfold Yz at h ⊢
  by_cases c1:inB l (x/4294967296) (x/8%536870912) 2
  case neg=>rw[if_neg c1] at h;simp at h
  rw[if_pos c1] at h ⊢
  split at h
  ·rename_i c2
   rw[if_pos c2]
   simp only
   omega
  ·simp at h
 ·rw[if_neg h4] at h ⊢
  unfold YR at h ⊢
  by_cases c1:inB l (x/4294967296) (x/8%536870912) 1
  case neg=>rw[if_neg c1] at h;simp at h
  rw[if_pos c1] at h ⊢
  split at h
  ·simp at h
  ·rename_i c2
   rw[if_neg c2]
   simp only
   omega
theorem Qi {l:List (List Int)} (hl:zJ l) (s a:Int):zH (zV l s a).1:=by
 have w0:zH 0:=⟨by decide,by decide⟩
 unfold zV
 split
 ·split
  ·split
   ·unfold Yz
    split
    ·split
     ·exact wL hl _ _
     ·exact w0
    ·exact w0
   ·unfold YR
    split
    ·split
     ·exact w0
     ·exact wL hl _ _
    ·exact w0
  ·exact wL hl _ _
 ·exact w0
theorem gk {l:List (List Int)} (hl:zJ l) (o:Ob) (st n:Int):ev 282 [.pv (.sl 1 (zL l)),.pv (.agg o.c),.pv (I st),.pv (I n)] []=ok (.tup (xL (if inB l o.seg st n then (o,0) else bad 2))):=by
 rw[Ob.c,zkv,Wb hl]
 split<;>simp[-getElem?_pos,zmQ,zmR,yz,yx,yI,yH, *,xL,Ob.c,bad,wF]
theorem zea {l:List (List Int)} (hl:zJ l) (p:PT) (s st:Int) (hp:0<=p.2.2.1/\p.2.2.1<=65535/\0<=p.2.2.2.1/\p.2.2.2.1<=65535):ev 241 [.pv (.sl 1 (zL l)),.pv (.agg (yh p)),.pv (I s),.pv (I st)] []=ok (.tup (xL (wG l s st p.2.2.1 p.2.2.2.1))):=by
 rw[yh,zku,zh (x:=p.2.2.1+p.2.2.2.1) (by omega)]
 have:=gk hl ⟨1,s,st,p.2.2.1,p.2.2.2.1,0,0,p.2.2.1+p.2.2.2.1⟩ st (p.2.2.1+p.2.2.2.1)
 simp only[Ob.c] at this
 rw[this]
 unfold wG
 split<;>simp[-getElem?_pos,zmQ,zmR,yz,yx,yI,yH,xL,Ob.c,bad,wF]
theorem zh6 {l:List (List Int)} {s st n:Int} (h:inB l s st n) (hn:1<=n):inB l s st 1:=by unfold inB at h ⊢;omega
theorem QX {o n:Int} (ho:0<=o/\o<=536870911) (hn:0<=n/\n<=131070):0<=o*n/\o*n<=536870911*131070:=⟨Int.mul_nonneg ho.1 hn.1,Int.mul_le_mul ho.2 hn.2 hn.1 (by omega)⟩
theorem zdI {l:List (List Int)} (hl:zJ l) (hs:Sm l) (p:PT) (s st:Int) (hc:0<=p.2.2.2.2.2.1/\p.2.2.2.2.2.1<=536870911):ev 283 [.pv (.sl 1 (zL l)),.pv (.agg (yh p)),.pv (I s),.pv (I st)] []=ok (.tup (xL (wn l s st p.2.2.2.2.2.1))):=by
 have hs':=hs s
 rw[yh,zkr]
 generalize p.2.2.2.2.2.1=c at hc
 unfold wn
 rw[zh (x:=c+1) (by omega),Wb hl]
 by_cases hb:inB l s st (c+1)
 case neg=>simp[-getElem?_pos,zmQ,zmR,yz,yx,yI,yH,hb,xL,bad,wF,Ob.c]
 have hst:0<=st/\st<=1099511627776:=by unfold inB at hb;omega
 have hw:ev 278 [.pv (.sl 1 (zL l)),.pv (I s),.pv (I st)] []=ok (.tup [U (wd l s st),Bo true]):=by
  rw[Wc hl,YY,if_pos (zh6 hb (by omega))]
  rfl
 have h0:=wL hl s st
 have hd:=vO h0
 rw[hw]
 simp only[hb,decide_true,Bool.not_true,cond_false,ze,zg,zmS,xf,z4,zmQ,zmR,xH h0,if_true]
 generalize zv (wd l s st)=q at hd
 obtain ⟨k,o,d,m,e,c',b,pd,sg,lo⟩:=q
 simp only at hd ⊢
 by_cases hk:k=0
 case neg=>simp[-getElem?_pos,zmQ,zmR,yz,yx,yI,yH,hk,yh,xL,bad,wF,Ob.c]
 by_cases ho:o<0
 case pos=>simp[-getElem?_pos,zmQ,zmR,yz,yx,yI,yH,hk,ho,yh,xL,bad,wF,Ob.c,show ¬0<=o by omega]
 have hm:=QX (o:=o) (n:=d+m) (by omega) (by omega)
 by_cases hg:o*(d+m)<=c
 case neg=>simp[-getElem?_pos,zmQ,zmR,yz,yx,yI,yH,hk,ho,yh,xL,bad,wF,Ob.c,hg,zh (x:=d+m) (by omega),zh (x:=o*(d+m)) (by omega),show c<o*(d+m) by omega]
 by_cases hz:d+m=0
 ·simp[-getElem?_pos,zmQ,zmR,yz,yx,yI,yH,hk,ho,yh,xL,bad,wF,Ob.c,hg,zh (x:=d+m) (by omega),zh (x:=o*(d+m)) (by omega),show ¬c<o*(d+m) by omega,show 0<=o by omega,hz,zh (x:=0) (by omega),show ¬c<0 by omega,hc.1,zh (x:=st+1) (by omega),zh (x:=c+1+o) (by omega)]
 ·simp[-getElem?_pos,zmQ,zmR,yz,yx,yI,yH,hk,ho,yh,xL,bad,wF,Ob.c,hg,zh (x:=d+m) (by omega),zh (x:=o*(d+m)) (by omega),show ¬c<o*(d+m) by omega,show 0<=o by omega,hz,zh (x:=st+1) (by omega)]
theorem zdR {l:List (List Int)} (hl:zJ l) (hs:Sm l) (p:PT) (s st:Int) (he:0<=p.2.2.2.2.1/\p.2.2.2.2.1<=7) (hc:0<=p.2.2.2.2.2.1/\p.2.2.2.2.2.1<=536870911):ev 242 [.pv (.sl 1 (zL l)),.pv (.agg (yh p)),.pv (I s),.pv (I st)] []=ok (.tup (xL (xY l s st p.2.2.2.2.1 p.2.2.2.2.2.1))):=by
 have hco:=zdI hl hs p s st hc
 rw[yh,zks,KB he hc]
 have hco':=hco
 rw[yh] at hco'
 unfold xY
 by_cases h7:p.2.2.2.2.1=7
 ·simp only[yx,if_pos h7]
  rw[hco']
  simp[-getElem?_pos,zmQ,zmR,yz,yx,yI,yH,xL,Ob.c]
 ·have:=gk hl ⟨2,s,st,0,0,p.2.2.2.2.1,p.2.2.2.2.2.1,zs p.2.2.2.2.1 p.2.2.2.2.2.1⟩ st (zs p.2.2.2.2.1 p.2.2.2.2.2.1)
  simp only[Ob.c] at this
  simp only[yx,if_neg h7]
  simp only[ze,zg,zmS,yM,Bool.and_self,cond_true,this]
  split<;>simp[-getElem?_pos,zmQ,zmR,yz,yx,yI,yH,xL,Ob.c,bad,wF]
theorem zdW {l:List (List Int)} (p:PT) (s st:Int) (h3:p.1=3):ev 243 [.pv (.sl 1 (zL l)),.pv (.agg (yh p)),.pv (I s),.pv (I st)] []=ok (.tup (xL (if p.2.2.2.2.2.2.2.2.2=0 then bad 6 else bad 4))):=by
 rw[yh,zkt,zjO]
 by_cases h:p.2.2.2.2.2.2.2.2.2=0
 ·simp[-getElem?_pos,zmQ,zmR,yz,yx,yI,yH,h3,h,xL,bad,wF,Ob.c]
 ·simp[-getElem?_pos,zmQ,zmR,yz,yx,yI,yH,h3,h,xL,bad,wF,Ob.c]
theorem zhJ {l:List (List Int)} (hl:zJ l) (s a:Int) (h:(zV l s a).2.2.2=0):(zV l s a).1%4≠2:=by
 unfold zV at h ⊢
 split at h
 case isFalse=>simp at h
 rename_i hb
 rw[if_pos hb]
 split at h
 case isFalse=>rename_i hf;rw[if_neg hf];exact hf
 rename_i hf
 rw[if_pos hf]
 split at h
 ·rename_i h4
  rw[if_pos h4]
  unfold Yz at h ⊢
  split at h
  case isFalse=>simp at h
  rename_i c1
  rw[if_pos c1]
  split at h
  case isFalse=>simp at h
  rename_i c2
  rw[if_pos c2]
  simp only
  omega
 ·rename_i h4
  rw[if_neg h4]
  unfold YR at h ⊢
  split at h
  case isFalse=>simp at h
  rename_i c1
  rw[if_pos c1]
  split at h
  case isTrue=>simp at h
  rename_i c2
  rw[if_neg c2]
  exact c2
theorem Ky {l:List (List Int)} (hl:zJ l) (hs:Sm l) (s a:Int):ev 184 [.pv (.sl 1 (zL l)),.pv (I s),.pv (I a)] []=ok (.tup (xL (yn l s a))):=by
 rw[zkp,Kv hl]
 unfold yn
 have hb:=zhI hl hs s a
 have hw:=Qi hl s a
 have hk:=zhJ hl s a
 generalize zV l s a=t at hb hw hk
 obtain ⟨w,s',b,e⟩:=t
 dsimp only at hb hw hk
 dsimp only[WG,ze,zg,zmS,z4,zmR,zmQ,z6]
 by_cases he:e=0
 case neg=>
  rw[if_neg he,bne_iff_ne.2 he]
  rfl
 subst he
 rw[if_pos rfl,show ((0:Int) != 0)=false from rfl]
 dsimp only[zu]
 rw[XK]
 dsimp only[ze,zg,zmS,xf]
 by_cases hz:w=0
 case pos=>
  rw[if_pos hz,beq_iff_eq.2 hz]
  rfl
 have hd:=vO hw
 have hk':=hk rfl
 have hb':=hb rfl
 rw[←YB hw] at hk'
 rw[if_neg hz,beq_eq_false_iff_ne.2 hz]
 dsimp only[zu]
 rw[xH hw]
 generalize zv w=p at hd hk'
 have h1:=zea hl p s' (b+p.2.1) (by omega)
 have h2:=zdR hl hs p s' (b+p.2.1) (by omega) (by omega)
 have h3:=zdW (l:=l) p s' (b+p.2.1)
 have hwp:=zh (x:=b+p.2.1) (by omega)
 unfold wQ
 rw[yh] at h1 h2 h3 ⊢
 dsimp only[ze,zg,zmS,xA,zmQ,zmR,yM,zr,z6,xF,zc]
 have h4:p.1=0∨p.1=1∨p.1=3:=by omega
 rcases h4 with h|h|h
 ·rw[h] at h1 ⊢
  rw[show (decide ((0:Int)<=0)&&decide ((0:Int)<4))=true from rfl,show ((0:Int)==0)=true from rfl]
  dsimp only[zc]
  rw[hwp,h1,if_pos rfl]
  rfl
 ·rw[h] at h2 ⊢
  rw[show (decide ((0:Int)<=1)&&decide ((1:Int)<4))=true from rfl,show ((0:Int)==1)=false from rfl,show ((1:Int)==1)=true from rfl]
  dsimp only[zc,zu]
  rw[hwp,h2,if_neg (by decide),if_pos rfl]
  rfl
 ·have h3':=h3 h
  rw[h] at h3' ⊢
  rw[show (decide ((0:Int)<=3)&&decide ((3:Int)<4))=true from rfl,show ((0:Int)==3)=false from rfl,show ((1:Int)==3)=false from rfl,show ((2:Int)==3)=false from rfl,show ((3:Int)==3)=true from rfl]
  dsimp only[zc,zu]
  rw[hwp,h3',if_neg (show ¬(3:Int)=0 by decide),if_neg (show ¬(3:Int)=1 by decide)]
  split<;>rfl
theorem yW {n b:Nat} (h:n*b<=140737488355328) (h1:n<=140737488355328):yk n b=true:=by simp[yk,h,h1]
def w8 (w:Int):List Int:=(List.range 8).map fun k=>w/256^k%256
def zA (l:List Int):List Int:=l.flatMap w8
theorem wA (w:Int):(w8 w).length=8:=by simp[w8]
theorem xc (l:List Int):(zA l).length=8*l.length:=by
 induction l with
 |nil=>rfl
 |cons w l ih=>simp only[zA,List.flatMap_cons,zmT,wA,zmU] at ih ⊢;omega
theorem wj (l:List Int):∀ b∈zA l,zm b:=by
 intro b hb
 obtain ⟨w,_,hw⟩:=List.mem_flatMap.1 hb
 obtain ⟨k,_,rfl⟩:=List.mem_map.1 hw
 exact ⟨by omega,by omega⟩
theorem zmb {w:Int} {k:Nat} (h:k<8):(w8 w).take (k+1)=(w8 w).take k++[w/256^k%256]:=by
 rw[List.take_succ_eq_append_getElem (by simp[wA,h])]
 simp[w8]
theorem Zx (a b:List Int):bs (a++b)=bs a++bs b:=by simp[bs]
theorem zjj (w:Int) (k:Nat) (hk:k<8):Int.fdiv w (2^(min ((8*k:Nat):Int).toNat 64))=w/256^k:=by
 rw[Int.toNat_natCast,Nat.min_eq_left (by omega),Int.fdiv_eq_ediv_of_nonneg _ (Int.le_of_lt (Int.pow_pos (by decide))),Int.pow_mul]
 rfl
theorem zmg {l:List Int} (w:Int) (n i:Int) (hi:0<=i/\i<=9000000000000000000) (acc:List Int) (ha:acc.length+8<=140737488355328):∀ (d k:Nat),k+d=8->Kh (bs (acc++(w8 w).take k)) (U w) (ws l) n i k=Vg (bs (acc++w8 w)) (ws l) n (i+1):=by
 intro d
 induction d with
 |zero=>
  intro k hk
  obtain rfl:k=8:=by omega
  rw[zcU,List.take_of_length_le (by simp[wA])]
  rw[show decide (((8:Nat):Int)<8)=false from rfl,zh (x:=i+1) (by omega)]
  rfl
 |succ d ih=>
  intro k hk
  rw[zcU,decide_eq_true (show (k:Int)<8 by omega)]
  dsimp only[wR,zmS,zc]
  have e:IntKind.wrap .u64 (IntKind.wrap .i64 (8*(k:Int)))=((8*k:Nat):Int):=by rw[zh (by omega),wM (by omega)];push_cast;rfl
  have hr:yk ((bs (acc++(w8 w).take k)).length+1) 1=true:=yW (by simp[wA];omega) (by simp[wA];omega)
  rw[e,zjj w k (by omega),Vi,hr,zh (x:=(k:Int)+1) (by omega)]
  have:=ih (k+1) (by omega)
  rw[zmb (by omega),←List.append_assoc,Zx] at this
  simp only[yS,Int.natCast_nonneg,decide_true,cond_true]
  exact this
theorem zmh (l:List Int) (hl:l.length<=17592186044416):∀ (d i:Nat),i+d=l.length->Vg (bs (zA (l.take i))) (ws l) l.length i=ok (.sl 1 (bs (zA l))):=by
 intro d
 induction d with
 |zero=>
  intro i hi
  obtain rfl:i=l.length:=by omega
  rw[zcT,decide_eq_false (by omega),List.take_length]
  rfl
 |succ d ih=>
  intro i hi
  have hil:i<l.length:=by omega
  rw[zcT,decide_eq_true (by omega)]
  have hg:(ws l)[(i:Int).toNat]? = some (U l[i]):=by rw[Int.toNat_natCast,Yq hil]
  rw[hg]
  have:=ih (i+1) (by omega)
  have h2:=zmg (l:=l) l[i] l.length i (by omega) (zA (l.take i)) (by rw[xc];simp;omega) 8 0 rfl
  rw[List.take_zero,List.append_nil] at h2
  have e:zA (l.take i)++w8 l[i]=zA (l.take (i+1)):=by rw[List.take_succ_eq_append_getElem hil];simp only[zA,List.flatMap_append,List.flatMap_cons,List.flatMap_nil,List.append_nil]
  rw[e] at h2
  simp only[yl,Int.natCast_nonneg,decide_true,Bool.true_and,decide_eq_true (show (i:Int)<l.length by omega),cond_true,zmS,ym,zmQ]
  exact h2.trans this
theorem ZV (l:List Int) (hl:l.length<=17592186044416):ev 117 [.pv (.sl 1 (ws l))] []=ok (.sl 1 (bs (zA l))):=by
 rw[zml,yl,zh (x:=8*(l.length:Int)) (by omega),yW (by omega) (by omega)]
 simp only[decide_eq_true (show (0:Int)<=8*(l.length:Int) by omega),decide_eq_true (show 8*(l.length:Int)<=140737488355328 by omega),Bool.and_self,cond_true]
 exact zmh l hl l.length 0 (by omega)
def z5 (e c:Int):Int:=(bitsOf e*c+7)/8
theorem g8 {e c:Int} (hc:0<=c/\c<=536870911):0<=z5 e c/\z5 e c<=4294967296:=by
 have h:=Xb (e:=e) hc
 unfold z5
 omega
theorem zdi {e c:Int} (he:0<=e/\e<=7) (hc:0<=c/\c<=536870911):ev 255 [.pv (I e),.pv (I c)] []=ok (I (z5 e c)):=by
 have h:=Xb (e:=e) hc
 rw[zit]
 have hb:=gN he
 simp only[I] at hb
 rw[show (0+e.toNat*1)=e.toNat by omega,hb,decide_eq_true he.1,decide_eq_true (show e<8 by omega)]
 dsimp only[zr,zmS,z6,zc]
 rw[zaN,zh (x:=bitsOf e*c) (by omega),zh (x:=bitsOf e*c+8) (by omega),zh (x:=bitsOf e*c+8-1) (by omega),Int.tdiv_eq_ediv_of_nonneg (by omega),zh (by omega),show bitsOf e*c+8-1=bitsOf e*c+7 by omega]
 rfl
def trimB (e c:Int) (b:List Int):List Int :=
 if e=1/\0<c%8 then b.take (z5 e c-1).toNat++[rd b (z5 e c-1)%2^(c%8).toNat] else b.take (z5 e c).toNat
theorem ze3 {a:Int} (h:zm a) {r:Nat} (hr:r<=7):IntKind.wrap .u8 (((BitVec.ofInt 8 a &&& BitVec.ofInt 8 ((2^r-1:Nat):Int)).toNat:Nat):Int)=a%2^r:=by
 obtain ⟨n,rfl⟩:=Int.eq_ofNat_of_zero_le h.1
 have hn:n<256:=by have:=h.2;omega
 have e1:∀ m:Nat,m<256->(BitVec.ofInt 8 (m:Int)).toNat=m:=fun m hm=>by simp;omega
 have hp:2^r<=2^7:=Nat.pow_le_pow_right (by decide) hr
 rw[BitVec.toNat_and,e1 n hn,e1 _ (by omega),Nat.and_two_pow_sub_one_eq_mod,Vi]
 have:n%2^r<=n:=Nat.mod_le _ _
 rw[Int.emod_eq_of_lt (Int.natCast_nonneg _) (by omega)]
 push_cast
 rfl
theorem Vu {e c:Int} {b:List Int} (he:0<=e/\e<=7) (hc:0<=c/\c<=536870911) (hb:∀ x∈b,zm x) (hn:z5 e c<=b.length):ev 235 [.pv (I e),.pv (I c),.pv (.sl 1 (bs b))] []=some (.ret (.slu 5 1 (bs (trimB e c b))),[]):=by
 have hr:=g8 (e:=e) hc
 rw[ziu,zdi he hc]
 dsimp only[ze,zg,zmS,xF]
 rw[decide_eq_true hr.1,decide_eq_true (show z5 e c<=((bs b).length:Int) by simpa using hn)]
 dsimp only[zr,zc]
 have et:List.drop 0 (List.take (z5 e c).toNat (bs b))=bs (b.take (z5 e c).toNat):=by simp[bs]
 rw[et,zk6,yW (by simp;omega) (by simp;omega)]
 dsimp only[zr,zc,ze]
 rw[show zT 5 1 (.slu 5 1 (bs (b.take (z5 e c).toNat)))=some (bs (b.take (z5 e c).toNat)) from yE _ _ _]
 dsimp only[zmS]
 unfold trimB
 by_cases h1:e=1
 case neg=>rw[beq_eq_false_iff_ne.2 h1,if_neg (fun h=>h1 h.1)];rfl
 subst h1
 rw[show ((1:Int)==1)=true from rfl,Int.tmod_eq_emod_of_nonneg hc.1]
 dsimp only[zc]
 by_cases h8:0<c%8
 case neg=>rw[decide_eq_false (show ¬c%8>0 by omega),if_neg (fun h=>h8 h.2)];rfl
 rw[decide_eq_true (show c%8>0 by omega),if_pos ⟨rfl,h8⟩]
 have hpos:1<=z5 1 c:=by unfold z5 bitsOf;simp;omega
 have hlen:((bs (b.take (z5 1 c).toNat)).length:Int)=z5 1 c:=by simp;omega
 rw[hlen,zh (x:=z5 1 c-1) (by omega),decide_eq_true (show 0<=z5 1 c-1 by omega),decide_eq_true (show z5 1 c-1<z5 1 c by omega)]
 have hg:(bs (b.take (z5 1 c).toNat))[(z5 1 c-1).toNat]? = some (U8 (rd b (z5 1 c-1))):=by
  rw[Yv (by simp;omega)]
  simp only[rd,List.getD_eq_getElem?_getD,List.getElem_take]
  rw[List.getElem?_eq_getElem (show (z5 1 c-1).toNat<b.length by omega)]
  rfl
 have hby:zm (rd b (z5 1 c-1)):=by
  unfold rd
  rw[List.getD_eq_getElem?_getD,List.getElem?_eq_getElem (by omega)]
  exact hb _ (List.getElem_mem _)
 dsimp only[zr,zc]
 rw[hg]
 dsimp only[zmS,ym,zmQ,ZH]
 have hs:IntKind.wrap .u64 (c%8)=c%8:=wM (by omega)
 have hk:(c%8).toNat<=7:=by omega
 have hmask:IntKind.wrap .u8 (IntKind.wrap .u8 (1*2^(min (c%8).toNat 8))-1)=((2^(c%8).toNat-1:Nat):Int):=by
  generalize (c%8).toNat=r at hk
  have:r=0∨r=1∨r=2∨r=3∨r=4∨r=5∨r=6∨r=7:=by omega
  rcases this with rfl|rfl|rfl|rfl|rfl|rfl|rfl|rfl<;>rfl
 rw[hs,hmask,ze3 hby hk,show yS .shl (c%8)=true by simp[yS];omega]
 have hset:(bs (b.take (z5 1 c).toNat)).set (z5 1 c-1).toNat (U8 (rd b (z5 1 c-1)%2^(c%8).toNat))=bs (b.take (z5 1 c-1).toNat++[rd b (z5 1 c-1)%2^(c%8).toNat]):=by
  have e1:(z5 1 c).toNat=(z5 1 c-1).toNat+1:=by omega
  rw[e1,List.take_succ_eq_append_getElem (by omega),Zx,Zx]
  have hl:(bs (b.take (z5 1 c-1).toNat)).length=(z5 1 c-1).toNat:=by simp;omega
  rw[List.set_append_right _ _ (by omega),hl,Nat.sub_self]
  rfl
 have hcell:setCells (U8 (rd b (z5 1 c-1))) 0 [U8 (rd b (z5 1 c-1)%2^(c%8).toNat)]=some (U8 (rd b (z5 1 c-1)%2^(c%8).toNat)):=rfl
 dsimp only[zc]
 rw[hcell]
 dsimp only[zmS]
 rw[hset]
 rfl
def yj (o:Ob) (i:Int):Ob:=⟨1,o.seg,o.at_+i*(o.data+o.ptrs),o.data,o.ptrs,0,0,0⟩
def yZ (o:Ob):Int:=if o.kind=1/\0<o.ptrs then o.at_+o.data else if o.kind=2/\o.elem=6/\0<o.n then o.at_ else 0
def wK (o:Ob):Int:=if o.kind=1/\0<o.ptrs then o.ptrs else if o.kind=2/\o.elem=6/\0<o.n then o.n else 0
theorem Kt (o:Ob) (i:Int) (h1:-4611686018427387904<=o.data+o.ptrs/\o.data+o.ptrs<=4611686018427387904) (h2:-4611686018427387904<=i*(o.data+o.ptrs)/\i*(o.data+o.ptrs)<=4611686018427387904) (h3:-4611686018427387904<=o.at_/\o.at_<=4611686018427387903):ev 238 [.pv (.agg o.c),.pv (I i)] []=ok (.agg (yj o i).c):=by
 rw[Ob.c,zko,zh (x:=o.data+o.ptrs) (by omega),zh (x:=i*(o.data+o.ptrs)) (by omega),zh (by omega)]
 rfl
theorem uD (o:Ob) (h1:-4611686018427387904<=o.at_+o.data/\o.at_+o.data<=4611686018427387904):ev 277 [.pv (.agg o.c)] []=ok (.tup [I (yZ o),I (wK o)]):=by
 rw[Ob.c,zkq,zh (x:=o.at_+o.data) (by omega)]
 unfold yZ wK
 simp only[yx,yz]
 by_cases k1:o.kind=1
 ·by_cases k2:0<o.ptrs
  ·simp[k1,k2]
  ·simp[k1,k2]
 ·by_cases k3:o.kind=2
  ·by_cases k4:o.elem=6
   ·by_cases k5:0<o.n
    ·simp[k3,k4,k5]
    ·simp[k3,k4,k5]
   ·simp[k3,k4]
  ·simp[k1,k3]
theorem Vt (d w o:Int):ev 131 [.pv (.agg [I d,I w,I o])] []=ok (.agg [I (max w 0)]):=by
 rw[zfs]
 have:(if 0>w then 0 else w)=max w 0:=by omega
 rw[this]
theorem Vq (d w o x:Int):ev 191 [.pv (.agg [I d,I w,I o]),.pv (I x)] []=ok (I (if x>d then 7 else 0)):=by
 rw[zfr,yz]
 split<;>rfl
theorem uv (m c:Int) (hm:-4611686018427387904<=m-c/\m-c<=4611686018427387904):ev 272 [.pv (.agg [I m]),.pv (I c)] []=ok (.tup [.agg [I (if c>m then m else m-c)],I (if c>m then 8 else 0)]):=by
 rw[zfq,zfu,zh (x:=m-c) (by omega)]
 by_cases h:c>m
 ·rw[decide_eq_true h,if_pos h,if_pos h];rfl
 ·rw[decide_eq_false h,if_neg h,if_neg h];rfl
inductive Nd where
 |mk (kind elem n:Int) (data:List Int) (kids:List Nd)
def Nd.kind:Nd->Int|.mk k _ _ _ _=>k
def Nd.elem:Nd->Int|.mk _ e _ _ _=>e
def Nd.n:Nd->Int|.mk _ _ n _ _=>n
def Nd.data:Nd->List Int|.mk _ _ _ d _=>d
def Nd.kids:Nd->List Nd|.mk _ _ _ _ ks=>ks
def nd0:Nd:=.mk 0 0 0 [] []
theorem Nd.ind {P:Nd->Prop} (h:∀ k e n d ks,(∀ x∈ks,P x)->P (.mk k e n d ks)):∀ x,P x
 |.mk k e n d ks=>h k e n d ks fun x hx=>Nd.ind h x
termination_by x=>SizeOf.sizeOf x
decreasing_by
 have:=List.sizeOf_lt_of_mem hx
 simp
 omega
mutual
def Nd.pv:Nd->PV
 |.mk k e n d ks=>.agg [I k,I e,I n,.sl 1 (bs d),.sl 5 (zI ks)]
def zI:List Nd->List PV
 |[]=>[]
 |x::l=>x.pv::zI l
end
theorem Ye:∀ l:List Nd,zI l=l.map Nd.pv
 |[]=>rfl
 |x::l=>by rw[zI,Ye l];rfl
def Nd.c (x:Nd):List PV:=[I x.kind,I x.elem,I x.n,.sl 1 (bs x.data),.sl 5 (zI x.kids)]
theorem Nd.pv_c (x:Nd):x.pv=.agg x.c:=by cases x;rfl
theorem Ya (x:Nd):x.pv.cells=x.c:=by rw[Nd.pv_c];rfl
@[simp] theorem wT (l:List Nd):(zI l).length=l.length:=by rw[Ye];simp
theorem vU {l:List Nd} {i:Nat} (h:i<l.length):(zI l)[i]? = some l[i].pv:=by rw[Ye];simp[h]
theorem zkh (l:List Nd) (n:Nat):(zI l).take n=zI (l.take n):=by rw[Ye,Ye,List.map_take]
theorem zbB (a b:List Nd):zI (a++b)=zI a++zI b:=by rw[Ye,Ye,Ye,List.map_append]
theorem VD (l:List Int) (n:Nat):(bs l).take n=bs (l.take n):=by simp[bs]
theorem ziO (x:Nd):((decide (x.pv.cells.length=5)&&x.pv.cells.all PV.isCell)&&true)=true:=by cases x;rfl
mutual
def yt:Nd->Prop
 |.mk k e n d ks=>(d.length<=17592186044416/\(∀ b∈d,zm b)/\ks.length<=1073741824/\(k=1->d.length%8=0))/\YF ks
def YF:List Nd->Prop
 |[]=>True
 |x::l=>yt x/\YF l
end
theorem goods_iff:∀ {l:List Nd},YF l↔∀ x∈l,yt x
 |[]=>by simp[YF]
 |x::l=>by simp[YF,goods_iff (l:=l)]
def yN {α:Type} (p:α->Bool) (l:List α):Nat:=(l.reverse.dropWhile p).length
theorem vg {α:Type} (p:α->Bool) (l:List α):yN p l<=l.length:=by
 unfold yN
 have:=(List.dropWhile_sublist p (l:=l.reverse)).length_le
 simpa using this
theorem xX {α:Type} (p:α->Bool) (l:List α) (x:α):yN p (l++[x])=if p x then yN p l else l.length+1:=by
 unfold yN
 rw[List.reverse_append]
 simp only[List.reverse_cons,List.reverse_nil,zmV,List.singleton_append,List.dropWhile_cons]
 split<;>simp
def yq (d:List Int):Nat:=(yN (·==0) d+7)/8
def yf (ks:List Nd):Nat:=yN (fun x=>x.kind==0) ks
mutual
def zi:Nd->Nd
 |.mk k e n d ks=>if k=1 then .mk k e n (d.take (8*yq d)) ((vp ks).take (yf ks)) else .mk k e n d (vp ks)
def vp:List Nd->List Nd
 |[]=>[]
 |x::l=>zi x::vp l
end
theorem xb:∀ l:List Nd,vp l=l.map zi
 |[]=>rfl
 |x::l=>by rw[vp,xb l];rfl
theorem ZP {α:Type} {l:List α} {i:Nat} (h:i<l.length):l.take (i+1)=l.take i++[l[i]]:=List.take_succ_eq_append_getElem h
theorem zim {d:List Int} (hd:d.length<=17592186044416):∀ i:Nat,i<=d.length->Kc (bs d) i=ok (I (yN (·==0) (d.take i):Nat)):=by
 intro i
 induction i with
 |zero=>
  intro _
  rw[zcI]
  rfl
 |succ i ih=>
  intro hi
  rw[zcI,decide_eq_true (by omega),zh (x:=((i+1:Nat):Int)-1) (by omega),show ((i+1:Nat):Int)-1=(i:Int) by omega,decide_eq_true (by omega),decide_eq_true (by simp;omega)]
  dsimp only[zr,zc]
  rw[Int.toNat_natCast,Yv (by omega)]
  dsimp only[zmS,ym,zmQ]
  rw[zlz,ih (by omega),ZP (by omega),xX]
  dsimp only[ze,zg,zmS,xf]
  by_cases h0:d[i]=0
  ·rw[beq_iff_eq.2 h0];rfl
  ·rw[beq_eq_false_iff_ne.2 h0]
   simp[show i<=d.length by omega]
theorem zec {d:List Int} (hd:d.length<=17592186044416):ev 214 [.pv (.sl 1 (bs d))] []=ok (I (yq d:Nat)):=by
 have hk:=vg (·==0) d
 rw[zlA,zlC]
 have:=zim hd d.length (by omega)
 rw[List.take_length] at this
 rw[zR,this]
 dsimp only[ze,zg,zmS,z6]
 rw[zh (x:=(yN (·==0) d:Nat)+8) (by omega),zh (x:=((yN (·==0) d:Nat):Int)+8-1) (by omega),Int.tdiv_eq_ediv_of_nonneg (by omega),zh (by omega)]
 have e:(((yN (·==0) d:Nat):Int)+8-1)/8=((yq d:Nat):Int):=by unfold yq;omega
 rw[e]
theorem zaX (x:Nd):PV.agg ((x.pv.cells.drop 0).take 5)=x.pv:=by cases x;rfl
theorem ZE (x:Nd):decide (5<=x.pv.cells.length)=true:=by cases x;rfl
theorem zin {l:List Nd} (hl:l.length<=1073741824):∀ i:Nat,i<=l.length->Kb (zI l) i=ok (I (yf (l.take i):Nat)):=by
 intro i
 induction i with
 |zero=>
  intro _
  rw[zcH]
  rfl
 |succ i ih=>
  intro hi
  rw[zcH,decide_eq_true (by omega),zh (x:=((i+1:Nat):Int)-1) (by omega),show ((i+1:Nat):Int)-1=(i:Int) by omega,decide_eq_true (by omega),decide_eq_true (by simp;omega)]
  dsimp only[zr,zc]
  rw[Int.toNat_natCast,vU (by omega)]
  dsimp only[zmS]
  rw[ZE,zaX,Nd.pv_c,Nd.c,zlv,ih (by omega),ZP (by omega)]
  unfold yf
  rw[xX]
  dsimp only[ze,zg,zmS,xf,zc]
  by_cases h0:l[i].kind=0
  ·rw[beq_iff_eq.2 h0];rfl
  ·rw[beq_eq_false_iff_ne.2 h0]
   simp[show i<=l.length by omega]
theorem zeb {l:List Nd} (hl:l.length<=1073741824):ev 215 [.pv (.sl 5 (zI l))] []=ok (I (yf l:Nat)):=by
 rw[zlw,zlB]
 have:=zin hl l.length (by omega)
 rw[List.take_length] at this
 rw[wT,this]
 rfl
theorem ziP (x:Nd):∃ c0 c1 c2 c3 c4,x.pv.cells=[c0,c1,c2,c3,c4]/\x.pv=.agg [c0,c1,c2,c3,c4]/\c0.isCell=true/\c1.isCell=true/\c2.isCell=true/\c3.isCell=true/\c4.isCell=true:=by
 cases x;exact ⟨_,_,_,_,_,rfl,rfl,rfl,rfl,rfl,rfl,rfl⟩
theorem zcJ {l:List Nd} (hl:l.length<=1073741824) (hv:∀ x∈l,ev 153 [.pv x.pv] []=ok (zi x).pv) (i3 i4 i5:Int) (xs6 xs7:List PV) (i8 i9 i10:Int) (xs11 xs12:List PV) (k e n:Int) (d:List Int):∀ (m i:Nat),i+m=l.length->
  Vc (zI l) l.length i i3 i4 i5 xs6 xs7 i8 i9 i10 xs11 xs12 k e n (bs d) (zI (vp (l.take i)))=ok (Nd.mk k e n d (vp l)).pv:=by
 intro m
 induction m with
 |zero=>
  intro i hi
  obtain rfl:i=l.length:=by omega
  rw[zcF,decide_eq_false (by omega),List.take_length]
  rfl
 |succ m ih=>
  intro i hi
  have hil:i<l.length:=by omega
  rw[zcF,decide_eq_true (by omega),decide_eq_true (by omega),decide_eq_true (by simp;omega)]
  dsimp only[zr,zc]
  rw[Int.toNat_natCast,vU hil]
  obtain ⟨c0,c1,c2,c3,c4,h1,h2,h3,h4,h5,h6,h7⟩:=ziP l[i]
  have hvi:=hv _ (List.getElem_mem hil)
  rw[h2] at hvi
  dsimp only[zmS]
  rw[h1]
  rw[show decide (5<=[c0,c1,c2,c3,c4].length)=true from rfl,show List.take 5 (List.drop 0 [c0,c1,c2,c3,c4])=[c0,c1,c2,c3,c4] from rfl]
  dsimp only[zir,zmQ,zmR,zmS,zc]
  rw[h3,h4,h5,h6,h7]
  dsimp only[zr,zc]
  rw[hvi]
  dsimp only[ze,zg,zmS]
  have hroom:yk ((zI (vp (l.take i))).length+1) 72=true:=yW (by rw[wT,xb];simp;omega) (by rw[wT,xb];simp;omega)
  have hnext:zI (vp (l.take i))++[(zi l[i]).pv]=zI (vp (l.take (i+1))):=by
   rw[ZP hil,xb,xb,List.map_append,zbB]
   rfl
  rw[ziO,hroom,hnext,zh (x:=(i:Int)+1) (by omega)]
  exact ih (i+1) (by omega)
theorem jp {α:Type} (l:List α):l.drop 0=l:=rfl
theorem gi (x:Nd):yt x->ev 153 [.pv x.pv] []=ok (zi x).pv:=by
 induction x using Nd.ind with
 |h k e n d ks ih=>
  intro hg
  rw[yt,goods_iff] at hg
  obtain ⟨⟨hd,hb,hk,h8⟩,hks⟩:=hg
  have hv:∀ x∈ks,ev 153 [.pv x.pv] []=ok (zi x).pv:=fun x hx=>ih x hx (hks x hx)
  rw[Nd.pv,zlx,zi]
  by_cases h1:k=1
  ·subst h1
   have hkw:=vg (·==0) d
   have h88:=h8 rfl
   have hw:8*yq d<=d.length:=by unfold yq;omega
   have hp:yf ks<=ks.length:=vg _ _
   rw[show ((1:Int)==1)=true from rfl,zec hd,zeb hk,if_pos rfl]
   dsimp only[ze,zg,zmS,xF,z6,zc]
   rw[zh (x:=8*((yq d:Nat):Int)) (by omega),decide_eq_true (by omega),decide_eq_true (by simp;omega),decide_eq_true (by omega),decide_eq_true (by simp;omega)]
   dsimp only[zr,zc]
   have e1:(8*((yq d:Nat):Int)).toNat=8*yq d:=by omega
   rw[e1,Int.toNat_natCast,jp,jp,VD,zkh,yW (by simp;omega) (by simp;omega),wT]
   dsimp only[zc]
   have:=zcJ (l:=ks.take (yf ks)) (by simp;omega) (fun x hx=>hv x (List.mem_of_mem_take hx)) 1 e n (bs d) (zI ks) 0 0 0 [] [] 1 e n (d.take (8*yq d)) (ks.take (yf ks)).length 0 (by omega)
   refine this.trans ?_
   rw[xb,xb,List.map_take]
  ·rw[beq_eq_false_iff_ne.2 h1,if_neg h1,yW (by simp;omega) (by simp;omega),wT]
   exact zcJ hk hv k e n (bs d) (zI ks) 0 0 0 [] [] k e n d ks.length 0 (by omega)
def cutB (l:List (List Int)) (s a n:Int):List Int:=if inB l s a n then cut l s a n else []
theorem VY {l:List (List Int)} (h:zJ l) (s a n:Int):Words (cutB l s a n):=by
 unfold cutB
 split
 ·have hw:=QO h s
  refine ⟨?_,fun x hx=>hw.2 x (List.mem_of_mem_drop (List.mem_of_mem_take hx))⟩
  have:=hw.1
  unfold cut
  rw[List.length_take,List.length_drop]
  omega
 ·exact ⟨by simp,by simp⟩
theorem Zh (l:List (List Int)) (s a n:Int):(cutB l s a n).length<=n.toNat:=by
 unfold cutB
 split
 ·unfold cut
  rw[List.length_take]
  omega
 ·simp
theorem uH {l:List (List Int)} (h:zJ l) (s a n:Int) (hn:n<=17592186044416):ev 276 [.pv (.sl 1 (zL l)),.pv (I s),.pv (I a),.pv (I n)] []=ok (.tup [.sl 1 (ws (cutB l s a n)),Bo (decide (inB l s a n))]):=by
 rw[KA h s a n hn]
 unfold cutB
 by_cases hb:inB l s a n
 ·rw[if_pos hb,if_pos hb,decide_eq_true hb]
 ·rw[if_neg hb,if_neg hb,decide_eq_false hb];rfl
theorem qD (a:List Int) (x:Int):ws a++[U x]=ws (a++[x]):=by simp[ws]
def Za (l:List (List Int)) (o:Ob):Prop:=(0<=o.at_/\o.at_<=1099511627776)/\(0<=o.data/\o.data<=65535)/\(0<=o.ptrs/\o.ptrs<=65535)/\(0<=o.elem/\o.elem<=7)/\(0<=o.n/\o.n<=536870911)/\(0<=o.cost/\o.cost<=2147483648)/\(o.kind=1∨o.kind=2)/\(o.kind=2->o.elem<6->inB l o.seg o.at_ o.cost/\o.cost=zs o.elem o.n)/\(o.kind=2->o.elem≠7->o.data=0/\o.ptrs=0)
theorem Jr {l:List (List Int)} (hs:Sm l) {s a n:Int} (h:inB l s a n):0<=a/\a+n<=1099511627776/\0<=n:=by
 have:=hs s
 obtain ⟨h1,h2,h3,h4,h5⟩:=h
 omega
theorem xR {e:Int} {P:Prop} (h:(bad e).2=0) (he:e≠0):P:=absurd h he
theorem zi4 {l:List (List Int)} (hs:Sm l) {s st d q:Int} (hd:0<=d/\d<=65535) (hq:0<=q/\q<=65535) (h:(wG l s st d q).2=0):Za l (wG l s st d q).1:=by
 unfold wG at h ⊢
 by_cases hb:inB l s st (d+q)
 ·rw[if_pos hb] at h ⊢
  obtain ⟨a1,a2,a3⟩:=Jr hs hb
  exact ⟨⟨a1,by dsimp only;omega⟩,hd,hq,⟨by dsimp only;omega,by dsimp only;omega⟩,⟨by dsimp only;omega,by dsimp only;omega⟩,⟨by dsimp only;omega,by dsimp only;omega⟩,.inl rfl,fun h=>absurd h (by dsimp only;omega),fun h=>absurd h (by dsimp only;omega)⟩
 ·rw[if_neg hb] at h
  exact xR h (by decide)
theorem zi2 {l:List (List Int)} (hl:zJ l) (hs:Sm l) {s st c:Int} (hc:0<=c/\c<=536870911) (h:(wn l s st c).2=0):Za l (wn l s st c).1:=by
 unfold wn at h ⊢
 by_cases hb:inB l s st (c+1)
 ·rw[if_pos hb] at h ⊢
  have hd:=vO (wL hl s st)
  generalize zv (wd l s st)=p at h hd ⊢
  by_cases hk:p.1=0/\0<=p.2.1/\p.2.1*(p.2.2.1+p.2.2.2.1)<=c
  ·rw[if_pos hk] at h ⊢
   obtain ⟨a1,a2,a3⟩:=Jr hs hb
   refine ⟨⟨by dsimp only;omega,by dsimp only;omega⟩,⟨by dsimp only;omega,by dsimp only;omega⟩,⟨by dsimp only;omega,by dsimp only;omega⟩,⟨by dsimp only;omega,by dsimp only;omega⟩,⟨by dsimp only;omega,by dsimp only;omega⟩,⟨by dsimp only;split<;>omega,by dsimp only;split<;>omega⟩,.inr rfl,fun _ h=>absurd h (by dsimp only;omega),fun _ h=>absurd rfl h⟩
  ·rw[if_neg hk] at h
   exact xR h (by decide)
 ·rw[if_neg hb] at h
  exact xR h (by decide)
theorem zi3 {l:List (List Int)} (hl:zJ l) (hs:Sm l) {s st e c:Int} (he:0<=e/\e<=7) (hc:0<=c/\c<=536870911) (h:(xY l s st e c).2=0):Za l (xY l s st e c).1:=by
 unfold xY at h ⊢
 by_cases h7:e=7
 ·rw[if_pos h7] at h ⊢
  exact zi2 hl hs hc h
 ·rw[if_neg h7] at h ⊢
  by_cases hb:inB l s st (zs e c)
  ·rw[if_pos hb] at h ⊢
   obtain ⟨a1,a2,a3⟩:=Jr hs hb
   have hw:=ZT (e:=e) hc
   exact ⟨⟨a1,by dsimp only;omega⟩,⟨by dsimp only;omega,by dsimp only;omega⟩,⟨by dsimp only;omega,by dsimp only;omega⟩,he,hc,⟨hw.1,by dsimp only;omega⟩,.inr rfl,fun _ _=>⟨hb,rfl⟩,fun _ _=>⟨rfl,rfl⟩⟩
  ·rw[if_neg hb] at h
   exact xR h (by decide)
theorem XD {l:List (List Int)} (hl:zJ l) (hs:Sm l) {s a:Int} (h0:(zV l s a).1≠0) (he:(zV l s a).2.2.2=0) (h:(yn l s a).2=0):Za l (yn l s a).1:=by
 have hd:=vO (Qi hl s a)
 unfold yn at h ⊢
 rw[if_pos he,if_neg h0] at h ⊢
 unfold wQ at h ⊢
 generalize zv (zV l s a).1=p at h hd ⊢
 by_cases k0:p.1=0
 ·rw[if_pos k0] at h ⊢
  exact zi4 hs (by omega) (by omega) h
 ·rw[if_neg k0] at h ⊢
  by_cases k1:p.1=1
  ·rw[if_pos k1] at h ⊢
   exact zi3 hl hs (by omega) (by omega) h
  ·rw[if_neg k1] at h
   split at h
   ·exact xR h (by decide)
   ·exact xR h (by decide)
def zO (F:Int->Nat->Nd×Int×Int):Nat->Nat->Int->List Nd->List Nd×Int×Int
 |0,_,m,acc=>(acc,m,0)
 |c+1,i,m,acc=>if (F m i).2.2=0 then zO F c (i+1) (F m i).2.1 (acc++[(F m i).1]) else ([],(F m i).2.1,(F m i).2.2)
def wZ (t:List Nd×Int×Int) (f:List Nd->Nd):Nd×Int×Int:=(if t.2.2=0 then f t.1 else nd0,t.2.1,t.2.2)
def zQ (F:Int->Int->Int->Nd×Int×Int) (l:List (List Int)) (m:Int) (o:Ob):Nd×Int×Int :=
 wZ (zO (fun m i=>F m o.seg (o.at_+o.data+i)) o.ptrs.toNat 0 m []) fun ks=>.mk 1 0 0 (zA (cutB l o.seg o.at_ o.data)) ks
def xo (F:Int->Int->Int->Nd×Int×Int) (l:List (List Int)) (m:Int) (o:Ob):Nd×Int×Int :=
 if o.elem<6 then (.mk 2 o.elem o.n (trimB o.elem o.n (zA (cutB l o.seg o.at_ o.cost))) [],m,0)
 else wZ (zO (fun m i=>if o.elem=6 then F m o.seg (o.at_+i) else zQ F l m (yj o i)) o.n.toNat 0 m []) fun ks=>.mk 2 o.elem o.n [] ks
def xu (F:Int->Int->Int->Nd×Int×Int) (l:List (List Int)) (m:Int) (t:Ob×Int):Nd×Int×Int :=
 if t.2=0 then (if t.1.cost>m then (nd0,m,8) else if t.1.kind=1 then zQ F l (m-t.1.cost) t.1 else xo F l (m-t.1.cost) t.1) else (nd0,m,t.2)
def zG (l:List (List Int)):Nat->Int->Int->Int->Nd×Int×Int
 |0=>fun m s a=>if (zV l s a).2.2.2=0 then (if (zV l s a).1=0 then (nd0,m,0) else (nd0,m,7)) else (nd0,m,(zV l s a).2.2.2)
 |D+1=>fun m s a=>if (zV l s a).2.2.2=0 then (if (zV l s a).1=0 then (nd0,m,0) else xu (zG l D) l m (yn l s a)) else (nd0,m,(zV l s a).2.2.2)
def Mt (m:Int):Prop:=0<=m/\m<=4611686018427387904
def Fn (t:Nd×Int×Int):Prop:=Mt t.2.1/\yt t.1
theorem Zi:yt nd0:=by unfold nd0;rw[yt];exact ⟨⟨by simp,by simp,by simp,by simp⟩,trivial⟩
theorem zaD {F:Int->Nat->Nd×Int×Int} (hF:∀ m i,Mt m->Fn (F m i)):∀ c i m acc,Mt m->YF acc->Mt (zO F c i m acc).2.1/\YF (zO F c i m acc).1/\(zO F c i m acc).1.length<=acc.length+c:=by
 intro c
 induction c with
 |zero=>intro i m acc hm ha;exact ⟨hm,ha,Nat.le_refl _⟩
 |succ c ih=>
  intro i m acc hm ha
  rw[zO]
  split
  ·obtain ⟨a1,a2,a3⟩:=ih (i+1) (F m i).2.1 (acc++[(F m i).1]) (hF m i hm).1 (goods_iff.2 fun x hx=>by
    rcases List.mem_append.1 hx with h|h
    ·exact goods_iff.1 ha x h
    ·rw[List.mem_singleton.1 h];exact (hF m i hm).2)
   exact ⟨a1,a2,by simp at a3;omega⟩
  ·exact ⟨(hF m i hm).1,trivial,by simp⟩
theorem zcY {t:List Nd×Int×Int} {f:List Nd->Nd} (hm:Mt t.2.1) (hf:yt (f t.1)):Fn (wZ t f):=by
 refine ⟨hm,?_⟩
 unfold wZ
 dsimp only
 split
 ·exact hf
 ·exact Zi
theorem gY (l:List (List Int)) (s a n:Int):(zA (cutB l s a n)).length%8=0:=by rw[xc];omega
theorem zcC (e c:Int) (b:List Int):(trimB e c b).length<=b.length+1:=by
 unfold trimB
 split
 ·rw[zmT,List.length_take];simp;omega
 ·rw[List.length_take];omega
theorem XV (e c:Int) (b:List Int) (hb:∀ x∈b,zm x):∀ x∈trimB e c b,zm x:=by
 unfold trimB
 intro x hx
 split at hx
 ·rename_i h1
  rcases List.mem_append.1 hx with h|h
  ·exact hb x (List.mem_of_mem_take h)
  ·rw[List.mem_singleton.1 h]
   have hc:(c%8).toNat=0∨(c%8).toNat=1∨(c%8).toNat=2∨(c%8).toNat=3∨(c%8).toNat=4∨(c%8).toNat=5∨(c%8).toNat=6∨(c%8).toNat=7:=by omega
   unfold zm
   rcases hc with h|h|h|h|h|h|h|h<;>rw[h]<;>simp only[Nat.reducePow,Int.reducePow,Int.pow_zero,Int.pow_succ,Int.reduceMul]<;>omega
 ·exact hb x (List.mem_of_mem_take hx)
theorem qh {F:Int->Int->Int->Nd×Int×Int} (hF:∀ m s a,Mt m->Fn (F m s a)) (l:List (List Int)) {m:Int} (hm:Mt m) {o:Ob} (hd:o.data<=65535) (hq:o.ptrs<=65535):Fn (zQ F l m o):=by
 obtain ⟨a1,a2,a3⟩:=zaD (F:=fun m i=>F m o.seg (o.at_+o.data+i)) (fun m i h=>hF m _ _ h) o.ptrs.toNat 0 m [] hm trivial
 refine zcY a1 ?_
 rw[yt]
 have:=Zh l o.seg o.at_ o.data
 refine ⟨⟨?_,wj _,?_,fun _=>gY l _ _ _⟩,a2⟩
 ·rw[xc];omega
 ·simp at a3;omega
theorem zgP {F:Int->Int->Int->Nd×Int×Int} (hF:∀ m s a,Mt m->Fn (F m s a)) (l:List (List Int)) {m:Int} (hm:Mt m) {t:Ob×Int} (ht:t.2=0->Za l t.1):Fn (xu F l m t):=by
 unfold xu
 by_cases h0:t.2=0
 ·rw[if_pos h0]
  obtain ⟨hat,hd,hq,he,hn,hc,hk,hw,hz⟩:=ht h0
  by_cases h8:t.1.cost>m
  ·rw[if_pos h8];exact ⟨hm,Zi⟩
  ·rw[if_neg h8]
   have hm':Mt (m-t.1.cost):=⟨by unfold Mt at hm;omega,by unfold Mt at hm;omega⟩
   by_cases h1:t.1.kind=1
   ·rw[if_pos h1];exact qh hF l hm' hd.2 hq.2
   ·rw[if_neg h1]
    unfold xo
    by_cases h6:t.1.elem<6
    ·rw[if_pos h6]
     refine ⟨hm',?_⟩
     rw[yt]
     have:=Zh l t.1.seg t.1.at_ t.1.cost
     have:=zcC t.1.elem t.1.n (zA (cutB l t.1.seg t.1.at_ t.1.cost))
     rw[xc] at this
     exact ⟨⟨by omega,XV _ _ _ (wj _),by simp,fun h=>absurd h (by decide)⟩,trivial⟩
    ·rw[if_neg h6]
     obtain ⟨a1,a2,a3⟩:=zaD (F:=fun m i=>if t.1.elem=6 then F m t.1.seg (t.1.at_+i) else zQ F l m (yj t.1 i)) (fun m i h=>by
      split
      ·exact hF m _ _ h
      ·exact qh hF l h hd.2 hq.2) t.1.n.toNat 0 (m-t.1.cost) [] hm' trivial
     refine zcY a1 ?_
     rw[yt]
     exact ⟨⟨by simp,by simp,by simp at a3;omega,fun h=>absurd h (by decide)⟩,a2⟩
 ·rw[if_neg h0];exact ⟨hm,Zi⟩
theorem jh {l:List (List Int)} (hl:zJ l) (hs:Sm l):∀ D m s a,Mt m->Fn (zG l D m s a):=by
 intro D
 induction D with
 |zero=>
  intro m s a hm
  unfold zG
  split
  ·split<;>exact ⟨hm,Zi⟩
  ·exact ⟨hm,Zi⟩
 |succ D ih=>
  intro m s a hm
  unfold zG
  split
  ·rename_i he
   split
   ·exact ⟨hm,Zi⟩
   ·rename_i h0
    exact zgP ih l hm fun h=>XD hl hs h0 he h
  ·exact ⟨hm,Zi⟩
theorem zkg (acc:List Nd) (x:Nd):zI acc++[.agg [I x.kind,I x.elem,I x.n,.sl 1 (bs x.data),.sl 5 (zI x.kids)]]=zI (acc++[x]):=by
 rw[zbB]
 cases x;rfl
theorem WL {F:Int->Nat->Nd×Int×Int} {c i:Nat} {m:Int} {acc:List Nd} (h:(F m i).2.2≠0):zO F (c+1) i m acc=([],(F m i).2.1,(F m i).2.2):=by rw[zO,if_neg h]
theorem WM {F:Int->Nat->Nd×Int×Int} {c i:Nat} {m:Int} {acc:List Nd} (h:(F m i).2.2=0):zO F (c+1) i m acc=zO F c (i+1) (F m i).2.1 (acc++[(F m i).1]):=by rw[zO,if_pos h]
theorem Xl {l:List (List Int)} {D:Nat} {m s a:Int} (h:(zV l s a).2.2.2≠0):zG l D m s a=(nd0,m,(zV l s a).2.2.2):=by
 cases D<;>(rw[zG];dsimp only;rw[if_neg h])
theorem Ww {l:List (List Int)} {D:Nat} {m s a:Int} (h:(zV l s a).2.2.2=0) (h0:(zV l s a).1=0):zG l D m s a=(nd0,m,0):=by
 cases D<;>(rw[zG];dsimp only;rw[if_pos h,if_pos h0])
theorem K7 {l:List (List Int)} {m s a:Int} (h:(zV l s a).2.2.2=0) (h0:(zV l s a).1≠0):zG l 0 m s a=(nd0,m,7):=by
 rw[zG];dsimp only;rw[if_pos h,if_neg h0]
theorem K8 {l:List (List Int)} {D:Nat} {m s a:Int} (h:(zV l s a).2.2.2=0) (h0:(zV l s a).1≠0):zG l (D+1) m s a=xu (zG l D) l m (yn l s a):=by
 rw[zG];dsimp only;rw[if_pos h,if_neg h0]
theorem wi {a:Int} (h:a≠0):(a != 0)=true:=by simpa using h
theorem VG {l:List (List Int)} {o:Ob} (hn:0<=o.n/\o.n<=536870911) (hb:inB l o.seg o.at_ o.cost/\o.cost=zs o.elem o.n) (h6:o.elem<6):z5 o.elem o.n<=((zA (cutB l o.seg o.at_ o.cost)).length:Int):=by
 rw[xc]
 unfold cutB
 rw[if_pos hb.1,jb hb.1]
 have hw:=ZT (e:=o.elem) hn
 have h2:=hb.2
 unfold zs at h2
 rw[if_neg (by omega)] at h2
 unfold z5
 have:=Xb (e:=o.elem) hn
 omega
abbrev hp (l:List (List Int)) (d w b m:Int):zf:=[[.pv (.sl 1 (zL l)),.pv (I d),.pv (I w),.pv (I b),.pv (I m)]]
def Zp (l:List (List Int)) (d w b:Int) (e m:Int) (p:PV):Option (Out×zf):=if e=0 then some (.ret (.pv p),hp l d w b m) else some (.pan (.ifc 279 (.agg [I e])),hp l d w b m)
theorem vC {l:List (List Int)} {d w b e m:Int} {p:PV} (h:e=0):Zp l d w b e m p=some (.ret (.pv p),[[.pv (.sl 1 (zL l)),.pv (I d),.pv (I w),.pv (I b),.pv (I m)]]):=by rw[Zp,if_pos h]
theorem xZ {l:List (List Int)} {d w b e m:Int} {p:PV} (h:e≠0):Zp l d w b e m p=some (.pan (.ifc 279 (.agg [I e])),[[.pv (.sl 1 (zL l)),.pv (I d),.pv (I w),.pv (I b),.pv (I m)]]):=by rw[Zp,if_neg h]
def Nd.x (x:Nd):PV:=.agg [I x.kind,I x.elem,I x.n,.sl 1 (bs x.data),.sl 5 (zI x.kids)]
def CV (l:List (List Int)) (d w b:Int) (dep:Int) (F:Int->Int->Int->Nd×Int×Int):Prop:=∀ m s a,Mt m->ev 234 [.ptr 0 0,.pv (I s),.pv (I a),.pv (I dep)] [[.pv (.sl 1 (zL l)),.pv (I d),.pv (I w),.pv (I b),.pv (I m)]]=Zp l d w b (F m s a).2.2 (F m s a).2.1 (F m s a).1.x
theorem Wd {e:Int} (h:e=0):ev 271 [.pv (I e)] []=ok (.tup []):=by rw[ji,h];rfl
theorem We {e:Int} (h:e≠0):ev 271 [.pv (I e)] []=some (.pan (.ifc 279 (.agg [I e])),[]):=by rw[ji,wi h];rfl
theorem zaW (x:Nd):((decide (x.x.cells.length=5)&&x.x.cells.all PV.isCell)&&true)=true:=rfl
theorem zbC (acc:List Nd) (x:Nd):zI acc++[x.x]=zI (acc++[x]):=zkg acc x
theorem uL {l:List (List Int)} (hl:zJ l) (d w b m:Int) (o:Ob) (a n:Int) (hn:n<=8796093022208):ev 295 [.ptr 0 0,.pv (.agg o.c),.pv (I a),.pv (I n)] [[.pv (.sl 1 (zL l)),.pv (I d),.pv (I w),.pv (I b),.pv (I m)]]=some (.ret (.pv (.sl 1 (bs (zA (cutB l o.seg a n))))),[[.pv (.sl 1 (zL l)),.pv (I d),.pv (I w),.pv (I b),.pv (I m)]]):=by
 have hcl:=Zh l o.seg a n
 rw[Ob.c,zgT,uH hl _ _ _ (by omega)]
 dsimp only[ze,zg,zmS,z4,zmR,zmQ]
 rw[ZV _ (by omega)]
 rfl
theorem zgG {l:List (List Int)} {d w b dep:Int} {F:Int->Int->Int->Nd×Int×Int} (hF:CV l d w b (dep+1) F) (hO:∀ m s a,Mt m->Fn (F m s a)) (hdep:0<=dep/\dep<=1099511627776) {k sg at_ dt q e n cst A Q:Int} (hA:0<=A/\A<=2251799813685248) (hQ:0<=Q/\Q<=536870911):∀ (c i:Nat) (m:Int) (acc:List Nd),i+c=Q.toNat->acc.length=i->Mt m->
  V5 dep (zI acc) (I A) (I Q) i (.sl 1 (zL l)) (I d) (I w) (I b) (I m) k sg at_ dt q e n cst=Zp l d w b (zO (fun m i=>F m sg (A+i)) c i m acc).2.2 (zO (fun m i=>F m sg (A+i)) c i m acc).2.1 (.sl 5 (zI (zO (fun m i=>F m sg (A+i)) c i m acc).1)):=by
 intro c
 induction c with
 |zero=>
  intro i m acc hi ha hm
  rw[jl]
  dsimp only[z6,zmS]
  rw[decide_eq_false (by omega)]
  rfl
 |succ c ih=>
  intro i m acc hi ha hm
  rw[jl]
  dsimp only[z6,zmS]
  rw[decide_eq_true (show (i:Int)<Q by omega),zh (x:=A+i) (by omega),zh (x:=dep+1) (by omega)]
  dsimp only[zc]
  rw[hF m sg (A+i) hm]
  by_cases h0:(F m sg (A+i)).2.2=0
  ·rw[WM (F:=fun m (i:Nat)=>F m sg (A+i)) (by exact h0),vC h0]
   dsimp only[ze,zmQ,yD,zg,zmS,zc,zmR,Z0]
   rw[zaW]
   dsimp only[zc]
   rw[yW (by simp;omega) (by simp;omega),zbC,zh (x:=(i:Int)+1) (by omega)]
   exact ih (i+1) _ _ (by omega) (by simp;omega) (hO m sg _ hm).1
  ·rw[WL (F:=fun m (i:Nat)=>F m sg (A+i)) (by exact h0),xZ h0,xZ h0]
   rfl
theorem uQ {l:List (List Int)} {d w b dep:Int} {F:Int->Int->Int->Nd×Int×Int} (hF:CV l d w b (dep+1) F) (hO:∀ m s a,Mt m->Fn (F m s a)) (hdep:0<=dep/\dep<=1099511627776) {o:Ob} (hat:0<=o.at_/\o.at_<=1125899906842624) (hdt:0<=o.data/\o.data<=65535) {A Q:Int} (hA:yZ o=A) (hQ:wK o=Q) (hA':0<=A/\A<=2251799813685248) (hQ':0<=Q/\Q<=536870911) {m:Int} (hm:Mt m):ev 296 [.ptr 0 0,.pv (.agg o.c),.pv (I dep)] [[.pv (.sl 1 (zL l)),.pv (I d),.pv (I w),.pv (I b),.pv (I m)]]=Zp l d w b (zO (fun m i=>F m o.seg (A+i)) Q.toNat 0 m []).2.2 (zO (fun m i=>F m o.seg (A+i)) Q.toNat 0 m []).2.1 (.sl 5 (zI (zO (fun m i=>F m o.seg (A+i)) Q.toNat 0 m []).1)):=by
 have hp:=uD o (by omega)
 rw[hA,hQ] at hp
 rw[Ob.c] at hp ⊢
 rw[zgU,hp]
 dsimp only[ze,zg,zmS,z4,zmR,zmQ]
 exact zgG hF hO hdep hA' hQ' Q.toNat 0 m [] (by omega) rfl hm
theorem zaC {F:Int->Int->Int->Nd×Int×Int} (sg:Int) {A A' Q:Int} {m:Int} (h:0<Q->A' = A):zO (fun m (i:Nat)=>F m sg (A'+i)) (if 0<Q then Q else 0).toNat 0 m []=zO (fun m (i:Nat)=>F m sg (A+i)) Q.toNat 0 m []:=by
 by_cases hQ:0<Q
 ·rw[if_pos hQ,h hQ]
 ·rw[if_neg hQ,show Q.toNat=0 by omega];rfl
theorem vZ {t:List Nd×Int×Int} {f:List Nd->Nd} (h:t.2.2=0):wZ t f=(f t.1,t.2.1,t.2.2):=by
 unfold wZ
 rw[if_pos h]
theorem qC {t:List Nd×Int×Int} {f:List Nd->Nd} (h:t.2.2≠0):wZ t f=(nd0,t.2.1,t.2.2):=by
 unfold wZ
 rw[if_neg h]
theorem uR {l:List (List Int)} (hl:zJ l) {d w b dep:Int} {F:Int->Int->Int->Nd×Int×Int} (hF:CV l d w b (dep+1) F) (hO:∀ m s a,Mt m->Fn (F m s a)) (hdep:0<=dep/\dep<=1099511627776) {o:Ob} (hat:0<=o.at_/\o.at_<=1125899906842624) (hdt:0<=o.data/\o.data<=65535) (hq:0<=o.ptrs/\o.ptrs<=65535) (hk:o.kind=1) {m:Int} (hm:Mt m):ev 273 [.ptr 0 0,.pv (.agg o.c),.pv (I dep)] [[.pv (.sl 1 (zL l)),.pv (I d),.pv (I w),.pv (I b),.pv (I m)]]=Zp l d w b (zQ F l m o).2.2 (zQ F l m o).2.1 (zQ F l m o).1.x:=by
 have e1:=uL hl d w b m o o.at_ o.data (by omega)
 have hA:yZ o=if 0<o.ptrs then o.at_+o.data else 0:=by
  unfold yZ
  by_cases h:0<o.ptrs
  ·rw[if_pos ⟨hk,h⟩,if_pos h]
  ·rw[if_neg (fun x=>h x.2),if_neg (fun x=>absurd x.1 (by omega)),if_neg h]
 have hQ:wK o=if 0<o.ptrs then o.ptrs else 0:=by
  unfold wK
  by_cases h:0<o.ptrs
  ·rw[if_pos ⟨hk,h⟩,if_pos h]
  ·rw[if_neg (fun x=>h x.2),if_neg (fun x=>absurd x.1 (by omega)),if_neg h]
 have e2:=uQ hF hO hdep hat hdt hA hQ (by split<;>omega) (by split<;>omega) hm
 rw[zaC (F:=F) o.seg (A:=o.at_+o.data) (fun h=>if_pos h)] at e2
 rw[Ob.c] at e1 e2 ⊢
 rw[zgV,e1]
 dsimp only[ze,zmQ,yD,zg,zmS,wl,zr,zc,zmR,Z0]
 rw[e2]
 unfold zQ
 generalize hK:zO (fun m (i:Nat)=>F m o.seg (o.at_+o.data+i)) o.ptrs.toNat 0 m []=K
 by_cases h0:K.2.2=0
 ·rw[vC h0,vZ h0]
  dsimp only[ze,zmQ,yD,zg,zmS,wl,zr,zc,zmR,Z0]
  rw[vC h0]
  rfl
 ·rw[xZ h0,qC h0]
  dsimp only[rp,zmQ,yD,zc,zmS,zmR,Z0,zg]
  rw[xZ h0]
theorem zgv {l:List (List Int)} (hl:zJ l) {d w b dep:Int} {F:Int->Int->Int->Nd×Int×Int} (hF:CV l d w b (dep+1) F) (hO:∀ m s a,Mt m->Fn (F m s a)) (hdep:0<=dep/\dep<=1099511627776) {o:Ob} (hat:0<=o.at_/\o.at_<=1099511627776) (hdt:0<=o.data/\o.data<=65535) (hq:0<=o.ptrs/\o.ptrs<=65535) (hn:0<=o.n/\o.n<=536870911):∀ (c i:Nat) (m:Int) (acc:List Nd),i+c=o.n.toNat->acc.length=i->Mt m->
  V4 dep o.n i (.sl 1 (zL l)) (I d) (I w) (I b) (I m) o.kind o.seg o.at_ o.data o.ptrs o.elem o.n o.cost 0 0 0 [] [] 2 o.elem o.n [] (zI acc)=Zp l d w b (zO (fun m (i:Nat)=>zQ F l m (yj o i)) c i m acc).2.2 (zO (fun m (i:Nat)=>zQ F l m (yj o i)) c i m acc).2.1 (.agg [I 2,I o.elem,I o.n,.sl 1 [],.sl 5 (zI (zO (fun m (i:Nat)=>zQ F l m (yj o i)) c i m acc).1)]):=by
 intro c
 induction c with
 |zero=>
  intro i m acc hi ha hm
  rw[jk,decide_eq_false (by omega)]
  rfl
 |succ c ih=>
  intro i m acc hi ha hm
  have hmul:0<=(i:Int)*(o.data+o.ptrs)/\(i:Int)*(o.data+o.ptrs)<=536870911*131070:=QX (by omega) (by omega)
  have hel:=Kt o i (by omega) (by omega) (by omega)
  rw[Ob.c] at hel
  rw[jk,decide_eq_true (by omega),hel]
  dsimp only[ze,zg,zmS,zc]
  rw[uR hl hF hO hdep (o:=yj o i) ⟨by dsimp only[yj];omega,by dsimp only[yj];omega⟩ hdt hq rfl hm]
  have hk:=qh hO l hm (o:=yj o i) hdt.2 hq.2
  by_cases h0:(zQ F l m (yj o i)).2.2=0
  ·rw[WM (F:=fun m (i:Nat)=>zQ F l m (yj o i)) (by exact h0),vC h0]
   dsimp only[ze,zmQ,yD,zg,zmS,zc,zmR,Z0]
   rw[zaW]
   dsimp only[zc]
   rw[yW (by simp;omega) (by simp;omega),zbC,zh (x:=(i:Int)+1) (by omega)]
   exact ih (i+1) _ _ (by omega) (by simp;omega) hk.1
  ·rw[WL (F:=fun m (i:Nat)=>zQ F l m (yj o i)) (by exact h0),xZ h0,xZ h0]
   rfl
theorem zdG {l:List (List Int)} (hl:zJ l) {d w b dep:Int} {F:Int->Int->Int->Nd×Int×Int} (hF:CV l d w b (dep+1) F) (hO:∀ m s a,Mt m->Fn (F m s a)) (hdep:0<=dep/\dep<=1099511627776) {o:Ob} (hok:Za l o) (hk:o.kind=2) {m:Int} (hm:Mt m):ev 274 [.ptr 0 0,.pv (.agg o.c),.pv (I dep)] [[.pv (.sl 1 (zL l)),.pv (I d),.pv (I w),.pv (I b),.pv (I m)]]=Zp l d w b (xo F l m o).2.2 (xo F l m o).2.1 (xo F l m o).1.x:=by
 obtain ⟨hat,hdt,hq,hel,hn,hc,hk',hw,hz⟩:=hok
 unfold xo
 by_cases h6:o.elem<6
 ·have e1:=uL hl d w b m o o.at_ o.cost (by omega)
  rw[Ob.c] at e1 ⊢
  rw[K9,beq_eq_false_iff_ne.2 (show o.elem≠6 by omega),beq_eq_false_iff_ne.2 (show o.elem≠7 by omega),e1,if_pos h6]
  dsimp only[ze,zmQ,yD,zg,zmS,zc,zmR,Z0,zu]
  rw[Vu hel hn (wj _) (VG hn (hw hk h6) h6)]
  rfl
 ·rw[if_neg h6]
  by_cases h7:o.elem=6
  ·have hE:(fun m (i:Nat)=>if o.elem=6 then F m o.seg (o.at_+i) else zQ F l m (yj o i))=fun m (i:Nat)=>F m o.seg (o.at_+i):=by funext m i;rw[if_pos h7]
   rw[hE]
   have hA:yZ o=if 0<o.n then o.at_ else 0:=by
    unfold yZ
    rw[if_neg (fun x=>absurd x.1 (by omega))]
    by_cases h:0<o.n
    ·rw[if_pos ⟨hk,h7,h⟩,if_pos h]
    ·rw[if_neg (fun x=>h x.2.2),if_neg h]
   have hQ:wK o=if 0<o.n then o.n else 0:=by
    unfold wK
    rw[if_neg (fun x=>absurd x.1 (by omega))]
    by_cases h:0<o.n
    ·rw[if_pos ⟨hk,h7,h⟩,if_pos h]
    ·rw[if_neg (fun x=>h x.2.2),if_neg h]
   have e2:=uQ hF hO hdep (o:=o) ⟨hat.1,by omega⟩ hdt hA hQ (by split<;>omega) (by split<;>omega) hm
   rw[zaC (F:=F) o.seg (A:=o.at_) (fun h=>if_pos h)] at e2
   rw[Ob.c] at e2 ⊢
   rw[K9,beq_iff_eq.2 h7,e2]
   generalize hK:zO (fun m (i:Nat)=>F m o.seg (o.at_+i)) o.n.toNat 0 m []=K
   by_cases h0:K.2.2=0
   ·rw[vC h0,vZ h0]
    dsimp only[ze,zmQ,yD,zg,zmS,wl,zr,zc,zmR,Z0]
    rw[vC h0]
    rfl
   ·rw[xZ h0,qC h0]
    dsimp only[rp,zmQ,yD,zc,zmS,zmR,Z0,zg]
    rw[xZ h0]
  ·have hE:(fun m (i:Nat)=>if o.elem=6 then F m o.seg (o.at_+i) else zQ F l m (yj o i))=fun m (i:Nat)=>zQ F l m (yj o i):=by funext m i;rw[if_neg h7]
   rw[hE,Ob.c,K9,beq_eq_false_iff_ne.2 h7,beq_iff_eq.2 (show o.elem=7 by omega)]
   dsimp only[zc,zu]
   refine (zgv hl hF hO hdep hat hdt hq hn o.n.toNat 0 m [] (by omega) rfl hm).trans ?_
   generalize hK:zO (fun m (i:Nat)=>zQ F l m (yj o i)) o.n.toNat 0 m []=K
   by_cases h0:K.2.2=0
   ·rw[vC h0,vZ h0]
    dsimp only
    rw[vC h0]
    rfl
   ·rw[xZ h0,qC h0]
    dsimp only
    rw[xZ h0]
theorem zee {l:List (List Int)} (hl:zJ l) (hs:Sm l) {d w b:Int} (hd:d<=1099511627775):∀ (D:Nat) (dep:Int),0<=dep->dep<=1099511627776->(d+1-dep).toNat=D->CV l d w b dep (zG l D):=by
 intro D
 induction D with
 |zero=>
  intro dep h0 h1 hD m s a hm
  rw[jm,Kv hl]
  dsimp only[WG,ze,zg,zmS,z4,zmR,zmQ]
  by_cases he:(zV l s a).2.2.2=0
  ·rw[Wd he]
   dsimp only[ze,zg,zmS]
   rw[XK]
   dsimp only[ze,zg,zmS,xf]
   by_cases hz:(zV l s a).1=0
   ·rw[beq_iff_eq.2 hz,Ww he hz]
    rfl
   ·rw[beq_eq_false_iff_ne.2 hz,Vq,if_pos (show dep>d by omega),K7 he hz]
    dsimp only[ze,zg,zmS,zu]
    rw[We (by decide)]
    rfl
  ·rw[We he,Xl he,xZ he]
   rfl
 |succ D ih=>
  intro dep h0 h1 hD m s a hm
  have hF:=ih (dep+1) (by omega) (by omega) (by omega)
  have hO:=jh hl hs D
  rw[jm,Kv hl]
  dsimp only[WG,ze,zg,zmS,z4,zmR,zmQ]
  by_cases he:(zV l s a).2.2.2=0
  ·rw[Wd he]
   dsimp only[ze,zg,zmS]
   rw[XK]
   dsimp only[ze,zg,zmS,xf]
   by_cases hz:(zV l s a).1=0
   ·rw[beq_iff_eq.2 hz,Ww he hz]
    rfl
   ·have hok:=XD hl hs hz he
    rw[beq_eq_false_iff_ne.2 hz,Vq,if_neg (show ¬dep>d by omega),K8 he hz]
    dsimp only[ze,zg,zmS,zu]
    rw[Wd rfl,Ky hl hs]
    generalize yn l s a=t at hok ⊢
    dsimp only[xL,Ob.c,ze,zg,zmS,z4,zmR,zmQ,xA,yM,zr,z6,zc]
    unfold xu
    by_cases hf:t.2=0
    ·have hok:=hok hf
     obtain ⟨hat,hdt,hq,hel,hn,hc,hk,hw,hz'⟩:=id hok
     obtain ⟨o,f⟩:=t
     dsimp only at hf hok hat hdt hq hel hn hc hk hw hz' ⊢
     rw[Wd hf,if_pos hf]
     dsimp only[ze,zg,zmS]
     rw[uv m o.cost (by unfold Mt at hm;omega)]
     dsimp only[ze,zg,zmS,z4,zmR,zmQ,xA,yM,zr,zc]
     by_cases h8:o.cost>m
     ·rw[if_pos h8,if_pos h8,if_pos h8,We (by decide)]
      rfl
     ·have hm':Mt (m-o.cost):=⟨by unfold Mt at hm;omega,by unfold Mt at hm;omega⟩
      rw[if_neg h8,if_neg h8,if_neg h8,Wd rfl]
      dsimp only[ze,zg,zmS]
      by_cases hk1:o.kind=1
      ·rw[beq_iff_eq.2 hk1,if_pos hk1]
       dsimp only[zc]
       have:=uR hl hF hO ⟨h0,by omega⟩ (o:=o) ⟨hat.1,by omega⟩ hdt hq hk1 hm'
       rw[Ob.c] at this
       rw[this]
       generalize zQ (zG l D) l (m-o.cost) o=K
       by_cases h9:K.2.2=0
       ·rw[vC h9];rfl
       ·rw[xZ h9];rfl
      ·have hk2:o.kind=2:=by omega
       rw[beq_eq_false_iff_ne.2 hk1,if_neg hk1]
       dsimp only[zu]
       have:=zdG hl hF hO ⟨h0,by omega⟩ hok hk2 hm'
       rw[Ob.c] at this
       rw[this]
       generalize xo (zG l D) l (m-o.cost) o=K
       by_cases h9:K.2.2=0
       ·rw[vC h9];rfl
       ·rw[xZ h9];rfl
    ·rw[if_neg hf,We hf,xZ hf]
     rfl
  ·rw[We he,Xl he,xZ he]
   rfl
def Xp (l:List (List Int)):Prop:=0<l.length/\(yw l 0).length=0
instance (l:List (List Int)):Decidable (Xp l):=by unfold Xp;infer_instance
def runT (l:List (List Int)) (d w:Int):Nd×Int×Int:=if Xp l then (nd0,max w 0,0) else zG l d.toNat (max w 0) 0 0
def yY (l:List (List Int)) (d w:Int):Nd:=if (runT l d w).2.2=0 then zi (runT l d w).1 else nd0
def yJ (l:List (List Int)) (d w:Int):Int:=(runT l d w).2.2
def vQ (l:List (List Int)) (d w:Int):Int:=if (runT l d w).2.2=0 then max w 0-(runT l d w).2.1 else 0
theorem zgr (a:PV):decide ((PV.agg [a]).cells.length=1)=true:=rfl
theorem Yn:zi nd0=nd0:=rfl
theorem QS {l:List (List Int)} (hl:zJ l) (hs:Sm l) {d w:Int} (hw:w<=4611686018427387904):Fn (runT l d w):=by
 have hm:Mt (max w 0):=⟨by omega,by omega⟩
 unfold runT
 split
 ·exact ⟨hm,Zi⟩
 ·exact jh hl hs _ _ _ _ hm
theorem zb4 {l:List (List Int)} (h:0<l.length):(zL l)[0]? = some (.sl 1 (ws (yw l 0))):=by
 have:=XR (l:=l) (i:=0) (by omega) (by omega)
 exact this
def YN (t:Nd×Int×Int):PV:=.tup [if t.2.2=0 then t.1.x else nd0.x,.agg [if t.2.2=0 then I t.2.1 else I 0],I t.2.2]
theorem zaV:nd0.x=.agg [I 0,I 0,I 0,.sl 1 [],.sl 5 []]:=rfl
theorem gg {l:List (List Int)} (hl:zJ l) (hs:Sm l) {d w b:Int} (hd:d<=1099511627775) (hw:w<=4611686018427387904):ev 178 [.pv (.sl 1 (zL l)),.pv (.agg [I d,I w,I b])] []=ok (YN (runT l d w)):=by
 have hm:Mt (max w 0):=⟨by omega,by omega⟩
 have hv:=zee hl hs (d:=d) (w:=w) (b:=b) hd d.toNat 1 (by omega) (by omega) (by omega) (max w 0) 0 0 hm
 rw[zgW,Vt]
 dsimp only[ze,zg,zmS]
 rw[zgr]
 dsimp only[xA,zmQ,zmS,yM,zr,zc]
 by_cases h0:0<l.length
 ·rw[decide_eq_true (show ((zL l).length:Int)>0 by rw[W4];omega),zb4 h0]
  dsimp only[zmS,Zd,zmQ,yC,zc]
  by_cases he:(yw l 0).length=0
  ·rw[yl,he,show (((0:Nat):Int)==0)=true from rfl]
   dsimp only[zc]
   rw[runT,if_pos ⟨h0,he⟩]
   rfl
  ·rw[yl,beq_eq_false_iff_ne.2 (show ((yw l 0).length:Int)≠0 by omega)]
   dsimp only[zu]
   rw[hv,runT,if_neg (fun h=>he h.2)]
   generalize zG l d.toNat (max w 0) 0 0=K
   by_cases h9:K.2.2=0
   ·rw[vC h9,YN,if_pos h9,if_pos h9,h9];rfl
   ·rw[xZ h9,YN,if_neg h9,if_neg h9];rfl
 ·rw[decide_eq_false (show ¬((zL l).length:Int)>0 by rw[W4];omega)]
  dsimp only[zu]
  rw[hv,runT,if_neg (fun h=>h0 h.1)]
  generalize zG l d.toNat (max w 0) 0 0=K
  by_cases h9:K.2.2=0
  ·rw[vC h9,YN,if_pos h9,if_pos h9,h9];rfl
  ·rw[xZ h9,YN,if_neg h9,if_neg h9];rfl
theorem QM (x:Nd):x.pv=x.x:=by cases x;rfl
theorem Kx {l:List (List Int)} (hl:zJ l) (hs:Sm l) {d w b:Int} (hd:d<=1099511627775) (hw:w<=4611686018427387904):ev 176 [.pv (.sl 1 (zL l)),.pv (.agg [I d,I w,I b])] []=ok (.tup [(yY l d w).x,I (yJ l d w)]):=by
 have hr:=QS hl hs (d:=d) hw
 rw[zgS,gg hl hs hd hw]
 unfold yY yJ
 generalize runT l d w=K at hr
 unfold YN
 by_cases h9:K.2.2=0
 ·rw[if_pos h9,if_pos h9,if_pos h9]
  have ht:=gi K.1 hr.2
  rw[QM,QM] at ht
  dsimp only[Nd.x,ze,zg,zmS,z4,zmR,zmQ,xA,yM,zr,zc,wl] at ht ⊢
  rw[ht]
  rfl
 ·rw[if_neg h9,if_neg h9,if_neg h9]
  have ht:=gi nd0 Zi
  rw[Yn,QM] at ht
  rw[zaV] at ht ⊢
  dsimp only[ze,zg,zmS,z4,zmR,zmQ,xA,yM,zr,zc,wl]
  rw[ht]
  rfl
theorem Kw {l:List (List Int)} (hl:zJ l) (hs:Sm l) {d w b:Int} (hd:d<=1099511627775) (hw:w<=4611686018427387904):ev 110 [.pv (.sl 1 (zL l)),.pv (.agg [I d,I w,I b])] []=ok (.tup [I (vQ l d w),I (yJ l d w)]):=by
 have hr:=QS hl hs (d:=d) hw
 rw[zgR,gg hl hs hd hw]
 unfold vQ yJ
 generalize runT l d w=K at hr
 have hm:=hr.1
 unfold Mt at hm
 unfold YN
 by_cases h9:K.2.2=0
 ·rw[if_pos h9,if_pos h9,if_pos h9,h9]
  dsimp only[Nd.x,ze,zg,zmS,z4,zmR,zmQ,z6,xA,yM,zr,zc,wl]
  rw[show ((0:Int) != 0)=false from rfl,zft,Vt]
  dsimp only[zmU,ze,zg,zmS,zjl,zmQ,z6,zu]
  rw[zh (by omega)]
  rfl
 ·rw[if_neg h9,if_neg h9,if_neg h9,zaV]
  dsimp only[ze,zg,zmS,z4,zmR,zmQ,z6,xA,yM,zr,zc,wl]
  rw[wi h9]
  rfl
theorem zb1 {d:List Int} (hd:d.length<=17592186044416):∀ (c i:Nat),i+c=d.length->Xe (bs d) (bs d) i=ok (Bo true):=by
 intro c
 induction c with
 |zero=>intro i hi;rw[VQ,decide_eq_false (by simp;omega)];rfl
 |succ c ih=>
  intro i hi
  rw[VQ,decide_eq_true (show (i:Int)<((bs d).length:Int) by simp;omega),decide_eq_true (show 0<=(i:Int) by omega)]
  dsimp only[zr,zc]
  rw[Int.toNat_natCast,Yv (by omega)]
  dsimp only[zmS,ym,zmQ,ZH]
  rw[show (d[i] != d[i])=false from by simp,zh (x:=(i:Int)+1) (by omega)]
  exact ih (i+1) (by omega)
theorem zhd {l:List Nd} (hl:l.length<=1073741824) (hv:∀ x∈l,ev 134 [.pv x.pv,.pv x.pv] []=ok (Bo true)) (a b c a' b' c':Int) (x y:List PV):∀ (c0 i:Nat),i+c0=l.length->VS i a b c x (zI l) a' b' c' y (zI l)=ok (Bo true):=by
 intro c0
 induction c0 with
 |zero=>intro i hi;rw[rM,decide_eq_false (by simp;omega)];rfl
 |succ c0 ih=>
  intro i hi
  have hil:i<l.length:=by omega
  rw[rM,decide_eq_true (show (i:Int)<((zI l).length:Int) by simp;omega),decide_eq_true (show 0<=(i:Int) by omega)]
  dsimp only[zr,zc]
  rw[Int.toNat_natCast,vU hil]
  dsimp only[zmS]
  rw[ZE,zaX,hv _ (List.getElem_mem hil),zh (x:=(i:Int)+1) (by omega)]
  exact ih (i+1) (by omega)
theorem zdk (x:Nd):yt x->ev 134 [.pv x.pv,.pv x.pv] []=ok (Bo true):=by
 induction x using Nd.ind with
 |h k e n d ks ih=>
  intro hg
  rw[yt,goods_iff] at hg
  obtain ⟨⟨hd,hb,hk,h8⟩,hks⟩:=hg
  rw[Nd.pv,zgd,show (k != k)=false from by simp,show (e != e)=false from by simp,show (n != n)=false from by simp,KW,show (((bs d).length:Int) != ((bs d).length:Int))=false from by simp]
  dsimp only[zu]
  have hsm:Xe (bs d) (bs d) 0=ok (Bo true):=zb1 hd d.length 0 (by omega)
  rw[hsm,show (((zI ks).length:Int) != ((zI ks).length:Int))=false from by simp]
  dsimp only[zu,ze,zg,zmS,xf,vv]
  exact zhd hk (fun x hx=>ih x hx (hks x hx)) k e n k e n (bs d) (bs d) ks.length 0 (by omega)
theorem uz {x:Nd} (h:yt x):ev 134 [.pv x.x,.pv x.x] []=ok (Bo true):=by
 have:=zdk x h
 rwa [QM] at this
theorem zhV (x:Nd):yt x->yt (zi x):=by
 induction x using Nd.ind with
 |h k e n d ks ih=>
  intro hg
  rw[yt,goods_iff] at hg
  obtain ⟨⟨hd,hb,hk,h8⟩,hks⟩:=hg
  rw[zi,xb]
  by_cases h1:k=1
  ·rw[if_pos h1,yt,goods_iff]
   have h88:=h8 h1
   refine ⟨⟨by rw[List.length_take];omega,fun b hx=>hb b (List.mem_of_mem_take hx),by rw[List.length_take,List.length_map];omega,fun _=>?_⟩,?_⟩
   ·rw[List.length_take]
    have:=vg (·==0) d
    unfold yq
    omega
   ·intro y hy
    obtain ⟨x,hx,rfl⟩:=List.mem_map.1 (List.mem_of_mem_take hy)
    exact ih x hx (hks x hx)
  ·rw[if_neg h1,yt,goods_iff]
   refine ⟨⟨hd,hb,by rw[List.length_map];omega,fun h=>absurd h h1⟩,?_⟩
   intro y hy
   obtain ⟨x,hx,rfl⟩:=List.mem_map.1 hy
   exact ih x hx (hks x hx)
theorem zhA {l:List (List Int)} (hl:zJ l):∀ (c i:Nat),i+c=l.length->(∀ j,j<i->(yw l j).length<=300)->∃ bl:Bool,Wq (zL l) i=ok (Bo bl)/\(bl=true->l.length<=20/\∀ j:Nat,j<l.length->(yw l j).length<=300):=by
 intro c
 induction c with
 |zero=>
  intro i hi hj
  refine ⟨decide (((zL l).length:Int)<=20),?_,?_⟩
  ·rw[KX,decide_eq_false (by simp;omega)];rfl
  ·intro h
   have:=of_decide_eq_true h
   simp at this
   exact ⟨by omega,fun j h=>hj j (by omega)⟩
 |succ c ih=>
  intro i hi hj
  have hil:i<l.length:=by omega
  have hb:=hl.1
  by_cases h3:(yw l (i:Int)).length<=300
  ·obtain ⟨bl,e,hbl⟩:=ih (i+1) (by omega) fun j hjj=>by
    rcases Nat.lt_or_ge j i with h|h
    ·exact hj j h
    ·rw[show j=i by omega];exact h3
   refine ⟨bl,?_,hbl⟩
   rw[KX,decide_eq_true (show (i:Int)<((zL l).length:Int) by simp;omega),decide_eq_true (show 0<=(i:Int) by omega),XR (by omega) (by omega)]
   dsimp only[zr,zmS,Zd,zmQ,yC,zc]
   rw[decide_eq_false (by simp;omega),zh (x:=(i:Int)+1) (by omega)]
   exact e
  ·refine ⟨false,?_,fun h=>absurd h (by decide)⟩
   rw[KX,decide_eq_true (show (i:Int)<((zL l).length:Int) by simp;omega),decide_eq_true (show 0<=(i:Int) by omega),XR (by omega) (by omega)]
   dsimp only[zr,zmS,Zd,zmQ,yC,zc]
   rw[decide_eq_true (by simp;omega)]
   rfl
theorem zdw {l:List (List Int)} (hl:zJ l) (d w b:Int):∃ bl:Bool,ev 53 [.pv (.sl 1 (zL l)),.pv (.agg [I d,I w,I b])] []=ok (Bo bl)/\(bl=true->d<=40/\w<=2000/\l.length<=20/\∀ j:Nat,j<l.length->(yw l j).length<=300):=by
 obtain ⟨bl,e,hb⟩:=zhA hl l.length 0 (by omega) (fun j h=>absurd h (by omega))
 by_cases h1:d<=40
 ·by_cases h2:w<=2000
  ·refine ⟨bl,?_,fun h=>⟨h1,h2,hb h⟩⟩
   have e':Wq (zL l) 0=ok (Bo bl):=e
   rw[KY,decide_eq_true h1,decide_eq_true h2,zf9,e']
   rfl
  ·refine ⟨false,?_,fun h=>absurd h (by decide)⟩
   rw[KY,decide_eq_true h1,decide_eq_false h2]
   rfl
 ·refine ⟨false,?_,fun h=>absurd h (by decide)⟩
  rw[KY,decide_eq_false h1]
  rfl
theorem zb8 {l:List (List Int)} (h:∀ j:Nat,j<l.length->(yw l j).length<=300):Sm l:=by
 intro s
 unfold yw
 rcases Nat.lt_or_ge s.toNat l.length with h1|h1
 ·have:=h s.toNat h1
  unfold yw at this
  rw[Int.toNat_natCast] at this
  omega
 ·rw[List.getD_eq_getElem?_getD,List.getElem?_eq_none h1]
  simp
theorem zdt {d:List Int} (hd:d.length<=17592186044416):ev 27 [.pv (.sl 1 (bs d)),.pv (.sl 1 (bs d))] []=ok (Bo true):=by
 rw[KW,show (((bs d).length:Int) != ((bs d).length:Int))=false from by simp]
 exact zb1 hd d.length 0 (by omega)
theorem vA {s:List Int} (h:s.length<=300) (hw:∀ x∈s,zH x):zJ [s]/\Sm [s]:=by
 refine ⟨⟨by simp,fun t ht=>?_⟩,zb8 fun j hj=>?_⟩
 ·rw[List.mem_singleton.1 ht];exact ⟨by omega,hw⟩
 ·rw[show j=0 by simp at hj;omega];exact h
theorem sA:zJ [[281483566645248,7,0,107374182401,255]]/\Sm [[281483566645248,7,0,107374182401,255]]:=vA (by decide) (by intro x hx;simp at hx;unfold zH;omega)
theorem mA:ev 176 [.pv (.sl 1 [.sl 1 [U 281483566645248,U 7,U 0,U 107374182401,U 255]]),.pv (.agg [I 3,I 20,I 0])] []=ok (.tup [.agg [I 1,I 0,I 0,.sl 1 (bs [7,0,0,0,0,0,0,0]),.sl 5 [.agg [I 2,I 1,I 3,.sl 1 (bs [7]),.sl 5 []]]],I 0]):=by
 have h:=Kx sA.1 sA.2 (d:=3) (w:=20) (b:=0) (by decide) (by decide)
 have e:ok (.tup [(yY [[281483566645248,7,0,107374182401,255]] 3 20).x,I (yJ [[281483566645248,7,0,107374182401,255]] 3 20)])=ok (.tup [.agg [I 1,I 0,I 0,.sl 1 (bs [7,0,0,0,0,0,0,0]),.sl 5 [.agg [I 2,I 1,I 3,.sl 1 (bs [7]),.sl 5 []]]],I 0]):=by kernel_rfl
 exact h.trans e
theorem zmi (x:Value):(decide ((PV.v x).cells.length=1)&&(PV.v x).cells.all PV.isCell)=true:=rfl
theorem q0:ev 134 [.pv (.agg [I 0,I 0,I 0,.sl 1 [],.sl 5 []]),.pv (.agg [I 0,I 0,I 0,.sl 1 [],.sl 5 []])] []=ok (Bo true):=uz Zi
theorem zhU:yt (.mk 2 1 3 [7] []):=by rw[yt];exact ⟨⟨by simp,by intro b hb;simp at hb;unfold zm;omega,by simp,fun h=>absurd h (by decide)⟩,trivial⟩
theorem q1:ev 134 [.pv (.agg [I 2,I 1,I 3,.sl 1 (bs [7]),.sl 5 []]),.pv (.agg [I 2,I 1,I 3,.sl 1 [U8 7],.sl 5 []])] []=ok (Bo true):=uz zhU
theorem q2:ev 27 [.pv (.sl 1 (bs [7,0,0,0,0,0,0,0])),.pv (.sl 1 [U8 7,U8 0,U8 0,U8 0,U8 0,U8 0,U8 0,U8 0])] []=ok (Bo true):=zdt (by decide)
theorem zik {α:Type} {p:α->Bool} {l:List α}:yN p (l.take (yN p l))=yN p l:=by
 induction hn:l.length generalizing l with
 |zero=>have:=List.length_eq_zero_iff.1 hn;subst this;rfl
 |succ n ih=>
  rcases List.eq_nil_or_concat l with rfl|⟨l',x,rfl⟩
  ·rfl
  ·rw[List.concat_eq_append] at hn ⊢
   have hl:l'.length=n:=by simpa using hn
   rw[xX]
   have hle:=vg p l'
   split
   ·rw[List.take_append_of_le_length hle]
    exact ih hl
   ·rename_i hp
    rw[show (l'++[x]).take (l'.length+1)=l'++[x] from List.take_of_length_le (by simp),xX,if_neg hp]
theorem zmt {d:List Int} (h8:d.length%8=0):(d.take (8*yq d)).length=8*yq d/\yq (d.take (8*yq d))=yq d:=by
 have hle:=vg (·==0) d
 have h1:(d.take (8*yq d)).length=8*yq d:=by
  rw[List.length_take]
  unfold yq
  omega
 refine ⟨h1,?_⟩
 have h2:8*yq d<=d.length:=by unfold yq;omega
 have hk:yN (·==0) (d.take (8*yq d))=yN (·==0) d:=by
  have hge:yN (·==0) d<=8*yq d:=by unfold yq;omega
  have mono:∀ (j:Nat),yN (·==0) d<=j->j<=d.length->yN (·==0) (d.take j)=yN (·==0) d:=by
   intro j hj hjd
   induction hm:d.length-j generalizing j with
   |zero=>rw[List.take_of_length_le (by omega)]
   |succ m ih=>
    have hjl:j<d.length:=by omega
    have:=ih (j+1) (by omega) (by omega) (by omega)
    rw[ZP hjl,xX] at this
    split at this
    ·exact this
    ·rw[List.length_take] at this
     omega
  exact mono _ hge (by omega)
 unfold yq at hk ⊢
 rw[hk]
theorem zj3 (ks:List Nd):yf (ks.take (yf ks))=yf ks/\(ks.take (yf ks)).length=yf ks:=⟨zik,by rw[List.length_take];have:=vg (fun x:Nd=>x.kind==0) ks;unfold yf;omega⟩
theorem Yo (x:Nd):(zi x).kind=x.kind:=by
 cases x with
 |mk k e n d ks=>rw[zi];split<;>rfl
theorem QJ (ks:List Nd):yf (vp ks)=yf ks:=by
 rw[xb]
 unfold yf
 induction hn:ks.length generalizing ks with
 |zero=>have:=List.length_eq_zero_iff.1 hn;subst this;rfl
 |succ n ih=>
  rcases List.eq_nil_or_concat ks with rfl|⟨l',x,rfl⟩
  ·rfl
  ·rw[List.concat_eq_append] at hn ⊢
   rw[List.map_append,List.map_singleton,xX,xX,Yo,ih l' (by simpa using hn),List.length_map]
inductive TrN:Nd->Prop
 |mk {k e n:Int} {d:List Int} {ks:List Nd}:(k=1->8*yq d=d.length/\yf ks=ks.length)->(∀ x∈ks,TrN x)->TrN (.mk k e n d ks)
theorem zlt (x:Nd):yt x->TrN (zi x):=by
 induction x using Nd.ind with
 |h k e n d ks ih=>
  intro hg
  rw[yt,goods_iff] at hg
  obtain ⟨⟨hd,hb,hk,h8⟩,hks⟩:=hg
  rw[zi]
  by_cases h1:k=1
  ·rw[if_pos h1]
   refine .mk (fun _=>?_) fun y hy=>?_
   ·obtain ⟨a1,a2⟩:=zmt (h8 h1)
    have:=zj3 (vp ks)
    rw[QJ] at this
    exact ⟨by rw[a1,a2],by rw[this.1,this.2]⟩
   ·have:=List.mem_of_mem_take hy
    rw[xb] at this
    obtain ⟨x,hx,rfl⟩:=List.mem_map.1 this
    exact ih x hx (hks x hx)
  ·rw[if_neg h1]
   refine .mk (fun h=>absurd h h1) fun y hy=>?_
   rw[xb] at hy
   obtain ⟨x,hx,rfl⟩:=List.mem_map.1 hy
   exact ih x hx (hks x hx)
def z9 (x:Nd):List Nd:=if x.kind=2/\x.elem=7 then x.kids.flatMap Nd.kids else x.kids
def Dp:Nat->Nd->Prop
 |0,x=>x.kind=0
 |D+1,x=>x.kind=0∨((z9 x).length<=1073741824/\∀ y∈z9 x,Dp D y)
theorem zg4 {D:Nat} {x:Nd} (h:x.kind=0):Dp D x:=by
 cases D with
 |zero=>exact h
 |succ D=>exact .inl h
def Kr (k e n:Int) (d:List Int) (q:Nat):Prop :=
 (k=0/\e=0/\n=0/\d.length=0/\q=0)∨(k=1/\e=0/\n=0/\d.length%8=0/\d.length<=524280/\q<=65535)∨
 (k=2/\(0<=n/\n<=536870911)/\(0<=e/\e<=7)/\(6<=e->d.length=0/\(q:Int)=n)/\(e<6->q=0/\(d.length:Int)=z5 e n/\trimB e n d=d))
inductive VN:Nd->Prop
 |mk {k e n:Int} {d:List Int} {ks:List Nd}:(∀ x∈ks,VN x)->(k=2->e=7->∀ x∈ks,x.kind=1)->Kr k e n d ks.length->VN (.mk k e n d ks)
theorem XX:VN nd0:=.mk (fun x h=>by cases h) (fun _ _ x h=>by cases h) (.inl ⟨rfl,rfl,rfl,rfl,rfl⟩)
theorem zaE {G:Int->Nat->Nd×Int×Int} {Q:Nd->Prop} (h:∀ m i,(G m i).2.2=0->Q (G m i).1):∀ c i m acc,(∀ x∈acc,Q x)->∀ x∈(zO G c i m acc).1,Q x:=by
 intro c
 induction c with
 |zero=>intro i m acc ha;exact ha
 |succ c ih=>
  intro i m acc ha
  by_cases h0:(G m i).2.2=0
  ·rw[WM h0]
   refine ih _ _ _ fun x hx=>?_
   rcases List.mem_append.1 hx with h1|h1
   ·exact ha x h1
   ·rw[List.mem_singleton.1 h1];exact h m i h0
  ·rw[WL h0]
   exact fun x hx=>by cases hx
theorem zaF {G:Int->Nat->Nd×Int×Int}:∀ c i m acc,(zO G c i m acc).2.2=0->(zO G c i m acc).1.length=acc.length+c:=by
 intro c
 induction c with
 |zero=>intro i m acc _;rfl
 |succ c ih=>
  intro i m acc hz
  by_cases h0:(G m i).2.2=0
  ·rw[WM h0] at hz ⊢
   rw[ih _ _ _ hz]
   simp
   omega
  ·rw[WL h0] at hz
   exact absurd hz h0
def Vo (D:Nat) (F:Int->Int->Int->Nd×Int×Int):Prop:=∀ m s a,(F m s a).2.2=0->VN (F m s a).1/\Dp D (F m s a).1
theorem Q0 {D:Nat} {F:Int->Int->Int->Nd×Int×Int} (h:Vo D F) (l:List (List Int)) (m:Int) {o:Ob} (hd:o.data<=65535) (hq:0<=o.ptrs/\o.ptrs<=65535) (hz:(zQ F l m o).2.2=0):VN (zQ F l m o).1/\(zQ F l m o).1.kind=1/\(zQ F l m o).1.kids.length=o.ptrs.toNat/\∀ y∈(zQ F l m o).1.kids,Dp D y:=by
 unfold zQ at hz ⊢
 have hz':(zO (fun m (i:Nat)=>F m o.seg (o.at_+o.data+i)) o.ptrs.toNat 0 m []).2.2=0:=hz
 have ha:=zaE (G:=fun m (i:Nat)=>F m o.seg (o.at_+o.data+i)) (Q:=fun x=>VN x/\Dp D x) (fun m i h0=>h m _ _ h0) o.ptrs.toNat 0 m [] (fun x hx=>by cases hx)
 have hl:=zaF (G:=fun m (i:Nat)=>F m o.seg (o.at_+o.data+i)) o.ptrs.toNat 0 m [] hz'
 rw[vZ hz']
 generalize zO (fun m (i:Nat)=>F m o.seg (o.at_+o.data+i)) o.ptrs.toNat 0 m []=K at ha hl
 have hcl:=Zh l o.seg o.at_ o.data
 refine ⟨.mk (fun x hx=>(ha x hx).1) (fun h2=>absurd h2 (by decide)) (.inr (.inl ⟨rfl,rfl,rfl,gY l _ _ _,?_,?_⟩)),rfl,?_,fun y hy=>(ha y hy).2⟩
 ·rw[xc];omega
 ·simp at hl;omega
 ·show K.1.length=_
  simpa using hl
theorem zla {D:Nat} {F:Int->Int->Int->Nd×Int×Int} (h:Vo D F) (l:List (List Int)) (m:Int) {o:Ob} (hd:o.data<=65535) (hq:0<=o.ptrs/\o.ptrs<=65535) (hz:(zQ F l m o).2.2=0):VN (zQ F l m o).1/\Dp (D+1) (zQ F l m o).1:=by
 obtain ⟨a1,a2,a3,a4⟩:=Q0 h l m hd hq hz
 refine ⟨a1,.inr ?_⟩
 have:z9 (zQ F l m o).1=(zQ F l m o).1.kids:=by unfold z9;rw[if_neg (fun x=>by rw[a2] at x;exact absurd x.1 (by decide))]
 rw[this]
 exact ⟨by rw[a3];omega,a4⟩
theorem zcD {e c:Int} {b:List Int} (hc:0<=c/\c<=536870911) (hn:z5 e c<=b.length):((trimB e c b).length:Int)=z5 e c/\trimB e c (trimB e c b)=trimB e c b:=by
 have hr:=g8 (e:=e) hc
 unfold trimB
 by_cases h1:e=1/\0<c%8
 ·simp only[if_pos h1]
  have hb1:1<=z5 e c:=by
   obtain ⟨rfl,h8⟩:=h1
   have hbn:z5 1 c=(c+7)/8:=by unfold z5 bitsOf;simp
   omega
  have hlen:(b.take (z5 e c-1).toNat).length=(z5 e c-1).toNat:=by rw[List.length_take];omega
  refine ⟨by rw[zmT,hlen];simp;omega,?_⟩
  rw[List.take_append_of_le_length (by omega),List.take_of_length_le (by omega)]
  congr 2
  have:rd (b.take (z5 e c-1).toNat++[rd b (z5 e c-1)%2^(c%8).toNat]) (z5 e c-1)=rd b (z5 e c-1)%2^(c%8).toNat:=by
   conv=>lhs;unfold rd
   rw[List.getD_eq_getElem?_getD,List.getElem?_append_right (by omega),hlen,Nat.sub_self]
   rfl
  rw[this,Int.emod_emod_of_dvd _ (Int.dvd_refl _)]
 ·simp only[if_neg h1]
  refine ⟨by rw[List.length_take];omega,?_⟩
  rw[List.take_take,Nat.min_self]
theorem zi1 {l:List (List Int)} {s st c:Int} (h:(wn l s st c).2=0):(wn l s st c).1.n*(wn l s st c).1.ptrs<=c∨(wn l s st c).1.data<0∨(wn l s st c).1.n<0:=by
 unfold wn at h ⊢
 by_cases hb:inB l s st (c+1)
 ·rw[if_pos hb] at h ⊢
  generalize zv (wd l s st)=p at h ⊢
  by_cases hk:p.1=0/\0<=p.2.1/\p.2.1*(p.2.2.1+p.2.2.2.1)<=c
  ·rw[if_pos hk]
   dsimp only
   by_cases h0:p.2.2.1<0
   ·exact .inr (.inl h0)
   ·refine .inl ?_
    have:p.2.1*p.2.2.2.1<=p.2.1*(p.2.2.1+p.2.2.2.1):=Int.mul_le_mul_of_nonneg_left (by omega) hk.2.1
    omega
  ·rw[if_neg hk] at h
   exact xR h (by decide)
 ·rw[if_neg hb] at h
  exact xR h (by decide)
def Np (o:Ob):Prop:=o.kind=2->o.elem=7->o.n*o.ptrs<=536870911
theorem za1 {l:List (List Int)} (hl:zJ l) (hs:Sm l) {s a:Int} (h0:(zV l s a).1≠0) (he:(zV l s a).2.2.2=0) (h:(yn l s a).2=0):Np (yn l s a).1:=by
 have hok:=XD hl hs h0 he h
 obtain ⟨_,hdt,_,_,hn,_⟩:=hok
 have hd:=vO (Qi hl s a)
 unfold yn at h hdt hn ⊢
 rw[if_pos he,if_neg h0] at h hdt hn ⊢
 unfold wQ at h hdt hn ⊢
 generalize zv (zV l s a).1=p at h hdt hn hd ⊢
 by_cases k0:p.1=0
 ·rw[if_pos k0] at h hdt hn ⊢
  intro k2
  unfold wG at k2
  split at k2<;>first|exact absurd k2 (show ¬((1:Int)=2) by decide)|exact absurd k2 (show ¬((0:Int)=2) by decide)
 ·rw[if_neg k0] at h hdt hn ⊢
  by_cases k1:p.1=1
  ·rw[if_pos k1] at h hdt hn ⊢
   unfold xY at h hdt hn ⊢
   by_cases h7:p.2.2.2.2.1=7
   ·rw[if_pos h7] at h hdt hn ⊢
    intro _ _
    have:=zi1 h
    omega
   ·rw[if_neg h7] at h ⊢
    split
    ·exact fun _ h=>absurd h h7
    ·rename_i hb
     rw[if_neg hb] at h
     exact xR h (by decide)
  ·rw[if_neg k1] at h
   split at h
   ·exact xR h (by decide)
   ·exact xR h (by decide)
theorem zhB {l:List Nd} {q:Nat} (h:∀ x∈l,x.kids.length=q):(l.flatMap Nd.kids).length=l.length*q:=by
 induction l with
 |nil=>simp
 |cons x l ih=>
  rw[List.flatMap_cons,zmT,ih (fun y hy=>h y (List.mem_cons_of_mem _ hy)),h x List.mem_cons_self,zmU,Nat.succ_mul]
  omega
theorem zgO {D:Nat} {F:Int->Int->Int->Nd×Int×Int} (h:Vo D F) (l:List (List Int)) (m:Int) {o:Ob} (ho:Za l o) (hp:Np o) (hk:o.kind=2) (hz:(xo F l m o).2.2=0):VN (xo F l m o).1/\Dp (D+1) (xo F l m o).1:=by
 obtain ⟨hat,hd,hq,he,hn,hc,_,hw,_⟩:=ho
 unfold xo at hz ⊢
 by_cases h6:o.elem<6
 ·rw[if_pos h6]
  have ht:=zcD hn (VG hn (hw hk h6) h6)
  refine ⟨.mk (fun x hx=>by cases hx) (fun _ _ x hx=>by cases hx) (.inr (.inr ⟨rfl,hn,he,fun h=>absurd h (by omega),fun _=>⟨rfl,ht.1,ht.2⟩⟩)),.inr ?_⟩
  have:z9 (.mk 2 o.elem o.n (trimB o.elem o.n (zA (cutB l o.seg o.at_ o.cost))) [])=[]:=by unfold z9;split<;>rfl
  rw[this]
  exact ⟨by simp,fun y hy=>by cases hy⟩
 ·rw[if_neg h6] at hz ⊢
  have hz':(zO (fun m (i:Nat)=>if o.elem=6 then F m o.seg (o.at_+i) else zQ F l m (yj o i)) o.n.toNat 0 m []).2.2=0:=hz
  have ha:=zaE (G:=fun m (i:Nat)=>if o.elem=6 then F m o.seg (o.at_+i) else zQ F l m (yj o i)) (Q:=fun x=>VN x/\(o.elem=6->Dp D x)/\(o.elem≠6->x.kind=1/\x.kids.length=o.ptrs.toNat/\∀ y∈x.kids,Dp D y)) (fun m i h0=>by
   by_cases h7:o.elem=6
   ·simp only[if_pos h7] at h0 ⊢
    obtain ⟨b1,b2⟩:=h m _ _ h0
    exact ⟨b1,fun _=>b2,fun h=>absurd h7 h⟩
   ·simp only[if_neg h7] at h0 ⊢
    obtain ⟨b1,b2,b3,b4⟩:=Q0 h l m (o:=yj o i) hd.2 hq h0
    exact ⟨b1,fun h=>absurd h h7,fun _=>⟨b2,b3,b4⟩⟩) o.n.toNat 0 m [] (fun x hx=>by cases hx)
  have hl:=zaF (G:=fun m (i:Nat)=>if o.elem=6 then F m o.seg (o.at_+i) else zQ F l m (yj o i)) o.n.toNat 0 m [] hz'
  rw[vZ hz']
  generalize zO (fun m (i:Nat)=>if o.elem=6 then F m o.seg (o.at_+i) else zQ F l m (yj o i)) o.n.toNat 0 m []=K at ha hl
  have hl':K.1.length=o.n.toNat:=by simpa using hl
  refine ⟨.mk (fun x hx=>(ha x hx).1) (fun _ h7 x hx=>((ha x hx).2.2 (by omega)).1) (.inr (.inr ⟨rfl,hn,he,fun _=>⟨rfl,by omega⟩,fun h=>absurd h h6⟩)),.inr ?_⟩
  dsimp only
  by_cases h7:o.elem=7
  ·have ht:z9 (.mk 2 o.elem o.n [] K.1)=K.1.flatMap Nd.kids:=by unfold z9;exact if_pos ⟨rfl,h7⟩
   rw[ht]
   refine ⟨?_,fun y hy=>?_⟩
   ·rw[zhB (fun x hx=>((ha x hx).2.2 (by omega)).2.1),hl']
    have:=hp hk h7
    have e:((o.n.toNat*o.ptrs.toNat:Nat):Int)=o.n*o.ptrs:=by rw[Int.natCast_mul,Int.toNat_of_nonneg hn.1,Int.toNat_of_nonneg hq.1]
    omega
   ·obtain ⟨x,hx,hy⟩:=List.mem_flatMap.1 hy
    exact ((ha x hx).2.2 (by omega)).2.2 y hy
  ·have ht:z9 (.mk 2 o.elem o.n [] K.1)=K.1:=by unfold z9;exact if_neg (fun x=>h7 x.2)
   rw[ht]
   exact ⟨by rw[hl'];omega,fun y hy=>(ha y hy).2.1 (by omega)⟩
theorem Wx {l:List (List Int)} (hl:zJ l) (hs:Sm l):∀ D,Vo D (zG l D):=by
 intro D
 induction D with
 |zero=>
  intro m s a hz
  by_cases he:(zV l s a).2.2.2=0
  ·by_cases h0:(zV l s a).1=0
   ·rw[Ww he h0];exact ⟨XX,rfl⟩
   ·rw[K7 he h0] at hz;exact absurd hz (by show ¬((7:Int)=0);decide)
  ·rw[Xl he] at hz;exact absurd hz he
 |succ D ih=>
  intro m s a hz
  by_cases he:(zV l s a).2.2.2=0
  ·by_cases h0:(zV l s a).1=0
   ·rw[Ww he h0];exact ⟨XX,.inl rfl⟩
   ·rw[K8 he h0] at hz ⊢
    unfold xu at hz ⊢
    by_cases hf:(yn l s a).2=0
    ·rw[if_pos hf] at hz ⊢
     have hok:=XD hl hs h0 he hf
     have hnp:=za1 hl hs h0 he hf
     by_cases h8:(yn l s a).1.cost>m
     ·rw[if_pos h8] at hz;exact absurd hz (by show ¬((8:Int)=0);decide)
     ·rw[if_neg h8] at hz ⊢
      obtain ⟨hat,hd,hq,_,_,_,hk,_⟩:=id hok
      by_cases h1:(yn l s a).1.kind=1
      ·rw[if_pos h1] at hz ⊢
       exact zla ih l _ hd.2 hq hz
      ·rw[if_neg h1] at hz ⊢
       exact zgO ih l _ hok hnp (by omega) hz
    ·rw[if_neg hf] at hz;exact absurd hz hf
  ·rw[Xl he] at hz;exact absurd hz he
theorem XY (x:Nd):VN x->VN (zi x):=by
 induction x using Nd.ind with
 |h k e n d ks ih=>
  intro hv
  cases hv with
  |mk v1 v2 v3=>
  rw[zi,xb]
  have hm:∀ y∈ks.map zi,VN y:=fun y hy=>by
   obtain ⟨x,hx,rfl⟩:=List.mem_map.1 hy
   exact ih x hx (v1 x hx)
  by_cases h1:k=1
  ·rw[if_pos h1]
   refine .mk (fun x hx=>hm x (List.mem_of_mem_take hx)) (fun h2=>absurd h2 (by omega)) ?_
   unfold Kr at v3 ⊢
   rw[List.length_take,List.length_take,List.length_map]
   rcases v3 with v3|v3|v3
   ·omega
   ·obtain ⟨_,a2,a3,a4,a5,a6⟩:=v3
    have:=vg (·==0) d
    refine .inr (.inl ⟨h1,a2,a3,?_,by omega,by omega⟩)
    unfold yq
    omega
   ·omega
  ·rw[if_neg h1]
   refine .mk hm (fun h2 h7 y hy=>?_) ?_
   ·obtain ⟨x,hx,rfl⟩:=List.mem_map.1 hy
    rw[Yo]
    exact v2 h2 h7 x hx
   ·rw[List.length_map];exact v3
theorem Jx (x:Nd):(zi x).kids.length<=x.kids.length/\∀ y∈(zi x).kids,∃ z∈x.kids,y=zi z:=by
 cases x with
 |mk k e n d ks=>
  rw[zi,xb]
  split
  ·refine ⟨by show ((ks.map zi).take _).length<=ks.length;rw[List.length_take,List.length_map];omega,fun y hy=>?_⟩
   have hy':y∈(ks.map zi).take (yf ks):=hy
   obtain ⟨z,hz,rfl⟩:=List.mem_map.1 (List.mem_of_mem_take hy')
   exact ⟨z,hz,rfl⟩
  ·refine ⟨by show (ks.map zi).length<=ks.length;rw[List.length_map];omega,fun y hy=>?_⟩
   have hy':y∈ks.map zi:=hy
   obtain ⟨z,hz,rfl⟩:=List.mem_map.1 hy'
   exact ⟨z,hz,rfl⟩
theorem qn (x:Nd):(zi x).elem=x.elem:=by
 cases x with
 |mk k e n d ks=>rw[zi];split<;>rfl
theorem jV:∀ l:List Nd,((l.map zi).flatMap Nd.kids).length<=(l.flatMap Nd.kids).length
 |[]=>Nat.le_refl _
 |x::l=>by
  have:=jV l
  have:=(Jx x).1
  rw[List.map_cons,List.flatMap_cons,List.flatMap_cons,zmT,zmT]
  omega
theorem zlr (x:Nd):(z9 (zi x)).length<=(z9 x).length/\∀ y∈z9 (zi x),∃ z∈z9 x,y=zi z:=by
 unfold z9
 rw[Yo,qn]
 by_cases h:x.kind=2/\x.elem=7
 ·rw[if_pos h,if_pos h]
  have hk:(zi x).kids=x.kids.map zi:=by
   cases x with
   |mk k e n d ks=>
    rw[zi,xb,if_neg (fun h1=>by have:k=2:=h.1;omega)]
    rfl
  rw[hk]
  refine ⟨jV _,fun y hy=>?_⟩
  obtain ⟨u,hu,hy⟩:=List.mem_flatMap.1 hy
  obtain ⟨v,hv,rfl⟩:=List.mem_map.1 hu
  obtain ⟨z,hz,rfl⟩:=(Jx v).2 y hy
  exact ⟨z,List.mem_flatMap.2 ⟨v,hv,hz⟩,rfl⟩
 ·rw[if_neg h,if_neg h]
  exact Jx x
theorem zg5:∀ (D:Nat) (x:Nd),Dp D x->Dp D (zi x):=by
 intro D
 induction D with
 |zero=>intro x h;exact (Yo x).trans h
 |succ D ih=>
  intro x h
  rcases h with h|⟨h1,h2⟩
  ·exact .inl ((Yo x).trans h)
  ·obtain ⟨a1,a2⟩:=zlr x
   exact .inr ⟨by omega,fun y hy=>by obtain ⟨z,hz,rfl⟩:=a2 y hy;exact ih z (h2 z hz)⟩
theorem zcv (k e n:Int) (d:List Int) (ks:List Nd):z9 (.mk k e n d ks)=if k=2/\e=7 then ks.flatMap Nd.kids else ks:=rfl
theorem zak {x:Nd} (hg:yt x):∀ y∈z9 x,yt y:=by
 have kid:∀ {x:Nd},yt x->∀ y∈x.kids,yt y:=fun {x} h y hy=>by
  cases x with
  |mk k e n d ks=>rw[yt,goods_iff] at h;exact h.2 y hy
 unfold z9
 split
 ·intro y hy
  obtain ⟨z,hz,hy⟩:=List.mem_flatMap.1 hy
  exact kid (kid hg z hz) y hy
 ·exact kid hg
theorem rU (a b c d e:PV):decide ((PV.agg [a,b,c,d,e]).cells.length=5)=true:=rfl
theorem zkH {l:List (List Int)} (hl:zJ l) (hs:Sm l) {d w:Int} (h:(runT l d w).2.2=0):VN (runT l d w).1/\Dp d.toNat (runT l d w).1:=by
 by_cases he:Xp l
 ·rw[runT,if_pos he]
  exact ⟨XX,zg4 rfl⟩
 ·have e1:runT l d w=zG l d.toNat (max w 0) 0 0:=by rw[runT,if_neg he]
  rw[e1] at h ⊢
  exact Wx hl hs _ _ _ _ h
def zn (l:List Nd):Nat:=l.foldr (fun x a=>max (x.data.length/8) a) 0
def zq (l:List Nd):Nat:=l.foldr (fun x a=>max x.kids.length a) 0
def yB (x:Nd):Int:=if x.kind=0 then 0 else if x.kind=1 then ((x.data.length/8+x.kids.length:Nat):Int) else if x.elem=7 then 1+x.n*((zn x.kids+zq x.kids:Nat):Int) else zs x.elem x.n
def zo (l:List Int):Int:=l.foldr (fun a b=>a+b) 0
def zD:Nat->Nd->Int
 |0,x=>yB x
 |D+1,x=>yB x+zo ((z9 x).map (zD D))
theorem zlb (a b:List Int):zo (a++b)=zo a+zo b:=by
 unfold zo
 induction a with
 |nil=>simp
 |cons x a ih=>simp only[List.cons_append,List.foldr_cons,ih];omega
theorem ww:zo []=0:=rfl
theorem wc (x:Int) (l:List Int):zo (x::l)=x+zo l:=rfl
theorem we {l:List Int} (h:∀ x∈l,0<=x):0<=zo l:=by
 induction l with
 |nil=>exact Int.le_refl _
 |cons x l ih=>
  rw[wc]
  have:=h x List.mem_cons_self
  have:=ih fun y hy=>h y (List.mem_cons_of_mem _ hy)
  omega
theorem qv {l:List Nd} {x:Nd} (h:x∈l):x.data.length/8<=zn l:=by
 unfold zn
 induction l with
 |nil=>cases h
 |cons y l ih=>
  rw[List.foldr_cons]
  rcases List.mem_cons.1 h with rfl|h
  ·omega
  ·have:=ih h;omega
theorem YT {l:List Nd} {b:Nat} (h:∀ x∈l,x.data.length/8<=b):zn l<=b:=by
 unfold zn
 induction l with
 |nil=>exact Nat.zero_le _
 |cons y l ih=>
  rw[List.foldr_cons]
  have:=h y List.mem_cons_self
  have:=ih fun x hx=>h x (List.mem_cons_of_mem _ hx)
  omega
theorem YU {l:List Nd} {b:Nat} (h:∀ x∈l,x.kids.length<=b):zq l<=b:=by
 unfold zq
 induction l with
 |nil=>exact Nat.zero_le _
 |cons y l ih=>
  rw[List.foldr_cons]
  have:=h y List.mem_cons_self
  have:=ih fun x hx=>h x (List.mem_cons_of_mem _ hx)
  omega
theorem zlJ (l:List Nd) (x:Nd):zn (l++[x])=max (zn l) (x.data.length/8):=by
 unfold zn
 induction l with
 |nil=>simp
 |cons y l ih=>simp only[List.cons_append,List.foldr_cons,ih];omega
theorem zlK (l:List Nd) (x:Nd):zq (l++[x])=max (zq l) x.kids.length:=by
 unfold zq
 induction l with
 |nil=>simp
 |cons y l ih=>simp only[List.cons_append,List.foldr_cons,ih];omega
theorem zlL {l:List Nd} (hl:l.length<=1073741824) (hd:∀ x∈l,x.data.length<=17592186044416) (a b c:Int) (x y:List PV):∀ (c0 i:Nat),i+c0=l.length->Ka (zn (l.take i):Nat) (zq (l.take i):Nat) (zI l) l.length i a b c x y=ok (.tup [I (zn l:Nat),I (zq l:Nat)]):=by
 intro c0
 induction c0 with
 |zero=>
  intro i hi
  rw[zcG,decide_eq_false (by omega),List.take_of_length_le (by omega)]
  rfl
 |succ c0 ih=>
  intro i hi
  have hil:i<l.length:=by omega
  have hdi:=hd _ (List.getElem_mem hil)
  rw[zcG,decide_eq_true (show (i:Int)<(l.length:Int) by omega),decide_eq_true (show 0<=(i:Int) by omega),decide_eq_true (show (i:Int)<((zI l).length:Int) by simp;omega)]
  dsimp only[zr,zc]
  rw[Int.toNat_natCast,vU hil]
  dsimp only[zmS]
  rw[ZE,Ya,show (l[i].c.drop 0).take 5=l[i].c from rfl]
  dsimp only[Nd.c,zmQ,zmR,zmS,wl,zr,yC,yM,zc]
  rw[zR,wT,Int.tdiv_eq_ediv_of_nonneg (by omega),zh (x:=(l[i].data.length:Int)/8) (by omega),zh (x:=(i:Int)+1) (by omega)]
  have h1:(if (l[i].data.length:Int)/8>((zn (l.take i):Nat):Int) then (l[i].data.length:Int)/8 else ((zn (l.take i):Nat):Int))=((zn (l.take (i+1)):Nat):Int):=by
   rw[ZP hil,zlJ]
   split<;>omega
  have h2:(if (l[i].kids.length:Int)>((zq (l.take i):Nat):Int) then (l[i].kids.length:Int) else ((zq (l.take i):Nat):Int))=((zq (l.take (i+1)):Nat):Int):=by
   rw[ZP hil,zlK]
   split<;>omega
  rw[h1,h2]
  exact ih (i+1) (by omega)
theorem uJ {x:Nd} (hl:x.kids.length<=1073741824) (hd:∀ y∈x.kids,y.data.length<=17592186044416):ev 219 [.pv x.x] []=ok (.tup [I (zn x.kids:Nat),I (zq x.kids:Nat)]):=by
 rw[Nd.x,zly,wT]
 exact zlL hl hd x.kind x.elem x.n (bs x.data) (zI x.kids) x.kids.length 0 (by omega)
theorem YE {x:Nd} (h:yt x):x.data.length<=17592186044416/\x.kids.length<=1073741824/\∀ y∈x.kids,yt y:=by
 cases x with
 |mk k e n d ks=>
  rw[yt,goods_iff] at h
  exact ⟨h.1.1,h.1.2.2.1,h.2⟩
theorem wX {x:Nd} (h:VN x):Kr x.kind x.elem x.n x.data x.kids.length/\(∀ y∈x.kids,VN y):=by
 cases h with
 |mk v1 v2 v3=>exact ⟨v3,v1⟩
theorem XC {x:Nd} (h:VN x):0<=yB x:=by
 obtain ⟨hs,_⟩:=wX h
 unfold yB
 rcases hs with hs|hs|hs
 ·rw[if_pos hs.1];exact Int.le_refl _
 ·rw[if_neg (by omega),if_pos hs.1];omega
 ·rw[if_neg (by omega),if_neg (by omega)]
  split
  ·have:=Int.mul_nonneg hs.2.1.1 (Int.natCast_nonneg (zn x.kids+zq x.kids))
   omega
  ·exact (ZT hs.2.1).1
theorem uB {x:Nd} (hg:yt x) (hv:VN x) (hb:yB x<=4611686018427387904) (hu:zn x.kids+zq x.kids<=4611686018427387904):ev 262 [.pv x.x] []=ok (I (yB x)):=by
 obtain ⟨hd,hk,hks⟩:=YE hg
 obtain ⟨hs,_⟩:=wX hv
 have hun:=uJ hk (fun y hy=>(YE (hks y hy)).1)
 rw[Nd.x] at hun ⊢
 rw[zfX,zR,wT]
 unfold yB at hb ⊢
 rcases hs with hs|hs|hs
 ·rw[beq_iff_eq.2 hs.1,if_pos hs.1];rfl
 ·rw[beq_eq_false_iff_ne.2 (show x.kind≠0 by omega),beq_iff_eq.2 hs.1,if_neg (by omega),if_pos hs.1]
  dsimp only[zc,zu]
  rw[Int.tdiv_eq_ediv_of_nonneg (by omega),zh (x:=(x.data.length:Int)/8) (by omega),zh (by omega)]
  rw[show (x.data.length:Int)/8+(x.kids.length:Int)=((x.data.length/8+x.kids.length:Nat):Int) by omega]
 ·rw[if_neg (by omega),if_neg (by omega)] at hb ⊢
  rw[beq_eq_false_iff_ne.2 (show x.kind≠0 by omega),beq_eq_false_iff_ne.2 (show x.kind≠1 by omega)]
  dsimp only[zu]
  by_cases h7:x.elem=7
  ·rw[if_pos h7] at hb ⊢
   rw[beq_iff_eq.2 h7]
   dsimp only[zc]
   rw[hun]
   have hm:=Int.mul_nonneg hs.2.1.1 (Int.natCast_nonneg (zn x.kids+zq x.kids))
   dsimp only[ze,zg,zmS,z4,zmR,zmQ,z6]
   rw[zh (x:=((zn x.kids:Nat):Int)+((zq x.kids:Nat):Int)) (by omega),show ((zn x.kids:Nat):Int)+((zq x.kids:Nat):Int)=((zn x.kids+zq x.kids:Nat):Int) by push_cast;rfl,zh (x:=x.n*((zn x.kids+zq x.kids:Nat):Int)) (by omega),zh (by omega)]
  ·rw[if_neg h7]
   rw[beq_eq_false_iff_ne.2 h7,KB hs.2.2.1 hs.2.1]
   rfl
noncomputable def yV {α:Type} (x y:α):Bool:=@decide (x=y) (Classical.propDecidable _)
theorem wD {α:Type} {x y:α} (h:x=y):yV x y=true:=by unfold yV;exact @decide_eq_true _ (Classical.propDecidable _) h
theorem wC {α:Type} {x y:α} (h:¬x=y):yV x y=false:=by unfold yV;exact @decide_eq_false _ (Classical.propDecidable _) h
theorem Jg {α β:Type} {x y:α} {u v:β} (h:x=y↔u=v):yV x y=yV u v:=by
 by_cases hx:x=y
 ·rw[wD hx,wD (h.1 hx)]
 ·rw[wC hx,wC (fun e=>hx (h.2 e))]
theorem zlp {α:Type} {a b:List α} {i:Nat} (ha:i<a.length) (hb:i<b.length) (h:a.take i=b.take i) (e:a[i]=b[i]):a.take (i+1)=b.take (i+1):=by
 rw[ZP ha,ZP hb,h,e]
theorem zkR {d d':List Int} (hd:d.length<=17592186044416) (hl:d.length=d'.length):∀ (c i:Nat),i+c=d.length->d.take i=d'.take i->Xe (bs d) (bs d') i=ok (Bo (yV d d')):=by
 intro c
 induction c with
 |zero=>
  intro i hi ht
  rw[List.take_of_length_le (by omega),List.take_of_length_le (by omega)] at ht
  rw[VQ,decide_eq_false (by simp;omega),wD ht]
  rfl
 |succ c ih=>
  intro i hi ht
  rw[VQ,decide_eq_true (show (i:Int)<((bs d).length:Int) by simp;omega),decide_eq_true (show 0<=(i:Int) by omega),decide_eq_true (show (i:Int)<((bs d').length:Int) by simp;omega)]
  dsimp only[zr,zc]
  rw[Int.toNat_natCast,Yv (l:=d) (by omega)]
  dsimp only[zmS,ym,zmQ,ZH]
  rw[Yv (l:=d') (by omega)]
  dsimp only[zmS,ym,zmQ,ZH]
  by_cases he:d[i]=d'[i]
  ·rw[show (d[i] != d'[i])=false from by simpa using he,zh (x:=(i:Int)+1) (by omega)]
   exact ih (i+1) (by omega) (zlp (by omega) (by omega) ht he)
  ·rw[bne_iff_ne.2 he,wC (fun h=>he (by subst h;rfl))]
   rfl
theorem uF {d d':List Int} (hd:d.length<=17592186044416) (hd':d'.length<=17592186044416):ev 27 [.pv (.sl 1 (bs d)),.pv (.sl 1 (bs d'))] []=ok (Bo (yV d d')):=by
 rw[KW,zR,zR]
 by_cases hl:d.length=d'.length
 ·rw[show ((d.length:Int) != (d'.length:Int))=false from by simp;omega]
  exact zkR hd hl d.length 0 (by omega) (by rw[List.take_zero,List.take_zero])
 ·rw[show ((d.length:Int) != (d'.length:Int))=true from by simp;omega,wC (fun h=>hl (by rw[h]))]
  rfl
def yQ (l:List Int):List Int:=l.take (yN (·==0) l)
theorem r9 (l:List Int) (x:Int):yQ (l++[x])=if x=0 then yQ l else l++[x]:=by
 unfold yQ
 rw[xX]
 by_cases h:x=0
 ·subst h
  rw[if_pos (by rfl),if_pos rfl,List.take_append_of_le_length (vg _ _)]
 ·rw[if_neg (by simpa using h),if_neg h,List.take_of_length_le (by simp)]
theorem ja:∀ (n:Nat) (l:List Int),yQ (l++List.replicate n 0)=yQ l
 |0,l=>by simp
 |n+1,l=>by rw[List.replicate_succ',←List.append_assoc,r9,if_pos rfl,ja n l]
theorem r7 (l:List Int):∃ n,l=yQ l++List.replicate n 0:=by
 induction hn:l.length generalizing l with
 |zero=>have:=List.length_eq_zero_iff.1 hn;subst this;exact ⟨0,rfl⟩
 |succ n ih=>
  rcases List.eq_nil_or_concat l with rfl|⟨l',x,rfl⟩
  ·exact ⟨0,rfl⟩
  ·rw[List.concat_eq_append] at hn ⊢
   rw[r9]
   by_cases h:x=0
   ·subst h
    obtain ⟨m,hm⟩:=ih l' (by simpa using hn)
    refine ⟨m+1,?_⟩
    rw[if_pos rfl,List.replicate_succ',←List.append_assoc,←hm]
   ·rw[if_neg h]
    exact ⟨0,by simp⟩
theorem r8 {a b:List Int} (h:yQ a=yQ b) (i:Nat):a.getD i 0=b.getD i 0:=by
 obtain ⟨n,hn⟩:=r7 a
 obtain ⟨m,hm⟩:=r7 b
 have key:∀ (c:List Int) (n i:Nat),(c++List.replicate n 0).getD i 0=c.getD i 0:=fun c n i=>by
  simp only[List.getD_eq_getElem?_getD]
  rcases Nat.lt_or_ge i c.length with h|h
  ·rw[List.getElem?_append_left h]
  ·rw[List.getElem?_append_right h,List.getElem?_eq_none h,List.getElem?_replicate]
   split<;>rfl
 rw[hn,hm,key,key,h]
theorem zgK {a b:List Int} (hl:a.length<=b.length) (h:∀ i,a.getD i 0=b.getD i 0):yQ a=yQ b:=by
 have:b=a++List.replicate (b.length-a.length) 0:=by
  apply List.ext_getElem
  ·simp;omega
  ·intro i h1 h2
   have:=h i
   simp only[List.getD_eq_getElem?_getD,List.getElem?_eq_getElem h1,Option.getD_some] at this
   rw[←this]
   rcases Nat.lt_or_ge i a.length with h3|h3
   ·rw[List.getElem_append_left h3,List.getElem?_eq_getElem h3];rfl
   ·rw[List.getElem_append_right h3,List.getElem?_eq_none h3];simp
 rw[this,ja]
theorem jc {a b:List Int} (hb:b.length<=17592186044416) (hl:a.length<=b.length):∀ (c i:Nat),i+c=b.length->(∀ j,j<i->a.getD j 0=b.getD j 0)->ZB (ws a) (ws b) b.length i=ok (Bo (yV (yQ a) (yQ b))):=by
 intro c
 induction c with
 |zero=>
  intro i hi ht
  rw[jz,decide_eq_false (by omega),wD (zgK hl fun j=>by
   rcases Nat.lt_or_ge j i with h|h
   ·exact ht j h
   ·simp only[List.getD_eq_getElem?_getD]
    rw[List.getElem?_eq_none (by omega),List.getElem?_eq_none (by omega)])]
  rfl
 |succ c ih=>
  intro i hi ht
  have hib:i<b.length:=by omega
  have hgb:b.getD i 0=b[i]:=by simp only[List.getD_eq_getElem?_getD,List.getElem?_eq_getElem hib];rfl
  have next:a.getD i 0=b.getD i 0->ZB (ws a) (ws b) b.length ((i:Int)+1)=ok (Bo (yV (yQ a) (yQ b))):=fun he=>ih (i+1) (by omega) fun j hj=>by
   rcases Nat.lt_or_ge j i with h|h
   ·exact ht j h
   ·rw[show j=i by omega];exact he
  rw[jz,decide_eq_true (show (i:Int)<(b.length:Int) by omega),decide_eq_true (show 0<=(i:Int) by omega),yl,yl,decide_eq_true (show (i:Int)<(b.length:Int) by omega)]
  dsimp only[zr,zc]
  rw[Int.toNat_natCast,Yq hib]
  dsimp only[zmS,ym,zmQ,wR]
  rw[zh (x:=(i:Int)+1) (by omega)]
  by_cases hia:i<a.length
  ·have hga:a.getD i 0=a[i]:=by simp only[List.getD_eq_getElem?_getD,List.getElem?_eq_getElem hia];rfl
   rw[decide_eq_true (show (i:Int)<(a.length:Int) by omega),Yq hia,decide_eq_false (show ¬(i:Int)≥(a.length:Int) by omega)]
   dsimp only[zu,zmS,ym,zmQ,wR,zc]
   by_cases he:a[i]=b[i]
   ·rw[show (a[i] != b[i])=false from by simpa using he]
    exact next (by rw[hga,hgb,he])
   ·rw[bne_iff_ne.2 he,wC (fun h=>he (by have:=r8 h i;rw[hga,hgb] at this;exact this))]
    rfl
  ·have hga:a.getD i 0=0:=by simp only[List.getD_eq_getElem?_getD];rw[List.getElem?_eq_none (by omega)];rfl
   rw[decide_eq_false (show ¬(i:Int)<(a.length:Int) by omega),decide_eq_true (show (i:Int)≥(a.length:Int) by omega)]
   dsimp only[zc,zu]
   by_cases he:b[i]=0
   ·rw[show (b[i] != 0)=false from by simpa using he]
    exact next (by rw[hga,hgb,he])
   ·rw[wi he,wC (fun h=>he (by have:=r8 h i;rw[hga,hgb] at this;exact this.symm))]
    rfl
theorem zg9 {α:Type} (x y:α):yV x y=yV y x:=Jg ⟨Eq.symm,Eq.symm⟩
theorem Vp {a b:List Int} (ha:a.length<=17592186044416) (hb:b.length<=17592186044416):ev 237 [.pv (.sl 1 (ws a)),.pv (.sl 1 (ws b))] []=ok (Bo (yV (yQ a) (yQ b))):=by
 rw[zha,yl,yl]
 by_cases hl:a.length<b.length
 ·rw[decide_eq_true (show (a.length:Int)<(b.length:Int) by omega)]
  exact jc hb (by omega) b.length 0 (by omega) (fun j h=>absurd h (by omega))
 ·rw[decide_eq_false (show ¬(a.length:Int)<(b.length:Int) by omega),zg9]
  exact jc ha (by omega) a.length 0 (by omega) (fun j h=>absurd h (by omega))
theorem zaA {α:Type} (p:α->Bool) (a:List α):∀ b:List α,yN p (a++b)=if yN p b=0 then yN p a else a.length+yN p b:=by
 intro b
 induction hn:b.length generalizing b with
 |zero=>have:=List.length_eq_zero_iff.1 hn;subst this;rw[List.append_nil,if_pos (by rfl)]
 |succ n ih=>
  rcases List.eq_nil_or_concat b with rfl|⟨b',x,rfl⟩
  ·rw[List.append_nil,if_pos (by rfl)]
  ·rw[List.concat_eq_append] at hn ⊢
   rw[←List.append_assoc,xX,xX,ih b' (by simpa using hn)]
   by_cases hp:p x=true
   ·rw[if_pos hp,if_pos hp]
   ·rw[if_neg hp,if_neg hp,if_neg (by omega),zmT]
    omega
theorem zfx (u:List Int) (x:Int):zA (u++[x])=zA u++w8 x:=by simp[zA]
theorem zmd:w8 0=List.replicate 8 0:=rfl
theorem qB {w:Int} (h:zH w):w=w/256^0%256+256*(w/256^1%256)+65536*(w/256^2%256)+16777216*(w/256^3%256)+4294967296*(w/256^4%256)+1099511627776*(w/256^5%256)+281474976710656*(w/256^6%256)+72057594037927936*(w/256^7%256):=by
 obtain ⟨h1,h2⟩:=h
 simp only[show (256:Int)^0=1 from rfl,show (256:Int)^1=256 from rfl,show (256:Int)^2=65536 from rfl,show (256:Int)^3=16777216 from rfl,show (256:Int)^4=4294967296 from rfl,show (256:Int)^5=1099511627776 from rfl,show (256:Int)^6=281474976710656 from rfl,show (256:Int)^7=72057594037927936 from rfl]
 omega
theorem Kg (w:Int):w8 w=[w/256^0%256,w/256^1%256,w/256^2%256,w/256^3%256,w/256^4%256,w/256^5%256,w/256^6%256,w/256^7%256]:=rfl
theorem zl9 {a b:Int} (ha:zH a) (hb:zH b) (h:w8 a=w8 b):a=b:=by
 rw[Kg,Kg] at h
 simp only[List.cons.injEq,and_true] at h
 obtain ⟨e0,e1,e2,e3,e4,e5,e6,e7⟩:=h
 rw[qB ha,qB hb,e0,e1,e2,e3,e4,e5,e6,e7]
theorem zma {x:Int} (hx:zH x):(x=0->yN (·==0) (w8 x)=0)/\(x≠0->1<=yN (·==0) (w8 x)/\yN (·==0) (w8 x)<=8):=by
 refine ⟨fun h=>by subst h;rfl,fun h=>⟨?_,?_⟩⟩
 ·by_cases h0:yN (·==0) (w8 x)=0
  ·exfalso
   apply h
   have hall:∀ y∈w8 x,y=0:=by
    have key:∀ (l:List Int),yN (·==0) l=0->∀ y∈l,y=0:=by
     intro l
     induction hn:l.length generalizing l with
     |zero=>have:=List.length_eq_zero_iff.1 hn;subst this;intro _ y hy;cases hy
     |succ n ih=>
      rcases List.eq_nil_or_concat l with rfl|⟨l',z,rfl⟩
      ·intro _ y hy;cases hy
      ·rw[List.concat_eq_append] at hn ⊢
       rw[xX]
       intro hk y hy
       split at hk
       ·rename_i hz
        rcases List.mem_append.1 hy with h1|h1
        ·exact ih l' (by simpa using hn) hk y h1
        ·rw[List.mem_singleton.1 h1];simpa using hz
       ·omega
    exact key _ h0
   rw[qB hx]
   rw[Kg] at hall
   simp only[List.mem_cons,List.not_mem_nil,or_false,forall_eq_or_imp,forall_eq] at hall
   obtain ⟨e0,e1,e2,e3,e4,e5,e6,e7⟩:=hall
   rw[e0,e1,e2,e3,e4,e5,e6,e7]
   rfl
  ·omega
 ·have:=vg (·==0) (w8 x)
  rw[wA] at this
  exact this
theorem zms:∀ (u:List Int),(∀ x∈u,zH x)->yq (zA u)=yN (·==0) u:=by
 intro u
 induction hn:u.length generalizing u with
 |zero=>have:=List.length_eq_zero_iff.1 hn;subst this;intro _;rfl
 |succ n ih=>
  rcases List.eq_nil_or_concat u with rfl|⟨u',x,rfl⟩
  ·intro _;rfl
  ·rw[List.concat_eq_append] at hn ⊢
   intro hw
   have hx:=hw x (by simp)
   have hu:=ih u' (by simpa using hn) fun y hy=>hw y (List.mem_append_left _ hy)
   obtain ⟨k1,k2⟩:=zma hx
   unfold yq at hu ⊢
   rw[zfx,zaA,xX]
   by_cases h0:x=0
   ·rw[if_pos (k1 h0),hu,if_pos (by simpa using h0)]
   ·obtain ⟨a1,a2⟩:=k2 h0
    rw[if_neg (by omega),if_neg (by simpa using h0),xc]
    omega
theorem gX:∀ (u:List Int) (k:Nat),(zA u).take (8*k)=zA (u.take k)
 |[],k=>by simp[zA]
 |x::u,0=>by simp[zA]
 |x::u,k+1=>by
  have e:zA (x::u)=w8 x++zA u:=rfl
  rw[e,List.take_append,wA,List.take_of_length_le (by rw[wA];omega),show 8*(k+1)-8=8*k by omega,gX u k,List.take_succ_cons]
  rfl
theorem qo {u:List Int} (h:∀ x∈u,zH x):(zA u).take (8*yq (zA u))=zA (yQ u):=by
 rw[zms u h,gX]
 rfl
theorem VE:∀ {a b:List Int},(∀ x∈a,zH x)->(∀ x∈b,zH x)->zA a=zA b->a=b
 |[],[],_,_,_=>rfl
 |[],y::b,_,_,h=>by have:=congrArg List.length h;rw[xc,xc] at this;simp at this
 |x::a,[],_,_,h=>by have:=congrArg List.length h;rw[xc,xc] at this;simp at this
 |x::a,y::b,ha,hb,h=>by
  have e:w8 x++zA a=w8 y++zA b:=h
  obtain ⟨e1,e2⟩:=List.append_inj e (by rw[wA,wA])
  rw[zl9 (ha x List.mem_cons_self) (hb y List.mem_cons_self) e1,VE (fun z hz=>ha z (List.mem_cons_of_mem _ hz)) (fun z hz=>hb z (List.mem_cons_of_mem _ hz)) e2]
theorem Vf {x:Nd} (h:VN x) (hk:x.kind=0):x=nd0:=by
 cases h with
 |mk v1 v2 v3=>
  rename_i k e n d ks
  have hk':k=0:=hk
  rcases v3 with ⟨a1,a2,a3,a4,a5⟩|⟨a1,_⟩|⟨a1,_⟩
  ·rw[a1,a2,a3,List.length_eq_zero_iff.1 a4,List.length_eq_zero_iff.1 a5];rfl
  ·omega
  ·omega
theorem K6:∀ (l:List Nd),(∀ x∈l,VN x)->∃ n,l=l.take (yf l)++List.replicate n nd0:=by
 intro l
 induction hn:l.length generalizing l with
 |zero=>have:=List.length_eq_zero_iff.1 hn;subst this;exact fun _=>⟨0,rfl⟩
 |succ n ih=>
  rcases List.eq_nil_or_concat l with rfl|⟨l',x,rfl⟩
  ·exact fun _=>⟨0,rfl⟩
  ·rw[List.concat_eq_append] at hn ⊢
   intro hv
   obtain ⟨m,hm⟩:=ih l' (by simpa using hn) fun y hy=>hv y (List.mem_append_left _ hy)
   have hle:=vg (fun x:Nd=>x.kind==0) l'
   unfold yf at hm ⊢
   rw[xX]
   by_cases h:x.kind=0
   ·rw[if_pos (by simpa using h),List.take_append_of_le_length hle]
    refine ⟨m+1,?_⟩
    rw[List.replicate_succ',←List.append_assoc,←hm,Vf (hv x (by simp)) h]
   ·rw[if_neg (by simpa using h),List.take_of_length_le (by simp)]
    exact ⟨0,by simp⟩
theorem zai (c:List Nd) (n i:Nat):(c++List.replicate n nd0).getD i nd0=c.getD i nd0:=by
 simp only[List.getD_eq_getElem?_getD]
 rcases Nat.lt_or_ge i c.length with h|h
 ·rw[List.getElem?_append_left h]
 ·rw[List.getElem?_append_right h,List.getElem?_eq_none h,List.getElem?_replicate]
  split<;>rfl
theorem JV (c:List Nd):∀ n,(c++List.replicate n nd0).take (yf (c++List.replicate n nd0))=c.take (yf c)
 |0=>by simp
 |n+1=>by
  have ih:=JV c n
  have hle:=vg (fun x:Nd=>x.kind==0) (c++List.replicate n nd0)
  unfold yf at ih ⊢
  rw[List.replicate_succ',←List.append_assoc,xX,if_pos (by rfl),List.take_append_of_le_length hle,ih]
theorem rZ {a b:List Nd} (hl:a.length<=b.length) (h:∀ i,i<b.length->a.getD i nd0=b.getD i nd0):a.take (yf a)=b.take (yf b):=by
 have:b=a++List.replicate (b.length-a.length) nd0:=by
  apply List.ext_getElem
  ·simp;omega
  ·intro i h1 h2
   have:=h i h1
   simp only[List.getD_eq_getElem?_getD,List.getElem?_eq_getElem h1,Option.getD_some] at this
   rw[←this]
   rcases Nat.lt_or_ge i a.length with h3|h3
   ·rw[List.getElem_append_left h3,List.getElem?_eq_getElem h3];rfl
   ·rw[List.getElem_append_right h3,List.getElem?_eq_none h3];simp
 rw[this,JV]
theorem zgI {a b:List Nd} (ha:∀ x∈a,VN x) (hb:∀ x∈b,VN x) {q:Nat} (hq:a.length<=q) (hq':b.length<=q):a.take (yf a)=b.take (yf b)↔∀ i,i<q->a.getD i nd0=b.getD i nd0:=by
 constructor
 ·intro h i _
  obtain ⟨n,hn⟩:=K6 a ha
  obtain ⟨m,hm⟩:=K6 b hb
  rw[hn,hm,zai,zai,h]
 ·intro h
  rcases Nat.le_total a.length b.length with hl|hl
  ·exact rZ hl fun i hi=>h i (by omega)
  ·exact (rZ hl fun i hi=>(h i (by omega)).symm).symm
theorem zaH {G:Int->Nat->Nd×Int×Int}:∀ c i m acc,(zO G c i m acc).2.2=0->∃ l',(zO G c i m acc).1=acc++l'/\l'.length=c/\∀ (j:Nat) (h:j<l'.length),∃ m1,(G m1 (i+j)).2.2=0/\(G m1 (i+j)).1=l'[j]:=by
 intro c
 induction c with
 |zero=>intro i m acc _;exact ⟨[],by simp[zO],rfl,fun j h=>absurd h (by simp)⟩
 |succ c ih=>
  intro i m acc hz
  by_cases h0:(G m i).2.2=0
  ·rw[WM h0] at hz ⊢
   obtain ⟨l',e1,e2,e3⟩:=ih _ _ _ hz
   refine ⟨(G m i).1::l',by rw[e1,List.append_assoc];rfl,by simp[e2],fun j h=>?_⟩
   cases j with
   |zero=>exact ⟨m,h0,rfl⟩
   |succ j=>
    obtain ⟨m1,f1,f2⟩:=e3 j (by simpa using h)
    refine ⟨m1,?_,?_⟩
    ·rw[show i+(j+1)=i+1+j by omega];exact f1
    ·rw[show i+(j+1)=i+1+j by omega];exact f2
  ·rw[WL h0] at hz
   exact absurd hz h0
def xM (b:List Int):Int:=b.getD 0 0+256*b.getD 1 0+65536*b.getD 2 0+16777216*b.getD 3 0+4294967296*b.getD 4 0+1099511627776*b.getD 5 0+281474976710656*b.getD 6 0+72057594037927936*b.getD 7 0
def zN:Nat->List Int->List Int
 |0,_=>[]
 |n+1,b=>xM b::zN n (b.drop 8)
@[simp] theorem xh:∀ (n:Nat) (b:List Int),(zN n b).length=n
 |0,_=>rfl
 |n+1,b=>by simp[zN,xh n]
theorem yL {b:List Int} (hb:∀ x∈b,zm x) (i:Nat):0<=b.getD i 0/\b.getD i 0<=255:=by
 rw[List.getD_eq_getElem?_getD]
 by_cases h:i<b.length
 ·rw[List.getElem?_eq_getElem h];exact hb _ (List.getElem_mem h)
 ·rw[List.getElem?_eq_none (by omega)];exact ⟨by simp,by simp⟩
theorem zmf {b:List Int} (hb:∀ x∈b,zm x):zH (xM b):=by
 have h0:=yL hb 0
 have h1:=yL hb 1
 have h2:=yL hb 2
 have h3:=yL hb 3
 have h4:=yL hb 4
 have h5:=yL hb 5
 have h6:=yL hb 6
 have h7:=yL hb 7
 unfold xM zH
 omega
theorem YZ:∀ (n:Nat) {b:List Int},(∀ x∈b,zm x)->∀ w∈zN n b,zH w
 |0,b,hb,w,hw=>by cases hw
 |n+1,b,hb,w,hw=>by
  rw[zN] at hw
  rcases List.mem_cons.1 hw with rfl|hw
  ·exact zmf hb
  ·exact YZ n (fun x hx=>hb x (List.mem_of_mem_drop hx)) w hw
theorem take8:∀ b:List Int,[b.getD 0 0,b.getD 1 0,b.getD 2 0,b.getD 3 0,b.getD 4 0,b.getD 5 0,b.getD 6 0,b.getD 7 0]=b.take 8++List.replicate (8-b.length) 0
 |[]=>rfl
 |[_]=>rfl
 |[_,_]=>rfl
 |[_,_,_]=>rfl
 |[_,_,_,_]=>rfl
 |[_,_,_,_,_]=>rfl
 |[_,_,_,_,_,_]=>rfl
 |[_,_,_,_,_,_,_]=>rfl
 |_::_::_::_::_::_::_::_::r=>by
  rw[show 8-(_::_::_::_::_::_::_::_::r:List Int).length=0 by simp]
  simp
theorem zmc {b:List Int} (hb:∀ x∈b,zm x):w8 (xM b)=b.take 8++List.replicate (8-b.length) 0:=by
 rw[←take8,Kg]
 have h0:=yL hb 0
 have h1:=yL hb 1
 have h2:=yL hb 2
 have h3:=yL hb 3
 have h4:=yL hb 4
 have h5:=yL hb 5
 have h6:=yL hb 6
 have h7:=yL hb 7
 unfold xM
 simp only[Int.reducePow,Int.pow_zero,Int.pow_succ,Int.reduceMul,List.cons.injEq,and_true]
 refine ⟨?_,?_,?_,?_,?_,?_,?_,?_⟩<;>omega
theorem Xc:∀ (n:Nat) {b:List Int},(∀ x∈b,zm x)->b.length<=8*n->zA (zN n b)=b++List.replicate (8*n-b.length) 0
 |0,b,hb,hl=>by
  have:b=[]:=List.length_eq_zero_iff.1 (by omega)
  subst this
  rfl
 |n+1,b,hb,hl=>by
  have e:zA (zN (n+1) b)=w8 (xM b)++zA (zN n (b.drop 8)):=rfl
  rw[e,zmc hb,Xc n (fun x hx=>hb x (List.mem_of_mem_drop hx)) (by rw[List.length_drop];omega),List.length_drop]
  by_cases h:b.length<=8
  ·rw[List.take_of_length_le h,List.drop_eq_nil_of_le h,zmV,List.append_assoc,List.replicate_append_replicate]
   congr 2
   omega
  ·rw[show 8-b.length=0 by omega,List.replicate_zero,List.append_nil,←List.append_assoc,List.take_append_drop]
   congr 2
   omega
def ya (off:Int) (d q:Nat):Int:=off%1073741824*4+d*4294967296+q*281474976710656
def yv (off e c:Int):Int:=off%1073741824*4+1+e*4294967296+c*34359738368
theorem V0 {off:Int} {d q:Nat} (ho:-536870912<=off/\off<=536870911) (hd:d<=65535) (hq:q<=65535):zv (ya off d q)=(0,off,(d:Int),(q:Int),0,0,false,0,0,0)/\zH (ya off d q)/\ya off d q%4=0:=by
 have hm:=Int.emod_nonneg off (show (1073741824:Int)≠0 by decide)
 have hl:=Int.emod_lt_of_pos off (show (0:Int)<1073741824 by decide)
 have h4:ya off d q%4=0:=by unfold ya;omega
 refine ⟨?_,⟨by unfold ya;omega,by unfold ya;omega⟩,h4⟩
 unfold zv
 rw[if_pos h4]
 have e1:ya off d q/4%1073741824=off%1073741824:=by unfold ya;omega
 have e2:ya off d q/4294967296%65536=d:=by unfold ya;omega
 have e3:ya off d q/281474976710656%65536=q:=by unfold ya;omega
 rw[e1,e2,e3]
 have e4:wV (off%1073741824)=off:=by unfold wV;split<;>omega
 rw[e4]
theorem VZ {off e c:Int} (ho:-536870912<=off/\off<=536870911) (he:0<=e/\e<=7) (hc:0<=c/\c<=536870911):zv (yv off e c)=(1,off,0,0,e,c,false,0,0,0)/\zH (yv off e c)/\yv off e c%4=1:=by
 have hm:=Int.emod_nonneg off (show (1073741824:Int)≠0 by decide)
 have hl:=Int.emod_lt_of_pos off (show (0:Int)<1073741824 by decide)
 have h4:yv off e c%4=1:=by unfold yv;omega
 refine ⟨?_,⟨by unfold yv;omega,by unfold yv;omega⟩,h4⟩
 unfold zv
 rw[if_neg (by omega),if_pos h4]
 have e1:yv off e c/4%1073741824=off%1073741824:=by unfold yv;omega
 have e2:yv off e c/4294967296%8=e:=by unfold yv;omega
 have e3:yv off e c/34359738368%536870912=c:=by unfold yv;omega
 rw[e1,e2,e3]
 have e4:wV (off%1073741824)=off:=by unfold wV;split<;>omega
 rw[e4]
def ZR (x:Nd):Nat:=zn x.kids+zq x.kids
def yK (x:Nd) (off:Int):Int :=
 if x.kind=0 then 0 else if x.kind=1 then (if x.data.length/8=0/\x.kids.length=0 then ya (-1) 0 0 else ya off (x.data.length/8) x.kids.length)
 else if x.elem=7 then yv off 7 (x.n*(ZR x:Nat)) else yv off x.elem x.n
def yu (B:Nd->List Int):Nat->Nat->List Nd->List Int
 |_,_,[]=>[]
 |i,pos,t::r=>yK t ((pos:Int)-i-1)::yu B (i+1) (pos+(B t).length) r
def Zb (B:Nd->List Int) (ts:List Nd):Nat:=(ts.flatMap B).length
def xw (B:Nd->List Int) (a b:Nat):Nat->Nat->List Nd->List Int
 |_,_,[]=>[]
 |i,pos,k::r=>(zN a k.data++(yu B (i+a) pos k.kids++List.replicate (b-k.kids.length) 0))++xw B a b (i+(a+b)) (pos+Zb B k.kids) r
def xy (B:Nd->List Int) (x:Nd):List Int :=
 if x.kind=1 then zN (x.data.length/8) x.data++yu B (x.data.length/8) (x.data.length/8+x.kids.length) x.kids
 else if x.elem=7 then ya x.n (zn x.kids) (zq x.kids)::xw B (zn x.kids) (zq x.kids) 1 (1+x.kids.length*ZR x) x.kids
 else if x.elem=6 then yu B 0 x.kids.length x.kids
 else zN (zs x.elem x.n).toNat x.data
def body:Nat->Nd->List Int
 |0,_=>[]
 |D+1,x=>if x.kind=0 then [] else xy (body D) x++(z9 x).flatMap (body D)
def xd (D:Nat) (x:Nd):List Int:=yK x 0::body D x
@[simp] theorem wS (B:Nd->List Int):∀ (i pos:Nat) (l:List Nd),(yu B i pos l).length=l.length
 |_,_,[]=>rfl
 |i,pos,t::r=>by simp[yu,wS B]
theorem Wj (B:Nd->List Int) (a b:Nat):∀ (i pos:Nat) (l:List Nd),(∀ k∈l,k.kids.length<=b)->(xw B a b i pos l).length=l.length*(a+b)
 |_,_,[],_=>by simp[xw]
 |i,pos,k::r,h=>by
  have h1:=h k List.mem_cons_self
  have h2:=Wj B a b (i+(a+b)) (pos+Zb B k.kids) r fun x hx=>h x (List.mem_cons_of_mem _ hx)
  simp only[xw,zmT,xh,wS,List.length_replicate,h2,zmU]
  rw[Nat.add_mul]
  omega
theorem YV {l:List Nd} {x:Nd} (h:x∈l):x.kids.length<=zq l:=by
 unfold zq
 induction l with
 |nil=>cases h
 |cons y l ih=>
  rw[List.foldr_cons]
  rcases List.mem_cons.1 h with rfl|h
  ·omega
  ·have:=ih h;omega
theorem za0 (B:Nd->List Int) {x:Nd} (hv:VN x) (h0:x.kind≠0):((xy B x).length:Int)=yB x:=by
 obtain ⟨hs,_⟩:=wX hv
 unfold xy yB
 rw[if_neg h0]
 rcases hs with hs|hs|hs
 ·exact absurd hs.1 h0
 ·rw[if_pos hs.1,if_pos hs.1,zmT,xh,wS]
 ·have hk1:¬x.kind=1:=by omega
  rw[if_neg hk1,if_neg hk1]
  by_cases h7:x.elem=7
  ·rw[if_pos h7,if_pos h7,zmU,Wj _ _ _ _ _ _ (fun k hk=>YV hk),←(hs.2.2.2.1 (by omega)).2]
   push_cast
   omega
  ·rw[if_neg h7,if_neg h7]
   by_cases h6:x.elem=6
   ·rw[if_pos h6,wS,h6]
    have:=(hs.2.2.2.1 (by omega)).2
    unfold zs bitsOf
    rw[if_neg (by decide)]
    simp
    omega
   ·rw[if_neg h6,xh]
    have:=(ZT (e:=x.elem) hs.2.1).1
    omega
theorem zch (B:Nd->List Int) (S:Nd->Int):∀ (l:List Nd),(∀ t∈l,((B t).length:Int)=S t)->((l.flatMap B).length:Int)=zo (l.map S)
 |[],_=>rfl
 |t::l,h=>by
  rw[List.flatMap_cons,zmT,List.map_cons,wc,←h t List.mem_cons_self,←zch B S l fun x hx=>h x (List.mem_cons_of_mem _ hx)]
  push_cast
  rfl
theorem Zu {x:Nd} (hv:VN x):∀ t∈z9 x,VN t:=by
 obtain ⟨_,hk⟩:=wX hv
 intro t ht
 unfold z9 at ht
 split at ht
 ·obtain ⟨k,hk1,hk2⟩:=List.mem_flatMap.1 ht
  exact (wX (hk k hk1)).2 t hk2
 ·exact hk t ht
theorem JF {x:Nd} (h:x.kind=0):yB x=0:=by unfold yB;rw[if_pos h]
theorem zlq {x:Nd} (hv:VN x) (h:x.kind=0):z9 x=[]:=by rw[Vf hv h];rfl
theorem XA {x:Nd} (hv:VN x) (h:x.kind=0):∀ D,zD D x=0
 |0=>JF h
 |D+1=>by rw[zD,zlq hv h,JF h];rfl
theorem gQ:∀ (D:Nat) {x:Nd},VN x->Dp D x->((body D x).length:Int)=zD D x
 |0,x,hv,hd=>by
  have:x.kind=0:=hd
  rw[XA hv this]
  rfl
 |D+1,x,hv,hd=>by
  rw[body]
  by_cases h0:x.kind=0
  ·rw[if_pos h0,XA hv h0];rfl
  ·have hd':=hd.resolve_left h0
   rw[if_neg h0,zD,zmT,←za0 (body D) hv h0,←zch (body D) (zD D) (z9 x) fun t ht=>gQ D (Zu hv t ht) (hd'.2 t ht)]
   push_cast
   rfl
def At (W:List Int) (p:Nat) (L:List Int):Prop:=∃ A C,W=A++(L++C)/\A.length=p
theorem At.app {W L M:List Int} {p:Nat} (h:At W p (L++M)):At W p L/\At W (p+L.length) M:=by
 obtain ⟨A,C,rfl,rfl⟩:=h
 exact ⟨⟨A,M++C,by simp,rfl⟩,⟨A++L,C,by simp,by simp⟩⟩
theorem At.len {W L:List Int} {p:Nat} (h:At W p L):p+L.length<=W.length:=by
 obtain ⟨A,C,rfl,rfl⟩:=h
 simp
theorem Zo (W:List Int):yw [W] 0=W:=rfl
theorem At.inB {W L:List Int} {p:Nat} (h:At W p L) {n:Int} (hn:n=L.length):inB [W] 0 p n:=by
 have:=h.len
 refine ⟨Int.le_refl _,by simp,by omega,by omega,?_⟩
 rw[Zo]
 omega
theorem At.cutB {W L:List Int} {p:Nat} (h:At W p L) {n:Int} (hn:n=L.length):cutB [W] 0 p n=L:=by
 unfold E.cutB
 rw[if_pos (h.inB hn)]
 obtain ⟨A,C,rfl,rfl⟩:=h
 unfold cut
 rw[Zo,hn]
 simp
theorem At.cons {W L:List Int} {x:Int} {p:Nat} (h:At W p (x::L)):wd [W] 0 p=x/\E.inB [W] 0 p 1/\At W (p+1) L:=by
 have h1:At W p ([x]++L):=h
 obtain ⟨a1,a2⟩:=h1.app
 refine ⟨?_,a1.inB rfl,a2⟩
 obtain ⟨A,C,rfl,rfl⟩:=h
 unfold wd rd
 rw[Zo,List.getD_eq_getElem?_getD]
 simp
theorem At.head {W L:List Int} {x:Int} {p:Nat} (h:At W p (x::L)):At W p [x]:=(show At W p ([x]++L) from h).app.1
theorem jY {W:List Int} {x:Int} {a:Nat} (h:At W a [x]) (h4:x%4≠2):zV [W] 0 a=(x,(0:Int),(a:Int)+1,(0:Int)):=by
 obtain ⟨h1,h2,_⟩:=h.cons
 unfold zV
 rw[if_pos h2,h1,if_neg h4]
theorem zil (n:Nat):yN (fun x:Int=>x==0) (List.replicate n 0)=0:=by
 unfold yN
 rw[List.reverse_replicate]
 induction n with
 |zero=>rfl
 |succ n ih=>rw[List.replicate_succ,List.dropWhile_cons];simp
theorem zmu (d:List Int) (n:Nat):yq (d++List.replicate n 0)=yq d:=by
 unfold yq
 rw[zaA,if_pos (zil n)]
theorem zlD {d:List Int} {ks ys:List Nd} (h8:8*yq d=d.length) (hq:yf ks=ks.length) (hb:∀ x∈d,zm x) {a:Nat} (ha:d.length<=8*a) (z:Nat) (hy:ys.map zi=ks):zi (.mk 1 0 0 (zA (zN a d)) (ys++List.replicate z nd0))=.mk 1 0 0 d ks:=by
 have e1:vp (ys++List.replicate z nd0)=ks++List.replicate z nd0:=by
  rw[xb,List.map_append,hy,List.map_replicate,Yn]
 rw[zi,if_pos rfl,Xc a hb ha,zmu,h8,List.take_left,←QJ,e1,JV,hq,List.take_length]
def wJ (x:Nd):Int:=yB x+(if x.kind=2/\x.elem=7/\ZR x=0 then x.n else 0)
def ye:Nat->Nd->Int
 |0,_=>0
 |D+1,x=>if x.kind=0 then 0 else wJ x+zo ((z9 x).map (ye D))
theorem zjh {x:Nd} (hv:VN x):0<=wJ x:=by
 have:=XC hv
 obtain ⟨hs,_⟩:=wX hv
 unfold wJ
 split
 ·rename_i h
  rcases hs with hs|hs|hs
  ·omega
  ·omega
  ·omega
 ·omega
theorem Xk:∀ (D:Nat) {x:Nd},VN x->0<=ye D x
 |0,x,_=>Int.le_refl _
 |D+1,x,hv=>by
  rw[ye]
  split
  ·exact Int.le_refl _
  ·have:=zjh hv
   have:=we (l:=(z9 x).map (ye D)) fun y hy=>by
    obtain ⟨t,ht,rfl⟩:=List.mem_map.1 hy
    exact Xk D (Zu hv t ht)
   omega
structure Ok (D:Nat) (t:Nd):Prop where
 vn:VN t
 tr:TrN t
 gd:yt t
 dp:Dp D t
section
variable {W:List Int} {F:Int->Int->Int->Nd×Int×Int} {B:Nd->List Int} {c:Nd->Int} {Q:Nd->Prop}
structure Rt (W:List Int) (F:Int->Int->Int->Nd×Int×Int) (B:Nd->List Int) (c:Nd->Int) (Q:Nd->Prop):Prop where
 one:∀ (t:Nd) (a q:Nat) (m:Int),Q t->At W q (B t)->At W a [yK t ((q:Int)-a-1)]->c t<=m->∃ y,F m 0 a=(y,m-c t,0)/\zi y=t
 null:∀ (a:Nat) (m:Int),At W a [0]->F m 0 a=(nd0,m,0)
 nn:∀ t,Q t->0<=c t
theorem W7 (R:Rt W F B c Q) {ks:List Nd} (h:∀ t∈ks,Q t):0<=zo (ks.map c):=we fun y hy=>by
 obtain ⟨t,ht,rfl⟩:=List.mem_map.1 hy
 exact R.nn t (h t ht)
theorem Jw (R:Rt W F B c Q) (p:Nat):∀ (ks:List Nd) (i0 pos c0:Nat) (m:Int) (acc:List Nd) (G:Int->Nat->Nd×Int×Int),(∀ m (j:Nat),G m (c0+j)=F m 0 ((p+i0+j:Nat):Int))->(∀ t∈ks,Q t)->
  At W (p+i0) (yu B i0 pos ks)->At W (p+pos) (ks.flatMap B)->zo (ks.map c)<=m->∃ ys,zO G ks.length c0 m acc=(acc++ys,m-zo (ks.map c),0)/\ys.map zi=ks
 |[],i0,pos,c0,m,acc,G,hG,hQ,h1,h2,hm=>⟨[],by simp[zO,ww],rfl⟩
 |t::r,i0,pos,c0,m,acc,G,hG,hQ,h1,h2,hm=>by
  rw[yu] at h1
  obtain ⟨_,_,h1t⟩:=h1.cons
  rw[List.flatMap_cons] at h2
  obtain ⟨h2h,h2t⟩:=h2.app
  rw[List.map_cons,wc] at hm
  have hr:=W7 R fun x hx=>hQ x (List.mem_cons_of_mem _ hx)
  have ht:=R.nn t (hQ t List.mem_cons_self)
  obtain ⟨y,hy,hty⟩:=R.one t (p+i0) (p+pos) m (hQ t List.mem_cons_self) h2h (by
   rw[show ((p+pos:Nat):Int)-((p+i0:Nat):Int)-1=(pos:Int)-i0-1 by omega]
   exact h1.head) (by omega)
  have e:G m c0=(y,m-c t,0):=by
   have:=hG m 0
   rw[Nat.add_zero,Nat.add_zero] at this
   rw[this,hy]
  obtain ⟨ys,k1,k2⟩:=Jw R p r (i0+1) (pos+(B t).length) (c0+1) (m-c t) (acc++[y]) G (fun m j=>by
   rw[Nat.add_assoc,Nat.add_comm 1 j,hG m (j+1)]
   congr 2
   omega) (fun x hx=>hQ x (List.mem_cons_of_mem _ hx)) (by rw[←Nat.add_assoc];exact h1t) (by rw[←Nat.add_assoc];exact h2t) (by omega)
  refine ⟨y::ys,?_,by rw[List.map_cons,hty,k2]⟩
  rw[zmU,zO,e]
  dsimp only
  rw[if_pos rfl,k1,List.map_cons,wc,List.append_assoc,List.singleton_append,show m-c t-zo (r.map c)=m-(c t+zo (r.map c)) by omega]
theorem zaI (R:Rt W F B c Q) (p:Nat):∀ (z i0 c0:Nat) (m:Int) (acc:List Nd) (G:Int->Nat->Nd×Int×Int),(∀ m (j:Nat),G m (c0+j)=F m 0 ((p+i0+j:Nat):Int))->At W (p+i0) (List.replicate z 0)->zO G z c0 m acc=(acc++List.replicate z nd0,m,0)
 |0,i0,c0,m,acc,G,hG,h1=>by simp[zO]
 |z+1,i0,c0,m,acc,G,hG,h1=>by
  rw[List.replicate_succ] at h1
  obtain ⟨_,_,h1t⟩:=h1.cons
  have e:G m c0=(nd0,m,0):=by
   have:=hG m 0
   rw[Nat.add_zero,Nat.add_zero] at this
   rw[this,R.null _ _ h1.head]
  rw[zO,e]
  dsimp only
  rw[if_pos rfl,zaI R p z (i0+1) (c0+1) m _ G (fun m j=>by
   rw[Nat.add_assoc,Nat.add_comm 1 j,hG m (j+1)]
   congr 2
   omega) (by rw[←Nat.add_assoc];exact h1t),List.replicate_succ,List.append_assoc,List.singleton_append]
theorem zaB {G:Int->Nat->Nd×Int×Int}:∀ (c1 c2 i:Nat) (m m':Int) (acc l:List Nd),zO G c1 i m acc=(l,m',0)->zO G (c1+c2) i m acc=zO G c2 (i+c1) m' l
 |0,c2,i,m,m',acc,l,h=>by
  rw[zO] at h
  cases h
  rw[Nat.zero_add,Nat.add_zero]
 |c1+1,c2,i,m,m',acc,l,h=>by
  rw[zO] at h
  rw[show c1+1+c2=(c1+c2)+1 by omega,zO]
  split at h
  ·rename_i h0
   rw[if_pos h0,zaB c1 c2 (i+1) _ m' _ l h,show i+1+c1=i+(c1+1) by omega]
  ·rename_i h0
   have:(G m i).2.2=0:=by injection h with _ h;injection h
   exact absurd this h0
theorem qi (R:Rt W F B c Q) (p:Nat) {d:List Int} {ks:List Nd} (h8:8*yq d=d.length) (hq:yf ks=ks.length) (hb:∀ x∈d,zm x) {a z i0 pos:Nat} (ha:d.length<=8*a) (hQ:∀ t∈ks,Q t) {m:Int}
  (h1:At W (p+i0) (zN a d++(yu B (i0+a) pos ks++List.replicate z 0))) (h2:At W (p+pos) (ks.flatMap B)) (hm:zo (ks.map c)<=m) {o:Ob} (o1:o.seg=0) (o2:o.at_=((p+i0:Nat):Int)) (o3:o.data=a) (o4:o.ptrs=((ks.length+z:Nat):Int)) :
  ∃ y,zQ F [W] m o=(y,m-zo (ks.map c),0)/\zi y=.mk 1 0 0 d ks:=by
 obtain ⟨hd,hp⟩:=h1.app
 rw[xh] at hp
 obtain ⟨hp1,hp2⟩:=hp.app
 rw[wS] at hp2
 have hG:∀ m (j:Nat),(fun m (i:Nat)=>F m o.seg (o.at_+o.data+i)) m (0+j)=F m 0 ((p+(i0+a)+j:Nat):Int):=fun m j=>by
  dsimp only
  rw[o1,o2,o3]
  congr 1
  omega
 obtain ⟨ys,k1,k2⟩:=Jw R p ks (i0+a) pos 0 m [] (fun m (i:Nat)=>F m o.seg (o.at_+o.data+i)) hG hQ (by rw[←Nat.add_assoc];exact hp1) h2 hm
 have k3:=zaB _ z _ _ _ _ _ k1
 rw[zaI R p z (i0+a+ks.length) (0+ks.length) _ _ (fun m (i:Nat)=>F m o.seg (o.at_+o.data+i)) (fun m j=>by
  refine Eq.trans ?_ ((hG m (ks.length+j)).trans (by congr 2;omega))
  rw[Nat.add_assoc 0]) (by rw[show p+(i0+a+ks.length)=p+i0+a+ks.length by omega];exact hp2)] at k3
 refine ⟨_,?_,zlD h8 hq hb ha z k2⟩
 unfold zQ
 rw[o4,Int.toNat_natCast,k3]
 unfold wZ
 dsimp only
 rw[if_pos rfl,o1,o2,o3,hd.cutB (by rw[xh]),zmV]
theorem jt (R:Rt W F B c Q) (p a b:Nat):∀ (ks:List Nd) (i0 pos c0:Nat) (m:Int) (acc:List Nd) (G:Int->Nat->Nd×Int×Int),(∀ m (j:Nat),G m (c0+j)=zQ F [W] m ⟨1,0,((p+i0+j*(a+b):Nat):Int),a,b,0,0,0⟩)->
  (∀ k∈ks,(∃ d q,k=.mk 1 0 0 d q/\8*yq d=d.length/\yf q=q.length/\(∀ x∈d,zm x)/\d.length<=8*a/\q.length<=b)/\∀ t∈k.kids,Q t)->
  At W (p+i0) (xw B a b i0 pos ks)->At W (p+pos) (ks.flatMap fun k=>k.kids.flatMap B)->zo (ks.map fun k=>zo (k.kids.map c))<=m->∃ ys,zO G ks.length c0 m acc=(acc++ys,m-zo (ks.map fun k=>zo (k.kids.map c)),0)/\ys.map zi=ks
 |[],i0,pos,c0,m,acc,G,hG,hQ,h1,h2,hm=>⟨[],by simp[zO,ww],rfl⟩
 |k::r,i0,pos,c0,m,acc,G,hG,hQ,h1,h2,hm=>by
  rw[xw] at h1
  obtain ⟨h1h,h1t⟩:=h1.app
  rw[List.flatMap_cons] at h2
  obtain ⟨h2h,h2t⟩:=h2.app
  rw[List.map_cons,wc] at hm
  obtain ⟨⟨d,q,rfl,e8,eq,eb,ea,el⟩,hQk⟩:=hQ k List.mem_cons_self
  have hr:0<=zo (r.map fun k=>zo (k.kids.map c)):=we fun y hy=>by
   obtain ⟨t,ht,rfl⟩:=List.mem_map.1 hy
   exact W7 R (hQ t (List.mem_cons_of_mem _ ht)).2
  obtain ⟨y,k1,k2⟩:=qi R p e8 eq eb (a:=a) (z:=b-q.length) (i0:=i0) (pos:=pos) ea hQk (m:=m) h1h h2h (by
   have:zo (q.map c)+zo (r.map fun k=>zo (k.kids.map c))<=m:=hm
   omega) (o:=⟨1,0,((p+i0+0*(a+b):Nat):Int),a,b,0,0,0⟩) rfl (by show ((p+i0+0*(a+b):Nat):Int)=_;rw[Nat.zero_mul,Nat.add_zero]) rfl (by show (b:Int)=_;congr 1;omega)
  have e:G m c0=(y,m-zo (q.map c),0):=by
   have:=hG m 0
   rw[Nat.add_zero] at this
   rw[this,k1]
  have hlen:(zN a (Nd.mk 1 0 0 d q).data++(yu B (i0+a) pos (Nd.mk 1 0 0 d q).kids++List.replicate (b-(Nd.mk 1 0 0 d q).kids.length) 0)).length=a+b:=by
   rw[zmT,zmT,xh,wS,List.length_replicate]
   show a+(q.length+(b-q.length))=_
   omega
  rw[hlen] at h1t
  obtain ⟨ys,k3,k4⟩:=jt R p a b r (i0+(a+b)) (pos+Zb B q) (c0+1) (m-zo (q.map c)) (acc++[y]) G (fun m j=>by
   rw[Nat.add_assoc,Nat.add_comm 1 j,hG m (j+1)]
   congr 3
   rw[Nat.add_mul,Nat.one_mul]
   omega) (fun x hx=>hQ x (List.mem_cons_of_mem _ hx)) (by rw[←Nat.add_assoc];exact h1t) (by rw[←Nat.add_assoc];exact h2t) (by
   have:zo (q.map c)+zo (r.map fun k=>zo (k.kids.map c))<=m:=hm
   omega)
  refine ⟨y::ys,?_,by rw[List.map_cons,k2,k4]⟩
  rw[zmU,zO,e]
  dsimp only
  rw[if_pos rfl,k3,List.map_cons,wc,List.append_assoc,List.singleton_append]
  have:m-zo (q.map c)-zo (r.map fun k=>zo (k.kids.map c))=m-(zo ((Nd.mk 1 0 0 d q).kids.map c)+zo (r.map fun k=>zo (k.kids.map c))):=by
   show _=m-(zo (q.map c)+_)
   omega
  rw[this]
end
theorem YC {W:List Int} {w:Int} {a:Nat} (h:At W a [w]) (h4:w%4≠2) (h0:w≠0) (D:Nat) (m:Int):zG [W] (D+1) m 0 a=xu (zG [W] D) [W] m (wQ [W] 0 (a+1) (zv w)):=by
 rw[zG]
 dsimp only
 have hf:=jY h h4
 unfold yn
 rw[hf]
 dsimp only
 rw[if_pos rfl,if_neg h0,if_pos rfl,if_neg h0]
theorem Xm {W:List Int} {a:Nat} (h:At W a [0]) (D:Nat) (m:Int):zG [W] D m 0 a=(nd0,m,0):=by
 have hf:=jY h (by decide)
 cases D with
 |zero=>unfold zG;rw[hf];rfl
 |succ D=>rw[zG];dsimp only;rw[hf];rfl
theorem W6 (c:Nd->Int):∀ l:List Nd,zo ((l.flatMap Nd.kids).map c)=zo (l.map fun k=>zo (k.kids.map c))
 |[]=>rfl
 |k::l=>by rw[List.flatMap_cons,List.map_append,zlb,List.map_cons,wc,W6 c l]
theorem Qf (B:Nd->List Int):∀ l:List Nd,(l.flatMap Nd.kids).flatMap B=l.flatMap fun k=>k.kids.flatMap B
 |[]=>rfl
 |k::l=>by rw[List.flatMap_cons,List.flatMap_append,List.flatMap_cons,Qf B l]
theorem Qz {D:Nat} {x:Nd} (h:Ok (D+1) x) (h0:x.kind≠0):∀ t∈z9 x,Ok D t:=by
 have hd:=h.dp.resolve_left h0
 intro t ht
 refine ⟨Zu h.vn t ht,?_,zak h.gd t ht,hd.2 t ht⟩
 have htr:=h.tr
 have tk:∀ {y:Nd},TrN y->∀ z∈y.kids,TrN z:=fun hy=>by
  cases hy with
  |mk t1 t2=>exact t2
 unfold z9 at ht
 split at ht
 ·obtain ⟨k,hk1,hk2⟩:=List.mem_flatMap.1 ht
  exact tk (tk htr k hk1) t hk2
 ·exact tk htr t ht
theorem XF (k e n:Int) (d:List Int) (ks:List Nd):wJ (.mk k e n d ks)=yB (.mk k e n d ks)+(if k=2/\e=7/\zn ks+zq ks=0 then n else 0):=rfl
theorem YS {k:Nd} (hv:VN k) (ht:TrN k) (hg:yt k) (h1:k.kind=1):∃ d q,k=.mk 1 0 0 d q/\8*yq d=d.length/\yf q=q.length/\(∀ x∈d,zm x)/\d.length%8=0/\d.length<=524280/\q.length<=65535:=by
 cases hv with
 |mk v1 v2 v3=>
  rename_i k e n d ks
  have h1':k=1:=h1
  subst h1'
  rcases v3 with ⟨a1,_⟩|⟨_,a2,a3,a4,a5,a6⟩|⟨a1,_⟩
  ·omega
  ·subst a2;subst a3
   cases ht with
   |mk t1 t2=>
    rw[yt] at hg
    exact ⟨d,ks,rfl,(t1 rfl).1,(t1 rfl).2,hg.1.2.1,a4,a5,a6⟩
  ·omega
theorem zlu {e n:Int} {d:List Int} {z:Nat} (hn0:0<=n) (hl:(d.length:Int)=z5 e n):trimB e n (d++List.replicate z 0)=trimB e n d:=by
 unfold trimB
 split
 ·rename_i h
  have hn:1<=z5 e n:=by
   unfold z5 bitsOf
   rw[if_pos h.1]
   omega
  rw[List.take_append_of_le_length (by omega)]
  congr 3
  unfold rd
  rw[List.getD_eq_getElem?_getD,List.getD_eq_getElem?_getD,List.getElem?_append_left (by omega)]
 ·rw[List.take_append_of_le_length (by omega)]
theorem ra {e n:Int} (he:0<=e/\e<6) (hn:0<=n/\n<=536870911):z5 e n<=8*zs e n:=by
 have h:=Xb (e:=e) hn
 unfold z5 zs
 rw[if_neg (by omega)]
 omega
theorem zfM {W:List Int} {D:Nat} (R:Rt W (zG [W] D) (body D) (ye D) (Ok D)) {a:Nat} {w:Int} (ha:At W a [w]) (m:Int) (hm:0<=m):∃ y,xu (zG [W] D) [W] m (wG [W] 0 (a:Int) 0 0)=(y,m,0)/\zi y=.mk 1 0 0 [] []:=by
 have ha0:At W a []:=(show At W a ([]++[w]) from ha).app.1
 obtain ⟨y,k1,k2⟩:=qi R a (d:=[]) (ks:=[]) rfl rfl (fun x h=>by cases h) (a:=0) (z:=0) (i0:=0) (pos:=0) (Nat.zero_le _) (fun t h=>by cases h) (m:=m-0) ha0 ha0 (by simp[ww];omega) (o:=⟨1,0,a,0,0,0,0,0+0⟩) rfl rfl rfl rfl
 refine ⟨y,?_,k2⟩
 unfold wG xu
 rw[if_pos (ha0.inB (n:=0+0) rfl)]
 dsimp only at k1 ⊢
 rw[if_pos rfl,if_neg (by omega),if_pos rfl]
 simp only[ww,List.map_nil] at k1
 have:zQ (zG [W] D) [W] (m-(0+0)) ⟨1,0,a,0,0,0,0,0+0⟩=(y,m-0-0,0):=k1
 rw[this]
 simp
theorem zfL {W:List Int} (hW:W.length<=268435456) {D:Nat} (R:Rt W (zG [W] D) (body D) (ye D) (Ok D)) {d:List Int} {ks:List Nd} (h8:8*yq d=d.length) (hq:yf ks=ks.length) (hb:∀ x∈d,zm x) (hd8:d.length%8=0) (hd:d.length<=524280) (hk:ks.length<=65535) (hQ:∀ t∈ks,Ok D t) {p a:Nat} {m:Int}
  (h1:At W p (xy (body D) (.mk 1 0 0 d ks)++ks.flatMap (body D))) (h2:At W a [yK (.mk 1 0 0 d ks) ((p:Int)-a-1)]) (hm:((d.length/8+ks.length:Nat):Int)+zo (ks.map (ye D))<=m) :
  ∃ y,zG [W] (D+1) m 0 a=(y,m-(((d.length/8+ks.length:Nat):Int)+zo (ks.map (ye D))),0)/\zi y=.mk 1 0 0 d ks:=by
 have hp:=h1.len
 have ha:=h2.len
 have e1:yK (.mk 1 0 0 d ks) ((p:Int)-a-1)=if d.length/8=0/\ks.length=0 then ya (-1) 0 0 else ya ((p:Int)-a-1) (d.length/8) ks.length:=rfl
 have hsn:=W7 R hQ
 rw[e1] at h2
 simp only[List.length_singleton] at ha
 by_cases hz:d.length/8=0/\ks.length=0
 ·rw[if_pos hz] at h2
  obtain rfl:d=[]:=List.length_eq_zero_iff.1 (by omega)
  obtain rfl:ks=[]:=List.length_eq_zero_iff.1 hz.2
  obtain ⟨q1,q2,q3⟩:=V0 (off:=-1) (d:=0) (q:=0) (by decide) (by decide) (by decide)
  rw[YC h2 (by omega) (by decide),q1]
  unfold wQ
  dsimp only
  rw[if_pos rfl,show (a:Int)+1+-1=a by omega]
  obtain ⟨y,k1,k2⟩:=zfM R h2 m (by simp[ww] at hm;omega)
  exact ⟨y,by rw[show ((0:Nat):Int)=0 from rfl,k1];simp[ww],k2⟩
 ·rw[if_neg hz] at h2
  obtain ⟨q1,q2,q3⟩:=V0 (off:=(p:Int)-a-1) (d:=d.length/8) (q:=ks.length) (by omega) (by omega) hk
  have hne:ya ((p:Int)-a-1) (d.length/8) ks.length≠0:=by
   unfold ya
   have:=Int.emod_nonneg ((p:Int)-a-1) (show (1073741824:Int)≠0 by decide)
   omega
  rw[YC h2 (by omega) hne,q1]
  unfold wQ
  dsimp only
  rw[if_pos rfl,show (a:Int)+1+((p:Int)-a-1)=p by omega]
  have e2:xy (body D) (.mk 1 0 0 d ks)=zN (d.length/8) d++yu (body D) (d.length/8) (d.length/8+ks.length) ks:=rfl
  rw[e2] at h1
  obtain ⟨h1a,h1b⟩:=h1.app
  have hlen:(zN (d.length/8) d++yu (body D) (d.length/8) (d.length/8+ks.length) ks).length=d.length/8+ks.length:=by rw[zmT,xh,wS]
  rw[hlen] at h1b
  have hin:=h1a.inB (n:=((d.length/8:Nat):Int)+(ks.length:Int)) (by rw[hlen];push_cast;rfl)
  obtain ⟨y,k1,k2⟩:=qi R p h8 hq hb (a:=d.length/8) (z:=0) (i0:=0) (pos:=d.length/8+ks.length) (by omega) hQ (m:=m-(((d.length/8:Nat):Int)+(ks.length:Int))) (by simpa using h1a) h1b (by push_cast at hm;omega) (o:=⟨1,0,p,((d.length/8:Nat):Int),ks.length,0,0,((d.length/8:Nat):Int)+(ks.length:Int)⟩) rfl rfl rfl (by simp)
  refine ⟨y,?_,k2⟩
  unfold wG xu
  rw[if_pos hin]
  dsimp only at k1 ⊢
  rw[if_pos rfl,if_neg (by push_cast at hm;omega),if_pos rfl,k1]
  congr 2
  push_cast
  omega
theorem zfI {W:List Int} (hW:W.length<=268435456) {D:Nat} {e n:Int} {d:List Int} (he:0<=e/\e<6) (hn:0<=n/\n<=536870911) (hl:(d.length:Int)=z5 e n) (ht:trimB e n d=d) (hb:∀ x∈d,zm x) {p a:Nat} {m:Int}
  (h1:At W p (xy (body D) (.mk 2 e n d []))) (h2:At W a [yK (.mk 2 e n d []) ((p:Int)-a-1)]) (hm:zs e n<=m) :
  ∃ y,zG [W] (D+1) m 0 a=(y,m-zs e n,0)/\zi y=.mk 2 e n d []:=by
 have hp:=h1.len
 have ha:=h2.len
 have e1:yK (.mk 2 e n d []) ((p:Int)-a-1)=yv ((p:Int)-a-1) e n:=by
  unfold yK
  show (if (2:Int)=0 then 0 else if (2:Int)=1 then _ else if e=7 then _ else yv ((p:Int)-a-1) e n)=_
  rw[if_neg (by decide),if_neg (by decide),if_neg (by omega)]
 have e2:xy (body D) (.mk 2 e n d [])=zN (zs e n).toNat d:=by
  unfold xy
  show (if (2:Int)=1 then _ else if e=7 then _ else if e=6 then _ else zN (zs e n).toNat d)=_
  rw[if_neg (by decide),if_neg (by omega),if_neg (by omega)]
 rw[e1] at h2
 rw[e2] at h1
 have hw:=ZT (e:=e) hn
 simp only[List.length_singleton] at ha
 rw[e2,xh] at hp
 obtain ⟨q1,q2,q3⟩:=VZ (off:=(p:Int)-a-1) (e:=e) (c:=n) (by omega) (by omega) hn
 have hne:yv ((p:Int)-a-1) e n≠0:=by omega
 rw[YC h2 (by omega) hne,q1]
 unfold wQ
 dsimp only
 rw[if_neg (by decide),if_pos rfl,show (a:Int)+1+((p:Int)-a-1)=p by omega]
 have hin:=h1.inB (n:=zs e n) (by rw[xh];omega)
 have h7:¬e=7:=by omega
 unfold xY xu
 rw[if_neg h7,if_pos hin]
 dsimp only
 rw[if_pos rfl,if_neg (by omega),if_neg (by decide)]
 unfold xo
 dsimp only
 rw[if_pos he.2,h1.cutB (by rw[xh];omega)]
 have hbw:=ra he hn
 refine ⟨_,rfl,?_⟩
 rw[Xc _ hb (by omega),zlu hn.1 hl,ht,zi,if_neg (by decide)]
 rfl
theorem zfJ {W:List Int} (hW:W.length<=268435456) {D:Nat} (R:Rt W (zG [W] D) (body D) (ye D) (Ok D)) {n:Int} {ks:List Nd} (hn:0<=n/\n<=536870911) (hk:(ks.length:Int)=n) (hQ:∀ t∈ks,Ok D t) {p a:Nat} {m:Int}
  (h1:At W p (xy (body D) (.mk 2 6 n [] ks)++ks.flatMap (body D))) (h2:At W a [yK (.mk 2 6 n [] ks) ((p:Int)-a-1)]) (hm:zs 6 n+zo (ks.map (ye D))<=m) :
  ∃ y,zG [W] (D+1) m 0 a=(y,m-(zs 6 n+zo (ks.map (ye D))),0)/\zi y=.mk 2 6 n [] ks:=by
 have hp:=h1.len
 have ha:=h2.len
 have e1:yK (.mk 2 6 n [] ks) ((p:Int)-a-1)=yv ((p:Int)-a-1) 6 n:=rfl
 have e2:xy (body D) (.mk 2 6 n [] ks)=yu (body D) 0 ks.length ks:=rfl
 rw[e1] at h2
 rw[e2] at h1
 have hw:zs 6 n=n:=by unfold zs bitsOf;simp;omega
 have hsn:=W7 R hQ
 simp only[List.length_singleton] at ha
 obtain ⟨q1,q2,q3⟩:=VZ (off:=(p:Int)-a-1) (e:=6) (c:=n) (by omega) (by omega) hn
 have hne:yv ((p:Int)-a-1) 6 n≠0:=by omega
 obtain ⟨h1a,h1b⟩:=h1.app
 rw[wS] at h1b
 rw[YC h2 (by omega) hne,q1]
 unfold wQ
 dsimp only
 rw[if_neg (by decide),if_pos rfl,show (a:Int)+1+((p:Int)-a-1)=p by omega]
 have hin:=h1a.inB (n:=zs 6 n) (by rw[wS];omega)
 unfold xY xu
 rw[if_neg (show ¬(6:Int)=7 by decide),if_pos hin]
 dsimp only
 rw[if_pos rfl,if_neg (by omega),if_neg (by decide)]
 unfold xo
 dsimp only
 rw[if_neg (by decide)]
 obtain ⟨ys,k1,k2⟩:=Jw R p ks 0 ks.length 0 (m-zs 6 n) [] (fun m (i:Nat)=>if (6:Int)=6 then zG [W] D m 0 ((p:Int)+i) else zQ (zG [W] D) [W] m (yj ⟨2,0,p,0,0,6,n,zs 6 n⟩ i)) (fun m j=>by
  rw[if_pos (show (6:Int)=6 from rfl)]
  congr 1
  omega) hQ h1a h1b (by omega)
 rw[show n.toNat=ks.length by omega,k1]
 unfold wZ
 dsimp only
 rw[if_pos rfl,zmV]
 refine ⟨_,by rw[show m-zs 6 n-zo (ks.map (ye D))=m-(zs 6 n+zo (ks.map (ye D))) by omega],?_⟩
 rw[zi,if_neg (by decide),xb,k2]
theorem zfG {W:List Int} (hW:W.length<=268435456) {D:Nat} (R:Rt W (zG [W] D) (body D) (ye D) (Ok D)) {n:Int} {ks:List Nd} (hn:0<=n/\n<=536870911) (hk:(ks.length:Int)=n)
  (hs:∀ k∈ks,∃ d q,k=.mk 1 0 0 d q/\8*yq d=d.length/\yf q=q.length/\(∀ x∈d,zm x)/\d.length%8=0/\d.length<=524280/\q.length<=65535) (hQ:∀ t∈ks.flatMap Nd.kids,Ok D t) {p a:Nat} {m:Int}
  (h1:At W p (xy (body D) (.mk 2 7 n [] ks)++(ks.flatMap Nd.kids).flatMap (body D))) (h2:At W a [yK (.mk 2 7 n [] ks) ((p:Int)-a-1)]) (hm:wJ (.mk 2 7 n [] ks)+zo ((ks.flatMap Nd.kids).map (ye D))<=m) :
  ∃ y,zG [W] (D+1) m 0 a=(y,m-(wJ (.mk 2 7 n [] ks)+zo ((ks.flatMap Nd.kids).map (ye D))),0)/\zi y=.mk 2 7 n [] ks:=by
 have hp:=h1.len
 have ha:=h2.len
 have e1:yK (.mk 2 7 n [] ks) ((p:Int)-a-1)=yv ((p:Int)-a-1) 7 (n*((zn ks+zq ks:Nat):Int)):=rfl
 have e2:xy (body D) (.mk 2 7 n [] ks)=ya n (zn ks) (zq ks)::xw (body D) (zn ks) (zq ks) 1 (1+ks.length*(zn ks+zq ks)) ks:=rfl
 have e3:wJ (.mk 2 7 n [] ks)=1+n*((zn ks+zq ks:Nat):Int)+(if zn ks+zq ks=0 then n else 0):=by
  show (1+n*((zn ks+zq ks:Nat):Int))+(if (2:Int)=2/\(7:Int)=7/\zn ks+zq ks=0 then n else 0)=_
  simp only[true_and]
 have hal:=Wj (body D) (zn ks) (zq ks) 1 (1+ks.length*(zn ks+zq ks)) ks (fun k hk=>YV hk)
 rw[e1] at h2
 rw[e2,List.cons_append] at h1
 rw[e2,List.cons_append,zmU,zmT,hal] at hp
 have hnu:n*((zn ks+zq ks:Nat):Int)=((ks.length*(zn ks+zq ks):Nat):Int):=by rw[←hk];push_cast;rfl
 rw[e3,hnu] at hm ⊢
 rw[hnu] at h2
 have hsn:=W7 R hQ
 have hud:zn ks<=65535:=YT fun x hx=>by
  obtain ⟨d,q,rfl,_,_,_,_,g1,_⟩:=hs x hx
  show d.length/8<=65535
  omega
 have huq:zq ks<=65535:=YU fun x hx=>by
  obtain ⟨d,q,rfl,_,_,_,_,_,g1⟩:=hs x hx
  exact g1
 simp only[List.length_singleton] at ha
 obtain ⟨q1,q2,q3⟩:=VZ (off:=(p:Int)-a-1) (e:=7) (c:=((ks.length*(zn ks+zq ks):Nat):Int)) (by omega) (by omega) (by omega)
 have hne:yv ((p:Int)-a-1) 7 ((ks.length*(zn ks+zq ks):Nat):Int)≠0:=by omega
 obtain ⟨t1,t2,t3⟩:=V0 (off:=n) (d:=zn ks) (q:=zq ks) (by omega) hud huq
 obtain ⟨w1,w2,w3⟩:=h1.cons
 obtain ⟨h1a,h1b⟩:=w3.app
 rw[hal] at h1b
 have hin:inB [W] 0 p (((ks.length*(zn ks+zq ks):Nat):Int)+1):=by
  have:=(show At W p ([ya n (zn ks) (zq ks)]++(xw (body D) (zn ks) (zq ks) 1 (1+ks.length*(zn ks+zq ks)) ks++(ks.flatMap Nd.kids).flatMap (body D))) from h1)
  rw[←List.append_assoc] at this
  exact this.app.1.inB (by rw[zmT,hal,List.length_singleton];push_cast;omega)
 rw[YC h2 (by omega) hne,q1]
 unfold wQ
 dsimp only
 rw[if_neg (by decide),if_pos rfl,show (a:Int)+1+((p:Int)-a-1)=p by omega]
 unfold xY wn xu
 rw[if_pos (show (7:Int)=7 from rfl),if_pos hin,w1,t1]
 dsimp only
 have hcond:(0:Int)=0/\0<=n/\n*((zn ks:Int)+(zq ks:Int))<=((ks.length*(zn ks+zq ks):Nat):Int):=⟨rfl,hn.1,by rw[show n*((zn ks:Int)+(zq ks:Int))=n*((zn ks+zq ks:Nat):Int) by push_cast;rfl,hnu];exact Int.le_refl _⟩
 rw[if_pos hcond]
 dsimp only
 have hun:((zn ks:Int)+(zq ks:Int)=0)=(zn ks+zq ks=0):=by
  apply propext
  omega
 simp only[hun]
 generalize hz:(if zn ks+zq ks=0 then n else 0)=z at hm ⊢
 have hz0:0<=z:=by subst hz;split<;>omega
 rw[if_pos trivial,if_neg (by omega),if_neg (by decide)]
 unfold xo
 dsimp only
 rw[if_neg (by decide)]
 rw[W6] at hm hsn ⊢
 rw[Qf] at h1b
 obtain ⟨ys,k1,k2⟩:=jt R p (zn ks) (zq ks) ks 1 (1+ks.length*(zn ks+zq ks)) 0 (m-(((ks.length*(zn ks+zq ks):Nat):Int)+1+z)) [] (fun m (i:Nat)=>if (7:Int)=6 then zG [W] D m 0 ((p:Int)+1+i) else zQ (zG [W] D) [W] m (yj ⟨2,0,(p:Int)+1,zn ks,zq ks,7,n,((ks.length*(zn ks+zq ks):Nat):Int)+1+z⟩ i)) (fun m j=>by
  rw[if_neg (show ¬(7:Int)=6 by decide)]
  unfold yj
  congr 2
  push_cast
  rw[Int.zero_add]) (fun k hk=>by
  obtain ⟨d,q,rfl,g1,g2,g3,g4,g5,g6⟩:=hs k hk
  have hud:=qv hk
  have hup:=YV hk
  have hud':d.length/8<=zn ks:=hud
  exact ⟨⟨d,q,rfl,g1,g2,g3,by omega,hup⟩,fun t ht=>hQ t (List.mem_flatMap.2 ⟨_,hk,ht⟩)⟩) h1a (by rw[←Nat.add_assoc];exact h1b) (by omega)
 rw[show n.toNat=ks.length by omega,k1]
 unfold wZ
 dsimp only
 rw[if_pos rfl,zmV]
 refine ⟨_,by congr 2;omega,?_⟩
 rw[zi,if_neg (by decide),xb,k2]
theorem jg {W:List Int} (hW:W.length<=268435456):∀ D,Rt W (zG [W] D) (body D) (ye D) (Ok D)
 |0=>⟨fun t a q m h1 h2 h3 h4=>by
   have hk:t.kind=0:=h1.dp
   have:=Vf h1.vn hk
   subst this
   exact ⟨nd0,by rw[Xm h3];show _=(nd0,m-0,_);rw[Int.sub_zero],Yn⟩,fun a m h=>Xm h 0 m,fun t h=>Xk 0 h.vn⟩
 |D+1=>by
  have R:=jg hW D
  refine ⟨fun t a q m h1 h2 h3 h4=>?_,fun a m h=>Xm h (D+1) m,fun t h=>Xk (D+1) h.vn⟩
  by_cases h0:t.kind=0
  ·have:=Vf h1.vn h0
   subst this
   refine ⟨nd0,?_,Yn⟩
   rw[Xm h3]
   show _=(nd0,m-0,_)
   rw[Int.sub_zero]
  ·have hT:=Qz h1 h0
   rw[body,if_neg h0] at h2
   rw[ye,if_neg h0] at h4 ⊢
   obtain ⟨hs,hkk⟩:=wX h1.vn
   rcases hs with hs|hs|hs
   ·exact absurd hs.1 h0
   ·obtain ⟨d,ks,rfl,g1,g2,g3,g4,g5,g6⟩:=YS h1.vn h1.tr h1.gd hs.1
    have e:wJ (.mk 1 0 0 d ks)=((d.length/8+ks.length:Nat):Int):=by
     rw[XF,if_neg (fun h=>absurd h.1 (by decide)),Int.add_zero]
     rfl
    rw[e] at h4 ⊢
    exact zfL hW R g1 g2 g3 g4 g5 g6 hT h2 h3 h4
   ·cases t with
    |mk k e n d ks=>
     obtain ⟨k2,hn,he,h6,hl6⟩:=hs
     have k2':k=2:=k2
     subst k2'
     have hn':0<=n/\n<=536870911:=hn
     have he':0<=e/\e<=7:=he
     have hg:=h1.gd
     rw[yt] at hg
     by_cases e7:e=7
     ·subst e7
      obtain ⟨a1,a2⟩:=h6 (show (6:Int)<=7 by decide)
      obtain rfl:d=[]:=List.length_eq_zero_iff.1 a1
      have hst:∀ k∈ks,k.kind=1:=by
       cases h1.vn with
       |mk v1 v2 v3=>exact v2 rfl rfl
      have htr:∀ k∈ks,TrN k:=by
       cases h1.tr with
       |mk t1 t2=>exact t2
      exact zfG hW R hn' a2 (fun k hk=>YS (hkk k hk) (htr k hk) (goods_iff.1 hg.2 k hk) (hst k hk)) hT h2 h3 h4
     ·have et:z9 (.mk 2 e n d ks)=ks:=by
       show (if (2:Int)=2/\e=7 then _ else ks)=_
       rw[if_neg (fun h=>e7 h.2)]
      have eo:wJ (.mk 2 e n d ks)=zs e n:=by
       rw[XF,if_neg (fun h=>e7 h.2.1),Int.add_zero]
       unfold yB
       show (if (2:Int)=0 then 0 else if (2:Int)=1 then _ else if e=7 then _ else zs e n)=_
       rw[if_neg (by decide),if_neg (by decide),if_neg e7]
      rw[et] at h2 h4 hT ⊢
      rw[eo] at h4 ⊢
      by_cases e6:e=6
      ·subst e6
       obtain ⟨a1,a2⟩:=h6 (show (6:Int)<=6 by decide)
       obtain rfl:d=[]:=List.length_eq_zero_iff.1 a1
       exact zfJ hW R hn' a2 hT h2 h3 h4
      ·obtain ⟨b1,b2,b3⟩:=hl6 (show e<6 by omega)
       obtain rfl:ks=[]:=List.length_eq_zero_iff.1 b1
       rw[List.flatMap_nil,List.append_nil] at h2
       simp only[List.map_nil,ww,Int.add_zero] at h4 ⊢
       exact zfI hW (e:=e) ⟨he'.1,by omega⟩ hn' b2 b3 hg.1.2.1 h2 h3 h4
theorem ze4 {w i m:Nat} (hw:w<2^i) (h:i+m<=64):w &&& (2^64-1-(2^m-1)*2^i)=w:=by
 have hk:2^64=2^(64-i)*2^i:=by rw[←Nat.pow_add];congr 1;omega
 have hmi:2^m<=2^(64-i):=Nat.pow_le_pow_right (by decide) (by omega)
 have hi:0<2^i:=Nat.pow_pos (by decide)
 have hm:0<2^m:=Nat.pow_pos (by decide)
 have e:2^64-1-(2^m-1)*2^i=2^i*(2^(64-i)-2^m)+(2^i-1):=by
  have h2:2^m*2^i<=2^(64-i)*2^i:=Nat.mul_le_mul_right _ hmi
  rw[hk,Nat.sub_mul,Nat.one_mul,Nat.mul_sub,Nat.mul_comm (2^i) (2^(64-i)),Nat.mul_comm (2^i) (2^m)]
  have h3:2^i<=2^m*2^i:=Nat.le_mul_of_pos_left _ hm
  omega
 rw[e]
 apply Nat.eq_of_testBit_eq
 intro j
 rw[Nat.testBit_and,Nat.testBit_two_pow_mul_add _ (by omega)]
 by_cases hj:j<i
 ·rw[if_pos hj,Nat.testBit_two_pow_sub_one,decide_eq_true hj,Bool.and_true]
 ·rw[if_neg hj]
  have:w.testBit j=false:=Nat.testBit_lt_two_pow (Nat.lt_of_lt_of_le hw (Nat.pow_le_pow_right (by decide) (by omega)))
  rw[this,Bool.false_and]
theorem ze6 {v i m:Nat} (h:i+m<=64):(v*2^i%2^64) &&& ((2^m-1)*2^i)=v%2^m*2^i:=by
 apply Nat.eq_of_testBit_eq
 intro j
 rw[Nat.testBit_and,Nat.testBit_mod_two_pow,Nat.mul_comm v,Nat.mul_comm (2^m-1),Nat.mul_comm (v%2^m),Nat.testBit_two_pow_mul,Nat.testBit_two_pow_mul,Nat.testBit_two_pow_mul,Nat.testBit_two_pow_sub_one,Nat.testBit_mod_two_pow]
 by_cases h1:j≥i
 ·by_cases h2:j-i<m
  ·rw[decide_eq_true h1,decide_eq_true h2,decide_eq_true (show j<64 by omega)];simp
  ·rw[decide_eq_false h2];simp
 ·rw[decide_eq_false h1];simp
theorem zdp {w v i m:Nat} (hw:w<2^i) (hv:v<2^64) (h1:1<=m) (h2:i+m<=64):ev 291 [.pv (U (w:Int)),.pv (I (i:Int)),.pv (I (m:Int)),.pv (U (v:Int))] []=ok (U ((w+v%2^m*2^i:Nat):Int)):=by
 have hk:2^64=2^(64-i)*2^i:=by rw[←Nat.pow_add];congr 1;omega
 have hmi:2^m<=2^(64-i):=Nat.pow_le_pow_right (by decide) (by omega)
 have hi:0<2^i:=Nat.pow_pos (by decide)
 have hm:0<2^m:=Nat.pow_pos (by decide)
 have h64:2^m*2^i<=2^64:=by rw[hk];exact Nat.mul_le_mul_right _ hmi
 have hM:(2^m-1)*2^i<2^64:=by
  rw[Nat.sub_mul,Nat.one_mul]
  have h3:2^i<=2^m*2^i:=Nat.le_mul_of_pos_left _ hm
  omega
 have hw64:w<2^64:=Nat.lt_of_lt_of_le hw (Nat.pow_le_pow_right (by decide) (by omega))
 have hx:v%2^m*2^i<2^64:=by
  have:=Nat.mod_lt v hm
  have:v%2^m*2^i<=(2^m-1)*2^i:=Nat.mul_le_mul_right _ (by omega)
  omega
 rw[zmo,uW m h1 (by omega),wB (n:=i) (by omega)]
 dsimp only[ze,zg,zmS,wR]
 have hmin:min (i:Int).toNat 64=i:=by rw[Int.toNat_natCast,Nat.min_eq_left (by omega)]
 have ei:(2:Int)^i=((2^i:Nat):Int):=by push_cast;rfl
 have eM:IntKind.wrap .u64 (((2^m-1:Nat):Int)*2^i)=(((2^m-1)*2^i:Nat):Int):=by
  rw[ei,←Int.natCast_mul];exact wB hM
 have eV:IntKind.wrap .u64 ((v:Int)*2^i)=((v*2^i%2^64:Nat):Int):=by
  rw[Kk,ei,←Int.natCast_mul]
  have:(18446744073709551616:Int)=((2^64:Nat):Int):=rfl
  rw[this,←Int.natCast_emod]
 rw[hmin,eM,eV]
 have e1:(BitVec.ofInt 64 (w:Int) &&& ~~~BitVec.ofInt 64 (((2^m-1)*2^i:Nat):Int)).toNat=w:=by
  rw[BitVec.toNat_and,BitVec.toNat_not,vz hw64,vz hM,ze4 hw h2]
 have e2:(BitVec.ofInt 64 ((v*2^i%2^64:Nat):Int) &&& BitVec.ofInt 64 (((2^m-1)*2^i:Nat):Int)).toNat=v%2^m*2^i:=by
  rw[BitVec.toNat_and,vz (Nat.mod_lt _ (by decide)),vz hM,ze6 h2]
 rw[e1,e2,wB hw64,wB hx]
 have e3:(BitVec.ofInt 64 (w:Int) ||| BitVec.ofInt 64 ((v%2^m*2^i:Nat):Int)).toNat=w+v%2^m*2^i:=by
  rw[BitVec.toNat_or,vz hw64,vz hx,Nat.or_comm,Nat.mul_comm,←Nat.two_pow_add_eq_or_of_lt hw]
  omega
 have hs:w+v%2^m*2^i<2^64:=by
  have h3:v%2^m*2^i<=(2^m-1)*2^i:=Nat.mul_le_mul_right _ (by have:=Nat.mod_lt v hm;omega)
  have h4:(2^m-1)*2^i+2^i<=2^64:=by
   rw[Nat.sub_mul,Nat.one_mul]
   have h3:2^i<=2^m*2^i:=Nat.le_mul_of_pos_left _ hm
   omega
  omega
 rw[e3,wB hs]
 simp[yS]
theorem Zw {w v:Int} {i m:Nat} (hw:0<=w/\w<2^i) (hv:0<=v/\v<18446744073709551616) (h1:1<=m) (h2:i+m<=64):ev 291 [.pv (U w),.pv (I (i:Int)),.pv (I (m:Int)),.pv (U v)] []=ok (U (w+v%2^m*2^i)):=by
 obtain ⟨a,rfl⟩:=Int.eq_ofNat_of_zero_le hw.1
 obtain ⟨b,rfl⟩:=Int.eq_ofNat_of_zero_le hv.1
 have hw':a<2^i:=by have:=hw.2;exact_mod_cast this
 have hv':b<2^64:=by have:=hv.2;omega
 rw[zdp hw' hv' h1 h2]
 push_cast
 rfl
theorem zdX {off:Int} {d q:Nat} (hd:d<=65535) (hq:q<=65535):ev 288 [.pv (.agg [I 0,I off,I d,I q,I 0,I 0,Bo false,I 0,yO 0,yO 0])] []=ok (U (ya off d q)):=by
 have hm:=Int.emod_nonneg off (show (1073741824:Int)≠0 by decide)
 have hl:=Int.emod_lt_of_pos off (show (0:Int)<1073741824 by decide)
 have i1:=Zw (w:=0) (v:=0) (i:=0) (m:=2) (by decide) (by decide) (by decide) (by decide)
 have i2:=Zw (w:=0) (v:=off%18446744073709551616) (i:=2) (m:=30) (by decide) (by omega) (by decide) (by decide)
 have e2:(0:Int)+off%18446744073709551616%2^30*2^2=off%1073741824*4:=by omega
 rw[e2] at i2
 have i3:=Zw (w:=off%1073741824*4) (v:=d) (i:=32) (m:=16) (by omega) (by omega) (by decide) (by decide)
 have e3:off%1073741824*4+(d:Int)%2^16*2^32=off%1073741824*4+d*4294967296:=by omega
 rw[e3] at i3
 have i4:=Zw (w:=off%1073741824*4+d*4294967296) (v:=q) (i:=48) (m:=16) (by omega) (by omega) (by decide) (by decide)
 have e4:off%1073741824*4+d*4294967296+(q:Int)%2^16*2^48=ya off d q:=by unfold ya;omega
 rw[e4] at i4
 rw[zbn,show IntKind.wrap .u64 0=0 from rfl,show ev 291 [.pv (U 0),.pv (I 0),.pv (I 2),.pv (U 0)] []=ok (U 0) from i1]
 dsimp only[zu,ze,zg,zmS]
 rw[show ((0:Int)==0)=true from rfl,Kk off]
 dsimp only[zc]
 rw[show ev 291 [.pv (U 0),.pv (I 2),.pv (I 30),.pv (U (off%18446744073709551616))] []=ok (U (off%1073741824*4)) from i2]
 dsimp only[ze,zg,zmS]
 rw[wM (x:=(d:Int)) (by omega),show ev 291 [.pv (U (off%1073741824*4)),.pv (I 32),.pv (I 16),.pv (U d)] []=ok (U (off%1073741824*4+d*4294967296)) from i3]
 dsimp only[ze,zg,zmS]
 rw[wM (x:=(q:Int)) (by omega),show ev 291 [.pv (U (off%1073741824*4+d*4294967296)),.pv (I 48),.pv (I 16),.pv (U q)] []=ok (U (ya off d q)) from i4]
 rfl
theorem zdY {off e c:Int} (he:0<=e/\e<=7) (hc:0<=c/\c<=536870911):ev 288 [.pv (.agg [I 1,I off,I 0,I 0,I e,I c,Bo false,I 0,yO 0,yO 0])] []=ok (U (yv off e c)):=by
 have hm:=Int.emod_nonneg off (show (1073741824:Int)≠0 by decide)
 have hl:=Int.emod_lt_of_pos off (show (0:Int)<1073741824 by decide)
 have i1:=Zw (w:=0) (v:=1) (i:=0) (m:=2) (by decide) (by decide) (by decide) (by decide)
 have i2:=Zw (w:=1) (v:=off%18446744073709551616) (i:=2) (m:=30) (by decide) (by omega) (by decide) (by decide)
 have e2:(1:Int)+off%18446744073709551616%2^30*2^2=off%1073741824*4+1:=by omega
 rw[e2] at i2
 have i3:=Zw (w:=off%1073741824*4+1) (v:=e) (i:=32) (m:=3) (by omega) (by omega) (by decide) (by decide)
 have e3:off%1073741824*4+1+e%2^3*2^32=off%1073741824*4+1+e*4294967296:=by omega
 rw[e3] at i3
 have i4:=Zw (w:=off%1073741824*4+1+e*4294967296) (v:=c) (i:=35) (m:=29) (by omega) (by omega) (by decide) (by decide)
 have e4:off%1073741824*4+1+e*4294967296+c%2^29*2^35=yv off e c:=by unfold yv;omega
 rw[e4] at i4
 rw[zbn,show IntKind.wrap .u64 1=1 from rfl,show ev 291 [.pv (U 0),.pv (I 0),.pv (I 2),.pv (U 1)] []=ok (U 1) from i1]
 dsimp only[zu,ze,zg,zmS]
 rw[show ((1:Int)==0)=false from rfl,show ((1:Int)==1)=true from rfl,Kk off]
 dsimp only[zc,zu]
 rw[show ev 291 [.pv (U 1),.pv (I 2),.pv (I 30),.pv (U (off%18446744073709551616))] []=ok (U (off%1073741824*4+1)) from i2]
 dsimp only[ze,zg,zmS]
 rw[wM (x:=e) (by omega),show ev 291 [.pv (U (off%1073741824*4+1)),.pv (I 32),.pv (I 3),.pv (U e)] []=ok (U (off%1073741824*4+1+e*4294967296)) from i3]
 dsimp only[ze,zg,zmS]
 rw[wM (x:=c) (by omega),show ev 291 [.pv (U (off%1073741824*4+1+e*4294967296)),.pv (I 35),.pv (I 29),.pv (U c)] []=ok (U (yv off e c)) from i4]
 rfl
theorem jy {a1 a2 a3 a4 a5 a6 a7 a8 a9:Int} {b:Bool}:xk [false,false,false,false,false,false,true,false,false,false] [I a1,I a2,I a3,I a4,I a5,I a6,Bo b,I a7,yO a8,yO a9] [I a1,I a2,I a3,I a4,I a5,I a6,Bo b,I a7,yO a8,yO a9]=some true:=by
 simp[xk]
theorem Ku {off:Int} {d q:Nat} (ho:-536870912<=off/\off<=536870911) (hd:d<=65535) (hq:q<=65535):ev 252 [.pv (.agg [I 0,I off,I d,I q,I 0,I 0,Bo false,I 0,yO 0,yO 0])] []=ok (.tup [U (ya off d q),Bo true]):=by
 have hp:=zdX (off:=off) hd hq
 obtain ⟨q1,q2,q3⟩:=V0 ho hd hq
 rw[zbl,zbm,hp]
 dsimp only[ze,zg,zmS]
 rw[xH q2,q1]
 dsimp only[yh,ze,zg,zmS,gy]
 rw[jy]
 rfl
theorem uw {off e c:Int} (ho:-536870912<=off/\off<=536870911) (he:0<=e/\e<=7) (hc:0<=c/\c<=536870911):ev 252 [.pv (.agg [I 1,I off,I 0,I 0,I e,I c,Bo false,I 0,yO 0,yO 0])] []=ok (.tup [U (yv off e c),Bo true]):=by
 have hp:=zdY (off:=off) he hc
 obtain ⟨q1,q2,q3⟩:=VZ ho he hc
 rw[zbl,zbm,hp]
 dsimp only[ze,zg,zmS]
 rw[xH q2,q1]
 dsimp only[yh,ze,zg,zmS,gy]
 rw[jy]
 rfl
theorem JC:∀ (D:Nat) {x:Nd},VN x->Dp D x->zD D x<=ye D x
 |0,x,hv,hd=>by
  have h0:x.kind=0:=hd
  rw[XA hv h0]
  exact Int.le_refl _
 |D+1,x,hv,hd=>by
  by_cases h0:x.kind=0
  ·rw[XA hv h0]
   exact Xk (D+1) hv
  ·have hd':=(hd.resolve_left h0).2
   rw[zD,ye,if_neg h0]
   have h1:yB x<=wJ x:=by
    unfold wJ
    split
    ·rename_i h
     obtain ⟨hs,_⟩:=wX hv
     rcases hs with hs|hs|hs<;>omega
    ·omega
   have h2:∀ l:List Nd,(∀ t∈l,zD D t<=ye D t)->zo (l.map (zD D))<=zo (l.map (ye D)):=by
    intro l
    induction l with
    |nil=>intro _;exact Int.le_refl _
    |cons t l ih=>
     intro h
     rw[List.map_cons,List.map_cons,wc,wc]
     have:=h t List.mem_cons_self
     have:=ih fun x hx=>h x (List.mem_cons_of_mem _ hx)
     omega
   have:=h2 (z9 x) fun t ht=>JC D (Zu hv t ht) (hd' t ht)
   omega
theorem Qr {C:Nd->Int} {G:Int->Nat->Nd×Int×Int} {Q:Nd->Prop}:∀ (c i:Nat) (m:Int) (acc:List Nd),(∀ m j,i<=j->j<i+c->(G m j).2.2=0->C (G m j).1<=m-(G m j).2.1/\Q (G m j).1)->(zO G c i m acc).2.2=0->
  ∃ ys,(zO G c i m acc).1=acc++ys/\ys.length=c/\zo (ys.map C)<=m-(zO G c i m acc).2.1/\∀ y∈ys,Q y
 |0,i,m,acc,h,h0=>⟨[],by simp[zO],rfl,by simp[zO,ww],fun y hy=>by cases hy⟩
 |c+1,i,m,acc,h,h0=>by
  rw[zO] at h0 ⊢
  by_cases e:(G m i).2.2=0
  ·rw[if_pos e] at h0 ⊢
   obtain ⟨ys,k1,k2,k3,k4⟩:=Qr c (i+1) _ _ (fun m j q1 q2=>h m j (by omega) (by omega)) h0
   obtain ⟨g1,g2⟩:=h m i (Nat.le_refl _) (by omega) e
   refine ⟨(G m i).1::ys,by rw[k1];simp,by simp[k2],?_,fun y hy=>?_⟩
   ·rw[List.map_cons,wc];omega
   ·rcases List.mem_cons.1 hy with rfl|hy
    ·exact g2
    ·exact k4 y hy
  ·rw[if_neg e] at h0
   exact absurd h0 e
theorem qj {c:Nd->Int}:∀ (l:List Nd) (n:Nat),(∀ x∈l,0<=c x)->zo ((l.take n).map c)<=zo (l.map c)
 |[],n,_=>by simp
 |x::l,0,h=>by
  rw[List.take_zero,List.map_nil,ww]
  exact we fun y hy=>by
   obtain ⟨t,ht,rfl⟩:=List.mem_map.1 hy
   exact h t ht
 |x::l,n+1,h=>by
  rw[List.take_succ_cons,List.map_cons,List.map_cons,wc,wc]
  have:=qj l n fun y hy=>h y (List.mem_cons_of_mem _ hy)
  omega
def ui (D:Nat) (F:Int->Int->Int->Nd×Int×Int):Prop:=∀ m s a,(F m s a).2.2=0->ye D (zi (F m s a).1)<=m-(F m s a).2.1/\VN (F m s a).1
theorem zce {D:Nat} {F:Int->Int->Int->Nd×Int×Int} (h:ui D F) (l:List (List Int)) (m:Int) {o:Ob} (hd:0<=o.data) (hz:(zQ F l m o).2.2=0) :
  ∃ d ks,(zQ F l m o).1=.mk 1 0 0 d ks/\d.length<=8*o.data.toNat/\ks.length=o.ptrs.toNat/\zo ((ks.map zi).map (ye D))<=m-(zQ F l m o).2.1/\(∀ y∈ks,VN y)/\((zQ F l m o).2.1=(zQ F l m o).2.1):=by
 unfold zQ at hz ⊢
 have hz':(zO (fun m (i:Nat)=>F m o.seg (o.at_+o.data+i)) o.ptrs.toNat 0 m []).2.2=0:=hz
 obtain ⟨ys,k1,k2,k3,k4⟩:=Qr (C:=fun x=>ye D (zi x)) (Q:=VN) o.ptrs.toNat 0 m [] (fun m j _ _ h0=>h m o.seg (o.at_+o.data+j) h0) hz'
 rw[vZ hz']
 have hcl:=Zh l o.seg o.at_ o.data
 refine ⟨_,_,rfl,by rw[xc];omega,by rw[k1,zmV,k2],?_,fun y hy=>k4 y (by rw[k1,zmV] at hy;exact hy),rfl⟩
 rw[k1,zmV,List.map_map]
 exact k3
theorem qr (d:List Int) (ks:List Nd):zi (.mk 1 0 0 d ks)=.mk 1 0 0 (d.take (8*yq d)) ((ks.map zi).take (yf ks)):=by rw[zi,if_pos rfl,xb]
theorem zi5 {l:List (List Int)} (hl:zJ l) (hs:Sm l) {s a:Int} (h0:(zV l s a).1≠0) (hf:(zV l s a).2.2.2=0) (he:(yn l s a).2=0) :
  ((yn l s a).1.kind=1->(yn l s a).1.data+(yn l s a).1.ptrs<=(yn l s a).1.cost)/\((yn l s a).1.kind=2->(yn l s a).1.elem≠7->zs (yn l s a).1.elem (yn l s a).1.n<=(yn l s a).1.cost)/\
  ((yn l s a).1.kind=2->(yn l s a).1.elem=7->1+(yn l s a).1.n*((yn l s a).1.data+(yn l s a).1.ptrs)<=(yn l s a).1.cost/\((yn l s a).1.data+(yn l s a).1.ptrs=0->1+(yn l s a).1.n<=(yn l s a).1.cost)):=by
 have hd:=vO (Qi hl s a)
 unfold yn at he ⊢
 rw[if_pos hf,if_neg h0] at he ⊢
 unfold wQ at he ⊢
 generalize zv (zV l s a).1=p at he hd ⊢
 by_cases k0:p.1=0
 ·rw[if_pos k0] at he ⊢
  unfold wG at he ⊢
  by_cases hb:inB l (zV l s a).2.1 ((zV l s a).2.2.1+p.2.1) (p.2.2.1+p.2.2.2.1)
  ·rw[if_pos hb]
   exact ⟨fun _=>by dsimp only;omega,fun h=>absurd h (by dsimp only;omega),fun h=>absurd h (by dsimp only;omega)⟩
  ·rw[if_neg hb] at he;exact xR he (by decide)
 ·rw[if_neg k0] at he ⊢
  by_cases k1:p.1=1
  ·rw[if_pos k1] at he ⊢
   unfold xY at he ⊢
   by_cases h7:p.2.2.2.2.1=7
   ·rw[if_pos h7] at he ⊢
    unfold wn at he ⊢
    by_cases hb:inB l (zV l s a).2.1 ((zV l s a).2.2.1+p.2.1) (p.2.2.2.2.2.1+1)
    ·rw[if_pos hb] at he ⊢
     split at he
     ·rename_i hk
      rw[if_pos hk]
      refine ⟨fun h=>absurd h (by dsimp only;omega),fun _ h=>absurd rfl h,fun _ _=>⟨?_,fun h=>?_⟩⟩
      ·have:=hk.2.1
       have:=hk.2.2
       dsimp only
       split<;>omega
      ·dsimp only at h ⊢
       rw[if_pos h]
       omega
     ·exact xR he (by decide)
    ·rw[if_neg hb] at he;exact xR he (by decide)
   ·rw[if_neg h7] at he ⊢
    by_cases hb:inB l (zV l s a).2.1 ((zV l s a).2.2.1+p.2.1) (zs p.2.2.2.2.1 p.2.2.2.2.2.1)
    ·rw[if_pos hb]
     exact ⟨fun h=>absurd h (by dsimp only;omega),fun _ _=>by dsimp only;omega,fun _ h=>absurd h h7⟩
    ·rw[if_neg hb] at he;exact xR he (by decide)
  ·rw[if_neg k1] at he
   split at he
   ·exact xR he (by decide)
   ·exact xR he (by decide)
theorem zgQ {l:List (List Int)} (hl:zJ l) (hs:Sm l):∀ D,ui D (zG l D):=by
 intro D
 induction D with
 |zero=>
  intro m s a hz
  unfold zG at hz ⊢
  by_cases h1:(zV l s a).2.2.2=0
  ·rw[if_pos h1] at hz ⊢
   by_cases h2:(zV l s a).1=0
   ·rw[if_pos h2]
    exact ⟨by show 0<=m-m;omega,XX⟩
   ·rw[if_neg h2] at hz;exact absurd hz (show ¬(7:Int)=0 by decide)
  ·rw[if_neg h1] at hz;exact absurd hz h1
 |succ D ih=>
  intro m s a hz
  refine ⟨?_,(Wx hl hs (D+1) m s a hz).1⟩
  rw[zG] at hz ⊢
  dsimp only at hz ⊢
  by_cases h1:(zV l s a).2.2.2=0
  ·rw[if_pos h1] at hz ⊢
   by_cases h2:(zV l s a).1=0
   ·rw[if_pos h2]
    show ye (D+1) (zi nd0)<=m-m
    rw[Yn,ye]
    show (if (0:Int)=0 then 0 else _)<=_
    rw[if_pos rfl]
    omega
   ·rw[if_neg h2] at hz ⊢
    unfold xu at hz ⊢
    by_cases h3:(yn l s a).2=0
    ·rw[if_pos h3] at hz ⊢
     have ho:=XD hl hs h2 h1 h3
     have hi:=zi5 hl hs h2 h1 h3
     generalize (yn l s a).1=o at hz ho hi ⊢
     by_cases h4:o.cost>m
     ·rw[if_pos h4] at hz;exact absurd hz (show ¬(8:Int)=0 by decide)
     ·rw[if_neg h4] at hz ⊢
      obtain ⟨hat,hd,hq,hel,hn,hco,hk,hw,hzz⟩:=ho
      by_cases k1:o.kind=1
      ·rw[if_pos k1] at hz ⊢
       obtain ⟨d,ks,e1,e2,e3,e4,e5,_⟩:=zce ih l (m-o.cost) hd.1 hz
       rw[e1,qr,ye]
       show (if (1:Int)=0 then 0 else wJ (.mk 1 0 0 (d.take (8*yq d)) ((ks.map zi).take (yf ks)))+zo (((ks.map zi).take (yf ks)).map (ye D)))<=_
       rw[if_neg (by decide),XF,if_neg (fun h=>absurd h.1 (by decide))]
       have e6:yB (.mk 1 0 0 (d.take (8*yq d)) ((ks.map zi).take (yf ks)))=(((d.take (8*yq d)).length/8+((ks.map zi).take (yf ks)).length:Nat):Int):=rfl
       have e7:=qj (c:=ye D) (ks.map zi) (yf ks) (fun x hx=>by
        obtain ⟨y,hy,rfl⟩:=List.mem_map.1 hx
        exact Xk D (XY y (e5 y hy)))
       rw[e6,List.length_take,List.length_take,List.length_map]
       have:=hi.1 k1
       omega
      ·have k2:o.kind=2:=by omega
       rw[if_neg k1] at hz ⊢
       unfold xo at hz ⊢
       by_cases h6:o.elem<6
       ·rw[if_pos h6]
        show ye (D+1) (zi (.mk 2 o.elem o.n _ []))<=m-(m-o.cost)
        rw[zi,if_neg (by decide),ye]
        show (if (2:Int)=0 then 0 else wJ (.mk 2 o.elem o.n _ [])+zo ((z9 (.mk 2 o.elem o.n _ [])).map (ye D)))<=_
        rw[if_neg (by decide),XF,if_neg (fun h=>by omega),zcv,if_neg (fun h=>by omega)]
        have e6:∀ d,yB (.mk 2 o.elem o.n d [])=zs o.elem o.n:=fun d=>by
         unfold yB
         show (if (2:Int)=0 then 0 else if (2:Int)=1 then _ else if o.elem=7 then _ else zs o.elem o.n)=_
         rw[if_neg (by decide),if_neg (by decide),if_neg (by omega)]
        show yB (.mk 2 o.elem o.n _ [])+0+0<=_
        rw[e6,←(hw k2 h6).2]
        omega
       ·rw[if_neg h6] at hz ⊢
        have hz':(zO (fun m (i:Nat)=>if o.elem=6 then zG l D m o.seg (o.at_+i) else zQ (zG l D) l m (yj o i)) o.n.toNat 0 (m-o.cost) []).2.2=0:=hz
        rw[vZ hz']
        by_cases e6:o.elem=6
        ·obtain ⟨ys,q1,q2,q3,q4⟩:=Qr (C:=fun x=>ye D (zi x)) (Q:=VN) o.n.toNat 0 (m-o.cost) [] (fun m j _ _ h0=>by
          rw[if_pos e6] at h0 ⊢
          exact ih _ _ _ h0) hz'
         generalize zO (fun m (i:Nat)=>if o.elem=6 then zG l D m o.seg (o.at_+i) else zQ (zG l D) l m (yj o i)) o.n.toNat 0 (m-o.cost) []=K at q1 q3 ⊢
         show ye (D+1) (zi (.mk 2 o.elem o.n [] K.1))<=m-K.2.1
         rw[q1,zmV,zi,if_neg (by decide),xb,ye]
         show (if (2:Int)=0 then 0 else wJ (.mk 2 o.elem o.n [] (ys.map zi))+zo ((z9 (.mk 2 o.elem o.n [] (ys.map zi))).map (ye D)))<=_
         rw[if_neg (by decide),XF,if_neg (fun h=>by omega),zcv,if_neg (fun h=>by omega)]
         have e7:yB (.mk 2 o.elem o.n [] (ys.map zi))=zs o.elem o.n:=by
          unfold yB
          show (if (2:Int)=0 then 0 else if (2:Int)=1 then _ else if o.elem=7 then _ else zs o.elem o.n)=_
          rw[if_neg (by decide),if_neg (by decide),if_neg (by omega)]
         have:=hi.2.1 k2 (by omega)
         rw[e7,List.map_map]
         have q3':zo (ys.map (ye D∘zi))<=m-o.cost-K.2.1:=q3
         omega
        ·have e7:o.elem=7:=by omega
         obtain ⟨ys,q1,q2,q3,q4⟩:=Qr (C:=fun x=>zo ((zi x).kids.map (ye D))) (Q:=fun x=>(zi x).data.length/8<=o.data.toNat/\(zi x).kids.length<=o.ptrs.toNat) o.n.toNat 0 (m-o.cost) [] (fun m j _ _ h0=>by
          rw[if_neg e6] at h0 ⊢
          obtain ⟨d,ks,g1,g2,g3,g4,g5,_⟩:=zce ih l m (o:=yj o j) hd.1 h0
          have g6:=qj (c:=ye D) (ks.map zi) (yf ks) (fun x hx=>by
           obtain ⟨y,hy,rfl⟩:=List.mem_map.1 hx
           exact Xk D (XY y (g5 y hy)))
          rw[g1,qr]
          refine ⟨?_,?_,?_⟩
          ·show zo (((ks.map zi).take (yf ks)).map (ye D))<=_
           omega
          ·show (d.take (8*yq d)).length/8<=_
           have g2':d.length<=8*o.data.toNat:=g2
           rw[List.length_take]
           omega
          ·show ((ks.map zi).take (yf ks)).length<=_
           have g3':ks.length=o.ptrs.toNat:=g3
           rw[List.length_take,List.length_map]
           omega) hz'
         generalize zO (fun m (i:Nat)=>if o.elem=6 then zG l D m o.seg (o.at_+i) else zQ (zG l D) l m (yj o i)) o.n.toNat 0 (m-o.cost) []=K at q1 q3 ⊢
         show ye (D+1) (zi (.mk 2 o.elem o.n [] K.1))<=m-K.2.1
         rw[q1,zmV,zi,if_neg (by decide),xb,ye]
         show (if (2:Int)=0 then 0 else wJ (.mk 2 o.elem o.n [] (ys.map zi))+zo ((z9 (.mk 2 o.elem o.n [] (ys.map zi))).map (ye D)))<=_
         rw[if_neg (by decide),XF,show z9 (.mk 2 o.elem o.n [] (ys.map zi))=(ys.map zi).flatMap Nd.kids from if_pos ⟨rfl,e7⟩,W6,List.map_map]
         have e8:yB (.mk 2 o.elem o.n [] (ys.map zi))=1+o.n*((zn (ys.map zi)+zq (ys.map zi):Nat):Int):=by
          unfold yB
          show (if (2:Int)=0 then 0 else if (2:Int)=1 then _ else if o.elem=7 then 1+o.n*((zn (ys.map zi)+zq (ys.map zi):Nat):Int) else _)=_
          rw[if_neg (by decide),if_neg (by decide),if_pos e7]
         have u1:zn (ys.map zi)<=o.data.toNat:=YT fun x hx=>by
          obtain ⟨y,hy,rfl⟩:=List.mem_map.1 hx
          exact (q4 y hy).1
         have u2:zq (ys.map zi)<=o.ptrs.toNat:=YU fun x hx=>by
          obtain ⟨y,hy,rfl⟩:=List.mem_map.1 hx
          exact (q4 y hy).2
         have hc7:=hi.2.2 k2 e7
         have hmul:o.n*((zn (ys.map zi)+zq (ys.map zi):Nat):Int)<=o.n*(o.data+o.ptrs):=Int.mul_le_mul_of_nonneg_left (by omega) hn.1
         rw[e8]
         have q3':zo (ys.map ((fun k=>zo (k.kids.map (ye D)))∘zi))<=m-o.cost-K.2.1:=q3
         split
         ·rename_i hu
          rw[hu.2.2]
          have:o.n<=o.n*(o.data+o.ptrs)∨o.data+o.ptrs=0:=by
           by_cases hz0:o.data+o.ptrs=0
           ·exact .inr hz0
           ·left
            have:=Int.mul_le_mul_of_nonneg_left (show (1:Int)<=o.data+o.ptrs by omega) hn.1
            omega
          rcases this with h|h
          ·simp only[Int.natCast_zero,Int.mul_zero]
           have:=hc7.1
           omega
          ·have:=hc7.2 h
           simp only[Int.natCast_zero,Int.mul_zero]
           omega
         ·have:=hc7.1
          omega
    ·rw[if_neg h3] at hz;exact absurd hz h3
  ·rw[if_neg h1] at hz;exact absurd hz h1
def vh (s:Int):zf:=[[.pv (I s)],[.clo (.func 261) [] [.ptr 0 0,.ptr 1 0]]]
theorem qA:ZM (.func 261) [] [.ptr 0 0,.ptr 1 0] (.clo (.func 261) [] [.ptr 0 0,.ptr 1 0])=true:=rfl
theorem Jq (a b:List AV):decide ([a,b].length=2)=true:=rfl
def Wh (D:Nat) (t:Nd):Prop:=∀ s:Int,0<=s->s+zD D t<=4611686018427387904->ev 261 [.pv t.x,.ptr 0 0,.ptr 1 0] (vh s)=some (.ret (.pv (.tup [])),vh (s+zD D t))
theorem xP:∀ (D:Nat) {x:Nd},VN x->0<=zD D x
 |0,x,hv=>XC hv
 |D+1,x,hv=>by
  rw[zD]
  have:=XC hv
  have:=we (l:=(z9 x).map (zD D)) fun y hy=>by
   obtain ⟨t,ht,rfl⟩:=List.mem_map.1 hy
   exact xP D (Zu hv t ht)
  omega
theorem Xn {f:Nd->Int} {l:List Nd} {i:Nat} (h:i<l.length):zo ((l.drop i).map f)=f l[i]+zo ((l.drop (i+1)).map f):=by
 rw[List.drop_eq_getElem_cons h,List.map_cons,wc]
theorem zl3 {D:Nat} {q:List Nd} (hq:q.length<=1073741824) (hv:∀ t∈q,Wh D t) (hn:∀ t∈q,VN t) (ks:List PV) (i1 i2 i7 i8 i9:Int) (xs10 xs11:List PV) (c0 c1 c2 c3 c4:PV):∀ (c j:Nat) (s:Int),j+c=q.length->0<=s->s+zo ((q.drop j).map (zD D))<=4611686018427387904->
  VJ ks i1 i2 (.sl 5 (zI q)) q.length j (I s) i7 i8 i9 xs10 xs11 c0 c1 c2 c3 c4=Yw ks i1 (IntKind.wrap .i64 (i2+1)) (I (s+zo ((q.drop j).map (zD D)))) i7 i8 i9 xs10 xs11:=by
 intro c
 induction c with
 |zero=>
  intro j s hj h0 hs
  rw[rC,decide_eq_false (by omega),List.drop_eq_nil_of_le (by omega)]
  simp[ww]
 |succ c ih=>
  intro j s hj h0 hs
  have hjl:j<q.length:=by omega
  have hV:=hv _ (List.getElem_mem hjl) s h0
  have hp:=xP D (hn _ (List.getElem_mem hjl))
  have hr:0<=zo ((q.drop (j+1)).map (zD D)):=we fun y hy=>by
   obtain ⟨t,ht,rfl⟩:=List.mem_map.1 hy
   exact xP D (hn t (List.mem_of_mem_drop ht))
  rw[Xn hjl] at hs ⊢
  have hV':=hV (by omega)
  unfold vh at hV'
  dsimp only[Nd.x] at hV'
  rw[rC,decide_eq_true (show (j:Int)<(q.length:Int) by omega)]
  dsimp only[yC,zmS,zc]
  rw[decide_eq_true (show (5:Nat)=5 from rfl),decide_eq_true (show 0<=(j:Int) by omega),decide_eq_true (show (j:Int)<((zI q).length:Int) by simp;omega)]
  dsimp only[zr,zc]
  rw[Int.toNat_natCast,vU hjl]
  dsimp only[zmS]
  rw[ZE,Ya,show (q[j].c.drop 0).take 5=q[j].c from rfl]
  dsimp only[Nd.c,zmQ,zmR,zmS,wl,zr,yM,zc]
  rw[hV']
  dsimp only[ze,zmQ,zmR,zg,zmS,wO,zc]
  rw[qA,Jq,zh (x:=(j:Int)+1) (by omega)]
  dsimp only[zc]
  have:=ih (j+1) (s+zD D q[j]) (by omega) (by omega) (by omega)
  rw[show s+(zD D q[j]+zo ((q.drop (j+1)).map (zD D)))=s+zD D q[j]+zo ((q.drop (j+1)).map (zD D)) by omega]
  exact this
theorem zcO {D:Nat} {ks:List Nd} (hq:ks.length<=1073741824) (hv:∀ t∈ks,Wh D t) (hn:∀ t∈ks,VN t) (i4 i5 i6:Int) (h7:i5≠7) (xs7 xs8:List PV):∀ (c j:Nat) (s:Int),j+c=ks.length->0<=s->s+zo ((ks.drop j).map (zD D))<=4611686018427387904->
  Yw (zI ks) ks.length j (I s) i4 i5 i6 xs7 xs8=some (.ret (.pv (.tup [])),vh (s+zo ((ks.drop j).map (zD D)))):=by
 intro c
 induction c with
 |zero=>
  intro j s hj h0 hs
  rw[VI,decide_eq_false (by omega),List.drop_eq_nil_of_le (by omega)]
  simp[ww,vh]
 |succ c ih=>
  intro j s hj h0 hs
  have hjl:j<ks.length:=by omega
  have hV:=hv _ (List.getElem_mem hjl) s h0
  have hp:=xP D (hn _ (List.getElem_mem hjl))
  have hr:0<=zo ((ks.drop (j+1)).map (zD D)):=we fun y hy=>by
   obtain ⟨t,ht,rfl⟩:=List.mem_map.1 hy
   exact xP D (hn t (List.mem_of_mem_drop ht))
  rw[Xn hjl] at hs ⊢
  have hV':=hV (by omega)
  unfold vh at hV'
  dsimp only[Nd.x] at hV'
  rw[VI,decide_eq_true (show (j:Int)<(ks.length:Int) by omega),decide_eq_true (show 0<=(j:Int) by omega),decide_eq_true (show (j:Int)<((zI ks).length:Int) by simp;omega)]
  dsimp only[zr,zc]
  rw[Int.toNat_natCast,vU hjl]
  dsimp only[zmS]
  rw[ZE,Ya,show (ks[j].c.drop 0).take 5=ks[j].c from rfl,show (i5 != 7)=true from by simpa using h7]
  dsimp only[Nd.c,zmQ,zmR,zc,zmS,wl,zr,yM]
  rw[hV']
  dsimp only[ze,zmQ,zmR,zg,zmS,wO,zc]
  rw[qA,Jq,zh (x:=(j:Int)+1) (by omega)]
  dsimp only[zc]
  have:=ih (j+1) (s+zD D ks[j]) (by omega) (by omega) (by omega)
  rw[show s+(zD D ks[j]+zo ((ks.drop (j+1)).map (zD D)))=s+zD D ks[j]+zo ((ks.drop (j+1)).map (zD D)) by omega]
  exact this
theorem zl2 {D:Nat} {ks:List Nd} (hq:ks.length<=1073741824) (hk:∀ k∈ks,k.kids.length<=1073741824) (hv:∀ k∈ks,∀ t∈k.kids,Wh D t) (hn:∀ k∈ks,∀ t∈k.kids,VN t) (i4 i6:Int) (xs7 xs8:List PV):∀ (c j:Nat) (s:Int),j+c=ks.length->0<=s->s+zo ((ks.drop j).map fun k=>zo (k.kids.map (zD D)))<=4611686018427387904->
  Yw (zI ks) ks.length j (I s) i4 7 i6 xs7 xs8=some (.ret (.pv (.tup [])),vh (s+zo ((ks.drop j).map fun k=>zo (k.kids.map (zD D))))):=by
 intro c
 induction c with
 |zero=>
  intro j s hj h0 hs
  rw[VI,decide_eq_false (by omega),List.drop_eq_nil_of_le (by omega)]
  simp[ww,vh]
 |succ c ih=>
  intro j s hj h0 hs
  have hjl:j<ks.length:=by omega
  have hmem:=List.getElem_mem hjl
  have nn:∀ k∈ks,0<=zo (k.kids.map (zD D)):=fun k hk=>we fun y hy=>by
   obtain ⟨t,ht,rfl⟩:=List.mem_map.1 hy
   exact xP D (hn k hk t ht)
  have hp:=nn _ hmem
  have hr:0<=zo ((ks.drop (j+1)).map fun k=>zo (k.kids.map (zD D))):=we fun y hy=>by
   obtain ⟨t,ht,rfl⟩:=List.mem_map.1 hy
   exact nn t (List.mem_of_mem_drop ht)
  rw[Xn hjl] at hs ⊢
  have hin:=zl3 (hk _ hmem) (hv _ hmem) (hn _ hmem) (zI ks) ks.length j i4 7 i6 xs7 xs8 (I ks[j].kind) (I ks[j].elem) (I ks[j].n) (.sl 1 (bs ks[j].data)) (.sl 5 (zI ks[j].kids)) ks[j].kids.length 0 s (by omega) h0 (by rw[List.drop_zero];omega)
  rw[List.drop_zero,zh (x:=(j:Int)+1) (by omega)] at hin
  rw[VI,decide_eq_true (show (j:Int)<(ks.length:Int) by omega),decide_eq_true (show 0<=(j:Int) by omega),decide_eq_true (show (j:Int)<((zI ks).length:Int) by simp;omega)]
  dsimp only[zr,zc]
  rw[Int.toNat_natCast,vU hjl]
  dsimp only[zmS]
  rw[ZE,Ya,show (ks[j].c.drop 0).take 5=ks[j].c from rfl,show ((7:Int) != 7)=false from rfl]
  dsimp only[Nd.c,zmQ,zmR,zu,zmS,wl,zr,yC,yM,zc]
  rw[wT]
  refine hin.trans ?_
  have:=ih (j+1) (s+zo (ks[j].kids.map (zD D))) (by omega) (by omega) (by omega)
  rw[show s+(zo (ks[j].kids.map (zD D))+zo ((ks.drop (j+1)).map fun k=>zo (k.kids.map (zD D))))=s+zo (ks[j].kids.map (zD D))+zo ((ks.drop (j+1)).map fun k=>zo (k.kids.map (zD D))) by omega]
  exact this
theorem zlM {x:Nd} (hg:yt x) (hv:VN x):zn x.kids+zq x.kids<=4611686018427387904:=by
 obtain ⟨hd,hk,hks⟩:=YE hg
 have:=YT (l:=x.kids) (b:=17592186044416) fun y hy=>by
  have:=(YE (hks y hy)).1
  omega
 have:=YU (l:=x.kids) (b:=1073741824) fun y hy=>(YE (hks y hy)).2.1
 omega
theorem zcN:∀ (D:Nat) (x:Nd),yt x->VN x->Dp D x->Wh D x
 |D,x,hg,hv,hd=>by
  intro s h0 hs
  have ho:=XC hv
  obtain ⟨hgd,hgk,hgs⟩:=YE hg
  have hob:yB x<=zD D x:=by
   cases D with
   |zero=>exact Int.le_refl _
   |succ D=>
    rw[zD]
    have:=we (l:=(z9 x).map (zD D)) fun y hy=>by
     obtain ⟨t,ht,rfl⟩:=List.mem_map.1 hy
     exact xP D (Zu hv t ht)
    omega
  have hO:=uB hg hv (by omega) (zlM hg hv)
  dsimp only[Nd.x] at hO
  unfold vh
  rw[Nd.x,zfV,hO,wT]
  dsimp only[ze,zg,zmS,z6]
  rw[zh (x:=s+yB x) (by omega)]
  by_cases k0:x.kind=0
  ·have:=Vf hv k0
   subst this
   have:=zcO (D:=D) (ks:=[]) (by simp) (fun t h=>by cases h) (fun t h=>by cases h) 0 0 0 (by decide) (bs []) (zI []) 0 0 (s+yB nd0) rfl (by omega) (by simp[ww];omega)
   refine this.trans ?_
   rw[XA hv k0,JF k0]
   simp[ww,vh]
  ·cases D with
   |zero=>exact absurd hd k0
   |succ D=>
    have hd':=(hd.resolve_left k0).2
    have hT:∀ t∈z9 x,Wh D t:=fun t ht=>zcN D t (zak hg t ht) (Zu hv t ht) (hd' t ht)
    rw[zD] at hs ⊢
    by_cases h7:x.kind=2/\x.elem=7
    ·have et:z9 x=x.kids.flatMap Nd.kids:=if_pos h7
     rw[et,W6] at hs ⊢
     rw[et] at hT
     have:=zl2 (D:=D) hgk (fun k hk=>(YE (hgs k hk)).2.1) (fun k hk t ht=>hT t (List.mem_flatMap.2 ⟨k,hk,ht⟩)) (fun k hk t ht=>Zu hv t (by rw[et];exact List.mem_flatMap.2 ⟨k,hk,ht⟩)) x.kind x.n (bs x.data) (zI x.kids) x.kids.length 0 (s+yB x) (by omega) (by omega) (by rw[List.drop_zero];omega)
     rw[List.drop_zero] at this
     rw[h7.2]
     refine this.trans ?_
     unfold vh
     rw[show s+(yB x+zo (x.kids.map fun k=>zo (k.kids.map (zD D))))=s+yB x+zo (x.kids.map fun k=>zo (k.kids.map (zD D))) by omega]
    ·have et:z9 x=x.kids:=if_neg h7
     have he7:x.elem≠7:=fun h=>by
      obtain ⟨hs',_⟩:=wX hv
      rcases hs' with h'|h'|h'<;>omega
     rw[et] at hs hT ⊢
     have:=zcO (D:=D) hgk hT (fun t ht=>Zu hv t (by rw[et];exact ht)) x.kind x.elem x.n he7 (bs x.data) (zI x.kids) x.kids.length 0 (s+yB x) (by omega) (by omega) (by rw[List.drop_zero];omega)
     rw[List.drop_zero] at this
     refine this.trans ?_
     unfold vh
     rw[show s+(yB x+zo (x.kids.map (zD D)))=s+yB x+zo (x.kids.map (zD D)) by omega]
theorem zdq {D:Nat} {x:Nd} (hg:yt x) (hv:VN x) (hd:Dp D x) (hb:zD D x<=4611686018427387904):ev 217 [.pv x.x] []=ok (I (zD D x)):=by
 have h:=zcN D x hg hv hd 0 (Int.le_refl _) (by omega)
 unfold vh at h
 dsimp only[Nd.x] at h
 rw[Nd.x,zfW,h]
 dsimp only[ze,zmQ,zmR,zg,zmS,wO,zc]
 rw[qA,Jq,Int.zero_add]
 rfl
theorem zdy {D:Nat} {x:Nd} (hg:yt x) (hv:VN x) (hd:Dp D x) (hb:zD D x<=4611686018427387904):ev 156 [.pv x.x] []=ok (I (zD D x+1)):=by
 have h:=zdq hg hv hd hb
 have hn:=xP D hv
 dsimp only[Nd.x] at h
 rw[Nd.x,zfY,h]
 dsimp only[ze,zg,zmS,z6]
 rw[zh (by omega)]
theorem getD_drop (b:List Int) (n k:Nat):(b.drop n).getD k 0=b.getD (n+k) 0:=by
 rw[List.getD_eq_getElem?_getD,List.getD_eq_getElem?_getD,List.getElem?_drop]
theorem KM {b:List Int} {i:Nat} (h:i<b.length):(bs b)[i]? = some (U8 (b.getD i 0)):=by
 rw[Yv h,List.getD_eq_getElem?_getD,List.getElem?_eq_getElem h]
 rfl
def Y6 (f:Nat->Nat):Nat->Nat
 |0=>0
 |k+1=>Y6 f k+f k*2^(8*k)
theorem gq {f:Nat->Nat} (hf:∀ k,f k<256):∀ k,Y6 f k<2^(8*k)
 |0=>by show 0<1;decide
 |k+1=>by
  have:=gq hf k
  have h1:=hf k
  have:f k*2^(8*k)<=255*2^(8*k):=Nat.mul_le_mul_right _ (by omega)
  rw[Y6,show 8*(k+1)=8*k+8 by omega,Nat.pow_add]
  omega
theorem zjg {a x i:Nat} (ha:a<2^i) (hx:x<256) (hi:i+8<=64):IntKind.wrap .u64 (BitVec.ofInt 64 (a:Int) ||| BitVec.ofInt 64 (IntKind.wrap .u64 (IntKind.wrap .u64 (x:Int)*2^(min (i:Int).toNat 64)))).toNat=((a+x*2^i:Nat):Int):=by
 have hk:2^i*2^8<=2^64:=by rw[←Nat.pow_add];exact Nat.pow_le_pow_right (by decide) hi
 have hi0:0<2^i:=Nat.pow_pos (by decide)
 have hx2:x*2^i<=255*2^i:=Nat.mul_le_mul_right _ (by omega)
 have e:IntKind.wrap .u64 (IntKind.wrap .u64 (x:Int)*2^(min (i:Int).toNat 64))=((x*2^i:Nat):Int):=by
  rw[wB (by omega),Int.toNat_natCast,Nat.min_eq_left (by omega),show (2:Int)^i=((2^i:Nat):Int) by push_cast;rfl,←Int.natCast_mul]
  exact wB (by omega)
 rw[e]
 have e3:(BitVec.ofInt 64 (a:Int) ||| BitVec.ofInt 64 ((x*2^i:Nat):Int)).toNat=a+x*2^i:=by
  rw[BitVec.toNat_or,vz (by omega),vz (by omega),Nat.or_comm,Nat.mul_comm,←Nat.two_pow_add_eq_or_of_lt ha]
  omega
 rw[e3,wB (by omega)]
def xn (b:List Int) (i:Nat):Nat:=(b.getD i 0).toNat
theorem xi {b:List Int} (hb:∀ x∈b,zm x) (i:Nat):((xn b i:Nat):Int)=b.getD i 0/\xn b i<256:=by
 have:=yL hb i
 unfold xn
 omega
theorem zev (f:Nat->Nat):Y6 f 8=0+f 0*1+f 1*256+f 2*65536+f 3*16777216+f 4*4294967296+f 5*1099511627776+f 6*281474976710656+f 7*72057594037927936:=rfl
theorem zew {b:List Int} (hb:∀ x∈b,zm x) (n:Nat):((Y6 (fun k=>xn b (n+k)) 8:Nat):Int)=xM (b.drop n):=by
 unfold xM
 simp only[getD_drop]
 rw[←(xi hb (n+0)).1,←(xi hb (n+1)).1,←(xi hb (n+2)).1,←(xi hb (n+3)).1,←(xi hb (n+4)).1,←(xi hb (n+5)).1,←(xi hb (n+6)).1,←(xi hb (n+7)).1]
 rw[zev]
 omega
theorem zhT {b:List Int} (hb:∀ x∈b,zm x) {i:Nat} (hi:8*i+8<=b.length) (hl:b.length<=17592186044416):∀ (c k:Nat),k+c=8->Ki (bs b) i ((Y6 (fun k=>xn b (8*i+k)) k:Nat):Int) k=ok (.tup [U (xM (b.drop (8*i))),Bo true]):=by
 intro c
 induction c with
 |zero=>
  intro k hk
  have:k=8:=by omega
  subst this
  rw[zcV,decide_eq_false (by decide),zew hb]
  rfl
 |succ c ih=>
  intro k hk
  have hx:=xi hb (8*i+k)
  rw[zcV,decide_eq_true (show (k:Int)<8 by omega),zh (x:=8*(i:Int)) (by omega),zh (x:=8*(i:Int)+k) (by omega),decide_eq_true (show 0<=8*(i:Int)+k by omega),decide_eq_true (show 8*(i:Int)+k<((bs b).length:Int) by simp;omega)]
  dsimp only[zr,zc]
  rw[show (8*(i:Int)+k).toNat=8*i+k by omega,KM (by omega),←hx.1]
  dsimp only[zmS,ym,zmQ,xF]
  rw[zh (x:=8*(k:Int)) (by omega),show (8*(k:Int))=((8*k:Nat):Int) by push_cast;rfl,wB (by omega),zjg (gq (fun j=>(xi hb (8*i+j)).2) k) hx.2 (by omega),zh (x:=(k:Int)+1) (by omega),show yS .shl ((8*k:Nat):Int)=true from by unfold yS;exact decide_eq_true (by omega)]
  exact ih (k+1) (by omega)
theorem zdo {b:List Int} (hb:∀ x∈b,zm x) {i:Nat} (hi:8*i+8<=b.length) (hl:b.length<=17592186044416):ev 116 [.pv (.sl 1 (bs b)),.pv (I (i:Int))] []=ok (.tup [U (xM (b.drop (8*i))),Bo true]):=by
 rw[zmn,zR,Int.tdiv_eq_ediv_of_nonneg (by omega),zh (x:=(b.length:Int)/8) (by omega),decide_eq_false (show ¬(i:Int)<0 by omega),decide_eq_false (show ¬(i:Int)≥(b.length:Int)/8 by omega)]
 exact zhT hb hi hl 8 0 rfl
def vq (f:Nat->Nat):Nat->Nat
 |0=>0
 |k+1=>vq f k*256+f (7-k)
theorem gp {f:Nat->Nat} (hf:∀ k,f k<256):∀ k,vq f k<256^k
 |0=>by show 0<1;decide
 |k+1=>by
  have:=gp hf k
  have h1:=hf (7-k)
  rw[vq,Nat.pow_succ]
  omega
theorem zet (f:Nat->Nat):vq f 8=(((((((0*256+f 7)*256+f 6)*256+f 5)*256+f 4)*256+f 3)*256+f 2)*256+f 1)*256+f 0:=rfl
theorem zeu {b:List Int} (hb:∀ x∈b,zm x) (n:Nat):((vq (fun k=>xn b (n+k)) 8:Nat):Int)=xM (b.drop n):=by
 unfold xM
 simp only[getD_drop]
 rw[←(xi hb (n+0)).1,←(xi hb (n+1)).1,←(xi hb (n+2)).1,←(xi hb (n+3)).1,←(xi hb (n+4)).1,←(xi hb (n+5)).1,←(xi hb (n+6)).1,←(xi hb (n+7)).1]
 rw[zet]
 omega
theorem zkx {b:List Int} (hb:∀ x∈b,zm x) {i:Nat} (hi:8*i+8<=b.length) (hl:b.length<=17592186044416):∀ (c k:Nat),k+c=8->VO (bs b) i ((vq (fun k=>xn b (8*i+k)) k:Nat):Int) (7-k)=ok (.tup [U (xM (b.drop (8*i))),Bo true]):=by
 intro c
 induction c with
 |zero=>
  intro k hk
  have:k=8:=by omega
  subst this
  rw[rI,decide_eq_false (by decide),zeu hb]
  rfl
 |succ c ih=>
  intro k hk
  have hx:=xi hb (8*i+(7-k))
  have ha:=gp (f:=fun k=>xn b (8*i+k)) (fun j=>(xi hb (8*i+j)).2) (k+1)
  have hp:256^(k+1)<=256^8:=Nat.pow_le_pow_right (by decide) (by omega)
  rw[vq] at ha
  have hq2:vq (fun k=>xn b (8*i+k)) k*256+xn b (8*i+(7-k))<2^64:=Nat.lt_of_lt_of_le ha (Nat.le_trans hp (by decide))
  have hq:vq (fun k=>xn b (8*i+k)) k*256<2^64:=Nat.lt_of_le_of_lt (Nat.le_add_right _ _) hq2
  rw[rI,decide_eq_true (show (7:Int)-k≥0 by omega),zh (x:=8*(i:Int)) (by omega),zh (x:=8*(i:Int)+(7-k)) (by omega),decide_eq_true (show 0<=8*(i:Int)+(7-k) by omega),decide_eq_true (show 8*(i:Int)+(7-k)<((bs b).length:Int) by simp;omega)]
  dsimp only[zr,zc]
  rw[show (8*(i:Int)+(7-k)).toNat=8*i+(7-k) by omega,KM (by omega),←hx.1]
  dsimp only[zmS,ym,zmQ,xF]
  rw[wB (n:=xn b (8*i+(7-k))) (by omega),show ((vq (fun k=>xn b (8*i+k)) k:Nat):Int)*256=((vq (fun k=>xn b (8*i+k)) k*256:Nat):Int) by rw[Int.natCast_mul];rfl,wB (n:=vq (fun k=>xn b (8*i+k)) k*256) hq,←Int.natCast_add,wB hq2,zh (x:=(7:Int)-k-1) (by omega)]
  have:=ih (k+1) (by omega)
  rw[show (7:Int)-((k+1:Nat):Int)=7-k-1 by omega] at this
  exact this
theorem zd2 {b:List Int} (hb:∀ x∈b,zm x) {i:Nat} (hi:8*i+8<=b.length) (hl:b.length<=17592186044416):ev 94 [.pv (.sl 1 (bs b)),.pv (I (i:Int))] []=ok (.tup [U (xM (b.drop (8*i))),Bo true]):=by
 rw[zf6,zR,Int.tdiv_eq_ediv_of_nonneg (by omega),zh (x:=(b.length:Int)/8) (by omega),zh (x:=(b.length:Int)/8-1) (by omega),decide_eq_false (show ¬(i:Int)<0 by omega),decide_eq_false (show ¬(i:Int)>(b.length:Int)/8-1 by omega)]
 exact zkx hb hi hl 8 0 rfl
theorem zcZ:∀ (n i:Nat) (b:List Int),i<n->(zN n b)[i]? = some (xM (b.drop (8*i)))
 |0,i,b,h=>by omega
 |n+1,0,b,h=>by simp[zN]
 |n+1,i+1,b,h=>by
  rw[zN,zmR,zcZ n i (b.drop 8) (by omega),List.drop_drop]
  congr 3
  omega
theorem zc1 {n i:Nat} (b:List Int) (h:i<n):(zN n b).take (i+1)=(zN n b).take i++[xM (b.drop (8*i))]:=by
 have hl:i<(zN n b).length:=by rw[xh];exact h
 rw[List.take_succ_eq_append_getElem hl]
 have:=zcZ n i b h
 rw[List.getElem?_eq_getElem hl] at this
 rw[Option.some.inj this]
theorem zme (b:List Int) (z:Nat):xM (b++List.replicate z 0)=xM b:=by
 have h:∀ k,(b++List.replicate z 0).getD k 0=b.getD k 0:=fun k=>by
  rw[List.getD_eq_getElem?_getD,List.getD_eq_getElem?_getD]
  by_cases h1:k<b.length
  ·rw[List.getElem?_append_left h1]
  ·rw[List.getElem?_append_right (by omega),List.getElem?_replicate,List.getElem?_eq_none (by omega)]
   split<;>rfl
 unfold xM
 simp only[h]
theorem zc0:∀ (n:Nat) (b:List Int) (z:Nat),zN n (b++List.replicate z 0)=zN n b
 |0,b,z=>rfl
 |n+1,b,z=>by
  rw[zN,zN,zme,List.drop_append,List.drop_replicate,zc0 n]
theorem zmv {b:List Int} (hb:∀ x∈b,zm x) (hl:b.length<=1099511627776) {n:Nat} (hn:8*n=b.length):∀ (c i:Nat),i+c=n->Kj (bs b) (ws ((zN n b).take i)) n i=ok (.tup [.sl 1 (ws (zN n b)),Bo true]):=by
 intro c
 induction c with
 |zero=>
  intro i hi
  rw[zcW,decide_eq_false (by omega),List.take_of_length_le (by rw[xh];omega)]
  rfl
 |succ c ih=>
  intro i hi
  rw[zcW,decide_eq_true (show (i:Int)<(n:Int) by omega),zdo hb (by omega) (by omega)]
  dsimp only[ze,zg,zmS,z4,zmR,zmQ,ym,zc]
  rw[yW (by rw[yl,List.length_take];omega) (by rw[yl,List.length_take];omega),zh (x:=(i:Int)+1) (by omega),qD,←zc1 b (by omega)]
  exact ih (i+1) (by omega)
theorem KC {b:List Int} (hb:∀ x∈b,zm x) (hl:b.length<=1099511627776) {n:Nat} (hn:8*n=b.length):ev 64 [.pv (.sl 1 (bs b))] []=ok (.tup [.sl 1 (ws (zN n b)),Bo true]):=by
 rw[zmq,zR,Int.tdiv_eq_ediv_of_nonneg (by omega),Int.tmod_eq_emod_of_nonneg (by omega),show (b.length:Int)/8=n by omega,zh (by omega),show ((b.length:Int)%8 != 0)=false from by simp;omega,decide_eq_true (show 0<=(n:Int) by omega),decide_eq_true (show (n:Int)<=140737488355328 by omega),Int.toNat_natCast,yW (by omega) (by omega)]
 have:=zmv hb hl hn n 0 (by omega)
 rw[List.take_zero] at this
 exact this
theorem zkQ {b:List Int} (hb:∀ x∈b,zm x) (hl:b.length<=1099511627776) {n:Nat} (hn:8*n=b.length):∀ (c i:Nat),i+c=n->VR (bs b) (ws ((zN n b).take i)) i=some (.ret (.tup 0 (.slu 30 1 (ws (zN n b))) [.v .nilIface,Bo true]),[]):=by
 intro c
 induction c with
 |zero=>
  intro i hi
  rw[rK,zR,Int.tdiv_eq_ediv_of_nonneg (by omega),show (b.length:Int)/8=n by omega,zh (x:=(n:Int)) (by omega),decide_eq_false (by omega),List.take_of_length_le (by rw[xh];omega)]
  rfl
 |succ c ih=>
  intro i hi
  rw[rK,zR,Int.tdiv_eq_ediv_of_nonneg (by omega),show (b.length:Int)/8=n by omega,zh (x:=(n:Int)) (by omega),decide_eq_true (show (i:Int)<(n:Int) by omega),zd2 hb (by omega) (by omega)]
  dsimp only[ze,zg,zmS,z4,zmR,zmQ,ym,zc]
  rw[yW (by rw[yl,List.length_take];omega) (by rw[yl,List.length_take];omega),zh (x:=(i:Int)+1) (by omega),qD,←zc1 b (by omega)]
  exact ih (i+1) (by omega)
theorem zd4 {b:List Int} (hb:∀ x∈b,zm x) (hl:b.length<=1099511627776) {n:Nat} (hn:8*n=b.length):ev 87 [.pv (.sl 1 (bs b))] []=some (.ret (.tup 0 (.slu 30 1 (ws (zN n b))) [.v .nilIface,Bo true]),[]):=by
 rw[zf8,zR,Int.tmod_eq_emod_of_nonneg (by omega),show ((b.length:Int)%8 != 0)=false from by simp;omega]
 have:=zkQ hb hl hn n 0 (by omega)
 rw[List.take_zero] at this
 exact this
theorem zfo (b:List Int) (z:Nat):bs (b++List.replicate z 0)=bs b++List.replicate z (U8 0):=by simp[bs]
theorem zfy {b:List Int} (hb:∀ x∈b,zm x) (z:Nat):∀ x∈b++List.replicate z 0,zm x:=fun x hx=>by
 rcases List.mem_append.1 hx with h|h
 ·exact hb x h
 ·rw[(List.mem_replicate.1 h).2];exact ⟨by decide,by decide⟩
def wh (W:List Int):zf:=[[.slu 30 1 (ws W)]]
theorem zc3 (a b:List Int):ws (a++b)=ws a++ws b:=by simp[ws]
theorem zmC (n:Nat):ws (List.replicate n 0)=List.replicate n (U 0):=by simp[ws]
theorem KH {W b:List Int} (hb:∀ x∈b,zm x) {n:Nat} (hn:n<=137438953472) (h8:b.length<=8*n) (hW:W.length<=137438953472):ev 293 [.ptr 0 0,.pv (.sl 1 (bs b)),.pv (I (n:Int))] (wh W)=some (.ret (.pv (.tup [])),wh (W++zN n b)):=by
 unfold wh
 rw[zf0,zh (x:=8*(n:Int)) (by omega),decide_eq_true (show 0<=8*(n:Int) by omega),decide_eq_true (show 8*(n:Int)<=8*(n:Int) by omega),decide_eq_true (show 8*(n:Int)<=140737488355328 by omega),show (8*(n:Int)).toNat=8*n by omega,yW (by omega) (by omega),List.length_replicate,List.drop_replicate,zR,List.take_of_length_le (show (bs b).length<=8*n by rw[zR];exact h8)]
 have:=KC (zfy hb (8*n-b.length)) (by rw[zmT,List.length_replicate];omega) (n:=n) (by rw[zmT,List.length_replicate];omega)
 rw[zfo,zc0] at this
 dsimp only[zr,zc]
 rw[this]
 dsimp only[ze,zg,zmS,z4,zmR,zmQ,yC]
 rw[yl,yl,xh,yW (by omega) (by omega),zc3]
 rfl
theorem KI {W:List Int} {n:Nat} (hn:n<=137438953472) (hW:W.length<=137438953472):ev 292 [.ptr 0 0,.pv (I (n:Int))] (wh W)=some (.ret (.pv (I (W.length:Int))),wh (W++List.replicate n 0)):=by
 unfold wh
 rw[zf3,decide_eq_true (show 0<=(n:Int) by omega),decide_eq_true (show (n:Int)<=140737488355328 by omega),Int.toNat_natCast,yl,List.length_replicate,yW (by omega) (by omega),zc3,zmC]
 rfl
def vl (B:Nd->List Int) (a:Nat) (t:Nd) (W:List Int):List Int:=if t.kind=0 then W else W.set a (yK t ((W.length:Int)-a-1))++B t
def xm (B:Nd->List Int):List (Nat×Nd)->List Int->List Int
 |[],W=>W
 |(a,t)::r,W=>xm B r (vl B a t W)
def xg (i:Nat):List Nd->List (Nat×Nd)
 |[]=>[]
 |t::r=>(i,t)::xg (i+1) r
def ZJ (a s i:Nat):List Nd->List (Nat×Nd)
 |[]=>[]
 |k::r=>xg (i+a) k.kids++ZJ a s (i+s) r
def els (a b:Nat) (l:List Nd):List Int:=l.flatMap fun k=>zN a k.data++List.replicate b 0
theorem J4 (B:Nd->List Int):∀ (l m:List (Nat×Nd)) (W:List Int),xm B (l++m) W=xm B m (xm B l W)
 |[],m,W=>rfl
 |(a,t)::l,m,W=>J4 B l m _
theorem zbs {t:Nd} (h:t.kind=0) (o:Int):yK t o=0:=by unfold yK;rw[if_pos h]
theorem QR {B:Nd->List Int} (hB:∀ t:Nd,t.kind=0->B t=[]):∀ (q:List Nd) (X Y:List Int) (i n:Nat),i=X.length->n=X.length+q.length+Y.length->xm B (xg i q) (X++(List.replicate q.length 0++Y))=X++(yu B i n q++(Y++q.flatMap B))
 |[],X,Y,i,n,hi,hn=>by simp[xm,xg,yu]
 |t::r,X,Y,i,n,hi,hn=>by
  rw[xg,xm,yu,List.flatMap_cons,zmU,List.replicate_succ]
  rw[zmU] at hn
  have e:vl B i t (X++(0::List.replicate r.length 0++Y))=(X++[yK t ((n:Int)-i-1)])++(List.replicate r.length 0++(Y++B t)):=by
   unfold vl
   by_cases h0:t.kind=0
   ·rw[if_pos h0,zbs h0,hB t h0]
    simp
   ·rw[if_neg h0]
    have hl:(X++(0::List.replicate r.length 0++Y)).length=n:=by simp;omega
    rw[hl,hi,List.set_append_right _ _ (Nat.le_refl _),Nat.sub_self]
    simp
  rw[e,QR hB r (X++[yK t ((n:Int)-i-1)]) (Y++B t) (i+1) (n+(B t).length) (by simp[hi]) (by simp;omega)]
  simp only[List.append_assoc,List.singleton_append,List.cons_append,zmV]
theorem ju (a b:Nat) (k:Nd) (l:List Nd):els a b (k::l)=zN a k.data++(List.replicate b 0++els a b l):=by simp[els]
theorem V9 (a b:Nat):∀ l:List Nd,(els a b l).length=l.length*(a+b)
 |[]=>by simp[els]
 |k::l=>by rw[ju,zmT,zmT,xh,List.length_replicate,V9 a b l,zmU,Nat.add_mul];omega
theorem zbM {B:Nd->List Int} (hB:∀ t:Nd,t.kind=0->B t=[]) (a b:Nat):∀ (ks:List Nd) (X Y:List Int) (i n:Nat),i=X.length->n=X.length+ks.length*(a+b)+Y.length->(∀ k∈ks,k.kids.length<=b)->xm B (ZJ a (a+b) i ks) (X++(els a b ks++Y))=X++(xw B a b i n ks++(Y++ks.flatMap fun k=>k.kids.flatMap B))
 |[],X,Y,i,n,hi,hn,_=>by simp[xm,ZJ,xw,els]
 |k::r,X,Y,i,n,hi,hn,hk=>by
  have hb:=hk k List.mem_cons_self
  rw[zmU,Nat.add_mul,Nat.one_mul] at hn
  rw[ZJ,J4,xw,List.flatMap_cons,ju]
  have e1:X++(zN a k.data++(List.replicate b 0++els a b r)++Y)=(X++zN a k.data)++(List.replicate k.kids.length 0++(List.replicate (b-k.kids.length) 0++(els a b r++Y))):=by
   have:List.replicate b (0:Int)=List.replicate k.kids.length 0++List.replicate (b-k.kids.length) 0:=by rw[List.replicate_append_replicate];congr 1;omega
   rw[this]
   simp only[List.append_assoc]
  rw[e1,QR hB k.kids (X++zN a k.data) (List.replicate (b-k.kids.length) 0++(els a b r++Y)) (i+a) n (by simp[hi]) (by simp[V9];omega)]
  have e2:X++zN a k.data++(yu B (i+a) n k.kids++(List.replicate (b-k.kids.length) 0++(els a b r++Y)++k.kids.flatMap B))=(X++(zN a k.data++(yu B (i+a) n k.kids++List.replicate (b-k.kids.length) 0)))++(els a b r++(Y++k.kids.flatMap B)):=by
   simp only[List.append_assoc]
  have r2:=zbM hB a b r (X++(zN a k.data++(yu B (i+a) n k.kids++List.replicate (b-k.kids.length) 0))) (Y++k.kids.flatMap B) (i+(a+b)) (n+Zb B k.kids) (by simp[hi];omega) (by unfold Zb;simp;omega) (fun x hx=>hk x (List.mem_cons_of_mem _ hx))
  rw[e2,r2]
  simp only[List.append_assoc]
theorem QG (B:Nd->List Int) (s:Nat):∀ (l:List Nd) (i n:Nat),yu B (i+s) (n+s) l=yu B i n l
 |[],i,n=>rfl
 |t::r,i,n=>by
  rw[yu,yu]
  have e:=QG B s r (i+1) (n+(B t).length)
  rw[show i+1+s=i+s+1 by omega,show n+(B t).length+s=n+s+(B t).length by omega] at e
  rw[e]
  congr 2
  omega
theorem gD (B:Nd->List Int) (a b s:Nat):∀ (l:List Nd) (i n:Nat),xw B a b (i+s) (n+s) l=xw B a b i n l
 |[],i,n=>rfl
 |k::r,i,n=>by
  rw[xw,xw]
  have e:=gD B a b s r (i+(a+b)) (n+Zb B k.kids)
  rw[show i+(a+b)+s=i+s+(a+b) by omega,show n+Zb B k.kids+s=n+s+Zb B k.kids by omega] at e
  rw[e]
  have e2:=QG B s k.kids (i+a) n
  rw[show i+a+s=i+s+a by omega] at e2
  rw[e2]
def vW (x:Nd):List Int :=
 if x.kind=1 then zN (x.data.length/8) x.data++List.replicate x.kids.length 0
 else if x.elem=7 then ya x.n (zn x.kids) (zq x.kids)::els (zn x.kids) (zq x.kids) x.kids
 else if x.elem=6 then List.replicate x.kids.length 0
 else zN (zs x.elem x.n).toNat x.data
def XL (x:Nd) (s:Nat):List (Nat×Nd) :=
 if x.kind=1 then xg (s+x.data.length/8) x.kids
 else if x.elem=7 then ZJ (zn x.kids) (zn x.kids+zq x.kids) (s+1) x.kids
 else xg s x.kids
theorem zkZ {B:Nd->List Int} {x:Nd} (hv:VN x) (h0:x.kind≠0):(vW x).length=(xy B x).length:=by
 obtain ⟨hs,_⟩:=wX hv
 unfold vW xy
 by_cases h1:x.kind=1
 ·rw[if_pos h1,if_pos h1];simp
 ·rw[if_neg h1,if_neg h1]
  by_cases h7:x.elem=7
  ·rw[if_pos h7,if_pos h7,zmU,zmU,V9,Wj _ _ _ _ _ _ (fun k hk=>YV hk)]
  ·rw[if_neg h7,if_neg h7]
   by_cases h6:x.elem=6
   ·rw[if_pos h6,if_pos h6];simp
   ·rw[if_neg h6,if_neg h6]
theorem zkG {B:Nd->List Int} (hB:∀ t:Nd,t.kind=0->B t=[]) {x:Nd} (hv:VN x) (h0:x.kind≠0) (W:List Int):xm B (XL x W.length) (W++vW x)=W++(xy B x++(z9 x).flatMap B):=by
 obtain ⟨hs,_⟩:=wX hv
 unfold XL vW xy
 by_cases h1:x.kind=1
 ·rw[if_pos h1,if_pos h1,if_pos h1]
  have et:z9 x=x.kids:=if_neg (fun h=>by rw[h1] at h;exact absurd h.1 (by decide))
  have r:=QR hB x.kids (W++zN (x.data.length/8) x.data) [] (W.length+x.data.length/8) (W.length+(x.data.length/8+x.kids.length)) (by simp) (by simp;omega)
  rw[List.append_nil] at r
  rw[←List.append_assoc,r,et,zmV]
  have e:=QG B W.length x.kids (x.data.length/8) (x.data.length/8+x.kids.length)
  rw[Nat.add_comm _ W.length,Nat.add_comm _ W.length] at e
  rw[e]
  simp only[List.append_assoc]
 ·rw[if_neg h1,if_neg h1,if_neg h1]
  by_cases h7:x.elem=7
  ·rw[if_pos h7,if_pos h7,if_pos h7]
   have hk2:x.kind=2:=by rcases hs with h|h|h<;>omega
   have et:z9 x=x.kids.flatMap Nd.kids:=if_pos ⟨hk2,h7⟩
   have r:=zbM hB (zn x.kids) (zq x.kids) x.kids (W++[ya x.n (zn x.kids) (zq x.kids)]) [] (W.length+1) (W.length+(1+x.kids.length*ZR x)) (by simp) (by unfold ZR;simp;omega) (fun k hk=>YV hk)
   rw[List.append_nil] at r
   rw[et,Qf]
   have e1:W++ya x.n (zn x.kids) (zq x.kids)::els (zn x.kids) (zq x.kids) x.kids=W++[ya x.n (zn x.kids) (zq x.kids)]++els (zn x.kids) (zq x.kids) x.kids:=by simp
   rw[e1,r,zmV]
   have e:=gD B (zn x.kids) (zq x.kids) W.length x.kids 1 (1+x.kids.length*ZR x)
   rw[Nat.add_comm _ W.length,Nat.add_comm _ W.length] at e
   rw[e]
   simp
  ·rw[if_neg h7,if_neg h7,if_neg h7]
   have et:z9 x=x.kids:=if_neg (fun h=>h7 h.2)
   rw[et]
   by_cases h6:x.elem=6
   ·rw[if_pos h6,if_pos h6]
    have r:=QR hB x.kids W [] W.length (W.length+x.kids.length) rfl (by simp)
    rw[List.append_nil] at r
    rw[r,zmV]
    have e:=QG B W.length x.kids 0 x.kids.length
    rw[Nat.zero_add,Nat.add_comm] at e
    rw[e]
   ·rw[if_neg h6,if_neg h6]
    have hk:x.kids=[]:=by
     rcases hs with h|h|h
     ·omega
     ·omega
     ·exact List.length_eq_zero_iff.1 (h.2.2.2.2 (by omega)).1
    rw[hk]
    simp[xg,xm]
theorem gU (D:Nat) (t:Nd) (h:t.kind=0):body D t=[]:=by
 cases D with
 |zero=>rfl
 |succ D=>rw[body,if_pos h]
theorem zjF {D:Nat} {x:Nd} (hv:VN x) (h0:x.kind≠0) {a:Nat} {W:List Int} (ha:a<W.length):vl (body (D+1)) a x W=xm (body D) (XL x W.length) ((W++vW x).set a (yK x ((W.length:Int)-a-1))):=by
 unfold vl
 rw[if_neg h0,List.set_append_left _ _ ha]
 have r:=zkG (gU D) hv h0 (W.set a (yK x ((W.length:Int)-a-1)))
 rw[List.length_set] at r
 rw[r,body,if_neg h0]
def uo (off:Int) (d q:Nat):PV:=.agg [I 0,I off,I d,I q,I 0,I 0,Bo false,I 0,yO 0,yO 0]
def Yt (off e c:Int):PV:=.agg [I 1,I off,I 0,I 0,I e,I c,Bo false,I 0,yO 0,yO 0]
theorem zei {W d:List Int} {ks:List Nd} (hb:∀ x∈d,zm x) (h8:d.length%8=0) (hd:d.length<=524280) (hk:ks.length<=65535) (hW:W.length<=268435456) (e n:Int):ev 269 [.ptr 0 0,.pv (.agg [I 1,I e,I n,.sl 1 (bs d),.sl 5 (zI ks)])] (wh W) =
  some (.ret (.pv (.tup [uo 0 (d.length/8) ks.length,.sl 1 [I ((W.length+d.length/8:Nat):Int)]])),wh (W++(zN (d.length/8) d++List.replicate ks.length 0))):=by
 have h1:=KH (W:=W) hb (n:=d.length/8) (by omega) (by omega) (by omega)
 have h2:=KI (W:=W++zN (d.length/8) d) (n:=ks.length) (by omega) (by simp;omega)
 unfold wh at h1 h2 ⊢
 rw[zf2,zR,wT,Int.tdiv_eq_ediv_of_nonneg (by omega),show (d.length:Int)/8=((d.length/8:Nat):Int) by omega,zh (by omega),h1]
 dsimp only[ze,zmQ,yD,zg,zmS,zc,wO]
 rw[yE]
 dsimp only[zmS]
 rw[h2]
 dsimp only[ze,zmQ,yD,zg,zmS,ym,zc,wO]
 rw[zmT,xh,List.append_assoc]
 rfl
theorem zeh {W:List Int} {ks:List Nd} {n:Nat} (hn:n<=268435456) (hW:W.length<=268435456) (d:List PV):ev 268 [.ptr 0 0,.pv (.agg [I 2,I 6,I (n:Int),.sl 1 d,.sl 5 (zI ks)])] (wh W) =
  some (.ret (.pv (.tup [Yt 0 6 n,.sl 1 [I (W.length:Int)]])),wh (W++List.replicate n 0)):=by
 have h2:=KI (W:=W) (n:=n) (by omega) (by omega)
 unfold wh at h2 ⊢
 rw[rE,show ((6:Int)==6)=true from rfl,h2]
 rfl
theorem zeg {W d:List Int} {ks:List Nd} {e n:Int} (he:0<=e/\e<6) (hn:0<=n/\n<=536870911) (hb:∀ x∈d,zm x) (hl:(d.length:Int)=z5 e n) (hw:zs e n<=268435456) (hW:W.length<=268435456) (hO:ev 262 [.pv (.agg [I 2,I e,I n,.sl 1 (bs d),.sl 5 (zI ks)])] []=ok (I (zs e n))) :
  ev 268 [.ptr 0 0,.pv (.agg [I 2,I e,I n,.sl 1 (bs d),.sl 5 (zI ks)])] (wh W) =
  some (.ret (.pv (.tup [Yt 0 e n,.sl 1 []])),wh (W++zN (zs e n).toNat d)):=by
 have hr:=ZT (e:=e) hn
 have hbw:=ra he hn
 have h1:=KH (W:=W) hb (n:=(zs e n).toNat) (by omega) (by omega) (by omega)
 rw[show (((zs e n).toNat:Nat):Int)=zs e n by omega] at h1
 unfold wh at h1 ⊢
 rw[rE,beq_eq_false_iff_ne.2 (show e≠6 by omega),hO]
 dsimp only[ze,zg,zmS,zu]
 rw[h1]
 rfl
theorem zgB {W0:List Int} {ks:List Nd} {a b:Nat} (ha:a<=65535) (hb:b<=65535) (hk:ks.length<=536870911) (hs:∀ k∈ks,(∀ x∈k.data,zm x)/\k.data.length<=8*a) (hl:W0.length+ks.length*(a+b)<=268435456) (i7 i8 i9:Int) (xs10 xs11:List PV) (i12 i13 i14 i15 i16 i17:Int) (b18:Bool) (i19 i20 i21:Int):∀ (c i:Nat),i+c=ks.length->
  VK (I a) (I b) (((List.range i).map fun j=>I ((W0.length+j*(a+b)+a:Nat):Int))) (zI ks) ks.length i (ws (W0++els a b (ks.take i))) i7 i8 i9 xs10 xs11 i12 i13 i14 i15 i16 i17 b18 i19 i20 i21 =
   some (.ret (.pv (.tup [Yt 0 i8 (IntKind.wrap .i64 (i9*((a+b:Nat):Int))),.sl 1 ((List.range ks.length).map fun j=>I ((W0.length+j*(a+b)+a:Nat):Int))])),wh (W0++els a b ks)):=by
 intro c
 induction c with
 |zero=>
  intro i hi
  rw[rD,decide_eq_false (by omega),List.take_of_length_le (by omega),show i=ks.length by omega]
  dsimp only[z6,zmS,zu]
  rw[zh (x:=(a:Int)+b) (by omega),show (a:Int)+b=((a+b:Nat):Int) by push_cast;rfl]
  rfl
 |succ c ih=>
  intro i hi
  have hil:i<ks.length:=by omega
  obtain ⟨s1,s2⟩:=hs _ (List.getElem_mem hil)
  have hmul:i*(a+b)+(a+b)<=ks.length*(a+b):=by
   have:=Nat.mul_le_mul_right (a+b) (show i+1<=ks.length by omega)
   rw[Nat.add_mul,Nat.one_mul] at this
   exact this
  have hel:(els a b (ks.take i)).length=i*(a+b):=by rw[V9,List.length_take,Nat.min_eq_left (by omega)]
  have h1:=KH (W:=W0++els a b (ks.take i)) s1 (n:=a) (by omega) s2 (by rw[zmT,hel];omega)
  have h2:=KI (W:=W0++els a b (ks.take i)++zN a ks[i].data) (n:=b) (by omega) (by rw[zmT,zmT,hel,xh];omega)
  unfold wh at h1 h2
  rw[rD,decide_eq_true (show (i:Int)<(ks.length:Int) by omega),decide_eq_true (show 0<=(i:Int) by omega),decide_eq_true (show (i:Int)<((zI ks).length:Int) by simp;omega)]
  dsimp only[zr,zc,z6,zmS]
  rw[Int.toNat_natCast,vU hil]
  dsimp only[zmS]
  rw[ZE,Ya,show (ks[i].c.drop 0).take 5=ks[i].c from rfl]
  dsimp only[Nd.c,zmQ,zmR,zmS,wl,zr,yM,zc]
  rw[h1]
  dsimp only[ze,zmQ,yD,zg,zmS,zc,wO]
  rw[yE]
  dsimp only[zmS]
  rw[h2]
  dsimp only[ze,zmQ,yD,zg,zmS,ym,zc,wO]
  rw[yE]
  dsimp only[zmS]
  rw[yW (by simp;omega) (by simp;omega),zh (x:=(i:Int)+1) (by omega)]
  have e1:(List.range i).map (fun j=>I ((W0.length+j*(a+b)+a:Nat):Int))++[I ((W0++els a b (ks.take i)++zN a ks[i].data).length:Int)]=(List.range (i+1)).map fun j=>I ((W0.length+j*(a+b)+a:Nat):Int):=by
   rw[List.range_succ,List.map_append,List.map_singleton,zmT,zmT,hel,xh]
  have e2:W0++els a b (ks.take i)++zN a ks[i].data++List.replicate b 0=W0++els a b (ks.take (i+1)):=by
   rw[ZP hil]
   unfold els
   rw[List.flatMap_append,List.flatMap_singleton]
   simp only[List.append_assoc]
  have:=ih (i+1) (by omega)
  rw[←e1,←e2] at this
  exact this
theorem zef {W:List Int} {ks:List Nd} {n:Int} (hn:0<=n/\n<=536870911) (hk:(ks.length:Int)=n) (hs:∀ k∈ks,(∀ x∈k.data,zm x)/\k.data.length%8=0/\k.data.length<=524280/\k.kids.length<=65535) (hl:W.length+1+ks.length*(zn ks+zq ks)<=268435456) :
  ev 270 [.ptr 0 0,.pv (.agg [I 2,I 7,I n,.sl 1 [],.sl 5 (zI ks)])] (wh W) =
  some (.ret (.pv (.tup [Yt 0 7 (n*((zn ks+zq ks:Nat):Int)),.sl 1 ((List.range ks.length).map fun j=>I ((W.length+1+j*(zn ks+zq ks)+zn ks:Nat):Int))])),wh (W++(ya n (zn ks) (zq ks)::els (zn ks) (zq ks) ks))):=by
 have hud:zn ks<=65535:=YT fun x hx=>by have:=(hs x hx).2.2.1;omega
 have huq:zq ks<=65535:=YU fun x hx=>(hs x hx).2.2.2
 have hU:=uJ (x:=.mk 2 7 n [] ks) (by show ks.length<=_;omega) (fun y hy=>by have:=(hs y hy).2.2.1;omega)
 have hE:=Ku (off:=n) (d:=zn ks) (q:=zq ks) (by omega) hud huq
 have hu:ev 219 [.pv (.agg [I 2,I 7,I n,.sl 1 [],.sl 5 (zI ks)])] []=ok (.tup [I (zn ks:Nat),I (zq ks:Nat)]):=hU
 have hL:=zgB (W0:=W++[ya n (zn ks) (zq ks)]) (ks:=ks) hud huq (by omega) (fun k hk=>⟨(hs k hk).1,by have:=qv hk;have:=(hs k hk).2.1;omega⟩) (by rw[zmT,List.length_singleton];omega) 2 7 n [] (zI ks) 0 0 0 0 0 0 false 0 0 0 ks.length 0 (by omega)
 unfold wh at hL ⊢
 rw[zf1,hu]
 dsimp only[ze,zg,zmS,z4,zmR,zmQ,yM,zr,zc]
 rw[hE]
 dsimp only[ze,zg,zmS,z4,zmR,zmQ,ym]
 rw[yl,yW (by omega) (by omega),wT,qD]
 have hL':=hL
 rw[List.take_zero,show els (zn ks) (zq ks) []=[] from rfl,List.append_nil] at hL'
 refine Eq.trans (show _=_ from hL') ?_
 have e1:W++[ya n (zn ks) (zq ks)]++els (zn ks) (zq ks) ks=W++(ya n (zn ks) (zq ks)::els (zn ks) (zq ks) ks):=by simp
 have hnu:n*((zn ks+zq ks:Nat):Int)=((ks.length*(zn ks+zq ks):Nat):Int):=by rw[←hk];push_cast;rfl
 rw[e1,zmT,List.length_singleton,zh (by rw[hnu];omega)]
end Go.Proofs.YtjbjeeoifhegfaaGreatDoor.E
