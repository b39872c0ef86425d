/- A part of the proof of the law MessageMatchesReference, as its statement says it: for every input; its conditions are the statement's own. -/
import Derived.Test.YtjbjeeoifhegfaaGreatDoorZMessageMatchesReference1
import Derived.Test.YtjbjeeoifhegfaaGreatDoorZMessageMatchesReference2
import Derived.Test.YtjbjeeoifhegfaaGreatDoorZMessageMatchesReference3
import Derived.Test.YtjbjeeoifhegfaaGreatDoorZMessageMatchesReference4
import Derived.Test.YtjbjeeoifhegfaaGreatDoorZMessageMatchesReference5
import Derived.Test.YtjbjeeoifhegfaaGreatDoorZMessageMatchesReference6
import Derived.Test.YtjbjeeoifhegfaaGreatDoorZMessageMatchesReference7
import Derived.Test.YtjbjeeoifhegfaaGreatDoorZMessageMatchesReference8
import Derived.Test.YtjbjeeoifhegfaaGreatDoorZMessageMatchesReference9
set_option linter.unusedVariables false
set_option linter.unusedSimpArgs false
open List renaming getElem?_eq_getElem->zqF
open List renaming length_map->zqH
open List renaming mem_cons_of_mem->zqI
open List renaming mem_cons_self->zqJ
open Int renaming toNat_natCast->zqK
open List renaming length_take->zqN
open List renaming getElem?_cons_zero->zqP
open List renaming getElem?_cons_succ->zqQ
open Option renaming bind_some->zqR
open List renaming length_append->zqS
open List renaming length_cons->zqT
namespace Go.Proofs.YtjbjeeoifhegfaaGreatDoor.E
def inB (l:List (List Int)) (s a n:Int):Prop:=0<=s/\s<(l.length:Int)/\0<=a/\0<=n/\a+n<=((yu l s).length:Int)
instance (l:List (List Int)) (s a n:Int):Decidable (inB l s a n):=by unfold inB;infer_instance
theorem WN {l:List (List Int)} (h:zN l) (s a n:Int) :
  ev 286 [.pv (.sl 1 (zL l)),.pv (.v (.int .i64 s)),.pv (.v (.int .i64 a)),.pv (.v (.int .i64 n))] []=some (.ret (.pv (.v (.bool (decide (inB l s a n))))),[]):=by
 have hw:=(Wu h s).1
 rw[zhW]
 simp only[yc,Yp]
 by_cases h1:0<=s/\s<(l.length:Int)
 ·rw[if_pos h1.1,if_pos h1.2]
  simp only[YV h1.1 h1.2,h1.1,h1.2,decide_true,Bool.and_self,cond_true,zqR,w5,zqP,yt,zZ]
  by_cases h2:0<=a/\0<=n/\a<=((yu l s).length:Int)
  ·rw[if_pos h2.1,if_pos h2.2.1,if_pos h2.2.2,zc (by omega)]
   rw[show decide (n<=((yu l s).length:Int)-a)=decide (inB l s a n) from decide_eq_decide.2 (by unfold inB;omega)]
  ·rw[show decide (inB l s a n)=false from decide_eq_false (by unfold inB;omega)]
   repeat' split
   all_goals first
    |rfl
    |(exfalso;omega)
 ·rw[show decide (inB l s a n)=false from decide_eq_false (by unfold inB;omega)]
  repeat' split
  all_goals first
   |rfl
   |(exfalso;omega)
theorem zf7 {l:List (List Int)} (h:zN l) (s a:Int) :
  ev 278 [.pv (.sl 1 (zL l)),.pv (.v (.int .i64 s)),.pv (.v (.int .i64 a))] [] =
   some (.ret (.pv (.tup (if inB l s a 1 then [.v (.int .u64 (rd (yu l s) a)),.v (.bool true)] else [.v (.int .u64 0),.v (.bool false)]))),[]):=by
 rw[zhY,WN h]
 by_cases hb:inB l s a 1
 ·have hb':=hb
  obtain ⟨h1,h2,h3,h4,h5⟩:=hb'
  rw[if_pos hb]
  simp[-getElem?_pos,zqP,zqQ,yc,yj,ym,yp,hb,h1,h2,h3,YV h1 h2,gT h3 (show a<(yu l s).length by omega),show a<(yu l s).length by omega]
 ·rw[if_neg hb]
  simp[hb]
def cut (l:List (List Int)) (s a n:Int):List Int:=((yu l s).drop a.toNat).take n.toNat
theorem qR {l:List (List Int)} {s a n:Int} (h:inB l s a n):(cut l s a n).length=n.toNat:=by
 obtain ⟨h1,h2,h3,h4,h5⟩:=h
 simp[cut];omega
theorem JW {l:List (List Int)} (h:zN l) (s a n:Int) (hn:n<=17592186044416) :
  ev 276 [.pv (.sl 1 (zL l)),.pv (.v (.int .i64 s)),.pv (.v (.int .i64 a)),.pv (.v (.int .i64 n))] [] =
   some (.ret (.pv (.tup (if inB l s a n then [.sl 1 (ws (cut l s a n)),.v (.bool true)] else [.sl 1 [],.v (.bool false)]))),[]):=by
 rw[zhX,WN h]
 by_cases hb:inB l s a n
 ·have hb':=hb
  obtain ⟨h1,h2,h3,h4,h5⟩:=hb'
  rw[if_pos hb]
  have hr:zJ n.toNat 8=true:=by simp[zJ];omega
  have e:List.take n.toNat (List.drop a.toNat (ws (yu l s)))=ws (cut l s a n):=by simp[ws,cut,List.map_take,List.map_drop]
  have hle:a.toNat<=(yu l s).length:=by omega
  have hz:n.toNat-((yu l s).length-a.toNat)=0:=by omega
  simp[-getElem?_pos,zqP,zqQ,yc,yj,ym,yp,hb,h1,h2,h3,h4,YV h1 h2,hr,show a<=(yu l s).length by omega,show n<=140737488355328 by omega,List.take_of_length_le,e,hz]
 ·rw[if_neg hb]
  simp[hb]
theorem Zl {a:Nat} (h:a<2^64):(BitVec.ofInt 64 (a:Int)).toNat=a:=by
 simp;omega
theorem wM {n:Nat} (h:n<2^64):IntKind.wrap .u64 (n:Int)=n:=yC ⟨Int.natCast_nonneg _,by omega⟩
theorem zhU {a:Nat} (h:a<2^64) {m:Nat} (hm:m<=64):IntKind.wrap .u64 (((BitVec.ofInt 64 (a:Int) &&& BitVec.ofInt 64 ((2^m-1:Nat):Int)).toNat:Nat):Int)=((a%2^m:Nat):Int):=by
 have hp:2^m<=2^64:=Nat.pow_le_pow_right (by decide) hm
 have hq:0<2^m:=Nat.pow_pos (by decide)
 rw[BitVec.toNat_and,Zl h,Zl (show 2^m-1<2^64 by omega),Nat.and_two_pow_sub_one_eq_mod]
 have:=Nat.mod_lt a hq
 exact wM (by omega)
theorem js (m:Nat) (h1:1<=m) (h2:m<=64):ev 285 [.pv (I m)] []=ok (U ((2^m-1:Nat):Int)):=by
 rw[zqb]
 have e1:IntKind.wrap .i64 (64-(m:Int))=((64-m:Nat):Int):=by rw[zc (by omega)];omega
 rw[e1,wM (by omega)]
 have hk:2^64=2^m*2^(64-m):=by rw[←Nat.pow_add];congr 1;omega
 have hp:0<2^(64-m):=Nat.pow_pos (by decide)
 have hd:(18446744073709551615:Nat)/2^(64-m)=2^m-1:=by
  rw[show (18446744073709551615:Nat)=2^64-1 from rfl,hk,Nat.div_eq_iff hp]
  have hq:0<2^m:=Nat.pow_pos (by decide)
  constructor
  ·rw[Nat.sub_mul];omega
  ·have:(2^m-1)*2^(64-m)=2^m*2^(64-m)-2^(64-m):=by rw[Nat.sub_mul,Nat.one_mul]
   have h3:2^(64-m)<=2^m*2^(64-m):=Nat.le_mul_of_pos_left _ hq
   omega
 have hf:Int.fdiv 18446744073709551615 (2^(min ((64-m:Nat):Int).toNat 64))=((2^m-1:Nat):Int):=by
  rw[zqK,Nat.min_eq_left (by omega),Int.fdiv_eq_ediv_of_nonneg _ (Int.le_of_lt (Int.pow_pos (by decide))),←hd]
  simp only[Int.natCast_ediv,Int.natCast_pow]
  rfl
 rw[hf]
 simp[yS]
theorem zo1 (a i:Nat) (hi:i<=64):Int.fdiv (a:Int) (2^(min (i:Int).toNat 64))=((a/2^i:Nat):Int):=by
 rw[zqK,Nat.min_eq_left hi,Int.fdiv_eq_ediv_of_nonneg _ (Int.le_of_lt (Int.pow_pos (by decide)))]
 push_cast
 rfl
theorem zfV (a:Nat) (h:a<2^64) (i m:Nat) (h1:1<=m) (h2:i+m<=64):ev 245 [.pv (U a),.pv (I i),.pv (I m)] []=ok (U ((a/2^i%2^m:Nat):Int)):=by
 rw[zp6,wM (by omega),js m h1 (by omega),zo1 a i (by omega)]
 have:=zhU (a:=a/2^i) (Nat.lt_of_le_of_lt (Nat.div_le_self _ _) h) (m:=m) (by omega)
 simp only[zv,zP,zqR,Yj,this,zh,xZ,xP]
 simp[yS]
theorem Z9 {a:Int} (h:zC a) (i m:Nat) (h1:1<=m) (h2:i+m<=64):ev 245 [.pv (U a),.pv (I i),.pv (I m)] []=ok (U (a/2^i%2^m)):=by
 obtain ⟨n,rfl⟩:=Int.eq_ofNat_of_zero_le h.1
 rw[zfV n (by have:=h.2;omega) i m h1 h2]
 simp
def ve (v:Int):Int:=if 536870912<=v then v-1073741824 else v
theorem zf4 {a:Int} (h:zC a):ev 342 [.pv (U a),.pv (I 2),.pv (I 30)] []=ok (I (ve (a/4%1073741824))):=by
 obtain ⟨h1,h2⟩:=h
 rw[zp9]
 rw[show IntKind.wrap .i64 ((IntKind.wrap .i64 (64-2))-30)=32 by decide,show IntKind.wrap .u64 32=32 by decide,show IntKind.wrap .u64 (IntKind.wrap .i64 (64-30))=34 by decide]
 simp only[yS]
 rw[show (min (32:Int).toNat 64)=32 by decide,show (min (34:Int).toNat 64)=34 by decide]
 have e:IntKind.wrap .i64 (IntKind.wrap .u64 (a*2^32))=ve (a/4%1073741824)*17179869184+(a%4)*4294967296:=by
  rw[JJ]
  have e2:a*2^32%18446744073709551616=(a/4%1073741824)*17179869184+(a%4)*4294967296:=by omega
  rw[e2]
  unfold ve
  simp only[IntKind.wrap,IntKind.bits,IntKind.signed]
  simp
  split<;>split<;>omega
 rw[e,Int.fdiv_eq_ediv_of_nonneg _ (by decide)]
 have e3:(ve (a/4%1073741824)*17179869184+(a%4)*4294967296)/2^34=ve (a/4%1073741824):=by omega
 rw[e3]
 rfl
abbrev PT:=Int×Int×Int×Int×Int×Int×Bool×Int×Int×Int
def yf (p:PT):List PV:=[I p.1,I p.2.1,I p.2.2.1,I p.2.2.2.1,I p.2.2.2.2.1,I p.2.2.2.2.2.1,Bo p.2.2.2.2.2.2.1,I p.2.2.2.2.2.2.2.1,yD p.2.2.2.2.2.2.2.2.1,yD p.2.2.2.2.2.2.2.2.2]
def zk (a:Int):PT :=
 if a%4=0 then (0,ve (a/4%1073741824),a/4294967296%65536,a/281474976710656%65536,0,0,false,0,0,0)
 else if a%4=1 then (1,ve (a/4%1073741824),0,0,a/4294967296%8,a/34359738368%536870912,false,0,0,0)
 else if a%4=2 then (2,0,0,0,0,0,a/4%2==1,a/8%536870912,a/4294967296%4294967296,0)
 else (3,0,0,0,0,0,false,0,a/4294967296%4294967296,a/4%1073741824)
theorem wj {a:Int} (h:zC a):ev 192 [.pv (U a)] []=ok (.agg (yf (zk a))):=by
 have k0:ev 245 [.pv (U a),.pv (I 0),.pv (I 2)] []=ok (U (a%4)):=by have:=Z9 h 0 2 (by decide) (by decide);simpa using this
 have k1:ev 245 [.pv (U a),.pv (I 32),.pv (I 16)] []=ok (U (a/4294967296%65536)):=Z9 h 32 16 (by decide) (by decide)
 have k2:ev 245 [.pv (U a),.pv (I 48),.pv (I 16)] []=ok (U (a/281474976710656%65536)):=Z9 h 48 16 (by decide) (by decide)
 have k3:ev 245 [.pv (U a),.pv (I 32),.pv (I 3)] []=ok (U (a/4294967296%8)):=Z9 h 32 3 (by decide) (by decide)
 have k4:ev 245 [.pv (U a),.pv (I 35),.pv (I 29)] []=ok (U (a/34359738368%536870912)):=Z9 h 35 29 (by decide) (by decide)
 have k5:ev 245 [.pv (U a),.pv (I 2),.pv (I 1)] []=ok (U (a/4%2)):=Z9 h 2 1 (by decide) (by decide)
 have k6:ev 245 [.pv (U a),.pv (I 3),.pv (I 29)] []=ok (U (a/8%536870912)):=Z9 h 3 29 (by decide) (by decide)
 have k7:ev 245 [.pv (U a),.pv (I 32),.pv (I 32)] []=ok (U (a/4294967296%4294967296)):=Z9 h 32 32 (by decide) (by decide)
 have k8:ev 245 [.pv (U a),.pv (I 2),.pv (I 30)] []=ok (U (a/4%1073741824)):=Z9 h 2 30 (by decide) (by decide)
 rw[znl,znn,zno,znp,znq,k0,k1,k2,k3,k4,k5,k6,k7,k8,zf4 h]
 simp only[zv,zP,zqR,xV,Yj,zh,xZ,xP]
 rw[zc (x:=a/4294967296%65536),zc (x:=a/281474976710656%65536),zc (x:=a/4294967296%8),zc (x:=a/34359738368%536870912),zc (x:=a/8%536870912),zc (x:=a%4)]
 rw[JI,JI,show a/4294967296%4294967296%4294967296=a/4294967296%4294967296 by omega,show a/4%1073741824%4294967296=a/4%1073741824 by omega]
 unfold zk
 by_cases c0:a%4=0
 ·simp[-getElem?_pos,zqP,zqQ,yc,yj,ym,yp,c0,yf]
 by_cases c1:a%4=1
 ·simp[-getElem?_pos,zqP,zqQ,yc,yj,ym,yp,c1,yf]
 by_cases c2:a%4=2
 ·simp[-getElem?_pos,zqP,zqQ,yc,yj,ym,yp,c2,yf]
 ·have c3:a%4=3:=by omega
  simp[-getElem?_pos,zqP,zqQ,yc,yj,ym,yp,c3,yf]
theorem znu (n:Nat) (hn:n<=63):∀ (d j:Nat),j+d=n->QX n ((2^j:Nat):Int) j=ok (U ((2^n:Nat):Int)):=by
 intro d
 induction d with
 |zero=>
  intro j hj
  obtain rfl:j=n:=by omega
  rw[zaW]
  simp
 |succ d ih=>
  intro j hj
  rw[zaW]
  have h2:2^(j+1)<=2^63:=Nat.pow_le_pow_right (by decide) (by omega)
  have e:((2^j:Nat):Int)*2=((2^(j+1):Nat):Int):=by rw[Nat.pow_succ];push_cast;rfl
  rw[e,wM (by omega),zc (by omega),show (j:Int)+1=((j+1:Nat):Int) by push_cast;rfl,ih (j+1) (by omega)]
  simp only[yc]
  rw[if_pos (by omega)]
theorem Qu (n:Nat) (hn:n<=63):ev 142 [.pv (I n)] []=ok (U ((2^n:Nat):Int)):=by
 rw[ziW]
 exact znu n hn n 0 (by omega)
theorem zod (a:Nat) (ha:a<2^64) (i m:Nat) (h2:i+m<=64):∀ (d j:Nat),j+d=m->W8 a i m ((a/2^i%2^j:Nat):Int) j=ok (U ((a/2^i%2^m:Nat):Int)):=by
 intro d
 induction d with
 |zero=>
  intro j hj
  obtain rfl:j=m:=by omega
  rw[zaU]
  simp
 |succ d ih=>
  intro j hj
  rw[zaU]
  simp only[yc]
  rw[if_pos (by omega),zc (x:=(i:Int)+(j:Int)),show (i:Int)+(j:Int)=((i+j:Nat):Int) by push_cast;rfl,Qu _ (by omega)]
  simp only[zv,zP,zqR,Yj,zh,xZ,xP]
  have hp:0<2^(i+j):=Nat.pow_pos (by decide)
  have hok:yS .quo ((2^(i+j):Nat):Int)=true:=by simp only[yS,bne_iff_ne];omega
  rw[hok,cond_true]
  have hdv:Int.tdiv (a:Int) ((2^(i+j):Nat):Int)=((a/2^(i+j):Nat):Int):=by rw[Int.tdiv_eq_ediv_of_nonneg (Int.natCast_nonneg _)];push_cast;rfl
  have hlt:a/2^(i+j)<2^64:=Nat.lt_of_le_of_lt (Nat.div_le_self _ _) ha
  rw[hdv,wM hlt]
  have hmd:Int.tmod ((a/2^(i+j):Nat):Int) 2=((a/2^(i+j)%2:Nat):Int):=by rw[Int.tmod_eq_emod_of_nonneg (Int.natCast_nonneg _)];push_cast;rfl
  rw[hmd]
  have hs:a/2^i%2^(j+1)=a/2^i%2^j+2^j*(a/2^(i+j)%2):=by
   rw[Nat.mod_pow_succ,Nat.div_div_eq_div_mul,←Nat.pow_add]
  have hjj:(j:Int)+1=((j+1:Nat):Int):=by push_cast;rfl
  have hb:a/2^i%2^(j+1)<2^64:=Nat.lt_of_le_of_lt (Nat.mod_le _ _) (Nat.lt_of_le_of_lt (Nat.div_le_self _ _) ha)
  rw[zc (x:=(j:Int)+1),hjj]
  rcases Nat.mod_two_eq_zero_or_one (a/2^(i+j)) with h0|h0
  ·rw[h0] at hs ⊢
   rw[show a/2^i%2^j=a/2^i%2^(j+1) by omega]
   exact ih (j+1) (by omega)
  ·rw[h0]
   rw[h0,Nat.mul_one] at hs
   have:=ih (j+1) (by omega)
   simp only[Int.natCast_one,beq_self_eq_true,cond_true]
   rw[Qu _ (by omega)]
   simp only[zv,zP,zqR,Yj,zh,xZ,xP]
   rw[show ((a/2^i%2^j:Nat):Int)+((2^j:Nat):Int)=((a/2^i%2^(j+1):Nat):Int) by rw[hs];push_cast;rfl,wM hb]
   exact this
theorem YD {a:Int} (h:zC a) (i m:Nat) (h2:i+m<=64):ev 251 [.pv (U a),.pv (I i),.pv (I m)] []=ok (U (a/2^i%2^m)):=by
 obtain ⟨n,rfl⟩:=Int.eq_ofNat_of_zero_le h.1
 rw[ziU]
 have:=zod n (by have:=h.2;omega) i m h2 m 0 (by omega)
 simp only[Nat.pow_zero,Nat.mod_one] at this
 rw[show ((0:Nat):Int)=0 from rfl] at this
 rw[this]
 simp
theorem zgK {a:Int} (h:zC a):ev 250 [.pv (U a),.pv (I 2),.pv (I 30)] []=ok (I (ve (a/4%1073741824))):=by
 have e1:ev 251 [.pv (U a),.pv (I 2),.pv (I 30)] []=ok (U (a/4%1073741824)):=YD h 2 30 (by decide)
 have e2:ev 142 [.pv (I 29)] []=ok (U 536870912):=Qu 29 (by decide)
 rw[ziX,e1]
 simp only[zv,zP,zqR,Yj,xV,zh,xZ,xP]
 rw[show IntKind.wrap .i64 (30-1)=29 by decide,e2]
 simp only[zv,zP,zqR,Yj,xV,yc,zh,xZ,xP]
 unfold ve
 have hx:=h.1
 rw[zc (x:=a/4%1073741824),zc (x:=536870912),zc (x:=a/4%1073741824-536870912)]
 by_cases hc:536870912<=a/4%1073741824
 ·rw[zc (x:=a/4%1073741824-536870912-536870912)]
  simp[hc]
  omega
 ·simp[hc]
theorem ZA {a:Int} (h:zC a):ev 195 [.pv (U a)] []=ok (.agg (yf (zk a))):=by
 have k1:ev 251 [.pv (U a),.pv (I 32),.pv (I 16)] []=ok (U (a/4294967296%65536)):=YD h 32 16 (by decide)
 have k2:ev 251 [.pv (U a),.pv (I 48),.pv (I 16)] []=ok (U (a/281474976710656%65536)):=YD h 48 16 (by decide)
 have k3:ev 251 [.pv (U a),.pv (I 32),.pv (I 3)] []=ok (U (a/4294967296%8)):=YD h 32 3 (by decide)
 have k4:ev 251 [.pv (U a),.pv (I 35),.pv (I 29)] []=ok (U (a/34359738368%536870912)):=YD h 35 29 (by decide)
 have k5:ev 251 [.pv (U a),.pv (I 2),.pv (I 1)] []=ok (U (a/4%2)):=YD h 2 1 (by decide)
 have k6:ev 251 [.pv (U a),.pv (I 3),.pv (I 29)] []=ok (U (a/8%536870912)):=YD h 3 29 (by decide)
 have k8:ev 251 [.pv (U a),.pv (I 2),.pv (I 30)] []=ok (U (a/4%1073741824)):=YD h 2 30 (by decide)
 obtain ⟨g1,g2⟩:=h
 have hm:IntKind.wrap .i64 (Int.tmod a 4)=a%4:=by rw[Int.tmod_eq_emod_of_nonneg g1,zc (by omega)]
 have hd:IntKind.wrap .u64 (Int.tdiv a 4294967296)=a/4294967296:=by rw[Int.tdiv_eq_ediv_of_nonneg g1,yC (by omega)]
 rw[ziZ,hm,k1,k2,k3,k4,k5,k6,k8,zgK ⟨g1,g2⟩,hd]
 simp only[zv,zP,zqR,xV,Yj,zh,xZ,xP]
 rw[zc (x:=a/4294967296%65536),zc (x:=a/281474976710656%65536),zc (x:=a/4294967296%8),zc (x:=a/34359738368%536870912),zc (x:=a/8%536870912)]
 rw[JI,JI,show a/4%1073741824%4294967296=a/4%1073741824 by omega]
 unfold zk
 by_cases c0:a%4=0
 ·simp[-getElem?_pos,zqP,zqQ,yc,yj,ym,yp,c0,yf]
 by_cases c1:a%4=1
 ·simp[-getElem?_pos,zqP,zqQ,yc,yj,ym,yp,c1,yf]
 by_cases c2:a%4=2
 ·simp[-getElem?_pos,zqP,zqQ,yc,yj,ym,yp,c2,yf]
 ·have c3:a%4=3:=by omega
  simp[-getElem?_pos,zqP,zqQ,yc,yj,ym,yp,c3,yf]
theorem J8 {l:List (List Int)} (h:zN l) (s a n:Int) :
  ev 200 [.pv (.sl 1 (zL l)),.pv (I s),.pv (I a),.pv (I n)] []=ok (Bo (decide (inB l s a n))):=by
 have hw:=(Wu h s).1
 rw[zi7]
 simp only[yc,Yp]
 by_cases h1:0<=s/\s<(l.length:Int)
 ·rw[if_neg (by omega),if_neg (by omega)]
  simp only[YV h1.1 h1.2,h1.1,h1.2,decide_true,Bool.and_self,cond_true,zqR,w5,zqP,yt,zZ]
  by_cases h2:0<=a/\0<=n/\a<=((yu l s).length:Int)
  ·rw[if_neg (by omega),if_neg (by omega),if_pos h2.2.2,zc (by omega)]
   rw[show decide (n<=((yu l s).length:Int)-a)=decide (inB l s a n) from decide_eq_decide.2 (by unfold inB;omega)]
  ·rw[show decide (inB l s a n)=false from decide_eq_false (by unfold inB;omega)]
   repeat' split
   all_goals first
    |rfl
    |(exfalso;omega)
 ·rw[show decide (inB l s a n)=false from decide_eq_false (by unfold inB;omega)]
  repeat' split
  all_goals first
   |rfl
   |(exfalso;omega)
theorem ge {l:List (List Int)} {j:Nat} (h:j<l.length):yu l (j:Int)=l[j]:=by
 simp[yu,List.getD_eq_getElem?_getD,h]
theorem gf {l:List Int} {j:Nat} (h:j<l.length):rd l (j:Int)=l[j]:=by
 simp[rd,List.getD_eq_getElem?_getD,h]
def wD (l:List (List Int)) (s a:Int):Option (Out×ze):=ok (.tup (if inB l s a 1 then [U (rd (yu l s) a),Bo true] else [U 0,Bo false]))
theorem znU {l:List (List Int)} (h:zN l) (s a:Int) {i:Nat} (hi:i<l.length):∀ (d j:Nat),j+d=l[i].length->¬((i:Int)=s/\(j:Int)<=a/\a<l[i].length)->XQ (zL l) s a i j=Vb (zL l) s a ((i+1:Nat):Int):=by
 have hlen:=(h.2 _ (List.getElem_mem hi)).1
 have hll:=h.1
 intro d
 induction d with
 |zero=>
  intro j hj hn
  rw[Q5]
  simp[-getElem?_pos,zqP,zqQ,yc,yj,ym,yp,WA hi,hi,show ¬j<l[i].length by omega,zc (x:=(i:Int)+1)]
 |succ d ih=>
  intro j hj hn
  have hjl:j<l[i].length:=by omega
  rw[Q5]
  have ih':=ih (j+1) (by omega) (by omega)
  have e:(j:Int)+1=((j+1:Nat):Int):=by push_cast;rfl
  rw[zc (x:=(j:Int)+1),e,ih']
  have hc:¬((i:Int)=s/\(j:Int)=a):=by omega
  by_cases h1:(i:Int)=s
  ·have h2:¬(j:Int)=a:=fun e=>hc ⟨h1,e⟩
   subst h1
   simp[-getElem?_pos,zqP,zqQ,yc,yj,ym,yp,WA hi,hi,hjl,h2]
  ·simp[-getElem?_pos,zqP,zqQ,yc,yj,ym,yp,WA hi,hi,hjl,h1]
theorem znT {l:List (List Int)} (h:zN l) {i t:Nat} (hi:i<l.length) (ht:t<l[i].length):∀ (d j:Nat),j+d=t->XQ (zL l) i t i j=ok (.tup [U (rd (yu l i) t),Bo true]):=by
 have hlen:=(h.2 _ (List.getElem_mem hi)).1
 intro d
 induction d with
 |zero=>
  intro j hj
  obtain rfl:j=t:=by omega
  rw[Q5,ge hi,gf ht]
  simp[-getElem?_pos,zqP,zqQ,yc,yj,ym,yp,WA hi,hi,vZ ht,ht]
 |succ d ih=>
  intro j hj
  have hjl:j<l[i].length:=by omega
  rw[Q5]
  have e:(j:Int)+1=((j+1:Nat):Int):=by push_cast;rfl
  rw[zc (x:=(j:Int)+1),e,ih (j+1) (by omega)]
  simp[-getElem?_pos,zqP,zqQ,yc,yj,ym,yp,WA hi,hi,hjl,show ¬(j:Int)=t by omega]
theorem zd6 {l:List (List Int)} (h:zN l) (s a:Int):∀ (d i:Nat),i+d=l.length->(s<(i:Int)->¬inB l s a 1)->Vb (zL l) s a i=wD l s a:=by
 intro d
 induction d with
 |zero=>
  intro i hi hs
  rw[za4]
  have hn:¬inB l s a 1:=fun hb=>hs (by have:=hb.2.1;omega) hb
  simp[-getElem?_pos,zqP,zqQ,yc,yj,ym,yp,show ¬(i:Int)<l.length by omega,wD,hn]
 |succ d ih=>
  intro i hi hs
  have hil:i<l.length:=by omega
  rw[za4]
  have hlt:decide ((i:Int)<((zL l).length:Int))=true:=by simp;omega
  rw[hlt,cond_true]
  by_cases hc:(i:Int)=s/\(0:Int)<=a/\a<l[i].length
  ·obtain ⟨rfl,h0,h1⟩:=hc
   have:=znT h (t:=a.toNat) hil (by omega) a.toNat 0 (by omega)
   rw[Int.toNat_of_nonneg h0] at this
   rw[show (0:Int)=((0:Nat):Int) from rfl,this]
   have hb:inB l i a 1:=⟨by omega,by omega,h0,by omega,by rw[ge hil];omega⟩
   simp[wD,hb]
  ·rw[show (0:Int)=((0:Nat):Int) from rfl,znU h s a hil l[i].length 0 (by omega) (by simpa using hc)]
   refine ih (i+1) (by omega) fun hlt2 hb=>?_
   by_cases he:(i:Int)=s
   ·refine hc ⟨he,hb.2.2.1,?_⟩
    have:=hb.2.2.2.2
    rw[←he,ge hil] at this
    omega
   ·exact hs (by omega) hb
theorem QB {l:List (List Int)} (h:zN l) (s a:Int):ev 197 [.pv (.sl 1 (zL l)),.pv (I s),.pv (I a)] []=wD l s a:=by
 rw[zi9]
 by_cases hs:0<=s
 ·exact zd6 h s a l.length 0 (by omega) (fun h' => by simp at h';omega)
 ·exact zd6 h s a l.length 0 (by omega) (fun _ hb=>by have:=hb.1;omega)
theorem WO {l:List (List Int)} (h:zN l) (s a:Int):ev 278 [.pv (.sl 1 (zL l)),.pv (I s),.pv (I a)] []=wD l s a:=zf7 h s a
def wd (l:List (List Int)) (s a:Int):Int:=rd (yu l s) a
theorem xY {l:List (List Int)} (h:zN l) (s a:Int):zC (wd l s a):=znY (Wu h s) a
theorem Zi {a:Int} (h:zC a):(zk a).1=a%4:=by
 obtain ⟨h1,h2⟩:=h
 unfold zk
 repeat' split
 all_goals (simp;omega)
theorem Kp {a:Int} (hr:zC a) (h:a%4=2):zk a=(2,0,0,0,0,0,a/4%2==1,a/8%536870912,a/4294967296,0):=by
 obtain ⟨h1,h2⟩:=hr
 unfold zk
 rw[if_neg (by omega),if_neg (by omega),if_pos h,Int.emod_eq_of_lt (a:=a/4294967296) (by omega) (by omega)]
def Yo (l:List (List Int)) (a:Int):Int×Int×Int×Int :=
 if inB l (a/4294967296) (a/8%536870912) 1 then (if wd l (a/4294967296) (a/8%536870912)%4=2 then (0,0,0,3) else (wd l (a/4294967296) (a/8%536870912),a/4294967296,a/8%536870912+1,0)) else (0,0,0,2)
def ZV (l:List (List Int)) (a:Int):Int×Int×Int×Int :=
 if inB l (a/4294967296) (a/8%536870912) 2 then
  (if wd l (a/4294967296) (a/8%536870912)%4=2/\wd l (a/4294967296) (a/8%536870912)/4%2=0/\wd l (a/4294967296) (a/8%536870912+1)%4<=1/\(zk (wd l (a/4294967296) (a/8%536870912+1))).2.1=0
   then (wd l (a/4294967296) (a/8%536870912+1),wd l (a/4294967296) (a/8%536870912)/4294967296,wd l (a/4294967296) (a/8%536870912)/8%536870912,0) else (0,0,0,3)) else (0,0,0,2)
def ya (l:List (List Int)) (s a:Int):Int×Int×Int×Int :=
 if inB l s a 1 then (if wd l s a%4=2 then (if wd l s a/4%2=1 then ZV l (wd l s a) else Yo l (wd l s a)) else (wd l s a,s,a+1,0)) else (0,0,0,2)
def ZW (t:Int×Int×Int×Int):List PV:=[U t.1,I t.2.1,I t.2.2.1,I t.2.2.2]
def Wr (t:Int×Int×Int×Int):List PV:=[.agg [U t.1,I t.2.1,I t.2.2.1],I t.2.2.2]
theorem Qt {a:Int} (h:zC a):ev 279 [.pv (U a)] []=ok (Bo (a%4==2)):=by
 rw[zk8,wj h]
 simp[-getElem?_pos,zqP,zqQ,yc,yj,ym,yp,yf,Zi h]
theorem jb {a:Int} (h:zC a) (hf:a%4=2):ev 297 [.pv (U a)] []=ok (.tup [I (a/4294967296),I (a/8%536870912)]):=by
 rw[zk9,wj h,Kp h hf]
 obtain ⟨h1,h2⟩:=h
 simp[-getElem?_pos,zqP,zqQ,yc,yj,ym,yp,yf,zc (x:=a/4294967296)]
theorem zgW {l:List (List Int)} (hl:zN l) {a:Int} (h:zC a) (hf:a%4=2):ev 280 [.pv (.sl 1 (zL l)),.pv (U a)] []=ok (.tup (Wr (Yo l a))):=by
 rw[zlb,jb h hf]
 have hw:=xY hl (a/4294967296) (a/8%536870912)
 have hx:=Qt hw
 unfold wd at hx
 unfold Yo Wr
 by_cases hb:inB l (a/4294967296) (a/8%536870912) 1
 ·by_cases hc:wd l (a/4294967296) (a/8%536870912)%4=2
  ·unfold wd at hc
   simp[-getElem?_pos,zqP,zqQ,yc,yj,ym,yp,WO hl,wD,hb,hx,hc,wd]
  ·unfold wd at hc
   simp[-getElem?_pos,zqP,zqQ,yc,yj,ym,yp,WO hl,wD,hb,hx,hc,wd,zc (x:=a/8%536870912+1)]
 ·simp[-getElem?_pos,zqP,zqQ,yc,yj,ym,yp,WO hl,wD,hb]
theorem zpA (L:List Int) (n:Nat) (h:n+2<=L.length):(L.drop n).take 2=[L.getD n 0,L.getD (n+1) 0]:=by
 rw[List.drop_eq_getElem_cons (by omega),List.drop_eq_getElem_cons (i:=n+1) (by omega),List.getD_eq_getElem?_getD,List.getD_eq_getElem?_getD,zqF (by omega),zqF (by omega)]
 rfl
theorem zkk {l:List (List Int)} {s a:Int} (h:inB l s a 2):cut l s a 2=[wd l s a,wd l s (a+1)]:=by
 obtain ⟨h1,h2,h3,h4,h5⟩:=h
 unfold cut wd rd
 rw[show (2:Int).toNat=2 from rfl,zpA _ _ (by omega),show (a+1).toNat=a.toNat+1 by omega]
theorem zgj {l:List (List Int)} (hl:zN l) {a:Int} (h:zC a) (hf:a%4=2):ev 281 [.pv (.sl 1 (zL l)),.pv (U a)] []=ok (.tup (Wr (ZV l a))):=by
 rw[zla,jb h hf]
 unfold ZV Wr
 by_cases hb:inB l (a/4294967296) (a/8%536870912) 2
 case neg=>simp[-getElem?_pos,zqP,zqQ,yc,yj,ym,yp,JW hl,hb]
 have h1:=xY hl (a/4294967296) (a/8%536870912)
 have h2:=xY hl (a/4294967296) (a/8%536870912+1)
 simp only[zv,zP,zqR,Xm,zqP,zqQ,JW hl _ _ 2 (by decide),hb,if_true,zkk hb,zh,xZ,xP,zK]
 generalize wd l (a/4294967296) (a/8%536870912)=y at h1
 generalize wd l (a/4294967296) (a/8%536870912+1)=z at h2
 have k1:=Zi h1
 have k2:=Zi h2
 by_cases c1:y%4=2
 case neg=>simp[-getElem?_pos,zqP,zqQ,yc,yj,ym,yp,ws,wj h1,wj h2,yf,k1,c1]
 have k3:=Kp h1 c1
 by_cases c2:y/4%2=1
 case pos=>simp[-getElem?_pos,zqP,zqQ,yc,yj,ym,yp,ws,wj h1,wj h2,yf,k3,c1,c2]
 by_cases c3:z%4<=1
 case neg=>simp[-getElem?_pos,zqP,zqQ,yc,yj,ym,yp,ws,wj h1,wj h2,yf,k2,k3,c1,c2,c3,show 1<z%4 by omega]
 by_cases c4:(zk z).2.1=0
 case neg=>simp[-getElem?_pos,zqP,zqQ,yc,yj,ym,yp,ws,wj h1,wj h2,yf,k2,k3,c1,c2,c3,c4,show ¬1<z%4 by omega]
 obtain ⟨g1,g2⟩:=h1
 simp[-getElem?_pos,zqP,zqQ,yc,yj,ym,yp,ws,wj ⟨g1,g2⟩,wj h2,yf,k2,k3,c1,c2,c3,c4,show ¬1<z%4 by omega,show y/4%2=0 by omega,zc (x:=y/4294967296)]
theorem JS {l:List (List Int)} (hl:zN l) (s a:Int):ev 240 [.pv (.sl 1 (zL l)),.pv (I s),.pv (I a)] []=ok (.tup (ZW (ya l s a))):=by
 rw[zk7,WO hl]
 unfold ya ZW
 by_cases hb:inB l s a 1
 case neg=>simp[-getElem?_pos,zqP,zqQ,yc,yj,ym,yp,wD,hb]
 have h0:=xY hl s a
 have hlen:=(Wu hl s).1
 have ha:a+1<=9223372036854775807/\0<=a:=by have:=hb.2.2;omega
 simp only[wD,hb,if_true,zv,zP,zqR,Xm,zqP,zqQ,yL,show rd (yu l s) a=wd l s a from rfl,zh,xZ,xP,zK]
 by_cases hf:wd l s a%4=2
 case neg=>simp[-getElem?_pos,zqP,zqQ,yc,yj,ym,yp,Qt h0,hf,zc (x:=a+1),xx]
 generalize wd l s a=x at h0 hf
 by_cases h4:x/4%2=1
 ·simp only[hf,h4,if_true,Qt h0,wj h0,zgj hl h0 hf]
  unfold ZV
  repeat' split
  all_goals (simp[-getElem?_pos,zqP,zqQ,yc,yj,ym,yp,yf,Kp h0 hf,Wr,hf,h4,xx];try (split<;>rfl))
 ·simp only[hf,h4,if_true,if_false,Qt h0,wj h0,zgW hl h0 hf]
  unfold Yo
  repeat' split
  all_goals (simp[-getElem?_pos,zqP,zqQ,yc,yj,ym,yp,yf,Kp h0 hf,Wr,hf,h4,xx];try (split<;>rfl))
theorem YE {a:Int} (h:zC a):ev 198 [.pv (U a)] []=ok (Bo (a%4==2)):=by
 rw[zjf,Int.tmod_eq_emod_of_nonneg h.1]
theorem jB {a:Int} (h:zC a):ev 199 [.pv (U a)] []=ok (.tup [I (a/4294967296),I (a/8%536870912)]):=by
 obtain ⟨h1,h2⟩:=h
 rw[zjg,Int.tdiv_eq_ediv_of_nonneg h1,Int.tmod_eq_emod_of_nonneg h1,Int.tdiv_eq_ediv_of_nonneg (by omega),yC (x:=a/4294967296) (by omega),yC (by omega),zc (x:=a/4294967296),zc (by omega)]
 simp
 omega
theorem inB_two {l:List (List Int)} {s a:Int}:inB l s a 2↔inB l s a 1/\inB l s (a+1) 1:=by
 unfold inB
 omega
theorem J7 {l:List (List Int)} (hl:zN l) (s a:Int):ev 136 [.pv (.sl 1 (zL l)),.pv (I s),.pv (I a)] []=ok (.tup (ZW (ya l s a))):=by
 rw[zje,QB hl]
 unfold ya ZW
 by_cases hb:inB l s a 1
 case neg=>simp[-getElem?_pos,zqP,zqQ,yc,yj,ym,yp,wD,hb]
 have h0:=xY hl s a
 have hlen:=(Wu hl s).1
 have ha:a+1<=9223372036854775807/\0<=a:=by have:=hb.2.2;omega
 simp only[wD,hb,if_true,zv,zP,zqR,Xm,zqP,zqQ,yL,show rd (yu l s) a=wd l s a from rfl,zh,xZ,xP,zK]
 by_cases hf:wd l s a%4=2
 case neg=>simp[-getElem?_pos,zqP,zqQ,yc,yj,ym,yp,YE h0,hf,zc (x:=a+1)]
 generalize wd l s a=x at h0 hf
 have hbit:Int.tmod (IntKind.wrap .u64 (Int.tdiv x 4)) 2=x/4%2:=by
  obtain ⟨g1,g2⟩:=h0
  rw[Int.tdiv_eq_ediv_of_nonneg g1,yC (by omega),Int.tmod_eq_emod_of_nonneg (by omega)]
 have h1:=xY hl (x/4294967296) (x/8%536870912)
 have h2:=xY hl (x/4294967296) (x/8%536870912+1)
 have hv1:=QB hl (x/4294967296) (x/8%536870912)
 have hv2:=QB hl (x/4294967296) (x/8%536870912+1)
 simp only[YE h0,jB h0,hf,beq_self_eq_true,Bool.not_true,cond_false,if_true,zv,zP,zqR,Xm,zqP,zqQ,yL,Yj,hbit,hv1,zc (x:=x/8%536870912+1),hv2,zh,xZ,xP,zK]
 by_cases hb1:inB l (x/4294967296) (x/8%536870912) 1
 case neg=>
  have hb2:¬inB l (x/4294967296) (x/8%536870912) 2:=fun h=>hb1 (inB_two.1 h).1
  by_cases h4:x/4%2=1
  ·simp[-getElem?_pos,zqP,zqQ,yc,yj,ym,yp,wD,hb1,h4,ZV,hb2]
  ·simp[-getElem?_pos,zqP,zqQ,yc,yj,ym,yp,wD,hb1,h4,Yo]
 by_cases h4:x/4%2=1
 case neg=>
  have h40:x/4%2=0:=by omega
  have e:rd (yu l (x/4294967296)) (x/8%536870912)=wd l (x/4294967296) (x/8%536870912):=rfl
  simp only[wD,hb1,if_true,e,h4,if_false,Yo,h40,zv,zP,zqR,Xm,zqP,zqQ,yL,YE h1,zh,xZ,xP,zK]
  by_cases c1:wd l (x/4294967296) (x/8%536870912)%4=2
  ·simp[-getElem?_pos,zqP,zqQ,yc,yj,ym,yp,c1]
  ·simp[-getElem?_pos,zqP,zqQ,yc,yj,ym,yp,c1]
 have h40:¬x/4%2=0:=by omega
 have e:rd (yu l (x/4294967296)) (x/8%536870912)=wd l (x/4294967296) (x/8%536870912):=rfl
 have e':rd (yu l (x/4294967296)) (x/8%536870912+1)=wd l (x/4294967296) (x/8%536870912+1):=rfl
 by_cases hb2:inB l (x/4294967296) (x/8%536870912+1) 1
 case neg=>
  have hb3:¬inB l (x/4294967296) (x/8%536870912) 2:=fun h=>hb2 (inB_two.1 h).2
  simp[-getElem?_pos,zqP,zqQ,yc,yj,ym,yp,wD,hb1,hb2,h4,ZV,hb3]
 have hb3:inB l (x/4294967296) (x/8%536870912) 2:=inB_two.2 ⟨hb1,hb2⟩
 simp only[wD,hb1,hb2,hb3,if_true,e,e',h4,ZV,zv,zP,zqR,Xm,zqP,zqQ,yL,zh,xZ,xP,zK]
 generalize wd l (x/4294967296) (x/8%536870912)=y at h1
 generalize wd l (x/4294967296) (x/8%536870912+1)=z at h2
 have k2:=Zi h2
 have hbit1:Int.tmod (IntKind.wrap .u64 (Int.tdiv y 4)) 2=y/4%2:=by
  obtain ⟨g1,g2⟩:=h1
  rw[Int.tdiv_eq_ediv_of_nonneg g1,yC (by omega),Int.tmod_eq_emod_of_nonneg (by omega)]
 have kl:=jB h1
 by_cases c1:y%4=2
 case neg=>simp[-getElem?_pos,zqP,zqQ,yc,yj,ym,yp,ZA h2,YE h1,yf,k2,c1]
 by_cases c2:y/4%2=1
 case pos=>simp[-getElem?_pos,zqP,zqQ,yc,yj,ym,yp,ZA h2,YE h1,yf,k2,c1,c2,hbit1]
 by_cases c3:z%4<=1
 case neg=>simp[-getElem?_pos,zqP,zqQ,yc,yj,ym,yp,ZA h2,YE h1,yf,k2,c1,c2,c3,hbit1,show 1<z%4 by omega]
 by_cases c4:(zk z).2.1=0
 case neg=>simp[-getElem?_pos,zqP,zqQ,yc,yj,ym,yp,ZA h2,YE h1,yf,k2,c1,c2,c3,c4,hbit1,show ¬1<z%4 by omega]
 simp[-getElem?_pos,zqP,zqQ,yc,yj,ym,yp,ZA h2,YE h1,yf,k2,c1,c2,c3,c4,hbit1,show ¬1<z%4 by omega,show y/4%2=0 by omega,kl]
structure Ob where
 kind:Int
 seg:Int
 at_:Int
 data:Int
 ptrs:Int
 elem:Int
 n:Int
 cost:Int
 deriving DecidableEq
def Ob.c (o:Ob):List PV:=[I o.kind,I o.seg,I o.at_,I o.data,I o.ptrs,I o.elem,I o.n,I o.cost]
def vp:Ob:=⟨0,0,0,0,0,0,0,0⟩
def xS (t:Ob×Int):List PV:=[.agg t.1.c,I t.2]
def bitsOf (e:Int):Int:=if e=1 then 1 else if e=2 then 8 else if e=3 then 16 else if e=4 then 32 else if e=5 then 64 else if e=6 then 64 else 0
theorem zh8 (e:Int):0<=bitsOf e/\bitsOf e<=64:=by
 unfold bitsOf
 repeat' split
 all_goals omega
def zn (e c:Int):Int:=if e=7 then c+1 else (bitsOf e*c+63)/64
theorem YG {e c:Int} (hc:0<=c/\c<=536870911):0<=bitsOf e*c/\bitsOf e*c<=64*536870911:=by
 have hb:=zh8 e
 exact ⟨Int.mul_nonneg hb.1 hc.1,Int.mul_le_mul hb.2 hc.2 hc.1 (by omega)⟩
theorem Zy {e c:Int} (hc:0<=c/\c<=536870911):0<=zn e c/\zn e c<=536870912:=by
 have h:=YG (e:=e) hc
 unfold zn
 split<;>omega
theorem zaj {e:Int} (he:0<=e/\e<=7):([I 0,I 1,I 8,I 16,I 32,I 64,I 64,I 0]:List PV)[e.toNat]? = some (I (bitsOf e)):=by
 obtain ⟨h1,h2⟩:=he
 have:e=0∨e=1∨e=2∨e=3∨e=4∨e=5∨e=6∨e=7:=by omega
 rcases this with rfl|rfl|rfl|rfl|rfl|rfl|rfl|rfl<;>rfl
theorem JX {e c:Int} (he:0<=e/\e<=7) (hc:0<=c/\c<=536870911):ev 221 [.pv (I e),.pv (I c)] []=ok (I (zn e c)):=by
 have h:=YG (e:=e) hc
 rw[zl5]
 unfold zn
 by_cases h7:e=7
 ·simp[-getElem?_pos,zqP,zqQ,yc,yj,ym,yp,h7,zc (x:=c+1)]
 ·have hb:=zaj he
  simp only[I] at hb
  rw[show (0+e.toNat*1)=e.toNat by omega]
  simp only[hb,zdb]
  rw[if_neg h7]
  simp[-getElem?_pos,zqP,zqQ,yc,yj,ym,yp,h7,he.1,show e<8 by omega,yS,zc (x:=bitsOf e*c),zc (x:=bitsOf e*c+64),zc (x:=bitsOf e*c+64-1)]
  rw[Int.tdiv_eq_ediv_of_nonneg (by omega),zc (by omega),show bitsOf e*c+64-1=bitsOf e*c+63 by omega]
theorem jy (e:Int):ev 189 [.pv (I e)] []=ok (I (bitsOf e)):=by
 rw[zja]
 unfold bitsOf
 simp only[yj]
 repeat' split
 all_goals rfl
theorem QC {e c:Int} (hc:0<=c/\c<=536870911):ev 128 [.pv (I e),.pv (I c)] []=ok (I (zn e c)):=by
 have h:=YG (e:=e) hc
 rw[zjd,jy]
 unfold zn
 by_cases h7:e=7
 ·simp[-getElem?_pos,zqP,zqQ,yc,yj,ym,yp,h7,zc (x:=c+1)]
 ·simp only[zv,zP,zqR,Yj,yj,yc,if_neg h7,zh,xZ,xP]
  rw[zc (x:=bitsOf e*c),Int.tdiv_eq_ediv_of_nonneg (by omega),zc (x:=bitsOf e*c/64),zc (x:=bitsOf e*c/64*64),zc (x:=bitsOf e*c/64+1)]
  split
  ·rw[show bitsOf e*c/64+1=(bitsOf e*c+63)/64 by omega]
  ·rw[show bitsOf e*c/64=(bitsOf e*c+63)/64 by omega]
def bad (e:Int):Ob×Int:=(vp,e)
def wA (l:List (List Int)) (s st d q:Int):Ob×Int:=if inB l s st (d+q) then (⟨1,s,st,d,q,0,0,d+q⟩,0) else bad 2
def wn (l:List (List Int)) (s st c:Int):Ob×Int :=
 if inB l s st (c+1) then
  (if (zk (wd l s st)).1=0/\0<=(zk (wd l s st)).2.1/\(zk (wd l s st)).2.1*((zk (wd l s st)).2.2.1+(zk (wd l s st)).2.2.2.1)<=c then (⟨2,s,st+1,(zk (wd l s st)).2.2.1,(zk (wd l s st)).2.2.2.1,7,(zk (wd l s st)).2.1,c+1+(if (zk (wd l s st)).2.2.1+(zk (wd l s st)).2.2.2.1=0 then (zk (wd l s st)).2.1 else 0)⟩,0) else bad 5) else bad 2
def xi (l:List (List Int)) (s st e c:Int):Ob×Int:=if e=7 then wn l s st c else if inB l s st (zn e c) then (⟨2,s,st,0,0,e,c,zn e c⟩,0) else bad 2
def wU (l:List (List Int)) (s b:Int) (p:PT):Ob×Int :=
 if p.1=0 then wA l s (b+p.2.1) p.2.2.1 p.2.2.2.1 else if p.1=1 then xi l s (b+p.2.1) p.2.2.2.2.1 p.2.2.2.2.2.1 else if p.2.2.2.2.2.2.2.2.2=0 then bad 6 else bad 4
def yA (l:List (List Int)) (s a:Int):Ob×Int :=
 if (ya l s a).2.2.2=0 then (if (ya l s a).1=0 then bad 0 else wU l (ya l s a).2.1 (ya l s a).2.2.1 (zk (ya l s a).1)) else bad (ya l s a).2.2.2
theorem wF {x:Int} (h:zC x):-536870912<=(zk x).2.1/\(zk x).2.1<=536870911/\0<=(zk x).2.2.1/\(zk x).2.2.1<=65535/\0<=(zk x).2.2.2.1/\(zk x).2.2.2.1<=65535/\0<=(zk x).2.2.2.2.1/\(zk x).2.2.2.2.1<=7/\0<=(zk x).2.2.2.2.2.1/\(zk x).2.2.2.2.2.1<=536870911/\0<=(zk x).1/\(zk x).1<=3:=by
 obtain ⟨h1,h2⟩:=h
 unfold zk ve
 repeat' split
 all_goals (simp only[];try split)
 all_goals (simp;try omega)
def Sm (l:List (List Int)):Prop:=∀ s,((yu l s).length:Int)<=1099511627776
theorem zcn {l:List (List Int)} (hl:zN l) (hs:Sm l) (s a:Int) (h:(ya l s a).2.2.2=0):0<=(ya l s a).2.2.1/\(ya l s a).2.2.1<=1099511627777:=by
 obtain ⟨h0,h0'⟩:=xY hl s a
 have hs':=hs s
 unfold ya at h ⊢
 by_cases hb:inB l s a 1
 case neg=>rw[if_neg hb] at h;simp at h
 rw[if_pos hb] at h ⊢
 by_cases hf:wd l s a%4=2
 case neg=>
  rw[if_neg hf] at h ⊢
  unfold inB at hb
  simp only
  omega
 rw[if_pos hf] at h ⊢
 generalize wd l s a=x at *
 by_cases h4:x/4%2=1
 ·rw[if_pos h4] at h ⊢
  unfold ZV at h ⊢
  by_cases c1:inB l (x/4294967296) (x/8%536870912) 2
  case neg=>rw[if_neg c1] at h;simp at h
  rw[if_pos c1] at h ⊢
  split at h
  ·rename_i c2
   rw[if_pos c2]
   simp only
   omega
  ·simp at h
 ·rw[if_neg h4] at h ⊢
  unfold Yo at h ⊢
  by_cases c1:inB l (x/4294967296) (x/8%536870912) 1
  case neg=>rw[if_neg c1] at h;simp at h
  rw[if_pos c1] at h ⊢
  split at h
  ·simp at h
  ·rename_i c2
   rw[if_neg c2]
   simp only
   omega
theorem VE {l:List (List Int)} (hl:zN l) (s a:Int):zC (ya l s a).1:=by
 have w0:zC 0:=⟨by decide,by decide⟩
 unfold ya
 split
 ·split
  ·split
   ·unfold ZV
    split
    ·split
     ·exact xY hl _ _
     ·exact w0
    ·exact w0
   ·unfold Yo
    split
    ·split
     ·exact w0
     ·exact xY hl _ _
    ·exact w0
  ·exact xY hl _ _
 ·exact w0
theorem jR {l:List (List Int)} (hl:zN l) (o:Ob) (st n:Int):ev 282 [.pv (.sl 1 (zL l)),.pv (.agg o.c),.pv (I st),.pv (I n)] []=ok (.tup (xS (if inB l o.seg st n then (o,0) else bad 2))):=by
 rw[Ob.c,zob,WN hl]
 split<;>simp[-getElem?_pos,zqP,zqQ,yc,yj,ym,yp, *,xS,Ob.c,bad,vp]
theorem zgY {l:List (List Int)} (hl:zN l) (p:PT) (s st:Int) (hp:0<=p.2.2.1/\p.2.2.1<=65535/\0<=p.2.2.2.1/\p.2.2.2.1<=65535):ev 241 [.pv (.sl 1 (zL l)),.pv (.agg (yf p)),.pv (I s),.pv (I st)] []=ok (.tup (xS (wA l s st p.2.2.1 p.2.2.2.1))):=by
 rw[yf,zoa,zc (x:=p.2.2.1+p.2.2.2.1)]
 have:=jR hl ⟨1,s,st,p.2.2.1,p.2.2.2.1,0,0,p.2.2.1+p.2.2.2.1⟩ st (p.2.2.1+p.2.2.2.1)
 simp only[Ob.c] at this
 rw[this]
 unfold wA
 split<;>simp[-getElem?_pos,zqP,zqQ,yc,yj,ym,yp,xS,Ob.c,bad,vp]
theorem zcN {l:List (List Int)} {s st n:Int} (h:inB l s st n) (hn:1<=n):inB l s st 1:=by unfold inB at h ⊢;omega
theorem Xv {o n:Int} (ho:0<=o/\o<=536870911) (hn:0<=n/\n<=131070):0<=o*n/\o*n<=536870911*131070:=⟨Int.mul_nonneg ho.1 hn.1,Int.mul_le_mul ho.2 hn.2 hn.1 (by omega)⟩
theorem zgg {l:List (List Int)} (hl:zN l) (hs:Sm l) (p:PT) (s st:Int) (hc:0<=p.2.2.2.2.2.1/\p.2.2.2.2.2.1<=536870911):ev 283 [.pv (.sl 1 (zL l)),.pv (.agg (yf p)),.pv (I s),.pv (I st)] []=ok (.tup (xS (wn l s st p.2.2.2.2.2.1))):=by
 have hs':=hs s
 rw[yf,zn7]
 generalize p.2.2.2.2.2.1=c at hc
 unfold wn
 rw[zc (x:=c+1),WN hl]
 by_cases hb:inB l s st (c+1)
 case neg=>simp[-getElem?_pos,zqP,zqQ,yc,yj,ym,yp,hb,xS,bad,vp,Ob.c]
 have hst:0<=st/\st<=1099511627776:=by unfold inB at hb;omega
 have hw:ev 278 [.pv (.sl 1 (zL l)),.pv (I s),.pv (I st)] []=ok (.tup [U (wd l s st),Bo true]):=by
  rw[WO hl,wD,if_pos (zcN hb (by omega))]
  rfl
 have h0:=xY hl s st
 have hd:=wF h0
 rw[hw]
 simp only[hb,decide_true,Bool.not_true,cond_false,zv,zP,zqR,yL,Xm,zqP,zqQ,wj h0,if_true,zh,xZ,xP,zK]
 generalize zk (wd l s st)=q at hd
 obtain ⟨k,o,d,m,e,c',b,pd,sg,lo⟩:=q
 simp only at hd ⊢
 by_cases hk:k=0
 case neg=>simp[-getElem?_pos,zqP,zqQ,yc,yj,ym,yp,hk,yf,xS,bad,vp,Ob.c]
 by_cases ho:o<0
 case pos=>simp[-getElem?_pos,zqP,zqQ,yc,yj,ym,yp,hk,ho,yf,xS,bad,vp,Ob.c,show ¬0<=o by omega]
 have hm:=Xv (o:=o) (n:=d+m) (by omega) (by omega)
 by_cases hg:o*(d+m)<=c
 case neg=>simp[-getElem?_pos,zqP,zqQ,yc,yj,ym,yp,hk,ho,yf,xS,bad,vp,Ob.c,hg,zc (x:=d+m),zc (x:=o*(d+m)),show c<o*(d+m) by omega]
 by_cases hz:d+m=0
 ·simp[-getElem?_pos,zqP,zqQ,yc,yj,ym,yp,hk,ho,yf,xS,bad,vp,Ob.c,hg,zc (x:=d+m),zc (x:=o*(d+m)),show ¬c<o*(d+m) by omega,show 0<=o by omega,hz,zc (x:=0),show ¬c<0 by omega,hc.1,zc (x:=st+1),zc (x:=c+1+o)]
 ·simp[-getElem?_pos,zqP,zqQ,yc,yj,ym,yp,hk,ho,yf,xS,bad,vp,Ob.c,hg,zc (x:=d+m),zc (x:=o*(d+m)),show ¬c<o*(d+m) by omega,show 0<=o by omega,hz,zc (x:=st+1)]
theorem zgn {l:List (List Int)} (hl:zN l) (hs:Sm l) (p:PT) (s st:Int) (he:0<=p.2.2.2.2.1/\p.2.2.2.2.1<=7) (hc:0<=p.2.2.2.2.2.1/\p.2.2.2.2.2.1<=536870911):ev 242 [.pv (.sl 1 (zL l)),.pv (.agg (yf p)),.pv (I s),.pv (I st)] []=ok (.tup (xS (xi l s st p.2.2.2.2.1 p.2.2.2.2.2.1))):=by
 have hco:=zgg hl hs p s st hc
 rw[yf,zn8,JX he hc]
 have hco':=hco
 rw[yf] at hco'
 unfold xi
 by_cases h7:p.2.2.2.2.1=7
 ·simp only[yj,if_pos h7]
  rw[hco']
  simp[-getElem?_pos,zqP,zqQ,yc,yj,ym,yp,xS,Ob.c]
 ·have:=jR hl ⟨2,s,st,0,0,p.2.2.2.2.1,p.2.2.2.2.2.1,zn p.2.2.2.2.1 p.2.2.2.2.2.1⟩ st (zn p.2.2.2.2.1 p.2.2.2.2.2.1)
  simp only[Ob.c] at this
  simp only[yj,if_neg h7]
  simp only[zv,zP,zqR,yh,Bool.and_self,cond_true,this,zh,xZ,xP]
  split<;>simp[-getElem?_pos,zqP,zqQ,yc,yj,ym,yp,xS,Ob.c,bad,vp]
theorem zgr {l:List (List Int)} (p:PT) (s st:Int) (h3:p.1=3):ev 243 [.pv (.sl 1 (zL l)),.pv (.agg (yf p)),.pv (I s),.pv (I st)] []=ok (.tup (xS (if p.2.2.2.2.2.2.2.2.2=0 then bad 6 else bad 4))):=by
 rw[yf,zn9,znm]
 by_cases h:p.2.2.2.2.2.2.2.2.2=0
 ·simp[-getElem?_pos,zqP,zqQ,yc,yj,ym,yp,h3,h,xS,bad,vp,Ob.c]
 ·simp[-getElem?_pos,zqP,zqQ,yc,yj,ym,yp,h3,h,xS,bad,vp,Ob.c]
theorem zco {l:List (List Int)} (hl:zN l) (s a:Int) (h:(ya l s a).2.2.2=0):(ya l s a).1%4≠2:=by
 unfold ya at h ⊢
 split at h
 case isFalse=>simp at h
 rename_i hb
 rw[if_pos hb]
 split at h
 case isFalse=>rename_i hf;rw[if_neg hf];exact hf
 rename_i hf
 rw[if_pos hf]
 split at h
 ·rename_i h4
  rw[if_pos h4]
  unfold ZV at h ⊢
  split at h
  case isFalse=>simp at h
  rename_i c1
  rw[if_pos c1]
  split at h
  case isFalse=>simp at h
  rename_i c2
  rw[if_pos c2]
  simp only
  omega
 ·rename_i h4
  rw[if_neg h4]
  unfold Yo at h ⊢
  split at h
  case isFalse=>simp at h
  rename_i c1
  rw[if_pos c1]
  split at h
  case isTrue=>simp at h
  rename_i c2
  rw[if_neg c2]
  exact c2
theorem JV {l:List (List Int)} (hl:zN l) (hs:Sm l) (s a:Int):ev 184 [.pv (.sl 1 (zL l)),.pv (I s),.pv (I a)] []=ok (.tup (xS (yA l s a))):=by
 rw[zn5,JS hl]
 unfold yA
 have hb:=zcn hl hs s a
 have hw:=VE hl s a
 have hk:=zco hl s a
 generalize ya l s a=t at hb hw hk
 obtain ⟨w,s',b,e⟩:=t
 dsimp only at hb hw hk
 dsimp only[ZW,zh,zK,zqQ,zqP,zqR,zA]
 by_cases he:e=0
 case neg=>
  rw[if_neg he,bne_iff_ne.2 he]
  rfl
 subst he
 rw[if_pos rfl,show ((0:Int) != 0)=false from rfl]
 dsimp only[zl]
 rw[Ws]
 dsimp only[zh,yL,zqR]
 by_cases hz:w=0
 case pos=>
  rw[if_pos hz,beq_iff_eq.2 hz]
  rfl
 have hd:=wF hw
 have hk':=hk rfl
 have hb':=hb rfl
 rw[←Zi hw] at hk'
 rw[if_neg hz,beq_eq_false_iff_ne.2 hz]
 dsimp only[zl]
 rw[wj hw]
 generalize zk w=p at hd hk'
 have h1:=zgY hl p s' (b+p.2.1) (by omega)
 have h2:=zgn hl hs p s' (b+p.2.1) (by omega) (by omega)
 have h3:=zgr (l:=l) p s' (b+p.2.1)
 have hwp:=zc (x:=b+p.2.1)
 unfold wU
 rw[yf] at h1 h2 h3 ⊢
 dsimp only[zh,vg,yh,zj,xV,zA,zqR,zb]
 have h4:p.1=0∨p.1=1∨p.1=3:=by omega
 rcases h4 with h|h|h
 ·rw[h] at h1 ⊢
  rw[show (decide ((0:Int)<=0)&&decide ((0:Int)<4))=true from rfl,show ((0:Int)==0)=true from rfl]
  dsimp only[zb]
  rw[hwp,h1,if_pos rfl]
  rfl
 ·rw[h] at h2 ⊢
  rw[show (decide ((0:Int)<=1)&&decide ((1:Int)<4))=true from rfl,show ((0:Int)==1)=false from rfl,show ((1:Int)==1)=true from rfl]
  dsimp only[zb,zl]
  rw[hwp,h2,if_neg (by decide),if_pos rfl]
  rfl
 ·have h3':=h3 h
  rw[h] at h3' ⊢
  rw[show (decide ((0:Int)<=3)&&decide ((3:Int)<4))=true from rfl,show ((0:Int)==3)=false from rfl,show ((1:Int)==3)=false from rfl,show ((2:Int)==3)=false from rfl,show ((3:Int)==3)=true from rfl]
  dsimp only[zb,zl]
  rw[hwp,h3',if_neg (show ¬(3:Int)=0 by decide),if_neg (show ¬(3:Int)=1 by decide)]
  split<;>rfl
theorem jD {l:List (List Int)} (hl:zN l) (hs:Sm l) (s a:Int):ev 137 [.pv (.sl 1 (zL l)),.pv (I s),.pv (I a)] []=ok (.tup (xS (yA l s a))):=by
 rw[zji,J7 hl]
 unfold yA
 have hb:=zcn hl hs s a
 have hw:=VE hl s a
 have hk:=zco hl s a
 generalize ya l s a=t at hb hw hk
 obtain ⟨w,s',b,e⟩:=t
 dsimp only at hb hw hk
 dsimp only[ZW,zh,zK,zqQ,zqP,zqR,zA,yh,zj,zb,xc]
 by_cases he:e=0
 case neg=>
  rw[if_neg he,bne_iff_ne.2 he]
  rfl
 subst he
 rw[if_pos rfl,show ((0:Int) != 0)=false from rfl]
 dsimp only[zl]
 by_cases hz:w=0
 case pos=>
  rw[if_pos hz,beq_iff_eq.2 hz]
  rfl
 have hd:=wF hw
 have hk':=hk rfl
 have hb':=hb rfl
 rw[←Zi hw] at hk'
 rw[if_neg hz,beq_eq_false_iff_ne.2 hz]
 dsimp only[zl]
 rw[ZA hw]
 generalize zk w=p at hd hk'
 obtain ⟨k,of_,d,q,e,c,db,pd,sg,lo⟩:=p
 dsimp only at hd hk'
 have hwp:=zc (x:=b+of_)
 unfold wU
 dsimp only[yf,zh,vg,yh,zj,zA,zmU,zqR,zb]
 have h4:k=0∨k=1∨k=3:=by omega
 rcases h4 with rfl|rfl|rfl
 ·rw[show ((0:Int)==3)=false from rfl,show ((0:Int)==0)=true from rfl]
  dsimp only[zb,zl]
  rw[hwp,zc (x:=d+q),J8 hl,if_pos rfl]
  unfold wA
  by_cases hb1:inB l s' (b+of_) (d+q)
  ·rw[decide_eq_true hb1,if_pos hb1];rfl
  ·rw[decide_eq_false hb1,if_neg hb1];rfl
 ·rw[show ((1:Int)==3)=false from rfl,show ((1:Int)==0)=false from rfl]
  dsimp only[zl]
  rw[QC (e:=e) (c:=c) (by omega),if_neg (by decide),if_pos rfl]
  dsimp only[zh,yh,zj,zb,zA,zqR]
  rw[hwp,J8 hl]
  dsimp only[zh,yL,zqR]
  unfold xi
  have hwr:=Zy (e:=e) (c:=c) (by omega)
  by_cases h7:e=7
  case neg=>
   rw[if_neg h7]
   by_cases hb1:inB l s' (b+of_) (zn e c)
   ·rw[decide_eq_true hb1,if_pos hb1,bne_iff_ne.2 h7];rfl
   ·rw[decide_eq_false hb1,if_neg hb1];rfl
  subst h7
  have hwo:zn 7 c=c+1:=by simp[zn]
  rw[hwo,if_pos rfl]
  unfold wn
  by_cases hb1:inB l s' (b+of_) (c+1)
  case neg=>rw[decide_eq_false hb1,if_neg hb1];rfl
  have hst:0<=b+of_/\b+of_<=1099511627776:=by have:=hs s';unfold inB at hb1;omega
  have hww:ev 197 [.pv (.sl 1 (zL l)),.pv (I s'),.pv (I (b+of_))] []=ok (.tup [U (wd l s' (b+of_)),Bo true]):=by
   rw[QB hl,wD,if_pos (zcN hb1 (by omega))]
   rfl
  have h0:=xY hl s' (b+of_)
  have hd2:=wF h0
  rw[decide_eq_true hb1,if_pos hb1,show ((7:Int) != 7)=false from rfl]
  dsimp only[vm,zl]
  rw[hww]
  dsimp only[zh,zK,zqQ,zqP,zqR]
  rw[ZA h0]
  generalize zk (wd l s' (b+of_))=y at hd2
  obtain ⟨k,o,d2,m,e2,c',b2,pd2,sg2,lo2⟩:=y
  dsimp only at hd2
  dsimp only[yf,zh,vg,yh,zj,zA,zb,zqR]
  by_cases hk:k=0
  case neg=>rw[bne_iff_ne.2 hk,if_neg (fun h=>hk h.1)];rfl
  subst hk
  rw[show ((0:Int) != 0)=false from rfl]
  dsimp only[zl]
  by_cases ho:o<0
  case pos=>rw[decide_eq_true ho,if_neg (fun h=>by omega)];rfl
  rw[decide_eq_false ho]
  dsimp only[zl]
  have hm:=Xv (o:=o) (n:=d2+m) (by omega) (by omega)
  rw[zc (x:=d2+m),zc (x:=o*(d2+m)),zc (x:=b+of_+1),zc (x:=c+1+o)]
  by_cases hg:o*(d2+m)<=c
  case neg=>rw[dT (o*(d2+m)>c),if_neg (fun h=>hg h.2.2)];rfl
  rw[dF (o*(d2+m)>c),if_pos ⟨rfl,by omega,hg⟩]
  dsimp only[zl]
  by_cases hz2:d2+m=0
  ·rw[beq_iff_eq.2 hz2,if_pos hz2];rfl
  ·rw[beq_eq_false_iff_ne.2 hz2,if_neg hz2,Int.add_zero];rfl
 ·rw[show ((3:Int)==3)=true from rfl,if_neg (show ¬(3:Int)=0 by decide),if_neg (show ¬(3:Int)=1 by decide)]
  dsimp only[zb]
  by_cases hlo:lo=0
  ·rw[beq_iff_eq.2 hlo,if_pos hlo];rfl
  ·rw[beq_eq_false_iff_ne.2 hlo,if_neg hlo];rfl
theorem yq {n b:Nat} (h:n*b<=140737488355328) (h1:n<=140737488355328):zJ n b=true:=by simp[zJ,h,h1]
def w8 (w:Int):List Int:=(List.range 8).map fun k=>w/256^k%256
def zu (l:List Int):List Int:=l.flatMap w8
theorem wu (w:Int):(w8 w).length=8:=by simp[w8]
theorem yT (l:List Int):(zu l).length=8*l.length:=by
 induction l with
 |nil=>rfl
 |cons w l ih=>simp only[zu,List.flatMap_cons,zqS,wu,zqT] at ih ⊢;omega
theorem ww (l:List Int):∀ b∈zu l,zF b:=by
 intro b hb
 obtain ⟨w,_,hw⟩:=List.mem_flatMap.1 hb
 obtain ⟨k,_,rfl⟩:=List.mem_map.1 hw
 exact ⟨by omega,by omega⟩
theorem zfq {w:Int} {k:Nat} (h:k<8):(w8 w).take (k+1)=(w8 w).take k++[w/256^k%256]:=by
 rw[List.take_succ_eq_append_getElem (by simp[wu,h])]
 simp[w8]
theorem wP (a b:List Int):bs (a++b)=bs a++bs b:=by simp[bs]
theorem zmP (w:Int) (k:Nat) (hk:k<8):Int.fdiv w (2^(min ((8*k:Nat):Int).toNat 64))=w/256^k:=by
 rw[zqK,Nat.min_eq_left (by omega),Int.fdiv_eq_ediv_of_nonneg _ (Int.le_of_lt (Int.pow_pos (by decide))),Int.pow_mul]
 rfl
theorem zpZ {l:List Int} (w:Int) (n i:Int) (hi:0<=i/\i<=9000000000000000000) (acc:List Int) (ha:acc.length+8<=140737488355328):∀ (d k:Nat),k+d=8->JF (bs (acc++(w8 w).take k)) (U w) (ws l) n i k=Qg (bs (acc++w8 w)) (ws l) n (i+1):=by
 intro d
 induction d with
 |zero=>
  intro k hk
  obtain rfl:k=8:=by omega
  rw[zfu,List.take_of_length_le (by simp[wu])]
  rw[show decide (((8:Nat):Int)<8)=false from rfl,zc (x:=i+1)]
  rfl
 |succ d ih=>
  intro k hk
  rw[zfu,dT ((k:Int)<8)]
  dsimp only[xc,zqR,zb]
  have e:IntKind.wrap .u64 (IntKind.wrap .i64 (8*(k:Int)))=((8*k:Nat):Int):=by rw[zc (by omega),yC (by omega)];push_cast;rfl
  have hr:zJ ((bs (acc++(w8 w).take k)).length+1) 1=true:=yq (by simp[wu];omega) (by simp[wu];omega)
  rw[e,zmP w k (by omega),vK,hr,zc (x:=(k:Int)+1)]
  have:=ih (k+1) (by omega)
  rw[zfq (by omega),←List.append_assoc,wP] at this
  simp only[yS,Int.natCast_nonneg,decide_true,cond_true]
  exact this
theorem zp0 (l:List Int) (hl:l.length<=17592186044416):∀ (d i:Nat),i+d=l.length->Qg (bs (zu (l.take i))) (ws l) l.length i=ok (.sl 1 (bs (zu l))):=by
 intro d
 induction d with
 |zero=>
  intro i hi
  obtain rfl:i=l.length:=by omega
  rw[zft,decide_eq_false (by omega),List.take_length]
  rfl
 |succ d ih=>
  intro i hi
  have hil:i<l.length:=by omega
  rw[zft,decide_eq_true (by omega)]
  have hg:(ws l)[(i:Int).toNat]? = some (U l[i]):=by rw[zqK,vZ hil]
  rw[hg]
  have:=ih (i+1) (by omega)
  have h2:=zpZ (l:=l) l[i] l.length i (by omega) (zu (l.take i)) (by rw[yT];simp;omega) 8 0 rfl
  rw[List.take_zero,List.append_nil] at h2
  have e:zu (l.take i)++w8 l[i]=zu (l.take (i+1)):=by rw[List.take_succ_eq_append_getElem hil];simp only[zu,List.flatMap_append,List.flatMap_cons,List.flatMap_nil,List.append_nil]
  rw[e] at h2
  simp only[zZ,Int.natCast_nonneg,decide_true,Bool.true_and,dT ((i:Int)<l.length),cond_true,zqR,z9,zqP]
  exact h2.trans this
theorem YB (l:List Int) (hl:l.length<=17592186044416):ev 117 [.pv (.sl 1 (ws l))] []=ok (.sl 1 (bs (zu l))):=by
 rw[zp5,zZ,zc (x:=8*(l.length:Int)),yq (by omega) (by omega)]
 simp only[dT ((0:Int)<=8*(l.length:Int)),dT (8*(l.length:Int)<=140737488355328),Bool.and_self,cond_true]
 exact zp0 l hl l.length 0 (by omega)
theorem znV {l:List Int} {w:Int} (hw:zC w) (i:Int) (hi:0<=i/\i<=9000000000000000000) (acc:List Int) (ha:acc.length+8<=140737488355328):∀ (d k:Nat),k+d=8->QV (ws l) (bs (acc++(w8 w).take k)) i (U (w/256^k)) k=W7 (ws l) (bs (acc++w8 w)) (i+1):=by
 intro d
 induction d with
 |zero=>
  intro k hk
  obtain rfl:k=8:=by omega
  rw[zaT,List.take_of_length_le (by simp[wu])]
  rw[show decide (((8:Nat):Int)<8)=false from rfl,zc (x:=i+1)]
  rfl
 |succ d ih=>
  intro k hk
  obtain ⟨g1,g2⟩:=hw
  have hp:(0:Int)<256^k:=Int.pow_pos (by decide)
  have h0:0<=w/256^k:=Int.ediv_nonneg g1 (Int.le_of_lt hp)
  have h1:w/256^k<=w:=Int.ediv_le_self _ g1
  rw[zaT,dT ((k:Int)<8)]
  dsimp only[xc,zqR,zb]
  have hr:zJ ((bs (acc++(w8 w).take k)).length+1) 1=true:=yq (by simp[wu];omega) (by simp[wu];omega)
  rw[Int.tmod_eq_emod_of_nonneg h0,Int.tdiv_eq_ediv_of_nonneg h0,vK,hr,yC (x:=w/256^k/256) (by omega),zc (x:=(k:Int)+1)]
  have:=ih (k+1) (by omega)
  rw[zfq (by omega),←List.append_assoc,wP,Int.pow_succ,←Int.ediv_ediv_of_nonneg (Int.le_of_lt hp)] at this
  rw[show w/256^k%256%256=w/256^k%256 by omega]
  exact this
theorem znW (l:List Int) (hw:Words l) (hl:l.length<=17592186044416):∀ (d i:Nat),i+d=l.length->W7 (ws l) (bs (zu (l.take i))) i=ok (.sl 1 (bs (zu l))):=by
 intro d
 induction d with
 |zero=>
  intro i hi
  obtain rfl:i=l.length:=by omega
  rw[zaS,decide_eq_false (by simp),List.take_length]
  rfl
 |succ d ih=>
  intro i hi
  have hil:i<l.length:=by omega
  rw[zaS,decide_eq_true (by simp;omega)]
  have hg:(ws l)[(i:Int).toNat]? = some (U l[i]):=by rw[zqK,vZ hil]
  rw[hg]
  have:=ih (i+1) (by omega)
  have h2:=znV (l:=l) (hw.2 _ (List.getElem_mem hil)) i (by omega) (zu (l.take i)) (by rw[yT];simp;omega) 8 0 rfl
  rw[List.take_zero,List.append_nil,Int.pow_zero,Int.ediv_one] at h2
  have e:zu (l.take i)++w8 l[i]=zu (l.take (i+1)):=by rw[List.take_succ_eq_append_getElem hil];simp only[zu,List.flatMap_append,List.flatMap_cons,List.flatMap_nil,List.append_nil]
  rw[e] at h2
  simp only[Int.natCast_nonneg,decide_true,Bool.true_and,cond_true,zqR,z9,zqP]
  exact h2.trans this
theorem Y7 (l:List Int) (hw:Words l) (hl:l.length<=17592186044416):ev 91 [.pv (.sl 1 (ws l))] []=ok (.sl 1 (bs (zu l))):=by
 rw[ziT]
 exact znW l hw hl l.length 0 (by omega)
def z5 (e c:Int):Int:=(bitsOf e*c+7)/8
theorem QN {e c:Int} (hc:0<=c/\c<=536870911):0<=z5 e c/\z5 e c<=4294967296:=by
 have h:=YG (e:=e) hc
 unfold z5
 omega
theorem zfQ {e c:Int} (he:0<=e/\e<=7) (hc:0<=c/\c<=536870911):ev 255 [.pv (I e),.pv (I c)] []=ok (I (z5 e c)):=by
 have h:=YG (e:=e) hc
 rw[zl3]
 have hb:=zaj he
 simp only[I] at hb
 rw[show (0+e.toNat*1)=e.toNat by omega,hb,decide_eq_true he.1,dT (e<8)]
 dsimp only[zj,zqR,zA,zb]
 rw[zdb,zc (x:=bitsOf e*c),zc (x:=bitsOf e*c+8),zc (x:=bitsOf e*c+8-1),Int.tdiv_eq_ediv_of_nonneg (by omega),zc (by omega),show bitsOf e*c+8-1=bitsOf e*c+7 by omega]
 rfl
theorem J4 {e c:Int} (hc:0<=c/\c<=536870911):ev 123 [.pv (I e),.pv (I c)] []=ok (I (z5 e c)):=by
 have h:=YG (e:=e) hc
 rw[zjb,jy]
 dsimp only[zh,zA,zqR]
 rw[zc (x:=bitsOf e*c),Int.tdiv_eq_ediv_of_nonneg (by omega),zc (x:=bitsOf e*c/8),zc (x:=bitsOf e*c/8*8),zc (x:=bitsOf e*c/8+1),yc]
 unfold z5
 split
 ·rw[show bitsOf e*c/8+1=(bitsOf e*c+7)/8 by omega]
 ·rw[show bitsOf e*c/8=(bitsOf e*c+7)/8 by omega]
def trimB (e c:Int) (b:List Int):List Int :=
 if e=1/\0<c%8 then b.take (z5 e c-1).toNat++[rd b (z5 e c-1)%2^(c%8).toNat] else b.take (z5 e c).toNat
theorem zhS {a:Int} (h:zF a) {r:Nat} (hr:r<=7):IntKind.wrap .u8 (((BitVec.ofInt 8 a &&& BitVec.ofInt 8 ((2^r-1:Nat):Int)).toNat:Nat):Int)=a%2^r:=by
 obtain ⟨n,rfl⟩:=Int.eq_ofNat_of_zero_le h.1
 have hn:n<256:=by have:=h.2;omega
 have e1:∀ m:Nat,m<256->(BitVec.ofInt 8 (m:Int)).toNat=m:=fun m hm=>by simp;omega
 have hp:2^r<=2^7:=Nat.pow_le_pow_right (by decide) hr
 rw[BitVec.toNat_and,e1 n hn,e1 _ (by omega),Nat.and_two_pow_sub_one_eq_mod,vK]
 have:n%2^r<=n:=Nat.mod_le _ _
 rw[Int.emod_eq_of_lt (Int.natCast_nonneg _) (by omega)]
 push_cast
 rfl
theorem Qx {e c:Int} {b:List Int} (he:0<=e/\e<=7) (hc:0<=c/\c<=536870911) (hb:∀ x∈b,zF x) (hn:z5 e c<=b.length):ev 235 [.pv (I e),.pv (I c),.pv (.sl 1 (bs b))] []=some (.ret (.slu 5 1 (bs (trimB e c b))),[]):=by
 have hr:=QN (e:=e) hc
 rw[zl4,zfQ he hc]
 dsimp only[zh,xV,zqR]
 rw[decide_eq_true hr.1,decide_eq_true (show z5 e c<=((bs b).length:Int) by simpa using hn)]
 dsimp only[zj,zb]
 have et:List.drop 0 (List.take (z5 e c).toNat (bs b))=bs (b.take (z5 e c).toNat):=by simp[bs]
 rw[et,zo4,yq (by simp;omega) (by simp;omega)]
 dsimp only[zj,zb,zv]
 rw[show yx 5 1 (.slu 5 1 (bs (b.take (z5 e c).toNat)))=some (bs (b.take (z5 e c).toNat)) from xg _ _ _]
 dsimp only[zqR]
 unfold trimB
 by_cases h1:e=1
 case neg=>rw[beq_eq_false_iff_ne.2 h1,if_neg (fun h=>h1 h.1)];rfl
 subst h1
 rw[show ((1:Int)==1)=true from rfl,Int.tmod_eq_emod_of_nonneg hc.1]
 dsimp only[zb]
 by_cases h8:0<c%8
 case neg=>rw[dF (c%8>0),if_neg (fun h=>h8 h.2)];rfl
 rw[dT (c%8>0),if_pos ⟨rfl,h8⟩]
 have hpos:1<=z5 1 c:=by unfold z5 bitsOf;simp;omega
 have hlen:((bs (b.take (z5 1 c).toNat)).length:Int)=z5 1 c:=by simp;omega
 rw[hlen,zc (x:=z5 1 c-1),dT (0<=z5 1 c-1),dT (z5 1 c-1<z5 1 c)]
 have hg:(bs (b.take (z5 1 c).toNat))[(z5 1 c-1).toNat]? = some (U8 (rd b (z5 1 c-1))):=by
  rw[Ze (by simp;omega)]
  simp only[rd,List.getD_eq_getElem?_getD,List.getElem_take]
  rw[zqF (show (z5 1 c-1).toNat<b.length by omega)]
  rfl
 have hby:zF (rd b (z5 1 c-1)):=by
  unfold rd
  rw[List.getD_eq_getElem?_getD,zqF (by omega)]
  exact hb _ (List.getElem_mem _)
 dsimp only[zj,zb]
 rw[hg]
 dsimp only[zqR,z9,zqP,wV]
 have hs:IntKind.wrap .u64 (c%8)=c%8:=yC (by omega)
 have hk:(c%8).toNat<=7:=by omega
 have hmask:IntKind.wrap .u8 (IntKind.wrap .u8 (1*2^(min (c%8).toNat 8))-1)=((2^(c%8).toNat-1:Nat):Int):=by
  generalize (c%8).toNat=r at hk
  have:r=0∨r=1∨r=2∨r=3∨r=4∨r=5∨r=6∨r=7:=by omega
  rcases this with rfl|rfl|rfl|rfl|rfl|rfl|rfl|rfl<;>rfl
 rw[hs,hmask,zhS hby hk,show yS .shl (c%8)=true by simp[yS];omega]
 have hset:(bs (b.take (z5 1 c).toNat)).set (z5 1 c-1).toNat (U8 (rd b (z5 1 c-1)%2^(c%8).toNat))=bs (b.take (z5 1 c-1).toNat++[rd b (z5 1 c-1)%2^(c%8).toNat]):=by
  have e1:(z5 1 c).toNat=(z5 1 c-1).toNat+1:=by omega
  rw[e1,List.take_succ_eq_append_getElem (by omega),wP,wP]
  have hl:(bs (b.take (z5 1 c-1).toNat)).length=(z5 1 c-1).toNat:=by simp;omega
  rw[List.set_append_right _ _ (by omega),hl,Nat.sub_self]
  rfl
 have hcell:setCells (U8 (rd b (z5 1 c-1))) 0 [U8 (rd b (z5 1 c-1)%2^(c%8).toNat)]=some (U8 (rd b (z5 1 c-1)%2^(c%8).toNat)):=rfl
 dsimp only[zb]
 rw[hcell]
 dsimp only[zqR]
 rw[hset]
 rfl
theorem zot (e c:Int) (l acc:List PV) (i x:Int) (keep:Nat) (hk:keep<=7) (hx:zF x) (hr:zJ (acc.length+1) 1=true) (hi:0<=i/\i<=4294967296):∀ (d k:Nat),k+d=keep->Ka e c l acc i (U8 x) keep ((2^k:Nat):Int) k=YH e c l (acc++[U8 (x%2^keep)]) (i+1):=by
 intro d
 induction d with
 |zero=>
  intro k hkd
  obtain rfl:k=keep:=by omega
  rw[za5,decide_eq_false (by omega)]
  dsimp only[xV,zqR,zl]
  obtain ⟨x1,x2⟩:=hx
  have hp:0<2^k:=Nat.pow_pos (by decide)
  rw[hr,show yS .rem ((2^k:Nat):Int)=true by simp only[yS,bne_iff_ne];omega,zc (x:=x),zc (x:=i+1),Int.tmod_eq_emod_of_nonneg x1,vK]
  have h1:0<=x%((2^k:Nat):Int):=Int.emod_nonneg _ (by omega)
  have h3:2^k<=2^7:=Nat.pow_le_pow_right (by decide) hk
  have h2:x%((2^k:Nat):Int)<((2^k:Nat):Int):=Int.emod_lt_of_pos _ (by omega)
  rw[Int.emod_eq_of_lt (b:=256) h1 (by omega)]
  push_cast
  rfl
 |succ d ih=>
  intro k hkd
  rw[za5,decide_eq_true (by omega)]
  have h2:2^(k+1)<=2^7:=Nat.pow_le_pow_right (by decide) (by omega)
  have e1:((2^k:Nat):Int)*2=((2^(k+1):Nat):Int):=by rw[Nat.pow_succ];push_cast;rfl
  rw[e1,zfp (n:=2^(k+1)) (by omega),zc (x:=(k:Int)+1)]
  exact ih (k+1) (by omega)
theorem zos {e c:Int} {b:List Int} (hc:0<=c/\c<=536870911) (hb:∀ x∈b,zF x) (hn:z5 e c<=b.length):∀ (d i:Nat),i+d=(z5 e c).toNat->(d=0->e=1/\0<c%8->False)->YH e c (bs b) (bs (b.take i)) i=ok (.sl 1 (bs (trimB e c b))):=by
 have hr:=QN (e:=e) hc
 intro d
 induction d with
 |zero=>
  intro i hi h0
  rw[qC,J4 hc]
  dsimp only[zh,zA,zqR]
  rw[decide_eq_false (by omega)]
  unfold trimB
  rw[if_neg (h0 rfl)]
  obtain rfl:i=(z5 e c).toNat:=by omega
  rfl
 |succ d ih=>
  intro i hi h0
  have hil:i<b.length:=by omega
  rw[qC,J4 hc]
  dsimp only[zh,zA,zqR]
  rw[decide_eq_true (by omega),decide_eq_true (by omega),decide_eq_true (show (i:Int)<((bs b).length:Int) by simp;omega)]
  have hg:(bs b)[(i:Int).toNat]? = some (U8 b[i]):=by rw[zqK,Ze hil]
  have hroom:zJ ((bs (b.take i)).length+1) 1=true:=yq (by simp;omega) (by simp;omega)
  have hnext:bs (b.take i)++[U8 b[i]]=bs (b.take (i+1)):=by rw[List.take_succ_eq_append_getElem hil,wP];rfl
  dsimp only[zj,zb]
  rw[hg]
  dsimp only[zqR,z9,zqP]
  rw[hroom,hnext,zc (x:=(i:Int)+1),zc (x:=8*(i:Int)),zc (x:=8*(i:Int)+8),zc (x:=c-8*(i:Int))]
  by_cases hlast:e=1/\8*(i:Int)+8>c
  ·obtain ⟨rfl,hgt⟩:=hlast
   have hbn:z5 1 c=(c+7)/8:=by unfold z5 bitsOf;simp
   have hin:(i:Int)=z5 1 c-1:=by omega
   have h8:0<c%8:=by omega
   have hkeep:c-8*(i:Int)=((c%8).toNat:Int):=by omega
   rw[show ((1:Int)==1)=true from rfl,decide_eq_true hgt]
   dsimp only[zb]
   rw[hkeep]
   have hp:=zot 1 c (bs b) (bs (b.take i)) i b[i] (c%8).toNat (by omega) (hb _ (List.getElem_mem hil)) hroom (by omega) (c%8).toNat 0 (by omega)
   rw[show ((2^0:Nat):Int)=1 from rfl,show ((0:Nat):Int)=0 from rfl] at hp
   refine hp.trans ?_
   rw[qC,J4 hc]
   dsimp only[zh,zA,zqR]
   rw[decide_eq_false (by omega)]
   unfold trimB
   rw[if_pos ⟨rfl,h8⟩]
   have hrd:rd b (z5 1 c-1)=b[i]:=by rw[←hin,gf hil]
   rw[hrd,show (z5 1 c-1).toNat=i by omega,wP]
   rfl
  ·have hgo:ok (.sl 1 (bs (trimB e c b)))=YH e c (bs b) (bs (b.take (i+1))) ((i:Int)+1):=(ih (i+1) (by omega) (fun hd h1=>hlast ⟨h1.1,by
    obtain ⟨rfl,h8⟩:=h1
    have hbn:z5 1 c=(c+7)/8:=by unfold z5 bitsOf;simp
    omega⟩)).symm
   rw[hgo]
   by_cases h1:e=1
   ·have hle:¬8*(i:Int)+8>c:=fun h=>hlast ⟨h1,h⟩
    rw[beq_iff_eq.2 h1,decide_eq_false hle]
    rfl
   ·rw[beq_eq_false_iff_ne.2 h1]
    rfl
theorem jH {e c:Int} {b:List Int} (hc:0<=c/\c<=536870911) (hb:∀ x∈b,zF x) (hn:z5 e c<=b.length):ev 124 [.pv (I e),.pv (I c),.pv (.sl 1 (bs b))] []=ok (.sl 1 (bs (trimB e c b))):=by
 rw[zjc]
 have hr:=QN (e:=e) hc
 refine zos hc hb hn (z5 e c).toNat 0 (by omega) (fun h0 h1=>?_)
 obtain ⟨rfl,h8⟩:=h1
 have hbn:z5 1 c=(c+7)/8:=by unfold z5 bitsOf;simp
 omega
def ye (o:Ob) (i:Int):Ob:=⟨1,o.seg,o.at_+i*(o.data+o.ptrs),o.data,o.ptrs,0,0,0⟩
def xm (o:Ob):Int:=if o.kind=1/\0<o.ptrs then o.at_+o.data else if o.kind=2/\o.elem=6/\0<o.n then o.at_ else 0
def vu (o:Ob):Int:=if o.kind=1/\0<o.ptrs then o.ptrs else if o.kind=2/\o.elem=6/\0<o.n then o.n else 0
theorem JQ (o:Ob) (i:Int) (h1:-4611686018427387904<=o.data+o.ptrs/\o.data+o.ptrs<=4611686018427387904) (h2:-4611686018427387904<=i*(o.data+o.ptrs)/\i*(o.data+o.ptrs)<=4611686018427387904) (h3:-4611686018427387904<=o.at_/\o.at_<=4611686018427387903):ev 238 [.pv (.agg o.c),.pv (I i)] []=ok (.agg (ye o i).c):=by
 rw[Ob.c,zn4,zc (x:=o.data+o.ptrs),zc (x:=i*(o.data+o.ptrs)),zc (by omega)]
 rfl
theorem J5 (o:Ob) (i:Int) (h1:-4611686018427387904<=o.data+o.ptrs/\o.data+o.ptrs<=4611686018427387904) (h2:-4611686018427387904<=i*(o.data+o.ptrs)/\i*(o.data+o.ptrs)<=4611686018427387904) (h3:-4611686018427387904<=o.at_/\o.at_<=4611686018427387903):ev 141 [.pv (.agg o.c),.pv (I i)] []=ok (.agg (ye o i).c):=by
 rw[Ob.c,zjh,zc (x:=o.data+o.ptrs),zc (x:=i*(o.data+o.ptrs)),zc (by omega)]
 rfl
theorem je (o:Ob) (h1:-4611686018427387904<=o.at_+o.data/\o.at_+o.data<=4611686018427387904):ev 277 [.pv (.agg o.c)] []=ok (.tup [I (xm o),I (vu o)]):=by
 rw[Ob.c,zn6,zc (x:=o.at_+o.data)]
 unfold xm vu
 simp only[yj,yc]
 by_cases k1:o.kind=1
 ·by_cases k2:0<o.ptrs
  ·simp[k1,k2]
  ·simp[k1,k2]
 ·by_cases k3:o.kind=2
  ·by_cases k4:o.elem=6
   ·by_cases k5:0<o.n
    ·simp[k3,k4,k5]
    ·simp[k3,k4,k5]
   ·simp[k3,k4]
  ·simp[k1,k3]
theorem Qw (d w o:Int):ev 131 [.pv (.agg [I d,I w,I o])] []=ok (.agg [I (max w 0)]):=by
 rw[zif]
 have:(if 0>w then 0 else w)=max w 0:=by omega
 rw[this]
theorem jF (d w o:Int):ev 82 [.pv (.agg [I d,I w,I o])] []=ok (.agg [I (max w 0)]):=by
 rw[zjk,yc]
 split
 ·rw[show max w 0=0 by omega]
 ·rw[show max w 0=w by omega]
theorem Qs (d w o x:Int):ev 191 [.pv (.agg [I d,I w,I o]),.pv (I x)] []=ok (I (if x>d then 7 else 0)):=by
 rw[zie,yc]
 split<;>rfl
theorem r8 (m c:Int) (hm:-4611686018427387904<=m-c/\m-c<=4611686018427387904):ev 272 [.pv (.agg [I m]),.pv (I c)] []=ok (.tup [.agg [I (if c>m then m else m-c)],I (if c>m then 8 else 0)]):=by
 rw[zid,zih,zc (x:=m-c)]
 by_cases h:c>m
 ·rw[decide_eq_true h,if_pos h,if_pos h];rfl
 ·rw[decide_eq_false h,if_neg h,if_neg h];rfl
theorem zgB (m c:Int) (hm:-4611686018427387904<=m-c/\m-c<=4611686018427387904):ev 138 [.pv (.agg [I m]),.pv (I c)] []=ok (.tup [.agg [I (if c>m then m else m-c)],I (if c>m then 8 else 0)]):=by
 rw[zjj,zc (x:=m-c),yc]
 by_cases h:c>m
 ·rw[if_pos h,if_pos h,if_pos h]
 ·rw[if_neg h,if_neg h,if_neg h]
inductive Nd where
 |mk (kind elem n:Int) (data:List Int) (kids:List Nd)
def Nd.kind:Nd->Int|.mk k _ _ _ _=>k
def Nd.elem:Nd->Int|.mk _ e _ _ _=>e
def Nd.n:Nd->Int|.mk _ _ n _ _=>n
def Nd.data:Nd->List Int|.mk _ _ _ d _=>d
def Nd.kids:Nd->List Nd|.mk _ _ _ _ ks=>ks
def nd0:Nd:=.mk 0 0 0 [] []
theorem Nd.ind {P:Nd->Prop} (h:∀ k e n d ks,(∀ x∈ks,P x)->P (.mk k e n d ks)):∀ x,P x
 |.mk k e n d ks=>h k e n d ks fun x hx=>Nd.ind h x
termination_by x=>SizeOf.sizeOf x
decreasing_by
 have:=List.sizeOf_lt_of_mem hx
 simp
 omega
mutual
def Nd.pv:Nd->PV
 |.mk k e n d ks=>.agg [I k,I e,I n,.sl 1 (bs d),.sl 5 (zr ks)]
def zr:List Nd->List PV
 |[]=>[]
 |x::l=>x.pv::zr l
end
theorem YR:∀ l:List Nd,zr l=l.map Nd.pv
 |[]=>rfl
 |x::l=>by rw[zr,YR l];rfl
def Nd.c (x:Nd):List PV:=[I x.kind,I x.elem,I x.n,.sl 1 (bs x.data),.sl 5 (zr x.kids)]
theorem Nd.pv_c (x:Nd):x.pv=.agg x.c:=by cases x;rfl
theorem vU (x:Nd):x.pv.cells=x.c:=by rw[Nd.pv_c];rfl
@[simp] theorem xG (l:List Nd):(zr l).length=l.length:=by rw[YR];simp
theorem wq {l:List Nd} {i:Nat} (h:i<l.length):(zr l)[i]? = some l[i].pv:=by rw[YR];simp[h]
theorem znQ (l:List Nd) (n:Nat):(zr l).take n=zr (l.take n):=by rw[YR,YR,List.map_take]
theorem Jd (a b:List Nd):zr (a++b)=zr a++zr b:=by rw[YR,YR,YR,List.map_append]
theorem QL (l:List Int) (n:Nat):(bs l).take n=bs (l.take n):=by simp[bs]
theorem zdl (x:Nd):((decide (x.pv.cells.length=5)&&x.pv.cells.all PV.isCell)&&true)=true:=by cases x;rfl
mutual
def yw:Nd->Prop
 |.mk k e n d ks=>(d.length<=17592186044416/\(∀ b∈d,zF b)/\ks.length<=1073741824/\(k=1->d.length%8=0))/\Xh ks
def Xh:List Nd->Prop
 |[]=>True
 |x::l=>yw x/\Xh l
end
theorem goods_iff:∀ {l:List Nd},Xh l↔∀ x∈l,yw x
 |[]=>by simp[Xh]
 |x::l=>by simp[Xh,goods_iff (l:=l)]
def yW {α:Type} (p:α->Bool) (l:List α):Nat:=(l.reverse.dropWhile p).length
theorem vl {α:Type} (p:α->Bool) (l:List α):yW p l<=l.length:=by
 unfold yW
 have:=(List.dropWhile_sublist p (l:=l.reverse)).length_le
 simpa using this
theorem wz {α:Type} (p:α->Bool) (l:List α) (x:α):yW p (l++[x])=if p x then yW p l else l.length+1:=by
 unfold yW
 rw[List.reverse_append]
 simp only[List.reverse_cons,List.reverse_nil,List.nil_append,List.singleton_append,List.dropWhile_cons]
 split<;>simp
def yo (d:List Int):Nat:=(yW (·==0) d+7)/8
def yk (ks:List Nd):Nat:=yW (fun x=>x.kind==0) ks
mutual
def zg:Nd->Nd
 |.mk k e n d ks=>if k=1 then .mk k e n (d.take (8*yo d)) ((wK ks).take (yk ks)) else .mk k e n d (wK ks)
def wK:List Nd->List Nd
 |[]=>[]
 |x::l=>zg x::wK l
end
theorem yY:∀ l:List Nd,wK l=l.map zg
 |[]=>rfl
 |x::l=>by rw[wK,yY l];rfl
theorem xH {α:Type} {l:List α} {i:Nat} (h:i<l.length):l.take (i+1)=l.take i++[l[i]]:=List.take_succ_eq_append_getElem h
theorem zlV {d:List Int} (hd:d.length<=17592186044416):∀ i:Nat,i<=d.length->Jz (bs d) i=ok (I (yW (·==0) (d.take i):Nat)):=by
 intro i
 induction i with
 |zero=>
  intro _
  rw[zfa]
  rfl
 |succ i ih=>
  intro hi
  rw[zfa,decide_eq_true (by omega),zc (x:=((i+1:Nat):Int)-1),show ((i+1:Nat):Int)-1=(i:Int) by omega,decide_eq_true (by omega),decide_eq_true (by simp;omega)]
  dsimp only[zj,zb]
  rw[zqK,Ze (by omega)]
  dsimp only[zqR,z9,zqP]
  rw[zpv,ih (by omega),xH (by omega),wz]
  dsimp only[zh,yL,zqR]
  by_cases h0:d[i]=0
  ·rw[beq_iff_eq.2 h0];rfl
  ·rw[beq_eq_false_iff_ne.2 h0]
   simp[show i<=d.length by omega]
theorem zg1 {d:List Int} (hd:d.length<=17592186044416):ev 214 [.pv (.sl 1 (bs d))] []=ok (I (yo d:Nat)):=by
 have hk:=vl (·==0) d
 rw[zpw,zpy]
 have:=zlV hd d.length (by omega)
 rw[List.take_length] at this
 rw[zU,this]
 dsimp only[zh,zA,zqR]
 rw[zc (x:=(yW (·==0) d:Nat)+8),zc (x:=((yW (·==0) d:Nat):Int)+8-1),Int.tdiv_eq_ediv_of_nonneg (by omega),zc (by omega)]
 have e:(((yW (·==0) d:Nat):Int)+8-1)/8=((yo d:Nat):Int):=by unfold yo;omega
 rw[e]
theorem VO (x:Nd):PV.agg ((x.pv.cells.drop 0).take 5)=x.pv:=by cases x;rfl
theorem vV (x:Nd):decide (5<=x.pv.cells.length)=true:=by cases x;rfl
theorem zlW {l:List Nd} (hl:l.length<=1073741824):∀ i:Nat,i<=l.length->Jy (zr l) i=ok (I (yk (l.take i):Nat)):=by
 intro i
 induction i with
 |zero=>
  intro _
  rw[ze9]
  rfl
 |succ i ih=>
  intro hi
  rw[ze9,decide_eq_true (by omega),zc (x:=((i+1:Nat):Int)-1),show ((i+1:Nat):Int)-1=(i:Int) by omega,decide_eq_true (by omega),decide_eq_true (by simp;omega)]
  dsimp only[zj,zb]
  rw[zqK,wq (by omega)]
  dsimp only[zqR]
  rw[vV,VO,Nd.pv_c,Nd.c,zpr,ih (by omega),xH (by omega)]
  unfold yk
  rw[wz]
  dsimp only[zh,yL,zqR,zb]
  by_cases h0:l[i].kind=0
  ·rw[beq_iff_eq.2 h0];rfl
  ·rw[beq_eq_false_iff_ne.2 h0]
   simp[show i<=l.length by omega]
theorem zg0 {l:List Nd} (hl:l.length<=1073741824):ev 215 [.pv (.sl 5 (zr l))] []=ok (I (yk l:Nat)):=by
 rw[zps,zpx]
 have:=zlW hl l.length (by omega)
 rw[List.take_length] at this
 rw[xG,this]
 rfl
theorem zmn (x:Nd):∃ c0 c1 c2 c3 c4,x.pv.cells=[c0,c1,c2,c3,c4]/\x.pv=.agg [c0,c1,c2,c3,c4]/\c0.isCell=true/\c1.isCell=true/\c2.isCell=true/\c3.isCell=true/\c4.isCell=true:=by
 cases x;exact ⟨_,_,_,_,_,rfl,rfl,rfl,rfl,rfl,rfl,rfl⟩
theorem zfb {l:List Nd} (hl:l.length<=1073741824) (hv:∀ x∈l,ev 153 [.pv x.pv] []=ok (zg x).pv) (i3 i4 i5:Int) (xs6 xs7:List PV) (i8 i9 i10:Int) (xs11 xs12:List PV) (k e n:Int) (d:List Int):∀ (m i:Nat),i+m=l.length->
  Qb (zr l) l.length i i3 i4 i5 xs6 xs7 i8 i9 i10 xs11 xs12 k e n (bs d) (zr (wK (l.take i)))=ok (Nd.mk k e n d (wK l)).pv:=by
 intro m
 induction m with
 |zero=>
  intro i hi
  obtain rfl:i=l.length:=by omega
  rw[ze7,decide_eq_false (by omega),List.take_length]
  rfl
 |succ m ih=>
  intro i hi
  have hil:i<l.length:=by omega
  rw[ze7,decide_eq_true (by omega),decide_eq_true (by omega),decide_eq_true (by simp;omega)]
  dsimp only[zj,zb]
  rw[zqK,wq hil]
  obtain ⟨c0,c1,c2,c3,c4,h1,h2,h3,h4,h5,h6,h7⟩:=zmn l[i]
  have hvi:=hv _ (List.getElem_mem hil)
  rw[h2] at hvi
  dsimp only[zqR]
  rw[h1]
  rw[show decide (5<=[c0,c1,c2,c3,c4].length)=true from rfl,show List.take 5 (List.drop 0 [c0,c1,c2,c3,c4])=[c0,c1,c2,c3,c4] from rfl]
  dsimp only[zlZ,zqP,zqQ,zqR,zb]
  rw[h3,h4,h5,h6,h7]
  dsimp only[zj,zb]
  rw[hvi]
  dsimp only[zh]
  have hroom:zJ ((zr (wK (l.take i))).length+1) 72=true:=yq (by rw[xG,yY];simp;omega) (by rw[xG,yY];simp;omega)
  have hnext:zr (wK (l.take i))++[(zg l[i]).pv]=zr (wK (l.take (i+1))):=by
   rw[xH hil,yY,yY,List.map_append,Jd]
   rfl
  rw[zdl,hroom,hnext,zc (x:=(i:Int)+1)]
  exact ih (i+1) (by omega)
theorem zbR {α:Type} (l:List α):l.drop 0=l:=rfl
theorem jP (x:Nd):yw x->ev 153 [.pv x.pv] []=ok (zg x).pv:=by
 induction x using Nd.ind with
 |h k e n d ks ih=>
  intro hg
  rw[yw,goods_iff] at hg
  obtain ⟨⟨hd,hb,hk,h8⟩,hks⟩:=hg
  have hv:∀ x∈ks,ev 153 [.pv x.pv] []=ok (zg x).pv:=fun x hx=>ih x hx (hks x hx)
  rw[Nd.pv,zpt,zg]
  by_cases h1:k=1
  ·subst h1
   have hkw:=vl (·==0) d
   have h88:=h8 rfl
   have hw:8*yo d<=d.length:=by unfold yo;omega
   have hp:yk ks<=ks.length:=vl _ _
   rw[show ((1:Int)==1)=true from rfl,zg1 hd,zg0 hk,if_pos rfl]
   dsimp only[zh,xV,zqR,zv,zP,zA,zb]
   rw[zc (x:=8*((yo d:Nat):Int)),decide_eq_true (by omega),decide_eq_true (by simp;omega),decide_eq_true (by omega),decide_eq_true (by simp;omega)]
   dsimp only[zj,zb]
   have e1:(8*((yo d:Nat):Int)).toNat=8*yo d:=by omega
   rw[e1,zqK,zbR,zbR,QL,znQ,yq (by simp;omega) (by simp;omega),xG]
   dsimp only[zb]
   have:=zfb (l:=ks.take (yk ks)) (by simp;omega) (fun x hx=>hv x (List.mem_of_mem_take hx)) 1 e n (bs d) (zr ks) 0 0 0 [] [] 1 e n (d.take (8*yo d)) (ks.take (yk ks)).length 0 (by omega)
   refine this.trans ?_
   rw[yY,yY,List.map_take]
  ·rw[beq_eq_false_iff_ne.2 h1,if_neg h1,yq (by simp;omega) (by simp;omega),xG]
   exact zfb hk hv k e n (bs d) (zr ks) 0 0 0 [] [] k e n d ks.length 0 (by omega)
theorem zoM {d:List Int} (hd:d.length<=17592186044416):∀ (m i:Nat),i+m=d.length->Vg (bs d) (yo (d.take i):Nat) i=ok (I (yo d:Nat)):=by
 intro m
 induction m with
 |zero=>
  intro i hi
  obtain rfl:i=d.length:=by omega
  rw[zbb,decide_eq_false (by simp),List.take_length]
  rfl
 |succ m ih=>
  intro i hi
  have hil:i<d.length:=by omega
  rw[zbb,decide_eq_true (by simp;omega),decide_eq_true (by omega)]
  dsimp only[zj,zb]
  rw[zqK,Ze hil]
  dsimp only[zqR,z9,zqP,wV]
  have:=ih (i+1) (by omega)
  rw[Int.tdiv_eq_ediv_of_nonneg (by omega),zc (x:=(i:Int)/8),zc (x:=(i:Int)/8+1),zc (x:=(i:Int)+1),ym]
  have hs:yo (d.take (i+1))=if d[i]=0 then yo (d.take i) else i/8+1:=by
   unfold yo
   rw[xH hil,wz]
   by_cases h0:d[i]=0
   ·simp[h0]
   ·simp[h0,show i<=d.length by omega];omega
  rw[hs] at this
  split
  ·rename_i h0
   rw[if_pos h0] at this
   exact this
  ·rename_i h0
   rw[if_neg h0] at this
   rw[show (i:Int)/8+1=((i/8+1:Nat):Int) by push_cast;rfl]
   exact this
theorem zgV {d:List Int} (hd:d.length<=17592186044416):ev 125 [.pv (.sl 1 (bs d))] []=ok (I (yo d:Nat)):=by
 rw[zjo]
 have:=zoM hd d.length 0 (by omega)
 rw[List.take_zero] at this
 exact this
theorem zmo (x:Nd):x.pv.cells[0]? = some (I x.kind):=by cases x;rfl
theorem zoo {l:List Nd} (hl:l.length<=1073741824):∀ (m i:Nat),i+m=l.length->Vd (zr l) (yk (l.take i):Nat) i=ok (I (yk l:Nat)):=by
 intro m
 induction m with
 |zero=>
  intro i hi
  obtain rfl:i=l.length:=by omega
  rw[za7,decide_eq_false (by simp),List.take_length]
  rfl
 |succ m ih=>
  intro i hi
  have hil:i<l.length:=by omega
  rw[za7,decide_eq_true (by simp;omega),decide_eq_true (by omega)]
  dsimp only[zj,zb]
  rw[zqK,wq hil]
  dsimp only[zqR]
  rw[zmo]
  dsimp only[zqR,zA]
  have:=ih (i+1) (by omega)
  rw[zc (x:=(i:Int)+1),ym]
  have hs:yk (l.take (i+1))=if l[i].kind=0 then yk (l.take i) else i+1:=by
   unfold yk
   rw[xH hil,wz]
   by_cases h0:l[i].kind=0
   ·simp[h0]
   ·simp[h0,show i<=l.length by omega]
  rw[hs] at this
  split
  ·rename_i h0
   rw[if_pos h0] at this
   exact this
  ·rename_i h0
   rw[if_neg h0] at this
   exact this
theorem zgQ {l:List Nd} (hl:l.length<=1073741824):ev 126 [.pv (.sl 5 (zr l))] []=ok (I (yk l:Nat)):=by
 rw[zjl]
 have:=zoo hl l.length 0 (by omega)
 rw[List.take_zero] at this
 exact this
theorem zei {l:List Nd} (hl:l.length<=1073741824) (q:Nat) (hq:q<=l.length) (hv:∀ x∈l,ev 135 [.pv x.pv] []=ok (zg x).pv) (i3 i4 i5:Int) (xs6:List PV) (i8 i9 i10:Int) (xs11 xs12:List PV) (k e n:Int) (d:List Int):∀ (m i:Nat),i+m=q->
  Vf (I q) i i3 i4 i5 xs6 (zr l) i8 i9 i10 xs11 xs12 k e n (bs d) (zr (wK (l.take i)))=ok (Nd.mk k e n d (wK (l.take q))).pv:=by
 intro m
 induction m with
 |zero=>
  intro i hi
  obtain rfl:i=q:=by omega
  rw[za9]
  dsimp only[zA,zqR]
  rw[decide_eq_false (by omega)]
  rfl
 |succ m ih=>
  intro i hi
  have hil:i<l.length:=by omega
  rw[za9]
  dsimp only[zA,zqR]
  rw[dT ((i:Int)<(q:Int)),dT ((0:Int)<=(i:Int)),decide_eq_true (show (i:Int)<((zr l).length:Int) by simp;omega)]
  dsimp only[zj,zb]
  rw[zqK,wq hil]
  dsimp only[zqR]
  rw[vV,VO,hv _ (List.getElem_mem hil)]
  dsimp only[zh,zb]
  have hroom:zJ ((zr (wK (l.take i))).length+1) 72=true:=yq (by rw[xG,yY];simp;omega) (by rw[xG,yY];simp;omega)
  have hnext:zr (wK (l.take i))++[(zg l[i]).pv]=zr (wK (l.take (i+1))):=by
   rw[xH hil,yY,yY,List.map_append,Jd]
   rfl
  rw[zdl,hroom,hnext,zc (x:=(i:Int)+1)]
  exact ih (i+1) (by omega)
theorem zeh {d:List Int} (hd:d.length<=17592186044416) (q:Nat) (hq:q<=d.length) (p1:PV) (i3 i4 i5:Int) (xs7:List PV) (i8 i9 i10:Int) (xs11 xs12:List PV) (k e n:Int) (ks:List PV):∀ (m i:Nat),i+m=q->
  Ve q p1 i i3 i4 i5 (bs d) xs7 i8 i9 i10 xs11 xs12 k e n (bs (d.take i)) ks=Vf p1 0 i3 i4 i5 (bs d) xs7 i8 i9 i10 xs11 xs12 k e n (bs (d.take q)) ks:=by
 intro m
 induction m with
 |zero=>
  intro i hi
  obtain rfl:i=q:=by omega
  rw[za8,decide_eq_false (by omega)]
  rfl
 |succ m ih=>
  intro i hi
  have hil:i<d.length:=by omega
  rw[za8,dT ((i:Int)<(q:Int)),dT ((0:Int)<=(i:Int)),decide_eq_true (show (i:Int)<((bs d).length:Int) by simp;omega)]
  dsimp only[zj,zb]
  rw[zqK,Ze hil]
  dsimp only[zqR,z9,zqP]
  have hroom:zJ ((bs (d.take i)).length+1) 1=true:=yq (by simp;omega) (by simp;omega)
  have hnext:bs (d.take i)++[U8 d[i]]=bs (d.take (i+1)):=by rw[xH hil,wP];rfl
  rw[hroom,hnext,zc (x:=(i:Int)+1)]
  exact ih (i+1) (by omega)
theorem zgM (x:Nd):yw x->ev 135 [.pv x.pv] []=ok (zg x).pv:=by
 induction x using Nd.ind with
 |h k e n d ks ih=>
  intro hg
  rw[yw,goods_iff] at hg
  obtain ⟨⟨hd,hb,hk,h8⟩,hks⟩:=hg
  have hv:∀ x∈ks,ev 135 [.pv x.pv] []=ok (zg x).pv:=fun x hx=>ih x hx (hks x hx)
  rw[Nd.pv,zjm,zg]
  by_cases h1:k=1
  ·subst h1
   have hkw:=vl (·==0) d
   have h88:=h8 rfl
   have hw:8*yo d<=d.length:=by unfold yo;omega
   have hp:yk ks<=ks.length:=vl _ _
   rw[show ((1:Int)==1)=true from rfl,zgV hd,zgQ hk,if_pos rfl]
   dsimp only[zh,zA,zqR,zb]
   rw[zc (x:=8*((yo d:Nat):Int)),show 8*((yo d:Nat):Int)=((8*yo d:Nat):Int) by push_cast;rfl]
   have a1:=zeh hd (8*yo d) hw (I (yk ks:Nat)) 1 e n (zr ks) 0 0 0 [] [] 1 e n [] (8*yo d) 0 (by omega)
   have a2:=zei hk (yk ks) hp hv 1 e n (bs d) 0 0 0 [] [] 1 e n (d.take (8*yo d)) (yk ks) 0 (by omega)
   refine (a1.trans a2).trans ?_
   rw[yY,yY,List.map_take]
  ·rw[beq_eq_false_iff_ne.2 h1,if_neg h1,xG,zU]
   have a1:=zeh hd d.length (by omega) (I (ks.length:Nat)) k e n (zr ks) 0 0 0 [] [] k e n [] d.length 0 (by omega)
   have a2:=zei hk ks.length (by omega) hv k e n (bs d) 0 0 0 [] [] k e n d ks.length 0 (by omega)
   rw[List.take_length] at a1 a2
   exact a1.trans a2
def cutB (l:List (List Int)) (s a n:Int):List Int:=if inB l s a n then cut l s a n else []
theorem Xc {l:List (List Int)} (h:zN l) (s a n:Int):Words (cutB l s a n):=by
 unfold cutB
 split
 ·have hw:=Wu h s
  refine ⟨?_,fun x hx=>hw.2 x (List.mem_of_mem_drop (List.mem_of_mem_take hx))⟩
  have:=hw.1
  unfold cut
  rw[zqN,List.length_drop]
  omega
 ·exact ⟨by simp,by simp⟩
theorem Zh (l:List (List Int)) (s a n:Int):(cutB l s a n).length<=n.toNat:=by
 unfold cutB
 split
 ·unfold cut
  rw[zqN]
  omega
 ·simp
theorem jg {l:List (List Int)} (h:zN l) (s a n:Int) (hn:n<=17592186044416):ev 276 [.pv (.sl 1 (zL l)),.pv (I s),.pv (I a),.pv (I n)] []=ok (.tup [.sl 1 (ws (cutB l s a n)),Bo (decide (inB l s a n))]):=by
 rw[JW h s a n hn]
 unfold cutB
 by_cases hb:inB l s a n
 ·rw[if_pos hb,if_pos hb,decide_eq_true hb]
 ·rw[if_neg hb,if_neg hb,decide_eq_false hb];rfl
theorem WI (a:List Int) (x:Int):ws a++[U x]=ws (a++[x]):=by simp[ws]
theorem zop {l:List (List Int)} (h:zN l) {s a n:Int} (hb:inB l s a n) (hn:n<=17592186044416) (ha:a<=17592186044416):∀ (c i:Nat),i+c=n.toNat->Q2 (zL l) s a n (ws ((cut l s a n).take i)) i=ok (.tup [.sl 1 (ws (cut l s a n)),Bo true]):=by
 have hl:=qR hb
 have hb':=hb
 obtain ⟨h1,h2,h3,h4,h5⟩:=hb'
 intro c
 induction c with
 |zero=>
  intro i hi
  rw[za3,decide_eq_false (by omega),List.take_of_length_le (by omega)]
  rfl
 |succ c ih=>
  intro i hi
  have hil:i<(cut l s a n).length:=by omega
  rw[za3,dT ((i:Int)<n),decide_eq_true h1,decide_eq_true (show s<((zL l).length:Int) by simp;omega),YV h1 h2,zc (x:=a+i)]
  dsimp only[zj,zqR,w5,zqP,yt,zb]
  rw[dT (0<=a+(i:Int)),decide_eq_true (show a+(i:Int)<((ws (yu l s)).length:Int) by simp;omega),gT (by omega) (by omega)]
  dsimp only[zqR,z9,zqP]
  rw[yq (by simp;omega) (by simp;omega),WI,zc (x:=(i:Int)+1)]
  have e:rd (yu l s) (a+i)=(cut l s a n)[i]:=by
   have:=gf (l:=yu l s) (j:=a.toNat+i) (by omega)
   rw[show ((a.toNat+i:Nat):Int)=a+i by omega] at this
   rw[this]
   simp only[cut,List.getElem_take,List.getElem_drop]
  rw[e,←xH hil]
  exact ih (i+1) (by omega)
theorem jE {l:List (List Int)} (h:zN l) (hs:Sm l) (s a n:Int) (hn:n<=17592186044416):ev 140 [.pv (.sl 1 (zL l)),.pv (I s),.pv (I a),.pv (I n)] []=ok (.tup [.sl 1 (ws (cutB l s a n)),Bo (decide (inB l s a n))]):=by
 rw[zi8,J8 h]
 unfold cutB
 by_cases hb:inB l s a n
 ·rw[if_pos hb,decide_eq_true hb]
  have:=hs s
  have hb':=hb
  obtain ⟨h1,h2,h3,h4,h5⟩:=hb'
  exact zop h hb hn (by omega) n.toNat 0 (by omega)
 ·rw[if_neg hb,decide_eq_false hb]
  rfl
def ZP (l:List (List Int)) (o:Ob):Prop:=(0<=o.at_/\o.at_<=1099511627776)/\(0<=o.data/\o.data<=65535)/\(0<=o.ptrs/\o.ptrs<=65535)/\(0<=o.elem/\o.elem<=7)/\(0<=o.n/\o.n<=536870911)/\(0<=o.cost/\o.cost<=2147483648)/\(o.kind=1∨o.kind=2)/\(o.kind=2->o.elem<6->inB l o.seg o.at_ o.cost/\o.cost=zn o.elem o.n)/\(o.kind=2->o.elem≠7->o.data=0/\o.ptrs=0)
theorem ui {l:List (List Int)} (hs:Sm l) {s a n:Int} (h:inB l s a n):0<=a/\a+n<=1099511627776/\0<=n:=by
 have:=hs s
 obtain ⟨h1,h2,h3,h4,h5⟩:=h
 omega
theorem wO {e:Int} {P:Prop} (h:(bad e).2=0) (he:e≠0):P:=absurd h he
theorem zmC {l:List (List Int)} (hs:Sm l) {s st d q:Int} (hd:0<=d/\d<=65535) (hq:0<=q/\q<=65535) (h:(wA l s st d q).2=0):ZP l (wA l s st d q).1:=by
 unfold wA at h ⊢
 by_cases hb:inB l s st (d+q)
 ·rw[if_pos hb] at h ⊢
  obtain ⟨a1,a2,a3⟩:=ui hs hb
  exact ⟨⟨a1,by dsimp only;omega⟩,hd,hq,⟨by dsimp only;omega,by dsimp only;omega⟩,⟨by dsimp only;omega,by dsimp only;omega⟩,⟨by dsimp only;omega,by dsimp only;omega⟩,.inl rfl,fun h=>absurd h (by dsimp only;omega),fun h=>absurd h (by dsimp only;omega)⟩
 ·rw[if_neg hb] at h
  exact wO h (by decide)
theorem zmA {l:List (List Int)} (hl:zN l) (hs:Sm l) {s st c:Int} (hc:0<=c/\c<=536870911) (h:(wn l s st c).2=0):ZP l (wn l s st c).1:=by
 unfold wn at h ⊢
 by_cases hb:inB l s st (c+1)
 ·rw[if_pos hb] at h ⊢
  have hd:=wF (xY hl s st)
  generalize zk (wd l s st)=p at h hd ⊢
  by_cases hk:p.1=0/\0<=p.2.1/\p.2.1*(p.2.2.1+p.2.2.2.1)<=c
  ·rw[if_pos hk] at h ⊢
   obtain ⟨a1,a2,a3⟩:=ui hs hb
   refine ⟨⟨by dsimp only;omega,by dsimp only;omega⟩,⟨by dsimp only;omega,by dsimp only;omega⟩,⟨by dsimp only;omega,by dsimp only;omega⟩,⟨by dsimp only;omega,by dsimp only;omega⟩,⟨by dsimp only;omega,by dsimp only;omega⟩,⟨by dsimp only;split<;>omega,by dsimp only;split<;>omega⟩,.inr rfl,fun _ h=>absurd h (by dsimp only;omega),fun _ h=>absurd rfl h⟩
  ·rw[if_neg hk] at h
   exact wO h (by decide)
 ·rw[if_neg hb] at h
  exact wO h (by decide)
theorem zmB {l:List (List Int)} (hl:zN l) (hs:Sm l) {s st e c:Int} (he:0<=e/\e<=7) (hc:0<=c/\c<=536870911) (h:(xi l s st e c).2=0):ZP l (xi l s st e c).1:=by
 unfold xi at h ⊢
 by_cases h7:e=7
 ·rw[if_pos h7] at h ⊢
  exact zmA hl hs hc h
 ·rw[if_neg h7] at h ⊢
  by_cases hb:inB l s st (zn e c)
  ·rw[if_pos hb] at h ⊢
   obtain ⟨a1,a2,a3⟩:=ui hs hb
   have hw:=Zy (e:=e) hc
   exact ⟨⟨a1,by dsimp only;omega⟩,⟨by dsimp only;omega,by dsimp only;omega⟩,⟨by dsimp only;omega,by dsimp only;omega⟩,he,hc,⟨hw.1,by dsimp only;omega⟩,.inr rfl,fun _ _=>⟨hb,rfl⟩,fun _ _=>⟨rfl,rfl⟩⟩
  ·rw[if_neg hb] at h
   exact wO h (by decide)
theorem Xk {l:List (List Int)} (hl:zN l) (hs:Sm l) {s a:Int} (h0:(ya l s a).1≠0) (he:(ya l s a).2.2.2=0) (h:(yA l s a).2=0):ZP l (yA l s a).1:=by
 have hd:=wF (VE hl s a)
 unfold yA at h ⊢
 rw[if_pos he,if_neg h0] at h ⊢
 unfold wU at h ⊢
 generalize zk (ya l s a).1=p at h hd ⊢
 by_cases k0:p.1=0
 ·rw[if_pos k0] at h ⊢
  exact zmC hs (by omega) (by omega) h
 ·rw[if_neg k0] at h ⊢
  by_cases k1:p.1=1
  ·rw[if_pos k1] at h ⊢
   exact zmB hl hs (by omega) (by omega) h
  ·rw[if_neg k1] at h
   split at h
   ·exact wO h (by decide)
   ·exact wO h (by decide)
def Yh (t:Nd×Int×Int):List PV:=[.agg [I t.1.kind,I t.1.elem,I t.1.n,.sl 1 (bs t.1.data),.sl 5 (zr t.1.kids)],.agg [I t.2.1],I t.2.2]
def z6 (F:Int->Nat->Nd×Int×Int):Nat->Nat->Int->List Nd->List Nd×Int×Int
 |0,_,m,acc=>(acc,m,0)
 |c+1,i,m,acc=>if (F m i).2.2=0 then z6 F c (i+1) (F m i).2.1 (acc++[(F m i).1]) else ([],(F m i).2.1,(F m i).2.2)
def wL (t:List Nd×Int×Int) (f:List Nd->Nd):Nd×Int×Int:=(if t.2.2=0 then f t.1 else nd0,t.2.1,t.2.2)
def zV (F:Int->Int->Int->Nd×Int×Int) (l:List (List Int)) (m:Int) (o:Ob):Nd×Int×Int :=
 wL (z6 (fun m i=>F m o.seg (o.at_+o.data+i)) o.ptrs.toNat 0 m []) fun ks=>.mk 1 0 0 (zu (cutB l o.seg o.at_ o.data)) ks
def xl (F:Int->Int->Int->Nd×Int×Int) (l:List (List Int)) (m:Int) (o:Ob):Nd×Int×Int :=
 if o.elem<6 then (.mk 2 o.elem o.n (trimB o.elem o.n (zu (cutB l o.seg o.at_ o.cost))) [],m,0)
 else wL (z6 (fun m i=>if o.elem=6 then F m o.seg (o.at_+i) else zV F l m (ye o i)) o.n.toNat 0 m []) fun ks=>.mk 2 o.elem o.n [] ks
def yQ (F:Int->Int->Int->Nd×Int×Int) (l:List (List Int)) (m:Int) (t:Ob×Int):Nd×Int×Int :=
 if t.2=0 then (if t.1.cost>m then (nd0,m,8) else if t.1.kind=1 then zV F l (m-t.1.cost) t.1 else xl F l (m-t.1.cost) t.1) else (nd0,m,t.2)
def zR (l:List (List Int)):Nat->Int->Int->Int->Nd×Int×Int
 |0=>fun m s a=>if (ya l s a).2.2.2=0 then (if (ya l s a).1=0 then (nd0,m,0) else (nd0,m,7)) else (nd0,m,(ya l s a).2.2.2)
 |D+1=>fun m s a=>if (ya l s a).2.2.2=0 then (if (ya l s a).1=0 then (nd0,m,0) else yQ (zR l D) l m (yA l s a)) else (nd0,m,(ya l s a).2.2.2)
def Mt (m:Int):Prop:=0<=m/\m<=4611686018427387904
def Fn (t:Nd×Int×Int):Prop:=Mt t.2.1/\yw t.1
theorem ZH:yw nd0:=by unfold nd0;rw[yw];exact ⟨⟨by simp,by simp,by simp,by simp⟩,trivial⟩
theorem zc1 {F:Int->Nat->Nd×Int×Int} (hF:∀ m i,Mt m->Fn (F m i)):∀ c i m acc,Mt m->Xh acc->Mt (z6 F c i m acc).2.1/\Xh (z6 F c i m acc).1/\(z6 F c i m acc).1.length<=acc.length+c:=by
 intro c
 induction c with
 |zero=>intro i m acc hm ha;exact ⟨hm,ha,Nat.le_refl _⟩
 |succ c ih=>
  intro i m acc hm ha
  rw[z6]
  split
  ·obtain ⟨a1,a2,a3⟩:=ih (i+1) (F m i).2.1 (acc++[(F m i).1]) (hF m i hm).1 (goods_iff.2 fun x hx=>by
    rcases List.mem_append.1 hx with h|h
    ·exact goods_iff.1 ha x h
    ·rw[List.mem_singleton.1 h];exact (hF m i hm).2)
   exact ⟨a1,a2,by simp at a3;omega⟩
  ·exact ⟨(hF m i hm).1,trivial,by simp⟩
theorem zfy {t:List Nd×Int×Int} {f:List Nd->Nd} (hm:Mt t.2.1) (hf:yw (f t.1)):Fn (wL t f):=by
 refine ⟨hm,?_⟩
 unfold wL
 dsimp only
 split
 ·exact hf
 ·exact ZH
theorem zau (l:List (List Int)) (s a n:Int):(zu (cutB l s a n)).length%8=0:=by rw[yT];omega
theorem gH (e c:Int) (b:List Int):(trimB e c b).length<=b.length+1:=by
 unfold trimB
 split
 ·rw[zqS,zqN];simp;omega
 ·rw[zqN];omega
theorem WE (e c:Int) (b:List Int) (hb:∀ x∈b,zF x):∀ x∈trimB e c b,zF x:=by
 unfold trimB
 intro x hx
 split at hx
 ·rename_i h1
  rcases List.mem_append.1 hx with h|h
  ·exact hb x (List.mem_of_mem_take h)
  ·rw[List.mem_singleton.1 h]
   have hc:(c%8).toNat=0∨(c%8).toNat=1∨(c%8).toNat=2∨(c%8).toNat=3∨(c%8).toNat=4∨(c%8).toNat=5∨(c%8).toNat=6∨(c%8).toNat=7:=by omega
   unfold zF
   rcases hc with h|h|h|h|h|h|h|h<;>rw[h]<;>simp only[Nat.reducePow,Int.reducePow,Int.pow_zero,Int.pow_succ,Int.reduceMul]<;>omega
 ·exact hb x (List.mem_of_mem_take hx)
theorem Jq {F:Int->Int->Int->Nd×Int×Int} (hF:∀ m s a,Mt m->Fn (F m s a)) (l:List (List Int)) {m:Int} (hm:Mt m) {o:Ob} (hd:o.data<=65535) (hq:o.ptrs<=65535):Fn (zV F l m o):=by
 obtain ⟨a1,a2,a3⟩:=zc1 (F:=fun m i=>F m o.seg (o.at_+o.data+i)) (fun m i h=>hF m _ _ h) o.ptrs.toNat 0 m [] hm trivial
 refine zfy a1 ?_
 rw[yw]
 have:=Zh l o.seg o.at_ o.data
 refine ⟨⟨?_,ww _,?_,fun _=>zau l _ _ _⟩,a2⟩
 ·rw[yT];omega
 ·simp at a3;omega
theorem zkn {F:Int->Int->Int->Nd×Int×Int} (hF:∀ m s a,Mt m->Fn (F m s a)) (l:List (List Int)) {m:Int} (hm:Mt m) {t:Ob×Int} (ht:t.2=0->ZP l t.1):Fn (yQ F l m t):=by
 unfold yQ
 by_cases h0:t.2=0
 ·rw[if_pos h0]
  obtain ⟨hat,hd,hq,he,hn,hc,hk,hw,hz⟩:=ht h0
  by_cases h8:t.1.cost>m
  ·rw[if_pos h8];exact ⟨hm,ZH⟩
  ·rw[if_neg h8]
   have hm':Mt (m-t.1.cost):=⟨by unfold Mt at hm;omega,by unfold Mt at hm;omega⟩
   by_cases h1:t.1.kind=1
   ·rw[if_pos h1];exact Jq hF l hm' hd.2 hq.2
   ·rw[if_neg h1]
    unfold xl
    by_cases h6:t.1.elem<6
    ·rw[if_pos h6]
     refine ⟨hm',?_⟩
     rw[yw]
     have:=Zh l t.1.seg t.1.at_ t.1.cost
     have:=gH t.1.elem t.1.n (zu (cutB l t.1.seg t.1.at_ t.1.cost))
     rw[yT] at this
     exact ⟨⟨by omega,WE _ _ _ (ww _),by simp,fun h=>absurd h (by decide)⟩,trivial⟩
    ·rw[if_neg h6]
     obtain ⟨a1,a2,a3⟩:=zc1 (F:=fun m i=>if t.1.elem=6 then F m t.1.seg (t.1.at_+i) else zV F l m (ye t.1 i)) (fun m i h=>by
      split
      ·exact hF m _ _ h
      ·exact Jq hF l h hd.2 hq.2) t.1.n.toNat 0 (m-t.1.cost) [] hm' trivial
     refine zfy a1 ?_
     rw[yw]
     exact ⟨⟨by simp,by simp,by simp at a3;omega,fun h=>absurd h (by decide)⟩,a2⟩
 ·rw[if_neg h0];exact ⟨hm,ZH⟩
theorem qS {l:List (List Int)} (hl:zN l) (hs:Sm l):∀ D m s a,Mt m->Fn (zR l D m s a):=by
 intro D
 induction D with
 |zero=>
  intro m s a hm
  unfold zR
  split
  ·split<;>exact ⟨hm,ZH⟩
  ·exact ⟨hm,ZH⟩
 |succ D ih=>
  intro m s a hm
  unfold zR
  split
  ·rename_i he
   split
   ·exact ⟨hm,ZH⟩
   ·rename_i h0
    exact zkn ih l hm fun h=>Xk hl hs h0 he h
  ·exact ⟨hm,ZH⟩
theorem Jf (acc:List Nd) (x:Nd):zr acc++[.agg [I x.kind,I x.elem,I x.n,.sl 1 (bs x.data),.sl 5 (zr x.kids)]]=zr (acc++[x]):=by
 rw[Jd]
 cases x;rfl
def RV (l:List (List Int)) (d w b:Int) (dep:Int) (F:Int->Int->Int->Nd×Int×Int):Prop:=∀ m s a,Mt m->ev 83 [.pv (.sl 1 (zL l)),.pv (.agg [I d,I w,I b]),.pv (.agg [I m]),.pv (I s),.pv (I a),.pv (I dep)] []=ok (.tup (Yh (F m s a)))
theorem ZX {F:Int->Nat->Nd×Int×Int} {c i:Nat} {m:Int} {acc:List Nd} (h:(F m i).2.2≠0):z6 F (c+1) i m acc=([],(F m i).2.1,(F m i).2.2):=by rw[z6,if_neg h]
theorem ZY {F:Int->Nat->Nd×Int×Int} {c i:Nat} {m:Int} {acc:List Nd} (h:(F m i).2.2=0):z6 F (c+1) i m acc=z6 F c (i+1) (F m i).2.1 (acc++[(F m i).1]):=by rw[z6,if_pos h]
theorem gQ {t:Nd×Int×Int} {f:List Nd->Nd} (h:t.2.2≠0):wL ([],t.2.1,t.2.2) f=(nd0,t.2.1,t.2.2):=by
 unfold wL
 rw[if_neg h]
theorem zoq {l:List (List Int)} {d w b dep:Int} {F:Int->Int->Int->Nd×Int×Int} (hF:RV l d w b (dep+1) F) (hO:∀ m s a,Mt m->Fn (F m s a)) (hdep:0<=dep/\dep<=1099511627776) {m0 k sg at_ dt q e n cst:Int} (hat:0<=at_/\at_<=1125899906842624) (hdt:0<=dt/\dt<=65535) (hq:0<=q/\q<=65535) (data:List Int):∀ (c i:Nat) (m:Int) (acc:List Nd),i+c=q.toNat->acc.length=i->Mt m->
  Kc (zL l) dep i d w b m0 k sg at_ dt q e n cst 0 0 0 [] [] 0 1 0 0 (.sl 1 (bs data)) (zr acc) (I m)=ok (.tup (Yh (wL (z6 (fun m i=>F m sg (at_+dt+i)) c i m acc) fun ks=>.mk 1 0 0 data ks))):=by
 intro c
 induction c with
 |zero=>
  intro i m acc hi ha hm
  rw[zbc,decide_eq_false (by omega)]
  rfl
 |succ c ih=>
  intro i m acc hi ha hm
  rw[zbc,decide_eq_true (by omega),zc (x:=at_+dt),zc (x:=at_+dt+i),zc (x:=dep+1),hF m sg (at_+dt+i) hm]
  dsimp only[Yh,zj,zh,zK,zqQ,zqP,zqR,zA,Zd,yh,zb,vj,xu]
  by_cases h0:(F m sg (at_+dt+i)).2.2=0
  ·rw[ZY (F:=fun m (i:Nat)=>F m sg (at_+dt+i)) (by exact h0),h0,show ((0:Int) != 0)=false from rfl]
   dsimp only[zl]
   rw[yq (by simp;omega) (by simp;omega),Jf,zc (x:=(i:Int)+1)]
   exact ih (i+1) _ _ (by omega) (by simp;omega) (hO m sg _ hm).1
  ·rw[ZX (F:=fun m (i:Nat)=>F m sg (at_+dt+i)) (by exact h0),gQ h0,show ((F m sg (at_+dt+i)).2.2 != 0)=true from by simpa using h0]
   rfl
theorem jG {l:List (List Int)} (hl:zN l) (hs:Sm l) {d w b dep:Int} {F:Int->Int->Int->Nd×Int×Int} (hF:RV l d w b (dep+1) F) (hO:∀ m s a,Mt m->Fn (F m s a)) (hdep:0<=dep/\dep<=1099511627776) {o:Ob} (hat:0<=o.at_/\o.at_<=1125899906842624) (hdt:0<=o.data/\o.data<=65535) (hq:0<=o.ptrs/\o.ptrs<=65535) {m:Int} (hm:Mt m):ev 139 [.pv (.sl 1 (zL l)),.pv (.agg [I d,I w,I b]),.pv (.agg [I m]),.pv (.agg o.c),.pv (I dep)] []=ok (.tup (Yh (zV F l m o))):=by
 have hcl:=Zh l o.seg o.at_ o.data
 rw[Ob.c,zjq,jE hl hs _ _ _ (by omega)]
 dsimp only[zh,zK,zqQ,zqP,zqR]
 rw[Y7 _ (Xc hl _ _ _) (by omega)]
 dsimp only[zh,xu,zj,zb]
 exact zoq hF hO hdep hat hdt hq (zu (cutB l o.seg o.at_ o.data)) o.ptrs.toNat 0 m [] (by omega) rfl hm
theorem zoL {l:List (List Int)} (hl:zN l) (hs:Sm l) {d w b dep:Int} {F:Int->Int->Int->Nd×Int×Int} (hF:RV l d w b (dep+1) F) (hO:∀ m s a,Mt m->Fn (F m s a)) (hdep:0<=dep/\dep<=1099511627776) {m0:Int} {o:Ob} (hat:0<=o.at_/\o.at_<=1099511627776) (hdt:0<=o.data/\o.data<=65535) (hq:0<=o.ptrs/\o.ptrs<=65535) (hn:0<=o.n/\o.n<=536870911):∀ (c i:Nat) (m:Int) (acc:List Nd),i+c=o.n.toNat->acc.length=i->Mt m->
  Vh (zL l) dep i d w b m0 0 0 0 [] [] 0 2 (I o.elem) (I o.n) [] (zr acc) (I o.kind) (I o.seg) (I o.at_) (I o.data) (I o.ptrs) (I o.elem) (I o.n) (I o.cost) (I m)=ok (.tup (Yh (wL (z6 (fun m i=>if o.elem=6 then F m o.seg (o.at_+i) else zV F l m (ye o i)) c i m acc) fun ks=>.mk 2 o.elem o.n [] ks))):=by
 intro c
 induction c with
 |zero=>
  intro i m acc hi ha hm
  rw[zbd]
  dsimp only[zA,zj,zqR,yh,zb]
  rw[decide_eq_false (by omega)]
  rfl
 |succ c ih=>
  intro i m acc hi ha hm
  rw[zbd]
  dsimp only[zA,zj,zqR,yh,zb]
  rw[dT ((i:Int)<o.n)]
  dsimp only[zb]
  by_cases h6:o.elem=6
  ·rw[beq_iff_eq.2 h6]
   dsimp only[zb]
   rw[zc (x:=o.at_+i),zc (x:=dep+1),hF m o.seg (o.at_+i) hm]
   dsimp only[Yh,zh,zK,zqQ,zqP,zqR,zA,Zd,yh,zj,zb,vj,xu]
   have hE:(fun m (i:Nat)=>if o.elem=6 then F m o.seg (o.at_+i) else zV F l m (ye o i))=fun m (i:Nat)=>F m o.seg (o.at_+i):=by funext m i;rw[if_pos h6]
   rw[hE] at ih ⊢
   by_cases h0:(F m o.seg (o.at_+i)).2.2=0
   ·rw[ZY (F:=fun m (i:Nat)=>F m o.seg (o.at_+i)) (by exact h0),h0,show ((0:Int) != 0)=false from rfl]
    dsimp only[zl]
    rw[yq (by simp;omega) (by simp;omega),Jf,zc (x:=(i:Int)+1)]
    exact ih (i+1) _ _ (by omega) (by simp;omega) (hO m o.seg _ hm).1
   ·rw[ZX (F:=fun m (i:Nat)=>F m o.seg (o.at_+i)) (by exact h0),gQ h0,show ((F m o.seg (o.at_+i)).2.2 != 0)=true from by simpa using h0]
    rfl
  ·rw[beq_eq_false_iff_ne.2 h6]
   dsimp only[zl]
   have hmul:0<=(i:Int)*(o.data+o.ptrs)/\(i:Int)*(o.data+o.ptrs)<=536870911*131070:=Xv (by omega) (by omega)
   have hel:=J5 o i (by omega) (by omega) (by omega)
   rw[Ob.c] at hel
   rw[hel]
   dsimp only[zv,zP,zqR]
   rw[jG hl hs hF hO hdep (o:=ye o i) ⟨by dsimp only[ye];omega,by dsimp only[ye];omega⟩ hdt hq hm]
   dsimp only[Yh,zh,zK,zqQ,zqP,zqR,zA,Zd,yh,zj,zb,vj,xu]
   have hE:(fun m (i:Nat)=>if o.elem=6 then F m o.seg (o.at_+i) else zV F l m (ye o i))=fun m (i:Nat)=>zV F l m (ye o i):=by funext m i;rw[if_neg h6]
   rw[hE] at ih ⊢
   have hk:=Jq hO l hm (o:=ye o i) hdt.2 hq.2
   by_cases h0:(zV F l m (ye o i)).2.2=0
   ·rw[ZY (F:=fun m (i:Nat)=>zV F l m (ye o i)) (by exact h0),h0,show ((0:Int) != 0)=false from rfl]
    dsimp only[zl]
    rw[yq (by simp;omega) (by simp;omega),Jf,zc (x:=(i:Int)+1)]
    exact ih (i+1) _ _ (by omega) (by simp;omega) hk.1
   ·rw[ZX (F:=fun m (i:Nat)=>zV F l m (ye o i)) (by exact h0),gQ h0,show ((zV F l m (ye o i)).2.2 != 0)=true from by simpa using h0]
    rfl
theorem YJ {l:List (List Int)} {D:Nat} {m s a:Int} (h:(ya l s a).2.2.2≠0):zR l D m s a=(nd0,m,(ya l s a).2.2.2):=by
 cases D<;>(rw[zR];dsimp only;rw[if_neg h])
theorem Xe {l:List (List Int)} {D:Nat} {m s a:Int} (h:(ya l s a).2.2.2=0) (h0:(ya l s a).1=0):zR l D m s a=(nd0,m,0):=by
 cases D<;>(rw[zR];dsimp only;rw[if_pos h,if_pos h0])
theorem Kr {l:List (List Int)} {m s a:Int} (h:(ya l s a).2.2.2=0) (h0:(ya l s a).1≠0):zR l 0 m s a=(nd0,m,7):=by
 rw[zR];dsimp only;rw[if_pos h,if_neg h0]
theorem Kt {l:List (List Int)} {D:Nat} {m s a:Int} (h:(ya l s a).2.2.2=0) (h0:(ya l s a).1≠0):zR l (D+1) m s a=yQ (zR l D) l m (yA l s a):=by
 rw[zR];dsimp only;rw[if_pos h,if_neg h0]
theorem yP {a:Int} (h:a≠0):(a != 0)=true:=by simpa using h
theorem W5 {l:List (List Int)} {o:Ob} (hn:0<=o.n/\o.n<=536870911) (hb:inB l o.seg o.at_ o.cost/\o.cost=zn o.elem o.n) (h6:o.elem<6):z5 o.elem o.n<=((zu (cutB l o.seg o.at_ o.cost)).length:Int):=by
 rw[yT]
 unfold cutB
 rw[if_pos hb.1,qR hb.1]
 have hw:=Zy (e:=o.elem) hn
 have h2:=hb.2
 unfold zn at h2
 rw[if_neg (by omega)] at h2
 unfold z5
 have:=YG (e:=o.elem) hn
 omega
theorem zgN {l:List (List Int)} (hl:zN l) (hs:Sm l) {d w b:Int} (hd:d<=1099511627775):∀ (D:Nat) (dep:Int),0<=dep->dep<=1099511627776->(d+1-dep).toNat=D->RV l d w b dep (zR l D):=by
 intro D
 induction D with
 |zero=>
  intro dep h0 h1 hD m s a hm
  rw[zbe,J7 hl]
  dsimp only[ZW,zh,zK,zqQ,zqP,zqR,zA,xc]
  by_cases he:(ya l s a).2.2.2=0
  ·rw[he,show ((0:Int) != 0)=false from rfl]
   dsimp only[zl]
   by_cases hz:(ya l s a).1=0
   ·rw[beq_iff_eq.2 hz]
    dsimp only[zb]
    rw[Xe he hz]
    rfl
   ·rw[beq_eq_false_iff_ne.2 hz,dT (dep>d)]
    dsimp only[zb,zl]
    rw[Kr he hz]
    rfl
  ·rw[yP he]
   dsimp only[zb]
   rw[YJ he]
   rfl
 |succ D ih=>
  intro dep h0 h1 hD m s a hm
  have hF:=ih (dep+1) (by omega) (by omega) (by omega)
  have hO:=qS hl hs D
  rw[zbe,J7 hl]
  dsimp only[ZW,zh,zK,zqQ,zqP,zqR,zA,xc]
  by_cases he:(ya l s a).2.2.2=0
  ·rw[he,show ((0:Int) != 0)=false from rfl]
   dsimp only[zl]
   by_cases hz:(ya l s a).1=0
   ·rw[beq_iff_eq.2 hz]
    dsimp only[zb]
    rw[Xe he hz]
    rfl
   ·have hok:=Xk hl hs hz he
    rw[beq_eq_false_iff_ne.2 hz,dF (dep>d)]
    dsimp only[zl]
    rw[jD hl hs,Kt he hz]
    generalize yA l s a=t at hok ⊢
    dsimp only[xS,Ob.c,zh,zK,zqQ,zqP,zqR,zA,WW,yh,zj,zb]
    unfold yQ
    by_cases hf:t.2=0
    ·obtain ⟨hat,hdt,hq,hel,hn,hc,hk,hw,hz'⟩:=hok hf
     obtain ⟨o,f⟩:=t
     dsimp only at hf hat hdt hq hel hn hc hk hw hz' ⊢
     subst hf
     rw[if_pos rfl,show ((0:Int) != 0)=false from rfl]
     dsimp only[zl]
     rw[zgB m o.cost (by unfold Mt at hm;omega)]
     dsimp only[zh,zK,zqQ,zqP,zqR,zA,Zd,yh,zj,zb]
     by_cases h8:o.cost>m
     ·rw[if_pos h8,if_pos h8,if_pos h8,show ((8:Int) != 0)=true from rfl]
      rfl
     ·have hm':Mt (m-o.cost):=⟨by unfold Mt at hm;omega,by unfold Mt at hm;omega⟩
      rw[if_neg h8,if_neg h8,if_neg h8,show ((0:Int) != 0)=false from rfl]
      dsimp only[zl]
      by_cases hk1:o.kind=1
      ·rw[beq_iff_eq.2 hk1,if_pos hk1]
       dsimp only[zb]
       have:=jG hl hs hF hO ⟨h0,by omega⟩ (o:=o) ⟨hat.1,by omega⟩ hdt hq hm'
       rw[Ob.c] at this
       rw[this]
       rfl
      ·have hk2:o.kind=2:=by omega
       rw[beq_eq_false_iff_ne.2 hk1,if_neg hk1]
       dsimp only[zl]
       unfold xl
       by_cases h6:o.elem<6
       ·have hcl:=Zh l o.seg o.at_ o.cost
        rw[decide_eq_true h6,if_pos h6]
        dsimp only[zb]
        rw[jE hl hs _ _ _ (by omega)]
        dsimp only[zh,zK,zqQ,zqP,zqR]
        rw[Y7 _ (Xc hl _ _ _) (by omega)]
        dsimp only[zh]
        rw[jH hn (ww _) (W5 hn (hw hk2 h6) h6)]
        rfl
       ·rw[decide_eq_false h6,if_neg h6]
        dsimp only[zl]
        exact zoL hl hs hF hO ⟨h0,by omega⟩ hat hdt hq hn o.n.toNat 0 _ [] (by omega) rfl hm'
    ·rw[if_neg hf,yP hf]
     rfl
  ·rw[yP he]
   dsimp only[zb]
   rw[YJ he]
   rfl
abbrev hp (l:List (List Int)) (d w b m:Int):ze:=[[.pv (.sl 1 (zL l)),.pv (I d),.pv (I w),.pv (I b),.pv (I m)]]
def Z2 (l:List (List Int)) (d w b:Int) (e m:Int) (p:PV):Option (Out×ze):=if e=0 then some (.ret (.pv p),hp l d w b m) else some (.pan (.ifc 279 (.agg [I e])),hp l d w b m)
theorem Zs {l:List (List Int)} {d w b e m:Int} {p:PV} (h:e=0):Z2 l d w b e m p=some (.ret (.pv p),[[.pv (.sl 1 (zL l)),.pv (I d),.pv (I w),.pv (I b),.pv (I m)]]):=by rw[Z2,if_pos h]
theorem wW {l:List (List Int)} {d w b e m:Int} {p:PV} (h:e≠0):Z2 l d w b e m p=some (.pan (.ifc 279 (.agg [I e])),[[.pv (.sl 1 (zL l)),.pv (I d),.pv (I w),.pv (I b),.pv (I m)]]):=by rw[Z2,if_neg h]
def Nd.x (x:Nd):PV:=.agg [I x.kind,I x.elem,I x.n,.sl 1 (bs x.data),.sl 5 (zr x.kids)]
def CV (l:List (List Int)) (d w b:Int) (dep:Int) (F:Int->Int->Int->Nd×Int×Int):Prop:=∀ m s a,Mt m->ev 234 [.ptr 0 0,.pv (I s),.pv (I a),.pv (I dep)] [[.pv (.sl 1 (zL l)),.pv (I d),.pv (I w),.pv (I b),.pv (I m)]]=Z2 l d w b (F m s a).2.2 (F m s a).2.1 (F m s a).1.x
theorem WP {e:Int} (h:e=0):ev 271 [.pv (I e)] []=ok (.tup []):=by rw[zbL,h];rfl
theorem WQ {e:Int} (h:e≠0):ev 271 [.pv (I e)] []=some (.pan (.ifc 279 (.agg [I e])),[]):=by rw[zbL,yP h];rfl
theorem zdm (x:Nd):((decide (x.x.cells.length=5)&&x.x.cells.all PV.isCell)&&true)=true:=rfl
theorem zd5 (acc:List Nd) (x:Nd):zr acc++[x.x]=zr (acc++[x]):=Jf acc x
theorem jm {l:List (List Int)} (hl:zN l) (d w b m:Int) (o:Ob) (a n:Int) (hn:n<=8796093022208):ev 295 [.ptr 0 0,.pv (.agg o.c),.pv (I a),.pv (I n)] [[.pv (.sl 1 (zL l)),.pv (I d),.pv (I w),.pv (I b),.pv (I m)]]=some (.ret (.pv (.sl 1 (bs (zu (cutB l o.seg a n))))),[[.pv (.sl 1 (zL l)),.pv (I d),.pv (I w),.pv (I b),.pv (I m)]]):=by
 have hcl:=Zh l o.seg a n
 rw[Ob.c,zku,jg hl _ _ _ (by omega)]
 dsimp only[zv,zP,zqR,zK,zqQ,zqP]
 rw[YB _ (by omega)]
 rfl
theorem zke {l:List (List Int)} {d w b dep:Int} {F:Int->Int->Int->Nd×Int×Int} (hF:CV l d w b (dep+1) F) (hO:∀ m s a,Mt m->Fn (F m s a)) (hdep:0<=dep/\dep<=1099511627776) {k sg at_ dt q e n cst A Q:Int} (hA:0<=A/\A<=2251799813685248) (hQ:0<=Q/\Q<=536870911):∀ (c i:Nat) (m:Int) (acc:List Nd),i+c=Q.toNat->acc.length=i->Mt m->
  Kv dep (zr acc) (I A) (I Q) i (.sl 1 (zL l)) (I d) (I w) (I b) (I m) k sg at_ dt q e n cst=Z2 l d w b (z6 (fun m i=>F m sg (A+i)) c i m acc).2.2 (z6 (fun m i=>F m sg (A+i)) c i m acc).2.1 (.sl 5 (zr (z6 (fun m i=>F m sg (A+i)) c i m acc).1)):=by
 intro c
 induction c with
 |zero=>
  intro i m acc hi ha hm
  rw[zbN]
  dsimp only[zA,zqR]
  rw[decide_eq_false (by omega)]
  rfl
 |succ c ih=>
  intro i m acc hi ha hm
  rw[zbN]
  dsimp only[zA,zqR]
  rw[dT ((i:Int)<Q),zc (x:=A+i),zc (x:=dep+1)]
  dsimp only[zb]
  rw[hF m sg (A+i) hm]
  by_cases h0:(F m sg (A+i)).2.2=0
  ·rw[ZY (F:=fun m (i:Nat)=>F m sg (A+i)) (by exact h0),Zs h0]
   dsimp only[xZ]
   rw[zdm]
   dsimp only[zb]
   rw[yq (by simp;omega) (by simp;omega),zd5,zc (x:=(i:Int)+1)]
   exact ih (i+1) _ _ (by omega) (by simp;omega) (hO m sg _ hm).1
  ·rw[ZX (F:=fun m (i:Nat)=>F m sg (A+i)) (by exact h0),wW h0,wW h0]
   rfl
theorem jo {l:List (List Int)} {d w b dep:Int} {F:Int->Int->Int->Nd×Int×Int} (hF:CV l d w b (dep+1) F) (hO:∀ m s a,Mt m->Fn (F m s a)) (hdep:0<=dep/\dep<=1099511627776) {o:Ob} (hat:0<=o.at_/\o.at_<=1125899906842624) (hdt:0<=o.data/\o.data<=65535) {A Q:Int} (hA:xm o=A) (hQ:vu o=Q) (hA':0<=A/\A<=2251799813685248) (hQ':0<=Q/\Q<=536870911) {m:Int} (hm:Mt m):ev 296 [.ptr 0 0,.pv (.agg o.c),.pv (I dep)] [[.pv (.sl 1 (zL l)),.pv (I d),.pv (I w),.pv (I b),.pv (I m)]]=Z2 l d w b (z6 (fun m i=>F m o.seg (A+i)) Q.toNat 0 m []).2.2 (z6 (fun m i=>F m o.seg (A+i)) Q.toNat 0 m []).2.1 (.sl 5 (zr (z6 (fun m i=>F m o.seg (A+i)) Q.toNat 0 m []).1)):=by
 have hp:=je o (by omega)
 rw[hA,hQ] at hp
 rw[Ob.c] at hp ⊢
 rw[zkv,hp]
 dsimp only[zv,zP,zqR,zK,zqQ,zqP]
 exact zke hF hO hdep hA' hQ' Q.toNat 0 m [] (by omega) rfl hm
theorem zc0 {F:Int->Int->Int->Nd×Int×Int} (sg:Int) {A A' Q:Int} {m:Int} (h:0<Q->A' = A):z6 (fun m (i:Nat)=>F m sg (A'+i)) (if 0<Q then Q else 0).toNat 0 m []=z6 (fun m (i:Nat)=>F m sg (A+i)) Q.toNat 0 m []:=by
 by_cases hQ:0<Q
 ·rw[if_pos hQ,h hQ]
 ·rw[if_neg hQ,show Q.toNat=0 by omega];rfl
theorem ZO {t:List Nd×Int×Int} {f:List Nd->Nd} (h:t.2.2=0):wL t f=(f t.1,t.2.1,t.2.2):=by
 unfold wL
 rw[if_pos h]
theorem gR {t:List Nd×Int×Int} {f:List Nd->Nd} (h:t.2.2≠0):wL t f=(nd0,t.2.1,t.2.2):=by
 unfold wL
 rw[if_neg h]
theorem jp {l:List (List Int)} (hl:zN l) {d w b dep:Int} {F:Int->Int->Int->Nd×Int×Int} (hF:CV l d w b (dep+1) F) (hO:∀ m s a,Mt m->Fn (F m s a)) (hdep:0<=dep/\dep<=1099511627776) {o:Ob} (hat:0<=o.at_/\o.at_<=1125899906842624) (hdt:0<=o.data/\o.data<=65535) (hq:0<=o.ptrs/\o.ptrs<=65535) (hk:o.kind=1) {m:Int} (hm:Mt m):ev 273 [.ptr 0 0,.pv (.agg o.c),.pv (I dep)] [[.pv (.sl 1 (zL l)),.pv (I d),.pv (I w),.pv (I b),.pv (I m)]]=Z2 l d w b (zV F l m o).2.2 (zV F l m o).2.1 (zV F l m o).1.x:=by
 have e1:=jm hl d w b m o o.at_ o.data (by omega)
 have hA:xm o=if 0<o.ptrs then o.at_+o.data else 0:=by
  unfold xm
  by_cases h:0<o.ptrs
  ·rw[if_pos ⟨hk,h⟩,if_pos h]
  ·rw[if_neg (fun x=>h x.2),if_neg (fun x=>absurd x.1 (by omega)),if_neg h]
 have hQ:vu o=if 0<o.ptrs then o.ptrs else 0:=by
  unfold vu
  by_cases h:0<o.ptrs
  ·rw[if_pos ⟨hk,h⟩,if_pos h]
  ·rw[if_neg (fun x=>h x.2),if_neg (fun x=>absurd x.1 (by omega)),if_neg h]
 have e2:=jo hF hO hdep hat hdt hA hQ (by split<;>omega) (by split<;>omega) hm
 rw[zc0 (F:=F) o.seg (A:=o.at_+o.data) (fun h=>if_pos h)] at e2
 rw[Ob.c] at e1 e2 ⊢
 rw[zkw,e1]
 dsimp only[zv,zqP,Zj,zP,zqR,xu,zj,zb,zqQ,zj0]
 rw[e2]
 unfold zV
 generalize hK:z6 (fun m (i:Nat)=>F m o.seg (o.at_+o.data+i)) o.ptrs.toNat 0 m []=K
 by_cases h0:K.2.2=0
 ·rw[Zs h0,ZO h0]
  dsimp only[xZ,xu,zj,zb]
  rw[Zs h0]
  rfl
 ·rw[wW h0,gR h0]
  dsimp only[zbz]
  rw[wW h0]
theorem zj1 {l:List (List Int)} (hl:zN l) {d w b dep:Int} {F:Int->Int->Int->Nd×Int×Int} (hF:CV l d w b (dep+1) F) (hO:∀ m s a,Mt m->Fn (F m s a)) (hdep:0<=dep/\dep<=1099511627776) {o:Ob} (hat:0<=o.at_/\o.at_<=1099511627776) (hdt:0<=o.data/\o.data<=65535) (hq:0<=o.ptrs/\o.ptrs<=65535) (hn:0<=o.n/\o.n<=536870911):∀ (c i:Nat) (m:Int) (acc:List Nd),i+c=o.n.toNat->acc.length=i->Mt m->
  Ku dep o.n i (.sl 1 (zL l)) (I d) (I w) (I b) (I m) o.kind o.seg o.at_ o.data o.ptrs o.elem o.n o.cost 0 0 0 [] [] 2 o.elem o.n [] (zr acc)=Z2 l d w b (z6 (fun m (i:Nat)=>zV F l m (ye o i)) c i m acc).2.2 (z6 (fun m (i:Nat)=>zV F l m (ye o i)) c i m acc).2.1 (.agg [I 2,I o.elem,I o.n,.sl 1 [],.sl 5 (zr (z6 (fun m (i:Nat)=>zV F l m (ye o i)) c i m acc).1)]):=by
 intro c
 induction c with
 |zero=>
  intro i m acc hi ha hm
  rw[zbM,decide_eq_false (by omega)]
  rfl
 |succ c ih=>
  intro i m acc hi ha hm
  have hmul:0<=(i:Int)*(o.data+o.ptrs)/\(i:Int)*(o.data+o.ptrs)<=536870911*131070:=Xv (by omega) (by omega)
  have hel:=JQ o i (by omega) (by omega) (by omega)
  rw[Ob.c] at hel
  rw[zbM,decide_eq_true (by omega),hel]
  dsimp only[zv,zP,zqR,zb]
  rw[jp hl hF hO hdep (o:=ye o i) ⟨by dsimp only[ye];omega,by dsimp only[ye];omega⟩ hdt hq rfl hm]
  have hk:=Jq hO l hm (o:=ye o i) hdt.2 hq.2
  by_cases h0:(zV F l m (ye o i)).2.2=0
  ·rw[ZY (F:=fun m (i:Nat)=>zV F l m (ye o i)) (by exact h0),Zs h0]
   dsimp only[xZ]
   rw[zdm]
   dsimp only[zb]
   rw[yq (by simp;omega) (by simp;omega),zd5,zc (x:=(i:Int)+1)]
   exact ih (i+1) _ _ (by omega) (by simp;omega) hk.1
  ·rw[ZX (F:=fun m (i:Nat)=>zV F l m (ye o i)) (by exact h0),wW h0,wW h0]
   rfl
theorem zge {l:List (List Int)} (hl:zN l) {d w b dep:Int} {F:Int->Int->Int->Nd×Int×Int} (hF:CV l d w b (dep+1) F) (hO:∀ m s a,Mt m->Fn (F m s a)) (hdep:0<=dep/\dep<=1099511627776) {o:Ob} (hok:ZP l o) (hk:o.kind=2) {m:Int} (hm:Mt m):ev 274 [.ptr 0 0,.pv (.agg o.c),.pv (I dep)] [[.pv (.sl 1 (zL l)),.pv (I d),.pv (I w),.pv (I b),.pv (I m)]]=Z2 l d w b (xl F l m o).2.2 (xl F l m o).2.1 (xl F l m o).1.x:=by
 obtain ⟨hat,hdt,hq,hel,hn,hc,hk',hw,hz⟩:=hok
 unfold xl
 by_cases h6:o.elem<6
 ·have e1:=jm hl d w b m o o.at_ o.cost (by omega)
  rw[Ob.c] at e1 ⊢
  rw[qT,beq_eq_false_iff_ne.2 (show o.elem≠6 by omega),beq_eq_false_iff_ne.2 (show o.elem≠7 by omega),e1,if_pos h6]
  dsimp only[xZ,zl]
  rw[Qx hel hn (ww _) (W5 hn (hw hk h6) h6)]
  rfl
 ·rw[if_neg h6]
  by_cases h7:o.elem=6
  ·have hE:(fun m (i:Nat)=>if o.elem=6 then F m o.seg (o.at_+i) else zV F l m (ye o i))=fun m (i:Nat)=>F m o.seg (o.at_+i):=by funext m i;rw[if_pos h7]
   rw[hE]
   have hA:xm o=if 0<o.n then o.at_ else 0:=by
    unfold xm
    rw[if_neg (fun x=>absurd x.1 (by omega))]
    by_cases h:0<o.n
    ·rw[if_pos ⟨hk,h7,h⟩,if_pos h]
    ·rw[if_neg (fun x=>h x.2.2),if_neg h]
   have hQ:vu o=if 0<o.n then o.n else 0:=by
    unfold vu
    rw[if_neg (fun x=>absurd x.1 (by omega))]
    by_cases h:0<o.n
    ·rw[if_pos ⟨hk,h7,h⟩,if_pos h]
    ·rw[if_neg (fun x=>h x.2.2),if_neg h]
   have e2:=jo hF hO hdep (o:=o) ⟨hat.1,by omega⟩ hdt hA hQ (by split<;>omega) (by split<;>omega) hm
   rw[zc0 (F:=F) o.seg (A:=o.at_) (fun h=>if_pos h)] at e2
   rw[Ob.c] at e2 ⊢
   rw[qT,beq_iff_eq.2 h7,e2]
   generalize hK:z6 (fun m (i:Nat)=>F m o.seg (o.at_+i)) o.n.toNat 0 m []=K
   by_cases h0:K.2.2=0
   ·rw[Zs h0,ZO h0]
    dsimp only[xZ,xu,zj,zb]
    rw[Zs h0]
    rfl
   ·rw[wW h0,gR h0]
    dsimp only[zbz,zb]
    rw[wW h0]
  ·have hE:(fun m (i:Nat)=>if o.elem=6 then F m o.seg (o.at_+i) else zV F l m (ye o i))=fun m (i:Nat)=>zV F l m (ye o i):=by funext m i;rw[if_neg h7]
   rw[hE,Ob.c,qT,beq_eq_false_iff_ne.2 h7,beq_iff_eq.2 (show o.elem=7 by omega)]
   dsimp only[zb,zl]
   refine (zj1 hl hF hO hdep hat hdt hq hn o.n.toNat 0 m [] (by omega) rfl hm).trans ?_
   generalize hK:z6 (fun m (i:Nat)=>zV F l m (ye o i)) o.n.toNat 0 m []=K
   by_cases h0:K.2.2=0
   ·rw[Zs h0,ZO h0]
    dsimp only
    rw[Zs h0]
    rfl
   ·rw[wW h0,gR h0]
    dsimp only
    rw[wW h0]
theorem zg2 {l:List (List Int)} (hl:zN l) (hs:Sm l) {d w b:Int} (hd:d<=1099511627775):∀ (D:Nat) (dep:Int),0<=dep->dep<=1099511627776->(d+1-dep).toNat=D->CV l d w b dep (zR l D):=by
 intro D
 induction D with
 |zero=>
  intro dep h0 h1 hD m s a hm
  rw[zbO,JS hl]
  dsimp only[ZW,zv,zP,zqR,zK,zqQ,zqP]
  by_cases he:(ya l s a).2.2.2=0
  ·rw[WP he]
   dsimp only[zv,zP,zqR]
   rw[Ws]
   dsimp only[zv,zP,zqR,yL]
   by_cases hz:(ya l s a).1=0
   ·rw[beq_iff_eq.2 hz,Xe he hz]
    rfl
   ·rw[beq_eq_false_iff_ne.2 hz,Qs,if_pos (show dep>d by omega),Kr he hz]
    dsimp only[zv,zP,zqR,zl]
    rw[WQ (by decide)]
    rfl
  ·rw[WQ he,YJ he,wW he]
   rfl
 |succ D ih=>
  intro dep h0 h1 hD m s a hm
  have hF:=ih (dep+1) (by omega) (by omega) (by omega)
  have hO:=qS hl hs D
  rw[zbO,JS hl]
  dsimp only[ZW,zv,zP,zqR,zK,zqQ,zqP]
  by_cases he:(ya l s a).2.2.2=0
  ·rw[WP he]
   dsimp only[zv,zP,zqR]
   rw[Ws]
   dsimp only[zv,zP,zqR,yL]
   by_cases hz:(ya l s a).1=0
   ·rw[beq_iff_eq.2 hz,Xe he hz]
    rfl
   ·have hok:=Xk hl hs hz he
    rw[beq_eq_false_iff_ne.2 hz,Qs,if_neg (show ¬dep>d by omega),Kt he hz]
    dsimp only[zv,zP,zqR,zl]
    rw[WP rfl,JV hl hs]
    generalize yA l s a=t at hok ⊢
    dsimp only[xS,Ob.c,zv,zP,zqR,zK,zqQ,zqP,WW,yh,zj,zA,zb]
    unfold yQ
    by_cases hf:t.2=0
    ·have hok:=hok hf
     obtain ⟨hat,hdt,hq,hel,hn,hc,hk,hw,hz'⟩:=id hok
     obtain ⟨o,f⟩:=t
     dsimp only at hf hok hat hdt hq hel hn hc hk hw hz' ⊢
     rw[WP hf,if_pos hf]
     dsimp only[zv,zP,zqR]
     rw[r8 m o.cost (by unfold Mt at hm;omega)]
     dsimp only[zv,zP,zqR,zK,zqQ,zqP,Zd,yh,zj,zb]
     by_cases h8:o.cost>m
     ·rw[if_pos h8,if_pos h8,if_pos h8,WQ (by decide)]
      rfl
     ·have hm':Mt (m-o.cost):=⟨by unfold Mt at hm;omega,by unfold Mt at hm;omega⟩
      rw[if_neg h8,if_neg h8,if_neg h8,WP rfl]
      dsimp only[zv,zP,zqR]
      by_cases hk1:o.kind=1
      ·rw[beq_iff_eq.2 hk1,if_pos hk1]
       dsimp only[zb]
       have:=jp hl hF hO ⟨h0,by omega⟩ (o:=o) ⟨hat.1,by omega⟩ hdt hq hk1 hm'
       rw[Ob.c] at this
       rw[this]
       generalize zV (zR l D) l (m-o.cost) o=K
       by_cases h9:K.2.2=0
       ·rw[Zs h9];rfl
       ·rw[wW h9];rfl
      ·have hk2:o.kind=2:=by omega
       rw[beq_eq_false_iff_ne.2 hk1,if_neg hk1]
       dsimp only[zl]
       have:=zge hl hF hO ⟨h0,by omega⟩ hok hk2 hm'
       rw[Ob.c] at this
       rw[this]
       generalize xl (zR l D) l (m-o.cost) o=K
       by_cases h9:K.2.2=0
       ·rw[Zs h9];rfl
       ·rw[wW h9];rfl
    ·rw[if_neg hf,WQ hf,wW hf]
     rfl
  ·rw[WQ he,YJ he,wW he]
   rfl
def XZ (l:List (List Int)):Prop:=0<l.length/\(yu l 0).length=0
instance (l:List (List Int)):Decidable (XZ l):=by unfold XZ;infer_instance
def runT (l:List (List Int)) (d w:Int):Nd×Int×Int:=if XZ l then (nd0,max w 0,0) else zR l d.toNat (max w 0) 0 0
def yR (l:List (List Int)) (d w:Int):Nd:=if (runT l d w).2.2=0 then zg (runT l d w).1 else nd0
def yI (l:List (List Int)) (d w:Int):Int:=(runT l d w).2.2
def ZI (l:List (List Int)) (d w:Int):Int:=if (runT l d w).2.2=0 then max w 0-(runT l d w).2.1 else 0
theorem zjW (a:PV):decide ((PV.agg [a]).cells.length=1)=true:=rfl
theorem YZ:zg nd0=nd0:=rfl
theorem Ww {l:List (List Int)} (hl:zN l) (hs:Sm l) {d w:Int} (hw:w<=4611686018427387904):Fn (runT l d w):=by
 have hm:Mt (max w 0):=⟨by omega,by omega⟩
 unfold runT
 split
 ·exact ⟨hm,ZH⟩
 ·exact qS hl hs _ _ _ _ hm
theorem gx {l:List (List Int)} (h:0<l.length):(zL l)[0]? = some (.sl 1 (ws (yu l 0))):=by
 have:=YV (l:=l) (i:=0) (by omega) (by omega)
 exact this
def Xr (t:Nd×Int×Int):PV:=.tup [if t.2.2=0 then t.1.x else nd0.x,.agg [if t.2.2=0 then I t.2.1 else I 0],I t.2.2]
theorem zdk:nd0.x=.agg [I 0,I 0,I 0,.sl 1 [],.sl 5 []]:=rfl
theorem jN {l:List (List Int)} (hl:zN l) (hs:Sm l) {d w b:Int} (hd:d<=1099511627775) (hw:w<=4611686018427387904):ev 178 [.pv (.sl 1 (zL l)),.pv (.agg [I d,I w,I b])] []=ok (Xr (runT l d w)):=by
 have hm:Mt (max w 0):=⟨by omega,by omega⟩
 have hv:=zg2 hl hs (d:=d) (w:=w) (b:=b) hd d.toNat 1 (by omega) (by omega) (by omega) (max w 0) 0 0 hm
 rw[zkx,Qw]
 dsimp only[zv,zP,zqR]
 rw[zjW]
 dsimp only[Kl,zqP,zqR,yh,zj,zb]
 by_cases h0:0<l.length
 ·rw[decide_eq_true (show ((zL l).length:Int)>0 by rw[Yp];omega),gx h0]
  dsimp only[zqR,w5,zqP,yt,zb]
  by_cases he:(yu l 0).length=0
  ·rw[zZ,he,show (((0:Nat):Int)==0)=true from rfl]
   dsimp only[zb]
   rw[runT,if_pos ⟨h0,he⟩]
   rfl
  ·rw[zZ,beq_eq_false_iff_ne.2 (show ((yu l 0).length:Int)≠0 by omega)]
   dsimp only[zl]
   rw[hv,runT,if_neg (fun h=>he h.2)]
   generalize zR l d.toNat (max w 0) 0 0=K
   by_cases h9:K.2.2=0
   ·rw[Zs h9,Xr,if_pos h9,if_pos h9,h9];rfl
   ·rw[wW h9,Xr,if_neg h9,if_neg h9];rfl
 ·rw[decide_eq_false (show ¬((zL l).length:Int)>0 by rw[Yp];omega)]
  dsimp only[zl]
  rw[hv,runT,if_neg (fun h=>h0 h.1)]
  generalize zR l d.toNat (max w 0) 0 0=K
  by_cases h9:K.2.2=0
  ·rw[Zs h9,Xr,if_pos h9,if_pos h9,h9];rfl
  ·rw[wW h9,Xr,if_neg h9,if_neg h9];rfl
theorem YQ (x:Nd):x.pv=x.x:=by cases x;rfl
theorem JU {l:List (List Int)} (hl:zN l) (hs:Sm l) {d w b:Int} (hd:d<=1099511627775) (hw:w<=4611686018427387904):ev 176 [.pv (.sl 1 (zL l)),.pv (.agg [I d,I w,I b])] []=ok (.tup [(yR l d w).x,I (yI l d w)]):=by
 have hr:=Ww hl hs (d:=d) hw
 rw[zkt,jN hl hs hd hw]
 unfold yR yI
 generalize runT l d w=K at hr
 unfold Xr
 by_cases h9:K.2.2=0
 ·rw[if_pos h9,if_pos h9,if_pos h9]
  have ht:=jP K.1 hr.2
  rw[YQ,YQ] at ht
  dsimp only[Nd.x,zh,zK,zqQ,zqP,zqR,Zd,yh,zj,zb,vj,xu] at ht ⊢
  rw[ht]
  rfl
 ·rw[if_neg h9,if_neg h9,if_neg h9]
  have ht:=jP nd0 ZH
  rw[YZ,YQ] at ht
  rw[zdk] at ht ⊢
  dsimp only[zh,zK,zqQ,zqP,zqR,Zd,yh,zj,zb,vj,xu]
  rw[ht]
  rfl
theorem WU {l:List (List Int)} (hl:zN l) (hs:Sm l) {d w b:Int} (hd:d<=1099511627775) (hw:w<=4611686018427387904):ev 81 [.pv (.sl 1 (zL l)),.pv (.agg [I d,I w,I b])] []=ok (.tup [(yR l d w).x,I (yI l d w)]):=by
 have hr:=Ww hl hs (d:=d) hw
 have hm:Mt (max w 0):=⟨by omega,by omega⟩
 have hv:=zgN hl hs (d:=d) (w:=w) (b:=b) hd d.toNat 1 (by omega) (by omega) (by omega) (max w 0) 0 0 hm
 have ht:∀ x:Nd,yw x->ev 135 [.pv (.agg [I x.kind,I x.elem,I x.n,.sl 1 (bs x.data),.sl 5 (zr x.kids)])] []=ok (.agg [I (zg x).kind,I (zg x).elem,I (zg x).n,.sl 1 (bs (zg x).data),.sl 5 (zr (zg x).kids)]):=fun x hx=>by
  have:=zgM x hx
  rw[YQ,YQ] at this
  exact this
 rw[zjp]
 by_cases h0:0<l.length
 ·rw[decide_eq_true (show ((zL l).length:Int)>0 by rw[Yp];omega),gx h0]
  dsimp only[zqR,w5,zqP,yt,zb]
  by_cases he:(yu l 0).length=0
  ·rw[zZ,he,show (((0:Nat):Int)==0)=true from rfl]
   dsimp only[zb]
   have hrun:runT l d w=(nd0,max w 0,0):=by rw[runT,if_pos ⟨h0,he⟩]
   rw[yR,yI,hrun]
   rfl
  ·rw[zZ,beq_eq_false_iff_ne.2 (show ((yu l 0).length:Int)≠0 by omega),jF]
   dsimp only[zv,zP,zqR,zl]
   rw[hv,yR,yI]
   have hrun:runT l d w=zR l d.toNat (max w 0) 0 0:=by rw[runT,if_neg (fun h=>he h.2)]
   rw[hrun] at hr ⊢
   generalize zR l d.toNat (max w 0) 0 0=K at hr ⊢
   dsimp only[Yh,zv,zP,zqR,zK,zqQ,zqP,zA,Zd,yh,zj,zb,vj,xu]
   by_cases h9:K.2.2=0
   ·rw[if_pos h9,h9,show ((0:Int) != 0)=false from rfl,ht K.1 hr.2];rfl
   ·rw[if_neg h9,yP h9];rfl
 ·rw[decide_eq_false (show ¬((zL l).length:Int)>0 by rw[Yp];omega),jF]
  dsimp only[zv,zP,zqR,zl]
  rw[hv,yR,yI]
  have hrun:runT l d w=zR l d.toNat (max w 0) 0 0:=by rw[runT,if_neg (fun h=>h0 h.1)]
  rw[hrun] at hr ⊢
  generalize zR l d.toNat (max w 0) 0 0=K at hr ⊢
  dsimp only[Yh,zv,zP,zqR,zK,zqQ,zqP,zA,Zd,yh,zj,zb,vj,xu]
  by_cases h9:K.2.2=0
  ·rw[if_pos h9,h9,show ((0:Int) != 0)=false from rfl,ht K.1 hr.2];rfl
  ·rw[if_neg h9,yP h9];rfl
theorem JT {l:List (List Int)} (hl:zN l) (hs:Sm l) {d w b:Int} (hd:d<=1099511627775) (hw:w<=4611686018427387904):ev 110 [.pv (.sl 1 (zL l)),.pv (.agg [I d,I w,I b])] []=ok (.tup [I (ZI l d w),I (yI l d w)]):=by
 have hr:=Ww hl hs (d:=d) hw
 rw[zks,jN hl hs hd hw]
 unfold ZI yI
 generalize runT l d w=K at hr
 have hm:=hr.1
 unfold Mt at hm
 unfold Xr
 by_cases h9:K.2.2=0
 ·rw[if_pos h9,if_pos h9,if_pos h9,h9]
  dsimp only[Nd.x,zh,zK,zqQ,zqP,zqR,zA,Zd,yh,zj,zb,vj,xu]
  rw[show ((0:Int) != 0)=false from rfl,zig,Qw]
  dsimp only[zv,zP,zqR,zmR,zqP,zA,zh,zl]
  rw[zc (by omega)]
 ·rw[if_neg h9,if_neg h9,if_neg h9,zdk]
  dsimp only[zh,zK,zqQ,zqP,zqR,zA,Zd,yh,zj,zb,vj,xu]
  rw[yP h9]
  rfl
theorem zey {d:List Int} (hd:d.length<=17592186044416):∀ (c i:Nat),i+c=d.length->XP (bs d) (bs d) i=ok (Bo true):=by
 intro c
 induction c with
 |zero=>intro i hi;rw[QY,decide_eq_false (by simp;omega)];rfl
 |succ c ih=>
  intro i hi
  rw[QY,decide_eq_true (show (i:Int)<((bs d).length:Int) by simp;omega),dT (0<=(i:Int))]
  dsimp only[zj,zb]
  rw[zqK,Ze (by omega)]
  dsimp only[zqR,z9,zqP,wV]
  rw[show (d[i] != d[i])=false from by simp,zc (x:=(i:Int)+1)]
  exact ih (i+1) (by omega)
theorem zkP {l:List Nd} (hl:l.length<=1073741824) (hv:∀ x∈l,ev 134 [.pv x.pv,.pv x.pv] []=ok (Bo true)) (a b c a' b' c':Int) (x y:List PV):∀ (c0 i:Nat),i+c0=l.length->Vc i a b c x (zr l) a' b' c' y (zr l)=ok (Bo true):=by
 intro c0
 induction c0 with
 |zero=>intro i hi;rw[Kb,decide_eq_false (by simp;omega)];rfl
 |succ c0 ih=>
  intro i hi
  have hil:i<l.length:=by omega
  rw[Kb,decide_eq_true (show (i:Int)<((zr l).length:Int) by simp;omega),dT (0<=(i:Int))]
  dsimp only[zj,zb]
  rw[zqK,wq hil]
  dsimp only[zqR]
  rw[vV,VO,hv _ (List.getElem_mem hil),zc (x:=(i:Int)+1)]
  exact ih (i+1) (by omega)
theorem zfU (x:Nd):yw x->ev 134 [.pv x.pv,.pv x.pv] []=ok (Bo true):=by
 induction x using Nd.ind with
 |h k e n d ks ih=>
  intro hg
  rw[yw,goods_iff] at hg
  obtain ⟨⟨hd,hb,hk,h8⟩,hks⟩:=hg
  rw[Nd.pv,za6,show (k != k)=false from by simp,show (e != e)=false from by simp,show (n != n)=false from by simp,qy,show (((bs d).length:Int) != ((bs d).length:Int))=false from by simp]
  dsimp only[zl]
  have hsm:XP (bs d) (bs d) 0=ok (Bo true):=zey hd d.length 0 (by omega)
  rw[hsm,show (((zr ks).length:Int) != ((zr ks).length:Int))=false from by simp]
  dsimp only[zl,zh,yL,zqR,vm]
  exact zkP hk (fun x hx=>ih x hx (hks x hx)) k e n k e n (bs d) (bs d) ks.length 0 (by omega)
theorem ja {x:Nd} (h:yw x):ev 134 [.pv x.x,.pv x.x] []=ok (Bo true):=by
 have:=zfU x h
 rwa [YQ] at this
theorem zcH (x:Nd):yw x->yw (zg x):=by
 induction x using Nd.ind with
 |h k e n d ks ih=>
  intro hg
  rw[yw,goods_iff] at hg
  obtain ⟨⟨hd,hb,hk,h8⟩,hks⟩:=hg
  rw[zg,yY]
  by_cases h1:k=1
  ·rw[if_pos h1,yw,goods_iff]
   have h88:=h8 h1
   refine ⟨⟨by rw[zqN];omega,fun b hx=>hb b (List.mem_of_mem_take hx),by rw[zqN,zqH];omega,fun _=>?_⟩,?_⟩
   ·rw[zqN]
    have:=vl (·==0) d
    unfold yo
    omega
   ·intro y hy
    obtain ⟨x,hx,rfl⟩:=List.mem_map.1 (List.mem_of_mem_take hy)
    exact ih x hx (hks x hx)
  ·rw[if_neg h1,yw,goods_iff]
   refine ⟨⟨hd,hb,by rw[zqH];omega,fun h=>absurd h h1⟩,?_⟩
   intro y hy
   obtain ⟨x,hx,rfl⟩:=List.mem_map.1 hy
   exact ih x hx (hks x hx)
theorem zdi {l:List (List Int)} (hl:zN l) (hs:Sm l) {d w:Int} (hw:w<=4611686018427387904):yw (yR l d w):=by
 unfold yR
 split
 ·exact zcH _ (Ww hl hs hw).2
 ·exact ZH
theorem zlc {l:List (List Int)} (hl:zN l):∀ (c i:Nat),i+c=l.length->(∀ j,j<i->(yu l j).length<=300)->∃ bl:Bool,W9 (zL l) i=ok (Bo bl)/\(bl=true->l.length<=20/\∀ j:Nat,j<l.length->(yu l j).length<=300):=by
 intro c
 induction c with
 |zero=>
  intro i hi hj
  refine ⟨decide (((zL l).length:Int)<=20),?_,?_⟩
  ·rw[qA,decide_eq_false (by simp;omega)];rfl
  ·intro h
   have:=of_decide_eq_true h
   simp at this
   exact ⟨by omega,fun j h=>hj j (by omega)⟩
 |succ c ih=>
  intro i hi hj
  have hil:i<l.length:=by omega
  have hb:=hl.1
  by_cases h3:(yu l (i:Int)).length<=300
  ·obtain ⟨bl,e,hbl⟩:=ih (i+1) (by omega) fun j hjj=>by
    rcases Nat.lt_or_ge j i with h|h
    ·exact hj j h
    ·rw[show j=i by omega];exact h3
   refine ⟨bl,?_,hbl⟩
   rw[qA,decide_eq_true (show (i:Int)<((zL l).length:Int) by simp;omega),dT (0<=(i:Int)),YV (by omega) (by omega)]
   dsimp only[zj,zqR,w5,zqP,yt,zb]
   rw[decide_eq_false (by simp;omega),zc (x:=(i:Int)+1)]
   exact e
  ·refine ⟨false,?_,fun h=>absurd h (by decide)⟩
   rw[qA,decide_eq_true (show (i:Int)<((zL l).length:Int) by simp;omega),dT (0<=(i:Int)),YV (by omega) (by omega)]
   dsimp only[zj,zqR,w5,zqP,yt,zb]
   rw[decide_eq_true (by simp;omega)]
   rfl
theorem zf5 {l:List (List Int)} (hl:zN l) (d w b:Int):∃ bl:Bool,ev 53 [.pv (.sl 1 (zL l)),.pv (.agg [I d,I w,I b])] []=ok (Bo bl)/\(bl=true->d<=40/\w<=2000/\l.length<=20/\∀ j:Nat,j<l.length->(yu l j).length<=300):=by
 obtain ⟨bl,e,hb⟩:=zlc hl l.length 0 (by omega) (fun j h=>absurd h (by omega))
 by_cases h1:d<=40
 ·by_cases h2:w<=2000
  ·refine ⟨bl,?_,fun h=>⟨h1,h2,hb h⟩⟩
   have e':W9 (zL l) 0=ok (Bo bl):=e
   rw[qD,decide_eq_true h1,decide_eq_true h2,zi1,e']
   rfl
  ·refine ⟨false,?_,fun h=>absurd h (by decide)⟩
   rw[qD,decide_eq_true h1,decide_eq_false h2]
   rfl
 ·refine ⟨false,?_,fun h=>absurd h (by decide)⟩
  rw[qD,decide_eq_false h1]
  rfl
theorem zeF {l:List (List Int)} (h:∀ j:Nat,j<l.length->(yu l j).length<=300):Sm l:=by
 intro s
 unfold yu
 rcases Nat.lt_or_ge s.toNat l.length with h1|h1
 ·have:=h s.toNat h1
  unfold yu at this
  rw[zqK] at this
  omega
 ·rw[List.getD_eq_getElem?_getD,List.getElem?_eq_none h1]
  simp
theorem zf1 {d:List Int} (hd:d.length<=17592186044416):ev 27 [.pv (.sl 1 (bs d)),.pv (.sl 1 (bs d))] []=ok (Bo true):=by
 rw[qy,show (((bs d).length:Int) != ((bs d).length:Int))=false from by simp]
 exact zey hd d.length 0 (by omega)
theorem Zn {s:List Int} (h:s.length<=300) (hw:∀ x∈s,zC x):zN [s]/\Sm [s]:=by
 refine ⟨⟨by simp,fun t ht=>?_⟩,zeF fun j hj=>?_⟩
 ·rw[List.mem_singleton.1 ht];exact ⟨by omega,hw⟩
 ·rw[show j=0 by simp at hj;omega];exact h
theorem sA:zN [[281483566645248,7,0,107374182401,255]]/\Sm [[281483566645248,7,0,107374182401,255]]:=Zn (by decide) (by intro x hx;simp at hx;unfold zC;omega)
theorem mA:ev 176 [.pv (.sl 1 [.sl 1 [U 281483566645248,U 7,U 0,U 107374182401,U 255]]),.pv (.agg [I 3,I 20,I 0])] []=ok (.tup [.agg [I 1,I 0,I 0,.sl 1 (bs [7,0,0,0,0,0,0,0]),.sl 5 [.agg [I 2,I 1,I 3,.sl 1 (bs [7]),.sl 5 []]]],I 0]):=by
 have h:=JU sA.1 sA.2 (d:=3) (w:=20) (b:=0) (by decide) (by decide)
 have e:ok (.tup [(yR [[281483566645248,7,0,107374182401,255]] 3 20).x,I (yI [[281483566645248,7,0,107374182401,255]] 3 20)])=ok (.tup [.agg [I 1,I 0,I 0,.sl 1 (bs [7,0,0,0,0,0,0,0]),.sl 5 [.agg [I 2,I 1,I 3,.sl 1 (bs [7]),.sl 5 []]]],I 0]):=by kernel_rfl
 exact h.trans e
theorem zp1 (x:Value):(decide ((PV.v x).cells.length=1)&&(PV.v x).cells.all PV.isCell)=true:=rfl
theorem q0:ev 134 [.pv (.agg [I 0,I 0,I 0,.sl 1 [],.sl 5 []]),.pv (.agg [I 0,I 0,I 0,.sl 1 [],.sl 5 []])] []=ok (Bo true):=ja ZH
theorem zlu:yw (.mk 2 1 3 [7] []):=by rw[yw];exact ⟨⟨by simp,by intro b hb;simp at hb;unfold zF;omega,by simp,fun h=>absurd h (by decide)⟩,trivial⟩
theorem q1:ev 134 [.pv (.agg [I 2,I 1,I 3,.sl 1 (bs [7]),.sl 5 []]),.pv (.agg [I 2,I 1,I 3,.sl 1 [U8 7],.sl 5 []])] []=ok (Bo true):=ja zlu
theorem q2:ev 27 [.pv (.sl 1 (bs [7,0,0,0,0,0,0,0])),.pv (.sl 1 [U8 7,U8 0,U8 0,U8 0,U8 0,U8 0,U8 0,U8 0])] []=ok (Bo true):=zf1 (by decide)
theorem zlT {α:Type} {p:α->Bool} {l:List α}:yW p (l.take (yW p l))=yW p l:=by
 induction hn:l.length generalizing l with
 |zero=>have:=List.length_eq_zero_iff.1 hn;subst this;rfl
 |succ n ih=>
  rcases List.eq_nil_or_concat l with rfl|⟨l',x,rfl⟩
  ·rfl
  ·rw[List.concat_eq_append] at hn ⊢
   have hl:l'.length=n:=by simpa using hn
   rw[wz]
   have hle:=vl p l'
   split
   ·rw[List.take_append_of_le_length hle]
    exact ih hl
   ·rename_i hp
    rw[show (l'++[x]).take (l'.length+1)=l'++[x] from List.take_of_length_le (by simp),wz,if_neg hp]
theorem zqd {d:List Int} (h8:d.length%8=0):(d.take (8*yo d)).length=8*yo d/\yo (d.take (8*yo d))=yo d:=by
 have hle:=vl (·==0) d
 have h1:(d.take (8*yo d)).length=8*yo d:=by
  rw[zqN]
  unfold yo
  omega
 refine ⟨h1,?_⟩
 have h2:8*yo d<=d.length:=by unfold yo;omega
 have hk:yW (·==0) (d.take (8*yo d))=yW (·==0) d:=by
  have hge:yW (·==0) d<=8*yo d:=by unfold yo;omega
  have mono:∀ (j:Nat),yW (·==0) d<=j->j<=d.length->yW (·==0) (d.take j)=yW (·==0) d:=by
   intro j hj hjd
   induction hm:d.length-j generalizing j with
   |zero=>rw[List.take_of_length_le (by omega)]
   |succ m ih=>
    have hjl:j<d.length:=by omega
    have:=ih (j+1) (by omega) (by omega) (by omega)
    rw[xH hjl,wz] at this
    split at this
    ·exact this
    ·rw[zqN] at this
     omega
  exact mono _ hge (by omega)
 unfold yo at hk ⊢
 rw[hk]
theorem znE (ks:List Nd):yk (ks.take (yk ks))=yk ks/\(ks.take (yk ks)).length=yk ks:=⟨zlT,by rw[zqN];have:=vl (fun x:Nd=>x.kind==0) ks;unfold yk;omega⟩
theorem Y0 (x:Nd):(zg x).kind=x.kind:=by
 cases x with
 |mk k e n d ks=>rw[zg];split<;>rfl
theorem Ja (ks:List Nd):yk (wK ks)=yk ks:=by
 rw[yY]
 unfold yk
 induction hn:ks.length generalizing ks with
 |zero=>have:=List.length_eq_zero_iff.1 hn;subst this;rfl
 |succ n ih=>
  rcases List.eq_nil_or_concat ks with rfl|⟨l',x,rfl⟩
  ·rfl
  ·rw[List.concat_eq_append] at hn ⊢
   rw[List.map_append,List.map_singleton,wz,wz,Y0,ih l' (by simpa using hn),zqH]
inductive TrN:Nd->Prop
 |mk {k e n:Int} {d:List Int} {ks:List Nd}:(k=1->8*yo d=d.length/\yk ks=ks.length)->(∀ x∈ks,TrN x)->TrN (.mk k e n d ks)
theorem zpp (x:Nd):yw x->TrN (zg x):=by
 induction x using Nd.ind with
 |h k e n d ks ih=>
  intro hg
  rw[yw,goods_iff] at hg
  obtain ⟨⟨hd,hb,hk,h8⟩,hks⟩:=hg
  rw[zg]
  by_cases h1:k=1
  ·rw[if_pos h1]
   refine .mk (fun _=>?_) fun y hy=>?_
   ·obtain ⟨a1,a2⟩:=zqd (h8 h1)
    have:=znE (wK ks)
    rw[Ja] at this
    exact ⟨by rw[a1,a2],by rw[this.1,this.2]⟩
   ·have:=List.mem_of_mem_take hy
    rw[yY] at this
    obtain ⟨x,hx,rfl⟩:=List.mem_map.1 this
    exact ih x hx (hks x hx)
  ·rw[if_neg h1]
   refine .mk (fun h=>absurd h h1) fun y hy=>?_
   rw[yY] at hy
   obtain ⟨x,hx,rfl⟩:=List.mem_map.1 hy
   exact ih x hx (hks x hx)
def yi (x:Nd):List Nd:=if x.kind=2/\x.elem=7 then x.kids.flatMap Nd.kids else x.kids
def Dp:Nat->Nd->Prop
 |0,x=>x.kind=0
 |D+1,x=>x.kind=0∨((yi x).length<=1073741824/\∀ y∈yi x,Dp D y)
theorem zkG {D:Nat} {x:Nd} (h:x.kind=0):Dp D x:=by
 cases D with
 |zero=>exact h
 |succ D=>exact .inl h
def JP (k e n:Int) (d:List Int) (q:Nat):Prop :=
 (k=0/\e=0/\n=0/\d.length=0/\q=0)∨(k=1/\e=0/\n=0/\d.length%8=0/\d.length<=524280/\q<=65535)∨
 (k=2/\(0<=n/\n<=536870911)/\(0<=e/\e<=7)/\(6<=e->d.length=0/\(q:Int)=n)/\(e<6->q=0/\(d.length:Int)=z5 e n/\trimB e n d=d))
inductive VN:Nd->Prop
 |mk {k e n:Int} {d:List Int} {ks:List Nd}:(∀ x∈ks,VN x)->(k=2->e=7->∀ x∈ks,x.kind=1)->JP k e n d ks.length->VN (.mk k e n d ks)
theorem WF:VN nd0:=.mk (fun x h=>by cases h) (fun _ _ x h=>by cases h) (.inl ⟨rfl,rfl,rfl,rfl,rfl⟩)
theorem zc2 {G:Int->Nat->Nd×Int×Int} {Q:Nd->Prop} (h:∀ m i,(G m i).2.2=0->Q (G m i).1):∀ c i m acc,(∀ x∈acc,Q x)->∀ x∈(z6 G c i m acc).1,Q x:=by
 intro c
 induction c with
 |zero=>intro i m acc ha;exact ha
 |succ c ih=>
  intro i m acc ha
  by_cases h0:(G m i).2.2=0
  ·rw[ZY h0]
   refine ih _ _ _ fun x hx=>?_
   rcases List.mem_append.1 hx with h1|h1
   ·exact ha x h1
   ·rw[List.mem_singleton.1 h1];exact h m i h0
  ·rw[ZX h0]
   exact fun x hx=>by cases hx
theorem zc3 {G:Int->Nat->Nd×Int×Int}:∀ c i m acc,(z6 G c i m acc).2.2=0->(z6 G c i m acc).1.length=acc.length+c:=by
 intro c
 induction c with
 |zero=>intro i m acc _;rfl
 |succ c ih=>
  intro i m acc hz
  by_cases h0:(G m i).2.2=0
  ·rw[ZY h0] at hz ⊢
   rw[ih _ _ _ hz]
   simp
   omega
  ·rw[ZX h0] at hz
   exact absurd hz h0
def Qq (D:Nat) (F:Int->Int->Int->Nd×Int×Int):Prop:=∀ m s a,(F m s a).2.2=0->VN (F m s a).1/\Dp D (F m s a).1
theorem Jr {D:Nat} {F:Int->Int->Int->Nd×Int×Int} (h:Qq D F) (l:List (List Int)) (m:Int) {o:Ob} (hd:o.data<=65535) (hq:0<=o.ptrs/\o.ptrs<=65535) (hz:(zV F l m o).2.2=0):VN (zV F l m o).1/\(zV F l m o).1.kind=1/\(zV F l m o).1.kids.length=o.ptrs.toNat/\∀ y∈(zV F l m o).1.kids,Dp D y:=by
 unfold zV at hz ⊢
 have hz':(z6 (fun m (i:Nat)=>F m o.seg (o.at_+o.data+i)) o.ptrs.toNat 0 m []).2.2=0:=hz
 have ha:=zc2 (G:=fun m (i:Nat)=>F m o.seg (o.at_+o.data+i)) (Q:=fun x=>VN x/\Dp D x) (fun m i h0=>h m _ _ h0) o.ptrs.toNat 0 m [] (fun x hx=>by cases hx)
 have hl:=zc3 (G:=fun m (i:Nat)=>F m o.seg (o.at_+o.data+i)) o.ptrs.toNat 0 m [] hz'
 rw[ZO hz']
 generalize z6 (fun m (i:Nat)=>F m o.seg (o.at_+o.data+i)) o.ptrs.toNat 0 m []=K at ha hl
 have hcl:=Zh l o.seg o.at_ o.data
 refine ⟨.mk (fun x hx=>(ha x hx).1) (fun h2=>absurd h2 (by decide)) (.inr (.inl ⟨rfl,rfl,rfl,zau l _ _ _,?_,?_⟩)),rfl,?_,fun y hy=>(ha y hy).2⟩
 ·rw[yT];omega
 ·simp at hl;omega
 ·show K.1.length=_
  simpa using hl
theorem zo8 {D:Nat} {F:Int->Int->Int->Nd×Int×Int} (h:Qq D F) (l:List (List Int)) (m:Int) {o:Ob} (hd:o.data<=65535) (hq:0<=o.ptrs/\o.ptrs<=65535) (hz:(zV F l m o).2.2=0):VN (zV F l m o).1/\Dp (D+1) (zV F l m o).1:=by
 obtain ⟨a1,a2,a3,a4⟩:=Jr h l m hd hq hz
 refine ⟨a1,.inr ?_⟩
 have:yi (zV F l m o).1=(zV F l m o).1.kids:=by unfold yi;rw[if_neg (fun x=>by rw[a2] at x;exact absurd x.1 (by decide))]
 rw[this]
 exact ⟨by rw[a3];omega,a4⟩
theorem ze5 {e c:Int} {b:List Int} (hc:0<=c/\c<=536870911) (hn:z5 e c<=b.length):((trimB e c b).length:Int)=z5 e c/\trimB e c (trimB e c b)=trimB e c b:=by
 have hr:=QN (e:=e) hc
 unfold trimB
 by_cases h1:e=1/\0<c%8
 ·simp only[if_pos h1]
  have hb1:1<=z5 e c:=by
   obtain ⟨rfl,h8⟩:=h1
   have hbn:z5 1 c=(c+7)/8:=by unfold z5 bitsOf;simp
   omega
  have hlen:(b.take (z5 e c-1).toNat).length=(z5 e c-1).toNat:=by rw[zqN];omega
  refine ⟨by rw[zqS,hlen];simp;omega,?_⟩
  rw[List.take_append_of_le_length (by omega),List.take_of_length_le (by omega)]
  congr 2
  have:rd (b.take (z5 e c-1).toNat++[rd b (z5 e c-1)%2^(c%8).toNat]) (z5 e c-1)=rd b (z5 e c-1)%2^(c%8).toNat:=by
   conv=>lhs;unfold rd
   rw[List.getD_eq_getElem?_getD,List.getElem?_append_right (by omega),hlen,Nat.sub_self]
   rfl
  rw[this,Int.emod_emod_of_dvd _ (Int.dvd_refl _)]
 ·simp only[if_neg h1]
  refine ⟨by rw[zqN];omega,?_⟩
  rw[List.take_take,Nat.min_self]
theorem zmz {l:List (List Int)} {s st c:Int} (h:(wn l s st c).2=0):(wn l s st c).1.n*(wn l s st c).1.ptrs<=c∨(wn l s st c).1.data<0∨(wn l s st c).1.n<0:=by
 unfold wn at h ⊢
 by_cases hb:inB l s st (c+1)
 ·rw[if_pos hb] at h ⊢
  generalize zk (wd l s st)=p at h ⊢
  by_cases hk:p.1=0/\0<=p.2.1/\p.2.1*(p.2.2.1+p.2.2.2.1)<=c
  ·rw[if_pos hk]
   dsimp only
   by_cases h0:p.2.2.1<0
   ·exact .inr (.inl h0)
   ·refine .inl ?_
    have:p.2.1*p.2.2.2.1<=p.2.1*(p.2.2.1+p.2.2.2.1):=Int.mul_le_mul_of_nonneg_left (by omega) hk.2.1
    omega
  ·rw[if_neg hk] at h
   exact wO h (by decide)
 ·rw[if_neg hb] at h
  exact wO h (by decide)
def Np (o:Ob):Prop:=o.kind=2->o.elem=7->o.n*o.ptrs<=536870911
theorem zdp {l:List (List Int)} (hl:zN l) (hs:Sm l) {s a:Int} (h0:(ya l s a).1≠0) (he:(ya l s a).2.2.2=0) (h:(yA l s a).2=0):Np (yA l s a).1:=by
 have hok:=Xk hl hs h0 he h
 obtain ⟨_,hdt,_,_,hn,_⟩:=hok
 have hd:=wF (VE hl s a)
 unfold yA at h hdt hn ⊢
 rw[if_pos he,if_neg h0] at h hdt hn ⊢
 unfold wU at h hdt hn ⊢
 generalize zk (ya l s a).1=p at h hdt hn hd ⊢
 by_cases k0:p.1=0
 ·rw[if_pos k0] at h hdt hn ⊢
  intro k2
  unfold wA at k2
  split at k2<;>first|exact absurd k2 (show ¬((1:Int)=2) by decide)|exact absurd k2 (show ¬((0:Int)=2) by decide)
 ·rw[if_neg k0] at h hdt hn ⊢
  by_cases k1:p.1=1
  ·rw[if_pos k1] at h hdt hn ⊢
   unfold xi at h hdt hn ⊢
   by_cases h7:p.2.2.2.2.1=7
   ·rw[if_pos h7] at h hdt hn ⊢
    intro _ _
    have:=zmz h
    omega
   ·rw[if_neg h7] at h ⊢
    split
    ·exact fun _ h=>absurd h h7
    ·rename_i hb
     rw[if_neg hb] at h
     exact wO h (by decide)
  ·rw[if_neg k1] at h
   split at h
   ·exact wO h (by decide)
   ·exact wO h (by decide)
theorem zld {l:List Nd} {q:Nat} (h:∀ x∈l,x.kids.length=q):(l.flatMap Nd.kids).length=l.length*q:=by
 induction l with
 |nil=>simp
 |cons x l ih=>
  rw[List.flatMap_cons,zqS,ih (fun y hy=>h y (zqI _ hy)),h x zqJ,zqT,Nat.succ_mul]
  omega
theorem zkm {D:Nat} {F:Int->Int->Int->Nd×Int×Int} (h:Qq D F) (l:List (List Int)) (m:Int) {o:Ob} (ho:ZP l o) (hp:Np o) (hk:o.kind=2) (hz:(xl F l m o).2.2=0):VN (xl F l m o).1/\Dp (D+1) (xl F l m o).1:=by
 obtain ⟨hat,hd,hq,he,hn,hc,_,hw,_⟩:=ho
 unfold xl at hz ⊢
 by_cases h6:o.elem<6
 ·rw[if_pos h6]
  have ht:=ze5 hn (W5 hn (hw hk h6) h6)
  refine ⟨.mk (fun x hx=>by cases hx) (fun _ _ x hx=>by cases hx) (.inr (.inr ⟨rfl,hn,he,fun h=>absurd h (by omega),fun _=>⟨rfl,ht.1,ht.2⟩⟩)),.inr ?_⟩
  have:yi (.mk 2 o.elem o.n (trimB o.elem o.n (zu (cutB l o.seg o.at_ o.cost))) [])=[]:=by unfold yi;split<;>rfl
  rw[this]
  exact ⟨by simp,fun y hy=>by cases hy⟩
 ·rw[if_neg h6] at hz ⊢
  have hz':(z6 (fun m (i:Nat)=>if o.elem=6 then F m o.seg (o.at_+i) else zV F l m (ye o i)) o.n.toNat 0 m []).2.2=0:=hz
  have ha:=zc2 (G:=fun m (i:Nat)=>if o.elem=6 then F m o.seg (o.at_+i) else zV F l m (ye o i)) (Q:=fun x=>VN x/\(o.elem=6->Dp D x)/\(o.elem≠6->x.kind=1/\x.kids.length=o.ptrs.toNat/\∀ y∈x.kids,Dp D y)) (fun m i h0=>by
   by_cases h7:o.elem=6
   ·simp only[if_pos h7] at h0 ⊢
    obtain ⟨b1,b2⟩:=h m _ _ h0
    exact ⟨b1,fun _=>b2,fun h=>absurd h7 h⟩
   ·simp only[if_neg h7] at h0 ⊢
    obtain ⟨b1,b2,b3,b4⟩:=Jr h l m (o:=ye o i) hd.2 hq h0
    exact ⟨b1,fun h=>absurd h h7,fun _=>⟨b2,b3,b4⟩⟩) o.n.toNat 0 m [] (fun x hx=>by cases hx)
  have hl:=zc3 (G:=fun m (i:Nat)=>if o.elem=6 then F m o.seg (o.at_+i) else zV F l m (ye o i)) o.n.toNat 0 m [] hz'
  rw[ZO hz']
  generalize z6 (fun m (i:Nat)=>if o.elem=6 then F m o.seg (o.at_+i) else zV F l m (ye o i)) o.n.toNat 0 m []=K at ha hl
  have hl':K.1.length=o.n.toNat:=by simpa using hl
  refine ⟨.mk (fun x hx=>(ha x hx).1) (fun _ h7 x hx=>((ha x hx).2.2 (by omega)).1) (.inr (.inr ⟨rfl,hn,he,fun _=>⟨rfl,by omega⟩,fun h=>absurd h h6⟩)),.inr ?_⟩
  dsimp only
  by_cases h7:o.elem=7
  ·have ht:yi (.mk 2 o.elem o.n [] K.1)=K.1.flatMap Nd.kids:=by unfold yi;exact if_pos ⟨rfl,h7⟩
   rw[ht]
   refine ⟨?_,fun y hy=>?_⟩
   ·rw[zld (fun x hx=>((ha x hx).2.2 (by omega)).2.1),hl']
    have:=hp hk h7
    have e:((o.n.toNat*o.ptrs.toNat:Nat):Int)=o.n*o.ptrs:=by rw[Int.natCast_mul,Int.toNat_of_nonneg hn.1,Int.toNat_of_nonneg hq.1]
    omega
   ·obtain ⟨x,hx,hy⟩:=List.mem_flatMap.1 hy
    exact ((ha x hx).2.2 (by omega)).2.2 y hy
  ·have ht:yi (.mk 2 o.elem o.n [] K.1)=K.1:=by unfold yi;exact if_neg (fun x=>h7 x.2)
   rw[ht]
   exact ⟨by rw[hl'];omega,fun y hy=>(ha y hy).2.1 (by omega)⟩
theorem Vu {l:List (List Int)} (hl:zN l) (hs:Sm l):∀ D,Qq D (zR l D):=by
 intro D
 induction D with
 |zero=>
  intro m s a hz
  by_cases he:(ya l s a).2.2.2=0
  ·by_cases h0:(ya l s a).1=0
   ·rw[Xe he h0];exact ⟨WF,rfl⟩
   ·rw[Kr he h0] at hz;exact absurd hz (by show ¬((7:Int)=0);decide)
  ·rw[YJ he] at hz;exact absurd hz he
 |succ D ih=>
  intro m s a hz
  by_cases he:(ya l s a).2.2.2=0
  ·by_cases h0:(ya l s a).1=0
   ·rw[Xe he h0];exact ⟨WF,.inl rfl⟩
   ·rw[Kt he h0] at hz ⊢
    unfold yQ at hz ⊢
    by_cases hf:(yA l s a).2=0
    ·rw[if_pos hf] at hz ⊢
     have hok:=Xk hl hs h0 he hf
     have hnp:=zdp hl hs h0 he hf
     by_cases h8:(yA l s a).1.cost>m
     ·rw[if_pos h8] at hz;exact absurd hz (by show ¬((8:Int)=0);decide)
     ·rw[if_neg h8] at hz ⊢
      obtain ⟨hat,hd,hq,_,_,_,hk,_⟩:=id hok
      by_cases h1:(yA l s a).1.kind=1
      ·rw[if_pos h1] at hz ⊢
       exact zo8 ih l _ hd.2 hq hz
      ·rw[if_neg h1] at hz ⊢
       exact zkm ih l _ hok hnp (by omega) hz
    ·rw[if_neg hf] at hz;exact absurd hz hf
  ·rw[YJ he] at hz;exact absurd hz he
theorem WG (x:Nd):VN x->VN (zg x):=by
 induction x using Nd.ind with
 |h k e n d ks ih=>
  intro hv
  cases hv with
  |mk v1 v2 v3=>
  rw[zg,yY]
  have hm:∀ y∈ks.map zg,VN y:=fun y hy=>by
   obtain ⟨x,hx,rfl⟩:=List.mem_map.1 hy
   exact ih x hx (v1 x hx)
  by_cases h1:k=1
  ·rw[if_pos h1]
   refine .mk (fun x hx=>hm x (List.mem_of_mem_take hx)) (fun h2=>absurd h2 (by omega)) ?_
   unfold JP at v3 ⊢
   rw[zqN,zqN,zqH]
   rcases v3 with v3|v3|v3
   ·omega
   ·obtain ⟨_,a2,a3,a4,a5,a6⟩:=v3
    have:=vl (·==0) d
    refine .inr (.inl ⟨h1,a2,a3,?_,by omega,by omega⟩)
    unfold yo
    omega
   ·omega
  ·rw[if_neg h1]
   refine .mk hm (fun h2 h7 y hy=>?_) ?_
   ·obtain ⟨x,hx,rfl⟩:=List.mem_map.1 hy
    rw[Y0]
    exact v2 h2 h7 x hx
   ·rw[zqH];exact v3
theorem uv (x:Nd):(zg x).kids.length<=x.kids.length/\∀ y∈(zg x).kids,∃ z∈x.kids,y=zg z:=by
 cases x with
 |mk k e n d ks=>
  rw[zg,yY]
  split
  ·refine ⟨by show ((ks.map zg).take _).length<=ks.length;rw[zqN,zqH];omega,fun y hy=>?_⟩
   have hy':y∈(ks.map zg).take (yk ks):=hy
   obtain ⟨z,hz,rfl⟩:=List.mem_map.1 (List.mem_of_mem_take hy')
   exact ⟨z,hz,rfl⟩
  ·refine ⟨by show (ks.map zg).length<=ks.length;rw[zqH];omega,fun y hy=>?_⟩
   have hy':y∈ks.map zg:=hy
   obtain ⟨z,hz,rfl⟩:=List.mem_map.1 hy'
   exact ⟨z,hz,rfl⟩
theorem gI (x:Nd):(zg x).elem=x.elem:=by
 cases x with
 |mk k e n d ks=>rw[zg];split<;>rfl
theorem zck:∀ l:List Nd,((l.map zg).flatMap Nd.kids).length<=(l.flatMap Nd.kids).length
 |[]=>Nat.le_refl _
 |x::l=>by
  have:=zck l
  have:=(uv x).1
  rw[List.map_cons,List.flatMap_cons,List.flatMap_cons,zqS,zqS]
  omega
theorem zpn (x:Nd):(yi (zg x)).length<=(yi x).length/\∀ y∈yi (zg x),∃ z∈yi x,y=zg z:=by
 unfold yi
 rw[Y0,gI]
 by_cases h:x.kind=2/\x.elem=7
 ·rw[if_pos h,if_pos h]
  have hk:(zg x).kids=x.kids.map zg:=by
   cases x with
   |mk k e n d ks=>
    rw[zg,yY,if_neg (fun h1=>by have:k=2:=h.1;omega)]
    rfl
  rw[hk]
  refine ⟨zck _,fun y hy=>?_⟩
  obtain ⟨u,hu,hy⟩:=List.mem_flatMap.1 hy
  obtain ⟨v,hv,rfl⟩:=List.mem_map.1 hu
  obtain ⟨z,hz,rfl⟩:=(uv v).2 y hy
  exact ⟨z,List.mem_flatMap.2 ⟨v,hv,hz⟩,rfl⟩
 ·rw[if_neg h,if_neg h]
  exact uv x
theorem zkH:∀ (D:Nat) (x:Nd),Dp D x->Dp D (zg x):=by
 intro D
 induction D with
 |zero=>intro x h;exact (Y0 x).trans h
 |succ D ih=>
  intro x h
  rcases h with h|⟨h1,h2⟩
  ·exact .inl ((Y0 x).trans h)
  ·obtain ⟨a1,a2⟩:=zpn x
   exact .inr ⟨by omega,fun y hy=>by obtain ⟨z,hz,rfl⟩:=a2 y hy;exact ih z (h2 z hz)⟩
theorem gG (k e n:Int) (d:List Int) (ks:List Nd):yi (.mk k e n d ks)=if k=2/\e=7 then ks.flatMap Nd.kids else ks:=rfl
theorem zcG {x:Nd} (hg:yw x):∀ y∈yi x,yw y:=by
 have kid:∀ {x:Nd},yw x->∀ y∈x.kids,yw y:=fun {x} h y hy=>by
  cases x with
  |mk k e n d ks=>rw[yw,goods_iff] at h;exact h.2 y hy
 unfold yi
 split
 ·intro y hy
  obtain ⟨z,hz,hy⟩:=List.mem_flatMap.1 hy
  exact kid (kid hg z hz) y hy
 ·exact kid hg
theorem zoz {l:List (List Int)} (hl:zN l) (hs:Sm l) {d w:Int} (h:(runT l d w).2.2=0):VN (runT l d w).1/\Dp d.toNat (runT l d w).1:=by
 by_cases he:XZ l
 ·rw[runT,if_pos he]
  exact ⟨WF,zkG rfl⟩
 ·have e1:runT l d w=zR l d.toNat (max w 0) 0 0:=by rw[runT,if_neg he]
  rw[e1] at h ⊢
  exact Vu hl hs _ _ _ _ h
def zm (l:List Nd):Nat:=l.foldr (fun x a=>max (x.data.length/8) a) 0
def zo (l:List Nd):Nat:=l.foldr (fun x a=>max x.kids.length a) 0
def yG (x:Nd):Int:=if x.kind=0 then 0 else if x.kind=1 then ((x.data.length/8+x.kids.length:Nat):Int) else if x.elem=7 then 1+x.n*((zm x.kids+zo x.kids:Nat):Int) else zn x.elem x.n
def zt (l:List Int):Int:=l.foldr (fun a b=>a+b) 0
def zM:Nat->Nd->Int
 |0,x=>yG x
 |D+1,x=>yG x+zt ((yi x).map (zM D))
theorem zo9 (a b:List Int):zt (a++b)=zt a+zt b:=by
 unfold zt
 induction a with
 |nil=>simp
 |cons x a ih=>simp only[List.cons_append,List.foldr_cons,ih];omega
theorem vf:zt []=0:=rfl
theorem wI (x:Int) (l:List Int):zt (x::l)=x+zt l:=rfl
theorem wJ {l:List Int} (h:∀ x∈l,0<=x):0<=zt l:=by
 induction l with
 |nil=>exact Int.le_refl _
 |cons x l ih=>
  rw[wI]
  have:=h x zqJ
  have:=ih fun y hy=>h y (zqI _ hy)
  omega
theorem JB {l:List Nd} {x:Nd} (h:x∈l):x.data.length/8<=zm l:=by
 unfold zm
 induction l with
 |nil=>cases h
 |cons y l ih=>
  rw[List.foldr_cons]
  rcases List.mem_cons.1 h with rfl|h
  ·omega
  ·have:=ih h;omega
theorem Yu {l:List Nd} {b:Nat} (h:∀ x∈l,x.data.length/8<=b):zm l<=b:=by
 unfold zm
 induction l with
 |nil=>exact Nat.zero_le _
 |cons y l ih=>
  rw[List.foldr_cons]
  have:=h y zqJ
  have:=ih fun x hx=>h x (zqI _ hx)
  omega
theorem Yv {l:List Nd} {b:Nat} (h:∀ x∈l,x.kids.length<=b):zo l<=b:=by
 unfold zo
 induction l with
 |nil=>exact Nat.zero_le _
 |cons y l ih=>
  rw[List.foldr_cons]
  have:=h y zqJ
  have:=ih fun x hx=>h x (zqI _ hx)
  omega
theorem zfd (l:List Nd) (x:Nd):zm (l++[x])=max (zm l) (x.data.length/8):=by
 unfold zm
 induction l with
 |nil=>simp
 |cons y l ih=>simp only[List.cons_append,List.foldr_cons,ih];omega
theorem zfe (l:List Nd) (x:Nd):zo (l++[x])=max (zo l) x.kids.length:=by
 unfold zo
 induction l with
 |nil=>simp
 |cons y l ih=>simp only[List.cons_append,List.foldr_cons,ih];omega
theorem zpC {l:List Nd} (hl:l.length<=1073741824) (hd:∀ x∈l,x.data.length<=17592186044416) (a b c:Int) (x y:List PV):∀ (c0 i:Nat),i+c0=l.length->Jx (zm (l.take i):Nat) (zo (l.take i):Nat) (zr l) l.length i a b c x y=ok (.tup [I (zm l:Nat),I (zo l:Nat)]):=by
 intro c0
 induction c0 with
 |zero=>
  intro i hi
  rw[ze8,decide_eq_false (by omega),List.take_of_length_le (by omega)]
  rfl
 |succ c0 ih=>
  intro i hi
  have hil:i<l.length:=by omega
  have hdi:=hd _ (List.getElem_mem hil)
  rw[ze8,dT ((i:Int)<(l.length:Int)),dT (0<=(i:Int)),decide_eq_true (show (i:Int)<((zr l).length:Int) by simp;omega)]
  dsimp only[zj,zb]
  rw[zqK,wq hil]
  dsimp only[zqR]
  rw[vV,vU,show (l[i].c.drop 0).take 5=l[i].c from rfl]
  dsimp only[Nd.c,zqP,zqQ,zqR,xu,zj,yt,yh,zb]
  rw[zU,xG,Int.tdiv_eq_ediv_of_nonneg (by omega),zc (x:=(l[i].data.length:Int)/8),zc (x:=(i:Int)+1)]
  have h1:(if (l[i].data.length:Int)/8>((zm (l.take i):Nat):Int) then (l[i].data.length:Int)/8 else ((zm (l.take i):Nat):Int))=((zm (l.take (i+1)):Nat):Int):=by
   rw[xH hil,zfd]
   split<;>omega
  have h2:(if (l[i].kids.length:Int)>((zo (l.take i):Nat):Int) then (l[i].kids.length:Int) else ((zo (l.take i):Nat):Int))=((zo (l.take (i+1)):Nat):Int):=by
   rw[xH hil,zfe]
   split<;>omega
  rw[h1,h2]
  exact ih (i+1) (by omega)
theorem jk {x:Nd} (hl:x.kids.length<=1073741824) (hd:∀ y∈x.kids,y.data.length<=17592186044416):ev 219 [.pv x.x] []=ok (.tup [I (zm x.kids:Nat),I (zo x.kids:Nat)]):=by
 rw[Nd.x,zpu,xG]
 exact zpC hl hd x.kind x.elem x.n (bs x.data) (zr x.kids) x.kids.length 0 (by omega)
theorem vR {x:Nd} (h:yw x):x.data.length<=17592186044416/\x.kids.length<=1073741824/\∀ y∈x.kids,yw y:=by
 cases x with
 |mk k e n d ks=>
  rw[yw,goods_iff] at h
  exact ⟨h.1.1,h.1.2.2.1,h.2⟩
theorem wB {x:Nd} (h:VN x):JP x.kind x.elem x.n x.data x.kids.length/\(∀ y∈x.kids,VN y):=by
 cases h with
 |mk v1 v2 v3=>exact ⟨v3,v1⟩
theorem Xj {x:Nd} (h:VN x):0<=yG x:=by
 obtain ⟨hs,_⟩:=wB h
 unfold yG
 rcases hs with hs|hs|hs
 ·rw[if_pos hs.1];exact Int.le_refl _
 ·rw[if_neg (by omega),if_pos hs.1];omega
 ·rw[if_neg (by omega),if_neg (by omega)]
  split
  ·have:=Int.mul_nonneg hs.2.1.1 (Int.natCast_nonneg (zm x.kids+zo x.kids))
   omega
  ·exact (Zy hs.2.1).1
theorem jc {x:Nd} (hg:yw x) (hv:VN x) (hb:yG x<=4611686018427387904) (hu:zm x.kids+zo x.kids<=4611686018427387904):ev 262 [.pv x.x] []=ok (I (yG x)):=by
 obtain ⟨hd,hk,hks⟩:=vR hg
 obtain ⟨hs,_⟩:=wB hv
 have hun:=jk hk (fun y hy=>(vR (hks y hy)).1)
 rw[Nd.x] at hun ⊢
 rw[ziK,zU,xG]
 unfold yG at hb ⊢
 rcases hs with hs|hs|hs
 ·rw[beq_iff_eq.2 hs.1,if_pos hs.1];rfl
 ·rw[beq_eq_false_iff_ne.2 (show x.kind≠0 by omega),beq_iff_eq.2 hs.1,if_neg (by omega),if_pos hs.1]
  dsimp only[zb,zl]
  rw[Int.tdiv_eq_ediv_of_nonneg (by omega),zc (x:=(x.data.length:Int)/8),zc (by omega)]
  rw[show (x.data.length:Int)/8+(x.kids.length:Int)=((x.data.length/8+x.kids.length:Nat):Int) by omega]
 ·rw[if_neg (by omega),if_neg (by omega)] at hb ⊢
  rw[beq_eq_false_iff_ne.2 (show x.kind≠0 by omega),beq_eq_false_iff_ne.2 (show x.kind≠1 by omega)]
  dsimp only[zl]
  by_cases h7:x.elem=7
  ·rw[if_pos h7] at hb ⊢
   rw[beq_iff_eq.2 h7]
   dsimp only[zb]
   rw[hun]
   have hm:=Int.mul_nonneg hs.2.1.1 (Int.natCast_nonneg (zm x.kids+zo x.kids))
   dsimp only[zh,zK,zqQ,zqP,zqR,zA]
   rw[zc (x:=((zm x.kids:Nat):Int)+((zo x.kids:Nat):Int)),show ((zm x.kids:Nat):Int)+((zo x.kids:Nat):Int)=((zm x.kids+zo x.kids:Nat):Int) by push_cast;rfl,zc (x:=x.n*((zm x.kids+zo x.kids:Nat):Int)),zc (by omega)]
  ·rw[if_neg h7]
   rw[beq_eq_false_iff_ne.2 h7,JX hs.2.2.1 hs.2.1]
   rfl
noncomputable def yU {α:Type} (x y:α):Bool:=@decide (x=y) (Classical.propDecidable _)
theorem wR {α:Type} {x y:α} (h:x=y):yU x y=true:=by unfold yU;exact @decide_eq_true _ (Classical.propDecidable _) h
theorem xL {α:Type} {x y:α} (h:¬x=y):yU x y=false:=by unfold yU;exact @decide_eq_false _ (Classical.propDecidable _) h
theorem Kz {α β:Type} {x y:α} {u v:β} (h:x=y↔u=v):yU x y=yU u v:=by
 by_cases hx:x=y
 ·rw[wR hx,wR (h.1 hx)]
 ·rw[xL hx,xL (fun e=>hx (h.2 e))]
theorem zeX {α:Type} {a b:List α} {i:Nat} (ha:i<a.length) (hb:i<b.length) (h:a.take i=b.take i) (e:a[i]=b[i]):a.take (i+1)=b.take (i+1):=by
 rw[xH ha,xH hb,h,e]
theorem zoO {d d':List Int} (hd:d.length<=17592186044416) (hl:d.length=d'.length):∀ (c i:Nat),i+c=d.length->d.take i=d'.take i->XP (bs d) (bs d') i=ok (Bo (yU d d')):=by
 intro c
 induction c with
 |zero=>
  intro i hi ht
  rw[List.take_of_length_le (by omega),List.take_of_length_le (by omega)] at ht
  rw[QY,decide_eq_false (by simp;omega),wR ht]
  rfl
 |succ c ih=>
  intro i hi ht
  rw[QY,decide_eq_true (show (i:Int)<((bs d).length:Int) by simp;omega),dT (0<=(i:Int)),decide_eq_true (show (i:Int)<((bs d').length:Int) by simp;omega)]
  dsimp only[zj,zb]
  rw[zqK,Ze (l:=d) (by omega)]
  dsimp only[zqR,z9,zqP,wV]
  rw[Ze (l:=d') (by omega)]
  dsimp only[zqR,z9,zqP,wV]
  by_cases he:d[i]=d'[i]
  ·rw[show (d[i] != d'[i])=false from by simpa using he,zc (x:=(i:Int)+1)]
   exact ih (i+1) (by omega) (zeX (by omega) (by omega) ht he)
  ·rw[bne_iff_ne.2 he,xL (fun h=>he (by subst h;rfl))]
   rfl
theorem jf {d d':List Int} (hd:d.length<=17592186044416) (hd':d'.length<=17592186044416):ev 27 [.pv (.sl 1 (bs d)),.pv (.sl 1 (bs d'))] []=ok (Bo (yU d d')):=by
 rw[qy,zU,zU]
 by_cases hl:d.length=d'.length
 ·rw[show ((d.length:Int) != (d'.length:Int))=false from by simp;omega]
  exact zoO hd hl d.length 0 (by omega) (by rw[List.take_zero,List.take_zero])
 ·rw[show ((d.length:Int) != (d'.length:Int))=true from by simp;omega,xL (fun h=>hl (by rw[h]))]
  rfl
theorem zkQ {l l':List Nd} (hl:l.length<=1073741824) (he:l.length=l'.length) (hv:∀ x∈l,∀ y∈l',ev 134 [.pv x.pv,.pv y.pv] []=ok (Bo (yU x y))) (a b c a' b' c':Int) (x y:List PV):∀ (c0 i:Nat),i+c0=l.length->l.take i=l'.take i->Vc i a b c x (zr l) a' b' c' y (zr l')=ok (Bo (yU l l')):=by
 intro c0
 induction c0 with
 |zero=>
  intro i hi ht
  rw[List.take_of_length_le (by omega),List.take_of_length_le (by omega)] at ht
  rw[Kb,decide_eq_false (by simp;omega),wR ht]
  rfl
 |succ c0 ih=>
  intro i hi ht
  have hil:i<l.length:=by omega
  have hil':i<l'.length:=by omega
  rw[Kb,decide_eq_true (show (i:Int)<((zr l).length:Int) by simp;omega),dT (0<=(i:Int)),decide_eq_true (show (i:Int)<((zr l').length:Int) by simp;omega)]
  dsimp only[zj,zb]
  rw[zqK,wq hil,wq hil']
  dsimp only[zqR]
  rw[vV,vV,VO,VO,hv _ (List.getElem_mem hil) _ (List.getElem_mem hil')]
  dsimp only[zh,yL,zqR,zb]
  by_cases hx:l[i]=l'[i]
  ·rw[wR hx,zc (x:=(i:Int)+1)]
   exact ih (i+1) (by omega) (zeX hil hil' ht hx)
  ·rw[xL hx,xL (fun h=>hx (by subst h;rfl))]
   rfl
theorem zfT (x:Nd):∀ y:Nd,yw x->yw y->ev 134 [.pv x.pv,.pv y.pv] []=ok (Bo (yU x y)):=by
 induction x using Nd.ind with
 |h k e n d ks ih=>
  intro y hg hg'
  cases y with
  |mk k' e' n' d' ks' =>
  rw[yw,goods_iff] at hg hg'
  obtain ⟨⟨hd,hb,hk,h8⟩,hks⟩:=hg
  obtain ⟨⟨hd',hb',hk',h8'⟩,hks'⟩:=hg'
  rw[Nd.pv,Nd.pv,za6]
  by_cases q1:k=k'
  ·by_cases q2:e=e'
   ·by_cases q3:n=n'
    ·rw[show (k != k')=false from by simpa using q1,show (e != e')=false from by simpa using q2,show (n != n')=false from by simpa using q3,jf hd hd']
     dsimp only[zh,yL,zqR,zl]
     by_cases q4:d=d'
     ·rw[wR q4,xG,xG]
      dsimp only[vm,zl]
      by_cases q5:ks.length=ks'.length
      ·rw[show ((ks.length:Int) != (ks'.length:Int))=false from by simp;omega]
       dsimp only[zl]
       refine (zkQ hk q5 (fun x hx y hy=>ih x hx y (hks x hx) (hks' y hy)) k e n k' e' n' (bs d) (bs d') ks.length 0 (by omega) (by rw[List.take_zero,List.take_zero])).trans ?_
       rw[Kz (x:=ks) (y:=ks') (u:=Nd.mk k e n d ks) (v:=Nd.mk k' e' n' d' ks') (by subst q1;subst q2;subst q3;subst q4;simp)]
      ·rw[show ((ks.length:Int) != (ks'.length:Int))=true from by simp;omega,xL (fun h=>q5 (by cases h;rfl))]
       rfl
     ·rw[xL q4,xL (fun h=>q4 (by cases h;rfl))]
      rfl
    ·rw[show (k != k')=false from by simpa using q1,show (e != e')=false from by simpa using q2,show (n != n')=true from by simpa using q3,xL (fun h=>q3 (by cases h;rfl))]
     rfl
   ·rw[show (k != k')=false from by simpa using q1,show (e != e')=true from by simpa using q2,xL (fun h=>q2 (by cases h;rfl))]
    rfl
  ·rw[show (k != k')=true from by simpa using q1,xL (fun h=>q1 (by cases h;rfl))]
   rfl
theorem zfS {x y:Nd} (h:yw x) (h':yw y):ev 134 [.pv x.x,.pv y.x] []=ok (Bo (yU x y)):=by
 have:=zfT x y h h'
 rwa [YQ,YQ] at this
def xa (l:List Int):List Int:=l.take (yW (·==0) l)
theorem zbE (l:List Int) (x:Int):xa (l++[x])=if x=0 then xa l else l++[x]:=by
 unfold xa
 rw[wz]
 by_cases h:x=0
 ·subst h
  rw[if_pos (by rfl),if_pos rfl,List.take_append_of_le_length (vl _ _)]
 ·rw[if_neg (by simpa using h),if_neg h,List.take_of_length_le (by simp)]
theorem zbF:∀ (n:Nat) (l:List Int),xa (l++List.replicate n 0)=xa l
 |0,l=>by simp
 |n+1,l=>by rw[List.replicate_succ',←List.append_assoc,zbE,if_pos rfl,zbF n l]
theorem zbC (l:List Int):∃ n,l=xa l++List.replicate n 0:=by
 induction hn:l.length generalizing l with
 |zero=>have:=List.length_eq_zero_iff.1 hn;subst this;exact ⟨0,rfl⟩
 |succ n ih=>
  rcases List.eq_nil_or_concat l with rfl|⟨l',x,rfl⟩
  ·exact ⟨0,rfl⟩
  ·rw[List.concat_eq_append] at hn ⊢
   rw[zbE]
   by_cases h:x=0
   ·subst h
    obtain ⟨m,hm⟩:=ih l' (by simpa using hn)
    refine ⟨m+1,?_⟩
    rw[if_pos rfl,List.replicate_succ',←List.append_assoc,←hm]
   ·rw[if_neg h]
    exact ⟨0,by simp⟩
theorem zbD {a b:List Int} (h:xa a=xa b) (i:Nat):a.getD i 0=b.getD i 0:=by
 obtain ⟨n,hn⟩:=zbC a
 obtain ⟨m,hm⟩:=zbC b
 have key:∀ (c:List Int) (n i:Nat),(c++List.replicate n 0).getD i 0=c.getD i 0:=fun c n i=>by
  simp only[List.getD_eq_getElem?_getD]
  rcases Nat.lt_or_ge i c.length with h|h
  ·rw[List.getElem?_append_left h]
  ·rw[List.getElem?_append_right h,List.getElem?_eq_none h,List.getElem?_replicate]
   split<;>rfl
 rw[hn,hm,key,key,h]
theorem zki {a b:List Int} (hl:a.length<=b.length) (h:∀ i,a.getD i 0=b.getD i 0):xa a=xa b:=by
 have:b=a++List.replicate (b.length-a.length) 0:=by
  apply List.ext_getElem
  ·simp;omega
  ·intro i h1 h2
   have:=h i
   simp only[List.getD_eq_getElem?_getD,zqF h1,Option.getD_some] at this
   rw[←this]
   rcases Nat.lt_or_ge i a.length with h3|h3
   ·rw[List.getElem_append_left h3,zqF h3];rfl
   ·rw[List.getElem_append_right h3,List.getElem?_eq_none h3];simp
 rw[this,zbF]
theorem zbG {a b:List Int} (hb:b.length<=17592186044416) (hl:a.length<=b.length):∀ (c i:Nat),i+c=b.length->(∀ j,j<i->a.getD j 0=b.getD j 0)->Ye (ws a) (ws b) b.length i=ok (Bo (yU (xa a) (xa b))):=by
 intro c
 induction c with
 |zero=>
  intro i hi ht
  rw[zbY,decide_eq_false (by omega),wR (zki hl fun j=>by
   rcases Nat.lt_or_ge j i with h|h
   ·exact ht j h
   ·simp only[List.getD_eq_getElem?_getD]
    rw[List.getElem?_eq_none (by omega),List.getElem?_eq_none (by omega)])]
  rfl
 |succ c ih=>
  intro i hi ht
  have hib:i<b.length:=by omega
  have hgb:b.getD i 0=b[i]:=by simp only[List.getD_eq_getElem?_getD,zqF hib];rfl
  have next:a.getD i 0=b.getD i 0->Ye (ws a) (ws b) b.length ((i:Int)+1)=ok (Bo (yU (xa a) (xa b))):=fun he=>ih (i+1) (by omega) fun j hj=>by
   rcases Nat.lt_or_ge j i with h|h
   ·exact ht j h
   ·rw[show j=i by omega];exact he
  rw[zbY,dT ((i:Int)<(b.length:Int)),dT (0<=(i:Int)),zZ,zZ,dT ((i:Int)<(b.length:Int))]
  dsimp only[zj,zb]
  rw[zqK,vZ hib]
  dsimp only[zqR,z9,zqP,xc]
  rw[zc (x:=(i:Int)+1)]
  by_cases hia:i<a.length
  ·have hga:a.getD i 0=a[i]:=by simp only[List.getD_eq_getElem?_getD,zqF hia];rfl
   rw[dT ((i:Int)<(a.length:Int)),vZ hia,dF ((i:Int)≥(a.length:Int))]
   dsimp only[zl,zqR,z9,zqP,xc,zb]
   by_cases he:a[i]=b[i]
   ·rw[show (a[i] != b[i])=false from by simpa using he]
    exact next (by rw[hga,hgb,he])
   ·rw[bne_iff_ne.2 he,xL (fun h=>he (by have:=zbD h i;rw[hga,hgb] at this;exact this))]
    rfl
  ·have hga:a.getD i 0=0:=by simp only[List.getD_eq_getElem?_getD];rw[List.getElem?_eq_none (by omega)];rfl
   rw[dF ((i:Int)<(a.length:Int)),dT ((i:Int)≥(a.length:Int))]
   dsimp only[zb,zl]
   by_cases he:b[i]=0
   ·rw[show (b[i] != 0)=false from by simpa using he]
    exact next (by rw[hga,hgb,he])
   ·rw[yP he,xL (fun h=>he (by have:=zbD h i;rw[hga,hgb] at this;exact this.symm))]
    rfl
theorem zkL {α:Type} (x y:α):yU x y=yU y x:=Kz ⟨Eq.symm,Eq.symm⟩
theorem Qr {a b:List Int} (ha:a.length<=17592186044416) (hb:b.length<=17592186044416):ev 237 [.pv (.sl 1 (ws a)),.pv (.sl 1 (ws b))] []=ok (Bo (yU (xa a) (xa b))):=by
 rw[zkM,zZ,zZ]
 by_cases hl:a.length<b.length
 ·rw[dT ((a.length:Int)<(b.length:Int))]
  exact zbG hb (by omega) b.length 0 (by omega) (fun j h=>absurd h (by omega))
 ·rw[dF ((a.length:Int)<(b.length:Int)),zkL]
  exact zbG ha (by omega) a.length 0 (by omega) (fun j h=>absurd h (by omega))
theorem zcY {α:Type} (p:α->Bool) (a:List α):∀ b:List α,yW p (a++b)=if yW p b=0 then yW p a else a.length+yW p b:=by
 intro b
 induction hn:b.length generalizing b with
 |zero=>have:=List.length_eq_zero_iff.1 hn;subst this;rw[List.append_nil,if_pos (by rfl)]
 |succ n ih=>
  rcases List.eq_nil_or_concat b with rfl|⟨b',x,rfl⟩
  ·rw[List.append_nil,if_pos (by rfl)]
  ·rw[List.concat_eq_append] at hn ⊢
   rw[←List.append_assoc,wz,wz,ih b' (by simpa using hn)]
   by_cases hp:p x=true
   ·rw[if_pos hp,if_pos hp]
   ·rw[if_neg hp,if_neg hp,if_neg (by omega),zqS]
    omega
theorem zil (u:List Int) (x:Int):zu (u++[x])=zu u++w8 x:=by simp[zu]
theorem zpW:w8 0=List.replicate 8 0:=rfl
theorem gP {w:Int} (h:zC w):w=w/256^0%256+256*(w/256^1%256)+65536*(w/256^2%256)+16777216*(w/256^3%256)+4294967296*(w/256^4%256)+1099511627776*(w/256^5%256)+281474976710656*(w/256^6%256)+72057594037927936*(w/256^7%256):=by
 obtain ⟨h1,h2⟩:=h
 simp only[show (256:Int)^0=1 from rfl,show (256:Int)^1=256 from rfl,show (256:Int)^2=65536 from rfl,show (256:Int)^3=16777216 from rfl,show (256:Int)^4=4294967296 from rfl,show (256:Int)^5=1099511627776 from rfl,show (256:Int)^6=281474976710656 from rfl,show (256:Int)^7=72057594037927936 from rfl]
 omega
theorem JE (w:Int):w8 w=[w/256^0%256,w/256^1%256,w/256^2%256,w/256^3%256,w/256^4%256,w/256^5%256,w/256^6%256,w/256^7%256]:=rfl
theorem zpT {a b:Int} (ha:zC a) (hb:zC b) (h:w8 a=w8 b):a=b:=by
 rw[JE,JE] at h
 simp only[List.cons.injEq,and_true] at h
 obtain ⟨e0,e1,e2,e3,e4,e5,e6,e7⟩:=h
 rw[gP ha,gP hb,e0,e1,e2,e3,e4,e5,e6,e7]
theorem zpU {x:Int} (hx:zC x):(x=0->yW (·==0) (w8 x)=0)/\(x≠0->1<=yW (·==0) (w8 x)/\yW (·==0) (w8 x)<=8):=by
 refine ⟨fun h=>by subst h;rfl,fun h=>⟨?_,?_⟩⟩
 ·by_cases h0:yW (·==0) (w8 x)=0
  ·exfalso
   apply h
   have hall:∀ y∈w8 x,y=0:=by
    have key:∀ (l:List Int),yW (·==0) l=0->∀ y∈l,y=0:=by
     intro l
     induction hn:l.length generalizing l with
     |zero=>have:=List.length_eq_zero_iff.1 hn;subst this;intro _ y hy;cases hy
     |succ n ih=>
      rcases List.eq_nil_or_concat l with rfl|⟨l',z,rfl⟩
      ·intro _ y hy;cases hy
      ·rw[List.concat_eq_append] at hn ⊢
       rw[wz]
       intro hk y hy
       split at hk
       ·rename_i hz
        rcases List.mem_append.1 hy with h1|h1
        ·exact ih l' (by simpa using hn) hk y h1
        ·rw[List.mem_singleton.1 h1];simpa using hz
       ·omega
    exact key _ h0
   rw[gP hx]
   rw[JE] at hall
   simp only[List.mem_cons,List.not_mem_nil,or_false,forall_eq_or_imp,forall_eq] at hall
   obtain ⟨e0,e1,e2,e3,e4,e5,e6,e7⟩:=hall
   rw[e0,e1,e2,e3,e4,e5,e6,e7]
   rfl
  ·omega
 ·have:=vl (·==0) (w8 x)
  rw[wu] at this
  exact this
theorem zqc:∀ (u:List Int),(∀ x∈u,zC x)->yo (zu u)=yW (·==0) u:=by
 intro u
 induction hn:u.length generalizing u with
 |zero=>have:=List.length_eq_zero_iff.1 hn;subst this;intro _;rfl
 |succ n ih=>
  rcases List.eq_nil_or_concat u with rfl|⟨u',x,rfl⟩
  ·intro _;rfl
  ·rw[List.concat_eq_append] at hn ⊢
   intro hw
   have hx:=hw x (by simp)
   have hu:=ih u' (by simpa using hn) fun y hy=>hw y (List.mem_append_left _ hy)
   obtain ⟨k1,k2⟩:=zpU hx
   unfold yo at hu ⊢
   rw[zil,zcY,wz]
   by_cases h0:x=0
   ·rw[if_pos (k1 h0),hu,if_pos (by simpa using h0)]
   ·obtain ⟨a1,a2⟩:=k2 h0
    rw[if_neg (by omega),if_neg (by simpa using h0),yT]
    omega
theorem zat:∀ (u:List Int) (k:Nat),(zu u).take (8*k)=zu (u.take k)
 |[],k=>by simp[zu]
 |x::u,0=>by simp[zu]
 |x::u,k+1=>by
  have e:zu (x::u)=w8 x++zu u:=rfl
  rw[e,List.take_append,wu,List.take_of_length_le (by rw[wu];omega),show 8*(k+1)-8=8*k by omega,zat u k,List.take_succ_cons]
  rfl
theorem gJ {u:List Int} (h:∀ x∈u,zC x):(zu u).take (8*yo (zu u))=zu (xa u):=by
 rw[zqc u h,zat]
 rfl
theorem QM:∀ {a b:List Int},(∀ x∈a,zC x)->(∀ x∈b,zC x)->zu a=zu b->a=b
 |[],[],_,_,_=>rfl
 |[],y::b,_,_,h=>by have:=congrArg List.length h;rw[yT,yT] at this;simp at this
 |x::a,[],_,_,h=>by have:=congrArg List.length h;rw[yT,yT] at this;simp at this
 |x::a,y::b,ha,hb,h=>by
  have e:w8 x++zu a=w8 y++zu b:=h
  obtain ⟨e1,e2⟩:=List.append_inj e (by rw[wu,wu])
  rw[zpT (ha x zqJ) (hb y zqJ) e1,QM (fun z hz=>ha z (zqI _ hz)) (fun z hz=>hb z (zqI _ hz)) e2]
theorem Qf {x:Nd} (h:VN x) (hk:x.kind=0):x=nd0:=by
 cases h with
 |mk v1 v2 v3=>
  rename_i k e n d ks
  have hk':k=0:=hk
  rcases v3 with ⟨a1,a2,a3,a4,a5⟩|⟨a1,_⟩|⟨a1,_⟩
  ·rw[a1,a2,a3,List.length_eq_zero_iff.1 a4,List.length_eq_zero_iff.1 a5];rfl
  ·omega
  ·omega
theorem qQ:∀ (l:List Nd),(∀ x∈l,VN x)->∃ n,l=l.take (yk l)++List.replicate n nd0:=by
 intro l
 induction hn:l.length generalizing l with
 |zero=>have:=List.length_eq_zero_iff.1 hn;subst this;exact fun _=>⟨0,rfl⟩
 |succ n ih=>
  rcases List.eq_nil_or_concat l with rfl|⟨l',x,rfl⟩
  ·exact fun _=>⟨0,rfl⟩
  ·rw[List.concat_eq_append] at hn ⊢
   intro hv
   obtain ⟨m,hm⟩:=ih l' (by simpa using hn) fun y hy=>hv y (List.mem_append_left _ hy)
   have hle:=vl (fun x:Nd=>x.kind==0) l'
   unfold yk at hm ⊢
   rw[wz]
   by_cases h:x.kind=0
   ·rw[if_pos (by simpa using h),List.take_append_of_le_length hle]
    refine ⟨m+1,?_⟩
    rw[List.replicate_succ',←List.append_assoc,←hm,Qf (hv x (by simp)) h]
   ·rw[if_neg (by simpa using h),List.take_of_length_le (by simp)]
    exact ⟨0,by simp⟩
theorem zcE (c:List Nd) (n i:Nat):(c++List.replicate n nd0).getD i nd0=c.getD i nd0:=by
 simp only[List.getD_eq_getElem?_getD]
 rcases Nat.lt_or_ge i c.length with h|h
 ·rw[List.getElem?_append_left h]
 ·rw[List.getElem?_append_right h,List.getElem?_eq_none h,List.getElem?_replicate]
  split<;>rfl
theorem uZ (c:List Nd):∀ n,(c++List.replicate n nd0).take (yk (c++List.replicate n nd0))=c.take (yk c)
 |0=>by simp
 |n+1=>by
  have ih:=uZ c n
  have hle:=vl (fun x:Nd=>x.kind==0) (c++List.replicate n nd0)
  unfold yk at ih ⊢
  rw[List.replicate_succ',←List.append_assoc,wz,if_pos (by rfl),List.take_append_of_le_length hle,ih]
theorem zbB {a b:List Nd} (hl:a.length<=b.length) (h:∀ i,i<b.length->a.getD i nd0=b.getD i nd0):a.take (yk a)=b.take (yk b):=by
 have:b=a++List.replicate (b.length-a.length) nd0:=by
  apply List.ext_getElem
  ·simp;omega
  ·intro i h1 h2
   have:=h i h1
   simp only[List.getD_eq_getElem?_getD,zqF h1,Option.getD_some] at this
   rw[←this]
   rcases Nat.lt_or_ge i a.length with h3|h3
   ·rw[List.getElem_append_left h3,zqF h3];rfl
   ·rw[List.getElem_append_right h3,List.getElem?_eq_none h3];simp
 rw[this,uZ]
theorem zkg {a b:List Nd} (ha:∀ x∈a,VN x) (hb:∀ x∈b,VN x) {q:Nat} (hq:a.length<=q) (hq':b.length<=q):a.take (yk a)=b.take (yk b)↔∀ i,i<q->a.getD i nd0=b.getD i nd0:=by
 constructor
 ·intro h i _
  obtain ⟨n,hn⟩:=qQ a ha
  obtain ⟨m,hm⟩:=qQ b hb
  rw[hn,hm,zcE,zcE,h]
 ·intro h
  rcases Nat.le_total a.length b.length with hl|hl
  ·exact zbB hl fun i hi=>h i (by omega)
  ·exact (zbB hl fun i hi=>(h i (by omega)).symm).symm
theorem zc5 {G:Int->Nat->Nd×Int×Int}:∀ c i m acc,(z6 G c i m acc).2.2=0->∃ l',(z6 G c i m acc).1=acc++l'/\l'.length=c/\∀ (j:Nat) (h:j<l'.length),∃ m1,(G m1 (i+j)).2.2=0/\(G m1 (i+j)).1=l'[j]:=by
 intro c
 induction c with
 |zero=>intro i m acc _;exact ⟨[],by simp[z6],rfl,fun j h=>absurd h (by simp)⟩
 |succ c ih=>
  intro i m acc hz
  by_cases h0:(G m i).2.2=0
  ·rw[ZY h0] at hz ⊢
   obtain ⟨l',e1,e2,e3⟩:=ih _ _ _ hz
   refine ⟨(G m i).1::l',by rw[e1,List.append_assoc];rfl,by simp[e2],fun j h=>?_⟩
   cases j with
   |zero=>exact ⟨m,h0,rfl⟩
   |succ j=>
    obtain ⟨m1,f1,f2⟩:=e3 j (by simpa using h)
    refine ⟨m1,?_,?_⟩
    ·rw[show i+(j+1)=i+1+j by omega];exact f1
    ·rw[show i+(j+1)=i+1+j by omega];exact f2
  ·rw[ZX h0] at hz
   exact absurd hz h0
def wC (b:List Int):Int:=b.getD 0 0+256*b.getD 1 0+65536*b.getD 2 0+16777216*b.getD 3 0+4294967296*b.getD 4 0+1099511627776*b.getD 5 0+281474976710656*b.getD 6 0+72057594037927936*b.getD 7 0
def zW:Nat->List Int->List Int
 |0,_=>[]
 |n+1,b=>wC b::zW n (b.drop 8)
@[simp] theorem yZ:∀ (n:Nat) (b:List Int),(zW n b).length=n
 |0,_=>rfl
 |n+1,b=>by simp[zW,yZ n]
theorem xh {b:List Int} (hb:∀ x∈b,zF x) (i:Nat):0<=b.getD i 0/\b.getD i 0<=255:=by
 rw[List.getD_eq_getElem?_getD]
 by_cases h:i<b.length
 ·rw[zqF h];exact hb _ (List.getElem_mem h)
 ·rw[List.getElem?_eq_none (by omega)];exact ⟨by simp,by simp⟩
theorem zpY {b:List Int} (hb:∀ x∈b,zF x):zC (wC b):=by
 have h0:=xh hb 0
 have h1:=xh hb 1
 have h2:=xh hb 2
 have h3:=xh hb 3
 have h4:=xh hb 4
 have h5:=xh hb 5
 have h6:=xh hb 6
 have h7:=xh hb 7
 unfold wC zC
 omega
theorem Y1:∀ (n:Nat) {b:List Int},(∀ x∈b,zF x)->∀ w∈zW n b,zC w
 |0,b,hb,w,hw=>by cases hw
 |n+1,b,hb,w,hw=>by
  rw[zW] at hw
  rcases List.mem_cons.1 hw with rfl|hw
  ·exact zpY hb
  ·exact Y1 n (fun x hx=>hb x (List.mem_of_mem_drop hx)) w hw
theorem take8:∀ b:List Int,[b.getD 0 0,b.getD 1 0,b.getD 2 0,b.getD 3 0,b.getD 4 0,b.getD 5 0,b.getD 6 0,b.getD 7 0]=b.take 8++List.replicate (8-b.length) 0
 |[]=>rfl
 |[_]=>rfl
 |[_,_]=>rfl
 |[_,_,_]=>rfl
 |[_,_,_,_]=>rfl
 |[_,_,_,_,_]=>rfl
 |[_,_,_,_,_,_]=>rfl
 |[_,_,_,_,_,_,_]=>rfl
 |_::_::_::_::_::_::_::_::r=>by
  rw[show 8-(_::_::_::_::_::_::_::_::r:List Int).length=0 by simp]
  simp
theorem zpV {b:List Int} (hb:∀ x∈b,zF x):w8 (wC b)=b.take 8++List.replicate (8-b.length) 0:=by
 rw[←take8,JE]
 have h0:=xh hb 0
 have h1:=xh hb 1
 have h2:=xh hb 2
 have h3:=xh hb 3
 have h4:=xh hb 4
 have h5:=xh hb 5
 have h6:=xh hb 6
 have h7:=xh hb 7
 unfold wC
 simp only[Int.reducePow,Int.pow_zero,Int.pow_succ,Int.reduceMul,List.cons.injEq,and_true]
 refine ⟨?_,?_,?_,?_,?_,?_,?_,?_⟩<;>omega
theorem W2:∀ (n:Nat) {b:List Int},(∀ x∈b,zF x)->b.length<=8*n->zu (zW n b)=b++List.replicate (8*n-b.length) 0
 |0,b,hb,hl=>by
  have:b=[]:=List.length_eq_zero_iff.1 (by omega)
  subst this
  rfl
 |n+1,b,hb,hl=>by
  have e:zu (zW (n+1) b)=w8 (wC b)++zu (zW n (b.drop 8)):=rfl
  rw[e,zpV hb,W2 n (fun x hx=>hb x (List.mem_of_mem_drop hx)) (by rw[List.length_drop];omega),List.length_drop]
  by_cases h:b.length<=8
  ·rw[List.take_of_length_le h,List.drop_eq_nil_of_le h,List.nil_append,List.append_assoc,List.replicate_append_replicate]
   congr 2
   omega
  ·rw[show 8-b.length=0 by omega,List.replicate_zero,List.append_nil,←List.append_assoc,List.take_append_drop]
   congr 2
   omega
def yg (off:Int) (d q:Nat):Int:=off%1073741824*4+d*4294967296+q*281474976710656
def yE (off e c:Int):Int:=off%1073741824*4+1+e*4294967296+c*34359738368
theorem Ko {off:Int} {d q:Nat} (ho:-536870912<=off/\off<=536870911) (hd:d<=65535) (hq:q<=65535):zk (yg off d q)=(0,off,(d:Int),(q:Int),0,0,false,0,0,0)/\zC (yg off d q)/\yg off d q%4=0:=by
 have hm:=Int.emod_nonneg off (show (1073741824:Int)≠0 by decide)
 have hl:=Int.emod_lt_of_pos off (show (0:Int)<1073741824 by decide)
 have h4:yg off d q%4=0:=by unfold yg;omega
 refine ⟨?_,⟨by unfold yg;omega,by unfold yg;omega⟩,h4⟩
 unfold zk
 rw[if_pos h4]
 have e1:yg off d q/4%1073741824=off%1073741824:=by unfold yg;omega
 have e2:yg off d q/4294967296%65536=d:=by unfold yg;omega
 have e3:yg off d q/281474976710656%65536=q:=by unfold yg;omega
 rw[e1,e2,e3]
 have e4:ve (off%1073741824)=off:=by unfold ve;split<;>omega
 rw[e4]
theorem Kn {off e c:Int} (ho:-536870912<=off/\off<=536870911) (he:0<=e/\e<=7) (hc:0<=c/\c<=536870911):zk (yE off e c)=(1,off,0,0,e,c,false,0,0,0)/\zC (yE off e c)/\yE off e c%4=1:=by
 have hm:=Int.emod_nonneg off (show (1073741824:Int)≠0 by decide)
 have hl:=Int.emod_lt_of_pos off (show (0:Int)<1073741824 by decide)
 have h4:yE off e c%4=1:=by unfold yE;omega
 refine ⟨?_,⟨by unfold yE;omega,by unfold yE;omega⟩,h4⟩
 unfold zk
 rw[if_neg (by omega),if_pos h4]
 have e1:yE off e c/4%1073741824=off%1073741824:=by unfold yE;omega
 have e2:yE off e c/4294967296%8=e:=by unfold yE;omega
 have e3:yE off e c/34359738368%536870912=c:=by unfold yE;omega
 rw[e1,e2,e3]
 have e4:ve (off%1073741824)=off:=by unfold ve;split<;>omega
 rw[e4]
def Yt (x:Nd):Nat:=zm x.kids+zo x.kids
def yN (x:Nd) (off:Int):Int :=
 if x.kind=0 then 0 else if x.kind=1 then (if x.data.length/8=0/\x.kids.length=0 then yg (-1) 0 0 else yg off (x.data.length/8) x.kids.length)
 else if x.elem=7 then yE off 7 (x.n*(Yt x:Nat)) else yE off x.elem x.n
def yJ (B:Nd->List Int):Nat->Nat->List Nd->List Int
 |_,_,[]=>[]
 |i,pos,t::r=>yN t ((pos:Int)-i-1)::yJ B (i+1) (pos+(B t).length) r
def ZQ (B:Nd->List Int) (ts:List Nd):Nat:=(ts.flatMap B).length
def xO (B:Nd->List Int) (a b:Nat):Nat->Nat->List Nd->List Int
 |_,_,[]=>[]
 |i,pos,k::r=>(zW a k.data++(yJ B (i+a) pos k.kids++List.replicate (b-k.kids.length) 0))++xO B a b (i+(a+b)) (pos+ZQ B k.kids) r
def xU (B:Nd->List Int) (x:Nd):List Int :=
 if x.kind=1 then zW (x.data.length/8) x.data++yJ B (x.data.length/8) (x.data.length/8+x.kids.length) x.kids
 else if x.elem=7 then yg x.n (zm x.kids) (zo x.kids)::xO B (zm x.kids) (zo x.kids) 1 (1+x.kids.length*Yt x) x.kids
 else if x.elem=6 then yJ B 0 x.kids.length x.kids
 else zW (zn x.elem x.n).toNat x.data
def body:Nat->Nd->List Int
 |0,_=>[]
 |D+1,x=>if x.kind=0 then [] else xU (body D) x++(yi x).flatMap (body D)
def xw (D:Nat) (x:Nd):List Int:=yN x 0::body D x
@[simp] theorem vH (B:Nd->List Int):∀ (i pos:Nat) (l:List Nd),(yJ B i pos l).length=l.length
 |_,_,[]=>rfl
 |i,pos,t::r=>by simp[yJ,vH B]
theorem WX (B:Nd->List Int) (a b:Nat):∀ (i pos:Nat) (l:List Nd),(∀ k∈l,k.kids.length<=b)->(xO B a b i pos l).length=l.length*(a+b)
 |_,_,[],_=>by simp[xO]
 |i,pos,k::r,h=>by
  have h1:=h k zqJ
  have h2:=WX B a b (i+(a+b)) (pos+ZQ B k.kids) r fun x hx=>h x (zqI _ hx)
  simp only[xO,zqS,yZ,vH,List.length_replicate,h2,zqT]
  rw[Nat.add_mul]
  omega
theorem Yw {l:List Nd} {x:Nd} (h:x∈l):x.kids.length<=zo l:=by
 unfold zo
 induction l with
 |nil=>cases h
 |cons y l ih=>
  rw[List.foldr_cons]
  rcases List.mem_cons.1 h with rfl|h
  ·omega
  ·have:=ih h;omega
theorem uH (B:Nd->List Int) {x:Nd} (hv:VN x) (h0:x.kind≠0):((xU B x).length:Int)=yG x:=by
 obtain ⟨hs,_⟩:=wB hv
 unfold xU yG
 rw[if_neg h0]
 rcases hs with hs|hs|hs
 ·exact absurd hs.1 h0
 ·rw[if_pos hs.1,if_pos hs.1,zqS,yZ,vH]
 ·have hk1:¬x.kind=1:=by omega
  rw[if_neg hk1,if_neg hk1]
  by_cases h7:x.elem=7
  ·rw[if_pos h7,if_pos h7,zqT,WX _ _ _ _ _ _ (fun k hk=>Yw hk),←(hs.2.2.2.1 (by omega)).2]
   push_cast
   omega
  ·rw[if_neg h7,if_neg h7]
   by_cases h6:x.elem=6
   ·rw[if_pos h6,vH,h6]
    have:=(hs.2.2.2.1 (by omega)).2
    unfold zn bitsOf
    rw[if_neg (by decide)]
    simp
    omega
   ·rw[if_neg h6,yZ]
    have:=(Zy (e:=x.elem) hs.2.1).1
    omega
theorem zeO (B:Nd->List Int) (S:Nd->Int):∀ (l:List Nd),(∀ t∈l,((B t).length:Int)=S t)->((l.flatMap B).length:Int)=zt (l.map S)
 |[],_=>rfl
 |t::l,h=>by
  rw[List.flatMap_cons,zqS,List.map_cons,wI,←h t zqJ,←zeO B S l fun x hx=>h x (zqI _ hx)]
  push_cast
  rfl
theorem Z6 {x:Nd} (hv:VN x):∀ t∈yi x,VN t:=by
 obtain ⟨_,hk⟩:=wB hv
 intro t ht
 unfold yi at ht
 split at ht
 ·obtain ⟨k,hk1,hk2⟩:=List.mem_flatMap.1 ht
  exact (wB (hk k hk1)).2 t hk2
 ·exact hk t ht
theorem uI {x:Nd} (h:x.kind=0):yG x=0:=by unfold yG;rw[if_pos h]
theorem zpm {x:Nd} (hv:VN x) (h:x.kind=0):yi x=[]:=by rw[Qf hv h];rfl
theorem Wj {x:Nd} (hv:VN x) (h:x.kind=0):∀ D,zM D x=0
 |0=>uI h
 |D+1=>by rw[zM,zpm hv h,uI h];rfl
theorem zam:∀ (D:Nat) {x:Nd},VN x->Dp D x->((body D x).length:Int)=zM D x
 |0,x,hv,hd=>by
  have:x.kind=0:=hd
  rw[Wj hv this]
  rfl
 |D+1,x,hv,hd=>by
  rw[body]
  by_cases h0:x.kind=0
  ·rw[if_pos h0,Wj hv h0];rfl
  ·have hd':=hd.resolve_left h0
   rw[if_neg h0,zM,zqS,←uH (body D) hv h0,←zeO (body D) (zM D) (yi x) fun t ht=>zam D (Z6 hv t ht) (hd'.2 t ht)]
   push_cast
   rfl
def At (W:List Int) (p:Nat) (L:List Int):Prop:=∃ A C,W=A++(L++C)/\A.length=p
theorem At.app {W L M:List Int} {p:Nat} (h:At W p (L++M)):At W p L/\At W (p+L.length) M:=by
 obtain ⟨A,C,rfl,rfl⟩:=h
 exact ⟨⟨A,M++C,by simp,rfl⟩,⟨A++L,C,by simp,by simp⟩⟩
theorem At.len {W L:List Int} {p:Nat} (h:At W p L):p+L.length<=W.length:=by
 obtain ⟨A,C,rfl,rfl⟩:=h
 simp
theorem Yl (W:List Int):yu [W] 0=W:=rfl
theorem At.inB {W L:List Int} {p:Nat} (h:At W p L) {n:Int} (hn:n=L.length):inB [W] 0 p n:=by
 have:=h.len
 refine ⟨Int.le_refl _,by simp,by omega,by omega,?_⟩
 rw[Yl]
 omega
theorem At.cutB {W L:List Int} {p:Nat} (h:At W p L) {n:Int} (hn:n=L.length):cutB [W] 0 p n=L:=by
 unfold E.cutB
 rw[if_pos (h.inB hn)]
 obtain ⟨A,C,rfl,rfl⟩:=h
 unfold cut
 rw[Yl,hn]
 simp
theorem At.cons {W L:List Int} {x:Int} {p:Nat} (h:At W p (x::L)):wd [W] 0 p=x/\E.inB [W] 0 p 1/\At W (p+1) L:=by
 have h1:At W p ([x]++L):=h
 obtain ⟨a1,a2⟩:=h1.app
 refine ⟨?_,a1.inB rfl,a2⟩
 obtain ⟨A,C,rfl,rfl⟩:=h
 unfold wd rd
 rw[Yl,List.getD_eq_getElem?_getD]
 simp
theorem At.head {W L:List Int} {x:Int} {p:Nat} (h:At W p (x::L)):At W p [x]:=(show At W p ([x]++L) from h).app.1
theorem KG {W:List Int} {x:Int} {a:Nat} (h:At W a [x]) (h4:x%4≠2):ya [W] 0 a=(x,(0:Int),(a:Int)+1,(0:Int)):=by
 obtain ⟨h1,h2,_⟩:=h.cons
 unfold ya
 rw[if_pos h2,h1,if_neg h4]
theorem zlU (n:Nat):yW (fun x:Int=>x==0) (List.replicate n 0)=0:=by
 unfold yW
 rw[List.reverse_replicate]
 induction n with
 |zero=>rfl
 |succ n ih=>rw[List.replicate_succ,List.dropWhile_cons];simp
theorem zqe (d:List Int) (n:Nat):yo (d++List.replicate n 0)=yo d:=by
 unfold yo
 rw[zcY,if_pos (zlU n)]
theorem zpz {d:List Int} {ks ys:List Nd} (h8:8*yo d=d.length) (hq:yk ks=ks.length) (hb:∀ x∈d,zF x) {a:Nat} (ha:d.length<=8*a) (z:Nat) (hy:ys.map zg=ks):zg (.mk 1 0 0 (zu (zW a d)) (ys++List.replicate z nd0))=.mk 1 0 0 d ks:=by
 have e1:wK (ys++List.replicate z nd0)=ks++List.replicate z nd0:=by
  rw[yY,List.map_append,hy,List.map_replicate,YZ]
 rw[zg,if_pos rfl,W2 a hb ha,zqe,h8,List.take_left,←Ja,e1,uZ,hq,List.take_length]
def vt (x:Nd):Int:=yG x+(if x.kind=2/\x.elem=7/\Yt x=0 then x.n else 0)
def yz:Nat->Nd->Int
 |0,_=>0
 |D+1,x=>if x.kind=0 then 0 else vt x+zt ((yi x).map (yz D))
theorem zmN {x:Nd} (hv:VN x):0<=vt x:=by
 have:=Xj hv
 obtain ⟨hs,_⟩:=wB hv
 unfold vt
 split
 ·rename_i h
  rcases hs with hs|hs|hs
  ·omega
  ·omega
  ·omega
 ·omega
theorem XV:∀ (D:Nat) {x:Nd},VN x->0<=yz D x
 |0,x,_=>Int.le_refl _
 |D+1,x,hv=>by
  rw[yz]
  split
  ·exact Int.le_refl _
  ·have:=zmN hv
   have:=wJ (l:=(yi x).map (yz D)) fun y hy=>by
    obtain ⟨t,ht,rfl⟩:=List.mem_map.1 hy
    exact XV D (Z6 hv t ht)
   omega
structure Ok (D:Nat) (t:Nd):Prop where
 vn:VN t
 tr:TrN t
 gd:yw t
 dp:Dp D t
section
variable {W:List Int} {F:Int->Int->Int->Nd×Int×Int} {B:Nd->List Int} {c:Nd->Int} {Q:Nd->Prop}
structure Rt (W:List Int) (F:Int->Int->Int->Nd×Int×Int) (B:Nd->List Int) (c:Nd->Int) (Q:Nd->Prop):Prop where
 one:∀ (t:Nd) (a q:Nat) (m:Int),Q t->At W q (B t)->At W a [yN t ((q:Int)-a-1)]->c t<=m->∃ y,F m 0 a=(y,m-c t,0)/\zg y=t
 null:∀ (a:Nat) (m:Int),At W a [0]->F m 0 a=(nd0,m,0)
 nn:∀ t,Q t->0<=c t
theorem V6 (R:Rt W F B c Q) {ks:List Nd} (h:∀ t∈ks,Q t):0<=zt (ks.map c):=wJ fun y hy=>by
 obtain ⟨t,ht,rfl⟩:=List.mem_map.1 hy
 exact R.nn t (h t ht)
theorem uu (R:Rt W F B c Q) (p:Nat):∀ (ks:List Nd) (i0 pos c0:Nat) (m:Int) (acc:List Nd) (G:Int->Nat->Nd×Int×Int),(∀ m (j:Nat),G m (c0+j)=F m 0 ((p+i0+j:Nat):Int))->(∀ t∈ks,Q t)->
  At W (p+i0) (yJ B i0 pos ks)->At W (p+pos) (ks.flatMap B)->zt (ks.map c)<=m->∃ ys,z6 G ks.length c0 m acc=(acc++ys,m-zt (ks.map c),0)/\ys.map zg=ks
 |[],i0,pos,c0,m,acc,G,hG,hQ,h1,h2,hm=>⟨[],by simp[z6,vf],rfl⟩
 |t::r,i0,pos,c0,m,acc,G,hG,hQ,h1,h2,hm=>by
  rw[yJ] at h1
  obtain ⟨_,_,h1t⟩:=h1.cons
  rw[List.flatMap_cons] at h2
  obtain ⟨h2h,h2t⟩:=h2.app
  rw[List.map_cons,wI] at hm
  have hr:=V6 R fun x hx=>hQ x (zqI _ hx)
  have ht:=R.nn t (hQ t zqJ)
  obtain ⟨y,hy,hty⟩:=R.one t (p+i0) (p+pos) m (hQ t zqJ) h2h (by
   rw[show ((p+pos:Nat):Int)-((p+i0:Nat):Int)-1=(pos:Int)-i0-1 by omega]
   exact h1.head) (by omega)
  have e:G m c0=(y,m-c t,0):=by
   have:=hG m 0
   rw[Nat.add_zero,Nat.add_zero] at this
   rw[this,hy]
  obtain ⟨ys,k1,k2⟩:=uu R p r (i0+1) (pos+(B t).length) (c0+1) (m-c t) (acc++[y]) G (fun m j=>by
   rw[Nat.add_assoc,Nat.add_comm 1 j,hG m (j+1)]
   congr 2
   omega) (fun x hx=>hQ x (zqI _ hx)) (by rw[←Nat.add_assoc];exact h1t) (by rw[←Nat.add_assoc];exact h2t) (by omega)
  refine ⟨y::ys,?_,by rw[List.map_cons,hty,k2]⟩
  rw[zqT,z6,e]
  dsimp only
  rw[if_pos rfl,k1,List.map_cons,wI,List.append_assoc,List.singleton_append,show m-c t-zt (r.map c)=m-(c t+zt (r.map c)) by omega]
theorem zc6 (R:Rt W F B c Q) (p:Nat):∀ (z i0 c0:Nat) (m:Int) (acc:List Nd) (G:Int->Nat->Nd×Int×Int),(∀ m (j:Nat),G m (c0+j)=F m 0 ((p+i0+j:Nat):Int))->At W (p+i0) (List.replicate z 0)->z6 G z c0 m acc=(acc++List.replicate z nd0,m,0)
 |0,i0,c0,m,acc,G,hG,h1=>by simp[z6]
 |z+1,i0,c0,m,acc,G,hG,h1=>by
  rw[List.replicate_succ] at h1
  obtain ⟨_,_,h1t⟩:=h1.cons
  have e:G m c0=(nd0,m,0):=by
   have:=hG m 0
   rw[Nat.add_zero,Nat.add_zero] at this
   rw[this,R.null _ _ h1.head]
  rw[z6,e]
  dsimp only
  rw[if_pos rfl,zc6 R p z (i0+1) (c0+1) m _ G (fun m j=>by
   rw[Nat.add_assoc,Nat.add_comm 1 j,hG m (j+1)]
   congr 2
   omega) (by rw[←Nat.add_assoc];exact h1t),List.replicate_succ,List.append_assoc,List.singleton_append]
theorem zcZ {G:Int->Nat->Nd×Int×Int}:∀ (c1 c2 i:Nat) (m m':Int) (acc l:List Nd),z6 G c1 i m acc=(l,m',0)->z6 G (c1+c2) i m acc=z6 G c2 (i+c1) m' l
 |0,c2,i,m,m',acc,l,h=>by
  rw[z6] at h
  cases h
  rw[Nat.zero_add,Nat.add_zero]
 |c1+1,c2,i,m,m',acc,l,h=>by
  rw[z6] at h
  rw[show c1+1+c2=(c1+c2)+1 by omega,z6]
  split at h
  ·rename_i h0
   rw[if_pos h0,zcZ c1 c2 (i+1) _ m' _ l h,show i+1+c1=i+(c1+1) by omega]
  ·rename_i h0
   have:(G m i).2.2=0:=by injection h with _ h;injection h
   exact absurd this h0
theorem gB (R:Rt W F B c Q) (p:Nat) {d:List Int} {ks:List Nd} (h8:8*yo d=d.length) (hq:yk ks=ks.length) (hb:∀ x∈d,zF x) {a z i0 pos:Nat} (ha:d.length<=8*a) (hQ:∀ t∈ks,Q t) {m:Int}
  (h1:At W (p+i0) (zW a d++(yJ B (i0+a) pos ks++List.replicate z 0))) (h2:At W (p+pos) (ks.flatMap B)) (hm:zt (ks.map c)<=m) {o:Ob} (o1:o.seg=0) (o2:o.at_=((p+i0:Nat):Int)) (o3:o.data=a) (o4:o.ptrs=((ks.length+z:Nat):Int)) :
  ∃ y,zV F [W] m o=(y,m-zt (ks.map c),0)/\zg y=.mk 1 0 0 d ks:=by
 obtain ⟨hd,hp⟩:=h1.app
 rw[yZ] at hp
 obtain ⟨hp1,hp2⟩:=hp.app
 rw[vH] at hp2
 have hG:∀ m (j:Nat),(fun m (i:Nat)=>F m o.seg (o.at_+o.data+i)) m (0+j)=F m 0 ((p+(i0+a)+j:Nat):Int):=fun m j=>by
  dsimp only
  rw[o1,o2,o3]
  congr 1
  omega
 obtain ⟨ys,k1,k2⟩:=uu R p ks (i0+a) pos 0 m [] (fun m (i:Nat)=>F m o.seg (o.at_+o.data+i)) hG hQ (by rw[←Nat.add_assoc];exact hp1) h2 hm
 have k3:=zcZ _ z _ _ _ _ _ k1
 rw[zc6 R p z (i0+a+ks.length) (0+ks.length) _ _ (fun m (i:Nat)=>F m o.seg (o.at_+o.data+i)) (fun m j=>by
  refine Eq.trans ?_ ((hG m (ks.length+j)).trans (by congr 2;omega))
  rw[Nat.add_assoc 0]) (by rw[show p+(i0+a+ks.length)=p+i0+a+ks.length by omega];exact hp2)] at k3
 refine ⟨_,?_,zpz h8 hq hb ha z k2⟩
 unfold zV
 rw[o4,zqK,k3]
 unfold wL
 dsimp only
 rw[if_pos rfl,o1,o2,o3,hd.cutB (by rw[yZ]),List.nil_append]
theorem zbT (R:Rt W F B c Q) (p a b:Nat):∀ (ks:List Nd) (i0 pos c0:Nat) (m:Int) (acc:List Nd) (G:Int->Nat->Nd×Int×Int),(∀ m (j:Nat),G m (c0+j)=zV F [W] m ⟨1,0,((p+i0+j*(a+b):Nat):Int),a,b,0,0,0⟩)->
  (∀ k∈ks,(∃ d q,k=.mk 1 0 0 d q/\8*yo d=d.length/\yk q=q.length/\(∀ x∈d,zF x)/\d.length<=8*a/\q.length<=b)/\∀ t∈k.kids,Q t)->
  At W (p+i0) (xO B a b i0 pos ks)->At W (p+pos) (ks.flatMap fun k=>k.kids.flatMap B)->zt (ks.map fun k=>zt (k.kids.map c))<=m->∃ ys,z6 G ks.length c0 m acc=(acc++ys,m-zt (ks.map fun k=>zt (k.kids.map c)),0)/\ys.map zg=ks
 |[],i0,pos,c0,m,acc,G,hG,hQ,h1,h2,hm=>⟨[],by simp[z6,vf],rfl⟩
 |k::r,i0,pos,c0,m,acc,G,hG,hQ,h1,h2,hm=>by
  rw[xO] at h1
  obtain ⟨h1h,h1t⟩:=h1.app
  rw[List.flatMap_cons] at h2
  obtain ⟨h2h,h2t⟩:=h2.app
  rw[List.map_cons,wI] at hm
  obtain ⟨⟨d,q,rfl,e8,eq,eb,ea,el⟩,hQk⟩:=hQ k zqJ
  have hr:0<=zt (r.map fun k=>zt (k.kids.map c)):=wJ fun y hy=>by
   obtain ⟨t,ht,rfl⟩:=List.mem_map.1 hy
   exact V6 R (hQ t (zqI _ ht)).2
  obtain ⟨y,k1,k2⟩:=gB R p e8 eq eb (a:=a) (z:=b-q.length) (i0:=i0) (pos:=pos) ea hQk (m:=m) h1h h2h (by
   have:zt (q.map c)+zt (r.map fun k=>zt (k.kids.map c))<=m:=hm
   omega) (o:=⟨1,0,((p+i0+0*(a+b):Nat):Int),a,b,0,0,0⟩) rfl (by show ((p+i0+0*(a+b):Nat):Int)=_;rw[Nat.zero_mul,Nat.add_zero]) rfl (by show (b:Int)=_;congr 1;omega)
  have e:G m c0=(y,m-zt (q.map c),0):=by
   have:=hG m 0
   rw[Nat.add_zero] at this
   rw[this,k1]
  have hlen:(zW a (Nd.mk 1 0 0 d q).data++(yJ B (i0+a) pos (Nd.mk 1 0 0 d q).kids++List.replicate (b-(Nd.mk 1 0 0 d q).kids.length) 0)).length=a+b:=by
   rw[zqS,zqS,yZ,vH,List.length_replicate]
   show a+(q.length+(b-q.length))=_
   omega
  rw[hlen] at h1t
  obtain ⟨ys,k3,k4⟩:=zbT R p a b r (i0+(a+b)) (pos+ZQ B q) (c0+1) (m-zt (q.map c)) (acc++[y]) G (fun m j=>by
   rw[Nat.add_assoc,Nat.add_comm 1 j,hG m (j+1)]
   congr 3
   rw[Nat.add_mul,Nat.one_mul]
   omega) (fun x hx=>hQ x (zqI _ hx)) (by rw[←Nat.add_assoc];exact h1t) (by rw[←Nat.add_assoc];exact h2t) (by
   have:zt (q.map c)+zt (r.map fun k=>zt (k.kids.map c))<=m:=hm
   omega)
  refine ⟨y::ys,?_,by rw[List.map_cons,k2,k4]⟩
  rw[zqT,z6,e]
  dsimp only
  rw[if_pos rfl,k3,List.map_cons,wI,List.append_assoc,List.singleton_append]
  have:m-zt (q.map c)-zt (r.map fun k=>zt (k.kids.map c))=m-(zt ((Nd.mk 1 0 0 d q).kids.map c)+zt (r.map fun k=>zt (k.kids.map c))):=by
   show _=m-(zt (q.map c)+_)
   omega
  rw[this]
end
theorem YK {W:List Int} {w:Int} {a:Nat} (h:At W a [w]) (h4:w%4≠2) (h0:w≠0) (D:Nat) (m:Int):zR [W] (D+1) m 0 a=yQ (zR [W] D) [W] m (wU [W] 0 (a+1) (zk w)):=by
 rw[zR]
 dsimp only
 have hf:=KG h h4
 unfold yA
 rw[hf]
 dsimp only
 rw[if_pos rfl,if_neg h0,if_pos rfl,if_neg h0]
theorem XW {W:List Int} {a:Nat} (h:At W a [0]) (D:Nat) (m:Int):zR [W] D m 0 a=(nd0,m,0):=by
 have hf:=KG h (by decide)
 cases D with
 |zero=>unfold zR;rw[hf];rfl
 |succ D=>rw[zR];dsimp only;rw[hf];rfl
theorem V5 (c:Nd->Int):∀ l:List Nd,zt ((l.flatMap Nd.kids).map c)=zt (l.map fun k=>zt (k.kids.map c))
 |[]=>rfl
 |k::l=>by rw[List.flatMap_cons,List.map_append,zo9,List.map_cons,wI,V5 c l]
theorem KD (B:Nd->List Int):∀ l:List Nd,(l.flatMap Nd.kids).flatMap B=l.flatMap fun k=>k.kids.flatMap B
 |[]=>rfl
 |k::l=>by rw[List.flatMap_cons,List.flatMap_append,List.flatMap_cons,KD B l]
theorem VR {D:Nat} {x:Nd} (h:Ok (D+1) x) (h0:x.kind≠0):∀ t∈yi x,Ok D t:=by
 have hd:=h.dp.resolve_left h0
 intro t ht
 refine ⟨Z6 h.vn t ht,?_,zcG h.gd t ht,hd.2 t ht⟩
 have htr:=h.tr
 have tk:∀ {y:Nd},TrN y->∀ z∈y.kids,TrN z:=fun hy=>by
  cases hy with
  |mk t1 t2=>exact t2
 unfold yi at ht
 split at ht
 ·obtain ⟨k,hk1,hk2⟩:=List.mem_flatMap.1 ht
  exact tk (tk htr k hk1) t hk2
 ·exact tk htr t ht
theorem Wl (k e n:Int) (d:List Int) (ks:List Nd):vt (.mk k e n d ks)=yG (.mk k e n d ks)+(if k=2/\e=7/\zm ks+zo ks=0 then n else 0):=rfl
theorem Z4 {k:Nd} (hv:VN k) (ht:TrN k) (hg:yw k) (h1:k.kind=1):∃ d q,k=.mk 1 0 0 d q/\8*yo d=d.length/\yk q=q.length/\(∀ x∈d,zF x)/\d.length%8=0/\d.length<=524280/\q.length<=65535:=by
 cases hv with
 |mk v1 v2 v3=>
  rename_i k e n d ks
  have h1':k=1:=h1
  subst h1'
  rcases v3 with ⟨a1,_⟩|⟨_,a2,a3,a4,a5,a6⟩|⟨a1,_⟩
  ·omega
  ·subst a2;subst a3
   cases ht with
   |mk t1 t2=>
    rw[yw] at hg
    exact ⟨d,ks,rfl,(t1 rfl).1,(t1 rfl).2,hg.1.2.1,a4,a5,a6⟩
  ·omega
theorem zpq {e n:Int} {d:List Int} {z:Nat} (hn0:0<=n) (hl:(d.length:Int)=z5 e n):trimB e n (d++List.replicate z 0)=trimB e n d:=by
 unfold trimB
 split
 ·rename_i h
  have hn:1<=z5 e n:=by
   unfold z5 bitsOf
   rw[if_pos h.1]
   omega
  rw[List.take_append_of_le_length (by omega)]
  congr 3
  unfold rd
  rw[List.getD_eq_getElem?_getD,List.getD_eq_getElem?_getD,List.getElem?_append_left (by omega)]
 ·rw[List.take_append_of_le_length (by omega)]
theorem qm {e n:Int} (he:0<=e/\e<6) (hn:0<=n/\n<=536870911):z5 e n<=8*zn e n:=by
 have h:=YG (e:=e) hn
 unfold z5 zn
 rw[if_neg (by omega)]
 omega
theorem ziz {W:List Int} {D:Nat} (R:Rt W (zR [W] D) (body D) (yz D) (Ok D)) {a:Nat} {w:Int} (ha:At W a [w]) (m:Int) (hm:0<=m):∃ y,yQ (zR [W] D) [W] m (wA [W] 0 (a:Int) 0 0)=(y,m,0)/\zg y=.mk 1 0 0 [] []:=by
 have ha0:At W a []:=(show At W a ([]++[w]) from ha).app.1
 obtain ⟨y,k1,k2⟩:=gB R a (d:=[]) (ks:=[]) rfl rfl (fun x h=>by cases h) (a:=0) (z:=0) (i0:=0) (pos:=0) (Nat.zero_le _) (fun t h=>by cases h) (m:=m-0) ha0 ha0 (by simp[vf];omega) (o:=⟨1,0,a,0,0,0,0,0+0⟩) rfl rfl rfl rfl
 refine ⟨y,?_,k2⟩
 unfold wA yQ
 rw[if_pos (ha0.inB (n:=0+0) rfl)]
 dsimp only at k1 ⊢
 rw[if_pos rfl,if_neg (by omega),if_pos rfl]
 simp only[vf,List.map_nil] at k1
 have:zV (zR [W] D) [W] (m-(0+0)) ⟨1,0,a,0,0,0,0,0+0⟩=(y,m-0-0,0):=k1
 rw[this]
 simp
theorem ziy {W:List Int} (hW:W.length<=268435456) {D:Nat} (R:Rt W (zR [W] D) (body D) (yz D) (Ok D)) {d:List Int} {ks:List Nd} (h8:8*yo d=d.length) (hq:yk ks=ks.length) (hb:∀ x∈d,zF x) (hd8:d.length%8=0) (hd:d.length<=524280) (hk:ks.length<=65535) (hQ:∀ t∈ks,Ok D t) {p a:Nat} {m:Int}
  (h1:At W p (xU (body D) (.mk 1 0 0 d ks)++ks.flatMap (body D))) (h2:At W a [yN (.mk 1 0 0 d ks) ((p:Int)-a-1)]) (hm:((d.length/8+ks.length:Nat):Int)+zt (ks.map (yz D))<=m) :
  ∃ y,zR [W] (D+1) m 0 a=(y,m-(((d.length/8+ks.length:Nat):Int)+zt (ks.map (yz D))),0)/\zg y=.mk 1 0 0 d ks:=by
 have hp:=h1.len
 have ha:=h2.len
 have e1:yN (.mk 1 0 0 d ks) ((p:Int)-a-1)=if d.length/8=0/\ks.length=0 then yg (-1) 0 0 else yg ((p:Int)-a-1) (d.length/8) ks.length:=rfl
 have hsn:=V6 R hQ
 rw[e1] at h2
 simp only[List.length_singleton] at ha
 by_cases hz:d.length/8=0/\ks.length=0
 ·rw[if_pos hz] at h2
  obtain rfl:d=[]:=List.length_eq_zero_iff.1 (by omega)
  obtain rfl:ks=[]:=List.length_eq_zero_iff.1 hz.2
  obtain ⟨q1,q2,q3⟩:=Ko (off:=-1) (d:=0) (q:=0) (by decide) (by decide) (by decide)
  rw[YK h2 (by omega) (by decide),q1]
  unfold wU
  dsimp only
  rw[if_pos rfl,show (a:Int)+1+-1=a by omega]
  obtain ⟨y,k1,k2⟩:=ziz R h2 m (by simp[vf] at hm;omega)
  exact ⟨y,by rw[show ((0:Nat):Int)=0 from rfl,k1];simp[vf],k2⟩
 ·rw[if_neg hz] at h2
  obtain ⟨q1,q2,q3⟩:=Ko (off:=(p:Int)-a-1) (d:=d.length/8) (q:=ks.length) (by omega) (by omega) hk
  have hne:yg ((p:Int)-a-1) (d.length/8) ks.length≠0:=by
   unfold yg
   have:=Int.emod_nonneg ((p:Int)-a-1) (show (1073741824:Int)≠0 by decide)
   omega
  rw[YK h2 (by omega) hne,q1]
  unfold wU
  dsimp only
  rw[if_pos rfl,show (a:Int)+1+((p:Int)-a-1)=p by omega]
  have e2:xU (body D) (.mk 1 0 0 d ks)=zW (d.length/8) d++yJ (body D) (d.length/8) (d.length/8+ks.length) ks:=rfl
  rw[e2] at h1
  obtain ⟨h1a,h1b⟩:=h1.app
  have hlen:(zW (d.length/8) d++yJ (body D) (d.length/8) (d.length/8+ks.length) ks).length=d.length/8+ks.length:=by rw[zqS,yZ,vH]
  rw[hlen] at h1b
  have hin:=h1a.inB (n:=((d.length/8:Nat):Int)+(ks.length:Int)) (by rw[hlen];push_cast;rfl)
  obtain ⟨y,k1,k2⟩:=gB R p h8 hq hb (a:=d.length/8) (z:=0) (i0:=0) (pos:=d.length/8+ks.length) (by omega) hQ (m:=m-(((d.length/8:Nat):Int)+(ks.length:Int))) (by simpa using h1a) h1b (by push_cast at hm;omega) (o:=⟨1,0,p,((d.length/8:Nat):Int),ks.length,0,0,((d.length/8:Nat):Int)+(ks.length:Int)⟩) rfl rfl rfl (by simp)
  refine ⟨y,?_,k2⟩
  unfold wA yQ
  rw[if_pos hin]
  dsimp only at k1 ⊢
  rw[if_pos rfl,if_neg (by push_cast at hm;omega),if_pos rfl,k1]
  congr 2
  push_cast
  omega
theorem ziv {W:List Int} (hW:W.length<=268435456) {D:Nat} {e n:Int} {d:List Int} (he:0<=e/\e<6) (hn:0<=n/\n<=536870911) (hl:(d.length:Int)=z5 e n) (ht:trimB e n d=d) (hb:∀ x∈d,zF x) {p a:Nat} {m:Int}
  (h1:At W p (xU (body D) (.mk 2 e n d []))) (h2:At W a [yN (.mk 2 e n d []) ((p:Int)-a-1)]) (hm:zn e n<=m) :
  ∃ y,zR [W] (D+1) m 0 a=(y,m-zn e n,0)/\zg y=.mk 2 e n d []:=by
 have hp:=h1.len
 have ha:=h2.len
 have e1:yN (.mk 2 e n d []) ((p:Int)-a-1)=yE ((p:Int)-a-1) e n:=by
  unfold yN
  show (if (2:Int)=0 then 0 else if (2:Int)=1 then _ else if e=7 then _ else yE ((p:Int)-a-1) e n)=_
  rw[if_neg (by decide),if_neg (by decide),if_neg (by omega)]
 have e2:xU (body D) (.mk 2 e n d [])=zW (zn e n).toNat d:=by
  unfold xU
  show (if (2:Int)=1 then _ else if e=7 then _ else if e=6 then _ else zW (zn e n).toNat d)=_
  rw[if_neg (by decide),if_neg (by omega),if_neg (by omega)]
 rw[e1] at h2
 rw[e2] at h1
 have hw:=Zy (e:=e) hn
 simp only[List.length_singleton] at ha
 rw[e2,yZ] at hp
 obtain ⟨q1,q2,q3⟩:=Kn (off:=(p:Int)-a-1) (e:=e) (c:=n) (by omega) (by omega) hn
 have hne:yE ((p:Int)-a-1) e n≠0:=by omega
 rw[YK h2 (by omega) hne,q1]
 unfold wU
 dsimp only
 rw[if_neg (by decide),if_pos rfl,show (a:Int)+1+((p:Int)-a-1)=p by omega]
 have hin:=h1.inB (n:=zn e n) (by rw[yZ];omega)
 have h7:¬e=7:=by omega
 unfold xi yQ
 rw[if_neg h7,if_pos hin]
 dsimp only
 rw[if_pos rfl,if_neg (by omega),if_neg (by decide)]
 unfold xl
 dsimp only
 rw[if_pos he.2,h1.cutB (by rw[yZ];omega)]
 have hbw:=qm he hn
 refine ⟨_,rfl,?_⟩
 rw[W2 _ hb (by omega),zpq hn.1 hl,ht,zg,if_neg (by decide)]
 rfl
theorem ziw {W:List Int} (hW:W.length<=268435456) {D:Nat} (R:Rt W (zR [W] D) (body D) (yz D) (Ok D)) {n:Int} {ks:List Nd} (hn:0<=n/\n<=536870911) (hk:(ks.length:Int)=n) (hQ:∀ t∈ks,Ok D t) {p a:Nat} {m:Int}
  (h1:At W p (xU (body D) (.mk 2 6 n [] ks)++ks.flatMap (body D))) (h2:At W a [yN (.mk 2 6 n [] ks) ((p:Int)-a-1)]) (hm:zn 6 n+zt (ks.map (yz D))<=m) :
  ∃ y,zR [W] (D+1) m 0 a=(y,m-(zn 6 n+zt (ks.map (yz D))),0)/\zg y=.mk 2 6 n [] ks:=by
 have hp:=h1.len
 have ha:=h2.len
 have e1:yN (.mk 2 6 n [] ks) ((p:Int)-a-1)=yE ((p:Int)-a-1) 6 n:=rfl
 have e2:xU (body D) (.mk 2 6 n [] ks)=yJ (body D) 0 ks.length ks:=rfl
 rw[e1] at h2
 rw[e2] at h1
 have hw:zn 6 n=n:=by unfold zn bitsOf;simp;omega
 have hsn:=V6 R hQ
 simp only[List.length_singleton] at ha
 obtain ⟨q1,q2,q3⟩:=Kn (off:=(p:Int)-a-1) (e:=6) (c:=n) (by omega) (by omega) hn
 have hne:yE ((p:Int)-a-1) 6 n≠0:=by omega
 obtain ⟨h1a,h1b⟩:=h1.app
 rw[vH] at h1b
 rw[YK h2 (by omega) hne,q1]
 unfold wU
 dsimp only
 rw[if_neg (by decide),if_pos rfl,show (a:Int)+1+((p:Int)-a-1)=p by omega]
 have hin:=h1a.inB (n:=zn 6 n) (by rw[vH];omega)
 unfold xi yQ
 rw[if_neg (show ¬(6:Int)=7 by decide),if_pos hin]
 dsimp only
 rw[if_pos rfl,if_neg (by omega),if_neg (by decide)]
 unfold xl
 dsimp only
 rw[if_neg (by decide)]
 obtain ⟨ys,k1,k2⟩:=uu R p ks 0 ks.length 0 (m-zn 6 n) [] (fun m (i:Nat)=>if (6:Int)=6 then zR [W] D m 0 ((p:Int)+i) else zV (zR [W] D) [W] m (ye ⟨2,0,p,0,0,6,n,zn 6 n⟩ i)) (fun m j=>by
  rw[if_pos (show (6:Int)=6 from rfl)]
  congr 1
  omega) hQ h1a h1b (by omega)
 rw[show n.toNat=ks.length by omega,k1]
 unfold wL
 dsimp only
 rw[if_pos rfl,List.nil_append]
 refine ⟨_,by rw[show m-zn 6 n-zt (ks.map (yz D))=m-(zn 6 n+zt (ks.map (yz D))) by omega],?_⟩
 rw[zg,if_neg (by decide),yY,k2]
theorem zit {W:List Int} (hW:W.length<=268435456) {D:Nat} (R:Rt W (zR [W] D) (body D) (yz D) (Ok D)) {n:Int} {ks:List Nd} (hn:0<=n/\n<=536870911) (hk:(ks.length:Int)=n)
  (hs:∀ k∈ks,∃ d q,k=.mk 1 0 0 d q/\8*yo d=d.length/\yk q=q.length/\(∀ x∈d,zF x)/\d.length%8=0/\d.length<=524280/\q.length<=65535) (hQ:∀ t∈ks.flatMap Nd.kids,Ok D t) {p a:Nat} {m:Int}
  (h1:At W p (xU (body D) (.mk 2 7 n [] ks)++(ks.flatMap Nd.kids).flatMap (body D))) (h2:At W a [yN (.mk 2 7 n [] ks) ((p:Int)-a-1)]) (hm:vt (.mk 2 7 n [] ks)+zt ((ks.flatMap Nd.kids).map (yz D))<=m) :
  ∃ y,zR [W] (D+1) m 0 a=(y,m-(vt (.mk 2 7 n [] ks)+zt ((ks.flatMap Nd.kids).map (yz D))),0)/\zg y=.mk 2 7 n [] ks:=by
 have hp:=h1.len
 have ha:=h2.len
 have e1:yN (.mk 2 7 n [] ks) ((p:Int)-a-1)=yE ((p:Int)-a-1) 7 (n*((zm ks+zo ks:Nat):Int)):=rfl
 have e2:xU (body D) (.mk 2 7 n [] ks)=yg n (zm ks) (zo ks)::xO (body D) (zm ks) (zo ks) 1 (1+ks.length*(zm ks+zo ks)) ks:=rfl
 have e3:vt (.mk 2 7 n [] ks)=1+n*((zm ks+zo ks:Nat):Int)+(if zm ks+zo ks=0 then n else 0):=by
  show (1+n*((zm ks+zo ks:Nat):Int))+(if (2:Int)=2/\(7:Int)=7/\zm ks+zo ks=0 then n else 0)=_
  simp only[true_and]
 have hal:=WX (body D) (zm ks) (zo ks) 1 (1+ks.length*(zm ks+zo ks)) ks (fun k hk=>Yw hk)
 rw[e1] at h2
 rw[e2,List.cons_append] at h1
 rw[e2,List.cons_append,zqT,zqS,hal] at hp
 have hnu:n*((zm ks+zo ks:Nat):Int)=((ks.length*(zm ks+zo ks):Nat):Int):=by rw[←hk];push_cast;rfl
 rw[e3,hnu] at hm ⊢
 rw[hnu] at h2
 have hsn:=V6 R hQ
 have hud:zm ks<=65535:=Yu fun x hx=>by
  obtain ⟨d,q,rfl,_,_,_,_,g1,_⟩:=hs x hx
  show d.length/8<=65535
  omega
 have huq:zo ks<=65535:=Yv fun x hx=>by
  obtain ⟨d,q,rfl,_,_,_,_,_,g1⟩:=hs x hx
  exact g1
 simp only[List.length_singleton] at ha
 obtain ⟨q1,q2,q3⟩:=Kn (off:=(p:Int)-a-1) (e:=7) (c:=((ks.length*(zm ks+zo ks):Nat):Int)) (by omega) (by omega) (by omega)
 have hne:yE ((p:Int)-a-1) 7 ((ks.length*(zm ks+zo ks):Nat):Int)≠0:=by omega
 obtain ⟨t1,t2,t3⟩:=Ko (off:=n) (d:=zm ks) (q:=zo ks) (by omega) hud huq
 obtain ⟨w1,w2,w3⟩:=h1.cons
 obtain ⟨h1a,h1b⟩:=w3.app
 rw[hal] at h1b
 have hin:inB [W] 0 p (((ks.length*(zm ks+zo ks):Nat):Int)+1):=by
  have:=(show At W p ([yg n (zm ks) (zo ks)]++(xO (body D) (zm ks) (zo ks) 1 (1+ks.length*(zm ks+zo ks)) ks++(ks.flatMap Nd.kids).flatMap (body D))) from h1)
  rw[←List.append_assoc] at this
  exact this.app.1.inB (by rw[zqS,hal,List.length_singleton];push_cast;omega)
 rw[YK h2 (by omega) hne,q1]
 unfold wU
 dsimp only
 rw[if_neg (by decide),if_pos rfl,show (a:Int)+1+((p:Int)-a-1)=p by omega]
 unfold xi wn yQ
 rw[if_pos (show (7:Int)=7 from rfl),if_pos hin,w1,t1]
 dsimp only
 have hcond:(0:Int)=0/\0<=n/\n*((zm ks:Int)+(zo ks:Int))<=((ks.length*(zm ks+zo ks):Nat):Int):=⟨rfl,hn.1,by rw[show n*((zm ks:Int)+(zo ks:Int))=n*((zm ks+zo ks:Nat):Int) by push_cast;rfl,hnu];exact Int.le_refl _⟩
 rw[if_pos hcond]
 dsimp only
 have hun:((zm ks:Int)+(zo ks:Int)=0)=(zm ks+zo ks=0):=by
  apply propext
  omega
 simp only[hun]
 generalize hz:(if zm ks+zo ks=0 then n else 0)=z at hm ⊢
 have hz0:0<=z:=by subst hz;split<;>omega
 rw[if_pos trivial,if_neg (by omega),if_neg (by decide)]
 unfold xl
 dsimp only
 rw[if_neg (by decide)]
 rw[V5] at hm hsn ⊢
 rw[KD] at h1b
 obtain ⟨ys,k1,k2⟩:=zbT R p (zm ks) (zo ks) ks 1 (1+ks.length*(zm ks+zo ks)) 0 (m-(((ks.length*(zm ks+zo ks):Nat):Int)+1+z)) [] (fun m (i:Nat)=>if (7:Int)=6 then zR [W] D m 0 ((p:Int)+1+i) else zV (zR [W] D) [W] m (ye ⟨2,0,(p:Int)+1,zm ks,zo ks,7,n,((ks.length*(zm ks+zo ks):Nat):Int)+1+z⟩ i)) (fun m j=>by
  rw[if_neg (show ¬(7:Int)=6 by decide)]
  unfold ye
  congr 2
  push_cast
  rw[Int.zero_add]) (fun k hk=>by
  obtain ⟨d,q,rfl,g1,g2,g3,g4,g5,g6⟩:=hs k hk
  have hud:=JB hk
  have hup:=Yw hk
  have hud':d.length/8<=zm ks:=hud
  exact ⟨⟨d,q,rfl,g1,g2,g3,by omega,hup⟩,fun t ht=>hQ t (List.mem_flatMap.2 ⟨_,hk,ht⟩)⟩) h1a (by rw[←Nat.add_assoc];exact h1b) (by omega)
 rw[show n.toNat=ks.length by omega,k1]
 unfold wL
 dsimp only
 rw[if_pos rfl,List.nil_append]
 refine ⟨_,by congr 2;omega,?_⟩
 rw[zg,if_neg (by decide),yY,k2]
theorem zbK {W:List Int} (hW:W.length<=268435456):∀ D,Rt W (zR [W] D) (body D) (yz D) (Ok D)
 |0=>⟨fun t a q m h1 h2 h3 h4=>by
   have hk:t.kind=0:=h1.dp
   have:=Qf h1.vn hk
   subst this
   exact ⟨nd0,by rw[XW h3];show _=(nd0,m-0,_);rw[Int.sub_zero],YZ⟩,fun a m h=>XW h 0 m,fun t h=>XV 0 h.vn⟩
 |D+1=>by
  have R:=zbK hW D
  refine ⟨fun t a q m h1 h2 h3 h4=>?_,fun a m h=>XW h (D+1) m,fun t h=>XV (D+1) h.vn⟩
  by_cases h0:t.kind=0
  ·have:=Qf h1.vn h0
   subst this
   refine ⟨nd0,?_,YZ⟩
   rw[XW h3]
   show _=(nd0,m-0,_)
   rw[Int.sub_zero]
  ·have hT:=VR h1 h0
   rw[body,if_neg h0] at h2
   rw[yz,if_neg h0] at h4 ⊢
   obtain ⟨hs,hkk⟩:=wB h1.vn
   rcases hs with hs|hs|hs
   ·exact absurd hs.1 h0
   ·obtain ⟨d,ks,rfl,g1,g2,g3,g4,g5,g6⟩:=Z4 h1.vn h1.tr h1.gd hs.1
    have e:vt (.mk 1 0 0 d ks)=((d.length/8+ks.length:Nat):Int):=by
     rw[Wl,if_neg (fun h=>absurd h.1 (by decide)),Int.add_zero]
     rfl
    rw[e] at h4 ⊢
    exact ziy hW R g1 g2 g3 g4 g5 g6 hT h2 h3 h4
   ·cases t with
    |mk k e n d ks=>
     obtain ⟨k2,hn,he,h6,hl6⟩:=hs
     have k2':k=2:=k2
     subst k2'
     have hn':0<=n/\n<=536870911:=hn
     have he':0<=e/\e<=7:=he
     have hg:=h1.gd
     rw[yw] at hg
     by_cases e7:e=7
     ·subst e7
      obtain ⟨a1,a2⟩:=h6 (show (6:Int)<=7 by decide)
      obtain rfl:d=[]:=List.length_eq_zero_iff.1 a1
      have hst:∀ k∈ks,k.kind=1:=by
       cases h1.vn with
       |mk v1 v2 v3=>exact v2 rfl rfl
      have htr:∀ k∈ks,TrN k:=by
       cases h1.tr with
       |mk t1 t2=>exact t2
      exact zit hW R hn' a2 (fun k hk=>Z4 (hkk k hk) (htr k hk) (goods_iff.1 hg.2 k hk) (hst k hk)) hT h2 h3 h4
     ·have et:yi (.mk 2 e n d ks)=ks:=by
       show (if (2:Int)=2/\e=7 then _ else ks)=_
       rw[if_neg (fun h=>e7 h.2)]
      have eo:vt (.mk 2 e n d ks)=zn e n:=by
       rw[Wl,if_neg (fun h=>e7 h.2.1),Int.add_zero]
       unfold yG
       show (if (2:Int)=0 then 0 else if (2:Int)=1 then _ else if e=7 then _ else zn e n)=_
       rw[if_neg (by decide),if_neg (by decide),if_neg e7]
      rw[et] at h2 h4 hT ⊢
      rw[eo] at h4 ⊢
      by_cases e6:e=6
      ·subst e6
       obtain ⟨a1,a2⟩:=h6 (show (6:Int)<=6 by decide)
       obtain rfl:d=[]:=List.length_eq_zero_iff.1 a1
       exact ziw hW R hn' a2 hT h2 h3 h4
      ·obtain ⟨b1,b2,b3⟩:=hl6 (show e<6 by omega)
       obtain rfl:ks=[]:=List.length_eq_zero_iff.1 b1
       rw[List.flatMap_nil,List.append_nil] at h2
       simp only[List.map_nil,vf,Int.add_zero] at h4 ⊢
       exact ziv hW (e:=e) ⟨he'.1,by omega⟩ hn' b2 b3 hg.1.2.1 h2 h3 h4
theorem zhT {w i m:Nat} (hw:w<2^i) (h:i+m<=64):w &&& (2^64-1-(2^m-1)*2^i)=w:=by
 have hk:2^64=2^(64-i)*2^i:=by rw[←Nat.pow_add];congr 1;omega
 have hmi:2^m<=2^(64-i):=Nat.pow_le_pow_right (by decide) (by omega)
 have hi:0<2^i:=Nat.pow_pos (by decide)
 have hm:0<2^m:=Nat.pow_pos (by decide)
 have e:2^64-1-(2^m-1)*2^i=2^i*(2^(64-i)-2^m)+(2^i-1):=by
  have h2:2^m*2^i<=2^(64-i)*2^i:=Nat.mul_le_mul_right _ hmi
  rw[hk,Nat.sub_mul,Nat.one_mul,Nat.mul_sub,Nat.mul_comm (2^i) (2^(64-i)),Nat.mul_comm (2^i) (2^m)]
  have h3:2^i<=2^m*2^i:=Nat.le_mul_of_pos_left _ hm
  omega
 rw[e]
 apply Nat.eq_of_testBit_eq
 intro j
 rw[Nat.testBit_and,Nat.testBit_two_pow_mul_add _ (by omega)]
 by_cases hj:j<i
 ·rw[if_pos hj,Nat.testBit_two_pow_sub_one,decide_eq_true hj,Bool.and_true]
 ·rw[if_neg hj]
  have:w.testBit j=false:=Nat.testBit_lt_two_pow (Nat.lt_of_lt_of_le hw (Nat.pow_le_pow_right (by decide) (by omega)))
  rw[this,Bool.false_and]
theorem zhV {v i m:Nat} (h:i+m<=64):(v*2^i%2^64) &&& ((2^m-1)*2^i)=v%2^m*2^i:=by
 apply Nat.eq_of_testBit_eq
 intro j
 rw[Nat.testBit_and,Nat.testBit_mod_two_pow,Nat.mul_comm v,Nat.mul_comm (2^m-1),Nat.mul_comm (v%2^m),Nat.testBit_two_pow_mul,Nat.testBit_two_pow_mul,Nat.testBit_two_pow_mul,Nat.testBit_two_pow_sub_one,Nat.testBit_mod_two_pow]
 by_cases h1:j≥i
 ·by_cases h2:j-i<m
  ·rw[decide_eq_true h1,decide_eq_true h2,dT (j<64)];simp
  ·rw[decide_eq_false h2];simp
 ·rw[decide_eq_false h1];simp
theorem zfX {w v i m:Nat} (hw:w<2^i) (hv:v<2^64) (h1:1<=m) (h2:i+m<=64):ev 291 [.pv (U (w:Int)),.pv (I (i:Int)),.pv (I (m:Int)),.pv (U (v:Int))] []=ok (U ((w+v%2^m*2^i:Nat):Int)):=by
 have hk:2^64=2^(64-i)*2^i:=by rw[←Nat.pow_add];congr 1;omega
 have hmi:2^m<=2^(64-i):=Nat.pow_le_pow_right (by decide) (by omega)
 have hi:0<2^i:=Nat.pow_pos (by decide)
 have hm:0<2^m:=Nat.pow_pos (by decide)
 have h64:2^m*2^i<=2^64:=by rw[hk];exact Nat.mul_le_mul_right _ hmi
 have hM:(2^m-1)*2^i<2^64:=by
  rw[Nat.sub_mul,Nat.one_mul]
  have h3:2^i<=2^m*2^i:=Nat.le_mul_of_pos_left _ hm
  omega
 have hw64:w<2^64:=Nat.lt_of_lt_of_le hw (Nat.pow_le_pow_right (by decide) (by omega))
 have hx:v%2^m*2^i<2^64:=by
  have:=Nat.mod_lt v hm
  have:v%2^m*2^i<=(2^m-1)*2^i:=Nat.mul_le_mul_right _ (by omega)
  omega
 rw[zp8,js m h1 (by omega),wM (n:=i) (by omega)]
 dsimp only[zh,xc,zqR]
 have hmin:min (i:Int).toNat 64=i:=by rw[zqK,Nat.min_eq_left (by omega)]
 have ei:(2:Int)^i=((2^i:Nat):Int):=by push_cast;rfl
 have eM:IntKind.wrap .u64 (((2^m-1:Nat):Int)*2^i)=(((2^m-1)*2^i:Nat):Int):=by
  rw[ei,←Int.natCast_mul];exact wM hM
 have eV:IntKind.wrap .u64 ((v:Int)*2^i)=((v*2^i%2^64:Nat):Int):=by
  rw[JJ,ei,←Int.natCast_mul]
  have:(18446744073709551616:Int)=((2^64:Nat):Int):=rfl
  rw[this,←Int.natCast_emod]
 rw[hmin,eM,eV]
 have e1:(BitVec.ofInt 64 (w:Int) &&& ~~~BitVec.ofInt 64 (((2^m-1)*2^i:Nat):Int)).toNat=w:=by
  rw[BitVec.toNat_and,BitVec.toNat_not,Zl hw64,Zl hM,zhT hw h2]
 have e2:(BitVec.ofInt 64 ((v*2^i%2^64:Nat):Int) &&& BitVec.ofInt 64 (((2^m-1)*2^i:Nat):Int)).toNat=v%2^m*2^i:=by
  rw[BitVec.toNat_and,Zl (Nat.mod_lt _ (by decide)),Zl hM,zhV h2]
 rw[e1,e2,wM hw64,wM hx]
 have e3:(BitVec.ofInt 64 (w:Int) ||| BitVec.ofInt 64 ((v%2^m*2^i:Nat):Int)).toNat=w+v%2^m*2^i:=by
  rw[BitVec.toNat_or,Zl hw64,Zl hx,Nat.or_comm,Nat.mul_comm,←Nat.two_pow_add_eq_or_of_lt hw]
  omega
 have hs:w+v%2^m*2^i<2^64:=by
  have h3:v%2^m*2^i<=(2^m-1)*2^i:=Nat.mul_le_mul_right _ (by have:=Nat.mod_lt v hm;omega)
  have h4:(2^m-1)*2^i+2^i<=2^64:=by
   rw[Nat.sub_mul,Nat.one_mul]
   have h3:2^i<=2^m*2^i:=Nat.le_mul_of_pos_left _ hm
   omega
  omega
 rw[e3,wM hs]
 simp[yS]
theorem YC {w v:Int} {i m:Nat} (hw:0<=w/\w<2^i) (hv:0<=v/\v<18446744073709551616) (h1:1<=m) (h2:i+m<=64):ev 291 [.pv (U w),.pv (I (i:Int)),.pv (I (m:Int)),.pv (U v)] []=ok (U (w+v%2^m*2^i)):=by
 obtain ⟨a,rfl⟩:=Int.eq_ofNat_of_zero_le hw.1
 obtain ⟨b,rfl⟩:=Int.eq_ofNat_of_zero_le hv.1
 have hw':a<2^i:=by have:=hw.2;exact_mod_cast this
 have hv':b<2^64:=by have:=hv.2;omega
 rw[zfX hw' hv' h1 h2]
 push_cast
 rfl
theorem zgs {off:Int} {d q:Nat} (hd:d<=65535) (hq:q<=65535):ev 288 [.pv (.agg [I 0,I off,I d,I q,I 0,I 0,Bo false,I 0,yD 0,yD 0])] []=ok (U (yg off d q)):=by
 have hm:=Int.emod_nonneg off (show (1073741824:Int)≠0 by decide)
 have hl:=Int.emod_lt_of_pos off (show (0:Int)<1073741824 by decide)
 have i1:=YC (w:=0) (v:=0) (i:=0) (m:=2) (by decide) (by decide) (by decide) (by decide)
 have i2:=YC (w:=0) (v:=off%18446744073709551616) (i:=2) (m:=30) (by decide) (by omega) (by decide) (by decide)
 have e2:(0:Int)+off%18446744073709551616%2^30*2^2=off%1073741824*4:=by omega
 rw[e2] at i2
 have i3:=YC (w:=off%1073741824*4) (v:=d) (i:=32) (m:=16) (by omega) (by omega) (by decide) (by decide)
 have e3:off%1073741824*4+(d:Int)%2^16*2^32=off%1073741824*4+d*4294967296:=by omega
 rw[e3] at i3
 have i4:=YC (w:=off%1073741824*4+d*4294967296) (v:=q) (i:=48) (m:=16) (by omega) (by omega) (by decide) (by decide)
 have e4:off%1073741824*4+d*4294967296+(q:Int)%2^16*2^48=yg off d q:=by unfold yg;omega
 rw[e4] at i4
 rw[zdM,show IntKind.wrap .u64 0=0 from rfl,show ev 291 [.pv (U 0),.pv (I 0),.pv (I 2),.pv (U 0)] []=ok (U 0) from i1]
 dsimp only[zl,zh]
 rw[show ((0:Int)==0)=true from rfl,JJ off]
 dsimp only[zb]
 rw[show ev 291 [.pv (U 0),.pv (I 2),.pv (I 30),.pv (U (off%18446744073709551616))] []=ok (U (off%1073741824*4)) from i2]
 dsimp only[zh]
 rw[yC (x:=(d:Int)) (by omega),show ev 291 [.pv (U (off%1073741824*4)),.pv (I 32),.pv (I 16),.pv (U d)] []=ok (U (off%1073741824*4+d*4294967296)) from i3]
 dsimp only[zv,zP,zqR]
 rw[yC (x:=(q:Int)) (by omega),show ev 291 [.pv (U (off%1073741824*4+d*4294967296)),.pv (I 48),.pv (I 16),.pv (U q)] []=ok (U (yg off d q)) from i4]
 rfl
theorem zgt {off e c:Int} (he:0<=e/\e<=7) (hc:0<=c/\c<=536870911):ev 288 [.pv (.agg [I 1,I off,I 0,I 0,I e,I c,Bo false,I 0,yD 0,yD 0])] []=ok (U (yE off e c)):=by
 have hm:=Int.emod_nonneg off (show (1073741824:Int)≠0 by decide)
 have hl:=Int.emod_lt_of_pos off (show (0:Int)<1073741824 by decide)
 have i1:=YC (w:=0) (v:=1) (i:=0) (m:=2) (by decide) (by decide) (by decide) (by decide)
 have i2:=YC (w:=1) (v:=off%18446744073709551616) (i:=2) (m:=30) (by decide) (by omega) (by decide) (by decide)
 have e2:(1:Int)+off%18446744073709551616%2^30*2^2=off%1073741824*4+1:=by omega
 rw[e2] at i2
 have i3:=YC (w:=off%1073741824*4+1) (v:=e) (i:=32) (m:=3) (by omega) (by omega) (by decide) (by decide)
 have e3:off%1073741824*4+1+e%2^3*2^32=off%1073741824*4+1+e*4294967296:=by omega
 rw[e3] at i3
 have i4:=YC (w:=off%1073741824*4+1+e*4294967296) (v:=c) (i:=35) (m:=29) (by omega) (by omega) (by decide) (by decide)
 have e4:off%1073741824*4+1+e*4294967296+c%2^29*2^35=yE off e c:=by unfold yE;omega
 rw[e4] at i4
 rw[zdM,show IntKind.wrap .u64 1=1 from rfl,show ev 291 [.pv (U 0),.pv (I 0),.pv (I 2),.pv (U 1)] []=ok (U 1) from i1]
 dsimp only[zl,zh]
 rw[show ((1:Int)==0)=false from rfl,show ((1:Int)==1)=true from rfl,JJ off]
 dsimp only[zb,zl]
 rw[show ev 291 [.pv (U 1),.pv (I 2),.pv (I 30),.pv (U (off%18446744073709551616))] []=ok (U (off%1073741824*4+1)) from i2]
 dsimp only[zh]
 rw[yC (x:=e) (by omega),show ev 291 [.pv (U (off%1073741824*4+1)),.pv (I 32),.pv (I 3),.pv (U e)] []=ok (U (off%1073741824*4+1+e*4294967296)) from i3]
 dsimp only[zv,zP,zqR]
 rw[yC (x:=c) (by omega),show ev 291 [.pv (U (off%1073741824*4+1+e*4294967296)),.pv (I 35),.pv (I 29),.pv (U c)] []=ok (U (yE off e c)) from i4]
 rfl
theorem zbX {a1 a2 a3 a4 a5 a6 a7 a8 a9:Int} {b:Bool}:xx [false,false,false,false,false,false,true,false,false,false] [I a1,I a2,I a3,I a4,I a5,I a6,Bo b,I a7,yD a8,yD a9] [I a1,I a2,I a3,I a4,I a5,I a6,Bo b,I a7,yD a8,yD a9]=some true:=by
 simp[xx]
theorem JR {off:Int} {d q:Nat} (ho:-536870912<=off/\off<=536870911) (hd:d<=65535) (hq:q<=65535):ev 252 [.pv (.agg [I 0,I off,I d,I q,I 0,I 0,Bo false,I 0,yD 0,yD 0])] []=ok (.tup [U (yg off d q),Bo true]):=by
 have hp:=zgs (off:=off) hd hq
 obtain ⟨q1,q2,q3⟩:=Ko ho hd hq
 rw[zdK,zdL,hp]
 dsimp only[zv,zP,zqR,zh]
 rw[wj q2,q1]
 dsimp only[yf,zv,zP,zqR,j4]
 rw[zbX]
 rfl
theorem r9 {off e c:Int} (ho:-536870912<=off/\off<=536870911) (he:0<=e/\e<=7) (hc:0<=c/\c<=536870911):ev 252 [.pv (.agg [I 1,I off,I 0,I 0,I e,I c,Bo false,I 0,yD 0,yD 0])] []=ok (.tup [U (yE off e c),Bo true]):=by
 have hp:=zgt (off:=off) he hc
 obtain ⟨q1,q2,q3⟩:=Kn ho he hc
 rw[zdK,zdL,hp]
 dsimp only[zv,zP,zqR,zh]
 rw[wj q2,q1]
 dsimp only[yf,zv,zP,zqR,j4]
 rw[zbX]
 rfl
theorem jK {off:Int} (ho:-536870912<=off/\off<=536870911):ev 264 [.pv (I off)] []=ok (Bo true):=by
 rw[zi0,dT (off≥-536870912),decide_eq_true ho.2]
 rfl
theorem J6 {off:Int} {d q:Nat} (ho:-536870912<=off/\off<=536870911) (hd:d<=65535) (hq:q<=65535):ev 159 [.pv (.agg [I 0,I off,I d,I q,I 0,I 0,Bo false,I 0,yD 0,yD 0])] []=ok (.tup [U (yg off d q),Bo true]):=by
 rw[zaY,zaZ,jK ho]
 dsimp only[zh,yL,zqR,zb,zl]
 rw[show ((0:Int)==0)=true from rfl,beq_self_eq_true off,beq_self_eq_true (d:Int),beq_self_eq_true (q:Int),dT ((d:Int)≥0),dT ((d:Int)<=65535),dT ((q:Int)≥0),dT ((q:Int)<=65535)]
 dsimp only[zj,zb]
 rw[show IntKind.wrap .u64 0=0 from rfl,yC (x:=(d:Int)) (by omega),yC (x:=(q:Int)) (by omega)]
 by_cases hn:off<0
 ·rw[decide_eq_true hn]
  have e:off%1073741824=off+1073741824:=by omega
  rw[zc (x:=off+1073741824),yC (x:=off+1073741824) (by omega),yC (x:=4*(off+1073741824)) (by omega),yC (x:=0+4*(off+1073741824)) (by omega),yC (x:=4294967296*(d:Int)) (by omega),yC (x:=0+4*(off+1073741824)+4294967296*(d:Int)) (by omega),yC (x:=281474976710656*(q:Int)) (by omega),yC (x:=0+4*(off+1073741824)+4294967296*(d:Int)+281474976710656*(q:Int)) (by omega)]
  rw[show yg off d q=0+4*(off+1073741824)+4294967296*(d:Int)+281474976710656*(q:Int) by unfold yg;omega]
  rfl
 ·rw[decide_eq_false hn]
  have e:off%1073741824=off:=by omega
  rw[yC (x:=off) (by omega),yC (x:=4*off) (by omega),yC (x:=0+4*off) (by omega),yC (x:=4294967296*(d:Int)) (by omega),yC (x:=0+4*off+4294967296*(d:Int)) (by omega),yC (x:=281474976710656*(q:Int)) (by omega),yC (x:=0+4*off+4294967296*(d:Int)+281474976710656*(q:Int)) (by omega)]
  rw[show yg off d q=0+4*off+4294967296*(d:Int)+281474976710656*(q:Int) by unfold yg;omega]
  rfl
theorem zgD {off e c:Int} (ho:-536870912<=off/\off<=536870911) (he:0<=e/\e<=7) (hc:0<=c/\c<=536870911):ev 159 [.pv (.agg [I 1,I off,I 0,I 0,I e,I c,Bo false,I 0,yD 0,yD 0])] []=ok (.tup [U (yE off e c),Bo true]):=by
 rw[zaY,zaZ,jK ho]
 dsimp only[zh,yL,zqR,zb,zl]
 rw[show ((1:Int)==0)=false from rfl,show ((1:Int)==1)=true from rfl,beq_self_eq_true off,beq_self_eq_true e,beq_self_eq_true c,show ((0:Int)==0)=true from rfl,dT (e≥0),decide_eq_true he.2,dT (c≥0),decide_eq_true hc.2]
 dsimp only[zj,zb,zl]
 rw[show IntKind.wrap .u64 1=1 from rfl,yC (x:=e) (by omega),yC (x:=c) (by omega)]
 by_cases hn:off<0
 ·rw[decide_eq_true hn]
  have e':off%1073741824=off+1073741824:=by omega
  rw[zc (x:=off+1073741824),yC (x:=off+1073741824) (by omega),yC (x:=4*(off+1073741824)) (by omega),yC (x:=1+4*(off+1073741824)) (by omega),yC (x:=4294967296*e) (by omega),yC (x:=1+4*(off+1073741824)+4294967296*e) (by omega),yC (x:=34359738368*c) (by omega),yC (x:=1+4*(off+1073741824)+4294967296*e+34359738368*c) (by omega)]
  rw[show yE off e c=1+4*(off+1073741824)+4294967296*e+34359738368*c by unfold yE;omega]
  rfl
 ·rw[decide_eq_false hn]
  have e':off%1073741824=off:=by omega
  rw[yC (x:=off) (by omega),yC (x:=4*off) (by omega),yC (x:=1+4*off) (by omega),yC (x:=4294967296*e) (by omega),yC (x:=1+4*off+4294967296*e) (by omega),yC (x:=34359738368*c) (by omega),yC (x:=1+4*off+4294967296*e+34359738368*c) (by omega)]
  rw[show yE off e c=1+4*off+4294967296*e+34359738368*c by unfold yE;omega]
  rfl
end Go.Proofs.YtjbjeeoifhegfaaGreatDoor.E
