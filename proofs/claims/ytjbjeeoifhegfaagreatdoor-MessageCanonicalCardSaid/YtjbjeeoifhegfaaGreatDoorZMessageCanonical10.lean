/- This text is one of those that prove the law MessageCanonical of the given program, as its statement says it: true on every input that the statement covers. Its conditions are the statement's own. -/
import Derived.Test.YtjbjeeoifhegfaaGreatDoorZMessageCanonical1
import Derived.Test.YtjbjeeoifhegfaaGreatDoorZMessageCanonical2
import Derived.Test.YtjbjeeoifhegfaaGreatDoorZMessageCanonical3
import Derived.Test.YtjbjeeoifhegfaaGreatDoorZMessageCanonical4
import Derived.Test.YtjbjeeoifhegfaaGreatDoorZMessageCanonical5
import Derived.Test.YtjbjeeoifhegfaaGreatDoorZMessageCanonical6
import Derived.Test.YtjbjeeoifhegfaaGreatDoorZMessageCanonical7
import Derived.Test.YtjbjeeoifhegfaaGreatDoorZMessageCanonical8
import Derived.Test.YtjbjeeoifhegfaaGreatDoorZMessageCanonical9
set_option linter.unusedVariables false
set_option linter.unusedSimpArgs false
open List renaming getElem?_cons_zero->zph
open List renaming getElem?_cons_succ->zpi
open Option renaming bind_some->zpj
open List renaming length_append->zpk
open List renaming length_cons->zpl
namespace Go.Proofs.YtjbjeeoifhegfaaGreatDoor.E
def inB (l:List (List Int)) (s a n:Int):Prop:=0<=s/\s<(l.length:Int)/\0<=a/\0<=n/\a+n<=((yq l s).length:Int)
instance (l:List (List Int)) (s a n:Int):Decidable (inB l s a n):=by unfold inB;infer_instance
theorem WM {l:List (List Int)} (h:zF l) (s a n:Int) :
  ev 286 [.pv (.sl 1 (zA l)),.pv (.v (.int .i64 s)),.pv (.v (.int .i64 a)),.pv (.v (.int .i64 n))] []=some (.ret (.pv (.v (.bool (decide (inB l s a n))))),[]):=by
 have hw:=(Wu h s).1
 rw[zgS]
 simp only[z6,ZH]
 by_cases h1:0<=s/\s<(l.length:Int)
 ·rw[if_pos h1.1,if_pos h1.2]
  simp only[YO h1.1 h1.2,h1.1,h1.2,decide_true,Bool.and_self,cond_true,zpj,vd,zph,yG,yt]
  by_cases h2:0<=a/\0<=n/\a<=((yq l s).length:Int)
  ·rw[if_pos h2.1,if_pos h2.2.1,if_pos h2.2.2,ze (by omega)]
   rw[show decide (n<=((yq l s).length:Int)-a)=decide (inB l s a n) from decide_eq_decide.2 (by unfold inB;omega)]
  ·rw[show decide (inB l s a n)=false from decide_eq_false (by unfold inB;omega)]
   repeat' split
   all_goals first
    |rfl
    |(exfalso;omega)
 ·rw[show decide (inB l s a n)=false from decide_eq_false (by unfold inB;omega)]
  repeat' split
  all_goals first
   |rfl
   |(exfalso;omega)
theorem ze8 {l:List (List Int)} (h:zF l) (s a:Int) :
  ev 278 [.pv (.sl 1 (zA l)),.pv (.v (.int .i64 s)),.pv (.v (.int .i64 a))] [] =
   some (.ret (.pv (.tup (if inB l s a 1 then [.v (.int .u64 (rd (yq l s) a)),.v (.bool true)] else [.v (.int .u64 0),.v (.bool false)]))),[]):=by
 rw[zgU,WM h]
 by_cases hb:inB l s a 1
 ·have hb':=hb
  obtain ⟨h1,h2,h3,h4,h5⟩:=hb'
  rw[if_pos hb]
  simp[-getElem?_pos,zph,zpi,z6,yd,yk,ym,hb,h1,h2,h3,YO h1 h2,ga h3 (show a<(yq l s).length by omega),show a<(yq l s).length by omega]
 ·rw[if_neg hb]
  simp[hb]
def cut (l:List (List Int)) (s a n:Int):List Int:=((yq l s).drop a.toNat).take n.toNat
theorem J6 {l:List (List Int)} {s a n:Int} (h:inB l s a n):(cut l s a n).length=n.toNat:=by
 obtain ⟨h1,h2,h3,h4,h5⟩:=h
 simp[cut];omega
theorem Jq {l:List (List Int)} (h:zF l) (s a n:Int) (hn:n<=17592186044416) :
  ev 276 [.pv (.sl 1 (zA l)),.pv (.v (.int .i64 s)),.pv (.v (.int .i64 a)),.pv (.v (.int .i64 n))] [] =
   some (.ret (.pv (.tup (if inB l s a n then [.sl 1 (ws (cut l s a n)),.v (.bool true)] else [.sl 1 [],.v (.bool false)]))),[]):=by
 rw[zgT,WM h]
 by_cases hb:inB l s a n
 ·have hb':=hb
  obtain ⟨h1,h2,h3,h4,h5⟩:=hb'
  rw[if_pos hb]
  have hr:yf n.toNat 8=true:=by simp[yf];omega
  have e:List.take n.toNat (List.drop a.toNat (ws (yq l s)))=ws (cut l s a n):=by simp[ws,cut,List.map_take,List.map_drop]
  have hle:a.toNat<=(yq l s).length:=by omega
  have hz:n.toNat-((yq l s).length-a.toNat)=0:=by omega
  simp[-getElem?_pos,zph,zpi,z6,yd,yk,ym,hb,h1,h2,h3,h4,YO h1 h2,hr,show a<=(yq l s).length by omega,show n<=140737488355328 by omega,List.take_of_length_le,e,hz]
 ·rw[if_neg hb]
  simp[hb]
theorem vP {a:Nat} (h:a<2^64):(BitVec.ofInt 64 (a:Int)).toNat=a:=by
 simp;omega
theorem wu {n:Nat} (h:n<2^64):IntKind.wrap .u64 (n:Int)=n:=xR ⟨Int.natCast_nonneg _,by omega⟩
theorem zgQ {a:Nat} (h:a<2^64) {m:Nat} (hm:m<=64):IntKind.wrap .u64 (((BitVec.ofInt 64 (a:Int) &&& BitVec.ofInt 64 ((2^m-1:Nat):Int)).toNat:Nat):Int)=((a%2^m:Nat):Int):=by
 have hp:2^m<=2^64:=Nat.pow_le_pow_right (by decide) hm
 have hq:0<2^m:=Nat.pow_pos (by decide)
 rw[BitVec.toNat_and,vP h,vP (show 2^m-1<2^64 by omega),Nat.and_two_pow_sub_one_eq_mod]
 have:=Nat.mod_lt a hq
 exact wu (by omega)
theorem rE (m:Nat) (h1:1<=m) (h2:m<=64):ev 285 [.pv (I m)] []=ok (U ((2^m-1:Nat):Int)):=by
 rw[zoS]
 have e1:IntKind.wrap .i64 (64-(m:Int))=((64-m:Nat):Int):=by rw[ze (by omega)];omega
 rw[e1,wu (by omega)]
 have hk:2^64=2^m*2^(64-m):=by rw[←Nat.pow_add];congr 1;omega
 have hp:0<2^(64-m):=Nat.pow_pos (by decide)
 have hd:(18446744073709551615:Nat)/2^(64-m)=2^m-1:=by
  rw[show (18446744073709551615:Nat)=2^64-1 from rfl,hk,Nat.div_eq_iff hp]
  have hq:0<2^m:=Nat.pow_pos (by decide)
  constructor
  ·rw[Nat.sub_mul];omega
  ·have:(2^m-1)*2^(64-m)=2^m*2^(64-m)-2^(64-m):=by rw[Nat.sub_mul,Nat.one_mul]
   have h3:2^(64-m)<=2^m*2^(64-m):=Nat.le_mul_of_pos_left _ hq
   omega
 have hf:Int.fdiv 18446744073709551615 (2^(min ((64-m:Nat):Int).toNat 64))=((2^m-1:Nat):Int):=by
  rw[Int.toNat_natCast,Nat.min_eq_left (by omega),Int.fdiv_eq_ediv_of_nonneg _ (Int.le_of_lt (Int.pow_pos (by decide))),←hd]
  simp only[Int.natCast_ediv,Int.natCast_pow]
  rfl
 rw[hf]
 simp[yP]
theorem znx (a i:Nat) (hi:i<=64):Int.fdiv (a:Int) (2^(min (i:Int).toNat 64))=((a/2^i:Nat):Int):=by
 rw[Int.toNat_natCast,Nat.min_eq_left hi,Int.fdiv_eq_ediv_of_nonneg _ (Int.le_of_lt (Int.pow_pos (by decide)))]
 push_cast
 rfl
theorem zeV (a:Nat) (h:a<2^64) (i m:Nat) (h1:1<=m) (h2:i+m<=64):ev 245 [.pv (U a),.pv (I i),.pv (I m)] []=ok (U ((a/2^i%2^m:Nat):Int)):=by
 rw[zoN,wu (by omega),rE m h1 (by omega),znx a i (by omega)]
 have:=zgQ (a:=a/2^i) (Nat.lt_of_le_of_lt (Nat.div_le_self _ _) h) (m:=m) (by omega)
 simp only[zf,zg,zpj,Z1,this]
 simp[yP]
theorem ZP {a:Int} (h:zG a) (i m:Nat) (h1:1<=m) (h2:i+m<=64):ev 245 [.pv (U a),.pv (I i),.pv (I m)] []=ok (U (a/2^i%2^m)):=by
 obtain ⟨n,rfl⟩:=Int.eq_ofNat_of_zero_le h.1
 rw[zeV n (by have:=h.2;omega) i m h1 h2]
 simp
def wR (v:Int):Int:=if 536870912<=v then v-1073741824 else v
theorem ze3 {a:Int} (h:zG a):ev 342 [.pv (U a),.pv (I 2),.pv (I 30)] []=ok (I (wR (a/4%1073741824))):=by
 obtain ⟨h1,h2⟩:=h
 rw[zoQ]
 rw[show IntKind.wrap .i64 ((IntKind.wrap .i64 (64-2))-30)=32 by decide,show IntKind.wrap .u64 32=32 by decide,show IntKind.wrap .u64 (IntKind.wrap .i64 (64-30))=34 by decide]
 simp only[yP]
 rw[show (min (32:Int).toNat 64)=32 by decide,show (min (34:Int).toNat 64)=34 by decide]
 have e:IntKind.wrap .i64 (IntKind.wrap .u64 (a*2^32))=wR (a/4%1073741824)*17179869184+(a%4)*4294967296:=by
  rw[K9]
  have e2:a*2^32%18446744073709551616=(a/4%1073741824)*17179869184+(a%4)*4294967296:=by omega
  rw[e2]
  unfold wR
  simp only[IntKind.wrap,IntKind.bits,IntKind.signed]
  simp
  split<;>split<;>omega
 rw[e,Int.fdiv_eq_ediv_of_nonneg _ (by decide)]
 have e3:(wR (a/4%1073741824)*17179869184+(a%4)*4294967296)/2^34=wR (a/4%1073741824):=by omega
 rw[e3]
 rfl
abbrev PT:=Int×Int×Int×Int×Int×Int×Bool×Int×Int×Int
def yi (p:PT):List PV:=[I p.1,I p.2.1,I p.2.2.1,I p.2.2.2.1,I p.2.2.2.2.1,I p.2.2.2.2.2.1,Bo p.2.2.2.2.2.2.1,I p.2.2.2.2.2.2.2.1,yY p.2.2.2.2.2.2.2.2.1,yY p.2.2.2.2.2.2.2.2.2]
def zC (a:Int):PT :=
 if a%4=0 then (0,wR (a/4%1073741824),a/4294967296%65536,a/281474976710656%65536,0,0,false,0,0,0)
 else if a%4=1 then (1,wR (a/4%1073741824),0,0,a/4294967296%8,a/34359738368%536870912,false,0,0,0)
 else if a%4=2 then (2,0,0,0,0,0,a/4%2==1,a/8%536870912,a/4294967296%4294967296,0)
 else (3,0,0,0,0,0,false,0,a/4294967296%4294967296,a/4%1073741824)
theorem xS {a:Int} (h:zG a):ev 192 [.pv (U a)] []=ok (.agg (yi (zC a))):=by
 have k0:ev 245 [.pv (U a),.pv (I 0),.pv (I 2)] []=ok (U (a%4)):=by have:=ZP h 0 2 (by decide) (by decide);simpa using this
 have k1:ev 245 [.pv (U a),.pv (I 32),.pv (I 16)] []=ok (U (a/4294967296%65536)):=ZP h 32 16 (by decide) (by decide)
 have k2:ev 245 [.pv (U a),.pv (I 48),.pv (I 16)] []=ok (U (a/281474976710656%65536)):=ZP h 48 16 (by decide) (by decide)
 have k3:ev 245 [.pv (U a),.pv (I 32),.pv (I 3)] []=ok (U (a/4294967296%8)):=ZP h 32 3 (by decide) (by decide)
 have k4:ev 245 [.pv (U a),.pv (I 35),.pv (I 29)] []=ok (U (a/34359738368%536870912)):=ZP h 35 29 (by decide) (by decide)
 have k5:ev 245 [.pv (U a),.pv (I 2),.pv (I 1)] []=ok (U (a/4%2)):=ZP h 2 1 (by decide) (by decide)
 have k6:ev 245 [.pv (U a),.pv (I 3),.pv (I 29)] []=ok (U (a/8%536870912)):=ZP h 3 29 (by decide) (by decide)
 have k7:ev 245 [.pv (U a),.pv (I 32),.pv (I 32)] []=ok (U (a/4294967296%4294967296)):=ZP h 32 32 (by decide) (by decide)
 have k8:ev 245 [.pv (U a),.pv (I 2),.pv (I 30)] []=ok (U (a/4%1073741824)):=ZP h 2 30 (by decide) (by decide)
 rw[zl3,zl5,zl6,zl7,zl8,k0,k1,k2,k3,k4,k5,k6,k7,k8,ze3 h]
 simp only[zf,zg,zpj,xt,Z1]
 rw[ze (x:=a/4294967296%65536) (by omega),ze (x:=a/281474976710656%65536) (by omega),ze (x:=a/4294967296%8) (by omega),ze (x:=a/34359738368%536870912) (by omega),ze (x:=a/8%536870912) (by omega),ze (x:=a%4) (by omega)]
 rw[K8,K8,show a/4294967296%4294967296%4294967296=a/4294967296%4294967296 by omega,show a/4%1073741824%4294967296=a/4%1073741824 by omega]
 unfold zC
 by_cases c0:a%4=0
 ·simp[-getElem?_pos,zph,zpi,z6,yd,yk,ym,c0,yi]
 by_cases c1:a%4=1
 ·simp[-getElem?_pos,zph,zpi,z6,yd,yk,ym,c1,yi]
 by_cases c2:a%4=2
 ·simp[-getElem?_pos,zph,zpi,z6,yd,yk,ym,c2,yi]
 ·have c3:a%4=3:=by omega
  simp[-getElem?_pos,zph,zpi,z6,yd,yk,ym,c3,yi]
theorem zma (n:Nat) (hn:n<=63):∀ (d j:Nat),j+d=n->QB n ((2^j:Nat):Int) j=ok (U ((2^n:Nat):Int)):=by
 intro d
 induction d with
 |zero=>
  intro j hj
  obtain rfl:j=n:=by omega
  rw[zaa]
  simp
 |succ d ih=>
  intro j hj
  rw[zaa]
  have h2:2^(j+1)<=2^63:=Nat.pow_le_pow_right (by decide) (by omega)
  have e:((2^j:Nat):Int)*2=((2^(j+1):Nat):Int):=by rw[Nat.pow_succ];push_cast;rfl
  rw[e,wu (by omega),ze (by omega),show (j:Int)+1=((j+1:Nat):Int) by push_cast;rfl,ih (j+1) (by omega)]
  simp only[z6]
  rw[if_pos (by omega)]
theorem Qb (n:Nat) (hn:n<=63):ev 142 [.pv (I n)] []=ok (U ((2^n:Nat):Int)):=by
 rw[zhV]
 exact zma n hn n 0 (by omega)
theorem zmS (a:Nat) (ha:a<2^64) (i m:Nat) (h2:i+m<=64):∀ (d j:Nat),j+d=m->W2 a i m ((a/2^i%2^j:Nat):Int) j=ok (U ((a/2^i%2^m:Nat):Int)):=by
 intro d
 induction d with
 |zero=>
  intro j hj
  obtain rfl:j=m:=by omega
  rw[j8]
  simp
 |succ d ih=>
  intro j hj
  rw[j8]
  simp only[z6]
  rw[if_pos (by omega),ze (x:=(i:Int)+(j:Int)) (by omega),show (i:Int)+(j:Int)=((i+j:Nat):Int) by push_cast;rfl,Qb _ (by omega)]
  simp only[zf,zg,zpj,Z1]
  have hp:0<2^(i+j):=Nat.pow_pos (by decide)
  have hok:yP .quo ((2^(i+j):Nat):Int)=true:=by simp only[yP,bne_iff_ne];omega
  rw[hok,cond_true]
  have hdv:Int.tdiv (a:Int) ((2^(i+j):Nat):Int)=((a/2^(i+j):Nat):Int):=by rw[Int.tdiv_eq_ediv_of_nonneg (Int.natCast_nonneg _)];push_cast;rfl
  have hlt:a/2^(i+j)<2^64:=Nat.lt_of_le_of_lt (Nat.div_le_self _ _) ha
  rw[hdv,wu hlt]
  have hmd:Int.tmod ((a/2^(i+j):Nat):Int) 2=((a/2^(i+j)%2:Nat):Int):=by rw[Int.tmod_eq_emod_of_nonneg (Int.natCast_nonneg _)];push_cast;rfl
  rw[hmd]
  have hs:a/2^i%2^(j+1)=a/2^i%2^j+2^j*(a/2^(i+j)%2):=by
   rw[Nat.mod_pow_succ,Nat.div_div_eq_div_mul,←Nat.pow_add]
  have hjj:(j:Int)+1=((j+1:Nat):Int):=by push_cast;rfl
  have hb:a/2^i%2^(j+1)<2^64:=Nat.lt_of_le_of_lt (Nat.mod_le _ _) (Nat.lt_of_le_of_lt (Nat.div_le_self _ _) ha)
  rw[ze (x:=(j:Int)+1) (by omega),hjj]
  rcases Nat.mod_two_eq_zero_or_one (a/2^(i+j)) with h0|h0
  ·rw[h0] at hs ⊢
   rw[show a/2^i%2^j=a/2^i%2^(j+1) by omega]
   exact ih (j+1) (by omega)
  ·rw[h0]
   rw[h0,Nat.mul_one] at hs
   have:=ih (j+1) (by omega)
   simp only[Int.natCast_one,beq_self_eq_true,cond_true]
   rw[Qb _ (by omega)]
   simp only[zf,zg,zpj,Z1]
   rw[show ((a/2^i%2^j:Nat):Int)+((2^j:Nat):Int)=((a/2^i%2^(j+1):Nat):Int) by rw[hs];push_cast;rfl,wu hb]
   exact this
theorem Ym {a:Int} (h:zG a) (i m:Nat) (h2:i+m<=64):ev 251 [.pv (U a),.pv (I i),.pv (I m)] []=ok (U (a/2^i%2^m)):=by
 obtain ⟨n,rfl⟩:=Int.eq_ofNat_of_zero_le h.1
 rw[zhT]
 have:=zmS n (by have:=h.2;omega) i m h2 m 0 (by omega)
 simp only[Nat.pow_zero,Nat.mod_one] at this
 rw[show ((0:Nat):Int)=0 from rfl] at this
 rw[this]
 simp
theorem zfJ {a:Int} (h:zG a):ev 250 [.pv (U a),.pv (I 2),.pv (I 30)] []=ok (I (wR (a/4%1073741824))):=by
 have e1:ev 251 [.pv (U a),.pv (I 2),.pv (I 30)] []=ok (U (a/4%1073741824)):=Ym h 2 30 (by decide)
 have e2:ev 142 [.pv (I 29)] []=ok (U 536870912):=Qb 29 (by decide)
 rw[zhW,e1]
 simp only[zf,zg,zpj,Z1,xt]
 rw[show IntKind.wrap .i64 (30-1)=29 by decide,e2]
 simp only[zf,zg,zpj,Z1,xt,z6]
 unfold wR
 have hx:=h.1
 rw[ze (x:=a/4%1073741824) (by omega),ze (x:=536870912) (by omega),ze (x:=a/4%1073741824-536870912) (by omega)]
 by_cases hc:536870912<=a/4%1073741824
 ·rw[ze (x:=a/4%1073741824-536870912-536870912) (by omega)]
  simp[hc]
  omega
 ·simp[hc]
theorem Y2 {a:Int} (h:zG a):ev 195 [.pv (U a)] []=ok (.agg (yi (zC a))):=by
 have k1:ev 251 [.pv (U a),.pv (I 32),.pv (I 16)] []=ok (U (a/4294967296%65536)):=Ym h 32 16 (by decide)
 have k2:ev 251 [.pv (U a),.pv (I 48),.pv (I 16)] []=ok (U (a/281474976710656%65536)):=Ym h 48 16 (by decide)
 have k3:ev 251 [.pv (U a),.pv (I 32),.pv (I 3)] []=ok (U (a/4294967296%8)):=Ym h 32 3 (by decide)
 have k4:ev 251 [.pv (U a),.pv (I 35),.pv (I 29)] []=ok (U (a/34359738368%536870912)):=Ym h 35 29 (by decide)
 have k5:ev 251 [.pv (U a),.pv (I 2),.pv (I 1)] []=ok (U (a/4%2)):=Ym h 2 1 (by decide)
 have k6:ev 251 [.pv (U a),.pv (I 3),.pv (I 29)] []=ok (U (a/8%536870912)):=Ym h 3 29 (by decide)
 have k8:ev 251 [.pv (U a),.pv (I 2),.pv (I 30)] []=ok (U (a/4%1073741824)):=Ym h 2 30 (by decide)
 obtain ⟨g1,g2⟩:=h
 have hm:IntKind.wrap .i64 (Int.tmod a 4)=a%4:=by rw[Int.tmod_eq_emod_of_nonneg g1,ze (by omega)]
 have hd:IntKind.wrap .u64 (Int.tdiv a 4294967296)=a/4294967296:=by rw[Int.tdiv_eq_ediv_of_nonneg g1,xR (by omega)]
 rw[zhY,hm,k1,k2,k3,k4,k5,k6,k8,zfJ ⟨g1,g2⟩,hd]
 simp only[zf,zg,zpj,xt,Z1]
 rw[ze (x:=a/4294967296%65536) (by omega),ze (x:=a/281474976710656%65536) (by omega),ze (x:=a/4294967296%8) (by omega),ze (x:=a/34359738368%536870912) (by omega),ze (x:=a/8%536870912) (by omega)]
 rw[K8,K8,show a/4%1073741824%4294967296=a/4%1073741824 by omega]
 unfold zC
 by_cases c0:a%4=0
 ·simp[-getElem?_pos,zph,zpi,z6,yd,yk,ym,c0,yi]
 by_cases c1:a%4=1
 ·simp[-getElem?_pos,zph,zpi,z6,yd,yk,ym,c1,yi]
 by_cases c2:a%4=2
 ·simp[-getElem?_pos,zph,zpi,z6,yd,yk,ym,c2,yi]
 ·have c3:a%4=3:=by omega
  simp[-getElem?_pos,zph,zpi,z6,yd,yk,ym,c3,yi]
theorem JA {l:List (List Int)} (h:zF l) (s a n:Int) :
  ev 200 [.pv (.sl 1 (zA l)),.pv (I s),.pv (I a),.pv (I n)] []=ok (Bo (decide (inB l s a n))):=by
 have hw:=(Wu h s).1
 rw[zh3]
 simp only[z6,ZH]
 by_cases h1:0<=s/\s<(l.length:Int)
 ·rw[if_neg (by omega),if_neg (by omega)]
  simp only[YO h1.1 h1.2,h1.1,h1.2,decide_true,Bool.and_self,cond_true,zpj,vd,zph,yG,yt]
  by_cases h2:0<=a/\0<=n/\a<=((yq l s).length:Int)
  ·rw[if_neg (by omega),if_neg (by omega),if_pos h2.2.2,ze (by omega)]
   rw[show decide (n<=((yq l s).length:Int)-a)=decide (inB l s a n) from decide_eq_decide.2 (by unfold inB;omega)]
  ·rw[show decide (inB l s a n)=false from decide_eq_false (by unfold inB;omega)]
   repeat' split
   all_goals first
    |rfl
    |(exfalso;omega)
 ·rw[show decide (inB l s a n)=false from decide_eq_false (by unfold inB;omega)]
  repeat' split
  all_goals first
   |rfl
   |(exfalso;omega)
theorem ug {l:List (List Int)} {j:Nat} (h:j<l.length):yq l (j:Int)=l[j]:=by
 simp[yq,List.getD_eq_getElem?_getD,h]
theorem uh {l:List Int} {j:Nat} (h:j<l.length):rd l (j:Int)=l[j]:=by
 simp[rd,List.getD_eq_getElem?_getD,h]
def wg (l:List (List Int)) (s a:Int):Option (Out×zh):=ok (.tup (if inB l s a 1 then [U (rd (yq l s) a),Bo true] else [U 0,Bo false]))
theorem zmA {l:List (List Int)} (h:zF l) (s a:Int) {i:Nat} (hi:i<l.length):∀ (d j:Nat),j+d=l[i].length->¬((i:Int)=s/\(j:Int)<=a/\a<l[i].length)->XM (zA l) s a i j=W6 (zA l) s a ((i+1:Nat):Int):=by
 have hlen:=(h.2 _ (List.getElem_mem hi)).1
 have hll:=h.1
 intro d
 induction d with
 |zero=>
  intro j hj hn
  rw[QF]
  simp[-getElem?_pos,zph,zpi,z6,yd,yk,ym,Wy hi,hi,show ¬j<l[i].length by omega,ze (x:=(i:Int)+1) (by omega)]
 |succ d ih=>
  intro j hj hn
  have hjl:j<l[i].length:=by omega
  rw[QF]
  have ih':=ih (j+1) (by omega) (by omega)
  have e:(j:Int)+1=((j+1:Nat):Int):=by push_cast;rfl
  rw[ze (x:=(j:Int)+1) (by omega),e,ih']
  have hc:¬((i:Int)=s/\(j:Int)=a):=by omega
  by_cases h1:(i:Int)=s
  ·have h2:¬(j:Int)=a:=fun e=>hc ⟨h1,e⟩
   subst h1
   simp[-getElem?_pos,zph,zpi,z6,yd,yk,ym,Wy hi,hi,hjl,h2]
  ·simp[-getElem?_pos,zph,zpi,z6,yd,yk,ym,Wy hi,hi,hjl,h1]
theorem zmz {l:List (List Int)} (h:zF l) {i t:Nat} (hi:i<l.length) (ht:t<l[i].length):∀ (d j:Nat),j+d=t->XM (zA l) i t i j=ok (.tup [U (rd (yq l i) t),Bo true]):=by
 have hlen:=(h.2 _ (List.getElem_mem hi)).1
 intro d
 induction d with
 |zero=>
  intro j hj
  obtain rfl:j=t:=by omega
  rw[QF,ug hi,uh ht]
  simp[-getElem?_pos,zph,zpi,z6,yd,yk,ym,Wy hi,hi,ZO ht,ht]
 |succ d ih=>
  intro j hj
  have hjl:j<l[i].length:=by omega
  rw[QF]
  have e:(j:Int)+1=((j+1:Nat):Int):=by push_cast;rfl
  rw[ze (x:=(j:Int)+1) (by omega),e,ih (j+1) (by omega)]
  simp[-getElem?_pos,zph,zpi,z6,yd,yk,ym,Wy hi,hi,hjl,show ¬(j:Int)=t by omega]
theorem zc4 {l:List (List Int)} (h:zF l) (s a:Int):∀ (d i:Nat),i+d=l.length->(s<(i:Int)->¬inB l s a 1)->W6 (zA l) s a i=wg l s a:=by
 intro d
 induction d with
 |zero=>
  intro i hi hs
  rw[zae]
  have hn:¬inB l s a 1:=fun hb=>hs (by have:=hb.2.1;omega) hb
  simp[-getElem?_pos,zph,zpi,z6,yd,yk,ym,show ¬(i:Int)<l.length by omega,wg,hn]
 |succ d ih=>
  intro i hi hs
  have hil:i<l.length:=by omega
  rw[zae]
  have hlt:decide ((i:Int)<((zA l).length:Int))=true:=by simp;omega
  rw[hlt,cond_true]
  by_cases hc:(i:Int)=s/\(0:Int)<=a/\a<l[i].length
  ·obtain ⟨rfl,h0,h1⟩:=hc
   have:=zmz h (t:=a.toNat) hil (by omega) a.toNat 0 (by omega)
   rw[Int.toNat_of_nonneg h0] at this
   rw[show (0:Int)=((0:Nat):Int) from rfl,this]
   have hb:inB l i a 1:=⟨by omega,by omega,h0,by omega,by rw[ug hil];omega⟩
   simp[wg,hb]
  ·rw[show (0:Int)=((0:Nat):Int) from rfl,zmA h s a hil l[i].length 0 (by omega) (by simpa using hc)]
   refine ih (i+1) (by omega) fun hlt2 hb=>?_
   by_cases he:(i:Int)=s
   ·refine hc ⟨he,hb.2.2.1,?_⟩
    have:=hb.2.2.2.2
    rw[←he,ug hil] at this
    omega
   ·exact hs (by omega) hb
theorem Qg {l:List (List Int)} (h:zF l) (s a:Int):ev 197 [.pv (.sl 1 (zA l)),.pv (I s),.pv (I a)] []=wg l s a:=by
 rw[zh5]
 by_cases hs:0<=s
 ·exact zc4 h s a l.length 0 (by omega) (fun h' => by simp at h';omega)
 ·exact zc4 h s a l.length 0 (by omega) (fun _ hb=>by have:=hb.1;omega)
theorem WN {l:List (List Int)} (h:zF l) (s a:Int):ev 278 [.pv (.sl 1 (zA l)),.pv (I s),.pv (I a)] []=wg l s a:=ze8 h s a
def wd (l:List (List Int)) (s a:Int):Int:=rd (yq l s) a
theorem we {l:List (List Int)} (h:zF l) (s a:Int):zG (wd l s a):=zmF (Wu h s) a
theorem ZV {a:Int} (h:zG a):(zC a).1=a%4:=by
 obtain ⟨h1,h2⟩:=h
 unfold zC
 repeat' split
 all_goals (simp;omega)
theorem QN {a:Int} (hr:zG a) (h:a%4=2):zC a=(2,0,0,0,0,0,a/4%2==1,a/8%536870912,a/4294967296,0):=by
 obtain ⟨h1,h2⟩:=hr
 unfold zC
 rw[if_neg (by omega),if_neg (by omega),if_pos h,Int.emod_eq_of_lt (a:=a/4294967296) (by omega) (by omega)]
def Yb (l:List (List Int)) (a:Int):Int×Int×Int×Int :=
 if inB l (a/4294967296) (a/8%536870912) 1 then (if wd l (a/4294967296) (a/8%536870912)%4=2 then (0,0,0,3) else (wd l (a/4294967296) (a/8%536870912),a/4294967296,a/8%536870912+1,0)) else (0,0,0,2)
def Zw (l:List (List Int)) (a:Int):Int×Int×Int×Int :=
 if inB l (a/4294967296) (a/8%536870912) 2 then
  (if wd l (a/4294967296) (a/8%536870912)%4=2/\wd l (a/4294967296) (a/8%536870912)/4%2=0/\wd l (a/4294967296) (a/8%536870912+1)%4<=1/\(zC (wd l (a/4294967296) (a/8%536870912+1))).2.1=0
   then (wd l (a/4294967296) (a/8%536870912+1),wd l (a/4294967296) (a/8%536870912)/4294967296,wd l (a/4294967296) (a/8%536870912)/8%536870912,0) else (0,0,0,3)) else (0,0,0,2)
def zY (l:List (List Int)) (s a:Int):Int×Int×Int×Int :=
 if inB l s a 1 then (if wd l s a%4=2 then (if wd l s a/4%2=1 then Zw l (wd l s a) else Yb l (wd l s a)) else (wd l s a,s,a+1,0)) else (0,0,0,2)
def Zx (t:Int×Int×Int×Int):List PV:=[U t.1,I t.2.1,I t.2.2.1,I t.2.2.2]
def Wp (t:Int×Int×Int×Int):List PV:=[.agg [U t.1,I t.2.1,I t.2.2.1],I t.2.2.2]
theorem Qa {a:Int} (h:zG a):ev 279 [.pv (U a)] []=ok (Bo (a%4==2)):=by
 rw[zjN,xS h]
 simp[-getElem?_pos,zph,zpi,z6,yd,yk,ym,yi,ZV h]
theorem re {a:Int} (h:zG a) (hf:a%4=2):ev 297 [.pv (U a)] []=ok (.tup [I (a/4294967296),I (a/8%536870912)]):=by
 rw[zjO,xS h,QN h hf]
 obtain ⟨h1,h2⟩:=h
 simp[-getElem?_pos,zph,zpi,z6,yd,yk,ym,yi,ze (x:=a/4294967296) (by omega)]
theorem zfT {l:List (List Int)} (hl:zF l) {a:Int} (h:zG a) (hf:a%4=2):ev 280 [.pv (.sl 1 (zA l)),.pv (U a)] []=ok (.tup (Wp (Yb l a))):=by
 rw[zjQ,re h hf]
 have hw:=we hl (a/4294967296) (a/8%536870912)
 have hx:=Qa hw
 unfold wd at hx
 unfold Yb Wp
 by_cases hb:inB l (a/4294967296) (a/8%536870912) 1
 ·by_cases hc:wd l (a/4294967296) (a/8%536870912)%4=2
  ·unfold wd at hc
   simp[-getElem?_pos,zph,zpi,z6,yd,yk,ym,WN hl,wg,hb,hx,hc,wd]
  ·unfold wd at hc
   simp[-getElem?_pos,zph,zpi,z6,yd,yk,ym,WN hl,wg,hb,hx,hc,wd,ze (x:=a/8%536870912+1) (by omega)]
 ·simp[-getElem?_pos,zph,zpi,z6,yd,yk,ym,WN hl,wg,hb]
theorem zn7 (L:List Int) (n:Nat) (h:n+2<=L.length):(L.drop n).take 2=[L.getD n 0,L.getD (n+1) 0]:=by
 rw[List.drop_eq_getElem_cons (by omega),List.drop_eq_getElem_cons (i:=n+1) (by omega),List.getD_eq_getElem?_getD,List.getD_eq_getElem?_getD,List.getElem?_eq_getElem (by omega),List.getElem?_eq_getElem (by omega)]
 rfl
theorem zi3 {l:List (List Int)} {s a:Int} (h:inB l s a 2):cut l s a 2=[wd l s a,wd l s (a+1)]:=by
 obtain ⟨h1,h2,h3,h4,h5⟩:=h
 unfold cut wd rd
 rw[show (2:Int).toNat=2 from rfl,zn7 _ _ (by omega),show (a+1).toNat=a.toNat+1 by omega]
theorem zfl {l:List (List Int)} (hl:zF l) {a:Int} (h:zG a) (hf:a%4=2):ev 281 [.pv (.sl 1 (zA l)),.pv (U a)] []=ok (.tup (Wp (Zw l a))):=by
 rw[zjP,re h hf]
 unfold Zw Wp
 by_cases hb:inB l (a/4294967296) (a/8%536870912) 2
 case neg=>simp[-getElem?_pos,zph,zpi,z6,yd,yk,ym,Jq hl,hb]
 have h1:=we hl (a/4294967296) (a/8%536870912)
 have h2:=we hl (a/4294967296) (a/8%536870912+1)
 simp only[zf,zg,zpj,zO,zph,zpi,Jq hl _ _ 2 (by decide),hb,if_true,zi3 hb]
 generalize wd l (a/4294967296) (a/8%536870912)=y at h1
 generalize wd l (a/4294967296) (a/8%536870912+1)=z at h2
 have k1:=ZV h1
 have k2:=ZV h2
 by_cases c1:y%4=2
 case neg=>simp[-getElem?_pos,zph,zpi,z6,yd,yk,ym,ws,xS h1,xS h2,yi,k1,c1]
 have k3:=QN h1 c1
 by_cases c2:y/4%2=1
 case pos=>simp[-getElem?_pos,zph,zpi,z6,yd,yk,ym,ws,xS h1,xS h2,yi,k3,c1,c2]
 by_cases c3:z%4<=1
 case neg=>simp[-getElem?_pos,zph,zpi,z6,yd,yk,ym,ws,xS h1,xS h2,yi,k2,k3,c1,c2,c3,show 1<z%4 by omega]
 by_cases c4:(zC z).2.1=0
 case neg=>simp[-getElem?_pos,zph,zpi,z6,yd,yk,ym,ws,xS h1,xS h2,yi,k2,k3,c1,c2,c3,c4,show ¬1<z%4 by omega]
 obtain ⟨g1,g2⟩:=h1
 simp[-getElem?_pos,zph,zpi,z6,yd,yk,ym,ws,xS ⟨g1,g2⟩,xS h2,yi,k2,k3,c1,c2,c3,c4,show ¬1<z%4 by omega,show y/4%2=0 by omega,ze (x:=y/4294967296) (by omega)]
theorem Jk {l:List (List Int)} (hl:zF l) (s a:Int):ev 240 [.pv (.sl 1 (zA l)),.pv (I s),.pv (I a)] []=ok (.tup (Zx (zY l s a))):=by
 rw[zjM,WN hl]
 unfold zY Zx
 by_cases hb:inB l s a 1
 case neg=>simp[-getElem?_pos,zph,zpi,z6,yd,yk,ym,wg,hb]
 have h0:=we hl s a
 have hlen:=(Wu hl s).1
 have ha:a+1<=9223372036854775807/\0<=a:=by have:=hb.2.2;omega
 simp only[wg,hb,if_true,zf,zg,zpj,zO,zph,zpi,xc,show rd (yq l s) a=wd l s a from rfl]
 by_cases hf:wd l s a%4=2
 case neg=>simp[-getElem?_pos,zph,zpi,z6,yd,yk,ym,Qa h0,hf,ze (x:=a+1) (by omega),xq]
 generalize wd l s a=x at h0 hf
 by_cases h4:x/4%2=1
 ·simp only[hf,h4,if_true,Qa h0,xS h0,zfl hl h0 hf]
  unfold Zw
  repeat' split
  all_goals (simp[-getElem?_pos,zph,zpi,z6,yd,yk,ym,yi,QN h0 hf,Wp,hf,h4,xq];try (split<;>rfl))
 ·simp only[hf,h4,if_true,if_false,Qa h0,xS h0,zfT hl h0 hf]
  unfold Yb
  repeat' split
  all_goals (simp[-getElem?_pos,zph,zpi,z6,yd,yk,ym,yi,QN h0 hf,Wp,hf,h4,xq];try (split<;>rfl))
theorem Yn {a:Int} (h:zG a):ev 198 [.pv (U a)] []=ok (Bo (a%4==2)):=by
 rw[zib,Int.tmod_eq_emod_of_nonneg h.1]
theorem rL {a:Int} (h:zG a):ev 199 [.pv (U a)] []=ok (.tup [I (a/4294967296),I (a/8%536870912)]):=by
 obtain ⟨h1,h2⟩:=h
 rw[zic,Int.tdiv_eq_ediv_of_nonneg h1,Int.tmod_eq_emod_of_nonneg h1,Int.tdiv_eq_ediv_of_nonneg (by omega),xR (x:=a/4294967296) (by omega),xR (by omega),ze (x:=a/4294967296) (by omega),ze (by omega)]
 simp
 omega
theorem inB_two {l:List (List Int)} {s a:Int}:inB l s a 2↔inB l s a 1/\inB l s (a+1) 1:=by
 unfold inB
 omega
theorem Jz {l:List (List Int)} (hl:zF l) (s a:Int):ev 136 [.pv (.sl 1 (zA l)),.pv (I s),.pv (I a)] []=ok (.tup (Zx (zY l s a))):=by
 rw[zia,Qg hl]
 unfold zY Zx
 by_cases hb:inB l s a 1
 case neg=>simp[-getElem?_pos,zph,zpi,z6,yd,yk,ym,wg,hb]
 have h0:=we hl s a
 have hlen:=(Wu hl s).1
 have ha:a+1<=9223372036854775807/\0<=a:=by have:=hb.2.2;omega
 simp only[wg,hb,if_true,zf,zg,zpj,zO,zph,zpi,xc,show rd (yq l s) a=wd l s a from rfl]
 by_cases hf:wd l s a%4=2
 case neg=>simp[-getElem?_pos,zph,zpi,z6,yd,yk,ym,Yn h0,hf,ze (x:=a+1) (by omega)]
 generalize wd l s a=x at h0 hf
 have hbit:Int.tmod (IntKind.wrap .u64 (Int.tdiv x 4)) 2=x/4%2:=by
  obtain ⟨g1,g2⟩:=h0
  rw[Int.tdiv_eq_ediv_of_nonneg g1,xR (by omega),Int.tmod_eq_emod_of_nonneg (by omega)]
 have h1:=we hl (x/4294967296) (x/8%536870912)
 have h2:=we hl (x/4294967296) (x/8%536870912+1)
 have hv1:=Qg hl (x/4294967296) (x/8%536870912)
 have hv2:=Qg hl (x/4294967296) (x/8%536870912+1)
 simp only[Yn h0,rL h0,hf,beq_self_eq_true,Bool.not_true,cond_false,if_true,zf,zg,zpj,zO,zph,zpi,xc,Z1,hbit,hv1,ze (x:=x/8%536870912+1) (by omega),hv2]
 by_cases hb1:inB l (x/4294967296) (x/8%536870912) 1
 case neg=>
  have hb2:¬inB l (x/4294967296) (x/8%536870912) 2:=fun h=>hb1 (inB_two.1 h).1
  by_cases h4:x/4%2=1
  ·simp[-getElem?_pos,zph,zpi,z6,yd,yk,ym,wg,hb1,h4,Zw,hb2]
  ·simp[-getElem?_pos,zph,zpi,z6,yd,yk,ym,wg,hb1,h4,Yb]
 by_cases h4:x/4%2=1
 case neg=>
  have h40:x/4%2=0:=by omega
  have e:rd (yq l (x/4294967296)) (x/8%536870912)=wd l (x/4294967296) (x/8%536870912):=rfl
  simp only[wg,hb1,if_true,e,h4,if_false,Yb,h40,zf,zg,zpj,zO,zph,zpi,xc,Yn h1]
  by_cases c1:wd l (x/4294967296) (x/8%536870912)%4=2
  ·simp[-getElem?_pos,zph,zpi,z6,yd,yk,ym,c1]
  ·simp[-getElem?_pos,zph,zpi,z6,yd,yk,ym,c1]
 have h40:¬x/4%2=0:=by omega
 have e:rd (yq l (x/4294967296)) (x/8%536870912)=wd l (x/4294967296) (x/8%536870912):=rfl
 have e':rd (yq l (x/4294967296)) (x/8%536870912+1)=wd l (x/4294967296) (x/8%536870912+1):=rfl
 by_cases hb2:inB l (x/4294967296) (x/8%536870912+1) 1
 case neg=>
  have hb3:¬inB l (x/4294967296) (x/8%536870912) 2:=fun h=>hb2 (inB_two.1 h).2
  simp[-getElem?_pos,zph,zpi,z6,yd,yk,ym,wg,hb1,hb2,h4,Zw,hb3]
 have hb3:inB l (x/4294967296) (x/8%536870912) 2:=inB_two.2 ⟨hb1,hb2⟩
 simp only[wg,hb1,hb2,hb3,if_true,e,e',h4,Zw,zf,zg,zpj,zO,zph,zpi,xc]
 generalize wd l (x/4294967296) (x/8%536870912)=y at h1
 generalize wd l (x/4294967296) (x/8%536870912+1)=z at h2
 have k2:=ZV h2
 have hbit1:Int.tmod (IntKind.wrap .u64 (Int.tdiv y 4)) 2=y/4%2:=by
  obtain ⟨g1,g2⟩:=h1
  rw[Int.tdiv_eq_ediv_of_nonneg g1,xR (by omega),Int.tmod_eq_emod_of_nonneg (by omega)]
 have kl:=rL h1
 by_cases c1:y%4=2
 case neg=>simp[-getElem?_pos,zph,zpi,z6,yd,yk,ym,Y2 h2,Yn h1,yi,k2,c1]
 by_cases c2:y/4%2=1
 case pos=>simp[-getElem?_pos,zph,zpi,z6,yd,yk,ym,Y2 h2,Yn h1,yi,k2,c1,c2,hbit1]
 by_cases c3:z%4<=1
 case neg=>simp[-getElem?_pos,zph,zpi,z6,yd,yk,ym,Y2 h2,Yn h1,yi,k2,c1,c2,c3,hbit1,show 1<z%4 by omega]
 by_cases c4:(zC z).2.1=0
 case neg=>simp[-getElem?_pos,zph,zpi,z6,yd,yk,ym,Y2 h2,Yn h1,yi,k2,c1,c2,c3,c4,hbit1,show ¬1<z%4 by omega]
 simp[-getElem?_pos,zph,zpi,z6,yd,yk,ym,Y2 h2,Yn h1,yi,k2,c1,c2,c3,c4,hbit1,show ¬1<z%4 by omega,show y/4%2=0 by omega,kl]
structure Ob where
 kind:Int
 seg:Int
 at_:Int
 data:Int
 ptrs:Int
 elem:Int
 n:Int
 cost:Int
 deriving DecidableEq
def Ob.c (o:Ob):List PV:=[I o.kind,I o.seg,I o.at_,I o.data,I o.ptrs,I o.elem,I o.n,I o.cost]
def wY:Ob:=⟨0,0,0,0,0,0,0,0⟩
def xO (t:Ob×Int):List PV:=[.agg t.1.c,I t.2]
def bitsOf (e:Int):Int:=if e=1 then 1 else if e=2 then 8 else if e=3 then 16 else if e=4 then 32 else if e=5 then 64 else if e=6 then 64 else 0
theorem zg4 (e:Int):0<=bitsOf e/\bitsOf e<=64:=by
 unfold bitsOf
 repeat' split
 all_goals omega
def zs (e c:Int):Int:=if e=7 then c+1 else (bitsOf e*c+63)/64
theorem Yp {e c:Int} (hc:0<=c/\c<=536870911):0<=bitsOf e*c/\bitsOf e*c<=64*536870911:=by
 have hb:=zg4 e
 exact ⟨Int.mul_nonneg hb.1 hc.1,Int.mul_le_mul hb.2 hc.2 hc.1 (by omega)⟩
theorem Zo {e c:Int} (hc:0<=c/\c<=536870911):0<=zs e c/\zs e c<=536870912:=by
 have h:=Yp (e:=e) hc
 unfold zs
 split<;>omega
theorem jx {e:Int} (he:0<=e/\e<=7):([I 0,I 1,I 8,I 16,I 32,I 64,I 64,I 0]:List PV)[e.toNat]? = some (I (bitsOf e)):=by
 obtain ⟨h1,h2⟩:=he
 have:e=0∨e=1∨e=2∨e=3∨e=4∨e=5∨e=6∨e=7:=by omega
 rcases this with rfl|rfl|rfl|rfl|rfl|rfl|rfl|rfl<;>rfl
theorem Jr {e c:Int} (he:0<=e/\e<=7) (hc:0<=c/\c<=536870911):ev 221 [.pv (I e),.pv (I c)] []=ok (I (zs e c)):=by
 have h:=Yp (e:=e) hc
 rw[zkL]
 unfold zs
 by_cases h7:e=7
 ·simp[-getElem?_pos,zph,zpi,z6,yd,yk,ym,h7,ze (x:=c+1) (by omega)]
 ·have hb:=jx he
  simp only[I] at hb
  rw[show (0+e.toNat*1)=e.toNat by omega]
  simp only[hb,zcf]
  rw[if_neg h7]
  simp[-getElem?_pos,zph,zpi,z6,yd,yk,ym,h7,he.1,show e<8 by omega,yP,ze (x:=bitsOf e*c) (by omega),ze (x:=bitsOf e*c+64) (by omega),ze (x:=bitsOf e*c+64-1) (by omega)]
  rw[Int.tdiv_eq_ediv_of_nonneg (by omega),ze (by omega),show bitsOf e*c+64-1=bitsOf e*c+63 by omega]
theorem rJ (e:Int):ev 189 [.pv (I e)] []=ok (I (bitsOf e)):=by
 rw[zh6]
 unfold bitsOf
 simp only[yd]
 repeat' split
 all_goals rfl
theorem zfM {e c:Int} (hc:0<=c/\c<=536870911):ev 128 [.pv (I e),.pv (I c)] []=ok (I (zs e c)):=by
 have h:=Yp (e:=e) hc
 rw[zh9,rJ]
 unfold zs
 by_cases h7:e=7
 ·simp[-getElem?_pos,zph,zpi,z6,yd,yk,ym,h7,ze (x:=c+1) (by omega)]
 ·simp only[zf,zg,zpj,Z1,yd,z6,if_neg h7]
  rw[ze (x:=bitsOf e*c) (by omega),Int.tdiv_eq_ediv_of_nonneg (by omega),ze (x:=bitsOf e*c/64) (by omega),ze (x:=bitsOf e*c/64*64) (by omega),ze (x:=bitsOf e*c/64+1) (by omega)]
  split
  ·rw[show bitsOf e*c/64+1=(bitsOf e*c+63)/64 by omega]
  ·rw[show bitsOf e*c/64=(bitsOf e*c+63)/64 by omega]
def bad (e:Int):Ob×Int:=(wY,e)
def wL (l:List (List Int)) (s st d q:Int):Ob×Int:=if inB l s st (d+q) then (⟨1,s,st,d,q,0,0,d+q⟩,0) else bad 2
def wC (l:List (List Int)) (s st c:Int):Ob×Int :=
 if inB l s st (c+1) then
  (if (zC (wd l s st)).1=0/\0<=(zC (wd l s st)).2.1/\(zC (wd l s st)).2.1*((zC (wd l s st)).2.2.1+(zC (wd l s st)).2.2.2.1)<=c then (⟨2,s,st+1,(zC (wd l s st)).2.2.1,(zC (wd l s st)).2.2.2.1,7,(zC (wd l s st)).2.1,c+1+(if (zC (wd l s st)).2.2.1+(zC (wd l s st)).2.2.2.1=0 then (zC (wd l s st)).2.1 else 0)⟩,0) else bad 5) else bad 2
def wn (l:List (List Int)) (s st e c:Int):Ob×Int:=if e=7 then wC l s st c else if inB l s st (zs e c) then (⟨2,s,st,0,0,e,c,zs e c⟩,0) else bad 2
def wZ (l:List (List Int)) (s b:Int) (p:PT):Ob×Int :=
 if p.1=0 then wL l s (b+p.2.1) p.2.2.1 p.2.2.2.1 else if p.1=1 then wn l s (b+p.2.1) p.2.2.2.2.1 p.2.2.2.2.2.1 else if p.2.2.2.2.2.2.2.2.2=0 then bad 6 else bad 4
def yz (l:List (List Int)) (s a:Int):Ob×Int :=
 if (zY l s a).2.2.2=0 then (if (zY l s a).1=0 then bad 0 else wZ l (zY l s a).2.1 (zY l s a).2.2.1 (zC (zY l s a).1)) else bad (zY l s a).2.2.2
theorem vz {x:Int} (h:zG x):-536870912<=(zC x).2.1/\(zC x).2.1<=536870911/\0<=(zC x).2.2.1/\(zC x).2.2.1<=65535/\0<=(zC x).2.2.2.1/\(zC x).2.2.2.1<=65535/\0<=(zC x).2.2.2.2.1/\(zC x).2.2.2.2.1<=7/\0<=(zC x).2.2.2.2.2.1/\(zC x).2.2.2.2.2.1<=536870911/\0<=(zC x).1/\(zC x).1<=3:=by
 obtain ⟨h1,h2⟩:=h
 unfold zC wR
 repeat' split
 all_goals (simp only[];try split)
 all_goals (simp;try omega)
def Sm (l:List (List Int)):Prop:=∀ s,((yq l s).length:Int)<=1099511627776
theorem zbt {l:List (List Int)} (hl:zF l) (hs:Sm l) (s a:Int) (h:(zY l s a).2.2.2=0):0<=(zY l s a).2.2.1/\(zY l s a).2.2.1<=1099511627777:=by
 obtain ⟨h0,h0'⟩:=we hl s a
 have hs':=hs s
 unfold zY at h ⊢
 by_cases hb:inB l s a 1
 case neg=>rw[if_neg hb] at h;simp at h
 rw[if_pos hb] at h ⊢
 by_cases hf:wd l s a%4=2
 case neg=>
  rw[if_neg hf] at h ⊢
  unfold inB at hb
  simp only
  omega
 rw[if_pos hf] at h ⊢
 generalize wd l s a=x at *
 by_cases h4:x/4%2=1
 ·rw[if_pos h4] at h ⊢
  unfold Zw at h ⊢
  by_cases c1:inB l (x/4294967296) (x/8%536870912) 2
  case neg=>rw[if_neg c1] at h;simp at h
  rw[if_pos c1] at h ⊢
  split at h
  ·rename_i c2
   rw[if_pos c2]
   simp only
   omega
  ·simp at h
 ·rw[if_neg h4] at h ⊢
  unfold Yb at h ⊢
  by_cases c1:inB l (x/4294967296) (x/8%536870912) 1
  case neg=>rw[if_neg c1] at h;simp at h
  rw[if_pos c1] at h ⊢
  split at h
  ·simp at h
  ·rename_i c2
   rw[if_neg c2]
   simp only
   omega
theorem Vr {l:List (List Int)} (hl:zF l) (s a:Int):zG (zY l s a).1:=by
 have w0:zG 0:=⟨by decide,by decide⟩
 unfold zY
 split
 ·split
  ·split
   ·unfold Zw
    split
    ·split
     ·exact we hl _ _
     ·exact w0
    ·exact w0
   ·unfold Yb
    split
    ·split
     ·exact w0
     ·exact we hl _ _
    ·exact w0
  ·exact we hl _ _
 ·exact w0
theorem rY {l:List (List Int)} (hl:zF l) (o:Ob) (st n:Int):ev 282 [.pv (.sl 1 (zA l)),.pv (.agg o.c),.pv (I st),.pv (I n)] []=ok (.tup (xO (if inB l o.seg st n then (o,0) else bad 2))):=by
 rw[Ob.c,zmQ,WM hl]
 split<;>simp[-getElem?_pos,zph,zpi,z6,yd,yk,ym, *,xO,Ob.c,bad,wY]
theorem zfV {l:List (List Int)} (hl:zF l) (p:PT) (s st:Int) (hp:0<=p.2.2.1/\p.2.2.1<=65535/\0<=p.2.2.2.1/\p.2.2.2.1<=65535):ev 241 [.pv (.sl 1 (zA l)),.pv (.agg (yi p)),.pv (I s),.pv (I st)] []=ok (.tup (xO (wL l s st p.2.2.1 p.2.2.2.1))):=by
 rw[yi,zmP,ze (x:=p.2.2.1+p.2.2.2.1) (by omega)]
 have:=rY hl ⟨1,s,st,p.2.2.1,p.2.2.2.1,0,0,p.2.2.1+p.2.2.2.1⟩ st (p.2.2.1+p.2.2.2.1)
 simp only[Ob.c] at this
 rw[this]
 unfold wL
 split<;>simp[-getElem?_pos,zph,zpi,z6,yd,yk,ym,xO,Ob.c,bad,wY]
theorem zbR {l:List (List Int)} {s st n:Int} (h:inB l s st n) (hn:1<=n):inB l s st 1:=by unfold inB at h ⊢;omega
theorem WA {o n:Int} (ho:0<=o/\o<=536870911) (hn:0<=n/\n<=131070):0<=o*n/\o*n<=536870911*131070:=⟨Int.mul_nonneg ho.1 hn.1,Int.mul_le_mul ho.2 hn.2 hn.1 (by omega)⟩
theorem zfh {l:List (List Int)} (hl:zF l) (hs:Sm l) (p:PT) (s st:Int) (hc:0<=p.2.2.2.2.2.1/\p.2.2.2.2.2.1<=536870911):ev 283 [.pv (.sl 1 (zA l)),.pv (.agg (yi p)),.pv (I s),.pv (I st)] []=ok (.tup (xO (wC l s st p.2.2.2.2.2.1))):=by
 have hs':=hs s
 rw[yi,zmM]
 generalize p.2.2.2.2.2.1=c at hc
 unfold wC
 rw[ze (x:=c+1) (by omega),WM hl]
 by_cases hb:inB l s st (c+1)
 case neg=>simp[-getElem?_pos,zph,zpi,z6,yd,yk,ym,hb,xO,bad,wY,Ob.c]
 have hst:0<=st/\st<=1099511627776:=by unfold inB at hb;omega
 have hw:ev 278 [.pv (.sl 1 (zA l)),.pv (I s),.pv (I st)] []=ok (.tup [U (wd l s st),Bo true]):=by
  rw[WN hl,wg,if_pos (zbR hb (by omega))]
  rfl
 have h0:=we hl s st
 have hd:=vz h0
 rw[hw]
 simp only[hb,decide_true,Bool.not_true,cond_false,zf,zg,zpj,xc,zO,zph,zpi,xS h0,if_true]
 generalize zC (wd l s st)=q at hd
 obtain ⟨k,o,d,m,e,c',b,pd,sg,lo⟩:=q
 simp only at hd ⊢
 by_cases hk:k=0
 case neg=>simp[-getElem?_pos,zph,zpi,z6,yd,yk,ym,hk,yi,xO,bad,wY,Ob.c]
 by_cases ho:o<0
 case pos=>simp[-getElem?_pos,zph,zpi,z6,yd,yk,ym,hk,ho,yi,xO,bad,wY,Ob.c,show ¬0<=o by omega]
 have hm:=WA (o:=o) (n:=d+m) (by omega) (by omega)
 by_cases hg:o*(d+m)<=c
 case neg=>simp[-getElem?_pos,zph,zpi,z6,yd,yk,ym,hk,ho,yi,xO,bad,wY,Ob.c,hg,ze (x:=d+m) (by omega),ze (x:=o*(d+m)) (by omega),show c<o*(d+m) by omega]
 by_cases hz:d+m=0
 ·simp[-getElem?_pos,zph,zpi,z6,yd,yk,ym,hk,ho,yi,xO,bad,wY,Ob.c,hg,ze (x:=d+m) (by omega),ze (x:=o*(d+m)) (by omega),show ¬c<o*(d+m) by omega,show 0<=o by omega,hz,ze (x:=0) (by omega),show ¬c<0 by omega,hc.1,ze (x:=st+1) (by omega),ze (x:=c+1+o) (by omega)]
 ·simp[-getElem?_pos,zph,zpi,z6,yd,yk,ym,hk,ho,yi,xO,bad,wY,Ob.c,hg,ze (x:=d+m) (by omega),ze (x:=o*(d+m)) (by omega),show ¬c<o*(d+m) by omega,show 0<=o by omega,hz,ze (x:=st+1) (by omega)]
theorem zfq {l:List (List Int)} (hl:zF l) (hs:Sm l) (p:PT) (s st:Int) (he:0<=p.2.2.2.2.1/\p.2.2.2.2.1<=7) (hc:0<=p.2.2.2.2.2.1/\p.2.2.2.2.2.1<=536870911):ev 242 [.pv (.sl 1 (zA l)),.pv (.agg (yi p)),.pv (I s),.pv (I st)] []=ok (.tup (xO (wn l s st p.2.2.2.2.1 p.2.2.2.2.2.1))):=by
 have hco:=zfh hl hs p s st hc
 rw[yi,zmN,Jr he hc]
 have hco':=hco
 rw[yi] at hco'
 unfold wn
 by_cases h7:p.2.2.2.2.1=7
 ·simp only[yd,if_pos h7]
  rw[hco']
  simp[-getElem?_pos,zph,zpi,z6,yd,yk,ym,xO,Ob.c]
 ·have:=rY hl ⟨2,s,st,0,0,p.2.2.2.2.1,p.2.2.2.2.2.1,zs p.2.2.2.2.1 p.2.2.2.2.2.1⟩ st (zs p.2.2.2.2.1 p.2.2.2.2.2.1)
  simp only[Ob.c] at this
  simp only[yd,if_neg h7]
  simp only[zf,zg,zpj,yw,Bool.and_self,cond_true,this]
  split<;>simp[-getElem?_pos,zph,zpi,z6,yd,yk,ym,xO,Ob.c,bad,wY]
theorem zfw {l:List (List Int)} (p:PT) (s st:Int) (h3:p.1=3):ev 243 [.pv (.sl 1 (zA l)),.pv (.agg (yi p)),.pv (I s),.pv (I st)] []=ok (.tup (xO (if p.2.2.2.2.2.2.2.2.2=0 then bad 6 else bad 4))):=by
 rw[yi,zmO,zl4]
 by_cases h:p.2.2.2.2.2.2.2.2.2=0
 ·simp[-getElem?_pos,zph,zpi,z6,yd,yk,ym,h3,h,xO,bad,wY,Ob.c]
 ·simp[-getElem?_pos,zph,zpi,z6,yd,yk,ym,h3,h,xO,bad,wY,Ob.c]
theorem zbv {l:List (List Int)} (hl:zF l) (s a:Int) (h:(zY l s a).2.2.2=0):(zY l s a).1%4≠2:=by
 unfold zY at h ⊢
 split at h
 case isFalse=>simp at h
 rename_i hb
 rw[if_pos hb]
 split at h
 case isFalse=>rename_i hf;rw[if_neg hf];exact hf
 rename_i hf
 rw[if_pos hf]
 split at h
 ·rename_i h4
  rw[if_pos h4]
  unfold Zw at h ⊢
  split at h
  case isFalse=>simp at h
  rename_i c1
  rw[if_pos c1]
  split at h
  case isFalse=>simp at h
  rename_i c2
  rw[if_pos c2]
  simp only
  omega
 ·rename_i h4
  rw[if_neg h4]
  unfold Yb at h ⊢
  split at h
  case isFalse=>simp at h
  rename_i c1
  rw[if_pos c1]
  split at h
  case isTrue=>simp at h
  rename_i c2
  rw[if_neg c2]
  exact c2
theorem Jn {l:List (List Int)} (hl:zF l) (hs:Sm l) (s a:Int):ev 184 [.pv (.sl 1 (zA l)),.pv (I s),.pv (I a)] []=ok (.tup (xO (yz l s a))):=by
 rw[zmK,Jk hl]
 unfold yz
 have hb:=zbt hl hs s a
 have hw:=Vr hl s a
 have hk:=zbv hl s a
 generalize zY l s a=t at hb hw hk
 obtain ⟨w,s',b,e⟩:=t
 dsimp only at hb hw hk
 dsimp only[Zx,zf,zg,zpj,zO,zpi,zph,zK]
 by_cases he:e=0
 case neg=>
  rw[if_neg he,bne_iff_ne.2 he]
  rfl
 subst he
 rw[if_pos rfl,show ((0:Int) != 0)=false from rfl]
 dsimp only[zt]
 rw[Wq]
 dsimp only[zf,zg,zpj,xc]
 by_cases hz:w=0
 case pos=>
  rw[if_pos hz,beq_iff_eq.2 hz]
  rfl
 have hd:=vz hw
 have hk':=hk rfl
 have hb':=hb rfl
 rw[←ZV hw] at hk'
 rw[if_neg hz,beq_eq_false_iff_ne.2 hz]
 dsimp only[zt]
 rw[xS hw]
 generalize zC w=p at hd hk'
 have h1:=zfV hl p s' (b+p.2.1) (by omega)
 have h2:=zfq hl hs p s' (b+p.2.1) (by omega) (by omega)
 have h3:=zfw (l:=l) p s' (b+p.2.1)
 have hwp:=ze (x:=b+p.2.1) (by omega)
 unfold wZ
 rw[yi] at h1 h2 h3 ⊢
 dsimp only[zf,zg,zpj,yT,zph,zpi,yw,zr,zK,xt,zc]
 have h4:p.1=0∨p.1=1∨p.1=3:=by omega
 rcases h4 with h|h|h
 ·rw[h] at h1 ⊢
  rw[show (decide ((0:Int)<=0)&&decide ((0:Int)<4))=true from rfl,show ((0:Int)==0)=true from rfl]
  dsimp only[zc]
  rw[hwp,h1,if_pos rfl]
  rfl
 ·rw[h] at h2 ⊢
  rw[show (decide ((0:Int)<=1)&&decide ((1:Int)<4))=true from rfl,show ((0:Int)==1)=false from rfl,show ((1:Int)==1)=true from rfl]
  dsimp only[zc,zt]
  rw[hwp,h2,if_neg (by decide),if_pos rfl]
  rfl
 ·have h3':=h3 h
  rw[h] at h3' ⊢
  rw[show (decide ((0:Int)<=3)&&decide ((3:Int)<4))=true from rfl,show ((0:Int)==3)=false from rfl,show ((1:Int)==3)=false from rfl,show ((2:Int)==3)=false from rfl,show ((3:Int)==3)=true from rfl]
  dsimp only[zc,zt]
  rw[hwp,h3',if_neg (show ¬(3:Int)=0 by decide),if_neg (show ¬(3:Int)=1 by decide)]
  split<;>rfl
theorem zfI {l:List (List Int)} (hl:zF l) (hs:Sm l) (s a:Int):ev 137 [.pv (.sl 1 (zA l)),.pv (I s),.pv (I a)] []=ok (.tup (xO (yz l s a))):=by
 rw[zie,Jz hl]
 unfold yz
 have hb:=zbt hl hs s a
 have hw:=Vr hl s a
 have hk:=zbv hl s a
 generalize zY l s a=t at hb hw hk
 obtain ⟨w,s',b,e⟩:=t
 dsimp only at hb hw hk
 dsimp only[Zx,zf,zg,zpj,zO,zpi,zph,zK,yw,zr,zc,wM]
 by_cases he:e=0
 case neg=>
  rw[if_neg he,bne_iff_ne.2 he]
  rfl
 subst he
 rw[if_pos rfl,show ((0:Int) != 0)=false from rfl]
 dsimp only[zt]
 by_cases hz:w=0
 case pos=>
  rw[if_pos hz,beq_iff_eq.2 hz]
  rfl
 have hd:=vz hw
 have hk':=hk rfl
 have hb':=hb rfl
 rw[←ZV hw] at hk'
 rw[if_neg hz,beq_eq_false_iff_ne.2 hz]
 dsimp only[zt]
 rw[Y2 hw]
 generalize zC w=p at hd hk'
 obtain ⟨k,of_,d,q,e,c,db,pd,sg,lo⟩:=p
 dsimp only at hd hk'
 have hwp:=ze (x:=b+of_) (by omega)
 unfold wZ
 dsimp only[yi,zf,zg,zpj,yT,zph,zpi,yw,zr,zlD,zK,zc]
 have h4:k=0∨k=1∨k=3:=by omega
 rcases h4 with rfl|rfl|rfl
 ·rw[show ((0:Int)==3)=false from rfl,show ((0:Int)==0)=true from rfl]
  dsimp only[zc,zt]
  rw[hwp,ze (x:=d+q) (by omega),JA hl,if_pos rfl]
  unfold wL
  by_cases hb1:inB l s' (b+of_) (d+q)
  ·rw[decide_eq_true hb1,if_pos hb1];rfl
  ·rw[decide_eq_false hb1,if_neg hb1];rfl
 ·rw[show ((1:Int)==3)=false from rfl,show ((1:Int)==0)=false from rfl]
  dsimp only[zt]
  rw[zfM (e:=e) (c:=c) (by omega),if_neg (by decide),if_pos rfl]
  dsimp only[zf,zg,zpj,yw,zr,zc,zK]
  rw[hwp,JA hl]
  dsimp only[zf,zg,zpj,xc]
  unfold wn
  have hwr:=Zo (e:=e) (c:=c) (by omega)
  by_cases h7:e=7
  case neg=>
   rw[if_neg h7]
   by_cases hb1:inB l s' (b+of_) (zs e c)
   ·rw[decide_eq_true hb1,if_pos hb1,bne_iff_ne.2 h7];rfl
   ·rw[decide_eq_false hb1,if_neg hb1];rfl
  subst h7
  have hwo:zs 7 c=c+1:=by simp[zs]
  rw[hwo,if_pos rfl]
  unfold wC
  by_cases hb1:inB l s' (b+of_) (c+1)
  case neg=>rw[decide_eq_false hb1,if_neg hb1];rfl
  have hst:0<=b+of_/\b+of_<=1099511627776:=by have:=hs s';unfold inB at hb1;omega
  have hww:ev 197 [.pv (.sl 1 (zA l)),.pv (I s'),.pv (I (b+of_))] []=ok (.tup [U (wd l s' (b+of_)),Bo true]):=by
   rw[Qg hl,wg,if_pos (zbR hb1 (by omega))]
   rfl
  have h0:=we hl s' (b+of_)
  have hd2:=vz h0
  rw[decide_eq_true hb1,if_pos hb1,show ((7:Int) != 7)=false from rfl]
  dsimp only[vN,zt]
  rw[hww]
  dsimp only[zf,zg,zpj,zO,zpi,zph]
  rw[Y2 h0]
  generalize zC (wd l s' (b+of_))=y at hd2
  obtain ⟨k,o,d2,m,e2,c',b2,pd2,sg2,lo2⟩:=y
  dsimp only at hd2
  dsimp only[yi,zf,zg,zpj,yT,zph,zpi,yw,zr,zK,zc]
  by_cases hk:k=0
  case neg=>rw[bne_iff_ne.2 hk,if_neg (fun h=>hk h.1)];rfl
  subst hk
  rw[show ((0:Int) != 0)=false from rfl]
  dsimp only[zt]
  by_cases ho:o<0
  case pos=>rw[decide_eq_true ho,if_neg (fun h=>by omega)];rfl
  rw[decide_eq_false ho]
  dsimp only[zt]
  have hm:=WA (o:=o) (n:=d2+m) (by omega) (by omega)
  rw[ze (x:=d2+m) (by omega),ze (x:=o*(d2+m)) (by omega),ze (x:=b+of_+1) (by omega),ze (x:=c+1+o) (by omega)]
  by_cases hg:o*(d2+m)<=c
  case neg=>rw[decide_eq_true (show o*(d2+m)>c by omega),if_neg (fun h=>hg h.2.2)];rfl
  rw[decide_eq_false (show ¬o*(d2+m)>c by omega),if_pos ⟨rfl,by omega,hg⟩]
  dsimp only[zt]
  by_cases hz2:d2+m=0
  ·rw[beq_iff_eq.2 hz2,if_pos hz2];rfl
  ·rw[beq_eq_false_iff_ne.2 hz2,if_neg hz2,Int.add_zero];rfl
 ·rw[show ((3:Int)==3)=true from rfl,if_neg (show ¬(3:Int)=0 by decide),if_neg (show ¬(3:Int)=1 by decide)]
  dsimp only[zc]
  by_cases hlo:lo=0
  ·rw[beq_iff_eq.2 hlo,if_pos hlo];rfl
  ·rw[beq_eq_false_iff_ne.2 hlo,if_neg hlo];rfl
theorem yQ {n b:Nat} (h:n*b<=140737488355328) (h1:n<=140737488355328):yf n b=true:=by simp[yf,h,h1]
def w8 (w:Int):List Int:=(List.range 8).map fun k=>w/256^k%256
def zu (l:List Int):List Int:=l.flatMap w8
theorem wb (w:Int):(w8 w).length=8:=by simp[w8]
theorem y3 (l:List Int):(zu l).length=8*l.length:=by
 induction l with
 |nil=>rfl
 |cons w l ih=>simp only[zu,List.flatMap_cons,zpk,wb,zpl] at ih ⊢;omega
theorem xY (l:List Int):∀ b∈zu l,zq b:=by
 intro b hb
 obtain ⟨w,_,hw⟩:=List.mem_flatMap.1 hb
 obtain ⟨k,_,rfl⟩:=List.mem_map.1 hw
 exact ⟨by omega,by omega⟩
theorem zep {w:Int} {k:Nat} (h:k<8):(w8 w).take (k+1)=(w8 w).take k++[w/256^k%256]:=by
 rw[List.take_succ_eq_append_getElem (by simp[wb,h])]
 simp[w8]
theorem vu (a b:List Int):bs (a++b)=bs a++bs b:=by simp[bs]
theorem zly (w:Int) (k:Nat) (hk:k<8):Int.fdiv w (2^(min ((8*k:Nat):Int).toNat 64))=w/256^k:=by
 rw[Int.toNat_natCast,Nat.min_eq_left (by omega),Int.fdiv_eq_ediv_of_nonneg _ (Int.le_of_lt (Int.pow_pos (by decide))),Int.pow_mul]
 rfl
theorem zoH {l:List Int} (w:Int) (n i:Int) (hi:0<=i/\i<=9000000000000000000) (acc:List Int) (ha:acc.length+8<=140737488355328):∀ (d k:Nat),k+d=8->K4 (bs (acc++(w8 w).take k)) (U w) (ws l) n i k=VZ (bs (acc++w8 w)) (ws l) n (i+1):=by
 intro d
 induction d with
 |zero=>
  intro k hk
  obtain rfl:k=8:=by omega
  rw[zet,List.take_of_length_le (by simp[wb])]
  rw[show decide (((8:Nat):Int)<8)=false from rfl,ze (x:=i+1) (by omega)]
  rfl
 |succ d ih=>
  intro k hk
  rw[zet,decide_eq_true (show (k:Int)<8 by omega)]
  dsimp only[wM,zpj,zc]
  have e:IntKind.wrap .u64 (IntKind.wrap .i64 (8*(k:Int)))=((8*k:Nat):Int):=by rw[ze (by omega),xR (by omega)];push_cast;rfl
  have hr:yf ((bs (acc++(w8 w).take k)).length+1) 1=true:=yQ (by simp[wb];omega) (by simp[wb];omega)
  rw[e,zly w k (by omega),Xu,hr,ze (x:=(k:Int)+1) (by omega)]
  have:=ih (k+1) (by omega)
  rw[zep (by omega),←List.append_assoc,vu] at this
  simp only[yP,Int.natCast_nonneg,decide_true,cond_true]
  exact this
theorem zoI (l:List Int) (hl:l.length<=17592186044416):∀ (d i:Nat),i+d=l.length->VZ (bs (zu (l.take i))) (ws l) l.length i=ok (.sl 1 (bs (zu l))):=by
 intro d
 induction d with
 |zero=>
  intro i hi
  obtain rfl:i=l.length:=by omega
  rw[zes,decide_eq_false (by omega),List.take_length]
  rfl
 |succ d ih=>
  intro i hi
  have hil:i<l.length:=by omega
  rw[zes,decide_eq_true (by omega)]
  have hg:(ws l)[(i:Int).toNat]? = some (U l[i]):=by rw[Int.toNat_natCast,ZO hil]
  rw[hg]
  have:=ih (i+1) (by omega)
  have h2:=zoH (l:=l) l[i] l.length i (by omega) (zu (l.take i)) (by rw[y3];simp;omega) 8 0 rfl
  rw[List.take_zero,List.append_nil] at h2
  have e:zu (l.take i)++w8 l[i]=zu (l.take (i+1)):=by rw[List.take_succ_eq_append_getElem hil];simp only[zu,List.flatMap_append,List.flatMap_cons,List.flatMap_nil,List.append_nil]
  rw[e] at h2
  simp only[yt,Int.natCast_nonneg,decide_true,Bool.true_and,decide_eq_true (show (i:Int)<l.length by omega),cond_true,zpj,yv,zph]
  exact h2.trans this
theorem Yk (l:List Int) (hl:l.length<=17592186044416):ev 117 [.pv (.sl 1 (ws l))] []=ok (.sl 1 (bs (zu l))):=by
 rw[zoM,yt,ze (x:=8*(l.length:Int)) (by omega),yQ (by omega) (by omega)]
 simp only[decide_eq_true (show (0:Int)<=8*(l.length:Int) by omega),decide_eq_true (show 8*(l.length:Int)<=140737488355328 by omega),Bool.and_self,cond_true]
 exact zoI l hl l.length 0 (by omega)
theorem zmB {l:List Int} {w:Int} (hw:zG w) (i:Int) (hi:0<=i/\i<=9000000000000000000) (acc:List Int) (ha:acc.length+8<=140737488355328):∀ (d k:Nat),k+d=8->Qz (ws l) (bs (acc++(w8 w).take k)) i (U (w/256^k)) k=W1 (ws l) (bs (acc++w8 w)) (i+1):=by
 intro d
 induction d with
 |zero=>
  intro k hk
  obtain rfl:k=8:=by omega
  rw[j7,List.take_of_length_le (by simp[wb])]
  rw[show decide (((8:Nat):Int)<8)=false from rfl,ze (x:=i+1) (by omega)]
  rfl
 |succ d ih=>
  intro k hk
  obtain ⟨g1,g2⟩:=hw
  have hp:(0:Int)<256^k:=Int.pow_pos (by decide)
  have h0:0<=w/256^k:=Int.ediv_nonneg g1 (Int.le_of_lt hp)
  have h1:w/256^k<=w:=Int.ediv_le_self _ g1
  rw[j7,decide_eq_true (show (k:Int)<8 by omega)]
  dsimp only[wM,zpj,zc]
  have hr:yf ((bs (acc++(w8 w).take k)).length+1) 1=true:=yQ (by simp[wb];omega) (by simp[wb];omega)
  rw[Int.tmod_eq_emod_of_nonneg h0,Int.tdiv_eq_ediv_of_nonneg h0,Xu,hr,xR (x:=w/256^k/256) (by omega),ze (x:=(k:Int)+1) (by omega)]
  have:=ih (k+1) (by omega)
  rw[zep (by omega),←List.append_assoc,vu,Int.pow_succ,←Int.ediv_ediv_of_nonneg (Int.le_of_lt hp)] at this
  rw[show w/256^k%256%256=w/256^k%256 by omega]
  exact this
theorem zmC (l:List Int) (hw:Words l) (hl:l.length<=17592186044416):∀ (d i:Nat),i+d=l.length->W1 (ws l) (bs (zu (l.take i))) i=ok (.sl 1 (bs (zu l))):=by
 intro d
 induction d with
 |zero=>
  intro i hi
  obtain rfl:i=l.length:=by omega
  rw[j6,decide_eq_false (by simp),List.take_length]
  rfl
 |succ d ih=>
  intro i hi
  have hil:i<l.length:=by omega
  rw[j6,decide_eq_true (by simp;omega)]
  have hg:(ws l)[(i:Int).toNat]? = some (U l[i]):=by rw[Int.toNat_natCast,ZO hil]
  rw[hg]
  have:=ih (i+1) (by omega)
  have h2:=zmB (l:=l) (hw.2 _ (List.getElem_mem hil)) i (by omega) (zu (l.take i)) (by rw[y3];simp;omega) 8 0 rfl
  rw[List.take_zero,List.append_nil,Int.pow_zero,Int.ediv_one] at h2
  have e:zu (l.take i)++w8 l[i]=zu (l.take (i+1)):=by rw[List.take_succ_eq_append_getElem hil];simp only[zu,List.flatMap_append,List.flatMap_cons,List.flatMap_nil,List.append_nil]
  rw[e] at h2
  simp only[Int.natCast_nonneg,decide_true,Bool.true_and,cond_true,zpj,yv,zph]
  exact h2.trans this
theorem rK (l:List Int) (hw:Words l) (hl:l.length<=17592186044416):ev 91 [.pv (.sl 1 (ws l))] []=ok (.sl 1 (bs (zu l))):=by
 rw[zhS]
 exact zmC l hw hl l.length 0 (by omega)
def zS (e c:Int):Int:=(bitsOf e*c+7)/8
theorem Qr {e c:Int} (hc:0<=c/\c<=536870911):0<=zS e c/\zS e c<=4294967296:=by
 have h:=Yp (e:=e) hc
 unfold zS
 omega
theorem zeQ {e c:Int} (he:0<=e/\e<=7) (hc:0<=c/\c<=536870911):ev 255 [.pv (I e),.pv (I c)] []=ok (I (zS e c)):=by
 have h:=Yp (e:=e) hc
 rw[zkJ]
 have hb:=jx he
 simp only[I] at hb
 rw[show (0+e.toNat*1)=e.toNat by omega,hb,decide_eq_true he.1,decide_eq_true (show e<8 by omega)]
 dsimp only[zr,zpj,zK,zc]
 rw[zcf,ze (x:=bitsOf e*c) (by omega),ze (x:=bitsOf e*c+8) (by omega),ze (x:=bitsOf e*c+8-1) (by omega),Int.tdiv_eq_ediv_of_nonneg (by omega),ze (by omega),show bitsOf e*c+8-1=bitsOf e*c+7 by omega]
 rfl
theorem Jy {e c:Int} (hc:0<=c/\c<=536870911):ev 123 [.pv (I e),.pv (I c)] []=ok (I (zS e c)):=by
 have h:=Yp (e:=e) hc
 rw[zh7,rJ]
 dsimp only[zf,zg,zpj,zK]
 rw[ze (x:=bitsOf e*c) (by omega),Int.tdiv_eq_ediv_of_nonneg (by omega),ze (x:=bitsOf e*c/8) (by omega),ze (x:=bitsOf e*c/8*8) (by omega),ze (x:=bitsOf e*c/8+1) (by omega),z6]
 unfold zS
 split
 ·rw[show bitsOf e*c/8+1=(bitsOf e*c+7)/8 by omega]
 ·rw[show bitsOf e*c/8=(bitsOf e*c+7)/8 by omega]
def trimB (e c:Int) (b:List Int):List Int :=
 if e=1/\0<c%8 then b.take (zS e c-1).toNat++[rd b (zS e c-1)%2^(c%8).toNat] else b.take (zS e c).toNat
theorem zgO {a:Int} (h:zq a) {r:Nat} (hr:r<=7):IntKind.wrap .u8 (((BitVec.ofInt 8 a &&& BitVec.ofInt 8 ((2^r-1:Nat):Int)).toNat:Nat):Int)=a%2^r:=by
 obtain ⟨n,rfl⟩:=Int.eq_ofNat_of_zero_le h.1
 have hn:n<256:=by have:=h.2;omega
 have e1:∀ m:Nat,m<256->(BitVec.ofInt 8 (m:Int)).toNat=m:=fun m hm=>by simp;omega
 have hp:2^r<=2^7:=Nat.pow_le_pow_right (by decide) hr
 rw[BitVec.toNat_and,e1 n hn,e1 _ (by omega),Nat.and_two_pow_sub_one_eq_mod,Xu]
 have:n%2^r<=n:=Nat.mod_le _ _
 rw[Int.emod_eq_of_lt (Int.natCast_nonneg _) (by omega)]
 push_cast
 rfl
theorem Qd {e c:Int} {b:List Int} (he:0<=e/\e<=7) (hc:0<=c/\c<=536870911) (hb:∀ x∈b,zq x) (hn:zS e c<=b.length):ev 235 [.pv (I e),.pv (I c),.pv (.sl 1 (bs b))] []=some (.ret (.slu 5 1 (bs (trimB e c b))),[]):=by
 have hr:=Qr (e:=e) hc
 rw[zkK,zeQ he hc]
 dsimp only[zf,zg,zpj,xt]
 rw[decide_eq_true hr.1,decide_eq_true (show zS e c<=((bs b).length:Int) by simpa using hn)]
 dsimp only[zr,zc]
 have et:List.drop 0 (List.take (zS e c).toNat (bs b))=bs (b.take (zS e c).toNat):=by simp[bs]
 rw[et,znA,yQ (by simp;omega) (by simp;omega)]
 dsimp only[zr,zc,zf]
 rw[show yb 5 1 (.slu 5 1 (bs (b.take (zS e c).toNat)))=some (bs (b.take (zS e c).toNat)) from yN _ _ _]
 dsimp only[zpj]
 unfold trimB
 by_cases h1:e=1
 case neg=>rw[beq_eq_false_iff_ne.2 h1,if_neg (fun h=>h1 h.1)];rfl
 subst h1
 rw[show ((1:Int)==1)=true from rfl,Int.tmod_eq_emod_of_nonneg hc.1]
 dsimp only[zc]
 by_cases h8:0<c%8
 case neg=>rw[decide_eq_false (show ¬c%8>0 by omega),if_neg (fun h=>h8 h.2)];rfl
 rw[decide_eq_true (show c%8>0 by omega),if_pos ⟨rfl,h8⟩]
 have hpos:1<=zS 1 c:=by unfold zS bitsOf;simp;omega
 have hlen:((bs (b.take (zS 1 c).toNat)).length:Int)=zS 1 c:=by simp;omega
 rw[hlen,ze (x:=zS 1 c-1) (by omega),decide_eq_true (show 0<=zS 1 c-1 by omega),decide_eq_true (show zS 1 c-1<zS 1 c by omega)]
 have hg:(bs (b.take (zS 1 c).toNat))[(zS 1 c-1).toNat]? = some (U8 (rd b (zS 1 c-1))):=by
  rw[Zr (by simp;omega)]
  simp only[rd,List.getD_eq_getElem?_getD,List.getElem_take]
  rw[List.getElem?_eq_getElem (show (zS 1 c-1).toNat<b.length by omega)]
  rfl
 have hby:zq (rd b (zS 1 c-1)):=by
  unfold rd
  rw[List.getD_eq_getElem?_getD,List.getElem?_eq_getElem (by omega)]
  exact hb _ (List.getElem_mem _)
 dsimp only[zr,zc]
 rw[hg]
 dsimp only[zpj,yv,zph,ZE]
 have hs:IntKind.wrap .u64 (c%8)=c%8:=xR (by omega)
 have hk:(c%8).toNat<=7:=by omega
 have hmask:IntKind.wrap .u8 (IntKind.wrap .u8 (1*2^(min (c%8).toNat 8))-1)=((2^(c%8).toNat-1:Nat):Int):=by
  generalize (c%8).toNat=r at hk
  have:r=0∨r=1∨r=2∨r=3∨r=4∨r=5∨r=6∨r=7:=by omega
  rcases this with rfl|rfl|rfl|rfl|rfl|rfl|rfl|rfl<;>rfl
 rw[hs,hmask,zgO hby hk,show yP .shl (c%8)=true by simp[yP];omega]
 have hset:(bs (b.take (zS 1 c).toNat)).set (zS 1 c-1).toNat (U8 (rd b (zS 1 c-1)%2^(c%8).toNat))=bs (b.take (zS 1 c-1).toNat++[rd b (zS 1 c-1)%2^(c%8).toNat]):=by
  have e1:(zS 1 c).toNat=(zS 1 c-1).toNat+1:=by omega
  rw[e1,List.take_succ_eq_append_getElem (by omega),vu,vu]
  have hl:(bs (b.take (zS 1 c-1).toNat)).length=(zS 1 c-1).toNat:=by simp;omega
  rw[List.set_append_right _ _ (by omega),hl,Nat.sub_self]
  rfl
 have hcell:setCells (U8 (rd b (zS 1 c-1))) 0 [U8 (rd b (zS 1 c-1)%2^(c%8).toNat)]=some (U8 (rd b (zS 1 c-1)%2^(c%8).toNat)):=rfl
 dsimp only[zc]
 rw[hcell]
 dsimp only[zpj]
 rw[hset]
 rfl
theorem zm2 (e c:Int) (l acc:List PV) (i x:Int) (keep:Nat) (hk:keep<=7) (hx:zq x) (hr:yf (acc.length+1) 1=true) (hi:0<=i/\i<=4294967296):∀ (d k:Nat),k+d=keep->QG e c l acc i (U8 x) keep ((2^k:Nat):Int) k=Ys e c l (acc++[U8 (x%2^keep)]) (i+1):=by
 intro d
 induction d with
 |zero=>
  intro k hkd
  obtain rfl:k=keep:=by omega
  rw[zaf,decide_eq_false (by omega)]
  dsimp only[xt,zpj,zt]
  obtain ⟨x1,x2⟩:=hx
  have hp:0<2^k:=Nat.pow_pos (by decide)
  rw[hr,show yP .rem ((2^k:Nat):Int)=true by simp only[yP,bne_iff_ne];omega,ze (x:=x) (by omega),ze (x:=i+1) (by omega),Int.tmod_eq_emod_of_nonneg x1,Xu]
  have h1:0<=x%((2^k:Nat):Int):=Int.emod_nonneg _ (by omega)
  have h3:2^k<=2^7:=Nat.pow_le_pow_right (by decide) hk
  have h2:x%((2^k:Nat):Int)<((2^k:Nat):Int):=Int.emod_lt_of_pos _ (by omega)
  rw[Int.emod_eq_of_lt (b:=256) h1 (by omega)]
  push_cast
  rfl
 |succ d ih=>
  intro k hkd
  rw[zaf,decide_eq_true (by omega)]
  have h2:2^(k+1)<=2^7:=Nat.pow_le_pow_right (by decide) (by omega)
  have e1:((2^k:Nat):Int)*2=((2^(k+1):Nat):Int):=by rw[Nat.pow_succ];push_cast;rfl
  rw[e1,zeo (n:=2^(k+1)) (by omega),ze (x:=(k:Int)+1) (by omega)]
  exact ih (k+1) (by omega)
theorem zm1 {e c:Int} {b:List Int} (hc:0<=c/\c<=536870911) (hb:∀ x∈b,zq x) (hn:zS e c<=b.length):∀ (d i:Nat),i+d=(zS e c).toNat->(d=0->e=1/\0<c%8->False)->Ys e c (bs b) (bs (b.take i)) i=ok (.sl 1 (bs (trimB e c b))):=by
 have hr:=Qr (e:=e) hc
 intro d
 induction d with
 |zero=>
  intro i hi h0
  rw[JW,Jy hc]
  dsimp only[zf,zg,zpj,zK]
  rw[decide_eq_false (by omega)]
  unfold trimB
  rw[if_neg (h0 rfl)]
  obtain rfl:i=(zS e c).toNat:=by omega
  rfl
 |succ d ih=>
  intro i hi h0
  have hil:i<b.length:=by omega
  rw[JW,Jy hc]
  dsimp only[zf,zg,zpj,zK]
  rw[decide_eq_true (by omega),decide_eq_true (by omega),decide_eq_true (show (i:Int)<((bs b).length:Int) by simp;omega)]
  have hg:(bs b)[(i:Int).toNat]? = some (U8 b[i]):=by rw[Int.toNat_natCast,Zr hil]
  have hroom:yf ((bs (b.take i)).length+1) 1=true:=yQ (by simp;omega) (by simp;omega)
  have hnext:bs (b.take i)++[U8 b[i]]=bs (b.take (i+1)):=by rw[List.take_succ_eq_append_getElem hil,vu];rfl
  dsimp only[zr,zc]
  rw[hg]
  dsimp only[zpj,yv,zph]
  rw[hroom,hnext,ze (x:=(i:Int)+1) (by omega),ze (x:=8*(i:Int)) (by omega),ze (x:=8*(i:Int)+8) (by omega),ze (x:=c-8*(i:Int)) (by omega)]
  by_cases hlast:e=1/\8*(i:Int)+8>c
  ·obtain ⟨rfl,hgt⟩:=hlast
   have hbn:zS 1 c=(c+7)/8:=by unfold zS bitsOf;simp
   have hin:(i:Int)=zS 1 c-1:=by omega
   have h8:0<c%8:=by omega
   have hkeep:c-8*(i:Int)=((c%8).toNat:Int):=by omega
   rw[show ((1:Int)==1)=true from rfl,decide_eq_true hgt]
   dsimp only[zc]
   rw[hkeep]
   have hp:=zm2 1 c (bs b) (bs (b.take i)) i b[i] (c%8).toNat (by omega) (hb _ (List.getElem_mem hil)) hroom (by omega) (c%8).toNat 0 (by omega)
   rw[show ((2^0:Nat):Int)=1 from rfl,show ((0:Nat):Int)=0 from rfl] at hp
   refine hp.trans ?_
   rw[JW,Jy hc]
   dsimp only[zf,zg,zpj,zK]
   rw[decide_eq_false (by omega)]
   unfold trimB
   rw[if_pos ⟨rfl,h8⟩]
   have hrd:rd b (zS 1 c-1)=b[i]:=by rw[←hin,uh hil]
   rw[hrd,show (zS 1 c-1).toNat=i by omega,vu]
   rfl
  ·have hgo:ok (.sl 1 (bs (trimB e c b)))=Ys e c (bs b) (bs (b.take (i+1))) ((i:Int)+1):=(ih (i+1) (by omega) (fun hd h1=>hlast ⟨h1.1,by
    obtain ⟨rfl,h8⟩:=h1
    have hbn:zS 1 c=(c+7)/8:=by unfold zS bitsOf;simp
    omega⟩)).symm
   rw[hgo]
   by_cases h1:e=1
   ·have hle:¬8*(i:Int)+8>c:=fun h=>hlast ⟨h1,h⟩
    rw[beq_iff_eq.2 h1,decide_eq_false hle]
    rfl
   ·rw[beq_eq_false_iff_ne.2 h1]
    rfl
theorem zfK {e c:Int} {b:List Int} (hc:0<=c/\c<=536870911) (hb:∀ x∈b,zq x) (hn:zS e c<=b.length):ev 124 [.pv (I e),.pv (I c),.pv (.sl 1 (bs b))] []=ok (.sl 1 (bs (trimB e c b))):=by
 rw[zh8]
 have hr:=Qr (e:=e) hc
 refine zm1 hc hb hn (zS e c).toNat 0 (by omega) (fun h0 h1=>?_)
 obtain ⟨rfl,h8⟩:=h1
 have hbn:zS 1 c=(c+7)/8:=by unfold zS bitsOf;simp
 omega
def yh (o:Ob) (i:Int):Ob:=⟨1,o.seg,o.at_+i*(o.data+o.ptrs),o.data,o.ptrs,0,0,0⟩
def xj (o:Ob):Int:=if o.kind=1/\0<o.ptrs then o.at_+o.data else if o.kind=2/\o.elem=6/\0<o.n then o.at_ else 0
def w9 (o:Ob):Int:=if o.kind=1/\0<o.ptrs then o.ptrs else if o.kind=2/\o.elem=6/\0<o.n then o.n else 0
theorem Ji (o:Ob) (i:Int) (h1:-4611686018427387904<=o.data+o.ptrs/\o.data+o.ptrs<=4611686018427387904) (h2:-4611686018427387904<=i*(o.data+o.ptrs)/\i*(o.data+o.ptrs)<=4611686018427387904) (h3:-4611686018427387904<=o.at_/\o.at_<=4611686018427387903):ev 238 [.pv (.agg o.c),.pv (I i)] []=ok (.agg (yh o i).c):=by
 rw[Ob.c,zmJ,ze (x:=o.data+o.ptrs) (by omega),ze (x:=i*(o.data+o.ptrs)) (by omega),ze (by omega)]
 rfl
theorem zfD (o:Ob) (i:Int) (h1:-4611686018427387904<=o.data+o.ptrs/\o.data+o.ptrs<=4611686018427387904) (h2:-4611686018427387904<=i*(o.data+o.ptrs)/\i*(o.data+o.ptrs)<=4611686018427387904) (h3:-4611686018427387904<=o.at_/\o.at_<=4611686018427387903):ev 141 [.pv (.agg o.c),.pv (I i)] []=ok (.agg (yh o i).c):=by
 rw[Ob.c,zid,ze (x:=o.data+o.ptrs) (by omega),ze (x:=i*(o.data+o.ptrs)) (by omega),ze (by omega)]
 rfl
theorem rm (o:Ob) (h1:-4611686018427387904<=o.at_+o.data/\o.at_+o.data<=4611686018427387904):ev 277 [.pv (.agg o.c)] []=ok (.tup [I (xj o),I (w9 o)]):=by
 rw[Ob.c,zmL,ze (x:=o.at_+o.data) (by omega)]
 unfold xj w9
 simp only[yd,z6]
 by_cases k1:o.kind=1
 ·by_cases k2:0<o.ptrs
  ·simp[k1,k2]
  ·simp[k1,k2]
 ·by_cases k3:o.kind=2
  ·by_cases k4:o.elem=6
   ·by_cases k5:0<o.n
    ·simp[k3,k4,k5]
    ·simp[k3,k4,k5]
   ·simp[k3,k4]
  ·simp[k1,k3]
theorem Qc (d w o:Int):ev 131 [.pv (.agg [I d,I w,I o])] []=ok (.agg [I (max w 0)]):=by
 rw[zhd]
 have:(if 0>w then 0 else w)=max w 0:=by omega
 rw[this]
theorem Qf (d w o:Int):ev 82 [.pv (.agg [I d,I w,I o])] []=ok (.agg [I (max w 0)]):=by
 rw[zig,z6]
 split
 ·rw[show max w 0=0 by omega]
 ·rw[show max w 0=w by omega]
theorem V9 (d w o x:Int):ev 191 [.pv (.agg [I d,I w,I o]),.pv (I x)] []=ok (I (if x>d then 7 else 0)):=by
 rw[zhc,z6]
 split<;>rfl
theorem g9 (m c:Int) (hm:-4611686018427387904<=m-c/\m-c<=4611686018427387904):ev 272 [.pv (.agg [I m]),.pv (I c)] []=ok (.tup [.agg [I (if c>m then m else m-c)],I (if c>m then 8 else 0)]):=by
 rw[zhb,zhf,ze (x:=m-c) (by omega)]
 by_cases h:c>m
 ·rw[decide_eq_true h,if_pos h,if_pos h];rfl
 ·rw[decide_eq_false h,if_neg h,if_neg h];rfl
theorem zfC (m c:Int) (hm:-4611686018427387904<=m-c/\m-c<=4611686018427387904):ev 138 [.pv (.agg [I m]),.pv (I c)] []=ok (.tup [.agg [I (if c>m then m else m-c)],I (if c>m then 8 else 0)]):=by
 rw[zif,ze (x:=m-c) (by omega),z6]
 by_cases h:c>m
 ·rw[if_pos h,if_pos h,if_pos h]
 ·rw[if_neg h,if_neg h,if_neg h]
inductive Nd where
 |mk (kind elem n:Int) (data:List Int) (kids:List Nd)
def Nd.kind:Nd->Int|.mk k _ _ _ _=>k
def Nd.elem:Nd->Int|.mk _ e _ _ _=>e
def Nd.n:Nd->Int|.mk _ _ n _ _=>n
def Nd.data:Nd->List Int|.mk _ _ _ d _=>d
def Nd.kids:Nd->List Nd|.mk _ _ _ _ ks=>ks
def nd0:Nd:=.mk 0 0 0 [] []
theorem Nd.ind {P:Nd->Prop} (h:∀ k e n d ks,(∀ x∈ks,P x)->P (.mk k e n d ks)):∀ x,P x
 |.mk k e n d ks=>h k e n d ks fun x hx=>Nd.ind h x
termination_by x=>SizeOf.sizeOf x
decreasing_by
 have:=List.sizeOf_lt_of_mem hx
 simp
 omega
mutual
def Nd.pv:Nd->PV
 |.mk k e n d ks=>.agg [I k,I e,I n,.sl 1 (bs d),.sl 5 (zD ks)]
def zD:List Nd->List PV
 |[]=>[]
 |x::l=>x.pv::zD l
end
theorem YJ:∀ l:List Nd,zD l=l.map Nd.pv
 |[]=>rfl
 |x::l=>by rw[zD,YJ l];rfl
def Nd.c (x:Nd):List PV:=[I x.kind,I x.elem,I x.n,.sl 1 (bs x.data),.sl 5 (zD x.kids)]
theorem Nd.pv_c (x:Nd):x.pv=.agg x.c:=by cases x;rfl
theorem YE (x:Nd):x.pv.cells=x.c:=by rw[Nd.pv_c];rfl
@[simp] theorem wE (l:List Nd):(zD l).length=l.length:=by rw[YJ];simp
theorem vG {l:List Nd} {i:Nat} (h:i<l.length):(zD l)[i]? = some l[i].pv:=by rw[YJ];simp[h]
theorem zmy (l:List Nd) (n:Nat):(zD l).take n=zD (l.take n):=by rw[YJ,YJ,List.map_take]
theorem uf (a b:List Nd):zD (a++b)=zD a++zD b:=by rw[YJ,YJ,YJ,List.map_append]
theorem Qq (l:List Int) (n:Nat):(bs l).take n=bs (l.take n):=by simp[bs]
theorem zco (x:Nd):((decide (x.pv.cells.length=5)&&x.pv.cells.all PV.isCell)&&true)=true:=by cases x;rfl
mutual
def yB:Nd->Prop
 |.mk k e n d ks=>(d.length<=17592186044416/\(∀ b∈d,zq b)/\ks.length<=1073741824/\(k=1->d.length%8=0))/\Xe ks
def Xe:List Nd->Prop
 |[]=>True
 |x::l=>yB x/\Xe l
end
theorem goods_iff:∀ {l:List Nd},Xe l↔∀ x∈l,yB x
 |[]=>by simp[Xe]
 |x::l=>by simp[Xe,goods_iff (l:=l)]
def yV {α:Type} (p:α->Bool) (l:List α):Nat:=(l.reverse.dropWhile p).length
theorem wB {α:Type} (p:α->Bool) (l:List α):yV p l<=l.length:=by
 unfold yV
 have:=(List.dropWhile_sublist p (l:=l.reverse)).length_le
 simpa using this
theorem xL {α:Type} (p:α->Bool) (l:List α) (x:α):yV p (l++[x])=if p x then yV p l else l.length+1:=by
 unfold yV
 rw[List.reverse_append]
 simp only[List.reverse_cons,List.reverse_nil,List.nil_append,List.singleton_append,List.dropWhile_cons]
 split<;>simp
def yg (d:List Int):Nat:=(yV (·==0) d+7)/8
def yc (ks:List Nd):Nat:=yV (fun x=>x.kind==0) ks
mutual
def zk:Nd->Nd
 |.mk k e n d ks=>if k=1 then .mk k e n (d.take (8*yg d)) ((wq ks).take (yc ks)) else .mk k e n d (wq ks)
def wq:List Nd->List Nd
 |[]=>[]
 |x::l=>zk x::wq l
end
theorem yX:∀ l:List Nd,wq l=l.map zk
 |[]=>rfl
 |x::l=>by rw[wq,yX l];rfl
theorem vl {α:Type} {l:List α} {i:Nat} (h:i<l.length):l.take (i+1)=l.take i++[l[i]]:=List.take_succ_eq_append_getElem h
theorem zkC {d:List Int} (hd:d.length<=17592186044416):∀ i:Nat,i<=d.length->KY (bs d) i=ok (I (yV (·==0) (d.take i):Nat)):=by
 intro i
 induction i with
 |zero=>
  intro _
  rw[zed]
  rfl
 |succ i ih=>
  intro hi
  rw[zed,decide_eq_true (by omega),ze (x:=((i+1:Nat):Int)-1) (by omega),show ((i+1:Nat):Int)-1=(i:Int) by omega,decide_eq_true (by omega),decide_eq_true (by simp;omega)]
  dsimp only[zr,zc]
  rw[Int.toNat_natCast,Zr (by omega)]
  dsimp only[zpj,yv,zph]
  rw[zn2,ih (by omega),vl (by omega),xL]
  dsimp only[zf,zg,zpj,xc]
  by_cases h0:d[i]=0
  ·rw[beq_iff_eq.2 h0];rfl
  ·rw[beq_eq_false_iff_ne.2 h0]
   simp[show i<=d.length by omega]
theorem zfX {d:List Int} (hd:d.length<=17592186044416):ev 214 [.pv (.sl 1 (bs d))] []=ok (I (yg d:Nat)):=by
 have hk:=wB (·==0) d
 rw[zn3,zn5]
 have:=zkC hd d.length (by omega)
 rw[List.take_length] at this
 rw[z5,this]
 dsimp only[zf,zg,zpj,zK]
 rw[ze (x:=(yV (·==0) d:Nat)+8) (by omega),ze (x:=((yV (·==0) d:Nat):Int)+8-1) (by omega),Int.tdiv_eq_ediv_of_nonneg (by omega),ze (by omega)]
 have e:(((yV (·==0) d:Nat):Int)+8-1)/8=((yg d:Nat):Int):=by unfold yg;omega
 rw[e]
theorem qI (x:Nd):PV.agg ((x.pv.cells.drop 0).take 5)=x.pv:=by cases x;rfl
theorem ZB (x:Nd):decide (5<=x.pv.cells.length)=true:=by cases x;rfl
theorem zkD {l:List Nd} (hl:l.length<=1073741824):∀ i:Nat,i<=l.length->KX (zD l) i=ok (I (yc (l.take i):Nat)):=by
 intro i
 induction i with
 |zero=>
  intro _
  rw[zec]
  rfl
 |succ i ih=>
  intro hi
  rw[zec,decide_eq_true (by omega),ze (x:=((i+1:Nat):Int)-1) (by omega),show ((i+1:Nat):Int)-1=(i:Int) by omega,decide_eq_true (by omega),decide_eq_true (by simp;omega)]
  dsimp only[zr,zc]
  rw[Int.toNat_natCast,vG (by omega)]
  dsimp only[zpj]
  rw[ZB,qI,Nd.pv_c,Nd.c,znY,ih (by omega),vl (by omega)]
  unfold yc
  rw[xL]
  dsimp only[zf,zg,zpj,xc,zc]
  by_cases h0:l[i].kind=0
  ·rw[beq_iff_eq.2 h0];rfl
  ·rw[beq_eq_false_iff_ne.2 h0]
   simp[show i<=l.length by omega]
theorem zfW {l:List Nd} (hl:l.length<=1073741824):ev 215 [.pv (.sl 5 (zD l))] []=ok (I (yc l:Nat)):=by
 rw[znZ,zn4]
 have:=zkD hl l.length (by omega)
 rw[List.take_length] at this
 rw[wE,this]
 rfl
theorem zk3 (x:Nd):∃ c0 c1 c2 c3 c4,x.pv.cells=[c0,c1,c2,c3,c4]/\x.pv=.agg [c0,c1,c2,c3,c4]/\c0.isCell=true/\c1.isCell=true/\c2.isCell=true/\c3.isCell=true/\c4.isCell=true:=by
 cases x;exact ⟨_,_,_,_,_,rfl,rfl,rfl,rfl,rfl,rfl,rfl⟩
theorem zee {l:List Nd} (hl:l.length<=1073741824) (hv:∀ x∈l,ev 153 [.pv x.pv] []=ok (zk x).pv) (i3 i4 i5:Int) (xs6 xs7:List PV) (i8 i9 i10:Int) (xs11 xs12:List PV) (k e n:Int) (d:List Int):∀ (m i:Nat),i+m=l.length->
  VW (zD l) l.length i i3 i4 i5 xs6 xs7 i8 i9 i10 xs11 xs12 k e n (bs d) (zD (wq (l.take i)))=ok (Nd.mk k e n d (wq l)).pv:=by
 intro m
 induction m with
 |zero=>
  intro i hi
  obtain rfl:i=l.length:=by omega
  rw[zea,decide_eq_false (by omega),List.take_length]
  rfl
 |succ m ih=>
  intro i hi
  have hil:i<l.length:=by omega
  rw[zea,decide_eq_true (by omega),decide_eq_true (by omega),decide_eq_true (by simp;omega)]
  dsimp only[zr,zc]
  rw[Int.toNat_natCast,vG hil]
  obtain ⟨c0,c1,c2,c3,c4,h1,h2,h3,h4,h5,h6,h7⟩:=zk3 l[i]
  have hvi:=hv _ (List.getElem_mem hil)
  rw[h2] at hvi
  dsimp only[zpj]
  rw[h1]
  rw[show decide (5<=[c0,c1,c2,c3,c4].length)=true from rfl,show List.take 5 (List.drop 0 [c0,c1,c2,c3,c4])=[c0,c1,c2,c3,c4] from rfl]
  dsimp only[zkH,zph,zpi,zpj,zc]
  rw[h3,h4,h5,h6,h7]
  dsimp only[zr,zc]
  rw[hvi]
  dsimp only[zf,zg,zpj]
  have hroom:yf ((zD (wq (l.take i))).length+1) 72=true:=yQ (by rw[wE,yX];simp;omega) (by rw[wE,yX];simp;omega)
  have hnext:zD (wq (l.take i))++[(zk l[i]).pv]=zD (wq (l.take (i+1))):=by
   rw[vl hil,yX,yX,List.map_append,uf]
   rfl
  rw[zco,hroom,hnext,ze (x:=(i:Int)+1) (by omega)]
  exact ih (i+1) (by omega)
theorem zaV {α:Type} (l:List α):l.drop 0=l:=rfl
theorem rW (x:Nd):yB x->ev 153 [.pv x.pv] []=ok (zk x).pv:=by
 induction x using Nd.ind with
 |h k e n d ks ih=>
  intro hg
  rw[yB,goods_iff] at hg
  obtain ⟨⟨hd,hb,hk,h8⟩,hks⟩:=hg
  have hv:∀ x∈ks,ev 153 [.pv x.pv] []=ok (zk x).pv:=fun x hx=>ih x hx (hks x hx)
  rw[Nd.pv,zn0,zk]
  by_cases h1:k=1
  ·subst h1
   have hkw:=wB (·==0) d
   have h88:=h8 rfl
   have hw:8*yg d<=d.length:=by unfold yg;omega
   have hp:yc ks<=ks.length:=wB _ _
   rw[show ((1:Int)==1)=true from rfl,zfX hd,zfW hk,if_pos rfl]
   dsimp only[zf,zg,zpj,xt,zK,zc]
   rw[ze (x:=8*((yg d:Nat):Int)) (by omega),decide_eq_true (by omega),decide_eq_true (by simp;omega),decide_eq_true (by omega),decide_eq_true (by simp;omega)]
   dsimp only[zr,zc]
   have e1:(8*((yg d:Nat):Int)).toNat=8*yg d:=by omega
   rw[e1,Int.toNat_natCast,zaV,zaV,Qq,zmy,yQ (by simp;omega) (by simp;omega),wE]
   dsimp only[zc]
   have:=zee (l:=ks.take (yc ks)) (by simp;omega) (fun x hx=>hv x (List.mem_of_mem_take hx)) 1 e n (bs d) (zD ks) 0 0 0 [] [] 1 e n (d.take (8*yg d)) (ks.take (yc ks)).length 0 (by omega)
   refine this.trans ?_
   rw[yX,yX,List.map_take]
  ·rw[beq_eq_false_iff_ne.2 h1,if_neg h1,yQ (by simp;omega) (by simp;omega),wE]
   exact zee hk hv k e n (bs d) (zD ks) 0 0 0 [] [] k e n d ks.length 0 (by omega)
theorem zni {d:List Int} (hd:d.length<=17592186044416):∀ (m i:Nat),i+m=d.length->Va (bs d) (yg (d.take i):Nat) i=ok (I (yg d:Nat)):=by
 intro m
 induction m with
 |zero=>
  intro i hi
  obtain rfl:i=d.length:=by omega
  rw[zak,decide_eq_false (by simp),List.take_length]
  rfl
 |succ m ih=>
  intro i hi
  have hil:i<d.length:=by omega
  rw[zak,decide_eq_true (by simp;omega),decide_eq_true (by omega)]
  dsimp only[zr,zc]
  rw[Int.toNat_natCast,Zr hil]
  dsimp only[zpj,yv,zph,ZE]
  have:=ih (i+1) (by omega)
  rw[Int.tdiv_eq_ediv_of_nonneg (by omega),ze (x:=(i:Int)/8) (by omega),ze (x:=(i:Int)/8+1) (by omega),ze (x:=(i:Int)+1) (by omega),yk]
  have hs:yg (d.take (i+1))=if d[i]=0 then yg (d.take i) else i/8+1:=by
   unfold yg
   rw[vl hil,xL]
   by_cases h0:d[i]=0
   ·simp[h0]
   ·simp[h0,show i<=d.length by omega];omega
  rw[hs] at this
  split
  ·rename_i h0
   rw[if_pos h0] at this
   exact this
  ·rename_i h0
   rw[if_neg h0] at this
   rw[show (i:Int)/8+1=((i/8+1:Nat):Int) by push_cast;rfl]
   exact this
theorem zfS {d:List Int} (hd:d.length<=17592186044416):ev 125 [.pv (.sl 1 (bs d))] []=ok (I (yg d:Nat)):=by
 rw[zik]
 have:=zni hd d.length 0 (by omega)
 rw[List.take_zero] at this
 exact this
theorem zk4 (x:Nd):x.pv.cells[0]? = some (I x.kind):=by cases x;rfl
theorem zmY {l:List Nd} (hl:l.length<=1073741824):∀ (m i:Nat),i+m=l.length->W7 (zD l) (yc (l.take i):Nat) i=ok (I (yc l:Nat)):=by
 intro m
 induction m with
 |zero=>
  intro i hi
  obtain rfl:i=l.length:=by omega
  rw[zah,decide_eq_false (by simp),List.take_length]
  rfl
 |succ m ih=>
  intro i hi
  have hil:i<l.length:=by omega
  rw[zah,decide_eq_true (by simp;omega),decide_eq_true (by omega)]
  dsimp only[zr,zc]
  rw[Int.toNat_natCast,vG hil]
  dsimp only[zpj]
  rw[zk4]
  dsimp only[zpj,zK]
  have:=ih (i+1) (by omega)
  rw[ze (x:=(i:Int)+1) (by omega),yk]
  have hs:yc (l.take (i+1))=if l[i].kind=0 then yc (l.take i) else i+1:=by
   unfold yc
   rw[vl hil,xL]
   by_cases h0:l[i].kind=0
   ·simp[h0]
   ·simp[h0,show i<=l.length by omega]
  rw[hs] at this
  split
  ·rename_i h0
   rw[if_pos h0] at this
   exact this
  ·rename_i h0
   rw[if_neg h0] at this
   exact this
theorem zfO {l:List Nd} (hl:l.length<=1073741824):ev 126 [.pv (.sl 5 (zD l))] []=ok (I (yc l:Nat)):=by
 rw[zii]
 have:=zmY hl l.length 0 (by omega)
 rw[List.take_zero] at this
 exact this
theorem zdf {l:List Nd} (hl:l.length<=1073741824) (q:Nat) (hq:q<=l.length) (hv:∀ x∈l,ev 135 [.pv x.pv] []=ok (zk x).pv) (i3 i4 i5:Int) (xs6:List PV) (i8 i9 i10:Int) (xs11 xs12:List PV) (k e n:Int) (d:List Int):∀ (m i:Nat),i+m=q->
  W9 (I q) i i3 i4 i5 xs6 (zD l) i8 i9 i10 xs11 xs12 k e n (bs d) (zD (wq (l.take i)))=ok (Nd.mk k e n d (wq (l.take q))).pv:=by
 intro m
 induction m with
 |zero=>
  intro i hi
  obtain rfl:i=q:=by omega
  rw[zaj]
  dsimp only[zK,zpj]
  rw[decide_eq_false (by omega)]
  rfl
 |succ m ih=>
  intro i hi
  have hil:i<l.length:=by omega
  rw[zaj]
  dsimp only[zK,zpj]
  rw[decide_eq_true (show (i:Int)<(q:Int) by omega),decide_eq_true (show (0:Int)<=(i:Int) by omega),decide_eq_true (show (i:Int)<((zD l).length:Int) by simp;omega)]
  dsimp only[zr,zc]
  rw[Int.toNat_natCast,vG hil]
  dsimp only[zpj]
  rw[ZB,qI,hv _ (List.getElem_mem hil)]
  dsimp only[zf,zg,zpj,zc]
  have hroom:yf ((zD (wq (l.take i))).length+1) 72=true:=yQ (by rw[wE,yX];simp;omega) (by rw[wE,yX];simp;omega)
  have hnext:zD (wq (l.take i))++[(zk l[i]).pv]=zD (wq (l.take (i+1))):=by
   rw[vl hil,yX,yX,List.map_append,uf]
   rfl
  rw[zco,hroom,hnext,ze (x:=(i:Int)+1) (by omega)]
  exact ih (i+1) (by omega)
theorem zde {d:List Int} (hd:d.length<=17592186044416) (q:Nat) (hq:q<=d.length) (p1:PV) (i3 i4 i5:Int) (xs7:List PV) (i8 i9 i10:Int) (xs11 xs12:List PV) (k e n:Int) (ks:List PV):∀ (m i:Nat),i+m=q->
  W8 q p1 i i3 i4 i5 (bs d) xs7 i8 i9 i10 xs11 xs12 k e n (bs (d.take i)) ks=W9 p1 0 i3 i4 i5 (bs d) xs7 i8 i9 i10 xs11 xs12 k e n (bs (d.take q)) ks:=by
 intro m
 induction m with
 |zero=>
  intro i hi
  obtain rfl:i=q:=by omega
  rw[zai,decide_eq_false (by omega)]
  rfl
 |succ m ih=>
  intro i hi
  have hil:i<d.length:=by omega
  rw[zai,decide_eq_true (show (i:Int)<(q:Int) by omega),decide_eq_true (show (0:Int)<=(i:Int) by omega),decide_eq_true (show (i:Int)<((bs d).length:Int) by simp;omega)]
  dsimp only[zr,zc]
  rw[Int.toNat_natCast,Zr hil]
  dsimp only[zpj,yv,zph]
  have hroom:yf ((bs (d.take i)).length+1) 1=true:=yQ (by simp;omega) (by simp;omega)
  have hnext:bs (d.take i)++[U8 d[i]]=bs (d.take (i+1)):=by rw[vl hil,vu];rfl
  rw[hroom,hnext,ze (x:=(i:Int)+1) (by omega)]
  exact ih (i+1) (by omega)
theorem zfL (x:Nd):yB x->ev 135 [.pv x.pv] []=ok (zk x).pv:=by
 induction x using Nd.ind with
 |h k e n d ks ih=>
  intro hg
  rw[yB,goods_iff] at hg
  obtain ⟨⟨hd,hb,hk,h8⟩,hks⟩:=hg
  have hv:∀ x∈ks,ev 135 [.pv x.pv] []=ok (zk x).pv:=fun x hx=>ih x hx (hks x hx)
  rw[Nd.pv,zij,zk]
  by_cases h1:k=1
  ·subst h1
   have hkw:=wB (·==0) d
   have h88:=h8 rfl
   have hw:8*yg d<=d.length:=by unfold yg;omega
   have hp:yc ks<=ks.length:=wB _ _
   rw[show ((1:Int)==1)=true from rfl,zfS hd,zfO hk,if_pos rfl]
   dsimp only[zf,zg,zpj,zK,zc]
   rw[ze (x:=8*((yg d:Nat):Int)) (by omega),show 8*((yg d:Nat):Int)=((8*yg d:Nat):Int) by push_cast;rfl]
   have a1:=zde hd (8*yg d) hw (I (yc ks:Nat)) 1 e n (zD ks) 0 0 0 [] [] 1 e n [] (8*yg d) 0 (by omega)
   have a2:=zdf hk (yc ks) hp hv 1 e n (bs d) 0 0 0 [] [] 1 e n (d.take (8*yg d)) (yc ks) 0 (by omega)
   refine (a1.trans a2).trans ?_
   rw[yX,yX,List.map_take]
  ·rw[beq_eq_false_iff_ne.2 h1,if_neg h1,wE,z5]
   have a1:=zde hd d.length (by omega) (I (ks.length:Nat)) k e n (zD ks) 0 0 0 [] [] k e n [] d.length 0 (by omega)
   have a2:=zdf hk ks.length (by omega) hv k e n (bs d) 0 0 0 [] [] k e n d ks.length 0 (by omega)
   rw[List.take_length] at a1 a2
   exact a1.trans a2
def cutB (l:List (List Int)) (s a n:Int):List Int:=if inB l s a n then cut l s a n else []
theorem XS {l:List (List Int)} (h:zF l) (s a n:Int):Words (cutB l s a n):=by
 unfold cutB
 split
 ·have hw:=Wu h s
  refine ⟨?_,fun x hx=>hw.2 x (List.mem_of_mem_drop (List.mem_of_mem_take hx))⟩
  have:=hw.1
  unfold cut
  rw[List.length_take,List.length_drop]
  omega
 ·exact ⟨by simp,by simp⟩
theorem vM (l:List (List Int)) (s a n:Int):(cutB l s a n).length<=n.toNat:=by
 unfold cutB
 split
 ·unfold cut
  rw[List.length_take]
  omega
 ·simp
theorem rn {l:List (List Int)} (h:zF l) (s a n:Int) (hn:n<=17592186044416):ev 276 [.pv (.sl 1 (zA l)),.pv (I s),.pv (I a),.pv (I n)] []=ok (.tup [.sl 1 (ws (cutB l s a n)),Bo (decide (inB l s a n))]):=by
 rw[Jq h s a n hn]
 unfold cutB
 by_cases hb:inB l s a n
 ·rw[if_pos hb,if_pos hb,decide_eq_true hb]
 ·rw[if_neg hb,if_neg hb,decide_eq_false hb];rfl
theorem K7 (a:List Int) (x:Int):ws a++[U x]=ws (a++[x]):=by simp[ws]
theorem zmZ {l:List (List Int)} (h:zF l) {s a n:Int} (hb:inB l s a n) (hn:n<=17592186044416) (ha:a<=17592186044416):∀ (c i:Nat),i+c=n.toNat->QE (zA l) s a n (ws ((cut l s a n).take i)) i=ok (.tup [.sl 1 (ws (cut l s a n)),Bo true]):=by
 have hl:=J6 hb
 have hb':=hb
 obtain ⟨h1,h2,h3,h4,h5⟩:=hb'
 intro c
 induction c with
 |zero=>
  intro i hi
  rw[zad,decide_eq_false (by omega),List.take_of_length_le (by omega)]
  rfl
 |succ c ih=>
  intro i hi
  have hil:i<(cut l s a n).length:=by omega
  rw[zad,decide_eq_true (show (i:Int)<n by omega),decide_eq_true h1,decide_eq_true (show s<((zA l).length:Int) by simp;omega),YO h1 h2,ze (x:=a+i) (by omega)]
  dsimp only[zr,zpj,vd,zph,yG,zc]
  rw[decide_eq_true (show 0<=a+(i:Int) by omega),decide_eq_true (show a+(i:Int)<((ws (yq l s)).length:Int) by simp;omega),ga (by omega) (by omega)]
  dsimp only[zpj,yv,zph]
  rw[yQ (by simp;omega) (by simp;omega),K7,ze (x:=(i:Int)+1) (by omega)]
  have e:rd (yq l s) (a+i)=(cut l s a n)[i]:=by
   have:=uh (l:=yq l s) (j:=a.toNat+i) (by omega)
   rw[show ((a.toNat+i:Nat):Int)=a+i by omega] at this
   rw[this]
   simp only[cut,List.getElem_take,List.getElem_drop]
  rw[e,←vl hil]
  exact ih (i+1) (by omega)
theorem rN {l:List (List Int)} (h:zF l) (hs:Sm l) (s a n:Int) (hn:n<=17592186044416):ev 140 [.pv (.sl 1 (zA l)),.pv (I s),.pv (I a),.pv (I n)] []=ok (.tup [.sl 1 (ws (cutB l s a n)),Bo (decide (inB l s a n))]):=by
 rw[zh4,JA h]
 unfold cutB
 by_cases hb:inB l s a n
 ·rw[if_pos hb,decide_eq_true hb]
  have:=hs s
  have hb':=hb
  obtain ⟨h1,h2,h3,h4,h5⟩:=hb'
  exact zmZ h hb hn (by omega) n.toNat 0 (by omega)
 ·rw[if_neg hb,decide_eq_false hb]
  rfl
def Zq (l:List (List Int)) (o:Ob):Prop:=(0<=o.at_/\o.at_<=1099511627776)/\(0<=o.data/\o.data<=65535)/\(0<=o.ptrs/\o.ptrs<=65535)/\(0<=o.elem/\o.elem<=7)/\(0<=o.n/\o.n<=536870911)/\(0<=o.cost/\o.cost<=2147483648)/\(o.kind=1∨o.kind=2)/\(o.kind=2->o.elem<6->inB l o.seg o.at_ o.cost/\o.cost=zs o.elem o.n)/\(o.kind=2->o.elem≠7->o.data=0/\o.ptrs=0)
theorem qw {l:List (List Int)} (hs:Sm l) {s a n:Int} (h:inB l s a n):0<=a/\a+n<=1099511627776/\0<=n:=by
 have:=hs s
 obtain ⟨h1,h2,h3,h4,h5⟩:=h
 omega
theorem ww {e:Int} {P:Prop} (h:(bad e).2=0) (he:e≠0):P:=absurd h he
theorem zlj {l:List (List Int)} (hs:Sm l) {s st d q:Int} (hd:0<=d/\d<=65535) (hq:0<=q/\q<=65535) (h:(wL l s st d q).2=0):Zq l (wL l s st d q).1:=by
 unfold wL at h ⊢
 by_cases hb:inB l s st (d+q)
 ·rw[if_pos hb] at h ⊢
  obtain ⟨a1,a2,a3⟩:=qw hs hb
  exact ⟨⟨a1,by dsimp only;omega⟩,hd,hq,⟨by dsimp only;omega,by dsimp only;omega⟩,⟨by dsimp only;omega,by dsimp only;omega⟩,⟨by dsimp only;omega,by dsimp only;omega⟩,.inl rfl,fun h=>absurd h (by dsimp only;omega),fun h=>absurd h (by dsimp only;omega)⟩
 ·rw[if_neg hb] at h
  exact ww h (by decide)
theorem zlh {l:List (List Int)} (hl:zF l) (hs:Sm l) {s st c:Int} (hc:0<=c/\c<=536870911) (h:(wC l s st c).2=0):Zq l (wC l s st c).1:=by
 unfold wC at h ⊢
 by_cases hb:inB l s st (c+1)
 ·rw[if_pos hb] at h ⊢
  have hd:=vz (we hl s st)
  generalize zC (wd l s st)=p at h hd ⊢
  by_cases hk:p.1=0/\0<=p.2.1/\p.2.1*(p.2.2.1+p.2.2.2.1)<=c
  ·rw[if_pos hk] at h ⊢
   obtain ⟨a1,a2,a3⟩:=qw hs hb
   refine ⟨⟨by dsimp only;omega,by dsimp only;omega⟩,⟨by dsimp only;omega,by dsimp only;omega⟩,⟨by dsimp only;omega,by dsimp only;omega⟩,⟨by dsimp only;omega,by dsimp only;omega⟩,⟨by dsimp only;omega,by dsimp only;omega⟩,⟨by dsimp only;split<;>omega,by dsimp only;split<;>omega⟩,.inr rfl,fun _ h=>absurd h (by dsimp only;omega),fun _ h=>absurd rfl h⟩
  ·rw[if_neg hk] at h
   exact ww h (by decide)
 ·rw[if_neg hb] at h
  exact ww h (by decide)
theorem zli {l:List (List Int)} (hl:zF l) (hs:Sm l) {s st e c:Int} (he:0<=e/\e<=7) (hc:0<=c/\c<=536870911) (h:(wn l s st e c).2=0):Zq l (wn l s st e c).1:=by
 unfold wn at h ⊢
 by_cases h7:e=7
 ·rw[if_pos h7] at h ⊢
  exact zlh hl hs hc h
 ·rw[if_neg h7] at h ⊢
  by_cases hb:inB l s st (zs e c)
  ·rw[if_pos hb] at h ⊢
   obtain ⟨a1,a2,a3⟩:=qw hs hb
   have hw:=Zo (e:=e) hc
   exact ⟨⟨a1,by dsimp only;omega⟩,⟨by dsimp only;omega,by dsimp only;omega⟩,⟨by dsimp only;omega,by dsimp only;omega⟩,he,hc,⟨hw.1,by dsimp only;omega⟩,.inr rfl,fun _ _=>⟨hb,rfl⟩,fun _ _=>⟨rfl,rfl⟩⟩
  ·rw[if_neg hb] at h
   exact ww h (by decide)
theorem Xg {l:List (List Int)} (hl:zF l) (hs:Sm l) {s a:Int} (h0:(zY l s a).1≠0) (he:(zY l s a).2.2.2=0) (h:(yz l s a).2=0):Zq l (yz l s a).1:=by
 have hd:=vz (Vr hl s a)
 unfold yz at h ⊢
 rw[if_pos he,if_neg h0] at h ⊢
 unfold wZ at h ⊢
 generalize zC (zY l s a).1=p at h hd ⊢
 by_cases k0:p.1=0
 ·rw[if_pos k0] at h ⊢
  exact zlj hs (by omega) (by omega) h
 ·rw[if_neg k0] at h ⊢
  by_cases k1:p.1=1
  ·rw[if_pos k1] at h ⊢
   exact zli hl hs (by omega) (by omega) h
  ·rw[if_neg k1] at h
   split at h
   ·exact ww h (by decide)
   ·exact ww h (by decide)
def Zg (t:Nd×Int×Int):List PV:=[.agg [I t.1.kind,I t.1.elem,I t.1.n,.sl 1 (bs t.1.data),.sl 5 (zD t.1.kids)],.agg [I t.2.1],I t.2.2]
def zX (F:Int->Nat->Nd×Int×Int):Nat->Nat->Int->List Nd->List Nd×Int×Int
 |0,_,m,acc=>(acc,m,0)
 |c+1,i,m,acc=>if (F m i).2.2=0 then zX F c (i+1) (F m i).2.1 (acc++[(F m i).1]) else ([],(F m i).2.1,(F m i).2.2)
def wt (t:List Nd×Int×Int) (f:List Nd->Nd):Nd×Int×Int:=(if t.2.2=0 then f t.1 else nd0,t.2.1,t.2.2)
def zV (F:Int->Int->Int->Nd×Int×Int) (l:List (List Int)) (m:Int) (o:Ob):Nd×Int×Int :=
 wt (zX (fun m i=>F m o.seg (o.at_+o.data+i)) o.ptrs.toNat 0 m []) fun ks=>.mk 1 0 0 (zu (cutB l o.seg o.at_ o.data)) ks
def xp (F:Int->Int->Int->Nd×Int×Int) (l:List (List Int)) (m:Int) (o:Ob):Nd×Int×Int :=
 if o.elem<6 then (.mk 2 o.elem o.n (trimB o.elem o.n (zu (cutB l o.seg o.at_ o.cost))) [],m,0)
 else wt (zX (fun m i=>if o.elem=6 then F m o.seg (o.at_+i) else zV F l m (yh o i)) o.n.toNat 0 m []) fun ks=>.mk 2 o.elem o.n [] ks
def xx (F:Int->Int->Int->Nd×Int×Int) (l:List (List Int)) (m:Int) (t:Ob×Int):Nd×Int×Int :=
 if t.2=0 then (if t.1.cost>m then (nd0,m,8) else if t.1.kind=1 then zV F l (m-t.1.cost) t.1 else xp F l (m-t.1.cost) t.1) else (nd0,m,t.2)
def zH (l:List (List Int)):Nat->Int->Int->Int->Nd×Int×Int
 |0=>fun m s a=>if (zY l s a).2.2.2=0 then (if (zY l s a).1=0 then (nd0,m,0) else (nd0,m,7)) else (nd0,m,(zY l s a).2.2.2)
 |D+1=>fun m s a=>if (zY l s a).2.2.2=0 then (if (zY l s a).1=0 then (nd0,m,0) else xx (zH l D) l m (yz l s a)) else (nd0,m,(zY l s a).2.2.2)
def Mt (m:Int):Prop:=0<=m/\m<=4611686018427387904
def Fn (t:Nd×Int×Int):Prop:=Mt t.2.1/\yB t.1
theorem Zy:yB nd0:=by unfold nd0;rw[yB];exact ⟨⟨by simp,by simp,by simp,by simp⟩,trivial⟩
theorem zb5 {F:Int->Nat->Nd×Int×Int} (hF:∀ m i,Mt m->Fn (F m i)):∀ c i m acc,Mt m->Xe acc->Mt (zX F c i m acc).2.1/\Xe (zX F c i m acc).1/\(zX F c i m acc).1.length<=acc.length+c:=by
 intro c
 induction c with
 |zero=>intro i m acc hm ha;exact ⟨hm,ha,Nat.le_refl _⟩
 |succ c ih=>
  intro i m acc hm ha
  rw[zX]
  split
  ·obtain ⟨a1,a2,a3⟩:=ih (i+1) (F m i).2.1 (acc++[(F m i).1]) (hF m i hm).1 (goods_iff.2 fun x hx=>by
    rcases List.mem_append.1 hx with h|h
    ·exact goods_iff.1 ha x h
    ·rw[List.mem_singleton.1 h];exact (hF m i hm).2)
   exact ⟨a1,a2,by simp at a3;omega⟩
  ·exact ⟨(hF m i hm).1,trivial,by simp⟩
theorem zey {t:List Nd×Int×Int} {f:List Nd->Nd} (hm:Mt t.2.1) (hf:yB (f t.1)):Fn (wt t f):=by
 refine ⟨hm,?_⟩
 unfold wt
 dsimp only
 split
 ·exact hf
 ·exact Zy
theorem jF (l:List (List Int)) (s a n:Int):(zu (cutB l s a n)).length%8=0:=by rw[y3];omega
theorem zd6 (e c:Int) (b:List Int):(trimB e c b).length<=b.length+1:=by
 unfold trimB
 split
 ·rw[zpk,List.length_take];simp;omega
 ·rw[List.length_take];omega
theorem WE (e c:Int) (b:List Int) (hb:∀ x∈b,zq x):∀ x∈trimB e c b,zq x:=by
 unfold trimB
 intro x hx
 split at hx
 ·rename_i h1
  rcases List.mem_append.1 hx with h|h
  ·exact hb x (List.mem_of_mem_take h)
  ·rw[List.mem_singleton.1 h]
   have hc:(c%8).toNat=0∨(c%8).toNat=1∨(c%8).toNat=2∨(c%8).toNat=3∨(c%8).toNat=4∨(c%8).toNat=5∨(c%8).toNat=6∨(c%8).toNat=7:=by omega
   unfold zq
   rcases hc with h|h|h|h|h|h|h|h<;>rw[h]<;>simp only[Nat.reducePow,Int.reducePow,Int.pow_zero,Int.pow_succ,Int.reduceMul]<;>omega
 ·exact hb x (List.mem_of_mem_take hx)
theorem KR {F:Int->Int->Int->Nd×Int×Int} (hF:∀ m s a,Mt m->Fn (F m s a)) (l:List (List Int)) {m:Int} (hm:Mt m) {o:Ob} (hd:o.data<=65535) (hq:o.ptrs<=65535):Fn (zV F l m o):=by
 obtain ⟨a1,a2,a3⟩:=zb5 (F:=fun m i=>F m o.seg (o.at_+o.data+i)) (fun m i h=>hF m _ _ h) o.ptrs.toNat 0 m [] hm trivial
 refine zey a1 ?_
 rw[yB]
 have:=vM l o.seg o.at_ o.data
 refine ⟨⟨?_,xY _,?_,fun _=>jF l _ _ _⟩,a2⟩
 ·rw[y3];omega
 ·simp at a3;omega
theorem zi6 {F:Int->Int->Int->Nd×Int×Int} (hF:∀ m s a,Mt m->Fn (F m s a)) (l:List (List Int)) {m:Int} (hm:Mt m) {t:Ob×Int} (ht:t.2=0->Zq l t.1):Fn (xx F l m t):=by
 unfold xx
 by_cases h0:t.2=0
 ·rw[if_pos h0]
  obtain ⟨hat,hd,hq,he,hn,hc,hk,hw,hz⟩:=ht h0
  by_cases h8:t.1.cost>m
  ·rw[if_pos h8];exact ⟨hm,Zy⟩
  ·rw[if_neg h8]
   have hm':Mt (m-t.1.cost):=⟨by unfold Mt at hm;omega,by unfold Mt at hm;omega⟩
   by_cases h1:t.1.kind=1
   ·rw[if_pos h1];exact KR hF l hm' hd.2 hq.2
   ·rw[if_neg h1]
    unfold xp
    by_cases h6:t.1.elem<6
    ·rw[if_pos h6]
     refine ⟨hm',?_⟩
     rw[yB]
     have:=vM l t.1.seg t.1.at_ t.1.cost
     have:=zd6 t.1.elem t.1.n (zu (cutB l t.1.seg t.1.at_ t.1.cost))
     rw[y3] at this
     exact ⟨⟨by omega,WE _ _ _ (xY _),by simp,fun h=>absurd h (by decide)⟩,trivial⟩
    ·rw[if_neg h6]
     obtain ⟨a1,a2,a3⟩:=zb5 (F:=fun m i=>if t.1.elem=6 then F m t.1.seg (t.1.at_+i) else zV F l m (yh t.1 i)) (fun m i h=>by
      split
      ·exact hF m _ _ h
      ·exact KR hF l h hd.2 hq.2) t.1.n.toNat 0 (m-t.1.cost) [] hm' trivial
     refine zey a1 ?_
     rw[yB]
     exact ⟨⟨by simp,by simp,by simp at a3;omega,fun h=>absurd h (by decide)⟩,a2⟩
 ·rw[if_neg h0];exact ⟨hm,Zy⟩
theorem J7 {l:List (List Int)} (hl:zF l) (hs:Sm l):∀ D m s a,Mt m->Fn (zH l D m s a):=by
 intro D
 induction D with
 |zero=>
  intro m s a hm
  unfold zH
  split
  ·split<;>exact ⟨hm,Zy⟩
  ·exact ⟨hm,Zy⟩
 |succ D ih=>
  intro m s a hm
  unfold zH
  split
  ·rename_i he
   split
   ·exact ⟨hm,Zy⟩
   ·rename_i h0
    exact zi6 ih l hm fun h=>Xg hl hs h0 he h
  ·exact ⟨hm,Zy⟩
theorem KF (acc:List Nd) (x:Nd):zD acc++[.agg [I x.kind,I x.elem,I x.n,.sl 1 (bs x.data),.sl 5 (zD x.kids)]]=zD (acc++[x]):=by
 rw[uf]
 cases x;rfl
def RV (l:List (List Int)) (d w b:Int) (dep:Int) (F:Int->Int->Int->Nd×Int×Int):Prop:=∀ m s a,Mt m->ev 83 [.pv (.sl 1 (zA l)),.pv (.agg [I d,I w,I b]),.pv (.agg [I m]),.pv (I s),.pv (I a),.pv (I dep)] []=ok (.tup (Zg (F m s a)))
theorem YC {F:Int->Nat->Nd×Int×Int} {c i:Nat} {m:Int} {acc:List Nd} (h:(F m i).2.2≠0):zX F (c+1) i m acc=([],(F m i).2.1,(F m i).2.2):=by rw[zX,if_neg h]
theorem YD {F:Int->Nat->Nd×Int×Int} {c i:Nat} {m:Int} {acc:List Nd} (h:(F m i).2.2=0):zX F (c+1) i m acc=zX F c (i+1) (F m i).2.1 (acc++[(F m i).1]):=by rw[zX,if_pos h]
theorem uY {t:Nd×Int×Int} {f:List Nd->Nd} (h:t.2.2≠0):wt ([],t.2.1,t.2.2) f=(nd0,t.2.1,t.2.2):=by
 unfold wt
 rw[if_neg h]
theorem zm0 {l:List (List Int)} {d w b dep:Int} {F:Int->Int->Int->Nd×Int×Int} (hF:RV l d w b (dep+1) F) (hO:∀ m s a,Mt m->Fn (F m s a)) (hdep:0<=dep/\dep<=1099511627776) {m0 k sg at_ dt q e n cst:Int} (hat:0<=at_/\at_<=1125899906842624) (hdt:0<=dt/\dt<=65535) (hq:0<=q/\q<=65535) (data:List Int):∀ (c i:Nat) (m:Int) (acc:List Nd),i+c=q.toNat->acc.length=i->Mt m->
  QI (zA l) dep i d w b m0 k sg at_ dt q e n cst 0 0 0 [] [] 0 1 0 0 (.sl 1 (bs data)) (zD acc) (I m)=ok (.tup (Zg (wt (zX (fun m i=>F m sg (at_+dt+i)) c i m acc) fun ks=>.mk 1 0 0 data ks))):=by
 intro c
 induction c with
 |zero=>
  intro i m acc hi ha hm
  rw[zal,decide_eq_false (by omega)]
  rfl
 |succ c ih=>
  intro i m acc hi ha hm
  rw[zal,decide_eq_true (by omega),ze (x:=at_+dt) (by omega),ze (x:=at_+dt+i) (by omega),ze (x:=dep+1) (by omega),hF m sg (at_+dt+i) hm]
  dsimp only[Zg,zr,zf,zg,zpj,zO,zpi,zph,zK,yT,yw,zc,xr]
  by_cases h0:(F m sg (at_+dt+i)).2.2=0
  ·rw[YD (F:=fun m (i:Nat)=>F m sg (at_+dt+i)) (by exact h0),h0,show ((0:Int) != 0)=false from rfl]
   dsimp only[zt]
   rw[yQ (by simp;omega) (by simp;omega),KF,ze (x:=(i:Int)+1) (by omega)]
   exact ih (i+1) _ _ (by omega) (by simp;omega) (hO m sg _ hm).1
  ·rw[YC (F:=fun m (i:Nat)=>F m sg (at_+dt+i)) (by exact h0),uY h0,show ((F m sg (at_+dt+i)).2.2 != 0)=true from by simpa using h0]
   rfl
theorem rO {l:List (List Int)} (hl:zF l) (hs:Sm l) {d w b dep:Int} {F:Int->Int->Int->Nd×Int×Int} (hF:RV l d w b (dep+1) F) (hO:∀ m s a,Mt m->Fn (F m s a)) (hdep:0<=dep/\dep<=1099511627776) {o:Ob} (hat:0<=o.at_/\o.at_<=1125899906842624) (hdt:0<=o.data/\o.data<=65535) (hq:0<=o.ptrs/\o.ptrs<=65535) {m:Int} (hm:Mt m):ev 139 [.pv (.sl 1 (zA l)),.pv (.agg [I d,I w,I b]),.pv (.agg [I m]),.pv (.agg o.c),.pv (I dep)] []=ok (.tup (Zg (zV F l m o))):=by
 have hcl:=vM l o.seg o.at_ o.data
 rw[Ob.c,zin,rN hl hs _ _ _ (by omega)]
 dsimp only[zf,zg,zpj,zO,zpi,zph]
 rw[rK _ (XS hl _ _ _) (by omega)]
 dsimp only[zf,zg,zpj,xr,zr,zc]
 exact zm0 hF hO hdep hat hdt hq (zu (cutB l o.seg o.at_ o.data)) o.ptrs.toNat 0 m [] (by omega) rfl hm
theorem znh {l:List (List Int)} (hl:zF l) (hs:Sm l) {d w b dep:Int} {F:Int->Int->Int->Nd×Int×Int} (hF:RV l d w b (dep+1) F) (hO:∀ m s a,Mt m->Fn (F m s a)) (hdep:0<=dep/\dep<=1099511627776) {m0:Int} {o:Ob} (hat:0<=o.at_/\o.at_<=1099511627776) (hdt:0<=o.data/\o.data<=65535) (hq:0<=o.ptrs/\o.ptrs<=65535) (hn:0<=o.n/\o.n<=536870911):∀ (c i:Nat) (m:Int) (acc:List Nd),i+c=o.n.toNat->acc.length=i->Mt m->
  Vb (zA l) dep i d w b m0 0 0 0 [] [] 0 2 (I o.elem) (I o.n) [] (zD acc) (I o.kind) (I o.seg) (I o.at_) (I o.data) (I o.ptrs) (I o.elem) (I o.n) (I o.cost) (I m)=ok (.tup (Zg (wt (zX (fun m i=>if o.elem=6 then F m o.seg (o.at_+i) else zV F l m (yh o i)) c i m acc) fun ks=>.mk 2 o.elem o.n [] ks))):=by
 intro c
 induction c with
 |zero=>
  intro i m acc hi ha hm
  rw[zam]
  dsimp only[zK,zr,zpj,yw,zc]
  rw[decide_eq_false (by omega)]
  rfl
 |succ c ih=>
  intro i m acc hi ha hm
  rw[zam]
  dsimp only[zK,zr,zpj,yw,zc]
  rw[decide_eq_true (show (i:Int)<o.n by omega)]
  dsimp only[zc]
  by_cases h6:o.elem=6
  ·rw[beq_iff_eq.2 h6]
   dsimp only[zc]
   rw[ze (x:=o.at_+i) (by omega),ze (x:=dep+1) (by omega),hF m o.seg (o.at_+i) hm]
   dsimp only[Zg,zf,zg,zpj,zO,zpi,zph,zK,yT,yw,zr,zc,xr]
   have hE:(fun m (i:Nat)=>if o.elem=6 then F m o.seg (o.at_+i) else zV F l m (yh o i))=fun m (i:Nat)=>F m o.seg (o.at_+i):=by funext m i;rw[if_pos h6]
   rw[hE] at ih ⊢
   by_cases h0:(F m o.seg (o.at_+i)).2.2=0
   ·rw[YD (F:=fun m (i:Nat)=>F m o.seg (o.at_+i)) (by exact h0),h0,show ((0:Int) != 0)=false from rfl]
    dsimp only[zt]
    rw[yQ (by simp;omega) (by simp;omega),KF,ze (x:=(i:Int)+1) (by omega)]
    exact ih (i+1) _ _ (by omega) (by simp;omega) (hO m o.seg _ hm).1
   ·rw[YC (F:=fun m (i:Nat)=>F m o.seg (o.at_+i)) (by exact h0),uY h0,show ((F m o.seg (o.at_+i)).2.2 != 0)=true from by simpa using h0]
    rfl
  ·rw[beq_eq_false_iff_ne.2 h6]
   dsimp only[zt]
   have hmul:0<=(i:Int)*(o.data+o.ptrs)/\(i:Int)*(o.data+o.ptrs)<=536870911*131070:=WA (by omega) (by omega)
   have hel:=zfD o i (by omega) (by omega) (by omega)
   rw[Ob.c] at hel
   rw[hel]
   dsimp only[zf,zg,zpj]
   rw[rO hl hs hF hO hdep (o:=yh o i) ⟨by dsimp only[yh];omega,by dsimp only[yh];omega⟩ hdt hq hm]
   dsimp only[Zg,zf,zg,zpj,zO,zpi,zph,zK,yT,yw,zr,zc,xr]
   have hE:(fun m (i:Nat)=>if o.elem=6 then F m o.seg (o.at_+i) else zV F l m (yh o i))=fun m (i:Nat)=>zV F l m (yh o i):=by funext m i;rw[if_neg h6]
   rw[hE] at ih ⊢
   have hk:=KR hO l hm (o:=yh o i) hdt.2 hq.2
   by_cases h0:(zV F l m (yh o i)).2.2=0
   ·rw[YD (F:=fun m (i:Nat)=>zV F l m (yh o i)) (by exact h0),h0,show ((0:Int) != 0)=false from rfl]
    dsimp only[zt]
    rw[yQ (by simp;omega) (by simp;omega),KF,ze (x:=(i:Int)+1) (by omega)]
    exact ih (i+1) _ _ (by omega) (by simp;omega) hk.1
   ·rw[YC (F:=fun m (i:Nat)=>zV F l m (yh o i)) (by exact h0),uY h0,show ((zV F l m (yh o i)).2.2 != 0)=true from by simpa using h0]
    rfl
theorem Yw {l:List (List Int)} {D:Nat} {m s a:Int} (h:(zY l s a).2.2.2≠0):zH l D m s a=(nd0,m,(zY l s a).2.2.2):=by
 cases D<;>(rw[zH];dsimp only;rw[if_neg h])
theorem Xa {l:List (List Int)} {D:Nat} {m s a:Int} (h:(zY l s a).2.2.2=0) (h0:(zY l s a).1=0):zH l D m s a=(nd0,m,0):=by
 cases D<;>(rw[zH];dsimp only;rw[if_pos h,if_pos h0])
theorem QP {l:List (List Int)} {m s a:Int} (h:(zY l s a).2.2.2=0) (h0:(zY l s a).1≠0):zH l 0 m s a=(nd0,m,7):=by
 rw[zH];dsimp only;rw[if_pos h,if_neg h0]
theorem QR {l:List (List Int)} {D:Nat} {m s a:Int} (h:(zY l s a).2.2.2=0) (h0:(zY l s a).1≠0):zH l (D+1) m s a=xx (zH l D) l m (yz l s a):=by
 rw[zH];dsimp only;rw[if_pos h,if_neg h0]
theorem xC {a:Int} (h:a≠0):(a != 0)=true:=by simpa using h
theorem WX {l:List (List Int)} {o:Ob} (hn:0<=o.n/\o.n<=536870911) (hb:inB l o.seg o.at_ o.cost/\o.cost=zs o.elem o.n) (h6:o.elem<6):zS o.elem o.n<=((zu (cutB l o.seg o.at_ o.cost)).length:Int):=by
 rw[y3]
 unfold cutB
 rw[if_pos hb.1,J6 hb.1]
 have hw:=Zo (e:=o.elem) hn
 have h2:=hb.2
 unfold zs at h2
 rw[if_neg (by omega)] at h2
 unfold zS
 have:=Yp (e:=o.elem) hn
 omega
theorem rP {l:List (List Int)} (hl:zF l) (hs:Sm l) {d w b:Int} (hd:d<=1099511627775):∀ (D:Nat) (dep:Int),0<=dep->dep<=1099511627776->(d+1-dep).toNat=D->RV l d w b dep (zH l D):=by
 intro D
 induction D with
 |zero=>
  intro dep h0 h1 hD m s a hm
  rw[zan,Jz hl]
  dsimp only[Zx,zf,zg,zpj,zO,zpi,zph,zK,wM]
  by_cases he:(zY l s a).2.2.2=0
  ·rw[he,show ((0:Int) != 0)=false from rfl]
   dsimp only[zt]
   by_cases hz:(zY l s a).1=0
   ·rw[beq_iff_eq.2 hz]
    dsimp only[zc]
    rw[Xa he hz]
    rfl
   ·rw[beq_eq_false_iff_ne.2 hz,decide_eq_true (show dep>d by omega)]
    dsimp only[zc,zt]
    rw[QP he hz]
    rfl
  ·rw[xC he]
   dsimp only[zc]
   rw[Yw he]
   rfl
 |succ D ih=>
  intro dep h0 h1 hD m s a hm
  have hF:=ih (dep+1) (by omega) (by omega) (by omega)
  have hO:=J7 hl hs D
  rw[zan,Jz hl]
  dsimp only[Zx,zf,zg,zpj,zO,zpi,zph,zK,wM]
  by_cases he:(zY l s a).2.2.2=0
  ·rw[he,show ((0:Int) != 0)=false from rfl]
   dsimp only[zt]
   by_cases hz:(zY l s a).1=0
   ·rw[beq_iff_eq.2 hz]
    dsimp only[zc]
    rw[Xa he hz]
    rfl
   ·have hok:=Xg hl hs hz he
    rw[beq_eq_false_iff_ne.2 hz,decide_eq_false (show ¬dep>d by omega)]
    dsimp only[zt]
    rw[zfI hl hs,QR he hz]
    generalize yz l s a=t at hok ⊢
    dsimp only[xO,Ob.c,zf,zg,zpj,zO,zpi,zph,zK,yT,yw,zr,zc]
    unfold xx
    by_cases hf:t.2=0
    ·obtain ⟨hat,hdt,hq,hel,hn,hc,hk,hw,hz'⟩:=hok hf
     obtain ⟨o,f⟩:=t
     dsimp only at hf hat hdt hq hel hn hc hk hw hz' ⊢
     subst hf
     rw[if_pos rfl,show ((0:Int) != 0)=false from rfl]
     dsimp only[zt]
     rw[zfC m o.cost (by unfold Mt at hm;omega)]
     dsimp only[zf,zg,zpj,zO,zpi,zph,zK,yT,yw,zr,zc]
     by_cases h8:o.cost>m
     ·rw[if_pos h8,if_pos h8,if_pos h8,show ((8:Int) != 0)=true from rfl]
      rfl
     ·have hm':Mt (m-o.cost):=⟨by unfold Mt at hm;omega,by unfold Mt at hm;omega⟩
      rw[if_neg h8,if_neg h8,if_neg h8,show ((0:Int) != 0)=false from rfl]
      dsimp only[zt]
      by_cases hk1:o.kind=1
      ·rw[beq_iff_eq.2 hk1,if_pos hk1]
       dsimp only[zc]
       have:=rO hl hs hF hO ⟨h0,by omega⟩ (o:=o) ⟨hat.1,by omega⟩ hdt hq hm'
       rw[Ob.c] at this
       rw[this]
       rfl
      ·have hk2:o.kind=2:=by omega
       rw[beq_eq_false_iff_ne.2 hk1,if_neg hk1]
       dsimp only[zt]
       unfold xp
       by_cases h6:o.elem<6
       ·have hcl:=vM l o.seg o.at_ o.cost
        rw[decide_eq_true h6,if_pos h6]
        dsimp only[zc]
        rw[rN hl hs _ _ _ (by omega)]
        dsimp only[zf,zg,zpj,zO,zpi,zph]
        rw[rK _ (XS hl _ _ _) (by omega)]
        dsimp only[zf,zg,zpj]
        rw[zfK hn (xY _) (WX hn (hw hk2 h6) h6)]
        rfl
       ·rw[decide_eq_false h6,if_neg h6]
        dsimp only[zt]
        exact znh hl hs hF hO ⟨h0,by omega⟩ hat hdt hq hn o.n.toNat 0 _ [] (by omega) rfl hm'
    ·rw[if_neg hf,xC hf]
     rfl
  ·rw[xC he]
   dsimp only[zc]
   rw[Yw he]
   rfl
abbrev hp (l:List (List Int)) (d w b m:Int):zh:=[[.pv (.sl 1 (zA l)),.pv (I d),.pv (I w),.pv (I b),.pv (I m)]]
def ZG (l:List (List Int)) (d w b:Int) (e m:Int) (p:PV):Option (Out×zh):=if e=0 then some (.ret (.pv p),hp l d w b m) else some (.pan (.ifc 279 (.agg [I e])),hp l d w b m)
theorem vT {l:List (List Int)} {d w b e m:Int} {p:PV} (h:e=0):ZG l d w b e m p=some (.ret (.pv p),[[.pv (.sl 1 (zA l)),.pv (I d),.pv (I w),.pv (I b),.pv (I m)]]):=by rw[ZG,if_pos h]
theorem wF {l:List (List Int)} {d w b e m:Int} {p:PV} (h:e≠0):ZG l d w b e m p=some (.pan (.ifc 279 (.agg [I e])),[[.pv (.sl 1 (zA l)),.pv (I d),.pv (I w),.pv (I b),.pv (I m)]]):=by rw[ZG,if_neg h]
def Nd.x (x:Nd):PV:=.agg [I x.kind,I x.elem,I x.n,.sl 1 (bs x.data),.sl 5 (zD x.kids)]
def CV (l:List (List Int)) (d w b:Int) (dep:Int) (F:Int->Int->Int->Nd×Int×Int):Prop:=∀ m s a,Mt m->ev 234 [.ptr 0 0,.pv (I s),.pv (I a),.pv (I dep)] [[.pv (.sl 1 (zA l)),.pv (I d),.pv (I w),.pv (I b),.pv (I m)]]=ZG l d w b (F m s a).2.2 (F m s a).2.1 (F m s a).1.x
theorem WO {e:Int} (h:e=0):ev 271 [.pv (I e)] []=ok (.tup []):=by rw[zaP,h];rfl
theorem WP {e:Int} (h:e≠0):ev 271 [.pv (I e)] []=some (.pan (.ifc 279 (.agg [I e])),[]):=by rw[zaP,xC h];rfl
theorem zcp (x:Nd):((decide (x.x.cells.length=5)&&x.x.cells.all PV.isCell)&&true)=true:=rfl
theorem zc3 (acc:List Nd) (x:Nd):zD acc++[x.x]=zD (acc++[x]):=KF acc x
theorem rr {l:List (List Int)} (hl:zF l) (d w b m:Int) (o:Ob) (a n:Int) (hn:n<=8796093022208):ev 295 [.ptr 0 0,.pv (.agg o.c),.pv (I a),.pv (I n)] [[.pv (.sl 1 (zA l)),.pv (I d),.pv (I w),.pv (I b),.pv (I m)]]=some (.ret (.pv (.sl 1 (bs (zu (cutB l o.seg a n))))),[[.pv (.sl 1 (zA l)),.pv (I d),.pv (I w),.pv (I b),.pv (I m)]]):=by
 have hcl:=vM l o.seg a n
 rw[Ob.c,zja,rn hl _ _ _ (by omega)]
 dsimp only[zf,zg,zpj,zO,zpi,zph]
 rw[Yk _ (by omega)]
 rfl
theorem ziX {l:List (List Int)} {d w b dep:Int} {F:Int->Int->Int->Nd×Int×Int} (hF:CV l d w b (dep+1) F) (hO:∀ m s a,Mt m->Fn (F m s a)) (hdep:0<=dep/\dep<=1099511627776) {k sg at_ dt q e n cst A Q:Int} (hA:0<=A/\A<=2251799813685248) (hQ:0<=Q/\Q<=536870911):∀ (c i:Nat) (m:Int) (acc:List Nd),i+c=Q.toNat->acc.length=i->Mt m->
  QT dep (zD acc) (I A) (I Q) i (.sl 1 (zA l)) (I d) (I w) (I b) (I m) k sg at_ dt q e n cst=ZG l d w b (zX (fun m i=>F m sg (A+i)) c i m acc).2.2 (zX (fun m i=>F m sg (A+i)) c i m acc).2.1 (.sl 5 (zD (zX (fun m i=>F m sg (A+i)) c i m acc).1)):=by
 intro c
 induction c with
 |zero=>
  intro i m acc hi ha hm
  rw[zaR]
  dsimp only[zK,zpj]
  rw[decide_eq_false (by omega)]
  rfl
 |succ c ih=>
  intro i m acc hi ha hm
  rw[zaR]
  dsimp only[zK,zpj]
  rw[decide_eq_true (show (i:Int)<Q by omega),ze (x:=A+i) (by omega),ze (x:=dep+1) (by omega)]
  dsimp only[zc]
  rw[hF m sg (A+i) hm]
  by_cases h0:(F m sg (A+i)).2.2=0
  ·rw[YD (F:=fun m (i:Nat)=>F m sg (A+i)) (by exact h0),vT h0]
   dsimp only[zf,zph,yO,zg,zpj,zc,zpi,Yt]
   rw[zcp]
   dsimp only[zc]
   rw[yQ (by simp;omega) (by simp;omega),zc3,ze (x:=(i:Int)+1) (by omega)]
   exact ih (i+1) _ _ (by omega) (by simp;omega) (hO m sg _ hm).1
  ·rw[YC (F:=fun m (i:Nat)=>F m sg (A+i)) (by exact h0),wF h0,wF h0]
   rfl
theorem rA {l:List (List Int)} {d w b dep:Int} {F:Int->Int->Int->Nd×Int×Int} (hF:CV l d w b (dep+1) F) (hO:∀ m s a,Mt m->Fn (F m s a)) (hdep:0<=dep/\dep<=1099511627776) {o:Ob} (hat:0<=o.at_/\o.at_<=1125899906842624) (hdt:0<=o.data/\o.data<=65535) {A Q:Int} (hA:xj o=A) (hQ:w9 o=Q) (hA':0<=A/\A<=2251799813685248) (hQ':0<=Q/\Q<=536870911) {m:Int} (hm:Mt m):ev 296 [.ptr 0 0,.pv (.agg o.c),.pv (I dep)] [[.pv (.sl 1 (zA l)),.pv (I d),.pv (I w),.pv (I b),.pv (I m)]]=ZG l d w b (zX (fun m i=>F m o.seg (A+i)) Q.toNat 0 m []).2.2 (zX (fun m i=>F m o.seg (A+i)) Q.toNat 0 m []).2.1 (.sl 5 (zD (zX (fun m i=>F m o.seg (A+i)) Q.toNat 0 m []).1)):=by
 have hp:=rm o (by omega)
 rw[hA,hQ] at hp
 rw[Ob.c] at hp ⊢
 rw[zjb,hp]
 dsimp only[zf,zg,zpj,zO,zpi,zph]
 exact ziX hF hO hdep hA' hQ' Q.toNat 0 m [] (by omega) rfl hm
theorem zb4 {F:Int->Int->Int->Nd×Int×Int} (sg:Int) {A A' Q:Int} {m:Int} (h:0<Q->A' = A):zX (fun m (i:Nat)=>F m sg (A'+i)) (if 0<Q then Q else 0).toNat 0 m []=zX (fun m (i:Nat)=>F m sg (A+i)) Q.toNat 0 m []:=by
 by_cases hQ:0<Q
 ·rw[if_pos hQ,h hQ]
 ·rw[if_neg hQ,show Q.toNat=0 by omega];rfl
theorem Zp {t:List Nd×Int×Int} {f:List Nd->Nd} (h:t.2.2=0):wt t f=(f t.1,t.2.1,t.2.2):=by
 unfold wt
 rw[if_pos h]
theorem uZ {t:List Nd×Int×Int} {f:List Nd->Nd} (h:t.2.2≠0):wt t f=(nd0,t.2.1,t.2.2):=by
 unfold wt
 rw[if_neg h]
theorem rB {l:List (List Int)} (hl:zF l) {d w b dep:Int} {F:Int->Int->Int->Nd×Int×Int} (hF:CV l d w b (dep+1) F) (hO:∀ m s a,Mt m->Fn (F m s a)) (hdep:0<=dep/\dep<=1099511627776) {o:Ob} (hat:0<=o.at_/\o.at_<=1125899906842624) (hdt:0<=o.data/\o.data<=65535) (hq:0<=o.ptrs/\o.ptrs<=65535) (hk:o.kind=1) {m:Int} (hm:Mt m):ev 273 [.ptr 0 0,.pv (.agg o.c),.pv (I dep)] [[.pv (.sl 1 (zA l)),.pv (I d),.pv (I w),.pv (I b),.pv (I m)]]=ZG l d w b (zV F l m o).2.2 (zV F l m o).2.1 (zV F l m o).1.x:=by
 have e1:=rr hl d w b m o o.at_ o.data (by omega)
 have hA:xj o=if 0<o.ptrs then o.at_+o.data else 0:=by
  unfold xj
  by_cases h:0<o.ptrs
  ·rw[if_pos ⟨hk,h⟩,if_pos h]
  ·rw[if_neg (fun x=>h x.2),if_neg (fun x=>absurd x.1 (by omega)),if_neg h]
 have hQ:w9 o=if 0<o.ptrs then o.ptrs else 0:=by
  unfold w9
  by_cases h:0<o.ptrs
  ·rw[if_pos ⟨hk,h⟩,if_pos h]
  ·rw[if_neg (fun x=>h x.2),if_neg (fun x=>absurd x.1 (by omega)),if_neg h]
 have e2:=rA hF hO hdep hat hdt hA hQ (by split<;>omega) (by split<;>omega) hm
 rw[zb4 (F:=F) o.seg (A:=o.at_+o.data) (fun h=>if_pos h)] at e2
 rw[Ob.c] at e1 e2 ⊢
 rw[zjc,e1]
 dsimp only[zf,zph,yO,zg,zpj,xr,zr,zc,zpi,Yt]
 rw[e2]
 unfold zV
 generalize hK:zX (fun m (i:Nat)=>F m o.seg (o.at_+o.data+i)) o.ptrs.toNat 0 m []=K
 by_cases h0:K.2.2=0
 ·rw[vT h0,Zp h0]
  dsimp only[zf,zph,yO,zg,zpj,xr,zr,zc,zpi,Yt]
  rw[vT h0]
  rfl
 ·rw[wF h0,uZ h0]
  dsimp only[jO,zph,yO,zc,zpj,zpi,Yt,zg]
  rw[wF h0]
theorem ziM {l:List (List Int)} (hl:zF l) {d w b dep:Int} {F:Int->Int->Int->Nd×Int×Int} (hF:CV l d w b (dep+1) F) (hO:∀ m s a,Mt m->Fn (F m s a)) (hdep:0<=dep/\dep<=1099511627776) {o:Ob} (hat:0<=o.at_/\o.at_<=1099511627776) (hdt:0<=o.data/\o.data<=65535) (hq:0<=o.ptrs/\o.ptrs<=65535) (hn:0<=o.n/\o.n<=536870911):∀ (c i:Nat) (m:Int) (acc:List Nd),i+c=o.n.toNat->acc.length=i->Mt m->
  QS dep o.n i (.sl 1 (zA l)) (I d) (I w) (I b) (I m) o.kind o.seg o.at_ o.data o.ptrs o.elem o.n o.cost 0 0 0 [] [] 2 o.elem o.n [] (zD acc)=ZG l d w b (zX (fun m (i:Nat)=>zV F l m (yh o i)) c i m acc).2.2 (zX (fun m (i:Nat)=>zV F l m (yh o i)) c i m acc).2.1 (.agg [I 2,I o.elem,I o.n,.sl 1 [],.sl 5 (zD (zX (fun m (i:Nat)=>zV F l m (yh o i)) c i m acc).1)]):=by
 intro c
 induction c with
 |zero=>
  intro i m acc hi ha hm
  rw[zaQ,decide_eq_false (by omega)]
  rfl
 |succ c ih=>
  intro i m acc hi ha hm
  have hmul:0<=(i:Int)*(o.data+o.ptrs)/\(i:Int)*(o.data+o.ptrs)<=536870911*131070:=WA (by omega) (by omega)
  have hel:=Ji o i (by omega) (by omega) (by omega)
  rw[Ob.c] at hel
  rw[zaQ,decide_eq_true (by omega),hel]
  dsimp only[zf,zg,zpj,zc]
  rw[rB hl hF hO hdep (o:=yh o i) ⟨by dsimp only[yh];omega,by dsimp only[yh];omega⟩ hdt hq rfl hm]
  have hk:=KR hO l hm (o:=yh o i) hdt.2 hq.2
  by_cases h0:(zV F l m (yh o i)).2.2=0
  ·rw[YD (F:=fun m (i:Nat)=>zV F l m (yh o i)) (by exact h0),vT h0]
   dsimp only[zf,zph,yO,zg,zpj,zc,zpi,Yt]
   rw[zcp]
   dsimp only[zc]
   rw[yQ (by simp;omega) (by simp;omega),zc3,ze (x:=(i:Int)+1) (by omega)]
   exact ih (i+1) _ _ (by omega) (by simp;omega) hk.1
  ·rw[YC (F:=fun m (i:Nat)=>zV F l m (yh o i)) (by exact h0),wF h0,wF h0]
   rfl
theorem zff {l:List (List Int)} (hl:zF l) {d w b dep:Int} {F:Int->Int->Int->Nd×Int×Int} (hF:CV l d w b (dep+1) F) (hO:∀ m s a,Mt m->Fn (F m s a)) (hdep:0<=dep/\dep<=1099511627776) {o:Ob} (hok:Zq l o) (hk:o.kind=2) {m:Int} (hm:Mt m):ev 274 [.ptr 0 0,.pv (.agg o.c),.pv (I dep)] [[.pv (.sl 1 (zA l)),.pv (I d),.pv (I w),.pv (I b),.pv (I m)]]=ZG l d w b (xp F l m o).2.2 (xp F l m o).2.1 (xp F l m o).1.x:=by
 obtain ⟨hat,hdt,hq,hel,hn,hc,hk',hw,hz⟩:=hok
 unfold xp
 by_cases h6:o.elem<6
 ·have e1:=rr hl d w b m o o.at_ o.cost (by omega)
  rw[Ob.c] at e1 ⊢
  rw[J8,beq_eq_false_iff_ne.2 (show o.elem≠6 by omega),beq_eq_false_iff_ne.2 (show o.elem≠7 by omega),e1,if_pos h6]
  dsimp only[zf,zph,yO,zg,zpj,zc,zpi,Yt,zt]
  rw[Qd hel hn (xY _) (WX hn (hw hk h6) h6)]
  rfl
 ·rw[if_neg h6]
  by_cases h7:o.elem=6
  ·have hE:(fun m (i:Nat)=>if o.elem=6 then F m o.seg (o.at_+i) else zV F l m (yh o i))=fun m (i:Nat)=>F m o.seg (o.at_+i):=by funext m i;rw[if_pos h7]
   rw[hE]
   have hA:xj o=if 0<o.n then o.at_ else 0:=by
    unfold xj
    rw[if_neg (fun x=>absurd x.1 (by omega))]
    by_cases h:0<o.n
    ·rw[if_pos ⟨hk,h7,h⟩,if_pos h]
    ·rw[if_neg (fun x=>h x.2.2),if_neg h]
   have hQ:w9 o=if 0<o.n then o.n else 0:=by
    unfold w9
    rw[if_neg (fun x=>absurd x.1 (by omega))]
    by_cases h:0<o.n
    ·rw[if_pos ⟨hk,h7,h⟩,if_pos h]
    ·rw[if_neg (fun x=>h x.2.2),if_neg h]
   have e2:=rA hF hO hdep (o:=o) ⟨hat.1,by omega⟩ hdt hA hQ (by split<;>omega) (by split<;>omega) hm
   rw[zb4 (F:=F) o.seg (A:=o.at_) (fun h=>if_pos h)] at e2
   rw[Ob.c] at e2 ⊢
   rw[J8,beq_iff_eq.2 h7,e2]
   generalize hK:zX (fun m (i:Nat)=>F m o.seg (o.at_+i)) o.n.toNat 0 m []=K
   by_cases h0:K.2.2=0
   ·rw[vT h0,Zp h0]
    dsimp only[zf,zph,yO,zg,zpj,xr,zr,zc,zpi,Yt]
    rw[vT h0]
    rfl
   ·rw[wF h0,uZ h0]
    dsimp only[jO,zph,yO,zc,zpj,zpi,Yt,zg]
    rw[wF h0]
  ·have hE:(fun m (i:Nat)=>if o.elem=6 then F m o.seg (o.at_+i) else zV F l m (yh o i))=fun m (i:Nat)=>zV F l m (yh o i):=by funext m i;rw[if_neg h7]
   rw[hE,Ob.c,J8,beq_eq_false_iff_ne.2 h7,beq_iff_eq.2 (show o.elem=7 by omega)]
   dsimp only[zc,zt]
   refine (ziM hl hF hO hdep hat hdt hq hn o.n.toNat 0 m [] (by omega) rfl hm).trans ?_
   generalize hK:zX (fun m (i:Nat)=>zV F l m (yh o i)) o.n.toNat 0 m []=K
   by_cases h0:K.2.2=0
   ·rw[vT h0,Zp h0]
    dsimp only
    rw[vT h0]
    rfl
   ·rw[wF h0,uZ h0]
    dsimp only
    rw[wF h0]
theorem zfZ {l:List (List Int)} (hl:zF l) (hs:Sm l) {d w b:Int} (hd:d<=1099511627775):∀ (D:Nat) (dep:Int),0<=dep->dep<=1099511627776->(d+1-dep).toNat=D->CV l d w b dep (zH l D):=by
 intro D
 induction D with
 |zero=>
  intro dep h0 h1 hD m s a hm
  rw[zaS,Jk hl]
  dsimp only[Zx,zf,zg,zpj,zO,zpi,zph]
  by_cases he:(zY l s a).2.2.2=0
  ·rw[WO he]
   dsimp only[zf,zg,zpj]
   rw[Wq]
   dsimp only[zf,zg,zpj,xc]
   by_cases hz:(zY l s a).1=0
   ·rw[beq_iff_eq.2 hz,Xa he hz]
    rfl
   ·rw[beq_eq_false_iff_ne.2 hz,V9,if_pos (show dep>d by omega),QP he hz]
    dsimp only[zf,zg,zpj,zt]
    rw[WP (by decide)]
    rfl
  ·rw[WP he,Yw he,wF he]
   rfl
 |succ D ih=>
  intro dep h0 h1 hD m s a hm
  have hF:=ih (dep+1) (by omega) (by omega) (by omega)
  have hO:=J7 hl hs D
  rw[zaS,Jk hl]
  dsimp only[Zx,zf,zg,zpj,zO,zpi,zph]
  by_cases he:(zY l s a).2.2.2=0
  ·rw[WO he]
   dsimp only[zf,zg,zpj]
   rw[Wq]
   dsimp only[zf,zg,zpj,xc]
   by_cases hz:(zY l s a).1=0
   ·rw[beq_iff_eq.2 hz,Xa he hz]
    rfl
   ·have hok:=Xg hl hs hz he
    rw[beq_eq_false_iff_ne.2 hz,V9,if_neg (show ¬dep>d by omega),QR he hz]
    dsimp only[zf,zg,zpj,zt]
    rw[WO rfl,Jn hl hs]
    generalize yz l s a=t at hok ⊢
    dsimp only[xO,Ob.c,zf,zg,zpj,zO,zpi,zph,yT,yw,zr,zK,zc]
    unfold xx
    by_cases hf:t.2=0
    ·have hok:=hok hf
     obtain ⟨hat,hdt,hq,hel,hn,hc,hk,hw,hz'⟩:=id hok
     obtain ⟨o,f⟩:=t
     dsimp only at hf hok hat hdt hq hel hn hc hk hw hz' ⊢
     rw[WO hf,if_pos hf]
     dsimp only[zf,zg,zpj]
     rw[g9 m o.cost (by unfold Mt at hm;omega)]
     dsimp only[zf,zg,zpj,zO,zpi,zph,yT,yw,zr,zc]
     by_cases h8:o.cost>m
     ·rw[if_pos h8,if_pos h8,if_pos h8,WP (by decide)]
      rfl
     ·have hm':Mt (m-o.cost):=⟨by unfold Mt at hm;omega,by unfold Mt at hm;omega⟩
      rw[if_neg h8,if_neg h8,if_neg h8,WO rfl]
      dsimp only[zf,zg,zpj]
      by_cases hk1:o.kind=1
      ·rw[beq_iff_eq.2 hk1,if_pos hk1]
       dsimp only[zc]
       have:=rB hl hF hO ⟨h0,by omega⟩ (o:=o) ⟨hat.1,by omega⟩ hdt hq hk1 hm'
       rw[Ob.c] at this
       rw[this]
       generalize zV (zH l D) l (m-o.cost) o=K
       by_cases h9:K.2.2=0
       ·rw[vT h9];rfl
       ·rw[wF h9];rfl
      ·have hk2:o.kind=2:=by omega
       rw[beq_eq_false_iff_ne.2 hk1,if_neg hk1]
       dsimp only[zt]
       have:=zff hl hF hO ⟨h0,by omega⟩ hok hk2 hm'
       rw[Ob.c] at this
       rw[this]
       generalize xp (zH l D) l (m-o.cost) o=K
       by_cases h9:K.2.2=0
       ·rw[vT h9];rfl
       ·rw[wF h9];rfl
    ·rw[if_neg hf,WP hf,wF hf]
     rfl
  ·rw[WP he,Yw he,wF he]
   rfl
def XW (l:List (List Int)):Prop:=0<l.length/\(yq l 0).length=0
instance (l:List (List Int)):Decidable (XW l):=by unfold XW;infer_instance
def runT (l:List (List Int)) (d w:Int):Nd×Int×Int:=if XW l then (nd0,max w 0,0) else zH l d.toNat (max w 0) 0 0
def yJ (l:List (List Int)) (d w:Int):Nd:=if (runT l d w).2.2=0 then zk (runT l d w).1 else nd0
def yF (l:List (List Int)) (d w:Int):Int:=(runT l d w).2.2
def xM (l:List (List Int)) (d w:Int):Int:=if (runT l d w).2.2=0 then max w 0-(runT l d w).2.1 else 0
theorem ziI (a:PV):decide ((PV.agg [a]).cells.length=1)=true:=rfl
theorem YS:zk nd0=nd0:=rfl
theorem Xm {l:List (List Int)} (hl:zF l) (hs:Sm l) {d w:Int} (hw:w<=4611686018427387904):Fn (runT l d w):=by
 have hm:Mt (max w 0):=⟨by omega,by omega⟩
 unfold runT
 split
 ·exact ⟨hm,Zy⟩
 ·exact J7 hl hs _ _ _ _ hm
theorem KO {l:List (List Int)} (h:0<l.length):(zA l)[0]? = some (.sl 1 (ws (yq l 0))):=by
 have:=YO (l:=l) (i:=0) (by omega) (by omega)
 exact this
def Xn (t:Nd×Int×Int):PV:=.tup [if t.2.2=0 then t.1.x else nd0.x,.agg [if t.2.2=0 then I t.2.1 else I 0],I t.2.2]
theorem zcn:nd0.x=.agg [I 0,I 0,I 0,.sl 1 [],.sl 5 []]:=rfl
theorem rU {l:List (List Int)} (hl:zF l) (hs:Sm l) {d w b:Int} (hd:d<=1099511627775) (hw:w<=4611686018427387904):ev 178 [.pv (.sl 1 (zA l)),.pv (.agg [I d,I w,I b])] []=ok (Xn (runT l d w)):=by
 have hm:Mt (max w 0):=⟨by omega,by omega⟩
 have hv:=zfZ hl hs (d:=d) (w:=w) (b:=b) hd d.toNat 1 (by omega) (by omega) (by omega) (max w 0) 0 0 hm
 rw[zjd,Qc]
 dsimp only[zf,zg,zpj]
 rw[ziI]
 dsimp only[yT,zph,zpj,yw,zr,zc]
 by_cases h0:0<l.length
 ·rw[decide_eq_true (show ((zA l).length:Int)>0 by rw[ZH];omega),KO h0]
  dsimp only[zpj,vd,zph,yG,zc]
  by_cases he:(yq l 0).length=0
  ·rw[yt,he,show (((0:Nat):Int)==0)=true from rfl]
   dsimp only[zc]
   rw[runT,if_pos ⟨h0,he⟩]
   rfl
  ·rw[yt,beq_eq_false_iff_ne.2 (show ((yq l 0).length:Int)≠0 by omega)]
   dsimp only[zt]
   rw[hv,runT,if_neg (fun h=>he h.2)]
   generalize zH l d.toNat (max w 0) 0 0=K
   by_cases h9:K.2.2=0
   ·rw[vT h9,Xn,if_pos h9,if_pos h9,h9];rfl
   ·rw[wF h9,Xn,if_neg h9,if_neg h9];rfl
 ·rw[decide_eq_false (show ¬((zA l).length:Int)>0 by rw[ZH];omega)]
  dsimp only[zt]
  rw[hv,runT,if_neg (fun h=>h0 h.1)]
  generalize zH l d.toNat (max w 0) 0 0=K
  by_cases h9:K.2.2=0
  ·rw[vT h9,Xn,if_pos h9,if_pos h9,h9];rfl
  ·rw[wF h9,Xn,if_neg h9,if_neg h9];rfl
theorem Wt (x:Nd):x.pv=x.x:=by cases x;rfl
theorem Jm {l:List (List Int)} (hl:zF l) (hs:Sm l) {d w b:Int} (hd:d<=1099511627775) (hw:w<=4611686018427387904):ev 176 [.pv (.sl 1 (zA l)),.pv (.agg [I d,I w,I b])] []=ok (.tup [(yJ l d w).x,I (yF l d w)]):=by
 have hr:=Xm hl hs (d:=d) hw
 rw[zi9,rU hl hs hd hw]
 unfold yJ yF
 generalize runT l d w=K at hr
 unfold Xn
 by_cases h9:K.2.2=0
 ·rw[if_pos h9,if_pos h9,if_pos h9]
  have ht:=rW K.1 hr.2
  rw[Wt,Wt] at ht
  dsimp only[Nd.x,zf,zg,zpj,zO,zpi,zph,yT,yw,zr,zc,xr] at ht ⊢
  rw[ht]
  rfl
 ·rw[if_neg h9,if_neg h9,if_neg h9]
  have ht:=rW nd0 Zy
  rw[YS,Wt] at ht
  rw[zcn] at ht ⊢
  dsimp only[zf,zg,zpj,zO,zpi,zph,yT,yw,zr,zc,xr]
  rw[ht]
  rfl
theorem zfH {l:List (List Int)} (hl:zF l) (hs:Sm l) {d w b:Int} (hd:d<=1099511627775) (hw:w<=4611686018427387904):ev 81 [.pv (.sl 1 (zA l)),.pv (.agg [I d,I w,I b])] []=ok (.tup [(yJ l d w).x,I (yF l d w)]):=by
 have hr:=Xm hl hs (d:=d) hw
 have hm:Mt (max w 0):=⟨by omega,by omega⟩
 have hv:=rP hl hs (d:=d) (w:=w) (b:=b) hd d.toNat 1 (by omega) (by omega) (by omega) (max w 0) 0 0 hm
 have ht:∀ x:Nd,yB x->ev 135 [.pv (.agg [I x.kind,I x.elem,I x.n,.sl 1 (bs x.data),.sl 5 (zD x.kids)])] []=ok (.agg [I (zk x).kind,I (zk x).elem,I (zk x).n,.sl 1 (bs (zk x).data),.sl 5 (zD (zk x).kids)]):=fun x hx=>by
  have:=zfL x hx
  rw[Wt,Wt] at this
  exact this
 rw[zim]
 by_cases h0:0<l.length
 ·rw[decide_eq_true (show ((zA l).length:Int)>0 by rw[ZH];omega),KO h0]
  dsimp only[zpj,vd,zph,yG,zc]
  by_cases he:(yq l 0).length=0
  ·rw[yt,he,show (((0:Nat):Int)==0)=true from rfl]
   dsimp only[zc]
   have hrun:runT l d w=(nd0,max w 0,0):=by rw[runT,if_pos ⟨h0,he⟩]
   rw[yJ,yF,hrun]
   rfl
  ·rw[yt,beq_eq_false_iff_ne.2 (show ((yq l 0).length:Int)≠0 by omega),Qf]
   dsimp only[zf,zg,zpj,zt]
   rw[hv,yJ,yF]
   have hrun:runT l d w=zH l d.toNat (max w 0) 0 0:=by rw[runT,if_neg (fun h=>he h.2)]
   rw[hrun] at hr ⊢
   generalize zH l d.toNat (max w 0) 0 0=K at hr ⊢
   dsimp only[Zg,zf,zg,zpj,zO,zpi,zph,zK,yT,yw,zr,zc,xr]
   by_cases h9:K.2.2=0
   ·rw[if_pos h9,h9,show ((0:Int) != 0)=false from rfl,ht K.1 hr.2];rfl
   ·rw[if_neg h9,xC h9];rfl
 ·rw[decide_eq_false (show ¬((zA l).length:Int)>0 by rw[ZH];omega),Qf]
  dsimp only[zf,zg,zpj,zt]
  rw[hv,yJ,yF]
  have hrun:runT l d w=zH l d.toNat (max w 0) 0 0:=by rw[runT,if_neg (fun h=>h0 h.1)]
  rw[hrun] at hr ⊢
  generalize zH l d.toNat (max w 0) 0 0=K at hr ⊢
  dsimp only[Zg,zf,zg,zpj,zO,zpi,zph,zK,yT,yw,zr,zc,xr]
  by_cases h9:K.2.2=0
  ·rw[if_pos h9,h9,show ((0:Int) != 0)=false from rfl,ht K.1 hr.2];rfl
  ·rw[if_neg h9,xC h9];rfl
theorem Jl {l:List (List Int)} (hl:zF l) (hs:Sm l) {d w b:Int} (hd:d<=1099511627775) (hw:w<=4611686018427387904):ev 110 [.pv (.sl 1 (zA l)),.pv (.agg [I d,I w,I b])] []=ok (.tup [I (xM l d w),I (yF l d w)]):=by
 have hr:=Xm hl hs (d:=d) hw
 rw[zi8,rU hl hs hd hw]
 unfold xM yF
 generalize runT l d w=K at hr
 have hm:=hr.1
 unfold Mt at hm
 unfold Xn
 by_cases h9:K.2.2=0
 ·rw[if_pos h9,if_pos h9,if_pos h9,h9]
  dsimp only[Nd.x,zf,zg,zpj,zO,zpi,zph,zK,yT,yw,zr,zc,xr]
  rw[show ((0:Int) != 0)=false from rfl,zhe,Qc]
  dsimp only[zpl,zf,zg,zpj,zlA,zph,zK,zt]
  rw[ze (by omega)]
  rfl
 ·rw[if_neg h9,if_neg h9,if_neg h9,zcn]
  dsimp only[zf,zg,zpj,zO,zpi,zph,zK,yT,yw,zr,zc,xr]
  rw[xC h9]
  rfl
theorem zfG {l:List (List Int)} (hl:zF l) (hs:Sm l) {d w b:Int} (hd:d<=1099511627775) (hw:w<=4611686018427387904):ev 41 [.pv (.sl 1 (zA l)),.pv (.agg [I d,I w,I b])] []=ok (.tup [I (xM l d w),I (yF l d w)]):=by
 have hr:=Xm hl hs (d:=d) hw
 have hm:Mt (max w 0):=⟨by omega,by omega⟩
 have hv:=rP hl hs (d:=d) (w:=w) (b:=b) hd d.toNat 1 (by omega) (by omega) (by omega) (max w 0) 0 0 hm
 rw[zil]
 by_cases h0:0<l.length
 ·rw[decide_eq_true (show ((zA l).length:Int)>0 by rw[ZH];omega),KO h0]
  dsimp only[zpj,vd,zph,yG,zc]
  by_cases he:(yq l 0).length=0
  ·rw[yt,he,show (((0:Nat):Int)==0)=true from rfl]
   dsimp only[zc]
   have hrun:runT l d w=(nd0,max w 0,0):=by rw[runT,if_pos ⟨h0,he⟩]
   rw[xM,yF,hrun]
   dsimp only
   rw[if_pos rfl,Int.sub_self]
  ·rw[yt,beq_eq_false_iff_ne.2 (show ((yq l 0).length:Int)≠0 by omega),Qf]
   dsimp only[zf,zg,zpj,yT,zph,yw,zr,zK,zc,zt]
   rw[hv,xM,yF]
   have hrun:runT l d w=zH l d.toNat (max w 0) 0 0:=by rw[runT,if_neg (fun h=>he h.2)]
   rw[hrun] at hr ⊢
   generalize zH l d.toNat (max w 0) 0 0=K at hr ⊢
   have hm':=hr.1
   unfold Mt at hm'
   dsimp only[Zg,zf,zg,zpj,zO,zpi,zph,zK,yT,yw,zr,zc,xr]
   by_cases h9:K.2.2=0
   ·rw[if_pos h9,h9,show ((0:Int) != 0)=false from rfl,ze (x:=max w 0-K.2.1) (by omega)];rfl
   ·rw[if_neg h9,xC h9];rfl
 ·rw[decide_eq_false (show ¬((zA l).length:Int)>0 by rw[ZH];omega),Qf]
  dsimp only[zf,zg,zpj,yT,zph,yw,zr,zK,zc,zt]
  rw[hv,xM,yF]
  have hrun:runT l d w=zH l d.toNat (max w 0) 0 0:=by rw[runT,if_neg (fun h=>h0 h.1)]
  rw[hrun] at hr ⊢
  generalize zH l d.toNat (max w 0) 0 0=K at hr ⊢
  have hm':=hr.1
  unfold Mt at hm'
  dsimp only[Zg,zf,zg,zpj,zO,zpi,zph,zK,yT,yw,zr,zc,xr]
  by_cases h9:K.2.2=0
  ·rw[if_pos h9,h9,show ((0:Int) != 0)=false from rfl,ze (x:=max w 0-K.2.1) (by omega)];rfl
  ·rw[if_neg h9,xC h9];rfl
theorem zdv {d:List Int} (hd:d.length<=17592186044416):∀ (c i:Nat),i+c=d.length->XL (bs d) (bs d) i=ok (Bo true):=by
 intro c
 induction c with
 |zero=>intro i hi;rw[QC,decide_eq_false (by simp;omega)];rfl
 |succ c ih=>
  intro i hi
  rw[QC,decide_eq_true (show (i:Int)<((bs d).length:Int) by simp;omega),decide_eq_true (show 0<=(i:Int) by omega)]
  dsimp only[zr,zc]
  rw[Int.toNat_natCast,Zr (by omega)]
  dsimp only[zpj,yv,zph,ZE]
  rw[show (d[i] != d[i])=false from by simp,ze (x:=(i:Int)+1) (by omega)]
  exact ih (i+1) (by omega)
theorem zju {l:List Nd} (hl:l.length<=1073741824) (hv:∀ x∈l,ev 134 [.pv x.pv,.pv x.pv] []=ok (Bo true)) (a b c a' b' c':Int) (x y:List PV):∀ (c0 i:Nat),i+c0=l.length->QH i a b c x (zD l) a' b' c' y (zD l)=ok (Bo true):=by
 intro c0
 induction c0 with
 |zero=>intro i hi;rw[zag,decide_eq_false (by simp;omega)];rfl
 |succ c0 ih=>
  intro i hi
  have hil:i<l.length:=by omega
  rw[zag,decide_eq_true (show (i:Int)<((zD l).length:Int) by simp;omega),decide_eq_true (show 0<=(i:Int) by omega)]
  dsimp only[zr,zc]
  rw[Int.toNat_natCast,vG hil]
  dsimp only[zpj]
  rw[ZB,qI,hv _ (List.getElem_mem hil),ze (x:=(i:Int)+1) (by omega)]
  exact ih (i+1) (by omega)
theorem zeS (x:Nd):yB x->ev 134 [.pv x.pv,.pv x.pv] []=ok (Bo true):=by
 induction x using Nd.ind with
 |h k e n d ks ih=>
  intro hg
  rw[yB,goods_iff] at hg
  obtain ⟨⟨hd,hb,hk,h8⟩,hks⟩:=hg
  rw[Nd.pv,zih,show (k != k)=false from by simp,show (e != e)=false from by simp,show (n != n)=false from by simp,JU,show (((bs d).length:Int) != ((bs d).length:Int))=false from by simp]
  dsimp only[zt]
  have hsm:XL (bs d) (bs d) 0=ok (Bo true):=zdv hd d.length 0 (by omega)
  rw[hsm,show (((zD ks).length:Int) != ((zD ks).length:Int))=false from by simp]
  dsimp only[zt,zf,zg,zpj,xc,vN]
  exact zju hk (fun x hx=>ih x hx (hks x hx)) k e n k e n (bs d) (bs d) ks.length 0 (by omega)
theorem rc {x:Nd} (h:yB x):ev 134 [.pv x.x,.pv x.x] []=ok (Bo true):=by
 have:=zeS x h
 rwa [Wt] at this
theorem zka (x:Nd):yB x->yB (zk x):=by
 induction x using Nd.ind with
 |h k e n d ks ih=>
  intro hg
  rw[yB,goods_iff] at hg
  obtain ⟨⟨hd,hb,hk,h8⟩,hks⟩:=hg
  rw[zk,yX]
  by_cases h1:k=1
  ·rw[if_pos h1,yB,goods_iff]
   have h88:=h8 h1
   refine ⟨⟨by rw[List.length_take];omega,fun b hx=>hb b (List.mem_of_mem_take hx),by rw[List.length_take,List.length_map];omega,fun _=>?_⟩,?_⟩
   ·rw[List.length_take]
    have:=wB (·==0) d
    unfold yg
    omega
   ·intro y hy
    obtain ⟨x,hx,rfl⟩:=List.mem_map.1 (List.mem_of_mem_take hy)
    exact ih x hx (hks x hx)
  ·rw[if_neg h1,yB,goods_iff]
   refine ⟨⟨hd,hb,by rw[List.length_map];omega,fun h=>absurd h h1⟩,?_⟩
   intro y hy
   obtain ⟨x,hx,rfl⟩:=List.mem_map.1 hy
   exact ih x hx (hks x hx)
theorem zjR {l:List (List Int)} (hl:zF l):∀ (c i:Nat),i+c=l.length->(∀ j,j<i->(yq l j).length<=300)->∃ bl:Bool,W4 (zA l) i=ok (Bo bl)/\(bl=true->l.length<=20/\∀ j:Nat,j<l.length->(yq l j).length<=300):=by
 intro c
 induction c with
 |zero=>
  intro i hi hj
  refine ⟨decide (((zA l).length:Int)<=20),?_,?_⟩
  ·rw[JV,decide_eq_false (by simp;omega)];rfl
  ·intro h
   have:=of_decide_eq_true h
   simp at this
   exact ⟨by omega,fun j h=>hj j (by omega)⟩
 |succ c ih=>
  intro i hi hj
  have hil:i<l.length:=by omega
  have hb:=hl.1
  by_cases h3:(yq l (i:Int)).length<=300
  ·obtain ⟨bl,e,hbl⟩:=ih (i+1) (by omega) fun j hjj=>by
    rcases Nat.lt_or_ge j i with h|h
    ·exact hj j h
    ·rw[show j=i by omega];exact h3
   refine ⟨bl,?_,hbl⟩
   rw[JV,decide_eq_true (show (i:Int)<((zA l).length:Int) by simp;omega),decide_eq_true (show 0<=(i:Int) by omega),YO (by omega) (by omega)]
   dsimp only[zr,zpj,vd,zph,yG,zc]
   rw[decide_eq_false (by simp;omega),ze (x:=(i:Int)+1) (by omega)]
   exact e
  ·refine ⟨false,?_,fun h=>absurd h (by decide)⟩
   rw[JV,decide_eq_true (show (i:Int)<((zA l).length:Int) by simp;omega),decide_eq_true (show 0<=(i:Int) by omega),YO (by omega) (by omega)]
   dsimp only[zr,zpj,vd,zph,yG,zc]
   rw[decide_eq_true (by simp;omega)]
   rfl
theorem ze4 {l:List (List Int)} (hl:zF l) (d w b:Int):∃ bl:Bool,ev 53 [.pv (.sl 1 (zA l)),.pv (.agg [I d,I w,I b])] []=ok (Bo bl)/\(bl=true->d<=40/\w<=2000/\l.length<=20/\∀ j:Nat,j<l.length->(yq l j).length<=300):=by
 obtain ⟨bl,e,hb⟩:=zjR hl l.length 0 (by omega) (fun j h=>absurd h (by omega))
 by_cases h1:d<=40
 ·by_cases h2:w<=2000
  ·refine ⟨bl,?_,fun h=>⟨h1,h2,hb h⟩⟩
   have e':W4 (zA l) 0=ok (Bo bl):=e
   rw[JX,decide_eq_true h1,decide_eq_true h2,zhZ,e']
   rfl
  ·refine ⟨false,?_,fun h=>absurd h (by decide)⟩
   rw[JX,decide_eq_true h1,decide_eq_false h2]
   rfl
 ·refine ⟨false,?_,fun h=>absurd h (by decide)⟩
  rw[JX,decide_eq_false h1]
  rfl
theorem zdB {l:List (List Int)} (h:∀ j:Nat,j<l.length->(yq l j).length<=300):Sm l:=by
 intro s
 unfold yq
 rcases Nat.lt_or_ge s.toNat l.length with h1|h1
 ·have:=h s.toNat h1
  unfold yq at this
  rw[Int.toNat_natCast] at this
  omega
 ·rw[List.getD_eq_getElem?_getD,List.getElem?_eq_none h1]
  simp
theorem ze1 {d:List Int} (hd:d.length<=17592186044416):ev 27 [.pv (.sl 1 (bs d)),.pv (.sl 1 (bs d))] []=ok (Bo true):=by
 rw[JU,show (((bs d).length:Int) != ((bs d).length:Int))=false from by simp]
 exact zdv hd d.length 0 (by omega)
theorem vQ {s:List Int} (h:s.length<=300) (hw:∀ x∈s,zG x):zF [s]/\Sm [s]:=by
 refine ⟨⟨by simp,fun t ht=>?_⟩,zdB fun j hj=>?_⟩
 ·rw[List.mem_singleton.1 ht];exact ⟨by omega,hw⟩
 ·rw[show j=0 by simp at hj;omega];exact h
theorem sA:zF [[281483566645248,7,0,107374182401,255]]/\Sm [[281483566645248,7,0,107374182401,255]]:=vQ (by decide) (by intro x hx;simp at hx;unfold zG;omega)
theorem mA:ev 176 [.pv (.sl 1 [.sl 1 [U 281483566645248,U 7,U 0,U 107374182401,U 255]]),.pv (.agg [I 3,I 20,I 0])] []=ok (.tup [.agg [I 1,I 0,I 0,.sl 1 (bs [7,0,0,0,0,0,0,0]),.sl 5 [.agg [I 2,I 1,I 3,.sl 1 (bs [7]),.sl 5 []]]],I 0]):=by
 have h:=Jm sA.1 sA.2 (d:=3) (w:=20) (b:=0) (by decide) (by decide)
 have e:ok (.tup [(yJ [[281483566645248,7,0,107374182401,255]] 3 20).x,I (yF [[281483566645248,7,0,107374182401,255]] 3 20)])=ok (.tup [.agg [I 1,I 0,I 0,.sl 1 (bs [7,0,0,0,0,0,0,0]),.sl 5 [.agg [I 2,I 1,I 3,.sl 1 (bs [7]),.sl 5 []]]],I 0]):=by kernel_rfl
 exact h.trans e
theorem zoJ (x:Value):(decide ((PV.v x).cells.length=1)&&(PV.v x).cells.all PV.isCell)=true:=rfl
theorem q0:ev 134 [.pv (.agg [I 0,I 0,I 0,.sl 1 [],.sl 5 []]),.pv (.agg [I 0,I 0,I 0,.sl 1 [],.sl 5 []])] []=ok (Bo true):=rc Zy
theorem zj9:yB (.mk 2 1 3 [7] []):=by rw[yB];exact ⟨⟨by simp,by intro b hb;simp at hb;unfold zq;omega,by simp,fun h=>absurd h (by decide)⟩,trivial⟩
theorem q1:ev 134 [.pv (.agg [I 2,I 1,I 3,.sl 1 (bs [7]),.sl 5 []]),.pv (.agg [I 2,I 1,I 3,.sl 1 [U8 7],.sl 5 []])] []=ok (Bo true):=rc zj9
theorem q2:ev 27 [.pv (.sl 1 (bs [7,0,0,0,0,0,0,0])),.pv (.sl 1 [U8 7,U8 0,U8 0,U8 0,U8 0,U8 0,U8 0,U8 0])] []=ok (Bo true):=ze1 (by decide)
theorem zkA {α:Type} {p:α->Bool} {l:List α}:yV p (l.take (yV p l))=yV p l:=by
 induction hn:l.length generalizing l with
 |zero=>have:=List.length_eq_zero_iff.1 hn;subst this;rfl
 |succ n ih=>
  rcases List.eq_nil_or_concat l with rfl|⟨l',x,rfl⟩
  ·rfl
  ·rw[List.concat_eq_append] at hn ⊢
   have hl:l'.length=n:=by simpa using hn
   rw[xL]
   have hle:=wB p l'
   split
   ·rw[List.take_append_of_le_length hle]
    exact ih hl
   ·rename_i hp
    rw[show (l'++[x]).take (l'.length+1)=l'++[x] from List.take_of_length_le (by simp),xL,if_neg hp]
theorem zoT {d:List Int} (h8:d.length%8=0):(d.take (8*yg d)).length=8*yg d/\yg (d.take (8*yg d))=yg d:=by
 have hle:=wB (·==0) d
 have h1:(d.take (8*yg d)).length=8*yg d:=by
  rw[List.length_take]
  unfold yg
  omega
 refine ⟨h1,?_⟩
 have h2:8*yg d<=d.length:=by unfold yg;omega
 have hk:yV (·==0) (d.take (8*yg d))=yV (·==0) d:=by
  have hge:yV (·==0) d<=8*yg d:=by unfold yg;omega
  have mono:∀ (j:Nat),yV (·==0) d<=j->j<=d.length->yV (·==0) (d.take j)=yV (·==0) d:=by
   intro j hj hjd
   induction hm:d.length-j generalizing j with
   |zero=>rw[List.take_of_length_le (by omega)]
   |succ m ih=>
    have hjl:j<d.length:=by omega
    have:=ih (j+1) (by omega) (by omega) (by omega)
    rw[vl hjl,xL] at this
    split at this
    ·exact this
    ·rw[List.length_take] at this
     omega
  exact mono _ hge (by omega)
 unfold yg at hk ⊢
 rw[hk]
theorem zml (ks:List Nd):yc (ks.take (yc ks))=yc ks/\(ks.take (yc ks)).length=yc ks:=⟨zkA,by rw[List.length_take];have:=wB (fun x:Nd=>x.kind==0) ks;unfold yc;omega⟩
theorem YT (x:Nd):(zk x).kind=x.kind:=by
 cases x with
 |mk k e n d ks=>rw[zk];split<;>rfl
theorem KB (ks:List Nd):yc (wq ks)=yc ks:=by
 rw[yX]
 unfold yc
 induction hn:ks.length generalizing ks with
 |zero=>have:=List.length_eq_zero_iff.1 hn;subst this;rfl
 |succ n ih=>
  rcases List.eq_nil_or_concat ks with rfl|⟨l',x,rfl⟩
  ·rfl
  ·rw[List.concat_eq_append] at hn ⊢
   rw[List.map_append,List.map_singleton,xL,xL,YT,ih l' (by simpa using hn),List.length_map]
inductive TrN:Nd->Prop
 |mk {k e n:Int} {d:List Int} {ks:List Nd}:(k=1->8*yg d=d.length/\yc ks=ks.length)->(∀ x∈ks,TrN x)->TrN (.mk k e n d ks)
theorem znX (x:Nd):yB x->TrN (zk x):=by
 induction x using Nd.ind with
 |h k e n d ks ih=>
  intro hg
  rw[yB,goods_iff] at hg
  obtain ⟨⟨hd,hb,hk,h8⟩,hks⟩:=hg
  rw[zk]
  by_cases h1:k=1
  ·rw[if_pos h1]
   refine .mk (fun _=>?_) fun y hy=>?_
   ·obtain ⟨a1,a2⟩:=zoT (h8 h1)
    have:=zml (wq ks)
    rw[KB] at this
    exact ⟨by rw[a1,a2],by rw[this.1,this.2]⟩
   ·have:=List.mem_of_mem_take hy
    rw[yX] at this
    obtain ⟨x,hx,rfl⟩:=List.mem_map.1 this
    exact ih x hx (hks x hx)
  ·rw[if_neg h1]
   refine .mk (fun h=>absurd h h1) fun y hy=>?_
   rw[yX] at hy
   obtain ⟨x,hx,rfl⟩:=List.mem_map.1 hy
   exact ih x hx (hks x hx)
def yn (x:Nd):List Nd:=if x.kind=2/\x.elem=7 then x.kids.flatMap Nd.kids else x.kids
def Dp:Nat->Nd->Prop
 |0,x=>x.kind=0
 |D+1,x=>x.kind=0∨((yn x).length<=1073741824/\∀ y∈yn x,Dp D y)
theorem zjl {D:Nat} {x:Nd} (h:x.kind=0):Dp D x:=by
 cases D with
 |zero=>exact h
 |succ D=>exact .inl h
def Jf (k e n:Int) (d:List Int) (q:Nat):Prop :=
 (k=0/\e=0/\n=0/\d.length=0/\q=0)∨(k=1/\e=0/\n=0/\d.length%8=0/\d.length<=524280/\q<=65535)∨
 (k=2/\(0<=n/\n<=536870911)/\(0<=e/\e<=7)/\(6<=e->d.length=0/\(q:Int)=n)/\(e<6->q=0/\(d.length:Int)=zS e n/\trimB e n d=d))
inductive VN:Nd->Prop
 |mk {k e n:Int} {d:List Int} {ks:List Nd}:(∀ x∈ks,VN x)->(k=2->e=7->∀ x∈ks,x.kind=1)->Jf k e n d ks.length->VN (.mk k e n d ks)
theorem WG:VN nd0:=.mk (fun x h=>by cases h) (fun _ _ x h=>by cases h) (.inl ⟨rfl,rfl,rfl,rfl,rfl⟩)
theorem zb6 {G:Int->Nat->Nd×Int×Int} {Q:Nd->Prop} (h:∀ m i,(G m i).2.2=0->Q (G m i).1):∀ c i m acc,(∀ x∈acc,Q x)->∀ x∈(zX G c i m acc).1,Q x:=by
 intro c
 induction c with
 |zero=>intro i m acc ha;exact ha
 |succ c ih=>
  intro i m acc ha
  by_cases h0:(G m i).2.2=0
  ·rw[YD h0]
   refine ih _ _ _ fun x hx=>?_
   rcases List.mem_append.1 hx with h1|h1
   ·exact ha x h1
   ·rw[List.mem_singleton.1 h1];exact h m i h0
  ·rw[YC h0]
   exact fun x hx=>by cases hx
theorem zb7 {G:Int->Nat->Nd×Int×Int}:∀ c i m acc,(zX G c i m acc).2.2=0->(zX G c i m acc).1.length=acc.length+c:=by
 intro c
 induction c with
 |zero=>intro i m acc _;rfl
 |succ c ih=>
  intro i m acc hz
  by_cases h0:(G m i).2.2=0
  ·rw[YD h0] at hz ⊢
   rw[ih _ _ _ hz]
   simp
   omega
  ·rw[YC h0] at hz
   exact absurd hz h0
def V7 (D:Nat) (F:Int->Int->Int->Nd×Int×Int):Prop:=∀ m s a,(F m s a).2.2=0->VN (F m s a).1/\Dp D (F m s a).1
theorem KS {D:Nat} {F:Int->Int->Int->Nd×Int×Int} (h:V7 D F) (l:List (List Int)) (m:Int) {o:Ob} (hd:o.data<=65535) (hq:0<=o.ptrs/\o.ptrs<=65535) (hz:(zV F l m o).2.2=0):VN (zV F l m o).1/\(zV F l m o).1.kind=1/\(zV F l m o).1.kids.length=o.ptrs.toNat/\∀ y∈(zV F l m o).1.kids,Dp D y:=by
 unfold zV at hz ⊢
 have hz':(zX (fun m (i:Nat)=>F m o.seg (o.at_+o.data+i)) o.ptrs.toNat 0 m []).2.2=0:=hz
 have ha:=zb6 (G:=fun m (i:Nat)=>F m o.seg (o.at_+o.data+i)) (Q:=fun x=>VN x/\Dp D x) (fun m i h0=>h m _ _ h0) o.ptrs.toNat 0 m [] (fun x hx=>by cases hx)
 have hl:=zb7 (G:=fun m (i:Nat)=>F m o.seg (o.at_+o.data+i)) o.ptrs.toNat 0 m [] hz'
 rw[Zp hz']
 generalize zX (fun m (i:Nat)=>F m o.seg (o.at_+o.data+i)) o.ptrs.toNat 0 m []=K at ha hl
 have hcl:=vM l o.seg o.at_ o.data
 refine ⟨.mk (fun x hx=>(ha x hx).1) (fun h2=>absurd h2 (by decide)) (.inr (.inl ⟨rfl,rfl,rfl,jF l _ _ _,?_,?_⟩)),rfl,?_,fun y hy=>(ha y hy).2⟩
 ·rw[y3];omega
 ·simp at hl;omega
 ·show K.1.length=_
  simpa using hl
theorem znE {D:Nat} {F:Int->Int->Int->Nd×Int×Int} (h:V7 D F) (l:List (List Int)) (m:Int) {o:Ob} (hd:o.data<=65535) (hq:0<=o.ptrs/\o.ptrs<=65535) (hz:(zV F l m o).2.2=0):VN (zV F l m o).1/\Dp (D+1) (zV F l m o).1:=by
 obtain ⟨a1,a2,a3,a4⟩:=KS h l m hd hq hz
 refine ⟨a1,.inr ?_⟩
 have:yn (zV F l m o).1=(zV F l m o).1.kids:=by unfold yn;rw[if_neg (fun x=>by rw[a2] at x;exact absurd x.1 (by decide))]
 rw[this]
 exact ⟨by rw[a3];omega,a4⟩
theorem zd7 {e c:Int} {b:List Int} (hc:0<=c/\c<=536870911) (hn:zS e c<=b.length):((trimB e c b).length:Int)=zS e c/\trimB e c (trimB e c b)=trimB e c b:=by
 have hr:=Qr (e:=e) hc
 unfold trimB
 by_cases h1:e=1/\0<c%8
 ·simp only[if_pos h1]
  have hb1:1<=zS e c:=by
   obtain ⟨rfl,h8⟩:=h1
   have hbn:zS 1 c=(c+7)/8:=by unfold zS bitsOf;simp
   omega
  have hlen:(b.take (zS e c-1).toNat).length=(zS e c-1).toNat:=by rw[List.length_take];omega
  refine ⟨by rw[zpk,hlen];simp;omega,?_⟩
  rw[List.take_append_of_le_length (by omega),List.take_of_length_le (by omega)]
  congr 2
  have:rd (b.take (zS e c-1).toNat++[rd b (zS e c-1)%2^(c%8).toNat]) (zS e c-1)=rd b (zS e c-1)%2^(c%8).toNat:=by
   conv=>lhs;unfold rd
   rw[List.getD_eq_getElem?_getD,List.getElem?_append_right (by omega),hlen,Nat.sub_self]
   rfl
  rw[this,Int.emod_emod_of_dvd _ (Int.dvd_refl _)]
 ·simp only[if_neg h1]
  refine ⟨by rw[List.length_take];omega,?_⟩
  rw[List.take_take,Nat.min_self]
theorem zlg {l:List (List Int)} {s st c:Int} (h:(wC l s st c).2=0):(wC l s st c).1.n*(wC l s st c).1.ptrs<=c∨(wC l s st c).1.data<0∨(wC l s st c).1.n<0:=by
 unfold wC at h ⊢
 by_cases hb:inB l s st (c+1)
 ·rw[if_pos hb] at h ⊢
  generalize zC (wd l s st)=p at h ⊢
  by_cases hk:p.1=0/\0<=p.2.1/\p.2.1*(p.2.2.1+p.2.2.2.1)<=c
  ·rw[if_pos hk]
   dsimp only
   by_cases h0:p.2.2.1<0
   ·exact .inr (.inl h0)
   ·refine .inl ?_
    have:p.2.1*p.2.2.2.1<=p.2.1*(p.2.2.1+p.2.2.2.1):=Int.mul_le_mul_of_nonneg_left (by omega) hk.2.1
    omega
  ·rw[if_neg hk] at h
   exact ww h (by decide)
 ·rw[if_neg hb] at h
  exact ww h (by decide)
def Np (o:Ob):Prop:=o.kind=2->o.elem=7->o.n*o.ptrs<=536870911
theorem zct {l:List (List Int)} (hl:zF l) (hs:Sm l) {s a:Int} (h0:(zY l s a).1≠0) (he:(zY l s a).2.2.2=0) (h:(yz l s a).2=0):Np (yz l s a).1:=by
 have hok:=Xg hl hs h0 he h
 obtain ⟨_,hdt,_,_,hn,_⟩:=hok
 have hd:=vz (Vr hl s a)
 unfold yz at h hdt hn ⊢
 rw[if_pos he,if_neg h0] at h hdt hn ⊢
 unfold wZ at h hdt hn ⊢
 generalize zC (zY l s a).1=p at h hdt hn hd ⊢
 by_cases k0:p.1=0
 ·rw[if_pos k0] at h hdt hn ⊢
  intro k2
  unfold wL at k2
  split at k2<;>first|exact absurd k2 (show ¬((1:Int)=2) by decide)|exact absurd k2 (show ¬((0:Int)=2) by decide)
 ·rw[if_neg k0] at h hdt hn ⊢
  by_cases k1:p.1=1
  ·rw[if_pos k1] at h hdt hn ⊢
   unfold wn at h hdt hn ⊢
   by_cases h7:p.2.2.2.2.1=7
   ·rw[if_pos h7] at h hdt hn ⊢
    intro _ _
    have:=zlg h
    omega
   ·rw[if_neg h7] at h ⊢
    split
    ·exact fun _ h=>absurd h h7
    ·rename_i hb
     rw[if_neg hb] at h
     exact ww h (by decide)
  ·rw[if_neg k1] at h
   split at h
   ·exact ww h (by decide)
   ·exact ww h (by decide)
theorem zjS {l:List Nd} {q:Nat} (h:∀ x∈l,x.kids.length=q):(l.flatMap Nd.kids).length=l.length*q:=by
 induction l with
 |nil=>simp
 |cons x l ih=>
  rw[List.flatMap_cons,zpk,ih (fun y hy=>h y (List.mem_cons_of_mem _ hy)),h x List.mem_cons_self,zpl,Nat.succ_mul]
  omega
theorem zi5 {D:Nat} {F:Int->Int->Int->Nd×Int×Int} (h:V7 D F) (l:List (List Int)) (m:Int) {o:Ob} (ho:Zq l o) (hp:Np o) (hk:o.kind=2) (hz:(xp F l m o).2.2=0):VN (xp F l m o).1/\Dp (D+1) (xp F l m o).1:=by
 obtain ⟨hat,hd,hq,he,hn,hc,_,hw,_⟩:=ho
 unfold xp at hz ⊢
 by_cases h6:o.elem<6
 ·rw[if_pos h6]
  have ht:=zd7 hn (WX hn (hw hk h6) h6)
  refine ⟨.mk (fun x hx=>by cases hx) (fun _ _ x hx=>by cases hx) (.inr (.inr ⟨rfl,hn,he,fun h=>absurd h (by omega),fun _=>⟨rfl,ht.1,ht.2⟩⟩)),.inr ?_⟩
  have:yn (.mk 2 o.elem o.n (trimB o.elem o.n (zu (cutB l o.seg o.at_ o.cost))) [])=[]:=by unfold yn;split<;>rfl
  rw[this]
  exact ⟨by simp,fun y hy=>by cases hy⟩
 ·rw[if_neg h6] at hz ⊢
  have hz':(zX (fun m (i:Nat)=>if o.elem=6 then F m o.seg (o.at_+i) else zV F l m (yh o i)) o.n.toNat 0 m []).2.2=0:=hz
  have ha:=zb6 (G:=fun m (i:Nat)=>if o.elem=6 then F m o.seg (o.at_+i) else zV F l m (yh o i)) (Q:=fun x=>VN x/\(o.elem=6->Dp D x)/\(o.elem≠6->x.kind=1/\x.kids.length=o.ptrs.toNat/\∀ y∈x.kids,Dp D y)) (fun m i h0=>by
   by_cases h7:o.elem=6
   ·simp only[if_pos h7] at h0 ⊢
    obtain ⟨b1,b2⟩:=h m _ _ h0
    exact ⟨b1,fun _=>b2,fun h=>absurd h7 h⟩
   ·simp only[if_neg h7] at h0 ⊢
    obtain ⟨b1,b2,b3,b4⟩:=KS h l m (o:=yh o i) hd.2 hq h0
    exact ⟨b1,fun h=>absurd h h7,fun _=>⟨b2,b3,b4⟩⟩) o.n.toNat 0 m [] (fun x hx=>by cases hx)
  have hl:=zb7 (G:=fun m (i:Nat)=>if o.elem=6 then F m o.seg (o.at_+i) else zV F l m (yh o i)) o.n.toNat 0 m [] hz'
  rw[Zp hz']
  generalize zX (fun m (i:Nat)=>if o.elem=6 then F m o.seg (o.at_+i) else zV F l m (yh o i)) o.n.toNat 0 m []=K at ha hl
  have hl':K.1.length=o.n.toNat:=by simpa using hl
  refine ⟨.mk (fun x hx=>(ha x hx).1) (fun _ h7 x hx=>((ha x hx).2.2 (by omega)).1) (.inr (.inr ⟨rfl,hn,he,fun _=>⟨rfl,by omega⟩,fun h=>absurd h h6⟩)),.inr ?_⟩
  dsimp only
  by_cases h7:o.elem=7
  ·have ht:yn (.mk 2 o.elem o.n [] K.1)=K.1.flatMap Nd.kids:=by unfold yn;exact if_pos ⟨rfl,h7⟩
   rw[ht]
   refine ⟨?_,fun y hy=>?_⟩
   ·rw[zjS (fun x hx=>((ha x hx).2.2 (by omega)).2.1),hl']
    have:=hp hk h7
    have e:((o.n.toNat*o.ptrs.toNat:Nat):Int)=o.n*o.ptrs:=by rw[Int.natCast_mul,Int.toNat_of_nonneg hn.1,Int.toNat_of_nonneg hq.1]
    omega
   ·obtain ⟨x,hx,hy⟩:=List.mem_flatMap.1 hy
    exact ((ha x hx).2.2 (by omega)).2.2 y hy
  ·have ht:yn (.mk 2 o.elem o.n [] K.1)=K.1:=by unfold yn;exact if_neg (fun x=>h7 x.2)
   rw[ht]
   exact ⟨by rw[hl'];omega,fun y hy=>(ha y hy).2.1 (by omega)⟩
theorem Vi {l:List (List Int)} (hl:zF l) (hs:Sm l):∀ D,V7 D (zH l D):=by
 intro D
 induction D with
 |zero=>
  intro m s a hz
  by_cases he:(zY l s a).2.2.2=0
  ·by_cases h0:(zY l s a).1=0
   ·rw[Xa he h0];exact ⟨WG,rfl⟩
   ·rw[QP he h0] at hz;exact absurd hz (by show ¬((7:Int)=0);decide)
  ·rw[Yw he] at hz;exact absurd hz he
 |succ D ih=>
  intro m s a hz
  by_cases he:(zY l s a).2.2.2=0
  ·by_cases h0:(zY l s a).1=0
   ·rw[Xa he h0];exact ⟨WG,.inl rfl⟩
   ·rw[QR he h0] at hz ⊢
    unfold xx at hz ⊢
    by_cases hf:(yz l s a).2=0
    ·rw[if_pos hf] at hz ⊢
     have hok:=Xg hl hs h0 he hf
     have hnp:=zct hl hs h0 he hf
     by_cases h8:(yz l s a).1.cost>m
     ·rw[if_pos h8] at hz;exact absurd hz (by show ¬((8:Int)=0);decide)
     ·rw[if_neg h8] at hz ⊢
      obtain ⟨hat,hd,hq,_,_,_,hk,_⟩:=id hok
      by_cases h1:(yz l s a).1.kind=1
      ·rw[if_pos h1] at hz ⊢
       exact znE ih l _ hd.2 hq hz
      ·rw[if_neg h1] at hz ⊢
       exact zi5 ih l _ hok hnp (by omega) hz
    ·rw[if_neg hf] at hz;exact absurd hz hf
  ·rw[Yw he] at hz;exact absurd hz he
theorem WH (x:Nd):VN x->VN (zk x):=by
 induction x using Nd.ind with
 |h k e n d ks ih=>
  intro hv
  cases hv with
  |mk v1 v2 v3=>
  rw[zk,yX]
  have hm:∀ y∈ks.map zk,VN y:=fun y hy=>by
   obtain ⟨x,hx,rfl⟩:=List.mem_map.1 hy
   exact ih x hx (v1 x hx)
  by_cases h1:k=1
  ·rw[if_pos h1]
   refine .mk (fun x hx=>hm x (List.mem_of_mem_take hx)) (fun h2=>absurd h2 (by omega)) ?_
   unfold Jf at v3 ⊢
   rw[List.length_take,List.length_take,List.length_map]
   rcases v3 with v3|v3|v3
   ·omega
   ·obtain ⟨_,a2,a3,a4,a5,a6⟩:=v3
    have:=wB (·==0) d
    refine .inr (.inl ⟨h1,a2,a3,?_,by omega,by omega⟩)
    unfold yg
    omega
   ·omega
  ·rw[if_neg h1]
   refine .mk hm (fun h2 h7 y hy=>?_) ?_
   ·obtain ⟨x,hx,rfl⟩:=List.mem_map.1 hy
    rw[YT]
    exact v2 h2 h7 x hx
   ·rw[List.length_map];exact v3
theorem qD (x:Nd):(zk x).kids.length<=x.kids.length/\∀ y∈(zk x).kids,∃ z∈x.kids,y=zk z:=by
 cases x with
 |mk k e n d ks=>
  rw[zk,yX]
  split
  ·refine ⟨by show ((ks.map zk).take _).length<=ks.length;rw[List.length_take,List.length_map];omega,fun y hy=>?_⟩
   have hy':y∈(ks.map zk).take (yc ks):=hy
   obtain ⟨z,hz,rfl⟩:=List.mem_map.1 (List.mem_of_mem_take hy')
   exact ⟨z,hz,rfl⟩
  ·refine ⟨by show (ks.map zk).length<=ks.length;rw[List.length_map];omega,fun y hy=>?_⟩
   have hy':y∈ks.map zk:=hy
   obtain ⟨z,hz,rfl⟩:=List.mem_map.1 hy'
   exact ⟨z,hz,rfl⟩
theorem uM (x:Nd):(zk x).elem=x.elem:=by
 cases x with
 |mk k e n d ks=>rw[zk];split<;>rfl
theorem zbq:∀ l:List Nd,((l.map zk).flatMap Nd.kids).length<=(l.flatMap Nd.kids).length
 |[]=>Nat.le_refl _
 |x::l=>by
  have:=zbq l
  have:=(qD x).1
  rw[List.map_cons,List.flatMap_cons,List.flatMap_cons,zpk,zpk]
  omega
theorem znV (x:Nd):(yn (zk x)).length<=(yn x).length/\∀ y∈yn (zk x),∃ z∈yn x,y=zk z:=by
 unfold yn
 rw[YT,uM]
 by_cases h:x.kind=2/\x.elem=7
 ·rw[if_pos h,if_pos h]
  have hk:(zk x).kids=x.kids.map zk:=by
   cases x with
   |mk k e n d ks=>
    rw[zk,yX,if_neg (fun h1=>by have:k=2:=h.1;omega)]
    rfl
  rw[hk]
  refine ⟨zbq _,fun y hy=>?_⟩
  obtain ⟨u,hu,hy⟩:=List.mem_flatMap.1 hy
  obtain ⟨v,hv,rfl⟩:=List.mem_map.1 hu
  obtain ⟨z,hz,rfl⟩:=(qD v).2 y hy
  exact ⟨z,List.mem_flatMap.2 ⟨v,hv,hz⟩,rfl⟩
 ·rw[if_neg h,if_neg h]
  exact qD x
theorem zjm:∀ (D:Nat) (x:Nd),Dp D x->Dp D (zk x):=by
 intro D
 induction D with
 |zero=>intro x h;exact (YT x).trans h
 |succ D ih=>
  intro x h
  rcases h with h|⟨h1,h2⟩
  ·exact .inl ((YT x).trans h)
  ·obtain ⟨a1,a2⟩:=znV x
   exact .inr ⟨by omega,fun y hy=>by obtain ⟨z,hz,rfl⟩:=a2 y hy;exact ih z (h2 z hz)⟩
theorem zdZ (k e n:Int) (d:List Int) (ks:List Nd):yn (.mk k e n d ks)=if k=2/\e=7 then ks.flatMap Nd.kids else ks:=rfl
theorem zbN {x:Nd} (hg:yB x):∀ y∈yn x,yB y:=by
 have kid:∀ {x:Nd},yB x->∀ y∈x.kids,yB y:=fun {x} h y hy=>by
  cases x with
  |mk k e n d ks=>rw[yB,goods_iff] at h;exact h.2 y hy
 unfold yn
 split
 ·intro y hy
  obtain ⟨z,hz,hy⟩:=List.mem_flatMap.1 hy
  exact kid (kid hg z hz) y hy
 ·exact kid hg
theorem cl5 (a b c d e:PV):decide ((PV.agg [a,b,c,d,e]).cells.length=5)=true:=rfl
theorem zm8 {l:List (List Int)} (hl:zF l) (hs:Sm l) {d w:Int} (h:(runT l d w).2.2=0):VN (runT l d w).1/\Dp d.toNat (runT l d w).1:=by
 by_cases he:XW l
 ·rw[runT,if_pos he]
  exact ⟨WG,zjl rfl⟩
 ·have e1:runT l d w=zH l d.toNat (max w 0) 0 0:=by rw[runT,if_neg he]
  rw[e1] at h ⊢
  exact Vi hl hs _ _ _ _ h
def zl (l:List Nd):Nat:=l.foldr (fun x a=>max (x.data.length/8) a) 0
def zn (l:List Nd):Nat:=l.foldr (fun x a=>max x.kids.length a) 0
def yK (x:Nd):Int:=if x.kind=0 then 0 else if x.kind=1 then ((x.data.length/8+x.kids.length:Nat):Int) else if x.elem=7 then 1+x.n*((zl x.kids+zn x.kids:Nat):Int) else zs x.elem x.n
def zo (l:List Int):Int:=l.foldr (fun a b=>a+b) 0
def zI:Nat->Nd->Int
 |0,x=>yK x
 |D+1,x=>yK x+zo ((yn x).map (zI D))
theorem znF (a b:List Int):zo (a++b)=zo a+zo b:=by
 unfold zo
 induction a with
 |nil=>simp
 |cons x a ih=>simp only[List.cons_append,List.foldr_cons,ih];omega
theorem xX:zo []=0:=rfl
theorem xI (x:Int) (l:List Int):zo (x::l)=x+zo l:=rfl
theorem xZ {l:List Int} (h:∀ x∈l,0<=x):0<=zo l:=by
 induction l with
 |nil=>exact Int.le_refl _
 |cons x l ih=>
  rw[xI]
  have:=h x List.mem_cons_self
  have:=ih fun y hy=>h y (List.mem_cons_of_mem _ hy)
  omega
theorem uR {l:List Nd} {x:Nd} (h:x∈l):x.data.length/8<=zl l:=by
 unfold zl
 induction l with
 |nil=>cases h
 |cons y l ih=>
  rw[List.foldr_cons]
  rcases List.mem_cons.1 h with rfl|h
  ·omega
  ·have:=ih h;omega
theorem YU {l:List Nd} {b:Nat} (h:∀ x∈l,x.data.length/8<=b):zl l<=b:=by
 unfold zl
 induction l with
 |nil=>exact Nat.zero_le _
 |cons y l ih=>
  rw[List.foldr_cons]
  have:=h y List.mem_cons_self
  have:=ih fun x hx=>h x (List.mem_cons_of_mem _ hx)
  omega
theorem YV {l:List Nd} {b:Nat} (h:∀ x∈l,x.kids.length<=b):zn l<=b:=by
 unfold zn
 induction l with
 |nil=>exact Nat.zero_le _
 |cons y l ih=>
  rw[List.foldr_cons]
  have:=h y List.mem_cons_self
  have:=ih fun x hx=>h x (List.mem_cons_of_mem _ hx)
  omega
theorem zoc (l:List Nd) (x:Nd):zl (l++[x])=max (zl l) (x.data.length/8):=by
 unfold zl
 induction l with
 |nil=>simp
 |cons y l ih=>simp only[List.cons_append,List.foldr_cons,ih];omega
theorem zod (l:List Nd) (x:Nd):zn (l++[x])=max (zn l) x.kids.length:=by
 unfold zn
 induction l with
 |nil=>simp
 |cons y l ih=>simp only[List.cons_append,List.foldr_cons,ih];omega
theorem zoe {l:List Nd} (hl:l.length<=1073741824) (hd:∀ x∈l,x.data.length<=17592186044416) (a b c:Int) (x y:List PV):∀ (c0 i:Nat),i+c0=l.length->KW (zl (l.take i):Nat) (zn (l.take i):Nat) (zD l) l.length i a b c x y=ok (.tup [I (zl l:Nat),I (zn l:Nat)]):=by
 intro c0
 induction c0 with
 |zero=>
  intro i hi
  rw[zeb,decide_eq_false (by omega),List.take_of_length_le (by omega)]
  rfl
 |succ c0 ih=>
  intro i hi
  have hil:i<l.length:=by omega
  have hdi:=hd _ (List.getElem_mem hil)
  rw[zeb,decide_eq_true (show (i:Int)<(l.length:Int) by omega),decide_eq_true (show 0<=(i:Int) by omega),decide_eq_true (show (i:Int)<((zD l).length:Int) by simp;omega)]
  dsimp only[zr,zc]
  rw[Int.toNat_natCast,vG hil]
  dsimp only[zpj]
  rw[ZB,YE,show (l[i].c.drop 0).take 5=l[i].c from rfl]
  dsimp only[Nd.c,zph,zpi,zpj,xr,zr,yG,yw,zc]
  rw[z5,wE,Int.tdiv_eq_ediv_of_nonneg (by omega),ze (x:=(l[i].data.length:Int)/8) (by omega),ze (x:=(i:Int)+1) (by omega)]
  have h1:(if (l[i].data.length:Int)/8>((zl (l.take i):Nat):Int) then (l[i].data.length:Int)/8 else ((zl (l.take i):Nat):Int))=((zl (l.take (i+1)):Nat):Int):=by
   rw[vl hil,zoc]
   split<;>omega
  have h2:(if (l[i].kids.length:Int)>((zn (l.take i):Nat):Int) then (l[i].kids.length:Int) else ((zn (l.take i):Nat):Int))=((zn (l.take (i+1)):Nat):Int):=by
   rw[vl hil,zod]
   split<;>omega
  rw[h1,h2]
  exact ih (i+1) (by omega)
theorem rp {x:Nd} (hl:x.kids.length<=1073741824) (hd:∀ y∈x.kids,y.data.length<=17592186044416):ev 219 [.pv x.x] []=ok (.tup [I (zl x.kids:Nat),I (zn x.kids:Nat)]):=by
 rw[Nd.x,zn1,wE]
 exact zoe hl hd x.kind x.elem x.n (bs x.data) (zD x.kids) x.kids.length 0 (by omega)
theorem Xd {x:Nd} (h:yB x):x.data.length<=17592186044416/\x.kids.length<=1073741824/\∀ y∈x.kids,yB y:=by
 cases x with
 |mk k e n d ks=>
  rw[yB,goods_iff] at h
  exact ⟨h.1.1,h.1.2.2.1,h.2⟩
theorem wU {x:Nd} (h:VN x):Jf x.kind x.elem x.n x.data x.kids.length/\(∀ y∈x.kids,VN y):=by
 cases h with
 |mk v1 v2 v3=>exact ⟨v3,v1⟩
theorem Wk {x:Nd} (h:VN x):0<=yK x:=by
 obtain ⟨hs,_⟩:=wU h
 unfold yK
 rcases hs with hs|hs|hs
 ·rw[if_pos hs.1];exact Int.le_refl _
 ·rw[if_neg (by omega),if_pos hs.1];omega
 ·rw[if_neg (by omega),if_neg (by omega)]
  split
  ·have:=Int.mul_nonneg hs.2.1.1 (Int.natCast_nonneg (zl x.kids+zn x.kids))
   omega
  ·exact (Zo hs.2.1).1
theorem rj {x:Nd} (hg:yB x) (hv:VN x) (hb:yK x<=4611686018427387904) (hu:zl x.kids+zn x.kids<=4611686018427387904):ev 262 [.pv x.x] []=ok (I (yK x)):=by
 obtain ⟨hd,hk,hks⟩:=Xd hg
 obtain ⟨hs,_⟩:=wU hv
 have hun:=rp hk (fun y hy=>(Xd (hks y hy)).1)
 rw[Nd.x] at hun ⊢
 rw[zhJ,z5,wE]
 unfold yK at hb ⊢
 rcases hs with hs|hs|hs
 ·rw[beq_iff_eq.2 hs.1,if_pos hs.1];rfl
 ·rw[beq_eq_false_iff_ne.2 (show x.kind≠0 by omega),beq_iff_eq.2 hs.1,if_neg (by omega),if_pos hs.1]
  dsimp only[zc,zt]
  rw[Int.tdiv_eq_ediv_of_nonneg (by omega),ze (x:=(x.data.length:Int)/8) (by omega),ze (by omega)]
  rw[show (x.data.length:Int)/8+(x.kids.length:Int)=((x.data.length/8+x.kids.length:Nat):Int) by omega]
 ·rw[if_neg (by omega),if_neg (by omega)] at hb ⊢
  rw[beq_eq_false_iff_ne.2 (show x.kind≠0 by omega),beq_eq_false_iff_ne.2 (show x.kind≠1 by omega)]
  dsimp only[zt]
  by_cases h7:x.elem=7
  ·rw[if_pos h7] at hb ⊢
   rw[beq_iff_eq.2 h7]
   dsimp only[zc]
   rw[hun]
   have hm:=Int.mul_nonneg hs.2.1.1 (Int.natCast_nonneg (zl x.kids+zn x.kids))
   dsimp only[zf,zg,zpj,zO,zpi,zph,zK]
   rw[ze (x:=((zl x.kids:Nat):Int)+((zn x.kids:Nat):Int)) (by omega),show ((zl x.kids:Nat):Int)+((zn x.kids:Nat):Int)=((zl x.kids+zn x.kids:Nat):Int) by push_cast;rfl,ze (x:=x.n*((zl x.kids+zn x.kids:Nat):Int)) (by omega),ze (by omega)]
  ·rw[if_neg h7]
   rw[beq_eq_false_iff_ne.2 h7,Jr hs.2.2.1 hs.2.1]
   rfl
noncomputable def xh {α:Type} (x y:α):Bool:=@decide (x=y) (Classical.propDecidable _)
theorem wW {α:Type} {x y:α} (h:x=y):xh x y=true:=by unfold xh;exact @decide_eq_true _ (Classical.propDecidable _) h
theorem wV {α:Type} {x y:α} (h:¬x=y):xh x y=false:=by unfold xh;exact @decide_eq_false _ (Classical.propDecidable _) h
theorem qh {α β:Type} {x y:α} {u v:β} (h:x=y↔u=v):xh x y=xh u v:=by
 by_cases hx:x=y
 ·rw[wW hx,wW (h.1 hx)]
 ·rw[wV hx,wV (fun e=>hx (h.2 e))]
theorem znT {α:Type} {a b:List α} {i:Nat} (ha:i<a.length) (hb:i<b.length) (h:a.take i=b.take i) (e:a[i]=b[i]):a.take (i+1)=b.take (i+1):=by
 rw[vl ha,vl hb,h,e]
theorem znk {d d':List Int} (hd:d.length<=17592186044416) (hl:d.length=d'.length):∀ (c i:Nat),i+c=d.length->d.take i=d'.take i->XL (bs d) (bs d') i=ok (Bo (xh d d')):=by
 intro c
 induction c with
 |zero=>
  intro i hi ht
  rw[List.take_of_length_le (by omega),List.take_of_length_le (by omega)] at ht
  rw[QC,decide_eq_false (by simp;omega),wW ht]
  rfl
 |succ c ih=>
  intro i hi ht
  rw[QC,decide_eq_true (show (i:Int)<((bs d).length:Int) by simp;omega),decide_eq_true (show 0<=(i:Int) by omega),decide_eq_true (show (i:Int)<((bs d').length:Int) by simp;omega)]
  dsimp only[zr,zc]
  rw[Int.toNat_natCast,Zr (l:=d) (by omega)]
  dsimp only[zpj,yv,zph,ZE]
  rw[Zr (l:=d') (by omega)]
  dsimp only[zpj,yv,zph,ZE]
  by_cases he:d[i]=d'[i]
  ·rw[show (d[i] != d'[i])=false from by simpa using he,ze (x:=(i:Int)+1) (by omega)]
   exact ih (i+1) (by omega) (znT (by omega) (by omega) ht he)
  ·rw[bne_iff_ne.2 he,wV (fun h=>he (by subst h;rfl))]
   rfl
theorem ze0 {d d':List Int} (hd:d.length<=17592186044416) (hd':d'.length<=17592186044416):ev 27 [.pv (.sl 1 (bs d)),.pv (.sl 1 (bs d'))] []=ok (Bo (xh d d')):=by
 rw[JU,z5,z5]
 by_cases hl:d.length=d'.length
 ·rw[show ((d.length:Int) != (d'.length:Int))=false from by simp;omega]
  exact znk hd hl d.length 0 (by omega) (by rw[List.take_zero,List.take_zero])
 ·rw[show ((d.length:Int) != (d'.length:Int))=true from by simp;omega,wV (fun h=>hl (by rw[h]))]
  rfl
def y4 (l:List Int):List Int:=l.take (yV (·==0) l)
theorem zaI (l:List Int) (x:Int):y4 (l++[x])=if x=0 then y4 l else l++[x]:=by
 unfold y4
 rw[xL]
 by_cases h:x=0
 ·subst h
  rw[if_pos (by rfl),if_pos rfl,List.take_append_of_le_length (wB _ _)]
 ·rw[if_neg (by simpa using h),if_neg h,List.take_of_length_le (by simp)]
theorem zaJ:∀ (n:Nat) (l:List Int),y4 (l++List.replicate n 0)=y4 l
 |0,l=>by simp
 |n+1,l=>by rw[List.replicate_succ',←List.append_assoc,zaI,if_pos rfl,zaJ n l]
theorem zaG (l:List Int):∃ n,l=y4 l++List.replicate n 0:=by
 induction hn:l.length generalizing l with
 |zero=>have:=List.length_eq_zero_iff.1 hn;subst this;exact ⟨0,rfl⟩
 |succ n ih=>
  rcases List.eq_nil_or_concat l with rfl|⟨l',x,rfl⟩
  ·exact ⟨0,rfl⟩
  ·rw[List.concat_eq_append] at hn ⊢
   rw[zaI]
   by_cases h:x=0
   ·subst h
    obtain ⟨m,hm⟩:=ih l' (by simpa using hn)
    refine ⟨m+1,?_⟩
    rw[if_pos rfl,List.replicate_succ',←List.append_assoc,←hm]
   ·rw[if_neg h]
    exact ⟨0,by simp⟩
theorem zaH {a b:List Int} (h:y4 a=y4 b) (i:Nat):a.getD i 0=b.getD i 0:=by
 obtain ⟨n,hn⟩:=zaG a
 obtain ⟨m,hm⟩:=zaG b
 have key:∀ (c:List Int) (n i:Nat),(c++List.replicate n 0).getD i 0=c.getD i 0:=fun c n i=>by
  simp only[List.getD_eq_getElem?_getD]
  rcases Nat.lt_or_ge i c.length with h|h
  ·rw[List.getElem?_append_left h]
  ·rw[List.getElem?_append_right h,List.getElem?_eq_none h,List.getElem?_replicate]
   split<;>rfl
 rw[hn,hm,key,key,h]
theorem zi1 {a b:List Int} (hl:a.length<=b.length) (h:∀ i,a.getD i 0=b.getD i 0):y4 a=y4 b:=by
 have:b=a++List.replicate (b.length-a.length) 0:=by
  apply List.ext_getElem
  ·simp;omega
  ·intro i h1 h2
   have:=h i
   simp only[List.getD_eq_getElem?_getD,List.getElem?_eq_getElem h1,Option.getD_some] at this
   rw[←this]
   rcases Nat.lt_or_ge i a.length with h3|h3
   ·rw[List.getElem_append_left h3,List.getElem?_eq_getElem h3];rfl
   ·rw[List.getElem_append_right h3,List.getElem?_eq_none h3];simp
 rw[this,zaJ]
theorem zaK {a b:List Int} (hb:b.length<=17592186044416) (hl:a.length<=b.length):∀ (c i:Nat),i+c=b.length->(∀ j,j<i->a.getD j 0=b.getD j 0)->ZW (ws a) (ws b) b.length i=ok (Bo (xh (y4 a) (y4 b))):=by
 intro c
 induction c with
 |zero=>
  intro i hi ht
  rw[za4,decide_eq_false (by omega),wW (zi1 hl fun j=>by
   rcases Nat.lt_or_ge j i with h|h
   ·exact ht j h
   ·simp only[List.getD_eq_getElem?_getD]
    rw[List.getElem?_eq_none (by omega),List.getElem?_eq_none (by omega)])]
  rfl
 |succ c ih=>
  intro i hi ht
  have hib:i<b.length:=by omega
  have hgb:b.getD i 0=b[i]:=by simp only[List.getD_eq_getElem?_getD,List.getElem?_eq_getElem hib];rfl
  have next:a.getD i 0=b.getD i 0->ZW (ws a) (ws b) b.length ((i:Int)+1)=ok (Bo (xh (y4 a) (y4 b))):=fun he=>ih (i+1) (by omega) fun j hj=>by
   rcases Nat.lt_or_ge j i with h|h
   ·exact ht j h
   ·rw[show j=i by omega];exact he
  rw[za4,decide_eq_true (show (i:Int)<(b.length:Int) by omega),decide_eq_true (show 0<=(i:Int) by omega),yt,yt,decide_eq_true (show (i:Int)<(b.length:Int) by omega)]
  dsimp only[zr,zc]
  rw[Int.toNat_natCast,ZO hib]
  dsimp only[zpj,yv,zph,wM]
  rw[ze (x:=(i:Int)+1) (by omega)]
  by_cases hia:i<a.length
  ·have hga:a.getD i 0=a[i]:=by simp only[List.getD_eq_getElem?_getD,List.getElem?_eq_getElem hia];rfl
   rw[decide_eq_true (show (i:Int)<(a.length:Int) by omega),ZO hia,decide_eq_false (show ¬(i:Int)≥(a.length:Int) by omega)]
   dsimp only[zt,zpj,yv,zph,wM,zc]
   by_cases he:a[i]=b[i]
   ·rw[show (a[i] != b[i])=false from by simpa using he]
    exact next (by rw[hga,hgb,he])
   ·rw[bne_iff_ne.2 he,wV (fun h=>he (by have:=zaH h i;rw[hga,hgb] at this;exact this))]
    rfl
  ·have hga:a.getD i 0=0:=by simp only[List.getD_eq_getElem?_getD];rw[List.getElem?_eq_none (by omega)];rfl
   rw[decide_eq_false (show ¬(i:Int)<(a.length:Int) by omega),decide_eq_true (show (i:Int)≥(a.length:Int) by omega)]
   dsimp only[zc,zt]
   by_cases he:b[i]=0
   ·rw[show (b[i] != 0)=false from by simpa using he]
    exact next (by rw[hga,hgb,he])
   ·rw[xC he,wV (fun h=>he (by have:=zaH h i;rw[hga,hgb] at this;exact this.symm))]
    rfl
theorem zjq {α:Type} (x y:α):xh x y=xh y x:=qh ⟨Eq.symm,Eq.symm⟩
theorem V8 {a b:List Int} (ha:a.length<=17592186044416) (hb:b.length<=17592186044416):ev 237 [.pv (.sl 1 (ws a)),.pv (.sl 1 (ws b))] []=ok (Bo (xh (y4 a) (y4 b))):=by
 rw[zjr,yt,yt]
 by_cases hl:a.length<b.length
 ·rw[decide_eq_true (show (a.length:Int)<(b.length:Int) by omega)]
  exact zaK hb (by omega) b.length 0 (by omega) (fun j h=>absurd h (by omega))
 ·rw[decide_eq_false (show ¬(a.length:Int)<(b.length:Int) by omega),zjq]
  exact zaK ha (by omega) a.length 0 (by omega) (fun j h=>absurd h (by omega))
theorem zb2 {α:Type} (p:α->Bool) (a:List α):∀ b:List α,yV p (a++b)=if yV p b=0 then yV p a else a.length+yV p b:=by
 intro b
 induction hn:b.length generalizing b with
 |zero=>have:=List.length_eq_zero_iff.1 hn;subst this;rw[List.append_nil,if_pos (by rfl)]
 |succ n ih=>
  rcases List.eq_nil_or_concat b with rfl|⟨b',x,rfl⟩
  ·rw[List.append_nil,if_pos (by rfl)]
  ·rw[List.concat_eq_append] at hn ⊢
   rw[←List.append_assoc,xL,xL,ih b' (by simpa using hn)]
   by_cases hp:p x=true
   ·rw[if_pos hp,if_pos hp]
   ·rw[if_neg hp,if_neg hp,if_neg (by omega),zpk]
    omega
theorem zhh (u:List Int) (x:Int):zu (u++[x])=zu u++w8 x:=by simp[zu]
theorem zoE:w8 0=List.replicate 8 0:=rfl
theorem uX {w:Int} (h:zG w):w=w/256^0%256+256*(w/256^1%256)+65536*(w/256^2%256)+16777216*(w/256^3%256)+4294967296*(w/256^4%256)+1099511627776*(w/256^5%256)+281474976710656*(w/256^6%256)+72057594037927936*(w/256^7%256):=by
 obtain ⟨h1,h2⟩:=h
 simp only[show (256:Int)^0=1 from rfl,show (256:Int)^1=256 from rfl,show (256:Int)^2=65536 from rfl,show (256:Int)^3=16777216 from rfl,show (256:Int)^4=4294967296 from rfl,show (256:Int)^5=1099511627776 from rfl,show (256:Int)^6=281474976710656 from rfl,show (256:Int)^7=72057594037927936 from rfl]
 omega
theorem K3 (w:Int):w8 w=[w/256^0%256,w/256^1%256,w/256^2%256,w/256^3%256,w/256^4%256,w/256^5%256,w/256^6%256,w/256^7%256]:=rfl
theorem zoB {a b:Int} (ha:zG a) (hb:zG b) (h:w8 a=w8 b):a=b:=by
 rw[K3,K3] at h
 simp only[List.cons.injEq,and_true] at h
 obtain ⟨e0,e1,e2,e3,e4,e5,e6,e7⟩:=h
 rw[uX ha,uX hb,e0,e1,e2,e3,e4,e5,e6,e7]
theorem zoC {x:Int} (hx:zG x):(x=0->yV (·==0) (w8 x)=0)/\(x≠0->1<=yV (·==0) (w8 x)/\yV (·==0) (w8 x)<=8):=by
 refine ⟨fun h=>by subst h;rfl,fun h=>⟨?_,?_⟩⟩
 ·by_cases h0:yV (·==0) (w8 x)=0
  ·exfalso
   apply h
   have hall:∀ y∈w8 x,y=0:=by
    have key:∀ (l:List Int),yV (·==0) l=0->∀ y∈l,y=0:=by
     intro l
     induction hn:l.length generalizing l with
     |zero=>have:=List.length_eq_zero_iff.1 hn;subst this;intro _ y hy;cases hy
     |succ n ih=>
      rcases List.eq_nil_or_concat l with rfl|⟨l',z,rfl⟩
      ·intro _ y hy;cases hy
      ·rw[List.concat_eq_append] at hn ⊢
       rw[xL]
       intro hk y hy
       split at hk
       ·rename_i hz
        rcases List.mem_append.1 hy with h1|h1
        ·exact ih l' (by simpa using hn) hk y h1
        ·rw[List.mem_singleton.1 h1];simpa using hz
       ·omega
    exact key _ h0
   rw[uX hx]
   rw[K3] at hall
   simp only[List.mem_cons,List.not_mem_nil,or_false,forall_eq_or_imp,forall_eq] at hall
   obtain ⟨e0,e1,e2,e3,e4,e5,e6,e7⟩:=hall
   rw[e0,e1,e2,e3,e4,e5,e6,e7]
   rfl
  ·omega
 ·have:=wB (·==0) (w8 x)
  rw[wb] at this
  exact this
theorem zew:∀ (u:List Int),(∀ x∈u,zG x)->yg (zu u)=yV (·==0) u:=by
 intro u
 induction hn:u.length generalizing u with
 |zero=>have:=List.length_eq_zero_iff.1 hn;subst this;intro _;rfl
 |succ n ih=>
  rcases List.eq_nil_or_concat u with rfl|⟨u',x,rfl⟩
  ·intro _;rfl
  ·rw[List.concat_eq_append] at hn ⊢
   intro hw
   have hx:=hw x (by simp)
   have hu:=ih u' (by simpa using hn) fun y hy=>hw y (List.mem_append_left _ hy)
   obtain ⟨k1,k2⟩:=zoC hx
   unfold yg at hu ⊢
   rw[zhh,zb2,xL]
   by_cases h0:x=0
   ·rw[if_pos (k1 h0),hu,if_pos (by simpa using h0)]
   ·obtain ⟨a1,a2⟩:=k2 h0
    rw[if_neg (by omega),if_neg (by simpa using h0),y3]
    omega
theorem jE:∀ (u:List Int) (k:Nat),(zu u).take (8*k)=zu (u.take k)
 |[],k=>by simp[zu]
 |x::u,0=>by simp[zu]
 |x::u,k+1=>by
  have e:zu (x::u)=w8 x++zu u:=rfl
  rw[e,List.take_append,wb,List.take_of_length_le (by rw[wb];omega),show 8*(k+1)-8=8*k by omega,jE u k,List.take_succ_cons]
  rfl
theorem uN {u:List Int} (h:∀ x∈u,zG x):(zu u).take (8*yg (zu u))=zu (y4 u):=by
 rw[zew u h,jE]
 rfl
theorem XJ:∀ {a b:List Int},(∀ x∈a,zG x)->(∀ x∈b,zG x)->zu a=zu b->a=b
 |[],[],_,_,_=>rfl
 |[],y::b,_,_,h=>by have:=congrArg List.length h;rw[y3,y3] at this;simp at this
 |x::a,[],_,_,h=>by have:=congrArg List.length h;rw[y3,y3] at this;simp at this
 |x::a,y::b,ha,hb,h=>by
  have e:w8 x++zu a=w8 y++zu b:=h
  obtain ⟨e1,e2⟩:=List.append_inj e (by rw[wb,wb])
  rw[zoB (ha x List.mem_cons_self) (hb y List.mem_cons_self) e1,XJ (fun z hz=>ha z (List.mem_cons_of_mem _ hz)) (fun z hz=>hb z (List.mem_cons_of_mem _ hz)) e2]
theorem Xt {x:Nd} (h:VN x) (hk:x.kind=0):x=nd0:=by
 cases h with
 |mk v1 v2 v3=>
  rename_i k e n d ks
  have hk':k=0:=hk
  rcases v3 with ⟨a1,a2,a3,a4,a5⟩|⟨a1,_⟩|⟨a1,_⟩
  ·rw[a1,a2,a3,List.length_eq_zero_iff.1 a4,List.length_eq_zero_iff.1 a5];rfl
  ·omega
  ·omega
theorem J5:∀ (l:List Nd),(∀ x∈l,VN x)->∃ n,l=l.take (yc l)++List.replicate n nd0:=by
 intro l
 induction hn:l.length generalizing l with
 |zero=>have:=List.length_eq_zero_iff.1 hn;subst this;exact fun _=>⟨0,rfl⟩
 |succ n ih=>
  rcases List.eq_nil_or_concat l with rfl|⟨l',x,rfl⟩
  ·exact fun _=>⟨0,rfl⟩
  ·rw[List.concat_eq_append] at hn ⊢
   intro hv
   obtain ⟨m,hm⟩:=ih l' (by simpa using hn) fun y hy=>hv y (List.mem_append_left _ hy)
   have hle:=wB (fun x:Nd=>x.kind==0) l'
   unfold yc at hm ⊢
   rw[xL]
   by_cases h:x.kind=0
   ·rw[if_pos (by simpa using h),List.take_append_of_le_length hle]
    refine ⟨m+1,?_⟩
    rw[List.replicate_succ',←List.append_assoc,←hm,Xt (hv x (by simp)) h]
   ·rw[if_neg (by simpa using h),List.take_of_length_le (by simp)]
    exact ⟨0,by simp⟩
theorem zbL (c:List Nd) (n i:Nat):(c++List.replicate n nd0).getD i nd0=c.getD i nd0:=by
 simp only[List.getD_eq_getElem?_getD]
 rcases Nat.lt_or_ge i c.length with h|h
 ·rw[List.getElem?_append_left h]
 ·rw[List.getElem?_append_right h,List.getElem?_eq_none h,List.getElem?_replicate]
  split<;>rfl
theorem uc (c:List Nd):∀ n,(c++List.replicate n nd0).take (yc (c++List.replicate n nd0))=c.take (yc c)
 |0=>by simp
 |n+1=>by
  have ih:=uc c n
  have hle:=wB (fun x:Nd=>x.kind==0) (c++List.replicate n nd0)
  unfold yc at ih ⊢
  rw[List.replicate_succ',←List.append_assoc,xL,if_pos (by rfl),List.take_append_of_le_length hle,ih]
theorem zaF {a b:List Nd} (hl:a.length<=b.length) (h:∀ i,i<b.length->a.getD i nd0=b.getD i nd0):a.take (yc a)=b.take (yc b):=by
 have:b=a++List.replicate (b.length-a.length) nd0:=by
  apply List.ext_getElem
  ·simp;omega
  ·intro i h1 h2
   have:=h i h1
   simp only[List.getD_eq_getElem?_getD,List.getElem?_eq_getElem h1,Option.getD_some] at this
   rw[←this]
   rcases Nat.lt_or_ge i a.length with h3|h3
   ·rw[List.getElem_append_left h3,List.getElem?_eq_getElem h3];rfl
   ·rw[List.getElem_append_right h3,List.getElem?_eq_none h3];simp
 rw[this,uc]
theorem ziZ {a b:List Nd} (ha:∀ x∈a,VN x) (hb:∀ x∈b,VN x) {q:Nat} (hq:a.length<=q) (hq':b.length<=q):a.take (yc a)=b.take (yc b)↔∀ i,i<q->a.getD i nd0=b.getD i nd0:=by
 constructor
 ·intro h i _
  obtain ⟨n,hn⟩:=J5 a ha
  obtain ⟨m,hm⟩:=J5 b hb
  rw[hn,hm,zbL,zbL,h]
 ·intro h
  rcases Nat.le_total a.length b.length with hl|hl
  ·exact zaF hl fun i hi=>h i (by omega)
  ·exact (zaF hl fun i hi=>(h i (by omega)).symm).symm
theorem zb9 {G:Int->Nat->Nd×Int×Int}:∀ c i m acc,(zX G c i m acc).2.2=0->∃ l',(zX G c i m acc).1=acc++l'/\l'.length=c/\∀ (j:Nat) (h:j<l'.length),∃ m1,(G m1 (i+j)).2.2=0/\(G m1 (i+j)).1=l'[j]:=by
 intro c
 induction c with
 |zero=>intro i m acc _;exact ⟨[],by simp[zX],rfl,fun j h=>absurd h (by simp)⟩
 |succ c ih=>
  intro i m acc hz
  by_cases h0:(G m i).2.2=0
  ·rw[YD h0] at hz ⊢
   obtain ⟨l',e1,e2,e3⟩:=ih _ _ _ hz
   refine ⟨(G m i).1::l',by rw[e1,List.append_assoc];rfl,by simp[e2],fun j h=>?_⟩
   cases j with
   |zero=>exact ⟨m,h0,rfl⟩
   |succ j=>
    obtain ⟨m1,f1,f2⟩:=e3 j (by simpa using h)
    refine ⟨m1,?_,?_⟩
    ·rw[show i+(j+1)=i+1+j by omega];exact f1
    ·rw[show i+(j+1)=i+1+j by omega];exact f2
  ·rw[YC h0] at hz
   exact absurd hz h0
def wc (b:List Int):Int:=b.getD 0 0+256*b.getD 1 0+65536*b.getD 2 0+16777216*b.getD 3 0+4294967296*b.getD 4 0+1099511627776*b.getD 5 0+281474976710656*b.getD 6 0+72057594037927936*b.getD 7 0
def zQ:Nat->List Int->List Int
 |0,_=>[]
 |n+1,b=>wc b::zQ n (b.drop 8)
@[simp] theorem yM:∀ (n:Nat) (b:List Int),(zQ n b).length=n
 |0,_=>rfl
 |n+1,b=>by simp[zQ,yM n]
theorem yU {b:List Int} (hb:∀ x∈b,zq x) (i:Nat):0<=b.getD i 0/\b.getD i 0<=255:=by
 rw[List.getD_eq_getElem?_getD]
 by_cases h:i<b.length
 ·rw[List.getElem?_eq_getElem h];exact hb _ (List.getElem_mem h)
 ·rw[List.getElem?_eq_none (by omega)];exact ⟨by simp,by simp⟩
theorem zoG {b:List Int} (hb:∀ x∈b,zq x):zG (wc b):=by
 have h0:=yU hb 0
 have h1:=yU hb 1
 have h2:=yU hb 2
 have h3:=yU hb 3
 have h4:=yU hb 4
 have h5:=yU hb 5
 have h6:=yU hb 6
 have h7:=yU hb 7
 unfold wc zG
 omega
theorem Yh:∀ (n:Nat) {b:List Int},(∀ x∈b,zq x)->∀ w∈zQ n b,zG w
 |0,b,hb,w,hw=>by cases hw
 |n+1,b,hb,w,hw=>by
  rw[zQ] at hw
  rcases List.mem_cons.1 hw with rfl|hw
  ·exact zoG hb
  ·exact Yh n (fun x hx=>hb x (List.mem_of_mem_drop hx)) w hw
theorem take8:∀ b:List Int,[b.getD 0 0,b.getD 1 0,b.getD 2 0,b.getD 3 0,b.getD 4 0,b.getD 5 0,b.getD 6 0,b.getD 7 0]=b.take 8++List.replicate (8-b.length) 0
 |[]=>rfl
 |[_]=>rfl
 |[_,_]=>rfl
 |[_,_,_]=>rfl
 |[_,_,_,_]=>rfl
 |[_,_,_,_,_]=>rfl
 |[_,_,_,_,_,_]=>rfl
 |[_,_,_,_,_,_,_]=>rfl
 |_::_::_::_::_::_::_::_::r=>by
  rw[show 8-(_::_::_::_::_::_::_::_::r:List Int).length=0 by simp]
  simp
theorem zoD {b:List Int} (hb:∀ x∈b,zq x):w8 (wc b)=b.take 8++List.replicate (8-b.length) 0:=by
 rw[←take8,K3]
 have h0:=yU hb 0
 have h1:=yU hb 1
 have h2:=yU hb 2
 have h3:=yU hb 3
 have h4:=yU hb 4
 have h5:=yU hb 5
 have h6:=yU hb 6
 have h7:=yU hb 7
 unfold wc
 simp only[Int.reducePow,Int.pow_zero,Int.pow_succ,Int.reduceMul,List.cons.injEq,and_true]
 refine ⟨?_,?_,?_,?_,?_,?_,?_,?_⟩<;>omega
theorem ZR:∀ (n:Nat) {b:List Int},(∀ x∈b,zq x)->b.length<=8*n->zu (zQ n b)=b++List.replicate (8*n-b.length) 0
 |0,b,hb,hl=>by
  have:b=[]:=List.length_eq_zero_iff.1 (by omega)
  subst this
  rfl
 |n+1,b,hb,hl=>by
  have e:zu (zQ (n+1) b)=w8 (wc b)++zu (zQ n (b.drop 8)):=rfl
  rw[e,zoD hb,ZR n (fun x hx=>hb x (List.mem_of_mem_drop hx)) (by rw[List.length_drop];omega),List.length_drop]
  by_cases h:b.length<=8
  ·rw[List.take_of_length_le h,List.drop_eq_nil_of_le h,List.nil_append,List.append_assoc,List.replicate_append_replicate]
   congr 2
   omega
  ·rw[show 8-b.length=0 by omega,List.replicate_zero,List.append_nil,←List.append_assoc,List.take_append_drop]
   congr 2
   omega
def yl (off:Int) (d q:Nat):Int:=off%1073741824*4+d*4294967296+q*281474976710656
def yx (off e c:Int):Int:=off%1073741824*4+1+e*4294967296+c*34359738368
theorem Y9 {off:Int} {d q:Nat} (ho:-536870912<=off/\off<=536870911) (hd:d<=65535) (hq:q<=65535):zC (yl off d q)=(0,off,(d:Int),(q:Int),0,0,false,0,0,0)/\zG (yl off d q)/\yl off d q%4=0:=by
 have hm:=Int.emod_nonneg off (show (1073741824:Int)≠0 by decide)
 have hl:=Int.emod_lt_of_pos off (show (0:Int)<1073741824 by decide)
 have h4:yl off d q%4=0:=by unfold yl;omega
 refine ⟨?_,⟨by unfold yl;omega,by unfold yl;omega⟩,h4⟩
 unfold zC
 rw[if_pos h4]
 have e1:yl off d q/4%1073741824=off%1073741824:=by unfold yl;omega
 have e2:yl off d q/4294967296%65536=d:=by unfold yl;omega
 have e3:yl off d q/281474976710656%65536=q:=by unfold yl;omega
 rw[e1,e2,e3]
 have e4:wR (off%1073741824)=off:=by unfold wR;split<;>omega
 rw[e4]
theorem Y8 {off e c:Int} (ho:-536870912<=off/\off<=536870911) (he:0<=e/\e<=7) (hc:0<=c/\c<=536870911):zC (yx off e c)=(1,off,0,0,e,c,false,0,0,0)/\zG (yx off e c)/\yx off e c%4=1:=by
 have hm:=Int.emod_nonneg off (show (1073741824:Int)≠0 by decide)
 have hl:=Int.emod_lt_of_pos off (show (0:Int)<1073741824 by decide)
 have h4:yx off e c%4=1:=by unfold yx;omega
 refine ⟨?_,⟨by unfold yx;omega,by unfold yx;omega⟩,h4⟩
 unfold zC
 rw[if_neg (by omega),if_pos h4]
 have e1:yx off e c/4%1073741824=off%1073741824:=by unfold yx;omega
 have e2:yx off e c/4294967296%8=e:=by unfold yx;omega
 have e3:yx off e c/34359738368%536870912=c:=by unfold yx;omega
 rw[e1,e2,e3]
 have e4:wR (off%1073741824)=off:=by unfold wR;split<;>omega
 rw[e4]
def ZJ (x:Nd):Nat:=zl x.kids+zn x.kids
def yA (x:Nd) (off:Int):Int :=
 if x.kind=0 then 0 else if x.kind=1 then (if x.data.length/8=0/\x.kids.length=0 then yl (-1) 0 0 else yl off (x.data.length/8) x.kids.length)
 else if x.elem=7 then yx off 7 (x.n*(ZJ x:Nat)) else yx off x.elem x.n
def yu (B:Nd->List Int):Nat->Nat->List Nd->List Int
 |_,_,[]=>[]
 |i,pos,t::r=>yA t ((pos:Int)-i-1)::yu B (i+1) (pos+(B t).length) r
def vc (B:Nd->List Int) (ts:List Nd):Nat:=(ts.flatMap B).length
def xk (B:Nd->List Int) (a b:Nat):Nat->Nat->List Nd->List Int
 |_,_,[]=>[]
 |i,pos,k::r=>(zQ a k.data++(yu B (i+a) pos k.kids++List.replicate (b-k.kids.length) 0))++xk B a b (i+(a+b)) (pos+vc B k.kids) r
def xG (B:Nd->List Int) (x:Nd):List Int :=
 if x.kind=1 then zQ (x.data.length/8) x.data++yu B (x.data.length/8) (x.data.length/8+x.kids.length) x.kids
 else if x.elem=7 then yl x.n (zl x.kids) (zn x.kids)::xk B (zl x.kids) (zn x.kids) 1 (1+x.kids.length*ZJ x) x.kids
 else if x.elem=6 then yu B 0 x.kids.length x.kids
 else zQ (zs x.elem x.n).toNat x.data
def body:Nat->Nd->List Int
 |0,_=>[]
 |D+1,x=>if x.kind=0 then [] else xG (body D) x++(yn x).flatMap (body D)
def yH (D:Nat) (x:Nd):List Int:=yA x 0::body D x
@[simp] theorem xA (B:Nd->List Int):∀ (i pos:Nat) (l:List Nd),(yu B i pos l).length=l.length
 |_,_,[]=>rfl
 |i,pos,t::r=>by simp[yu,xA B]
theorem XH (B:Nd->List Int) (a b:Nat):∀ (i pos:Nat) (l:List Nd),(∀ k∈l,k.kids.length<=b)->(xk B a b i pos l).length=l.length*(a+b)
 |_,_,[],_=>by simp[xk]
 |i,pos,k::r,h=>by
  have h1:=h k List.mem_cons_self
  have h2:=XH B a b (i+(a+b)) (pos+vc B k.kids) r fun x hx=>h x (List.mem_cons_of_mem _ hx)
  simp only[xk,zpk,yM,xA,List.length_replicate,h2,zpl]
  rw[Nat.add_mul]
  omega
theorem YW {l:List Nd} {x:Nd} (h:x∈l):x.kids.length<=zn l:=by
 unfold zn
 induction l with
 |nil=>cases h
 |cons y l ih=>
  rw[List.foldr_cons]
  rcases List.mem_cons.1 h with rfl|h
  ·omega
  ·have:=ih h;omega
theorem zcs (B:Nd->List Int) {x:Nd} (hv:VN x) (h0:x.kind≠0):((xG B x).length:Int)=yK x:=by
 obtain ⟨hs,_⟩:=wU hv
 unfold xG yK
 rw[if_neg h0]
 rcases hs with hs|hs|hs
 ·exact absurd hs.1 h0
 ·rw[if_pos hs.1,if_pos hs.1,zpk,yM,xA]
 ·have hk1:¬x.kind=1:=by omega
  rw[if_neg hk1,if_neg hk1]
  by_cases h7:x.elem=7
  ·rw[if_pos h7,if_pos h7,zpl,XH _ _ _ _ _ _ (fun k hk=>YW hk),←(hs.2.2.2.1 (by omega)).2]
   push_cast
   omega
  ·rw[if_neg h7,if_neg h7]
   by_cases h6:x.elem=6
   ·rw[if_pos h6,xA,h6]
    have:=(hs.2.2.2.1 (by omega)).2
    unfold zs bitsOf
    rw[if_neg (by decide)]
    simp
    omega
   ·rw[if_neg h6,yM]
    have:=(Zo (e:=x.elem) hs.2.1).1
    omega
theorem zdL (B:Nd->List Int) (S:Nd->Int):∀ (l:List Nd),(∀ t∈l,((B t).length:Int)=S t)->((l.flatMap B).length:Int)=zo (l.map S)
 |[],_=>rfl
 |t::l,h=>by
  rw[List.flatMap_cons,zpk,List.map_cons,xI,←h t List.mem_cons_self,←zdL B S l fun x hx=>h x (List.mem_cons_of_mem _ hx)]
  push_cast
  rfl
theorem ZN {x:Nd} (hv:VN x):∀ t∈yn x,VN t:=by
 obtain ⟨_,hk⟩:=wU hv
 intro t ht
 unfold yn at ht
 split at ht
 ·obtain ⟨k,hk1,hk2⟩:=List.mem_flatMap.1 ht
  exact (wU (hk k hk1)).2 t hk2
 ·exact hk t ht
theorem qM {x:Nd} (h:x.kind=0):yK x=0:=by unfold yK;rw[if_pos h]
theorem znU {x:Nd} (hv:VN x) (h:x.kind=0):yn x=[]:=by rw[Xt hv h];rfl
theorem Wh {x:Nd} (hv:VN x) (h:x.kind=0):∀ D,zI D x=0
 |0=>qM h
 |D+1=>by rw[zI,znU hv h,qM h];rfl
theorem jz:∀ (D:Nat) {x:Nd},VN x->Dp D x->((body D x).length:Int)=zI D x
 |0,x,hv,hd=>by
  have:x.kind=0:=hd
  rw[Wh hv this]
  rfl
 |D+1,x,hv,hd=>by
  rw[body]
  by_cases h0:x.kind=0
  ·rw[if_pos h0,Wh hv h0];rfl
  ·have hd':=hd.resolve_left h0
   rw[if_neg h0,zI,zpk,←zcs (body D) hv h0,←zdL (body D) (zI D) (yn x) fun t ht=>jz D (ZN hv t ht) (hd'.2 t ht)]
   push_cast
   rfl
def At (W:List Int) (p:Nat) (L:List Int):Prop:=∃ A C,W=A++(L++C)/\A.length=p
theorem At.app {W L M:List Int} {p:Nat} (h:At W p (L++M)):At W p L/\At W (p+L.length) M:=by
 obtain ⟨A,C,rfl,rfl⟩:=h
 exact ⟨⟨A,M++C,by simp,rfl⟩,⟨A++L,C,by simp,by simp⟩⟩
theorem At.len {W L:List Int} {p:Nat} (h:At W p L):p+L.length<=W.length:=by
 obtain ⟨A,C,rfl,rfl⟩:=h
 simp
theorem Zk (W:List Int):yq [W] 0=W:=rfl
theorem At.inB {W L:List Int} {p:Nat} (h:At W p L) {n:Int} (hn:n=L.length):inB [W] 0 p n:=by
 have:=h.len
 refine ⟨Int.le_refl _,by simp,by omega,by omega,?_⟩
 rw[Zk]
 omega
theorem At.cutB {W L:List Int} {p:Nat} (h:At W p L) {n:Int} (hn:n=L.length):cutB [W] 0 p n=L:=by
 unfold E.cutB
 rw[if_pos (h.inB hn)]
 obtain ⟨A,C,rfl,rfl⟩:=h
 unfold cut
 rw[Zk,hn]
 simp
theorem At.cons {W L:List Int} {x:Int} {p:Nat} (h:At W p (x::L)):wd [W] 0 p=x/\E.inB [W] 0 p 1/\At W (p+1) L:=by
 have h1:At W p ([x]++L):=h
 obtain ⟨a1,a2⟩:=h1.app
 refine ⟨?_,a1.inB rfl,a2⟩
 obtain ⟨A,C,rfl,rfl⟩:=h
 unfold wd rd
 rw[Zk,List.getD_eq_getElem?_getD]
 simp
theorem At.head {W L:List Int} {x:Int} {p:Nat} (h:At W p (x::L)):At W p [x]:=(show At W p ([x]++L) from h).app.1
theorem zbu {W:List Int} {x:Int} {a:Nat} (h:At W a [x]) (h4:x%4≠2):zY [W] 0 a=(x,(0:Int),(a:Int)+1,(0:Int)):=by
 obtain ⟨h1,h2,_⟩:=h.cons
 unfold zY
 rw[if_pos h2,h1,if_neg h4]
theorem zkB (n:Nat):yV (fun x:Int=>x==0) (List.replicate n 0)=0:=by
 unfold yV
 rw[List.reverse_replicate]
 induction n with
 |zero=>rfl
 |succ n ih=>rw[List.replicate_succ,List.dropWhile_cons];simp
theorem zoU (d:List Int) (n:Nat):yg (d++List.replicate n 0)=yg d:=by
 unfold yg
 rw[zb2,if_pos (zkB n)]
theorem zn6 {d:List Int} {ks ys:List Nd} (h8:8*yg d=d.length) (hq:yc ks=ks.length) (hb:∀ x∈d,zq x) {a:Nat} (ha:d.length<=8*a) (z:Nat) (hy:ys.map zk=ks):zk (.mk 1 0 0 (zu (zQ a d)) (ys++List.replicate z nd0))=.mk 1 0 0 d ks:=by
 have e1:wq (ys++List.replicate z nd0)=ks++List.replicate z nd0:=by
  rw[yX,List.map_append,hy,List.map_replicate,YS]
 rw[zk,if_pos rfl,ZR a hb ha,zoU,h8,List.take_left,←KB,e1,uc,hq,List.take_length]
def xV (x:Nd):Int:=yK x+(if x.kind=2/\x.elem=7/\ZJ x=0 then x.n else 0)
def zW:Nat->Nd->Int
 |0,_=>0
 |D+1,x=>if x.kind=0 then 0 else xV x+zo ((yn x).map (zW D))
theorem zlw {x:Nd} (hv:VN x):0<=xV x:=by
 have:=Wk hv
 obtain ⟨hs,_⟩:=wU hv
 unfold xV
 split
 ·rename_i h
  rcases hs with hs|hs|hs
  ·omega
  ·omega
  ·omega
 ·omega
theorem Yu:∀ (D:Nat) {x:Nd},VN x->0<=zW D x
 |0,x,_=>Int.le_refl _
 |D+1,x,hv=>by
  rw[zW]
  split
  ·exact Int.le_refl _
  ·have:=zlw hv
   have:=xZ (l:=(yn x).map (zW D)) fun y hy=>by
    obtain ⟨t,ht,rfl⟩:=List.mem_map.1 hy
    exact Yu D (ZN hv t ht)
   omega
structure Ok (D:Nat) (t:Nd):Prop where
 vn:VN t
 tr:TrN t
 gd:yB t
 dp:Dp D t
section
variable {W:List Int} {F:Int->Int->Int->Nd×Int×Int} {B:Nd->List Int} {c:Nd->Int} {Q:Nd->Prop}
structure Rt (W:List Int) (F:Int->Int->Int->Nd×Int×Int) (B:Nd->List Int) (c:Nd->Int) (Q:Nd->Prop):Prop where
 one:∀ (t:Nd) (a q:Nat) (m:Int),Q t->At W q (B t)->At W a [yA t ((q:Int)-a-1)]->c t<=m->∃ y,F m 0 a=(y,m-c t,0)/\zk y=t
 null:∀ (a:Nat) (m:Int),At W a [0]->F m 0 a=(nd0,m,0)
 nn:∀ t,Q t->0<=c t
theorem VQ (R:Rt W F B c Q) {ks:List Nd} (h:∀ t∈ks,Q t):0<=zo (ks.map c):=xZ fun y hy=>by
 obtain ⟨t,ht,rfl⟩:=List.mem_map.1 hy
 exact R.nn t (h t ht)
theorem qC (R:Rt W F B c Q) (p:Nat):∀ (ks:List Nd) (i0 pos c0:Nat) (m:Int) (acc:List Nd) (G:Int->Nat->Nd×Int×Int),(∀ m (j:Nat),G m (c0+j)=F m 0 ((p+i0+j:Nat):Int))->(∀ t∈ks,Q t)->
  At W (p+i0) (yu B i0 pos ks)->At W (p+pos) (ks.flatMap B)->zo (ks.map c)<=m->∃ ys,zX G ks.length c0 m acc=(acc++ys,m-zo (ks.map c),0)/\ys.map zk=ks
 |[],i0,pos,c0,m,acc,G,hG,hQ,h1,h2,hm=>⟨[],by simp[zX,xX],rfl⟩
 |t::r,i0,pos,c0,m,acc,G,hG,hQ,h1,h2,hm=>by
  rw[yu] at h1
  obtain ⟨_,_,h1t⟩:=h1.cons
  rw[List.flatMap_cons] at h2
  obtain ⟨h2h,h2t⟩:=h2.app
  rw[List.map_cons,xI] at hm
  have hr:=VQ R fun x hx=>hQ x (List.mem_cons_of_mem _ hx)
  have ht:=R.nn t (hQ t List.mem_cons_self)
  obtain ⟨y,hy,hty⟩:=R.one t (p+i0) (p+pos) m (hQ t List.mem_cons_self) h2h (by
   rw[show ((p+pos:Nat):Int)-((p+i0:Nat):Int)-1=(pos:Int)-i0-1 by omega]
   exact h1.head) (by omega)
  have e:G m c0=(y,m-c t,0):=by
   have:=hG m 0
   rw[Nat.add_zero,Nat.add_zero] at this
   rw[this,hy]
  obtain ⟨ys,k1,k2⟩:=qC R p r (i0+1) (pos+(B t).length) (c0+1) (m-c t) (acc++[y]) G (fun m j=>by
   rw[Nat.add_assoc,Nat.add_comm 1 j,hG m (j+1)]
   congr 2
   omega) (fun x hx=>hQ x (List.mem_cons_of_mem _ hx)) (by rw[←Nat.add_assoc];exact h1t) (by rw[←Nat.add_assoc];exact h2t) (by omega)
  refine ⟨y::ys,?_,by rw[List.map_cons,hty,k2]⟩
  rw[zpl,zX,e]
  dsimp only
  rw[if_pos rfl,k1,List.map_cons,xI,List.append_assoc,List.singleton_append,show m-c t-zo (r.map c)=m-(c t+zo (r.map c)) by omega]
theorem zca (R:Rt W F B c Q) (p:Nat):∀ (z i0 c0:Nat) (m:Int) (acc:List Nd) (G:Int->Nat->Nd×Int×Int),(∀ m (j:Nat),G m (c0+j)=F m 0 ((p+i0+j:Nat):Int))->At W (p+i0) (List.replicate z 0)->zX G z c0 m acc=(acc++List.replicate z nd0,m,0)
 |0,i0,c0,m,acc,G,hG,h1=>by simp[zX]
 |z+1,i0,c0,m,acc,G,hG,h1=>by
  rw[List.replicate_succ] at h1
  obtain ⟨_,_,h1t⟩:=h1.cons
  have e:G m c0=(nd0,m,0):=by
   have:=hG m 0
   rw[Nat.add_zero,Nat.add_zero] at this
   rw[this,R.null _ _ h1.head]
  rw[zX,e]
  dsimp only
  rw[if_pos rfl,zca R p z (i0+1) (c0+1) m _ G (fun m j=>by
   rw[Nat.add_assoc,Nat.add_comm 1 j,hG m (j+1)]
   congr 2
   omega) (by rw[←Nat.add_assoc];exact h1t),List.replicate_succ,List.append_assoc,List.singleton_append]
theorem zb3 {G:Int->Nat->Nd×Int×Int}:∀ (c1 c2 i:Nat) (m m':Int) (acc l:List Nd),zX G c1 i m acc=(l,m',0)->zX G (c1+c2) i m acc=zX G c2 (i+c1) m' l
 |0,c2,i,m,m',acc,l,h=>by
  rw[zX] at h
  cases h
  rw[Nat.zero_add,Nat.add_zero]
 |c1+1,c2,i,m,m',acc,l,h=>by
  rw[zX] at h
  rw[show c1+1+c2=(c1+c2)+1 by omega,zX]
  split at h
  ·rename_i h0
   rw[if_pos h0,zb3 c1 c2 (i+1) _ m' _ l h,show i+1+c1=i+(c1+1) by omega]
  ·rename_i h0
   have:(G m i).2.2=0:=by injection h with _ h;injection h
   exact absurd this h0
theorem uH (R:Rt W F B c Q) (p:Nat) {d:List Int} {ks:List Nd} (h8:8*yg d=d.length) (hq:yc ks=ks.length) (hb:∀ x∈d,zq x) {a z i0 pos:Nat} (ha:d.length<=8*a) (hQ:∀ t∈ks,Q t) {m:Int}
  (h1:At W (p+i0) (zQ a d++(yu B (i0+a) pos ks++List.replicate z 0))) (h2:At W (p+pos) (ks.flatMap B)) (hm:zo (ks.map c)<=m) {o:Ob} (o1:o.seg=0) (o2:o.at_=((p+i0:Nat):Int)) (o3:o.data=a) (o4:o.ptrs=((ks.length+z:Nat):Int)) :
  ∃ y,zV F [W] m o=(y,m-zo (ks.map c),0)/\zk y=.mk 1 0 0 d ks:=by
 obtain ⟨hd,hp⟩:=h1.app
 rw[yM] at hp
 obtain ⟨hp1,hp2⟩:=hp.app
 rw[xA] at hp2
 have hG:∀ m (j:Nat),(fun m (i:Nat)=>F m o.seg (o.at_+o.data+i)) m (0+j)=F m 0 ((p+(i0+a)+j:Nat):Int):=fun m j=>by
  dsimp only
  rw[o1,o2,o3]
  congr 1
  omega
 obtain ⟨ys,k1,k2⟩:=qC R p ks (i0+a) pos 0 m [] (fun m (i:Nat)=>F m o.seg (o.at_+o.data+i)) hG hQ (by rw[←Nat.add_assoc];exact hp1) h2 hm
 have k3:=zb3 _ z _ _ _ _ _ k1
 rw[zca R p z (i0+a+ks.length) (0+ks.length) _ _ (fun m (i:Nat)=>F m o.seg (o.at_+o.data+i)) (fun m j=>by
  refine Eq.trans ?_ ((hG m (ks.length+j)).trans (by congr 2;omega))
  rw[Nat.add_assoc 0]) (by rw[show p+(i0+a+ks.length)=p+i0+a+ks.length by omega];exact hp2)] at k3
 refine ⟨_,?_,zn6 h8 hq hb ha z k2⟩
 unfold zV
 rw[o4,Int.toNat_natCast,k3]
 unfold wt
 dsimp only
 rw[if_pos rfl,o1,o2,o3,hd.cutB (by rw[yM]),List.nil_append]
theorem zaZ (R:Rt W F B c Q) (p a b:Nat):∀ (ks:List Nd) (i0 pos c0:Nat) (m:Int) (acc:List Nd) (G:Int->Nat->Nd×Int×Int),(∀ m (j:Nat),G m (c0+j)=zV F [W] m ⟨1,0,((p+i0+j*(a+b):Nat):Int),a,b,0,0,0⟩)->
  (∀ k∈ks,(∃ d q,k=.mk 1 0 0 d q/\8*yg d=d.length/\yc q=q.length/\(∀ x∈d,zq x)/\d.length<=8*a/\q.length<=b)/\∀ t∈k.kids,Q t)->
  At W (p+i0) (xk B a b i0 pos ks)->At W (p+pos) (ks.flatMap fun k=>k.kids.flatMap B)->zo (ks.map fun k=>zo (k.kids.map c))<=m->∃ ys,zX G ks.length c0 m acc=(acc++ys,m-zo (ks.map fun k=>zo (k.kids.map c)),0)/\ys.map zk=ks
 |[],i0,pos,c0,m,acc,G,hG,hQ,h1,h2,hm=>⟨[],by simp[zX,xX],rfl⟩
 |k::r,i0,pos,c0,m,acc,G,hG,hQ,h1,h2,hm=>by
  rw[xk] at h1
  obtain ⟨h1h,h1t⟩:=h1.app
  rw[List.flatMap_cons] at h2
  obtain ⟨h2h,h2t⟩:=h2.app
  rw[List.map_cons,xI] at hm
  obtain ⟨⟨d,q,rfl,e8,eq,eb,ea,el⟩,hQk⟩:=hQ k List.mem_cons_self
  have hr:0<=zo (r.map fun k=>zo (k.kids.map c)):=xZ fun y hy=>by
   obtain ⟨t,ht,rfl⟩:=List.mem_map.1 hy
   exact VQ R (hQ t (List.mem_cons_of_mem _ ht)).2
  obtain ⟨y,k1,k2⟩:=uH R p e8 eq eb (a:=a) (z:=b-q.length) (i0:=i0) (pos:=pos) ea hQk (m:=m) h1h h2h (by
   have:zo (q.map c)+zo (r.map fun k=>zo (k.kids.map c))<=m:=hm
   omega) (o:=⟨1,0,((p+i0+0*(a+b):Nat):Int),a,b,0,0,0⟩) rfl (by show ((p+i0+0*(a+b):Nat):Int)=_;rw[Nat.zero_mul,Nat.add_zero]) rfl (by show (b:Int)=_;congr 1;omega)
  have e:G m c0=(y,m-zo (q.map c),0):=by
   have:=hG m 0
   rw[Nat.add_zero] at this
   rw[this,k1]
  have hlen:(zQ a (Nd.mk 1 0 0 d q).data++(yu B (i0+a) pos (Nd.mk 1 0 0 d q).kids++List.replicate (b-(Nd.mk 1 0 0 d q).kids.length) 0)).length=a+b:=by
   rw[zpk,zpk,yM,xA,List.length_replicate]
   show a+(q.length+(b-q.length))=_
   omega
  rw[hlen] at h1t
  obtain ⟨ys,k3,k4⟩:=zaZ R p a b r (i0+(a+b)) (pos+vc B q) (c0+1) (m-zo (q.map c)) (acc++[y]) G (fun m j=>by
   rw[Nat.add_assoc,Nat.add_comm 1 j,hG m (j+1)]
   congr 3
   rw[Nat.add_mul,Nat.one_mul]
   omega) (fun x hx=>hQ x (List.mem_cons_of_mem _ hx)) (by rw[←Nat.add_assoc];exact h1t) (by rw[←Nat.add_assoc];exact h2t) (by
   have:zo (q.map c)+zo (r.map fun k=>zo (k.kids.map c))<=m:=hm
   omega)
  refine ⟨y::ys,?_,by rw[List.map_cons,k2,k4]⟩
  rw[zpl,zX,e]
  dsimp only
  rw[if_pos rfl,k3,List.map_cons,xI,List.append_assoc,List.singleton_append]
  have:m-zo (q.map c)-zo (r.map fun k=>zo (k.kids.map c))=m-(zo ((Nd.mk 1 0 0 d q).kids.map c)+zo (r.map fun k=>zo (k.kids.map c))):=by
   show _=m-(zo (q.map c)+_)
   omega
  rw[this]
end
theorem Xb {W:List Int} {w:Int} {a:Nat} (h:At W a [w]) (h4:w%4≠2) (h0:w≠0) (D:Nat) (m:Int):zH [W] (D+1) m 0 a=xx (zH [W] D) [W] m (wZ [W] 0 (a+1) (zC w)):=by
 rw[zH]
 dsimp only
 have hf:=zbu h h4
 unfold yz
 rw[hf]
 dsimp only
 rw[if_pos rfl,if_neg h0,if_pos rfl,if_neg h0]
theorem XT {W:List Int} {a:Nat} (h:At W a [0]) (D:Nat) (m:Int):zH [W] D m 0 a=(nd0,m,0):=by
 have hf:=zbu h (by decide)
 cases D with
 |zero=>unfold zH;rw[hf];rfl
 |succ D=>rw[zH];dsimp only;rw[hf];rfl
theorem WC (c:Nd->Int):∀ l:List Nd,zo ((l.flatMap Nd.kids).map c)=zo (l.map fun k=>zo (k.kids.map c))
 |[]=>rfl
 |k::l=>by rw[List.flatMap_cons,List.map_append,znF,List.map_cons,xI,WC c l]
theorem Q5 (B:Nd->List Int):∀ l:List Nd,(l.flatMap Nd.kids).flatMap B=l.flatMap fun k=>k.kids.flatMap B
 |[]=>rfl
 |k::l=>by rw[List.flatMap_cons,List.flatMap_append,List.flatMap_cons,Q5 B l]
theorem VD {D:Nat} {x:Nd} (h:Ok (D+1) x) (h0:x.kind≠0):∀ t∈yn x,Ok D t:=by
 have hd:=h.dp.resolve_left h0
 intro t ht
 refine ⟨ZN h.vn t ht,?_,zbN h.gd t ht,hd.2 t ht⟩
 have htr:=h.tr
 have tk:∀ {y:Nd},TrN y->∀ z∈y.kids,TrN z:=fun hy=>by
  cases hy with
  |mk t1 t2=>exact t2
 unfold yn at ht
 split at ht
 ·obtain ⟨k,hk1,hk2⟩:=List.mem_flatMap.1 ht
  exact tk (tk htr k hk1) t hk2
 ·exact tk htr t ht
theorem YG (k e n:Int) (d:List Int) (ks:List Nd):xV (.mk k e n d ks)=yK (.mk k e n d ks)+(if k=2/\e=7/\zl ks+zn ks=0 then n else 0):=rfl
theorem Yc {k:Nd} (hv:VN k) (ht:TrN k) (hg:yB k) (h1:k.kind=1):∃ d q,k=.mk 1 0 0 d q/\8*yg d=d.length/\yc q=q.length/\(∀ x∈d,zq x)/\d.length%8=0/\d.length<=524280/\q.length<=65535:=by
 cases hv with
 |mk v1 v2 v3=>
  rename_i k e n d ks
  have h1':k=1:=h1
  subst h1'
  rcases v3 with ⟨a1,_⟩|⟨_,a2,a3,a4,a5,a6⟩|⟨a1,_⟩
  ·omega
  ·subst a2;subst a3
   cases ht with
   |mk t1 t2=>
    rw[yB] at hg
    exact ⟨d,ks,rfl,(t1 rfl).1,(t1 rfl).2,hg.1.2.1,a4,a5,a6⟩
  ·omega
theorem zd8 {e n:Int} {d:List Int} {z:Nat} (hn0:0<=n) (hl:(d.length:Int)=zS e n):trimB e n (d++List.replicate z 0)=trimB e n d:=by
 unfold trimB
 split
 ·rename_i h
  have hn:1<=zS e n:=by
   unfold zS bitsOf
   rw[if_pos h.1]
   omega
  rw[List.take_append_of_le_length (by omega)]
  congr 3
  unfold rd
  rw[List.getD_eq_getElem?_getD,List.getD_eq_getElem?_getD,List.getElem?_append_left (by omega)]
 ·rw[List.take_append_of_le_length (by omega)]
theorem JL {e n:Int} (he:0<=e/\e<6) (hn:0<=n/\n<=536870911):zS e n<=8*zs e n:=by
 have h:=Yp (e:=e) hn
 unfold zS zs
 rw[if_neg (by omega)]
 omega
theorem zhy {W:List Int} {D:Nat} (R:Rt W (zH [W] D) (body D) (zW D) (Ok D)) {a:Nat} {w:Int} (ha:At W a [w]) (m:Int) (hm:0<=m):∃ y,xx (zH [W] D) [W] m (wL [W] 0 (a:Int) 0 0)=(y,m,0)/\zk y=.mk 1 0 0 [] []:=by
 have ha0:At W a []:=(show At W a ([]++[w]) from ha).app.1
 obtain ⟨y,k1,k2⟩:=uH R a (d:=[]) (ks:=[]) rfl rfl (fun x h=>by cases h) (a:=0) (z:=0) (i0:=0) (pos:=0) (Nat.zero_le _) (fun t h=>by cases h) (m:=m-0) ha0 ha0 (by simp[xX];omega) (o:=⟨1,0,a,0,0,0,0,0+0⟩) rfl rfl rfl rfl
 refine ⟨y,?_,k2⟩
 unfold wL xx
 rw[if_pos (ha0.inB (n:=0+0) rfl)]
 dsimp only at k1 ⊢
 rw[if_pos rfl,if_neg (by omega),if_pos rfl]
 simp only[xX,List.map_nil] at k1
 have:zV (zH [W] D) [W] (m-(0+0)) ⟨1,0,a,0,0,0,0,0+0⟩=(y,m-0-0,0):=k1
 rw[this]
 simp
theorem zhx {W:List Int} (hW:W.length<=268435456) {D:Nat} (R:Rt W (zH [W] D) (body D) (zW D) (Ok D)) {d:List Int} {ks:List Nd} (h8:8*yg d=d.length) (hq:yc ks=ks.length) (hb:∀ x∈d,zq x) (hd8:d.length%8=0) (hd:d.length<=524280) (hk:ks.length<=65535) (hQ:∀ t∈ks,Ok D t) {p a:Nat} {m:Int}
  (h1:At W p (xG (body D) (.mk 1 0 0 d ks)++ks.flatMap (body D))) (h2:At W a [yA (.mk 1 0 0 d ks) ((p:Int)-a-1)]) (hm:((d.length/8+ks.length:Nat):Int)+zo (ks.map (zW D))<=m) :
  ∃ y,zH [W] (D+1) m 0 a=(y,m-(((d.length/8+ks.length:Nat):Int)+zo (ks.map (zW D))),0)/\zk y=.mk 1 0 0 d ks:=by
 have hp:=h1.len
 have ha:=h2.len
 have e1:yA (.mk 1 0 0 d ks) ((p:Int)-a-1)=if d.length/8=0/\ks.length=0 then yl (-1) 0 0 else yl ((p:Int)-a-1) (d.length/8) ks.length:=rfl
 have hsn:=VQ R hQ
 rw[e1] at h2
 simp only[List.length_singleton] at ha
 by_cases hz:d.length/8=0/\ks.length=0
 ·rw[if_pos hz] at h2
  obtain rfl:d=[]:=List.length_eq_zero_iff.1 (by omega)
  obtain rfl:ks=[]:=List.length_eq_zero_iff.1 hz.2
  obtain ⟨q1,q2,q3⟩:=Y9 (off:=-1) (d:=0) (q:=0) (by decide) (by decide) (by decide)
  rw[Xb h2 (by omega) (by decide),q1]
  unfold wZ
  dsimp only
  rw[if_pos rfl,show (a:Int)+1+-1=a by omega]
  obtain ⟨y,k1,k2⟩:=zhy R h2 m (by simp[xX] at hm;omega)
  exact ⟨y,by rw[show ((0:Nat):Int)=0 from rfl,k1];simp[xX],k2⟩
 ·rw[if_neg hz] at h2
  obtain ⟨q1,q2,q3⟩:=Y9 (off:=(p:Int)-a-1) (d:=d.length/8) (q:=ks.length) (by omega) (by omega) hk
  have hne:yl ((p:Int)-a-1) (d.length/8) ks.length≠0:=by
   unfold yl
   have:=Int.emod_nonneg ((p:Int)-a-1) (show (1073741824:Int)≠0 by decide)
   omega
  rw[Xb h2 (by omega) hne,q1]
  unfold wZ
  dsimp only
  rw[if_pos rfl,show (a:Int)+1+((p:Int)-a-1)=p by omega]
  have e2:xG (body D) (.mk 1 0 0 d ks)=zQ (d.length/8) d++yu (body D) (d.length/8) (d.length/8+ks.length) ks:=rfl
  rw[e2] at h1
  obtain ⟨h1a,h1b⟩:=h1.app
  have hlen:(zQ (d.length/8) d++yu (body D) (d.length/8) (d.length/8+ks.length) ks).length=d.length/8+ks.length:=by rw[zpk,yM,xA]
  rw[hlen] at h1b
  have hin:=h1a.inB (n:=((d.length/8:Nat):Int)+(ks.length:Int)) (by rw[hlen];push_cast;rfl)
  obtain ⟨y,k1,k2⟩:=uH R p h8 hq hb (a:=d.length/8) (z:=0) (i0:=0) (pos:=d.length/8+ks.length) (by omega) hQ (m:=m-(((d.length/8:Nat):Int)+(ks.length:Int))) (by simpa using h1a) h1b (by push_cast at hm;omega) (o:=⟨1,0,p,((d.length/8:Nat):Int),ks.length,0,0,((d.length/8:Nat):Int)+(ks.length:Int)⟩) rfl rfl rfl (by simp)
  refine ⟨y,?_,k2⟩
  unfold wL xx
  rw[if_pos hin]
  dsimp only at k1 ⊢
  rw[if_pos rfl,if_neg (by push_cast at hm;omega),if_pos rfl,k1]
  congr 2
  push_cast
  omega
theorem zhu {W:List Int} (hW:W.length<=268435456) {D:Nat} {e n:Int} {d:List Int} (he:0<=e/\e<6) (hn:0<=n/\n<=536870911) (hl:(d.length:Int)=zS e n) (ht:trimB e n d=d) (hb:∀ x∈d,zq x) {p a:Nat} {m:Int}
  (h1:At W p (xG (body D) (.mk 2 e n d []))) (h2:At W a [yA (.mk 2 e n d []) ((p:Int)-a-1)]) (hm:zs e n<=m) :
  ∃ y,zH [W] (D+1) m 0 a=(y,m-zs e n,0)/\zk y=.mk 2 e n d []:=by
 have hp:=h1.len
 have ha:=h2.len
 have e1:yA (.mk 2 e n d []) ((p:Int)-a-1)=yx ((p:Int)-a-1) e n:=by
  unfold yA
  show (if (2:Int)=0 then 0 else if (2:Int)=1 then _ else if e=7 then _ else yx ((p:Int)-a-1) e n)=_
  rw[if_neg (by decide),if_neg (by decide),if_neg (by omega)]
 have e2:xG (body D) (.mk 2 e n d [])=zQ (zs e n).toNat d:=by
  unfold xG
  show (if (2:Int)=1 then _ else if e=7 then _ else if e=6 then _ else zQ (zs e n).toNat d)=_
  rw[if_neg (by decide),if_neg (by omega),if_neg (by omega)]
 rw[e1] at h2
 rw[e2] at h1
 have hw:=Zo (e:=e) hn
 simp only[List.length_singleton] at ha
 rw[e2,yM] at hp
 obtain ⟨q1,q2,q3⟩:=Y8 (off:=(p:Int)-a-1) (e:=e) (c:=n) (by omega) (by omega) hn
 have hne:yx ((p:Int)-a-1) e n≠0:=by omega
 rw[Xb h2 (by omega) hne,q1]
 unfold wZ
 dsimp only
 rw[if_neg (by decide),if_pos rfl,show (a:Int)+1+((p:Int)-a-1)=p by omega]
 have hin:=h1.inB (n:=zs e n) (by rw[yM];omega)
 have h7:¬e=7:=by omega
 unfold wn xx
 rw[if_neg h7,if_pos hin]
 dsimp only
 rw[if_pos rfl,if_neg (by omega),if_neg (by decide)]
 unfold xp
 dsimp only
 rw[if_pos he.2,h1.cutB (by rw[yM];omega)]
 have hbw:=JL he hn
 refine ⟨_,rfl,?_⟩
 rw[ZR _ hb (by omega),zd8 hn.1 hl,ht,zk,if_neg (by decide)]
 rfl
theorem zhv {W:List Int} (hW:W.length<=268435456) {D:Nat} (R:Rt W (zH [W] D) (body D) (zW D) (Ok D)) {n:Int} {ks:List Nd} (hn:0<=n/\n<=536870911) (hk:(ks.length:Int)=n) (hQ:∀ t∈ks,Ok D t) {p a:Nat} {m:Int}
  (h1:At W p (xG (body D) (.mk 2 6 n [] ks)++ks.flatMap (body D))) (h2:At W a [yA (.mk 2 6 n [] ks) ((p:Int)-a-1)]) (hm:zs 6 n+zo (ks.map (zW D))<=m) :
  ∃ y,zH [W] (D+1) m 0 a=(y,m-(zs 6 n+zo (ks.map (zW D))),0)/\zk y=.mk 2 6 n [] ks:=by
 have hp:=h1.len
 have ha:=h2.len
 have e1:yA (.mk 2 6 n [] ks) ((p:Int)-a-1)=yx ((p:Int)-a-1) 6 n:=rfl
 have e2:xG (body D) (.mk 2 6 n [] ks)=yu (body D) 0 ks.length ks:=rfl
 rw[e1] at h2
 rw[e2] at h1
 have hw:zs 6 n=n:=by unfold zs bitsOf;simp;omega
 have hsn:=VQ R hQ
 simp only[List.length_singleton] at ha
 obtain ⟨q1,q2,q3⟩:=Y8 (off:=(p:Int)-a-1) (e:=6) (c:=n) (by omega) (by omega) hn
 have hne:yx ((p:Int)-a-1) 6 n≠0:=by omega
 obtain ⟨h1a,h1b⟩:=h1.app
 rw[xA] at h1b
 rw[Xb h2 (by omega) hne,q1]
 unfold wZ
 dsimp only
 rw[if_neg (by decide),if_pos rfl,show (a:Int)+1+((p:Int)-a-1)=p by omega]
 have hin:=h1a.inB (n:=zs 6 n) (by rw[xA];omega)
 unfold wn xx
 rw[if_neg (show ¬(6:Int)=7 by decide),if_pos hin]
 dsimp only
 rw[if_pos rfl,if_neg (by omega),if_neg (by decide)]
 unfold xp
 dsimp only
 rw[if_neg (by decide)]
 obtain ⟨ys,k1,k2⟩:=qC R p ks 0 ks.length 0 (m-zs 6 n) [] (fun m (i:Nat)=>if (6:Int)=6 then zH [W] D m 0 ((p:Int)+i) else zV (zH [W] D) [W] m (yh ⟨2,0,p,0,0,6,n,zs 6 n⟩ i)) (fun m j=>by
  rw[if_pos (show (6:Int)=6 from rfl)]
  congr 1
  omega) hQ h1a h1b (by omega)
 rw[show n.toNat=ks.length by omega,k1]
 unfold wt
 dsimp only
 rw[if_pos rfl,List.nil_append]
 refine ⟨_,by rw[show m-zs 6 n-zo (ks.map (zW D))=m-(zs 6 n+zo (ks.map (zW D))) by omega],?_⟩
 rw[zk,if_neg (by decide),yX,k2]
theorem zhs {W:List Int} (hW:W.length<=268435456) {D:Nat} (R:Rt W (zH [W] D) (body D) (zW D) (Ok D)) {n:Int} {ks:List Nd} (hn:0<=n/\n<=536870911) (hk:(ks.length:Int)=n)
  (hs:∀ k∈ks,∃ d q,k=.mk 1 0 0 d q/\8*yg d=d.length/\yc q=q.length/\(∀ x∈d,zq x)/\d.length%8=0/\d.length<=524280/\q.length<=65535) (hQ:∀ t∈ks.flatMap Nd.kids,Ok D t) {p a:Nat} {m:Int}
  (h1:At W p (xG (body D) (.mk 2 7 n [] ks)++(ks.flatMap Nd.kids).flatMap (body D))) (h2:At W a [yA (.mk 2 7 n [] ks) ((p:Int)-a-1)]) (hm:xV (.mk 2 7 n [] ks)+zo ((ks.flatMap Nd.kids).map (zW D))<=m) :
  ∃ y,zH [W] (D+1) m 0 a=(y,m-(xV (.mk 2 7 n [] ks)+zo ((ks.flatMap Nd.kids).map (zW D))),0)/\zk y=.mk 2 7 n [] ks:=by
 have hp:=h1.len
 have ha:=h2.len
 have e1:yA (.mk 2 7 n [] ks) ((p:Int)-a-1)=yx ((p:Int)-a-1) 7 (n*((zl ks+zn ks:Nat):Int)):=rfl
 have e2:xG (body D) (.mk 2 7 n [] ks)=yl n (zl ks) (zn ks)::xk (body D) (zl ks) (zn ks) 1 (1+ks.length*(zl ks+zn ks)) ks:=rfl
 have e3:xV (.mk 2 7 n [] ks)=1+n*((zl ks+zn ks:Nat):Int)+(if zl ks+zn ks=0 then n else 0):=by
  show (1+n*((zl ks+zn ks:Nat):Int))+(if (2:Int)=2/\(7:Int)=7/\zl ks+zn ks=0 then n else 0)=_
  simp only[true_and]
 have hal:=XH (body D) (zl ks) (zn ks) 1 (1+ks.length*(zl ks+zn ks)) ks (fun k hk=>YW hk)
 rw[e1] at h2
 rw[e2,List.cons_append] at h1
 rw[e2,List.cons_append,zpl,zpk,hal] at hp
 have hnu:n*((zl ks+zn ks:Nat):Int)=((ks.length*(zl ks+zn ks):Nat):Int):=by rw[←hk];push_cast;rfl
 rw[e3,hnu] at hm ⊢
 rw[hnu] at h2
 have hsn:=VQ R hQ
 have hud:zl ks<=65535:=YU fun x hx=>by
  obtain ⟨d,q,rfl,_,_,_,_,g1,_⟩:=hs x hx
  show d.length/8<=65535
  omega
 have huq:zn ks<=65535:=YV fun x hx=>by
  obtain ⟨d,q,rfl,_,_,_,_,_,g1⟩:=hs x hx
  exact g1
 simp only[List.length_singleton] at ha
 obtain ⟨q1,q2,q3⟩:=Y8 (off:=(p:Int)-a-1) (e:=7) (c:=((ks.length*(zl ks+zn ks):Nat):Int)) (by omega) (by omega) (by omega)
 have hne:yx ((p:Int)-a-1) 7 ((ks.length*(zl ks+zn ks):Nat):Int)≠0:=by omega
 obtain ⟨t1,t2,t3⟩:=Y9 (off:=n) (d:=zl ks) (q:=zn ks) (by omega) hud huq
 obtain ⟨w1,w2,w3⟩:=h1.cons
 obtain ⟨h1a,h1b⟩:=w3.app
 rw[hal] at h1b
 have hin:inB [W] 0 p (((ks.length*(zl ks+zn ks):Nat):Int)+1):=by
  have:=(show At W p ([yl n (zl ks) (zn ks)]++(xk (body D) (zl ks) (zn ks) 1 (1+ks.length*(zl ks+zn ks)) ks++(ks.flatMap Nd.kids).flatMap (body D))) from h1)
  rw[←List.append_assoc] at this
  exact this.app.1.inB (by rw[zpk,hal,List.length_singleton];push_cast;omega)
 rw[Xb h2 (by omega) hne,q1]
 unfold wZ
 dsimp only
 rw[if_neg (by decide),if_pos rfl,show (a:Int)+1+((p:Int)-a-1)=p by omega]
 unfold wn wC xx
 rw[if_pos (show (7:Int)=7 from rfl),if_pos hin,w1,t1]
 dsimp only
 have hcond:(0:Int)=0/\0<=n/\n*((zl ks:Int)+(zn ks:Int))<=((ks.length*(zl ks+zn ks):Nat):Int):=⟨rfl,hn.1,by rw[show n*((zl ks:Int)+(zn ks:Int))=n*((zl ks+zn ks:Nat):Int) by push_cast;rfl,hnu];exact Int.le_refl _⟩
 rw[if_pos hcond]
 dsimp only
 have hun:((zl ks:Int)+(zn ks:Int)=0)=(zl ks+zn ks=0):=by
  apply propext
  omega
 simp only[hun]
 generalize hz:(if zl ks+zn ks=0 then n else 0)=z at hm ⊢
 have hz0:0<=z:=by subst hz;split<;>omega
 rw[if_pos trivial,if_neg (by omega),if_neg (by decide)]
 unfold xp
 dsimp only
 rw[if_neg (by decide)]
 rw[WC] at hm hsn ⊢
 rw[Q5] at h1b
 obtain ⟨ys,k1,k2⟩:=zaZ R p (zl ks) (zn ks) ks 1 (1+ks.length*(zl ks+zn ks)) 0 (m-(((ks.length*(zl ks+zn ks):Nat):Int)+1+z)) [] (fun m (i:Nat)=>if (7:Int)=6 then zH [W] D m 0 ((p:Int)+1+i) else zV (zH [W] D) [W] m (yh ⟨2,0,(p:Int)+1,zl ks,zn ks,7,n,((ks.length*(zl ks+zn ks):Nat):Int)+1+z⟩ i)) (fun m j=>by
  rw[if_neg (show ¬(7:Int)=6 by decide)]
  unfold yh
  congr 2
  push_cast
  rw[Int.zero_add]) (fun k hk=>by
  obtain ⟨d,q,rfl,g1,g2,g3,g4,g5,g6⟩:=hs k hk
  have hud:=uR hk
  have hup:=YW hk
  have hud':d.length/8<=zl ks:=hud
  exact ⟨⟨d,q,rfl,g1,g2,g3,by omega,hup⟩,fun t ht=>hQ t (List.mem_flatMap.2 ⟨_,hk,ht⟩)⟩) h1a (by rw[←Nat.add_assoc];exact h1b) (by omega)
 rw[show n.toNat=ks.length by omega,k1]
 unfold wt
 dsimp only
 rw[if_pos rfl,List.nil_append]
 refine ⟨_,by congr 2;omega,?_⟩
 rw[zk,if_neg (by decide),yX,k2]
theorem zaO {W:List Int} (hW:W.length<=268435456):∀ D,Rt W (zH [W] D) (body D) (zW D) (Ok D)
 |0=>⟨fun t a q m h1 h2 h3 h4=>by
   have hk:t.kind=0:=h1.dp
   have:=Xt h1.vn hk
   subst this
   exact ⟨nd0,by rw[XT h3];show _=(nd0,m-0,_);rw[Int.sub_zero],YS⟩,fun a m h=>XT h 0 m,fun t h=>Yu 0 h.vn⟩
 |D+1=>by
  have R:=zaO hW D
  refine ⟨fun t a q m h1 h2 h3 h4=>?_,fun a m h=>XT h (D+1) m,fun t h=>Yu (D+1) h.vn⟩
  by_cases h0:t.kind=0
  ·have:=Xt h1.vn h0
   subst this
   refine ⟨nd0,?_,YS⟩
   rw[XT h3]
   show _=(nd0,m-0,_)
   rw[Int.sub_zero]
  ·have hT:=VD h1 h0
   rw[body,if_neg h0] at h2
   rw[zW,if_neg h0] at h4 ⊢
   obtain ⟨hs,hkk⟩:=wU h1.vn
   rcases hs with hs|hs|hs
   ·exact absurd hs.1 h0
   ·obtain ⟨d,ks,rfl,g1,g2,g3,g4,g5,g6⟩:=Yc h1.vn h1.tr h1.gd hs.1
    have e:xV (.mk 1 0 0 d ks)=((d.length/8+ks.length:Nat):Int):=by
     rw[YG,if_neg (fun h=>absurd h.1 (by decide)),Int.add_zero]
     rfl
    rw[e] at h4 ⊢
    exact zhx hW R g1 g2 g3 g4 g5 g6 hT h2 h3 h4
   ·cases t with
    |mk k e n d ks=>
     obtain ⟨k2,hn,he,h6,hl6⟩:=hs
     have k2':k=2:=k2
     subst k2'
     have hn':0<=n/\n<=536870911:=hn
     have he':0<=e/\e<=7:=he
     have hg:=h1.gd
     rw[yB] at hg
     by_cases e7:e=7
     ·subst e7
      obtain ⟨a1,a2⟩:=h6 (show (6:Int)<=7 by decide)
      obtain rfl:d=[]:=List.length_eq_zero_iff.1 a1
      have hst:∀ k∈ks,k.kind=1:=by
       cases h1.vn with
       |mk v1 v2 v3=>exact v2 rfl rfl
      have htr:∀ k∈ks,TrN k:=by
       cases h1.tr with
       |mk t1 t2=>exact t2
      exact zhs hW R hn' a2 (fun k hk=>Yc (hkk k hk) (htr k hk) (goods_iff.1 hg.2 k hk) (hst k hk)) hT h2 h3 h4
     ·have et:yn (.mk 2 e n d ks)=ks:=by
       show (if (2:Int)=2/\e=7 then _ else ks)=_
       rw[if_neg (fun h=>e7 h.2)]
      have eo:xV (.mk 2 e n d ks)=zs e n:=by
       rw[YG,if_neg (fun h=>e7 h.2.1),Int.add_zero]
       unfold yK
       show (if (2:Int)=0 then 0 else if (2:Int)=1 then _ else if e=7 then _ else zs e n)=_
       rw[if_neg (by decide),if_neg (by decide),if_neg e7]
      rw[et] at h2 h4 hT ⊢
      rw[eo] at h4 ⊢
      by_cases e6:e=6
      ·subst e6
       obtain ⟨a1,a2⟩:=h6 (show (6:Int)<=6 by decide)
       obtain rfl:d=[]:=List.length_eq_zero_iff.1 a1
       exact zhv hW R hn' a2 hT h2 h3 h4
      ·obtain ⟨b1,b2,b3⟩:=hl6 (show e<6 by omega)
       obtain rfl:ks=[]:=List.length_eq_zero_iff.1 b1
       rw[List.flatMap_nil,List.append_nil] at h2
       simp only[List.map_nil,xX,Int.add_zero] at h4 ⊢
       exact zhu hW (e:=e) ⟨he'.1,by omega⟩ hn' b2 b3 hg.1.2.1 h2 h3 h4
theorem zgP {w i m:Nat} (hw:w<2^i) (h:i+m<=64):w &&& (2^64-1-(2^m-1)*2^i)=w:=by
 have hk:2^64=2^(64-i)*2^i:=by rw[←Nat.pow_add];congr 1;omega
 have hmi:2^m<=2^(64-i):=Nat.pow_le_pow_right (by decide) (by omega)
 have hi:0<2^i:=Nat.pow_pos (by decide)
 have hm:0<2^m:=Nat.pow_pos (by decide)
 have e:2^64-1-(2^m-1)*2^i=2^i*(2^(64-i)-2^m)+(2^i-1):=by
  have h2:2^m*2^i<=2^(64-i)*2^i:=Nat.mul_le_mul_right _ hmi
  rw[hk,Nat.sub_mul,Nat.one_mul,Nat.mul_sub,Nat.mul_comm (2^i) (2^(64-i)),Nat.mul_comm (2^i) (2^m)]
  have h3:2^i<=2^m*2^i:=Nat.le_mul_of_pos_left _ hm
  omega
 rw[e]
 apply Nat.eq_of_testBit_eq
 intro j
 rw[Nat.testBit_and,Nat.testBit_two_pow_mul_add _ (by omega)]
 by_cases hj:j<i
 ·rw[if_pos hj,Nat.testBit_two_pow_sub_one,decide_eq_true hj,Bool.and_true]
 ·rw[if_neg hj]
  have:w.testBit j=false:=Nat.testBit_lt_two_pow (Nat.lt_of_lt_of_le hw (Nat.pow_le_pow_right (by decide) (by omega)))
  rw[this,Bool.false_and]
theorem zgR {v i m:Nat} (h:i+m<=64):(v*2^i%2^64) &&& ((2^m-1)*2^i)=v%2^m*2^i:=by
 apply Nat.eq_of_testBit_eq
 intro j
 rw[Nat.testBit_and,Nat.testBit_mod_two_pow,Nat.mul_comm v,Nat.mul_comm (2^m-1),Nat.mul_comm (v%2^m),Nat.testBit_two_pow_mul,Nat.testBit_two_pow_mul,Nat.testBit_two_pow_mul,Nat.testBit_two_pow_sub_one,Nat.testBit_mod_two_pow]
 by_cases h1:j≥i
 ·by_cases h2:j-i<m
  ·rw[decide_eq_true h1,decide_eq_true h2,decide_eq_true (show j<64 by omega)];simp
  ·rw[decide_eq_false h2];simp
 ·rw[decide_eq_false h1];simp
theorem zeX {w v i m:Nat} (hw:w<2^i) (hv:v<2^64) (h1:1<=m) (h2:i+m<=64):ev 291 [.pv (U (w:Int)),.pv (I (i:Int)),.pv (I (m:Int)),.pv (U (v:Int))] []=ok (U ((w+v%2^m*2^i:Nat):Int)):=by
 have hk:2^64=2^(64-i)*2^i:=by rw[←Nat.pow_add];congr 1;omega
 have hmi:2^m<=2^(64-i):=Nat.pow_le_pow_right (by decide) (by omega)
 have hi:0<2^i:=Nat.pow_pos (by decide)
 have hm:0<2^m:=Nat.pow_pos (by decide)
 have h64:2^m*2^i<=2^64:=by rw[hk];exact Nat.mul_le_mul_right _ hmi
 have hM:(2^m-1)*2^i<2^64:=by
  rw[Nat.sub_mul,Nat.one_mul]
  have h3:2^i<=2^m*2^i:=Nat.le_mul_of_pos_left _ hm
  omega
 have hw64:w<2^64:=Nat.lt_of_lt_of_le hw (Nat.pow_le_pow_right (by decide) (by omega))
 have hx:v%2^m*2^i<2^64:=by
  have:=Nat.mod_lt v hm
  have:v%2^m*2^i<=(2^m-1)*2^i:=Nat.mul_le_mul_right _ (by omega)
  omega
 rw[zoP,rE m h1 (by omega),wu (n:=i) (by omega)]
 dsimp only[zf,zg,zpj,wM]
 have hmin:min (i:Int).toNat 64=i:=by rw[Int.toNat_natCast,Nat.min_eq_left (by omega)]
 have ei:(2:Int)^i=((2^i:Nat):Int):=by push_cast;rfl
 have eM:IntKind.wrap .u64 (((2^m-1:Nat):Int)*2^i)=(((2^m-1)*2^i:Nat):Int):=by
  rw[ei,←Int.natCast_mul];exact wu hM
 have eV:IntKind.wrap .u64 ((v:Int)*2^i)=((v*2^i%2^64:Nat):Int):=by
  rw[K9,ei,←Int.natCast_mul]
  have:(18446744073709551616:Int)=((2^64:Nat):Int):=rfl
  rw[this,←Int.natCast_emod]
 rw[hmin,eM,eV]
 have e1:(BitVec.ofInt 64 (w:Int) &&& ~~~BitVec.ofInt 64 (((2^m-1)*2^i:Nat):Int)).toNat=w:=by
  rw[BitVec.toNat_and,BitVec.toNat_not,vP hw64,vP hM,zgP hw h2]
 have e2:(BitVec.ofInt 64 ((v*2^i%2^64:Nat):Int) &&& BitVec.ofInt 64 (((2^m-1)*2^i:Nat):Int)).toNat=v%2^m*2^i:=by
  rw[BitVec.toNat_and,vP (Nat.mod_lt _ (by decide)),vP hM,zgR h2]
 rw[e1,e2,wu hw64,wu hx]
 have e3:(BitVec.ofInt 64 (w:Int) ||| BitVec.ofInt 64 ((v%2^m*2^i:Nat):Int)).toNat=w+v%2^m*2^i:=by
  rw[BitVec.toNat_or,vP hw64,vP hx,Nat.or_comm,Nat.mul_comm,←Nat.two_pow_add_eq_or_of_lt hw]
  omega
 have hs:w+v%2^m*2^i<2^64:=by
  have h3:v%2^m*2^i<=(2^m-1)*2^i:=Nat.mul_le_mul_right _ (by have:=Nat.mod_lt v hm;omega)
  have h4:(2^m-1)*2^i+2^i<=2^64:=by
   rw[Nat.sub_mul,Nat.one_mul]
   have h3:2^i<=2^m*2^i:=Nat.le_mul_of_pos_left _ hm
   omega
  omega
 rw[e3,wu hs]
 simp[yP]
theorem ZQ {w v:Int} {i m:Nat} (hw:0<=w/\w<2^i) (hv:0<=v/\v<18446744073709551616) (h1:1<=m) (h2:i+m<=64):ev 291 [.pv (U w),.pv (I (i:Int)),.pv (I (m:Int)),.pv (U v)] []=ok (U (w+v%2^m*2^i)):=by
 obtain ⟨a,rfl⟩:=Int.eq_ofNat_of_zero_le hw.1
 obtain ⟨b,rfl⟩:=Int.eq_ofNat_of_zero_le hv.1
 have hw':a<2^i:=by have:=hw.2;exact_mod_cast this
 have hv':b<2^64:=by have:=hv.2;omega
 rw[zeX hw' hv' h1 h2]
 push_cast
 rfl
theorem zfx {off:Int} {d q:Nat} (hd:d<=65535) (hq:q<=65535):ev 288 [.pv (.agg [I 0,I off,I d,I q,I 0,I 0,Bo false,I 0,yY 0,yY 0])] []=ok (U (yl off d q)):=by
 have hm:=Int.emod_nonneg off (show (1073741824:Int)≠0 by decide)
 have hl:=Int.emod_lt_of_pos off (show (0:Int)<1073741824 by decide)
 have i1:=ZQ (w:=0) (v:=0) (i:=0) (m:=2) (by decide) (by decide) (by decide) (by decide)
 have i2:=ZQ (w:=0) (v:=off%18446744073709551616) (i:=2) (m:=30) (by decide) (by omega) (by decide) (by decide)
 have e2:(0:Int)+off%18446744073709551616%2^30*2^2=off%1073741824*4:=by omega
 rw[e2] at i2
 have i3:=ZQ (w:=off%1073741824*4) (v:=d) (i:=32) (m:=16) (by omega) (by omega) (by decide) (by decide)
 have e3:off%1073741824*4+(d:Int)%2^16*2^32=off%1073741824*4+d*4294967296:=by omega
 rw[e3] at i3
 have i4:=ZQ (w:=off%1073741824*4+d*4294967296) (v:=q) (i:=48) (m:=16) (by omega) (by omega) (by decide) (by decide)
 have e4:off%1073741824*4+d*4294967296+(q:Int)%2^16*2^48=yl off d q:=by unfold yl;omega
 rw[e4] at i4
 rw[zcO,show IntKind.wrap .u64 0=0 from rfl,show ev 291 [.pv (U 0),.pv (I 0),.pv (I 2),.pv (U 0)] []=ok (U 0) from i1]
 dsimp only[zt,zf,zg,zpj]
 rw[show ((0:Int)==0)=true from rfl,K9 off]
 dsimp only[zc]
 rw[show ev 291 [.pv (U 0),.pv (I 2),.pv (I 30),.pv (U (off%18446744073709551616))] []=ok (U (off%1073741824*4)) from i2]
 dsimp only[zf,zg,zpj]
 rw[xR (x:=(d:Int)) (by omega),show ev 291 [.pv (U (off%1073741824*4)),.pv (I 32),.pv (I 16),.pv (U d)] []=ok (U (off%1073741824*4+d*4294967296)) from i3]
 dsimp only[zf,zg,zpj]
 rw[xR (x:=(q:Int)) (by omega),show ev 291 [.pv (U (off%1073741824*4+d*4294967296)),.pv (I 48),.pv (I 16),.pv (U q)] []=ok (U (yl off d q)) from i4]
 rfl
theorem zfy {off e c:Int} (he:0<=e/\e<=7) (hc:0<=c/\c<=536870911):ev 288 [.pv (.agg [I 1,I off,I 0,I 0,I e,I c,Bo false,I 0,yY 0,yY 0])] []=ok (U (yx off e c)):=by
 have hm:=Int.emod_nonneg off (show (1073741824:Int)≠0 by decide)
 have hl:=Int.emod_lt_of_pos off (show (0:Int)<1073741824 by decide)
 have i1:=ZQ (w:=0) (v:=1) (i:=0) (m:=2) (by decide) (by decide) (by decide) (by decide)
 have i2:=ZQ (w:=1) (v:=off%18446744073709551616) (i:=2) (m:=30) (by decide) (by omega) (by decide) (by decide)
 have e2:(1:Int)+off%18446744073709551616%2^30*2^2=off%1073741824*4+1:=by omega
 rw[e2] at i2
 have i3:=ZQ (w:=off%1073741824*4+1) (v:=e) (i:=32) (m:=3) (by omega) (by omega) (by decide) (by decide)
 have e3:off%1073741824*4+1+e%2^3*2^32=off%1073741824*4+1+e*4294967296:=by omega
 rw[e3] at i3
 have i4:=ZQ (w:=off%1073741824*4+1+e*4294967296) (v:=c) (i:=35) (m:=29) (by omega) (by omega) (by decide) (by decide)
 have e4:off%1073741824*4+1+e*4294967296+c%2^29*2^35=yx off e c:=by unfold yx;omega
 rw[e4] at i4
 rw[zcO,show IntKind.wrap .u64 1=1 from rfl,show ev 291 [.pv (U 0),.pv (I 0),.pv (I 2),.pv (U 1)] []=ok (U 1) from i1]
 dsimp only[zt,zf,zg,zpj]
 rw[show ((1:Int)==0)=false from rfl,show ((1:Int)==1)=true from rfl,K9 off]
 dsimp only[zc,zt]
 rw[show ev 291 [.pv (U 1),.pv (I 2),.pv (I 30),.pv (U (off%18446744073709551616))] []=ok (U (off%1073741824*4+1)) from i2]
 dsimp only[zf,zg,zpj]
 rw[xR (x:=e) (by omega),show ev 291 [.pv (U (off%1073741824*4+1)),.pv (I 32),.pv (I 3),.pv (U e)] []=ok (U (off%1073741824*4+1+e*4294967296)) from i3]
 dsimp only[zf,zg,zpj]
 rw[xR (x:=c) (by omega),show ev 291 [.pv (U (off%1073741824*4+1+e*4294967296)),.pv (I 35),.pv (I 29),.pv (U c)] []=ok (U (yx off e c)) from i4]
 rfl
theorem za3 {a1 a2 a3 a4 a5 a6 a7 a8 a9:Int} {b:Bool}:xq [false,false,false,false,false,false,true,false,false,false] [I a1,I a2,I a3,I a4,I a5,I a6,Bo b,I a7,yY a8,yY a9] [I a1,I a2,I a3,I a4,I a5,I a6,Bo b,I a7,yY a8,yY a9]=some true:=by
 simp[xq]
theorem Jj {off:Int} {d q:Nat} (ho:-536870912<=off/\off<=536870911) (hd:d<=65535) (hq:q<=65535):ev 252 [.pv (.agg [I 0,I off,I d,I q,I 0,I 0,Bo false,I 0,yY 0,yY 0])] []=ok (.tup [U (yl off d q),Bo true]):=by
 have hp:=zfx (off:=off) hd hq
 obtain ⟨q1,q2,q3⟩:=Y9 ho hd hq
 rw[zcM,zcN,hp]
 dsimp only[zf,zg,zpj]
 rw[xS q2,q1]
 dsimp only[yi,zf,zg,zpj,je]
 rw[za3]
 rfl
theorem ra {off e c:Int} (ho:-536870912<=off/\off<=536870911) (he:0<=e/\e<=7) (hc:0<=c/\c<=536870911):ev 252 [.pv (.agg [I 1,I off,I 0,I 0,I e,I c,Bo false,I 0,yY 0,yY 0])] []=ok (.tup [U (yx off e c),Bo true]):=by
 have hp:=zfy (off:=off) he hc
 obtain ⟨q1,q2,q3⟩:=Y8 ho he hc
 rw[zcM,zcN,hp]
 dsimp only[zf,zg,zpj]
 rw[xS q2,q1]
 dsimp only[yi,zf,zg,zpj,je]
 rw[za3]
 rfl
end Go.Proofs.YtjbjeeoifhegfaaGreatDoor.E
