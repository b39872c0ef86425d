/- This text is one of those that prove the law MessagePack of the given program, as its statement says it: true on every input that the statement covers. Its conditions are the statement's own. -/
import Derived.Test.YtjbjeeoifhegfaaGreatDoorZMessagePack1
import Derived.Test.YtjbjeeoifhegfaaGreatDoorZMessagePack2
import Derived.Test.YtjbjeeoifhegfaaGreatDoorZMessagePack3
import Derived.Test.YtjbjeeoifhegfaaGreatDoorZMessagePack4
import Derived.Test.YtjbjeeoifhegfaaGreatDoorZMessagePack5
import Derived.Test.YtjbjeeoifhegfaaGreatDoorZMessagePack6
import Derived.Test.YtjbjeeoifhegfaaGreatDoorZMessagePack7
import Derived.Test.YtjbjeeoifhegfaaGreatDoorZMessagePack8
import Derived.Test.YtjbjeeoifhegfaaGreatDoorZMessagePack9
set_option linter.unusedVariables false
set_option linter.unusedSimpArgs false
open List renaming getElem?_cons_zero → zpg
open List renaming getElem?_cons_succ → zph
open Option renaming bind_some → zpi
open List renaming length_append → zpj
open List renaming length_cons → zpk
open List renaming nil_append → zpl
namespace Go.Proofs.YtjbjeeoifhegfaaGreatDoor.E
def inB (l:List (List Int)) (s a n:Int):Prop:=0 ≤ s ∧ s < (l.length:Int) ∧ 0 ≤ a ∧ 0 ≤ n ∧ a + n ≤ ((rdL l s).length:Int)
instance (l:List (List Int)) (s a n:Int):Decidable (inB l s a n):=by unfold inB; infer_instance
theorem XA {l:List (List Int)} (h:xZ l) (s a n:Int) :
  ev 286 [.pv (.sl 1 (sgs l)),.pv (.v (.int .i64 s)),.pv (.v (.int .i64 a)),.pv (.v (.int .i64 n))] [] = some (.ret (.pv (.v (.bool (decide (inB l s a n))))),[]):=by
 have hw:=(Vb h s).1
 rw [Vm]
 simp only [ya,za7]
 by_cases h1:0 ≤ s ∧ s < (l.length:Int)
 ·rw [if_pos h1.1,if_pos h1.2]
  simp only [zeS h1.1 h1.2,h1.1,h1.2,decide_true,Bool.and_self,cond_true,zpi,zg,zpg,zs,ym]
  by_cases h2:0 ≤ a ∧ 0 ≤ n ∧ a ≤ ((rdL l s).length:Int)
  ·rw [if_pos h2.1,if_pos h2.2.1,if_pos h2.2.2,w64 (by omega)]
   rw [show decide (n ≤ ((rdL l s).length:Int) - a) = decide (inB l s a n) from decide_eq_decide.2 (by unfold inB; omega)]
  ·rw [show decide (inB l s a n) = false from decide_eq_false (by unfold inB; omega)]
   repeat' split
   all_goals first
    | rfl
    | (exfalso; omega)
 ·rw [show decide (inB l s a n) = false from decide_eq_false (by unfold inB; omega)]
  repeat' split
  all_goals first
   | rfl
   | (exfalso; omega)
theorem zmB {l:List (List Int)} (h:xZ l) (s a:Int) :
  ev 278 [.pv (.sl 1 (sgs l)),.pv (.v (.int .i64 s)),.pv (.v (.int .i64 a))] [] =
   some (.ret (.pv (.tup (if inB l s a 1 then [.v (.int .u64 (rd (rdL l s) a)),.v (.bool true)] else [.v (.int .u64 0),.v (.bool false)]))),[]):=by
 rw [zau,XA h]
 by_cases hb:inB l s a 1
 ·have hb':=hb
  obtain ⟨h1,h2,h3,h4,h5⟩:=hb'
  rw [if_pos hb]
  simp [-getElem?_pos,zpg,zph,ya,z9,yk,yj,hb,h1,h2,h3,zeS h1 h2,zoE h3 (show a < (rdL l s).length by omega),show a < (rdL l s).length by omega]
 ·rw [if_neg hb]
  simp [hb]
def cut (l:List (List Int)) (s a n:Int):List Int:=((rdL l s).drop a.toNat).take n.toNat
theorem zlc {l:List (List Int)} {s a n:Int} (h:inB l s a n):(cut l s a n).length = n.toNat:=by
 obtain ⟨h1,h2,h3,h4,h5⟩:=h
 simp [cut]; omega
theorem zcW {l:List (List Int)} (h:xZ l) (s a n:Int) (hn:n ≤ 17592186044416) :
  ev 276 [.pv (.sl 1 (sgs l)),.pv (.v (.int .i64 s)),.pv (.v (.int .i64 a)),.pv (.v (.int .i64 n))] [] =
   some (.ret (.pv (.tup (if inB l s a n then [.sl 1 (ws (cut l s a n)),.v (.bool true)] else [.sl 1 [],.v (.bool false)]))),[]):=by
 rw [Jp,XA h]
 by_cases hb:inB l s a n
 ·have hb':=hb
  obtain ⟨h1,h2,h3,h4,h5⟩:=hb'
  rw [if_pos hb]
  have hr:yr n.toNat 8 = true:=by simp [yr]; omega
  have e:List.take n.toNat (List.drop a.toNat (ws (rdL l s))) = ws (cut l s a n):=by simp [ws,cut,List.map_take,List.map_drop]
  have hle:a.toNat ≤ (rdL l s).length:=by omega
  have hz:n.toNat - ((rdL l s).length - a.toNat) = 0:=by omega
  simp [-getElem?_pos,zpg,zph,ya,z9,yk,yj,hb,h1,h2,h3,h4,zeS h1 h2,hr,show a ≤ (rdL l s).length by omega,show n ≤ 140737488355328 by omega,List.take_of_length_le,e,hz]
 ·rw [if_neg hb]
  simp [hb]
theorem y6 {a:Nat} (h:a < 2 ^ 64):(BitVec.ofInt 64 (a:Int)).toNat = a:=by
 simp; omega
theorem Zc {n:Nat} (h:n < 2 ^ 64):IntKind.wrap .u64 (n:Int) = n:=zcU ⟨Int.natCast_nonneg _,by omega⟩
theorem zk1 {a:Nat} (h:a < 2 ^ 64) {m:Nat} (hm:m ≤ 64):IntKind.wrap .u64 (((BitVec.ofInt 64 (a:Int) &&& BitVec.ofInt 64 ((2 ^ m - 1:Nat):Int)).toNat:Nat):Int) = ((a % 2 ^ m:Nat):Int):=by
 have hp:2 ^ m ≤ 2 ^ 64:=Nat.pow_le_pow_right (by decide) hm
 have hq:0 < 2 ^ m:=Nat.pow_pos (by decide)
 rw [BitVec.toNat_and,y6 h,y6 (show 2 ^ m - 1 < 2 ^ 64 by omega),Nat.and_two_pow_sub_one_eq_mod]
 have:=Nat.mod_lt a hq
 exact Zc (by omega)
theorem zj7 (m:Nat) (h1:1 ≤ m) (h2:m ≤ 64):ev 285 [.pv (I m)] [] = ok (U ((2 ^ m - 1:Nat):Int)):=by
 rw [zcM]
 have e1:IntKind.wrap .i64 (64 - (m:Int)) = ((64 - m:Nat):Int):=by rw [w64 (by omega)]; omega
 rw [e1,Zc (by omega)]
 have hk:2 ^ 64 = 2 ^ m * 2 ^ (64 - m):=by rw [← Nat.pow_add]; congr 1; omega
 have hp:0 < 2 ^ (64 - m):=Nat.pow_pos (by decide)
 have hd:(18446744073709551615:Nat) / 2 ^ (64 - m) = 2 ^ m - 1:=by
  rw [show (18446744073709551615:Nat) = 2 ^ 64 - 1 from rfl,hk,Nat.div_eq_iff hp]
  have hq:0 < 2 ^ m:=Nat.pow_pos (by decide)
  constructor
  ·rw [Nat.sub_mul]; omega
  ·have:(2 ^ m - 1) * 2 ^ (64 - m) = 2 ^ m * 2 ^ (64 - m) - 2 ^ (64 - m):=by rw [Nat.sub_mul,Nat.one_mul]
   have h3:2 ^ (64 - m) ≤ 2 ^ m * 2 ^ (64 - m):=Nat.le_mul_of_pos_left _ hq
   omega
 have hf:Int.fdiv 18446744073709551615 (2 ^ (min ((64 - m:Nat):Int).toNat 64)) = ((2 ^ m - 1:Nat):Int):=by
  rw [Int.toNat_natCast,Nat.min_eq_left (by omega),Int.fdiv_eq_ediv_of_nonneg _ (Int.le_of_lt (Int.pow_pos (by decide))),← hd]
  simp only [Int.natCast_ediv,Int.natCast_pow]
  rfl
 rw [hf]
 simp [wI]
theorem zl4 (a i:Nat) (hi:i ≤ 64):Int.fdiv (a:Int) (2 ^ (min (i:Int).toNat 64)) = ((a / 2 ^ i:Nat):Int):=by
 rw [Int.toNat_natCast,Nat.min_eq_left hi,Int.fdiv_eq_ediv_of_nonneg _ (Int.le_of_lt (Int.pow_pos (by decide)))]
 push_cast
 rfl
theorem zcV (a:Nat) (h:a < 2 ^ 64) (i m:Nat) (h1:1 ≤ m) (h2:i + m ≤ 64):ev 245 [.pv (U a),.pv (I i),.pv (I m)] [] = ok (U ((a / 2 ^ i % 2 ^ m:Nat):Int)):=by
 rw [zbi,Zc (by omega),zj7 m h1 (by omega),zl4 a i (by omega)]
 have:=zk1 (a:=a / 2 ^ i) (Nat.lt_of_le_of_lt (Nat.div_le_self _ _) h) (m:=m) (by omega)
 simp only [za,zf,zpi,zhv,this]
 simp [wI]
theorem Yw {a:Int} (h:xI a) (i m:Nat) (h1:1 ≤ m) (h2:i + m ≤ 64):ev 245 [.pv (U a),.pv (I i),.pv (I m)] [] = ok (U (a / 2 ^ i % 2 ^ m)):=by
 obtain ⟨n,rfl⟩:=Int.eq_ofNat_of_zero_le h.1
 rw [zcV n (by have:=h.2; omega) i m h1 h2]
 simp
def Qv (v:Int):Int:=if 536870912 ≤ v then v - 1073741824 else v
theorem ziq {a:Int} (h:xI a):ev 342 [.pv (U a),.pv (I 2),.pv (I 30)] [] = ok (I (Qv (a / 4 % 1073741824))):=by
 obtain ⟨h1,h2⟩:=h
 rw [JI]
 rw [show IntKind.wrap .i64 ((IntKind.wrap .i64 (64 - 2)) - 30) = 32 by decide,show IntKind.wrap .u64 32 = 32 by decide,show IntKind.wrap .u64 (IntKind.wrap .i64 (64 - 30)) = 34 by decide]
 simp only [wI]
 rw [show (min (32:Int).toNat 64) = 32 by decide,show (min (34:Int).toNat 64) = 34 by decide]
 have e:IntKind.wrap .i64 (IntKind.wrap .u64 (a * 2 ^ 32)) = Qv (a / 4 % 1073741824) * 17179869184 + (a % 4) * 4294967296:=by
  rw [QS]
  have e2:a * 2 ^ 32 % 18446744073709551616 = (a / 4 % 1073741824) * 17179869184 + (a % 4) * 4294967296:=by omega
  rw [e2]
  unfold Qv
  simp only [IntKind.wrap,IntKind.bits,IntKind.signed]
  simp
  split <;> split <;> omega
 rw [e,Int.fdiv_eq_ediv_of_nonneg _ (by decide)]
 have e3:(Qv (a / 4 % 1073741824) * 17179869184 + (a % 4) * 4294967296) / 2 ^ 34 = Qv (a / 4 % 1073741824):=by omega
 rw [e3]
 rfl
abbrev PT:=Int × Int × Int × Int × Int × Int × Bool × Int × Int × Int
def ptc (p:PT):List PV:=[I p.1,I p.2.1,I p.2.2.1,I p.2.2.2.1,I p.2.2.2.2.1,I p.2.2.2.2.2.1,Bo p.2.2.2.2.2.2.1,I p.2.2.2.2.2.2.2.1,U32 p.2.2.2.2.2.2.2.2.1,U32 p.2.2.2.2.2.2.2.2.2]
def ZB (a:Int):PT :=
 if a % 4 = 0 then (0,Qv (a / 4 % 1073741824),a / 4294967296 % 65536,a / 281474976710656 % 65536,0,0,false,0,0,0)
 else if a % 4 = 1 then (1,Qv (a / 4 % 1073741824),0,0,a / 4294967296 % 8,a / 34359738368 % 536870912,false,0,0,0)
 else if a % 4 = 2 then (2,0,0,0,0,0,a / 4 % 2 == 1,a / 8 % 536870912,a / 4294967296 % 4294967296,0)
 else (3,0,0,0,0,0,false,0,a / 4294967296 % 4294967296,a / 4 % 1073741824)
theorem xj {a:Int} (h:xI a):ev 192 [.pv (U a)] [] = ok (.agg (ptc (ZB a))):=by
 have k0:ev 245 [.pv (U a),.pv (I 0),.pv (I 2)] [] = ok (U (a % 4)):=by have:=Yw h 0 2 (by decide) (by decide); simpa using this
 have k1:ev 245 [.pv (U a),.pv (I 32),.pv (I 16)] [] = ok (U (a / 4294967296 % 65536)):=Yw h 32 16 (by decide) (by decide)
 have k2:ev 245 [.pv (U a),.pv (I 48),.pv (I 16)] [] = ok (U (a / 281474976710656 % 65536)):=Yw h 48 16 (by decide) (by decide)
 have k3:ev 245 [.pv (U a),.pv (I 32),.pv (I 3)] [] = ok (U (a / 4294967296 % 8)):=Yw h 32 3 (by decide) (by decide)
 have k4:ev 245 [.pv (U a),.pv (I 35),.pv (I 29)] [] = ok (U (a / 34359738368 % 536870912)):=Yw h 35 29 (by decide) (by decide)
 have k5:ev 245 [.pv (U a),.pv (I 2),.pv (I 1)] [] = ok (U (a / 4 % 2)):=Yw h 2 1 (by decide) (by decide)
 have k6:ev 245 [.pv (U a),.pv (I 3),.pv (I 29)] [] = ok (U (a / 8 % 536870912)):=Yw h 3 29 (by decide) (by decide)
 have k7:ev 245 [.pv (U a),.pv (I 32),.pv (I 32)] [] = ok (U (a / 4294967296 % 4294967296)):=Yw h 32 32 (by decide) (by decide)
 have k8:ev 245 [.pv (U a),.pv (I 2),.pv (I 30)] [] = ok (U (a / 4 % 1073741824)):=Yw h 2 30 (by decide) (by decide)
 rw [VI,Xn,Xo,Xp,Xq,k0,k1,k2,k3,k4,k5,k6,k7,k8,ziq h]
 simp only [za,zf,zpi,zn,zhv]
 rw [w64 (x:=a / 4294967296 % 65536) (by omega),w64 (x:=a / 281474976710656 % 65536) (by omega),w64 (x:=a / 4294967296 % 8) (by omega),w64 (x:=a / 34359738368 % 536870912) (by omega),w64 (x:=a / 8 % 536870912) (by omega),w64 (x:=a % 4) (by omega)]
 rw [ze9,ze9,show a / 4294967296 % 4294967296 % 4294967296 = a / 4294967296 % 4294967296 by omega,show a / 4 % 1073741824 % 4294967296 = a / 4 % 1073741824 by omega]
 unfold ZB
 by_cases c0:a % 4 = 0
 ·simp [-getElem?_pos,zpg,zph,ya,z9,yk,yj,c0,ptc]
 by_cases c1:a % 4 = 1
 ·simp [-getElem?_pos,zpg,zph,ya,z9,yk,yj,c1,ptc]
 by_cases c2:a % 4 = 2
 ·simp [-getElem?_pos,zpg,zph,ya,z9,yk,yj,c2,ptc]
 ·have c3:a % 4 = 3:=by omega
  simp [-getElem?_pos,zpg,zph,ya,z9,yk,yj,c3,ptc]
theorem zjq (n:Nat) (hn:n ≤ 63):∀ (d j:Nat),j + d = n → wm n ((2 ^ j:Nat):Int) j = ok (U ((2 ^ n:Nat):Int)):=by
 intro d
 induction d with
 | zero =>
  intro j hj
  obtain rfl:j = n:=by omega
  rw [vV]
  simp
 | succ d ih =>
  intro j hj
  rw [vV]
  have h2:2 ^ (j + 1) ≤ 2 ^ 63:=Nat.pow_le_pow_right (by decide) (by omega)
  have e:((2 ^ j:Nat):Int) * 2 = ((2 ^ (j + 1):Nat):Int):=by rw [Nat.pow_succ]; push_cast; rfl
  rw [e,Zc (by omega),w64 (by omega),show (j:Int) + 1 = ((j + 1:Nat):Int) by push_cast; rfl,ih (j + 1) (by omega)]
  simp only [ya]
  rw [if_pos (by omega)]
theorem zoa (n:Nat) (hn:n ≤ 63):ev 142 [.pv (I n)] [] = ok (U ((2 ^ n:Nat):Int)):=by
 rw [Vr]
 exact zjq n hn n 0 (by omega)
def zdI (l:List (List Int)) (s a:Int):Option (Out × z6):=ok (.tup (if inB l s a 1 then [U (rd (rdL l s) a),Bo true] else [U 0,Bo false]))
theorem Q1 {l:List (List Int)} (h:xZ l) (s a:Int):ev 278 [.pv (.sl 1 (sgs l)),.pv (I s),.pv (I a)] [] = zdI l s a:=zmB h s a
def wd (l:List (List Int)) (s a:Int):Int:=rd (rdL l s) a
theorem Z4 {l:List (List Int)} (h:xZ l) (s a:Int):xI (wd l s a):=zlT (Vb h s) a
theorem QH {a:Int} (h:xI a):(ZB a).1 = a % 4:=by
 obtain ⟨h1,h2⟩:=h
 unfold ZB
 repeat' split
 all_goals (simp; omega)
theorem zaD {a:Int} (hr:xI a) (h:a % 4 = 2):ZB a = (2,0,0,0,0,0,a / 4 % 2 == 1,a / 8 % 536870912,a / 4294967296,0):=by
 obtain ⟨h1,h2⟩:=hr
 unfold ZB
 rw [if_neg (by omega),if_neg (by omega),if_pos h,Int.emod_eq_of_lt (a:=a / 4294967296) (by omega) (by omega)]
def sgl (l:List (List Int)) (a:Int):Int × Int × Int × Int :=
 if inB l (a / 4294967296) (a / 8 % 536870912) 1 then (if wd l (a / 4294967296) (a / 8 % 536870912) % 4 = 2 then (0,0,0,3) else (wd l (a / 4294967296) (a / 8 % 536870912),a / 4294967296,a / 8 % 536870912 + 1,0)) else (0,0,0,2)
def dbl (l:List (List Int)) (a:Int):Int × Int × Int × Int :=
 if inB l (a / 4294967296) (a / 8 % 536870912) 2 then
  (if wd l (a / 4294967296) (a / 8 % 536870912) % 4 = 2 ∧ wd l (a / 4294967296) (a / 8 % 536870912) / 4 % 2 = 0 ∧ wd l (a / 4294967296) (a / 8 % 536870912 + 1) % 4 ≤ 1 ∧ (ZB (wd l (a / 4294967296) (a / 8 % 536870912 + 1))).2.1 = 0
   then (wd l (a / 4294967296) (a / 8 % 536870912 + 1),wd l (a / 4294967296) (a / 8 % 536870912) / 4294967296,wd l (a / 4294967296) (a / 8 % 536870912) / 8 % 536870912,0) else (0,0,0,3)) else (0,0,0,2)
def fol (l:List (List Int)) (s a:Int):Int × Int × Int × Int :=
 if inB l s a 1 then (if wd l s a % 4 = 2 then (if wd l s a / 4 % 2 = 1 then dbl l (wd l s a) else sgl l (wd l s a)) else (wd l s a,s,a + 1,0)) else (0,0,0,2)
def zm7 (t:Int × Int × Int × Int):List PV:=[U t.1,I t.2.1,I t.2.2.1,I t.2.2.2]
def plc (t:Int × Int × Int × Int):List PV:=[.agg [U t.1,I t.2.1,I t.2.2.1],I t.2.2.2]
theorem zam {a:Int} (h:xI a):ev 279 [.pv (U a)] [] = ok (Bo (a % 4 == 2)):=by
 rw [zbU,xj h]
 simp [-getElem?_pos,zpg,zph,ya,z9,yk,yj,ptc,QH h]
theorem zbq {a:Int} (h:xI a) (hf:a % 4 = 2):ev 297 [.pv (U a)] [] = ok (.tup [I (a / 4294967296),I (a / 8 % 536870912)]):=by
 rw [Jx,xj h,zaD h hf]
 obtain ⟨h1,h2⟩:=h
 simp [-getElem?_pos,zpg,zph,ya,z9,yk,yj,ptc,w64 (x:=a / 4294967296) (by omega)]
theorem ziz {l:List (List Int)} (hl:xZ l) {a:Int} (h:xI a) (hf:a % 4 = 2):ev 280 [.pv (.sl 1 (sgs l)),.pv (U a)] [] = ok (.tup (plc (sgl l a))):=by
 rw [zaP,zbq h hf]
 have hw:=Z4 hl (a / 4294967296) (a / 8 % 536870912)
 have hx:=zam hw
 unfold wd at hx
 unfold sgl plc
 by_cases hb:inB l (a / 4294967296) (a / 8 % 536870912) 1
 ·by_cases hc:wd l (a / 4294967296) (a / 8 % 536870912) % 4 = 2
  ·unfold wd at hc
   simp [-getElem?_pos,zpg,zph,ya,z9,yk,yj,Q1 hl,zdI,hb,hx,hc,wd]
  ·unfold wd at hc
   simp [-getElem?_pos,zpg,zph,ya,z9,yk,yj,Q1 hl,zdI,hb,hx,hc,wd,w64 (x:=a / 8 % 536870912 + 1) (by omega)]
 ·simp [-getElem?_pos,zpg,zph,ya,z9,yk,yj,Q1 hl,zdI,hb]
theorem znF (L:List Int) (n:Nat) (h:n + 2 ≤ L.length):(L.drop n).take 2 = [L.getD n 0,L.getD (n + 1) 0]:=by
 rw [List.drop_eq_getElem_cons (by omega),List.drop_eq_getElem_cons (i:=n + 1) (by omega),List.getD_eq_getElem?_getD,List.getD_eq_getElem?_getD,List.getElem?_eq_getElem (by omega),List.getElem?_eq_getElem (by omega)]
 rfl
theorem zld {l:List (List Int)} {s a:Int} (h:inB l s a 2):cut l s a 2 = [wd l s a,wd l s (a + 1)]:=by
 obtain ⟨h1,h2,h3,h4,h5⟩:=h
 unfold cut wd rd
 rw [show (2:Int).toNat = 2 from rfl,znF _ _ (by omega),show (a + 1).toNat = a.toNat + 1 by omega]
theorem ziu {l:List (List Int)} (hl:xZ l) {a:Int} (h:xI a) (hf:a % 4 = 2):ev 281 [.pv (.sl 1 (sgs l)),.pv (U a)] [] = ok (.tup (plc (dbl l a))):=by
 rw [zaO,zbq h hf]
 unfold dbl plc
 by_cases hb:inB l (a / 4294967296) (a / 8 % 536870912) 2
 case neg => simp [-getElem?_pos,zpg,zph,ya,z9,yk,yj,zcW hl,hb]
 have h1:=Z4 hl (a / 4294967296) (a / 8 % 536870912)
 have h2:=Z4 hl (a / 4294967296) (a / 8 % 536870912 + 1)
 simp only [za,zf,zpi,zm,zpg,zph,zcW hl _ _ 2 (by decide),hb,if_true,zld hb]
 generalize wd l (a / 4294967296) (a / 8 % 536870912) = y at h1
 generalize wd l (a / 4294967296) (a / 8 % 536870912 + 1) = z at h2
 have k1:=QH h1
 have k2:=QH h2
 by_cases c1:y % 4 = 2
 case neg => simp [-getElem?_pos,zpg,zph,ya,z9,yk,yj,ws,xj h1,xj h2,ptc,k1,c1]
 have k3:=zaD h1 c1
 by_cases c2:y / 4 % 2 = 1
 case pos => simp [-getElem?_pos,zpg,zph,ya,z9,yk,yj,ws,xj h1,xj h2,ptc,k3,c1,c2]
 by_cases c3:z % 4 ≤ 1
 case neg => simp [-getElem?_pos,zpg,zph,ya,z9,yk,yj,ws,xj h1,xj h2,ptc,k2,k3,c1,c2,c3,show 1 < z % 4 by omega]
 by_cases c4:(ZB z).2.1 = 0
 case neg => simp [-getElem?_pos,zpg,zph,ya,z9,yk,yj,ws,xj h1,xj h2,ptc,k2,k3,c1,c2,c3,c4,show ¬ 1 < z % 4 by omega]
 obtain ⟨g1,g2⟩:=h1
 simp [-getElem?_pos,zpg,zph,ya,z9,yk,yj,ws,xj ⟨g1,g2⟩,xj h2,ptc,k2,k3,c1,c2,c3,c4,show ¬ 1 < z % 4 by omega,show y / 4 % 2 = 0 by omega,w64 (x:=y / 4294967296) (by omega)]
theorem zal {l:List (List Int)} (hl:xZ l) (s a:Int):ev 240 [.pv (.sl 1 (sgs l)),.pv (I s),.pv (I a)] [] = ok (.tup (zm7 (fol l s a))):=by
 rw [zaN,Q1 hl]
 unfold fol zm7
 by_cases hb:inB l s a 1
 case neg => simp [-getElem?_pos,zpg,zph,ya,z9,yk,yj,zdI,hb]
 have h0:=Z4 hl s a
 have hlen:=(Vb hl s).1
 have ha:a + 1 ≤ 9223372036854775807 ∧ 0 ≤ a:=by have:=hb.2.2; omega
 simp only [zdI,hb,if_true,za,zf,zpi,zm,zpg,zph,zj,show rd (rdL l s) a = wd l s a from rfl]
 by_cases hf:wd l s a % 4 = 2
 case neg => simp [-getElem?_pos,zpg,zph,ya,z9,yk,yj,zam h0,hf,w64 (x:=a + 1) (by omega),yZ]
 generalize wd l s a = x at h0 hf
 by_cases h4:x / 4 % 2 = 1
 ·simp only [hf,h4,if_true,zam h0,xj h0,ziu hl h0 hf]
  unfold dbl
  repeat' split
  all_goals (simp [-getElem?_pos,zpg,zph,ya,z9,yk,yj,ptc,zaD h0 hf,plc,hf,h4,yZ]; try (split <;> rfl))
 ·simp only [hf,h4,if_true,if_false,zam h0,xj h0,ziz hl h0 hf]
  unfold sgl
  repeat' split
  all_goals (simp [-getElem?_pos,zpg,zph,ya,z9,yk,yj,ptc,zaD h0 hf,plc,hf,h4,yZ]; try (split <;> rfl))
structure Ob where
 kind:Int
 seg:Int
 at_:Int
 data:Int
 ptrs:Int
 elem:Int
 n:Int
 cost:Int
 deriving DecidableEq
def Ob.c (o:Ob):List PV:=[I o.kind,I o.seg,I o.at_,I o.data,I o.ptrs,I o.elem,I o.n,I o.cost]
def ob0:Ob:=⟨0,0,0,0,0,0,0,0⟩
def obR (t:Ob × Int):List PV:=[.agg t.1.c,I t.2]
def bitsOf (e:Int):Int:=if e = 1 then 1 else if e = 2 then 8 else if e = 3 then 16 else if e = 4 then 32 else if e = 5 then 64 else if e = 6 then 64 else 0
theorem zbD (e:Int):0 ≤ bitsOf e ∧ bitsOf e ≤ 64:=by
 unfold bitsOf
 repeat' split
 all_goals omega
def z4 (e c:Int):Int:=if e = 7 then c + 1 else (bitsOf e * c + 63) / 64
theorem XC {e c:Int} (hc:0 ≤ c ∧ c ≤ 536870911):0 ≤ bitsOf e * c ∧ bitsOf e * c ≤ 64 * 536870911:=by
 have hb:=zbD e
 exact ⟨Int.mul_nonneg hb.1 hc.1,Int.mul_le_mul hb.2 hc.2 hc.1 (by omega)⟩
theorem xO {e c:Int} (hc:0 ≤ c ∧ c ≤ 536870911):0 ≤ z4 e c ∧ z4 e c ≤ 536870912:=by
 have h:=XC (e:=e) hc
 unfold z4
 split <;> omega
theorem zdX {e:Int} (he:0 ≤ e ∧ e ≤ 7):([I 0,I 1,I 8,I 16,I 32,I 64,I 64,I 0]:List PV)[e.toNat]? = some (I (bitsOf e)):=by
 obtain ⟨h1,h2⟩:=he
 have:e = 0 ∨ e = 1 ∨ e = 2 ∨ e = 3 ∨ e = 4 ∨ e = 5 ∨ e = 6 ∨ e = 7:=by omega
 rcases this with rfl | rfl | rfl | rfl | rfl | rfl | rfl | rfl <;> rfl
theorem zf7 {e c:Int} (he:0 ≤ e ∧ e ≤ 7) (hc:0 ≤ c ∧ c ≤ 536870911):ev 221 [.pv (I e),.pv (I c)] [] = ok (I (z4 e c)):=by
 have h:=XC (e:=e) hc
 rw [VB]
 unfold z4
 by_cases h7:e = 7
 ·simp [-getElem?_pos,zpg,zph,ya,z9,yk,yj,h7,w64 (x:=c + 1) (by omega)]
 ·have hb:=zdX he
  simp only [I] at hb
  rw [show (0 + e.toNat * 1) = e.toNat by omega]
  simp only [hb,Wa]
  rw [if_neg h7]
  simp [-getElem?_pos,zpg,zph,ya,z9,yk,yj,h7,he.1,show e < 8 by omega,wI,w64 (x:=bitsOf e * c) (by omega),w64 (x:=bitsOf e * c + 64) (by omega),w64 (x:=bitsOf e * c + 64 - 1) (by omega)]
  rw [Int.tdiv_eq_ediv_of_nonneg (by omega),w64 (by omega),show bitsOf e * c + 64 - 1 = bitsOf e * c + 63 by omega]
def bad (e:Int):Ob × Int:=(ob0,e)
def zfV (l:List (List Int)) (s st d q:Int):Ob × Int:=if inB l s st (d + q) then (⟨1,s,st,d,q,0,0,d + q⟩,0) else bad 2
def zdl (l:List (List Int)) (s st c:Int):Ob × Int :=
 if inB l s st (c + 1) then
  (if (ZB (wd l s st)).1 = 0 ∧ 0 ≤ (ZB (wd l s st)).2.1 ∧ (ZB (wd l s st)).2.1 * ((ZB (wd l s st)).2.2.1 + (ZB (wd l s st)).2.2.2.1) ≤ c then (⟨2,s,st + 1,(ZB (wd l s st)).2.2.1,(ZB (wd l s st)).2.2.2.1,7,(ZB (wd l s st)).2.1,c + 1 + (if (ZB (wd l s st)).2.2.1 + (ZB (wd l s st)).2.2.2.1 = 0 then (ZB (wd l s st)).2.1 else 0)⟩,0) else bad 5) else bad 2
def zfT (l:List (List Int)) (s st e c:Int):Ob × Int:=if e = 7 then zdl l s st c else if inB l s st (z4 e c) then (⟨2,s,st,0,0,e,c,z4 e c⟩,0) else bad 2
def zfU (l:List (List Int)) (s b:Int) (p:PT):Ob × Int :=
 if p.1 = 0 then zfV l s (b + p.2.1) p.2.2.1 p.2.2.2.1 else if p.1 = 1 then zfT l s (b + p.2.1) p.2.2.2.2.1 p.2.2.2.2.2.1 else if p.2.2.2.2.2.2.2.2.2 = 0 then bad 6 else bad 4
def obj (l:List (List Int)) (s a:Int):Ob × Int :=
 if (fol l s a).2.2.2 = 0 then (if (fol l s a).1 = 0 then bad 0 else zfU l (fol l s a).2.1 (fol l s a).2.2.1 (ZB (fol l s a).1)) else bad (fol l s a).2.2.2
theorem Yf {x:Int} (h:xI x):-536870912 ≤ (ZB x).2.1 ∧ (ZB x).2.1 ≤ 536870911 ∧ 0 ≤ (ZB x).2.2.1 ∧ (ZB x).2.2.1 ≤ 65535 ∧ 0 ≤ (ZB x).2.2.2.1 ∧ (ZB x).2.2.2.1 ≤ 65535 ∧ 0 ≤ (ZB x).2.2.2.2.1 ∧ (ZB x).2.2.2.2.1 ≤ 7 ∧ 0 ≤ (ZB x).2.2.2.2.2.1 ∧ (ZB x).2.2.2.2.2.1 ≤ 536870911 ∧ 0 ≤ (ZB x).1 ∧ (ZB x).1 ≤ 3:=by
 obtain ⟨h1,h2⟩:=h
 unfold ZB Qv
 repeat' split
 all_goals (simp only []; try split)
 all_goals (simp; try omega)
def Sm (l:List (List Int)):Prop:=∀ s,((rdL l s).length:Int) ≤ 1099511627776
theorem zjb {l:List (List Int)} (hl:xZ l) (hs:Sm l) (s a:Int) (h:(fol l s a).2.2.2 = 0):0 ≤ (fol l s a).2.2.1 ∧ (fol l s a).2.2.1 ≤ 1099511627777:=by
 obtain ⟨h0,h0'⟩:=Z4 hl s a
 have hs':=hs s
 unfold fol at h ⊢
 by_cases hb:inB l s a 1
 case neg => rw [if_neg hb] at h; simp at h
 rw [if_pos hb] at h ⊢
 by_cases hf:wd l s a % 4 = 2
 case neg =>
  rw [if_neg hf] at h ⊢
  unfold inB at hb
  simp only
  omega
 rw [if_pos hf] at h ⊢
 generalize wd l s a = x at *
 by_cases h4:x / 4 % 2 = 1
 ·rw [if_pos h4] at h ⊢
  unfold dbl at h ⊢
  by_cases c1:inB l (x / 4294967296) (x / 8 % 536870912) 2
  case neg => rw [if_neg c1] at h; simp at h
  rw [if_pos c1] at h ⊢
  split at h
  ·rename_i c2
   rw [if_pos c2]
   simp only
   omega
  ·simp at h
 ·rw [if_neg h4] at h ⊢
  unfold sgl at h ⊢
  by_cases c1:inB l (x / 4294967296) (x / 8 % 536870912) 1
  case neg => rw [if_neg c1] at h; simp at h
  rw [if_pos c1] at h ⊢
  split at h
  ·simp at h
  ·rename_i c2
   rw [if_neg c2]
   simp only
   omega
theorem QK {l:List (List Int)} (hl:xZ l) (s a:Int):xI (fol l s a).1:=by
 have w0:xI 0:=⟨by decide,by decide⟩
 unfold fol
 split
 ·split
  ·split
   ·unfold dbl
    split
    ·split
     ·exact Z4 hl _ _
     ·exact w0
    ·exact w0
   ·unfold sgl
    split
    ·split
     ·exact w0
     ·exact Z4 hl _ _
    ·exact w0
  ·exact Z4 hl _ _
 ·exact w0
theorem zdU {l:List (List Int)} (hl:xZ l) (o:Ob) (st n:Int):ev 282 [.pv (.sl 1 (sgs l)),.pv (.agg o.c),.pv (I st),.pv (I n)] [] = ok (.tup (obR (if inB l o.seg st n then (o,0) else bad 2))):=by
 rw [Ob.c,VO,XA hl]
 split <;> simp [-getElem?_pos,zpg,zph,ya,z9,yk,yj, *,obR,Ob.c,bad,ob0]
theorem zc0 {l:List (List Int)} (hl:xZ l) (p:PT) (s st:Int) (hp:0 ≤ p.2.2.1 ∧ p.2.2.1 ≤ 65535 ∧ 0 ≤ p.2.2.2.1 ∧ p.2.2.2.1 ≤ 65535):ev 241 [.pv (.sl 1 (sgs l)),.pv (.agg (ptc p)),.pv (I s),.pv (I st)] [] = ok (.tup (obR (zfV l s st p.2.2.1 p.2.2.2.1))):=by
 rw [ptc,XX,w64 (x:=p.2.2.1 + p.2.2.2.1) (by omega)]
 have:=zdU hl ⟨1,s,st,p.2.2.1,p.2.2.2.1,0,0,p.2.2.1 + p.2.2.2.1⟩ st (p.2.2.1 + p.2.2.2.1)
 simp only [Ob.c] at this
 rw [this]
 unfold zfV
 split <;> simp [-getElem?_pos,zpg,zph,ya,z9,yk,yj,obR,Ob.c,bad,ob0]
theorem zls {l:List (List Int)} {s st n:Int} (h:inB l s st n) (hn:1 ≤ n):inB l s st 1:=by unfold inB at h ⊢; omega
theorem VQ {o n:Int} (ho:0 ≤ o ∧ o ≤ 536870911) (hn:0 ≤ n ∧ n ≤ 131070):0 ≤ o * n ∧ o * n ≤ 536870911 * 131070:=⟨Int.mul_nonneg ho.1 hn.1,Int.mul_le_mul ho.2 hn.2 hn.1 (by omega)⟩
theorem zcY {l:List (List Int)} (hl:xZ l) (hs:Sm l) (p:PT) (s st:Int) (hc:0 ≤ p.2.2.2.2.2.1 ∧ p.2.2.2.2.2.1 ≤ 536870911):ev 283 [.pv (.sl 1 (sgs l)),.pv (.agg (ptc p)),.pv (I s),.pv (I st)] [] = ok (.tup (obR (zdl l s st p.2.2.2.2.2.1))):=by
 have hs':=hs s
 rw [ptc,XW]
 generalize p.2.2.2.2.2.1 = c at hc
 unfold zdl
 rw [w64 (x:=c + 1) (by omega),XA hl]
 by_cases hb:inB l s st (c + 1)
 case neg => simp [-getElem?_pos,zpg,zph,ya,z9,yk,yj,hb,obR,bad,ob0,Ob.c]
 have hst:0 ≤ st ∧ st ≤ 1099511627776:=by unfold inB at hb; omega
 have hw:ev 278 [.pv (.sl 1 (sgs l)),.pv (I s),.pv (I st)] [] = ok (.tup [U (wd l s st),Bo true]):=by
  rw [Q1 hl,zdI,if_pos (zls hb (by omega))]
  rfl
 have h0:=Z4 hl s st
 have hd:=Yf h0
 rw [hw]
 simp only [hb,decide_true,Bool.not_true,cond_false,za,zf,zpi,zj,zm,zpg,zph,xj h0,if_true]
 generalize ZB (wd l s st) = q at hd
 obtain ⟨k,o,d,m,e,c',b,pd,sg,lo⟩:=q
 simp only at hd ⊢
 by_cases hk:k = 0
 case neg => simp [-getElem?_pos,zpg,zph,ya,z9,yk,yj,hk,ptc,obR,bad,ob0,Ob.c]
 by_cases ho:o < 0
 case pos => simp [-getElem?_pos,zpg,zph,ya,z9,yk,yj,hk,ho,ptc,obR,bad,ob0,Ob.c,show ¬ 0 ≤ o by omega]
 have hm:=VQ (o:=o) (n:=d + m) (by omega) (by omega)
 by_cases hg:o * (d + m) ≤ c
 case neg => simp [-getElem?_pos,zpg,zph,ya,z9,yk,yj,hk,ho,ptc,obR,bad,ob0,Ob.c,hg,w64 (x:=d + m) (by omega),w64 (x:=o * (d + m)) (by omega),show c < o * (d + m) by omega]
 by_cases hz:d + m = 0
 ·simp [-getElem?_pos,zpg,zph,ya,z9,yk,yj,hk,ho,ptc,obR,bad,ob0,Ob.c,hg,w64 (x:=d + m) (by omega),w64 (x:=o * (d + m)) (by omega),show ¬ c < o * (d + m) by omega,show 0 ≤ o by omega,hz,w64 (x:=0) (by omega),show ¬ c < 0 by omega,hc.1,w64 (x:=st + 1) (by omega),w64 (x:=c + 1 + o) (by omega)]
 ·simp [-getElem?_pos,zpg,zph,ya,z9,yk,yj,hk,ho,ptc,obR,bad,ob0,Ob.c,hg,w64 (x:=d + m) (by omega),w64 (x:=o * (d + m)) (by omega),show ¬ c < o * (d + m) by omega,show 0 ≤ o by omega,hz,w64 (x:=st + 1) (by omega)]
theorem zmG {l:List (List Int)} (hl:xZ l) (hs:Sm l) (p:PT) (s st:Int) (he:0 ≤ p.2.2.2.2.1 ∧ p.2.2.2.2.1 ≤ 7) (hc:0 ≤ p.2.2.2.2.2.1 ∧ p.2.2.2.2.2.1 ≤ 536870911):ev 242 [.pv (.sl 1 (sgs l)),.pv (.agg (ptc p)),.pv (I s),.pv (I st)] [] = ok (.tup (obR (zfT l s st p.2.2.2.2.1 p.2.2.2.2.2.1))):=by
 have hco:=zcY hl hs p s st hc
 rw [ptc,K2,zf7 he hc]
 have hco':=hco
 rw [ptc] at hco'
 unfold zfT
 by_cases h7:p.2.2.2.2.1 = 7
 ·simp only [z9,if_pos h7]
  rw [hco']
  simp [-getElem?_pos,zpg,zph,ya,z9,yk,yj,obR,Ob.c]
 ·have:=zdU hl ⟨2,s,st,0,0,p.2.2.2.2.1,p.2.2.2.2.2.1,z4 p.2.2.2.2.1 p.2.2.2.2.2.1⟩ st (z4 p.2.2.2.2.1 p.2.2.2.2.2.1)
  simp only [Ob.c] at this
  simp only [z9,if_neg h7]
  simp only [za,zf,zpi,zh,Bool.and_self,cond_true,this]
  split <;> simp [-getElem?_pos,zpg,zph,ya,z9,yk,yj,obR,Ob.c,bad,ob0]
theorem zkN {l:List (List Int)} (p:PT) (s st:Int) (h3:p.1 = 3):ev 243 [.pv (.sl 1 (sgs l)),.pv (.agg (ptc p)),.pv (I s),.pv (I st)] [] = ok (.tup (obR (if p.2.2.2.2.2.2.2.2.2 = 0 then bad 6 else bad 4))):=by
 rw [ptc,Qr,YJ]
 by_cases h:p.2.2.2.2.2.2.2.2.2 = 0
 ·simp [-getElem?_pos,zpg,zph,ya,z9,yk,yj,h3,h,obR,bad,ob0,Ob.c]
 ·simp [-getElem?_pos,zpg,zph,ya,z9,yk,yj,h3,h,obR,bad,ob0,Ob.c]
theorem zjc {l:List (List Int)} (hl:xZ l) (s a:Int) (h:(fol l s a).2.2.2 = 0):(fol l s a).1 % 4 ≠ 2:=by
 unfold fol at h ⊢
 split at h
 case isFalse => simp at h
 rename_i hb
 rw [if_pos hb]
 split at h
 case isFalse => rename_i hf; rw [if_neg hf]; exact hf
 rename_i hf
 rw [if_pos hf]
 split at h
 ·rename_i h4
  rw [if_pos h4]
  unfold dbl at h ⊢
  split at h
  case isFalse => simp at h
  rename_i c1
  rw [if_pos c1]
  split at h
  case isFalse => simp at h
  rename_i c2
  rw [if_pos c2]
  simp only
  omega
 ·rename_i h4
  rw [if_neg h4]
  unfold sgl at h ⊢
  split at h
  case isFalse => simp at h
  rename_i c1
  rw [if_pos c1]
  split at h
  case isTrue => simp at h
  rename_i c2
  rw [if_neg c2]
  exact c2
theorem zan {l:List (List Int)} (hl:xZ l) (hs:Sm l) (s a:Int):ev 184 [.pv (.sl 1 (sgs l)),.pv (I s),.pv (I a)] [] = ok (.tup (obR (obj l s a))):=by
 rw [VM,zal hl]
 unfold obj
 have hb:=zjb hl hs s a
 have hw:=QK hl s a
 have hk:=zjc hl s a
 generalize fol l s a = t at hb hw hk
 obtain ⟨w,s',b,e⟩:=t
 dsimp only at hb hw hk
 dsimp only [zm7,za,zb,zf,zpi,zj,zm,zq,zk,zs,zn,zK,zM,zL,pU8,zpg,zph,zi,zg,zc,zh,ze,zA,zv,zr,zo,zJ,zI,zF,zG,zH,len8,zD,zC,zt,zu]
 by_cases he:e = 0
 case neg =>
  rw [if_neg he,bne_iff_ne.2 he]
  rfl
 subst he
 rw [if_pos rfl,show ((0:Int) != 0) = false from rfl]
 dsimp only [za,zb,zf,zpi,zj,zm,zq,zk,zs,zn,zK,zM,zL,pU8,zpg,zph,zi,zg,zc,zh,ze,zA,zv,zr,zo,zJ,zI,zF,zG,zH,len8,zD,zC,zt,zu]
 rw [wq]
 dsimp only [za,zb,zf,zpi,zj,zm,zq,zk,zs,zn,zK,zM,zL,pU8,zpg,zph,zi,zg,zc,zh,ze,zA,zv,zr,zo,zJ,zI,zF,zG,zH,len8,zD,zC,zt,zu]
 by_cases hz:w = 0
 case pos =>
  rw [if_pos hz,beq_iff_eq.2 hz]
  rfl
 have hd:=Yf hw
 have hk':=hk rfl
 have hb':=hb rfl
 rw [← QH hw] at hk'
 rw [if_neg hz,beq_eq_false_iff_ne.2 hz]
 dsimp only [za,zb,zf,zpi,zj,zm,zq,zk,zs,zn,zK,zM,zL,pU8,zpg,zph,zi,zg,zc,zh,ze,zA,zv,zr,zo,zJ,zI,zF,zG,zH,len8,zD,zC,zt,zu]
 rw [xj hw]
 generalize ZB w = p at hd hk'
 have h1:=zc0 hl p s' (b + p.2.1) (by omega)
 have h2:=zmG hl hs p s' (b + p.2.1) (by omega) (by omega)
 have h3:=zkN (l:=l) p s' (b + p.2.1)
 have hwp:=w64 (x:=b + p.2.1) (by omega)
 unfold zfU
 rw [ptc] at h1 h2 h3 ⊢
 dsimp only [za,zb,zf,zpi,zj,zm,zq,zk,zs,zn,zK,zM,zL,pU8,zpg,zph,zi,zg,zc,zh,ze,zA,zv,zr,zo,zJ,zI,zF,zG,zH,len8,zD,zC,zt,zu]
 have h4:p.1 = 0 ∨ p.1 = 1 ∨ p.1 = 3:=by omega
 rcases h4 with h | h | h
 ·rw [h] at h1 ⊢
  rw [show (decide ((0:Int) ≤ 0) && decide ((0:Int) < 4)) = true from rfl,show ((0:Int) == 0) = true from rfl]
  dsimp only [za,zb,zf,zpi,zj,zm,zq,zk,zs,zn,zK,zM,zL,pU8,zpg,zph,zi,zg,zc,zh,ze,zA,zv,zr,zo,zJ,zI,zF,zG,zH,len8,zD,zC,zt,zu]
  rw [hwp,h1,if_pos rfl]
  rfl
 ·rw [h] at h2 ⊢
  rw [show (decide ((0:Int) ≤ 1) && decide ((1:Int) < 4)) = true from rfl,show ((0:Int) == 1) = false from rfl,show ((1:Int) == 1) = true from rfl]
  dsimp only [za,zb,zf,zpi,zj,zm,zq,zk,zs,zn,zK,zM,zL,pU8,zpg,zph,zi,zg,zc,zh,ze,zA,zv,zr,zo,zJ,zI,zF,zG,zH,len8,zD,zC,zt,zu]
  rw [hwp,h2,if_neg (by decide),if_pos rfl]
  rfl
 ·have h3':=h3 h
  rw [h] at h3' ⊢
  rw [show (decide ((0:Int) ≤ 3) && decide ((3:Int) < 4)) = true from rfl,show ((0:Int) == 3) = false from rfl,show ((1:Int) == 3) = false from rfl,show ((2:Int) == 3) = false from rfl,show ((3:Int) == 3) = true from rfl]
  dsimp only [za,zb,zf,zpi,zj,zm,zq,zk,zs,zn,zK,zM,zL,pU8,zpg,zph,zi,zg,zc,zh,ze,zA,zv,zr,zo,zJ,zI,zF,zG,zH,len8,zD,zC,zt,zu]
  rw [hwp,h3',if_neg (show ¬ (3:Int) = 0 by decide),if_neg (show ¬ (3:Int) = 1 by decide)]
  split <;> rfl
theorem yb {n b:Nat} (h:n * b ≤ 140737488355328) (h1:n ≤ 140737488355328):yr n b = true:=by simp [yr,h,h1]
def w8 (w:Int):List Int:=(List.range 8).map fun k => w / 256 ^ k % 256
def byt (l:List Int):List Int:=l.flatMap w8
theorem xA (w:Int):(w8 w).length = 8:=by simp [w8]
theorem yX (l:List Int):(byt l).length = 8 * l.length:=by
 induction l with
 | nil => rfl
 | cons w l ih => simp only [byt,List.flatMap_cons,zpj,xA,zpk] at ih ⊢; omega
theorem Zd (l:List Int):∀ b ∈ byt l,yq b:=by
 intro b hb
 obtain ⟨w,_,hw⟩:=List.mem_flatMap.1 hb
 obtain ⟨k,_,rfl⟩:=List.mem_map.1 hw
 exact ⟨by omega,by omega⟩
theorem zic {w:Int} {k:Nat} (h:k < 8):(w8 w).take (k + 1) = (w8 w).take k ++ [w / 256 ^ k % 256]:=by
 rw [List.take_succ_eq_append_getElem (by simp [xA,h])]
 simp [w8]
theorem Zr (a b:List Int):bs (a ++ b) = bs a ++ bs b:=by simp [bs]
theorem zpe (w:Int) (k:Nat) (hk:k < 8):Int.fdiv w (2 ^ (min ((8 * k:Nat):Int).toNat 64)) = w / 256 ^ k:=by
 rw [Int.toNat_natCast,Nat.min_eq_left (by omega),Int.fdiv_eq_ediv_of_nonneg _ (Int.le_of_lt (Int.pow_pos (by decide))),Int.pow_mul]
 rfl
theorem zid {l:List Int} (w:Int) (n i:Int) (hi:0 ≤ i ∧ i ≤ 9000000000000000000) (acc:List Int) (ha:acc.length + 8 ≤ 140737488355328):∀ (d k:Nat),k + d = 8 → Zk (bs (acc ++ (w8 w).take k)) (U w) (ws l) n i k = vg (bs (acc ++ w8 w)) (ws l) n (i + 1):=by
 intro d
 induction d with
 | zero =>
  intro k hk
  obtain rfl:k = 8:=by omega
  rw [Y0,List.take_of_length_le (by simp [xA])]
  rw [show decide (((8:Nat):Int) < 8) = false from rfl,w64 (x:=i + 1) (by omega)]
  rfl
 | succ d ih =>
  intro k hk
  rw [Y0,decide_eq_true (show (k:Int) < 8 by omega)]
  dsimp only [za,zb,zf,zpi,zj,zm,zq,zk,zs,zn,zK,zM,zL,pU8,zpg,zph,zi,zg,zc,zh,ze,zA,zv,zr,zo,zJ,zI,zF,zG,zH,len8,zD,zC,zt,zu]
  have e:IntKind.wrap .u64 (IntKind.wrap .i64 (8 * (k:Int))) = ((8 * k:Nat):Int):=by rw [w64 (by omega),zcU (by omega)]; push_cast; rfl
  have hr:yr ((bs (acc ++ (w8 w).take k)).length + 1) 1 = true:=yb (by simp [xA]; omega) (by simp [xA]; omega)
  rw [e,zpe w k (by omega),YQ,hr,w64 (x:=(k:Int) + 1) (by omega)]
  have:=ih (k + 1) (by omega)
  rw [zic (by omega),← List.append_assoc,Zr] at this
  simp only [wI,Int.natCast_nonneg,decide_true,cond_true]
  exact this
theorem zdG (l:List Int) (hl:l.length ≤ 17592186044416):∀ (d i:Nat),i + d = l.length → vg (bs (byt (l.take i))) (ws l) l.length i = ok (.sl 1 (bs (byt l))):=by
 intro d
 induction d with
 | zero =>
  intro i hi
  obtain rfl:i = l.length:=by omega
  rw [YZ,decide_eq_false (by omega),List.take_length]
  rfl
 | succ d ih =>
  intro i hi
  have hil:i < l.length:=by omega
  rw [YZ,decide_eq_true (by omega)]
  have hg:(ws l)[(i:Int).toNat]? = some (U l[i]):=by rw [Int.toNat_natCast,Y2 hil]
  rw [hg]
  have:=ih (i + 1) (by omega)
  have h2:=zid (l:=l) l[i] l.length i (by omega) (byt (l.take i)) (by rw [yX]; simp; omega) 8 0 rfl
  rw [List.take_zero,List.append_nil] at h2
  have e:byt (l.take i) ++ w8 l[i] = byt (l.take (i + 1)):=by rw [List.take_succ_eq_append_getElem hil]; simp only [byt,List.flatMap_append,List.flatMap_cons,List.flatMap_nil,List.append_nil]
  rw [e] at h2
  simp only [ym,Int.natCast_nonneg,decide_true,Bool.true_and,decide_eq_true (show (i:Int) < l.length by omega),cond_true,zpi,zi,zpg]
  exact h2.trans this
theorem Wj (l:List Int) (hl:l.length ≤ 17592186044416):ev 117 [.pv (.sl 1 (ws l))] [] = ok (.sl 1 (bs (byt l))):=by
 rw [zbh,ym,w64 (x:=8 * (l.length:Int)) (by omega),yb (by omega) (by omega)]
 simp only [decide_eq_true (show (0:Int) ≤ 8 * (l.length:Int) by omega),decide_eq_true (show 8 * (l.length:Int) ≤ 140737488355328 by omega),Bool.and_self,cond_true]
 exact zdG l hl l.length 0 (by omega)
theorem zhI {l:List Int} {w:Int} (hw:xI w) (i:Int) (hi:0 ≤ i ∧ i ≤ 9000000000000000000) (acc:List Int) (ha:acc.length + 8 ≤ 140737488355328):∀ (d k:Nat),k + d = 8 → xK (ws l) (bs (acc ++ (w8 w).take k)) i (U (w / 256 ^ k)) k = xd (ws l) (bs (acc ++ w8 w)) (i + 1):=by
 intro d
 induction d with
 | zero =>
  intro k hk
  obtain rfl:k = 8:=by omega
  rw [vm,List.take_of_length_le (by simp [xA])]
  rw [show decide (((8:Nat):Int) < 8) = false from rfl,w64 (x:=i + 1) (by omega)]
  rfl
 | succ d ih =>
  intro k hk
  obtain ⟨g1,g2⟩:=hw
  have hp:(0:Int) < 256 ^ k:=Int.pow_pos (by decide)
  have h0:0 ≤ w / 256 ^ k:=Int.ediv_nonneg g1 (Int.le_of_lt hp)
  have h1:w / 256 ^ k ≤ w:=Int.ediv_le_self _ g1
  rw [vm,decide_eq_true (show (k:Int) < 8 by omega)]
  dsimp only [za,zb,zf,zpi,zj,zm,zq,zk,zs,zn,zK,zM,zL,pU8,zpg,zph,zi,zg,zc,zh,ze,zA,zv,zr,zo,zJ,zI,zF,zG,zH,len8,zD,zC,zt,zu]
  have hr:yr ((bs (acc ++ (w8 w).take k)).length + 1) 1 = true:=yb (by simp [xA]; omega) (by simp [xA]; omega)
  rw [Int.tmod_eq_emod_of_nonneg h0,Int.tdiv_eq_ediv_of_nonneg h0,YQ,hr,zcU (x:=w / 256 ^ k / 256) (by omega),w64 (x:=(k:Int) + 1) (by omega)]
  have:=ih (k + 1) (by omega)
  rw [zic (by omega),← List.append_assoc,Zr,Int.pow_succ,← Int.ediv_ediv_of_nonneg (Int.le_of_lt hp)] at this
  rw [show w / 256 ^ k % 256 % 256 = w / 256 ^ k % 256 by omega]
  exact this
theorem zdt (l:List Int) (hw:Words l) (hl:l.length ≤ 17592186044416):∀ (d i:Nat),i + d = l.length → xd (ws l) (bs (byt (l.take i))) i = ok (.sl 1 (bs (byt l))):=by
 intro d
 induction d with
 | zero =>
  intro i hi
  obtain rfl:i = l.length:=by omega
  rw [vl,decide_eq_false (by simp),List.take_length]
  rfl
 | succ d ih =>
  intro i hi
  have hil:i < l.length:=by omega
  rw [vl,decide_eq_true (by simp; omega)]
  have hg:(ws l)[(i:Int).toNat]? = some (U l[i]):=by rw [Int.toNat_natCast,Y2 hil]
  rw [hg]
  have:=ih (i + 1) (by omega)
  have h2:=zhI (l:=l) (hw.2 _ (List.getElem_mem hil)) i (by omega) (byt (l.take i)) (by rw [yX]; simp; omega) 8 0 rfl
  rw [List.take_zero,List.append_nil,Int.pow_zero,Int.ediv_one] at h2
  have e:byt (l.take i) ++ w8 l[i] = byt (l.take (i + 1)):=by rw [List.take_succ_eq_append_getElem hil]; simp only [byt,List.flatMap_append,List.flatMap_cons,List.flatMap_nil,List.append_nil]
  rw [e] at h2
  simp only [Int.natCast_nonneg,decide_true,Bool.true_and,cond_true,zpi,zi,zpg]
  exact h2.trans this
theorem QB (l:List Int) (hw:Words l) (hl:l.length ≤ 17592186044416):ev 91 [.pv (.sl 1 (ws l))] [] = ok (.sl 1 (bs (byt l))):=by
 rw [Wr]
 exact zdt l hw hl l.length 0 (by omega)
def yg (e c:Int):Int:=(bitsOf e * c + 7) / 8
theorem V5 {e c:Int} (hc:0 ≤ c ∧ c ≤ 536870911):0 ≤ yg e c ∧ yg e c ≤ 4294967296:=by
 have h:=XC (e:=e) hc
 unfold yg
 omega
theorem zil {e c:Int} (he:0 ≤ e ∧ e ≤ 7) (hc:0 ≤ c ∧ c ≤ 536870911):ev 255 [.pv (I e),.pv (I c)] [] = ok (I (yg e c)):=by
 have h:=XC (e:=e) hc
 rw [VA]
 have hb:=zdX he
 simp only [I] at hb
 rw [show (0 + e.toNat * 1) = e.toNat by omega,hb,decide_eq_true he.1,decide_eq_true (show e < 8 by omega)]
 dsimp only [za,zb,zf,zpi,zj,zm,zq,zk,zs,zn,zK,zM,zL,pU8,zpg,zph,zi,zg,zc,zh,ze,zA,zv,zr,zo,zJ,zI,zF,zG,zH,len8,zD,zC,zt,zu]
 rw [Wa,w64 (x:=bitsOf e * c) (by omega),w64 (x:=bitsOf e * c + 8) (by omega),w64 (x:=bitsOf e * c + 8 - 1) (by omega),Int.tdiv_eq_ediv_of_nonneg (by omega),w64 (by omega),show bitsOf e * c + 8 - 1 = bitsOf e * c + 7 by omega]
 rfl
def trimB (e c:Int) (b:List Int):List Int :=
 if e = 1 ∧ 0 < c % 8 then b.take (yg e c - 1).toNat ++ [rd b (yg e c - 1) % 2 ^ (c % 8).toNat] else b.take (yg e c).toNat
theorem zo8 {a:Int} (h:yq a) {r:Nat} (hr:r ≤ 7):IntKind.wrap .u8 (((BitVec.ofInt 8 a &&& BitVec.ofInt 8 ((2 ^ r - 1:Nat):Int)).toNat:Nat):Int) = a % 2 ^ r:=by
 obtain ⟨n,rfl⟩:=Int.eq_ofNat_of_zero_le h.1
 have hn:n < 256:=by have:=h.2; omega
 have e1:∀ m:Nat,m < 256 → (BitVec.ofInt 8 (m:Int)).toNat = m:=fun m hm => by simp; omega
 have hp:2 ^ r ≤ 2 ^ 7:=Nat.pow_le_pow_right (by decide) hr
 rw [BitVec.toNat_and,e1 n hn,e1 _ (by omega),Nat.and_two_pow_sub_one_eq_mod,YQ]
 have:n % 2 ^ r ≤ n:=Nat.mod_le _ _
 rw [Int.emod_eq_of_lt (Int.natCast_nonneg _) (by omega)]
 push_cast
 rfl
theorem zf6 {e c:Int} {b:List Int} (he:0 ≤ e ∧ e ≤ 7) (hc:0 ≤ c ∧ c ≤ 536870911) (hb:∀ x ∈ b,yq x) (hn:yg e c ≤ b.length):ev 235 [.pv (I e),.pv (I c),.pv (.sl 1 (bs b))] [] = some (.ret (.slu 5 1 (bs (trimB e c b))),[]):=by
 have hr:=V5 (e:=e) hc
 rw [Qm,zil he hc]
 dsimp only [za,zb,zf,zpi,zj,zm,zq,zk,zs,zn,zK,zM,zL,pU8,zpg,zph,zi,zg,zc,zh,ze,zA,zv,zr,zo,zJ,zI,zF,zG,zH,len8,zD,zC,zt,zu]
 rw [decide_eq_true hr.1,decide_eq_true (show yg e c ≤ ((bs b).length:Int) by simpa using hn)]
 dsimp only [za,zb,zf,zpi,zj,zm,zq,zk,zs,zn,zK,zM,zL,pU8,zpg,zph,zi,zg,zc,zh,ze,zA,zv,zr,zo,zJ,zI,zF,zG,zH,len8,zD,zC,zt,zu]
 have et:List.drop 0 (List.take (yg e c).toNat (bs b)) = bs (b.take (yg e c).toNat):=by simp [bs]
 rw [et,Z2,yb (by simp; omega) (by simp; omega)]
 dsimp only [za,zb,zf,zpi,zj,zm,zq,zk,zs,zn,zK,zM,zL,pU8,zpg,zph,zi,zg,zc,zh,ze,zA,zv,zr,zo,zJ,zI,zF,zG,zH,len8,zD,zC,zt,zu]
 rw [show wA 5 1 (.slu 5 1 (bs (b.take (yg e c).toNat))) = some (bs (b.take (yg e c).toNat)) from yO _ _ _]
 dsimp only [za,zb,zf,zpi,zj,zm,zq,zk,zs,zn,zK,zM,zL,pU8,zpg,zph,zi,zg,zc,zh,ze,zA,zv,zr,zo,zJ,zI,zF,zG,zH,len8,zD,zC,zt,zu]
 unfold trimB
 by_cases h1:e = 1
 case neg => rw [beq_eq_false_iff_ne.2 h1,if_neg (fun h => h1 h.1)]; rfl
 subst h1
 rw [show ((1:Int) == 1) = true from rfl,Int.tmod_eq_emod_of_nonneg hc.1]
 dsimp only [za,zb,zf,zpi,zj,zm,zq,zk,zs,zn,zK,zM,zL,pU8,zpg,zph,zi,zg,zc,zh,ze,zA,zv,zr,zo,zJ,zI,zF,zG,zH,len8,zD,zC,zt,zu]
 by_cases h8:0 < c % 8
 case neg => rw [decide_eq_false (show ¬ c % 8 > 0 by omega),if_neg (fun h => h8 h.2)]; rfl
 rw [decide_eq_true (show c % 8 > 0 by omega),if_pos ⟨rfl,h8⟩]
 have hpos:1 ≤ yg 1 c:=by unfold yg bitsOf; simp; omega
 have hlen:((bs (b.take (yg 1 c).toNat)).length:Int) = yg 1 c:=by simp; omega
 rw [hlen,w64 (x:=yg 1 c - 1) (by omega),decide_eq_true (show 0 ≤ yg 1 c - 1 by omega),decide_eq_true (show yg 1 c - 1 < yg 1 c by omega)]
 have hg:(bs (b.take (yg 1 c).toNat))[(yg 1 c - 1).toNat]? = some (U8 (rd b (yg 1 c - 1))):=by
  rw [Kb (by simp; omega)]
  simp only [rd,List.getD_eq_getElem?_getD,List.getElem_take]
  rw [List.getElem?_eq_getElem (show (yg 1 c - 1).toNat < b.length by omega)]
  rfl
 have hby:yq (rd b (yg 1 c - 1)):=by
  unfold rd
  rw [List.getD_eq_getElem?_getD,List.getElem?_eq_getElem (by omega)]
  exact hb _ (List.getElem_mem _)
 dsimp only [za,zb,zf,zpi,zj,zm,zq,zk,zs,zn,zK,zM,zL,pU8,zpg,zph,zi,zg,zc,zh,ze,zA,zv,zr,zo,zJ,zI,zF,zG,zH,len8,zD,zC,zt,zu]
 rw [hg]
 dsimp only [za,zb,zf,zpi,zj,zm,zq,zk,zs,zn,zK,zM,zL,pU8,zpg,zph,zi,zg,zc,zh,ze,zA,zv,zr,zo,zJ,zI,zF,zG,zH,len8,zD,zC,zt,zu]
 have hs:IntKind.wrap .u64 (c % 8) = c % 8:=zcU (by omega)
 have hk:(c % 8).toNat ≤ 7:=by omega
 have hmask:IntKind.wrap .u8 (IntKind.wrap .u8 (1 * 2 ^ (min (c % 8).toNat 8)) - 1) = ((2 ^ (c % 8).toNat - 1:Nat):Int):=by
  generalize (c % 8).toNat = r at hk
  have:r = 0 ∨ r = 1 ∨ r = 2 ∨ r = 3 ∨ r = 4 ∨ r = 5 ∨ r = 6 ∨ r = 7:=by omega
  rcases this with rfl | rfl | rfl | rfl | rfl | rfl | rfl | rfl <;> rfl
 rw [hs,hmask,zo8 hby hk,show wI .shl (c % 8) = true by simp [wI]; omega]
 have hset:(bs (b.take (yg 1 c).toNat)).set (yg 1 c - 1).toNat (U8 (rd b (yg 1 c - 1) % 2 ^ (c % 8).toNat)) = bs (b.take (yg 1 c - 1).toNat ++ [rd b (yg 1 c - 1) % 2 ^ (c % 8).toNat]):=by
  have e1:(yg 1 c).toNat = (yg 1 c - 1).toNat + 1:=by omega
  rw [e1,List.take_succ_eq_append_getElem (by omega),Zr,Zr]
  have hl:(bs (b.take (yg 1 c - 1).toNat)).length = (yg 1 c - 1).toNat:=by simp; omega
  rw [List.set_append_right _ _ (by omega),hl,Nat.sub_self]
  rfl
 have hcell:setCells (U8 (rd b (yg 1 c - 1))) 0 [U8 (rd b (yg 1 c - 1) % 2 ^ (c % 8).toNat)] = some (U8 (rd b (yg 1 c - 1) % 2 ^ (c % 8).toNat)):=rfl
 dsimp only [za,zb,zf,zpi,zj,zm,zq,zk,zs,zn,zK,zM,zL,pU8,zpg,zph,zi,zg,zc,zh,ze,zA,zv,zr,zo,zJ,zI,zF,zG,zH,len8,zD,zC,zt,zu]
 rw [hcell]
 dsimp only [za,zb,zf,zpi,zj,zm,zq,zk,zs,zn,zK,zM,zL,pU8,zpg,zph,zi,zg,zc,zh,ze,zA,zv,zr,zo,zJ,zI,zF,zG,zH,len8,zD,zC,zt,zu]
 rw [hset]
 rfl
def elt (o:Ob) (i:Int):Ob:=⟨1,o.seg,o.at_ + i * (o.data + o.ptrs),o.data,o.ptrs,0,0,0⟩
def Vh (o:Ob):Int:=if o.kind = 1 ∧ 0 < o.ptrs then o.at_ + o.data else if o.kind = 2 ∧ o.elem = 6 ∧ 0 < o.n then o.at_ else 0
def zds (o:Ob):Int:=if o.kind = 1 ∧ 0 < o.ptrs then o.ptrs else if o.kind = 2 ∧ o.elem = 6 ∧ 0 < o.n then o.n else 0
theorem QW (o:Ob) (i:Int) (h1:-4611686018427387904 ≤ o.data + o.ptrs ∧ o.data + o.ptrs ≤ 4611686018427387904) (h2:-4611686018427387904 ≤ i * (o.data + o.ptrs) ∧ i * (o.data + o.ptrs) ≤ 4611686018427387904) (h3:-4611686018427387904 ≤ o.at_ ∧ o.at_ ≤ 4611686018427387903):ev 238 [.pv (.agg o.c),.pv (I i)] [] = ok (.agg (elt o i).c):=by
 rw [Ob.c,Vc,w64 (x:=o.data + o.ptrs) (by omega),w64 (x:=i * (o.data + o.ptrs)) (by omega),w64 (by omega)]
 rfl
theorem JM (o:Ob) (h1:-4611686018427387904 ≤ o.at_ + o.data ∧ o.at_ + o.data ≤ 4611686018427387904):ev 277 [.pv (.agg o.c)] [] = ok (.tup [I (Vh o),I (zds o)]):=by
 rw [Ob.c,WF,w64 (x:=o.at_ + o.data) (by omega)]
 unfold Vh zds
 simp only [z9,ya]
 by_cases k1:o.kind = 1
 ·by_cases k2:0 < o.ptrs
  ·simp [k1,k2]
  ·simp [k1,k2]
 ·by_cases k3:o.kind = 2
  ·by_cases k4:o.elem = 6
   ·by_cases k5:0 < o.n
    ·simp [k3,k4,k5]
    ·simp [k3,k4,k5]
   ·simp [k3,k4]
  ·simp [k1,k3]
theorem zcX (d w o:Int):ev 131 [.pv (.agg [I d,I w,I o])] [] = ok (.agg [I (max w 0)]):=by
 rw [Kd]
 have:(if 0 > w then 0 else w) = max w 0:=by omega
 rw [this]
theorem zf0 (d w o x:Int):ev 191 [.pv (.agg [I d,I w,I o]),.pv (I x)] [] = ok (I (if x > d then 7 else 0)):=by
 rw [Kc,ya]
 split <;> rfl
theorem zim (m c:Int) (hm:-4611686018427387904 ≤ m - c ∧ m - c ≤ 4611686018427387904):ev 272 [.pv (.agg [I m]),.pv (I c)] [] = ok (.tup [.agg [I (if c > m then m else m - c)],I (if c > m then 8 else 0)]):=by
 rw [Qk,Y3,w64 (x:=m - c) (by omega)]
 by_cases h:c > m
 ·rw [decide_eq_true h,if_pos h,if_pos h]; rfl
 ·rw [decide_eq_false h,if_neg h,if_neg h]; rfl
inductive Nd where
 | mk (kind elem n:Int) (data:List Int) (kids:List Nd)
def Nd.kind:Nd → Int | .mk k _ _ _ _ => k
def Nd.elem:Nd → Int | .mk _ e _ _ _ => e
def Nd.n:Nd → Int | .mk _ _ n _ _ => n
def Nd.data:Nd → List Int | .mk _ _ _ d _ => d
def Nd.kids:Nd → List Nd | .mk _ _ _ _ ks => ks
def nd0:Nd:=.mk 0 0 0 [] []
theorem Nd.ind {P:Nd → Prop} (h:∀ k e n d ks,(∀ x ∈ ks,P x) → P (.mk k e n d ks)):∀ x,P x
 | .mk k e n d ks => h k e n d ks fun x hx => Nd.ind h x
termination_by x => SizeOf.sizeOf x
decreasing_by
 have:=List.sizeOf_lt_of_mem hx
 simp
 omega
mutual
def Nd.pv:Nd → PV
 | .mk k e n d ks => .agg [I k,I e,I n,.sl 1 (bs d),.sl 5 (pvs ks)]
def pvs:List Nd → List PV
 | [] => []
 | x :: l => x.pv :: pvs l
end
theorem Qd:∀ l:List Nd,pvs l = l.map Nd.pv
 | [] => rfl
 | x :: l => by rw [pvs,Qd l]; rfl
def Nd.c (x:Nd):List PV:=[I x.kind,I x.elem,I x.n,.sl 1 (bs x.data),.sl 5 (pvs x.kids)]
theorem Nd.pv_c (x:Nd):x.pv = .agg x.c:=by cases x; rfl
theorem ZS (x:Nd):x.pv.cells = x.c:=by rw [Nd.pv_c]; rfl
@[simp] theorem w9 (l:List Nd):(pvs l).length = l.length:=by rw [Qd]; simp
theorem Zx {l:List Nd} {i:Nat} (h:i < l.length):(pvs l)[i]? = some l[i].pv:=by rw [Qd]; simp [h]
theorem zjy (l:List Nd) (n:Nat):(pvs l).take n = pvs (l.take n):=by rw [Qd,Qd,List.map_take]
theorem zhH (a b:List Nd):pvs (a ++ b) = pvs a ++ pvs b:=by rw [Qd,Qd,Qd,List.map_append]
theorem zax (l:List Int) (n:Nat):(bs l).take n = bs (l.take n):=by simp [bs]
theorem znh (x:Nd):((decide (x.pv.cells.length = 5) && x.pv.cells.all PV.isCell) && true) = true:=by cases x; rfl
mutual
def Z5:Nd → Prop
 | .mk k e n d ks => (d.length ≤ 17592186044416 ∧ (∀ b ∈ d,yq b) ∧ ks.length ≤ 1073741824 ∧ (k = 1 → d.length % 8 = 0)) ∧ zdg ks
def zdg:List Nd → Prop
 | [] => True
 | x :: l => Z5 x ∧ zdg l
end
theorem goods_iff:∀ {l:List Nd},zdg l ↔ ∀ x ∈ l,Z5 x
 | [] => by simp [zdg]
 | x :: l => by simp [zdg,goods_iff (l:=l)]
def ww {α:Type} (p:α → Bool) (l:List α):Nat:=(l.reverse.dropWhile p).length
theorem wF {α:Type} (p:α → Bool) (l:List α):ww p l ≤ l.length:=by
 unfold ww
 have:=(List.dropWhile_sublist p (l:=l.reverse)).length_le
 simpa using this
theorem yV {α:Type} (p:α → Bool) (l:List α) (x:α):ww p (l ++ [x]) = if p x then ww p l else l.length + 1:=by
 unfold ww
 rw [List.reverse_append]
 simp only [List.reverse_cons,List.reverse_nil,zpl,List.singleton_append,List.dropWhile_cons]
 split <;> simp
def yz (d:List Int):Nat:=(ww (· == 0) d + 7) / 8
def xq (ks:List Nd):Nat:=ww (fun x => x.kind == 0) ks
mutual
def zU:Nd → Nd
 | .mk k e n d ks => if k = 1 then .mk k e n (d.take (8 * yz d)) ((Yt ks).take (xq ks)) else .mk k e n d (Yt ks)
def Yt:List Nd → List Nd
 | [] => []
 | x :: l => zU x :: Yt l
end
theorem yw:∀ l:List Nd,Yt l = l.map zU
 | [] => rfl
 | x :: l => by rw [Yt,yw l]; rfl
theorem vc {α:Type} {l:List α} {i:Nat} (h:i < l.length):l.take (i + 1) = l.take i ++ [l[i]]:=List.take_succ_eq_append_getElem h
theorem zfu {d:List Int} (hd:d.length ≤ 17592186044416):∀ i:Nat,i ≤ d.length → wt (bs d) i = ok (I (ww (· == 0) (d.take i):Nat)):=by
 intro i
 induction i with
 | zero =>
  intro _
  rw [Zb]
  rfl
 | succ i ih =>
  intro hi
  rw [Zb,decide_eq_true (by omega),w64 (x:=((i + 1:Nat):Int) - 1) (by omega),show ((i + 1:Nat):Int) - 1 = (i:Int) by omega,decide_eq_true (by omega),decide_eq_true (by simp; omega)]
  dsimp only [za,zb,zf,zpi,zj,zm,zq,zk,zs,zn,zK,zM,zL,pU8,zpg,zph,zi,zg,zc,zh,ze,zA,zv,zr,zo,zJ,zI,zF,zG,zH,len8,zD,zC,zt,zu]
  rw [Int.toNat_natCast,Kb (by omega)]
  dsimp only [za,zb,zf,zpi,zj,zm,zq,zk,zs,zn,zK,zM,zL,pU8,zpg,zph,zi,zg,zc,zh,ze,zA,zv,zr,zo,zJ,zI,zF,zG,zH,len8,zD,zC,zt,zu]
  rw [Jb,ih (by omega),vc (by omega),yV]
  dsimp only [za,zb,zf,zpi,zj,zm,zq,zk,zs,zn,zK,zM,zL,pU8,zpg,zph,zi,zg,zc,zh,ze,zA,zv,zr,zo,zJ,zI,zF,zG,zH,len8,zD,zC,zt,zu]
  by_cases h0:d[i] = 0
  ·rw [beq_iff_eq.2 h0]; rfl
  ·rw [beq_eq_false_iff_ne.2 h0]
   simp [show i ≤ d.length by omega]
theorem ziA {d:List Int} (hd:d.length ≤ 17592186044416):ev 214 [.pv (.sl 1 (bs d))] [] = ok (I (yz d:Nat)):=by
 have hk:=wF (· == 0) d
 rw [zbe,VV]
 have:=zfu hd d.length (by omega)
 rw [List.take_length] at this
 rw [zV,this]
 dsimp only [za,zb,zf,zpi,zj,zm,zq,zk,zs,zn,zK,zM,zL,pU8,zpg,zph,zi,zg,zc,zh,ze,zA,zv,zr,zo,zJ,zI,zF,zG,zH,len8,zD,zC,zt,zu]
 rw [w64 (x:=(ww (· == 0) d:Nat) + 8) (by omega),w64 (x:=((ww (· == 0) d:Nat):Int) + 8 - 1) (by omega),Int.tdiv_eq_ediv_of_nonneg (by omega),w64 (by omega)]
 have e:(((ww (· == 0) d:Nat):Int) + 8 - 1) / 8 = ((yz d:Nat):Int):=by unfold yz; omega
 rw [e]
theorem zex (x:Nd):PV.agg ((x.pv.cells.drop 0).take 5) = x.pv:=by cases x; rfl
theorem YH (x:Nd):decide (5 ≤ x.pv.cells.length) = true:=by cases x; rfl
theorem zfv {l:List Nd} (hl:l.length ≤ 1073741824):∀ i:Nat,i ≤ l.length → xz (pvs l) i = ok (I (xq (l.take i):Nat)):=by
 intro i
 induction i with
 | zero =>
  intro _
  rw [wR]
  rfl
 | succ i ih =>
  intro hi
  rw [wR,decide_eq_true (by omega),w64 (x:=((i + 1:Nat):Int) - 1) (by omega),show ((i + 1:Nat):Int) - 1 = (i:Int) by omega,decide_eq_true (by omega),decide_eq_true (by simp; omega)]
  dsimp only [za,zb,zf,zpi,zj,zm,zq,zk,zs,zn,zK,zM,zL,pU8,zpg,zph,zi,zg,zc,zh,ze,zA,zv,zr,zo,zJ,zI,zF,zG,zH,len8,zD,zC,zt,zu]
  rw [Int.toNat_natCast,Zx (by omega)]
  dsimp only [za,zb,zf,zpi,zj,zm,zq,zk,zs,zn,zK,zM,zL,pU8,zpg,zph,zi,zg,zc,zh,ze,zA,zv,zr,zo,zJ,zI,zF,zG,zH,len8,zD,zC,zt,zu]
  rw [YH,zex,Nd.pv_c,Nd.c,Vf,ih (by omega),vc (by omega)]
  unfold xq
  rw [yV]
  dsimp only [za,zb,zf,zpi,zj,zm,zq,zk,zs,zn,zK,zM,zL,pU8,zpg,zph,zi,zg,zc,zh,ze,zA,zv,zr,zo,zJ,zI,zF,zG,zH,len8,zD,zC,zt,zu]
  by_cases h0:l[i].kind = 0
  ·rw [beq_iff_eq.2 h0]; rfl
  ·rw [beq_eq_false_iff_ne.2 h0]
   simp [show i ≤ l.length by omega]
theorem zkU {l:List Nd} (hl:l.length ≤ 1073741824):ev 215 [.pv (.sl 5 (pvs l))] [] = ok (I (xq l:Nat)):=by
 rw [Qy,Xx]
 have:=zfv hl l.length (by omega)
 rw [List.take_length] at this
 rw [w9,this]
 rfl
theorem zly (x:Nd):∃ c0 c1 c2 c3 c4,x.pv.cells = [c0,c1,c2,c3,c4] ∧ x.pv = .agg [c0,c1,c2,c3,c4] ∧ c0.isCell = true ∧ c1.isCell = true ∧ c2.isCell = true ∧ c3.isCell = true ∧ c4.isCell = true:=by
 cases x; exact ⟨_,_,_,_,_,rfl,rfl,rfl,rfl,rfl,rfl,rfl⟩
theorem zcK {l:List Nd} (hl:l.length ≤ 1073741824) (hv:∀ x ∈ l,ev 153 [.pv x.pv] [] = ok (zU x).pv) (i3 i4 i5:Int) (xs6 xs7:List PV) (i8 i9 i10:Int) (xs11 xs12:List PV) (k e n:Int) (d:List Int):∀ (m i:Nat),i + m = l.length →
  vM (pvs l) l.length i i3 i4 i5 xs6 xs7 i8 i9 i10 xs11 xs12 k e n (bs d) (pvs (Yt (l.take i))) = ok (Nd.mk k e n d (Yt l)).pv:=by
 intro m
 induction m with
 | zero =>
  intro i hi
  obtain rfl:i = l.length:=by omega
  rw [Xw,decide_eq_false (by omega),List.take_length]
  rfl
 | succ m ih =>
  intro i hi
  have hil:i < l.length:=by omega
  rw [Xw,decide_eq_true (by omega),decide_eq_true (by omega),decide_eq_true (by simp; omega)]
  dsimp only [za,zb,zf,zpi,zj,zm,zq,zk,zs,zn,zK,zM,zL,pU8,zpg,zph,zi,zg,zc,zh,ze,zA,zv,zr,zo,zJ,zI,zF,zG,zH,len8,zD,zC,zt,zu]
  rw [Int.toNat_natCast,Zx hil]
  obtain ⟨c0,c1,c2,c3,c4,h1,h2,h3,h4,h5,h6,h7⟩:=zly l[i]
  have hvi:=hv _ (List.getElem_mem hil)
  rw [h2] at hvi
  dsimp only [za,zb,zf,zpi,zj,zm,zq,zk,zs,zn,zK,zM,zL,pU8,zpg,zph,zi,zg,zc,zh,ze,zA,zv,zr,zo,zJ,zI,zF,zG,zH,len8,zD,zC,zt,zu]
  rw [h1]
  rw [show decide (5 ≤ [c0,c1,c2,c3,c4].length) = true from rfl,show List.take 5 (List.drop 0 [c0,c1,c2,c3,c4]) = [c0,c1,c2,c3,c4] from rfl]
  dsimp only [za,zb,zf,zpi,zj,zm,zq,zk,zs,zn,zK,zM,zL,pU8,zpg,zph,zi,zg,zc,zh,ze,zA,zv,zr,zo,zJ,zI,zF,zG,zH,len8,zD,zC,zt,zu]
  rw [h3,h4,h5,h6,h7]
  dsimp only [za,zb,zf,zpi,zj,zm,zq,zk,zs,zn,zK,zM,zL,pU8,zpg,zph,zi,zg,zc,zh,ze,zA,zv,zr,zo,zJ,zI,zF,zG,zH,len8,zD,zC,zt,zu]
  rw [hvi]
  dsimp only [za,zb,zf,zpi,zj,zm,zq,zk,zs,zn,zK,zM,zL,pU8,zpg,zph,zi,zg,zc,zh,ze,zA,zv,zr,zo,zJ,zI,zF,zG,zH,len8,zD,zC,zt,zu]
  have hroom:yr ((pvs (Yt (l.take i))).length + 1) 72 = true:=yb (by rw [w9,yw]; simp; omega) (by rw [w9,yw]; simp; omega)
  have hnext:pvs (Yt (l.take i)) ++ [(zU l[i]).pv] = pvs (Yt (l.take (i + 1))):=by
   rw [vc hil,yw,yw,List.map_append,zhH]
   rfl
  rw [znh,hroom,hnext,w64 (x:=(i:Int) + 1) (by omega)]
  exact ih (i + 1) (by omega)
theorem zm4 {α:Type} (l:List α):l.drop 0 = l:=rfl
theorem zgj (x:Nd):Z5 x → ev 153 [.pv x.pv] [] = ok (zU x).pv:=by
 induction x using Nd.ind with
 | h k e n d ks ih =>
  intro hg
  rw [Z5,goods_iff] at hg
  obtain ⟨⟨hd,hb,hk,h8⟩,hks⟩:=hg
  have hv:∀ x ∈ ks,ev 153 [.pv x.pv] [] = ok (zU x).pv:=fun x hx => ih x hx (hks x hx)
  rw [Nd.pv,zcJ,zU]
  by_cases h1:k = 1
  ·subst h1
   have hkw:=wF (· == 0) d
   have h88:=h8 rfl
   have hw:8 * yz d ≤ d.length:=by unfold yz; omega
   have hp:xq ks ≤ ks.length:=wF _ _
   rw [show ((1:Int) == 1) = true from rfl,ziA hd,zkU hk,if_pos rfl]
   dsimp only [za,zb,zf,zpi,zj,zm,zq,zk,zs,zn,zK,zM,zL,pU8,zpg,zph,zi,zg,zc,zh,ze,zA,zv,zr,zo,zJ,zI,zF,zG,zH,len8,zD,zC,zt,zu]
   rw [w64 (x:=8 * ((yz d:Nat):Int)) (by omega),decide_eq_true (by omega),decide_eq_true (by simp; omega),decide_eq_true (by omega),decide_eq_true (by simp; omega)]
   dsimp only [za,zb,zf,zpi,zj,zm,zq,zk,zs,zn,zK,zM,zL,pU8,zpg,zph,zi,zg,zc,zh,ze,zA,zv,zr,zo,zJ,zI,zF,zG,zH,len8,zD,zC,zt,zu]
   have e1:(8 * ((yz d:Nat):Int)).toNat = 8 * yz d:=by omega
   rw [e1,Int.toNat_natCast,zm4,zm4,zax,zjy,yb (by simp; omega) (by simp; omega),w9]
   dsimp only [za,zb,zf,zpi,zj,zm,zq,zk,zs,zn,zK,zM,zL,pU8,zpg,zph,zi,zg,zc,zh,ze,zA,zv,zr,zo,zJ,zI,zF,zG,zH,len8,zD,zC,zt,zu]
   have:=zcK (l:=ks.take (xq ks)) (by simp; omega) (fun x hx => hv x (List.mem_of_mem_take hx)) 1 e n (bs d) (pvs ks) 0 0 0 [] [] 1 e n (d.take (8 * yz d)) (ks.take (xq ks)).length 0 (by omega)
   refine this.trans ?_
   rw [yw,yw,List.map_take]
  ·rw [beq_eq_false_iff_ne.2 h1,if_neg h1,yb (by simp; omega) (by simp; omega),w9]
   exact zcK hk hv k e n (bs d) (pvs ks) 0 0 0 [] [] k e n d ks.length 0 (by omega)
def cutB (l:List (List Int)) (s a n:Int):List Int:=if inB l s a n then cut l s a n else []
theorem JS {l:List (List Int)} (h:xZ l) (s a n:Int):Words (cutB l s a n):=by
 unfold cutB
 split
 ·have hw:=Vb h s
  refine ⟨?_,fun x hx => hw.2 x (List.mem_of_mem_drop (List.mem_of_mem_take hx))⟩
  have:=hw.1
  unfold cut
  rw [List.length_take,List.length_drop]
  omega
 ·exact ⟨by simp,by simp⟩
theorem Zf (l:List (List Int)) (s a n:Int):(cutB l s a n).length ≤ n.toNat:=by
 unfold cutB
 split
 ·unfold cut
  rw [List.length_take]
  omega
 ·simp
theorem zdL {l:List (List Int)} (h:xZ l) (s a n:Int) (hn:n ≤ 17592186044416):ev 276 [.pv (.sl 1 (sgs l)),.pv (I s),.pv (I a),.pv (I n)] [] = ok (.tup [.sl 1 (ws (cutB l s a n)),Bo (decide (inB l s a n))]):=by
 rw [zcW h s a n hn]
 unfold cutB
 by_cases hb:inB l s a n
 ·rw [if_pos hb,if_pos hb,decide_eq_true hb]
 ·rw [if_neg hb,if_neg hb,decide_eq_false hb]; rfl
theorem WI (a:List Int) (x:Int):ws a ++ [U x] = ws (a ++ [x]):=by simp [ws]
def zii (l:List (List Int)) (o:Ob):Prop:=(0 ≤ o.at_ ∧ o.at_ ≤ 1099511627776) ∧ (0 ≤ o.data ∧ o.data ≤ 65535) ∧ (0 ≤ o.ptrs ∧ o.ptrs ≤ 65535) ∧ (0 ≤ o.elem ∧ o.elem ≤ 7) ∧ (0 ≤ o.n ∧ o.n ≤ 536870911) ∧ (0 ≤ o.cost ∧ o.cost ≤ 2147483648) ∧ (o.kind = 1 ∨ o.kind = 2) ∧ (o.kind = 2 → o.elem < 6 → inB l o.seg o.at_ o.cost ∧ o.cost = z4 o.elem o.n) ∧ (o.kind = 2 → o.elem ≠ 7 → o.data = 0 ∧ o.ptrs = 0)
theorem zhg {l:List (List Int)} (hs:Sm l) {s a n:Int} (h:inB l s a n):0 ≤ a ∧ a + n ≤ 1099511627776 ∧ 0 ≤ n:=by
 have:=hs s
 obtain ⟨h1,h2,h3,h4,h5⟩:=h
 omega
theorem vD {e:Int} {P:Prop} (h:(bad e).2 = 0) (he:e ≠ 0):P:=absurd h he
theorem zlE {l:List (List Int)} (hs:Sm l) {s st d q:Int} (hd:0 ≤ d ∧ d ≤ 65535) (hq:0 ≤ q ∧ q ≤ 65535) (h:(zfV l s st d q).2 = 0):zii l (zfV l s st d q).1:=by
 unfold zfV at h ⊢
 by_cases hb:inB l s st (d + q)
 ·rw [if_pos hb] at h ⊢
  obtain ⟨a1,a2,a3⟩:=zhg hs hb
  exact ⟨⟨a1,by dsimp only; omega⟩,hd,hq,⟨by dsimp only; omega,by dsimp only; omega⟩,⟨by dsimp only; omega,by dsimp only; omega⟩,⟨by dsimp only; omega,by dsimp only; omega⟩,.inl rfl,fun h => absurd h (by dsimp only; omega),fun h => absurd h (by dsimp only; omega)⟩
 ·rw [if_neg hb] at h
  exact vD h (by decide)
theorem zlC {l:List (List Int)} (hl:xZ l) (hs:Sm l) {s st c:Int} (hc:0 ≤ c ∧ c ≤ 536870911) (h:(zdl l s st c).2 = 0):zii l (zdl l s st c).1:=by
 unfold zdl at h ⊢
 by_cases hb:inB l s st (c + 1)
 ·rw [if_pos hb] at h ⊢
  have hd:=Yf (Z4 hl s st)
  generalize ZB (wd l s st) = p at h hd ⊢
  by_cases hk:p.1 = 0 ∧ 0 ≤ p.2.1 ∧ p.2.1 * (p.2.2.1 + p.2.2.2.1) ≤ c
  ·rw [if_pos hk] at h ⊢
   obtain ⟨a1,a2,a3⟩:=zhg hs hb
   refine ⟨⟨by dsimp only; omega,by dsimp only; omega⟩,⟨by dsimp only; omega,by dsimp only; omega⟩,⟨by dsimp only; omega,by dsimp only; omega⟩,⟨by dsimp only; omega,by dsimp only; omega⟩,⟨by dsimp only; omega,by dsimp only; omega⟩,⟨by dsimp only; split <;> omega,by dsimp only; split <;> omega⟩,.inr rfl,fun _ h => absurd h (by dsimp only; omega),fun _ h => absurd rfl h⟩
  ·rw [if_neg hk] at h
   exact vD h (by decide)
 ·rw [if_neg hb] at h
  exact vD h (by decide)
theorem zlD {l:List (List Int)} (hl:xZ l) (hs:Sm l) {s st e c:Int} (he:0 ≤ e ∧ e ≤ 7) (hc:0 ≤ c ∧ c ≤ 536870911) (h:(zfT l s st e c).2 = 0):zii l (zfT l s st e c).1:=by
 unfold zfT at h ⊢
 by_cases h7:e = 7
 ·rw [if_pos h7] at h ⊢
  exact zlC hl hs hc h
 ·rw [if_neg h7] at h ⊢
  by_cases hb:inB l s st (z4 e c)
  ·rw [if_pos hb] at h ⊢
   obtain ⟨a1,a2,a3⟩:=zhg hs hb
   have hw:=xO (e:=e) hc
   exact ⟨⟨a1,by dsimp only; omega⟩,⟨by dsimp only; omega,by dsimp only; omega⟩,⟨by dsimp only; omega,by dsimp only; omega⟩,he,hc,⟨hw.1,by dsimp only; omega⟩,.inr rfl,fun _ _ => ⟨hb,rfl⟩,fun _ _ => ⟨rfl,rfl⟩⟩
  ·rw [if_neg hb] at h
   exact vD h (by decide)
theorem J2 {l:List (List Int)} (hl:xZ l) (hs:Sm l) {s a:Int} (h0:(fol l s a).1 ≠ 0) (he:(fol l s a).2.2.2 = 0) (h:(obj l s a).2 = 0):zii l (obj l s a).1:=by
 have hd:=Yf (QK hl s a)
 unfold obj at h ⊢
 rw [if_pos he,if_neg h0] at h ⊢
 unfold zfU at h ⊢
 generalize ZB (fol l s a).1 = p at h hd ⊢
 by_cases k0:p.1 = 0
 ·rw [if_pos k0] at h ⊢
  exact zlE hs (by omega) (by omega) h
 ·rw [if_neg k0] at h ⊢
  by_cases k1:p.1 = 1
  ·rw [if_pos k1] at h ⊢
   exact zlD hl hs (by omega) (by omega) h
  ·rw [if_neg k1] at h
   split at h
   ·exact vD h (by decide)
   ·exact vD h (by decide)
def yB (F:Int → Nat → Nd × Int × Int):Nat → Nat → Int → List Nd → List Nd × Int × Int
 | 0,_,m,acc => (acc,m,0)
 | c + 1,i,m,acc => if (F m i).2.2 = 0 then yB F c (i + 1) (F m i).2.1 (acc ++ [(F m i).1]) else ([],(F m i).2.1,(F m i).2.2)
def Ji (t:List Nd × Int × Int) (f:List Nd → Nd):Nd × Int × Int:=(if t.2.2 = 0 then f t.1 else nd0,t.2.1,t.2.2)
def yG (F:Int → Int → Int → Nd × Int × Int) (l:List (List Int)) (m:Int) (o:Ob):Nd × Int × Int :=
 Ji (yB (fun m i => F m o.seg (o.at_ + o.data + i)) o.ptrs.toNat 0 m []) fun ks => .mk 1 0 0 (byt (cutB l o.seg o.at_ o.data)) ks
def Ju (F:Int → Int → Int → Nd × Int × Int) (l:List (List Int)) (m:Int) (o:Ob):Nd × Int × Int :=
 if o.elem < 6 then (.mk 2 o.elem o.n (trimB o.elem o.n (byt (cutB l o.seg o.at_ o.cost))) [],m,0)
 else Ji (yB (fun m i => if o.elem = 6 then F m o.seg (o.at_ + i) else yG F l m (elt o i)) o.n.toNat 0 m []) fun ks => .mk 2 o.elem o.n [] ks
def zda (F:Int → Int → Int → Nd × Int × Int) (l:List (List Int)) (m:Int) (t:Ob × Int):Nd × Int × Int :=
 if t.2 = 0 then (if t.1.cost > m then (nd0,m,8) else if t.1.kind = 1 then yG F l (m - t.1.cost) t.1 else Ju F l (m - t.1.cost) t.1) else (nd0,m,t.2)
def den (l:List (List Int)):Nat → Int → Int → Int → Nd × Int × Int
 | 0 => fun m s a => if (fol l s a).2.2.2 = 0 then (if (fol l s a).1 = 0 then (nd0,m,0) else (nd0,m,7)) else (nd0,m,(fol l s a).2.2.2)
 | D + 1 => fun m s a => if (fol l s a).2.2.2 = 0 then (if (fol l s a).1 = 0 then (nd0,m,0) else zda (den l D) l m (obj l s a)) else (nd0,m,(fol l s a).2.2.2)
def Mt (m:Int):Prop:=0 ≤ m ∧ m ≤ 4611686018427387904
def Fn (t:Nd × Int × Int):Prop:=Mt t.2.1 ∧ Z5 t.1
theorem Jz:Z5 nd0:=by unfold nd0; rw [Z5]; exact ⟨⟨by simp,by simp,by simp,by simp⟩,trivial⟩
theorem zep {F:Int → Nat → Nd × Int × Int} (hF:∀ m i,Mt m → Fn (F m i)):∀ c i m acc,Mt m → zdg acc → Mt (yB F c i m acc).2.1 ∧ zdg (yB F c i m acc).1 ∧ (yB F c i m acc).1.length ≤ acc.length + c:=by
 intro c
 induction c with
 | zero => intro i m acc hm ha; exact ⟨hm,ha,Nat.le_refl _⟩
 | succ c ih =>
  intro i m acc hm ha
  rw [yB]
  split
  ·obtain ⟨a1,a2,a3⟩:=ih (i + 1) (F m i).2.1 (acc ++ [(F m i).1]) (hF m i hm).1 (goods_iff.2 fun x hx => by
    rcases List.mem_append.1 hx with h | h
    ·exact goods_iff.1 ha x h
    ·rw [List.mem_singleton.1 h]; exact (hF m i hm).2)
   exact ⟨a1,a2,by simp at a3; omega⟩
  ·exact ⟨(hF m i hm).1,trivial,by simp⟩
theorem ze5 {t:List Nd × Int × Int} {f:List Nd → Nd} (hm:Mt t.2.1) (hf:Z5 (f t.1)):Fn (Ji t f):=by
 refine ⟨hm,?_⟩
 unfold Ji
 dsimp only
 split
 ·exact hf
 ·exact Jz
theorem JQ (l:List (List Int)) (s a n:Int):(byt (cutB l s a n)).length % 8 = 0:=by rw [yX]; omega
theorem zjT (e c:Int) (b:List Int):(trimB e c b).length ≤ b.length + 1:=by
 unfold trimB
 split
 ·rw [zpj,List.length_take]; simp; omega
 ·rw [List.length_take]; omega
theorem VT (e c:Int) (b:List Int) (hb:∀ x ∈ b,yq x):∀ x ∈ trimB e c b,yq x:=by
 unfold trimB
 intro x hx
 split at hx
 ·rename_i h1
  rcases List.mem_append.1 hx with h | h
  ·exact hb x (List.mem_of_mem_take h)
  ·rw [List.mem_singleton.1 h]
   have hc:(c % 8).toNat = 0 ∨ (c % 8).toNat = 1 ∨ (c % 8).toNat = 2 ∨ (c % 8).toNat = 3 ∨ (c % 8).toNat = 4 ∨ (c % 8).toNat = 5 ∨ (c % 8).toNat = 6 ∨ (c % 8).toNat = 7:=by omega
   unfold yq
   rcases hc with h | h | h | h | h | h | h | h <;> rw [h] <;> simp only [Nat.reducePow,Int.reducePow,Int.pow_zero,Int.pow_succ,Int.reduceMul] <;> omega
 ·exact hb x (List.mem_of_mem_take hx)
theorem za9 {F:Int → Int → Int → Nd × Int × Int} (hF:∀ m s a,Mt m → Fn (F m s a)) (l:List (List Int)) {m:Int} (hm:Mt m) {o:Ob} (hd:o.data ≤ 65535) (hq:o.ptrs ≤ 65535):Fn (yG F l m o):=by
 obtain ⟨a1,a2,a3⟩:=zep (F:=fun m i => F m o.seg (o.at_ + o.data + i)) (fun m i h => hF m _ _ h) o.ptrs.toNat 0 m [] hm trivial
 refine ze5 a1 ?_
 rw [Z5]
 have:=Zf l o.seg o.at_ o.data
 refine ⟨⟨?_,Zd _,?_,fun _ => JQ l _ _ _⟩,a2⟩
 ·rw [yX]; omega
 ·simp at a3; omega
theorem zlf {F:Int → Int → Int → Nd × Int × Int} (hF:∀ m s a,Mt m → Fn (F m s a)) (l:List (List Int)) {m:Int} (hm:Mt m) {t:Ob × Int} (ht:t.2 = 0 → zii l t.1):Fn (zda F l m t):=by
 unfold zda
 by_cases h0:t.2 = 0
 ·rw [if_pos h0]
  obtain ⟨hat,hd,hq,he,hn,hc,hk,hw,hz⟩:=ht h0
  by_cases h8:t.1.cost > m
  ·rw [if_pos h8]; exact ⟨hm,Jz⟩
  ·rw [if_neg h8]
   have hm':Mt (m - t.1.cost):=⟨by unfold Mt at hm; omega,by unfold Mt at hm; omega⟩
   by_cases h1:t.1.kind = 1
   ·rw [if_pos h1]; exact za9 hF l hm' hd.2 hq.2
   ·rw [if_neg h1]
    unfold Ju
    by_cases h6:t.1.elem < 6
    ·rw [if_pos h6]
     refine ⟨hm',?_⟩
     rw [Z5]
     have:=Zf l t.1.seg t.1.at_ t.1.cost
     have:=zjT t.1.elem t.1.n (byt (cutB l t.1.seg t.1.at_ t.1.cost))
     rw [yX] at this
     exact ⟨⟨by omega,VT _ _ _ (Zd _),by simp,fun h => absurd h (by decide)⟩,trivial⟩
    ·rw [if_neg h6]
     obtain ⟨a1,a2,a3⟩:=zep (F:=fun m i => if t.1.elem = 6 then F m t.1.seg (t.1.at_ + i) else yG F l m (elt t.1 i)) (fun m i h => by
      split
      ·exact hF m _ _ h
      ·exact za9 hF l h hd.2 hq.2) t.1.n.toNat 0 (m - t.1.cost) [] hm' trivial
     refine ze5 a1 ?_
     rw [Z5]
     exact ⟨⟨by simp,by simp,by simp at a3; omega,fun h => absurd h (by decide)⟩,a2⟩
 ·rw [if_neg h0]; exact ⟨hm,Jz⟩
theorem zkg {l:List (List Int)} (hl:xZ l) (hs:Sm l):∀ D m s a,Mt m → Fn (den l D m s a):=by
 intro D
 induction D with
 | zero =>
  intro m s a hm
  unfold den
  split
  ·split <;> exact ⟨hm,Jz⟩
  ·exact ⟨hm,Jz⟩
 | succ D ih =>
  intro m s a hm
  unfold den
  split
  ·rename_i he
   split
   ·exact ⟨hm,Jz⟩
   ·rename_i h0
    exact zlf ih l hm fun h => J2 hl hs h0 he h
  ·exact ⟨hm,Jz⟩
theorem zjx (acc:List Nd) (x:Nd):pvs acc ++ [.agg [I x.kind,I x.elem,I x.n,.sl 1 (bs x.data),.sl 5 (pvs x.kids)]] = pvs (acc ++ [x]):=by
 rw [zhH]
 cases x; rfl
theorem Xl {F:Int → Nat → Nd × Int × Int} {c i:Nat} {m:Int} {acc:List Nd} (h:(F m i).2.2 ≠ 0):yB F (c + 1) i m acc = ([],(F m i).2.1,(F m i).2.2):=by rw [yB,if_neg h]
theorem W1 {F:Int → Nat → Nd × Int × Int} {c i:Nat} {m:Int} {acc:List Nd} (h:(F m i).2.2 = 0):yB F (c + 1) i m acc = yB F c (i + 1) (F m i).2.1 (acc ++ [(F m i).1]):=by rw [yB,if_pos h]
theorem Vv {l:List (List Int)} {D:Nat} {m s a:Int} (h:(fol l s a).2.2.2 ≠ 0):den l D m s a = (nd0,m,(fol l s a).2.2.2):=by
 cases D <;> (rw [den]; dsimp only; rw [if_neg h])
theorem Km {l:List (List Int)} {D:Nat} {m s a:Int} (h:(fol l s a).2.2.2 = 0) (h0:(fol l s a).1 = 0):den l D m s a = (nd0,m,0):=by
 cases D <;> (rw [den]; dsimp only; rw [if_pos h,if_pos h0])
theorem zaE {l:List (List Int)} {m s a:Int} (h:(fol l s a).2.2.2 = 0) (h0:(fol l s a).1 ≠ 0):den l 0 m s a = (nd0,m,7):=by
 rw [den]; dsimp only; rw [if_pos h,if_neg h0]
theorem zdb {l:List (List Int)} {D:Nat} {m s a:Int} (h:(fol l s a).2.2.2 = 0) (h0:(fol l s a).1 ≠ 0):den l (D + 1) m s a = zda (den l D) l m (obj l s a):=by
 rw [den]; dsimp only; rw [if_pos h,if_neg h0]
theorem Yy {a:Int} (h:a ≠ 0):(a != 0) = true:=by simpa using h
theorem XE {l:List (List Int)} {o:Ob} (hn:0 ≤ o.n ∧ o.n ≤ 536870911) (hb:inB l o.seg o.at_ o.cost ∧ o.cost = z4 o.elem o.n) (h6:o.elem < 6):yg o.elem o.n ≤ ((byt (cutB l o.seg o.at_ o.cost)).length:Int):=by
 rw [yX]
 unfold cutB
 rw [if_pos hb.1,zlc hb.1]
 have hw:=xO (e:=o.elem) hn
 have h2:=hb.2
 unfold z4 at h2
 rw [if_neg (by omega)] at h2
 unfold yg
 have:=XC (e:=o.elem) hn
 omega
abbrev hp (l:List (List Int)) (d w b m:Int):z6:=[[.pv (.sl 1 (sgs l)),.pv (I d),.pv (I w),.pv (I b),.pv (I m)]]
def zik (l:List (List Int)) (d w b:Int) (e m:Int) (p:PV):Option (Out × z6):=if e = 0 then some (.ret (.pv p),hp l d w b m) else some (.pan (.ifc 279 (.agg [I e])),hp l d w b m)
theorem vO {l:List (List Int)} {d w b e m:Int} {p:PV} (h:e = 0):zik l d w b e m p = some (.ret (.pv p),[[.pv (.sl 1 (sgs l)),.pv (I d),.pv (I w),.pv (I b),.pv (I m)]]):=by rw [zik,if_pos h]
theorem xw {l:List (List Int)} {d w b e m:Int} {p:PV} (h:e ≠ 0):zik l d w b e m p = some (.pan (.ifc 279 (.agg [I e])),[[.pv (.sl 1 (sgs l)),.pv (I d),.pv (I w),.pv (I b),.pv (I m)]]):=by rw [zik,if_neg h]
def Nd.x (x:Nd):PV:=.agg [I x.kind,I x.elem,I x.n,.sl 1 (bs x.data),.sl 5 (pvs x.kids)]
def CV (l:List (List Int)) (d w b:Int) (dep:Int) (F:Int → Int → Int → Nd × Int × Int):Prop:=∀ m s a,Mt m → ev 234 [.ptr 0 0,.pv (I s),.pv (I a),.pv (I dep)] [[.pv (.sl 1 (sgs l)),.pv (I d),.pv (I w),.pv (I b),.pv (I m)]] = zik l d w b (F m s a).2.2 (F m s a).2.1 (F m s a).1.x
theorem WJ {e:Int} (h:e = 0):ev 271 [.pv (I e)] [] = ok (.tup []):=by rw [Xf,h]; rfl
theorem WK {e:Int} (h:e ≠ 0):ev 271 [.pv (I e)] [] = some (.pan (.ifc 279 (.agg [I e])),[]):=by rw [Xf,Yy h]; rfl
theorem zhn (x:Nd):((decide (x.x.cells.length = 5) && x.x.cells.all PV.isCell) && true) = true:=rfl
theorem zcq (acc:List Nd) (x:Nd):pvs acc ++ [x.x] = pvs (acc ++ [x]):=zjx acc x
theorem zdM {l:List (List Int)} (hl:xZ l) (d w b m:Int) (o:Ob) (a n:Int) (hn:n ≤ 8796093022208):ev 295 [.ptr 0 0,.pv (.agg o.c),.pv (I a),.pv (I n)] [[.pv (.sl 1 (sgs l)),.pv (I d),.pv (I w),.pv (I b),.pv (I m)]] = some (.ret (.pv (.sl 1 (bs (byt (cutB l o.seg a n))))),[[.pv (.sl 1 (sgs l)),.pv (I d),.pv (I w),.pv (I b),.pv (I m)]]):=by
 have hcl:=Zf l o.seg a n
 rw [Ob.c,Y4,zdL hl _ _ _ (by omega)]
 dsimp only [za,zb,zf,zpi,zj,zm,zq,zk,zs,zn,zK,zM,zL,pU8,zpg,zph,zi,zg,zc,zh,ze,zA,zv,zr,zo,zJ,zI,zF,zG,zH,len8,zD,zC,zt,zu]
 rw [Wj _ (by omega)]
 rfl
theorem zfq {l:List (List Int)} {d w b dep:Int} {F:Int → Int → Int → Nd × Int × Int} (hF:CV l d w b (dep + 1) F) (hO:∀ m s a,Mt m → Fn (F m s a)) (hdep:0 ≤ dep ∧ dep ≤ 1099511627776) {k sg at_ dt q e n cst A Q:Int} (hA:0 ≤ A ∧ A ≤ 2251799813685248) (hQ:0 ≤ Q ∧ Q ≤ 536870911):∀ (c i:Nat) (m:Int) (acc:List Nd),i + c = Q.toNat → acc.length = i → Mt m →
  yQ dep (pvs acc) (I A) (I Q) i (.sl 1 (sgs l)) (I d) (I w) (I b) (I m) k sg at_ dt q e n cst = zik l d w b (yB (fun m i => F m sg (A + i)) c i m acc).2.2 (yB (fun m i => F m sg (A + i)) c i m acc).2.1 (.sl 5 (pvs (yB (fun m i => F m sg (A + i)) c i m acc).1)):=by
 intro c
 induction c with
 | zero =>
  intro i m acc hi ha hm
  rw [x7]
  dsimp only [za,zb,zf,zpi,zj,zm,zq,zk,zs,zn,zK,zM,zL,pU8,zpg,zph,zi,zg,zc,zh,ze,zA,zv,zr,zo,zJ,zI,zF,zG,zH,len8,zD,zC,zt,zu]
  rw [decide_eq_false (by omega)]
  rfl
 | succ c ih =>
  intro i m acc hi ha hm
  rw [x7]
  dsimp only [za,zb,zf,zpi,zj,zm,zq,zk,zs,zn,zK,zM,zL,pU8,zpg,zph,zi,zg,zc,zh,ze,zA,zv,zr,zo,zJ,zI,zF,zG,zH,len8,zD,zC,zt,zu]
  rw [decide_eq_true (show (i:Int) < Q by omega),w64 (x:=A + i) (by omega),w64 (x:=dep + 1) (by omega)]
  dsimp only [za,zb,zf,zpi,zj,zm,zq,zk,zs,zn,zK,zM,zL,pU8,zpg,zph,zi,zg,zc,zh,ze,zA,zv,zr,zo,zJ,zI,zF,zG,zH,len8,zD,zC,zt,zu]
  rw [hF m sg (A + i) hm]
  by_cases h0:(F m sg (A + i)).2.2 = 0
  ·rw [W1 (F:=fun m (i:Nat) => F m sg (A + i)) (by exact h0),vO h0]
   dsimp only [za,zb,zf,zpi,zj,zm,zq,zk,zs,zn,zK,zM,zL,pU8,zpg,zph,zi,zg,zc,zh,ze,zA,zv,zr,zo,zJ,zI,zF,zG,zH,len8,zD,zC,zt,zu]
   rw [zhn]
   dsimp only [za,zb,zf,zpi,zj,zm,zq,zk,zs,zn,zK,zM,zL,pU8,zpg,zph,zi,zg,zc,zh,ze,zA,zv,zr,zo,zJ,zI,zF,zG,zH,len8,zD,zC,zt,zu]
   rw [yb (by simp; omega) (by simp; omega),zcq,w64 (x:=(i:Int) + 1) (by omega)]
   exact ih (i + 1) _ _ (by omega) (by simp; omega) (hO m sg _ hm).1
  ·rw [Xl (F:=fun m (i:Nat) => F m sg (A + i)) (by exact h0),xw h0,xw h0]
   rfl
theorem zgb {l:List (List Int)} {d w b dep:Int} {F:Int → Int → Int → Nd × Int × Int} (hF:CV l d w b (dep + 1) F) (hO:∀ m s a,Mt m → Fn (F m s a)) (hdep:0 ≤ dep ∧ dep ≤ 1099511627776) {o:Ob} (hat:0 ≤ o.at_ ∧ o.at_ ≤ 1125899906842624) (hdt:0 ≤ o.data ∧ o.data ≤ 65535) {A Q:Int} (hA:Vh o = A) (hQ:zds o = Q) (hA':0 ≤ A ∧ A ≤ 2251799813685248) (hQ':0 ≤ Q ∧ Q ≤ 536870911) {m:Int} (hm:Mt m):ev 296 [.ptr 0 0,.pv (.agg o.c),.pv (I dep)] [[.pv (.sl 1 (sgs l)),.pv (I d),.pv (I w),.pv (I b),.pv (I m)]] = zik l d w b (yB (fun m i => F m o.seg (A + i)) Q.toNat 0 m []).2.2 (yB (fun m i => F m o.seg (A + i)) Q.toNat 0 m []).2.1 (.sl 5 (pvs (yB (fun m i => F m o.seg (A + i)) Q.toNat 0 m []).1)):=by
 have hp:=JM o (by omega)
 rw [hA,hQ] at hp
 rw [Ob.c] at hp ⊢
 rw [Z0,hp]
 dsimp only [za,zb,zf,zpi,zj,zm,zq,zk,zs,zn,zK,zM,zL,pU8,zpg,zph,zi,zg,zc,zh,ze,zA,zv,zr,zo,zJ,zI,zF,zG,zH,len8,zD,zC,zt,zu]
 exact zfq hF hO hdep hA' hQ' Q.toNat 0 m [] (by omega) rfl hm
theorem J0 {F:Int → Int → Int → Nd × Int × Int} (sg:Int) {A A' Q:Int} {m:Int} (h:0 < Q → A' = A):yB (fun m (i:Nat) => F m sg (A' + i)) (if 0 < Q then Q else 0).toNat 0 m [] = yB (fun m (i:Nat) => F m sg (A + i)) Q.toNat 0 m []:=by
 by_cases hQ:0 < Q
 ·rw [if_pos hQ,h hQ]
 ·rw [if_neg hQ,show Q.toNat = 0 by omega]; rfl
theorem wi {t:List Nd × Int × Int} {f:List Nd → Nd} (h:t.2.2 = 0):Ji t f = (f t.1,t.2.1,t.2.2):=by
 unfold Ji
 rw [if_pos h]
theorem zbk {t:List Nd × Int × Int} {f:List Nd → Nd} (h:t.2.2 ≠ 0):Ji t f = (nd0,t.2.1,t.2.2):=by
 unfold Ji
 rw [if_neg h]
theorem zbs {l:List (List Int)} (hl:xZ l) {d w b dep:Int} {F:Int → Int → Int → Nd × Int × Int} (hF:CV l d w b (dep + 1) F) (hO:∀ m s a,Mt m → Fn (F m s a)) (hdep:0 ≤ dep ∧ dep ≤ 1099511627776) {o:Ob} (hat:0 ≤ o.at_ ∧ o.at_ ≤ 1125899906842624) (hdt:0 ≤ o.data ∧ o.data ≤ 65535) (hq:0 ≤ o.ptrs ∧ o.ptrs ≤ 65535) (hk:o.kind = 1) {m:Int} (hm:Mt m):ev 273 [.ptr 0 0,.pv (.agg o.c),.pv (I dep)] [[.pv (.sl 1 (sgs l)),.pv (I d),.pv (I w),.pv (I b),.pv (I m)]] = zik l d w b (yG F l m o).2.2 (yG F l m o).2.1 (yG F l m o).1.x:=by
 have e1:=zdM hl d w b m o o.at_ o.data (by omega)
 have hA:Vh o = if 0 < o.ptrs then o.at_ + o.data else 0:=by
  unfold Vh
  by_cases h:0 < o.ptrs
  ·rw [if_pos ⟨hk,h⟩,if_pos h]
  ·rw [if_neg (fun x => h x.2),if_neg (fun x => absurd x.1 (by omega)),if_neg h]
 have hQ:zds o = if 0 < o.ptrs then o.ptrs else 0:=by
  unfold zds
  by_cases h:0 < o.ptrs
  ·rw [if_pos ⟨hk,h⟩,if_pos h]
  ·rw [if_neg (fun x => h x.2),if_neg (fun x => absurd x.1 (by omega)),if_neg h]
 have e2:=zgb hF hO hdep hat hdt hA hQ (by split <;> omega) (by split <;> omega) hm
 rw [J0 (F:=F) o.seg (A:=o.at_ + o.data) (fun h => if_pos h)] at e2
 rw [Ob.c] at e1 e2 ⊢
 rw [ZC,e1]
 dsimp only [za,zb,zf,zpi,zj,zm,zq,zk,zs,zn,zK,zM,zL,pU8,zpg,zph,zi,zg,zc,zh,ze,zA,zv,zr,zo,zJ,zI,zF,zG,zH,len8,zD,zC,zt,zu]
 rw [e2]
 unfold yG
 generalize hK:yB (fun m (i:Nat) => F m o.seg (o.at_ + o.data + i)) o.ptrs.toNat 0 m [] = K
 by_cases h0:K.2.2 = 0
 ·rw [vO h0,wi h0]
  dsimp only [za,zb,zf,zpi,zj,zm,zq,zk,zs,zn,zK,zM,zL,pU8,zpg,zph,zi,zg,zc,zh,ze,zA,zv,zr,zo,zJ,zI,zF,zG,zH,len8,zD,zC,zt,zu]
  rw [vO h0]
  rfl
 ·rw [xw h0,zbk h0]
  dsimp only [za,zb,zf,zpi,zj,zm,zq,zk,zs,zn,zK,zM,zL,pU8,zpg,zph,zi,zg,zc,zh,ze,zA,zv,zr,zo,zJ,zI,zF,zG,zH,len8,zD,zC,zt,zu]
  rw [xw h0]
theorem zfo {l:List (List Int)} (hl:xZ l) {d w b dep:Int} {F:Int → Int → Int → Nd × Int × Int} (hF:CV l d w b (dep + 1) F) (hO:∀ m s a,Mt m → Fn (F m s a)) (hdep:0 ≤ dep ∧ dep ≤ 1099511627776) {o:Ob} (hat:0 ≤ o.at_ ∧ o.at_ ≤ 1099511627776) (hdt:0 ≤ o.data ∧ o.data ≤ 65535) (hq:0 ≤ o.ptrs ∧ o.ptrs ≤ 65535) (hn:0 ≤ o.n ∧ o.n ≤ 536870911):∀ (c i:Nat) (m:Int) (acc:List Nd),i + c = o.n.toNat → acc.length = i → Mt m →
  xv dep o.n i (.sl 1 (sgs l)) (I d) (I w) (I b) (I m) o.kind o.seg o.at_ o.data o.ptrs o.elem o.n o.cost 0 0 0 [] [] 2 o.elem o.n [] (pvs acc) = zik l d w b (yB (fun m (i:Nat) => yG F l m (elt o i)) c i m acc).2.2 (yB (fun m (i:Nat) => yG F l m (elt o i)) c i m acc).2.1 (.agg [I 2,I o.elem,I o.n,.sl 1 [],.sl 5 (pvs (yB (fun m (i:Nat) => yG F l m (elt o i)) c i m acc).1)]):=by
 intro c
 induction c with
 | zero =>
  intro i m acc hi ha hm
  rw [wN,decide_eq_false (by omega)]
  rfl
 | succ c ih =>
  intro i m acc hi ha hm
  have hmul:0 ≤ (i:Int) * (o.data + o.ptrs) ∧ (i:Int) * (o.data + o.ptrs) ≤ 536870911 * 131070:=VQ (by omega) (by omega)
  have hel:=QW o i (by omega) (by omega) (by omega)
  rw [Ob.c] at hel
  rw [wN,decide_eq_true (by omega),hel]
  dsimp only [za,zb,zf,zpi,zj,zm,zq,zk,zs,zn,zK,zM,zL,pU8,zpg,zph,zi,zg,zc,zh,ze,zA,zv,zr,zo,zJ,zI,zF,zG,zH,len8,zD,zC,zt,zu]
  rw [zbs hl hF hO hdep (o:=elt o i) ⟨by dsimp only [elt]; omega,by dsimp only [elt]; omega⟩ hdt hq rfl hm]
  have hk:=za9 hO l hm (o:=elt o i) hdt.2 hq.2
  by_cases h0:(yG F l m (elt o i)).2.2 = 0
  ·rw [W1 (F:=fun m (i:Nat) => yG F l m (elt o i)) (by exact h0),vO h0]
   dsimp only [za,zb,zf,zpi,zj,zm,zq,zk,zs,zn,zK,zM,zL,pU8,zpg,zph,zi,zg,zc,zh,ze,zA,zv,zr,zo,zJ,zI,zF,zG,zH,len8,zD,zC,zt,zu]
   rw [zhn]
   dsimp only [za,zb,zf,zpi,zj,zm,zq,zk,zs,zn,zK,zM,zL,pU8,zpg,zph,zi,zg,zc,zh,ze,zA,zv,zr,zo,zJ,zI,zF,zG,zH,len8,zD,zC,zt,zu]
   rw [yb (by simp; omega) (by simp; omega),zcq,w64 (x:=(i:Int) + 1) (by omega)]
   exact ih (i + 1) _ _ (by omega) (by simp; omega) hk.1
  ·rw [Xl (F:=fun m (i:Nat) => yG F l m (elt o i)) (by exact h0),xw h0,xw h0]
   rfl
theorem zkK {l:List (List Int)} (hl:xZ l) {d w b dep:Int} {F:Int → Int → Int → Nd × Int × Int} (hF:CV l d w b (dep + 1) F) (hO:∀ m s a,Mt m → Fn (F m s a)) (hdep:0 ≤ dep ∧ dep ≤ 1099511627776) {o:Ob} (hok:zii l o) (hk:o.kind = 2) {m:Int} (hm:Mt m):ev 274 [.ptr 0 0,.pv (.agg o.c),.pv (I dep)] [[.pv (.sl 1 (sgs l)),.pv (I d),.pv (I w),.pv (I b),.pv (I m)]] = zik l d w b (Ju F l m o).2.2 (Ju F l m o).2.1 (Ju F l m o).1.x:=by
 obtain ⟨hat,hdt,hq,hel,hn,hc,hk',hw,hz⟩:=hok
 unfold Ju
 by_cases h6:o.elem < 6
 ·have e1:=zdM hl d w b m o o.at_ o.cost (by omega)
  rw [Ob.c] at e1 ⊢
  rw [x9,beq_eq_false_iff_ne.2 (show o.elem ≠ 6 by omega),beq_eq_false_iff_ne.2 (show o.elem ≠ 7 by omega),e1,if_pos h6]
  dsimp only [za,zb,zf,zpi,zj,zm,zq,zk,zs,zn,zK,zM,zL,pU8,zpg,zph,zi,zg,zc,zh,ze,zA,zv,zr,zo,zJ,zI,zF,zG,zH,len8,zD,zC,zt,zu]
  rw [zf6 hel hn (Zd _) (XE hn (hw hk h6) h6)]
  rfl
 ·rw [if_neg h6]
  by_cases h7:o.elem = 6
  ·have hE:(fun m (i:Nat) => if o.elem = 6 then F m o.seg (o.at_ + i) else yG F l m (elt o i)) = fun m (i:Nat) => F m o.seg (o.at_ + i):=by funext m i; rw [if_pos h7]
   rw [hE]
   have hA:Vh o = if 0 < o.n then o.at_ else 0:=by
    unfold Vh
    rw [if_neg (fun x => absurd x.1 (by omega))]
    by_cases h:0 < o.n
    ·rw [if_pos ⟨hk,h7,h⟩,if_pos h]
    ·rw [if_neg (fun x => h x.2.2),if_neg h]
   have hQ:zds o = if 0 < o.n then o.n else 0:=by
    unfold zds
    rw [if_neg (fun x => absurd x.1 (by omega))]
    by_cases h:0 < o.n
    ·rw [if_pos ⟨hk,h7,h⟩,if_pos h]
    ·rw [if_neg (fun x => h x.2.2),if_neg h]
   have e2:=zgb hF hO hdep (o:=o) ⟨hat.1,by omega⟩ hdt hA hQ (by split <;> omega) (by split <;> omega) hm
   rw [J0 (F:=F) o.seg (A:=o.at_) (fun h => if_pos h)] at e2
   rw [Ob.c] at e2 ⊢
   rw [x9,beq_iff_eq.2 h7,e2]
   generalize hK:yB (fun m (i:Nat) => F m o.seg (o.at_ + i)) o.n.toNat 0 m [] = K
   by_cases h0:K.2.2 = 0
   ·rw [vO h0,wi h0]
    dsimp only [za,zb,zf,zpi,zj,zm,zq,zk,zs,zn,zK,zM,zL,pU8,zpg,zph,zi,zg,zc,zh,ze,zA,zv,zr,zo,zJ,zI,zF,zG,zH,len8,zD,zC,zt,zu]
    rw [vO h0]
    rfl
   ·rw [xw h0,zbk h0]
    dsimp only [za,zb,zf,zpi,zj,zm,zq,zk,zs,zn,zK,zM,zL,pU8,zpg,zph,zi,zg,zc,zh,ze,zA,zv,zr,zo,zJ,zI,zF,zG,zH,len8,zD,zC,zt,zu]
    rw [xw h0]
  ·have hE:(fun m (i:Nat) => if o.elem = 6 then F m o.seg (o.at_ + i) else yG F l m (elt o i)) = fun m (i:Nat) => yG F l m (elt o i):=by funext m i; rw [if_neg h7]
   rw [hE,Ob.c,x9,beq_eq_false_iff_ne.2 h7,beq_iff_eq.2 (show o.elem = 7 by omega)]
   dsimp only [za,zb,zf,zpi,zj,zm,zq,zk,zs,zn,zK,zM,zL,pU8,zpg,zph,zi,zg,zc,zh,ze,zA,zv,zr,zo,zJ,zI,zF,zG,zH,len8,zD,zC,zt,zu]
   refine (zfo hl hF hO hdep hat hdt hq hn o.n.toNat 0 m [] (by omega) rfl hm).trans ?_
   generalize hK:yB (fun m (i:Nat) => yG F l m (elt o i)) o.n.toNat 0 m [] = K
   by_cases h0:K.2.2 = 0
   ·rw [vO h0,wi h0]
    dsimp only
    rw [vO h0]
    rfl
   ·rw [xw h0,zbk h0]
    dsimp only
    rw [xw h0]
theorem zkV {l:List (List Int)} (hl:xZ l) (hs:Sm l) {d w b:Int} (hd:d ≤ 1099511627775):∀ (D:Nat) (dep:Int),0 ≤ dep → dep ≤ 1099511627776 → (d + 1 - dep).toNat = D → CV l d w b dep (den l D):=by
 intro D
 induction D with
 | zero =>
  intro dep h0 h1 hD m s a hm
  rw [vu,zal hl]
  dsimp only [zm7,za,zb,zf,zpi,zj,zm,zq,zk,zs,zn,zK,zM,zL,pU8,zpg,zph,zi,zg,zc,zh,ze,zA,zv,zr,zo,zJ,zI,zF,zG,zH,len8,zD,zC,zt,zu]
  by_cases he:(fol l s a).2.2.2 = 0
  ·rw [WJ he]
   dsimp only [za,zb,zf,zpi,zj,zm,zq,zk,zs,zn,zK,zM,zL,pU8,zpg,zph,zi,zg,zc,zh,ze,zA,zv,zr,zo,zJ,zI,zF,zG,zH,len8,zD,zC,zt,zu]
   rw [wq]
   dsimp only [za,zb,zf,zpi,zj,zm,zq,zk,zs,zn,zK,zM,zL,pU8,zpg,zph,zi,zg,zc,zh,ze,zA,zv,zr,zo,zJ,zI,zF,zG,zH,len8,zD,zC,zt,zu]
   by_cases hz:(fol l s a).1 = 0
   ·rw [beq_iff_eq.2 hz,Km he hz]
    rfl
   ·rw [beq_eq_false_iff_ne.2 hz,zf0,if_pos (show dep > d by omega),zaE he hz]
    dsimp only [za,zb,zf,zpi,zj,zm,zq,zk,zs,zn,zK,zM,zL,pU8,zpg,zph,zi,zg,zc,zh,ze,zA,zv,zr,zo,zJ,zI,zF,zG,zH,len8,zD,zC,zt,zu]
    rw [WK (by decide)]
    rfl
  ·rw [WK he,Vv he,xw he]
   rfl
 | succ D ih =>
  intro dep h0 h1 hD m s a hm
  have hF:=ih (dep + 1) (by omega) (by omega) (by omega)
  have hO:=zkg hl hs D
  rw [vu,zal hl]
  dsimp only [zm7,za,zb,zf,zpi,zj,zm,zq,zk,zs,zn,zK,zM,zL,pU8,zpg,zph,zi,zg,zc,zh,ze,zA,zv,zr,zo,zJ,zI,zF,zG,zH,len8,zD,zC,zt,zu]
  by_cases he:(fol l s a).2.2.2 = 0
  ·rw [WJ he]
   dsimp only [za,zb,zf,zpi,zj,zm,zq,zk,zs,zn,zK,zM,zL,pU8,zpg,zph,zi,zg,zc,zh,ze,zA,zv,zr,zo,zJ,zI,zF,zG,zH,len8,zD,zC,zt,zu]
   rw [wq]
   dsimp only [za,zb,zf,zpi,zj,zm,zq,zk,zs,zn,zK,zM,zL,pU8,zpg,zph,zi,zg,zc,zh,ze,zA,zv,zr,zo,zJ,zI,zF,zG,zH,len8,zD,zC,zt,zu]
   by_cases hz:(fol l s a).1 = 0
   ·rw [beq_iff_eq.2 hz,Km he hz]
    rfl
   ·have hok:=J2 hl hs hz he
    rw [beq_eq_false_iff_ne.2 hz,zf0,if_neg (show ¬ dep > d by omega),zdb he hz]
    dsimp only [za,zb,zf,zpi,zj,zm,zq,zk,zs,zn,zK,zM,zL,pU8,zpg,zph,zi,zg,zc,zh,ze,zA,zv,zr,zo,zJ,zI,zF,zG,zH,len8,zD,zC,zt,zu]
    rw [WJ rfl,zan hl hs]
    generalize obj l s a = t at hok ⊢
    dsimp only [obR,Ob.c,za,zb,zf,zpi,zj,zm,zq,zk,zs,zn,zK,zM,zL,pU8,zpg,zph,zi,zg,zc,zh,ze,zA,zv,zr,zo,zJ,zI,zF,zG,zH,len8,zD,zC,zt,zu]
    unfold zda
    by_cases hf:t.2 = 0
    ·have hok:=hok hf
     obtain ⟨hat,hdt,hq,hel,hn,hc,hk,hw,hz'⟩:=id hok
     obtain ⟨o,f⟩:=t
     dsimp only at hf hok hat hdt hq hel hn hc hk hw hz' ⊢
     rw [WJ hf,if_pos hf]
     dsimp only [za,zb,zf,zpi,zj,zm,zq,zk,zs,zn,zK,zM,zL,pU8,zpg,zph,zi,zg,zc,zh,ze,zA,zv,zr,zo,zJ,zI,zF,zG,zH,len8,zD,zC,zt,zu]
     rw [zim m o.cost (by unfold Mt at hm; omega)]
     dsimp only [za,zb,zf,zpi,zj,zm,zq,zk,zs,zn,zK,zM,zL,pU8,zpg,zph,zi,zg,zc,zh,ze,zA,zv,zr,zo,zJ,zI,zF,zG,zH,len8,zD,zC,zt,zu]
     by_cases h8:o.cost > m
     ·rw [if_pos h8,if_pos h8,if_pos h8,WK (by decide)]
      rfl
     ·have hm':Mt (m - o.cost):=⟨by unfold Mt at hm; omega,by unfold Mt at hm; omega⟩
      rw [if_neg h8,if_neg h8,if_neg h8,WJ rfl]
      dsimp only [za,zb,zf,zpi,zj,zm,zq,zk,zs,zn,zK,zM,zL,pU8,zpg,zph,zi,zg,zc,zh,ze,zA,zv,zr,zo,zJ,zI,zF,zG,zH,len8,zD,zC,zt,zu]
      by_cases hk1:o.kind = 1
      ·rw [beq_iff_eq.2 hk1,if_pos hk1]
       dsimp only [za,zb,zf,zpi,zj,zm,zq,zk,zs,zn,zK,zM,zL,pU8,zpg,zph,zi,zg,zc,zh,ze,zA,zv,zr,zo,zJ,zI,zF,zG,zH,len8,zD,zC,zt,zu]
       have:=zbs hl hF hO ⟨h0,by omega⟩ (o:=o) ⟨hat.1,by omega⟩ hdt hq hk1 hm'
       rw [Ob.c] at this
       rw [this]
       generalize yG (den l D) l (m - o.cost) o = K
       by_cases h9:K.2.2 = 0
       ·rw [vO h9]; rfl
       ·rw [xw h9]; rfl
      ·have hk2:o.kind = 2:=by omega
       rw [beq_eq_false_iff_ne.2 hk1,if_neg hk1]
       dsimp only [za,zb,zf,zpi,zj,zm,zq,zk,zs,zn,zK,zM,zL,pU8,zpg,zph,zi,zg,zc,zh,ze,zA,zv,zr,zo,zJ,zI,zF,zG,zH,len8,zD,zC,zt,zu]
       have:=zkK hl hF hO ⟨h0,by omega⟩ hok hk2 hm'
       rw [Ob.c] at this
       rw [this]
       generalize Ju (den l D) l (m - o.cost) o = K
       by_cases h9:K.2.2 = 0
       ·rw [vO h9]; rfl
       ·rw [xw h9]; rfl
    ·rw [if_neg hf,WK hf,xw hf]
     rfl
  ·rw [WK he,Vv he,xw he]
   rfl
def emp (l:List (List Int)):Prop:=0 < l.length ∧ (rdL l 0).length = 0
instance (l:List (List Int)):Decidable (emp l):=by unfold emp; infer_instance
def runT (l:List (List Int)) (d w:Int):Nd × Int × Int:=if emp l then (nd0,max w 0,0) else den l d.toNat (max w 0) 0 0
def Qb (l:List (List Int)) (d w:Int):Nd:=if (runT l d w).2.2 = 0 then zU (runT l d w).1 else nd0
def W5 (l:List (List Int)) (d w:Int):Int:=(runT l d w).2.2
def zhm (l:List (List Int)) (d w:Int):Int:=if (runT l d w).2.2 = 0 then max w 0 - (runT l d w).2.1 else 0
theorem zpa (a:PV):decide ((PV.agg [a]).cells.length = 1) = true:=rfl
theorem zai:zU nd0 = nd0:=rfl
theorem za3 {l:List (List Int)} (hl:xZ l) (hs:Sm l) {d w:Int} (hw:w ≤ 4611686018427387904):Fn (runT l d w):=by
 have hm:Mt (max w 0):=⟨by omega,by omega⟩
 unfold runT
 split
 ·exact ⟨hm,Jz⟩
 ·exact zkg hl hs _ _ _ _ hm
theorem zoV {l:List (List Int)} (h:0 < l.length):(sgs l)[0]? = some (.sl 1 (ws (rdL l 0))):=by
 have:=zeS (l:=l) (i:=0) (by omega) (by omega)
 exact this
def zlX (t:Nd × Int × Int):PV:=.tup [if t.2.2 = 0 then t.1.x else nd0.x,.agg [if t.2.2 = 0 then I t.2.1 else I 0],I t.2.2]
theorem zoR:nd0.x = .agg [I 0,I 0,I 0,.sl 1 [],.sl 5 []]:=rfl
theorem zmK {l:List (List Int)} (hl:xZ l) (hs:Sm l) {d w b:Int} (hd:d ≤ 1099511627775) (hw:w ≤ 4611686018427387904):ev 178 [.pv (.sl 1 (sgs l)),.pv (.agg [I d,I w,I b])] [] = ok (zlX (runT l d w)):=by
 have hm:Mt (max w 0):=⟨by omega,by omega⟩
 have hv:=zkV hl hs (d:=d) (w:=w) (b:=b) hd d.toNat 1 (by omega) (by omega) (by omega) (max w 0) 0 0 hm
 rw [zaG,zcX]
 dsimp only [za,zf,zpi]
 rw [zpa]
 dsimp only [za,zb,zf,zpi,zj,zm,zq,zk,zs,zn,zK,zM,zL,pU8,zpg,zph,zi,zg,zc,zh,ze,zA,zv,zr,zo,zJ,zI,zF,zG,zH,len8,zD,zC,zt,zu]
 by_cases h0:0 < l.length
 ·rw [decide_eq_true (show ((sgs l).length:Int) > 0 by rw [za7]; omega),zoV h0]
  dsimp only [za,zb,zf,zpi,zj,zm,zq,zk,zs,zn,zK,zM,zL,pU8,zpg,zph,zi,zg,zc,zh,ze,zA,zv,zr,zo,zJ,zI,zF,zG,zH,len8,zD,zC,zt,zu]
  by_cases he:(rdL l 0).length = 0
  ·rw [ym,he,show (((0:Nat):Int) == 0) = true from rfl]
   dsimp only [za,zb,zf,zpi,zj,zm,zq,zk,zs,zn,zK,zM,zL,pU8,zpg,zph,zi,zg,zc,zh,ze,zA,zv,zr,zo,zJ,zI,zF,zG,zH,len8,zD,zC,zt,zu]
   rw [runT,if_pos ⟨h0,he⟩]
   rfl
  ·rw [ym,beq_eq_false_iff_ne.2 (show ((rdL l 0).length:Int) ≠ 0 by omega)]
   dsimp only [za,zb,zf,zpi,zj,zm,zq,zk,zs,zn,zK,zM,zL,pU8,zpg,zph,zi,zg,zc,zh,ze,zA,zv,zr,zo,zJ,zI,zF,zG,zH,len8,zD,zC,zt,zu]
   rw [hv,runT,if_neg (fun h => he h.2)]
   generalize den l d.toNat (max w 0) 0 0 = K
   by_cases h9:K.2.2 = 0
   ·rw [vO h9,zlX,if_pos h9,if_pos h9,h9]; rfl
   ·rw [xw h9,zlX,if_neg h9,if_neg h9]; rfl
 ·rw [decide_eq_false (show ¬ ((sgs l).length:Int) > 0 by rw [za7]; omega)]
  dsimp only [za,zb,zf,zpi,zj,zm,zq,zk,zs,zn,zK,zM,zL,pU8,zpg,zph,zi,zg,zc,zh,ze,zA,zv,zr,zo,zJ,zI,zF,zG,zH,len8,zD,zC,zt,zu]
  rw [hv,runT,if_neg (fun h => h0 h.1)]
  generalize den l d.toNat (max w 0) 0 0 = K
  by_cases h9:K.2.2 = 0
  ·rw [vO h9,zlX,if_pos h9,if_pos h9,h9]; rfl
  ·rw [xw h9,zlX,if_neg h9,if_neg h9]; rfl
theorem zn1 (x:Nd):x.pv = x.x:=by cases x; rfl
theorem QZ {l:List (List Int)} (hl:xZ l) (hs:Sm l) {d w b:Int} (hd:d ≤ 1099511627775) (hw:w ≤ 4611686018427387904):ev 176 [.pv (.sl 1 (sgs l)),.pv (.agg [I d,I w,I b])] [] = ok (.tup [(Qb l d w).x,I (W5 l d w)]):=by
 have hr:=za3 hl hs (d:=d) hw
 rw [Vx,zmK hl hs hd hw]
 unfold Qb W5
 generalize runT l d w = K at hr
 unfold zlX
 by_cases h9:K.2.2 = 0
 ·rw [if_pos h9,if_pos h9,if_pos h9]
  have ht:=zgj K.1 hr.2
  rw [zn1,zn1] at ht
  dsimp only [Nd.x,za,zb,zf,zpi,zj,zm,zq,zk,zs,zn,zK,zM,zL,pU8,zpg,zph,zi,zg,zc,zh,ze,zA,zv,zr,zo,zJ,zI,zF,zG,zH,len8,zD,zC,zt,zu] at ht ⊢
  rw [ht]
  rfl
 ·rw [if_neg h9,if_neg h9,if_neg h9]
  have ht:=zgj nd0 Jz
  rw [zai,zn1] at ht
  rw [zoR] at ht ⊢
  dsimp only [za,zb,zf,zpi,zj,zm,zq,zk,zs,zn,zK,zM,zL,pU8,zpg,zph,zi,zg,zc,zh,ze,zA,zv,zr,zo,zJ,zI,zF,zG,zH,len8,zD,zC,zt,zu]
  rw [ht]
  rfl
theorem QY {l:List (List Int)} (hl:xZ l) (hs:Sm l) {d w b:Int} (hd:d ≤ 1099511627775) (hw:w ≤ 4611686018427387904):ev 110 [.pv (.sl 1 (sgs l)),.pv (.agg [I d,I w,I b])] [] = ok (.tup [I (zhm l d w),I (W5 l d w)]):=by
 have hr:=za3 hl hs (d:=d) hw
 rw [Vw,zmK hl hs hd hw]
 unfold zhm W5
 generalize runT l d w = K at hr
 have hm:=hr.1
 unfold Mt at hm
 unfold zlX
 by_cases h9:K.2.2 = 0
 ·rw [if_pos h9,if_pos h9,if_pos h9,h9]
  dsimp only [Nd.x,za,zb,zf,zpi,zj,zm,zq,zk,zs,zn,zK,zM,zL,pU8,zpg,zph,zi,zg,zc,zh,ze,zA,zv,zr,zo,zJ,zI,zF,zG,zH,len8,zD,zC,zt,zu]
  rw [show ((0:Int) != 0) = false from rfl,Jq,zcX]
  dsimp only [zpk,za,zb,zf,zpi,zj,zm,zq,zk,zs,zn,zK,zM,zL,pU8,zpg,zph,zi,zg,zc,zh,ze,zA,zv,zr,zo,zJ,zI,zF,zG,zH,len8,zD,zC,zt,zu]
  rw [w64 (by omega)]
  rfl
 ·rw [if_neg h9,if_neg h9,if_neg h9,zoR]
  dsimp only [za,zb,zf,zpi,zj,zm,zq,zk,zs,zn,zK,zM,zL,pU8,zpg,zph,zi,zg,zc,zh,ze,zA,zv,zr,zo,zJ,zI,zF,zG,zH,len8,zD,zC,zt,zu]
  rw [Yy h9]
  rfl
theorem zcv {d:List Int} (hd:d.length ≤ 17592186044416):∀ (c i:Nat),i + c = d.length → yU (bs d) (bs d) i = ok (Bo true):=by
 intro c
 induction c with
 | zero => intro i hi; rw [xu,decide_eq_false (by simp; omega)]; rfl
 | succ c ih =>
  intro i hi
  rw [xu,decide_eq_true (show (i:Int) < ((bs d).length:Int) by simp; omega),decide_eq_true (show 0 ≤ (i:Int) by omega)]
  dsimp only [za,zb,zf,zpi,zj,zm,zq,zk,zs,zn,zK,zM,zL,pU8,zpg,zph,zi,zg,zc,zh,ze,zA,zv,zr,zo,zJ,zI,zF,zG,zH,len8,zD,zC,zt,zu]
  rw [Int.toNat_natCast,Kb (by omega)]
  dsimp only [za,zb,zf,zpi,zj,zm,zq,zk,zs,zn,zK,zM,zL,pU8,zpg,zph,zi,zg,zc,zh,ze,zA,zv,zr,zo,zJ,zI,zF,zG,zH,len8,zD,zC,zt,zu]
  rw [show (d[i] != d[i]) = false from by simp,w64 (x:=(i:Int) + 1) (by omega)]
  exact ih (i + 1) (by omega)
theorem zfr {l:List Nd} (hl:l.length ≤ 1073741824) (hv:∀ x ∈ l,ev 134 [.pv x.pv,.pv x.pv] [] = ok (Bo true)) (a b c a' b' c':Int) (x y:List PV):∀ (c0 i:Nat),i + c0 = l.length → xM i a b c x (pvs l) a' b' c' y (pvs l) = ok (Bo true):=by
 intro c0
 induction c0 with
 | zero => intro i hi; rw [vq,decide_eq_false (by simp; omega)]; rfl
 | succ c0 ih =>
  intro i hi
  have hil:i < l.length:=by omega
  rw [vq,decide_eq_true (show (i:Int) < ((pvs l).length:Int) by simp; omega),decide_eq_true (show 0 ≤ (i:Int) by omega)]
  dsimp only [za,zb,zf,zpi,zj,zm,zq,zk,zs,zn,zK,zM,zL,pU8,zpg,zph,zi,zg,zc,zh,ze,zA,zv,zr,zo,zJ,zI,zF,zG,zH,len8,zD,zC,zt,zu]
  rw [Int.toNat_natCast,Zx hil]
  dsimp only [za,zb,zf,zpi,zj,zm,zq,zk,zs,zn,zK,zM,zL,pU8,zpg,zph,zi,zg,zc,zh,ze,zA,zv,zr,zo,zJ,zI,zF,zG,zH,len8,zD,zC,zt,zu]
  rw [YH,zex,hv _ (List.getElem_mem hil),w64 (x:=(i:Int) + 1) (by omega)]
  exact ih (i + 1) (by omega)
theorem zfb (x:Nd):Z5 x → ev 134 [.pv x.pv,.pv x.pv] [] = ok (Bo true):=by
 induction x using Nd.ind with
 | h k e n d ks ih =>
  intro hg
  rw [Z5,goods_iff] at hg
  obtain ⟨⟨hd,hb,hk,h8⟩,hks⟩:=hg
  rw [Nd.pv,Wv,show (k != k) = false from by simp,show (e != e) = false from by simp,show (n != n) = false from by simp,wW,show (((bs d).length:Int) != ((bs d).length:Int)) = false from by simp]
  dsimp only [za,zb,zf,zpi,zj,zm,zq,zk,zs,zn,zK,zM,zL,pU8,zpg,zph,zi,zg,zc,zh,ze,zA,zv,zr,zo,zJ,zI,zF,zG,zH,len8,zD,zC,zt,zu]
  have hsm:yU (bs d) (bs d) 0 = ok (Bo true):=zcv hd d.length 0 (by omega)
  rw [hsm,show (((pvs ks).length:Int) != ((pvs ks).length:Int)) = false from by simp]
  dsimp only [za,zb,zf,zpi,zj,zm,zq,zk,zs,zn,zK,zM,zL,pU8,zpg,zph,zi,zg,zc,zh,ze,zA,zv,zr,zo,zJ,zI,zF,zG,zH,len8,zD,zC,zt,zu]
  exact zfr hk (fun x hx => ih x hx (hks x hx)) k e n k e n (bs d) (bs d) ks.length 0 (by omega)
theorem zf1 {x:Nd} (h:Z5 x):ev 134 [.pv x.x,.pv x.x] [] = ok (Bo true):=by
 have:=zfb x h
 rwa [zn1] at this
theorem zhe (x:Nd):Z5 x → Z5 (zU x):=by
 induction x using Nd.ind with
 | h k e n d ks ih =>
  intro hg
  rw [Z5,goods_iff] at hg
  obtain ⟨⟨hd,hb,hk,h8⟩,hks⟩:=hg
  rw [zU,yw]
  by_cases h1:k = 1
  ·rw [if_pos h1,Z5,goods_iff]
   have h88:=h8 h1
   refine ⟨⟨by rw [List.length_take]; omega,fun b hx => hb b (List.mem_of_mem_take hx),by rw [List.length_take,List.length_map]; omega,fun _ => ?_⟩,?_⟩
   ·rw [List.length_take]
    have:=wF (· == 0) d
    unfold yz
    omega
   ·intro y hy
    obtain ⟨x,hx,rfl⟩:=List.mem_map.1 (List.mem_of_mem_take hy)
    exact ih x hx (hks x hx)
  ·rw [if_neg h1,Z5,goods_iff]
   refine ⟨⟨hd,hb,by rw [List.length_map]; omega,fun h => absurd h h1⟩,?_⟩
   intro y hy
   obtain ⟨x,hx,rfl⟩:=List.mem_map.1 hy
   exact ih x hx (hks x hx)
theorem znD {l:List (List Int)} (h:∀ j:Nat,j < l.length → (rdL l j).length ≤ 300):Sm l:=by
 intro s
 unfold rdL
 rcases Nat.lt_or_ge s.toNat l.length with h1 | h1
 ·have:=h s.toNat h1
  unfold rdL at this
  rw [Int.toNat_natCast] at this
  omega
 ·rw [List.getD_eq_getElem?_getD,List.getElem?_eq_none h1]
  simp
theorem zkJ {d:List Int} (hd:d.length ≤ 17592186044416):ev 27 [.pv (.sl 1 (bs d)),.pv (.sl 1 (bs d))] [] = ok (Bo true):=by
 rw [wW,show (((bs d).length:Int) != ((bs d).length:Int)) = false from by simp]
 exact zcv hd d.length 0 (by omega)
theorem w5 {s:List Int} (h:s.length ≤ 300) (hw:∀ x ∈ s,xI x):xZ [s] ∧ Sm [s]:=by
 refine ⟨⟨by simp,fun t ht => ?_⟩,znD fun j hj => ?_⟩
 ·rw [List.mem_singleton.1 ht]; exact ⟨by omega,hw⟩
 ·rw [show j = 0 by simp at hj; omega]; exact h
theorem sA:xZ [[281483566645248,7,0,107374182401,255]] ∧ Sm [[281483566645248,7,0,107374182401,255]]:=w5 (by decide) (by intro x hx; simp at hx; unfold xI; omega)
theorem mA:ev 176 [.pv (.sl 1 [.sl 1 [U 281483566645248,U 7,U 0,U 107374182401,U 255]]),.pv (.agg [I 3,I 20,I 0])] [] = ok (.tup [.agg [I 1,I 0,I 0,.sl 1 (bs [7,0,0,0,0,0,0,0]),.sl 5 [.agg [I 2,I 1,I 3,.sl 1 (bs [7]),.sl 5 []]]],I 0]):=by
 have h:=QZ sA.1 sA.2 (d:=3) (w:=20) (b:=0) (by decide) (by decide)
 have e:ok (.tup [(Qb [[281483566645248,7,0,107374182401,255]] 3 20).x,I (W5 [[281483566645248,7,0,107374182401,255]] 3 20)]) = ok (.tup [.agg [I 1,I 0,I 0,.sl 1 (bs [7,0,0,0,0,0,0,0]),.sl 5 [.agg [I 2,I 1,I 3,.sl 1 (bs [7]),.sl 5 []]]],I 0]):=by kernel_rfl
 exact h.trans e
theorem zoD (x:Value):(decide ((PV.v x).cells.length = 1) && (PV.v x).cells.all PV.isCell) = true:=rfl
theorem q0:ev 134 [.pv (.agg [I 0,I 0,I 0,.sl 1 [],.sl 5 []]),.pv (.agg [I 0,I 0,I 0,.sl 1 [],.sl 5 []])] [] = ok (Bo true):=zf1 Jz
theorem zhd:Z5 (.mk 2 1 3 [7] []):=by rw [Z5]; exact ⟨⟨by simp,by intro b hb; simp at hb; unfold yq; omega,by simp,fun h => absurd h (by decide)⟩,trivial⟩
theorem q1:ev 134 [.pv (.agg [I 2,I 1,I 3,.sl 1 (bs [7]),.sl 5 []]),.pv (.agg [I 2,I 1,I 3,.sl 1 [U8 7],.sl 5 []])] [] = ok (Bo true):=zf1 zhd
theorem q2:ev 27 [.pv (.sl 1 (bs [7,0,0,0,0,0,0,0])),.pv (.sl 1 [U8 7,U8 0,U8 0,U8 0,U8 0,U8 0,U8 0,U8 0])] [] = ok (Bo true):=zkJ (by decide)
theorem zhj {α:Type} {p:α → Bool} {l:List α}:ww p (l.take (ww p l)) = ww p l:=by
 induction hn:l.length generalizing l with
 | zero => have:=List.length_eq_zero_iff.1 hn; subst this; rfl
 | succ n ih =>
  rcases List.eq_nil_or_concat l with rfl | ⟨l',x,rfl⟩
  ·rfl
  ·rw [List.concat_eq_append] at hn ⊢
   have hl:l'.length = n:=by simpa using hn
   rw [yV]
   have hle:=wF p l'
   split
   ·rw [List.take_append_of_le_length hle]
    exact ih hl
   ·rename_i hp
    rw [show (l' ++ [x]).take (l'.length + 1) = l' ++ [x] from List.take_of_length_le (by simp),yV,if_neg hp]
theorem zdK {d:List Int} (h8:d.length % 8 = 0):(d.take (8 * yz d)).length = 8 * yz d ∧ yz (d.take (8 * yz d)) = yz d:=by
 have hle:=wF (· == 0) d
 have h1:(d.take (8 * yz d)).length = 8 * yz d:=by
  rw [List.length_take]
  unfold yz
  omega
 refine ⟨h1,?_⟩
 have h2:8 * yz d ≤ d.length:=by unfold yz; omega
 have hk:ww (· == 0) (d.take (8 * yz d)) = ww (· == 0) d:=by
  have hge:ww (· == 0) d ≤ 8 * yz d:=by unfold yz; omega
  have mono:∀ (j:Nat),ww (· == 0) d ≤ j → j ≤ d.length → ww (· == 0) (d.take j) = ww (· == 0) d:=by
   intro j hj hjd
   induction hm:d.length - j generalizing j with
   | zero => rw [List.take_of_length_le (by omega)]
   | succ m ih =>
    have hjl:j < d.length:=by omega
    have:=ih (j + 1) (by omega) (by omega) (by omega)
    rw [vc hjl,yV] at this
    split at this
    ·exact this
    ·rw [List.length_take] at this
     omega
  exact mono _ hge (by omega)
 unfold yz at hk ⊢
 rw [hk]
theorem zfF (ks:List Nd):xq (ks.take (xq ks)) = xq ks ∧ (ks.take (xq ks)).length = xq ks:=⟨zhj,by rw [List.length_take]; have:=wF (fun x:Nd => x.kind == 0) ks; unfold xq; omega⟩
theorem vA (x:Nd):(zU x).kind = x.kind:=by
 cases x with
 | mk k e n d ks => rw [zU]; split <;> rfl
theorem KR (ks:List Nd):xq (Yt ks) = xq ks:=by
 rw [yw]
 unfold xq
 induction hn:ks.length generalizing ks with
 | zero => have:=List.length_eq_zero_iff.1 hn; subst this; rfl
 | succ n ih =>
  rcases List.eq_nil_or_concat ks with rfl | ⟨l',x,rfl⟩
  ·rfl
  ·rw [List.concat_eq_append] at hn ⊢
   rw [List.map_append,List.map_singleton,yV,yV,vA,ih l' (by simpa using hn),List.length_map]
inductive TrN:Nd → Prop
 | mk {k e n:Int} {d:List Int} {ks:List Nd}:(k = 1 → 8 * yz d = d.length ∧ xq ks = ks.length) → (∀ x ∈ ks,TrN x) → TrN (.mk k e n d ks)
theorem zl8 (x:Nd):Z5 x → TrN (zU x):=by
 induction x using Nd.ind with
 | h k e n d ks ih =>
  intro hg
  rw [Z5,goods_iff] at hg
  obtain ⟨⟨hd,hb,hk,h8⟩,hks⟩:=hg
  rw [zU]
  by_cases h1:k = 1
  ·rw [if_pos h1]
   refine .mk (fun _ => ?_) fun y hy => ?_
   ·obtain ⟨a1,a2⟩:=zdK (h8 h1)
    have:=zfF (Yt ks)
    rw [KR] at this
    exact ⟨by rw [a1,a2],by rw [this.1,this.2]⟩
   ·have:=List.mem_of_mem_take hy
    rw [yw] at this
    obtain ⟨x,hx,rfl⟩:=List.mem_map.1 this
    exact ih x hx (hks x hx)
  ·rw [if_neg h1]
   refine .mk (fun h => absurd h h1) fun y hy => ?_
   rw [yw] at hy
   obtain ⟨x,hx,rfl⟩:=List.mem_map.1 hy
   exact ih x hx (hks x hx)
def tgt (x:Nd):List Nd:=if x.kind = 2 ∧ x.elem = 7 then x.kids.flatMap Nd.kids else x.kids
def Dp:Nat → Nd → Prop
 | 0,x => x.kind = 0
 | D + 1,x => x.kind = 0 ∨ ((tgt x).length ≤ 1073741824 ∧ ∀ y ∈ tgt x,Dp D y)
theorem zm3 {D:Nat} {x:Nd} (h:x.kind = 0):Dp D x:=by
 cases D with
 | zero => exact h
 | succ D => exact .inl h
def Shp (k e n:Int) (d:List Int) (q:Nat):Prop :=
 (k = 0 ∧ e = 0 ∧ n = 0 ∧ d.length = 0 ∧ q = 0) ∨ (k = 1 ∧ e = 0 ∧ n = 0 ∧ d.length % 8 = 0 ∧ d.length ≤ 524280 ∧ q ≤ 65535) ∨
 (k = 2 ∧ (0 ≤ n ∧ n ≤ 536870911) ∧ (0 ≤ e ∧ e ≤ 7) ∧ (6 ≤ e → d.length = 0 ∧ (q:Int) = n) ∧ (e < 6 → q = 0 ∧ (d.length:Int) = yg e n ∧ trimB e n d = d))
inductive VN:Nd → Prop
 | mk {k e n:Int} {d:List Int} {ks:List Nd}:(∀ x ∈ ks,VN x) → (k = 2 → e = 7 → ∀ x ∈ ks,x.kind = 1) → Shp k e n d ks.length → VN (.mk k e n d ks)
theorem vn0:VN nd0:=.mk (fun x h => by cases h) (fun _ _ x h => by cases h) (.inl ⟨rfl,rfl,rfl,rfl,rfl⟩)
theorem zeq {G:Int → Nat → Nd × Int × Int} {Q:Nd → Prop} (h:∀ m i,(G m i).2.2 = 0 → Q (G m i).1):∀ c i m acc,(∀ x ∈ acc,Q x) → ∀ x ∈ (yB G c i m acc).1,Q x:=by
 intro c
 induction c with
 | zero => intro i m acc ha; exact ha
 | succ c ih =>
  intro i m acc ha
  by_cases h0:(G m i).2.2 = 0
  ·rw [W1 h0]
   refine ih _ _ _ fun x hx => ?_
   rcases List.mem_append.1 hx with h1 | h1
   ·exact ha x h1
   ·rw [List.mem_singleton.1 h1]; exact h m i h0
  ·rw [Xl h0]
   exact fun x hx => by cases hx
theorem zer {G:Int → Nat → Nd × Int × Int}:∀ c i m acc,(yB G c i m acc).2.2 = 0 → (yB G c i m acc).1.length = acc.length + c:=by
 intro c
 induction c with
 | zero => intro i m acc _; rfl
 | succ c ih =>
  intro i m acc hz
  by_cases h0:(G m i).2.2 = 0
  ·rw [W1 h0] at hz ⊢
   rw [ih _ _ _ hz]
   simp
   omega
  ·rw [Xl h0] at hz
   exact absurd hz h0
def Okd (D:Nat) (F:Int → Int → Int → Nd × Int × Int):Prop:=∀ m s a,(F m s a).2.2 = 0 → VN (F m s a).1 ∧ Dp D (F m s a).1
theorem Vd {D:Nat} {F:Int → Int → Int → Nd × Int × Int} (h:Okd D F) (l:List (List Int)) (m:Int) {o:Ob} (hd:o.data ≤ 65535) (hq:0 ≤ o.ptrs ∧ o.ptrs ≤ 65535) (hz:(yG F l m o).2.2 = 0):VN (yG F l m o).1 ∧ (yG F l m o).1.kind = 1 ∧ (yG F l m o).1.kids.length = o.ptrs.toNat ∧ ∀ y ∈ (yG F l m o).1.kids,Dp D y:=by
 unfold yG at hz ⊢
 have hz':(yB (fun m (i:Nat) => F m o.seg (o.at_ + o.data + i)) o.ptrs.toNat 0 m []).2.2 = 0:=hz
 have ha:=zeq (G:=fun m (i:Nat) => F m o.seg (o.at_ + o.data + i)) (Q:=fun x => VN x ∧ Dp D x) (fun m i h0 => h m _ _ h0) o.ptrs.toNat 0 m [] (fun x hx => by cases hx)
 have hl:=zer (G:=fun m (i:Nat) => F m o.seg (o.at_ + o.data + i)) o.ptrs.toNat 0 m [] hz'
 rw [wi hz']
 generalize yB (fun m (i:Nat) => F m o.seg (o.at_ + o.data + i)) o.ptrs.toNat 0 m [] = K at ha hl
 have hcl:=Zf l o.seg o.at_ o.data
 refine ⟨.mk (fun x hx => (ha x hx).1) (fun h2 => absurd h2 (by decide)) (.inr (.inl ⟨rfl,rfl,rfl,JQ l _ _ _,?_,?_⟩)),rfl,?_,fun y hy => (ha y hy).2⟩
 ·rw [yX]; omega
 ·simp at hl; omega
 ·show K.1.length = _
  simpa using hl
theorem zjL {D:Nat} {F:Int → Int → Int → Nd × Int × Int} (h:Okd D F) (l:List (List Int)) (m:Int) {o:Ob} (hd:o.data ≤ 65535) (hq:0 ≤ o.ptrs ∧ o.ptrs ≤ 65535) (hz:(yG F l m o).2.2 = 0):VN (yG F l m o).1 ∧ Dp (D + 1) (yG F l m o).1:=by
 obtain ⟨a1,a2,a3,a4⟩:=Vd h l m hd hq hz
 refine ⟨a1,.inr ?_⟩
 have:tgt (yG F l m o).1 = (yG F l m o).1.kids:=by unfold tgt; rw [if_neg (fun x => by rw [a2] at x; exact absurd x.1 (by decide))]
 rw [this]
 exact ⟨by rw [a3]; omega,a4⟩
theorem zjU {e c:Int} {b:List Int} (hc:0 ≤ c ∧ c ≤ 536870911) (hn:yg e c ≤ b.length):((trimB e c b).length:Int) = yg e c ∧ trimB e c (trimB e c b) = trimB e c b:=by
 have hr:=V5 (e:=e) hc
 unfold trimB
 by_cases h1:e = 1 ∧ 0 < c % 8
 ·simp only [if_pos h1]
  have hb1:1 ≤ yg e c:=by
   obtain ⟨rfl,h8⟩:=h1
   have hbn:yg 1 c = (c + 7) / 8:=by unfold yg bitsOf; simp
   omega
  have hlen:(b.take (yg e c - 1).toNat).length = (yg e c - 1).toNat:=by rw [List.length_take]; omega
  refine ⟨by rw [zpj,hlen]; simp; omega,?_⟩
  rw [List.take_append_of_le_length (by omega),List.take_of_length_le (by omega)]
  congr 2
  have:rd (b.take (yg e c - 1).toNat ++ [rd b (yg e c - 1) % 2 ^ (c % 8).toNat]) (yg e c - 1) = rd b (yg e c - 1) % 2 ^ (c % 8).toNat:=by
   conv => lhs; unfold rd
   rw [List.getD_eq_getElem?_getD,List.getElem?_append_right (by omega),hlen,Nat.sub_self]
   rfl
  rw [this,Int.emod_emod_of_dvd _ (Int.dvd_refl _)]
 ·simp only [if_neg h1]
  refine ⟨by rw [List.length_take]; omega,?_⟩
  rw [List.take_take,Nat.min_self]
theorem zni {l:List (List Int)} {s st c:Int} (h:(zdl l s st c).2 = 0):(zdl l s st c).1.n * (zdl l s st c).1.ptrs ≤ c ∨ (zdl l s st c).1.data < 0 ∨ (zdl l s st c).1.n < 0:=by
 unfold zdl at h ⊢
 by_cases hb:inB l s st (c + 1)
 ·rw [if_pos hb] at h ⊢
  generalize ZB (wd l s st) = p at h ⊢
  by_cases hk:p.1 = 0 ∧ 0 ≤ p.2.1 ∧ p.2.1 * (p.2.2.1 + p.2.2.2.1) ≤ c
  ·rw [if_pos hk]
   dsimp only
   by_cases h0:p.2.2.1 < 0
   ·exact .inr (.inl h0)
   ·refine .inl ?_
    have:p.2.1 * p.2.2.2.1 ≤ p.2.1 * (p.2.2.1 + p.2.2.2.1):=Int.mul_le_mul_of_nonneg_left (by omega) hk.2.1
    omega
  ·rw [if_neg hk] at h
   exact vD h (by decide)
 ·rw [if_neg hb] at h
  exact vD h (by decide)
def Np (o:Ob):Prop:=o.kind = 2 → o.elem = 7 → o.n * o.ptrs ≤ 536870911
theorem zko {l:List (List Int)} (hl:xZ l) (hs:Sm l) {s a:Int} (h0:(fol l s a).1 ≠ 0) (he:(fol l s a).2.2.2 = 0) (h:(obj l s a).2 = 0):Np (obj l s a).1:=by
 have hok:=J2 hl hs h0 he h
 obtain ⟨_,hdt,_,_,hn,_⟩:=hok
 have hd:=Yf (QK hl s a)
 unfold obj at h hdt hn ⊢
 rw [if_pos he,if_neg h0] at h hdt hn ⊢
 unfold zfU at h hdt hn ⊢
 generalize ZB (fol l s a).1 = p at h hdt hn hd ⊢
 by_cases k0:p.1 = 0
 ·rw [if_pos k0] at h hdt hn ⊢
  intro k2
  unfold zfV at k2
  split at k2 <;> first | exact absurd k2 (show ¬ ((1:Int) = 2) by decide) | exact absurd k2 (show ¬ ((0:Int) = 2) by decide)
 ·rw [if_neg k0] at h hdt hn ⊢
  by_cases k1:p.1 = 1
  ·rw [if_pos k1] at h hdt hn ⊢
   unfold zfT at h hdt hn ⊢
   by_cases h7:p.2.2.2.2.1 = 7
   ·rw [if_pos h7] at h hdt hn ⊢
    intro _ _
    have:=zni h
    omega
   ·rw [if_neg h7] at h ⊢
    split
    ·exact fun _ h => absurd h h7
    ·rename_i hb
     rw [if_neg hb] at h
     exact vD h (by decide)
  ·rw [if_neg k1] at h
   split at h
   ·exact vD h (by decide)
   ·exact vD h (by decide)
theorem zi9 {l:List Nd} {q:Nat} (h:∀ x ∈ l,x.kids.length = q):(l.flatMap Nd.kids).length = l.length * q:=by
 induction l with
 | nil => simp
 | cons x l ih =>
  rw [List.flatMap_cons,zpj,ih (fun y hy => h y (List.mem_cons_of_mem _ hy)),h x List.mem_cons_self,zpk,Nat.succ_mul]
  omega
theorem ziY {D:Nat} {F:Int → Int → Int → Nd × Int × Int} (h:Okd D F) (l:List (List Int)) (m:Int) {o:Ob} (ho:zii l o) (hp:Np o) (hk:o.kind = 2) (hz:(Ju F l m o).2.2 = 0):VN (Ju F l m o).1 ∧ Dp (D + 1) (Ju F l m o).1:=by
 obtain ⟨hat,hd,hq,he,hn,hc,_,hw,_⟩:=ho
 unfold Ju at hz ⊢
 by_cases h6:o.elem < 6
 ·rw [if_pos h6]
  have ht:=zjU hn (XE hn (hw hk h6) h6)
  refine ⟨.mk (fun x hx => by cases hx) (fun _ _ x hx => by cases hx) (.inr (.inr ⟨rfl,hn,he,fun h => absurd h (by omega),fun _ => ⟨rfl,ht.1,ht.2⟩⟩)),.inr ?_⟩
  have:tgt (.mk 2 o.elem o.n (trimB o.elem o.n (byt (cutB l o.seg o.at_ o.cost))) []) = []:=by unfold tgt; split <;> rfl
  rw [this]
  exact ⟨by simp,fun y hy => by cases hy⟩
 ·rw [if_neg h6] at hz ⊢
  have hz':(yB (fun m (i:Nat) => if o.elem = 6 then F m o.seg (o.at_ + i) else yG F l m (elt o i)) o.n.toNat 0 m []).2.2 = 0:=hz
  have ha:=zeq (G:=fun m (i:Nat) => if o.elem = 6 then F m o.seg (o.at_ + i) else yG F l m (elt o i)) (Q:=fun x => VN x ∧ (o.elem = 6 → Dp D x) ∧ (o.elem ≠ 6 → x.kind = 1 ∧ x.kids.length = o.ptrs.toNat ∧ ∀ y ∈ x.kids,Dp D y)) (fun m i h0 => by
   by_cases h7:o.elem = 6
   ·simp only [if_pos h7] at h0 ⊢
    obtain ⟨b1,b2⟩:=h m _ _ h0
    exact ⟨b1,fun _ => b2,fun h => absurd h7 h⟩
   ·simp only [if_neg h7] at h0 ⊢
    obtain ⟨b1,b2,b3,b4⟩:=Vd h l m (o:=elt o i) hd.2 hq h0
    exact ⟨b1,fun h => absurd h h7,fun _ => ⟨b2,b3,b4⟩⟩) o.n.toNat 0 m [] (fun x hx => by cases hx)
  have hl:=zer (G:=fun m (i:Nat) => if o.elem = 6 then F m o.seg (o.at_ + i) else yG F l m (elt o i)) o.n.toNat 0 m [] hz'
  rw [wi hz']
  generalize yB (fun m (i:Nat) => if o.elem = 6 then F m o.seg (o.at_ + i) else yG F l m (elt o i)) o.n.toNat 0 m [] = K at ha hl
  have hl':K.1.length = o.n.toNat:=by simpa using hl
  refine ⟨.mk (fun x hx => (ha x hx).1) (fun _ h7 x hx => ((ha x hx).2.2 (by omega)).1) (.inr (.inr ⟨rfl,hn,he,fun _ => ⟨rfl,by omega⟩,fun h => absurd h h6⟩)),.inr ?_⟩
  dsimp only
  by_cases h7:o.elem = 7
  ·have ht:tgt (.mk 2 o.elem o.n [] K.1) = K.1.flatMap Nd.kids:=by unfold tgt; exact if_pos ⟨rfl,h7⟩
   rw [ht]
   refine ⟨?_,fun y hy => ?_⟩
   ·rw [zi9 (fun x hx => ((ha x hx).2.2 (by omega)).2.1),hl']
    have:=hp hk h7
    have e:((o.n.toNat * o.ptrs.toNat:Nat):Int) = o.n * o.ptrs:=by rw [Int.natCast_mul,Int.toNat_of_nonneg hn.1,Int.toNat_of_nonneg hq.1]
    omega
   ·obtain ⟨x,hx,hy⟩:=List.mem_flatMap.1 hy
    exact ((ha x hx).2.2 (by omega)).2.2 y hy
  ·have ht:tgt (.mk 2 o.elem o.n [] K.1) = K.1:=by unfold tgt; exact if_neg (fun x => h7 x.2)
   rw [ht]
   exact ⟨by rw [hl']; omega,fun y hy => (ha y hy).2.1 (by omega)⟩
theorem zaF {l:List (List Int)} (hl:xZ l) (hs:Sm l):∀ D,Okd D (den l D):=by
 intro D
 induction D with
 | zero =>
  intro m s a hz
  by_cases he:(fol l s a).2.2.2 = 0
  ·by_cases h0:(fol l s a).1 = 0
   ·rw [Km he h0]; exact ⟨vn0,rfl⟩
   ·rw [zaE he h0] at hz; exact absurd hz (by show ¬ ((7:Int) = 0); decide)
  ·rw [Vv he] at hz; exact absurd hz he
 | succ D ih =>
  intro m s a hz
  by_cases he:(fol l s a).2.2.2 = 0
  ·by_cases h0:(fol l s a).1 = 0
   ·rw [Km he h0]; exact ⟨vn0,.inl rfl⟩
   ·rw [zdb he h0] at hz ⊢
    unfold zda at hz ⊢
    by_cases hf:(obj l s a).2 = 0
    ·rw [if_pos hf] at hz ⊢
     have hok:=J2 hl hs h0 he hf
     have hnp:=zko hl hs h0 he hf
     by_cases h8:(obj l s a).1.cost > m
     ·rw [if_pos h8] at hz; exact absurd hz (by show ¬ ((8:Int) = 0); decide)
     ·rw [if_neg h8] at hz ⊢
      obtain ⟨hat,hd,hq,_,_,_,hk,_⟩:=id hok
      by_cases h1:(obj l s a).1.kind = 1
      ·rw [if_pos h1] at hz ⊢
       exact zjL ih l _ hd.2 hq hz
      ·rw [if_neg h1] at hz ⊢
       exact ziY ih l _ hok hnp (by omega) hz
    ·rw [if_neg hf] at hz; exact absurd hz hf
  ·rw [Vv he] at hz; exact absurd hz he
theorem Jh (x:Nd):VN x → VN (zU x):=by
 induction x using Nd.ind with
 | h k e n d ks ih =>
  intro hv
  cases hv with
  | mk v1 v2 v3 =>
  rw [zU,yw]
  have hm:∀ y ∈ ks.map zU,VN y:=fun y hy => by
   obtain ⟨x,hx,rfl⟩:=List.mem_map.1 hy
   exact ih x hx (v1 x hx)
  by_cases h1:k = 1
  ·rw [if_pos h1]
   refine .mk (fun x hx => hm x (List.mem_of_mem_take hx)) (fun h2 => absurd h2 (by omega)) ?_
   unfold Shp at v3 ⊢
   rw [List.length_take,List.length_take,List.length_map]
   rcases v3 with v3 | v3 | v3
   ·omega
   ·obtain ⟨_,a2,a3,a4,a5,a6⟩:=v3
    have:=wF (· == 0) d
    refine .inr (.inl ⟨h1,a2,a3,?_,by omega,by omega⟩)
    unfold yz
    omega
   ·omega
  ·rw [if_neg h1]
   refine .mk hm (fun h2 h7 y hy => ?_) ?_
   ·obtain ⟨x,hx,rfl⟩:=List.mem_map.1 hy
    rw [vA]
    exact v2 h2 h7 x hx
   ·rw [List.length_map]; exact v3
theorem KC (x:Nd):(zU x).kids.length ≤ x.kids.length ∧ ∀ y ∈ (zU x).kids,∃ z ∈ x.kids,y = zU z:=by
 cases x with
 | mk k e n d ks =>
  rw [zU,yw]
  split
  ·refine ⟨by show ((ks.map zU).take _).length ≤ ks.length; rw [List.length_take,List.length_map]; omega,fun y hy => ?_⟩
   have hy':y ∈ (ks.map zU).take (xq ks):=hy
   obtain ⟨z,hz,rfl⟩:=List.mem_map.1 (List.mem_of_mem_take hy')
   exact ⟨z,hz,rfl⟩
  ·refine ⟨by show (ks.map zU).length ≤ ks.length; rw [List.length_map]; omega,fun y hy => ?_⟩
   have hy':y ∈ ks.map zU:=hy
   obtain ⟨z,hz,rfl⟩:=List.mem_map.1 hy'
   exact ⟨z,hz,rfl⟩
theorem VU (x:Nd):(zU x).elem = x.elem:=by
 cases x with
 | mk k e n d ks => rw [zU]; split <;> rfl
theorem zbW:∀ l:List Nd,((l.map zU).flatMap Nd.kids).length ≤ (l.flatMap Nd.kids).length
 | [] => Nat.le_refl _
 | x :: l => by
  have:=zbW l
  have:=(KC x).1
  rw [List.map_cons,List.flatMap_cons,List.flatMap_cons,zpj,zpj]
  omega
theorem zjS (x:Nd):(tgt (zU x)).length ≤ (tgt x).length ∧ ∀ y ∈ tgt (zU x),∃ z ∈ tgt x,y = zU z:=by
 unfold tgt
 rw [vA,VU]
 by_cases h:x.kind = 2 ∧ x.elem = 7
 ·rw [if_pos h,if_pos h]
  have hk:(zU x).kids = x.kids.map zU:=by
   cases x with
   | mk k e n d ks =>
    rw [zU,yw,if_neg (fun h1 => by have:k = 2:=h.1; omega)]
    rfl
  rw [hk]
  refine ⟨zbW _,fun y hy => ?_⟩
  obtain ⟨u,hu,hy⟩:=List.mem_flatMap.1 hy
  obtain ⟨v,hv,rfl⟩:=List.mem_map.1 hu
  obtain ⟨z,hz,rfl⟩:=(KC v).2 y hy
  exact ⟨z,List.mem_flatMap.2 ⟨v,hv,hz⟩,rfl⟩
 ·rw [if_neg h,if_neg h]
  exact KC x
theorem zli:∀ (D:Nat) (x:Nd),Dp D x → Dp D (zU x):=by
 intro D
 induction D with
 | zero => intro x h; exact (vA x).trans h
 | succ D ih =>
  intro x h
  rcases h with h | ⟨h1,h2⟩
  ·exact .inl ((vA x).trans h)
  ·obtain ⟨a1,a2⟩:=zjS x
   exact .inr ⟨by omega,fun y hy => by obtain ⟨z,hz,rfl⟩:=a2 y hy; exact ih z (h2 z hz)⟩
theorem zkz (k e n:Int) (d:List Int) (ks:List Nd):tgt (.mk k e n d ks) = if k = 2 ∧ e = 7 then ks.flatMap Nd.kids else ks:=rfl
theorem zek {x:Nd} (hg:Z5 x):∀ y ∈ tgt x,Z5 y:=by
 have kid:∀ {x:Nd},Z5 x → ∀ y ∈ x.kids,Z5 y:=fun {x} h y hy => by
  cases x with
  | mk k e n d ks => rw [Z5,goods_iff] at h; exact h.2 y hy
 unfold tgt
 split
 ·intro y hy
  obtain ⟨z,hz,hy⟩:=List.mem_flatMap.1 hy
  exact kid (kid hg z hz) y hy
 ·exact kid hg
theorem cl5 (a b c d e:PV):decide ((PV.agg [a,b,c,d,e]).cells.length = 5) = true:=rfl
theorem zjG {l:List (List Int)} (hl:xZ l) (hs:Sm l) {d w:Int} (h:(runT l d w).2.2 = 0):VN (runT l d w).1 ∧ Dp d.toNat (runT l d w).1:=by
 by_cases he:emp l
 ·rw [runT,if_pos he]
  exact ⟨vn0,zm3 rfl⟩
 ·have e1:runT l d w = den l d.toNat (max w 0) 0 0:=by rw [runT,if_neg he]
  rw [e1] at h ⊢
  exact zaF hl hs _ _ _ _ h
def yL (l:List Nd):Nat:=l.foldr (fun x a => max (x.data.length / 8) a) 0
def yP (l:List Nd):Nat:=l.foldr (fun x a => max x.kids.length a) 0
def xS (x:Nd):Int:=if x.kind = 0 then 0 else if x.kind = 1 then ((x.data.length / 8 + x.kids.length:Nat):Int) else if x.elem = 7 then 1 + x.n * ((yL x.kids + yP x.kids:Nat):Int) else z4 x.elem x.n
def yK (l:List Int):Int:=l.foldr (fun a b => a + b) 0
def yh:Nat → Nd → Int
 | 0,x => xS x
 | D + 1,x => xS x + yK ((tgt x).map (yh D))
theorem zjM (a b:List Int):yK (a ++ b) = yK a + yK b:=by
 unfold yK
 induction a with
 | nil => simp
 | cons x a ih => simp only [List.cons_append,List.foldr_cons,ih]; omega
theorem xB:yK [] = 0:=rfl
theorem yR (x:Int) (l:List Int):yK (x :: l) = x + yK l:=rfl
theorem wg {l:List Int} (h:∀ x ∈ l,0 ≤ x):0 ≤ yK l:=by
 induction l with
 | nil => exact Int.le_refl _
 | cons x l ih =>
  rw [yR]
  have:=h x List.mem_cons_self
  have:=ih fun y hy => h y (List.mem_cons_of_mem _ hy)
  omega
theorem ze1 {l:List Nd} {x:Nd} (h:x ∈ l):x.data.length / 8 ≤ yL l:=by
 unfold yL
 induction l with
 | nil => cases h
 | cons y l ih =>
  rw [List.foldr_cons]
  rcases List.mem_cons.1 h with rfl | h
  ·omega
  ·have:=ih h; omega
theorem VW {l:List Nd} {b:Nat} (h:∀ x ∈ l,x.data.length / 8 ≤ b):yL l ≤ b:=by
 unfold yL
 induction l with
 | nil => exact Nat.zero_le _
 | cons y l ih =>
  rw [List.foldr_cons]
  have:=h y List.mem_cons_self
  have:=ih fun x hx => h x (List.mem_cons_of_mem _ hx)
  omega
theorem VX {l:List Nd} {b:Nat} (h:∀ x ∈ l,x.kids.length ≤ b):yP l ≤ b:=by
 unfold yP
 induction l with
 | nil => exact Nat.zero_le _
 | cons y l ih =>
  rw [List.foldr_cons]
  have:=h y List.mem_cons_self
  have:=ih fun x hx => h x (List.mem_cons_of_mem _ hx)
  omega
theorem zh4 (l:List Nd) (x:Nd):yL (l ++ [x]) = max (yL l) (x.data.length / 8):=by
 unfold yL
 induction l with
 | nil => simp
 | cons y l ih => simp only [List.cons_append,List.foldr_cons,ih]; omega
theorem zh5 (l:List Nd) (x:Nd):yP (l ++ [x]) = max (yP l) x.kids.length:=by
 unfold yP
 induction l with
 | nil => simp
 | cons y l ih => simp only [List.cons_append,List.foldr_cons,ih]; omega
theorem zjW {l:List Nd} (hl:l.length ≤ 1073741824) (hd:∀ x ∈ l,x.data.length ≤ 17592186044416) (a b c:Int) (x y:List PV):∀ (c0 i:Nat),i + c0 = l.length → vd (yL (l.take i):Nat) (yP (l.take i):Nat) (pvs l) l.length i a b c x y = ok (.tup [I (yL l:Nat),I (yP l:Nat)]):=by
 intro c0
 induction c0 with
 | zero =>
  intro i hi
  rw [ZX,decide_eq_false (by omega),List.take_of_length_le (by omega)]
  rfl
 | succ c0 ih =>
  intro i hi
  have hil:i < l.length:=by omega
  have hdi:=hd _ (List.getElem_mem hil)
  rw [ZX,decide_eq_true (show (i:Int) < (l.length:Int) by omega),decide_eq_true (show 0 ≤ (i:Int) by omega),decide_eq_true (show (i:Int) < ((pvs l).length:Int) by simp; omega)]
  dsimp only [za,zb,zf,zpi,zj,zm,zq,zk,zs,zn,zK,zM,zL,pU8,zpg,zph,zi,zg,zc,zh,ze,zA,zv,zr,zo,zJ,zI,zF,zG,zH,len8,zD,zC,zt,zu]
  rw [Int.toNat_natCast,Zx hil]
  dsimp only [za,zb,zf,zpi,zj,zm,zq,zk,zs,zn,zK,zM,zL,pU8,zpg,zph,zi,zg,zc,zh,ze,zA,zv,zr,zo,zJ,zI,zF,zG,zH,len8,zD,zC,zt,zu]
  rw [YH,ZS,show (l[i].c.drop 0).take 5 = l[i].c from rfl]
  dsimp only [Nd.c,za,zb,zf,zpi,zj,zm,zq,zk,zs,zn,zK,zM,zL,pU8,zpg,zph,zi,zg,zc,zh,ze,zA,zv,zr,zo,zJ,zI,zF,zG,zH,len8,zD,zC,zt,zu]
  rw [zV,w9,Int.tdiv_eq_ediv_of_nonneg (by omega),w64 (x:=(l[i].data.length:Int) / 8) (by omega),w64 (x:=(i:Int) + 1) (by omega)]
  have h1:(if (l[i].data.length:Int) / 8 > ((yL (l.take i):Nat):Int) then (l[i].data.length:Int) / 8 else ((yL (l.take i):Nat):Int)) = ((yL (l.take (i + 1)):Nat):Int):=by
   rw [vc hil,zh4]
   split <;> omega
  have h2:(if (l[i].kids.length:Int) > ((yP (l.take i):Nat):Int) then (l[i].kids.length:Int) else ((yP (l.take i):Nat):Int)) = ((yP (l.take (i + 1)):Nat):Int):=by
   rw [vc hil,zh5]
   split <;> omega
  rw [h1,h2]
  exact ih (i + 1) (by omega)
theorem zbr {x:Nd} (hl:x.kids.length ≤ 1073741824) (hd:∀ y ∈ x.kids,y.data.length ≤ 17592186044416):ev 219 [.pv x.x] [] = ok (.tup [I (yL x.kids:Nat),I (yP x.kids:Nat)]):=by
 rw [Nd.x,Ja,w9]
 exact zjW hl hd x.kind x.elem x.n (bs x.data) (pvs x.kids) x.kids.length 0 (by omega)
theorem YD {x:Nd} (h:Z5 x):x.data.length ≤ 17592186044416 ∧ x.kids.length ≤ 1073741824 ∧ ∀ y ∈ x.kids,Z5 y:=by
 cases x with
 | mk k e n d ks =>
  rw [Z5,goods_iff] at h
  exact ⟨h.1.1,h.1.2.2.1,h.2⟩
theorem ZY {x:Nd} (h:VN x):Shp x.kind x.elem x.n x.data x.kids.length ∧ (∀ y ∈ x.kids,VN y):=by
 cases h with
 | mk v1 v2 v3 => exact ⟨v3,v1⟩
theorem XI {x:Nd} (h:VN x):0 ≤ xS x:=by
 obtain ⟨hs,_⟩:=ZY h
 unfold xS
 rcases hs with hs | hs | hs
 ·rw [if_pos hs.1]; exact Int.le_refl _
 ·rw [if_neg (by omega),if_pos hs.1]; omega
 ·rw [if_neg (by omega),if_neg (by omega)]
  split
  ·have:=Int.mul_nonneg hs.2.1.1 (Int.natCast_nonneg (yL x.kids + yP x.kids))
   omega
  ·exact (xO hs.2.1).1
theorem JL {x:Nd} (hg:Z5 x) (hv:VN x) (hb:xS x ≤ 4611686018427387904) (hu:yL x.kids + yP x.kids ≤ 4611686018427387904):ev 262 [.pv x.x] [] = ok (I (xS x)):=by
 obtain ⟨hd,hk,hks⟩:=YD hg
 obtain ⟨hs,_⟩:=ZY hv
 have hun:=zbr hk (fun y hy => (YD (hks y hy)).1)
 rw [Nd.x] at hun ⊢
 rw [Wn,zV,w9]
 unfold xS at hb ⊢
 rcases hs with hs | hs | hs
 ·rw [beq_iff_eq.2 hs.1,if_pos hs.1]; rfl
 ·rw [beq_eq_false_iff_ne.2 (show x.kind ≠ 0 by omega),beq_iff_eq.2 hs.1,if_neg (by omega),if_pos hs.1]
  dsimp only [za,zb,zf,zpi,zj,zm,zq,zk,zs,zn,zK,zM,zL,pU8,zpg,zph,zi,zg,zc,zh,ze,zA,zv,zr,zo,zJ,zI,zF,zG,zH,len8,zD,zC,zt,zu]
  rw [Int.tdiv_eq_ediv_of_nonneg (by omega),w64 (x:=(x.data.length:Int) / 8) (by omega),w64 (by omega)]
  rw [show (x.data.length:Int) / 8 + (x.kids.length:Int) = ((x.data.length / 8 + x.kids.length:Nat):Int) by omega]
 ·rw [if_neg (by omega),if_neg (by omega)] at hb ⊢
  rw [beq_eq_false_iff_ne.2 (show x.kind ≠ 0 by omega),beq_eq_false_iff_ne.2 (show x.kind ≠ 1 by omega)]
  dsimp only [za,zb,zf,zpi,zj,zm,zq,zk,zs,zn,zK,zM,zL,pU8,zpg,zph,zi,zg,zc,zh,ze,zA,zv,zr,zo,zJ,zI,zF,zG,zH,len8,zD,zC,zt,zu]
  by_cases h7:x.elem = 7
  ·rw [if_pos h7] at hb ⊢
   rw [beq_iff_eq.2 h7]
   dsimp only [za,zb,zf,zpi,zj,zm,zq,zk,zs,zn,zK,zM,zL,pU8,zpg,zph,zi,zg,zc,zh,ze,zA,zv,zr,zo,zJ,zI,zF,zG,zH,len8,zD,zC,zt,zu]
   rw [hun]
   have hm:=Int.mul_nonneg hs.2.1.1 (Int.natCast_nonneg (yL x.kids + yP x.kids))
   dsimp only [za,zb,zf,zpi,zj,zm,zq,zk,zs,zn,zK,zM,zL,pU8,zpg,zph,zi,zg,zc,zh,ze,zA,zv,zr,zo,zJ,zI,zF,zG,zH,len8,zD,zC,zt,zu]
   rw [w64 (x:=((yL x.kids:Nat):Int) + ((yP x.kids:Nat):Int)) (by omega),show ((yL x.kids:Nat):Int) + ((yP x.kids:Nat):Int) = ((yL x.kids + yP x.kids:Nat):Int) by push_cast; rfl,w64 (x:=x.n * ((yL x.kids + yP x.kids:Nat):Int)) (by omega),w64 (by omega)]
  ·rw [if_neg h7]
   rw [beq_eq_false_iff_ne.2 h7,zf7 hs.2.2.1 hs.2.1]
   rfl
noncomputable def eqB {α:Type} (x y:α):Bool:=@decide (x = y) (Classical.propDecidable _)
theorem Ks {α:Type} {x y:α} (h:x = y):eqB x y = true:=by unfold eqB; exact @decide_eq_true _ (Classical.propDecidable _) h
theorem WU {α:Type} {x y:α} (h:¬ x = y):eqB x y = false:=by unfold eqB; exact @decide_eq_false _ (Classical.propDecidable _) h
theorem zdd {α β:Type} {x y:α} {u v:β} (h:x = y ↔ u = v):eqB x y = eqB u v:=by
 by_cases hx:x = y
 ·rw [Ks hx,Ks (h.1 hx)]
 ·rw [WU hx,WU (fun e => hx (h.2 e))]
theorem zl7 {α:Type} {a b:List α} {i:Nat} (ha:i < a.length) (hb:i < b.length) (h:a.take i = b.take i) (e:a[i] = b[i]):a.take (i + 1) = b.take (i + 1):=by
 rw [vc ha,vc hb,h,e]
theorem zfK {d d':List Int} (hd:d.length ≤ 17592186044416) (hl:d.length = d'.length):∀ (c i:Nat),i + c = d.length → d.take i = d'.take i → yU (bs d) (bs d') i = ok (Bo (eqB d d')):=by
 intro c
 induction c with
 | zero =>
  intro i hi ht
  rw [List.take_of_length_le (by omega),List.take_of_length_le (by omega)] at ht
  rw [xu,decide_eq_false (by simp; omega),Ks ht]
  rfl
 | succ c ih =>
  intro i hi ht
  rw [xu,decide_eq_true (show (i:Int) < ((bs d).length:Int) by simp; omega),decide_eq_true (show 0 ≤ (i:Int) by omega),decide_eq_true (show (i:Int) < ((bs d').length:Int) by simp; omega)]
  dsimp only [za,zb,zf,zpi,zj,zm,zq,zk,zs,zn,zK,zM,zL,pU8,zpg,zph,zi,zg,zc,zh,ze,zA,zv,zr,zo,zJ,zI,zF,zG,zH,len8,zD,zC,zt,zu]
  rw [Int.toNat_natCast,Kb (l:=d) (by omega)]
  dsimp only [za,zb,zf,zpi,zj,zm,zq,zk,zs,zn,zK,zM,zL,pU8,zpg,zph,zi,zg,zc,zh,ze,zA,zv,zr,zo,zJ,zI,zF,zG,zH,len8,zD,zC,zt,zu]
  rw [Kb (l:=d') (by omega)]
  dsimp only [za,zb,zf,zpi,zj,zm,zq,zk,zs,zn,zK,zM,zL,pU8,zpg,zph,zi,zg,zc,zh,ze,zA,zv,zr,zo,zJ,zI,zF,zG,zH,len8,zD,zC,zt,zu]
  by_cases he:d[i] = d'[i]
  ·rw [show (d[i] != d'[i]) = false from by simpa using he,w64 (x:=(i:Int) + 1) (by omega)]
   exact ih (i + 1) (by omega) (zl7 (by omega) (by omega) ht he)
  ·rw [bne_iff_ne.2 he,WU (fun h => he (by subst h; rfl))]
   rfl
theorem zkI {d d':List Int} (hd:d.length ≤ 17592186044416) (hd':d'.length ≤ 17592186044416):ev 27 [.pv (.sl 1 (bs d)),.pv (.sl 1 (bs d'))] [] = ok (Bo (eqB d d')):=by
 rw [wW,zV,zV]
 by_cases hl:d.length = d'.length
 ·rw [show ((d.length:Int) != (d'.length:Int)) = false from by simp; omega]
  exact zfK hd hl d.length 0 (by omega) (by rw [List.take_zero,List.take_zero])
 ·rw [show ((d.length:Int) != (d'.length:Int)) = true from by simp; omega,WU (fun h => hl (by rw [h]))]
  rfl
def Jt (l:List Int):List Int:=l.take (ww (· == 0) l)
theorem zbM (l:List Int) (x:Int):Jt (l ++ [x]) = if x = 0 then Jt l else l ++ [x]:=by
 unfold Jt
 rw [yV]
 by_cases h:x = 0
 ·subst h
  rw [if_pos (by rfl),if_pos rfl,List.take_append_of_le_length (wF _ _)]
 ·rw [if_neg (by simpa using h),if_neg h,List.take_of_length_le (by simp)]
theorem JT:∀ (n:Nat) (l:List Int),Jt (l ++ List.replicate n 0) = Jt l
 | 0,l => by simp
 | n + 1,l => by rw [List.replicate_succ',← List.append_assoc,zbM,if_pos rfl,JT n l]
theorem zd5 (l:List Int):∃ n,l = Jt l ++ List.replicate n 0:=by
 induction hn:l.length generalizing l with
 | zero => have:=List.length_eq_zero_iff.1 hn; subst this; exact ⟨0,rfl⟩
 | succ n ih =>
  rcases List.eq_nil_or_concat l with rfl | ⟨l',x,rfl⟩
  ·exact ⟨0,rfl⟩
  ·rw [List.concat_eq_append] at hn ⊢
   rw [zbM]
   by_cases h:x = 0
   ·subst h
    obtain ⟨m,hm⟩:=ih l' (by simpa using hn)
    refine ⟨m + 1,?_⟩
    rw [if_pos rfl,List.replicate_succ',← List.append_assoc,← hm]
   ·rw [if_neg h]
    exact ⟨0,by simp⟩
theorem zd6 {a b:List Int} (h:Jt a = Jt b) (i:Nat):a.getD i 0 = b.getD i 0:=by
 obtain ⟨n,hn⟩:=zd5 a
 obtain ⟨m,hm⟩:=zd5 b
 have key:∀ (c:List Int) (n i:Nat),(c ++ List.replicate n 0).getD i 0 = c.getD i 0:=fun c n i => by
  simp only [List.getD_eq_getElem?_getD]
  rcases Nat.lt_or_ge i c.length with h | h
  ·rw [List.getElem?_append_left h]
  ·rw [List.getElem?_append_right h,List.getElem?_eq_none h,List.getElem?_replicate]
   split <;> rfl
 rw [hn,hm,key,key,h]
theorem zc7 {a b:List Int} (hl:a.length ≤ b.length) (h:∀ i,a.getD i 0 = b.getD i 0):Jt a = Jt b:=by
 have:b = a ++ List.replicate (b.length - a.length) 0:=by
  apply List.ext_getElem
  ·simp; omega
  ·intro i h1 h2
   have:=h i
   simp only [List.getD_eq_getElem?_getD,List.getElem?_eq_getElem h1,Option.getD_some] at this
   rw [← this]
   rcases Nat.lt_or_ge i a.length with h3 | h3
   ·rw [List.getElem_append_left h3,List.getElem?_eq_getElem h3]; rfl
   ·rw [List.getElem_append_right h3,List.getElem?_eq_none h3]; simp
 rw [this,JT]
theorem zbN {a b:List Int} (hb:b.length ≤ 17592186044416) (hl:a.length ≤ b.length):∀ (c i:Nat),i + c = b.length → (∀ j,j < i → a.getD j 0 = b.getD j 0) → xa (ws a) (ws b) b.length i = ok (Bo (eqB (Jt a) (Jt b))):=by
 intro c
 induction c with
 | zero =>
  intro i hi ht
  rw [YV,decide_eq_false (by omega),Ks (zc7 hl fun j => by
   rcases Nat.lt_or_ge j i with h | h
   ·exact ht j h
   ·simp only [List.getD_eq_getElem?_getD]
    rw [List.getElem?_eq_none (by omega),List.getElem?_eq_none (by omega)])]
  rfl
 | succ c ih =>
  intro i hi ht
  have hib:i < b.length:=by omega
  have hgb:b.getD i 0 = b[i]:=by simp only [List.getD_eq_getElem?_getD,List.getElem?_eq_getElem hib]; rfl
  have next:a.getD i 0 = b.getD i 0 → xa (ws a) (ws b) b.length ((i:Int) + 1) = ok (Bo (eqB (Jt a) (Jt b))):=fun he => ih (i + 1) (by omega) fun j hj => by
   rcases Nat.lt_or_ge j i with h | h
   ·exact ht j h
   ·rw [show j = i by omega]; exact he
  rw [YV,decide_eq_true (show (i:Int) < (b.length:Int) by omega),decide_eq_true (show 0 ≤ (i:Int) by omega),ym,ym,decide_eq_true (show (i:Int) < (b.length:Int) by omega)]
  dsimp only [za,zb,zf,zpi,zj,zm,zq,zk,zs,zn,zK,zM,zL,pU8,zpg,zph,zi,zg,zc,zh,ze,zA,zv,zr,zo,zJ,zI,zF,zG,zH,len8,zD,zC,zt,zu]
  rw [Int.toNat_natCast,Y2 hib]
  dsimp only [za,zb,zf,zpi,zj,zm,zq,zk,zs,zn,zK,zM,zL,pU8,zpg,zph,zi,zg,zc,zh,ze,zA,zv,zr,zo,zJ,zI,zF,zG,zH,len8,zD,zC,zt,zu]
  rw [w64 (x:=(i:Int) + 1) (by omega)]
  by_cases hia:i < a.length
  ·have hga:a.getD i 0 = a[i]:=by simp only [List.getD_eq_getElem?_getD,List.getElem?_eq_getElem hia]; rfl
   rw [decide_eq_true (show (i:Int) < (a.length:Int) by omega),Y2 hia,decide_eq_false (show ¬ (i:Int) ≥ (a.length:Int) by omega)]
   dsimp only [za,zb,zf,zpi,zj,zm,zq,zk,zs,zn,zK,zM,zL,pU8,zpg,zph,zi,zg,zc,zh,ze,zA,zv,zr,zo,zJ,zI,zF,zG,zH,len8,zD,zC,zt,zu]
   by_cases he:a[i] = b[i]
   ·rw [show (a[i] != b[i]) = false from by simpa using he]
    exact next (by rw [hga,hgb,he])
   ·rw [bne_iff_ne.2 he,WU (fun h => he (by have:=zd6 h i; rw [hga,hgb] at this; exact this))]
    rfl
  ·have hga:a.getD i 0 = 0:=by simp only [List.getD_eq_getElem?_getD]; rw [List.getElem?_eq_none (by omega)]; rfl
   rw [decide_eq_false (show ¬ (i:Int) < (a.length:Int) by omega),decide_eq_true (show (i:Int) ≥ (a.length:Int) by omega)]
   dsimp only [za,zb,zf,zpi,zj,zm,zq,zk,zs,zn,zK,zM,zL,pU8,zpg,zph,zi,zg,zc,zh,ze,zA,zv,zr,zo,zJ,zI,zF,zG,zH,len8,zD,zC,zt,zu]
   by_cases he:b[i] = 0
   ·rw [show (b[i] != 0) = false from by simpa using he]
    exact next (by rw [hga,hgb,he])
   ·rw [Yy he,WU (fun h => he (by have:=zd6 h i; rw [hga,hgb] at this; exact this.symm))]
    rfl
theorem zi4 {α:Type} (x y:α):eqB x y = eqB y x:=zdd ⟨Eq.symm,Eq.symm⟩
theorem zmz {a b:List Int} (ha:a.length ≤ 17592186044416) (hb:b.length ≤ 17592186044416):ev 237 [.pv (.sl 1 (ws a)),.pv (.sl 1 (ws b))] [] = ok (Bo (eqB (Jt a) (Jt b))):=by
 rw [zaK,ym,ym]
 by_cases hl:a.length < b.length
 ·rw [decide_eq_true (show (a.length:Int) < (b.length:Int) by omega)]
  exact zbN hb (by omega) b.length 0 (by omega) (fun j h => absurd h (by omega))
 ·rw [decide_eq_false (show ¬ (a.length:Int) < (b.length:Int) by omega),zi4]
  exact zbN ha (by omega) a.length 0 (by omega) (fun j h => absurd h (by omega))
theorem zb7 {α:Type} (p:α → Bool) (a:List α):∀ b:List α,ww p (a ++ b) = if ww p b = 0 then ww p a else a.length + ww p b:=by
 intro b
 induction hn:b.length generalizing b with
 | zero => have:=List.length_eq_zero_iff.1 hn; subst this; rw [List.append_nil,if_pos (by rfl)]
 | succ n ih =>
  rcases List.eq_nil_or_concat b with rfl | ⟨b',x,rfl⟩
  ·rw [List.append_nil,if_pos (by rfl)]
  ·rw [List.concat_eq_append] at hn ⊢
   rw [← List.append_assoc,yV,yV,ih b' (by simpa using hn)]
   by_cases hp:p x = true
   ·rw [if_pos hp,if_pos hp]
   ·rw [if_neg hp,if_neg hp,if_neg (by omega),zpj]
    omega
theorem ziQ (u:List Int) (x:Int):byt (u ++ [x]) = byt u ++ w8 x:=by simp [byt]
theorem zcL {w:Int} (h:xI w):w = w / 256 ^ 0 % 256 + 256 * (w / 256 ^ 1 % 256) + 65536 * (w / 256 ^ 2 % 256) + 16777216 * (w / 256 ^ 3 % 256) + 4294967296 * (w / 256 ^ 4 % 256) + 1099511627776 * (w / 256 ^ 5 % 256) + 281474976710656 * (w / 256 ^ 6 % 256) + 72057594037927936 * (w / 256 ^ 7 % 256):=by
 obtain ⟨h1,h2⟩:=h
 simp only [show (256:Int) ^ 0 = 1 from rfl,show (256:Int) ^ 1 = 256 from rfl,show (256:Int) ^ 2 = 65536 from rfl,show (256:Int) ^ 3 = 16777216 from rfl,show (256:Int) ^ 4 = 4294967296 from rfl,show (256:Int) ^ 5 = 1099511627776 from rfl,show (256:Int) ^ 6 = 281474976710656 from rfl,show (256:Int) ^ 7 = 72057594037927936 from rfl]
 omega
theorem VY (w:Int):w8 w = [w / 256 ^ 0 % 256,w / 256 ^ 1 % 256,w / 256 ^ 2 % 256,w / 256 ^ 3 % 256,w / 256 ^ 4 % 256,w / 256 ^ 5 % 256,w / 256 ^ 6 % 256,w / 256 ^ 7 % 256]:=rfl
theorem znL {a b:Int} (ha:xI a) (hb:xI b) (h:w8 a = w8 b):a = b:=by
 rw [VY,VY] at h
 simp only [List.cons.injEq,and_true] at h
 obtain ⟨e0,e1,e2,e3,e4,e5,e6,e7⟩:=h
 rw [zcL ha,zcL hb,e0,e1,e2,e3,e4,e5,e6,e7]
theorem zmi {x:Int} (hx:xI x):(x = 0 → ww (· == 0) (w8 x) = 0) ∧ (x ≠ 0 → 1 ≤ ww (· == 0) (w8 x) ∧ ww (· == 0) (w8 x) ≤ 8):=by
 refine ⟨fun h => by subst h; rfl,fun h => ⟨?_,?_⟩⟩
 ·by_cases h0:ww (· == 0) (w8 x) = 0
  ·exfalso
   apply h
   have hall:∀ y ∈ w8 x,y = 0:=by
    have key:∀ (l:List Int),ww (· == 0) l = 0 → ∀ y ∈ l,y = 0:=by
     intro l
     induction hn:l.length generalizing l with
     | zero => have:=List.length_eq_zero_iff.1 hn; subst this; intro _ y hy; cases hy
     | succ n ih =>
      rcases List.eq_nil_or_concat l with rfl | ⟨l',z,rfl⟩
      ·intro _ y hy; cases hy
      ·rw [List.concat_eq_append] at hn ⊢
       rw [yV]
       intro hk y hy
       split at hk
       ·rename_i hz
        rcases List.mem_append.1 hy with h1 | h1
        ·exact ih l' (by simpa using hn) hk y h1
        ·rw [List.mem_singleton.1 h1]; simpa using hz
       ·omega
    exact key _ h0
   rw [zcL hx]
   rw [VY] at hall
   simp only [List.mem_cons,List.not_mem_nil,or_false,forall_eq_or_imp,forall_eq] at hall
   obtain ⟨e0,e1,e2,e3,e4,e5,e6,e7⟩:=hall
   rw [e0,e1,e2,e3,e4,e5,e6,e7]
   rfl
  ·omega
 ·have:=wF (· == 0) (w8 x)
  rw [xA] at this
  exact this
theorem zfN:∀ (u:List Int),(∀ x ∈ u,xI x) → yz (byt u) = ww (· == 0) u:=by
 intro u
 induction hn:u.length generalizing u with
 | zero => have:=List.length_eq_zero_iff.1 hn; subst this; intro _; rfl
 | succ n ih =>
  rcases List.eq_nil_or_concat u with rfl | ⟨u',x,rfl⟩
  ·intro _; rfl
  ·rw [List.concat_eq_append] at hn ⊢
   intro hw
   have hx:=hw x (by simp)
   have hu:=ih u' (by simpa using hn) fun y hy => hw y (List.mem_append_left _ hy)
   obtain ⟨k1,k2⟩:=zmi hx
   unfold yz at hu ⊢
   rw [ziQ,zb7,yV]
   by_cases h0:x = 0
   ·rw [if_pos (k1 h0),hu,if_pos (by simpa using h0)]
   ·obtain ⟨a1,a2⟩:=k2 h0
    rw [if_neg (by omega),if_neg (by simpa using h0),yX]
    omega
theorem zdZ:∀ (u:List Int) (k:Nat),(byt u).take (8 * k) = byt (u.take k)
 | [],k => by simp [byt]
 | x :: u,0 => by simp [byt]
 | x :: u,k + 1 => by
  have e:byt (x :: u) = w8 x ++ byt u:=rfl
  rw [e,List.take_append,xA,List.take_of_length_le (by rw [xA]; omega),show 8 * (k + 1) - 8 = 8 * k by omega,zdZ u k,List.take_succ_cons]
  rfl
theorem zeY {u:List Int} (h:∀ x ∈ u,xI x):(byt u).take (8 * yz (byt u)) = byt (Jt u):=by
 rw [zfN u h,zdZ]
 rfl
theorem zgI:∀ {a b:List Int},(∀ x ∈ a,xI x) → (∀ x ∈ b,xI x) → byt a = byt b → a = b
 | [],[],_,_,_ => rfl
 | [],y :: b,_,_,h => by have:=congrArg List.length h; rw [yX,yX] at this; simp at this
 | x :: a,[],_,_,h => by have:=congrArg List.length h; rw [yX,yX] at this; simp at this
 | x :: a,y :: b,ha,hb,h => by
  have e:w8 x ++ byt a = w8 y ++ byt b:=h
  obtain ⟨e1,e2⟩:=List.append_inj e (by rw [xA,xA])
  rw [znL (ha x List.mem_cons_self) (hb y List.mem_cons_self) e1,zgI (fun z hz => ha z (List.mem_cons_of_mem _ hz)) (fun z hz => hb z (List.mem_cons_of_mem _ hz)) e2]
theorem Jg {x:Nd} (h:VN x) (hk:x.kind = 0):x = nd0:=by
 cases h with
 | mk v1 v2 v3 =>
  rename_i k e n d ks
  have hk':k = 0:=hk
  rcases v3 with ⟨a1,a2,a3,a4,a5⟩ | ⟨a1,_⟩ | ⟨a1,_⟩
  ·rw [a1,a2,a3,List.length_eq_zero_iff.1 a4,List.length_eq_zero_iff.1 a5]; rfl
  ·omega
  ·omega
theorem zd4:∀ (l:List Nd),(∀ x ∈ l,VN x) → ∃ n,l = l.take (xq l) ++ List.replicate n nd0:=by
 intro l
 induction hn:l.length generalizing l with
 | zero => have:=List.length_eq_zero_iff.1 hn; subst this; exact fun _ => ⟨0,rfl⟩
 | succ n ih =>
  rcases List.eq_nil_or_concat l with rfl | ⟨l',x,rfl⟩
  ·exact fun _ => ⟨0,rfl⟩
  ·rw [List.concat_eq_append] at hn ⊢
   intro hv
   obtain ⟨m,hm⟩:=ih l' (by simpa using hn) fun y hy => hv y (List.mem_append_left _ hy)
   have hle:=wF (fun x:Nd => x.kind == 0) l'
   unfold xq at hm ⊢
   rw [yV]
   by_cases h:x.kind = 0
   ·rw [if_pos (by simpa using h),List.take_append_of_le_length hle]
    refine ⟨m + 1,?_⟩
    rw [List.replicate_succ',← List.append_assoc,← hm,Jg (hv x (by simp)) h]
   ·rw [if_neg (by simpa using h),List.take_of_length_le (by simp)]
    exact ⟨0,by simp⟩
theorem zej (c:List Nd) (n i:Nat):(c ++ List.replicate n nd0).getD i nd0 = c.getD i nd0:=by
 simp only [List.getD_eq_getElem?_getD]
 rcases Nat.lt_or_ge i c.length with h | h
 ·rw [List.getElem?_append_left h]
 ·rw [List.getElem?_append_right h,List.getElem?_eq_none h,List.getElem?_replicate]
  split <;> rfl
theorem KS (c:List Nd):∀ n,(c ++ List.replicate n nd0).take (xq (c ++ List.replicate n nd0)) = c.take (xq c)
 | 0 => by simp
 | n + 1 => by
  have ih:=KS c n
  have hle:=wF (fun x:Nd => x.kind == 0) (c ++ List.replicate n nd0)
  unfold xq at ih ⊢
  rw [List.replicate_succ',← List.append_assoc,yV,if_pos (by rfl),List.take_append_of_le_length hle,ih]
theorem Kj {a b:List Nd} (hl:a.length ≤ b.length) (h:∀ i,i < b.length → a.getD i nd0 = b.getD i nd0):a.take (xq a) = b.take (xq b):=by
 have:b = a ++ List.replicate (b.length - a.length) nd0:=by
  apply List.ext_getElem
  ·simp; omega
  ·intro i h1 h2
   have:=h i h1
   simp only [List.getD_eq_getElem?_getD,List.getElem?_eq_getElem h1,Option.getD_some] at this
   rw [← this]
   rcases Nat.lt_or_ge i a.length with h3 | h3
   ·rw [List.getElem_append_left h3,List.getElem?_eq_getElem h3]; rfl
   ·rw [List.getElem_append_right h3,List.getElem?_eq_none h3]; simp
 rw [this,KS]
theorem ziV {a b:List Nd} (ha:∀ x ∈ a,VN x) (hb:∀ x ∈ b,VN x) {q:Nat} (hq:a.length ≤ q) (hq':b.length ≤ q):a.take (xq a) = b.take (xq b) ↔ ∀ i,i < q → a.getD i nd0 = b.getD i nd0:=by
 constructor
 ·intro h i _
  obtain ⟨n,hn⟩:=zd4 a ha
  obtain ⟨m,hm⟩:=zd4 b hb
  rw [hn,hm,zej,zej,h]
 ·intro h
  rcases Nat.le_total a.length b.length with hl | hl
  ·exact Kj hl fun i hi => h i (by omega)
  ·exact (Kj hl fun i hi => (h i (by omega)).symm).symm
theorem zes {G:Int → Nat → Nd × Int × Int}:∀ c i m acc,(yB G c i m acc).2.2 = 0 → ∃ l',(yB G c i m acc).1 = acc ++ l' ∧ l'.length = c ∧ ∀ (j:Nat) (h:j < l'.length),∃ m1,(G m1 (i + j)).2.2 = 0 ∧ (G m1 (i + j)).1 = l'[j]:=by
 intro c
 induction c with
 | zero => intro i m acc _; exact ⟨[],by simp [yB],rfl,fun j h => absurd h (by simp)⟩
 | succ c ih =>
  intro i m acc hz
  by_cases h0:(G m i).2.2 = 0
  ·rw [W1 h0] at hz ⊢
   obtain ⟨l',e1,e2,e3⟩:=ih _ _ _ hz
   refine ⟨(G m i).1 :: l',by rw [e1,List.append_assoc]; rfl,by simp [e2],fun j h => ?_⟩
   cases j with
   | zero => exact ⟨m,h0,rfl⟩
   | succ j =>
    obtain ⟨m1,f1,f2⟩:=e3 j (by simpa using h)
    refine ⟨m1,?_,?_⟩
    ·rw [show i + (j + 1) = i + 1 + j by omega]; exact f1
    ·rw [show i + (j + 1) = i + 1 + j by omega]; exact f2
  ·rw [Xl h0] at hz
   exact absurd hz h0
def w8i (b:List Int):Int:=b.getD 0 0 + 256 * b.getD 1 0 + 65536 * b.getD 2 0 + 16777216 * b.getD 3 0 + 4294967296 * b.getD 4 0 + 1099511627776 * b.getD 5 0 + 281474976710656 * b.getD 6 0 + 72057594037927936 * b.getD 7 0
def xi:Nat → List Int → List Int
 | 0,_ => []
 | n + 1,b => w8i b :: xi n (b.drop 8)
@[simp] theorem yp:∀ (n:Nat) (b:List Int),(xi n b).length = n
 | 0,_ => rfl
 | n + 1,b => by simp [xi,yp n]
theorem z5 {b:List Int} (hb:∀ x ∈ b,yq x) (i:Nat):0 ≤ b.getD i 0 ∧ b.getD i 0 ≤ 255:=by
 rw [List.getD_eq_getElem?_getD]
 by_cases h:i < b.length
 ·rw [List.getElem?_eq_getElem h]; exact hb _ (List.getElem_mem h)
 ·rw [List.getElem?_eq_none (by omega)]; exact ⟨by simp,by simp⟩
theorem zj2 {b:List Int} (hb:∀ x ∈ b,yq x):xI (w8i b):=by
 have h0:=z5 hb 0
 have h1:=z5 hb 1
 have h2:=z5 hb 2
 have h3:=z5 hb 3
 have h4:=z5 hb 4
 have h5:=z5 hb 5
 have h6:=z5 hb 6
 have h7:=z5 hb 7
 unfold w8i xI
 omega
theorem vj:∀ (n:Nat) {b:List Int},(∀ x ∈ b,yq x) → ∀ w ∈ xi n b,xI w
 | 0,b,hb,w,hw => by cases hw
 | n + 1,b,hb,w,hw => by
  rw [xi] at hw
  rcases List.mem_cons.1 hw with rfl | hw
  ·exact zj2 hb
  ·exact vj n (fun x hx => hb x (List.mem_of_mem_drop hx)) w hw
theorem take8:∀ b:List Int,[b.getD 0 0,b.getD 1 0,b.getD 2 0,b.getD 3 0,b.getD 4 0,b.getD 5 0,b.getD 6 0,b.getD 7 0] = b.take 8 ++ List.replicate (8 - b.length) 0
 | [] => rfl
 | [_] => rfl
 | [_,_] => rfl
 | [_,_,_] => rfl
 | [_,_,_,_] => rfl
 | [_,_,_,_,_] => rfl
 | [_,_,_,_,_,_] => rfl
 | [_,_,_,_,_,_,_] => rfl
 | _ :: _ :: _ :: _ :: _ :: _ :: _ :: _ :: r => by
  rw [show 8 - (_ :: _ :: _ :: _ :: _ :: _ :: _ :: _ :: r:List Int).length = 0 by simp]
  simp
theorem znM {b:List Int} (hb:∀ x ∈ b,yq x):w8 (w8i b) = b.take 8 ++ List.replicate (8 - b.length) 0:=by
 rw [← take8,VY]
 have h0:=z5 hb 0
 have h1:=z5 hb 1
 have h2:=z5 hb 2
 have h3:=z5 hb 3
 have h4:=z5 hb 4
 have h5:=z5 hb 5
 have h6:=z5 hb 6
 have h7:=z5 hb 7
 unfold w8i
 simp only [Int.reducePow,Int.pow_zero,Int.pow_succ,Int.reduceMul,List.cons.injEq,and_true]
 refine ⟨?_,?_,?_,?_,?_,?_,?_,?_⟩ <;> omega
theorem QF:∀ (n:Nat) {b:List Int},(∀ x ∈ b,yq x) → b.length ≤ 8 * n → byt (xi n b) = b ++ List.replicate (8 * n - b.length) 0
 | 0,b,hb,hl => by
  have:b = []:=List.length_eq_zero_iff.1 (by omega)
  subst this
  rfl
 | n + 1,b,hb,hl => by
  have e:byt (xi (n + 1) b) = w8 (w8i b) ++ byt (xi n (b.drop 8)):=rfl
  rw [e,znM hb,QF n (fun x hx => hb x (List.mem_of_mem_drop hx)) (by rw [List.length_drop]; omega),List.length_drop]
  by_cases h:b.length ≤ 8
  ·rw [List.take_of_length_le h,List.drop_eq_nil_of_le h,zpl,List.append_assoc,List.replicate_append_replicate]
   congr 2
   omega
  ·rw [show 8 - b.length = 0 by omega,List.replicate_zero,List.append_nil,← List.append_assoc,List.take_append_drop]
   congr 2
   omega
def Zn (off:Int) (d q:Nat):Int:=off % 1073741824 * 4 + d * 4294967296 + q * 281474976710656
def XS (off e c:Int):Int:=off % 1073741824 * 4 + 1 + e * 4294967296 + c * 34359738368
theorem WS {off:Int} {d q:Nat} (ho:-536870912 ≤ off ∧ off ≤ 536870911) (hd:d ≤ 65535) (hq:q ≤ 65535):ZB (Zn off d q) = (0,off,(d:Int),(q:Int),0,0,false,0,0,0) ∧ xI (Zn off d q) ∧ Zn off d q % 4 = 0:=by
 have hm:=Int.emod_nonneg off (show (1073741824:Int) ≠ 0 by decide)
 have hl:=Int.emod_lt_of_pos off (show (0:Int) < 1073741824 by decide)
 have h4:Zn off d q % 4 = 0:=by unfold Zn; omega
 refine ⟨?_,⟨by unfold Zn; omega,by unfold Zn; omega⟩,h4⟩
 unfold ZB
 rw [if_pos h4]
 have e1:Zn off d q / 4 % 1073741824 = off % 1073741824:=by unfold Zn; omega
 have e2:Zn off d q / 4294967296 % 65536 = d:=by unfold Zn; omega
 have e3:Zn off d q / 281474976710656 % 65536 = q:=by unfold Zn; omega
 rw [e1,e2,e3]
 have e4:Qv (off % 1073741824) = off:=by unfold Qv; split <;> omega
 rw [e4]
theorem WR {off e c:Int} (ho:-536870912 ≤ off ∧ off ≤ 536870911) (he:0 ≤ e ∧ e ≤ 7) (hc:0 ≤ c ∧ c ≤ 536870911):ZB (XS off e c) = (1,off,0,0,e,c,false,0,0,0) ∧ xI (XS off e c) ∧ XS off e c % 4 = 1:=by
 have hm:=Int.emod_nonneg off (show (1073741824:Int) ≠ 0 by decide)
 have hl:=Int.emod_lt_of_pos off (show (0:Int) < 1073741824 by decide)
 have h4:XS off e c % 4 = 1:=by unfold XS; omega
 refine ⟨?_,⟨by unfold XS; omega,by unfold XS; omega⟩,h4⟩
 unfold ZB
 rw [if_neg (by omega),if_pos h4]
 have e1:XS off e c / 4 % 1073741824 = off % 1073741824:=by unfold XS; omega
 have e2:XS off e c / 4294967296 % 8 = e:=by unfold XS; omega
 have e3:XS off e c / 34359738368 % 536870912 = c:=by unfold XS; omega
 rw [e1,e2,e3]
 have e4:Qv (off % 1073741824) = off:=by unfold Qv; split <;> omega
 rw [e4]
def uni (x:Nd):Nat:=yL x.kids + yP x.kids
def W9 (x:Nd) (off:Int):Int :=
 if x.kind = 0 then 0 else if x.kind = 1 then (if x.data.length / 8 = 0 ∧ x.kids.length = 0 then Zn (-1) 0 0 else Zn off (x.data.length / 8) x.kids.length)
 else if x.elem = 7 then XS off 7 (x.n * (uni x:Nat)) else XS off x.elem x.n
def Qq (B:Nd → List Int):Nat → Nat → List Nd → List Int
 | _,_,[] => []
 | i,pos,t :: r => W9 t ((pos:Int) - i - 1) :: Qq B (i + 1) (pos + (B t).length) r
def zkc (B:Nd → List Int) (ts:List Nd):Nat:=(ts.flatMap B).length
def zav (B:Nd → List Int) (a b:Nat):Nat → Nat → List Nd → List Int
 | _,_,[] => []
 | i,pos,k :: r => (xi a k.data ++ (Qq B (i + a) pos k.kids ++ List.replicate (b - k.kids.length) 0)) ++ zav B a b (i + (a + b)) (pos + zkc B k.kids) r
def obW (B:Nd → List Int) (x:Nd):List Int :=
 if x.kind = 1 then xi (x.data.length / 8) x.data ++ Qq B (x.data.length / 8) (x.data.length / 8 + x.kids.length) x.kids
 else if x.elem = 7 then Zn x.n (yL x.kids) (yP x.kids) :: zav B (yL x.kids) (yP x.kids) 1 (1 + x.kids.length * uni x) x.kids
 else if x.elem = 6 then Qq B 0 x.kids.length x.kids
 else xi (z4 x.elem x.n).toNat x.data
def body:Nat → Nd → List Int
 | 0,_ => []
 | D + 1,x => if x.kind = 0 then [] else obW (body D) x ++ (tgt x).flatMap (body D)
def QG (D:Nat) (x:Nd):List Int:=W9 x 0 :: body D x
@[simp] theorem Zi (B:Nd → List Int):∀ (i pos:Nat) (l:List Nd),(Qq B i pos l).length = l.length
 | _,_,[] => rfl
 | i,pos,t :: r => by simp [Qq,Zi B]
theorem QE (B:Nd → List Int) (a b:Nat):∀ (i pos:Nat) (l:List Nd),(∀ k ∈ l,k.kids.length ≤ b) → (zav B a b i pos l).length = l.length * (a + b)
 | _,_,[],_ => by simp [zav]
 | i,pos,k :: r,h => by
  have h1:=h k List.mem_cons_self
  have h2:=QE B a b (i + (a + b)) (pos + zkc B k.kids) r fun x hx => h x (List.mem_cons_of_mem _ hx)
  simp only [zav,zpj,yp,Zi,List.length_replicate,h2,zpk]
  rw [Nat.add_mul]
  omega
theorem XP {l:List Nd} {x:Nd} (h:x ∈ l):x.kids.length ≤ yP l:=by
 unfold yP
 induction l with
 | nil => cases h
 | cons y l ih =>
  rw [List.foldr_cons]
  rcases List.mem_cons.1 h with rfl | h
  ·omega
  ·have:=ih h; omega
theorem zhs (B:Nd → List Int) {x:Nd} (hv:VN x) (h0:x.kind ≠ 0):((obW B x).length:Int) = xS x:=by
 obtain ⟨hs,_⟩:=ZY hv
 unfold obW xS
 rw [if_neg h0]
 rcases hs with hs | hs | hs
 ·exact absurd hs.1 h0
 ·rw [if_pos hs.1,if_pos hs.1,zpj,yp,Zi]
 ·have hk1:¬ x.kind = 1:=by omega
  rw [if_neg hk1,if_neg hk1]
  by_cases h7:x.elem = 7
  ·rw [if_pos h7,if_pos h7,zpk,QE _ _ _ _ _ _ (fun k hk => XP hk),← (hs.2.2.2.1 (by omega)).2]
   push_cast
   omega
  ·rw [if_neg h7,if_neg h7]
   by_cases h6:x.elem = 6
   ·rw [if_pos h6,Zi,h6]
    have:=(hs.2.2.2.1 (by omega)).2
    unfold z4 bitsOf
    rw [if_neg (by decide)]
    simp
    omega
   ·rw [if_neg h6,yp]
    have:=(xO (e:=x.elem) hs.2.1).1
    omega
theorem zeV (B:Nd → List Int) (S:Nd → Int):∀ (l:List Nd),(∀ t ∈ l,((B t).length:Int) = S t) → ((l.flatMap B).length:Int) = yK (l.map S)
 | [],_ => rfl
 | t :: l,h => by
  rw [List.flatMap_cons,zpj,List.map_cons,yR,← h t List.mem_cons_self,← zeV B S l fun x hx => h x (List.mem_cons_of_mem _ hx)]
  push_cast
  rfl
theorem Wg {x:Nd} (hv:VN x):∀ t ∈ tgt x,VN t:=by
 obtain ⟨_,hk⟩:=ZY hv
 intro t ht
 unfold tgt at ht
 split at ht
 ·obtain ⟨k,hk1,hk2⟩:=List.mem_flatMap.1 ht
  exact (ZY (hk k hk1)).2 t hk2
 ·exact hk t ht
theorem VD {x:Nd} (h:x.kind = 0):xS x = 0:=by unfold xS; rw [if_pos h]
theorem zjR {x:Nd} (hv:VN x) (h:x.kind = 0):tgt x = []:=by rw [Jg hv h]; rfl
theorem Zo {x:Nd} (hv:VN x) (h:x.kind = 0):∀ D,yh D x = 0
 | 0 => VD h
 | D + 1 => by rw [yh,zjR hv h,VD h]; rfl
theorem zdY:∀ (D:Nat) {x:Nd},VN x → Dp D x → ((body D x).length:Int) = yh D x
 | 0,x,hv,hd => by
  have:x.kind = 0:=hd
  rw [Zo hv this]
  rfl
 | D + 1,x,hv,hd => by
  rw [body]
  by_cases h0:x.kind = 0
  ·rw [if_pos h0,Zo hv h0]; rfl
  ·have hd':=hd.resolve_left h0
   rw [if_neg h0,yh,zpj,← zhs (body D) hv h0,← zeV (body D) (yh D) (tgt x) fun t ht => zdY D (Wg hv t ht) (hd'.2 t ht)]
   push_cast
   rfl
def At (W:List Int) (p:Nat) (L:List Int):Prop:=∃ A C,W = A ++ (L ++ C) ∧ A.length = p
theorem At.app {W L M:List Int} {p:Nat} (h:At W p (L ++ M)):At W p L ∧ At W (p + L.length) M:=by
 obtain ⟨A,C,rfl,rfl⟩:=h
 exact ⟨⟨A,M ++ C,by simp,rfl⟩,⟨A ++ L,C,by simp,by simp⟩⟩
theorem At.len {W L:List Int} {p:Nat} (h:At W p L):p + L.length ≤ W.length:=by
 obtain ⟨A,C,rfl,rfl⟩:=h
 simp
theorem zdu (W:List Int):rdL [W] 0 = W:=rfl
theorem At.inB {W L:List Int} {p:Nat} (h:At W p L) {n:Int} (hn:n = L.length):inB [W] 0 p n:=by
 have:=h.len
 refine ⟨Int.le_refl _,by simp,by omega,by omega,?_⟩
 rw [zdu]
 omega
theorem At.cutB {W L:List Int} {p:Nat} (h:At W p L) {n:Int} (hn:n = L.length):cutB [W] 0 p n = L:=by
 unfold E.cutB
 rw [if_pos (h.inB hn)]
 obtain ⟨A,C,rfl,rfl⟩:=h
 unfold cut
 rw [zdu,hn]
 simp
theorem At.cons {W L:List Int} {x:Int} {p:Nat} (h:At W p (x :: L)):wd [W] 0 p = x ∧ E.inB [W] 0 p 1 ∧ At W (p + 1) L:=by
 have h1:At W p ([x] ++ L):=h
 obtain ⟨a1,a2⟩:=h1.app
 refine ⟨?_,a1.inB rfl,a2⟩
 obtain ⟨A,C,rfl,rfl⟩:=h
 unfold wd rd
 rw [zdu,List.getD_eq_getElem?_getD]
 simp
theorem At.head {W L:List Int} {x:Int} {p:Nat} (h:At W p (x :: L)):At W p [x]:=(show At W p ([x] ++ L) from h).app.1
theorem zeh {W:List Int} {x:Int} {a:Nat} (h:At W a [x]) (h4:x % 4 ≠ 2):fol [W] 0 a = (x,(0:Int),(a:Int) + 1,(0:Int)):=by
 obtain ⟨h1,h2,_⟩:=h.cons
 unfold fol
 rw [if_pos h2,h1,if_neg h4]
theorem zdi (n:Nat):ww (fun x:Int => x == 0) (List.replicate n 0) = 0:=by
 unfold ww
 rw [List.reverse_replicate]
 induction n with
 | zero => rfl
 | succ n ih => rw [List.replicate_succ,List.dropWhile_cons]; simp
theorem zcN (d:List Int) (n:Nat):yz (d ++ List.replicate n 0) = yz d:=by
 unfold yz
 rw [zb7,if_pos (zdi n)]
theorem zl9 {d:List Int} {ks ys:List Nd} (h8:8 * yz d = d.length) (hq:xq ks = ks.length) (hb:∀ x ∈ d,yq x) {a:Nat} (ha:d.length ≤ 8 * a) (z:Nat) (hy:ys.map zU = ks):zU (.mk 1 0 0 (byt (xi a d)) (ys ++ List.replicate z nd0)) = .mk 1 0 0 d ks:=by
 have e1:Yt (ys ++ List.replicate z nd0) = ks ++ List.replicate z nd0:=by
  rw [yw,List.map_append,hy,List.map_replicate,zai]
 rw [zU,if_pos rfl,QF a hb ha,zcN,h8,List.take_left,← KR,e1,KS,hq,List.take_length]
def zdo (x:Nd):Int:=xS x + (if x.kind = 2 ∧ x.elem = 7 ∧ uni x = 0 then x.n else 0)
def vI:Nat → Nd → Int
 | 0,_ => 0
 | D + 1,x => if x.kind = 0 then 0 else zdo x + yK ((tgt x).map (vI D))
theorem zlK {x:Nd} (hv:VN x):0 ≤ zdo x:=by
 have:=XI hv
 obtain ⟨hs,_⟩:=ZY hv
 unfold zdo
 split
 ·rename_i h
  rcases hs with hs | hs | hs
  ·omega
  ·omega
  ·omega
 ·omega
theorem Vu:∀ (D:Nat) {x:Nd},VN x → 0 ≤ vI D x
 | 0,x,_ => Int.le_refl _
 | D + 1,x,hv => by
  rw [vI]
  split
  ·exact Int.le_refl _
  ·have:=zlK hv
   have:=wg (l:=(tgt x).map (vI D)) fun y hy => by
    obtain ⟨t,ht,rfl⟩:=List.mem_map.1 hy
    exact Vu D (Wg hv t ht)
   omega
structure Ok (D:Nat) (t:Nd):Prop where
 vn:VN t
 tr:TrN t
 gd:Z5 t
 dp:Dp D t
section
variable {W:List Int} {F:Int → Int → Int → Nd × Int × Int} {B:Nd → List Int} {c:Nd → Int} {Q:Nd → Prop}
structure Rt (W:List Int) (F:Int → Int → Int → Nd × Int × Int) (B:Nd → List Int) (c:Nd → Int) (Q:Nd → Prop):Prop where
 one:∀ (t:Nd) (a q:Nat) (m:Int),Q t → At W q (B t) → At W a [W9 t ((q:Int) - a - 1)] → c t ≤ m → ∃ y,F m 0 a = (y,m - c t,0) ∧ zU y = t
 null:∀ (a:Nat) (m:Int),At W a [0] → F m 0 a = (nd0,m,0)
 nn:∀ t,Q t → 0 ≤ c t
theorem zcC (R:Rt W F B c Q) {ks:List Nd} (h:∀ t ∈ ks,Q t):0 ≤ yK (ks.map c):=wg fun y hy => by
 obtain ⟨t,ht,rfl⟩:=List.mem_map.1 hy
 exact R.nn t (h t ht)
theorem zdj (R:Rt W F B c Q) (p:Nat):∀ (ks:List Nd) (i0 pos c0:Nat) (m:Int) (acc:List Nd) (G:Int → Nat → Nd × Int × Int),(∀ m (j:Nat),G m (c0 + j) = F m 0 ((p + i0 + j:Nat):Int)) → (∀ t ∈ ks,Q t) →
  At W (p + i0) (Qq B i0 pos ks) → At W (p + pos) (ks.flatMap B) → yK (ks.map c) ≤ m → ∃ ys,yB G ks.length c0 m acc = (acc ++ ys,m - yK (ks.map c),0) ∧ ys.map zU = ks
 | [],i0,pos,c0,m,acc,G,hG,hQ,h1,h2,hm => ⟨[],by simp [yB,xB],rfl⟩
 | t :: r,i0,pos,c0,m,acc,G,hG,hQ,h1,h2,hm => by
  rw [Qq] at h1
  obtain ⟨_,_,h1t⟩:=h1.cons
  rw [List.flatMap_cons] at h2
  obtain ⟨h2h,h2t⟩:=h2.app
  rw [List.map_cons,yR] at hm
  have hr:=zcC R fun x hx => hQ x (List.mem_cons_of_mem _ hx)
  have ht:=R.nn t (hQ t List.mem_cons_self)
  obtain ⟨y,hy,hty⟩:=R.one t (p + i0) (p + pos) m (hQ t List.mem_cons_self) h2h (by
   rw [show ((p + pos:Nat):Int) - ((p + i0:Nat):Int) - 1 = (pos:Int) - i0 - 1 by omega]
   exact h1.head) (by omega)
  have e:G m c0 = (y,m - c t,0):=by
   have:=hG m 0
   rw [Nat.add_zero,Nat.add_zero] at this
   rw [this,hy]
  obtain ⟨ys,k1,k2⟩:=zdj R p r (i0 + 1) (pos + (B t).length) (c0 + 1) (m - c t) (acc ++ [y]) G (fun m j => by
   rw [Nat.add_assoc,Nat.add_comm 1 j,hG m (j + 1)]
   congr 2
   omega) (fun x hx => hQ x (List.mem_cons_of_mem _ hx)) (by rw [← Nat.add_assoc]; exact h1t) (by rw [← Nat.add_assoc]; exact h2t) (by omega)
  refine ⟨y :: ys,?_,by rw [List.map_cons,hty,k2]⟩
  rw [zpk,yB,e]
  dsimp only
  rw [if_pos rfl,k1,List.map_cons,yR,List.append_assoc,List.singleton_append,show m - c t - yK (r.map c) = m - (c t + yK (r.map c)) by omega]
theorem zb9 (R:Rt W F B c Q) (p:Nat):∀ (z i0 c0:Nat) (m:Int) (acc:List Nd) (G:Int → Nat → Nd × Int × Int),(∀ m (j:Nat),G m (c0 + j) = F m 0 ((p + i0 + j:Nat):Int)) → At W (p + i0) (List.replicate z 0) → yB G z c0 m acc = (acc ++ List.replicate z nd0,m,0)
 | 0,i0,c0,m,acc,G,hG,h1 => by simp [yB]
 | z + 1,i0,c0,m,acc,G,hG,h1 => by
  rw [List.replicate_succ] at h1
  obtain ⟨_,_,h1t⟩:=h1.cons
  have e:G m c0 = (nd0,m,0):=by
   have:=hG m 0
   rw [Nat.add_zero,Nat.add_zero] at this
   rw [this,R.null _ _ h1.head]
  rw [yB,e]
  dsimp only
  rw [if_pos rfl,zb9 R p z (i0 + 1) (c0 + 1) m _ G (fun m j => by
   rw [Nat.add_assoc,Nat.add_comm 1 j,hG m (j + 1)]
   congr 2
   omega) (by rw [← Nat.add_assoc]; exact h1t),List.replicate_succ,List.append_assoc,List.singleton_append]
theorem zb8 {G:Int → Nat → Nd × Int × Int}:∀ (c1 c2 i:Nat) (m m':Int) (acc l:List Nd),yB G c1 i m acc = (l,m',0) → yB G (c1 + c2) i m acc = yB G c2 (i + c1) m' l
 | 0,c2,i,m,m',acc,l,h => by
  rw [yB] at h
  cases h
  rw [Nat.zero_add,Nat.add_zero]
 | c1 + 1,c2,i,m,m',acc,l,h => by
  rw [yB] at h
  rw [show c1 + 1 + c2 = (c1 + c2) + 1 by omega,yB]
  split at h
  ·rename_i h0
   rw [if_pos h0,zb8 c1 c2 (i + 1) _ m' _ l h,show i + 1 + c1 = i + (c1 + 1) by omega]
  ·rename_i h0
   have:(G m i).2.2 = 0:=by injection h with _ h; injection h
   exact absurd this h0
theorem zba (R:Rt W F B c Q) (p:Nat) {d:List Int} {ks:List Nd} (h8:8 * yz d = d.length) (hq:xq ks = ks.length) (hb:∀ x ∈ d,yq x) {a z i0 pos:Nat} (ha:d.length ≤ 8 * a) (hQ:∀ t ∈ ks,Q t) {m:Int}
  (h1:At W (p + i0) (xi a d ++ (Qq B (i0 + a) pos ks ++ List.replicate z 0))) (h2:At W (p + pos) (ks.flatMap B)) (hm:yK (ks.map c) ≤ m) {o:Ob} (o1:o.seg = 0) (o2:o.at_ = ((p + i0:Nat):Int)) (o3:o.data = a) (o4:o.ptrs = ((ks.length + z:Nat):Int)) :
  ∃ y,yG F [W] m o = (y,m - yK (ks.map c),0) ∧ zU y = .mk 1 0 0 d ks:=by
 obtain ⟨hd,hp⟩:=h1.app
 rw [yp] at hp
 obtain ⟨hp1,hp2⟩:=hp.app
 rw [Zi] at hp2
 have hG:∀ m (j:Nat),(fun m (i:Nat) => F m o.seg (o.at_ + o.data + i)) m (0 + j) = F m 0 ((p + (i0 + a) + j:Nat):Int):=fun m j => by
  dsimp only
  rw [o1,o2,o3]
  congr 1
  omega
 obtain ⟨ys,k1,k2⟩:=zdj R p ks (i0 + a) pos 0 m [] (fun m (i:Nat) => F m o.seg (o.at_ + o.data + i)) hG hQ (by rw [← Nat.add_assoc]; exact hp1) h2 hm
 have k3:=zb8 _ z _ _ _ _ _ k1
 rw [zb9 R p z (i0 + a + ks.length) (0 + ks.length) _ _ (fun m (i:Nat) => F m o.seg (o.at_ + o.data + i)) (fun m j => by
  refine Eq.trans ?_ ((hG m (ks.length + j)).trans (by congr 2; omega))
  rw [Nat.add_assoc 0]) (by rw [show p + (i0 + a + ks.length) = p + i0 + a + ks.length by omega]; exact hp2)] at k3
 refine ⟨_,?_,zl9 h8 hq hb ha z k2⟩
 unfold yG
 rw [o4,Int.toNat_natCast,k3]
 unfold Ji
 dsimp only
 rw [if_pos rfl,o1,o2,o3,hd.cutB (by rw [yp]),zpl]
theorem zd9 (R:Rt W F B c Q) (p a b:Nat):∀ (ks:List Nd) (i0 pos c0:Nat) (m:Int) (acc:List Nd) (G:Int → Nat → Nd × Int × Int),(∀ m (j:Nat),G m (c0 + j) = yG F [W] m ⟨1,0,((p + i0 + j * (a + b):Nat):Int),a,b,0,0,0⟩) →
  (∀ k ∈ ks,(∃ d q,k = .mk 1 0 0 d q ∧ 8 * yz d = d.length ∧ xq q = q.length ∧ (∀ x ∈ d,yq x) ∧ d.length ≤ 8 * a ∧ q.length ≤ b) ∧ ∀ t ∈ k.kids,Q t) →
  At W (p + i0) (zav B a b i0 pos ks) → At W (p + pos) (ks.flatMap fun k => k.kids.flatMap B) → yK (ks.map fun k => yK (k.kids.map c)) ≤ m → ∃ ys,yB G ks.length c0 m acc = (acc ++ ys,m - yK (ks.map fun k => yK (k.kids.map c)),0) ∧ ys.map zU = ks
 | [],i0,pos,c0,m,acc,G,hG,hQ,h1,h2,hm => ⟨[],by simp [yB,xB],rfl⟩
 | k :: r,i0,pos,c0,m,acc,G,hG,hQ,h1,h2,hm => by
  rw [zav] at h1
  obtain ⟨h1h,h1t⟩:=h1.app
  rw [List.flatMap_cons] at h2
  obtain ⟨h2h,h2t⟩:=h2.app
  rw [List.map_cons,yR] at hm
  obtain ⟨⟨d,q,rfl,e8,eq,eb,ea,el⟩,hQk⟩:=hQ k List.mem_cons_self
  have hr:0 ≤ yK (r.map fun k => yK (k.kids.map c)):=wg fun y hy => by
   obtain ⟨t,ht,rfl⟩:=List.mem_map.1 hy
   exact zcC R (hQ t (List.mem_cons_of_mem _ ht)).2
  obtain ⟨y,k1,k2⟩:=zba R p e8 eq eb (a:=a) (z:=b - q.length) (i0:=i0) (pos:=pos) ea hQk (m:=m) h1h h2h (by
   have:yK (q.map c) + yK (r.map fun k => yK (k.kids.map c)) ≤ m:=hm
   omega) (o:=⟨1,0,((p + i0 + 0 * (a + b):Nat):Int),a,b,0,0,0⟩) rfl (by show ((p + i0 + 0 * (a + b):Nat):Int) = _; rw [Nat.zero_mul,Nat.add_zero]) rfl (by show (b:Int) = _; congr 1; omega)
  have e:G m c0 = (y,m - yK (q.map c),0):=by
   have:=hG m 0
   rw [Nat.add_zero] at this
   rw [this,k1]
  have hlen:(xi a (Nd.mk 1 0 0 d q).data ++ (Qq B (i0 + a) pos (Nd.mk 1 0 0 d q).kids ++ List.replicate (b - (Nd.mk 1 0 0 d q).kids.length) 0)).length = a + b:=by
   rw [zpj,zpj,yp,Zi,List.length_replicate]
   show a + (q.length + (b - q.length)) = _
   omega
  rw [hlen] at h1t
  obtain ⟨ys,k3,k4⟩:=zd9 R p a b r (i0 + (a + b)) (pos + zkc B q) (c0 + 1) (m - yK (q.map c)) (acc ++ [y]) G (fun m j => by
   rw [Nat.add_assoc,Nat.add_comm 1 j,hG m (j + 1)]
   congr 3
   rw [Nat.add_mul,Nat.one_mul]
   omega) (fun x hx => hQ x (List.mem_cons_of_mem _ hx)) (by rw [← Nat.add_assoc]; exact h1t) (by rw [← Nat.add_assoc]; exact h2t) (by
   have:yK (q.map c) + yK (r.map fun k => yK (k.kids.map c)) ≤ m:=hm
   omega)
  refine ⟨y :: ys,?_,by rw [List.map_cons,k2,k4]⟩
  rw [zpk,yB,e]
  dsimp only
  rw [if_pos rfl,k3,List.map_cons,yR,List.append_assoc,List.singleton_append]
  have:m - yK (q.map c) - yK (r.map fun k => yK (k.kids.map c)) = m - (yK ((Nd.mk 1 0 0 d q).kids.map c) + yK (r.map fun k => yK (k.kids.map c))):=by
   show _ = m - (yK (q.map c) + _)
   omega
  rw [this]
end
theorem WT {W:List Int} {w:Int} {a:Nat} (h:At W a [w]) (h4:w % 4 ≠ 2) (h0:w ≠ 0) (D:Nat) (m:Int):den [W] (D + 1) m 0 a = zda (den [W] D) [W] m (zfU [W] 0 (a + 1) (ZB w)):=by
 rw [den]
 dsimp only
 have hf:=zeh h h4
 unfold obj
 rw [hf]
 dsimp only
 rw [if_pos rfl,if_neg h0,if_pos rfl,if_neg h0]
theorem QI {W:List Int} {a:Nat} (h:At W a [0]) (D:Nat) (m:Int):den [W] D m 0 a = (nd0,m,0):=by
 have hf:=zeh h (by decide)
 cases D with
 | zero => unfold den; rw [hf]; rfl
 | succ D => rw [den]; dsimp only; rw [hf]; rfl
theorem Xv (c:Nd → Int):∀ l:List Nd,yK ((l.flatMap Nd.kids).map c) = yK (l.map fun k => yK (k.kids.map c))
 | [] => rfl
 | k :: l => by rw [List.flatMap_cons,List.map_append,zjM,List.map_cons,yR,Xv c l]
theorem Ky (B:Nd → List Int):∀ l:List Nd,(l.flatMap Nd.kids).flatMap B = l.flatMap fun k => k.kids.flatMap B
 | [] => rfl
 | k :: l => by rw [List.flatMap_cons,List.flatMap_append,List.flatMap_cons,Ky B l]
theorem zez {D:Nat} {x:Nd} (h:Ok (D + 1) x) (h0:x.kind ≠ 0):∀ t ∈ tgt x,Ok D t:=by
 have hd:=h.dp.resolve_left h0
 intro t ht
 refine ⟨Wg h.vn t ht,?_,zek h.gd t ht,hd.2 t ht⟩
 have htr:=h.tr
 have tk:∀ {y:Nd},TrN y → ∀ z ∈ y.kids,TrN z:=fun hy => by
  cases hy with
  | mk t1 t2 => exact t2
 unfold tgt at ht
 split at ht
 ·obtain ⟨k,hk1,hk2⟩:=List.mem_flatMap.1 ht
  exact tk (tk htr k hk1) t hk2
 ·exact tk htr t ht
theorem VE (k e n:Int) (d:List Int) (ks:List Nd):zdo (.mk k e n d ks) = xS (.mk k e n d ks) + (if k = 2 ∧ e = 7 ∧ yL ks + yP ks = 0 then n else 0):=rfl
theorem YN {k:Nd} (hv:VN k) (ht:TrN k) (hg:Z5 k) (h1:k.kind = 1):∃ d q,k = .mk 1 0 0 d q ∧ 8 * yz d = d.length ∧ xq q = q.length ∧ (∀ x ∈ d,yq x) ∧ d.length % 8 = 0 ∧ d.length ≤ 524280 ∧ q.length ≤ 65535:=by
 cases hv with
 | mk v1 v2 v3 =>
  rename_i k e n d ks
  have h1':k = 1:=h1
  subst h1'
  rcases v3 with ⟨a1,_⟩ | ⟨_,a2,a3,a4,a5,a6⟩ | ⟨a1,_⟩
  ·omega
  ·subst a2; subst a3
   cases ht with
   | mk t1 t2 =>
    rw [Z5] at hg
    exact ⟨d,ks,rfl,(t1 rfl).1,(t1 rfl).2,hg.1.2.1,a4,a5,a6⟩
  ·omega
theorem zh1 {e n:Int} {d:List Int} {z:Nat} (hn0:0 ≤ n) (hl:(d.length:Int) = yg e n):trimB e n (d ++ List.replicate z 0) = trimB e n d:=by
 unfold trimB
 split
 ·rename_i h
  have hn:1 ≤ yg e n:=by
   unfold yg bitsOf
   rw [if_pos h.1]
   omega
  rw [List.take_append_of_le_length (by omega)]
  congr 3
  unfold rd
  rw [List.getD_eq_getElem?_getD,List.getD_eq_getElem?_getD,List.getElem?_append_left (by omega)]
 ·rw [List.take_append_of_le_length (by omega)]
theorem Kf {e n:Int} (he:0 ≤ e ∧ e < 6) (hn:0 ≤ n ∧ n ≤ 536870911):yg e n ≤ 8 * z4 e n:=by
 have h:=XC (e:=e) hn
 unfold yg z4
 rw [if_neg (by omega)]
 omega
theorem ziU {W:List Int} {D:Nat} (R:Rt W (den [W] D) (body D) (vI D) (Ok D)) {a:Nat} {w:Int} (ha:At W a [w]) (m:Int) (hm:0 ≤ m):∃ y,zda (den [W] D) [W] m (zfV [W] 0 (a:Int) 0 0) = (y,m,0) ∧ zU y = .mk 1 0 0 [] []:=by
 have ha0:At W a []:=(show At W a ([] ++ [w]) from ha).app.1
 obtain ⟨y,k1,k2⟩:=zba R a (d:=[]) (ks:=[]) rfl rfl (fun x h => by cases h) (a:=0) (z:=0) (i0:=0) (pos:=0) (Nat.zero_le _) (fun t h => by cases h) (m:=m - 0) ha0 ha0 (by simp [xB]; omega) (o:=⟨1,0,a,0,0,0,0,0 + 0⟩) rfl rfl rfl rfl
 refine ⟨y,?_,k2⟩
 unfold zfV zda
 rw [if_pos (ha0.inB (n:=0 + 0) rfl)]
 dsimp only at k1 ⊢
 rw [if_pos rfl,if_neg (by omega),if_pos rfl]
 simp only [xB,List.map_nil] at k1
 have:yG (den [W] D) [W] (m - (0 + 0)) ⟨1,0,a,0,0,0,0,0 + 0⟩ = (y,m - 0 - 0,0):=k1
 rw [this]
 simp
theorem zfk {W:List Int} (hW:W.length ≤ 268435456) {D:Nat} (R:Rt W (den [W] D) (body D) (vI D) (Ok D)) {d:List Int} {ks:List Nd} (h8:8 * yz d = d.length) (hq:xq ks = ks.length) (hb:∀ x ∈ d,yq x) (hd8:d.length % 8 = 0) (hd:d.length ≤ 524280) (hk:ks.length ≤ 65535) (hQ:∀ t ∈ ks,Ok D t) {p a:Nat} {m:Int}
  (h1:At W p (obW (body D) (.mk 1 0 0 d ks) ++ ks.flatMap (body D))) (h2:At W a [W9 (.mk 1 0 0 d ks) ((p:Int) - a - 1)]) (hm:((d.length / 8 + ks.length:Nat):Int) + yK (ks.map (vI D)) ≤ m) :
  ∃ y,den [W] (D + 1) m 0 a = (y,m - (((d.length / 8 + ks.length:Nat):Int) + yK (ks.map (vI D))),0) ∧ zU y = .mk 1 0 0 d ks:=by
 have hp:=h1.len
 have ha:=h2.len
 have e1:W9 (.mk 1 0 0 d ks) ((p:Int) - a - 1) = if d.length / 8 = 0 ∧ ks.length = 0 then Zn (-1) 0 0 else Zn ((p:Int) - a - 1) (d.length / 8) ks.length:=rfl
 have hsn:=zcC R hQ
 rw [e1] at h2
 simp only [List.length_singleton] at ha
 by_cases hz:d.length / 8 = 0 ∧ ks.length = 0
 ·rw [if_pos hz] at h2
  obtain rfl:d = []:=List.length_eq_zero_iff.1 (by omega)
  obtain rfl:ks = []:=List.length_eq_zero_iff.1 hz.2
  obtain ⟨q1,q2,q3⟩:=WS (off:=-1) (d:=0) (q:=0) (by decide) (by decide) (by decide)
  rw [WT h2 (by omega) (by decide),q1]
  unfold zfU
  dsimp only
  rw [if_pos rfl,show (a:Int) + 1 + -1 = a by omega]
  obtain ⟨y,k1,k2⟩:=ziU R h2 m (by simp [xB] at hm; omega)
  exact ⟨y,by rw [show ((0:Nat):Int) = 0 from rfl,k1]; simp [xB],k2⟩
 ·rw [if_neg hz] at h2
  obtain ⟨q1,q2,q3⟩:=WS (off:=(p:Int) - a - 1) (d:=d.length / 8) (q:=ks.length) (by omega) (by omega) hk
  have hne:Zn ((p:Int) - a - 1) (d.length / 8) ks.length ≠ 0:=by
   unfold Zn
   have:=Int.emod_nonneg ((p:Int) - a - 1) (show (1073741824:Int) ≠ 0 by decide)
   omega
  rw [WT h2 (by omega) hne,q1]
  unfold zfU
  dsimp only
  rw [if_pos rfl,show (a:Int) + 1 + ((p:Int) - a - 1) = p by omega]
  have e2:obW (body D) (.mk 1 0 0 d ks) = xi (d.length / 8) d ++ Qq (body D) (d.length / 8) (d.length / 8 + ks.length) ks:=rfl
  rw [e2] at h1
  obtain ⟨h1a,h1b⟩:=h1.app
  have hlen:(xi (d.length / 8) d ++ Qq (body D) (d.length / 8) (d.length / 8 + ks.length) ks).length = d.length / 8 + ks.length:=by rw [zpj,yp,Zi]
  rw [hlen] at h1b
  have hin:=h1a.inB (n:=((d.length / 8:Nat):Int) + (ks.length:Int)) (by rw [hlen]; push_cast; rfl)
  obtain ⟨y,k1,k2⟩:=zba R p h8 hq hb (a:=d.length / 8) (z:=0) (i0:=0) (pos:=d.length / 8 + ks.length) (by omega) hQ (m:=m - (((d.length / 8:Nat):Int) + (ks.length:Int))) (by simpa using h1a) h1b (by push_cast at hm; omega) (o:=⟨1,0,p,((d.length / 8:Nat):Int),ks.length,0,0,((d.length / 8:Nat):Int) + (ks.length:Int)⟩) rfl rfl rfl (by simp)
  refine ⟨y,?_,k2⟩
  unfold zfV zda
  rw [if_pos hin]
  dsimp only at k1 ⊢
  rw [if_pos rfl,if_neg (by push_cast at hm; omega),if_pos rfl,k1]
  congr 2
  push_cast
  omega
theorem zgN {W:List Int} (hW:W.length ≤ 268435456) {D:Nat} {e n:Int} {d:List Int} (he:0 ≤ e ∧ e < 6) (hn:0 ≤ n ∧ n ≤ 536870911) (hl:(d.length:Int) = yg e n) (ht:trimB e n d = d) (hb:∀ x ∈ d,yq x) {p a:Nat} {m:Int}
  (h1:At W p (obW (body D) (.mk 2 e n d []))) (h2:At W a [W9 (.mk 2 e n d []) ((p:Int) - a - 1)]) (hm:z4 e n ≤ m) :
  ∃ y,den [W] (D + 1) m 0 a = (y,m - z4 e n,0) ∧ zU y = .mk 2 e n d []:=by
 have hp:=h1.len
 have ha:=h2.len
 have e1:W9 (.mk 2 e n d []) ((p:Int) - a - 1) = XS ((p:Int) - a - 1) e n:=by
  unfold W9
  show (if (2:Int) = 0 then 0 else if (2:Int) = 1 then _ else if e = 7 then _ else XS ((p:Int) - a - 1) e n) = _
  rw [if_neg (by decide),if_neg (by decide),if_neg (by omega)]
 have e2:obW (body D) (.mk 2 e n d []) = xi (z4 e n).toNat d:=by
  unfold obW
  show (if (2:Int) = 1 then _ else if e = 7 then _ else if e = 6 then _ else xi (z4 e n).toNat d) = _
  rw [if_neg (by decide),if_neg (by omega),if_neg (by omega)]
 rw [e1] at h2
 rw [e2] at h1
 have hw:=xO (e:=e) hn
 simp only [List.length_singleton] at ha
 rw [e2,yp] at hp
 obtain ⟨q1,q2,q3⟩:=WR (off:=(p:Int) - a - 1) (e:=e) (c:=n) (by omega) (by omega) hn
 have hne:XS ((p:Int) - a - 1) e n ≠ 0:=by omega
 rw [WT h2 (by omega) hne,q1]
 unfold zfU
 dsimp only
 rw [if_neg (by decide),if_pos rfl,show (a:Int) + 1 + ((p:Int) - a - 1) = p by omega]
 have hin:=h1.inB (n:=z4 e n) (by rw [yp]; omega)
 have h7:¬ e = 7:=by omega
 unfold zfT zda
 rw [if_neg h7,if_pos hin]
 dsimp only
 rw [if_pos rfl,if_neg (by omega),if_neg (by decide)]
 unfold Ju
 dsimp only
 rw [if_pos he.2,h1.cutB (by rw [yp]; omega)]
 have hbw:=Kf he hn
 refine ⟨_,rfl,?_⟩
 rw [QF _ hb (by omega),zh1 hn.1 hl,ht,zU,if_neg (by decide)]
 rfl
theorem ziT {W:List Int} (hW:W.length ≤ 268435456) {D:Nat} (R:Rt W (den [W] D) (body D) (vI D) (Ok D)) {n:Int} {ks:List Nd} (hn:0 ≤ n ∧ n ≤ 536870911) (hk:(ks.length:Int) = n) (hQ:∀ t ∈ ks,Ok D t) {p a:Nat} {m:Int}
  (h1:At W p (obW (body D) (.mk 2 6 n [] ks) ++ ks.flatMap (body D))) (h2:At W a [W9 (.mk 2 6 n [] ks) ((p:Int) - a - 1)]) (hm:z4 6 n + yK (ks.map (vI D)) ≤ m) :
  ∃ y,den [W] (D + 1) m 0 a = (y,m - (z4 6 n + yK (ks.map (vI D))),0) ∧ zU y = .mk 2 6 n [] ks:=by
 have hp:=h1.len
 have ha:=h2.len
 have e1:W9 (.mk 2 6 n [] ks) ((p:Int) - a - 1) = XS ((p:Int) - a - 1) 6 n:=rfl
 have e2:obW (body D) (.mk 2 6 n [] ks) = Qq (body D) 0 ks.length ks:=rfl
 rw [e1] at h2
 rw [e2] at h1
 have hw:z4 6 n = n:=by unfold z4 bitsOf; simp; omega
 have hsn:=zcC R hQ
 simp only [List.length_singleton] at ha
 obtain ⟨q1,q2,q3⟩:=WR (off:=(p:Int) - a - 1) (e:=6) (c:=n) (by omega) (by omega) hn
 have hne:XS ((p:Int) - a - 1) 6 n ≠ 0:=by omega
 obtain ⟨h1a,h1b⟩:=h1.app
 rw [Zi] at h1b
 rw [WT h2 (by omega) hne,q1]
 unfold zfU
 dsimp only
 rw [if_neg (by decide),if_pos rfl,show (a:Int) + 1 + ((p:Int) - a - 1) = p by omega]
 have hin:=h1a.inB (n:=z4 6 n) (by rw [Zi]; omega)
 unfold zfT zda
 rw [if_neg (show ¬ (6:Int) = 7 by decide),if_pos hin]
 dsimp only
 rw [if_pos rfl,if_neg (by omega),if_neg (by decide)]
 unfold Ju
 dsimp only
 rw [if_neg (by decide)]
 obtain ⟨ys,k1,k2⟩:=zdj R p ks 0 ks.length 0 (m - z4 6 n) [] (fun m (i:Nat) => if (6:Int) = 6 then den [W] D m 0 ((p:Int) + i) else yG (den [W] D) [W] m (elt ⟨2,0,p,0,0,6,n,z4 6 n⟩ i)) (fun m j => by
  rw [if_pos (show (6:Int) = 6 from rfl)]
  congr 1
  omega) hQ h1a h1b (by omega)
 rw [show n.toNat = ks.length by omega,k1]
 unfold Ji
 dsimp only
 rw [if_pos rfl,zpl]
 refine ⟨_,by rw [show m - z4 6 n - yK (ks.map (vI D)) = m - (z4 6 n + yK (ks.map (vI D))) by omega],?_⟩
 rw [zU,if_neg (by decide),yw,k2]
theorem ziS {W:List Int} (hW:W.length ≤ 268435456) {D:Nat} (R:Rt W (den [W] D) (body D) (vI D) (Ok D)) {n:Int} {ks:List Nd} (hn:0 ≤ n ∧ n ≤ 536870911) (hk:(ks.length:Int) = n)
  (hs:∀ k ∈ ks,∃ d q,k = .mk 1 0 0 d q ∧ 8 * yz d = d.length ∧ xq q = q.length ∧ (∀ x ∈ d,yq x) ∧ d.length % 8 = 0 ∧ d.length ≤ 524280 ∧ q.length ≤ 65535) (hQ:∀ t ∈ ks.flatMap Nd.kids,Ok D t) {p a:Nat} {m:Int}
  (h1:At W p (obW (body D) (.mk 2 7 n [] ks) ++ (ks.flatMap Nd.kids).flatMap (body D))) (h2:At W a [W9 (.mk 2 7 n [] ks) ((p:Int) - a - 1)]) (hm:zdo (.mk 2 7 n [] ks) + yK ((ks.flatMap Nd.kids).map (vI D)) ≤ m) :
  ∃ y,den [W] (D + 1) m 0 a = (y,m - (zdo (.mk 2 7 n [] ks) + yK ((ks.flatMap Nd.kids).map (vI D))),0) ∧ zU y = .mk 2 7 n [] ks:=by
 have hp:=h1.len
 have ha:=h2.len
 have e1:W9 (.mk 2 7 n [] ks) ((p:Int) - a - 1) = XS ((p:Int) - a - 1) 7 (n * ((yL ks + yP ks:Nat):Int)):=rfl
 have e2:obW (body D) (.mk 2 7 n [] ks) = Zn n (yL ks) (yP ks) :: zav (body D) (yL ks) (yP ks) 1 (1 + ks.length * (yL ks + yP ks)) ks:=rfl
 have e3:zdo (.mk 2 7 n [] ks) = 1 + n * ((yL ks + yP ks:Nat):Int) + (if yL ks + yP ks = 0 then n else 0):=by
  show (1 + n * ((yL ks + yP ks:Nat):Int)) + (if (2:Int) = 2 ∧ (7:Int) = 7 ∧ yL ks + yP ks = 0 then n else 0) = _
  simp only [true_and]
 have hal:=QE (body D) (yL ks) (yP ks) 1 (1 + ks.length * (yL ks + yP ks)) ks (fun k hk => XP hk)
 rw [e1] at h2
 rw [e2,List.cons_append] at h1
 rw [e2,List.cons_append,zpk,zpj,hal] at hp
 have hnu:n * ((yL ks + yP ks:Nat):Int) = ((ks.length * (yL ks + yP ks):Nat):Int):=by rw [← hk]; push_cast; rfl
 rw [e3,hnu] at hm ⊢
 rw [hnu] at h2
 have hsn:=zcC R hQ
 have hud:yL ks ≤ 65535:=VW fun x hx => by
  obtain ⟨d,q,rfl,_,_,_,_,g1,_⟩:=hs x hx
  show d.length / 8 ≤ 65535
  omega
 have huq:yP ks ≤ 65535:=VX fun x hx => by
  obtain ⟨d,q,rfl,_,_,_,_,_,g1⟩:=hs x hx
  exact g1
 simp only [List.length_singleton] at ha
 obtain ⟨q1,q2,q3⟩:=WR (off:=(p:Int) - a - 1) (e:=7) (c:=((ks.length * (yL ks + yP ks):Nat):Int)) (by omega) (by omega) (by omega)
 have hne:XS ((p:Int) - a - 1) 7 ((ks.length * (yL ks + yP ks):Nat):Int) ≠ 0:=by omega
 obtain ⟨t1,t2,t3⟩:=WS (off:=n) (d:=yL ks) (q:=yP ks) (by omega) hud huq
 obtain ⟨w1,w2,w3⟩:=h1.cons
 obtain ⟨h1a,h1b⟩:=w3.app
 rw [hal] at h1b
 have hin:inB [W] 0 p (((ks.length * (yL ks + yP ks):Nat):Int) + 1):=by
  have:=(show At W p ([Zn n (yL ks) (yP ks)] ++ (zav (body D) (yL ks) (yP ks) 1 (1 + ks.length * (yL ks + yP ks)) ks ++ (ks.flatMap Nd.kids).flatMap (body D))) from h1)
  rw [← List.append_assoc] at this
  exact this.app.1.inB (by rw [zpj,hal,List.length_singleton]; push_cast; omega)
 rw [WT h2 (by omega) hne,q1]
 unfold zfU
 dsimp only
 rw [if_neg (by decide),if_pos rfl,show (a:Int) + 1 + ((p:Int) - a - 1) = p by omega]
 unfold zfT zdl zda
 rw [if_pos (show (7:Int) = 7 from rfl),if_pos hin,w1,t1]
 dsimp only
 have hcond:(0:Int) = 0 ∧ 0 ≤ n ∧ n * ((yL ks:Int) + (yP ks:Int)) ≤ ((ks.length * (yL ks + yP ks):Nat):Int):=⟨rfl,hn.1,by rw [show n * ((yL ks:Int) + (yP ks:Int)) = n * ((yL ks + yP ks:Nat):Int) by push_cast; rfl,hnu]; exact Int.le_refl _⟩
 rw [if_pos hcond]
 dsimp only
 have hun:((yL ks:Int) + (yP ks:Int) = 0) = (yL ks + yP ks = 0):=by
  apply propext
  omega
 simp only [hun]
 generalize hz:(if yL ks + yP ks = 0 then n else 0) = z at hm ⊢
 have hz0:0 ≤ z:=by subst hz; split <;> omega
 rw [if_pos trivial,if_neg (by omega),if_neg (by decide)]
 unfold Ju
 dsimp only
 rw [if_neg (by decide)]
 rw [Xv] at hm hsn ⊢
 rw [Ky] at h1b
 obtain ⟨ys,k1,k2⟩:=zd9 R p (yL ks) (yP ks) ks 1 (1 + ks.length * (yL ks + yP ks)) 0 (m - (((ks.length * (yL ks + yP ks):Nat):Int) + 1 + z)) [] (fun m (i:Nat) => if (7:Int) = 6 then den [W] D m 0 ((p:Int) + 1 + i) else yG (den [W] D) [W] m (elt ⟨2,0,(p:Int) + 1,yL ks,yP ks,7,n,((ks.length * (yL ks + yP ks):Nat):Int) + 1 + z⟩ i)) (fun m j => by
  rw [if_neg (show ¬ (7:Int) = 6 by decide)]
  unfold elt
  congr 2
  push_cast
  rw [Int.zero_add]) (fun k hk => by
  obtain ⟨d,q,rfl,g1,g2,g3,g4,g5,g6⟩:=hs k hk
  have hud:=ze1 hk
  have hup:=XP hk
  have hud':d.length / 8 ≤ yL ks:=hud
  exact ⟨⟨d,q,rfl,g1,g2,g3,by omega,hup⟩,fun t ht => hQ t (List.mem_flatMap.2 ⟨_,hk,ht⟩)⟩) h1a (by rw [← Nat.add_assoc]; exact h1b) (by omega)
 rw [show n.toNat = ks.length by omega,k1]
 unfold Ji
 dsimp only
 rw [if_pos rfl,zpl]
 refine ⟨_,by congr 2; omega,?_⟩
 rw [zU,if_neg (by decide),yw,k2]
theorem zgW {W:List Int} (hW:W.length ≤ 268435456):∀ D,Rt W (den [W] D) (body D) (vI D) (Ok D)
 | 0 => ⟨fun t a q m h1 h2 h3 h4 => by
   have hk:t.kind = 0:=h1.dp
   have:=Jg h1.vn hk
   subst this
   exact ⟨nd0,by rw [QI h3]; show _ = (nd0,m - 0,_); rw [Int.sub_zero],zai⟩,fun a m h => QI h 0 m,fun t h => Vu 0 h.vn⟩
 | D + 1 => by
  have R:=zgW hW D
  refine ⟨fun t a q m h1 h2 h3 h4 => ?_,fun a m h => QI h (D + 1) m,fun t h => Vu (D + 1) h.vn⟩
  by_cases h0:t.kind = 0
  ·have:=Jg h1.vn h0
   subst this
   refine ⟨nd0,?_,zai⟩
   rw [QI h3]
   show _ = (nd0,m - 0,_)
   rw [Int.sub_zero]
  ·have hT:=zez h1 h0
   rw [body,if_neg h0] at h2
   rw [vI,if_neg h0] at h4 ⊢
   obtain ⟨hs,hkk⟩:=ZY h1.vn
   rcases hs with hs | hs | hs
   ·exact absurd hs.1 h0
   ·obtain ⟨d,ks,rfl,g1,g2,g3,g4,g5,g6⟩:=YN h1.vn h1.tr h1.gd hs.1
    have e:zdo (.mk 1 0 0 d ks) = ((d.length / 8 + ks.length:Nat):Int):=by
     rw [VE,if_neg (fun h => absurd h.1 (by decide)),Int.add_zero]
     rfl
    rw [e] at h4 ⊢
    exact zfk hW R g1 g2 g3 g4 g5 g6 hT h2 h3 h4
   ·cases t with
    | mk k e n d ks =>
     obtain ⟨k2,hn,he,h6,hl6⟩:=hs
     have k2':k = 2:=k2
     subst k2'
     have hn':0 ≤ n ∧ n ≤ 536870911:=hn
     have he':0 ≤ e ∧ e ≤ 7:=he
     have hg:=h1.gd
     rw [Z5] at hg
     by_cases e7:e = 7
     ·subst e7
      obtain ⟨a1,a2⟩:=h6 (show (6:Int) ≤ 7 by decide)
      obtain rfl:d = []:=List.length_eq_zero_iff.1 a1
      have hst:∀ k ∈ ks,k.kind = 1:=by
       cases h1.vn with
       | mk v1 v2 v3 => exact v2 rfl rfl
      have htr:∀ k ∈ ks,TrN k:=by
       cases h1.tr with
       | mk t1 t2 => exact t2
      exact ziS hW R hn' a2 (fun k hk => YN (hkk k hk) (htr k hk) (goods_iff.1 hg.2 k hk) (hst k hk)) hT h2 h3 h4
     ·have et:tgt (.mk 2 e n d ks) = ks:=by
       show (if (2:Int) = 2 ∧ e = 7 then _ else ks) = _
       rw [if_neg (fun h => e7 h.2)]
      have eo:zdo (.mk 2 e n d ks) = z4 e n:=by
       rw [VE,if_neg (fun h => e7 h.2.1),Int.add_zero]
       unfold xS
       show (if (2:Int) = 0 then 0 else if (2:Int) = 1 then _ else if e = 7 then _ else z4 e n) = _
       rw [if_neg (by decide),if_neg (by decide),if_neg e7]
      rw [et] at h2 h4 hT ⊢
      rw [eo] at h4 ⊢
      by_cases e6:e = 6
      ·subst e6
       obtain ⟨a1,a2⟩:=h6 (show (6:Int) ≤ 6 by decide)
       obtain rfl:d = []:=List.length_eq_zero_iff.1 a1
       exact ziT hW R hn' a2 hT h2 h3 h4
      ·obtain ⟨b1,b2,b3⟩:=hl6 (show e < 6 by omega)
       obtain rfl:ks = []:=List.length_eq_zero_iff.1 b1
       rw [List.flatMap_nil,List.append_nil] at h2
       simp only [List.map_nil,xB,Int.add_zero] at h4 ⊢
       exact zgN hW (e:=e) ⟨he'.1,by omega⟩ hn' b2 b3 hg.1.2.1 h2 h3 h4
theorem ziK {w i m:Nat} (hw:w < 2 ^ i) (h:i + m ≤ 64):w &&& (2 ^ 64 - 1 - (2 ^ m - 1) * 2 ^ i) = w:=by
 have hk:2 ^ 64 = 2 ^ (64 - i) * 2 ^ i:=by rw [← Nat.pow_add]; congr 1; omega
 have hmi:2 ^ m ≤ 2 ^ (64 - i):=Nat.pow_le_pow_right (by decide) (by omega)
 have hi:0 < 2 ^ i:=Nat.pow_pos (by decide)
 have hm:0 < 2 ^ m:=Nat.pow_pos (by decide)
 have e:2 ^ 64 - 1 - (2 ^ m - 1) * 2 ^ i = 2 ^ i * (2 ^ (64 - i) - 2 ^ m) + (2 ^ i - 1):=by
  have h2:2 ^ m * 2 ^ i ≤ 2 ^ (64 - i) * 2 ^ i:=Nat.mul_le_mul_right _ hmi
  rw [hk,Nat.sub_mul,Nat.one_mul,Nat.mul_sub,Nat.mul_comm (2 ^ i) (2 ^ (64 - i)),Nat.mul_comm (2 ^ i) (2 ^ m)]
  have h3:2 ^ i ≤ 2 ^ m * 2 ^ i:=Nat.le_mul_of_pos_left _ hm
  omega
 rw [e]
 apply Nat.eq_of_testBit_eq
 intro j
 rw [Nat.testBit_and,Nat.testBit_two_pow_mul_add _ (by omega)]
 by_cases hj:j < i
 ·rw [if_pos hj,Nat.testBit_two_pow_sub_one,decide_eq_true hj,Bool.and_true]
 ·rw [if_neg hj]
  have:w.testBit j = false:=Nat.testBit_lt_two_pow (Nat.lt_of_lt_of_le hw (Nat.pow_le_pow_right (by decide) (by omega)))
  rw [this,Bool.false_and]
theorem zk2 {v i m:Nat} (h:i + m ≤ 64):(v * 2 ^ i % 2 ^ 64) &&& ((2 ^ m - 1) * 2 ^ i) = v % 2 ^ m * 2 ^ i:=by
 apply Nat.eq_of_testBit_eq
 intro j
 rw [Nat.testBit_and,Nat.testBit_mod_two_pow,Nat.mul_comm v,Nat.mul_comm (2 ^ m - 1),Nat.mul_comm (v % 2 ^ m),Nat.testBit_two_pow_mul,Nat.testBit_two_pow_mul,Nat.testBit_two_pow_mul,Nat.testBit_two_pow_sub_one,Nat.testBit_mod_two_pow]
 by_cases h1:j ≥ i
 ·by_cases h2:j - i < m
  ·rw [decide_eq_true h1,decide_eq_true h2,decide_eq_true (show j < 64 by omega)]; simp
  ·rw [decide_eq_false h2]; simp
 ·rw [decide_eq_false h1]; simp
theorem zin {w v i m:Nat} (hw:w < 2 ^ i) (hv:v < 2 ^ 64) (h1:1 ≤ m) (h2:i + m ≤ 64):ev 291 [.pv (U (w:Int)),.pv (I (i:Int)),.pv (I (m:Int)),.pv (U (v:Int))] [] = ok (U ((w + v % 2 ^ m * 2 ^ i:Nat):Int)):=by
 have hk:2 ^ 64 = 2 ^ (64 - i) * 2 ^ i:=by rw [← Nat.pow_add]; congr 1; omega
 have hmi:2 ^ m ≤ 2 ^ (64 - i):=Nat.pow_le_pow_right (by decide) (by omega)
 have hi:0 < 2 ^ i:=Nat.pow_pos (by decide)
 have hm:0 < 2 ^ m:=Nat.pow_pos (by decide)
 have h64:2 ^ m * 2 ^ i ≤ 2 ^ 64:=by rw [hk]; exact Nat.mul_le_mul_right _ hmi
 have hM:(2 ^ m - 1) * 2 ^ i < 2 ^ 64:=by
  rw [Nat.sub_mul,Nat.one_mul]
  have h3:2 ^ i ≤ 2 ^ m * 2 ^ i:=Nat.le_mul_of_pos_left _ hm
  omega
 have hw64:w < 2 ^ 64:=Nat.lt_of_lt_of_le hw (Nat.pow_le_pow_right (by decide) (by omega))
 have hx:v % 2 ^ m * 2 ^ i < 2 ^ 64:=by
  have:=Nat.mod_lt v hm
  have:v % 2 ^ m * 2 ^ i ≤ (2 ^ m - 1) * 2 ^ i:=Nat.mul_le_mul_right _ (by omega)
  omega
 rw [JH,zj7 m h1 (by omega),Zc (n:=i) (by omega)]
 dsimp only [za,zb,zf,zpi,zj,zm,zq,zk,zs,zn,zK,zM,zL,pU8,zpg,zph,zi,zg,zc,zh,ze,zA,zv,zr,zo,zJ,zI,zF,zG,zH,len8,zD,zC,zt,zu]
 have hmin:min (i:Int).toNat 64 = i:=by rw [Int.toNat_natCast,Nat.min_eq_left (by omega)]
 have ei:(2:Int) ^ i = ((2 ^ i:Nat):Int):=by push_cast; rfl
 have eM:IntKind.wrap .u64 (((2 ^ m - 1:Nat):Int) * 2 ^ i) = (((2 ^ m - 1) * 2 ^ i:Nat):Int):=by
  rw [ei,← Int.natCast_mul]; exact Zc hM
 have eV:IntKind.wrap .u64 ((v:Int) * 2 ^ i) = ((v * 2 ^ i % 2 ^ 64:Nat):Int):=by
  rw [QS,ei,← Int.natCast_mul]
  have:(18446744073709551616:Int) = ((2 ^ 64:Nat):Int):=rfl
  rw [this,← Int.natCast_emod]
 rw [hmin,eM,eV]
 have e1:(BitVec.ofInt 64 (w:Int) &&& ~~~BitVec.ofInt 64 (((2 ^ m - 1) * 2 ^ i:Nat):Int)).toNat = w:=by
  rw [BitVec.toNat_and,BitVec.toNat_not,y6 hw64,y6 hM,ziK hw h2]
 have e2:(BitVec.ofInt 64 ((v * 2 ^ i % 2 ^ 64:Nat):Int) &&& BitVec.ofInt 64 (((2 ^ m - 1) * 2 ^ i:Nat):Int)).toNat = v % 2 ^ m * 2 ^ i:=by
  rw [BitVec.toNat_and,y6 (Nat.mod_lt _ (by decide)),y6 hM,zk2 h2]
 rw [e1,e2,Zc hw64,Zc hx]
 have e3:(BitVec.ofInt 64 (w:Int) ||| BitVec.ofInt 64 ((v % 2 ^ m * 2 ^ i:Nat):Int)).toNat = w + v % 2 ^ m * 2 ^ i:=by
  rw [BitVec.toNat_or,y6 hw64,y6 hx,Nat.or_comm,Nat.mul_comm,← Nat.two_pow_add_eq_or_of_lt hw]
  omega
 have hs:w + v % 2 ^ m * 2 ^ i < 2 ^ 64:=by
  have h3:v % 2 ^ m * 2 ^ i ≤ (2 ^ m - 1) * 2 ^ i:=Nat.mul_le_mul_right _ (by have:=Nat.mod_lt v hm; omega)
  have h4:(2 ^ m - 1) * 2 ^ i + 2 ^ i ≤ 2 ^ 64:=by
   rw [Nat.sub_mul,Nat.one_mul]
   have h3:2 ^ i ≤ 2 ^ m * 2 ^ i:=Nat.le_mul_of_pos_left _ hm
   omega
  omega
 rw [e3,Zc hs]
 simp [wI]
theorem wU {w v:Int} {i m:Nat} (hw:0 ≤ w ∧ w < 2 ^ i) (hv:0 ≤ v ∧ v < 18446744073709551616) (h1:1 ≤ m) (h2:i + m ≤ 64):ev 291 [.pv (U w),.pv (I (i:Int)),.pv (I (m:Int)),.pv (U v)] [] = ok (U (w + v % 2 ^ m * 2 ^ i)):=by
 obtain ⟨a,rfl⟩:=Int.eq_ofNat_of_zero_le hw.1
 obtain ⟨b,rfl⟩:=Int.eq_ofNat_of_zero_le hv.1
 have hw':a < 2 ^ i:=by have:=hw.2; exact_mod_cast this
 have hv':b < 2 ^ 64:=by have:=hv.2; omega
 rw [zin hw' hv' h1 h2]
 push_cast
 rfl
theorem zkO {off:Int} {d q:Nat} (hd:d ≤ 65535) (hq:q ≤ 65535):ev 288 [.pv (.agg [I 0,I off,I d,I q,I 0,I 0,Bo false,I 0,U32 0,U32 0])] [] = ok (U (Zn off d q)):=by
 have hm:=Int.emod_nonneg off (show (1073741824:Int) ≠ 0 by decide)
 have hl:=Int.emod_lt_of_pos off (show (0:Int) < 1073741824 by decide)
 have i1:=wU (w:=0) (v:=0) (i:=0) (m:=2) (by decide) (by decide) (by decide) (by decide)
 have i2:=wU (w:=0) (v:=off % 18446744073709551616) (i:=2) (m:=30) (by decide) (by omega) (by decide) (by decide)
 have e2:(0:Int) + off % 18446744073709551616 % 2 ^ 30 * 2 ^ 2 = off % 1073741824 * 4:=by omega
 rw [e2] at i2
 have i3:=wU (w:=off % 1073741824 * 4) (v:=d) (i:=32) (m:=16) (by omega) (by omega) (by decide) (by decide)
 have e3:off % 1073741824 * 4 + (d:Int) % 2 ^ 16 * 2 ^ 32 = off % 1073741824 * 4 + d * 4294967296:=by omega
 rw [e3] at i3
 have i4:=wU (w:=off % 1073741824 * 4 + d * 4294967296) (v:=q) (i:=48) (m:=16) (by omega) (by omega) (by decide) (by decide)
 have e4:off % 1073741824 * 4 + d * 4294967296 + (q:Int) % 2 ^ 16 * 2 ^ 48 = Zn off d q:=by unfold Zn; omega
 rw [e4] at i4
 rw [Xr,show IntKind.wrap .u64 0 = 0 from rfl,show ev 291 [.pv (U 0),.pv (I 0),.pv (I 2),.pv (U 0)] [] = ok (U 0) from i1]
 dsimp only [za,zb,zf,zpi,zj,zm,zq,zk,zs,zn,zK,zM,zL,pU8,zpg,zph,zi,zg,zc,zh,ze,zA,zv,zr,zo,zJ,zI,zF,zG,zH,len8,zD,zC,zt,zu]
 rw [show ((0:Int) == 0) = true from rfl,QS off]
 dsimp only [za,zb,zf,zpi,zj,zm,zq,zk,zs,zn,zK,zM,zL,pU8,zpg,zph,zi,zg,zc,zh,ze,zA,zv,zr,zo,zJ,zI,zF,zG,zH,len8,zD,zC,zt,zu]
 rw [show ev 291 [.pv (U 0),.pv (I 2),.pv (I 30),.pv (U (off % 18446744073709551616))] [] = ok (U (off % 1073741824 * 4)) from i2]
 dsimp only [za,zb,zf,zpi,zj,zm,zq,zk,zs,zn,zK,zM,zL,pU8,zpg,zph,zi,zg,zc,zh,ze,zA,zv,zr,zo,zJ,zI,zF,zG,zH,len8,zD,zC,zt,zu]
 rw [zcU (x:=(d:Int)) (by omega),show ev 291 [.pv (U (off % 1073741824 * 4)),.pv (I 32),.pv (I 16),.pv (U d)] [] = ok (U (off % 1073741824 * 4 + d * 4294967296)) from i3]
 dsimp only [za,zb,zf,zpi,zj,zm,zq,zk,zs,zn,zK,zM,zL,pU8,zpg,zph,zi,zg,zc,zh,ze,zA,zv,zr,zo,zJ,zI,zF,zG,zH,len8,zD,zC,zt,zu]
 rw [zcU (x:=(q:Int)) (by omega),show ev 291 [.pv (U (off % 1073741824 * 4 + d * 4294967296)),.pv (I 48),.pv (I 16),.pv (U q)] [] = ok (U (Zn off d q)) from i4]
 rfl
theorem zkP {off e c:Int} (he:0 ≤ e ∧ e ≤ 7) (hc:0 ≤ c ∧ c ≤ 536870911):ev 288 [.pv (.agg [I 1,I off,I 0,I 0,I e,I c,Bo false,I 0,U32 0,U32 0])] [] = ok (U (XS off e c)):=by
 have hm:=Int.emod_nonneg off (show (1073741824:Int) ≠ 0 by decide)
 have hl:=Int.emod_lt_of_pos off (show (0:Int) < 1073741824 by decide)
 have i1:=wU (w:=0) (v:=1) (i:=0) (m:=2) (by decide) (by decide) (by decide) (by decide)
 have i2:=wU (w:=1) (v:=off % 18446744073709551616) (i:=2) (m:=30) (by decide) (by omega) (by decide) (by decide)
 have e2:(1:Int) + off % 18446744073709551616 % 2 ^ 30 * 2 ^ 2 = off % 1073741824 * 4 + 1:=by omega
 rw [e2] at i2
 have i3:=wU (w:=off % 1073741824 * 4 + 1) (v:=e) (i:=32) (m:=3) (by omega) (by omega) (by decide) (by decide)
 have e3:off % 1073741824 * 4 + 1 + e % 2 ^ 3 * 2 ^ 32 = off % 1073741824 * 4 + 1 + e * 4294967296:=by omega
 rw [e3] at i3
 have i4:=wU (w:=off % 1073741824 * 4 + 1 + e * 4294967296) (v:=c) (i:=35) (m:=29) (by omega) (by omega) (by decide) (by decide)
 have e4:off % 1073741824 * 4 + 1 + e * 4294967296 + c % 2 ^ 29 * 2 ^ 35 = XS off e c:=by unfold XS; omega
 rw [e4] at i4
 rw [Xr,show IntKind.wrap .u64 1 = 1 from rfl,show ev 291 [.pv (U 0),.pv (I 0),.pv (I 2),.pv (U 1)] [] = ok (U 1) from i1]
 dsimp only [za,zb,zf,zpi,zj,zm,zq,zk,zs,zn,zK,zM,zL,pU8,zpg,zph,zi,zg,zc,zh,ze,zA,zv,zr,zo,zJ,zI,zF,zG,zH,len8,zD,zC,zt,zu]
 rw [show ((1:Int) == 0) = false from rfl,show ((1:Int) == 1) = true from rfl,QS off]
 dsimp only [za,zb,zf,zpi,zj,zm,zq,zk,zs,zn,zK,zM,zL,pU8,zpg,zph,zi,zg,zc,zh,ze,zA,zv,zr,zo,zJ,zI,zF,zG,zH,len8,zD,zC,zt,zu]
 rw [show ev 291 [.pv (U 1),.pv (I 2),.pv (I 30),.pv (U (off % 18446744073709551616))] [] = ok (U (off % 1073741824 * 4 + 1)) from i2]
 dsimp only [za,zb,zf,zpi,zj,zm,zq,zk,zs,zn,zK,zM,zL,pU8,zpg,zph,zi,zg,zc,zh,ze,zA,zv,zr,zo,zJ,zI,zF,zG,zH,len8,zD,zC,zt,zu]
 rw [zcU (x:=e) (by omega),show ev 291 [.pv (U (off % 1073741824 * 4 + 1)),.pv (I 32),.pv (I 3),.pv (U e)] [] = ok (U (off % 1073741824 * 4 + 1 + e * 4294967296)) from i3]
 dsimp only [za,zb,zf,zpi,zj,zm,zq,zk,zs,zn,zK,zM,zL,pU8,zpg,zph,zi,zg,zc,zh,ze,zA,zv,zr,zo,zJ,zI,zF,zG,zH,len8,zD,zC,zt,zu]
 rw [zcU (x:=c) (by omega),show ev 291 [.pv (U (off % 1073741824 * 4 + 1 + e * 4294967296)),.pv (I 35),.pv (I 29),.pv (U c)] [] = ok (U (XS off e c)) from i4]
 rfl
theorem zoQ {a1 a2 a3 a4 a5 a6 a7 a8 a9:Int} {b:Bool}:yZ [false,false,false,false,false,false,true,false,false,false] [I a1,I a2,I a3,I a4,I a5,I a6,Bo b,I a7,U32 a8,U32 a9] [I a1,I a2,I a3,I a4,I a5,I a6,Bo b,I a7,U32 a8,U32 a9] = some true:=by
 simp [yZ]
theorem QX {off:Int} {d q:Nat} (ho:-536870912 ≤ off ∧ off ≤ 536870911) (hd:d ≤ 65535) (hq:q ≤ 65535):ev 252 [.pv (.agg [I 0,I off,I d,I q,I 0,I 0,Bo false,I 0,U32 0,U32 0])] [] = ok (.tup [U (Zn off d q),Bo true]):=by
 have hp:=zkO (off:=off) hd hq
 obtain ⟨q1,q2,q3⟩:=WS ho hd hq
 rw [Yq,YX,hp]
 dsimp only [za,zb,zf,zpi,zj,zm,zq,zk,zs,zn,zK,zM,zL,pU8,zpg,zph,zi,zg,zc,zh,ze,zA,zv,zr,zo,zJ,zI,zF,zG,zH,len8,zD,zC,zt,zu]
 rw [xj q2,q1]
 dsimp only [ptc,za,zb,zf,zpi,zj,zm,zq,zk,zs,zn,zK,zM,zL,pU8,zpg,zph,zi,zg,zc,zh,ze,zA,zv,zr,zo,zJ,zI,zF,zG,zH,len8,zD,zC,zt,zu]
 rw [zoQ]
 rfl
theorem zbp {off e c:Int} (ho:-536870912 ≤ off ∧ off ≤ 536870911) (he:0 ≤ e ∧ e ≤ 7) (hc:0 ≤ c ∧ c ≤ 536870911):ev 252 [.pv (.agg [I 1,I off,I 0,I 0,I e,I c,Bo false,I 0,U32 0,U32 0])] [] = ok (.tup [U (XS off e c),Bo true]):=by
 have hp:=zkP (off:=off) he hc
 obtain ⟨q1,q2,q3⟩:=WR ho he hc
 rw [Yq,YX,hp]
 dsimp only [za,zb,zf,zpi,zj,zm,zq,zk,zs,zn,zK,zM,zL,pU8,zpg,zph,zi,zg,zc,zh,ze,zA,zv,zr,zo,zJ,zI,zF,zG,zH,len8,zD,zC,zt,zu]
 rw [xj q2,q1]
 dsimp only [ptc,za,zb,zf,zpi,zj,zm,zq,zk,zs,zn,zK,zM,zL,pU8,zpg,zph,zi,zg,zc,zh,ze,zA,zv,zr,zo,zJ,zI,zF,zG,zH,len8,zD,zC,zt,zu]
 rw [zoQ]
 rfl
theorem zaT:∀ (D:Nat) {x:Nd},VN x → Dp D x → yh D x ≤ vI D x
 | 0,x,hv,hd => by
  have h0:x.kind = 0:=hd
  rw [Zo hv h0]
  exact Int.le_refl _
 | D + 1,x,hv,hd => by
  by_cases h0:x.kind = 0
  ·rw [Zo hv h0]
   exact Vu (D + 1) hv
  ·have hd':=(hd.resolve_left h0).2
   rw [yh,vI,if_neg h0]
   have h1:xS x ≤ zdo x:=by
    unfold zdo
    split
    ·rename_i h
     obtain ⟨hs,_⟩:=ZY hv
     rcases hs with hs | hs | hs <;> omega
    ·omega
   have h2:∀ l:List Nd,(∀ t ∈ l,yh D t ≤ vI D t) → yK (l.map (yh D)) ≤ yK (l.map (vI D)):=by
    intro l
    induction l with
    | nil => intro _; exact Int.le_refl _
    | cons t l ih =>
     intro h
     rw [List.map_cons,List.map_cons,yR,yR]
     have:=h t List.mem_cons_self
     have:=ih fun x hx => h x (List.mem_cons_of_mem _ hx)
     omega
   have:=h2 (tgt x) fun t ht => zaT D (Wg hv t ht) (hd' t ht)
   omega
theorem W2 {C:Nd → Int} {G:Int → Nat → Nd × Int × Int} {Q:Nd → Prop}:∀ (c i:Nat) (m:Int) (acc:List Nd),(∀ m j,i ≤ j → j < i + c → (G m j).2.2 = 0 → C (G m j).1 ≤ m - (G m j).2.1 ∧ Q (G m j).1) → (yB G c i m acc).2.2 = 0 →
  ∃ ys,(yB G c i m acc).1 = acc ++ ys ∧ ys.length = c ∧ yK (ys.map C) ≤ m - (yB G c i m acc).2.1 ∧ ∀ y ∈ ys,Q y
 | 0,i,m,acc,h,h0 => ⟨[],by simp [yB],rfl,by simp [yB,xB],fun y hy => by cases hy⟩
 | c + 1,i,m,acc,h,h0 => by
  rw [yB] at h0 ⊢
  by_cases e:(G m i).2.2 = 0
  ·rw [if_pos e] at h0 ⊢
   obtain ⟨ys,k1,k2,k3,k4⟩:=W2 c (i + 1) _ _ (fun m j q1 q2 => h m j (by omega) (by omega)) h0
   obtain ⟨g1,g2⟩:=h m i (Nat.le_refl _) (by omega) e
   refine ⟨(G m i).1 :: ys,by rw [k1]; simp,by simp [k2],?_,fun y hy => ?_⟩
   ·rw [List.map_cons,yR]; omega
   ·rcases List.mem_cons.1 hy with rfl | hy
    ·exact g2
    ·exact k4 y hy
  ·rw [if_neg e] at h0
   exact absurd h0 e
theorem K6 {c:Nd → Int}:∀ (l:List Nd) (n:Nat),(∀ x ∈ l,0 ≤ c x) → yK ((l.take n).map c) ≤ yK (l.map c)
 | [],n,_ => by simp
 | x :: l,0,h => by
  rw [List.take_zero,List.map_nil,xB]
  exact wg fun y hy => by
   obtain ⟨t,ht,rfl⟩:=List.mem_map.1 hy
   exact h t ht
 | x :: l,n + 1,h => by
  rw [List.take_succ_cons,List.map_cons,List.map_cons,yR,yR]
  have:=K6 l n fun y hy => h y (List.mem_cons_of_mem _ hy)
  omega
def Cst (D:Nat) (F:Int → Int → Int → Nd × Int × Int):Prop:=∀ m s a,(F m s a).2.2 = 0 → vI D (zU (F m s a).1) ≤ m - (F m s a).2.1 ∧ VN (F m s a).1
theorem zcB {D:Nat} {F:Int → Int → Int → Nd × Int × Int} (h:Cst D F) (l:List (List Int)) (m:Int) {o:Ob} (hd:0 ≤ o.data) (hz:(yG F l m o).2.2 = 0) :
  ∃ d ks,(yG F l m o).1 = .mk 1 0 0 d ks ∧ d.length ≤ 8 * o.data.toNat ∧ ks.length = o.ptrs.toNat ∧ yK ((ks.map zU).map (vI D)) ≤ m - (yG F l m o).2.1 ∧ (∀ y ∈ ks,VN y) ∧ ((yG F l m o).2.1 = (yG F l m o).2.1):=by
 unfold yG at hz ⊢
 have hz':(yB (fun m (i:Nat) => F m o.seg (o.at_ + o.data + i)) o.ptrs.toNat 0 m []).2.2 = 0:=hz
 obtain ⟨ys,k1,k2,k3,k4⟩:=W2 (C:=fun x => vI D (zU x)) (Q:=VN) o.ptrs.toNat 0 m [] (fun m j _ _ h0 => h m o.seg (o.at_ + o.data + j) h0) hz'
 rw [wi hz']
 have hcl:=Zf l o.seg o.at_ o.data
 refine ⟨_,_,rfl,by rw [yX]; omega,by rw [k1,zpl,k2],?_,fun y hy => k4 y (by rw [k1,zpl] at hy; exact hy),rfl⟩
 rw [k1,zpl,List.map_map]
 exact k3
theorem zeZ (d:List Int) (ks:List Nd):zU (.mk 1 0 0 d ks) = .mk 1 0 0 (d.take (8 * yz d)) ((ks.map zU).take (xq ks)):=by rw [zU,if_pos rfl,yw]
theorem zlF {l:List (List Int)} (hl:xZ l) (hs:Sm l) {s a:Int} (h0:(fol l s a).1 ≠ 0) (hf:(fol l s a).2.2.2 = 0) (he:(obj l s a).2 = 0) :
  ((obj l s a).1.kind = 1 → (obj l s a).1.data + (obj l s a).1.ptrs ≤ (obj l s a).1.cost) ∧ ((obj l s a).1.kind = 2 → (obj l s a).1.elem ≠ 7 → z4 (obj l s a).1.elem (obj l s a).1.n ≤ (obj l s a).1.cost) ∧
  ((obj l s a).1.kind = 2 → (obj l s a).1.elem = 7 → 1 + (obj l s a).1.n * ((obj l s a).1.data + (obj l s a).1.ptrs) ≤ (obj l s a).1.cost ∧ ((obj l s a).1.data + (obj l s a).1.ptrs = 0 → 1 + (obj l s a).1.n ≤ (obj l s a).1.cost)):=by
 have hd:=Yf (QK hl s a)
 unfold obj at he ⊢
 rw [if_pos hf,if_neg h0] at he ⊢
 unfold zfU at he ⊢
 generalize ZB (fol l s a).1 = p at he hd ⊢
 by_cases k0:p.1 = 0
 ·rw [if_pos k0] at he ⊢
  unfold zfV at he ⊢
  by_cases hb:inB l (fol l s a).2.1 ((fol l s a).2.2.1 + p.2.1) (p.2.2.1 + p.2.2.2.1)
  ·rw [if_pos hb]
   exact ⟨fun _ => by dsimp only; omega,fun h => absurd h (by dsimp only; omega),fun h => absurd h (by dsimp only; omega)⟩
  ·rw [if_neg hb] at he; exact vD he (by decide)
 ·rw [if_neg k0] at he ⊢
  by_cases k1:p.1 = 1
  ·rw [if_pos k1] at he ⊢
   unfold zfT at he ⊢
   by_cases h7:p.2.2.2.2.1 = 7
   ·rw [if_pos h7] at he ⊢
    unfold zdl at he ⊢
    by_cases hb:inB l (fol l s a).2.1 ((fol l s a).2.2.1 + p.2.1) (p.2.2.2.2.2.1 + 1)
    ·rw [if_pos hb] at he ⊢
     split at he
     ·rename_i hk
      rw [if_pos hk]
      refine ⟨fun h => absurd h (by dsimp only; omega),fun _ h => absurd rfl h,fun _ _ => ⟨?_,fun h => ?_⟩⟩
      ·have:=hk.2.1
       have:=hk.2.2
       dsimp only
       split <;> omega
      ·dsimp only at h ⊢
       rw [if_pos h]
       omega
     ·exact vD he (by decide)
    ·rw [if_neg hb] at he; exact vD he (by decide)
   ·rw [if_neg h7] at he ⊢
    by_cases hb:inB l (fol l s a).2.1 ((fol l s a).2.2.1 + p.2.1) (z4 p.2.2.2.2.1 p.2.2.2.2.2.1)
    ·rw [if_pos hb]
     exact ⟨fun h => absurd h (by dsimp only; omega),fun _ _ => by dsimp only; omega,fun _ h => absurd h h7⟩
    ·rw [if_neg hb] at he; exact vD he (by decide)
  ·rw [if_neg k1] at he
   split at he
   ·exact vD he (by decide)
   ·exact vD he (by decide)
theorem zlg {l:List (List Int)} (hl:xZ l) (hs:Sm l):∀ D,Cst D (den l D):=by
 intro D
 induction D with
 | zero =>
  intro m s a hz
  unfold den at hz ⊢
  by_cases h1:(fol l s a).2.2.2 = 0
  ·rw [if_pos h1] at hz ⊢
   by_cases h2:(fol l s a).1 = 0
   ·rw [if_pos h2]
    exact ⟨by show 0 ≤ m - m; omega,vn0⟩
   ·rw [if_neg h2] at hz; exact absurd hz (show ¬ (7:Int) = 0 by decide)
  ·rw [if_neg h1] at hz; exact absurd hz h1
 | succ D ih =>
  intro m s a hz
  refine ⟨?_,(zaF hl hs (D + 1) m s a hz).1⟩
  rw [den] at hz ⊢
  dsimp only at hz ⊢
  by_cases h1:(fol l s a).2.2.2 = 0
  ·rw [if_pos h1] at hz ⊢
   by_cases h2:(fol l s a).1 = 0
   ·rw [if_pos h2]
    show vI (D + 1) (zU nd0) ≤ m - m
    rw [zai,vI]
    show (if (0:Int) = 0 then 0 else _) ≤ _
    rw [if_pos rfl]
    omega
   ·rw [if_neg h2] at hz ⊢
    unfold zda at hz ⊢
    by_cases h3:(obj l s a).2 = 0
    ·rw [if_pos h3] at hz ⊢
     have ho:=J2 hl hs h2 h1 h3
     have hi:=zlF hl hs h2 h1 h3
     generalize (obj l s a).1 = o at hz ho hi ⊢
     by_cases h4:o.cost > m
     ·rw [if_pos h4] at hz; exact absurd hz (show ¬ (8:Int) = 0 by decide)
     ·rw [if_neg h4] at hz ⊢
      obtain ⟨hat,hd,hq,hel,hn,hco,hk,hw,hzz⟩:=ho
      by_cases k1:o.kind = 1
      ·rw [if_pos k1] at hz ⊢
       obtain ⟨d,ks,e1,e2,e3,e4,e5,_⟩:=zcB ih l (m - o.cost) hd.1 hz
       rw [e1,zeZ,vI]
       show (if (1:Int) = 0 then 0 else zdo (.mk 1 0 0 (d.take (8 * yz d)) ((ks.map zU).take (xq ks))) + yK (((ks.map zU).take (xq ks)).map (vI D))) ≤ _
       rw [if_neg (by decide),VE,if_neg (fun h => absurd h.1 (by decide))]
       have e6:xS (.mk 1 0 0 (d.take (8 * yz d)) ((ks.map zU).take (xq ks))) = (((d.take (8 * yz d)).length / 8 + ((ks.map zU).take (xq ks)).length:Nat):Int):=rfl
       have e7:=K6 (c:=vI D) (ks.map zU) (xq ks) (fun x hx => by
        obtain ⟨y,hy,rfl⟩:=List.mem_map.1 hx
        exact Vu D (Jh y (e5 y hy)))
       rw [e6,List.length_take,List.length_take,List.length_map]
       have:=hi.1 k1
       omega
      ·have k2:o.kind = 2:=by omega
       rw [if_neg k1] at hz ⊢
       unfold Ju at hz ⊢
       by_cases h6:o.elem < 6
       ·rw [if_pos h6]
        show vI (D + 1) (zU (.mk 2 o.elem o.n _ [])) ≤ m - (m - o.cost)
        rw [zU,if_neg (by decide),vI]
        show (if (2:Int) = 0 then 0 else zdo (.mk 2 o.elem o.n _ []) + yK ((tgt (.mk 2 o.elem o.n _ [])).map (vI D))) ≤ _
        rw [if_neg (by decide),VE,if_neg (fun h => by omega),zkz,if_neg (fun h => by omega)]
        have e6:∀ d,xS (.mk 2 o.elem o.n d []) = z4 o.elem o.n:=fun d => by
         unfold xS
         show (if (2:Int) = 0 then 0 else if (2:Int) = 1 then _ else if o.elem = 7 then _ else z4 o.elem o.n) = _
         rw [if_neg (by decide),if_neg (by decide),if_neg (by omega)]
        show xS (.mk 2 o.elem o.n _ []) + 0 + 0 ≤ _
        rw [e6,← (hw k2 h6).2]
        omega
       ·rw [if_neg h6] at hz ⊢
        have hz':(yB (fun m (i:Nat) => if o.elem = 6 then den l D m o.seg (o.at_ + i) else yG (den l D) l m (elt o i)) o.n.toNat 0 (m - o.cost) []).2.2 = 0:=hz
        rw [wi hz']
        by_cases e6:o.elem = 6
        ·obtain ⟨ys,q1,q2,q3,q4⟩:=W2 (C:=fun x => vI D (zU x)) (Q:=VN) o.n.toNat 0 (m - o.cost) [] (fun m j _ _ h0 => by
          rw [if_pos e6] at h0 ⊢
          exact ih _ _ _ h0) hz'
         generalize yB (fun m (i:Nat) => if o.elem = 6 then den l D m o.seg (o.at_ + i) else yG (den l D) l m (elt o i)) o.n.toNat 0 (m - o.cost) [] = K at q1 q3 ⊢
         show vI (D + 1) (zU (.mk 2 o.elem o.n [] K.1)) ≤ m - K.2.1
         rw [q1,zpl,zU,if_neg (by decide),yw,vI]
         show (if (2:Int) = 0 then 0 else zdo (.mk 2 o.elem o.n [] (ys.map zU)) + yK ((tgt (.mk 2 o.elem o.n [] (ys.map zU))).map (vI D))) ≤ _
         rw [if_neg (by decide),VE,if_neg (fun h => by omega),zkz,if_neg (fun h => by omega)]
         have e7:xS (.mk 2 o.elem o.n [] (ys.map zU)) = z4 o.elem o.n:=by
          unfold xS
          show (if (2:Int) = 0 then 0 else if (2:Int) = 1 then _ else if o.elem = 7 then _ else z4 o.elem o.n) = _
          rw [if_neg (by decide),if_neg (by decide),if_neg (by omega)]
         have:=hi.2.1 k2 (by omega)
         rw [e7,List.map_map]
         have q3':yK (ys.map (vI D ∘ zU)) ≤ m - o.cost - K.2.1:=q3
         omega
        ·have e7:o.elem = 7:=by omega
         obtain ⟨ys,q1,q2,q3,q4⟩:=W2 (C:=fun x => yK ((zU x).kids.map (vI D))) (Q:=fun x => (zU x).data.length / 8 ≤ o.data.toNat ∧ (zU x).kids.length ≤ o.ptrs.toNat) o.n.toNat 0 (m - o.cost) [] (fun m j _ _ h0 => by
          rw [if_neg e6] at h0 ⊢
          obtain ⟨d,ks,g1,g2,g3,g4,g5,_⟩:=zcB ih l m (o:=elt o j) hd.1 h0
          have g6:=K6 (c:=vI D) (ks.map zU) (xq ks) (fun x hx => by
           obtain ⟨y,hy,rfl⟩:=List.mem_map.1 hx
           exact Vu D (Jh y (g5 y hy)))
          rw [g1,zeZ]
          refine ⟨?_,?_,?_⟩
          ·show yK (((ks.map zU).take (xq ks)).map (vI D)) ≤ _
           omega
          ·show (d.take (8 * yz d)).length / 8 ≤ _
           have g2':d.length ≤ 8 * o.data.toNat:=g2
           rw [List.length_take]
           omega
          ·show ((ks.map zU).take (xq ks)).length ≤ _
           have g3':ks.length = o.ptrs.toNat:=g3
           rw [List.length_take,List.length_map]
           omega) hz'
         generalize yB (fun m (i:Nat) => if o.elem = 6 then den l D m o.seg (o.at_ + i) else yG (den l D) l m (elt o i)) o.n.toNat 0 (m - o.cost) [] = K at q1 q3 ⊢
         show vI (D + 1) (zU (.mk 2 o.elem o.n [] K.1)) ≤ m - K.2.1
         rw [q1,zpl,zU,if_neg (by decide),yw,vI]
         show (if (2:Int) = 0 then 0 else zdo (.mk 2 o.elem o.n [] (ys.map zU)) + yK ((tgt (.mk 2 o.elem o.n [] (ys.map zU))).map (vI D))) ≤ _
         rw [if_neg (by decide),VE,show tgt (.mk 2 o.elem o.n [] (ys.map zU)) = (ys.map zU).flatMap Nd.kids from if_pos ⟨rfl,e7⟩,Xv,List.map_map]
         have e8:xS (.mk 2 o.elem o.n [] (ys.map zU)) = 1 + o.n * ((yL (ys.map zU) + yP (ys.map zU):Nat):Int):=by
          unfold xS
          show (if (2:Int) = 0 then 0 else if (2:Int) = 1 then _ else if o.elem = 7 then 1 + o.n * ((yL (ys.map zU) + yP (ys.map zU):Nat):Int) else _) = _
          rw [if_neg (by decide),if_neg (by decide),if_pos e7]
         have u1:yL (ys.map zU) ≤ o.data.toNat:=VW fun x hx => by
          obtain ⟨y,hy,rfl⟩:=List.mem_map.1 hx
          exact (q4 y hy).1
         have u2:yP (ys.map zU) ≤ o.ptrs.toNat:=VX fun x hx => by
          obtain ⟨y,hy,rfl⟩:=List.mem_map.1 hx
          exact (q4 y hy).2
         have hc7:=hi.2.2 k2 e7
         have hmul:o.n * ((yL (ys.map zU) + yP (ys.map zU):Nat):Int) ≤ o.n * (o.data + o.ptrs):=Int.mul_le_mul_of_nonneg_left (by omega) hn.1
         rw [e8]
         have q3':yK (ys.map ((fun k => yK (k.kids.map (vI D))) ∘ zU)) ≤ m - o.cost - K.2.1:=q3
         split
         ·rename_i hu
          rw [hu.2.2]
          have:o.n ≤ o.n * (o.data + o.ptrs) ∨ o.data + o.ptrs = 0:=by
           by_cases hz0:o.data + o.ptrs = 0
           ·exact .inr hz0
           ·left
            have:=Int.mul_le_mul_of_nonneg_left (show (1:Int) ≤ o.data + o.ptrs by omega) hn.1
            omega
          rcases this with h | h
          ·simp only [Int.natCast_zero,Int.mul_zero]
           have:=hc7.1
           omega
          ·have:=hc7.2 h
           simp only [Int.natCast_zero,Int.mul_zero]
           omega
         ·have:=hc7.1
          omega
    ·rw [if_neg h3] at hz; exact absurd hz h3
  ·rw [if_neg h1] at hz; exact absurd hz h1
def vh (s:Int):z6:=[[.pv (I s)],[.clo (.func 261) [] [.ptr 0 0,.ptr 1 0]]]
theorem zmg:YL (.func 261) [] [.ptr 0 0,.ptr 1 0] (.clo (.func 261) [] [.ptr 0 0,.ptr 1 0]) = true:=rfl
theorem zlr (a b:List AV):decide ([a,b].length = 2) = true:=rfl
def Vis (D:Nat) (t:Nd):Prop:=∀ s:Int,0 ≤ s → s + yh D t ≤ 4611686018427387904 → ev 261 [.pv t.x,.ptr 0 0,.ptr 1 0] (vh s) = some (.ret (.pv (.tup [])),vh (s + yh D t))
theorem xn:∀ (D:Nat) {x:Nd},VN x → 0 ≤ yh D x
 | 0,x,hv => XI hv
 | D + 1,x,hv => by
  rw [yh]
  have:=XI hv
  have:=wg (l:=(tgt x).map (yh D)) fun y hy => by
   obtain ⟨t,ht,rfl⟩:=List.mem_map.1 hy
   exact xn D (Wg hv t ht)
  omega
theorem XG {f:Nd → Int} {l:List Nd} {i:Nat} (h:i < l.length):yK ((l.drop i).map f) = f l[i] + yK ((l.drop (i + 1)).map f):=by
 rw [List.drop_eq_getElem_cons h,List.map_cons,yR]
theorem zj1 {D:Nat} {q:List Nd} (hq:q.length ≤ 1073741824) (hv:∀ t ∈ q,Vis D t) (hn:∀ t ∈ q,VN t) (ks:List PV) (i1 i2 i7 i8 i9:Int) (xs10 xs11:List PV) (c0 c1 c2 c3 c4:PV):∀ (c j:Nat) (s:Int),j + c = q.length → 0 ≤ s → s + yK ((q.drop j).map (yh D)) ≤ 4611686018427387904 →
  xJ ks i1 i2 (.sl 5 (pvs q)) q.length j (I s) i7 i8 i9 xs10 xs11 c0 c1 c2 c3 c4 = yE ks i1 (IntKind.wrap .i64 (i2 + 1)) (I (s + yK ((q.drop j).map (yh D)))) i7 i8 i9 xs10 xs11:=by
 intro c
 induction c with
 | zero =>
  intro j s hj h0 hs
  rw [vk,decide_eq_false (by omega),List.drop_eq_nil_of_le (by omega)]
  simp [xB]
 | succ c ih =>
  intro j s hj h0 hs
  have hjl:j < q.length:=by omega
  have hV:=hv _ (List.getElem_mem hjl) s h0
  have hp:=xn D (hn _ (List.getElem_mem hjl))
  have hr:0 ≤ yK ((q.drop (j + 1)).map (yh D)):=wg fun y hy => by
   obtain ⟨t,ht,rfl⟩:=List.mem_map.1 hy
   exact xn D (hn t (List.mem_of_mem_drop ht))
  rw [XG hjl] at hs ⊢
  have hV':=hV (by omega)
  unfold vh at hV'
  dsimp only [Nd.x] at hV'
  rw [vk,decide_eq_true (show (j:Int) < (q.length:Int) by omega)]
  dsimp only [za,zb,zf,zpi,zj,zm,zq,zk,zs,zn,zK,zM,zL,pU8,zpg,zph,zi,zg,zc,zh,ze,zA,zv,zr,zo,zJ,zI,zF,zG,zH,len8,zD,zC,zt,zu]
  rw [decide_eq_true (show (5:Nat) = 5 from rfl),decide_eq_true (show 0 ≤ (j:Int) by omega),decide_eq_true (show (j:Int) < ((pvs q).length:Int) by simp; omega)]
  dsimp only [za,zb,zf,zpi,zj,zm,zq,zk,zs,zn,zK,zM,zL,pU8,zpg,zph,zi,zg,zc,zh,ze,zA,zv,zr,zo,zJ,zI,zF,zG,zH,len8,zD,zC,zt,zu]
  rw [Int.toNat_natCast,Zx hjl]
  dsimp only [za,zb,zf,zpi,zj,zm,zq,zk,zs,zn,zK,zM,zL,pU8,zpg,zph,zi,zg,zc,zh,ze,zA,zv,zr,zo,zJ,zI,zF,zG,zH,len8,zD,zC,zt,zu]
  rw [YH,ZS,show (q[j].c.drop 0).take 5 = q[j].c from rfl]
  dsimp only [Nd.c,za,zb,zf,zpi,zj,zm,zq,zk,zs,zn,zK,zM,zL,pU8,zpg,zph,zi,zg,zc,zh,ze,zA,zv,zr,zo,zJ,zI,zF,zG,zH,len8,zD,zC,zt,zu]
  rw [hV']
  dsimp only [za,zb,zf,zpi,zj,zm,zq,zk,zs,zn,zK,zM,zL,pU8,zpg,zph,zi,zg,zc,zh,ze,zA,zv,zr,zo,zJ,zI,zF,zG,zH,len8,zD,zC,zt,zu]
  rw [zmg,zlr,w64 (x:=(j:Int) + 1) (by omega)]
  dsimp only [za,zb,zf,zpi,zj,zm,zq,zk,zs,zn,zK,zM,zL,pU8,zpg,zph,zi,zg,zc,zh,ze,zA,zv,zr,zo,zJ,zI,zF,zG,zH,len8,zD,zC,zt,zu]
  have:=ih (j + 1) (s + yh D q[j]) (by omega) (by omega) (by omega)
  rw [show s + (yh D q[j] + yK ((q.drop (j + 1)).map (yh D))) = s + yh D q[j] + yK ((q.drop (j + 1)).map (yh D)) by omega]
  exact this
theorem Jf {D:Nat} {ks:List Nd} (hq:ks.length ≤ 1073741824) (hv:∀ t ∈ ks,Vis D t) (hn:∀ t ∈ ks,VN t) (i4 i5 i6:Int) (h7:i5 ≠ 7) (xs7 xs8:List PV):∀ (c j:Nat) (s:Int),j + c = ks.length → 0 ≤ s → s + yK ((ks.drop j).map (yh D)) ≤ 4611686018427387904 →
  yE (pvs ks) ks.length j (I s) i4 i5 i6 xs7 xs8 = some (.ret (.pv (.tup [])),vh (s + yK ((ks.drop j).map (yh D)))):=by
 intro c
 induction c with
 | zero =>
  intro j s hj h0 hs
  rw [xk,decide_eq_false (by omega),List.drop_eq_nil_of_le (by omega)]
  simp [xB,vh]
 | succ c ih =>
  intro j s hj h0 hs
  have hjl:j < ks.length:=by omega
  have hV:=hv _ (List.getElem_mem hjl) s h0
  have hp:=xn D (hn _ (List.getElem_mem hjl))
  have hr:0 ≤ yK ((ks.drop (j + 1)).map (yh D)):=wg fun y hy => by
   obtain ⟨t,ht,rfl⟩:=List.mem_map.1 hy
   exact xn D (hn t (List.mem_of_mem_drop ht))
  rw [XG hjl] at hs ⊢
  have hV':=hV (by omega)
  unfold vh at hV'
  dsimp only [Nd.x] at hV'
  rw [xk,decide_eq_true (show (j:Int) < (ks.length:Int) by omega),decide_eq_true (show 0 ≤ (j:Int) by omega),decide_eq_true (show (j:Int) < ((pvs ks).length:Int) by simp; omega)]
  dsimp only [za,zb,zf,zpi,zj,zm,zq,zk,zs,zn,zK,zM,zL,pU8,zpg,zph,zi,zg,zc,zh,ze,zA,zv,zr,zo,zJ,zI,zF,zG,zH,len8,zD,zC,zt,zu]
  rw [Int.toNat_natCast,Zx hjl]
  dsimp only [za,zb,zf,zpi,zj,zm,zq,zk,zs,zn,zK,zM,zL,pU8,zpg,zph,zi,zg,zc,zh,ze,zA,zv,zr,zo,zJ,zI,zF,zG,zH,len8,zD,zC,zt,zu]
  rw [YH,ZS,show (ks[j].c.drop 0).take 5 = ks[j].c from rfl,show (i5 != 7) = true from by simpa using h7]
  dsimp only [Nd.c,za,zb,zf,zpi,zj,zm,zq,zk,zs,zn,zK,zM,zL,pU8,zpg,zph,zi,zg,zc,zh,ze,zA,zv,zr,zo,zJ,zI,zF,zG,zH,len8,zD,zC,zt,zu]
  rw [hV']
  dsimp only [za,zb,zf,zpi,zj,zm,zq,zk,zs,zn,zK,zM,zL,pU8,zpg,zph,zi,zg,zc,zh,ze,zA,zv,zr,zo,zJ,zI,zF,zG,zH,len8,zD,zC,zt,zu]
  rw [zmg,zlr,w64 (x:=(j:Int) + 1) (by omega)]
  dsimp only [za,zb,zf,zpi,zj,zm,zq,zk,zs,zn,zK,zM,zL,pU8,zpg,zph,zi,zg,zc,zh,ze,zA,zv,zr,zo,zJ,zI,zF,zG,zH,len8,zD,zC,zt,zu]
  have:=ih (j + 1) (s + yh D ks[j]) (by omega) (by omega) (by omega)
  rw [show s + (yh D ks[j] + yK ((ks.drop (j + 1)).map (yh D))) = s + yh D ks[j] + yK ((ks.drop (j + 1)).map (yh D)) by omega]
  exact this
theorem zfM {D:Nat} {ks:List Nd} (hq:ks.length ≤ 1073741824) (hk:∀ k ∈ ks,k.kids.length ≤ 1073741824) (hv:∀ k ∈ ks,∀ t ∈ k.kids,Vis D t) (hn:∀ k ∈ ks,∀ t ∈ k.kids,VN t) (i4 i6:Int) (xs7 xs8:List PV):∀ (c j:Nat) (s:Int),j + c = ks.length → 0 ≤ s → s + yK ((ks.drop j).map fun k => yK (k.kids.map (yh D))) ≤ 4611686018427387904 →
  yE (pvs ks) ks.length j (I s) i4 7 i6 xs7 xs8 = some (.ret (.pv (.tup [])),vh (s + yK ((ks.drop j).map fun k => yK (k.kids.map (yh D))))):=by
 intro c
 induction c with
 | zero =>
  intro j s hj h0 hs
  rw [xk,decide_eq_false (by omega),List.drop_eq_nil_of_le (by omega)]
  simp [xB,vh]
 | succ c ih =>
  intro j s hj h0 hs
  have hjl:j < ks.length:=by omega
  have hmem:=List.getElem_mem hjl
  have nn:∀ k ∈ ks,0 ≤ yK (k.kids.map (yh D)):=fun k hk => wg fun y hy => by
   obtain ⟨t,ht,rfl⟩:=List.mem_map.1 hy
   exact xn D (hn k hk t ht)
  have hp:=nn _ hmem
  have hr:0 ≤ yK ((ks.drop (j + 1)).map fun k => yK (k.kids.map (yh D))):=wg fun y hy => by
   obtain ⟨t,ht,rfl⟩:=List.mem_map.1 hy
   exact nn t (List.mem_of_mem_drop ht)
  rw [XG hjl] at hs ⊢
  have hin:=zj1 (hk _ hmem) (hv _ hmem) (hn _ hmem) (pvs ks) ks.length j i4 7 i6 xs7 xs8 (I ks[j].kind) (I ks[j].elem) (I ks[j].n) (.sl 1 (bs ks[j].data)) (.sl 5 (pvs ks[j].kids)) ks[j].kids.length 0 s (by omega) h0 (by rw [List.drop_zero]; omega)
  rw [List.drop_zero,w64 (x:=(j:Int) + 1) (by omega)] at hin
  rw [xk,decide_eq_true (show (j:Int) < (ks.length:Int) by omega),decide_eq_true (show 0 ≤ (j:Int) by omega),decide_eq_true (show (j:Int) < ((pvs ks).length:Int) by simp; omega)]
  dsimp only [za,zb,zf,zpi,zj,zm,zq,zk,zs,zn,zK,zM,zL,pU8,zpg,zph,zi,zg,zc,zh,ze,zA,zv,zr,zo,zJ,zI,zF,zG,zH,len8,zD,zC,zt,zu]
  rw [Int.toNat_natCast,Zx hjl]
  dsimp only [za,zb,zf,zpi,zj,zm,zq,zk,zs,zn,zK,zM,zL,pU8,zpg,zph,zi,zg,zc,zh,ze,zA,zv,zr,zo,zJ,zI,zF,zG,zH,len8,zD,zC,zt,zu]
  rw [YH,ZS,show (ks[j].c.drop 0).take 5 = ks[j].c from rfl,show ((7:Int) != 7) = false from rfl]
  dsimp only [Nd.c,za,zb,zf,zpi,zj,zm,zq,zk,zs,zn,zK,zM,zL,pU8,zpg,zph,zi,zg,zc,zh,ze,zA,zv,zr,zo,zJ,zI,zF,zG,zH,len8,zD,zC,zt,zu]
  rw [w9]
  refine hin.trans ?_
  have:=ih (j + 1) (s + yK (ks[j].kids.map (yh D))) (by omega) (by omega) (by omega)
  rw [show s + (yK (ks[j].kids.map (yh D)) + yK ((ks.drop (j + 1)).map fun k => yK (k.kids.map (yh D)))) = s + yK (ks[j].kids.map (yh D)) + yK ((ks.drop (j + 1)).map fun k => yK (k.kids.map (yh D))) by omega]
  exact this
theorem zh6 {x:Nd} (hg:Z5 x) (hv:VN x):yL x.kids + yP x.kids ≤ 4611686018427387904:=by
 obtain ⟨hd,hk,hks⟩:=YD hg
 have:=VW (l:=x.kids) (b:=17592186044416) fun y hy => by
  have:=(YD (hks y hy)).1
  omega
 have:=VX (l:=x.kids) (b:=1073741824) fun y hy => (YD (hks y hy)).2.1
 omega
theorem ze4:∀ (D:Nat) (x:Nd),Z5 x → VN x → Dp D x → Vis D x
 | D,x,hg,hv,hd => by
  intro s h0 hs
  have ho:=XI hv
  obtain ⟨hgd,hgk,hgs⟩:=YD hg
  have hob:xS x ≤ yh D x:=by
   cases D with
   | zero => exact Int.le_refl _
   | succ D =>
    rw [yh]
    have:=wg (l:=(tgt x).map (yh D)) fun y hy => by
     obtain ⟨t,ht,rfl⟩:=List.mem_map.1 hy
     exact xn D (Wg hv t ht)
    omega
  have hO:=JL hg hv (by omega) (zh6 hg hv)
  dsimp only [Nd.x] at hO
  unfold vh
  rw [Nd.x,Wm,hO,w9]
  dsimp only [za,zb,zf,zpi,zj,zm,zq,zk,zs,zn,zK,zM,zL,pU8,zpg,zph,zi,zg,zc,zh,ze,zA,zv,zr,zo,zJ,zI,zF,zG,zH,len8,zD,zC,zt,zu]
  rw [w64 (x:=s + xS x) (by omega)]
  by_cases k0:x.kind = 0
  ·have:=Jg hv k0
   subst this
   have:=Jf (D:=D) (ks:=[]) (by simp) (fun t h => by cases h) (fun t h => by cases h) 0 0 0 (by decide) (bs []) (pvs []) 0 0 (s + xS nd0) rfl (by omega) (by simp [xB]; omega)
   refine this.trans ?_
   rw [Zo hv k0,VD k0]
   simp [xB,vh]
  ·cases D with
   | zero => exact absurd hd k0
   | succ D =>
    have hd':=(hd.resolve_left k0).2
    have hT:∀ t ∈ tgt x,Vis D t:=fun t ht => ze4 D t (zek hg t ht) (Wg hv t ht) (hd' t ht)
    rw [yh] at hs ⊢
    by_cases h7:x.kind = 2 ∧ x.elem = 7
    ·have et:tgt x = x.kids.flatMap Nd.kids:=if_pos h7
     rw [et,Xv] at hs ⊢
     rw [et] at hT
     have:=zfM (D:=D) hgk (fun k hk => (YD (hgs k hk)).2.1) (fun k hk t ht => hT t (List.mem_flatMap.2 ⟨k,hk,ht⟩)) (fun k hk t ht => Wg hv t (by rw [et]; exact List.mem_flatMap.2 ⟨k,hk,ht⟩)) x.kind x.n (bs x.data) (pvs x.kids) x.kids.length 0 (s + xS x) (by omega) (by omega) (by rw [List.drop_zero]; omega)
     rw [List.drop_zero] at this
     rw [h7.2]
     refine this.trans ?_
     unfold vh
     rw [show s + (xS x + yK (x.kids.map fun k => yK (k.kids.map (yh D)))) = s + xS x + yK (x.kids.map fun k => yK (k.kids.map (yh D))) by omega]
    ·have et:tgt x = x.kids:=if_neg h7
     have he7:x.elem ≠ 7:=fun h => by
      obtain ⟨hs',_⟩:=ZY hv
      rcases hs' with h' | h' | h' <;> omega
     rw [et] at hs hT ⊢
     have:=Jf (D:=D) hgk hT (fun t ht => Wg hv t (by rw [et]; exact ht)) x.kind x.elem x.n he7 (bs x.data) (pvs x.kids) x.kids.length 0 (s + xS x) (by omega) (by omega) (by rw [List.drop_zero]; omega)
     rw [List.drop_zero] at this
     refine this.trans ?_
     unfold vh
     rw [show s + (xS x + yK (x.kids.map (yh D))) = s + xS x + yK (x.kids.map (yh D)) by omega]
theorem zio {D:Nat} {x:Nd} (hg:Z5 x) (hv:VN x) (hd:Dp D x) (hb:yh D x ≤ 4611686018427387904):ev 217 [.pv x.x] [] = ok (I (yh D x)):=by
 have h:=ze4 D x hg hv hd 0 (Int.le_refl _) (by omega)
 unfold vh at h
 dsimp only [Nd.x] at h
 rw [Nd.x,Vq,h]
 dsimp only [za,zb,zf,zpi,zj,zm,zq,zk,zs,zn,zK,zM,zL,pU8,zpg,zph,zi,zg,zc,zh,ze,zA,zv,zr,zo,zJ,zI,zF,zG,zH,len8,zD,zC,zt,zu]
 rw [zmg,zlr,Int.zero_add]
 rfl
theorem zf5 {D:Nat} {x:Nd} (hg:Z5 x) (hv:VN x) (hd:Dp D x) (hb:yh D x ≤ 4611686018427387904):ev 156 [.pv x.x] [] = ok (I (yh D x + 1)):=by
 have h:=zio hg hv hd hb
 have hn:=xn D hv
 dsimp only [Nd.x] at h
 rw [Nd.x,WO,h]
 dsimp only [za,zb,zf,zpi,zj,zm,zq,zk,zs,zn,zK,zM,zL,pU8,zpg,zph,zi,zg,zc,zh,ze,zA,zv,zr,zo,zJ,zI,zF,zG,zH,len8,zD,zC,zt,zu]
 rw [w64 (by omega)]
end Go.Proofs.YtjbjeeoifhegfaaGreatDoor.E
