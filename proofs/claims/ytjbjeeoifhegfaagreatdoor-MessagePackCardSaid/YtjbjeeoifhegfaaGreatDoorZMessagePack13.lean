/- This text is one of those that prove the law MessagePack of the given program, as its statement says it: true on every input that the statement covers. Its conditions are the statement's own. -/
import Derived.Test.YtjbjeeoifhegfaaGreatDoorZMessagePack1
import Derived.Test.YtjbjeeoifhegfaaGreatDoorZMessagePack2
import Derived.Test.YtjbjeeoifhegfaaGreatDoorZMessagePack3
import Derived.Test.YtjbjeeoifhegfaaGreatDoorZMessagePack4
import Derived.Test.YtjbjeeoifhegfaaGreatDoorZMessagePack5
import Derived.Test.YtjbjeeoifhegfaaGreatDoorZMessagePack6
import Derived.Test.YtjbjeeoifhegfaaGreatDoorZMessagePack7
import Derived.Test.YtjbjeeoifhegfaaGreatDoorZMessagePack8
import Derived.Test.YtjbjeeoifhegfaaGreatDoorZMessagePack9
import Derived.Test.YtjbjeeoifhegfaaGreatDoorZMessagePack10
import Derived.Test.YtjbjeeoifhegfaaGreatDoorZMessagePack11
import Derived.Test.YtjbjeeoifhegfaaGreatDoorZMessagePack12
set_option linter.unusedVariables false
set_option linter.unusedSimpArgs false
open List renaming getElem?_cons_zero → zpg
open List renaming getElem?_cons_succ → zph
open Option renaming bind_some → zpi
namespace Go.Proofs.YtjbjeeoifhegfaaGreatDoor.E
theorem zov:∀ (g:Nat) (W:List Int),W.length ≤ g → (∀ x ∈ pk g W,yq x) ∧ (pk g W).length ≤ 16 * W.length:=by
 intro g
 induction g with
 | zero =>
  intro W hg
  rw [pk]
  exact ⟨(fun x hx => absurd hx List.not_mem_nil),Nat.zero_le _⟩
 | succ g ih =>
  intro W hg
  cases W with
  | nil => rw [pk]; exact ⟨(fun x hx => absurd hx List.not_mem_nil),Nat.zero_le _⟩
  | cons w l =>
   rw [List.length_cons] at hg ⊢
   have hz:=zdk w
   have ht:yq (Qh w):=by have:=zbc w; unfold yq; omega
   have hnz:∀ x ∈ nzW w,yq x:=fun x hx => zib w x ((List.mem_filter.1 hx).1)
   rw [pk]
   split
   ·have hr:=YK is0 255 l
    obtain ⟨i1,i2⟩:=ih (l.drop (runN is0 255 l)) (by rw [List.length_drop]; omega)
    rw [List.length_drop] at i2
    refine ⟨fun x hx => ?_,?_⟩
    ·rcases List.mem_append.1 hx with h | h
     ·rcases List.mem_cons.1 h with rfl | h
      ·exact ht
      ·exact hnz x h
     ·rcases List.mem_cons.1 h with rfl | h
      ·unfold yq; omega
      ·exact i1 x h
    ·rw [List.length_append,List.length_cons,List.length_cons]; omega
   ·split
    ·have hr:=YK dns 255 l
     obtain ⟨i1,i2⟩:=ih (l.drop (runN dns 255 l)) (by rw [List.length_drop]; omega)
     have hbl:(byt (l.take (runN dns 255 l))).length = 8 * runN dns 255 l:=by rw [yX,List.length_take]; omega
     rw [List.length_drop] at i2
     refine ⟨fun x hx => ?_,?_⟩
     ·rcases List.mem_append.1 hx with h | h
      ·rcases List.mem_cons.1 h with rfl | h
       ·exact ht
       ·exact hnz x h
      ·rcases List.mem_cons.1 h with rfl | h
       ·unfold yq; omega
       ·rcases List.mem_append.1 h with h | h
        ·exact Zd _ x h
        ·exact i1 x h
     ·rw [List.length_append,List.length_cons,List.length_cons,List.length_append,hbl]; omega
    ·obtain ⟨i1,i2⟩:=ih l (by omega)
     refine ⟨fun x hx => ?_,?_⟩
     ·rcases List.mem_append.1 hx with h | h
      ·rcases List.mem_cons.1 h with rfl | h
       ·exact ht
       ·exact hnz x h
      ·exact i1 x h
     ·rw [List.length_append,List.length_cons]; omega
theorem zng {b:List Int} (hl:b.length ≤ 4000):(∀ x ∈ mP b,yq x) ∧ (mP b).length ≤ 65536:=by
 unfold mP
 split
 ·exact ⟨(fun x hx => absurd hx List.not_mem_nil),Nat.zero_le _⟩
 ·obtain ⟨h1,h2⟩:=zov (xi (b.length / 8) b).length (xi (b.length / 8) b) (Nat.le_refl _)
  rw [yp] at h2
  exact ⟨h1,by unfold pack; rw [yp]; omega⟩
theorem ziv {b:List Int} (hb:∀ x ∈ b,yq x) (hl:b.length ≤ 1099511627776) {n:Nat} (hn:8 * n = b.length):ev 45 [.pv (.sl 1 (bs b))] [] = ok (.sl 1 (ws (xi n b))):=by
 rw [Wq,zbv hb hl hn]
 dsimp only [za,zb,zf,zpi,zj,zm,zq,zk,zs,zn,zK,zM,zL,pU8,zpg,zph,zi,zg,zc,zh,ze,zA,zv,zr,zo,zJ,zI,zF,zG,zH,len8,zD,zC,zt,zu]
 rw [WE]
 dsimp only [za,zb,zf,zpi,zj,zm,zq,zk,zs,zn,zK,zM,zL,pU8,zpg,zph,zi,zg,zc,zh,ze,zA,zv,zr,zo,zJ,zI,zF,zG,zH,len8,zD,zC,zt,zu]
 rw [yO]
 rfl
theorem zoC {p:List Int} (hb:∀ x ∈ p,yq x) {o:Int} (h:uE p o = 0):(xN p).2 = false ∧ ((uO p o).length:Int) = 8 * (xN p).1.length ∧ ((uO p o).length:Int) ≤ (if 0 > o then 0 else o) ∧ uO p o = zbf p o ∧ Xt (uO p o) ≠ none:=by
 have h0:zbn p o = 0:=by
  by_cases h0:zbn p o = 0
  ·exact h0
  ·have:=(zjV h0).1; omega
 cases hp:Xt (zbf p o) with
 | none => have:=(zh3 h0 hp).1; omega
 | some l =>
  have e:=(ze0 h0 hp).2
  rcases ze2 hb o with ⟨_,e1,_⟩ | ⟨_,_,e1,_⟩ | ⟨e3,e4,e1,e2⟩
  ·omega
  ·omega
  ·have hl:((uO p o).length:Int) = 8 * (xN p).1.length:=by rw [e,e2,yX]; push_cast; rfl
   exact ⟨e4,hl,by rw [hl]; exact e3,e,by rw [e,hp]; simp⟩
theorem zma {p:List Int} {o:Int} (h:uE p o ≠ 0):uO p o = []:=by unfold uO; rw [if_neg h]
theorem zoB {p:List Int} (hb:∀ x ∈ p,yq x) (o:Int):(∀ x ∈ uO p o,yq x) ∧ (uO p o).length ≤ 2056 * p.length:=by
 unfold uO
 split
 ·exact zdE hb o
 ·exact ⟨(fun x hx => absurd hx List.not_mem_nil),Nat.zero_le _⟩
theorem znH {b:List Int} (hb:∀ x ∈ b,yq x) {l:List (List Int)} (hp:Xt b = some l) (hl:b.length ≤ 4000) (o:Int):((b.length:Int) ≤ o → uE (mP b) o = 0 ∧ uO (mP b) o = b) ∧ (o < b.length → uE (mP b) o = 11):=by
 obtain ⟨h1,h2⟩:=zaZ hp
 have hW:∀ x ∈ xi (b.length / 8) b,xI x:=vj _ hb
 have hq:mP b = pack (xi (b.length / 8) b):=by unfold mP; rw [if_neg (by rw [hp]; simp)]
 have hd:=ziX hW
 have hby:byt (xi (b.length / 8) b) = b:=by rw [QF _ hb (by omega),show 8 * (b.length / 8) - b.length = 0 by omega,List.replicate_zero,List.append_nil]
 have hm:WD o = if 0 > o then 0 else o:=rfl
 have hu:=ze2 (p:=mP b) (zng hl).1 o
 rw [hq,hd] at hu
 dsimp only at hu
 rw [yp,hby,← hq] at hu
 refine ⟨fun h => ?_,fun h => ?_⟩
 ·rw [if_neg (by omega)] at hm
  rcases hu with ⟨e0,_,_⟩ | ⟨_,e0,_,_⟩ | ⟨_,_,e1,e2⟩
  ·omega
  ·cases e0
  ·have:=ze0 e1 (l:=l) (by rw [e2]; exact hp)
   exact ⟨this.1,by rw [this.2,e2]⟩
 ·have hm2:WD o < b.length:=by rw [hm]; split <;> omega
  rcases hu with ⟨_,e1,_⟩ | ⟨e0,_,_,_⟩ | ⟨e0,_,_,_⟩
  ·rw [(zjV (by rw [e1]; decide)).1,e1]
  ·omega
  ·omega
theorem KD {b p:List Int} (hb:Bytes b) (hp:Bytes p) {o:Int} (ho:-9223372036854775808 ≤ o ∧ o ≤ 9223372036854775807):ev 10 [.pv (.sl 1 (bs b)),.pv (.sl 1 (bs p)),.pv (I o)] [] = ok (Bo true):=by
 rw [ZZ,zf9,zV,zV]
 dsimp only [za,zb,zf,zpi,zj,zm,zq,zk,zs,zn,zK,zM,zL,pU8,zpg,zph,zi,zg,zc,zh,ze,zA,zv,zr,zo,zJ,zI,zF,zG,zH,len8,zD,zC,zt,zu]
 by_cases h1:(b.length:Int) > 4000
 ·rw [decide_eq_true h1]
  rfl
 rw [decide_eq_false h1]
 dsimp only [za,zb,zf,zpi,zj,zm,zq,zk,zs,zn,zK,zM,zL,pU8,zpg,zph,zi,zg,zc,zh,ze,zA,zv,zr,zo,zJ,zI,zF,zG,zH,len8,zD,zC,zt,zu]
 by_cases h2:(p.length:Int) > 400
 ·rw [decide_eq_true h2]
  rfl
 obtain ⟨uby,ulen⟩:=zoB hp.2 o
 obtain ⟨_,dlen⟩:=zkf hp.2
 have sSame:=Q0 (l:=uO p o) (by omega)
 rw [decide_eq_false h2]
 dsimp only [za,zb,zf,zpi,zj,zm,zq,zk,zs,zn,zK,zM,zL,pU8,zpg,zph,zi,zg,zc,zh,ze,zA,zv,zr,zo,zJ,zI,zF,zG,zH,len8,zD,zC,zt,zu]
 rw [zgd hb.2 (by omega)]
 dsimp only [za,zb,zf,zpi,zj,zm,zq,zk,zs,zn,zK,zM,zL,pU8,zpg,zph,zi,zg,zc,zh,ze,zA,zv,zr,zo,zJ,zI,zF,zG,zH,len8,zD,zC,zt,zu]
 rw [WL hb.2 (by omega)]
 cases hq:Xt b with
 | none =>
  have e1:pE b = 1:=by unfold pE; rw [if_pos hq]
  have e2:mP b = []:=by unfold mP; rw [if_pos hq]
  rw [e1,e2]
  dsimp only [zfE,za,zb,zf,zpi,zj,zm,zq,zk,zs,zn,zK,zM,zL,pU8,zpg,zph,zi,zg,zc,zh,ze,zA,zv,zr,zo,zJ,zI,zF,zG,zH,len8,zD,zC,zt,zu]
  rw [show ((1:Int) != 0) = true from rfl,show ((1:Int) != 1) = false from rfl,show ((((bs []).length:Nat):Int) != 0) = false from rfl]
  dsimp only [za,zb,zf,zpi,zj,zm,zq,zk,zs,zn,zK,zM,zL,pU8,zpg,zph,zi,zg,zc,zh,ze,zA,zv,zr,zo,zJ,zI,zF,zG,zH,len8,zD,zC,zt,zu]
  rw [Ya hp.2 (by omega) 0 0 o]
  dsimp only [za,zb,zf,zpi,zj,zm,zq,zk,zs,zn,zK,zM,zL,pU8,zpg,zph,zi,zg,zc,zh,ze,zA,zv,zr,zo,zJ,zI,zF,zG,zH,len8,zD,zC,zt,zu]
  rw [Vk hp.2 (by omega) ho]
  dsimp only [za,zb,zf,zpi,zj,zm,zq,zk,zs,zn,zK,zM,zL,pU8,zpg,zph,zi,zg,zc,zh,ze,zA,zv,zr,zo,zJ,zI,zF,zG,zH,len8,zD,zC,zt,zu]
  rw [sSame]
  dsimp only [za,zb,zf,zpi,zj,zm,zq,zk,zs,zn,zK,zM,zL,pU8,zpg,zph,zi,zg,zc,zh,ze,zA,zv,zr,zo,zJ,zI,zF,zG,zH,len8,zD,zC,zt,zu]
  rw [show (uE p o != uE p o) = false from by simp]
  dsimp only [za,zb,zf,zpi,zj,zm,zq,zk,zs,zn,zK,zM,zL,pU8,zpg,zph,zi,zg,zc,zh,ze,zA,zv,zr,zo,zJ,zI,zF,zG,zH,len8,zD,zC,zt,zu]
  by_cases z0:uE p o = 0
  ·obtain ⟨y1,y2,y3,y4,y5⟩:=zoC hp.2 z0
   rw [z0,show ((0:Int) != 0) = false from rfl]
   dsimp only [za,zb,zf,zpi,zj,zm,zq,zk,zs,zn,zK,zM,zL,pU8,zpg,zph,zi,zg,zc,zh,ze,zA,zv,zr,zo,zJ,zI,zF,zG,zH,len8,zD,zC,zt,zu]
   rw [WL uby (by omega)]
   obtain ⟨l,hl⟩:=Option.ne_none_iff_exists'.1 y5
   rw [hl]
   dsimp only [zfE,za,zb,zf,zpi,zj,zm,zq,zk,zs,zn,zK,zM,zL,pU8,zpg,zph,zi,zg,zc,zh,ze,zA,zv,zr,zo,zJ,zI,zF,zG,zH,len8,zD,zC,zt,zu]
   rw [zdS hp.2 (by omega)]
   dsimp only [za,zb,zf,zpi,zj,zm,zq,zk,zs,zn,zK,zM,zL,pU8,zpg,zph,zi,zg,zc,zh,ze,zA,zv,zr,zo,zJ,zI,zF,zG,zH,len8,zD,zC,zt,zu]
   rw [y1,show ((0:Int) == 0) = true from rfl]
   dsimp only [za,zb,zf,zpi,zj,zm,zq,zk,zs,zn,zK,zM,zL,pU8,zpg,zph,zi,zg,zc,zh,ze,zA,zv,zr,zo,zJ,zI,zF,zG,zH,len8,zD,zC,zt,zu]
   rw [zV,ym,w64 (x:=8 * ((xN p).1.length:Int)) (by omega),beq_iff_eq.2 y2]
   dsimp only [za,zb,zf,zpi,zj,zm,zq,zk,zs,zn,zK,zM,zL,pU8,zpg,zph,zi,zg,zc,zh,ze,zA,zv,zr,zo,zJ,zI,zF,zG,zH,len8,zD,zC,zt,zu]
   rw [decide_eq_true y3]
  ·rw [Yy z0,zma z0]
   rfl
 | some l =>
  obtain ⟨m1,m2⟩:=zaZ hq
  obtain ⟨q1,q2⟩:=zng (b:=b) (by omega)
  obtain ⟨x1,x2⟩:=znH hb.2 hq (by omega) o
  have e1:pE b = 0:=by unfold pE; rw [if_neg (by rw [hq]; simp)]
  have e2:mP b = pack (xi (b.length / 8) b):=by unfold mP; rw [if_neg (by rw [hq]; simp)]
  have hS:=Q0 (l:=mP b) (by omega)
  have hR:=zkT (l:=xi (b.length / 8) b) (vj _ hb.2) (by rw [yp]; omega)
  rw [← e2] at hR
  dsimp only [zfE,za,zb,zf,zpi,zj,zm,zq,zk,zs,zn,zK,zM,zL,pU8,zpg,zph,zi,zg,zc,zh,ze,zA,zv,zr,zo,zJ,zI,zF,zG,zH,len8,zD,zC,zt,zu]
  rw [show ((0:Int) != 0) = false from rfl]
  dsimp only [za,zb,zf,zpi,zj,zm,zq,zk,zs,zn,zK,zM,zL,pU8,zpg,zph,zi,zg,zc,zh,ze,zA,zv,zr,zo,zJ,zI,zF,zG,zH,len8,zD,zC,zt,zu]
  rw [Ya q1 q2 0 0 o]
  dsimp only [za,zb,zf,zpi,zj,zm,zq,zk,zs,zn,zK,zM,zL,pU8,zpg,zph,zi,zg,zc,zh,ze,zA,zv,zr,zo,zJ,zI,zF,zG,zH,len8,zD,zC,zt,zu]
  rw [e1,show ((0:Int) != 0) = false from rfl]
  dsimp only [za,zb,zf,zpi,zj,zm,zq,zk,zs,zn,zK,zM,zL,pU8,zpg,zph,zi,zg,zc,zh,ze,zA,zv,zr,zo,zJ,zI,zF,zG,zH,len8,zD,zC,zt,zu]
  rw [ziv hb.2 (by omega) (n:=b.length / 8) (by omega)]
  dsimp only [za,zb,zf,zpi,zj,zm,zq,zk,zs,zn,zK,zM,zL,pU8,zpg,zph,zi,zg,zc,zh,ze,zA,zv,zr,zo,zJ,zI,zF,zG,zH,len8,zD,zC,zt,zu]
  rw [hR]
  dsimp only [za,zb,zf,zpi,zj,zm,zq,zk,zs,zn,zK,zM,zL,pU8,zpg,zph,zi,zg,zc,zh,ze,zA,zv,zr,zo,zJ,zI,zF,zG,zH,len8,zD,zC,zt,zu]
  rw [hS]
  dsimp only [za,zb,zf,zpi,zj,zm,zq,zk,zs,zn,zK,zM,zL,pU8,zpg,zph,zi,zg,zc,zh,ze,zA,zv,zr,zo,zJ,zI,zF,zG,zH,len8,zD,zC,zt,zu]
  by_cases h3:(b.length:Int) ≤ o
  ·obtain ⟨w1,w2⟩:=x1 h3
   have hS2:=Q0 (l:=b) (by omega)
   rw [decide_eq_true h3,w1,w2,show ((0:Int) != 0) = false from rfl]
   dsimp only [za,zb,zf,zpi,zj,zm,zq,zk,zs,zn,zK,zM,zL,pU8,zpg,zph,zi,zg,zc,zh,ze,zA,zv,zr,zo,zJ,zI,zF,zG,zH,len8,zD,zC,zt,zu]
   rw [hS2]
   dsimp only [za,zb,zf,zpi,zj,zm,zq,zk,zs,zn,zK,zM,zL,pU8,zpg,zph,zi,zg,zc,zh,ze,zA,zv,zr,zo,zJ,zI,zF,zG,zH,len8,zD,zC,zt,zu]
   rw [decide_eq_false (show ¬ (b.length:Int) > o by omega)]
   dsimp only [za,zb,zf,zpi,zj,zm,zq,zk,zs,zn,zK,zM,zL,pU8,zpg,zph,zi,zg,zc,zh,ze,zA,zv,zr,zo,zJ,zI,zF,zG,zH,len8,zD,zC,zt,zu]
   rw [Ya hp.2 (by omega) 0 0 o]
   dsimp only [za,zb,zf,zpi,zj,zm,zq,zk,zs,zn,zK,zM,zL,pU8,zpg,zph,zi,zg,zc,zh,ze,zA,zv,zr,zo,zJ,zI,zF,zG,zH,len8,zD,zC,zt,zu]
   rw [Vk hp.2 (by omega) ho]
   dsimp only [za,zb,zf,zpi,zj,zm,zq,zk,zs,zn,zK,zM,zL,pU8,zpg,zph,zi,zg,zc,zh,ze,zA,zv,zr,zo,zJ,zI,zF,zG,zH,len8,zD,zC,zt,zu]
   rw [sSame]
   dsimp only [za,zb,zf,zpi,zj,zm,zq,zk,zs,zn,zK,zM,zL,pU8,zpg,zph,zi,zg,zc,zh,ze,zA,zv,zr,zo,zJ,zI,zF,zG,zH,len8,zD,zC,zt,zu]
   rw [show (uE p o != uE p o) = false from by simp]
   dsimp only [za,zb,zf,zpi,zj,zm,zq,zk,zs,zn,zK,zM,zL,pU8,zpg,zph,zi,zg,zc,zh,ze,zA,zv,zr,zo,zJ,zI,zF,zG,zH,len8,zD,zC,zt,zu]
   by_cases z0:uE p o = 0
   ·obtain ⟨y1,y2,y3,y4,y5⟩:=zoC hp.2 z0
    rw [z0,show ((0:Int) != 0) = false from rfl]
    dsimp only [za,zb,zf,zpi,zj,zm,zq,zk,zs,zn,zK,zM,zL,pU8,zpg,zph,zi,zg,zc,zh,ze,zA,zv,zr,zo,zJ,zI,zF,zG,zH,len8,zD,zC,zt,zu]
    rw [WL uby (by omega)]
    obtain ⟨l,hl⟩:=Option.ne_none_iff_exists'.1 y5
    rw [hl]
    dsimp only [zfE,za,zb,zf,zpi,zj,zm,zq,zk,zs,zn,zK,zM,zL,pU8,zpg,zph,zi,zg,zc,zh,ze,zA,zv,zr,zo,zJ,zI,zF,zG,zH,len8,zD,zC,zt,zu]
    rw [zdS hp.2 (by omega)]
    dsimp only [za,zb,zf,zpi,zj,zm,zq,zk,zs,zn,zK,zM,zL,pU8,zpg,zph,zi,zg,zc,zh,ze,zA,zv,zr,zo,zJ,zI,zF,zG,zH,len8,zD,zC,zt,zu]
    rw [y1,show ((0:Int) == 0) = true from rfl]
    dsimp only [za,zb,zf,zpi,zj,zm,zq,zk,zs,zn,zK,zM,zL,pU8,zpg,zph,zi,zg,zc,zh,ze,zA,zv,zr,zo,zJ,zI,zF,zG,zH,len8,zD,zC,zt,zu]
    rw [zV,ym,w64 (x:=8 * ((xN p).1.length:Int)) (by omega),beq_iff_eq.2 y2]
    dsimp only [za,zb,zf,zpi,zj,zm,zq,zk,zs,zn,zK,zM,zL,pU8,zpg,zph,zi,zg,zc,zh,ze,zA,zv,zr,zo,zJ,zI,zF,zG,zH,len8,zD,zC,zt,zu]
    rw [decide_eq_true y3]
   ·rw [Yy z0,zma z0]
    rfl
  ·rw [decide_eq_false h3,decide_eq_true (show (b.length:Int) > o by omega),x2 (by omega),show ((11:Int) != 11) = false from rfl]
   dsimp only [za,zb,zf,zpi,zj,zm,zq,zk,zs,zn,zK,zM,zL,pU8,zpg,zph,zi,zg,zc,zh,ze,zA,zv,zr,zo,zJ,zI,zF,zG,zH,len8,zD,zC,zt,zu]
   rw [Ya hp.2 (by omega) 0 0 o]
   dsimp only [za,zb,zf,zpi,zj,zm,zq,zk,zs,zn,zK,zM,zL,pU8,zpg,zph,zi,zg,zc,zh,ze,zA,zv,zr,zo,zJ,zI,zF,zG,zH,len8,zD,zC,zt,zu]
   rw [Vk hp.2 (by omega) ho]
   dsimp only [za,zb,zf,zpi,zj,zm,zq,zk,zs,zn,zK,zM,zL,pU8,zpg,zph,zi,zg,zc,zh,ze,zA,zv,zr,zo,zJ,zI,zF,zG,zH,len8,zD,zC,zt,zu]
   rw [sSame]
   dsimp only [za,zb,zf,zpi,zj,zm,zq,zk,zs,zn,zK,zM,zL,pU8,zpg,zph,zi,zg,zc,zh,ze,zA,zv,zr,zo,zJ,zI,zF,zG,zH,len8,zD,zC,zt,zu]
   rw [show (uE p o != uE p o) = false from by simp]
   dsimp only [za,zb,zf,zpi,zj,zm,zq,zk,zs,zn,zK,zM,zL,pU8,zpg,zph,zi,zg,zc,zh,ze,zA,zv,zr,zo,zJ,zI,zF,zG,zH,len8,zD,zC,zt,zu]
   by_cases z0:uE p o = 0
   ·obtain ⟨y1,y2,y3,y4,y5⟩:=zoC hp.2 z0
    rw [z0,show ((0:Int) != 0) = false from rfl]
    dsimp only [za,zb,zf,zpi,zj,zm,zq,zk,zs,zn,zK,zM,zL,pU8,zpg,zph,zi,zg,zc,zh,ze,zA,zv,zr,zo,zJ,zI,zF,zG,zH,len8,zD,zC,zt,zu]
    rw [WL uby (by omega)]
    obtain ⟨l,hl⟩:=Option.ne_none_iff_exists'.1 y5
    rw [hl]
    dsimp only [zfE,za,zb,zf,zpi,zj,zm,zq,zk,zs,zn,zK,zM,zL,pU8,zpg,zph,zi,zg,zc,zh,ze,zA,zv,zr,zo,zJ,zI,zF,zG,zH,len8,zD,zC,zt,zu]
    rw [zdS hp.2 (by omega)]
    dsimp only [za,zb,zf,zpi,zj,zm,zq,zk,zs,zn,zK,zM,zL,pU8,zpg,zph,zi,zg,zc,zh,ze,zA,zv,zr,zo,zJ,zI,zF,zG,zH,len8,zD,zC,zt,zu]
    rw [y1,show ((0:Int) == 0) = true from rfl]
    dsimp only [za,zb,zf,zpi,zj,zm,zq,zk,zs,zn,zK,zM,zL,pU8,zpg,zph,zi,zg,zc,zh,ze,zA,zv,zr,zo,zJ,zI,zF,zG,zH,len8,zD,zC,zt,zu]
    rw [zV,ym,w64 (x:=8 * ((xN p).1.length:Int)) (by omega),beq_iff_eq.2 y2]
    dsimp only [za,zb,zf,zpi,zj,zm,zq,zk,zs,zn,zK,zM,zL,pU8,zpg,zph,zi,zg,zc,zh,ze,zA,zv,zr,zo,zJ,zI,zF,zG,zH,len8,zD,zC,zt,zu]
    rw [decide_eq_true y3]
   ·rw [Yy z0,zma z0]
    rfl
end Go.Proofs.YtjbjeeoifhegfaaGreatDoor.E
