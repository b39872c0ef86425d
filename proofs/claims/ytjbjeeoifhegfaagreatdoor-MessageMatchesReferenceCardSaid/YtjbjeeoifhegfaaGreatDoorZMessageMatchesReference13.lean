/- A part of the proof of the law MessageMatchesReference, as its statement says it: for every input; its conditions are the statement's own. -/
import Derived.Test.YtjbjeeoifhegfaaGreatDoorZMessageMatchesReference1
import Derived.Test.YtjbjeeoifhegfaaGreatDoorZMessageMatchesReference2
import Derived.Test.YtjbjeeoifhegfaaGreatDoorZMessageMatchesReference3
import Derived.Test.YtjbjeeoifhegfaaGreatDoorZMessageMatchesReference4
import Derived.Test.YtjbjeeoifhegfaaGreatDoorZMessageMatchesReference5
import Derived.Test.YtjbjeeoifhegfaaGreatDoorZMessageMatchesReference6
import Derived.Test.YtjbjeeoifhegfaaGreatDoorZMessageMatchesReference7
import Derived.Test.YtjbjeeoifhegfaaGreatDoorZMessageMatchesReference8
import Derived.Test.YtjbjeeoifhegfaaGreatDoorZMessageMatchesReference9
import Derived.Test.YtjbjeeoifhegfaaGreatDoorZMessageMatchesReference10
import Derived.Test.YtjbjeeoifhegfaaGreatDoorZMessageMatchesReference11
import Derived.Test.YtjbjeeoifhegfaaGreatDoorZMessageMatchesReference12
set_option linter.unusedVariables false
set_option linter.unusedSimpArgs false
open List renaming getElem?_cons_zero->zqP
open List renaming getElem?_cons_succ->zqQ
open Option renaming bind_some->zqR
namespace Go.Proofs.YtjbjeeoifhegfaaGreatDoor.E
theorem zp2 (n:Nat) (xs:List PV):(decide ((PV.sl n xs).cells.length=1)&&(PV.sl n xs).cells.all PV.isCell)=true:=rfl
theorem Qz {b:List Int} (hb:∀ x∈b,zF x) (hl:b.length<=1099511627776) {d w o:Int} (hd:d<=1099511627775) (hw:w<=134217728):ev 40 [.pv (.sl 1 (bs b)),.pv (.agg [I d,I w,I o])] []=ok (.tup [.sl 1 (zL ((yO b).getD [])),I (mE b d w)]):=by
 rw[zjK,QA hb hl]
 unfold mE
 cases hp:yO b with
 |none=>rfl
 |some l=>
  obtain ⟨h1,h2⟩:=vG hb hl hp
  unfold Zr
  dsimp only[zh,zK,zqQ,zqP,zqR,zA]
  rw[show ((0:Int) != 0)=false from rfl]
  dsimp only[zl]
  rw[WU h1 h2 hd (by omega)]
  dsimp only[Nd.x,zh,zK,zqQ,zqP,zqR,vj,yh,xu,zj,zb]
  rfl
theorem zgJ {w:List Int} (hw:Words w) (hn:w.length<536870912):ev 49 [.pv (.sl 1 [.sl 1 (ws w)])] []=ok (.tup [.sl 1 (bs (Wy w)),I 0]):=by
 have p1:ev 99 [.slu 5 1 [],.pv (I 0)] []=some (.ret (.slu 5 1 (bs (e4 0))),[]):=jM (acc:=[]) (by simp) (by omega)
 have p2:=jM (acc:=e4 0) (by decide) (v:=(w.length:Int)) (by omega)
 have hB:=Y7 w hw (by omega)
 rw[zi3,show decide (((([.sl 1 (ws w)]:List PV).length:Nat):Int)<1)=false from rfl,show decide (((([.sl 1 (ws w)]:List PV).length:Nat):Int)>512)=false from rfl,show IntKind.wrap .i64 (((([.sl 1 (ws w)]:List PV).length:Nat):Int)-1)=0 from rfl]
 dsimp only[zl]
 rw[p1]
 dsimp only[zv]
 rw[xg]
 dsimp only[zqR]
 rw[za1,show decide ((0:Int)<((([.sl 1 (ws w)]:List PV).length:Nat):Int))=true from rfl,show decide ((0:Int)<=0)=true from rfl,show ([.sl 1 (ws w)]:List PV)[(0:Int).toNat]? = some (.sl 1 (ws w)) from rfl]
 dsimp only[zj,zqR,w5,zqP,yt,zb]
 rw[zZ,p2]
 dsimp only[zv]
 rw[xg]
 dsimp only[zqR]
 rw[za1,show decide (IntKind.wrap .i64 ((0:Int)+1)<((([.sl 1 (ws w)]:List PV).length:Nat):Int))=false from rfl,show (Int.tmod ((([.sl 1 (ws w)]:List PV).length:Nat):Int) 2==0)=false from rfl]
 dsimp only[zl]
 rw[za2,show decide ((0:Int)<((([.sl 1 (ws w)]:List PV).length:Nat):Int))=true from rfl,show decide ((0:Int)<=0)=true from rfl,show ([.sl 1 (ws w)]:List PV)[(0:Int).toNat]? = some (.sl 1 (ws w)) from rfl]
 dsimp only[zj,zqR,w5,zqP,zb]
 rw[hB]
 dsimp only[zh,yt,zqR]
 have hlen:(e4 0++e4 (w.length:Int)).length=8:=rfl
 rw[show decide ((1:Nat)=1)=true from rfl,yq (by rw[zU,zU,hlen,yT];omega) (by rw[zU,zU,hlen,yT];omega)]
 dsimp only[zb]
 rw[za2,show decide (IntKind.wrap .i64 ((0:Int)+1)<((([.sl 1 (ws w)]:List PV).length:Nat):Int))=false from rfl,←wP]
 rfl
theorem zgw {b:List Int} (hb:∀ x∈b,zF x) (hl:b.length<=1099511627776) {d w o:Int} (hd:d<=1099511627775) (hw:w<=134217728):ev 34 [.pv (.sl 1 (bs b)),.pv (.agg [I d,I w,I o])] []=ok (.tup [.sl 1 (bs (ZE b d w)),I (mE b d w)]):=by
 rw[zjI,Qz hb hl hd hw]
 dsimp only[zh,zK,zqQ,zqP,zqR,zA]
 by_cases h0:mE b d w=0
 ·obtain ⟨l,p1,z1⟩:=KR h0
  obtain ⟨h1,h2⟩:=vG hb hl p1
  have hS:=zgJ (zaF h1 h2 (d:=d) hw) (qu h1 h2 hw z1)
  rw[h0,p1,Option.getD_some,show ((0:Int) != 0)=false from rfl]
  dsimp only[zl]
  rw[jA h1 h2 hd hw]
  dsimp only[zh,zK,zqQ,zqP,zqR,↓zp2,zj,zb]
  rw[hS,(QO p1 z1).1]
  rfl
 ·rw[yP h0,(zaD h0).1]
  rfl
theorem zgz {b:List Int} (hb:∀ x∈b,zF x) (hl:b.length<=1099511627776) {d w o:Int} (hd:d<=1099511627775) (hw:w<=134217728):ev 36 [.pv (.sl 1 (bs b)),.pv (.agg [I d,I w,I o])] []=ok (Bo (Wg b d w)):=by
 rw[zjM,QA hb hl]
 unfold Wg
 cases hp:yO b with
 |none=>rfl
 |some l=>
  obtain ⟨h1,h2⟩:=vG hb hl hp
  unfold Zr
  dsimp only[zh,zK,zqQ,zqP,zqR,zA,yt]
  rw[show ((0:Int)==0)=true from rfl]
  dsimp only[zb]
  match l,h1,h2 with
  |[],_,_=>rfl
  |[W],h1,h2=>
   have hW:=h1.2 W (List.mem_singleton.2 rfl)
   have hWl:W.length<=1099511627776:=by
    have:=h2 0
    rw[Yl] at this
    omega
   have hC:=zgP hWl hW.2 (d:=d) (w:=w) (o:=o) (by omega) (by omega)
   rw[show zL [W]=[.sl 1 (ws W)] from rfl,show ((([.sl 1 (ws W)]:List PV).length:Nat):Int)=1 from rfl,show ((1:Int)==1)=true from rfl,show decide ((0:Int)<1)=true from rfl,show decide ((1:Nat)=1)=true from rfl]
   dsimp only[zj,zqP,zqR,w5,zb]
   rw[hC]
   rfl
  |x::y::r,_,_=>
   rw[Yp,show ((((x::y::r).length:Nat):Int)==1)=false from beq_eq_false_iff_ne.2 (by simp only[List.length_cons];omega)]
   rfl
theorem zgx {a b:List Int} (ha:∀ x∈a,zF x) (hla:a.length<=1099511627776) (hb:∀ x∈b,zF x) (hlb:b.length<=1099511627776) {d w o:Int} (hd:d<=1099511627775) (hw:w<=134217728):ev 37 [.pv (.sl 1 (bs a)),.pv (.sl 1 (bs b)),.pv (.agg [I d,I w,I o])] []=ok (.tup [Bo (vQ a b d w),I (vT a b d w)]):=by
 rw[zjJ,Qz ha hla hd hw]
 dsimp only[zh,zK,zqQ,zqP,zqR,zA]
 by_cases h1:mE a d w=0
 ·rw[h1,show ((0:Int) != 0)=false from rfl]
  dsimp only[zl]
  rw[Qz hb hlb hd hw]
  dsimp only[zh,zK,zqQ,zqP,zqR,zA]
  by_cases h2:mE b d w=0
  ·obtain ⟨l,p1,z1⟩:=KR h1
   obtain ⟨m,p2,z2⟩:=KR h2
   obtain ⟨g1,g2⟩:=vG ha hla p1
   obtain ⟨k1,k2⟩:=vG hb hlb p2
   have x1:vT a b d w=0:=by unfold vT;rw[if_pos h1,h2]
   have x2:vQ a b d w=yU (yR l d w) (yR m d w):=by unfold vQ;rw[if_pos ⟨h1,h2⟩,(QO p1 z1).2.1,(QO p2 z2).2.1]
   have hE:=zfS (zdi g1 g2 (d:=d) (w:=w) (by omega)) (zdi k1 k2 (d:=d) (w:=w) (by omega))
   unfold Nd.x at hE
   rw[h2,p1,p2,Option.getD_some,Option.getD_some,show ((0:Int) != 0)=false from rfl,x1,x2]
   dsimp only[zl]
   rw[zjz,WU g1 g2 hd (by omega),WU k1 k2 hd (by omega),z1,z2]
   dsimp only[Nd.x,zh,zK,zqQ,zqP,zqR,zA,vj,yh,xu,zj,zb]
   rw[show ((0:Int) != 0)=false from rfl]
   dsimp only[zl]
   rw[hE]
   rfl
  ·have x1:vT a b d w=mE b d w:=by unfold vT;rw[if_pos h1]
   have x2:vQ a b d w=false:=by unfold vQ;rw[if_neg (fun h=>h2 h.2)]
   rw[yP h2,x1,x2]
   rfl
 ·have x1:vT a b d w=mE a d w:=by unfold vT;rw[if_neg h1]
  have x2:vQ a b d w=false:=by unfold vQ;rw[if_neg (fun h=>h1 h.1)]
  rw[yP h1,x1,x2]
  rfl
theorem zgy {b:List Int} (hb:∀ x∈b,zF x) (hl:b.length<=1099511627776) {d w o:Int} (hd:d<=1099511627775) (hw:w<=134217728):ev 38 [.pv (.sl 1 (bs b)),.pv (.agg [I d,I w,I o])] []=ok (.tup [U (mH b d w),I (mE b d w)]):=by
 rw[zjL,Qz hb hl hd hw]
 dsimp only[zh,zK,zqQ,zqP,zqR,zA]
 by_cases h0:mE b d w=0
 ·obtain ⟨l,p1,z1⟩:=KR h0
  obtain ⟨h1,h2⟩:=vG hb hl p1
  rw[h0,p1,Option.getD_some,show ((0:Int) != 0)=false from rfl]
  dsimp only[zl]
  rw[zgF h1 h2 hd hw,(QO p1 z1).2.2,z1]
  rfl
 ·rw[yP h0,(zaD h0).2]
  rfl
theorem zgA {b:List Int} (hb:∀ x∈b,zF x) (hl':b.length<=68719476736):ev 39 [.pv (.sl 1 (bs b))] []=ok (.tup [.sl 1 (bs (mP b)),I (pE b)]):=by
 have hl:b.length<=1099511627776:=by omega
 rw[zjN,QA hb hl]
 unfold mP pE
 cases hp:yO b with
 |none=>rfl
 |some l=>
  unfold Zr
  dsimp only[zh,zK,zqQ,zqP,zqR,zA]
  rw[show ((0:Int) != 0)=false from rfl,if_neg (by simp),if_neg (by simp)]
  dsimp only[zl]
  have h8:=(zdP hp).2
  rw[zjG,J9 hb hl (n:=b.length/8) (by omega)]
  dsimp only[zv]
  rw[Wn]
  dsimp only[zqR,zqQ,zqP,yL,vm,zl]
  rw[xg]
  dsimp only[zqR]
  rw[zgI (Y1 _ hb) (by rw[yZ];omega)]
  rfl
theorem zlY {a b:List Int} (ha:Bytes a) (hb:Bytes b) (d w o:Int):ev 6 [.pv (.sl 1 (bs a)),.pv (.sl 1 (bs b)),.pv (.agg [I d,I w,I o])] []=ok (Bo true):=by
 obtain ⟨ba,ea,ca⟩:=jh ha.2 d w o
 obtain ⟨bb,eb,cb⟩:=jh hb.2 d w o
 rw[ziR,zf8]
 dsimp only[zh,yL,zqR,vm,zl]
 rw[ea]
 dsimp only[zh,yL,zqR]
 cases ba with
 |false=>rfl
 |true=>
  dsimp only[vm,zl]
  rw[eb]
  dsimp only[zh,yL,zqR]
  cases bb with
  |false=>rfl
  |true=>
   obtain ⟨hla,hd,hw⟩:=ca rfl
   obtain ⟨hlb,_,_⟩:=cb rfl
   have hlA:a.length<=1099511627776:=by omega
   have hlB:b.length<=1099511627776:=by omega
   have hlc:=zio ha.2 hlA (d:=d) (w:=w) (by omega)
   have hP:((mP a).length)<=17592186044416:=by have:=(zma hla).2;omega
   dsimp only[vm,zl]
   rw[r7 ha.2 hlA (by omega) (by omega)]
   dsimp only[zv]
   rw[Wn]
   dsimp only[zqR,zqQ,zqP,zA]
   rw[xg]
   dsimp only[zqR]
   rw[zgw ha.2 hlA (by omega) (by omega)]
   dsimp only[zh,zK,zqQ,zqP,zqR,zA]
   rw[Qv hlc]
   dsimp only[zh,yL,zqR,vm,zl]
   rw[show (mE a d w != mE a d w)=false from by simp]
   dsimp only[zl]
   rw[zgo ha.2 hlA (by omega) (by omega)]
   dsimp only[zv,zP,zqR,yL]
   rw[zgz ha.2 hlA (by omega) (by omega)]
   dsimp only[zh,yL,zqR]
   rw[show (Wg a d w != Wg a d w)=false from by simp]
   dsimp only[zl]
   rw[J1 ha.2 hlA hb.2 hlB (by omega) (by omega)]
   dsimp only[zh,zK,zqQ,zqP,zqR,zA,yL]
   rw[zgx ha.2 hlA hb.2 hlB (by omega) (by omega)]
   dsimp only[zh,zK,zqQ,zqP,zqR,zA,yL]
   rw[show (vQ a b d w != vQ a b d w)=false from by simp,show (vT a b d w != vT a b d w)=false from by simp]
   dsimp only[zl]
   rw[jq ha.2 hlA (by omega) (by omega)]
   dsimp only[zh,zK,zqQ,zqP,zqR,zA,xc]
   rw[zgy ha.2 hlA (by omega) (by omega)]
   dsimp only[zh,zK,zqQ,zqP,zqR,zA,xc]
   rw[show (mH a d w != mH a d w)=false from by simp,show (mE a d w != mE a d w)=false from by simp]
   dsimp only[zl]
   rw[jr ha.2 hlA]
   dsimp only[zh,zK,zqQ,zqP,zqR,zA]
   rw[zgA ha.2 (by omega)]
   dsimp only[zh,zK,zqQ,zqP,zqR,zA]
   rw[Qv hP]
   dsimp only[zh,yL,zqR,zb]
   rw[show (pE a==pE a)=true from by simp]
end Go.Proofs.YtjbjeeoifhegfaaGreatDoor.E
