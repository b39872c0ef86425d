/- This text is one of those that prove the law MessageCanonical of the given program, as its statement says it: true on every input that the statement covers. Its conditions are the statement's own. -/
import Derived.Test.YtjbjeeoifhegfaaGreatDoorZMessageCanonical1
import Derived.Test.YtjbjeeoifhegfaaGreatDoorZMessageCanonical2
import Derived.Test.YtjbjeeoifhegfaaGreatDoorZMessageCanonical3
import Derived.Test.YtjbjeeoifhegfaaGreatDoorZMessageCanonical4
import Derived.Test.YtjbjeeoifhegfaaGreatDoorZMessageCanonical5
import Derived.Test.YtjbjeeoifhegfaaGreatDoorZMessageCanonical6
import Derived.Test.YtjbjeeoifhegfaaGreatDoorZMessageCanonical7
import Derived.Test.YtjbjeeoifhegfaaGreatDoorZMessageCanonical8
import Derived.Test.YtjbjeeoifhegfaaGreatDoorZMessageCanonical9
import Derived.Test.YtjbjeeoifhegfaaGreatDoorZMessageCanonical10
import Derived.Test.YtjbjeeoifhegfaaGreatDoorZMessageCanonical11
import Derived.Test.YtjbjeeoifhegfaaGreatDoorZMessageCanonical12
set_option linter.unusedVariables false
set_option linter.unusedSimpArgs false
open List renaming getElem?_cons_zero->zph
open List renaming getElem?_cons_succ->zpi
open Option renaming bind_some->zpj
namespace Go.Proofs.YtjbjeeoifhegfaaGreatDoor.E
theorem zfE {b:List Int} (hb:∀ x∈b,zq x) (hl:b.length<=1099511627776) {d w o:Int} (hd:d<=1099511627775) (hw:w<=134217728):ev 40 [.pv (.sl 1 (bs b)),.pv (.agg [I d,I w,I o])] []=ok (.tup [.sl 1 (zA ((yI b).getD [])),I (mE b d w)]):=by
 rw[zir,rM hb hl]
 unfold mE
 cases hp:yI b with
 |none=>rfl
 |some l=>
  obtain ⟨h1,h2⟩:=w7 hb hl hp
  unfold ZF
  dsimp only[zf,zg,zpj,zO,zpi,zph,zK]
  rw[show ((0:Int) != 0)=false from rfl]
  dsimp only[zt]
  rw[zfH h1 h2 hd (by omega)]
  dsimp only[Nd.x,zf,zg,zpj,zO,zpi,zph,yT,xr,zr,yw,zc]
  rfl
theorem zkG {b:List Int} (hb:Bytes b) (d w o:Int):ev 7 [.pv (.sl 1 (bs b)),.pv (.agg [I d,I w,I o])] []=ok (Bo true):=by
 obtain ⟨ba,ea,ca⟩:=ze5 hb.2 d w o
 rw[zhQ,ze9]
 dsimp only[zf,zg,zpj,xc,vN,zt]
 rw[ea]
 dsimp only[zf,zg,zpj,xc]
 cases ba with
 |false=>rfl
 |true=>
  obtain ⟨hlb,hd,hw⟩:=ca rfl
  have hl:b.length<=1099511627776:=by omega
  have hlc:=zhm hb.2 hl (d:=d) (w:=w) (by omega)
  have hlc':=zhn hb.2 hl (d:=d) (w:=w) (by omega)
  dsimp only[vN,zt]
  rw[zfE hb.2 hl (by omega) (by omega)]
  dsimp only[zf,zg,zpj,zO,zpi,zph,zK]
  rw[Jh hb.2 hl (by omega) (by omega)]
  dsimp only[zf]
  rw[YH]
  dsimp only[zpj,zpi,zph,zK]
  rw[yN]
  dsimp only[zpj]
  rw[show (mE b d w != mE b d w)=false from by simp]
  dsimp only[zt]
  by_cases h0:mE b d w=0
  ·obtain ⟨l,p1,z1⟩:=Km h0
   obtain ⟨h1,h2⟩:=w7 hb.2 hl p1
   obtain ⟨q1,q2,q3,q4,q5,q6,q7,q8⟩:=jQ h1 h2 (d:=d) (w:=w) (by omega) z1
   have hcf:=(Y3 p1 z1).1
   have hi:=zkn hb.2 hl (by omega) h0
   obtain ⟨c0,cc⟩:=zko WY hlc' (by omega) hi
   have hmN:mN (xD b d w) d w=mN b d w:=(zhl WY hlc' hb.2 hl (by omega) c0 h0).1 cc
   have hq:XZ b (xD b d w) d w=true:=by
    unfold XZ
    rw[if_pos ⟨h0,c0⟩]
    exact wW hmN.symm
   have hqe:Wg b (xD b d w) d w=0:=by
    unfold Wg
    rw[if_pos h0]
    exact c0
   have hlen:((xD b d w).length:Int)=8+8*(zI d.toNat (yJ l d w)+1):=by
    rw[hcf,KL]
    push_cast
    omega
   have hcost:xM l d w<=2000:=by
    unfold xM
    have hr1:=(Xm h1 h2 (d:=d) (w:=w) (by omega)).1
    unfold Mt at hr1
    split<;>omega
   rw[show (mE b d w != 0)=false from by simpa using h0]
   dsimp only[zt]
   rw[Jh WY hlc' (by omega) (by omega)]
   dsimp only[zf]
   rw[YH]
   dsimp only[zpj,zpi,zph,zK]
   rw[yN]
   dsimp only[zpj]
   rw[Jv hb.2 hl WY hlc' (by omega) (by omega),hq,hqe]
   dsimp only[zf,zg,zpj,zO,zpi,zph,zK,xc,zc]
   rw[p1,Option.getD_some,zfG h1 h2 (by omega) (by omega)]
   dsimp only[zf,zg,zpj,zO,zpi,zph,zK]
   rw[zfs WY hlc' (by omega) (by omega),hi,c0,cc]
   dsimp only[zf,zg,zpj,xc,zc]
   rw[show ((0:Int)==0)=true from rfl]
   dsimp only[zc]
   rw[Jp hlc]
   dsimp only[zf,zg,zpj,xc,zc]
   rw[ze (x:=1+xM l d w) (by omega),ze (x:=8*(1+xM l d w)) (by omega),ze (x:=8+8*(1+xM l d w)) (by omega),z5,decide_eq_true (show ((xD b d w).length:Int)<=8+8*(1+xM l d w) by omega)]
  ·rw[xC h0,(zho h0).1]
   rfl
end Go.Proofs.YtjbjeeoifhegfaaGreatDoor.E
