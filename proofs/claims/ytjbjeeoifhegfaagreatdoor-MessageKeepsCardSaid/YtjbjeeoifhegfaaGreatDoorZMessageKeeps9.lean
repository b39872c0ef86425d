/- A part of the proof of the law MessageKeeps, as its statement says it: for every input; its conditions are the statement's own. -/
import Derived.KernelRfl
import Derived.Test.YtjbjeeoifhegfaaGreatDoorZMessageKeeps1
import Derived.Test.YtjbjeeoifhegfaaGreatDoorZMessageKeeps2
import Derived.Test.YtjbjeeoifhegfaaGreatDoorZMessageKeeps3
set_option linter.unusedVariables false
set_option linter.unusedSimpArgs false
namespace Go.Proofs.YtjbjeeoifhegfaaGreatDoor.E
theorem zgu (x0:List PV):ev 42 [(.pv (.sl 1 x0))] [] =
 cp (ev 84 [(.pv (U 14695981039346656037)),(.pv (.sl 1 x0))] []) (fun P3=>some (.ret (.pv P3),[])):=zg (fn:=Tryz.f42) _ _
theorem zgq (x0:Int):ev 86 [(.pv (I x0))] [] =
 cond ((Int.tmod x0 2)==0) (
 some (.ret (.pv (I (IntKind.wrap .i64 ((IntKind.wrap .i64 (4*x0))+8)))),[])) (
 some (.ret (.pv (I (IntKind.wrap .i64 ((IntKind.wrap .i64 (4*x0))+4)))),[])):=zg (fn:=Tryz.f86) _ _
noncomputable def qX:Code:=Tryz.f87.body.getD .skip
noncomputable def VX (xs0 xs1:List PV) (i2:Int):Option (Out×za) :=
 ya (zA env ev zN 30 87 0 (sub qX [1,1,1,0,1,0,0])) (zJ env 87 0 0) (zQ 0 (yf (zT env ev 30 87 0 (sub qX [1,1,1,1])) (z8 env 87 Tryz.f87.results.toList 0))) ⟨zR [(0,(.pv (.sl 1 xs0))),(4,(.slu 30 1 xs1)),(5,(.pv (I i2)))],[]⟩
theorem rS (xs0 xs1:List PV) (i2:Int):VX xs0 xs1 i2 =
 cond (decide (i2<(IntKind.wrap .i64 (Int.tdiv (xs0.length:Int) 8)))) (
 cp (ev 94 [(.pv (.sl 1 xs0)),(.pv (I i2))] []) (fun P3=>tK P3 0 fun P5=>tK P3 1 fun P7=>cond ((decide (P5.cells.length=1)&&P5.cells.all PV.isCell)&&true) (cond (ye (xs1.length+1) 8) (VX xs0 (xs1++[P5]) (IntKind.wrap .i64 (i2+1))) none) none)) (
 some (.ret (.tup 0 (.slu 30 1 xs1) [(.v .nilIface),(Bo true)]),[])):=(yd ..).trans (by kernel_rfl)
theorem zgn (x0:List PV):ev 87 [(.pv (.sl 1 x0))] [] =
 cond ((Int.tmod (x0.length:Int) 8) != 0) (
 some (.ret (.tup 0 (.slu 30 1 []) [(.v .nilIface),(Bo false)]),[])) (
 VX x0 [] 0):=zg (fn:=Tryz.f87) _ _
noncomputable def qU:Code:=Tryz.f94.body.getD .skip
noncomputable def VU (xs0:List PV) (i1 i2 i3:Int):Option (Out×za) :=
 ya (zA env ev zN 34 94 0 (sub qU [1,1,1,0,1,0,0])) (zJ env 94 0 0) (zQ 0 (yf (zT env ev 34 94 0 (sub qU [1,1,1,1])) (z8 env 94 Tryz.f94.results.toList 0))) ⟨zR [(0,(.pv (.sl 1 xs0))),(1,(.pv (I i1))),(6,(.pv (U i2))),(7,(.pv (I i3)))],[]⟩
theorem rQ (xs0:List PV) (i1 i2 i3:Int):VU xs0 i1 i2 i3 =
 cond (decide (i3≥0)) (
 cond (decide (0<=(IntKind.wrap .i64 ((IntKind.wrap .i64 (8*i1))+i3)))&&decide ((IntKind.wrap .i64 ((IntKind.wrap .i64 (8*i1))+i3))<(xs0.length:Int))) ((xs0[(IntKind.wrap .i64 ((IntKind.wrap .i64 (8*i1))+i3)).toNat]?).bind fun P1=>(P1.cells[0]?).bind fun P2=>(yq (.pv P2)).bind fun Q3=>VU xs0 i1 (IntKind.wrap .u64 ((IntKind.wrap .u64 (i2*256))+(IntKind.wrap .u64 Q3.2))) (IntKind.wrap .i64 (i3-1))) none) (
 some (.ret (.pv (.tup [(U i2),(Bo true)])),[])):=(yd ..).trans (by kernel_rfl)
theorem zgl (x0:List PV) (x1:Int):ev 94 [(.pv (.sl 1 x0)),(.pv (I x1))] [] =
 cond (decide (x1<0)) (
 some (.ret (.pv (.tup [(U 0),(Bo false)])),[])) (
 cond (decide (x1>(IntKind.wrap .i64 ((IntKind.wrap .i64 (Int.tdiv (x0.length:Int) 8))-1)))) (
  some (.ret (.pv (.tup [(U 0),(Bo false)])),[])) (
  VU x0 x1 0 7)):=zg (fn:=Tryz.f94) _ _
theorem ziQ (x0:Int):ev 104 [(.pv (I x0))] [] =
 cond (x0==0) (
 some (.ret (.pv (.v .nilIface)),[])) (
 some (.ret (.pv (.ifc 152 (.agg [(I x0)]))),[])):=zg (fn:=Tryz.f104) _ _
noncomputable def Vr:Code:=Tryz.f105.body.getD .skip
noncomputable def JG (xs0 xs1 xs2:List PV) (i3 i4:Int):Option (Out×za) :=
 ya (zA env ev zN 55 105 0 (sub Vr [1,1,1,0,1,0,0])) (zJ env 105 0 0) (zQ 0 (yf (zT env ev 55 105 0 (sub Vr [1,1,1,1])) (z8 env 105 Tryz.f105.results.toList 0))) ⟨zR [(0,(.pv (.sl 1 xs0))),(4,(.slu 5 1 xs1)),(21,(.pv (.sl 1 xs2))),(22,(.pv (I i3))),(23,(.pv (I i4)))],[]⟩
noncomputable def JH (xs0 xs1:List PV) (i2 i3:Int):Option (Out×za) :=
 ya (zA env ev zN 55 105 2 (sub Vr [1,1,1,1,1,0,1,0,0])) (zJ env 105 2 0) (zQ 2 (yf (zT env ev 55 105 0 (sub Vr [1,1,1,1,1,1])) (z8 env 105 Tryz.f105.results.toList 0))) ⟨zR [(4,(.slu 5 1 xs0)),(43,(.pv (.sl 1 xs1))),(44,(.pv (I i2))),(45,(.pv (I i3)))],[]⟩
theorem j7 (xs0 xs1 xs2:List PV) (i3 i4:Int):JG xs0 xs1 xs2 i3 i4 =
 cond (decide (i4<i3)) (
 cond (decide (0<=i4)&&decide (i4<(xs2.length:Int))) ((xs2[(i4).toNat]?).bind fun P1=>(P1.cells[0]?).bind fun P2=>(zX P2).bind fun L3=>cond (decide ((L3.2.length:Int)≥536870912)) (
 some (.ret (.tup 0 (.slu 5 1 []) [(.v .nilIface),(I 1)]),[])) (
 (zX P2).bind fun L4=>zh (ev 166 [(.slu 5 1 xs1),(.pv (I (L4.2.length:Int)))] []) (fun A5 H6=>cond (decide (H6.length=0)) ((zO 5 1 A5).bind fun X7=>JG xs0 X7 xs2 i3 (IntKind.wrap .i64 (i4+1))) none) (fun A5 H6=>cond (decide (H6.length=0)) (some (.pan A5,[])) none))) none) (
 cp (ev 167 [(.pv (I (xs0.length:Int)))] []) (fun P3=>(zf .i64 (.pv P3)).bind fun N4=>cond (decide (0<=(IntKind.wrap .i64 (N4-(xs1.length:Int))))&&decide ((IntKind.wrap .i64 (N4-(xs1.length:Int)))<=140737488355328)) (cond (ye (xs1.length+(List.replicate (IntKind.wrap .i64 (N4-(xs1.length:Int))).toNat (U8 0)).length) 1) (JH (xs1++(List.replicate (IntKind.wrap .i64 (N4-(xs1.length:Int))).toNat (U8 0))) xs0 (xs0.length:Int) 0) none) none)):=(yd ..).trans (by kernel_rfl)
theorem j8 (xs0 xs1:List PV) (i2 i3:Int):JH xs0 xs1 i2 i3 =
 cond (decide (i3<i2)) (
 cond (decide (0<=i3)&&decide (i3<(xs1.length:Int))) ((xs1[(i3).toNat]?).bind fun P1=>(P1.cells[0]?).bind fun P2=>cp (ev 117 [(.pv P2)] []) (fun P5=>(zX P5).bind fun L6=>cond (decide (L6.1=1)) (cond (ye (xs0.length+L6.2.length) 1) (JH (xs0++L6.2) xs1 i2 (IntKind.wrap .i64 (i3+1))) none) none)) none) (
 some (.ret (.tup 0 (.slu 5 1 xs0) [(.v .nilIface),(I 0)]),[])):=(yd ..).trans (by kernel_rfl)
theorem zhU (x0:List PV):ev 105 [(.pv (.sl 1 x0))] [] =
 cond (decide ((x0.length:Int)<1)) (
 some (.ret (.tup 0 (.slu 5 1 []) [(.v .nilIface),(I 1)]),[])) (
 cond (decide ((x0.length:Int)>512)) (
  some (.ret (.tup 0 (.slu 5 1 []) [(.v .nilIface),(I 1)]),[])) (
  zh (ev 166 [(.slu 5 1 []),(.pv (I (IntKind.wrap .i64 ((x0.length:Int)-1))))] []) (fun A1 H2=>cond (decide (H2.length=0)) ((zO 5 1 A1).bind fun X3=>JG x0 X3 x0 (x0.length:Int) 0) none) (fun A1 H2=>cond (decide (H2.length=0)) (some (.pan A1,[])) none))):=zg (fn:=Tryz.f105) _ _
noncomputable def uB:Code:=Tryz.f116.body.getD .skip
noncomputable def Kv (xs0:List PV) (i1 i2 i3:Int):Option (Out×za) :=
 ya (zA env ev zN 36 116 0 (sub uB [1,1,1,0,1,0,0])) (zJ env 116 0 0) (zQ 0 (yf (zT env ev 36 116 0 (sub uB [1,1,1,1])) (z8 env 116 Tryz.f116.results.toList 0))) ⟨zR [(0,(.pv (.sl 1 xs0))),(1,(.pv (I i1))),(6,(.pv (U i2))),(17,(.pv (I i3)))],[]⟩
theorem zcZ (xs0:List PV) (i1 i2 i3:Int):Kv xs0 i1 i2 i3 =
 cond (decide (i3<8)) (
 cond (decide (0<=(IntKind.wrap .i64 ((IntKind.wrap .i64 (8*i1))+i3)))&&decide ((IntKind.wrap .i64 ((IntKind.wrap .i64 (8*i1))+i3))<(xs0.length:Int))) ((xs0[(IntKind.wrap .i64 ((IntKind.wrap .i64 (8*i1))+i3)).toNat]?).bind fun P1=>(P1.cells[0]?).bind fun P2=>(yq (.pv P2)).bind fun Q3=>cond (yN .shl (IntKind.wrap .u64 (IntKind.wrap .i64 (8*i3)))) (Kv xs0 i1 (IntKind.wrap .u64 (BitVec.ofInt 64 i2 ||| BitVec.ofInt 64 (IntKind.wrap .u64 ((IntKind.wrap .u64 Q3.2)*2^(min (IntKind.wrap .u64 (IntKind.wrap .i64 (8*i3))).toNat 64)))).toNat) (IntKind.wrap .i64 (i3+1))) none) none) (
 some (.ret (.pv (.tup [(U i2),(Bo true)])),[])):=(yd ..).trans (by kernel_rfl)
theorem zmn (x0:List PV) (x1:Int):ev 116 [(.pv (.sl 1 x0)),(.pv (I x1))] [] =
 cond (decide (x1<0)) (
 some (.ret (.pv (.tup [(U 0),(Bo false)])),[])) (
 cond (decide (x1≥(IntKind.wrap .i64 (Int.tdiv (x0.length:Int) 8)))) (
  some (.ret (.pv (.tup [(U 0),(Bo false)])),[])) (
  Kv x0 x1 0 0)):=zg (fn:=Tryz.f116) _ _
theorem zfG (x0_0 x0_1 x0_2:Int):ev 131 [(.pv (.agg [(I x0_0),(I x0_1),(I x0_2)]))] [] =
 some (.ret (.pv (.agg [(I (if 0>x0_1 then 0 else x0_1))])),[]):=zg (fn:=Tryz.f131) _ _
noncomputable def q7:Code:=Tryz.f134.body.getD .skip
noncomputable def VY (i0 i1 i2 i3:Int) (xs4 xs5:List PV) (i6 i7 i8:Int) (xs9 xs10:List PV):Option (Out×za) :=
 ya (zA env ev zN 61 134 0 (sub q7 [1,1,0,1,0,0])) (zJ env 134 0 2) (zQ 0 (yf (zT env ev 61 134 0 (sub q7 [1,1,1])) (z8 env 134 Tryz.f134.results.toList 0))) ⟨zR [(2,(.ptr 0 0)),(3,(.ptr 1 0)),(5,(.pv (I i0)))],[[(.pv (I i1)),(.pv (I i2)),(.pv (I i3)),(.pv (.sl 1 xs4)),(.pv (.sl 5 xs5))],[(.pv (I i6)),(.pv (I i7)),(.pv (I i8)),(.pv (.sl 1 xs9)),(.pv (.sl 5 xs10))]]⟩
theorem rU (i0 i1 i2 i3:Int) (xs4 xs5:List PV) (i6 i7 i8:Int) (xs9 xs10:List PV):VY i0 i1 i2 i3 xs4 xs5 i6 i7 i8 xs9 xs10 =
 cond (decide (i0<(xs5.length:Int))) (
 cond (decide (0<=i0)&&decide (i0<(xs5.length:Int))) ((xs5[(i0).toNat]?).bind fun P1=>cond (decide (5<=P1.cells.length)) (cond (decide (0<=i0)&&decide (i0<(xs10.length:Int))) ((xs10[(i0).toNat]?).bind fun P2=>cond (decide (5<=P2.cells.length)) (cp (ev 134 [(.pv (.agg ((P1.cells.drop 0).take 5))),(.pv (.agg ((P2.cells.drop 0).take 5)))] []) (fun P5=>(zY (.pv P5)).bind fun B6=>cond (!B6) (
 some (.ret (.pv (Bo false)),[])) (
 VY (IntKind.wrap .i64 (i0+1)) i1 i2 i3 xs4 xs5 i6 i7 i8 xs9 xs10))) none) none) none) none) (
 some (.ret (.pv (Bo true)),[])):=(yd ..).trans (by kernel_rfl)
theorem zgs (x0_0 x0_1 x0_2:Int) (x0_3 x0_4:List PV) (x1_0 x1_1 x1_2:Int) (x1_3 x1_4:List PV):ev 134 [(.pv (.agg [(I x0_0),(I x0_1),(I x0_2),(.sl 1 x0_3),(.sl 5 x0_4)])),(.pv (.agg [(I x1_0),(I x1_1),(I x1_2),(.sl 1 x1_3),(.sl 5 x1_4)]))] [] =
 cond (x0_0 != x1_0) (
 some (.ret (.pv (Bo false)),[])) (
 cond (x0_1 != x1_1) (
  some (.ret (.pv (Bo false)),[])) (
  cond (x0_2 != x1_2) (
   some (.ret (.pv (Bo false)),[])) (
   cp (ev 27 [(.pv (.sl 1 x0_3)),(.pv (.sl 1 x1_3))] []) (fun P3=>(zY (.pv P3)).bind fun B4=>cond (!B4) (
    some (.ret (.pv (Bo false)),[])) (
    cond ((x0_4.length:Int) != (x1_4.length:Int)) (
     some (.ret (.pv (Bo false)),[])) (
     VY 0 x0_0 x0_1 x0_2 x0_3 x0_4 x1_0 x1_1 x1_2 x1_3 x1_4)))))):=zg (fn:=Tryz.f134) _ _
theorem zf4 (x0:List PV) (x1_0 x1_1 x1_2:Int):ev 163 [(.pv (.sl 1 x0)),(.pv (.agg [(I x1_0),(I x1_1),(I x1_2)])),(.pv (.v (.func (.func 164) #[] #[])))] [] =
 cp (ev 176 [(.pv (.sl 1 x0)),(.pv (.agg [(I x1_0),(I x1_1),(I x1_2)]))] []) (fun P3=>tK P3 0 fun P5=>tK P3 1 fun P7=>vZ P5 (fun P8 P9 P10 P11 P12=>(zf .i64 (.pv P7)).bind fun N13=>cond (N13 != 0) (
 some (.ret (.pv (.tup [(.sl 1 []),P7])),[])) (
 cp (ev 164 [(.pv (.agg [P8,P9,P10,P11,P12]))] []) (fun P16=>some (.ret (.pv (.tup [P16,(I 0)])),[]))))):=zg (fn:=Tryz.f163) _ _
theorem zge (x0_0 x0_1 x0_2:Int) (x0_3 x0_4:List PV):ev 165 [(.pv (.agg [(I x0_0),(I x0_1),(I x0_2),(.sl 1 x0_3),(.sl 5 x0_4)]))] [] =
 cp (ev 156 [(.pv (.agg [(I x0_0),(I x0_1),(I x0_2),(.sl 1 x0_3),(.sl 5 x0_4)]))] []) (fun P3=>(yq (.pv P3)).bind fun Q4=>cond ((decide (1<=Q4.2)&&decide (Q4.2<=140737488355328))&&ye (Q4.2).toNat 8) (zh (ev 228 [(.ptr 0 0),(.pv (I 0)),(.pv (.agg [(I x0_0),(I x0_1),(I x0_2),(.sl 1 x0_3),(.sl 5 x0_4)]))] [[(.slu 30 1 [(U 0)])]]) (fun A5 H6=>(H6[0]?).bind fun C7=>(C7[0]?).bind fun E8=>(zO 30 1 E8).bind fun X9=>cond (decide (C7.length=1)) (cond (decide (H6.length=1)) ((zb A5).bind fun P10=>some (.ret (.slu 30 1 X9),[])) none) none) (fun A5 H6=>(H6[0]?).bind fun C7=>(C7[0]?).bind fun E8=>(zO 30 1 E8).bind fun X9=>cond (decide (C7.length=1)) (cond (decide (H6.length=1)) (some (.pan A5,[])) none) none)) none):=zg (fn:=Tryz.f165) _ _
theorem zhV (x0:Int):ev 167 [(.pv (I x0))] [] =
 some (.ret (.pv (I (IntKind.wrap .i64 ((IntKind.wrap .i64 (Int.tdiv (IntKind.wrap .i64 ((IntKind.wrap .i64 ((IntKind.wrap .i64 (4*(IntKind.wrap .i64 (x0+1))))+8))-1)) 8))*8)))),[]):=zg (fn:=Tryz.f167) _ _
noncomputable def uj:Code:=Tryz.f175.body.getD .skip
noncomputable def Qo (xs0:List PV) (i1 i2:Int):Option (Out×za) :=
 ya (zA env ev zN 14 175 0 (sub uj [1,0,1,0,0])) (zJ env 175 0 0) (zQ 0 (yf (zT env ev 14 175 0 (sub uj [1,1])) (z8 env 175 Tryz.f175.results.toList 0))) ⟨zR [(5,(.pv (.sl 1 xs0))),(6,(.pv (I i1))),(7,(.pv (I i2)))],[]⟩
theorem zad (xs0:List PV) (i1 i2:Int):Qo xs0 i1 i2 =
 cond (decide (i2<i1)) (
 cond (decide (0<=i2)&&decide (i2<(xs0.length:Int))) ((xs0[(i2).toNat]?).bind fun P1=>(P1.cells[0]?).bind fun P2=>(zf .u8 (.pv P2)).bind fun N3=>cond (N3 != 0) (
 some (.ret (.pv (Bo false)),[])) (
 Qo xs0 i1 (IntKind.wrap .i64 (i2+1)))) none) (
 some (.ret (.pv (Bo true)),[])):=(yd ..).trans (by kernel_rfl)
theorem zhX (x0:List PV):ev 175 [(.pv (.sl 1 x0))] [] =
 Qo x0 (x0.length:Int) 0:=zg (fn:=Tryz.f175) _ _
noncomputable def ua:Code:=Tryz.f178.body.getD .skip
noncomputable def zdi:Code:=Tryz.f233.body.getD .skip
theorem zg8 (x0:List PV) (x1_0 x1_1 x1_2:Int):ev 178 [(.pv (.sl 1 x0)),(.pv (.agg [(I x1_0),(I x1_1),(I x1_2)]))] [] =
 zh (ev 131 [(.pv (.agg [(I x1_0),(I x1_1),(I x1_2)]))] []) (fun A1 H2=>(zb A1).bind fun P3=>cond (decide (P3.cells.length=1)) ((P3.cells[0]?).bind fun P4=>cond ((P4.isCell&&true)&&true) (cond (P4.isCell&&true) (cond (decide ((x0.length:Int)>0)) (
 cond (decide (0<(x0.length:Int))) ((x0[0]?).bind fun P5=>(P5.cells[0]?).bind fun P6=>(zX P6).bind fun L7=>cond ((L7.2.length:Int)==0) (
 cond (P4.isCell&&true) (some (.ret (.pv (.tup [(.agg [(I 0),(I 0),(I 0),(.sl 1 []),(.sl 5 [])]),(.agg [P4]),(I 0)])),[])) none) (
 zh (ev 234 [(.ptr 0 0),(.pv (I 0)),(.pv (I 0)),(.pv (I 1))] [[(.pv (.sl 1 x0)),(.pv (I x1_0)),(.pv (I x1_1)),(.pv (I x1_2)),(.pv P4)]]) (fun A8 H9=>(H9[0]?).bind fun C10=>(C10[0]?).bind fun E11=>(zb E11).bind fun P12=>(C10[1]?).bind fun E13=>(zb E13).bind fun P14=>(C10[2]?).bind fun E15=>(zb E15).bind fun P16=>(C10[3]?).bind fun E17=>(zb E17).bind fun P18=>(C10[4]?).bind fun E19=>(zb E19).bind fun P20=>cond (decide (C10.length=5)) (cond (decide (H9.length=1)) ((zb A8).bind fun P21=>vZ P21 (fun P22 P23 P24 P25 P26=>cond (P22.isCell&&(P23.isCell&&(P24.isCell&&(P25.isCell&&(P26.isCell&&true))))) (cond (P20.isCell&&true) (some (.ret (.pv (.tup [(.agg [P22,P23,P24,P25,P26]),(.agg [P20]),(I 0)])),[])) none) none)) none) none) (fun A8 H9=>(H9[0]?).bind fun C10=>(C10[0]?).bind fun E11=>(zb E11).bind fun P12=>(C10[1]?).bind fun E13=>(zb E13).bind fun P14=>(C10[2]?).bind fun E15=>(zb E15).bind fun P16=>(C10[3]?).bind fun E17=>(zb E17).bind fun P18=>(C10[4]?).bind fun E19=>(zb E19).bind fun P20=>cond (decide (C10.length=5)) (cond (decide (H9.length=1)) ((yC (.pv A8)).bind fun Z21=>cond (!Z21) (
   (xC (.pv A8)).bind fun Q22=>cond (decide (Q22.1=279)) (cond (decide (Q22.2.cells.length=1)) ((Q22.2.cells[0]?).bind fun P23=>cond (P23.isCell&&true) (cond (P23.isCell&&true) (cond (P23.isCell&&true) (some (.ret (.pv (.tup [(.agg [(I 0),(I 0),(I 0),(.sl 1 []),(.sl 5 [])]),(.agg [(I 0)]),P23])),[])) none) none) none) none) none) (
   some (.ret (.pv (.tup [(.agg [(I 0),(I 0),(I 0),(.sl 1 []),(.sl 5 [])]),(.agg [(I 0)]),(I 0)])),[]))) none) none))) none) (
 zh (ev 234 [(.ptr 0 0),(.pv (I 0)),(.pv (I 0)),(.pv (I 1))] [[(.pv (.sl 1 x0)),(.pv (I x1_0)),(.pv (I x1_1)),(.pv (I x1_2)),(.pv P4)]]) (fun A5 H6=>(H6[0]?).bind fun C7=>(C7[0]?).bind fun E8=>(zb E8).bind fun P9=>(C7[1]?).bind fun E10=>(zb E10).bind fun P11=>(C7[2]?).bind fun E12=>(zb E12).bind fun P13=>(C7[3]?).bind fun E14=>(zb E14).bind fun P15=>(C7[4]?).bind fun E16=>(zb E16).bind fun P17=>cond (decide (C7.length=5)) (cond (decide (H6.length=1)) ((zb A5).bind fun P18=>vZ P18 (fun P19 P20 P21 P22 P23=>cond (P19.isCell&&(P20.isCell&&(P21.isCell&&(P22.isCell&&(P23.isCell&&true))))) (cond (P17.isCell&&true) (some (.ret (.pv (.tup [(.agg [P19,P20,P21,P22,P23]),(.agg [P17]),(I 0)])),[])) none) none)) none) none) (fun A5 H6=>(H6[0]?).bind fun C7=>(C7[0]?).bind fun E8=>(zb E8).bind fun P9=>(C7[1]?).bind fun E10=>(zb E10).bind fun P11=>(C7[2]?).bind fun E12=>(zb E12).bind fun P13=>(C7[3]?).bind fun E14=>(zb E14).bind fun P15=>(C7[4]?).bind fun E16=>(zb E16).bind fun P17=>cond (decide (C7.length=5)) (cond (decide (H6.length=1)) ((yC (.pv A5)).bind fun Z18=>cond (!Z18) (
   (xC (.pv A5)).bind fun Q19=>cond (decide (Q19.1=279)) (cond (decide (Q19.2.cells.length=1)) ((Q19.2.cells[0]?).bind fun P20=>cond (P20.isCell&&true) (cond (P20.isCell&&true) (cond (P20.isCell&&true) (some (.ret (.pv (.tup [(.agg [(I 0),(I 0),(I 0),(.sl 1 []),(.sl 5 [])]),(.agg [(I 0)]),P20])),[])) none) none) none) none) none) (
   some (.ret (.pv (.tup [(.agg [(I 0),(I 0),(I 0),(.sl 1 []),(.sl 5 [])]),(.agg [(I 0)]),(I 0)])),[]))) none) none))) none) none) none) (fun A1 H2=>none):=(JB (f:=178) (g:=233) (fn:=Tryz.f178) (gn:=Tryz.f233) (d:=⟨sub ua [0],sub ua [1,1],sub zdi [1],[4,5,6],3,8⟩) (by kernel_rfl) (by kernel_rfl) (by kernel_rfl) (by kernel_rfl) (by kernel_rfl) _ _).trans (by kernel_rfl)
theorem zju (x0:Int):ev 187 [(.pv (U x0))] [] =
 some (.ret (.pv (Bo (x0==0))),[]):=zg (fn:=Tryz.f187) _ _
theorem zlm (x0:Int):ev 188 [(.pv (U8 x0))] [] =
 cp (ev 244 [(.pv (U8 x0))] []) (fun P3=>some (.ret (.pv P3),[])):=zg (fn:=Tryz.f188) _ _
theorem XE (x0:Int):ev 190 [(.pv (U x0))] [] =
 some (.ret (.pv (Bo (x0==0))),[]):=zg (fn:=Tryz.f190) _ _
theorem zfF (x0_0 x0_1 x0_2 x1:Int):ev 191 [(.pv (.agg [(I x0_0),(I x0_1),(I x0_2)])),(.pv (I x1))] [] =
 cond (decide (x1>x0_0)) (
 some (.ret (.pv (I 7)),[])) (
 some (.ret (.pv (I 0)),[])):=zg (fn:=Tryz.f191) _ _
theorem zf9 (x0__0:List PV) (x0__1 x0__2_0 x0__2_1 x0__2_2 x0__3_0 x1 x2 x3_0 x3_1 x3_2 x3_3 x3_4 x3_5:Int) (x3_6:Bool) (x3_7 x3_8 x3_9:Int):ev 193 [(.ptr 0 0),(.pv (I x1)),(.pv (I x2)),(.pv (.agg [(I x3_0),(I x3_1),(I x3_2),(I x3_3),(I x3_4),(I x3_5),(Bo x3_6),(I x3_7),(PV.v (.int .u32 x3_8)),(PV.v (.int .u32 x3_9))]))] [[(.pv (.sl 1 x0__0)),(.pv (I x0__1)),(.pv (I x0__2_0)),(.pv (I x0__2_1)),(.pv (I x0__2_2)),(.pv (I x0__3_0))]] =
 cond ((IntKind.wrap .i64 (x3_2+x3_3))==0) (
 zh (ev 130 [(.pv (Bo (x3_1==(-1))))] []) (fun A1 H2=>(zb A1).bind fun P3=>some (.ret (.pv (.tup [])),[[(.pv (.sl 1 x0__0)),(.pv (I x0__1)),(.pv (I x0__2_0)),(.pv (I x0__2_1)),(.pv (I x0__2_2)),(.pv (I x0__3_0))]])) (fun A1 H2=>some (.pan A1,[[(.pv (.sl 1 x0__0)),(.pv (I x0__1)),(.pv (I x0__2_0)),(.pv (I x0__2_1)),(.pv (I x0__2_2)),(.pv (I x0__3_0))]]))) (
 xj (ev 246 [(.ptr 0 0),(.pv (I x1)),(.pv (.agg [(I x3_0),(I x3_1),(I x3_2),(I x3_3),(I x3_4),(I x3_5),(Bo x3_6),(I x3_7),(PV.v (.int .u32 x3_8)),(PV.v (.int .u32 x3_9))])),(.pv (I (IntKind.wrap .i64 (x3_2+x3_3))))] [[(.pv (.sl 1 x0__0)),(.pv (I x0__1)),(.pv (I x0__2_0)),(.pv (I x0__2_1)),(.pv (I x0__2_2)),(.pv (I x0__3_0))]]) (fun P16 P5 P7 P9 P11 P13 P15=>xj (ev 247 [(.ptr 0 0),(.pv (I (IntKind.wrap .i64 (x3_2+x3_3))))] [[(.pv P5),(.pv P7),(.pv P9),(.pv P11),(.pv P13),(.pv P15)]]) (fun P32 P21 P23 P25 P27 P29 P31=>cond (x3_2==0) (
  zh (ev 130 [(.pv (Bo true))] []) (fun A33 H34=>(zb A33).bind fun P35=>cond (x3_3==0) (
  zh (ev 130 [(.pv (Bo true))] []) (fun A36 H37=>(zb A36).bind fun P38=>(zf .i64 (.pv P16)).bind fun N39=>xj (ev 248 [(.ptr 0 0),(.pv (I (IntKind.wrap .i64 (N39+x3_2)))),(.pv (I x3_3)),(.pv (I x2))] [[(.pv P21),(.pv P23),(.pv P25),(.pv P27),(.pv P29),(.pv P31)]]) (fun P55 P44 P46 P48 P50 P52 P54=>some (.ret (.pv (.tup [])),[[(.pv P44),(.pv P46),(.pv P48),(.pv P50),(.pv P52),(.pv P54)]]))) (fun A36 H37=>some (.pan A36,[[(.pv P21),(.pv P23),(.pv P25),(.pv P27),(.pv P29),(.pv P31)]]))) (
  (zf .i64 (.pv P16)).bind fun N36=>(zX P21).bind fun L37=>cond ((decide (L37.1=1)&&decide (0<=(IntKind.wrap .i64 ((IntKind.wrap .i64 ((IntKind.wrap .i64 (N36+x3_2))+x3_3))-1))))&&decide ((IntKind.wrap .i64 ((IntKind.wrap .i64 ((IntKind.wrap .i64 (N36+x3_2))+x3_3))-1))<(L37.2.length:Int))) ((L37.2[(IntKind.wrap .i64 ((IntKind.wrap .i64 ((IntKind.wrap .i64 (N36+x3_2))+x3_3))-1)).toNat]?).bind fun P38=>(P38.cells[0]?).bind fun P39=>(zf .u64 (.pv P39)).bind fun N40=>zh (ev 130 [(.pv (Bo (N40 != 0)))] []) (fun A41 H42=>(zb A41).bind fun P43=>(zf .i64 (.pv P16)).bind fun N44=>xj (ev 248 [(.ptr 0 0),(.pv (I (IntKind.wrap .i64 (N44+x3_2)))),(.pv (I x3_3)),(.pv (I x2))] [[(.pv P21),(.pv P23),(.pv P25),(.pv P27),(.pv P29),(.pv P31)]]) (fun P60 P49 P51 P53 P55 P57 P59=>some (.ret (.pv (.tup [])),[[(.pv P49),(.pv P51),(.pv P53),(.pv P55),(.pv P57),(.pv P59)]]))) (fun A41 H42=>some (.pan A41,[[(.pv P21),(.pv P23),(.pv P25),(.pv P27),(.pv P29),(.pv P31)]]))) none)) (fun A33 H34=>some (.pan A33,[[(.pv P21),(.pv P23),(.pv P25),(.pv P27),(.pv P29),(.pv P31)]]))) (
  (zf .i64 (.pv P16)).bind fun N33=>(zX P21).bind fun L34=>cond ((decide (L34.1=1)&&decide (0<=(IntKind.wrap .i64 ((IntKind.wrap .i64 (N33+x3_2))-1))))&&decide ((IntKind.wrap .i64 ((IntKind.wrap .i64 (N33+x3_2))-1))<(L34.2.length:Int))) ((L34.2[(IntKind.wrap .i64 ((IntKind.wrap .i64 (N33+x3_2))-1)).toNat]?).bind fun P35=>(P35.cells[0]?).bind fun P36=>(zf .u64 (.pv P36)).bind fun N37=>zh (ev 130 [(.pv (Bo (N37 != 0)))] []) (fun A38 H39=>(zb A38).bind fun P40=>cond (x3_3==0) (
   zh (ev 130 [(.pv (Bo true))] []) (fun A41 H42=>(zb A41).bind fun P43=>(zf .i64 (.pv P16)).bind fun N44=>xj (ev 248 [(.ptr 0 0),(.pv (I (IntKind.wrap .i64 (N44+x3_2)))),(.pv (I x3_3)),(.pv (I x2))] [[(.pv P21),(.pv P23),(.pv P25),(.pv P27),(.pv P29),(.pv P31)]]) (fun P60 P49 P51 P53 P55 P57 P59=>some (.ret (.pv (.tup [])),[[(.pv P49),(.pv P51),(.pv P53),(.pv P55),(.pv P57),(.pv P59)]]))) (fun A41 H42=>some (.pan A41,[[(.pv P21),(.pv P23),(.pv P25),(.pv P27),(.pv P29),(.pv P31)]]))) (
   (zf .i64 (.pv P16)).bind fun N41=>(zX P21).bind fun L42=>cond ((decide (L42.1=1)&&decide (0<=(IntKind.wrap .i64 ((IntKind.wrap .i64 ((IntKind.wrap .i64 (N41+x3_2))+x3_3))-1))))&&decide ((IntKind.wrap .i64 ((IntKind.wrap .i64 ((IntKind.wrap .i64 (N41+x3_2))+x3_3))-1))<(L42.2.length:Int))) ((L42.2[(IntKind.wrap .i64 ((IntKind.wrap .i64 ((IntKind.wrap .i64 (N41+x3_2))+x3_3))-1)).toNat]?).bind fun P43=>(P43.cells[0]?).bind fun P44=>(zf .u64 (.pv P44)).bind fun N45=>zh (ev 130 [(.pv (Bo (N45 != 0)))] []) (fun A46 H47=>(zb A46).bind fun P48=>(zf .i64 (.pv P16)).bind fun N49=>xj (ev 248 [(.ptr 0 0),(.pv (I (IntKind.wrap .i64 (N49+x3_2)))),(.pv (I x3_3)),(.pv (I x2))] [[(.pv P21),(.pv P23),(.pv P25),(.pv P27),(.pv P29),(.pv P31)]]) (fun P65 P54 P56 P58 P60 P62 P64=>some (.ret (.pv (.tup [])),[[(.pv P54),(.pv P56),(.pv P58),(.pv P60),(.pv P62),(.pv P64)]]))) (fun A46 H47=>some (.pan A46,[[(.pv P21),(.pv P23),(.pv P25),(.pv P27),(.pv P29),(.pv P31)]]))) none)) (fun A38 H39=>some (.pan A38,[[(.pv P21),(.pv P23),(.pv P25),(.pv P27),(.pv P29),(.pv P31)]]))) none)))):=zg (fn:=Tryz.f193) _ _
theorem zlW (x0__0 x0__1:List PV) (x0__2 x1:Int):ev 225 [(.ptr 0 0),(.pv (U8 x1))] [[(.pv (.sl 1 x0__0)),(.slu 5 1 x0__1),(.pv (I x0__2))]] =
 zh (ev 266 [(.pv (U8 x1)),(.pv (.sl 1 x0__0))] []) (fun A1 H2=>(zb A1).bind fun P3=>tK P3 0 fun P5=>tK P3 1 fun P7=>tK P3 2 fun P9=>(zY (.pv P9)).bind fun B10=>cond (!B10) (
 some (.ret (.pv (.sen 2)),[[(.pv (.sl 1 x0__0)),(.slu 5 1 x0__1),(.pv (I x0__2))]])) (
 (yq (.pv P7)).bind fun Q11=>cond ((decide (0<=Q11.2)&&decide (Q11.2<=(x0__0.length:Int)))&&decide ((x0__0.length:Int)<=(x0__0.length:Int))) (zh (ev 267 [(.ptr 0 0),(.pv P5)] [[(.pv (.sl 1 ((x0__0.take (x0__0.length:Int).toNat).drop (Q11.2).toNat))),(.slu 5 1 x0__1),(.pv (I x0__2))]]) (fun A12 H13=>(H13[0]?).bind fun C14=>(C14[0]?).bind fun E15=>(zb E15).bind fun P16=>(C14[1]?).bind fun E17=>(zO 5 1 E17).bind fun X18=>(C14[2]?).bind fun E19=>(zb E19).bind fun P20=>cond (decide (C14.length=3)) (cond (decide (H13.length=1)) ((zb A12).bind fun P21=>some (.ret (.pv P21),[[(.pv P16),(.slu 5 1 X18),(.pv P20)]])) none) none) (fun A12 H13=>(H13[0]?).bind fun C14=>(C14[0]?).bind fun E15=>(zb E15).bind fun P16=>(C14[1]?).bind fun E17=>(zO 5 1 E17).bind fun X18=>(C14[2]?).bind fun E19=>(zb E19).bind fun P20=>cond (decide (C14.length=3)) (cond (decide (H13.length=1)) (some (.pan A12,[[(.pv P16),(.slu 5 1 X18),(.pv P20)]])) none) none)) none)) (fun A1 H2=>some (.pan A1,[[(.pv (.sl 1 x0__0)),(.slu 5 1 x0__1),(.pv (I x0__2))]])):=zg (fn:=Tryz.f225) _ _
theorem zhN:ev 231 [] [] =
 some (.ret (.pv (U 14695981039346656037)),[]):=zg (fn:=Tryz.f231) _ _
noncomputable def uf:Code:=Tryz.f232.body.getD .skip
noncomputable def Qm (i0:Int) (xs1:List PV) (i2 i3:Int):Option (Out×za) :=
 ya (zA env ev zN 20 232 0 (sub uf [1,0,1,0,0])) (zJ env 232 0 0) (zQ 0 (yf (zT env ev 20 232 0 (sub uf [1,1])) (z8 env 232 Tryz.f232.results.toList 0))) ⟨zR [(0,(.pv (U i0))),(7,(.pv (.sl 1 xs1))),(8,(.pv (I i2))),(9,(.pv (I i3)))],[]⟩
theorem j3 (i0:Int) (xs1:List PV) (i2 i3:Int):Qm i0 xs1 i2 i3 =
 cond (decide (i3<i2)) (
 cond (decide (0<=i3)&&decide (i3<(xs1.length:Int))) ((xs1[(i3).toNat]?).bind fun P1=>(P1.cells[0]?).bind fun P2=>(yq (.pv P2)).bind fun Q3=>Qm (IntKind.wrap .u64 ((IntKind.wrap .u64 (BitVec.ofInt 64 i0 ^^^ BitVec.ofInt 64 (IntKind.wrap .u64 Q3.2)).toNat)*1099511628211)) xs1 i2 (IntKind.wrap .i64 (i3+1))) none) (
 some (.ret (.pv (U i0)),[])):=(yd ..).trans (by kernel_rfl)
theorem zhP (x0:Int) (x1:List PV):ev 232 [(.pv (U x0)),(.pv (.sl 1 x1))] [] =
 Qm x0 x1 (x1.length:Int) 0:=zg (fn:=Tryz.f232) _ _
theorem ziE (x0 x1:Int) (x2:List PV):ev 235 [(.pv (I x0)),(.pv (I x1)),(.pv (.sl 1 x2))] [] =
 cp (ev 255 [(.pv (I x0)),(.pv (I x1))] []) (fun P3=>(yq (.pv P3)).bind fun Q4=>cond (decide (0<=Q4.2)&&decide (Q4.2<=(x2.length:Int))) (zh (ev 275 [(.pv (.sl 1 ((x2.take (Q4.2).toNat).drop 0)))] []) (fun A5 H6=>(zO 5 1 A5).bind fun X7=>cond (x0==1) (
 cond (decide ((Int.tmod x1 8)>0)) (
 cond (decide (0<=(IntKind.wrap .i64 ((X7.length:Int)-1)))&&decide ((IntKind.wrap .i64 ((X7.length:Int)-1))<(X7.length:Int))) ((X7[(IntKind.wrap .i64 ((X7.length:Int)-1)).toNat]?).bind fun P8=>(P8.cells[0]?).bind fun P9=>cond (yN .shl (IntKind.wrap .u64 (Int.tmod x1 8))) ((zf .u8 (.pv P9)).bind fun N10=>cond (decide (0<=(IntKind.wrap .i64 ((X7.length:Int)-1)))&&decide ((IntKind.wrap .i64 ((X7.length:Int)-1))<(X7.length:Int))) ((X7[(IntKind.wrap .i64 ((X7.length:Int)-1)).toNat]?).bind fun P11=>cond (decide (1<=P11.cells.length)) ((setCells P11 0 [(U8 (IntKind.wrap .u8 (BitVec.ofInt 8 N10 &&& BitVec.ofInt 8 (IntKind.wrap .u8 ((IntKind.wrap .u8 (1*2^(min (IntKind.wrap .u64 (Int.tmod x1 8)).toNat 8)))-1))).toNat))]).bind fun P12=>some (.ret (.slu 5 1 (X7.set (IntKind.wrap .i64 ((X7.length:Int)-1)).toNat P12)),[])) none) none) none) none) (
 some (.ret (.slu 5 1 X7),[]))) (
 some (.ret (.slu 5 1 X7),[]))) (fun A5 H6=>some (.pan A5,[]))) none):=zg (fn:=Tryz.f235) _ _
theorem zkq (x0_0 x0_1 x0_2 x0_3 x0_4 x0_5 x0_6 x0_7 x1:Int):ev 238 [(.pv (.agg [(I x0_0),(I x0_1),(I x0_2),(I x0_3),(I x0_4),(I x0_5),(I x0_6),(I x0_7)])),(.pv (I x1))] [] =
 some (.ret (.pv (.agg [(I 1),(I x0_1),(I (IntKind.wrap .i64 (x0_2+(IntKind.wrap .i64 (x1*(IntKind.wrap .i64 (x0_3+x0_4))))))),(I x0_3),(I x0_4),(I 0),(I 0),(I 0)])),[]):=zg (fn:=Tryz.f238) _ _
theorem zhE (x0:List PV) (x1 x2:Int):ev 240 [(.pv (.sl 1 x0)),(.pv (I x1)),(.pv (I x2))] [] =
 cp (ev 278 [(.pv (.sl 1 x0)),(.pv (I x1)),(.pv (I x2))] []) (fun P3=>tK P3 0 fun P5=>tK P3 1 fun P7=>(zY (.pv P7)).bind fun B8=>cond (!B8) (
 some (.ret (.pv (.tup [(U 0),(I 0),(I 0),(I 2)])),[])) (
 cond (P5.isCell&&true) (cond ((P5.isCell&&true)&&true) (cond (P5.isCell&&true) (cp (ev 279 [(.pv P5)] []) (fun P11=>(zY (.pv P11)).bind fun B12=>cond B12 (
  cp (ev 192 [(.pv P5)] []) (fun P15=>(YE (.pv P15)).bind fun cs_16=>(cs_16[6]?).bind fun P17=>(zY (.pv P17)).bind fun B18=>cond B18 (
  cp (ev 281 [(.pv (.sl 1 x0)),(.pv P5)] []) (fun P21=>tK P21 0 fun P23=>tK P21 1 fun P25=>VC P23 (fun P26 P27 P28=>(xd [false,false,false] [P26,P27,P28] [(U 0),(I 0),(I 0)]).bind fun Z29=>cond Z29 (
  (zf .i64 (.pv P25)).bind fun N30=>cond (N30 != 0) (
  some (.ret (.pv (.tup [(U 0),(I 0),(I 0),P25])),[])) (
  some (.ret (.pv (.tup [P26,P27,P28,(I 0)])),[]))) (
  some (.ret (.pv (.tup [P26,P27,P28,(I 0)])),[]))))) (
  cp (ev 280 [(.pv (.sl 1 x0)),(.pv P5)] []) (fun P21=>tK P21 0 fun P23=>tK P21 1 fun P25=>VC P23 (fun P26 P27 P28=>(xd [false,false,false] [P26,P27,P28] [(U 0),(I 0),(I 0)]).bind fun Z29=>cond Z29 (
   (zf .i64 (.pv P25)).bind fun N30=>cond (N30 != 0) (
   some (.ret (.pv (.tup [(U 0),(I 0),(I 0),P25])),[])) (
   some (.ret (.pv (.tup [P26,P27,P28,(I 0)])),[]))) (
   some (.ret (.pv (.tup [P26,P27,P28,(I 0)])),[]))))))) (
  (xd [false,false,false] [P5,(I x1),(I (IntKind.wrap .i64 (x2+1)))] [(U 0),(I 0),(I 0)]).bind fun Z13=>cond Z13 (
   some (.ret (.pv (.tup [P5,(I x1),(I (IntKind.wrap .i64 (x2+1))),(I 0)])),[])) (
   some (.ret (.pv (.tup [P5,(I x1),(I (IntKind.wrap .i64 (x2+1))),(I 0)])),[]))))) none) none) none)):=zg (fn:=Tryz.f240) _ _
theorem zf7 (x0__0:List PV) (x0__1 x0__2_0 x0__2_1 x0__2_2 x0__3_0 x1 x2_0 x2_1 x2_2 x2_3 x2_4 x2_5:Int) (x2_6:Bool) (x2_7 x2_8 x2_9 x3:Int):ev 246 [(.ptr 0 0),(.pv (I x1)),(.pv (.agg [(I x2_0),(I x2_1),(I x2_2),(I x2_3),(I x2_4),(I x2_5),(Bo x2_6),(I x2_7),(PV.v (.int .u32 x2_8)),(PV.v (.int .u32 x2_9))])),(.pv (I x3))] [[(.pv (.sl 1 x0__0)),(.pv (I x0__1)),(.pv (I x0__2_0)),(.pv (I x0__2_1)),(.pv (I x0__2_2)),(.pv (I x0__3_0))]] =
 cond ((IntKind.wrap .i64 ((IntKind.wrap .i64 (x1+1))+x2_1))==x0__1) (
 zh (ev 286 [(.pv (.sl 1 [(.sl 1 x0__0)])),(.pv (I 0)),(.pv (I (IntKind.wrap .i64 ((IntKind.wrap .i64 (x1+1))+x2_1)))),(.pv (I x3))] []) (fun A1 H2=>(zb A1).bind fun P3=>(zY (.pv P3)).bind fun B4=>zh (ev 130 [(.pv (Bo B4))] []) (fun A5 H6=>(zb A5).bind fun P7=>some (.ret (.pv (I (IntKind.wrap .i64 ((IntKind.wrap .i64 (x1+1))+x2_1)))),[[(.pv (.sl 1 x0__0)),(.pv (I (IntKind.wrap .i64 (x0__1+x3)))),(.pv (I x0__2_0)),(.pv (I x0__2_1)),(.pv (I x0__2_2)),(.pv (I x0__3_0))]])) (fun A5 H6=>some (.pan A5,[[(.pv (.sl 1 x0__0)),(.pv (I x0__1)),(.pv (I x0__2_0)),(.pv (I x0__2_1)),(.pv (I x0__2_2)),(.pv (I x0__3_0))]]))) (fun A1 H2=>some (.pan A1,[[(.pv (.sl 1 x0__0)),(.pv (I x0__1)),(.pv (I x0__2_0)),(.pv (I x0__2_1)),(.pv (I x0__2_2)),(.pv (I x0__3_0))]]))) (
 zh (ev 130 [(.pv (Bo false))] []) (fun A1 H2=>(zb A1).bind fun P3=>some (.ret (.pv (I (IntKind.wrap .i64 ((IntKind.wrap .i64 (x1+1))+x2_1)))),[[(.pv (.sl 1 x0__0)),(.pv (I (IntKind.wrap .i64 (x0__1+x3)))),(.pv (I x0__2_0)),(.pv (I x0__2_1)),(.pv (I x0__2_2)),(.pv (I x0__3_0))]])) (fun A1 H2=>some (.pan A1,[[(.pv (.sl 1 x0__0)),(.pv (I x0__1)),(.pv (I x0__2_0)),(.pv (I x0__2_1)),(.pv (I x0__2_2)),(.pv (I x0__3_0))]]))):=zg (fn:=Tryz.f246) _ _
theorem zbo (x0_0 x0_1 x0_2 x0_3 x0_4 x0_5:Int) (x0_6:Bool) (x0_7 x0_8 x0_9:Int):ev 252 [(.pv (.agg [(I x0_0),(I x0_1),(I x0_2),(I x0_3),(I x0_4),(I x0_5),(Bo x0_6),(I x0_7),(PV.v (.int .u32 x0_8)),(PV.v (.int .u32 x0_9))]))] [] =
 cp (ev 287 [(.pv (.agg [(I x0_0),(I x0_1),(I x0_2),(I x0_3),(I x0_4),(I x0_5),(Bo x0_6),(I x0_7),(PV.v (.int .u32 x0_8)),(PV.v (.int .u32 x0_9))]))] []) (fun P3=>(zY (.pv P3)).bind fun B4=>cond (!B4) (
 some (.ret (.pv (.tup [(U 0),(Bo false)])),[])) (
 cp (ev 288 [(.pv (.agg [(I x0_0),(I x0_1),(I x0_2),(I x0_3),(I x0_4),(I x0_5),(Bo x0_6),(I x0_7),(PV.v (.int .u32 x0_8)),(PV.v (.int .u32 x0_9))]))] []) (fun P7=>some (.ret (.pv (.tup [P7,(Bo true)])),[])))):=zg (fn:=Tryz.f252) _ _
theorem zly (x0_0 x0_1 x0_2:Int) (x0_3 x0_4:List PV):ev 259 [(.pv (.agg [(I x0_0),(I x0_1),(I x0_2),(.sl 1 x0_3),(.sl 5 x0_4)]))] [] =
 some (.ret (.pv (Bo (x0_0==0))),[]):=zg (fn:=Tryz.f259) _ _
noncomputable def Vo:Code:=Tryz.f261.body.getD .skip
noncomputable def Yu (xs0:List PV) (i1 i2:Int) (p3:PV) (i4 i5 i6:Int) (xs7 xs8:List PV):Option (Out×za) :=
 ya (zA env ev zN 37 261 0 (sub Vo [1,1,1,0,0])) (zJ env 261 0 3) (zQ 0 (z8 env 261 Tryz.f261.results.toList 2)) ⟨zR [(2,(.ptr 1 0)),(3,(.ptr 2 0)),(13,(.pv (.sl 5 xs0))),(14,(.pv (I i1))),(15,(.pv (I i2)))],[[(.pv p3)],[(.clo (.func 261) [] [(.ptr 0 0),(.ptr 1 0)])],[(.pv (I i4)),(.pv (I i5)),(.pv (I i6)),(.pv (.sl 1 xs7)),(.pv (.sl 5 xs8))]]⟩
noncomputable def VO (xs0:List PV) (i1 i2:Int) (p3:PV) (i4 i5:Int) (p6:PV) (i7 i8 i9:Int) (xs10 xs11:List PV) (p12 p13 p14 p15 p16:PV):Option (Out×za) :=
 ya (zA env ev zN 37 261 2 (sub Vo [1,1,1,0,0,1,1,0,0,1,1,1,0,0])) (zJ env 261 2 4) (zQ 2 (zQ 1 (yf (zT env ev 37 261 0 (sub Vo [1,1,1,0,0,1,1,1])) (XI (zA env ev zN 37 261 0 (sub Vo [1,1,1,0,0])) (zJ env 261 0 3) (zQ 0 (z8 env 261 Tryz.f261.results.toList 2)))))) ⟨zR [(2,(.ptr 1 0)),(3,(.ptr 2 0)),(13,(.pv (.sl 5 xs0))),(14,(.pv (I i1))),(15,(.pv (I i2))),(26,(.pv p3)),(27,(.pv (I i4))),(28,(.pv (I i5)))],[[(.pv p6)],[(.clo (.func 261) [] [(.ptr 0 0),(.ptr 1 0)])],[(.pv (I i7)),(.pv (I i8)),(.pv (I i9)),(.pv (.sl 1 xs10)),(.pv (.sl 5 xs11))],[(.pv p12),(.pv p13),(.pv p14),(.pv p15),(.pv p16)]]⟩
theorem VM (xs0:List PV) (i1 i2:Int) (p3:PV) (i4 i5 i6:Int) (xs7 xs8:List PV):Yu xs0 i1 i2 p3 i4 i5 i6 xs7 xs8 =
 cond (decide (i2<i1)) (
 cond (decide (0<=i2)&&decide (i2<(xs0.length:Int))) ((xs0[(i2).toNat]?).bind fun P1=>cond (decide (5<=P1.cells.length)) (cond (decide (((P1.cells.drop 0).take 5).length=5)) ((((P1.cells.drop 0).take 5)[0]?).bind fun P2=>(((P1.cells.drop 0).take 5)[1]?).bind fun P3=>(((P1.cells.drop 0).take 5)[2]?).bind fun P4=>(((P1.cells.drop 0).take 5)[3]?).bind fun P5=>(((P1.cells.drop 0).take 5)[4]?).bind fun P6=>cond (P2.isCell&&(P3.isCell&&(P4.isCell&&(P5.isCell&&(P6.isCell&&true))))) (cond (i5 != 7) (
 zh (ev 261 [(.pv (.agg [P2,P3,P4,P5,P6])),(.ptr 0 0),(.ptr 1 0)] [[(.pv p3)],[(.clo (.func 261) [] [(.ptr 0 0),(.ptr 1 0)])]]) (fun A7 H8=>(H8[0]?).bind fun C9=>(C9[0]?).bind fun E10=>(zb E10).bind fun P11=>cond (decide (C9.length=1)) ((H8[1]?).bind fun C12=>(C12[0]?).bind fun E13=>cond (ZI (.func 261) [] [(.ptr 0 0),(.ptr 1 0)] E13) (cond (decide (C12.length=1)) (cond (decide (H8.length=2)) ((zb A7).bind fun P14=>Yu xs0 i1 (IntKind.wrap .i64 (i2+1)) P11 i4 i5 i6 xs7 xs8) none) none) none) none) (fun A7 H8=>(H8[0]?).bind fun C9=>(C9[0]?).bind fun E10=>(zb E10).bind fun P11=>cond (decide (C9.length=1)) ((H8[1]?).bind fun C12=>(C12[0]?).bind fun E13=>cond (ZI (.func 261) [] [(.ptr 0 0),(.ptr 1 0)] E13) (cond (decide (C12.length=1)) (cond (decide (H8.length=2)) (some (.pan A7,[[(.pv P11)],[(.clo (.func 261) [] [(.ptr 0 0),(.ptr 1 0)])]])) none) none) none) none)) (
 (zX P6).bind fun L7=>VO xs0 i1 i2 P6 (L7.2.length:Int) 0 p3 i4 i5 i6 xs7 xs8 P2 P3 P4 P5 P6)) none) none) none) none) (
 some (.ret (.pv (.tup [])),[[(.pv p3)],[(.clo (.func 261) [] [(.ptr 0 0),(.ptr 1 0)])]])):=(yd ..).trans (by kernel_rfl)
theorem rI (xs0:List PV) (i1 i2:Int) (p3:PV) (i4 i5:Int) (p6:PV) (i7 i8 i9:Int) (xs10 xs11:List PV) (p12 p13 p14 p15 p16:PV):VO xs0 i1 i2 p3 i4 i5 p6 i7 i8 i9 xs10 xs11 p12 p13 p14 p15 p16 =
 cond (decide (i5<i4)) (
 (zX p3).bind fun L1=>cond ((decide (L1.1=5)&&decide (0<=i5))&&decide (i5<(L1.2.length:Int))) ((L1.2[(i5).toNat]?).bind fun P2=>cond (decide (5<=P2.cells.length)) (cond (decide (((P2.cells.drop 0).take 5).length=5)) ((((P2.cells.drop 0).take 5)[0]?).bind fun P3=>(((P2.cells.drop 0).take 5)[1]?).bind fun P4=>(((P2.cells.drop 0).take 5)[2]?).bind fun P5=>(((P2.cells.drop 0).take 5)[3]?).bind fun P6=>(((P2.cells.drop 0).take 5)[4]?).bind fun P7=>cond (P3.isCell&&(P4.isCell&&(P5.isCell&&(P6.isCell&&(P7.isCell&&true))))) (zh (ev 261 [(.pv (.agg [P3,P4,P5,P6,P7])),(.ptr 0 0),(.ptr 1 0)] [[(.pv p6)],[(.clo (.func 261) [] [(.ptr 0 0),(.ptr 1 0)])]]) (fun A8 H9=>(H9[0]?).bind fun C10=>(C10[0]?).bind fun E11=>(zb E11).bind fun P12=>cond (decide (C10.length=1)) ((H9[1]?).bind fun C13=>(C13[0]?).bind fun E14=>cond (ZI (.func 261) [] [(.ptr 0 0),(.ptr 1 0)] E14) (cond (decide (C13.length=1)) (cond (decide (H9.length=2)) ((zb A8).bind fun P15=>VO xs0 i1 i2 p3 i4 (IntKind.wrap .i64 (i5+1)) P12 i7 i8 i9 xs10 xs11 p12 p13 p14 p15 p16) none) none) none) none) (fun A8 H9=>(H9[0]?).bind fun C10=>(C10[0]?).bind fun E11=>(zb E11).bind fun P12=>cond (decide (C10.length=1)) ((H9[1]?).bind fun C13=>(C13[0]?).bind fun E14=>cond (ZI (.func 261) [] [(.ptr 0 0),(.ptr 1 0)] E14) (cond (decide (C13.length=1)) (cond (decide (H9.length=2)) (some (.pan A8,[[(.pv P12)],[(.clo (.func 261) [] [(.ptr 0 0),(.ptr 1 0)])]])) none) none) none) none)) none) none) none) none) (
 Yu xs0 i1 (IntKind.wrap .i64 (i2+1)) p6 i7 i8 i9 xs10 xs11):=(yd ..).trans (by kernel_rfl)
theorem zga (x0_0 x0_1 x0_2:Int) (x0_3 x0_4:List PV) (x1:Int):ev 261 [(.pv (.agg [(I x0_0),(I x0_1),(I x0_2),(.sl 1 x0_3),(.sl 5 x0_4)])),(.ptr 0 0),(.ptr 1 0)] [[(.pv (I x1))],[(.clo (.func 261) [] [(.ptr 0 0),(.ptr 1 0)])]] =
 zh (ev 262 [(.pv (.agg [(I x0_0),(I x0_1),(I x0_2),(.sl 1 x0_3),(.sl 5 x0_4)]))] []) (fun A1 H2=>(zb A1).bind fun P3=>(zf .i64 (.pv P3)).bind fun N4=>Yu x0_4 (x0_4.length:Int) 0 (I (IntKind.wrap .i64 (x1+N4))) x0_0 x0_1 x0_2 x0_3 x0_4) (fun A1 H2=>some (.pan A1,[[(.pv (I x1))],[(.clo (.func 261) [] [(.ptr 0 0),(.ptr 1 0)])]])):=zg (fn:=Tryz.f261) _ _
theorem zk8 (x0:List PV):ev 275 [.pv (.sl 1 x0)] [] =
 cond (ye x0.length 1&&true) (some (.ret (.slu 5 1 x0),[])) none:=(Qj (q:=(5,(1,1))) (by kernel_rfl) _ _).trans (by kernel_rfl)
theorem zfg (x0:List PV) (x1 x2 x3:Int):ev 276 [(.pv (.sl 1 x0)),(.pv (I x1)),(.pv (I x2)),(.pv (I x3))] [] =
 cp (ev 286 [(.pv (.sl 1 x0)),(.pv (I x1)),(.pv (I x2)),(.pv (I x3))] []) (fun P3=>(zY (.pv P3)).bind fun B4=>cond (!B4) (
 some (.ret (.pv (.tup [(.sl 1 []),(Bo false)])),[])) (
 cond (((decide (0<=x3)&&decide (x3<=x3))&&decide (x3<=140737488355328))&&ye (x3).toNat 8) (cond (decide (0<=x1)&&decide (x1<(x0.length:Int))) ((x0[(x1).toNat]?).bind fun P5=>(P5.cells[0]?).bind fun P6=>(zX P6).bind fun L7=>cond (decide (L7.1=1)) (cond ((decide (0<=x2)&&decide (x2<=(L7.2.length:Int)))&&decide ((L7.2.length:Int)<=(L7.2.length:Int))) (cond (((decide (L7.1=1)&&true)&&true)&&true) (some (.ret (.pv (.tup [(.sl 1 (((L7.2.take (L7.2.length:Int).toNat).drop (x2).toNat).take (List.replicate (x3).toNat (U 0)).length++(List.replicate (x3).toNat (U 0)).drop ((L7.2.take (L7.2.length:Int).toNat).drop (x2).toNat).length)),(Bo true)])),[])) none) none) none) none) none)):=zg (fn:=Tryz.f276) _ _
theorem zfh (x0:List PV) (x1 x2:Int):ev 278 [(.pv (.sl 1 x0)),(.pv (I x1)),(.pv (I x2))] [] =
 cp (ev 286 [(.pv (.sl 1 x0)),(.pv (I x1)),(.pv (I x2)),(.pv (I 1))] []) (fun P3=>(zY (.pv P3)).bind fun B4=>cond (!B4) (
 some (.ret (.pv (.tup [(U 0),(Bo false)])),[])) (
 cond (decide (0<=x1)&&decide (x1<(x0.length:Int))) ((x0[(x1).toNat]?).bind fun P5=>(P5.cells[0]?).bind fun P6=>(zX P6).bind fun L7=>cond ((decide (L7.1=1)&&decide (0<=x2))&&decide (x2<(L7.2.length:Int))) ((L7.2[(x2).toNat]?).bind fun P8=>(P8.cells[0]?).bind fun P9=>some (.ret (.pv (.tup [P9,(Bo true)])),[])) none) none)):=zg (fn:=Tryz.f278) _ _
theorem zkx (x0:List PV) (x1_0 x1_1 x1_2 x1_3 x1_4 x1_5 x1_6 x1_7 x2 x3:Int):ev 282 [(.pv (.sl 1 x0)),(.pv (.agg [(I x1_0),(I x1_1),(I x1_2),(I x1_3),(I x1_4),(I x1_5),(I x1_6),(I x1_7)])),(.pv (I x2)),(.pv (I x3))] [] =
 cp (ev 286 [(.pv (.sl 1 x0)),(.pv (I x1_1)),(.pv (I x2)),(.pv (I x3))] []) (fun P3=>(zY (.pv P3)).bind fun B4=>cond (!B4) (
 some (.ret (.pv (.tup [(.agg [(I 0),(I 0),(I 0),(I 0),(I 0),(I 0),(I 0),(I 0)]),(I 2)])),[])) (
 some (.ret (.pv (.tup [(.agg [(I x1_0),(I x1_1),(I x1_2),(I x1_3),(I x1_4),(I x1_5),(I x1_6),(I x1_7)]),(I 0)])),[]))):=zg (fn:=Tryz.f282) _ _
theorem zmr (x0:Int):ev 285 [(.pv (I x0))] [] =
 cond (yN .shr (IntKind.wrap .u64 (IntKind.wrap .i64 (64-x0)))) (some (.ret (.pv (U (Int.fdiv 18446744073709551615 (2^(min (IntKind.wrap .u64 (IntKind.wrap .i64 (64-x0))).toNat 64))))),[])) none:=zg (fn:=Tryz.f285) _ _
theorem zbp (x0_0 x0_1 x0_2 x0_3 x0_4 x0_5:Int) (x0_6:Bool) (x0_7 x0_8 x0_9:Int):ev 287 [(.pv (.agg [(I x0_0),(I x0_1),(I x0_2),(I x0_3),(I x0_4),(I x0_5),(Bo x0_6),(I x0_7),(PV.v (.int .u32 x0_8)),(PV.v (.int .u32 x0_9))]))] [] =
 cond (decide (x0_0≥0)) (
 cond (decide (x0_0<=3)) (
 zh (ev 288 [(.pv (.agg [(I x0_0),(I x0_1),(I x0_2),(I x0_3),(I x0_4),(I x0_5),(Bo x0_6),(I x0_7),(PV.v (.int .u32 x0_8)),(PV.v (.int .u32 x0_9))]))] []) (fun A1 H2=>(zb A1).bind fun P3=>zh (ev 192 [(.pv P3)] []) (fun A4 H5=>(zb A4).bind fun P6=>(Y3 (.pv P6)).bind fun cs_7=>(xd [false,false,false,false,false,false,true,false,false,false] cs_7 [(I x0_0),(I x0_1),(I x0_2),(I x0_3),(I x0_4),(I x0_5),(Bo x0_6),(I x0_7),(PV.v (.int .u32 x0_8)),(PV.v (.int .u32 x0_9))]).bind fun Z8=>some (.ret (.pv (Bo Z8)),[])) (fun A4 H5=>none)) (fun A1 H2=>none)) (
 some (.ret (.pv (Bo false)),[]))) (
 some (.ret (.pv (Bo false)),[])):=zg (fn:=Tryz.f287) _ _
theorem zgf (x0__0 x1:List PV) (x2:Int):ev 293 [(.ptr 0 0),(.pv (.sl 1 x1)),(.pv (I x2))] [[(.slu 30 1 x0__0)]] =
 cond (((decide (0<=(IntKind.wrap .i64 (8*x2)))&&decide ((IntKind.wrap .i64 (8*x2))<=(IntKind.wrap .i64 (8*x2))))&&decide ((IntKind.wrap .i64 (8*x2))<=140737488355328))&&ye (IntKind.wrap .i64 (8*x2)).toNat 1) (zh (ev 64 [(.pv (.sl 1 (x1.take (List.replicate (IntKind.wrap .i64 (8*x2)).toNat (U8 0)).length++(List.replicate (IntKind.wrap .i64 (8*x2)).toNat (U8 0)).drop x1.length)))] []) (fun A1 H2=>(zb A1).bind fun P3=>tK P3 0 fun P5=>tK P3 1 fun P7=>(zX P5).bind fun L8=>cond (decide (L8.1=1)) (cond (ye (x0__0.length+L8.2.length) 8) (some (.ret (.pv (.tup [])),[[(.slu 30 1 (x0__0++L8.2))]])) none) none) (fun A1 H2=>some (.pan A1,[[(.slu 30 1 x0__0)]]))) none:=zg (fn:=Tryz.f293) _ _
theorem zjU (x0:Int):ev 341 [(.pv (U x0))] [] =
 cp (ev 342 [(.pv (U x0)),(.pv (I 2)),(.pv (I 30))] []) (fun P3=>cp (ev 245 [(.pv (U x0)),(.pv (I 32)),(.pv (I 16))] []) (fun P6=>(yq (.pv P6)).bind fun Q7=>cp (ev 245 [(.pv (U x0)),(.pv (I 48)),(.pv (I 16))] []) (fun P10=>(yq (.pv P10)).bind fun Q11=>cond (P3.isCell&&true) (cond ((P3.isCell&&true)&&true) (cond (P3.isCell&&true) (some (.ret (.pv (.agg [(I 0),P3,(I (IntKind.wrap .i64 Q7.2)),(I (IntKind.wrap .i64 Q11.2)),(I 0),(I 0),(Bo false),(I 0),(PV.v (.int .u32 0)),(PV.v (.int .u32 0))])),[])) none) none) none))):=zg (fn:=Tryz.f341) _ _
end Go.Proofs.YtjbjeeoifhegfaaGreatDoor.E
