/- A part of the proof of the law MessageMatchesReference, as its statement says it: for every input; its conditions are the statement's own. -/
import Derived.KernelRfl
import Derived.Test.YtjbjeeoifhegfaaGreatDoorZMessageMatchesReference1
import Derived.Test.YtjbjeeoifhegfaaGreatDoorZMessageMatchesReference2
import Derived.Test.YtjbjeeoifhegfaaGreatDoorZMessageMatchesReference3
set_option linter.unusedVariables false
set_option linter.unusedSimpArgs false
namespace Go.Proofs.YtjbjeeoifhegfaaGreatDoor.E
noncomputable def Qk:Code:=Tryz.f49.body.getD .skip
noncomputable def qB (xs0 xs1:List PV) (i2:Int):Option (Out×ze) :=
 zY (zs env ev zI 52 49 0 (sub Qk [1,1,1,0,1,0,0])) (zD env 49 0 0) (zG 0 (zT (zH env ev 52 49 0 (sub Qk [1,1,1,1])) (zX env 49 Tryz.f49.results.toList 0))) ⟨zQ [(0,(.pv (.sl 1 xs0))),(4,(.slu 5 1 xs1)),(5,(.pv (I i2)))],[]⟩
noncomputable def Q0 (xs0 xs1:List PV) (i2:Int):Option (Out×ze) :=
 zY (zs env ev zI 52 49 2 (sub Qk [1,1,1,1,1,0,1,0,0])) (zD env 49 2 0) (zG 2 (zT (zH env ev 52 49 0 (sub Qk [1,1,1,1,1,1])) (zX env 49 Tryz.f49.results.toList 0))) ⟨zQ [(0,(.pv (.sl 1 xs0))),(4,(.slu 5 1 xs1)),(6,(.pv (I i2)))],[]⟩
theorem za1 (xs0 xs1:List PV) (i2:Int):qB xs0 xs1 i2 =
 cond (decide (i2<(xs0.length:Int))) (
 cond (decide (0<=i2)&&decide (i2<(xs0.length:Int))) ((xs0[(i2).toNat]?).bind fun P1=>(P1.cells[0]?).bind fun P2=>(zE P2).bind fun L3=>zq (ev 99 [(.slu 5 1 xs1),(.pv (I (L3.2.length:Int)))] []) (fun A4 H5=>cond (decide (H5.length=0)) ((yx 5 1 A4).bind fun X6=>qB xs0 X6 (IntKind.wrap .i64 (i2+1))) none) (fun A4 H5=>cond (decide (H5.length=0)) (some (.pan A4,[])) none)) none) (
 cond ((Int.tmod (xs0.length:Int) 2)==0) (
  zq (ev 99 [(.slu 5 1 xs1),(.pv (I 0))] []) (fun A1 H2=>cond (decide (H2.length=0)) ((yx 5 1 A1).bind fun X3=>Q0 xs0 X3 0) none) (fun A1 H2=>cond (decide (H2.length=0)) (some (.pan A1,[])) none)) (
  Q0 xs0 xs1 0)):=(z4 ..).trans (by kernel_rfl)
theorem za2 (xs0 xs1:List PV) (i2:Int):Q0 xs0 xs1 i2 =
 cond (decide (i2<(xs0.length:Int))) (
 cond (decide (0<=i2)&&decide (i2<(xs0.length:Int))) ((xs0[(i2).toNat]?).bind fun P1=>(P1.cells[0]?).bind fun P2=>cp (ev 91 [(.pv P2)] []) (fun P5=>(zE P5).bind fun L6=>cond (decide (L6.1=1)) (cond (zJ (xs1.length+L6.2.length) 1) (Q0 xs0 (xs1++L6.2) (IntKind.wrap .i64 (i2+1))) none) none)) none) (
 some (.ret (.pv (.tup [(.sl 1 xs1),(I 0)])),[])):=(z4 ..).trans (by kernel_rfl)
theorem zi3 (x0:List PV):ev 49 [(.pv (.sl 1 x0))] [] =
 cond (decide ((x0.length:Int)<1)) (
 some (.ret (.pv (.tup [(.sl 1 []),(I 1)])),[])) (
 cond (decide ((x0.length:Int)>512)) (
  some (.ret (.pv (.tup [(.sl 1 []),(I 1)])),[])) (
  zq (ev 99 [(.slu 5 1 []),(.pv (I (IntKind.wrap .i64 ((x0.length:Int)-1))))] []) (fun A1 H2=>cond (decide (H2.length=0)) ((yx 5 1 A1).bind fun X3=>qB x0 X3 0) none) (fun A1 H2=>cond (decide (H2.length=0)) (some (.pan A1,[])) none))):=zi (fn:=Tryz.f49) _ _
theorem zmh (x0_0 x0_1 x0_2:Int):ev 55 [(.pv (.agg [(I x0_0),(I x0_1),(I x0_2)]))] [] =
 some (.ret (.pv (.agg [(I (if 1000<x0_0 then 1000 else x0_0)),(I (if 268435455<x0_1 then 268435455 else x0_1)),(I x0_2)])),[]):=zi (fn:=Tryz.f55) _ _
theorem zmj (x0:PV):ev 56 [.pv x0] []=(KT 152 x0).bind fun n=>some (.ret (.pv (.v (.int .i64 n))),[]):=(ua (q:=(0,(0,152))) (by kernel_rfl) _ _).trans (by kernel_rfl)
noncomputable def Qn:Code:=Tryz.f60.body.getD .skip
noncomputable def zbZ (xs0 xs1 xs2:List PV) (i3 i4 i5 i6 i7:Int):Option (Out×ze) :=
 zY (zs env ev zI 38 60 0 (sub Qn [1,0,1,0,0])) (zD env 60 0 1) (zG 0 (zT (zH env ev 38 60 0 (sub Qn [1,1])) (zX env 60 Tryz.f60.results.toList 0))) ⟨zQ [(0,(.pv (.sl 1 xs0))),(1,(.pv (.sl 1 xs1))),(5,(.ptr 0 0)),(14,(.slu 67 1 xs2)),(15,(.pv (I i3))),(16,(.pv (I i4)))],[[(.pv (I i5)),(.pv (I i6)),(.pv (I i7))]]⟩
noncomputable def q8 (xs0 xs1 xs2:List PV) (i3 i4 i5 i6 i7:Int):Option (Out×ze) :=
 zY (zs env ev zI 38 60 0 (sub Qn [1,0,1,0,0])) (zD env 60 0 1) (zG 0 (zT (zH env ev 38 60 0 (sub Qn [1,1])) (zX env 60 Tryz.f60.results.toList 0))) ⟨zQ [(0,(.pv (.sl 1 xs0))),(1,(.pv (.sl 1 xs1))),(5,(.ptr 0 0)),(14,(.pv (.sl 1 xs2))),(15,(.pv (I i3))),(16,(.pv (I i4)))],[[(.pv (I i5)),(.pv (I i6)),(.pv (I i7))]]⟩
theorem zkN (xs0 xs1 xs2:List PV) (i3 i4 i5 i6 i7:Int):zbZ xs0 xs1 xs2 i3 i4 i5 i6 i7 =
 cond (decide (i4<i3)) (
 cond (decide (0<=i4)&&decide (i4<(xs2.length:Int))) ((xs2[(i4).toNat]?).bind fun P1=>(P1.cells[0]?).bind fun P2=>cp (ev 110 [(.pv P2),(.pv (.agg [(I i5),(I i6),(I i7)]))] []) (fun P5=>tK P5 0 fun P7=>tK P5 1 fun P9=>(za .i64 (.pv P9)).bind fun N10=>cond (N10 != 0) (
 some (.ret (.pv (.tup [(Bo false),P9])),[])) (
 q8 xs0 xs1 xs2 i3 (IntKind.wrap .i64 (i4+1)) i5 i6 i7))) none) (
 cp (ev 112 [(.pv (.sl 1 xs0))] []) (fun P3=>cp (ev 112 [(.pv (.sl 1 xs1))] []) (fun P6=>cp (ev 111 [(.pv (.agg [(.sl 1 xs0),(.sl 1 xs1)])),(.pv P3),(.pv P6)] []) (fun P9=>some (.ret (.pv (.tup [P9,(I 0)])),[]))))):=(z4 ..).trans (by kernel_rfl)
theorem zb0 (xs0 xs1 xs2:List PV) (i3 i4 i5 i6 i7:Int):q8 xs0 xs1 xs2 i3 i4 i5 i6 i7 =
 cond (decide (i4<i3)) (
 cond (decide (0<=i4)&&decide (i4<(xs2.length:Int))) ((xs2[(i4).toNat]?).bind fun P1=>(P1.cells[0]?).bind fun P2=>cp (ev 110 [(.pv P2),(.pv (.agg [(I i5),(I i6),(I i7)]))] []) (fun P5=>tK P5 0 fun P7=>tK P5 1 fun P9=>(za .i64 (.pv P9)).bind fun N10=>cond (N10 != 0) (
 some (.ret (.pv (.tup [(Bo false),P9])),[])) (
 q8 xs0 xs1 xs2 i3 (IntKind.wrap .i64 (i4+1)) i5 i6 i7))) none) (
 cp (ev 112 [(.pv (.sl 1 xs0))] []) (fun P3=>cp (ev 112 [(.pv (.sl 1 xs1))] []) (fun P6=>cp (ev 111 [(.pv (.agg [(.sl 1 xs0),(.sl 1 xs1)])),(.pv P3),(.pv P6)] []) (fun P9=>some (.ret (.pv (.tup [P9,(I 0)])),[]))))):=(z4 ..).trans (by kernel_rfl)
theorem zkO (x0 x1:List PV) (x2_0 x2_1 x2_2:Int):ev 60 [(.pv (.sl 1 x0)),(.pv (.sl 1 x1)),(.pv (.agg [(I x2_0),(I x2_1),(I x2_2)]))] [] =
 zbZ x0 x1 [(.sl 1 x0),(.sl 1 x1)] 2 0 x2_0 x2_1 x2_2:=zi (fn:=Tryz.f60) _ _
theorem zjw (x0:List PV) (x1_0 x1_1 x1_2:Int):ev 75 [(.pv (.sl 1 x0)),(.pv (.agg [(I x1_0),(I x1_1),(I x1_2)]))] [] =
 cp (ev 81 [(.pv (.sl 1 x0)),(.pv (.agg [(I x1_0),(I x1_1),(I x1_2)]))] []) (fun P3=>tK P3 0 fun P5=>tK P3 1 fun P7=>xJ P5 (fun P8 P9 P10 P11 P12=>(za .i64 (.pv P7)).bind fun N13=>cond (N13 != 0) (
 some (.ret (.pv (.tup [(.sl 1 []),P7])),[])) (
 cp (ev 51 [(.pv (.agg [P8,P9,P10,P11,P12]))] []) (fun P16=>some (.ret (.pv (.tup [P16,(I 0)])),[]))))):=zi (fn:=Tryz.f75) _ _
theorem zjG (x0:List PV):ev 80 [(.pv (.sl 1 x0))] [] =
 zq (ev 87 [(.pv (.sl 1 x0))] []) (fun A1 H2=>(Zq 0 2 A1).bind fun Q3=>(yx 30 1 Q3.1).bind fun X4=>(Q3.2[1]?).bind fun P5=>(z7 (.pv P5)).bind fun B6=>cond (!B6) (
 some (.ret (.pv (.tup [(.sl 1 []),(I 9)])),[])) (
 cp (ev 44 [(.pv (.sl 1 X4))] []) (fun P9=>some (.ret (.pv (.tup [P9,(I 0)])),[])))) (fun A1 H2=>some (.pan A1,[])):=zi (fn:=Tryz.f80) _ _
theorem zjk (x0_0 x0_1 x0_2:Int):ev 82 [(.pv (.agg [(I x0_0),(I x0_1),(I x0_2)]))] [] =
 cond (decide (x0_1<0)) (
 some (.ret (.pv (.agg [(I 0)])),[])) (
 some (.ret (.pv (.agg [(I x0_1)])),[])):=zi (fn:=Tryz.f82) _ _
theorem zi4 (x0:Int):ev 86 [(.pv (I x0))] [] =
 cond ((Int.tmod x0 2)==0) (
 some (.ret (.pv (I (IntKind.wrap .i64 ((IntKind.wrap .i64 (4*x0))+8)))),[])) (
 some (.ret (.pv (I (IntKind.wrap .i64 ((IntKind.wrap .i64 (4*x0))+4)))),[])):=zi (fn:=Tryz.f86) _ _
noncomputable def g8:Code:=Tryz.f87.body.getD .skip
noncomputable def QZ (xs0 xs1:List PV) (i2:Int):Option (Out×ze) :=
 zY (zs env ev zI 30 87 0 (sub g8 [1,1,1,0,1,0,0])) (zD env 87 0 0) (zG 0 (zT (zH env ev 30 87 0 (sub g8 [1,1,1,1])) (zX env 87 Tryz.f87.results.toList 0))) ⟨zQ [(0,(.pv (.sl 1 xs0))),(4,(.slu 30 1 xs1)),(5,(.pv (I i2)))],[]⟩
theorem zaX (xs0 xs1:List PV) (i2:Int):QZ xs0 xs1 i2 =
 cond (decide (i2<(IntKind.wrap .i64 (Int.tdiv (xs0.length:Int) 8)))) (
 cp (ev 94 [(.pv (.sl 1 xs0)),(.pv (I i2))] []) (fun P3=>tK P3 0 fun P5=>tK P3 1 fun P7=>cond ((decide (P5.cells.length=1)&&P5.cells.all PV.isCell)&&true) (cond (zJ (xs1.length+1) 8) (QZ xs0 (xs1++[P5]) (IntKind.wrap .i64 (i2+1))) none) none)) (
 some (.ret (.tup 0 (.slu 30 1 xs1) [(.v .nilIface),(Bo true)]),[])):=(z4 ..).trans (by kernel_rfl)
theorem ziY (x0:List PV):ev 87 [(.pv (.sl 1 x0))] [] =
 cond ((Int.tmod (x0.length:Int) 8) != 0) (
 some (.ret (.tup 0 (.slu 30 1 []) [(.v .nilIface),(Bo false)]),[])) (
 QZ x0 [] 0):=zi (fn:=Tryz.f87) _ _
theorem zjE (x0:Int):ev 90 [(.pv (U x0))] [] =
 cp (ev 89 [(.pv (U x0))] []) (fun P3=>(zE P3).bind fun L4=>some (.ret (.pv (Bo (decide ((L4.2.length:Int)≥7)))),[])):=zi (fn:=Tryz.f90) _ _
noncomputable def gX:Code:=Tryz.f94.body.getD .skip
noncomputable def QW (xs0:List PV) (i1 i2 i3:Int):Option (Out×ze) :=
 zY (zs env ev zI 34 94 0 (sub gX [1,1,1,0,1,0,0])) (zD env 94 0 0) (zG 0 (zT (zH env ev 34 94 0 (sub gX [1,1,1,1])) (zX env 94 Tryz.f94.results.toList 0))) ⟨zQ [(0,(.pv (.sl 1 xs0))),(1,(.pv (I i1))),(6,(.pv (U i2))),(7,(.pv (I i3)))],[]⟩
theorem zaV (xs0:List PV) (i1 i2 i3:Int):QW xs0 i1 i2 i3 =
 cond (decide (i3≥0)) (
 cond (decide (0<=(IntKind.wrap .i64 ((IntKind.wrap .i64 (8*i1))+i3)))&&decide ((IntKind.wrap .i64 ((IntKind.wrap .i64 (8*i1))+i3))<(xs0.length:Int))) ((xs0[(IntKind.wrap .i64 ((IntKind.wrap .i64 (8*i1))+i3)).toNat]?).bind fun P1=>(P1.cells[0]?).bind fun P2=>(yB (.pv P2)).bind fun Q3=>QW xs0 i1 (IntKind.wrap .u64 ((IntKind.wrap .u64 (i2*256))+(IntKind.wrap .u64 Q3.2))) (IntKind.wrap .i64 (i3-1))) none) (
 some (.ret (.pv (.tup [(U i2),(Bo true)])),[])):=(z4 ..).trans (by kernel_rfl)
theorem ziV (x0:List PV) (x1:Int):ev 94 [(.pv (.sl 1 x0)),(.pv (I x1))] [] =
 cond (decide (x1<0)) (
 some (.ret (.pv (.tup [(U 0),(Bo false)])),[])) (
 cond (decide (x1>(IntKind.wrap .i64 ((IntKind.wrap .i64 (Int.tdiv (x0.length:Int) 8))-1)))) (
  some (.ret (.pv (.tup [(U 0),(Bo false)])),[])) (
  QW x0 x1 0 7)):=zi (fn:=Tryz.f94) _ _
theorem zmi (x0:Int):ev 104 [(.pv (I x0))] [] =
 cond (x0==0) (
 some (.ret (.pv (.v .nilIface)),[])) (
 some (.ret (.pv (.ifc 152 (.agg [(I x0)]))),[])):=zi (fn:=Tryz.f104) _ _
noncomputable def Qo:Code:=Tryz.f105.body.getD .skip
noncomputable def uf (xs0 xs1 xs2:List PV) (i3 i4:Int):Option (Out×ze) :=
 zY (zs env ev zI 55 105 0 (sub Qo [1,1,1,0,1,0,0])) (zD env 105 0 0) (zG 0 (zT (zH env ev 55 105 0 (sub Qo [1,1,1,1])) (zX env 105 Tryz.f105.results.toList 0))) ⟨zQ [(0,(.pv (.sl 1 xs0))),(4,(.slu 5 1 xs1)),(21,(.pv (.sl 1 xs2))),(22,(.pv (I i3))),(23,(.pv (I i4)))],[]⟩
noncomputable def ug (xs0 xs1:List PV) (i2 i3:Int):Option (Out×ze) :=
 zY (zs env ev zI 55 105 2 (sub Qo [1,1,1,1,1,0,1,0,0])) (zD env 105 2 0) (zG 2 (zT (zH env ev 55 105 0 (sub Qo [1,1,1,1,1,1])) (zX env 105 Tryz.f105.results.toList 0))) ⟨zQ [(4,(.slu 5 1 xs0)),(43,(.pv (.sl 1 xs1))),(44,(.pv (I i2))),(45,(.pv (I i3)))],[]⟩
theorem zcr (xs0 xs1 xs2:List PV) (i3 i4:Int):uf xs0 xs1 xs2 i3 i4 =
 cond (decide (i4<i3)) (
 cond (decide (0<=i4)&&decide (i4<(xs2.length:Int))) ((xs2[(i4).toNat]?).bind fun P1=>(P1.cells[0]?).bind fun P2=>(zE P2).bind fun L3=>cond (decide ((L3.2.length:Int)≥536870912)) (
 some (.ret (.tup 0 (.slu 5 1 []) [(.v .nilIface),(I 1)]),[])) (
 (zE P2).bind fun L4=>zq (ev 166 [(.slu 5 1 xs1),(.pv (I (L4.2.length:Int)))] []) (fun A5 H6=>cond (decide (H6.length=0)) ((yx 5 1 A5).bind fun X7=>uf xs0 X7 xs2 i3 (IntKind.wrap .i64 (i4+1))) none) (fun A5 H6=>cond (decide (H6.length=0)) (some (.pan A5,[])) none))) none) (
 cp (ev 167 [(.pv (I (xs0.length:Int)))] []) (fun P3=>(za .i64 (.pv P3)).bind fun N4=>cond (decide (0<=(IntKind.wrap .i64 (N4-(xs1.length:Int))))&&decide ((IntKind.wrap .i64 (N4-(xs1.length:Int)))<=140737488355328)) (cond (zJ (xs1.length+(List.replicate (IntKind.wrap .i64 (N4-(xs1.length:Int))).toNat (U8 0)).length) 1) (ug (xs1++(List.replicate (IntKind.wrap .i64 (N4-(xs1.length:Int))).toNat (U8 0))) xs0 (xs0.length:Int) 0) none) none)):=(z4 ..).trans (by kernel_rfl)
theorem zcs (xs0 xs1:List PV) (i2 i3:Int):ug xs0 xs1 i2 i3 =
 cond (decide (i3<i2)) (
 cond (decide (0<=i3)&&decide (i3<(xs1.length:Int))) ((xs1[(i3).toNat]?).bind fun P1=>(P1.cells[0]?).bind fun P2=>cp (ev 117 [(.pv P2)] []) (fun P5=>(zE P5).bind fun L6=>cond (decide (L6.1=1)) (cond (zJ (xs0.length+L6.2.length) 1) (ug (xs0++L6.2) xs1 i2 (IntKind.wrap .i64 (i3+1))) none) none)) none) (
 some (.ret (.tup 0 (.slu 5 1 xs0) [(.v .nilIface),(I 0)]),[])):=(z4 ..).trans (by kernel_rfl)
theorem zll (x0:List PV):ev 105 [(.pv (.sl 1 x0))] [] =
 cond (decide ((x0.length:Int)<1)) (
 some (.ret (.tup 0 (.slu 5 1 []) [(.v .nilIface),(I 1)]),[])) (
 cond (decide ((x0.length:Int)>512)) (
  some (.ret (.tup 0 (.slu 5 1 []) [(.v .nilIface),(I 1)]),[])) (
  zq (ev 166 [(.slu 5 1 []),(.pv (I (IntKind.wrap .i64 ((x0.length:Int)-1))))] []) (fun A1 H2=>cond (decide (H2.length=0)) ((yx 5 1 A1).bind fun X3=>uf x0 X3 x0 (x0.length:Int) 0) none) (fun A1 H2=>cond (decide (H2.length=0)) (some (.pan A1,[])) none))):=zi (fn:=Tryz.f105) _ _
noncomputable def rR:Code:=Tryz.f116.body.getD .skip
noncomputable def JG (xs0:List PV) (i1 i2 i3:Int):Option (Out×ze) :=
 zY (zs env ev zI 36 116 0 (sub rR [1,1,1,0,1,0,0])) (zD env 116 0 0) (zG 0 (zT (zH env ev 36 116 0 (sub rR [1,1,1,1])) (zX env 116 Tryz.f116.results.toList 0))) ⟨zQ [(0,(.pv (.sl 1 xs0))),(1,(.pv (I i1))),(6,(.pv (U i2))),(17,(.pv (I i3)))],[]⟩
theorem zfv (xs0:List PV) (i1 i2 i3:Int):JG xs0 i1 i2 i3 =
 cond (decide (i3<8)) (
 cond (decide (0<=(IntKind.wrap .i64 ((IntKind.wrap .i64 (8*i1))+i3)))&&decide ((IntKind.wrap .i64 ((IntKind.wrap .i64 (8*i1))+i3))<(xs0.length:Int))) ((xs0[(IntKind.wrap .i64 ((IntKind.wrap .i64 (8*i1))+i3)).toNat]?).bind fun P1=>(P1.cells[0]?).bind fun P2=>(yB (.pv P2)).bind fun Q3=>cond (yS .shl (IntKind.wrap .u64 (IntKind.wrap .i64 (8*i3)))) (JG xs0 i1 (IntKind.wrap .u64 (BitVec.ofInt 64 i2 ||| BitVec.ofInt 64 (IntKind.wrap .u64 ((IntKind.wrap .u64 Q3.2)*2^(min (IntKind.wrap .u64 (IntKind.wrap .i64 (8*i3))).toNat 64)))).toNat) (IntKind.wrap .i64 (i3+1))) none) none) (
 some (.ret (.pv (.tup [(U i2),(Bo true)])),[])):=(z4 ..).trans (by kernel_rfl)
theorem zp7 (x0:List PV) (x1:Int):ev 116 [(.pv (.sl 1 x0)),(.pv (I x1))] [] =
 cond (decide (x1<0)) (
 some (.ret (.pv (.tup [(U 0),(Bo false)])),[])) (
 cond (decide (x1≥(IntKind.wrap .i64 (Int.tdiv (x0.length:Int) 8)))) (
  some (.ret (.pv (.tup [(U 0),(Bo false)])),[])) (
  JG x0 x1 0 0)):=zi (fn:=Tryz.f116) _ _
noncomputable def ri:Code:=Tryz.f126.body.getD .skip
noncomputable def Vd (xs0:List PV) (i1 i2:Int):Option (Out×ze) :=
 zY (zs env ev zI 20 126 0 (sub ri [1,1,0,1,0,0])) (zD env 126 0 0) (zG 0 (zT (zH env ev 20 126 0 (sub ri [1,1,1])) (zX env 126 Tryz.f126.results.toList 0))) ⟨zQ [(0,(.pv (.sl 5 xs0))),(3,(.pv (I i1))),(4,(.pv (I i2)))],[]⟩
theorem za7 (xs0:List PV) (i1 i2:Int):Vd xs0 i1 i2 =
 cond (decide (i2<(xs0.length:Int))) (
 cond (decide (0<=i2)&&decide (i2<(xs0.length:Int))) ((xs0[(i2).toNat]?).bind fun P1=>(P1.cells[0]?).bind fun P2=>(za .i64 (.pv P2)).bind fun N3=>cond (N3 != 0) (
 Vd xs0 (IntKind.wrap .i64 (i2+1)) (IntKind.wrap .i64 (i2+1))) (
 Vd xs0 i1 (IntKind.wrap .i64 (i2+1)))) none) (
 some (.ret (.pv (I i1)),[])):=(z4 ..).trans (by kernel_rfl)
theorem zjl (x0:List PV):ev 126 [(.pv (.sl 5 x0))] [] =
 Vd x0 0 0:=zi (fn:=Tryz.f126) _ _
noncomputable def Y2:Code:=Tryz.f133.body.getD .skip
noncomputable def ZS (i0:Int) (p1 p2:PV) (i3:Int) (p4 p5 p6 p7 p8 p9 p10 p11 p12 p13:PV):Option (Out×ze) :=
 zY (zs env ev zI 274 133 0 (sub Y2 (o1 13 [0,1,0,1,1,0,1,0,0]))) (zD env 133 0 1) (zG 0 (zT (zH env ev 274 133 0 (sub Y2 (o1 13 [0,1,0,1,1,1]))) (zT (zH env ev 274 133 0 (sub Y2 (o1 13 [1]))) (zX env 133 Tryz.f133.results.toList 0)))) ⟨zQ [(11,(.pv (I i0))),(12,(.pv p1)),(13,(.pv p2)),(14,(.pv (I i3)))],[[(.pv p4),(.pv p5),(.pv p6),(.pv p7),(.pv p8),(.pv p9),(.pv p10),(.pv p11),(.pv p12),(.pv p13)]]⟩
noncomputable def wZ (xs0:List PV) (i1:Int) (b2 b3:Bool) (i4:Int) (p5 p6 p7 p8 p9 p10 p11 p12 p13 p14 p15 p16 p17 p18 p19 p20 p21 p22:PV):Option (Out×ze) :=
 zY (zs env ev zI 274 133 2 (sub Y2 (o1 18 [0,1,0,0]))) (zD env 133 2 2) (zG 2 (zT (zH env ev 274 133 0 (sub Y2 (o1 18 [1]))) (zX env 133 Tryz.f133.results.toList 0))) ⟨zQ [(0,(.pv (.sl 1 xs0))),(11,(.pv (I i1))),(15,(.ptr 1 0)),(17,(.pv (Bo b2))),(18,(.pv (Bo b3))),(19,(.pv (I i4)))],[[(.pv p5),(.pv p6),(.pv p7),(.pv p8),(.pv p9),(.pv p10),(.pv p11),(.pv p12),(.pv p13),(.pv p14)],[(.pv p15),(.pv p16),(.pv p17),(.pv p18),(.pv p19),(.pv p20),(.pv p21),(.pv p22)]]⟩
noncomputable def YI (xs0:List PV) (p1:PV) (i2:Int) (p3 p4 p5 p6 p7 p8 p9 p10 p11 p12 p13 p14 p15 p16 p17 p18 p19 p20:PV):Option (Out×ze) :=
 zY (zs env ev zI 274 133 4 (sub Y2 (o1 20 [0,1,0,0]))) (zD env 133 4 2) (zG 4 (zT (zH env ev 274 133 0 (sub Y2 (o1 20 [1]))) (zX env 133 Tryz.f133.results.toList 0))) ⟨zQ [(0,(.pv (.sl 1 xs0))),(11,(.pv p1)),(15,(.ptr 1 0)),(21,(.pv (I i2)))],[[(.pv p3),(.pv p4),(.pv p5),(.pv p6),(.pv p7),(.pv p8),(.pv p9),(.pv p10),(.pv p11),(.pv p12)],[(.pv p13),(.pv p14),(.pv p15),(.pv p16),(.pv p17),(.pv p18),(.pv p19),(.pv p20)]]⟩
theorem zbl (i0:Int) (p1 p2:PV) (i3:Int) (p4 p5 p6 p7 p8 p9 p10 p11 p12 p13:PV):ZS i0 p1 p2 i3 p4 p5 p6 p7 p8 p9 p10 p11 p12 p13 =
 (zE p1).bind fun L1=>cond (decide (i3<(L1.2.length:Int))) (
 (zE p2).bind fun L2=>cond (decide (i3<(L2.2.length:Int))) (
 (zE p1).bind fun L3=>cond ((decide (L3.1=1)&&decide (0<=i3))&&decide (i3<(L3.2.length:Int))) ((L3.2[(i3).toNat]?).bind fun P4=>(P4.cells[0]?).bind fun P5=>(zE p2).bind fun L6=>cond ((decide (L6.1=1)&&decide (0<=i3))&&decide (i3<(L6.2.length:Int))) ((L6.2[(i3).toNat]?).bind fun P7=>(P7.cells[0]?).bind fun P8=>(za .u8 (.pv P5)).bind fun N9=>(za .u8 (.pv P8)).bind fun N10=>cond (N9 != N10) (
 some (.ret (.pv (I (-1))),[])) (
 (zE p2).bind fun L11=>cond (decide (i3≥(L11.2.length:Int))) (
  (zE p1).bind fun L12=>cond ((decide (L12.1=1)&&decide (0<=i3))&&decide (i3<(L12.2.length:Int))) ((L12.2[(i3).toNat]?).bind fun P13=>(P13.cells[0]?).bind fun P14=>(za .u8 (.pv P14)).bind fun N15=>cond (N15 != 0) (
  some (.ret (.pv (I (-1))),[])) (
  ZS i0 p1 p2 (IntKind.wrap .i64 (i3+1)) p4 p5 p6 p7 p8 p9 p10 p11 p12 p13)) none) (
  ZS i0 p1 p2 (IntKind.wrap .i64 (i3+1)) p4 p5 p6 p7 p8 p9 p10 p11 p12 p13))) none) none) (
 (zE p2).bind fun L3=>cond (decide (i3≥(L3.2.length:Int))) (
  (zE p1).bind fun L4=>cond ((decide (L4.1=1)&&decide (0<=i3))&&decide (i3<(L4.2.length:Int))) ((L4.2[(i3).toNat]?).bind fun P5=>(P5.cells[0]?).bind fun P6=>(za .u8 (.pv P6)).bind fun N7=>cond (N7 != 0) (
  some (.ret (.pv (I (-1))),[])) (
  ZS i0 p1 p2 (IntKind.wrap .i64 (i3+1)) p4 p5 p6 p7 p8 p9 p10 p11 p12 p13)) none) (
  ZS i0 p1 p2 (IntKind.wrap .i64 (i3+1)) p4 p5 p6 p7 p8 p9 p10 p11 p12 p13))) (
 some (.ret (.pv (I i0)),[])):=(z4 ..).trans (by kernel_rfl)
theorem qH (xs0:List PV) (i1:Int) (b2 b3:Bool) (i4:Int) (p5 p6 p7 p8 p9 p10 p11 p12 p13 p14 p15 p16 p17 p18 p19 p20 p21 p22:PV):wZ xs0 i1 b2 b3 i4 p5 p6 p7 p8 p9 p10 p11 p12 p13 p14 p15 p16 p17 p18 p19 p20 p21 p22 =
 (za .i64 (.pv p21)).bind fun N1=>cond (decide (i4<N1)) (
 (za .i64 (.pv p18)).bind fun N2=>(za .i64 (.pv p19)).bind fun N3=>cond (decide ((IntKind.wrap .i64 (N2+N3))>0)) (
 cp (ev 141 [(.pv (.agg [p15,p16,p17,p18,p19,p20,p21,p22])),(.pv (I i4))] []) (fun P6=>wE P6 (fun P7 P8 P9 P10 P11 P12 P13 P14=>(za .i64 (.pv P10)).bind fun N15=>cond (decide (N15>0)) (
 (za .i64 (.pv P9)).bind fun N16=>(za .i64 (.pv P10)).bind fun N17=>cond (decide (0<=(IntKind.wrap .i64 ((IntKind.wrap .i64 (N16+N17))-1)))&&decide ((IntKind.wrap .i64 ((IntKind.wrap .i64 (N16+N17))-1))<(xs0.length:Int))) ((xs0[(IntKind.wrap .i64 ((IntKind.wrap .i64 (N16+N17))-1)).toNat]?).bind fun P18=>(P18.cells[0]?).bind fun P19=>(za .u64 (.pv P19)).bind fun N20=>cond (N20 != 0) (
 (za .i64 (.pv P11)).bind fun N21=>cond (decide (N21>0)) (
 (za .i64 (.pv P9)).bind fun N22=>(za .i64 (.pv P10)).bind fun N23=>(za .i64 (.pv P11)).bind fun N24=>cond (decide (0<=(IntKind.wrap .i64 ((IntKind.wrap .i64 ((IntKind.wrap .i64 (N22+N23))+N24))-1)))&&decide ((IntKind.wrap .i64 ((IntKind.wrap .i64 ((IntKind.wrap .i64 (N22+N23))+N24))-1))<(xs0.length:Int))) ((xs0[(IntKind.wrap .i64 ((IntKind.wrap .i64 ((IntKind.wrap .i64 (N22+N23))+N24))-1)).toNat]?).bind fun P25=>(P25.cells[0]?).bind fun P26=>(za .u64 (.pv P26)).bind fun N27=>cond (N27 != 0) (
 wZ xs0 i1 true true (IntKind.wrap .i64 (i4+1)) p5 p6 p7 p8 p9 p10 p11 p12 p13 p14 p15 p16 p17 p18 p19 p20 p21 p22) (
 wZ xs0 i1 true b3 (IntKind.wrap .i64 (i4+1)) p5 p6 p7 p8 p9 p10 p11 p12 p13 p14 p15 p16 p17 p18 p19 p20 p21 p22)) none) (
 wZ xs0 i1 true b3 (IntKind.wrap .i64 (i4+1)) p5 p6 p7 p8 p9 p10 p11 p12 p13 p14 p15 p16 p17 p18 p19 p20 p21 p22)) (
 (za .i64 (.pv P11)).bind fun N21=>cond (decide (N21>0)) (
  (za .i64 (.pv P9)).bind fun N22=>(za .i64 (.pv P10)).bind fun N23=>(za .i64 (.pv P11)).bind fun N24=>cond (decide (0<=(IntKind.wrap .i64 ((IntKind.wrap .i64 ((IntKind.wrap .i64 (N22+N23))+N24))-1)))&&decide ((IntKind.wrap .i64 ((IntKind.wrap .i64 ((IntKind.wrap .i64 (N22+N23))+N24))-1))<(xs0.length:Int))) ((xs0[(IntKind.wrap .i64 ((IntKind.wrap .i64 ((IntKind.wrap .i64 (N22+N23))+N24))-1)).toNat]?).bind fun P25=>(P25.cells[0]?).bind fun P26=>(za .u64 (.pv P26)).bind fun N27=>cond (N27 != 0) (
  wZ xs0 i1 b2 true (IntKind.wrap .i64 (i4+1)) p5 p6 p7 p8 p9 p10 p11 p12 p13 p14 p15 p16 p17 p18 p19 p20 p21 p22) (
  wZ xs0 i1 b2 b3 (IntKind.wrap .i64 (i4+1)) p5 p6 p7 p8 p9 p10 p11 p12 p13 p14 p15 p16 p17 p18 p19 p20 p21 p22)) none) (
  wZ xs0 i1 b2 b3 (IntKind.wrap .i64 (i4+1)) p5 p6 p7 p8 p9 p10 p11 p12 p13 p14 p15 p16 p17 p18 p19 p20 p21 p22))) none) (
 (za .i64 (.pv P11)).bind fun N16=>cond (decide (N16>0)) (
  (za .i64 (.pv P9)).bind fun N17=>(za .i64 (.pv P10)).bind fun N18=>(za .i64 (.pv P11)).bind fun N19=>cond (decide (0<=(IntKind.wrap .i64 ((IntKind.wrap .i64 ((IntKind.wrap .i64 (N17+N18))+N19))-1)))&&decide ((IntKind.wrap .i64 ((IntKind.wrap .i64 ((IntKind.wrap .i64 (N17+N18))+N19))-1))<(xs0.length:Int))) ((xs0[(IntKind.wrap .i64 ((IntKind.wrap .i64 ((IntKind.wrap .i64 (N17+N18))+N19))-1)).toNat]?).bind fun P20=>(P20.cells[0]?).bind fun P21=>(za .u64 (.pv P21)).bind fun N22=>cond (N22 != 0) (
  wZ xs0 i1 b2 true (IntKind.wrap .i64 (i4+1)) p5 p6 p7 p8 p9 p10 p11 p12 p13 p14 p15 p16 p17 p18 p19 p20 p21 p22) (
  wZ xs0 i1 b2 b3 (IntKind.wrap .i64 (i4+1)) p5 p6 p7 p8 p9 p10 p11 p12 p13 p14 p15 p16 p17 p18 p19 p20 p21 p22)) none) (
  wZ xs0 i1 b2 b3 (IntKind.wrap .i64 (i4+1)) p5 p6 p7 p8 p9 p10 p11 p12 p13 p14 p15 p16 p17 p18 p19 p20 p21 p22))))) (
 cond (!b2) (
  some (.ret (.pv (I (-1))),[])) (
  cond (!b3) (
   some (.ret (.pv (I (-1))),[])) (
   YI xs0 (I i1) 0 p5 p6 p7 p8 p9 p10 p11 p12 p13 p14 p15 p16 p17 p18 p19 p20 p21 p22)))) (
 cond (!b2) (
  some (.ret (.pv (I (-1))),[])) (
  cond (!b3) (
   some (.ret (.pv (I (-1))),[])) (
   YI xs0 (I i1) 0 p5 p6 p7 p8 p9 p10 p11 p12 p13 p14 p15 p16 p17 p18 p19 p20 p21 p22))):=(z4 ..).trans (by kernel_rfl)
theorem qI (xs0:List PV) (p1:PV) (i2:Int) (p3 p4 p5 p6 p7 p8 p9 p10 p11 p12 p13 p14 p15 p16 p17 p18 p19 p20:PV):YI xs0 p1 i2 p3 p4 p5 p6 p7 p8 p9 p10 p11 p12 p13 p14 p15 p16 p17 p18 p19 p20 =
 (za .i64 (.pv p19)).bind fun N1=>cond (decide (i2<N1)) (
 (za .i64 (.pv p17)).bind fun N2=>cond (decide (N2>0)) (
 cp (ev 141 [(.pv (.agg [p13,p14,p15,p16,p17,p18,p19,p20])),(.pv (I i2))] []) (fun P5=>wE P5 (fun P6 P7 P8 P9 P10 P11 P12 P13=>(za .i64 (.pv P8)).bind fun N14=>(za .i64 (.pv P9)).bind fun N15=>cp (ev 196 [(.pv (.sl 1 xs0)),(.pv p1),(.pv (I (IntKind.wrap .i64 (N14+N15)))),(.pv P10)] []) (fun P18=>(za .i64 (.pv P18)).bind fun N19=>cond (decide (N19<0)) (
 some (.ret (.pv (I (-1))),[])) (
 YI xs0 P18 (IntKind.wrap .i64 (i2+1)) p3 p4 p5 p6 p7 p8 p9 p10 p11 p12 p13 p14 p15 p16 p17 p18 p19 p20))))) (
 some (.ret (.pv p1),[]))) (
 some (.ret (.pv p1),[])):=(z4 ..).trans (by kernel_rfl)
theorem Vl (x0:List PV) (x1 x2:Int):ev 133 [(.pv (.sl 1 x0)),(.pv (I x1)),(.pv (I x2))] [] =
 cond (decide (0<=x2)&&decide (x2<(x0.length:Int))) ((x0[(x2).toNat]?).bind fun P1=>(P1.cells[0]?).bind fun P2=>(za .u64 (.pv P2)).bind fun N3=>cond (N3==0) (
 some (.ret (.pv (I x1)),[])) (
 cp (ev 195 [(.pv P2)] []) (fun P6=>wk P6 (fun P7 P8 P9 P10 P11 P12 P13 P14 P15 P16=>(za .i64 (.pv P7)).bind fun N17=>cond (decide (N17>1)) (
  some (.ret (.pv (I (-1))),[])) (
  (za .i64 (.pv P8)).bind fun N18=>(za .i64 (.pv P9)).bind fun N19=>(za .i64 (.pv P10)).bind fun N20=>(za .i64 (.pv P7)).bind fun N21=>cond (N21==0) (
   cond ((IntKind.wrap .i64 (N19+N20))==0) (
   (za .i64 (.pv P8)).bind fun N22=>cond (N22 != (-1)) (
   some (.ret (.pv (I (-1))),[])) (
   some (.ret (.pv (I x1)),[]))) (
   (za .i64 (.pv P7)).bind fun N22=>cond (N22==1) (
    cp (ev 128 [(.pv P11),(.pv P12)] []) (fun P25=>cond ((IntKind.wrap .i64 ((IntKind.wrap .i64 (x2+1))+N18)) != x1) (
    some (.ret (.pv (I (-1))),[])) (
    (za .i64 (.pv P25)).bind fun N26=>(za .i64 (.pv P7)).bind fun N27=>cond (N27==0) (
     (za .i64 (.pv P9)).bind fun N28=>cond (decide (N28>0)) (
     (za .i64 (.pv P9)).bind fun N29=>cond (decide (0<=(IntKind.wrap .i64 ((IntKind.wrap .i64 ((IntKind.wrap .i64 ((IntKind.wrap .i64 (x2+1))+N18))+N29))-1)))&&decide ((IntKind.wrap .i64 ((IntKind.wrap .i64 ((IntKind.wrap .i64 ((IntKind.wrap .i64 (x2+1))+N18))+N29))-1))<(x0.length:Int))) ((x0[(IntKind.wrap .i64 ((IntKind.wrap .i64 ((IntKind.wrap .i64 ((IntKind.wrap .i64 (x2+1))+N18))+N29))-1)).toNat]?).bind fun P30=>(P30.cells[0]?).bind fun P31=>(za .u64 (.pv P31)).bind fun N32=>cond (N32==0) (
     some (.ret (.pv (I (-1))),[])) (
     (za .i64 (.pv P10)).bind fun N33=>cond (decide (N33>0)) (
      cond (decide (0<=(IntKind.wrap .i64 ((IntKind.wrap .i64 (x1+N26))-1)))&&decide ((IntKind.wrap .i64 ((IntKind.wrap .i64 (x1+N26))-1))<(x0.length:Int))) ((x0[(IntKind.wrap .i64 ((IntKind.wrap .i64 (x1+N26))-1)).toNat]?).bind fun P34=>(P34.cells[0]?).bind fun P35=>(za .u64 (.pv P35)).bind fun N36=>cond (N36==0) (
      some (.ret (.pv (I (-1))),[])) (
      (za .i64 (.pv P9)).bind fun N37=>cp (ev 196 [(.pv (.sl 1 x0)),(.pv (I (IntKind.wrap .i64 (x1+N26)))),(.pv (I (IntKind.wrap .i64 ((IntKind.wrap .i64 ((IntKind.wrap .i64 (x2+1))+N18))+N37)))),(.pv P10)] []) (fun P40=>some (.ret (.pv P40),[])))) none) (
      (za .i64 (.pv P9)).bind fun N34=>cp (ev 196 [(.pv (.sl 1 x0)),(.pv (I (IntKind.wrap .i64 (x1+N26)))),(.pv (I (IntKind.wrap .i64 ((IntKind.wrap .i64 ((IntKind.wrap .i64 (x2+1))+N18))+N34)))),(.pv P10)] []) (fun P37=>some (.ret (.pv P37),[]))))) none) (
     (za .i64 (.pv P10)).bind fun N29=>cond (decide (N29>0)) (
      cond (decide (0<=(IntKind.wrap .i64 ((IntKind.wrap .i64 (x1+N26))-1)))&&decide ((IntKind.wrap .i64 ((IntKind.wrap .i64 (x1+N26))-1))<(x0.length:Int))) ((x0[(IntKind.wrap .i64 ((IntKind.wrap .i64 (x1+N26))-1)).toNat]?).bind fun P30=>(P30.cells[0]?).bind fun P31=>(za .u64 (.pv P31)).bind fun N32=>cond (N32==0) (
      some (.ret (.pv (I (-1))),[])) (
      (za .i64 (.pv P9)).bind fun N33=>cp (ev 196 [(.pv (.sl 1 x0)),(.pv (I (IntKind.wrap .i64 (x1+N26)))),(.pv (I (IntKind.wrap .i64 ((IntKind.wrap .i64 ((IntKind.wrap .i64 (x2+1))+N18))+N33)))),(.pv P10)] []) (fun P36=>some (.ret (.pv P36),[])))) none) (
      (za .i64 (.pv P9)).bind fun N30=>cp (ev 196 [(.pv (.sl 1 x0)),(.pv (I (IntKind.wrap .i64 (x1+N26)))),(.pv (I (IntKind.wrap .i64 ((IntKind.wrap .i64 ((IntKind.wrap .i64 (x2+1))+N18))+N30)))),(.pv P10)] []) (fun P33=>some (.ret (.pv P33),[]))))) (
     (za .i64 (.pv P11)).bind fun N28=>cond (N28==6) (
      cp (ev 196 [(.pv (.sl 1 x0)),(.pv (I (IntKind.wrap .i64 (x1+N26)))),(.pv (I (IntKind.wrap .i64 ((IntKind.wrap .i64 (x2+1))+N18)))),(.pv P12)] []) (fun P31=>some (.ret (.pv P31),[]))) (
      (za .i64 (.pv P11)).bind fun N29=>cond (decide (N29<6)) (
       cond ((decide (0<=(IntKind.wrap .i64 ((IntKind.wrap .i64 (x2+1))+N18)))&&decide ((IntKind.wrap .i64 ((IntKind.wrap .i64 (x2+1))+N18))<=(IntKind.wrap .i64 (x1+N26))))&&decide ((IntKind.wrap .i64 (x1+N26))<=(x0.length:Int))) (cp (ev 91 [(.pv (.sl 1 ((x0.take (IntKind.wrap .i64 (x1+N26)).toNat).drop (IntKind.wrap .i64 ((IntKind.wrap .i64 (x2+1))+N18)).toNat)))] []) (fun P32=>cp (ev 124 [(.pv P11),(.pv P12),(.pv P32)] []) (fun P35=>ZS (IntKind.wrap .i64 (x1+N26)) P32 P35 0 P7 P8 P9 P10 P11 P12 P13 P14 P15 P16))) none) (
       cp (ev 137 [(.pv (.sl 1 [(.sl 1 x0)])),(.pv (I 0)),(.pv (I x2))] []) (fun P32=>tK P32 0 fun P34=>tK P32 1 fun P36=>wE P34 (fun P37 P38 P39 P40 P41 P42 P43 P44=>(za .i64 (.pv P40)).bind fun N45=>(za .i64 (.pv P41)).bind fun N46=>(za .i64 (.pv P43)).bind fun N47=>(za .i64 (.pv P12)).bind fun N48=>cond ((IntKind.wrap .i64 (N47*(IntKind.wrap .i64 (N45+N46)))) != N48) (
        some (.ret (.pv (I (-1))),[])) (
        (za .i64 (.pv P40)).bind fun N49=>(za .i64 (.pv P41)).bind fun N50=>wZ x0 (IntKind.wrap .i64 (x1+N26)) (N49==0) (N50==0) 0 P7 P8 P9 P10 P11 P12 P13 P14 P15 P16 P37 P38 P39 P40 P41 P42 P43 P44))))))))) (
    cond ((IntKind.wrap .i64 ((IntKind.wrap .i64 (x2+1))+N18)) != x1) (
     some (.ret (.pv (I (-1))),[])) (
     (za .i64 (.pv P7)).bind fun N23=>cond (N23==0) (
      (za .i64 (.pv P9)).bind fun N24=>cond (decide (N24>0)) (
      (za .i64 (.pv P9)).bind fun N25=>cond (decide (0<=(IntKind.wrap .i64 ((IntKind.wrap .i64 ((IntKind.wrap .i64 ((IntKind.wrap .i64 (x2+1))+N18))+N25))-1)))&&decide ((IntKind.wrap .i64 ((IntKind.wrap .i64 ((IntKind.wrap .i64 ((IntKind.wrap .i64 (x2+1))+N18))+N25))-1))<(x0.length:Int))) ((x0[(IntKind.wrap .i64 ((IntKind.wrap .i64 ((IntKind.wrap .i64 ((IntKind.wrap .i64 (x2+1))+N18))+N25))-1)).toNat]?).bind fun P26=>(P26.cells[0]?).bind fun P27=>(za .u64 (.pv P27)).bind fun N28=>cond (N28==0) (
      some (.ret (.pv (I (-1))),[])) (
      (za .i64 (.pv P10)).bind fun N29=>cond (decide (N29>0)) (
       cond (decide (0<=(IntKind.wrap .i64 ((IntKind.wrap .i64 (x1+(IntKind.wrap .i64 (N19+N20))))-1)))&&decide ((IntKind.wrap .i64 ((IntKind.wrap .i64 (x1+(IntKind.wrap .i64 (N19+N20))))-1))<(x0.length:Int))) ((x0[(IntKind.wrap .i64 ((IntKind.wrap .i64 (x1+(IntKind.wrap .i64 (N19+N20))))-1)).toNat]?).bind fun P30=>(P30.cells[0]?).bind fun P31=>(za .u64 (.pv P31)).bind fun N32=>cond (N32==0) (
       some (.ret (.pv (I (-1))),[])) (
       (za .i64 (.pv P9)).bind fun N33=>cp (ev 196 [(.pv (.sl 1 x0)),(.pv (I (IntKind.wrap .i64 (x1+(IntKind.wrap .i64 (N19+N20)))))),(.pv (I (IntKind.wrap .i64 ((IntKind.wrap .i64 ((IntKind.wrap .i64 (x2+1))+N18))+N33)))),(.pv P10)] []) (fun P36=>some (.ret (.pv P36),[])))) none) (
       (za .i64 (.pv P9)).bind fun N30=>cp (ev 196 [(.pv (.sl 1 x0)),(.pv (I (IntKind.wrap .i64 (x1+(IntKind.wrap .i64 (N19+N20)))))),(.pv (I (IntKind.wrap .i64 ((IntKind.wrap .i64 ((IntKind.wrap .i64 (x2+1))+N18))+N30)))),(.pv P10)] []) (fun P33=>some (.ret (.pv P33),[]))))) none) (
      (za .i64 (.pv P10)).bind fun N25=>cond (decide (N25>0)) (
       cond (decide (0<=(IntKind.wrap .i64 ((IntKind.wrap .i64 (x1+(IntKind.wrap .i64 (N19+N20))))-1)))&&decide ((IntKind.wrap .i64 ((IntKind.wrap .i64 (x1+(IntKind.wrap .i64 (N19+N20))))-1))<(x0.length:Int))) ((x0[(IntKind.wrap .i64 ((IntKind.wrap .i64 (x1+(IntKind.wrap .i64 (N19+N20))))-1)).toNat]?).bind fun P26=>(P26.cells[0]?).bind fun P27=>(za .u64 (.pv P27)).bind fun N28=>cond (N28==0) (
       some (.ret (.pv (I (-1))),[])) (
       (za .i64 (.pv P9)).bind fun N29=>cp (ev 196 [(.pv (.sl 1 x0)),(.pv (I (IntKind.wrap .i64 (x1+(IntKind.wrap .i64 (N19+N20)))))),(.pv (I (IntKind.wrap .i64 ((IntKind.wrap .i64 ((IntKind.wrap .i64 (x2+1))+N18))+N29)))),(.pv P10)] []) (fun P32=>some (.ret (.pv P32),[])))) none) (
       (za .i64 (.pv P9)).bind fun N26=>cp (ev 196 [(.pv (.sl 1 x0)),(.pv (I (IntKind.wrap .i64 (x1+(IntKind.wrap .i64 (N19+N20)))))),(.pv (I (IntKind.wrap .i64 ((IntKind.wrap .i64 ((IntKind.wrap .i64 (x2+1))+N18))+N26)))),(.pv P10)] []) (fun P29=>some (.ret (.pv P29),[]))))) (
      (za .i64 (.pv P11)).bind fun N24=>cond (N24==6) (
       cp (ev 196 [(.pv (.sl 1 x0)),(.pv (I (IntKind.wrap .i64 (x1+(IntKind.wrap .i64 (N19+N20)))))),(.pv (I (IntKind.wrap .i64 ((IntKind.wrap .i64 (x2+1))+N18)))),(.pv P12)] []) (fun P27=>some (.ret (.pv P27),[]))) (
       (za .i64 (.pv P11)).bind fun N25=>cond (decide (N25<6)) (
        cond ((decide (0<=(IntKind.wrap .i64 ((IntKind.wrap .i64 (x2+1))+N18)))&&decide ((IntKind.wrap .i64 ((IntKind.wrap .i64 (x2+1))+N18))<=(IntKind.wrap .i64 (x1+(IntKind.wrap .i64 (N19+N20))))))&&decide ((IntKind.wrap .i64 (x1+(IntKind.wrap .i64 (N19+N20))))<=(x0.length:Int))) (cp (ev 91 [(.pv (.sl 1 ((x0.take (IntKind.wrap .i64 (x1+(IntKind.wrap .i64 (N19+N20)))).toNat).drop (IntKind.wrap .i64 ((IntKind.wrap .i64 (x2+1))+N18)).toNat)))] []) (fun P28=>cp (ev 124 [(.pv P11),(.pv P12),(.pv P28)] []) (fun P31=>ZS (IntKind.wrap .i64 (x1+(IntKind.wrap .i64 (N19+N20)))) P28 P31 0 P7 P8 P9 P10 P11 P12 P13 P14 P15 P16))) none) (
        cp (ev 137 [(.pv (.sl 1 [(.sl 1 x0)])),(.pv (I 0)),(.pv (I x2))] []) (fun P28=>tK P28 0 fun P30=>tK P28 1 fun P32=>wE P30 (fun P33 P34 P35 P36 P37 P38 P39 P40=>(za .i64 (.pv P36)).bind fun N41=>(za .i64 (.pv P37)).bind fun N42=>(za .i64 (.pv P39)).bind fun N43=>(za .i64 (.pv P12)).bind fun N44=>cond ((IntKind.wrap .i64 (N43*(IntKind.wrap .i64 (N41+N42)))) != N44) (
         some (.ret (.pv (I (-1))),[])) (
         (za .i64 (.pv P36)).bind fun N45=>(za .i64 (.pv P37)).bind fun N46=>wZ x0 (IntKind.wrap .i64 (x1+(IntKind.wrap .i64 (N19+N20)))) (N45==0) (N46==0) 0 P7 P8 P9 P10 P11 P12 P13 P14 P15 P16 P33 P34 P35 P36 P37 P38 P39 P40)))))))))) (
   (za .i64 (.pv P7)).bind fun N22=>cond (N22==1) (
    cp (ev 128 [(.pv P11),(.pv P12)] []) (fun P25=>cond ((IntKind.wrap .i64 ((IntKind.wrap .i64 (x2+1))+N18)) != x1) (
    some (.ret (.pv (I (-1))),[])) (
    (za .i64 (.pv P25)).bind fun N26=>(za .i64 (.pv P7)).bind fun N27=>cond (N27==0) (
     (za .i64 (.pv P9)).bind fun N28=>cond (decide (N28>0)) (
     (za .i64 (.pv P9)).bind fun N29=>cond (decide (0<=(IntKind.wrap .i64 ((IntKind.wrap .i64 ((IntKind.wrap .i64 ((IntKind.wrap .i64 (x2+1))+N18))+N29))-1)))&&decide ((IntKind.wrap .i64 ((IntKind.wrap .i64 ((IntKind.wrap .i64 ((IntKind.wrap .i64 (x2+1))+N18))+N29))-1))<(x0.length:Int))) ((x0[(IntKind.wrap .i64 ((IntKind.wrap .i64 ((IntKind.wrap .i64 ((IntKind.wrap .i64 (x2+1))+N18))+N29))-1)).toNat]?).bind fun P30=>(P30.cells[0]?).bind fun P31=>(za .u64 (.pv P31)).bind fun N32=>cond (N32==0) (
     some (.ret (.pv (I (-1))),[])) (
     (za .i64 (.pv P10)).bind fun N33=>cond (decide (N33>0)) (
      cond (decide (0<=(IntKind.wrap .i64 ((IntKind.wrap .i64 (x1+N26))-1)))&&decide ((IntKind.wrap .i64 ((IntKind.wrap .i64 (x1+N26))-1))<(x0.length:Int))) ((x0[(IntKind.wrap .i64 ((IntKind.wrap .i64 (x1+N26))-1)).toNat]?).bind fun P34=>(P34.cells[0]?).bind fun P35=>(za .u64 (.pv P35)).bind fun N36=>cond (N36==0) (
      some (.ret (.pv (I (-1))),[])) (
      (za .i64 (.pv P9)).bind fun N37=>cp (ev 196 [(.pv (.sl 1 x0)),(.pv (I (IntKind.wrap .i64 (x1+N26)))),(.pv (I (IntKind.wrap .i64 ((IntKind.wrap .i64 ((IntKind.wrap .i64 (x2+1))+N18))+N37)))),(.pv P10)] []) (fun P40=>some (.ret (.pv P40),[])))) none) (
      (za .i64 (.pv P9)).bind fun N34=>cp (ev 196 [(.pv (.sl 1 x0)),(.pv (I (IntKind.wrap .i64 (x1+N26)))),(.pv (I (IntKind.wrap .i64 ((IntKind.wrap .i64 ((IntKind.wrap .i64 (x2+1))+N18))+N34)))),(.pv P10)] []) (fun P37=>some (.ret (.pv P37),[]))))) none) (
     (za .i64 (.pv P10)).bind fun N29=>cond (decide (N29>0)) (
      cond (decide (0<=(IntKind.wrap .i64 ((IntKind.wrap .i64 (x1+N26))-1)))&&decide ((IntKind.wrap .i64 ((IntKind.wrap .i64 (x1+N26))-1))<(x0.length:Int))) ((x0[(IntKind.wrap .i64 ((IntKind.wrap .i64 (x1+N26))-1)).toNat]?).bind fun P30=>(P30.cells[0]?).bind fun P31=>(za .u64 (.pv P31)).bind fun N32=>cond (N32==0) (
      some (.ret (.pv (I (-1))),[])) (
      (za .i64 (.pv P9)).bind fun N33=>cp (ev 196 [(.pv (.sl 1 x0)),(.pv (I (IntKind.wrap .i64 (x1+N26)))),(.pv (I (IntKind.wrap .i64 ((IntKind.wrap .i64 ((IntKind.wrap .i64 (x2+1))+N18))+N33)))),(.pv P10)] []) (fun P36=>some (.ret (.pv P36),[])))) none) (
      (za .i64 (.pv P9)).bind fun N30=>cp (ev 196 [(.pv (.sl 1 x0)),(.pv (I (IntKind.wrap .i64 (x1+N26)))),(.pv (I (IntKind.wrap .i64 ((IntKind.wrap .i64 ((IntKind.wrap .i64 (x2+1))+N18))+N30)))),(.pv P10)] []) (fun P33=>some (.ret (.pv P33),[]))))) (
     (za .i64 (.pv P11)).bind fun N28=>cond (N28==6) (
      cp (ev 196 [(.pv (.sl 1 x0)),(.pv (I (IntKind.wrap .i64 (x1+N26)))),(.pv (I (IntKind.wrap .i64 ((IntKind.wrap .i64 (x2+1))+N18)))),(.pv P12)] []) (fun P31=>some (.ret (.pv P31),[]))) (
      (za .i64 (.pv P11)).bind fun N29=>cond (decide (N29<6)) (
       cond ((decide (0<=(IntKind.wrap .i64 ((IntKind.wrap .i64 (x2+1))+N18)))&&decide ((IntKind.wrap .i64 ((IntKind.wrap .i64 (x2+1))+N18))<=(IntKind.wrap .i64 (x1+N26))))&&decide ((IntKind.wrap .i64 (x1+N26))<=(x0.length:Int))) (cp (ev 91 [(.pv (.sl 1 ((x0.take (IntKind.wrap .i64 (x1+N26)).toNat).drop (IntKind.wrap .i64 ((IntKind.wrap .i64 (x2+1))+N18)).toNat)))] []) (fun P32=>cp (ev 124 [(.pv P11),(.pv P12),(.pv P32)] []) (fun P35=>ZS (IntKind.wrap .i64 (x1+N26)) P32 P35 0 P7 P8 P9 P10 P11 P12 P13 P14 P15 P16))) none) (
       cp (ev 137 [(.pv (.sl 1 [(.sl 1 x0)])),(.pv (I 0)),(.pv (I x2))] []) (fun P32=>tK P32 0 fun P34=>tK P32 1 fun P36=>wE P34 (fun P37 P38 P39 P40 P41 P42 P43 P44=>(za .i64 (.pv P40)).bind fun N45=>(za .i64 (.pv P41)).bind fun N46=>(za .i64 (.pv P43)).bind fun N47=>(za .i64 (.pv P12)).bind fun N48=>cond ((IntKind.wrap .i64 (N47*(IntKind.wrap .i64 (N45+N46)))) != N48) (
        some (.ret (.pv (I (-1))),[])) (
        (za .i64 (.pv P40)).bind fun N49=>(za .i64 (.pv P41)).bind fun N50=>wZ x0 (IntKind.wrap .i64 (x1+N26)) (N49==0) (N50==0) 0 P7 P8 P9 P10 P11 P12 P13 P14 P15 P16 P37 P38 P39 P40 P41 P42 P43 P44))))))))) (
    cond ((IntKind.wrap .i64 ((IntKind.wrap .i64 (x2+1))+N18)) != x1) (
     some (.ret (.pv (I (-1))),[])) (
     (za .i64 (.pv P7)).bind fun N23=>cond (N23==0) (
      (za .i64 (.pv P9)).bind fun N24=>cond (decide (N24>0)) (
      (za .i64 (.pv P9)).bind fun N25=>cond (decide (0<=(IntKind.wrap .i64 ((IntKind.wrap .i64 ((IntKind.wrap .i64 ((IntKind.wrap .i64 (x2+1))+N18))+N25))-1)))&&decide ((IntKind.wrap .i64 ((IntKind.wrap .i64 ((IntKind.wrap .i64 ((IntKind.wrap .i64 (x2+1))+N18))+N25))-1))<(x0.length:Int))) ((x0[(IntKind.wrap .i64 ((IntKind.wrap .i64 ((IntKind.wrap .i64 ((IntKind.wrap .i64 (x2+1))+N18))+N25))-1)).toNat]?).bind fun P26=>(P26.cells[0]?).bind fun P27=>(za .u64 (.pv P27)).bind fun N28=>cond (N28==0) (
      some (.ret (.pv (I (-1))),[])) (
      (za .i64 (.pv P10)).bind fun N29=>cond (decide (N29>0)) (
       cond (decide (0<=(IntKind.wrap .i64 ((IntKind.wrap .i64 (x1+(IntKind.wrap .i64 (N19+N20))))-1)))&&decide ((IntKind.wrap .i64 ((IntKind.wrap .i64 (x1+(IntKind.wrap .i64 (N19+N20))))-1))<(x0.length:Int))) ((x0[(IntKind.wrap .i64 ((IntKind.wrap .i64 (x1+(IntKind.wrap .i64 (N19+N20))))-1)).toNat]?).bind fun P30=>(P30.cells[0]?).bind fun P31=>(za .u64 (.pv P31)).bind fun N32=>cond (N32==0) (
       some (.ret (.pv (I (-1))),[])) (
       (za .i64 (.pv P9)).bind fun N33=>cp (ev 196 [(.pv (.sl 1 x0)),(.pv (I (IntKind.wrap .i64 (x1+(IntKind.wrap .i64 (N19+N20)))))),(.pv (I (IntKind.wrap .i64 ((IntKind.wrap .i64 ((IntKind.wrap .i64 (x2+1))+N18))+N33)))),(.pv P10)] []) (fun P36=>some (.ret (.pv P36),[])))) none) (
       (za .i64 (.pv P9)).bind fun N30=>cp (ev 196 [(.pv (.sl 1 x0)),(.pv (I (IntKind.wrap .i64 (x1+(IntKind.wrap .i64 (N19+N20)))))),(.pv (I (IntKind.wrap .i64 ((IntKind.wrap .i64 ((IntKind.wrap .i64 (x2+1))+N18))+N30)))),(.pv P10)] []) (fun P33=>some (.ret (.pv P33),[]))))) none) (
      (za .i64 (.pv P10)).bind fun N25=>cond (decide (N25>0)) (
       cond (decide (0<=(IntKind.wrap .i64 ((IntKind.wrap .i64 (x1+(IntKind.wrap .i64 (N19+N20))))-1)))&&decide ((IntKind.wrap .i64 ((IntKind.wrap .i64 (x1+(IntKind.wrap .i64 (N19+N20))))-1))<(x0.length:Int))) ((x0[(IntKind.wrap .i64 ((IntKind.wrap .i64 (x1+(IntKind.wrap .i64 (N19+N20))))-1)).toNat]?).bind fun P26=>(P26.cells[0]?).bind fun P27=>(za .u64 (.pv P27)).bind fun N28=>cond (N28==0) (
       some (.ret (.pv (I (-1))),[])) (
       (za .i64 (.pv P9)).bind fun N29=>cp (ev 196 [(.pv (.sl 1 x0)),(.pv (I (IntKind.wrap .i64 (x1+(IntKind.wrap .i64 (N19+N20)))))),(.pv (I (IntKind.wrap .i64 ((IntKind.wrap .i64 ((IntKind.wrap .i64 (x2+1))+N18))+N29)))),(.pv P10)] []) (fun P32=>some (.ret (.pv P32),[])))) none) (
       (za .i64 (.pv P9)).bind fun N26=>cp (ev 196 [(.pv (.sl 1 x0)),(.pv (I (IntKind.wrap .i64 (x1+(IntKind.wrap .i64 (N19+N20)))))),(.pv (I (IntKind.wrap .i64 ((IntKind.wrap .i64 ((IntKind.wrap .i64 (x2+1))+N18))+N26)))),(.pv P10)] []) (fun P29=>some (.ret (.pv P29),[]))))) (
      (za .i64 (.pv P11)).bind fun N24=>cond (N24==6) (
       cp (ev 196 [(.pv (.sl 1 x0)),(.pv (I (IntKind.wrap .i64 (x1+(IntKind.wrap .i64 (N19+N20)))))),(.pv (I (IntKind.wrap .i64 ((IntKind.wrap .i64 (x2+1))+N18)))),(.pv P12)] []) (fun P27=>some (.ret (.pv P27),[]))) (
       (za .i64 (.pv P11)).bind fun N25=>cond (decide (N25<6)) (
        cond ((decide (0<=(IntKind.wrap .i64 ((IntKind.wrap .i64 (x2+1))+N18)))&&decide ((IntKind.wrap .i64 ((IntKind.wrap .i64 (x2+1))+N18))<=(IntKind.wrap .i64 (x1+(IntKind.wrap .i64 (N19+N20))))))&&decide ((IntKind.wrap .i64 (x1+(IntKind.wrap .i64 (N19+N20))))<=(x0.length:Int))) (cp (ev 91 [(.pv (.sl 1 ((x0.take (IntKind.wrap .i64 (x1+(IntKind.wrap .i64 (N19+N20)))).toNat).drop (IntKind.wrap .i64 ((IntKind.wrap .i64 (x2+1))+N18)).toNat)))] []) (fun P28=>cp (ev 124 [(.pv P11),(.pv P12),(.pv P28)] []) (fun P31=>ZS (IntKind.wrap .i64 (x1+(IntKind.wrap .i64 (N19+N20)))) P28 P31 0 P7 P8 P9 P10 P11 P12 P13 P14 P15 P16))) none) (
        cp (ev 137 [(.pv (.sl 1 [(.sl 1 x0)])),(.pv (I 0)),(.pv (I x2))] []) (fun P28=>tK P28 0 fun P30=>tK P28 1 fun P32=>wE P30 (fun P33 P34 P35 P36 P37 P38 P39 P40=>(za .i64 (.pv P36)).bind fun N41=>(za .i64 (.pv P37)).bind fun N42=>(za .i64 (.pv P39)).bind fun N43=>(za .i64 (.pv P12)).bind fun N44=>cond ((IntKind.wrap .i64 (N43*(IntKind.wrap .i64 (N41+N42)))) != N44) (
         some (.ret (.pv (I (-1))),[])) (
         (za .i64 (.pv P36)).bind fun N45=>(za .i64 (.pv P37)).bind fun N46=>wZ x0 (IntKind.wrap .i64 (x1+(IntKind.wrap .i64 (N19+N20)))) (N45==0) (N46==0) 0 P7 P8 P9 P10 P11 P12 P13 P14 P15 P16 P33 P34 P35 P36 P37 P38 P39 P40)))))))))))))) none:=zi (fn:=Tryz.f133) _ _
theorem zkY (x0:List PV) (x1_0 x1_1 x1_2 x1_3 x1_4 x1_5 x1_6 x1_7 x2:Int):ev 236 [(.pv (.sl 1 x0)),(.pv (.agg [(I x1_0),(I x1_1),(I x1_2),(I x1_3),(I x1_4),(I x1_5),(I x1_6),(I x1_7)])),(.pv (I x2))] [] =
 cp (ev 276 [(.pv (.sl 1 x0)),(.pv (I x1_1)),(.pv (I x1_2)),(.pv (I x2))] []) (fun P3=>tK P3 0 fun P5=>tK P3 1 fun P7=>some (.ret (.pv P5),[])):=zi (fn:=Tryz.f236) _ _
theorem zkR (x0:List PV) (x1_0 x1_1 x1_2 x1_3 x1_4 x1_5 x1_6 x1_7 x2:Int):ev 239 [(.pv (.sl 1 x0)),(.pv (.agg [(I x1_0),(I x1_1),(I x1_2),(I x1_3),(I x1_4),(I x1_5),(I x1_6),(I x1_7)])),(.pv (I x2))] [] =
 cp (ev 277 [(.pv (.agg [(I x1_0),(I x1_1),(I x1_2),(I x1_3),(I x1_4),(I x1_5),(I x1_6),(I x1_7)]))] []) (fun P3=>tK P3 0 fun P5=>tK P3 1 fun P7=>(za .i64 (.pv P7)).bind fun N8=>cond (decide (x2≥N8)) (
 some (.ret (.pv (.agg [(I 0),(I 0),(I 0),(I 0),(I 0),(I 0),(I 0),(I 0)])),[])) (
 (za .i64 (.pv P5)).bind fun N9=>cp (ev 184 [(.pv (.sl 1 x0)),(.pv (I x1_1)),(.pv (I (IntKind.wrap .i64 (N9+x2))))] []) (fun P12=>tK P12 0 fun P14=>tK P12 1 fun P16=>wE P14 (fun P17 P18 P19 P20 P21 P22 P23 P24=>cond (P17.isCell&&(P18.isCell&&(P19.isCell&&(P20.isCell&&(P21.isCell&&(P22.isCell&&(P23.isCell&&(P24.isCell&&true)))))))) (some (.ret (.pv (.agg [P17,P18,P19,P20,P21,P22,P23,P24])),[])) none)))):=zi (fn:=Tryz.f239) _ _
theorem zoa (x0:List PV) (x1_0 x1_1 x1_2 x1_3 x1_4 x1_5:Int) (x1_6:Bool) (x1_7 x1_8 x1_9 x2 x3:Int):ev 241 [(.pv (.sl 1 x0)),(.pv (.agg [(I x1_0),(I x1_1),(I x1_2),(I x1_3),(I x1_4),(I x1_5),(Bo x1_6),(I x1_7),(PV.v (.int .u32 x1_8)),(PV.v (.int .u32 x1_9))])),(.pv (I x2)),(.pv (I x3))] [] =
 cp (ev 282 [(.pv (.sl 1 x0)),(.pv (.agg [(I 1),(I x2),(I x3),(I x1_2),(I x1_3),(I 0),(I 0),(I (IntKind.wrap .i64 (x1_2+x1_3)))])),(.pv (I x3)),(.pv (I (IntKind.wrap .i64 (x1_2+x1_3))))] []) (fun P3=>tK P3 0 fun P5=>tK P3 1 fun P7=>wE P5 (fun P8 P9 P10 P11 P12 P13 P14 P15=>some (.ret (.pv (.tup [(.agg [P8,P9,P10,P11,P12,P13,P14,P15]),P7])),[]))):=zi (fn:=Tryz.f241) _ _
theorem zp6 (x0 x1 x2:Int):ev 245 [(.pv (U x0)),(.pv (I x1)),(.pv (I x2))] [] =
 cond (yS .shr (IntKind.wrap .u64 x1)) (cp (ev 285 [(.pv (I x2))] []) (fun P3=>(za .u64 (.pv P3)).bind fun N4=>some (.ret (.pv (U (IntKind.wrap .u64 (BitVec.ofInt 64 (Int.fdiv x0 (2^(min (IntKind.wrap .u64 x1).toNat 64))) &&& BitVec.ofInt 64 N4).toNat))),[]))) none:=zi (fn:=Tryz.f245) _ _
noncomputable def zfL:Code:=Tryz.f248.body.getD .skip
noncomputable def QP (i0 i1 i2 i3:Int) (p4 p5 p6 p7 p8 p9:PV):Option (Out×ze) :=
 zY (zs env ev zI 21 248 0 (sub zfL [1,0,0])) (zD env 248 0 1) (zG 0 (zX env 248 Tryz.f248.results.toList 1)) ⟨zQ [(0,(.ptr 0 0)),(1,(.pv (I i0))),(3,(.pv (I i1))),(9,(.pv (I i2))),(10,(.pv (I i3)))],[[(.pv p4),(.pv p5),(.pv p6),(.pv p7),(.pv p8),(.pv p9)]]⟩
theorem zaK (i0 i1 i2 i3:Int) (p4 p5 p6 p7 p8 p9:PV):QP i0 i1 i2 i3 p4 p5 p6 p7 p8 p9 =
 cond (decide (i3<i2)) (
 xC (ev 132 [(.ptr 0 0),(.pv (I (IntKind.wrap .i64 (i0+i3)))),(.pv (I (IntKind.wrap .i64 (i1+1))))] [[(.pv p4),(.pv p5),(.pv p6),(.pv p7),(.pv p8),(.pv p9)]]) (fun P16 P5 P7 P9 P11 P13 P15=>QP i0 i1 i2 (IntKind.wrap .i64 (i3+1)) P5 P7 P9 P11 P13 P15)) (
 some (.ret (.pv (.tup [])),[[(.pv p4),(.pv p5),(.pv p6),(.pv p7),(.pv p8),(.pv p9)]])):=(z4 ..).trans (by kernel_rfl)
theorem ziG (x0__0:List PV) (x0__1 x0__2_0 x0__2_1 x0__2_2 x0__3_0 x1 x2 x3:Int):ev 248 [(.ptr 0 0),(.pv (I x1)),(.pv (I x2)),(.pv (I x3))] [[(.pv (.sl 1 x0__0)),(.pv (I x0__1)),(.pv (I x0__2_0)),(.pv (I x0__2_1)),(.pv (I x0__2_2)),(.pv (I x0__3_0))]] =
 QP x1 x3 x2 0 (.sl 1 x0__0) (I x0__1) (I x0__2_0) (I x0__2_1) (I x0__2_2) (I x0__3_0):=zi (fn:=Tryz.f248) _ _
noncomputable def gW:Code:=Tryz.f251.body.getD .skip
noncomputable def W8 (i0 i1 i2 i3 i4:Int):Option (Out×ze) :=
 zY (zs env ev zI 27 251 0 (sub gW [1,1,0,1,0,0])) (zD env 251 0 0) (zG 0 (zT (zH env ev 27 251 0 (sub gW [1,1,1])) (zX env 251 Tryz.f251.results.toList 0))) ⟨zQ [(0,(.pv (U i0))),(1,(.pv (I i1))),(2,(.pv (I i2))),(7,(.pv (U i3))),(8,(.pv (I i4)))],[]⟩
theorem zaU (i0 i1 i2 i3 i4:Int):W8 i0 i1 i2 i3 i4 =
 cond (decide (i4<i2)) (
 cp (ev 142 [(.pv (I (IntKind.wrap .i64 (i1+i4))))] []) (fun P3=>(za .u64 (.pv P3)).bind fun N4=>cond (yS .quo N4) (cond ((Int.tmod (IntKind.wrap .u64 (Int.tdiv i0 N4)) 2)==1) (
 cp (ev 142 [(.pv (I i4))] []) (fun P7=>(za .u64 (.pv P7)).bind fun N8=>W8 i0 i1 i2 (IntKind.wrap .u64 (i3+N8)) (IntKind.wrap .i64 (i4+1)))) (
 W8 i0 i1 i2 i3 (IntKind.wrap .i64 (i4+1)))) none)) (
 some (.ret (.pv (U i3)),[])):=(z4 ..).trans (by kernel_rfl)
theorem ziU (x0 x1 x2:Int):ev 251 [(.pv (U x0)),(.pv (I x1)),(.pv (I x2))] [] =
 W8 x0 x1 x2 0 0:=zi (fn:=Tryz.f251) _ _
theorem zpv (x0:Int):ev 257 [(.pv (U8 x0))] [] =
 some (.ret (.pv (Bo (x0==0))),[]):=zi (fn:=Tryz.f257) _ _
noncomputable def rP:Code:=Tryz.f258.body.getD .skip
noncomputable def Jy (xs0:List PV) (i1:Int):Option (Out×ze) :=
 zY (zs env ev zI 22 258 0 (sub rP [1,1,0,0,0])) (zD env 258 0 0) (zG 0 (zT (zH env ev 22 258 0 (sub rP [1,1,1])) (zX env 258 Tryz.f258.results.toList 0))) ⟨zQ [(0,(.pv (.sl 5 xs0))),(1,(.pv (.v (.func (.func 259) #[] #[])))),(5,(.pv (I i1)))],[]⟩
theorem ze9 (xs0:List PV) (i1:Int):Jy xs0 i1 =
 cond (decide (i1>0)) (
 cond (decide (0<=(IntKind.wrap .i64 (i1-1)))&&decide ((IntKind.wrap .i64 (i1-1))<(xs0.length:Int))) ((xs0[(IntKind.wrap .i64 (i1-1)).toNat]?).bind fun P1=>cond (decide (5<=P1.cells.length)) (cp (ev 259 [(.pv (.agg ((P1.cells.drop 0).take 5)))] []) (fun P4=>(z7 (.pv P4)).bind fun B5=>cond B5 (
 Jy xs0 (IntKind.wrap .i64 (i1-1))) (
 some (.ret (.pv (I i1)),[])))) none) none) (
 some (.ret (.pv (I i1)),[])):=(z4 ..).trans (by kernel_rfl)
theorem zpx (x0:List PV):ev 258 [(.pv (.sl 5 x0)),(.pv (.v (.func (.func 259) #[] #[])))] [] =
 Jy x0 (x0.length:Int):=zi (fn:=Tryz.f258) _ _
theorem zdb (x0 x1:Int):ev 263 [(.pv (I x0)),(.pv (I x1))] [] =
 cond (yS .quo x1) (some (.ret (.pv (I (IntKind.wrap .i64 (Int.tdiv (IntKind.wrap .i64 ((IntKind.wrap .i64 (x0+x1))-1)) x1)))),[])) none:=zi (fn:=Tryz.f263) _ _
theorem zi0 (x0:Int):ev 264 [(.pv (I x0))] [] =
 cond (decide (x0≥(-536870912))) (
 some (.ret (.pv (Bo (decide (x0<=536870911)))),[])) (
 some (.ret (.pv (Bo false)),[])):=zi (fn:=Tryz.f264) _ _
noncomputable def gV:Code:=Tryz.f270.body.getD .skip
noncomputable def QS (p0 p1:PV) (xs2 xs3:List PV) (i4 i5:Int) (xs6:List PV) (i7 i8 i9:Int) (xs10 xs11:List PV) (i12 i13 i14 i15 i16 i17:Int) (b18:Bool) (i19 i20 i21:Int):Option (Out×ze) :=
 zY (zs env ev zI 66 270 0 (sub gV [1,1,1,1,1,0,1,0,0])) (zD env 270 0 3) (zG 0 (zT (zH env ev 66 270 0 (sub gV [1,1,1,1,1,1])) (zX env 270 Tryz.f270.results.toList 1))) ⟨zQ [(0,(.ptr 0 0)),(3,(.ptr 1 0)),(4,(.ptr 2 0)),(6,(.pv p0)),(7,(.pv p1)),(10,(.slu 3 1 xs2)),(38,(.pv (.sl 5 xs3))),(39,(.pv (I i4))),(40,(.pv (I i5)))],[[(.slu 30 1 xs6)],[(.pv (I i7)),(.pv (I i8)),(.pv (I i9)),(.pv (.sl 1 xs10)),(.pv (.sl 5 xs11))],[(.pv (I i12)),(.pv (I i13)),(.pv (I i14)),(.pv (I i15)),(.pv (I i16)),(.pv (I i17)),(.pv (Bo b18)),(.pv (I i19)),(.pv (PV.v (.int .u32 i20))),(.pv (PV.v (.int .u32 i21)))]]⟩
theorem zaN (p0 p1:PV) (xs2 xs3:List PV) (i4 i5:Int) (xs6:List PV) (i7 i8 i9:Int) (xs10 xs11:List PV) (i12 i13 i14 i15 i16 i17:Int) (b18:Bool) (i19 i20 i21:Int):QS p0 p1 xs2 xs3 i4 i5 xs6 i7 i8 i9 xs10 xs11 i12 i13 i14 i15 i16 i17 b18 i19 i20 i21 =
 cond (decide (i5<i4)) (
 cond (decide (0<=i5)&&decide (i5<(xs3.length:Int))) ((xs3[(i5).toNat]?).bind fun P1=>cond (decide (5<=P1.cells.length)) (cond (decide (((P1.cells.drop 0).take 5).length=5)) ((((P1.cells.drop 0).take 5)[0]?).bind fun P2=>(((P1.cells.drop 0).take 5)[1]?).bind fun P3=>(((P1.cells.drop 0).take 5)[2]?).bind fun P4=>(((P1.cells.drop 0).take 5)[3]?).bind fun P5=>(((P1.cells.drop 0).take 5)[4]?).bind fun P6=>cond (P2.isCell&&(P3.isCell&&(P4.isCell&&(P5.isCell&&(P6.isCell&&true))))) (zq (ev 293 [(.ptr 0 0),(.pv P5),(.pv p0)] [[(.slu 30 1 xs6)]]) (fun A7 H8=>(H8[0]?).bind fun C9=>(C9[0]?).bind fun E10=>(yx 30 1 E10).bind fun X11=>cond (decide (C9.length=1)) (cond (decide (H8.length=1)) ((zf A7).bind fun P12=>zq (ev 292 [(.ptr 0 0),(.pv p1)] [[(.slu 30 1 X11)]]) (fun A13 H14=>(H14[0]?).bind fun C15=>(C15[0]?).bind fun E16=>(yx 30 1 E16).bind fun X17=>cond (decide (C15.length=1)) (cond (decide (H14.length=1)) ((zf A13).bind fun P18=>cond ((decide (P18.cells.length=1)&&P18.cells.all PV.isCell)&&true) (cond (zJ (xs2.length+1) 8) (QS p0 p1 (xs2++[P18]) xs3 i4 (IntKind.wrap .i64 (i5+1)) X17 i7 i8 i9 xs10 xs11 i12 i13 i14 i15 i16 i17 b18 i19 i20 i21) none) none) none) none) (fun A13 H14=>(H14[0]?).bind fun C15=>(C15[0]?).bind fun E16=>(yx 30 1 E16).bind fun X17=>cond (decide (C15.length=1)) (cond (decide (H14.length=1)) (some (.pan A13,[[(.slu 30 1 X17)]])) none) none)) none) none) (fun A7 H8=>(H8[0]?).bind fun C9=>(C9[0]?).bind fun E10=>(yx 30 1 E10).bind fun X11=>cond (decide (C9.length=1)) (cond (decide (H8.length=1)) (some (.pan A7,[[(.slu 30 1 X11)]])) none) none)) none) none) none) none) (
 (za .i64 (.pv p0)).bind fun N1=>(za .i64 (.pv p1)).bind fun N2=>some (.ret (.pv (.tup [(.agg [(I 1),(I 0),(I 0),(I 0),(I i8),(I (IntKind.wrap .i64 (i9*(IntKind.wrap .i64 (N1+N2))))),(Bo false),(I 0),(PV.v (.int .u32 0)),(PV.v (.int .u32 0))]),(.sl 1 xs2)])),[[(.slu 30 1 xs6)]])):=(z4 ..).trans (by kernel_rfl)
theorem ziO (x0__0:List PV) (x1_0 x1_1 x1_2:Int) (x1_3 x1_4:List PV):ev 270 [(.ptr 0 0),(.pv (.agg [(I x1_0),(I x1_1),(I x1_2),(.sl 1 x1_3),(.sl 5 x1_4)]))] [[(.slu 30 1 x0__0)]] =
 zq (ev 219 [(.pv (.agg [(I x1_0),(I x1_1),(I x1_2),(.sl 1 x1_3),(.sl 5 x1_4)]))] []) (fun A1 H2=>(zf A1).bind fun P3=>tK P3 0 fun P5=>tK P3 1 fun P7=>cond (P5.isCell&&true) (cond (P7.isCell&&true) (cond ((P5.isCell&&true)&&((P7.isCell&&true)&&true)) (zq (ev 252 [(.pv (.agg [(I 0),(I x1_2),P5,P7,(I 0),(I 0),(Bo false),(I 0),(PV.v (.int .u32 0)),(PV.v (.int .u32 0))]))] []) (fun A8 H9=>(zf A8).bind fun P10=>tK P10 0 fun P12=>tK P10 1 fun P14=>cond ((decide (P12.cells.length=1)&&P12.cells.all PV.isCell)&&true) (cond (zJ (x0__0.length+1) 8) (QS P5 P7 [] x1_4 (x1_4.length:Int) 0 (x0__0++[P12]) x1_0 x1_1 x1_2 x1_3 x1_4 0 0 0 0 0 0 false 0 0 0) none) none) (fun A8 H9=>some (.pan A8,[[(.slu 30 1 x0__0)]]))) none) none) none) (fun A1 H2=>some (.pan A1,[[(.slu 30 1 x0__0)]])):=zi (fn:=Tryz.f270) _ _
theorem zlb (x0:List PV) (x1:Int):ev 280 [(.pv (.sl 1 x0)),(.pv (U x1))] [] =
 cp (ev 297 [(.pv (U x1))] []) (fun P3=>tK P3 0 fun P5=>tK P3 1 fun P7=>cp (ev 278 [(.pv (.sl 1 x0)),(.pv P5),(.pv P7)] []) (fun P10=>tK P10 0 fun P12=>tK P10 1 fun P14=>(z7 (.pv P14)).bind fun B15=>cond (!B15) (
 some (.ret (.pv (.tup [(.agg [(U 0),(I 0),(I 0)]),(I 2)])),[])) (
 cp (ev 279 [(.pv P12)] []) (fun P18=>(z7 (.pv P18)).bind fun B19=>cond B19 (
  some (.ret (.pv (.tup [(.agg [(U 0),(I 0),(I 0)]),(I 3)])),[])) (
  (za .i64 (.pv P7)).bind fun N20=>cond (P12.isCell&&true) (cond (P5.isCell&&true) (cond ((P12.isCell&&true)&&((P5.isCell&&true)&&true)) (cond (P12.isCell&&(P5.isCell&&true)) (some (.ret (.pv (.tup [(.agg [P12,P5,(I (IntKind.wrap .i64 (N20+1)))]),(I 0)])),[])) none) none) none) none))))):=zi (fn:=Tryz.f280) _ _
theorem znm (x0_0 x0_1 x0_2 x0_3 x0_4 x0_5:Int) (x0_6:Bool) (x0_7 x0_8 x0_9:Int):ev 284 [(.pv (.agg [(I x0_0),(I x0_1),(I x0_2),(I x0_3),(I x0_4),(I x0_5),(Bo x0_6),(I x0_7),(PV.v (.int .u32 x0_8)),(PV.v (.int .u32 x0_9))]))] [] =
 cond (x0_0==3) (
 some (.ret (.pv (Bo (x0_9==0))),[])) (
 some (.ret (.pv (Bo false)),[])):=zi (fn:=Tryz.f284) _ _
theorem zhW (x0:List PV) (x1 x2 x3:Int):ev 286 [(.pv (.sl 1 x0)),(.pv (I x1)),(.pv (I x2)),(.pv (I x3))] [] =
 cond (decide (x1≥0)) (
 cond (decide (x1<(x0.length:Int))) (
 cond (decide (x2≥0)) (
 cond (decide (x3≥0)) (
 cond (decide (0<=x1)&&decide (x1<(x0.length:Int))) ((x0[(x1).toNat]?).bind fun P1=>(P1.cells[0]?).bind fun P2=>(zE P2).bind fun L3=>cond (decide (x2<=(L3.2.length:Int))) (
 cond (decide (0<=x1)&&decide (x1<(x0.length:Int))) ((x0[(x1).toNat]?).bind fun P4=>(P4.cells[0]?).bind fun P5=>(zE P5).bind fun L6=>some (.ret (.pv (Bo (decide (x3<=(IntKind.wrap .i64 ((L6.2.length:Int)-x2)))))),[])) none) (
 some (.ret (.pv (Bo false)),[]))) none) (
 some (.ret (.pv (Bo false)),[]))) (
 some (.ret (.pv (Bo false)),[]))) (
 some (.ret (.pv (Bo false)),[]))) (
 some (.ret (.pv (Bo false)),[])):=zi (fn:=Tryz.f286) _ _
theorem ziQ (x0__0:List PV) (x1:Int):ev 292 [(.ptr 0 0),(.pv (I x1))] [[(.slu 30 1 x0__0)]] =
 cond (decide (0<=x1)&&decide (x1<=140737488355328)) (cond (zJ (x0__0.length+(List.replicate (x1).toNat (U 0)).length) 8) (some (.ret (.pv (I (x0__0.length:Int))),[[(.slu 30 1 (x0__0++(List.replicate (x1).toNat (U 0))))]])) none) none:=zi (fn:=Tryz.f292) _ _
theorem zih (x0__0_0 x1:Int):ev 294 [(.ptr 0 0),(.pv (I x1))] [[(.pv (I x0__0_0))]] =
 cond (decide (x1>x0__0_0)) (
 some (.ret (.pv (Bo false)),[[(.pv (I x0__0_0))]])) (
 some (.ret (.pv (Bo true)),[[(.pv (I (IntKind.wrap .i64 (x0__0_0-x1))))]])):=zi (fn:=Tryz.f294) _ _
theorem zk9 (x0:Int):ev 297 [(.pv (U x0))] [] =
 cp (ev 192 [(.pv (U x0))] []) (fun P3=>wk P3 (fun P4 P5 P6 P7 P8 P9 P10 P11 P12 P13=>(yB (.pv P12)).bind fun Q14=>some (.ret (.pv (.tup [(I (IntKind.wrap .i64 Q14.2)),P11])),[]))):=zi (fn:=Tryz.f297) _ _
theorem zp9 (x0 x1 x2:Int):ev 342 [(.pv (U x0)),(.pv (I x1)),(.pv (I x2))] [] =
 cond (yS .shl (IntKind.wrap .u64 (IntKind.wrap .i64 ((IntKind.wrap .i64 (64-x1))-x2)))) (cond (yS .shr (IntKind.wrap .u64 (IntKind.wrap .i64 (64-x2)))) (some (.ret (.pv (I (Int.fdiv (IntKind.wrap .i64 (IntKind.wrap .u64 (x0*2^(min (IntKind.wrap .u64 (IntKind.wrap .i64 ((IntKind.wrap .i64 (64-x1))-x2))).toNat 64)))) (2^(min (IntKind.wrap .u64 (IntKind.wrap .i64 (64-x2))).toNat 64))))),[])) none) none:=zi (fn:=Tryz.f342) _ _
theorem znq (x0:Int):ev 345 [(.pv (U x0))] [] =
 cp (ev 245 [(.pv (U x0)),(.pv (I 2)),(.pv (I 30))] []) (fun P3=>(yB (.pv P3)).bind fun Q4=>cp (ev 245 [(.pv (U x0)),(.pv (I 32)),(.pv (I 32))] []) (fun P7=>(yB (.pv P7)).bind fun Q8=>some (.ret (.pv (.agg [(I 0),(I 0),(I 0),(I 0),(I 0),(I 0),(Bo false),(I 0),(PV.v (.int .u32 (IntKind.wrap .u32 Q8.2))),(PV.v (.int .u32 (IntKind.wrap .u32 Q4.2)))])),[]))):=zi (fn:=Tryz.f345) _ _
end Go.Proofs.YtjbjeeoifhegfaaGreatDoor.E
