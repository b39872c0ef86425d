/- A part of the proof of the law MessageKeeps, as its statement says it: for every input; its conditions are the statement's own. -/
import Derived.KernelRfl
import Derived.Test.YtjbjeeoifhegfaaGreatDoorZMessageKeeps1
import Derived.Test.YtjbjeeoifhegfaaGreatDoorZMessageKeeps2
import Derived.Test.YtjbjeeoifhegfaaGreatDoorZMessageKeeps3
set_option linter.unusedVariables false
set_option linter.unusedSimpArgs false
namespace Go.Proofs.YtjbjeeoifhegfaaGreatDoor.E
theorem ziJ (x0:List PV) (x1_0 x1_1 x1_2:Int):ev 16 [(.pv (.sl 1 x0)),(.pv (.agg [(I x1_0),(I x1_1),(I x1_2)]))] [] =
 cp (ev 55 [(.pv (.agg [(I x1_0),(I x1_1),(I x1_2)]))] []) (fun P3=>zh (ev 54 [(.pv (.sl 1 x0)),(.pv P3)] []) (fun A4 H5=>(wP 0 2 A4).bind fun Q6=>(zO 5 1 Q6.1).bind fun X7=>(Q6.2[1]?).bind fun P8=>cp (ev 56 [(.pv P8)] []) (fun P11=>some (.ret (.tup 0 (.slu 5 1 X7) [(.v .nilIface),P11]),[]))) (fun A4 H5=>some (.pan A4,[]))):=zg (fn:=Tryz.f16) _ _
theorem ziK (x0 x1:List PV) (x2_0 x2_1 x2_2:Int):ev 18 [(.pv (.sl 1 x0)),(.pv (.sl 1 x1)),(.pv (.agg [(I x2_0),(I x2_1),(I x2_2)]))] [] =
 cp (ev 55 [(.pv (.agg [(I x2_0),(I x2_1),(I x2_2)]))] []) (fun P3=>VC P3 (fun P4 P5 P6=>cp (ev 59 [(.pv (.sl 1 x0)),(.pv (.agg [P4,P5,P6]))] []) (fun P9=>tK P9 0 fun P11=>tK P9 1 fun P13=>(yC (.pv P13)).bind fun Z14=>cond (!Z14) (
 cp (ev 56 [(.pv P13)] []) (fun P17=>some (.ret (.pv (.tup [(Bo false),P17])),[]))) (
 cp (ev 59 [(.pv (.sl 1 x1)),(.pv (.agg [P4,P5,P6]))] []) (fun P17=>tK P17 0 fun P19=>tK P17 1 fun P21=>(yC (.pv P21)).bind fun Z22=>cond (!Z22) (
  cp (ev 56 [(.pv P21)] []) (fun P25=>some (.ret (.pv (.tup [(Bo false),P25])),[]))) (
  cp (ev 60 [(.pv P11),(.pv P19),(.pv (.agg [P4,P5,P6]))] []) (fun P25=>tK P25 0 fun P27=>tK P25 1 fun P29=>some (.ret (.pv (.tup [P27,P29])),[])))))))):=zg (fn:=Tryz.f18) _ _
theorem ziN (x0:List PV) (x1_0 x1_1 x1_2:Int):ev 20 [(.pv (.sl 1 x0)),(.pv (.agg [(I x1_0),(I x1_1),(I x1_2)]))] [] =
 zh (ev 52 [(.pv (.sl 1 x0)),(.pv (I x1_2))] []) (fun A1 H2=>(wP 0 2 A1).bind fun Q3=>(zO 5 1 Q3.1).bind fun X4=>(Q3.2[1]?).bind fun P5=>(zf .i64 (.pv P5)).bind fun N6=>cond (N6 != 0) (
 some (.ret (.tup 0 (.slu 5 1 []) [(.v .nilIface),P5]),[])) (
 zh (ev 57 [(.pv (.sl 1 X4))] []) (fun A7 H8=>(Z5 A7).bind fun S9=>cond (Wj S9) ((S9[1]?).bind fun P10=>(yC (.pv P10)).bind fun Z11=>cond (!Z11) (
  cp (ev 56 [(.pv P10)] []) (fun P14=>some (.ret (.tup 0 (.slu 5 1 []) [(.v .nilIface),P14]),[]))) (
  some (.ret (.tup 0 (.slu 5 1 X4) [(.v .nilIface),(I 0)]),[]))) none) (fun A7 H8=>cond (PV.bare A7) (some (.pan A7,[])) none))) (fun A1 H2=>some (.pan A1,[])):=zg (fn:=Tryz.f20) _ _
theorem ziO (x0:List PV) (x1_0 x1_1 x1_2:Int):ev 54 [(.pv (.sl 1 x0)),(.pv (.agg [(I x1_0),(I x1_1),(I x1_2)]))] [] =
 cp (ev 57 [(.pv (.sl 1 x0))] []) (fun P3=>tK P3 0 fun P5=>tK P3 1 fun P7=>(yC (.pv P7)).bind fun Z8=>cond (!Z8) (
 some (.ret (.tup 0 (.slu 5 1 []) [(.v .nilIface),P7]),[])) (
 cp (ev 103 [(.pv P5),(.pv (.agg [(I x1_0),(I x1_1),(I x1_2)]))] []) (fun P11=>tK P11 0 fun P13=>tK P11 1 fun P15=>(zf .i64 (.pv P15)).bind fun N16=>cond (N16 != 0) (
  cp (ev 104 [(.pv P15)] []) (fun P19=>some (.ret (.tup 0 (.slu 5 1 []) [(.v .nilIface),P19]),[]))) (
  zh (ev 105 [(.pv P13)] []) (fun A17 H18=>(wP 0 2 A17).bind fun Q19=>(zO 5 1 Q19.1).bind fun X20=>(Q19.2[1]?).bind fun P21=>cp (ev 104 [(.pv P21)] []) (fun P24=>some (.ret (.tup 0 (.slu 5 1 X20) [(.v .nilIface),P24]),[]))) (fun A17 H18=>some (.pan A17,[])))))):=zg (fn:=Tryz.f54) _ _
noncomputable def Vq:Code:=Tryz.f60.body.getD .skip
noncomputable def jF (xs0 xs1 xs2:List PV) (i3 i4 i5 i6 i7:Int):Option (Out×za) :=
 ya (zA env ev zN 38 60 0 (sub Vq [1,0,1,0,0])) (zJ env 60 0 1) (zQ 0 (yf (zT env ev 38 60 0 (sub Vq [1,1])) (z8 env 60 Tryz.f60.results.toList 0))) ⟨zR [(0,(.pv (.sl 1 xs0))),(1,(.pv (.sl 1 xs1))),(5,(.ptr 0 0)),(14,(.slu 67 1 xs2)),(15,(.pv (I i3))),(16,(.pv (I i4)))],[[(.pv (I i5)),(.pv (I i6)),(.pv (I i7))]]⟩
noncomputable def Jz (xs0 xs1 xs2:List PV) (i3 i4 i5 i6 i7:Int):Option (Out×za) :=
 ya (zA env ev zN 38 60 0 (sub Vq [1,0,1,0,0])) (zJ env 60 0 1) (zQ 0 (yf (zT env ev 38 60 0 (sub Vq [1,1])) (z8 env 60 Tryz.f60.results.toList 0))) ⟨zR [(0,(.pv (.sl 1 xs0))),(1,(.pv (.sl 1 xs1))),(5,(.ptr 0 0)),(14,(.pv (.sl 1 xs2))),(15,(.pv (I i3))),(16,(.pv (I i4)))],[[(.pv (I i5)),(.pv (I i6)),(.pv (I i7))]]⟩
theorem zhl (xs0 xs1 xs2:List PV) (i3 i4 i5 i6 i7:Int):jF xs0 xs1 xs2 i3 i4 i5 i6 i7 =
 cond (decide (i4<i3)) (
 cond (decide (0<=i4)&&decide (i4<(xs2.length:Int))) ((xs2[(i4).toNat]?).bind fun P1=>(P1.cells[0]?).bind fun P2=>cp (ev 110 [(.pv P2),(.pv (.agg [(I i5),(I i6),(I i7)]))] []) (fun P5=>tK P5 0 fun P7=>tK P5 1 fun P9=>(zf .i64 (.pv P9)).bind fun N10=>cond (N10 != 0) (
 some (.ret (.pv (.tup [(Bo false),P9])),[])) (
 Jz xs0 xs1 xs2 i3 (IntKind.wrap .i64 (i4+1)) i5 i6 i7))) none) (
 cp (ev 112 [(.pv (.sl 1 xs0))] []) (fun P3=>cp (ev 112 [(.pv (.sl 1 xs1))] []) (fun P6=>cp (ev 111 [(.pv (.agg [(.sl 1 xs0),(.sl 1 xs1)])),(.pv P3),(.pv P6)] []) (fun P9=>some (.ret (.pv (.tup [P9,(I 0)])),[]))))):=(yd ..).trans (by kernel_rfl)
theorem jG (xs0 xs1 xs2:List PV) (i3 i4 i5 i6 i7:Int):Jz xs0 xs1 xs2 i3 i4 i5 i6 i7 =
 cond (decide (i4<i3)) (
 cond (decide (0<=i4)&&decide (i4<(xs2.length:Int))) ((xs2[(i4).toNat]?).bind fun P1=>(P1.cells[0]?).bind fun P2=>cp (ev 110 [(.pv P2),(.pv (.agg [(I i5),(I i6),(I i7)]))] []) (fun P5=>tK P5 0 fun P7=>tK P5 1 fun P9=>(zf .i64 (.pv P9)).bind fun N10=>cond (N10 != 0) (
 some (.ret (.pv (.tup [(Bo false),P9])),[])) (
 Jz xs0 xs1 xs2 i3 (IntKind.wrap .i64 (i4+1)) i5 i6 i7))) none) (
 cp (ev 112 [(.pv (.sl 1 xs0))] []) (fun P3=>cp (ev 112 [(.pv (.sl 1 xs1))] []) (fun P6=>cp (ev 111 [(.pv (.agg [(.sl 1 xs0),(.sl 1 xs1)])),(.pv P3),(.pv P6)] []) (fun P9=>some (.ret (.pv (.tup [P9,(I 0)])),[]))))):=(yd ..).trans (by kernel_rfl)
theorem zhm (x0 x1:List PV) (x2_0 x2_1 x2_2:Int):ev 60 [(.pv (.sl 1 x0)),(.pv (.sl 1 x1)),(.pv (.agg [(I x2_0),(I x2_1),(I x2_2)]))] [] =
 jF x0 x1 [(.sl 1 x0),(.sl 1 x1)] 2 0 x2_0 x2_1 x2_2:=zg (fn:=Tryz.f60) _ _
noncomputable def qY:Code:=Tryz.f102.body.getD .skip
noncomputable def Wo (xs0:List PV) (i1:Int):Option (Out×za) :=
 ya (zA env ev zN 19 102 0 (sub qY [1,0,1,0,0])) (zJ env 102 0 0) (zQ 0 (yf (zT env ev 19 102 0 (sub qY [1,1])) (z8 env 102 Tryz.f102.results.toList 0))) ⟨zR [(0,(.pv (.sl 1 xs0))),(3,(.pv (I i1)))],[]⟩
theorem Jd (xs0:List PV) (i1:Int):Wo xs0 i1 =
 cond (decide (i1<(xs0.length:Int))) (
 cond (decide (0<=i1)&&decide (i1<(xs0.length:Int))) ((xs0[(i1).toNat]?).bind fun P1=>(P1.cells[0]?).bind fun P2=>(zX P2).bind fun L3=>cond (decide ((L3.2.length:Int)>300)) (
 some (.ret (.pv (Bo false)),[])) (
 Wo xs0 (IntKind.wrap .i64 (i1+1)))) none) (
 some (.ret (.pv (Bo (decide ((xs0.length:Int)<=20)))),[])):=(yd ..).trans (by kernel_rfl)
theorem zgo (x0:List PV):ev 102 [(.pv (.sl 1 x0))] [] =
 Wo x0 0:=zg (fn:=Tryz.f102) _ _
theorem zh9 (x0_0 x0_1 x0_2:Int) (x0_3 x0_4:List PV):ev 109 [(.pv (.agg [(I x0_0),(I x0_1),(I x0_2),(.sl 1 x0_3),(.sl 5 x0_4)]))] [] =
 zh (ev 165 [(.pv (.agg [(I x0_0),(I x0_1),(I x0_2),(.sl 1 x0_3),(.sl 5 x0_4)]))] []) (fun A1 H2=>(zO 30 1 A1).bind fun X3=>cp (ev 177 [(.pv (.sl 1 X3))] []) (fun P6=>some (.ret (.pv P6),[]))) (fun A1 H2=>some (.pan A1,[])):=zg (fn:=Tryz.f109) _ _
theorem zhs (x0_0 x0_1:List PV) (x1_0 x1_1 x1_2 x1_3 x1_4 x1_5 x1_6 x1_7 x2_0 x2_1 x2_2 x2_3 x2_4 x2_5 x2_6 x2_7:Int):ev 111 [(.pv (.agg [(.sl 1 x0_0),(.sl 1 x0_1)])),(.pv (.agg [(I x1_0),(I x1_1),(I x1_2),(I x1_3),(I x1_4),(I x1_5),(I x1_6),(I x1_7)])),(.pv (.agg [(I x2_0),(I x2_1),(I x2_2),(I x2_3),(I x2_4),(I x2_5),(I x2_6),(I x2_7)]))] [] =
 cond (x1_0 != x2_0) (
 some (.ret (.pv (Bo false)),[])) (
 cond (x1_5 != x2_5) (
  some (.ret (.pv (Bo false)),[])) (
  cond (x1_6 != x2_6) (
   some (.ret (.pv (Bo false)),[])) (
   cond (x1_0==0) (
    some (.ret (.pv (Bo true)),[])) (
    cond (x1_0==1) (
     cp (ev 181 [(.pv (.agg [(.sl 1 x0_0),(.sl 1 x0_1)])),(.pv (.agg [(I x1_0),(I x1_1),(I x1_2),(I x1_3),(I x1_4),(I x1_5),(I x1_6),(I x1_7)])),(.pv (.agg [(I x2_0),(I x2_1),(I x2_2),(I x2_3),(I x2_4),(I x2_5),(I x2_6),(I x2_7)]))] []) (fun P3=>some (.ret (.pv P3),[]))) (
     cond (x1_5==7) (
      cp (ev 182 [(.pv (.agg [(.sl 1 x0_0),(.sl 1 x0_1)])),(.pv (.agg [(I x1_0),(I x1_1),(I x1_2),(I x1_3),(I x1_4),(I x1_5),(I x1_6),(I x1_7)])),(.pv (.agg [(I x2_0),(I x2_1),(I x2_2),(I x2_3),(I x2_4),(I x2_5),(I x2_6),(I x2_7)]))] []) (fun P3=>some (.ret (.pv P3),[]))) (
      cond (x1_5==6) (
       cp (ev 183 [(.pv (.agg [(.sl 1 x0_0),(.sl 1 x0_1)])),(.pv (.agg [(I x1_0),(I x1_1),(I x1_2),(I x1_3),(I x1_4),(I x1_5),(I x1_6),(I x1_7)])),(.pv (.agg [(I x2_0),(I x2_1),(I x2_2),(I x2_3),(I x2_4),(I x2_5),(I x2_6),(I x2_7)])),(.pv (I x1_6))] []) (fun P3=>some (.ret (.pv P3),[]))) (
       cp (ev 180 [(.pv (.agg [(.sl 1 x0_0),(.sl 1 x0_1)])),(.pv (.agg [(I x1_0),(I x1_1),(I x1_2),(I x1_3),(I x1_4),(I x1_5),(I x1_6),(I x1_7)])),(.pv (.agg [(I x2_0),(I x2_1),(I x2_2),(I x2_3),(I x2_4),(I x2_5),(I x2_6),(I x2_7)]))] []) (fun P3=>some (.ret (.pv P3),[]))))))))):=zg (fn:=Tryz.f111) _ _
noncomputable def YT:Code:=Tryz.f117.body.getD .skip
noncomputable def Vk (xs0 xs1:List PV) (i2 i3:Int):Option (Out×za) :=
 ya (zA env ev zN 32 117 0 (sub YT [1,1,0,1,0,0])) (zJ env 117 0 0) (zQ 0 (yf (zT env ev 32 117 0 (sub YT [1,1,1])) (z8 env 117 Tryz.f117.results.toList 0))) ⟨zR [(3,(.slu 5 1 xs0)),(11,(.pv (.sl 1 xs1))),(12,(.pv (I i2))),(13,(.pv (I i3)))],[]⟩
noncomputable def Ku (xs0:List PV) (p1:PV) (xs2:List PV) (i3 i4 i5:Int):Option (Out×za) :=
 ya (zA env ev zN 32 117 2 (sub YT [1,1,0,1,0,0,1,1,0,0,1,1,0,0])) (zJ env 117 2 0) (zQ 2 (zQ 1 (yf (zT env ev 32 117 0 (sub YT [1,1,0,1,0,0,1,1,1])) (XI (zA env ev zN 32 117 0 (sub YT [1,1,0,1,0,0])) (zJ env 117 0 0) (zQ 0 (yf (zT env ev 32 117 0 (sub YT [1,1,1])) (z8 env 117 Tryz.f117.results.toList 0))))))) ⟨zR [(3,(.slu 5 1 xs0)),(5,(.pv p1)),(11,(.pv (.sl 1 xs2))),(12,(.pv (I i3))),(13,(.pv (I i4))),(17,(.pv (I i5)))],[]⟩
theorem zcX (xs0 xs1:List PV) (i2 i3:Int):Vk xs0 xs1 i2 i3 =
 cond (decide (i3<i2)) (
 cond (decide (0<=i3)&&decide (i3<(xs1.length:Int))) ((xs1[(i3).toNat]?).bind fun P1=>(P1.cells[0]?).bind fun P2=>Ku xs0 P2 xs1 i2 i3 0) none) (
 some (.ret (.pv (.sl 1 xs0)),[])):=(yd ..).trans (by kernel_rfl)
theorem zcY (xs0:List PV) (p1:PV) (xs2:List PV) (i3 i4 i5:Int):Ku xs0 p1 xs2 i3 i4 i5 =
 cond (decide (i5<8)) (
 (zf .u64 (.pv p1)).bind fun N1=>cond (yN .shr (IntKind.wrap .u64 (IntKind.wrap .i64 (8*i5)))) (cond (ye (xs0.length+1) 1) (Ku (xs0++[(U8 (IntKind.wrap .u8 (Int.fdiv N1 (2^(min (IntKind.wrap .u64 (IntKind.wrap .i64 (8*i5))).toNat 64)))))]) p1 xs2 i3 i4 (IntKind.wrap .i64 (i5+1))) none) none) (
 Vk xs0 xs2 i3 (IntKind.wrap .i64 (i4+1))):=(yd ..).trans (by kernel_rfl)
theorem zml (x0:List PV):ev 117 [(.pv (.sl 1 x0))] [] =
 cond ((decide (0<=(IntKind.wrap .i64 (8*(x0.length:Int))))&&decide ((IntKind.wrap .i64 (8*(x0.length:Int)))<=140737488355328))&&ye (IntKind.wrap .i64 (8*(x0.length:Int))).toNat 1) (Vk [] x0 (x0.length:Int) 0) none:=zg (fn:=Tryz.f117) _ _
theorem rF (x0__0:List PV) (x0__1 x0__2_0 x0__2_1 x0__2_2 x0__3_0 x1 x2 x3_0 x3_1 x3_2 x3_3 x3_4 x3_5:Int) (x3_6:Bool) (x3_7 x3_8 x3_9:Int):ev 194 [(.ptr 0 0),(.pv (I x1)),(.pv (I x2)),(.pv (.agg [(I x3_0),(I x3_1),(I x3_2),(I x3_3),(I x3_4),(I x3_5),(Bo x3_6),(I x3_7),(PV.v (.int .u32 x3_8)),(PV.v (.int .u32 x3_9))]))] [[(.pv (.sl 1 x0__0)),(.pv (I x0__1)),(.pv (I x0__2_0)),(.pv (I x0__2_1)),(.pv (I x0__2_2)),(.pv (I x0__3_0))]] =
 cond (x3_4==7) (
 xj (ev 249 [(.ptr 0 0),(.pv (I x1)),(.pv (I x2)),(.pv (.agg [(I x3_0),(I x3_1),(I x3_2),(I x3_3),(I x3_4),(I x3_5),(Bo x3_6),(I x3_7),(PV.v (.int .u32 x3_8)),(PV.v (.int .u32 x3_9))]))] [[(.pv (.sl 1 x0__0)),(.pv (I x0__1)),(.pv (I x0__2_0)),(.pv (I x0__2_1)),(.pv (I x0__2_2)),(.pv (I x0__3_0))]]) (fun P16 P5 P7 P9 P11 P13 P15=>some (.ret (.pv (.tup [])),[[(.pv P5),(.pv P7),(.pv P9),(.pv P11),(.pv P13),(.pv P15)]]))) (
 zh (ev 221 [(.pv (I x3_4)),(.pv (I x3_5))] []) (fun A1 H2=>(zb A1).bind fun P3=>xj (ev 246 [(.ptr 0 0),(.pv (I x1)),(.pv (.agg [(I x3_0),(I x3_1),(I x3_2),(I x3_3),(I x3_4),(I x3_5),(Bo x3_6),(I x3_7),(PV.v (.int .u32 x3_8)),(PV.v (.int .u32 x3_9))])),(.pv P3)] [[(.pv (.sl 1 x0__0)),(.pv (I x0__1)),(.pv (I x0__2_0)),(.pv (I x0__2_1)),(.pv (I x0__2_2)),(.pv (I x0__3_0))]]) (fun P19 P8 P10 P12 P14 P16 P18=>xj (ev 247 [(.ptr 0 0),(.pv P3)] [[(.pv P8),(.pv P10),(.pv P12),(.pv P14),(.pv P16),(.pv P18)]]) (fun P35 P24 P26 P28 P30 P32 P34=>cond (x3_4==6) (
  xj (ev 248 [(.ptr 0 0),(.pv P19),(.pv P3),(.pv (I x2))] [[(.pv P24),(.pv P26),(.pv P28),(.pv P30),(.pv P32),(.pv P34)]]) (fun P51 P40 P42 P44 P46 P48 P50=>some (.ret (.pv (.tup [])),[[(.pv P40),(.pv P42),(.pv P44),(.pv P46),(.pv P48),(.pv P50)]]))) (
  (zf .i64 (.pv P19)).bind fun N36=>(zf .i64 (.pv P3)).bind fun N37=>(zX P24).bind fun L38=>cond (decide (L38.1=1)) ((yq (.pv P19)).bind fun Q39=>cond ((decide (0<=Q39.2)&&decide (Q39.2<=(IntKind.wrap .i64 (N36+N37))))&&decide ((IntKind.wrap .i64 (N36+N37))<=(L38.2.length:Int))) (zh (ev 117 [(.pv (.sl L38.1 ((L38.2.take (IntKind.wrap .i64 (N36+N37)).toNat).drop (Q39.2).toNat)))] []) (fun A40 H41=>(zb A40).bind fun P42=>zh (ev 235 [(.pv (I x3_4)),(.pv (I x3_5)),(.pv P42)] []) (fun A43 H44=>(zO 5 1 A43).bind fun X45=>(zX P42).bind fun L46=>cond (decide (0<=(L46.2.length:Int))&&decide ((L46.2.length:Int)<=140737488355328)) (cond (ye (X45.length+(List.replicate (L46.2.length:Int).toNat (U8 0)).length) 1) ((zX P42).bind fun L47=>cond (decide (0<=(L47.2.length:Int))&&decide ((L47.2.length:Int)<=((X45++(List.replicate (L46.2.length:Int).toNat (U8 0))).length:Int))) ((vz (((X45++(List.replicate (L46.2.length:Int).toNat (U8 0))).take (L47.2.length:Int).toNat).drop 0)).bind fun ns_48=>(zX P42).bind fun L49=>cond (decide (L49.1=1)) ((vz L49.2).bind fun ns_50=>zh (ev 130 [(.pv (Bo ((strOfNums ns_48).toList==(strOfNums ns_50).toList)))] []) (fun A51 H52=>(zb A51).bind fun P53=>some (.ret (.pv (.tup [])),[[(.pv P24),(.pv P26),(.pv P28),(.pv P30),(.pv P32),(.pv P34)]])) (fun A51 H52=>some (.pan A51,[[(.pv P24),(.pv P26),(.pv P28),(.pv P30),(.pv P32),(.pv P34)]]))) none) none) none) none) (fun A43 H44=>some (.pan A43,[[(.pv P24),(.pv P26),(.pv P28),(.pv P30),(.pv P32),(.pv P34)]]))) (fun A40 H41=>some (.pan A40,[[(.pv P24),(.pv P26),(.pv P28),(.pv P30),(.pv P32),(.pv P34)]]))) none) none)))) (fun A1 H2=>some (.pan A1,[[(.pv (.sl 1 x0__0)),(.pv (I x0__1)),(.pv (I x0__2_0)),(.pv (I x0__2_1)),(.pv (I x0__2_2)),(.pv (I x0__3_0))]]))):=zg (fn:=Tryz.f194) _ _
theorem zlz (x0:List PV):ev 215 [(.pv (.sl 5 x0))] [] =
 cp (ev 258 [(.pv (.sl 5 x0)),(.pv (.v (.func (.func 259) #[] #[])))] []) (fun P3=>some (.ret (.pv P3),[])):=zg (fn:=Tryz.f215) _ _
theorem ziF (x0 x1:Int):ev 221 [(.pv (I x0)),(.pv (I x1))] [] =
 cond (x0==7) (
 some (.ret (.pv (I (IntKind.wrap .i64 (x1+1)))),[])) (
 cond (decide (0<=x0)&&decide (x0<8)) ((([(I 0),(I 1),(I 8),(I 16),(I 32),(I 64),(I 64),(I 0)]:List PV)[(0+(x0).toNat*1)]?).bind fun P1=>(zf .i64 (.pv P1)).bind fun N2=>cp (ev 263 [(.pv (I (IntKind.wrap .i64 (N2*x1)))),(.pv (I 64))] []) (fun P5=>some (.ret (.pv P5),[]))) none):=zg (fn:=Tryz.f221) _ _
theorem ju (x0__0:List PV) (x0__1_0 x0__1_1 x0__1_2 x0__2_0 x1 x2 x3:Int):ev 234 [(.ptr 0 0),(.pv (I x1)),(.pv (I x2)),(.pv (I x3))] [[(.pv (.sl 1 x0__0)),(.pv (I x0__1_0)),(.pv (I x0__1_1)),(.pv (I x0__1_2)),(.pv (I x0__2_0))]] =
 zh (ev 240 [(.pv (.sl 1 x0__0)),(.pv (I x1)),(.pv (I x2))] []) (fun A1 H2=>(zb A1).bind fun P3=>tK P3 0 fun P5=>tK P3 1 fun P7=>tK P3 2 fun P9=>tK P3 3 fun P11=>zh (ev 271 [(.pv P11)] []) (fun A12 H13=>(zb A12).bind fun P14=>zh (ev 190 [(.pv P5)] []) (fun A15 H16=>(zb A15).bind fun P17=>(zY (.pv P17)).bind fun B18=>cond B18 (
 some (.ret (.pv (.agg [(I 0),(I 0),(I 0),(.sl 1 []),(.sl 5 [])])),[[(.pv (.sl 1 x0__0)),(.pv (I x0__1_0)),(.pv (I x0__1_1)),(.pv (I x0__1_2)),(.pv (I x0__2_0))]])) (
 zh (ev 191 [(.pv (.agg [(I x0__1_0),(I x0__1_1),(I x0__1_2)])),(.pv (I x3))] []) (fun A19 H20=>(zb A19).bind fun P21=>zh (ev 271 [(.pv P21)] []) (fun A22 H23=>(zb A22).bind fun P24=>zh (ev 184 [(.pv (.sl 1 x0__0)),(.pv (I x1)),(.pv (I x2))] []) (fun A25 H26=>(zb A25).bind fun P27=>tK P27 0 fun P29=>tK P27 1 fun P31=>vJ P29 (fun P32 P33 P34 P35 P36 P37 P38 P39=>zh (ev 271 [(.pv P31)] []) (fun A40 H41=>(zb A40).bind fun P42=>zh (ev 272 [(.pv (.agg [(I x0__2_0)])),(.pv P39)] []) (fun A43 H44=>(zb A43).bind fun P45=>tK P45 0 fun P47=>tK P45 1 fun P49=>Wf P47 (fun P50=>zh (ev 271 [(.pv P49)] []) (fun A51 H52=>(zb A51).bind fun P53=>(zf .i64 (.pv P32)).bind fun N54=>cond (N54==1) (
  Zw (ev 273 [(.ptr 0 0),(.pv (.agg [P32,P33,P34,P35,P36,P37,P38,P39])),(.pv (I x3))] [[(.pv (.sl 1 x0__0)),(.pv (I x0__1_0)),(.pv (I x0__1_1)),(.pv (I x0__1_2)),(.pv P50)]]) (fun P68 P59 P61 P63 P65 P67=>vZ P68 (fun P69 P70 P71 P72 P73=>some (.ret (.pv (.agg [P69,P70,P71,P72,P73])),[[(.pv P59),(.pv P61),(.pv P63),(.pv P65),(.pv P67)]])))) (
  Zw (ev 274 [(.ptr 0 0),(.pv (.agg [P32,P33,P34,P35,P36,P37,P38,P39])),(.pv (I x3))] [[(.pv (.sl 1 x0__0)),(.pv (I x0__1_0)),(.pv (I x0__1_1)),(.pv (I x0__1_2)),(.pv P50)]]) (fun P68 P59 P61 P63 P65 P67=>vZ P68 (fun P69 P70 P71 P72 P73=>some (.ret (.pv (.agg [P69,P70,P71,P72,P73])),[[(.pv P59),(.pv P61),(.pv P63),(.pv P65),(.pv P67)]]))))) (fun A51 H52=>some (.pan A51,[[(.pv (.sl 1 x0__0)),(.pv (I x0__1_0)),(.pv (I x0__1_1)),(.pv (I x0__1_2)),(.pv P50)]])))) (fun A43 H44=>some (.pan A43,[[(.pv (.sl 1 x0__0)),(.pv (I x0__1_0)),(.pv (I x0__1_1)),(.pv (I x0__1_2)),(.pv (I x0__2_0))]]))) (fun A40 H41=>some (.pan A40,[[(.pv (.sl 1 x0__0)),(.pv (I x0__1_0)),(.pv (I x0__1_1)),(.pv (I x0__1_2)),(.pv (I x0__2_0))]])))) (fun A25 H26=>some (.pan A25,[[(.pv (.sl 1 x0__0)),(.pv (I x0__1_0)),(.pv (I x0__1_1)),(.pv (I x0__1_2)),(.pv (I x0__2_0))]]))) (fun A22 H23=>some (.pan A22,[[(.pv (.sl 1 x0__0)),(.pv (I x0__1_0)),(.pv (I x0__1_1)),(.pv (I x0__1_2)),(.pv (I x0__2_0))]]))) (fun A19 H20=>some (.pan A19,[[(.pv (.sl 1 x0__0)),(.pv (I x0__1_0)),(.pv (I x0__1_1)),(.pv (I x0__1_2)),(.pv (I x0__2_0))]])))) (fun A15 H16=>some (.pan A15,[[(.pv (.sl 1 x0__0)),(.pv (I x0__1_0)),(.pv (I x0__1_1)),(.pv (I x0__1_2)),(.pv (I x0__2_0))]]))) (fun A12 H13=>some (.pan A12,[[(.pv (.sl 1 x0__0)),(.pv (I x0__1_0)),(.pv (I x0__1_1)),(.pv (I x0__1_2)),(.pv (I x0__2_0))]]))) (fun A1 H2=>some (.pan A1,[[(.pv (.sl 1 x0__0)),(.pv (I x0__1_0)),(.pv (I x0__1_1)),(.pv (I x0__1_2)),(.pv (I x0__2_0))]])):=zg (fn:=Tryz.f234) _ _
theorem zkw (x0:List PV) (x1_0 x1_1 x1_2 x1_3 x1_4 x1_5:Int) (x1_6:Bool) (x1_7 x1_8 x1_9 x2 x3:Int):ev 241 [(.pv (.sl 1 x0)),(.pv (.agg [(I x1_0),(I x1_1),(I x1_2),(I x1_3),(I x1_4),(I x1_5),(Bo x1_6),(I x1_7),(PV.v (.int .u32 x1_8)),(PV.v (.int .u32 x1_9))])),(.pv (I x2)),(.pv (I x3))] [] =
 cp (ev 282 [(.pv (.sl 1 x0)),(.pv (.agg [(I 1),(I x2),(I x3),(I x1_2),(I x1_3),(I 0),(I 0),(I (IntKind.wrap .i64 (x1_2+x1_3)))])),(.pv (I x3)),(.pv (I (IntKind.wrap .i64 (x1_2+x1_3))))] []) (fun P3=>tK P3 0 fun P5=>tK P3 1 fun P7=>vJ P5 (fun P8 P9 P10 P11 P12 P13 P14 P15=>some (.ret (.pv (.tup [(.agg [P8,P9,P10,P11,P12,P13,P14,P15]),P7])),[]))):=zg (fn:=Tryz.f241) _ _
theorem zmm (x0 x1 x2:Int):ev 245 [(.pv (U x0)),(.pv (I x1)),(.pv (I x2))] [] =
 cond (yN .shr (IntKind.wrap .u64 x1)) (cp (ev 285 [(.pv (I x2))] []) (fun P3=>(zf .u64 (.pv P3)).bind fun N4=>some (.ret (.pv (U (IntKind.wrap .u64 (BitVec.ofInt 64 (Int.fdiv x0 (2^(min (IntKind.wrap .u64 x1).toNat 64))) &&& BitVec.ofInt 64 N4).toNat))),[]))) none:=zg (fn:=Tryz.f245) _ _
noncomputable def zdh:Code:=Tryz.f248.body.getD .skip
noncomputable def VL (i0 i1 i2 i3:Int) (p4 p5 p6 p7 p8 p9:PV):Option (Out×za) :=
 ya (zA env ev zN 21 248 0 (sub zdh [1,0,0])) (zJ env 248 0 1) (zQ 0 (z8 env 248 Tryz.f248.results.toList 1)) ⟨zR [(0,(.ptr 0 0)),(1,(.pv (I i0))),(3,(.pv (I i1))),(9,(.pv (I i2))),(10,(.pv (I i3)))],[[(.pv p4),(.pv p5),(.pv p6),(.pv p7),(.pv p8),(.pv p9)]]⟩
theorem rG (i0 i1 i2 i3:Int) (p4 p5 p6 p7 p8 p9:PV):VL i0 i1 i2 i3 p4 p5 p6 p7 p8 p9 =
 cond (decide (i3<i2)) (
 xj (ev 132 [(.ptr 0 0),(.pv (I (IntKind.wrap .i64 (i0+i3)))),(.pv (I (IntKind.wrap .i64 (i1+1))))] [[(.pv p4),(.pv p5),(.pv p6),(.pv p7),(.pv p8),(.pv p9)]]) (fun P16 P5 P7 P9 P11 P13 P15=>VL i0 i1 i2 (IntKind.wrap .i64 (i3+1)) P5 P7 P9 P11 P13 P15)) (
 some (.ret (.pv (.tup [])),[[(.pv p4),(.pv p5),(.pv p6),(.pv p7),(.pv p8),(.pv p9)]])):=(yd ..).trans (by kernel_rfl)
theorem zf8 (x0__0:List PV) (x0__1 x0__2_0 x0__2_1 x0__2_2 x0__3_0 x1 x2 x3:Int):ev 248 [(.ptr 0 0),(.pv (I x1)),(.pv (I x2)),(.pv (I x3))] [[(.pv (.sl 1 x0__0)),(.pv (I x0__1)),(.pv (I x0__2_0)),(.pv (I x0__2_1)),(.pv (I x0__2_2)),(.pv (I x0__3_0))]] =
 VL x1 x3 x2 0 (.sl 1 x0__0) (I x0__1) (I x0__2_0) (I x0__2_1) (I x0__2_2) (I x0__3_0):=zg (fn:=Tryz.f248) _ _
noncomputable def uw:Code:=Tryz.f256.body.getD .skip
noncomputable def Kn (xs0:List PV) (i1:Int):Option (Out×za) :=
 ya (zA env ev zN 22 256 0 (sub uw [1,1,0,0,0])) (zJ env 256 0 0) (zQ 0 (yf (zT env ev 22 256 0 (sub uw [1,1,1])) (z8 env 256 Tryz.f256.results.toList 0))) ⟨zR [(0,(.pv (.sl 1 xs0))),(1,(.pv (.v (.func (.func 257) #[] #[])))),(5,(.pv (I i1)))],[]⟩
theorem zcI (xs0:List PV) (i1:Int):Kn xs0 i1 =
 cond (decide (i1>0)) (
 cond (decide (0<=(IntKind.wrap .i64 (i1-1)))&&decide ((IntKind.wrap .i64 (i1-1))<(xs0.length:Int))) ((xs0[(IntKind.wrap .i64 (i1-1)).toNat]?).bind fun P1=>(P1.cells[0]?).bind fun P2=>cp (ev 257 [(.pv P2)] []) (fun P5=>(zY (.pv P5)).bind fun B6=>cond B6 (
 Kn xs0 (IntKind.wrap .i64 (i1-1))) (
 some (.ret (.pv (I i1)),[])))) none) (
 some (.ret (.pv (I i1)),[])):=(yd ..).trans (by kernel_rfl)
theorem zlF (x0:List PV):ev 256 [(.pv (.sl 1 x0)),(.pv (.v (.func (.func 257) #[] #[])))] [] =
 Kn x0 (x0.length:Int):=zg (fn:=Tryz.f256) _ _
theorem zgc (x0_0 x0_1 x0_2:Int) (x0_3 x0_4:List PV):ev 262 [(.pv (.agg [(I x0_0),(I x0_1),(I x0_2),(.sl 1 x0_3),(.sl 5 x0_4)]))] [] =
 cond (x0_0==0) (
 some (.ret (.pv (I 0)),[])) (
 cond (x0_0==1) (
  some (.ret (.pv (I (IntKind.wrap .i64 ((IntKind.wrap .i64 (Int.tdiv (x0_3.length:Int) 8))+(x0_4.length:Int))))),[])) (
  cond (x0_1==7) (
   cp (ev 219 [(.pv (.agg [(I x0_0),(I x0_1),(I x0_2),(.sl 1 x0_3),(.sl 5 x0_4)]))] []) (fun P3=>tK P3 0 fun P5=>tK P3 1 fun P7=>(zf .i64 (.pv P5)).bind fun N8=>(zf .i64 (.pv P7)).bind fun N9=>some (.ret (.pv (I (IntKind.wrap .i64 (1+(IntKind.wrap .i64 (x0_2*(IntKind.wrap .i64 (N8+N9)))))))),[]))) (
   cp (ev 221 [(.pv (I x0_1)),(.pv (I x0_2))] []) (fun P3=>some (.ret (.pv P3),[]))))):=zg (fn:=Tryz.f262) _ _
theorem zcO (x0__0 x0__1:List PV) (x0__2:Int):ev 265 [(.ptr 0 0)] [[(.pv (.sl 1 x0__0)),(.slu 5 1 x0__1),(.pv (I x0__2))]] =
 cond ((x0__0.length:Int)==0) (
 some (.ret (.pv (.tup [(I 0),(.sen 2)])),[[(.pv (.sl 1 x0__0)),(.slu 5 1 x0__1),(.pv (I x0__2))]])) (
 cond (decide (0<(x0__0.length:Int))) ((x0__0[0]?).bind fun P1=>(P1.cells[0]?).bind fun P2=>(yq (.pv P2)).bind fun Q3=>cond (decide (1<=(x0__0.length:Int))&&decide ((x0__0.length:Int)<=(x0__0.length:Int))) (some (.ret (.pv (.tup [(I (IntKind.wrap .i64 Q3.2)),(.v .nilIface)])),[[(.pv (.sl 1 ((x0__0.take (x0__0.length:Int).toNat).drop 1))),(.slu 5 1 x0__1),(.pv (I x0__2))]])) none) none):=zg (fn:=Tryz.f265) _ _
theorem rK (x0__0:List PV) (x1_0 x1_1 x1_2:Int) (x1_3 x1_4:List PV):ev 268 [(.ptr 0 0),(.pv (.agg [(I x1_0),(I x1_1),(I x1_2),(.sl 1 x1_3),(.sl 5 x1_4)]))] [[(.slu 30 1 x0__0)]] =
 cond (x1_1==6) (
 zh (ev 292 [(.ptr 0 0),(.pv (I x1_2))] [[(.slu 30 1 x0__0)]]) (fun A1 H2=>(H2[0]?).bind fun C3=>(C3[0]?).bind fun E4=>(zO 30 1 E4).bind fun X5=>cond (decide (C3.length=1)) (cond (decide (H2.length=1)) ((zb A1).bind fun P6=>cond ((decide (P6.cells.length=1)&&P6.cells.all PV.isCell)&&true) (some (.ret (.pv (.tup [(.agg [(I 1),(I 0),(I 0),(I 0),(I x1_1),(I x1_2),(Bo false),(I 0),(PV.v (.int .u32 0)),(PV.v (.int .u32 0))]),(.sl 1 [P6])])),[[(.slu 30 1 X5)]])) none) none) none) (fun A1 H2=>(H2[0]?).bind fun C3=>(C3[0]?).bind fun E4=>(zO 30 1 E4).bind fun X5=>cond (decide (C3.length=1)) (cond (decide (H2.length=1)) (some (.pan A1,[[(.slu 30 1 X5)]])) none) none)) (
 zh (ev 262 [(.pv (.agg [(I x1_0),(I x1_1),(I x1_2),(.sl 1 x1_3),(.sl 5 x1_4)]))] []) (fun A1 H2=>(zb A1).bind fun P3=>zh (ev 293 [(.ptr 0 0),(.pv (.sl 1 x1_3)),(.pv P3)] [[(.slu 30 1 x0__0)]]) (fun A4 H5=>(H5[0]?).bind fun C6=>(C6[0]?).bind fun E7=>(zO 30 1 E7).bind fun X8=>cond (decide (C6.length=1)) (cond (decide (H5.length=1)) ((zb A4).bind fun P9=>some (.ret (.pv (.tup [(.agg [(I 1),(I 0),(I 0),(I 0),(I x1_1),(I x1_2),(Bo false),(I 0),(PV.v (.int .u32 0)),(PV.v (.int .u32 0))]),(.sl 1 [])])),[[(.slu 30 1 X8)]])) none) none) (fun A4 H5=>(H5[0]?).bind fun C6=>(C6[0]?).bind fun E7=>(zO 30 1 E7).bind fun X8=>cond (decide (C6.length=1)) (cond (decide (H5.length=1)) (some (.pan A4,[[(.slu 30 1 X8)]])) none) none)) (fun A1 H2=>some (.pan A1,[[(.slu 30 1 x0__0)]]))):=zg (fn:=Tryz.f268) _ _
theorem jr (x0:Int):ev 271 [(.pv (I x0))] [] =
 cond (x0 != 0) (
 some (.pan (.ifc 279 (.agg [(I x0)])),[])) (
 some (.ret (.pv (.tup [])),[])):=zg (fn:=Tryz.f271) _ _
theorem zg7 (x0__0:List PV) (x0__1_0 x0__1_1 x0__1_2 x0__2_0 x1_0 x1_1 x1_2 x1_3 x1_4 x1_5 x1_6 x1_7 x2:Int):ev 273 [(.ptr 0 0),(.pv (.agg [(I x1_0),(I x1_1),(I x1_2),(I x1_3),(I x1_4),(I x1_5),(I x1_6),(I x1_7)])),(.pv (I x2))] [[(.pv (.sl 1 x0__0)),(.pv (I x0__1_0)),(.pv (I x0__1_1)),(.pv (I x0__1_2)),(.pv (I x0__2_0))]] =
 zh (ev 295 [(.ptr 0 0),(.pv (.agg [(I x1_0),(I x1_1),(I x1_2),(I x1_3),(I x1_4),(I x1_5),(I x1_6),(I x1_7)])),(.pv (I x1_2)),(.pv (I x1_3))] [[(.pv (.sl 1 x0__0)),(.pv (I x0__1_0)),(.pv (I x0__1_1)),(.pv (I x0__1_2)),(.pv (I x0__2_0))]]) (fun A1 H2=>(H2[0]?).bind fun C3=>(C3[0]?).bind fun E4=>(zb E4).bind fun P5=>(C3[1]?).bind fun E6=>(zb E6).bind fun P7=>(C3[2]?).bind fun E8=>(zb E8).bind fun P9=>(C3[3]?).bind fun E10=>(zb E10).bind fun P11=>(C3[4]?).bind fun E12=>(zb E12).bind fun P13=>cond (decide (C3.length=5)) (cond (decide (H2.length=1)) ((zb A1).bind fun P14=>Zw (ev 296 [(.ptr 0 0),(.pv (.agg [(I x1_0),(I x1_1),(I x1_2),(I x1_3),(I x1_4),(I x1_5),(I x1_6),(I x1_7)])),(.pv (I x2))] [[(.pv P5),(.pv P7),(.pv P9),(.pv P11),(.pv P13)]]) (fun P28 P19 P21 P23 P25 P27=>cond (P14.isCell&&true) (cond (P28.isCell&&true) (cond ((P14.isCell&&true)&&((P28.isCell&&true)&&true)) (cond (P14.isCell&&(P28.isCell&&true)) (some (.ret (.pv (.agg [(I 1),(I 0),(I 0),P14,P28])),[[(.pv P19),(.pv P21),(.pv P23),(.pv P25),(.pv P27)]])) none) none) none) none)) none) none) (fun A1 H2=>(H2[0]?).bind fun C3=>(C3[0]?).bind fun E4=>(zb E4).bind fun P5=>(C3[1]?).bind fun E6=>(zb E6).bind fun P7=>(C3[2]?).bind fun E8=>(zb E8).bind fun P9=>(C3[3]?).bind fun E10=>(zb E10).bind fun P11=>(C3[4]?).bind fun E12=>(zb E12).bind fun P13=>cond (decide (C3.length=5)) (cond (decide (H2.length=1)) (none) none) none):=zg (fn:=Tryz.f273) _ _
theorem zks (x0_0 x0_1 x0_2 x0_3 x0_4 x0_5 x0_6 x0_7:Int):ev 277 [(.pv (.agg [(I x0_0),(I x0_1),(I x0_2),(I x0_3),(I x0_4),(I x0_5),(I x0_6),(I x0_7)]))] [] =
 cond (x0_0==1) (
 cond (decide (x0_4>0)) (
 some (.ret (.pv (.tup [(I (IntKind.wrap .i64 (x0_2+x0_3))),(I x0_4)])),[])) (
 cond (x0_0==2) (
  cond (x0_5==6) (
  cond (decide (x0_6>0)) (
  some (.ret (.pv (.tup [(I x0_2),(I x0_6)])),[])) (
  some (.ret (.pv (.tup [(I 0),(I 0)])),[]))) (
  some (.ret (.pv (.tup [(I 0),(I 0)])),[]))) (
  some (.ret (.pv (.tup [(I 0),(I 0)])),[])))) (
 cond (x0_0==2) (
  cond (x0_5==6) (
  cond (decide (x0_6>0)) (
  some (.ret (.pv (.tup [(I x0_2),(I x0_6)])),[])) (
  some (.ret (.pv (.tup [(I 0),(I 0)])),[]))) (
  some (.ret (.pv (.tup [(I 0),(I 0)])),[]))) (
  some (.ret (.pv (.tup [(I 0),(I 0)])),[]))):=zg (fn:=Tryz.f277) _ _
theorem zkt (x0:List PV) (x1_0 x1_1 x1_2 x1_3 x1_4 x1_5:Int) (x1_6:Bool) (x1_7 x1_8 x1_9 x2 x3:Int):ev 283 [(.pv (.sl 1 x0)),(.pv (.agg [(I x1_0),(I x1_1),(I x1_2),(I x1_3),(I x1_4),(I x1_5),(Bo x1_6),(I x1_7),(PV.v (.int .u32 x1_8)),(PV.v (.int .u32 x1_9))])),(.pv (I x2)),(.pv (I x3))] [] =
 cp (ev 286 [(.pv (.sl 1 x0)),(.pv (I x2)),(.pv (I x3)),(.pv (I (IntKind.wrap .i64 (x1_5+1))))] []) (fun P3=>(zY (.pv P3)).bind fun B4=>cond (!B4) (
 some (.ret (.pv (.tup [(.agg [(I 0),(I 0),(I 0),(I 0),(I 0),(I 0),(I 0),(I 0)]),(I 2)])),[])) (
 cp (ev 278 [(.pv (.sl 1 x0)),(.pv (I x2)),(.pv (I x3))] []) (fun P7=>tK P7 0 fun P9=>tK P7 1 fun P11=>cp (ev 192 [(.pv P9)] []) (fun P14=>wv P14 (fun P15 P16 P17 P18 P19 P20 P21 P22 P23 P24=>(zf .i64 (.pv P17)).bind fun N25=>(zf .i64 (.pv P18)).bind fun N26=>(zf .i64 (.pv P15)).bind fun N27=>cond (N27 != 0) (
  some (.ret (.pv (.tup [(.agg [(I 0),(I 0),(I 0),(I 0),(I 0),(I 0),(I 0),(I 0)]),(I 5)])),[])) (
  (zf .i64 (.pv P16)).bind fun N28=>cond (decide (N28<0)) (
   some (.ret (.pv (.tup [(.agg [(I 0),(I 0),(I 0),(I 0),(I 0),(I 0),(I 0),(I 0)]),(I 5)])),[])) (
   (zf .i64 (.pv P16)).bind fun N29=>cond (decide ((IntKind.wrap .i64 (N29*(IntKind.wrap .i64 (N25+N26))))>x1_5)) (
    some (.ret (.pv (.tup [(.agg [(I 0),(I 0),(I 0),(I 0),(I 0),(I 0),(I 0),(I 0)]),(I 5)])),[])) (
    cond (P17.isCell&&true) (cond (P18.isCell&&true) (cond (P16.isCell&&true) (cond ((P17.isCell&&true)&&((P18.isCell&&true)&&((P16.isCell&&true)&&true))) (cond (P17.isCell&&(P18.isCell&&(P16.isCell&&true))) (cond ((IntKind.wrap .i64 (N25+N26))==0) (
     (zf .i64 (.pv P16)).bind fun N30=>cond (P17.isCell&&(P18.isCell&&(P16.isCell&&true))) (some (.ret (.pv (.tup [(.agg [(I 2),(I x2),(I (IntKind.wrap .i64 (x3+1))),P17,P18,(I 7),P16,(I (IntKind.wrap .i64 ((IntKind.wrap .i64 (x1_5+1))+N30)))]),(I 0)])),[])) none) (
     cond (P17.isCell&&(P18.isCell&&(P16.isCell&&true))) (some (.ret (.pv (.tup [(.agg [(I 2),(I x2),(I (IntKind.wrap .i64 (x3+1))),P17,P18,(I 7),P16,(I (IntKind.wrap .i64 (x1_5+1)))]),(I 0)])),[])) none)) none) none) none) none) none)))))))):=zg (fn:=Tryz.f283) _ _
noncomputable def q9:Code:=Tryz.f296.body.getD .skip
noncomputable def Qb (i0:Int) (xs1:List PV) (p2 p3:PV) (i4:Int) (p5 p6 p7 p8 p9:PV) (i10 i11 i12 i13 i14 i15 i16 i17:Int):Option (Out×za) :=
 ya (zA env ev zN 34 296 0 (sub q9 [1,1,1,0,1,0,0])) (zJ env 296 0 2) (zQ 0 (yf (zT env ev 34 296 0 (sub q9 [1,1,1,1])) (z8 env 296 Tryz.f296.results.toList 1))) ⟨zR [(0,(.ptr 0 0)),(2,(.pv (I i0))),(4,(.ptr 1 0)),(7,(.slu 53 5 xs1)),(8,(.pv p2)),(16,(.pv p3)),(17,(.pv (I i4)))],[[(.pv p5),(.pv p6),(.pv p7),(.pv p8),(.pv p9)],[(.pv (I i10)),(.pv (I i11)),(.pv (I i12)),(.pv (I i13)),(.pv (I i14)),(.pv (I i15)),(.pv (I i16)),(.pv (I i17))]]⟩
theorem jt (i0:Int) (xs1:List PV) (p2 p3:PV) (i4:Int) (p5 p6 p7 p8 p9:PV) (i10 i11 i12 i13 i14 i15 i16 i17:Int):Qb i0 xs1 p2 p3 i4 p5 p6 p7 p8 p9 i10 i11 i12 i13 i14 i15 i16 i17 =
 (zf .i64 (.pv p3)).bind fun N1=>cond (decide (i4<N1)) (
 (zf .i64 (.pv p2)).bind fun N2=>Zw (ev 234 [(.ptr 0 0),(.pv (I i11)),(.pv (I (IntKind.wrap .i64 (N2+i4)))),(.pv (I (IntKind.wrap .i64 (i0+1))))] [[(.pv p5),(.pv p6),(.pv p7),(.pv p8),(.pv p9)]]) (fun P16 P7 P9 P11 P13 P15=>cond ((decide (P16.cells.length=5)&&P16.cells.all PV.isCell)&&true) (cond (ye (xs1.length+1) 72) (Qb i0 (xs1++[P16]) p2 p3 (IntKind.wrap .i64 (i4+1)) P7 P9 P11 P13 P15 i10 i11 i12 i13 i14 i15 i16 i17) none) none)) (
 some (.ret (.pv (.sl 5 xs1)),[[(.pv p5),(.pv p6),(.pv p7),(.pv p8),(.pv p9)]])):=(yd ..).trans (by kernel_rfl)
theorem zg6 (x0__0:List PV) (x0__1_0 x0__1_1 x0__1_2 x0__2_0 x1_0 x1_1 x1_2 x1_3 x1_4 x1_5 x1_6 x1_7 x2:Int):ev 296 [(.ptr 0 0),(.pv (.agg [(I x1_0),(I x1_1),(I x1_2),(I x1_3),(I x1_4),(I x1_5),(I x1_6),(I x1_7)])),(.pv (I x2))] [[(.pv (.sl 1 x0__0)),(.pv (I x0__1_0)),(.pv (I x0__1_1)),(.pv (I x0__1_2)),(.pv (I x0__2_0))]] =
 zh (ev 277 [(.pv (.agg [(I x1_0),(I x1_1),(I x1_2),(I x1_3),(I x1_4),(I x1_5),(I x1_6),(I x1_7)]))] []) (fun A1 H2=>(zb A1).bind fun P3=>tK P3 0 fun P5=>tK P3 1 fun P7=>Qb x2 [] P5 P7 0 (.sl 1 x0__0) (I x0__1_0) (I x0__1_1) (I x0__1_2) (I x0__2_0) x1_0 x1_1 x1_2 x1_3 x1_4 x1_5 x1_6 x1_7) (fun A1 H2=>some (.pan A1,[[(.pv (.sl 1 x0__0)),(.pv (I x0__1_0)),(.pv (I x0__1_1)),(.pv (I x0__1_2)),(.pv (I x0__2_0))]])):=zg (fn:=Tryz.f296) _ _
end Go.Proofs.YtjbjeeoifhegfaaGreatDoor.E
