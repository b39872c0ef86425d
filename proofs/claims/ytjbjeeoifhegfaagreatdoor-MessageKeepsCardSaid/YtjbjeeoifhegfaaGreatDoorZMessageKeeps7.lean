/- A part of the proof of the law MessageKeeps, as its statement says it: for every input; its conditions are the statement's own. -/
import Derived.KernelRfl
import Derived.Test.YtjbjeeoifhegfaaGreatDoorZMessageKeeps1
import Derived.Test.YtjbjeeoifhegfaaGreatDoorZMessageKeeps2
import Derived.Test.YtjbjeeoifhegfaaGreatDoorZMessageKeeps3
set_option linter.unusedVariables false
set_option linter.unusedSimpArgs false
namespace Go.Proofs.YtjbjeeoifhegfaaGreatDoor.E
theorem zgv (x0:List PV) (x1_0 x1_1 x1_2:Int):ev 15 [(.pv (.sl 1 x0)),(.pv (.agg [(I x1_0),(I x1_1),(I x1_2)]))] [] =
 cond (decide ((x0.length:Int)>4000)) (
 some (.ret (.pv (Bo false)),[])) (
 cond (decide (x1_0>40)) (
  some (.ret (.pv (Bo false)),[])) (
  cond (decide (x1_1>2000)) (
   some (.ret (.pv (Bo false)),[])) (
   cp (ev 43 [(.pv (.sl 1 x0))] []) (fun P3=>tK P3 0 fun P5=>tK P3 1 fun P7=>(zf .i64 (.pv P7)).bind fun N8=>cond (N8 != 0) (
    some (.ret (.pv (Bo true)),[])) (
    cp (ev 53 [(.pv P5),(.pv (.agg [(I x1_0),(I x1_1),(I x1_2)]))] []) (fun P11=>(zY (.pv P11)).bind fun B12=>some (.ret (.pv (Bo B12)),[]))))))):=zg (fn:=Tryz.f15) _ _
theorem ziL (x0:List PV) (x1_0 x1_1 x1_2:Int):ev 17 [(.pv (.sl 1 x0)),(.pv (.agg [(I x1_0),(I x1_1),(I x1_2)]))] [] =
 cp (ev 57 [(.pv (.sl 1 x0))] []) (fun P3=>tK P3 0 fun P5=>tK P3 1 fun P7=>(yC (.pv P7)).bind fun Z8=>cond (!Z8) (
 cp (ev 56 [(.pv P7)] []) (fun P11=>some (.ret (.pv (.tup [(U 0),P11])),[]))) (
 cp (ev 55 [(.pv (.agg [(I x1_0),(I x1_1),(I x1_2)]))] []) (fun P11=>cp (ev 58 [(.pv P5),(.pv P11)] []) (fun P14=>tK P14 0 fun P16=>tK P14 1 fun P18=>some (.ret (.pv (.tup [P16,P18])),[]))))):=zg (fn:=Tryz.f17) _ _
theorem ziM (x0:List PV):ev 19 [(.pv (.sl 1 x0))] [] =
 cp (ev 57 [(.pv (.sl 1 x0))] []) (fun P3=>tK P3 0 fun P5=>tK P3 1 fun P7=>(yC (.pv P7)).bind fun Z8=>cond (!Z8) (
 cp (ev 56 [(.pv P7)] []) (fun P11=>some (.ret (.pv (.tup [(.sl 1 []),P11])),[]))) (
 cp (ev 61 [(.pv (.sl 1 x0))] []) (fun P11=>tK P11 0 fun P13=>tK P11 1 fun P15=>some (.ret (.pv (.tup [P13,P15])),[])))):=zg (fn:=Tryz.f19) _ _
noncomputable def qW:Code:=Tryz.f27.body.getD .skip
noncomputable def Y9 (xs0 xs1:List PV) (i2:Int):Option (Out×za) :=
 ya (zA env ev zN 26 27 0 (sub qW [1,1,0,1,0,0])) (zJ env 27 0 0) (zQ 0 (yf (zT env ev 26 27 0 (sub qW [1,1,1])) (z8 env 27 Tryz.f27.results.toList 0))) ⟨zR [(0,(.pv (.sl 1 xs0))),(1,(.pv (.sl 1 xs1))),(5,(.pv (I i2)))],[]⟩
theorem VW (xs0 xs1:List PV) (i2:Int):Y9 xs0 xs1 i2 =
 cond (decide (i2<(xs0.length:Int))) (
 cond (decide (0<=i2)&&decide (i2<(xs0.length:Int))) ((xs0[(i2).toNat]?).bind fun P1=>(P1.cells[0]?).bind fun P2=>cond (decide (0<=i2)&&decide (i2<(xs1.length:Int))) ((xs1[(i2).toNat]?).bind fun P3=>(P3.cells[0]?).bind fun P4=>(zf .u8 (.pv P2)).bind fun N5=>(zf .u8 (.pv P4)).bind fun N6=>cond (N5 != N6) (
 some (.ret (.pv (Bo false)),[])) (
 Y9 xs0 xs1 (IntKind.wrap .i64 (i2+1)))) none) none) (
 some (.ret (.pv (Bo true)),[])):=(yd ..).trans (by kernel_rfl)
theorem Jc (x0 x1:List PV):ev 27 [(.pv (.sl 1 x0)),(.pv (.sl 1 x1))] [] =
 cond ((x0.length:Int) != (x1.length:Int)) (
 some (.ret (.pv (Bo false)),[])) (
 Y9 x0 x1 0):=zg (fn:=Tryz.f27) _ _
theorem zgk:ev 33 [] [] =
 zh (ev 16 [(.pv (.sl 1 [(U8 0),(U8 0),(U8 0),(U8 0),(U8 0),(U8 0),(U8 0),(U8 0)])),(.pv (.agg [(I 5),(I 100),(I 100)]))] []) (fun A1 H2=>(wP 0 2 A1).bind fun Q3=>(zO 5 1 Q3.1).bind fun X4=>(Q3.2[1]?).bind fun P5=>cp (ev 18 [(.pv (.sl 1 [(U8 0),(U8 0),(U8 0),(U8 0),(U8 0),(U8 0),(U8 0),(U8 0)])),(.pv (.sl 1 [(U8 0),(U8 0),(U8 0),(U8 0),(U8 1),(U8 0),(U8 0),(U8 0),(U8 0),(U8 0),(U8 0),(U8 0),(U8 0),(U8 0),(U8 0),(U8 0)])),(.pv (.agg [(I 5),(I 100),(I 100)]))] []) (fun P8=>tK P8 0 fun P10=>tK P8 1 fun P12=>cp (ev 18 [(.pv (.sl 1 [(U8 0),(U8 0),(U8 0),(U8 0),(U8 0),(U8 0),(U8 0),(U8 0)])),(.pv (.sl 1 [])),(.pv (.agg [(I 5),(I 100),(I 100)]))] []) (fun P15=>tK P15 0 fun P17=>tK P15 1 fun P19=>cp (ev 19 [(.pv (.sl 1 [(U8 0),(U8 0),(U8 0),(U8 0),(U8 1),(U8 0),(U8 0),(U8 0),(U8 0),(U8 0),(U8 0),(U8 0),(U8 0),(U8 0),(U8 0),(U8 0)]))] []) (fun P22=>tK P22 0 fun P24=>tK P22 1 fun P26=>zh (ev 20 [(.pv P24),(.pv (.agg [(I 5),(I 100),(I 100)]))] []) (fun A27 H28=>(wP 0 2 A27).bind fun Q29=>(zO 5 1 Q29.1).bind fun X30=>(Q29.2[1]?).bind fun P31=>zh (ev 20 [(.pv P24),(.pv (.agg [(I 0),(I 0),(I 15)]))] []) (fun A32 H33=>(wP 0 2 A32).bind fun Q34=>(zO 5 1 Q34.1).bind fun X35=>(Q34.2[1]?).bind fun P36=>cp (ev 17 [(.pv (.sl 1 [(U8 0),(U8 0),(U8 0),(U8 0),(U8 0),(U8 0),(U8 0),(U8 0)])),(.pv (.agg [(I 5),(I 100),(I 100)]))] []) (fun P39=>tK P39 0 fun P41=>tK P39 1 fun P43=>(zf .i64 (.pv P5)).bind fun N44=>cond (N44==0) (
 cp (ev 27 [(.pv (.sl 1 X4)),(.pv (.sl 1 [(U8 0),(U8 0),(U8 0),(U8 0),(U8 1),(U8 0),(U8 0),(U8 0),(U8 0),(U8 0),(U8 0),(U8 0),(U8 0),(U8 0),(U8 0),(U8 0)]))] []) (fun P47=>(zY (.pv P47)).bind fun B48=>cond B48 (
 (zY (.pv P10)).bind fun B49=>cond B49 (
 (zf .i64 (.pv P12)).bind fun N50=>cond (N50==0) (
 (zf .i64 (.pv P19)).bind fun N51=>cond (N51==1) (
 (zf .i64 (.pv P26)).bind fun N52=>cond (N52==0) (
 cp (ev 27 [(.pv P24),(.pv (.sl 1 [(U8 16),(U8 1),(U8 0),(U8 0)]))] []) (fun P55=>(zY (.pv P55)).bind fun B56=>cond B56 (
 (zf .i64 (.pv P31)).bind fun N57=>cond (N57==0) (
 cp (ev 27 [(.pv (.sl 1 X30)),(.pv (.sl 1 [(U8 0),(U8 0),(U8 0),(U8 0),(U8 1),(U8 0),(U8 0),(U8 0),(U8 0),(U8 0),(U8 0),(U8 0),(U8 0),(U8 0),(U8 0),(U8 0)]))] []) (fun P60=>(zY (.pv P60)).bind fun B61=>cond B61 (
 (zf .i64 (.pv P36)).bind fun N62=>cond (N62==11) (
 (zf .i64 (.pv P43)).bind fun N63=>cond (N63==0) (
 cp (ev 42 [(.pv (.sl 1 [(U8 0),(U8 0),(U8 0),(U8 0),(U8 0),(U8 0),(U8 0),(U8 0)]))] []) (fun P66=>(zf .u64 (.pv P41)).bind fun N67=>(zf .u64 (.pv P66)).bind fun N68=>cond (N67==N68) (
 cp (ev 35 [(.pv (.sl 1 [(U8 0),(U8 0),(U8 0),(U8 0),(U8 1),(U8 0),(U8 0),(U8 0),(U8 0),(U8 0),(U8 0),(U8 0),(U8 0),(U8 0),(U8 0),(U8 0)])),(.pv (.agg [(I 5),(I 100),(I 100)]))] []) (fun P71=>(zY (.pv P71)).bind fun B72=>cond B72 (
 cp (ev 35 [(.pv (.sl 1 [(U8 0),(U8 0),(U8 0),(U8 0),(U8 0),(U8 0),(U8 0),(U8 0)])),(.pv (.agg [(I 5),(I 100),(I 100)]))] []) (fun P75=>(zY (.pv P75)).bind fun B76=>some (.ret (.pv (Bo (!B76))),[]))) (
 some (.ret (.pv (Bo false)),[])))) (
 some (.ret (.pv (Bo false)),[])))) (
 some (.ret (.pv (Bo false)),[]))) (
 some (.ret (.pv (Bo false)),[]))) (
 some (.ret (.pv (Bo false)),[])))) (
 some (.ret (.pv (Bo false)),[]))) (
 some (.ret (.pv (Bo false)),[])))) (
 some (.ret (.pv (Bo false)),[]))) (
 some (.ret (.pv (Bo false)),[]))) (
 some (.ret (.pv (Bo false)),[]))) (
 some (.ret (.pv (Bo false)),[]))) (
 some (.ret (.pv (Bo false)),[])))) (
 some (.ret (.pv (Bo false)),[])))) (fun A32 H33=>some (.pan A32,[]))) (fun A27 H28=>some (.pan A27,[])))))) (fun A1 H2=>some (.pan A1,[])):=zg (fn:=Tryz.f33) _ _
theorem ziP (x0_0 x0_1 x0_2:Int):ev 55 [(.pv (.agg [(I x0_0),(I x0_1),(I x0_2)]))] [] =
 some (.ret (.pv (.agg [(I (if 1000<x0_0 then 1000 else x0_0)),(I (if 268435455<x0_1 then 268435455 else x0_1)),(I x0_2)])),[]):=zg (fn:=Tryz.f55) _ _
theorem ziR (x0:PV):ev 56 [.pv x0] []=(QE 152 x0).bind fun n=>some (.ret (.pv (.v (.int .i64 n))),[]):=(Qj (q:=(0,(0,152))) (by kernel_rfl) _ _).trans (by kernel_rfl)
theorem zh8 (x0:List PV) (x1_0 x1_1 x1_2:Int):ev 58 [(.pv (.sl 1 x0)),(.pv (.agg [(I x1_0),(I x1_1),(I x1_2)]))] [] =
 cp (ev 108 [(.pv (.sl 1 x0)),(.pv (.agg [(I x1_0),(I x1_1),(I x1_2)])),(.pv (.v (.func (.func 109) #[] #[])))] []) (fun P3=>tK P3 0 fun P5=>tK P3 1 fun P7=>some (.ret (.pv (.tup [P5,P7])),[])):=zg (fn:=Tryz.f58) _ _
theorem zjt (x0:List PV):ev 61 [(.pv (.sl 1 x0))] [] =
 cp (ev 64 [(.pv (.sl 1 x0))] []) (fun P3=>tK P3 0 fun P5=>tK P3 1 fun P7=>(zY (.pv P7)).bind fun B8=>cond (!B8) (
 some (.ret (.pv (.tup [(.sl 1 []),(I 9)])),[])) (
 cp (ev 113 [(.pv P5)] []) (fun P11=>some (.ret (.pv (.tup [P11,(I 0)])),[])))):=zg (fn:=Tryz.f61) _ _
noncomputable def uk:Code:=Tryz.f113.body.getD .skip
noncomputable def Xz (xs0 xs1:List PV):Option (Out×za) :=
 ya (zA env ev zN 52 113 0 (sub uk [1,0,1,1,0,0,0])) (zJ env 113 0 0) (zQ 0 (yf (zT env ev 52 113 0 (sub uk [1,0,1,1,1])) (z8 env 113 Tryz.f113.results.toList 0))) ⟨zR [(0,(.pv (.sl 1 xs0))),(3,(.slu 5 1 xs1))],[]⟩
theorem J3 (xs0 xs1:List PV):Xz xs0 xs1 =
 cond (decide ((xs0.length:Int)>0)) (
 cond (decide (0<(xs0.length:Int))) ((xs0[0]?).bind fun P1=>(P1.cells[0]?).bind fun P2=>cp (ev 115 [(.pv P2)] []) (fun P5=>cond ((decide (P5.cells.length=1)&&P5.cells.all PV.isCell)&&true) (cond (ye (xs1.length+1) 1) (cond (decide (0<(xs0.length:Int))) ((xs0[0]?).bind fun P6=>(P6.cells[0]?).bind fun P7=>cp (ev 185 [(.pv P7)] []) (fun P10=>(zX P10).bind fun L11=>cond (decide (L11.1=1)) (cond (ye ((xs1++[P5]).length+L11.2.length) 1) (cond (decide (1<=(xs0.length:Int))&&decide ((xs0.length:Int)<=(xs0.length:Int))) ((zf .u8 (.pv P5)).bind fun N12=>cond (N12==0) (
 cp (ev 186 [(.pv (.sl 1 ((xs0.take (xs0.length:Int).toNat).drop 1))),(.pv (.v (.func (.func 187) #[] #[])))] []) (fun P15=>(yq (.pv P15)).bind fun Q16=>cond (ye (((xs1++[P5])++L11.2).length+1) 1) ((yq (.pv P15)).bind fun Q17=>cond ((decide (0<=Q17.2)&&decide (Q17.2<=(((xs0.take (xs0.length:Int).toNat).drop 1).length:Int)))&&decide ((((xs0.take (xs0.length:Int).toNat).drop 1).length:Int)<=(((xs0.take (xs0.length:Int).toNat).drop 1).length:Int))) (Xz ((((xs0.take (xs0.length:Int).toNat).drop 1).take (((xs0.take (xs0.length:Int).toNat).drop 1).length:Int).toNat).drop (Q17.2).toNat) (((xs1++[P5])++L11.2)++[(U8 (IntKind.wrap .u8 Q16.2))])) none) none)) (
 (zf .u8 (.pv P5)).bind fun N13=>cond (N13==255) (
  cp (ev 186 [(.pv (.sl 1 ((xs0.take (xs0.length:Int).toNat).drop 1))),(.pv (.v (.func (.func 114) #[] #[])))] []) (fun P16=>(yq (.pv P16)).bind fun Q17=>cond (ye (((xs1++[P5])++L11.2).length+1) 1) ((yq (.pv P16)).bind fun Q18=>cond (decide (0<=Q18.2)&&decide (Q18.2<=(((xs0.take (xs0.length:Int).toNat).drop 1).length:Int))) (cp (ev 117 [(.pv (.sl 1 ((((xs0.take (xs0.length:Int).toNat).drop 1).take (Q18.2).toNat).drop 0)))] []) (fun P21=>(zX P21).bind fun L22=>cond (decide (L22.1=1)) (cond (ye ((((xs1++[P5])++L11.2)++[(U8 (IntKind.wrap .u8 Q17.2))]).length+L22.2.length) 1) ((yq (.pv P16)).bind fun Q23=>cond ((decide (0<=Q23.2)&&decide (Q23.2<=(((xs0.take (xs0.length:Int).toNat).drop 1).length:Int)))&&decide ((((xs0.take (xs0.length:Int).toNat).drop 1).length:Int)<=(((xs0.take (xs0.length:Int).toNat).drop 1).length:Int))) (Xz ((((xs0.take (xs0.length:Int).toNat).drop 1).take (((xs0.take (xs0.length:Int).toNat).drop 1).length:Int).toNat).drop (Q23.2).toNat) ((((xs1++[P5])++L11.2)++[(U8 (IntKind.wrap .u8 Q17.2))])++L22.2)) none) none) none)) none) none)) (
  Xz ((xs0.take (xs0.length:Int).toNat).drop 1) ((xs1++[P5])++L11.2)))) none) none) none)) none) none) none)) none) (
 some (.ret (.pv (.sl 1 xs1)),[])):=(yd ..).trans (by kernel_rfl)
theorem zjv (x0:List PV):ev 113 [(.pv (.sl 1 x0))] [] =
 Xz x0 []:=zg (fn:=Tryz.f113) _ _
theorem rH (x0:Bool):ev 130 [(.pv (Bo x0))] [] =
 cond (!x0) (
 some (.pan (.ifc 174 (.agg [])),[])) (
 some (.ret (.pv (.tup [])),[])):=zg (fn:=Tryz.f130) _ _
theorem zhv (x0:List PV) (x1_0 x1_1 x1_2 x1_3 x1_4 x1_5 x1_6 x1_7 x2:Int):ev 236 [(.pv (.sl 1 x0)),(.pv (.agg [(I x1_0),(I x1_1),(I x1_2),(I x1_3),(I x1_4),(I x1_5),(I x1_6),(I x1_7)])),(.pv (I x2))] [] =
 cp (ev 276 [(.pv (.sl 1 x0)),(.pv (I x1_1)),(.pv (I x1_2)),(.pv (I x2))] []) (fun P3=>tK P3 0 fun P5=>tK P3 1 fun P7=>some (.ret (.pv P5),[])):=zg (fn:=Tryz.f236) _ _
theorem zho (x0:List PV) (x1_0 x1_1 x1_2 x1_3 x1_4 x1_5 x1_6 x1_7 x2:Int):ev 239 [(.pv (.sl 1 x0)),(.pv (.agg [(I x1_0),(I x1_1),(I x1_2),(I x1_3),(I x1_4),(I x1_5),(I x1_6),(I x1_7)])),(.pv (I x2))] [] =
 cp (ev 277 [(.pv (.agg [(I x1_0),(I x1_1),(I x1_2),(I x1_3),(I x1_4),(I x1_5),(I x1_6),(I x1_7)]))] []) (fun P3=>tK P3 0 fun P5=>tK P3 1 fun P7=>(zf .i64 (.pv P7)).bind fun N8=>cond (decide (x2≥N8)) (
 some (.ret (.pv (.agg [(I 0),(I 0),(I 0),(I 0),(I 0),(I 0),(I 0),(I 0)])),[])) (
 (zf .i64 (.pv P5)).bind fun N9=>cp (ev 184 [(.pv (.sl 1 x0)),(.pv (I x1_1)),(.pv (I (IntKind.wrap .i64 (N9+x2))))] []) (fun P12=>tK P12 0 fun P14=>tK P12 1 fun P16=>vJ P14 (fun P17 P18 P19 P20 P21 P22 P23 P24=>cond (P17.isCell&&(P18.isCell&&(P19.isCell&&(P20.isCell&&(P21.isCell&&(P22.isCell&&(P23.isCell&&(P24.isCell&&true)))))))) (some (.ret (.pv (.agg [P17,P18,P19,P20,P21,P22,P23,P24])),[])) none)))):=zg (fn:=Tryz.f239) _ _
theorem zku (x0:List PV) (x1_0 x1_1 x1_2 x1_3 x1_4 x1_5:Int) (x1_6:Bool) (x1_7 x1_8 x1_9 x2 x3:Int):ev 242 [(.pv (.sl 1 x0)),(.pv (.agg [(I x1_0),(I x1_1),(I x1_2),(I x1_3),(I x1_4),(I x1_5),(Bo x1_6),(I x1_7),(PV.v (.int .u32 x1_8)),(PV.v (.int .u32 x1_9))])),(.pv (I x2)),(.pv (I x3))] [] =
 cond (x1_4==7) (
 cp (ev 283 [(.pv (.sl 1 x0)),(.pv (.agg [(I x1_0),(I x1_1),(I x1_2),(I x1_3),(I x1_4),(I x1_5),(Bo x1_6),(I x1_7),(PV.v (.int .u32 x1_8)),(PV.v (.int .u32 x1_9))])),(.pv (I x2)),(.pv (I x3))] []) (fun P3=>tK P3 0 fun P5=>tK P3 1 fun P7=>vJ P5 (fun P8 P9 P10 P11 P12 P13 P14 P15=>some (.ret (.pv (.tup [(.agg [P8,P9,P10,P11,P12,P13,P14,P15]),P7])),[])))) (
 zh (ev 221 [(.pv (I x1_4)),(.pv (I x1_5))] []) (fun A1 H2=>(zb A1).bind fun P3=>cond (P3.isCell&&true) (cond ((P3.isCell&&true)&&true) (cond (P3.isCell&&true) (cp (ev 282 [(.pv (.sl 1 x0)),(.pv (.agg [(I 2),(I x2),(I x3),(I 0),(I 0),(I x1_4),(I x1_5),P3])),(.pv (I x3)),(.pv P3)] []) (fun P6=>tK P6 0 fun P8=>tK P6 1 fun P10=>vJ P8 (fun P11 P12 P13 P14 P15 P16 P17 P18=>some (.ret (.pv (.tup [(.agg [P11,P12,P13,P14,P15,P16,P17,P18]),P10])),[])))) none) none) none) (fun A1 H2=>none)):=zg (fn:=Tryz.f242) _ _
noncomputable def KB:Code:=Tryz.f249.body.getD .skip
noncomputable def Zu (i0:Int) (p1:PV) (i2:Int) (b3 b4:Bool) (p5:PV) (i6:Int) (p7 p8 p9 p10 p11 p12:PV) (i13 i14 i15 i16 i17 i18:Int) (b19:Bool) (i20 i21 i22:Int) (p23 p24 p25 p26 p27 p28 p29 p30 p31 p32:PV):Option (Out×za) :=
 ya (zA env ev zN 137 249 0 (sub KB (o1 8 [0,1,0,0]))) (zJ env 249 0 3) (zQ 0 (yf (zT env ev 137 249 0 (sub KB (o1 8 [1]))) (z8 env 249 Tryz.f249.results.toList 1))) ⟨zR [(0,(.ptr 0 0)),(2,(.pv (I i0))),(8,(.pv p1)),(9,(.ptr 2 0)),(10,(.pv (I i2))),(11,(.pv (Bo b3))),(12,(.pv (Bo b4))),(72,(.pv p5)),(73,(.pv (I i6)))],[[(.pv p7),(.pv p8),(.pv p9),(.pv p10),(.pv p11),(.pv p12)],[(.pv (I i13)),(.pv (I i14)),(.pv (I i15)),(.pv (I i16)),(.pv (I i17)),(.pv (I i18)),(.pv (Bo b19)),(.pv (I i20)),(.pv (PV.v (.int .u32 i21))),(.pv (PV.v (.int .u32 i22)))],[(.pv p23),(.pv p24),(.pv p25),(.pv p26),(.pv p27),(.pv p28),(.pv p29),(.pv p30),(.pv p31),(.pv p32)]]⟩
noncomputable def Y8 (i0:Int) (p1:PV) (i2:Int) (p3:PV) (i4:Int) (p5 p6 p7 p8 p9 p10:PV) (i11 i12 i13 i14 i15 i16:Int) (b17:Bool) (i18 i19 i20:Int) (p21 p22 p23 p24 p25 p26 p27 p28 p29 p30:PV):Option (Out×za) :=
 ya (zA env ev zN 137 249 2 (sub KB (o1 11 [0,0]))) (zJ env 249 2 3) (zQ 2 (z8 env 249 Tryz.f249.results.toList 1)) ⟨zR [(0,(.ptr 0 0)),(2,(.pv (I i0))),(8,(.pv p1)),(9,(.ptr 2 0)),(10,(.pv (I i2))),(118,(.pv p3)),(119,(.pv (I i4)))],[[(.pv p5),(.pv p6),(.pv p7),(.pv p8),(.pv p9),(.pv p10)],[(.pv (I i11)),(.pv (I i12)),(.pv (I i13)),(.pv (I i14)),(.pv (I i15)),(.pv (I i16)),(.pv (Bo b17)),(.pv (I i18)),(.pv (PV.v (.int .u32 i19))),(.pv (PV.v (.int .u32 i20)))],[(.pv p21),(.pv p22),(.pv p23),(.pv p24),(.pv p25),(.pv p26),(.pv p27),(.pv p28),(.pv p29),(.pv p30)]]⟩
theorem rD (i0:Int) (p1:PV) (i2:Int) (b3 b4:Bool) (p5:PV) (i6:Int) (p7 p8 p9 p10 p11 p12:PV) (i13 i14 i15 i16 i17 i18:Int) (b19:Bool) (i20 i21 i22:Int) (p23 p24 p25 p26 p27 p28 p29 p30 p31 p32:PV):Zu i0 p1 i2 b3 b4 p5 i6 p7 p8 p9 p10 p11 p12 i13 i14 i15 i16 i17 i18 b19 i20 i21 i22 p23 p24 p25 p26 p27 p28 p29 p30 p31 p32 =
 (zf .i64 (.pv p5)).bind fun N1=>cond (decide (i6<N1)) (
 (zf .i64 (.pv p1)).bind fun N2=>cond b3 (
 cond b4 (
 Zu i0 p1 i2 true true p5 (IntKind.wrap .i64 (i6+1)) p7 p8 p9 p10 p11 p12 i13 i14 i15 i16 i17 i18 b19 i20 i21 i22 p23 p24 p25 p26 p27 p28 p29 p30 p31 p32) (
 (zX p7).bind fun L3=>cond ((decide (L3.1=1)&&decide (0<=(IntKind.wrap .i64 ((IntKind.wrap .i64 ((IntKind.wrap .i64 ((IntKind.wrap .i64 (N2+1))+(IntKind.wrap .i64 (i6*i2))))+i2))-1))))&&decide ((IntKind.wrap .i64 ((IntKind.wrap .i64 ((IntKind.wrap .i64 ((IntKind.wrap .i64 (N2+1))+(IntKind.wrap .i64 (i6*i2))))+i2))-1))<(L3.2.length:Int))) ((L3.2[(IntKind.wrap .i64 ((IntKind.wrap .i64 ((IntKind.wrap .i64 ((IntKind.wrap .i64 (N2+1))+(IntKind.wrap .i64 (i6*i2))))+i2))-1)).toNat]?).bind fun P4=>(P4.cells[0]?).bind fun P5=>(zf .u64 (.pv P5)).bind fun N6=>Zu i0 p1 i2 true (N6 != 0) p5 (IntKind.wrap .i64 (i6+1)) p7 p8 p9 p10 p11 p12 i13 i14 i15 i16 i17 i18 b19 i20 i21 i22 p23 p24 p25 p26 p27 p28 p29 p30 p31 p32) none)) (
 (zf .i64 (.pv p25)).bind fun N3=>(zX p7).bind fun L4=>cond ((decide (L4.1=1)&&decide (0<=(IntKind.wrap .i64 ((IntKind.wrap .i64 ((IntKind.wrap .i64 ((IntKind.wrap .i64 (N2+1))+(IntKind.wrap .i64 (i6*i2))))+N3))-1))))&&decide ((IntKind.wrap .i64 ((IntKind.wrap .i64 ((IntKind.wrap .i64 ((IntKind.wrap .i64 (N2+1))+(IntKind.wrap .i64 (i6*i2))))+N3))-1))<(L4.2.length:Int))) ((L4.2[(IntKind.wrap .i64 ((IntKind.wrap .i64 ((IntKind.wrap .i64 ((IntKind.wrap .i64 (N2+1))+(IntKind.wrap .i64 (i6*i2))))+N3))-1)).toNat]?).bind fun P5=>(P5.cells[0]?).bind fun P6=>(zf .u64 (.pv P6)).bind fun N7=>cond b4 (
  Zu i0 p1 i2 (N7 != 0) true p5 (IntKind.wrap .i64 (i6+1)) p7 p8 p9 p10 p11 p12 i13 i14 i15 i16 i17 i18 b19 i20 i21 i22 p23 p24 p25 p26 p27 p28 p29 p30 p31 p32) (
  (zX p7).bind fun L8=>cond ((decide (L8.1=1)&&decide (0<=(IntKind.wrap .i64 ((IntKind.wrap .i64 ((IntKind.wrap .i64 ((IntKind.wrap .i64 (N2+1))+(IntKind.wrap .i64 (i6*i2))))+i2))-1))))&&decide ((IntKind.wrap .i64 ((IntKind.wrap .i64 ((IntKind.wrap .i64 ((IntKind.wrap .i64 (N2+1))+(IntKind.wrap .i64 (i6*i2))))+i2))-1))<(L8.2.length:Int))) ((L8.2[(IntKind.wrap .i64 ((IntKind.wrap .i64 ((IntKind.wrap .i64 ((IntKind.wrap .i64 (N2+1))+(IntKind.wrap .i64 (i6*i2))))+i2))-1)).toNat]?).bind fun P9=>(P9.cells[0]?).bind fun P10=>(zf .u64 (.pv P10)).bind fun N11=>Zu i0 p1 i2 (N7 != 0) (N11 != 0) p5 (IntKind.wrap .i64 (i6+1)) p7 p8 p9 p10 p11 p12 i13 i14 i15 i16 i17 i18 b19 i20 i21 i22 p23 p24 p25 p26 p27 p28 p29 p30 p31 p32) none)) none)) (
 cond b3 (
  zh (ev 130 [(.pv (Bo b4))] []) (fun A2 H3=>(zb A2).bind fun P4=>Y8 i0 p1 i2 p24 0 p7 p8 p9 p10 p11 p12 i13 i14 i15 i16 i17 i18 b19 i20 i21 i22 p23 p24 p25 p26 p27 p28 p29 p30 p31 p32) (fun A2 H3=>some (.pan A2,[[(.pv p7),(.pv p8),(.pv p9),(.pv p10),(.pv p11),(.pv p12)]]))) (
  zh (ev 130 [(.pv (Bo false))] []) (fun A2 H3=>(zb A2).bind fun P4=>Y8 i0 p1 i2 p24 0 p7 p8 p9 p10 p11 p12 i13 i14 i15 i16 i17 i18 b19 i20 i21 i22 p23 p24 p25 p26 p27 p28 p29 p30 p31 p32) (fun A2 H3=>some (.pan A2,[[(.pv p7),(.pv p8),(.pv p9),(.pv p10),(.pv p11),(.pv p12)]])))):=(yd ..).trans (by kernel_rfl)
theorem rE (i0:Int) (p1:PV) (i2:Int) (p3:PV) (i4:Int) (p5 p6 p7 p8 p9 p10:PV) (i11 i12 i13 i14 i15 i16:Int) (b17:Bool) (i18 i19 i20:Int) (p21 p22 p23 p24 p25 p26 p27 p28 p29 p30:PV):Y8 i0 p1 i2 p3 i4 p5 p6 p7 p8 p9 p10 i11 i12 i13 i14 i15 i16 b17 i18 i19 i20 p21 p22 p23 p24 p25 p26 p27 p28 p29 p30 =
 (zf .i64 (.pv p3)).bind fun N1=>cond (decide (i4<N1)) (
 (zf .i64 (.pv p1)).bind fun N2=>(zf .i64 (.pv p23)).bind fun N3=>xj (ev 248 [(.ptr 0 0),(.pv (I (IntKind.wrap .i64 ((IntKind.wrap .i64 ((IntKind.wrap .i64 (N2+1))+(IntKind.wrap .i64 (i4*i2))))+N3)))),(.pv p24),(.pv (I i0))] [[(.pv p5),(.pv p6),(.pv p7),(.pv p8),(.pv p9),(.pv p10)]]) (fun P19 P8 P10 P12 P14 P16 P18=>Y8 i0 p1 i2 p3 (IntKind.wrap .i64 (i4+1)) P8 P10 P12 P14 P16 P18 i11 i12 i13 i14 i15 i16 b17 i18 i19 i20 p21 p22 p23 p24 p25 p26 p27 p28 p29 p30)) (
 some (.ret (.pv (.tup [])),[[(.pv p5),(.pv p6),(.pv p7),(.pv p8),(.pv p9),(.pv p10)]])):=(yd ..).trans (by kernel_rfl)
theorem zf6 (x0__0:List PV) (x0__1 x0__2_0 x0__2_1 x0__2_2 x0__3_0 x1 x2 x3_0 x3_1 x3_2 x3_3 x3_4 x3_5:Int) (x3_6:Bool) (x3_7 x3_8 x3_9:Int):ev 249 [(.ptr 0 0),(.pv (I x1)),(.pv (I x2)),(.pv (.agg [(I x3_0),(I x3_1),(I x3_2),(I x3_3),(I x3_4),(I x3_5),(Bo x3_6),(I x3_7),(PV.v (.int .u32 x3_8)),(PV.v (.int .u32 x3_9))]))] [[(.pv (.sl 1 x0__0)),(.pv (I x0__1)),(.pv (I x0__2_0)),(.pv (I x0__2_1)),(.pv (I x0__2_2)),(.pv (I x0__3_0))]] =
 xj (ev 246 [(.ptr 0 0),(.pv (I x1)),(.pv (.agg [(I x3_0),(I x3_1),(I x3_2),(I x3_3),(I x3_4),(I x3_5),(Bo x3_6),(I x3_7),(PV.v (.int .u32 x3_8)),(PV.v (.int .u32 x3_9))])),(.pv (I (IntKind.wrap .i64 (x3_5+1))))] [[(.pv (.sl 1 x0__0)),(.pv (I x0__1)),(.pv (I x0__2_0)),(.pv (I x0__2_1)),(.pv (I x0__2_2)),(.pv (I x0__3_0))]]) (fun P16 P5 P7 P9 P11 P13 P15=>(yq (.pv P16)).bind fun Q17=>(zX P5).bind fun L18=>cond ((decide (L18.1=1)&&decide (0<=Q17.2))&&decide (Q17.2<(L18.2.length:Int))) ((L18.2[(Q17.2).toNat]?).bind fun P19=>(P19.cells[0]?).bind fun P20=>zh (ev 192 [(.pv P20)] []) (fun A21 H22=>(zb A21).bind fun P23=>wv P23 (fun P24 P25 P26 P27 P28 P29 P30 P31 P32 P33=>(zf .i64 (.pv P26)).bind fun N34=>(zf .i64 (.pv P27)).bind fun N35=>(zf .i64 (.pv P24)).bind fun N36=>cond (N36==0) (
 (zf .i64 (.pv P25)).bind fun N37=>cond (decide (N37≥0)) (
 (zf .i64 (.pv P25)).bind fun N38=>zh (ev 130 [(.pv (Bo ((IntKind.wrap .i64 (N38*(IntKind.wrap .i64 (N34+N35))))==x3_5)))] []) (fun A39 H40=>(zb A39).bind fun P41=>xj (ev 247 [(.ptr 0 0),(.pv (I (IntKind.wrap .i64 (x3_5+1))))] [[(.pv P5),(.pv P7),(.pv P9),(.pv P11),(.pv P13),(.pv P15)]]) (fun P57 P46 P48 P50 P52 P54 P56=>cond ((IntKind.wrap .i64 (N34+N35))==0) (
 xj (ev 247 [(.ptr 0 0),(.pv P25)] [[(.pv P46),(.pv P48),(.pv P50),(.pv P52),(.pv P54),(.pv P56)]]) (fun P73 P62 P64 P66 P68 P70 P72=>some (.ret (.pv (.tup [])),[[(.pv P62),(.pv P64),(.pv P66),(.pv P68),(.pv P70),(.pv P72)]]))) (
 (zf .i64 (.pv P26)).bind fun N58=>(zf .i64 (.pv P27)).bind fun N59=>Zu x2 P16 (IntKind.wrap .i64 (N34+N35)) (N58==0) (N59==0) P25 0 P46 P48 P50 P52 P54 P56 x3_0 x3_1 x3_2 x3_3 x3_4 x3_5 x3_6 x3_7 x3_8 x3_9 P24 P25 P26 P27 P28 P29 P30 P31 P32 P33))) (fun A39 H40=>some (.pan A39,[[(.pv P5),(.pv P7),(.pv P9),(.pv P11),(.pv P13),(.pv P15)]]))) (
 zh (ev 130 [(.pv (Bo false))] []) (fun A38 H39=>(zb A38).bind fun P40=>xj (ev 247 [(.ptr 0 0),(.pv (I (IntKind.wrap .i64 (x3_5+1))))] [[(.pv P5),(.pv P7),(.pv P9),(.pv P11),(.pv P13),(.pv P15)]]) (fun P56 P45 P47 P49 P51 P53 P55=>cond ((IntKind.wrap .i64 (N34+N35))==0) (
  xj (ev 247 [(.ptr 0 0),(.pv P25)] [[(.pv P45),(.pv P47),(.pv P49),(.pv P51),(.pv P53),(.pv P55)]]) (fun P72 P61 P63 P65 P67 P69 P71=>some (.ret (.pv (.tup [])),[[(.pv P61),(.pv P63),(.pv P65),(.pv P67),(.pv P69),(.pv P71)]]))) (
  (zf .i64 (.pv P26)).bind fun N57=>(zf .i64 (.pv P27)).bind fun N58=>Zu x2 P16 (IntKind.wrap .i64 (N34+N35)) (N57==0) (N58==0) P25 0 P45 P47 P49 P51 P53 P55 x3_0 x3_1 x3_2 x3_3 x3_4 x3_5 x3_6 x3_7 x3_8 x3_9 P24 P25 P26 P27 P28 P29 P30 P31 P32 P33))) (fun A38 H39=>some (.pan A38,[[(.pv P5),(.pv P7),(.pv P9),(.pv P11),(.pv P13),(.pv P15)]])))) (
 zh (ev 130 [(.pv (Bo false))] []) (fun A37 H38=>(zb A37).bind fun P39=>xj (ev 247 [(.ptr 0 0),(.pv (I (IntKind.wrap .i64 (x3_5+1))))] [[(.pv P5),(.pv P7),(.pv P9),(.pv P11),(.pv P13),(.pv P15)]]) (fun P55 P44 P46 P48 P50 P52 P54=>cond ((IntKind.wrap .i64 (N34+N35))==0) (
  xj (ev 247 [(.ptr 0 0),(.pv P25)] [[(.pv P44),(.pv P46),(.pv P48),(.pv P50),(.pv P52),(.pv P54)]]) (fun P71 P60 P62 P64 P66 P68 P70=>some (.ret (.pv (.tup [])),[[(.pv P60),(.pv P62),(.pv P64),(.pv P66),(.pv P68),(.pv P70)]]))) (
  (zf .i64 (.pv P26)).bind fun N56=>(zf .i64 (.pv P27)).bind fun N57=>Zu x2 P16 (IntKind.wrap .i64 (N34+N35)) (N56==0) (N57==0) P25 0 P44 P46 P48 P50 P52 P54 x3_0 x3_1 x3_2 x3_3 x3_4 x3_5 x3_6 x3_7 x3_8 x3_9 P24 P25 P26 P27 P28 P29 P30 P31 P32 P33))) (fun A37 H38=>some (.pan A37,[[(.pv P5),(.pv P7),(.pv P9),(.pv P11),(.pv P13),(.pv P15)]]))))) (fun A21 H22=>some (.pan A21,[[(.pv P5),(.pv P7),(.pv P9),(.pv P11),(.pv P13),(.pv P15)]]))) none):=zg (fn:=Tryz.f249) _ _
theorem zhF (x0:Int):ev 279 [(.pv (U x0))] [] =
 cp (ev 192 [(.pv (U x0))] []) (fun P3=>(YE (.pv P3)).bind fun cs_4=>(cs_4[0]?).bind fun P5=>(zf .i64 (.pv P5)).bind fun N6=>some (.ret (.pv (Bo (N6==2))),[])):=zg (fn:=Tryz.f279) _ _
theorem zhH (x0:List PV) (x1:Int):ev 281 [(.pv (.sl 1 x0)),(.pv (U x1))] [] =
 cp (ev 297 [(.pv (U x1))] []) (fun P3=>tK P3 0 fun P5=>tK P3 1 fun P7=>cp (ev 276 [(.pv (.sl 1 x0)),(.pv P5),(.pv P7),(.pv (I 2))] []) (fun P10=>tK P10 0 fun P12=>tK P10 1 fun P14=>(zY (.pv P14)).bind fun B15=>cond (!B15) (
 some (.ret (.pv (.tup [(.agg [(U 0),(I 0),(I 0)]),(I 2)])),[])) (
 (zX P12).bind fun L16=>cond ((decide (L16.1=1)&&true)&&decide (0<(L16.2.length:Int))) ((L16.2[0]?).bind fun P17=>(P17.cells[0]?).bind fun P18=>zh (ev 192 [(.pv P18)] []) (fun A19 H20=>(zb A19).bind fun P21=>(zX P12).bind fun L22=>cond ((decide (L22.1=1)&&true)&&decide (1<(L22.2.length:Int))) ((L22.2[1]?).bind fun P23=>(P23.cells[0]?).bind fun P24=>zh (ev 192 [(.pv P24)] []) (fun A25 H26=>(zb A25).bind fun P27=>wv P21 (fun P28 P29 P30 P31 P32 P33 P34 P35 P36 P37=>wv P27 (fun P38 P39 P40 P41 P42 P43 P44 P45 P46 P47=>(zf .i64 (.pv P28)).bind fun N48=>cond (N48 != 2) (
  some (.ret (.pv (.tup [(.agg [(U 0),(I 0),(I 0)]),(I 3)])),[])) (
  (zY (.pv P34)).bind fun B49=>cond B49 (
   some (.ret (.pv (.tup [(.agg [(U 0),(I 0),(I 0)]),(I 3)])),[])) (
   (zf .i64 (.pv P38)).bind fun N50=>cond (decide (N50>1)) (
    some (.ret (.pv (.tup [(.agg [(U 0),(I 0),(I 0)]),(I 3)])),[])) (
    (zf .i64 (.pv P39)).bind fun N51=>cond (N51 != 0) (
     some (.ret (.pv (.tup [(.agg [(U 0),(I 0),(I 0)]),(I 3)])),[])) (
     (zX P12).bind fun L52=>cond ((decide (L52.1=1)&&true)&&decide (1<(L52.2.length:Int))) ((L52.2[1]?).bind fun P53=>(P53.cells[0]?).bind fun P54=>(yq (.pv P36)).bind fun Q55=>cond (P54.isCell&&true) (cond (P35.isCell&&true) (cond ((P54.isCell&&true)&&((P35.isCell&&true)&&true)) (cond (P54.isCell&&(P35.isCell&&true)) (some (.ret (.pv (.tup [(.agg [P54,(I (IntKind.wrap .i64 Q55.2)),P35]),(I 0)])),[])) none) none) none) none) none))))))) (fun A25 H26=>none)) none) (fun A19 H20=>none)) none))):=zg (fn:=Tryz.f281) _ _
theorem zmo (x0 x1 x2 x3:Int):ev 291 [(.pv (U x0)),(.pv (I x1)),(.pv (I x2)),(.pv (U x3))] [] =
 cp (ev 285 [(.pv (I x2))] []) (fun P3=>(zf .u64 (.pv P3)).bind fun N4=>cond (yN .shl (IntKind.wrap .u64 x1)) (cond (yN .shl (IntKind.wrap .u64 x1)) (some (.ret (.pv (U (IntKind.wrap .u64 (BitVec.ofInt 64 (IntKind.wrap .u64 (BitVec.ofInt 64 x0 &&& ~~~BitVec.ofInt 64 (IntKind.wrap .u64 (N4*2^(min (IntKind.wrap .u64 x1).toNat 64)))).toNat) ||| BitVec.ofInt 64 (IntKind.wrap .u64 (BitVec.ofInt 64 (IntKind.wrap .u64 (x3*2^(min (IntKind.wrap .u64 x1).toNat 64))) &&& BitVec.ofInt 64 (IntKind.wrap .u64 (N4*2^(min (IntKind.wrap .u64 x1).toNat 64)))).toNat)).toNat))),[])) none) none):=zg (fn:=Tryz.f291) _ _
theorem zg5 (x0__0:List PV) (x0__1_0 x0__1_1 x0__1_2 x0__2_0 x1_0 x1_1 x1_2 x1_3 x1_4 x1_5 x1_6 x1_7 x2 x3:Int):ev 295 [(.ptr 0 0),(.pv (.agg [(I x1_0),(I x1_1),(I x1_2),(I x1_3),(I x1_4),(I x1_5),(I x1_6),(I x1_7)])),(.pv (I x2)),(.pv (I x3))] [[(.pv (.sl 1 x0__0)),(.pv (I x0__1_0)),(.pv (I x0__1_1)),(.pv (I x0__1_2)),(.pv (I x0__2_0))]] =
 zh (ev 276 [(.pv (.sl 1 x0__0)),(.pv (I x1_1)),(.pv (I x2)),(.pv (I x3))] []) (fun A1 H2=>(zb A1).bind fun P3=>tK P3 0 fun P5=>tK P3 1 fun P7=>zh (ev 117 [(.pv P5)] []) (fun A8 H9=>(zb A8).bind fun P10=>some (.ret (.pv P10),[[(.pv (.sl 1 x0__0)),(.pv (I x0__1_0)),(.pv (I x0__1_1)),(.pv (I x0__1_2)),(.pv (I x0__2_0))]])) (fun A8 H9=>some (.pan A8,[[(.pv (.sl 1 x0__0)),(.pv (I x0__1_0)),(.pv (I x0__1_1)),(.pv (I x0__1_2)),(.pv (I x0__2_0))]]))) (fun A1 H2=>some (.pan A1,[[(.pv (.sl 1 x0__0)),(.pv (I x0__1_0)),(.pv (I x0__1_1)),(.pv (I x0__1_2)),(.pv (I x0__2_0))]])):=zg (fn:=Tryz.f295) _ _
theorem zjW (x0:Int):ev 344 [(.pv (U x0))] [] =
 cp (ev 245 [(.pv (U x0)),(.pv (I 2)),(.pv (I 1))] []) (fun P3=>(zf .u64 (.pv P3)).bind fun N4=>cp (ev 245 [(.pv (U x0)),(.pv (I 3)),(.pv (I 29))] []) (fun P7=>(yq (.pv P7)).bind fun Q8=>cp (ev 245 [(.pv (U x0)),(.pv (I 32)),(.pv (I 32))] []) (fun P11=>(yq (.pv P11)).bind fun Q12=>some (.ret (.pv (.agg [(I 0),(I 0),(I 0),(I 0),(I 0),(I 0),(Bo (N4==1)),(I (IntKind.wrap .i64 Q8.2)),(PV.v (.int .u32 (IntKind.wrap .u32 Q12.2))),(PV.v (.int .u32 0))])),[])))):=zg (fn:=Tryz.f344) _ _
end Go.Proofs.YtjbjeeoifhegfaaGreatDoor.E
