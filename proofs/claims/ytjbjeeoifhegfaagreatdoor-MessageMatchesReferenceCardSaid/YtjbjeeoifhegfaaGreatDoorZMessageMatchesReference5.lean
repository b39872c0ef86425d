/- A part of the proof of the law MessageMatchesReference, as its statement says it: for every input; its conditions are the statement's own. -/
import Derived.KernelRfl
import Derived.Test.YtjbjeeoifhegfaaGreatDoorZMessageMatchesReference1
import Derived.Test.YtjbjeeoifhegfaaGreatDoorZMessageMatchesReference2
import Derived.Test.YtjbjeeoifhegfaaGreatDoorZMessageMatchesReference3
set_option linter.unusedVariables false
set_option linter.unusedSimpArgs false
namespace Go.Proofs.YtjbjeeoifhegfaaGreatDoor.E
theorem zmd (x0 x1:List PV) (x2_0 x2_1 x2_2:Int):ev 18 [(.pv (.sl 1 x0)),(.pv (.sl 1 x1)),(.pv (.agg [(I x2_0),(I x2_1),(I x2_2)]))] [] =
 cp (ev 55 [(.pv (.agg [(I x2_0),(I x2_1),(I x2_2)]))] []) (fun P3=>QF P3 (fun P4 P5 P6=>cp (ev 59 [(.pv (.sl 1 x0)),(.pv (.agg [P4,P5,P6]))] []) (fun P9=>tK P9 0 fun P11=>tK P9 1 fun P13=>(xn (.pv P13)).bind fun Z14=>cond (!Z14) (
 cp (ev 56 [(.pv P13)] []) (fun P17=>some (.ret (.pv (.tup [(Bo false),P17])),[]))) (
 cp (ev 59 [(.pv (.sl 1 x1)),(.pv (.agg [P4,P5,P6]))] []) (fun P17=>tK P17 0 fun P19=>tK P17 1 fun P21=>(xn (.pv P21)).bind fun Z22=>cond (!Z22) (
  cp (ev 56 [(.pv P21)] []) (fun P25=>some (.ret (.pv (.tup [(Bo false),P25])),[]))) (
  cp (ev 60 [(.pv P11),(.pv P19),(.pv (.agg [P4,P5,P6]))] []) (fun P25=>tK P25 0 fun P27=>tK P25 1 fun P29=>some (.ret (.pv (.tup [P27,P29])),[])))))))):=zi (fn:=Tryz.f18) _ _
theorem ziS:ev 33 [] [] =
 zq (ev 16 [(.pv (.sl 1 [(U8 0),(U8 0),(U8 0),(U8 0),(U8 0),(U8 0),(U8 0),(U8 0)])),(.pv (.agg [(I 5),(I 100),(I 100)]))] []) (fun A1 H2=>(Zq 0 2 A1).bind fun Q3=>(yx 5 1 Q3.1).bind fun X4=>(Q3.2[1]?).bind fun P5=>cp (ev 18 [(.pv (.sl 1 [(U8 0),(U8 0),(U8 0),(U8 0),(U8 0),(U8 0),(U8 0),(U8 0)])),(.pv (.sl 1 [(U8 0),(U8 0),(U8 0),(U8 0),(U8 1),(U8 0),(U8 0),(U8 0),(U8 0),(U8 0),(U8 0),(U8 0),(U8 0),(U8 0),(U8 0),(U8 0)])),(.pv (.agg [(I 5),(I 100),(I 100)]))] []) (fun P8=>tK P8 0 fun P10=>tK P8 1 fun P12=>cp (ev 18 [(.pv (.sl 1 [(U8 0),(U8 0),(U8 0),(U8 0),(U8 0),(U8 0),(U8 0),(U8 0)])),(.pv (.sl 1 [])),(.pv (.agg [(I 5),(I 100),(I 100)]))] []) (fun P15=>tK P15 0 fun P17=>tK P15 1 fun P19=>cp (ev 19 [(.pv (.sl 1 [(U8 0),(U8 0),(U8 0),(U8 0),(U8 1),(U8 0),(U8 0),(U8 0),(U8 0),(U8 0),(U8 0),(U8 0),(U8 0),(U8 0),(U8 0),(U8 0)]))] []) (fun P22=>tK P22 0 fun P24=>tK P22 1 fun P26=>cp (ev 20 [(.pv P24),(.pv (.agg [(I 5),(I 100),(I 100)]))] []) (fun P29=>tK P29 0 fun P31=>tK P29 1 fun P33=>cp (ev 20 [(.pv P24),(.pv (.agg [(I 0),(I 0),(I 15)]))] []) (fun P36=>tK P36 0 fun P38=>tK P36 1 fun P40=>cp (ev 17 [(.pv (.sl 1 [(U8 0),(U8 0),(U8 0),(U8 0),(U8 0),(U8 0),(U8 0),(U8 0)])),(.pv (.agg [(I 5),(I 100),(I 100)]))] []) (fun P43=>tK P43 0 fun P45=>tK P43 1 fun P47=>(za .i64 (.pv P5)).bind fun N48=>cond (N48==0) (
 cp (ev 27 [(.pv (.sl 1 X4)),(.pv (.sl 1 [(U8 0),(U8 0),(U8 0),(U8 0),(U8 1),(U8 0),(U8 0),(U8 0),(U8 0),(U8 0),(U8 0),(U8 0),(U8 0),(U8 0),(U8 0),(U8 0)]))] []) (fun P51=>(z7 (.pv P51)).bind fun B52=>cond B52 (
 (z7 (.pv P10)).bind fun B53=>cond B53 (
 (za .i64 (.pv P12)).bind fun N54=>cond (N54==0) (
 (za .i64 (.pv P19)).bind fun N55=>cond (N55==1) (
 (za .i64 (.pv P26)).bind fun N56=>cond (N56==0) (
 cp (ev 27 [(.pv P24),(.pv (.sl 1 [(U8 16),(U8 1),(U8 0),(U8 0)]))] []) (fun P59=>(z7 (.pv P59)).bind fun B60=>cond B60 (
 (za .i64 (.pv P33)).bind fun N61=>cond (N61==0) (
 cp (ev 27 [(.pv P31),(.pv (.sl 1 [(U8 0),(U8 0),(U8 0),(U8 0),(U8 1),(U8 0),(U8 0),(U8 0),(U8 0),(U8 0),(U8 0),(U8 0),(U8 0),(U8 0),(U8 0),(U8 0)]))] []) (fun P64=>(z7 (.pv P64)).bind fun B65=>cond B65 (
 (za .i64 (.pv P40)).bind fun N66=>cond (N66==11) (
 (za .i64 (.pv P47)).bind fun N67=>cond (N67==0) (
 cp (ev 42 [(.pv (.sl 1 [(U8 0),(U8 0),(U8 0),(U8 0),(U8 0),(U8 0),(U8 0),(U8 0)]))] []) (fun P70=>(za .u64 (.pv P45)).bind fun N71=>(za .u64 (.pv P70)).bind fun N72=>cond (N71==N72) (
 cp (ev 35 [(.pv (.sl 1 [(U8 0),(U8 0),(U8 0),(U8 0),(U8 1),(U8 0),(U8 0),(U8 0),(U8 0),(U8 0),(U8 0),(U8 0),(U8 0),(U8 0),(U8 0),(U8 0)])),(.pv (.agg [(I 5),(I 100),(I 100)]))] []) (fun P75=>(z7 (.pv P75)).bind fun B76=>cond B76 (
 cp (ev 35 [(.pv (.sl 1 [(U8 0),(U8 0),(U8 0),(U8 0),(U8 0),(U8 0),(U8 0),(U8 0)])),(.pv (.agg [(I 5),(I 100),(I 100)]))] []) (fun P79=>(z7 (.pv P79)).bind fun B80=>some (.ret (.pv (Bo (!B80))),[]))) (
 some (.ret (.pv (Bo false)),[])))) (
 some (.ret (.pv (Bo false)),[])))) (
 some (.ret (.pv (Bo false)),[]))) (
 some (.ret (.pv (Bo false)),[]))) (
 some (.ret (.pv (Bo false)),[])))) (
 some (.ret (.pv (Bo false)),[]))) (
 some (.ret (.pv (Bo false)),[])))) (
 some (.ret (.pv (Bo false)),[]))) (
 some (.ret (.pv (Bo false)),[]))) (
 some (.ret (.pv (Bo false)),[]))) (
 some (.ret (.pv (Bo false)),[]))) (
 some (.ret (.pv (Bo false)),[])))) (
 some (.ret (.pv (Bo false)),[]))))))))) (fun A1 H2=>some (.pan A1,[])):=zi (fn:=Tryz.f33) _ _
theorem qD (x0:List PV) (x1_0 x1_1 x1_2:Int):ev 53 [(.pv (.sl 1 x0)),(.pv (.agg [(I x1_0),(I x1_1),(I x1_2)]))] [] =
 cond (decide (x1_0<=40)) (
 cond (decide (x1_1<=2000)) (
 cp (ev 102 [(.pv (.sl 1 x0))] []) (fun P3=>(z7 (.pv P3)).bind fun B4=>some (.ret (.pv (Bo B4)),[]))) (
 some (.ret (.pv (Bo false)),[]))) (
 some (.ret (.pv (Bo false)),[])):=zi (fn:=Tryz.f53) _ _
theorem zmk (x0:List PV):ev 57 [(.pv (.sl 1 x0))] [] =
 cp (ev 107 [(.pv (.sl 1 x0))] []) (fun P3=>tK P3 0 fun P5=>tK P3 1 fun P7=>cp (ev 104 [(.pv P7)] []) (fun P10=>some (.ret (.pv (.tup [P5,P10])),[]))):=zi (fn:=Tryz.f57) _ _
theorem zlx (x0:List PV) (x1_0 x1_1 x1_2:Int):ev 58 [(.pv (.sl 1 x0)),(.pv (.agg [(I x1_0),(I x1_1),(I x1_2)]))] [] =
 cp (ev 108 [(.pv (.sl 1 x0)),(.pv (.agg [(I x1_0),(I x1_1),(I x1_2)])),(.pv (.v (.func (.func 109) #[] #[])))] []) (fun P3=>tK P3 0 fun P5=>tK P3 1 fun P7=>some (.ret (.pv (.tup [P5,P7])),[])):=zi (fn:=Tryz.f58) _ _
theorem zmV (x0:List PV):ev 61 [(.pv (.sl 1 x0))] [] =
 cp (ev 64 [(.pv (.sl 1 x0))] []) (fun P3=>tK P3 0 fun P5=>tK P3 1 fun P7=>(z7 (.pv P7)).bind fun B8=>cond (!B8) (
 some (.ret (.pv (.tup [(.sl 1 []),(I 9)])),[])) (
 cp (ev 113 [(.pv P5)] []) (fun P11=>some (.ret (.pv (.tup [P11,(I 0)])),[])))):=zi (fn:=Tryz.f61) _ _
theorem zjx (x0:List PV) (x1_0 x1_1 x1_2:Int):ev 77 [(.pv (.sl 1 x0)),(.pv (.agg [(I x1_0),(I x1_1),(I x1_2)]))] [] =
 cond ((x0.length:Int)==0) (
 some (.ret (.pv (Bo false)),[])) (
 cp (ev 81 [(.pv (.sl 1 [(.sl 1 x0)])),(.pv (.agg [(I x1_0),(I x1_1),(I x1_2)]))] []) (fun P3=>tK P3 0 fun P5=>tK P3 1 fun P7=>xJ P5 (fun P8 P9 P10 P11 P12=>(za .i64 (.pv P7)).bind fun N13=>cond (N13==0) (
  cp (ev 133 [(.pv (.sl 1 x0)),(.pv (I 1)),(.pv (I 0))] []) (fun P16=>(za .i64 (.pv P16)).bind fun N17=>some (.ret (.pv (Bo (N17==(x0.length:Int)))),[]))) (
  some (.ret (.pv (Bo false)),[]))))):=zi (fn:=Tryz.f77) _ _
theorem zjp (x0:List PV) (x1_0 x1_1 x1_2:Int):ev 81 [(.pv (.sl 1 x0)),(.pv (.agg [(I x1_0),(I x1_1),(I x1_2)]))] [] =
 cond (decide ((x0.length:Int)>0)) (
 cond (decide (0<(x0.length:Int))) ((x0[0]?).bind fun P1=>(P1.cells[0]?).bind fun P2=>(zE P2).bind fun L3=>cond ((L3.2.length:Int)==0) (
 some (.ret (.pv (.tup [(.agg [(I 0),(I 0),(I 0),(.sl 1 []),(.sl 5 [])]),(I 0)])),[])) (
 zq (ev 82 [(.pv (.agg [(I x1_0),(I x1_1),(I x1_2)]))] []) (fun A4 H5=>(zf A4).bind fun P6=>zq (ev 83 [(.pv (.sl 1 x0)),(.pv (.agg [(I x1_0),(I x1_1),(I x1_2)])),(.pv P6),(.pv (I 0)),(.pv (I 0)),(.pv (I 1))] []) (fun A7 H8=>(zf A7).bind fun P9=>tK P9 0 fun P11=>tK P9 1 fun P13=>tK P9 2 fun P15=>xJ P11 (fun P16 P17 P18 P19 P20=>Zc P13 (fun P21=>(za .i64 (.pv P15)).bind fun N22=>cond (N22 != 0) (
  some (.ret (.pv (.tup [(.agg [(I 0),(I 0),(I 0),(.sl 1 []),(.sl 5 [])]),P15])),[])) (
  cp (ev 135 [(.pv (.agg [P16,P17,P18,P19,P20]))] []) (fun P25=>xJ P25 (fun P26 P27 P28 P29 P30=>some (.ret (.pv (.tup [(.agg [P26,P27,P28,P29,P30]),(I 0)])),[]))))))) (fun A7 H8=>none)) (fun A4 H5=>none))) none) (
 zq (ev 82 [(.pv (.agg [(I x1_0),(I x1_1),(I x1_2)]))] []) (fun A1 H2=>(zf A1).bind fun P3=>zq (ev 83 [(.pv (.sl 1 x0)),(.pv (.agg [(I x1_0),(I x1_1),(I x1_2)])),(.pv P3),(.pv (I 0)),(.pv (I 0)),(.pv (I 1))] []) (fun A4 H5=>(zf A4).bind fun P6=>tK P6 0 fun P8=>tK P6 1 fun P10=>tK P6 2 fun P12=>xJ P8 (fun P13 P14 P15 P16 P17=>Zc P10 (fun P18=>(za .i64 (.pv P12)).bind fun N19=>cond (N19 != 0) (
  some (.ret (.pv (.tup [(.agg [(I 0),(I 0),(I 0),(.sl 1 []),(.sl 5 [])]),P12])),[])) (
  cp (ev 135 [(.pv (.agg [P13,P14,P15,P16,P17]))] []) (fun P22=>xJ P22 (fun P23 P24 P25 P26 P27=>some (.ret (.pv (.tup [(.agg [P23,P24,P25,P26,P27]),(I 0)])),[]))))))) (fun A4 H5=>none)) (fun A1 H2=>none)):=zi (fn:=Tryz.f81) _ _
noncomputable def Xy:Code:=Tryz.f91.body.getD .skip
noncomputable def W7 (xs0 xs1:List PV) (i2:Int):Option (Out×ze) :=
 zY (zs env ev zI 30 91 0 (sub Xy [1,1,0,1,0,0])) (zD env 91 0 0) (zG 0 (zT (zH env ev 30 91 0 (sub Xy [1,1,1])) (zX env 91 Tryz.f91.results.toList 0))) ⟨zQ [(0,(.pv (.sl 1 xs0))),(3,(.slu 5 1 xs1)),(4,(.pv (I i2)))],[]⟩
noncomputable def QV (xs0 xs1:List PV) (i2:Int) (p3:PV) (i4:Int):Option (Out×ze) :=
 zY (zs env ev zI 30 91 2 (sub Xy [1,1,0,1,0,0,1,0,0,1,1,0,0])) (zD env 91 2 0) (zG 2 (zG 1 (zT (zH env ev 30 91 0 (sub Xy [1,1,0,1,0,0,1,1])) (ZM (zs env ev zI 30 91 0 (sub Xy [1,1,0,1,0,0])) (zD env 91 0 0) (zG 0 (zT (zH env ev 30 91 0 (sub Xy [1,1,1])) (zX env 91 Tryz.f91.results.toList 0))))))) ⟨zQ [(0,(.pv (.sl 1 xs0))),(3,(.slu 5 1 xs1)),(4,(.pv (I i2))),(5,(.pv p3)),(6,(.pv (I i4)))],[]⟩
theorem zaS (xs0 xs1:List PV) (i2:Int):W7 xs0 xs1 i2 =
 cond (decide (i2<(xs0.length:Int))) (
 cond (decide (0<=i2)&&decide (i2<(xs0.length:Int))) ((xs0[(i2).toNat]?).bind fun P1=>(P1.cells[0]?).bind fun P2=>QV xs0 xs1 i2 P2 0) none) (
 some (.ret (.pv (.sl 1 xs1)),[])):=(z4 ..).trans (by kernel_rfl)
theorem zaT (xs0 xs1:List PV) (i2:Int) (p3:PV) (i4:Int):QV xs0 xs1 i2 p3 i4 =
 cond (decide (i4<8)) (
 (za .u64 (.pv p3)).bind fun N1=>cond (zJ (xs1.length+1) 1) ((za .u64 (.pv p3)).bind fun N2=>QV xs0 (xs1++[(U8 (IntKind.wrap .u8 (Int.tmod N1 256)))]) i2 (U (IntKind.wrap .u64 (Int.tdiv N2 256))) (IntKind.wrap .i64 (i4+1))) none) (
 W7 xs0 xs1 (IntKind.wrap .i64 (i2+1))):=(z4 ..).trans (by kernel_rfl)
theorem ziT (x0:List PV):ev 91 [(.pv (.sl 1 x0))] [] =
 W7 x0 [] 0:=zi (fn:=Tryz.f91) _ _
noncomputable def g9:Code:=Tryz.f102.body.getD .skip
noncomputable def W9 (xs0:List PV) (i1:Int):Option (Out×ze) :=
 zY (zs env ev zI 19 102 0 (sub g9 [1,0,1,0,0])) (zD env 102 0 0) (zG 0 (zT (zH env ev 19 102 0 (sub g9 [1,1])) (zX env 102 Tryz.f102.results.toList 0))) ⟨zQ [(0,(.pv (.sl 1 xs0))),(3,(.pv (I i1)))],[]⟩
theorem qA (xs0:List PV) (i1:Int):W9 xs0 i1 =
 cond (decide (i1<(xs0.length:Int))) (
 cond (decide (0<=i1)&&decide (i1<(xs0.length:Int))) ((xs0[(i1).toNat]?).bind fun P1=>(P1.cells[0]?).bind fun P2=>(zE P2).bind fun L3=>cond (decide ((L3.2.length:Int)>300)) (
 some (.ret (.pv (Bo false)),[])) (
 W9 xs0 (IntKind.wrap .i64 (i1+1)))) none) (
 some (.ret (.pv (Bo (decide ((xs0.length:Int)<=20)))),[])):=(z4 ..).trans (by kernel_rfl)
theorem zi1 (x0:List PV):ev 102 [(.pv (.sl 1 x0))] [] =
 W9 x0 0:=zi (fn:=Tryz.f102) _ _
theorem zly (x0_0 x0_1 x0_2:Int) (x0_3 x0_4:List PV):ev 109 [(.pv (.agg [(I x0_0),(I x0_1),(I x0_2),(.sl 1 x0_3),(.sl 5 x0_4)]))] [] =
 zq (ev 165 [(.pv (.agg [(I x0_0),(I x0_1),(I x0_2),(.sl 1 x0_3),(.sl 5 x0_4)]))] []) (fun A1 H2=>(yx 30 1 A1).bind fun X3=>cp (ev 177 [(.pv (.sl 1 X3))] []) (fun P6=>some (.ret (.pv P6),[]))) (fun A1 H2=>some (.pan A1,[])):=zi (fn:=Tryz.f109) _ _
theorem zkV (x0_0 x0_1:List PV) (x1_0 x1_1 x1_2 x1_3 x1_4 x1_5 x1_6 x1_7 x2_0 x2_1 x2_2 x2_3 x2_4 x2_5 x2_6 x2_7:Int):ev 111 [(.pv (.agg [(.sl 1 x0_0),(.sl 1 x0_1)])),(.pv (.agg [(I x1_0),(I x1_1),(I x1_2),(I x1_3),(I x1_4),(I x1_5),(I x1_6),(I x1_7)])),(.pv (.agg [(I x2_0),(I x2_1),(I x2_2),(I x2_3),(I x2_4),(I x2_5),(I x2_6),(I x2_7)]))] [] =
 cond (x1_0 != x2_0) (
 some (.ret (.pv (Bo false)),[])) (
 cond (x1_5 != x2_5) (
  some (.ret (.pv (Bo false)),[])) (
  cond (x1_6 != x2_6) (
   some (.ret (.pv (Bo false)),[])) (
   cond (x1_0==0) (
    some (.ret (.pv (Bo true)),[])) (
    cond (x1_0==1) (
     cp (ev 181 [(.pv (.agg [(.sl 1 x0_0),(.sl 1 x0_1)])),(.pv (.agg [(I x1_0),(I x1_1),(I x1_2),(I x1_3),(I x1_4),(I x1_5),(I x1_6),(I x1_7)])),(.pv (.agg [(I x2_0),(I x2_1),(I x2_2),(I x2_3),(I x2_4),(I x2_5),(I x2_6),(I x2_7)]))] []) (fun P3=>some (.ret (.pv P3),[]))) (
     cond (x1_5==7) (
      cp (ev 182 [(.pv (.agg [(.sl 1 x0_0),(.sl 1 x0_1)])),(.pv (.agg [(I x1_0),(I x1_1),(I x1_2),(I x1_3),(I x1_4),(I x1_5),(I x1_6),(I x1_7)])),(.pv (.agg [(I x2_0),(I x2_1),(I x2_2),(I x2_3),(I x2_4),(I x2_5),(I x2_6),(I x2_7)]))] []) (fun P3=>some (.ret (.pv P3),[]))) (
      cond (x1_5==6) (
       cp (ev 183 [(.pv (.agg [(.sl 1 x0_0),(.sl 1 x0_1)])),(.pv (.agg [(I x1_0),(I x1_1),(I x1_2),(I x1_3),(I x1_4),(I x1_5),(I x1_6),(I x1_7)])),(.pv (.agg [(I x2_0),(I x2_1),(I x2_2),(I x2_3),(I x2_4),(I x2_5),(I x2_6),(I x2_7)])),(.pv (I x1_6))] []) (fun P3=>some (.ret (.pv P3),[]))) (
       cp (ev 180 [(.pv (.agg [(.sl 1 x0_0),(.sl 1 x0_1)])),(.pv (.agg [(I x1_0),(I x1_1),(I x1_2),(I x1_3),(I x1_4),(I x1_5),(I x1_6),(I x1_7)])),(.pv (.agg [(I x2_0),(I x2_1),(I x2_2),(I x2_3),(I x2_4),(I x2_5),(I x2_6),(I x2_7)]))] []) (fun P3=>some (.ret (.pv P3),[]))))))))):=zi (fn:=Tryz.f111) _ _
noncomputable def XC:Code:=Tryz.f117.body.getD .skip
noncomputable def Qg (xs0 xs1:List PV) (i2 i3:Int):Option (Out×ze) :=
 zY (zs env ev zI 32 117 0 (sub XC [1,1,0,1,0,0])) (zD env 117 0 0) (zG 0 (zT (zH env ev 32 117 0 (sub XC [1,1,1])) (zX env 117 Tryz.f117.results.toList 0))) ⟨zQ [(3,(.slu 5 1 xs0)),(11,(.pv (.sl 1 xs1))),(12,(.pv (I i2))),(13,(.pv (I i3)))],[]⟩
noncomputable def JF (xs0:List PV) (p1:PV) (xs2:List PV) (i3 i4 i5:Int):Option (Out×ze) :=
 zY (zs env ev zI 32 117 2 (sub XC [1,1,0,1,0,0,1,1,0,0,1,1,0,0])) (zD env 117 2 0) (zG 2 (zG 1 (zT (zH env ev 32 117 0 (sub XC [1,1,0,1,0,0,1,1,1])) (ZM (zs env ev zI 32 117 0 (sub XC [1,1,0,1,0,0])) (zD env 117 0 0) (zG 0 (zT (zH env ev 32 117 0 (sub XC [1,1,1])) (zX env 117 Tryz.f117.results.toList 0))))))) ⟨zQ [(3,(.slu 5 1 xs0)),(5,(.pv p1)),(11,(.pv (.sl 1 xs2))),(12,(.pv (I i3))),(13,(.pv (I i4))),(17,(.pv (I i5)))],[]⟩
theorem zft (xs0 xs1:List PV) (i2 i3:Int):Qg xs0 xs1 i2 i3 =
 cond (decide (i3<i2)) (
 cond (decide (0<=i3)&&decide (i3<(xs1.length:Int))) ((xs1[(i3).toNat]?).bind fun P1=>(P1.cells[0]?).bind fun P2=>JF xs0 P2 xs1 i2 i3 0) none) (
 some (.ret (.pv (.sl 1 xs0)),[])):=(z4 ..).trans (by kernel_rfl)
theorem zfu (xs0:List PV) (p1:PV) (xs2:List PV) (i3 i4 i5:Int):JF xs0 p1 xs2 i3 i4 i5 =
 cond (decide (i5<8)) (
 (za .u64 (.pv p1)).bind fun N1=>cond (yS .shr (IntKind.wrap .u64 (IntKind.wrap .i64 (8*i5)))) (cond (zJ (xs0.length+1) 1) (JF (xs0++[(U8 (IntKind.wrap .u8 (Int.fdiv N1 (2^(min (IntKind.wrap .u64 (IntKind.wrap .i64 (8*i5))).toNat 64)))))]) p1 xs2 i3 i4 (IntKind.wrap .i64 (i5+1))) none) none) (
 Qg xs0 xs2 i3 (IntKind.wrap .i64 (i4+1))):=(z4 ..).trans (by kernel_rfl)
theorem zp5 (x0:List PV):ev 117 [(.pv (.sl 1 x0))] [] =
 cond ((decide (0<=(IntKind.wrap .i64 (8*(x0.length:Int))))&&decide ((IntKind.wrap .i64 (8*(x0.length:Int)))<=140737488355328))&&zJ (IntKind.wrap .i64 (8*(x0.length:Int))).toNat 1) (Qg [] x0 (x0.length:Int) 0) none:=zi (fn:=Tryz.f117) _ _
theorem zjd (x0 x1:Int):ev 128 [(.pv (I x0)),(.pv (I x1))] [] =
 cond (x0==7) (
 some (.ret (.pv (I (IntKind.wrap .i64 (x1+1)))),[])) (
 cp (ev 189 [(.pv (I x0))] []) (fun P3=>(za .i64 (.pv P3)).bind fun N4=>cp (ev 189 [(.pv (I x0))] []) (fun P7=>(za .i64 (.pv P7)).bind fun N8=>cond (decide ((IntKind.wrap .i64 ((IntKind.wrap .i64 (Int.tdiv (IntKind.wrap .i64 (N4*x1)) 64))*64))<(IntKind.wrap .i64 (N8*x1)))) (
  some (.ret (.pv (I (IntKind.wrap .i64 ((IntKind.wrap .i64 (Int.tdiv (IntKind.wrap .i64 (N4*x1)) 64))+1)))),[])) (
  some (.ret (.pv (I (IntKind.wrap .i64 (Int.tdiv (IntKind.wrap .i64 (N4*x1)) 64)))),[]))))):=zi (fn:=Tryz.f128) _ _
theorem zif (x0_0 x0_1 x0_2:Int):ev 131 [(.pv (.agg [(I x0_0),(I x0_1),(I x0_2)]))] [] =
 some (.ret (.pv (.agg [(I (if 0>x0_1 then 0 else x0_1))])),[]):=zi (fn:=Tryz.f131) _ _
noncomputable def re:Code:=Tryz.f134.body.getD .skip
noncomputable def Vc (i0 i1 i2 i3:Int) (xs4 xs5:List PV) (i6 i7 i8:Int) (xs9 xs10:List PV):Option (Out×ze) :=
 zY (zs env ev zI 61 134 0 (sub re [1,1,0,1,0,0])) (zD env 134 0 2) (zG 0 (zT (zH env ev 61 134 0 (sub re [1,1,1])) (zX env 134 Tryz.f134.results.toList 0))) ⟨zQ [(2,(.ptr 0 0)),(3,(.ptr 1 0)),(5,(.pv (I i0)))],[[(.pv (I i1)),(.pv (I i2)),(.pv (I i3)),(.pv (.sl 1 xs4)),(.pv (.sl 5 xs5))],[(.pv (I i6)),(.pv (I i7)),(.pv (I i8)),(.pv (.sl 1 xs9)),(.pv (.sl 5 xs10))]]⟩
theorem Kb (i0 i1 i2 i3:Int) (xs4 xs5:List PV) (i6 i7 i8:Int) (xs9 xs10:List PV):Vc i0 i1 i2 i3 xs4 xs5 i6 i7 i8 xs9 xs10 =
 cond (decide (i0<(xs5.length:Int))) (
 cond (decide (0<=i0)&&decide (i0<(xs5.length:Int))) ((xs5[(i0).toNat]?).bind fun P1=>cond (decide (5<=P1.cells.length)) (cond (decide (0<=i0)&&decide (i0<(xs10.length:Int))) ((xs10[(i0).toNat]?).bind fun P2=>cond (decide (5<=P2.cells.length)) (cp (ev 134 [(.pv (.agg ((P1.cells.drop 0).take 5))),(.pv (.agg ((P2.cells.drop 0).take 5)))] []) (fun P5=>(z7 (.pv P5)).bind fun B6=>cond (!B6) (
 some (.ret (.pv (Bo false)),[])) (
 Vc (IntKind.wrap .i64 (i0+1)) i1 i2 i3 xs4 xs5 i6 i7 i8 xs9 xs10))) none) none) none) none) (
 some (.ret (.pv (Bo true)),[])):=(z4 ..).trans (by kernel_rfl)
theorem za6 (x0_0 x0_1 x0_2:Int) (x0_3 x0_4:List PV) (x1_0 x1_1 x1_2:Int) (x1_3 x1_4:List PV):ev 134 [(.pv (.agg [(I x0_0),(I x0_1),(I x0_2),(.sl 1 x0_3),(.sl 5 x0_4)])),(.pv (.agg [(I x1_0),(I x1_1),(I x1_2),(.sl 1 x1_3),(.sl 5 x1_4)]))] [] =
 cond (x0_0 != x1_0) (
 some (.ret (.pv (Bo false)),[])) (
 cond (x0_1 != x1_1) (
  some (.ret (.pv (Bo false)),[])) (
  cond (x0_2 != x1_2) (
   some (.ret (.pv (Bo false)),[])) (
   cp (ev 27 [(.pv (.sl 1 x0_3)),(.pv (.sl 1 x1_3))] []) (fun P3=>(z7 (.pv P3)).bind fun B4=>cond (!B4) (
    some (.ret (.pv (Bo false)),[])) (
    cond ((x0_4.length:Int) != (x1_4.length:Int)) (
     some (.ret (.pv (Bo false)),[])) (
     Vc 0 x0_0 x0_1 x0_2 x0_3 x0_4 x1_0 x1_1 x1_2 x1_3 x1_4)))))):=zi (fn:=Tryz.f134) _ _
theorem zjj (x0_0 x1:Int):ev 138 [(.pv (.agg [(I x0_0)])),(.pv (I x1))] [] =
 cond (decide (x0_0<x1)) (
 some (.ret (.pv (.tup [(.agg [(I x0_0)]),(I 8)])),[])) (
 some (.ret (.pv (.tup [(.agg [(I (IntKind.wrap .i64 (x0_0-x1)))]),(I 0)])),[])):=zi (fn:=Tryz.f138) _ _
noncomputable def rm:Code:=Tryz.f139.body.getD .skip
noncomputable def Kc (xs0:List PV) (i1 i2 i3 i4 i5 i6 i7 i8 i9 i10 i11 i12 i13 i14 i15 i16 i17:Int) (xs18 xs19:List PV) (i20 i21 i22 i23:Int) (p24:PV) (xs25:List PV) (p26:PV):Option (Out×ze) :=
 zY (zs env ev zI 76 139 0 (sub rm (o1 6 [0,1,0,0]))) (zD env 139 0 7) (zG 0 (zT (zH env ev 76 139 0 (sub rm (o1 6 [1]))) (zX env 139 Tryz.f139.results.toList 0))) ⟨zQ [(0,(.pv (.sl 1 xs0))),(4,(.pv (I i1))),(6,(.ptr 0 0)),(8,(.ptr 2 0)),(10,(.ptr 3 0)),(11,(.ptr 4 0)),(13,(.ptr 5 0)),(16,(.ptr 6 0)),(17,(.pv (I i2)))],[[(.pv (I i3)),(.pv (I i4)),(.pv (I i5))],[(.pv (I i6))],[(.pv (I i7)),(.pv (I i8)),(.pv (I i9)),(.pv (I i10)),(.pv (I i11)),(.pv (I i12)),(.pv (I i13)),(.pv (I i14))],[(.pv (I i15)),(.pv (I i16)),(.pv (I i17)),(.slu 5 1 xs18),(.slu 53 5 xs19)],[(.pv (I i20))],[(.pv (I i21)),(.pv (I i22)),(.pv (I i23)),(.pv p24),(.slu 53 5 xs25)],[(.pv p26)]]⟩
theorem zbc (xs0:List PV) (i1 i2 i3 i4 i5 i6 i7 i8 i9 i10 i11 i12 i13 i14 i15 i16 i17:Int) (xs18 xs19:List PV) (i20 i21 i22 i23:Int) (p24:PV) (xs25:List PV) (p26:PV):Kc xs0 i1 i2 i3 i4 i5 i6 i7 i8 i9 i10 i11 i12 i13 i14 i15 i16 i17 xs18 xs19 i20 i21 i22 i23 p24 xs25 p26 =
 cond (decide (i2<i11)) (
 cp (ev 83 [(.pv (.sl 1 xs0)),(.pv (.agg [(I i3),(I i4),(I i5)])),(.pv (.agg [p26])),(.pv (I i8)),(.pv (I (IntKind.wrap .i64 ((IntKind.wrap .i64 (i9+i10))+i2)))),(.pv (I (IntKind.wrap .i64 (i1+1))))] []) (fun P3=>tK P3 0 fun P5=>tK P3 1 fun P7=>tK P3 2 fun P9=>xJ P5 (fun P10 P11 P12 P13 P14=>Zc P7 (fun P15=>(za .i64 (.pv P9)).bind fun N16=>cond (N16 != 0) (
 cond (P15.isCell&&true) (some (.ret (.pv (.tup [(.agg [(I 0),(I 0),(I 0),(.sl 1 []),(.sl 5 [])]),(.agg [P15]),P9])),[])) none) (
 cond (P15.isCell&&true) (cond ((true&&(P10.isCell&&(P11.isCell&&(P12.isCell&&(P13.isCell&&(P14.isCell&&true))))))&&true) (cond (zJ (xs25.length+1) 72) (Kc xs0 i1 (IntKind.wrap .i64 (i2+1)) i3 i4 i5 i6 i7 i8 i9 i10 i11 i12 i13 i14 i15 i16 i17 xs18 xs19 i20 i21 i22 i23 p24 (xs25++[(.agg [P10,P11,P12,P13,P14])]) P15) none) none) none))))) (
 cond (p24.isCell&&true) (cond (p26.isCell&&true) (some (.ret (.pv (.tup [(.agg [(I i21),(I i22),(I i23),p24,(.sl 5 xs25)]),(.agg [p26]),(I 0)])),[])) none) none):=(z4 ..).trans (by kernel_rfl)
theorem zjq (x0:List PV) (x1_0 x1_1 x1_2 x2_0 x3_0 x3_1 x3_2 x3_3 x3_4 x3_5 x3_6 x3_7 x4:Int):ev 139 [(.pv (.sl 1 x0)),(.pv (.agg [(I x1_0),(I x1_1),(I x1_2)])),(.pv (.agg [(I x2_0)])),(.pv (.agg [(I x3_0),(I x3_1),(I x3_2),(I x3_3),(I x3_4),(I x3_5),(I x3_6),(I x3_7)])),(.pv (I x4))] [] =
 cp (ev 140 [(.pv (.sl 1 x0)),(.pv (I x3_1)),(.pv (I x3_2)),(.pv (I x3_3))] []) (fun P3=>tK P3 0 fun P5=>tK P3 1 fun P7=>cp (ev 91 [(.pv P5)] []) (fun P10=>cond (P10.isCell&&true) (cond (P10.isCell&&true) (Kc x0 x4 0 x1_0 x1_1 x1_2 x2_0 x3_0 x3_1 x3_2 x3_3 x3_4 x3_5 x3_6 x3_7 0 0 0 [] [] 0 1 0 0 P10 [] (I x2_0)) none) none)):=zi (fn:=Tryz.f139) _ _
theorem zaY (x0_0 x0_1 x0_2 x0_3 x0_4 x0_5:Int) (x0_6:Bool) (x0_7 x0_8 x0_9:Int):ev 159 [(.pv (.agg [(I x0_0),(I x0_1),(I x0_2),(I x0_3),(I x0_4),(I x0_5),(Bo x0_6),(I x0_7),(PV.v (.int .u32 x0_8)),(PV.v (.int .u32 x0_9))]))] [] =
 cp (ev 223 [(.pv (.agg [(I x0_0),(I x0_1),(I x0_2),(I x0_3),(I x0_4),(I x0_5),(Bo x0_6),(I x0_7),(PV.v (.int .u32 x0_8)),(PV.v (.int .u32 x0_9))]))] []) (fun P3=>(z7 (.pv P3)).bind fun B4=>cond (!B4) (
 some (.ret (.pv (.tup [(U 0),(Bo false)])),[])) (
 cond (decide (x0_1<0)) (
  cond (x0_0==0) (
  some (.ret (.pv (.tup [(U (IntKind.wrap .u64 ((IntKind.wrap .u64 ((IntKind.wrap .u64 ((IntKind.wrap .u64 x0_0)+(IntKind.wrap .u64 (4*(IntKind.wrap .u64 (IntKind.wrap .i64 (x0_1+1073741824)))))))+(IntKind.wrap .u64 (4294967296*(IntKind.wrap .u64 x0_2)))))+(IntKind.wrap .u64 (281474976710656*(IntKind.wrap .u64 x0_3)))))),(Bo true)])),[])) (
  cond (x0_0==1) (
   some (.ret (.pv (.tup [(U (IntKind.wrap .u64 ((IntKind.wrap .u64 ((IntKind.wrap .u64 ((IntKind.wrap .u64 x0_0)+(IntKind.wrap .u64 (4*(IntKind.wrap .u64 (IntKind.wrap .i64 (x0_1+1073741824)))))))+(IntKind.wrap .u64 (4294967296*(IntKind.wrap .u64 x0_4)))))+(IntKind.wrap .u64 (34359738368*(IntKind.wrap .u64 x0_5)))))),(Bo true)])),[])) (
   cond (x0_0==2) (
    cond x0_6 (
    some (.ret (.pv (.tup [(U (IntKind.wrap .u64 ((IntKind.wrap .u64 ((IntKind.wrap .u64 ((IntKind.wrap .u64 x0_0)+4))+(IntKind.wrap .u64 (8*(IntKind.wrap .u64 x0_7)))))+(IntKind.wrap .u64 (4294967296*(IntKind.wrap .u64 x0_8)))))),(Bo true)])),[])) (
    some (.ret (.pv (.tup [(U (IntKind.wrap .u64 ((IntKind.wrap .u64 ((IntKind.wrap .u64 x0_0)+(IntKind.wrap .u64 (8*(IntKind.wrap .u64 x0_7)))))+(IntKind.wrap .u64 (4294967296*(IntKind.wrap .u64 x0_8)))))),(Bo true)])),[]))) (
    some (.ret (.pv (.tup [(U (IntKind.wrap .u64 ((IntKind.wrap .u64 ((IntKind.wrap .u64 x0_0)+(IntKind.wrap .u64 (4*(IntKind.wrap .u64 x0_9)))))+(IntKind.wrap .u64 (4294967296*(IntKind.wrap .u64 x0_8)))))),(Bo true)])),[]))))) (
  cond (x0_0==0) (
   some (.ret (.pv (.tup [(U (IntKind.wrap .u64 ((IntKind.wrap .u64 ((IntKind.wrap .u64 ((IntKind.wrap .u64 x0_0)+(IntKind.wrap .u64 (4*(IntKind.wrap .u64 x0_1)))))+(IntKind.wrap .u64 (4294967296*(IntKind.wrap .u64 x0_2)))))+(IntKind.wrap .u64 (281474976710656*(IntKind.wrap .u64 x0_3)))))),(Bo true)])),[])) (
   cond (x0_0==1) (
    some (.ret (.pv (.tup [(U (IntKind.wrap .u64 ((IntKind.wrap .u64 ((IntKind.wrap .u64 ((IntKind.wrap .u64 x0_0)+(IntKind.wrap .u64 (4*(IntKind.wrap .u64 x0_1)))))+(IntKind.wrap .u64 (4294967296*(IntKind.wrap .u64 x0_4)))))+(IntKind.wrap .u64 (34359738368*(IntKind.wrap .u64 x0_5)))))),(Bo true)])),[])) (
    cond (x0_0==2) (
     cond x0_6 (
     some (.ret (.pv (.tup [(U (IntKind.wrap .u64 ((IntKind.wrap .u64 ((IntKind.wrap .u64 ((IntKind.wrap .u64 x0_0)+4))+(IntKind.wrap .u64 (8*(IntKind.wrap .u64 x0_7)))))+(IntKind.wrap .u64 (4294967296*(IntKind.wrap .u64 x0_8)))))),(Bo true)])),[])) (
     some (.ret (.pv (.tup [(U (IntKind.wrap .u64 ((IntKind.wrap .u64 ((IntKind.wrap .u64 x0_0)+(IntKind.wrap .u64 (8*(IntKind.wrap .u64 x0_7)))))+(IntKind.wrap .u64 (4294967296*(IntKind.wrap .u64 x0_8)))))),(Bo true)])),[]))) (
     some (.ret (.pv (.tup [(U (IntKind.wrap .u64 ((IntKind.wrap .u64 ((IntKind.wrap .u64 x0_0)+(IntKind.wrap .u64 (4*(IntKind.wrap .u64 x0_9)))))+(IntKind.wrap .u64 (4294967296*(IntKind.wrap .u64 x0_8)))))),(Bo true)])),[]))))))):=zi (fn:=Tryz.f159) _ _
noncomputable def rJ:Code:=Tryz.f175.body.getD .skip
noncomputable def KH (xs0:List PV) (i1 i2:Int):Option (Out×ze) :=
 zY (zs env ev zI 14 175 0 (sub rJ [1,0,1,0,0])) (zD env 175 0 0) (zG 0 (zT (zH env ev 14 175 0 (sub rJ [1,1])) (zX env 175 Tryz.f175.results.toList 0))) ⟨zQ [(5,(.pv (.sl 1 xs0))),(6,(.pv (I i1))),(7,(.pv (I i2)))],[]⟩
theorem zcx (xs0:List PV) (i1 i2:Int):KH xs0 i1 i2 =
 cond (decide (i2<i1)) (
 cond (decide (0<=i2)&&decide (i2<(xs0.length:Int))) ((xs0[(i2).toNat]?).bind fun P1=>(P1.cells[0]?).bind fun P2=>(za .u8 (.pv P2)).bind fun N3=>cond (N3 != 0) (
 some (.ret (.pv (Bo false)),[])) (
 KH xs0 i1 (IntKind.wrap .i64 (i2+1)))) none) (
 some (.ret (.pv (Bo true)),[])):=(z4 ..).trans (by kernel_rfl)
theorem zlo (x0:List PV):ev 175 [(.pv (.sl 1 x0))] [] =
 KH x0 (x0.length:Int) 0:=zi (fn:=Tryz.f175) _ _
noncomputable def rA:Code:=Tryz.f178.body.getD .skip
noncomputable def zfM:Code:=Tryz.f233.body.getD .skip
theorem zkx (x0:List PV) (x1_0 x1_1 x1_2:Int):ev 178 [(.pv (.sl 1 x0)),(.pv (.agg [(I x1_0),(I x1_1),(I x1_2)]))] [] =
 zq (ev 131 [(.pv (.agg [(I x1_0),(I x1_1),(I x1_2)]))] []) (fun A1 H2=>(zf A1).bind fun P3=>cond (decide (P3.cells.length=1)) ((P3.cells[0]?).bind fun P4=>cond ((P4.isCell&&true)&&true) (cond (P4.isCell&&true) (cond (decide ((x0.length:Int)>0)) (
 cond (decide (0<(x0.length:Int))) ((x0[0]?).bind fun P5=>(P5.cells[0]?).bind fun P6=>(zE P6).bind fun L7=>cond ((L7.2.length:Int)==0) (
 cond (P4.isCell&&true) (some (.ret (.pv (.tup [(.agg [(I 0),(I 0),(I 0),(.sl 1 []),(.sl 5 [])]),(.agg [P4]),(I 0)])),[])) none) (
 zq (ev 234 [(.ptr 0 0),(.pv (I 0)),(.pv (I 0)),(.pv (I 1))] [[(.pv (.sl 1 x0)),(.pv (I x1_0)),(.pv (I x1_1)),(.pv (I x1_2)),(.pv P4)]]) (fun A8 H9=>(H9[0]?).bind fun C10=>(C10[0]?).bind fun E11=>(zf E11).bind fun P12=>(C10[1]?).bind fun E13=>(zf E13).bind fun P14=>(C10[2]?).bind fun E15=>(zf E15).bind fun P16=>(C10[3]?).bind fun E17=>(zf E17).bind fun P18=>(C10[4]?).bind fun E19=>(zf E19).bind fun P20=>cond (decide (C10.length=5)) (cond (decide (H9.length=1)) ((zf A8).bind fun P21=>xJ P21 (fun P22 P23 P24 P25 P26=>cond (P22.isCell&&(P23.isCell&&(P24.isCell&&(P25.isCell&&(P26.isCell&&true))))) (cond (P20.isCell&&true) (some (.ret (.pv (.tup [(.agg [P22,P23,P24,P25,P26]),(.agg [P20]),(I 0)])),[])) none) none)) none) none) (fun A8 H9=>(H9[0]?).bind fun C10=>(C10[0]?).bind fun E11=>(zf E11).bind fun P12=>(C10[1]?).bind fun E13=>(zf E13).bind fun P14=>(C10[2]?).bind fun E15=>(zf E15).bind fun P16=>(C10[3]?).bind fun E17=>(zf E17).bind fun P18=>(C10[4]?).bind fun E19=>(zf E19).bind fun P20=>cond (decide (C10.length=5)) (cond (decide (H9.length=1)) ((xn (.pv A8)).bind fun Z21=>cond (!Z21) (
   (we (.pv A8)).bind fun Q22=>cond (decide (Q22.1=279)) (cond (decide (Q22.2.cells.length=1)) ((Q22.2.cells[0]?).bind fun P23=>cond (P23.isCell&&true) (cond (P23.isCell&&true) (cond (P23.isCell&&true) (some (.ret (.pv (.tup [(.agg [(I 0),(I 0),(I 0),(.sl 1 []),(.sl 5 [])]),(.agg [(I 0)]),P23])),[])) none) none) none) none) none) (
   some (.ret (.pv (.tup [(.agg [(I 0),(I 0),(I 0),(.sl 1 []),(.sl 5 [])]),(.agg [(I 0)]),(I 0)])),[]))) none) none))) none) (
 zq (ev 234 [(.ptr 0 0),(.pv (I 0)),(.pv (I 0)),(.pv (I 1))] [[(.pv (.sl 1 x0)),(.pv (I x1_0)),(.pv (I x1_1)),(.pv (I x1_2)),(.pv P4)]]) (fun A5 H6=>(H6[0]?).bind fun C7=>(C7[0]?).bind fun E8=>(zf E8).bind fun P9=>(C7[1]?).bind fun E10=>(zf E10).bind fun P11=>(C7[2]?).bind fun E12=>(zf E12).bind fun P13=>(C7[3]?).bind fun E14=>(zf E14).bind fun P15=>(C7[4]?).bind fun E16=>(zf E16).bind fun P17=>cond (decide (C7.length=5)) (cond (decide (H6.length=1)) ((zf A5).bind fun P18=>xJ P18 (fun P19 P20 P21 P22 P23=>cond (P19.isCell&&(P20.isCell&&(P21.isCell&&(P22.isCell&&(P23.isCell&&true))))) (cond (P17.isCell&&true) (some (.ret (.pv (.tup [(.agg [P19,P20,P21,P22,P23]),(.agg [P17]),(I 0)])),[])) none) none)) none) none) (fun A5 H6=>(H6[0]?).bind fun C7=>(C7[0]?).bind fun E8=>(zf E8).bind fun P9=>(C7[1]?).bind fun E10=>(zf E10).bind fun P11=>(C7[2]?).bind fun E12=>(zf E12).bind fun P13=>(C7[3]?).bind fun E14=>(zf E14).bind fun P15=>(C7[4]?).bind fun E16=>(zf E16).bind fun P17=>cond (decide (C7.length=5)) (cond (decide (H6.length=1)) ((xn (.pv A5)).bind fun Z18=>cond (!Z18) (
   (we (.pv A5)).bind fun Q19=>cond (decide (Q19.1=279)) (cond (decide (Q19.2.cells.length=1)) ((Q19.2.cells[0]?).bind fun P20=>cond (P20.isCell&&true) (cond (P20.isCell&&true) (cond (P20.isCell&&true) (some (.ret (.pv (.tup [(.agg [(I 0),(I 0),(I 0),(.sl 1 []),(.sl 5 [])]),(.agg [(I 0)]),P20])),[])) none) none) none) none) none) (
   some (.ret (.pv (.tup [(.agg [(I 0),(I 0),(I 0),(.sl 1 []),(.sl 5 [])]),(.agg [(I 0)]),(I 0)])),[]))) none) none))) none) none) none) (fun A1 H2=>none):=(ub (f:=178) (g:=233) (fn:=Tryz.f178) (gn:=Tryz.f233) (d:=⟨sub rA [0],sub rA [1,1],sub zfM [1],[4,5,6],3,8⟩) (by kernel_rfl) (by kernel_rfl) (by kernel_rfl) (by kernel_rfl) (by kernel_rfl) _ _).trans (by kernel_rfl)
theorem zmW (x0:Int):ev 187 [(.pv (U x0))] [] =
 some (.ret (.pv (Bo (x0==0))),[]):=zi (fn:=Tryz.f187) _ _
theorem zph (x0:Int):ev 188 [(.pv (U8 x0))] [] =
 cp (ev 244 [(.pv (U8 x0))] []) (fun P3=>some (.ret (.pv P3),[])):=zi (fn:=Tryz.f188) _ _
theorem Ws (x0:Int):ev 190 [(.pv (U x0))] [] =
 some (.ret (.pv (Bo (x0==0))),[]):=zi (fn:=Tryz.f190) _ _
theorem zie (x0_0 x0_1 x0_2 x1:Int):ev 191 [(.pv (.agg [(I x0_0),(I x0_1),(I x0_2)])),(.pv (I x1))] [] =
 cond (decide (x1>x0_0)) (
 some (.ret (.pv (I 7)),[])) (
 some (.ret (.pv (I 0)),[])):=zi (fn:=Tryz.f191) _ _
theorem ziH (x0__0:List PV) (x0__1 x0__2_0 x0__2_1 x0__2_2 x0__3_0 x1 x2 x3_0 x3_1 x3_2 x3_3 x3_4 x3_5:Int) (x3_6:Bool) (x3_7 x3_8 x3_9:Int):ev 193 [(.ptr 0 0),(.pv (I x1)),(.pv (I x2)),(.pv (.agg [(I x3_0),(I x3_1),(I x3_2),(I x3_3),(I x3_4),(I x3_5),(Bo x3_6),(I x3_7),(PV.v (.int .u32 x3_8)),(PV.v (.int .u32 x3_9))]))] [[(.pv (.sl 1 x0__0)),(.pv (I x0__1)),(.pv (I x0__2_0)),(.pv (I x0__2_1)),(.pv (I x0__2_2)),(.pv (I x0__3_0))]] =
 cond ((IntKind.wrap .i64 (x3_2+x3_3))==0) (
 zq (ev 130 [(.pv (Bo (x3_1==(-1))))] []) (fun A1 H2=>(zf A1).bind fun P3=>some (.ret (.pv (.tup [])),[[(.pv (.sl 1 x0__0)),(.pv (I x0__1)),(.pv (I x0__2_0)),(.pv (I x0__2_1)),(.pv (I x0__2_2)),(.pv (I x0__3_0))]])) (fun A1 H2=>some (.pan A1,[[(.pv (.sl 1 x0__0)),(.pv (I x0__1)),(.pv (I x0__2_0)),(.pv (I x0__2_1)),(.pv (I x0__2_2)),(.pv (I x0__3_0))]]))) (
 xC (ev 246 [(.ptr 0 0),(.pv (I x1)),(.pv (.agg [(I x3_0),(I x3_1),(I x3_2),(I x3_3),(I x3_4),(I x3_5),(Bo x3_6),(I x3_7),(PV.v (.int .u32 x3_8)),(PV.v (.int .u32 x3_9))])),(.pv (I (IntKind.wrap .i64 (x3_2+x3_3))))] [[(.pv (.sl 1 x0__0)),(.pv (I x0__1)),(.pv (I x0__2_0)),(.pv (I x0__2_1)),(.pv (I x0__2_2)),(.pv (I x0__3_0))]]) (fun P16 P5 P7 P9 P11 P13 P15=>xC (ev 247 [(.ptr 0 0),(.pv (I (IntKind.wrap .i64 (x3_2+x3_3))))] [[(.pv P5),(.pv P7),(.pv P9),(.pv P11),(.pv P13),(.pv P15)]]) (fun P32 P21 P23 P25 P27 P29 P31=>cond (x3_2==0) (
  zq (ev 130 [(.pv (Bo true))] []) (fun A33 H34=>(zf A33).bind fun P35=>cond (x3_3==0) (
  zq (ev 130 [(.pv (Bo true))] []) (fun A36 H37=>(zf A36).bind fun P38=>(za .i64 (.pv P16)).bind fun N39=>xC (ev 248 [(.ptr 0 0),(.pv (I (IntKind.wrap .i64 (N39+x3_2)))),(.pv (I x3_3)),(.pv (I x2))] [[(.pv P21),(.pv P23),(.pv P25),(.pv P27),(.pv P29),(.pv P31)]]) (fun P55 P44 P46 P48 P50 P52 P54=>some (.ret (.pv (.tup [])),[[(.pv P44),(.pv P46),(.pv P48),(.pv P50),(.pv P52),(.pv P54)]]))) (fun A36 H37=>some (.pan A36,[[(.pv P21),(.pv P23),(.pv P25),(.pv P27),(.pv P29),(.pv P31)]]))) (
  (za .i64 (.pv P16)).bind fun N36=>(zE P21).bind fun L37=>cond ((decide (L37.1=1)&&decide (0<=(IntKind.wrap .i64 ((IntKind.wrap .i64 ((IntKind.wrap .i64 (N36+x3_2))+x3_3))-1))))&&decide ((IntKind.wrap .i64 ((IntKind.wrap .i64 ((IntKind.wrap .i64 (N36+x3_2))+x3_3))-1))<(L37.2.length:Int))) ((L37.2[(IntKind.wrap .i64 ((IntKind.wrap .i64 ((IntKind.wrap .i64 (N36+x3_2))+x3_3))-1)).toNat]?).bind fun P38=>(P38.cells[0]?).bind fun P39=>(za .u64 (.pv P39)).bind fun N40=>zq (ev 130 [(.pv (Bo (N40 != 0)))] []) (fun A41 H42=>(zf A41).bind fun P43=>(za .i64 (.pv P16)).bind fun N44=>xC (ev 248 [(.ptr 0 0),(.pv (I (IntKind.wrap .i64 (N44+x3_2)))),(.pv (I x3_3)),(.pv (I x2))] [[(.pv P21),(.pv P23),(.pv P25),(.pv P27),(.pv P29),(.pv P31)]]) (fun P60 P49 P51 P53 P55 P57 P59=>some (.ret (.pv (.tup [])),[[(.pv P49),(.pv P51),(.pv P53),(.pv P55),(.pv P57),(.pv P59)]]))) (fun A41 H42=>some (.pan A41,[[(.pv P21),(.pv P23),(.pv P25),(.pv P27),(.pv P29),(.pv P31)]]))) none)) (fun A33 H34=>some (.pan A33,[[(.pv P21),(.pv P23),(.pv P25),(.pv P27),(.pv P29),(.pv P31)]]))) (
  (za .i64 (.pv P16)).bind fun N33=>(zE P21).bind fun L34=>cond ((decide (L34.1=1)&&decide (0<=(IntKind.wrap .i64 ((IntKind.wrap .i64 (N33+x3_2))-1))))&&decide ((IntKind.wrap .i64 ((IntKind.wrap .i64 (N33+x3_2))-1))<(L34.2.length:Int))) ((L34.2[(IntKind.wrap .i64 ((IntKind.wrap .i64 (N33+x3_2))-1)).toNat]?).bind fun P35=>(P35.cells[0]?).bind fun P36=>(za .u64 (.pv P36)).bind fun N37=>zq (ev 130 [(.pv (Bo (N37 != 0)))] []) (fun A38 H39=>(zf A38).bind fun P40=>cond (x3_3==0) (
   zq (ev 130 [(.pv (Bo true))] []) (fun A41 H42=>(zf A41).bind fun P43=>(za .i64 (.pv P16)).bind fun N44=>xC (ev 248 [(.ptr 0 0),(.pv (I (IntKind.wrap .i64 (N44+x3_2)))),(.pv (I x3_3)),(.pv (I x2))] [[(.pv P21),(.pv P23),(.pv P25),(.pv P27),(.pv P29),(.pv P31)]]) (fun P60 P49 P51 P53 P55 P57 P59=>some (.ret (.pv (.tup [])),[[(.pv P49),(.pv P51),(.pv P53),(.pv P55),(.pv P57),(.pv P59)]]))) (fun A41 H42=>some (.pan A41,[[(.pv P21),(.pv P23),(.pv P25),(.pv P27),(.pv P29),(.pv P31)]]))) (
   (za .i64 (.pv P16)).bind fun N41=>(zE P21).bind fun L42=>cond ((decide (L42.1=1)&&decide (0<=(IntKind.wrap .i64 ((IntKind.wrap .i64 ((IntKind.wrap .i64 (N41+x3_2))+x3_3))-1))))&&decide ((IntKind.wrap .i64 ((IntKind.wrap .i64 ((IntKind.wrap .i64 (N41+x3_2))+x3_3))-1))<(L42.2.length:Int))) ((L42.2[(IntKind.wrap .i64 ((IntKind.wrap .i64 ((IntKind.wrap .i64 (N41+x3_2))+x3_3))-1)).toNat]?).bind fun P43=>(P43.cells[0]?).bind fun P44=>(za .u64 (.pv P44)).bind fun N45=>zq (ev 130 [(.pv (Bo (N45 != 0)))] []) (fun A46 H47=>(zf A46).bind fun P48=>(za .i64 (.pv P16)).bind fun N49=>xC (ev 248 [(.ptr 0 0),(.pv (I (IntKind.wrap .i64 (N49+x3_2)))),(.pv (I x3_3)),(.pv (I x2))] [[(.pv P21),(.pv P23),(.pv P25),(.pv P27),(.pv P29),(.pv P31)]]) (fun P65 P54 P56 P58 P60 P62 P64=>some (.ret (.pv (.tup [])),[[(.pv P54),(.pv P56),(.pv P58),(.pv P60),(.pv P62),(.pv P64)]]))) (fun A46 H47=>some (.pan A46,[[(.pv P21),(.pv P23),(.pv P25),(.pv P27),(.pv P29),(.pv P31)]]))) none)) (fun A38 H39=>some (.pan A38,[[(.pv P21),(.pv P23),(.pv P25),(.pv P27),(.pv P29),(.pv P31)]]))) none)))):=zi (fn:=Tryz.f193) _ _
noncomputable def rp:Code:=Tryz.f222.body.getD .skip
noncomputable def Kg (i0:Int) (xs1:List PV):Option (Out×ze) :=
 zY (zs env ev zI 25 222 0 (sub rp [1,1,0,0,0])) (zD env 222 0 0) (zG 0 (zT (zH env ev 25 222 0 (sub rp [1,1,1])) (zX env 222 Tryz.f222.results.toList 0))) ⟨zQ [(1,(.pv (I i0))),(5,(.slu 5 1 xs1))],[]⟩
theorem zbk (i0:Int) (xs1:List PV):Kg i0 xs1 =
 cond (decide ((xs1.length:Int)<(IntKind.wrap .i64 (8*i0)))) (
 cond (zJ (xs1.length+1) 1) (Kg i0 (xs1++[(U8 0)])) none) (
 zq (ev 87 [(.pv (.sl 1 xs1))] []) (fun A1 H2=>(Zq 0 2 A1).bind fun Q3=>(yx 30 1 Q3.1).bind fun X4=>(Q3.2[1]?).bind fun P5=>some (.ret (.slu 30 1 X4),[])) (fun A1 H2=>some (.pan A1,[]))):=(z4 ..).trans (by kernel_rfl)
theorem zjv (x0:List PV) (x1:Int):ev 222 [(.pv (.sl 1 x0)),(.pv (I x1))] [] =
 cond (zJ (0+x0.length) 1) (Kg x1 x0) none:=zi (fn:=Tryz.f222) _ _
theorem zlg:ev 231 [] [] =
 some (.ret (.pv (U 14695981039346656037)),[]):=zi (fn:=Tryz.f231) _ _
theorem zbO (x0__0:List PV) (x0__1_0 x0__1_1 x0__1_2 x0__2_0 x1 x2 x3:Int):ev 234 [(.ptr 0 0),(.pv (I x1)),(.pv (I x2)),(.pv (I x3))] [[(.pv (.sl 1 x0__0)),(.pv (I x0__1_0)),(.pv (I x0__1_1)),(.pv (I x0__1_2)),(.pv (I x0__2_0))]] =
 zq (ev 240 [(.pv (.sl 1 x0__0)),(.pv (I x1)),(.pv (I x2))] []) (fun A1 H2=>(zf A1).bind fun P3=>tK P3 0 fun P5=>tK P3 1 fun P7=>tK P3 2 fun P9=>tK P3 3 fun P11=>zq (ev 271 [(.pv P11)] []) (fun A12 H13=>(zf A12).bind fun P14=>zq (ev 190 [(.pv P5)] []) (fun A15 H16=>(zf A15).bind fun P17=>(z7 (.pv P17)).bind fun B18=>cond B18 (
 some (.ret (.pv (.agg [(I 0),(I 0),(I 0),(.sl 1 []),(.sl 5 [])])),[[(.pv (.sl 1 x0__0)),(.pv (I x0__1_0)),(.pv (I x0__1_1)),(.pv (I x0__1_2)),(.pv (I x0__2_0))]])) (
 zq (ev 191 [(.pv (.agg [(I x0__1_0),(I x0__1_1),(I x0__1_2)])),(.pv (I x3))] []) (fun A19 H20=>(zf A19).bind fun P21=>zq (ev 271 [(.pv P21)] []) (fun A22 H23=>(zf A22).bind fun P24=>zq (ev 184 [(.pv (.sl 1 x0__0)),(.pv (I x1)),(.pv (I x2))] []) (fun A25 H26=>(zf A25).bind fun P27=>tK P27 0 fun P29=>tK P27 1 fun P31=>wE P29 (fun P32 P33 P34 P35 P36 P37 P38 P39=>zq (ev 271 [(.pv P31)] []) (fun A40 H41=>(zf A40).bind fun P42=>zq (ev 272 [(.pv (.agg [(I x0__2_0)])),(.pv P39)] []) (fun A43 H44=>(zf A43).bind fun P45=>tK P45 0 fun P47=>tK P45 1 fun P49=>Zc P47 (fun P50=>zq (ev 271 [(.pv P49)] []) (fun A51 H52=>(zf A51).bind fun P53=>(za .i64 (.pv P32)).bind fun N54=>cond (N54==1) (
  Yd (ev 273 [(.ptr 0 0),(.pv (.agg [P32,P33,P34,P35,P36,P37,P38,P39])),(.pv (I x3))] [[(.pv (.sl 1 x0__0)),(.pv (I x0__1_0)),(.pv (I x0__1_1)),(.pv (I x0__1_2)),(.pv P50)]]) (fun P68 P59 P61 P63 P65 P67=>xJ P68 (fun P69 P70 P71 P72 P73=>some (.ret (.pv (.agg [P69,P70,P71,P72,P73])),[[(.pv P59),(.pv P61),(.pv P63),(.pv P65),(.pv P67)]])))) (
  Yd (ev 274 [(.ptr 0 0),(.pv (.agg [P32,P33,P34,P35,P36,P37,P38,P39])),(.pv (I x3))] [[(.pv (.sl 1 x0__0)),(.pv (I x0__1_0)),(.pv (I x0__1_1)),(.pv (I x0__1_2)),(.pv P50)]]) (fun P68 P59 P61 P63 P65 P67=>xJ P68 (fun P69 P70 P71 P72 P73=>some (.ret (.pv (.agg [P69,P70,P71,P72,P73])),[[(.pv P59),(.pv P61),(.pv P63),(.pv P65),(.pv P67)]]))))) (fun A51 H52=>some (.pan A51,[[(.pv (.sl 1 x0__0)),(.pv (I x0__1_0)),(.pv (I x0__1_1)),(.pv (I x0__1_2)),(.pv P50)]])))) (fun A43 H44=>some (.pan A43,[[(.pv (.sl 1 x0__0)),(.pv (I x0__1_0)),(.pv (I x0__1_1)),(.pv (I x0__1_2)),(.pv (I x0__2_0))]]))) (fun A40 H41=>some (.pan A40,[[(.pv (.sl 1 x0__0)),(.pv (I x0__1_0)),(.pv (I x0__1_1)),(.pv (I x0__1_2)),(.pv (I x0__2_0))]])))) (fun A25 H26=>some (.pan A25,[[(.pv (.sl 1 x0__0)),(.pv (I x0__1_0)),(.pv (I x0__1_1)),(.pv (I x0__1_2)),(.pv (I x0__2_0))]]))) (fun A22 H23=>some (.pan A22,[[(.pv (.sl 1 x0__0)),(.pv (I x0__1_0)),(.pv (I x0__1_1)),(.pv (I x0__1_2)),(.pv (I x0__2_0))]]))) (fun A19 H20=>some (.pan A19,[[(.pv (.sl 1 x0__0)),(.pv (I x0__1_0)),(.pv (I x0__1_1)),(.pv (I x0__1_2)),(.pv (I x0__2_0))]])))) (fun A15 H16=>some (.pan A15,[[(.pv (.sl 1 x0__0)),(.pv (I x0__1_0)),(.pv (I x0__1_1)),(.pv (I x0__1_2)),(.pv (I x0__2_0))]]))) (fun A12 H13=>some (.pan A12,[[(.pv (.sl 1 x0__0)),(.pv (I x0__1_0)),(.pv (I x0__1_1)),(.pv (I x0__1_2)),(.pv (I x0__2_0))]]))) (fun A1 H2=>some (.pan A1,[[(.pv (.sl 1 x0__0)),(.pv (I x0__1_0)),(.pv (I x0__1_1)),(.pv (I x0__1_2)),(.pv (I x0__2_0))]])):=zi (fn:=Tryz.f234) _ _
theorem zn8 (x0:List PV) (x1_0 x1_1 x1_2 x1_3 x1_4 x1_5:Int) (x1_6:Bool) (x1_7 x1_8 x1_9 x2 x3:Int):ev 242 [(.pv (.sl 1 x0)),(.pv (.agg [(I x1_0),(I x1_1),(I x1_2),(I x1_3),(I x1_4),(I x1_5),(Bo x1_6),(I x1_7),(PV.v (.int .u32 x1_8)),(PV.v (.int .u32 x1_9))])),(.pv (I x2)),(.pv (I x3))] [] =
 cond (x1_4==7) (
 cp (ev 283 [(.pv (.sl 1 x0)),(.pv (.agg [(I x1_0),(I x1_1),(I x1_2),(I x1_3),(I x1_4),(I x1_5),(Bo x1_6),(I x1_7),(PV.v (.int .u32 x1_8)),(PV.v (.int .u32 x1_9))])),(.pv (I x2)),(.pv (I x3))] []) (fun P3=>tK P3 0 fun P5=>tK P3 1 fun P7=>wE P5 (fun P8 P9 P10 P11 P12 P13 P14 P15=>some (.ret (.pv (.tup [(.agg [P8,P9,P10,P11,P12,P13,P14,P15]),P7])),[])))) (
 zq (ev 221 [(.pv (I x1_4)),(.pv (I x1_5))] []) (fun A1 H2=>(zf A1).bind fun P3=>cond (P3.isCell&&true) (cond ((P3.isCell&&true)&&true) (cond (P3.isCell&&true) (cp (ev 282 [(.pv (.sl 1 x0)),(.pv (.agg [(I 2),(I x2),(I x3),(I 0),(I 0),(I x1_4),(I x1_5),P3])),(.pv (I x3)),(.pv P3)] []) (fun P6=>tK P6 0 fun P8=>tK P6 1 fun P10=>wE P8 (fun P11 P12 P13 P14 P15 P16 P17 P18=>some (.ret (.pv (.tup [(.agg [P11,P12,P13,P14,P15,P16,P17,P18]),P10])),[])))) none) none) none) (fun A1 H2=>none)):=zi (fn:=Tryz.f242) _ _
noncomputable def JN:Code:=Tryz.f249.body.getD .skip
noncomputable def Yb (i0:Int) (p1:PV) (i2:Int) (b3 b4:Bool) (p5:PV) (i6:Int) (p7 p8 p9 p10 p11 p12:PV) (i13 i14 i15 i16 i17 i18:Int) (b19:Bool) (i20 i21 i22:Int) (p23 p24 p25 p26 p27 p28 p29 p30 p31 p32:PV):Option (Out×ze) :=
 zY (zs env ev zI 137 249 0 (sub JN (o1 8 [0,1,0,0]))) (zD env 249 0 3) (zG 0 (zT (zH env ev 137 249 0 (sub JN (o1 8 [1]))) (zX env 249 Tryz.f249.results.toList 1))) ⟨zQ [(0,(.ptr 0 0)),(2,(.pv (I i0))),(8,(.pv p1)),(9,(.ptr 2 0)),(10,(.pv (I i2))),(11,(.pv (Bo b3))),(12,(.pv (Bo b4))),(72,(.pv p5)),(73,(.pv (I i6)))],[[(.pv p7),(.pv p8),(.pv p9),(.pv p10),(.pv p11),(.pv p12)],[(.pv (I i13)),(.pv (I i14)),(.pv (I i15)),(.pv (I i16)),(.pv (I i17)),(.pv (I i18)),(.pv (Bo b19)),(.pv (I i20)),(.pv (PV.v (.int .u32 i21))),(.pv (PV.v (.int .u32 i22)))],[(.pv p23),(.pv p24),(.pv p25),(.pv p26),(.pv p27),(.pv p28),(.pv p29),(.pv p30),(.pv p31),(.pv p32)]]⟩
noncomputable def XO (i0:Int) (p1:PV) (i2:Int) (p3:PV) (i4:Int) (p5 p6 p7 p8 p9 p10:PV) (i11 i12 i13 i14 i15 i16:Int) (b17:Bool) (i18 i19 i20:Int) (p21 p22 p23 p24 p25 p26 p27 p28 p29 p30:PV):Option (Out×ze) :=
 zY (zs env ev zI 137 249 2 (sub JN (o1 11 [0,0]))) (zD env 249 2 3) (zG 2 (zX env 249 Tryz.f249.results.toList 1)) ⟨zQ [(0,(.ptr 0 0)),(2,(.pv (I i0))),(8,(.pv p1)),(9,(.ptr 2 0)),(10,(.pv (I i2))),(118,(.pv p3)),(119,(.pv (I i4)))],[[(.pv p5),(.pv p6),(.pv p7),(.pv p8),(.pv p9),(.pv p10)],[(.pv (I i11)),(.pv (I i12)),(.pv (I i13)),(.pv (I i14)),(.pv (I i15)),(.pv (I i16)),(.pv (Bo b17)),(.pv (I i18)),(.pv (PV.v (.int .u32 i19))),(.pv (PV.v (.int .u32 i20)))],[(.pv p21),(.pv p22),(.pv p23),(.pv p24),(.pv p25),(.pv p26),(.pv p27),(.pv p28),(.pv p29),(.pv p30)]]⟩
theorem zaH (i0:Int) (p1:PV) (i2:Int) (b3 b4:Bool) (p5:PV) (i6:Int) (p7 p8 p9 p10 p11 p12:PV) (i13 i14 i15 i16 i17 i18:Int) (b19:Bool) (i20 i21 i22:Int) (p23 p24 p25 p26 p27 p28 p29 p30 p31 p32:PV):Yb i0 p1 i2 b3 b4 p5 i6 p7 p8 p9 p10 p11 p12 i13 i14 i15 i16 i17 i18 b19 i20 i21 i22 p23 p24 p25 p26 p27 p28 p29 p30 p31 p32 =
 (za .i64 (.pv p5)).bind fun N1=>cond (decide (i6<N1)) (
 (za .i64 (.pv p1)).bind fun N2=>cond b3 (
 cond b4 (
 Yb i0 p1 i2 true true p5 (IntKind.wrap .i64 (i6+1)) p7 p8 p9 p10 p11 p12 i13 i14 i15 i16 i17 i18 b19 i20 i21 i22 p23 p24 p25 p26 p27 p28 p29 p30 p31 p32) (
 (zE p7).bind fun L3=>cond ((decide (L3.1=1)&&decide (0<=(IntKind.wrap .i64 ((IntKind.wrap .i64 ((IntKind.wrap .i64 ((IntKind.wrap .i64 (N2+1))+(IntKind.wrap .i64 (i6*i2))))+i2))-1))))&&decide ((IntKind.wrap .i64 ((IntKind.wrap .i64 ((IntKind.wrap .i64 ((IntKind.wrap .i64 (N2+1))+(IntKind.wrap .i64 (i6*i2))))+i2))-1))<(L3.2.length:Int))) ((L3.2[(IntKind.wrap .i64 ((IntKind.wrap .i64 ((IntKind.wrap .i64 ((IntKind.wrap .i64 (N2+1))+(IntKind.wrap .i64 (i6*i2))))+i2))-1)).toNat]?).bind fun P4=>(P4.cells[0]?).bind fun P5=>(za .u64 (.pv P5)).bind fun N6=>Yb i0 p1 i2 true (N6 != 0) p5 (IntKind.wrap .i64 (i6+1)) p7 p8 p9 p10 p11 p12 i13 i14 i15 i16 i17 i18 b19 i20 i21 i22 p23 p24 p25 p26 p27 p28 p29 p30 p31 p32) none)) (
 (za .i64 (.pv p25)).bind fun N3=>(zE p7).bind fun L4=>cond ((decide (L4.1=1)&&decide (0<=(IntKind.wrap .i64 ((IntKind.wrap .i64 ((IntKind.wrap .i64 ((IntKind.wrap .i64 (N2+1))+(IntKind.wrap .i64 (i6*i2))))+N3))-1))))&&decide ((IntKind.wrap .i64 ((IntKind.wrap .i64 ((IntKind.wrap .i64 ((IntKind.wrap .i64 (N2+1))+(IntKind.wrap .i64 (i6*i2))))+N3))-1))<(L4.2.length:Int))) ((L4.2[(IntKind.wrap .i64 ((IntKind.wrap .i64 ((IntKind.wrap .i64 ((IntKind.wrap .i64 (N2+1))+(IntKind.wrap .i64 (i6*i2))))+N3))-1)).toNat]?).bind fun P5=>(P5.cells[0]?).bind fun P6=>(za .u64 (.pv P6)).bind fun N7=>cond b4 (
  Yb i0 p1 i2 (N7 != 0) true p5 (IntKind.wrap .i64 (i6+1)) p7 p8 p9 p10 p11 p12 i13 i14 i15 i16 i17 i18 b19 i20 i21 i22 p23 p24 p25 p26 p27 p28 p29 p30 p31 p32) (
  (zE p7).bind fun L8=>cond ((decide (L8.1=1)&&decide (0<=(IntKind.wrap .i64 ((IntKind.wrap .i64 ((IntKind.wrap .i64 ((IntKind.wrap .i64 (N2+1))+(IntKind.wrap .i64 (i6*i2))))+i2))-1))))&&decide ((IntKind.wrap .i64 ((IntKind.wrap .i64 ((IntKind.wrap .i64 ((IntKind.wrap .i64 (N2+1))+(IntKind.wrap .i64 (i6*i2))))+i2))-1))<(L8.2.length:Int))) ((L8.2[(IntKind.wrap .i64 ((IntKind.wrap .i64 ((IntKind.wrap .i64 ((IntKind.wrap .i64 (N2+1))+(IntKind.wrap .i64 (i6*i2))))+i2))-1)).toNat]?).bind fun P9=>(P9.cells[0]?).bind fun P10=>(za .u64 (.pv P10)).bind fun N11=>Yb i0 p1 i2 (N7 != 0) (N11 != 0) p5 (IntKind.wrap .i64 (i6+1)) p7 p8 p9 p10 p11 p12 i13 i14 i15 i16 i17 i18 b19 i20 i21 i22 p23 p24 p25 p26 p27 p28 p29 p30 p31 p32) none)) none)) (
 cond b3 (
  zq (ev 130 [(.pv (Bo b4))] []) (fun A2 H3=>(zf A2).bind fun P4=>XO i0 p1 i2 p24 0 p7 p8 p9 p10 p11 p12 i13 i14 i15 i16 i17 i18 b19 i20 i21 i22 p23 p24 p25 p26 p27 p28 p29 p30 p31 p32) (fun A2 H3=>some (.pan A2,[[(.pv p7),(.pv p8),(.pv p9),(.pv p10),(.pv p11),(.pv p12)]]))) (
  zq (ev 130 [(.pv (Bo false))] []) (fun A2 H3=>(zf A2).bind fun P4=>XO i0 p1 i2 p24 0 p7 p8 p9 p10 p11 p12 i13 i14 i15 i16 i17 i18 b19 i20 i21 i22 p23 p24 p25 p26 p27 p28 p29 p30 p31 p32) (fun A2 H3=>some (.pan A2,[[(.pv p7),(.pv p8),(.pv p9),(.pv p10),(.pv p11),(.pv p12)]])))):=(z4 ..).trans (by kernel_rfl)
theorem zaI (i0:Int) (p1:PV) (i2:Int) (p3:PV) (i4:Int) (p5 p6 p7 p8 p9 p10:PV) (i11 i12 i13 i14 i15 i16:Int) (b17:Bool) (i18 i19 i20:Int) (p21 p22 p23 p24 p25 p26 p27 p28 p29 p30:PV):XO i0 p1 i2 p3 i4 p5 p6 p7 p8 p9 p10 i11 i12 i13 i14 i15 i16 b17 i18 i19 i20 p21 p22 p23 p24 p25 p26 p27 p28 p29 p30 =
 (za .i64 (.pv p3)).bind fun N1=>cond (decide (i4<N1)) (
 (za .i64 (.pv p1)).bind fun N2=>(za .i64 (.pv p23)).bind fun N3=>xC (ev 248 [(.ptr 0 0),(.pv (I (IntKind.wrap .i64 ((IntKind.wrap .i64 ((IntKind.wrap .i64 (N2+1))+(IntKind.wrap .i64 (i4*i2))))+N3)))),(.pv p24),(.pv (I i0))] [[(.pv p5),(.pv p6),(.pv p7),(.pv p8),(.pv p9),(.pv p10)]]) (fun P19 P8 P10 P12 P14 P16 P18=>XO i0 p1 i2 p3 (IntKind.wrap .i64 (i4+1)) P8 P10 P12 P14 P16 P18 i11 i12 i13 i14 i15 i16 b17 i18 i19 i20 p21 p22 p23 p24 p25 p26 p27 p28 p29 p30)) (
 some (.ret (.pv (.tup [])),[[(.pv p5),(.pv p6),(.pv p7),(.pv p8),(.pv p9),(.pv p10)]])):=(z4 ..).trans (by kernel_rfl)
theorem ziE (x0__0:List PV) (x0__1 x0__2_0 x0__2_1 x0__2_2 x0__3_0 x1 x2 x3_0 x3_1 x3_2 x3_3 x3_4 x3_5:Int) (x3_6:Bool) (x3_7 x3_8 x3_9:Int):ev 249 [(.ptr 0 0),(.pv (I x1)),(.pv (I x2)),(.pv (.agg [(I x3_0),(I x3_1),(I x3_2),(I x3_3),(I x3_4),(I x3_5),(Bo x3_6),(I x3_7),(PV.v (.int .u32 x3_8)),(PV.v (.int .u32 x3_9))]))] [[(.pv (.sl 1 x0__0)),(.pv (I x0__1)),(.pv (I x0__2_0)),(.pv (I x0__2_1)),(.pv (I x0__2_2)),(.pv (I x0__3_0))]] =
 xC (ev 246 [(.ptr 0 0),(.pv (I x1)),(.pv (.agg [(I x3_0),(I x3_1),(I x3_2),(I x3_3),(I x3_4),(I x3_5),(Bo x3_6),(I x3_7),(PV.v (.int .u32 x3_8)),(PV.v (.int .u32 x3_9))])),(.pv (I (IntKind.wrap .i64 (x3_5+1))))] [[(.pv (.sl 1 x0__0)),(.pv (I x0__1)),(.pv (I x0__2_0)),(.pv (I x0__2_1)),(.pv (I x0__2_2)),(.pv (I x0__3_0))]]) (fun P16 P5 P7 P9 P11 P13 P15=>(yB (.pv P16)).bind fun Q17=>(zE P5).bind fun L18=>cond ((decide (L18.1=1)&&decide (0<=Q17.2))&&decide (Q17.2<(L18.2.length:Int))) ((L18.2[(Q17.2).toNat]?).bind fun P19=>(P19.cells[0]?).bind fun P20=>zq (ev 192 [(.pv P20)] []) (fun A21 H22=>(zf A21).bind fun P23=>wk P23 (fun P24 P25 P26 P27 P28 P29 P30 P31 P32 P33=>(za .i64 (.pv P26)).bind fun N34=>(za .i64 (.pv P27)).bind fun N35=>(za .i64 (.pv P24)).bind fun N36=>cond (N36==0) (
 (za .i64 (.pv P25)).bind fun N37=>cond (decide (N37≥0)) (
 (za .i64 (.pv P25)).bind fun N38=>zq (ev 130 [(.pv (Bo ((IntKind.wrap .i64 (N38*(IntKind.wrap .i64 (N34+N35))))==x3_5)))] []) (fun A39 H40=>(zf A39).bind fun P41=>xC (ev 247 [(.ptr 0 0),(.pv (I (IntKind.wrap .i64 (x3_5+1))))] [[(.pv P5),(.pv P7),(.pv P9),(.pv P11),(.pv P13),(.pv P15)]]) (fun P57 P46 P48 P50 P52 P54 P56=>cond ((IntKind.wrap .i64 (N34+N35))==0) (
 xC (ev 247 [(.ptr 0 0),(.pv P25)] [[(.pv P46),(.pv P48),(.pv P50),(.pv P52),(.pv P54),(.pv P56)]]) (fun P73 P62 P64 P66 P68 P70 P72=>some (.ret (.pv (.tup [])),[[(.pv P62),(.pv P64),(.pv P66),(.pv P68),(.pv P70),(.pv P72)]]))) (
 (za .i64 (.pv P26)).bind fun N58=>(za .i64 (.pv P27)).bind fun N59=>Yb x2 P16 (IntKind.wrap .i64 (N34+N35)) (N58==0) (N59==0) P25 0 P46 P48 P50 P52 P54 P56 x3_0 x3_1 x3_2 x3_3 x3_4 x3_5 x3_6 x3_7 x3_8 x3_9 P24 P25 P26 P27 P28 P29 P30 P31 P32 P33))) (fun A39 H40=>some (.pan A39,[[(.pv P5),(.pv P7),(.pv P9),(.pv P11),(.pv P13),(.pv P15)]]))) (
 zq (ev 130 [(.pv (Bo false))] []) (fun A38 H39=>(zf A38).bind fun P40=>xC (ev 247 [(.ptr 0 0),(.pv (I (IntKind.wrap .i64 (x3_5+1))))] [[(.pv P5),(.pv P7),(.pv P9),(.pv P11),(.pv P13),(.pv P15)]]) (fun P56 P45 P47 P49 P51 P53 P55=>cond ((IntKind.wrap .i64 (N34+N35))==0) (
  xC (ev 247 [(.ptr 0 0),(.pv P25)] [[(.pv P45),(.pv P47),(.pv P49),(.pv P51),(.pv P53),(.pv P55)]]) (fun P72 P61 P63 P65 P67 P69 P71=>some (.ret (.pv (.tup [])),[[(.pv P61),(.pv P63),(.pv P65),(.pv P67),(.pv P69),(.pv P71)]]))) (
  (za .i64 (.pv P26)).bind fun N57=>(za .i64 (.pv P27)).bind fun N58=>Yb x2 P16 (IntKind.wrap .i64 (N34+N35)) (N57==0) (N58==0) P25 0 P45 P47 P49 P51 P53 P55 x3_0 x3_1 x3_2 x3_3 x3_4 x3_5 x3_6 x3_7 x3_8 x3_9 P24 P25 P26 P27 P28 P29 P30 P31 P32 P33))) (fun A38 H39=>some (.pan A38,[[(.pv P5),(.pv P7),(.pv P9),(.pv P11),(.pv P13),(.pv P15)]])))) (
 zq (ev 130 [(.pv (Bo false))] []) (fun A37 H38=>(zf A37).bind fun P39=>xC (ev 247 [(.ptr 0 0),(.pv (I (IntKind.wrap .i64 (x3_5+1))))] [[(.pv P5),(.pv P7),(.pv P9),(.pv P11),(.pv P13),(.pv P15)]]) (fun P55 P44 P46 P48 P50 P52 P54=>cond ((IntKind.wrap .i64 (N34+N35))==0) (
  xC (ev 247 [(.ptr 0 0),(.pv P25)] [[(.pv P44),(.pv P46),(.pv P48),(.pv P50),(.pv P52),(.pv P54)]]) (fun P71 P60 P62 P64 P66 P68 P70=>some (.ret (.pv (.tup [])),[[(.pv P60),(.pv P62),(.pv P64),(.pv P66),(.pv P68),(.pv P70)]]))) (
  (za .i64 (.pv P26)).bind fun N56=>(za .i64 (.pv P27)).bind fun N57=>Yb x2 P16 (IntKind.wrap .i64 (N34+N35)) (N56==0) (N57==0) P25 0 P44 P46 P48 P50 P52 P54 x3_0 x3_1 x3_2 x3_3 x3_4 x3_5 x3_6 x3_7 x3_8 x3_9 P24 P25 P26 P27 P28 P29 P30 P31 P32 P33))) (fun A37 H38=>some (.pan A37,[[(.pv P5),(.pv P7),(.pv P9),(.pv P11),(.pv P13),(.pv P15)]]))))) (fun A21 H22=>some (.pan A21,[[(.pv P5),(.pv P7),(.pv P9),(.pv P11),(.pv P13),(.pv P15)]]))) none):=zi (fn:=Tryz.f249) _ _
theorem zk8 (x0:Int):ev 279 [(.pv (U x0))] [] =
 cp (ev 192 [(.pv (U x0))] []) (fun P3=>(Xl (.pv P3)).bind fun cs_4=>(cs_4[0]?).bind fun P5=>(za .i64 (.pv P5)).bind fun N6=>some (.ret (.pv (Bo (N6==2))),[])):=zi (fn:=Tryz.f279) _ _
theorem zla (x0:List PV) (x1:Int):ev 281 [(.pv (.sl 1 x0)),(.pv (U x1))] [] =
 cp (ev 297 [(.pv (U x1))] []) (fun P3=>tK P3 0 fun P5=>tK P3 1 fun P7=>cp (ev 276 [(.pv (.sl 1 x0)),(.pv P5),(.pv P7),(.pv (I 2))] []) (fun P10=>tK P10 0 fun P12=>tK P10 1 fun P14=>(z7 (.pv P14)).bind fun B15=>cond (!B15) (
 some (.ret (.pv (.tup [(.agg [(U 0),(I 0),(I 0)]),(I 2)])),[])) (
 (zE P12).bind fun L16=>cond ((decide (L16.1=1)&&true)&&decide (0<(L16.2.length:Int))) ((L16.2[0]?).bind fun P17=>(P17.cells[0]?).bind fun P18=>zq (ev 192 [(.pv P18)] []) (fun A19 H20=>(zf A19).bind fun P21=>(zE P12).bind fun L22=>cond ((decide (L22.1=1)&&true)&&decide (1<(L22.2.length:Int))) ((L22.2[1]?).bind fun P23=>(P23.cells[0]?).bind fun P24=>zq (ev 192 [(.pv P24)] []) (fun A25 H26=>(zf A25).bind fun P27=>wk P21 (fun P28 P29 P30 P31 P32 P33 P34 P35 P36 P37=>wk P27 (fun P38 P39 P40 P41 P42 P43 P44 P45 P46 P47=>(za .i64 (.pv P28)).bind fun N48=>cond (N48 != 2) (
  some (.ret (.pv (.tup [(.agg [(U 0),(I 0),(I 0)]),(I 3)])),[])) (
  (z7 (.pv P34)).bind fun B49=>cond B49 (
   some (.ret (.pv (.tup [(.agg [(U 0),(I 0),(I 0)]),(I 3)])),[])) (
   (za .i64 (.pv P38)).bind fun N50=>cond (decide (N50>1)) (
    some (.ret (.pv (.tup [(.agg [(U 0),(I 0),(I 0)]),(I 3)])),[])) (
    (za .i64 (.pv P39)).bind fun N51=>cond (N51 != 0) (
     some (.ret (.pv (.tup [(.agg [(U 0),(I 0),(I 0)]),(I 3)])),[])) (
     (zE P12).bind fun L52=>cond ((decide (L52.1=1)&&true)&&decide (1<(L52.2.length:Int))) ((L52.2[1]?).bind fun P53=>(P53.cells[0]?).bind fun P54=>(yB (.pv P36)).bind fun Q55=>cond (P54.isCell&&true) (cond (P35.isCell&&true) (cond ((P54.isCell&&true)&&((P35.isCell&&true)&&true)) (cond (P54.isCell&&(P35.isCell&&true)) (some (.ret (.pv (.tup [(.agg [P54,(I (IntKind.wrap .i64 Q55.2)),P35]),(I 0)])),[])) none) none) none) none) none))))))) (fun A25 H26=>none)) none) (fun A19 H20=>none)) none))):=zi (fn:=Tryz.f281) _ _
theorem zp8 (x0 x1 x2 x3:Int):ev 291 [(.pv (U x0)),(.pv (I x1)),(.pv (I x2)),(.pv (U x3))] [] =
 cp (ev 285 [(.pv (I x2))] []) (fun P3=>(za .u64 (.pv P3)).bind fun N4=>cond (yS .shl (IntKind.wrap .u64 x1)) (cond (yS .shl (IntKind.wrap .u64 x1)) (some (.ret (.pv (U (IntKind.wrap .u64 (BitVec.ofInt 64 (IntKind.wrap .u64 (BitVec.ofInt 64 x0 &&& ~~~BitVec.ofInt 64 (IntKind.wrap .u64 (N4*2^(min (IntKind.wrap .u64 x1).toNat 64)))).toNat) ||| BitVec.ofInt 64 (IntKind.wrap .u64 (BitVec.ofInt 64 (IntKind.wrap .u64 (x3*2^(min (IntKind.wrap .u64 x1).toNat 64))) &&& BitVec.ofInt 64 (IntKind.wrap .u64 (N4*2^(min (IntKind.wrap .u64 x1).toNat 64)))).toNat)).toNat))),[])) none) none):=zi (fn:=Tryz.f291) _ _
theorem zku (x0__0:List PV) (x0__1_0 x0__1_1 x0__1_2 x0__2_0 x1_0 x1_1 x1_2 x1_3 x1_4 x1_5 x1_6 x1_7 x2 x3:Int):ev 295 [(.ptr 0 0),(.pv (.agg [(I x1_0),(I x1_1),(I x1_2),(I x1_3),(I x1_4),(I x1_5),(I x1_6),(I x1_7)])),(.pv (I x2)),(.pv (I x3))] [[(.pv (.sl 1 x0__0)),(.pv (I x0__1_0)),(.pv (I x0__1_1)),(.pv (I x0__1_2)),(.pv (I x0__2_0))]] =
 zq (ev 276 [(.pv (.sl 1 x0__0)),(.pv (I x1_1)),(.pv (I x2)),(.pv (I x3))] []) (fun A1 H2=>(zf A1).bind fun P3=>tK P3 0 fun P5=>tK P3 1 fun P7=>zq (ev 117 [(.pv P5)] []) (fun A8 H9=>(zf A8).bind fun P10=>some (.ret (.pv P10),[[(.pv (.sl 1 x0__0)),(.pv (I x0__1_0)),(.pv (I x0__1_1)),(.pv (I x0__1_2)),(.pv (I x0__2_0))]])) (fun A8 H9=>some (.pan A8,[[(.pv (.sl 1 x0__0)),(.pv (I x0__1_0)),(.pv (I x0__1_1)),(.pv (I x0__1_2)),(.pv (I x0__2_0))]]))) (fun A1 H2=>some (.pan A1,[[(.pv (.sl 1 x0__0)),(.pv (I x0__1_0)),(.pv (I x0__1_1)),(.pv (I x0__1_2)),(.pv (I x0__2_0))]])):=zi (fn:=Tryz.f295) _ _
theorem znp (x0:Int):ev 344 [(.pv (U x0))] [] =
 cp (ev 245 [(.pv (U x0)),(.pv (I 2)),(.pv (I 1))] []) (fun P3=>(za .u64 (.pv P3)).bind fun N4=>cp (ev 245 [(.pv (U x0)),(.pv (I 3)),(.pv (I 29))] []) (fun P7=>(yB (.pv P7)).bind fun Q8=>cp (ev 245 [(.pv (U x0)),(.pv (I 32)),(.pv (I 32))] []) (fun P11=>(yB (.pv P11)).bind fun Q12=>some (.ret (.pv (.agg [(I 0),(I 0),(I 0),(I 0),(I 0),(I 0),(Bo (N4==1)),(I (IntKind.wrap .i64 Q8.2)),(PV.v (.int .u32 (IntKind.wrap .u32 Q12.2))),(PV.v (.int .u32 0))])),[])))):=zi (fn:=Tryz.f344) _ _
end Go.Proofs.YtjbjeeoifhegfaaGreatDoor.E
