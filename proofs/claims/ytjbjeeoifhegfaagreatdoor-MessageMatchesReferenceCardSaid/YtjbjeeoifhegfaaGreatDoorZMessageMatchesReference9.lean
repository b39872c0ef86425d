/- A part of the proof of the law MessageMatchesReference, as its statement says it: for every input; its conditions are the statement's own. -/
import Derived.KernelRfl
import Derived.Test.YtjbjeeoifhegfaaGreatDoorZMessageMatchesReference1
import Derived.Test.YtjbjeeoifhegfaaGreatDoorZMessageMatchesReference2
import Derived.Test.YtjbjeeoifhegfaaGreatDoorZMessageMatchesReference3
set_option linter.unusedVariables false
set_option linter.unusedSimpArgs false
namespace Go.Proofs.YtjbjeeoifhegfaaGreatDoor.E
theorem zjO (x0:List PV) (x1_0 x1_1 x1_2:Int):ev 15 [(.pv (.sl 1 x0)),(.pv (.agg [(I x1_0),(I x1_1),(I x1_2)]))] [] =
 cond (decide ((x0.length:Int)>4000)) (
 some (.ret (.pv (Bo false)),[])) (
 cond (decide (x1_0>40)) (
  some (.ret (.pv (Bo false)),[])) (
  cond (decide (x1_1>2000)) (
   some (.ret (.pv (Bo false)),[])) (
   cp (ev 43 [(.pv (.sl 1 x0))] []) (fun P3=>tK P3 0 fun P5=>tK P3 1 fun P7=>(za .i64 (.pv P7)).bind fun N8=>cond (N8 != 0) (
    some (.ret (.pv (Bo true)),[])) (
    cp (ev 53 [(.pv P5),(.pv (.agg [(I x1_0),(I x1_1),(I x1_2)]))] []) (fun P11=>(z7 (.pv P11)).bind fun B12=>some (.ret (.pv (Bo B12)),[]))))))):=zi (fn:=Tryz.f15) _ _
theorem zme (x0:List PV) (x1_0 x1_1 x1_2:Int):ev 17 [(.pv (.sl 1 x0)),(.pv (.agg [(I x1_0),(I x1_1),(I x1_2)]))] [] =
 cp (ev 57 [(.pv (.sl 1 x0))] []) (fun P3=>tK P3 0 fun P5=>tK P3 1 fun P7=>(xn (.pv P7)).bind fun Z8=>cond (!Z8) (
 cp (ev 56 [(.pv P7)] []) (fun P11=>some (.ret (.pv (.tup [(U 0),P11])),[]))) (
 cp (ev 55 [(.pv (.agg [(I x1_0),(I x1_1),(I x1_2)]))] []) (fun P11=>cp (ev 58 [(.pv P5),(.pv P11)] []) (fun P14=>tK P14 0 fun P16=>tK P14 1 fun P18=>some (.ret (.pv (.tup [P16,P18])),[]))))):=zi (fn:=Tryz.f17) _ _
theorem zjJ (x0 x1:List PV) (x2_0 x2_1 x2_2:Int):ev 37 [(.pv (.sl 1 x0)),(.pv (.sl 1 x1)),(.pv (.agg [(I x2_0),(I x2_1),(I x2_2)]))] [] =
 cp (ev 40 [(.pv (.sl 1 x0)),(.pv (.agg [(I x2_0),(I x2_1),(I x2_2)]))] []) (fun P3=>tK P3 0 fun P5=>tK P3 1 fun P7=>(za .i64 (.pv P7)).bind fun N8=>cond (N8 != 0) (
 some (.ret (.pv (.tup [(Bo false),P7])),[])) (
 cp (ev 40 [(.pv (.sl 1 x1)),(.pv (.agg [(I x2_0),(I x2_1),(I x2_2)]))] []) (fun P11=>tK P11 0 fun P13=>tK P11 1 fun P15=>(za .i64 (.pv P15)).bind fun N16=>cond (N16 != 0) (
  some (.ret (.pv (.tup [(Bo false),P15])),[])) (
  cp (ev 78 [(.pv P5),(.pv P13),(.pv (.agg [(I x2_0),(I x2_1),(I x2_2)]))] []) (fun P19=>tK P19 0 fun P21=>tK P19 1 fun P23=>some (.ret (.pv (.tup [P21,P23])),[])))))):=zi (fn:=Tryz.f37) _ _
theorem zjK (x0:List PV) (x1_0 x1_1 x1_2:Int):ev 40 [(.pv (.sl 1 x0)),(.pv (.agg [(I x1_0),(I x1_1),(I x1_2)]))] [] =
 cp (ev 43 [(.pv (.sl 1 x0))] []) (fun P3=>tK P3 0 fun P5=>tK P3 1 fun P7=>(za .i64 (.pv P7)).bind fun N8=>cond (N8 != 0) (
 some (.ret (.pv (.tup [(.sl 1 []),P7])),[])) (
 cp (ev 81 [(.pv P5),(.pv (.agg [(I x1_0),(I x1_1),(I x1_2)]))] []) (fun P11=>tK P11 0 fun P13=>tK P11 1 fun P15=>xJ P13 (fun P16 P17 P18 P19 P20=>some (.ret (.pv (.tup [P5,P15])),[]))))):=zi (fn:=Tryz.f40) _ _
noncomputable def XA:Code:=Tryz.f44.body.getD .skip
noncomputable def xB (xs0 xs1:List PV) (i2:Int):Option (Out×ze) :=
 zY (zs env ev zI 92 44 0 (sub XA [1,1,1,0,0,0])) (zD env 44 0 0) (zG 0 (zT (zH env ev 92 44 0 (sub XA [1,1,1,1])) (zX env 44 Tryz.f44.results.toList 0))) ⟨zQ [(0,(.pv (.sl 1 xs0))),(3,(.slu 5 1 xs1)),(4,(.pv (I i2)))],[]⟩
noncomputable def ZT (xs0 xs1:List PV) (i2:Int) (p3:PV) (i4:Int):Option (Out×ze) :=
 zY (zs env ev zI 92 44 2 (sub XA [1,1,1,0,0,0,1,0,1,1,1,1,1,1,1,0,0,0])) (zD env 44 2 0) (zG 2 (zT (zH env ev 92 44 1 (sub XA [1,1,1,0,0,0,1,0,1,1,1,1,1,1,1,1])) (zG 1 (ZM (zs env ev zI 92 44 0 (sub XA [1,1,1,0,0,0])) (zD env 44 0 0) (zG 0 (zT (zH env ev 92 44 0 (sub XA [1,1,1,1])) (zX env 44 Tryz.f44.results.toList 0))))))) ⟨zQ [(0,(.pv (.sl 1 xs0))),(3,(.slu 5 1 xs1)),(4,(.pv (I i2))),(6,(.pv p3)),(7,(.pv (I i4)))],[]⟩
theorem qJ (xs0 xs1:List PV) (i2:Int):xB xs0 xs1 i2 =
 cond (decide (i2<(xs0.length:Int))) (
 cond (decide (0<=i2)&&decide (i2<(xs0.length:Int))) ((xs0[(i2).toNat]?).bind fun P1=>(P1.cells[0]?).bind fun P2=>cp (ev 88 [(.pv P2)] []) (fun P5=>cond ((decide (P5.cells.length=1)&&P5.cells.all PV.isCell)&&true) (cond (zJ (xs1.length+1) 1) (cp (ev 89 [(.pv P2)] []) (fun P8=>(zE P8).bind fun L9=>cond (decide (L9.1=1)) (cond (zJ ((xs1++[P5]).length+L9.2.length) 1) ((za .u8 (.pv P5)).bind fun N10=>cond (N10 != 0) (
 (za .u8 (.pv P5)).bind fun N11=>cond (N11 != 255) (
 xB xs0 ((xs1++[P5])++L9.2) (IntKind.wrap .i64 (i2+1))) (
 ZT xs0 ((xs1++[P5])++L9.2) (IntKind.wrap .i64 (i2+1)) P5 0)) (
 ZT xs0 ((xs1++[P5])++L9.2) (IntKind.wrap .i64 (i2+1)) P5 0)) none) none)) none) none)) none) (
 some (.ret (.pv (.sl 1 xs1)),[])):=(z4 ..).trans (by kernel_rfl)
theorem Ki (xs0 xs1:List PV) (i2:Int) (p3:PV) (i4:Int):ZT xs0 xs1 i2 p3 i4 =
 cond (decide ((IntKind.wrap .i64 (i2+i4))<(xs0.length:Int))) (
 cond (decide (i4<255)) (
 (za .u8 (.pv p3)).bind fun N1=>cond (N1==0) (
 cond (decide (0<=(IntKind.wrap .i64 (i2+i4)))&&decide ((IntKind.wrap .i64 (i2+i4))<(xs0.length:Int))) ((xs0[(IntKind.wrap .i64 (i2+i4)).toNat]?).bind fun P2=>(P2.cells[0]?).bind fun P3=>(za .u64 (.pv P3)).bind fun N4=>cond (N4==0) (
 ZT xs0 xs1 i2 p3 (IntKind.wrap .i64 (i4+1))) (
 (za .u8 (.pv p3)).bind fun N5=>cond (N5==255) (
  cond (decide (0<=(IntKind.wrap .i64 (i2+i4)))&&decide ((IntKind.wrap .i64 (i2+i4))<(xs0.length:Int))) ((xs0[(IntKind.wrap .i64 (i2+i4)).toNat]?).bind fun P6=>(P6.cells[0]?).bind fun P7=>cp (ev 90 [(.pv P7)] []) (fun P10=>(z7 (.pv P10)).bind fun B11=>cond B11 (
  ZT xs0 xs1 i2 p3 (IntKind.wrap .i64 (i4+1))) (
  cond (zJ (xs1.length+1) 1) ((za .u8 (.pv p3)).bind fun N12=>cond (N12==255) (
   cond ((decide (0<=i2)&&decide (i2<=(IntKind.wrap .i64 (i2+i4))))&&decide ((IntKind.wrap .i64 (i2+i4))<=(xs0.length:Int))) (cp (ev 91 [(.pv (.sl 1 ((xs0.take (IntKind.wrap .i64 (i2+i4)).toNat).drop (i2).toNat)))] []) (fun P15=>(zE P15).bind fun L16=>cond (decide (L16.1=1)) (cond (zJ ((xs1++[(U8 (IntKind.wrap .u8 i4))]).length+L16.2.length) 1) (xB xs0 ((xs1++[(U8 (IntKind.wrap .u8 i4))])++L16.2) (IntKind.wrap .i64 (i2+i4))) none) none)) none) (
   xB xs0 (xs1++[(U8 (IntKind.wrap .u8 i4))]) (IntKind.wrap .i64 (i2+i4)))) none))) none) (
  cond (zJ (xs1.length+1) 1) ((za .u8 (.pv p3)).bind fun N6=>cond (N6==255) (
   cond ((decide (0<=i2)&&decide (i2<=(IntKind.wrap .i64 (i2+i4))))&&decide ((IntKind.wrap .i64 (i2+i4))<=(xs0.length:Int))) (cp (ev 91 [(.pv (.sl 1 ((xs0.take (IntKind.wrap .i64 (i2+i4)).toNat).drop (i2).toNat)))] []) (fun P9=>(zE P9).bind fun L10=>cond (decide (L10.1=1)) (cond (zJ ((xs1++[(U8 (IntKind.wrap .u8 i4))]).length+L10.2.length) 1) (xB xs0 ((xs1++[(U8 (IntKind.wrap .u8 i4))])++L10.2) (IntKind.wrap .i64 (i2+i4))) none) none)) none) (
   xB xs0 (xs1++[(U8 (IntKind.wrap .u8 i4))]) (IntKind.wrap .i64 (i2+i4)))) none))) none) (
 (za .u8 (.pv p3)).bind fun N2=>cond (N2==255) (
  cond (decide (0<=(IntKind.wrap .i64 (i2+i4)))&&decide ((IntKind.wrap .i64 (i2+i4))<(xs0.length:Int))) ((xs0[(IntKind.wrap .i64 (i2+i4)).toNat]?).bind fun P3=>(P3.cells[0]?).bind fun P4=>cp (ev 90 [(.pv P4)] []) (fun P7=>(z7 (.pv P7)).bind fun B8=>cond B8 (
  ZT xs0 xs1 i2 p3 (IntKind.wrap .i64 (i4+1))) (
  cond (zJ (xs1.length+1) 1) ((za .u8 (.pv p3)).bind fun N9=>cond (N9==255) (
   cond ((decide (0<=i2)&&decide (i2<=(IntKind.wrap .i64 (i2+i4))))&&decide ((IntKind.wrap .i64 (i2+i4))<=(xs0.length:Int))) (cp (ev 91 [(.pv (.sl 1 ((xs0.take (IntKind.wrap .i64 (i2+i4)).toNat).drop (i2).toNat)))] []) (fun P12=>(zE P12).bind fun L13=>cond (decide (L13.1=1)) (cond (zJ ((xs1++[(U8 (IntKind.wrap .u8 i4))]).length+L13.2.length) 1) (xB xs0 ((xs1++[(U8 (IntKind.wrap .u8 i4))])++L13.2) (IntKind.wrap .i64 (i2+i4))) none) none)) none) (
   xB xs0 (xs1++[(U8 (IntKind.wrap .u8 i4))]) (IntKind.wrap .i64 (i2+i4)))) none))) none) (
  cond (zJ (xs1.length+1) 1) ((za .u8 (.pv p3)).bind fun N3=>cond (N3==255) (
   cond ((decide (0<=i2)&&decide (i2<=(IntKind.wrap .i64 (i2+i4))))&&decide ((IntKind.wrap .i64 (i2+i4))<=(xs0.length:Int))) (cp (ev 91 [(.pv (.sl 1 ((xs0.take (IntKind.wrap .i64 (i2+i4)).toNat).drop (i2).toNat)))] []) (fun P6=>(zE P6).bind fun L7=>cond (decide (L7.1=1)) (cond (zJ ((xs1++[(U8 (IntKind.wrap .u8 i4))]).length+L7.2.length) 1) (xB xs0 ((xs1++[(U8 (IntKind.wrap .u8 i4))])++L7.2) (IntKind.wrap .i64 (i2+i4))) none) none)) none) (
   xB xs0 (xs1++[(U8 (IntKind.wrap .u8 i4))]) (IntKind.wrap .i64 (i2+i4)))) none))) (
 cond (zJ (xs1.length+1) 1) ((za .u8 (.pv p3)).bind fun N1=>cond (N1==255) (
  cond ((decide (0<=i2)&&decide (i2<=(IntKind.wrap .i64 (i2+i4))))&&decide ((IntKind.wrap .i64 (i2+i4))<=(xs0.length:Int))) (cp (ev 91 [(.pv (.sl 1 ((xs0.take (IntKind.wrap .i64 (i2+i4)).toNat).drop (i2).toNat)))] []) (fun P4=>(zE P4).bind fun L5=>cond (decide (L5.1=1)) (cond (zJ ((xs1++[(U8 (IntKind.wrap .u8 i4))]).length+L5.2.length) 1) (xB xs0 ((xs1++[(U8 (IntKind.wrap .u8 i4))])++L5.2) (IntKind.wrap .i64 (i2+i4))) none) none)) none) (
  xB xs0 (xs1++[(U8 (IntKind.wrap .u8 i4))]) (IntKind.wrap .i64 (i2+i4)))) none)) (
 cond (zJ (xs1.length+1) 1) ((za .u8 (.pv p3)).bind fun N1=>cond (N1==255) (
  cond ((decide (0<=i2)&&decide (i2<=(IntKind.wrap .i64 (i2+i4))))&&decide ((IntKind.wrap .i64 (i2+i4))<=(xs0.length:Int))) (cp (ev 91 [(.pv (.sl 1 ((xs0.take (IntKind.wrap .i64 (i2+i4)).toNat).drop (i2).toNat)))] []) (fun P4=>(zE P4).bind fun L5=>cond (decide (L5.1=1)) (cond (zJ ((xs1++[(U8 (IntKind.wrap .u8 i4))]).length+L5.2.length) 1) (xB xs0 ((xs1++[(U8 (IntKind.wrap .u8 i4))])++L5.2) (IntKind.wrap .i64 (i2+i4))) none) none)) none) (
  xB xs0 (xs1++[(U8 (IntKind.wrap .u8 i4))]) (IntKind.wrap .i64 (i2+i4)))) none):=(z4 ..).trans (by kernel_rfl)
theorem zjH (x0:List PV):ev 44 [(.pv (.sl 1 x0))] [] =
 xB x0 [] 0:=zi (fn:=Tryz.f44) _ _
theorem zjz (x0 x1:List PV) (x2_0 x2_1 x2_2:Int):ev 78 [(.pv (.sl 1 x0)),(.pv (.sl 1 x1)),(.pv (.agg [(I x2_0),(I x2_1),(I x2_2)]))] [] =
 cp (ev 81 [(.pv (.sl 1 x0)),(.pv (.agg [(I x2_0),(I x2_1),(I x2_2)]))] []) (fun P3=>tK P3 0 fun P5=>tK P3 1 fun P7=>xJ P5 (fun P8 P9 P10 P11 P12=>(za .i64 (.pv P7)).bind fun N13=>cond (N13 != 0) (
 some (.ret (.pv (.tup [(Bo false),P7])),[])) (
 cp (ev 81 [(.pv (.sl 1 x1)),(.pv (.agg [(I x2_0),(I x2_1),(I x2_2)]))] []) (fun P16=>tK P16 0 fun P18=>tK P16 1 fun P20=>xJ P18 (fun P21 P22 P23 P24 P25=>(za .i64 (.pv P20)).bind fun N26=>cond (N26 != 0) (
  some (.ret (.pv (.tup [(Bo false),P20])),[])) (
  cp (ev 134 [(.pv (.agg [P8,P9,P10,P11,P12])),(.pv (.agg [P21,P22,P23,P24,P25]))] []) (fun P29=>some (.ret (.pv (.tup [P29,(I 0)])),[])))))))):=zi (fn:=Tryz.f78) _ _
theorem zi5 (x0:List PV) (x1:Int):ev 85 [(.pv (.sl 1 x0)),(.pv (I x1))] [] =
 cond (decide (0<=(IntKind.wrap .i64 (4*x1)))&&decide ((IntKind.wrap .i64 (4*x1))<(x0.length:Int))) ((x0[(IntKind.wrap .i64 (4*x1)).toNat]?).bind fun P1=>(P1.cells[0]?).bind fun P2=>(yB (.pv P2)).bind fun Q3=>cond (decide (0<=(IntKind.wrap .i64 ((IntKind.wrap .i64 (4*x1))+1)))&&decide ((IntKind.wrap .i64 ((IntKind.wrap .i64 (4*x1))+1))<(x0.length:Int))) ((x0[(IntKind.wrap .i64 ((IntKind.wrap .i64 (4*x1))+1)).toNat]?).bind fun P4=>(P4.cells[0]?).bind fun P5=>(yB (.pv P5)).bind fun Q6=>cond (decide (0<=(IntKind.wrap .i64 ((IntKind.wrap .i64 (4*x1))+2)))&&decide ((IntKind.wrap .i64 ((IntKind.wrap .i64 (4*x1))+2))<(x0.length:Int))) ((x0[(IntKind.wrap .i64 ((IntKind.wrap .i64 (4*x1))+2)).toNat]?).bind fun P7=>(P7.cells[0]?).bind fun P8=>(yB (.pv P8)).bind fun Q9=>cond (decide (0<=(IntKind.wrap .i64 ((IntKind.wrap .i64 (4*x1))+3)))&&decide ((IntKind.wrap .i64 ((IntKind.wrap .i64 (4*x1))+3))<(x0.length:Int))) ((x0[(IntKind.wrap .i64 ((IntKind.wrap .i64 (4*x1))+3)).toNat]?).bind fun P10=>(P10.cells[0]?).bind fun P11=>(yB (.pv P11)).bind fun Q12=>some (.ret (.pv (I (IntKind.wrap .i64 ((IntKind.wrap .i64 ((IntKind.wrap .i64 ((IntKind.wrap .i64 Q3.2)+(IntKind.wrap .i64 (256*(IntKind.wrap .i64 Q6.2)))))+(IntKind.wrap .i64 (65536*(IntKind.wrap .i64 Q9.2)))))+(IntKind.wrap .i64 (16777216*(IntKind.wrap .i64 Q12.2))))))),[])) none) none) none) none:=zi (fn:=Tryz.f85) _ _
noncomputable def rr:Code:=Tryz.f89.body.getD .skip
noncomputable def Vn (p0:PV) (xs1:List PV) (i2:Int):Option (Out×ze) :=
 zY (zs env ev zI 26 89 0 (sub rr [1,1,1,0,1,0,0])) (zD env 89 0 0) (zG 0 (zT (zH env ev 26 89 0 (sub rr [1,1,1,1])) (zX env 89 Tryz.f89.results.toList 0))) ⟨zQ [(3,(.pv p0)),(4,(.slu 5 1 xs1)),(5,(.pv (I i2)))],[]⟩
theorem zbp (p0:PV) (xs1:List PV) (i2:Int):Vn p0 xs1 i2 =
 cond (decide (i2<8)) (
 (zE p0).bind fun L1=>cond ((decide (L1.1=1)&&decide (0<=i2))&&decide (i2<(L1.2.length:Int))) ((L1.2[(i2).toNat]?).bind fun P2=>(P2.cells[0]?).bind fun P3=>(za .u8 (.pv P3)).bind fun N4=>cond (N4 != 0) (
 (zE p0).bind fun L5=>cond ((decide (L5.1=1)&&decide (0<=i2))&&decide (i2<(L5.2.length:Int))) ((L5.2[(i2).toNat]?).bind fun P6=>(P6.cells[0]?).bind fun P7=>cond ((decide (P7.cells.length=1)&&P7.cells.all PV.isCell)&&true) (cond (zJ (xs1.length+1) 1) (Vn p0 (xs1++[P7]) (IntKind.wrap .i64 (i2+1))) none) none) none) (
 Vn p0 xs1 (IntKind.wrap .i64 (i2+1)))) none) (
 some (.ret (.pv (.sl 1 xs1)),[])):=(z4 ..).trans (by kernel_rfl)
theorem zjD (x0:Int):ev 89 [(.pv (U x0))] [] =
 cp (ev 91 [(.pv (.sl 1 [(U x0)]))] []) (fun P3=>Vn P3 [] 0):=zi (fn:=Tryz.f89) _ _
noncomputable def Qm:Code:=Tryz.f100.body.getD .skip
noncomputable def Xb (p0:PV) (i1:Int) (xs2:List PV) (p3:PV) (i4 i5 i6 i7:Int) (xs8 xs9:List PV) (p10:PV) (i11:Int) (p12 p13 p14 p15 p16 p17 p18 p19:PV):Option (Out×ze) :=
 zY (zs env ev zI 79 100 0 (sub Qm (o1 9 [0,1,0,0]))) (zD env 100 0 2) (zG 0 (zT (zH env ev 79 100 0 (sub Qm (o1 9 [1]))) (zX env 100 Tryz.f100.results.toList 0))) ⟨zQ [(9,(.pv p0)),(10,(.pv (I i1))),(11,(.slu 30 1 xs2)),(12,(.pv p3)),(13,(.pv (I i4)))],[[(.pv (I i5)),(.pv (I i6)),(.pv (I i7)),(.pv (.sl 1 xs8)),(.pv (.sl 5 xs9))],[(.pv p10),(.pv (I i11)),(.pv p12),(.pv p13),(.pv p14),(.pv p15),(.pv p16),(.pv p17),(.pv p18),(.pv p19)]]⟩
noncomputable def Vi (p0:PV) (i1:Int) (p2 p3:PV) (i4 i5 i6 i7:Int) (xs8 xs9:List PV) (p10:PV) (i11:Int) (p12 p13 p14 p15 p16 p17 p18 p19:PV):Option (Out×ze) :=
 zY (zs env ev zI 79 100 0 (sub Qm (o1 9 [0,1,0,0]))) (zD env 100 0 2) (zG 0 (zT (zH env ev 79 100 0 (sub Qm (o1 9 [1]))) (zX env 100 Tryz.f100.results.toList 0))) ⟨zQ [(9,(.pv p0)),(10,(.pv (I i1))),(11,(.pv p2)),(12,(.pv p3)),(13,(.pv (I i4)))],[[(.pv (I i5)),(.pv (I i6)),(.pv (I i7)),(.pv (.sl 1 xs8)),(.pv (.sl 5 xs9))],[(.pv p10),(.pv (I i11)),(.pv p12),(.pv p13),(.pv p14),(.pv p15),(.pv p16),(.pv p17),(.pv p18),(.pv p19)]]⟩
theorem zjs (p0:PV) (i1:Int) (xs2:List PV) (p3:PV) (i4 i5 i6 i7:Int) (xs8 xs9:List PV) (p10:PV) (i11:Int) (p12 p13 p14 p15 p16 p17 p18 p19:PV):Xb p0 i1 xs2 p3 i4 i5 i6 i7 xs8 xs9 p10 i11 p12 p13 p14 p15 p16 p17 p18 p19 =
 (zE p3).bind fun L1=>cond (decide (i4<(L1.2.length:Int))) (
 (zE p0).bind fun L2=>cond ((decide (L2.1=1)&&decide (0<=i4))&&decide (i4<(L2.2.length:Int))) ((L2.2[(i4).toNat]?).bind fun P3=>(P3.cells[0]?).bind fun P4=>(za .i64 (.pv P4)).bind fun N5=>(zE p3).bind fun L6=>cond ((decide (L6.1=5)&&decide (0<=i4))&&decide (i4<(L6.2.length:Int))) ((L6.2[(i4).toNat]?).bind fun P7=>cond (decide (5<=P7.cells.length)) (cp (ev 100 [(.pv (.sl 1 xs2)),(.pv (I (IntKind.wrap .i64 (i1+N5)))),(.pv (.agg ((P7.cells.drop 0).take 5)))] []) (fun P10=>Vi p0 i1 P10 p3 (IntKind.wrap .i64 (i4+1)) i5 i6 i7 xs8 xs9 p10 i11 p12 p13 p14 p15 p16 p17 p18 p19)) none) none) none) (
 some (.ret (.pv (.sl 1 xs2)),[])):=(z4 ..).trans (by kernel_rfl)
theorem qE (p0:PV) (i1:Int) (p2 p3:PV) (i4 i5 i6 i7:Int) (xs8 xs9:List PV) (p10:PV) (i11:Int) (p12 p13 p14 p15 p16 p17 p18 p19:PV):Vi p0 i1 p2 p3 i4 i5 i6 i7 xs8 xs9 p10 i11 p12 p13 p14 p15 p16 p17 p18 p19 =
 (zE p3).bind fun L1=>cond (decide (i4<(L1.2.length:Int))) (
 (zE p0).bind fun L2=>cond ((decide (L2.1=1)&&decide (0<=i4))&&decide (i4<(L2.2.length:Int))) ((L2.2[(i4).toNat]?).bind fun P3=>(P3.cells[0]?).bind fun P4=>(za .i64 (.pv P4)).bind fun N5=>(zE p3).bind fun L6=>cond ((decide (L6.1=5)&&decide (0<=i4))&&decide (i4<(L6.2.length:Int))) ((L6.2[(i4).toNat]?).bind fun P7=>cond (decide (5<=P7.cells.length)) (cp (ev 100 [(.pv p2),(.pv (I (IntKind.wrap .i64 (i1+N5)))),(.pv (.agg ((P7.cells.drop 0).take 5)))] []) (fun P10=>Vi p0 i1 P10 p3 (IntKind.wrap .i64 (i4+1)) i5 i6 i7 xs8 xs9 p10 i11 p12 p13 p14 p15 p16 p17 p18 p19)) none) none) none) (
 some (.ret (.pv p2),[])):=(z4 ..).trans (by kernel_rfl)
theorem qF (x0:List PV) (x1 x2_0 x2_1 x2_2:Int) (x2_3 x2_4:List PV):ev 100 [(.pv (.sl 1 x0)),(.pv (I x1)),(.pv (.agg [(I x2_0),(I x2_1),(I x2_2),(.sl 1 x2_3),(.sl 5 x2_4)]))] [] =
 cond (x2_0==0) (
 some (.ret (.pv (.sl 1 x0)),[])) (
 cp (ev 158 [(.pv (.agg [(I x2_0),(I x2_1),(I x2_2),(.sl 1 x2_3),(.sl 5 x2_4)]))] []) (fun P3=>tK P3 0 fun P5=>tK P3 1 fun P7=>tK P3 2 fun P9=>wk P7 (fun P10 P11 P12 P13 P14 P15 P16 P17 P18 P19=>(za .i64 (.pv P10)).bind fun N20=>cond (N20==0) (
  (za .i64 (.pv P12)).bind fun N21=>cond (N21==0) (
  (za .i64 (.pv P13)).bind fun N22=>cond (N22==0) (
  cond (zJ (0+x0.length) 8) ((zE P5).bind fun L23=>cond (decide (L23.1=1)) (cond (zJ (x0.length+L23.2.length) 8) (cp (ev 159 [(.pv (.agg [P10,(I (-1)),P12,P13,P14,P15,P16,P17,P18,P19]))] []) (fun P26=>tK P26 0 fun P28=>tK P26 1 fun P30=>cond (decide (0<=x1)&&decide (x1<((x0++L23.2).length:Int))) (cond (P28.isCell&&true) (cond (P28.isCell&&true) (((x0++L23.2)[(x1).toNat]?).bind fun P31=>cond (decide (1<=P31.cells.length)) ((setCells P31 0 [P28]).bind fun P32=>cp (ev 160 [(.pv (.agg [(I x2_0),(I x2_1),(I x2_2),(.sl 1 x2_3),(.sl 5 x2_4)]))] []) (fun P35=>Xb P9 (x0.length:Int) ((x0++L23.2).set (x1).toNat P32) P35 0 x2_0 x2_1 x2_2 x2_3 x2_4 P10 (-1) P12 P13 P14 P15 P16 P17 P18 P19)) none) none) none) none)) none) none) none) (
  cond (zJ (0+x0.length) 8) ((zE P5).bind fun L23=>cond (decide (L23.1=1)) (cond (zJ (x0.length+L23.2.length) 8) (cp (ev 159 [(.pv (.agg [P10,(I (IntKind.wrap .i64 ((IntKind.wrap .i64 ((x0.length:Int)-x1))-1))),P12,P13,P14,P15,P16,P17,P18,P19]))] []) (fun P26=>tK P26 0 fun P28=>tK P26 1 fun P30=>cond (decide (0<=x1)&&decide (x1<((x0++L23.2).length:Int))) (cond (P28.isCell&&true) (cond (P28.isCell&&true) (((x0++L23.2)[(x1).toNat]?).bind fun P31=>cond (decide (1<=P31.cells.length)) ((setCells P31 0 [P28]).bind fun P32=>cp (ev 160 [(.pv (.agg [(I x2_0),(I x2_1),(I x2_2),(.sl 1 x2_3),(.sl 5 x2_4)]))] []) (fun P35=>Xb P9 (x0.length:Int) ((x0++L23.2).set (x1).toNat P32) P35 0 x2_0 x2_1 x2_2 x2_3 x2_4 P10 (IntKind.wrap .i64 ((IntKind.wrap .i64 ((x0.length:Int)-x1))-1)) P12 P13 P14 P15 P16 P17 P18 P19)) none) none) none) none)) none) none) none)) (
  cond (zJ (0+x0.length) 8) ((zE P5).bind fun L22=>cond (decide (L22.1=1)) (cond (zJ (x0.length+L22.2.length) 8) (cp (ev 159 [(.pv (.agg [P10,(I (IntKind.wrap .i64 ((IntKind.wrap .i64 ((x0.length:Int)-x1))-1))),P12,P13,P14,P15,P16,P17,P18,P19]))] []) (fun P25=>tK P25 0 fun P27=>tK P25 1 fun P29=>cond (decide (0<=x1)&&decide (x1<((x0++L22.2).length:Int))) (cond (P27.isCell&&true) (cond (P27.isCell&&true) (((x0++L22.2)[(x1).toNat]?).bind fun P30=>cond (decide (1<=P30.cells.length)) ((setCells P30 0 [P27]).bind fun P31=>cp (ev 160 [(.pv (.agg [(I x2_0),(I x2_1),(I x2_2),(.sl 1 x2_3),(.sl 5 x2_4)]))] []) (fun P34=>Xb P9 (x0.length:Int) ((x0++L22.2).set (x1).toNat P31) P34 0 x2_0 x2_1 x2_2 x2_3 x2_4 P10 (IntKind.wrap .i64 ((IntKind.wrap .i64 ((x0.length:Int)-x1))-1)) P12 P13 P14 P15 P16 P17 P18 P19)) none) none) none) none)) none) none) none)) (
  cond (zJ (0+x0.length) 8) ((zE P5).bind fun L21=>cond (decide (L21.1=1)) (cond (zJ (x0.length+L21.2.length) 8) (cp (ev 159 [(.pv (.agg [P10,(I (IntKind.wrap .i64 ((IntKind.wrap .i64 ((x0.length:Int)-x1))-1))),P12,P13,P14,P15,P16,P17,P18,P19]))] []) (fun P24=>tK P24 0 fun P26=>tK P24 1 fun P28=>cond (decide (0<=x1)&&decide (x1<((x0++L21.2).length:Int))) (cond (P26.isCell&&true) (cond (P26.isCell&&true) (((x0++L21.2)[(x1).toNat]?).bind fun P29=>cond (decide (1<=P29.cells.length)) ((setCells P29 0 [P26]).bind fun P30=>cp (ev 160 [(.pv (.agg [(I x2_0),(I x2_1),(I x2_2),(.sl 1 x2_3),(.sl 5 x2_4)]))] []) (fun P33=>Xb P9 (x0.length:Int) ((x0++L21.2).set (x1).toNat P30) P33 0 x2_0 x2_1 x2_2 x2_3 x2_4 P10 (IntKind.wrap .i64 ((IntKind.wrap .i64 ((x0.length:Int)-x1))-1)) P12 P13 P14 P15 P16 P17 P18 P19)) none) none) none) none)) none) none) none)))):=zi (fn:=Tryz.f100) _ _
noncomputable def rj:Code:=Tryz.f127.body.getD .skip
noncomputable def Xa (i0 i1 i2 i3 i4 i5:Int) (xs6 xs7:List PV):Option (Out×ze) :=
 zY (zs env ev zI 50 127 0 (sub rj [1,1,1,0,1,0,0])) (zD env 127 0 1) (zG 0 (zT (zH env ev 50 127 0 (sub rj [1,1,1,1])) (zX env 127 Tryz.f127.results.toList 0))) ⟨zQ [(1,(.ptr 0 0)),(4,(.pv (I i0))),(5,(.pv (I i1))),(6,(.pv (I i2)))],[[(.pv (I i3)),(.pv (I i4)),(.pv (I i5)),(.pv (.sl 1 xs6)),(.pv (.sl 5 xs7))]]⟩
theorem zba (i0 i1 i2 i3 i4 i5:Int) (xs6 xs7:List PV):Xa i0 i1 i2 i3 i4 i5 xs6 xs7 =
 cond (decide (i2<(xs7.length:Int))) (
 cond (decide (0<=i2)&&decide (i2<(xs7.length:Int))) ((xs7[(i2).toNat]?).bind fun P1=>(P1.cells[3]?).bind fun P2=>(zE P2).bind fun L3=>cond (decide ((IntKind.wrap .i64 (Int.tdiv (L3.2.length:Int) 8))>i0)) (
 cond (decide (0<=i2)&&decide (i2<(xs7.length:Int))) ((xs7[(i2).toNat]?).bind fun P4=>(P4.cells[3]?).bind fun P5=>(zE P5).bind fun L6=>cond (decide (0<=i2)&&decide (i2<(xs7.length:Int))) ((xs7[(i2).toNat]?).bind fun P7=>(P7.cells[4]?).bind fun P8=>(zE P8).bind fun L9=>cond (decide ((L9.2.length:Int)>i1)) (
 cond (decide (0<=i2)&&decide (i2<(xs7.length:Int))) ((xs7[(i2).toNat]?).bind fun P10=>(P10.cells[4]?).bind fun P11=>(zE P11).bind fun L12=>Xa (IntKind.wrap .i64 (Int.tdiv (L6.2.length:Int) 8)) (L12.2.length:Int) (IntKind.wrap .i64 (i2+1)) i3 i4 i5 xs6 xs7) none) (
 Xa (IntKind.wrap .i64 (Int.tdiv (L6.2.length:Int) 8)) i1 (IntKind.wrap .i64 (i2+1)) i3 i4 i5 xs6 xs7)) none) none) (
 cond (decide (0<=i2)&&decide (i2<(xs7.length:Int))) ((xs7[(i2).toNat]?).bind fun P4=>(P4.cells[4]?).bind fun P5=>(zE P5).bind fun L6=>cond (decide ((L6.2.length:Int)>i1)) (
  cond (decide (0<=i2)&&decide (i2<(xs7.length:Int))) ((xs7[(i2).toNat]?).bind fun P7=>(P7.cells[4]?).bind fun P8=>(zE P8).bind fun L9=>Xa i0 (L9.2.length:Int) (IntKind.wrap .i64 (i2+1)) i3 i4 i5 xs6 xs7) none) (
  Xa i0 i1 (IntKind.wrap .i64 (i2+1)) i3 i4 i5 xs6 xs7)) none)) none) (
 some (.ret (.pv (.tup [(I i0),(I i1)])),[])):=(z4 ..).trans (by kernel_rfl)
theorem zjn (x0_0 x0_1 x0_2:Int) (x0_3 x0_4:List PV):ev 127 [(.pv (.agg [(I x0_0),(I x0_1),(I x0_2),(.sl 1 x0_3),(.sl 5 x0_4)]))] [] =
 Xa 0 0 0 x0_0 x0_1 x0_2 x0_3 x0_4:=zi (fn:=Tryz.f127) _ _
theorem zje (x0:List PV) (x1 x2:Int):ev 136 [(.pv (.sl 1 x0)),(.pv (I x1)),(.pv (I x2))] [] =
 cp (ev 197 [(.pv (.sl 1 x0)),(.pv (I x1)),(.pv (I x2))] []) (fun P3=>tK P3 0 fun P5=>tK P3 1 fun P7=>(z7 (.pv P7)).bind fun B8=>cond (!B8) (
 some (.ret (.pv (.tup [(U 0),(I 0),(I 0),(I 2)])),[])) (
 cp (ev 198 [(.pv P5)] []) (fun P11=>(z7 (.pv P11)).bind fun B12=>cond (!B12) (
  some (.ret (.pv (.tup [P5,(I x1),(I (IntKind.wrap .i64 (x2+1))),(I 0)])),[])) (
  cp (ev 199 [(.pv P5)] []) (fun P15=>tK P15 0 fun P17=>tK P15 1 fun P19=>cp (ev 197 [(.pv (.sl 1 x0)),(.pv P17),(.pv P19)] []) (fun P22=>tK P22 0 fun P24=>tK P22 1 fun P26=>(z7 (.pv P26)).bind fun B27=>cond (!B27) (
   some (.ret (.pv (.tup [(U 0),(I 0),(I 0),(I 2)])),[])) (
   (za .u64 (.pv P5)).bind fun N28=>cond ((Int.tmod (IntKind.wrap .u64 (Int.tdiv N28 4)) 2)==0) (
    cp (ev 198 [(.pv P24)] []) (fun P31=>(z7 (.pv P31)).bind fun B32=>cond B32 (
    some (.ret (.pv (.tup [(U 0),(I 0),(I 0),(I 3)])),[])) (
    (za .i64 (.pv P19)).bind fun N33=>some (.ret (.pv (.tup [P24,P17,(I (IntKind.wrap .i64 (N33+1))),(I 0)])),[])))) (
    (za .i64 (.pv P19)).bind fun N29=>cp (ev 197 [(.pv (.sl 1 x0)),(.pv P17),(.pv (I (IntKind.wrap .i64 (N29+1))))] []) (fun P32=>tK P32 0 fun P34=>tK P32 1 fun P36=>(z7 (.pv P36)).bind fun B37=>cond (!B37) (
     some (.ret (.pv (.tup [(U 0),(I 0),(I 0),(I 2)])),[])) (
     cp (ev 195 [(.pv P34)] []) (fun P40=>wk P40 (fun P41 P42 P43 P44 P45 P46 P47 P48 P49 P50=>cp (ev 198 [(.pv P24)] []) (fun P53=>(z7 (.pv P53)).bind fun B54=>cond (!B54) (
      some (.ret (.pv (.tup [(U 0),(I 0),(I 0),(I 3)])),[])) (
      (za .u64 (.pv P24)).bind fun N55=>cond ((Int.tmod (IntKind.wrap .u64 (Int.tdiv N55 4)) 2)==1) (
       some (.ret (.pv (.tup [(U 0),(I 0),(I 0),(I 3)])),[])) (
       (za .i64 (.pv P41)).bind fun N56=>cond (decide (N56>1)) (
        some (.ret (.pv (.tup [(U 0),(I 0),(I 0),(I 3)])),[])) (
        (za .i64 (.pv P42)).bind fun N57=>cond (N57 != 0) (
         some (.ret (.pv (.tup [(U 0),(I 0),(I 0),(I 3)])),[])) (
         cp (ev 199 [(.pv P24)] []) (fun P60=>tK P60 0 fun P62=>tK P60 1 fun P64=>some (.ret (.pv (.tup [P34,P62,P64,(I 0)])),[]))))))))))))))))))):=zi (fn:=Tryz.f136) _ _
theorem zjh (x0_0 x0_1 x0_2 x0_3 x0_4 x0_5 x0_6 x0_7 x1:Int):ev 141 [(.pv (.agg [(I x0_0),(I x0_1),(I x0_2),(I x0_3),(I x0_4),(I x0_5),(I x0_6),(I x0_7)])),(.pv (I x1))] [] =
 some (.ret (.pv (.agg [(I 1),(I x0_1),(I (IntKind.wrap .i64 (x0_2+(IntKind.wrap .i64 (x1*(IntKind.wrap .i64 (x0_3+x0_4))))))),(I x0_3),(I x0_4),(I 0),(I 0),(I 0)])),[]):=zi (fn:=Tryz.f141) _ _
noncomputable def Za:Code:=Tryz.f158.body.getD .skip
noncomputable def Kd (xs0 xs1:List PV) (i2 i3 i4 i5:Int) (xs6 xs7:List PV) (i8 i9 i10 i11 i12 i13:Int) (b14:Bool) (i15 i16 i17 i18 i19 i20 i21 i22 i23:Int) (b24:Bool) (i25 i26 i27:Int):Option (Out×ze) :=
 zY (zs env ev zI 143 158 0 (sub Za [1,1,1,0,1,0,1,1,1,0,1,0,0])) (zD env 158 0 3) (zG 0 (zT (zH env ev 143 158 0 (sub Za [1,1,1,0,1,0,1,1,1,1])) (zT (zH env ev 143 158 0 (sub Za [1,1,1,1])) (zX env 158 Tryz.f158.results.toList 0)))) ⟨zQ [(3,(.ptr 1 0)),(5,(.ptr 2 0)),(6,(.slu 3 1 xs0)),(7,(.slu 30 1 xs1)),(8,(.pv (I i2)))],[[(.pv (I i3)),(.pv (I i4)),(.pv (I i5)),(.pv (.sl 1 xs6)),(.pv (.sl 5 xs7))],[(.pv (I i8)),(.pv (I i9)),(.pv (I i10)),(.pv (I i11)),(.pv (I i12)),(.pv (I i13)),(.pv (Bo b14)),(.pv (I i15)),(.pv (PV.v (.int .u32 i16))),(.pv (PV.v (.int .u32 i17)))],[(.pv (I i18)),(.pv (I i19)),(.pv (I i20)),(.pv (I i21)),(.pv (I i22)),(.pv (I i23)),(.pv (Bo b24)),(.pv (I i25)),(.pv (PV.v (.int .u32 i26))),(.pv (PV.v (.int .u32 i27)))]]⟩
noncomputable def Ke (xs0 xs1:List PV) (i2 i3 i4 i5:Int) (xs6 xs7:List PV) (i8 i9 i10 i11 i12 i13:Int) (b14:Bool) (i15 i16 i17 i18 i19 i20 i21 i22 i23:Int) (b24:Bool) (i25 i26 i27:Int):Option (Out×ze) :=
 zY (zs env ev zI 143 158 2 (sub Za (o1 7 [0,1,0,1,0,1,0,0]))) (zD env 158 2 3) (zG 2 (zT (zH env ev 143 158 0 (sub Za (o1 7 [0,1,0,1,1]))) (zT (zH env ev 143 158 0 (sub Za (o1 7 [1]))) (zX env 158 Tryz.f158.results.toList 0)))) ⟨zQ [(1,(.ptr 0 0)),(3,(.ptr 1 0)),(5,(.ptr 2 0)),(6,(.slu 3 1 xs0)),(9,(.slu 30 1 xs1)),(10,(.pv (I i2)))],[[(.pv (I i3)),(.pv (I i4)),(.pv (I i5)),(.pv (.sl 1 xs6)),(.pv (.sl 5 xs7))],[(.pv (I i8)),(.pv (I i9)),(.pv (I i10)),(.pv (I i11)),(.pv (I i12)),(.pv (I i13)),(.pv (Bo b14)),(.pv (I i15)),(.pv (PV.v (.int .u32 i16))),(.pv (PV.v (.int .u32 i17)))],[(.pv (I i18)),(.pv (I i19)),(.pv (I i20)),(.pv (I i21)),(.pv (I i22)),(.pv (I i23)),(.pv (Bo b24)),(.pv (I i25)),(.pv (PV.v (.int .u32 i26))),(.pv (PV.v (.int .u32 i27)))]]⟩
noncomputable def Vj (xs0:List PV) (p1 p2:PV) (xs3:List PV) (i4 i5 i6 i7:Int) (xs8 xs9:List PV) (i10 i11 i12 i13 i14 i15:Int) (b16:Bool) (i17 i18 i19 i20 i21 i22 i23 i24 i25:Int) (b26:Bool) (i27 i28 i29:Int):Option (Out×ze) :=
 zY (zs env ev zI 143 158 4 (sub Za (o1 11 [0,1,0,0]))) (zD env 158 4 3) (zG 4 (zT (zH env ev 143 158 0 (sub Za (o1 11 [1]))) (zX env 158 Tryz.f158.results.toList 0))) ⟨zQ [(1,(.ptr 0 0)),(3,(.ptr 1 0)),(5,(.ptr 2 0)),(6,(.slu 3 1 xs0)),(11,(.pv p1)),(12,(.pv p2)),(15,(.slu 30 1 xs3)),(16,(.pv (I i4)))],[[(.pv (I i5)),(.pv (I i6)),(.pv (I i7)),(.pv (.sl 1 xs8)),(.pv (.sl 5 xs9))],[(.pv (I i10)),(.pv (I i11)),(.pv (I i12)),(.pv (I i13)),(.pv (I i14)),(.pv (I i15)),(.pv (Bo b16)),(.pv (I i17)),(.pv (PV.v (.int .u32 i18))),(.pv (PV.v (.int .u32 i19)))],[(.pv (I i20)),(.pv (I i21)),(.pv (I i22)),(.pv (I i23)),(.pv (I i24)),(.pv (I i25)),(.pv (Bo b26)),(.pv (I i27)),(.pv (PV.v (.int .u32 i28))),(.pv (PV.v (.int .u32 i29)))]]⟩
noncomputable def Vk (xs0:List PV) (p1 p2:PV) (xs3:List PV) (i4 i5 i6 i7 i8:Int) (xs9 xs10:List PV) (i11 i12 i13 i14 i15 i16:Int) (b17:Bool) (i18 i19 i20 i21 i22 i23 i24 i25 i26:Int) (b27:Bool) (i28 i29 i30:Int):Option (Out×ze) :=
 zY (zs env ev zI 143 158 6 (sub Za (o1 11 [0,1,0,0,1,0,0,1,1,0,0]))) (zD env 158 6 3) (zG 6 (zG 5 (zT (zH env ev 143 158 4 (sub Za (o1 11 [0,1,0,0,1,1]))) (ZM (zs env ev zI 143 158 4 (sub Za (o1 11 [0,1,0,0]))) (zD env 158 4 3) (zG 4 (zT (zH env ev 143 158 0 (sub Za (o1 11 [1]))) (zX env 158 Tryz.f158.results.toList 0))))))) ⟨zQ [(1,(.ptr 0 0)),(3,(.ptr 1 0)),(5,(.ptr 2 0)),(6,(.slu 3 1 xs0)),(11,(.pv p1)),(12,(.pv p2)),(15,(.slu 30 1 xs3)),(16,(.pv (I i4))),(17,(.pv (I i5)))],[[(.pv (I i6)),(.pv (I i7)),(.pv (I i8)),(.pv (.sl 1 xs9)),(.pv (.sl 5 xs10))],[(.pv (I i11)),(.pv (I i12)),(.pv (I i13)),(.pv (I i14)),(.pv (I i15)),(.pv (I i16)),(.pv (Bo b17)),(.pv (I i18)),(.pv (PV.v (.int .u32 i19))),(.pv (PV.v (.int .u32 i20)))],[(.pv (I i21)),(.pv (I i22)),(.pv (I i23)),(.pv (I i24)),(.pv (I i25)),(.pv (I i26)),(.pv (Bo b27)),(.pv (I i28)),(.pv (PV.v (.int .u32 i29))),(.pv (PV.v (.int .u32 i30)))]]⟩
theorem zbf (xs0 xs1:List PV) (i2 i3 i4 i5:Int) (xs6 xs7:List PV) (i8 i9 i10 i11 i12 i13:Int) (b14:Bool) (i15 i16 i17 i18 i19 i20 i21 i22 i23:Int) (b24:Bool) (i25 i26 i27:Int):Kd xs0 xs1 i2 i3 i4 i5 xs6 xs7 i8 i9 i10 i11 i12 i13 b14 i15 i16 i17 i18 i19 i20 i21 i22 i23 b24 i25 i26 i27 =
 cond (decide (i2<i21)) (
 cond (zJ (xs0.length+1) 8) (cond (zJ (xs1.length+1) 8) (Kd (xs0++[(I (xs1.length:Int))]) (xs1++[(U 0)]) (IntKind.wrap .i64 (i2+1)) i3 i4 i5 xs6 xs7 i8 i9 i10 i11 i12 i13 b14 i15 i16 i17 i18 i19 i20 i21 i22 i23 b24 i25 i26 i27) none) none) (
 some (.ret (.pv (.tup [(.sl 1 xs1),(.agg [(I i18),(I i19),(I i20),(I i21),(I i22),(I i23),(Bo b24),(I i25),(PV.v (.int .u32 i26)),(PV.v (.int .u32 i27))]),(.sl 1 xs0)])),[])):=(z4 ..).trans (by kernel_rfl)
theorem zbg (xs0 xs1:List PV) (i2 i3 i4 i5:Int) (xs6 xs7:List PV) (i8 i9 i10 i11 i12 i13:Int) (b14:Bool) (i15 i16 i17 i18 i19 i20 i21 i22 i23:Int) (b24:Bool) (i25 i26 i27:Int):Ke xs0 xs1 i2 i3 i4 i5 xs6 xs7 i8 i9 i10 i11 i12 i13 b14 i15 i16 i17 i18 i19 i20 i21 i22 i23 b24 i25 i26 i27 =
 cond (decide (i2<(xs7.length:Int))) (
 cond (zJ (xs0.length+1) 8) (Ke (xs0++[(I i2)]) xs1 (IntKind.wrap .i64 (i2+1)) i3 i4 i5 xs6 xs7 i8 i9 i10 i11 i12 i13 b14 i15 i16 i17 i18 i19 i20 i21 i22 i23 b24 i25 i26 i27) none) (
 some (.ret (.pv (.tup [(.sl 1 xs1),(.agg [(I i18),(I i19),(I i20),(I i21),(I i22),(I i23),(Bo b24),(I i25),(PV.v (.int .u32 i26)),(PV.v (.int .u32 i27))]),(.sl 1 xs0)])),[])):=(z4 ..).trans (by kernel_rfl)
theorem zbh (xs0:List PV) (p1 p2:PV) (xs3:List PV) (i4 i5 i6 i7:Int) (xs8 xs9:List PV) (i10 i11 i12 i13 i14 i15:Int) (b16:Bool) (i17 i18 i19 i20 i21 i22 i23 i24 i25:Int) (b26:Bool) (i27 i28 i29:Int):Vj xs0 p1 p2 xs3 i4 i5 i6 i7 xs8 xs9 i10 i11 i12 i13 i14 i15 b16 i17 i18 i19 i20 i21 i22 i23 i24 i25 b26 i27 i28 i29 =
 cond (decide (i4<(xs9.length:Int))) (
 cond (decide (0<=i4)&&decide (i4<(xs9.length:Int))) ((xs9[(i4).toNat]?).bind fun P1=>(P1.cells[3]?).bind fun P2=>zq (ev 222 [(.pv P2),(.pv p1)] []) (fun A3 H4=>(yx 30 1 A3).bind fun X5=>cond (zJ (xs3.length+X5.length) 8) (Vk xs0 p1 p2 (xs3++X5) i4 0 i5 i6 i7 xs8 xs9 i10 i11 i12 i13 i14 i15 b16 i17 i18 i19 i20 i21 i22 i23 i24 i25 b26 i27 i28 i29) none) (fun A3 H4=>some (.pan A3,[]))) none) (
 some (.ret (.pv (.tup [(.sl 1 xs3),(.agg [(I i20),(I i21),(I i22),(I i23),(I i24),(I (IntKind.wrap .i64 ((xs3.length:Int)-1))),(Bo b26),(I i27),(PV.v (.int .u32 i28)),(PV.v (.int .u32 i29))]),(.sl 1 xs0)])),[])):=(z4 ..).trans (by kernel_rfl)
theorem zbi (xs0:List PV) (p1 p2:PV) (xs3:List PV) (i4 i5 i6 i7 i8:Int) (xs9 xs10:List PV) (i11 i12 i13 i14 i15 i16:Int) (b17:Bool) (i18 i19 i20 i21 i22 i23 i24 i25 i26:Int) (b27:Bool) (i28 i29 i30:Int):Vk xs0 p1 p2 xs3 i4 i5 i6 i7 i8 xs9 xs10 i11 i12 i13 i14 i15 i16 b17 i18 i19 i20 i21 i22 i23 i24 i25 i26 b27 i28 i29 i30 =
 (za .i64 (.pv p2)).bind fun N1=>cond (decide (i5<N1)) (
 cond (decide (0<=i4)&&decide (i4<(xs10.length:Int))) ((xs10[(i4).toNat]?).bind fun P2=>(P2.cells[4]?).bind fun P3=>(zE P3).bind fun L4=>cond (decide (i5<(L4.2.length:Int))) (
 cond (zJ (xs0.length+1) 8) (cond (zJ (xs3.length+1) 8) (Vk (xs0++[(I (xs3.length:Int))]) p1 p2 (xs3++[(U 0)]) i4 (IntKind.wrap .i64 (i5+1)) i6 i7 i8 xs9 xs10 i11 i12 i13 i14 i15 i16 b17 i18 i19 i20 i21 i22 i23 i24 i25 i26 b27 i28 i29 i30) none) none) (
 cond (zJ (xs3.length+1) 8) (Vk xs0 p1 p2 (xs3++[(U 0)]) i4 (IntKind.wrap .i64 (i5+1)) i6 i7 i8 xs9 xs10 i11 i12 i13 i14 i15 i16 b17 i18 i19 i20 i21 i22 i23 i24 i25 i26 b27 i28 i29 i30) none)) none) (
 Vj xs0 p1 p2 xs3 (IntKind.wrap .i64 (i4+1)) i6 i7 i8 xs9 xs10 i11 i12 i13 i14 i15 i16 b17 i18 i19 i20 i21 i22 i23 i24 i25 i26 b27 i28 i29 i30):=(z4 ..).trans (by kernel_rfl)
theorem qG (x0_0 x0_1 x0_2:Int) (x0_3 x0_4:List PV):ev 158 [(.pv (.agg [(I x0_0),(I x0_1),(I x0_2),(.sl 1 x0_3),(.sl 5 x0_4)]))] [] =
 cond (x0_0==1) (
 zq (ev 222 [(.pv (.sl 1 x0_3)),(.pv (I (IntKind.wrap .i64 (Int.tdiv (x0_3.length:Int) 8))))] []) (fun A1 H2=>(yx 30 1 A1).bind fun X3=>Kd [] X3 0 x0_0 x0_1 x0_2 x0_3 x0_4 0 0 0 0 0 0 false 0 0 0 0 0 (IntKind.wrap .i64 (Int.tdiv (x0_3.length:Int) 8)) (x0_4.length:Int) 0 0 false 0 0 0) (fun A1 H2=>some (.pan A1,[]))) (
 cond (x0_1 != 7) (
  cp (ev 73 [(.pv (.agg [(I x0_0),(I x0_1),(I x0_2),(.sl 1 x0_3),(.sl 5 x0_4)]))] []) (fun P3=>zq (ev 222 [(.pv (.sl 1 x0_3)),(.pv P3)] []) (fun A4 H5=>(yx 30 1 A4).bind fun X6=>Ke [] X6 0 x0_0 x0_1 x0_2 x0_3 x0_4 0 0 0 0 0 0 false 0 0 0 1 0 0 0 x0_1 x0_2 false 0 0 0) (fun A4 H5=>some (.pan A4,[])))) (
  cp (ev 127 [(.pv (.agg [(I x0_0),(I x0_1),(I x0_2),(.sl 1 x0_3),(.sl 5 x0_4)]))] []) (fun P3=>tK P3 0 fun P5=>tK P3 1 fun P7=>cond (P5.isCell&&true) (cond (P7.isCell&&true) (cond ((P5.isCell&&true)&&((P7.isCell&&true)&&true)) (cp (ev 159 [(.pv (.agg [(I 0),(I x0_2),P5,P7,(I 0),(I 0),(Bo false),(I 0),(PV.v (.int .u32 0)),(PV.v (.int .u32 0))]))] []) (fun P10=>tK P10 0 fun P12=>tK P10 1 fun P14=>cond ((decide (P12.cells.length=1)&&P12.cells.all PV.isCell)&&true) (Vj [] P5 P7 [P12] 0 x0_0 x0_1 x0_2 x0_3 x0_4 0 0 0 0 0 0 false 0 0 0 1 0 0 0 x0_1 x0_2 false 0 0 0) none)) none) none) none))):=zi (fn:=Tryz.f158) _ _
theorem zaJ (x0__0:List PV) (x0__1 x0__2_0 x0__2_1 x0__2_2 x0__3_0 x1 x2 x3_0 x3_1 x3_2 x3_3 x3_4 x3_5:Int) (x3_6:Bool) (x3_7 x3_8 x3_9:Int):ev 194 [(.ptr 0 0),(.pv (I x1)),(.pv (I x2)),(.pv (.agg [(I x3_0),(I x3_1),(I x3_2),(I x3_3),(I x3_4),(I x3_5),(Bo x3_6),(I x3_7),(PV.v (.int .u32 x3_8)),(PV.v (.int .u32 x3_9))]))] [[(.pv (.sl 1 x0__0)),(.pv (I x0__1)),(.pv (I x0__2_0)),(.pv (I x0__2_1)),(.pv (I x0__2_2)),(.pv (I x0__3_0))]] =
 cond (x3_4==7) (
 xC (ev 249 [(.ptr 0 0),(.pv (I x1)),(.pv (I x2)),(.pv (.agg [(I x3_0),(I x3_1),(I x3_2),(I x3_3),(I x3_4),(I x3_5),(Bo x3_6),(I x3_7),(PV.v (.int .u32 x3_8)),(PV.v (.int .u32 x3_9))]))] [[(.pv (.sl 1 x0__0)),(.pv (I x0__1)),(.pv (I x0__2_0)),(.pv (I x0__2_1)),(.pv (I x0__2_2)),(.pv (I x0__3_0))]]) (fun P16 P5 P7 P9 P11 P13 P15=>some (.ret (.pv (.tup [])),[[(.pv P5),(.pv P7),(.pv P9),(.pv P11),(.pv P13),(.pv P15)]]))) (
 zq (ev 221 [(.pv (I x3_4)),(.pv (I x3_5))] []) (fun A1 H2=>(zf A1).bind fun P3=>xC (ev 246 [(.ptr 0 0),(.pv (I x1)),(.pv (.agg [(I x3_0),(I x3_1),(I x3_2),(I x3_3),(I x3_4),(I x3_5),(Bo x3_6),(I x3_7),(PV.v (.int .u32 x3_8)),(PV.v (.int .u32 x3_9))])),(.pv P3)] [[(.pv (.sl 1 x0__0)),(.pv (I x0__1)),(.pv (I x0__2_0)),(.pv (I x0__2_1)),(.pv (I x0__2_2)),(.pv (I x0__3_0))]]) (fun P19 P8 P10 P12 P14 P16 P18=>xC (ev 247 [(.ptr 0 0),(.pv P3)] [[(.pv P8),(.pv P10),(.pv P12),(.pv P14),(.pv P16),(.pv P18)]]) (fun P35 P24 P26 P28 P30 P32 P34=>cond (x3_4==6) (
  xC (ev 248 [(.ptr 0 0),(.pv P19),(.pv P3),(.pv (I x2))] [[(.pv P24),(.pv P26),(.pv P28),(.pv P30),(.pv P32),(.pv P34)]]) (fun P51 P40 P42 P44 P46 P48 P50=>some (.ret (.pv (.tup [])),[[(.pv P40),(.pv P42),(.pv P44),(.pv P46),(.pv P48),(.pv P50)]]))) (
  (za .i64 (.pv P19)).bind fun N36=>(za .i64 (.pv P3)).bind fun N37=>(zE P24).bind fun L38=>cond (decide (L38.1=1)) ((yB (.pv P19)).bind fun Q39=>cond ((decide (0<=Q39.2)&&decide (Q39.2<=(IntKind.wrap .i64 (N36+N37))))&&decide ((IntKind.wrap .i64 (N36+N37))<=(L38.2.length:Int))) (zq (ev 117 [(.pv (.sl L38.1 ((L38.2.take (IntKind.wrap .i64 (N36+N37)).toNat).drop (Q39.2).toNat)))] []) (fun A40 H41=>(zf A40).bind fun P42=>zq (ev 235 [(.pv (I x3_4)),(.pv (I x3_5)),(.pv P42)] []) (fun A43 H44=>(yx 5 1 A43).bind fun X45=>(zE P42).bind fun L46=>cond (decide (0<=(L46.2.length:Int))&&decide ((L46.2.length:Int)<=140737488355328)) (cond (zJ (X45.length+(List.replicate (L46.2.length:Int).toNat (U8 0)).length) 1) ((zE P42).bind fun L47=>cond (decide (0<=(L47.2.length:Int))&&decide ((L47.2.length:Int)<=((X45++(List.replicate (L46.2.length:Int).toNat (U8 0))).length:Int))) ((Zo (((X45++(List.replicate (L46.2.length:Int).toNat (U8 0))).take (L47.2.length:Int).toNat).drop 0)).bind fun ns_48=>(zE P42).bind fun L49=>cond (decide (L49.1=1)) ((Zo L49.2).bind fun ns_50=>zq (ev 130 [(.pv (Bo ((strOfNums ns_48).toList==(strOfNums ns_50).toList)))] []) (fun A51 H52=>(zf A51).bind fun P53=>some (.ret (.pv (.tup [])),[[(.pv P24),(.pv P26),(.pv P28),(.pv P30),(.pv P32),(.pv P34)]])) (fun A51 H52=>some (.pan A51,[[(.pv P24),(.pv P26),(.pv P28),(.pv P30),(.pv P32),(.pv P34)]]))) none) none) none) none) (fun A43 H44=>some (.pan A43,[[(.pv P24),(.pv P26),(.pv P28),(.pv P30),(.pv P32),(.pv P34)]]))) (fun A40 H41=>some (.pan A40,[[(.pv P24),(.pv P26),(.pv P28),(.pv P30),(.pv P32),(.pv P34)]]))) none) none)))) (fun A1 H2=>some (.pan A1,[[(.pv (.sl 1 x0__0)),(.pv (I x0__1)),(.pv (I x0__2_0)),(.pv (I x0__2_1)),(.pv (I x0__2_2)),(.pv (I x0__3_0))]]))):=zi (fn:=Tryz.f194) _ _
theorem zi7 (x0:List PV) (x1 x2 x3:Int):ev 200 [(.pv (.sl 1 x0)),(.pv (I x1)),(.pv (I x2)),(.pv (I x3))] [] =
 cond (decide (x1<0)) (
 some (.ret (.pv (Bo false)),[])) (
 cond (decide (x1≥(x0.length:Int))) (
  some (.ret (.pv (Bo false)),[])) (
  cond (decide (x2<0)) (
   some (.ret (.pv (Bo false)),[])) (
   cond (decide (x3<0)) (
    some (.ret (.pv (Bo false)),[])) (
    cond (decide (0<=x1)&&decide (x1<(x0.length:Int))) ((x0[(x1).toNat]?).bind fun P1=>(P1.cells[0]?).bind fun P2=>(zE P2).bind fun L3=>cond (decide (x2<=(L3.2.length:Int))) (
     some (.ret (.pv (Bo (decide (x3<=(IntKind.wrap .i64 ((L3.2.length:Int)-x2)))))),[])) (
     some (.ret (.pv (Bo false)),[]))) none)))):=zi (fn:=Tryz.f200) _ _
theorem zps (x0:List PV):ev 215 [(.pv (.sl 5 x0))] [] =
 cp (ev 258 [(.pv (.sl 5 x0)),(.pv (.v (.func (.func 259) #[] #[])))] []) (fun P3=>some (.ret (.pv P3),[])):=zi (fn:=Tryz.f215) _ _
theorem zl5 (x0 x1:Int):ev 221 [(.pv (I x0)),(.pv (I x1))] [] =
 cond (x0==7) (
 some (.ret (.pv (I (IntKind.wrap .i64 (x1+1)))),[])) (
 cond (decide (0<=x0)&&decide (x0<8)) ((([(I 0),(I 1),(I 8),(I 16),(I 32),(I 64),(I 64),(I 0)]:List PV)[(0+(x0).toNat*1)]?).bind fun P1=>(za .i64 (.pv P1)).bind fun N2=>cp (ev 263 [(.pv (I (IntKind.wrap .i64 (N2*x1)))),(.pv (I 64))] []) (fun P5=>some (.ret (.pv P5),[]))) none):=zi (fn:=Tryz.f221) _ _
theorem zaZ (x0_0 x0_1 x0_2 x0_3 x0_4 x0_5:Int) (x0_6:Bool) (x0_7 x0_8 x0_9:Int):ev 223 [(.pv (.agg [(I x0_0),(I x0_1),(I x0_2),(I x0_3),(I x0_4),(I x0_5),(Bo x0_6),(I x0_7),(PV.v (.int .u32 x0_8)),(PV.v (.int .u32 x0_9))]))] [] =
 cond (x0_0==0) (
 cond ((x0_0==x0_0)&&((x0_1==x0_1)&&((x0_2==x0_2)&&((x0_3==x0_3)&&((0==x0_4)&&((0==x0_5)&&((false==x0_6)&&((0==x0_7)&&((0==x0_8)&&((0==x0_9)&&true)))))))))) (
 cp (ev 264 [(.pv (I x0_1))] []) (fun P3=>(z7 (.pv P3)).bind fun B4=>cond B4 (
 cond (decide (x0_2≥0)) (
 cond (decide (x0_2<=65535)) (
 cond (decide (x0_3≥0)) (
 some (.ret (.pv (Bo (decide (x0_3<=65535)))),[])) (
 some (.ret (.pv (Bo false)),[]))) (
 some (.ret (.pv (Bo false)),[]))) (
 some (.ret (.pv (Bo false)),[]))) (
 some (.ret (.pv (Bo false)),[])))) (
 some (.ret (.pv (Bo false)),[]))) (
 cond (x0_0==1) (
  cond ((x0_0==x0_0)&&((x0_1==x0_1)&&((0==x0_2)&&((0==x0_3)&&((x0_4==x0_4)&&((x0_5==x0_5)&&((false==x0_6)&&((0==x0_7)&&((0==x0_8)&&((0==x0_9)&&true)))))))))) (
  cp (ev 264 [(.pv (I x0_1))] []) (fun P3=>(z7 (.pv P3)).bind fun B4=>cond B4 (
  cond (decide (x0_4≥0)) (
  cond (decide (x0_4<=7)) (
  cond (decide (x0_5≥0)) (
  some (.ret (.pv (Bo (decide (x0_5<=536870911)))),[])) (
  some (.ret (.pv (Bo false)),[]))) (
  some (.ret (.pv (Bo false)),[]))) (
  some (.ret (.pv (Bo false)),[]))) (
  some (.ret (.pv (Bo false)),[])))) (
  some (.ret (.pv (Bo false)),[]))) (
  cond (x0_0==2) (
   cond ((x0_0==x0_0)&&((0==x0_1)&&((0==x0_2)&&((0==x0_3)&&((0==x0_4)&&((0==x0_5)&&((x0_6==x0_6)&&((x0_7==x0_7)&&((x0_8==x0_8)&&((0==x0_9)&&true)))))))))) (
   cond (decide (x0_7≥0)) (
   some (.ret (.pv (Bo (decide (x0_7<=536870911)))),[])) (
   some (.ret (.pv (Bo false)),[]))) (
   some (.ret (.pv (Bo false)),[]))) (
   cond (x0_0==3) (
    cond ((x0_0==x0_0)&&((0==x0_1)&&((0==x0_2)&&((0==x0_3)&&((0==x0_4)&&((0==x0_5)&&((false==x0_6)&&((0==x0_7)&&((x0_8==x0_8)&&((x0_9==x0_9)&&true)))))))))) (
    some (.ret (.pv (Bo (decide (x0_9<=1073741823)))),[])) (
    some (.ret (.pv (Bo false)),[]))) (
    some (.ret (.pv (Bo false)),[]))))):=zi (fn:=Tryz.f223) _ _
noncomputable def rF:Code:=Tryz.f232.body.getD .skip
noncomputable def KF (i0:Int) (xs1:List PV) (i2 i3:Int):Option (Out×ze) :=
 zY (zs env ev zI 20 232 0 (sub rF [1,0,1,0,0])) (zD env 232 0 0) (zG 0 (zT (zH env ev 20 232 0 (sub rF [1,1])) (zX env 232 Tryz.f232.results.toList 0))) ⟨zQ [(0,(.pv (U i0))),(7,(.pv (.sl 1 xs1))),(8,(.pv (I i2))),(9,(.pv (I i3)))],[]⟩
theorem zcm (i0:Int) (xs1:List PV) (i2 i3:Int):KF i0 xs1 i2 i3 =
 cond (decide (i3<i2)) (
 cond (decide (0<=i3)&&decide (i3<(xs1.length:Int))) ((xs1[(i3).toNat]?).bind fun P1=>(P1.cells[0]?).bind fun P2=>(yB (.pv P2)).bind fun Q3=>KF (IntKind.wrap .u64 ((IntKind.wrap .u64 (BitVec.ofInt 64 i0 ^^^ BitVec.ofInt 64 (IntKind.wrap .u64 Q3.2)).toNat)*1099511628211)) xs1 i2 (IntKind.wrap .i64 (i3+1))) none) (
 some (.ret (.pv (U i0)),[])):=(z4 ..).trans (by kernel_rfl)
theorem zli (x0:Int) (x1:List PV):ev 232 [(.pv (U x0)),(.pv (.sl 1 x1))] [] =
 KF x0 x1 (x1.length:Int) 0:=zi (fn:=Tryz.f232) _ _
theorem zl4 (x0 x1:Int) (x2:List PV):ev 235 [(.pv (I x0)),(.pv (I x1)),(.pv (.sl 1 x2))] [] =
 cp (ev 255 [(.pv (I x0)),(.pv (I x1))] []) (fun P3=>(yB (.pv P3)).bind fun Q4=>cond (decide (0<=Q4.2)&&decide (Q4.2<=(x2.length:Int))) (zq (ev 275 [(.pv (.sl 1 ((x2.take (Q4.2).toNat).drop 0)))] []) (fun A5 H6=>(yx 5 1 A5).bind fun X7=>cond (x0==1) (
 cond (decide ((Int.tmod x1 8)>0)) (
 cond (decide (0<=(IntKind.wrap .i64 ((X7.length:Int)-1)))&&decide ((IntKind.wrap .i64 ((X7.length:Int)-1))<(X7.length:Int))) ((X7[(IntKind.wrap .i64 ((X7.length:Int)-1)).toNat]?).bind fun P8=>(P8.cells[0]?).bind fun P9=>cond (yS .shl (IntKind.wrap .u64 (Int.tmod x1 8))) ((za .u8 (.pv P9)).bind fun N10=>cond (decide (0<=(IntKind.wrap .i64 ((X7.length:Int)-1)))&&decide ((IntKind.wrap .i64 ((X7.length:Int)-1))<(X7.length:Int))) ((X7[(IntKind.wrap .i64 ((X7.length:Int)-1)).toNat]?).bind fun P11=>cond (decide (1<=P11.cells.length)) ((setCells P11 0 [(U8 (IntKind.wrap .u8 (BitVec.ofInt 8 N10 &&& BitVec.ofInt 8 (IntKind.wrap .u8 ((IntKind.wrap .u8 (1*2^(min (IntKind.wrap .u64 (Int.tmod x1 8)).toNat 8)))-1))).toNat))]).bind fun P12=>some (.ret (.slu 5 1 (X7.set (IntKind.wrap .i64 ((X7.length:Int)-1)).toNat P12)),[])) none) none) none) none) (
 some (.ret (.slu 5 1 X7),[]))) (
 some (.ret (.slu 5 1 X7),[]))) (fun A5 H6=>some (.pan A5,[]))) none):=zi (fn:=Tryz.f235) _ _
theorem zn4 (x0_0 x0_1 x0_2 x0_3 x0_4 x0_5 x0_6 x0_7 x1:Int):ev 238 [(.pv (.agg [(I x0_0),(I x0_1),(I x0_2),(I x0_3),(I x0_4),(I x0_5),(I x0_6),(I x0_7)])),(.pv (I x1))] [] =
 some (.ret (.pv (.agg [(I 1),(I x0_1),(I (IntKind.wrap .i64 (x0_2+(IntKind.wrap .i64 (x1*(IntKind.wrap .i64 (x0_3+x0_4))))))),(I x0_3),(I x0_4),(I 0),(I 0),(I 0)])),[]):=zi (fn:=Tryz.f238) _ _
theorem zk7 (x0:List PV) (x1 x2:Int):ev 240 [(.pv (.sl 1 x0)),(.pv (I x1)),(.pv (I x2))] [] =
 cp (ev 278 [(.pv (.sl 1 x0)),(.pv (I x1)),(.pv (I x2))] []) (fun P3=>tK P3 0 fun P5=>tK P3 1 fun P7=>(z7 (.pv P7)).bind fun B8=>cond (!B8) (
 some (.ret (.pv (.tup [(U 0),(I 0),(I 0),(I 2)])),[])) (
 cond (P5.isCell&&true) (cond ((P5.isCell&&true)&&true) (cond (P5.isCell&&true) (cp (ev 279 [(.pv P5)] []) (fun P11=>(z7 (.pv P11)).bind fun B12=>cond B12 (
  cp (ev 192 [(.pv P5)] []) (fun P15=>(Xl (.pv P15)).bind fun cs_16=>(cs_16[6]?).bind fun P17=>(z7 (.pv P17)).bind fun B18=>cond B18 (
  cp (ev 281 [(.pv (.sl 1 x0)),(.pv P5)] []) (fun P21=>tK P21 0 fun P23=>tK P21 1 fun P25=>QF P23 (fun P26 P27 P28=>(xx [false,false,false] [P26,P27,P28] [(U 0),(I 0),(I 0)]).bind fun Z29=>cond Z29 (
  (za .i64 (.pv P25)).bind fun N30=>cond (N30 != 0) (
  some (.ret (.pv (.tup [(U 0),(I 0),(I 0),P25])),[])) (
  some (.ret (.pv (.tup [P26,P27,P28,(I 0)])),[]))) (
  some (.ret (.pv (.tup [P26,P27,P28,(I 0)])),[]))))) (
  cp (ev 280 [(.pv (.sl 1 x0)),(.pv P5)] []) (fun P21=>tK P21 0 fun P23=>tK P21 1 fun P25=>QF P23 (fun P26 P27 P28=>(xx [false,false,false] [P26,P27,P28] [(U 0),(I 0),(I 0)]).bind fun Z29=>cond Z29 (
   (za .i64 (.pv P25)).bind fun N30=>cond (N30 != 0) (
   some (.ret (.pv (.tup [(U 0),(I 0),(I 0),P25])),[])) (
   some (.ret (.pv (.tup [P26,P27,P28,(I 0)])),[]))) (
   some (.ret (.pv (.tup [P26,P27,P28,(I 0)])),[]))))))) (
  (xx [false,false,false] [P5,(I x1),(I (IntKind.wrap .i64 (x2+1)))] [(U 0),(I 0),(I 0)]).bind fun Z13=>cond Z13 (
   some (.ret (.pv (.tup [P5,(I x1),(I (IntKind.wrap .i64 (x2+1))),(I 0)])),[])) (
   some (.ret (.pv (.tup [P5,(I x1),(I (IntKind.wrap .i64 (x2+1))),(I 0)])),[]))))) none) none) none)):=zi (fn:=Tryz.f240) _ _
theorem ziF (x0__0:List PV) (x0__1 x0__2_0 x0__2_1 x0__2_2 x0__3_0 x1 x2_0 x2_1 x2_2 x2_3 x2_4 x2_5:Int) (x2_6:Bool) (x2_7 x2_8 x2_9 x3:Int):ev 246 [(.ptr 0 0),(.pv (I x1)),(.pv (.agg [(I x2_0),(I x2_1),(I x2_2),(I x2_3),(I x2_4),(I x2_5),(Bo x2_6),(I x2_7),(PV.v (.int .u32 x2_8)),(PV.v (.int .u32 x2_9))])),(.pv (I x3))] [[(.pv (.sl 1 x0__0)),(.pv (I x0__1)),(.pv (I x0__2_0)),(.pv (I x0__2_1)),(.pv (I x0__2_2)),(.pv (I x0__3_0))]] =
 cond ((IntKind.wrap .i64 ((IntKind.wrap .i64 (x1+1))+x2_1))==x0__1) (
 zq (ev 286 [(.pv (.sl 1 [(.sl 1 x0__0)])),(.pv (I 0)),(.pv (I (IntKind.wrap .i64 ((IntKind.wrap .i64 (x1+1))+x2_1)))),(.pv (I x3))] []) (fun A1 H2=>(zf A1).bind fun P3=>(z7 (.pv P3)).bind fun B4=>zq (ev 130 [(.pv (Bo B4))] []) (fun A5 H6=>(zf A5).bind fun P7=>some (.ret (.pv (I (IntKind.wrap .i64 ((IntKind.wrap .i64 (x1+1))+x2_1)))),[[(.pv (.sl 1 x0__0)),(.pv (I (IntKind.wrap .i64 (x0__1+x3)))),(.pv (I x0__2_0)),(.pv (I x0__2_1)),(.pv (I x0__2_2)),(.pv (I x0__3_0))]])) (fun A5 H6=>some (.pan A5,[[(.pv (.sl 1 x0__0)),(.pv (I x0__1)),(.pv (I x0__2_0)),(.pv (I x0__2_1)),(.pv (I x0__2_2)),(.pv (I x0__3_0))]]))) (fun A1 H2=>some (.pan A1,[[(.pv (.sl 1 x0__0)),(.pv (I x0__1)),(.pv (I x0__2_0)),(.pv (I x0__2_1)),(.pv (I x0__2_2)),(.pv (I x0__3_0))]]))) (
 zq (ev 130 [(.pv (Bo false))] []) (fun A1 H2=>(zf A1).bind fun P3=>some (.ret (.pv (I (IntKind.wrap .i64 ((IntKind.wrap .i64 (x1+1))+x2_1)))),[[(.pv (.sl 1 x0__0)),(.pv (I (IntKind.wrap .i64 (x0__1+x3)))),(.pv (I x0__2_0)),(.pv (I x0__2_1)),(.pv (I x0__2_2)),(.pv (I x0__3_0))]])) (fun A1 H2=>some (.pan A1,[[(.pv (.sl 1 x0__0)),(.pv (I x0__1)),(.pv (I x0__2_0)),(.pv (I x0__2_1)),(.pv (I x0__2_2)),(.pv (I x0__3_0))]]))):=zi (fn:=Tryz.f246) _ _
theorem zdK (x0_0 x0_1 x0_2 x0_3 x0_4 x0_5:Int) (x0_6:Bool) (x0_7 x0_8 x0_9:Int):ev 252 [(.pv (.agg [(I x0_0),(I x0_1),(I x0_2),(I x0_3),(I x0_4),(I x0_5),(Bo x0_6),(I x0_7),(PV.v (.int .u32 x0_8)),(PV.v (.int .u32 x0_9))]))] [] =
 cp (ev 287 [(.pv (.agg [(I x0_0),(I x0_1),(I x0_2),(I x0_3),(I x0_4),(I x0_5),(Bo x0_6),(I x0_7),(PV.v (.int .u32 x0_8)),(PV.v (.int .u32 x0_9))]))] []) (fun P3=>(z7 (.pv P3)).bind fun B4=>cond (!B4) (
 some (.ret (.pv (.tup [(U 0),(Bo false)])),[])) (
 cp (ev 288 [(.pv (.agg [(I x0_0),(I x0_1),(I x0_2),(I x0_3),(I x0_4),(I x0_5),(Bo x0_6),(I x0_7),(PV.v (.int .u32 x0_8)),(PV.v (.int .u32 x0_9))]))] []) (fun P7=>some (.ret (.pv (.tup [P7,(Bo true)])),[])))):=zi (fn:=Tryz.f252) _ _
theorem zpr (x0_0 x0_1 x0_2:Int) (x0_3 x0_4:List PV):ev 259 [(.pv (.agg [(I x0_0),(I x0_1),(I x0_2),(.sl 1 x0_3),(.sl 5 x0_4)]))] [] =
 some (.ret (.pv (Bo (x0_0==0))),[]):=zi (fn:=Tryz.f259) _ _
noncomputable def Qj:Code:=Tryz.f261.body.getD .skip
noncomputable def Y8 (xs0:List PV) (i1 i2:Int) (p3:PV) (i4 i5 i6:Int) (xs7 xs8:List PV):Option (Out×ze) :=
 zY (zs env ev zI 37 261 0 (sub Qj [1,1,1,0,0])) (zD env 261 0 3) (zG 0 (zX env 261 Tryz.f261.results.toList 2)) ⟨zQ [(2,(.ptr 1 0)),(3,(.ptr 2 0)),(13,(.pv (.sl 5 xs0))),(14,(.pv (I i1))),(15,(.pv (I i2)))],[[(.pv p3)],[(.clo (.func 261) [] [(.ptr 0 0),(.ptr 1 0)])],[(.pv (I i4)),(.pv (I i5)),(.pv (I i6)),(.pv (.sl 1 xs7)),(.pv (.sl 5 xs8))]]⟩
noncomputable def QR (xs0:List PV) (i1 i2:Int) (p3:PV) (i4 i5:Int) (p6:PV) (i7 i8 i9:Int) (xs10 xs11:List PV) (p12 p13 p14 p15 p16:PV):Option (Out×ze) :=
 zY (zs env ev zI 37 261 2 (sub Qj [1,1,1,0,0,1,1,0,0,1,1,1,0,0])) (zD env 261 2 4) (zG 2 (zG 1 (zT (zH env ev 37 261 0 (sub Qj [1,1,1,0,0,1,1,1])) (ZM (zs env ev zI 37 261 0 (sub Qj [1,1,1,0,0])) (zD env 261 0 3) (zG 0 (zX env 261 Tryz.f261.results.toList 2)))))) ⟨zQ [(2,(.ptr 1 0)),(3,(.ptr 2 0)),(13,(.pv (.sl 5 xs0))),(14,(.pv (I i1))),(15,(.pv (I i2))),(26,(.pv p3)),(27,(.pv (I i4))),(28,(.pv (I i5)))],[[(.pv p6)],[(.clo (.func 261) [] [(.ptr 0 0),(.ptr 1 0)])],[(.pv (I i7)),(.pv (I i8)),(.pv (I i9)),(.pv (.sl 1 xs10)),(.pv (.sl 5 xs11))],[(.pv p12),(.pv p13),(.pv p14),(.pv p15),(.pv p16)]]⟩
theorem QQ (xs0:List PV) (i1 i2:Int) (p3:PV) (i4 i5 i6:Int) (xs7 xs8:List PV):Y8 xs0 i1 i2 p3 i4 i5 i6 xs7 xs8 =
 cond (decide (i2<i1)) (
 cond (decide (0<=i2)&&decide (i2<(xs0.length:Int))) ((xs0[(i2).toNat]?).bind fun P1=>cond (decide (5<=P1.cells.length)) (cond (decide (((P1.cells.drop 0).take 5).length=5)) ((((P1.cells.drop 0).take 5)[0]?).bind fun P2=>(((P1.cells.drop 0).take 5)[1]?).bind fun P3=>(((P1.cells.drop 0).take 5)[2]?).bind fun P4=>(((P1.cells.drop 0).take 5)[3]?).bind fun P5=>(((P1.cells.drop 0).take 5)[4]?).bind fun P6=>cond (P2.isCell&&(P3.isCell&&(P4.isCell&&(P5.isCell&&(P6.isCell&&true))))) (cond (i5 != 7) (
 zq (ev 261 [(.pv (.agg [P2,P3,P4,P5,P6])),(.ptr 0 0),(.ptr 1 0)] [[(.pv p3)],[(.clo (.func 261) [] [(.ptr 0 0),(.ptr 1 0)])]]) (fun A7 H8=>(H8[0]?).bind fun C9=>(C9[0]?).bind fun E10=>(zf E10).bind fun P11=>cond (decide (C9.length=1)) ((H8[1]?).bind fun C12=>(C12[0]?).bind fun E13=>cond (Yn (.func 261) [] [(.ptr 0 0),(.ptr 1 0)] E13) (cond (decide (C12.length=1)) (cond (decide (H8.length=2)) ((zf A7).bind fun P14=>Y8 xs0 i1 (IntKind.wrap .i64 (i2+1)) P11 i4 i5 i6 xs7 xs8) none) none) none) none) (fun A7 H8=>(H8[0]?).bind fun C9=>(C9[0]?).bind fun E10=>(zf E10).bind fun P11=>cond (decide (C9.length=1)) ((H8[1]?).bind fun C12=>(C12[0]?).bind fun E13=>cond (Yn (.func 261) [] [(.ptr 0 0),(.ptr 1 0)] E13) (cond (decide (C12.length=1)) (cond (decide (H8.length=2)) (some (.pan A7,[[(.pv P11)],[(.clo (.func 261) [] [(.ptr 0 0),(.ptr 1 0)])]])) none) none) none) none)) (
 (zE P6).bind fun L7=>QR xs0 i1 i2 P6 (L7.2.length:Int) 0 p3 i4 i5 i6 xs7 xs8 P2 P3 P4 P5 P6)) none) none) none) none) (
 some (.ret (.pv (.tup [])),[[(.pv p3)],[(.clo (.func 261) [] [(.ptr 0 0),(.ptr 1 0)])]])):=(z4 ..).trans (by kernel_rfl)
theorem zaM (xs0:List PV) (i1 i2:Int) (p3:PV) (i4 i5:Int) (p6:PV) (i7 i8 i9:Int) (xs10 xs11:List PV) (p12 p13 p14 p15 p16:PV):QR xs0 i1 i2 p3 i4 i5 p6 i7 i8 i9 xs10 xs11 p12 p13 p14 p15 p16 =
 cond (decide (i5<i4)) (
 (zE p3).bind fun L1=>cond ((decide (L1.1=5)&&decide (0<=i5))&&decide (i5<(L1.2.length:Int))) ((L1.2[(i5).toNat]?).bind fun P2=>cond (decide (5<=P2.cells.length)) (cond (decide (((P2.cells.drop 0).take 5).length=5)) ((((P2.cells.drop 0).take 5)[0]?).bind fun P3=>(((P2.cells.drop 0).take 5)[1]?).bind fun P4=>(((P2.cells.drop 0).take 5)[2]?).bind fun P5=>(((P2.cells.drop 0).take 5)[3]?).bind fun P6=>(((P2.cells.drop 0).take 5)[4]?).bind fun P7=>cond (P3.isCell&&(P4.isCell&&(P5.isCell&&(P6.isCell&&(P7.isCell&&true))))) (zq (ev 261 [(.pv (.agg [P3,P4,P5,P6,P7])),(.ptr 0 0),(.ptr 1 0)] [[(.pv p6)],[(.clo (.func 261) [] [(.ptr 0 0),(.ptr 1 0)])]]) (fun A8 H9=>(H9[0]?).bind fun C10=>(C10[0]?).bind fun E11=>(zf E11).bind fun P12=>cond (decide (C10.length=1)) ((H9[1]?).bind fun C13=>(C13[0]?).bind fun E14=>cond (Yn (.func 261) [] [(.ptr 0 0),(.ptr 1 0)] E14) (cond (decide (C13.length=1)) (cond (decide (H9.length=2)) ((zf A8).bind fun P15=>QR xs0 i1 i2 p3 i4 (IntKind.wrap .i64 (i5+1)) P12 i7 i8 i9 xs10 xs11 p12 p13 p14 p15 p16) none) none) none) none) (fun A8 H9=>(H9[0]?).bind fun C10=>(C10[0]?).bind fun E11=>(zf E11).bind fun P12=>cond (decide (C10.length=1)) ((H9[1]?).bind fun C13=>(C13[0]?).bind fun E14=>cond (Yn (.func 261) [] [(.ptr 0 0),(.ptr 1 0)] E14) (cond (decide (C13.length=1)) (cond (decide (H9.length=2)) (some (.pan A8,[[(.pv P12)],[(.clo (.func 261) [] [(.ptr 0 0),(.ptr 1 0)])]])) none) none) none) none)) none) none) none) none) (
 Y8 xs0 i1 (IntKind.wrap .i64 (i2+1)) p6 i7 i8 i9 xs10 xs11):=(z4 ..).trans (by kernel_rfl)
theorem ziI (x0_0 x0_1 x0_2:Int) (x0_3 x0_4:List PV) (x1:Int):ev 261 [(.pv (.agg [(I x0_0),(I x0_1),(I x0_2),(.sl 1 x0_3),(.sl 5 x0_4)])),(.ptr 0 0),(.ptr 1 0)] [[(.pv (I x1))],[(.clo (.func 261) [] [(.ptr 0 0),(.ptr 1 0)])]] =
 zq (ev 262 [(.pv (.agg [(I x0_0),(I x0_1),(I x0_2),(.sl 1 x0_3),(.sl 5 x0_4)]))] []) (fun A1 H2=>(zf A1).bind fun P3=>(za .i64 (.pv P3)).bind fun N4=>Y8 x0_4 (x0_4.length:Int) 0 (I (IntKind.wrap .i64 (x1+N4))) x0_0 x0_1 x0_2 x0_3 x0_4) (fun A1 H2=>some (.pan A1,[[(.pv (I x1))],[(.clo (.func 261) [] [(.ptr 0 0),(.ptr 1 0)])]])):=zi (fn:=Tryz.f261) _ _
theorem zo4 (x0:List PV):ev 275 [.pv (.sl 1 x0)] [] =
 cond (zJ x0.length 1&&true) (some (.ret (.slu 5 1 x0),[])) none:=(ua (q:=(5,(1,1))) (by kernel_rfl) _ _).trans (by kernel_rfl)
theorem zhX (x0:List PV) (x1 x2 x3:Int):ev 276 [(.pv (.sl 1 x0)),(.pv (I x1)),(.pv (I x2)),(.pv (I x3))] [] =
 cp (ev 286 [(.pv (.sl 1 x0)),(.pv (I x1)),(.pv (I x2)),(.pv (I x3))] []) (fun P3=>(z7 (.pv P3)).bind fun B4=>cond (!B4) (
 some (.ret (.pv (.tup [(.sl 1 []),(Bo false)])),[])) (
 cond (((decide (0<=x3)&&decide (x3<=x3))&&decide (x3<=140737488355328))&&zJ (x3).toNat 8) (cond (decide (0<=x1)&&decide (x1<(x0.length:Int))) ((x0[(x1).toNat]?).bind fun P5=>(P5.cells[0]?).bind fun P6=>(zE P6).bind fun L7=>cond (decide (L7.1=1)) (cond ((decide (0<=x2)&&decide (x2<=(L7.2.length:Int)))&&decide ((L7.2.length:Int)<=(L7.2.length:Int))) (cond (((decide (L7.1=1)&&true)&&true)&&true) (some (.ret (.pv (.tup [(.sl 1 (((L7.2.take (L7.2.length:Int).toNat).drop (x2).toNat).take (List.replicate (x3).toNat (U 0)).length++(List.replicate (x3).toNat (U 0)).drop ((L7.2.take (L7.2.length:Int).toNat).drop (x2).toNat).length)),(Bo true)])),[])) none) none) none) none) none)):=zi (fn:=Tryz.f276) _ _
theorem zhY (x0:List PV) (x1 x2:Int):ev 278 [(.pv (.sl 1 x0)),(.pv (I x1)),(.pv (I x2))] [] =
 cp (ev 286 [(.pv (.sl 1 x0)),(.pv (I x1)),(.pv (I x2)),(.pv (I 1))] []) (fun P3=>(z7 (.pv P3)).bind fun B4=>cond (!B4) (
 some (.ret (.pv (.tup [(U 0),(Bo false)])),[])) (
 cond (decide (0<=x1)&&decide (x1<(x0.length:Int))) ((x0[(x1).toNat]?).bind fun P5=>(P5.cells[0]?).bind fun P6=>(zE P6).bind fun L7=>cond ((decide (L7.1=1)&&decide (0<=x2))&&decide (x2<(L7.2.length:Int))) ((L7.2[(x2).toNat]?).bind fun P8=>(P8.cells[0]?).bind fun P9=>some (.ret (.pv (.tup [P9,(Bo true)])),[])) none) none)):=zi (fn:=Tryz.f278) _ _
theorem zob (x0:List PV) (x1_0 x1_1 x1_2 x1_3 x1_4 x1_5 x1_6 x1_7 x2 x3:Int):ev 282 [(.pv (.sl 1 x0)),(.pv (.agg [(I x1_0),(I x1_1),(I x1_2),(I x1_3),(I x1_4),(I x1_5),(I x1_6),(I x1_7)])),(.pv (I x2)),(.pv (I x3))] [] =
 cp (ev 286 [(.pv (.sl 1 x0)),(.pv (I x1_1)),(.pv (I x2)),(.pv (I x3))] []) (fun P3=>(z7 (.pv P3)).bind fun B4=>cond (!B4) (
 some (.ret (.pv (.tup [(.agg [(I 0),(I 0),(I 0),(I 0),(I 0),(I 0),(I 0),(I 0)]),(I 2)])),[])) (
 some (.ret (.pv (.tup [(.agg [(I x1_0),(I x1_1),(I x1_2),(I x1_3),(I x1_4),(I x1_5),(I x1_6),(I x1_7)]),(I 0)])),[]))):=zi (fn:=Tryz.f282) _ _
theorem zqb (x0:Int):ev 285 [(.pv (I x0))] [] =
 cond (yS .shr (IntKind.wrap .u64 (IntKind.wrap .i64 (64-x0)))) (some (.ret (.pv (U (Int.fdiv 18446744073709551615 (2^(min (IntKind.wrap .u64 (IntKind.wrap .i64 (64-x0))).toNat 64))))),[])) none:=zi (fn:=Tryz.f285) _ _
theorem zdL (x0_0 x0_1 x0_2 x0_3 x0_4 x0_5:Int) (x0_6:Bool) (x0_7 x0_8 x0_9:Int):ev 287 [(.pv (.agg [(I x0_0),(I x0_1),(I x0_2),(I x0_3),(I x0_4),(I x0_5),(Bo x0_6),(I x0_7),(PV.v (.int .u32 x0_8)),(PV.v (.int .u32 x0_9))]))] [] =
 cond (decide (x0_0≥0)) (
 cond (decide (x0_0<=3)) (
 zq (ev 288 [(.pv (.agg [(I x0_0),(I x0_1),(I x0_2),(I x0_3),(I x0_4),(I x0_5),(Bo x0_6),(I x0_7),(PV.v (.int .u32 x0_8)),(PV.v (.int .u32 x0_9))]))] []) (fun A1 H2=>(zf A1).bind fun P3=>zq (ev 192 [(.pv P3)] []) (fun A4 H5=>(zf A4).bind fun P6=>(XI (.pv P6)).bind fun cs_7=>(xx [false,false,false,false,false,false,true,false,false,false] cs_7 [(I x0_0),(I x0_1),(I x0_2),(I x0_3),(I x0_4),(I x0_5),(Bo x0_6),(I x0_7),(PV.v (.int .u32 x0_8)),(PV.v (.int .u32 x0_9))]).bind fun Z8=>some (.ret (.pv (Bo Z8)),[])) (fun A4 H5=>none)) (fun A1 H2=>none)) (
 some (.ret (.pv (Bo false)),[]))) (
 some (.ret (.pv (Bo false)),[])):=zi (fn:=Tryz.f287) _ _
theorem ziN (x0__0 x1:List PV) (x2:Int):ev 293 [(.ptr 0 0),(.pv (.sl 1 x1)),(.pv (I x2))] [[(.slu 30 1 x0__0)]] =
 cond (((decide (0<=(IntKind.wrap .i64 (8*x2)))&&decide ((IntKind.wrap .i64 (8*x2))<=(IntKind.wrap .i64 (8*x2))))&&decide ((IntKind.wrap .i64 (8*x2))<=140737488355328))&&zJ (IntKind.wrap .i64 (8*x2)).toNat 1) (zq (ev 64 [(.pv (.sl 1 (x1.take (List.replicate (IntKind.wrap .i64 (8*x2)).toNat (U8 0)).length++(List.replicate (IntKind.wrap .i64 (8*x2)).toNat (U8 0)).drop x1.length)))] []) (fun A1 H2=>(zf A1).bind fun P3=>tK P3 0 fun P5=>tK P3 1 fun P7=>(zE P5).bind fun L8=>cond (decide (L8.1=1)) (cond (zJ (x0__0.length+L8.2.length) 8) (some (.ret (.pv (.tup [])),[[(.slu 30 1 (x0__0++L8.2))]])) none) none) (fun A1 H2=>some (.pan A1,[[(.slu 30 1 x0__0)]]))) none:=zi (fn:=Tryz.f293) _ _
theorem znn (x0:Int):ev 341 [(.pv (U x0))] [] =
 cp (ev 342 [(.pv (U x0)),(.pv (I 2)),(.pv (I 30))] []) (fun P3=>cp (ev 245 [(.pv (U x0)),(.pv (I 32)),(.pv (I 16))] []) (fun P6=>(yB (.pv P6)).bind fun Q7=>cp (ev 245 [(.pv (U x0)),(.pv (I 48)),(.pv (I 16))] []) (fun P10=>(yB (.pv P10)).bind fun Q11=>cond (P3.isCell&&true) (cond ((P3.isCell&&true)&&true) (cond (P3.isCell&&true) (some (.ret (.pv (.agg [(I 0),P3,(I (IntKind.wrap .i64 Q7.2)),(I (IntKind.wrap .i64 Q11.2)),(I 0),(I 0),(Bo false),(I 0),(PV.v (.int .u32 0)),(PV.v (.int .u32 0))])),[])) none) none) none))):=zi (fn:=Tryz.f341) _ _
end Go.Proofs.YtjbjeeoifhegfaaGreatDoor.E
