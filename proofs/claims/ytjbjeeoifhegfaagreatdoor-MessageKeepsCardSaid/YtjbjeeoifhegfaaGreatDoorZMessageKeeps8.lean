/- A part of the proof of the law MessageKeeps, as its statement says it: for every input; its conditions are the statement's own. -/
import Derived.KernelRfl
import Derived.Test.YtjbjeeoifhegfaaGreatDoorZMessageKeeps1
import Derived.Test.YtjbjeeoifhegfaaGreatDoorZMessageKeeps2
import Derived.Test.YtjbjeeoifhegfaaGreatDoorZMessageKeeps3
set_option linter.unusedVariables false
set_option linter.unusedSimpArgs false
namespace Go.Proofs.YtjbjeeoifhegfaaGreatDoor.E
noncomputable def Vp:Code:=Tryz.f11.body.getD .skip
noncomputable def VS (xs0 xs1 xs2 xs3 xs4:List PV) (p5:PV) (xs6 xs7:List PV) (i8 i9 i10 i11:Int):Option (Out×za) :=
 ya (zA env ev zN 111 11 0 (sub Vp (o1 11 [0,1,0,0]))) (zJ env 11 0 1) (zQ 0 (yf (zT env ev 111 11 0 (sub Vp (o1 11 [1]))) (z8 env 11 Tryz.f11.results.toList 0))) ⟨zR [(0,(.pv (.sl 1 xs0))),(1,(.pv (.sl 1 xs1))),(7,(.pv (.sl 1 xs2))),(8,(.pv (.sl 1 xs3))),(9,(.slu 5 1 xs4)),(11,(.pv p5)),(13,(.slu 5 1 xs6)),(14,(.slu 5 1 xs7)),(16,(.pv (I i8)))],[[(.pv (I i9)),(.pv (I i10)),(.pv (I i11))]]⟩
noncomputable def VT (xs0 xs1 xs2 xs3:List PV) (p4:PV) (xs5 xs6:List PV) (i7 i8 i9 i10:Int):Option (Out×za) :=
 ya (zA env ev zN 111 11 2 (sub Vp (o1 12 [0,1,0,0]))) (zJ env 11 2 1) (zQ 2 (yf (zT env ev 111 11 0 (sub Vp (o1 12 [1]))) (z8 env 11 Tryz.f11.results.toList 0))) ⟨zR [(0,(.pv (.sl 1 xs0))),(1,(.pv (.sl 1 xs1))),(7,(.pv (.sl 1 xs2))),(8,(.pv (.sl 1 xs3))),(11,(.pv p4)),(13,(.slu 5 1 xs5)),(14,(.slu 5 1 xs6)),(17,(.pv (I i7)))],[[(.pv (I i8)),(.pv (I i9)),(.pv (I i10))]]⟩
theorem rO (xs0 xs1 xs2 xs3 xs4:List PV) (p5:PV) (xs6 xs7:List PV) (i8 i9 i10 i11:Int):VS xs0 xs1 xs2 xs3 xs4 p5 xs6 xs7 i8 i9 i10 i11 =
 cond (decide (i8<(xs4.length:Int))) (
 cond (decide (0<=i8)&&decide (i8<(xs4.length:Int))) ((xs4[(i8).toNat]?).bind fun P1=>(P1.cells[0]?).bind fun P2=>(zf .u8 (.pv P2)).bind fun N3=>cond (decide (0<=i8)&&decide (i8<(xs4.length:Int))) ((xs4[(i8).toNat]?).bind fun P4=>cond (decide (1<=P4.cells.length)) ((setCells P4 0 [(U8 (IntKind.wrap .u8 (N3+1)))]).bind fun P5=>VS xs0 xs1 xs2 xs3 (xs4.set (i8).toNat P5) p5 xs6 xs7 (IntKind.wrap .i64 (i8+1)) i9 i10 i11) none) none) none) (
 VT xs0 xs1 xs2 xs3 p5 xs6 xs7 0 i9 i10 i11):=(yd ..).trans (by kernel_rfl)
theorem rP (xs0 xs1 xs2 xs3:List PV) (p4:PV) (xs5 xs6:List PV) (i7 i8 i9 i10:Int):VT xs0 xs1 xs2 xs3 p4 xs5 xs6 i7 i8 i9 i10 =
 cond (decide (i7<(xs6.length:Int))) (
 cond (decide (0<=i7)&&decide (i7<(xs6.length:Int))) ((xs6[(i7).toNat]?).bind fun P1=>(P1.cells[0]?).bind fun P2=>(zf .u8 (.pv P2)).bind fun N3=>cond (decide (0<=i7)&&decide (i7<(xs6.length:Int))) ((xs6[(i7).toNat]?).bind fun P4=>cond (decide (1<=P4.cells.length)) ((setCells P4 0 [(U8 (IntKind.wrap .u8 (N3+1)))]).bind fun P5=>VT xs0 xs1 xs2 xs3 p4 xs5 (xs6.set (i7).toNat P5) (IntKind.wrap .i64 (i7+1)) i8 i9 i10) none) none) none) (
 cp (ev 27 [(.pv (.sl 1 xs2)),(.pv (.sl 1 xs0))] []) (fun P3=>(zY (.pv P3)).bind fun B4=>cond B4 (
  cp (ev 27 [(.pv (.sl 1 xs3)),(.pv (.sl 1 xs1))] []) (fun P7=>(zY (.pv P7)).bind fun B8=>cond B8 (
  cp (ev 27 [(.pv p4),(.pv (.sl 1 xs5))] []) (fun P11=>(zY (.pv P11)).bind fun B12=>some (.ret (.pv (Bo B12)),[]))) (
  some (.ret (.pv (Bo false)),[])))) (
  some (.ret (.pv (Bo false)),[])))):=(yd ..).trans (by kernel_rfl)
theorem zgj (x0 x1:List PV) (x2_0 x2_1 x2_2:Int):ev 11 [(.pv (.sl 1 x0)),(.pv (.sl 1 x1)),(.pv (.agg [(I x2_0),(I x2_1),(I x2_2)]))] [] =
 cp (ev 33 [] []) (fun P3=>(zY (.pv P3)).bind fun B4=>cond (!B4) (
 cp (ev 33 [] []) (fun P7=>some (.ret (.pv P7),[]))) (
 cp (ev 15 [(.pv (.sl 1 x0)),(.pv (.agg [(I x2_0),(I x2_1),(I x2_2)]))] []) (fun P7=>(zY (.pv P7)).bind fun B8=>cond (!B8) (
  cp (ev 33 [] []) (fun P11=>some (.ret (.pv P11),[]))) (
  cp (ev 15 [(.pv (.sl 1 x1)),(.pv (.agg [(I x2_0),(I x2_1),(I x2_2)]))] []) (fun P11=>(zY (.pv P11)).bind fun B12=>cond (!B12) (
   cp (ev 33 [] []) (fun P15=>some (.ret (.pv P15),[]))) (
   cond (decide (x2_2>100000)) (
    cp (ev 33 [] []) (fun P15=>some (.ret (.pv P15),[]))) (
    cond (ye (0+x0.length) 1) (cond (ye (0+x1.length) 1) (zh (ev 16 [(.pv (.sl 1 x0)),(.pv (.agg [(I x2_0),(I x2_1),(I x2_2)]))] []) (fun A13 H14=>(wP 0 2 A13).bind fun Q15=>(zO 5 1 Q15.1).bind fun X16=>(Q15.2[1]?).bind fun P17=>cp (ev 19 [(.pv (.sl 1 x0))] []) (fun P20=>tK P20 0 fun P22=>tK P20 1 fun P24=>(zX P22).bind fun L25=>cond (decide (L25.1=1)) (cond (ye (0+L25.2.length) 1) (zh (ev 20 [(.pv P22),(.pv (.agg [(I x2_0),(I x2_1),(I x2_2)]))] []) (fun A26 H27=>(wP 0 2 A26).bind fun Q28=>(zO 5 1 Q28.1).bind fun X29=>(Q28.2[1]?).bind fun P30=>cp (ev 18 [(.pv (.sl 1 x0)),(.pv (.sl 1 x1)),(.pv (.agg [(I x2_0),(I x2_1),(I x2_2)]))] []) (fun P33=>cp (ev 17 [(.pv (.sl 1 x1)),(.pv (.agg [(I x2_0),(I x2_1),(I x2_2)]))] []) (fun P36=>cp (ev 35 [(.pv (.sl 1 x1)),(.pv (.agg [(I x2_0),(I x2_1),(I x2_2)]))] []) (fun P39=>VS x0 x1 x0 x1 X16 P22 L25.2 X29 0 x2_0 x2_1 x2_2)))) (fun A26 H27=>some (.pan A26,[]))) none) none)) (fun A13 H14=>some (.pan A13,[]))) none) none))))))):=zg (fn:=Tryz.f11) _ _
theorem JS (x0:List PV) (x1_0 x1_1 x1_2:Int):ev 35 [(.pv (.sl 1 x0)),(.pv (.agg [(I x1_0),(I x1_1),(I x1_2)]))] [] =
 cp (ev 57 [(.pv (.sl 1 x0))] []) (fun P3=>tK P3 0 fun P5=>tK P3 1 fun P7=>(yC (.pv P7)).bind fun Z8=>cond Z8 (
 (zX P5).bind fun L9=>cond ((L9.2.length:Int)==1) (
 (zX P5).bind fun L10=>cond ((decide (L10.1=1)&&true)&&decide (0<(L10.2.length:Int))) ((L10.2[0]?).bind fun P11=>(P11.cells[0]?).bind fun P12=>cp (ev 55 [(.pv (.agg [(I x1_0),(I x1_1),(I x1_2)]))] []) (fun P15=>cp (ev 76 [(.pv P12),(.pv P15)] []) (fun P18=>(zY (.pv P18)).bind fun B19=>some (.ret (.pv (Bo B19)),[])))) none) (
 some (.ret (.pv (Bo false)),[]))) (
 some (.ret (.pv (Bo false)),[]))):=zg (fn:=Tryz.f35) _ _
noncomputable def Ym:Code:=Tryz.f84.body.getD .skip
noncomputable def Xa (i0:Int) (xs1:List PV) (i2:Int):Option (Out×za) :=
 ya (zA env ev zN 56 84 0 (sub Ym [1,0,1,0,0])) (zJ env 84 0 0) (zQ 0 (yf (zT env ev 56 84 0 (sub Ym [1,1])) (z8 env 84 Tryz.f84.results.toList 0))) ⟨zR [(0,(.pv (U i0))),(1,(.pv (.sl 1 xs1))),(5,(.pv (I i2)))],[]⟩
noncomputable def Wq (i0:Int) (xs1:List PV) (i2 i3 i4 i5 i6:Int):Option (Out×za) :=
 ya (zA env ev zN 56 84 2 (sub Ym [1,0,1,0,0,1,0,0,1,1,1,0,1,0,0])) (zJ env 84 2 0) (zQ 2 (yf (zT env ev 56 84 1 (sub Ym [1,0,1,0,0,1,0,0,1,1,1,1])) (zQ 1 (yf (zT env ev 56 84 0 (sub Ym [1,0,1,0,0,1,1])) (XI (zA env ev zN 56 84 0 (sub Ym [1,0,1,0,0])) (zJ env 84 0 0) (zQ 0 (yf (zT env ev 56 84 0 (sub Ym [1,1])) (z8 env 84 Tryz.f84.results.toList 0)))))))) ⟨zR [(0,(.pv (U i0))),(1,(.pv (.sl 1 xs1))),(5,(.pv (I i2))),(6,(.pv (U i3))),(7,(.pv (U i4))),(8,(.pv (U i5))),(9,(.pv (I i6)))],[]⟩
theorem rV (i0:Int) (xs1:List PV) (i2:Int):Xa i0 xs1 i2 =
 cond (decide (i2<(xs1.length:Int))) (
 cond (decide (0<=i2)&&decide (i2<(xs1.length:Int))) ((xs1[(i2).toNat]?).bind fun P1=>(P1.cells[0]?).bind fun P2=>(yq (.pv P2)).bind fun Q3=>Wq i0 xs1 i2 (Int.tmod i0 256) 0 (IntKind.wrap .u64 Q3.2) 0) none) (
 some (.ret (.pv (U i0)),[])):=(yd ..).trans (by kernel_rfl)
theorem rW (i0:Int) (xs1:List PV) (i2 i3 i4 i5 i6:Int):Wq i0 xs1 i2 i3 i4 i5 i6 =
 cond (decide (i6<8)) (
 zh (ev 142 [(.pv (I i6))] []) (fun A1 H2=>(zb A1).bind fun P3=>(zf .u64 (.pv P3)).bind fun N4=>cond (yN .quo N4) (cp (ev 142 [(.pv (I i6))] []) (fun P7=>(zf .u64 (.pv P7)).bind fun N8=>cond (yN .quo N8) (cond ((Int.tmod (IntKind.wrap .u64 (Int.tdiv i3 N4)) 2) != (Int.tmod (IntKind.wrap .u64 (Int.tdiv i5 N8)) 2)) (
 cp (ev 142 [(.pv (I i6))] []) (fun P11=>(zf .u64 (.pv P11)).bind fun N12=>Wq i0 xs1 i2 i3 (IntKind.wrap .u64 (i4+N12)) i5 (IntKind.wrap .i64 (i6+1)))) (
 Wq i0 xs1 i2 i3 i4 i5 (IntKind.wrap .i64 (i6+1)))) none)) none) (fun A1 H2=>none)) (
 Xa (IntKind.wrap .u64 ((IntKind.wrap .u64 ((IntKind.wrap .u64 ((IntKind.wrap .u64 ((IntKind.wrap .u64 (i0-i3))+i4))*1099511627776))+(IntKind.wrap .u64 ((IntKind.wrap .u64 ((IntKind.wrap .u64 (i0-i3))+i4))*256))))+(IntKind.wrap .u64 ((IntKind.wrap .u64 ((IntKind.wrap .u64 (i0-i3))+i4))*179)))) xs1 (IntKind.wrap .i64 (i2+1))):=(yd ..).trans (by kernel_rfl)
theorem zgt (x0:Int) (x1:List PV):ev 84 [(.pv (U x0)),(.pv (.sl 1 x1))] [] =
 Xa x0 x1 0:=zg (fn:=Tryz.f84) _ _
theorem zlT (x0:List PV) (x1:Int):ev 101 [(.pv (.sl 1 x0)),(.pv (I x1))] [] =
 zh (ev 161 [(.ptr 0 0)] [[(.pv (.sl 1 x0)),(.slu 5 1 []),(.pv (I (if 0>x1 then 0 else x1)))]]) (fun A1 H2=>(H2[0]?).bind fun C3=>(C3[0]?).bind fun E4=>(zb E4).bind fun P5=>(C3[1]?).bind fun E6=>(zO 5 1 E6).bind fun X7=>(C3[2]?).bind fun E8=>(zb E8).bind fun P9=>cond (decide (C3.length=3)) (cond (decide (H2.length=1)) ((zb A1).bind fun P10=>cp (ev 162 [(.pv P10),(.pv (.sen 1))] []) (fun P13=>(zY (.pv P13)).bind fun B14=>cond B14 (
 some (.ret (.tup 0 (.slu 5 1 X7) [(.v .nilIface),(I 11)]),[])) (
 cp (ev 162 [(.pv P10),(.pv (.sen 2))] []) (fun P17=>(zY (.pv P17)).bind fun B18=>cond B18 (
  some (.ret (.tup 0 (.slu 5 1 X7) [(.v .nilIface),(I 10)]),[])) (
  some (.ret (.tup 0 (.slu 5 1 X7) [(.v .nilIface),(I 0)]),[])))))) none) none) (fun A1 H2=>(H2[0]?).bind fun C3=>(C3[0]?).bind fun E4=>(zb E4).bind fun P5=>(C3[1]?).bind fun E6=>(zO 5 1 E6).bind fun X7=>(C3[2]?).bind fun E8=>(zb E8).bind fun P9=>cond (decide (C3.length=3)) (cond (decide (H2.length=1)) (some (.pan A1,[])) none) none):=zg (fn:=Tryz.f101) _ _
noncomputable def YS:Code:=Tryz.f107.body.getD .skip
noncomputable def ug:Code:=Tryz.f172.body.getD .skip
noncomputable def Xo (xs0 xs1:List PV) (i2 i3:Int) (xs4:List PV) (i5:Int):Option (Out×za) :=
 ya (zA env ev zN 77 107 0 (sub YS (o1 7 [0,1,0,0]))) (zJ env 107 0 2) (zQ 0 (yf (zT env ev 77 107 0 (sub YS (o1 7 [1]))) (Jq env ev 107 172 Tryz.f107 Tryz.f172 ⟨sub YS [0],sub YS [1,1],sub ug [1],[2,3],2,11⟩ 0 [(.ptr 0 0),(.ptr 1 0)] [(2,(.ptr 0 0)),(3,(.ptr 1 0))]))) ⟨zR [(0,(.pv (.sl 1 xs0))),(2,(.ptr 0 0)),(3,(.ptr 1 0)),(6,(.pv (.sl 1 xs1))),(37,(.pv (I i2))),(38,(.pv (I i3)))],[[(.slu 75 1 xs4)],[(.pv (I i5))]]⟩
theorem j6 (xs0 xs1:List PV) (i2 i3:Int) (xs4:List PV) (i5:Int):Xo xs0 xs1 i2 i3 xs4 i5 =
 cond (decide (i3<i2)) (
 zh (ev 173 [(.pv (.sl 1 xs0)),(.pv (I (IntKind.wrap .i64 (i3+1))))] []) (fun A1 H2=>(zb A1).bind fun P3=>(zf .i64 (.pv P3)).bind fun N4=>cond (decide (N4<536870912)) (
 (zf .i64 (.pv P3)).bind fun N5=>zh (ev 174 [(.pv (Bo (decide ((IntKind.wrap .i64 (N5*8))<=(xs1.length:Int)))))] []) (fun A6 H7=>(zb A6).bind fun P8=>(zf .i64 (.pv P3)).bind fun N9=>cond (decide (0<=(IntKind.wrap .i64 (N9*8)))&&decide ((IntKind.wrap .i64 (N9*8))<=(xs1.length:Int))) (zh (ev 64 [(.pv (.sl 1 ((xs1.take (IntKind.wrap .i64 (N9*8)).toNat).drop 0)))] []) (fun A10 H11=>(zb A10).bind fun P12=>tK P12 0 fun P14=>tK P12 1 fun P16=>cond ((decide (P14.cells.length=1)&&P14.cells.all PV.isCell)&&true) (cond (ye (xs4.length+1) 24) ((zf .i64 (.pv P3)).bind fun N17=>cond ((decide (0<=(IntKind.wrap .i64 (N17*8)))&&decide ((IntKind.wrap .i64 (N17*8))<=(xs1.length:Int)))&&decide ((xs1.length:Int)<=(xs1.length:Int))) (Xo xs0 ((xs1.take (xs1.length:Int).toNat).drop (IntKind.wrap .i64 (N17*8)).toNat) i2 (IntKind.wrap .i64 (i3+1)) (xs4++[P14]) i5) none) none) none) (fun A10 H11=>(yC (.pv A10)).bind fun Z12=>cond (!Z12) (
  (xC (.pv A10)).bind fun Q13=>cond (decide (Q13.1=225)) (cond (decide (Q13.2.cells.length=0)) (some (.ret (.pv (.tup [(.sl 1 []),(I 1)])),[])) none) none) (
  some (.ret (.pv (.tup [(.sl 1 xs4),(I i5)])),[])))) none) (fun A6 H7=>(yC (.pv A6)).bind fun Z8=>cond (!Z8) (
  (xC (.pv A6)).bind fun Q9=>cond (decide (Q9.1=225)) (cond (decide (Q9.2.cells.length=0)) (some (.ret (.pv (.tup [(.sl 1 []),(I 1)])),[])) none) none) (
  some (.ret (.pv (.tup [(.sl 1 xs4),(I i5)])),[])))) (
 zh (ev 174 [(.pv (Bo false))] []) (fun A5 H6=>(zb A5).bind fun P7=>(zf .i64 (.pv P3)).bind fun N8=>cond (decide (0<=(IntKind.wrap .i64 (N8*8)))&&decide ((IntKind.wrap .i64 (N8*8))<=(xs1.length:Int))) (zh (ev 64 [(.pv (.sl 1 ((xs1.take (IntKind.wrap .i64 (N8*8)).toNat).drop 0)))] []) (fun A9 H10=>(zb A9).bind fun P11=>tK P11 0 fun P13=>tK P11 1 fun P15=>cond ((decide (P13.cells.length=1)&&P13.cells.all PV.isCell)&&true) (cond (ye (xs4.length+1) 24) ((zf .i64 (.pv P3)).bind fun N16=>cond ((decide (0<=(IntKind.wrap .i64 (N16*8)))&&decide ((IntKind.wrap .i64 (N16*8))<=(xs1.length:Int)))&&decide ((xs1.length:Int)<=(xs1.length:Int))) (Xo xs0 ((xs1.take (xs1.length:Int).toNat).drop (IntKind.wrap .i64 (N16*8)).toNat) i2 (IntKind.wrap .i64 (i3+1)) (xs4++[P13]) i5) none) none) none) (fun A9 H10=>(yC (.pv A9)).bind fun Z11=>cond (!Z11) (
   (xC (.pv A9)).bind fun Q12=>cond (decide (Q12.1=225)) (cond (decide (Q12.2.cells.length=0)) (some (.ret (.pv (.tup [(.sl 1 []),(I 1)])),[])) none) none) (
   some (.ret (.pv (.tup [(.sl 1 xs4),(I i5)])),[])))) none) (fun A5 H6=>(yC (.pv A5)).bind fun Z7=>cond (!Z7) (
   (xC (.pv A5)).bind fun Q8=>cond (decide (Q8.1=225)) (cond (decide (Q8.2.cells.length=0)) (some (.ret (.pv (.tup [(.sl 1 []),(I 1)])),[])) none) none) (
   some (.ret (.pv (.tup [(.sl 1 xs4),(I i5)])),[]))))) (fun A1 H2=>(yC (.pv A1)).bind fun Z3=>cond (!Z3) (
  (xC (.pv A1)).bind fun Q4=>cond (decide (Q4.1=225)) (cond (decide (Q4.2.cells.length=0)) (some (.ret (.pv (.tup [(.sl 1 []),(I 1)])),[])) none) none) (
  some (.ret (.pv (.tup [(.sl 1 xs4),(I i5)])),[])))) (
 zh (ev 174 [(.pv (Bo ((xs1.length:Int)==0)))] []) (fun A1 H2=>(zb A1).bind fun P3=>some (.ret (.pv (.tup [(.sl 1 xs4),(I 0)])),[])) (fun A1 H2=>(yC (.pv A1)).bind fun Z3=>cond (!Z3) (
   (xC (.pv A1)).bind fun Q4=>cond (decide (Q4.1=225)) (cond (decide (Q4.2.cells.length=0)) (some (.ret (.pv (.tup [(.sl 1 []),(I 1)])),[])) none) none) (
   some (.ret (.pv (.tup [(.sl 1 xs4),(I i5)])),[])))):=(yd ..).trans (by kernel_rfl)
theorem zhT (x0:List PV):ev 107 [(.pv (.sl 1 x0))] [] =
 zh (ev 173 [(.pv (.sl 1 x0)),(.pv (I 0))] []) (fun A1 H2=>(zb A1).bind fun P3=>(zf .i64 (.pv P3)).bind fun N4=>zh (ev 174 [(.pv (Bo (decide ((IntKind.wrap .i64 (N4+1))<=512))))] []) (fun A5 H6=>(zb A5).bind fun P7=>zh (ev 167 [(.pv (I (IntKind.wrap .i64 (N4+1))))] []) (fun A8 H9=>(zb A8).bind fun P10=>(zf .i64 (.pv P10)).bind fun N11=>cond (decide ((x0.length:Int)≥N11)) (
 (yq (.pv P10)).bind fun Q12=>cond ((decide (0<=(IntKind.wrap .i64 (4*(IntKind.wrap .i64 ((IntKind.wrap .i64 (N4+1))+1)))))&&decide ((IntKind.wrap .i64 (4*(IntKind.wrap .i64 ((IntKind.wrap .i64 (N4+1))+1))))<=Q12.2))&&decide (Q12.2<=(x0.length:Int))) (zh (ev 175 [(.pv (.sl 1 ((x0.take (Q12.2).toNat).drop (IntKind.wrap .i64 (4*(IntKind.wrap .i64 ((IntKind.wrap .i64 (N4+1))+1)))).toNat)))] []) (fun A13 H14=>(zb A13).bind fun P15=>(zY (.pv P15)).bind fun B16=>zh (ev 174 [(.pv (Bo B16))] []) (fun A17 H18=>(zb A17).bind fun P19=>(yq (.pv P10)).bind fun Q20=>cond ((decide (0<=Q20.2)&&decide (Q20.2<=(x0.length:Int)))&&decide ((x0.length:Int)<=(x0.length:Int))) (Xo x0 ((x0.take (x0.length:Int).toNat).drop (Q20.2).toNat) (IntKind.wrap .i64 (N4+1)) 0 [] 0) none) (fun A17 H18=>(yC (.pv A17)).bind fun Z19=>cond (!Z19) (
  (xC (.pv A17)).bind fun Q20=>cond (decide (Q20.1=225)) (cond (decide (Q20.2.cells.length=0)) (some (.ret (.pv (.tup [(.sl 1 []),(I 1)])),[])) none) none) (
  some (.ret (.pv (.tup [(.sl 1 []),(I 0)])),[])))) (fun A13 H14=>(yC (.pv A13)).bind fun Z15=>cond (!Z15) (
  (xC (.pv A13)).bind fun Q16=>cond (decide (Q16.1=225)) (cond (decide (Q16.2.cells.length=0)) (some (.ret (.pv (.tup [(.sl 1 []),(I 1)])),[])) none) none) (
  some (.ret (.pv (.tup [(.sl 1 []),(I 0)])),[])))) none) (
 zh (ev 174 [(.pv (Bo false))] []) (fun A12 H13=>(zb A12).bind fun P14=>(yq (.pv P10)).bind fun Q15=>cond ((decide (0<=Q15.2)&&decide (Q15.2<=(x0.length:Int)))&&decide ((x0.length:Int)<=(x0.length:Int))) (Xo x0 ((x0.take (x0.length:Int).toNat).drop (Q15.2).toNat) (IntKind.wrap .i64 (N4+1)) 0 [] 0) none) (fun A12 H13=>(yC (.pv A12)).bind fun Z14=>cond (!Z14) (
   (xC (.pv A12)).bind fun Q15=>cond (decide (Q15.1=225)) (cond (decide (Q15.2.cells.length=0)) (some (.ret (.pv (.tup [(.sl 1 []),(I 1)])),[])) none) none) (
   some (.ret (.pv (.tup [(.sl 1 []),(I 0)])),[]))))) (fun A8 H9=>(yC (.pv A8)).bind fun Z10=>cond (!Z10) (
  (xC (.pv A8)).bind fun Q11=>cond (decide (Q11.1=225)) (cond (decide (Q11.2.cells.length=0)) (some (.ret (.pv (.tup [(.sl 1 []),(I 1)])),[])) none) none) (
  some (.ret (.pv (.tup [(.sl 1 []),(I 0)])),[])))) (fun A5 H6=>(yC (.pv A5)).bind fun Z7=>cond (!Z7) (
  (xC (.pv A5)).bind fun Q8=>cond (decide (Q8.1=225)) (cond (decide (Q8.2.cells.length=0)) (some (.ret (.pv (.tup [(.sl 1 []),(I 1)])),[])) none) none) (
  some (.ret (.pv (.tup [(.sl 1 []),(I 0)])),[])))) (fun A1 H2=>(yC (.pv A1)).bind fun Z3=>cond (!Z3) (
  (xC (.pv A1)).bind fun Q4=>cond (decide (Q4.1=225)) (cond (decide (Q4.2.cells.length=0)) (some (.ret (.pv (.tup [(.sl 1 []),(I 1)])),[])) none) none) (
  some (.ret (.pv (.tup [(.sl 1 []),(I 0)])),[]))):=(JB (f:=107) (g:=172) (fn:=Tryz.f107) (gn:=Tryz.f172) (d:=⟨sub YS [0],sub YS [1,1],sub ug [1],[2,3],2,11⟩) (by kernel_rfl) (by kernel_rfl) (by kernel_rfl) (by kernel_rfl) (by kernel_rfl) _ _).trans (by kernel_rfl)
noncomputable def qV:Code:=Tryz.f142.body.getD .skip
noncomputable def VV (i0 i1 i2:Int):Option (Out×za) :=
 ya (zA env ev zN 13 142 0 (sub qV [1,1,0,1,0,0])) (zJ env 142 0 0) (zQ 0 (yf (zT env ev 13 142 0 (sub qV [1,1,1])) (z8 env 142 Tryz.f142.results.toList 0))) ⟨zR [(0,(.pv (I i0))),(3,(.pv (U i1))),(4,(.pv (I i2)))],[]⟩
theorem rR (i0 i1 i2:Int):VV i0 i1 i2 =
 cond (decide (i2<i0)) (
 VV i0 (IntKind.wrap .u64 (i1*2)) (IntKind.wrap .i64 (i2+1))) (
 some (.ret (.pv (U i1)),[])):=(yd ..).trans (by kernel_rfl)
theorem zgm (x0:Int):ev 142 [(.pv (I x0))] [] =
 VV x0 1 0:=zg (fn:=Tryz.f142) _ _
noncomputable def ut:Code:=Tryz.f153.body.getD .skip
noncomputable def Ve (xs0:List PV) (i1 i2 i3 i4 i5:Int) (xs6 xs7:List PV) (i8 i9 i10:Int) (xs11 xs12:List PV) (i13 i14 i15:Int) (xs16 xs17:List PV):Option (Out×za) :=
 ya (zA env ev zN 51 153 0 (sub ut [1,1,1,1,1,0,1,0,0])) (zJ env 153 0 3) (zQ 0 (yf (zT env ev 51 153 0 (sub ut [1,1,1,1,1,1])) (z8 env 153 Tryz.f153.results.toList 0))) ⟨zR [(2,(.ptr 1 0)),(3,(.ptr 2 0)),(36,(.pv (.sl 5 xs0))),(37,(.pv (I i1))),(38,(.pv (I i2)))],[[(.pv (I i3)),(.pv (I i4)),(.pv (I i5)),(.pv (.sl 1 xs6)),(.pv (.sl 5 xs7))],[(.pv (I i8)),(.pv (I i9)),(.pv (I i10)),(.slu 5 1 xs11),(.slu 53 5 xs12)],[(.pv (I i13)),(.pv (I i14)),(.pv (I i15)),(.slu 5 1 xs16),(.slu 53 5 xs17)]]⟩
theorem zcE (xs0:List PV) (i1 i2 i3 i4 i5:Int) (xs6 xs7:List PV) (i8 i9 i10:Int) (xs11 xs12:List PV) (i13 i14 i15:Int) (xs16 xs17:List PV):Ve xs0 i1 i2 i3 i4 i5 xs6 xs7 i8 i9 i10 xs11 xs12 i13 i14 i15 xs16 xs17 =
 cond (decide (i2<i1)) (
 cond (decide (0<=i2)&&decide (i2<(xs0.length:Int))) ((xs0[(i2).toNat]?).bind fun P1=>cond (decide (5<=P1.cells.length)) (cond (decide (((P1.cells.drop 0).take 5).length=5)) ((((P1.cells.drop 0).take 5)[0]?).bind fun P2=>(((P1.cells.drop 0).take 5)[1]?).bind fun P3=>(((P1.cells.drop 0).take 5)[2]?).bind fun P4=>(((P1.cells.drop 0).take 5)[3]?).bind fun P5=>(((P1.cells.drop 0).take 5)[4]?).bind fun P6=>cond (P2.isCell&&(P3.isCell&&(P4.isCell&&(P5.isCell&&(P6.isCell&&true))))) (cp (ev 153 [(.pv (.agg [P2,P3,P4,P5,P6]))] []) (fun P9=>cond ((decide (P9.cells.length=5)&&P9.cells.all PV.isCell)&&true) (cond (ye (xs17.length+1) 72) (Ve xs0 i1 (IntKind.wrap .i64 (i2+1)) i3 i4 i5 xs6 xs7 i8 i9 i10 xs11 xs12 i13 i14 i15 xs16 (xs17++[P9])) none) none)) none) none) none) none) (
 some (.ret (.pv (.agg [(I i13),(I i14),(I i15),(.sl 1 xs16),(.sl 5 xs17)])),[])):=(yd ..).trans (by kernel_rfl)
theorem zlA (x0_0 x0_1 x0_2:Int) (x0_3 x0_4:List PV):ev 153 [(.pv (.agg [(I x0_0),(I x0_1),(I x0_2),(.sl 1 x0_3),(.sl 5 x0_4)]))] [] =
 cond (x0_0==1) (
 zh (ev 214 [(.pv (.sl 1 x0_3))] []) (fun A1 H2=>(zb A1).bind fun P3=>(zf .i64 (.pv P3)).bind fun N4=>cond (decide (0<=(IntKind.wrap .i64 (8*N4)))&&decide ((IntKind.wrap .i64 (8*N4))<=(x0_3.length:Int))) (cp (ev 215 [(.pv (.sl 5 x0_4))] []) (fun P7=>(yq (.pv P7)).bind fun Q8=>cond (decide (0<=Q8.2)&&decide (Q8.2<=(x0_4.length:Int))) (cond (ye (0+((x0_3.take (IntKind.wrap .i64 (8*N4)).toNat).drop 0).length) 1) (Ve ((x0_4.take (Q8.2).toNat).drop 0) (((x0_4.take (Q8.2).toNat).drop 0).length:Int) 0 x0_0 x0_1 x0_2 x0_3 x0_4 0 0 0 [] [] x0_0 x0_1 x0_2 ((x0_3.take (IntKind.wrap .i64 (8*N4)).toNat).drop 0) []) none) none)) none) (fun A1 H2=>none)) (
 cond (ye (0+x0_3.length) 1) (Ve x0_4 (x0_4.length:Int) 0 x0_0 x0_1 x0_2 x0_3 x0_4 0 0 0 [] [] x0_0 x0_1 x0_2 x0_3 []) none):=zg (fn:=Tryz.f153) _ _
theorem zf2 (x0_0 x0_1 x0_2:Int) (x0_3 x0_4:List PV):ev 164 [(.pv (.agg [(I x0_0),(I x0_1),(I x0_2),(.sl 1 x0_3),(.sl 5 x0_4)]))] [] =
 zh (ev 165 [(.pv (.agg [(I x0_0),(I x0_1),(I x0_2),(.sl 1 x0_3),(.sl 5 x0_4)]))] []) (fun A1 H2=>(zO 30 1 A1).bind fun X3=>some (.ret (.pv (.sl 1 [(.sl 1 X3)])),[])) (fun A1 H2=>some (.pan A1,[])):=zg (fn:=Tryz.f164) _ _
noncomputable def ui:Code:=Tryz.f166.body.getD .skip
noncomputable def WI (xs0:List PV) (i1 i2:Int):Option (Out×za) :=
 ya (zA env ev zN 16 166 0 (sub ui [1,0,1,0,0])) (zJ env 166 0 0) (zQ 0 (yf (zT env ev 16 166 0 (sub ui [1,1])) (z8 env 166 Tryz.f166.results.toList 0))) ⟨zR [(0,(.slu 5 1 xs0)),(1,(.pv (I i1))),(5,(.pv (I i2)))],[]⟩
theorem zac (xs0:List PV) (i1 i2:Int):WI xs0 i1 i2 =
 cond (decide (i2<4)) (
 cond (ye (xs0.length+1) 1) (WI (xs0++[(U8 (IntKind.wrap .u8 i1))]) (Int.fdiv i1 (2^(min 8 64))) (IntKind.wrap .i64 (i2+1))) none) (
 some (.ret (.slu 5 1 xs0),[])):=(yd ..).trans (by kernel_rfl)
theorem zhW (x0:List PV) (x1:Int):ev 166 [(.slu 5 1 x0),(.pv (I x1))] [] =
 WI x0 x1 0:=zg (fn:=Tryz.f166) _ _
noncomputable def uh:Code:=Tryz.f173.body.getD .skip
noncomputable def WH (xs0:List PV) (i1 i2 i3:Int):Option (Out×za) :=
 ya (zA env ev zN 30 173 0 (sub uh [1,1,1,0,1,0,0])) (zJ env 173 0 0) (zQ 0 (yf (zT env ev 30 173 0 (sub uh [1,1,1,1])) (z8 env 173 Tryz.f173.results.toList 0))) ⟨zR [(0,(.pv (.sl 1 xs0))),(1,(.pv (I i1))),(5,(.pv (I i2))),(6,(.pv (I i3)))],[]⟩
theorem zaa (xs0:List PV) (i1 i2 i3:Int):WH xs0 i1 i2 i3 =
 cond (decide (i3≥0)) (
 cond (decide (0<=(IntKind.wrap .i64 ((IntKind.wrap .i64 (4*i1))+i3)))&&decide ((IntKind.wrap .i64 ((IntKind.wrap .i64 (4*i1))+i3))<(xs0.length:Int))) ((xs0[(IntKind.wrap .i64 ((IntKind.wrap .i64 (4*i1))+i3)).toNat]?).bind fun P1=>(P1.cells[0]?).bind fun P2=>(yq (.pv P2)).bind fun Q3=>WH xs0 i1 (IntKind.wrap .i64 (BitVec.ofInt 64 (IntKind.wrap .i64 (i2*2^(min 8 64))) ||| BitVec.ofInt 64 (IntKind.wrap .i64 Q3.2)).toNat) (IntKind.wrap .i64 (i3-1))) none) (
 some (.ret (.pv (I i2)),[])):=(yd ..).trans (by kernel_rfl)
theorem zab (x0:List PV) (x1:Int):ev 173 [(.pv (.sl 1 x0)),(.pv (I x1))] [] =
 cp (ev 174 [(.pv (Bo (decide ((IntKind.wrap .i64 (4*(IntKind.wrap .i64 (x1+1))))<=(x0.length:Int)))))] []) (fun P3=>WH x0 x1 0 3):=zg (fn:=Tryz.f173) _ _
theorem zfH (x0_0 x0_1 x0_2 x1_0:Int):ev 179 [(.pv (.agg [(I x0_0),(I x0_1),(I x0_2)])),(.pv (.agg [(I x1_0)]))] [] =
 zh (ev 131 [(.pv (.agg [(I x0_0),(I x0_1),(I x0_2)]))] []) (fun A1 H2=>(zb A1).bind fun P3=>(YE (.pv P3)).bind fun cs_4=>(cs_4[0]?).bind fun P5=>(zf .i64 (.pv P5)).bind fun N6=>some (.ret (.pv (I (IntKind.wrap .i64 (N6-x1_0)))),[])) (fun A1 H2=>none):=zg (fn:=Tryz.f179) _ _
theorem zht (x0_0 x0_1:List PV) (x1_0 x1_1 x1_2 x1_3 x1_4 x1_5 x1_6 x1_7 x2_0 x2_1 x2_2 x2_3 x2_4 x2_5 x2_6 x2_7:Int):ev 181 [(.pv (.agg [(.sl 1 x0_0),(.sl 1 x0_1)])),(.pv (.agg [(I x1_0),(I x1_1),(I x1_2),(I x1_3),(I x1_4),(I x1_5),(I x1_6),(I x1_7)])),(.pv (.agg [(I x2_0),(I x2_1),(I x2_2),(I x2_3),(I x2_4),(I x2_5),(I x2_6),(I x2_7)]))] [] =
 zh (ev 236 [(.pv (.sl 1 x0_0)),(.pv (.agg [(I x1_0),(I x1_1),(I x1_2),(I x1_3),(I x1_4),(I x1_5),(I x1_6),(I x1_7)])),(.pv (I x1_3))] []) (fun A1 H2=>(zb A1).bind fun P3=>cp (ev 236 [(.pv (.sl 1 x0_1)),(.pv (.agg [(I x2_0),(I x2_1),(I x2_2),(I x2_3),(I x2_4),(I x2_5),(I x2_6),(I x2_7)])),(.pv (I x2_3))] []) (fun P6=>cp (ev 237 [(.pv P3),(.pv P6)] []) (fun P9=>(zY (.pv P9)).bind fun B10=>cond B10 (
 cp (ev 183 [(.pv (.agg [(.sl 1 x0_0),(.sl 1 x0_1)])),(.pv (.agg [(I x1_0),(I x1_1),(I x1_2),(I x1_3),(I x1_4),(I x1_5),(I x1_6),(I x1_7)])),(.pv (.agg [(I x2_0),(I x2_1),(I x2_2),(I x2_3),(I x2_4),(I x2_5),(I x2_6),(I x2_7)])),(.pv (I (if x2_4>x1_4 then x2_4 else x1_4)))] []) (fun P13=>(zY (.pv P13)).bind fun B14=>some (.ret (.pv (Bo B14)),[]))) (
 some (.ret (.pv (Bo false)),[]))))) (fun A1 H2=>none):=zg (fn:=Tryz.f181) _ _
theorem zkr (x0:List PV) (x1 x2:Int):ev 184 [(.pv (.sl 1 x0)),(.pv (I x1)),(.pv (I x2))] [] =
 cp (ev 240 [(.pv (.sl 1 x0)),(.pv (I x1)),(.pv (I x2))] []) (fun P3=>tK P3 0 fun P5=>tK P3 1 fun P7=>tK P3 2 fun P9=>tK P3 3 fun P11=>(zf .i64 (.pv P11)).bind fun N12=>cond (N12 != 0) (
 some (.ret (.pv (.tup [(.agg [(I 0),(I 0),(I 0),(I 0),(I 0),(I 0),(I 0),(I 0)]),P11])),[])) (
 cp (ev 190 [(.pv P5)] []) (fun P15=>(zY (.pv P15)).bind fun B16=>cond B16 (
  some (.ret (.pv (.tup [(.agg [(I 0),(I 0),(I 0),(I 0),(I 0),(I 0),(I 0),(I 0)]),P11])),[])) (
  cp (ev 192 [(.pv P5)] []) (fun P19=>wv P19 (fun P20 P21 P22 P23 P24 P25 P26 P27 P28 P29=>(yq (.pv P20)).bind fun Q30=>cond (decide (0<=Q30.2)&&decide (Q30.2<4)) (cond ((0:Int)==Q30.2) (
   (zf .i64 (.pv P9)).bind fun N31=>(zf .i64 (.pv P21)).bind fun N32=>cp (ev 241 [(.pv (.sl 1 x0)),(.pv (.agg [P20,P21,P22,P23,P24,P25,P26,P27,P28,P29])),(.pv P7),(.pv (I (IntKind.wrap .i64 (N31+N32))))] []) (fun P35=>tK P35 0 fun P37=>tK P35 1 fun P39=>vJ P37 (fun P40 P41 P42 P43 P44 P45 P46 P47=>some (.ret (.pv (.tup [(.agg [P40,P41,P42,P43,P44,P45,P46,P47]),P39])),[])))) (
   cond ((1:Int)==Q30.2) (
    (zf .i64 (.pv P9)).bind fun N31=>(zf .i64 (.pv P21)).bind fun N32=>cp (ev 242 [(.pv (.sl 1 x0)),(.pv (.agg [P20,P21,P22,P23,P24,P25,P26,P27,P28,P29])),(.pv P7),(.pv (I (IntKind.wrap .i64 (N31+N32))))] []) (fun P35=>tK P35 0 fun P37=>tK P35 1 fun P39=>vJ P37 (fun P40 P41 P42 P43 P44 P45 P46 P47=>some (.ret (.pv (.tup [(.agg [P40,P41,P42,P43,P44,P45,P46,P47]),P39])),[])))) (
    cond ((2:Int)==Q30.2) (
     (zf .i64 (.pv P9)).bind fun N31=>(zf .i64 (.pv P21)).bind fun N32=>cp (ev 243 [(.pv (.sl 1 x0)),(.pv (.agg [P20,P21,P22,P23,P24,P25,P26,P27,P28,P29])),(.pv P7),(.pv (I (IntKind.wrap .i64 (N31+N32))))] []) (fun P35=>tK P35 0 fun P37=>tK P35 1 fun P39=>vJ P37 (fun P40 P41 P42 P43 P44 P45 P46 P47=>some (.ret (.pv (.tup [(.agg [P40,P41,P42,P43,P44,P45,P46,P47]),P39])),[])))) (
     cond ((3:Int)==Q30.2) (
      (zf .i64 (.pv P9)).bind fun N31=>(zf .i64 (.pv P21)).bind fun N32=>cp (ev 243 [(.pv (.sl 1 x0)),(.pv (.agg [P20,P21,P22,P23,P24,P25,P26,P27,P28,P29])),(.pv P7),(.pv (I (IntKind.wrap .i64 (N31+N32))))] []) (fun P35=>tK P35 0 fun P37=>tK P35 1 fun P39=>vJ P37 (fun P40 P41 P42 P43 P44 P45 P46 P47=>some (.ret (.pv (.tup [(.agg [P40,P41,P42,P43,P44,P45,P46,P47]),P39])),[])))) (
      none))))) none)))))):=zg (fn:=Tryz.f184) _ _
theorem zlV (x0__0 x0__1:List PV) (x0__2 x1:Int):ev 267 [(.ptr 0 0),(.pv (U x1))] [[(.pv (.sl 1 x0__0)),(.slu 5 1 x0__1),(.pv (I x0__2))]] =
 cond (decide ((IntKind.wrap .i64 ((x0__1.length:Int)+8))>x0__2)) (
 some (.ret (.pv (.sen 1)),[[(.pv (.sl 1 x0__0)),(.slu 5 1 x0__1),(.pv (I x0__2))]])) (
 zh (ev 117 [(.pv (.sl 1 [(U x1)]))] []) (fun A1 H2=>(zb A1).bind fun P3=>(zX P3).bind fun L4=>cond (decide (L4.1=1)) (cond (ye (x0__1.length+L4.2.length) 1) (some (.ret (.pv (.v .nilIface)),[[(.pv (.sl 1 x0__0)),(.slu 5 1 (x0__1++L4.2)),(.pv (I x0__2))]])) none) none) (fun A1 H2=>some (.pan A1,[[(.pv (.sl 1 x0__0)),(.slu 5 1 x0__1),(.pv (I x0__2))]]))):=zg (fn:=Tryz.f267) _ _
theorem zgh (x0__0:List PV) (x1_0 x1_1 x1_2:Int) (x1_3 x1_4:List PV):ev 269 [(.ptr 0 0),(.pv (.agg [(I x1_0),(I x1_1),(I x1_2),(.sl 1 x1_3),(.sl 5 x1_4)]))] [[(.slu 30 1 x0__0)]] =
 zh (ev 293 [(.ptr 0 0),(.pv (.sl 1 x1_3)),(.pv (I (IntKind.wrap .i64 (Int.tdiv (x1_3.length:Int) 8))))] [[(.slu 30 1 x0__0)]]) (fun A1 H2=>(H2[0]?).bind fun C3=>(C3[0]?).bind fun E4=>(zO 30 1 E4).bind fun X5=>cond (decide (C3.length=1)) (cond (decide (H2.length=1)) ((zb A1).bind fun P6=>zh (ev 292 [(.ptr 0 0),(.pv (I (x1_4.length:Int)))] [[(.slu 30 1 X5)]]) (fun A7 H8=>(H8[0]?).bind fun C9=>(C9[0]?).bind fun E10=>(zO 30 1 E10).bind fun X11=>cond (decide (C9.length=1)) (cond (decide (H8.length=1)) ((zb A7).bind fun P12=>cond ((decide (P12.cells.length=1)&&P12.cells.all PV.isCell)&&true) (some (.ret (.pv (.tup [(.agg [(I 0),(I 0),(I (IntKind.wrap .i64 (Int.tdiv (x1_3.length:Int) 8))),(I (x1_4.length:Int)),(I 0),(I 0),(Bo false),(I 0),(PV.v (.int .u32 0)),(PV.v (.int .u32 0))]),(.sl 1 [P12])])),[[(.slu 30 1 X11)]])) none) none) none) (fun A7 H8=>(H8[0]?).bind fun C9=>(C9[0]?).bind fun E10=>(zO 30 1 E10).bind fun X11=>cond (decide (C9.length=1)) (cond (decide (H8.length=1)) (some (.pan A7,[[(.slu 30 1 X11)]])) none) none)) none) none) (fun A1 H2=>(H2[0]?).bind fun C3=>(C3[0]?).bind fun E4=>(zO 30 1 E4).bind fun X5=>cond (decide (C3.length=1)) (cond (decide (H2.length=1)) (some (.pan A1,[[(.slu 30 1 X5)]])) none) none):=zg (fn:=Tryz.f269) _ _
theorem zfE (x0_0 x1:Int):ev 272 [(.pv (.agg [(I x0_0)])),(.pv (I x1))] [] =
 zh (ev 294 [(.ptr 0 0),(.pv (I x1))] [[(.pv (I x0_0))]]) (fun A1 H2=>(H2[0]?).bind fun C3=>(C3[0]?).bind fun E4=>(zb E4).bind fun P5=>cond (decide (C3.length=1)) (cond (decide (H2.length=1)) ((zb A1).bind fun P6=>(zY (.pv P6)).bind fun B7=>cond (!B7) (
 some (.ret (.pv (.tup [(.agg [(I x0_0)]),(I 8)])),[])) (
 cond (P5.isCell&&true) (some (.ret (.pv (.tup [(.agg [P5]),(I 0)])),[])) none)) none) none) (fun A1 H2=>(H2[0]?).bind fun C3=>(C3[0]?).bind fun E4=>(zb E4).bind fun P5=>cond (decide (C3.length=1)) (cond (decide (H2.length=1)) (some (.pan A1,[])) none) none):=zg (fn:=Tryz.f272) _ _
noncomputable def q8:Code:=Tryz.f274.body.getD .skip
noncomputable def Qa (i0 i1 i2:Int) (p3 p4 p5 p6 p7:PV) (i8 i9 i10 i11 i12 i13 i14 i15 i16 i17 i18:Int) (xs19 xs20:List PV) (i21 i22 i23:Int) (xs24 xs25:List PV):Option (Out×za) :=
 ya (zA env ev zN 56 274 1 (sub q8 [1,1,0,1,0,1,1,1,0,1,0,0])) (zJ env 274 1 4) (zQ 1 (zQ 0 (yf (zT env ev 56 274 0 (sub q8 [1,1,1])) (z8 env 274 Tryz.f274.results.toList 1)))) ⟨zR [(0,(.ptr 0 0)),(2,(.pv (I i0))),(4,(.ptr 1 0)),(6,(.ptr 2 0)),(7,(.ptr 3 0)),(39,(.pv (I i1))),(40,(.pv (I i2)))],[[(.pv p3),(.pv p4),(.pv p5),(.pv p6),(.pv p7)],[(.pv (I i8)),(.pv (I i9)),(.pv (I i10)),(.pv (I i11)),(.pv (I i12)),(.pv (I i13)),(.pv (I i14)),(.pv (I i15))],[(.pv (I i16)),(.pv (I i17)),(.pv (I i18)),(.slu 5 1 xs19),(.slu 53 5 xs20)],[(.pv (I i21)),(.pv (I i22)),(.pv (I i23)),(.slu 5 1 xs24),(.slu 53 5 xs25)]]⟩
theorem js (i0 i1 i2:Int) (p3 p4 p5 p6 p7:PV) (i8 i9 i10 i11 i12 i13 i14 i15 i16 i17 i18:Int) (xs19 xs20:List PV) (i21 i22 i23:Int) (xs24 xs25:List PV):Qa i0 i1 i2 p3 p4 p5 p6 p7 i8 i9 i10 i11 i12 i13 i14 i15 i16 i17 i18 xs19 xs20 i21 i22 i23 xs24 xs25 =
 cond (decide (i2<i1)) (
 zh (ev 238 [(.pv (.agg [(I i8),(I i9),(I i10),(I i11),(I i12),(I i13),(I i14),(I i15)])),(.pv (I i2))] []) (fun A1 H2=>(zb A1).bind fun P3=>Zw (ev 273 [(.ptr 0 0),(.pv P3),(.pv (I i0))] [[(.pv p3),(.pv p4),(.pv p5),(.pv p6),(.pv p7)]]) (fun P17 P8 P10 P12 P14 P16=>cond ((decide (P17.cells.length=5)&&P17.cells.all PV.isCell)&&true) (cond (ye (xs25.length+1) 72) (Qa i0 i1 (IntKind.wrap .i64 (i2+1)) P8 P10 P12 P14 P16 i8 i9 i10 i11 i12 i13 i14 i15 i16 i17 i18 xs19 xs20 i21 i22 i23 xs24 (xs25++[P17])) none) none)) (fun A1 H2=>none)) (
 some (.ret (.pv (.agg [(I i21),(I i22),(I i23),(.sl 1 xs24),(.sl 5 xs25)])),[[(.pv p3),(.pv p4),(.pv p5),(.pv p6),(.pv p7)]])):=(yd ..).trans (by kernel_rfl)
theorem Jp (x0__0:List PV) (x0__1_0 x0__1_1 x0__1_2 x0__2_0 x1_0 x1_1 x1_2 x1_3 x1_4 x1_5 x1_6 x1_7 x2:Int):ev 274 [(.ptr 0 0),(.pv (.agg [(I x1_0),(I x1_1),(I x1_2),(I x1_3),(I x1_4),(I x1_5),(I x1_6),(I x1_7)])),(.pv (I x2))] [[(.pv (.sl 1 x0__0)),(.pv (I x0__1_0)),(.pv (I x0__1_1)),(.pv (I x0__1_2)),(.pv (I x0__2_0))]] =
 cond (x1_5==6) (
 Zw (ev 296 [(.ptr 0 0),(.pv (.agg [(I x1_0),(I x1_1),(I x1_2),(I x1_3),(I x1_4),(I x1_5),(I x1_6),(I x1_7)])),(.pv (I x2))] [[(.pv (.sl 1 x0__0)),(.pv (I x0__1_0)),(.pv (I x0__1_1)),(.pv (I x0__1_2)),(.pv (I x0__2_0))]]) (fun P14 P5 P7 P9 P11 P13=>cond (P14.isCell&&true) (cond (P14.isCell&&true) (cond (P14.isCell&&true) (some (.ret (.pv (.agg [(I 2),(I x1_5),(I x1_6),(.sl 1 []),P14])),[[(.pv P5),(.pv P7),(.pv P9),(.pv P11),(.pv P13)]])) none) none) none)) (
 cond (x1_5==7) (
  Qa x2 x1_6 0 (.sl 1 x0__0) (I x0__1_0) (I x0__1_1) (I x0__1_2) (I x0__2_0) x1_0 x1_1 x1_2 x1_3 x1_4 x1_5 x1_6 x1_7 0 0 0 [] [] 2 x1_5 x1_6 [] []) (
  Zw (ev 295 [(.ptr 0 0),(.pv (.agg [(I x1_0),(I x1_1),(I x1_2),(I x1_3),(I x1_4),(I x1_5),(I x1_6),(I x1_7)])),(.pv (I x1_2)),(.pv (I x1_7))] [[(.pv (.sl 1 x0__0)),(.pv (I x0__1_0)),(.pv (I x0__1_1)),(.pv (I x0__1_2)),(.pv (I x0__2_0))]]) (fun P14 P5 P7 P9 P11 P13=>zh (ev 235 [(.pv (I x1_5)),(.pv (I x1_6)),(.pv P14)] []) (fun A15 H16=>(zO 5 1 A15).bind fun X17=>some (.ret (.pv (.agg [(I 2),(I x1_5),(I x1_6),(.sl 1 X17),(.sl 5 [])])),[[(.pv P5),(.pv P7),(.pv P9),(.pv P11),(.pv P13)]])) (fun A15 H16=>some (.pan A15,[[(.pv P5),(.pv P7),(.pv P9),(.pv P11),(.pv P13)]]))))):=zg (fn:=Tryz.f274) _ _
theorem zbq (x0_0 x0_1 x0_2 x0_3 x0_4 x0_5:Int) (x0_6:Bool) (x0_7 x0_8 x0_9:Int):ev 288 [(.pv (.agg [(I x0_0),(I x0_1),(I x0_2),(I x0_3),(I x0_4),(I x0_5),(Bo x0_6),(I x0_7),(PV.v (.int .u32 x0_8)),(PV.v (.int .u32 x0_9))]))] [] =
 cp (ev 291 [(.pv (U 0)),(.pv (I 0)),(.pv (I 2)),(.pv (U (IntKind.wrap .u64 x0_0)))] []) (fun P3=>cond (x0_0==0) (
 cp (ev 291 [(.pv P3),(.pv (I 2)),(.pv (I 30)),(.pv (U (IntKind.wrap .u64 x0_1)))] []) (fun P6=>zh (ev 291 [(.pv P6),(.pv (I 32)),(.pv (I 16)),(.pv (U (IntKind.wrap .u64 x0_2)))] []) (fun A7 H8=>(zb A7).bind fun P9=>cp (ev 291 [(.pv P9),(.pv (I 48)),(.pv (I 16)),(.pv (U (IntKind.wrap .u64 x0_3)))] []) (fun P12=>some (.ret (.pv P12),[]))) (fun A7 H8=>none))) (
 cond (x0_0==1) (
  cp (ev 291 [(.pv P3),(.pv (I 2)),(.pv (I 30)),(.pv (U (IntKind.wrap .u64 x0_1)))] []) (fun P6=>zh (ev 291 [(.pv P6),(.pv (I 32)),(.pv (I 3)),(.pv (U (IntKind.wrap .u64 x0_4)))] []) (fun A7 H8=>(zb A7).bind fun P9=>cp (ev 291 [(.pv P9),(.pv (I 35)),(.pv (I 29)),(.pv (U (IntKind.wrap .u64 x0_5)))] []) (fun P12=>some (.ret (.pv P12),[]))) (fun A7 H8=>none))) (
  cond (x0_0==2) (
   cond x0_6 (
   cp (ev 291 [(.pv P3),(.pv (I 2)),(.pv (I 1)),(.pv (U 1))] []) (fun P6=>cp (ev 291 [(.pv P6),(.pv (I 3)),(.pv (I 29)),(.pv (U (IntKind.wrap .u64 x0_7)))] []) (fun P9=>cp (ev 291 [(.pv P9),(.pv (I 32)),(.pv (I 32)),(.pv (U (IntKind.wrap .u64 x0_8)))] []) (fun P12=>some (.ret (.pv P12),[]))))) (
   cp (ev 291 [(.pv P3),(.pv (I 3)),(.pv (I 29)),(.pv (U (IntKind.wrap .u64 x0_7)))] []) (fun P6=>cp (ev 291 [(.pv P6),(.pv (I 32)),(.pv (I 32)),(.pv (U (IntKind.wrap .u64 x0_8)))] []) (fun P9=>some (.ret (.pv P9),[]))))) (
   cp (ev 291 [(.pv P3),(.pv (I 2)),(.pv (I 30)),(.pv (U (IntKind.wrap .u64 x0_9)))] []) (fun P6=>cp (ev 291 [(.pv P6),(.pv (I 32)),(.pv (I 32)),(.pv (U (IntKind.wrap .u64 x0_8)))] []) (fun P9=>some (.ret (.pv P9),[]))))))):=zg (fn:=Tryz.f288) _ _
theorem zjV (x0:Int):ev 343 [(.pv (U x0))] [] =
 cp (ev 342 [(.pv (U x0)),(.pv (I 2)),(.pv (I 30))] []) (fun P3=>cp (ev 245 [(.pv (U x0)),(.pv (I 32)),(.pv (I 3))] []) (fun P6=>(yq (.pv P6)).bind fun Q7=>cp (ev 245 [(.pv (U x0)),(.pv (I 35)),(.pv (I 29))] []) (fun P10=>(yq (.pv P10)).bind fun Q11=>cond (P3.isCell&&true) (cond ((P3.isCell&&true)&&true) (cond (P3.isCell&&true) (some (.ret (.pv (.agg [(I 0),P3,(I 0),(I 0),(I (IntKind.wrap .i64 Q7.2)),(I (IntKind.wrap .i64 Q11.2)),(Bo false),(I 0),(PV.v (.int .u32 0)),(PV.v (.int .u32 0))])),[])) none) none) none))):=zg (fn:=Tryz.f343) _ _
end Go.Proofs.YtjbjeeoifhegfaaGreatDoor.E
