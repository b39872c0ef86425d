/- A part of the proof of the law MessageKeeps, as its statement says it: for every input; its conditions are the statement's own. -/
import Derived.KernelRfl
import Derived.Test.YtjbjeeoifhegfaaGreatDoorZMessageKeeps1
import Derived.Test.YtjbjeeoifhegfaaGreatDoorZMessageKeeps2
import Derived.Test.YtjbjeeoifhegfaaGreatDoorZMessageKeeps3
set_option linter.unusedVariables false
set_option linter.unusedSimpArgs false
namespace Go.Proofs.YtjbjeeoifhegfaaGreatDoor.E
theorem zgr (x0:List PV) (x1:Int):ev 85 [(.pv (.sl 1 x0)),(.pv (I x1))] [] =
 cond (decide (0<=(IntKind.wrap .i64 (4*x1)))&&decide ((IntKind.wrap .i64 (4*x1))<(x0.length:Int))) ((x0[(IntKind.wrap .i64 (4*x1)).toNat]?).bind fun P1=>(P1.cells[0]?).bind fun P2=>(yq (.pv P2)).bind fun Q3=>cond (decide (0<=(IntKind.wrap .i64 ((IntKind.wrap .i64 (4*x1))+1)))&&decide ((IntKind.wrap .i64 ((IntKind.wrap .i64 (4*x1))+1))<(x0.length:Int))) ((x0[(IntKind.wrap .i64 ((IntKind.wrap .i64 (4*x1))+1)).toNat]?).bind fun P4=>(P4.cells[0]?).bind fun P5=>(yq (.pv P5)).bind fun Q6=>cond (decide (0<=(IntKind.wrap .i64 ((IntKind.wrap .i64 (4*x1))+2)))&&decide ((IntKind.wrap .i64 ((IntKind.wrap .i64 (4*x1))+2))<(x0.length:Int))) ((x0[(IntKind.wrap .i64 ((IntKind.wrap .i64 (4*x1))+2)).toNat]?).bind fun P7=>(P7.cells[0]?).bind fun P8=>(yq (.pv P8)).bind fun Q9=>cond (decide (0<=(IntKind.wrap .i64 ((IntKind.wrap .i64 (4*x1))+3)))&&decide ((IntKind.wrap .i64 ((IntKind.wrap .i64 (4*x1))+3))<(x0.length:Int))) ((x0[(IntKind.wrap .i64 ((IntKind.wrap .i64 (4*x1))+3)).toNat]?).bind fun P10=>(P10.cells[0]?).bind fun P11=>(yq (.pv P11)).bind fun Q12=>some (.ret (.pv (I (IntKind.wrap .i64 ((IntKind.wrap .i64 ((IntKind.wrap .i64 ((IntKind.wrap .i64 Q3.2)+(IntKind.wrap .i64 (256*(IntKind.wrap .i64 Q6.2)))))+(IntKind.wrap .i64 (65536*(IntKind.wrap .i64 Q9.2)))))+(IntKind.wrap .i64 (16777216*(IntKind.wrap .i64 Q12.2))))))),[])) none) none) none) none:=zg (fn:=Tryz.f85) _ _
theorem Ja (x0__0:List PV) (x0__1 x0__2_0 x0__2_1 x0__2_2 x0__3_0 x1 x2:Int):ev 132 [(.ptr 0 0),(.pv (I x1)),(.pv (I x2))] [[(.pv (.sl 1 x0__0)),(.pv (I x0__1)),(.pv (I x0__2_0)),(.pv (I x0__2_1)),(.pv (I x0__2_2)),(.pv (I x0__3_0))]] =
 cond (decide (0<=x1)&&decide (x1<(x0__0.length:Int))) ((x0__0[(x1).toNat]?).bind fun P1=>(P1.cells[0]?).bind fun P2=>zh (ev 190 [(.pv P2)] []) (fun A3 H4=>(zb A3).bind fun P5=>(zY (.pv P5)).bind fun B6=>cond B6 (
 some (.ret (.pv (.tup [])),[[(.pv (.sl 1 x0__0)),(.pv (I x0__1)),(.pv (I x0__2_0)),(.pv (I x0__2_1)),(.pv (I x0__2_2)),(.pv (I x0__3_0))]])) (
 zh (ev 191 [(.pv (.agg [(I x0__2_0),(I x0__2_1),(I x0__2_2)])),(.pv (I x2))] []) (fun A7 H8=>(zb A7).bind fun P9=>(zf .i64 (.pv P9)).bind fun N10=>zh (ev 130 [(.pv (Bo (N10==0)))] []) (fun A11 H12=>(zb A11).bind fun P13=>zh (ev 192 [(.pv P2)] []) (fun A14 H15=>(zb A14).bind fun P16=>wv P16 (fun P17 P18 P19 P20 P21 P22 P23 P24 P25 P26=>(zf .i64 (.pv P17)).bind fun N27=>cond (N27==0) (
  xj (ev 193 [(.ptr 0 0),(.pv (I x1)),(.pv (I x2)),(.pv (.agg [P17,P18,P19,P20,P21,P22,P23,P24,P25,P26]))] [[(.pv (.sl 1 x0__0)),(.pv (I x0__1)),(.pv (I x0__2_0)),(.pv (I x0__2_1)),(.pv (I x0__2_2)),(.pv (I x0__3_0))]]) (fun P43 P32 P34 P36 P38 P40 P42=>some (.ret (.pv (.tup [])),[[(.pv P32),(.pv P34),(.pv P36),(.pv P38),(.pv P40),(.pv P42)]]))) (
  (zf .i64 (.pv P17)).bind fun N28=>cond (N28==1) (
   xj (ev 194 [(.ptr 0 0),(.pv (I x1)),(.pv (I x2)),(.pv (.agg [P17,P18,P19,P20,P21,P22,P23,P24,P25,P26]))] [[(.pv (.sl 1 x0__0)),(.pv (I x0__1)),(.pv (I x0__2_0)),(.pv (I x0__2_1)),(.pv (I x0__2_2)),(.pv (I x0__3_0))]]) (fun P44 P33 P35 P37 P39 P41 P43=>some (.ret (.pv (.tup [])),[[(.pv P33),(.pv P35),(.pv P37),(.pv P39),(.pv P41),(.pv P43)]]))) (
   zh (ev 130 [(.pv (Bo false))] []) (fun A29 H30=>(zb A29).bind fun P31=>some (.ret (.pv (.tup [])),[[(.pv (.sl 1 x0__0)),(.pv (I x0__1)),(.pv (I x0__2_0)),(.pv (I x0__2_1)),(.pv (I x0__2_2)),(.pv (I x0__3_0))]])) (fun A29 H30=>some (.pan A29,[[(.pv (.sl 1 x0__0)),(.pv (I x0__1)),(.pv (I x0__2_0)),(.pv (I x0__2_1)),(.pv (I x0__2_2)),(.pv (I x0__3_0))]])))))) (fun A14 H15=>some (.pan A14,[[(.pv (.sl 1 x0__0)),(.pv (I x0__1)),(.pv (I x0__2_0)),(.pv (I x0__2_1)),(.pv (I x0__2_2)),(.pv (I x0__3_0))]]))) (fun A11 H12=>some (.pan A11,[[(.pv (.sl 1 x0__0)),(.pv (I x0__1)),(.pv (I x0__2_0)),(.pv (I x0__2_1)),(.pv (I x0__2_2)),(.pv (I x0__3_0))]]))) (fun A7 H8=>some (.pan A7,[[(.pv (.sl 1 x0__0)),(.pv (I x0__1)),(.pv (I x0__2_0)),(.pv (I x0__2_1)),(.pv (I x0__2_2)),(.pv (I x0__3_0))]])))) (fun A3 H4=>some (.pan A3,[[(.pv (.sl 1 x0__0)),(.pv (I x0__1)),(.pv (I x0__2_0)),(.pv (I x0__2_1)),(.pv (I x0__2_2)),(.pv (I x0__3_0))]]))) none:=zg (fn:=Tryz.f132) _ _
theorem zgd (x0_0 x0_1 x0_2:Int) (x0_3 x0_4:List PV):ev 156 [(.pv (.agg [(I x0_0),(I x0_1),(I x0_2),(.sl 1 x0_3),(.sl 5 x0_4)]))] [] =
 cp (ev 217 [(.pv (.agg [(I x0_0),(I x0_1),(I x0_2),(.sl 1 x0_3),(.sl 5 x0_4)]))] []) (fun P3=>(zf .i64 (.pv P3)).bind fun N4=>some (.ret (.pv (I (IntKind.wrap .i64 (N4+1)))),[])):=zg (fn:=Tryz.f156) _ _
theorem j9 (x0:Bool):ev 174 [(.pv (Bo x0))] [] =
 cond (!x0) (
 some (.pan (.ifc 225 (.agg [])),[])) (
 some (.ret (.pv (.tup [])),[])):=zg (fn:=Tryz.f174) _ _
theorem zg4 (x0:List PV) (x1_0 x1_1 x1_2:Int):ev 176 [(.pv (.sl 1 x0)),(.pv (.agg [(I x1_0),(I x1_1),(I x1_2)]))] [] =
 cp (ev 178 [(.pv (.sl 1 x0)),(.pv (.agg [(I x1_0),(I x1_1),(I x1_2)]))] []) (fun P3=>tK P3 0 fun P5=>tK P3 1 fun P7=>tK P3 2 fun P9=>vZ P5 (fun P10 P11 P12 P13 P14=>Wf P7 (fun P15=>cp (ev 153 [(.pv (.agg [P10,P11,P12,P13,P14]))] []) (fun P18=>vZ P18 (fun P19 P20 P21 P22 P23=>some (.ret (.pv (.tup [(.agg [P19,P20,P21,P22,P23]),P9])),[])))))):=zg (fn:=Tryz.f176) _ _
noncomputable def ue:Code:=Tryz.f177.body.getD .skip
noncomputable def Ql (p0:PV) (xs1:List PV) (i2 i3:Int):Option (Out×za) :=
 ya (zA env ev zN 20 177 0 (sub ue [1,1,0,1,0,0])) (zJ env 177 0 0) (zQ 0 (yf (zT env ev 20 177 0 (sub ue [1,1,1])) (z8 env 177 Tryz.f177.results.toList 0))) ⟨zR [(3,(.pv p0)),(7,(.pv (.sl 1 xs1))),(8,(.pv (I i2))),(9,(.pv (I i3)))],[]⟩
theorem j2 (p0:PV) (xs1:List PV) (i2 i3:Int):Ql p0 xs1 i2 i3 =
 cond (decide (i3<i2)) (
 cond (decide (0<=i3)&&decide (i3<(xs1.length:Int))) ((xs1[(i3).toNat]?).bind fun P1=>(P1.cells[0]?).bind fun P2=>cond ((decide (P2.cells.length=1)&&P2.cells.all PV.isCell)&&true) (cp (ev 117 [(.pv (.sl 1 [P2]))] []) (fun P5=>cp (ev 232 [(.pv p0),(.pv P5)] []) (fun P8=>Ql P8 xs1 i2 (IntKind.wrap .i64 (i3+1))))) none) none) (
 some (.ret (.pv p0),[])):=(yd ..).trans (by kernel_rfl)
theorem zhO (x0:List PV):ev 177 [(.pv (.sl 1 x0))] [] =
 cp (ev 231 [] []) (fun P3=>Ql P3 x0 (x0.length:Int) 0):=zg (fn:=Tryz.f177) _ _
noncomputable def uc:Code:=Tryz.f182.body.getD .skip
noncomputable def Xm (i0 i1:Int) (xs2 xs3:List PV) (i4 i5 i6 i7 i8 i9 i10 i11 i12 i13 i14 i15 i16 i17 i18 i19:Int):Option (Out×za) :=
 ya (zA env ev zN 23 182 0 (sub uc [1,0,1,0,0])) (zJ env 182 0 3) (zQ 0 (yf (zT env ev 23 182 0 (sub uc [1,1])) (z8 env 182 Tryz.f182.results.toList 0))) ⟨zR [(3,(.ptr 0 0)),(4,(.ptr 1 0)),(5,(.ptr 2 0)),(9,(.pv (I i0))),(10,(.pv (I i1)))],[[(.pv (.sl 1 xs2)),(.pv (.sl 1 xs3))],[(.pv (I i4)),(.pv (I i5)),(.pv (I i6)),(.pv (I i7)),(.pv (I i8)),(.pv (I i9)),(.pv (I i10)),(.pv (I i11))],[(.pv (I i12)),(.pv (I i13)),(.pv (I i14)),(.pv (I i15)),(.pv (I i16)),(.pv (I i17)),(.pv (I i18)),(.pv (I i19))]]⟩
theorem jI (i0 i1:Int) (xs2 xs3:List PV) (i4 i5 i6 i7 i8 i9 i10 i11 i12 i13 i14 i15 i16 i17 i18 i19:Int):Xm i0 i1 xs2 xs3 i4 i5 i6 i7 i8 i9 i10 i11 i12 i13 i14 i15 i16 i17 i18 i19 =
 cond (decide (i1<i0)) (
 zh (ev 238 [(.pv (.agg [(I i4),(I i5),(I i6),(I i7),(I i8),(I i9),(I i10),(I i11)])),(.pv (I i1))] []) (fun A1 H2=>(zb A1).bind fun P3=>cp (ev 238 [(.pv (.agg [(I i12),(I i13),(I i14),(I i15),(I i16),(I i17),(I i18),(I i19)])),(.pv (I i1))] []) (fun P6=>cp (ev 181 [(.pv (.agg [(.sl 1 xs2),(.sl 1 xs3)])),(.pv P3),(.pv P6)] []) (fun P9=>(zY (.pv P9)).bind fun B10=>cond (!B10) (
 some (.ret (.pv (Bo false)),[])) (
 Xm i0 (IntKind.wrap .i64 (i1+1)) xs2 xs3 i4 i5 i6 i7 i8 i9 i10 i11 i12 i13 i14 i15 i16 i17 i18 i19)))) (fun A1 H2=>none)) (
 some (.ret (.pv (Bo true)),[])):=(yd ..).trans (by kernel_rfl)
theorem zhp (x0_0 x0_1:List PV) (x1_0 x1_1 x1_2 x1_3 x1_4 x1_5 x1_6 x1_7 x2_0 x2_1 x2_2 x2_3 x2_4 x2_5 x2_6 x2_7:Int):ev 182 [(.pv (.agg [(.sl 1 x0_0),(.sl 1 x0_1)])),(.pv (.agg [(I x1_0),(I x1_1),(I x1_2),(I x1_3),(I x1_4),(I x1_5),(I x1_6),(I x1_7)])),(.pv (.agg [(I x2_0),(I x2_1),(I x2_2),(I x2_3),(I x2_4),(I x2_5),(I x2_6),(I x2_7)]))] [] =
 Xm x1_6 0 x0_0 x0_1 x1_0 x1_1 x1_2 x1_3 x1_4 x1_5 x1_6 x1_7 x2_0 x2_1 x2_2 x2_3 x2_4 x2_5 x2_6 x2_7:=zg (fn:=Tryz.f182) _ _
noncomputable def ul:Code:=Tryz.f185.body.getD .skip
noncomputable def Va (xs0:List PV) (p1:PV) (i2 i3:Int):Option (Out×za) :=
 ya (zA env ev zN 22 185 0 (sub ul [1,1,0,1,0,0])) (zJ env 185 0 0) (zQ 0 (yf (zT env ev 22 185 0 (sub ul [1,1,1])) (z8 env 185 Tryz.f185.results.toList 0))) ⟨zR [(3,(.slu 5 1 xs0)),(8,(.pv p1)),(9,(.pv (I i2))),(10,(.pv (I i3)))],[]⟩
theorem zcn (xs0:List PV) (p1:PV) (i2 i3:Int):Va xs0 p1 i2 i3 =
 cond (decide (i3<i2)) (
 (zX p1).bind fun L1=>cond ((decide (L1.1=1)&&decide (0<=i3))&&decide (i3<(L1.2.length:Int))) ((L1.2[(i3).toNat]?).bind fun P2=>(P2.cells[0]?).bind fun P3=>(zf .u8 (.pv P3)).bind fun N4=>cond (N4 != 0) (
 cond ((decide (P3.cells.length=1)&&P3.cells.all PV.isCell)&&true) (cond (ye (xs0.length+1) 1) (Va (xs0++[P3]) p1 i2 (IntKind.wrap .i64 (i3+1))) none) none) (
 Va xs0 p1 i2 (IntKind.wrap .i64 (i3+1)))) none) (
 some (.ret (.pv (.sl 1 xs0)),[])):=(yd ..).trans (by kernel_rfl)
theorem zlj (x0:Int):ev 185 [(.pv (U x0))] [] =
 cp (ev 117 [(.pv (.sl 1 [(U x0)]))] []) (fun P3=>(zX P3).bind fun L4=>Va [] P3 (L4.2.length:Int) 0):=zg (fn:=Tryz.f185) _ _
theorem zjS (x0:Int):ev 192 [(.pv (U x0))] [] =
 cp (ev 245 [(.pv (U x0)),(.pv (I 0)),(.pv (I 2))] []) (fun P3=>(yq (.pv P3)).bind fun Q4=>cond ((0:Int)==(IntKind.wrap .i64 Q4.2)) (
 cp (ev 341 [(.pv (U x0))] []) (fun P7=>wv P7 (fun P8 P9 P10 P11 P12 P13 P14 P15 P16 P17=>cond (P9.isCell&&(P10.isCell&&(P11.isCell&&(P12.isCell&&(P13.isCell&&(P14.isCell&&(P15.isCell&&(P16.isCell&&(P17.isCell&&true))))))))) (some (.ret (.pv (.agg [(I (IntKind.wrap .i64 Q4.2)),P9,P10,P11,P12,P13,P14,P15,P16,P17])),[])) none))) (
 cond ((1:Int)==(IntKind.wrap .i64 Q4.2)) (
  cp (ev 343 [(.pv (U x0))] []) (fun P7=>wv P7 (fun P8 P9 P10 P11 P12 P13 P14 P15 P16 P17=>cond (P9.isCell&&(P10.isCell&&(P11.isCell&&(P12.isCell&&(P13.isCell&&(P14.isCell&&(P15.isCell&&(P16.isCell&&(P17.isCell&&true))))))))) (some (.ret (.pv (.agg [(I (IntKind.wrap .i64 Q4.2)),P9,P10,P11,P12,P13,P14,P15,P16,P17])),[])) none))) (
  cond ((2:Int)==(IntKind.wrap .i64 Q4.2)) (
   cp (ev 344 [(.pv (U x0))] []) (fun P7=>wv P7 (fun P8 P9 P10 P11 P12 P13 P14 P15 P16 P17=>cond (P9.isCell&&(P10.isCell&&(P11.isCell&&(P12.isCell&&(P13.isCell&&(P14.isCell&&(P15.isCell&&(P16.isCell&&(P17.isCell&&true))))))))) (some (.ret (.pv (.agg [(I (IntKind.wrap .i64 Q4.2)),P9,P10,P11,P12,P13,P14,P15,P16,P17])),[])) none))) (
   cond ((3:Int)==(IntKind.wrap .i64 Q4.2)) (
    cp (ev 345 [(.pv (U x0))] []) (fun P7=>wv P7 (fun P8 P9 P10 P11 P12 P13 P14 P15 P16 P17=>cond (P9.isCell&&(P10.isCell&&(P11.isCell&&(P12.isCell&&(P13.isCell&&(P14.isCell&&(P15.isCell&&(P16.isCell&&(P17.isCell&&true))))))))) (some (.ret (.pv (.agg [(I (IntKind.wrap .i64 Q4.2)),P9,P10,P11,P12,P13,P14,P15,P16,P17])),[])) none))) (
    none))))):=zg (fn:=Tryz.f192) _ _
theorem zgb (x0_0 x0_1 x0_2:Int) (x0_3 x0_4:List PV):ev 217 [(.pv (.agg [(I x0_0),(I x0_1),(I x0_2),(.sl 1 x0_3),(.sl 5 x0_4)]))] [] =
 zh (ev 261 [(.pv (.agg [(I x0_0),(I x0_1),(I x0_2),(.sl 1 x0_3),(.sl 5 x0_4)])),(.ptr 0 0),(.ptr 1 0)] [[(.pv (I 0))],[(.clo (.func 261) [] [(.ptr 0 0),(.ptr 1 0)])]]) (fun A1 H2=>(H2[0]?).bind fun C3=>(C3[0]?).bind fun E4=>(zb E4).bind fun P5=>cond (decide (C3.length=1)) ((H2[1]?).bind fun C6=>(C6[0]?).bind fun E7=>cond (ZI (.func 261) [] [(.ptr 0 0),(.ptr 1 0)] E7) (cond (decide (C6.length=1)) (cond (decide (H2.length=2)) ((zb A1).bind fun P8=>some (.ret (.pv P5),[])) none) none) none) none) (fun A1 H2=>(H2[0]?).bind fun C3=>(C3[0]?).bind fun E4=>(zb E4).bind fun P5=>cond (decide (C3.length=1)) ((H2[1]?).bind fun C6=>(C6[0]?).bind fun E7=>cond (ZI (.func 261) [] [(.ptr 0 0),(.ptr 1 0)] E7) (cond (decide (C6.length=1)) (cond (decide (H2.length=2)) (some (.pan A1,[])) none) none) none) none):=zg (fn:=Tryz.f217) _ _
noncomputable def uA:Code:=Tryz.f224.body.getD .skip
noncomputable def Zp (i0:Int) (p1 p2:PV) (i3:Int) (p4:PV) (xs5:List PV) (p6:PV):Option (Out×za) :=
 ya (zA env ev zN 39 224 0 (sub uA [1,1,1,1,0,1,0,0])) (zJ env 224 0 1) (zQ 0 (yf (zT env ev 39 224 0 (sub uA [1,1,1,1,1])) (z8 env 224 Tryz.f224.results.toList 1))) ⟨zR [(0,(.ptr 0 0)),(1,(.pv (U8 i0))),(7,(.pv p1)),(29,(.pv p2)),(30,(.pv (I i3)))],[[(.pv p4),(.slu 5 1 xs5),(.pv p6)]]⟩
theorem qL (i0:Int) (p1 p2:PV) (i3:Int) (p4:PV) (xs5:List PV) (p6:PV):Zp i0 p1 p2 i3 p4 xs5 p6 =
 (zf .i64 (.pv p2)).bind fun N1=>cond (decide (i3<N1)) (
 zh (ev 225 [(.ptr 0 0),(.pv (U8 i0))] [[(.pv p4),(.slu 5 1 xs5),(.pv p6)]]) (fun A2 H3=>(H3[0]?).bind fun C4=>(C4[0]?).bind fun E5=>(zb E5).bind fun P6=>(C4[1]?).bind fun E7=>(zO 5 1 E7).bind fun X8=>(C4[2]?).bind fun E9=>(zb E9).bind fun P10=>cond (decide (C4.length=3)) (cond (decide (H3.length=1)) ((zb A2).bind fun P11=>(yC (.pv P11)).bind fun Z12=>cond (!Z12) (
 some (.ret (.pv P11),[[(.pv P6),(.slu 5 1 X8),(.pv P10)]])) (
 Zp i0 P11 p2 (IntKind.wrap .i64 (i3+1)) P6 X8 P10)) none) none) (fun A2 H3=>(H3[0]?).bind fun C4=>(C4[0]?).bind fun E5=>(zb E5).bind fun P6=>(C4[1]?).bind fun E7=>(zO 5 1 E7).bind fun X8=>(C4[2]?).bind fun E9=>(zb E9).bind fun P10=>cond (decide (C4.length=3)) (cond (decide (H3.length=1)) (some (.pan A2,[[(.pv P6),(.slu 5 1 X8),(.pv P10)]])) none) none)) (
 some (.ret (.pv p1),[[(.pv p4),(.slu 5 1 xs5),(.pv p6)]])):=(yd ..).trans (by kernel_rfl)
theorem zlX (x0__0 x0__1:List PV) (x0__2 x1:Int):ev 224 [(.ptr 0 0),(.pv (U8 x1))] [[(.pv (.sl 1 x0__0)),(.slu 5 1 x0__1),(.pv (I x0__2))]] =
 cond (x1==255) (
 zh (ev 225 [(.ptr 0 0),(.pv (U8 x1))] [[(.pv (.sl 1 x0__0)),(.slu 5 1 x0__1),(.pv (I x0__2))]]) (fun A1 H2=>(H2[0]?).bind fun C3=>(C3[0]?).bind fun E4=>(zb E4).bind fun P5=>(C3[1]?).bind fun E6=>(zO 5 1 E6).bind fun X7=>(C3[2]?).bind fun E8=>(zb E8).bind fun P9=>cond (decide (C3.length=3)) (cond (decide (H2.length=1)) ((zb A1).bind fun P10=>(yC (.pv P10)).bind fun Z11=>cond (!Z11) (
 some (.ret (.pv P10),[[(.pv P5),(.slu 5 1 X7),(.pv P9)]])) (
 zh (ev 265 [(.ptr 0 0)] [[(.pv P5),(.slu 5 1 X7),(.pv P9)]]) (fun A12 H13=>(H13[0]?).bind fun C14=>(C14[0]?).bind fun E15=>(zb E15).bind fun P16=>(C14[1]?).bind fun E17=>(zO 5 1 E17).bind fun X18=>(C14[2]?).bind fun E19=>(zb E19).bind fun P20=>cond (decide (C14.length=3)) (cond (decide (H13.length=1)) ((zb A12).bind fun P21=>tK P21 0 fun P23=>tK P21 1 fun P25=>(yC (.pv P25)).bind fun Z26=>cond Z26 (
  cond (x1==0) (
  (zf .i64 (.pv P23)).bind fun N27=>Zp x1 P25 (I (IntKind.wrap .i64 (N27+1))) 0 P16 X18 P20) (
  Zp x1 P25 P23 0 P16 X18 P20)) (
  Zp x1 P25 P23 0 P16 X18 P20)) none) none) (fun A12 H13=>(H13[0]?).bind fun C14=>(C14[0]?).bind fun E15=>(zb E15).bind fun P16=>(C14[1]?).bind fun E17=>(zO 5 1 E17).bind fun X18=>(C14[2]?).bind fun E19=>(zb E19).bind fun P20=>cond (decide (C14.length=3)) (cond (decide (H13.length=1)) (some (.pan A12,[[(.pv P16),(.slu 5 1 X18),(.pv P20)]])) none) none))) none) none) (fun A1 H2=>(H2[0]?).bind fun C3=>(C3[0]?).bind fun E4=>(zb E4).bind fun P5=>(C3[1]?).bind fun E6=>(zO 5 1 E6).bind fun X7=>(C3[2]?).bind fun E8=>(zb E8).bind fun P9=>cond (decide (C3.length=3)) (cond (decide (H2.length=1)) (some (.pan A1,[[(.pv P5),(.slu 5 1 X7),(.pv P9)]])) none) none)) (
 zh (ev 265 [(.ptr 0 0)] [[(.pv (.sl 1 x0__0)),(.slu 5 1 x0__1),(.pv (I x0__2))]]) (fun A1 H2=>(H2[0]?).bind fun C3=>(C3[0]?).bind fun E4=>(zb E4).bind fun P5=>(C3[1]?).bind fun E6=>(zO 5 1 E6).bind fun X7=>(C3[2]?).bind fun E8=>(zb E8).bind fun P9=>cond (decide (C3.length=3)) (cond (decide (H2.length=1)) ((zb A1).bind fun P10=>tK P10 0 fun P12=>tK P10 1 fun P14=>(yC (.pv P14)).bind fun Z15=>cond Z15 (
  cond (x1==0) (
  (zf .i64 (.pv P12)).bind fun N16=>Zp x1 P14 (I (IntKind.wrap .i64 (N16+1))) 0 P5 X7 P9) (
  Zp x1 P14 P12 0 P5 X7 P9)) (
  Zp x1 P14 P12 0 P5 X7 P9)) none) none) (fun A1 H2=>(H2[0]?).bind fun C3=>(C3[0]?).bind fun E4=>(zb E4).bind fun P5=>(C3[1]?).bind fun E6=>(zO 5 1 E6).bind fun X7=>(C3[2]?).bind fun E8=>(zb E8).bind fun P9=>cond (decide (C3.length=3)) (cond (decide (H2.length=1)) (some (.pan A1,[[(.pv P5),(.slu 5 1 X7),(.pv P9)]])) none) none)):=zg (fn:=Tryz.f224) _ _
noncomputable def ub:Code:=Tryz.f237.body.getD .skip
noncomputable def Zy (xs0 xs1:List PV) (i2 i3:Int):Option (Out×za) :=
 ya (zA env ev zN 44 237 0 (sub ub [1,1,0,1,0,0])) (zJ env 237 0 0) (zQ 0 (yf (zT env ev 44 237 0 (sub ub [1,1,1])) (z8 env 237 Tryz.f237.results.toList 0))) ⟨zR [(1,(.pv (.sl 1 xs0))),(14,(.pv (.sl 1 xs1))),(15,(.pv (I i2))),(16,(.pv (I i3)))],[]⟩
theorem jE (xs0 xs1:List PV) (i2 i3:Int):Zy xs0 xs1 i2 i3 =
 cond (decide (i3<i2)) (
 cond (decide (0<=i3)&&decide (i3<(xs1.length:Int))) ((xs1[(i3).toNat]?).bind fun P1=>(P1.cells[0]?).bind fun P2=>cond (decide (i3<(xs0.length:Int))) (
 cond (decide (0<=i3)&&decide (i3<(xs0.length:Int))) ((xs0[(i3).toNat]?).bind fun P3=>(P3.cells[0]?).bind fun P4=>(zf .u64 (.pv P4)).bind fun N5=>(zf .u64 (.pv P2)).bind fun N6=>cond (N5 != N6) (
 some (.ret (.pv (Bo false)),[])) (
 cond (decide (i3≥(xs0.length:Int))) (
  (zf .u64 (.pv P2)).bind fun N7=>cond (N7 != 0) (
  some (.ret (.pv (Bo false)),[])) (
  Zy xs0 xs1 i2 (IntKind.wrap .i64 (i3+1)))) (
  Zy xs0 xs1 i2 (IntKind.wrap .i64 (i3+1))))) none) (
 cond (decide (i3≥(xs0.length:Int))) (
  (zf .u64 (.pv P2)).bind fun N3=>cond (N3 != 0) (
  some (.ret (.pv (Bo false)),[])) (
  Zy xs0 xs1 i2 (IntKind.wrap .i64 (i3+1)))) (
  Zy xs0 xs1 i2 (IntKind.wrap .i64 (i3+1))))) none) (
 some (.ret (.pv (Bo true)),[])):=(yd ..).trans (by kernel_rfl)
theorem zhk (x0 x1:List PV):ev 237 [(.pv (.sl 1 x0)),(.pv (.sl 1 x1))] [] =
 cond (decide ((x0.length:Int)<(x1.length:Int))) (
 Zy x0 x1 (x1.length:Int) 0) (
 Zy x1 x0 (x0.length:Int) 0):=zg (fn:=Tryz.f237) _ _
theorem zkv (x0:List PV) (x1_0 x1_1 x1_2 x1_3 x1_4 x1_5:Int) (x1_6:Bool) (x1_7 x1_8 x1_9 x2 x3:Int):ev 243 [(.pv (.sl 1 x0)),(.pv (.agg [(I x1_0),(I x1_1),(I x1_2),(I x1_3),(I x1_4),(I x1_5),(Bo x1_6),(I x1_7),(PV.v (.int .u32 x1_8)),(PV.v (.int .u32 x1_9))])),(.pv (I x2)),(.pv (I x3))] [] =
 cp (ev 284 [(.pv (.agg [(I x1_0),(I x1_1),(I x1_2),(I x1_3),(I x1_4),(I x1_5),(Bo x1_6),(I x1_7),(PV.v (.int .u32 x1_8)),(PV.v (.int .u32 x1_9))]))] []) (fun P3=>(zY (.pv P3)).bind fun B4=>cond B4 (
 some (.ret (.pv (.tup [(.agg [(I 0),(I 0),(I 0),(I 0),(I 0),(I 0),(I 0),(I 0)]),(I 6)])),[])) (
 some (.ret (.pv (.tup [(.agg [(I 0),(I 0),(I 0),(I 0),(I 0),(I 0),(I 0),(I 0)]),(I 4)])),[]))):=zg (fn:=Tryz.f243) _ _
theorem ziI (x0:Int):ev 244 [.pv (.v (.int .u8 x0))] []=(QO x0).bind fun n=>some (.ret (.pv (.v (.int .i64 n))),[]):=(Qj (q:=(2,(0,0))) (by kernel_rfl) _ _).trans (by kernel_rfl)
theorem zf5 (x0__0:List PV) (x0__1 x0__2_0 x0__2_1 x0__2_2 x0__3_0 x1:Int):ev 247 [(.ptr 0 0),(.pv (I x1))] [[(.pv (.sl 1 x0__0)),(.pv (I x0__1)),(.pv (I x0__2_0)),(.pv (I x0__2_1)),(.pv (I x0__2_2)),(.pv (I x0__3_0))]] =
 zh (ev 272 [(.pv (.agg [(I x0__3_0)])),(.pv (I x1))] []) (fun A1 H2=>(zb A1).bind fun P3=>tK P3 0 fun P5=>tK P3 1 fun P7=>Wf P5 (fun P8=>(zf .i64 (.pv P7)).bind fun N9=>zh (ev 130 [(.pv (Bo (N9==0)))] []) (fun A10 H11=>(zb A10).bind fun P12=>some (.ret (.pv (.tup [])),[[(.pv (.sl 1 x0__0)),(.pv (I x0__1)),(.pv (I x0__2_0)),(.pv (I x0__2_1)),(.pv (I x0__2_2)),(.pv P8)]])) (fun A10 H11=>some (.pan A10,[[(.pv (.sl 1 x0__0)),(.pv (I x0__1)),(.pv (I x0__2_0)),(.pv (I x0__2_1)),(.pv (I x0__2_2)),(.pv P8)]])))) (fun A1 H2=>some (.pan A1,[[(.pv (.sl 1 x0__0)),(.pv (I x0__1)),(.pv (I x0__2_0)),(.pv (I x0__2_1)),(.pv (I x0__2_2)),(.pv (I x0__3_0))]])):=zg (fn:=Tryz.f247) _ _
theorem ziD (x0 x1:Int):ev 255 [(.pv (I x0)),(.pv (I x1))] [] =
 cond (decide (0<=x0)&&decide (x0<8)) ((([(I 0),(I 1),(I 8),(I 16),(I 32),(I 64),(I 64),(I 0)]:List PV)[(0+(x0).toNat*1)]?).bind fun P1=>(zf .i64 (.pv P1)).bind fun N2=>cp (ev 263 [(.pv (I (IntKind.wrap .i64 (N2*x1)))),(.pv (I 8))] []) (fun P5=>some (.ret (.pv P5),[]))) none:=zg (fn:=Tryz.f255) _ _
theorem zlC (x0:Int):ev 257 [(.pv (U8 x0))] [] =
 some (.ret (.pv (Bo (x0==0))),[]):=zg (fn:=Tryz.f257) _ _
noncomputable def uv:Code:=Tryz.f258.body.getD .skip
noncomputable def Km (xs0:List PV) (i1:Int):Option (Out×za) :=
 ya (zA env ev zN 22 258 0 (sub uv [1,1,0,0,0])) (zJ env 258 0 0) (zQ 0 (yf (zT env ev 22 258 0 (sub uv [1,1,1])) (z8 env 258 Tryz.f258.results.toList 0))) ⟨zR [(0,(.pv (.sl 5 xs0))),(1,(.pv (.v (.func (.func 259) #[] #[])))),(5,(.pv (I i1)))],[]⟩
theorem zcH (xs0:List PV) (i1:Int):Km xs0 i1 =
 cond (decide (i1>0)) (
 cond (decide (0<=(IntKind.wrap .i64 (i1-1)))&&decide ((IntKind.wrap .i64 (i1-1))<(xs0.length:Int))) ((xs0[(IntKind.wrap .i64 (i1-1)).toNat]?).bind fun P1=>cond (decide (5<=P1.cells.length)) (cp (ev 259 [(.pv (.agg ((P1.cells.drop 0).take 5)))] []) (fun P4=>(zY (.pv P4)).bind fun B5=>cond B5 (
 Km xs0 (IntKind.wrap .i64 (i1-1))) (
 some (.ret (.pv (I i1)),[])))) none) none) (
 some (.ret (.pv (I i1)),[])):=(yd ..).trans (by kernel_rfl)
theorem zlE (x0:List PV):ev 258 [(.pv (.sl 5 x0)),(.pv (.v (.func (.func 259) #[] #[])))] [] =
 Km x0 (x0.length:Int):=zg (fn:=Tryz.f258) _ _
theorem zaO (x0 x1:Int):ev 263 [(.pv (I x0)),(.pv (I x1))] [] =
 cond (yN .quo x1) (some (.ret (.pv (I (IntKind.wrap .i64 (Int.tdiv (IntKind.wrap .i64 ((IntKind.wrap .i64 (x0+x1))-1)) x1)))),[])) none:=zg (fn:=Tryz.f263) _ _
noncomputable def um:Code:=Tryz.f266.body.getD .skip
noncomputable def Vb (i0:Int) (xs1:List PV) (p2 p3:PV) (i4 i5:Int):Option (Out×za) :=
 ya (zA env ev zN 40 266 0 (sub um [1,1,1,1,0,1,0,0])) (zJ env 266 0 0) (zQ 0 (yf (zT env ev 40 266 0 (sub um [1,1,1,1,1])) (z8 env 266 Tryz.f266.results.toList 0))) ⟨zR [(0,(.pv (U8 i0))),(1,(.pv (.sl 1 xs1))),(7,(.pv p2)),(8,(.pv p3)),(9,(.pv (I i4))),(17,(.pv (I i5)))],[]⟩
theorem zco (i0:Int) (xs1:List PV) (p2 p3:PV) (i4 i5:Int):Vb i0 xs1 p2 p3 i4 i5 =
 cond (decide (i5<8)) (
 cond (yN .shr (IntKind.wrap .u64 i5)) (cond ((IntKind.wrap .u8 (BitVec.ofInt 8 (Int.fdiv i0 (2^(min (IntKind.wrap .u64 i5).toNat 8))) &&& BitVec.ofInt 8 1).toNat)==1) (
 cond (decide (0<=i4)&&decide (i4<(xs1.length:Int))) ((xs1[(i4).toNat]?).bind fun P1=>(P1.cells[0]?).bind fun P2=>(yq (.pv P2)).bind fun Q3=>cp (ev 291 [(.pv p3),(.pv (I (IntKind.wrap .i64 (8*i5)))),(.pv (I 8)),(.pv (U (IntKind.wrap .u64 Q3.2)))] []) (fun P6=>Vb i0 xs1 p2 P6 (IntKind.wrap .i64 (i4+1)) (IntKind.wrap .i64 (i5+1)))) none) (
 Vb i0 xs1 p2 p3 i4 (IntKind.wrap .i64 (i5+1)))) none) (
 some (.ret (.pv (.tup [p3,p2,(Bo true)])),[])):=(yd ..).trans (by kernel_rfl)
theorem zcp (x0:Int) (x1:List PV):ev 266 [(.pv (U8 x0)),(.pv (.sl 1 x1))] [] =
 cp (ev 188 [(.pv (U8 x0))] []) (fun P3=>(zf .i64 (.pv P3)).bind fun N4=>cond (decide ((x1.length:Int)<N4)) (
 some (.ret (.pv (.tup [(U 0),(I 0),(Bo false)])),[])) (
 Vb x0 x1 P3 (U 0) 0 0)):=zg (fn:=Tryz.f266) _ _
noncomputable def qT:Code:=Tryz.f270.body.getD .skip
noncomputable def VP (p0 p1:PV) (xs2 xs3:List PV) (i4 i5:Int) (xs6:List PV) (i7 i8 i9:Int) (xs10 xs11:List PV) (i12 i13 i14 i15 i16 i17:Int) (b18:Bool) (i19 i20 i21:Int):Option (Out×za) :=
 ya (zA env ev zN 66 270 0 (sub qT [1,1,1,1,1,0,1,0,0])) (zJ env 270 0 3) (zQ 0 (yf (zT env ev 66 270 0 (sub qT [1,1,1,1,1,1])) (z8 env 270 Tryz.f270.results.toList 1))) ⟨zR [(0,(.ptr 0 0)),(3,(.ptr 1 0)),(4,(.ptr 2 0)),(6,(.pv p0)),(7,(.pv p1)),(10,(.slu 3 1 xs2)),(38,(.pv (.sl 5 xs3))),(39,(.pv (I i4))),(40,(.pv (I i5)))],[[(.slu 30 1 xs6)],[(.pv (I i7)),(.pv (I i8)),(.pv (I i9)),(.pv (.sl 1 xs10)),(.pv (.sl 5 xs11))],[(.pv (I i12)),(.pv (I i13)),(.pv (I i14)),(.pv (I i15)),(.pv (I i16)),(.pv (I i17)),(.pv (Bo b18)),(.pv (I i19)),(.pv (PV.v (.int .u32 i20))),(.pv (PV.v (.int .u32 i21)))]]⟩
theorem rJ (p0 p1:PV) (xs2 xs3:List PV) (i4 i5:Int) (xs6:List PV) (i7 i8 i9:Int) (xs10 xs11:List PV) (i12 i13 i14 i15 i16 i17:Int) (b18:Bool) (i19 i20 i21:Int):VP p0 p1 xs2 xs3 i4 i5 xs6 i7 i8 i9 xs10 xs11 i12 i13 i14 i15 i16 i17 b18 i19 i20 i21 =
 cond (decide (i5<i4)) (
 cond (decide (0<=i5)&&decide (i5<(xs3.length:Int))) ((xs3[(i5).toNat]?).bind fun P1=>cond (decide (5<=P1.cells.length)) (cond (decide (((P1.cells.drop 0).take 5).length=5)) ((((P1.cells.drop 0).take 5)[0]?).bind fun P2=>(((P1.cells.drop 0).take 5)[1]?).bind fun P3=>(((P1.cells.drop 0).take 5)[2]?).bind fun P4=>(((P1.cells.drop 0).take 5)[3]?).bind fun P5=>(((P1.cells.drop 0).take 5)[4]?).bind fun P6=>cond (P2.isCell&&(P3.isCell&&(P4.isCell&&(P5.isCell&&(P6.isCell&&true))))) (zh (ev 293 [(.ptr 0 0),(.pv P5),(.pv p0)] [[(.slu 30 1 xs6)]]) (fun A7 H8=>(H8[0]?).bind fun C9=>(C9[0]?).bind fun E10=>(zO 30 1 E10).bind fun X11=>cond (decide (C9.length=1)) (cond (decide (H8.length=1)) ((zb A7).bind fun P12=>zh (ev 292 [(.ptr 0 0),(.pv p1)] [[(.slu 30 1 X11)]]) (fun A13 H14=>(H14[0]?).bind fun C15=>(C15[0]?).bind fun E16=>(zO 30 1 E16).bind fun X17=>cond (decide (C15.length=1)) (cond (decide (H14.length=1)) ((zb A13).bind fun P18=>cond ((decide (P18.cells.length=1)&&P18.cells.all PV.isCell)&&true) (cond (ye (xs2.length+1) 8) (VP p0 p1 (xs2++[P18]) xs3 i4 (IntKind.wrap .i64 (i5+1)) X17 i7 i8 i9 xs10 xs11 i12 i13 i14 i15 i16 i17 b18 i19 i20 i21) none) none) none) none) (fun A13 H14=>(H14[0]?).bind fun C15=>(C15[0]?).bind fun E16=>(zO 30 1 E16).bind fun X17=>cond (decide (C15.length=1)) (cond (decide (H14.length=1)) (some (.pan A13,[[(.slu 30 1 X17)]])) none) none)) none) none) (fun A7 H8=>(H8[0]?).bind fun C9=>(C9[0]?).bind fun E10=>(zO 30 1 E10).bind fun X11=>cond (decide (C9.length=1)) (cond (decide (H8.length=1)) (some (.pan A7,[[(.slu 30 1 X11)]])) none) none)) none) none) none) none) (
 (zf .i64 (.pv p0)).bind fun N1=>(zf .i64 (.pv p1)).bind fun N2=>some (.ret (.pv (.tup [(.agg [(I 1),(I 0),(I 0),(I 0),(I i8),(I (IntKind.wrap .i64 (i9*(IntKind.wrap .i64 (N1+N2))))),(Bo false),(I 0),(PV.v (.int .u32 0)),(PV.v (.int .u32 0))]),(.sl 1 xs2)])),[[(.slu 30 1 xs6)]])):=(yd ..).trans (by kernel_rfl)
theorem zgg (x0__0:List PV) (x1_0 x1_1 x1_2:Int) (x1_3 x1_4:List PV):ev 270 [(.ptr 0 0),(.pv (.agg [(I x1_0),(I x1_1),(I x1_2),(.sl 1 x1_3),(.sl 5 x1_4)]))] [[(.slu 30 1 x0__0)]] =
 zh (ev 219 [(.pv (.agg [(I x1_0),(I x1_1),(I x1_2),(.sl 1 x1_3),(.sl 5 x1_4)]))] []) (fun A1 H2=>(zb A1).bind fun P3=>tK P3 0 fun P5=>tK P3 1 fun P7=>cond (P5.isCell&&true) (cond (P7.isCell&&true) (cond ((P5.isCell&&true)&&((P7.isCell&&true)&&true)) (zh (ev 252 [(.pv (.agg [(I 0),(I x1_2),P5,P7,(I 0),(I 0),(Bo false),(I 0),(PV.v (.int .u32 0)),(PV.v (.int .u32 0))]))] []) (fun A8 H9=>(zb A8).bind fun P10=>tK P10 0 fun P12=>tK P10 1 fun P14=>cond ((decide (P12.cells.length=1)&&P12.cells.all PV.isCell)&&true) (cond (ye (x0__0.length+1) 8) (VP P5 P7 [] x1_4 (x1_4.length:Int) 0 (x0__0++[P12]) x1_0 x1_1 x1_2 x1_3 x1_4 0 0 0 0 0 0 false 0 0 0) none) none) (fun A8 H9=>some (.pan A8,[[(.slu 30 1 x0__0)]]))) none) none) none) (fun A1 H2=>some (.pan A1,[[(.slu 30 1 x0__0)]])):=zg (fn:=Tryz.f270) _ _
theorem zhI (x0:List PV) (x1:Int):ev 280 [(.pv (.sl 1 x0)),(.pv (U x1))] [] =
 cp (ev 297 [(.pv (U x1))] []) (fun P3=>tK P3 0 fun P5=>tK P3 1 fun P7=>cp (ev 278 [(.pv (.sl 1 x0)),(.pv P5),(.pv P7)] []) (fun P10=>tK P10 0 fun P12=>tK P10 1 fun P14=>(zY (.pv P14)).bind fun B15=>cond (!B15) (
 some (.ret (.pv (.tup [(.agg [(U 0),(I 0),(I 0)]),(I 2)])),[])) (
 cp (ev 279 [(.pv P12)] []) (fun P18=>(zY (.pv P18)).bind fun B19=>cond B19 (
  some (.ret (.pv (.tup [(.agg [(U 0),(I 0),(I 0)]),(I 3)])),[])) (
  (zf .i64 (.pv P7)).bind fun N20=>cond (P12.isCell&&true) (cond (P5.isCell&&true) (cond ((P12.isCell&&true)&&((P5.isCell&&true)&&true)) (cond (P12.isCell&&(P5.isCell&&true)) (some (.ret (.pv (.tup [(.agg [P12,P5,(I (IntKind.wrap .i64 (N20+1)))]),(I 0)])),[])) none) none) none) none))))):=zg (fn:=Tryz.f280) _ _
theorem zjT (x0_0 x0_1 x0_2 x0_3 x0_4 x0_5:Int) (x0_6:Bool) (x0_7 x0_8 x0_9:Int):ev 284 [(.pv (.agg [(I x0_0),(I x0_1),(I x0_2),(I x0_3),(I x0_4),(I x0_5),(Bo x0_6),(I x0_7),(PV.v (.int .u32 x0_8)),(PV.v (.int .u32 x0_9))]))] [] =
 cond (x0_0==3) (
 some (.ret (.pv (Bo (x0_9==0))),[])) (
 some (.ret (.pv (Bo false)),[])):=zg (fn:=Tryz.f284) _ _
theorem zff (x0:List PV) (x1 x2 x3:Int):ev 286 [(.pv (.sl 1 x0)),(.pv (I x1)),(.pv (I x2)),(.pv (I x3))] [] =
 cond (decide (x1≥0)) (
 cond (decide (x1<(x0.length:Int))) (
 cond (decide (x2≥0)) (
 cond (decide (x3≥0)) (
 cond (decide (0<=x1)&&decide (x1<(x0.length:Int))) ((x0[(x1).toNat]?).bind fun P1=>(P1.cells[0]?).bind fun P2=>(zX P2).bind fun L3=>cond (decide (x2<=(L3.2.length:Int))) (
 cond (decide (0<=x1)&&decide (x1<(x0.length:Int))) ((x0[(x1).toNat]?).bind fun P4=>(P4.cells[0]?).bind fun P5=>(zX P5).bind fun L6=>some (.ret (.pv (Bo (decide (x3<=(IntKind.wrap .i64 ((L6.2.length:Int)-x2)))))),[])) none) (
 some (.ret (.pv (Bo false)),[]))) none) (
 some (.ret (.pv (Bo false)),[]))) (
 some (.ret (.pv (Bo false)),[]))) (
 some (.ret (.pv (Bo false)),[]))) (
 some (.ret (.pv (Bo false)),[])):=zg (fn:=Tryz.f286) _ _
theorem zgi (x0__0:List PV) (x1:Int):ev 292 [(.ptr 0 0),(.pv (I x1))] [[(.slu 30 1 x0__0)]] =
 cond (decide (0<=x1)&&decide (x1<=140737488355328)) (cond (ye (x0__0.length+(List.replicate (x1).toNat (U 0)).length) 8) (some (.ret (.pv (I (x0__0.length:Int))),[[(.slu 30 1 (x0__0++(List.replicate (x1).toNat (U 0))))]])) none) none:=zg (fn:=Tryz.f292) _ _
theorem zfI (x0__0_0 x1:Int):ev 294 [(.ptr 0 0),(.pv (I x1))] [[(.pv (I x0__0_0))]] =
 cond (decide (x1>x0__0_0)) (
 some (.ret (.pv (Bo false)),[[(.pv (I x0__0_0))]])) (
 some (.ret (.pv (Bo true)),[[(.pv (I (IntKind.wrap .i64 (x0__0_0-x1))))]])):=zg (fn:=Tryz.f294) _ _
theorem zhG (x0:Int):ev 297 [(.pv (U x0))] [] =
 cp (ev 192 [(.pv (U x0))] []) (fun P3=>wv P3 (fun P4 P5 P6 P7 P8 P9 P10 P11 P12 P13=>(yq (.pv P12)).bind fun Q14=>some (.ret (.pv (.tup [(I (IntKind.wrap .i64 Q14.2)),P11])),[]))):=zg (fn:=Tryz.f297) _ _
theorem zmp (x0 x1 x2:Int):ev 342 [(.pv (U x0)),(.pv (I x1)),(.pv (I x2))] [] =
 cond (yN .shl (IntKind.wrap .u64 (IntKind.wrap .i64 ((IntKind.wrap .i64 (64-x1))-x2)))) (cond (yN .shr (IntKind.wrap .u64 (IntKind.wrap .i64 (64-x2)))) (some (.ret (.pv (I (Int.fdiv (IntKind.wrap .i64 (IntKind.wrap .u64 (x0*2^(min (IntKind.wrap .u64 (IntKind.wrap .i64 ((IntKind.wrap .i64 (64-x1))-x2))).toNat 64)))) (2^(min (IntKind.wrap .u64 (IntKind.wrap .i64 (64-x2))).toNat 64))))),[])) none) none:=zg (fn:=Tryz.f342) _ _
theorem zjX (x0:Int):ev 345 [(.pv (U x0))] [] =
 cp (ev 245 [(.pv (U x0)),(.pv (I 2)),(.pv (I 30))] []) (fun P3=>(yq (.pv P3)).bind fun Q4=>cp (ev 245 [(.pv (U x0)),(.pv (I 32)),(.pv (I 32))] []) (fun P7=>(yq (.pv P7)).bind fun Q8=>some (.ret (.pv (.agg [(I 0),(I 0),(I 0),(I 0),(I 0),(I 0),(Bo false),(I 0),(PV.v (.int .u32 (IntKind.wrap .u32 Q8.2))),(PV.v (.int .u32 (IntKind.wrap .u32 Q4.2)))])),[]))):=zg (fn:=Tryz.f345) _ _
end Go.Proofs.YtjbjeeoifhegfaaGreatDoor.E
