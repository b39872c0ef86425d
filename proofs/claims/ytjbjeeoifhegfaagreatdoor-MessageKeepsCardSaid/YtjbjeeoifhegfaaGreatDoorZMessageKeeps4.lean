/- A part of the proof of the law MessageKeeps, as its statement says it: for every input; its conditions are the statement's own. -/
import Derived.KernelRfl
import Derived.Test.YtjbjeeoifhegfaaGreatDoorZMessageKeeps1
import Derived.Test.YtjbjeeoifhegfaaGreatDoorZMessageKeeps2
import Derived.Test.YtjbjeeoifhegfaaGreatDoorZMessageKeeps3
set_option linter.unusedVariables false
set_option linter.unusedSimpArgs false
namespace Go.Proofs.YtjbjeeoifhegfaaGreatDoor.E
noncomputable def qZ:Code:=Tryz.f43.body.getD .skip
noncomputable def Wp (xs0:List PV) (i1:Int) (xs2:List PV) (p3:PV) (i4:Int):Option (Out×za) :=
 ya (zA env ev zN 81 43 0 (sub qZ (o1 7 [0,1,0,0]))) (zJ env 43 0 0) (zQ 0 (yf (zT env ev 81 43 0 (sub qZ (o1 7 [1]))) (z8 env 43 Tryz.f43.results.toList 0))) ⟨zR [(0,(.pv (.sl 1 xs0))),(4,(.pv (I i1))),(5,(.slu 75 1 xs2)),(6,(.pv p3)),(7,(.pv (I i4)))],[]⟩
theorem rT (xs0:List PV) (i1:Int) (xs2:List PV) (p3:PV) (i4:Int):Wp xs0 i1 xs2 p3 i4 =
 cond (decide (i4<=i1)) (
 cp (ev 85 [(.pv (.sl 1 xs0)),(.pv (I i4))] []) (fun P3=>(zf .i64 (.pv P3)).bind fun N4=>cond (decide (N4≥536870912)) (
 some (.ret (.pv (.tup [(.sl 1 []),(I 1)])),[])) (
 (zf .i64 (.pv P3)).bind fun N5=>(zf .i64 (.pv p3)).bind fun N6=>cond (decide ((IntKind.wrap .i64 (N6+(IntKind.wrap .i64 (8*N5))))>(xs0.length:Int))) (
  some (.ret (.pv (.tup [(.sl 1 []),(I 1)])),[])) (
  (zf .i64 (.pv P3)).bind fun N7=>(zf .i64 (.pv p3)).bind fun N8=>(yq (.pv p3)).bind fun Q9=>cond ((decide (0<=Q9.2)&&decide (Q9.2<=(IntKind.wrap .i64 (N8+(IntKind.wrap .i64 (8*N7))))))&&decide ((IntKind.wrap .i64 (N8+(IntKind.wrap .i64 (8*N7))))<=(xs0.length:Int))) (zh (ev 87 [(.pv (.sl 1 ((xs0.take (IntKind.wrap .i64 (N8+(IntKind.wrap .i64 (8*N7)))).toNat).drop (Q9.2).toNat)))] []) (fun A10 H11=>(wP 0 2 A10).bind fun Q12=>(zO 30 1 Q12.1).bind fun X13=>(Q12.2[1]?).bind fun P14=>cond (ye (xs2.length+1) 24) ((zf .i64 (.pv P3)).bind fun N15=>(zf .i64 (.pv p3)).bind fun N16=>Wp xs0 i1 (xs2++[(.sl 1 X13)]) (I (IntKind.wrap .i64 (N16+(IntKind.wrap .i64 (8*N15))))) (IntKind.wrap .i64 (i4+1))) none) (fun A10 H11=>some (.pan A10,[]))) none)))) (
 (zf .i64 (.pv p3)).bind fun N1=>cond (N1 != (xs0.length:Int)) (
  some (.ret (.pv (.tup [(.sl 1 []),(I 1)])),[])) (
  some (.ret (.pv (.tup [(.sl 1 xs2),(I 0)])),[]))):=(yd ..).trans (by kernel_rfl)
theorem zgp (x0:List PV):ev 43 [(.pv (.sl 1 x0))] [] =
 cond (decide ((x0.length:Int)<4)) (
 some (.ret (.pv (.tup [(.sl 1 []),(I 1)])),[])) (
 cp (ev 85 [(.pv (.sl 1 x0)),(.pv (I 0))] []) (fun P3=>(zf .i64 (.pv P3)).bind fun N4=>cond (decide ((IntKind.wrap .i64 (N4+1))>512)) (
  some (.ret (.pv (.tup [(.sl 1 []),(I 1)])),[])) (
  cp (ev 86 [(.pv (I (IntKind.wrap .i64 (N4+1))))] []) (fun P7=>(zf .i64 (.pv P7)).bind fun N8=>cond (decide ((x0.length:Int)<N8)) (
   some (.ret (.pv (.tup [(.sl 1 []),(I 1)])),[])) (
   cond ((Int.tmod (IntKind.wrap .i64 (N4+1)) 2)==0) (
    cp (ev 85 [(.pv (.sl 1 x0)),(.pv (I (IntKind.wrap .i64 ((IntKind.wrap .i64 (N4+1))+1))))] []) (fun P11=>(zf .i64 (.pv P11)).bind fun N12=>cond (N12 != 0) (
    some (.ret (.pv (.tup [(.sl 1 []),(I 1)])),[])) (
    cp (ev 86 [(.pv (I (IntKind.wrap .i64 (N4+1))))] []) (fun P15=>Wp x0 (IntKind.wrap .i64 (N4+1)) [] P15 1)))) (
    cp (ev 86 [(.pv (I (IntKind.wrap .i64 (N4+1))))] []) (fun P11=>Wp x0 (IntKind.wrap .i64 (N4+1)) [] P11 1))))))):=zg (fn:=Tryz.f43) _ _
theorem zlS (x0:List PV) (x1:Int):ev 52 [(.pv (.sl 1 x0)),(.pv (I x1))] [] =
 zh (ev 101 [(.pv (.sl 1 x0)),(.pv (I x1))] []) (fun A1 H2=>(wP 0 2 A1).bind fun Q3=>(zO 5 1 Q3.1).bind fun X4=>(Q3.2[1]?).bind fun P5=>(zf .i64 (.pv P5)).bind fun N6=>cond (N6 != 0) (
 some (.ret (.tup 0 (.slu 5 1 []) [(.v .nilIface),P5]),[])) (
 some (.ret (.tup 0 (.slu 5 1 X4) [(.v .nilIface),(I 0)]),[]))) (fun A1 H2=>some (.pan A1,[])):=zg (fn:=Tryz.f52) _ _
theorem Je (x0:List PV) (x1_0 x1_1 x1_2:Int):ev 53 [(.pv (.sl 1 x0)),(.pv (.agg [(I x1_0),(I x1_1),(I x1_2)]))] [] =
 cond (decide (x1_0<=40)) (
 cond (decide (x1_1<=2000)) (
 cp (ev 102 [(.pv (.sl 1 x0))] []) (fun P3=>(zY (.pv P3)).bind fun B4=>some (.ret (.pv (Bo B4)),[]))) (
 some (.ret (.pv (Bo false)),[]))) (
 some (.ret (.pv (Bo false)),[])):=zg (fn:=Tryz.f53) _ _
theorem ziS (x0:List PV):ev 57 [(.pv (.sl 1 x0))] [] =
 cp (ev 107 [(.pv (.sl 1 x0))] []) (fun P3=>tK P3 0 fun P5=>tK P3 1 fun P7=>cp (ev 104 [(.pv P7)] []) (fun P10=>some (.ret (.pv (.tup [P5,P10])),[]))):=zg (fn:=Tryz.f57) _ _
theorem ziT (x0:List PV) (x1_0 x1_1 x1_2:Int):ev 59 [(.pv (.sl 1 x0)),(.pv (.agg [(I x1_0),(I x1_1),(I x1_2)]))] [] =
 cp (ev 57 [(.pv (.sl 1 x0))] []) (fun P3=>tK P3 0 fun P5=>tK P3 1 fun P7=>(yC (.pv P7)).bind fun Z8=>cond Z8 (
 cp (ev 110 [(.pv P5),(.pv (.agg [(I x1_0),(I x1_1),(I x1_2)]))] []) (fun P11=>tK P11 0 fun P13=>tK P11 1 fun P15=>cp (ev 104 [(.pv P15)] []) (fun P18=>some (.ret (.pv (.tup [P5,P18])),[])))) (
 some (.ret (.pv (.tup [P5,P7])),[]))):=zg (fn:=Tryz.f59) _ _
noncomputable def uC:Code:=Tryz.f64.body.getD .skip
noncomputable def Kw (xs0 xs1:List PV) (i2 i3:Int):Option (Out×za) :=
 ya (zA env ev zN 34 64 0 (sub uC [1,1,1,0,1,0,0])) (zJ env 64 0 0) (zQ 0 (yf (zT env ev 34 64 0 (sub uC [1,1,1,1])) (z8 env 64 Tryz.f64.results.toList 0))) ⟨zR [(0,(.pv (.sl 1 xs0))),(4,(.slu 30 1 xs1)),(18,(.pv (I i2))),(19,(.pv (I i3)))],[]⟩
theorem zc0 (xs0 xs1:List PV) (i2 i3:Int):Kw xs0 xs1 i2 i3 =
 cond (decide (i3<i2)) (
 cp (ev 116 [(.pv (.sl 1 xs0)),(.pv (I i3))] []) (fun P3=>tK P3 0 fun P5=>tK P3 1 fun P7=>cond ((decide (P5.cells.length=1)&&P5.cells.all PV.isCell)&&true) (cond (ye (xs1.length+1) 8) (Kw xs0 (xs1++[P5]) i2 (IntKind.wrap .i64 (i3+1))) none) none)) (
 some (.ret (.pv (.tup [(.sl 1 xs1),(Bo true)])),[])):=(yd ..).trans (by kernel_rfl)
theorem zmq (x0:List PV):ev 64 [(.pv (.sl 1 x0))] [] =
 cond ((Int.tmod (x0.length:Int) 8) != 0) (
 some (.ret (.pv (.tup [(.sl 1 []),(Bo false)])),[])) (
 cond ((decide (0<=(IntKind.wrap .i64 (Int.tdiv (x0.length:Int) 8)))&&decide ((IntKind.wrap .i64 (Int.tdiv (x0.length:Int) 8))<=140737488355328))&&ye (IntKind.wrap .i64 (Int.tdiv (x0.length:Int) 8)).toNat 8) (Kw x0 [] (IntKind.wrap .i64 (Int.tdiv (x0.length:Int) 8)) 0) none):=zg (fn:=Tryz.f64) _ _
noncomputable def qS:Code:=Tryz.f76.body.getD .skip
noncomputable def zdg:Code:=Tryz.f129.body.getD .skip
theorem K9 (x0:List PV) (x1_0 x1_1 x1_2:Int):ev 76 [(.pv (.sl 1 x0)),(.pv (.agg [(I x1_0),(I x1_1),(I x1_2)]))] [] =
 zh (ev 130 [(.pv (Bo (decide ((x0.length:Int)>0))))] []) (fun A1 H2=>(zb A1).bind fun P3=>zh (ev 131 [(.pv (.agg [(I x1_0),(I x1_1),(I x1_2)]))] []) (fun A4 H5=>(zb A4).bind fun P6=>cond (decide (P6.cells.length=1)) ((P6.cells[0]?).bind fun P7=>cond ((P7.isCell&&true)&&true) (cond (P7.isCell&&true) (zh (ev 132 [(.ptr 0 0),(.pv (I 0)),(.pv (I 1))] [[(.pv (.sl 1 x0)),(.pv (I 1)),(.pv (I x1_0)),(.pv (I x1_1)),(.pv (I x1_2)),(.pv P7)]]) (fun A8 H9=>(H9[0]?).bind fun C10=>(C10[0]?).bind fun E11=>(zb E11).bind fun P12=>(C10[1]?).bind fun E13=>(zb E13).bind fun P14=>(C10[2]?).bind fun E15=>(zb E15).bind fun P16=>(C10[3]?).bind fun E17=>(zb E17).bind fun P18=>(C10[4]?).bind fun E19=>(zb E19).bind fun P20=>(C10[5]?).bind fun E21=>(zb E21).bind fun P22=>cond (decide (C10.length=6)) (cond (decide (H9.length=1)) ((zb A8).bind fun P23=>(zf .i64 (.pv P14)).bind fun N24=>some (.ret (.pv (Bo (N24==(x0.length:Int)))),[])) none) none) (fun A8 H9=>(H9[0]?).bind fun C10=>(C10[0]?).bind fun E11=>(zb E11).bind fun P12=>(C10[1]?).bind fun E13=>(zb E13).bind fun P14=>(C10[2]?).bind fun E15=>(zb E15).bind fun P16=>(C10[3]?).bind fun E17=>(zb E17).bind fun P18=>(C10[4]?).bind fun E19=>(zb E19).bind fun P20=>(C10[5]?).bind fun E21=>(zb E21).bind fun P22=>cond (decide (C10.length=6)) (cond (decide (H9.length=1)) ((yC (.pv A8)).bind fun Z23=>cond (!Z23) (
  (xC (.pv A8)).bind fun Q24=>cond (decide (Q24.1=174)) (cond (decide (Q24.2.cells.length=0)) (some (.ret (.pv (Bo false)),[])) none) none) (
  some (.ret (.pv (Bo false)),[]))) none) none)) none) none) none) (fun A4 H5=>none)) (fun A1 H2=>(yC (.pv A1)).bind fun Z3=>cond (!Z3) (
  (xC (.pv A1)).bind fun Q4=>cond (decide (Q4.1=174)) (cond (decide (Q4.2.cells.length=0)) (some (.ret (.pv (Bo false)),[])) none) none) (
  some (.ret (.pv (Bo false)),[]))):=(JB (f:=76) (g:=129) (fn:=Tryz.f76) (gn:=Tryz.f129) (d:=⟨sub qS [0],sub qS [1,1],sub zdg [1],[4],1,6⟩) (by kernel_rfl) (by kernel_rfl) (by kernel_rfl) (by kernel_rfl) (by kernel_rfl) _ _).trans (by kernel_rfl)
theorem zf3 (x0:List PV) (x1_0 x1_1 x1_2:Int):ev 103 [(.pv (.sl 1 x0)),(.pv (.agg [(I x1_0),(I x1_1),(I x1_2)]))] [] =
 cp (ev 163 [(.pv (.sl 1 x0)),(.pv (.agg [(I x1_0),(I x1_1),(I x1_2)])),(.pv (.v (.func (.func 164) #[] #[])))] []) (fun P3=>tK P3 0 fun P5=>tK P3 1 fun P7=>some (.ret (.pv (.tup [P5,P7])),[])):=zg (fn:=Tryz.f103) _ _
theorem zia (x0:List PV) (x1_0 x1_1 x1_2:Int):ev 108 [(.pv (.sl 1 x0)),(.pv (.agg [(I x1_0),(I x1_1),(I x1_2)])),(.pv (.v (.func (.func 109) #[] #[])))] [] =
 cp (ev 176 [(.pv (.sl 1 x0)),(.pv (.agg [(I x1_0),(I x1_1),(I x1_2)]))] []) (fun P3=>tK P3 0 fun P5=>tK P3 1 fun P7=>vZ P5 (fun P8 P9 P10 P11 P12=>(zf .i64 (.pv P7)).bind fun N13=>cond (N13==0) (
 cp (ev 109 [(.pv (.agg [P8,P9,P10,P11,P12]))] []) (fun P16=>some (.ret (.pv (.tup [P16,P7])),[]))) (
 some (.ret (.pv (.tup [(U 0),P7])),[])))):=zg (fn:=Tryz.f108) _ _
theorem zg3 (x0:List PV) (x1_0 x1_1 x1_2:Int):ev 110 [(.pv (.sl 1 x0)),(.pv (.agg [(I x1_0),(I x1_1),(I x1_2)]))] [] =
 cp (ev 178 [(.pv (.sl 1 x0)),(.pv (.agg [(I x1_0),(I x1_1),(I x1_2)]))] []) (fun P3=>tK P3 0 fun P5=>tK P3 1 fun P7=>tK P3 2 fun P9=>vZ P5 (fun P10 P11 P12 P13 P14=>Wf P7 (fun P15=>(zf .i64 (.pv P9)).bind fun N16=>cond (N16 != 0) (
 some (.ret (.pv (.tup [(I 0),P9])),[])) (
 cp (ev 179 [(.pv (.agg [(I x1_0),(I x1_1),(I x1_2)])),(.pv (.agg [P15]))] []) (fun P19=>some (.ret (.pv (.tup [P19,(I 0)])),[])))))):=zg (fn:=Tryz.f110) _ _
theorem zhu (x0:List PV):ev 112 [(.pv (.sl 1 x0))] [] =
 cond (decide (0<(x0.length:Int))) ((x0[0]?).bind fun P1=>(P1.cells[0]?).bind fun P2=>(zX P2).bind fun L3=>cond ((L3.2.length:Int)==0) (
 some (.ret (.pv (.agg [(I 0),(I 0),(I 0),(I 0),(I 0),(I 0),(I 0),(I 0)])),[])) (
 cp (ev 184 [(.pv (.sl 1 x0)),(.pv (I 0)),(.pv (I 0))] []) (fun P6=>tK P6 0 fun P8=>tK P6 1 fun P10=>vJ P8 (fun P11 P12 P13 P14 P15 P16 P17 P18=>cond (P11.isCell&&(P12.isCell&&(P13.isCell&&(P14.isCell&&(P15.isCell&&(P16.isCell&&(P17.isCell&&(P18.isCell&&true)))))))) (some (.ret (.pv (.agg [P11,P12,P13,P14,P15,P16,P17,P18])),[])) none)))) none:=zg (fn:=Tryz.f112) _ _
theorem zlk (x0:Int):ev 114 [(.pv (U x0))] [] =
 cp (ev 115 [(.pv (U x0))] []) (fun P3=>cp (ev 188 [(.pv P3)] []) (fun P6=>(zf .i64 (.pv P6)).bind fun N7=>some (.ret (.pv (Bo (decide (N7≥7)))),[]))):=zg (fn:=Tryz.f114) _ _
noncomputable def uo:Code:=Tryz.f115.body.getD .skip
noncomputable def Vc (i0:Int) (p1:PV) (i2 i3:Int):Option (Out×za) :=
 ya (zA env ev zN 24 115 0 (sub uo [1,1,0,1,0,0])) (zJ env 115 0 0) (zQ 0 (yf (zT env ev 24 115 0 (sub uo [1,1,1])) (z8 env 115 Tryz.f115.results.toList 0))) ⟨zR [(3,(.pv (U8 i0))),(8,(.pv p1)),(9,(.pv (I i2))),(10,(.pv (I i3)))],[]⟩
theorem zcq (i0:Int) (p1:PV) (i2 i3:Int):Vc i0 p1 i2 i3 =
 cond (decide (i3<i2)) (
 (zX p1).bind fun L1=>cond ((decide (L1.1=1)&&decide (0<=i3))&&decide (i3<(L1.2.length:Int))) ((L1.2[(i3).toNat]?).bind fun P2=>(P2.cells[0]?).bind fun P3=>(zf .u8 (.pv P3)).bind fun N4=>cond (N4 != 0) (
 cond (yN .shl (IntKind.wrap .u64 i3)) (Vc (IntKind.wrap .u8 (BitVec.ofInt 8 i0 ||| BitVec.ofInt 8 (IntKind.wrap .u8 (1*2^(min (IntKind.wrap .u64 i3).toNat 8)))).toNat) p1 i2 (IntKind.wrap .i64 (i3+1))) none) (
 Vc i0 p1 i2 (IntKind.wrap .i64 (i3+1)))) none) (
 some (.ret (.pv (U8 i0)),[])):=(yd ..).trans (by kernel_rfl)
theorem zll (x0:Int):ev 115 [(.pv (U x0))] [] =
 cp (ev 117 [(.pv (.sl 1 [(U x0)]))] []) (fun P3=>(zX P3).bind fun L4=>Vc 0 P3 (L4.2.length:Int) 0):=zg (fn:=Tryz.f115) _ _
noncomputable def uz:Code:=Tryz.f161.body.getD .skip
noncomputable def XT (p0 p1:PV) (xs2:List PV) (p3:PV):Option (Out×za) :=
 ya (zA env ev zN 39 161 0 (sub uz [1,0,1,0,0,0])) (zJ env 161 0 1) (zQ 0 (yf (zT env ev 39 161 0 (sub uz [1,0,1,1])) (z8 env 161 Tryz.f161.results.toList 1))) ⟨zR [(0,(.ptr 0 0)),(2,(.pv p0))],[[(.pv p1),(.slu 5 1 xs2),(.pv p3)]]⟩
theorem qK (p0 p1:PV) (xs2:List PV) (p3:PV):XT p0 p1 xs2 p3 =
 (zX p1).bind fun L1=>cond (decide ((L1.2.length:Int)>0)) (
 (zX p1).bind fun L2=>cond ((decide (L2.1=1)&&true)&&decide (0<(L2.2.length:Int))) ((L2.2[0]?).bind fun P3=>(P3.cells[0]?).bind fun P4=>(zX p1).bind fun L5=>cond (decide (L5.1=1)) (cond (decide (1<=(L5.2.length:Int))&&decide ((L5.2.length:Int)<=(L5.2.length:Int))) ((zf .u8 (.pv P4)).bind fun N6=>cond (N6==0) (
 zh (ev 224 [(.ptr 0 0),(.pv P4)] [[(.pv (.sl L5.1 ((L5.2.take (L5.2.length:Int).toNat).drop 1))),(.slu 5 1 xs2),(.pv p3)]]) (fun A7 H8=>(H8[0]?).bind fun C9=>(C9[0]?).bind fun E10=>(zb E10).bind fun P11=>(C9[1]?).bind fun E12=>(zO 5 1 E12).bind fun X13=>(C9[2]?).bind fun E14=>(zb E14).bind fun P15=>cond (decide (C9.length=3)) (cond (decide (H8.length=1)) ((zb A7).bind fun P16=>(yC (.pv P16)).bind fun Z17=>cond (!Z17) (
 some (.ret (.pv P16),[[(.pv P11),(.slu 5 1 X13),(.pv P15)]])) (
 XT P16 P11 X13 P15)) none) none) (fun A7 H8=>(H8[0]?).bind fun C9=>(C9[0]?).bind fun E10=>(zb E10).bind fun P11=>(C9[1]?).bind fun E12=>(zO 5 1 E12).bind fun X13=>(C9[2]?).bind fun E14=>(zb E14).bind fun P15=>cond (decide (C9.length=3)) (cond (decide (H8.length=1)) (some (.pan A7,[[(.pv P11),(.slu 5 1 X13),(.pv P15)]])) none) none)) (
 (zf .u8 (.pv P4)).bind fun N7=>cond (N7==255) (
  zh (ev 224 [(.ptr 0 0),(.pv P4)] [[(.pv (.sl L5.1 ((L5.2.take (L5.2.length:Int).toNat).drop 1))),(.slu 5 1 xs2),(.pv p3)]]) (fun A8 H9=>(H9[0]?).bind fun C10=>(C10[0]?).bind fun E11=>(zb E11).bind fun P12=>(C10[1]?).bind fun E13=>(zO 5 1 E13).bind fun X14=>(C10[2]?).bind fun E15=>(zb E15).bind fun P16=>cond (decide (C10.length=3)) (cond (decide (H9.length=1)) ((zb A8).bind fun P17=>(yC (.pv P17)).bind fun Z18=>cond (!Z18) (
  some (.ret (.pv P17),[[(.pv P12),(.slu 5 1 X14),(.pv P16)]])) (
  XT P17 P12 X14 P16)) none) none) (fun A8 H9=>(H9[0]?).bind fun C10=>(C10[0]?).bind fun E11=>(zb E11).bind fun P12=>(C10[1]?).bind fun E13=>(zO 5 1 E13).bind fun X14=>(C10[2]?).bind fun E15=>(zb E15).bind fun P16=>cond (decide (C10.length=3)) (cond (decide (H9.length=1)) (some (.pan A8,[[(.pv P12),(.slu 5 1 X14),(.pv P16)]])) none) none)) (
  zh (ev 225 [(.ptr 0 0),(.pv P4)] [[(.pv (.sl L5.1 ((L5.2.take (L5.2.length:Int).toNat).drop 1))),(.slu 5 1 xs2),(.pv p3)]]) (fun A8 H9=>(H9[0]?).bind fun C10=>(C10[0]?).bind fun E11=>(zb E11).bind fun P12=>(C10[1]?).bind fun E13=>(zO 5 1 E13).bind fun X14=>(C10[2]?).bind fun E15=>(zb E15).bind fun P16=>cond (decide (C10.length=3)) (cond (decide (H9.length=1)) ((zb A8).bind fun P17=>(yC (.pv P17)).bind fun Z18=>cond (!Z18) (
   some (.ret (.pv P17),[[(.pv P12),(.slu 5 1 X14),(.pv P16)]])) (
   XT P17 P12 X14 P16)) none) none) (fun A8 H9=>(H9[0]?).bind fun C10=>(C10[0]?).bind fun E11=>(zb E11).bind fun P12=>(C10[1]?).bind fun E13=>(zO 5 1 E13).bind fun X14=>(C10[2]?).bind fun E15=>(zb E15).bind fun P16=>cond (decide (C10.length=3)) (cond (decide (H9.length=1)) (some (.pan A8,[[(.pv P12),(.slu 5 1 X14),(.pv P16)]])) none) none)))) none) none) none) (
 some (.ret (.pv p0),[[(.pv p1),(.slu 5 1 xs2),(.pv p3)]])):=(yd ..).trans (by kernel_rfl)
theorem zlU (x0__0 x0__1:List PV) (x0__2:Int):ev 161 [(.ptr 0 0)] [[(.pv (.sl 1 x0__0)),(.slu 5 1 x0__1),(.pv (I x0__2))]] =
 XT (.v .nilIface) (.sl 1 x0__0) x0__1 (I x0__2):=zg (fn:=Tryz.f161) _ _
theorem jL (x0 x1:PV):ev 162 [.pv x0,.pv x1] []=(Qt env x0 x1).bind fun b=>some (.ret (.pv (.v (.bool b))),[]):=(Qj (q:=(1,(0,0))) (by kernel_rfl) _ _).trans (by kernel_rfl)
theorem zhq (x0_0 x0_1:List PV) (x1_0 x1_1 x1_2 x1_3 x1_4 x1_5 x1_6 x1_7 x2_0 x2_1 x2_2 x2_3 x2_4 x2_5 x2_6 x2_7:Int):ev 180 [(.pv (.agg [(.sl 1 x0_0),(.sl 1 x0_1)])),(.pv (.agg [(I x1_0),(I x1_1),(I x1_2),(I x1_3),(I x1_4),(I x1_5),(I x1_6),(I x1_7)])),(.pv (.agg [(I x2_0),(I x2_1),(I x2_2),(I x2_3),(I x2_4),(I x2_5),(I x2_6),(I x2_7)]))] [] =
 cp (ev 236 [(.pv (.sl 1 x0_0)),(.pv (.agg [(I x1_0),(I x1_1),(I x1_2),(I x1_3),(I x1_4),(I x1_5),(I x1_6),(I x1_7)])),(.pv (I x1_7))] []) (fun P3=>cp (ev 117 [(.pv P3)] []) (fun P6=>zh (ev 235 [(.pv (I x1_5)),(.pv (I x1_6)),(.pv P6)] []) (fun A7 H8=>(zO 5 1 A7).bind fun X9=>cp (ev 236 [(.pv (.sl 1 x0_1)),(.pv (.agg [(I x2_0),(I x2_1),(I x2_2),(I x2_3),(I x2_4),(I x2_5),(I x2_6),(I x2_7)])),(.pv (I x2_7))] []) (fun P12=>cp (ev 117 [(.pv P12)] []) (fun P15=>zh (ev 235 [(.pv (I x2_5)),(.pv (I x2_6)),(.pv P15)] []) (fun A16 H17=>(zO 5 1 A16).bind fun X18=>cp (ev 212 [(.pv (.sl 1 X9)),(.pv (.sl 1 X18))] []) (fun P21=>some (.ret (.pv P21),[]))) (fun A16 H17=>some (.pan A16,[]))))) (fun A7 H8=>some (.pan A7,[])))):=zg (fn:=Tryz.f180) _ _
noncomputable def ud:Code:=Tryz.f183.body.getD .skip
noncomputable def Qh (i0 i1:Int) (xs2 xs3:List PV) (i4 i5 i6 i7 i8 i9 i10 i11 i12 i13 i14 i15 i16 i17 i18 i19:Int):Option (Out×za) :=
 ya (zA env ev zN 28 183 0 (sub ud [1,0,1,0,0])) (zJ env 183 0 3) (zQ 0 (yf (zT env ev 28 183 0 (sub ud [1,1])) (z8 env 183 Tryz.f183.results.toList 0))) ⟨zR [(4,(.ptr 0 0)),(5,(.ptr 1 0)),(6,(.ptr 2 0)),(10,(.pv (I i0))),(11,(.pv (I i1)))],[[(.pv (.sl 1 xs2)),(.pv (.sl 1 xs3))],[(.pv (I i4)),(.pv (I i5)),(.pv (I i6)),(.pv (I i7)),(.pv (I i8)),(.pv (I i9)),(.pv (I i10)),(.pv (I i11))],[(.pv (I i12)),(.pv (I i13)),(.pv (I i14)),(.pv (I i15)),(.pv (I i16)),(.pv (I i17)),(.pv (I i18)),(.pv (I i19))]]⟩
theorem jJ (i0 i1:Int) (xs2 xs3:List PV) (i4 i5 i6 i7 i8 i9 i10 i11 i12 i13 i14 i15 i16 i17 i18 i19:Int):Qh i0 i1 xs2 xs3 i4 i5 i6 i7 i8 i9 i10 i11 i12 i13 i14 i15 i16 i17 i18 i19 =
 cond (decide (i1<i0)) (
 zh (ev 239 [(.pv (.sl 1 xs2)),(.pv (.agg [(I i4),(I i5),(I i6),(I i7),(I i8),(I i9),(I i10),(I i11)])),(.pv (I i1))] []) (fun A1 H2=>(zb A1).bind fun P3=>cp (ev 239 [(.pv (.sl 1 xs3)),(.pv (.agg [(I i12),(I i13),(I i14),(I i15),(I i16),(I i17),(I i18),(I i19)])),(.pv (I i1))] []) (fun P6=>cp (ev 111 [(.pv (.agg [(.sl 1 xs2),(.sl 1 xs3)])),(.pv P3),(.pv P6)] []) (fun P9=>(zY (.pv P9)).bind fun B10=>cond (!B10) (
 some (.ret (.pv (Bo false)),[])) (
 Qh i0 (IntKind.wrap .i64 (i1+1)) xs2 xs3 i4 i5 i6 i7 i8 i9 i10 i11 i12 i13 i14 i15 i16 i17 i18 i19)))) (fun A1 H2=>none)) (
 some (.ret (.pv (Bo true)),[])):=(yd ..).trans (by kernel_rfl)
theorem zhr (x0_0 x0_1:List PV) (x1_0 x1_1 x1_2 x1_3 x1_4 x1_5 x1_6 x1_7 x2_0 x2_1 x2_2 x2_3 x2_4 x2_5 x2_6 x2_7 x3:Int):ev 183 [(.pv (.agg [(.sl 1 x0_0),(.sl 1 x0_1)])),(.pv (.agg [(I x1_0),(I x1_1),(I x1_2),(I x1_3),(I x1_4),(I x1_5),(I x1_6),(I x1_7)])),(.pv (.agg [(I x2_0),(I x2_1),(I x2_2),(I x2_3),(I x2_4),(I x2_5),(I x2_6),(I x2_7)])),(.pv (I x3))] [] =
 Qh x3 0 x0_0 x0_1 x1_0 x1_1 x1_2 x1_3 x1_4 x1_5 x1_6 x1_7 x2_0 x2_1 x2_2 x2_3 x2_4 x2_5 x2_6 x2_7:=zg (fn:=Tryz.f183) _ _
noncomputable def Vt:Code:=Tryz.f186.body.getD .skip
noncomputable def QK (xs0:List PV) (i1:Int):Option (Out×za) :=
 ya (zA env ev zN 25 186 0 (sub Vt [1,1,0,0,0])) (zJ env 186 0 0) (zQ 0 (yf (zT env ev 25 186 0 (sub Vt [1,1,1])) (z8 env 186 Tryz.f186.results.toList 0))) ⟨zR [(0,(.pv (.sl 1 xs0))),(1,(.pv (.v (.func (.func 187) #[] #[])))),(5,(.pv (I i1)))],[]⟩
theorem zbf (xs0:List PV) (i1:Int):QK xs0 i1 =
 cond (decide (i1<(xs0.length:Int))) (
 cond (decide (i1<255)) (
 cond (decide (0<=i1)&&decide (i1<(xs0.length:Int))) ((xs0[(i1).toNat]?).bind fun P1=>(P1.cells[0]?).bind fun P2=>cp (ev 187 [(.pv P2)] []) (fun P5=>(zY (.pv P5)).bind fun B6=>cond B6 (
 QK xs0 (IntKind.wrap .i64 (i1+1))) (
 some (.ret (.pv (I i1)),[])))) none) (
 some (.ret (.pv (I i1)),[]))) (
 some (.ret (.pv (I i1)),[])):=(yd ..).trans (by kernel_rfl)
theorem zjx (x0:List PV):ev 186 [(.pv (.sl 1 x0)),(.pv (.v (.func (.func 187) #[] #[])))] [] =
 QK x0 0:=zg (fn:=Tryz.f186) _ _
noncomputable def QL (xs0:List PV) (i1:Int):Option (Out×za) :=
 ya (zA env ev zN 25 186 0 (sub Vt [1,1,0,0,0])) (zJ env 186 0 0) (zQ 0 (yf (zT env ev 25 186 0 (sub Vt [1,1,1])) (z8 env 186 Tryz.f186.results.toList 0))) ⟨zR [(0,(.pv (.sl 1 xs0))),(1,(.pv (.v (.func (.func 114) #[] #[])))),(5,(.pv (I i1)))],[]⟩
theorem zbg (xs0:List PV) (i1:Int):QL xs0 i1 =
 cond (decide (i1<(xs0.length:Int))) (
 cond (decide (i1<255)) (
 cond (decide (0<=i1)&&decide (i1<(xs0.length:Int))) ((xs0[(i1).toNat]?).bind fun P1=>(P1.cells[0]?).bind fun P2=>cp (ev 114 [(.pv P2)] []) (fun P5=>(zY (.pv P5)).bind fun B6=>cond B6 (
 QL xs0 (IntKind.wrap .i64 (i1+1))) (
 some (.ret (.pv (I i1)),[])))) none) (
 some (.ret (.pv (I i1)),[]))) (
 some (.ret (.pv (I i1)),[])):=(yd ..).trans (by kernel_rfl)
theorem zjy (x0:List PV):ev 186 [(.pv (.sl 1 x0)),(.pv (.v (.func (.func 114) #[] #[])))] [] =
 QL x0 0:=zg (fn:=Tryz.f186) _ _
theorem zfM (x0 x1:List PV):ev 212 [(.pv (.sl 1 x0)),(.pv (.sl 1 x1))] [] =
 (vz x0).bind fun ns_1=>(vz x1).bind fun ns_2=>some (.ret (.pv (Bo ((strOfNums ns_1).toList==(strOfNums ns_2).toList))),[]):=zg (fn:=Tryz.f212) _ _
theorem zlD (x0:List PV):ev 214 [(.pv (.sl 1 x0))] [] =
 cp (ev 256 [(.pv (.sl 1 x0)),(.pv (.v (.func (.func 257) #[] #[])))] []) (fun P3=>(zf .i64 (.pv P3)).bind fun N4=>some (.ret (.pv (I (IntKind.wrap .i64 (Int.tdiv (IntKind.wrap .i64 ((IntKind.wrap .i64 (N4+8))-1)) 8)))),[])):=zg (fn:=Tryz.f214) _ _
noncomputable def uu:Code:=Tryz.f219.body.getD .skip
noncomputable def Kl (i0 i1:Int) (xs2:List PV) (i3 i4 i5 i6 i7:Int) (xs8 xs9:List PV):Option (Out×za) :=
 ya (zA env ev zN 29 219 0 (sub uu [1,1,0,1,0,0])) (zJ env 219 0 1) (zQ 0 (yf (zT env ev 29 219 0 (sub uu [1,1,1])) (z8 env 219 Tryz.f219.results.toList 0))) ⟨zR [(4,(.pv (I i0))),(5,(.pv (I i1))),(9,(.pv (.sl 5 xs2))),(10,(.pv (I i3))),(11,(.pv (I i4)))],[[(.pv (I i5)),(.pv (I i6)),(.pv (I i7)),(.pv (.sl 1 xs8)),(.pv (.sl 5 xs9))]]⟩
theorem zcF (i0 i1:Int) (xs2:List PV) (i3 i4 i5 i6 i7:Int) (xs8 xs9:List PV):Kl i0 i1 xs2 i3 i4 i5 i6 i7 xs8 xs9 =
 cond (decide (i4<i3)) (
 cond (decide (0<=i4)&&decide (i4<(xs2.length:Int))) ((xs2[(i4).toNat]?).bind fun P1=>cond (decide (5<=P1.cells.length)) (cond (decide (((P1.cells.drop 0).take 5).length=5)) ((((P1.cells.drop 0).take 5)[0]?).bind fun P2=>(((P1.cells.drop 0).take 5)[1]?).bind fun P3=>(((P1.cells.drop 0).take 5)[2]?).bind fun P4=>(((P1.cells.drop 0).take 5)[3]?).bind fun P5=>(((P1.cells.drop 0).take 5)[4]?).bind fun P6=>cond (P2.isCell&&(P3.isCell&&(P4.isCell&&(P5.isCell&&(P6.isCell&&true))))) ((zX P5).bind fun L7=>(zX P6).bind fun L8=>Kl (if (IntKind.wrap .i64 (Int.tdiv (L7.2.length:Int) 8))>i0 then (IntKind.wrap .i64 (Int.tdiv (L7.2.length:Int) 8)) else i0) (if (L8.2.length:Int)>i1 then (L8.2.length:Int) else i1) xs2 i3 (IntKind.wrap .i64 (i4+1)) i5 i6 i7 xs8 xs9) none) none) none) none) (
 some (.ret (.pv (.tup [(I i0),(I i1)])),[])):=(yd ..).trans (by kernel_rfl)
theorem zlB (x0_0 x0_1 x0_2:Int) (x0_3 x0_4:List PV):ev 219 [(.pv (.agg [(I x0_0),(I x0_1),(I x0_2),(.sl 1 x0_3),(.sl 5 x0_4)]))] [] =
 Kl 0 0 x0_4 (x0_4.length:Int) 0 x0_0 x0_1 x0_2 x0_3 x0_4:=zg (fn:=Tryz.f219) _ _
noncomputable def ZP:Code:=Tryz.f228.body.getD .skip
noncomputable def Za (xs0:List PV) (p1:PV) (i2 i3:Int) (xs4:List PV) (i5 i6 i7:Int) (xs8 xs9:List PV) (p10:PV) (i11:Int) (p12 p13 p14 p15 p16 p17 p18 p19:PV):Option (Out×za) :=
 ya (zA env ev zN 95 228 1 (sub ZP (o1 10 [0,0]))) (zJ env 228 1 3) (zQ 1 (z8 env 228 Tryz.f228.results.toList 1)) ⟨zR [(0,(.ptr 0 0)),(7,(.slu 53 5 xs0)),(69,(.pv p1)),(70,(.pv (I i2))),(71,(.pv (I i3)))],[[(.slu 30 1 xs4)],[(.pv (I i5)),(.pv (I i6)),(.pv (I i7)),(.pv (.sl 1 xs8)),(.pv (.sl 5 xs9))],[(.pv p10),(.pv (I i11)),(.pv p12),(.pv p13),(.pv p14),(.pv p15),(.pv p16),(.pv p17),(.pv p18),(.pv p19)]]⟩
noncomputable def Yv (xs0:List PV) (p1:PV) (i2 i3:Int) (xs4:List PV) (i5 i6 i7:Int) (xs8 xs9:List PV) (p10:PV) (i11:Int) (p12 p13 p14 p15 p16 p17 p18 p19:PV):Option (Out×za) :=
 ya (zA env ev zN 95 228 1 (sub ZP (o1 10 [0,0]))) (zJ env 228 1 3) (zQ 1 (z8 env 228 Tryz.f228.results.toList 1)) ⟨zR [(0,(.ptr 0 0)),(7,(.pv (.sl 5 xs0))),(69,(.pv p1)),(70,(.pv (I i2))),(71,(.pv (I i3)))],[[(.slu 30 1 xs4)],[(.pv (I i5)),(.pv (I i6)),(.pv (I i7)),(.pv (.sl 1 xs8)),(.pv (.sl 5 xs9))],[(.pv p10),(.pv (I i11)),(.pv p12),(.pv p13),(.pv p14),(.pv p15),(.pv p16),(.pv p17),(.pv p18),(.pv p19)]]⟩
noncomputable def VQ (xs0:List PV) (p1 p2:PV) (i3 i4:Int) (p5:PV) (i6 i7:Int) (xs8:List PV) (i9 i10 i11:Int) (xs12 xs13:List PV) (p14:PV) (i15:Int) (p16 p17 p18 p19 p20 p21 p22 p23:PV):Option (Out×za) :=
 ya (zA env ev zN 95 228 3 (sub ZP (o1 10 [0,0,1,1,0,0,1,1,0,0]))) (zJ env 228 3 3) (zQ 3 (zQ 2 (yf (zT env ev 95 228 1 (sub ZP (o1 10 [0,0,1,1,1]))) (XI (zA env ev zN 95 228 1 (sub ZP (o1 10 [0,0]))) (zJ env 228 1 3) (zQ 1 (z8 env 228 Tryz.f228.results.toList 1)))))) ⟨zR [(0,(.ptr 0 0)),(7,(.slu 53 5 xs0)),(12,(.pv p1)),(69,(.pv p2)),(70,(.pv (I i3))),(71,(.pv (I i4))),(80,(.pv p5)),(81,(.pv (I i6))),(82,(.pv (I i7)))],[[(.slu 30 1 xs8)],[(.pv (I i9)),(.pv (I i10)),(.pv (I i11)),(.pv (.sl 1 xs12)),(.pv (.sl 5 xs13))],[(.pv p14),(.pv (I i15)),(.pv p16),(.pv p17),(.pv p18),(.pv p19),(.pv p20),(.pv p21),(.pv p22),(.pv p23)]]⟩
noncomputable def VR (xs0:List PV) (p1 p2:PV) (i3 i4:Int) (p5:PV) (i6 i7:Int) (xs8:List PV) (i9 i10 i11:Int) (xs12 xs13:List PV) (p14:PV) (i15:Int) (p16 p17 p18 p19 p20 p21 p22 p23:PV):Option (Out×za) :=
 ya (zA env ev zN 95 228 3 (sub ZP (o1 10 [0,0,1,1,0,0,1,1,0,0]))) (zJ env 228 3 3) (zQ 3 (zQ 2 (yf (zT env ev 95 228 1 (sub ZP (o1 10 [0,0,1,1,1]))) (XI (zA env ev zN 95 228 1 (sub ZP (o1 10 [0,0]))) (zJ env 228 1 3) (zQ 1 (z8 env 228 Tryz.f228.results.toList 1)))))) ⟨zR [(0,(.ptr 0 0)),(7,(.pv (.sl 5 xs0))),(12,(.pv p1)),(69,(.pv p2)),(70,(.pv (I i3))),(71,(.pv (I i4))),(80,(.pv p5)),(81,(.pv (I i6))),(82,(.pv (I i7)))],[[(.slu 30 1 xs8)],[(.pv (I i9)),(.pv (I i10)),(.pv (I i11)),(.pv (.sl 1 xs12)),(.pv (.sl 5 xs13))],[(.pv p14),(.pv (I i15)),(.pv p16),(.pv p17),(.pv p18),(.pv p19),(.pv p20),(.pv p21),(.pv p22),(.pv p23)]]⟩
theorem Jb (xs0:List PV) (p1:PV) (i2 i3:Int) (xs4:List PV) (i5 i6 i7:Int) (xs8 xs9:List PV) (p10:PV) (i11:Int) (p12 p13 p14 p15 p16 p17 p18 p19:PV):Za xs0 p1 i2 i3 xs4 i5 i6 i7 xs8 xs9 p10 i11 p12 p13 p14 p15 p16 p17 p18 p19 =
 cond (decide (i3<i2)) (
 (zX p1).bind fun L1=>cond ((decide (L1.1=1)&&decide (0<=i3))&&decide (i3<(L1.2.length:Int))) ((L1.2[(i3).toNat]?).bind fun P2=>(P2.cells[0]?).bind fun P3=>cond (decide (0<=i3)&&decide (i3<(xs0.length:Int))) ((xs0[(i3).toNat]?).bind fun P4=>(P4.cells[4]?).bind fun P5=>(zX P5).bind fun L6=>VQ xs0 P3 p1 i2 i3 P5 (L6.2.length:Int) 0 xs4 i5 i6 i7 xs8 xs9 p10 i11 p12 p13 p14 p15 p16 p17 p18 p19) none) none) (
 some (.ret (.pv (.tup [])),[[(.slu 30 1 xs4)]])):=(yd ..).trans (by kernel_rfl)
theorem rL (xs0:List PV) (p1:PV) (i2 i3:Int) (xs4:List PV) (i5 i6 i7:Int) (xs8 xs9:List PV) (p10:PV) (i11:Int) (p12 p13 p14 p15 p16 p17 p18 p19:PV):Yv xs0 p1 i2 i3 xs4 i5 i6 i7 xs8 xs9 p10 i11 p12 p13 p14 p15 p16 p17 p18 p19 =
 cond (decide (i3<i2)) (
 (zX p1).bind fun L1=>cond ((decide (L1.1=1)&&decide (0<=i3))&&decide (i3<(L1.2.length:Int))) ((L1.2[(i3).toNat]?).bind fun P2=>(P2.cells[0]?).bind fun P3=>cond (decide (0<=i3)&&decide (i3<(xs0.length:Int))) ((xs0[(i3).toNat]?).bind fun P4=>(P4.cells[4]?).bind fun P5=>(zX P5).bind fun L6=>VR xs0 P3 p1 i2 i3 P5 (L6.2.length:Int) 0 xs4 i5 i6 i7 xs8 xs9 p10 i11 p12 p13 p14 p15 p16 p17 p18 p19) none) none) (
 some (.ret (.pv (.tup [])),[[(.slu 30 1 xs4)]])):=(yd ..).trans (by kernel_rfl)
theorem rM (xs0:List PV) (p1 p2:PV) (i3 i4:Int) (p5:PV) (i6 i7:Int) (xs8:List PV) (i9 i10 i11:Int) (xs12 xs13:List PV) (p14:PV) (i15:Int) (p16 p17 p18 p19 p20 p21 p22 p23:PV):VQ xs0 p1 p2 i3 i4 p5 i6 i7 xs8 i9 i10 i11 xs12 xs13 p14 i15 p16 p17 p18 p19 p20 p21 p22 p23 =
 cond (decide (i7<i6)) (
 (zX p5).bind fun L1=>cond ((decide (L1.1=5)&&decide (0<=i7))&&decide (i7<(L1.2.length:Int))) ((L1.2[(i7).toNat]?).bind fun P2=>cond (decide (5<=P2.cells.length)) (cond (decide (((P2.cells.drop 0).take 5).length=5)) ((((P2.cells.drop 0).take 5)[0]?).bind fun P3=>(((P2.cells.drop 0).take 5)[1]?).bind fun P4=>(((P2.cells.drop 0).take 5)[2]?).bind fun P5=>(((P2.cells.drop 0).take 5)[3]?).bind fun P6=>(((P2.cells.drop 0).take 5)[4]?).bind fun P7=>cond (P3.isCell&&(P4.isCell&&(P5.isCell&&(P6.isCell&&(P7.isCell&&true))))) ((zf .i64 (.pv p1)).bind fun N8=>zh (ev 228 [(.ptr 0 0),(.pv (I (IntKind.wrap .i64 (N8+i7)))),(.pv (.agg [P3,P4,P5,P6,P7]))] [[(.slu 30 1 xs8)]]) (fun A9 H10=>(H10[0]?).bind fun C11=>(C11[0]?).bind fun E12=>(zO 30 1 E12).bind fun X13=>cond (decide (C11.length=1)) (cond (decide (H10.length=1)) ((zb A9).bind fun P14=>VQ xs0 p1 p2 i3 i4 p5 i6 (IntKind.wrap .i64 (i7+1)) X13 i9 i10 i11 xs12 xs13 p14 i15 p16 p17 p18 p19 p20 p21 p22 p23) none) none) (fun A9 H10=>(H10[0]?).bind fun C11=>(C11[0]?).bind fun E12=>(zO 30 1 E12).bind fun X13=>cond (decide (C11.length=1)) (cond (decide (H10.length=1)) (some (.pan A9,[[(.slu 30 1 X13)]])) none) none)) none) none) none) none) (
 Za xs0 p2 i3 (IntKind.wrap .i64 (i4+1)) xs8 i9 i10 i11 xs12 xs13 p14 i15 p16 p17 p18 p19 p20 p21 p22 p23):=(yd ..).trans (by kernel_rfl)
theorem rN (xs0:List PV) (p1 p2:PV) (i3 i4:Int) (p5:PV) (i6 i7:Int) (xs8:List PV) (i9 i10 i11:Int) (xs12 xs13:List PV) (p14:PV) (i15:Int) (p16 p17 p18 p19 p20 p21 p22 p23:PV):VR xs0 p1 p2 i3 i4 p5 i6 i7 xs8 i9 i10 i11 xs12 xs13 p14 i15 p16 p17 p18 p19 p20 p21 p22 p23 =
 cond (decide (i7<i6)) (
 (zX p5).bind fun L1=>cond ((decide (L1.1=5)&&decide (0<=i7))&&decide (i7<(L1.2.length:Int))) ((L1.2[(i7).toNat]?).bind fun P2=>cond (decide (5<=P2.cells.length)) (cond (decide (((P2.cells.drop 0).take 5).length=5)) ((((P2.cells.drop 0).take 5)[0]?).bind fun P3=>(((P2.cells.drop 0).take 5)[1]?).bind fun P4=>(((P2.cells.drop 0).take 5)[2]?).bind fun P5=>(((P2.cells.drop 0).take 5)[3]?).bind fun P6=>(((P2.cells.drop 0).take 5)[4]?).bind fun P7=>cond (P3.isCell&&(P4.isCell&&(P5.isCell&&(P6.isCell&&(P7.isCell&&true))))) ((zf .i64 (.pv p1)).bind fun N8=>zh (ev 228 [(.ptr 0 0),(.pv (I (IntKind.wrap .i64 (N8+i7)))),(.pv (.agg [P3,P4,P5,P6,P7]))] [[(.slu 30 1 xs8)]]) (fun A9 H10=>(H10[0]?).bind fun C11=>(C11[0]?).bind fun E12=>(zO 30 1 E12).bind fun X13=>cond (decide (C11.length=1)) (cond (decide (H10.length=1)) ((zb A9).bind fun P14=>VR xs0 p1 p2 i3 i4 p5 i6 (IntKind.wrap .i64 (i7+1)) X13 i9 i10 i11 xs12 xs13 p14 i15 p16 p17 p18 p19 p20 p21 p22 p23) none) none) (fun A9 H10=>(H10[0]?).bind fun C11=>(C11[0]?).bind fun E12=>(zO 30 1 E12).bind fun X13=>cond (decide (C11.length=1)) (cond (decide (H10.length=1)) (some (.pan A9,[[(.slu 30 1 X13)]])) none) none)) none) none) none) none) (
 Yv xs0 p2 i3 (IntKind.wrap .i64 (i4+1)) xs8 i9 i10 i11 xs12 xs13 p14 i15 p16 p17 p18 p19 p20 p21 p22 p23):=(yd ..).trans (by kernel_rfl)
theorem Wn (x0__0:List PV) (x1 x2_0 x2_1 x2_2:Int) (x2_3 x2_4:List PV):ev 228 [(.ptr 0 0),(.pv (I x1)),(.pv (.agg [(I x2_0),(I x2_1),(I x2_2),(.sl 1 x2_3),(.sl 5 x2_4)]))] [[(.slu 30 1 x0__0)]] =
 cond (x2_0==0) (
 some (.ret (.pv (.tup [])),[[(.slu 30 1 x0__0)]])) (
 cond (x2_0==1) (
  zh (ev 269 [(.ptr 0 0),(.pv (.agg [(I x2_0),(I x2_1),(I x2_2),(.sl 1 x2_3),(.sl 5 x2_4)]))] [[(.slu 30 1 x0__0)]]) (fun A1 H2=>(H2[0]?).bind fun C3=>(C3[0]?).bind fun E4=>(zO 30 1 E4).bind fun X5=>cond (decide (C3.length=1)) (cond (decide (H2.length=1)) ((zb A1).bind fun P6=>tK P6 0 fun P8=>tK P6 1 fun P10=>wv P8 (fun P11 P12 P13 P14 P15 P16 P17 P18 P19 P20=>(xd [false,false,false,false,false,false,true,false,false,false] [P11,(I (IntKind.wrap .i64 ((IntKind.wrap .i64 ((x0__0.length:Int)-x1))-1))),P13,P14,P15,P16,P17,P18,P19,P20] [(I 0),(I (IntKind.wrap .i64 ((IntKind.wrap .i64 ((x0__0.length:Int)-x1))-1))),(I 0),(I 0),(I 0),(I 0),(Bo false),(I 0),(PV.v (.int .u32 0)),(PV.v (.int .u32 0))]).bind fun Z21=>cond Z21 (
  zh (ev 252 [(.pv (.agg [P11,(I (-1)),P13,P14,P15,P16,P17,P18,P19,P20]))] []) (fun A22 H23=>(zb A22).bind fun P24=>tK P24 0 fun P26=>tK P24 1 fun P28=>cond (decide (0<=x1)&&decide (x1<(X5.length:Int))) (cond (P26.isCell&&true) (cond (P26.isCell&&true) ((X5[(x1).toNat]?).bind fun P29=>cond (decide (1<=P29.cells.length)) ((setCells P29 0 [P26]).bind fun P30=>(zX P10).bind fun L31=>Za [(.agg [(I x2_0),(I x2_1),(I x2_2),(.sl 1 x2_3),(.sl 5 x2_4)])] P10 (L31.2.length:Int) 0 (X5.set (x1).toNat P30) x2_0 x2_1 x2_2 x2_3 x2_4 P11 (-1) P13 P14 P15 P16 P17 P18 P19 P20) none) none) none) none) (fun A22 H23=>some (.pan A22,[[(.slu 30 1 X5)]]))) (
  zh (ev 252 [(.pv (.agg [P11,(I (IntKind.wrap .i64 ((IntKind.wrap .i64 ((x0__0.length:Int)-x1))-1))),P13,P14,P15,P16,P17,P18,P19,P20]))] []) (fun A22 H23=>(zb A22).bind fun P24=>tK P24 0 fun P26=>tK P24 1 fun P28=>cond (decide (0<=x1)&&decide (x1<(X5.length:Int))) (cond (P26.isCell&&true) (cond (P26.isCell&&true) ((X5[(x1).toNat]?).bind fun P29=>cond (decide (1<=P29.cells.length)) ((setCells P29 0 [P26]).bind fun P30=>(zX P10).bind fun L31=>Za [(.agg [(I x2_0),(I x2_1),(I x2_2),(.sl 1 x2_3),(.sl 5 x2_4)])] P10 (L31.2.length:Int) 0 (X5.set (x1).toNat P30) x2_0 x2_1 x2_2 x2_3 x2_4 P11 (IntKind.wrap .i64 ((IntKind.wrap .i64 ((x0__0.length:Int)-x1))-1)) P13 P14 P15 P16 P17 P18 P19 P20) none) none) none) none) (fun A22 H23=>some (.pan A22,[[(.slu 30 1 X5)]]))))) none) none) (fun A1 H2=>(H2[0]?).bind fun C3=>(C3[0]?).bind fun E4=>(zO 30 1 E4).bind fun X5=>cond (decide (C3.length=1)) (cond (decide (H2.length=1)) (some (.pan A1,[[(.slu 30 1 X5)]])) none) none)) (
  cond (x2_1==7) (
   zh (ev 270 [(.ptr 0 0),(.pv (.agg [(I x2_0),(I x2_1),(I x2_2),(.sl 1 x2_3),(.sl 5 x2_4)]))] [[(.slu 30 1 x0__0)]]) (fun A1 H2=>(H2[0]?).bind fun C3=>(C3[0]?).bind fun E4=>(zO 30 1 E4).bind fun X5=>cond (decide (C3.length=1)) (cond (decide (H2.length=1)) ((zb A1).bind fun P6=>tK P6 0 fun P8=>tK P6 1 fun P10=>wv P8 (fun P11 P12 P13 P14 P15 P16 P17 P18 P19 P20=>(xd [false,false,false,false,false,false,true,false,false,false] [P11,(I (IntKind.wrap .i64 ((IntKind.wrap .i64 ((x0__0.length:Int)-x1))-1))),P13,P14,P15,P16,P17,P18,P19,P20] [(I 0),(I (IntKind.wrap .i64 ((IntKind.wrap .i64 ((x0__0.length:Int)-x1))-1))),(I 0),(I 0),(I 0),(I 0),(Bo false),(I 0),(PV.v (.int .u32 0)),(PV.v (.int .u32 0))]).bind fun Z21=>cond Z21 (
   zh (ev 252 [(.pv (.agg [P11,(I (-1)),P13,P14,P15,P16,P17,P18,P19,P20]))] []) (fun A22 H23=>(zb A22).bind fun P24=>tK P24 0 fun P26=>tK P24 1 fun P28=>cond (decide (0<=x1)&&decide (x1<(X5.length:Int))) (cond (P26.isCell&&true) (cond (P26.isCell&&true) ((X5[(x1).toNat]?).bind fun P29=>cond (decide (1<=P29.cells.length)) ((setCells P29 0 [P26]).bind fun P30=>(zX P10).bind fun L31=>Yv x2_4 P10 (L31.2.length:Int) 0 (X5.set (x1).toNat P30) x2_0 x2_1 x2_2 x2_3 x2_4 P11 (-1) P13 P14 P15 P16 P17 P18 P19 P20) none) none) none) none) (fun A22 H23=>some (.pan A22,[[(.slu 30 1 X5)]]))) (
   zh (ev 252 [(.pv (.agg [P11,(I (IntKind.wrap .i64 ((IntKind.wrap .i64 ((x0__0.length:Int)-x1))-1))),P13,P14,P15,P16,P17,P18,P19,P20]))] []) (fun A22 H23=>(zb A22).bind fun P24=>tK P24 0 fun P26=>tK P24 1 fun P28=>cond (decide (0<=x1)&&decide (x1<(X5.length:Int))) (cond (P26.isCell&&true) (cond (P26.isCell&&true) ((X5[(x1).toNat]?).bind fun P29=>cond (decide (1<=P29.cells.length)) ((setCells P29 0 [P26]).bind fun P30=>(zX P10).bind fun L31=>Yv x2_4 P10 (L31.2.length:Int) 0 (X5.set (x1).toNat P30) x2_0 x2_1 x2_2 x2_3 x2_4 P11 (IntKind.wrap .i64 ((IntKind.wrap .i64 ((x0__0.length:Int)-x1))-1)) P13 P14 P15 P16 P17 P18 P19 P20) none) none) none) none) (fun A22 H23=>some (.pan A22,[[(.slu 30 1 X5)]]))))) none) none) (fun A1 H2=>(H2[0]?).bind fun C3=>(C3[0]?).bind fun E4=>(zO 30 1 E4).bind fun X5=>cond (decide (C3.length=1)) (cond (decide (H2.length=1)) (some (.pan A1,[[(.slu 30 1 X5)]])) none) none)) (
   zh (ev 268 [(.ptr 0 0),(.pv (.agg [(I x2_0),(I x2_1),(I x2_2),(.sl 1 x2_3),(.sl 5 x2_4)]))] [[(.slu 30 1 x0__0)]]) (fun A1 H2=>(H2[0]?).bind fun C3=>(C3[0]?).bind fun E4=>(zO 30 1 E4).bind fun X5=>cond (decide (C3.length=1)) (cond (decide (H2.length=1)) ((zb A1).bind fun P6=>tK P6 0 fun P8=>tK P6 1 fun P10=>wv P8 (fun P11 P12 P13 P14 P15 P16 P17 P18 P19 P20=>(xd [false,false,false,false,false,false,true,false,false,false] [P11,(I (IntKind.wrap .i64 ((IntKind.wrap .i64 ((x0__0.length:Int)-x1))-1))),P13,P14,P15,P16,P17,P18,P19,P20] [(I 0),(I (IntKind.wrap .i64 ((IntKind.wrap .i64 ((x0__0.length:Int)-x1))-1))),(I 0),(I 0),(I 0),(I 0),(Bo false),(I 0),(PV.v (.int .u32 0)),(PV.v (.int .u32 0))]).bind fun Z21=>cond Z21 (
    zh (ev 252 [(.pv (.agg [P11,(I (-1)),P13,P14,P15,P16,P17,P18,P19,P20]))] []) (fun A22 H23=>(zb A22).bind fun P24=>tK P24 0 fun P26=>tK P24 1 fun P28=>cond (decide (0<=x1)&&decide (x1<(X5.length:Int))) (cond (P26.isCell&&true) (cond (P26.isCell&&true) ((X5[(x1).toNat]?).bind fun P29=>cond (decide (1<=P29.cells.length)) ((setCells P29 0 [P26]).bind fun P30=>(zX P10).bind fun L31=>Za [(.agg [(I x2_0),(I x2_1),(I x2_2),(.sl 1 x2_3),(.sl 5 x2_4)])] P10 (L31.2.length:Int) 0 (X5.set (x1).toNat P30) x2_0 x2_1 x2_2 x2_3 x2_4 P11 (-1) P13 P14 P15 P16 P17 P18 P19 P20) none) none) none) none) (fun A22 H23=>some (.pan A22,[[(.slu 30 1 X5)]]))) (
    zh (ev 252 [(.pv (.agg [P11,(I (IntKind.wrap .i64 ((IntKind.wrap .i64 ((x0__0.length:Int)-x1))-1))),P13,P14,P15,P16,P17,P18,P19,P20]))] []) (fun A22 H23=>(zb A22).bind fun P24=>tK P24 0 fun P26=>tK P24 1 fun P28=>cond (decide (0<=x1)&&decide (x1<(X5.length:Int))) (cond (P26.isCell&&true) (cond (P26.isCell&&true) ((X5[(x1).toNat]?).bind fun P29=>cond (decide (1<=P29.cells.length)) ((setCells P29 0 [P26]).bind fun P30=>(zX P10).bind fun L31=>Za [(.agg [(I x2_0),(I x2_1),(I x2_2),(.sl 1 x2_3),(.sl 5 x2_4)])] P10 (L31.2.length:Int) 0 (X5.set (x1).toNat P30) x2_0 x2_1 x2_2 x2_3 x2_4 P11 (IntKind.wrap .i64 ((IntKind.wrap .i64 ((x0__0.length:Int)-x1))-1)) P13 P14 P15 P16 P17 P18 P19 P20) none) none) none) none) (fun A22 H23=>some (.pan A22,[[(.slu 30 1 X5)]]))))) none) none) (fun A1 H2=>(H2[0]?).bind fun C3=>(C3[0]?).bind fun E4=>(zO 30 1 E4).bind fun X5=>cond (decide (C3.length=1)) (cond (decide (H2.length=1)) (some (.pan A1,[[(.slu 30 1 X5)]])) none) none)))):=zg (fn:=Tryz.f228) _ _
end Go.Proofs.YtjbjeeoifhegfaaGreatDoor.E
