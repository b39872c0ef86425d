/- This text is one of those that prove the law MessageCanonical of the given program, as its statement says it: true on every input that the statement covers. Its conditions are the statement's own. -/
import Derived.KernelRfl
import Derived.Test.YtjbjeeoifhegfaaGreatDoorZMessageCanonical1
import Derived.Test.YtjbjeeoifhegfaaGreatDoorZMessageCanonical2
import Derived.Test.YtjbjeeoifhegfaaGreatDoorZMessageCanonical3
set_option linter.unusedVariables false
set_option linter.unusedSimpArgs false
namespace Go.Proofs.YtjbjeeoifhegfaaGreatDoor.E
theorem zkS (x0:List PV) (x1:List PV) (x2_0:Int) (x2_1:Int) (x2_2:Int):ev 18 [(.pv (.sl 1 x0)),(.pv (.sl 1 x1)),(.pv (.agg [(I x2_0),(I x2_1),(I x2_2)]))] [] =
 zb (ev 55 [(.pv (.agg [(I x2_0),(I x2_1),(I x2_2)]))] []) (fun A1 H2=>(za A1).bind fun P3=>cond (decide (P3.cells.length=3)) ((P3.cells[0]?).bind fun P4=>(P3.cells[1]?).bind fun P5=>(P3.cells[2]?).bind fun P6=>cond (P4.isCell&&(P5.isCell&&(P6.isCell&&true))) (zb (ev 59 [(.pv (.sl 1 x0)),(.pv (.agg [P4,P5,P6]))] []) (fun A7 H8=>(za A7).bind fun P9=>(zi (.pv P9)).bind fun S10=>(S10[0]?).bind fun P11=>(zi (.pv P9)).bind fun S12=>(S12[1]?).bind fun P13=>(yS (.pv P13)).bind fun Z14=>cond (!Z14) (
 zb (ev 56 [(.pv P13)] []) (fun A15 H16=>(za A15).bind fun P17=>some (.ret (.pv (.tup [(Bo false),P17])),[])) (fun A15 H16=>some (.pan A15,[]))) (
 zb (ev 59 [(.pv (.sl 1 x1)),(.pv (.agg [P4,P5,P6]))] []) (fun A15 H16=>(za A15).bind fun P17=>(zi (.pv P17)).bind fun S18=>(S18[0]?).bind fun P19=>(zi (.pv P17)).bind fun S20=>(S20[1]?).bind fun P21=>(yS (.pv P21)).bind fun Z22=>cond (!Z22) (
  zb (ev 56 [(.pv P21)] []) (fun A23 H24=>(za A23).bind fun P25=>some (.ret (.pv (.tup [(Bo false),P25])),[])) (fun A23 H24=>some (.pan A23,[]))) (
  zb (ev 60 [(.pv P11),(.pv P19),(.pv (.agg [P4,P5,P6]))] []) (fun A23 H24=>(za A23).bind fun P25=>(zi (.pv P25)).bind fun S26=>(S26[0]?).bind fun P27=>(zi (.pv P25)).bind fun S28=>(S28[1]?).bind fun P29=>some (.ret (.pv (.tup [P27,P29])),[])) (fun A23 H24=>some (.pan A23,[])))) (fun A15 H16=>some (.pan A15,[])))) (fun A7 H8=>some (.pan A7,[]))) none) none) (fun A1 H2=>some (.pan A1,[])):=(zm (fn:=Tryz.f18) _ _).trans (by kernel_rfl)
theorem ziq (x0:List PV):ev 42 [(.pv (.sl 1 x0))] [] =
 zb (ev 84 [(.pv (U 14695981039346656037)),(.pv (.sl 1 x0))] []) (fun A1 H2=>(za A1).bind fun P3=>some (.ret (.pv P3),[])) (fun A1 H2=>some (.pan A1,[])):=(zm (fn:=Tryz.f42) _ _).trans (by kernel_rfl)
noncomputable def gk:Code:=Tryz.f43.body.getD .skip
noncomputable def W5 (xs0:List PV) (i1:Int) (xs2:List PV) (p3:PV) (i4:Int):Option (Out×zh) :=
 ya (zv env ev zN 81 43 0 (sub gk [1,1,1,1,1,1,1,0,1,0,0])) (zL env 43 0 0) (zP 0 (z8 (zR env ev 81 43 0 (sub gk [1,1,1,1,1,1,1,1])) (z7 env 43 Tryz.f43.results.toList 0))) ⟨zT [(0,(.pv (.sl 1 xs0))),(4,(.pv (I i1))),(5,(.slu 75 1 xs2)),(6,(.pv p3)),(7,(.pv (I i4)))],[]⟩
theorem zac (xs0:List PV) (i1:Int) (xs2:List PV) (p3:PV) (i4:Int):W5 xs0 i1 xs2 p3 i4 =
 cond (decide (i4<=i1)) (
 zb (ev 85 [(.pv (.sl 1 xs0)),(.pv (I i4))] []) (fun A1 H2=>(za A1).bind fun P3=>(zj .i64 (.pv P3)).bind fun N4=>cond (decide (N4≥536870912)) (
 some (.ret (.pv (.tup [(.sl 1 []),(I 1)])),[])) (
 (zj .i64 (.pv P3)).bind fun N5=>(zj .i64 (.pv p3)).bind fun N6=>cond (decide ((IntKind.wrap .i64 (N6+(IntKind.wrap .i64 (8*N5))))>(xs0.length:Int))) (
  some (.ret (.pv (.tup [(.sl 1 []),(I 1)])),[])) (
  (zj .i64 (.pv P3)).bind fun N7=>(zj .i64 (.pv p3)).bind fun N8=>(yp (.pv p3)).bind fun Q9=>cond ((decide (0<=Q9.2)&&decide (Q9.2<=(IntKind.wrap .i64 (N8+(IntKind.wrap .i64 (8*N7))))))&&decide ((IntKind.wrap .i64 (N8+(IntKind.wrap .i64 (8*N7))))<=(xs0.length:Int))) (zb (ev 87 [(.pv (.sl 1 ((xs0.take (IntKind.wrap .i64 (N8+(IntKind.wrap .i64 (8*N7)))).toNat).drop (Q9.2).toNat)))] []) (fun A10 H11=>(vS 0 2 A10).bind fun Q12=>(yb 30 1 Q12.1).bind fun X13=>(Q12.2[1]?).bind fun P14=>cond (yf (xs2.length+1) 24) ((zj .i64 (.pv P3)).bind fun N15=>(zj .i64 (.pv p3)).bind fun N16=>W5 xs0 i1 (xs2++[(.sl 1 X13)]) (I (IntKind.wrap .i64 (N16+(IntKind.wrap .i64 (8*N15))))) (IntKind.wrap .i64 (i4+1))) none) (fun A10 H11=>some (.pan A10,[]))) none))) (fun A1 H2=>some (.pan A1,[]))) (
 (zj .i64 (.pv p3)).bind fun N1=>cond (N1 != (xs0.length:Int)) (
  some (.ret (.pv (.tup [(.sl 1 []),(I 1)])),[])) (
  some (.ret (.pv (.tup [(.sl 1 xs2),(I 0)])),[]))):=(ye ..).trans (by kernel_rfl)
theorem zh0 (x0:List PV):ev 43 [(.pv (.sl 1 x0))] [] =
 cond (decide ((x0.length:Int)<4)) (
 some (.ret (.pv (.tup [(.sl 1 []),(I 1)])),[])) (
 zb (ev 85 [(.pv (.sl 1 x0)),(.pv (I 0))] []) (fun A1 H2=>(za A1).bind fun P3=>(zj .i64 (.pv P3)).bind fun N4=>cond (decide ((IntKind.wrap .i64 (N4+1))>512)) (
  some (.ret (.pv (.tup [(.sl 1 []),(I 1)])),[])) (
  zb (ev 86 [(.pv (I (IntKind.wrap .i64 (N4+1))))] []) (fun A5 H6=>(za A5).bind fun P7=>(zj .i64 (.pv P7)).bind fun N8=>cond (decide ((x0.length:Int)<N8)) (
   some (.ret (.pv (.tup [(.sl 1 []),(I 1)])),[])) (
   cond ((Int.tmod (IntKind.wrap .i64 (N4+1)) 2)==0) (
    zb (ev 85 [(.pv (.sl 1 x0)),(.pv (I (IntKind.wrap .i64 ((IntKind.wrap .i64 (N4+1))+1))))] []) (fun A9 H10=>(za A9).bind fun P11=>(zj .i64 (.pv P11)).bind fun N12=>cond (N12 != 0) (
    some (.ret (.pv (.tup [(.sl 1 []),(I 1)])),[])) (
    zb (ev 86 [(.pv (I (IntKind.wrap .i64 (N4+1))))] []) (fun A13 H14=>(za A13).bind fun P15=>W5 x0 (IntKind.wrap .i64 (N4+1)) [] P15 1) (fun A13 H14=>some (.pan A13,[])))) (fun A9 H10=>some (.pan A9,[]))) (
    zb (ev 86 [(.pv (I (IntKind.wrap .i64 (N4+1))))] []) (fun A9 H10=>(za A9).bind fun P11=>W5 x0 (IntKind.wrap .i64 (N4+1)) [] P11 1) (fun A9 H10=>some (.pan A9,[]))))) (fun A5 H6=>some (.pan A5,[])))) (fun A1 H2=>some (.pan A1,[]))):=(zm (fn:=Tryz.f43) _ _).trans (by kernel_rfl)
theorem zoi (x0:List PV) (x1:Int):ev 52 [(.pv (.sl 1 x0)),(.pv (I x1))] [] =
 zb (ev 101 [(.pv (.sl 1 x0)),(.pv (I x1))] []) (fun A1 H2=>(vS 0 2 A1).bind fun Q3=>(yb 5 1 Q3.1).bind fun X4=>(Q3.2[1]?).bind fun P5=>(zj .i64 (.pv P5)).bind fun N6=>cond (N6 != 0) (
 some (.ret (.tup 0 (.slu 5 1 []) [(.v .nilIface),P5]),[])) (
 some (.ret (.tup 0 (.slu 5 1 X4) [(.v .nilIface),(I 0)]),[]))) (fun A1 H2=>some (.pan A1,[])):=(zm (fn:=Tryz.f52) _ _).trans (by kernel_rfl)
theorem JX (x0:List PV) (x1_0:Int) (x1_1:Int) (x1_2:Int):ev 53 [(.pv (.sl 1 x0)),(.pv (.agg [(I x1_0),(I x1_1),(I x1_2)]))] [] =
 cond (decide (x1_0<=40)) (
 cond (decide (x1_1<=2000)) (
 zb (ev 102 [(.pv (.sl 1 x0))] []) (fun A1 H2=>(za A1).bind fun P3=>(zZ (.pv P3)).bind fun B4=>some (.ret (.pv (Bo B4)),[])) (fun A1 H2=>some (.pan A1,[]))) (
 some (.ret (.pv (Bo false)),[]))) (
 some (.ret (.pv (Bo false)),[])):=(zm (fn:=Tryz.f53) _ _).trans (by kernel_rfl)
theorem zkW (x0:List PV) (x1_0:Int) (x1_1:Int) (x1_2:Int):ev 54 [(.pv (.sl 1 x0)),(.pv (.agg [(I x1_0),(I x1_1),(I x1_2)]))] [] =
 zb (ev 57 [(.pv (.sl 1 x0))] []) (fun A1 H2=>(za A1).bind fun P3=>(zi (.pv P3)).bind fun S4=>(S4[0]?).bind fun P5=>(zi (.pv P3)).bind fun S6=>(S6[1]?).bind fun P7=>(yS (.pv P7)).bind fun Z8=>cond (!Z8) (
 some (.ret (.tup 0 (.slu 5 1 []) [(.v .nilIface),P7]),[])) (
 zb (ev 103 [(.pv P5),(.pv (.agg [(I x1_0),(I x1_1),(I x1_2)]))] []) (fun A9 H10=>(za A9).bind fun P11=>(zi (.pv P11)).bind fun S12=>(S12[0]?).bind fun P13=>(zi (.pv P11)).bind fun S14=>(S14[1]?).bind fun P15=>(zj .i64 (.pv P15)).bind fun N16=>cond (N16 != 0) (
  zb (ev 104 [(.pv P15)] []) (fun A17 H18=>(za A17).bind fun P19=>some (.ret (.tup 0 (.slu 5 1 []) [(.v .nilIface),P19]),[])) (fun A17 H18=>some (.pan A17,[]))) (
  zb (ev 105 [(.pv P13)] []) (fun A17 H18=>(vS 0 2 A17).bind fun Q19=>(yb 5 1 Q19.1).bind fun X20=>(Q19.2[1]?).bind fun P21=>zb (ev 104 [(.pv P21)] []) (fun A22 H23=>(za A22).bind fun P24=>some (.ret (.tup 0 (.slu 5 1 X20) [(.v .nilIface),P24]),[])) (fun A22 H23=>some (.pan A22,[]))) (fun A17 H18=>some (.pan A17,[])))) (fun A9 H10=>some (.pan A9,[])))) (fun A1 H2=>some (.pan A1,[])):=(zm (fn:=Tryz.f54) _ _).trans (by kernel_rfl)
noncomputable def gT:Code:=Tryz.f64.body.getD .skip
noncomputable def K6 (xs0:List PV) (xs1:List PV) (i2:Int) (i3:Int):Option (Out×zh) :=
 ya (zv env ev zN 34 64 0 (sub gT [1,1,1,0,1,0,0])) (zL env 64 0 0) (zP 0 (z8 (zR env ev 34 64 0 (sub gT [1,1,1,1])) (z7 env 64 Tryz.f64.results.toList 0))) ⟨zT [(0,(.pv (.sl 1 xs0))),(4,(.slu 30 1 xs1)),(18,(.pv (I i2))),(19,(.pv (I i3)))],[]⟩
theorem zev (xs0:List PV) (xs1:List PV) (i2:Int) (i3:Int):K6 xs0 xs1 i2 i3 =
 cond (decide (i3<i2)) (
 zb (ev 116 [(.pv (.sl 1 xs0)),(.pv (I i3))] []) (fun A1 H2=>(za A1).bind fun P3=>(zi (.pv P3)).bind fun S4=>(S4[0]?).bind fun P5=>(zi (.pv P3)).bind fun S6=>(S6[1]?).bind fun P7=>cond ((decide (P5.cells.length=1)&&P5.cells.all PV.isCell)&&true) (cond (yf (xs1.length+1) 8) (K6 xs0 (xs1++[P5]) i2 (IntKind.wrap .i64 (i3+1))) none) none) (fun A1 H2=>some (.pan A1,[]))) (
 some (.ret (.pv (.tup [(.sl 1 xs1),(Bo true)])),[])):=(ye ..).trans (by kernel_rfl)
theorem zoR (x0:List PV):ev 64 [(.pv (.sl 1 x0))] [] =
 cond ((Int.tmod (x0.length:Int) 8) != 0) (
 some (.ret (.pv (.tup [(.sl 1 []),(Bo false)])),[])) (
 cond ((decide (0<=(IntKind.wrap .i64 (Int.tdiv (x0.length:Int) 8)))&&decide ((IntKind.wrap .i64 (Int.tdiv (x0.length:Int) 8))<=140737488355328))&&yf (IntKind.wrap .i64 (Int.tdiv (x0.length:Int) 8)).toNat 8) (K6 x0 [] (IntKind.wrap .i64 (Int.tdiv (x0.length:Int) 8)) 0) none):=(zm (fn:=Tryz.f64) _ _).trans (by kernel_rfl)
noncomputable def YZ:Code:=Tryz.f84.body.getD .skip
noncomputable def XN (i0:Int) (xs1:List PV) (i2:Int):Option (Out×zh) :=
 ya (zv env ev zN 56 84 0 (sub YZ [1,0,1,0,0])) (zL env 84 0 0) (zP 0 (z8 (zR env ev 56 84 0 (sub YZ [1,1])) (z7 env 84 Tryz.f84.results.toList 0))) ⟨zT [(0,(.pv (U i0))),(1,(.pv (.sl 1 xs1))),(5,(.pv (I i2)))],[]⟩
noncomputable def Vc (i0:Int) (xs1:List PV) (i2:Int) (i3:Int) (i4:Int) (i5:Int) (i6:Int):Option (Out×zh) :=
 ya (zv env ev zN 56 84 2 (sub YZ [1,0,1,0,0,1,0,0,1,1,1,0,1,0,0])) (zL env 84 2 0) (zP 2 (z8 (zR env ev 56 84 1 (sub YZ [1,0,1,0,0,1,0,0,1,1,1,1])) (zP 1 (z8 (zR env ev 56 84 0 (sub YZ [1,0,1,0,0,1,1])) (Z9 (zv env ev zN 56 84 0 (sub YZ [1,0,1,0,0])) (zL env 84 0 0) (zP 0 (z8 (zR env ev 56 84 0 (sub YZ [1,1])) (z7 env 84 Tryz.f84.results.toList 0)))))))) ⟨zT [(0,(.pv (U i0))),(1,(.pv (.sl 1 xs1))),(5,(.pv (I i2))),(6,(.pv (U i3))),(7,(.pv (U i4))),(8,(.pv (U i5))),(9,(.pv (I i6)))],[]⟩
theorem zao (i0:Int) (xs1:List PV) (i2:Int):XN i0 xs1 i2 =
 cond (decide (i2<(xs1.length:Int))) (
 cond (decide (0<=i2)&&decide (i2<(xs1.length:Int))) ((xs1[(i2).toNat]?).bind fun P1=>(P1.cells[0]?).bind fun P2=>(yp (.pv P2)).bind fun Q3=>Vc i0 xs1 i2 (Int.tmod i0 256) 0 (IntKind.wrap .u64 Q3.2) 0) none) (
 some (.ret (.pv (U i0)),[])):=(ye ..).trans (by kernel_rfl)
theorem zap (i0:Int) (xs1:List PV) (i2:Int) (i3:Int) (i4:Int) (i5:Int) (i6:Int):Vc i0 xs1 i2 i3 i4 i5 i6 =
 cond (decide (i6<8)) (
 zb (ev 142 [(.pv (I i6))] []) (fun A1 H2=>(za A1).bind fun P3=>(zj .u64 (.pv P3)).bind fun N4=>cond (yP .quo N4) (zb (ev 142 [(.pv (I i6))] []) (fun A5 H6=>(za A5).bind fun P7=>(zj .u64 (.pv P7)).bind fun N8=>cond (yP .quo N8) (cond ((Int.tmod (IntKind.wrap .u64 (Int.tdiv i3 N4)) 2) != (Int.tmod (IntKind.wrap .u64 (Int.tdiv i5 N8)) 2)) (
 zb (ev 142 [(.pv (I i6))] []) (fun A9 H10=>(za A9).bind fun P11=>(zj .u64 (.pv P11)).bind fun N12=>Vc i0 xs1 i2 i3 (IntKind.wrap .u64 (i4+N12)) i5 (IntKind.wrap .i64 (i6+1))) (fun A9 H10=>some (.pan A9,[]))) (
 Vc i0 xs1 i2 i3 i4 i5 (IntKind.wrap .i64 (i6+1)))) none) (fun A5 H6=>some (.pan A5,[]))) none) (fun A1 H2=>none)) (
 XN (IntKind.wrap .u64 ((IntKind.wrap .u64 ((IntKind.wrap .u64 ((IntKind.wrap .u64 ((IntKind.wrap .u64 (i0-i3))+i4))*1099511627776))+(IntKind.wrap .u64 ((IntKind.wrap .u64 ((IntKind.wrap .u64 (i0-i3))+i4))*256))))+(IntKind.wrap .u64 ((IntKind.wrap .u64 ((IntKind.wrap .u64 (i0-i3))+i4))*179)))) xs1 (IntKind.wrap .i64 (i2+1))):=(ye ..).trans (by kernel_rfl)
theorem zio (x0:Int) (x1:List PV):ev 84 [(.pv (U x0)),(.pv (.sl 1 x1))] [] =
 XN x0 x1 0:=(zm (fn:=Tryz.f84) _ _).trans (by kernel_rfl)
theorem zkY (x0:Int):ev 104 [(.pv (I x0))] [] =
 cond (x0==0) (
 some (.ret (.pv (.v .nilIface)),[])) (
 some (.ret (.pv (.ifc 152 (.agg [(I x0)]))),[])):=(zm (fn:=Tryz.f104) _ _).trans (by kernel_rfl)
noncomputable def V5:Code:=Tryz.f105.body.getD .skip
noncomputable def qr (xs0:List PV) (xs1:List PV) (xs2:List PV) (i3:Int) (i4:Int):Option (Out×zh) :=
 ya (zv env ev zN 55 105 0 (sub V5 [1,1,1,0,1,0,0])) (zL env 105 0 0) (zP 0 (z8 (zR env ev 55 105 0 (sub V5 [1,1,1,1])) (z7 env 105 Tryz.f105.results.toList 0))) ⟨zT [(0,(.pv (.sl 1 xs0))),(4,(.slu 5 1 xs1)),(21,(.pv (.sl 1 xs2))),(22,(.pv (I i3))),(23,(.pv (I i4)))],[]⟩
noncomputable def qu (xs0:List PV) (xs1:List PV) (i2:Int) (i3:Int):Option (Out×zh) :=
 ya (zv env ev zN 55 105 2 (sub V5 [1,1,1,1,1,0,1,0,0])) (zL env 105 2 0) (zP 2 (z8 (zR env ev 55 105 0 (sub V5 [1,1,1,1,1,1])) (z7 env 105 Tryz.f105.results.toList 0))) ⟨zT [(4,(.slu 5 1 xs0)),(43,(.pv (.sl 1 xs1))),(44,(.pv (I i2))),(45,(.pv (I i3)))],[]⟩
theorem zby (xs0:List PV) (xs1:List PV) (xs2:List PV) (i3:Int) (i4:Int):qr xs0 xs1 xs2 i3 i4 =
 cond (decide (i4<i3)) (
 cond (decide (0<=i4)&&decide (i4<(xs2.length:Int))) ((xs2[(i4).toNat]?).bind fun P1=>(P1.cells[0]?).bind fun P2=>(z4 P2).bind fun L3=>cond (decide ((L3.2.length:Int)≥536870912)) (
 some (.ret (.tup 0 (.slu 5 1 []) [(.v .nilIface),(I 1)]),[])) (
 (z4 P2).bind fun L4=>zb (ev 166 [(.slu 5 1 xs1),(.pv (I (L4.2.length:Int)))] []) (fun A5 H6=>cond (decide (H6.length=0)) ((yb 5 1 A5).bind fun X7=>qr xs0 X7 xs2 i3 (IntKind.wrap .i64 (i4+1))) none) (fun A5 H6=>cond (decide (H6.length=0)) (some (.pan A5,[])) none))) none) (
 zb (ev 167 [(.pv (I (xs0.length:Int)))] []) (fun A1 H2=>(za A1).bind fun P3=>(zj .i64 (.pv P3)).bind fun N4=>cond (decide (0<=(IntKind.wrap .i64 (N4-(xs1.length:Int))))&&decide ((IntKind.wrap .i64 (N4-(xs1.length:Int)))<=140737488355328)) (cond (yf (xs1.length+(List.replicate (IntKind.wrap .i64 (N4-(xs1.length:Int))).toNat (U8 0)).length) 1) (qu (xs1++(List.replicate (IntKind.wrap .i64 (N4-(xs1.length:Int))).toNat (U8 0))) xs0 (xs0.length:Int) 0) none) none) (fun A1 H2=>some (.pan A1,[]))):=(ye ..).trans (by kernel_rfl)
theorem zbz (xs0:List PV) (xs1:List PV) (i2:Int) (i3:Int):qu xs0 xs1 i2 i3 =
 cond (decide (i3<i2)) (
 cond (decide (0<=i3)&&decide (i3<(xs1.length:Int))) ((xs1[(i3).toNat]?).bind fun P1=>(P1.cells[0]?).bind fun P2=>zb (ev 117 [(.pv P2)] []) (fun A3 H4=>(za A3).bind fun P5=>(z4 P5).bind fun L6=>cond (decide (L6.1=1)) (cond (yf (xs0.length+L6.2.length) 1) (qu (xs0++L6.2) xs1 i2 (IntKind.wrap .i64 (i3+1))) none) none) (fun A3 H4=>some (.pan A3,[]))) none) (
 some (.ret (.tup 0 (.slu 5 1 xs0) [(.v .nilIface),(I 0)]),[])):=(ye ..).trans (by kernel_rfl)
theorem zj0 (x0:List PV):ev 105 [(.pv (.sl 1 x0))] [] =
 cond (decide ((x0.length:Int)<1)) (
 some (.ret (.tup 0 (.slu 5 1 []) [(.v .nilIface),(I 1)]),[])) (
 cond (decide ((x0.length:Int)>512)) (
  some (.ret (.tup 0 (.slu 5 1 []) [(.v .nilIface),(I 1)]),[])) (
  zb (ev 166 [(.slu 5 1 []),(.pv (I (IntKind.wrap .i64 ((x0.length:Int)-1))))] []) (fun A1 H2=>cond (decide (H2.length=0)) ((yb 5 1 A1).bind fun X3=>qr x0 X3 x0 (x0.length:Int) 0) none) (fun A1 H2=>cond (decide (H2.length=0)) (some (.pan A1,[])) none))):=(zm (fn:=Tryz.f105) _ _).trans (by kernel_rfl)
noncomputable def gI:Code:=Tryz.f113.body.getD .skip
noncomputable def Wm (xs0:List PV) (xs1:List PV):Option (Out×zh) :=
 ya (zv env ev zN 52 113 0 (sub gI [1,0,1,1,0,0,0])) (zL env 113 0 0) (zP 0 (z8 (zR env ev 52 113 0 (sub gI [1,0,1,1,1])) (z7 env 113 Tryz.f113.results.toList 0))) ⟨zT [(0,(.pv (.sl 1 xs0))),(3,(.slu 5 1 xs1))],[]⟩
theorem qT (xs0:List PV) (xs1:List PV):Wm xs0 xs1 =
 cond (decide ((xs0.length:Int)>0)) (
 cond (decide (0<(xs0.length:Int))) ((xs0[0]?).bind fun P1=>(P1.cells[0]?).bind fun P2=>zb (ev 115 [(.pv P2)] []) (fun A3 H4=>(za A3).bind fun P5=>cond ((decide (P5.cells.length=1)&&P5.cells.all PV.isCell)&&true) (cond (yf (xs1.length+1) 1) (cond (decide (0<(xs0.length:Int))) ((xs0[0]?).bind fun P6=>(P6.cells[0]?).bind fun P7=>zb (ev 185 [(.pv P7)] []) (fun A8 H9=>(za A8).bind fun P10=>(z4 P10).bind fun L11=>cond (decide (L11.1=1)) (cond (yf ((xs1++[P5]).length+L11.2.length) 1) (cond (decide (1<=(xs0.length:Int))&&decide ((xs0.length:Int)<=(xs0.length:Int))) ((zj .u8 (.pv P5)).bind fun N12=>cond (N12==0) (
 zb (ev 186 [(.pv (.sl 1 ((xs0.take (xs0.length:Int).toNat).drop 1))),(.pv (.v (.func (.func 187) #[] #[])))] []) (fun A13 H14=>(za A13).bind fun P15=>(yp (.pv P15)).bind fun Q16=>cond (yf (((xs1++[P5])++L11.2).length+1) 1) ((yp (.pv P15)).bind fun Q17=>cond ((decide (0<=Q17.2)&&decide (Q17.2<=(((xs0.take (xs0.length:Int).toNat).drop 1).length:Int)))&&decide ((((xs0.take (xs0.length:Int).toNat).drop 1).length:Int)<=(((xs0.take (xs0.length:Int).toNat).drop 1).length:Int))) (Wm ((((xs0.take (xs0.length:Int).toNat).drop 1).take (((xs0.take (xs0.length:Int).toNat).drop 1).length:Int).toNat).drop (Q17.2).toNat) (((xs1++[P5])++L11.2)++[(U8 (IntKind.wrap .u8 Q16.2))])) none) none) (fun A13 H14=>some (.pan A13,[]))) (
 (zj .u8 (.pv P5)).bind fun N13=>cond (N13==255) (
  zb (ev 186 [(.pv (.sl 1 ((xs0.take (xs0.length:Int).toNat).drop 1))),(.pv (.v (.func (.func 114) #[] #[])))] []) (fun A14 H15=>(za A14).bind fun P16=>(yp (.pv P16)).bind fun Q17=>cond (yf (((xs1++[P5])++L11.2).length+1) 1) ((yp (.pv P16)).bind fun Q18=>cond (decide (0<=Q18.2)&&decide (Q18.2<=(((xs0.take (xs0.length:Int).toNat).drop 1).length:Int))) (zb (ev 117 [(.pv (.sl 1 ((((xs0.take (xs0.length:Int).toNat).drop 1).take (Q18.2).toNat).drop 0)))] []) (fun A19 H20=>(za A19).bind fun P21=>(z4 P21).bind fun L22=>cond (decide (L22.1=1)) (cond (yf ((((xs1++[P5])++L11.2)++[(U8 (IntKind.wrap .u8 Q17.2))]).length+L22.2.length) 1) ((yp (.pv P16)).bind fun Q23=>cond ((decide (0<=Q23.2)&&decide (Q23.2<=(((xs0.take (xs0.length:Int).toNat).drop 1).length:Int)))&&decide ((((xs0.take (xs0.length:Int).toNat).drop 1).length:Int)<=(((xs0.take (xs0.length:Int).toNat).drop 1).length:Int))) (Wm ((((xs0.take (xs0.length:Int).toNat).drop 1).take (((xs0.take (xs0.length:Int).toNat).drop 1).length:Int).toNat).drop (Q23.2).toNat) ((((xs1++[P5])++L11.2)++[(U8 (IntKind.wrap .u8 Q17.2))])++L22.2)) none) none) none) (fun A19 H20=>some (.pan A19,[]))) none) none) (fun A14 H15=>some (.pan A14,[]))) (
  Wm ((xs0.take (xs0.length:Int).toNat).drop 1) ((xs1++[P5])++L11.2)))) none) none) none) (fun A8 H9=>some (.pan A8,[]))) none) none) none) (fun A3 H4=>some (.pan A3,[]))) none) (
 some (.ret (.pv (.sl 1 xs1)),[])):=(ye ..).trans (by kernel_rfl)
theorem zlG (x0:List PV):ev 113 [(.pv (.sl 1 x0))] [] =
 Wm x0 []:=(zm (fn:=Tryz.f113) _ _).trans (by kernel_rfl)
noncomputable def Yj:Code:=Tryz.f124.body.getD .skip
noncomputable def Ys (i0:Int) (i1:Int) (xs2:List PV) (xs3:List PV) (i4:Int):Option (Out×zh) :=
 ya (zv env ev zN 54 124 0 (sub Yj [1,1,0,1,0,0])) (zL env 124 0 0) (zP 0 (z8 (zR env ev 54 124 0 (sub Yj [1,1,1])) (z7 env 124 Tryz.f124.results.toList 0))) ⟨zT [(0,(.pv (I i0))),(1,(.pv (I i1))),(2,(.pv (.sl 1 xs2))),(7,(.slu 5 1 xs3)),(8,(.pv (I i4)))],[]⟩
noncomputable def QG (i0:Int) (i1:Int) (xs2:List PV) (xs3:List PV) (i4:Int) (p5:PV) (i6:Int) (i7:Int) (i8:Int):Option (Out×zh) :=
 ya (zv env ev zN 54 124 2 (sub Yj [1,1,0,1,0,0,1,0,0,1,0,1,0,1,1,0,1,0,0])) (zL env 124 2 0) (zP 2 (z8 (zR env ev 54 124 1 (sub Yj [1,1,0,1,0,0,1,0,0,1,0,1,0,1,1,1])) (z8 (zR env ev 54 124 1 (sub Yj [1,1,0,1,0,0,1,0,0,1,1])) (zP 1 (z8 (zR env ev 54 124 0 (sub Yj [1,1,0,1,0,0,1,1])) (Z9 (zv env ev zN 54 124 0 (sub Yj [1,1,0,1,0,0])) (zL env 124 0 0) (zP 0 (z8 (zR env ev 54 124 0 (sub Yj [1,1,1])) (z7 env 124 Tryz.f124.results.toList 0))))))))) ⟨zT [(0,(.pv (I i0))),(1,(.pv (I i1))),(2,(.pv (.sl 1 xs2))),(7,(.slu 5 1 xs3)),(8,(.pv (I i4))),(9,(.pv p5)),(10,(.pv (I i6))),(11,(.pv (I i7))),(12,(.pv (I i8)))],[]⟩
theorem JW (i0:Int) (i1:Int) (xs2:List PV) (xs3:List PV) (i4:Int):Ys i0 i1 xs2 xs3 i4 =
 zb (ev 123 [(.pv (I i0)),(.pv (I i1))] []) (fun A1 H2=>(za A1).bind fun P3=>(zj .i64 (.pv P3)).bind fun N4=>cond (decide (i4<N4)) (
 cond (decide (0<=i4)&&decide (i4<(xs2.length:Int))) ((xs2[(i4).toNat]?).bind fun P5=>(P5.cells[0]?).bind fun P6=>cond (i0==1) (
 cond (decide ((IntKind.wrap .i64 ((IntKind.wrap .i64 (8*i4))+8))>i1)) (
 QG i0 i1 xs2 xs3 i4 P6 (IntKind.wrap .i64 (i1-(IntKind.wrap .i64 (8*i4)))) 1 0) (
 cond ((decide (P6.cells.length=1)&&P6.cells.all PV.isCell)&&true) (cond (yf (xs3.length+1) 1) (Ys i0 i1 xs2 (xs3++[P6]) (IntKind.wrap .i64 (i4+1))) none) none)) (
 cond ((decide (P6.cells.length=1)&&P6.cells.all PV.isCell)&&true) (cond (yf (xs3.length+1) 1) (Ys i0 i1 xs2 (xs3++[P6]) (IntKind.wrap .i64 (i4+1))) none) none)) none) (
 some (.ret (.pv (.sl 1 xs3)),[]))) (fun A1 H2=>some (.pan A1,[])):=(ye ..).trans (by kernel_rfl)
theorem zaf (i0:Int) (i1:Int) (xs2:List PV) (xs3:List PV) (i4:Int) (p5:PV) (i6:Int) (i7:Int) (i8:Int):QG i0 i1 xs2 xs3 i4 p5 i6 i7 i8 =
 cond (decide (i8<i6)) (
 QG i0 i1 xs2 xs3 i4 p5 i6 (IntKind.wrap .i64 (i7*2)) (IntKind.wrap .i64 (i8+1))) (
 (yp (.pv p5)).bind fun Q1=>cond (yP .rem i7) (cond (yf (xs3.length+1) 1) (Ys i0 i1 xs2 (xs3++[(U8 (IntKind.wrap .u8 (Int.tmod (IntKind.wrap .i64 Q1.2) i7)))]) (IntKind.wrap .i64 (i4+1))) none) none):=(ye ..).trans (by kernel_rfl)
theorem zh8 (x0:Int) (x1:Int) (x2:List PV):ev 124 [(.pv (I x0)),(.pv (I x1)),(.pv (.sl 1 x2))] [] =
 Ys x0 x1 x2 [] 0:=(zm (fn:=Tryz.f124) _ _).trans (by kernel_rfl)
theorem zia (x0:List PV) (x1:Int) (x2:Int):ev 136 [(.pv (.sl 1 x0)),(.pv (I x1)),(.pv (I x2))] [] =
 zb (ev 197 [(.pv (.sl 1 x0)),(.pv (I x1)),(.pv (I x2))] []) (fun A1 H2=>(za A1).bind fun P3=>(zi (.pv P3)).bind fun S4=>(S4[0]?).bind fun P5=>(zi (.pv P3)).bind fun S6=>(S6[1]?).bind fun P7=>(zZ (.pv P7)).bind fun B8=>cond (!B8) (
 some (.ret (.pv (.tup [(U 0),(I 0),(I 0),(I 2)])),[])) (
 zb (ev 198 [(.pv P5)] []) (fun A9 H10=>(za A9).bind fun P11=>(zZ (.pv P11)).bind fun B12=>cond (!B12) (
  some (.ret (.pv (.tup [P5,(I x1),(I (IntKind.wrap .i64 (x2+1))),(I 0)])),[])) (
  zb (ev 199 [(.pv P5)] []) (fun A13 H14=>(za A13).bind fun P15=>(zi (.pv P15)).bind fun S16=>(S16[0]?).bind fun P17=>(zi (.pv P15)).bind fun S18=>(S18[1]?).bind fun P19=>zb (ev 197 [(.pv (.sl 1 x0)),(.pv P17),(.pv P19)] []) (fun A20 H21=>(za A20).bind fun P22=>(zi (.pv P22)).bind fun S23=>(S23[0]?).bind fun P24=>(zi (.pv P22)).bind fun S25=>(S25[1]?).bind fun P26=>(zZ (.pv P26)).bind fun B27=>cond (!B27) (
   some (.ret (.pv (.tup [(U 0),(I 0),(I 0),(I 2)])),[])) (
   (zj .u64 (.pv P5)).bind fun N28=>cond ((Int.tmod (IntKind.wrap .u64 (Int.tdiv N28 4)) 2)==0) (
    zb (ev 198 [(.pv P24)] []) (fun A29 H30=>(za A29).bind fun P31=>(zZ (.pv P31)).bind fun B32=>cond B32 (
    some (.ret (.pv (.tup [(U 0),(I 0),(I 0),(I 3)])),[])) (
    (zj .i64 (.pv P19)).bind fun N33=>some (.ret (.pv (.tup [P24,P17,(I (IntKind.wrap .i64 (N33+1))),(I 0)])),[]))) (fun A29 H30=>some (.pan A29,[]))) (
    (zj .i64 (.pv P19)).bind fun N29=>zb (ev 197 [(.pv (.sl 1 x0)),(.pv P17),(.pv (I (IntKind.wrap .i64 (N29+1))))] []) (fun A30 H31=>(za A30).bind fun P32=>(zi (.pv P32)).bind fun S33=>(S33[0]?).bind fun P34=>(zi (.pv P32)).bind fun S35=>(S35[1]?).bind fun P36=>(zZ (.pv P36)).bind fun B37=>cond (!B37) (
     some (.ret (.pv (.tup [(U 0),(I 0),(I 0),(I 2)])),[])) (
     zb (ev 195 [(.pv P34)] []) (fun A38 H39=>(za A38).bind fun P40=>cond (decide (P40.cells.length=10)) ((P40.cells[0]?).bind fun P41=>(P40.cells[1]?).bind fun P42=>(P40.cells[2]?).bind fun P43=>(P40.cells[3]?).bind fun P44=>(P40.cells[4]?).bind fun P45=>(P40.cells[5]?).bind fun P46=>(P40.cells[6]?).bind fun P47=>(P40.cells[7]?).bind fun P48=>(P40.cells[8]?).bind fun P49=>(P40.cells[9]?).bind fun P50=>cond (P41.isCell&&(P42.isCell&&(P43.isCell&&(P44.isCell&&(P45.isCell&&(P46.isCell&&(P47.isCell&&(P48.isCell&&(P49.isCell&&(P50.isCell&&true)))))))))) (zb (ev 198 [(.pv P24)] []) (fun A51 H52=>(za A51).bind fun P53=>(zZ (.pv P53)).bind fun B54=>cond (!B54) (
      some (.ret (.pv (.tup [(U 0),(I 0),(I 0),(I 3)])),[])) (
      (zj .u64 (.pv P24)).bind fun N55=>cond ((Int.tmod (IntKind.wrap .u64 (Int.tdiv N55 4)) 2)==1) (
       some (.ret (.pv (.tup [(U 0),(I 0),(I 0),(I 3)])),[])) (
       (zj .i64 (.pv P41)).bind fun N56=>cond (decide (N56>1)) (
        some (.ret (.pv (.tup [(U 0),(I 0),(I 0),(I 3)])),[])) (
        (zj .i64 (.pv P42)).bind fun N57=>cond (N57 != 0) (
         some (.ret (.pv (.tup [(U 0),(I 0),(I 0),(I 3)])),[])) (
         zb (ev 199 [(.pv P24)] []) (fun A58 H59=>(za A58).bind fun P60=>(zi (.pv P60)).bind fun S61=>(S61[0]?).bind fun P62=>(zi (.pv P60)).bind fun S63=>(S63[1]?).bind fun P64=>some (.ret (.pv (.tup [P34,P62,P64,(I 0)])),[])) (fun A58 H59=>some (.pan A58,[]))))))) (fun A51 H52=>some (.pan A51,[]))) none) none) (fun A38 H39=>some (.pan A38,[])))) (fun A30 H31=>some (.pan A30,[]))))) (fun A20 H21=>some (.pan A20,[]))) (fun A13 H14=>some (.pan A13,[])))) (fun A9 H10=>some (.pan A9,[])))) (fun A1 H2=>some (.pan A1,[])):=(zm (fn:=Tryz.f136) _ _).trans (by kernel_rfl)
noncomputable def gg:Code:=Tryz.f142.body.getD .skip
noncomputable def QB (i0:Int) (i1:Int) (i2:Int):Option (Out×zh) :=
 ya (zv env ev zN 13 142 0 (sub gg [1,1,0,1,0,0])) (zL env 142 0 0) (zP 0 (z8 (zR env ev 13 142 0 (sub gg [1,1,1])) (z7 env 142 Tryz.f142.results.toList 0))) ⟨zT [(0,(.pv (I i0))),(3,(.pv (U i1))),(4,(.pv (I i2)))],[]⟩
theorem zaa (i0:Int) (i1:Int) (i2:Int):QB i0 i1 i2 =
 cond (decide (i2<i0)) (
 QB i0 (IntKind.wrap .u64 (i1*2)) (IntKind.wrap .i64 (i2+1))) (
 some (.ret (.pv (U i1)),[])):=(ye ..).trans (by kernel_rfl)
theorem zhV (x0:Int):ev 142 [(.pv (I x0))] [] =
 QB x0 1 0:=(zm (fn:=Tryz.f142) _ _).trans (by kernel_rfl)
noncomputable def gM:Code:=Tryz.f153.body.getD .skip
noncomputable def VW (xs0:List PV) (i1:Int) (i2:Int) (i3:Int) (i4:Int) (i5:Int) (xs6:List PV) (xs7:List PV) (i8:Int) (i9:Int) (i10:Int) (xs11:List PV) (xs12:List PV) (i13:Int) (i14:Int) (i15:Int) (xs16:List PV) (xs17:List PV):Option (Out×zh) :=
 ya (zv env ev zN 51 153 0 (sub gM [1,1,1,1,1,0,1,0,0])) (zL env 153 0 3) (zP 0 (z8 (zR env ev 51 153 0 (sub gM [1,1,1,1,1,1])) (z7 env 153 Tryz.f153.results.toList 0))) ⟨zT [(2,(.ptr 1 0)),(3,(.ptr 2 0)),(36,(.pv (.sl 5 xs0))),(37,(.pv (I i1))),(38,(.pv (I i2)))],[[(.pv (I i3)),(.pv (I i4)),(.pv (I i5)),(.pv (.sl 1 xs6)),(.pv (.sl 5 xs7))],[(.pv (I i8)),(.pv (I i9)),(.pv (I i10)),(.slu 5 1 xs11),(.slu 53 5 xs12)],[(.pv (I i13)),(.pv (I i14)),(.pv (I i15)),(.slu 5 1 xs16),(.slu 53 5 xs17)]]⟩
theorem zea (xs0:List PV) (i1:Int) (i2:Int) (i3:Int) (i4:Int) (i5:Int) (xs6:List PV) (xs7:List PV) (i8:Int) (i9:Int) (i10:Int) (xs11:List PV) (xs12:List PV) (i13:Int) (i14:Int) (i15:Int) (xs16:List PV) (xs17:List PV):VW xs0 i1 i2 i3 i4 i5 xs6 xs7 i8 i9 i10 xs11 xs12 i13 i14 i15 xs16 xs17 =
 cond (decide (i2<i1)) (
 cond (decide (0<=i2)&&decide (i2<(xs0.length:Int))) ((xs0[(i2).toNat]?).bind fun P1=>cond (decide (5<=P1.cells.length)) (cond (decide (((P1.cells.drop 0).take 5).length=5)) ((((P1.cells.drop 0).take 5)[0]?).bind fun P2=>(((P1.cells.drop 0).take 5)[1]?).bind fun P3=>(((P1.cells.drop 0).take 5)[2]?).bind fun P4=>(((P1.cells.drop 0).take 5)[3]?).bind fun P5=>(((P1.cells.drop 0).take 5)[4]?).bind fun P6=>cond (P2.isCell&&(P3.isCell&&(P4.isCell&&(P5.isCell&&(P6.isCell&&true))))) (zb (ev 153 [(.pv (.agg [P2,P3,P4,P5,P6]))] []) (fun A7 H8=>(za A7).bind fun P9=>cond ((decide (P9.cells.length=5)&&P9.cells.all PV.isCell)&&true) (cond (yf (xs17.length+1) 72) (VW xs0 i1 (IntKind.wrap .i64 (i2+1)) i3 i4 i5 xs6 xs7 i8 i9 i10 xs11 xs12 i13 i14 i15 xs16 (xs17++[P9])) none) none) (fun A7 H8=>some (.pan A7,[]))) none) none) none) none) (
 some (.ret (.pv (.agg [(I i13),(I i14),(I i15),(.sl 1 xs16),(.sl 5 xs17)])),[])):=(ye ..).trans (by kernel_rfl)
theorem zn0 (x0_0:Int) (x0_1:Int) (x0_2:Int) (x0_3:List PV) (x0_4:List PV):ev 153 [(.pv (.agg [(I x0_0),(I x0_1),(I x0_2),(.sl 1 x0_3),(.sl 5 x0_4)]))] [] =
 cond (x0_0==1) (
 zb (ev 214 [(.pv (.sl 1 x0_3))] []) (fun A1 H2=>(za A1).bind fun P3=>(zj .i64 (.pv P3)).bind fun N4=>cond (decide (0<=(IntKind.wrap .i64 (8*N4)))&&decide ((IntKind.wrap .i64 (8*N4))<=(x0_3.length:Int))) (zb (ev 215 [(.pv (.sl 5 x0_4))] []) (fun A5 H6=>(za A5).bind fun P7=>(yp (.pv P7)).bind fun Q8=>cond (decide (0<=Q8.2)&&decide (Q8.2<=(x0_4.length:Int))) (cond (yf (0+((x0_3.take (IntKind.wrap .i64 (8*N4)).toNat).drop 0).length) 1) (VW ((x0_4.take (Q8.2).toNat).drop 0) (((x0_4.take (Q8.2).toNat).drop 0).length:Int) 0 x0_0 x0_1 x0_2 x0_3 x0_4 0 0 0 [] [] x0_0 x0_1 x0_2 ((x0_3.take (IntKind.wrap .i64 (8*N4)).toNat).drop 0) []) none) none) (fun A5 H6=>some (.pan A5,[]))) none) (fun A1 H2=>none)) (
 cond (yf (0+x0_3.length) 1) (VW x0_4 (x0_4.length:Int) 0 x0_0 x0_1 x0_2 x0_3 x0_4 0 0 0 [] [] x0_0 x0_1 x0_2 x0_3 []) none):=(zm (fn:=Tryz.f153) _ _).trans (by kernel_rfl)
theorem zhz (x0_0:Int) (x0_1:Int) (x0_2:Int) (x0_3:List PV) (x0_4:List PV):ev 164 [(.pv (.agg [(I x0_0),(I x0_1),(I x0_2),(.sl 1 x0_3),(.sl 5 x0_4)]))] [] =
 zb (ev 165 [(.pv (.agg [(I x0_0),(I x0_1),(I x0_2),(.sl 1 x0_3),(.sl 5 x0_4)]))] []) (fun A1 H2=>(yb 30 1 A1).bind fun X3=>some (.ret (.pv (.sl 1 [(.sl 1 X3)])),[])) (fun A1 H2=>some (.pan A1,[])):=(zm (fn:=Tryz.f164) _ _).trans (by kernel_rfl)
theorem zhL (x0_0:Int) (x0_1:Int) (x0_2:Int) (x0_3:List PV) (x0_4:List PV):ev 165 [(.pv (.agg [(I x0_0),(I x0_1),(I x0_2),(.sl 1 x0_3),(.sl 5 x0_4)]))] [] =
 zb (ev 156 [(.pv (.agg [(I x0_0),(I x0_1),(I x0_2),(.sl 1 x0_3),(.sl 5 x0_4)]))] []) (fun A1 H2=>(za A1).bind fun P3=>(yp (.pv P3)).bind fun Q4=>cond ((decide (1<=Q4.2)&&decide (Q4.2<=140737488355328))&&yf (Q4.2).toNat 8) (zb (ev 228 [(.ptr 0 0),(.pv (I 0)),(.pv (.agg [(I x0_0),(I x0_1),(I x0_2),(.sl 1 x0_3),(.sl 5 x0_4)]))] [[(.slu 30 1 [(U 0)])]]) (fun A5 H6=>(H6[0]?).bind fun C7=>(C7[0]?).bind fun E8=>(yb 30 1 E8).bind fun X9=>cond (decide (C7.length=1)) (cond (decide (H6.length=1)) ((za A5).bind fun P10=>some (.ret (.slu 30 1 X9),[])) none) none) (fun A5 H6=>(H6[0]?).bind fun C7=>(C7[0]?).bind fun E8=>(yb 30 1 E8).bind fun X9=>cond (decide (C7.length=1)) (cond (decide (H6.length=1)) (some (.pan A5,[])) none) none)) none) (fun A1 H2=>some (.pan A1,[])):=(zm (fn:=Tryz.f165) _ _).trans (by kernel_rfl)
noncomputable def gF:Code:=Tryz.f173.body.getD .skip
noncomputable def Vt (xs0:List PV) (i1:Int) (i2:Int) (i3:Int):Option (Out×zh) :=
 ya (zv env ev zN 30 173 0 (sub gF [1,1,1,0,1,0,0])) (zL env 173 0 0) (zP 0 (z8 (zR env ev 30 173 0 (sub gF [1,1,1,1])) (z7 env 173 Tryz.f173.results.toList 0))) ⟨zT [(0,(.pv (.sl 1 xs0))),(1,(.pv (I i1))),(5,(.pv (I i2))),(6,(.pv (I i3)))],[]⟩
theorem zbB (xs0:List PV) (i1:Int) (i2:Int) (i3:Int):Vt xs0 i1 i2 i3 =
 cond (decide (i3≥0)) (
 cond (decide (0<=(IntKind.wrap .i64 ((IntKind.wrap .i64 (4*i1))+i3)))&&decide ((IntKind.wrap .i64 ((IntKind.wrap .i64 (4*i1))+i3))<(xs0.length:Int))) ((xs0[(IntKind.wrap .i64 ((IntKind.wrap .i64 (4*i1))+i3)).toNat]?).bind fun P1=>(P1.cells[0]?).bind fun P2=>(yp (.pv P2)).bind fun Q3=>Vt xs0 i1 (IntKind.wrap .i64 (BitVec.ofInt 64 (IntKind.wrap .i64 (i2*2^(min 8 64))) ||| BitVec.ofInt 64 (IntKind.wrap .i64 Q3.2)).toNat) (IntKind.wrap .i64 (i3-1))) none) (
 some (.ret (.pv (I i2)),[])):=(ye ..).trans (by kernel_rfl)
theorem zbC (x0:List PV) (x1:Int):ev 173 [(.pv (.sl 1 x0)),(.pv (I x1))] [] =
 zb (ev 174 [(.pv (Bo (decide ((IntKind.wrap .i64 (4*(IntKind.wrap .i64 (x1+1))))<=(x0.length:Int)))))] []) (fun A1 H2=>(za A1).bind fun P3=>Vt x0 x1 0 3) (fun A1 H2=>some (.pan A1,[])):=(zm (fn:=Tryz.f173) _ _).trans (by kernel_rfl)
noncomputable def gy:Code:=Tryz.f178.body.getD .skip
noncomputable def zeM:Code:=Tryz.f233.body.getD .skip
theorem zjd (x0:List PV) (x1_0:Int) (x1_1:Int) (x1_2:Int):ev 178 [(.pv (.sl 1 x0)),(.pv (.agg [(I x1_0),(I x1_1),(I x1_2)]))] [] =
 zb (ev 131 [(.pv (.agg [(I x1_0),(I x1_1),(I x1_2)]))] []) (fun A1 H2=>(za A1).bind fun P3=>cond (decide (P3.cells.length=1)) ((P3.cells[0]?).bind fun P4=>cond ((P4.isCell&&true)&&true) (cond (P4.isCell&&true) (cond (decide ((x0.length:Int)>0)) (
 cond (decide (0<(x0.length:Int))) ((x0[0]?).bind fun P5=>(P5.cells[0]?).bind fun P6=>(z4 P6).bind fun L7=>cond ((L7.2.length:Int)==0) (
 cond (P4.isCell&&true) (some (.ret (.pv (.tup [(.agg [(I 0),(I 0),(I 0),(.sl 1 []),(.sl 5 [])]),(.agg [P4]),(I 0)])),[])) none) (
 zb (ev 234 [(.ptr 0 0),(.pv (I 0)),(.pv (I 0)),(.pv (I 1))] [[(.pv (.sl 1 x0)),(.pv (I x1_0)),(.pv (I x1_1)),(.pv (I x1_2)),(.pv P4)]]) (fun A8 H9=>(H9[0]?).bind fun C10=>(C10[0]?).bind fun E11=>(za E11).bind fun P12=>(C10[1]?).bind fun E13=>(za E13).bind fun P14=>(C10[2]?).bind fun E15=>(za E15).bind fun P16=>(C10[3]?).bind fun E17=>(za E17).bind fun P18=>(C10[4]?).bind fun E19=>(za E19).bind fun P20=>cond (decide (C10.length=5)) (cond (decide (H9.length=1)) ((za A8).bind fun P21=>cond (decide (P21.cells.length=5)) ((P21.cells[0]?).bind fun P22=>(P21.cells[1]?).bind fun P23=>(P21.cells[2]?).bind fun P24=>(P21.cells[3]?).bind fun P25=>(P21.cells[4]?).bind fun P26=>cond (P22.isCell&&(P23.isCell&&(P24.isCell&&(P25.isCell&&(P26.isCell&&true))))) (cond (P22.isCell&&(P23.isCell&&(P24.isCell&&(P25.isCell&&(P26.isCell&&true))))) (cond (P20.isCell&&true) (some (.ret (.pv (.tup [(.agg [P22,P23,P24,P25,P26]),(.agg [P20]),(I 0)])),[])) none) none) none) none) none) none) (fun A8 H9=>(H9[0]?).bind fun C10=>(C10[0]?).bind fun E11=>(za E11).bind fun P12=>(C10[1]?).bind fun E13=>(za E13).bind fun P14=>(C10[2]?).bind fun E15=>(za E15).bind fun P16=>(C10[3]?).bind fun E17=>(za E17).bind fun P18=>(C10[4]?).bind fun E19=>(za E19).bind fun P20=>cond (decide (C10.length=5)) (cond (decide (H9.length=1)) ((yS (.pv A8)).bind fun Z21=>cond (!Z21) (
   (xP (.pv A8)).bind fun Q22=>cond (decide (Q22.1=279)) (cond (decide (Q22.2.cells.length=1)) ((Q22.2.cells[0]?).bind fun P23=>cond (P23.isCell&&true) (cond (P23.isCell&&true) (cond (P23.isCell&&true) (some (.ret (.pv (.tup [(.agg [(I 0),(I 0),(I 0),(.sl 1 []),(.sl 5 [])]),(.agg [(I 0)]),P23])),[])) none) none) none) none) none) (
   some (.ret (.pv (.tup [(.agg [(I 0),(I 0),(I 0),(.sl 1 []),(.sl 5 [])]),(.agg [(I 0)]),(I 0)])),[]))) none) none))) none) (
 zb (ev 234 [(.ptr 0 0),(.pv (I 0)),(.pv (I 0)),(.pv (I 1))] [[(.pv (.sl 1 x0)),(.pv (I x1_0)),(.pv (I x1_1)),(.pv (I x1_2)),(.pv P4)]]) (fun A5 H6=>(H6[0]?).bind fun C7=>(C7[0]?).bind fun E8=>(za E8).bind fun P9=>(C7[1]?).bind fun E10=>(za E10).bind fun P11=>(C7[2]?).bind fun E12=>(za E12).bind fun P13=>(C7[3]?).bind fun E14=>(za E14).bind fun P15=>(C7[4]?).bind fun E16=>(za E16).bind fun P17=>cond (decide (C7.length=5)) (cond (decide (H6.length=1)) ((za A5).bind fun P18=>cond (decide (P18.cells.length=5)) ((P18.cells[0]?).bind fun P19=>(P18.cells[1]?).bind fun P20=>(P18.cells[2]?).bind fun P21=>(P18.cells[3]?).bind fun P22=>(P18.cells[4]?).bind fun P23=>cond (P19.isCell&&(P20.isCell&&(P21.isCell&&(P22.isCell&&(P23.isCell&&true))))) (cond (P19.isCell&&(P20.isCell&&(P21.isCell&&(P22.isCell&&(P23.isCell&&true))))) (cond (P17.isCell&&true) (some (.ret (.pv (.tup [(.agg [P19,P20,P21,P22,P23]),(.agg [P17]),(I 0)])),[])) none) none) none) none) none) none) (fun A5 H6=>(H6[0]?).bind fun C7=>(C7[0]?).bind fun E8=>(za E8).bind fun P9=>(C7[1]?).bind fun E10=>(za E10).bind fun P11=>(C7[2]?).bind fun E12=>(za E12).bind fun P13=>(C7[3]?).bind fun E14=>(za E14).bind fun P15=>(C7[4]?).bind fun E16=>(za E16).bind fun P17=>cond (decide (C7.length=5)) (cond (decide (H6.length=1)) ((yS (.pv A5)).bind fun Z18=>cond (!Z18) (
   (xP (.pv A5)).bind fun Q19=>cond (decide (Q19.1=279)) (cond (decide (Q19.2.cells.length=1)) ((Q19.2.cells[0]?).bind fun P20=>cond (P20.isCell&&true) (cond (P20.isCell&&true) (cond (P20.isCell&&true) (some (.ret (.pv (.tup [(.agg [(I 0),(I 0),(I 0),(.sl 1 []),(.sl 5 [])]),(.agg [(I 0)]),P20])),[])) none) none) none) none) none) (
   some (.ret (.pv (.tup [(.agg [(I 0),(I 0),(I 0),(.sl 1 []),(.sl 5 [])]),(.agg [(I 0)]),(I 0)])),[]))) none) none))) none) none) none) (fun A1 H2=>none):=(ql (f:=178) (g:=233) (fn:=Tryz.f178) (gn:=Tryz.f233) (d:=⟨sub gy [0],sub gy [1,1],sub zeM [1],[4,5,6],3,8⟩) (by kernel_rfl) (by kernel_rfl) (by kernel_rfl) (by kernel_rfl) (by kernel_rfl) _ _).trans (by kernel_rfl)
noncomputable def V6:Code:=Tryz.f186.body.getD .skip
noncomputable def Kt (xs0:List PV) (i1:Int):Option (Out×zh) :=
 ya (zv env ev zN 25 186 0 (sub V6 [1,1,0,0,0])) (zL env 186 0 0) (zP 0 (z8 (zR env ev 25 186 0 (sub V6 [1,1,1])) (z7 env 186 Tryz.f186.results.toList 0))) ⟨zT [(0,(.pv (.sl 1 xs0))),(1,(.pv (.v (.func (.func 187) #[] #[])))),(5,(.pv (I i1)))],[]⟩
theorem zcD (xs0:List PV) (i1:Int):Kt xs0 i1 =
 cond (decide (i1<(xs0.length:Int))) (
 cond (decide (i1<255)) (
 cond (decide (0<=i1)&&decide (i1<(xs0.length:Int))) ((xs0[(i1).toNat]?).bind fun P1=>(P1.cells[0]?).bind fun P2=>zb (ev 187 [(.pv P2)] []) (fun A3 H4=>(za A3).bind fun P5=>(zZ (.pv P5)).bind fun B6=>cond B6 (
 Kt xs0 (IntKind.wrap .i64 (i1+1))) (
 some (.ret (.pv (I i1)),[]))) (fun A3 H4=>some (.pan A3,[]))) none) (
 some (.ret (.pv (I i1)),[]))) (
 some (.ret (.pv (I i1)),[])):=(ye ..).trans (by kernel_rfl)
theorem zlI (x0:List PV):ev 186 [(.pv (.sl 1 x0)),(.pv (.v (.func (.func 187) #[] #[])))] [] =
 Kt x0 0:=(zm (fn:=Tryz.f186) _ _).trans (by kernel_rfl)
noncomputable def Ku (xs0:List PV) (i1:Int):Option (Out×zh) :=
 ya (zv env ev zN 25 186 0 (sub V6 [1,1,0,0,0])) (zL env 186 0 0) (zP 0 (z8 (zR env ev 25 186 0 (sub V6 [1,1,1])) (z7 env 186 Tryz.f186.results.toList 0))) ⟨zT [(0,(.pv (.sl 1 xs0))),(1,(.pv (.v (.func (.func 114) #[] #[])))),(5,(.pv (I i1)))],[]⟩
theorem zcE (xs0:List PV) (i1:Int):Ku xs0 i1 =
 cond (decide (i1<(xs0.length:Int))) (
 cond (decide (i1<255)) (
 cond (decide (0<=i1)&&decide (i1<(xs0.length:Int))) ((xs0[(i1).toNat]?).bind fun P1=>(P1.cells[0]?).bind fun P2=>zb (ev 114 [(.pv P2)] []) (fun A3 H4=>(za A3).bind fun P5=>(zZ (.pv P5)).bind fun B6=>cond B6 (
 Ku xs0 (IntKind.wrap .i64 (i1+1))) (
 some (.ret (.pv (I i1)),[]))) (fun A3 H4=>some (.pan A3,[]))) none) (
 some (.ret (.pv (I i1)),[]))) (
 some (.ret (.pv (I i1)),[])):=(ye ..).trans (by kernel_rfl)
theorem zlJ (x0:List PV):ev 186 [(.pv (.sl 1 x0)),(.pv (.v (.func (.func 114) #[] #[])))] [] =
 Ku x0 0:=(zm (fn:=Tryz.f186) _ _).trans (by kernel_rfl)
theorem zhY (x0:Int):ev 195 [(.pv (U x0))] [] =
 cond ((IntKind.wrap .i64 (Int.tmod x0 4))==0) (
 zb (ev 250 [(.pv (U x0)),(.pv (I 2)),(.pv (I 30))] []) (fun A1 H2=>(za A1).bind fun P3=>cond (P3.isCell&&true) (cond (P3.isCell&&true) (zb (ev 251 [(.pv (U x0)),(.pv (I 32)),(.pv (I 16))] []) (fun A4 H5=>(za A4).bind fun P6=>(yp (.pv P6)).bind fun Q7=>zb (ev 251 [(.pv (U x0)),(.pv (I 48)),(.pv (I 16))] []) (fun A8 H9=>(za A8).bind fun P10=>(yp (.pv P10)).bind fun Q11=>cond (P3.isCell&&true) (some (.ret (.pv (.agg [(I (IntKind.wrap .i64 (Int.tmod x0 4))),P3,(I (IntKind.wrap .i64 Q7.2)),(I (IntKind.wrap .i64 Q11.2)),(I 0),(I 0),(Bo false),(I 0),(PV.v (.int .u32 0)),(PV.v (.int .u32 0))])),[])) none) (fun A8 H9=>some (.pan A8,[]))) (fun A4 H5=>some (.pan A4,[]))) none) none) (fun A1 H2=>some (.pan A1,[]))) (
 cond ((IntKind.wrap .i64 (Int.tmod x0 4))==1) (
  zb (ev 250 [(.pv (U x0)),(.pv (I 2)),(.pv (I 30))] []) (fun A1 H2=>(za A1).bind fun P3=>cond (P3.isCell&&true) (cond (P3.isCell&&true) (zb (ev 251 [(.pv (U x0)),(.pv (I 32)),(.pv (I 3))] []) (fun A4 H5=>(za A4).bind fun P6=>(yp (.pv P6)).bind fun Q7=>zb (ev 251 [(.pv (U x0)),(.pv (I 35)),(.pv (I 29))] []) (fun A8 H9=>(za A8).bind fun P10=>(yp (.pv P10)).bind fun Q11=>cond (P3.isCell&&true) (some (.ret (.pv (.agg [(I (IntKind.wrap .i64 (Int.tmod x0 4))),P3,(I 0),(I 0),(I (IntKind.wrap .i64 Q7.2)),(I (IntKind.wrap .i64 Q11.2)),(Bo false),(I 0),(PV.v (.int .u32 0)),(PV.v (.int .u32 0))])),[])) none) (fun A8 H9=>some (.pan A8,[]))) (fun A4 H5=>some (.pan A4,[]))) none) none) (fun A1 H2=>some (.pan A1,[]))) (
  cond ((IntKind.wrap .i64 (Int.tmod x0 4))==2) (
   zb (ev 251 [(.pv (U x0)),(.pv (I 2)),(.pv (I 1))] []) (fun A1 H2=>(za A1).bind fun P3=>(zj .u64 (.pv P3)).bind fun N4=>zb (ev 251 [(.pv (U x0)),(.pv (I 3)),(.pv (I 29))] []) (fun A5 H6=>(za A5).bind fun P7=>(yp (.pv P7)).bind fun Q8=>some (.ret (.pv (.agg [(I (IntKind.wrap .i64 (Int.tmod x0 4))),(I 0),(I 0),(I 0),(I 0),(I 0),(Bo (N4==1)),(I (IntKind.wrap .i64 Q8.2)),(PV.v (.int .u32 (IntKind.wrap .u32 (IntKind.wrap .u64 (Int.tdiv x0 4294967296))))),(PV.v (.int .u32 0))])),[])) (fun A5 H6=>some (.pan A5,[]))) (fun A1 H2=>some (.pan A1,[]))) (
   cond ((IntKind.wrap .i64 (Int.tmod x0 4))==3) (
    zb (ev 251 [(.pv (U x0)),(.pv (I 2)),(.pv (I 30))] []) (fun A1 H2=>(za A1).bind fun P3=>(yp (.pv P3)).bind fun Q4=>some (.ret (.pv (.agg [(I (IntKind.wrap .i64 (Int.tmod x0 4))),(I 0),(I 0),(I 0),(I 0),(I 0),(Bo false),(I 0),(PV.v (.int .u32 (IntKind.wrap .u32 (IntKind.wrap .u64 (Int.tdiv x0 4294967296))))),(PV.v (.int .u32 (IntKind.wrap .u32 Q4.2)))])),[])) (fun A1 H2=>some (.pan A1,[]))) (
    some (.ret (.pv (.agg [(I (IntKind.wrap .i64 (Int.tmod x0 4))),(I 0),(I 0),(I 0),(I 0),(I 0),(Bo false),(I 0),(PV.v (.int .u32 0)),(PV.v (.int .u32 0))])),[]))))):=(zm (fn:=Tryz.f195) _ _).trans (by kernel_rfl)
noncomputable def Xw:Code:=Tryz.f197.body.getD .skip
noncomputable def W6 (xs0:List PV) (i1:Int) (i2:Int) (i3:Int):Option (Out×zh) :=
 ya (zv env ev zN 40 197 0 (sub Xw [1,0,1,0,0])) (zL env 197 0 0) (zP 0 (z8 (zR env ev 40 197 0 (sub Xw [1,1])) (z7 env 197 Tryz.f197.results.toList 0))) ⟨zT [(0,(.pv (.sl 1 xs0))),(1,(.pv (I i1))),(2,(.pv (I i2))),(8,(.pv (I i3)))],[]⟩
noncomputable def XM (xs0:List PV) (i1:Int) (i2:Int) (i3:Int) (i4:Int):Option (Out×zh) :=
 ya (zv env ev zN 40 197 2 (sub Xw [1,0,1,0,0,1,0,0,1,0,0])) (zL env 197 2 0) (zP 2 (zP 1 (z8 (zR env ev 40 197 0 (sub Xw [1,0,1,0,0,1,1])) (Z9 (zv env ev zN 40 197 0 (sub Xw [1,0,1,0,0])) (zL env 197 0 0) (zP 0 (z8 (zR env ev 40 197 0 (sub Xw [1,1])) (z7 env 197 Tryz.f197.results.toList 0))))))) ⟨zT [(0,(.pv (.sl 1 xs0))),(1,(.pv (I i1))),(2,(.pv (I i2))),(8,(.pv (I i3))),(9,(.pv (I i4)))],[]⟩
theorem zae (xs0:List PV) (i1:Int) (i2:Int) (i3:Int):W6 xs0 i1 i2 i3 =
 cond (decide (i3<(xs0.length:Int))) (
 XM xs0 i1 i2 i3 0) (
 some (.ret (.pv (.tup [(U 0),(Bo false)])),[])):=(ye ..).trans (by kernel_rfl)
theorem QF (xs0:List PV) (i1:Int) (i2:Int) (i3:Int) (i4:Int):XM xs0 i1 i2 i3 i4 =
 cond (decide (0<=i3)&&decide (i3<(xs0.length:Int))) ((xs0[(i3).toNat]?).bind fun P1=>(P1.cells[0]?).bind fun P2=>(z4 P2).bind fun L3=>cond (decide (i4<(L3.2.length:Int))) (
 cond (i3==i1) (
 cond (i4==i2) (
 cond (decide (0<=i3)&&decide (i3<(xs0.length:Int))) ((xs0[(i3).toNat]?).bind fun P4=>(P4.cells[0]?).bind fun P5=>(z4 P5).bind fun L6=>cond ((decide (L6.1=1)&&decide (0<=i4))&&decide (i4<(L6.2.length:Int))) ((L6.2[(i4).toNat]?).bind fun P7=>(P7.cells[0]?).bind fun P8=>some (.ret (.pv (.tup [P8,(Bo true)])),[])) none) none) (
 XM xs0 i1 i2 i3 (IntKind.wrap .i64 (i4+1)))) (
 XM xs0 i1 i2 i3 (IntKind.wrap .i64 (i4+1)))) (
 W6 xs0 i1 i2 (IntKind.wrap .i64 (i3+1)))) none:=(ye ..).trans (by kernel_rfl)
theorem zh5 (x0:List PV) (x1:Int) (x2:Int):ev 197 [(.pv (.sl 1 x0)),(.pv (I x1)),(.pv (I x2))] [] =
 W6 x0 x1 x2 0:=(zm (fn:=Tryz.f197) _ _).trans (by kernel_rfl)
theorem zhj (x0:List PV) (x1:List PV):ev 212 [(.pv (.sl 1 x0)),(.pv (.sl 1 x1))] [] =
 (vR x0).bind fun ns_1=>(vR x1).bind fun ns_2=>some (.ret (.pv (Bo ((strOfNums ns_1).toList==(strOfNums ns_2).toList))),[]):=(zm (fn:=Tryz.f212) _ _).trans (by kernel_rfl)
theorem znZ (x0:List PV):ev 215 [(.pv (.sl 5 x0))] [] =
 zb (ev 258 [(.pv (.sl 5 x0)),(.pv (.v (.func (.func 259) #[] #[])))] []) (fun A1 H2=>(za A1).bind fun P3=>some (.ret (.pv P3),[])) (fun A1 H2=>some (.pan A1,[])):=(zm (fn:=Tryz.f215) _ _).trans (by kernel_rfl)
noncomputable def gN:Code:=Tryz.f219.body.getD .skip
noncomputable def KW (i0:Int) (i1:Int) (xs2:List PV) (i3:Int) (i4:Int) (i5:Int) (i6:Int) (i7:Int) (xs8:List PV) (xs9:List PV):Option (Out×zh) :=
 ya (zv env ev zN 29 219 0 (sub gN [1,1,0,1,0,0])) (zL env 219 0 1) (zP 0 (z8 (zR env ev 29 219 0 (sub gN [1,1,1])) (z7 env 219 Tryz.f219.results.toList 0))) ⟨zT [(4,(.pv (I i0))),(5,(.pv (I i1))),(9,(.pv (.sl 5 xs2))),(10,(.pv (I i3))),(11,(.pv (I i4)))],[[(.pv (I i5)),(.pv (I i6)),(.pv (I i7)),(.pv (.sl 1 xs8)),(.pv (.sl 5 xs9))]]⟩
theorem zeb (i0:Int) (i1:Int) (xs2:List PV) (i3:Int) (i4:Int) (i5:Int) (i6:Int) (i7:Int) (xs8:List PV) (xs9:List PV):KW i0 i1 xs2 i3 i4 i5 i6 i7 xs8 xs9 =
 cond (decide (i4<i3)) (
 cond (decide (0<=i4)&&decide (i4<(xs2.length:Int))) ((xs2[(i4).toNat]?).bind fun P1=>cond (decide (5<=P1.cells.length)) (cond (decide (((P1.cells.drop 0).take 5).length=5)) ((((P1.cells.drop 0).take 5)[0]?).bind fun P2=>(((P1.cells.drop 0).take 5)[1]?).bind fun P3=>(((P1.cells.drop 0).take 5)[2]?).bind fun P4=>(((P1.cells.drop 0).take 5)[3]?).bind fun P5=>(((P1.cells.drop 0).take 5)[4]?).bind fun P6=>cond (P2.isCell&&(P3.isCell&&(P4.isCell&&(P5.isCell&&(P6.isCell&&true))))) ((z4 P5).bind fun L7=>(z4 P6).bind fun L8=>KW (if (IntKind.wrap .i64 (Int.tdiv (L7.2.length:Int) 8))>i0 then (IntKind.wrap .i64 (Int.tdiv (L7.2.length:Int) 8)) else i0) (if (L8.2.length:Int)>i1 then (L8.2.length:Int) else i1) xs2 i3 (IntKind.wrap .i64 (i4+1)) i5 i6 i7 xs8 xs9) none) none) none) none) (
 some (.ret (.pv (.tup [(I i0),(I i1)])),[])):=(ye ..).trans (by kernel_rfl)
theorem zn1 (x0_0:Int) (x0_1:Int) (x0_2:Int) (x0_3:List PV) (x0_4:List PV):ev 219 [(.pv (.agg [(I x0_0),(I x0_1),(I x0_2),(.sl 1 x0_3),(.sl 5 x0_4)]))] [] =
 KW 0 0 x0_4 (x0_4.length:Int) 0 x0_0 x0_1 x0_2 x0_3 x0_4:=(zm (fn:=Tryz.f219) _ _).trans (by kernel_rfl)
noncomputable def gR:Code:=Tryz.f224.body.getD .skip
noncomputable def ZM (i0:Int) (p1:PV) (p2:PV) (i3:Int) (p4:PV) (xs5:List PV) (p6:PV):Option (Out×zh) :=
 ya (zv env ev zN 39 224 0 (sub gR [1,1,1,1,0,1,0,0])) (zL env 224 0 1) (zP 0 (z8 (zR env ev 39 224 0 (sub gR [1,1,1,1,1])) (z7 env 224 Tryz.f224.results.toList 1))) ⟨zT [(0,(.ptr 0 0)),(1,(.pv (U8 i0))),(7,(.pv p1)),(29,(.pv p2)),(30,(.pv (I i3)))],[[(.pv p4),(.slu 5 1 xs5),(.pv p6)]]⟩
theorem uT (i0:Int) (p1:PV) (p2:PV) (i3:Int) (p4:PV) (xs5:List PV) (p6:PV):ZM i0 p1 p2 i3 p4 xs5 p6 =
 (zj .i64 (.pv p2)).bind fun N1=>cond (decide (i3<N1)) (
 zb (ev 225 [(.ptr 0 0),(.pv (U8 i0))] [[(.pv p4),(.slu 5 1 xs5),(.pv p6)]]) (fun A2 H3=>(H3[0]?).bind fun C4=>(C4[0]?).bind fun E5=>(za E5).bind fun P6=>(C4[1]?).bind fun E7=>(yb 5 1 E7).bind fun X8=>(C4[2]?).bind fun E9=>(za E9).bind fun P10=>cond (decide (C4.length=3)) (cond (decide (H3.length=1)) ((za A2).bind fun P11=>(yS (.pv P11)).bind fun Z12=>cond (!Z12) (
 some (.ret (.pv P11),[[(.pv P6),(.slu 5 1 X8),(.pv P10)]])) (
 ZM i0 P11 p2 (IntKind.wrap .i64 (i3+1)) P6 X8 P10)) none) none) (fun A2 H3=>(H3[0]?).bind fun C4=>(C4[0]?).bind fun E5=>(za E5).bind fun P6=>(C4[1]?).bind fun E7=>(yb 5 1 E7).bind fun X8=>(C4[2]?).bind fun E9=>(za E9).bind fun P10=>cond (decide (C4.length=3)) (cond (decide (H3.length=1)) (some (.pan A2,[[(.pv P6),(.slu 5 1 X8),(.pv P10)]])) none) none)) (
 some (.ret (.pv p1),[[(.pv p4),(.slu 5 1 xs5),(.pv p6)]])):=(ye ..).trans (by kernel_rfl)
theorem zon (x0__0:List PV) (x0__1:List PV) (x0__2:Int) (x1:Int):ev 224 [(.ptr 0 0),(.pv (U8 x1))] [[(.pv (.sl 1 x0__0)),(.slu 5 1 x0__1),(.pv (I x0__2))]] =
 cond (x1==255) (
 zb (ev 225 [(.ptr 0 0),(.pv (U8 x1))] [[(.pv (.sl 1 x0__0)),(.slu 5 1 x0__1),(.pv (I x0__2))]]) (fun A1 H2=>(H2[0]?).bind fun C3=>(C3[0]?).bind fun E4=>(za E4).bind fun P5=>(C3[1]?).bind fun E6=>(yb 5 1 E6).bind fun X7=>(C3[2]?).bind fun E8=>(za E8).bind fun P9=>cond (decide (C3.length=3)) (cond (decide (H2.length=1)) ((za A1).bind fun P10=>(yS (.pv P10)).bind fun Z11=>cond (!Z11) (
 some (.ret (.pv P10),[[(.pv P5),(.slu 5 1 X7),(.pv P9)]])) (
 zb (ev 265 [(.ptr 0 0)] [[(.pv P5),(.slu 5 1 X7),(.pv P9)]]) (fun A12 H13=>(H13[0]?).bind fun C14=>(C14[0]?).bind fun E15=>(za E15).bind fun P16=>(C14[1]?).bind fun E17=>(yb 5 1 E17).bind fun X18=>(C14[2]?).bind fun E19=>(za E19).bind fun P20=>cond (decide (C14.length=3)) (cond (decide (H13.length=1)) ((za A12).bind fun P21=>(zi (.pv P21)).bind fun S22=>(S22[0]?).bind fun P23=>(zi (.pv P21)).bind fun S24=>(S24[1]?).bind fun P25=>(yS (.pv P25)).bind fun Z26=>cond Z26 (
  cond (x1==0) (
  (zj .i64 (.pv P23)).bind fun N27=>ZM x1 P25 (I (IntKind.wrap .i64 (N27+1))) 0 P16 X18 P20) (
  ZM x1 P25 P23 0 P16 X18 P20)) (
  ZM x1 P25 P23 0 P16 X18 P20)) none) none) (fun A12 H13=>(H13[0]?).bind fun C14=>(C14[0]?).bind fun E15=>(za E15).bind fun P16=>(C14[1]?).bind fun E17=>(yb 5 1 E17).bind fun X18=>(C14[2]?).bind fun E19=>(za E19).bind fun P20=>cond (decide (C14.length=3)) (cond (decide (H13.length=1)) (some (.pan A12,[[(.pv P16),(.slu 5 1 X18),(.pv P20)]])) none) none))) none) none) (fun A1 H2=>(H2[0]?).bind fun C3=>(C3[0]?).bind fun E4=>(za E4).bind fun P5=>(C3[1]?).bind fun E6=>(yb 5 1 E6).bind fun X7=>(C3[2]?).bind fun E8=>(za E8).bind fun P9=>cond (decide (C3.length=3)) (cond (decide (H2.length=1)) (some (.pan A1,[[(.pv P5),(.slu 5 1 X7),(.pv P9)]])) none) none)) (
 zb (ev 265 [(.ptr 0 0)] [[(.pv (.sl 1 x0__0)),(.slu 5 1 x0__1),(.pv (I x0__2))]]) (fun A1 H2=>(H2[0]?).bind fun C3=>(C3[0]?).bind fun E4=>(za E4).bind fun P5=>(C3[1]?).bind fun E6=>(yb 5 1 E6).bind fun X7=>(C3[2]?).bind fun E8=>(za E8).bind fun P9=>cond (decide (C3.length=3)) (cond (decide (H2.length=1)) ((za A1).bind fun P10=>(zi (.pv P10)).bind fun S11=>(S11[0]?).bind fun P12=>(zi (.pv P10)).bind fun S13=>(S13[1]?).bind fun P14=>(yS (.pv P14)).bind fun Z15=>cond Z15 (
  cond (x1==0) (
  (zj .i64 (.pv P12)).bind fun N16=>ZM x1 P14 (I (IntKind.wrap .i64 (N16+1))) 0 P5 X7 P9) (
  ZM x1 P14 P12 0 P5 X7 P9)) (
  ZM x1 P14 P12 0 P5 X7 P9)) none) none) (fun A1 H2=>(H2[0]?).bind fun C3=>(C3[0]?).bind fun E4=>(za E4).bind fun P5=>(C3[1]?).bind fun E6=>(yb 5 1 E6).bind fun X7=>(C3[2]?).bind fun E8=>(za E8).bind fun P9=>cond (decide (C3.length=3)) (cond (decide (H2.length=1)) (some (.pan A1,[[(.pv P5),(.slu 5 1 X7),(.pv P9)]])) none) none)):=(zm (fn:=Tryz.f224) _ _).trans (by kernel_rfl)
theorem zmJ (x0_0:Int) (x0_1:Int) (x0_2:Int) (x0_3:Int) (x0_4:Int) (x0_5:Int) (x0_6:Int) (x0_7:Int) (x1:Int):ev 238 [(.pv (.agg [(I x0_0),(I x0_1),(I x0_2),(I x0_3),(I x0_4),(I x0_5),(I x0_6),(I x0_7)])),(.pv (I x1))] [] =
 some (.ret (.pv (.agg [(I 1),(I x0_1),(I (IntKind.wrap .i64 (x0_2+(IntKind.wrap .i64 (x1*(IntKind.wrap .i64 (x0_3+x0_4))))))),(I x0_3),(I x0_4),(I 0),(I 0),(I 0)])),[]):=(zm (fn:=Tryz.f238) _ _).trans (by kernel_rfl)
theorem zjM (x0:List PV) (x1:Int) (x2:Int):ev 240 [(.pv (.sl 1 x0)),(.pv (I x1)),(.pv (I x2))] [] =
 zb (ev 278 [(.pv (.sl 1 x0)),(.pv (I x1)),(.pv (I x2))] []) (fun A1 H2=>(za A1).bind fun P3=>(zi (.pv P3)).bind fun S4=>(S4[0]?).bind fun P5=>(zi (.pv P3)).bind fun S6=>(S6[1]?).bind fun P7=>(zZ (.pv P7)).bind fun B8=>cond (!B8) (
 some (.ret (.pv (.tup [(U 0),(I 0),(I 0),(I 2)])),[])) (
 cond (P5.isCell&&true) (cond ((P5.isCell&&true)&&true) (cond (P5.isCell&&true) (zb (ev 279 [(.pv P5)] []) (fun A9 H10=>(za A9).bind fun P11=>(zZ (.pv P11)).bind fun B12=>cond B12 (
  zb (ev 192 [(.pv P5)] []) (fun A13 H14=>(za A13).bind fun P15=>(Xi (.pv P15)).bind fun cs_16=>(cs_16[6]?).bind fun P17=>(zZ (.pv P17)).bind fun B18=>cond B18 (
  zb (ev 281 [(.pv (.sl 1 x0)),(.pv P5)] []) (fun A19 H20=>(za A19).bind fun P21=>(zi (.pv P21)).bind fun S22=>(S22[0]?).bind fun P23=>(zi (.pv P21)).bind fun S24=>(S24[1]?).bind fun P25=>cond (decide (P23.cells.length=3)) ((P23.cells[0]?).bind fun P26=>(P23.cells[1]?).bind fun P27=>(P23.cells[2]?).bind fun P28=>cond (P26.isCell&&(P27.isCell&&(P28.isCell&&true))) ((xq [false,false,false] [P26,P27,P28] [(U 0),(I 0),(I 0)]).bind fun Z29=>cond Z29 (
  (zj .i64 (.pv P25)).bind fun N30=>cond (N30 != 0) (
  some (.ret (.pv (.tup [(U 0),(I 0),(I 0),P25])),[])) (
  some (.ret (.pv (.tup [P26,P27,P28,(I 0)])),[]))) (
  some (.ret (.pv (.tup [P26,P27,P28,(I 0)])),[]))) none) none) (fun A19 H20=>some (.pan A19,[]))) (
  zb (ev 280 [(.pv (.sl 1 x0)),(.pv P5)] []) (fun A19 H20=>(za A19).bind fun P21=>(zi (.pv P21)).bind fun S22=>(S22[0]?).bind fun P23=>(zi (.pv P21)).bind fun S24=>(S24[1]?).bind fun P25=>cond (decide (P23.cells.length=3)) ((P23.cells[0]?).bind fun P26=>(P23.cells[1]?).bind fun P27=>(P23.cells[2]?).bind fun P28=>cond (P26.isCell&&(P27.isCell&&(P28.isCell&&true))) ((xq [false,false,false] [P26,P27,P28] [(U 0),(I 0),(I 0)]).bind fun Z29=>cond Z29 (
   (zj .i64 (.pv P25)).bind fun N30=>cond (N30 != 0) (
   some (.ret (.pv (.tup [(U 0),(I 0),(I 0),P25])),[])) (
   some (.ret (.pv (.tup [P26,P27,P28,(I 0)])),[]))) (
   some (.ret (.pv (.tup [P26,P27,P28,(I 0)])),[]))) none) none) (fun A19 H20=>some (.pan A19,[])))) (fun A13 H14=>some (.pan A13,[]))) (
  (xq [false,false,false] [P5,(I x1),(I (IntKind.wrap .i64 (x2+1)))] [(U 0),(I 0),(I 0)]).bind fun Z13=>cond Z13 (
   some (.ret (.pv (.tup [P5,(I x1),(I (IntKind.wrap .i64 (x2+1))),(I 0)])),[])) (
   some (.ret (.pv (.tup [P5,(I x1),(I (IntKind.wrap .i64 (x2+1))),(I 0)])),[])))) (fun A9 H10=>some (.pan A9,[]))) none) none) none)) (fun A1 H2=>some (.pan A1,[])):=(zm (fn:=Tryz.f240) _ _).trans (by kernel_rfl)
theorem zoN (x0:Int) (x1:Int) (x2:Int):ev 245 [(.pv (U x0)),(.pv (I x1)),(.pv (I x2))] [] =
 cond (yP .shr (IntKind.wrap .u64 x1)) (zb (ev 285 [(.pv (I x2))] []) (fun A1 H2=>(za A1).bind fun P3=>(zj .u64 (.pv P3)).bind fun N4=>some (.ret (.pv (U (IntKind.wrap .u64 (BitVec.ofInt 64 (Int.fdiv x0 (2^(min (IntKind.wrap .u64 x1).toNat 64))) &&& BitVec.ofInt 64 N4).toNat))),[])) (fun A1 H2=>some (.pan A1,[]))) none:=(zm (fn:=Tryz.f245) _ _).trans (by kernel_rfl)
theorem zhC (x0__0:List PV) (x0__1:Int) (x0__2_0:Int) (x0__2_1:Int) (x0__2_2:Int) (x0__3_0:Int) (x1:Int):ev 247 [(.ptr 0 0),(.pv (I x1))] [[(.pv (.sl 1 x0__0)),(.pv (I x0__1)),(.pv (I x0__2_0)),(.pv (I x0__2_1)),(.pv (I x0__2_2)),(.pv (I x0__3_0))]] =
 zb (ev 272 [(.pv (.agg [(I x0__3_0)])),(.pv (I x1))] []) (fun A1 H2=>(za A1).bind fun P3=>(zi (.pv P3)).bind fun S4=>(S4[0]?).bind fun P5=>(zi (.pv P3)).bind fun S6=>(S6[1]?).bind fun P7=>cond (decide (P5.cells.length=1)) ((P5.cells[0]?).bind fun P8=>cond (P8.isCell&&true) ((zj .i64 (.pv P7)).bind fun N9=>zb (ev 130 [(.pv (Bo (N9==0)))] []) (fun A10 H11=>(za A10).bind fun P12=>some (.ret (.pv (.tup [])),[[(.pv (.sl 1 x0__0)),(.pv (I x0__1)),(.pv (I x0__2_0)),(.pv (I x0__2_1)),(.pv (I x0__2_2)),(.pv P8)]])) (fun A10 H11=>some (.pan A10,[[(.pv (.sl 1 x0__0)),(.pv (I x0__1)),(.pv (I x0__2_0)),(.pv (I x0__2_1)),(.pv (I x0__2_2)),(.pv P8)]]))) none) none) (fun A1 H2=>some (.pan A1,[[(.pv (.sl 1 x0__0)),(.pv (I x0__1)),(.pv (I x0__2_0)),(.pv (I x0__2_1)),(.pv (I x0__2_2)),(.pv (I x0__3_0))]])):=(zm (fn:=Tryz.f247) _ _).trans (by kernel_rfl)
theorem zhW (x0:Int) (x1:Int) (x2:Int):ev 250 [(.pv (U x0)),(.pv (I x1)),(.pv (I x2))] [] =
 zb (ev 251 [(.pv (U x0)),(.pv (I x1)),(.pv (I x2))] []) (fun A1 H2=>(za A1).bind fun P3=>cond (x2==64) (
 (yp (.pv P3)).bind fun Q4=>some (.ret (.pv (I (IntKind.wrap .i64 Q4.2))),[])) (
 zb (ev 142 [(.pv (I (IntKind.wrap .i64 (x2-1))))] []) (fun A4 H5=>(za A4).bind fun P6=>(zj .u64 (.pv P3)).bind fun N7=>(zj .u64 (.pv P6)).bind fun N8=>cond (decide (N7≥N8)) (
  (yp (.pv P3)).bind fun Q9=>zb (ev 142 [(.pv (I (IntKind.wrap .i64 (x2-1))))] []) (fun A10 H11=>(za A10).bind fun P12=>(yp (.pv P12)).bind fun Q13=>zb (ev 142 [(.pv (I (IntKind.wrap .i64 (x2-1))))] []) (fun A14 H15=>(za A14).bind fun P16=>(yp (.pv P16)).bind fun Q17=>some (.ret (.pv (I (IntKind.wrap .i64 ((IntKind.wrap .i64 ((IntKind.wrap .i64 Q9.2)-(IntKind.wrap .i64 Q13.2)))-(IntKind.wrap .i64 Q17.2))))),[])) (fun A14 H15=>some (.pan A14,[]))) (fun A10 H11=>some (.pan A10,[]))) (
  (yp (.pv P3)).bind fun Q9=>some (.ret (.pv (I (IntKind.wrap .i64 Q9.2))),[]))) (fun A4 H5=>some (.pan A4,[])))) (fun A1 H2=>some (.pan A1,[])):=(zm (fn:=Tryz.f250) _ _).trans (by kernel_rfl)
theorem zcM (x0_0:Int) (x0_1:Int) (x0_2:Int) (x0_3:Int) (x0_4:Int) (x0_5:Int) (x0_6:Bool) (x0_7:Int) (x0_8:Int) (x0_9:Int):ev 252 [(.pv (.agg [(I x0_0),(I x0_1),(I x0_2),(I x0_3),(I x0_4),(I x0_5),(Bo x0_6),(I x0_7),(PV.v (.int .u32 x0_8)),(PV.v (.int .u32 x0_9))]))] [] =
 zb (ev 287 [(.pv (.agg [(I x0_0),(I x0_1),(I x0_2),(I x0_3),(I x0_4),(I x0_5),(Bo x0_6),(I x0_7),(PV.v (.int .u32 x0_8)),(PV.v (.int .u32 x0_9))]))] []) (fun A1 H2=>(za A1).bind fun P3=>(zZ (.pv P3)).bind fun B4=>cond (!B4) (
 some (.ret (.pv (.tup [(U 0),(Bo false)])),[])) (
 zb (ev 288 [(.pv (.agg [(I x0_0),(I x0_1),(I x0_2),(I x0_3),(I x0_4),(I x0_5),(Bo x0_6),(I x0_7),(PV.v (.int .u32 x0_8)),(PV.v (.int .u32 x0_9))]))] []) (fun A5 H6=>(za A5).bind fun P7=>some (.ret (.pv (.tup [P7,(Bo true)])),[])) (fun A5 H6=>some (.pan A5,[])))) (fun A1 H2=>some (.pan A1,[])):=(zm (fn:=Tryz.f252) _ _).trans (by kernel_rfl)
theorem znY (x0_0:Int) (x0_1:Int) (x0_2:Int) (x0_3:List PV) (x0_4:List PV):ev 259 [(.pv (.agg [(I x0_0),(I x0_1),(I x0_2),(.sl 1 x0_3),(.sl 5 x0_4)]))] [] =
 some (.ret (.pv (Bo (x0_0==0))),[]):=(zm (fn:=Tryz.f259) _ _).trans (by kernel_rfl)
noncomputable def V2:Code:=Tryz.f261.body.getD .skip
noncomputable def Y5 (xs0:List PV) (i1:Int) (i2:Int) (p3:PV) (i4:Int) (i5:Int) (i6:Int) (xs7:List PV) (xs8:List PV):Option (Out×zh) :=
 ya (zv env ev zN 37 261 0 (sub V2 [1,1,1,0,0])) (zL env 261 0 3) (zP 0 (z7 env 261 Tryz.f261.results.toList 2)) ⟨zT [(2,(.ptr 1 0)),(3,(.ptr 2 0)),(13,(.pv (.sl 5 xs0))),(14,(.pv (I i1))),(15,(.pv (I i2)))],[[(.pv p3)],[(.clo (.func 261) [] [(.ptr 0 0),(.ptr 1 0)])],[(.pv (I i4)),(.pv (I i5)),(.pv (I i6)),(.pv (.sl 1 xs7)),(.pv (.sl 5 xs8))]]⟩
noncomputable def Qv (xs0:List PV) (i1:Int) (i2:Int) (p3:PV) (i4:Int) (i5:Int) (p6:PV) (i7:Int) (i8:Int) (i9:Int) (xs10:List PV) (xs11:List PV) (p12:PV) (p13:PV) (p14:PV) (p15:PV) (p16:PV):Option (Out×zh) :=
 ya (zv env ev zN 37 261 2 (sub V2 [1,1,1,0,0,1,1,0,0,1,1,1,0,0])) (zL env 261 2 4) (zP 2 (zP 1 (z8 (zR env ev 37 261 0 (sub V2 [1,1,1,0,0,1,1,1])) (Z9 (zv env ev zN 37 261 0 (sub V2 [1,1,1,0,0])) (zL env 261 0 3) (zP 0 (z7 env 261 Tryz.f261.results.toList 2)))))) ⟨zT [(2,(.ptr 1 0)),(3,(.ptr 2 0)),(13,(.pv (.sl 5 xs0))),(14,(.pv (I i1))),(15,(.pv (I i2))),(26,(.pv p3)),(27,(.pv (I i4))),(28,(.pv (I i5)))],[[(.pv p6)],[(.clo (.func 261) [] [(.ptr 0 0),(.ptr 1 0)])],[(.pv (I i7)),(.pv (I i8)),(.pv (I i9)),(.pv (.sl 1 xs10)),(.pv (.sl 5 xs11))],[(.pv p12),(.pv p13),(.pv p14),(.pv p15),(.pv p16)]]⟩
theorem Qu (xs0:List PV) (i1:Int) (i2:Int) (p3:PV) (i4:Int) (i5:Int) (i6:Int) (xs7:List PV) (xs8:List PV):Y5 xs0 i1 i2 p3 i4 i5 i6 xs7 xs8 =
 cond (decide (i2<i1)) (
 cond (decide (0<=i2)&&decide (i2<(xs0.length:Int))) ((xs0[(i2).toNat]?).bind fun P1=>cond (decide (5<=P1.cells.length)) (cond (decide (((P1.cells.drop 0).take 5).length=5)) ((((P1.cells.drop 0).take 5)[0]?).bind fun P2=>(((P1.cells.drop 0).take 5)[1]?).bind fun P3=>(((P1.cells.drop 0).take 5)[2]?).bind fun P4=>(((P1.cells.drop 0).take 5)[3]?).bind fun P5=>(((P1.cells.drop 0).take 5)[4]?).bind fun P6=>cond (P2.isCell&&(P3.isCell&&(P4.isCell&&(P5.isCell&&(P6.isCell&&true))))) (cond (i5 != 7) (
 zb (ev 261 [(.pv (.agg [P2,P3,P4,P5,P6])),(.ptr 0 0),(.ptr 1 0)] [[(.pv p3)],[(.clo (.func 261) [] [(.ptr 0 0),(.ptr 1 0)])]]) (fun A7 H8=>(H8[0]?).bind fun C9=>(C9[0]?).bind fun E10=>(za E10).bind fun P11=>cond (decide (C9.length=1)) ((H8[1]?).bind fun C12=>(C12[0]?).bind fun E13=>cond (Ya (.func 261) [] [(.ptr 0 0),(.ptr 1 0)] E13) (cond (decide (C12.length=1)) (cond (decide (H8.length=2)) ((za A7).bind fun P14=>Y5 xs0 i1 (IntKind.wrap .i64 (i2+1)) P11 i4 i5 i6 xs7 xs8) none) none) none) none) (fun A7 H8=>(H8[0]?).bind fun C9=>(C9[0]?).bind fun E10=>(za E10).bind fun P11=>cond (decide (C9.length=1)) ((H8[1]?).bind fun C12=>(C12[0]?).bind fun E13=>cond (Ya (.func 261) [] [(.ptr 0 0),(.ptr 1 0)] E13) (cond (decide (C12.length=1)) (cond (decide (H8.length=2)) (some (.pan A7,[[(.pv P11)],[(.clo (.func 261) [] [(.ptr 0 0),(.ptr 1 0)])]])) none) none) none) none)) (
 (z4 P6).bind fun L7=>Qv xs0 i1 i2 P6 (L7.2.length:Int) 0 p3 i4 i5 i6 xs7 xs8 P2 P3 P4 P5 P6)) none) none) none) none) (
 some (.ret (.pv (.tup [])),[[(.pv p3)],[(.clo (.func 261) [] [(.ptr 0 0),(.ptr 1 0)])]])):=(ye ..).trans (by kernel_rfl)
theorem jW (xs0:List PV) (i1:Int) (i2:Int) (p3:PV) (i4:Int) (i5:Int) (p6:PV) (i7:Int) (i8:Int) (i9:Int) (xs10:List PV) (xs11:List PV) (p12:PV) (p13:PV) (p14:PV) (p15:PV) (p16:PV):Qv xs0 i1 i2 p3 i4 i5 p6 i7 i8 i9 xs10 xs11 p12 p13 p14 p15 p16 =
 cond (decide (i5<i4)) (
 (z4 p3).bind fun L1=>cond ((decide (L1.1=5)&&decide (0<=i5))&&decide (i5<(L1.2.length:Int))) ((L1.2[(i5).toNat]?).bind fun P2=>cond (decide (5<=P2.cells.length)) (cond (decide (((P2.cells.drop 0).take 5).length=5)) ((((P2.cells.drop 0).take 5)[0]?).bind fun P3=>(((P2.cells.drop 0).take 5)[1]?).bind fun P4=>(((P2.cells.drop 0).take 5)[2]?).bind fun P5=>(((P2.cells.drop 0).take 5)[3]?).bind fun P6=>(((P2.cells.drop 0).take 5)[4]?).bind fun P7=>cond (P3.isCell&&(P4.isCell&&(P5.isCell&&(P6.isCell&&(P7.isCell&&true))))) (zb (ev 261 [(.pv (.agg [P3,P4,P5,P6,P7])),(.ptr 0 0),(.ptr 1 0)] [[(.pv p6)],[(.clo (.func 261) [] [(.ptr 0 0),(.ptr 1 0)])]]) (fun A8 H9=>(H9[0]?).bind fun C10=>(C10[0]?).bind fun E11=>(za E11).bind fun P12=>cond (decide (C10.length=1)) ((H9[1]?).bind fun C13=>(C13[0]?).bind fun E14=>cond (Ya (.func 261) [] [(.ptr 0 0),(.ptr 1 0)] E14) (cond (decide (C13.length=1)) (cond (decide (H9.length=2)) ((za A8).bind fun P15=>Qv xs0 i1 i2 p3 i4 (IntKind.wrap .i64 (i5+1)) P12 i7 i8 i9 xs10 xs11 p12 p13 p14 p15 p16) none) none) none) none) (fun A8 H9=>(H9[0]?).bind fun C10=>(C10[0]?).bind fun E11=>(za E11).bind fun P12=>cond (decide (C10.length=1)) ((H9[1]?).bind fun C13=>(C13[0]?).bind fun E14=>cond (Ya (.func 261) [] [(.ptr 0 0),(.ptr 1 0)] E14) (cond (decide (C13.length=1)) (cond (decide (H9.length=2)) (some (.pan A8,[[(.pv P12)],[(.clo (.func 261) [] [(.ptr 0 0),(.ptr 1 0)])]])) none) none) none) none)) none) none) none) none) (
 Y5 xs0 i1 (IntKind.wrap .i64 (i2+1)) p6 i7 i8 i9 xs10 xs11):=(ye ..).trans (by kernel_rfl)
theorem zhH (x0_0:Int) (x0_1:Int) (x0_2:Int) (x0_3:List PV) (x0_4:List PV) (x1:Int):ev 261 [(.pv (.agg [(I x0_0),(I x0_1),(I x0_2),(.sl 1 x0_3),(.sl 5 x0_4)])),(.ptr 0 0),(.ptr 1 0)] [[(.pv (I x1))],[(.clo (.func 261) [] [(.ptr 0 0),(.ptr 1 0)])]] =
 zb (ev 262 [(.pv (.agg [(I x0_0),(I x0_1),(I x0_2),(.sl 1 x0_3),(.sl 5 x0_4)]))] []) (fun A1 H2=>(za A1).bind fun P3=>(zj .i64 (.pv P3)).bind fun N4=>Y5 x0_4 (x0_4.length:Int) 0 (I (IntKind.wrap .i64 (x1+N4))) x0_0 x0_1 x0_2 x0_3 x0_4) (fun A1 H2=>some (.pan A1,[[(.pv (I x1))],[(.clo (.func 261) [] [(.ptr 0 0),(.ptr 1 0)])]])):=(zm (fn:=Tryz.f261) _ _).trans (by kernel_rfl)
theorem zjc (x0__0:List PV) (x0__1_0:Int) (x0__1_1:Int) (x0__1_2:Int) (x0__2_0:Int) (x1_0:Int) (x1_1:Int) (x1_2:Int) (x1_3:Int) (x1_4:Int) (x1_5:Int) (x1_6:Int) (x1_7:Int) (x2:Int):ev 273 [(.ptr 0 0),(.pv (.agg [(I x1_0),(I x1_1),(I x1_2),(I x1_3),(I x1_4),(I x1_5),(I x1_6),(I x1_7)])),(.pv (I x2))] [[(.pv (.sl 1 x0__0)),(.pv (I x0__1_0)),(.pv (I x0__1_1)),(.pv (I x0__1_2)),(.pv (I x0__2_0))]] =
 zb (ev 295 [(.ptr 0 0),(.pv (.agg [(I x1_0),(I x1_1),(I x1_2),(I x1_3),(I x1_4),(I x1_5),(I x1_6),(I x1_7)])),(.pv (I x1_2)),(.pv (I x1_3))] [[(.pv (.sl 1 x0__0)),(.pv (I x0__1_0)),(.pv (I x0__1_1)),(.pv (I x0__1_2)),(.pv (I x0__2_0))]]) (fun A1 H2=>(H2[0]?).bind fun C3=>(C3[0]?).bind fun E4=>(za E4).bind fun P5=>(C3[1]?).bind fun E6=>(za E6).bind fun P7=>(C3[2]?).bind fun E8=>(za E8).bind fun P9=>(C3[3]?).bind fun E10=>(za E10).bind fun P11=>(C3[4]?).bind fun E12=>(za E12).bind fun P13=>cond (decide (C3.length=5)) (cond (decide (H2.length=1)) ((za A1).bind fun P14=>zb (ev 296 [(.ptr 0 0),(.pv (.agg [(I x1_0),(I x1_1),(I x1_2),(I x1_3),(I x1_4),(I x1_5),(I x1_6),(I x1_7)])),(.pv (I x2))] [[(.pv P5),(.pv P7),(.pv P9),(.pv P11),(.pv P13)]]) (fun A15 H16=>(H16[0]?).bind fun C17=>(C17[0]?).bind fun E18=>(za E18).bind fun P19=>(C17[1]?).bind fun E20=>(za E20).bind fun P21=>(C17[2]?).bind fun E22=>(za E22).bind fun P23=>(C17[3]?).bind fun E24=>(za E24).bind fun P25=>(C17[4]?).bind fun E26=>(za E26).bind fun P27=>cond (decide (C17.length=5)) (cond (decide (H16.length=1)) ((za A15).bind fun P28=>cond (P14.isCell&&true) (cond (P28.isCell&&true) (cond ((P14.isCell&&true)&&((P28.isCell&&true)&&true)) (cond (P14.isCell&&(P28.isCell&&true)) (some (.ret (.pv (.agg [(I 1),(I 0),(I 0),P14,P28])),[[(.pv P19),(.pv P21),(.pv P23),(.pv P25),(.pv P27)]])) none) none) none) none) none) none) (fun A15 H16=>(H16[0]?).bind fun C17=>(C17[0]?).bind fun E18=>(za E18).bind fun P19=>(C17[1]?).bind fun E20=>(za E20).bind fun P21=>(C17[2]?).bind fun E22=>(za E22).bind fun P23=>(C17[3]?).bind fun E24=>(za E24).bind fun P25=>(C17[4]?).bind fun E26=>(za E26).bind fun P27=>cond (decide (C17.length=5)) (cond (decide (H16.length=1)) (some (.pan A15,[[(.pv P19),(.pv P21),(.pv P23),(.pv P25),(.pv P27)]])) none) none)) none) none) (fun A1 H2=>(H2[0]?).bind fun C3=>(C3[0]?).bind fun E4=>(za E4).bind fun P5=>(C3[1]?).bind fun E6=>(za E6).bind fun P7=>(C3[2]?).bind fun E8=>(za E8).bind fun P9=>(C3[3]?).bind fun E10=>(za E10).bind fun P11=>(C3[4]?).bind fun E12=>(za E12).bind fun P13=>cond (decide (C3.length=5)) (cond (decide (H2.length=1)) (none) none) none):=(zm (fn:=Tryz.f273) _ _).trans (by kernel_rfl)
theorem znA (x0:List PV):ev 275 [.pv (.sl 1 x0)] [] =
 cond (yf x0.length 1&&true) (some (.ret (.slu 5 1 x0),[])) none:=(Q0 (q:=(5,(1,1))) (by kernel_rfl) _ _).trans (by kernel_rfl)
theorem zgT (x0:List PV) (x1:Int) (x2:Int) (x3:Int):ev 276 [(.pv (.sl 1 x0)),(.pv (I x1)),(.pv (I x2)),(.pv (I x3))] [] =
 zb (ev 286 [(.pv (.sl 1 x0)),(.pv (I x1)),(.pv (I x2)),(.pv (I x3))] []) (fun A1 H2=>(za A1).bind fun P3=>(zZ (.pv P3)).bind fun B4=>cond (!B4) (
 some (.ret (.pv (.tup [(.sl 1 []),(Bo false)])),[])) (
 cond (((decide (0<=x3)&&decide (x3<=x3))&&decide (x3<=140737488355328))&&yf (x3).toNat 8) (cond (decide (0<=x1)&&decide (x1<(x0.length:Int))) ((x0[(x1).toNat]?).bind fun P5=>(P5.cells[0]?).bind fun P6=>(z4 P6).bind fun L7=>cond (decide (L7.1=1)) (cond ((decide (0<=x2)&&decide (x2<=(L7.2.length:Int)))&&decide ((L7.2.length:Int)<=(L7.2.length:Int))) (cond (((decide (L7.1=1)&&true)&&true)&&true) (some (.ret (.pv (.tup [(.sl 1 (((L7.2.take (L7.2.length:Int).toNat).drop (x2).toNat).take (List.replicate (x3).toNat (U 0)).length++(List.replicate (x3).toNat (U 0)).drop ((L7.2.take (L7.2.length:Int).toNat).drop (x2).toNat).length)),(Bo true)])),[])) none) none) none) none) none)) (fun A1 H2=>some (.pan A1,[])):=(zm (fn:=Tryz.f276) _ _).trans (by kernel_rfl)
theorem zgU (x0:List PV) (x1:Int) (x2:Int):ev 278 [(.pv (.sl 1 x0)),(.pv (I x1)),(.pv (I x2))] [] =
 zb (ev 286 [(.pv (.sl 1 x0)),(.pv (I x1)),(.pv (I x2)),(.pv (I 1))] []) (fun A1 H2=>(za A1).bind fun P3=>(zZ (.pv P3)).bind fun B4=>cond (!B4) (
 some (.ret (.pv (.tup [(U 0),(Bo false)])),[])) (
 cond (decide (0<=x1)&&decide (x1<(x0.length:Int))) ((x0[(x1).toNat]?).bind fun P5=>(P5.cells[0]?).bind fun P6=>(z4 P6).bind fun L7=>cond ((decide (L7.1=1)&&decide (0<=x2))&&decide (x2<(L7.2.length:Int))) ((L7.2[(x2).toNat]?).bind fun P8=>(P8.cells[0]?).bind fun P9=>some (.ret (.pv (.tup [P9,(Bo true)])),[])) none) none)) (fun A1 H2=>some (.pan A1,[])):=(zm (fn:=Tryz.f278) _ _).trans (by kernel_rfl)
theorem zjQ (x0:List PV) (x1:Int):ev 280 [(.pv (.sl 1 x0)),(.pv (U x1))] [] =
 zb (ev 297 [(.pv (U x1))] []) (fun A1 H2=>(za A1).bind fun P3=>(zi (.pv P3)).bind fun S4=>(S4[0]?).bind fun P5=>(zi (.pv P3)).bind fun S6=>(S6[1]?).bind fun P7=>zb (ev 278 [(.pv (.sl 1 x0)),(.pv P5),(.pv P7)] []) (fun A8 H9=>(za A8).bind fun P10=>(zi (.pv P10)).bind fun S11=>(S11[0]?).bind fun P12=>(zi (.pv P10)).bind fun S13=>(S13[1]?).bind fun P14=>(zZ (.pv P14)).bind fun B15=>cond (!B15) (
 some (.ret (.pv (.tup [(.agg [(U 0),(I 0),(I 0)]),(I 2)])),[])) (
 zb (ev 279 [(.pv P12)] []) (fun A16 H17=>(za A16).bind fun P18=>(zZ (.pv P18)).bind fun B19=>cond B19 (
  some (.ret (.pv (.tup [(.agg [(U 0),(I 0),(I 0)]),(I 3)])),[])) (
  (zj .i64 (.pv P7)).bind fun N20=>cond (P12.isCell&&true) (cond (P5.isCell&&true) (cond ((P12.isCell&&true)&&((P5.isCell&&true)&&true)) (cond (P12.isCell&&(P5.isCell&&true)) (some (.ret (.pv (.tup [(.agg [P12,P5,(I (IntKind.wrap .i64 (N20+1)))]),(I 0)])),[])) none) none) none) none)) (fun A16 H17=>some (.pan A16,[])))) (fun A8 H9=>some (.pan A8,[]))) (fun A1 H2=>some (.pan A1,[])):=(zm (fn:=Tryz.f280) _ _).trans (by kernel_rfl)
theorem zmQ (x0:List PV) (x1_0:Int) (x1_1:Int) (x1_2:Int) (x1_3:Int) (x1_4:Int) (x1_5:Int) (x1_6:Int) (x1_7:Int) (x2:Int) (x3:Int):ev 282 [(.pv (.sl 1 x0)),(.pv (.agg [(I x1_0),(I x1_1),(I x1_2),(I x1_3),(I x1_4),(I x1_5),(I x1_6),(I x1_7)])),(.pv (I x2)),(.pv (I x3))] [] =
 zb (ev 286 [(.pv (.sl 1 x0)),(.pv (I x1_1)),(.pv (I x2)),(.pv (I x3))] []) (fun A1 H2=>(za A1).bind fun P3=>(zZ (.pv P3)).bind fun B4=>cond (!B4) (
 some (.ret (.pv (.tup [(.agg [(I 0),(I 0),(I 0),(I 0),(I 0),(I 0),(I 0),(I 0)]),(I 2)])),[])) (
 some (.ret (.pv (.tup [(.agg [(I x1_0),(I x1_1),(I x1_2),(I x1_3),(I x1_4),(I x1_5),(I x1_6),(I x1_7)]),(I 0)])),[]))) (fun A1 H2=>some (.pan A1,[])):=(zm (fn:=Tryz.f282) _ _).trans (by kernel_rfl)
theorem zl4 (x0_0:Int) (x0_1:Int) (x0_2:Int) (x0_3:Int) (x0_4:Int) (x0_5:Int) (x0_6:Bool) (x0_7:Int) (x0_8:Int) (x0_9:Int):ev 284 [(.pv (.agg [(I x0_0),(I x0_1),(I x0_2),(I x0_3),(I x0_4),(I x0_5),(Bo x0_6),(I x0_7),(PV.v (.int .u32 x0_8)),(PV.v (.int .u32 x0_9))]))] [] =
 cond (x0_0==3) (
 some (.ret (.pv (Bo (x0_9==0))),[])) (
 some (.ret (.pv (Bo false)),[])):=(zm (fn:=Tryz.f284) _ _).trans (by kernel_rfl)
theorem zoS (x0:Int):ev 285 [(.pv (I x0))] [] =
 cond (yP .shr (IntKind.wrap .u64 (IntKind.wrap .i64 (64-x0)))) (some (.ret (.pv (U (Int.fdiv 18446744073709551615 (2^(min (IntKind.wrap .u64 (IntKind.wrap .i64 (64-x0))).toNat 64))))),[])) none:=(zm (fn:=Tryz.f285) _ _).trans (by kernel_rfl)
theorem zgS (x0:List PV) (x1:Int) (x2:Int) (x3:Int):ev 286 [(.pv (.sl 1 x0)),(.pv (I x1)),(.pv (I x2)),(.pv (I x3))] [] =
 cond (decide (x1≥0)) (
 cond (decide (x1<(x0.length:Int))) (
 cond (decide (x2≥0)) (
 cond (decide (x3≥0)) (
 cond (decide (0<=x1)&&decide (x1<(x0.length:Int))) ((x0[(x1).toNat]?).bind fun P1=>(P1.cells[0]?).bind fun P2=>(z4 P2).bind fun L3=>cond (decide (x2<=(L3.2.length:Int))) (
 cond (decide (0<=x1)&&decide (x1<(x0.length:Int))) ((x0[(x1).toNat]?).bind fun P4=>(P4.cells[0]?).bind fun P5=>(z4 P5).bind fun L6=>some (.ret (.pv (Bo (decide (x3<=(IntKind.wrap .i64 ((L6.2.length:Int)-x2)))))),[])) none) (
 some (.ret (.pv (Bo false)),[]))) none) (
 some (.ret (.pv (Bo false)),[]))) (
 some (.ret (.pv (Bo false)),[]))) (
 some (.ret (.pv (Bo false)),[]))) (
 some (.ret (.pv (Bo false)),[])):=(zm (fn:=Tryz.f286) _ _).trans (by kernel_rfl)
theorem zoP (x0:Int) (x1:Int) (x2:Int) (x3:Int):ev 291 [(.pv (U x0)),(.pv (I x1)),(.pv (I x2)),(.pv (U x3))] [] =
 zb (ev 285 [(.pv (I x2))] []) (fun A1 H2=>(za A1).bind fun P3=>(zj .u64 (.pv P3)).bind fun N4=>cond (yP .shl (IntKind.wrap .u64 x1)) (cond (yP .shl (IntKind.wrap .u64 x1)) (some (.ret (.pv (U (IntKind.wrap .u64 (BitVec.ofInt 64 (IntKind.wrap .u64 (BitVec.ofInt 64 x0 &&& ~~~BitVec.ofInt 64 (IntKind.wrap .u64 (N4*2^(min (IntKind.wrap .u64 x1).toNat 64)))).toNat) ||| BitVec.ofInt 64 (IntKind.wrap .u64 (BitVec.ofInt 64 (IntKind.wrap .u64 (x3*2^(min (IntKind.wrap .u64 x1).toNat 64))) &&& BitVec.ofInt 64 (IntKind.wrap .u64 (N4*2^(min (IntKind.wrap .u64 x1).toNat 64)))).toNat)).toNat))),[])) none) none) (fun A1 H2=>some (.pan A1,[])):=(zm (fn:=Tryz.f291) _ _).trans (by kernel_rfl)
theorem zhM (x0__0:List PV) (x1:List PV) (x2:Int):ev 293 [(.ptr 0 0),(.pv (.sl 1 x1)),(.pv (I x2))] [[(.slu 30 1 x0__0)]] =
 cond (((decide (0<=(IntKind.wrap .i64 (8*x2)))&&decide ((IntKind.wrap .i64 (8*x2))<=(IntKind.wrap .i64 (8*x2))))&&decide ((IntKind.wrap .i64 (8*x2))<=140737488355328))&&yf (IntKind.wrap .i64 (8*x2)).toNat 1) (zb (ev 64 [(.pv (.sl 1 (x1.take (List.replicate (IntKind.wrap .i64 (8*x2)).toNat (U8 0)).length++(List.replicate (IntKind.wrap .i64 (8*x2)).toNat (U8 0)).drop x1.length)))] []) (fun A1 H2=>(za A1).bind fun P3=>(zi (.pv P3)).bind fun S4=>(S4[0]?).bind fun P5=>(zi (.pv P3)).bind fun S6=>(S6[1]?).bind fun P7=>(z4 P5).bind fun L8=>cond (decide (L8.1=1)) (cond (yf (x0__0.length+L8.2.length) 8) (some (.ret (.pv (.tup [])),[[(.slu 30 1 (x0__0++L8.2))]])) none) none) (fun A1 H2=>some (.pan A1,[[(.slu 30 1 x0__0)]]))) none:=(zm (fn:=Tryz.f293) _ _).trans (by kernel_rfl)
theorem zl5 (x0:Int):ev 341 [(.pv (U x0))] [] =
 zb (ev 342 [(.pv (U x0)),(.pv (I 2)),(.pv (I 30))] []) (fun A1 H2=>(za A1).bind fun P3=>zb (ev 245 [(.pv (U x0)),(.pv (I 32)),(.pv (I 16))] []) (fun A4 H5=>(za A4).bind fun P6=>(yp (.pv P6)).bind fun Q7=>zb (ev 245 [(.pv (U x0)),(.pv (I 48)),(.pv (I 16))] []) (fun A8 H9=>(za A8).bind fun P10=>(yp (.pv P10)).bind fun Q11=>cond (P3.isCell&&true) (cond ((P3.isCell&&true)&&true) (cond (P3.isCell&&true) (some (.ret (.pv (.agg [(I 0),P3,(I (IntKind.wrap .i64 Q7.2)),(I (IntKind.wrap .i64 Q11.2)),(I 0),(I 0),(Bo false),(I 0),(PV.v (.int .u32 0)),(PV.v (.int .u32 0))])),[])) none) none) none) (fun A8 H9=>some (.pan A8,[]))) (fun A4 H5=>some (.pan A4,[]))) (fun A1 H2=>some (.pan A1,[])):=(zm (fn:=Tryz.f341) _ _).trans (by kernel_rfl)
theorem zl8 (x0:Int):ev 345 [(.pv (U x0))] [] =
 zb (ev 245 [(.pv (U x0)),(.pv (I 2)),(.pv (I 30))] []) (fun A1 H2=>(za A1).bind fun P3=>(yp (.pv P3)).bind fun Q4=>zb (ev 245 [(.pv (U x0)),(.pv (I 32)),(.pv (I 32))] []) (fun A5 H6=>(za A5).bind fun P7=>(yp (.pv P7)).bind fun Q8=>some (.ret (.pv (.agg [(I 0),(I 0),(I 0),(I 0),(I 0),(I 0),(Bo false),(I 0),(PV.v (.int .u32 (IntKind.wrap .u32 Q8.2))),(PV.v (.int .u32 (IntKind.wrap .u32 Q4.2)))])),[])) (fun A5 H6=>some (.pan A5,[]))) (fun A1 H2=>some (.pan A1,[])):=(zm (fn:=Tryz.f345) _ _).trans (by kernel_rfl)
end Go.Proofs.YtjbjeeoifhegfaaGreatDoor.E
