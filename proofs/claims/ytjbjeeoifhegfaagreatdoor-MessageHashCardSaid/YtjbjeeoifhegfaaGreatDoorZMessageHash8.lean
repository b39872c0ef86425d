/- This text is one of those that prove the law MessageHash of the given program, as its statement says it: true on every input that the statement covers. Its conditions are the statement's own. -/
import Derived.KernelRfl
import Derived.Test.YtjbjeeoifhegfaaGreatDoorZMessageHash1
import Derived.Test.YtjbjeeoifhegfaaGreatDoorZMessageHash2
import Derived.Test.YtjbjeeoifhegfaaGreatDoorZMessageHash3
set_option linter.unusedVariables false
set_option linter.unusedSimpArgs false
namespace Go.Proofs.YtjbjeeoifhegfaaGreatDoor.E
theorem zf5:ev 33 [] [] =
 zb (ev 16 [(.pv (.sl 1 [(U8 0),(U8 0),(U8 0),(U8 0),(U8 0),(U8 0),(U8 0),(U8 0)])),(.pv (.agg [(I 5),(I 100),(I 100)]))] []) (fun A1 H2=>(vT 0 2 A1).bind fun Q3=>(zT 5 1 Q3.1).bind fun X4=>(Q3.2[1]?).bind fun P5=>zb (ev 18 [(.pv (.sl 1 [(U8 0),(U8 0),(U8 0),(U8 0),(U8 0),(U8 0),(U8 0),(U8 0)])),(.pv (.sl 1 [(U8 0),(U8 0),(U8 0),(U8 0),(U8 1),(U8 0),(U8 0),(U8 0),(U8 0),(U8 0),(U8 0),(U8 0),(U8 0),(U8 0),(U8 0),(U8 0)])),(.pv (.agg [(I 5),(I 100),(I 100)]))] []) (fun A6 H7=>(za A6).bind fun P8=>(zk (.pv P8)).bind fun S9=>(S9[0]?).bind fun P10=>(zk (.pv P8)).bind fun S11=>(S11[1]?).bind fun P12=>zb (ev 18 [(.pv (.sl 1 [(U8 0),(U8 0),(U8 0),(U8 0),(U8 0),(U8 0),(U8 0),(U8 0)])),(.pv (.sl 1 [])),(.pv (.agg [(I 5),(I 100),(I 100)]))] []) (fun A13 H14=>(za A13).bind fun P15=>(zk (.pv P15)).bind fun S16=>(S16[0]?).bind fun P17=>(zk (.pv P15)).bind fun S18=>(S18[1]?).bind fun P19=>zb (ev 19 [(.pv (.sl 1 [(U8 0),(U8 0),(U8 0),(U8 0),(U8 1),(U8 0),(U8 0),(U8 0),(U8 0),(U8 0),(U8 0),(U8 0),(U8 0),(U8 0),(U8 0),(U8 0)]))] []) (fun A20 H21=>(za A20).bind fun P22=>(zk (.pv P22)).bind fun S23=>(S23[0]?).bind fun P24=>(zk (.pv P22)).bind fun S25=>(S25[1]?).bind fun P26=>zb (ev 20 [(.pv P24),(.pv (.agg [(I 5),(I 100),(I 100)]))] []) (fun A27 H28=>(za A27).bind fun P29=>(zk (.pv P29)).bind fun S30=>(S30[0]?).bind fun P31=>(zk (.pv P29)).bind fun S32=>(S32[1]?).bind fun P33=>zb (ev 20 [(.pv P24),(.pv (.agg [(I 0),(I 0),(I 15)]))] []) (fun A34 H35=>(za A34).bind fun P36=>(zk (.pv P36)).bind fun S37=>(S37[0]?).bind fun P38=>(zk (.pv P36)).bind fun S39=>(S39[1]?).bind fun P40=>zb (ev 17 [(.pv (.sl 1 [(U8 0),(U8 0),(U8 0),(U8 0),(U8 0),(U8 0),(U8 0),(U8 0)])),(.pv (.agg [(I 5),(I 100),(I 100)]))] []) (fun A41 H42=>(za A41).bind fun P43=>(zk (.pv P43)).bind fun S44=>(S44[0]?).bind fun P45=>(zk (.pv P43)).bind fun S46=>(S46[1]?).bind fun P47=>(zj .i64 (.pv P5)).bind fun N48=>cond (N48==0) (
 zb (ev 27 [(.pv (.sl 1 X4)),(.pv (.sl 1 [(U8 0),(U8 0),(U8 0),(U8 0),(U8 1),(U8 0),(U8 0),(U8 0),(U8 0),(U8 0),(U8 0),(U8 0),(U8 0),(U8 0),(U8 0),(U8 0)]))] []) (fun A49 H50=>(za A49).bind fun P51=>(zZ (.pv P51)).bind fun B52=>cond B52 (
 (zZ (.pv P10)).bind fun B53=>cond B53 (
 (zj .i64 (.pv P12)).bind fun N54=>cond (N54==0) (
 (zj .i64 (.pv P19)).bind fun N55=>cond (N55==1) (
 (zj .i64 (.pv P26)).bind fun N56=>cond (N56==0) (
 zb (ev 27 [(.pv P24),(.pv (.sl 1 [(U8 16),(U8 1),(U8 0),(U8 0)]))] []) (fun A57 H58=>(za A57).bind fun P59=>(zZ (.pv P59)).bind fun B60=>cond B60 (
 (zj .i64 (.pv P33)).bind fun N61=>cond (N61==0) (
 zb (ev 27 [(.pv P31),(.pv (.sl 1 [(U8 0),(U8 0),(U8 0),(U8 0),(U8 1),(U8 0),(U8 0),(U8 0),(U8 0),(U8 0),(U8 0),(U8 0),(U8 0),(U8 0),(U8 0),(U8 0)]))] []) (fun A62 H63=>(za A62).bind fun P64=>(zZ (.pv P64)).bind fun B65=>cond B65 (
 (zj .i64 (.pv P40)).bind fun N66=>cond (N66==11) (
 (zj .i64 (.pv P47)).bind fun N67=>cond (N67==0) (
 zb (ev 42 [(.pv (.sl 1 [(U8 0),(U8 0),(U8 0),(U8 0),(U8 0),(U8 0),(U8 0),(U8 0)]))] []) (fun A68 H69=>(za A68).bind fun P70=>(zj .u64 (.pv P45)).bind fun N71=>(zj .u64 (.pv P70)).bind fun N72=>cond (N71==N72) (
 zb (ev 35 [(.pv (.sl 1 [(U8 0),(U8 0),(U8 0),(U8 0),(U8 1),(U8 0),(U8 0),(U8 0),(U8 0),(U8 0),(U8 0),(U8 0),(U8 0),(U8 0),(U8 0),(U8 0)])),(.pv (.agg [(I 5),(I 100),(I 100)]))] []) (fun A73 H74=>(za A73).bind fun P75=>(zZ (.pv P75)).bind fun B76=>cond B76 (
 zb (ev 35 [(.pv (.sl 1 [(U8 0),(U8 0),(U8 0),(U8 0),(U8 0),(U8 0),(U8 0),(U8 0)])),(.pv (.agg [(I 5),(I 100),(I 100)]))] []) (fun A77 H78=>(za A77).bind fun P79=>(zZ (.pv P79)).bind fun B80=>some (.ret (.pv (Bo (!B80))),[])) (fun A77 H78=>some (.pan A77,[]))) (
 some (.ret (.pv (Bo false)),[]))) (fun A73 H74=>some (.pan A73,[]))) (
 some (.ret (.pv (Bo false)),[]))) (fun A68 H69=>some (.pan A68,[]))) (
 some (.ret (.pv (Bo false)),[]))) (
 some (.ret (.pv (Bo false)),[]))) (
 some (.ret (.pv (Bo false)),[]))) (fun A62 H63=>some (.pan A62,[]))) (
 some (.ret (.pv (Bo false)),[]))) (
 some (.ret (.pv (Bo false)),[]))) (fun A57 H58=>some (.pan A57,[]))) (
 some (.ret (.pv (Bo false)),[]))) (
 some (.ret (.pv (Bo false)),[]))) (
 some (.ret (.pv (Bo false)),[]))) (
 some (.ret (.pv (Bo false)),[]))) (
 some (.ret (.pv (Bo false)),[]))) (fun A49 H50=>some (.pan A49,[]))) (
 some (.ret (.pv (Bo false)),[]))) (fun A41 H42=>some (.pan A41,[]))) (fun A34 H35=>some (.pan A34,[]))) (fun A27 H28=>some (.pan A27,[]))) (fun A20 H21=>some (.pan A20,[]))) (fun A13 H14=>some (.pan A13,[]))) (fun A6 H7=>some (.pan A6,[]))) (fun A1 H2=>some (.pan A1,[])):=(zl (fn:=Tryz.f33) _ _).trans (by kernel_rfl)
theorem ziL (x0:List PV):ev 57 [(.pv (.sl 1 x0))] [] =
 zb (ev 107 [(.pv (.sl 1 x0))] []) (fun A1 H2=>(za A1).bind fun P3=>(zk (.pv P3)).bind fun S4=>(S4[0]?).bind fun P5=>(zk (.pv P3)).bind fun S6=>(S6[1]?).bind fun P7=>zb (ev 104 [(.pv P7)] []) (fun A8 H9=>(za A8).bind fun P10=>some (.ret (.pv (.tup [P5,P10])),[])) (fun A8 H9=>some (.pan A8,[]))) (fun A1 H2=>some (.pan A1,[])):=(zl (fn:=Tryz.f57) _ _).trans (by kernel_rfl)
noncomputable def Vl:Code:=Tryz.f60.body.getD .skip
noncomputable def jA (xs0:List PV) (xs1:List PV) (xs2:List PV) (i3:Int) (i4:Int) (i5:Int) (i6:Int) (i7:Int):Option (Out×zf) :=
 yd (zE env ev zP 38 60 0 (sub Vl [1,0,1,0,0])) (zM env 60 0 1) (zU 0 (yi (zX env ev 38 60 0 (sub Vl [1,1])) (yb env 60 Tryz.f60.results.toList 0))) ⟨zW [(0,(.pv (.sl 1 xs0))),(1,(.pv (.sl 1 xs1))),(5,(.ptr 0 0)),(14,(.slu 67 1 xs2)),(15,(.pv (I i3))),(16,(.pv (I i4)))],[[(.pv (I i5)),(.pv (I i6)),(.pv (I i7))]]⟩
noncomputable def Ji (xs0:List PV) (xs1:List PV) (xs2:List PV) (i3:Int) (i4:Int) (i5:Int) (i6:Int) (i7:Int):Option (Out×zf) :=
 yd (zE env ev zP 38 60 0 (sub Vl [1,0,1,0,0])) (zM env 60 0 1) (zU 0 (yi (zX env ev 38 60 0 (sub Vl [1,1])) (yb env 60 Tryz.f60.results.toList 0))) ⟨zW [(0,(.pv (.sl 1 xs0))),(1,(.pv (.sl 1 xs1))),(5,(.ptr 0 0)),(14,(.pv (.sl 1 xs2))),(15,(.pv (I i3))),(16,(.pv (I i4)))],[[(.pv (I i5)),(.pv (I i6)),(.pv (I i7))]]⟩
theorem zhb (xs0:List PV) (xs1:List PV) (xs2:List PV) (i3:Int) (i4:Int) (i5:Int) (i6:Int) (i7:Int):jA xs0 xs1 xs2 i3 i4 i5 i6 i7 =
 cond (decide (i4<i3)) (
 cond (decide (0<=i4)&&decide (i4<(xs2.length:Int))) ((xs2[(i4).toNat]?).bind fun P1=>(P1.cells[0]?).bind fun P2=>zb (ev 110 [(.pv P2),(.pv (.agg [(I i5),(I i6),(I i7)]))] []) (fun A3 H4=>(za A3).bind fun P5=>(zk (.pv P5)).bind fun S6=>(S6[0]?).bind fun P7=>(zk (.pv P5)).bind fun S8=>(S8[1]?).bind fun P9=>(zj .i64 (.pv P9)).bind fun N10=>cond (N10 != 0) (
 some (.ret (.pv (.tup [(Bo false),P9])),[])) (
 Ji xs0 xs1 xs2 i3 (IntKind.wrap .i64 (i4+1)) i5 i6 i7)) (fun A3 H4=>some (.pan A3,[]))) none) (
 zb (ev 112 [(.pv (.sl 1 xs0))] []) (fun A1 H2=>(za A1).bind fun P3=>zb (ev 112 [(.pv (.sl 1 xs1))] []) (fun A4 H5=>(za A4).bind fun P6=>zb (ev 111 [(.pv (.agg [(.sl 1 xs0),(.sl 1 xs1)])),(.pv P3),(.pv P6)] []) (fun A7 H8=>(za A7).bind fun P9=>some (.ret (.pv (.tup [P9,(I 0)])),[])) (fun A7 H8=>some (.pan A7,[]))) (fun A4 H5=>some (.pan A4,[]))) (fun A1 H2=>some (.pan A1,[]))):=(yg ..).trans (by kernel_rfl)
theorem jB (xs0:List PV) (xs1:List PV) (xs2:List PV) (i3:Int) (i4:Int) (i5:Int) (i6:Int) (i7:Int):Ji xs0 xs1 xs2 i3 i4 i5 i6 i7 =
 cond (decide (i4<i3)) (
 cond (decide (0<=i4)&&decide (i4<(xs2.length:Int))) ((xs2[(i4).toNat]?).bind fun P1=>(P1.cells[0]?).bind fun P2=>zb (ev 110 [(.pv P2),(.pv (.agg [(I i5),(I i6),(I i7)]))] []) (fun A3 H4=>(za A3).bind fun P5=>(zk (.pv P5)).bind fun S6=>(S6[0]?).bind fun P7=>(zk (.pv P5)).bind fun S8=>(S8[1]?).bind fun P9=>(zj .i64 (.pv P9)).bind fun N10=>cond (N10 != 0) (
 some (.ret (.pv (.tup [(Bo false),P9])),[])) (
 Ji xs0 xs1 xs2 i3 (IntKind.wrap .i64 (i4+1)) i5 i6 i7)) (fun A3 H4=>some (.pan A3,[]))) none) (
 zb (ev 112 [(.pv (.sl 1 xs0))] []) (fun A1 H2=>(za A1).bind fun P3=>zb (ev 112 [(.pv (.sl 1 xs1))] []) (fun A4 H5=>(za A4).bind fun P6=>zb (ev 111 [(.pv (.agg [(.sl 1 xs0),(.sl 1 xs1)])),(.pv P3),(.pv P6)] []) (fun A7 H8=>(za A7).bind fun P9=>some (.ret (.pv (.tup [P9,(I 0)])),[])) (fun A7 H8=>some (.pan A7,[]))) (fun A4 H5=>some (.pan A4,[]))) (fun A1 H2=>some (.pan A1,[]))):=(yg ..).trans (by kernel_rfl)
theorem zhc (x0:List PV) (x1:List PV) (x2_0:Int) (x2_1:Int) (x2_2:Int):ev 60 [(.pv (.sl 1 x0)),(.pv (.sl 1 x1)),(.pv (.agg [(I x2_0),(I x2_1),(I x2_2)]))] [] =
 jA x0 x1 [(.sl 1 x0),(.sl 1 x1)] 2 0 x2_0 x2_1 x2_2:=(zl (fn:=Tryz.f60) _ _).trans (by kernel_rfl)
theorem zgc (x0:List PV) (x1:Int):ev 85 [(.pv (.sl 1 x0)),(.pv (I x1))] [] =
 cond (decide (0<=(IntKind.wrap .i64 (4*x1)))&&decide ((IntKind.wrap .i64 (4*x1))<(x0.length:Int))) ((x0[(IntKind.wrap .i64 (4*x1)).toNat]?).bind fun P1=>(P1.cells[0]?).bind fun P2=>(yr (.pv P2)).bind fun Q3=>cond (decide (0<=(IntKind.wrap .i64 ((IntKind.wrap .i64 (4*x1))+1)))&&decide ((IntKind.wrap .i64 ((IntKind.wrap .i64 (4*x1))+1))<(x0.length:Int))) ((x0[(IntKind.wrap .i64 ((IntKind.wrap .i64 (4*x1))+1)).toNat]?).bind fun P4=>(P4.cells[0]?).bind fun P5=>(yr (.pv P5)).bind fun Q6=>cond (decide (0<=(IntKind.wrap .i64 ((IntKind.wrap .i64 (4*x1))+2)))&&decide ((IntKind.wrap .i64 ((IntKind.wrap .i64 (4*x1))+2))<(x0.length:Int))) ((x0[(IntKind.wrap .i64 ((IntKind.wrap .i64 (4*x1))+2)).toNat]?).bind fun P7=>(P7.cells[0]?).bind fun P8=>(yr (.pv P8)).bind fun Q9=>cond (decide (0<=(IntKind.wrap .i64 ((IntKind.wrap .i64 (4*x1))+3)))&&decide ((IntKind.wrap .i64 ((IntKind.wrap .i64 (4*x1))+3))<(x0.length:Int))) ((x0[(IntKind.wrap .i64 ((IntKind.wrap .i64 (4*x1))+3)).toNat]?).bind fun P10=>(P10.cells[0]?).bind fun P11=>(yr (.pv P11)).bind fun Q12=>some (.ret (.pv (I (IntKind.wrap .i64 ((IntKind.wrap .i64 ((IntKind.wrap .i64 ((IntKind.wrap .i64 Q3.2)+(IntKind.wrap .i64 (256*(IntKind.wrap .i64 Q6.2)))))+(IntKind.wrap .i64 (65536*(IntKind.wrap .i64 Q9.2)))))+(IntKind.wrap .i64 (16777216*(IntKind.wrap .i64 Q12.2))))))),[])) none) none) none) none:=(zl (fn:=Tryz.f85) _ _).trans (by kernel_rfl)
noncomputable def qG:Code:=Tryz.f94.body.getD .skip
noncomputable def VO (xs0:List PV) (i1:Int) (i2:Int) (i3:Int):Option (Out×zf) :=
 yd (zE env ev zP 34 94 0 (sub qG [1,1,1,0,1,0,0])) (zM env 94 0 0) (zU 0 (yi (zX env ev 34 94 0 (sub qG [1,1,1,1])) (yb env 94 Tryz.f94.results.toList 0))) ⟨zW [(0,(.pv (.sl 1 xs0))),(1,(.pv (I i1))),(6,(.pv (U i2))),(7,(.pv (I i3)))],[]⟩
theorem rI (xs0:List PV) (i1:Int) (i2:Int) (i3:Int):VO xs0 i1 i2 i3 =
 cond (decide (i3≥0)) (
 cond (decide (0<=(IntKind.wrap .i64 ((IntKind.wrap .i64 (8*i1))+i3)))&&decide ((IntKind.wrap .i64 ((IntKind.wrap .i64 (8*i1))+i3))<(xs0.length:Int))) ((xs0[(IntKind.wrap .i64 ((IntKind.wrap .i64 (8*i1))+i3)).toNat]?).bind fun P1=>(P1.cells[0]?).bind fun P2=>(yr (.pv P2)).bind fun Q3=>VO xs0 i1 (IntKind.wrap .u64 ((IntKind.wrap .u64 (i2*256))+(IntKind.wrap .u64 Q3.2))) (IntKind.wrap .i64 (i3-1))) none) (
 some (.ret (.pv (.tup [(U i2),(Bo true)])),[])):=(yg ..).trans (by kernel_rfl)
theorem zf6 (x0:List PV) (x1:Int):ev 94 [(.pv (.sl 1 x0)),(.pv (I x1))] [] =
 cond (decide (x1<0)) (
 some (.ret (.pv (.tup [(U 0),(Bo false)])),[])) (
 cond (decide (x1>(IntKind.wrap .i64 ((IntKind.wrap .i64 (Int.tdiv (x0.length:Int) 8))-1)))) (
  some (.ret (.pv (.tup [(U 0),(Bo false)])),[])) (
  VO x0 x1 0 7)):=(zl (fn:=Tryz.f94) _ _).trans (by kernel_rfl)
theorem zfO (x0:List PV) (x1_0:Int) (x1_1:Int) (x1_2:Int):ev 103 [(.pv (.sl 1 x0)),(.pv (.agg [(I x1_0),(I x1_1),(I x1_2)]))] [] =
 zb (ev 163 [(.pv (.sl 1 x0)),(.pv (.agg [(I x1_0),(I x1_1),(I x1_2)])),(.pv (.v (.func (.func 164) #[] #[])))] []) (fun A1 H2=>(za A1).bind fun P3=>(zk (.pv P3)).bind fun S4=>(S4[0]?).bind fun P5=>(zk (.pv P3)).bind fun S6=>(S6[1]?).bind fun P7=>some (.ret (.pv (.tup [P5,P7])),[])) (fun A1 H2=>some (.pan A1,[])):=(zl (fn:=Tryz.f103) _ _).trans (by kernel_rfl)
noncomputable def Y0:Code:=Tryz.f107.body.getD .skip
noncomputable def qV:Code:=Tryz.f172.body.getD .skip
noncomputable def Xu (xs0:List PV) (xs1:List PV) (i2:Int) (i3:Int) (xs4:List PV) (i5:Int):Option (Out×zf) :=
 yd (zE env ev zP 77 107 0 (sub Y0 [1,1,1,1,1,1,1,0,1,0,0])) (zM env 107 0 2) (zU 0 (yi (zX env ev 77 107 0 (sub Y0 [1,1,1,1,1,1,1,1])) (Ja env ev 107 172 Tryz.f107 Tryz.f172 ⟨sub Y0 [0],sub Y0 [1,1],sub qV [1],[2,3],2,11⟩ 0 [(.ptr 0 0),(.ptr 1 0)] [(2,(.ptr 0 0)),(3,(.ptr 1 0))]))) ⟨zW [(0,(.pv (.sl 1 xs0))),(2,(.ptr 0 0)),(3,(.ptr 1 0)),(6,(.pv (.sl 1 xs1))),(37,(.pv (I i2))),(38,(.pv (I i3)))],[[(.slu 75 1 xs4)],[(.pv (I i5))]]⟩
theorem j4 (xs0:List PV) (xs1:List PV) (i2:Int) (i3:Int) (xs4:List PV) (i5:Int):Xu xs0 xs1 i2 i3 xs4 i5 =
 cond (decide (i3<i2)) (
 zb (ev 173 [(.pv (.sl 1 xs0)),(.pv (I (IntKind.wrap .i64 (i3+1))))] []) (fun A1 H2=>(za A1).bind fun P3=>(zj .i64 (.pv P3)).bind fun N4=>cond (decide (N4<536870912)) (
 (zj .i64 (.pv P3)).bind fun N5=>zb (ev 174 [(.pv (Bo (decide ((IntKind.wrap .i64 (N5*8))<=(xs1.length:Int)))))] []) (fun A6 H7=>(za A6).bind fun P8=>(zj .i64 (.pv P3)).bind fun N9=>cond (decide (0<=(IntKind.wrap .i64 (N9*8)))&&decide ((IntKind.wrap .i64 (N9*8))<=(xs1.length:Int))) (zb (ev 64 [(.pv (.sl 1 ((xs1.take (IntKind.wrap .i64 (N9*8)).toNat).drop 0)))] []) (fun A10 H11=>(za A10).bind fun P12=>(zk (.pv P12)).bind fun S13=>(S13[0]?).bind fun P14=>(zk (.pv P12)).bind fun S15=>(S15[1]?).bind fun P16=>cond ((decide (P14.cells.length=1)&&P14.cells.all PV.isCell)&&true) (cond (yk (xs4.length+1) 24) ((zj .i64 (.pv P3)).bind fun N17=>cond ((decide (0<=(IntKind.wrap .i64 (N17*8)))&&decide ((IntKind.wrap .i64 (N17*8))<=(xs1.length:Int)))&&decide ((xs1.length:Int)<=(xs1.length:Int))) (Xu xs0 ((xs1.take (xs1.length:Int).toNat).drop (IntKind.wrap .i64 (N17*8)).toNat) i2 (IntKind.wrap .i64 (i3+1)) (xs4++[P14]) i5) none) none) none) (fun A10 H11=>(yG (.pv A10)).bind fun Z12=>cond (!Z12) (
  (xE (.pv A10)).bind fun Q13=>cond (decide (Q13.1=225)) (cond (decide (Q13.2.cells.length=0)) (some (.ret (.pv (.tup [(.sl 1 []),(I 1)])),[])) none) none) (
  some (.ret (.pv (.tup [(.sl 1 xs4),(I i5)])),[])))) none) (fun A6 H7=>(yG (.pv A6)).bind fun Z8=>cond (!Z8) (
  (xE (.pv A6)).bind fun Q9=>cond (decide (Q9.1=225)) (cond (decide (Q9.2.cells.length=0)) (some (.ret (.pv (.tup [(.sl 1 []),(I 1)])),[])) none) none) (
  some (.ret (.pv (.tup [(.sl 1 xs4),(I i5)])),[])))) (
 zb (ev 174 [(.pv (Bo false))] []) (fun A5 H6=>(za A5).bind fun P7=>(zj .i64 (.pv P3)).bind fun N8=>cond (decide (0<=(IntKind.wrap .i64 (N8*8)))&&decide ((IntKind.wrap .i64 (N8*8))<=(xs1.length:Int))) (zb (ev 64 [(.pv (.sl 1 ((xs1.take (IntKind.wrap .i64 (N8*8)).toNat).drop 0)))] []) (fun A9 H10=>(za A9).bind fun P11=>(zk (.pv P11)).bind fun S12=>(S12[0]?).bind fun P13=>(zk (.pv P11)).bind fun S14=>(S14[1]?).bind fun P15=>cond ((decide (P13.cells.length=1)&&P13.cells.all PV.isCell)&&true) (cond (yk (xs4.length+1) 24) ((zj .i64 (.pv P3)).bind fun N16=>cond ((decide (0<=(IntKind.wrap .i64 (N16*8)))&&decide ((IntKind.wrap .i64 (N16*8))<=(xs1.length:Int)))&&decide ((xs1.length:Int)<=(xs1.length:Int))) (Xu xs0 ((xs1.take (xs1.length:Int).toNat).drop (IntKind.wrap .i64 (N16*8)).toNat) i2 (IntKind.wrap .i64 (i3+1)) (xs4++[P13]) i5) none) none) none) (fun A9 H10=>(yG (.pv A9)).bind fun Z11=>cond (!Z11) (
   (xE (.pv A9)).bind fun Q12=>cond (decide (Q12.1=225)) (cond (decide (Q12.2.cells.length=0)) (some (.ret (.pv (.tup [(.sl 1 []),(I 1)])),[])) none) none) (
   some (.ret (.pv (.tup [(.sl 1 xs4),(I i5)])),[])))) none) (fun A5 H6=>(yG (.pv A5)).bind fun Z7=>cond (!Z7) (
   (xE (.pv A5)).bind fun Q8=>cond (decide (Q8.1=225)) (cond (decide (Q8.2.cells.length=0)) (some (.ret (.pv (.tup [(.sl 1 []),(I 1)])),[])) none) none) (
   some (.ret (.pv (.tup [(.sl 1 xs4),(I i5)])),[]))))) (fun A1 H2=>(yG (.pv A1)).bind fun Z3=>cond (!Z3) (
  (xE (.pv A1)).bind fun Q4=>cond (decide (Q4.1=225)) (cond (decide (Q4.2.cells.length=0)) (some (.ret (.pv (.tup [(.sl 1 []),(I 1)])),[])) none) none) (
  some (.ret (.pv (.tup [(.sl 1 xs4),(I i5)])),[])))) (
 zb (ev 174 [(.pv (Bo ((xs1.length:Int)==0)))] []) (fun A1 H2=>(za A1).bind fun P3=>some (.ret (.pv (.tup [(.sl 1 xs4),(I 0)])),[])) (fun A1 H2=>(yG (.pv A1)).bind fun Z3=>cond (!Z3) (
   (xE (.pv A1)).bind fun Q4=>cond (decide (Q4.1=225)) (cond (decide (Q4.2.cells.length=0)) (some (.ret (.pv (.tup [(.sl 1 []),(I 1)])),[])) none) none) (
   some (.ret (.pv (.tup [(.sl 1 xs4),(I i5)])),[])))):=(yg ..).trans (by kernel_rfl)
theorem zhK (x0:List PV):ev 107 [(.pv (.sl 1 x0))] [] =
 zb (ev 173 [(.pv (.sl 1 x0)),(.pv (I 0))] []) (fun A1 H2=>(za A1).bind fun P3=>(zj .i64 (.pv P3)).bind fun N4=>zb (ev 174 [(.pv (Bo (decide ((IntKind.wrap .i64 (N4+1))<=512))))] []) (fun A5 H6=>(za A5).bind fun P7=>zb (ev 167 [(.pv (I (IntKind.wrap .i64 (N4+1))))] []) (fun A8 H9=>(za A8).bind fun P10=>(zj .i64 (.pv P10)).bind fun N11=>cond (decide ((x0.length:Int)≥N11)) (
 (yr (.pv P10)).bind fun Q12=>cond ((decide (0<=(IntKind.wrap .i64 (4*(IntKind.wrap .i64 ((IntKind.wrap .i64 (N4+1))+1)))))&&decide ((IntKind.wrap .i64 (4*(IntKind.wrap .i64 ((IntKind.wrap .i64 (N4+1))+1))))<=Q12.2))&&decide (Q12.2<=(x0.length:Int))) (zb (ev 175 [(.pv (.sl 1 ((x0.take (Q12.2).toNat).drop (IntKind.wrap .i64 (4*(IntKind.wrap .i64 ((IntKind.wrap .i64 (N4+1))+1)))).toNat)))] []) (fun A13 H14=>(za A13).bind fun P15=>(zZ (.pv P15)).bind fun B16=>zb (ev 174 [(.pv (Bo B16))] []) (fun A17 H18=>(za A17).bind fun P19=>(yr (.pv P10)).bind fun Q20=>cond ((decide (0<=Q20.2)&&decide (Q20.2<=(x0.length:Int)))&&decide ((x0.length:Int)<=(x0.length:Int))) (Xu x0 ((x0.take (x0.length:Int).toNat).drop (Q20.2).toNat) (IntKind.wrap .i64 (N4+1)) 0 [] 0) none) (fun A17 H18=>(yG (.pv A17)).bind fun Z19=>cond (!Z19) (
  (xE (.pv A17)).bind fun Q20=>cond (decide (Q20.1=225)) (cond (decide (Q20.2.cells.length=0)) (some (.ret (.pv (.tup [(.sl 1 []),(I 1)])),[])) none) none) (
  some (.ret (.pv (.tup [(.sl 1 []),(I 0)])),[])))) (fun A13 H14=>(yG (.pv A13)).bind fun Z15=>cond (!Z15) (
  (xE (.pv A13)).bind fun Q16=>cond (decide (Q16.1=225)) (cond (decide (Q16.2.cells.length=0)) (some (.ret (.pv (.tup [(.sl 1 []),(I 1)])),[])) none) none) (
  some (.ret (.pv (.tup [(.sl 1 []),(I 0)])),[])))) none) (
 zb (ev 174 [(.pv (Bo false))] []) (fun A12 H13=>(za A12).bind fun P14=>(yr (.pv P10)).bind fun Q15=>cond ((decide (0<=Q15.2)&&decide (Q15.2<=(x0.length:Int)))&&decide ((x0.length:Int)<=(x0.length:Int))) (Xu x0 ((x0.take (x0.length:Int).toNat).drop (Q15.2).toNat) (IntKind.wrap .i64 (N4+1)) 0 [] 0) none) (fun A12 H13=>(yG (.pv A12)).bind fun Z14=>cond (!Z14) (
   (xE (.pv A12)).bind fun Q15=>cond (decide (Q15.1=225)) (cond (decide (Q15.2.cells.length=0)) (some (.ret (.pv (.tup [(.sl 1 []),(I 1)])),[])) none) none) (
   some (.ret (.pv (.tup [(.sl 1 []),(I 0)])),[]))))) (fun A8 H9=>(yG (.pv A8)).bind fun Z10=>cond (!Z10) (
  (xE (.pv A8)).bind fun Q11=>cond (decide (Q11.1=225)) (cond (decide (Q11.2.cells.length=0)) (some (.ret (.pv (.tup [(.sl 1 []),(I 1)])),[])) none) none) (
  some (.ret (.pv (.tup [(.sl 1 []),(I 0)])),[])))) (fun A5 H6=>(yG (.pv A5)).bind fun Z7=>cond (!Z7) (
  (xE (.pv A5)).bind fun Q8=>cond (decide (Q8.1=225)) (cond (decide (Q8.2.cells.length=0)) (some (.ret (.pv (.tup [(.sl 1 []),(I 1)])),[])) none) none) (
  some (.ret (.pv (.tup [(.sl 1 []),(I 0)])),[])))) (fun A1 H2=>(yG (.pv A1)).bind fun Z3=>cond (!Z3) (
  (xE (.pv A1)).bind fun Q4=>cond (decide (Q4.1=225)) (cond (decide (Q4.2.cells.length=0)) (some (.ret (.pv (.tup [(.sl 1 []),(I 1)])),[])) none) none) (
  some (.ret (.pv (.tup [(.sl 1 []),(I 0)])),[]))):=(Jk (f:=107) (g:=172) (fn:=Tryz.f107) (gn:=Tryz.f172) (d:=⟨sub Y0 [0],sub Y0 [1,1],sub qV [1],[2,3],2,11⟩) (by kernel_rfl) (by kernel_rfl) (by kernel_rfl) (by kernel_rfl) (by kernel_rfl) _ _).trans (by kernel_rfl)
theorem zfs (x0_0:Int) (x0_1:Int) (x0_2:Int):ev 131 [(.pv (.agg [(I x0_0),(I x0_1),(I x0_2)]))] [] =
 some (.ret (.pv (.agg [(I (if 0>x0_1 then 0 else x0_1))])),[]):=(zl (fn:=Tryz.f131) _ _).trans (by kernel_rfl)
noncomputable def qM:Code:=Tryz.f134.body.getD .skip
noncomputable def VS (i0:Int) (i1:Int) (i2:Int) (i3:Int) (xs4:List PV) (xs5:List PV) (i6:Int) (i7:Int) (i8:Int) (xs9:List PV) (xs10:List PV):Option (Out×zf) :=
 yd (zE env ev zP 61 134 0 (sub qM [1,1,0,1,0,0])) (zM env 134 0 2) (zU 0 (yi (zX env ev 61 134 0 (sub qM [1,1,1])) (yb env 134 Tryz.f134.results.toList 0))) ⟨zW [(2,(.ptr 0 0)),(3,(.ptr 1 0)),(5,(.pv (I i0)))],[[(.pv (I i1)),(.pv (I i2)),(.pv (I i3)),(.pv (.sl 1 xs4)),(.pv (.sl 5 xs5))],[(.pv (I i6)),(.pv (I i7)),(.pv (I i8)),(.pv (.sl 1 xs9)),(.pv (.sl 5 xs10))]]⟩
theorem rM (i0:Int) (i1:Int) (i2:Int) (i3:Int) (xs4:List PV) (xs5:List PV) (i6:Int) (i7:Int) (i8:Int) (xs9:List PV) (xs10:List PV):VS i0 i1 i2 i3 xs4 xs5 i6 i7 i8 xs9 xs10 =
 cond (decide (i0<(xs5.length:Int))) (
 cond (decide (0<=i0)&&decide (i0<(xs5.length:Int))) ((xs5[(i0).toNat]?).bind fun P1=>cond (decide (5<=P1.cells.length)) (cond (decide (0<=i0)&&decide (i0<(xs10.length:Int))) ((xs10[(i0).toNat]?).bind fun P2=>cond (decide (5<=P2.cells.length)) (zb (ev 134 [(.pv (.agg ((P1.cells.drop 0).take 5))),(.pv (.agg ((P2.cells.drop 0).take 5)))] []) (fun A3 H4=>(za A3).bind fun P5=>(zZ (.pv P5)).bind fun B6=>cond (!B6) (
 some (.ret (.pv (Bo false)),[])) (
 VS (IntKind.wrap .i64 (i0+1)) i1 i2 i3 xs4 xs5 i6 i7 i8 xs9 xs10)) (fun A3 H4=>some (.pan A3,[]))) none) none) none) none) (
 some (.ret (.pv (Bo true)),[])):=(yg ..).trans (by kernel_rfl)
theorem zgd (x0_0:Int) (x0_1:Int) (x0_2:Int) (x0_3:List PV) (x0_4:List PV) (x1_0:Int) (x1_1:Int) (x1_2:Int) (x1_3:List PV) (x1_4:List PV):ev 134 [(.pv (.agg [(I x0_0),(I x0_1),(I x0_2),(.sl 1 x0_3),(.sl 5 x0_4)])),(.pv (.agg [(I x1_0),(I x1_1),(I x1_2),(.sl 1 x1_3),(.sl 5 x1_4)]))] [] =
 cond (x0_0 != x1_0) (
 some (.ret (.pv (Bo false)),[])) (
 cond (x0_1 != x1_1) (
  some (.ret (.pv (Bo false)),[])) (
  cond (x0_2 != x1_2) (
   some (.ret (.pv (Bo false)),[])) (
   zb (ev 27 [(.pv (.sl 1 x0_3)),(.pv (.sl 1 x1_3))] []) (fun A1 H2=>(za A1).bind fun P3=>(zZ (.pv P3)).bind fun B4=>cond (!B4) (
    some (.ret (.pv (Bo false)),[])) (
    cond ((x0_4.length:Int) != (x1_4.length:Int)) (
     some (.ret (.pv (Bo false)),[])) (
     VS 0 x0_0 x0_1 x0_2 x0_3 x0_4 x1_0 x1_1 x1_2 x1_3 x1_4))) (fun A1 H2=>some (.pan A1,[]))))):=(zl (fn:=Tryz.f134) _ _).trans (by kernel_rfl)
theorem rz (x0__0:List PV) (x0__1:Int) (x0__2_0:Int) (x0__2_1:Int) (x0__2_2:Int) (x0__3_0:Int) (x1:Int) (x2:Int) (x3_0:Int) (x3_1:Int) (x3_2:Int) (x3_3:Int) (x3_4:Int) (x3_5:Int) (x3_6:Bool) (x3_7:Int) (x3_8:Int) (x3_9:Int):ev 194 [(.ptr 0 0),(.pv (I x1)),(.pv (I x2)),(.pv (.agg [(I x3_0),(I x3_1),(I x3_2),(I x3_3),(I x3_4),(I x3_5),(Bo x3_6),(I x3_7),(PV.v (.int .u32 x3_8)),(PV.v (.int .u32 x3_9))]))] [[(.pv (.sl 1 x0__0)),(.pv (I x0__1)),(.pv (I x0__2_0)),(.pv (I x0__2_1)),(.pv (I x0__2_2)),(.pv (I x0__3_0))]] =
 cond (x3_4==7) (
 zb (ev 249 [(.ptr 0 0),(.pv (I x1)),(.pv (I x2)),(.pv (.agg [(I x3_0),(I x3_1),(I x3_2),(I x3_3),(I x3_4),(I x3_5),(Bo x3_6),(I x3_7),(PV.v (.int .u32 x3_8)),(PV.v (.int .u32 x3_9))]))] [[(.pv (.sl 1 x0__0)),(.pv (I x0__1)),(.pv (I x0__2_0)),(.pv (I x0__2_1)),(.pv (I x0__2_2)),(.pv (I x0__3_0))]]) (fun A1 H2=>(H2[0]?).bind fun C3=>(C3[0]?).bind fun E4=>(za E4).bind fun P5=>(C3[1]?).bind fun E6=>(za E6).bind fun P7=>(C3[2]?).bind fun E8=>(za E8).bind fun P9=>(C3[3]?).bind fun E10=>(za E10).bind fun P11=>(C3[4]?).bind fun E12=>(za E12).bind fun P13=>(C3[5]?).bind fun E14=>(za E14).bind fun P15=>cond (decide (C3.length=6)) (cond (decide (H2.length=1)) ((za A1).bind fun P16=>some (.ret (.pv (.tup [])),[[(.pv P5),(.pv P7),(.pv P9),(.pv P11),(.pv P13),(.pv P15)]])) none) none) (fun A1 H2=>(H2[0]?).bind fun C3=>(C3[0]?).bind fun E4=>(za E4).bind fun P5=>(C3[1]?).bind fun E6=>(za E6).bind fun P7=>(C3[2]?).bind fun E8=>(za E8).bind fun P9=>(C3[3]?).bind fun E10=>(za E10).bind fun P11=>(C3[4]?).bind fun E12=>(za E12).bind fun P13=>(C3[5]?).bind fun E14=>(za E14).bind fun P15=>cond (decide (C3.length=6)) (cond (decide (H2.length=1)) (some (.pan A1,[[(.pv P5),(.pv P7),(.pv P9),(.pv P11),(.pv P13),(.pv P15)]])) none) none)) (
 zb (ev 221 [(.pv (I x3_4)),(.pv (I x3_5))] []) (fun A1 H2=>(za A1).bind fun P3=>zb (ev 246 [(.ptr 0 0),(.pv (I x1)),(.pv (.agg [(I x3_0),(I x3_1),(I x3_2),(I x3_3),(I x3_4),(I x3_5),(Bo x3_6),(I x3_7),(PV.v (.int .u32 x3_8)),(PV.v (.int .u32 x3_9))])),(.pv P3)] [[(.pv (.sl 1 x0__0)),(.pv (I x0__1)),(.pv (I x0__2_0)),(.pv (I x0__2_1)),(.pv (I x0__2_2)),(.pv (I x0__3_0))]]) (fun A4 H5=>(H5[0]?).bind fun C6=>(C6[0]?).bind fun E7=>(za E7).bind fun P8=>(C6[1]?).bind fun E9=>(za E9).bind fun P10=>(C6[2]?).bind fun E11=>(za E11).bind fun P12=>(C6[3]?).bind fun E13=>(za E13).bind fun P14=>(C6[4]?).bind fun E15=>(za E15).bind fun P16=>(C6[5]?).bind fun E17=>(za E17).bind fun P18=>cond (decide (C6.length=6)) (cond (decide (H5.length=1)) ((za A4).bind fun P19=>zb (ev 247 [(.ptr 0 0),(.pv P3)] [[(.pv P8),(.pv P10),(.pv P12),(.pv P14),(.pv P16),(.pv P18)]]) (fun A20 H21=>(H21[0]?).bind fun C22=>(C22[0]?).bind fun E23=>(za E23).bind fun P24=>(C22[1]?).bind fun E25=>(za E25).bind fun P26=>(C22[2]?).bind fun E27=>(za E27).bind fun P28=>(C22[3]?).bind fun E29=>(za E29).bind fun P30=>(C22[4]?).bind fun E31=>(za E31).bind fun P32=>(C22[5]?).bind fun E33=>(za E33).bind fun P34=>cond (decide (C22.length=6)) (cond (decide (H21.length=1)) ((za A20).bind fun P35=>cond (x3_4==6) (
  zb (ev 248 [(.ptr 0 0),(.pv P19),(.pv P3),(.pv (I x2))] [[(.pv P24),(.pv P26),(.pv P28),(.pv P30),(.pv P32),(.pv P34)]]) (fun A36 H37=>(H37[0]?).bind fun C38=>(C38[0]?).bind fun E39=>(za E39).bind fun P40=>(C38[1]?).bind fun E41=>(za E41).bind fun P42=>(C38[2]?).bind fun E43=>(za E43).bind fun P44=>(C38[3]?).bind fun E45=>(za E45).bind fun P46=>(C38[4]?).bind fun E47=>(za E47).bind fun P48=>(C38[5]?).bind fun E49=>(za E49).bind fun P50=>cond (decide (C38.length=6)) (cond (decide (H37.length=1)) ((za A36).bind fun P51=>some (.ret (.pv (.tup [])),[[(.pv P40),(.pv P42),(.pv P44),(.pv P46),(.pv P48),(.pv P50)]])) none) none) (fun A36 H37=>(H37[0]?).bind fun C38=>(C38[0]?).bind fun E39=>(za E39).bind fun P40=>(C38[1]?).bind fun E41=>(za E41).bind fun P42=>(C38[2]?).bind fun E43=>(za E43).bind fun P44=>(C38[3]?).bind fun E45=>(za E45).bind fun P46=>(C38[4]?).bind fun E47=>(za E47).bind fun P48=>(C38[5]?).bind fun E49=>(za E49).bind fun P50=>cond (decide (C38.length=6)) (cond (decide (H37.length=1)) (some (.pan A36,[[(.pv P40),(.pv P42),(.pv P44),(.pv P46),(.pv P48),(.pv P50)]])) none) none)) (
  (zj .i64 (.pv P19)).bind fun N36=>(zj .i64 (.pv P3)).bind fun N37=>(zY P24).bind fun L38=>cond (decide (L38.1=1)) ((yr (.pv P19)).bind fun Q39=>cond ((decide (0<=Q39.2)&&decide (Q39.2<=(IntKind.wrap .i64 (N36+N37))))&&decide ((IntKind.wrap .i64 (N36+N37))<=(L38.2.length:Int))) (zb (ev 117 [(.pv (.sl L38.1 ((L38.2.take (IntKind.wrap .i64 (N36+N37)).toNat).drop (Q39.2).toNat)))] []) (fun A40 H41=>(za A40).bind fun P42=>zb (ev 235 [(.pv (I x3_4)),(.pv (I x3_5)),(.pv P42)] []) (fun A43 H44=>(zT 5 1 A43).bind fun X45=>(zY P42).bind fun L46=>cond (decide (0<=(L46.2.length:Int))&&decide ((L46.2.length:Int)<=140737488355328)) (cond (yk (X45.length+(List.replicate (L46.2.length:Int).toNat (U8 0)).length) 1) ((zY P42).bind fun L47=>cond (decide (0<=(L47.2.length:Int))&&decide ((L47.2.length:Int)<=((X45++(List.replicate (L46.2.length:Int).toNat (U8 0))).length:Int))) ((vB (((X45++(List.replicate (L46.2.length:Int).toNat (U8 0))).take (L47.2.length:Int).toNat).drop 0)).bind fun ns_48=>(zY P42).bind fun L49=>cond (decide (L49.1=1)) ((vB L49.2).bind fun ns_50=>zb (ev 130 [(.pv (Bo ((strOfNums ns_48).toList==(strOfNums ns_50).toList)))] []) (fun A51 H52=>(za A51).bind fun P53=>some (.ret (.pv (.tup [])),[[(.pv P24),(.pv P26),(.pv P28),(.pv P30),(.pv P32),(.pv P34)]])) (fun A51 H52=>some (.pan A51,[[(.pv P24),(.pv P26),(.pv P28),(.pv P30),(.pv P32),(.pv P34)]]))) none) none) none) none) (fun A43 H44=>some (.pan A43,[[(.pv P24),(.pv P26),(.pv P28),(.pv P30),(.pv P32),(.pv P34)]]))) (fun A40 H41=>some (.pan A40,[[(.pv P24),(.pv P26),(.pv P28),(.pv P30),(.pv P32),(.pv P34)]]))) none) none)) none) none) (fun A20 H21=>(H21[0]?).bind fun C22=>(C22[0]?).bind fun E23=>(za E23).bind fun P24=>(C22[1]?).bind fun E25=>(za E25).bind fun P26=>(C22[2]?).bind fun E27=>(za E27).bind fun P28=>(C22[3]?).bind fun E29=>(za E29).bind fun P30=>(C22[4]?).bind fun E31=>(za E31).bind fun P32=>(C22[5]?).bind fun E33=>(za E33).bind fun P34=>cond (decide (C22.length=6)) (cond (decide (H21.length=1)) (some (.pan A20,[[(.pv P24),(.pv P26),(.pv P28),(.pv P30),(.pv P32),(.pv P34)]])) none) none)) none) none) (fun A4 H5=>(H5[0]?).bind fun C6=>(C6[0]?).bind fun E7=>(za E7).bind fun P8=>(C6[1]?).bind fun E9=>(za E9).bind fun P10=>(C6[2]?).bind fun E11=>(za E11).bind fun P12=>(C6[3]?).bind fun E13=>(za E13).bind fun P14=>(C6[4]?).bind fun E15=>(za E15).bind fun P16=>(C6[5]?).bind fun E17=>(za E17).bind fun P18=>cond (decide (C6.length=6)) (cond (decide (H5.length=1)) (some (.pan A4,[[(.pv P8),(.pv P10),(.pv P12),(.pv P14),(.pv P16),(.pv P18)]])) none) none)) (fun A1 H2=>some (.pan A1,[[(.pv (.sl 1 x0__0)),(.pv (I x0__1)),(.pv (I x0__2_0)),(.pv (I x0__2_1)),(.pv (I x0__2_2)),(.pv (I x0__3_0))]]))):=(zl (fn:=Tryz.f194) _ _).trans (by kernel_rfl)
theorem ziv (x0:Int) (x1:Int):ev 221 [(.pv (I x0)),(.pv (I x1))] [] =
 cond (x0==7) (
 some (.ret (.pv (I (IntKind.wrap .i64 (x1+1)))),[])) (
 cond (decide (0<=x0)&&decide (x0<8)) ((([(I 0),(I 1),(I 8),(I 16),(I 32),(I 64),(I 64),(I 0)]:List PV)[(0+(x0).toNat*1)]?).bind fun P1=>(zj .i64 (.pv P1)).bind fun N2=>zb (ev 263 [(.pv (I (IntKind.wrap .i64 (N2*x1)))),(.pv (I 64))] []) (fun A3 H4=>(za A3).bind fun P5=>some (.ret (.pv P5),[])) (fun A3 H4=>some (.pan A3,[]))) none):=(zl (fn:=Tryz.f221) _ _).trans (by kernel_rfl)
noncomputable def qU:Code:=Tryz.f232.body.getD .skip
noncomputable def Qh (i0:Int) (xs1:List PV) (i2:Int) (i3:Int):Option (Out×zf) :=
 yd (zE env ev zP 20 232 0 (sub qU [1,0,1,0,0])) (zM env 232 0 0) (zU 0 (yi (zX env ev 20 232 0 (sub qU [1,1])) (yb env 232 Tryz.f232.results.toList 0))) ⟨zW [(0,(.pv (U i0))),(7,(.pv (.sl 1 xs1))),(8,(.pv (I i2))),(9,(.pv (I i3)))],[]⟩
theorem jX (i0:Int) (xs1:List PV) (i2:Int) (i3:Int):Qh i0 xs1 i2 i3 =
 cond (decide (i3<i2)) (
 cond (decide (0<=i3)&&decide (i3<(xs1.length:Int))) ((xs1[(i3).toNat]?).bind fun P1=>(P1.cells[0]?).bind fun P2=>(yr (.pv P2)).bind fun Q3=>Qh (IntKind.wrap .u64 ((IntKind.wrap .u64 (BitVec.ofInt 64 i0 ^^^ BitVec.ofInt 64 (IntKind.wrap .u64 Q3.2)).toNat)*1099511628211)) xs1 i2 (IntKind.wrap .i64 (i3+1))) none) (
 some (.ret (.pv (U i0)),[])):=(yg ..).trans (by kernel_rfl)
theorem zhG (x0:Int) (x1:List PV):ev 232 [(.pv (U x0)),(.pv (.sl 1 x1))] [] =
 Qh x0 x1 (x1.length:Int) 0:=(zl (fn:=Tryz.f232) _ _).trans (by kernel_rfl)
theorem ziu (x0:Int) (x1:Int) (x2:List PV):ev 235 [(.pv (I x0)),(.pv (I x1)),(.pv (.sl 1 x2))] [] =
 zb (ev 255 [(.pv (I x0)),(.pv (I x1))] []) (fun A1 H2=>(za A1).bind fun P3=>(yr (.pv P3)).bind fun Q4=>cond (decide (0<=Q4.2)&&decide (Q4.2<=(x2.length:Int))) (zb (ev 275 [(.pv (.sl 1 ((x2.take (Q4.2).toNat).drop 0)))] []) (fun A5 H6=>(zT 5 1 A5).bind fun X7=>cond (x0==1) (
 cond (decide ((Int.tmod x1 8)>0)) (
 cond (decide (0<=(IntKind.wrap .i64 ((X7.length:Int)-1)))&&decide ((IntKind.wrap .i64 ((X7.length:Int)-1))<(X7.length:Int))) ((X7[(IntKind.wrap .i64 ((X7.length:Int)-1)).toNat]?).bind fun P8=>(P8.cells[0]?).bind fun P9=>cond (yS .shl (IntKind.wrap .u64 (Int.tmod x1 8))) ((zj .u8 (.pv P9)).bind fun N10=>cond (decide (0<=(IntKind.wrap .i64 ((X7.length:Int)-1)))&&decide ((IntKind.wrap .i64 ((X7.length:Int)-1))<(X7.length:Int))) ((X7[(IntKind.wrap .i64 ((X7.length:Int)-1)).toNat]?).bind fun P11=>cond (decide (1<=P11.cells.length)) ((setCells P11 0 [(U8 (IntKind.wrap .u8 (BitVec.ofInt 8 N10 &&& BitVec.ofInt 8 (IntKind.wrap .u8 ((IntKind.wrap .u8 (1*2^(min (IntKind.wrap .u64 (Int.tmod x1 8)).toNat 8)))-1))).toNat))]).bind fun P12=>some (.ret (.slu 5 1 (X7.set (IntKind.wrap .i64 ((X7.length:Int)-1)).toNat P12)),[])) none) none) none) none) (
 some (.ret (.slu 5 1 X7),[]))) (
 some (.ret (.slu 5 1 X7),[]))) (fun A5 H6=>some (.pan A5,[]))) none) (fun A1 H2=>some (.pan A1,[])):=(zl (fn:=Tryz.f235) _ _).trans (by kernel_rfl)
noncomputable def qQ:Code:=Tryz.f237.body.getD .skip
noncomputable def ZB (xs0:List PV) (xs1:List PV) (i2:Int) (i3:Int):Option (Out×zf) :=
 yd (zE env ev zP 44 237 0 (sub qQ [1,1,0,1,0,0])) (zM env 237 0 0) (zU 0 (yi (zX env ev 44 237 0 (sub qQ [1,1,1])) (yb env 237 Tryz.f237.results.toList 0))) ⟨zW [(1,(.pv (.sl 1 xs0))),(14,(.pv (.sl 1 xs1))),(15,(.pv (I i2))),(16,(.pv (I i3)))],[]⟩
theorem jz (xs0:List PV) (xs1:List PV) (i2:Int) (i3:Int):ZB xs0 xs1 i2 i3 =
 cond (decide (i3<i2)) (
 cond (decide (0<=i3)&&decide (i3<(xs1.length:Int))) ((xs1[(i3).toNat]?).bind fun P1=>(P1.cells[0]?).bind fun P2=>cond (decide (i3<(xs0.length:Int))) (
 cond (decide (0<=i3)&&decide (i3<(xs0.length:Int))) ((xs0[(i3).toNat]?).bind fun P3=>(P3.cells[0]?).bind fun P4=>(zj .u64 (.pv P4)).bind fun N5=>(zj .u64 (.pv P2)).bind fun N6=>cond (N5 != N6) (
 some (.ret (.pv (Bo false)),[])) (
 cond (decide (i3≥(xs0.length:Int))) (
  (zj .u64 (.pv P2)).bind fun N7=>cond (N7 != 0) (
  some (.ret (.pv (Bo false)),[])) (
  ZB xs0 xs1 i2 (IntKind.wrap .i64 (i3+1)))) (
  ZB xs0 xs1 i2 (IntKind.wrap .i64 (i3+1))))) none) (
 cond (decide (i3≥(xs0.length:Int))) (
  (zj .u64 (.pv P2)).bind fun N3=>cond (N3 != 0) (
  some (.ret (.pv (Bo false)),[])) (
  ZB xs0 xs1 i2 (IntKind.wrap .i64 (i3+1)))) (
  ZB xs0 xs1 i2 (IntKind.wrap .i64 (i3+1))))) none) (
 some (.ret (.pv (Bo true)),[])):=(yg ..).trans (by kernel_rfl)
theorem zha (x0:List PV) (x1:List PV):ev 237 [(.pv (.sl 1 x0)),(.pv (.sl 1 x1))] [] =
 cond (decide ((x0.length:Int)<(x1.length:Int))) (
 ZB x0 x1 (x1.length:Int) 0) (
 ZB x1 x0 (x0.length:Int) 0):=(zl (fn:=Tryz.f237) _ _).trans (by kernel_rfl)
theorem zku (x0:List PV) (x1_0:Int) (x1_1:Int) (x1_2:Int) (x1_3:Int) (x1_4:Int) (x1_5:Int) (x1_6:Bool) (x1_7:Int) (x1_8:Int) (x1_9:Int) (x2:Int) (x3:Int):ev 241 [(.pv (.sl 1 x0)),(.pv (.agg [(I x1_0),(I x1_1),(I x1_2),(I x1_3),(I x1_4),(I x1_5),(Bo x1_6),(I x1_7),(PV.v (.int .u32 x1_8)),(PV.v (.int .u32 x1_9))])),(.pv (I x2)),(.pv (I x3))] [] =
 zb (ev 282 [(.pv (.sl 1 x0)),(.pv (.agg [(I 1),(I x2),(I x3),(I x1_2),(I x1_3),(I 0),(I 0),(I (IntKind.wrap .i64 (x1_2+x1_3)))])),(.pv (I x3)),(.pv (I (IntKind.wrap .i64 (x1_2+x1_3))))] []) (fun A1 H2=>(za A1).bind fun P3=>(zk (.pv P3)).bind fun S4=>(S4[0]?).bind fun P5=>(zk (.pv P3)).bind fun S6=>(S6[1]?).bind fun P7=>cond (decide (P5.cells.length=8)) ((P5.cells[0]?).bind fun P8=>(P5.cells[1]?).bind fun P9=>(P5.cells[2]?).bind fun P10=>(P5.cells[3]?).bind fun P11=>(P5.cells[4]?).bind fun P12=>(P5.cells[5]?).bind fun P13=>(P5.cells[6]?).bind fun P14=>(P5.cells[7]?).bind fun P15=>cond (P8.isCell&&(P9.isCell&&(P10.isCell&&(P11.isCell&&(P12.isCell&&(P13.isCell&&(P14.isCell&&(P15.isCell&&true)))))))) (some (.ret (.pv (.tup [(.agg [P8,P9,P10,P11,P12,P13,P14,P15]),P7])),[])) none) none) (fun A1 H2=>some (.pan A1,[])):=(zl (fn:=Tryz.f241) _ _).trans (by kernel_rfl)
theorem zkt (x0:List PV) (x1_0:Int) (x1_1:Int) (x1_2:Int) (x1_3:Int) (x1_4:Int) (x1_5:Int) (x1_6:Bool) (x1_7:Int) (x1_8:Int) (x1_9:Int) (x2:Int) (x3:Int):ev 243 [(.pv (.sl 1 x0)),(.pv (.agg [(I x1_0),(I x1_1),(I x1_2),(I x1_3),(I x1_4),(I x1_5),(Bo x1_6),(I x1_7),(PV.v (.int .u32 x1_8)),(PV.v (.int .u32 x1_9))])),(.pv (I x2)),(.pv (I x3))] [] =
 zb (ev 284 [(.pv (.agg [(I x1_0),(I x1_1),(I x1_2),(I x1_3),(I x1_4),(I x1_5),(Bo x1_6),(I x1_7),(PV.v (.int .u32 x1_8)),(PV.v (.int .u32 x1_9))]))] []) (fun A1 H2=>(za A1).bind fun P3=>(zZ (.pv P3)).bind fun B4=>cond B4 (
 some (.ret (.pv (.tup [(.agg [(I 0),(I 0),(I 0),(I 0),(I 0),(I 0),(I 0),(I 0)]),(I 6)])),[])) (
 some (.ret (.pv (.tup [(.agg [(I 0),(I 0),(I 0),(I 0),(I 0),(I 0),(I 0),(I 0)]),(I 4)])),[]))) (fun A1 H2=>some (.pan A1,[])):=(zl (fn:=Tryz.f243) _ _).trans (by kernel_rfl)
theorem ziB (x0:Int):ev 244 [.pv (.v (.int .u8 x0))] []=(QF x0).bind fun n=>some (.ret (.pv (.v (.int .i64 n))),[]):=(Qd (q:=(2,(0,0))) (by kernel_rfl) _ _).trans (by kernel_rfl)
noncomputable def zdd:Code:=Tryz.f248.body.getD .skip
noncomputable def VH (i0:Int) (i1:Int) (i2:Int) (i3:Int) (p4:PV) (p5:PV) (p6:PV) (p7:PV) (p8:PV) (p9:PV):Option (Out×zf) :=
 yd (zE env ev zP 21 248 0 (sub zdd [1,0,0])) (zM env 248 0 1) (zU 0 (yb env 248 Tryz.f248.results.toList 1)) ⟨zW [(0,(.ptr 0 0)),(1,(.pv (I i0))),(3,(.pv (I i1))),(9,(.pv (I i2))),(10,(.pv (I i3)))],[[(.pv p4),(.pv p5),(.pv p6),(.pv p7),(.pv p8),(.pv p9)]]⟩
theorem rA (i0:Int) (i1:Int) (i2:Int) (i3:Int) (p4:PV) (p5:PV) (p6:PV) (p7:PV) (p8:PV) (p9:PV):VH i0 i1 i2 i3 p4 p5 p6 p7 p8 p9 =
 cond (decide (i3<i2)) (
 zb (ev 132 [(.ptr 0 0),(.pv (I (IntKind.wrap .i64 (i0+i3)))),(.pv (I (IntKind.wrap .i64 (i1+1))))] [[(.pv p4),(.pv p5),(.pv p6),(.pv p7),(.pv p8),(.pv p9)]]) (fun A1 H2=>(H2[0]?).bind fun C3=>(C3[0]?).bind fun E4=>(za E4).bind fun P5=>(C3[1]?).bind fun E6=>(za E6).bind fun P7=>(C3[2]?).bind fun E8=>(za E8).bind fun P9=>(C3[3]?).bind fun E10=>(za E10).bind fun P11=>(C3[4]?).bind fun E12=>(za E12).bind fun P13=>(C3[5]?).bind fun E14=>(za E14).bind fun P15=>cond (decide (C3.length=6)) (cond (decide (H2.length=1)) ((za A1).bind fun P16=>VH i0 i1 i2 (IntKind.wrap .i64 (i3+1)) P5 P7 P9 P11 P13 P15) none) none) (fun A1 H2=>(H2[0]?).bind fun C3=>(C3[0]?).bind fun E4=>(za E4).bind fun P5=>(C3[1]?).bind fun E6=>(za E6).bind fun P7=>(C3[2]?).bind fun E8=>(za E8).bind fun P9=>(C3[3]?).bind fun E10=>(za E10).bind fun P11=>(C3[4]?).bind fun E12=>(za E12).bind fun P13=>(C3[5]?).bind fun E14=>(za E14).bind fun P15=>cond (decide (C3.length=6)) (cond (decide (H2.length=1)) (some (.pan A1,[[(.pv P5),(.pv P7),(.pv P9),(.pv P11),(.pv P13),(.pv P15)]])) none) none)) (
 some (.ret (.pv (.tup [])),[[(.pv p4),(.pv p5),(.pv p6),(.pv p7),(.pv p8),(.pv p9)]])):=(yg ..).trans (by kernel_rfl)
theorem zfT (x0__0:List PV) (x0__1:Int) (x0__2_0:Int) (x0__2_1:Int) (x0__2_2:Int) (x0__3_0:Int) (x1:Int) (x2:Int) (x3:Int):ev 248 [(.ptr 0 0),(.pv (I x1)),(.pv (I x2)),(.pv (I x3))] [[(.pv (.sl 1 x0__0)),(.pv (I x0__1)),(.pv (I x0__2_0)),(.pv (I x0__2_1)),(.pv (I x0__2_2)),(.pv (I x0__3_0))]] =
 VH x1 x3 x2 0 (.sl 1 x0__0) (I x0__1) (I x0__2_0) (I x0__2_1) (I x0__2_2) (I x0__3_0):=(zl (fn:=Tryz.f248) _ _).trans (by kernel_rfl)
theorem zit (x0:Int) (x1:Int):ev 255 [(.pv (I x0)),(.pv (I x1))] [] =
 cond (decide (0<=x0)&&decide (x0<8)) ((([(I 0),(I 1),(I 8),(I 16),(I 32),(I 64),(I 64),(I 0)]:List PV)[(0+(x0).toNat*1)]?).bind fun P1=>(zj .i64 (.pv P1)).bind fun N2=>zb (ev 263 [(.pv (I (IntKind.wrap .i64 (N2*x1)))),(.pv (I 8))] []) (fun A3 H4=>(za A3).bind fun P5=>some (.ret (.pv P5),[])) (fun A3 H4=>some (.pan A3,[]))) none:=(zl (fn:=Tryz.f255) _ _).trans (by kernel_rfl)
noncomputable def ud:Code:=Tryz.f256.body.getD .skip
noncomputable def Kc (xs0:List PV) (i1:Int):Option (Out×zf) :=
 yd (zE env ev zP 22 256 0 (sub ud [1,1,0,0,0])) (zM env 256 0 0) (zU 0 (yi (zX env ev 22 256 0 (sub ud [1,1,1])) (yb env 256 Tryz.f256.results.toList 0))) ⟨zW [(0,(.pv (.sl 1 xs0))),(1,(.pv (.v (.func (.func 257) #[] #[])))),(5,(.pv (I i1)))],[]⟩
theorem zcI (xs0:List PV) (i1:Int):Kc xs0 i1 =
 cond (decide (i1>0)) (
 cond (decide (0<=(IntKind.wrap .i64 (i1-1)))&&decide ((IntKind.wrap .i64 (i1-1))<(xs0.length:Int))) ((xs0[(IntKind.wrap .i64 (i1-1)).toNat]?).bind fun P1=>(P1.cells[0]?).bind fun P2=>zb (ev 257 [(.pv P2)] []) (fun A3 H4=>(za A3).bind fun P5=>(zZ (.pv P5)).bind fun B6=>cond B6 (
 Kc xs0 (IntKind.wrap .i64 (i1-1))) (
 some (.ret (.pv (I i1)),[]))) (fun A3 H4=>some (.pan A3,[]))) none) (
 some (.ret (.pv (I i1)),[])):=(yg ..).trans (by kernel_rfl)
theorem zlC (x0:List PV):ev 256 [(.pv (.sl 1 x0)),(.pv (.v (.func (.func 257) #[] #[])))] [] =
 Kc x0 (x0.length:Int):=(zl (fn:=Tryz.f256) _ _).trans (by kernel_rfl)
theorem zfX (x0_0:Int) (x0_1:Int) (x0_2:Int) (x0_3:List PV) (x0_4:List PV):ev 262 [(.pv (.agg [(I x0_0),(I x0_1),(I x0_2),(.sl 1 x0_3),(.sl 5 x0_4)]))] [] =
 cond (x0_0==0) (
 some (.ret (.pv (I 0)),[])) (
 cond (x0_0==1) (
  some (.ret (.pv (I (IntKind.wrap .i64 ((IntKind.wrap .i64 (Int.tdiv (x0_3.length:Int) 8))+(x0_4.length:Int))))),[])) (
  cond (x0_1==7) (
   zb (ev 219 [(.pv (.agg [(I x0_0),(I x0_1),(I x0_2),(.sl 1 x0_3),(.sl 5 x0_4)]))] []) (fun A1 H2=>(za A1).bind fun P3=>(zk (.pv P3)).bind fun S4=>(S4[0]?).bind fun P5=>(zk (.pv P3)).bind fun S6=>(S6[1]?).bind fun P7=>(zj .i64 (.pv P5)).bind fun N8=>(zj .i64 (.pv P7)).bind fun N9=>some (.ret (.pv (I (IntKind.wrap .i64 (1+(IntKind.wrap .i64 (x0_2*(IntKind.wrap .i64 (N8+N9)))))))),[])) (fun A1 H2=>some (.pan A1,[]))) (
   zb (ev 221 [(.pv (I x0_1)),(.pv (I x0_2))] []) (fun A1 H2=>(za A1).bind fun P3=>some (.ret (.pv P3),[])) (fun A1 H2=>some (.pan A1,[]))))):=(zl (fn:=Tryz.f262) _ _).trans (by kernel_rfl)
noncomputable def q8:Code:=Tryz.f266.body.getD .skip
noncomputable def W9 (i0:Int) (xs1:List PV) (p2:PV) (p3:PV) (i4:Int) (i5:Int):Option (Out×zf) :=
 yd (zE env ev zP 40 266 0 (sub q8 [1,1,1,1,0,1,0,0])) (zM env 266 0 0) (zU 0 (yi (zX env ev 40 266 0 (sub q8 [1,1,1,1,1])) (yb env 266 Tryz.f266.results.toList 0))) ⟨zW [(0,(.pv (U8 i0))),(1,(.pv (.sl 1 xs1))),(7,(.pv p2)),(8,(.pv p3)),(9,(.pv (I i4))),(17,(.pv (I i5)))],[]⟩
theorem zcn (i0:Int) (xs1:List PV) (p2:PV) (p3:PV) (i4:Int) (i5:Int):W9 i0 xs1 p2 p3 i4 i5 =
 cond (decide (i5<8)) (
 cond (yS .shr (IntKind.wrap .u64 i5)) (cond ((IntKind.wrap .u8 (BitVec.ofInt 8 (Int.fdiv i0 (2^(min (IntKind.wrap .u64 i5).toNat 8))) &&& BitVec.ofInt 8 1).toNat)==1) (
 cond (decide (0<=i4)&&decide (i4<(xs1.length:Int))) ((xs1[(i4).toNat]?).bind fun P1=>(P1.cells[0]?).bind fun P2=>(yr (.pv P2)).bind fun Q3=>zb (ev 291 [(.pv p3),(.pv (I (IntKind.wrap .i64 (8*i5)))),(.pv (I 8)),(.pv (U (IntKind.wrap .u64 Q3.2)))] []) (fun A4 H5=>(za A4).bind fun P6=>W9 i0 xs1 p2 P6 (IntKind.wrap .i64 (i4+1)) (IntKind.wrap .i64 (i5+1))) (fun A4 H5=>some (.pan A4,[]))) none) (
 W9 i0 xs1 p2 p3 i4 (IntKind.wrap .i64 (i5+1)))) none) (
 some (.ret (.pv (.tup [p3,p2,(Bo true)])),[])):=(yg ..).trans (by kernel_rfl)
theorem zco (x0:Int) (x1:List PV):ev 266 [(.pv (U8 x0)),(.pv (.sl 1 x1))] [] =
 zb (ev 188 [(.pv (U8 x0))] []) (fun A1 H2=>(za A1).bind fun P3=>(zj .i64 (.pv P3)).bind fun N4=>cond (decide ((x1.length:Int)<N4)) (
 some (.ret (.pv (.tup [(U 0),(I 0),(Bo false)])),[])) (
 W9 x0 x1 P3 (U 0) 0 0)) (fun A1 H2=>some (.pan A1,[])):=(zl (fn:=Tryz.f266) _ _).trans (by kernel_rfl)
theorem zf2 (x0__0:List PV) (x1_0:Int) (x1_1:Int) (x1_2:Int) (x1_3:List PV) (x1_4:List PV):ev 269 [(.ptr 0 0),(.pv (.agg [(I x1_0),(I x1_1),(I x1_2),(.sl 1 x1_3),(.sl 5 x1_4)]))] [[(.slu 30 1 x0__0)]] =
 zb (ev 293 [(.ptr 0 0),(.pv (.sl 1 x1_3)),(.pv (I (IntKind.wrap .i64 (Int.tdiv (x1_3.length:Int) 8))))] [[(.slu 30 1 x0__0)]]) (fun A1 H2=>(H2[0]?).bind fun C3=>(C3[0]?).bind fun E4=>(zT 30 1 E4).bind fun X5=>cond (decide (C3.length=1)) (cond (decide (H2.length=1)) ((za A1).bind fun P6=>zb (ev 292 [(.ptr 0 0),(.pv (I (x1_4.length:Int)))] [[(.slu 30 1 X5)]]) (fun A7 H8=>(H8[0]?).bind fun C9=>(C9[0]?).bind fun E10=>(zT 30 1 E10).bind fun X11=>cond (decide (C9.length=1)) (cond (decide (H8.length=1)) ((za A7).bind fun P12=>cond ((decide (P12.cells.length=1)&&P12.cells.all PV.isCell)&&true) (some (.ret (.pv (.tup [(.agg [(I 0),(I 0),(I (IntKind.wrap .i64 (Int.tdiv (x1_3.length:Int) 8))),(I (x1_4.length:Int)),(I 0),(I 0),(Bo false),(I 0),(PV.v (.int .u32 0)),(PV.v (.int .u32 0))]),(.sl 1 [P12])])),[[(.slu 30 1 X11)]])) none) none) none) (fun A7 H8=>(H8[0]?).bind fun C9=>(C9[0]?).bind fun E10=>(zT 30 1 E10).bind fun X11=>cond (decide (C9.length=1)) (cond (decide (H8.length=1)) (some (.pan A7,[[(.slu 30 1 X11)]])) none) none)) none) none) (fun A1 H2=>(H2[0]?).bind fun C3=>(C3[0]?).bind fun E4=>(zT 30 1 E4).bind fun X5=>cond (decide (C3.length=1)) (cond (decide (H2.length=1)) (some (.pan A1,[[(.slu 30 1 X5)]])) none) none):=(zl (fn:=Tryz.f269) _ _).trans (by kernel_rfl)
noncomputable def qF:Code:=Tryz.f270.body.getD .skip
noncomputable def VK (p0:PV) (p1:PV) (xs2:List PV) (xs3:List PV) (i4:Int) (i5:Int) (xs6:List PV) (i7:Int) (i8:Int) (i9:Int) (xs10:List PV) (xs11:List PV) (i12:Int) (i13:Int) (i14:Int) (i15:Int) (i16:Int) (i17:Int) (b18:Bool) (i19:Int) (i20:Int) (i21:Int):Option (Out×zf) :=
 yd (zE env ev zP 66 270 0 (sub qF [1,1,1,1,1,0,1,0,0])) (zM env 270 0 3) (zU 0 (yi (zX env ev 66 270 0 (sub qF [1,1,1,1,1,1])) (yb env 270 Tryz.f270.results.toList 1))) ⟨zW [(0,(.ptr 0 0)),(3,(.ptr 1 0)),(4,(.ptr 2 0)),(6,(.pv p0)),(7,(.pv p1)),(10,(.slu 3 1 xs2)),(38,(.pv (.sl 5 xs3))),(39,(.pv (I i4))),(40,(.pv (I i5)))],[[(.slu 30 1 xs6)],[(.pv (I i7)),(.pv (I i8)),(.pv (I i9)),(.pv (.sl 1 xs10)),(.pv (.sl 5 xs11))],[(.pv (I i12)),(.pv (I i13)),(.pv (I i14)),(.pv (I i15)),(.pv (I i16)),(.pv (I i17)),(.pv (Bo b18)),(.pv (I i19)),(.pv (PV.v (.int .u32 i20))),(.pv (PV.v (.int .u32 i21)))]]⟩
theorem rD (p0:PV) (p1:PV) (xs2:List PV) (xs3:List PV) (i4:Int) (i5:Int) (xs6:List PV) (i7:Int) (i8:Int) (i9:Int) (xs10:List PV) (xs11:List PV) (i12:Int) (i13:Int) (i14:Int) (i15:Int) (i16:Int) (i17:Int) (b18:Bool) (i19:Int) (i20:Int) (i21:Int):VK p0 p1 xs2 xs3 i4 i5 xs6 i7 i8 i9 xs10 xs11 i12 i13 i14 i15 i16 i17 b18 i19 i20 i21 =
 cond (decide (i5<i4)) (
 cond (decide (0<=i5)&&decide (i5<(xs3.length:Int))) ((xs3[(i5).toNat]?).bind fun P1=>cond (decide (5<=P1.cells.length)) (cond (decide (((P1.cells.drop 0).take 5).length=5)) ((((P1.cells.drop 0).take 5)[0]?).bind fun P2=>(((P1.cells.drop 0).take 5)[1]?).bind fun P3=>(((P1.cells.drop 0).take 5)[2]?).bind fun P4=>(((P1.cells.drop 0).take 5)[3]?).bind fun P5=>(((P1.cells.drop 0).take 5)[4]?).bind fun P6=>cond (P2.isCell&&(P3.isCell&&(P4.isCell&&(P5.isCell&&(P6.isCell&&true))))) (zb (ev 293 [(.ptr 0 0),(.pv P5),(.pv p0)] [[(.slu 30 1 xs6)]]) (fun A7 H8=>(H8[0]?).bind fun C9=>(C9[0]?).bind fun E10=>(zT 30 1 E10).bind fun X11=>cond (decide (C9.length=1)) (cond (decide (H8.length=1)) ((za A7).bind fun P12=>zb (ev 292 [(.ptr 0 0),(.pv p1)] [[(.slu 30 1 X11)]]) (fun A13 H14=>(H14[0]?).bind fun C15=>(C15[0]?).bind fun E16=>(zT 30 1 E16).bind fun X17=>cond (decide (C15.length=1)) (cond (decide (H14.length=1)) ((za A13).bind fun P18=>cond ((decide (P18.cells.length=1)&&P18.cells.all PV.isCell)&&true) (cond (yk (xs2.length+1) 8) (VK p0 p1 (xs2++[P18]) xs3 i4 (IntKind.wrap .i64 (i5+1)) X17 i7 i8 i9 xs10 xs11 i12 i13 i14 i15 i16 i17 b18 i19 i20 i21) none) none) none) none) (fun A13 H14=>(H14[0]?).bind fun C15=>(C15[0]?).bind fun E16=>(zT 30 1 E16).bind fun X17=>cond (decide (C15.length=1)) (cond (decide (H14.length=1)) (some (.pan A13,[[(.slu 30 1 X17)]])) none) none)) none) none) (fun A7 H8=>(H8[0]?).bind fun C9=>(C9[0]?).bind fun E10=>(zT 30 1 E10).bind fun X11=>cond (decide (C9.length=1)) (cond (decide (H8.length=1)) (some (.pan A7,[[(.slu 30 1 X11)]])) none) none)) none) none) none) none) (
 (zj .i64 (.pv p0)).bind fun N1=>(zj .i64 (.pv p1)).bind fun N2=>some (.ret (.pv (.tup [(.agg [(I 1),(I 0),(I 0),(I 0),(I i8),(I (IntKind.wrap .i64 (i9*(IntKind.wrap .i64 (N1+N2))))),(Bo false),(I 0),(PV.v (.int .u32 0)),(PV.v (.int .u32 0))]),(.sl 1 xs2)])),[[(.slu 30 1 xs6)]])):=(yg ..).trans (by kernel_rfl)
theorem zf1 (x0__0:List PV) (x1_0:Int) (x1_1:Int) (x1_2:Int) (x1_3:List PV) (x1_4:List PV):ev 270 [(.ptr 0 0),(.pv (.agg [(I x1_0),(I x1_1),(I x1_2),(.sl 1 x1_3),(.sl 5 x1_4)]))] [[(.slu 30 1 x0__0)]] =
 zb (ev 219 [(.pv (.agg [(I x1_0),(I x1_1),(I x1_2),(.sl 1 x1_3),(.sl 5 x1_4)]))] []) (fun A1 H2=>(za A1).bind fun P3=>(zk (.pv P3)).bind fun S4=>(S4[0]?).bind fun P5=>(zk (.pv P3)).bind fun S6=>(S6[1]?).bind fun P7=>cond (P5.isCell&&true) (cond (P7.isCell&&true) (cond ((P5.isCell&&true)&&((P7.isCell&&true)&&true)) (zb (ev 252 [(.pv (.agg [(I 0),(I x1_2),P5,P7,(I 0),(I 0),(Bo false),(I 0),(PV.v (.int .u32 0)),(PV.v (.int .u32 0))]))] []) (fun A8 H9=>(za A8).bind fun P10=>(zk (.pv P10)).bind fun S11=>(S11[0]?).bind fun P12=>(zk (.pv P10)).bind fun S13=>(S13[1]?).bind fun P14=>cond ((decide (P12.cells.length=1)&&P12.cells.all PV.isCell)&&true) (cond (yk (x0__0.length+1) 8) (VK P5 P7 [] x1_4 (x1_4.length:Int) 0 (x0__0++[P12]) x1_0 x1_1 x1_2 x1_3 x1_4 0 0 0 0 0 0 false 0 0 0) none) none) (fun A8 H9=>some (.pan A8,[[(.slu 30 1 x0__0)]]))) none) none) none) (fun A1 H2=>some (.pan A1,[[(.slu 30 1 x0__0)]])):=(zl (fn:=Tryz.f270) _ _).trans (by kernel_rfl)
theorem zkq (x0_0:Int) (x0_1:Int) (x0_2:Int) (x0_3:Int) (x0_4:Int) (x0_5:Int) (x0_6:Int) (x0_7:Int):ev 277 [(.pv (.agg [(I x0_0),(I x0_1),(I x0_2),(I x0_3),(I x0_4),(I x0_5),(I x0_6),(I x0_7)]))] [] =
 cond (x0_0==1) (
 cond (decide (x0_4>0)) (
 some (.ret (.pv (.tup [(I (IntKind.wrap .i64 (x0_2+x0_3))),(I x0_4)])),[])) (
 cond (x0_0==2) (
  cond (x0_5==6) (
  cond (decide (x0_6>0)) (
  some (.ret (.pv (.tup [(I x0_2),(I x0_6)])),[])) (
  some (.ret (.pv (.tup [(I 0),(I 0)])),[]))) (
  some (.ret (.pv (.tup [(I 0),(I 0)])),[]))) (
  some (.ret (.pv (.tup [(I 0),(I 0)])),[])))) (
 cond (x0_0==2) (
  cond (x0_5==6) (
  cond (decide (x0_6>0)) (
  some (.ret (.pv (.tup [(I x0_2),(I x0_6)])),[])) (
  some (.ret (.pv (.tup [(I 0),(I 0)])),[]))) (
  some (.ret (.pv (.tup [(I 0),(I 0)])),[]))) (
  some (.ret (.pv (.tup [(I 0),(I 0)])),[]))):=(zl (fn:=Tryz.f277) _ _).trans (by kernel_rfl)
theorem zhw (x0:Int):ev 279 [(.pv (U x0))] [] =
 zb (ev 192 [(.pv (U x0))] []) (fun A1 H2=>(za A1).bind fun P3=>(YI (.pv P3)).bind fun cs_4=>(cs_4[0]?).bind fun P5=>(zj .i64 (.pv P5)).bind fun N6=>some (.ret (.pv (Bo (N6==2))),[])) (fun A1 H2=>some (.pan A1,[])):=(zl (fn:=Tryz.f279) _ _).trans (by kernel_rfl)
theorem zhy (x0:List PV) (x1:Int):ev 281 [(.pv (.sl 1 x0)),(.pv (U x1))] [] =
 zb (ev 297 [(.pv (U x1))] []) (fun A1 H2=>(za A1).bind fun P3=>(zk (.pv P3)).bind fun S4=>(S4[0]?).bind fun P5=>(zk (.pv P3)).bind fun S6=>(S6[1]?).bind fun P7=>zb (ev 276 [(.pv (.sl 1 x0)),(.pv P5),(.pv P7),(.pv (I 2))] []) (fun A8 H9=>(za A8).bind fun P10=>(zk (.pv P10)).bind fun S11=>(S11[0]?).bind fun P12=>(zk (.pv P10)).bind fun S13=>(S13[1]?).bind fun P14=>(zZ (.pv P14)).bind fun B15=>cond (!B15) (
 some (.ret (.pv (.tup [(.agg [(U 0),(I 0),(I 0)]),(I 2)])),[])) (
 (zY P12).bind fun L16=>cond ((decide (L16.1=1)&&true)&&decide (0<(L16.2.length:Int))) ((L16.2[0]?).bind fun P17=>(P17.cells[0]?).bind fun P18=>zb (ev 192 [(.pv P18)] []) (fun A19 H20=>(za A19).bind fun P21=>(zY P12).bind fun L22=>cond ((decide (L22.1=1)&&true)&&decide (1<(L22.2.length:Int))) ((L22.2[1]?).bind fun P23=>(P23.cells[0]?).bind fun P24=>zb (ev 192 [(.pv P24)] []) (fun A25 H26=>(za A25).bind fun P27=>cond (decide (P21.cells.length=10)) ((P21.cells[0]?).bind fun P28=>(P21.cells[1]?).bind fun P29=>(P21.cells[2]?).bind fun P30=>(P21.cells[3]?).bind fun P31=>(P21.cells[4]?).bind fun P32=>(P21.cells[5]?).bind fun P33=>(P21.cells[6]?).bind fun P34=>(P21.cells[7]?).bind fun P35=>(P21.cells[8]?).bind fun P36=>(P21.cells[9]?).bind fun P37=>cond (P28.isCell&&(P29.isCell&&(P30.isCell&&(P31.isCell&&(P32.isCell&&(P33.isCell&&(P34.isCell&&(P35.isCell&&(P36.isCell&&(P37.isCell&&true)))))))))) (cond (decide (P27.cells.length=10)) ((P27.cells[0]?).bind fun P38=>(P27.cells[1]?).bind fun P39=>(P27.cells[2]?).bind fun P40=>(P27.cells[3]?).bind fun P41=>(P27.cells[4]?).bind fun P42=>(P27.cells[5]?).bind fun P43=>(P27.cells[6]?).bind fun P44=>(P27.cells[7]?).bind fun P45=>(P27.cells[8]?).bind fun P46=>(P27.cells[9]?).bind fun P47=>cond (P38.isCell&&(P39.isCell&&(P40.isCell&&(P41.isCell&&(P42.isCell&&(P43.isCell&&(P44.isCell&&(P45.isCell&&(P46.isCell&&(P47.isCell&&true)))))))))) ((zj .i64 (.pv P28)).bind fun N48=>cond (N48 != 2) (
  some (.ret (.pv (.tup [(.agg [(U 0),(I 0),(I 0)]),(I 3)])),[])) (
  (zZ (.pv P34)).bind fun B49=>cond B49 (
   some (.ret (.pv (.tup [(.agg [(U 0),(I 0),(I 0)]),(I 3)])),[])) (
   (zj .i64 (.pv P38)).bind fun N50=>cond (decide (N50>1)) (
    some (.ret (.pv (.tup [(.agg [(U 0),(I 0),(I 0)]),(I 3)])),[])) (
    (zj .i64 (.pv P39)).bind fun N51=>cond (N51 != 0) (
     some (.ret (.pv (.tup [(.agg [(U 0),(I 0),(I 0)]),(I 3)])),[])) (
     (zY P12).bind fun L52=>cond ((decide (L52.1=1)&&true)&&decide (1<(L52.2.length:Int))) ((L52.2[1]?).bind fun P53=>(P53.cells[0]?).bind fun P54=>(yr (.pv P36)).bind fun Q55=>cond (P54.isCell&&true) (cond (P35.isCell&&true) (cond ((P54.isCell&&true)&&((P35.isCell&&true)&&true)) (cond (P54.isCell&&(P35.isCell&&true)) (some (.ret (.pv (.tup [(.agg [P54,(I (IntKind.wrap .i64 Q55.2)),P35]),(I 0)])),[])) none) none) none) none) none))))) none) none) none) none) (fun A25 H26=>none)) none) (fun A19 H20=>none)) none)) (fun A8 H9=>some (.pan A8,[]))) (fun A1 H2=>some (.pan A1,[])):=(zl (fn:=Tryz.f281) _ _).trans (by kernel_rfl)
theorem zbm (x0_0:Int) (x0_1:Int) (x0_2:Int) (x0_3:Int) (x0_4:Int) (x0_5:Int) (x0_6:Bool) (x0_7:Int) (x0_8:Int) (x0_9:Int):ev 287 [(.pv (.agg [(I x0_0),(I x0_1),(I x0_2),(I x0_3),(I x0_4),(I x0_5),(Bo x0_6),(I x0_7),(PV.v (.int .u32 x0_8)),(PV.v (.int .u32 x0_9))]))] [] =
 cond (decide (x0_0≥0)) (
 cond (decide (x0_0<=3)) (
 zb (ev 288 [(.pv (.agg [(I x0_0),(I x0_1),(I x0_2),(I x0_3),(I x0_4),(I x0_5),(Bo x0_6),(I x0_7),(PV.v (.int .u32 x0_8)),(PV.v (.int .u32 x0_9))]))] []) (fun A1 H2=>(za A1).bind fun P3=>zb (ev 192 [(.pv P3)] []) (fun A4 H5=>(za A4).bind fun P6=>(Y8 (.pv P6)).bind fun cs_7=>(xk [false,false,false,false,false,false,true,false,false,false] cs_7 [(I x0_0),(I x0_1),(I x0_2),(I x0_3),(I x0_4),(I x0_5),(Bo x0_6),(I x0_7),(PV.v (.int .u32 x0_8)),(PV.v (.int .u32 x0_9))]).bind fun Z8=>some (.ret (.pv (Bo Z8)),[])) (fun A4 H5=>none)) (fun A1 H2=>none)) (
 some (.ret (.pv (Bo false)),[]))) (
 some (.ret (.pv (Bo false)),[])):=(zl (fn:=Tryz.f287) _ _).trans (by kernel_rfl)
theorem zf3 (x0__0:List PV) (x1:Int):ev 292 [(.ptr 0 0),(.pv (I x1))] [[(.slu 30 1 x0__0)]] =
 cond (decide (0<=x1)&&decide (x1<=140737488355328)) (cond (yk (x0__0.length+(List.replicate (x1).toNat (U 0)).length) 8) (some (.ret (.pv (I (x0__0.length:Int))),[[(.slu 30 1 (x0__0++(List.replicate (x1).toNat (U 0))))]])) none) none:=(zl (fn:=Tryz.f292) _ _).trans (by kernel_rfl)
theorem zfu (x0__0_0:Int) (x1:Int):ev 294 [(.ptr 0 0),(.pv (I x1))] [[(.pv (I x0__0_0))]] =
 cond (decide (x1>x0__0_0)) (
 some (.ret (.pv (Bo false)),[[(.pv (I x0__0_0))]])) (
 some (.ret (.pv (Bo true)),[[(.pv (I (IntKind.wrap .i64 (x0__0_0-x1))))]])):=(zl (fn:=Tryz.f294) _ _).trans (by kernel_rfl)
noncomputable def qO:Code:=Tryz.f296.body.getD .skip
noncomputable def V5 (i0:Int) (xs1:List PV) (p2:PV) (p3:PV) (i4:Int) (p5:PV) (p6:PV) (p7:PV) (p8:PV) (p9:PV) (i10:Int) (i11:Int) (i12:Int) (i13:Int) (i14:Int) (i15:Int) (i16:Int) (i17:Int):Option (Out×zf) :=
 yd (zE env ev zP 34 296 0 (sub qO [1,1,1,0,1,0,0])) (zM env 296 0 2) (zU 0 (yi (zX env ev 34 296 0 (sub qO [1,1,1,1])) (yb env 296 Tryz.f296.results.toList 1))) ⟨zW [(0,(.ptr 0 0)),(2,(.pv (I i0))),(4,(.ptr 1 0)),(7,(.slu 53 5 xs1)),(8,(.pv p2)),(16,(.pv p3)),(17,(.pv (I i4)))],[[(.pv p5),(.pv p6),(.pv p7),(.pv p8),(.pv p9)],[(.pv (I i10)),(.pv (I i11)),(.pv (I i12)),(.pv (I i13)),(.pv (I i14)),(.pv (I i15)),(.pv (I i16)),(.pv (I i17))]]⟩
theorem jl (i0:Int) (xs1:List PV) (p2:PV) (p3:PV) (i4:Int) (p5:PV) (p6:PV) (p7:PV) (p8:PV) (p9:PV) (i10:Int) (i11:Int) (i12:Int) (i13:Int) (i14:Int) (i15:Int) (i16:Int) (i17:Int):V5 i0 xs1 p2 p3 i4 p5 p6 p7 p8 p9 i10 i11 i12 i13 i14 i15 i16 i17 =
 (zj .i64 (.pv p3)).bind fun N1=>cond (decide (i4<N1)) (
 (zj .i64 (.pv p2)).bind fun N2=>zb (ev 234 [(.ptr 0 0),(.pv (I i11)),(.pv (I (IntKind.wrap .i64 (N2+i4)))),(.pv (I (IntKind.wrap .i64 (i0+1))))] [[(.pv p5),(.pv p6),(.pv p7),(.pv p8),(.pv p9)]]) (fun A3 H4=>(H4[0]?).bind fun C5=>(C5[0]?).bind fun E6=>(za E6).bind fun P7=>(C5[1]?).bind fun E8=>(za E8).bind fun P9=>(C5[2]?).bind fun E10=>(za E10).bind fun P11=>(C5[3]?).bind fun E12=>(za E12).bind fun P13=>(C5[4]?).bind fun E14=>(za E14).bind fun P15=>cond (decide (C5.length=5)) (cond (decide (H4.length=1)) ((za A3).bind fun P16=>cond ((decide (P16.cells.length=5)&&P16.cells.all PV.isCell)&&true) (cond (yk (xs1.length+1) 72) (V5 i0 (xs1++[P16]) p2 p3 (IntKind.wrap .i64 (i4+1)) P7 P9 P11 P13 P15 i10 i11 i12 i13 i14 i15 i16 i17) none) none) none) none) (fun A3 H4=>(H4[0]?).bind fun C5=>(C5[0]?).bind fun E6=>(za E6).bind fun P7=>(C5[1]?).bind fun E8=>(za E8).bind fun P9=>(C5[2]?).bind fun E10=>(za E10).bind fun P11=>(C5[3]?).bind fun E12=>(za E12).bind fun P13=>(C5[4]?).bind fun E14=>(za E14).bind fun P15=>cond (decide (C5.length=5)) (cond (decide (H4.length=1)) (some (.pan A3,[[(.pv P7),(.pv P9),(.pv P11),(.pv P13),(.pv P15)]])) none) none)) (
 some (.ret (.pv (.sl 5 xs1)),[[(.pv p5),(.pv p6),(.pv p7),(.pv p8),(.pv p9)]])):=(yg ..).trans (by kernel_rfl)
theorem zgU (x0__0:List PV) (x0__1_0:Int) (x0__1_1:Int) (x0__1_2:Int) (x0__2_0:Int) (x1_0:Int) (x1_1:Int) (x1_2:Int) (x1_3:Int) (x1_4:Int) (x1_5:Int) (x1_6:Int) (x1_7:Int) (x2:Int):ev 296 [(.ptr 0 0),(.pv (.agg [(I x1_0),(I x1_1),(I x1_2),(I x1_3),(I x1_4),(I x1_5),(I x1_6),(I x1_7)])),(.pv (I x2))] [[(.pv (.sl 1 x0__0)),(.pv (I x0__1_0)),(.pv (I x0__1_1)),(.pv (I x0__1_2)),(.pv (I x0__2_0))]] =
 zb (ev 277 [(.pv (.agg [(I x1_0),(I x1_1),(I x1_2),(I x1_3),(I x1_4),(I x1_5),(I x1_6),(I x1_7)]))] []) (fun A1 H2=>(za A1).bind fun P3=>(zk (.pv P3)).bind fun S4=>(S4[0]?).bind fun P5=>(zk (.pv P3)).bind fun S6=>(S6[1]?).bind fun P7=>V5 x2 [] P5 P7 0 (.sl 1 x0__0) (I x0__1_0) (I x0__1_1) (I x0__1_2) (I x0__2_0) x1_0 x1_1 x1_2 x1_3 x1_4 x1_5 x1_6 x1_7) (fun A1 H2=>some (.pan A1,[[(.pv (.sl 1 x0__0)),(.pv (I x0__1_0)),(.pv (I x0__1_1)),(.pv (I x0__1_2)),(.pv (I x0__2_0))]])):=(zl (fn:=Tryz.f296) _ _).trans (by kernel_rfl)
end Go.Proofs.YtjbjeeoifhegfaaGreatDoor.E
