/- This text is one of those that prove the law MessageCanonical of the given program, as its statement says it: true on every input that the statement covers. Its conditions are the statement's own. -/
import Derived.KernelRfl
import Derived.Test.YtjbjeeoifhegfaaGreatDoorZMessageCanonical1
import Derived.Test.YtjbjeeoifhegfaaGreatDoorZMessageCanonical2
import Derived.Test.YtjbjeeoifhegfaaGreatDoorZMessageCanonical3
set_option linter.unusedVariables false
set_option linter.unusedSimpArgs false
namespace Go.Proofs.YtjbjeeoifhegfaaGreatDoor.E
theorem zhQ (x0:List PV) (x1_0:Int) (x1_1:Int) (x1_2:Int):ev 7 [(.pv (.sl 1 x0)),(.pv (.agg [(I x1_0),(I x1_1),(I x1_2)]))] [] =
 zb (ev 33 [] []) (fun A1 H2=>(za A1).bind fun P3=>(zZ (.pv P3)).bind fun B4=>cond (!B4) (
 zb (ev 33 [] []) (fun A5 H6=>(za A5).bind fun P7=>some (.ret (.pv P7),[])) (fun A5 H6=>some (.pan A5,[]))) (
 zb (ev 15 [(.pv (.sl 1 x0)),(.pv (.agg [(I x1_0),(I x1_1),(I x1_2)]))] []) (fun A5 H6=>(za A5).bind fun P7=>(zZ (.pv P7)).bind fun B8=>cond (!B8) (
  zb (ev 33 [] []) (fun A9 H10=>(za A9).bind fun P11=>some (.ret (.pv P11),[])) (fun A9 H10=>some (.pan A9,[]))) (
  zb (ev 40 [(.pv (.sl 1 x0)),(.pv (.agg [(I x1_0),(I x1_1),(I x1_2)]))] []) (fun A9 H10=>(za A9).bind fun P11=>(zi (.pv P11)).bind fun S12=>(S12[0]?).bind fun P13=>(zi (.pv P11)).bind fun S14=>(S14[1]?).bind fun P15=>zb (ev 16 [(.pv (.sl 1 x0)),(.pv (.agg [(I x1_0),(I x1_1),(I x1_2)]))] []) (fun A16 H17=>(vS 0 2 A16).bind fun Q18=>(yb 5 1 Q18.1).bind fun X19=>(Q18.2[1]?).bind fun P20=>(zj .i64 (.pv P20)).bind fun N21=>(zj .i64 (.pv P15)).bind fun N22=>cond (N21 != N22) (
   some (.ret (.pv (Bo false)),[])) (
   (zj .i64 (.pv P15)).bind fun N23=>cond (N23 != 0) (
    some (.ret (.pv (Bo ((X19.length:Int)==0))),[])) (
    zb (ev 16 [(.pv (.sl 1 X19)),(.pv (.agg [(I x1_0),(I x1_1),(I x1_2)]))] []) (fun A24 H25=>(vS 0 2 A24).bind fun Q26=>(yb 5 1 Q26.1).bind fun X27=>(Q26.2[1]?).bind fun P28=>zb (ev 18 [(.pv (.sl 1 x0)),(.pv (.sl 1 X19)),(.pv (.agg [(I x1_0),(I x1_1),(I x1_2)]))] []) (fun A29 H30=>(za A29).bind fun P31=>(zi (.pv P31)).bind fun S32=>(S32[0]?).bind fun P33=>(zi (.pv P31)).bind fun S34=>(S34[1]?).bind fun P35=>zb (ev 41 [(.pv P13),(.pv (.agg [(I x1_0),(I x1_1),(I x1_2)]))] []) (fun A36 H37=>(za A36).bind fun P38=>(zi (.pv P38)).bind fun S39=>(S39[0]?).bind fun P40=>(zi (.pv P38)).bind fun S41=>(S41[1]?).bind fun P42=>zb (ev 35 [(.pv (.sl 1 X19)),(.pv (.agg [(I x1_0),(I x1_1),(I x1_2)]))] []) (fun A43 H44=>(za A43).bind fun P45=>(zZ (.pv P45)).bind fun B46=>cond B46 (
     (zj .i64 (.pv P28)).bind fun N47=>cond (N47==0) (
     zb (ev 27 [(.pv (.sl 1 X19)),(.pv (.sl 1 X27))] []) (fun A48 H49=>(za A48).bind fun P50=>(zZ (.pv P50)).bind fun B51=>cond B51 (
     (zZ (.pv P33)).bind fun B52=>cond B52 (
     (zj .i64 (.pv P35)).bind fun N53=>cond (N53==0) (
     (zj .i64 (.pv P40)).bind fun N54=>some (.ret (.pv (Bo (decide ((X19.length:Int)<=(IntKind.wrap .i64 (8+(IntKind.wrap .i64 (8*(IntKind.wrap .i64 (1+N54)))))))))),[])) (
     some (.ret (.pv (Bo false)),[]))) (
     some (.ret (.pv (Bo false)),[]))) (
     some (.ret (.pv (Bo false)),[]))) (fun A48 H49=>some (.pan A48,[]))) (
     some (.ret (.pv (Bo false)),[]))) (
     some (.ret (.pv (Bo false)),[]))) (fun A43 H44=>some (.pan A43,[]))) (fun A36 H37=>some (.pan A36,[]))) (fun A29 H30=>some (.pan A29,[]))) (fun A24 H25=>some (.pan A24,[]))))) (fun A16 H17=>some (.pan A16,[]))) (fun A9 H10=>some (.pan A9,[])))) (fun A5 H6=>some (.pan A5,[])))) (fun A1 H2=>some (.pan A1,[])):=(zm (fn:=Tryz.f7) _ _).trans (by kernel_rfl)
theorem zhR:ev 33 [] [] =
 zb (ev 16 [(.pv (.sl 1 [(U8 0),(U8 0),(U8 0),(U8 0),(U8 0),(U8 0),(U8 0),(U8 0)])),(.pv (.agg [(I 5),(I 100),(I 100)]))] []) (fun A1 H2=>(vS 0 2 A1).bind fun Q3=>(yb 5 1 Q3.1).bind fun X4=>(Q3.2[1]?).bind fun P5=>zb (ev 18 [(.pv (.sl 1 [(U8 0),(U8 0),(U8 0),(U8 0),(U8 0),(U8 0),(U8 0),(U8 0)])),(.pv (.sl 1 [(U8 0),(U8 0),(U8 0),(U8 0),(U8 1),(U8 0),(U8 0),(U8 0),(U8 0),(U8 0),(U8 0),(U8 0),(U8 0),(U8 0),(U8 0),(U8 0)])),(.pv (.agg [(I 5),(I 100),(I 100)]))] []) (fun A6 H7=>(za A6).bind fun P8=>(zi (.pv P8)).bind fun S9=>(S9[0]?).bind fun P10=>(zi (.pv P8)).bind fun S11=>(S11[1]?).bind fun P12=>zb (ev 18 [(.pv (.sl 1 [(U8 0),(U8 0),(U8 0),(U8 0),(U8 0),(U8 0),(U8 0),(U8 0)])),(.pv (.sl 1 [])),(.pv (.agg [(I 5),(I 100),(I 100)]))] []) (fun A13 H14=>(za A13).bind fun P15=>(zi (.pv P15)).bind fun S16=>(S16[0]?).bind fun P17=>(zi (.pv P15)).bind fun S18=>(S18[1]?).bind fun P19=>zb (ev 19 [(.pv (.sl 1 [(U8 0),(U8 0),(U8 0),(U8 0),(U8 1),(U8 0),(U8 0),(U8 0),(U8 0),(U8 0),(U8 0),(U8 0),(U8 0),(U8 0),(U8 0),(U8 0)]))] []) (fun A20 H21=>(za A20).bind fun P22=>(zi (.pv P22)).bind fun S23=>(S23[0]?).bind fun P24=>(zi (.pv P22)).bind fun S25=>(S25[1]?).bind fun P26=>zb (ev 20 [(.pv P24),(.pv (.agg [(I 5),(I 100),(I 100)]))] []) (fun A27 H28=>(za A27).bind fun P29=>(zi (.pv P29)).bind fun S30=>(S30[0]?).bind fun P31=>(zi (.pv P29)).bind fun S32=>(S32[1]?).bind fun P33=>zb (ev 20 [(.pv P24),(.pv (.agg [(I 0),(I 0),(I 15)]))] []) (fun A34 H35=>(za A34).bind fun P36=>(zi (.pv P36)).bind fun S37=>(S37[0]?).bind fun P38=>(zi (.pv P36)).bind fun S39=>(S39[1]?).bind fun P40=>zb (ev 17 [(.pv (.sl 1 [(U8 0),(U8 0),(U8 0),(U8 0),(U8 0),(U8 0),(U8 0),(U8 0)])),(.pv (.agg [(I 5),(I 100),(I 100)]))] []) (fun A41 H42=>(za A41).bind fun P43=>(zi (.pv P43)).bind fun S44=>(S44[0]?).bind fun P45=>(zi (.pv P43)).bind fun S46=>(S46[1]?).bind fun P47=>(zj .i64 (.pv P5)).bind fun N48=>cond (N48==0) (
 zb (ev 27 [(.pv (.sl 1 X4)),(.pv (.sl 1 [(U8 0),(U8 0),(U8 0),(U8 0),(U8 1),(U8 0),(U8 0),(U8 0),(U8 0),(U8 0),(U8 0),(U8 0),(U8 0),(U8 0),(U8 0),(U8 0)]))] []) (fun A49 H50=>(za A49).bind fun P51=>(zZ (.pv P51)).bind fun B52=>cond B52 (
 (zZ (.pv P10)).bind fun B53=>cond B53 (
 (zj .i64 (.pv P12)).bind fun N54=>cond (N54==0) (
 (zj .i64 (.pv P19)).bind fun N55=>cond (N55==1) (
 (zj .i64 (.pv P26)).bind fun N56=>cond (N56==0) (
 zb (ev 27 [(.pv P24),(.pv (.sl 1 [(U8 16),(U8 1),(U8 0),(U8 0)]))] []) (fun A57 H58=>(za A57).bind fun P59=>(zZ (.pv P59)).bind fun B60=>cond B60 (
 (zj .i64 (.pv P33)).bind fun N61=>cond (N61==0) (
 zb (ev 27 [(.pv P31),(.pv (.sl 1 [(U8 0),(U8 0),(U8 0),(U8 0),(U8 1),(U8 0),(U8 0),(U8 0),(U8 0),(U8 0),(U8 0),(U8 0),(U8 0),(U8 0),(U8 0),(U8 0)]))] []) (fun A62 H63=>(za A62).bind fun P64=>(zZ (.pv P64)).bind fun B65=>cond B65 (
 (zj .i64 (.pv P40)).bind fun N66=>cond (N66==11) (
 (zj .i64 (.pv P47)).bind fun N67=>cond (N67==0) (
 zb (ev 42 [(.pv (.sl 1 [(U8 0),(U8 0),(U8 0),(U8 0),(U8 0),(U8 0),(U8 0),(U8 0)]))] []) (fun A68 H69=>(za A68).bind fun P70=>(zj .u64 (.pv P45)).bind fun N71=>(zj .u64 (.pv P70)).bind fun N72=>cond (N71==N72) (
 zb (ev 35 [(.pv (.sl 1 [(U8 0),(U8 0),(U8 0),(U8 0),(U8 1),(U8 0),(U8 0),(U8 0),(U8 0),(U8 0),(U8 0),(U8 0),(U8 0),(U8 0),(U8 0),(U8 0)])),(.pv (.agg [(I 5),(I 100),(I 100)]))] []) (fun A73 H74=>(za A73).bind fun P75=>(zZ (.pv P75)).bind fun B76=>cond B76 (
 zb (ev 35 [(.pv (.sl 1 [(U8 0),(U8 0),(U8 0),(U8 0),(U8 0),(U8 0),(U8 0),(U8 0)])),(.pv (.agg [(I 5),(I 100),(I 100)]))] []) (fun A77 H78=>(za A77).bind fun P79=>(zZ (.pv P79)).bind fun B80=>some (.ret (.pv (Bo (!B80))),[])) (fun A77 H78=>some (.pan A77,[]))) (
 some (.ret (.pv (Bo false)),[]))) (fun A73 H74=>some (.pan A73,[]))) (
 some (.ret (.pv (Bo false)),[]))) (fun A68 H69=>some (.pan A68,[]))) (
 some (.ret (.pv (Bo false)),[]))) (
 some (.ret (.pv (Bo false)),[]))) (
 some (.ret (.pv (Bo false)),[]))) (fun A62 H63=>some (.pan A62,[]))) (
 some (.ret (.pv (Bo false)),[]))) (
 some (.ret (.pv (Bo false)),[]))) (fun A57 H58=>some (.pan A57,[]))) (
 some (.ret (.pv (Bo false)),[]))) (
 some (.ret (.pv (Bo false)),[]))) (
 some (.ret (.pv (Bo false)),[]))) (
 some (.ret (.pv (Bo false)),[]))) (
 some (.ret (.pv (Bo false)),[]))) (fun A49 H50=>some (.pan A49,[]))) (
 some (.ret (.pv (Bo false)),[]))) (fun A41 H42=>some (.pan A41,[]))) (fun A34 H35=>some (.pan A34,[]))) (fun A27 H28=>some (.pan A27,[]))) (fun A20 H21=>some (.pan A20,[]))) (fun A13 H14=>some (.pan A13,[]))) (fun A6 H7=>some (.pan A6,[]))) (fun A1 H2=>some (.pan A1,[])):=(zm (fn:=Tryz.f33) _ _).trans (by kernel_rfl)
theorem zk0 (x0:List PV):ev 57 [(.pv (.sl 1 x0))] [] =
 zb (ev 107 [(.pv (.sl 1 x0))] []) (fun A1 H2=>(za A1).bind fun P3=>(zi (.pv P3)).bind fun S4=>(S4[0]?).bind fun P5=>(zi (.pv P3)).bind fun S6=>(S6[1]?).bind fun P7=>zb (ev 104 [(.pv P7)] []) (fun A8 H9=>(za A8).bind fun P10=>some (.ret (.pv (.tup [P5,P10])),[])) (fun A8 H9=>some (.pan A8,[]))) (fun A1 H2=>some (.pan A1,[])):=(zm (fn:=Tryz.f57) _ _).trans (by kernel_rfl)
noncomputable def V4:Code:=Tryz.f60.body.getD .skip
noncomputable def za5 (xs0:List PV) (xs1:List PV) (xs2:List PV) (i3:Int) (i4:Int) (i5:Int) (i6:Int) (i7:Int):Option (Out×zh) :=
 ya (zv env ev zN 38 60 0 (sub V4 [1,0,1,0,0])) (zL env 60 0 1) (zP 0 (z8 (zR env ev 38 60 0 (sub V4 [1,1])) (z7 env 60 Tryz.f60.results.toList 0))) ⟨zT [(0,(.pv (.sl 1 xs0))),(1,(.pv (.sl 1 xs1))),(5,(.ptr 0 0)),(14,(.slu 67 1 xs2)),(15,(.pv (I i3))),(16,(.pv (I i4)))],[[(.pv (I i5)),(.pv (I i6)),(.pv (I i7))]]⟩
noncomputable def qj (xs0:List PV) (xs1:List PV) (xs2:List PV) (i3:Int) (i4:Int) (i5:Int) (i6:Int) (i7:Int):Option (Out×zh) :=
 ya (zv env ev zN 38 60 0 (sub V4 [1,0,1,0,0])) (zL env 60 0 1) (zP 0 (z8 (zR env ev 38 60 0 (sub V4 [1,1])) (z7 env 60 Tryz.f60.results.toList 0))) ⟨zT [(0,(.pv (.sl 1 xs0))),(1,(.pv (.sl 1 xs1))),(5,(.ptr 0 0)),(14,(.pv (.sl 1 xs2))),(15,(.pv (I i3))),(16,(.pv (I i4)))],[[(.pv (I i5)),(.pv (I i6)),(.pv (I i7))]]⟩
theorem zjs (xs0:List PV) (xs1:List PV) (xs2:List PV) (i3:Int) (i4:Int) (i5:Int) (i6:Int) (i7:Int):za5 xs0 xs1 xs2 i3 i4 i5 i6 i7 =
 cond (decide (i4<i3)) (
 cond (decide (0<=i4)&&decide (i4<(xs2.length:Int))) ((xs2[(i4).toNat]?).bind fun P1=>(P1.cells[0]?).bind fun P2=>zb (ev 110 [(.pv P2),(.pv (.agg [(I i5),(I i6),(I i7)]))] []) (fun A3 H4=>(za A3).bind fun P5=>(zi (.pv P5)).bind fun S6=>(S6[0]?).bind fun P7=>(zi (.pv P5)).bind fun S8=>(S8[1]?).bind fun P9=>(zj .i64 (.pv P9)).bind fun N10=>cond (N10 != 0) (
 some (.ret (.pv (.tup [(Bo false),P9])),[])) (
 qj xs0 xs1 xs2 i3 (IntKind.wrap .i64 (i4+1)) i5 i6 i7)) (fun A3 H4=>some (.pan A3,[]))) none) (
 zb (ev 112 [(.pv (.sl 1 xs0))] []) (fun A1 H2=>(za A1).bind fun P3=>zb (ev 112 [(.pv (.sl 1 xs1))] []) (fun A4 H5=>(za A4).bind fun P6=>zb (ev 111 [(.pv (.agg [(.sl 1 xs0),(.sl 1 xs1)])),(.pv P3),(.pv P6)] []) (fun A7 H8=>(za A7).bind fun P9=>some (.ret (.pv (.tup [P9,(I 0)])),[])) (fun A7 H8=>some (.pan A7,[]))) (fun A4 H5=>some (.pan A4,[]))) (fun A1 H2=>some (.pan A1,[]))):=(ye ..).trans (by kernel_rfl)
theorem za6 (xs0:List PV) (xs1:List PV) (xs2:List PV) (i3:Int) (i4:Int) (i5:Int) (i6:Int) (i7:Int):qj xs0 xs1 xs2 i3 i4 i5 i6 i7 =
 cond (decide (i4<i3)) (
 cond (decide (0<=i4)&&decide (i4<(xs2.length:Int))) ((xs2[(i4).toNat]?).bind fun P1=>(P1.cells[0]?).bind fun P2=>zb (ev 110 [(.pv P2),(.pv (.agg [(I i5),(I i6),(I i7)]))] []) (fun A3 H4=>(za A3).bind fun P5=>(zi (.pv P5)).bind fun S6=>(S6[0]?).bind fun P7=>(zi (.pv P5)).bind fun S8=>(S8[1]?).bind fun P9=>(zj .i64 (.pv P9)).bind fun N10=>cond (N10 != 0) (
 some (.ret (.pv (.tup [(Bo false),P9])),[])) (
 qj xs0 xs1 xs2 i3 (IntKind.wrap .i64 (i4+1)) i5 i6 i7)) (fun A3 H4=>some (.pan A3,[]))) none) (
 zb (ev 112 [(.pv (.sl 1 xs0))] []) (fun A1 H2=>(za A1).bind fun P3=>zb (ev 112 [(.pv (.sl 1 xs1))] []) (fun A4 H5=>(za A4).bind fun P6=>zb (ev 111 [(.pv (.agg [(.sl 1 xs0),(.sl 1 xs1)])),(.pv P3),(.pv P6)] []) (fun A7 H8=>(za A7).bind fun P9=>some (.ret (.pv (.tup [P9,(I 0)])),[])) (fun A7 H8=>some (.pan A7,[]))) (fun A4 H5=>some (.pan A4,[]))) (fun A1 H2=>some (.pan A1,[]))):=(ye ..).trans (by kernel_rfl)
theorem zjt (x0:List PV) (x1:List PV) (x2_0:Int) (x2_1:Int) (x2_2:Int):ev 60 [(.pv (.sl 1 x0)),(.pv (.sl 1 x1)),(.pv (.agg [(I x2_0),(I x2_1),(I x2_2)]))] [] =
 za5 x0 x1 [(.sl 1 x0),(.sl 1 x1)] 2 0 x2_0 x2_1 x2_2:=(zm (fn:=Tryz.f60) _ _).trans (by kernel_rfl)
theorem zig (x0_0:Int) (x0_1:Int) (x0_2:Int):ev 82 [(.pv (.agg [(I x0_0),(I x0_1),(I x0_2)]))] [] =
 cond (decide (x0_1<0)) (
 some (.ret (.pv (.agg [(I 0)])),[])) (
 some (.ret (.pv (.agg [(I x0_1)])),[])):=(zm (fn:=Tryz.f82) _ _).trans (by kernel_rfl)
theorem zh2 (x0:List PV) (x1:Int):ev 85 [(.pv (.sl 1 x0)),(.pv (I x1))] [] =
 cond (decide (0<=(IntKind.wrap .i64 (4*x1)))&&decide ((IntKind.wrap .i64 (4*x1))<(x0.length:Int))) ((x0[(IntKind.wrap .i64 (4*x1)).toNat]?).bind fun P1=>(P1.cells[0]?).bind fun P2=>(yp (.pv P2)).bind fun Q3=>cond (decide (0<=(IntKind.wrap .i64 ((IntKind.wrap .i64 (4*x1))+1)))&&decide ((IntKind.wrap .i64 ((IntKind.wrap .i64 (4*x1))+1))<(x0.length:Int))) ((x0[(IntKind.wrap .i64 ((IntKind.wrap .i64 (4*x1))+1)).toNat]?).bind fun P4=>(P4.cells[0]?).bind fun P5=>(yp (.pv P5)).bind fun Q6=>cond (decide (0<=(IntKind.wrap .i64 ((IntKind.wrap .i64 (4*x1))+2)))&&decide ((IntKind.wrap .i64 ((IntKind.wrap .i64 (4*x1))+2))<(x0.length:Int))) ((x0[(IntKind.wrap .i64 ((IntKind.wrap .i64 (4*x1))+2)).toNat]?).bind fun P7=>(P7.cells[0]?).bind fun P8=>(yp (.pv P8)).bind fun Q9=>cond (decide (0<=(IntKind.wrap .i64 ((IntKind.wrap .i64 (4*x1))+3)))&&decide ((IntKind.wrap .i64 ((IntKind.wrap .i64 (4*x1))+3))<(x0.length:Int))) ((x0[(IntKind.wrap .i64 ((IntKind.wrap .i64 (4*x1))+3)).toNat]?).bind fun P10=>(P10.cells[0]?).bind fun P11=>(yp (.pv P11)).bind fun Q12=>some (.ret (.pv (I (IntKind.wrap .i64 ((IntKind.wrap .i64 ((IntKind.wrap .i64 ((IntKind.wrap .i64 Q3.2)+(IntKind.wrap .i64 (256*(IntKind.wrap .i64 Q6.2)))))+(IntKind.wrap .i64 (65536*(IntKind.wrap .i64 Q9.2)))))+(IntKind.wrap .i64 (16777216*(IntKind.wrap .i64 Q12.2))))))),[])) none) none) none) none:=(zm (fn:=Tryz.f85) _ _).trans (by kernel_rfl)
noncomputable def gf:Code:=Tryz.f94.body.getD .skip
noncomputable def QA (xs0:List PV) (i1:Int) (i2:Int) (i3:Int):Option (Out×zh) :=
 ya (zv env ev zN 34 94 0 (sub gf [1,1,1,0,1,0,0])) (zL env 94 0 0) (zP 0 (z8 (zR env ev 34 94 0 (sub gf [1,1,1,1])) (z7 env 94 Tryz.f94.results.toList 0))) ⟨zT [(0,(.pv (.sl 1 xs0))),(1,(.pv (I i1))),(6,(.pv (U i2))),(7,(.pv (I i3)))],[]⟩
theorem j9 (xs0:List PV) (i1:Int) (i2:Int) (i3:Int):QA xs0 i1 i2 i3 =
 cond (decide (i3≥0)) (
 cond (decide (0<=(IntKind.wrap .i64 ((IntKind.wrap .i64 (8*i1))+i3)))&&decide ((IntKind.wrap .i64 ((IntKind.wrap .i64 (8*i1))+i3))<(xs0.length:Int))) ((xs0[(IntKind.wrap .i64 ((IntKind.wrap .i64 (8*i1))+i3)).toNat]?).bind fun P1=>(P1.cells[0]?).bind fun P2=>(yp (.pv P2)).bind fun Q3=>QA xs0 i1 (IntKind.wrap .u64 ((IntKind.wrap .u64 (i2*256))+(IntKind.wrap .u64 Q3.2))) (IntKind.wrap .i64 (i3-1))) none) (
 some (.ret (.pv (.tup [(U i2),(Bo true)])),[])):=(ye ..).trans (by kernel_rfl)
theorem zhU (x0:List PV) (x1:Int):ev 94 [(.pv (.sl 1 x0)),(.pv (I x1))] [] =
 cond (decide (x1<0)) (
 some (.ret (.pv (.tup [(U 0),(Bo false)])),[])) (
 cond (decide (x1>(IntKind.wrap .i64 ((IntKind.wrap .i64 (Int.tdiv (x0.length:Int) 8))-1)))) (
  some (.ret (.pv (.tup [(U 0),(Bo false)])),[])) (
  QA x0 x1 0 7)):=(zm (fn:=Tryz.f94) _ _).trans (by kernel_rfl)
theorem zhA (x0:List PV) (x1_0:Int) (x1_1:Int) (x1_2:Int):ev 103 [(.pv (.sl 1 x0)),(.pv (.agg [(I x1_0),(I x1_1),(I x1_2)]))] [] =
 zb (ev 163 [(.pv (.sl 1 x0)),(.pv (.agg [(I x1_0),(I x1_1),(I x1_2)])),(.pv (.v (.func (.func 164) #[] #[])))] []) (fun A1 H2=>(za A1).bind fun P3=>(zi (.pv P3)).bind fun S4=>(S4[0]?).bind fun P5=>(zi (.pv P3)).bind fun S6=>(S6[1]?).bind fun P7=>some (.ret (.pv (.tup [P5,P7])),[])) (fun A1 H2=>some (.pan A1,[])):=(zm (fn:=Tryz.f103) _ _).trans (by kernel_rfl)
noncomputable def Xx:Code:=Tryz.f107.body.getD .skip
noncomputable def gE:Code:=Tryz.f172.body.getD .skip
noncomputable def Wa (xs0:List PV) (xs1:List PV) (i2:Int) (i3:Int) (xs4:List PV) (i5:Int):Option (Out×zh) :=
 ya (zv env ev zN 77 107 0 (sub Xx [1,1,1,1,1,1,1,0,1,0,0])) (zL env 107 0 2) (zP 0 (z8 (zR env ev 77 107 0 (sub Xx [1,1,1,1,1,1,1,1])) (J9 env ev 107 172 Tryz.f107 Tryz.f172 ⟨sub Xx [0],sub Xx [1,1],sub gE [1],[2,3],2,11⟩ 0 [(.ptr 0 0),(.ptr 1 0)] [(2,(.ptr 0 0)),(3,(.ptr 1 0))]))) ⟨zT [(0,(.pv (.sl 1 xs0))),(2,(.ptr 0 0)),(3,(.ptr 1 0)),(6,(.pv (.sl 1 xs1))),(37,(.pv (I i2))),(38,(.pv (I i3)))],[[(.slu 75 1 xs4)],[(.pv (I i5))]]⟩
theorem zbx (xs0:List PV) (xs1:List PV) (i2:Int) (i3:Int) (xs4:List PV) (i5:Int):Wa xs0 xs1 i2 i3 xs4 i5 =
 cond (decide (i3<i2)) (
 zb (ev 173 [(.pv (.sl 1 xs0)),(.pv (I (IntKind.wrap .i64 (i3+1))))] []) (fun A1 H2=>(za A1).bind fun P3=>(zj .i64 (.pv P3)).bind fun N4=>cond (decide (N4<536870912)) (
 (zj .i64 (.pv P3)).bind fun N5=>zb (ev 174 [(.pv (Bo (decide ((IntKind.wrap .i64 (N5*8))<=(xs1.length:Int)))))] []) (fun A6 H7=>(za A6).bind fun P8=>(zj .i64 (.pv P3)).bind fun N9=>cond (decide (0<=(IntKind.wrap .i64 (N9*8)))&&decide ((IntKind.wrap .i64 (N9*8))<=(xs1.length:Int))) (zb (ev 64 [(.pv (.sl 1 ((xs1.take (IntKind.wrap .i64 (N9*8)).toNat).drop 0)))] []) (fun A10 H11=>(za A10).bind fun P12=>(zi (.pv P12)).bind fun S13=>(S13[0]?).bind fun P14=>(zi (.pv P12)).bind fun S15=>(S15[1]?).bind fun P16=>cond ((decide (P14.cells.length=1)&&P14.cells.all PV.isCell)&&true) (cond (yf (xs4.length+1) 24) ((zj .i64 (.pv P3)).bind fun N17=>cond ((decide (0<=(IntKind.wrap .i64 (N17*8)))&&decide ((IntKind.wrap .i64 (N17*8))<=(xs1.length:Int)))&&decide ((xs1.length:Int)<=(xs1.length:Int))) (Wa xs0 ((xs1.take (xs1.length:Int).toNat).drop (IntKind.wrap .i64 (N17*8)).toNat) i2 (IntKind.wrap .i64 (i3+1)) (xs4++[P14]) i5) none) none) none) (fun A10 H11=>(yS (.pv A10)).bind fun Z12=>cond (!Z12) (
  (xP (.pv A10)).bind fun Q13=>cond (decide (Q13.1=225)) (cond (decide (Q13.2.cells.length=0)) (some (.ret (.pv (.tup [(.sl 1 []),(I 1)])),[])) none) none) (
  some (.ret (.pv (.tup [(.sl 1 xs4),(I i5)])),[])))) none) (fun A6 H7=>(yS (.pv A6)).bind fun Z8=>cond (!Z8) (
  (xP (.pv A6)).bind fun Q9=>cond (decide (Q9.1=225)) (cond (decide (Q9.2.cells.length=0)) (some (.ret (.pv (.tup [(.sl 1 []),(I 1)])),[])) none) none) (
  some (.ret (.pv (.tup [(.sl 1 xs4),(I i5)])),[])))) (
 zb (ev 174 [(.pv (Bo false))] []) (fun A5 H6=>(za A5).bind fun P7=>(zj .i64 (.pv P3)).bind fun N8=>cond (decide (0<=(IntKind.wrap .i64 (N8*8)))&&decide ((IntKind.wrap .i64 (N8*8))<=(xs1.length:Int))) (zb (ev 64 [(.pv (.sl 1 ((xs1.take (IntKind.wrap .i64 (N8*8)).toNat).drop 0)))] []) (fun A9 H10=>(za A9).bind fun P11=>(zi (.pv P11)).bind fun S12=>(S12[0]?).bind fun P13=>(zi (.pv P11)).bind fun S14=>(S14[1]?).bind fun P15=>cond ((decide (P13.cells.length=1)&&P13.cells.all PV.isCell)&&true) (cond (yf (xs4.length+1) 24) ((zj .i64 (.pv P3)).bind fun N16=>cond ((decide (0<=(IntKind.wrap .i64 (N16*8)))&&decide ((IntKind.wrap .i64 (N16*8))<=(xs1.length:Int)))&&decide ((xs1.length:Int)<=(xs1.length:Int))) (Wa xs0 ((xs1.take (xs1.length:Int).toNat).drop (IntKind.wrap .i64 (N16*8)).toNat) i2 (IntKind.wrap .i64 (i3+1)) (xs4++[P13]) i5) none) none) none) (fun A9 H10=>(yS (.pv A9)).bind fun Z11=>cond (!Z11) (
   (xP (.pv A9)).bind fun Q12=>cond (decide (Q12.1=225)) (cond (decide (Q12.2.cells.length=0)) (some (.ret (.pv (.tup [(.sl 1 []),(I 1)])),[])) none) none) (
   some (.ret (.pv (.tup [(.sl 1 xs4),(I i5)])),[])))) none) (fun A5 H6=>(yS (.pv A5)).bind fun Z7=>cond (!Z7) (
   (xP (.pv A5)).bind fun Q8=>cond (decide (Q8.1=225)) (cond (decide (Q8.2.cells.length=0)) (some (.ret (.pv (.tup [(.sl 1 []),(I 1)])),[])) none) none) (
   some (.ret (.pv (.tup [(.sl 1 xs4),(I i5)])),[]))))) (fun A1 H2=>(yS (.pv A1)).bind fun Z3=>cond (!Z3) (
  (xP (.pv A1)).bind fun Q4=>cond (decide (Q4.1=225)) (cond (decide (Q4.2.cells.length=0)) (some (.ret (.pv (.tup [(.sl 1 []),(I 1)])),[])) none) none) (
  some (.ret (.pv (.tup [(.sl 1 xs4),(I i5)])),[])))) (
 zb (ev 174 [(.pv (Bo ((xs1.length:Int)==0)))] []) (fun A1 H2=>(za A1).bind fun P3=>some (.ret (.pv (.tup [(.sl 1 xs4),(I 0)])),[])) (fun A1 H2=>(yS (.pv A1)).bind fun Z3=>cond (!Z3) (
   (xP (.pv A1)).bind fun Q4=>cond (decide (Q4.1=225)) (cond (decide (Q4.2.cells.length=0)) (some (.ret (.pv (.tup [(.sl 1 []),(I 1)])),[])) none) none) (
   some (.ret (.pv (.tup [(.sl 1 xs4),(I i5)])),[])))):=(ye ..).trans (by kernel_rfl)
theorem zjZ (x0:List PV):ev 107 [(.pv (.sl 1 x0))] [] =
 zb (ev 173 [(.pv (.sl 1 x0)),(.pv (I 0))] []) (fun A1 H2=>(za A1).bind fun P3=>(zj .i64 (.pv P3)).bind fun N4=>zb (ev 174 [(.pv (Bo (decide ((IntKind.wrap .i64 (N4+1))<=512))))] []) (fun A5 H6=>(za A5).bind fun P7=>zb (ev 167 [(.pv (I (IntKind.wrap .i64 (N4+1))))] []) (fun A8 H9=>(za A8).bind fun P10=>(zj .i64 (.pv P10)).bind fun N11=>cond (decide ((x0.length:Int)≥N11)) (
 (yp (.pv P10)).bind fun Q12=>cond ((decide (0<=(IntKind.wrap .i64 (4*(IntKind.wrap .i64 ((IntKind.wrap .i64 (N4+1))+1)))))&&decide ((IntKind.wrap .i64 (4*(IntKind.wrap .i64 ((IntKind.wrap .i64 (N4+1))+1))))<=Q12.2))&&decide (Q12.2<=(x0.length:Int))) (zb (ev 175 [(.pv (.sl 1 ((x0.take (Q12.2).toNat).drop (IntKind.wrap .i64 (4*(IntKind.wrap .i64 ((IntKind.wrap .i64 (N4+1))+1)))).toNat)))] []) (fun A13 H14=>(za A13).bind fun P15=>(zZ (.pv P15)).bind fun B16=>zb (ev 174 [(.pv (Bo B16))] []) (fun A17 H18=>(za A17).bind fun P19=>(yp (.pv P10)).bind fun Q20=>cond ((decide (0<=Q20.2)&&decide (Q20.2<=(x0.length:Int)))&&decide ((x0.length:Int)<=(x0.length:Int))) (Wa x0 ((x0.take (x0.length:Int).toNat).drop (Q20.2).toNat) (IntKind.wrap .i64 (N4+1)) 0 [] 0) none) (fun A17 H18=>(yS (.pv A17)).bind fun Z19=>cond (!Z19) (
  (xP (.pv A17)).bind fun Q20=>cond (decide (Q20.1=225)) (cond (decide (Q20.2.cells.length=0)) (some (.ret (.pv (.tup [(.sl 1 []),(I 1)])),[])) none) none) (
  some (.ret (.pv (.tup [(.sl 1 []),(I 0)])),[])))) (fun A13 H14=>(yS (.pv A13)).bind fun Z15=>cond (!Z15) (
  (xP (.pv A13)).bind fun Q16=>cond (decide (Q16.1=225)) (cond (decide (Q16.2.cells.length=0)) (some (.ret (.pv (.tup [(.sl 1 []),(I 1)])),[])) none) none) (
  some (.ret (.pv (.tup [(.sl 1 []),(I 0)])),[])))) none) (
 zb (ev 174 [(.pv (Bo false))] []) (fun A12 H13=>(za A12).bind fun P14=>(yp (.pv P10)).bind fun Q15=>cond ((decide (0<=Q15.2)&&decide (Q15.2<=(x0.length:Int)))&&decide ((x0.length:Int)<=(x0.length:Int))) (Wa x0 ((x0.take (x0.length:Int).toNat).drop (Q15.2).toNat) (IntKind.wrap .i64 (N4+1)) 0 [] 0) none) (fun A12 H13=>(yS (.pv A12)).bind fun Z14=>cond (!Z14) (
   (xP (.pv A12)).bind fun Q15=>cond (decide (Q15.1=225)) (cond (decide (Q15.2.cells.length=0)) (some (.ret (.pv (.tup [(.sl 1 []),(I 1)])),[])) none) none) (
   some (.ret (.pv (.tup [(.sl 1 []),(I 0)])),[]))))) (fun A8 H9=>(yS (.pv A8)).bind fun Z10=>cond (!Z10) (
  (xP (.pv A8)).bind fun Q11=>cond (decide (Q11.1=225)) (cond (decide (Q11.2.cells.length=0)) (some (.ret (.pv (.tup [(.sl 1 []),(I 1)])),[])) none) none) (
  some (.ret (.pv (.tup [(.sl 1 []),(I 0)])),[])))) (fun A5 H6=>(yS (.pv A5)).bind fun Z7=>cond (!Z7) (
  (xP (.pv A5)).bind fun Q8=>cond (decide (Q8.1=225)) (cond (decide (Q8.2.cells.length=0)) (some (.ret (.pv (.tup [(.sl 1 []),(I 1)])),[])) none) none) (
  some (.ret (.pv (.tup [(.sl 1 []),(I 0)])),[])))) (fun A1 H2=>(yS (.pv A1)).bind fun Z3=>cond (!Z3) (
  (xP (.pv A1)).bind fun Q4=>cond (decide (Q4.1=225)) (cond (decide (Q4.2.cells.length=0)) (some (.ret (.pv (.tup [(.sl 1 []),(I 1)])),[])) none) none) (
  some (.ret (.pv (.tup [(.sl 1 []),(I 0)])),[]))):=(ql (f:=107) (g:=172) (fn:=Tryz.f107) (gn:=Tryz.f172) (d:=⟨sub Xx [0],sub Xx [1,1],sub gE [1],[2,3],2,11⟩) (by kernel_rfl) (by kernel_rfl) (by kernel_rfl) (by kernel_rfl) (by kernel_rfl) _ _).trans (by kernel_rfl)
theorem zhd (x0_0:Int) (x0_1:Int) (x0_2:Int):ev 131 [(.pv (.agg [(I x0_0),(I x0_1),(I x0_2)]))] [] =
 some (.ret (.pv (.agg [(I (if 0>x0_1 then 0 else x0_1))])),[]):=(zm (fn:=Tryz.f131) _ _).trans (by kernel_rfl)
noncomputable def gq:Code:=Tryz.f134.body.getD .skip
noncomputable def QH (i0:Int) (i1:Int) (i2:Int) (i3:Int) (xs4:List PV) (xs5:List PV) (i6:Int) (i7:Int) (i8:Int) (xs9:List PV) (xs10:List PV):Option (Out×zh) :=
 ya (zv env ev zN 61 134 0 (sub gq [1,1,0,1,0,0])) (zL env 134 0 2) (zP 0 (z8 (zR env ev 61 134 0 (sub gq [1,1,1])) (z7 env 134 Tryz.f134.results.toList 0))) ⟨zT [(2,(.ptr 0 0)),(3,(.ptr 1 0)),(5,(.pv (I i0)))],[[(.pv (I i1)),(.pv (I i2)),(.pv (I i3)),(.pv (.sl 1 xs4)),(.pv (.sl 5 xs5))],[(.pv (I i6)),(.pv (I i7)),(.pv (I i8)),(.pv (.sl 1 xs9)),(.pv (.sl 5 xs10))]]⟩
theorem zag (i0:Int) (i1:Int) (i2:Int) (i3:Int) (xs4:List PV) (xs5:List PV) (i6:Int) (i7:Int) (i8:Int) (xs9:List PV) (xs10:List PV):QH i0 i1 i2 i3 xs4 xs5 i6 i7 i8 xs9 xs10 =
 cond (decide (i0<(xs5.length:Int))) (
 cond (decide (0<=i0)&&decide (i0<(xs5.length:Int))) ((xs5[(i0).toNat]?).bind fun P1=>cond (decide (5<=P1.cells.length)) (cond (decide (0<=i0)&&decide (i0<(xs10.length:Int))) ((xs10[(i0).toNat]?).bind fun P2=>cond (decide (5<=P2.cells.length)) (zb (ev 134 [(.pv (.agg ((P1.cells.drop 0).take 5))),(.pv (.agg ((P2.cells.drop 0).take 5)))] []) (fun A3 H4=>(za A3).bind fun P5=>(zZ (.pv P5)).bind fun B6=>cond (!B6) (
 some (.ret (.pv (Bo false)),[])) (
 QH (IntKind.wrap .i64 (i0+1)) i1 i2 i3 xs4 xs5 i6 i7 i8 xs9 xs10)) (fun A3 H4=>some (.pan A3,[]))) none) none) none) none) (
 some (.ret (.pv (Bo true)),[])):=(ye ..).trans (by kernel_rfl)
theorem zih (x0_0:Int) (x0_1:Int) (x0_2:Int) (x0_3:List PV) (x0_4:List PV) (x1_0:Int) (x1_1:Int) (x1_2:Int) (x1_3:List PV) (x1_4:List PV):ev 134 [(.pv (.agg [(I x0_0),(I x0_1),(I x0_2),(.sl 1 x0_3),(.sl 5 x0_4)])),(.pv (.agg [(I x1_0),(I x1_1),(I x1_2),(.sl 1 x1_3),(.sl 5 x1_4)]))] [] =
 cond (x0_0 != x1_0) (
 some (.ret (.pv (Bo false)),[])) (
 cond (x0_1 != x1_1) (
  some (.ret (.pv (Bo false)),[])) (
  cond (x0_2 != x1_2) (
   some (.ret (.pv (Bo false)),[])) (
   zb (ev 27 [(.pv (.sl 1 x0_3)),(.pv (.sl 1 x1_3))] []) (fun A1 H2=>(za A1).bind fun P3=>(zZ (.pv P3)).bind fun B4=>cond (!B4) (
    some (.ret (.pv (Bo false)),[])) (
    cond ((x0_4.length:Int) != (x1_4.length:Int)) (
     some (.ret (.pv (Bo false)),[])) (
     QH 0 x0_0 x0_1 x0_2 x0_3 x0_4 x1_0 x1_1 x1_2 x1_3 x1_4))) (fun A1 H2=>some (.pan A1,[]))))):=(zm (fn:=Tryz.f134) _ _).trans (by kernel_rfl)
theorem zif (x0_0:Int) (x1:Int):ev 138 [(.pv (.agg [(I x0_0)])),(.pv (I x1))] [] =
 cond (decide (x0_0<x1)) (
 some (.ret (.pv (.tup [(.agg [(I x0_0)]),(I 8)])),[])) (
 some (.ret (.pv (.tup [(.agg [(I (IntKind.wrap .i64 (x0_0-x1)))]),(I 0)])),[])):=(zm (fn:=Tryz.f138) _ _).trans (by kernel_rfl)
noncomputable def gu:Code:=Tryz.f139.body.getD .skip
noncomputable def QI (xs0:List PV) (i1:Int) (i2:Int) (i3:Int) (i4:Int) (i5:Int) (i6:Int) (i7:Int) (i8:Int) (i9:Int) (i10:Int) (i11:Int) (i12:Int) (i13:Int) (i14:Int) (i15:Int) (i16:Int) (i17:Int) (xs18:List PV) (xs19:List PV) (i20:Int) (i21:Int) (i22:Int) (i23:Int) (p24:PV) (xs25:List PV) (p26:PV):Option (Out×zh) :=
 ya (zv env ev zN 76 139 0 (sub gu [1,1,1,1,1,1,0,1,0,0])) (zL env 139 0 7) (zP 0 (z8 (zR env ev 76 139 0 (sub gu [1,1,1,1,1,1,1])) (z7 env 139 Tryz.f139.results.toList 0))) ⟨zT [(0,(.pv (.sl 1 xs0))),(4,(.pv (I i1))),(6,(.ptr 0 0)),(8,(.ptr 2 0)),(10,(.ptr 3 0)),(11,(.ptr 4 0)),(13,(.ptr 5 0)),(16,(.ptr 6 0)),(17,(.pv (I i2)))],[[(.pv (I i3)),(.pv (I i4)),(.pv (I i5))],[(.pv (I i6))],[(.pv (I i7)),(.pv (I i8)),(.pv (I i9)),(.pv (I i10)),(.pv (I i11)),(.pv (I i12)),(.pv (I i13)),(.pv (I i14))],[(.pv (I i15)),(.pv (I i16)),(.pv (I i17)),(.slu 5 1 xs18),(.slu 53 5 xs19)],[(.pv (I i20))],[(.pv (I i21)),(.pv (I i22)),(.pv (I i23)),(.pv p24),(.slu 53 5 xs25)],[(.pv p26)]]⟩
theorem zal (xs0:List PV) (i1:Int) (i2:Int) (i3:Int) (i4:Int) (i5:Int) (i6:Int) (i7:Int) (i8:Int) (i9:Int) (i10:Int) (i11:Int) (i12:Int) (i13:Int) (i14:Int) (i15:Int) (i16:Int) (i17:Int) (xs18:List PV) (xs19:List PV) (i20:Int) (i21:Int) (i22:Int) (i23:Int) (p24:PV) (xs25:List PV) (p26:PV):QI xs0 i1 i2 i3 i4 i5 i6 i7 i8 i9 i10 i11 i12 i13 i14 i15 i16 i17 xs18 xs19 i20 i21 i22 i23 p24 xs25 p26 =
 cond (decide (i2<i11)) (
 zb (ev 83 [(.pv (.sl 1 xs0)),(.pv (.agg [(I i3),(I i4),(I i5)])),(.pv (.agg [p26])),(.pv (I i8)),(.pv (I (IntKind.wrap .i64 ((IntKind.wrap .i64 (i9+i10))+i2)))),(.pv (I (IntKind.wrap .i64 (i1+1))))] []) (fun A1 H2=>(za A1).bind fun P3=>(zi (.pv P3)).bind fun S4=>(S4[0]?).bind fun P5=>(zi (.pv P3)).bind fun S6=>(S6[1]?).bind fun P7=>(zi (.pv P3)).bind fun S8=>(S8[2]?).bind fun P9=>cond (decide (P5.cells.length=5)) ((P5.cells[0]?).bind fun P10=>(P5.cells[1]?).bind fun P11=>(P5.cells[2]?).bind fun P12=>(P5.cells[3]?).bind fun P13=>(P5.cells[4]?).bind fun P14=>cond (P10.isCell&&(P11.isCell&&(P12.isCell&&(P13.isCell&&(P14.isCell&&true))))) (cond (decide (P7.cells.length=1)) ((P7.cells[0]?).bind fun P15=>cond (P15.isCell&&true) ((zj .i64 (.pv P9)).bind fun N16=>cond (N16 != 0) (
 cond (P15.isCell&&true) (some (.ret (.pv (.tup [(.agg [(I 0),(I 0),(I 0),(.sl 1 []),(.sl 5 [])]),(.agg [P15]),P9])),[])) none) (
 cond (P15.isCell&&true) (cond ((true&&(P10.isCell&&(P11.isCell&&(P12.isCell&&(P13.isCell&&(P14.isCell&&true))))))&&true) (cond (yf (xs25.length+1) 72) (QI xs0 i1 (IntKind.wrap .i64 (i2+1)) i3 i4 i5 i6 i7 i8 i9 i10 i11 i12 i13 i14 i15 i16 i17 xs18 xs19 i20 i21 i22 i23 p24 (xs25++[(.agg [P10,P11,P12,P13,P14])]) P15) none) none) none)) none) none) none) none) (fun A1 H2=>some (.pan A1,[]))) (
 cond (p24.isCell&&true) (cond (p26.isCell&&true) (some (.ret (.pv (.tup [(.agg [(I i21),(I i22),(I i23),p24,(.sl 5 xs25)]),(.agg [p26]),(I 0)])),[])) none) none):=(ye ..).trans (by kernel_rfl)
theorem zin (x0:List PV) (x1_0:Int) (x1_1:Int) (x1_2:Int) (x2_0:Int) (x3_0:Int) (x3_1:Int) (x3_2:Int) (x3_3:Int) (x3_4:Int) (x3_5:Int) (x3_6:Int) (x3_7:Int) (x4:Int):ev 139 [(.pv (.sl 1 x0)),(.pv (.agg [(I x1_0),(I x1_1),(I x1_2)])),(.pv (.agg [(I x2_0)])),(.pv (.agg [(I x3_0),(I x3_1),(I x3_2),(I x3_3),(I x3_4),(I x3_5),(I x3_6),(I x3_7)])),(.pv (I x4))] [] =
 zb (ev 140 [(.pv (.sl 1 x0)),(.pv (I x3_1)),(.pv (I x3_2)),(.pv (I x3_3))] []) (fun A1 H2=>(za A1).bind fun P3=>(zi (.pv P3)).bind fun S4=>(S4[0]?).bind fun P5=>(zi (.pv P3)).bind fun S6=>(S6[1]?).bind fun P7=>zb (ev 91 [(.pv P5)] []) (fun A8 H9=>(za A8).bind fun P10=>cond (P10.isCell&&true) (cond (P10.isCell&&true) (QI x0 x4 0 x1_0 x1_1 x1_2 x2_0 x3_0 x3_1 x3_2 x3_3 x3_4 x3_5 x3_6 x3_7 0 0 0 [] [] 0 1 0 0 P10 [] (I x2_0)) none) none) (fun A8 H9=>some (.pan A8,[]))) (fun A1 H2=>some (.pan A1,[])):=(zm (fn:=Tryz.f139) _ _).trans (by kernel_rfl)
theorem jT (x0__0:List PV) (x0__1:Int) (x0__2_0:Int) (x0__2_1:Int) (x0__2_2:Int) (x0__3_0:Int) (x1:Int) (x2:Int) (x3_0:Int) (x3_1:Int) (x3_2:Int) (x3_3:Int) (x3_4:Int) (x3_5:Int) (x3_6:Bool) (x3_7:Int) (x3_8:Int) (x3_9:Int):ev 194 [(.ptr 0 0),(.pv (I x1)),(.pv (I x2)),(.pv (.agg [(I x3_0),(I x3_1),(I x3_2),(I x3_3),(I x3_4),(I x3_5),(Bo x3_6),(I x3_7),(PV.v (.int .u32 x3_8)),(PV.v (.int .u32 x3_9))]))] [[(.pv (.sl 1 x0__0)),(.pv (I x0__1)),(.pv (I x0__2_0)),(.pv (I x0__2_1)),(.pv (I x0__2_2)),(.pv (I x0__3_0))]] =
 cond (x3_4==7) (
 zb (ev 249 [(.ptr 0 0),(.pv (I x1)),(.pv (I x2)),(.pv (.agg [(I x3_0),(I x3_1),(I x3_2),(I x3_3),(I x3_4),(I x3_5),(Bo x3_6),(I x3_7),(PV.v (.int .u32 x3_8)),(PV.v (.int .u32 x3_9))]))] [[(.pv (.sl 1 x0__0)),(.pv (I x0__1)),(.pv (I x0__2_0)),(.pv (I x0__2_1)),(.pv (I x0__2_2)),(.pv (I x0__3_0))]]) (fun A1 H2=>(H2[0]?).bind fun C3=>(C3[0]?).bind fun E4=>(za E4).bind fun P5=>(C3[1]?).bind fun E6=>(za E6).bind fun P7=>(C3[2]?).bind fun E8=>(za E8).bind fun P9=>(C3[3]?).bind fun E10=>(za E10).bind fun P11=>(C3[4]?).bind fun E12=>(za E12).bind fun P13=>(C3[5]?).bind fun E14=>(za E14).bind fun P15=>cond (decide (C3.length=6)) (cond (decide (H2.length=1)) ((za A1).bind fun P16=>some (.ret (.pv (.tup [])),[[(.pv P5),(.pv P7),(.pv P9),(.pv P11),(.pv P13),(.pv P15)]])) none) none) (fun A1 H2=>(H2[0]?).bind fun C3=>(C3[0]?).bind fun E4=>(za E4).bind fun P5=>(C3[1]?).bind fun E6=>(za E6).bind fun P7=>(C3[2]?).bind fun E8=>(za E8).bind fun P9=>(C3[3]?).bind fun E10=>(za E10).bind fun P11=>(C3[4]?).bind fun E12=>(za E12).bind fun P13=>(C3[5]?).bind fun E14=>(za E14).bind fun P15=>cond (decide (C3.length=6)) (cond (decide (H2.length=1)) (some (.pan A1,[[(.pv P5),(.pv P7),(.pv P9),(.pv P11),(.pv P13),(.pv P15)]])) none) none)) (
 zb (ev 221 [(.pv (I x3_4)),(.pv (I x3_5))] []) (fun A1 H2=>(za A1).bind fun P3=>zb (ev 246 [(.ptr 0 0),(.pv (I x1)),(.pv (.agg [(I x3_0),(I x3_1),(I x3_2),(I x3_3),(I x3_4),(I x3_5),(Bo x3_6),(I x3_7),(PV.v (.int .u32 x3_8)),(PV.v (.int .u32 x3_9))])),(.pv P3)] [[(.pv (.sl 1 x0__0)),(.pv (I x0__1)),(.pv (I x0__2_0)),(.pv (I x0__2_1)),(.pv (I x0__2_2)),(.pv (I x0__3_0))]]) (fun A4 H5=>(H5[0]?).bind fun C6=>(C6[0]?).bind fun E7=>(za E7).bind fun P8=>(C6[1]?).bind fun E9=>(za E9).bind fun P10=>(C6[2]?).bind fun E11=>(za E11).bind fun P12=>(C6[3]?).bind fun E13=>(za E13).bind fun P14=>(C6[4]?).bind fun E15=>(za E15).bind fun P16=>(C6[5]?).bind fun E17=>(za E17).bind fun P18=>cond (decide (C6.length=6)) (cond (decide (H5.length=1)) ((za A4).bind fun P19=>zb (ev 247 [(.ptr 0 0),(.pv P3)] [[(.pv P8),(.pv P10),(.pv P12),(.pv P14),(.pv P16),(.pv P18)]]) (fun A20 H21=>(H21[0]?).bind fun C22=>(C22[0]?).bind fun E23=>(za E23).bind fun P24=>(C22[1]?).bind fun E25=>(za E25).bind fun P26=>(C22[2]?).bind fun E27=>(za E27).bind fun P28=>(C22[3]?).bind fun E29=>(za E29).bind fun P30=>(C22[4]?).bind fun E31=>(za E31).bind fun P32=>(C22[5]?).bind fun E33=>(za E33).bind fun P34=>cond (decide (C22.length=6)) (cond (decide (H21.length=1)) ((za A20).bind fun P35=>cond (x3_4==6) (
  zb (ev 248 [(.ptr 0 0),(.pv P19),(.pv P3),(.pv (I x2))] [[(.pv P24),(.pv P26),(.pv P28),(.pv P30),(.pv P32),(.pv P34)]]) (fun A36 H37=>(H37[0]?).bind fun C38=>(C38[0]?).bind fun E39=>(za E39).bind fun P40=>(C38[1]?).bind fun E41=>(za E41).bind fun P42=>(C38[2]?).bind fun E43=>(za E43).bind fun P44=>(C38[3]?).bind fun E45=>(za E45).bind fun P46=>(C38[4]?).bind fun E47=>(za E47).bind fun P48=>(C38[5]?).bind fun E49=>(za E49).bind fun P50=>cond (decide (C38.length=6)) (cond (decide (H37.length=1)) ((za A36).bind fun P51=>some (.ret (.pv (.tup [])),[[(.pv P40),(.pv P42),(.pv P44),(.pv P46),(.pv P48),(.pv P50)]])) none) none) (fun A36 H37=>(H37[0]?).bind fun C38=>(C38[0]?).bind fun E39=>(za E39).bind fun P40=>(C38[1]?).bind fun E41=>(za E41).bind fun P42=>(C38[2]?).bind fun E43=>(za E43).bind fun P44=>(C38[3]?).bind fun E45=>(za E45).bind fun P46=>(C38[4]?).bind fun E47=>(za E47).bind fun P48=>(C38[5]?).bind fun E49=>(za E49).bind fun P50=>cond (decide (C38.length=6)) (cond (decide (H37.length=1)) (some (.pan A36,[[(.pv P40),(.pv P42),(.pv P44),(.pv P46),(.pv P48),(.pv P50)]])) none) none)) (
  (zj .i64 (.pv P19)).bind fun N36=>(zj .i64 (.pv P3)).bind fun N37=>(z4 P24).bind fun L38=>cond (decide (L38.1=1)) ((yp (.pv P19)).bind fun Q39=>cond ((decide (0<=Q39.2)&&decide (Q39.2<=(IntKind.wrap .i64 (N36+N37))))&&decide ((IntKind.wrap .i64 (N36+N37))<=(L38.2.length:Int))) (zb (ev 117 [(.pv (.sl L38.1 ((L38.2.take (IntKind.wrap .i64 (N36+N37)).toNat).drop (Q39.2).toNat)))] []) (fun A40 H41=>(za A40).bind fun P42=>zb (ev 235 [(.pv (I x3_4)),(.pv (I x3_5)),(.pv P42)] []) (fun A43 H44=>(yb 5 1 A43).bind fun X45=>(z4 P42).bind fun L46=>cond (decide (0<=(L46.2.length:Int))&&decide ((L46.2.length:Int)<=140737488355328)) (cond (yf (X45.length+(List.replicate (L46.2.length:Int).toNat (U8 0)).length) 1) ((z4 P42).bind fun L47=>cond (decide (0<=(L47.2.length:Int))&&decide ((L47.2.length:Int)<=((X45++(List.replicate (L46.2.length:Int).toNat (U8 0))).length:Int))) ((vR (((X45++(List.replicate (L46.2.length:Int).toNat (U8 0))).take (L47.2.length:Int).toNat).drop 0)).bind fun ns_48=>(z4 P42).bind fun L49=>cond (decide (L49.1=1)) ((vR L49.2).bind fun ns_50=>zb (ev 130 [(.pv (Bo ((strOfNums ns_48).toList==(strOfNums ns_50).toList)))] []) (fun A51 H52=>(za A51).bind fun P53=>some (.ret (.pv (.tup [])),[[(.pv P24),(.pv P26),(.pv P28),(.pv P30),(.pv P32),(.pv P34)]])) (fun A51 H52=>some (.pan A51,[[(.pv P24),(.pv P26),(.pv P28),(.pv P30),(.pv P32),(.pv P34)]]))) none) none) none) none) (fun A43 H44=>some (.pan A43,[[(.pv P24),(.pv P26),(.pv P28),(.pv P30),(.pv P32),(.pv P34)]]))) (fun A40 H41=>some (.pan A40,[[(.pv P24),(.pv P26),(.pv P28),(.pv P30),(.pv P32),(.pv P34)]]))) none) none)) none) none) (fun A20 H21=>(H21[0]?).bind fun C22=>(C22[0]?).bind fun E23=>(za E23).bind fun P24=>(C22[1]?).bind fun E25=>(za E25).bind fun P26=>(C22[2]?).bind fun E27=>(za E27).bind fun P28=>(C22[3]?).bind fun E29=>(za E29).bind fun P30=>(C22[4]?).bind fun E31=>(za E31).bind fun P32=>(C22[5]?).bind fun E33=>(za E33).bind fun P34=>cond (decide (C22.length=6)) (cond (decide (H21.length=1)) (some (.pan A20,[[(.pv P24),(.pv P26),(.pv P28),(.pv P30),(.pv P32),(.pv P34)]])) none) none)) none) none) (fun A4 H5=>(H5[0]?).bind fun C6=>(C6[0]?).bind fun E7=>(za E7).bind fun P8=>(C6[1]?).bind fun E9=>(za E9).bind fun P10=>(C6[2]?).bind fun E11=>(za E11).bind fun P12=>(C6[3]?).bind fun E13=>(za E13).bind fun P14=>(C6[4]?).bind fun E15=>(za E15).bind fun P16=>(C6[5]?).bind fun E17=>(za E17).bind fun P18=>cond (decide (C6.length=6)) (cond (decide (H5.length=1)) (some (.pan A4,[[(.pv P8),(.pv P10),(.pv P12),(.pv P14),(.pv P16),(.pv P18)]])) none) none)) (fun A1 H2=>some (.pan A1,[[(.pv (.sl 1 x0__0)),(.pv (I x0__1)),(.pv (I x0__2_0)),(.pv (I x0__2_1)),(.pv (I x0__2_2)),(.pv (I x0__3_0))]]))):=(zm (fn:=Tryz.f194) _ _).trans (by kernel_rfl)
theorem zkL (x0:Int) (x1:Int):ev 221 [(.pv (I x0)),(.pv (I x1))] [] =
 cond (x0==7) (
 some (.ret (.pv (I (IntKind.wrap .i64 (x1+1)))),[])) (
 cond (decide (0<=x0)&&decide (x0<8)) ((([(I 0),(I 1),(I 8),(I 16),(I 32),(I 64),(I 64),(I 0)]:List PV)[(0+(x0).toNat*1)]?).bind fun P1=>(zj .i64 (.pv P1)).bind fun N2=>zb (ev 263 [(.pv (I (IntKind.wrap .i64 (N2*x1)))),(.pv (I 64))] []) (fun A3 H4=>(za A3).bind fun P5=>some (.ret (.pv P5),[])) (fun A3 H4=>some (.pan A3,[]))) none):=(zm (fn:=Tryz.f221) _ _).trans (by kernel_rfl)
noncomputable def gD:Code:=Tryz.f232.body.getD .skip
noncomputable def Kb (i0:Int) (xs1:List PV) (i2:Int) (i3:Int):Option (Out×zh) :=
 ya (zv env ev zN 20 232 0 (sub gD [1,0,1,0,0])) (zL env 232 0 0) (zP 0 (z8 (zR env ev 20 232 0 (sub gD [1,1])) (z7 env 232 Tryz.f232.results.toList 0))) ⟨zT [(0,(.pv (U i0))),(7,(.pv (.sl 1 xs1))),(8,(.pv (I i2))),(9,(.pv (I i3)))],[]⟩
theorem zbs (i0:Int) (xs1:List PV) (i2:Int) (i3:Int):Kb i0 xs1 i2 i3 =
 cond (decide (i3<i2)) (
 cond (decide (0<=i3)&&decide (i3<(xs1.length:Int))) ((xs1[(i3).toNat]?).bind fun P1=>(P1.cells[0]?).bind fun P2=>(yp (.pv P2)).bind fun Q3=>Kb (IntKind.wrap .u64 ((IntKind.wrap .u64 (BitVec.ofInt 64 i0 ^^^ BitVec.ofInt 64 (IntKind.wrap .u64 Q3.2)).toNat)*1099511628211)) xs1 i2 (IntKind.wrap .i64 (i3+1))) none) (
 some (.ret (.pv (U i0)),[])):=(ye ..).trans (by kernel_rfl)
theorem zjX (x0:Int) (x1:List PV):ev 232 [(.pv (U x0)),(.pv (.sl 1 x1))] [] =
 Kb x0 x1 (x1.length:Int) 0:=(zm (fn:=Tryz.f232) _ _).trans (by kernel_rfl)
theorem zkK (x0:Int) (x1:Int) (x2:List PV):ev 235 [(.pv (I x0)),(.pv (I x1)),(.pv (.sl 1 x2))] [] =
 zb (ev 255 [(.pv (I x0)),(.pv (I x1))] []) (fun A1 H2=>(za A1).bind fun P3=>(yp (.pv P3)).bind fun Q4=>cond (decide (0<=Q4.2)&&decide (Q4.2<=(x2.length:Int))) (zb (ev 275 [(.pv (.sl 1 ((x2.take (Q4.2).toNat).drop 0)))] []) (fun A5 H6=>(yb 5 1 A5).bind fun X7=>cond (x0==1) (
 cond (decide ((Int.tmod x1 8)>0)) (
 cond (decide (0<=(IntKind.wrap .i64 ((X7.length:Int)-1)))&&decide ((IntKind.wrap .i64 ((X7.length:Int)-1))<(X7.length:Int))) ((X7[(IntKind.wrap .i64 ((X7.length:Int)-1)).toNat]?).bind fun P8=>(P8.cells[0]?).bind fun P9=>cond (yP .shl (IntKind.wrap .u64 (Int.tmod x1 8))) ((zj .u8 (.pv P9)).bind fun N10=>cond (decide (0<=(IntKind.wrap .i64 ((X7.length:Int)-1)))&&decide ((IntKind.wrap .i64 ((X7.length:Int)-1))<(X7.length:Int))) ((X7[(IntKind.wrap .i64 ((X7.length:Int)-1)).toNat]?).bind fun P11=>cond (decide (1<=P11.cells.length)) ((setCells P11 0 [(U8 (IntKind.wrap .u8 (BitVec.ofInt 8 N10 &&& BitVec.ofInt 8 (IntKind.wrap .u8 ((IntKind.wrap .u8 (1*2^(min (IntKind.wrap .u64 (Int.tmod x1 8)).toNat 8)))-1))).toNat))]).bind fun P12=>some (.ret (.slu 5 1 (X7.set (IntKind.wrap .i64 ((X7.length:Int)-1)).toNat P12)),[])) none) none) none) none) (
 some (.ret (.slu 5 1 X7),[]))) (
 some (.ret (.slu 5 1 X7),[]))) (fun A5 H6=>some (.pan A5,[]))) none) (fun A1 H2=>some (.pan A1,[])):=(zm (fn:=Tryz.f235) _ _).trans (by kernel_rfl)
noncomputable def gz:Code:=Tryz.f237.body.getD .skip
noncomputable def ZW (xs0:List PV) (xs1:List PV) (i2:Int) (i3:Int):Option (Out×zh) :=
 ya (zv env ev zN 44 237 0 (sub gz [1,1,0,1,0,0])) (zL env 237 0 0) (zP 0 (z8 (zR env ev 44 237 0 (sub gz [1,1,1])) (z7 env 237 Tryz.f237.results.toList 0))) ⟨zT [(1,(.pv (.sl 1 xs0))),(14,(.pv (.sl 1 xs1))),(15,(.pv (I i2))),(16,(.pv (I i3)))],[]⟩
theorem za4 (xs0:List PV) (xs1:List PV) (i2:Int) (i3:Int):ZW xs0 xs1 i2 i3 =
 cond (decide (i3<i2)) (
 cond (decide (0<=i3)&&decide (i3<(xs1.length:Int))) ((xs1[(i3).toNat]?).bind fun P1=>(P1.cells[0]?).bind fun P2=>cond (decide (i3<(xs0.length:Int))) (
 cond (decide (0<=i3)&&decide (i3<(xs0.length:Int))) ((xs0[(i3).toNat]?).bind fun P3=>(P3.cells[0]?).bind fun P4=>(zj .u64 (.pv P4)).bind fun N5=>(zj .u64 (.pv P2)).bind fun N6=>cond (N5 != N6) (
 some (.ret (.pv (Bo false)),[])) (
 cond (decide (i3≥(xs0.length:Int))) (
  (zj .u64 (.pv P2)).bind fun N7=>cond (N7 != 0) (
  some (.ret (.pv (Bo false)),[])) (
  ZW xs0 xs1 i2 (IntKind.wrap .i64 (i3+1)))) (
  ZW xs0 xs1 i2 (IntKind.wrap .i64 (i3+1))))) none) (
 cond (decide (i3≥(xs0.length:Int))) (
  (zj .u64 (.pv P2)).bind fun N3=>cond (N3 != 0) (
  some (.ret (.pv (Bo false)),[])) (
  ZW xs0 xs1 i2 (IntKind.wrap .i64 (i3+1)))) (
  ZW xs0 xs1 i2 (IntKind.wrap .i64 (i3+1))))) none) (
 some (.ret (.pv (Bo true)),[])):=(ye ..).trans (by kernel_rfl)
theorem zjr (x0:List PV) (x1:List PV):ev 237 [(.pv (.sl 1 x0)),(.pv (.sl 1 x1))] [] =
 cond (decide ((x0.length:Int)<(x1.length:Int))) (
 ZW x0 x1 (x1.length:Int) 0) (
 ZW x1 x0 (x0.length:Int) 0):=(zm (fn:=Tryz.f237) _ _).trans (by kernel_rfl)
theorem zmP (x0:List PV) (x1_0:Int) (x1_1:Int) (x1_2:Int) (x1_3:Int) (x1_4:Int) (x1_5:Int) (x1_6:Bool) (x1_7:Int) (x1_8:Int) (x1_9:Int) (x2:Int) (x3:Int):ev 241 [(.pv (.sl 1 x0)),(.pv (.agg [(I x1_0),(I x1_1),(I x1_2),(I x1_3),(I x1_4),(I x1_5),(Bo x1_6),(I x1_7),(PV.v (.int .u32 x1_8)),(PV.v (.int .u32 x1_9))])),(.pv (I x2)),(.pv (I x3))] [] =
 zb (ev 282 [(.pv (.sl 1 x0)),(.pv (.agg [(I 1),(I x2),(I x3),(I x1_2),(I x1_3),(I 0),(I 0),(I (IntKind.wrap .i64 (x1_2+x1_3)))])),(.pv (I x3)),(.pv (I (IntKind.wrap .i64 (x1_2+x1_3))))] []) (fun A1 H2=>(za A1).bind fun P3=>(zi (.pv P3)).bind fun S4=>(S4[0]?).bind fun P5=>(zi (.pv P3)).bind fun S6=>(S6[1]?).bind fun P7=>cond (decide (P5.cells.length=8)) ((P5.cells[0]?).bind fun P8=>(P5.cells[1]?).bind fun P9=>(P5.cells[2]?).bind fun P10=>(P5.cells[3]?).bind fun P11=>(P5.cells[4]?).bind fun P12=>(P5.cells[5]?).bind fun P13=>(P5.cells[6]?).bind fun P14=>(P5.cells[7]?).bind fun P15=>cond (P8.isCell&&(P9.isCell&&(P10.isCell&&(P11.isCell&&(P12.isCell&&(P13.isCell&&(P14.isCell&&(P15.isCell&&true)))))))) (some (.ret (.pv (.tup [(.agg [P8,P9,P10,P11,P12,P13,P14,P15]),P7])),[])) none) none) (fun A1 H2=>some (.pan A1,[])):=(zm (fn:=Tryz.f241) _ _).trans (by kernel_rfl)
theorem zmO (x0:List PV) (x1_0:Int) (x1_1:Int) (x1_2:Int) (x1_3:Int) (x1_4:Int) (x1_5:Int) (x1_6:Bool) (x1_7:Int) (x1_8:Int) (x1_9:Int) (x2:Int) (x3:Int):ev 243 [(.pv (.sl 1 x0)),(.pv (.agg [(I x1_0),(I x1_1),(I x1_2),(I x1_3),(I x1_4),(I x1_5),(Bo x1_6),(I x1_7),(PV.v (.int .u32 x1_8)),(PV.v (.int .u32 x1_9))])),(.pv (I x2)),(.pv (I x3))] [] =
 zb (ev 284 [(.pv (.agg [(I x1_0),(I x1_1),(I x1_2),(I x1_3),(I x1_4),(I x1_5),(Bo x1_6),(I x1_7),(PV.v (.int .u32 x1_8)),(PV.v (.int .u32 x1_9))]))] []) (fun A1 H2=>(za A1).bind fun P3=>(zZ (.pv P3)).bind fun B4=>cond B4 (
 some (.ret (.pv (.tup [(.agg [(I 0),(I 0),(I 0),(I 0),(I 0),(I 0),(I 0),(I 0)]),(I 6)])),[])) (
 some (.ret (.pv (.tup [(.agg [(I 0),(I 0),(I 0),(I 0),(I 0),(I 0),(I 0),(I 0)]),(I 4)])),[]))) (fun A1 H2=>some (.pan A1,[])):=(zm (fn:=Tryz.f243) _ _).trans (by kernel_rfl)
theorem zkQ (x0:Int):ev 244 [.pv (.v (.int .u8 x0))] []=(Kx x0).bind fun n=>some (.ret (.pv (.v (.int .i64 n))),[]):=(Q0 (q:=(2,(0,0))) (by kernel_rfl) _ _).trans (by kernel_rfl)
noncomputable def zeL:Code:=Tryz.f248.body.getD .skip
noncomputable def Qt (i0:Int) (i1:Int) (i2:Int) (i3:Int) (p4:PV) (p5:PV) (p6:PV) (p7:PV) (p8:PV) (p9:PV):Option (Out×zh) :=
 ya (zv env ev zN 21 248 0 (sub zeL [1,0,0])) (zL env 248 0 1) (zP 0 (z7 env 248 Tryz.f248.results.toList 1)) ⟨zT [(0,(.ptr 0 0)),(1,(.pv (I i0))),(3,(.pv (I i1))),(9,(.pv (I i2))),(10,(.pv (I i3)))],[[(.pv p4),(.pv p5),(.pv p6),(.pv p7),(.pv p8),(.pv p9)]]⟩
theorem jU (i0:Int) (i1:Int) (i2:Int) (i3:Int) (p4:PV) (p5:PV) (p6:PV) (p7:PV) (p8:PV) (p9:PV):Qt i0 i1 i2 i3 p4 p5 p6 p7 p8 p9 =
 cond (decide (i3<i2)) (
 zb (ev 132 [(.ptr 0 0),(.pv (I (IntKind.wrap .i64 (i0+i3)))),(.pv (I (IntKind.wrap .i64 (i1+1))))] [[(.pv p4),(.pv p5),(.pv p6),(.pv p7),(.pv p8),(.pv p9)]]) (fun A1 H2=>(H2[0]?).bind fun C3=>(C3[0]?).bind fun E4=>(za E4).bind fun P5=>(C3[1]?).bind fun E6=>(za E6).bind fun P7=>(C3[2]?).bind fun E8=>(za E8).bind fun P9=>(C3[3]?).bind fun E10=>(za E10).bind fun P11=>(C3[4]?).bind fun E12=>(za E12).bind fun P13=>(C3[5]?).bind fun E14=>(za E14).bind fun P15=>cond (decide (C3.length=6)) (cond (decide (H2.length=1)) ((za A1).bind fun P16=>Qt i0 i1 i2 (IntKind.wrap .i64 (i3+1)) P5 P7 P9 P11 P13 P15) none) none) (fun A1 H2=>(H2[0]?).bind fun C3=>(C3[0]?).bind fun E4=>(za E4).bind fun P5=>(C3[1]?).bind fun E6=>(za E6).bind fun P7=>(C3[2]?).bind fun E8=>(za E8).bind fun P9=>(C3[3]?).bind fun E10=>(za E10).bind fun P11=>(C3[4]?).bind fun E12=>(za E12).bind fun P13=>(C3[5]?).bind fun E14=>(za E14).bind fun P15=>cond (decide (C3.length=6)) (cond (decide (H2.length=1)) (some (.pan A1,[[(.pv P5),(.pv P7),(.pv P9),(.pv P11),(.pv P13),(.pv P15)]])) none) none)) (
 some (.ret (.pv (.tup [])),[[(.pv p4),(.pv p5),(.pv p6),(.pv p7),(.pv p8),(.pv p9)]])):=(ye ..).trans (by kernel_rfl)
theorem zhF (x0__0:List PV) (x0__1:Int) (x0__2_0:Int) (x0__2_1:Int) (x0__2_2:Int) (x0__3_0:Int) (x1:Int) (x2:Int) (x3:Int):ev 248 [(.ptr 0 0),(.pv (I x1)),(.pv (I x2)),(.pv (I x3))] [[(.pv (.sl 1 x0__0)),(.pv (I x0__1)),(.pv (I x0__2_0)),(.pv (I x0__2_1)),(.pv (I x0__2_2)),(.pv (I x0__3_0))]] =
 Qt x1 x3 x2 0 (.sl 1 x0__0) (I x0__1) (I x0__2_0) (I x0__2_1) (I x0__2_2) (I x0__3_0):=(zm (fn:=Tryz.f248) _ _).trans (by kernel_rfl)
theorem zkJ (x0:Int) (x1:Int):ev 255 [(.pv (I x0)),(.pv (I x1))] [] =
 cond (decide (0<=x0)&&decide (x0<8)) ((([(I 0),(I 1),(I 8),(I 16),(I 32),(I 64),(I 64),(I 0)]:List PV)[(0+(x0).toNat*1)]?).bind fun P1=>(zj .i64 (.pv P1)).bind fun N2=>zb (ev 263 [(.pv (I (IntKind.wrap .i64 (N2*x1)))),(.pv (I 8))] []) (fun A3 H4=>(za A3).bind fun P5=>some (.ret (.pv P5),[])) (fun A3 H4=>some (.pan A3,[]))) none:=(zm (fn:=Tryz.f255) _ _).trans (by kernel_rfl)
noncomputable def gP:Code:=Tryz.f256.body.getD .skip
noncomputable def KY (xs0:List PV) (i1:Int):Option (Out×zh) :=
 ya (zv env ev zN 22 256 0 (sub gP [1,1,0,0,0])) (zL env 256 0 0) (zP 0 (z8 (zR env ev 22 256 0 (sub gP [1,1,1])) (z7 env 256 Tryz.f256.results.toList 0))) ⟨zT [(0,(.pv (.sl 1 xs0))),(1,(.pv (.v (.func (.func 257) #[] #[])))),(5,(.pv (I i1)))],[]⟩
theorem zed (xs0:List PV) (i1:Int):KY xs0 i1 =
 cond (decide (i1>0)) (
 cond (decide (0<=(IntKind.wrap .i64 (i1-1)))&&decide ((IntKind.wrap .i64 (i1-1))<(xs0.length:Int))) ((xs0[(IntKind.wrap .i64 (i1-1)).toNat]?).bind fun P1=>(P1.cells[0]?).bind fun P2=>zb (ev 257 [(.pv P2)] []) (fun A3 H4=>(za A3).bind fun P5=>(zZ (.pv P5)).bind fun B6=>cond B6 (
 KY xs0 (IntKind.wrap .i64 (i1-1))) (
 some (.ret (.pv (I i1)),[]))) (fun A3 H4=>some (.pan A3,[]))) none) (
 some (.ret (.pv (I i1)),[])):=(ye ..).trans (by kernel_rfl)
theorem zn5 (x0:List PV):ev 256 [(.pv (.sl 1 x0)),(.pv (.v (.func (.func 257) #[] #[])))] [] =
 KY x0 (x0.length:Int):=(zm (fn:=Tryz.f256) _ _).trans (by kernel_rfl)
theorem zhJ (x0_0:Int) (x0_1:Int) (x0_2:Int) (x0_3:List PV) (x0_4:List PV):ev 262 [(.pv (.agg [(I x0_0),(I x0_1),(I x0_2),(.sl 1 x0_3),(.sl 5 x0_4)]))] [] =
 cond (x0_0==0) (
 some (.ret (.pv (I 0)),[])) (
 cond (x0_0==1) (
  some (.ret (.pv (I (IntKind.wrap .i64 ((IntKind.wrap .i64 (Int.tdiv (x0_3.length:Int) 8))+(x0_4.length:Int))))),[])) (
  cond (x0_1==7) (
   zb (ev 219 [(.pv (.agg [(I x0_0),(I x0_1),(I x0_2),(.sl 1 x0_3),(.sl 5 x0_4)]))] []) (fun A1 H2=>(za A1).bind fun P3=>(zi (.pv P3)).bind fun S4=>(S4[0]?).bind fun P5=>(zi (.pv P3)).bind fun S6=>(S6[1]?).bind fun P7=>(zj .i64 (.pv P5)).bind fun N8=>(zj .i64 (.pv P7)).bind fun N9=>some (.ret (.pv (I (IntKind.wrap .i64 (1+(IntKind.wrap .i64 (x0_2*(IntKind.wrap .i64 (N8+N9)))))))),[])) (fun A1 H2=>some (.pan A1,[]))) (
   zb (ev 221 [(.pv (I x0_1)),(.pv (I x0_2))] []) (fun A1 H2=>(za A1).bind fun P3=>some (.ret (.pv P3),[])) (fun A1 H2=>some (.pan A1,[]))))):=(zm (fn:=Tryz.f262) _ _).trans (by kernel_rfl)
noncomputable def gK:Code:=Tryz.f266.body.getD .skip
noncomputable def VT (i0:Int) (xs1:List PV) (p2:PV) (p3:PV) (i4:Int) (i5:Int):Option (Out×zh) :=
 ya (zv env ev zN 40 266 0 (sub gK [1,1,1,1,0,1,0,0])) (zL env 266 0 0) (zP 0 (z8 (zR env ev 40 266 0 (sub gK [1,1,1,1,1])) (z7 env 266 Tryz.f266.results.toList 0))) ⟨zT [(0,(.pv (U8 i0))),(1,(.pv (.sl 1 xs1))),(7,(.pv p2)),(8,(.pv p3)),(9,(.pv (I i4))),(17,(.pv (I i5)))],[]⟩
theorem zdR (i0:Int) (xs1:List PV) (p2:PV) (p3:PV) (i4:Int) (i5:Int):VT i0 xs1 p2 p3 i4 i5 =
 cond (decide (i5<8)) (
 cond (yP .shr (IntKind.wrap .u64 i5)) (cond ((IntKind.wrap .u8 (BitVec.ofInt 8 (Int.fdiv i0 (2^(min (IntKind.wrap .u64 i5).toNat 8))) &&& BitVec.ofInt 8 1).toNat)==1) (
 cond (decide (0<=i4)&&decide (i4<(xs1.length:Int))) ((xs1[(i4).toNat]?).bind fun P1=>(P1.cells[0]?).bind fun P2=>(yp (.pv P2)).bind fun Q3=>zb (ev 291 [(.pv p3),(.pv (I (IntKind.wrap .i64 (8*i5)))),(.pv (I 8)),(.pv (U (IntKind.wrap .u64 Q3.2)))] []) (fun A4 H5=>(za A4).bind fun P6=>VT i0 xs1 p2 P6 (IntKind.wrap .i64 (i4+1)) (IntKind.wrap .i64 (i5+1))) (fun A4 H5=>some (.pan A4,[]))) none) (
 VT i0 xs1 p2 p3 i4 (IntKind.wrap .i64 (i5+1)))) none) (
 some (.ret (.pv (.tup [p3,p2,(Bo true)])),[])):=(ye ..).trans (by kernel_rfl)
theorem zdS (x0:Int) (x1:List PV):ev 266 [(.pv (U8 x0)),(.pv (.sl 1 x1))] [] =
 zb (ev 188 [(.pv (U8 x0))] []) (fun A1 H2=>(za A1).bind fun P3=>(zj .i64 (.pv P3)).bind fun N4=>cond (decide ((x1.length:Int)<N4)) (
 some (.ret (.pv (.tup [(U 0),(I 0),(Bo false)])),[])) (
 VT x0 x1 P3 (U 0) 0 0)) (fun A1 H2=>some (.pan A1,[])):=(zm (fn:=Tryz.f266) _ _).trans (by kernel_rfl)
theorem zhO (x0__0:List PV) (x1_0:Int) (x1_1:Int) (x1_2:Int) (x1_3:List PV) (x1_4:List PV):ev 269 [(.ptr 0 0),(.pv (.agg [(I x1_0),(I x1_1),(I x1_2),(.sl 1 x1_3),(.sl 5 x1_4)]))] [[(.slu 30 1 x0__0)]] =
 zb (ev 293 [(.ptr 0 0),(.pv (.sl 1 x1_3)),(.pv (I (IntKind.wrap .i64 (Int.tdiv (x1_3.length:Int) 8))))] [[(.slu 30 1 x0__0)]]) (fun A1 H2=>(H2[0]?).bind fun C3=>(C3[0]?).bind fun E4=>(yb 30 1 E4).bind fun X5=>cond (decide (C3.length=1)) (cond (decide (H2.length=1)) ((za A1).bind fun P6=>zb (ev 292 [(.ptr 0 0),(.pv (I (x1_4.length:Int)))] [[(.slu 30 1 X5)]]) (fun A7 H8=>(H8[0]?).bind fun C9=>(C9[0]?).bind fun E10=>(yb 30 1 E10).bind fun X11=>cond (decide (C9.length=1)) (cond (decide (H8.length=1)) ((za A7).bind fun P12=>cond ((decide (P12.cells.length=1)&&P12.cells.all PV.isCell)&&true) (some (.ret (.pv (.tup [(.agg [(I 0),(I 0),(I (IntKind.wrap .i64 (Int.tdiv (x1_3.length:Int) 8))),(I (x1_4.length:Int)),(I 0),(I 0),(Bo false),(I 0),(PV.v (.int .u32 0)),(PV.v (.int .u32 0))]),(.sl 1 [P12])])),[[(.slu 30 1 X11)]])) none) none) none) (fun A7 H8=>(H8[0]?).bind fun C9=>(C9[0]?).bind fun E10=>(yb 30 1 E10).bind fun X11=>cond (decide (C9.length=1)) (cond (decide (H8.length=1)) (some (.pan A7,[[(.slu 30 1 X11)]])) none) none)) none) none) (fun A1 H2=>(H2[0]?).bind fun C3=>(C3[0]?).bind fun E4=>(yb 30 1 E4).bind fun X5=>cond (decide (C3.length=1)) (cond (decide (H2.length=1)) (some (.pan A1,[[(.slu 30 1 X5)]])) none) none):=(zm (fn:=Tryz.f269) _ _).trans (by kernel_rfl)
noncomputable def gc:Code:=Tryz.f270.body.getD .skip
noncomputable def Qw (p0:PV) (p1:PV) (xs2:List PV) (xs3:List PV) (i4:Int) (i5:Int) (xs6:List PV) (i7:Int) (i8:Int) (i9:Int) (xs10:List PV) (xs11:List PV) (i12:Int) (i13:Int) (i14:Int) (i15:Int) (i16:Int) (i17:Int) (b18:Bool) (i19:Int) (i20:Int) (i21:Int):Option (Out×zh) :=
 ya (zv env ev zN 66 270 0 (sub gc [1,1,1,1,1,0,1,0,0])) (zL env 270 0 3) (zP 0 (z8 (zR env ev 66 270 0 (sub gc [1,1,1,1,1,1])) (z7 env 270 Tryz.f270.results.toList 1))) ⟨zT [(0,(.ptr 0 0)),(3,(.ptr 1 0)),(4,(.ptr 2 0)),(6,(.pv p0)),(7,(.pv p1)),(10,(.slu 3 1 xs2)),(38,(.pv (.sl 5 xs3))),(39,(.pv (I i4))),(40,(.pv (I i5)))],[[(.slu 30 1 xs6)],[(.pv (I i7)),(.pv (I i8)),(.pv (I i9)),(.pv (.sl 1 xs10)),(.pv (.sl 5 xs11))],[(.pv (I i12)),(.pv (I i13)),(.pv (I i14)),(.pv (I i15)),(.pv (I i16)),(.pv (I i17)),(.pv (Bo b18)),(.pv (I i19)),(.pv (PV.v (.int .u32 i20))),(.pv (PV.v (.int .u32 i21)))]]⟩
theorem jX (p0:PV) (p1:PV) (xs2:List PV) (xs3:List PV) (i4:Int) (i5:Int) (xs6:List PV) (i7:Int) (i8:Int) (i9:Int) (xs10:List PV) (xs11:List PV) (i12:Int) (i13:Int) (i14:Int) (i15:Int) (i16:Int) (i17:Int) (b18:Bool) (i19:Int) (i20:Int) (i21:Int):Qw p0 p1 xs2 xs3 i4 i5 xs6 i7 i8 i9 xs10 xs11 i12 i13 i14 i15 i16 i17 b18 i19 i20 i21 =
 cond (decide (i5<i4)) (
 cond (decide (0<=i5)&&decide (i5<(xs3.length:Int))) ((xs3[(i5).toNat]?).bind fun P1=>cond (decide (5<=P1.cells.length)) (cond (decide (((P1.cells.drop 0).take 5).length=5)) ((((P1.cells.drop 0).take 5)[0]?).bind fun P2=>(((P1.cells.drop 0).take 5)[1]?).bind fun P3=>(((P1.cells.drop 0).take 5)[2]?).bind fun P4=>(((P1.cells.drop 0).take 5)[3]?).bind fun P5=>(((P1.cells.drop 0).take 5)[4]?).bind fun P6=>cond (P2.isCell&&(P3.isCell&&(P4.isCell&&(P5.isCell&&(P6.isCell&&true))))) (zb (ev 293 [(.ptr 0 0),(.pv P5),(.pv p0)] [[(.slu 30 1 xs6)]]) (fun A7 H8=>(H8[0]?).bind fun C9=>(C9[0]?).bind fun E10=>(yb 30 1 E10).bind fun X11=>cond (decide (C9.length=1)) (cond (decide (H8.length=1)) ((za A7).bind fun P12=>zb (ev 292 [(.ptr 0 0),(.pv p1)] [[(.slu 30 1 X11)]]) (fun A13 H14=>(H14[0]?).bind fun C15=>(C15[0]?).bind fun E16=>(yb 30 1 E16).bind fun X17=>cond (decide (C15.length=1)) (cond (decide (H14.length=1)) ((za A13).bind fun P18=>cond ((decide (P18.cells.length=1)&&P18.cells.all PV.isCell)&&true) (cond (yf (xs2.length+1) 8) (Qw p0 p1 (xs2++[P18]) xs3 i4 (IntKind.wrap .i64 (i5+1)) X17 i7 i8 i9 xs10 xs11 i12 i13 i14 i15 i16 i17 b18 i19 i20 i21) none) none) none) none) (fun A13 H14=>(H14[0]?).bind fun C15=>(C15[0]?).bind fun E16=>(yb 30 1 E16).bind fun X17=>cond (decide (C15.length=1)) (cond (decide (H14.length=1)) (some (.pan A13,[[(.slu 30 1 X17)]])) none) none)) none) none) (fun A7 H8=>(H8[0]?).bind fun C9=>(C9[0]?).bind fun E10=>(yb 30 1 E10).bind fun X11=>cond (decide (C9.length=1)) (cond (decide (H8.length=1)) (some (.pan A7,[[(.slu 30 1 X11)]])) none) none)) none) none) none) none) (
 (zj .i64 (.pv p0)).bind fun N1=>(zj .i64 (.pv p1)).bind fun N2=>some (.ret (.pv (.tup [(.agg [(I 1),(I 0),(I 0),(I 0),(I i8),(I (IntKind.wrap .i64 (i9*(IntKind.wrap .i64 (N1+N2))))),(Bo false),(I 0),(PV.v (.int .u32 0)),(PV.v (.int .u32 0))]),(.sl 1 xs2)])),[[(.slu 30 1 xs6)]])):=(ye ..).trans (by kernel_rfl)
theorem zhN (x0__0:List PV) (x1_0:Int) (x1_1:Int) (x1_2:Int) (x1_3:List PV) (x1_4:List PV):ev 270 [(.ptr 0 0),(.pv (.agg [(I x1_0),(I x1_1),(I x1_2),(.sl 1 x1_3),(.sl 5 x1_4)]))] [[(.slu 30 1 x0__0)]] =
 zb (ev 219 [(.pv (.agg [(I x1_0),(I x1_1),(I x1_2),(.sl 1 x1_3),(.sl 5 x1_4)]))] []) (fun A1 H2=>(za A1).bind fun P3=>(zi (.pv P3)).bind fun S4=>(S4[0]?).bind fun P5=>(zi (.pv P3)).bind fun S6=>(S6[1]?).bind fun P7=>cond (P5.isCell&&true) (cond (P7.isCell&&true) (cond ((P5.isCell&&true)&&((P7.isCell&&true)&&true)) (zb (ev 252 [(.pv (.agg [(I 0),(I x1_2),P5,P7,(I 0),(I 0),(Bo false),(I 0),(PV.v (.int .u32 0)),(PV.v (.int .u32 0))]))] []) (fun A8 H9=>(za A8).bind fun P10=>(zi (.pv P10)).bind fun S11=>(S11[0]?).bind fun P12=>(zi (.pv P10)).bind fun S13=>(S13[1]?).bind fun P14=>cond ((decide (P12.cells.length=1)&&P12.cells.all PV.isCell)&&true) (cond (yf (x0__0.length+1) 8) (Qw P5 P7 [] x1_4 (x1_4.length:Int) 0 (x0__0++[P12]) x1_0 x1_1 x1_2 x1_3 x1_4 0 0 0 0 0 0 false 0 0 0) none) none) (fun A8 H9=>some (.pan A8,[[(.slu 30 1 x0__0)]]))) none) none) none) (fun A1 H2=>some (.pan A1,[[(.slu 30 1 x0__0)]])):=(zm (fn:=Tryz.f270) _ _).trans (by kernel_rfl)
theorem zmL (x0_0:Int) (x0_1:Int) (x0_2:Int) (x0_3:Int) (x0_4:Int) (x0_5:Int) (x0_6:Int) (x0_7:Int):ev 277 [(.pv (.agg [(I x0_0),(I x0_1),(I x0_2),(I x0_3),(I x0_4),(I x0_5),(I x0_6),(I x0_7)]))] [] =
 cond (x0_0==1) (
 cond (decide (x0_4>0)) (
 some (.ret (.pv (.tup [(I (IntKind.wrap .i64 (x0_2+x0_3))),(I x0_4)])),[])) (
 cond (x0_0==2) (
  cond (x0_5==6) (
  cond (decide (x0_6>0)) (
  some (.ret (.pv (.tup [(I x0_2),(I x0_6)])),[])) (
  some (.ret (.pv (.tup [(I 0),(I 0)])),[]))) (
  some (.ret (.pv (.tup [(I 0),(I 0)])),[]))) (
  some (.ret (.pv (.tup [(I 0),(I 0)])),[])))) (
 cond (x0_0==2) (
  cond (x0_5==6) (
  cond (decide (x0_6>0)) (
  some (.ret (.pv (.tup [(I x0_2),(I x0_6)])),[])) (
  some (.ret (.pv (.tup [(I 0),(I 0)])),[]))) (
  some (.ret (.pv (.tup [(I 0),(I 0)])),[]))) (
  some (.ret (.pv (.tup [(I 0),(I 0)])),[]))):=(zm (fn:=Tryz.f277) _ _).trans (by kernel_rfl)
theorem zjN (x0:Int):ev 279 [(.pv (U x0))] [] =
 zb (ev 192 [(.pv (U x0))] []) (fun A1 H2=>(za A1).bind fun P3=>(Xi (.pv P3)).bind fun cs_4=>(cs_4[0]?).bind fun P5=>(zj .i64 (.pv P5)).bind fun N6=>some (.ret (.pv (Bo (N6==2))),[])) (fun A1 H2=>some (.pan A1,[])):=(zm (fn:=Tryz.f279) _ _).trans (by kernel_rfl)
theorem zjP (x0:List PV) (x1:Int):ev 281 [(.pv (.sl 1 x0)),(.pv (U x1))] [] =
 zb (ev 297 [(.pv (U x1))] []) (fun A1 H2=>(za A1).bind fun P3=>(zi (.pv P3)).bind fun S4=>(S4[0]?).bind fun P5=>(zi (.pv P3)).bind fun S6=>(S6[1]?).bind fun P7=>zb (ev 276 [(.pv (.sl 1 x0)),(.pv P5),(.pv P7),(.pv (I 2))] []) (fun A8 H9=>(za A8).bind fun P10=>(zi (.pv P10)).bind fun S11=>(S11[0]?).bind fun P12=>(zi (.pv P10)).bind fun S13=>(S13[1]?).bind fun P14=>(zZ (.pv P14)).bind fun B15=>cond (!B15) (
 some (.ret (.pv (.tup [(.agg [(U 0),(I 0),(I 0)]),(I 2)])),[])) (
 (z4 P12).bind fun L16=>cond ((decide (L16.1=1)&&true)&&decide (0<(L16.2.length:Int))) ((L16.2[0]?).bind fun P17=>(P17.cells[0]?).bind fun P18=>zb (ev 192 [(.pv P18)] []) (fun A19 H20=>(za A19).bind fun P21=>(z4 P12).bind fun L22=>cond ((decide (L22.1=1)&&true)&&decide (1<(L22.2.length:Int))) ((L22.2[1]?).bind fun P23=>(P23.cells[0]?).bind fun P24=>zb (ev 192 [(.pv P24)] []) (fun A25 H26=>(za A25).bind fun P27=>cond (decide (P21.cells.length=10)) ((P21.cells[0]?).bind fun P28=>(P21.cells[1]?).bind fun P29=>(P21.cells[2]?).bind fun P30=>(P21.cells[3]?).bind fun P31=>(P21.cells[4]?).bind fun P32=>(P21.cells[5]?).bind fun P33=>(P21.cells[6]?).bind fun P34=>(P21.cells[7]?).bind fun P35=>(P21.cells[8]?).bind fun P36=>(P21.cells[9]?).bind fun P37=>cond (P28.isCell&&(P29.isCell&&(P30.isCell&&(P31.isCell&&(P32.isCell&&(P33.isCell&&(P34.isCell&&(P35.isCell&&(P36.isCell&&(P37.isCell&&true)))))))))) (cond (decide (P27.cells.length=10)) ((P27.cells[0]?).bind fun P38=>(P27.cells[1]?).bind fun P39=>(P27.cells[2]?).bind fun P40=>(P27.cells[3]?).bind fun P41=>(P27.cells[4]?).bind fun P42=>(P27.cells[5]?).bind fun P43=>(P27.cells[6]?).bind fun P44=>(P27.cells[7]?).bind fun P45=>(P27.cells[8]?).bind fun P46=>(P27.cells[9]?).bind fun P47=>cond (P38.isCell&&(P39.isCell&&(P40.isCell&&(P41.isCell&&(P42.isCell&&(P43.isCell&&(P44.isCell&&(P45.isCell&&(P46.isCell&&(P47.isCell&&true)))))))))) ((zj .i64 (.pv P28)).bind fun N48=>cond (N48 != 2) (
  some (.ret (.pv (.tup [(.agg [(U 0),(I 0),(I 0)]),(I 3)])),[])) (
  (zZ (.pv P34)).bind fun B49=>cond B49 (
   some (.ret (.pv (.tup [(.agg [(U 0),(I 0),(I 0)]),(I 3)])),[])) (
   (zj .i64 (.pv P38)).bind fun N50=>cond (decide (N50>1)) (
    some (.ret (.pv (.tup [(.agg [(U 0),(I 0),(I 0)]),(I 3)])),[])) (
    (zj .i64 (.pv P39)).bind fun N51=>cond (N51 != 0) (
     some (.ret (.pv (.tup [(.agg [(U 0),(I 0),(I 0)]),(I 3)])),[])) (
     (z4 P12).bind fun L52=>cond ((decide (L52.1=1)&&true)&&decide (1<(L52.2.length:Int))) ((L52.2[1]?).bind fun P53=>(P53.cells[0]?).bind fun P54=>(yp (.pv P36)).bind fun Q55=>cond (P54.isCell&&true) (cond (P35.isCell&&true) (cond ((P54.isCell&&true)&&((P35.isCell&&true)&&true)) (cond (P54.isCell&&(P35.isCell&&true)) (some (.ret (.pv (.tup [(.agg [P54,(I (IntKind.wrap .i64 Q55.2)),P35]),(I 0)])),[])) none) none) none) none) none))))) none) none) none) none) (fun A25 H26=>none)) none) (fun A19 H20=>none)) none)) (fun A8 H9=>some (.pan A8,[]))) (fun A1 H2=>some (.pan A1,[])):=(zm (fn:=Tryz.f281) _ _).trans (by kernel_rfl)
theorem zcN (x0_0:Int) (x0_1:Int) (x0_2:Int) (x0_3:Int) (x0_4:Int) (x0_5:Int) (x0_6:Bool) (x0_7:Int) (x0_8:Int) (x0_9:Int):ev 287 [(.pv (.agg [(I x0_0),(I x0_1),(I x0_2),(I x0_3),(I x0_4),(I x0_5),(Bo x0_6),(I x0_7),(PV.v (.int .u32 x0_8)),(PV.v (.int .u32 x0_9))]))] [] =
 cond (decide (x0_0≥0)) (
 cond (decide (x0_0<=3)) (
 zb (ev 288 [(.pv (.agg [(I x0_0),(I x0_1),(I x0_2),(I x0_3),(I x0_4),(I x0_5),(Bo x0_6),(I x0_7),(PV.v (.int .u32 x0_8)),(PV.v (.int .u32 x0_9))]))] []) (fun A1 H2=>(za A1).bind fun P3=>zb (ev 192 [(.pv P3)] []) (fun A4 H5=>(za A4).bind fun P6=>(XF (.pv P6)).bind fun cs_7=>(xq [false,false,false,false,false,false,true,false,false,false] cs_7 [(I x0_0),(I x0_1),(I x0_2),(I x0_3),(I x0_4),(I x0_5),(Bo x0_6),(I x0_7),(PV.v (.int .u32 x0_8)),(PV.v (.int .u32 x0_9))]).bind fun Z8=>some (.ret (.pv (Bo Z8)),[])) (fun A4 H5=>none)) (fun A1 H2=>none)) (
 some (.ret (.pv (Bo false)),[]))) (
 some (.ret (.pv (Bo false)),[])):=(zm (fn:=Tryz.f287) _ _).trans (by kernel_rfl)
theorem zhP (x0__0:List PV) (x1:Int):ev 292 [(.ptr 0 0),(.pv (I x1))] [[(.slu 30 1 x0__0)]] =
 cond (decide (0<=x1)&&decide (x1<=140737488355328)) (cond (yf (x0__0.length+(List.replicate (x1).toNat (U 0)).length) 8) (some (.ret (.pv (I (x0__0.length:Int))),[[(.slu 30 1 (x0__0++(List.replicate (x1).toNat (U 0))))]])) none) none:=(zm (fn:=Tryz.f292) _ _).trans (by kernel_rfl)
theorem zhf (x0__0_0:Int) (x1:Int):ev 294 [(.ptr 0 0),(.pv (I x1))] [[(.pv (I x0__0_0))]] =
 cond (decide (x1>x0__0_0)) (
 some (.ret (.pv (Bo false)),[[(.pv (I x0__0_0))]])) (
 some (.ret (.pv (Bo true)),[[(.pv (I (IntKind.wrap .i64 (x0__0_0-x1))))]])):=(zm (fn:=Tryz.f294) _ _).trans (by kernel_rfl)
noncomputable def gx:Code:=Tryz.f296.body.getD .skip
noncomputable def QT (i0:Int) (xs1:List PV) (p2:PV) (p3:PV) (i4:Int) (p5:PV) (p6:PV) (p7:PV) (p8:PV) (p9:PV) (i10:Int) (i11:Int) (i12:Int) (i13:Int) (i14:Int) (i15:Int) (i16:Int) (i17:Int):Option (Out×zh) :=
 ya (zv env ev zN 34 296 0 (sub gx [1,1,1,0,1,0,0])) (zL env 296 0 2) (zP 0 (z8 (zR env ev 34 296 0 (sub gx [1,1,1,1])) (z7 env 296 Tryz.f296.results.toList 1))) ⟨zT [(0,(.ptr 0 0)),(2,(.pv (I i0))),(4,(.ptr 1 0)),(7,(.slu 53 5 xs1)),(8,(.pv p2)),(16,(.pv p3)),(17,(.pv (I i4)))],[[(.pv p5),(.pv p6),(.pv p7),(.pv p8),(.pv p9)],[(.pv (I i10)),(.pv (I i11)),(.pv (I i12)),(.pv (I i13)),(.pv (I i14)),(.pv (I i15)),(.pv (I i16)),(.pv (I i17))]]⟩
theorem zaR (i0:Int) (xs1:List PV) (p2:PV) (p3:PV) (i4:Int) (p5:PV) (p6:PV) (p7:PV) (p8:PV) (p9:PV) (i10:Int) (i11:Int) (i12:Int) (i13:Int) (i14:Int) (i15:Int) (i16:Int) (i17:Int):QT i0 xs1 p2 p3 i4 p5 p6 p7 p8 p9 i10 i11 i12 i13 i14 i15 i16 i17 =
 (zj .i64 (.pv p3)).bind fun N1=>cond (decide (i4<N1)) (
 (zj .i64 (.pv p2)).bind fun N2=>zb (ev 234 [(.ptr 0 0),(.pv (I i11)),(.pv (I (IntKind.wrap .i64 (N2+i4)))),(.pv (I (IntKind.wrap .i64 (i0+1))))] [[(.pv p5),(.pv p6),(.pv p7),(.pv p8),(.pv p9)]]) (fun A3 H4=>(H4[0]?).bind fun C5=>(C5[0]?).bind fun E6=>(za E6).bind fun P7=>(C5[1]?).bind fun E8=>(za E8).bind fun P9=>(C5[2]?).bind fun E10=>(za E10).bind fun P11=>(C5[3]?).bind fun E12=>(za E12).bind fun P13=>(C5[4]?).bind fun E14=>(za E14).bind fun P15=>cond (decide (C5.length=5)) (cond (decide (H4.length=1)) ((za A3).bind fun P16=>cond ((decide (P16.cells.length=5)&&P16.cells.all PV.isCell)&&true) (cond (yf (xs1.length+1) 72) (QT i0 (xs1++[P16]) p2 p3 (IntKind.wrap .i64 (i4+1)) P7 P9 P11 P13 P15 i10 i11 i12 i13 i14 i15 i16 i17) none) none) none) none) (fun A3 H4=>(H4[0]?).bind fun C5=>(C5[0]?).bind fun E6=>(za E6).bind fun P7=>(C5[1]?).bind fun E8=>(za E8).bind fun P9=>(C5[2]?).bind fun E10=>(za E10).bind fun P11=>(C5[3]?).bind fun E12=>(za E12).bind fun P13=>(C5[4]?).bind fun E14=>(za E14).bind fun P15=>cond (decide (C5.length=5)) (cond (decide (H4.length=1)) (some (.pan A3,[[(.pv P7),(.pv P9),(.pv P11),(.pv P13),(.pv P15)]])) none) none)) (
 some (.ret (.pv (.sl 5 xs1)),[[(.pv p5),(.pv p6),(.pv p7),(.pv p8),(.pv p9)]])):=(ye ..).trans (by kernel_rfl)
theorem zjb (x0__0:List PV) (x0__1_0:Int) (x0__1_1:Int) (x0__1_2:Int) (x0__2_0:Int) (x1_0:Int) (x1_1:Int) (x1_2:Int) (x1_3:Int) (x1_4:Int) (x1_5:Int) (x1_6:Int) (x1_7:Int) (x2:Int):ev 296 [(.ptr 0 0),(.pv (.agg [(I x1_0),(I x1_1),(I x1_2),(I x1_3),(I x1_4),(I x1_5),(I x1_6),(I x1_7)])),(.pv (I x2))] [[(.pv (.sl 1 x0__0)),(.pv (I x0__1_0)),(.pv (I x0__1_1)),(.pv (I x0__1_2)),(.pv (I x0__2_0))]] =
 zb (ev 277 [(.pv (.agg [(I x1_0),(I x1_1),(I x1_2),(I x1_3),(I x1_4),(I x1_5),(I x1_6),(I x1_7)]))] []) (fun A1 H2=>(za A1).bind fun P3=>(zi (.pv P3)).bind fun S4=>(S4[0]?).bind fun P5=>(zi (.pv P3)).bind fun S6=>(S6[1]?).bind fun P7=>QT x2 [] P5 P7 0 (.sl 1 x0__0) (I x0__1_0) (I x0__1_1) (I x0__1_2) (I x0__2_0) x1_0 x1_1 x1_2 x1_3 x1_4 x1_5 x1_6 x1_7) (fun A1 H2=>some (.pan A1,[[(.pv (.sl 1 x0__0)),(.pv (I x0__1_0)),(.pv (I x0__1_1)),(.pv (I x0__1_2)),(.pv (I x0__2_0))]])):=(zm (fn:=Tryz.f296) _ _).trans (by kernel_rfl)
end Go.Proofs.YtjbjeeoifhegfaaGreatDoor.E
