/- A part of the proof of the law MessageMatchesReference, as its statement says it: for every input; its conditions are the statement's own. -/
import Derived.KernelRfl
import Derived.Test.YtjbjeeoifhegfaaGreatDoorZMessageMatchesReference1
import Derived.Test.YtjbjeeoifhegfaaGreatDoorZMessageMatchesReference2
import Derived.Test.YtjbjeeoifhegfaaGreatDoorZMessageMatchesReference3
set_option linter.unusedVariables false
set_option linter.unusedSimpArgs false
namespace Go.Proofs.YtjbjeeoifhegfaaGreatDoor.E
theorem zjC (x0:List PV) (x1_0 x1_1 x1_2:Int):ev 79 [(.pv (.sl 1 x0)),(.pv (.agg [(I x1_0),(I x1_1),(I x1_2)]))] [] =
 cp (ev 75 [(.pv (.sl 1 x0)),(.pv (.agg [(I x1_0),(I x1_1),(I x1_2)]))] []) (fun P3=>tK P3 0 fun P5=>tK P3 1 fun P7=>(za .i64 (.pv P7)).bind fun N8=>cond (N8 != 0) (
 some (.ret (.pv (.tup [(U 0),P7])),[])) (
 cp (ev 91 [(.pv P5)] []) (fun P11=>cp (ev 42 [(.pv P11)] []) (fun P14=>some (.ret (.pv (.tup [P14,(I 0)])),[]))))):=zi (fn:=Tryz.f79) _ _
noncomputable def rn:Code:=Tryz.f83.body.getD .skip
noncomputable def Vh (xs0:List PV) (i1 i2 i3 i4 i5 i6 i7 i8 i9:Int) (xs10 xs11:List PV) (i12 i13:Int) (p14 p15:PV) (xs16 xs17:List PV) (p18 p19 p20 p21 p22 p23 p24 p25 p26:PV):Option (Out×ze) :=
 zY (zs env ev zI 170 83 0 (sub rn (o1 14 [0,1,0,0]))) (zD env 83 0 7) (zG 0 (zT (zH env ev 170 83 0 (sub rn (o1 14 [1]))) (zX env 83 Tryz.f83.results.toList 0))) ⟨zQ [(0,(.pv (.sl 1 xs0))),(5,(.pv (I i1))),(7,(.ptr 0 0)),(12,(.ptr 2 0)),(13,(.ptr 3 0)),(15,(.ptr 4 0)),(20,(.ptr 5 0)),(22,(.ptr 6 0)),(26,(.pv (I i2)))],[[(.pv (I i3)),(.pv (I i4)),(.pv (I i5))],[(.pv (I i6))],[(.pv (I i7)),(.pv (I i8)),(.pv (I i9)),(.slu 5 1 xs10),(.slu 53 5 xs11)],[(.pv (I i12))],[(.pv (I i13)),(.pv p14),(.pv p15),(.slu 5 1 xs16),(.slu 53 5 xs17)],[(.pv p18),(.pv p19),(.pv p20),(.pv p21),(.pv p22),(.pv p23),(.pv p24),(.pv p25)],[(.pv p26)]]⟩
theorem zbd (xs0:List PV) (i1 i2 i3 i4 i5 i6 i7 i8 i9:Int) (xs10 xs11:List PV) (i12 i13:Int) (p14 p15:PV) (xs16 xs17:List PV) (p18 p19 p20 p21 p22 p23 p24 p25 p26:PV):Vh xs0 i1 i2 i3 i4 i5 i6 i7 i8 i9 xs10 xs11 i12 i13 p14 p15 xs16 xs17 p18 p19 p20 p21 p22 p23 p24 p25 p26 =
 (za .i64 (.pv p24)).bind fun N1=>cond (decide (i2<N1)) (
 (za .i64 (.pv p23)).bind fun N2=>cond (N2==6) (
 (za .i64 (.pv p20)).bind fun N3=>cp (ev 83 [(.pv (.sl 1 xs0)),(.pv (.agg [(I i3),(I i4),(I i5)])),(.pv (.agg [p26])),(.pv p19),(.pv (I (IntKind.wrap .i64 (N3+i2)))),(.pv (I (IntKind.wrap .i64 (i1+1))))] []) (fun P6=>tK P6 0 fun P8=>tK P6 1 fun P10=>tK P6 2 fun P12=>xJ P8 (fun P13 P14 P15 P16 P17=>Zc P10 (fun P18=>(za .i64 (.pv P12)).bind fun N19=>cond (N19 != 0) (
 cond (P18.isCell&&true) (some (.ret (.pv (.tup [(.agg [(I 0),(I 0),(I 0),(.sl 1 []),(.sl 5 [])]),(.agg [P18]),P12])),[])) none) (
 cond ((true&&(P13.isCell&&(P14.isCell&&(P15.isCell&&(P16.isCell&&(P17.isCell&&true))))))&&true) (cond (zJ (xs17.length+1) 72) (Vh xs0 i1 (IntKind.wrap .i64 (i2+1)) i3 i4 i5 i6 i7 i8 i9 xs10 xs11 i12 i13 p14 p15 xs16 (xs17++[(.agg [P13,P14,P15,P16,P17])]) p18 p19 p20 p21 p22 p23 p24 p25 P18) none) none))))) (
 zq (ev 141 [(.pv (.agg [p18,p19,p20,p21,p22,p23,p24,p25])),(.pv (I i2))] []) (fun A3 H4=>(zf A3).bind fun P5=>cp (ev 139 [(.pv (.sl 1 xs0)),(.pv (.agg [(I i3),(I i4),(I i5)])),(.pv (.agg [p26])),(.pv P5),(.pv (I i1))] []) (fun P8=>tK P8 0 fun P10=>tK P8 1 fun P12=>tK P8 2 fun P14=>xJ P10 (fun P15 P16 P17 P18 P19=>Zc P12 (fun P20=>(za .i64 (.pv P14)).bind fun N21=>cond (N21 != 0) (
  cond (P20.isCell&&true) (some (.ret (.pv (.tup [(.agg [(I 0),(I 0),(I 0),(.sl 1 []),(.sl 5 [])]),(.agg [P20]),P14])),[])) none) (
  cond ((true&&(P15.isCell&&(P16.isCell&&(P17.isCell&&(P18.isCell&&(P19.isCell&&true))))))&&true) (cond (zJ (xs17.length+1) 72) (Vh xs0 i1 (IntKind.wrap .i64 (i2+1)) i3 i4 i5 i6 i7 i8 i9 xs10 xs11 i12 i13 p14 p15 xs16 (xs17++[(.agg [P15,P16,P17,P18,P19])]) p18 p19 p20 p21 p22 p23 p24 p25 P20) none) none))))) (fun A3 H4=>none))) (
 cond (p14.isCell&&(p15.isCell&&true)) (cond (p26.isCell&&true) (some (.ret (.pv (.tup [(.agg [(I i13),p14,p15,(.sl 1 xs16),(.sl 5 xs17)]),(.agg [p26]),(I 0)])),[])) none) none):=(z4 ..).trans (by kernel_rfl)
theorem zbe (x0:List PV) (x1_0 x1_1 x1_2 x2_0 x3 x4 x5:Int):ev 83 [(.pv (.sl 1 x0)),(.pv (.agg [(I x1_0),(I x1_1),(I x1_2)])),(.pv (.agg [(I x2_0)])),(.pv (I x3)),(.pv (I x4)),(.pv (I x5))] [] =
 cp (ev 136 [(.pv (.sl 1 x0)),(.pv (I x3)),(.pv (I x4))] []) (fun P3=>tK P3 0 fun P5=>tK P3 1 fun P7=>tK P3 2 fun P9=>tK P3 3 fun P11=>(za .i64 (.pv P11)).bind fun N12=>cond (N12 != 0) (
 some (.ret (.pv (.tup [(.agg [(I 0),(I 0),(I 0),(.sl 1 []),(.sl 5 [])]),(.agg [(I x2_0)]),P11])),[])) (
 (za .u64 (.pv P5)).bind fun N13=>cond (N13==0) (
  some (.ret (.pv (.tup [(.agg [(I 0),(I 0),(I 0),(.sl 1 []),(.sl 5 [])]),(.agg [(I x2_0)]),P11])),[])) (
  cond (decide (x5>x1_0)) (
   some (.ret (.pv (.tup [(.agg [(I 0),(I 0),(I 0),(.sl 1 []),(.sl 5 [])]),(.agg [(I x2_0)]),(I 7)])),[])) (
   cp (ev 137 [(.pv (.sl 1 x0)),(.pv (I x3)),(.pv (I x4))] []) (fun P16=>tK P16 0 fun P18=>tK P16 1 fun P20=>wE P18 (fun P21 P22 P23 P24 P25 P26 P27 P28=>(za .i64 (.pv P20)).bind fun N29=>cond (N29 != 0) (
    some (.ret (.pv (.tup [(.agg [(I 0),(I 0),(I 0),(.sl 1 []),(.sl 5 [])]),(.agg [(I x2_0)]),P20])),[])) (
    cp (ev 138 [(.pv (.agg [(I x2_0)])),(.pv P28)] []) (fun P32=>tK P32 0 fun P34=>tK P32 1 fun P36=>Zc P34 (fun P37=>(za .i64 (.pv P36)).bind fun N38=>cond (N38 != 0) (
     some (.ret (.pv (.tup [(.agg [(I 0),(I 0),(I 0),(.sl 1 []),(.sl 5 [])]),(.agg [(I x2_0)]),P36])),[])) (
     (za .i64 (.pv P21)).bind fun N39=>cond (N39==1) (
      cp (ev 139 [(.pv (.sl 1 x0)),(.pv (.agg [(I x1_0),(I x1_1),(I x1_2)])),(.pv (.agg [P37])),(.pv (.agg [P21,P22,P23,P24,P25,P26,P27,P28])),(.pv (I x5))] []) (fun P42=>tK P42 0 fun P44=>tK P42 1 fun P46=>tK P42 2 fun P48=>xJ P44 (fun P49 P50 P51 P52 P53=>Zc P46 (fun P54=>some (.ret (.pv (.tup [(.agg [P49,P50,P51,P52,P53]),(.agg [P54]),P48])),[]))))) (
      cond (P26.isCell&&true) (cond (P26.isCell&&true) (cond (P27.isCell&&true) (cond (P27.isCell&&true) ((za .i64 (.pv P26)).bind fun N40=>cond (decide (N40<6)) (
       cp (ev 140 [(.pv (.sl 1 x0)),(.pv P22),(.pv P23),(.pv P28)] []) (fun P43=>tK P43 0 fun P45=>tK P43 1 fun P47=>cp (ev 91 [(.pv P45)] []) (fun P50=>cp (ev 124 [(.pv P26),(.pv P27),(.pv P50)] []) (fun P53=>cond (P53.isCell&&true) (cond (P53.isCell&&true) (cond (P26.isCell&&(P27.isCell&&(P53.isCell&&true))) (cond (P37.isCell&&true) (some (.ret (.pv (.tup [(.agg [(I 2),P26,P27,P53,(.sl 5 [])]),(.agg [P37]),(I 0)])),[])) none) none) none) none)))) (
       Vh x0 x5 0 x1_0 x1_1 x1_2 x2_0 0 0 0 [] [] 0 2 P26 P27 [] [] P21 P22 P23 P24 P25 P26 P27 P28 P37)) none) none) none) none))))))))))):=zi (fn:=Tryz.f83) _ _
noncomputable def rK:Code:=Tryz.f113.body.getD .skip
noncomputable def Wo (xs0 xs1:List PV):Option (Out×ze) :=
 zY (zs env ev zI 52 113 0 (sub rK [1,0,1,1,0,0,0])) (zD env 113 0 0) (zG 0 (zT (zH env ev 52 113 0 (sub rK [1,0,1,1,1])) (zX env 113 Tryz.f113.results.toList 0))) ⟨zQ [(0,(.pv (.sl 1 xs0))),(3,(.slu 5 1 xs1))],[]⟩
theorem uP (xs0 xs1:List PV):Wo xs0 xs1 =
 cond (decide ((xs0.length:Int)>0)) (
 cond (decide (0<(xs0.length:Int))) ((xs0[0]?).bind fun P1=>(P1.cells[0]?).bind fun P2=>cp (ev 115 [(.pv P2)] []) (fun P5=>cond ((decide (P5.cells.length=1)&&P5.cells.all PV.isCell)&&true) (cond (zJ (xs1.length+1) 1) (cond (decide (0<(xs0.length:Int))) ((xs0[0]?).bind fun P6=>(P6.cells[0]?).bind fun P7=>cp (ev 185 [(.pv P7)] []) (fun P10=>(zE P10).bind fun L11=>cond (decide (L11.1=1)) (cond (zJ ((xs1++[P5]).length+L11.2.length) 1) (cond (decide (1<=(xs0.length:Int))&&decide ((xs0.length:Int)<=(xs0.length:Int))) ((za .u8 (.pv P5)).bind fun N12=>cond (N12==0) (
 cp (ev 186 [(.pv (.sl 1 ((xs0.take (xs0.length:Int).toNat).drop 1))),(.pv (.v (.func (.func 187) #[] #[])))] []) (fun P15=>(yB (.pv P15)).bind fun Q16=>cond (zJ (((xs1++[P5])++L11.2).length+1) 1) ((yB (.pv P15)).bind fun Q17=>cond ((decide (0<=Q17.2)&&decide (Q17.2<=(((xs0.take (xs0.length:Int).toNat).drop 1).length:Int)))&&decide ((((xs0.take (xs0.length:Int).toNat).drop 1).length:Int)<=(((xs0.take (xs0.length:Int).toNat).drop 1).length:Int))) (Wo ((((xs0.take (xs0.length:Int).toNat).drop 1).take (((xs0.take (xs0.length:Int).toNat).drop 1).length:Int).toNat).drop (Q17.2).toNat) (((xs1++[P5])++L11.2)++[(U8 (IntKind.wrap .u8 Q16.2))])) none) none)) (
 (za .u8 (.pv P5)).bind fun N13=>cond (N13==255) (
  cp (ev 186 [(.pv (.sl 1 ((xs0.take (xs0.length:Int).toNat).drop 1))),(.pv (.v (.func (.func 114) #[] #[])))] []) (fun P16=>(yB (.pv P16)).bind fun Q17=>cond (zJ (((xs1++[P5])++L11.2).length+1) 1) ((yB (.pv P16)).bind fun Q18=>cond (decide (0<=Q18.2)&&decide (Q18.2<=(((xs0.take (xs0.length:Int).toNat).drop 1).length:Int))) (cp (ev 117 [(.pv (.sl 1 ((((xs0.take (xs0.length:Int).toNat).drop 1).take (Q18.2).toNat).drop 0)))] []) (fun P21=>(zE P21).bind fun L22=>cond (decide (L22.1=1)) (cond (zJ ((((xs1++[P5])++L11.2)++[(U8 (IntKind.wrap .u8 Q17.2))]).length+L22.2.length) 1) ((yB (.pv P16)).bind fun Q23=>cond ((decide (0<=Q23.2)&&decide (Q23.2<=(((xs0.take (xs0.length:Int).toNat).drop 1).length:Int)))&&decide ((((xs0.take (xs0.length:Int).toNat).drop 1).length:Int)<=(((xs0.take (xs0.length:Int).toNat).drop 1).length:Int))) (Wo ((((xs0.take (xs0.length:Int).toNat).drop 1).take (((xs0.take (xs0.length:Int).toNat).drop 1).length:Int).toNat).drop (Q23.2).toNat) ((((xs1++[P5])++L11.2)++[(U8 (IntKind.wrap .u8 Q17.2))])++L22.2)) none) none) none)) none) none)) (
  Wo ((xs0.take (xs0.length:Int).toNat).drop 1) ((xs1++[P5])++L11.2)))) none) none) none)) none) none) none)) none) (
 some (.ret (.pv (.sl 1 xs1)),[])):=(z4 ..).trans (by kernel_rfl)
theorem zmX (x0:List PV):ev 113 [(.pv (.sl 1 x0))] [] =
 Wo x0 []:=zi (fn:=Tryz.f113) _ _
theorem zjb (x0 x1:Int):ev 123 [(.pv (I x0)),(.pv (I x1))] [] =
 cp (ev 189 [(.pv (I x0))] []) (fun P3=>(za .i64 (.pv P3)).bind fun N4=>cp (ev 189 [(.pv (I x0))] []) (fun P7=>(za .i64 (.pv P7)).bind fun N8=>cond (decide ((IntKind.wrap .i64 ((IntKind.wrap .i64 (Int.tdiv (IntKind.wrap .i64 (N4*x1)) 8))*8))<(IntKind.wrap .i64 (N8*x1)))) (
 some (.ret (.pv (I (IntKind.wrap .i64 ((IntKind.wrap .i64 (Int.tdiv (IntKind.wrap .i64 (N4*x1)) 8))+1)))),[])) (
 some (.ret (.pv (I (IntKind.wrap .i64 (Int.tdiv (IntKind.wrap .i64 (N4*x1)) 8)))),[])))):=zi (fn:=Tryz.f123) _ _
noncomputable def rk:Code:=Tryz.f125.body.getD .skip
noncomputable def Vg (xs0:List PV) (i1 i2:Int):Option (Out×ze) :=
 zY (zs env ev zI 20 125 0 (sub rk [1,1,0,1,0,0])) (zD env 125 0 0) (zG 0 (zT (zH env ev 20 125 0 (sub rk [1,1,1])) (zX env 125 Tryz.f125.results.toList 0))) ⟨zQ [(0,(.pv (.sl 1 xs0))),(3,(.pv (I i1))),(4,(.pv (I i2)))],[]⟩
theorem zbb (xs0:List PV) (i1 i2:Int):Vg xs0 i1 i2 =
 cond (decide (i2<(xs0.length:Int))) (
 cond (decide (0<=i2)&&decide (i2<(xs0.length:Int))) ((xs0[(i2).toNat]?).bind fun P1=>(P1.cells[0]?).bind fun P2=>(za .u8 (.pv P2)).bind fun N3=>cond (N3 != 0) (
 Vg xs0 (IntKind.wrap .i64 ((IntKind.wrap .i64 (Int.tdiv i2 8))+1)) (IntKind.wrap .i64 (i2+1))) (
 Vg xs0 i1 (IntKind.wrap .i64 (i2+1)))) none) (
 some (.ret (.pv (I i1)),[])):=(z4 ..).trans (by kernel_rfl)
theorem zjo (x0:List PV):ev 125 [(.pv (.sl 1 x0))] [] =
 Vg x0 0 0:=zi (fn:=Tryz.f125) _ _
theorem zaL (x0:Bool):ev 130 [(.pv (Bo x0))] [] =
 cond (!x0) (
 some (.pan (.ifc 174 (.agg [])),[])) (
 some (.ret (.pv (.tup [])),[])):=zi (fn:=Tryz.f130) _ _
theorem qw (x0__0:List PV) (x0__1 x0__2_0 x0__2_1 x0__2_2 x0__3_0 x1 x2:Int):ev 132 [(.ptr 0 0),(.pv (I x1)),(.pv (I x2))] [[(.pv (.sl 1 x0__0)),(.pv (I x0__1)),(.pv (I x0__2_0)),(.pv (I x0__2_1)),(.pv (I x0__2_2)),(.pv (I x0__3_0))]] =
 cond (decide (0<=x1)&&decide (x1<(x0__0.length:Int))) ((x0__0[(x1).toNat]?).bind fun P1=>(P1.cells[0]?).bind fun P2=>zq (ev 190 [(.pv P2)] []) (fun A3 H4=>(zf A3).bind fun P5=>(z7 (.pv P5)).bind fun B6=>cond B6 (
 some (.ret (.pv (.tup [])),[[(.pv (.sl 1 x0__0)),(.pv (I x0__1)),(.pv (I x0__2_0)),(.pv (I x0__2_1)),(.pv (I x0__2_2)),(.pv (I x0__3_0))]])) (
 zq (ev 191 [(.pv (.agg [(I x0__2_0),(I x0__2_1),(I x0__2_2)])),(.pv (I x2))] []) (fun A7 H8=>(zf A7).bind fun P9=>(za .i64 (.pv P9)).bind fun N10=>zq (ev 130 [(.pv (Bo (N10==0)))] []) (fun A11 H12=>(zf A11).bind fun P13=>zq (ev 192 [(.pv P2)] []) (fun A14 H15=>(zf A14).bind fun P16=>wk P16 (fun P17 P18 P19 P20 P21 P22 P23 P24 P25 P26=>(za .i64 (.pv P17)).bind fun N27=>cond (N27==0) (
  xC (ev 193 [(.ptr 0 0),(.pv (I x1)),(.pv (I x2)),(.pv (.agg [P17,P18,P19,P20,P21,P22,P23,P24,P25,P26]))] [[(.pv (.sl 1 x0__0)),(.pv (I x0__1)),(.pv (I x0__2_0)),(.pv (I x0__2_1)),(.pv (I x0__2_2)),(.pv (I x0__3_0))]]) (fun P43 P32 P34 P36 P38 P40 P42=>some (.ret (.pv (.tup [])),[[(.pv P32),(.pv P34),(.pv P36),(.pv P38),(.pv P40),(.pv P42)]]))) (
  (za .i64 (.pv P17)).bind fun N28=>cond (N28==1) (
   xC (ev 194 [(.ptr 0 0),(.pv (I x1)),(.pv (I x2)),(.pv (.agg [P17,P18,P19,P20,P21,P22,P23,P24,P25,P26]))] [[(.pv (.sl 1 x0__0)),(.pv (I x0__1)),(.pv (I x0__2_0)),(.pv (I x0__2_1)),(.pv (I x0__2_2)),(.pv (I x0__3_0))]]) (fun P44 P33 P35 P37 P39 P41 P43=>some (.ret (.pv (.tup [])),[[(.pv P33),(.pv P35),(.pv P37),(.pv P39),(.pv P41),(.pv P43)]]))) (
   zq (ev 130 [(.pv (Bo false))] []) (fun A29 H30=>(zf A29).bind fun P31=>some (.ret (.pv (.tup [])),[[(.pv (.sl 1 x0__0)),(.pv (I x0__1)),(.pv (I x0__2_0)),(.pv (I x0__2_1)),(.pv (I x0__2_2)),(.pv (I x0__3_0))]])) (fun A29 H30=>some (.pan A29,[[(.pv (.sl 1 x0__0)),(.pv (I x0__1)),(.pv (I x0__2_0)),(.pv (I x0__2_1)),(.pv (I x0__2_2)),(.pv (I x0__3_0))]])))))) (fun A14 H15=>some (.pan A14,[[(.pv (.sl 1 x0__0)),(.pv (I x0__1)),(.pv (I x0__2_0)),(.pv (I x0__2_1)),(.pv (I x0__2_2)),(.pv (I x0__3_0))]]))) (fun A11 H12=>some (.pan A11,[[(.pv (.sl 1 x0__0)),(.pv (I x0__1)),(.pv (I x0__2_0)),(.pv (I x0__2_1)),(.pv (I x0__2_2)),(.pv (I x0__3_0))]]))) (fun A7 H8=>some (.pan A7,[[(.pv (.sl 1 x0__0)),(.pv (I x0__1)),(.pv (I x0__2_0)),(.pv (I x0__2_1)),(.pv (I x0__2_2)),(.pv (I x0__3_0))]])))) (fun A3 H4=>some (.pan A3,[[(.pv (.sl 1 x0__0)),(.pv (I x0__1)),(.pv (I x0__2_0)),(.pv (I x0__2_1)),(.pv (I x0__2_2)),(.pv (I x0__3_0))]]))) none:=zi (fn:=Tryz.f132) _ _
noncomputable def rc:Code:=Tryz.f140.body.getD .skip
noncomputable def Q2 (xs0:List PV) (i1 i2 i3:Int) (xs4:List PV) (i5:Int):Option (Out×ze) :=
 zY (zs env ev zI 36 140 0 (sub rc [1,1,1,0,1,0,0])) (zD env 140 0 0) (zG 0 (zT (zH env ev 36 140 0 (sub rc [1,1,1,1])) (zX env 140 Tryz.f140.results.toList 0))) ⟨zQ [(0,(.pv (.sl 1 xs0))),(1,(.pv (I i1))),(2,(.pv (I i2))),(3,(.pv (I i3))),(10,(.slu 30 1 xs4)),(11,(.pv (I i5)))],[]⟩
theorem za3 (xs0:List PV) (i1 i2 i3:Int) (xs4:List PV) (i5:Int):Q2 xs0 i1 i2 i3 xs4 i5 =
 cond (decide (i5<i3)) (
 cond (decide (0<=i1)&&decide (i1<(xs0.length:Int))) ((xs0[(i1).toNat]?).bind fun P1=>(P1.cells[0]?).bind fun P2=>(zE P2).bind fun L3=>cond ((decide (L3.1=1)&&decide (0<=(IntKind.wrap .i64 (i2+i5))))&&decide ((IntKind.wrap .i64 (i2+i5))<(L3.2.length:Int))) ((L3.2[(IntKind.wrap .i64 (i2+i5)).toNat]?).bind fun P4=>(P4.cells[0]?).bind fun P5=>cond ((decide (P5.cells.length=1)&&P5.cells.all PV.isCell)&&true) (cond (zJ (xs4.length+1) 8) (Q2 xs0 i1 i2 i3 (xs4++[P5]) (IntKind.wrap .i64 (i5+1))) none) none) none) none) (
 some (.ret (.pv (.tup [(.sl 1 xs4),(Bo true)])),[])):=(z4 ..).trans (by kernel_rfl)
theorem zi8 (x0:List PV) (x1 x2 x3:Int):ev 140 [(.pv (.sl 1 x0)),(.pv (I x1)),(.pv (I x2)),(.pv (I x3))] [] =
 cp (ev 200 [(.pv (.sl 1 x0)),(.pv (I x1)),(.pv (I x2)),(.pv (I x3))] []) (fun P3=>(z7 (.pv P3)).bind fun B4=>cond (!B4) (
 some (.ret (.pv (.tup [(.sl 1 []),(Bo false)])),[])) (
 Q2 x0 x1 x2 x3 [] 0)):=zi (fn:=Tryz.f140) _ _
theorem ziL (x0_0 x0_1 x0_2:Int) (x0_3 x0_4:List PV):ev 156 [(.pv (.agg [(I x0_0),(I x0_1),(I x0_2),(.sl 1 x0_3),(.sl 5 x0_4)]))] [] =
 cp (ev 217 [(.pv (.agg [(I x0_0),(I x0_1),(I x0_2),(.sl 1 x0_3),(.sl 5 x0_4)]))] []) (fun P3=>(za .i64 (.pv P3)).bind fun N4=>some (.ret (.pv (I (IntKind.wrap .i64 (N4+1)))),[])):=zi (fn:=Tryz.f156) _ _
noncomputable def ro:Code:=Tryz.f160.body.getD .skip
noncomputable def Kf (xs0:List PV) (i1 i2 i3 i4:Int) (xs5 xs6:List PV):Option (Out×ze) :=
 zY (zs env ev zI 31 160 0 (sub ro [1,1,1,0,1,0,0])) (zD env 160 0 1) (zG 0 (zT (zH env ev 31 160 0 (sub ro [1,1,1,1])) (zX env 160 Tryz.f160.results.toList 0))) ⟨zQ [(1,(.ptr 0 0)),(3,(.slu 53 5 xs0)),(4,(.pv (I i1)))],[[(.pv (I i2)),(.pv (I i3)),(.pv (I i4)),(.pv (.sl 1 xs5)),(.pv (.sl 5 xs6))]]⟩
theorem zbj (xs0:List PV) (i1 i2 i3 i4:Int) (xs5 xs6:List PV):Kf xs0 i1 i2 i3 i4 xs5 xs6 =
 cond (decide (i1<(xs6.length:Int))) (
 cond (decide (0<=i1)&&decide (i1<(xs6.length:Int))) ((xs6[(i1).toNat]?).bind fun P1=>(P1.cells[4]?).bind fun P2=>(zE P2).bind fun L3=>cond (decide (L3.1=5)) (cond (zJ (xs0.length+L3.2.length) 72) (Kf (xs0++L3.2) (IntKind.wrap .i64 (i1+1)) i2 i3 i4 xs5 xs6) none) none) none) (
 some (.ret (.pv (.sl 5 xs0)),[])):=(z4 ..).trans (by kernel_rfl)
theorem zjt (x0_0 x0_1 x0_2:Int) (x0_3 x0_4:List PV):ev 160 [(.pv (.agg [(I x0_0),(I x0_1),(I x0_2),(.sl 1 x0_3),(.sl 5 x0_4)]))] [] =
 cond (x0_0 != 2) (
 some (.ret (.pv (.sl 5 x0_4)),[])) (
 cond (x0_1 != 7) (
  some (.ret (.pv (.sl 5 x0_4)),[])) (
  Kf [] 0 x0_0 x0_1 x0_2 x0_3 x0_4)):=zi (fn:=Tryz.f160) _ _
theorem ziC (x0:List PV) (x1_0 x1_1 x1_2:Int):ev 163 [(.pv (.sl 1 x0)),(.pv (.agg [(I x1_0),(I x1_1),(I x1_2)])),(.pv (.v (.func (.func 164) #[] #[])))] [] =
 cp (ev 176 [(.pv (.sl 1 x0)),(.pv (.agg [(I x1_0),(I x1_1),(I x1_2)]))] []) (fun P3=>tK P3 0 fun P5=>tK P3 1 fun P7=>xJ P5 (fun P8 P9 P10 P11 P12=>(za .i64 (.pv P7)).bind fun N13=>cond (N13 != 0) (
 some (.ret (.pv (.tup [(.sl 1 []),P7])),[])) (
 cp (ev 164 [(.pv (.agg [P8,P9,P10,P11,P12]))] []) (fun P16=>some (.ret (.pv (.tup [P16,(I 0)])),[]))))):=zi (fn:=Tryz.f163) _ _
theorem ziM (x0_0 x0_1 x0_2:Int) (x0_3 x0_4:List PV):ev 165 [(.pv (.agg [(I x0_0),(I x0_1),(I x0_2),(.sl 1 x0_3),(.sl 5 x0_4)]))] [] =
 cp (ev 156 [(.pv (.agg [(I x0_0),(I x0_1),(I x0_2),(.sl 1 x0_3),(.sl 5 x0_4)]))] []) (fun P3=>(yB (.pv P3)).bind fun Q4=>cond ((decide (1<=Q4.2)&&decide (Q4.2<=140737488355328))&&zJ (Q4.2).toNat 8) (zq (ev 228 [(.ptr 0 0),(.pv (I 0)),(.pv (.agg [(I x0_0),(I x0_1),(I x0_2),(.sl 1 x0_3),(.sl 5 x0_4)]))] [[(.slu 30 1 [(U 0)])]]) (fun A5 H6=>(H6[0]?).bind fun C7=>(C7[0]?).bind fun E8=>(yx 30 1 E8).bind fun X9=>cond (decide (C7.length=1)) (cond (decide (H6.length=1)) ((zf A5).bind fun P10=>some (.ret (.slu 30 1 X9),[])) none) none) (fun A5 H6=>(H6[0]?).bind fun C7=>(C7[0]?).bind fun E8=>(yx 30 1 E8).bind fun X9=>cond (decide (C7.length=1)) (cond (decide (H6.length=1)) (some (.pan A5,[])) none) none)) none):=zi (fn:=Tryz.f165) _ _
noncomputable def rH:Code:=Tryz.f173.body.getD .skip
noncomputable def VG (xs0:List PV) (i1 i2 i3:Int):Option (Out×ze) :=
 zY (zs env ev zI 30 173 0 (sub rH [1,1,1,0,1,0,0])) (zD env 173 0 0) (zG 0 (zT (zH env ev 30 173 0 (sub rH [1,1,1,1])) (zX env 173 Tryz.f173.results.toList 0))) ⟨zQ [(0,(.pv (.sl 1 xs0))),(1,(.pv (I i1))),(5,(.pv (I i2))),(6,(.pv (I i3)))],[]⟩
theorem zcu (xs0:List PV) (i1 i2 i3:Int):VG xs0 i1 i2 i3 =
 cond (decide (i3≥0)) (
 cond (decide (0<=(IntKind.wrap .i64 ((IntKind.wrap .i64 (4*i1))+i3)))&&decide ((IntKind.wrap .i64 ((IntKind.wrap .i64 (4*i1))+i3))<(xs0.length:Int))) ((xs0[(IntKind.wrap .i64 ((IntKind.wrap .i64 (4*i1))+i3)).toNat]?).bind fun P1=>(P1.cells[0]?).bind fun P2=>(yB (.pv P2)).bind fun Q3=>VG xs0 i1 (IntKind.wrap .i64 (BitVec.ofInt 64 (IntKind.wrap .i64 (i2*2^(min 8 64))) ||| BitVec.ofInt 64 (IntKind.wrap .i64 Q3.2)).toNat) (IntKind.wrap .i64 (i3-1))) none) (
 some (.ret (.pv (I i2)),[])):=(z4 ..).trans (by kernel_rfl)
theorem zcv (x0:List PV) (x1:Int):ev 173 [(.pv (.sl 1 x0)),(.pv (I x1))] [] =
 cp (ev 174 [(.pv (Bo (decide ((IntKind.wrap .i64 (4*(IntKind.wrap .i64 (x1+1))))<=(x0.length:Int)))))] []) (fun P3=>VG x0 x1 0 3):=zi (fn:=Tryz.f173) _ _
theorem zig (x0_0 x0_1 x0_2 x1_0:Int):ev 179 [(.pv (.agg [(I x0_0),(I x0_1),(I x0_2)])),(.pv (.agg [(I x1_0)]))] [] =
 zq (ev 131 [(.pv (.agg [(I x0_0),(I x0_1),(I x0_2)]))] []) (fun A1 H2=>(zf A1).bind fun P3=>(Xl (.pv P3)).bind fun cs_4=>(cs_4[0]?).bind fun P5=>(za .i64 (.pv P5)).bind fun N6=>some (.ret (.pv (I (IntKind.wrap .i64 (N6-x1_0)))),[])) (fun A1 H2=>none):=zi (fn:=Tryz.f179) _ _
theorem zkW (x0_0 x0_1:List PV) (x1_0 x1_1 x1_2 x1_3 x1_4 x1_5 x1_6 x1_7 x2_0 x2_1 x2_2 x2_3 x2_4 x2_5 x2_6 x2_7:Int):ev 181 [(.pv (.agg [(.sl 1 x0_0),(.sl 1 x0_1)])),(.pv (.agg [(I x1_0),(I x1_1),(I x1_2),(I x1_3),(I x1_4),(I x1_5),(I x1_6),(I x1_7)])),(.pv (.agg [(I x2_0),(I x2_1),(I x2_2),(I x2_3),(I x2_4),(I x2_5),(I x2_6),(I x2_7)]))] [] =
 zq (ev 236 [(.pv (.sl 1 x0_0)),(.pv (.agg [(I x1_0),(I x1_1),(I x1_2),(I x1_3),(I x1_4),(I x1_5),(I x1_6),(I x1_7)])),(.pv (I x1_3))] []) (fun A1 H2=>(zf A1).bind fun P3=>cp (ev 236 [(.pv (.sl 1 x0_1)),(.pv (.agg [(I x2_0),(I x2_1),(I x2_2),(I x2_3),(I x2_4),(I x2_5),(I x2_6),(I x2_7)])),(.pv (I x2_3))] []) (fun P6=>cp (ev 237 [(.pv P3),(.pv P6)] []) (fun P9=>(z7 (.pv P9)).bind fun B10=>cond B10 (
 cp (ev 183 [(.pv (.agg [(.sl 1 x0_0),(.sl 1 x0_1)])),(.pv (.agg [(I x1_0),(I x1_1),(I x1_2),(I x1_3),(I x1_4),(I x1_5),(I x1_6),(I x1_7)])),(.pv (.agg [(I x2_0),(I x2_1),(I x2_2),(I x2_3),(I x2_4),(I x2_5),(I x2_6),(I x2_7)])),(.pv (I (if x2_4>x1_4 then x2_4 else x1_4)))] []) (fun P13=>(z7 (.pv P13)).bind fun B14=>some (.ret (.pv (Bo B14)),[]))) (
 some (.ret (.pv (Bo false)),[]))))) (fun A1 H2=>none):=zi (fn:=Tryz.f181) _ _
theorem zn5 (x0:List PV) (x1 x2:Int):ev 184 [(.pv (.sl 1 x0)),(.pv (I x1)),(.pv (I x2))] [] =
 cp (ev 240 [(.pv (.sl 1 x0)),(.pv (I x1)),(.pv (I x2))] []) (fun P3=>tK P3 0 fun P5=>tK P3 1 fun P7=>tK P3 2 fun P9=>tK P3 3 fun P11=>(za .i64 (.pv P11)).bind fun N12=>cond (N12 != 0) (
 some (.ret (.pv (.tup [(.agg [(I 0),(I 0),(I 0),(I 0),(I 0),(I 0),(I 0),(I 0)]),P11])),[])) (
 cp (ev 190 [(.pv P5)] []) (fun P15=>(z7 (.pv P15)).bind fun B16=>cond B16 (
  some (.ret (.pv (.tup [(.agg [(I 0),(I 0),(I 0),(I 0),(I 0),(I 0),(I 0),(I 0)]),P11])),[])) (
  cp (ev 192 [(.pv P5)] []) (fun P19=>wk P19 (fun P20 P21 P22 P23 P24 P25 P26 P27 P28 P29=>(yB (.pv P20)).bind fun Q30=>cond (decide (0<=Q30.2)&&decide (Q30.2<4)) (cond ((0:Int)==Q30.2) (
   (za .i64 (.pv P9)).bind fun N31=>(za .i64 (.pv P21)).bind fun N32=>cp (ev 241 [(.pv (.sl 1 x0)),(.pv (.agg [P20,P21,P22,P23,P24,P25,P26,P27,P28,P29])),(.pv P7),(.pv (I (IntKind.wrap .i64 (N31+N32))))] []) (fun P35=>tK P35 0 fun P37=>tK P35 1 fun P39=>wE P37 (fun P40 P41 P42 P43 P44 P45 P46 P47=>some (.ret (.pv (.tup [(.agg [P40,P41,P42,P43,P44,P45,P46,P47]),P39])),[])))) (
   cond ((1:Int)==Q30.2) (
    (za .i64 (.pv P9)).bind fun N31=>(za .i64 (.pv P21)).bind fun N32=>cp (ev 242 [(.pv (.sl 1 x0)),(.pv (.agg [P20,P21,P22,P23,P24,P25,P26,P27,P28,P29])),(.pv P7),(.pv (I (IntKind.wrap .i64 (N31+N32))))] []) (fun P35=>tK P35 0 fun P37=>tK P35 1 fun P39=>wE P37 (fun P40 P41 P42 P43 P44 P45 P46 P47=>some (.ret (.pv (.tup [(.agg [P40,P41,P42,P43,P44,P45,P46,P47]),P39])),[])))) (
    cond ((2:Int)==Q30.2) (
     (za .i64 (.pv P9)).bind fun N31=>(za .i64 (.pv P21)).bind fun N32=>cp (ev 243 [(.pv (.sl 1 x0)),(.pv (.agg [P20,P21,P22,P23,P24,P25,P26,P27,P28,P29])),(.pv P7),(.pv (I (IntKind.wrap .i64 (N31+N32))))] []) (fun P35=>tK P35 0 fun P37=>tK P35 1 fun P39=>wE P37 (fun P40 P41 P42 P43 P44 P45 P46 P47=>some (.ret (.pv (.tup [(.agg [P40,P41,P42,P43,P44,P45,P46,P47]),P39])),[])))) (
     cond ((3:Int)==Q30.2) (
      (za .i64 (.pv P9)).bind fun N31=>(za .i64 (.pv P21)).bind fun N32=>cp (ev 243 [(.pv (.sl 1 x0)),(.pv (.agg [P20,P21,P22,P23,P24,P25,P26,P27,P28,P29])),(.pv P7),(.pv (I (IntKind.wrap .i64 (N31+N32))))] []) (fun P35=>tK P35 0 fun P37=>tK P35 1 fun P39=>wE P37 (fun P40 P41 P42 P43 P44 P45 P46 P47=>some (.ret (.pv (.tup [(.agg [P40,P41,P42,P43,P44,P45,P46,P47]),P39])),[])))) (
      none))))) none)))))):=zi (fn:=Tryz.f184) _ _
theorem ziP (x0__0:List PV) (x1_0 x1_1 x1_2:Int) (x1_3 x1_4:List PV):ev 269 [(.ptr 0 0),(.pv (.agg [(I x1_0),(I x1_1),(I x1_2),(.sl 1 x1_3),(.sl 5 x1_4)]))] [[(.slu 30 1 x0__0)]] =
 zq (ev 293 [(.ptr 0 0),(.pv (.sl 1 x1_3)),(.pv (I (IntKind.wrap .i64 (Int.tdiv (x1_3.length:Int) 8))))] [[(.slu 30 1 x0__0)]]) (fun A1 H2=>(H2[0]?).bind fun C3=>(C3[0]?).bind fun E4=>(yx 30 1 E4).bind fun X5=>cond (decide (C3.length=1)) (cond (decide (H2.length=1)) ((zf A1).bind fun P6=>zq (ev 292 [(.ptr 0 0),(.pv (I (x1_4.length:Int)))] [[(.slu 30 1 X5)]]) (fun A7 H8=>(H8[0]?).bind fun C9=>(C9[0]?).bind fun E10=>(yx 30 1 E10).bind fun X11=>cond (decide (C9.length=1)) (cond (decide (H8.length=1)) ((zf A7).bind fun P12=>cond ((decide (P12.cells.length=1)&&P12.cells.all PV.isCell)&&true) (some (.ret (.pv (.tup [(.agg [(I 0),(I 0),(I (IntKind.wrap .i64 (Int.tdiv (x1_3.length:Int) 8))),(I (x1_4.length:Int)),(I 0),(I 0),(Bo false),(I 0),(PV.v (.int .u32 0)),(PV.v (.int .u32 0))]),(.sl 1 [P12])])),[[(.slu 30 1 X11)]])) none) none) none) (fun A7 H8=>(H8[0]?).bind fun C9=>(C9[0]?).bind fun E10=>(yx 30 1 E10).bind fun X11=>cond (decide (C9.length=1)) (cond (decide (H8.length=1)) (some (.pan A7,[[(.slu 30 1 X11)]])) none) none)) none) none) (fun A1 H2=>(H2[0]?).bind fun C3=>(C3[0]?).bind fun E4=>(yx 30 1 E4).bind fun X5=>cond (decide (C3.length=1)) (cond (decide (H2.length=1)) (some (.pan A1,[[(.slu 30 1 X5)]])) none) none):=zi (fn:=Tryz.f269) _ _
theorem zid (x0_0 x1:Int):ev 272 [(.pv (.agg [(I x0_0)])),(.pv (I x1))] [] =
 zq (ev 294 [(.ptr 0 0),(.pv (I x1))] [[(.pv (I x0_0))]]) (fun A1 H2=>(H2[0]?).bind fun C3=>(C3[0]?).bind fun E4=>(zf E4).bind fun P5=>cond (decide (C3.length=1)) (cond (decide (H2.length=1)) ((zf A1).bind fun P6=>(z7 (.pv P6)).bind fun B7=>cond (!B7) (
 some (.ret (.pv (.tup [(.agg [(I x0_0)]),(I 8)])),[])) (
 cond (P5.isCell&&true) (some (.ret (.pv (.tup [(.agg [P5]),(I 0)])),[])) none)) none) none) (fun A1 H2=>(H2[0]?).bind fun C3=>(C3[0]?).bind fun E4=>(zf E4).bind fun P5=>cond (decide (C3.length=1)) (cond (decide (H2.length=1)) (some (.pan A1,[])) none) none):=zi (fn:=Tryz.f272) _ _
noncomputable def ru:Code:=Tryz.f274.body.getD .skip
noncomputable def Ku (i0 i1 i2:Int) (p3 p4 p5 p6 p7:PV) (i8 i9 i10 i11 i12 i13 i14 i15 i16 i17 i18:Int) (xs19 xs20:List PV) (i21 i22 i23:Int) (xs24 xs25:List PV):Option (Out×ze) :=
 zY (zs env ev zI 56 274 1 (sub ru [1,1,0,1,0,1,1,1,0,1,0,0])) (zD env 274 1 4) (zG 1 (zG 0 (zT (zH env ev 56 274 0 (sub ru [1,1,1])) (zX env 274 Tryz.f274.results.toList 1)))) ⟨zQ [(0,(.ptr 0 0)),(2,(.pv (I i0))),(4,(.ptr 1 0)),(6,(.ptr 2 0)),(7,(.ptr 3 0)),(39,(.pv (I i1))),(40,(.pv (I i2)))],[[(.pv p3),(.pv p4),(.pv p5),(.pv p6),(.pv p7)],[(.pv (I i8)),(.pv (I i9)),(.pv (I i10)),(.pv (I i11)),(.pv (I i12)),(.pv (I i13)),(.pv (I i14)),(.pv (I i15))],[(.pv (I i16)),(.pv (I i17)),(.pv (I i18)),(.slu 5 1 xs19),(.slu 53 5 xs20)],[(.pv (I i21)),(.pv (I i22)),(.pv (I i23)),(.slu 5 1 xs24),(.slu 53 5 xs25)]]⟩
theorem zbM (i0 i1 i2:Int) (p3 p4 p5 p6 p7:PV) (i8 i9 i10 i11 i12 i13 i14 i15 i16 i17 i18:Int) (xs19 xs20:List PV) (i21 i22 i23:Int) (xs24 xs25:List PV):Ku i0 i1 i2 p3 p4 p5 p6 p7 i8 i9 i10 i11 i12 i13 i14 i15 i16 i17 i18 xs19 xs20 i21 i22 i23 xs24 xs25 =
 cond (decide (i2<i1)) (
 zq (ev 238 [(.pv (.agg [(I i8),(I i9),(I i10),(I i11),(I i12),(I i13),(I i14),(I i15)])),(.pv (I i2))] []) (fun A1 H2=>(zf A1).bind fun P3=>Yd (ev 273 [(.ptr 0 0),(.pv P3),(.pv (I i0))] [[(.pv p3),(.pv p4),(.pv p5),(.pv p6),(.pv p7)]]) (fun P17 P8 P10 P12 P14 P16=>cond ((decide (P17.cells.length=5)&&P17.cells.all PV.isCell)&&true) (cond (zJ (xs25.length+1) 72) (Ku i0 i1 (IntKind.wrap .i64 (i2+1)) P8 P10 P12 P14 P16 i8 i9 i10 i11 i12 i13 i14 i15 i16 i17 i18 xs19 xs20 i21 i22 i23 xs24 (xs25++[P17])) none) none)) (fun A1 H2=>none)) (
 some (.ret (.pv (.agg [(I i21),(I i22),(I i23),(.sl 1 xs24),(.sl 5 xs25)])),[[(.pv p3),(.pv p4),(.pv p5),(.pv p6),(.pv p7)]])):=(z4 ..).trans (by kernel_rfl)
theorem qT (x0__0:List PV) (x0__1_0 x0__1_1 x0__1_2 x0__2_0 x1_0 x1_1 x1_2 x1_3 x1_4 x1_5 x1_6 x1_7 x2:Int):ev 274 [(.ptr 0 0),(.pv (.agg [(I x1_0),(I x1_1),(I x1_2),(I x1_3),(I x1_4),(I x1_5),(I x1_6),(I x1_7)])),(.pv (I x2))] [[(.pv (.sl 1 x0__0)),(.pv (I x0__1_0)),(.pv (I x0__1_1)),(.pv (I x0__1_2)),(.pv (I x0__2_0))]] =
 cond (x1_5==6) (
 Yd (ev 296 [(.ptr 0 0),(.pv (.agg [(I x1_0),(I x1_1),(I x1_2),(I x1_3),(I x1_4),(I x1_5),(I x1_6),(I x1_7)])),(.pv (I x2))] [[(.pv (.sl 1 x0__0)),(.pv (I x0__1_0)),(.pv (I x0__1_1)),(.pv (I x0__1_2)),(.pv (I x0__2_0))]]) (fun P14 P5 P7 P9 P11 P13=>cond (P14.isCell&&true) (cond (P14.isCell&&true) (cond (P14.isCell&&true) (some (.ret (.pv (.agg [(I 2),(I x1_5),(I x1_6),(.sl 1 []),P14])),[[(.pv P5),(.pv P7),(.pv P9),(.pv P11),(.pv P13)]])) none) none) none)) (
 cond (x1_5==7) (
  Ku x2 x1_6 0 (.sl 1 x0__0) (I x0__1_0) (I x0__1_1) (I x0__1_2) (I x0__2_0) x1_0 x1_1 x1_2 x1_3 x1_4 x1_5 x1_6 x1_7 0 0 0 [] [] 2 x1_5 x1_6 [] []) (
  Yd (ev 295 [(.ptr 0 0),(.pv (.agg [(I x1_0),(I x1_1),(I x1_2),(I x1_3),(I x1_4),(I x1_5),(I x1_6),(I x1_7)])),(.pv (I x1_2)),(.pv (I x1_7))] [[(.pv (.sl 1 x0__0)),(.pv (I x0__1_0)),(.pv (I x0__1_1)),(.pv (I x0__1_2)),(.pv (I x0__2_0))]]) (fun P14 P5 P7 P9 P11 P13=>zq (ev 235 [(.pv (I x1_5)),(.pv (I x1_6)),(.pv P14)] []) (fun A15 H16=>(yx 5 1 A15).bind fun X17=>some (.ret (.pv (.agg [(I 2),(I x1_5),(I x1_6),(.sl 1 X17),(.sl 5 [])])),[[(.pv P5),(.pv P7),(.pv P9),(.pv P11),(.pv P13)]])) (fun A15 H16=>some (.pan A15,[[(.pv P5),(.pv P7),(.pv P9),(.pv P11),(.pv P13)]]))))):=zi (fn:=Tryz.f274) _ _
theorem zdM (x0_0 x0_1 x0_2 x0_3 x0_4 x0_5:Int) (x0_6:Bool) (x0_7 x0_8 x0_9:Int):ev 288 [(.pv (.agg [(I x0_0),(I x0_1),(I x0_2),(I x0_3),(I x0_4),(I x0_5),(Bo x0_6),(I x0_7),(PV.v (.int .u32 x0_8)),(PV.v (.int .u32 x0_9))]))] [] =
 cp (ev 291 [(.pv (U 0)),(.pv (I 0)),(.pv (I 2)),(.pv (U (IntKind.wrap .u64 x0_0)))] []) (fun P3=>cond (x0_0==0) (
 cp (ev 291 [(.pv P3),(.pv (I 2)),(.pv (I 30)),(.pv (U (IntKind.wrap .u64 x0_1)))] []) (fun P6=>zq (ev 291 [(.pv P6),(.pv (I 32)),(.pv (I 16)),(.pv (U (IntKind.wrap .u64 x0_2)))] []) (fun A7 H8=>(zf A7).bind fun P9=>cp (ev 291 [(.pv P9),(.pv (I 48)),(.pv (I 16)),(.pv (U (IntKind.wrap .u64 x0_3)))] []) (fun P12=>some (.ret (.pv P12),[]))) (fun A7 H8=>none))) (
 cond (x0_0==1) (
  cp (ev 291 [(.pv P3),(.pv (I 2)),(.pv (I 30)),(.pv (U (IntKind.wrap .u64 x0_1)))] []) (fun P6=>zq (ev 291 [(.pv P6),(.pv (I 32)),(.pv (I 3)),(.pv (U (IntKind.wrap .u64 x0_4)))] []) (fun A7 H8=>(zf A7).bind fun P9=>cp (ev 291 [(.pv P9),(.pv (I 35)),(.pv (I 29)),(.pv (U (IntKind.wrap .u64 x0_5)))] []) (fun P12=>some (.ret (.pv P12),[]))) (fun A7 H8=>none))) (
  cond (x0_0==2) (
   cond x0_6 (
   cp (ev 291 [(.pv P3),(.pv (I 2)),(.pv (I 1)),(.pv (U 1))] []) (fun P6=>cp (ev 291 [(.pv P6),(.pv (I 3)),(.pv (I 29)),(.pv (U (IntKind.wrap .u64 x0_7)))] []) (fun P9=>cp (ev 291 [(.pv P9),(.pv (I 32)),(.pv (I 32)),(.pv (U (IntKind.wrap .u64 x0_8)))] []) (fun P12=>some (.ret (.pv P12),[]))))) (
   cp (ev 291 [(.pv P3),(.pv (I 3)),(.pv (I 29)),(.pv (U (IntKind.wrap .u64 x0_7)))] []) (fun P6=>cp (ev 291 [(.pv P6),(.pv (I 32)),(.pv (I 32)),(.pv (U (IntKind.wrap .u64 x0_8)))] []) (fun P9=>some (.ret (.pv P9),[]))))) (
   cp (ev 291 [(.pv P3),(.pv (I 2)),(.pv (I 30)),(.pv (U (IntKind.wrap .u64 x0_9)))] []) (fun P6=>cp (ev 291 [(.pv P6),(.pv (I 32)),(.pv (I 32)),(.pv (U (IntKind.wrap .u64 x0_8)))] []) (fun P9=>some (.ret (.pv P9),[]))))))):=zi (fn:=Tryz.f288) _ _
theorem zno (x0:Int):ev 343 [(.pv (U x0))] [] =
 cp (ev 342 [(.pv (U x0)),(.pv (I 2)),(.pv (I 30))] []) (fun P3=>cp (ev 245 [(.pv (U x0)),(.pv (I 32)),(.pv (I 3))] []) (fun P6=>(yB (.pv P6)).bind fun Q7=>cp (ev 245 [(.pv (U x0)),(.pv (I 35)),(.pv (I 29))] []) (fun P10=>(yB (.pv P10)).bind fun Q11=>cond (P3.isCell&&true) (cond ((P3.isCell&&true)&&true) (cond (P3.isCell&&true) (some (.ret (.pv (.agg [(I 0),P3,(I 0),(I 0),(I (IntKind.wrap .i64 Q7.2)),(I (IntKind.wrap .i64 Q11.2)),(Bo false),(I 0),(PV.v (.int .u32 0)),(PV.v (.int .u32 0))])),[])) none) none) none))):=zi (fn:=Tryz.f343) _ _
end Go.Proofs.YtjbjeeoifhegfaaGreatDoor.E
