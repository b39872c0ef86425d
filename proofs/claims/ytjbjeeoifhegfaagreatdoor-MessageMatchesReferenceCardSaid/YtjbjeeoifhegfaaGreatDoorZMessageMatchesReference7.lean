/- A part of the proof of the law MessageMatchesReference, as its statement says it: for every input; its conditions are the statement's own. -/
import Derived.KernelRfl
import Derived.Test.YtjbjeeoifhegfaaGreatDoorZMessageMatchesReference1
import Derived.Test.YtjbjeeoifhegfaaGreatDoorZMessageMatchesReference2
import Derived.Test.YtjbjeeoifhegfaaGreatDoorZMessageMatchesReference3
set_option linter.unusedVariables false
set_option linter.unusedSimpArgs false
namespace Go.Proofs.YtjbjeeoifhegfaaGreatDoor.E
theorem ziR (x0 x1:List PV) (x2_0 x2_1 x2_2:Int):ev 6 [(.pv (.sl 1 x0)),(.pv (.sl 1 x1)),(.pv (.agg [(I x2_0),(I x2_1),(I x2_2)]))] [] =
 cp (ev 33 [] []) (fun P3=>(z7 (.pv P3)).bind fun B4=>cond (!B4) (
 cp (ev 33 [] []) (fun P7=>some (.ret (.pv P7),[]))) (
 cp (ev 15 [(.pv (.sl 1 x0)),(.pv (.agg [(I x2_0),(I x2_1),(I x2_2)]))] []) (fun P7=>(z7 (.pv P7)).bind fun B8=>cond (!B8) (
  cp (ev 33 [] []) (fun P11=>some (.ret (.pv P11),[]))) (
  cp (ev 15 [(.pv (.sl 1 x1)),(.pv (.agg [(I x2_0),(I x2_1),(I x2_2)]))] []) (fun P11=>(z7 (.pv P11)).bind fun B12=>cond (!B12) (
   cp (ev 33 [] []) (fun P15=>some (.ret (.pv P15),[]))) (
   zq (ev 16 [(.pv (.sl 1 x0)),(.pv (.agg [(I x2_0),(I x2_1),(I x2_2)]))] []) (fun A13 H14=>(Zq 0 2 A13).bind fun Q15=>(yx 5 1 Q15.1).bind fun X16=>(Q15.2[1]?).bind fun P17=>cp (ev 34 [(.pv (.sl 1 x0)),(.pv (.agg [(I x2_0),(I x2_1),(I x2_2)]))] []) (fun P20=>tK P20 0 fun P22=>tK P20 1 fun P24=>cp (ev 27 [(.pv (.sl 1 X16)),(.pv P22)] []) (fun P27=>(z7 (.pv P27)).bind fun B28=>cond (!B28) (
    some (.ret (.pv (Bo false)),[])) (
    (za .i64 (.pv P17)).bind fun N29=>(za .i64 (.pv P24)).bind fun N30=>cond (N29 != N30) (
     some (.ret (.pv (Bo false)),[])) (
     zq (ev 35 [(.pv (.sl 1 x0)),(.pv (.agg [(I x2_0),(I x2_1),(I x2_2)]))] []) (fun A31 H32=>(zf A31).bind fun P33=>cp (ev 36 [(.pv (.sl 1 x0)),(.pv (.agg [(I x2_0),(I x2_1),(I x2_2)]))] []) (fun P36=>(z7 (.pv P33)).bind fun B37=>(z7 (.pv P36)).bind fun B38=>cond (B37 != B38) (
      some (.ret (.pv (Bo false)),[])) (
      cp (ev 18 [(.pv (.sl 1 x0)),(.pv (.sl 1 x1)),(.pv (.agg [(I x2_0),(I x2_1),(I x2_2)]))] []) (fun P41=>tK P41 0 fun P43=>tK P41 1 fun P45=>cp (ev 37 [(.pv (.sl 1 x0)),(.pv (.sl 1 x1)),(.pv (.agg [(I x2_0),(I x2_1),(I x2_2)]))] []) (fun P48=>tK P48 0 fun P50=>tK P48 1 fun P52=>(z7 (.pv P43)).bind fun B53=>(z7 (.pv P50)).bind fun B54=>cond (B53 != B54) (
       some (.ret (.pv (Bo false)),[])) (
       (za .i64 (.pv P45)).bind fun N55=>(za .i64 (.pv P52)).bind fun N56=>cond (N55 != N56) (
        some (.ret (.pv (Bo false)),[])) (
        cp (ev 17 [(.pv (.sl 1 x0)),(.pv (.agg [(I x2_0),(I x2_1),(I x2_2)]))] []) (fun P59=>tK P59 0 fun P61=>tK P59 1 fun P63=>cp (ev 38 [(.pv (.sl 1 x0)),(.pv (.agg [(I x2_0),(I x2_1),(I x2_2)]))] []) (fun P66=>tK P66 0 fun P68=>tK P66 1 fun P70=>(za .u64 (.pv P61)).bind fun N71=>(za .u64 (.pv P68)).bind fun N72=>cond (N71 != N72) (
         some (.ret (.pv (Bo false)),[])) (
         (za .i64 (.pv P63)).bind fun N73=>(za .i64 (.pv P70)).bind fun N74=>cond (N73 != N74) (
          some (.ret (.pv (Bo false)),[])) (
          cp (ev 19 [(.pv (.sl 1 x0))] []) (fun P77=>tK P77 0 fun P79=>tK P77 1 fun P81=>cp (ev 39 [(.pv (.sl 1 x0))] []) (fun P84=>tK P84 0 fun P86=>tK P84 1 fun P88=>cp (ev 27 [(.pv P79),(.pv P86)] []) (fun P91=>(z7 (.pv P91)).bind fun B92=>cond B92 (
           (za .i64 (.pv P81)).bind fun N93=>(za .i64 (.pv P88)).bind fun N94=>some (.ret (.pv (Bo (N93==N94))),[])) (
           some (.ret (.pv (Bo false)),[])))))))))))))))) (fun A31 H32=>none)))))) (fun A13 H14=>some (.pan A13,[])))))))):=zi (fn:=Tryz.f6) _ _
theorem zmc (x0:List PV) (x1_0 x1_1 x1_2:Int):ev 16 [(.pv (.sl 1 x0)),(.pv (.agg [(I x1_0),(I x1_1),(I x1_2)]))] [] =
 cp (ev 55 [(.pv (.agg [(I x1_0),(I x1_1),(I x1_2)]))] []) (fun P3=>zq (ev 54 [(.pv (.sl 1 x0)),(.pv P3)] []) (fun A4 H5=>(Zq 0 2 A4).bind fun Q6=>(yx 5 1 Q6.1).bind fun X7=>(Q6.2[1]?).bind fun P8=>cp (ev 56 [(.pv P8)] []) (fun P11=>some (.ret (.tup 0 (.slu 5 1 X7) [(.v .nilIface),P11]),[]))) (fun A4 H5=>some (.pan A4,[]))):=zi (fn:=Tryz.f16) _ _
theorem zmf (x0:List PV):ev 19 [(.pv (.sl 1 x0))] [] =
 cp (ev 57 [(.pv (.sl 1 x0))] []) (fun P3=>tK P3 0 fun P5=>tK P3 1 fun P7=>(xn (.pv P7)).bind fun Z8=>cond (!Z8) (
 cp (ev 56 [(.pv P7)] []) (fun P11=>some (.ret (.pv (.tup [(.sl 1 []),P11])),[]))) (
 cp (ev 61 [(.pv (.sl 1 x0))] []) (fun P11=>tK P11 0 fun P13=>tK P11 1 fun P15=>some (.ret (.pv (.tup [P13,P15])),[])))):=zi (fn:=Tryz.f19) _ _
noncomputable def gZ:Code:=Tryz.f27.body.getD .skip
noncomputable def XP (xs0 xs1:List PV) (i2:Int):Option (Out×ze) :=
 zY (zs env ev zI 26 27 0 (sub gZ [1,1,0,1,0,0])) (zD env 27 0 0) (zG 0 (zT (zH env ev 26 27 0 (sub gZ [1,1,1])) (zX env 27 Tryz.f27.results.toList 0))) ⟨zQ [(0,(.pv (.sl 1 xs0))),(1,(.pv (.sl 1 xs1))),(5,(.pv (I i2)))],[]⟩
theorem QY (xs0 xs1:List PV) (i2:Int):XP xs0 xs1 i2 =
 cond (decide (i2<(xs0.length:Int))) (
 cond (decide (0<=i2)&&decide (i2<(xs0.length:Int))) ((xs0[(i2).toNat]?).bind fun P1=>(P1.cells[0]?).bind fun P2=>cond (decide (0<=i2)&&decide (i2<(xs1.length:Int))) ((xs1[(i2).toNat]?).bind fun P3=>(P3.cells[0]?).bind fun P4=>(za .u8 (.pv P2)).bind fun N5=>(za .u8 (.pv P4)).bind fun N6=>cond (N5 != N6) (
 some (.ret (.pv (Bo false)),[])) (
 XP xs0 xs1 (IntKind.wrap .i64 (i2+1)))) none) none) (
 some (.ret (.pv (Bo true)),[])):=(z4 ..).trans (by kernel_rfl)
theorem qy (x0 x1:List PV):ev 27 [(.pv (.sl 1 x0)),(.pv (.sl 1 x1))] [] =
 cond ((x0.length:Int) != (x1.length:Int)) (
 some (.ret (.pv (Bo false)),[])) (
 XP x0 x1 0):=zi (fn:=Tryz.f27) _ _
theorem zjI (x0:List PV) (x1_0 x1_1 x1_2:Int):ev 34 [(.pv (.sl 1 x0)),(.pv (.agg [(I x1_0),(I x1_1),(I x1_2)]))] [] =
 cp (ev 40 [(.pv (.sl 1 x0)),(.pv (.agg [(I x1_0),(I x1_1),(I x1_2)]))] []) (fun P3=>tK P3 0 fun P5=>tK P3 1 fun P7=>(za .i64 (.pv P7)).bind fun N8=>cond (N8 != 0) (
 some (.ret (.pv (.tup [(.sl 1 []),P7])),[])) (
 cp (ev 75 [(.pv P5),(.pv (.agg [(I x1_0),(I x1_1),(I x1_2)]))] []) (fun P11=>tK P11 0 fun P13=>tK P11 1 fun P15=>cond ((decide (P13.cells.length=1)&&P13.cells.all PV.isCell)&&true) (cp (ev 49 [(.pv (.sl 1 [P13]))] []) (fun P18=>tK P18 0 fun P20=>tK P18 1 fun P22=>some (.ret (.pv (.tup [P20,P22])),[]))) none))):=zi (fn:=Tryz.f34) _ _
theorem zjM (x0:List PV) (x1_0 x1_1 x1_2:Int):ev 36 [(.pv (.sl 1 x0)),(.pv (.agg [(I x1_0),(I x1_1),(I x1_2)]))] [] =
 cp (ev 43 [(.pv (.sl 1 x0))] []) (fun P3=>tK P3 0 fun P5=>tK P3 1 fun P7=>(za .i64 (.pv P7)).bind fun N8=>cond (N8==0) (
 (zE P5).bind fun L9=>cond ((L9.2.length:Int)==1) (
 (zE P5).bind fun L10=>cond ((decide (L10.1=1)&&true)&&decide (0<(L10.2.length:Int))) ((L10.2[0]?).bind fun P11=>(P11.cells[0]?).bind fun P12=>cp (ev 77 [(.pv P12),(.pv (.agg [(I x1_0),(I x1_1),(I x1_2)]))] []) (fun P15=>(z7 (.pv P15)).bind fun B16=>some (.ret (.pv (Bo B16)),[]))) none) (
 some (.ret (.pv (Bo false)),[]))) (
 some (.ret (.pv (Bo false)),[]))):=zi (fn:=Tryz.f36) _ _
theorem zjN (x0:List PV):ev 39 [(.pv (.sl 1 x0))] [] =
 cp (ev 43 [(.pv (.sl 1 x0))] []) (fun P3=>tK P3 0 fun P5=>tK P3 1 fun P7=>(za .i64 (.pv P7)).bind fun N8=>cond (N8 != 0) (
 some (.ret (.pv (.tup [(.sl 1 []),P7])),[])) (
 cp (ev 80 [(.pv (.sl 1 x0))] []) (fun P11=>tK P11 0 fun P13=>tK P11 1 fun P15=>some (.ret (.pv (.tup [P13,P15])),[])))):=zi (fn:=Tryz.f39) _ _
theorem zjB (x0:List PV):ev 42 [(.pv (.sl 1 x0))] [] =
 cp (ev 84 [(.pv (U 14695981039346656037)),(.pv (.sl 1 x0))] []) (fun P3=>some (.ret (.pv P3),[])):=zi (fn:=Tryz.f42) _ _
noncomputable def ra:Code:=Tryz.f43.body.getD .skip
noncomputable def Va (xs0:List PV) (i1:Int) (xs2:List PV) (p3:PV) (i4:Int):Option (Out×ze) :=
 zY (zs env ev zI 81 43 0 (sub ra (o1 7 [0,1,0,0]))) (zD env 43 0 0) (zG 0 (zT (zH env ev 81 43 0 (sub ra (o1 7 [1]))) (zX env 43 Tryz.f43.results.toList 0))) ⟨zQ [(0,(.pv (.sl 1 xs0))),(4,(.pv (I i1))),(5,(.slu 75 1 xs2)),(6,(.pv p3)),(7,(.pv (I i4)))],[]⟩
theorem za0 (xs0:List PV) (i1:Int) (xs2:List PV) (p3:PV) (i4:Int):Va xs0 i1 xs2 p3 i4 =
 cond (decide (i4<=i1)) (
 cp (ev 85 [(.pv (.sl 1 xs0)),(.pv (I i4))] []) (fun P3=>(za .i64 (.pv P3)).bind fun N4=>cond (decide (N4≥536870912)) (
 some (.ret (.pv (.tup [(.sl 1 []),(I 1)])),[])) (
 (za .i64 (.pv P3)).bind fun N5=>(za .i64 (.pv p3)).bind fun N6=>cond (decide ((IntKind.wrap .i64 (N6+(IntKind.wrap .i64 (8*N5))))>(xs0.length:Int))) (
  some (.ret (.pv (.tup [(.sl 1 []),(I 1)])),[])) (
  (za .i64 (.pv P3)).bind fun N7=>(za .i64 (.pv p3)).bind fun N8=>(yB (.pv p3)).bind fun Q9=>cond ((decide (0<=Q9.2)&&decide (Q9.2<=(IntKind.wrap .i64 (N8+(IntKind.wrap .i64 (8*N7))))))&&decide ((IntKind.wrap .i64 (N8+(IntKind.wrap .i64 (8*N7))))<=(xs0.length:Int))) (zq (ev 87 [(.pv (.sl 1 ((xs0.take (IntKind.wrap .i64 (N8+(IntKind.wrap .i64 (8*N7)))).toNat).drop (Q9.2).toNat)))] []) (fun A10 H11=>(Zq 0 2 A10).bind fun Q12=>(yx 30 1 Q12.1).bind fun X13=>(Q12.2[1]?).bind fun P14=>cond (zJ (xs2.length+1) 24) ((za .i64 (.pv P3)).bind fun N15=>(za .i64 (.pv p3)).bind fun N16=>Va xs0 i1 (xs2++[(.sl 1 X13)]) (I (IntKind.wrap .i64 (N16+(IntKind.wrap .i64 (8*N15))))) (IntKind.wrap .i64 (i4+1))) none) (fun A10 H11=>some (.pan A10,[]))) none)))) (
 (za .i64 (.pv p3)).bind fun N1=>cond (N1 != (xs0.length:Int)) (
  some (.ret (.pv (.tup [(.sl 1 []),(I 1)])),[])) (
  some (.ret (.pv (.tup [(.sl 1 xs2),(I 0)])),[]))):=(z4 ..).trans (by kernel_rfl)
theorem zi2 (x0:List PV):ev 43 [(.pv (.sl 1 x0))] [] =
 cond (decide ((x0.length:Int)<4)) (
 some (.ret (.pv (.tup [(.sl 1 []),(I 1)])),[])) (
 cp (ev 85 [(.pv (.sl 1 x0)),(.pv (I 0))] []) (fun P3=>(za .i64 (.pv P3)).bind fun N4=>cond (decide ((IntKind.wrap .i64 (N4+1))>512)) (
  some (.ret (.pv (.tup [(.sl 1 []),(I 1)])),[])) (
  cp (ev 86 [(.pv (I (IntKind.wrap .i64 (N4+1))))] []) (fun P7=>(za .i64 (.pv P7)).bind fun N8=>cond (decide ((x0.length:Int)<N8)) (
   some (.ret (.pv (.tup [(.sl 1 []),(I 1)])),[])) (
   cond ((Int.tmod (IntKind.wrap .i64 (N4+1)) 2)==0) (
    cp (ev 85 [(.pv (.sl 1 x0)),(.pv (I (IntKind.wrap .i64 ((IntKind.wrap .i64 (N4+1))+1))))] []) (fun P11=>(za .i64 (.pv P11)).bind fun N12=>cond (N12 != 0) (
    some (.ret (.pv (.tup [(.sl 1 []),(I 1)])),[])) (
    cp (ev 86 [(.pv (I (IntKind.wrap .i64 (N4+1))))] []) (fun P15=>Va x0 (IntKind.wrap .i64 (N4+1)) [] P15 1)))) (
    cp (ev 86 [(.pv (I (IntKind.wrap .i64 (N4+1))))] []) (fun P11=>Va x0 (IntKind.wrap .i64 (N4+1)) [] P11 1))))))):=zi (fn:=Tryz.f43) _ _
theorem zju (x0_0 x0_1 x0_2:Int) (x0_3 x0_4:List PV):ev 51 [(.pv (.agg [(I x0_0),(I x0_1),(I x0_2),(.sl 1 x0_3),(.sl 5 x0_4)]))] [] =
 cp (ev 100 [(.pv (.sl 1 [(U 0)])),(.pv (I 0)),(.pv (.agg [(I x0_0),(I x0_1),(I x0_2),(.sl 1 x0_3),(.sl 5 x0_4)]))] []) (fun P3=>some (.ret (.pv P3),[])):=zi (fn:=Tryz.f51) _ _
theorem zmg (x0:List PV) (x1_0 x1_1 x1_2:Int):ev 54 [(.pv (.sl 1 x0)),(.pv (.agg [(I x1_0),(I x1_1),(I x1_2)]))] [] =
 cp (ev 57 [(.pv (.sl 1 x0))] []) (fun P3=>tK P3 0 fun P5=>tK P3 1 fun P7=>(xn (.pv P7)).bind fun Z8=>cond (!Z8) (
 some (.ret (.tup 0 (.slu 5 1 []) [(.v .nilIface),P7]),[])) (
 cp (ev 103 [(.pv P5),(.pv (.agg [(I x1_0),(I x1_1),(I x1_2)]))] []) (fun P11=>tK P11 0 fun P13=>tK P11 1 fun P15=>(za .i64 (.pv P15)).bind fun N16=>cond (N16 != 0) (
  cp (ev 104 [(.pv P15)] []) (fun P19=>some (.ret (.tup 0 (.slu 5 1 []) [(.v .nilIface),P19]),[]))) (
  zq (ev 105 [(.pv P13)] []) (fun A17 H18=>(Zq 0 2 A17).bind fun Q19=>(yx 5 1 Q19.1).bind fun X20=>(Q19.2[1]?).bind fun P21=>cp (ev 104 [(.pv P21)] []) (fun P24=>some (.ret (.tup 0 (.slu 5 1 X20) [(.v .nilIface),P24]),[]))) (fun A17 H18=>some (.pan A17,[])))))):=zi (fn:=Tryz.f54) _ _
theorem zml (x0:List PV) (x1_0 x1_1 x1_2:Int):ev 59 [(.pv (.sl 1 x0)),(.pv (.agg [(I x1_0),(I x1_1),(I x1_2)]))] [] =
 cp (ev 57 [(.pv (.sl 1 x0))] []) (fun P3=>tK P3 0 fun P5=>tK P3 1 fun P7=>(xn (.pv P7)).bind fun Z8=>cond Z8 (
 cp (ev 110 [(.pv P5),(.pv (.agg [(I x1_0),(I x1_1),(I x1_2)]))] []) (fun P11=>tK P11 0 fun P13=>tK P11 1 fun P15=>cp (ev 104 [(.pv P15)] []) (fun P18=>some (.ret (.pv (.tup [P5,P18])),[])))) (
 some (.ret (.pv (.tup [P5,P7])),[]))):=zi (fn:=Tryz.f59) _ _
noncomputable def rS:Code:=Tryz.f64.body.getD .skip
noncomputable def JH (xs0 xs1:List PV) (i2 i3:Int):Option (Out×ze) :=
 zY (zs env ev zI 34 64 0 (sub rS [1,1,1,0,1,0,0])) (zD env 64 0 0) (zG 0 (zT (zH env ev 34 64 0 (sub rS [1,1,1,1])) (zX env 64 Tryz.f64.results.toList 0))) ⟨zQ [(0,(.pv (.sl 1 xs0))),(4,(.slu 30 1 xs1)),(18,(.pv (I i2))),(19,(.pv (I i3)))],[]⟩
theorem zfw (xs0 xs1:List PV) (i2 i3:Int):JH xs0 xs1 i2 i3 =
 cond (decide (i3<i2)) (
 cp (ev 116 [(.pv (.sl 1 xs0)),(.pv (I i3))] []) (fun P3=>tK P3 0 fun P5=>tK P3 1 fun P7=>cond ((decide (P5.cells.length=1)&&P5.cells.all PV.isCell)&&true) (cond (zJ (xs1.length+1) 8) (JH xs0 (xs1++[P5]) i2 (IntKind.wrap .i64 (i3+1))) none) none)) (
 some (.ret (.pv (.tup [(.sl 1 xs1),(Bo true)])),[])):=(z4 ..).trans (by kernel_rfl)
theorem zqa (x0:List PV):ev 64 [(.pv (.sl 1 x0))] [] =
 cond ((Int.tmod (x0.length:Int) 8) != 0) (
 some (.ret (.pv (.tup [(.sl 1 []),(Bo false)])),[])) (
 cond ((decide (0<=(IntKind.wrap .i64 (Int.tdiv (x0.length:Int) 8)))&&decide ((IntKind.wrap .i64 (Int.tdiv (x0.length:Int) 8))<=140737488355328))&&zJ (IntKind.wrap .i64 (Int.tdiv (x0.length:Int) 8)).toNat 8) (JH x0 [] (IntKind.wrap .i64 (Int.tdiv (x0.length:Int) 8)) 0) none):=zi (fn:=Tryz.f64) _ _
theorem zjr (x0_0 x0_1 x0_2:Int) (x0_3 x0_4:List PV):ev 73 [(.pv (.agg [(I x0_0),(I x0_1),(I x0_2),(.sl 1 x0_3),(.sl 5 x0_4)]))] [] =
 cond (x0_0==0) (
 some (.ret (.pv (I 0)),[])) (
 cond (x0_0==1) (
  some (.ret (.pv (I (IntKind.wrap .i64 ((IntKind.wrap .i64 (Int.tdiv (x0_3.length:Int) 8))+(x0_4.length:Int))))),[])) (
  cond (x0_1==7) (
   cp (ev 127 [(.pv (.agg [(I x0_0),(I x0_1),(I x0_2),(.sl 1 x0_3),(.sl 5 x0_4)]))] []) (fun P3=>tK P3 0 fun P5=>tK P3 1 fun P7=>(za .i64 (.pv P5)).bind fun N8=>(za .i64 (.pv P7)).bind fun N9=>some (.ret (.pv (I (IntKind.wrap .i64 (1+(IntKind.wrap .i64 (x0_2*(IntKind.wrap .i64 (N8+N9)))))))),[]))) (
   cp (ev 128 [(.pv (I x0_1)),(.pv (I x0_2))] []) (fun P3=>some (.ret (.pv P3),[]))))):=zi (fn:=Tryz.f73) _ _
noncomputable def gU:Code:=Tryz.f76.body.getD .skip
noncomputable def zfK:Code:=Tryz.f129.body.getD .skip
theorem qv (x0:List PV) (x1_0 x1_1 x1_2:Int):ev 76 [(.pv (.sl 1 x0)),(.pv (.agg [(I x1_0),(I x1_1),(I x1_2)]))] [] =
 zq (ev 130 [(.pv (Bo (decide ((x0.length:Int)>0))))] []) (fun A1 H2=>(zf A1).bind fun P3=>zq (ev 131 [(.pv (.agg [(I x1_0),(I x1_1),(I x1_2)]))] []) (fun A4 H5=>(zf A4).bind fun P6=>cond (decide (P6.cells.length=1)) ((P6.cells[0]?).bind fun P7=>cond ((P7.isCell&&true)&&true) (cond (P7.isCell&&true) (zq (ev 132 [(.ptr 0 0),(.pv (I 0)),(.pv (I 1))] [[(.pv (.sl 1 x0)),(.pv (I 1)),(.pv (I x1_0)),(.pv (I x1_1)),(.pv (I x1_2)),(.pv P7)]]) (fun A8 H9=>(H9[0]?).bind fun C10=>(C10[0]?).bind fun E11=>(zf E11).bind fun P12=>(C10[1]?).bind fun E13=>(zf E13).bind fun P14=>(C10[2]?).bind fun E15=>(zf E15).bind fun P16=>(C10[3]?).bind fun E17=>(zf E17).bind fun P18=>(C10[4]?).bind fun E19=>(zf E19).bind fun P20=>(C10[5]?).bind fun E21=>(zf E21).bind fun P22=>cond (decide (C10.length=6)) (cond (decide (H9.length=1)) ((zf A8).bind fun P23=>(za .i64 (.pv P14)).bind fun N24=>some (.ret (.pv (Bo (N24==(x0.length:Int)))),[])) none) none) (fun A8 H9=>(H9[0]?).bind fun C10=>(C10[0]?).bind fun E11=>(zf E11).bind fun P12=>(C10[1]?).bind fun E13=>(zf E13).bind fun P14=>(C10[2]?).bind fun E15=>(zf E15).bind fun P16=>(C10[3]?).bind fun E17=>(zf E17).bind fun P18=>(C10[4]?).bind fun E19=>(zf E19).bind fun P20=>(C10[5]?).bind fun E21=>(zf E21).bind fun P22=>cond (decide (C10.length=6)) (cond (decide (H9.length=1)) ((xn (.pv A8)).bind fun Z23=>cond (!Z23) (
  (we (.pv A8)).bind fun Q24=>cond (decide (Q24.1=174)) (cond (decide (Q24.2.cells.length=0)) (some (.ret (.pv (Bo false)),[])) none) none) (
  some (.ret (.pv (Bo false)),[]))) none) none)) none) none) none) (fun A4 H5=>none)) (fun A1 H2=>(xn (.pv A1)).bind fun Z3=>cond (!Z3) (
  (we (.pv A1)).bind fun Q4=>cond (decide (Q4.1=174)) (cond (decide (Q4.2.cells.length=0)) (some (.ret (.pv (Bo false)),[])) none) none) (
  some (.ret (.pv (Bo false)),[]))):=(ub (f:=76) (g:=129) (fn:=Tryz.f76) (gn:=Tryz.f129) (d:=⟨sub gU [0],sub gU [1,1],sub zfK [1],[4],1,6⟩) (by kernel_rfl) (by kernel_rfl) (by kernel_rfl) (by kernel_rfl) (by kernel_rfl) _ _).trans (by kernel_rfl)
noncomputable def rt:Code:=Tryz.f88.body.getD .skip
noncomputable def Vo (p0:PV) (i1 i2 i3:Int):Option (Out×ze) :=
 zY (zs env ev zI 26 88 0 (sub rt [1,1,1,1,0,1,0,0])) (zD env 88 0 0) (zG 0 (zT (zH env ev 26 88 0 (sub rt [1,1,1,1,1])) (zX env 88 Tryz.f88.results.toList 0))) ⟨zQ [(3,(.pv p0)),(4,(.pv (I i1))),(5,(.pv (I i2))),(6,(.pv (I i3)))],[]⟩
theorem zbq (p0:PV) (i1 i2 i3:Int):Vo p0 i1 i2 i3 =
 cond (decide (i3<8)) (
 (zE p0).bind fun L1=>cond ((decide (L1.1=1)&&decide (0<=i3))&&decide (i3<(L1.2.length:Int))) ((L1.2[(i3).toNat]?).bind fun P2=>(P2.cells[0]?).bind fun P3=>(za .u8 (.pv P3)).bind fun N4=>cond (N4 != 0) (
 Vo p0 (IntKind.wrap .i64 (i1+i2)) (IntKind.wrap .i64 (i2*2)) (IntKind.wrap .i64 (i3+1))) (
 Vo p0 i1 (IntKind.wrap .i64 (i2*2)) (IntKind.wrap .i64 (i3+1)))) none) (
 some (.ret (.pv (U8 (IntKind.wrap .u8 i1))),[])):=(z4 ..).trans (by kernel_rfl)
theorem zjF (x0:Int):ev 88 [(.pv (U x0))] [] =
 cp (ev 91 [(.pv (.sl 1 [(U x0)]))] []) (fun P3=>Vo P3 0 1 0):=zi (fn:=Tryz.f88) _ _
theorem ziB (x0:List PV) (x1_0 x1_1 x1_2:Int):ev 103 [(.pv (.sl 1 x0)),(.pv (.agg [(I x1_0),(I x1_1),(I x1_2)]))] [] =
 cp (ev 163 [(.pv (.sl 1 x0)),(.pv (.agg [(I x1_0),(I x1_1),(I x1_2)])),(.pv (.v (.func (.func 164) #[] #[])))] []) (fun P3=>tK P3 0 fun P5=>tK P3 1 fun P7=>some (.ret (.pv (.tup [P5,P7])),[])):=zi (fn:=Tryz.f103) _ _
theorem zlz (x0:List PV) (x1_0 x1_1 x1_2:Int):ev 108 [(.pv (.sl 1 x0)),(.pv (.agg [(I x1_0),(I x1_1),(I x1_2)])),(.pv (.v (.func (.func 109) #[] #[])))] [] =
 cp (ev 176 [(.pv (.sl 1 x0)),(.pv (.agg [(I x1_0),(I x1_1),(I x1_2)]))] []) (fun P3=>tK P3 0 fun P5=>tK P3 1 fun P7=>xJ P5 (fun P8 P9 P10 P11 P12=>(za .i64 (.pv P7)).bind fun N13=>cond (N13==0) (
 cp (ev 109 [(.pv (.agg [P8,P9,P10,P11,P12]))] []) (fun P16=>some (.ret (.pv (.tup [P16,P7])),[]))) (
 some (.ret (.pv (.tup [(U 0),P7])),[])))):=zi (fn:=Tryz.f108) _ _
theorem zks (x0:List PV) (x1_0 x1_1 x1_2:Int):ev 110 [(.pv (.sl 1 x0)),(.pv (.agg [(I x1_0),(I x1_1),(I x1_2)]))] [] =
 cp (ev 178 [(.pv (.sl 1 x0)),(.pv (.agg [(I x1_0),(I x1_1),(I x1_2)]))] []) (fun P3=>tK P3 0 fun P5=>tK P3 1 fun P7=>tK P3 2 fun P9=>xJ P5 (fun P10 P11 P12 P13 P14=>Zc P7 (fun P15=>(za .i64 (.pv P9)).bind fun N16=>cond (N16 != 0) (
 some (.ret (.pv (.tup [(I 0),P9])),[])) (
 cp (ev 179 [(.pv (.agg [(I x1_0),(I x1_1),(I x1_2)])),(.pv (.agg [P15]))] []) (fun P19=>some (.ret (.pv (.tup [P19,(I 0)])),[])))))):=zi (fn:=Tryz.f110) _ _
theorem zkX (x0:List PV):ev 112 [(.pv (.sl 1 x0))] [] =
 cond (decide (0<(x0.length:Int))) ((x0[0]?).bind fun P1=>(P1.cells[0]?).bind fun P2=>(zE P2).bind fun L3=>cond ((L3.2.length:Int)==0) (
 some (.ret (.pv (.agg [(I 0),(I 0),(I 0),(I 0),(I 0),(I 0),(I 0),(I 0)])),[])) (
 cp (ev 184 [(.pv (.sl 1 x0)),(.pv (I 0)),(.pv (I 0))] []) (fun P6=>tK P6 0 fun P8=>tK P6 1 fun P10=>wE P8 (fun P11 P12 P13 P14 P15 P16 P17 P18=>cond (P11.isCell&&(P12.isCell&&(P13.isCell&&(P14.isCell&&(P15.isCell&&(P16.isCell&&(P17.isCell&&(P18.isCell&&true)))))))) (some (.ret (.pv (.agg [P11,P12,P13,P14,P15,P16,P17,P18])),[])) none)))) none:=zi (fn:=Tryz.f112) _ _
theorem zpf (x0:Int):ev 114 [(.pv (U x0))] [] =
 cp (ev 115 [(.pv (U x0))] []) (fun P3=>cp (ev 188 [(.pv P3)] []) (fun P6=>(za .i64 (.pv P6)).bind fun N7=>some (.ret (.pv (Bo (decide (N7≥7)))),[]))):=zi (fn:=Tryz.f114) _ _
noncomputable def rM:Code:=Tryz.f115.body.getD .skip
noncomputable def V9 (i0:Int) (p1:PV) (i2 i3:Int):Option (Out×ze) :=
 zY (zs env ev zI 24 115 0 (sub rM [1,1,0,1,0,0])) (zD env 115 0 0) (zG 0 (zT (zH env ev 24 115 0 (sub rM [1,1,1])) (zX env 115 Tryz.f115.results.toList 0))) ⟨zQ [(3,(.pv (U8 i0))),(8,(.pv p1)),(9,(.pv (I i2))),(10,(.pv (I i3)))],[]⟩
theorem zeT (i0:Int) (p1:PV) (i2 i3:Int):V9 i0 p1 i2 i3 =
 cond (decide (i3<i2)) (
 (zE p1).bind fun L1=>cond ((decide (L1.1=1)&&decide (0<=i3))&&decide (i3<(L1.2.length:Int))) ((L1.2[(i3).toNat]?).bind fun P2=>(P2.cells[0]?).bind fun P3=>(za .u8 (.pv P3)).bind fun N4=>cond (N4 != 0) (
 cond (yS .shl (IntKind.wrap .u64 i3)) (V9 (IntKind.wrap .u8 (BitVec.ofInt 8 i0 ||| BitVec.ofInt 8 (IntKind.wrap .u8 (1*2^(min (IntKind.wrap .u64 i3).toNat 8)))).toNat) p1 i2 (IntKind.wrap .i64 (i3+1))) none) (
 V9 i0 p1 i2 (IntKind.wrap .i64 (i3+1)))) none) (
 some (.ret (.pv (U8 i0)),[])):=(z4 ..).trans (by kernel_rfl)
theorem zpg (x0:Int):ev 115 [(.pv (U x0))] [] =
 cp (ev 117 [(.pv (.sl 1 [(U x0)]))] []) (fun P3=>(zE P3).bind fun L4=>V9 0 P3 (L4.2.length:Int) 0):=zi (fn:=Tryz.f115) _ _
noncomputable def YA:Code:=Tryz.f124.body.getD .skip
noncomputable def YH (i0 i1:Int) (xs2 xs3:List PV) (i4:Int):Option (Out×ze) :=
 zY (zs env ev zI 54 124 0 (sub YA [1,1,0,1,0,0])) (zD env 124 0 0) (zG 0 (zT (zH env ev 54 124 0 (sub YA [1,1,1])) (zX env 124 Tryz.f124.results.toList 0))) ⟨zQ [(0,(.pv (I i0))),(1,(.pv (I i1))),(2,(.pv (.sl 1 xs2))),(7,(.slu 5 1 xs3)),(8,(.pv (I i4)))],[]⟩
noncomputable def Ka (i0 i1:Int) (xs2 xs3:List PV) (i4:Int) (p5:PV) (i6 i7 i8:Int):Option (Out×ze) :=
 zY (zs env ev zI 54 124 2 (sub YA [1,1,0,1,0,0,1,0,0,1,0,1,0,1,1,0,1,0,0])) (zD env 124 2 0) (zG 2 (zT (zH env ev 54 124 1 (sub YA [1,1,0,1,0,0,1,0,0,1,0,1,0,1,1,1])) (zT (zH env ev 54 124 1 (sub YA [1,1,0,1,0,0,1,0,0,1,1])) (zG 1 (zT (zH env ev 54 124 0 (sub YA [1,1,0,1,0,0,1,1])) (ZM (zs env ev zI 54 124 0 (sub YA [1,1,0,1,0,0])) (zD env 124 0 0) (zG 0 (zT (zH env ev 54 124 0 (sub YA [1,1,1])) (zX env 124 Tryz.f124.results.toList 0))))))))) ⟨zQ [(0,(.pv (I i0))),(1,(.pv (I i1))),(2,(.pv (.sl 1 xs2))),(7,(.slu 5 1 xs3)),(8,(.pv (I i4))),(9,(.pv p5)),(10,(.pv (I i6))),(11,(.pv (I i7))),(12,(.pv (I i8)))],[]⟩
theorem qC (i0 i1:Int) (xs2 xs3:List PV) (i4:Int):YH i0 i1 xs2 xs3 i4 =
 cp (ev 123 [(.pv (I i0)),(.pv (I i1))] []) (fun P3=>(za .i64 (.pv P3)).bind fun N4=>cond (decide (i4<N4)) (
 cond (decide (0<=i4)&&decide (i4<(xs2.length:Int))) ((xs2[(i4).toNat]?).bind fun P5=>(P5.cells[0]?).bind fun P6=>cond (i0==1) (
 cond (decide ((IntKind.wrap .i64 ((IntKind.wrap .i64 (8*i4))+8))>i1)) (
 Ka i0 i1 xs2 xs3 i4 P6 (IntKind.wrap .i64 (i1-(IntKind.wrap .i64 (8*i4)))) 1 0) (
 cond ((decide (P6.cells.length=1)&&P6.cells.all PV.isCell)&&true) (cond (zJ (xs3.length+1) 1) (YH i0 i1 xs2 (xs3++[P6]) (IntKind.wrap .i64 (i4+1))) none) none)) (
 cond ((decide (P6.cells.length=1)&&P6.cells.all PV.isCell)&&true) (cond (zJ (xs3.length+1) 1) (YH i0 i1 xs2 (xs3++[P6]) (IntKind.wrap .i64 (i4+1))) none) none)) none) (
 some (.ret (.pv (.sl 1 xs3)),[]))):=(z4 ..).trans (by kernel_rfl)
theorem za5 (i0 i1:Int) (xs2 xs3:List PV) (i4:Int) (p5:PV) (i6 i7 i8:Int):Ka i0 i1 xs2 xs3 i4 p5 i6 i7 i8 =
 cond (decide (i8<i6)) (
 Ka i0 i1 xs2 xs3 i4 p5 i6 (IntKind.wrap .i64 (i7*2)) (IntKind.wrap .i64 (i8+1))) (
 (yB (.pv p5)).bind fun Q1=>cond (yS .rem i7) (cond (zJ (xs3.length+1) 1) (YH i0 i1 xs2 (xs3++[(U8 (IntKind.wrap .u8 (Int.tmod (IntKind.wrap .i64 Q1.2) i7)))]) (IntKind.wrap .i64 (i4+1))) none) none):=(z4 ..).trans (by kernel_rfl)
theorem zjc (x0 x1:Int) (x2:List PV):ev 124 [(.pv (I x0)),(.pv (I x1)),(.pv (.sl 1 x2))] [] =
 YH x0 x1 x2 [] 0:=zi (fn:=Tryz.f124) _ _
theorem zji (x0:List PV) (x1 x2:Int):ev 137 [(.pv (.sl 1 x0)),(.pv (I x1)),(.pv (I x2))] [] =
 cp (ev 136 [(.pv (.sl 1 x0)),(.pv (I x1)),(.pv (I x2))] []) (fun P3=>tK P3 0 fun P5=>tK P3 1 fun P7=>tK P3 2 fun P9=>tK P3 3 fun P11=>(za .i64 (.pv P11)).bind fun N12=>cond (N12 != 0) (
 some (.ret (.pv (.tup [(.agg [(I 0),(I 0),(I 0),(I 0),(I 0),(I 0),(I 0),(I 0)]),P11])),[])) (
 (za .u64 (.pv P5)).bind fun N13=>cond (N13==0) (
  some (.ret (.pv (.tup [(.agg [(I 0),(I 0),(I 0),(I 0),(I 0),(I 0),(I 0),(I 0)]),P11])),[])) (
  cp (ev 195 [(.pv P5)] []) (fun P16=>wk P16 (fun P17 P18 P19 P20 P21 P22 P23 P24 P25 P26=>(za .i64 (.pv P17)).bind fun N27=>cond (N27==3) (
   (za .u32 (.pv P26)).bind fun N28=>cond (N28==0) (
   some (.ret (.pv (.tup [(.agg [(I 0),(I 0),(I 0),(I 0),(I 0),(I 0),(I 0),(I 0)]),(I 6)])),[])) (
   some (.ret (.pv (.tup [(.agg [(I 0),(I 0),(I 0),(I 0),(I 0),(I 0),(I 0),(I 0)]),(I 4)])),[]))) (
   (za .i64 (.pv P9)).bind fun N28=>(za .i64 (.pv P18)).bind fun N29=>cond (P7.isCell&&true) (cond (P7.isCell&&true) ((za .i64 (.pv P17)).bind fun N30=>cond (N30==0) (
    cond (P19.isCell&&true) (cond (P19.isCell&&true) (cond (P20.isCell&&true) (cond (P20.isCell&&true) ((za .i64 (.pv P19)).bind fun N31=>(za .i64 (.pv P20)).bind fun N32=>cp (ev 200 [(.pv (.sl 1 x0)),(.pv P7),(.pv (I (IntKind.wrap .i64 (N28+N29)))),(.pv (I (IntKind.wrap .i64 (N31+N32))))] []) (fun P35=>(z7 (.pv P35)).bind fun B36=>cond (!B36) (
    some (.ret (.pv (.tup [(.agg [(I 0),(I 0),(I 0),(I 0),(I 0),(I 0),(I 0),(I 0)]),(I 2)])),[])) (
    cond (P7.isCell&&(P19.isCell&&(P20.isCell&&true))) (some (.ret (.pv (.tup [(.agg [(I 1),P7,(I (IntKind.wrap .i64 (N28+N29))),P19,P20,(I 0),(I 0),(I (IntKind.wrap .i64 (N31+N32)))]),(I 0)])),[])) none))) none) none) none) none) (
    cond (P21.isCell&&true) (cond (P21.isCell&&true) (cond (P22.isCell&&true) (cond (P22.isCell&&true) (cp (ev 128 [(.pv P21),(.pv P22)] []) (fun P33=>cond (P33.isCell&&true) (cond (P33.isCell&&true) (cp (ev 200 [(.pv (.sl 1 x0)),(.pv P7),(.pv (I (IntKind.wrap .i64 (N28+N29)))),(.pv P33)] []) (fun P36=>(z7 (.pv P36)).bind fun B37=>cond (!B37) (
     some (.ret (.pv (.tup [(.agg [(I 0),(I 0),(I 0),(I 0),(I 0),(I 0),(I 0),(I 0)]),(I 2)])),[])) (
     (za .i64 (.pv P21)).bind fun N38=>cond (N38 != 7) (
      cond (P7.isCell&&(P21.isCell&&(P22.isCell&&(P33.isCell&&true)))) (some (.ret (.pv (.tup [(.agg [(I 2),P7,(I (IntKind.wrap .i64 (N28+N29))),(I 0),(I 0),P21,P22,P33]),(I 0)])),[])) none) (
      cp (ev 197 [(.pv (.sl 1 x0)),(.pv P7),(.pv (I (IntKind.wrap .i64 (N28+N29))))] []) (fun P41=>tK P41 0 fun P43=>tK P41 1 fun P45=>cp (ev 195 [(.pv P43)] []) (fun P48=>wk P48 (fun P49 P50 P51 P52 P53 P54 P55 P56 P57 P58=>(za .i64 (.pv P49)).bind fun N59=>cond (N59 != 0) (
       some (.ret (.pv (.tup [(.agg [(I 0),(I 0),(I 0),(I 0),(I 0),(I 0),(I 0),(I 0)]),(I 5)])),[])) (
       (za .i64 (.pv P50)).bind fun N60=>cond (decide (N60<0)) (
        some (.ret (.pv (.tup [(.agg [(I 0),(I 0),(I 0),(I 0),(I 0),(I 0),(I 0),(I 0)]),(I 5)])),[])) (
        (za .i64 (.pv P51)).bind fun N61=>(za .i64 (.pv P52)).bind fun N62=>(za .i64 (.pv P50)).bind fun N63=>(za .i64 (.pv P22)).bind fun N64=>cond (decide ((IntKind.wrap .i64 (N63*(IntKind.wrap .i64 (N61+N62))))>N64)) (
         some (.ret (.pv (.tup [(.agg [(I 0),(I 0),(I 0),(I 0),(I 0),(I 0),(I 0),(I 0)]),(I 5)])),[])) (
         cond (P50.isCell&&true) (cond (P50.isCell&&true) (cond (P51.isCell&&true) (cond (P51.isCell&&true) (cond (P52.isCell&&true) (cond (P52.isCell&&true) ((za .i64 (.pv P51)).bind fun N65=>(za .i64 (.pv P52)).bind fun N66=>cond ((IntKind.wrap .i64 (N65+N66))==0) (
          (za .i64 (.pv P33)).bind fun N67=>(za .i64 (.pv P50)).bind fun N68=>cond (P7.isCell&&(P51.isCell&&(P52.isCell&&(P21.isCell&&(P50.isCell&&true))))) (some (.ret (.pv (.tup [(.agg [(I 2),P7,(I (IntKind.wrap .i64 ((IntKind.wrap .i64 (N28+N29))+1))),P51,P52,P21,P50,(I (IntKind.wrap .i64 (N67+N68)))]),(I 0)])),[])) none) (
          cond (P7.isCell&&(P51.isCell&&(P52.isCell&&(P21.isCell&&(P50.isCell&&(P33.isCell&&true)))))) (some (.ret (.pv (.tup [(.agg [(I 2),P7,(I (IntKind.wrap .i64 ((IntKind.wrap .i64 (N28+N29))+1))),P51,P52,P21,P50,P33]),(I 0)])),[])) none)) none) none) none) none) none) none)))))))))) none) none)) none) none) none) none)) none) none)))))):=zi (fn:=Tryz.f137) _ _
theorem zkT (x0_0 x0_1:List PV) (x1_0 x1_1 x1_2 x1_3 x1_4 x1_5 x1_6 x1_7 x2_0 x2_1 x2_2 x2_3 x2_4 x2_5 x2_6 x2_7:Int):ev 180 [(.pv (.agg [(.sl 1 x0_0),(.sl 1 x0_1)])),(.pv (.agg [(I x1_0),(I x1_1),(I x1_2),(I x1_3),(I x1_4),(I x1_5),(I x1_6),(I x1_7)])),(.pv (.agg [(I x2_0),(I x2_1),(I x2_2),(I x2_3),(I x2_4),(I x2_5),(I x2_6),(I x2_7)]))] [] =
 cp (ev 236 [(.pv (.sl 1 x0_0)),(.pv (.agg [(I x1_0),(I x1_1),(I x1_2),(I x1_3),(I x1_4),(I x1_5),(I x1_6),(I x1_7)])),(.pv (I x1_7))] []) (fun P3=>cp (ev 117 [(.pv P3)] []) (fun P6=>zq (ev 235 [(.pv (I x1_5)),(.pv (I x1_6)),(.pv P6)] []) (fun A7 H8=>(yx 5 1 A7).bind fun X9=>cp (ev 236 [(.pv (.sl 1 x0_1)),(.pv (.agg [(I x2_0),(I x2_1),(I x2_2),(I x2_3),(I x2_4),(I x2_5),(I x2_6),(I x2_7)])),(.pv (I x2_7))] []) (fun P12=>cp (ev 117 [(.pv P12)] []) (fun P15=>zq (ev 235 [(.pv (I x2_5)),(.pv (I x2_6)),(.pv P15)] []) (fun A16 H17=>(yx 5 1 A16).bind fun X18=>cp (ev 212 [(.pv (.sl 1 X9)),(.pv (.sl 1 X18))] []) (fun P21=>some (.ret (.pv P21),[]))) (fun A16 H17=>some (.pan A16,[]))))) (fun A7 H8=>some (.pan A7,[])))):=zi (fn:=Tryz.f180) _ _
noncomputable def rD:Code:=Tryz.f183.body.getD .skip
noncomputable def KA (i0 i1:Int) (xs2 xs3:List PV) (i4 i5 i6 i7 i8 i9 i10 i11 i12 i13 i14 i15 i16 i17 i18 i19:Int):Option (Out×ze) :=
 zY (zs env ev zI 28 183 0 (sub rD [1,0,1,0,0])) (zD env 183 0 3) (zG 0 (zT (zH env ev 28 183 0 (sub rD [1,1])) (zX env 183 Tryz.f183.results.toList 0))) ⟨zQ [(4,(.ptr 0 0)),(5,(.ptr 1 0)),(6,(.ptr 2 0)),(10,(.pv (I i0))),(11,(.pv (I i1)))],[[(.pv (.sl 1 xs2)),(.pv (.sl 1 xs3))],[(.pv (I i4)),(.pv (I i5)),(.pv (I i6)),(.pv (I i7)),(.pv (I i8)),(.pv (I i9)),(.pv (I i10)),(.pv (I i11))],[(.pv (I i12)),(.pv (I i13)),(.pv (I i14)),(.pv (I i15)),(.pv (I i16)),(.pv (I i17)),(.pv (I i18)),(.pv (I i19))]]⟩
theorem zb3 (i0 i1:Int) (xs2 xs3:List PV) (i4 i5 i6 i7 i8 i9 i10 i11 i12 i13 i14 i15 i16 i17 i18 i19:Int):KA i0 i1 xs2 xs3 i4 i5 i6 i7 i8 i9 i10 i11 i12 i13 i14 i15 i16 i17 i18 i19 =
 cond (decide (i1<i0)) (
 zq (ev 239 [(.pv (.sl 1 xs2)),(.pv (.agg [(I i4),(I i5),(I i6),(I i7),(I i8),(I i9),(I i10),(I i11)])),(.pv (I i1))] []) (fun A1 H2=>(zf A1).bind fun P3=>cp (ev 239 [(.pv (.sl 1 xs3)),(.pv (.agg [(I i12),(I i13),(I i14),(I i15),(I i16),(I i17),(I i18),(I i19)])),(.pv (I i1))] []) (fun P6=>cp (ev 111 [(.pv (.agg [(.sl 1 xs2),(.sl 1 xs3)])),(.pv P3),(.pv P6)] []) (fun P9=>(z7 (.pv P9)).bind fun B10=>cond (!B10) (
 some (.ret (.pv (Bo false)),[])) (
 KA i0 (IntKind.wrap .i64 (i1+1)) xs2 xs3 i4 i5 i6 i7 i8 i9 i10 i11 i12 i13 i14 i15 i16 i17 i18 i19)))) (fun A1 H2=>none)) (
 some (.ret (.pv (Bo true)),[])):=(z4 ..).trans (by kernel_rfl)
theorem zkU (x0_0 x0_1:List PV) (x1_0 x1_1 x1_2 x1_3 x1_4 x1_5 x1_6 x1_7 x2_0 x2_1 x2_2 x2_3 x2_4 x2_5 x2_6 x2_7 x3:Int):ev 183 [(.pv (.agg [(.sl 1 x0_0),(.sl 1 x0_1)])),(.pv (.agg [(I x1_0),(I x1_1),(I x1_2),(I x1_3),(I x1_4),(I x1_5),(I x1_6),(I x1_7)])),(.pv (.agg [(I x2_0),(I x2_1),(I x2_2),(I x2_3),(I x2_4),(I x2_5),(I x2_6),(I x2_7)])),(.pv (I x3))] [] =
 KA x3 0 x0_0 x0_1 x1_0 x1_1 x1_2 x1_3 x1_4 x1_5 x1_6 x1_7 x2_0 x2_1 x2_2 x2_3 x2_4 x2_5 x2_6 x2_7:=zi (fn:=Tryz.f183) _ _
noncomputable def Qp:Code:=Tryz.f186.body.getD .skip
noncomputable def KW (xs0:List PV) (i1:Int):Option (Out×ze) :=
 zY (zs env ev zI 25 186 0 (sub Qp [1,1,0,0,0])) (zD env 186 0 0) (zG 0 (zT (zH env ev 25 186 0 (sub Qp [1,1,1])) (zX env 186 Tryz.f186.results.toList 0))) ⟨zQ [(0,(.pv (.sl 1 xs0))),(1,(.pv (.v (.func (.func 187) #[] #[])))),(5,(.pv (I i1)))],[]⟩
theorem zdA (xs0:List PV) (i1:Int):KW xs0 i1 =
 cond (decide (i1<(xs0.length:Int))) (
 cond (decide (i1<255)) (
 cond (decide (0<=i1)&&decide (i1<(xs0.length:Int))) ((xs0[(i1).toNat]?).bind fun P1=>(P1.cells[0]?).bind fun P2=>cp (ev 187 [(.pv P2)] []) (fun P5=>(z7 (.pv P5)).bind fun B6=>cond B6 (
 KW xs0 (IntKind.wrap .i64 (i1+1))) (
 some (.ret (.pv (I i1)),[])))) none) (
 some (.ret (.pv (I i1)),[]))) (
 some (.ret (.pv (I i1)),[])):=(z4 ..).trans (by kernel_rfl)
theorem zmZ (x0:List PV):ev 186 [(.pv (.sl 1 x0)),(.pv (.v (.func (.func 187) #[] #[])))] [] =
 KW x0 0:=zi (fn:=Tryz.f186) _ _
noncomputable def KX (xs0:List PV) (i1:Int):Option (Out×ze) :=
 zY (zs env ev zI 25 186 0 (sub Qp [1,1,0,0,0])) (zD env 186 0 0) (zG 0 (zT (zH env ev 25 186 0 (sub Qp [1,1,1])) (zX env 186 Tryz.f186.results.toList 0))) ⟨zQ [(0,(.pv (.sl 1 xs0))),(1,(.pv (.v (.func (.func 114) #[] #[])))),(5,(.pv (I i1)))],[]⟩
theorem zdB (xs0:List PV) (i1:Int):KX xs0 i1 =
 cond (decide (i1<(xs0.length:Int))) (
 cond (decide (i1<255)) (
 cond (decide (0<=i1)&&decide (i1<(xs0.length:Int))) ((xs0[(i1).toNat]?).bind fun P1=>(P1.cells[0]?).bind fun P2=>cp (ev 114 [(.pv P2)] []) (fun P5=>(z7 (.pv P5)).bind fun B6=>cond B6 (
 KX xs0 (IntKind.wrap .i64 (i1+1))) (
 some (.ret (.pv (I i1)),[])))) none) (
 some (.ret (.pv (I i1)),[]))) (
 some (.ret (.pv (I i1)),[])):=(z4 ..).trans (by kernel_rfl)
theorem zm0 (x0:List PV):ev 186 [(.pv (.sl 1 x0)),(.pv (.v (.func (.func 114) #[] #[])))] [] =
 KX x0 0:=zi (fn:=Tryz.f186) _ _
theorem ziZ (x0:Int):ev 195 [(.pv (U x0))] [] =
 cond ((IntKind.wrap .i64 (Int.tmod x0 4))==0) (
 cp (ev 250 [(.pv (U x0)),(.pv (I 2)),(.pv (I 30))] []) (fun P3=>cond (P3.isCell&&true) (cond (P3.isCell&&true) (cp (ev 251 [(.pv (U x0)),(.pv (I 32)),(.pv (I 16))] []) (fun P6=>(yB (.pv P6)).bind fun Q7=>cp (ev 251 [(.pv (U x0)),(.pv (I 48)),(.pv (I 16))] []) (fun P10=>(yB (.pv P10)).bind fun Q11=>cond (P3.isCell&&true) (some (.ret (.pv (.agg [(I (IntKind.wrap .i64 (Int.tmod x0 4))),P3,(I (IntKind.wrap .i64 Q7.2)),(I (IntKind.wrap .i64 Q11.2)),(I 0),(I 0),(Bo false),(I 0),(PV.v (.int .u32 0)),(PV.v (.int .u32 0))])),[])) none))) none) none)) (
 cond ((IntKind.wrap .i64 (Int.tmod x0 4))==1) (
  cp (ev 250 [(.pv (U x0)),(.pv (I 2)),(.pv (I 30))] []) (fun P3=>cond (P3.isCell&&true) (cond (P3.isCell&&true) (cp (ev 251 [(.pv (U x0)),(.pv (I 32)),(.pv (I 3))] []) (fun P6=>(yB (.pv P6)).bind fun Q7=>cp (ev 251 [(.pv (U x0)),(.pv (I 35)),(.pv (I 29))] []) (fun P10=>(yB (.pv P10)).bind fun Q11=>cond (P3.isCell&&true) (some (.ret (.pv (.agg [(I (IntKind.wrap .i64 (Int.tmod x0 4))),P3,(I 0),(I 0),(I (IntKind.wrap .i64 Q7.2)),(I (IntKind.wrap .i64 Q11.2)),(Bo false),(I 0),(PV.v (.int .u32 0)),(PV.v (.int .u32 0))])),[])) none))) none) none)) (
  cond ((IntKind.wrap .i64 (Int.tmod x0 4))==2) (
   cp (ev 251 [(.pv (U x0)),(.pv (I 2)),(.pv (I 1))] []) (fun P3=>(za .u64 (.pv P3)).bind fun N4=>cp (ev 251 [(.pv (U x0)),(.pv (I 3)),(.pv (I 29))] []) (fun P7=>(yB (.pv P7)).bind fun Q8=>some (.ret (.pv (.agg [(I (IntKind.wrap .i64 (Int.tmod x0 4))),(I 0),(I 0),(I 0),(I 0),(I 0),(Bo (N4==1)),(I (IntKind.wrap .i64 Q8.2)),(PV.v (.int .u32 (IntKind.wrap .u32 (IntKind.wrap .u64 (Int.tdiv x0 4294967296))))),(PV.v (.int .u32 0))])),[])))) (
   cond ((IntKind.wrap .i64 (Int.tmod x0 4))==3) (
    cp (ev 251 [(.pv (U x0)),(.pv (I 2)),(.pv (I 30))] []) (fun P3=>(yB (.pv P3)).bind fun Q4=>some (.ret (.pv (.agg [(I (IntKind.wrap .i64 (Int.tmod x0 4))),(I 0),(I 0),(I 0),(I 0),(I 0),(Bo false),(I 0),(PV.v (.int .u32 (IntKind.wrap .u32 (IntKind.wrap .u64 (Int.tdiv x0 4294967296))))),(PV.v (.int .u32 (IntKind.wrap .u32 Q4.2)))])),[]))) (
    some (.ret (.pv (.agg [(I (IntKind.wrap .i64 (Int.tmod x0 4))),(I 0),(I 0),(I 0),(I 0),(I 0),(Bo false),(I 0),(PV.v (.int .u32 0)),(PV.v (.int .u32 0))])),[]))))):=zi (fn:=Tryz.f195) _ _
theorem zjf (x0:Int):ev 198 [(.pv (U x0))] [] =
 some (.ret (.pv (Bo ((Int.tmod x0 4)==2))),[]):=zi (fn:=Tryz.f198) _ _
theorem zjg (x0:Int):ev 199 [(.pv (U x0))] [] =
 some (.ret (.pv (.tup [(I (IntKind.wrap .i64 (IntKind.wrap .u64 (Int.tdiv x0 4294967296)))),(I (IntKind.wrap .i64 (IntKind.wrap .u64 (Int.tdiv (Int.tmod x0 4294967296) 8))))])),[]):=zi (fn:=Tryz.f199) _ _
theorem zim (x0 x1:List PV):ev 212 [(.pv (.sl 1 x0)),(.pv (.sl 1 x1))] [] =
 (Zo x0).bind fun ns_1=>(Zo x1).bind fun ns_2=>some (.ret (.pv (Bo ((strOfNums ns_1).toList==(strOfNums ns_2).toList))),[]):=zi (fn:=Tryz.f212) _ _
theorem zpw (x0:List PV):ev 214 [(.pv (.sl 1 x0))] [] =
 cp (ev 256 [(.pv (.sl 1 x0)),(.pv (.v (.func (.func 257) #[] #[])))] []) (fun P3=>(za .i64 (.pv P3)).bind fun N4=>some (.ret (.pv (I (IntKind.wrap .i64 (Int.tdiv (IntKind.wrap .i64 ((IntKind.wrap .i64 (N4+8))-1)) 8)))),[])):=zi (fn:=Tryz.f214) _ _
theorem ziJ (x0_0 x0_1 x0_2:Int) (x0_3 x0_4:List PV):ev 217 [(.pv (.agg [(I x0_0),(I x0_1),(I x0_2),(.sl 1 x0_3),(.sl 5 x0_4)]))] [] =
 zq (ev 261 [(.pv (.agg [(I x0_0),(I x0_1),(I x0_2),(.sl 1 x0_3),(.sl 5 x0_4)])),(.ptr 0 0),(.ptr 1 0)] [[(.pv (I 0))],[(.clo (.func 261) [] [(.ptr 0 0),(.ptr 1 0)])]]) (fun A1 H2=>(H2[0]?).bind fun C3=>(C3[0]?).bind fun E4=>(zf E4).bind fun P5=>cond (decide (C3.length=1)) ((H2[1]?).bind fun C6=>(C6[0]?).bind fun E7=>cond (Yn (.func 261) [] [(.ptr 0 0),(.ptr 1 0)] E7) (cond (decide (C6.length=1)) (cond (decide (H2.length=2)) ((zf A1).bind fun P8=>some (.ret (.pv P5),[])) none) none) none) none) (fun A1 H2=>(H2[0]?).bind fun C3=>(C3[0]?).bind fun E4=>(zf E4).bind fun P5=>cond (decide (C3.length=1)) ((H2[1]?).bind fun C6=>(C6[0]?).bind fun E7=>cond (Yn (.func 261) [] [(.ptr 0 0),(.ptr 1 0)] E7) (cond (decide (C6.length=1)) (cond (decide (H2.length=2)) (some (.pan A1,[])) none) none) none) none):=zi (fn:=Tryz.f217) _ _
noncomputable def rB:Code:=Tryz.f237.body.getD .skip
noncomputable def Ye (xs0 xs1:List PV) (i2 i3:Int):Option (Out×ze) :=
 zY (zs env ev zI 44 237 0 (sub rB [1,1,0,1,0,0])) (zD env 237 0 0) (zG 0 (zT (zH env ev 44 237 0 (sub rB [1,1,1])) (zX env 237 Tryz.f237.results.toList 0))) ⟨zQ [(1,(.pv (.sl 1 xs0))),(14,(.pv (.sl 1 xs1))),(15,(.pv (I i2))),(16,(.pv (I i3)))],[]⟩
theorem zbY (xs0 xs1:List PV) (i2 i3:Int):Ye xs0 xs1 i2 i3 =
 cond (decide (i3<i2)) (
 cond (decide (0<=i3)&&decide (i3<(xs1.length:Int))) ((xs1[(i3).toNat]?).bind fun P1=>(P1.cells[0]?).bind fun P2=>cond (decide (i3<(xs0.length:Int))) (
 cond (decide (0<=i3)&&decide (i3<(xs0.length:Int))) ((xs0[(i3).toNat]?).bind fun P3=>(P3.cells[0]?).bind fun P4=>(za .u64 (.pv P4)).bind fun N5=>(za .u64 (.pv P2)).bind fun N6=>cond (N5 != N6) (
 some (.ret (.pv (Bo false)),[])) (
 cond (decide (i3≥(xs0.length:Int))) (
  (za .u64 (.pv P2)).bind fun N7=>cond (N7 != 0) (
  some (.ret (.pv (Bo false)),[])) (
  Ye xs0 xs1 i2 (IntKind.wrap .i64 (i3+1)))) (
  Ye xs0 xs1 i2 (IntKind.wrap .i64 (i3+1))))) none) (
 cond (decide (i3≥(xs0.length:Int))) (
  (za .u64 (.pv P2)).bind fun N3=>cond (N3 != 0) (
  some (.ret (.pv (Bo false)),[])) (
  Ye xs0 xs1 i2 (IntKind.wrap .i64 (i3+1)))) (
  Ye xs0 xs1 i2 (IntKind.wrap .i64 (i3+1))))) none) (
 some (.ret (.pv (Bo true)),[])):=(z4 ..).trans (by kernel_rfl)
theorem zkM (x0 x1:List PV):ev 237 [(.pv (.sl 1 x0)),(.pv (.sl 1 x1))] [] =
 cond (decide ((x0.length:Int)<(x1.length:Int))) (
 Ye x0 x1 (x1.length:Int) 0) (
 Ye x1 x0 (x0.length:Int) 0):=zi (fn:=Tryz.f237) _ _
theorem zn9 (x0:List PV) (x1_0 x1_1 x1_2 x1_3 x1_4 x1_5:Int) (x1_6:Bool) (x1_7 x1_8 x1_9 x2 x3:Int):ev 243 [(.pv (.sl 1 x0)),(.pv (.agg [(I x1_0),(I x1_1),(I x1_2),(I x1_3),(I x1_4),(I x1_5),(Bo x1_6),(I x1_7),(PV.v (.int .u32 x1_8)),(PV.v (.int .u32 x1_9))])),(.pv (I x2)),(.pv (I x3))] [] =
 cp (ev 284 [(.pv (.agg [(I x1_0),(I x1_1),(I x1_2),(I x1_3),(I x1_4),(I x1_5),(Bo x1_6),(I x1_7),(PV.v (.int .u32 x1_8)),(PV.v (.int .u32 x1_9))]))] []) (fun P3=>(z7 (.pv P3)).bind fun B4=>cond B4 (
 some (.ret (.pv (.tup [(.agg [(I 0),(I 0),(I 0),(I 0),(I 0),(I 0),(I 0),(I 0)]),(I 6)])),[])) (
 some (.ret (.pv (.tup [(.agg [(I 0),(I 0),(I 0),(I 0),(I 0),(I 0),(I 0),(I 0)]),(I 4)])),[]))):=zi (fn:=Tryz.f243) _ _
theorem zmb (x0:Int):ev 244 [.pv (.v (.int .u8 x0))] []=(K2 x0).bind fun n=>some (.ret (.pv (.v (.int .i64 n))),[]):=(ua (q:=(2,(0,0))) (by kernel_rfl) _ _).trans (by kernel_rfl)
theorem ziD (x0__0:List PV) (x0__1 x0__2_0 x0__2_1 x0__2_2 x0__3_0 x1:Int):ev 247 [(.ptr 0 0),(.pv (I x1))] [[(.pv (.sl 1 x0__0)),(.pv (I x0__1)),(.pv (I x0__2_0)),(.pv (I x0__2_1)),(.pv (I x0__2_2)),(.pv (I x0__3_0))]] =
 zq (ev 272 [(.pv (.agg [(I x0__3_0)])),(.pv (I x1))] []) (fun A1 H2=>(zf A1).bind fun P3=>tK P3 0 fun P5=>tK P3 1 fun P7=>Zc P5 (fun P8=>(za .i64 (.pv P7)).bind fun N9=>zq (ev 130 [(.pv (Bo (N9==0)))] []) (fun A10 H11=>(zf A10).bind fun P12=>some (.ret (.pv (.tup [])),[[(.pv (.sl 1 x0__0)),(.pv (I x0__1)),(.pv (I x0__2_0)),(.pv (I x0__2_1)),(.pv (I x0__2_2)),(.pv P8)]])) (fun A10 H11=>some (.pan A10,[[(.pv (.sl 1 x0__0)),(.pv (I x0__1)),(.pv (I x0__2_0)),(.pv (I x0__2_1)),(.pv (I x0__2_2)),(.pv P8)]])))) (fun A1 H2=>some (.pan A1,[[(.pv (.sl 1 x0__0)),(.pv (I x0__1)),(.pv (I x0__2_0)),(.pv (I x0__2_1)),(.pv (I x0__2_2)),(.pv (I x0__3_0))]])):=zi (fn:=Tryz.f247) _ _
theorem ziX (x0 x1 x2:Int):ev 250 [(.pv (U x0)),(.pv (I x1)),(.pv (I x2))] [] =
 cp (ev 251 [(.pv (U x0)),(.pv (I x1)),(.pv (I x2))] []) (fun P3=>cond (x2==64) (
 (yB (.pv P3)).bind fun Q4=>some (.ret (.pv (I (IntKind.wrap .i64 Q4.2))),[])) (
 cp (ev 142 [(.pv (I (IntKind.wrap .i64 (x2-1))))] []) (fun P6=>(za .u64 (.pv P3)).bind fun N7=>(za .u64 (.pv P6)).bind fun N8=>cond (decide (N7≥N8)) (
  (yB (.pv P3)).bind fun Q9=>cp (ev 142 [(.pv (I (IntKind.wrap .i64 (x2-1))))] []) (fun P12=>(yB (.pv P12)).bind fun Q13=>cp (ev 142 [(.pv (I (IntKind.wrap .i64 (x2-1))))] []) (fun P16=>(yB (.pv P16)).bind fun Q17=>some (.ret (.pv (I (IntKind.wrap .i64 ((IntKind.wrap .i64 ((IntKind.wrap .i64 Q9.2)-(IntKind.wrap .i64 Q13.2)))-(IntKind.wrap .i64 Q17.2))))),[])))) (
  (yB (.pv P3)).bind fun Q9=>some (.ret (.pv (I (IntKind.wrap .i64 Q9.2))),[]))))):=zi (fn:=Tryz.f250) _ _
theorem zl3 (x0 x1:Int):ev 255 [(.pv (I x0)),(.pv (I x1))] [] =
 cond (decide (0<=x0)&&decide (x0<8)) ((([(I 0),(I 1),(I 8),(I 16),(I 32),(I 64),(I 64),(I 0)]:List PV)[(0+(x0).toNat*1)]?).bind fun P1=>(za .i64 (.pv P1)).bind fun N2=>cp (ev 263 [(.pv (I (IntKind.wrap .i64 (N2*x1)))),(.pv (I 8))] []) (fun P5=>some (.ret (.pv P5),[]))) none:=zi (fn:=Tryz.f255) _ _
noncomputable def rQ:Code:=Tryz.f256.body.getD .skip
noncomputable def Jz (xs0:List PV) (i1:Int):Option (Out×ze) :=
 zY (zs env ev zI 22 256 0 (sub rQ [1,1,0,0,0])) (zD env 256 0 0) (zG 0 (zT (zH env ev 22 256 0 (sub rQ [1,1,1])) (zX env 256 Tryz.f256.results.toList 0))) ⟨zQ [(0,(.pv (.sl 1 xs0))),(1,(.pv (.v (.func (.func 257) #[] #[])))),(5,(.pv (I i1)))],[]⟩
theorem zfa (xs0:List PV) (i1:Int):Jz xs0 i1 =
 cond (decide (i1>0)) (
 cond (decide (0<=(IntKind.wrap .i64 (i1-1)))&&decide ((IntKind.wrap .i64 (i1-1))<(xs0.length:Int))) ((xs0[(IntKind.wrap .i64 (i1-1)).toNat]?).bind fun P1=>(P1.cells[0]?).bind fun P2=>cp (ev 257 [(.pv P2)] []) (fun P5=>(z7 (.pv P5)).bind fun B6=>cond B6 (
 Jz xs0 (IntKind.wrap .i64 (i1-1))) (
 some (.ret (.pv (I i1)),[])))) none) (
 some (.ret (.pv (I i1)),[])):=(z4 ..).trans (by kernel_rfl)
theorem zpy (x0:List PV):ev 256 [(.pv (.sl 1 x0)),(.pv (.v (.func (.func 257) #[] #[])))] [] =
 Jz x0 (x0.length:Int):=zi (fn:=Tryz.f256) _ _
theorem ziK (x0_0 x0_1 x0_2:Int) (x0_3 x0_4:List PV):ev 262 [(.pv (.agg [(I x0_0),(I x0_1),(I x0_2),(.sl 1 x0_3),(.sl 5 x0_4)]))] [] =
 cond (x0_0==0) (
 some (.ret (.pv (I 0)),[])) (
 cond (x0_0==1) (
  some (.ret (.pv (I (IntKind.wrap .i64 ((IntKind.wrap .i64 (Int.tdiv (x0_3.length:Int) 8))+(x0_4.length:Int))))),[])) (
  cond (x0_1==7) (
   cp (ev 219 [(.pv (.agg [(I x0_0),(I x0_1),(I x0_2),(.sl 1 x0_3),(.sl 5 x0_4)]))] []) (fun P3=>tK P3 0 fun P5=>tK P3 1 fun P7=>(za .i64 (.pv P5)).bind fun N8=>(za .i64 (.pv P7)).bind fun N9=>some (.ret (.pv (I (IntKind.wrap .i64 (1+(IntKind.wrap .i64 (x0_2*(IntKind.wrap .i64 (N8+N9)))))))),[]))) (
   cp (ev 221 [(.pv (I x0_1)),(.pv (I x0_2))] []) (fun P3=>some (.ret (.pv P3),[]))))):=zi (fn:=Tryz.f262) _ _
theorem zaO (x0__0:List PV) (x1_0 x1_1 x1_2:Int) (x1_3 x1_4:List PV):ev 268 [(.ptr 0 0),(.pv (.agg [(I x1_0),(I x1_1),(I x1_2),(.sl 1 x1_3),(.sl 5 x1_4)]))] [[(.slu 30 1 x0__0)]] =
 cond (x1_1==6) (
 zq (ev 292 [(.ptr 0 0),(.pv (I x1_2))] [[(.slu 30 1 x0__0)]]) (fun A1 H2=>(H2[0]?).bind fun C3=>(C3[0]?).bind fun E4=>(yx 30 1 E4).bind fun X5=>cond (decide (C3.length=1)) (cond (decide (H2.length=1)) ((zf A1).bind fun P6=>cond ((decide (P6.cells.length=1)&&P6.cells.all PV.isCell)&&true) (some (.ret (.pv (.tup [(.agg [(I 1),(I 0),(I 0),(I 0),(I x1_1),(I x1_2),(Bo false),(I 0),(PV.v (.int .u32 0)),(PV.v (.int .u32 0))]),(.sl 1 [P6])])),[[(.slu 30 1 X5)]])) none) none) none) (fun A1 H2=>(H2[0]?).bind fun C3=>(C3[0]?).bind fun E4=>(yx 30 1 E4).bind fun X5=>cond (decide (C3.length=1)) (cond (decide (H2.length=1)) (some (.pan A1,[[(.slu 30 1 X5)]])) none) none)) (
 zq (ev 262 [(.pv (.agg [(I x1_0),(I x1_1),(I x1_2),(.sl 1 x1_3),(.sl 5 x1_4)]))] []) (fun A1 H2=>(zf A1).bind fun P3=>zq (ev 293 [(.ptr 0 0),(.pv (.sl 1 x1_3)),(.pv P3)] [[(.slu 30 1 x0__0)]]) (fun A4 H5=>(H5[0]?).bind fun C6=>(C6[0]?).bind fun E7=>(yx 30 1 E7).bind fun X8=>cond (decide (C6.length=1)) (cond (decide (H5.length=1)) ((zf A4).bind fun P9=>some (.ret (.pv (.tup [(.agg [(I 1),(I 0),(I 0),(I 0),(I x1_1),(I x1_2),(Bo false),(I 0),(PV.v (.int .u32 0)),(PV.v (.int .u32 0))]),(.sl 1 [])])),[[(.slu 30 1 X8)]])) none) none) (fun A4 H5=>(H5[0]?).bind fun C6=>(C6[0]?).bind fun E7=>(yx 30 1 E7).bind fun X8=>cond (decide (C6.length=1)) (cond (decide (H5.length=1)) (some (.pan A4,[[(.slu 30 1 X8)]])) none) none)) (fun A1 H2=>some (.pan A1,[[(.slu 30 1 x0__0)]]))):=zi (fn:=Tryz.f268) _ _
theorem zbL (x0:Int):ev 271 [(.pv (I x0))] [] =
 cond (x0 != 0) (
 some (.pan (.ifc 279 (.agg [(I x0)])),[])) (
 some (.ret (.pv (.tup [])),[])):=zi (fn:=Tryz.f271) _ _
theorem zkw (x0__0:List PV) (x0__1_0 x0__1_1 x0__1_2 x0__2_0 x1_0 x1_1 x1_2 x1_3 x1_4 x1_5 x1_6 x1_7 x2:Int):ev 273 [(.ptr 0 0),(.pv (.agg [(I x1_0),(I x1_1),(I x1_2),(I x1_3),(I x1_4),(I x1_5),(I x1_6),(I x1_7)])),(.pv (I x2))] [[(.pv (.sl 1 x0__0)),(.pv (I x0__1_0)),(.pv (I x0__1_1)),(.pv (I x0__1_2)),(.pv (I x0__2_0))]] =
 zq (ev 295 [(.ptr 0 0),(.pv (.agg [(I x1_0),(I x1_1),(I x1_2),(I x1_3),(I x1_4),(I x1_5),(I x1_6),(I x1_7)])),(.pv (I x1_2)),(.pv (I x1_3))] [[(.pv (.sl 1 x0__0)),(.pv (I x0__1_0)),(.pv (I x0__1_1)),(.pv (I x0__1_2)),(.pv (I x0__2_0))]]) (fun A1 H2=>(H2[0]?).bind fun C3=>(C3[0]?).bind fun E4=>(zf E4).bind fun P5=>(C3[1]?).bind fun E6=>(zf E6).bind fun P7=>(C3[2]?).bind fun E8=>(zf E8).bind fun P9=>(C3[3]?).bind fun E10=>(zf E10).bind fun P11=>(C3[4]?).bind fun E12=>(zf E12).bind fun P13=>cond (decide (C3.length=5)) (cond (decide (H2.length=1)) ((zf A1).bind fun P14=>Yd (ev 296 [(.ptr 0 0),(.pv (.agg [(I x1_0),(I x1_1),(I x1_2),(I x1_3),(I x1_4),(I x1_5),(I x1_6),(I x1_7)])),(.pv (I x2))] [[(.pv P5),(.pv P7),(.pv P9),(.pv P11),(.pv P13)]]) (fun P28 P19 P21 P23 P25 P27=>cond (P14.isCell&&true) (cond (P28.isCell&&true) (cond ((P14.isCell&&true)&&((P28.isCell&&true)&&true)) (cond (P14.isCell&&(P28.isCell&&true)) (some (.ret (.pv (.agg [(I 1),(I 0),(I 0),P14,P28])),[[(.pv P19),(.pv P21),(.pv P23),(.pv P25),(.pv P27)]])) none) none) none) none)) none) none) (fun A1 H2=>(H2[0]?).bind fun C3=>(C3[0]?).bind fun E4=>(zf E4).bind fun P5=>(C3[1]?).bind fun E6=>(zf E6).bind fun P7=>(C3[2]?).bind fun E8=>(zf E8).bind fun P9=>(C3[3]?).bind fun E10=>(zf E10).bind fun P11=>(C3[4]?).bind fun E12=>(zf E12).bind fun P13=>cond (decide (C3.length=5)) (cond (decide (H2.length=1)) (none) none) none):=zi (fn:=Tryz.f273) _ _
theorem zn6 (x0_0 x0_1 x0_2 x0_3 x0_4 x0_5 x0_6 x0_7:Int):ev 277 [(.pv (.agg [(I x0_0),(I x0_1),(I x0_2),(I x0_3),(I x0_4),(I x0_5),(I x0_6),(I x0_7)]))] [] =
 cond (x0_0==1) (
 cond (decide (x0_4>0)) (
 some (.ret (.pv (.tup [(I (IntKind.wrap .i64 (x0_2+x0_3))),(I x0_4)])),[])) (
 cond (x0_0==2) (
  cond (x0_5==6) (
  cond (decide (x0_6>0)) (
  some (.ret (.pv (.tup [(I x0_2),(I x0_6)])),[])) (
  some (.ret (.pv (.tup [(I 0),(I 0)])),[]))) (
  some (.ret (.pv (.tup [(I 0),(I 0)])),[]))) (
  some (.ret (.pv (.tup [(I 0),(I 0)])),[])))) (
 cond (x0_0==2) (
  cond (x0_5==6) (
  cond (decide (x0_6>0)) (
  some (.ret (.pv (.tup [(I x0_2),(I x0_6)])),[])) (
  some (.ret (.pv (.tup [(I 0),(I 0)])),[]))) (
  some (.ret (.pv (.tup [(I 0),(I 0)])),[]))) (
  some (.ret (.pv (.tup [(I 0),(I 0)])),[]))):=zi (fn:=Tryz.f277) _ _
theorem zn7 (x0:List PV) (x1_0 x1_1 x1_2 x1_3 x1_4 x1_5:Int) (x1_6:Bool) (x1_7 x1_8 x1_9 x2 x3:Int):ev 283 [(.pv (.sl 1 x0)),(.pv (.agg [(I x1_0),(I x1_1),(I x1_2),(I x1_3),(I x1_4),(I x1_5),(Bo x1_6),(I x1_7),(PV.v (.int .u32 x1_8)),(PV.v (.int .u32 x1_9))])),(.pv (I x2)),(.pv (I x3))] [] =
 cp (ev 286 [(.pv (.sl 1 x0)),(.pv (I x2)),(.pv (I x3)),(.pv (I (IntKind.wrap .i64 (x1_5+1))))] []) (fun P3=>(z7 (.pv P3)).bind fun B4=>cond (!B4) (
 some (.ret (.pv (.tup [(.agg [(I 0),(I 0),(I 0),(I 0),(I 0),(I 0),(I 0),(I 0)]),(I 2)])),[])) (
 cp (ev 278 [(.pv (.sl 1 x0)),(.pv (I x2)),(.pv (I x3))] []) (fun P7=>tK P7 0 fun P9=>tK P7 1 fun P11=>cp (ev 192 [(.pv P9)] []) (fun P14=>wk P14 (fun P15 P16 P17 P18 P19 P20 P21 P22 P23 P24=>(za .i64 (.pv P17)).bind fun N25=>(za .i64 (.pv P18)).bind fun N26=>(za .i64 (.pv P15)).bind fun N27=>cond (N27 != 0) (
  some (.ret (.pv (.tup [(.agg [(I 0),(I 0),(I 0),(I 0),(I 0),(I 0),(I 0),(I 0)]),(I 5)])),[])) (
  (za .i64 (.pv P16)).bind fun N28=>cond (decide (N28<0)) (
   some (.ret (.pv (.tup [(.agg [(I 0),(I 0),(I 0),(I 0),(I 0),(I 0),(I 0),(I 0)]),(I 5)])),[])) (
   (za .i64 (.pv P16)).bind fun N29=>cond (decide ((IntKind.wrap .i64 (N29*(IntKind.wrap .i64 (N25+N26))))>x1_5)) (
    some (.ret (.pv (.tup [(.agg [(I 0),(I 0),(I 0),(I 0),(I 0),(I 0),(I 0),(I 0)]),(I 5)])),[])) (
    cond (P17.isCell&&true) (cond (P18.isCell&&true) (cond (P16.isCell&&true) (cond ((P17.isCell&&true)&&((P18.isCell&&true)&&((P16.isCell&&true)&&true))) (cond (P17.isCell&&(P18.isCell&&(P16.isCell&&true))) (cond ((IntKind.wrap .i64 (N25+N26))==0) (
     (za .i64 (.pv P16)).bind fun N30=>cond (P17.isCell&&(P18.isCell&&(P16.isCell&&true))) (some (.ret (.pv (.tup [(.agg [(I 2),(I x2),(I (IntKind.wrap .i64 (x3+1))),P17,P18,(I 7),P16,(I (IntKind.wrap .i64 ((IntKind.wrap .i64 (x1_5+1))+N30)))]),(I 0)])),[])) none) (
     cond (P17.isCell&&(P18.isCell&&(P16.isCell&&true))) (some (.ret (.pv (.tup [(.agg [(I 2),(I x2),(I (IntKind.wrap .i64 (x3+1))),P17,P18,(I 7),P16,(I (IntKind.wrap .i64 (x1_5+1)))]),(I 0)])),[])) none)) none) none) none) none) none)))))))):=zi (fn:=Tryz.f283) _ _
noncomputable def rz:Code:=Tryz.f296.body.getD .skip
noncomputable def Kv (i0:Int) (xs1:List PV) (p2 p3:PV) (i4:Int) (p5 p6 p7 p8 p9:PV) (i10 i11 i12 i13 i14 i15 i16 i17:Int):Option (Out×ze) :=
 zY (zs env ev zI 34 296 0 (sub rz [1,1,1,0,1,0,0])) (zD env 296 0 2) (zG 0 (zT (zH env ev 34 296 0 (sub rz [1,1,1,1])) (zX env 296 Tryz.f296.results.toList 1))) ⟨zQ [(0,(.ptr 0 0)),(2,(.pv (I i0))),(4,(.ptr 1 0)),(7,(.slu 53 5 xs1)),(8,(.pv p2)),(16,(.pv p3)),(17,(.pv (I i4)))],[[(.pv p5),(.pv p6),(.pv p7),(.pv p8),(.pv p9)],[(.pv (I i10)),(.pv (I i11)),(.pv (I i12)),(.pv (I i13)),(.pv (I i14)),(.pv (I i15)),(.pv (I i16)),(.pv (I i17))]]⟩
theorem zbN (i0:Int) (xs1:List PV) (p2 p3:PV) (i4:Int) (p5 p6 p7 p8 p9:PV) (i10 i11 i12 i13 i14 i15 i16 i17:Int):Kv i0 xs1 p2 p3 i4 p5 p6 p7 p8 p9 i10 i11 i12 i13 i14 i15 i16 i17 =
 (za .i64 (.pv p3)).bind fun N1=>cond (decide (i4<N1)) (
 (za .i64 (.pv p2)).bind fun N2=>Yd (ev 234 [(.ptr 0 0),(.pv (I i11)),(.pv (I (IntKind.wrap .i64 (N2+i4)))),(.pv (I (IntKind.wrap .i64 (i0+1))))] [[(.pv p5),(.pv p6),(.pv p7),(.pv p8),(.pv p9)]]) (fun P16 P7 P9 P11 P13 P15=>cond ((decide (P16.cells.length=5)&&P16.cells.all PV.isCell)&&true) (cond (zJ (xs1.length+1) 72) (Kv i0 (xs1++[P16]) p2 p3 (IntKind.wrap .i64 (i4+1)) P7 P9 P11 P13 P15 i10 i11 i12 i13 i14 i15 i16 i17) none) none)) (
 some (.ret (.pv (.sl 5 xs1)),[[(.pv p5),(.pv p6),(.pv p7),(.pv p8),(.pv p9)]])):=(z4 ..).trans (by kernel_rfl)
theorem zkv (x0__0:List PV) (x0__1_0 x0__1_1 x0__1_2 x0__2_0 x1_0 x1_1 x1_2 x1_3 x1_4 x1_5 x1_6 x1_7 x2:Int):ev 296 [(.ptr 0 0),(.pv (.agg [(I x1_0),(I x1_1),(I x1_2),(I x1_3),(I x1_4),(I x1_5),(I x1_6),(I x1_7)])),(.pv (I x2))] [[(.pv (.sl 1 x0__0)),(.pv (I x0__1_0)),(.pv (I x0__1_1)),(.pv (I x0__1_2)),(.pv (I x0__2_0))]] =
 zq (ev 277 [(.pv (.agg [(I x1_0),(I x1_1),(I x1_2),(I x1_3),(I x1_4),(I x1_5),(I x1_6),(I x1_7)]))] []) (fun A1 H2=>(zf A1).bind fun P3=>tK P3 0 fun P5=>tK P3 1 fun P7=>Kv x2 [] P5 P7 0 (.sl 1 x0__0) (I x0__1_0) (I x0__1_1) (I x0__1_2) (I x0__2_0) x1_0 x1_1 x1_2 x1_3 x1_4 x1_5 x1_6 x1_7) (fun A1 H2=>some (.pan A1,[[(.pv (.sl 1 x0__0)),(.pv (I x0__1_0)),(.pv (I x0__1_1)),(.pv (I x0__1_2)),(.pv (I x0__2_0))]])):=zi (fn:=Tryz.f296) _ _
end Go.Proofs.YtjbjeeoifhegfaaGreatDoor.E
