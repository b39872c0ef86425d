/- A part of the proof of the law MessageMatchesReference, as its statement says it: for every input; its conditions are the statement's own. -/
import Derived.KernelRfl
import Derived.Test.YtjbjeeoifhegfaaGreatDoorZMessageMatchesReference1
import Derived.Test.YtjbjeeoifhegfaaGreatDoorZMessageMatchesReference2
import Derived.Test.YtjbjeeoifhegfaaGreatDoorZMessageMatchesReference3
set_option linter.unusedVariables false
set_option linter.unusedSimpArgs false
namespace Go.Proofs.YtjbjeeoifhegfaaGreatDoor.E
theorem uA (x0:List PV) (x1_0 x1_1 x1_2:Int):ev 35 [(.pv (.sl 1 x0)),(.pv (.agg [(I x1_0),(I x1_1),(I x1_2)]))] [] =
 cp (ev 57 [(.pv (.sl 1 x0))] []) (fun P3=>tK P3 0 fun P5=>tK P3 1 fun P7=>(xn (.pv P7)).bind fun Z8=>cond Z8 (
 (zE P5).bind fun L9=>cond ((L9.2.length:Int)==1) (
 (zE P5).bind fun L10=>cond ((decide (L10.1=1)&&true)&&decide (0<(L10.2.length:Int))) ((L10.2[0]?).bind fun P11=>(P11.cells[0]?).bind fun P12=>cp (ev 55 [(.pv (.agg [(I x1_0),(I x1_1),(I x1_2)]))] []) (fun P15=>cp (ev 76 [(.pv P12),(.pv P15)] []) (fun P18=>(z7 (.pv P18)).bind fun B19=>some (.ret (.pv (Bo B19)),[])))) none) (
 some (.ret (.pv (Bo false)),[]))) (
 some (.ret (.pv (Bo false)),[]))):=zi (fn:=Tryz.f35) _ _
theorem zjL (x0:List PV) (x1_0 x1_1 x1_2:Int):ev 38 [(.pv (.sl 1 x0)),(.pv (.agg [(I x1_0),(I x1_1),(I x1_2)]))] [] =
 cp (ev 40 [(.pv (.sl 1 x0)),(.pv (.agg [(I x1_0),(I x1_1),(I x1_2)]))] []) (fun P3=>tK P3 0 fun P5=>tK P3 1 fun P7=>(za .i64 (.pv P7)).bind fun N8=>cond (N8 != 0) (
 some (.ret (.pv (.tup [(U 0),P7])),[])) (
 cp (ev 79 [(.pv P5),(.pv (.agg [(I x1_0),(I x1_1),(I x1_2)]))] []) (fun P11=>tK P11 0 fun P13=>tK P11 1 fun P15=>some (.ret (.pv (.tup [P13,P15])),[])))):=zi (fn:=Tryz.f38) _ _
noncomputable def Y3:Code:=Tryz.f84.body.getD .skip
noncomputable def XR (i0:Int) (xs1:List PV) (i2:Int):Option (Out×ze) :=
 zY (zs env ev zI 56 84 0 (sub Y3 [1,0,1,0,0])) (zD env 84 0 0) (zG 0 (zT (zH env ev 56 84 0 (sub Y3 [1,1])) (zX env 84 Tryz.f84.results.toList 0))) ⟨zQ [(0,(.pv (U i0))),(1,(.pv (.sl 1 xs1))),(5,(.pv (I i2)))],[]⟩
noncomputable def Vm (i0:Int) (xs1:List PV) (i2 i3 i4 i5 i6:Int):Option (Out×ze) :=
 zY (zs env ev zI 56 84 2 (sub Y3 [1,0,1,0,0,1,0,0,1,1,1,0,1,0,0])) (zD env 84 2 0) (zG 2 (zT (zH env ev 56 84 1 (sub Y3 [1,0,1,0,0,1,0,0,1,1,1,1])) (zG 1 (zT (zH env ev 56 84 0 (sub Y3 [1,0,1,0,0,1,1])) (ZM (zs env ev zI 56 84 0 (sub Y3 [1,0,1,0,0])) (zD env 84 0 0) (zG 0 (zT (zH env ev 56 84 0 (sub Y3 [1,1])) (zX env 84 Tryz.f84.results.toList 0)))))))) ⟨zQ [(0,(.pv (U i0))),(1,(.pv (.sl 1 xs1))),(5,(.pv (I i2))),(6,(.pv (U i3))),(7,(.pv (U i4))),(8,(.pv (U i5))),(9,(.pv (I i6)))],[]⟩
theorem zbn (i0:Int) (xs1:List PV) (i2:Int):XR i0 xs1 i2 =
 cond (decide (i2<(xs1.length:Int))) (
 cond (decide (0<=i2)&&decide (i2<(xs1.length:Int))) ((xs1[(i2).toNat]?).bind fun P1=>(P1.cells[0]?).bind fun P2=>(yB (.pv P2)).bind fun Q3=>Vm i0 xs1 i2 (Int.tmod i0 256) 0 (IntKind.wrap .u64 Q3.2) 0) none) (
 some (.ret (.pv (U i0)),[])):=(z4 ..).trans (by kernel_rfl)
theorem zbo (i0:Int) (xs1:List PV) (i2 i3 i4 i5 i6:Int):Vm i0 xs1 i2 i3 i4 i5 i6 =
 cond (decide (i6<8)) (
 zq (ev 142 [(.pv (I i6))] []) (fun A1 H2=>(zf A1).bind fun P3=>(za .u64 (.pv P3)).bind fun N4=>cond (yS .quo N4) (cp (ev 142 [(.pv (I i6))] []) (fun P7=>(za .u64 (.pv P7)).bind fun N8=>cond (yS .quo N8) (cond ((Int.tmod (IntKind.wrap .u64 (Int.tdiv i3 N4)) 2) != (Int.tmod (IntKind.wrap .u64 (Int.tdiv i5 N8)) 2)) (
 cp (ev 142 [(.pv (I i6))] []) (fun P11=>(za .u64 (.pv P11)).bind fun N12=>Vm i0 xs1 i2 i3 (IntKind.wrap .u64 (i4+N12)) i5 (IntKind.wrap .i64 (i6+1)))) (
 Vm i0 xs1 i2 i3 i4 i5 (IntKind.wrap .i64 (i6+1)))) none)) none) (fun A1 H2=>none)) (
 XR (IntKind.wrap .u64 ((IntKind.wrap .u64 ((IntKind.wrap .u64 ((IntKind.wrap .u64 ((IntKind.wrap .u64 (i0-i3))+i4))*1099511627776))+(IntKind.wrap .u64 ((IntKind.wrap .u64 ((IntKind.wrap .u64 (i0-i3))+i4))*256))))+(IntKind.wrap .u64 ((IntKind.wrap .u64 ((IntKind.wrap .u64 (i0-i3))+i4))*179)))) xs1 (IntKind.wrap .i64 (i2+1))):=(z4 ..).trans (by kernel_rfl)
theorem zjA (x0:Int) (x1:List PV):ev 84 [(.pv (U x0)),(.pv (.sl 1 x1))] [] =
 XR x0 x1 0:=zi (fn:=Tryz.f84) _ _
theorem zi6 (x0:List PV) (x1:Int):ev 99 [(.slu 5 1 x0),(.pv (I x1))] [] =
 cond (zJ (x0.length+4) 1) (some (.ret (.slu 5 1 (x0++[(U8 (IntKind.wrap .u8 (Int.tmod x1 256))),(U8 (IntKind.wrap .u8 (Int.tmod (IntKind.wrap .i64 (Int.tdiv x1 256)) 256))),(U8 (IntKind.wrap .u8 (Int.tmod (IntKind.wrap .i64 (Int.tdiv x1 65536)) 256))),(U8 (IntKind.wrap .u8 (IntKind.wrap .i64 (Int.tdiv x1 16777216))))])),[])) none:=zi (fn:=Tryz.f99) _ _
noncomputable def XB:Code:=Tryz.f107.body.getD .skip
noncomputable def rG:Code:=Tryz.f172.body.getD .skip
noncomputable def Wd (xs0 xs1:List PV) (i2 i3:Int) (xs4:List PV) (i5:Int):Option (Out×ze) :=
 zY (zs env ev zI 77 107 0 (sub XB (o1 7 [0,1,0,0]))) (zD env 107 0 2) (zG 0 (zT (zH env ev 77 107 0 (sub XB (o1 7 [1]))) (qU env ev 107 172 Tryz.f107 Tryz.f172 ⟨sub XB [0],sub XB [1,1],sub rG [1],[2,3],2,11⟩ 0 [(.ptr 0 0),(.ptr 1 0)] [(2,(.ptr 0 0)),(3,(.ptr 1 0))]))) ⟨zQ [(0,(.pv (.sl 1 xs0))),(2,(.ptr 0 0)),(3,(.ptr 1 0)),(6,(.pv (.sl 1 xs1))),(37,(.pv (I i2))),(38,(.pv (I i3)))],[[(.slu 75 1 xs4)],[(.pv (I i5))]]⟩
theorem zcq (xs0 xs1:List PV) (i2 i3:Int) (xs4:List PV) (i5:Int):Wd xs0 xs1 i2 i3 xs4 i5 =
 cond (decide (i3<i2)) (
 zq (ev 173 [(.pv (.sl 1 xs0)),(.pv (I (IntKind.wrap .i64 (i3+1))))] []) (fun A1 H2=>(zf A1).bind fun P3=>(za .i64 (.pv P3)).bind fun N4=>cond (decide (N4<536870912)) (
 (za .i64 (.pv P3)).bind fun N5=>zq (ev 174 [(.pv (Bo (decide ((IntKind.wrap .i64 (N5*8))<=(xs1.length:Int)))))] []) (fun A6 H7=>(zf A6).bind fun P8=>(za .i64 (.pv P3)).bind fun N9=>cond (decide (0<=(IntKind.wrap .i64 (N9*8)))&&decide ((IntKind.wrap .i64 (N9*8))<=(xs1.length:Int))) (zq (ev 64 [(.pv (.sl 1 ((xs1.take (IntKind.wrap .i64 (N9*8)).toNat).drop 0)))] []) (fun A10 H11=>(zf A10).bind fun P12=>tK P12 0 fun P14=>tK P12 1 fun P16=>cond ((decide (P14.cells.length=1)&&P14.cells.all PV.isCell)&&true) (cond (zJ (xs4.length+1) 24) ((za .i64 (.pv P3)).bind fun N17=>cond ((decide (0<=(IntKind.wrap .i64 (N17*8)))&&decide ((IntKind.wrap .i64 (N17*8))<=(xs1.length:Int)))&&decide ((xs1.length:Int)<=(xs1.length:Int))) (Wd xs0 ((xs1.take (xs1.length:Int).toNat).drop (IntKind.wrap .i64 (N17*8)).toNat) i2 (IntKind.wrap .i64 (i3+1)) (xs4++[P14]) i5) none) none) none) (fun A10 H11=>(xn (.pv A10)).bind fun Z12=>cond (!Z12) (
  (we (.pv A10)).bind fun Q13=>cond (decide (Q13.1=225)) (cond (decide (Q13.2.cells.length=0)) (some (.ret (.pv (.tup [(.sl 1 []),(I 1)])),[])) none) none) (
  some (.ret (.pv (.tup [(.sl 1 xs4),(I i5)])),[])))) none) (fun A6 H7=>(xn (.pv A6)).bind fun Z8=>cond (!Z8) (
  (we (.pv A6)).bind fun Q9=>cond (decide (Q9.1=225)) (cond (decide (Q9.2.cells.length=0)) (some (.ret (.pv (.tup [(.sl 1 []),(I 1)])),[])) none) none) (
  some (.ret (.pv (.tup [(.sl 1 xs4),(I i5)])),[])))) (
 zq (ev 174 [(.pv (Bo false))] []) (fun A5 H6=>(zf A5).bind fun P7=>(za .i64 (.pv P3)).bind fun N8=>cond (decide (0<=(IntKind.wrap .i64 (N8*8)))&&decide ((IntKind.wrap .i64 (N8*8))<=(xs1.length:Int))) (zq (ev 64 [(.pv (.sl 1 ((xs1.take (IntKind.wrap .i64 (N8*8)).toNat).drop 0)))] []) (fun A9 H10=>(zf A9).bind fun P11=>tK P11 0 fun P13=>tK P11 1 fun P15=>cond ((decide (P13.cells.length=1)&&P13.cells.all PV.isCell)&&true) (cond (zJ (xs4.length+1) 24) ((za .i64 (.pv P3)).bind fun N16=>cond ((decide (0<=(IntKind.wrap .i64 (N16*8)))&&decide ((IntKind.wrap .i64 (N16*8))<=(xs1.length:Int)))&&decide ((xs1.length:Int)<=(xs1.length:Int))) (Wd xs0 ((xs1.take (xs1.length:Int).toNat).drop (IntKind.wrap .i64 (N16*8)).toNat) i2 (IntKind.wrap .i64 (i3+1)) (xs4++[P13]) i5) none) none) none) (fun A9 H10=>(xn (.pv A9)).bind fun Z11=>cond (!Z11) (
   (we (.pv A9)).bind fun Q12=>cond (decide (Q12.1=225)) (cond (decide (Q12.2.cells.length=0)) (some (.ret (.pv (.tup [(.sl 1 []),(I 1)])),[])) none) none) (
   some (.ret (.pv (.tup [(.sl 1 xs4),(I i5)])),[])))) none) (fun A5 H6=>(xn (.pv A5)).bind fun Z7=>cond (!Z7) (
   (we (.pv A5)).bind fun Q8=>cond (decide (Q8.1=225)) (cond (decide (Q8.2.cells.length=0)) (some (.ret (.pv (.tup [(.sl 1 []),(I 1)])),[])) none) none) (
   some (.ret (.pv (.tup [(.sl 1 xs4),(I i5)])),[]))))) (fun A1 H2=>(xn (.pv A1)).bind fun Z3=>cond (!Z3) (
  (we (.pv A1)).bind fun Q4=>cond (decide (Q4.1=225)) (cond (decide (Q4.2.cells.length=0)) (some (.ret (.pv (.tup [(.sl 1 []),(I 1)])),[])) none) none) (
  some (.ret (.pv (.tup [(.sl 1 xs4),(I i5)])),[])))) (
 zq (ev 174 [(.pv (Bo ((xs1.length:Int)==0)))] []) (fun A1 H2=>(zf A1).bind fun P3=>some (.ret (.pv (.tup [(.sl 1 xs4),(I 0)])),[])) (fun A1 H2=>(xn (.pv A1)).bind fun Z3=>cond (!Z3) (
   (we (.pv A1)).bind fun Q4=>cond (decide (Q4.1=225)) (cond (decide (Q4.2.cells.length=0)) (some (.ret (.pv (.tup [(.sl 1 []),(I 1)])),[])) none) none) (
   some (.ret (.pv (.tup [(.sl 1 xs4),(I i5)])),[])))):=(z4 ..).trans (by kernel_rfl)
theorem zlk (x0:List PV):ev 107 [(.pv (.sl 1 x0))] [] =
 zq (ev 173 [(.pv (.sl 1 x0)),(.pv (I 0))] []) (fun A1 H2=>(zf A1).bind fun P3=>(za .i64 (.pv P3)).bind fun N4=>zq (ev 174 [(.pv (Bo (decide ((IntKind.wrap .i64 (N4+1))<=512))))] []) (fun A5 H6=>(zf A5).bind fun P7=>zq (ev 167 [(.pv (I (IntKind.wrap .i64 (N4+1))))] []) (fun A8 H9=>(zf A8).bind fun P10=>(za .i64 (.pv P10)).bind fun N11=>cond (decide ((x0.length:Int)≥N11)) (
 (yB (.pv P10)).bind fun Q12=>cond ((decide (0<=(IntKind.wrap .i64 (4*(IntKind.wrap .i64 ((IntKind.wrap .i64 (N4+1))+1)))))&&decide ((IntKind.wrap .i64 (4*(IntKind.wrap .i64 ((IntKind.wrap .i64 (N4+1))+1))))<=Q12.2))&&decide (Q12.2<=(x0.length:Int))) (zq (ev 175 [(.pv (.sl 1 ((x0.take (Q12.2).toNat).drop (IntKind.wrap .i64 (4*(IntKind.wrap .i64 ((IntKind.wrap .i64 (N4+1))+1)))).toNat)))] []) (fun A13 H14=>(zf A13).bind fun P15=>(z7 (.pv P15)).bind fun B16=>zq (ev 174 [(.pv (Bo B16))] []) (fun A17 H18=>(zf A17).bind fun P19=>(yB (.pv P10)).bind fun Q20=>cond ((decide (0<=Q20.2)&&decide (Q20.2<=(x0.length:Int)))&&decide ((x0.length:Int)<=(x0.length:Int))) (Wd x0 ((x0.take (x0.length:Int).toNat).drop (Q20.2).toNat) (IntKind.wrap .i64 (N4+1)) 0 [] 0) none) (fun A17 H18=>(xn (.pv A17)).bind fun Z19=>cond (!Z19) (
  (we (.pv A17)).bind fun Q20=>cond (decide (Q20.1=225)) (cond (decide (Q20.2.cells.length=0)) (some (.ret (.pv (.tup [(.sl 1 []),(I 1)])),[])) none) none) (
  some (.ret (.pv (.tup [(.sl 1 []),(I 0)])),[])))) (fun A13 H14=>(xn (.pv A13)).bind fun Z15=>cond (!Z15) (
  (we (.pv A13)).bind fun Q16=>cond (decide (Q16.1=225)) (cond (decide (Q16.2.cells.length=0)) (some (.ret (.pv (.tup [(.sl 1 []),(I 1)])),[])) none) none) (
  some (.ret (.pv (.tup [(.sl 1 []),(I 0)])),[])))) none) (
 zq (ev 174 [(.pv (Bo false))] []) (fun A12 H13=>(zf A12).bind fun P14=>(yB (.pv P10)).bind fun Q15=>cond ((decide (0<=Q15.2)&&decide (Q15.2<=(x0.length:Int)))&&decide ((x0.length:Int)<=(x0.length:Int))) (Wd x0 ((x0.take (x0.length:Int).toNat).drop (Q15.2).toNat) (IntKind.wrap .i64 (N4+1)) 0 [] 0) none) (fun A12 H13=>(xn (.pv A12)).bind fun Z14=>cond (!Z14) (
   (we (.pv A12)).bind fun Q15=>cond (decide (Q15.1=225)) (cond (decide (Q15.2.cells.length=0)) (some (.ret (.pv (.tup [(.sl 1 []),(I 1)])),[])) none) none) (
   some (.ret (.pv (.tup [(.sl 1 []),(I 0)])),[]))))) (fun A8 H9=>(xn (.pv A8)).bind fun Z10=>cond (!Z10) (
  (we (.pv A8)).bind fun Q11=>cond (decide (Q11.1=225)) (cond (decide (Q11.2.cells.length=0)) (some (.ret (.pv (.tup [(.sl 1 []),(I 1)])),[])) none) none) (
  some (.ret (.pv (.tup [(.sl 1 []),(I 0)])),[])))) (fun A5 H6=>(xn (.pv A5)).bind fun Z7=>cond (!Z7) (
  (we (.pv A5)).bind fun Q8=>cond (decide (Q8.1=225)) (cond (decide (Q8.2.cells.length=0)) (some (.ret (.pv (.tup [(.sl 1 []),(I 1)])),[])) none) none) (
  some (.ret (.pv (.tup [(.sl 1 []),(I 0)])),[])))) (fun A1 H2=>(xn (.pv A1)).bind fun Z3=>cond (!Z3) (
  (we (.pv A1)).bind fun Q4=>cond (decide (Q4.1=225)) (cond (decide (Q4.2.cells.length=0)) (some (.ret (.pv (.tup [(.sl 1 []),(I 1)])),[])) none) none) (
  some (.ret (.pv (.tup [(.sl 1 []),(I 0)])),[]))):=(ub (f:=107) (g:=172) (fn:=Tryz.f107) (gn:=Tryz.f172) (d:=⟨sub XB [0],sub XB [1,1],sub rG [1],[2,3],2,11⟩) (by kernel_rfl) (by kernel_rfl) (by kernel_rfl) (by kernel_rfl) (by kernel_rfl) _ _).trans (by kernel_rfl)
noncomputable def Ql:Code:=Tryz.f135.body.getD .skip
noncomputable def Ve (i0:Int) (p1:PV) (i2 i3 i4 i5:Int) (xs6 xs7:List PV) (i8 i9 i10:Int) (xs11 xs12:List PV) (i13 i14 i15:Int) (xs16 xs17:List PV):Option (Out×ze) :=
 zY (zs env ev zI 65 135 0 (sub Ql (o1 8 [0,1,0,0]))) (zD env 135 0 3) (zG 0 (zT (zH env ev 65 135 0 (sub Ql (o1 8 [1]))) (zX env 135 Tryz.f135.results.toList 0))) ⟨zQ [(1,(.ptr 0 0)),(2,(.ptr 1 0)),(3,(.pv (I i0))),(4,(.pv p1)),(5,(.ptr 2 0)),(6,(.pv (I i2)))],[[(.pv (I i3)),(.pv (I i4)),(.pv (I i5)),(.pv (.sl 1 xs6)),(.pv (.sl 5 xs7))],[(.pv (I i8)),(.pv (I i9)),(.pv (I i10)),(.slu 5 1 xs11),(.slu 53 5 xs12)],[(.pv (I i13)),(.pv (I i14)),(.pv (I i15)),(.slu 5 1 xs16),(.slu 53 5 xs17)]]⟩
noncomputable def Vf (p0:PV) (i1 i2 i3 i4:Int) (xs5 xs6:List PV) (i7 i8 i9:Int) (xs10 xs11:List PV) (i12 i13 i14:Int) (xs15 xs16:List PV):Option (Out×ze) :=
 zY (zs env ev zI 65 135 2 (sub Ql (o1 9 [0,1,0,0]))) (zD env 135 2 3) (zG 2 (zT (zH env ev 65 135 0 (sub Ql (o1 9 [1]))) (zX env 135 Tryz.f135.results.toList 0))) ⟨zQ [(1,(.ptr 0 0)),(2,(.ptr 1 0)),(4,(.pv p0)),(5,(.ptr 2 0)),(7,(.pv (I i1)))],[[(.pv (I i2)),(.pv (I i3)),(.pv (I i4)),(.pv (.sl 1 xs5)),(.pv (.sl 5 xs6))],[(.pv (I i7)),(.pv (I i8)),(.pv (I i9)),(.slu 5 1 xs10),(.slu 53 5 xs11)],[(.pv (I i12)),(.pv (I i13)),(.pv (I i14)),(.slu 5 1 xs15),(.slu 53 5 xs16)]]⟩
theorem za8 (i0:Int) (p1:PV) (i2 i3 i4 i5:Int) (xs6 xs7:List PV) (i8 i9 i10:Int) (xs11 xs12:List PV) (i13 i14 i15:Int) (xs16 xs17:List PV):Ve i0 p1 i2 i3 i4 i5 xs6 xs7 i8 i9 i10 xs11 xs12 i13 i14 i15 xs16 xs17 =
 cond (decide (i2<i0)) (
 cond (decide (0<=i2)&&decide (i2<(xs6.length:Int))) ((xs6[(i2).toNat]?).bind fun P1=>(P1.cells[0]?).bind fun P2=>cond ((decide (P2.cells.length=1)&&P2.cells.all PV.isCell)&&true) (cond (zJ (xs16.length+1) 1) (Ve i0 p1 (IntKind.wrap .i64 (i2+1)) i3 i4 i5 xs6 xs7 i8 i9 i10 xs11 xs12 i13 i14 i15 (xs16++[P2]) xs17) none) none) none) (
 Vf p1 0 i3 i4 i5 xs6 xs7 i8 i9 i10 xs11 xs12 i13 i14 i15 xs16 xs17):=(z4 ..).trans (by kernel_rfl)
theorem za9 (p0:PV) (i1 i2 i3 i4:Int) (xs5 xs6:List PV) (i7 i8 i9:Int) (xs10 xs11:List PV) (i12 i13 i14:Int) (xs15 xs16:List PV):Vf p0 i1 i2 i3 i4 xs5 xs6 i7 i8 i9 xs10 xs11 i12 i13 i14 xs15 xs16 =
 (za .i64 (.pv p0)).bind fun N1=>cond (decide (i1<N1)) (
 cond (decide (0<=i1)&&decide (i1<(xs6.length:Int))) ((xs6[(i1).toNat]?).bind fun P2=>cond (decide (5<=P2.cells.length)) (cp (ev 135 [(.pv (.agg ((P2.cells.drop 0).take 5)))] []) (fun P5=>cond ((decide (P5.cells.length=5)&&P5.cells.all PV.isCell)&&true) (cond (zJ (xs16.length+1) 72) (Vf p0 (IntKind.wrap .i64 (i1+1)) i2 i3 i4 xs5 xs6 i7 i8 i9 xs10 xs11 i12 i13 i14 xs15 (xs16++[P5])) none) none)) none) none) (
 some (.ret (.pv (.agg [(I i12),(I i13),(I i14),(.sl 1 xs15),(.sl 5 xs16)])),[])):=(z4 ..).trans (by kernel_rfl)
theorem zjm (x0_0 x0_1 x0_2:Int) (x0_3 x0_4:List PV):ev 135 [(.pv (.agg [(I x0_0),(I x0_1),(I x0_2),(.sl 1 x0_3),(.sl 5 x0_4)]))] [] =
 cond (x0_0==1) (
 cp (ev 125 [(.pv (.sl 1 x0_3))] []) (fun P3=>(za .i64 (.pv P3)).bind fun N4=>cp (ev 126 [(.pv (.sl 5 x0_4))] []) (fun P7=>Ve (IntKind.wrap .i64 (8*N4)) P7 0 x0_0 x0_1 x0_2 x0_3 x0_4 0 0 0 [] [] x0_0 x0_1 x0_2 [] []))) (
 Ve (x0_3.length:Int) (I (x0_4.length:Int)) 0 x0_0 x0_1 x0_2 x0_3 x0_4 0 0 0 [] [] x0_0 x0_1 x0_2 [] []):=zi (fn:=Tryz.f135) _ _
noncomputable def gY:Code:=Tryz.f142.body.getD .skip
noncomputable def QX (i0 i1 i2:Int):Option (Out×ze) :=
 zY (zs env ev zI 13 142 0 (sub gY [1,1,0,1,0,0])) (zD env 142 0 0) (zG 0 (zT (zH env ev 13 142 0 (sub gY [1,1,1])) (zX env 142 Tryz.f142.results.toList 0))) ⟨zQ [(0,(.pv (I i0))),(3,(.pv (U i1))),(4,(.pv (I i2)))],[]⟩
theorem zaW (i0 i1 i2:Int):QX i0 i1 i2 =
 cond (decide (i2<i0)) (
 QX i0 (IntKind.wrap .u64 (i1*2)) (IntKind.wrap .i64 (i2+1))) (
 some (.ret (.pv (U i1)),[])):=(z4 ..).trans (by kernel_rfl)
theorem ziW (x0:Int):ev 142 [(.pv (I x0))] [] =
 QX x0 1 0:=zi (fn:=Tryz.f142) _ _
noncomputable def rN:Code:=Tryz.f153.body.getD .skip
noncomputable def Qb (xs0:List PV) (i1 i2 i3 i4 i5:Int) (xs6 xs7:List PV) (i8 i9 i10:Int) (xs11 xs12:List PV) (i13 i14 i15:Int) (xs16 xs17:List PV):Option (Out×ze) :=
 zY (zs env ev zI 51 153 0 (sub rN [1,1,1,1,1,0,1,0,0])) (zD env 153 0 3) (zG 0 (zT (zH env ev 51 153 0 (sub rN [1,1,1,1,1,1])) (zX env 153 Tryz.f153.results.toList 0))) ⟨zQ [(2,(.ptr 1 0)),(3,(.ptr 2 0)),(36,(.pv (.sl 5 xs0))),(37,(.pv (I i1))),(38,(.pv (I i2)))],[[(.pv (I i3)),(.pv (I i4)),(.pv (I i5)),(.pv (.sl 1 xs6)),(.pv (.sl 5 xs7))],[(.pv (I i8)),(.pv (I i9)),(.pv (I i10)),(.slu 5 1 xs11),(.slu 53 5 xs12)],[(.pv (I i13)),(.pv (I i14)),(.pv (I i15)),(.slu 5 1 xs16),(.slu 53 5 xs17)]]⟩
theorem ze7 (xs0:List PV) (i1 i2 i3 i4 i5:Int) (xs6 xs7:List PV) (i8 i9 i10:Int) (xs11 xs12:List PV) (i13 i14 i15:Int) (xs16 xs17:List PV):Qb xs0 i1 i2 i3 i4 i5 xs6 xs7 i8 i9 i10 xs11 xs12 i13 i14 i15 xs16 xs17 =
 cond (decide (i2<i1)) (
 cond (decide (0<=i2)&&decide (i2<(xs0.length:Int))) ((xs0[(i2).toNat]?).bind fun P1=>cond (decide (5<=P1.cells.length)) (cond (decide (((P1.cells.drop 0).take 5).length=5)) ((((P1.cells.drop 0).take 5)[0]?).bind fun P2=>(((P1.cells.drop 0).take 5)[1]?).bind fun P3=>(((P1.cells.drop 0).take 5)[2]?).bind fun P4=>(((P1.cells.drop 0).take 5)[3]?).bind fun P5=>(((P1.cells.drop 0).take 5)[4]?).bind fun P6=>cond (P2.isCell&&(P3.isCell&&(P4.isCell&&(P5.isCell&&(P6.isCell&&true))))) (cp (ev 153 [(.pv (.agg [P2,P3,P4,P5,P6]))] []) (fun P9=>cond ((decide (P9.cells.length=5)&&P9.cells.all PV.isCell)&&true) (cond (zJ (xs17.length+1) 72) (Qb xs0 i1 (IntKind.wrap .i64 (i2+1)) i3 i4 i5 xs6 xs7 i8 i9 i10 xs11 xs12 i13 i14 i15 xs16 (xs17++[P9])) none) none)) none) none) none) none) (
 some (.ret (.pv (.agg [(I i13),(I i14),(I i15),(.sl 1 xs16),(.sl 5 xs17)])),[])):=(z4 ..).trans (by kernel_rfl)
theorem zpt (x0_0 x0_1 x0_2:Int) (x0_3 x0_4:List PV):ev 153 [(.pv (.agg [(I x0_0),(I x0_1),(I x0_2),(.sl 1 x0_3),(.sl 5 x0_4)]))] [] =
 cond (x0_0==1) (
 zq (ev 214 [(.pv (.sl 1 x0_3))] []) (fun A1 H2=>(zf A1).bind fun P3=>(za .i64 (.pv P3)).bind fun N4=>cond (decide (0<=(IntKind.wrap .i64 (8*N4)))&&decide ((IntKind.wrap .i64 (8*N4))<=(x0_3.length:Int))) (cp (ev 215 [(.pv (.sl 5 x0_4))] []) (fun P7=>(yB (.pv P7)).bind fun Q8=>cond (decide (0<=Q8.2)&&decide (Q8.2<=(x0_4.length:Int))) (cond (zJ (0+((x0_3.take (IntKind.wrap .i64 (8*N4)).toNat).drop 0).length) 1) (Qb ((x0_4.take (Q8.2).toNat).drop 0) (((x0_4.take (Q8.2).toNat).drop 0).length:Int) 0 x0_0 x0_1 x0_2 x0_3 x0_4 0 0 0 [] [] x0_0 x0_1 x0_2 ((x0_3.take (IntKind.wrap .i64 (8*N4)).toNat).drop 0) []) none) none)) none) (fun A1 H2=>none)) (
 cond (zJ (0+x0_3.length) 1) (Qb x0_4 (x0_4.length:Int) 0 x0_0 x0_1 x0_2 x0_3 x0_4 0 0 0 [] [] x0_0 x0_1 x0_2 x0_3 []) none):=zi (fn:=Tryz.f153) _ _
theorem ziA (x0_0 x0_1 x0_2:Int) (x0_3 x0_4:List PV):ev 164 [(.pv (.agg [(I x0_0),(I x0_1),(I x0_2),(.sl 1 x0_3),(.sl 5 x0_4)]))] [] =
 zq (ev 165 [(.pv (.agg [(I x0_0),(I x0_1),(I x0_2),(.sl 1 x0_3),(.sl 5 x0_4)]))] []) (fun A1 H2=>(yx 30 1 A1).bind fun X3=>some (.ret (.pv (.sl 1 [(.sl 1 X3)])),[])) (fun A1 H2=>some (.pan A1,[])):=zi (fn:=Tryz.f164) _ _
noncomputable def rI:Code:=Tryz.f166.body.getD .skip
noncomputable def VH (xs0:List PV) (i1 i2:Int):Option (Out×ze) :=
 zY (zs env ev zI 16 166 0 (sub rI [1,0,1,0,0])) (zD env 166 0 0) (zG 0 (zT (zH env ev 16 166 0 (sub rI [1,1])) (zX env 166 Tryz.f166.results.toList 0))) ⟨zQ [(0,(.slu 5 1 xs0)),(1,(.pv (I i1))),(5,(.pv (I i2)))],[]⟩
theorem zcw (xs0:List PV) (i1 i2:Int):VH xs0 i1 i2 =
 cond (decide (i2<4)) (
 cond (zJ (xs0.length+1) 1) (VH (xs0++[(U8 (IntKind.wrap .u8 i1))]) (Int.fdiv i1 (2^(min 8 64))) (IntKind.wrap .i64 (i2+1))) none) (
 some (.ret (.slu 5 1 xs0),[])):=(z4 ..).trans (by kernel_rfl)
theorem zln (x0:List PV) (x1:Int):ev 166 [(.slu 5 1 x0),(.pv (I x1))] [] =
 VH x0 x1 0:=zi (fn:=Tryz.f166) _ _
theorem zlm (x0:Int):ev 167 [(.pv (I x0))] [] =
 some (.ret (.pv (I (IntKind.wrap .i64 ((IntKind.wrap .i64 (Int.tdiv (IntKind.wrap .i64 ((IntKind.wrap .i64 ((IntKind.wrap .i64 (4*(IntKind.wrap .i64 (x0+1))))+8))-1)) 8))*8)))),[]):=zi (fn:=Tryz.f167) _ _
theorem zct (x0:Bool):ev 174 [(.pv (Bo x0))] [] =
 cond (!x0) (
 some (.pan (.ifc 225 (.agg [])),[])) (
 some (.ret (.pv (.tup [])),[])):=zi (fn:=Tryz.f174) _ _
theorem zkt (x0:List PV) (x1_0 x1_1 x1_2:Int):ev 176 [(.pv (.sl 1 x0)),(.pv (.agg [(I x1_0),(I x1_1),(I x1_2)]))] [] =
 cp (ev 178 [(.pv (.sl 1 x0)),(.pv (.agg [(I x1_0),(I x1_1),(I x1_2)]))] []) (fun P3=>tK P3 0 fun P5=>tK P3 1 fun P7=>tK P3 2 fun P9=>xJ P5 (fun P10 P11 P12 P13 P14=>Zc P7 (fun P15=>cp (ev 153 [(.pv (.agg [P10,P11,P12,P13,P14]))] []) (fun P18=>xJ P18 (fun P19 P20 P21 P22 P23=>some (.ret (.pv (.tup [(.agg [P19,P20,P21,P22,P23]),P9])),[])))))):=zi (fn:=Tryz.f176) _ _
noncomputable def rE:Code:=Tryz.f177.body.getD .skip
noncomputable def KE (p0:PV) (xs1:List PV) (i2 i3:Int):Option (Out×ze) :=
 zY (zs env ev zI 20 177 0 (sub rE [1,1,0,1,0,0])) (zD env 177 0 0) (zG 0 (zT (zH env ev 20 177 0 (sub rE [1,1,1])) (zX env 177 Tryz.f177.results.toList 0))) ⟨zQ [(3,(.pv p0)),(7,(.pv (.sl 1 xs1))),(8,(.pv (I i2))),(9,(.pv (I i3)))],[]⟩
theorem zcl (p0:PV) (xs1:List PV) (i2 i3:Int):KE p0 xs1 i2 i3 =
 cond (decide (i3<i2)) (
 cond (decide (0<=i3)&&decide (i3<(xs1.length:Int))) ((xs1[(i3).toNat]?).bind fun P1=>(P1.cells[0]?).bind fun P2=>cond ((decide (P2.cells.length=1)&&P2.cells.all PV.isCell)&&true) (cp (ev 117 [(.pv (.sl 1 [P2]))] []) (fun P5=>cp (ev 232 [(.pv p0),(.pv P5)] []) (fun P8=>KE P8 xs1 i2 (IntKind.wrap .i64 (i3+1))))) none) none) (
 some (.ret (.pv p0),[])):=(z4 ..).trans (by kernel_rfl)
theorem zlh (x0:List PV):ev 177 [(.pv (.sl 1 x0))] [] =
 cp (ev 231 [] []) (fun P3=>KE P3 x0 (x0.length:Int) 0):=zi (fn:=Tryz.f177) _ _
noncomputable def rC:Code:=Tryz.f182.body.getD .skip
noncomputable def Wb (i0 i1:Int) (xs2 xs3:List PV) (i4 i5 i6 i7 i8 i9 i10 i11 i12 i13 i14 i15 i16 i17 i18 i19:Int):Option (Out×ze) :=
 zY (zs env ev zI 23 182 0 (sub rC [1,0,1,0,0])) (zD env 182 0 3) (zG 0 (zT (zH env ev 23 182 0 (sub rC [1,1])) (zX env 182 Tryz.f182.results.toList 0))) ⟨zQ [(3,(.ptr 0 0)),(4,(.ptr 1 0)),(5,(.ptr 2 0)),(9,(.pv (I i0))),(10,(.pv (I i1)))],[[(.pv (.sl 1 xs2)),(.pv (.sl 1 xs3))],[(.pv (I i4)),(.pv (I i5)),(.pv (I i6)),(.pv (I i7)),(.pv (I i8)),(.pv (I i9)),(.pv (I i10)),(.pv (I i11))],[(.pv (I i12)),(.pv (I i13)),(.pv (I i14)),(.pv (I i15)),(.pv (I i16)),(.pv (I i17)),(.pv (I i18)),(.pv (I i19))]]⟩
theorem zb2 (i0 i1:Int) (xs2 xs3:List PV) (i4 i5 i6 i7 i8 i9 i10 i11 i12 i13 i14 i15 i16 i17 i18 i19:Int):Wb i0 i1 xs2 xs3 i4 i5 i6 i7 i8 i9 i10 i11 i12 i13 i14 i15 i16 i17 i18 i19 =
 cond (decide (i1<i0)) (
 zq (ev 238 [(.pv (.agg [(I i4),(I i5),(I i6),(I i7),(I i8),(I i9),(I i10),(I i11)])),(.pv (I i1))] []) (fun A1 H2=>(zf A1).bind fun P3=>cp (ev 238 [(.pv (.agg [(I i12),(I i13),(I i14),(I i15),(I i16),(I i17),(I i18),(I i19)])),(.pv (I i1))] []) (fun P6=>cp (ev 181 [(.pv (.agg [(.sl 1 xs2),(.sl 1 xs3)])),(.pv P3),(.pv P6)] []) (fun P9=>(z7 (.pv P9)).bind fun B10=>cond (!B10) (
 some (.ret (.pv (Bo false)),[])) (
 Wb i0 (IntKind.wrap .i64 (i1+1)) xs2 xs3 i4 i5 i6 i7 i8 i9 i10 i11 i12 i13 i14 i15 i16 i17 i18 i19)))) (fun A1 H2=>none)) (
 some (.ret (.pv (Bo true)),[])):=(z4 ..).trans (by kernel_rfl)
theorem zkS (x0_0 x0_1:List PV) (x1_0 x1_1 x1_2 x1_3 x1_4 x1_5 x1_6 x1_7 x2_0 x2_1 x2_2 x2_3 x2_4 x2_5 x2_6 x2_7:Int):ev 182 [(.pv (.agg [(.sl 1 x0_0),(.sl 1 x0_1)])),(.pv (.agg [(I x1_0),(I x1_1),(I x1_2),(I x1_3),(I x1_4),(I x1_5),(I x1_6),(I x1_7)])),(.pv (.agg [(I x2_0),(I x2_1),(I x2_2),(I x2_3),(I x2_4),(I x2_5),(I x2_6),(I x2_7)]))] [] =
 Wb x1_6 0 x0_0 x0_1 x1_0 x1_1 x1_2 x1_3 x1_4 x1_5 x1_6 x1_7 x2_0 x2_1 x2_2 x2_3 x2_4 x2_5 x2_6 x2_7:=zi (fn:=Tryz.f182) _ _
noncomputable def rL:Code:=Tryz.f185.body.getD .skip
noncomputable def V8 (xs0:List PV) (p1:PV) (i2 i3:Int):Option (Out×ze) :=
 zY (zs env ev zI 22 185 0 (sub rL [1,1,0,1,0,0])) (zD env 185 0 0) (zG 0 (zT (zH env ev 22 185 0 (sub rL [1,1,1])) (zX env 185 Tryz.f185.results.toList 0))) ⟨zQ [(3,(.slu 5 1 xs0)),(8,(.pv p1)),(9,(.pv (I i2))),(10,(.pv (I i3)))],[]⟩
theorem zeS (xs0:List PV) (p1:PV) (i2 i3:Int):V8 xs0 p1 i2 i3 =
 cond (decide (i3<i2)) (
 (zE p1).bind fun L1=>cond ((decide (L1.1=1)&&decide (0<=i3))&&decide (i3<(L1.2.length:Int))) ((L1.2[(i3).toNat]?).bind fun P2=>(P2.cells[0]?).bind fun P3=>(za .u8 (.pv P3)).bind fun N4=>cond (N4 != 0) (
 cond ((decide (P3.cells.length=1)&&P3.cells.all PV.isCell)&&true) (cond (zJ (xs0.length+1) 1) (V8 (xs0++[P3]) p1 i2 (IntKind.wrap .i64 (i3+1))) none) none) (
 V8 xs0 p1 i2 (IntKind.wrap .i64 (i3+1)))) none) (
 some (.ret (.pv (.sl 1 xs0)),[])):=(z4 ..).trans (by kernel_rfl)
theorem zpe (x0:Int):ev 185 [(.pv (U x0))] [] =
 cp (ev 117 [(.pv (.sl 1 [(U x0)]))] []) (fun P3=>(zE P3).bind fun L4=>V8 [] P3 (L4.2.length:Int) 0):=zi (fn:=Tryz.f185) _ _
theorem zja (x0:Int):ev 189 [(.pv (I x0))] [] =
 cond (x0==1) (
 some (.ret (.pv (I 1)),[])) (
 cond (x0==2) (
  some (.ret (.pv (I 8)),[])) (
  cond (x0==3) (
   some (.ret (.pv (I 16)),[])) (
   cond (x0==4) (
    some (.ret (.pv (I 32)),[])) (
    cond (x0==5) (
     some (.ret (.pv (I 64)),[])) (
     cond (x0==6) (
      some (.ret (.pv (I 64)),[])) (
      some (.ret (.pv (I 0)),[]))))))):=zi (fn:=Tryz.f189) _ _
theorem znl (x0:Int):ev 192 [(.pv (U x0))] [] =
 cp (ev 245 [(.pv (U x0)),(.pv (I 0)),(.pv (I 2))] []) (fun P3=>(yB (.pv P3)).bind fun Q4=>cond ((0:Int)==(IntKind.wrap .i64 Q4.2)) (
 cp (ev 341 [(.pv (U x0))] []) (fun P7=>wk P7 (fun P8 P9 P10 P11 P12 P13 P14 P15 P16 P17=>cond (P9.isCell&&(P10.isCell&&(P11.isCell&&(P12.isCell&&(P13.isCell&&(P14.isCell&&(P15.isCell&&(P16.isCell&&(P17.isCell&&true))))))))) (some (.ret (.pv (.agg [(I (IntKind.wrap .i64 Q4.2)),P9,P10,P11,P12,P13,P14,P15,P16,P17])),[])) none))) (
 cond ((1:Int)==(IntKind.wrap .i64 Q4.2)) (
  cp (ev 343 [(.pv (U x0))] []) (fun P7=>wk P7 (fun P8 P9 P10 P11 P12 P13 P14 P15 P16 P17=>cond (P9.isCell&&(P10.isCell&&(P11.isCell&&(P12.isCell&&(P13.isCell&&(P14.isCell&&(P15.isCell&&(P16.isCell&&(P17.isCell&&true))))))))) (some (.ret (.pv (.agg [(I (IntKind.wrap .i64 Q4.2)),P9,P10,P11,P12,P13,P14,P15,P16,P17])),[])) none))) (
  cond ((2:Int)==(IntKind.wrap .i64 Q4.2)) (
   cp (ev 344 [(.pv (U x0))] []) (fun P7=>wk P7 (fun P8 P9 P10 P11 P12 P13 P14 P15 P16 P17=>cond (P9.isCell&&(P10.isCell&&(P11.isCell&&(P12.isCell&&(P13.isCell&&(P14.isCell&&(P15.isCell&&(P16.isCell&&(P17.isCell&&true))))))))) (some (.ret (.pv (.agg [(I (IntKind.wrap .i64 Q4.2)),P9,P10,P11,P12,P13,P14,P15,P16,P17])),[])) none))) (
   cond ((3:Int)==(IntKind.wrap .i64 Q4.2)) (
    cp (ev 345 [(.pv (U x0))] []) (fun P7=>wk P7 (fun P8 P9 P10 P11 P12 P13 P14 P15 P16 P17=>cond (P9.isCell&&(P10.isCell&&(P11.isCell&&(P12.isCell&&(P13.isCell&&(P14.isCell&&(P15.isCell&&(P16.isCell&&(P17.isCell&&true))))))))) (some (.ret (.pv (.agg [(I (IntKind.wrap .i64 Q4.2)),P9,P10,P11,P12,P13,P14,P15,P16,P17])),[])) none))) (
    none))))):=zi (fn:=Tryz.f192) _ _
noncomputable def rq:Code:=Tryz.f196.body.getD .skip
noncomputable def Kh (xs0:List PV) (i1 i2:Int) (p3:PV) (i4:Int):Option (Out×ze) :=
 zY (zs env ev zI 26 196 0 (sub rq [1,1,0,1,0,0])) (zD env 196 0 0) (zG 0 (zT (zH env ev 26 196 0 (sub rq [1,1,1])) (zX env 196 Tryz.f196.results.toList 0))) ⟨zQ [(0,(.pv (.sl 1 xs0))),(2,(.pv (I i1))),(3,(.pv (I i2))),(9,(.pv p3)),(10,(.pv (I i4)))],[]⟩
theorem zbm (xs0:List PV) (i1 i2:Int) (p3:PV) (i4:Int):Kh xs0 i1 i2 p3 i4 =
 cond (decide (i4<i2)) (
 cp (ev 133 [(.pv (.sl 1 xs0)),(.pv p3),(.pv (I (IntKind.wrap .i64 (i1+i4))))] []) (fun P3=>(za .i64 (.pv P3)).bind fun N4=>cond (decide (N4<0)) (
 some (.ret (.pv (I (-1))),[])) (
 Kh xs0 i1 i2 P3 (IntKind.wrap .i64 (i4+1))))) (
 some (.ret (.pv p3),[])):=(z4 ..).trans (by kernel_rfl)
theorem zjy (x0:List PV) (x1 x2 x3:Int):ev 196 [(.pv (.sl 1 x0)),(.pv (I x1)),(.pv (I x2)),(.pv (I x3))] [] =
 Kh x0 x2 x3 (I x1) 0:=zi (fn:=Tryz.f196) _ _
noncomputable def Xz:Code:=Tryz.f197.body.getD .skip
noncomputable def Vb (xs0:List PV) (i1 i2 i3:Int):Option (Out×ze) :=
 zY (zs env ev zI 40 197 0 (sub Xz [1,0,1,0,0])) (zD env 197 0 0) (zG 0 (zT (zH env ev 40 197 0 (sub Xz [1,1])) (zX env 197 Tryz.f197.results.toList 0))) ⟨zQ [(0,(.pv (.sl 1 xs0))),(1,(.pv (I i1))),(2,(.pv (I i2))),(8,(.pv (I i3)))],[]⟩
noncomputable def XQ (xs0:List PV) (i1 i2 i3 i4:Int):Option (Out×ze) :=
 zY (zs env ev zI 40 197 2 (sub Xz [1,0,1,0,0,1,0,0,1,0,0])) (zD env 197 2 0) (zG 2 (zG 1 (zT (zH env ev 40 197 0 (sub Xz [1,0,1,0,0,1,1])) (ZM (zs env ev zI 40 197 0 (sub Xz [1,0,1,0,0])) (zD env 197 0 0) (zG 0 (zT (zH env ev 40 197 0 (sub Xz [1,1])) (zX env 197 Tryz.f197.results.toList 0))))))) ⟨zQ [(0,(.pv (.sl 1 xs0))),(1,(.pv (I i1))),(2,(.pv (I i2))),(8,(.pv (I i3))),(9,(.pv (I i4)))],[]⟩
theorem za4 (xs0:List PV) (i1 i2 i3:Int):Vb xs0 i1 i2 i3 =
 cond (decide (i3<(xs0.length:Int))) (
 XQ xs0 i1 i2 i3 0) (
 some (.ret (.pv (.tup [(U 0),(Bo false)])),[])):=(z4 ..).trans (by kernel_rfl)
theorem Q5 (xs0:List PV) (i1 i2 i3 i4:Int):XQ xs0 i1 i2 i3 i4 =
 cond (decide (0<=i3)&&decide (i3<(xs0.length:Int))) ((xs0[(i3).toNat]?).bind fun P1=>(P1.cells[0]?).bind fun P2=>(zE P2).bind fun L3=>cond (decide (i4<(L3.2.length:Int))) (
 cond (i3==i1) (
 cond (i4==i2) (
 cond (decide (0<=i3)&&decide (i3<(xs0.length:Int))) ((xs0[(i3).toNat]?).bind fun P4=>(P4.cells[0]?).bind fun P5=>(zE P5).bind fun L6=>cond ((decide (L6.1=1)&&decide (0<=i4))&&decide (i4<(L6.2.length:Int))) ((L6.2[(i4).toNat]?).bind fun P7=>(P7.cells[0]?).bind fun P8=>some (.ret (.pv (.tup [P8,(Bo true)])),[])) none) none) (
 XQ xs0 i1 i2 i3 (IntKind.wrap .i64 (i4+1)))) (
 XQ xs0 i1 i2 i3 (IntKind.wrap .i64 (i4+1)))) (
 Vb xs0 i1 i2 (IntKind.wrap .i64 (i3+1)))) none:=(z4 ..).trans (by kernel_rfl)
theorem zi9 (x0:List PV) (x1 x2:Int):ev 197 [(.pv (.sl 1 x0)),(.pv (I x1)),(.pv (I x2))] [] =
 Vb x0 x1 x2 0:=zi (fn:=Tryz.f197) _ _
noncomputable def rO:Code:=Tryz.f219.body.getD .skip
noncomputable def Jx (i0 i1:Int) (xs2:List PV) (i3 i4 i5 i6 i7:Int) (xs8 xs9:List PV):Option (Out×ze) :=
 zY (zs env ev zI 29 219 0 (sub rO [1,1,0,1,0,0])) (zD env 219 0 1) (zG 0 (zT (zH env ev 29 219 0 (sub rO [1,1,1])) (zX env 219 Tryz.f219.results.toList 0))) ⟨zQ [(4,(.pv (I i0))),(5,(.pv (I i1))),(9,(.pv (.sl 5 xs2))),(10,(.pv (I i3))),(11,(.pv (I i4)))],[[(.pv (I i5)),(.pv (I i6)),(.pv (I i7)),(.pv (.sl 1 xs8)),(.pv (.sl 5 xs9))]]⟩
theorem ze8 (i0 i1:Int) (xs2:List PV) (i3 i4 i5 i6 i7:Int) (xs8 xs9:List PV):Jx i0 i1 xs2 i3 i4 i5 i6 i7 xs8 xs9 =
 cond (decide (i4<i3)) (
 cond (decide (0<=i4)&&decide (i4<(xs2.length:Int))) ((xs2[(i4).toNat]?).bind fun P1=>cond (decide (5<=P1.cells.length)) (cond (decide (((P1.cells.drop 0).take 5).length=5)) ((((P1.cells.drop 0).take 5)[0]?).bind fun P2=>(((P1.cells.drop 0).take 5)[1]?).bind fun P3=>(((P1.cells.drop 0).take 5)[2]?).bind fun P4=>(((P1.cells.drop 0).take 5)[3]?).bind fun P5=>(((P1.cells.drop 0).take 5)[4]?).bind fun P6=>cond (P2.isCell&&(P3.isCell&&(P4.isCell&&(P5.isCell&&(P6.isCell&&true))))) ((zE P5).bind fun L7=>(zE P6).bind fun L8=>Jx (if (IntKind.wrap .i64 (Int.tdiv (L7.2.length:Int) 8))>i0 then (IntKind.wrap .i64 (Int.tdiv (L7.2.length:Int) 8)) else i0) (if (L8.2.length:Int)>i1 then (L8.2.length:Int) else i1) xs2 i3 (IntKind.wrap .i64 (i4+1)) i5 i6 i7 xs8 xs9) none) none) none) none) (
 some (.ret (.pv (.tup [(I i0),(I i1)])),[])):=(z4 ..).trans (by kernel_rfl)
theorem zpu (x0_0 x0_1 x0_2:Int) (x0_3 x0_4:List PV):ev 219 [(.pv (.agg [(I x0_0),(I x0_1),(I x0_2),(.sl 1 x0_3),(.sl 5 x0_4)]))] [] =
 Jx 0 0 x0_4 (x0_4.length:Int) 0 x0_0 x0_1 x0_2 x0_3 x0_4:=zi (fn:=Tryz.f219) _ _
noncomputable def Yz:Code:=Tryz.f228.body.getD .skip
noncomputable def ZR (xs0:List PV) (p1:PV) (i2 i3:Int) (xs4:List PV) (i5 i6 i7:Int) (xs8 xs9:List PV) (p10:PV) (i11:Int) (p12 p13 p14 p15 p16 p17 p18 p19:PV):Option (Out×ze) :=
 zY (zs env ev zI 95 228 1 (sub Yz (o1 10 [0,0]))) (zD env 228 1 3) (zG 1 (zX env 228 Tryz.f228.results.toList 1)) ⟨zQ [(0,(.ptr 0 0)),(7,(.slu 53 5 xs0)),(69,(.pv p1)),(70,(.pv (I i2))),(71,(.pv (I i3)))],[[(.slu 30 1 xs4)],[(.pv (I i5)),(.pv (I i6)),(.pv (I i7)),(.pv (.sl 1 xs8)),(.pv (.sl 5 xs9))],[(.pv p10),(.pv (I i11)),(.pv p12),(.pv p13),(.pv p14),(.pv p15),(.pv p16),(.pv p17),(.pv p18),(.pv p19)]]⟩
noncomputable def Y9 (xs0:List PV) (p1:PV) (i2 i3:Int) (xs4:List PV) (i5 i6 i7:Int) (xs8 xs9:List PV) (p10:PV) (i11:Int) (p12 p13 p14 p15 p16 p17 p18 p19:PV):Option (Out×ze) :=
 zY (zs env ev zI 95 228 1 (sub Yz (o1 10 [0,0]))) (zD env 228 1 3) (zG 1 (zX env 228 Tryz.f228.results.toList 1)) ⟨zQ [(0,(.ptr 0 0)),(7,(.pv (.sl 5 xs0))),(69,(.pv p1)),(70,(.pv (I i2))),(71,(.pv (I i3)))],[[(.slu 30 1 xs4)],[(.pv (I i5)),(.pv (I i6)),(.pv (I i7)),(.pv (.sl 1 xs8)),(.pv (.sl 5 xs9))],[(.pv p10),(.pv (I i11)),(.pv p12),(.pv p13),(.pv p14),(.pv p15),(.pv p16),(.pv p17),(.pv p18),(.pv p19)]]⟩
noncomputable def QT (xs0:List PV) (p1 p2:PV) (i3 i4:Int) (p5:PV) (i6 i7:Int) (xs8:List PV) (i9 i10 i11:Int) (xs12 xs13:List PV) (p14:PV) (i15:Int) (p16 p17 p18 p19 p20 p21 p22 p23:PV):Option (Out×ze) :=
 zY (zs env ev zI 95 228 3 (sub Yz (o1 10 [0,0,1,1,0,0,1,1,0,0]))) (zD env 228 3 3) (zG 3 (zG 2 (zT (zH env ev 95 228 1 (sub Yz (o1 10 [0,0,1,1,1]))) (ZM (zs env ev zI 95 228 1 (sub Yz (o1 10 [0,0]))) (zD env 228 1 3) (zG 1 (zX env 228 Tryz.f228.results.toList 1)))))) ⟨zQ [(0,(.ptr 0 0)),(7,(.slu 53 5 xs0)),(12,(.pv p1)),(69,(.pv p2)),(70,(.pv (I i3))),(71,(.pv (I i4))),(80,(.pv p5)),(81,(.pv (I i6))),(82,(.pv (I i7)))],[[(.slu 30 1 xs8)],[(.pv (I i9)),(.pv (I i10)),(.pv (I i11)),(.pv (.sl 1 xs12)),(.pv (.sl 5 xs13))],[(.pv p14),(.pv (I i15)),(.pv p16),(.pv p17),(.pv p18),(.pv p19),(.pv p20),(.pv p21),(.pv p22),(.pv p23)]]⟩
noncomputable def QU (xs0:List PV) (p1 p2:PV) (i3 i4:Int) (p5:PV) (i6 i7:Int) (xs8:List PV) (i9 i10 i11:Int) (xs12 xs13:List PV) (p14:PV) (i15:Int) (p16 p17 p18 p19 p20 p21 p22 p23:PV):Option (Out×ze) :=
 zY (zs env ev zI 95 228 3 (sub Yz (o1 10 [0,0,1,1,0,0,1,1,0,0]))) (zD env 228 3 3) (zG 3 (zG 2 (zT (zH env ev 95 228 1 (sub Yz (o1 10 [0,0,1,1,1]))) (ZM (zs env ev zI 95 228 1 (sub Yz (o1 10 [0,0]))) (zD env 228 1 3) (zG 1 (zX env 228 Tryz.f228.results.toList 1)))))) ⟨zQ [(0,(.ptr 0 0)),(7,(.pv (.sl 5 xs0))),(12,(.pv p1)),(69,(.pv p2)),(70,(.pv (I i3))),(71,(.pv (I i4))),(80,(.pv p5)),(81,(.pv (I i6))),(82,(.pv (I i7)))],[[(.slu 30 1 xs8)],[(.pv (I i9)),(.pv (I i10)),(.pv (I i11)),(.pv (.sl 1 xs12)),(.pv (.sl 5 xs13))],[(.pv p14),(.pv (I i15)),(.pv p16),(.pv p17),(.pv p18),(.pv p19),(.pv p20),(.pv p21),(.pv p22),(.pv p23)]]⟩
theorem qx (xs0:List PV) (p1:PV) (i2 i3:Int) (xs4:List PV) (i5 i6 i7:Int) (xs8 xs9:List PV) (p10:PV) (i11:Int) (p12 p13 p14 p15 p16 p17 p18 p19:PV):ZR xs0 p1 i2 i3 xs4 i5 i6 i7 xs8 xs9 p10 i11 p12 p13 p14 p15 p16 p17 p18 p19 =
 cond (decide (i3<i2)) (
 (zE p1).bind fun L1=>cond ((decide (L1.1=1)&&decide (0<=i3))&&decide (i3<(L1.2.length:Int))) ((L1.2[(i3).toNat]?).bind fun P2=>(P2.cells[0]?).bind fun P3=>cond (decide (0<=i3)&&decide (i3<(xs0.length:Int))) ((xs0[(i3).toNat]?).bind fun P4=>(P4.cells[4]?).bind fun P5=>(zE P5).bind fun L6=>QT xs0 P3 p1 i2 i3 P5 (L6.2.length:Int) 0 xs4 i5 i6 i7 xs8 xs9 p10 i11 p12 p13 p14 p15 p16 p17 p18 p19) none) none) (
 some (.ret (.pv (.tup [])),[[(.slu 30 1 xs4)]])):=(z4 ..).trans (by kernel_rfl)
theorem zaP (xs0:List PV) (p1:PV) (i2 i3:Int) (xs4:List PV) (i5 i6 i7:Int) (xs8 xs9:List PV) (p10:PV) (i11:Int) (p12 p13 p14 p15 p16 p17 p18 p19:PV):Y9 xs0 p1 i2 i3 xs4 i5 i6 i7 xs8 xs9 p10 i11 p12 p13 p14 p15 p16 p17 p18 p19 =
 cond (decide (i3<i2)) (
 (zE p1).bind fun L1=>cond ((decide (L1.1=1)&&decide (0<=i3))&&decide (i3<(L1.2.length:Int))) ((L1.2[(i3).toNat]?).bind fun P2=>(P2.cells[0]?).bind fun P3=>cond (decide (0<=i3)&&decide (i3<(xs0.length:Int))) ((xs0[(i3).toNat]?).bind fun P4=>(P4.cells[4]?).bind fun P5=>(zE P5).bind fun L6=>QU xs0 P3 p1 i2 i3 P5 (L6.2.length:Int) 0 xs4 i5 i6 i7 xs8 xs9 p10 i11 p12 p13 p14 p15 p16 p17 p18 p19) none) none) (
 some (.ret (.pv (.tup [])),[[(.slu 30 1 xs4)]])):=(z4 ..).trans (by kernel_rfl)
theorem zaQ (xs0:List PV) (p1 p2:PV) (i3 i4:Int) (p5:PV) (i6 i7:Int) (xs8:List PV) (i9 i10 i11:Int) (xs12 xs13:List PV) (p14:PV) (i15:Int) (p16 p17 p18 p19 p20 p21 p22 p23:PV):QT xs0 p1 p2 i3 i4 p5 i6 i7 xs8 i9 i10 i11 xs12 xs13 p14 i15 p16 p17 p18 p19 p20 p21 p22 p23 =
 cond (decide (i7<i6)) (
 (zE p5).bind fun L1=>cond ((decide (L1.1=5)&&decide (0<=i7))&&decide (i7<(L1.2.length:Int))) ((L1.2[(i7).toNat]?).bind fun P2=>cond (decide (5<=P2.cells.length)) (cond (decide (((P2.cells.drop 0).take 5).length=5)) ((((P2.cells.drop 0).take 5)[0]?).bind fun P3=>(((P2.cells.drop 0).take 5)[1]?).bind fun P4=>(((P2.cells.drop 0).take 5)[2]?).bind fun P5=>(((P2.cells.drop 0).take 5)[3]?).bind fun P6=>(((P2.cells.drop 0).take 5)[4]?).bind fun P7=>cond (P3.isCell&&(P4.isCell&&(P5.isCell&&(P6.isCell&&(P7.isCell&&true))))) ((za .i64 (.pv p1)).bind fun N8=>zq (ev 228 [(.ptr 0 0),(.pv (I (IntKind.wrap .i64 (N8+i7)))),(.pv (.agg [P3,P4,P5,P6,P7]))] [[(.slu 30 1 xs8)]]) (fun A9 H10=>(H10[0]?).bind fun C11=>(C11[0]?).bind fun E12=>(yx 30 1 E12).bind fun X13=>cond (decide (C11.length=1)) (cond (decide (H10.length=1)) ((zf A9).bind fun P14=>QT xs0 p1 p2 i3 i4 p5 i6 (IntKind.wrap .i64 (i7+1)) X13 i9 i10 i11 xs12 xs13 p14 i15 p16 p17 p18 p19 p20 p21 p22 p23) none) none) (fun A9 H10=>(H10[0]?).bind fun C11=>(C11[0]?).bind fun E12=>(yx 30 1 E12).bind fun X13=>cond (decide (C11.length=1)) (cond (decide (H10.length=1)) (some (.pan A9,[[(.slu 30 1 X13)]])) none) none)) none) none) none) none) (
 ZR xs0 p2 i3 (IntKind.wrap .i64 (i4+1)) xs8 i9 i10 i11 xs12 xs13 p14 i15 p16 p17 p18 p19 p20 p21 p22 p23):=(z4 ..).trans (by kernel_rfl)
theorem zaR (xs0:List PV) (p1 p2:PV) (i3 i4:Int) (p5:PV) (i6 i7:Int) (xs8:List PV) (i9 i10 i11:Int) (xs12 xs13:List PV) (p14:PV) (i15:Int) (p16 p17 p18 p19 p20 p21 p22 p23:PV):QU xs0 p1 p2 i3 i4 p5 i6 i7 xs8 i9 i10 i11 xs12 xs13 p14 i15 p16 p17 p18 p19 p20 p21 p22 p23 =
 cond (decide (i7<i6)) (
 (zE p5).bind fun L1=>cond ((decide (L1.1=5)&&decide (0<=i7))&&decide (i7<(L1.2.length:Int))) ((L1.2[(i7).toNat]?).bind fun P2=>cond (decide (5<=P2.cells.length)) (cond (decide (((P2.cells.drop 0).take 5).length=5)) ((((P2.cells.drop 0).take 5)[0]?).bind fun P3=>(((P2.cells.drop 0).take 5)[1]?).bind fun P4=>(((P2.cells.drop 0).take 5)[2]?).bind fun P5=>(((P2.cells.drop 0).take 5)[3]?).bind fun P6=>(((P2.cells.drop 0).take 5)[4]?).bind fun P7=>cond (P3.isCell&&(P4.isCell&&(P5.isCell&&(P6.isCell&&(P7.isCell&&true))))) ((za .i64 (.pv p1)).bind fun N8=>zq (ev 228 [(.ptr 0 0),(.pv (I (IntKind.wrap .i64 (N8+i7)))),(.pv (.agg [P3,P4,P5,P6,P7]))] [[(.slu 30 1 xs8)]]) (fun A9 H10=>(H10[0]?).bind fun C11=>(C11[0]?).bind fun E12=>(yx 30 1 E12).bind fun X13=>cond (decide (C11.length=1)) (cond (decide (H10.length=1)) ((zf A9).bind fun P14=>QU xs0 p1 p2 i3 i4 p5 i6 (IntKind.wrap .i64 (i7+1)) X13 i9 i10 i11 xs12 xs13 p14 i15 p16 p17 p18 p19 p20 p21 p22 p23) none) none) (fun A9 H10=>(H10[0]?).bind fun C11=>(C11[0]?).bind fun E12=>(yx 30 1 E12).bind fun X13=>cond (decide (C11.length=1)) (cond (decide (H10.length=1)) (some (.pan A9,[[(.slu 30 1 X13)]])) none) none)) none) none) none) none) (
 Y9 xs0 p2 i3 (IntKind.wrap .i64 (i4+1)) xs8 i9 i10 i11 xs12 xs13 p14 i15 p16 p17 p18 p19 p20 p21 p22 p23):=(z4 ..).trans (by kernel_rfl)
theorem W6 (x0__0:List PV) (x1 x2_0 x2_1 x2_2:Int) (x2_3 x2_4:List PV):ev 228 [(.ptr 0 0),(.pv (I x1)),(.pv (.agg [(I x2_0),(I x2_1),(I x2_2),(.sl 1 x2_3),(.sl 5 x2_4)]))] [[(.slu 30 1 x0__0)]] =
 cond (x2_0==0) (
 some (.ret (.pv (.tup [])),[[(.slu 30 1 x0__0)]])) (
 cond (x2_0==1) (
  zq (ev 269 [(.ptr 0 0),(.pv (.agg [(I x2_0),(I x2_1),(I x2_2),(.sl 1 x2_3),(.sl 5 x2_4)]))] [[(.slu 30 1 x0__0)]]) (fun A1 H2=>(H2[0]?).bind fun C3=>(C3[0]?).bind fun E4=>(yx 30 1 E4).bind fun X5=>cond (decide (C3.length=1)) (cond (decide (H2.length=1)) ((zf A1).bind fun P6=>tK P6 0 fun P8=>tK P6 1 fun P10=>wk P8 (fun P11 P12 P13 P14 P15 P16 P17 P18 P19 P20=>(xx [false,false,false,false,false,false,true,false,false,false] [P11,(I (IntKind.wrap .i64 ((IntKind.wrap .i64 ((x0__0.length:Int)-x1))-1))),P13,P14,P15,P16,P17,P18,P19,P20] [(I 0),(I (IntKind.wrap .i64 ((IntKind.wrap .i64 ((x0__0.length:Int)-x1))-1))),(I 0),(I 0),(I 0),(I 0),(Bo false),(I 0),(PV.v (.int .u32 0)),(PV.v (.int .u32 0))]).bind fun Z21=>cond Z21 (
  zq (ev 252 [(.pv (.agg [P11,(I (-1)),P13,P14,P15,P16,P17,P18,P19,P20]))] []) (fun A22 H23=>(zf A22).bind fun P24=>tK P24 0 fun P26=>tK P24 1 fun P28=>cond (decide (0<=x1)&&decide (x1<(X5.length:Int))) (cond (P26.isCell&&true) (cond (P26.isCell&&true) ((X5[(x1).toNat]?).bind fun P29=>cond (decide (1<=P29.cells.length)) ((setCells P29 0 [P26]).bind fun P30=>(zE P10).bind fun L31=>ZR [(.agg [(I x2_0),(I x2_1),(I x2_2),(.sl 1 x2_3),(.sl 5 x2_4)])] P10 (L31.2.length:Int) 0 (X5.set (x1).toNat P30) x2_0 x2_1 x2_2 x2_3 x2_4 P11 (-1) P13 P14 P15 P16 P17 P18 P19 P20) none) none) none) none) (fun A22 H23=>some (.pan A22,[[(.slu 30 1 X5)]]))) (
  zq (ev 252 [(.pv (.agg [P11,(I (IntKind.wrap .i64 ((IntKind.wrap .i64 ((x0__0.length:Int)-x1))-1))),P13,P14,P15,P16,P17,P18,P19,P20]))] []) (fun A22 H23=>(zf A22).bind fun P24=>tK P24 0 fun P26=>tK P24 1 fun P28=>cond (decide (0<=x1)&&decide (x1<(X5.length:Int))) (cond (P26.isCell&&true) (cond (P26.isCell&&true) ((X5[(x1).toNat]?).bind fun P29=>cond (decide (1<=P29.cells.length)) ((setCells P29 0 [P26]).bind fun P30=>(zE P10).bind fun L31=>ZR [(.agg [(I x2_0),(I x2_1),(I x2_2),(.sl 1 x2_3),(.sl 5 x2_4)])] P10 (L31.2.length:Int) 0 (X5.set (x1).toNat P30) x2_0 x2_1 x2_2 x2_3 x2_4 P11 (IntKind.wrap .i64 ((IntKind.wrap .i64 ((x0__0.length:Int)-x1))-1)) P13 P14 P15 P16 P17 P18 P19 P20) none) none) none) none) (fun A22 H23=>some (.pan A22,[[(.slu 30 1 X5)]]))))) none) none) (fun A1 H2=>(H2[0]?).bind fun C3=>(C3[0]?).bind fun E4=>(yx 30 1 E4).bind fun X5=>cond (decide (C3.length=1)) (cond (decide (H2.length=1)) (some (.pan A1,[[(.slu 30 1 X5)]])) none) none)) (
  cond (x2_1==7) (
   zq (ev 270 [(.ptr 0 0),(.pv (.agg [(I x2_0),(I x2_1),(I x2_2),(.sl 1 x2_3),(.sl 5 x2_4)]))] [[(.slu 30 1 x0__0)]]) (fun A1 H2=>(H2[0]?).bind fun C3=>(C3[0]?).bind fun E4=>(yx 30 1 E4).bind fun X5=>cond (decide (C3.length=1)) (cond (decide (H2.length=1)) ((zf A1).bind fun P6=>tK P6 0 fun P8=>tK P6 1 fun P10=>wk P8 (fun P11 P12 P13 P14 P15 P16 P17 P18 P19 P20=>(xx [false,false,false,false,false,false,true,false,false,false] [P11,(I (IntKind.wrap .i64 ((IntKind.wrap .i64 ((x0__0.length:Int)-x1))-1))),P13,P14,P15,P16,P17,P18,P19,P20] [(I 0),(I (IntKind.wrap .i64 ((IntKind.wrap .i64 ((x0__0.length:Int)-x1))-1))),(I 0),(I 0),(I 0),(I 0),(Bo false),(I 0),(PV.v (.int .u32 0)),(PV.v (.int .u32 0))]).bind fun Z21=>cond Z21 (
   zq (ev 252 [(.pv (.agg [P11,(I (-1)),P13,P14,P15,P16,P17,P18,P19,P20]))] []) (fun A22 H23=>(zf A22).bind fun P24=>tK P24 0 fun P26=>tK P24 1 fun P28=>cond (decide (0<=x1)&&decide (x1<(X5.length:Int))) (cond (P26.isCell&&true) (cond (P26.isCell&&true) ((X5[(x1).toNat]?).bind fun P29=>cond (decide (1<=P29.cells.length)) ((setCells P29 0 [P26]).bind fun P30=>(zE P10).bind fun L31=>Y9 x2_4 P10 (L31.2.length:Int) 0 (X5.set (x1).toNat P30) x2_0 x2_1 x2_2 x2_3 x2_4 P11 (-1) P13 P14 P15 P16 P17 P18 P19 P20) none) none) none) none) (fun A22 H23=>some (.pan A22,[[(.slu 30 1 X5)]]))) (
   zq (ev 252 [(.pv (.agg [P11,(I (IntKind.wrap .i64 ((IntKind.wrap .i64 ((x0__0.length:Int)-x1))-1))),P13,P14,P15,P16,P17,P18,P19,P20]))] []) (fun A22 H23=>(zf A22).bind fun P24=>tK P24 0 fun P26=>tK P24 1 fun P28=>cond (decide (0<=x1)&&decide (x1<(X5.length:Int))) (cond (P26.isCell&&true) (cond (P26.isCell&&true) ((X5[(x1).toNat]?).bind fun P29=>cond (decide (1<=P29.cells.length)) ((setCells P29 0 [P26]).bind fun P30=>(zE P10).bind fun L31=>Y9 x2_4 P10 (L31.2.length:Int) 0 (X5.set (x1).toNat P30) x2_0 x2_1 x2_2 x2_3 x2_4 P11 (IntKind.wrap .i64 ((IntKind.wrap .i64 ((x0__0.length:Int)-x1))-1)) P13 P14 P15 P16 P17 P18 P19 P20) none) none) none) none) (fun A22 H23=>some (.pan A22,[[(.slu 30 1 X5)]]))))) none) none) (fun A1 H2=>(H2[0]?).bind fun C3=>(C3[0]?).bind fun E4=>(yx 30 1 E4).bind fun X5=>cond (decide (C3.length=1)) (cond (decide (H2.length=1)) (some (.pan A1,[[(.slu 30 1 X5)]])) none) none)) (
   zq (ev 268 [(.ptr 0 0),(.pv (.agg [(I x2_0),(I x2_1),(I x2_2),(.sl 1 x2_3),(.sl 5 x2_4)]))] [[(.slu 30 1 x0__0)]]) (fun A1 H2=>(H2[0]?).bind fun C3=>(C3[0]?).bind fun E4=>(yx 30 1 E4).bind fun X5=>cond (decide (C3.length=1)) (cond (decide (H2.length=1)) ((zf A1).bind fun P6=>tK P6 0 fun P8=>tK P6 1 fun P10=>wk P8 (fun P11 P12 P13 P14 P15 P16 P17 P18 P19 P20=>(xx [false,false,false,false,false,false,true,false,false,false] [P11,(I (IntKind.wrap .i64 ((IntKind.wrap .i64 ((x0__0.length:Int)-x1))-1))),P13,P14,P15,P16,P17,P18,P19,P20] [(I 0),(I (IntKind.wrap .i64 ((IntKind.wrap .i64 ((x0__0.length:Int)-x1))-1))),(I 0),(I 0),(I 0),(I 0),(Bo false),(I 0),(PV.v (.int .u32 0)),(PV.v (.int .u32 0))]).bind fun Z21=>cond Z21 (
    zq (ev 252 [(.pv (.agg [P11,(I (-1)),P13,P14,P15,P16,P17,P18,P19,P20]))] []) (fun A22 H23=>(zf A22).bind fun P24=>tK P24 0 fun P26=>tK P24 1 fun P28=>cond (decide (0<=x1)&&decide (x1<(X5.length:Int))) (cond (P26.isCell&&true) (cond (P26.isCell&&true) ((X5[(x1).toNat]?).bind fun P29=>cond (decide (1<=P29.cells.length)) ((setCells P29 0 [P26]).bind fun P30=>(zE P10).bind fun L31=>ZR [(.agg [(I x2_0),(I x2_1),(I x2_2),(.sl 1 x2_3),(.sl 5 x2_4)])] P10 (L31.2.length:Int) 0 (X5.set (x1).toNat P30) x2_0 x2_1 x2_2 x2_3 x2_4 P11 (-1) P13 P14 P15 P16 P17 P18 P19 P20) none) none) none) none) (fun A22 H23=>some (.pan A22,[[(.slu 30 1 X5)]]))) (
    zq (ev 252 [(.pv (.agg [P11,(I (IntKind.wrap .i64 ((IntKind.wrap .i64 ((x0__0.length:Int)-x1))-1))),P13,P14,P15,P16,P17,P18,P19,P20]))] []) (fun A22 H23=>(zf A22).bind fun P24=>tK P24 0 fun P26=>tK P24 1 fun P28=>cond (decide (0<=x1)&&decide (x1<(X5.length:Int))) (cond (P26.isCell&&true) (cond (P26.isCell&&true) ((X5[(x1).toNat]?).bind fun P29=>cond (decide (1<=P29.cells.length)) ((setCells P29 0 [P26]).bind fun P30=>(zE P10).bind fun L31=>ZR [(.agg [(I x2_0),(I x2_1),(I x2_2),(.sl 1 x2_3),(.sl 5 x2_4)])] P10 (L31.2.length:Int) 0 (X5.set (x1).toNat P30) x2_0 x2_1 x2_2 x2_3 x2_4 P11 (IntKind.wrap .i64 ((IntKind.wrap .i64 ((x0__0.length:Int)-x1))-1)) P13 P14 P15 P16 P17 P18 P19 P20) none) none) none) none) (fun A22 H23=>some (.pan A22,[[(.slu 30 1 X5)]]))))) none) none) (fun A1 H2=>(H2[0]?).bind fun C3=>(C3[0]?).bind fun E4=>(yx 30 1 E4).bind fun X5=>cond (decide (C3.length=1)) (cond (decide (H2.length=1)) (some (.pan A1,[[(.slu 30 1 X5)]])) none) none)))):=zi (fn:=Tryz.f228) _ _
end Go.Proofs.YtjbjeeoifhegfaaGreatDoor.E
