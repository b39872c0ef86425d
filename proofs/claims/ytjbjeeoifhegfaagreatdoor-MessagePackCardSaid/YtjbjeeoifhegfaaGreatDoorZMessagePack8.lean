/- This text is one of those that prove the law MessagePack of the given program, as its statement says it: true on every input that the statement covers. Its conditions are the statement's own. -/
import Derived.KernelRfl
import Derived.Test.YtjbjeeoifhegfaaGreatDoorZMessagePack1
import Derived.Test.YtjbjeeoifhegfaaGreatDoorZMessagePack2
import Derived.Test.YtjbjeeoifhegfaaGreatDoorZMessagePack3
set_option linter.unusedVariables false
set_option linter.unusedSimpArgs false
namespace Go.Proofs.YtjbjeeoifhegfaaGreatDoor.E
theorem Wp:ev 33 [] [] =
 zE (ev 16 [(.pv (.sl 1 [(U8 0),(U8 0),(U8 0),(U8 0),(U8 0),(U8 0),(U8 0),(U8 0)])),(.pv (.agg [(I 5),(I 100),(I 100)]))] []) (fun A1 H2 => (KN 0 2 A1).bind fun Q3 => (wA 5 1 Q3.1).bind fun X4 => (Q3.2[1]?).bind fun P5 => zE (ev 18 [(.pv (.sl 1 [(U8 0),(U8 0),(U8 0),(U8 0),(U8 0),(U8 0),(U8 0),(U8 0)])),(.pv (.sl 1 [(U8 0),(U8 0),(U8 0),(U8 0),(U8 1),(U8 0),(U8 0),(U8 0),(U8 0),(U8 0),(U8 0),(U8 0),(U8 0),(U8 0),(U8 0),(U8 0)])),(.pv (.agg [(I 5),(I 100),(I 100)]))] []) (fun A6 H7 => (zl A6).bind fun P8 => (zZ (.pv P8)).bind fun S9 => (S9[0]?).bind fun P10 => (zZ (.pv P8)).bind fun S11 => (S11[1]?).bind fun P12 => zE (ev 18 [(.pv (.sl 1 [(U8 0),(U8 0),(U8 0),(U8 0),(U8 0),(U8 0),(U8 0),(U8 0)])),(.pv (.sl 1 [])),(.pv (.agg [(I 5),(I 100),(I 100)]))] []) (fun A13 H14 => (zl A13).bind fun P15 => (zZ (.pv P15)).bind fun S16 => (S16[0]?).bind fun P17 => (zZ (.pv P15)).bind fun S18 => (S18[1]?).bind fun P19 => zE (ev 19 [(.pv (.sl 1 [(U8 0),(U8 0),(U8 0),(U8 0),(U8 1),(U8 0),(U8 0),(U8 0),(U8 0),(U8 0),(U8 0),(U8 0),(U8 0),(U8 0),(U8 0),(U8 0)]))] []) (fun A20 H21 => (zl A20).bind fun P22 => (zZ (.pv P22)).bind fun S23 => (S23[0]?).bind fun P24 => (zZ (.pv P22)).bind fun S25 => (S25[1]?).bind fun P26 => zE (ev 20 [(.pv P24),(.pv (.agg [(I 5),(I 100),(I 100)]))] []) (fun A27 H28 => (zl A27).bind fun P29 => (zZ (.pv P29)).bind fun S30 => (S30[0]?).bind fun P31 => (zZ (.pv P29)).bind fun S32 => (S32[1]?).bind fun P33 => zE (ev 20 [(.pv P24),(.pv (.agg [(I 0),(I 0),(I 15)]))] []) (fun A34 H35 => (zl A34).bind fun P36 => (zZ (.pv P36)).bind fun S37 => (S37[0]?).bind fun P38 => (zZ (.pv P36)).bind fun S39 => (S39[1]?).bind fun P40 => zE (ev 17 [(.pv (.sl 1 [(U8 0),(U8 0),(U8 0),(U8 0),(U8 0),(U8 0),(U8 0),(U8 0)])),(.pv (.agg [(I 5),(I 100),(I 100)]))] []) (fun A41 H42 => (zl A41).bind fun P43 => (zZ (.pv P43)).bind fun S44 => (S44[0]?).bind fun P45 => (zZ (.pv P43)).bind fun S46 => (S46[1]?).bind fun P47 => (zQ .i64 (.pv P5)).bind fun N48 => cond (N48 == 0) (
 zE (ev 27 [(.pv (.sl 1 X4)),(.pv (.sl 1 [(U8 0),(U8 0),(U8 0),(U8 0),(U8 1),(U8 0),(U8 0),(U8 0),(U8 0),(U8 0),(U8 0),(U8 0),(U8 0),(U8 0),(U8 0),(U8 0)]))] []) (fun A49 H50 => (zl A49).bind fun P51 => (yt (.pv P51)).bind fun B52 => cond B52 (
 (yt (.pv P10)).bind fun B53 => cond B53 (
 (zQ .i64 (.pv P12)).bind fun N54 => cond (N54 == 0) (
 (zQ .i64 (.pv P19)).bind fun N55 => cond (N55 == 1) (
 (zQ .i64 (.pv P26)).bind fun N56 => cond (N56 == 0) (
 zE (ev 27 [(.pv P24),(.pv (.sl 1 [(U8 16),(U8 1),(U8 0),(U8 0)]))] []) (fun A57 H58 => (zl A57).bind fun P59 => (yt (.pv P59)).bind fun B60 => cond B60 (
 (zQ .i64 (.pv P33)).bind fun N61 => cond (N61 == 0) (
 zE (ev 27 [(.pv P31),(.pv (.sl 1 [(U8 0),(U8 0),(U8 0),(U8 0),(U8 1),(U8 0),(U8 0),(U8 0),(U8 0),(U8 0),(U8 0),(U8 0),(U8 0),(U8 0),(U8 0),(U8 0)]))] []) (fun A62 H63 => (zl A62).bind fun P64 => (yt (.pv P64)).bind fun B65 => cond B65 (
 (zQ .i64 (.pv P40)).bind fun N66 => cond (N66 == 11) (
 (zQ .i64 (.pv P47)).bind fun N67 => cond (N67 == 0) (
 zE (ev 42 [(.pv (.sl 1 [(U8 0),(U8 0),(U8 0),(U8 0),(U8 0),(U8 0),(U8 0),(U8 0)]))] []) (fun A68 H69 => (zl A68).bind fun P70 => (zQ .u64 (.pv P45)).bind fun N71 => (zQ .u64 (.pv P70)).bind fun N72 => cond (N71 == N72) (
 zE (ev 35 [(.pv (.sl 1 [(U8 0),(U8 0),(U8 0),(U8 0),(U8 1),(U8 0),(U8 0),(U8 0),(U8 0),(U8 0),(U8 0),(U8 0),(U8 0),(U8 0),(U8 0),(U8 0)])),(.pv (.agg [(I 5),(I 100),(I 100)]))] []) (fun A73 H74 => (zl A73).bind fun P75 => (yt (.pv P75)).bind fun B76 => cond B76 (
 zE (ev 35 [(.pv (.sl 1 [(U8 0),(U8 0),(U8 0),(U8 0),(U8 0),(U8 0),(U8 0),(U8 0)])),(.pv (.agg [(I 5),(I 100),(I 100)]))] []) (fun A77 H78 => (zl A77).bind fun P79 => (yt (.pv P79)).bind fun B80 => some (.ret (.pv (Bo (!B80))),[])) (fun A77 H78 => some (.pan A77,[]))) (
 some (.ret (.pv (Bo false)),[]))) (fun A73 H74 => some (.pan A73,[]))) (
 some (.ret (.pv (Bo false)),[]))) (fun A68 H69 => some (.pan A68,[]))) (
 some (.ret (.pv (Bo false)),[]))) (
 some (.ret (.pv (Bo false)),[]))) (
 some (.ret (.pv (Bo false)),[]))) (fun A62 H63 => some (.pan A62,[]))) (
 some (.ret (.pv (Bo false)),[]))) (
 some (.ret (.pv (Bo false)),[]))) (fun A57 H58 => some (.pan A57,[]))) (
 some (.ret (.pv (Bo false)),[]))) (
 some (.ret (.pv (Bo false)),[]))) (
 some (.ret (.pv (Bo false)),[]))) (
 some (.ret (.pv (Bo false)),[]))) (
 some (.ret (.pv (Bo false)),[]))) (fun A49 H50 => some (.pan A49,[]))) (
 some (.ret (.pv (Bo false)),[]))) (fun A41 H42 => some (.pan A41,[]))) (fun A34 H35 => some (.pan A34,[]))) (fun A27 H28 => some (.pan A27,[]))) (fun A20 H21 => some (.pan A20,[]))) (fun A13 H14 => some (.pan A13,[]))) (fun A6 H7 => some (.pan A6,[]))) (fun A1 H2 => some (.pan A1,[])):=(zS (fn:=Tryz.f33) (by kernel_rfl) (by kernel_rfl) (by kernel_rfl) _ _).trans (by kernel_rfl)
theorem Qo (x0:List PV):ev 57 [(.pv (.sl 1 x0))] [] =
 zE (ev 107 [(.pv (.sl 1 x0))] []) (fun A1 H2 => (zl A1).bind fun P3 => (zZ (.pv P3)).bind fun S4 => (S4[0]?).bind fun P5 => (zZ (.pv P3)).bind fun S6 => (S6[1]?).bind fun P7 => zE (ev 104 [(.pv P7)] []) (fun A8 H9 => (zl A8).bind fun P10 => some (.ret (.pv (.tup [P5,P10])),[])) (fun A8 H9 => some (.pan A8,[]))) (fun A1 H2 => some (.pan A1,[])):=(zS (fn:=Tryz.f57) (by kernel_rfl) (by kernel_rfl) (by kernel_rfl) _ _).trans (by kernel_rfl)
noncomputable def wE:Code:=Tryz.f60.body.getD .skip
noncomputable def Yg (xs0:List PV) (xs1:List PV) (xs2:List PV) (i3:Int) (i4:Int) (i5:Int) (i6:Int) (i7:Int):Option (Out × z6) :=
 yI (evW env ev yo 38 60 0 (sub wE [1,0,1,0,0])) (yn env 60 0 1) (zX 0 (wK (evV env ev 38 60 0 (sub wE [1,1])) (wP env 60 Tryz.f60.results.toList 0))) ⟨ofL [(0,(.pv (.sl 1 xs0))),(1,(.pv (.sl 1 xs1))),(5,(.ptr 0 0)),(14,(.slu 67 1 xs2)),(15,(.pv (I i3))),(16,(.pv (I i4)))],[[(.pv (I i5)),(.pv (I i6)),(.pv (I i7))]]⟩
noncomputable def wH (xs0:List PV) (xs1:List PV) (xs2:List PV) (i3:Int) (i4:Int) (i5:Int) (i6:Int) (i7:Int):Option (Out × z6) :=
 yI (evW env ev yo 38 60 0 (sub wE [1,0,1,0,0])) (yn env 60 0 1) (zX 0 (wK (evV env ev 38 60 0 (sub wE [1,1])) (wP env 60 Tryz.f60.results.toList 0))) ⟨ofL [(0,(.pv (.sl 1 xs0))),(1,(.pv (.sl 1 xs1))),(5,(.ptr 0 0)),(14,(.pv (.sl 1 xs2))),(15,(.pv (I i3))),(16,(.pv (I i4)))],[[(.pv (I i5)),(.pv (I i6)),(.pv (I i7))]]⟩
theorem XT (xs0:List PV) (xs1:List PV) (xs2:List PV) (i3:Int) (i4:Int) (i5:Int) (i6:Int) (i7:Int):Yg xs0 xs1 xs2 i3 i4 i5 i6 i7 =
 cond (decide (i4 < i3)) (
 cond (decide (0 ≤ i4) && decide (i4 < (xs2.length:Int))) ((xs2[(i4).toNat]?).bind fun P1 => (P1.cells[0]?).bind fun P2 => zE (ev 110 [(.pv P2),(.pv (.agg [(I i5),(I i6),(I i7)]))] []) (fun A3 H4 => (zl A3).bind fun P5 => (zZ (.pv P5)).bind fun S6 => (S6[0]?).bind fun P7 => (zZ (.pv P5)).bind fun S8 => (S8[1]?).bind fun P9 => (zQ .i64 (.pv P9)).bind fun N10 => cond (N10 != 0) (
 some (.ret (.pv (.tup [(Bo false),P9])),[])) (
 wH xs0 xs1 xs2 i3 (IntKind.wrap .i64 (i4 + 1)) i5 i6 i7)) (fun A3 H4 => some (.pan A3,[]))) none) (
 zE (ev 112 [(.pv (.sl 1 xs0))] []) (fun A1 H2 => (zl A1).bind fun P3 => zE (ev 112 [(.pv (.sl 1 xs1))] []) (fun A4 H5 => (zl A4).bind fun P6 => zE (ev 111 [(.pv (.agg [(.sl 1 xs0),(.sl 1 xs1)])),(.pv P3),(.pv P6)] []) (fun A7 H8 => (zl A7).bind fun P9 => some (.ret (.pv (.tup [P9,(I 0)])),[])) (fun A7 H8 => some (.pan A7,[]))) (fun A4 H5 => some (.pan A4,[]))) (fun A1 H2 => some (.pan A1,[]))):=(zT ..).trans (by kernel_rfl)
theorem vv (xs0:List PV) (xs1:List PV) (xs2:List PV) (i3:Int) (i4:Int) (i5:Int) (i6:Int) (i7:Int):wH xs0 xs1 xs2 i3 i4 i5 i6 i7 =
 cond (decide (i4 < i3)) (
 cond (decide (0 ≤ i4) && decide (i4 < (xs2.length:Int))) ((xs2[(i4).toNat]?).bind fun P1 => (P1.cells[0]?).bind fun P2 => zE (ev 110 [(.pv P2),(.pv (.agg [(I i5),(I i6),(I i7)]))] []) (fun A3 H4 => (zl A3).bind fun P5 => (zZ (.pv P5)).bind fun S6 => (S6[0]?).bind fun P7 => (zZ (.pv P5)).bind fun S8 => (S8[1]?).bind fun P9 => (zQ .i64 (.pv P9)).bind fun N10 => cond (N10 != 0) (
 some (.ret (.pv (.tup [(Bo false),P9])),[])) (
 wH xs0 xs1 xs2 i3 (IntKind.wrap .i64 (i4 + 1)) i5 i6 i7)) (fun A3 H4 => some (.pan A3,[]))) none) (
 zE (ev 112 [(.pv (.sl 1 xs0))] []) (fun A1 H2 => (zl A1).bind fun P3 => zE (ev 112 [(.pv (.sl 1 xs1))] []) (fun A4 H5 => (zl A4).bind fun P6 => zE (ev 111 [(.pv (.agg [(.sl 1 xs0),(.sl 1 xs1)])),(.pv P3),(.pv P6)] []) (fun A7 H8 => (zl A7).bind fun P9 => some (.ret (.pv (.tup [P9,(I 0)])),[])) (fun A7 H8 => some (.pan A7,[]))) (fun A4 H5 => some (.pan A4,[]))) (fun A1 H2 => some (.pan A1,[]))):=(zT ..).trans (by kernel_rfl)
theorem Vy (x0:List PV) (x1:List PV) (x2_0:Int) (x2_1:Int) (x2_2:Int):ev 60 [(.pv (.sl 1 x0)),(.pv (.sl 1 x1)),(.pv (.agg [(I x2_0),(I x2_1),(I x2_2)]))] [] =
 Yg x0 x1 [(.sl 1 x0),(.sl 1 x1)] 2 0 x2_0 x2_1 x2_2:=(zS (fn:=Tryz.f60) (by kernel_rfl) (by kernel_rfl) (by kernel_rfl) _ _).trans (by kernel_rfl)
theorem Wu (x0:List PV) (x1:Int):ev 85 [(.pv (.sl 1 x0)),(.pv (I x1))] [] =
 cond (decide (0 ≤ (IntKind.wrap .i64 (4 * x1))) && decide ((IntKind.wrap .i64 (4 * x1)) < (x0.length:Int))) ((x0[(IntKind.wrap .i64 (4 * x1)).toNat]?).bind fun P1 => (P1.cells[0]?).bind fun P2 => (ZT (.pv P2)).bind fun Q3 => cond (decide (0 ≤ (IntKind.wrap .i64 ((IntKind.wrap .i64 (4 * x1)) + 1))) && decide ((IntKind.wrap .i64 ((IntKind.wrap .i64 (4 * x1)) + 1)) < (x0.length:Int))) ((x0[(IntKind.wrap .i64 ((IntKind.wrap .i64 (4 * x1)) + 1)).toNat]?).bind fun P4 => (P4.cells[0]?).bind fun P5 => (ZT (.pv P5)).bind fun Q6 => cond (decide (0 ≤ (IntKind.wrap .i64 ((IntKind.wrap .i64 (4 * x1)) + 2))) && decide ((IntKind.wrap .i64 ((IntKind.wrap .i64 (4 * x1)) + 2)) < (x0.length:Int))) ((x0[(IntKind.wrap .i64 ((IntKind.wrap .i64 (4 * x1)) + 2)).toNat]?).bind fun P7 => (P7.cells[0]?).bind fun P8 => (ZT (.pv P8)).bind fun Q9 => cond (decide (0 ≤ (IntKind.wrap .i64 ((IntKind.wrap .i64 (4 * x1)) + 3))) && decide ((IntKind.wrap .i64 ((IntKind.wrap .i64 (4 * x1)) + 3)) < (x0.length:Int))) ((x0[(IntKind.wrap .i64 ((IntKind.wrap .i64 (4 * x1)) + 3)).toNat]?).bind fun P10 => (P10.cells[0]?).bind fun P11 => (ZT (.pv P11)).bind fun Q12 => some (.ret (.pv (I (IntKind.wrap .i64 ((IntKind.wrap .i64 ((IntKind.wrap .i64 ((IntKind.wrap .i64 Q3.2) + (IntKind.wrap .i64 (256 * (IntKind.wrap .i64 Q6.2))))) + (IntKind.wrap .i64 (65536 * (IntKind.wrap .i64 Q9.2))))) + (IntKind.wrap .i64 (16777216 * (IntKind.wrap .i64 Q12.2))))))),[])) none) none) none) none:=(zS (fn:=Tryz.f85) (by kernel_rfl) (by kernel_rfl) (by kernel_rfl) _ _).trans (by kernel_rfl)
noncomputable def ZI:Code:=Tryz.f89.body.getD .skip
noncomputable def xf (p0:PV) (xs1:List PV) (i2:Int):Option (Out × z6) :=
 yI (evW env ev yo 26 89 0 (sub ZI [1,1,1,0,1,0,0])) (yn env 89 0 0) (zX 0 (wK (evV env ev 26 89 0 (sub ZI [1,1,1,1])) (wP env 89 Tryz.f89.results.toList 0))) ⟨ofL [(3,(.pv p0)),(4,(.slu 5 1 xs1)),(5,(.pv (I i2)))],[]⟩
theorem vt (p0:PV) (xs1:List PV) (i2:Int):xf p0 xs1 i2 =
 cond (decide (i2 < 8)) (
 (pSl p0).bind fun L1 => cond ((decide (L1.1 = 1) && decide (0 ≤ i2)) && decide (i2 < (L1.2.length:Int))) ((L1.2[(i2).toNat]?).bind fun P2 => (P2.cells[0]?).bind fun P3 => (zQ .u8 (.pv P3)).bind fun N4 => cond (N4 != 0) (
 (pSl p0).bind fun L5 => cond ((decide (L5.1 = 1) && decide (0 ≤ i2)) && decide (i2 < (L5.2.length:Int))) ((L5.2[(i2).toNat]?).bind fun P6 => (P6.cells[0]?).bind fun P7 => cond ((decide (P7.cells.length = 1) && P7.cells.all PV.isCell) && true) (cond (yr (xs1.length + 1) 1) (xf p0 (xs1 ++ [P7]) (IntKind.wrap .i64 (i2 + 1))) none) none) none) (
 xf p0 xs1 (IntKind.wrap .i64 (i2 + 1)))) none) (
 some (.ret (.pv (.sl 1 xs1)),[])):=(zT ..).trans (by kernel_rfl)
theorem Ww (x0:Int):ev 89 [(.pv (U x0))] [] =
 zE (ev 91 [(.pv (.sl 1 [(U x0)]))] []) (fun A1 H2 => (zl A1).bind fun P3 => xf P3 [] 0) (fun A1 H2 => some (.pan A1,[])):=(zS (fn:=Tryz.f89) (by kernel_rfl) (by kernel_rfl) (by kernel_rfl) _ _).trans (by kernel_rfl)
noncomputable def YR:Code:=Tryz.f94.body.getD .skip
noncomputable def wl (xs0:List PV) (i1:Int) (i2:Int) (i3:Int):Option (Out × z6) :=
 yI (evW env ev yo 34 94 0 (sub YR [1,1,1,0,1,0,0])) (yn env 94 0 0) (zX 0 (wK (evV env ev 34 94 0 (sub YR [1,1,1,1])) (wP env 94 Tryz.f94.results.toList 0))) ⟨ofL [(0,(.pv (.sl 1 xs0))),(1,(.pv (I i1))),(6,(.pv (U i2))),(7,(.pv (I i3)))],[]⟩
theorem vU (xs0:List PV) (i1:Int) (i2:Int) (i3:Int):wl xs0 i1 i2 i3 =
 cond (decide (i3 ≥ 0)) (
 cond (decide (0 ≤ (IntKind.wrap .i64 ((IntKind.wrap .i64 (8 * i1)) + i3))) && decide ((IntKind.wrap .i64 ((IntKind.wrap .i64 (8 * i1)) + i3)) < (xs0.length:Int))) ((xs0[(IntKind.wrap .i64 ((IntKind.wrap .i64 (8 * i1)) + i3)).toNat]?).bind fun P1 => (P1.cells[0]?).bind fun P2 => (ZT (.pv P2)).bind fun Q3 => wl xs0 i1 (IntKind.wrap .u64 ((IntKind.wrap .u64 (i2 * 256)) + (IntKind.wrap .u64 Q3.2))) (IntKind.wrap .i64 (i3 - 1))) none) (
 some (.ret (.pv (.tup [(U i2),(Bo true)])),[])):=(zT ..).trans (by kernel_rfl)
theorem Yc (x0:List PV) (x1:Int):ev 94 [(.pv (.sl 1 x0)),(.pv (I x1))] [] =
 cond (decide (x1 < 0)) (
 some (.ret (.pv (.tup [(U 0),(Bo false)])),[])) (
 cond (decide (x1 > (IntKind.wrap .i64 ((IntKind.wrap .i64 (Int.tdiv (x0.length:Int) 8)) - 1)))) (
  some (.ret (.pv (.tup [(U 0),(Bo false)])),[])) (
  wl x0 x1 0 7)):=(zS (fn:=Tryz.f94) (by kernel_rfl) (by kernel_rfl) (by kernel_rfl) _ _).trans (by kernel_rfl)
theorem Vp (x0:List PV) (x1_0:Int) (x1_1:Int) (x1_2:Int):ev 103 [(.pv (.sl 1 x0)),(.pv (.agg [(I x1_0),(I x1_1),(I x1_2)]))] [] =
 zE (ev 163 [(.pv (.sl 1 x0)),(.pv (.agg [(I x1_0),(I x1_1),(I x1_2)])),(.pv (.v (.func (.func 164) #[] #[])))] []) (fun A1 H2 => (zl A1).bind fun P3 => (zZ (.pv P3)).bind fun S4 => (S4[0]?).bind fun P5 => (zZ (.pv P3)).bind fun S6 => (S6[1]?).bind fun P7 => some (.ret (.pv (.tup [P5,P7])),[])) (fun A1 H2 => some (.pan A1,[])):=(zS (fn:=Tryz.f103) (by kernel_rfl) (by kernel_rfl) (by kernel_rfl) _ _).trans (by kernel_rfl)
noncomputable def wj:Code:=Tryz.f107.body.getD .skip
noncomputable def Xb:Code:=Tryz.f172.body.getD .skip
noncomputable def xX (xs0:List PV) (xs1:List PV) (i2:Int) (i3:Int) (xs4:List PV) (i5:Int):Option (Out × z6) :=
 yI (evW env ev yo 77 107 0 (sub wj [1,1,1,1,1,1,1,0,1,0,0])) (yn env 107 0 2) (zX 0 (wK (evV env ev 77 107 0 (sub wj [1,1,1,1,1,1,1,1])) (zoj env ev 107 172 Tryz.f107 Tryz.f172 ⟨sub wj [0],sub wj [1,1],sub Xb [1],[2,3],2,11⟩ 0 [(.ptr 0 0),(.ptr 1 0)] [(2,(.ptr 0 0)),(3,(.ptr 1 0))]))) ⟨ofL [(0,(.pv (.sl 1 xs0))),(2,(.ptr 0 0)),(3,(.ptr 1 0)),(6,(.pv (.sl 1 xs1))),(37,(.pv (I i2))),(38,(.pv (I i3)))],[[(.slu 75 1 xs4)],[(.pv (I i5))]]⟩
theorem Yi (xs0:List PV) (xs1:List PV) (i2:Int) (i3:Int) (xs4:List PV) (i5:Int):xX xs0 xs1 i2 i3 xs4 i5 =
 cond (decide (i3 < i2)) (
 zE (ev 173 [(.pv (.sl 1 xs0)),(.pv (I (IntKind.wrap .i64 (i3 + 1))))] []) (fun A1 H2 => (zl A1).bind fun P3 => (zQ .i64 (.pv P3)).bind fun N4 => cond (decide (N4 < 536870912)) (
 (zQ .i64 (.pv P3)).bind fun N5 => zE (ev 174 [(.pv (Bo (decide ((IntKind.wrap .i64 (N5 * 8)) ≤ (xs1.length:Int)))))] []) (fun A6 H7 => (zl A6).bind fun P8 => (zQ .i64 (.pv P3)).bind fun N9 => cond (decide (0 ≤ (IntKind.wrap .i64 (N9 * 8))) && decide ((IntKind.wrap .i64 (N9 * 8)) ≤ (xs1.length:Int))) (zE (ev 64 [(.pv (.sl 1 ((xs1.take (IntKind.wrap .i64 (N9 * 8)).toNat).drop 0)))] []) (fun A10 H11 => (zl A10).bind fun P12 => (zZ (.pv P12)).bind fun S13 => (S13[0]?).bind fun P14 => (zZ (.pv P12)).bind fun S15 => (S15[1]?).bind fun P16 => cond ((decide (P14.cells.length = 1) && P14.cells.all PV.isCell) && true) (cond (yr (xs4.length + 1) 24) ((zQ .i64 (.pv P3)).bind fun N17 => cond ((decide (0 ≤ (IntKind.wrap .i64 (N17 * 8))) && decide ((IntKind.wrap .i64 (N17 * 8)) ≤ (xs1.length:Int))) && decide ((xs1.length:Int) ≤ (xs1.length:Int))) (xX xs0 ((xs1.take (xs1.length:Int).toNat).drop (IntKind.wrap .i64 (N17 * 8)).toNat) i2 (IntKind.wrap .i64 (i3 + 1)) (xs4 ++ [P14]) i5) none) none) none) (fun A10 H11 => (Y9 (.pv A10)).bind fun Z12 => cond (!Z12) (
  (JB (.pv A10)).bind fun Q13 => cond (decide (Q13.1 = 225)) (cond (decide (Q13.2.cells.length = 0)) (some (.ret (.pv (.tup [(.sl 1 []),(I 1)])),[])) none) none) (
  some (.ret (.pv (.tup [(.sl 1 xs4),(I i5)])),[])))) none) (fun A6 H7 => (Y9 (.pv A6)).bind fun Z8 => cond (!Z8) (
  (JB (.pv A6)).bind fun Q9 => cond (decide (Q9.1 = 225)) (cond (decide (Q9.2.cells.length = 0)) (some (.ret (.pv (.tup [(.sl 1 []),(I 1)])),[])) none) none) (
  some (.ret (.pv (.tup [(.sl 1 xs4),(I i5)])),[])))) (
 zE (ev 174 [(.pv (Bo false))] []) (fun A5 H6 => (zl A5).bind fun P7 => (zQ .i64 (.pv P3)).bind fun N8 => cond (decide (0 ≤ (IntKind.wrap .i64 (N8 * 8))) && decide ((IntKind.wrap .i64 (N8 * 8)) ≤ (xs1.length:Int))) (zE (ev 64 [(.pv (.sl 1 ((xs1.take (IntKind.wrap .i64 (N8 * 8)).toNat).drop 0)))] []) (fun A9 H10 => (zl A9).bind fun P11 => (zZ (.pv P11)).bind fun S12 => (S12[0]?).bind fun P13 => (zZ (.pv P11)).bind fun S14 => (S14[1]?).bind fun P15 => cond ((decide (P13.cells.length = 1) && P13.cells.all PV.isCell) && true) (cond (yr (xs4.length + 1) 24) ((zQ .i64 (.pv P3)).bind fun N16 => cond ((decide (0 ≤ (IntKind.wrap .i64 (N16 * 8))) && decide ((IntKind.wrap .i64 (N16 * 8)) ≤ (xs1.length:Int))) && decide ((xs1.length:Int) ≤ (xs1.length:Int))) (xX xs0 ((xs1.take (xs1.length:Int).toNat).drop (IntKind.wrap .i64 (N16 * 8)).toNat) i2 (IntKind.wrap .i64 (i3 + 1)) (xs4 ++ [P13]) i5) none) none) none) (fun A9 H10 => (Y9 (.pv A9)).bind fun Z11 => cond (!Z11) (
   (JB (.pv A9)).bind fun Q12 => cond (decide (Q12.1 = 225)) (cond (decide (Q12.2.cells.length = 0)) (some (.ret (.pv (.tup [(.sl 1 []),(I 1)])),[])) none) none) (
   some (.ret (.pv (.tup [(.sl 1 xs4),(I i5)])),[])))) none) (fun A5 H6 => (Y9 (.pv A5)).bind fun Z7 => cond (!Z7) (
   (JB (.pv A5)).bind fun Q8 => cond (decide (Q8.1 = 225)) (cond (decide (Q8.2.cells.length = 0)) (some (.ret (.pv (.tup [(.sl 1 []),(I 1)])),[])) none) none) (
   some (.ret (.pv (.tup [(.sl 1 xs4),(I i5)])),[]))))) (fun A1 H2 => (Y9 (.pv A1)).bind fun Z3 => cond (!Z3) (
  (JB (.pv A1)).bind fun Q4 => cond (decide (Q4.1 = 225)) (cond (decide (Q4.2.cells.length = 0)) (some (.ret (.pv (.tup [(.sl 1 []),(I 1)])),[])) none) none) (
  some (.ret (.pv (.tup [(.sl 1 xs4),(I i5)])),[])))) (
 zE (ev 174 [(.pv (Bo ((xs1.length:Int) == 0)))] []) (fun A1 H2 => (zl A1).bind fun P3 => some (.ret (.pv (.tup [(.sl 1 xs4),(I 0)])),[])) (fun A1 H2 => (Y9 (.pv A1)).bind fun Z3 => cond (!Z3) (
   (JB (.pv A1)).bind fun Q4 => cond (decide (Q4.1 = 225)) (cond (decide (Q4.2.cells.length = 0)) (some (.ret (.pv (.tup [(.sl 1 []),(I 1)])),[])) none) none) (
   some (.ret (.pv (.tup [(.sl 1 xs4),(I i5)])),[])))):=(zT ..).trans (by kernel_rfl)
theorem Jy (x0:List PV):ev 107 [(.pv (.sl 1 x0))] [] =
 zE (ev 173 [(.pv (.sl 1 x0)),(.pv (I 0))] []) (fun A1 H2 => (zl A1).bind fun P3 => (zQ .i64 (.pv P3)).bind fun N4 => zE (ev 174 [(.pv (Bo (decide ((IntKind.wrap .i64 (N4 + 1)) ≤ 512))))] []) (fun A5 H6 => (zl A5).bind fun P7 => zE (ev 167 [(.pv (I (IntKind.wrap .i64 (N4 + 1))))] []) (fun A8 H9 => (zl A8).bind fun P10 => (zQ .i64 (.pv P10)).bind fun N11 => cond (decide ((x0.length:Int) ≥ N11)) (
 (ZT (.pv P10)).bind fun Q12 => cond ((decide (0 ≤ (IntKind.wrap .i64 (4 * (IntKind.wrap .i64 ((IntKind.wrap .i64 (N4 + 1)) + 1))))) && decide ((IntKind.wrap .i64 (4 * (IntKind.wrap .i64 ((IntKind.wrap .i64 (N4 + 1)) + 1)))) ≤ Q12.2)) && decide (Q12.2 ≤ (x0.length:Int))) (zE (ev 175 [(.pv (.sl 1 ((x0.take (Q12.2).toNat).drop (IntKind.wrap .i64 (4 * (IntKind.wrap .i64 ((IntKind.wrap .i64 (N4 + 1)) + 1)))).toNat)))] []) (fun A13 H14 => (zl A13).bind fun P15 => (yt (.pv P15)).bind fun B16 => zE (ev 174 [(.pv (Bo B16))] []) (fun A17 H18 => (zl A17).bind fun P19 => (ZT (.pv P10)).bind fun Q20 => cond ((decide (0 ≤ Q20.2) && decide (Q20.2 ≤ (x0.length:Int))) && decide ((x0.length:Int) ≤ (x0.length:Int))) (xX x0 ((x0.take (x0.length:Int).toNat).drop (Q20.2).toNat) (IntKind.wrap .i64 (N4 + 1)) 0 [] 0) none) (fun A17 H18 => (Y9 (.pv A17)).bind fun Z19 => cond (!Z19) (
  (JB (.pv A17)).bind fun Q20 => cond (decide (Q20.1 = 225)) (cond (decide (Q20.2.cells.length = 0)) (some (.ret (.pv (.tup [(.sl 1 []),(I 1)])),[])) none) none) (
  some (.ret (.pv (.tup [(.sl 1 []),(I 0)])),[])))) (fun A13 H14 => (Y9 (.pv A13)).bind fun Z15 => cond (!Z15) (
  (JB (.pv A13)).bind fun Q16 => cond (decide (Q16.1 = 225)) (cond (decide (Q16.2.cells.length = 0)) (some (.ret (.pv (.tup [(.sl 1 []),(I 1)])),[])) none) none) (
  some (.ret (.pv (.tup [(.sl 1 []),(I 0)])),[])))) none) (
 zE (ev 174 [(.pv (Bo false))] []) (fun A12 H13 => (zl A12).bind fun P14 => (ZT (.pv P10)).bind fun Q15 => cond ((decide (0 ≤ Q15.2) && decide (Q15.2 ≤ (x0.length:Int))) && decide ((x0.length:Int) ≤ (x0.length:Int))) (xX x0 ((x0.take (x0.length:Int).toNat).drop (Q15.2).toNat) (IntKind.wrap .i64 (N4 + 1)) 0 [] 0) none) (fun A12 H13 => (Y9 (.pv A12)).bind fun Z14 => cond (!Z14) (
   (JB (.pv A12)).bind fun Q15 => cond (decide (Q15.1 = 225)) (cond (decide (Q15.2.cells.length = 0)) (some (.ret (.pv (.tup [(.sl 1 []),(I 1)])),[])) none) none) (
   some (.ret (.pv (.tup [(.sl 1 []),(I 0)])),[]))))) (fun A8 H9 => (Y9 (.pv A8)).bind fun Z10 => cond (!Z10) (
  (JB (.pv A8)).bind fun Q11 => cond (decide (Q11.1 = 225)) (cond (decide (Q11.2.cells.length = 0)) (some (.ret (.pv (.tup [(.sl 1 []),(I 1)])),[])) none) none) (
  some (.ret (.pv (.tup [(.sl 1 []),(I 0)])),[])))) (fun A5 H6 => (Y9 (.pv A5)).bind fun Z7 => cond (!Z7) (
  (JB (.pv A5)).bind fun Q8 => cond (decide (Q8.1 = 225)) (cond (decide (Q8.2.cells.length = 0)) (some (.ret (.pv (.tup [(.sl 1 []),(I 1)])),[])) none) none) (
  some (.ret (.pv (.tup [(.sl 1 []),(I 0)])),[])))) (fun A1 H2 => (Y9 (.pv A1)).bind fun Z3 => cond (!Z3) (
  (JB (.pv A1)).bind fun Q4 => cond (decide (Q4.1 = 225)) (cond (decide (Q4.2.cells.length = 0)) (some (.ret (.pv (.tup [(.sl 1 []),(I 1)])),[])) none) none) (
  some (.ret (.pv (.tup [(.sl 1 []),(I 0)])),[]))):=(zha (f:=107) (g:=172) (fn:=Tryz.f107) (gn:=Tryz.f172) (d:=⟨sub wj [0],sub wj [1,1],sub Xb [1],[2,3],2,11⟩) (by kernel_rfl) (by kernel_rfl) (by kernel_rfl) (by kernel_rfl) (by kernel_rfl) _ _).trans (by kernel_rfl)
theorem Kd (x0_0:Int) (x0_1:Int) (x0_2:Int):ev 131 [(.pv (.agg [(I x0_0),(I x0_1),(I x0_2)]))] [] =
 some (.ret (.pv (.agg [(I (if 0 > x0_1 then 0 else x0_1))])),[]):=(zS (fn:=Tryz.f131) (by kernel_rfl) (by kernel_rfl) (by kernel_rfl) _ _).trans (by kernel_rfl)
noncomputable def ZH:Code:=Tryz.f134.body.getD .skip
noncomputable def xM (i0:Int) (i1:Int) (i2:Int) (i3:Int) (xs4:List PV) (xs5:List PV) (i6:Int) (i7:Int) (i8:Int) (xs9:List PV) (xs10:List PV):Option (Out × z6) :=
 yI (evW env ev yo 61 134 0 (sub ZH [1,1,0,1,0,0])) (yn env 134 0 2) (zX 0 (wK (evV env ev 61 134 0 (sub ZH [1,1,1])) (wP env 134 Tryz.f134.results.toList 0))) ⟨ofL [(2,(.ptr 0 0)),(3,(.ptr 1 0)),(5,(.pv (I i0)))],[[(.pv (I i1)),(.pv (I i2)),(.pv (I i3)),(.pv (.sl 1 xs4)),(.pv (.sl 5 xs5))],[(.pv (I i6)),(.pv (I i7)),(.pv (I i8)),(.pv (.sl 1 xs9)),(.pv (.sl 5 xs10))]]⟩
theorem vq (i0:Int) (i1:Int) (i2:Int) (i3:Int) (xs4:List PV) (xs5:List PV) (i6:Int) (i7:Int) (i8:Int) (xs9:List PV) (xs10:List PV):xM i0 i1 i2 i3 xs4 xs5 i6 i7 i8 xs9 xs10 =
 cond (decide (i0 < (xs5.length:Int))) (
 cond (decide (0 ≤ i0) && decide (i0 < (xs5.length:Int))) ((xs5[(i0).toNat]?).bind fun P1 => cond (decide (5 ≤ P1.cells.length)) (cond (decide (0 ≤ i0) && decide (i0 < (xs10.length:Int))) ((xs10[(i0).toNat]?).bind fun P2 => cond (decide (5 ≤ P2.cells.length)) (zE (ev 134 [(.pv (.agg ((P1.cells.drop 0).take 5))),(.pv (.agg ((P2.cells.drop 0).take 5)))] []) (fun A3 H4 => (zl A3).bind fun P5 => (yt (.pv P5)).bind fun B6 => cond (!B6) (
 some (.ret (.pv (Bo false)),[])) (
 xM (IntKind.wrap .i64 (i0 + 1)) i1 i2 i3 xs4 xs5 i6 i7 i8 xs9 xs10)) (fun A3 H4 => some (.pan A3,[]))) none) none) none) none) (
 some (.ret (.pv (Bo true)),[])):=(zT ..).trans (by kernel_rfl)
theorem Wv (x0_0:Int) (x0_1:Int) (x0_2:Int) (x0_3:List PV) (x0_4:List PV) (x1_0:Int) (x1_1:Int) (x1_2:Int) (x1_3:List PV) (x1_4:List PV):ev 134 [(.pv (.agg [(I x0_0),(I x0_1),(I x0_2),(.sl 1 x0_3),(.sl 5 x0_4)])),(.pv (.agg [(I x1_0),(I x1_1),(I x1_2),(.sl 1 x1_3),(.sl 5 x1_4)]))] [] =
 cond (x0_0 != x1_0) (
 some (.ret (.pv (Bo false)),[])) (
 cond (x0_1 != x1_1) (
  some (.ret (.pv (Bo false)),[])) (
  cond (x0_2 != x1_2) (
   some (.ret (.pv (Bo false)),[])) (
   zE (ev 27 [(.pv (.sl 1 x0_3)),(.pv (.sl 1 x1_3))] []) (fun A1 H2 => (zl A1).bind fun P3 => (yt (.pv P3)).bind fun B4 => cond (!B4) (
    some (.ret (.pv (Bo false)),[])) (
    cond ((x0_4.length:Int) != (x1_4.length:Int)) (
     some (.ret (.pv (Bo false)),[])) (
     xM 0 x0_0 x0_1 x0_2 x0_3 x0_4 x1_0 x1_1 x1_2 x1_3 x1_4))) (fun A1 H2 => some (.pan A1,[]))))):=(zS (fn:=Tryz.f134) (by kernel_rfl) (by kernel_rfl) (by kernel_rfl) _ _).trans (by kernel_rfl)
theorem VB (x0:Int) (x1:Int):ev 221 [(.pv (I x0)),(.pv (I x1))] [] =
 cond (x0 == 7) (
 some (.ret (.pv (I (IntKind.wrap .i64 (x1 + 1)))),[])) (
 cond (decide (0 ≤ x0) && decide (x0 < 8)) ((([(I 0),(I 1),(I 8),(I 16),(I 32),(I 64),(I 64),(I 0)]:List PV)[(0 + (x0).toNat * 1)]?).bind fun P1 => (zQ .i64 (.pv P1)).bind fun N2 => zE (ev 263 [(.pv (I (IntKind.wrap .i64 (N2 * x1)))),(.pv (I 64))] []) (fun A3 H4 => (zl A3).bind fun P5 => some (.ret (.pv P5),[])) (fun A3 H4 => some (.pan A3,[]))) none):=(zS (fn:=Tryz.f221) (by kernel_rfl) (by kernel_rfl) (by kernel_rfl) _ _).trans (by kernel_rfl)
noncomputable def JJ:Code:=Tryz.f232.body.getD .skip
noncomputable def YC (i0:Int) (xs1:List PV) (i2:Int) (i3:Int):Option (Out × z6) :=
 yI (evW env ev yo 20 232 0 (sub JJ [1,0,1,0,0])) (yn env 232 0 0) (zX 0 (wK (evV env ev 20 232 0 (sub JJ [1,1])) (wP env 232 Tryz.f232.results.toList 0))) ⟨ofL [(0,(.pv (U i0))),(7,(.pv (.sl 1 xs1))),(8,(.pv (I i2))),(9,(.pv (I i3)))],[]⟩
theorem X6 (i0:Int) (xs1:List PV) (i2:Int) (i3:Int):YC i0 xs1 i2 i3 =
 cond (decide (i3 < i2)) (
 cond (decide (0 ≤ i3) && decide (i3 < (xs1.length:Int))) ((xs1[(i3).toNat]?).bind fun P1 => (P1.cells[0]?).bind fun P2 => (ZT (.pv P2)).bind fun Q3 => YC (IntKind.wrap .u64 ((IntKind.wrap .u64 (BitVec.ofInt 64 i0 ^^^ BitVec.ofInt 64 (IntKind.wrap .u64 Q3.2)).toNat) * 1099511628211)) xs1 i2 (IntKind.wrap .i64 (i3 + 1))) none) (
 some (.ret (.pv (U i0)),[])):=(zT ..).trans (by kernel_rfl)
theorem zdf (x0:Int) (x1:List PV):ev 232 [(.pv (U x0)),(.pv (.sl 1 x1))] [] =
 YC x0 x1 (x1.length:Int) 0:=(zS (fn:=Tryz.f232) (by kernel_rfl) (by kernel_rfl) (by kernel_rfl) _ _).trans (by kernel_rfl)
theorem Qm (x0:Int) (x1:Int) (x2:List PV):ev 235 [(.pv (I x0)),(.pv (I x1)),(.pv (.sl 1 x2))] [] =
 zE (ev 255 [(.pv (I x0)),(.pv (I x1))] []) (fun A1 H2 => (zl A1).bind fun P3 => (ZT (.pv P3)).bind fun Q4 => cond (decide (0 ≤ Q4.2) && decide (Q4.2 ≤ (x2.length:Int))) (zE (ev 275 [(.pv (.sl 1 ((x2.take (Q4.2).toNat).drop 0)))] []) (fun A5 H6 => (wA 5 1 A5).bind fun X7 => cond (x0 == 1) (
 cond (decide ((Int.tmod x1 8) > 0)) (
 cond (decide (0 ≤ (IntKind.wrap .i64 ((X7.length:Int) - 1))) && decide ((IntKind.wrap .i64 ((X7.length:Int) - 1)) < (X7.length:Int))) ((X7[(IntKind.wrap .i64 ((X7.length:Int) - 1)).toNat]?).bind fun P8 => (P8.cells[0]?).bind fun P9 => cond (wI .shl (IntKind.wrap .u64 (Int.tmod x1 8))) ((zQ .u8 (.pv P9)).bind fun N10 => cond (decide (0 ≤ (IntKind.wrap .i64 ((X7.length:Int) - 1))) && decide ((IntKind.wrap .i64 ((X7.length:Int) - 1)) < (X7.length:Int))) ((X7[(IntKind.wrap .i64 ((X7.length:Int) - 1)).toNat]?).bind fun P11 => cond (decide (1 ≤ P11.cells.length)) ((setCells P11 0 [(U8 (IntKind.wrap .u8 (BitVec.ofInt 8 N10 &&& BitVec.ofInt 8 (IntKind.wrap .u8 ((IntKind.wrap .u8 (1 * 2 ^ (min (IntKind.wrap .u64 (Int.tmod x1 8)).toNat 8))) - 1))).toNat))]).bind fun P12 => some (.ret (.slu 5 1 (X7.set (IntKind.wrap .i64 ((X7.length:Int) - 1)).toNat P12)),[])) none) none) none) none) (
 some (.ret (.slu 5 1 X7),[]))) (
 some (.ret (.slu 5 1 X7),[]))) (fun A5 H6 => some (.pan A5,[]))) none) (fun A1 H2 => some (.pan A1,[])):=(zS (fn:=Tryz.f235) (by kernel_rfl) (by kernel_rfl) (by kernel_rfl) _ _).trans (by kernel_rfl)
noncomputable def V0:Code:=Tryz.f237.body.getD .skip
noncomputable def xa (xs0:List PV) (xs1:List PV) (i2:Int) (i3:Int):Option (Out × z6) :=
 yI (evW env ev yo 44 237 0 (sub V0 [1,1,0,1,0,0])) (yn env 237 0 0) (zX 0 (wK (evV env ev 44 237 0 (sub V0 [1,1,1])) (wP env 237 Tryz.f237.results.toList 0))) ⟨ofL [(1,(.pv (.sl 1 xs0))),(14,(.pv (.sl 1 xs1))),(15,(.pv (I i2))),(16,(.pv (I i3)))],[]⟩
theorem YV (xs0:List PV) (xs1:List PV) (i2:Int) (i3:Int):xa xs0 xs1 i2 i3 =
 cond (decide (i3 < i2)) (
 cond (decide (0 ≤ i3) && decide (i3 < (xs1.length:Int))) ((xs1[(i3).toNat]?).bind fun P1 => (P1.cells[0]?).bind fun P2 => cond (decide (i3 < (xs0.length:Int))) (
 cond (decide (0 ≤ i3) && decide (i3 < (xs0.length:Int))) ((xs0[(i3).toNat]?).bind fun P3 => (P3.cells[0]?).bind fun P4 => (zQ .u64 (.pv P4)).bind fun N5 => (zQ .u64 (.pv P2)).bind fun N6 => cond (N5 != N6) (
 some (.ret (.pv (Bo false)),[])) (
 cond (decide (i3 ≥ (xs0.length:Int))) (
  (zQ .u64 (.pv P2)).bind fun N7 => cond (N7 != 0) (
  some (.ret (.pv (Bo false)),[])) (
  xa xs0 xs1 i2 (IntKind.wrap .i64 (i3 + 1)))) (
  xa xs0 xs1 i2 (IntKind.wrap .i64 (i3 + 1))))) none) (
 cond (decide (i3 ≥ (xs0.length:Int))) (
  (zQ .u64 (.pv P2)).bind fun N3 => cond (N3 != 0) (
  some (.ret (.pv (Bo false)),[])) (
  xa xs0 xs1 i2 (IntKind.wrap .i64 (i3 + 1)))) (
  xa xs0 xs1 i2 (IntKind.wrap .i64 (i3 + 1))))) none) (
 some (.ret (.pv (Bo true)),[])):=(zT ..).trans (by kernel_rfl)
theorem zaK (x0:List PV) (x1:List PV):ev 237 [(.pv (.sl 1 x0)),(.pv (.sl 1 x1))] [] =
 cond (decide ((x0.length:Int) < (x1.length:Int))) (
 xa x0 x1 (x1.length:Int) 0) (
 xa x1 x0 (x0.length:Int) 0):=(zS (fn:=Tryz.f237) (by kernel_rfl) (by kernel_rfl) (by kernel_rfl) _ _).trans (by kernel_rfl)
theorem XX (x0:List PV) (x1_0:Int) (x1_1:Int) (x1_2:Int) (x1_3:Int) (x1_4:Int) (x1_5:Int) (x1_6:Bool) (x1_7:Int) (x1_8:Int) (x1_9:Int) (x2:Int) (x3:Int):ev 241 [(.pv (.sl 1 x0)),(.pv (.agg [(I x1_0),(I x1_1),(I x1_2),(I x1_3),(I x1_4),(I x1_5),(Bo x1_6),(I x1_7),(PV.v (.int .u32 x1_8)),(PV.v (.int .u32 x1_9))])),(.pv (I x2)),(.pv (I x3))] [] =
 zE (ev 282 [(.pv (.sl 1 x0)),(.pv (.agg [(I 1),(I x2),(I x3),(I x1_2),(I x1_3),(I 0),(I 0),(I (IntKind.wrap .i64 (x1_2 + x1_3)))])),(.pv (I x3)),(.pv (I (IntKind.wrap .i64 (x1_2 + x1_3))))] []) (fun A1 H2 => (zl A1).bind fun P3 => (zZ (.pv P3)).bind fun S4 => (S4[0]?).bind fun P5 => (zZ (.pv P3)).bind fun S6 => (S6[1]?).bind fun P7 => cond (decide (P5.cells.length = 8)) ((P5.cells[0]?).bind fun P8 => (P5.cells[1]?).bind fun P9 => (P5.cells[2]?).bind fun P10 => (P5.cells[3]?).bind fun P11 => (P5.cells[4]?).bind fun P12 => (P5.cells[5]?).bind fun P13 => (P5.cells[6]?).bind fun P14 => (P5.cells[7]?).bind fun P15 => cond (P8.isCell && (P9.isCell && (P10.isCell && (P11.isCell && (P12.isCell && (P13.isCell && (P14.isCell && (P15.isCell && true)))))))) (some (.ret (.pv (.tup [(.agg [P8,P9,P10,P11,P12,P13,P14,P15]),P7])),[])) none) none) (fun A1 H2 => some (.pan A1,[])):=(zS (fn:=Tryz.f241) (by kernel_rfl) (by kernel_rfl) (by kernel_rfl) _ _).trans (by kernel_rfl)
theorem Qr (x0:List PV) (x1_0:Int) (x1_1:Int) (x1_2:Int) (x1_3:Int) (x1_4:Int) (x1_5:Int) (x1_6:Bool) (x1_7:Int) (x1_8:Int) (x1_9:Int) (x2:Int) (x3:Int):ev 243 [(.pv (.sl 1 x0)),(.pv (.agg [(I x1_0),(I x1_1),(I x1_2),(I x1_3),(I x1_4),(I x1_5),(Bo x1_6),(I x1_7),(PV.v (.int .u32 x1_8)),(PV.v (.int .u32 x1_9))])),(.pv (I x2)),(.pv (I x3))] [] =
 zE (ev 284 [(.pv (.agg [(I x1_0),(I x1_1),(I x1_2),(I x1_3),(I x1_4),(I x1_5),(Bo x1_6),(I x1_7),(PV.v (.int .u32 x1_8)),(PV.v (.int .u32 x1_9))]))] []) (fun A1 H2 => (zl A1).bind fun P3 => (yt (.pv P3)).bind fun B4 => cond B4 (
 some (.ret (.pv (.tup [(.agg [(I 0),(I 0),(I 0),(I 0),(I 0),(I 0),(I 0),(I 0)]),(I 6)])),[])) (
 some (.ret (.pv (.tup [(.agg [(I 0),(I 0),(I 0),(I 0),(I 0),(I 0),(I 0),(I 0)]),(I 4)])),[]))) (fun A1 H2 => some (.pan A1,[])):=(zS (fn:=Tryz.f243) (by kernel_rfl) (by kernel_rfl) (by kernel_rfl) _ _).trans (by kernel_rfl)
theorem YE (x0:Int):ev 244 [.pv (.v (.int .u8 x0))] [] = (zn0 x0).bind fun n => some (.ret (.pv (.v (.int .i64 n))),[]):=(QJ (q:=(2,(0,0))) (by kernel_rfl) _ _).trans (by kernel_rfl)
theorem VA (x0:Int) (x1:Int):ev 255 [(.pv (I x0)),(.pv (I x1))] [] =
 cond (decide (0 ≤ x0) && decide (x0 < 8)) ((([(I 0),(I 1),(I 8),(I 16),(I 32),(I 64),(I 64),(I 0)]:List PV)[(0 + (x0).toNat * 1)]?).bind fun P1 => (zQ .i64 (.pv P1)).bind fun N2 => zE (ev 263 [(.pv (I (IntKind.wrap .i64 (N2 * x1)))),(.pv (I 8))] []) (fun A3 H4 => (zl A3).bind fun P5 => some (.ret (.pv P5),[])) (fun A3 H4 => some (.pan A3,[]))) none:=(zS (fn:=Tryz.f255) (by kernel_rfl) (by kernel_rfl) (by kernel_rfl) _ _).trans (by kernel_rfl)
noncomputable def YU:Code:=Tryz.f256.body.getD .skip
noncomputable def wt (xs0:List PV) (i1:Int):Option (Out × z6) :=
 yI (evW env ev yo 22 256 0 (sub YU [1,1,0,0,0])) (yn env 256 0 0) (zX 0 (wK (evV env ev 22 256 0 (sub YU [1,1,1])) (wP env 256 Tryz.f256.results.toList 0))) ⟨ofL [(0,(.pv (.sl 1 xs0))),(1,(.pv (.v (.func (.func 257) #[] #[])))),(5,(.pv (I i1)))],[]⟩
theorem Zb (xs0:List PV) (i1:Int):wt xs0 i1 =
 cond (decide (i1 > 0)) (
 cond (decide (0 ≤ (IntKind.wrap .i64 (i1 - 1))) && decide ((IntKind.wrap .i64 (i1 - 1)) < (xs0.length:Int))) ((xs0[(IntKind.wrap .i64 (i1 - 1)).toNat]?).bind fun P1 => (P1.cells[0]?).bind fun P2 => zE (ev 257 [(.pv P2)] []) (fun A3 H4 => (zl A3).bind fun P5 => (yt (.pv P5)).bind fun B6 => cond B6 (
 wt xs0 (IntKind.wrap .i64 (i1 - 1))) (
 some (.ret (.pv (I i1)),[]))) (fun A3 H4 => some (.pan A3,[]))) none) (
 some (.ret (.pv (I i1)),[])):=(zT ..).trans (by kernel_rfl)
theorem VV (x0:List PV):ev 256 [(.pv (.sl 1 x0)),(.pv (.v (.func (.func 257) #[] #[])))] [] =
 wt x0 (x0.length:Int):=(zS (fn:=Tryz.f256) (by kernel_rfl) (by kernel_rfl) (by kernel_rfl) _ _).trans (by kernel_rfl)
theorem Wn (x0_0:Int) (x0_1:Int) (x0_2:Int) (x0_3:List PV) (x0_4:List PV):ev 262 [(.pv (.agg [(I x0_0),(I x0_1),(I x0_2),(.sl 1 x0_3),(.sl 5 x0_4)]))] [] =
 cond (x0_0 == 0) (
 some (.ret (.pv (I 0)),[])) (
 cond (x0_0 == 1) (
  some (.ret (.pv (I (IntKind.wrap .i64 ((IntKind.wrap .i64 (Int.tdiv (x0_3.length:Int) 8)) + (x0_4.length:Int))))),[])) (
  cond (x0_1 == 7) (
   zE (ev 219 [(.pv (.agg [(I x0_0),(I x0_1),(I x0_2),(.sl 1 x0_3),(.sl 5 x0_4)]))] []) (fun A1 H2 => (zl A1).bind fun P3 => (zZ (.pv P3)).bind fun S4 => (S4[0]?).bind fun P5 => (zZ (.pv P3)).bind fun S6 => (S6[1]?).bind fun P7 => (zQ .i64 (.pv P5)).bind fun N8 => (zQ .i64 (.pv P7)).bind fun N9 => some (.ret (.pv (I (IntKind.wrap .i64 (1 + (IntKind.wrap .i64 (x0_2 * (IntKind.wrap .i64 (N8 + N9)))))))),[])) (fun A1 H2 => some (.pan A1,[]))) (
   zE (ev 221 [(.pv (I x0_1)),(.pv (I x0_2))] []) (fun A1 H2 => (zl A1).bind fun P3 => some (.ret (.pv P3),[])) (fun A1 H2 => some (.pan A1,[]))))):=(zS (fn:=Tryz.f262) (by kernel_rfl) (by kernel_rfl) (by kernel_rfl) _ _).trans (by kernel_rfl)
noncomputable def YT:Code:=Tryz.f266.body.getD .skip
noncomputable def xG (i0:Int) (xs1:List PV) (p2:PV) (p3:PV) (i4:Int) (i5:Int):Option (Out × z6) :=
 yI (evW env ev yo 40 266 0 (sub YT [1,1,1,1,0,1,0,0])) (yn env 266 0 0) (zX 0 (wK (evV env ev 40 266 0 (sub YT [1,1,1,1,1])) (wP env 266 Tryz.f266.results.toList 0))) ⟨ofL [(0,(.pv (U8 i0))),(1,(.pv (.sl 1 xs1))),(7,(.pv p2)),(8,(.pv p3)),(9,(.pv (I i4))),(17,(.pv (I i5)))],[]⟩
theorem Za (i0:Int) (xs1:List PV) (p2:PV) (p3:PV) (i4:Int) (i5:Int):xG i0 xs1 p2 p3 i4 i5 =
 cond (decide (i5 < 8)) (
 cond (wI .shr (IntKind.wrap .u64 i5)) (cond ((IntKind.wrap .u8 (BitVec.ofInt 8 (Int.fdiv i0 (2 ^ (min (IntKind.wrap .u64 i5).toNat 8))) &&& BitVec.ofInt 8 1).toNat) == 1) (
 cond (decide (0 ≤ i4) && decide (i4 < (xs1.length:Int))) ((xs1[(i4).toNat]?).bind fun P1 => (P1.cells[0]?).bind fun P2 => (ZT (.pv P2)).bind fun Q3 => zE (ev 291 [(.pv p3),(.pv (I (IntKind.wrap .i64 (8 * i5)))),(.pv (I 8)),(.pv (U (IntKind.wrap .u64 Q3.2)))] []) (fun A4 H5 => (zl A4).bind fun P6 => xG i0 xs1 p2 P6 (IntKind.wrap .i64 (i4 + 1)) (IntKind.wrap .i64 (i5 + 1))) (fun A4 H5 => some (.pan A4,[]))) none) (
 xG i0 xs1 p2 p3 i4 (IntKind.wrap .i64 (i5 + 1)))) none) (
 some (.ret (.pv (.tup [p3,p2,(Bo true)])),[])):=(zT ..).trans (by kernel_rfl)
theorem Ys (x0:Int) (x1:List PV):ev 266 [(.pv (U8 x0)),(.pv (.sl 1 x1))] [] =
 zE (ev 188 [(.pv (U8 x0))] []) (fun A1 H2 => (zl A1).bind fun P3 => (zQ .i64 (.pv P3)).bind fun N4 => cond (decide ((x1.length:Int) < N4)) (
 some (.ret (.pv (.tup [(U 0),(I 0),(Bo false)])),[])) (
 xG x0 x1 P3 (U 0) 0 0)) (fun A1 H2 => some (.pan A1,[])):=(zS (fn:=Tryz.f266) (by kernel_rfl) (by kernel_rfl) (by kernel_rfl) _ _).trans (by kernel_rfl)
theorem vG (x0__0:List PV) (x1_0:Int) (x1_1:Int) (x1_2:Int) (x1_3:List PV) (x1_4:List PV):ev 269 [(.ptr 0 0),(.pv (.agg [(I x1_0),(I x1_1),(I x1_2),(.sl 1 x1_3),(.sl 5 x1_4)]))] [[(.slu 30 1 x0__0)]] =
 zE (ev 293 [(.ptr 0 0),(.pv (.sl 1 x1_3)),(.pv (I (IntKind.wrap .i64 (Int.tdiv (x1_3.length:Int) 8))))] [[(.slu 30 1 x0__0)]]) (fun A1 H2 => (H2[0]?).bind fun C3 => (C3[0]?).bind fun E4 => (wA 30 1 E4).bind fun X5 => cond (decide (C3.length = 1)) (cond (decide (H2.length = 1)) ((zl A1).bind fun P6 => zE (ev 292 [(.ptr 0 0),(.pv (I (x1_4.length:Int)))] [[(.slu 30 1 X5)]]) (fun A7 H8 => (H8[0]?).bind fun C9 => (C9[0]?).bind fun E10 => (wA 30 1 E10).bind fun X11 => cond (decide (C9.length = 1)) (cond (decide (H8.length = 1)) ((zl A7).bind fun P12 => cond ((decide (P12.cells.length = 1) && P12.cells.all PV.isCell) && true) (some (.ret (.pv (.tup [(.agg [(I 0),(I 0),(I (IntKind.wrap .i64 (Int.tdiv (x1_3.length:Int) 8))),(I (x1_4.length:Int)),(I 0),(I 0),(Bo false),(I 0),(PV.v (.int .u32 0)),(PV.v (.int .u32 0))]),(.sl 1 [P12])])),[[(.slu 30 1 X11)]])) none) none) none) (fun A7 H8 => (H8[0]?).bind fun C9 => (C9[0]?).bind fun E10 => (wA 30 1 E10).bind fun X11 => cond (decide (C9.length = 1)) (cond (decide (H8.length = 1)) (some (.pan A7,[[(.slu 30 1 X11)]])) none) none)) none) none) (fun A1 H2 => (H2[0]?).bind fun C3 => (C3[0]?).bind fun E4 => (wA 30 1 E4).bind fun X5 => cond (decide (C3.length = 1)) (cond (decide (H2.length = 1)) (some (.pan A1,[[(.slu 30 1 X5)]])) none) none):=(zS (fn:=Tryz.f269) (by kernel_rfl) (by kernel_rfl) (by kernel_rfl) _ _).trans (by kernel_rfl)
noncomputable def xP:Code:=Tryz.f270.body.getD .skip
noncomputable def yA (p0:PV) (p1:PV) (xs2:List PV) (xs3:List PV) (i4:Int) (i5:Int) (xs6:List PV) (i7:Int) (i8:Int) (i9:Int) (xs10:List PV) (xs11:List PV) (i12:Int) (i13:Int) (i14:Int) (i15:Int) (i16:Int) (i17:Int) (b18:Bool) (i19:Int) (i20:Int) (i21:Int):Option (Out × z6) :=
 yI (evW env ev yo 66 270 0 (sub xP [1,1,1,1,1,0,1,0,0])) (yn env 270 0 3) (zX 0 (wK (evV env ev 66 270 0 (sub xP [1,1,1,1,1,1])) (wP env 270 Tryz.f270.results.toList 1))) ⟨ofL [(0,(.ptr 0 0)),(3,(.ptr 1 0)),(4,(.ptr 2 0)),(6,(.pv p0)),(7,(.pv p1)),(10,(.slu 3 1 xs2)),(38,(.pv (.sl 5 xs3))),(39,(.pv (I i4))),(40,(.pv (I i5)))],[[(.slu 30 1 xs6)],[(.pv (I i7)),(.pv (I i8)),(.pv (I i9)),(.pv (.sl 1 xs10)),(.pv (.sl 5 xs11))],[(.pv (I i12)),(.pv (I i13)),(.pv (I i14)),(.pv (I i15)),(.pv (I i16)),(.pv (I i17)),(.pv (Bo b18)),(.pv (I i19)),(.pv (PV.v (.int .u32 i20))),(.pv (PV.v (.int .u32 i21)))]]⟩
theorem xt (p0:PV) (p1:PV) (xs2:List PV) (xs3:List PV) (i4:Int) (i5:Int) (xs6:List PV) (i7:Int) (i8:Int) (i9:Int) (xs10:List PV) (xs11:List PV) (i12:Int) (i13:Int) (i14:Int) (i15:Int) (i16:Int) (i17:Int) (b18:Bool) (i19:Int) (i20:Int) (i21:Int):yA p0 p1 xs2 xs3 i4 i5 xs6 i7 i8 i9 xs10 xs11 i12 i13 i14 i15 i16 i17 b18 i19 i20 i21 =
 cond (decide (i5 < i4)) (
 cond (decide (0 ≤ i5) && decide (i5 < (xs3.length:Int))) ((xs3[(i5).toNat]?).bind fun P1 => cond (decide (5 ≤ P1.cells.length)) (cond (decide (((P1.cells.drop 0).take 5).length = 5)) ((((P1.cells.drop 0).take 5)[0]?).bind fun P2 => (((P1.cells.drop 0).take 5)[1]?).bind fun P3 => (((P1.cells.drop 0).take 5)[2]?).bind fun P4 => (((P1.cells.drop 0).take 5)[3]?).bind fun P5 => (((P1.cells.drop 0).take 5)[4]?).bind fun P6 => cond (P2.isCell && (P3.isCell && (P4.isCell && (P5.isCell && (P6.isCell && true))))) (zE (ev 293 [(.ptr 0 0),(.pv P5),(.pv p0)] [[(.slu 30 1 xs6)]]) (fun A7 H8 => (H8[0]?).bind fun C9 => (C9[0]?).bind fun E10 => (wA 30 1 E10).bind fun X11 => cond (decide (C9.length = 1)) (cond (decide (H8.length = 1)) ((zl A7).bind fun P12 => zE (ev 292 [(.ptr 0 0),(.pv p1)] [[(.slu 30 1 X11)]]) (fun A13 H14 => (H14[0]?).bind fun C15 => (C15[0]?).bind fun E16 => (wA 30 1 E16).bind fun X17 => cond (decide (C15.length = 1)) (cond (decide (H14.length = 1)) ((zl A13).bind fun P18 => cond ((decide (P18.cells.length = 1) && P18.cells.all PV.isCell) && true) (cond (yr (xs2.length + 1) 8) (yA p0 p1 (xs2 ++ [P18]) xs3 i4 (IntKind.wrap .i64 (i5 + 1)) X17 i7 i8 i9 xs10 xs11 i12 i13 i14 i15 i16 i17 b18 i19 i20 i21) none) none) none) none) (fun A13 H14 => (H14[0]?).bind fun C15 => (C15[0]?).bind fun E16 => (wA 30 1 E16).bind fun X17 => cond (decide (C15.length = 1)) (cond (decide (H14.length = 1)) (some (.pan A13,[[(.slu 30 1 X17)]])) none) none)) none) none) (fun A7 H8 => (H8[0]?).bind fun C9 => (C9[0]?).bind fun E10 => (wA 30 1 E10).bind fun X11 => cond (decide (C9.length = 1)) (cond (decide (H8.length = 1)) (some (.pan A7,[[(.slu 30 1 X11)]])) none) none)) none) none) none) none) (
 (zQ .i64 (.pv p0)).bind fun N1 => (zQ .i64 (.pv p1)).bind fun N2 => some (.ret (.pv (.tup [(.agg [(I 1),(I 0),(I 0),(I 0),(I i8),(I (IntKind.wrap .i64 (i9 * (IntKind.wrap .i64 (N1 + N2))))),(Bo false),(I 0),(PV.v (.int .u32 0)),(PV.v (.int .u32 0))]),(.sl 1 xs2)])),[[(.slu 30 1 xs6)]])):=(zT ..).trans (by kernel_rfl)
theorem vF (x0__0:List PV) (x1_0:Int) (x1_1:Int) (x1_2:Int) (x1_3:List PV) (x1_4:List PV):ev 270 [(.ptr 0 0),(.pv (.agg [(I x1_0),(I x1_1),(I x1_2),(.sl 1 x1_3),(.sl 5 x1_4)]))] [[(.slu 30 1 x0__0)]] =
 zE (ev 219 [(.pv (.agg [(I x1_0),(I x1_1),(I x1_2),(.sl 1 x1_3),(.sl 5 x1_4)]))] []) (fun A1 H2 => (zl A1).bind fun P3 => (zZ (.pv P3)).bind fun S4 => (S4[0]?).bind fun P5 => (zZ (.pv P3)).bind fun S6 => (S6[1]?).bind fun P7 => cond (P5.isCell && true) (cond (P7.isCell && true) (cond ((P5.isCell && true) && ((P7.isCell && true) && true)) (zE (ev 252 [(.pv (.agg [(I 0),(I x1_2),P5,P7,(I 0),(I 0),(Bo false),(I 0),(PV.v (.int .u32 0)),(PV.v (.int .u32 0))]))] []) (fun A8 H9 => (zl A8).bind fun P10 => (zZ (.pv P10)).bind fun S11 => (S11[0]?).bind fun P12 => (zZ (.pv P10)).bind fun S13 => (S13[1]?).bind fun P14 => cond ((decide (P12.cells.length = 1) && P12.cells.all PV.isCell) && true) (cond (yr (x0__0.length + 1) 8) (yA P5 P7 [] x1_4 (x1_4.length:Int) 0 (x0__0 ++ [P12]) x1_0 x1_1 x1_2 x1_3 x1_4 0 0 0 0 0 0 false 0 0 0) none) none) (fun A8 H9 => some (.pan A8,[[(.slu 30 1 x0__0)]]))) none) none) none) (fun A1 H2 => some (.pan A1,[[(.slu 30 1 x0__0)]])):=(zS (fn:=Tryz.f270) (by kernel_rfl) (by kernel_rfl) (by kernel_rfl) _ _).trans (by kernel_rfl)
theorem WF (x0_0:Int) (x0_1:Int) (x0_2:Int) (x0_3:Int) (x0_4:Int) (x0_5:Int) (x0_6:Int) (x0_7:Int):ev 277 [(.pv (.agg [(I x0_0),(I x0_1),(I x0_2),(I x0_3),(I x0_4),(I x0_5),(I x0_6),(I x0_7)]))] [] =
 cond (x0_0 == 1) (
 cond (decide (x0_4 > 0)) (
 some (.ret (.pv (.tup [(I (IntKind.wrap .i64 (x0_2 + x0_3))),(I x0_4)])),[])) (
 cond (x0_0 == 2) (
  cond (x0_5 == 6) (
  cond (decide (x0_6 > 0)) (
  some (.ret (.pv (.tup [(I x0_2),(I x0_6)])),[])) (
  some (.ret (.pv (.tup [(I 0),(I 0)])),[]))) (
  some (.ret (.pv (.tup [(I 0),(I 0)])),[]))) (
  some (.ret (.pv (.tup [(I 0),(I 0)])),[])))) (
 cond (x0_0 == 2) (
  cond (x0_5 == 6) (
  cond (decide (x0_6 > 0)) (
  some (.ret (.pv (.tup [(I x0_2),(I x0_6)])),[])) (
  some (.ret (.pv (.tup [(I 0),(I 0)])),[]))) (
  some (.ret (.pv (.tup [(I 0),(I 0)])),[]))) (
  some (.ret (.pv (.tup [(I 0),(I 0)])),[]))):=(zS (fn:=Tryz.f277) (by kernel_rfl) (by kernel_rfl) (by kernel_rfl) _ _).trans (by kernel_rfl)
theorem zbU (x0:Int):ev 279 [(.pv (U x0))] [] =
 zE (ev 192 [(.pv (U x0))] []) (fun A1 H2 => (zl A1).bind fun P3 => (zlL (.pv P3)).bind fun cs_4 => (cs_4[0]?).bind fun P5 => (zQ .i64 (.pv P5)).bind fun N6 => some (.ret (.pv (Bo (N6 == 2))),[])) (fun A1 H2 => some (.pan A1,[])):=(zS (fn:=Tryz.f279) (by kernel_rfl) (by kernel_rfl) (by kernel_rfl) _ _).trans (by kernel_rfl)
theorem zaO (x0:List PV) (x1:Int):ev 281 [(.pv (.sl 1 x0)),(.pv (U x1))] [] =
 zE (ev 297 [(.pv (U x1))] []) (fun A1 H2 => (zl A1).bind fun P3 => (zZ (.pv P3)).bind fun S4 => (S4[0]?).bind fun P5 => (zZ (.pv P3)).bind fun S6 => (S6[1]?).bind fun P7 => zE (ev 276 [(.pv (.sl 1 x0)),(.pv P5),(.pv P7),(.pv (I 2))] []) (fun A8 H9 => (zl A8).bind fun P10 => (zZ (.pv P10)).bind fun S11 => (S11[0]?).bind fun P12 => (zZ (.pv P10)).bind fun S13 => (S13[1]?).bind fun P14 => (yt (.pv P14)).bind fun B15 => cond (!B15) (
 some (.ret (.pv (.tup [(.agg [(U 0),(I 0),(I 0)]),(I 2)])),[])) (
 (pSl P12).bind fun L16 => cond ((decide (L16.1 = 1) && true) && decide (0 < (L16.2.length:Int))) ((L16.2[0]?).bind fun P17 => (P17.cells[0]?).bind fun P18 => zE (ev 192 [(.pv P18)] []) (fun A19 H20 => (zl A19).bind fun P21 => (pSl P12).bind fun L22 => cond ((decide (L22.1 = 1) && true) && decide (1 < (L22.2.length:Int))) ((L22.2[1]?).bind fun P23 => (P23.cells[0]?).bind fun P24 => zE (ev 192 [(.pv P24)] []) (fun A25 H26 => (zl A25).bind fun P27 => cond (decide (P21.cells.length = 10)) ((P21.cells[0]?).bind fun P28 => (P21.cells[1]?).bind fun P29 => (P21.cells[2]?).bind fun P30 => (P21.cells[3]?).bind fun P31 => (P21.cells[4]?).bind fun P32 => (P21.cells[5]?).bind fun P33 => (P21.cells[6]?).bind fun P34 => (P21.cells[7]?).bind fun P35 => (P21.cells[8]?).bind fun P36 => (P21.cells[9]?).bind fun P37 => cond (P28.isCell && (P29.isCell && (P30.isCell && (P31.isCell && (P32.isCell && (P33.isCell && (P34.isCell && (P35.isCell && (P36.isCell && (P37.isCell && true)))))))))) (cond (decide (P27.cells.length = 10)) ((P27.cells[0]?).bind fun P38 => (P27.cells[1]?).bind fun P39 => (P27.cells[2]?).bind fun P40 => (P27.cells[3]?).bind fun P41 => (P27.cells[4]?).bind fun P42 => (P27.cells[5]?).bind fun P43 => (P27.cells[6]?).bind fun P44 => (P27.cells[7]?).bind fun P45 => (P27.cells[8]?).bind fun P46 => (P27.cells[9]?).bind fun P47 => cond (P38.isCell && (P39.isCell && (P40.isCell && (P41.isCell && (P42.isCell && (P43.isCell && (P44.isCell && (P45.isCell && (P46.isCell && (P47.isCell && true)))))))))) ((zQ .i64 (.pv P28)).bind fun N48 => cond (N48 != 2) (
  some (.ret (.pv (.tup [(.agg [(U 0),(I 0),(I 0)]),(I 3)])),[])) (
  (yt (.pv P34)).bind fun B49 => cond B49 (
   some (.ret (.pv (.tup [(.agg [(U 0),(I 0),(I 0)]),(I 3)])),[])) (
   (zQ .i64 (.pv P38)).bind fun N50 => cond (decide (N50 > 1)) (
    some (.ret (.pv (.tup [(.agg [(U 0),(I 0),(I 0)]),(I 3)])),[])) (
    (zQ .i64 (.pv P39)).bind fun N51 => cond (N51 != 0) (
     some (.ret (.pv (.tup [(.agg [(U 0),(I 0),(I 0)]),(I 3)])),[])) (
     (pSl P12).bind fun L52 => cond ((decide (L52.1 = 1) && true) && decide (1 < (L52.2.length:Int))) ((L52.2[1]?).bind fun P53 => (P53.cells[0]?).bind fun P54 => (ZT (.pv P36)).bind fun Q55 => cond (P54.isCell && true) (cond (P35.isCell && true) (cond ((P54.isCell && true) && ((P35.isCell && true) && true)) (cond (P54.isCell && (P35.isCell && true)) (some (.ret (.pv (.tup [(.agg [P54,(I (IntKind.wrap .i64 Q55.2)),P35]),(I 0)])),[])) none) none) none) none) none))))) none) none) none) none) (fun A25 H26 => none)) none) (fun A19 H20 => none)) none)) (fun A8 H9 => some (.pan A8,[]))) (fun A1 H2 => some (.pan A1,[])):=(zS (fn:=Tryz.f281) (by kernel_rfl) (by kernel_rfl) (by kernel_rfl) _ _).trans (by kernel_rfl)
theorem YX (x0_0:Int) (x0_1:Int) (x0_2:Int) (x0_3:Int) (x0_4:Int) (x0_5:Int) (x0_6:Bool) (x0_7:Int) (x0_8:Int) (x0_9:Int):ev 287 [(.pv (.agg [(I x0_0),(I x0_1),(I x0_2),(I x0_3),(I x0_4),(I x0_5),(Bo x0_6),(I x0_7),(PV.v (.int .u32 x0_8)),(PV.v (.int .u32 x0_9))]))] [] =
 cond (decide (x0_0 ≥ 0)) (
 cond (decide (x0_0 ≤ 3)) (
 zE (ev 288 [(.pv (.agg [(I x0_0),(I x0_1),(I x0_2),(I x0_3),(I x0_4),(I x0_5),(Bo x0_6),(I x0_7),(PV.v (.int .u32 x0_8)),(PV.v (.int .u32 x0_9))]))] []) (fun A1 H2 => (zl A1).bind fun P3 => zE (ev 192 [(.pv P3)] []) (fun A4 H5 => (zl A4).bind fun P6 => (zfj (.pv P6)).bind fun cs_7 => (yZ [false,false,false,false,false,false,true,false,false,false] cs_7 [(I x0_0),(I x0_1),(I x0_2),(I x0_3),(I x0_4),(I x0_5),(Bo x0_6),(I x0_7),(PV.v (.int .u32 x0_8)),(PV.v (.int .u32 x0_9))]).bind fun Z8 => some (.ret (.pv (Bo Z8)),[])) (fun A4 H5 => none)) (fun A1 H2 => none)) (
 some (.ret (.pv (Bo false)),[]))) (
 some (.ret (.pv (Bo false)),[])):=(zS (fn:=Tryz.f287) (by kernel_rfl) (by kernel_rfl) (by kernel_rfl) _ _).trans (by kernel_rfl)
theorem ZA (x0__0:List PV) (x1:Int):ev 292 [(.ptr 0 0),(.pv (I x1))] [[(.slu 30 1 x0__0)]] =
 cond (decide (0 ≤ x1) && decide (x1 ≤ 140737488355328)) (cond (yr (x0__0.length + (List.replicate (x1).toNat (U 0)).length) 8) (some (.ret (.pv (I (x0__0.length:Int))),[[(.slu 30 1 (x0__0 ++ (List.replicate (x1).toNat (U 0))))]])) none) none:=(zS (fn:=Tryz.f292) (by kernel_rfl) (by kernel_rfl) (by kernel_rfl) _ _).trans (by kernel_rfl)
theorem Y3 (x0__0_0:Int) (x1:Int):ev 294 [(.ptr 0 0),(.pv (I x1))] [[(.pv (I x0__0_0))]] =
 cond (decide (x1 > x0__0_0)) (
 some (.ret (.pv (Bo false)),[[(.pv (I x0__0_0))]])) (
 some (.ret (.pv (Bo true)),[[(.pv (I (IntKind.wrap .i64 (x0__0_0 - x1))))]])):=(zS (fn:=Tryz.f294) (by kernel_rfl) (by kernel_rfl) (by kernel_rfl) _ _).trans (by kernel_rfl)
noncomputable def wL:Code:=Tryz.f296.body.getD .skip
noncomputable def yQ (i0:Int) (xs1:List PV) (p2:PV) (p3:PV) (i4:Int) (p5:PV) (p6:PV) (p7:PV) (p8:PV) (p9:PV) (i10:Int) (i11:Int) (i12:Int) (i13:Int) (i14:Int) (i15:Int) (i16:Int) (i17:Int):Option (Out × z6) :=
 yI (evW env ev yo 34 296 0 (sub wL [1,1,1,0,1,0,0])) (yn env 296 0 2) (zX 0 (wK (evV env ev 34 296 0 (sub wL [1,1,1,1])) (wP env 296 Tryz.f296.results.toList 1))) ⟨ofL [(0,(.ptr 0 0)),(2,(.pv (I i0))),(4,(.ptr 1 0)),(7,(.slu 53 5 xs1)),(8,(.pv p2)),(16,(.pv p3)),(17,(.pv (I i4)))],[[(.pv p5),(.pv p6),(.pv p7),(.pv p8),(.pv p9)],[(.pv (I i10)),(.pv (I i11)),(.pv (I i12)),(.pv (I i13)),(.pv (I i14)),(.pv (I i15)),(.pv (I i16)),(.pv (I i17))]]⟩
theorem x7 (i0:Int) (xs1:List PV) (p2:PV) (p3:PV) (i4:Int) (p5:PV) (p6:PV) (p7:PV) (p8:PV) (p9:PV) (i10:Int) (i11:Int) (i12:Int) (i13:Int) (i14:Int) (i15:Int) (i16:Int) (i17:Int):yQ i0 xs1 p2 p3 i4 p5 p6 p7 p8 p9 i10 i11 i12 i13 i14 i15 i16 i17 =
 (zQ .i64 (.pv p3)).bind fun N1 => cond (decide (i4 < N1)) (
 (zQ .i64 (.pv p2)).bind fun N2 => zE (ev 234 [(.ptr 0 0),(.pv (I i11)),(.pv (I (IntKind.wrap .i64 (N2 + i4)))),(.pv (I (IntKind.wrap .i64 (i0 + 1))))] [[(.pv p5),(.pv p6),(.pv p7),(.pv p8),(.pv p9)]]) (fun A3 H4 => (H4[0]?).bind fun C5 => (C5[0]?).bind fun E6 => (zl E6).bind fun P7 => (C5[1]?).bind fun E8 => (zl E8).bind fun P9 => (C5[2]?).bind fun E10 => (zl E10).bind fun P11 => (C5[3]?).bind fun E12 => (zl E12).bind fun P13 => (C5[4]?).bind fun E14 => (zl E14).bind fun P15 => cond (decide (C5.length = 5)) (cond (decide (H4.length = 1)) ((zl A3).bind fun P16 => cond ((decide (P16.cells.length = 5) && P16.cells.all PV.isCell) && true) (cond (yr (xs1.length + 1) 72) (yQ i0 (xs1 ++ [P16]) p2 p3 (IntKind.wrap .i64 (i4 + 1)) P7 P9 P11 P13 P15 i10 i11 i12 i13 i14 i15 i16 i17) none) none) none) none) (fun A3 H4 => (H4[0]?).bind fun C5 => (C5[0]?).bind fun E6 => (zl E6).bind fun P7 => (C5[1]?).bind fun E8 => (zl E8).bind fun P9 => (C5[2]?).bind fun E10 => (zl E10).bind fun P11 => (C5[3]?).bind fun E12 => (zl E12).bind fun P13 => (C5[4]?).bind fun E14 => (zl E14).bind fun P15 => cond (decide (C5.length = 5)) (cond (decide (H4.length = 1)) (some (.pan A3,[[(.pv P7),(.pv P9),(.pv P11),(.pv P13),(.pv P15)]])) none) none)) (
 some (.ret (.pv (.sl 5 xs1)),[[(.pv p5),(.pv p6),(.pv p7),(.pv p8),(.pv p9)]])):=(zT ..).trans (by kernel_rfl)
theorem Z0 (x0__0:List PV) (x0__1_0:Int) (x0__1_1:Int) (x0__1_2:Int) (x0__2_0:Int) (x1_0:Int) (x1_1:Int) (x1_2:Int) (x1_3:Int) (x1_4:Int) (x1_5:Int) (x1_6:Int) (x1_7:Int) (x2:Int):ev 296 [(.ptr 0 0),(.pv (.agg [(I x1_0),(I x1_1),(I x1_2),(I x1_3),(I x1_4),(I x1_5),(I x1_6),(I x1_7)])),(.pv (I x2))] [[(.pv (.sl 1 x0__0)),(.pv (I x0__1_0)),(.pv (I x0__1_1)),(.pv (I x0__1_2)),(.pv (I x0__2_0))]] =
 zE (ev 277 [(.pv (.agg [(I x1_0),(I x1_1),(I x1_2),(I x1_3),(I x1_4),(I x1_5),(I x1_6),(I x1_7)]))] []) (fun A1 H2 => (zl A1).bind fun P3 => (zZ (.pv P3)).bind fun S4 => (S4[0]?).bind fun P5 => (zZ (.pv P3)).bind fun S6 => (S6[1]?).bind fun P7 => yQ x2 [] P5 P7 0 (.sl 1 x0__0) (I x0__1_0) (I x0__1_1) (I x0__1_2) (I x0__2_0) x1_0 x1_1 x1_2 x1_3 x1_4 x1_5 x1_6 x1_7) (fun A1 H2 => some (.pan A1,[[(.pv (.sl 1 x0__0)),(.pv (I x0__1_0)),(.pv (I x0__1_1)),(.pv (I x0__1_2)),(.pv (I x0__2_0))]])):=(zS (fn:=Tryz.f296) (by kernel_rfl) (by kernel_rfl) (by kernel_rfl) _ _).trans (by kernel_rfl)
end Go.Proofs.YtjbjeeoifhegfaaGreatDoor.E
