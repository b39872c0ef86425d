/- This text is one of those that prove the law WholeErrors of the given program, as its statement says it: true on every input that the statement covers. Its conditions are the statement's own. -/
import Derived.KernelRfl
import Derived.Test.YtjbjeeoifhegfaaGreatDoorZWholeErrors1
import Derived.Test.YtjbjeeoifhegfaaGreatDoorZWholeErrors2
import Derived.Test.YtjbjeeoifhegfaaGreatDoorZWholeErrors3
set_option linter.unusedVariables false
set_option linter.unusedSimpArgs false
namespace Go.Proofs.YtjbjeeoifhegfaaGreatDoor.E
theorem ZS (x0:List PV) (x1_0:Int) (x1_1:Int) (x1_2:Int):ev 3 [(.pv (.sl 1 x0)),(.pv (.agg [(I x1_0),(I x1_1),(I x1_2)]))] [] =
 zE (ev 14 [] []) (fun A1 H2 => (zi A1).bind fun P3 => (yq (.pv P3)).bind fun B4 => cond (!B4) (
 zE (ev 14 [] []) (fun A5 H6 => (zi A5).bind fun P7 => some (.ret (.pv P7),[])) (fun A5 H6 => some (.pan A5,[]))) (
 zE (ev 15 [(.pv (.sl 1 x0)),(.pv (.agg [(I x1_0),(I x1_1),(I x1_2)]))] []) (fun A5 H6 => (zi A5).bind fun P7 => (yq (.pv P7)).bind fun B8 => cond (!B8) (
  zE (ev 14 [] []) (fun A9 H10 => (zi A9).bind fun P11 => some (.ret (.pv P11),[])) (fun A9 H10 => some (.pan A9,[]))) (
  cond (decide (x1_2 > 100000)) (
   zE (ev 14 [] []) (fun A9 H10 => (zi A9).bind fun P11 => some (.ret (.pv P11),[])) (fun A9 H10 => some (.pan A9,[]))) (
   zE (ev 16 [(.pv (.sl 1 x0)),(.pv (.agg [(I x1_0),(I x1_1),(I x1_2)]))] []) (fun A9 H10 => (Vv 0 2 A9).bind fun Q11 => (xR 5 1 Q11.1).bind fun X12 => (Q11.2[1]?).bind fun P13 => zE (ev 17 [(.pv (.sl 1 x0)),(.pv (.agg [(I x1_0),(I x1_1),(I x1_2)]))] []) (fun A14 H15 => (zi A14).bind fun P16 => (yg (.pv P16)).bind fun S17 => (S17[0]?).bind fun P18 => (yg (.pv P16)).bind fun S19 => (S19[1]?).bind fun P20 => zE (ev 18 [(.pv (.sl 1 x0)),(.pv (.sl 1 x0)),(.pv (.agg [(I x1_0),(I x1_1),(I x1_2)]))] []) (fun A21 H22 => (zi A21).bind fun P23 => (yg (.pv P23)).bind fun S24 => (S24[0]?).bind fun P25 => (yg (.pv P23)).bind fun S26 => (S26[1]?).bind fun P27 => zE (ev 19 [(.pv (.sl 1 x0))] []) (fun A28 H29 => (zi A28).bind fun P30 => (yg (.pv P30)).bind fun S31 => (S31[0]?).bind fun P32 => (yg (.pv P30)).bind fun S33 => (S33[1]?).bind fun P34 => zE (ev 20 [(.pv (.sl 1 x0)),(.pv (.agg [(I x1_0),(I x1_1),(I x1_2)]))] []) (fun A35 H36 => (zi A35).bind fun P37 => (yg (.pv P37)).bind fun S38 => (S38[0]?).bind fun P39 => (yg (.pv P37)).bind fun S40 => (S40[1]?).bind fun P41 => (zG .i64 (.pv P13)).bind fun N42 => cond (decide (N42 < 0)) (
    some (.ret (.pv (Bo false)),[])) (
    (zG .i64 (.pv P13)).bind fun N43 => cond (decide (N43 > 8)) (
     some (.ret (.pv (Bo false)),[])) (
     (zG .i64 (.pv P34)).bind fun N44 => cond (N44 != 0) (
      (zG .i64 (.pv P34)).bind fun N45 => cond (N45 != 1) (
      some (.ret (.pv (Bo false)),[])) (
      (zG .i64 (.pv P41)).bind fun N46 => cond (N46 != 0) (
       (zG .i64 (.pv P41)).bind fun N47 => cond (N47 != 1) (
       (zG .i64 (.pv P41)).bind fun N48 => cond (N48 != 10) (
       (zG .i64 (.pv P41)).bind fun N49 => cond (N49 != 11) (
       some (.ret (.pv (Bo false)),[])) (
       (zG .i64 (.pv P13)).bind fun N50 => (zG .i64 (.pv P20)).bind fun N51 => cond (N50 != N51) (
        some (.ret (.pv (Bo false)),[])) (
        (zG .i64 (.pv P13)).bind fun N52 => (zG .i64 (.pv P27)).bind fun N53 => cond (N52 != N53) (
         some (.ret (.pv (Bo false)),[])) (
         (zG .i64 (.pv P13)).bind fun N54 => (yq (.pv P25)).bind fun B55 => cond (B55 != (N54 == 0)) (
          some (.ret (.pv (Bo false)),[])) (
          (zG .i64 (.pv P13)).bind fun N56 => (zG .i64 (.pv P34)).bind fun N57 => cond ((N56 == 1) != (N57 == 1)) (
           some (.ret (.pv (Bo false)),[])) (
           (zG .i64 (.pv P13)).bind fun N58 => cond ((N58 == 0) == (decide ((X12.length:Int) > 0))) (
            (zG .i64 (.pv P13)).bind fun N59 => cond (N59 == 0) (
            (zG .i64 (.pv P34)).bind fun N60 => (pSl P32).bind fun L61 => cond ((N60 == 0) == (decide ((L61.2.length:Int) > 0))) (
            (zG .i64 (.pv P41)).bind fun N62 => (pSl P39).bind fun L63 => some (.ret (.pv (Bo ((N62 == 0) == (decide ((L63.2.length:Int) > 0))))),[])) (
            some (.ret (.pv (Bo false)),[]))) (
            (zG .u64 (.pv P18)).bind fun N60 => cond (N60 == 0) (
             (zG .i64 (.pv P34)).bind fun N61 => (pSl P32).bind fun L62 => cond ((N61 == 0) == (decide ((L62.2.length:Int) > 0))) (
             (zG .i64 (.pv P41)).bind fun N63 => (pSl P39).bind fun L64 => some (.ret (.pv (Bo ((N63 == 0) == (decide ((L64.2.length:Int) > 0))))),[])) (
             some (.ret (.pv (Bo false)),[]))) (
             some (.ret (.pv (Bo false)),[])))) (
            some (.ret (.pv (Bo false)),[])))))))) (
       (zG .i64 (.pv P13)).bind fun N49 => (zG .i64 (.pv P20)).bind fun N50 => cond (N49 != N50) (
        some (.ret (.pv (Bo false)),[])) (
        (zG .i64 (.pv P13)).bind fun N51 => (zG .i64 (.pv P27)).bind fun N52 => cond (N51 != N52) (
         some (.ret (.pv (Bo false)),[])) (
         (zG .i64 (.pv P13)).bind fun N53 => (yq (.pv P25)).bind fun B54 => cond (B54 != (N53 == 0)) (
          some (.ret (.pv (Bo false)),[])) (
          (zG .i64 (.pv P13)).bind fun N55 => (zG .i64 (.pv P34)).bind fun N56 => cond ((N55 == 1) != (N56 == 1)) (
           some (.ret (.pv (Bo false)),[])) (
           (zG .i64 (.pv P13)).bind fun N57 => cond ((N57 == 0) == (decide ((X12.length:Int) > 0))) (
            (zG .i64 (.pv P13)).bind fun N58 => cond (N58 == 0) (
            (zG .i64 (.pv P34)).bind fun N59 => (pSl P32).bind fun L60 => cond ((N59 == 0) == (decide ((L60.2.length:Int) > 0))) (
            (zG .i64 (.pv P41)).bind fun N61 => (pSl P39).bind fun L62 => some (.ret (.pv (Bo ((N61 == 0) == (decide ((L62.2.length:Int) > 0))))),[])) (
            some (.ret (.pv (Bo false)),[]))) (
            (zG .u64 (.pv P18)).bind fun N59 => cond (N59 == 0) (
             (zG .i64 (.pv P34)).bind fun N60 => (pSl P32).bind fun L61 => cond ((N60 == 0) == (decide ((L61.2.length:Int) > 0))) (
             (zG .i64 (.pv P41)).bind fun N62 => (pSl P39).bind fun L63 => some (.ret (.pv (Bo ((N62 == 0) == (decide ((L63.2.length:Int) > 0))))),[])) (
             some (.ret (.pv (Bo false)),[]))) (
             some (.ret (.pv (Bo false)),[])))) (
            some (.ret (.pv (Bo false)),[])))))))) (
       (zG .i64 (.pv P13)).bind fun N48 => (zG .i64 (.pv P20)).bind fun N49 => cond (N48 != N49) (
        some (.ret (.pv (Bo false)),[])) (
        (zG .i64 (.pv P13)).bind fun N50 => (zG .i64 (.pv P27)).bind fun N51 => cond (N50 != N51) (
         some (.ret (.pv (Bo false)),[])) (
         (zG .i64 (.pv P13)).bind fun N52 => (yq (.pv P25)).bind fun B53 => cond (B53 != (N52 == 0)) (
          some (.ret (.pv (Bo false)),[])) (
          (zG .i64 (.pv P13)).bind fun N54 => (zG .i64 (.pv P34)).bind fun N55 => cond ((N54 == 1) != (N55 == 1)) (
           some (.ret (.pv (Bo false)),[])) (
           (zG .i64 (.pv P13)).bind fun N56 => cond ((N56 == 0) == (decide ((X12.length:Int) > 0))) (
            (zG .i64 (.pv P13)).bind fun N57 => cond (N57 == 0) (
            (zG .i64 (.pv P34)).bind fun N58 => (pSl P32).bind fun L59 => cond ((N58 == 0) == (decide ((L59.2.length:Int) > 0))) (
            (zG .i64 (.pv P41)).bind fun N60 => (pSl P39).bind fun L61 => some (.ret (.pv (Bo ((N60 == 0) == (decide ((L61.2.length:Int) > 0))))),[])) (
            some (.ret (.pv (Bo false)),[]))) (
            (zG .u64 (.pv P18)).bind fun N58 => cond (N58 == 0) (
             (zG .i64 (.pv P34)).bind fun N59 => (pSl P32).bind fun L60 => cond ((N59 == 0) == (decide ((L60.2.length:Int) > 0))) (
             (zG .i64 (.pv P41)).bind fun N61 => (pSl P39).bind fun L62 => some (.ret (.pv (Bo ((N61 == 0) == (decide ((L62.2.length:Int) > 0))))),[])) (
             some (.ret (.pv (Bo false)),[]))) (
             some (.ret (.pv (Bo false)),[])))) (
            some (.ret (.pv (Bo false)),[])))))))) (
       (zG .i64 (.pv P13)).bind fun N47 => (zG .i64 (.pv P20)).bind fun N48 => cond (N47 != N48) (
        some (.ret (.pv (Bo false)),[])) (
        (zG .i64 (.pv P13)).bind fun N49 => (zG .i64 (.pv P27)).bind fun N50 => cond (N49 != N50) (
         some (.ret (.pv (Bo false)),[])) (
         (zG .i64 (.pv P13)).bind fun N51 => (yq (.pv P25)).bind fun B52 => cond (B52 != (N51 == 0)) (
          some (.ret (.pv (Bo false)),[])) (
          (zG .i64 (.pv P13)).bind fun N53 => (zG .i64 (.pv P34)).bind fun N54 => cond ((N53 == 1) != (N54 == 1)) (
           some (.ret (.pv (Bo false)),[])) (
           (zG .i64 (.pv P13)).bind fun N55 => cond ((N55 == 0) == (decide ((X12.length:Int) > 0))) (
            (zG .i64 (.pv P13)).bind fun N56 => cond (N56 == 0) (
            (zG .i64 (.pv P34)).bind fun N57 => (pSl P32).bind fun L58 => cond ((N57 == 0) == (decide ((L58.2.length:Int) > 0))) (
            (zG .i64 (.pv P41)).bind fun N59 => (pSl P39).bind fun L60 => some (.ret (.pv (Bo ((N59 == 0) == (decide ((L60.2.length:Int) > 0))))),[])) (
            some (.ret (.pv (Bo false)),[]))) (
            (zG .u64 (.pv P18)).bind fun N57 => cond (N57 == 0) (
             (zG .i64 (.pv P34)).bind fun N58 => (pSl P32).bind fun L59 => cond ((N58 == 0) == (decide ((L59.2.length:Int) > 0))) (
             (zG .i64 (.pv P41)).bind fun N60 => (pSl P39).bind fun L61 => some (.ret (.pv (Bo ((N60 == 0) == (decide ((L61.2.length:Int) > 0))))),[])) (
             some (.ret (.pv (Bo false)),[]))) (
             some (.ret (.pv (Bo false)),[])))) (
            some (.ret (.pv (Bo false)),[]))))))))) (
      (zG .i64 (.pv P41)).bind fun N45 => cond (N45 != 0) (
       (zG .i64 (.pv P41)).bind fun N46 => cond (N46 != 1) (
       (zG .i64 (.pv P41)).bind fun N47 => cond (N47 != 10) (
       (zG .i64 (.pv P41)).bind fun N48 => cond (N48 != 11) (
       some (.ret (.pv (Bo false)),[])) (
       (zG .i64 (.pv P13)).bind fun N49 => (zG .i64 (.pv P20)).bind fun N50 => cond (N49 != N50) (
        some (.ret (.pv (Bo false)),[])) (
        (zG .i64 (.pv P13)).bind fun N51 => (zG .i64 (.pv P27)).bind fun N52 => cond (N51 != N52) (
         some (.ret (.pv (Bo false)),[])) (
         (zG .i64 (.pv P13)).bind fun N53 => (yq (.pv P25)).bind fun B54 => cond (B54 != (N53 == 0)) (
          some (.ret (.pv (Bo false)),[])) (
          (zG .i64 (.pv P13)).bind fun N55 => (zG .i64 (.pv P34)).bind fun N56 => cond ((N55 == 1) != (N56 == 1)) (
           some (.ret (.pv (Bo false)),[])) (
           (zG .i64 (.pv P13)).bind fun N57 => cond ((N57 == 0) == (decide ((X12.length:Int) > 0))) (
            (zG .i64 (.pv P13)).bind fun N58 => cond (N58 == 0) (
            (zG .i64 (.pv P34)).bind fun N59 => (pSl P32).bind fun L60 => cond ((N59 == 0) == (decide ((L60.2.length:Int) > 0))) (
            (zG .i64 (.pv P41)).bind fun N61 => (pSl P39).bind fun L62 => some (.ret (.pv (Bo ((N61 == 0) == (decide ((L62.2.length:Int) > 0))))),[])) (
            some (.ret (.pv (Bo false)),[]))) (
            (zG .u64 (.pv P18)).bind fun N59 => cond (N59 == 0) (
             (zG .i64 (.pv P34)).bind fun N60 => (pSl P32).bind fun L61 => cond ((N60 == 0) == (decide ((L61.2.length:Int) > 0))) (
             (zG .i64 (.pv P41)).bind fun N62 => (pSl P39).bind fun L63 => some (.ret (.pv (Bo ((N62 == 0) == (decide ((L63.2.length:Int) > 0))))),[])) (
             some (.ret (.pv (Bo false)),[]))) (
             some (.ret (.pv (Bo false)),[])))) (
            some (.ret (.pv (Bo false)),[])))))))) (
       (zG .i64 (.pv P13)).bind fun N48 => (zG .i64 (.pv P20)).bind fun N49 => cond (N48 != N49) (
        some (.ret (.pv (Bo false)),[])) (
        (zG .i64 (.pv P13)).bind fun N50 => (zG .i64 (.pv P27)).bind fun N51 => cond (N50 != N51) (
         some (.ret (.pv (Bo false)),[])) (
         (zG .i64 (.pv P13)).bind fun N52 => (yq (.pv P25)).bind fun B53 => cond (B53 != (N52 == 0)) (
          some (.ret (.pv (Bo false)),[])) (
          (zG .i64 (.pv P13)).bind fun N54 => (zG .i64 (.pv P34)).bind fun N55 => cond ((N54 == 1) != (N55 == 1)) (
           some (.ret (.pv (Bo false)),[])) (
           (zG .i64 (.pv P13)).bind fun N56 => cond ((N56 == 0) == (decide ((X12.length:Int) > 0))) (
            (zG .i64 (.pv P13)).bind fun N57 => cond (N57 == 0) (
            (zG .i64 (.pv P34)).bind fun N58 => (pSl P32).bind fun L59 => cond ((N58 == 0) == (decide ((L59.2.length:Int) > 0))) (
            (zG .i64 (.pv P41)).bind fun N60 => (pSl P39).bind fun L61 => some (.ret (.pv (Bo ((N60 == 0) == (decide ((L61.2.length:Int) > 0))))),[])) (
            some (.ret (.pv (Bo false)),[]))) (
            (zG .u64 (.pv P18)).bind fun N58 => cond (N58 == 0) (
             (zG .i64 (.pv P34)).bind fun N59 => (pSl P32).bind fun L60 => cond ((N59 == 0) == (decide ((L60.2.length:Int) > 0))) (
             (zG .i64 (.pv P41)).bind fun N61 => (pSl P39).bind fun L62 => some (.ret (.pv (Bo ((N61 == 0) == (decide ((L62.2.length:Int) > 0))))),[])) (
             some (.ret (.pv (Bo false)),[]))) (
             some (.ret (.pv (Bo false)),[])))) (
            some (.ret (.pv (Bo false)),[])))))))) (
       (zG .i64 (.pv P13)).bind fun N47 => (zG .i64 (.pv P20)).bind fun N48 => cond (N47 != N48) (
        some (.ret (.pv (Bo false)),[])) (
        (zG .i64 (.pv P13)).bind fun N49 => (zG .i64 (.pv P27)).bind fun N50 => cond (N49 != N50) (
         some (.ret (.pv (Bo false)),[])) (
         (zG .i64 (.pv P13)).bind fun N51 => (yq (.pv P25)).bind fun B52 => cond (B52 != (N51 == 0)) (
          some (.ret (.pv (Bo false)),[])) (
          (zG .i64 (.pv P13)).bind fun N53 => (zG .i64 (.pv P34)).bind fun N54 => cond ((N53 == 1) != (N54 == 1)) (
           some (.ret (.pv (Bo false)),[])) (
           (zG .i64 (.pv P13)).bind fun N55 => cond ((N55 == 0) == (decide ((X12.length:Int) > 0))) (
            (zG .i64 (.pv P13)).bind fun N56 => cond (N56 == 0) (
            (zG .i64 (.pv P34)).bind fun N57 => (pSl P32).bind fun L58 => cond ((N57 == 0) == (decide ((L58.2.length:Int) > 0))) (
            (zG .i64 (.pv P41)).bind fun N59 => (pSl P39).bind fun L60 => some (.ret (.pv (Bo ((N59 == 0) == (decide ((L60.2.length:Int) > 0))))),[])) (
            some (.ret (.pv (Bo false)),[]))) (
            (zG .u64 (.pv P18)).bind fun N57 => cond (N57 == 0) (
             (zG .i64 (.pv P34)).bind fun N58 => (pSl P32).bind fun L59 => cond ((N58 == 0) == (decide ((L59.2.length:Int) > 0))) (
             (zG .i64 (.pv P41)).bind fun N60 => (pSl P39).bind fun L61 => some (.ret (.pv (Bo ((N60 == 0) == (decide ((L61.2.length:Int) > 0))))),[])) (
             some (.ret (.pv (Bo false)),[]))) (
             some (.ret (.pv (Bo false)),[])))) (
            some (.ret (.pv (Bo false)),[])))))))) (
       (zG .i64 (.pv P13)).bind fun N46 => (zG .i64 (.pv P20)).bind fun N47 => cond (N46 != N47) (
        some (.ret (.pv (Bo false)),[])) (
        (zG .i64 (.pv P13)).bind fun N48 => (zG .i64 (.pv P27)).bind fun N49 => cond (N48 != N49) (
         some (.ret (.pv (Bo false)),[])) (
         (zG .i64 (.pv P13)).bind fun N50 => (yq (.pv P25)).bind fun B51 => cond (B51 != (N50 == 0)) (
          some (.ret (.pv (Bo false)),[])) (
          (zG .i64 (.pv P13)).bind fun N52 => (zG .i64 (.pv P34)).bind fun N53 => cond ((N52 == 1) != (N53 == 1)) (
           some (.ret (.pv (Bo false)),[])) (
           (zG .i64 (.pv P13)).bind fun N54 => cond ((N54 == 0) == (decide ((X12.length:Int) > 0))) (
            (zG .i64 (.pv P13)).bind fun N55 => cond (N55 == 0) (
            (zG .i64 (.pv P34)).bind fun N56 => (pSl P32).bind fun L57 => cond ((N56 == 0) == (decide ((L57.2.length:Int) > 0))) (
            (zG .i64 (.pv P41)).bind fun N58 => (pSl P39).bind fun L59 => some (.ret (.pv (Bo ((N58 == 0) == (decide ((L59.2.length:Int) > 0))))),[])) (
            some (.ret (.pv (Bo false)),[]))) (
            (zG .u64 (.pv P18)).bind fun N56 => cond (N56 == 0) (
             (zG .i64 (.pv P34)).bind fun N57 => (pSl P32).bind fun L58 => cond ((N57 == 0) == (decide ((L58.2.length:Int) > 0))) (
             (zG .i64 (.pv P41)).bind fun N59 => (pSl P39).bind fun L60 => some (.ret (.pv (Bo ((N59 == 0) == (decide ((L60.2.length:Int) > 0))))),[])) (
             some (.ret (.pv (Bo false)),[]))) (
             some (.ret (.pv (Bo false)),[])))) (
            some (.ret (.pv (Bo false)),[]))))))))))) (fun A35 H36 => some (.pan A35,[]))) (fun A28 H29 => some (.pan A28,[]))) (fun A21 H22 => some (.pan A21,[]))) (fun A14 H15 => some (.pan A14,[]))) (fun A9 H10 => some (.pan A9,[]))))) (fun A5 H6 => some (.pan A5,[])))) (fun A1 H2 => some (.pan A1,[])):=(zR (fn:=Tryz.f3) (by kernel_rfl) (by kernel_rfl) (by kernel_rfl) _ _).trans (by kernel_rfl)
theorem Qv (x0:List PV) (x1_0:Int) (x1_1:Int) (x1_2:Int):ev 58 [(.pv (.sl 1 x0)),(.pv (.agg [(I x1_0),(I x1_1),(I x1_2)]))] [] =
 zE (ev 108 [(.pv (.sl 1 x0)),(.pv (.agg [(I x1_0),(I x1_1),(I x1_2)])),(.pv (.v (.func (.func 109) #[] #[])))] []) (fun A1 H2 => (zi A1).bind fun P3 => (yg (.pv P3)).bind fun S4 => (S4[0]?).bind fun P5 => (yg (.pv P3)).bind fun S6 => (S6[1]?).bind fun P7 => some (.ret (.pv (.tup [P5,P7])),[])) (fun A1 H2 => some (.pan A1,[])):=(zR (fn:=Tryz.f58) (by kernel_rfl) (by kernel_rfl) (by kernel_rfl) _ _).trans (by kernel_rfl)
theorem JO (x0:List PV):ev 61 [(.pv (.sl 1 x0))] [] =
 zE (ev 64 [(.pv (.sl 1 x0))] []) (fun A1 H2 => (zi A1).bind fun P3 => (yg (.pv P3)).bind fun S4 => (S4[0]?).bind fun P5 => (yg (.pv P3)).bind fun S6 => (S6[1]?).bind fun P7 => (yq (.pv P7)).bind fun B8 => cond (!B8) (
 some (.ret (.pv (.tup [(.sl 1 []),(I 9)])),[])) (
 zE (ev 113 [(.pv P5)] []) (fun A9 H10 => (zi A9).bind fun P11 => some (.ret (.pv (.tup [P11,(I 0)])),[])) (fun A9 H10 => some (.pan A9,[])))) (fun A1 H2 => some (.pan A1,[])):=(zR (fn:=Tryz.f61) (by kernel_rfl) (by kernel_rfl) (by kernel_rfl) _ _).trans (by kernel_rfl)
theorem Zw (x0:Int):ev 86 [(.pv (I x0))] [] =
 cond ((Int.tmod x0 2) == 0) (
 some (.ret (.pv (I (IntKind.wrap .i64 ((IntKind.wrap .i64 (4 * x0)) + 8)))),[])) (
 some (.ret (.pv (I (IntKind.wrap .i64 ((IntKind.wrap .i64 (4 * x0)) + 4)))),[])):=(zR (fn:=Tryz.f86) (by kernel_rfl) (by kernel_rfl) (by kernel_rfl) _ _).trans (by kernel_rfl)
noncomputable def vU:Code:=Tryz.f87.body.getD .skip
noncomputable def xm (xs0:List PV) (xs1:List PV) (i2:Int):Option (Out × zX) :=
 yU (evW env ev yw 30 87 0 (sub vU [1,1,1,0,1,0,0])) (ym env 87 0 0) (yf 0 (Zj (evV env ev 30 87 0 (sub vU [1,1,1,1])) (vj env 87 Tryz.f87.results.toList 0))) ⟨ofL [(0,(.pv (.sl 1 xs0))),(4,(.slu 30 1 xs1)),(5,(.pv (I i2)))],[]⟩
theorem wF (xs0:List PV) (xs1:List PV) (i2:Int):xm xs0 xs1 i2 =
 cond (decide (i2 < (IntKind.wrap .i64 (Int.tdiv (xs0.length:Int) 8)))) (
 zE (ev 94 [(.pv (.sl 1 xs0)),(.pv (I i2))] []) (fun A1 H2 => (zi A1).bind fun P3 => (yg (.pv P3)).bind fun S4 => (S4[0]?).bind fun P5 => (yg (.pv P3)).bind fun S6 => (S6[1]?).bind fun P7 => cond ((decide (P5.cells.length = 1) && P5.cells.all PV.isCell) && true) (cond (yV (xs1.length + 1) 8) (xm xs0 (xs1 ++ [P5]) (IntKind.wrap .i64 (i2 + 1))) none) none) (fun A1 H2 => some (.pan A1,[]))) (
 some (.ret (.tup 0 (.slu 30 1 xs1) [(.v .nilIface),(Bo true)]),[])):=(zU ..).trans (by kernel_rfl)
theorem Xu (x0:List PV):ev 87 [(.pv (.sl 1 x0))] [] =
 cond ((Int.tmod (x0.length:Int) 8) != 0) (
 some (.ret (.tup 0 (.slu 30 1 []) [(.v .nilIface),(Bo false)]),[])) (
 xm x0 [] 0):=(zR (fn:=Tryz.f87) (by kernel_rfl) (by kernel_rfl) (by kernel_rfl) _ _).trans (by kernel_rfl)
noncomputable def wj:Code:=Tryz.f161.body.getD .skip
noncomputable def yi (p0:PV) (p1:PV) (xs2:List PV) (p3:PV):Option (Out × zX) :=
 yU (evW env ev yw 39 161 0 (sub wj [1,0,1,0,0,0])) (ym env 161 0 1) (yf 0 (Zj (evV env ev 39 161 0 (sub wj [1,0,1,1])) (vj env 161 Tryz.f161.results.toList 1))) ⟨ofL [(0,(.ptr 0 0)),(2,(.pv p0))],[[(.pv p1),(.slu 5 1 xs2),(.pv p3)]]⟩
theorem yY (p0:PV) (p1:PV) (xs2:List PV) (p3:PV):yi p0 p1 xs2 p3 =
 (pSl p1).bind fun L1 => cond (decide ((L1.2.length:Int) > 0)) (
 (pSl p1).bind fun L2 => cond ((decide (L2.1 = 1) && true) && decide (0 < (L2.2.length:Int))) ((L2.2[0]?).bind fun P3 => (P3.cells[0]?).bind fun P4 => (pSl p1).bind fun L5 => cond (decide (L5.1 = 1)) (cond (decide (1 ≤ (L5.2.length:Int)) && decide ((L5.2.length:Int) ≤ (L5.2.length:Int))) ((zG .u8 (.pv P4)).bind fun N6 => cond (N6 == 0) (
 zE (ev 224 [(.ptr 0 0),(.pv P4)] [[(.pv (.sl L5.1 ((L5.2.take (L5.2.length:Int).toNat).drop 1))),(.slu 5 1 xs2),(.pv p3)]]) (fun A7 H8 => (H8[0]?).bind fun C9 => (C9[0]?).bind fun E10 => (zi E10).bind fun P11 => (C9[1]?).bind fun E12 => (xR 5 1 E12).bind fun X13 => (C9[2]?).bind fun E14 => (zi E14).bind fun P15 => cond (decide (C9.length = 3)) (cond (decide (H8.length = 1)) ((zi A7).bind fun P16 => (Ys (.pv P16)).bind fun Z17 => cond (!Z17) (
 some (.ret (.pv P16),[[(.pv P11),(.slu 5 1 X13),(.pv P15)]])) (
 yi P16 P11 X13 P15)) none) none) (fun A7 H8 => (H8[0]?).bind fun C9 => (C9[0]?).bind fun E10 => (zi E10).bind fun P11 => (C9[1]?).bind fun E12 => (xR 5 1 E12).bind fun X13 => (C9[2]?).bind fun E14 => (zi E14).bind fun P15 => cond (decide (C9.length = 3)) (cond (decide (H8.length = 1)) (some (.pan A7,[[(.pv P11),(.slu 5 1 X13),(.pv P15)]])) none) none)) (
 (zG .u8 (.pv P4)).bind fun N7 => cond (N7 == 255) (
  zE (ev 224 [(.ptr 0 0),(.pv P4)] [[(.pv (.sl L5.1 ((L5.2.take (L5.2.length:Int).toNat).drop 1))),(.slu 5 1 xs2),(.pv p3)]]) (fun A8 H9 => (H9[0]?).bind fun C10 => (C10[0]?).bind fun E11 => (zi E11).bind fun P12 => (C10[1]?).bind fun E13 => (xR 5 1 E13).bind fun X14 => (C10[2]?).bind fun E15 => (zi E15).bind fun P16 => cond (decide (C10.length = 3)) (cond (decide (H9.length = 1)) ((zi A8).bind fun P17 => (Ys (.pv P17)).bind fun Z18 => cond (!Z18) (
  some (.ret (.pv P17),[[(.pv P12),(.slu 5 1 X14),(.pv P16)]])) (
  yi P17 P12 X14 P16)) none) none) (fun A8 H9 => (H9[0]?).bind fun C10 => (C10[0]?).bind fun E11 => (zi E11).bind fun P12 => (C10[1]?).bind fun E13 => (xR 5 1 E13).bind fun X14 => (C10[2]?).bind fun E15 => (zi E15).bind fun P16 => cond (decide (C10.length = 3)) (cond (decide (H9.length = 1)) (some (.pan A8,[[(.pv P12),(.slu 5 1 X14),(.pv P16)]])) none) none)) (
  zE (ev 225 [(.ptr 0 0),(.pv P4)] [[(.pv (.sl L5.1 ((L5.2.take (L5.2.length:Int).toNat).drop 1))),(.slu 5 1 xs2),(.pv p3)]]) (fun A8 H9 => (H9[0]?).bind fun C10 => (C10[0]?).bind fun E11 => (zi E11).bind fun P12 => (C10[1]?).bind fun E13 => (xR 5 1 E13).bind fun X14 => (C10[2]?).bind fun E15 => (zi E15).bind fun P16 => cond (decide (C10.length = 3)) (cond (decide (H9.length = 1)) ((zi A8).bind fun P17 => (Ys (.pv P17)).bind fun Z18 => cond (!Z18) (
   some (.ret (.pv P17),[[(.pv P12),(.slu 5 1 X14),(.pv P16)]])) (
   yi P17 P12 X14 P16)) none) none) (fun A8 H9 => (H9[0]?).bind fun C10 => (C10[0]?).bind fun E11 => (zi E11).bind fun P12 => (C10[1]?).bind fun E13 => (xR 5 1 E13).bind fun X14 => (C10[2]?).bind fun E15 => (zi E15).bind fun P16 => cond (decide (C10.length = 3)) (cond (decide (H9.length = 1)) (some (.pan A8,[[(.pv P12),(.slu 5 1 X14),(.pv P16)]])) none) none)))) none) none) none) (
 some (.ret (.pv p0),[[(.pv p1),(.slu 5 1 xs2),(.pv p3)]])):=(zU ..).trans (by kernel_rfl)
theorem ZO (x0__0:List PV) (x0__1:List PV) (x0__2:Int):ev 161 [(.ptr 0 0)] [[(.pv (.sl 1 x0__0)),(.slu 5 1 x0__1),(.pv (I x0__2))]] =
 yi (.v .nilIface) (.sl 1 x0__0) x0__1 (I x0__2):=(zR (fn:=Tryz.f161) (by kernel_rfl) (by kernel_rfl) (by kernel_rfl) _ _).trans (by kernel_rfl)
theorem Vb (x0 x1:PV):ev 162 [.pv x0,.pv x1] [] = (isV env x0 x1).bind fun b => some (.ret (.pv (.v (.bool b))),[]):=(VP (q:=(1,(0,0))) (by kernel_rfl) _ _).trans (by kernel_rfl)
theorem Kk (x0_0:Int) (x0_1:Int) (x0_2:Int) (x1_0:Int):ev 179 [(.pv (.agg [(I x0_0),(I x0_1),(I x0_2)])),(.pv (.agg [(I x1_0)]))] [] =
 zE (ev 131 [(.pv (.agg [(I x0_0),(I x0_1),(I x0_2)]))] []) (fun A1 H2 => (zi A1).bind fun P3 => (zkg (.pv P3)).bind fun cs_4 => (cs_4[0]?).bind fun P5 => (zG .i64 (.pv P5)).bind fun N6 => some (.ret (.pv (I (IntKind.wrap .i64 (N6 - x1_0)))),[])) (fun A1 H2 => none):=(zR (fn:=Tryz.f179) (by kernel_rfl) (by kernel_rfl) (by kernel_rfl) _ _).trans (by kernel_rfl)
theorem Yz (x0_0:List PV) (x0_1:List PV) (x1_0:Int) (x1_1:Int) (x1_2:Int) (x1_3:Int) (x1_4:Int) (x1_5:Int) (x1_6:Int) (x1_7:Int) (x2_0:Int) (x2_1:Int) (x2_2:Int) (x2_3:Int) (x2_4:Int) (x2_5:Int) (x2_6:Int) (x2_7:Int):ev 181 [(.pv (.agg [(.sl 1 x0_0),(.sl 1 x0_1)])),(.pv (.agg [(I x1_0),(I x1_1),(I x1_2),(I x1_3),(I x1_4),(I x1_5),(I x1_6),(I x1_7)])),(.pv (.agg [(I x2_0),(I x2_1),(I x2_2),(I x2_3),(I x2_4),(I x2_5),(I x2_6),(I x2_7)]))] [] =
 zE (ev 236 [(.pv (.sl 1 x0_0)),(.pv (.agg [(I x1_0),(I x1_1),(I x1_2),(I x1_3),(I x1_4),(I x1_5),(I x1_6),(I x1_7)])),(.pv (I x1_3))] []) (fun A1 H2 => (zi A1).bind fun P3 => zE (ev 236 [(.pv (.sl 1 x0_1)),(.pv (.agg [(I x2_0),(I x2_1),(I x2_2),(I x2_3),(I x2_4),(I x2_5),(I x2_6),(I x2_7)])),(.pv (I x2_3))] []) (fun A4 H5 => (zi A4).bind fun P6 => zE (ev 237 [(.pv P3),(.pv P6)] []) (fun A7 H8 => (zi A7).bind fun P9 => (yq (.pv P9)).bind fun B10 => cond B10 (
 zE (ev 183 [(.pv (.agg [(.sl 1 x0_0),(.sl 1 x0_1)])),(.pv (.agg [(I x1_0),(I x1_1),(I x1_2),(I x1_3),(I x1_4),(I x1_5),(I x1_6),(I x1_7)])),(.pv (.agg [(I x2_0),(I x2_1),(I x2_2),(I x2_3),(I x2_4),(I x2_5),(I x2_6),(I x2_7)])),(.pv (I (if x2_4 > x1_4 then x2_4 else x1_4)))] []) (fun A11 H12 => (zi A11).bind fun P13 => (yq (.pv P13)).bind fun B14 => some (.ret (.pv (Bo B14)),[])) (fun A11 H12 => some (.pan A11,[]))) (
 some (.ret (.pv (Bo false)),[]))) (fun A7 H8 => some (.pan A7,[]))) (fun A4 H5 => some (.pan A4,[]))) (fun A1 H2 => none):=(zR (fn:=Tryz.f181) (by kernel_rfl) (by kernel_rfl) (by kernel_rfl) _ _).trans (by kernel_rfl)
theorem WQ (x0:List PV) (x1:Int) (x2:Int):ev 184 [(.pv (.sl 1 x0)),(.pv (I x1)),(.pv (I x2))] [] =
 zE (ev 240 [(.pv (.sl 1 x0)),(.pv (I x1)),(.pv (I x2))] []) (fun A1 H2 => (zi A1).bind fun P3 => (yg (.pv P3)).bind fun S4 => (S4[0]?).bind fun P5 => (yg (.pv P3)).bind fun S6 => (S6[1]?).bind fun P7 => (yg (.pv P3)).bind fun S8 => (S8[2]?).bind fun P9 => (yg (.pv P3)).bind fun S10 => (S10[3]?).bind fun P11 => (zG .i64 (.pv P11)).bind fun N12 => cond (N12 != 0) (
 some (.ret (.pv (.tup [(.agg [(I 0),(I 0),(I 0),(I 0),(I 0),(I 0),(I 0),(I 0)]),P11])),[])) (
 zE (ev 190 [(.pv P5)] []) (fun A13 H14 => (zi A13).bind fun P15 => (yq (.pv P15)).bind fun B16 => cond B16 (
  some (.ret (.pv (.tup [(.agg [(I 0),(I 0),(I 0),(I 0),(I 0),(I 0),(I 0),(I 0)]),P11])),[])) (
  zE (ev 192 [(.pv P5)] []) (fun A17 H18 => (zi A17).bind fun P19 => cond (decide (P19.cells.length = 10)) ((P19.cells[0]?).bind fun P20 => (P19.cells[1]?).bind fun P21 => (P19.cells[2]?).bind fun P22 => (P19.cells[3]?).bind fun P23 => (P19.cells[4]?).bind fun P24 => (P19.cells[5]?).bind fun P25 => (P19.cells[6]?).bind fun P26 => (P19.cells[7]?).bind fun P27 => (P19.cells[8]?).bind fun P28 => (P19.cells[9]?).bind fun P29 => cond (P20.isCell && (P21.isCell && (P22.isCell && (P23.isCell && (P24.isCell && (P25.isCell && (P26.isCell && (P27.isCell && (P28.isCell && (P29.isCell && true)))))))))) ((ZH (.pv P20)).bind fun Q30 => cond (decide (0 ≤ Q30.2) && decide (Q30.2 < 4)) (cond ((0:Int) == Q30.2) (
   (zG .i64 (.pv P9)).bind fun N31 => (zG .i64 (.pv P21)).bind fun N32 => zE (ev 241 [(.pv (.sl 1 x0)),(.pv (.agg [P20,P21,P22,P23,P24,P25,P26,P27,P28,P29])),(.pv P7),(.pv (I (IntKind.wrap .i64 (N31 + N32))))] []) (fun A33 H34 => (zi A33).bind fun P35 => (yg (.pv P35)).bind fun S36 => (S36[0]?).bind fun P37 => (yg (.pv P35)).bind fun S38 => (S38[1]?).bind fun P39 => cond (decide (P37.cells.length = 8)) ((P37.cells[0]?).bind fun P40 => (P37.cells[1]?).bind fun P41 => (P37.cells[2]?).bind fun P42 => (P37.cells[3]?).bind fun P43 => (P37.cells[4]?).bind fun P44 => (P37.cells[5]?).bind fun P45 => (P37.cells[6]?).bind fun P46 => (P37.cells[7]?).bind fun P47 => cond (P40.isCell && (P41.isCell && (P42.isCell && (P43.isCell && (P44.isCell && (P45.isCell && (P46.isCell && (P47.isCell && true)))))))) (some (.ret (.pv (.tup [(.agg [P40,P41,P42,P43,P44,P45,P46,P47]),P39])),[])) none) none) (fun A33 H34 => some (.pan A33,[]))) (
   cond ((1:Int) == Q30.2) (
    (zG .i64 (.pv P9)).bind fun N31 => (zG .i64 (.pv P21)).bind fun N32 => zE (ev 242 [(.pv (.sl 1 x0)),(.pv (.agg [P20,P21,P22,P23,P24,P25,P26,P27,P28,P29])),(.pv P7),(.pv (I (IntKind.wrap .i64 (N31 + N32))))] []) (fun A33 H34 => (zi A33).bind fun P35 => (yg (.pv P35)).bind fun S36 => (S36[0]?).bind fun P37 => (yg (.pv P35)).bind fun S38 => (S38[1]?).bind fun P39 => cond (decide (P37.cells.length = 8)) ((P37.cells[0]?).bind fun P40 => (P37.cells[1]?).bind fun P41 => (P37.cells[2]?).bind fun P42 => (P37.cells[3]?).bind fun P43 => (P37.cells[4]?).bind fun P44 => (P37.cells[5]?).bind fun P45 => (P37.cells[6]?).bind fun P46 => (P37.cells[7]?).bind fun P47 => cond (P40.isCell && (P41.isCell && (P42.isCell && (P43.isCell && (P44.isCell && (P45.isCell && (P46.isCell && (P47.isCell && true)))))))) (some (.ret (.pv (.tup [(.agg [P40,P41,P42,P43,P44,P45,P46,P47]),P39])),[])) none) none) (fun A33 H34 => some (.pan A33,[]))) (
    cond ((2:Int) == Q30.2) (
     (zG .i64 (.pv P9)).bind fun N31 => (zG .i64 (.pv P21)).bind fun N32 => zE (ev 243 [(.pv (.sl 1 x0)),(.pv (.agg [P20,P21,P22,P23,P24,P25,P26,P27,P28,P29])),(.pv P7),(.pv (I (IntKind.wrap .i64 (N31 + N32))))] []) (fun A33 H34 => (zi A33).bind fun P35 => (yg (.pv P35)).bind fun S36 => (S36[0]?).bind fun P37 => (yg (.pv P35)).bind fun S38 => (S38[1]?).bind fun P39 => cond (decide (P37.cells.length = 8)) ((P37.cells[0]?).bind fun P40 => (P37.cells[1]?).bind fun P41 => (P37.cells[2]?).bind fun P42 => (P37.cells[3]?).bind fun P43 => (P37.cells[4]?).bind fun P44 => (P37.cells[5]?).bind fun P45 => (P37.cells[6]?).bind fun P46 => (P37.cells[7]?).bind fun P47 => cond (P40.isCell && (P41.isCell && (P42.isCell && (P43.isCell && (P44.isCell && (P45.isCell && (P46.isCell && (P47.isCell && true)))))))) (some (.ret (.pv (.tup [(.agg [P40,P41,P42,P43,P44,P45,P46,P47]),P39])),[])) none) none) (fun A33 H34 => some (.pan A33,[]))) (
     cond ((3:Int) == Q30.2) (
      (zG .i64 (.pv P9)).bind fun N31 => (zG .i64 (.pv P21)).bind fun N32 => zE (ev 243 [(.pv (.sl 1 x0)),(.pv (.agg [P20,P21,P22,P23,P24,P25,P26,P27,P28,P29])),(.pv P7),(.pv (I (IntKind.wrap .i64 (N31 + N32))))] []) (fun A33 H34 => (zi A33).bind fun P35 => (yg (.pv P35)).bind fun S36 => (S36[0]?).bind fun P37 => (yg (.pv P35)).bind fun S38 => (S38[1]?).bind fun P39 => cond (decide (P37.cells.length = 8)) ((P37.cells[0]?).bind fun P40 => (P37.cells[1]?).bind fun P41 => (P37.cells[2]?).bind fun P42 => (P37.cells[3]?).bind fun P43 => (P37.cells[4]?).bind fun P44 => (P37.cells[5]?).bind fun P45 => (P37.cells[6]?).bind fun P46 => (P37.cells[7]?).bind fun P47 => cond (P40.isCell && (P41.isCell && (P42.isCell && (P43.isCell && (P44.isCell && (P45.isCell && (P46.isCell && (P47.isCell && true)))))))) (some (.ret (.pv (.tup [(.agg [P40,P41,P42,P43,P44,P45,P46,P47]),P39])),[])) none) none) (fun A33 H34 => some (.pan A33,[]))) (
      none))))) none) none) none) (fun A17 H18 => some (.pan A17,[])))) (fun A13 H14 => some (.pan A13,[])))) (fun A1 H2 => some (.pan A1,[])):=(zR (fn:=Tryz.f184) (by kernel_rfl) (by kernel_rfl) (by kernel_rfl) _ _).trans (by kernel_rfl)
theorem Kq (x0:Int):ev 297 [(.pv (U x0))] [] =
 zE (ev 192 [(.pv (U x0))] []) (fun A1 H2 => (zi A1).bind fun P3 => cond (decide (P3.cells.length = 10)) ((P3.cells[0]?).bind fun P4 => (P3.cells[1]?).bind fun P5 => (P3.cells[2]?).bind fun P6 => (P3.cells[3]?).bind fun P7 => (P3.cells[4]?).bind fun P8 => (P3.cells[5]?).bind fun P9 => (P3.cells[6]?).bind fun P10 => (P3.cells[7]?).bind fun P11 => (P3.cells[8]?).bind fun P12 => (P3.cells[9]?).bind fun P13 => cond (P4.isCell && (P5.isCell && (P6.isCell && (P7.isCell && (P8.isCell && (P9.isCell && (P10.isCell && (P11.isCell && (P12.isCell && (P13.isCell && true)))))))))) ((ZH (.pv P12)).bind fun Q14 => some (.ret (.pv (.tup [(I (IntKind.wrap .i64 Q14.2)),P11])),[])) none) none) (fun A1 H2 => some (.pan A1,[])):=(zR (fn:=Tryz.f297) (by kernel_rfl) (by kernel_rfl) (by kernel_rfl) _ _).trans (by kernel_rfl)
theorem YJ (x0:Int):ev 344 [(.pv (U x0))] [] =
 zE (ev 245 [(.pv (U x0)),(.pv (I 2)),(.pv (I 1))] []) (fun A1 H2 => (zi A1).bind fun P3 => (zG .u64 (.pv P3)).bind fun N4 => zE (ev 245 [(.pv (U x0)),(.pv (I 3)),(.pv (I 29))] []) (fun A5 H6 => (zi A5).bind fun P7 => (ZH (.pv P7)).bind fun Q8 => zE (ev 245 [(.pv (U x0)),(.pv (I 32)),(.pv (I 32))] []) (fun A9 H10 => (zi A9).bind fun P11 => (ZH (.pv P11)).bind fun Q12 => some (.ret (.pv (.agg [(I 0),(I 0),(I 0),(I 0),(I 0),(I 0),(Bo (N4 == 1)),(I (IntKind.wrap .i64 Q8.2)),(PV.v (.int .u32 (IntKind.wrap .u32 Q12.2))),(PV.v (.int .u32 0))])),[])) (fun A9 H10 => some (.pan A9,[]))) (fun A5 H6 => some (.pan A5,[]))) (fun A1 H2 => some (.pan A1,[])):=(zR (fn:=Tryz.f344) (by kernel_rfl) (by kernel_rfl) (by kernel_rfl) _ _).trans (by kernel_rfl)
end Go.Proofs.YtjbjeeoifhegfaaGreatDoor.E
