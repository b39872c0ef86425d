/- This text is one of those that prove the law CanonsizeKeeps of the given program, as its statement says it: true on every input that the statement covers. Its conditions are the statement's own. -/
import Derived.KernelRfl
import Derived.Test.YtepidhlkackjlaaDoorZCanonsizeKeeps1
import Derived.Test.YtepidhlkackjlaaDoorZCanonsizeKeeps2
import Derived.Test.YtepidhlkackjlaaDoorZCanonsizeKeeps3
set_option linter.unusedVariables false
set_option linter.unusedSimpArgs false
set_option linter.unusedVariables false
namespace Go.Proofs.YtepidhlkackjlaaDoor.E
theorem capnplaw13_CanonsizeKeeps_eq (x0_0 : Int) (x0_1 : Int) (x0_2 : Int) (x0_3 : List PV) (x0_4 : List PV) : ev 4 [(.pv (.agg [(PV.v (.int .i64 x0_0)), (PV.v (.int .i64 x0_1)), (PV.v (.int .i64 x0_2)), (.sl 1 x0_3), (.sl 5 x0_4)]))] [] =
  callT (ev 5 [] []) (fun a_1 h_2 => (onlyPV a_1).bind fun p_3 => (pBool (.pv p_3)).bind fun b_4 => cond (!b_4) (
  callT (ev 5 [] []) (fun a_5 h_6 => (onlyPV a_5).bind fun p_7 => some (.ret (.pv p_7), [])) (fun a_5 h_6 => some (.pan a_5, []))) (
  callT (ev 9 [(.pv (.agg [(PV.v (.int .i64 x0_0)), (PV.v (.int .i64 x0_1)), (PV.v (.int .i64 x0_2)), (.sl 1 x0_3), (.sl 5 x0_4)]))] []) (fun a_5 h_6 => (onlyPV a_5).bind fun p_7 => (pBool (.pv p_7)).bind fun b_8 => cond (!b_8) (
    callT (ev 5 [] []) (fun a_9 h_10 => (onlyPV a_9).bind fun p_11 => some (.ret (.pv p_11), [])) (fun a_9 h_10 => some (.pan a_9, []))) (
    callT (ev 12 [(.pv (.agg [(PV.v (.int .i64 x0_0)), (PV.v (.int .i64 x0_1)), (PV.v (.int .i64 x0_2)), (.sl 1 x0_3), (.sl 5 x0_4)]))] []) (fun a_9 h_10 => (onlyPV a_9).bind fun p_11 => cond (decide (p_11.cells.length = 5)) ((p_11.cells[0]?).bind fun p_12 => (p_11.cells[1]?).bind fun p_13 => (p_11.cells[2]?).bind fun p_14 => (p_11.cells[3]?).bind fun p_15 => (p_11.cells[4]?).bind fun p_16 => cond (p_12.isCell && (p_13.isCell && (p_14.isCell && (p_15.isCell && (p_16.isCell && true))))) (callT (ev 13 [(.pv (.agg [p_12, p_13, p_14, p_15, p_16]))] []) (fun a_17 h_18 => (onlyPV a_17).bind fun p_19 => callT (ev 10 [(.pv (.agg [p_12, p_13, p_14, p_15, p_16]))] []) (fun a_20 h_21 => (onlyPV a_20).bind fun p_22 => callT (ev 11 [(.pv (.agg [p_12, p_13, p_14, p_15, p_16]))] []) (fun a_23 h_24 => (onlyPV a_23).bind fun p_25 => callT (ev 14 [(.pv (.agg [p_12, p_13, p_14, p_15, p_16])), (.pv (.agg [(PV.v (.int .i64 x0_0)), (PV.v (.int .i64 x0_1)), (PV.v (.int .i64 x0_2)), (.sl 1 x0_3), (.sl 5 x0_4)]))] []) (fun a_26 h_27 => (onlyPV a_26).bind fun p_28 => (pBool (.pv p_28)).bind fun b_29 => cond b_29 (
      (pIntK .i64 (.pv p_19)).bind fun n_30 => cond (decide (n_30 ≥ 0)) (
      (pIntK .i64 (.pv p_19)).bind fun n_31 => (pIntK .i64 (.pv p_22)).bind fun n_32 => cond (decide (n_31 ≤ n_32)) (
      (pIntK .i64 (.pv p_22)).bind fun n_33 => (pIntK .i64 (.pv p_25)).bind fun n_34 => cond (n_34 == (IntKind.wrap .i64 (n_33 + 1))) (
      callT (ev 10 [(.pv (.agg [(PV.v (.int .i64 x0_0)), (PV.v (.int .i64 x0_1)), (PV.v (.int .i64 x0_2)), (.sl 1 x0_3), (.sl 5 x0_4)]))] []) (fun a_35 h_36 => (onlyPV a_35).bind fun p_37 => (pIntK .i64 (.pv p_37)).bind fun n_38 => (pIntK .i64 (.pv p_22)).bind fun n_39 => some (.ret (.pv (PV.v (.bool (n_38 == n_39)))), [])) (fun a_35 h_36 => some (.pan a_35, []))) (
      some (.ret (.pv (PV.v (.bool false))), []))) (
      some (.ret (.pv (PV.v (.bool false))), []))) (
      some (.ret (.pv (PV.v (.bool false))), []))) (
      some (.ret (.pv (PV.v (.bool false))), []))) (fun a_26 h_27 => some (.pan a_26, []))) (fun a_23 h_24 => some (.pan a_23, []))) (fun a_20 h_21 => some (.pan a_20, []))) (fun a_17 h_18 => some (.pan a_17, []))) none) none) (fun a_9 h_10 => some (.pan a_9, [])))) (fun a_5 h_6 => some (.pan a_5, [])))) (fun a_1 h_2 => some (.pan a_1, [])) := (ev_eq (fn := Tryd.f4) (by kernel_rfl) (by kernel_rfl) (by kernel_rfl) _ _).trans (by kernel_rfl)
theorem capnpref13_Right_eq (x0_0 : Int) (x0_1 : Int) (x0_2 : Int) (x0_3 : List PV) (x0_4 : List PV) : ev 9 [(.pv (.agg [(PV.v (.int .i64 x0_0)), (PV.v (.int .i64 x0_1)), (PV.v (.int .i64 x0_2)), (.sl 1 x0_3), (.sl 5 x0_4)]))] [] =
  callT (ev 19 [(.pv (.agg [(PV.v (.int .i64 x0_0)), (PV.v (.int .i64 x0_1)), (PV.v (.int .i64 x0_2)), (.sl 1 x0_3), (.sl 5 x0_4)]))] []) (fun a_1 h_2 => (onlyPV a_1).bind fun p_3 => (pBool (.pv p_3)).bind fun b_4 => cond b_4 (
  callT (ev 20 [(.pv (.agg [(PV.v (.int .i64 x0_0)), (PV.v (.int .i64 x0_1)), (PV.v (.int .i64 x0_2)), (.sl 1 x0_3), (.sl 5 x0_4)]))] []) (fun a_5 h_6 => (onlyPV a_5).bind fun p_7 => (pBool (.pv p_7)).bind fun b_8 => cond b_8 (
  callT (ev 21 [(.pv (.agg [(PV.v (.int .i64 x0_0)), (PV.v (.int .i64 x0_1)), (PV.v (.int .i64 x0_2)), (.sl 1 x0_3), (.sl 5 x0_4)]))] []) (fun a_9 h_10 => (onlyPV a_9).bind fun p_11 => (pBool (.pv p_11)).bind fun b_12 => some (.ret (.pv (PV.v (.bool b_12))), [])) (fun a_9 h_10 => some (.pan a_9, []))) (
  some (.ret (.pv (PV.v (.bool false))), []))) (fun a_5 h_6 => some (.pan a_5, []))) (
  some (.ret (.pv (PV.v (.bool false))), []))) (fun a_1 h_2 => some (.pan a_1, [])) := (ev_eq (fn := Tryd.f9) (by kernel_rfl) (by kernel_rfl) (by kernel_rfl) _ _).trans (by kernel_rfl)
theorem canonsize_Node_eq (x0_0 : Int) (x0_1 : Int) (x0_2 : Int) (x0_3 : List PV) (x0_4 : List PV) : ev 10 [(.pv (.agg [(PV.v (.int .i64 x0_0)), (PV.v (.int .i64 x0_1)), (PV.v (.int .i64 x0_2)), (.sl 1 x0_3), (.sl 5 x0_4)]))] [] =
  callT (ev 22 [(.pv (.agg [(PV.v (.int .i64 x0_0)), (PV.v (.int .i64 x0_1)), (PV.v (.int .i64 x0_2)), (.sl 1 x0_3), (.sl 5 x0_4)])), (.ptr 0 0), (.ptr 1 0)] [[(.pv (PV.v (.int .i64 0)))], [(.clo (.func 22) [] [(.ptr 0 0), (.ptr 1 0)])]]) (fun a_1 h_2 => (h_2[0]?).bind fun c_3 => (c_3[0]?).bind fun e_4 => (onlyPV e_4).bind fun p_5 => cond (decide (c_3.length = 1)) ((h_2[1]?).bind fun c_6 => (c_6[0]?).bind fun e_7 => cond (sameClo (.func 22) [] [(.ptr 0 0), (.ptr 1 0)] e_7) (cond (decide (c_6.length = 1)) (cond (decide (h_2.length = 2)) ((onlyPV a_1).bind fun p_8 => some (.ret (.pv p_5), [])) none) none) none) none) (fun a_1 h_2 => (h_2[0]?).bind fun c_3 => (c_3[0]?).bind fun e_4 => (onlyPV e_4).bind fun p_5 => cond (decide (c_3.length = 1)) ((h_2[1]?).bind fun c_6 => (c_6[0]?).bind fun e_7 => cond (sameClo (.func 22) [] [(.ptr 0 0), (.ptr 1 0)] e_7) (cond (decide (c_6.length = 1)) (cond (decide (h_2.length = 2)) (some (.pan a_1, [])) none) none) none) none) := (ev_eq (fn := Tryd.f10) (by kernel_rfl) (by kernel_rfl) (by kernel_rfl) _ _).trans (by kernel_rfl)
noncomputable def B_capnpref10_Equal : Code := Tryd.f14.body.getD .skip
noncomputable def capnpref10_Equal_L0 (i0 : Int) (i1 : Int) (i2 : Int) (i3 : Int) (xs4 : List PV) (xs5 : List PV) (i6 : Int) (i7 : Int) (i8 : Int) (xs9 : List PV) (xs10 : List PV) : Option (Out × Heap) :=
  loopV (evW env ev iterW 61 14 0 (sub B_capnpref10_Equal [1, 1, 0, 1, 0, 0])) (keepS env 14 0 2) (blockK 0 (seqK (evV env ev 61 14 0 (sub B_capnpref10_Equal [1, 1, 1])) (finK env 14 Tryd.f14.results.toList 0))) ⟨ofL [(2, (.ptr 0 0)), (3, (.ptr 1 0)), (5, (.pv (PV.v (.int .i64 i0))))], [[(.pv (PV.v (.int .i64 i1))), (.pv (PV.v (.int .i64 i2))), (.pv (PV.v (.int .i64 i3))), (.pv (.sl 1 xs4)), (.pv (.sl 5 xs5))], [(.pv (PV.v (.int .i64 i6))), (.pv (PV.v (.int .i64 i7))), (.pv (PV.v (.int .i64 i8))), (.pv (.sl 1 xs9)), (.pv (.sl 5 xs10))]]⟩
theorem capnpref10_Equal_L0_eq (i0 : Int) (i1 : Int) (i2 : Int) (i3 : Int) (xs4 : List PV) (xs5 : List PV) (i6 : Int) (i7 : Int) (i8 : Int) (xs9 : List PV) (xs10 : List PV) : capnpref10_Equal_L0 i0 i1 i2 i3 xs4 xs5 i6 i7 i8 xs9 xs10 =
  cond (decide (i0 < (xs5.length : Int))) (
  cond (decide (0 ≤ i0) && decide (i0 < (xs5.length : Int))) ((xs5[(i0).toNat]?).bind fun p_1 => cond (decide (5 ≤ p_1.cells.length)) (cond (decide (0 ≤ i0) && decide (i0 < (xs10.length : Int))) ((xs10[(i0).toNat]?).bind fun p_2 => cond (decide (5 ≤ p_2.cells.length)) (callT (ev 14 [(.pv (.agg ((p_1.cells.drop 0).take 5))), (.pv (.agg ((p_2.cells.drop 0).take 5)))] []) (fun a_3 h_4 => (onlyPV a_3).bind fun p_5 => (pBool (.pv p_5)).bind fun b_6 => cond (!b_6) (
  some (.ret (.pv (PV.v (.bool false))), [])) (
  capnpref10_Equal_L0 (IntKind.wrap .i64 (i0 + 1)) i1 i2 i3 xs4 xs5 i6 i7 i8 xs9 xs10)) (fun a_3 h_4 => some (.pan a_3, []))) none) none) none) none) (
  some (.ret (.pv (PV.v (.bool true))), [])) := (loopV_eq ..).trans (by kernel_rfl)
theorem capnpref10_Equal_eq (x0_0 : Int) (x0_1 : Int) (x0_2 : Int) (x0_3 : List PV) (x0_4 : List PV) (x1_0 : Int) (x1_1 : Int) (x1_2 : Int) (x1_3 : List PV) (x1_4 : List PV) : ev 14 [(.pv (.agg [(PV.v (.int .i64 x0_0)), (PV.v (.int .i64 x0_1)), (PV.v (.int .i64 x0_2)), (.sl 1 x0_3), (.sl 5 x0_4)])), (.pv (.agg [(PV.v (.int .i64 x1_0)), (PV.v (.int .i64 x1_1)), (PV.v (.int .i64 x1_2)), (.sl 1 x1_3), (.sl 5 x1_4)]))] [] =
  cond (x0_0 != x1_0) (
  some (.ret (.pv (PV.v (.bool false))), [])) (
  cond (x0_1 != x1_1) (
    some (.ret (.pv (PV.v (.bool false))), [])) (
    cond (x0_2 != x1_2) (
      some (.ret (.pv (PV.v (.bool false))), [])) (
      callT (ev 25 [(.pv (.sl 1 x0_3)), (.pv (.sl 1 x1_3))] []) (fun a_1 h_2 => (onlyPV a_1).bind fun p_3 => (pBool (.pv p_3)).bind fun b_4 => cond (!b_4) (
        some (.ret (.pv (PV.v (.bool false))), [])) (
        cond ((x0_4.length : Int) != (x1_4.length : Int)) (
          some (.ret (.pv (PV.v (.bool false))), [])) (
          capnpref10_Equal_L0 0 x0_0 x0_1 x0_2 x0_3 x0_4 x1_0 x1_1 x1_2 x1_3 x1_4))) (fun a_1 h_2 => some (.pan a_1, []))))) := (ev_eq (fn := Tryd.f14) (by kernel_rfl) (by kernel_rfl) (by kernel_rfl) _ _).trans (by kernel_rfl)
noncomputable def B_capnpref10_Valid : Code := Tryd.f20.body.getD .skip
noncomputable def capnpref10_Valid_L0 (i0 : Int) (i1 : Int) (i2 : Int) (i3 : Int) (xs4 : List PV) (xs5 : List PV) : Option (Out × Heap) :=
  loopV (evW env ev iterW 150 20 0 (sub B_capnpref10_Valid [1, 0, 1, 0, 0])) (keepS env 20 0 1) (blockK 0 (seqK (evV env ev 150 20 0 (sub B_capnpref10_Valid [1, 1])) (finK env 20 Tryd.f20.results.toList 0))) ⟨ofL [(1, (.ptr 0 0)), (3, (.pv (PV.v (.int .i64 i0))))], [[(.pv (PV.v (.int .i64 i1))), (.pv (PV.v (.int .i64 i2))), (.pv (PV.v (.int .i64 i3))), (.pv (.sl 1 xs4)), (.pv (.sl 5 xs5))]]⟩
theorem capnpref10_Valid_L0_eq (i0 : Int) (i1 : Int) (i2 : Int) (i3 : Int) (xs4 : List PV) (xs5 : List PV) : capnpref10_Valid_L0 i0 i1 i2 i3 xs4 xs5 =
  cond (decide (i0 < (xs5.length : Int))) (
  cond (decide (0 ≤ i0) && decide (i0 < (xs5.length : Int))) ((xs5[(i0).toNat]?).bind fun p_1 => cond (decide (5 ≤ p_1.cells.length)) (callT (ev 20 [(.pv (.agg ((p_1.cells.drop 0).take 5)))] []) (fun a_2 h_3 => (onlyPV a_2).bind fun p_4 => (pBool (.pv p_4)).bind fun b_5 => cond (!b_5) (
  some (.ret (.pv (PV.v (.bool false))), [])) (
  cond (i1 == 2) (
    cond (i2 == 7) (
    cond (decide (0 ≤ i0) && decide (i0 < (xs5.length : Int))) ((xs5[(i0).toNat]?).bind fun p_6 => (p_6.cells[0]?).bind fun p_7 => (pIntK .i64 (.pv p_7)).bind fun n_8 => cond (n_8 != 1) (
    some (.ret (.pv (PV.v (.bool false))), [])) (
    capnpref10_Valid_L0 (IntKind.wrap .i64 (i0 + 1)) i1 i2 i3 xs4 xs5)) none) (
    capnpref10_Valid_L0 (IntKind.wrap .i64 (i0 + 1)) i1 i2 i3 xs4 xs5)) (
    capnpref10_Valid_L0 (IntKind.wrap .i64 (i0 + 1)) i1 i2 i3 xs4 xs5))) (fun a_2 h_3 => some (.pan a_2, []))) none) none) (
  cond (i1 == 0) (
    cond (i2 == 0) (
    cond (i3 == 0) (
    cond ((xs4.length : Int) == 0) (
    some (.ret (.pv (PV.v (.bool ((xs5.length : Int) == 0)))), [])) (
    some (.ret (.pv (PV.v (.bool false))), []))) (
    some (.ret (.pv (PV.v (.bool false))), []))) (
    some (.ret (.pv (PV.v (.bool false))), []))) (
    cond (i1 == 1) (
      cond (i2 == 0) (
      cond (i3 == 0) (
      cond ((Int.tmod (xs4.length : Int) 8) == 0) (
      cond (decide ((xs4.length : Int) ≤ 524280)) (
      some (.ret (.pv (PV.v (.bool (decide ((xs5.length : Int) ≤ 65535))))), [])) (
      some (.ret (.pv (PV.v (.bool false))), []))) (
      some (.ret (.pv (PV.v (.bool false))), []))) (
      some (.ret (.pv (PV.v (.bool false))), []))) (
      some (.ret (.pv (PV.v (.bool false))), []))) (
      cond (i1 == 2) (
        cond (decide (i3 < 0)) (
        some (.ret (.pv (PV.v (.bool false))), [])) (
        cond (decide (i3 > 536870911)) (
          some (.ret (.pv (PV.v (.bool false))), [])) (
          cond (decide (i2 < 0)) (
            some (.ret (.pv (PV.v (.bool false))), [])) (
            cond (decide (i2 > 7)) (
              some (.ret (.pv (PV.v (.bool false))), [])) (
              cond (decide (i2 ≥ 6)) (
                cond ((xs4.length : Int) == 0) (
                some (.ret (.pv (PV.v (.bool ((xs5.length : Int) == i3)))), [])) (
                some (.ret (.pv (PV.v (.bool false))), []))) (
                cond ((xs5.length : Int) != 0) (
                  some (.ret (.pv (PV.v (.bool false))), [])) (
                  callT (ev 38 [(.pv (PV.v (.int .i64 i2))), (.pv (PV.v (.int .i64 i3)))] []) (fun a_1 h_2 => (onlyPV a_1).bind fun p_3 => (pIntK .i64 (.pv p_3)).bind fun n_4 => cond ((xs4.length : Int) != n_4) (
                    some (.ret (.pv (PV.v (.bool false))), [])) (
                    callT (ev 31 [(.pv (PV.v (.int .i64 i2))), (.pv (PV.v (.int .i64 i3))), (.pv (.sl 1 xs4))] []) (fun a_5 h_6 => (onlyPV a_5).bind fun p_7 => callT (ev 25 [(.pv p_7), (.pv (.sl 1 xs4))] []) (fun a_8 h_9 => (onlyPV a_8).bind fun p_10 => some (.ret (.pv p_10), [])) (fun a_8 h_9 => some (.pan a_8, []))) (fun a_5 h_6 => none))) (fun a_1 h_2 => some (.pan a_1, []))))))))) (
        some (.ret (.pv (PV.v (.bool false))), []))))) := (loopV_eq ..).trans (by kernel_rfl)
theorem capnpref10_Valid_eq (x0_0 : Int) (x0_1 : Int) (x0_2 : Int) (x0_3 : List PV) (x0_4 : List PV) : ev 20 [(.pv (.agg [(PV.v (.int .i64 x0_0)), (PV.v (.int .i64 x0_1)), (PV.v (.int .i64 x0_2)), (.sl 1 x0_3), (.sl 5 x0_4)]))] [] =
  capnpref10_Valid_L0 0 x0_0 x0_1 x0_2 x0_3 x0_4 := (ev_eq (fn := Tryd.f20) (by kernel_rfl) (by kernel_rfl) (by kernel_rfl) _ _).trans (by kernel_rfl)
theorem listsize_Words_eq (x0 : Int) (x1 : Int) : ev 24 [(.pv (PV.v (.int .i64 x0))), (.pv (PV.v (.int .i64 x1)))] [] =
  cond (x0 == 7) (
  some (.ret (.pv (PV.v (.int .i64 (IntKind.wrap .i64 (x1 + 1))))), [])) (
  cond (decide (0 ≤ x0) && decide (x0 < 8)) ((([(PV.v (.int .i64 0)), (PV.v (.int .i64 1)), (PV.v (.int .i64 8)), (PV.v (.int .i64 16)), (PV.v (.int .i64 32)), (PV.v (.int .i64 64)), (PV.v (.int .i64 64)), (PV.v (.int .i64 0))] : List PV)[(0 + (x0).toNat * 1)]?).bind fun p_1 => (pIntK .i64 (.pv p_1)).bind fun n_2 => callT (ev 39 [(.pv (PV.v (.int .i64 (IntKind.wrap .i64 (n_2 * x1))))), (.pv (PV.v (.int .i64 64)))] []) (fun a_3 h_4 => (onlyPV a_3).bind fun p_5 => some (.ret (.pv p_5), [])) (fun a_3 h_4 => some (.pan a_3, []))) none) := (ev_eq (fn := Tryd.f24) (by kernel_rfl) (by kernel_rfl) (by kernel_rfl) _ _).trans (by kernel_rfl)
noncomputable def B_capnpref01_Same : Code := Tryd.f25.body.getD .skip
noncomputable def capnpref01_Same_L0 (xs0 : List PV) (xs1 : List PV) (i2 : Int) : Option (Out × Heap) :=
  loopV (evW env ev iterW 26 25 0 (sub B_capnpref01_Same [1, 1, 0, 1, 0, 0])) (keepS env 25 0 0) (blockK 0 (seqK (evV env ev 26 25 0 (sub B_capnpref01_Same [1, 1, 1])) (finK env 25 Tryd.f25.results.toList 0))) ⟨ofL [(0, (.pv (.sl 1 xs0))), (1, (.pv (.sl 1 xs1))), (5, (.pv (PV.v (.int .i64 i2))))], []⟩
theorem capnpref01_Same_L0_eq (xs0 : List PV) (xs1 : List PV) (i2 : Int) : capnpref01_Same_L0 xs0 xs1 i2 =
  cond (decide (i2 < (xs0.length : Int))) (
  cond (decide (0 ≤ i2) && decide (i2 < (xs0.length : Int))) ((xs0[(i2).toNat]?).bind fun p_1 => (p_1.cells[0]?).bind fun p_2 => cond (decide (0 ≤ i2) && decide (i2 < (xs1.length : Int))) ((xs1[(i2).toNat]?).bind fun p_3 => (p_3.cells[0]?).bind fun p_4 => (pIntK .u8 (.pv p_2)).bind fun n_5 => (pIntK .u8 (.pv p_4)).bind fun n_6 => cond (n_5 != n_6) (
  some (.ret (.pv (PV.v (.bool false))), [])) (
  capnpref01_Same_L0 xs0 xs1 (IntKind.wrap .i64 (i2 + 1)))) none) none) (
  some (.ret (.pv (PV.v (.bool true))), [])) := (loopV_eq ..).trans (by kernel_rfl)
theorem capnpref01_Same_eq (x0 : List PV) (x1 : List PV) : ev 25 [(.pv (.sl 1 x0)), (.pv (.sl 1 x1))] [] =
  cond ((x0.length : Int) != (x1.length : Int)) (
  some (.ret (.pv (PV.v (.bool false))), [])) (
  capnpref01_Same_L0 x0 x1 0) := (ev_eq (fn := Tryd.f25) (by kernel_rfl) (by kernel_rfl) (by kernel_rfl) _ _).trans (by kernel_rfl)
noncomputable def B_capnpref10_Size : Code := Tryd.f36.body.getD .skip
noncomputable def capnpref10_Size_L0 (i0 : Int) (i1 : Int) (i2 : Int) (i3 : Int) (i4 : Int) (xs5 : List PV) (xs6 : List PV) : Option (Out × Heap) :=
  loopV (evW env ev iterW 25 36 0 (sub B_capnpref10_Size [1, 1, 0, 1, 0, 0])) (keepS env 36 0 1) (blockK 0 (seqK (evV env ev 25 36 0 (sub B_capnpref10_Size [1, 1, 1])) (finK env 36 Tryd.f36.results.toList 0))) ⟨ofL [(1, (.ptr 0 0)), (3, (.pv (PV.v (.int .i64 i0)))), (4, (.pv (PV.v (.int .i64 i1))))], [[(.pv (PV.v (.int .i64 i2))), (.pv (PV.v (.int .i64 i3))), (.pv (PV.v (.int .i64 i4))), (.pv (.sl 1 xs5)), (.pv (.sl 5 xs6))]]⟩
theorem capnpref10_Size_L0_eq (i0 : Int) (i1 : Int) (i2 : Int) (i3 : Int) (i4 : Int) (xs5 : List PV) (xs6 : List PV) : capnpref10_Size_L0 i0 i1 i2 i3 i4 xs5 xs6 =
  cond (decide (i1 < (xs6.length : Int))) (
  cond (decide (0 ≤ i1) && decide (i1 < (xs6.length : Int))) ((xs6[(i1).toNat]?).bind fun p_1 => cond (decide (5 ≤ p_1.cells.length)) (callT (ev 36 [(.pv (.agg ((p_1.cells.drop 0).take 5)))] []) (fun a_2 h_3 => (onlyPV a_2).bind fun p_4 => (pIntK .i64 (.pv p_4)).bind fun n_5 => capnpref10_Size_L0 (IntKind.wrap .i64 (i0 + n_5)) (IntKind.wrap .i64 (i1 + 1)) i2 i3 i4 xs5 xs6) (fun a_2 h_3 => some (.pan a_2, []))) none) none) (
  some (.ret (.pv (PV.v (.int .i64 i0))), [])) := (loopV_eq ..).trans (by kernel_rfl)
theorem capnpref10_Size_eq (x0_0 : Int) (x0_1 : Int) (x0_2 : Int) (x0_3 : List PV) (x0_4 : List PV) : ev 36 [(.pv (.agg [(PV.v (.int .i64 x0_0)), (PV.v (.int .i64 x0_1)), (PV.v (.int .i64 x0_2)), (.sl 1 x0_3), (.sl 5 x0_4)]))] [] =
  capnpref10_Size_L0 (IntKind.wrap .i64 (1 + (x0_3.length : Int))) 0 x0_0 x0_1 x0_2 x0_3 x0_4 := (ev_eq (fn := Tryd.f36) (by kernel_rfl) (by kernel_rfl) (by kernel_rfl) _ _).trans (by kernel_rfl)
end Go.Proofs.YtepidhlkackjlaaDoor.E
