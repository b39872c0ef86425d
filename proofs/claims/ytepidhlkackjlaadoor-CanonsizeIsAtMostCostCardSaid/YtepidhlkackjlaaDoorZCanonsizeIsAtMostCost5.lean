/- This text is one of those that prove the law CanonsizeIsAtMostCost of the given program, as its statement says it: true on every input that the statement covers. Its conditions are the statement's own. -/
import Derived.KernelRfl
import Derived.Test.YtepidhlkackjlaaDoorZCanonsizeIsAtMostCost1
import Derived.Test.YtepidhlkackjlaaDoorZCanonsizeIsAtMostCost2
import Derived.Test.YtepidhlkackjlaaDoorZCanonsizeIsAtMostCost3
set_option linter.unusedVariables false
set_option linter.unusedSimpArgs false
set_option linter.unusedVariables false
namespace Go.Proofs.YtepidhlkackjlaaDoor.E
theorem capnpref13_Right_eq (x0_0 : Int) (x0_1 : Int) (x0_2 : Int) (x0_3 : List PV) (x0_4 : List PV) : ev 9 [(.pv (.agg [(PV.v (.int .i64 x0_0)), (PV.v (.int .i64 x0_1)), (PV.v (.int .i64 x0_2)), (.sl 1 x0_3), (.sl 5 x0_4)]))] [] =
  callT (ev 19 [(.pv (.agg [(PV.v (.int .i64 x0_0)), (PV.v (.int .i64 x0_1)), (PV.v (.int .i64 x0_2)), (.sl 1 x0_3), (.sl 5 x0_4)]))] []) (fun a_1 h_2 => (onlyPV a_1).bind fun p_3 => (pBool (.pv p_3)).bind fun b_4 => cond b_4 (
  callT (ev 20 [(.pv (.agg [(PV.v (.int .i64 x0_0)), (PV.v (.int .i64 x0_1)), (PV.v (.int .i64 x0_2)), (.sl 1 x0_3), (.sl 5 x0_4)]))] []) (fun a_5 h_6 => (onlyPV a_5).bind fun p_7 => (pBool (.pv p_7)).bind fun b_8 => cond b_8 (
  callT (ev 21 [(.pv (.agg [(PV.v (.int .i64 x0_0)), (PV.v (.int .i64 x0_1)), (PV.v (.int .i64 x0_2)), (.sl 1 x0_3), (.sl 5 x0_4)]))] []) (fun a_9 h_10 => (onlyPV a_9).bind fun p_11 => (pBool (.pv p_11)).bind fun b_12 => some (.ret (.pv (PV.v (.bool b_12))), [])) (fun a_9 h_10 => some (.pan a_9, []))) (
  some (.ret (.pv (PV.v (.bool false))), []))) (fun a_5 h_6 => some (.pan a_5, []))) (
  some (.ret (.pv (PV.v (.bool false))), []))) (fun a_1 h_2 => some (.pan a_1, [])) := (ev_eq (fn := Tryd.f9) (by kernel_rfl) (by kernel_rfl) (by kernel_rfl) _ _).trans (by kernel_rfl)
theorem canonsize_Node_eq (x0_0 : Int) (x0_1 : Int) (x0_2 : Int) (x0_3 : List PV) (x0_4 : List PV) : ev 10 [(.pv (.agg [(PV.v (.int .i64 x0_0)), (PV.v (.int .i64 x0_1)), (PV.v (.int .i64 x0_2)), (.sl 1 x0_3), (.sl 5 x0_4)]))] [] =
  callT (ev 22 [(.pv (.agg [(PV.v (.int .i64 x0_0)), (PV.v (.int .i64 x0_1)), (PV.v (.int .i64 x0_2)), (.sl 1 x0_3), (.sl 5 x0_4)])), (.ptr 0 0), (.ptr 1 0)] [[(.pv (PV.v (.int .i64 0)))], [(.clo (.func 22) [] [(.ptr 0 0), (.ptr 1 0)])]]) (fun a_1 h_2 => (h_2[0]?).bind fun c_3 => (c_3[0]?).bind fun e_4 => (onlyPV e_4).bind fun p_5 => cond (decide (c_3.length = 1)) ((h_2[1]?).bind fun c_6 => (c_6[0]?).bind fun e_7 => cond (sameClo (.func 22) [] [(.ptr 0 0), (.ptr 1 0)] e_7) (cond (decide (c_6.length = 1)) (cond (decide (h_2.length = 2)) ((onlyPV a_1).bind fun p_8 => some (.ret (.pv p_5), [])) none) none) none) none) (fun a_1 h_2 => (h_2[0]?).bind fun c_3 => (c_3[0]?).bind fun e_4 => (onlyPV e_4).bind fun p_5 => cond (decide (c_3.length = 1)) ((h_2[1]?).bind fun c_6 => (c_6[0]?).bind fun e_7 => cond (sameClo (.func 22) [] [(.ptr 0 0), (.ptr 1 0)] e_7) (cond (decide (c_6.length = 1)) (cond (decide (h_2.length = 2)) (some (.pan a_1, [])) none) none) none) none) := (ev_eq (fn := Tryd.f10) (by kernel_rfl) (by kernel_rfl) (by kernel_rfl) _ _).trans (by kernel_rfl)
noncomputable def B_capnpref10_Equal : Code := Tryd.f14.body.getD .skip
noncomputable def capnpref10_Equal_L0 (i0 : Int) (i1 : Int) (i2 : Int) (i3 : Int) (xs4 : List PV) (xs5 : List PV) (i6 : Int) (i7 : Int) (i8 : Int) (xs9 : List PV) (xs10 : List PV) : Option (Out × Heap) :=
  loopV (evW env ev iterW 61 14 0 (sub B_capnpref10_Equal [1, 1, 0, 1, 0, 0])) (keepS env 14 0 2) (blockK 0 (seqK (evV env ev 61 14 0 (sub B_capnpref10_Equal [1, 1, 1])) (finK env 14 Tryd.f14.results.toList 0))) ⟨ofL [(2, (.ptr 0 0)), (3, (.ptr 1 0)), (5, (.pv (PV.v (.int .i64 i0))))], [[(.pv (PV.v (.int .i64 i1))), (.pv (PV.v (.int .i64 i2))), (.pv (PV.v (.int .i64 i3))), (.pv (.sl 1 xs4)), (.pv (.sl 5 xs5))], [(.pv (PV.v (.int .i64 i6))), (.pv (PV.v (.int .i64 i7))), (.pv (PV.v (.int .i64 i8))), (.pv (.sl 1 xs9)), (.pv (.sl 5 xs10))]]⟩
theorem capnpref10_Equal_L0_eq (i0 : Int) (i1 : Int) (i2 : Int) (i3 : Int) (xs4 : List PV) (xs5 : List PV) (i6 : Int) (i7 : Int) (i8 : Int) (xs9 : List PV) (xs10 : List PV) : capnpref10_Equal_L0 i0 i1 i2 i3 xs4 xs5 i6 i7 i8 xs9 xs10 =
  cond (decide (i0 < (xs5.length : Int))) (
  cond (decide (0 ≤ i0) && decide (i0 < (xs5.length : Int))) ((xs5[(i0).toNat]?).bind fun p_1 => cond (decide (5 ≤ p_1.cells.length)) (cond (decide (0 ≤ i0) && decide (i0 < (xs10.length : Int))) ((xs10[(i0).toNat]?).bind fun p_2 => cond (decide (5 ≤ p_2.cells.length)) (callT (ev 14 [(.pv (.agg ((p_1.cells.drop 0).take 5))), (.pv (.agg ((p_2.cells.drop 0).take 5)))] []) (fun a_3 h_4 => (onlyPV a_3).bind fun p_5 => (pBool (.pv p_5)).bind fun b_6 => cond (!b_6) (
  some (.ret (.pv (PV.v (.bool false))), [])) (
  capnpref10_Equal_L0 (IntKind.wrap .i64 (i0 + 1)) i1 i2 i3 xs4 xs5 i6 i7 i8 xs9 xs10)) (fun a_3 h_4 => some (.pan a_3, []))) none) none) none) none) (
  some (.ret (.pv (PV.v (.bool true))), [])) := (loopV_eq ..).trans (by kernel_rfl)
theorem capnpref10_Equal_eq (x0_0 : Int) (x0_1 : Int) (x0_2 : Int) (x0_3 : List PV) (x0_4 : List PV) (x1_0 : Int) (x1_1 : Int) (x1_2 : Int) (x1_3 : List PV) (x1_4 : List PV) : ev 14 [(.pv (.agg [(PV.v (.int .i64 x0_0)), (PV.v (.int .i64 x0_1)), (PV.v (.int .i64 x0_2)), (.sl 1 x0_3), (.sl 5 x0_4)])), (.pv (.agg [(PV.v (.int .i64 x1_0)), (PV.v (.int .i64 x1_1)), (PV.v (.int .i64 x1_2)), (.sl 1 x1_3), (.sl 5 x1_4)]))] [] =
  cond (x0_0 != x1_0) (
  some (.ret (.pv (PV.v (.bool false))), [])) (
  cond (x0_1 != x1_1) (
    some (.ret (.pv (PV.v (.bool false))), [])) (
    cond (x0_2 != x1_2) (
      some (.ret (.pv (PV.v (.bool false))), [])) (
      callT (ev 25 [(.pv (.sl 1 x0_3)), (.pv (.sl 1 x1_3))] []) (fun a_1 h_2 => (onlyPV a_1).bind fun p_3 => (pBool (.pv p_3)).bind fun b_4 => cond (!b_4) (
        some (.ret (.pv (PV.v (.bool false))), [])) (
        cond ((x0_4.length : Int) != (x1_4.length : Int)) (
          some (.ret (.pv (PV.v (.bool false))), [])) (
          capnpref10_Equal_L0 0 x0_0 x0_1 x0_2 x0_3 x0_4 x1_0 x1_1 x1_2 x1_3 x1_4))) (fun a_1 h_2 => some (.pan a_1, []))))) := (ev_eq (fn := Tryd.f14) (by kernel_rfl) (by kernel_rfl) (by kernel_rfl) _ _).trans (by kernel_rfl)
noncomputable def B_capnpref10_Valid : Code := Tryd.f20.body.getD .skip
noncomputable def capnpref10_Valid_L0 (i0 : Int) (i1 : Int) (i2 : Int) (i3 : Int) (xs4 : List PV) (xs5 : List PV) : Option (Out × Heap) :=
  loopV (evW env ev iterW 150 20 0 (sub B_capnpref10_Valid [1, 0, 1, 0, 0])) (keepS env 20 0 1) (blockK 0 (seqK (evV env ev 150 20 0 (sub B_capnpref10_Valid [1, 1])) (finK env 20 Tryd.f20.results.toList 0))) ⟨ofL [(1, (.ptr 0 0)), (3, (.pv (PV.v (.int .i64 i0))))], [[(.pv (PV.v (.int .i64 i1))), (.pv (PV.v (.int .i64 i2))), (.pv (PV.v (.int .i64 i3))), (.pv (.sl 1 xs4)), (.pv (.sl 5 xs5))]]⟩
theorem capnpref10_Valid_L0_eq (i0 : Int) (i1 : Int) (i2 : Int) (i3 : Int) (xs4 : List PV) (xs5 : List PV) : capnpref10_Valid_L0 i0 i1 i2 i3 xs4 xs5 =
  cond (decide (i0 < (xs5.length : Int))) (
  cond (decide (0 ≤ i0) && decide (i0 < (xs5.length : Int))) ((xs5[(i0).toNat]?).bind fun p_1 => cond (decide (5 ≤ p_1.cells.length)) (callT (ev 20 [(.pv (.agg ((p_1.cells.drop 0).take 5)))] []) (fun a_2 h_3 => (onlyPV a_2).bind fun p_4 => (pBool (.pv p_4)).bind fun b_5 => cond (!b_5) (
  some (.ret (.pv (PV.v (.bool false))), [])) (
  cond (i1 == 2) (
    cond (i2 == 7) (
    cond (decide (0 ≤ i0) && decide (i0 < (xs5.length : Int))) ((xs5[(i0).toNat]?).bind fun p_6 => (p_6.cells[0]?).bind fun p_7 => (pIntK .i64 (.pv p_7)).bind fun n_8 => cond (n_8 != 1) (
    some (.ret (.pv (PV.v (.bool false))), [])) (
    capnpref10_Valid_L0 (IntKind.wrap .i64 (i0 + 1)) i1 i2 i3 xs4 xs5)) none) (
    capnpref10_Valid_L0 (IntKind.wrap .i64 (i0 + 1)) i1 i2 i3 xs4 xs5)) (
    capnpref10_Valid_L0 (IntKind.wrap .i64 (i0 + 1)) i1 i2 i3 xs4 xs5))) (fun a_2 h_3 => some (.pan a_2, []))) none) none) (
  cond (i1 == 0) (
    cond (i2 == 0) (
    cond (i3 == 0) (
    cond ((xs4.length : Int) == 0) (
    some (.ret (.pv (PV.v (.bool ((xs5.length : Int) == 0)))), [])) (
    some (.ret (.pv (PV.v (.bool false))), []))) (
    some (.ret (.pv (PV.v (.bool false))), []))) (
    some (.ret (.pv (PV.v (.bool false))), []))) (
    cond (i1 == 1) (
      cond (i2 == 0) (
      cond (i3 == 0) (
      cond ((Int.tmod (xs4.length : Int) 8) == 0) (
      cond (decide ((xs4.length : Int) ≤ 524280)) (
      some (.ret (.pv (PV.v (.bool (decide ((xs5.length : Int) ≤ 65535))))), [])) (
      some (.ret (.pv (PV.v (.bool false))), []))) (
      some (.ret (.pv (PV.v (.bool false))), []))) (
      some (.ret (.pv (PV.v (.bool false))), []))) (
      some (.ret (.pv (PV.v (.bool false))), []))) (
      cond (i1 == 2) (
        cond (decide (i3 < 0)) (
        some (.ret (.pv (PV.v (.bool false))), [])) (
        cond (decide (i3 > 536870911)) (
          some (.ret (.pv (PV.v (.bool false))), [])) (
          cond (decide (i2 < 0)) (
            some (.ret (.pv (PV.v (.bool false))), [])) (
            cond (decide (i2 > 7)) (
              some (.ret (.pv (PV.v (.bool false))), [])) (
              cond (decide (i2 ≥ 6)) (
                cond ((xs4.length : Int) == 0) (
                some (.ret (.pv (PV.v (.bool ((xs5.length : Int) == i3)))), [])) (
                some (.ret (.pv (PV.v (.bool false))), []))) (
                cond ((xs5.length : Int) != 0) (
                  some (.ret (.pv (PV.v (.bool false))), [])) (
                  callT (ev 38 [(.pv (PV.v (.int .i64 i2))), (.pv (PV.v (.int .i64 i3)))] []) (fun a_1 h_2 => (onlyPV a_1).bind fun p_3 => (pIntK .i64 (.pv p_3)).bind fun n_4 => cond ((xs4.length : Int) != n_4) (
                    some (.ret (.pv (PV.v (.bool false))), [])) (
                    callT (ev 31 [(.pv (PV.v (.int .i64 i2))), (.pv (PV.v (.int .i64 i3))), (.pv (.sl 1 xs4))] []) (fun a_5 h_6 => (onlyPV a_5).bind fun p_7 => callT (ev 25 [(.pv p_7), (.pv (.sl 1 xs4))] []) (fun a_8 h_9 => (onlyPV a_8).bind fun p_10 => some (.ret (.pv p_10), [])) (fun a_8 h_9 => some (.pan a_8, []))) (fun a_5 h_6 => none))) (fun a_1 h_2 => some (.pan a_1, []))))))))) (
        some (.ret (.pv (PV.v (.bool false))), []))))) := (loopV_eq ..).trans (by kernel_rfl)
theorem capnpref10_Valid_eq (x0_0 : Int) (x0_1 : Int) (x0_2 : Int) (x0_3 : List PV) (x0_4 : List PV) : ev 20 [(.pv (.agg [(PV.v (.int .i64 x0_0)), (PV.v (.int .i64 x0_1)), (PV.v (.int .i64 x0_2)), (.sl 1 x0_3), (.sl 5 x0_4)]))] [] =
  capnpref10_Valid_L0 0 x0_0 x0_1 x0_2 x0_3 x0_4 := (ev_eq (fn := Tryd.f20) (by kernel_rfl) (by kernel_rfl) (by kernel_rfl) _ _).trans (by kernel_rfl)
theorem listsize_Words_eq (x0 : Int) (x1 : Int) : ev 24 [(.pv (PV.v (.int .i64 x0))), (.pv (PV.v (.int .i64 x1)))] [] =
  cond (x0 == 7) (
  some (.ret (.pv (PV.v (.int .i64 (IntKind.wrap .i64 (x1 + 1))))), [])) (
  cond (decide (0 ≤ x0) && decide (x0 < 8)) ((([(PV.v (.int .i64 0)), (PV.v (.int .i64 1)), (PV.v (.int .i64 8)), (PV.v (.int .i64 16)), (PV.v (.int .i64 32)), (PV.v (.int .i64 64)), (PV.v (.int .i64 64)), (PV.v (.int .i64 0))] : List PV)[(0 + (x0).toNat * 1)]?).bind fun p_1 => (pIntK .i64 (.pv p_1)).bind fun n_2 => callT (ev 39 [(.pv (PV.v (.int .i64 (IntKind.wrap .i64 (n_2 * x1))))), (.pv (PV.v (.int .i64 64)))] []) (fun a_3 h_4 => (onlyPV a_3).bind fun p_5 => some (.ret (.pv p_5), [])) (fun a_3 h_4 => some (.pan a_3, []))) none) := (ev_eq (fn := Tryd.f24) (by kernel_rfl) (by kernel_rfl) (by kernel_rfl) _ _).trans (by kernel_rfl)
noncomputable def B_capnpref01_Same : Code := Tryd.f25.body.getD .skip
noncomputable def capnpref01_Same_L0 (xs0 : List PV) (xs1 : List PV) (i2 : Int) : Option (Out × Heap) :=
  loopV (evW env ev iterW 26 25 0 (sub B_capnpref01_Same [1, 1, 0, 1, 0, 0])) (keepS env 25 0 0) (blockK 0 (seqK (evV env ev 26 25 0 (sub B_capnpref01_Same [1, 1, 1])) (finK env 25 Tryd.f25.results.toList 0))) ⟨ofL [(0, (.pv (.sl 1 xs0))), (1, (.pv (.sl 1 xs1))), (5, (.pv (PV.v (.int .i64 i2))))], []⟩
theorem capnpref01_Same_L0_eq (xs0 : List PV) (xs1 : List PV) (i2 : Int) : capnpref01_Same_L0 xs0 xs1 i2 =
  cond (decide (i2 < (xs0.length : Int))) (
  cond (decide (0 ≤ i2) && decide (i2 < (xs0.length : Int))) ((xs0[(i2).toNat]?).bind fun p_1 => (p_1.cells[0]?).bind fun p_2 => cond (decide (0 ≤ i2) && decide (i2 < (xs1.length : Int))) ((xs1[(i2).toNat]?).bind fun p_3 => (p_3.cells[0]?).bind fun p_4 => (pIntK .u8 (.pv p_2)).bind fun n_5 => (pIntK .u8 (.pv p_4)).bind fun n_6 => cond (n_5 != n_6) (
  some (.ret (.pv (PV.v (.bool false))), [])) (
  capnpref01_Same_L0 xs0 xs1 (IntKind.wrap .i64 (i2 + 1)))) none) none) (
  some (.ret (.pv (PV.v (.bool true))), [])) := (loopV_eq ..).trans (by kernel_rfl)
theorem capnpref01_Same_eq (x0 : List PV) (x1 : List PV) : ev 25 [(.pv (.sl 1 x0)), (.pv (.sl 1 x1))] [] =
  cond ((x0.length : Int) != (x1.length : Int)) (
  some (.ret (.pv (PV.v (.bool false))), [])) (
  capnpref01_Same_L0 x0 x1 0) := (ev_eq (fn := Tryd.f25) (by kernel_rfl) (by kernel_rfl) (by kernel_rfl) _ _).trans (by kernel_rfl)
theorem capnpref08_Object_eq (x0 : List PV) (x1 : Int) (x2 : Int) : ev 27 [(.pv (.sl 1 x0)), (.pv (PV.v (.int .i64 x1))), (.pv (PV.v (.int .i64 x2)))] [] =
  callT (ev 26 [(.pv (.sl 1 x0)), (.pv (PV.v (.int .i64 x1))), (.pv (PV.v (.int .i64 x2)))] []) (fun a_1 h_2 => (onlyPV a_1).bind fun p_3 => (pTup (.pv p_3)).bind fun ps_4 => (ps_4[0]?).bind fun p_5 => (pTup (.pv p_3)).bind fun ps_6 => (ps_6[1]?).bind fun p_7 => (pTup (.pv p_3)).bind fun ps_8 => (ps_8[2]?).bind fun p_9 => (pTup (.pv p_3)).bind fun ps_10 => (ps_10[3]?).bind fun p_11 => (pIntK .i64 (.pv p_11)).bind fun n_12 => cond (n_12 != 0) (
  some (.ret (.pv (.tup [(.agg [(PV.v (.int .i64 0)), (PV.v (.int .i64 0)), (PV.v (.int .i64 0)), (PV.v (.int .i64 0)), (PV.v (.int .i64 0)), (PV.v (.int .i64 0)), (PV.v (.int .i64 0)), (PV.v (.int .i64 0))]), p_11])), [])) (
  (pIntK .u64 (.pv p_5)).bind fun n_13 => cond (n_13 == 0) (
    some (.ret (.pv (.tup [(.agg [(PV.v (.int .i64 0)), (PV.v (.int .i64 0)), (PV.v (.int .i64 0)), (PV.v (.int .i64 0)), (PV.v (.int .i64 0)), (PV.v (.int .i64 0)), (PV.v (.int .i64 0)), (PV.v (.int .i64 0))]), p_11])), [])) (
    callT (ev 43 [(.pv p_5)] []) (fun a_14 h_15 => (onlyPV a_14).bind fun p_16 => cond (decide (p_16.cells.length = 10)) ((p_16.cells[0]?).bind fun p_17 => (p_16.cells[1]?).bind fun p_18 => (p_16.cells[2]?).bind fun p_19 => (p_16.cells[3]?).bind fun p_20 => (p_16.cells[4]?).bind fun p_21 => (p_16.cells[5]?).bind fun p_22 => (p_16.cells[6]?).bind fun p_23 => (p_16.cells[7]?).bind fun p_24 => (p_16.cells[8]?).bind fun p_25 => (p_16.cells[9]?).bind fun p_26 => cond (p_17.isCell && (p_18.isCell && (p_19.isCell && (p_20.isCell && (p_21.isCell && (p_22.isCell && (p_23.isCell && (p_24.isCell && (p_25.isCell && (p_26.isCell && true)))))))))) ((pIntK .i64 (.pv p_17)).bind fun n_27 => cond (n_27 == 3) (
      (pIntK .u32 (.pv p_26)).bind fun n_28 => cond (n_28 == 0) (
      some (.ret (.pv (.tup [(.agg [(PV.v (.int .i64 0)), (PV.v (.int .i64 0)), (PV.v (.int .i64 0)), (PV.v (.int .i64 0)), (PV.v (.int .i64 0)), (PV.v (.int .i64 0)), (PV.v (.int .i64 0)), (PV.v (.int .i64 0))]), (PV.v (.int .i64 6))])), [])) (
      some (.ret (.pv (.tup [(.agg [(PV.v (.int .i64 0)), (PV.v (.int .i64 0)), (PV.v (.int .i64 0)), (PV.v (.int .i64 0)), (PV.v (.int .i64 0)), (PV.v (.int .i64 0)), (PV.v (.int .i64 0)), (PV.v (.int .i64 0))]), (PV.v (.int .i64 4))])), []))) (
      (pIntK .i64 (.pv p_9)).bind fun n_28 => (pIntK .i64 (.pv p_18)).bind fun n_29 => cond (p_7.isCell && true) (cond (p_7.isCell && true) ((pIntK .i64 (.pv p_17)).bind fun n_30 => cond (n_30 == 0) (
        cond (p_19.isCell && true) (cond (p_19.isCell && true) (cond (p_20.isCell && true) (cond (p_20.isCell && true) ((pIntK .i64 (.pv p_19)).bind fun n_31 => (pIntK .i64 (.pv p_20)).bind fun n_32 => callT (ev 44 [(.pv (.sl 1 x0)), (.pv p_7), (.pv (PV.v (.int .i64 (IntKind.wrap .i64 (n_28 + n_29))))), (.pv (PV.v (.int .i64 (IntKind.wrap .i64 (n_31 + n_32)))))] []) (fun a_33 h_34 => (onlyPV a_33).bind fun p_35 => (pBool (.pv p_35)).bind fun b_36 => cond (!b_36) (
        some (.ret (.pv (.tup [(.agg [(PV.v (.int .i64 0)), (PV.v (.int .i64 0)), (PV.v (.int .i64 0)), (PV.v (.int .i64 0)), (PV.v (.int .i64 0)), (PV.v (.int .i64 0)), (PV.v (.int .i64 0)), (PV.v (.int .i64 0))]), (PV.v (.int .i64 2))])), [])) (
        cond (p_7.isCell && (p_19.isCell && (p_20.isCell && true))) (some (.ret (.pv (.tup [(.agg [(PV.v (.int .i64 1)), p_7, (PV.v (.int .i64 (IntKind.wrap .i64 (n_28 + n_29)))), p_19, p_20, (PV.v (.int .i64 0)), (PV.v (.int .i64 0)), (PV.v (.int .i64 (IntKind.wrap .i64 (n_31 + n_32))))]), (PV.v (.int .i64 0))])), [])) none)) (fun a_33 h_34 => some (.pan a_33, []))) none) none) none) none) (
        cond (p_21.isCell && true) (cond (p_21.isCell && true) (cond (p_22.isCell && true) (cond (p_22.isCell && true) (callT (ev 45 [(.pv p_21), (.pv p_22)] []) (fun a_31 h_32 => (onlyPV a_31).bind fun p_33 => cond (p_33.isCell && true) (cond (p_33.isCell && true) (callT (ev 44 [(.pv (.sl 1 x0)), (.pv p_7), (.pv (PV.v (.int .i64 (IntKind.wrap .i64 (n_28 + n_29))))), (.pv p_33)] []) (fun a_34 h_35 => (onlyPV a_34).bind fun p_36 => (pBool (.pv p_36)).bind fun b_37 => cond (!b_37) (
          some (.ret (.pv (.tup [(.agg [(PV.v (.int .i64 0)), (PV.v (.int .i64 0)), (PV.v (.int .i64 0)), (PV.v (.int .i64 0)), (PV.v (.int .i64 0)), (PV.v (.int .i64 0)), (PV.v (.int .i64 0)), (PV.v (.int .i64 0))]), (PV.v (.int .i64 2))])), [])) (
          (pIntK .i64 (.pv p_21)).bind fun n_38 => cond (n_38 != 7) (
            cond (p_7.isCell && (p_21.isCell && (p_22.isCell && (p_33.isCell && true)))) (some (.ret (.pv (.tup [(.agg [(PV.v (.int .i64 2)), p_7, (PV.v (.int .i64 (IntKind.wrap .i64 (n_28 + n_29)))), (PV.v (.int .i64 0)), (PV.v (.int .i64 0)), p_21, p_22, p_33]), (PV.v (.int .i64 0))])), [])) none) (
            callT (ev 40 [(.pv (.sl 1 x0)), (.pv p_7), (.pv (PV.v (.int .i64 (IntKind.wrap .i64 (n_28 + n_29)))))] []) (fun a_39 h_40 => (onlyPV a_39).bind fun p_41 => (pTup (.pv p_41)).bind fun ps_42 => (ps_42[0]?).bind fun p_43 => (pTup (.pv p_41)).bind fun ps_44 => (ps_44[1]?).bind fun p_45 => callT (ev 43 [(.pv p_43)] []) (fun a_46 h_47 => (onlyPV a_46).bind fun p_48 => cond (decide (p_48.cells.length = 10)) ((p_48.cells[0]?).bind fun p_49 => (p_48.cells[1]?).bind fun p_50 => (p_48.cells[2]?).bind fun p_51 => (p_48.cells[3]?).bind fun p_52 => (p_48.cells[4]?).bind fun p_53 => (p_48.cells[5]?).bind fun p_54 => (p_48.cells[6]?).bind fun p_55 => (p_48.cells[7]?).bind fun p_56 => (p_48.cells[8]?).bind fun p_57 => (p_48.cells[9]?).bind fun p_58 => cond (p_49.isCell && (p_50.isCell && (p_51.isCell && (p_52.isCell && (p_53.isCell && (p_54.isCell && (p_55.isCell && (p_56.isCell && (p_57.isCell && (p_58.isCell && true)))))))))) ((pIntK .i64 (.pv p_49)).bind fun n_59 => cond (n_59 != 0) (
              some (.ret (.pv (.tup [(.agg [(PV.v (.int .i64 0)), (PV.v (.int .i64 0)), (PV.v (.int .i64 0)), (PV.v (.int .i64 0)), (PV.v (.int .i64 0)), (PV.v (.int .i64 0)), (PV.v (.int .i64 0)), (PV.v (.int .i64 0))]), (PV.v (.int .i64 5))])), [])) (
              (pIntK .i64 (.pv p_50)).bind fun n_60 => cond (decide (n_60 < 0)) (
                some (.ret (.pv (.tup [(.agg [(PV.v (.int .i64 0)), (PV.v (.int .i64 0)), (PV.v (.int .i64 0)), (PV.v (.int .i64 0)), (PV.v (.int .i64 0)), (PV.v (.int .i64 0)), (PV.v (.int .i64 0)), (PV.v (.int .i64 0))]), (PV.v (.int .i64 5))])), [])) (
                (pIntK .i64 (.pv p_51)).bind fun n_61 => (pIntK .i64 (.pv p_52)).bind fun n_62 => (pIntK .i64 (.pv p_50)).bind fun n_63 => (pIntK .i64 (.pv p_22)).bind fun n_64 => cond (decide ((IntKind.wrap .i64 (n_63 * (IntKind.wrap .i64 (n_61 + n_62)))) > n_64)) (
                  some (.ret (.pv (.tup [(.agg [(PV.v (.int .i64 0)), (PV.v (.int .i64 0)), (PV.v (.int .i64 0)), (PV.v (.int .i64 0)), (PV.v (.int .i64 0)), (PV.v (.int .i64 0)), (PV.v (.int .i64 0)), (PV.v (.int .i64 0))]), (PV.v (.int .i64 5))])), [])) (
                  cond (p_50.isCell && true) (cond (p_50.isCell && true) (cond (p_51.isCell && true) (cond (p_51.isCell && true) (cond (p_52.isCell && true) (cond (p_52.isCell && true) ((pIntK .i64 (.pv p_51)).bind fun n_65 => (pIntK .i64 (.pv p_52)).bind fun n_66 => cond ((IntKind.wrap .i64 (n_65 + n_66)) == 0) (
                    (pIntK .i64 (.pv p_33)).bind fun n_67 => (pIntK .i64 (.pv p_50)).bind fun n_68 => cond (p_7.isCell && (p_51.isCell && (p_52.isCell && (p_21.isCell && (p_50.isCell && true))))) (some (.ret (.pv (.tup [(.agg [(PV.v (.int .i64 2)), p_7, (PV.v (.int .i64 (IntKind.wrap .i64 ((IntKind.wrap .i64 (n_28 + n_29)) + 1)))), p_51, p_52, p_21, p_50, (PV.v (.int .i64 (IntKind.wrap .i64 (n_67 + n_68))))]), (PV.v (.int .i64 0))])), [])) none) (
                    cond (p_7.isCell && (p_51.isCell && (p_52.isCell && (p_21.isCell && (p_50.isCell && (p_33.isCell && true)))))) (some (.ret (.pv (.tup [(.agg [(PV.v (.int .i64 2)), p_7, (PV.v (.int .i64 (IntKind.wrap .i64 ((IntKind.wrap .i64 (n_28 + n_29)) + 1)))), p_51, p_52, p_21, p_50, p_33]), (PV.v (.int .i64 0))])), [])) none)) none) none) none) none) none) none)))) none) none) (fun a_46 h_47 => some (.pan a_46, []))) (fun a_39 h_40 => some (.pan a_39, []))))) (fun a_34 h_35 => some (.pan a_34, []))) none) none) (fun a_31 h_32 => some (.pan a_31, []))) none) none) none) none)) none) none)) none) none) (fun a_14 h_15 => some (.pan a_14, []))))) (fun a_1 h_2 => some (.pan a_1, [])) := (ev_eq (fn := Tryd.f27) (by kernel_rfl) (by kernel_rfl) (by kernel_rfl) _ _).trans (by kernel_rfl)
noncomputable def B_capnpref10_Size : Code := Tryd.f36.body.getD .skip
noncomputable def capnpref10_Size_L0 (i0 : Int) (i1 : Int) (i2 : Int) (i3 : Int) (i4 : Int) (xs5 : List PV) (xs6 : List PV) : Option (Out × Heap) :=
  loopV (evW env ev iterW 25 36 0 (sub B_capnpref10_Size [1, 1, 0, 1, 0, 0])) (keepS env 36 0 1) (blockK 0 (seqK (evV env ev 25 36 0 (sub B_capnpref10_Size [1, 1, 1])) (finK env 36 Tryd.f36.results.toList 0))) ⟨ofL [(1, (.ptr 0 0)), (3, (.pv (PV.v (.int .i64 i0)))), (4, (.pv (PV.v (.int .i64 i1))))], [[(.pv (PV.v (.int .i64 i2))), (.pv (PV.v (.int .i64 i3))), (.pv (PV.v (.int .i64 i4))), (.pv (.sl 1 xs5)), (.pv (.sl 5 xs6))]]⟩
theorem capnpref10_Size_L0_eq (i0 : Int) (i1 : Int) (i2 : Int) (i3 : Int) (i4 : Int) (xs5 : List PV) (xs6 : List PV) : capnpref10_Size_L0 i0 i1 i2 i3 i4 xs5 xs6 =
  cond (decide (i1 < (xs6.length : Int))) (
  cond (decide (0 ≤ i1) && decide (i1 < (xs6.length : Int))) ((xs6[(i1).toNat]?).bind fun p_1 => cond (decide (5 ≤ p_1.cells.length)) (callT (ev 36 [(.pv (.agg ((p_1.cells.drop 0).take 5)))] []) (fun a_2 h_3 => (onlyPV a_2).bind fun p_4 => (pIntK .i64 (.pv p_4)).bind fun n_5 => capnpref10_Size_L0 (IntKind.wrap .i64 (i0 + n_5)) (IntKind.wrap .i64 (i1 + 1)) i2 i3 i4 xs5 xs6) (fun a_2 h_3 => some (.pan a_2, []))) none) none) (
  some (.ret (.pv (PV.v (.int .i64 i0))), [])) := (loopV_eq ..).trans (by kernel_rfl)
theorem capnpref10_Size_eq (x0_0 : Int) (x0_1 : Int) (x0_2 : Int) (x0_3 : List PV) (x0_4 : List PV) : ev 36 [(.pv (.agg [(PV.v (.int .i64 x0_0)), (PV.v (.int .i64 x0_1)), (PV.v (.int .i64 x0_2)), (.sl 1 x0_3), (.sl 5 x0_4)]))] [] =
  capnpref10_Size_L0 (IntKind.wrap .i64 (1 + (x0_3.length : Int))) 0 x0_0 x0_1 x0_2 x0_3 x0_4 := (ev_eq (fn := Tryd.f36) (by kernel_rfl) (by kernel_rfl) (by kernel_rfl) _ _).trans (by kernel_rfl)
theorem capnpref07_IsFar_eq (x0 : Int) : ev 41 [(.pv (PV.v (.int .u64 x0)))] [] =
  some (.ret (.pv (PV.v (.bool ((Int.tmod x0 4) == 2)))), []) := (ev_eq (fn := Tryd.f41) (by kernel_rfl) (by kernel_rfl) (by kernel_rfl) _ _).trans (by kernel_rfl)
theorem capnpref02_Decode_eq (x0 : Int) : ev 43 [(.pv (PV.v (.int .u64 x0)))] [] =
  cond ((IntKind.wrap .i64 (Int.tmod x0 4)) == 0) (
  callT (ev 47 [(.pv (PV.v (.int .u64 x0))), (.pv (PV.v (.int .i64 2))), (.pv (PV.v (.int .i64 30)))] []) (fun a_1 h_2 => (onlyPV a_1).bind fun p_3 => cond (p_3.isCell && true) (cond (p_3.isCell && true) (callT (ev 48 [(.pv (PV.v (.int .u64 x0))), (.pv (PV.v (.int .i64 32))), (.pv (PV.v (.int .i64 16)))] []) (fun a_4 h_5 => (onlyPV a_4).bind fun p_6 => (pInt (.pv p_6)).bind fun q_7 => callT (ev 48 [(.pv (PV.v (.int .u64 x0))), (.pv (PV.v (.int .i64 48))), (.pv (PV.v (.int .i64 16)))] []) (fun a_8 h_9 => (onlyPV a_8).bind fun p_10 => (pInt (.pv p_10)).bind fun q_11 => cond (p_3.isCell && true) (some (.ret (.pv (.agg [(PV.v (.int .i64 (IntKind.wrap .i64 (Int.tmod x0 4)))), p_3, (PV.v (.int .i64 (IntKind.wrap .i64 q_7.2))), (PV.v (.int .i64 (IntKind.wrap .i64 q_11.2))), (PV.v (.int .i64 0)), (PV.v (.int .i64 0)), (PV.v (.bool false)), (PV.v (.int .i64 0)), (PV.v (.int .u32 0)), (PV.v (.int .u32 0))])), [])) none) (fun a_8 h_9 => some (.pan a_8, []))) (fun a_4 h_5 => some (.pan a_4, []))) none) none) (fun a_1 h_2 => some (.pan a_1, []))) (
  cond ((IntKind.wrap .i64 (Int.tmod x0 4)) == 1) (
    callT (ev 47 [(.pv (PV.v (.int .u64 x0))), (.pv (PV.v (.int .i64 2))), (.pv (PV.v (.int .i64 30)))] []) (fun a_1 h_2 => (onlyPV a_1).bind fun p_3 => cond (p_3.isCell && true) (cond (p_3.isCell && true) (callT (ev 48 [(.pv (PV.v (.int .u64 x0))), (.pv (PV.v (.int .i64 32))), (.pv (PV.v (.int .i64 3)))] []) (fun a_4 h_5 => (onlyPV a_4).bind fun p_6 => (pInt (.pv p_6)).bind fun q_7 => callT (ev 48 [(.pv (PV.v (.int .u64 x0))), (.pv (PV.v (.int .i64 35))), (.pv (PV.v (.int .i64 29)))] []) (fun a_8 h_9 => (onlyPV a_8).bind fun p_10 => (pInt (.pv p_10)).bind fun q_11 => cond (p_3.isCell && true) (some (.ret (.pv (.agg [(PV.v (.int .i64 (IntKind.wrap .i64 (Int.tmod x0 4)))), p_3, (PV.v (.int .i64 0)), (PV.v (.int .i64 0)), (PV.v (.int .i64 (IntKind.wrap .i64 q_7.2))), (PV.v (.int .i64 (IntKind.wrap .i64 q_11.2))), (PV.v (.bool false)), (PV.v (.int .i64 0)), (PV.v (.int .u32 0)), (PV.v (.int .u32 0))])), [])) none) (fun a_8 h_9 => some (.pan a_8, []))) (fun a_4 h_5 => some (.pan a_4, []))) none) none) (fun a_1 h_2 => some (.pan a_1, []))) (
    cond ((IntKind.wrap .i64 (Int.tmod x0 4)) == 2) (
      callT (ev 48 [(.pv (PV.v (.int .u64 x0))), (.pv (PV.v (.int .i64 2))), (.pv (PV.v (.int .i64 1)))] []) (fun a_1 h_2 => (onlyPV a_1).bind fun p_3 => (pIntK .u64 (.pv p_3)).bind fun n_4 => callT (ev 48 [(.pv (PV.v (.int .u64 x0))), (.pv (PV.v (.int .i64 3))), (.pv (PV.v (.int .i64 29)))] []) (fun a_5 h_6 => (onlyPV a_5).bind fun p_7 => (pInt (.pv p_7)).bind fun q_8 => some (.ret (.pv (.agg [(PV.v (.int .i64 (IntKind.wrap .i64 (Int.tmod x0 4)))), (PV.v (.int .i64 0)), (PV.v (.int .i64 0)), (PV.v (.int .i64 0)), (PV.v (.int .i64 0)), (PV.v (.int .i64 0)), (PV.v (.bool (n_4 == 1))), (PV.v (.int .i64 (IntKind.wrap .i64 q_8.2))), (PV.v (.int .u32 (IntKind.wrap .u32 (IntKind.wrap .u64 (Int.tdiv x0 4294967296))))), (PV.v (.int .u32 0))])), [])) (fun a_5 h_6 => some (.pan a_5, []))) (fun a_1 h_2 => some (.pan a_1, []))) (
      cond ((IntKind.wrap .i64 (Int.tmod x0 4)) == 3) (
        callT (ev 48 [(.pv (PV.v (.int .u64 x0))), (.pv (PV.v (.int .i64 2))), (.pv (PV.v (.int .i64 30)))] []) (fun a_1 h_2 => (onlyPV a_1).bind fun p_3 => (pInt (.pv p_3)).bind fun q_4 => some (.ret (.pv (.agg [(PV.v (.int .i64 (IntKind.wrap .i64 (Int.tmod x0 4)))), (PV.v (.int .i64 0)), (PV.v (.int .i64 0)), (PV.v (.int .i64 0)), (PV.v (.int .i64 0)), (PV.v (.int .i64 0)), (PV.v (.bool false)), (PV.v (.int .i64 0)), (PV.v (.int .u32 (IntKind.wrap .u32 (IntKind.wrap .u64 (Int.tdiv x0 4294967296))))), (PV.v (.int .u32 (IntKind.wrap .u32 q_4.2)))])), [])) (fun a_1 h_2 => some (.pan a_1, []))) (
        some (.ret (.pv (.agg [(PV.v (.int .i64 (IntKind.wrap .i64 (Int.tmod x0 4)))), (PV.v (.int .i64 0)), (PV.v (.int .i64 0)), (PV.v (.int .i64 0)), (PV.v (.int .i64 0)), (PV.v (.int .i64 0)), (PV.v (.bool false)), (PV.v (.int .i64 0)), (PV.v (.int .u32 0)), (PV.v (.int .u32 0))])), []))))) := (ev_eq (fn := Tryd.f43) (by kernel_rfl) (by kernel_rfl) (by kernel_rfl) _ _).trans (by kernel_rfl)
end Go.Proofs.YtepidhlkackjlaaDoor.E
