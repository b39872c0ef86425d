/- This text is one of those that prove the law HashMatchesReference of the given program, as its statement says it: true on every input that the statement covers. Its conditions are the statement's own. -/
import Derived.KernelRfl
import Derived.Test.YtfljialckkgacaaGreatDoorZHashMatchesReference1
import Derived.Test.YtfljialckkgacaaGreatDoorZHashMatchesReference2
import Derived.Test.YtfljialckkgacaaGreatDoorZHashMatchesReference3
set_option linter.unusedVariables false
set_option linter.unusedSimpArgs false
set_option linter.unusedVariables false
namespace Go.Proofs.YtfljialckkgacaaGreatDoor.E
theorem capnplaw19_awake_eq : ev 21 [] [] =
  callT (ev 22 [(.pv (.sl 1 [(.sl 1 [(PV.v (.int .u64 0))])])), (.pv (.agg [(PV.v (.int .i64 5)), (PV.v (.int .i64 50)), (PV.v (.int .i64 0))]))] []) (fun a_1 h_2 => (onlyPV a_1).bind fun p_3 => (pTup (.pv p_3)).bind fun ps_4 => (ps_4[0]?).bind fun p_5 => (pTup (.pv p_3)).bind fun ps_6 => (ps_6[1]?).bind fun p_7 => callT (ev 22 [(.pv (.sl 1 [(.sl 1 [(PV.v (.int .u64 4294967296)), (PV.v (.int .u64 5))])])), (.pv (.agg [(PV.v (.int .i64 5)), (PV.v (.int .i64 50)), (PV.v (.int .i64 0))]))] []) (fun a_8 h_9 => (onlyPV a_8).bind fun p_10 => (pTup (.pv p_10)).bind fun ps_11 => (ps_11[0]?).bind fun p_12 => (pTup (.pv p_10)).bind fun ps_13 => (ps_13[1]?).bind fun p_14 => callT (ev 22 [(.pv (.sl 1 [(.sl 1 [(PV.v (.int .u64 4294967298))]), (.sl 1 [(PV.v (.int .u64 8589934592)), (PV.v (.int .u64 5)), (PV.v (.int .u64 0))])])), (.pv (.agg [(PV.v (.int .i64 5)), (PV.v (.int .i64 50)), (PV.v (.int .i64 0))]))] []) (fun a_15 h_16 => (onlyPV a_15).bind fun p_17 => (pTup (.pv p_17)).bind fun ps_18 => (ps_18[0]?).bind fun p_19 => (pTup (.pv p_17)).bind fun ps_20 => (ps_20[1]?).bind fun p_21 => callT (ev 22 [(.pv (.sl 1 [(.sl 1 [(PV.v (.int .u64 3))])])), (.pv (.agg [(PV.v (.int .i64 5)), (PV.v (.int .i64 50)), (PV.v (.int .i64 0))]))] []) (fun a_22 h_23 => (onlyPV a_22).bind fun p_24 => (pTup (.pv p_24)).bind fun ps_25 => (ps_25[0]?).bind fun p_26 => (pTup (.pv p_24)).bind fun ps_27 => (ps_27[1]?).bind fun p_28 => callT (ev 24 [(.pv (.sl 1 [(.sl 1 [(PV.v (.int .u64 8589934592)), (PV.v (.int .u64 5)), (PV.v (.int .u64 0))])])), (.pv (.agg [(PV.v (.int .i64 5)), (PV.v (.int .i64 50)), (PV.v (.int .i64 0))]))] []) (fun a_29 h_30 => (onlyPV a_29).bind fun p_31 => (pTup (.pv p_31)).bind fun ps_32 => (ps_32[0]?).bind fun p_33 => (pTup (.pv p_31)).bind fun ps_34 => (ps_34[1]?).bind fun p_35 => callT (ev 29 [(.pv (.sl 1 [(PV.v (.int .u8 0)), (PV.v (.int .u8 0)), (PV.v (.int .u8 0)), (PV.v (.int .u8 0)), (PV.v (.int .u8 0)), (PV.v (.int .u8 0)), (PV.v (.int .u8 0)), (PV.v (.int .u8 0))]))] []) (fun a_36 h_37 => (onlyPV a_36).bind fun p_38 => (pIntK .u64 (.pv p_5)).bind fun n_39 => (pIntK .u64 (.pv p_38)).bind fun n_40 => cond (n_39 == n_40) (
  (pIntK .i64 (.pv p_7)).bind fun n_41 => cond (n_41 == 0) (
  (pIntK .u64 (.pv p_12)).bind fun n_42 => (pIntK .u64 (.pv p_19)).bind fun n_43 => cond (n_42 == n_43) (
  (pIntK .i64 (.pv p_14)).bind fun n_44 => cond (n_44 == 0) (
  (pIntK .i64 (.pv p_21)).bind fun n_45 => cond (n_45 == 0) (
  (pIntK .u64 (.pv p_5)).bind fun n_46 => (pIntK .u64 (.pv p_12)).bind fun n_47 => cond (n_46 != n_47) (
  (pIntK .u64 (.pv p_26)).bind fun n_48 => cond (n_48 == 0) (
  (pIntK .i64 (.pv p_28)).bind fun n_49 => cond (n_49 == 6) (
  (pIntK .i64 (.pv p_33)).bind fun n_50 => cond (n_50 == 16) (
  (pIntK .i64 (.pv p_35)).bind fun n_51 => cond (n_51 == 0) (
  callT (ev 26 [(.pv (.agg [(PV.v (.int .i64 0)), (PV.v (.int .i64 0)), (PV.v (.int .i64 0)), (.sl 1 []), (.sl 5 [])]))] []) (fun a_52 h_53 => (onlyPV a_52).bind fun p_54 => (pIntK .u64 (.pv p_54)).bind fun n_55 => (pIntK .u64 (.pv p_5)).bind fun n_56 => some (.ret (.pv (PV.v (.bool (n_55 == n_56)))), [])) (fun a_52 h_53 => some (.pan a_52, []))) (
  some (.ret (.pv (PV.v (.bool false))), []))) (
  some (.ret (.pv (PV.v (.bool false))), []))) (
  some (.ret (.pv (PV.v (.bool false))), []))) (
  some (.ret (.pv (PV.v (.bool false))), []))) (
  some (.ret (.pv (PV.v (.bool false))), []))) (
  some (.ret (.pv (PV.v (.bool false))), []))) (
  some (.ret (.pv (PV.v (.bool false))), []))) (
  some (.ret (.pv (PV.v (.bool false))), []))) (
  some (.ret (.pv (PV.v (.bool false))), []))) (
  some (.ret (.pv (PV.v (.bool false))), []))) (fun a_36 h_37 => some (.pan a_36, []))) (fun a_29 h_30 => some (.pan a_29, []))) (fun a_22 h_23 => some (.pan a_22, []))) (fun a_15 h_16 => some (.pan a_15, []))) (fun a_8 h_9 => some (.pan a_8, []))) (fun a_1 h_2 => some (.pan a_1, [])) := (ev_eq (fn := Tryz.f21) (by kernel_rfl) (by kernel_rfl) (by kernel_rfl) _ _).trans (by kernel_rfl)
theorem capnpref18_Sum_eq (x0 : List PV) : ev 29 [(.pv (.sl 1 x0))] [] =
  callT (ev 52 [(.pv (PV.v (.int .u64 14695981039346656037))), (.pv (.sl 1 x0))] []) (fun a_1 h_2 => (onlyPV a_1).bind fun p_3 => some (.ret (.pv p_3), [])) (fun a_1 h_2 => some (.pan a_1, [])) := (ev_eq (fn := Tryz.f29) (by kernel_rfl) (by kernel_rfl) (by kernel_rfl) _ _).trans (by kernel_rfl)
theorem capnpref14_Write_eq (x0_0 : Int) (x0_1 : Int) (x0_2 : Int) (x0_3 : List PV) (x0_4 : List PV) : ev 34 [(.pv (.agg [(PV.v (.int .i64 x0_0)), (PV.v (.int .i64 x0_1)), (PV.v (.int .i64 x0_2)), (.sl 1 x0_3), (.sl 5 x0_4)]))] [] =
  callT (ev 55 [(.pv (.sl 1 [(PV.v (.int .u64 0))])), (.pv (PV.v (.int .i64 0))), (.pv (.agg [(PV.v (.int .i64 x0_0)), (PV.v (.int .i64 x0_1)), (PV.v (.int .i64 x0_2)), (.sl 1 x0_3), (.sl 5 x0_4)]))] []) (fun a_1 h_2 => (onlyPV a_1).bind fun p_3 => some (.ret (.pv p_3), [])) (fun a_1 h_2 => some (.pan a_1, [])) := (ev_eq (fn := Tryz.f34) (by kernel_rfl) (by kernel_rfl) (by kernel_rfl) _ _).trans (by kernel_rfl)
noncomputable def B_capnpref10_Size : Code := Tryz.f40.body.getD .skip
noncomputable def capnpref10_Size_L0 (i0 : Int) (i1 : Int) (i2 : Int) (i3 : Int) (i4 : Int) (xs5 : List PV) (xs6 : List PV) : Option (Out × Heap) :=
  loopV (evW env ev iterW 25 40 0 (sub B_capnpref10_Size [1, 1, 0, 1, 0, 0])) (keepS env 40 0 1) (blockK 0 (seqK (evV env ev 25 40 0 (sub B_capnpref10_Size [1, 1, 1])) (finK env 40 Tryz.f40.results.toList 0))) ⟨ofL [(1, (.ptr 0 0)), (3, (.pv (PV.v (.int .i64 i0)))), (4, (.pv (PV.v (.int .i64 i1))))], [[(.pv (PV.v (.int .i64 i2))), (.pv (PV.v (.int .i64 i3))), (.pv (PV.v (.int .i64 i4))), (.pv (.sl 1 xs5)), (.pv (.sl 5 xs6))]]⟩
theorem capnpref10_Size_L0_eq (i0 : Int) (i1 : Int) (i2 : Int) (i3 : Int) (i4 : Int) (xs5 : List PV) (xs6 : List PV) : capnpref10_Size_L0 i0 i1 i2 i3 i4 xs5 xs6 =
  cond (decide (i1 < (xs6.length : Int))) (
  cond (decide (0 ≤ i1) && decide (i1 < (xs6.length : Int))) ((xs6[(i1).toNat]?).bind fun p_1 => cond (decide (5 ≤ p_1.cells.length)) (callT (ev 40 [(.pv (.agg ((p_1.cells.drop 0).take 5)))] []) (fun a_2 h_3 => (onlyPV a_2).bind fun p_4 => (pIntK .i64 (.pv p_4)).bind fun n_5 => capnpref10_Size_L0 (IntKind.wrap .i64 (i0 + n_5)) (IntKind.wrap .i64 (i1 + 1)) i2 i3 i4 xs5 xs6) (fun a_2 h_3 => some (.pan a_2, []))) none) none) (
  some (.ret (.pv (PV.v (.int .i64 i0))), [])) := (loopV_eq ..).trans (by kernel_rfl)
theorem capnpref10_Size_eq (x0_0 : Int) (x0_1 : Int) (x0_2 : Int) (x0_3 : List PV) (x0_4 : List PV) : ev 40 [(.pv (.agg [(PV.v (.int .i64 x0_0)), (PV.v (.int .i64 x0_1)), (PV.v (.int .i64 x0_2)), (.sl 1 x0_3), (.sl 5 x0_4)]))] [] =
  capnpref10_Size_L0 (IntKind.wrap .i64 (1 + (x0_3.length : Int))) 0 x0_0 x0_1 x0_2 x0_3 x0_4 := (ev_eq (fn := Tryz.f40) (by kernel_rfl) (by kernel_rfl) (by kernel_rfl) _ _).trans (by kernel_rfl)
theorem capnpref13_Object_eq (x0_0 : Int) (x0_1 : Int) (x0_2 : Int) (x0_3 : List PV) (x0_4 : List PV) : ev 43 [(.pv (.agg [(PV.v (.int .i64 x0_0)), (PV.v (.int .i64 x0_1)), (PV.v (.int .i64 x0_2)), (.sl 1 x0_3), (.sl 5 x0_4)]))] [] =
  cond (x0_0 == 0) (
  some (.ret (.pv (PV.v (.int .i64 0))), [])) (
  cond (x0_0 == 1) (
    some (.ret (.pv (PV.v (.int .i64 (IntKind.wrap .i64 ((IntKind.wrap .i64 (Int.tdiv (x0_3.length : Int) 8)) + (x0_4.length : Int)))))), [])) (
    cond (x0_1 == 7) (
      callT (ev 65 [(.pv (.agg [(PV.v (.int .i64 x0_0)), (PV.v (.int .i64 x0_1)), (PV.v (.int .i64 x0_2)), (.sl 1 x0_3), (.sl 5 x0_4)]))] []) (fun a_1 h_2 => (onlyPV a_1).bind fun p_3 => (pTup (.pv p_3)).bind fun ps_4 => (ps_4[0]?).bind fun p_5 => (pTup (.pv p_3)).bind fun ps_6 => (ps_6[1]?).bind fun p_7 => (pIntK .i64 (.pv p_5)).bind fun n_8 => (pIntK .i64 (.pv p_7)).bind fun n_9 => some (.ret (.pv (PV.v (.int .i64 (IntKind.wrap .i64 (1 + (IntKind.wrap .i64 (x0_2 * (IntKind.wrap .i64 (n_8 + n_9))))))))), [])) (fun a_1 h_2 => some (.pan a_1, []))) (
      callT (ev 66 [(.pv (PV.v (.int .i64 x0_1))), (.pv (PV.v (.int .i64 x0_2)))] []) (fun a_1 h_2 => (onlyPV a_1).bind fun p_3 => some (.ret (.pv p_3), [])) (fun a_1 h_2 => some (.pan a_1, []))))) := (ev_eq (fn := Tryz.f43) (by kernel_rfl) (by kernel_rfl) (by kernel_rfl) _ _).trans (by kernel_rfl)
noncomputable def B_capnpref10_Valid : Code := Tryz.f49.body.getD .skip
noncomputable def capnpref10_Valid_L0 (i0 : Int) (i1 : Int) (i2 : Int) (i3 : Int) (xs4 : List PV) (xs5 : List PV) : Option (Out × Heap) :=
  loopV (evW env ev iterW 150 49 0 (sub B_capnpref10_Valid [1, 0, 1, 0, 0])) (keepS env 49 0 1) (blockK 0 (seqK (evV env ev 150 49 0 (sub B_capnpref10_Valid [1, 1])) (finK env 49 Tryz.f49.results.toList 0))) ⟨ofL [(1, (.ptr 0 0)), (3, (.pv (PV.v (.int .i64 i0))))], [[(.pv (PV.v (.int .i64 i1))), (.pv (PV.v (.int .i64 i2))), (.pv (PV.v (.int .i64 i3))), (.pv (.sl 1 xs4)), (.pv (.sl 5 xs5))]]⟩
theorem capnpref10_Valid_L0_eq (i0 : Int) (i1 : Int) (i2 : Int) (i3 : Int) (xs4 : List PV) (xs5 : List PV) : capnpref10_Valid_L0 i0 i1 i2 i3 xs4 xs5 =
  cond (decide (i0 < (xs5.length : Int))) (
  cond (decide (0 ≤ i0) && decide (i0 < (xs5.length : Int))) ((xs5[(i0).toNat]?).bind fun p_1 => cond (decide (5 ≤ p_1.cells.length)) (callT (ev 49 [(.pv (.agg ((p_1.cells.drop 0).take 5)))] []) (fun a_2 h_3 => (onlyPV a_2).bind fun p_4 => (pBool (.pv p_4)).bind fun b_5 => cond (!b_5) (
  some (.ret (.pv (PV.v (.bool false))), [])) (
  cond (i1 == 2) (
    cond (i2 == 7) (
    cond (decide (0 ≤ i0) && decide (i0 < (xs5.length : Int))) ((xs5[(i0).toNat]?).bind fun p_6 => (p_6.cells[0]?).bind fun p_7 => (pIntK .i64 (.pv p_7)).bind fun n_8 => cond (n_8 != 1) (
    some (.ret (.pv (PV.v (.bool false))), [])) (
    capnpref10_Valid_L0 (IntKind.wrap .i64 (i0 + 1)) i1 i2 i3 xs4 xs5)) none) (
    capnpref10_Valid_L0 (IntKind.wrap .i64 (i0 + 1)) i1 i2 i3 xs4 xs5)) (
    capnpref10_Valid_L0 (IntKind.wrap .i64 (i0 + 1)) i1 i2 i3 xs4 xs5))) (fun a_2 h_3 => some (.pan a_2, []))) none) none) (
  cond (i1 == 0) (
    cond (i2 == 0) (
    cond (i3 == 0) (
    cond ((xs4.length : Int) == 0) (
    some (.ret (.pv (PV.v (.bool ((xs5.length : Int) == 0)))), [])) (
    some (.ret (.pv (PV.v (.bool false))), []))) (
    some (.ret (.pv (PV.v (.bool false))), []))) (
    some (.ret (.pv (PV.v (.bool false))), []))) (
    cond (i1 == 1) (
      cond (i2 == 0) (
      cond (i3 == 0) (
      cond ((Int.tmod (xs4.length : Int) 8) == 0) (
      cond (decide ((xs4.length : Int) ≤ 524280)) (
      some (.ret (.pv (PV.v (.bool (decide ((xs5.length : Int) ≤ 65535))))), [])) (
      some (.ret (.pv (PV.v (.bool false))), []))) (
      some (.ret (.pv (PV.v (.bool false))), []))) (
      some (.ret (.pv (PV.v (.bool false))), []))) (
      some (.ret (.pv (PV.v (.bool false))), []))) (
      cond (i1 == 2) (
        cond (decide (i3 < 0)) (
        some (.ret (.pv (PV.v (.bool false))), [])) (
        cond (decide (i3 > 536870911)) (
          some (.ret (.pv (PV.v (.bool false))), [])) (
          cond (decide (i2 < 0)) (
            some (.ret (.pv (PV.v (.bool false))), [])) (
            cond (decide (i2 > 7)) (
              some (.ret (.pv (PV.v (.bool false))), [])) (
              cond (decide (i2 ≥ 6)) (
                cond ((xs4.length : Int) == 0) (
                some (.ret (.pv (PV.v (.bool ((xs5.length : Int) == i3)))), [])) (
                some (.ret (.pv (PV.v (.bool false))), []))) (
                cond ((xs5.length : Int) != 0) (
                  some (.ret (.pv (PV.v (.bool false))), [])) (
                  callT (ev 68 [(.pv (PV.v (.int .i64 i2))), (.pv (PV.v (.int .i64 i3)))] []) (fun a_1 h_2 => (onlyPV a_1).bind fun p_3 => (pIntK .i64 (.pv p_3)).bind fun n_4 => cond ((xs4.length : Int) != n_4) (
                    some (.ret (.pv (PV.v (.bool false))), [])) (
                    callT (ev 61 [(.pv (PV.v (.int .i64 i2))), (.pv (PV.v (.int .i64 i3))), (.pv (.sl 1 xs4))] []) (fun a_5 h_6 => (onlyPV a_5).bind fun p_7 => callT (ev 42 [(.pv p_7), (.pv (.sl 1 xs4))] []) (fun a_8 h_9 => (onlyPV a_8).bind fun p_10 => some (.ret (.pv p_10), [])) (fun a_8 h_9 => some (.pan a_8, []))) (fun a_5 h_6 => none))) (fun a_1 h_2 => some (.pan a_1, []))))))))) (
        some (.ret (.pv (PV.v (.bool false))), []))))) := (loopV_eq ..).trans (by kernel_rfl)
theorem capnpref10_Valid_eq (x0_0 : Int) (x0_1 : Int) (x0_2 : Int) (x0_3 : List PV) (x0_4 : List PV) : ev 49 [(.pv (.agg [(PV.v (.int .i64 x0_0)), (PV.v (.int .i64 x0_1)), (PV.v (.int .i64 x0_2)), (.sl 1 x0_3), (.sl 5 x0_4)]))] [] =
  capnpref10_Valid_L0 0 x0_0 x0_1 x0_2 x0_3 x0_4 := (ev_eq (fn := Tryz.f49) (by kernel_rfl) (by kernel_rfl) (by kernel_rfl) _ _).trans (by kernel_rfl)
theorem capnpref07_Follow_eq (x0 : List PV) (x1 : Int) (x2 : Int) : ev 56 [(.pv (.sl 1 x0)), (.pv (PV.v (.int .i64 x1))), (.pv (PV.v (.int .i64 x2)))] [] =
  callT (ev 82 [(.pv (.sl 1 x0)), (.pv (PV.v (.int .i64 x1))), (.pv (PV.v (.int .i64 x2)))] []) (fun a_1 h_2 => (onlyPV a_1).bind fun p_3 => (pTup (.pv p_3)).bind fun ps_4 => (ps_4[0]?).bind fun p_5 => (pTup (.pv p_3)).bind fun ps_6 => (ps_6[1]?).bind fun p_7 => (pBool (.pv p_7)).bind fun b_8 => cond (!b_8) (
  some (.ret (.pv (.tup [(PV.v (.int .u64 0)), (PV.v (.int .i64 0)), (PV.v (.int .i64 0)), (PV.v (.int .i64 2))])), [])) (
  callT (ev 83 [(.pv p_5)] []) (fun a_9 h_10 => (onlyPV a_9).bind fun p_11 => (pBool (.pv p_11)).bind fun b_12 => cond (!b_12) (
    some (.ret (.pv (.tup [p_5, (PV.v (.int .i64 x1)), (PV.v (.int .i64 (IntKind.wrap .i64 (x2 + 1)))), (PV.v (.int .i64 0))])), [])) (
    callT (ev 84 [(.pv p_5)] []) (fun a_13 h_14 => (onlyPV a_13).bind fun p_15 => (pTup (.pv p_15)).bind fun ps_16 => (ps_16[0]?).bind fun p_17 => (pTup (.pv p_15)).bind fun ps_18 => (ps_18[1]?).bind fun p_19 => callT (ev 82 [(.pv (.sl 1 x0)), (.pv p_17), (.pv p_19)] []) (fun a_20 h_21 => (onlyPV a_20).bind fun p_22 => (pTup (.pv p_22)).bind fun ps_23 => (ps_23[0]?).bind fun p_24 => (pTup (.pv p_22)).bind fun ps_25 => (ps_25[1]?).bind fun p_26 => (pBool (.pv p_26)).bind fun b_27 => cond (!b_27) (
      some (.ret (.pv (.tup [(PV.v (.int .u64 0)), (PV.v (.int .i64 0)), (PV.v (.int .i64 0)), (PV.v (.int .i64 2))])), [])) (
      (pIntK .u64 (.pv p_5)).bind fun n_28 => cond ((Int.tmod (IntKind.wrap .u64 (Int.tdiv n_28 4)) 2) == 0) (
        callT (ev 83 [(.pv p_24)] []) (fun a_29 h_30 => (onlyPV a_29).bind fun p_31 => (pBool (.pv p_31)).bind fun b_32 => cond b_32 (
        some (.ret (.pv (.tup [(PV.v (.int .u64 0)), (PV.v (.int .i64 0)), (PV.v (.int .i64 0)), (PV.v (.int .i64 3))])), [])) (
        (pIntK .i64 (.pv p_19)).bind fun n_33 => some (.ret (.pv (.tup [p_24, p_17, (PV.v (.int .i64 (IntKind.wrap .i64 (n_33 + 1)))), (PV.v (.int .i64 0))])), []))) (fun a_29 h_30 => some (.pan a_29, []))) (
        (pIntK .i64 (.pv p_19)).bind fun n_29 => callT (ev 82 [(.pv (.sl 1 x0)), (.pv p_17), (.pv (PV.v (.int .i64 (IntKind.wrap .i64 (n_29 + 1)))))] []) (fun a_30 h_31 => (onlyPV a_30).bind fun p_32 => (pTup (.pv p_32)).bind fun ps_33 => (ps_33[0]?).bind fun p_34 => (pTup (.pv p_32)).bind fun ps_35 => (ps_35[1]?).bind fun p_36 => (pBool (.pv p_36)).bind fun b_37 => cond (!b_37) (
          some (.ret (.pv (.tup [(PV.v (.int .u64 0)), (PV.v (.int .i64 0)), (PV.v (.int .i64 0)), (PV.v (.int .i64 2))])), [])) (
          callT (ev 85 [(.pv p_34)] []) (fun a_38 h_39 => (onlyPV a_38).bind fun p_40 => cond (decide (p_40.cells.length = 10)) ((p_40.cells[0]?).bind fun p_41 => (p_40.cells[1]?).bind fun p_42 => (p_40.cells[2]?).bind fun p_43 => (p_40.cells[3]?).bind fun p_44 => (p_40.cells[4]?).bind fun p_45 => (p_40.cells[5]?).bind fun p_46 => (p_40.cells[6]?).bind fun p_47 => (p_40.cells[7]?).bind fun p_48 => (p_40.cells[8]?).bind fun p_49 => (p_40.cells[9]?).bind fun p_50 => cond (p_41.isCell && (p_42.isCell && (p_43.isCell && (p_44.isCell && (p_45.isCell && (p_46.isCell && (p_47.isCell && (p_48.isCell && (p_49.isCell && (p_50.isCell && true)))))))))) (callT (ev 83 [(.pv p_24)] []) (fun a_51 h_52 => (onlyPV a_51).bind fun p_53 => (pBool (.pv p_53)).bind fun b_54 => cond (!b_54) (
            some (.ret (.pv (.tup [(PV.v (.int .u64 0)), (PV.v (.int .i64 0)), (PV.v (.int .i64 0)), (PV.v (.int .i64 3))])), [])) (
            (pIntK .u64 (.pv p_24)).bind fun n_55 => cond ((Int.tmod (IntKind.wrap .u64 (Int.tdiv n_55 4)) 2) == 1) (
              some (.ret (.pv (.tup [(PV.v (.int .u64 0)), (PV.v (.int .i64 0)), (PV.v (.int .i64 0)), (PV.v (.int .i64 3))])), [])) (
              (pIntK .i64 (.pv p_41)).bind fun n_56 => cond (decide (n_56 > 1)) (
                some (.ret (.pv (.tup [(PV.v (.int .u64 0)), (PV.v (.int .i64 0)), (PV.v (.int .i64 0)), (PV.v (.int .i64 3))])), [])) (
                (pIntK .i64 (.pv p_42)).bind fun n_57 => cond (n_57 != 0) (
                  some (.ret (.pv (.tup [(PV.v (.int .u64 0)), (PV.v (.int .i64 0)), (PV.v (.int .i64 0)), (PV.v (.int .i64 3))])), [])) (
                  callT (ev 84 [(.pv p_24)] []) (fun a_58 h_59 => (onlyPV a_58).bind fun p_60 => (pTup (.pv p_60)).bind fun ps_61 => (ps_61[0]?).bind fun p_62 => (pTup (.pv p_60)).bind fun ps_63 => (ps_63[1]?).bind fun p_64 => some (.ret (.pv (.tup [p_34, p_62, p_64, (PV.v (.int .i64 0))])), [])) (fun a_58 h_59 => some (.pan a_58, []))))))) (fun a_51 h_52 => some (.pan a_51, []))) none) none) (fun a_38 h_39 => some (.pan a_38, [])))) (fun a_30 h_31 => some (.pan a_30, []))))) (fun a_20 h_21 => some (.pan a_20, []))) (fun a_13 h_14 => some (.pan a_13, [])))) (fun a_9 h_10 => some (.pan a_9, [])))) (fun a_1 h_2 => some (.pan a_1, [])) := (ev_eq (fn := Tryz.f56) (by kernel_rfl) (by kernel_rfl) (by kernel_rfl) _ _).trans (by kernel_rfl)
noncomputable def B_capnpref05_Slice : Code := Tryz.f60.body.getD .skip
noncomputable def capnpref05_Slice_L0 (xs0 : List PV) (i1 : Int) (i2 : Int) (i3 : Int) (xs4 : List PV) (i5 : Int) : Option (Out × Heap) :=
  loopV (evW env ev iterW 36 60 0 (sub B_capnpref05_Slice [1, 1, 1, 0, 1, 0, 0])) (keepS env 60 0 0) (blockK 0 (seqK (evV env ev 36 60 0 (sub B_capnpref05_Slice [1, 1, 1, 1])) (finK env 60 Tryz.f60.results.toList 0))) ⟨ofL [(0, (.pv (.sl 1 xs0))), (1, (.pv (PV.v (.int .i64 i1)))), (2, (.pv (PV.v (.int .i64 i2)))), (3, (.pv (PV.v (.int .i64 i3)))), (10, (.slu 48 1 xs4)), (11, (.pv (PV.v (.int .i64 i5))))], []⟩
theorem capnpref05_Slice_L0_eq (xs0 : List PV) (i1 : Int) (i2 : Int) (i3 : Int) (xs4 : List PV) (i5 : Int) : capnpref05_Slice_L0 xs0 i1 i2 i3 xs4 i5 =
  cond (decide (i5 < i3)) (
  cond (decide (0 ≤ i1) && decide (i1 < (xs0.length : Int))) ((xs0[(i1).toNat]?).bind fun p_1 => (p_1.cells[0]?).bind fun p_2 => (pSl p_2).bind fun l_3 => cond ((decide (l_3.1 = 1) && decide (0 ≤ (IntKind.wrap .i64 (i2 + i5)))) && decide ((IntKind.wrap .i64 (i2 + i5)) < (l_3.2.length : Int))) ((l_3.2[(IntKind.wrap .i64 (i2 + i5)).toNat]?).bind fun p_4 => (p_4.cells[0]?).bind fun p_5 => cond ((decide (p_5.cells.length = 1) && p_5.cells.all PV.isCell) && true) (cond (roomy (xs4.length + 1) 8) (capnpref05_Slice_L0 xs0 i1 i2 i3 (xs4 ++ [p_5]) (IntKind.wrap .i64 (i5 + 1))) none) none) none) none) (
  some (.ret (.pv (.tup [(.sl 1 xs4), (PV.v (.bool true))])), [])) := (loopV_eq ..).trans (by kernel_rfl)
theorem capnpref05_Slice_eq (x0 : List PV) (x1 : Int) (x2 : Int) (x3 : Int) : ev 60 [(.pv (.sl 1 x0)), (.pv (PV.v (.int .i64 x1))), (.pv (PV.v (.int .i64 x2))), (.pv (PV.v (.int .i64 x3)))] [] =
  callT (ev 86 [(.pv (.sl 1 x0)), (.pv (PV.v (.int .i64 x1))), (.pv (PV.v (.int .i64 x2))), (.pv (PV.v (.int .i64 x3)))] []) (fun a_1 h_2 => (onlyPV a_1).bind fun p_3 => (pBool (.pv p_3)).bind fun b_4 => cond (!b_4) (
  some (.ret (.pv (.tup [(.sl 1 []), (PV.v (.bool false))])), [])) (
  capnpref05_Slice_L0 x0 x1 x2 x3 [] 0)) (fun a_1 h_2 => some (.pan a_1, [])) := (ev_eq (fn := Tryz.f60) (by kernel_rfl) (by kernel_rfl) (by kernel_rfl) _ _).trans (by kernel_rfl)
noncomputable def B_capnpref06_Trim : Code := Tryz.f61.body.getD .skip
noncomputable def capnpref06_Trim_L0 (i0 : Int) (i1 : Int) (xs2 : List PV) (xs3 : List PV) (i4 : Int) : Option (Out × Heap) :=
  loopV (evW env ev iterW 54 61 0 (sub B_capnpref06_Trim [1, 1, 0, 1, 0, 0])) (keepS env 61 0 0) (blockK 0 (seqK (evV env ev 54 61 0 (sub B_capnpref06_Trim [1, 1, 1])) (finK env 61 Tryz.f61.results.toList 0))) ⟨ofL [(0, (.pv (PV.v (.int .i64 i0)))), (1, (.pv (PV.v (.int .i64 i1)))), (2, (.pv (.sl 1 xs2))), (7, (.slu 5 1 xs3)), (8, (.pv (PV.v (.int .i64 i4))))], []⟩
noncomputable def capnpref06_Trim_L2 (i0 : Int) (i1 : Int) (xs2 : List PV) (xs3 : List PV) (i4 : Int) (p5 : PV) (i6 : Int) (i7 : Int) (i8 : Int) : Option (Out × Heap) :=
  loopV (evW env ev iterW 54 61 2 (sub B_capnpref06_Trim [1, 1, 0, 1, 0, 0, 1, 0, 0, 1, 0, 1, 0, 1, 1, 0, 1, 0, 0])) (keepS env 61 2 0) (blockK 2 (seqK (evV env ev 54 61 1 (sub B_capnpref06_Trim [1, 1, 0, 1, 0, 0, 1, 0, 0, 1, 0, 1, 0, 1, 1, 1])) (seqK (evV env ev 54 61 1 (sub B_capnpref06_Trim [1, 1, 0, 1, 0, 0, 1, 0, 0, 1, 1])) (blockK 1 (seqK (evV env ev 54 61 0 (sub B_capnpref06_Trim [1, 1, 0, 1, 0, 0, 1, 1])) (roundV (evW env ev iterW 54 61 0 (sub B_capnpref06_Trim [1, 1, 0, 1, 0, 0])) (keepS env 61 0 0) (blockK 0 (seqK (evV env ev 54 61 0 (sub B_capnpref06_Trim [1, 1, 1])) (finK env 61 Tryz.f61.results.toList 0))))))))) ⟨ofL [(0, (.pv (PV.v (.int .i64 i0)))), (1, (.pv (PV.v (.int .i64 i1)))), (2, (.pv (.sl 1 xs2))), (7, (.slu 5 1 xs3)), (8, (.pv (PV.v (.int .i64 i4)))), (9, (.pv p5)), (10, (.pv (PV.v (.int .i64 i6)))), (11, (.pv (PV.v (.int .i64 i7)))), (12, (.pv (PV.v (.int .i64 i8))))], []⟩
theorem capnpref06_Trim_L0_eq (i0 : Int) (i1 : Int) (xs2 : List PV) (xs3 : List PV) (i4 : Int) : capnpref06_Trim_L0 i0 i1 xs2 xs3 i4 =
  callT (ev 68 [(.pv (PV.v (.int .i64 i0))), (.pv (PV.v (.int .i64 i1)))] []) (fun a_1 h_2 => (onlyPV a_1).bind fun p_3 => (pIntK .i64 (.pv p_3)).bind fun n_4 => cond (decide (i4 < n_4)) (
  cond (decide (0 ≤ i4) && decide (i4 < (xs2.length : Int))) ((xs2[(i4).toNat]?).bind fun p_5 => (p_5.cells[0]?).bind fun p_6 => cond (i0 == 1) (
  cond (decide ((IntKind.wrap .i64 ((IntKind.wrap .i64 (8 * i4)) + 8)) > i1)) (
  capnpref06_Trim_L2 i0 i1 xs2 xs3 i4 p_6 (IntKind.wrap .i64 (i1 - (IntKind.wrap .i64 (8 * i4)))) 1 0) (
  cond ((decide (p_6.cells.length = 1) && p_6.cells.all PV.isCell) && true) (cond (roomy (xs3.length + 1) 1) (capnpref06_Trim_L0 i0 i1 xs2 (xs3 ++ [p_6]) (IntKind.wrap .i64 (i4 + 1))) none) none)) (
  cond ((decide (p_6.cells.length = 1) && p_6.cells.all PV.isCell) && true) (cond (roomy (xs3.length + 1) 1) (capnpref06_Trim_L0 i0 i1 xs2 (xs3 ++ [p_6]) (IntKind.wrap .i64 (i4 + 1))) none) none)) none) (
  some (.ret (.pv (.sl 1 xs3)), []))) (fun a_1 h_2 => some (.pan a_1, [])) := (loopV_eq ..).trans (by kernel_rfl)
theorem capnpref06_Trim_L2_eq (i0 : Int) (i1 : Int) (xs2 : List PV) (xs3 : List PV) (i4 : Int) (p5 : PV) (i6 : Int) (i7 : Int) (i8 : Int) : capnpref06_Trim_L2 i0 i1 xs2 xs3 i4 p5 i6 i7 i8 =
  cond (decide (i8 < i6)) (
  capnpref06_Trim_L2 i0 i1 xs2 xs3 i4 p5 i6 (IntKind.wrap .i64 (i7 * 2)) (IntKind.wrap .i64 (i8 + 1))) (
  (pInt (.pv p5)).bind fun q_1 => cond (okBin .rem i7) (cond (roomy (xs3.length + 1) 1) (capnpref06_Trim_L0 i0 i1 xs2 (xs3 ++ [(PV.v (.int .u8 (IntKind.wrap .u8 (Int.tmod (IntKind.wrap .i64 q_1.2) i7))))]) (IntKind.wrap .i64 (i4 + 1))) none) none) := (loopV_eq ..).trans (by kernel_rfl)
theorem capnpref06_Trim_eq (x0 : Int) (x1 : Int) (x2 : List PV) : ev 61 [(.pv (PV.v (.int .i64 x0))), (.pv (PV.v (.int .i64 x1))), (.pv (.sl 1 x2))] [] =
  capnpref06_Trim_L0 x0 x1 x2 [] 0 := (ev_eq (fn := Tryz.f61) (by kernel_rfl) (by kernel_rfl) (by kernel_rfl) _ _).trans (by kernel_rfl)
theorem canonsize_Node_eq (x0_0 : Int) (x0_1 : Int) (x0_2 : Int) (x0_3 : List PV) (x0_4 : List PV) : ev 67 [(.pv (.agg [(PV.v (.int .i64 x0_0)), (PV.v (.int .i64 x0_1)), (PV.v (.int .i64 x0_2)), (.sl 1 x0_3), (.sl 5 x0_4)]))] [] =
  callT (ev 88 [(.pv (.agg [(PV.v (.int .i64 x0_0)), (PV.v (.int .i64 x0_1)), (PV.v (.int .i64 x0_2)), (.sl 1 x0_3), (.sl 5 x0_4)])), (.ptr 0 0), (.ptr 1 0)] [[(.pv (PV.v (.int .i64 0)))], [(.clo (.func 88) [] [(.ptr 0 0), (.ptr 1 0)])]]) (fun a_1 h_2 => (h_2[0]?).bind fun c_3 => (c_3[0]?).bind fun e_4 => (onlyPV e_4).bind fun p_5 => cond (decide (c_3.length = 1)) ((h_2[1]?).bind fun c_6 => (c_6[0]?).bind fun e_7 => cond (sameClo (.func 88) [] [(.ptr 0 0), (.ptr 1 0)] e_7) (cond (decide (c_6.length = 1)) (cond (decide (h_2.length = 2)) ((onlyPV a_1).bind fun p_8 => some (.ret (.pv p_5), [])) none) none) none) none) (fun a_1 h_2 => (h_2[0]?).bind fun c_3 => (c_3[0]?).bind fun e_4 => (onlyPV e_4).bind fun p_5 => cond (decide (c_3.length = 1)) ((h_2[1]?).bind fun c_6 => (c_6[0]?).bind fun e_7 => cond (sameClo (.func 88) [] [(.ptr 0 0), (.ptr 1 0)] e_7) (cond (decide (c_6.length = 1)) (cond (decide (h_2.length = 2)) (some (.pan a_1, [])) none) none) none) none) := (ev_eq (fn := Tryz.f67) (by kernel_rfl) (by kernel_rfl) (by kernel_rfl) _ _).trans (by kernel_rfl)
noncomputable def B_word_Bytes : Code := Tryz.f71.body.getD .skip
noncomputable def word_Bytes_L0 (xs0 : List PV) (xs1 : List PV) (i2 : Int) (i3 : Int) : Option (Out × Heap) :=
  loopV (evW env ev iterW 32 71 0 (sub B_word_Bytes [1, 1, 0, 1, 0, 0])) (keepS env 71 0 0) (blockK 0 (seqK (evV env ev 32 71 0 (sub B_word_Bytes [1, 1, 1])) (finK env 71 Tryz.f71.results.toList 0))) ⟨ofL [(3, (.slu 5 1 xs0)), (11, (.pv (.sl 1 xs1))), (12, (.pv (PV.v (.int .i64 i2)))), (13, (.pv (PV.v (.int .i64 i3))))], []⟩
noncomputable def word_Bytes_L2 (xs0 : List PV) (p1 : PV) (xs2 : List PV) (i3 : Int) (i4 : Int) (i5 : Int) : Option (Out × Heap) :=
  loopV (evW env ev iterW 32 71 2 (sub B_word_Bytes [1, 1, 0, 1, 0, 0, 1, 1, 0, 0, 1, 1, 0, 0])) (keepS env 71 2 0) (blockK 2 (blockK 1 (seqK (evV env ev 32 71 0 (sub B_word_Bytes [1, 1, 0, 1, 0, 0, 1, 1, 1])) (roundV (evW env ev iterW 32 71 0 (sub B_word_Bytes [1, 1, 0, 1, 0, 0])) (keepS env 71 0 0) (blockK 0 (seqK (evV env ev 32 71 0 (sub B_word_Bytes [1, 1, 1])) (finK env 71 Tryz.f71.results.toList 0))))))) ⟨ofL [(3, (.slu 5 1 xs0)), (5, (.pv p1)), (11, (.pv (.sl 1 xs2))), (12, (.pv (PV.v (.int .i64 i3)))), (13, (.pv (PV.v (.int .i64 i4)))), (17, (.pv (PV.v (.int .i64 i5))))], []⟩
theorem word_Bytes_L0_eq (xs0 : List PV) (xs1 : List PV) (i2 : Int) (i3 : Int) : word_Bytes_L0 xs0 xs1 i2 i3 =
  cond (decide (i3 < i2)) (
  cond (decide (0 ≤ i3) && decide (i3 < (xs1.length : Int))) ((xs1[(i3).toNat]?).bind fun p_1 => (p_1.cells[0]?).bind fun p_2 => word_Bytes_L2 xs0 p_2 xs1 i2 i3 0) none) (
  some (.ret (.pv (.sl 1 xs0)), [])) := (loopV_eq ..).trans (by kernel_rfl)
theorem word_Bytes_L2_eq (xs0 : List PV) (p1 : PV) (xs2 : List PV) (i3 : Int) (i4 : Int) (i5 : Int) : word_Bytes_L2 xs0 p1 xs2 i3 i4 i5 =
  cond (decide (i5 < 8)) (
  (pIntK .u64 (.pv p1)).bind fun n_1 => cond (okBin .shr (IntKind.wrap .u64 (IntKind.wrap .i64 (8 * i5)))) (cond (roomy (xs0.length + 1) 1) (word_Bytes_L2 (xs0 ++ [(PV.v (.int .u8 (IntKind.wrap .u8 (Int.fdiv n_1 (2 ^ (min (IntKind.wrap .u64 (IntKind.wrap .i64 (8 * i5))).toNat 64))))))]) p1 xs2 i3 i4 (IntKind.wrap .i64 (i5 + 1))) none) none) (
  word_Bytes_L0 xs0 xs2 i3 (IntKind.wrap .i64 (i4 + 1))) := (loopV_eq ..).trans (by kernel_rfl)
theorem word_Bytes_eq (x0 : List PV) : ev 71 [(.pv (.sl 1 x0))] [] =
  cond ((decide (0 ≤ (IntKind.wrap .i64 (8 * (x0.length : Int)))) && decide ((IntKind.wrap .i64 (8 * (x0.length : Int))) ≤ 140737488355328)) && roomy (IntKind.wrap .i64 (8 * (x0.length : Int))).toNat 1) (word_Bytes_L0 [] x0 (x0.length : Int) 0) none := (ev_eq (fn := Tryz.f71) (by kernel_rfl) (by kernel_rfl) (by kernel_rfl) _ _).trans (by kernel_rfl)
theorem canonwrite_writer_structure_eq (x0__0 : List PV) (x1_0 : Int) (x1_1 : Int) (x1_2 : Int) (x1_3 : List PV) (x1_4 : List PV) : ev 76 [(.ptr 0 0), (.pv (.agg [(PV.v (.int .i64 x1_0)), (PV.v (.int .i64 x1_1)), (PV.v (.int .i64 x1_2)), (.sl 1 x1_3), (.sl 5 x1_4)]))] [[(.slu 48 1 x0__0)]] =
  callT (ev 96 [(.ptr 0 0), (.pv (.sl 1 x1_3)), (.pv (PV.v (.int .i64 (IntKind.wrap .i64 (Int.tdiv (x1_3.length : Int) 8)))))] [[(.slu 48 1 x0__0)]]) (fun a_1 h_2 => (h_2[0]?).bind fun c_3 => (c_3[0]?).bind fun e_4 => (pSlu 48 1 e_4).bind fun xs_5 => cond (decide (c_3.length = 1)) (cond (decide (h_2.length = 1)) ((onlyPV a_1).bind fun p_6 => callT (ev 95 [(.ptr 0 0), (.pv (PV.v (.int .i64 (x1_4.length : Int))))] [[(.slu 48 1 xs_5)]]) (fun a_7 h_8 => (h_8[0]?).bind fun c_9 => (c_9[0]?).bind fun e_10 => (pSlu 48 1 e_10).bind fun xs_11 => cond (decide (c_9.length = 1)) (cond (decide (h_8.length = 1)) ((onlyPV a_7).bind fun p_12 => cond ((decide (p_12.cells.length = 1) && p_12.cells.all PV.isCell) && true) (some (.ret (.pv (.tup [(.agg [(PV.v (.int .i64 0)), (PV.v (.int .i64 0)), (PV.v (.int .i64 (IntKind.wrap .i64 (Int.tdiv (x1_3.length : Int) 8)))), (PV.v (.int .i64 (x1_4.length : Int))), (PV.v (.int .i64 0)), (PV.v (.int .i64 0)), (PV.v (.bool false)), (PV.v (.int .i64 0)), (PV.v (.int .u32 0)), (PV.v (.int .u32 0))]), (.sl 1 [p_12])])), [[(.slu 48 1 xs_11)]])) none) none) none) (fun a_7 h_8 => (h_8[0]?).bind fun c_9 => (c_9[0]?).bind fun e_10 => (pSlu 48 1 e_10).bind fun xs_11 => cond (decide (c_9.length = 1)) (cond (decide (h_8.length = 1)) (some (.pan a_7, [[(.slu 48 1 xs_11)]])) none) none)) none) none) (fun a_1 h_2 => (h_2[0]?).bind fun c_3 => (c_3[0]?).bind fun e_4 => (pSlu 48 1 e_4).bind fun xs_5 => cond (decide (c_3.length = 1)) (cond (decide (h_2.length = 1)) (some (.pan a_1, [[(.slu 48 1 xs_5)]])) none) none) := (ev_eq (fn := Tryz.f76) (by kernel_rfl) (by kernel_rfl) (by kernel_rfl) _ _).trans (by kernel_rfl)
theorem pointer_Encode_eq (x0_0 : Int) (x0_1 : Int) (x0_2 : Int) (x0_3 : Int) (x0_4 : Int) (x0_5 : Int) (x0_6 : Bool) (x0_7 : Int) (x0_8 : Int) (x0_9 : Int) : ev 78 [(.pv (.agg [(PV.v (.int .i64 x0_0)), (PV.v (.int .i64 x0_1)), (PV.v (.int .i64 x0_2)), (PV.v (.int .i64 x0_3)), (PV.v (.int .i64 x0_4)), (PV.v (.int .i64 x0_5)), (PV.v (.bool x0_6)), (PV.v (.int .i64 x0_7)), (PV.v (.int .u32 x0_8)), (PV.v (.int .u32 x0_9))]))] [] =
  callT (ev 98 [(.pv (.agg [(PV.v (.int .i64 x0_0)), (PV.v (.int .i64 x0_1)), (PV.v (.int .i64 x0_2)), (PV.v (.int .i64 x0_3)), (PV.v (.int .i64 x0_4)), (PV.v (.int .i64 x0_5)), (PV.v (.bool x0_6)), (PV.v (.int .i64 x0_7)), (PV.v (.int .u32 x0_8)), (PV.v (.int .u32 x0_9))]))] []) (fun a_1 h_2 => (onlyPV a_1).bind fun p_3 => (pBool (.pv p_3)).bind fun b_4 => cond (!b_4) (
  some (.ret (.pv (.tup [(PV.v (.int .u64 0)), (PV.v (.bool false))])), [])) (
  callT (ev 99 [(.pv (.agg [(PV.v (.int .i64 x0_0)), (PV.v (.int .i64 x0_1)), (PV.v (.int .i64 x0_2)), (PV.v (.int .i64 x0_3)), (PV.v (.int .i64 x0_4)), (PV.v (.int .i64 x0_5)), (PV.v (.bool x0_6)), (PV.v (.int .i64 x0_7)), (PV.v (.int .u32 x0_8)), (PV.v (.int .u32 x0_9))]))] []) (fun a_5 h_6 => (onlyPV a_5).bind fun p_7 => some (.ret (.pv (.tup [p_7, (PV.v (.bool true))])), [])) (fun a_5 h_6 => some (.pan a_5, [])))) (fun a_1 h_2 => some (.pan a_1, [])) := (ev_eq (fn := Tryz.f78) (by kernel_rfl) (by kernel_rfl) (by kernel_rfl) _ _).trans (by kernel_rfl)
theorem capnpref02_Encode_eq (x0_0 : Int) (x0_1 : Int) (x0_2 : Int) (x0_3 : Int) (x0_4 : Int) (x0_5 : Int) (x0_6 : Bool) (x0_7 : Int) (x0_8 : Int) (x0_9 : Int) : ev 80 [(.pv (.agg [(PV.v (.int .i64 x0_0)), (PV.v (.int .i64 x0_1)), (PV.v (.int .i64 x0_2)), (PV.v (.int .i64 x0_3)), (PV.v (.int .i64 x0_4)), (PV.v (.int .i64 x0_5)), (PV.v (.bool x0_6)), (PV.v (.int .i64 x0_7)), (PV.v (.int .u32 x0_8)), (PV.v (.int .u32 x0_9))]))] [] =
  callT (ev 101 [(.pv (.agg [(PV.v (.int .i64 x0_0)), (PV.v (.int .i64 x0_1)), (PV.v (.int .i64 x0_2)), (PV.v (.int .i64 x0_3)), (PV.v (.int .i64 x0_4)), (PV.v (.int .i64 x0_5)), (PV.v (.bool x0_6)), (PV.v (.int .i64 x0_7)), (PV.v (.int .u32 x0_8)), (PV.v (.int .u32 x0_9))]))] []) (fun a_1 h_2 => (onlyPV a_1).bind fun p_3 => (pBool (.pv p_3)).bind fun b_4 => cond (!b_4) (
  some (.ret (.pv (.tup [(PV.v (.int .u64 0)), (PV.v (.bool false))])), [])) (
  cond (decide (x0_1 < 0)) (
    cond (x0_0 == 0) (
    some (.ret (.pv (.tup [(PV.v (.int .u64 (IntKind.wrap .u64 ((IntKind.wrap .u64 ((IntKind.wrap .u64 ((IntKind.wrap .u64 x0_0) + (IntKind.wrap .u64 (4 * (IntKind.wrap .u64 (IntKind.wrap .i64 (x0_1 + 1073741824))))))) + (IntKind.wrap .u64 (4294967296 * (IntKind.wrap .u64 x0_2))))) + (IntKind.wrap .u64 (281474976710656 * (IntKind.wrap .u64 x0_3))))))), (PV.v (.bool true))])), [])) (
    cond (x0_0 == 1) (
      some (.ret (.pv (.tup [(PV.v (.int .u64 (IntKind.wrap .u64 ((IntKind.wrap .u64 ((IntKind.wrap .u64 ((IntKind.wrap .u64 x0_0) + (IntKind.wrap .u64 (4 * (IntKind.wrap .u64 (IntKind.wrap .i64 (x0_1 + 1073741824))))))) + (IntKind.wrap .u64 (4294967296 * (IntKind.wrap .u64 x0_4))))) + (IntKind.wrap .u64 (34359738368 * (IntKind.wrap .u64 x0_5))))))), (PV.v (.bool true))])), [])) (
      cond (x0_0 == 2) (
        cond x0_6 (
        some (.ret (.pv (.tup [(PV.v (.int .u64 (IntKind.wrap .u64 ((IntKind.wrap .u64 ((IntKind.wrap .u64 ((IntKind.wrap .u64 x0_0) + 4)) + (IntKind.wrap .u64 (8 * (IntKind.wrap .u64 x0_7))))) + (IntKind.wrap .u64 (4294967296 * (IntKind.wrap .u64 x0_8))))))), (PV.v (.bool true))])), [])) (
        some (.ret (.pv (.tup [(PV.v (.int .u64 (IntKind.wrap .u64 ((IntKind.wrap .u64 ((IntKind.wrap .u64 x0_0) + (IntKind.wrap .u64 (8 * (IntKind.wrap .u64 x0_7))))) + (IntKind.wrap .u64 (4294967296 * (IntKind.wrap .u64 x0_8))))))), (PV.v (.bool true))])), []))) (
        some (.ret (.pv (.tup [(PV.v (.int .u64 (IntKind.wrap .u64 ((IntKind.wrap .u64 ((IntKind.wrap .u64 x0_0) + (IntKind.wrap .u64 (4 * (IntKind.wrap .u64 x0_9))))) + (IntKind.wrap .u64 (4294967296 * (IntKind.wrap .u64 x0_8))))))), (PV.v (.bool true))])), []))))) (
    cond (x0_0 == 0) (
      some (.ret (.pv (.tup [(PV.v (.int .u64 (IntKind.wrap .u64 ((IntKind.wrap .u64 ((IntKind.wrap .u64 ((IntKind.wrap .u64 x0_0) + (IntKind.wrap .u64 (4 * (IntKind.wrap .u64 x0_1))))) + (IntKind.wrap .u64 (4294967296 * (IntKind.wrap .u64 x0_2))))) + (IntKind.wrap .u64 (281474976710656 * (IntKind.wrap .u64 x0_3))))))), (PV.v (.bool true))])), [])) (
      cond (x0_0 == 1) (
        some (.ret (.pv (.tup [(PV.v (.int .u64 (IntKind.wrap .u64 ((IntKind.wrap .u64 ((IntKind.wrap .u64 ((IntKind.wrap .u64 x0_0) + (IntKind.wrap .u64 (4 * (IntKind.wrap .u64 x0_1))))) + (IntKind.wrap .u64 (4294967296 * (IntKind.wrap .u64 x0_4))))) + (IntKind.wrap .u64 (34359738368 * (IntKind.wrap .u64 x0_5))))))), (PV.v (.bool true))])), [])) (
        cond (x0_0 == 2) (
          cond x0_6 (
          some (.ret (.pv (.tup [(PV.v (.int .u64 (IntKind.wrap .u64 ((IntKind.wrap .u64 ((IntKind.wrap .u64 ((IntKind.wrap .u64 x0_0) + 4)) + (IntKind.wrap .u64 (8 * (IntKind.wrap .u64 x0_7))))) + (IntKind.wrap .u64 (4294967296 * (IntKind.wrap .u64 x0_8))))))), (PV.v (.bool true))])), [])) (
          some (.ret (.pv (.tup [(PV.v (.int .u64 (IntKind.wrap .u64 ((IntKind.wrap .u64 ((IntKind.wrap .u64 x0_0) + (IntKind.wrap .u64 (8 * (IntKind.wrap .u64 x0_7))))) + (IntKind.wrap .u64 (4294967296 * (IntKind.wrap .u64 x0_8))))))), (PV.v (.bool true))])), []))) (
          some (.ret (.pv (.tup [(PV.v (.int .u64 (IntKind.wrap .u64 ((IntKind.wrap .u64 ((IntKind.wrap .u64 x0_0) + (IntKind.wrap .u64 (4 * (IntKind.wrap .u64 x0_9))))) + (IntKind.wrap .u64 (4294967296 * (IntKind.wrap .u64 x0_8))))))), (PV.v (.bool true))])), []))))))) (fun a_1 h_2 => some (.pan a_1, [])) := (ev_eq (fn := Tryz.f80) (by kernel_rfl) (by kernel_rfl) (by kernel_rfl) _ _).trans (by kernel_rfl)
theorem capnpref05_InBounds_eq (x0 : List PV) (x1 : Int) (x2 : Int) (x3 : Int) : ev 86 [(.pv (.sl 1 x0)), (.pv (PV.v (.int .i64 x1))), (.pv (PV.v (.int .i64 x2))), (.pv (PV.v (.int .i64 x3)))] [] =
  cond (decide (x1 < 0)) (
  some (.ret (.pv (PV.v (.bool false))), [])) (
  cond (decide (x1 ≥ (x0.length : Int))) (
    some (.ret (.pv (PV.v (.bool false))), [])) (
    cond (decide (x2 < 0)) (
      some (.ret (.pv (PV.v (.bool false))), [])) (
      cond (decide (x3 < 0)) (
        some (.ret (.pv (PV.v (.bool false))), [])) (
        cond (decide (0 ≤ x1) && decide (x1 < (x0.length : Int))) ((x0[(x1).toNat]?).bind fun p_1 => (p_1.cells[0]?).bind fun p_2 => (pSl p_2).bind fun l_3 => cond (decide (x2 ≤ (l_3.2.length : Int))) (
          some (.ret (.pv (PV.v (.bool (decide (x3 ≤ (IntKind.wrap .i64 ((l_3.2.length : Int) - x2))))))), [])) (
          some (.ret (.pv (PV.v (.bool false))), []))) none)))) := (ev_eq (fn := Tryz.f86) (by kernel_rfl) (by kernel_rfl) (by kernel_rfl) _ _).trans (by kernel_rfl)
noncomputable def B_canonsize_Node_1 : Code := Tryz.f88.body.getD .skip
noncomputable def canonsize_Node_1_L0 (xs0 : List PV) (i1 : Int) (i2 : Int) (p3 : PV) (i4 : Int) (i5 : Int) (i6 : Int) (xs7 : List PV) (xs8 : List PV) : Option (Out × Heap) :=
  loopV (evW env ev iterW 37 88 0 (sub B_canonsize_Node_1 [1, 1, 1, 0, 0])) (keepS env 88 0 3) (blockK 0 (finK env 88 Tryz.f88.results.toList 2)) ⟨ofL [(2, (.ptr 1 0)), (3, (.ptr 2 0)), (13, (.pv (.sl 5 xs0))), (14, (.pv (PV.v (.int .i64 i1)))), (15, (.pv (PV.v (.int .i64 i2))))], [[(.pv p3)], [(.clo (.func 88) [] [(.ptr 0 0), (.ptr 1 0)])], [(.pv (PV.v (.int .i64 i4))), (.pv (PV.v (.int .i64 i5))), (.pv (PV.v (.int .i64 i6))), (.pv (.sl 1 xs7)), (.pv (.sl 5 xs8))]]⟩
noncomputable def canonsize_Node_1_L2 (xs0 : List PV) (i1 : Int) (i2 : Int) (p3 : PV) (i4 : Int) (i5 : Int) (p6 : PV) (i7 : Int) (i8 : Int) (i9 : Int) (xs10 : List PV) (xs11 : List PV) (p12 : PV) (p13 : PV) (p14 : PV) (p15 : PV) (p16 : PV) : Option (Out × Heap) :=
  loopV (evW env ev iterW 37 88 2 (sub B_canonsize_Node_1 [1, 1, 1, 0, 0, 1, 1, 0, 0, 1, 1, 1, 0, 0])) (keepS env 88 2 4) (blockK 2 (blockK 1 (seqK (evV env ev 37 88 0 (sub B_canonsize_Node_1 [1, 1, 1, 0, 0, 1, 1, 1])) (roundV (evW env ev iterW 37 88 0 (sub B_canonsize_Node_1 [1, 1, 1, 0, 0])) (keepS env 88 0 3) (blockK 0 (finK env 88 Tryz.f88.results.toList 2)))))) ⟨ofL [(2, (.ptr 1 0)), (3, (.ptr 2 0)), (13, (.pv (.sl 5 xs0))), (14, (.pv (PV.v (.int .i64 i1)))), (15, (.pv (PV.v (.int .i64 i2)))), (26, (.pv p3)), (27, (.pv (PV.v (.int .i64 i4)))), (28, (.pv (PV.v (.int .i64 i5))))], [[(.pv p6)], [(.clo (.func 88) [] [(.ptr 0 0), (.ptr 1 0)])], [(.pv (PV.v (.int .i64 i7))), (.pv (PV.v (.int .i64 i8))), (.pv (PV.v (.int .i64 i9))), (.pv (.sl 1 xs10)), (.pv (.sl 5 xs11))], [(.pv p12), (.pv p13), (.pv p14), (.pv p15), (.pv p16)]]⟩
theorem canonsize_Node_1_L0_eq (xs0 : List PV) (i1 : Int) (i2 : Int) (p3 : PV) (i4 : Int) (i5 : Int) (i6 : Int) (xs7 : List PV) (xs8 : List PV) : canonsize_Node_1_L0 xs0 i1 i2 p3 i4 i5 i6 xs7 xs8 =
  cond (decide (i2 < i1)) (
  cond (decide (0 ≤ i2) && decide (i2 < (xs0.length : Int))) ((xs0[(i2).toNat]?).bind fun p_1 => cond (decide (5 ≤ p_1.cells.length)) (cond (decide (((p_1.cells.drop 0).take 5).length = 5)) ((((p_1.cells.drop 0).take 5)[0]?).bind fun p_2 => (((p_1.cells.drop 0).take 5)[1]?).bind fun p_3 => (((p_1.cells.drop 0).take 5)[2]?).bind fun p_4 => (((p_1.cells.drop 0).take 5)[3]?).bind fun p_5 => (((p_1.cells.drop 0).take 5)[4]?).bind fun p_6 => cond (p_2.isCell && (p_3.isCell && (p_4.isCell && (p_5.isCell && (p_6.isCell && true))))) (cond (i5 != 7) (
  callT (ev 88 [(.pv (.agg [p_2, p_3, p_4, p_5, p_6])), (.ptr 0 0), (.ptr 1 0)] [[(.pv p3)], [(.clo (.func 88) [] [(.ptr 0 0), (.ptr 1 0)])]]) (fun a_7 h_8 => (h_8[0]?).bind fun c_9 => (c_9[0]?).bind fun e_10 => (onlyPV e_10).bind fun p_11 => cond (decide (c_9.length = 1)) ((h_8[1]?).bind fun c_12 => (c_12[0]?).bind fun e_13 => cond (sameClo (.func 88) [] [(.ptr 0 0), (.ptr 1 0)] e_13) (cond (decide (c_12.length = 1)) (cond (decide (h_8.length = 2)) ((onlyPV a_7).bind fun p_14 => canonsize_Node_1_L0 xs0 i1 (IntKind.wrap .i64 (i2 + 1)) p_11 i4 i5 i6 xs7 xs8) none) none) none) none) (fun a_7 h_8 => (h_8[0]?).bind fun c_9 => (c_9[0]?).bind fun e_10 => (onlyPV e_10).bind fun p_11 => cond (decide (c_9.length = 1)) ((h_8[1]?).bind fun c_12 => (c_12[0]?).bind fun e_13 => cond (sameClo (.func 88) [] [(.ptr 0 0), (.ptr 1 0)] e_13) (cond (decide (c_12.length = 1)) (cond (decide (h_8.length = 2)) (some (.pan a_7, [[(.pv p_11)], [(.clo (.func 88) [] [(.ptr 0 0), (.ptr 1 0)])]])) none) none) none) none)) (
  (pSl p_6).bind fun l_7 => canonsize_Node_1_L2 xs0 i1 i2 p_6 (l_7.2.length : Int) 0 p3 i4 i5 i6 xs7 xs8 p_2 p_3 p_4 p_5 p_6)) none) none) none) none) (
  some (.ret (.pv (.tup [])), [[(.pv p3)], [(.clo (.func 88) [] [(.ptr 0 0), (.ptr 1 0)])]])) := (loopV_eq ..).trans (by kernel_rfl)
theorem canonsize_Node_1_L2_eq (xs0 : List PV) (i1 : Int) (i2 : Int) (p3 : PV) (i4 : Int) (i5 : Int) (p6 : PV) (i7 : Int) (i8 : Int) (i9 : Int) (xs10 : List PV) (xs11 : List PV) (p12 : PV) (p13 : PV) (p14 : PV) (p15 : PV) (p16 : PV) : canonsize_Node_1_L2 xs0 i1 i2 p3 i4 i5 p6 i7 i8 i9 xs10 xs11 p12 p13 p14 p15 p16 =
  cond (decide (i5 < i4)) (
  (pSl p3).bind fun l_1 => cond ((decide (l_1.1 = 5) && decide (0 ≤ i5)) && decide (i5 < (l_1.2.length : Int))) ((l_1.2[(i5).toNat]?).bind fun p_2 => cond (decide (5 ≤ p_2.cells.length)) (cond (decide (((p_2.cells.drop 0).take 5).length = 5)) ((((p_2.cells.drop 0).take 5)[0]?).bind fun p_3 => (((p_2.cells.drop 0).take 5)[1]?).bind fun p_4 => (((p_2.cells.drop 0).take 5)[2]?).bind fun p_5 => (((p_2.cells.drop 0).take 5)[3]?).bind fun p_6 => (((p_2.cells.drop 0).take 5)[4]?).bind fun p_7 => cond (p_3.isCell && (p_4.isCell && (p_5.isCell && (p_6.isCell && (p_7.isCell && true))))) (callT (ev 88 [(.pv (.agg [p_3, p_4, p_5, p_6, p_7])), (.ptr 0 0), (.ptr 1 0)] [[(.pv p6)], [(.clo (.func 88) [] [(.ptr 0 0), (.ptr 1 0)])]]) (fun a_8 h_9 => (h_9[0]?).bind fun c_10 => (c_10[0]?).bind fun e_11 => (onlyPV e_11).bind fun p_12 => cond (decide (c_10.length = 1)) ((h_9[1]?).bind fun c_13 => (c_13[0]?).bind fun e_14 => cond (sameClo (.func 88) [] [(.ptr 0 0), (.ptr 1 0)] e_14) (cond (decide (c_13.length = 1)) (cond (decide (h_9.length = 2)) ((onlyPV a_8).bind fun p_15 => canonsize_Node_1_L2 xs0 i1 i2 p3 i4 (IntKind.wrap .i64 (i5 + 1)) p_12 i7 i8 i9 xs10 xs11 p12 p13 p14 p15 p16) none) none) none) none) (fun a_8 h_9 => (h_9[0]?).bind fun c_10 => (c_10[0]?).bind fun e_11 => (onlyPV e_11).bind fun p_12 => cond (decide (c_10.length = 1)) ((h_9[1]?).bind fun c_13 => (c_13[0]?).bind fun e_14 => cond (sameClo (.func 88) [] [(.ptr 0 0), (.ptr 1 0)] e_14) (cond (decide (c_13.length = 1)) (cond (decide (h_9.length = 2)) (some (.pan a_8, [[(.pv p_12)], [(.clo (.func 88) [] [(.ptr 0 0), (.ptr 1 0)])]])) none) none) none) none)) none) none) none) none) (
  canonsize_Node_1_L0 xs0 i1 (IntKind.wrap .i64 (i2 + 1)) p6 i7 i8 i9 xs10 xs11) := (loopV_eq ..).trans (by kernel_rfl)
theorem canonsize_Node_1_eq (x0_0 : Int) (x0_1 : Int) (x0_2 : Int) (x0_3 : List PV) (x0_4 : List PV) (x1 : Int) : ev 88 [(.pv (.agg [(PV.v (.int .i64 x0_0)), (PV.v (.int .i64 x0_1)), (PV.v (.int .i64 x0_2)), (.sl 1 x0_3), (.sl 5 x0_4)])), (.ptr 0 0), (.ptr 1 0)] [[(.pv (PV.v (.int .i64 x1)))], [(.clo (.func 88) [] [(.ptr 0 0), (.ptr 1 0)])]] =
  callT (ev 89 [(.pv (.agg [(PV.v (.int .i64 x0_0)), (PV.v (.int .i64 x0_1)), (PV.v (.int .i64 x0_2)), (.sl 1 x0_3), (.sl 5 x0_4)]))] []) (fun a_1 h_2 => (onlyPV a_1).bind fun p_3 => (pIntK .i64 (.pv p_3)).bind fun n_4 => canonsize_Node_1_L0 x0_4 (x0_4.length : Int) 0 (PV.v (.int .i64 (IntKind.wrap .i64 (x1 + n_4)))) x0_0 x0_1 x0_2 x0_3 x0_4) (fun a_1 h_2 => some (.pan a_1, [[(.pv (PV.v (.int .i64 x1)))], [(.clo (.func 88) [] [(.ptr 0 0), (.ptr 1 0)])]])) := (ev_eq (fn := Tryz.f88) (by kernel_rfl) (by kernel_rfl) (by kernel_rfl) _ _).trans (by kernel_rfl)
theorem pointer_Valid_eq (x0_0 : Int) (x0_1 : Int) (x0_2 : Int) (x0_3 : Int) (x0_4 : Int) (x0_5 : Int) (x0_6 : Bool) (x0_7 : Int) (x0_8 : Int) (x0_9 : Int) : ev 98 [(.pv (.agg [(PV.v (.int .i64 x0_0)), (PV.v (.int .i64 x0_1)), (PV.v (.int .i64 x0_2)), (PV.v (.int .i64 x0_3)), (PV.v (.int .i64 x0_4)), (PV.v (.int .i64 x0_5)), (PV.v (.bool x0_6)), (PV.v (.int .i64 x0_7)), (PV.v (.int .u32 x0_8)), (PV.v (.int .u32 x0_9))]))] [] =
  cond (decide (x0_0 ≥ 0)) (
  cond (decide (x0_0 ≤ 3)) (
  callT (ev 99 [(.pv (.agg [(PV.v (.int .i64 x0_0)), (PV.v (.int .i64 x0_1)), (PV.v (.int .i64 x0_2)), (PV.v (.int .i64 x0_3)), (PV.v (.int .i64 x0_4)), (PV.v (.int .i64 x0_5)), (PV.v (.bool x0_6)), (PV.v (.int .i64 x0_7)), (PV.v (.int .u32 x0_8)), (PV.v (.int .u32 x0_9))]))] []) (fun a_1 h_2 => (onlyPV a_1).bind fun p_3 => callT (ev 118 [(.pv p_3)] []) (fun a_4 h_5 => (onlyPV a_4).bind fun p_6 => (aggOf (.pv p_6)).bind fun cs_7 => (eqCells [false, false, false, false, false, false, true, false, false, false] cs_7 [(PV.v (.int .i64 x0_0)), (PV.v (.int .i64 x0_1)), (PV.v (.int .i64 x0_2)), (PV.v (.int .i64 x0_3)), (PV.v (.int .i64 x0_4)), (PV.v (.int .i64 x0_5)), (PV.v (.bool x0_6)), (PV.v (.int .i64 x0_7)), (PV.v (.int .u32 x0_8)), (PV.v (.int .u32 x0_9))]).bind fun z_8 => some (.ret (.pv (PV.v (.bool z_8))), [])) (fun a_4 h_5 => none)) (fun a_1 h_2 => none)) (
  some (.ret (.pv (PV.v (.bool false))), []))) (
  some (.ret (.pv (PV.v (.bool false))), [])) := (ev_eq (fn := Tryz.f98) (by kernel_rfl) (by kernel_rfl) (by kernel_rfl) _ _).trans (by kernel_rfl)
theorem capnpref02_Valid_eq (x0_0 : Int) (x0_1 : Int) (x0_2 : Int) (x0_3 : Int) (x0_4 : Int) (x0_5 : Int) (x0_6 : Bool) (x0_7 : Int) (x0_8 : Int) (x0_9 : Int) : ev 101 [(.pv (.agg [(PV.v (.int .i64 x0_0)), (PV.v (.int .i64 x0_1)), (PV.v (.int .i64 x0_2)), (PV.v (.int .i64 x0_3)), (PV.v (.int .i64 x0_4)), (PV.v (.int .i64 x0_5)), (PV.v (.bool x0_6)), (PV.v (.int .i64 x0_7)), (PV.v (.int .u32 x0_8)), (PV.v (.int .u32 x0_9))]))] [] =
  cond (x0_0 == 0) (
  cond ((x0_0 == x0_0) && ((x0_1 == x0_1) && ((x0_2 == x0_2) && ((x0_3 == x0_3) && ((0 == x0_4) && ((0 == x0_5) && ((false == x0_6) && ((0 == x0_7) && ((0 == x0_8) && ((0 == x0_9) && true)))))))))) (
  callT (ev 121 [(.pv (PV.v (.int .i64 x0_1)))] []) (fun a_1 h_2 => (onlyPV a_1).bind fun p_3 => (pBool (.pv p_3)).bind fun b_4 => cond b_4 (
  cond (decide (x0_2 ≥ 0)) (
  cond (decide (x0_2 ≤ 65535)) (
  cond (decide (x0_3 ≥ 0)) (
  some (.ret (.pv (PV.v (.bool (decide (x0_3 ≤ 65535))))), [])) (
  some (.ret (.pv (PV.v (.bool false))), []))) (
  some (.ret (.pv (PV.v (.bool false))), []))) (
  some (.ret (.pv (PV.v (.bool false))), []))) (
  some (.ret (.pv (PV.v (.bool false))), []))) (fun a_1 h_2 => some (.pan a_1, []))) (
  some (.ret (.pv (PV.v (.bool false))), []))) (
  cond (x0_0 == 1) (
    cond ((x0_0 == x0_0) && ((x0_1 == x0_1) && ((0 == x0_2) && ((0 == x0_3) && ((x0_4 == x0_4) && ((x0_5 == x0_5) && ((false == x0_6) && ((0 == x0_7) && ((0 == x0_8) && ((0 == x0_9) && true)))))))))) (
    callT (ev 121 [(.pv (PV.v (.int .i64 x0_1)))] []) (fun a_1 h_2 => (onlyPV a_1).bind fun p_3 => (pBool (.pv p_3)).bind fun b_4 => cond b_4 (
    cond (decide (x0_4 ≥ 0)) (
    cond (decide (x0_4 ≤ 7)) (
    cond (decide (x0_5 ≥ 0)) (
    some (.ret (.pv (PV.v (.bool (decide (x0_5 ≤ 536870911))))), [])) (
    some (.ret (.pv (PV.v (.bool false))), []))) (
    some (.ret (.pv (PV.v (.bool false))), []))) (
    some (.ret (.pv (PV.v (.bool false))), []))) (
    some (.ret (.pv (PV.v (.bool false))), []))) (fun a_1 h_2 => some (.pan a_1, []))) (
    some (.ret (.pv (PV.v (.bool false))), []))) (
    cond (x0_0 == 2) (
      cond ((x0_0 == x0_0) && ((0 == x0_1) && ((0 == x0_2) && ((0 == x0_3) && ((0 == x0_4) && ((0 == x0_5) && ((x0_6 == x0_6) && ((x0_7 == x0_7) && ((x0_8 == x0_8) && ((0 == x0_9) && true)))))))))) (
      cond (decide (x0_7 ≥ 0)) (
      some (.ret (.pv (PV.v (.bool (decide (x0_7 ≤ 536870911))))), [])) (
      some (.ret (.pv (PV.v (.bool false))), []))) (
      some (.ret (.pv (PV.v (.bool false))), []))) (
      cond (x0_0 == 3) (
        cond ((x0_0 == x0_0) && ((0 == x0_1) && ((0 == x0_2) && ((0 == x0_3) && ((0 == x0_4) && ((0 == x0_5) && ((false == x0_6) && ((0 == x0_7) && ((x0_8 == x0_8) && ((x0_9 == x0_9) && true)))))))))) (
        some (.ret (.pv (PV.v (.bool (decide (x0_9 ≤ 1073741823))))), [])) (
        some (.ret (.pv (PV.v (.bool false))), []))) (
        some (.ret (.pv (PV.v (.bool false))), []))))) := (ev_eq (fn := Tryz.f101) (by kernel_rfl) (by kernel_rfl) (by kernel_rfl) _ _).trans (by kernel_rfl)
theorem far_Follow_eq (x0 : List PV) (x1 : Int) (x2 : Int) : ev 105 [(.pv (.sl 1 x0)), (.pv (PV.v (.int .i64 x1))), (.pv (PV.v (.int .i64 x2)))] [] =
  callT (ev 123 [(.pv (.sl 1 x0)), (.pv (PV.v (.int .i64 x1))), (.pv (PV.v (.int .i64 x2)))] []) (fun a_1 h_2 => (onlyPV a_1).bind fun p_3 => (pTup (.pv p_3)).bind fun ps_4 => (ps_4[0]?).bind fun p_5 => (pTup (.pv p_3)).bind fun ps_6 => (ps_6[1]?).bind fun p_7 => (pBool (.pv p_7)).bind fun b_8 => cond (!b_8) (
  some (.ret (.pv (.tup [(PV.v (.int .u64 0)), (PV.v (.int .i64 0)), (PV.v (.int .i64 0)), (PV.v (.int .i64 2))])), [])) (
  cond (p_5.isCell && true) (cond ((p_5.isCell && true) && true) (cond (p_5.isCell && true) (callT (ev 124 [(.pv p_5)] []) (fun a_9 h_10 => (onlyPV a_9).bind fun p_11 => (pBool (.pv p_11)).bind fun b_12 => cond b_12 (
    callT (ev 118 [(.pv p_5)] []) (fun a_13 h_14 => (onlyPV a_13).bind fun p_15 => (pAgg (.pv p_15)).bind fun cs_16 => (cs_16[6]?).bind fun p_17 => (pBool (.pv p_17)).bind fun b_18 => cond b_18 (
    callT (ev 126 [(.pv (.sl 1 x0)), (.pv p_5)] []) (fun a_19 h_20 => (onlyPV a_19).bind fun p_21 => (pTup (.pv p_21)).bind fun ps_22 => (ps_22[0]?).bind fun p_23 => (pTup (.pv p_21)).bind fun ps_24 => (ps_24[1]?).bind fun p_25 => cond (decide (p_23.cells.length = 3)) ((p_23.cells[0]?).bind fun p_26 => (p_23.cells[1]?).bind fun p_27 => (p_23.cells[2]?).bind fun p_28 => cond (p_26.isCell && (p_27.isCell && (p_28.isCell && true))) ((eqCells [false, false, false] [p_26, p_27, p_28] [(PV.v (.int .u64 0)), (PV.v (.int .i64 0)), (PV.v (.int .i64 0))]).bind fun z_29 => cond z_29 (
    (pIntK .i64 (.pv p_25)).bind fun n_30 => cond (n_30 != 0) (
    some (.ret (.pv (.tup [(PV.v (.int .u64 0)), (PV.v (.int .i64 0)), (PV.v (.int .i64 0)), p_25])), [])) (
    some (.ret (.pv (.tup [p_26, p_27, p_28, (PV.v (.int .i64 0))])), []))) (
    some (.ret (.pv (.tup [p_26, p_27, p_28, (PV.v (.int .i64 0))])), []))) none) none) (fun a_19 h_20 => some (.pan a_19, []))) (
    callT (ev 125 [(.pv (.sl 1 x0)), (.pv p_5)] []) (fun a_19 h_20 => (onlyPV a_19).bind fun p_21 => (pTup (.pv p_21)).bind fun ps_22 => (ps_22[0]?).bind fun p_23 => (pTup (.pv p_21)).bind fun ps_24 => (ps_24[1]?).bind fun p_25 => cond (decide (p_23.cells.length = 3)) ((p_23.cells[0]?).bind fun p_26 => (p_23.cells[1]?).bind fun p_27 => (p_23.cells[2]?).bind fun p_28 => cond (p_26.isCell && (p_27.isCell && (p_28.isCell && true))) ((eqCells [false, false, false] [p_26, p_27, p_28] [(PV.v (.int .u64 0)), (PV.v (.int .i64 0)), (PV.v (.int .i64 0))]).bind fun z_29 => cond z_29 (
      (pIntK .i64 (.pv p_25)).bind fun n_30 => cond (n_30 != 0) (
      some (.ret (.pv (.tup [(PV.v (.int .u64 0)), (PV.v (.int .i64 0)), (PV.v (.int .i64 0)), p_25])), [])) (
      some (.ret (.pv (.tup [p_26, p_27, p_28, (PV.v (.int .i64 0))])), []))) (
      some (.ret (.pv (.tup [p_26, p_27, p_28, (PV.v (.int .i64 0))])), []))) none) none) (fun a_19 h_20 => some (.pan a_19, [])))) (fun a_13 h_14 => some (.pan a_13, []))) (
    (eqCells [false, false, false] [p_5, (PV.v (.int .i64 x1)), (PV.v (.int .i64 (IntKind.wrap .i64 (x2 + 1))))] [(PV.v (.int .u64 0)), (PV.v (.int .i64 0)), (PV.v (.int .i64 0))]).bind fun z_13 => cond z_13 (
      some (.ret (.pv (.tup [p_5, (PV.v (.int .i64 x1)), (PV.v (.int .i64 (IntKind.wrap .i64 (x2 + 1)))), (PV.v (.int .i64 0))])), [])) (
      some (.ret (.pv (.tup [p_5, (PV.v (.int .i64 x1)), (PV.v (.int .i64 (IntKind.wrap .i64 (x2 + 1)))), (PV.v (.int .i64 0))])), [])))) (fun a_9 h_10 => some (.pan a_9, []))) none) none) none)) (fun a_1 h_2 => some (.pan a_1, [])) := (ev_eq (fn := Tryz.f105) (by kernel_rfl) (by kernel_rfl) (by kernel_rfl) _ _).trans (by kernel_rfl)
noncomputable def B_trim_kept_byte : Code := Tryz.f113.body.getD .skip
noncomputable def trim_kept_byte_L0 (xs0 : List PV) (i1 : Int) : Option (Out × Heap) :=
  loopV (evW env ev iterW 22 113 0 (sub B_trim_kept_byte [1, 1, 0, 0, 0])) (keepS env 113 0 0) (blockK 0 (seqK (evV env ev 22 113 0 (sub B_trim_kept_byte [1, 1, 1])) (finK env 113 Tryz.f113.results.toList 0))) ⟨ofL [(0, (.pv (.sl 1 xs0))), (1, (.pv (.v (.func (.func 114) #[] #[])))), (5, (.pv (PV.v (.int .i64 i1))))], []⟩
theorem trim_kept_byte_L0_eq (xs0 : List PV) (i1 : Int) : trim_kept_byte_L0 xs0 i1 =
  cond (decide (i1 > 0)) (
  cond (decide (0 ≤ (IntKind.wrap .i64 (i1 - 1))) && decide ((IntKind.wrap .i64 (i1 - 1)) < (xs0.length : Int))) ((xs0[(IntKind.wrap .i64 (i1 - 1)).toNat]?).bind fun p_1 => (p_1.cells[0]?).bind fun p_2 => callT (ev 114 [(.pv p_2)] []) (fun a_3 h_4 => (onlyPV a_3).bind fun p_5 => (pBool (.pv p_5)).bind fun b_6 => cond b_6 (
  trim_kept_byte_L0 xs0 (IntKind.wrap .i64 (i1 - 1))) (
  some (.ret (.pv (PV.v (.int .i64 i1))), []))) (fun a_3 h_4 => some (.pan a_3, []))) none) (
  some (.ret (.pv (PV.v (.int .i64 i1))), [])) := (loopV_eq ..).trans (by kernel_rfl)
theorem trim_kept_byte_eq (x0 : List PV) : ev 113 [(.pv (.sl 1 x0)), (.pv (.v (.func (.func 114) #[] #[])))] [] =
  trim_kept_byte_L0 x0 (x0.length : Int) := (ev_eq (fn := Tryz.f113) (by kernel_rfl) (by kernel_rfl) (by kernel_rfl) _ _).trans (by kernel_rfl)
theorem trim_Pointers_1_eq (x0_0 : Int) (x0_1 : Int) (x0_2 : Int) (x0_3 : List PV) (x0_4 : List PV) : ev 116 [(.pv (.agg [(PV.v (.int .i64 x0_0)), (PV.v (.int .i64 x0_1)), (PV.v (.int .i64 x0_2)), (.sl 1 x0_3), (.sl 5 x0_4)]))] [] =
  some (.ret (.pv (PV.v (.bool (x0_0 == 0)))), []) := (ev_eq (fn := Tryz.f116) (by kernel_rfl) (by kernel_rfl) (by kernel_rfl) _ _).trans (by kernel_rfl)
noncomputable def B_word_Words : Code := Tryz.f117.body.getD .skip
noncomputable def word_Words_L0 (xs0 : List PV) (xs1 : List PV) (i2 : Int) (i3 : Int) : Option (Out × Heap) :=
  loopV (evW env ev iterW 34 117 0 (sub B_word_Words [1, 1, 1, 0, 1, 0, 0])) (keepS env 117 0 0) (blockK 0 (seqK (evV env ev 34 117 0 (sub B_word_Words [1, 1, 1, 1])) (finK env 117 Tryz.f117.results.toList 0))) ⟨ofL [(0, (.pv (.sl 1 xs0))), (4, (.slu 48 1 xs1)), (18, (.pv (PV.v (.int .i64 i2)))), (19, (.pv (PV.v (.int .i64 i3))))], []⟩
theorem word_Words_L0_eq (xs0 : List PV) (xs1 : List PV) (i2 : Int) (i3 : Int) : word_Words_L0 xs0 xs1 i2 i3 =
  cond (decide (i3 < i2)) (
  callT (ev 135 [(.pv (.sl 1 xs0)), (.pv (PV.v (.int .i64 i3)))] []) (fun a_1 h_2 => (onlyPV a_1).bind fun p_3 => (pTup (.pv p_3)).bind fun ps_4 => (ps_4[0]?).bind fun p_5 => (pTup (.pv p_3)).bind fun ps_6 => (ps_6[1]?).bind fun p_7 => cond ((decide (p_5.cells.length = 1) && p_5.cells.all PV.isCell) && true) (cond (roomy (xs1.length + 1) 8) (word_Words_L0 xs0 (xs1 ++ [p_5]) i2 (IntKind.wrap .i64 (i3 + 1))) none) none) (fun a_1 h_2 => some (.pan a_1, []))) (
  some (.ret (.pv (.tup [(.sl 1 xs1), (PV.v (.bool true))])), [])) := (loopV_eq ..).trans (by kernel_rfl)
theorem word_Words_eq (x0 : List PV) : ev 117 [(.pv (.sl 1 x0))] [] =
  cond ((Int.tmod (x0.length : Int) 8) != 0) (
  some (.ret (.pv (.tup [(.sl 1 []), (PV.v (.bool false))])), [])) (
  cond ((decide (0 ≤ (IntKind.wrap .i64 (Int.tdiv (x0.length : Int) 8))) && decide ((IntKind.wrap .i64 (Int.tdiv (x0.length : Int) 8)) ≤ 140737488355328)) && roomy (IntKind.wrap .i64 (Int.tdiv (x0.length : Int) 8)).toNat 8) (word_Words_L0 x0 [] (IntKind.wrap .i64 (Int.tdiv (x0.length : Int) 8)) 0) none) := (ev_eq (fn := Tryz.f117) (by kernel_rfl) (by kernel_rfl) (by kernel_rfl) _ _).trans (by kernel_rfl)
theorem word_Insert_eq (x0 : Int) (x1 : Int) (x2 : Int) (x3 : Int) : ev 119 [(.pv (PV.v (.int .u64 x0))), (.pv (PV.v (.int .i64 x1))), (.pv (PV.v (.int .i64 x2))), (.pv (PV.v (.int .u64 x3)))] [] =
  callT (ev 137 [(.pv (PV.v (.int .i64 x2)))] []) (fun a_1 h_2 => (onlyPV a_1).bind fun p_3 => (pIntK .u64 (.pv p_3)).bind fun n_4 => cond (okBin .shl (IntKind.wrap .u64 x1)) (cond (okBin .shl (IntKind.wrap .u64 x1)) (some (.ret (.pv (PV.v (.int .u64 (IntKind.wrap .u64 (BitVec.ofInt 64 (IntKind.wrap .u64 (BitVec.ofInt 64 x0 &&& ~~~BitVec.ofInt 64 (IntKind.wrap .u64 (n_4 * 2 ^ (min (IntKind.wrap .u64 x1).toNat 64)))).toNat) ||| BitVec.ofInt 64 (IntKind.wrap .u64 (BitVec.ofInt 64 (IntKind.wrap .u64 (x3 * 2 ^ (min (IntKind.wrap .u64 x1).toNat 64))) &&& BitVec.ofInt 64 (IntKind.wrap .u64 (n_4 * 2 ^ (min (IntKind.wrap .u64 x1).toNat 64)))).toNat)).toNat)))), [])) none) none) (fun a_1 h_2 => some (.pan a_1, [])) := (ev_eq (fn := Tryz.f119) (by kernel_rfl) (by kernel_rfl) (by kernel_rfl) _ _).trans (by kernel_rfl)
noncomputable def B_capnpref01_Words : Code := Tryz.f120.body.getD .skip
noncomputable def capnpref01_Words_L0 (xs0 : List PV) (xs1 : List PV) (i2 : Int) : Option (Out × Heap) :=
  loopV (evW env ev iterW 30 120 0 (sub B_capnpref01_Words [1, 1, 1, 0, 1, 0, 0])) (keepS env 120 0 0) (blockK 0 (seqK (evV env ev 30 120 0 (sub B_capnpref01_Words [1, 1, 1, 1])) (finK env 120 Tryz.f120.results.toList 0))) ⟨ofL [(0, (.pv (.sl 1 xs0))), (4, (.slu 48 1 xs1)), (5, (.pv (PV.v (.int .i64 i2))))], []⟩
theorem capnpref01_Words_L0_eq (xs0 : List PV) (xs1 : List PV) (i2 : Int) : capnpref01_Words_L0 xs0 xs1 i2 =
  cond (decide (i2 < (IntKind.wrap .i64 (Int.tdiv (xs0.length : Int) 8)))) (
  callT (ev 138 [(.pv (.sl 1 xs0)), (.pv (PV.v (.int .i64 i2)))] []) (fun a_1 h_2 => (onlyPV a_1).bind fun p_3 => (pTup (.pv p_3)).bind fun ps_4 => (ps_4[0]?).bind fun p_5 => (pTup (.pv p_3)).bind fun ps_6 => (ps_6[1]?).bind fun p_7 => cond ((decide (p_5.cells.length = 1) && p_5.cells.all PV.isCell) && true) (cond (roomy (xs1.length + 1) 8) (capnpref01_Words_L0 xs0 (xs1 ++ [p_5]) (IntKind.wrap .i64 (i2 + 1))) none) none) (fun a_1 h_2 => some (.pan a_1, []))) (
  some (.ret (.tup 0 (.slu 48 1 xs1) [(.v .nilIface), (PV.v (.bool true))]), [])) := (loopV_eq ..).trans (by kernel_rfl)
theorem capnpref01_Words_eq (x0 : List PV) : ev 120 [(.pv (.sl 1 x0))] [] =
  cond ((Int.tmod (x0.length : Int) 8) != 0) (
  some (.ret (.tup 0 (.slu 48 1 []) [(.v .nilIface), (PV.v (.bool false))]), [])) (
  capnpref01_Words_L0 x0 [] 0) := (ev_eq (fn := Tryz.f120) (by kernel_rfl) (by kernel_rfl) (by kernel_rfl) _ _).trans (by kernel_rfl)
theorem capnpref02_offset_eq (x0 : Int) : ev 121 [(.pv (PV.v (.int .i64 x0)))] [] =
  cond (decide (x0 ≥ (-536870912))) (
  some (.ret (.pv (PV.v (.bool (decide (x0 ≤ 536870911))))), [])) (
  some (.ret (.pv (PV.v (.bool false))), [])) := (ev_eq (fn := Tryz.f121) (by kernel_rfl) (by kernel_rfl) (by kernel_rfl) _ _).trans (by kernel_rfl)
theorem arena_Word_eq (x0 : List PV) (x1 : Int) (x2 : Int) : ev 123 [(.pv (.sl 1 x0)), (.pv (PV.v (.int .i64 x1))), (.pv (PV.v (.int .i64 x2)))] [] =
  callT (ev 139 [(.pv (.sl 1 x0)), (.pv (PV.v (.int .i64 x1))), (.pv (PV.v (.int .i64 x2))), (.pv (PV.v (.int .i64 1)))] []) (fun a_1 h_2 => (onlyPV a_1).bind fun p_3 => (pBool (.pv p_3)).bind fun b_4 => cond (!b_4) (
  some (.ret (.pv (.tup [(PV.v (.int .u64 0)), (PV.v (.bool false))])), [])) (
  cond (decide (0 ≤ x1) && decide (x1 < (x0.length : Int))) ((x0[(x1).toNat]?).bind fun p_5 => (p_5.cells[0]?).bind fun p_6 => (pSl p_6).bind fun l_7 => cond ((decide (l_7.1 = 1) && decide (0 ≤ x2)) && decide (x2 < (l_7.2.length : Int))) ((l_7.2[(x2).toNat]?).bind fun p_8 => (p_8.cells[0]?).bind fun p_9 => some (.ret (.pv (.tup [p_9, (PV.v (.bool true))])), [])) none) none)) (fun a_1 h_2 => some (.pan a_1, [])) := (ev_eq (fn := Tryz.f123) (by kernel_rfl) (by kernel_rfl) (by kernel_rfl) _ _).trans (by kernel_rfl)
theorem resolve_structure_eq (x0 : List PV) (x1_0 : Int) (x1_1 : Int) (x1_2 : Int) (x1_3 : Int) (x1_4 : Int) (x1_5 : Int) (x1_6 : Bool) (x1_7 : Int) (x1_8 : Int) (x1_9 : Int) (x2 : Int) (x3 : Int) : ev 127 [(.pv (.sl 1 x0)), (.pv (.agg [(PV.v (.int .i64 x1_0)), (PV.v (.int .i64 x1_1)), (PV.v (.int .i64 x1_2)), (PV.v (.int .i64 x1_3)), (PV.v (.int .i64 x1_4)), (PV.v (.int .i64 x1_5)), (PV.v (.bool x1_6)), (PV.v (.int .i64 x1_7)), (PV.v (.int .u32 x1_8)), (PV.v (.int .u32 x1_9))])), (.pv (PV.v (.int .i64 x2))), (.pv (PV.v (.int .i64 x3)))] [] =
  callT (ev 142 [(.pv (.sl 1 x0)), (.pv (.agg [(PV.v (.int .i64 1)), (PV.v (.int .i64 x2)), (PV.v (.int .i64 x3)), (PV.v (.int .i64 x1_2)), (PV.v (.int .i64 x1_3)), (PV.v (.int .i64 0)), (PV.v (.int .i64 0)), (PV.v (.int .i64 (IntKind.wrap .i64 (x1_2 + x1_3))))])), (.pv (PV.v (.int .i64 x3))), (.pv (PV.v (.int .i64 (IntKind.wrap .i64 (x1_2 + x1_3)))))] []) (fun a_1 h_2 => (onlyPV a_1).bind fun p_3 => (pTup (.pv p_3)).bind fun ps_4 => (ps_4[0]?).bind fun p_5 => (pTup (.pv p_3)).bind fun ps_6 => (ps_6[1]?).bind fun p_7 => cond (decide (p_5.cells.length = 8)) ((p_5.cells[0]?).bind fun p_8 => (p_5.cells[1]?).bind fun p_9 => (p_5.cells[2]?).bind fun p_10 => (p_5.cells[3]?).bind fun p_11 => (p_5.cells[4]?).bind fun p_12 => (p_5.cells[5]?).bind fun p_13 => (p_5.cells[6]?).bind fun p_14 => (p_5.cells[7]?).bind fun p_15 => cond (p_8.isCell && (p_9.isCell && (p_10.isCell && (p_11.isCell && (p_12.isCell && (p_13.isCell && (p_14.isCell && (p_15.isCell && true)))))))) (some (.ret (.pv (.tup [(.agg [p_8, p_9, p_10, p_11, p_12, p_13, p_14, p_15]), p_7])), [])) none) none) (fun a_1 h_2 => some (.pan a_1, [])) := (ev_eq (fn := Tryz.f127) (by kernel_rfl) (by kernel_rfl) (by kernel_rfl) _ _).trans (by kernel_rfl)
theorem resolve_other_eq (x0 : List PV) (x1_0 : Int) (x1_1 : Int) (x1_2 : Int) (x1_3 : Int) (x1_4 : Int) (x1_5 : Int) (x1_6 : Bool) (x1_7 : Int) (x1_8 : Int) (x1_9 : Int) (x2 : Int) (x3 : Int) : ev 129 [(.pv (.sl 1 x0)), (.pv (.agg [(PV.v (.int .i64 x1_0)), (PV.v (.int .i64 x1_1)), (PV.v (.int .i64 x1_2)), (PV.v (.int .i64 x1_3)), (PV.v (.int .i64 x1_4)), (PV.v (.int .i64 x1_5)), (PV.v (.bool x1_6)), (PV.v (.int .i64 x1_7)), (PV.v (.int .u32 x1_8)), (PV.v (.int .u32 x1_9))])), (.pv (PV.v (.int .i64 x2))), (.pv (PV.v (.int .i64 x3)))] [] =
  callT (ev 144 [(.pv (.agg [(PV.v (.int .i64 x1_0)), (PV.v (.int .i64 x1_1)), (PV.v (.int .i64 x1_2)), (PV.v (.int .i64 x1_3)), (PV.v (.int .i64 x1_4)), (PV.v (.int .i64 x1_5)), (PV.v (.bool x1_6)), (PV.v (.int .i64 x1_7)), (PV.v (.int .u32 x1_8)), (PV.v (.int .u32 x1_9))]))] []) (fun a_1 h_2 => (onlyPV a_1).bind fun p_3 => (pBool (.pv p_3)).bind fun b_4 => cond b_4 (
  some (.ret (.pv (.tup [(.agg [(PV.v (.int .i64 0)), (PV.v (.int .i64 0)), (PV.v (.int .i64 0)), (PV.v (.int .i64 0)), (PV.v (.int .i64 0)), (PV.v (.int .i64 0)), (PV.v (.int .i64 0)), (PV.v (.int .i64 0))]), (PV.v (.int .i64 6))])), [])) (
  some (.ret (.pv (.tup [(.agg [(PV.v (.int .i64 0)), (PV.v (.int .i64 0)), (PV.v (.int .i64 0)), (PV.v (.int .i64 0)), (PV.v (.int .i64 0)), (PV.v (.int .i64 0)), (PV.v (.int .i64 0)), (PV.v (.int .i64 0))]), (PV.v (.int .i64 4))])), []))) (fun a_1 h_2 => some (.pan a_1, [])) := (ev_eq (fn := Tryz.f129) (by kernel_rfl) (by kernel_rfl) (by kernel_rfl) _ _).trans (by kernel_rfl)
theorem budget_counter_take_eq (x0__0_0 : Int) (x1 : Int) : ev 130 [(.ptr 0 0), (.pv (PV.v (.int .i64 x1)))] [[(.pv (PV.v (.int .i64 x0__0_0)))]] =
  cond (decide (x1 > x0__0_0)) (
  some (.ret (.pv (PV.v (.bool false))), [[(.pv (PV.v (.int .i64 x0__0_0)))]])) (
  some (.ret (.pv (PV.v (.bool true))), [[(.pv (PV.v (.int .i64 (IntKind.wrap .i64 (x0__0_0 - x1)))))]])) := (ev_eq (fn := Tryz.f130) (by kernel_rfl) (by kernel_rfl) (by kernel_rfl) _ _).trans (by kernel_rfl)
noncomputable def B_denote_reader_pointers : Code := Tryz.f132.body.getD .skip
noncomputable def denote_reader_pointers_L0 (i0 : Int) (xs1 : List PV) (p2 : PV) (p3 : PV) (i4 : Int) (p5 : PV) (p6 : PV) (p7 : PV) (p8 : PV) (p9 : PV) (i10 : Int) (i11 : Int) (i12 : Int) (i13 : Int) (i14 : Int) (i15 : Int) (i16 : Int) (i17 : Int) : Option (Out × Heap) :=
  loopV (evW env ev iterW 34 132 0 (sub B_denote_reader_pointers [1, 1, 1, 0, 1, 0, 0])) (keepS env 132 0 2) (blockK 0 (seqK (evV env ev 34 132 0 (sub B_denote_reader_pointers [1, 1, 1, 1])) (finK env 132 Tryz.f132.results.toList 1))) ⟨ofL [(0, (.ptr 0 0)), (2, (.pv (PV.v (.int .i64 i0)))), (4, (.ptr 1 0)), (7, (.slu 39 5 xs1)), (8, (.pv p2)), (16, (.pv p3)), (17, (.pv (PV.v (.int .i64 i4))))], [[(.pv p5), (.pv p6), (.pv p7), (.pv p8), (.pv p9)], [(.pv (PV.v (.int .i64 i10))), (.pv (PV.v (.int .i64 i11))), (.pv (PV.v (.int .i64 i12))), (.pv (PV.v (.int .i64 i13))), (.pv (PV.v (.int .i64 i14))), (.pv (PV.v (.int .i64 i15))), (.pv (PV.v (.int .i64 i16))), (.pv (PV.v (.int .i64 i17)))]]⟩
theorem denote_reader_pointers_L0_eq (i0 : Int) (xs1 : List PV) (p2 : PV) (p3 : PV) (i4 : Int) (p5 : PV) (p6 : PV) (p7 : PV) (p8 : PV) (p9 : PV) (i10 : Int) (i11 : Int) (i12 : Int) (i13 : Int) (i14 : Int) (i15 : Int) (i16 : Int) (i17 : Int) : denote_reader_pointers_L0 i0 xs1 p2 p3 i4 p5 p6 p7 p8 p9 i10 i11 i12 i13 i14 i15 i16 i17 =
  (pIntK .i64 (.pv p3)).bind fun n_1 => cond (decide (i4 < n_1)) (
  (pIntK .i64 (.pv p2)).bind fun n_2 => callT (ev 92 [(.ptr 0 0), (.pv (PV.v (.int .i64 i11))), (.pv (PV.v (.int .i64 (IntKind.wrap .i64 (n_2 + i4))))), (.pv (PV.v (.int .i64 (IntKind.wrap .i64 (i0 + 1)))))] [[(.pv p5), (.pv p6), (.pv p7), (.pv p8), (.pv p9)]]) (fun a_3 h_4 => (h_4[0]?).bind fun c_5 => (c_5[0]?).bind fun e_6 => (onlyPV e_6).bind fun p_7 => (c_5[1]?).bind fun e_8 => (onlyPV e_8).bind fun p_9 => (c_5[2]?).bind fun e_10 => (onlyPV e_10).bind fun p_11 => (c_5[3]?).bind fun e_12 => (onlyPV e_12).bind fun p_13 => (c_5[4]?).bind fun e_14 => (onlyPV e_14).bind fun p_15 => cond (decide (c_5.length = 5)) (cond (decide (h_4.length = 1)) ((onlyPV a_3).bind fun p_16 => cond ((decide (p_16.cells.length = 5) && p_16.cells.all PV.isCell) && true) (cond (roomy (xs1.length + 1) 72) (denote_reader_pointers_L0 i0 (xs1 ++ [p_16]) p2 p3 (IntKind.wrap .i64 (i4 + 1)) p_7 p_9 p_11 p_13 p_15 i10 i11 i12 i13 i14 i15 i16 i17) none) none) none) none) (fun a_3 h_4 => (h_4[0]?).bind fun c_5 => (c_5[0]?).bind fun e_6 => (onlyPV e_6).bind fun p_7 => (c_5[1]?).bind fun e_8 => (onlyPV e_8).bind fun p_9 => (c_5[2]?).bind fun e_10 => (onlyPV e_10).bind fun p_11 => (c_5[3]?).bind fun e_12 => (onlyPV e_12).bind fun p_13 => (c_5[4]?).bind fun e_14 => (onlyPV e_14).bind fun p_15 => cond (decide (c_5.length = 5)) (cond (decide (h_4.length = 1)) (some (.pan a_3, [[(.pv p_7), (.pv p_9), (.pv p_11), (.pv p_13), (.pv p_15)]])) none) none)) (
  some (.ret (.pv (.sl 5 xs1)), [[(.pv p5), (.pv p6), (.pv p7), (.pv p8), (.pv p9)]])) := (loopV_eq ..).trans (by kernel_rfl)
theorem denote_reader_pointers_eq (x0__0 : List PV) (x0__1_0 : Int) (x0__1_1 : Int) (x0__1_2 : Int) (x0__2_0 : Int) (x1_0 : Int) (x1_1 : Int) (x1_2 : Int) (x1_3 : Int) (x1_4 : Int) (x1_5 : Int) (x1_6 : Int) (x1_7 : Int) (x2 : Int) : ev 132 [(.ptr 0 0), (.pv (.agg [(PV.v (.int .i64 x1_0)), (PV.v (.int .i64 x1_1)), (PV.v (.int .i64 x1_2)), (PV.v (.int .i64 x1_3)), (PV.v (.int .i64 x1_4)), (PV.v (.int .i64 x1_5)), (PV.v (.int .i64 x1_6)), (PV.v (.int .i64 x1_7))])), (.pv (PV.v (.int .i64 x2)))] [[(.pv (.sl 1 x0__0)), (.pv (PV.v (.int .i64 x0__1_0))), (.pv (PV.v (.int .i64 x0__1_1))), (.pv (PV.v (.int .i64 x0__1_2))), (.pv (PV.v (.int .i64 x0__2_0)))]] =
  callT (ev 145 [(.pv (.agg [(PV.v (.int .i64 x1_0)), (PV.v (.int .i64 x1_1)), (PV.v (.int .i64 x1_2)), (PV.v (.int .i64 x1_3)), (PV.v (.int .i64 x1_4)), (PV.v (.int .i64 x1_5)), (PV.v (.int .i64 x1_6)), (PV.v (.int .i64 x1_7))]))] []) (fun a_1 h_2 => (onlyPV a_1).bind fun p_3 => (pTup (.pv p_3)).bind fun ps_4 => (ps_4[0]?).bind fun p_5 => (pTup (.pv p_3)).bind fun ps_6 => (ps_6[1]?).bind fun p_7 => denote_reader_pointers_L0 x2 [] p_5 p_7 0 (.sl 1 x0__0) (PV.v (.int .i64 x0__1_0)) (PV.v (.int .i64 x0__1_1)) (PV.v (.int .i64 x0__1_2)) (PV.v (.int .i64 x0__2_0)) x1_0 x1_1 x1_2 x1_3 x1_4 x1_5 x1_6 x1_7) (fun a_1 h_2 => some (.pan a_1, [[(.pv (.sl 1 x0__0)), (.pv (PV.v (.int .i64 x0__1_0))), (.pv (PV.v (.int .i64 x0__1_1))), (.pv (PV.v (.int .i64 x0__1_2))), (.pv (PV.v (.int .i64 x0__2_0)))]])) := (ev_eq (fn := Tryz.f132) (by kernel_rfl) (by kernel_rfl) (by kernel_rfl) _ _).trans (by kernel_rfl)
theorem far_Landing_eq (x0 : Int) : ev 140 [(.pv (PV.v (.int .u64 x0)))] [] =
  callT (ev 118 [(.pv (PV.v (.int .u64 x0)))] []) (fun a_1 h_2 => (onlyPV a_1).bind fun p_3 => cond (decide (p_3.cells.length = 10)) ((p_3.cells[0]?).bind fun p_4 => (p_3.cells[1]?).bind fun p_5 => (p_3.cells[2]?).bind fun p_6 => (p_3.cells[3]?).bind fun p_7 => (p_3.cells[4]?).bind fun p_8 => (p_3.cells[5]?).bind fun p_9 => (p_3.cells[6]?).bind fun p_10 => (p_3.cells[7]?).bind fun p_11 => (p_3.cells[8]?).bind fun p_12 => (p_3.cells[9]?).bind fun p_13 => cond (p_4.isCell && (p_5.isCell && (p_6.isCell && (p_7.isCell && (p_8.isCell && (p_9.isCell && (p_10.isCell && (p_11.isCell && (p_12.isCell && (p_13.isCell && true)))))))))) ((pInt (.pv p_12)).bind fun q_14 => some (.ret (.pv (.tup [(PV.v (.int .i64 (IntKind.wrap .i64 q_14.2))), p_11])), [])) none) none) (fun a_1 h_2 => some (.pan a_1, [])) := (ev_eq (fn := Tryz.f140) (by kernel_rfl) (by kernel_rfl) (by kernel_rfl) _ _).trans (by kernel_rfl)
theorem resolve_within_eq (x0 : List PV) (x1_0 : Int) (x1_1 : Int) (x1_2 : Int) (x1_3 : Int) (x1_4 : Int) (x1_5 : Int) (x1_6 : Int) (x1_7 : Int) (x2 : Int) (x3 : Int) : ev 142 [(.pv (.sl 1 x0)), (.pv (.agg [(PV.v (.int .i64 x1_0)), (PV.v (.int .i64 x1_1)), (PV.v (.int .i64 x1_2)), (PV.v (.int .i64 x1_3)), (PV.v (.int .i64 x1_4)), (PV.v (.int .i64 x1_5)), (PV.v (.int .i64 x1_6)), (PV.v (.int .i64 x1_7))])), (.pv (PV.v (.int .i64 x2))), (.pv (PV.v (.int .i64 x3)))] [] =
  callT (ev 139 [(.pv (.sl 1 x0)), (.pv (PV.v (.int .i64 x1_1))), (.pv (PV.v (.int .i64 x2))), (.pv (PV.v (.int .i64 x3)))] []) (fun a_1 h_2 => (onlyPV a_1).bind fun p_3 => (pBool (.pv p_3)).bind fun b_4 => cond (!b_4) (
  some (.ret (.pv (.tup [(.agg [(PV.v (.int .i64 0)), (PV.v (.int .i64 0)), (PV.v (.int .i64 0)), (PV.v (.int .i64 0)), (PV.v (.int .i64 0)), (PV.v (.int .i64 0)), (PV.v (.int .i64 0)), (PV.v (.int .i64 0))]), (PV.v (.int .i64 2))])), [])) (
  some (.ret (.pv (.tup [(.agg [(PV.v (.int .i64 x1_0)), (PV.v (.int .i64 x1_1)), (PV.v (.int .i64 x1_2)), (PV.v (.int .i64 x1_3)), (PV.v (.int .i64 x1_4)), (PV.v (.int .i64 x1_5)), (PV.v (.int .i64 x1_6)), (PV.v (.int .i64 x1_7))]), (PV.v (.int .i64 0))])), []))) (fun a_1 h_2 => some (.pan a_1, [])) := (ev_eq (fn := Tryz.f142) (by kernel_rfl) (by kernel_rfl) (by kernel_rfl) _ _).trans (by kernel_rfl)
theorem resolve_Pointers_eq (x0_0 : Int) (x0_1 : Int) (x0_2 : Int) (x0_3 : Int) (x0_4 : Int) (x0_5 : Int) (x0_6 : Int) (x0_7 : Int) : ev 145 [(.pv (.agg [(PV.v (.int .i64 x0_0)), (PV.v (.int .i64 x0_1)), (PV.v (.int .i64 x0_2)), (PV.v (.int .i64 x0_3)), (PV.v (.int .i64 x0_4)), (PV.v (.int .i64 x0_5)), (PV.v (.int .i64 x0_6)), (PV.v (.int .i64 x0_7))]))] [] =
  cond (x0_0 == 1) (
  cond (decide (x0_4 > 0)) (
  some (.ret (.pv (.tup [(PV.v (.int .i64 (IntKind.wrap .i64 (x0_2 + x0_3)))), (PV.v (.int .i64 x0_4))])), [])) (
  cond (x0_0 == 2) (
    cond (x0_5 == 6) (
    cond (decide (x0_6 > 0)) (
    some (.ret (.pv (.tup [(PV.v (.int .i64 x0_2)), (PV.v (.int .i64 x0_6))])), [])) (
    some (.ret (.pv (.tup [(PV.v (.int .i64 0)), (PV.v (.int .i64 0))])), []))) (
    some (.ret (.pv (.tup [(PV.v (.int .i64 0)), (PV.v (.int .i64 0))])), []))) (
    some (.ret (.pv (.tup [(PV.v (.int .i64 0)), (PV.v (.int .i64 0))])), [])))) (
  cond (x0_0 == 2) (
    cond (x0_5 == 6) (
    cond (decide (x0_6 > 0)) (
    some (.ret (.pv (.tup [(PV.v (.int .i64 x0_2)), (PV.v (.int .i64 x0_6))])), [])) (
    some (.ret (.pv (.tup [(PV.v (.int .i64 0)), (PV.v (.int .i64 0))])), []))) (
    some (.ret (.pv (.tup [(PV.v (.int .i64 0)), (PV.v (.int .i64 0))])), []))) (
    some (.ret (.pv (.tup [(PV.v (.int .i64 0)), (PV.v (.int .i64 0))])), []))) := (ev_eq (fn := Tryz.f145) (by kernel_rfl) (by kernel_rfl) (by kernel_rfl) _ _).trans (by kernel_rfl)
theorem word_Signed_eq (x0 : Int) (x1 : Int) (x2 : Int) : ev 165 [(.pv (PV.v (.int .u64 x0))), (.pv (PV.v (.int .i64 x1))), (.pv (PV.v (.int .i64 x2)))] [] =
  cond (okBin .shl (IntKind.wrap .u64 (IntKind.wrap .i64 ((IntKind.wrap .i64 (64 - x1)) - x2)))) (cond (okBin .shr (IntKind.wrap .u64 (IntKind.wrap .i64 (64 - x2)))) (some (.ret (.pv (PV.v (.int .i64 (Int.fdiv (IntKind.wrap .i64 (IntKind.wrap .u64 (x0 * 2 ^ (min (IntKind.wrap .u64 (IntKind.wrap .i64 ((IntKind.wrap .i64 (64 - x1)) - x2))).toNat 64)))) (2 ^ (min (IntKind.wrap .u64 (IntKind.wrap .i64 (64 - x2))).toNat 64)))))), [])) none) none := (ev_eq (fn := Tryz.f165) (by kernel_rfl) (by kernel_rfl) (by kernel_rfl) _ _).trans (by kernel_rfl)
theorem pointer_decoders_2_eq (x0 : Int) : ev 166 [(.pv (PV.v (.int .u64 x0)))] [] =
  callT (ev 165 [(.pv (PV.v (.int .u64 x0))), (.pv (PV.v (.int .i64 2))), (.pv (PV.v (.int .i64 30)))] []) (fun a_1 h_2 => (onlyPV a_1).bind fun p_3 => callT (ev 136 [(.pv (PV.v (.int .u64 x0))), (.pv (PV.v (.int .i64 32))), (.pv (PV.v (.int .i64 3)))] []) (fun a_4 h_5 => (onlyPV a_4).bind fun p_6 => (pInt (.pv p_6)).bind fun q_7 => callT (ev 136 [(.pv (PV.v (.int .u64 x0))), (.pv (PV.v (.int .i64 35))), (.pv (PV.v (.int .i64 29)))] []) (fun a_8 h_9 => (onlyPV a_8).bind fun p_10 => (pInt (.pv p_10)).bind fun q_11 => cond (p_3.isCell && true) (cond ((p_3.isCell && true) && true) (cond (p_3.isCell && true) (some (.ret (.pv (.agg [(PV.v (.int .i64 0)), p_3, (PV.v (.int .i64 0)), (PV.v (.int .i64 0)), (PV.v (.int .i64 (IntKind.wrap .i64 q_7.2))), (PV.v (.int .i64 (IntKind.wrap .i64 q_11.2))), (PV.v (.bool false)), (PV.v (.int .i64 0)), (PV.v (.int .u32 0)), (PV.v (.int .u32 0))])), [])) none) none) none) (fun a_8 h_9 => some (.pan a_8, []))) (fun a_4 h_5 => some (.pan a_4, []))) (fun a_1 h_2 => some (.pan a_1, [])) := (ev_eq (fn := Tryz.f166) (by kernel_rfl) (by kernel_rfl) (by kernel_rfl) _ _).trans (by kernel_rfl)
end Go.Proofs.YtfljialckkgacaaGreatDoor.E
