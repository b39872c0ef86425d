/- This text is one of those that prove the law CanonwriteKeeps of the given program, as its statement says it: true on every input that the statement covers. Its conditions are the statement's own. -/
import Derived.KernelRfl
import Derived.Test.YthpbjpnbafiipaaDoorZCanonwriteKeeps1
import Derived.Test.YthpbjpnbafiipaaDoorZCanonwriteKeeps2
import Derived.Test.YthpbjpnbafiipaaDoorZCanonwriteKeeps3
set_option linter.unusedVariables false
set_option linter.unusedSimpArgs false
set_option linter.unusedVariables false
namespace Go.Proofs.YthpbjpnbafiipaaDoor.E
noncomputable def B_capnpref10_Equal : Code := Tryd.f16.body.getD .skip
noncomputable def capnpref10_Equal_L0 (i0 : Int) (i1 : Int) (i2 : Int) (i3 : Int) (xs4 : List PV) (xs5 : List PV) (i6 : Int) (i7 : Int) (i8 : Int) (xs9 : List PV) (xs10 : List PV) : Option (Out × Heap) :=
  loopV (evW env ev iterW 61 16 0 (sub B_capnpref10_Equal [1, 1, 0, 1, 0, 0])) (keepS env 16 0 2) (blockK 0 (seqK (evV env ev 61 16 0 (sub B_capnpref10_Equal [1, 1, 1])) (finK env 16 Tryd.f16.results.toList 0))) ⟨ofL [(2, (.ptr 0 0)), (3, (.ptr 1 0)), (5, (.pv (PV.v (.int .i64 i0))))], [[(.pv (PV.v (.int .i64 i1))), (.pv (PV.v (.int .i64 i2))), (.pv (PV.v (.int .i64 i3))), (.pv (.sl 1 xs4)), (.pv (.sl 5 xs5))], [(.pv (PV.v (.int .i64 i6))), (.pv (PV.v (.int .i64 i7))), (.pv (PV.v (.int .i64 i8))), (.pv (.sl 1 xs9)), (.pv (.sl 5 xs10))]]⟩
theorem capnpref10_Equal_L0_eq (i0 : Int) (i1 : Int) (i2 : Int) (i3 : Int) (xs4 : List PV) (xs5 : List PV) (i6 : Int) (i7 : Int) (i8 : Int) (xs9 : List PV) (xs10 : List PV) : capnpref10_Equal_L0 i0 i1 i2 i3 xs4 xs5 i6 i7 i8 xs9 xs10 =
  cond (decide (i0 < (xs5.length : Int))) (
  cond (decide (0 ≤ i0) && decide (i0 < (xs5.length : Int))) ((xs5[(i0).toNat]?).bind fun p_1 => cond (decide (5 ≤ p_1.cells.length)) (cond (decide (0 ≤ i0) && decide (i0 < (xs10.length : Int))) ((xs10[(i0).toNat]?).bind fun p_2 => cond (decide (5 ≤ p_2.cells.length)) (callT (ev 16 [(.pv (.agg ((p_1.cells.drop 0).take 5))), (.pv (.agg ((p_2.cells.drop 0).take 5)))] []) (fun a_3 h_4 => (onlyPV a_3).bind fun p_5 => (pBool (.pv p_5)).bind fun b_6 => cond (!b_6) (
  some (.ret (.pv (PV.v (.bool false))), [])) (
  capnpref10_Equal_L0 (IntKind.wrap .i64 (i0 + 1)) i1 i2 i3 xs4 xs5 i6 i7 i8 xs9 xs10)) (fun a_3 h_4 => some (.pan a_3, []))) none) none) none) none) (
  some (.ret (.pv (PV.v (.bool true))), [])) := (loopV_eq ..).trans (by kernel_rfl)
theorem capnpref10_Equal_eq (x0_0 : Int) (x0_1 : Int) (x0_2 : Int) (x0_3 : List PV) (x0_4 : List PV) (x1_0 : Int) (x1_1 : Int) (x1_2 : Int) (x1_3 : List PV) (x1_4 : List PV) : ev 16 [(.pv (.agg [(PV.v (.int .i64 x0_0)), (PV.v (.int .i64 x0_1)), (PV.v (.int .i64 x0_2)), (.sl 1 x0_3), (.sl 5 x0_4)])), (.pv (.agg [(PV.v (.int .i64 x1_0)), (PV.v (.int .i64 x1_1)), (PV.v (.int .i64 x1_2)), (.sl 1 x1_3), (.sl 5 x1_4)]))] [] =
  cond (x0_0 != x1_0) (
  some (.ret (.pv (PV.v (.bool false))), [])) (
  cond (x0_1 != x1_1) (
    some (.ret (.pv (PV.v (.bool false))), [])) (
    cond (x0_2 != x1_2) (
      some (.ret (.pv (PV.v (.bool false))), [])) (
      callT (ev 34 [(.pv (.sl 1 x0_3)), (.pv (.sl 1 x1_3))] []) (fun a_1 h_2 => (onlyPV a_1).bind fun p_3 => (pBool (.pv p_3)).bind fun b_4 => cond (!b_4) (
        some (.ret (.pv (PV.v (.bool false))), [])) (
        cond ((x0_4.length : Int) != (x1_4.length : Int)) (
          some (.ret (.pv (PV.v (.bool false))), [])) (
          capnpref10_Equal_L0 0 x0_0 x0_1 x0_2 x0_3 x0_4 x1_0 x1_1 x1_2 x1_3 x1_4))) (fun a_1 h_2 => some (.pan a_1, []))))) := (ev_eq (fn := Tryd.f16) (by kernel_rfl) (by kernel_rfl) (by kernel_rfl) _ _).trans (by kernel_rfl)
theorem canonsize_Object_eq (x0_0 : Int) (x0_1 : Int) (x0_2 : Int) (x0_3 : List PV) (x0_4 : List PV) : ev 28 [(.pv (.agg [(PV.v (.int .i64 x0_0)), (PV.v (.int .i64 x0_1)), (PV.v (.int .i64 x0_2)), (.sl 1 x0_3), (.sl 5 x0_4)]))] [] =
  cond (x0_0 == 0) (
  some (.ret (.pv (PV.v (.int .i64 0))), [])) (
  cond (x0_0 == 1) (
    some (.ret (.pv (PV.v (.int .i64 (IntKind.wrap .i64 ((IntKind.wrap .i64 (Int.tdiv (x0_3.length : Int) 8)) + (x0_4.length : Int)))))), [])) (
    cond (x0_1 == 7) (
      callT (ev 49 [(.pv (.agg [(PV.v (.int .i64 x0_0)), (PV.v (.int .i64 x0_1)), (PV.v (.int .i64 x0_2)), (.sl 1 x0_3), (.sl 5 x0_4)]))] []) (fun a_1 h_2 => (onlyPV a_1).bind fun p_3 => (pTup (.pv p_3)).bind fun ps_4 => (ps_4[0]?).bind fun p_5 => (pTup (.pv p_3)).bind fun ps_6 => (ps_6[1]?).bind fun p_7 => (pIntK .i64 (.pv p_5)).bind fun n_8 => (pIntK .i64 (.pv p_7)).bind fun n_9 => some (.ret (.pv (PV.v (.int .i64 (IntKind.wrap .i64 (1 + (IntKind.wrap .i64 (x0_2 * (IntKind.wrap .i64 (n_8 + n_9))))))))), [])) (fun a_1 h_2 => some (.pan a_1, []))) (
      callT (ev 50 [(.pv (PV.v (.int .i64 x0_1))), (.pv (PV.v (.int .i64 x0_2)))] []) (fun a_1 h_2 => (onlyPV a_1).bind fun p_3 => some (.ret (.pv p_3), [])) (fun a_1 h_2 => some (.pan a_1, []))))) := (ev_eq (fn := Tryd.f28) (by kernel_rfl) (by kernel_rfl) (by kernel_rfl) _ _).trans (by kernel_rfl)
theorem canonwrite_Write_eq (x0_0 : Int) (x0_1 : Int) (x0_2 : Int) (x0_3 : List PV) (x0_4 : List PV) : ev 31 [(.pv (.agg [(PV.v (.int .i64 x0_0)), (PV.v (.int .i64 x0_1)), (PV.v (.int .i64 x0_2)), (.sl 1 x0_3), (.sl 5 x0_4)]))] [] =
  callT (ev 26 [(.pv (.agg [(PV.v (.int .i64 x0_0)), (PV.v (.int .i64 x0_1)), (PV.v (.int .i64 x0_2)), (.sl 1 x0_3), (.sl 5 x0_4)]))] []) (fun a_1 h_2 => (onlyPV a_1).bind fun p_3 => (pInt (.pv p_3)).bind fun q_4 => cond ((decide (1 ≤ q_4.2) && decide (q_4.2 ≤ 140737488355328)) && roomy (q_4.2).toNat 8) (callT (ev 51 [(.ptr 0 0), (.pv (PV.v (.int .i64 0))), (.pv (.agg [(PV.v (.int .i64 x0_0)), (PV.v (.int .i64 x0_1)), (PV.v (.int .i64 x0_2)), (.sl 1 x0_3), (.sl 5 x0_4)]))] [[(.slu 54 1 [(PV.v (.int .u64 0))])]]) (fun a_5 h_6 => (h_6[0]?).bind fun c_7 => (c_7[0]?).bind fun e_8 => (pSlu 54 1 e_8).bind fun xs_9 => cond (decide (c_7.length = 1)) (cond (decide (h_6.length = 1)) ((onlyPV a_5).bind fun p_10 => some (.ret (.slu 54 1 xs_9), [])) none) none) (fun a_5 h_6 => (h_6[0]?).bind fun c_7 => (c_7[0]?).bind fun e_8 => (pSlu 54 1 e_8).bind fun xs_9 => cond (decide (c_7.length = 1)) (cond (decide (h_6.length = 1)) (some (.pan a_5, [])) none) none)) none) (fun a_1 h_2 => some (.pan a_1, [])) := (ev_eq (fn := Tryd.f31) (by kernel_rfl) (by kernel_rfl) (by kernel_rfl) _ _).trans (by kernel_rfl)
theorem word_Field_eq (x0 : Int) (x1 : Int) (x2 : Int) : ev 132 [(.pv (PV.v (.int .u64 x0))), (.pv (PV.v (.int .i64 x1))), (.pv (PV.v (.int .i64 x2)))] [] =
  cond (okBin .shr (IntKind.wrap .u64 x1)) (callT (ev 143 [(.pv (PV.v (.int .i64 x2)))] []) (fun a_1 h_2 => (onlyPV a_1).bind fun p_3 => (pIntK .u64 (.pv p_3)).bind fun n_4 => some (.ret (.pv (PV.v (.int .u64 (IntKind.wrap .u64 (BitVec.ofInt 64 (Int.fdiv x0 (2 ^ (min (IntKind.wrap .u64 x1).toNat 64))) &&& BitVec.ofInt 64 n_4).toNat)))), [])) (fun a_1 h_2 => some (.pan a_1, []))) none := (ev_eq (fn := Tryd.f132) (by kernel_rfl) (by kernel_rfl) (by kernel_rfl) _ _).trans (by kernel_rfl)
noncomputable def B_word_Words : Code := Tryd.f138.body.getD .skip
noncomputable def word_Words_L0 (xs0 : List PV) (xs1 : List PV) (i2 : Int) (i3 : Int) : Option (Out × Heap) :=
  loopV (evW env ev iterW 34 138 0 (sub B_word_Words [1, 1, 1, 0, 1, 0, 0])) (keepS env 138 0 0) (blockK 0 (seqK (evV env ev 34 138 0 (sub B_word_Words [1, 1, 1, 1])) (finK env 138 Tryd.f138.results.toList 0))) ⟨ofL [(0, (.pv (.sl 1 xs0))), (4, (.slu 54 1 xs1)), (18, (.pv (PV.v (.int .i64 i2)))), (19, (.pv (PV.v (.int .i64 i3))))], []⟩
theorem word_Words_L0_eq (xs0 : List PV) (xs1 : List PV) (i2 : Int) (i3 : Int) : word_Words_L0 xs0 xs1 i2 i3 =
  cond (decide (i3 < i2)) (
  callT (ev 145 [(.pv (.sl 1 xs0)), (.pv (PV.v (.int .i64 i3)))] []) (fun a_1 h_2 => (onlyPV a_1).bind fun p_3 => (pTup (.pv p_3)).bind fun ps_4 => (ps_4[0]?).bind fun p_5 => (pTup (.pv p_3)).bind fun ps_6 => (ps_6[1]?).bind fun p_7 => cond ((decide (p_5.cells.length = 1) && p_5.cells.all PV.isCell) && true) (cond (roomy (xs1.length + 1) 8) (word_Words_L0 xs0 (xs1 ++ [p_5]) i2 (IntKind.wrap .i64 (i3 + 1))) none) none) (fun a_1 h_2 => some (.pan a_1, []))) (
  some (.ret (.pv (.tup [(.sl 1 xs1), (PV.v (.bool true))])), [])) := (loopV_eq ..).trans (by kernel_rfl)
theorem word_Words_eq (x0 : List PV) : ev 138 [(.pv (.sl 1 x0))] [] =
  cond ((Int.tmod (x0.length : Int) 8) != 0) (
  some (.ret (.pv (.tup [(.sl 1 []), (PV.v (.bool false))])), [])) (
  cond ((decide (0 ≤ (IntKind.wrap .i64 (Int.tdiv (x0.length : Int) 8))) && decide ((IntKind.wrap .i64 (Int.tdiv (x0.length : Int) 8)) ≤ 140737488355328)) && roomy (IntKind.wrap .i64 (Int.tdiv (x0.length : Int) 8)).toNat 8) (word_Words_L0 x0 [] (IntKind.wrap .i64 (Int.tdiv (x0.length : Int) 8)) 0) none) := (ev_eq (fn := Tryd.f138) (by kernel_rfl) (by kernel_rfl) (by kernel_rfl) _ _).trans (by kernel_rfl)
theorem word_mask_eq (x0 : Int) : ev 143 [(.pv (PV.v (.int .i64 x0)))] [] =
  cond (okBin .shr (IntKind.wrap .u64 (IntKind.wrap .i64 (64 - x0)))) (some (.ret (.pv (PV.v (.int .u64 (Int.fdiv 18446744073709551615 (2 ^ (min (IntKind.wrap .u64 (IntKind.wrap .i64 (64 - x0))).toNat 64)))))), [])) none := (ev_eq (fn := Tryd.f143) (by kernel_rfl) (by kernel_rfl) (by kernel_rfl) _ _).trans (by kernel_rfl)
theorem pointer_decoders_2_eq (x0 : Int) : ev 165 [(.pv (PV.v (.int .u64 x0)))] [] =
  callT (ev 164 [(.pv (PV.v (.int .u64 x0))), (.pv (PV.v (.int .i64 2))), (.pv (PV.v (.int .i64 30)))] []) (fun a_1 h_2 => (onlyPV a_1).bind fun p_3 => callT (ev 132 [(.pv (PV.v (.int .u64 x0))), (.pv (PV.v (.int .i64 32))), (.pv (PV.v (.int .i64 3)))] []) (fun a_4 h_5 => (onlyPV a_4).bind fun p_6 => (pInt (.pv p_6)).bind fun q_7 => callT (ev 132 [(.pv (PV.v (.int .u64 x0))), (.pv (PV.v (.int .i64 35))), (.pv (PV.v (.int .i64 29)))] []) (fun a_8 h_9 => (onlyPV a_8).bind fun p_10 => (pInt (.pv p_10)).bind fun q_11 => cond (p_3.isCell && true) (cond ((p_3.isCell && true) && true) (cond (p_3.isCell && true) (some (.ret (.pv (.agg [(PV.v (.int .i64 0)), p_3, (PV.v (.int .i64 0)), (PV.v (.int .i64 0)), (PV.v (.int .i64 (IntKind.wrap .i64 q_7.2))), (PV.v (.int .i64 (IntKind.wrap .i64 q_11.2))), (PV.v (.bool false)), (PV.v (.int .i64 0)), (PV.v (.int .u32 0)), (PV.v (.int .u32 0))])), [])) none) none) none) (fun a_8 h_9 => some (.pan a_8, []))) (fun a_4 h_5 => some (.pan a_4, []))) (fun a_1 h_2 => some (.pan a_1, [])) := (ev_eq (fn := Tryd.f165) (by kernel_rfl) (by kernel_rfl) (by kernel_rfl) _ _).trans (by kernel_rfl)
end Go.Proofs.YthpbjpnbafiipaaDoor.E
