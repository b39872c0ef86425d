/- This text is one of those that prove the law CanonsizeKeeps of the given program, as its statement says it: true on every input that the statement covers. Its conditions are the statement's own. -/
import Derived.KernelRfl
import Derived.Test.YtepidhlkackjlaaDoorZCanonsizeKeeps1
import Derived.Test.YtepidhlkackjlaaDoorZCanonsizeKeeps2
import Derived.Test.YtepidhlkackjlaaDoorZCanonsizeKeeps3
set_option linter.unusedVariables false
set_option linter.unusedSimpArgs false
set_option linter.unusedVariables false
namespace Go.Proofs.YtepidhlkackjlaaDoor.E
noncomputable def B_trim_Uniform : Code := Tryd.f23.body.getD .skip
noncomputable def trim_Uniform_L0 (i0 : Int) (i1 : Int) (xs2 : List PV) (i3 : Int) (i4 : Int) (i5 : Int) (i6 : Int) (i7 : Int) (xs8 : List PV) (xs9 : List PV) : Option (Out × Heap) :=
  loopV (evW env ev iterW 29 23 0 (sub B_trim_Uniform [1, 1, 0, 1, 0, 0])) (keepS env 23 0 1) (blockK 0 (seqK (evV env ev 29 23 0 (sub B_trim_Uniform [1, 1, 1])) (finK env 23 Tryd.f23.results.toList 0))) ⟨ofL [(4, (.pv (PV.v (.int .i64 i0)))), (5, (.pv (PV.v (.int .i64 i1)))), (9, (.pv (.sl 5 xs2))), (10, (.pv (PV.v (.int .i64 i3)))), (11, (.pv (PV.v (.int .i64 i4))))], [[(.pv (PV.v (.int .i64 i5))), (.pv (PV.v (.int .i64 i6))), (.pv (PV.v (.int .i64 i7))), (.pv (.sl 1 xs8)), (.pv (.sl 5 xs9))]]⟩
theorem trim_Uniform_L0_eq (i0 : Int) (i1 : Int) (xs2 : List PV) (i3 : Int) (i4 : Int) (i5 : Int) (i6 : Int) (i7 : Int) (xs8 : List PV) (xs9 : List PV) : trim_Uniform_L0 i0 i1 xs2 i3 i4 i5 i6 i7 xs8 xs9 =
  cond (decide (i4 < i3)) (
  cond (decide (0 ≤ i4) && decide (i4 < (xs2.length : Int))) ((xs2[(i4).toNat]?).bind fun p_1 => cond (decide (5 ≤ p_1.cells.length)) (cond (decide (((p_1.cells.drop 0).take 5).length = 5)) ((((p_1.cells.drop 0).take 5)[0]?).bind fun p_2 => (((p_1.cells.drop 0).take 5)[1]?).bind fun p_3 => (((p_1.cells.drop 0).take 5)[2]?).bind fun p_4 => (((p_1.cells.drop 0).take 5)[3]?).bind fun p_5 => (((p_1.cells.drop 0).take 5)[4]?).bind fun p_6 => cond (p_2.isCell && (p_3.isCell && (p_4.isCell && (p_5.isCell && (p_6.isCell && true))))) ((pSl p_5).bind fun l_7 => (pSl p_6).bind fun l_8 => trim_Uniform_L0 (if (IntKind.wrap .i64 (Int.tdiv (l_7.2.length : Int) 8)) > i0 then (IntKind.wrap .i64 (Int.tdiv (l_7.2.length : Int) 8)) else i0) (if (l_8.2.length : Int) > i1 then (l_8.2.length : Int) else i1) xs2 i3 (IntKind.wrap .i64 (i4 + 1)) i5 i6 i7 xs8 xs9) none) none) none) none) (
  some (.ret (.pv (.tup [(PV.v (.int .i64 i0)), (PV.v (.int .i64 i1))])), [])) := (loopV_eq ..).trans (by kernel_rfl)
theorem trim_Uniform_eq (x0_0 : Int) (x0_1 : Int) (x0_2 : Int) (x0_3 : List PV) (x0_4 : List PV) : ev 23 [(.pv (.agg [(PV.v (.int .i64 x0_0)), (PV.v (.int .i64 x0_1)), (PV.v (.int .i64 x0_2)), (.sl 1 x0_3), (.sl 5 x0_4)]))] [] =
  trim_Uniform_L0 0 0 x0_4 (x0_4.length : Int) 0 x0_0 x0_1 x0_2 x0_3 x0_4 := (ev_eq (fn := Tryd.f23) (by kernel_rfl) (by kernel_rfl) (by kernel_rfl) _ _).trans (by kernel_rfl)
noncomputable def B_capnpref06_Trim : Code := Tryd.f31.body.getD .skip
noncomputable def capnpref06_Trim_L0 (i0 : Int) (i1 : Int) (xs2 : List PV) (xs3 : List PV) (i4 : Int) : Option (Out × Heap) :=
  loopV (evW env ev iterW 54 31 0 (sub B_capnpref06_Trim [1, 1, 0, 1, 0, 0])) (keepS env 31 0 0) (blockK 0 (seqK (evV env ev 54 31 0 (sub B_capnpref06_Trim [1, 1, 1])) (finK env 31 Tryd.f31.results.toList 0))) ⟨ofL [(0, (.pv (PV.v (.int .i64 i0)))), (1, (.pv (PV.v (.int .i64 i1)))), (2, (.pv (.sl 1 xs2))), (7, (.slu 5 1 xs3)), (8, (.pv (PV.v (.int .i64 i4))))], []⟩
noncomputable def capnpref06_Trim_L2 (i0 : Int) (i1 : Int) (xs2 : List PV) (xs3 : List PV) (i4 : Int) (p5 : PV) (i6 : Int) (i7 : Int) (i8 : Int) : Option (Out × Heap) :=
  loopV (evW env ev iterW 54 31 2 (sub B_capnpref06_Trim [1, 1, 0, 1, 0, 0, 1, 0, 0, 1, 0, 1, 0, 1, 1, 0, 1, 0, 0])) (keepS env 31 2 0) (blockK 2 (seqK (evV env ev 54 31 1 (sub B_capnpref06_Trim [1, 1, 0, 1, 0, 0, 1, 0, 0, 1, 0, 1, 0, 1, 1, 1])) (seqK (evV env ev 54 31 1 (sub B_capnpref06_Trim [1, 1, 0, 1, 0, 0, 1, 0, 0, 1, 1])) (blockK 1 (seqK (evV env ev 54 31 0 (sub B_capnpref06_Trim [1, 1, 0, 1, 0, 0, 1, 1])) (roundV (evW env ev iterW 54 31 0 (sub B_capnpref06_Trim [1, 1, 0, 1, 0, 0])) (keepS env 31 0 0) (blockK 0 (seqK (evV env ev 54 31 0 (sub B_capnpref06_Trim [1, 1, 1])) (finK env 31 Tryd.f31.results.toList 0))))))))) ⟨ofL [(0, (.pv (PV.v (.int .i64 i0)))), (1, (.pv (PV.v (.int .i64 i1)))), (2, (.pv (.sl 1 xs2))), (7, (.slu 5 1 xs3)), (8, (.pv (PV.v (.int .i64 i4)))), (9, (.pv p5)), (10, (.pv (PV.v (.int .i64 i6)))), (11, (.pv (PV.v (.int .i64 i7)))), (12, (.pv (PV.v (.int .i64 i8))))], []⟩
theorem capnpref06_Trim_L0_eq (i0 : Int) (i1 : Int) (xs2 : List PV) (xs3 : List PV) (i4 : Int) : capnpref06_Trim_L0 i0 i1 xs2 xs3 i4 =
  callT (ev 38 [(.pv (PV.v (.int .i64 i0))), (.pv (PV.v (.int .i64 i1)))] []) (fun a_1 h_2 => (onlyPV a_1).bind fun p_3 => (pIntK .i64 (.pv p_3)).bind fun n_4 => cond (decide (i4 < n_4)) (
  cond (decide (0 ≤ i4) && decide (i4 < (xs2.length : Int))) ((xs2[(i4).toNat]?).bind fun p_5 => (p_5.cells[0]?).bind fun p_6 => cond (i0 == 1) (
  cond (decide ((IntKind.wrap .i64 ((IntKind.wrap .i64 (8 * i4)) + 8)) > i1)) (
  capnpref06_Trim_L2 i0 i1 xs2 xs3 i4 p_6 (IntKind.wrap .i64 (i1 - (IntKind.wrap .i64 (8 * i4)))) 1 0) (
  cond ((decide (p_6.cells.length = 1) && p_6.cells.all PV.isCell) && true) (cond (roomy (xs3.length + 1) 1) (capnpref06_Trim_L0 i0 i1 xs2 (xs3 ++ [p_6]) (IntKind.wrap .i64 (i4 + 1))) none) none)) (
  cond ((decide (p_6.cells.length = 1) && p_6.cells.all PV.isCell) && true) (cond (roomy (xs3.length + 1) 1) (capnpref06_Trim_L0 i0 i1 xs2 (xs3 ++ [p_6]) (IntKind.wrap .i64 (i4 + 1))) none) none)) none) (
  some (.ret (.pv (.sl 1 xs3)), []))) (fun a_1 h_2 => some (.pan a_1, [])) := (loopV_eq ..).trans (by kernel_rfl)
theorem capnpref06_Trim_L2_eq (i0 : Int) (i1 : Int) (xs2 : List PV) (xs3 : List PV) (i4 : Int) (p5 : PV) (i6 : Int) (i7 : Int) (i8 : Int) : capnpref06_Trim_L2 i0 i1 xs2 xs3 i4 p5 i6 i7 i8 =
  cond (decide (i8 < i6)) (
  capnpref06_Trim_L2 i0 i1 xs2 xs3 i4 p5 i6 (IntKind.wrap .i64 (i7 * 2)) (IntKind.wrap .i64 (i8 + 1))) (
  (pInt (.pv p5)).bind fun q_1 => cond (okBin .rem i7) (cond (roomy (xs3.length + 1) 1) (capnpref06_Trim_L0 i0 i1 xs2 (xs3 ++ [(PV.v (.int .u8 (IntKind.wrap .u8 (Int.tmod (IntKind.wrap .i64 q_1.2) i7))))]) (IntKind.wrap .i64 (i4 + 1))) none) none) := (loopV_eq ..).trans (by kernel_rfl)
theorem capnpref06_Trim_eq (x0 : Int) (x1 : Int) (x2 : List PV) : ev 31 [(.pv (PV.v (.int .i64 x0))), (.pv (PV.v (.int .i64 x1))), (.pv (.sl 1 x2))] [] =
  capnpref06_Trim_L0 x0 x1 x2 [] 0 := (ev_eq (fn := Tryd.f31) (by kernel_rfl) (by kernel_rfl) (by kernel_rfl) _ _).trans (by kernel_rfl)
noncomputable def B_capnpref11_Pointers : Code := Tryd.f35.body.getD .skip
noncomputable def capnpref11_Pointers_L0 (xs0 : List PV) (i1 : Int) (i2 : Int) : Option (Out × Heap) :=
  loopV (evW env ev iterW 20 35 0 (sub B_capnpref11_Pointers [1, 1, 0, 1, 0, 0])) (keepS env 35 0 0) (blockK 0 (seqK (evV env ev 20 35 0 (sub B_capnpref11_Pointers [1, 1, 1])) (finK env 35 Tryd.f35.results.toList 0))) ⟨ofL [(0, (.pv (.sl 5 xs0))), (3, (.pv (PV.v (.int .i64 i1)))), (4, (.pv (PV.v (.int .i64 i2))))], []⟩
theorem capnpref11_Pointers_L0_eq (xs0 : List PV) (i1 : Int) (i2 : Int) : capnpref11_Pointers_L0 xs0 i1 i2 =
  cond (decide (i2 < (xs0.length : Int))) (
  cond (decide (0 ≤ i2) && decide (i2 < (xs0.length : Int))) ((xs0[(i2).toNat]?).bind fun p_1 => (p_1.cells[0]?).bind fun p_2 => (pIntK .i64 (.pv p_2)).bind fun n_3 => cond (n_3 != 0) (
  capnpref11_Pointers_L0 xs0 (IntKind.wrap .i64 (i2 + 1)) (IntKind.wrap .i64 (i2 + 1))) (
  capnpref11_Pointers_L0 xs0 i1 (IntKind.wrap .i64 (i2 + 1)))) none) (
  some (.ret (.pv (PV.v (.int .i64 i1))), [])) := (loopV_eq ..).trans (by kernel_rfl)
theorem capnpref11_Pointers_eq (x0 : List PV) : ev 35 [(.pv (.sl 5 x0))] [] =
  capnpref11_Pointers_L0 x0 0 0 := (ev_eq (fn := Tryd.f35) (by kernel_rfl) (by kernel_rfl) (by kernel_rfl) _ _).trans (by kernel_rfl)
theorem listsize_up_eq (x0 : Int) (x1 : Int) : ev 39 [(.pv (PV.v (.int .i64 x0))), (.pv (PV.v (.int .i64 x1)))] [] =
  cond (okBin .quo x1) (some (.ret (.pv (PV.v (.int .i64 (IntKind.wrap .i64 (Int.tdiv (IntKind.wrap .i64 ((IntKind.wrap .i64 (x0 + x1)) - 1)) x1))))), [])) none := (ev_eq (fn := Tryd.f39) (by kernel_rfl) (by kernel_rfl) (by kernel_rfl) _ _).trans (by kernel_rfl)
end Go.Proofs.YtepidhlkackjlaaDoor.E
