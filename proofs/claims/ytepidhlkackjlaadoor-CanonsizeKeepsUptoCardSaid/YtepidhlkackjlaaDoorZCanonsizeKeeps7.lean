/- This text is one of those that prove the law CanonsizeKeeps of the given program, as its statement says it: true on every input that the statement covers. Its conditions are the statement's own. -/
import Derived.KernelRfl
import Derived.Test.YtepidhlkackjlaaDoorZCanonsizeKeeps1
import Derived.Test.YtepidhlkackjlaaDoorZCanonsizeKeeps2
import Derived.Test.YtepidhlkackjlaaDoorZCanonsizeKeeps3
set_option linter.unusedVariables false
set_option linter.unusedSimpArgs false
set_option linter.unusedVariables false
namespace Go.Proofs.YtepidhlkackjlaaDoor.E
theorem canonsize_Total_eq (x0_0 : Int) (x0_1 : Int) (x0_2 : Int) (x0_3 : List PV) (x0_4 : List PV) : ev 11 [(.pv (.agg [(PV.v (.int .i64 x0_0)), (PV.v (.int .i64 x0_1)), (PV.v (.int .i64 x0_2)), (.sl 1 x0_3), (.sl 5 x0_4)]))] [] =
  callT (ev 10 [(.pv (.agg [(PV.v (.int .i64 x0_0)), (PV.v (.int .i64 x0_1)), (PV.v (.int .i64 x0_2)), (.sl 1 x0_3), (.sl 5 x0_4)]))] []) (fun a_1 h_2 => (onlyPV a_1).bind fun p_3 => (pIntK .i64 (.pv p_3)).bind fun n_4 => some (.ret (.pv (PV.v (.int .i64 (IntKind.wrap .i64 (n_4 + 1))))), [])) (fun a_1 h_2 => some (.pan a_1, [])) := (ev_eq (fn := Tryd.f11) (by kernel_rfl) (by kernel_rfl) (by kernel_rfl) _ _).trans (by kernel_rfl)
theorem canonsize_Object_eq (x0_0 : Int) (x0_1 : Int) (x0_2 : Int) (x0_3 : List PV) (x0_4 : List PV) : ev 13 [(.pv (.agg [(PV.v (.int .i64 x0_0)), (PV.v (.int .i64 x0_1)), (PV.v (.int .i64 x0_2)), (.sl 1 x0_3), (.sl 5 x0_4)]))] [] =
  cond (x0_0 == 0) (
  some (.ret (.pv (PV.v (.int .i64 0))), [])) (
  cond (x0_0 == 1) (
    some (.ret (.pv (PV.v (.int .i64 (IntKind.wrap .i64 ((IntKind.wrap .i64 (Int.tdiv (x0_3.length : Int) 8)) + (x0_4.length : Int)))))), [])) (
    cond (x0_1 == 7) (
      callT (ev 23 [(.pv (.agg [(PV.v (.int .i64 x0_0)), (PV.v (.int .i64 x0_1)), (PV.v (.int .i64 x0_2)), (.sl 1 x0_3), (.sl 5 x0_4)]))] []) (fun a_1 h_2 => (onlyPV a_1).bind fun p_3 => (pTup (.pv p_3)).bind fun ps_4 => (ps_4[0]?).bind fun p_5 => (pTup (.pv p_3)).bind fun ps_6 => (ps_6[1]?).bind fun p_7 => (pIntK .i64 (.pv p_5)).bind fun n_8 => (pIntK .i64 (.pv p_7)).bind fun n_9 => some (.ret (.pv (PV.v (.int .i64 (IntKind.wrap .i64 (1 + (IntKind.wrap .i64 (x0_2 * (IntKind.wrap .i64 (n_8 + n_9))))))))), [])) (fun a_1 h_2 => some (.pan a_1, []))) (
      callT (ev 24 [(.pv (PV.v (.int .i64 x0_1))), (.pv (PV.v (.int .i64 x0_2)))] []) (fun a_1 h_2 => (onlyPV a_1).bind fun p_3 => some (.ret (.pv p_3), [])) (fun a_1 h_2 => some (.pan a_1, []))))) := (ev_eq (fn := Tryd.f13) (by kernel_rfl) (by kernel_rfl) (by kernel_rfl) _ _).trans (by kernel_rfl)
noncomputable def B_capnpref10_Nesting : Code := Tryd.f37.body.getD .skip
noncomputable def capnpref10_Nesting_L0 (i0 : Int) (i1 : Int) (i2 : Int) (i3 : Int) (i4 : Int) (xs5 : List PV) (xs6 : List PV) : Option (Out × Heap) :=
  loopV (evW env ev iterW 22 37 0 (sub B_capnpref10_Nesting [1, 1, 0, 1, 0, 0])) (keepS env 37 0 1) (blockK 0 (seqK (evV env ev 22 37 0 (sub B_capnpref10_Nesting [1, 1, 1])) (finK env 37 Tryd.f37.results.toList 0))) ⟨ofL [(1, (.ptr 0 0)), (3, (.pv (PV.v (.int .i64 i0)))), (4, (.pv (PV.v (.int .i64 i1))))], [[(.pv (PV.v (.int .i64 i2))), (.pv (PV.v (.int .i64 i3))), (.pv (PV.v (.int .i64 i4))), (.pv (.sl 1 xs5)), (.pv (.sl 5 xs6))]]⟩
theorem capnpref10_Nesting_L0_eq (i0 : Int) (i1 : Int) (i2 : Int) (i3 : Int) (i4 : Int) (xs5 : List PV) (xs6 : List PV) : capnpref10_Nesting_L0 i0 i1 i2 i3 i4 xs5 xs6 =
  cond (decide (i1 < (xs6.length : Int))) (
  cond (decide (0 ≤ i1) && decide (i1 < (xs6.length : Int))) ((xs6[(i1).toNat]?).bind fun p_1 => cond (decide (5 ≤ p_1.cells.length)) (callT (ev 37 [(.pv (.agg ((p_1.cells.drop 0).take 5)))] []) (fun a_2 h_3 => (onlyPV a_2).bind fun p_4 => (pInt (.pv p_4)).bind fun q_5 => capnpref10_Nesting_L0 (if q_5.2 > i0 then q_5.2 else i0) (IntKind.wrap .i64 (i1 + 1)) i2 i3 i4 xs5 xs6) (fun a_2 h_3 => some (.pan a_2, []))) none) none) (
  some (.ret (.pv (PV.v (.int .i64 (IntKind.wrap .i64 (i0 + 1))))), [])) := (loopV_eq ..).trans (by kernel_rfl)
theorem capnpref10_Nesting_eq (x0_0 : Int) (x0_1 : Int) (x0_2 : Int) (x0_3 : List PV) (x0_4 : List PV) : ev 37 [(.pv (.agg [(PV.v (.int .i64 x0_0)), (PV.v (.int .i64 x0_1)), (PV.v (.int .i64 x0_2)), (.sl 1 x0_3), (.sl 5 x0_4)]))] [] =
  capnpref10_Nesting_L0 0 0 x0_0 x0_1 x0_2 x0_3 x0_4 := (ev_eq (fn := Tryd.f37) (by kernel_rfl) (by kernel_rfl) (by kernel_rfl) _ _).trans (by kernel_rfl)
end Go.Proofs.YtepidhlkackjlaaDoor.E
