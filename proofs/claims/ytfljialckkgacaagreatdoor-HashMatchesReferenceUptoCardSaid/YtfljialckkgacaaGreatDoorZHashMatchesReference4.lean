/- This text is one of those that prove the law HashMatchesReference of the given program, as its statement says it: true on every input that the statement covers. Its conditions are the statement's own. -/
import Derived.KernelRfl
import Derived.Test.YtfljialckkgacaaGreatDoorZHashMatchesReference1
import Derived.Test.YtfljialckkgacaaGreatDoorZHashMatchesReference2
import Derived.Test.YtfljialckkgacaaGreatDoorZHashMatchesReference3
set_option linter.unusedVariables false
set_option linter.unusedSimpArgs false
set_option linter.unusedVariables false
namespace Go.Proofs.YtfljialckkgacaaGreatDoor.E
theorem hash_of_uint64_eq (x0 : List PV) (x1_0 : Int) (x1_1 : Int) (x1_2 : Int) : ev 45 [(.pv (.sl 1 x0)), (.pv (.agg [(PV.v (.int .i64 x1_0)), (PV.v (.int .i64 x1_1)), (PV.v (.int .i64 x1_2))])), (.pv (.v (.func (.func 26) #[] #[])))] [] =
  callT (ev 53 [(.pv (.sl 1 x0)), (.pv (.agg [(PV.v (.int .i64 x1_0)), (PV.v (.int .i64 x1_1)), (PV.v (.int .i64 x1_2))]))] []) (fun a_1 h_2 => (onlyPV a_1).bind fun p_3 => (pTup (.pv p_3)).bind fun ps_4 => (ps_4[0]?).bind fun p_5 => (pTup (.pv p_3)).bind fun ps_6 => (ps_6[1]?).bind fun p_7 => cond (decide (p_5.cells.length = 5)) ((p_5.cells[0]?).bind fun p_8 => (p_5.cells[1]?).bind fun p_9 => (p_5.cells[2]?).bind fun p_10 => (p_5.cells[3]?).bind fun p_11 => (p_5.cells[4]?).bind fun p_12 => cond (p_8.isCell && (p_9.isCell && (p_10.isCell && (p_11.isCell && (p_12.isCell && true))))) ((pIntK .i64 (.pv p_7)).bind fun n_13 => cond (n_13 == 0) (
  callT (ev 26 [(.pv (.agg [p_8, p_9, p_10, p_11, p_12]))] []) (fun a_14 h_15 => (onlyPV a_14).bind fun p_16 => some (.ret (.pv (.tup [p_16, p_7])), [])) (fun a_14 h_15 => some (.pan a_14, []))) (
  some (.ret (.pv (.tup [(PV.v (.int .u64 0)), p_7])), []))) none) none) (fun a_1 h_2 => some (.pan a_1, [])) := (ev_eq (fn := Tryz.f45) (by kernel_rfl) (by kernel_rfl) (by kernel_rfl) _ _).trans (by kernel_rfl)
theorem hash_of_int_eq (x0 : List PV) (x1_0 : Int) (x1_1 : Int) (x1_2 : Int) : ev 46 [(.pv (.sl 1 x0)), (.pv (.agg [(PV.v (.int .i64 x1_0)), (PV.v (.int .i64 x1_1)), (PV.v (.int .i64 x1_2))])), (.pv (.v (.func (.func 47) #[] #[])))] [] =
  callT (ev 53 [(.pv (.sl 1 x0)), (.pv (.agg [(PV.v (.int .i64 x1_0)), (PV.v (.int .i64 x1_1)), (PV.v (.int .i64 x1_2))]))] []) (fun a_1 h_2 => (onlyPV a_1).bind fun p_3 => (pTup (.pv p_3)).bind fun ps_4 => (ps_4[0]?).bind fun p_5 => (pTup (.pv p_3)).bind fun ps_6 => (ps_6[1]?).bind fun p_7 => cond (decide (p_5.cells.length = 5)) ((p_5.cells[0]?).bind fun p_8 => (p_5.cells[1]?).bind fun p_9 => (p_5.cells[2]?).bind fun p_10 => (p_5.cells[3]?).bind fun p_11 => (p_5.cells[4]?).bind fun p_12 => cond (p_8.isCell && (p_9.isCell && (p_10.isCell && (p_11.isCell && (p_12.isCell && true))))) ((pIntK .i64 (.pv p_7)).bind fun n_13 => cond (n_13 == 0) (
  callT (ev 47 [(.pv (.agg [p_8, p_9, p_10, p_11, p_12]))] []) (fun a_14 h_15 => (onlyPV a_14).bind fun p_16 => some (.ret (.pv (.tup [p_16, p_7])), [])) (fun a_14 h_15 => some (.pan a_14, []))) (
  some (.ret (.pv (.tup [(PV.v (.int .i64 0)), p_7])), []))) none) none) (fun a_1 h_2 => some (.pan a_1, [])) := (ev_eq (fn := Tryz.f46) (by kernel_rfl) (by kernel_rfl) (by kernel_rfl) _ _).trans (by kernel_rfl)
end Go.Proofs.YtfljialckkgacaaGreatDoor.E
