/-
  DERIVED. GIVEN WITH THE SEED: THE PROGRAM's TIES (one call each: nine closed facts by the kernel) AND EACH ROW's TIE, after the 31st guide's Derived/Test/Toyas{Tie, Card}.lean. No idea stands in it: it is a product of the set-up. Laid BY PROGRAM, IN A SANDBOX (cutbox-door.mjs). By AI agents, Wed Nov 11 2026. No macro, syntax, notation, axiom, sorry.
-/
import Derived.Test.YtdcdefmdgicoeaaDoorRows
import Derived.LaidByTextLater
import Derived.SevenTiedAt
import Derived.LaidSub
import Derived.LaidOnce
namespace Go.Proofs.YtdcdefmdgicoeaaDoor
open Go
set_option maxRecDepth 100000
theorem seatTie1 : Tryd.prog.laidByTextLater [("capnp/pointer.decoders", Rows.laid_capnp_pointer_decoders), ("capnp/listsize.bits", Rows.laid_capnp_listsize_bits)] [.funcs, .data] true :=
  Program.laidByTextLater_by_one 39 8 9 (by kernel_rfl) (by kernel_rfl) (by kernel_rfl) (by kernel_rfl) (by kernel_rfl) (by kernel_rfl) (fun _ _ => by kernel_rfl)
theorem noOwnUnsafe : Tryd.pinned.checked.prog.headLifts.contains "ownunsafe" = false := by kernel_rfl
theorem tie : Tryd.prog.laidByTextLater [("capnp/pointer.decoders", Rows.laid_capnp_pointer_decoders), ("capnp/listsize.bits", Rows.laid_capnp_listsize_bits)] [.funcs, .data] true :=
  Program.laidByTextLater.sub seatTie1 ["capnp/pointer.decoders", "capnp/listsize.bits"] (by kernel_rfl) (by kernel_rfl)
theorem denoteKeepsMessage_row_tie : Rows.denoteKeepsMessageRow.laidByTextAt .later Tryd.pinned [.funcs, .data] true :=
  OpenClaim.laidByTextAt_later rfl rfl tie noOwnUnsafe
theorem denoteKeepsMessageUpto_row_tie : Rows.denoteKeepsMessageUptoRow.laidByTextAt .later Tryd.pinned [.funcs, .data] true :=
  OpenClaim.laidByTextAt_later rfl rfl tie noOwnUnsafe
end Go.Proofs.YtdcdefmdgicoeaaDoor
