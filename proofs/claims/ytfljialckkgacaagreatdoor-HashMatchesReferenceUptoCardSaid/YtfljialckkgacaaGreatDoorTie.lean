/-
  DERIVED. GIVEN WITH THE SEED: THE PROGRAM's TIES (one call each: nine closed facts by the kernel) AND EACH ROW's TIE, after the 31st guide's Derived/Test/Toyas{Tie, Card}.lean. No idea stands in it: it is a product of the set-up. Laid BY PROGRAM, IN A SANDBOX (cutbox-door.mjs). By AI agents, Wed Nov 11 2026. No macro, syntax, notation, axiom, sorry.
-/
import Derived.Test.YtfljialckkgacaaGreatDoorRows
import Derived.LaidByTextLater
import Derived.SevenTiedAt
import Derived.LaidSub
import Derived.LaidOnce
namespace Go.Proofs.YtfljialckkgacaaGreatDoor
open Go
set_option maxRecDepth 100000
theorem seatTie1 : Tryz.prog.laidByTextLater [("capnp/pointer.decoders", Rows.laid_capnp_pointer_decoders), ("capnp/listsize.bits", Rows.laid_capnp_listsize_bits)] [.funcs, .data] true :=
  Program.laidByTextLater_by_one 39 8 9 (by kernel_rfl) (by kernel_rfl) (by kernel_rfl) (by kernel_rfl) (by kernel_rfl) (by kernel_rfl) (fun _ _ => by kernel_rfl)
theorem noOwnUnsafe : Tryz.pinned.checked.prog.headLifts.contains "ownunsafe" = false := by kernel_rfl
theorem tie : Tryz.prog.laidByTextLater [("capnp/pointer.decoders", Rows.laid_capnp_pointer_decoders), ("capnp/listsize.bits", Rows.laid_capnp_listsize_bits)] [.funcs, .data] true :=
  Program.laidByTextLater.sub seatTie1 ["capnp/pointer.decoders", "capnp/listsize.bits"] (by kernel_rfl) (by kernel_rfl)
theorem canonMatchesReference_row_tie : Rows.canonMatchesReferenceRow.laidByTextAt .later Tryz.pinned [.funcs, .data] true :=
  OpenClaim.laidByTextAt_later rfl rfl tie noOwnUnsafe
theorem canonicalizeIsCanonical_row_tie : Rows.canonicalizeIsCanonicalRow.laidByTextAt .later Tryz.pinned [.funcs, .data] true :=
  OpenClaim.laidByTextAt_later rfl rfl tie noOwnUnsafe
theorem canonIsIdempotent_row_tie : Rows.canonIsIdempotentRow.laidByTextAt .later Tryz.pinned [.funcs, .data] true :=
  OpenClaim.laidByTextAt_later rfl rfl tie noOwnUnsafe
theorem canonSize_row_tie : Rows.canonSizeRow.laidByTextAt .later Tryz.pinned [.funcs, .data] true :=
  OpenClaim.laidByTextAt_later rfl rfl tie noOwnUnsafe
theorem hashMatchesReference_row_tie : Rows.hashMatchesReferenceRow.laidByTextAt .later Tryz.pinned [.funcs, .data] true :=
  OpenClaim.laidByTextAt_later rfl rfl tie noOwnUnsafe
theorem hashOfEqualMessages_row_tie : Rows.hashOfEqualMessagesRow.laidByTextAt .later Tryz.pinned [.funcs, .data] true :=
  OpenClaim.laidByTextAt_later rfl rfl tie noOwnUnsafe
theorem hashOfCanonicalForm_row_tie : Rows.hashOfCanonicalFormRow.laidByTextAt .later Tryz.pinned [.funcs, .data] true :=
  OpenClaim.laidByTextAt_later rfl rfl tie noOwnUnsafe
theorem canonMatchesReferenceUpto_row_tie : Rows.canonMatchesReferenceUptoRow.laidByTextAt .later Tryz.pinned [.funcs, .data] true :=
  OpenClaim.laidByTextAt_later rfl rfl tie noOwnUnsafe
theorem canonicalizeIsCanonicalUpto_row_tie : Rows.canonicalizeIsCanonicalUptoRow.laidByTextAt .later Tryz.pinned [.funcs, .data] true :=
  OpenClaim.laidByTextAt_later rfl rfl tie noOwnUnsafe
theorem canonIsIdempotentUpto_row_tie : Rows.canonIsIdempotentUptoRow.laidByTextAt .later Tryz.pinned [.funcs, .data] true :=
  OpenClaim.laidByTextAt_later rfl rfl tie noOwnUnsafe
theorem canonSizeUpto_row_tie : Rows.canonSizeUptoRow.laidByTextAt .later Tryz.pinned [.funcs, .data] true :=
  OpenClaim.laidByTextAt_later rfl rfl tie noOwnUnsafe
theorem hashMatchesReferenceUpto_row_tie : Rows.hashMatchesReferenceUptoRow.laidByTextAt .later Tryz.pinned [.funcs, .data] true :=
  OpenClaim.laidByTextAt_later rfl rfl tie noOwnUnsafe
theorem hashOfEqualMessagesUpto_row_tie : Rows.hashOfEqualMessagesUptoRow.laidByTextAt .later Tryz.pinned [.funcs, .data] true :=
  OpenClaim.laidByTextAt_later rfl rfl tie noOwnUnsafe
theorem hashOfCanonicalFormUpto_row_tie : Rows.hashOfCanonicalFormUptoRow.laidByTextAt .later Tryz.pinned [.funcs, .data] true :=
  OpenClaim.laidByTextAt_later rfl rfl tie noOwnUnsafe
end Go.Proofs.YtfljialckkgacaaGreatDoor
