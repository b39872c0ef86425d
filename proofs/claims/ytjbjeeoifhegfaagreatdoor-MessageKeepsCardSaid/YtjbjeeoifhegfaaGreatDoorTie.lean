/-
  DERIVED. GIVEN WITH THE SEED: THE PROGRAM's TIES (one call each: nine closed facts by the kernel) AND EACH ROW's TIE, after the 31st guide's Derived/Test/Toyas{Tie, Card}.lean. No idea stands in it: it is a product of the set-up. Laid BY PROGRAM, IN A SANDBOX (cutbox-door.mjs). By AI agents, Wed Nov 11 2026. No macro, syntax, notation, axiom, sorry.
-/
import Derived.Test.YtjbjeeoifhegfaaGreatDoorRows
import Derived.LaidByTextLater
import Derived.SevenTiedAt
import Derived.LaidSub
import Derived.LaidOnce
namespace Go.Proofs.YtjbjeeoifhegfaaGreatDoor
open Go
set_option maxRecDepth 100000
theorem seatTie1 : Tryz.prog.laidByTextLater [("capnp/unpackstream.steps", Rows.laid_capnp_unpackstream_steps), ("capnp/pointer.decoders", Rows.laid_capnp_pointer_decoders), ("errors.errorType", Rows.laid_errors_errorType), ("capnp/unpack.errTruncated", Rows.laid_capnp_unpack_errTruncated), ("capnp/unpack.errLimit", Rows.laid_capnp_unpack_errLimit), ("capnp/listsize.bits", Rows.laid_capnp_listsize_bits)] [.funcs, .funcs, .handle, .sentinel, .sentinel, .data] true :=
  Program.laidByTextLater_by_one 89 8 9 (by kernel_rfl) (by kernel_rfl) (by kernel_rfl) (by kernel_rfl) (by kernel_rfl) (by kernel_rfl) (fun _ _ => by kernel_rfl)
theorem noOwnUnsafe : Tryz.pinned.checked.prog.headLifts.contains "ownunsafe" = false := by kernel_rfl
theorem tie : Tryz.prog.laidByTextLater [("capnp/pointer.decoders", Rows.laid_capnp_pointer_decoders), ("errors.errorType", Rows.laid_errors_errorType), ("capnp/unpack.errTruncated", Rows.laid_capnp_unpack_errTruncated), ("capnp/unpack.errLimit", Rows.laid_capnp_unpack_errLimit), ("capnp/listsize.bits", Rows.laid_capnp_listsize_bits)] [.funcs, .handle, .sentinel, .sentinel, .data] true :=
  Program.laidByTextLater.sub seatTie1 ["capnp/pointer.decoders", "errors.errorType", "capnp/unpack.errTruncated", "capnp/unpack.errLimit", "capnp/listsize.bits"] (by kernel_rfl) (by kernel_rfl)
theorem wholeErrors_row_tie : Rows.wholeErrorsRow.laidByTextAt .later Tryz.pinned [.funcs, .handle, .sentinel, .sentinel, .data] true :=
  OpenClaim.laidByTextAt_later rfl rfl tie noOwnUnsafe
theorem wholeShortest_row_tie : Rows.wholeShortestRow.laidByTextAt .later Tryz.pinned [.funcs, .handle, .sentinel, .sentinel, .data] true :=
  OpenClaim.laidByTextAt_later rfl rfl tie noOwnUnsafe
theorem messageMatchesReference_row_tie : Rows.messageMatchesReferenceRow.laidByTextAt .later Tryz.pinned [.funcs, .handle, .sentinel, .sentinel, .data] true :=
  OpenClaim.laidByTextAt_later rfl rfl tie noOwnUnsafe
theorem messageCanonical_row_tie : Rows.messageCanonicalRow.laidByTextAt .later Tryz.pinned [.funcs, .handle, .sentinel, .sentinel, .data] true :=
  OpenClaim.laidByTextAt_later rfl rfl tie noOwnUnsafe
theorem messageEqual_row_tie : Rows.messageEqualRow.laidByTextAt .later Tryz.pinned [.funcs, .handle, .sentinel, .sentinel, .data] true :=
  OpenClaim.laidByTextAt_later rfl rfl tie noOwnUnsafe
theorem messageHash_row_tie : Rows.messageHashRow.laidByTextAt .later Tryz.pinned [.funcs, .handle, .sentinel, .sentinel, .data] true :=
  OpenClaim.laidByTextAt_later rfl rfl tie noOwnUnsafe
theorem messagePack_row_tie : Rows.messagePackRow.laidByTextAt .later Tryz.pinned [.funcs, .handle, .sentinel, .sentinel, .data] true :=
  OpenClaim.laidByTextAt_later rfl rfl tie noOwnUnsafe
theorem messageKeeps_row_tie : Rows.messageKeepsRow.laidByTextAt .later Tryz.pinned [.funcs, .handle, .sentinel, .sentinel, .data] true :=
  OpenClaim.laidByTextAt_later rfl rfl tie noOwnUnsafe
theorem wholeLimits_row_tie : Rows.wholeLimitsRow.laidByTextAt .later Tryz.pinned [.funcs, .handle, .sentinel, .sentinel, .data] true :=
  OpenClaim.laidByTextAt_later rfl rfl tie noOwnUnsafe
theorem wholeLayouts_row_tie : Rows.wholeLayoutsRow.laidByTextAt .later Tryz.pinned [.funcs, .handle, .sentinel, .sentinel, .data] true :=
  OpenClaim.laidByTextAt_later rfl rfl tie noOwnUnsafe
theorem tie2 : Tryz.prog.laidByTextLater [("capnp/unpackstream.steps", Rows.laid_capnp_unpackstream_steps), ("capnp/pointer.decoders", Rows.laid_capnp_pointer_decoders), ("errors.errorType", Rows.laid_errors_errorType), ("capnp/unpack.errTruncated", Rows.laid_capnp_unpack_errTruncated), ("capnp/unpack.errLimit", Rows.laid_capnp_unpack_errLimit), ("capnp/listsize.bits", Rows.laid_capnp_listsize_bits)] [.funcs, .funcs, .handle, .sentinel, .sentinel, .data] true :=
  Program.laidByTextLater.sub seatTie1 ["capnp/unpackstream.steps", "capnp/pointer.decoders", "errors.errorType", "capnp/unpack.errTruncated", "capnp/unpack.errLimit", "capnp/listsize.bits"] (by kernel_rfl) (by kernel_rfl)
theorem wholeStreams_row_tie : Rows.wholeStreamsRow.laidByTextAt .later Tryz.pinned [.funcs, .funcs, .handle, .sentinel, .sentinel, .data] true :=
  OpenClaim.laidByTextAt_later rfl rfl tie2 noOwnUnsafe
theorem wholeErrorsUpto_row_tie : Rows.wholeErrorsUptoRow.laidByTextAt .later Tryz.pinned [.funcs, .handle, .sentinel, .sentinel, .data] true :=
  OpenClaim.laidByTextAt_later rfl rfl tie noOwnUnsafe
theorem wholeStreamsUpto_row_tie : Rows.wholeStreamsUptoRow.laidByTextAt .later Tryz.pinned [.funcs, .funcs, .handle, .sentinel, .sentinel, .data] true :=
  OpenClaim.laidByTextAt_later rfl rfl tie2 noOwnUnsafe
theorem wholeShortestUpto_row_tie : Rows.wholeShortestUptoRow.laidByTextAt .later Tryz.pinned [.funcs, .handle, .sentinel, .sentinel, .data] true :=
  OpenClaim.laidByTextAt_later rfl rfl tie noOwnUnsafe
theorem messageMatchesReferenceUpto_row_tie : Rows.messageMatchesReferenceUptoRow.laidByTextAt .later Tryz.pinned [.funcs, .handle, .sentinel, .sentinel, .data] true :=
  OpenClaim.laidByTextAt_later rfl rfl tie noOwnUnsafe
theorem messageCanonicalUpto_row_tie : Rows.messageCanonicalUptoRow.laidByTextAt .later Tryz.pinned [.funcs, .handle, .sentinel, .sentinel, .data] true :=
  OpenClaim.laidByTextAt_later rfl rfl tie noOwnUnsafe
theorem messageEqualUpto_row_tie : Rows.messageEqualUptoRow.laidByTextAt .later Tryz.pinned [.funcs, .handle, .sentinel, .sentinel, .data] true :=
  OpenClaim.laidByTextAt_later rfl rfl tie noOwnUnsafe
theorem messageHashUpto_row_tie : Rows.messageHashUptoRow.laidByTextAt .later Tryz.pinned [.funcs, .handle, .sentinel, .sentinel, .data] true :=
  OpenClaim.laidByTextAt_later rfl rfl tie noOwnUnsafe
theorem messagePackUpto_row_tie : Rows.messagePackUptoRow.laidByTextAt .later Tryz.pinned [.funcs, .handle, .sentinel, .sentinel, .data] true :=
  OpenClaim.laidByTextAt_later rfl rfl tie noOwnUnsafe
theorem messageKeepsUpto_row_tie : Rows.messageKeepsUptoRow.laidByTextAt .later Tryz.pinned [.funcs, .handle, .sentinel, .sentinel, .data] true :=
  OpenClaim.laidByTextAt_later rfl rfl tie noOwnUnsafe
theorem wholeLimitsUpto_row_tie : Rows.wholeLimitsUptoRow.laidByTextAt .later Tryz.pinned [.funcs, .handle, .sentinel, .sentinel, .data] true :=
  OpenClaim.laidByTextAt_later rfl rfl tie noOwnUnsafe
theorem wholeLayoutsUpto_row_tie : Rows.wholeLayoutsUptoRow.laidByTextAt .later Tryz.pinned [.funcs, .handle, .sentinel, .sentinel, .data] true :=
  OpenClaim.laidByTextAt_later rfl rfl tie noOwnUnsafe
end Go.Proofs.YtjbjeeoifhegfaaGreatDoor
