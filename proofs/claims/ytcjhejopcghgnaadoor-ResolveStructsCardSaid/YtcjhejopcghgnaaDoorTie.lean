/-
  DERIVED. GIVEN WITH THE SEED: THE PROGRAM's TIES (one call each: nine closed facts by the kernel) AND EACH ROW's TIE, after the 31st guide's Derived/Test/Toyas{Tie, Card}.lean. No idea stands in it: it is a product of the set-up. Laid BY PROGRAM, IN A SANDBOX (cutbox-door.mjs). By AI agents, Wed Nov 11 2026. No macro, syntax, notation, axiom, sorry.
-/
import Derived.Test.YtcjhejopcghgnaaDoorRows
import Derived.LaidByTextLater
import Derived.SevenTiedAt
import Derived.LaidSub
import Derived.LaidOnce
namespace Go.Proofs.YtcjhejopcghgnaaDoor
open Go
set_option maxRecDepth 100000
theorem seatTie1 : Tryd.prog.laidByTextLater [("capnp/pointer.decoders", Rows.laid_capnp_pointer_decoders), ("capnp/listsize.bits", Rows.laid_capnp_listsize_bits)] [.funcs, .data] true :=
  Program.laidByTextLater_by_one 39 8 9 (by kernel_rfl) (by kernel_rfl) (by kernel_rfl) (by kernel_rfl) (by kernel_rfl) (by kernel_rfl) (fun _ _ => by kernel_rfl)
theorem noOwnUnsafe : Tryd.pinned.checked.prog.headLifts.contains "ownunsafe" = false := by kernel_rfl
theorem tie : Tryd.prog.laidByTextLater [("capnp/pointer.decoders", Rows.laid_capnp_pointer_decoders)] [.funcs] true :=
  Program.laidByTextLater.sub seatTie1 ["capnp/pointer.decoders"] (by kernel_rfl) (by kernel_rfl)
theorem farMatchesReference_row_tie : Rows.farMatchesReferenceRow.laidByTextAt .later Tryd.pinned [.funcs] true :=
  OpenClaim.laidByTextAt_later rfl rfl tie noOwnUnsafe
theorem farPointersAreFollowed_row_tie : Rows.farPointersAreFollowedRow.laidByTextAt .later Tryd.pinned [.funcs] true :=
  OpenClaim.laidByTextAt_later rfl rfl tie noOwnUnsafe
theorem farDescriptors_row_tie : Rows.farDescriptorsRow.laidByTextAt .later Tryd.pinned [.funcs] true :=
  OpenClaim.laidByTextAt_later rfl rfl tie noOwnUnsafe
theorem farKeeps_row_tie : Rows.farKeepsRow.laidByTextAt .later Tryd.pinned [.funcs] true :=
  OpenClaim.laidByTextAt_later rfl rfl tie noOwnUnsafe
theorem tie2 : Tryd.prog.laidByTextLater [("capnp/pointer.decoders", Rows.laid_capnp_pointer_decoders), ("capnp/listsize.bits", Rows.laid_capnp_listsize_bits)] [.funcs, .data] true :=
  Program.laidByTextLater.sub seatTie1 ["capnp/pointer.decoders", "capnp/listsize.bits"] (by kernel_rfl) (by kernel_rfl)
theorem resolveMatchesReference_row_tie : Rows.resolveMatchesReferenceRow.laidByTextAt .later Tryd.pinned [.funcs, .data] true :=
  OpenClaim.laidByTextAt_later rfl rfl tie2 noOwnUnsafe
theorem resolvedObjectsAreInBounds_row_tie : Rows.resolvedObjectsAreInBoundsRow.laidByTextAt .later Tryd.pinned [.funcs, .data] true :=
  OpenClaim.laidByTextAt_later rfl rfl tie2 noOwnUnsafe
theorem resolveStructs_row_tie : Rows.resolveStructsRow.laidByTextAt .later Tryd.pinned [.funcs, .data] true :=
  OpenClaim.laidByTextAt_later rfl rfl tie2 noOwnUnsafe
theorem resolveThroughFar_row_tie : Rows.resolveThroughFarRow.laidByTextAt .later Tryd.pinned [.funcs, .data] true :=
  OpenClaim.laidByTextAt_later rfl rfl tie2 noOwnUnsafe
theorem resolveElements_row_tie : Rows.resolveElementsRow.laidByTextAt .later Tryd.pinned [.funcs, .data] true :=
  OpenClaim.laidByTextAt_later rfl rfl tie2 noOwnUnsafe
theorem farMatchesReferenceUpto_row_tie : Rows.farMatchesReferenceUptoRow.laidByTextAt .later Tryd.pinned [.funcs] true :=
  OpenClaim.laidByTextAt_later rfl rfl tie noOwnUnsafe
theorem farPointersAreFollowedUpto_row_tie : Rows.farPointersAreFollowedUptoRow.laidByTextAt .later Tryd.pinned [.funcs] true :=
  OpenClaim.laidByTextAt_later rfl rfl tie noOwnUnsafe
theorem farDescriptorsUpto_row_tie : Rows.farDescriptorsUptoRow.laidByTextAt .later Tryd.pinned [.funcs] true :=
  OpenClaim.laidByTextAt_later rfl rfl tie noOwnUnsafe
theorem farKeepsUpto_row_tie : Rows.farKeepsUptoRow.laidByTextAt .later Tryd.pinned [.funcs] true :=
  OpenClaim.laidByTextAt_later rfl rfl tie noOwnUnsafe
theorem resolveMatchesReferenceUpto_row_tie : Rows.resolveMatchesReferenceUptoRow.laidByTextAt .later Tryd.pinned [.funcs, .data] true :=
  OpenClaim.laidByTextAt_later rfl rfl tie2 noOwnUnsafe
theorem resolvedObjectsAreInBoundsUpto_row_tie : Rows.resolvedObjectsAreInBoundsUptoRow.laidByTextAt .later Tryd.pinned [.funcs, .data] true :=
  OpenClaim.laidByTextAt_later rfl rfl tie2 noOwnUnsafe
theorem resolveStructsUpto_row_tie : Rows.resolveStructsUptoRow.laidByTextAt .later Tryd.pinned [.funcs, .data] true :=
  OpenClaim.laidByTextAt_later rfl rfl tie2 noOwnUnsafe
theorem resolveThroughFarUpto_row_tie : Rows.resolveThroughFarUptoRow.laidByTextAt .later Tryd.pinned [.funcs, .data] true :=
  OpenClaim.laidByTextAt_later rfl rfl tie2 noOwnUnsafe
theorem resolveElementsUpto_row_tie : Rows.resolveElementsUptoRow.laidByTextAt .later Tryd.pinned [.funcs, .data] true :=
  OpenClaim.laidByTextAt_later rfl rfl tie2 noOwnUnsafe
end Go.Proofs.YtcjhejopcghgnaaDoor
