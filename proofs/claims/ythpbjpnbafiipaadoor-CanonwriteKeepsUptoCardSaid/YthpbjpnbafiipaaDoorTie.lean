/-
  DERIVED. GIVEN WITH THE SEED: THE PROGRAM's TIES (one call each: nine closed facts by the kernel) AND EACH ROW's TIE, after the 31st guide's Derived/Test/Toyas{Tie, Card}.lean. No idea stands in it: it is a product of the set-up. Laid BY PROGRAM, IN A SANDBOX (cutbox-door.mjs). By AI agents, Wed Nov 11 2026. No macro, syntax, notation, axiom, sorry.
-/
import Derived.Test.YthpbjpnbafiipaaDoorRows
import Derived.LaidByTextLater
import Derived.SevenTiedAt
import Derived.LaidSub
import Derived.LaidOnce
namespace Go.Proofs.YthpbjpnbafiipaaDoor
open Go
set_option maxRecDepth 100000
theorem seatTie1 : Tryd.prog.laidByTextLater [("capnp/pointer.decoders", Rows.laid_capnp_pointer_decoders), ("capnp/listsize.bits", Rows.laid_capnp_listsize_bits)] [.funcs, .data] true :=
  Program.laidByTextLater_by_one 39 8 9 (by kernel_rfl) (by kernel_rfl) (by kernel_rfl) (by kernel_rfl) (by kernel_rfl) (by kernel_rfl) (fun _ _ => by kernel_rfl)
theorem noOwnUnsafe : Tryd.pinned.checked.prog.headLifts.contains "ownunsafe" = false := by kernel_rfl
theorem tie : Tryd.prog.laidByTextLater [("capnp/pointer.decoders", Rows.laid_capnp_pointer_decoders), ("capnp/listsize.bits", Rows.laid_capnp_listsize_bits)] [.funcs, .data] true :=
  Program.laidByTextLater.sub seatTie1 ["capnp/pointer.decoders", "capnp/listsize.bits"] (by kernel_rfl) (by kernel_rfl)
theorem denoteIgnoresUnreachableWords_row_tie : Rows.denoteIgnoresUnreachableWordsRow.laidByTextAt .later Tryd.pinned [.funcs, .data] true :=
  OpenClaim.laidByTextAt_later rfl rfl tie noOwnUnsafe
theorem denoteKeepsMessage_row_tie : Rows.denoteKeepsMessageRow.laidByTextAt .later Tryd.pinned [.funcs, .data] true :=
  OpenClaim.laidByTextAt_later rfl rfl tie noOwnUnsafe
theorem equalMatchesCanonicalForms_row_tie : Rows.equalMatchesCanonicalFormsRow.laidByTextAt .later Tryd.pinned [.funcs, .data] true :=
  OpenClaim.laidByTextAt_later rfl rfl tie noOwnUnsafe
theorem canonwriteMatchesReference_row_tie : Rows.canonwriteMatchesReferenceRow.laidByTextAt .later Tryd.pinned [.funcs, .data] true :=
  OpenClaim.laidByTextAt_later rfl rfl tie noOwnUnsafe
theorem canonwriteIsInjective_row_tie : Rows.canonwriteIsInjectiveRow.laidByTextAt .later Tryd.pinned [.funcs, .data] true :=
  OpenClaim.laidByTextAt_later rfl rfl tie noOwnUnsafe
theorem canonwriteNests_row_tie : Rows.canonwriteNestsRow.laidByTextAt .later Tryd.pinned [.funcs, .data] true :=
  OpenClaim.laidByTextAt_later rfl rfl tie noOwnUnsafe
theorem canonwriteKeeps_row_tie : Rows.canonwriteKeepsRow.laidByTextAt .later Tryd.pinned [.funcs, .data] true :=
  OpenClaim.laidByTextAt_later rfl rfl tie noOwnUnsafe
theorem tie2 : Tryd.prog.laidByTextLater [("capnp/listsize.bits", Rows.laid_capnp_listsize_bits)] [.data] true :=
  Program.laidByTextLater.sub seatTie1 ["capnp/listsize.bits"] (by kernel_rfl) (by kernel_rfl)
theorem canonsizeIsAtMostCost_row_tie : Rows.canonsizeIsAtMostCostRow.laidByTextAt .later Tryd.pinned [.data] true :=
  OpenClaim.laidByTextAt_later rfl rfl tie2 noOwnUnsafe
theorem canonsizeKeeps_row_tie : Rows.canonsizeKeepsRow.laidByTextAt .later Tryd.pinned [.data] true :=
  OpenClaim.laidByTextAt_later rfl rfl tie2 noOwnUnsafe
theorem denoteIgnoresUnreachableWordsUpto_row_tie : Rows.denoteIgnoresUnreachableWordsUptoRow.laidByTextAt .later Tryd.pinned [.funcs, .data] true :=
  OpenClaim.laidByTextAt_later rfl rfl tie noOwnUnsafe
theorem denoteKeepsMessageUpto_row_tie : Rows.denoteKeepsMessageUptoRow.laidByTextAt .later Tryd.pinned [.funcs, .data] true :=
  OpenClaim.laidByTextAt_later rfl rfl tie noOwnUnsafe
theorem equalMatchesCanonicalFormsUpto_row_tie : Rows.equalMatchesCanonicalFormsUptoRow.laidByTextAt .later Tryd.pinned [.funcs, .data] true :=
  OpenClaim.laidByTextAt_later rfl rfl tie noOwnUnsafe
theorem canonsizeIsAtMostCostUpto_row_tie : Rows.canonsizeIsAtMostCostUptoRow.laidByTextAt .later Tryd.pinned [.data] true :=
  OpenClaim.laidByTextAt_later rfl rfl tie2 noOwnUnsafe
theorem canonsizeKeepsUpto_row_tie : Rows.canonsizeKeepsUptoRow.laidByTextAt .later Tryd.pinned [.data] true :=
  OpenClaim.laidByTextAt_later rfl rfl tie2 noOwnUnsafe
theorem canonwriteMatchesReferenceUpto_row_tie : Rows.canonwriteMatchesReferenceUptoRow.laidByTextAt .later Tryd.pinned [.funcs, .data] true :=
  OpenClaim.laidByTextAt_later rfl rfl tie noOwnUnsafe
theorem canonwriteIsInjectiveUpto_row_tie : Rows.canonwriteIsInjectiveUptoRow.laidByTextAt .later Tryd.pinned [.funcs, .data] true :=
  OpenClaim.laidByTextAt_later rfl rfl tie noOwnUnsafe
theorem canonwriteNestsUpto_row_tie : Rows.canonwriteNestsUptoRow.laidByTextAt .later Tryd.pinned [.funcs, .data] true :=
  OpenClaim.laidByTextAt_later rfl rfl tie noOwnUnsafe
theorem canonwriteKeepsUpto_row_tie : Rows.canonwriteKeepsUptoRow.laidByTextAt .later Tryd.pinned [.funcs, .data] true :=
  OpenClaim.laidByTextAt_later rfl rfl tie noOwnUnsafe
end Go.Proofs.YthpbjpnbafiipaaDoor
