/-
  DERIVED. GIVEN WITH THE SEED: THE CARDS: each row of YtdcdefmdgicoeaaDoorRows.lean that lists a variable, with what it lists TIED to the program's text (the seventh form; the later family's looks); each row that meets fmt, with fmt's text TOLD by the authors' own Lean function (tested against real Go, not proved from fmt's source: count such statements apart). THE CARD IS WHAT COUNTS. Prove the row's statement (the work); the ties are given (YtdcdefmdgicoeaaDoorTie.lean); close each card by the builder's one call (the guide's Derived/Test/ToyasCard.lean, 'card_holds'). Laid BY PROGRAM, IN A SANDBOX (cutbox-door.mjs). By AI agents, Wed Nov 11 2026. No macro, syntax, notation, axiom, sorry.
-/
import Derived.Test.YtdcdefmdgicoeaaDoorRows
import GoSem.ClaimSeven
namespace Go.Proofs.YtdcdefmdgicoeaaDoor
namespace Rows

/-- THE TIED CARD OF 'capnplaw12.DenoteKeepsMessage'. -/
def denoteKeepsMessageCard : Claim7 := { stood := { row := denoteKeepsMessageRow, standIns := [], harness := (true, "f26715e0465ececab899be62cdf6ed174c7d7794d15c1840a0f1e0ef59119f08"), looks := true }, kinds := [], alts := [], laidByText := true, laidKinds := [.funcs, .data], laidTests := true, laidLooks := .later }
def DenoteKeepsMessageCardSaid : Prop := Claim7.holds Tryd.pinned (.plain (OpenSpec.ofChange denoteKeepsMessageSpec)) denoteKeepsMessageCard

/-- THE SECOND FORM's CARD OF 'capnplaw12.DenoteKeepsMessage'. -/
def denoteKeepsMessageUptoCard : Claim7 := { stood := { row := denoteKeepsMessageUptoRow, standIns := [], harness := (true, "f26715e0465ececab899be62cdf6ed174c7d7794d15c1840a0f1e0ef59119f08"), looks := true }, kinds := [], alts := [], laidByText := true, laidKinds := [.funcs, .data], laidTests := true, laidLooks := .later }
def DenoteKeepsMessageUptoCardSaid : Prop := Claim7.holds Tryd.pinned (.plain (OpenSpec.upto denoteKeepsMessageSpec)) denoteKeepsMessageUptoCard
end Rows
end Go.Proofs.YtdcdefmdgicoeaaDoor
