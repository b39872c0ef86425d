/-
  DERIVED. GIVEN WITH THE SEED: THE CARDS: each row of YtepidhlkackjlaaDoorRows.lean that lists a variable, with what it lists TIED to the program's text (the seventh form; the later family's looks); each row that meets fmt, with fmt's text TOLD by the authors' own Lean function (tested against real Go, not proved from fmt's source: count such statements apart). THE CARD IS WHAT COUNTS. Prove the row's statement (the work); the ties are given (YtepidhlkackjlaaDoorTie.lean); close each card by the builder's one call (the guide's Derived/Test/ToyasCard.lean, 'card_holds'). Laid BY PROGRAM, IN A SANDBOX (cutbox-door.mjs). By AI agents, Wed Nov 11 2026. No macro, syntax, notation, axiom, sorry.
-/
import Derived.Test.YtepidhlkackjlaaDoorRows
import GoSem.ClaimSeven
namespace Go.Proofs.YtepidhlkackjlaaDoor
namespace Rows

/-- THE TIED CARD OF 'capnplaw13.CanonsizeIsAtMostCost'. -/
def canonsizeIsAtMostCostCard : Claim7 := { stood := { row := canonsizeIsAtMostCostRow, standIns := [], harness := (true, "fe538724bb5b3e08379637b56a683baf0bda660a19b25f8ed5f4b04426bdd112"), looks := false }, kinds := [], alts := [], laidByText := true, laidKinds := [.data], laidTests := true, laidLooks := .later }
def CanonsizeIsAtMostCostCardSaid : Prop := Claim7.holds Tryd.pinned (.plain (OpenSpec.ofChange canonsizeIsAtMostCostSpec)) canonsizeIsAtMostCostCard

/-- THE TIED CARD OF 'capnplaw13.CanonsizeKeeps'. -/
def canonsizeKeepsCard : Claim7 := { stood := { row := canonsizeKeepsRow, standIns := [], harness := (true, "fe538724bb5b3e08379637b56a683baf0bda660a19b25f8ed5f4b04426bdd112"), looks := false }, kinds := [], alts := [], laidByText := true, laidKinds := [.data], laidTests := true, laidLooks := .later }
def CanonsizeKeepsCardSaid : Prop := Claim7.holds Tryd.pinned (.plain (OpenSpec.ofChange canonsizeKeepsSpec)) canonsizeKeepsCard

/-- THE SECOND FORM's CARD OF 'capnplaw13.CanonsizeIsAtMostCost'. -/
def canonsizeIsAtMostCostUptoCard : Claim7 := { stood := { row := canonsizeIsAtMostCostUptoRow, standIns := [], harness := (true, "fe538724bb5b3e08379637b56a683baf0bda660a19b25f8ed5f4b04426bdd112"), looks := false }, kinds := [], alts := [], laidByText := true, laidKinds := [.data], laidTests := true, laidLooks := .later }
def CanonsizeIsAtMostCostUptoCardSaid : Prop := Claim7.holds Tryd.pinned (.plain (OpenSpec.upto canonsizeIsAtMostCostSpec)) canonsizeIsAtMostCostUptoCard

/-- THE SECOND FORM's CARD OF 'capnplaw13.CanonsizeKeeps'. -/
def canonsizeKeepsUptoCard : Claim7 := { stood := { row := canonsizeKeepsUptoRow, standIns := [], harness := (true, "fe538724bb5b3e08379637b56a683baf0bda660a19b25f8ed5f4b04426bdd112"), looks := false }, kinds := [], alts := [], laidByText := true, laidKinds := [.data], laidTests := true, laidLooks := .later }
def CanonsizeKeepsUptoCardSaid : Prop := Claim7.holds Tryd.pinned (.plain (OpenSpec.upto canonsizeKeepsSpec)) canonsizeKeepsUptoCard
end Rows
end Go.Proofs.YtepidhlkackjlaaDoor
