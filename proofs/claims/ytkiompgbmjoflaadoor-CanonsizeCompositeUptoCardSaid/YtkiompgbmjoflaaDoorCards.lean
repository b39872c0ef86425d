/-
  DERIVED. GIVEN WITH THE SEED: THE CARDS: each row of YtkiompgbmjoflaaDoorRows.lean that lists a variable, with what it lists TIED to the program's text (the seventh form; the later family's looks); each row that meets fmt, with fmt's text TOLD by the authors' own Lean function (tested against real Go, not proved from fmt's source: count such statements apart). THE CARD IS WHAT COUNTS. Prove the row's statement (the work); the ties are given (YtkiompgbmjoflaaDoorTie.lean); close each card by the builder's one call (the guide's Derived/Test/ToyasCard.lean, 'card_holds'). Laid BY PROGRAM, IN A SANDBOX (cutbox-door.mjs). By AI agents, Wed Nov 11 2026. No macro, syntax, notation, axiom, sorry.
-/
import Derived.Test.YtkiompgbmjoflaaDoorRows
import GoSem.ClaimSeven
namespace Go.Proofs.YtkiompgbmjoflaaDoor
namespace Rows

/-- THE TIED CARD OF 'capnplaw13.CanonsizeMatchesReference'. -/
def canonsizeMatchesReferenceCard : Claim7 := { stood := { row := canonsizeMatchesReferenceRow, standIns := [], harness := (true, "21dfaa1fd6afe672d91862e975811425167d0747745aa3fb4b9766fc17991a3a"), looks := false }, kinds := [], alts := [], laidByText := true, laidKinds := [.data], laidTests := true, laidLooks := .later }
def CanonsizeMatchesReferenceCardSaid : Prop := Claim7.holds Tryd.pinned (.plain (OpenSpec.ofChange canonsizeMatchesReferenceSpec)) canonsizeMatchesReferenceCard

/-- THE TIED CARD OF 'capnplaw13.CanonsizeAddsUp'. -/
def canonsizeAddsUpCard : Claim7 := { stood := { row := canonsizeAddsUpRow, standIns := [], harness := (true, "21dfaa1fd6afe672d91862e975811425167d0747745aa3fb4b9766fc17991a3a"), looks := false }, kinds := [], alts := [], laidByText := true, laidKinds := [.data], laidTests := true, laidLooks := .later }
def CanonsizeAddsUpCardSaid : Prop := Claim7.holds Tryd.pinned (.plain (OpenSpec.ofChange canonsizeAddsUpSpec)) canonsizeAddsUpCard

/-- THE TIED CARD OF 'capnplaw13.CanonsizeIsAtMostCost'. -/
def canonsizeIsAtMostCostCard : Claim7 := { stood := { row := canonsizeIsAtMostCostRow, standIns := [], harness := (true, "21dfaa1fd6afe672d91862e975811425167d0747745aa3fb4b9766fc17991a3a"), looks := false }, kinds := [], alts := [], laidByText := true, laidKinds := [.data], laidTests := true, laidLooks := .later }
def CanonsizeIsAtMostCostCardSaid : Prop := Claim7.holds Tryd.pinned (.plain (OpenSpec.ofChange canonsizeIsAtMostCostSpec)) canonsizeIsAtMostCostCard

/-- THE TIED CARD OF 'capnplaw13.CanonsizeComposite'. -/
def canonsizeCompositeCard : Claim7 := { stood := { row := canonsizeCompositeRow, standIns := [], harness := (true, "21dfaa1fd6afe672d91862e975811425167d0747745aa3fb4b9766fc17991a3a"), looks := false }, kinds := [], alts := [], laidByText := true, laidKinds := [.data], laidTests := true, laidLooks := .later }
def CanonsizeCompositeCardSaid : Prop := Claim7.holds Tryd.pinned (.plain (OpenSpec.ofChange canonsizeCompositeSpec)) canonsizeCompositeCard

/-- THE TIED CARD OF 'capnplaw13.CanonsizeKeeps'. -/
def canonsizeKeepsCard : Claim7 := { stood := { row := canonsizeKeepsRow, standIns := [], harness := (true, "21dfaa1fd6afe672d91862e975811425167d0747745aa3fb4b9766fc17991a3a"), looks := false }, kinds := [], alts := [], laidByText := true, laidKinds := [.data], laidTests := true, laidLooks := .later }
def CanonsizeKeepsCardSaid : Prop := Claim7.holds Tryd.pinned (.plain (OpenSpec.ofChange canonsizeKeepsSpec)) canonsizeKeepsCard

/-- THE SECOND FORM's CARD OF 'capnplaw13.CanonsizeMatchesReference'. -/
def canonsizeMatchesReferenceUptoCard : Claim7 := { stood := { row := canonsizeMatchesReferenceUptoRow, standIns := [], harness := (true, "21dfaa1fd6afe672d91862e975811425167d0747745aa3fb4b9766fc17991a3a"), looks := false }, kinds := [], alts := [], laidByText := true, laidKinds := [.data], laidTests := true, laidLooks := .later }
def CanonsizeMatchesReferenceUptoCardSaid : Prop := Claim7.holds Tryd.pinned (.plain (OpenSpec.upto canonsizeMatchesReferenceSpec)) canonsizeMatchesReferenceUptoCard

/-- THE SECOND FORM's CARD OF 'capnplaw13.CanonsizeAddsUp'. -/
def canonsizeAddsUpUptoCard : Claim7 := { stood := { row := canonsizeAddsUpUptoRow, standIns := [], harness := (true, "21dfaa1fd6afe672d91862e975811425167d0747745aa3fb4b9766fc17991a3a"), looks := false }, kinds := [], alts := [], laidByText := true, laidKinds := [.data], laidTests := true, laidLooks := .later }
def CanonsizeAddsUpUptoCardSaid : Prop := Claim7.holds Tryd.pinned (.plain (OpenSpec.upto canonsizeAddsUpSpec)) canonsizeAddsUpUptoCard

/-- THE SECOND FORM's CARD OF 'capnplaw13.CanonsizeIsAtMostCost'. -/
def canonsizeIsAtMostCostUptoCard : Claim7 := { stood := { row := canonsizeIsAtMostCostUptoRow, standIns := [], harness := (true, "21dfaa1fd6afe672d91862e975811425167d0747745aa3fb4b9766fc17991a3a"), looks := false }, kinds := [], alts := [], laidByText := true, laidKinds := [.data], laidTests := true, laidLooks := .later }
def CanonsizeIsAtMostCostUptoCardSaid : Prop := Claim7.holds Tryd.pinned (.plain (OpenSpec.upto canonsizeIsAtMostCostSpec)) canonsizeIsAtMostCostUptoCard

/-- THE SECOND FORM's CARD OF 'capnplaw13.CanonsizeComposite'. -/
def canonsizeCompositeUptoCard : Claim7 := { stood := { row := canonsizeCompositeUptoRow, standIns := [], harness := (true, "21dfaa1fd6afe672d91862e975811425167d0747745aa3fb4b9766fc17991a3a"), looks := false }, kinds := [], alts := [], laidByText := true, laidKinds := [.data], laidTests := true, laidLooks := .later }
def CanonsizeCompositeUptoCardSaid : Prop := Claim7.holds Tryd.pinned (.plain (OpenSpec.upto canonsizeCompositeSpec)) canonsizeCompositeUptoCard

/-- THE SECOND FORM's CARD OF 'capnplaw13.CanonsizeKeeps'. -/
def canonsizeKeepsUptoCard : Claim7 := { stood := { row := canonsizeKeepsUptoRow, standIns := [], harness := (true, "21dfaa1fd6afe672d91862e975811425167d0747745aa3fb4b9766fc17991a3a"), looks := false }, kinds := [], alts := [], laidByText := true, laidKinds := [.data], laidTests := true, laidLooks := .later }
def CanonsizeKeepsUptoCardSaid : Prop := Claim7.holds Tryd.pinned (.plain (OpenSpec.upto canonsizeKeepsSpec)) canonsizeKeepsUptoCard
end Rows
end Go.Proofs.YtkiompgbmjoflaaDoor
