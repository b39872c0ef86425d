/-
  DERIVED. GIVEN WITH THE SEED: THE CARDS: each row of YtfljialckkgacaaGreatDoorRows.lean that lists a variable, with what it lists TIED to the program's text (the seventh form; the later family's looks); each row that meets fmt, with fmt's text TOLD by the authors' own Lean function (tested against real Go, not proved from fmt's source: count such statements apart). THE CARD IS WHAT COUNTS. Prove the row's statement (the work); the ties are given (YtfljialckkgacaaGreatDoorTie.lean); close each card by the builder's one call (the guide's Derived/Test/ToyasCard.lean, 'card_holds'). Laid BY PROGRAM, IN A SANDBOX (cutbox-door.mjs). By AI agents, Wed Nov 11 2026. No macro, syntax, notation, axiom, sorry.
-/
import Derived.Test.YtfljialckkgacaaGreatDoorRows
import GoSem.ClaimSeven
namespace Go.Proofs.YtfljialckkgacaaGreatDoor
namespace Rows

/-- THE TIED CARD OF 'capnplaw15.CanonMatchesReference'. -/
def canonMatchesReferenceCard : Claim7 := { stood := { row := canonMatchesReferenceRow, standIns := [], harness := (true, "f7b41d3f92c00c50e0ba77bfe6951895673bbc0a6033da1f1cd48fa7596f937c"), looks := true }, kinds := [], alts := [], laidByText := true, laidKinds := [.funcs, .data], laidTests := true, laidLooks := .later }
def CanonMatchesReferenceCardSaid : Prop := Claim7.holds Tryz.pinned (.plain (OpenSpec.ofChange canonMatchesReferenceSpec)) canonMatchesReferenceCard

/-- THE TIED CARD OF 'capnplaw15.CanonicalizeIsCanonical'. -/
def canonicalizeIsCanonicalCard : Claim7 := { stood := { row := canonicalizeIsCanonicalRow, standIns := [], harness := (true, "f7b41d3f92c00c50e0ba77bfe6951895673bbc0a6033da1f1cd48fa7596f937c"), looks := true }, kinds := [], alts := [], laidByText := true, laidKinds := [.funcs, .data], laidTests := true, laidLooks := .later }
def CanonicalizeIsCanonicalCardSaid : Prop := Claim7.holds Tryz.pinned (.plain (OpenSpec.ofChange canonicalizeIsCanonicalSpec)) canonicalizeIsCanonicalCard

/-- THE TIED CARD OF 'capnplaw15.CanonIsIdempotent'. -/
def canonIsIdempotentCard : Claim7 := { stood := { row := canonIsIdempotentRow, standIns := [], harness := (true, "f7b41d3f92c00c50e0ba77bfe6951895673bbc0a6033da1f1cd48fa7596f937c"), looks := true }, kinds := [], alts := [], laidByText := true, laidKinds := [.funcs, .data], laidTests := true, laidLooks := .later }
def CanonIsIdempotentCardSaid : Prop := Claim7.holds Tryz.pinned (.plain (OpenSpec.ofChange canonIsIdempotentSpec)) canonIsIdempotentCard

/-- THE TIED CARD OF 'capnplaw15.CanonSize'. -/
def canonSizeCard : Claim7 := { stood := { row := canonSizeRow, standIns := [], harness := (true, "f7b41d3f92c00c50e0ba77bfe6951895673bbc0a6033da1f1cd48fa7596f937c"), looks := true }, kinds := [], alts := [], laidByText := true, laidKinds := [.funcs, .data], laidTests := true, laidLooks := .later }
def CanonSizeCardSaid : Prop := Claim7.holds Tryz.pinned (.plain (OpenSpec.ofChange canonSizeSpec)) canonSizeCard

/-- THE TIED CARD OF 'capnplaw19.HashMatchesReference'. -/
def hashMatchesReferenceCard : Claim7 := { stood := { row := hashMatchesReferenceRow, standIns := [], harness := (true, "f7b41d3f92c00c50e0ba77bfe6951895673bbc0a6033da1f1cd48fa7596f937c"), looks := true }, kinds := [], alts := [], laidByText := true, laidKinds := [.funcs, .data], laidTests := true, laidLooks := .later }
def HashMatchesReferenceCardSaid : Prop := Claim7.holds Tryz.pinned (.plain (OpenSpec.ofChange hashMatchesReferenceSpec)) hashMatchesReferenceCard

/-- THE TIED CARD OF 'capnplaw19.HashOfEqualMessages'. -/
def hashOfEqualMessagesCard : Claim7 := { stood := { row := hashOfEqualMessagesRow, standIns := [], harness := (true, "f7b41d3f92c00c50e0ba77bfe6951895673bbc0a6033da1f1cd48fa7596f937c"), looks := true }, kinds := [], alts := [], laidByText := true, laidKinds := [.funcs, .data], laidTests := true, laidLooks := .later }
def HashOfEqualMessagesCardSaid : Prop := Claim7.holds Tryz.pinned (.plain (OpenSpec.ofChange hashOfEqualMessagesSpec)) hashOfEqualMessagesCard

/-- THE TIED CARD OF 'capnplaw19.HashOfCanonicalForm'. -/
def hashOfCanonicalFormCard : Claim7 := { stood := { row := hashOfCanonicalFormRow, standIns := [], harness := (true, "f7b41d3f92c00c50e0ba77bfe6951895673bbc0a6033da1f1cd48fa7596f937c"), looks := true }, kinds := [], alts := [], laidByText := true, laidKinds := [.funcs, .data], laidTests := true, laidLooks := .later }
def HashOfCanonicalFormCardSaid : Prop := Claim7.holds Tryz.pinned (.plain (OpenSpec.ofChange hashOfCanonicalFormSpec)) hashOfCanonicalFormCard

/-- THE SECOND FORM's CARD OF 'capnplaw15.CanonMatchesReference'. -/
def canonMatchesReferenceUptoCard : Claim7 := { stood := { row := canonMatchesReferenceUptoRow, standIns := [], harness := (true, "f7b41d3f92c00c50e0ba77bfe6951895673bbc0a6033da1f1cd48fa7596f937c"), looks := true }, kinds := [], alts := [], laidByText := true, laidKinds := [.funcs, .data], laidTests := true, laidLooks := .later }
def CanonMatchesReferenceUptoCardSaid : Prop := Claim7.holds Tryz.pinned (.plain (OpenSpec.upto canonMatchesReferenceSpec)) canonMatchesReferenceUptoCard

/-- THE SECOND FORM's CARD OF 'capnplaw15.CanonicalizeIsCanonical'. -/
def canonicalizeIsCanonicalUptoCard : Claim7 := { stood := { row := canonicalizeIsCanonicalUptoRow, standIns := [], harness := (true, "f7b41d3f92c00c50e0ba77bfe6951895673bbc0a6033da1f1cd48fa7596f937c"), looks := true }, kinds := [], alts := [], laidByText := true, laidKinds := [.funcs, .data], laidTests := true, laidLooks := .later }
def CanonicalizeIsCanonicalUptoCardSaid : Prop := Claim7.holds Tryz.pinned (.plain (OpenSpec.upto canonicalizeIsCanonicalSpec)) canonicalizeIsCanonicalUptoCard

/-- THE SECOND FORM's CARD OF 'capnplaw15.CanonIsIdempotent'. -/
def canonIsIdempotentUptoCard : Claim7 := { stood := { row := canonIsIdempotentUptoRow, standIns := [], harness := (true, "f7b41d3f92c00c50e0ba77bfe6951895673bbc0a6033da1f1cd48fa7596f937c"), looks := true }, kinds := [], alts := [], laidByText := true, laidKinds := [.funcs, .data], laidTests := true, laidLooks := .later }
def CanonIsIdempotentUptoCardSaid : Prop := Claim7.holds Tryz.pinned (.plain (OpenSpec.upto canonIsIdempotentSpec)) canonIsIdempotentUptoCard

/-- THE SECOND FORM's CARD OF 'capnplaw15.CanonSize'. -/
def canonSizeUptoCard : Claim7 := { stood := { row := canonSizeUptoRow, standIns := [], harness := (true, "f7b41d3f92c00c50e0ba77bfe6951895673bbc0a6033da1f1cd48fa7596f937c"), looks := true }, kinds := [], alts := [], laidByText := true, laidKinds := [.funcs, .data], laidTests := true, laidLooks := .later }
def CanonSizeUptoCardSaid : Prop := Claim7.holds Tryz.pinned (.plain (OpenSpec.upto canonSizeSpec)) canonSizeUptoCard

/-- THE SECOND FORM's CARD OF 'capnplaw19.HashMatchesReference'. -/
def hashMatchesReferenceUptoCard : Claim7 := { stood := { row := hashMatchesReferenceUptoRow, standIns := [], harness := (true, "f7b41d3f92c00c50e0ba77bfe6951895673bbc0a6033da1f1cd48fa7596f937c"), looks := true }, kinds := [], alts := [], laidByText := true, laidKinds := [.funcs, .data], laidTests := true, laidLooks := .later }
def HashMatchesReferenceUptoCardSaid : Prop := Claim7.holds Tryz.pinned (.plain (OpenSpec.upto hashMatchesReferenceSpec)) hashMatchesReferenceUptoCard

/-- THE SECOND FORM's CARD OF 'capnplaw19.HashOfEqualMessages'. -/
def hashOfEqualMessagesUptoCard : Claim7 := { stood := { row := hashOfEqualMessagesUptoRow, standIns := [], harness := (true, "f7b41d3f92c00c50e0ba77bfe6951895673bbc0a6033da1f1cd48fa7596f937c"), looks := true }, kinds := [], alts := [], laidByText := true, laidKinds := [.funcs, .data], laidTests := true, laidLooks := .later }
def HashOfEqualMessagesUptoCardSaid : Prop := Claim7.holds Tryz.pinned (.plain (OpenSpec.upto hashOfEqualMessagesSpec)) hashOfEqualMessagesUptoCard

/-- THE SECOND FORM's CARD OF 'capnplaw19.HashOfCanonicalForm'. -/
def hashOfCanonicalFormUptoCard : Claim7 := { stood := { row := hashOfCanonicalFormUptoRow, standIns := [], harness := (true, "f7b41d3f92c00c50e0ba77bfe6951895673bbc0a6033da1f1cd48fa7596f937c"), looks := true }, kinds := [], alts := [], laidByText := true, laidKinds := [.funcs, .data], laidTests := true, laidLooks := .later }
def HashOfCanonicalFormUptoCardSaid : Prop := Claim7.holds Tryz.pinned (.plain (OpenSpec.upto hashOfCanonicalFormSpec)) hashOfCanonicalFormUptoCard
end Rows
end Go.Proofs.YtfljialckkgacaaGreatDoor
