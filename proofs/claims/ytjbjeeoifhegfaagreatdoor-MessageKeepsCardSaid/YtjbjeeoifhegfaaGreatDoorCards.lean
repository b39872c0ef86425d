/-
  DERIVED. GIVEN WITH THE SEED: THE CARDS: each row of YtjbjeeoifhegfaaGreatDoorRows.lean that lists a variable, with what it lists TIED to the program's text (the seventh form; the later family's looks); each row that meets fmt, with fmt's text TOLD by the authors' own Lean function (tested against real Go, not proved from fmt's source: count such statements apart). THE CARD IS WHAT COUNTS. Prove the row's statement (the work); the ties are given (YtjbjeeoifhegfaaGreatDoorTie.lean); close each card by the builder's one call (the guide's Derived/Test/ToyasCard.lean, 'card_holds'). Laid BY PROGRAM, IN A SANDBOX (cutbox-door.mjs). By AI agents, Wed Nov 11 2026. No macro, syntax, notation, axiom, sorry.
-/
import Derived.Test.YtjbjeeoifhegfaaGreatDoorRows
import GoSem.ClaimSeven
namespace Go.Proofs.YtjbjeeoifhegfaaGreatDoor
namespace Rows

/-- THE TIED CARD OF 'capnptop.WholeErrors'. -/
def wholeErrorsCard : Claim7 := { stood := { row := wholeErrorsRow, standIns := [], harness := (true, "9aeabcded0cf54af6e6314e3559f8d4ab6bd5f54a79d514b1c3c40e9c347399e"), looks := true }, kinds := [], alts := [], laidByText := true, laidKinds := [.funcs, .handle, .sentinel, .sentinel, .data], laidTests := true, laidLooks := .later }
def WholeErrorsCardSaid : Prop := Claim7.holds Tryz.pinned (.plain (OpenSpec.ofChange wholeErrorsSpec)) wholeErrorsCard

/-- THE TIED CARD OF 'capnptop.WholeStreams'. -/
def wholeStreamsCard : Claim7 := { stood := { row := wholeStreamsRow, standIns := [], harness := (true, "9aeabcded0cf54af6e6314e3559f8d4ab6bd5f54a79d514b1c3c40e9c347399e"), looks := true }, kinds := [], alts := [], laidByText := true, laidKinds := [.funcs, .funcs, .handle, .sentinel, .sentinel, .data], laidTests := true, laidLooks := .later }
def WholeStreamsCardSaid : Prop := Claim7.holds Tryz.pinned (.plain (OpenSpec.ofChange wholeStreamsSpec)) wholeStreamsCard

/-- THE TIED CARD OF 'capnptop.WholeShortest'. -/
def wholeShortestCard : Claim7 := { stood := { row := wholeShortestRow, standIns := [], harness := (true, "9aeabcded0cf54af6e6314e3559f8d4ab6bd5f54a79d514b1c3c40e9c347399e"), looks := true }, kinds := [], alts := [], laidByText := true, laidKinds := [.funcs, .handle, .sentinel, .sentinel, .data], laidTests := true, laidLooks := .later }
def WholeShortestCardSaid : Prop := Claim7.holds Tryz.pinned (.plain (OpenSpec.ofChange wholeShortestSpec)) wholeShortestCard

/-- THE TIED CARD OF 'capnplaw27.MessageMatchesReference'. -/
def messageMatchesReferenceCard : Claim7 := { stood := { row := messageMatchesReferenceRow, standIns := [], harness := (true, "9aeabcded0cf54af6e6314e3559f8d4ab6bd5f54a79d514b1c3c40e9c347399e"), looks := true }, kinds := [], alts := [], laidByText := true, laidKinds := [.funcs, .handle, .sentinel, .sentinel, .data], laidTests := true, laidLooks := .later }
def MessageMatchesReferenceCardSaid : Prop := Claim7.holds Tryz.pinned (.plain (OpenSpec.ofChange messageMatchesReferenceSpec)) messageMatchesReferenceCard

/-- THE TIED CARD OF 'capnplaw27.MessageCanonical'. -/
def messageCanonicalCard : Claim7 := { stood := { row := messageCanonicalRow, standIns := [], harness := (true, "9aeabcded0cf54af6e6314e3559f8d4ab6bd5f54a79d514b1c3c40e9c347399e"), looks := true }, kinds := [], alts := [], laidByText := true, laidKinds := [.funcs, .handle, .sentinel, .sentinel, .data], laidTests := true, laidLooks := .later }
def MessageCanonicalCardSaid : Prop := Claim7.holds Tryz.pinned (.plain (OpenSpec.ofChange messageCanonicalSpec)) messageCanonicalCard

/-- THE TIED CARD OF 'capnplaw27.MessageEqual'. -/
def messageEqualCard : Claim7 := { stood := { row := messageEqualRow, standIns := [], harness := (true, "9aeabcded0cf54af6e6314e3559f8d4ab6bd5f54a79d514b1c3c40e9c347399e"), looks := true }, kinds := [], alts := [], laidByText := true, laidKinds := [.funcs, .handle, .sentinel, .sentinel, .data], laidTests := true, laidLooks := .later }
def MessageEqualCardSaid : Prop := Claim7.holds Tryz.pinned (.plain (OpenSpec.ofChange messageEqualSpec)) messageEqualCard

/-- THE TIED CARD OF 'capnplaw27.MessageHash'. -/
def messageHashCard : Claim7 := { stood := { row := messageHashRow, standIns := [], harness := (true, "9aeabcded0cf54af6e6314e3559f8d4ab6bd5f54a79d514b1c3c40e9c347399e"), looks := true }, kinds := [], alts := [], laidByText := true, laidKinds := [.funcs, .handle, .sentinel, .sentinel, .data], laidTests := true, laidLooks := .later }
def MessageHashCardSaid : Prop := Claim7.holds Tryz.pinned (.plain (OpenSpec.ofChange messageHashSpec)) messageHashCard

/-- THE TIED CARD OF 'capnplaw27.MessagePack'. -/
def messagePackCard : Claim7 := { stood := { row := messagePackRow, standIns := [], harness := (true, "9aeabcded0cf54af6e6314e3559f8d4ab6bd5f54a79d514b1c3c40e9c347399e"), looks := true }, kinds := [], alts := [], laidByText := true, laidKinds := [.funcs, .handle, .sentinel, .sentinel, .data], laidTests := true, laidLooks := .later }
def MessagePackCardSaid : Prop := Claim7.holds Tryz.pinned (.plain (OpenSpec.ofChange messagePackSpec)) messagePackCard

/-- THE TIED CARD OF 'capnplaw27.MessageKeeps'. -/
def messageKeepsCard : Claim7 := { stood := { row := messageKeepsRow, standIns := [], harness := (true, "9aeabcded0cf54af6e6314e3559f8d4ab6bd5f54a79d514b1c3c40e9c347399e"), looks := true }, kinds := [], alts := [], laidByText := true, laidKinds := [.funcs, .handle, .sentinel, .sentinel, .data], laidTests := true, laidLooks := .later }
def MessageKeepsCardSaid : Prop := Claim7.holds Tryz.pinned (.plain (OpenSpec.ofChange messageKeepsSpec)) messageKeepsCard

/-- THE TIED CARD OF 'capnptop.WholeLimits'. -/
def wholeLimitsCard : Claim7 := { stood := { row := wholeLimitsRow, standIns := [], harness := (true, "9aeabcded0cf54af6e6314e3559f8d4ab6bd5f54a79d514b1c3c40e9c347399e"), looks := true }, kinds := [], alts := [], laidByText := true, laidKinds := [.funcs, .handle, .sentinel, .sentinel, .data], laidTests := true, laidLooks := .later }
def WholeLimitsCardSaid : Prop := Claim7.holds Tryz.pinned (.plain (OpenSpec.ofChange wholeLimitsSpec)) wholeLimitsCard

/-- THE TIED CARD OF 'capnptop.WholeLayouts'. -/
def wholeLayoutsCard : Claim7 := { stood := { row := wholeLayoutsRow, standIns := [], harness := (true, "9aeabcded0cf54af6e6314e3559f8d4ab6bd5f54a79d514b1c3c40e9c347399e"), looks := true }, kinds := [], alts := [], laidByText := true, laidKinds := [.funcs, .handle, .sentinel, .sentinel, .data], laidTests := true, laidLooks := .later }
def WholeLayoutsCardSaid : Prop := Claim7.holds Tryz.pinned (.plain (OpenSpec.ofChange wholeLayoutsSpec)) wholeLayoutsCard

/-- THE SECOND FORM's CARD OF 'capnptop.WholeErrors'. -/
def wholeErrorsUptoCard : Claim7 := { stood := { row := wholeErrorsUptoRow, standIns := [], harness := (true, "9aeabcded0cf54af6e6314e3559f8d4ab6bd5f54a79d514b1c3c40e9c347399e"), looks := true }, kinds := [], alts := [], laidByText := true, laidKinds := [.funcs, .handle, .sentinel, .sentinel, .data], laidTests := true, laidLooks := .later }
def WholeErrorsUptoCardSaid : Prop := Claim7.holds Tryz.pinned (.plain (OpenSpec.upto wholeErrorsSpec)) wholeErrorsUptoCard

/-- THE SECOND FORM's CARD OF 'capnptop.WholeStreams'. -/
def wholeStreamsUptoCard : Claim7 := { stood := { row := wholeStreamsUptoRow, standIns := [], harness := (true, "9aeabcded0cf54af6e6314e3559f8d4ab6bd5f54a79d514b1c3c40e9c347399e"), looks := true }, kinds := [], alts := [], laidByText := true, laidKinds := [.funcs, .funcs, .handle, .sentinel, .sentinel, .data], laidTests := true, laidLooks := .later }
def WholeStreamsUptoCardSaid : Prop := Claim7.holds Tryz.pinned (.plain (OpenSpec.upto wholeStreamsSpec)) wholeStreamsUptoCard

/-- THE SECOND FORM's CARD OF 'capnptop.WholeShortest'. -/
def wholeShortestUptoCard : Claim7 := { stood := { row := wholeShortestUptoRow, standIns := [], harness := (true, "9aeabcded0cf54af6e6314e3559f8d4ab6bd5f54a79d514b1c3c40e9c347399e"), looks := true }, kinds := [], alts := [], laidByText := true, laidKinds := [.funcs, .handle, .sentinel, .sentinel, .data], laidTests := true, laidLooks := .later }
def WholeShortestUptoCardSaid : Prop := Claim7.holds Tryz.pinned (.plain (OpenSpec.upto wholeShortestSpec)) wholeShortestUptoCard

/-- THE SECOND FORM's CARD OF 'capnplaw27.MessageMatchesReference'. -/
def messageMatchesReferenceUptoCard : Claim7 := { stood := { row := messageMatchesReferenceUptoRow, standIns := [], harness := (true, "9aeabcded0cf54af6e6314e3559f8d4ab6bd5f54a79d514b1c3c40e9c347399e"), looks := true }, kinds := [], alts := [], laidByText := true, laidKinds := [.funcs, .handle, .sentinel, .sentinel, .data], laidTests := true, laidLooks := .later }
def MessageMatchesReferenceUptoCardSaid : Prop := Claim7.holds Tryz.pinned (.plain (OpenSpec.upto messageMatchesReferenceSpec)) messageMatchesReferenceUptoCard

/-- THE SECOND FORM's CARD OF 'capnplaw27.MessageCanonical'. -/
def messageCanonicalUptoCard : Claim7 := { stood := { row := messageCanonicalUptoRow, standIns := [], harness := (true, "9aeabcded0cf54af6e6314e3559f8d4ab6bd5f54a79d514b1c3c40e9c347399e"), looks := true }, kinds := [], alts := [], laidByText := true, laidKinds := [.funcs, .handle, .sentinel, .sentinel, .data], laidTests := true, laidLooks := .later }
def MessageCanonicalUptoCardSaid : Prop := Claim7.holds Tryz.pinned (.plain (OpenSpec.upto messageCanonicalSpec)) messageCanonicalUptoCard

/-- THE SECOND FORM's CARD OF 'capnplaw27.MessageEqual'. -/
def messageEqualUptoCard : Claim7 := { stood := { row := messageEqualUptoRow, standIns := [], harness := (true, "9aeabcded0cf54af6e6314e3559f8d4ab6bd5f54a79d514b1c3c40e9c347399e"), looks := true }, kinds := [], alts := [], laidByText := true, laidKinds := [.funcs, .handle, .sentinel, .sentinel, .data], laidTests := true, laidLooks := .later }
def MessageEqualUptoCardSaid : Prop := Claim7.holds Tryz.pinned (.plain (OpenSpec.upto messageEqualSpec)) messageEqualUptoCard

/-- THE SECOND FORM's CARD OF 'capnplaw27.MessageHash'. -/
def messageHashUptoCard : Claim7 := { stood := { row := messageHashUptoRow, standIns := [], harness := (true, "9aeabcded0cf54af6e6314e3559f8d4ab6bd5f54a79d514b1c3c40e9c347399e"), looks := true }, kinds := [], alts := [], laidByText := true, laidKinds := [.funcs, .handle, .sentinel, .sentinel, .data], laidTests := true, laidLooks := .later }
def MessageHashUptoCardSaid : Prop := Claim7.holds Tryz.pinned (.plain (OpenSpec.upto messageHashSpec)) messageHashUptoCard

/-- THE SECOND FORM's CARD OF 'capnplaw27.MessagePack'. -/
def messagePackUptoCard : Claim7 := { stood := { row := messagePackUptoRow, standIns := [], harness := (true, "9aeabcded0cf54af6e6314e3559f8d4ab6bd5f54a79d514b1c3c40e9c347399e"), looks := true }, kinds := [], alts := [], laidByText := true, laidKinds := [.funcs, .handle, .sentinel, .sentinel, .data], laidTests := true, laidLooks := .later }
def MessagePackUptoCardSaid : Prop := Claim7.holds Tryz.pinned (.plain (OpenSpec.upto messagePackSpec)) messagePackUptoCard

/-- THE SECOND FORM's CARD OF 'capnplaw27.MessageKeeps'. -/
def messageKeepsUptoCard : Claim7 := { stood := { row := messageKeepsUptoRow, standIns := [], harness := (true, "9aeabcded0cf54af6e6314e3559f8d4ab6bd5f54a79d514b1c3c40e9c347399e"), looks := true }, kinds := [], alts := [], laidByText := true, laidKinds := [.funcs, .handle, .sentinel, .sentinel, .data], laidTests := true, laidLooks := .later }
def MessageKeepsUptoCardSaid : Prop := Claim7.holds Tryz.pinned (.plain (OpenSpec.upto messageKeepsSpec)) messageKeepsUptoCard

/-- THE SECOND FORM's CARD OF 'capnptop.WholeLimits'. -/
def wholeLimitsUptoCard : Claim7 := { stood := { row := wholeLimitsUptoRow, standIns := [], harness := (true, "9aeabcded0cf54af6e6314e3559f8d4ab6bd5f54a79d514b1c3c40e9c347399e"), looks := true }, kinds := [], alts := [], laidByText := true, laidKinds := [.funcs, .handle, .sentinel, .sentinel, .data], laidTests := true, laidLooks := .later }
def WholeLimitsUptoCardSaid : Prop := Claim7.holds Tryz.pinned (.plain (OpenSpec.upto wholeLimitsSpec)) wholeLimitsUptoCard

/-- THE SECOND FORM's CARD OF 'capnptop.WholeLayouts'. -/
def wholeLayoutsUptoCard : Claim7 := { stood := { row := wholeLayoutsUptoRow, standIns := [], harness := (true, "9aeabcded0cf54af6e6314e3559f8d4ab6bd5f54a79d514b1c3c40e9c347399e"), looks := true }, kinds := [], alts := [], laidByText := true, laidKinds := [.funcs, .handle, .sentinel, .sentinel, .data], laidTests := true, laidLooks := .later }
def WholeLayoutsUptoCardSaid : Prop := Claim7.holds Tryz.pinned (.plain (OpenSpec.upto wholeLayoutsSpec)) wholeLayoutsUptoCard
end Rows
end Go.Proofs.YtjbjeeoifhegfaaGreatDoor
