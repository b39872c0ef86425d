/-
  DERIVED. GIVEN WITH THE SEED: THE CARDS: each row of YtcjhejopcghgnaaDoorRows.lean that lists a variable, with what it lists TIED to the program's text (the seventh form; the later family's looks); each row that meets fmt, with fmt's text TOLD by the authors' own Lean function (tested against real Go, not proved from fmt's source: count such statements apart). THE CARD IS WHAT COUNTS. Prove the row's statement (the work); the ties are given (YtcjhejopcghgnaaDoorTie.lean); close each card by the builder's one call (the guide's Derived/Test/ToyasCard.lean, 'card_holds'). Laid BY PROGRAM, IN A SANDBOX (cutbox-door.mjs). By AI agents, Wed Nov 11 2026. No macro, syntax, notation, axiom, sorry.
-/
import Derived.Test.YtcjhejopcghgnaaDoorRows
import GoSem.ClaimSeven
namespace Go.Proofs.YtcjhejopcghgnaaDoor
namespace Rows

/-- THE TIED CARD OF 'capnplaw07.FarMatchesReference'. -/
def farMatchesReferenceCard : Claim7 := { stood := { row := farMatchesReferenceRow, standIns := [], harness := (true, "0407ccd01fd84b1ba019f912a12938fec7519b4bc3503758b1d06eee7da07cad"), looks := false }, kinds := [], alts := [], laidByText := true, laidKinds := [.funcs], laidTests := true, laidLooks := .later }
def FarMatchesReferenceCardSaid : Prop := Claim7.holds Tryd.pinned (.plain (OpenSpec.ofChange farMatchesReferenceSpec)) farMatchesReferenceCard

/-- THE TIED CARD OF 'capnplaw07.FarPointersAreFollowed'. -/
def farPointersAreFollowedCard : Claim7 := { stood := { row := farPointersAreFollowedRow, standIns := [], harness := (true, "0407ccd01fd84b1ba019f912a12938fec7519b4bc3503758b1d06eee7da07cad"), looks := false }, kinds := [], alts := [], laidByText := true, laidKinds := [.funcs], laidTests := true, laidLooks := .later }
def FarPointersAreFollowedCardSaid : Prop := Claim7.holds Tryd.pinned (.plain (OpenSpec.ofChange farPointersAreFollowedSpec)) farPointersAreFollowedCard

/-- THE TIED CARD OF 'capnplaw07.FarDescriptors'. -/
def farDescriptorsCard : Claim7 := { stood := { row := farDescriptorsRow, standIns := [], harness := (true, "0407ccd01fd84b1ba019f912a12938fec7519b4bc3503758b1d06eee7da07cad"), looks := false }, kinds := [], alts := [], laidByText := true, laidKinds := [.funcs], laidTests := true, laidLooks := .later }
def FarDescriptorsCardSaid : Prop := Claim7.holds Tryd.pinned (.plain (OpenSpec.ofChange farDescriptorsSpec)) farDescriptorsCard

/-- THE TIED CARD OF 'capnplaw07.FarKeeps'. -/
def farKeepsCard : Claim7 := { stood := { row := farKeepsRow, standIns := [], harness := (true, "0407ccd01fd84b1ba019f912a12938fec7519b4bc3503758b1d06eee7da07cad"), looks := false }, kinds := [], alts := [], laidByText := true, laidKinds := [.funcs], laidTests := true, laidLooks := .later }
def FarKeepsCardSaid : Prop := Claim7.holds Tryd.pinned (.plain (OpenSpec.ofChange farKeepsSpec)) farKeepsCard

/-- THE TIED CARD OF 'capnplaw08.ResolveMatchesReference'. -/
def resolveMatchesReferenceCard : Claim7 := { stood := { row := resolveMatchesReferenceRow, standIns := [], harness := (true, "0407ccd01fd84b1ba019f912a12938fec7519b4bc3503758b1d06eee7da07cad"), looks := false }, kinds := [], alts := [], laidByText := true, laidKinds := [.funcs, .data], laidTests := true, laidLooks := .later }
def ResolveMatchesReferenceCardSaid : Prop := Claim7.holds Tryd.pinned (.plain (OpenSpec.ofChange resolveMatchesReferenceSpec)) resolveMatchesReferenceCard

/-- THE TIED CARD OF 'capnplaw08.ResolvedObjectsAreInBounds'. -/
def resolvedObjectsAreInBoundsCard : Claim7 := { stood := { row := resolvedObjectsAreInBoundsRow, standIns := [], harness := (true, "0407ccd01fd84b1ba019f912a12938fec7519b4bc3503758b1d06eee7da07cad"), looks := false }, kinds := [], alts := [], laidByText := true, laidKinds := [.funcs, .data], laidTests := true, laidLooks := .later }
def ResolvedObjectsAreInBoundsCardSaid : Prop := Claim7.holds Tryd.pinned (.plain (OpenSpec.ofChange resolvedObjectsAreInBoundsSpec)) resolvedObjectsAreInBoundsCard

/-- THE TIED CARD OF 'capnplaw08.ResolveStructs'. -/
def resolveStructsCard : Claim7 := { stood := { row := resolveStructsRow, standIns := [], harness := (true, "0407ccd01fd84b1ba019f912a12938fec7519b4bc3503758b1d06eee7da07cad"), looks := false }, kinds := [], alts := [], laidByText := true, laidKinds := [.funcs, .data], laidTests := true, laidLooks := .later }
def ResolveStructsCardSaid : Prop := Claim7.holds Tryd.pinned (.plain (OpenSpec.ofChange resolveStructsSpec)) resolveStructsCard

/-- THE TIED CARD OF 'capnplaw08.ResolveThroughFar'. -/
def resolveThroughFarCard : Claim7 := { stood := { row := resolveThroughFarRow, standIns := [], harness := (true, "0407ccd01fd84b1ba019f912a12938fec7519b4bc3503758b1d06eee7da07cad"), looks := false }, kinds := [], alts := [], laidByText := true, laidKinds := [.funcs, .data], laidTests := true, laidLooks := .later }
def ResolveThroughFarCardSaid : Prop := Claim7.holds Tryd.pinned (.plain (OpenSpec.ofChange resolveThroughFarSpec)) resolveThroughFarCard

/-- THE TIED CARD OF 'capnplaw08.ResolveElements'. -/
def resolveElementsCard : Claim7 := { stood := { row := resolveElementsRow, standIns := [], harness := (true, "0407ccd01fd84b1ba019f912a12938fec7519b4bc3503758b1d06eee7da07cad"), looks := false }, kinds := [], alts := [], laidByText := true, laidKinds := [.funcs, .data], laidTests := true, laidLooks := .later }
def ResolveElementsCardSaid : Prop := Claim7.holds Tryd.pinned (.plain (OpenSpec.ofChange resolveElementsSpec)) resolveElementsCard

/-- THE SECOND FORM's CARD OF 'capnplaw07.FarMatchesReference'. -/
def farMatchesReferenceUptoCard : Claim7 := { stood := { row := farMatchesReferenceUptoRow, standIns := [], harness := (true, "0407ccd01fd84b1ba019f912a12938fec7519b4bc3503758b1d06eee7da07cad"), looks := false }, kinds := [], alts := [], laidByText := true, laidKinds := [.funcs], laidTests := true, laidLooks := .later }
def FarMatchesReferenceUptoCardSaid : Prop := Claim7.holds Tryd.pinned (.plain (OpenSpec.upto farMatchesReferenceSpec)) farMatchesReferenceUptoCard

/-- THE SECOND FORM's CARD OF 'capnplaw07.FarPointersAreFollowed'. -/
def farPointersAreFollowedUptoCard : Claim7 := { stood := { row := farPointersAreFollowedUptoRow, standIns := [], harness := (true, "0407ccd01fd84b1ba019f912a12938fec7519b4bc3503758b1d06eee7da07cad"), looks := false }, kinds := [], alts := [], laidByText := true, laidKinds := [.funcs], laidTests := true, laidLooks := .later }
def FarPointersAreFollowedUptoCardSaid : Prop := Claim7.holds Tryd.pinned (.plain (OpenSpec.upto farPointersAreFollowedSpec)) farPointersAreFollowedUptoCard

/-- THE SECOND FORM's CARD OF 'capnplaw07.FarDescriptors'. -/
def farDescriptorsUptoCard : Claim7 := { stood := { row := farDescriptorsUptoRow, standIns := [], harness := (true, "0407ccd01fd84b1ba019f912a12938fec7519b4bc3503758b1d06eee7da07cad"), looks := false }, kinds := [], alts := [], laidByText := true, laidKinds := [.funcs], laidTests := true, laidLooks := .later }
def FarDescriptorsUptoCardSaid : Prop := Claim7.holds Tryd.pinned (.plain (OpenSpec.upto farDescriptorsSpec)) farDescriptorsUptoCard

/-- THE SECOND FORM's CARD OF 'capnplaw07.FarKeeps'. -/
def farKeepsUptoCard : Claim7 := { stood := { row := farKeepsUptoRow, standIns := [], harness := (true, "0407ccd01fd84b1ba019f912a12938fec7519b4bc3503758b1d06eee7da07cad"), looks := false }, kinds := [], alts := [], laidByText := true, laidKinds := [.funcs], laidTests := true, laidLooks := .later }
def FarKeepsUptoCardSaid : Prop := Claim7.holds Tryd.pinned (.plain (OpenSpec.upto farKeepsSpec)) farKeepsUptoCard

/-- THE SECOND FORM's CARD OF 'capnplaw08.ResolveMatchesReference'. -/
def resolveMatchesReferenceUptoCard : Claim7 := { stood := { row := resolveMatchesReferenceUptoRow, standIns := [], harness := (true, "0407ccd01fd84b1ba019f912a12938fec7519b4bc3503758b1d06eee7da07cad"), looks := false }, kinds := [], alts := [], laidByText := true, laidKinds := [.funcs, .data], laidTests := true, laidLooks := .later }
def ResolveMatchesReferenceUptoCardSaid : Prop := Claim7.holds Tryd.pinned (.plain (OpenSpec.upto resolveMatchesReferenceSpec)) resolveMatchesReferenceUptoCard

/-- THE SECOND FORM's CARD OF 'capnplaw08.ResolvedObjectsAreInBounds'. -/
def resolvedObjectsAreInBoundsUptoCard : Claim7 := { stood := { row := resolvedObjectsAreInBoundsUptoRow, standIns := [], harness := (true, "0407ccd01fd84b1ba019f912a12938fec7519b4bc3503758b1d06eee7da07cad"), looks := false }, kinds := [], alts := [], laidByText := true, laidKinds := [.funcs, .data], laidTests := true, laidLooks := .later }
def ResolvedObjectsAreInBoundsUptoCardSaid : Prop := Claim7.holds Tryd.pinned (.plain (OpenSpec.upto resolvedObjectsAreInBoundsSpec)) resolvedObjectsAreInBoundsUptoCard

/-- THE SECOND FORM's CARD OF 'capnplaw08.ResolveStructs'. -/
def resolveStructsUptoCard : Claim7 := { stood := { row := resolveStructsUptoRow, standIns := [], harness := (true, "0407ccd01fd84b1ba019f912a12938fec7519b4bc3503758b1d06eee7da07cad"), looks := false }, kinds := [], alts := [], laidByText := true, laidKinds := [.funcs, .data], laidTests := true, laidLooks := .later }
def ResolveStructsUptoCardSaid : Prop := Claim7.holds Tryd.pinned (.plain (OpenSpec.upto resolveStructsSpec)) resolveStructsUptoCard

/-- THE SECOND FORM's CARD OF 'capnplaw08.ResolveThroughFar'. -/
def resolveThroughFarUptoCard : Claim7 := { stood := { row := resolveThroughFarUptoRow, standIns := [], harness := (true, "0407ccd01fd84b1ba019f912a12938fec7519b4bc3503758b1d06eee7da07cad"), looks := false }, kinds := [], alts := [], laidByText := true, laidKinds := [.funcs, .data], laidTests := true, laidLooks := .later }
def ResolveThroughFarUptoCardSaid : Prop := Claim7.holds Tryd.pinned (.plain (OpenSpec.upto resolveThroughFarSpec)) resolveThroughFarUptoCard

/-- THE SECOND FORM's CARD OF 'capnplaw08.ResolveElements'. -/
def resolveElementsUptoCard : Claim7 := { stood := { row := resolveElementsUptoRow, standIns := [], harness := (true, "0407ccd01fd84b1ba019f912a12938fec7519b4bc3503758b1d06eee7da07cad"), looks := false }, kinds := [], alts := [], laidByText := true, laidKinds := [.funcs, .data], laidTests := true, laidLooks := .later }
def ResolveElementsUptoCardSaid : Prop := Claim7.holds Tryd.pinned (.plain (OpenSpec.upto resolveElementsSpec)) resolveElementsUptoCard
end Rows
end Go.Proofs.YtcjhejopcghgnaaDoor
