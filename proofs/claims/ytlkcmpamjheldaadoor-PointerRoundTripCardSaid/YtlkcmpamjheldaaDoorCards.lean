/-
  DERIVED. GIVEN WITH THE SEED: THE CARDS: each row of YtlkcmpamjheldaaDoorRows.lean that lists a variable, with what it lists TIED to the program's text (the seventh form; the later family's looks); each row that meets fmt, with fmt's text TOLD by the authors' own Lean function (tested against real Go, not proved from fmt's source: count such statements apart). THE CARD IS WHAT COUNTS. Prove the row's statement (the work); the ties are given (YtlkcmpamjheldaaDoorTie.lean); close each card by the builder's one call (the guide's Derived/Test/ToyasCard.lean, 'card_holds'). Laid BY PROGRAM, IN A SANDBOX (cutbox-door.mjs). By AI agents, Wed Nov 11 2026. No macro, syntax, notation, axiom, sorry.
-/
import Derived.Test.YtlkcmpamjheldaaDoorRows
import GoSem.ClaimSeven
namespace Go.Proofs.YtlkcmpamjheldaaDoor
namespace Rows

/-- THE TIED CARD OF 'capnplaw02.PointerMatchesReference'. -/
def pointerMatchesReferenceCard : Claim7 := { stood := { row := pointerMatchesReferenceRow, standIns := [], harness := (true, "9e5cc529afa621d478c546a0085e26c662def7732cbd726b949eb0b3f7113bb8"), looks := false }, kinds := [], alts := [], laidByText := true, laidKinds := [.funcs], laidTests := true, laidLooks := .later }
def PointerMatchesReferenceCardSaid : Prop := Claim7.holds Tryd.pinned (.plain (OpenSpec.ofChange pointerMatchesReferenceSpec)) pointerMatchesReferenceCard

/-- THE TIED CARD OF 'capnplaw02.PointerRoundTrip'. -/
def pointerRoundTripCard : Claim7 := { stood := { row := pointerRoundTripRow, standIns := [], harness := (true, "9e5cc529afa621d478c546a0085e26c662def7732cbd726b949eb0b3f7113bb8"), looks := false }, kinds := [], alts := [], laidByText := true, laidKinds := [.funcs], laidTests := true, laidLooks := .later }
def PointerRoundTripCardSaid : Prop := Claim7.holds Tryd.pinned (.plain (OpenSpec.ofChange pointerRoundTripSpec)) pointerRoundTripCard

/-- THE TIED CARD OF 'capnplaw02.PointerKinds'. -/
def pointerKindsCard : Claim7 := { stood := { row := pointerKindsRow, standIns := [], harness := (true, "9e5cc529afa621d478c546a0085e26c662def7732cbd726b949eb0b3f7113bb8"), looks := false }, kinds := [], alts := [], laidByText := true, laidKinds := [.funcs], laidTests := true, laidLooks := .later }
def PointerKindsCardSaid : Prop := Claim7.holds Tryd.pinned (.plain (OpenSpec.ofChange pointerKindsSpec)) pointerKindsCard

/-- THE TIED CARD OF 'capnplaw02.PointerFields'. -/
def pointerFieldsCard : Claim7 := { stood := { row := pointerFieldsRow, standIns := [], harness := (true, "9e5cc529afa621d478c546a0085e26c662def7732cbd726b949eb0b3f7113bb8"), looks := false }, kinds := [], alts := [], laidByText := true, laidKinds := [.funcs], laidTests := true, laidLooks := .later }
def PointerFieldsCardSaid : Prop := Claim7.holds Tryd.pinned (.plain (OpenSpec.ofChange pointerFieldsSpec)) pointerFieldsCard

/-- THE TIED CARD OF 'capnplaw02.PointerReaches'. -/
def pointerReachesCard : Claim7 := { stood := { row := pointerReachesRow, standIns := [], harness := (true, "9e5cc529afa621d478c546a0085e26c662def7732cbd726b949eb0b3f7113bb8"), looks := false }, kinds := [], alts := [], laidByText := true, laidKinds := [.funcs], laidTests := true, laidLooks := .later }
def PointerReachesCardSaid : Prop := Claim7.holds Tryd.pinned (.plain (OpenSpec.ofChange pointerReachesSpec)) pointerReachesCard

/-- THE SECOND FORM's CARD OF 'capnplaw02.PointerMatchesReference'. -/
def pointerMatchesReferenceUptoCard : Claim7 := { stood := { row := pointerMatchesReferenceUptoRow, standIns := [], harness := (true, "9e5cc529afa621d478c546a0085e26c662def7732cbd726b949eb0b3f7113bb8"), looks := false }, kinds := [], alts := [], laidByText := true, laidKinds := [.funcs], laidTests := true, laidLooks := .later }
def PointerMatchesReferenceUptoCardSaid : Prop := Claim7.holds Tryd.pinned (.plain (OpenSpec.upto pointerMatchesReferenceSpec)) pointerMatchesReferenceUptoCard

/-- THE SECOND FORM's CARD OF 'capnplaw02.PointerRoundTrip'. -/
def pointerRoundTripUptoCard : Claim7 := { stood := { row := pointerRoundTripUptoRow, standIns := [], harness := (true, "9e5cc529afa621d478c546a0085e26c662def7732cbd726b949eb0b3f7113bb8"), looks := false }, kinds := [], alts := [], laidByText := true, laidKinds := [.funcs], laidTests := true, laidLooks := .later }
def PointerRoundTripUptoCardSaid : Prop := Claim7.holds Tryd.pinned (.plain (OpenSpec.upto pointerRoundTripSpec)) pointerRoundTripUptoCard

/-- THE SECOND FORM's CARD OF 'capnplaw02.PointerKinds'. -/
def pointerKindsUptoCard : Claim7 := { stood := { row := pointerKindsUptoRow, standIns := [], harness := (true, "9e5cc529afa621d478c546a0085e26c662def7732cbd726b949eb0b3f7113bb8"), looks := false }, kinds := [], alts := [], laidByText := true, laidKinds := [.funcs], laidTests := true, laidLooks := .later }
def PointerKindsUptoCardSaid : Prop := Claim7.holds Tryd.pinned (.plain (OpenSpec.upto pointerKindsSpec)) pointerKindsUptoCard

/-- THE SECOND FORM's CARD OF 'capnplaw02.PointerFields'. -/
def pointerFieldsUptoCard : Claim7 := { stood := { row := pointerFieldsUptoRow, standIns := [], harness := (true, "9e5cc529afa621d478c546a0085e26c662def7732cbd726b949eb0b3f7113bb8"), looks := false }, kinds := [], alts := [], laidByText := true, laidKinds := [.funcs], laidTests := true, laidLooks := .later }
def PointerFieldsUptoCardSaid : Prop := Claim7.holds Tryd.pinned (.plain (OpenSpec.upto pointerFieldsSpec)) pointerFieldsUptoCard

/-- THE SECOND FORM's CARD OF 'capnplaw02.PointerReaches'. -/
def pointerReachesUptoCard : Claim7 := { stood := { row := pointerReachesUptoRow, standIns := [], harness := (true, "9e5cc529afa621d478c546a0085e26c662def7732cbd726b949eb0b3f7113bb8"), looks := false }, kinds := [], alts := [], laidByText := true, laidKinds := [.funcs], laidTests := true, laidLooks := .later }
def PointerReachesUptoCardSaid : Prop := Claim7.holds Tryd.pinned (.plain (OpenSpec.upto pointerReachesSpec)) pointerReachesUptoCard
end Rows
end Go.Proofs.YtlkcmpamjheldaaDoor
