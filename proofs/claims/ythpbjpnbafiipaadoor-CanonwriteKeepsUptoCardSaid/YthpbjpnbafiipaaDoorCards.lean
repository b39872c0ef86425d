/-
  DERIVED. GIVEN WITH THE SEED: THE CARDS: each row of YthpbjpnbafiipaaDoorRows.lean that lists a variable, with what it lists TIED to the program's text (the seventh form; the later family's looks); each row that meets fmt, with fmt's text TOLD by the authors' own Lean function (tested against real Go, not proved from fmt's source: count such statements apart). THE CARD IS WHAT COUNTS. Prove the row's statement (the work); the ties are given (YthpbjpnbafiipaaDoorTie.lean); close each card by the builder's one call (the guide's Derived/Test/ToyasCard.lean, 'card_holds'). Laid BY PROGRAM, IN A SANDBOX (cutbox-door.mjs). By AI agents, Wed Nov 11 2026. No macro, syntax, notation, axiom, sorry.
-/
import Derived.Test.YthpbjpnbafiipaaDoorRows
import GoSem.ClaimSeven
namespace Go.Proofs.YthpbjpnbafiipaaDoor
namespace Rows

/-- THE TIED CARD OF 'capnplaw12.DenoteIgnoresUnreachableWords'. -/
def denoteIgnoresUnreachableWordsCard : Claim7 := { stood := { row := denoteIgnoresUnreachableWordsRow, standIns := [], harness := (true, "d0d9bc613ff2fcde25c90d9896d91b03ff687e93d991681f0246a0f4ddf4aa2d"), looks := true }, kinds := [], alts := [], laidByText := true, laidKinds := [.funcs, .data], laidTests := true, laidLooks := .later }
def DenoteIgnoresUnreachableWordsCardSaid : Prop := Claim7.holds Tryd.pinned (.plain (OpenSpec.ofChange denoteIgnoresUnreachableWordsSpec)) denoteIgnoresUnreachableWordsCard

/-- THE TIED CARD OF 'capnplaw12.DenoteKeepsMessage'. -/
def denoteKeepsMessageCard : Claim7 := { stood := { row := denoteKeepsMessageRow, standIns := [], harness := (true, "d0d9bc613ff2fcde25c90d9896d91b03ff687e93d991681f0246a0f4ddf4aa2d"), looks := true }, kinds := [], alts := [], laidByText := true, laidKinds := [.funcs, .data], laidTests := true, laidLooks := .later }
def DenoteKeepsMessageCardSaid : Prop := Claim7.holds Tryd.pinned (.plain (OpenSpec.ofChange denoteKeepsMessageSpec)) denoteKeepsMessageCard

/-- THE TIED CARD OF 'capnplaw17.EqualMatchesCanonicalForms'. -/
def equalMatchesCanonicalFormsCard : Claim7 := { stood := { row := equalMatchesCanonicalFormsRow, standIns := [], harness := (true, "d0d9bc613ff2fcde25c90d9896d91b03ff687e93d991681f0246a0f4ddf4aa2d"), looks := true }, kinds := [], alts := [], laidByText := true, laidKinds := [.funcs, .data], laidTests := true, laidLooks := .later }
def EqualMatchesCanonicalFormsCardSaid : Prop := Claim7.holds Tryd.pinned (.plain (OpenSpec.ofChange equalMatchesCanonicalFormsSpec)) equalMatchesCanonicalFormsCard

/-- THE TIED CARD OF 'capnplaw13.CanonsizeIsAtMostCost'. -/
def canonsizeIsAtMostCostCard : Claim7 := { stood := { row := canonsizeIsAtMostCostRow, standIns := [], harness := (true, "d0d9bc613ff2fcde25c90d9896d91b03ff687e93d991681f0246a0f4ddf4aa2d"), looks := true }, kinds := [], alts := [], laidByText := true, laidKinds := [.data], laidTests := true, laidLooks := .later }
def CanonsizeIsAtMostCostCardSaid : Prop := Claim7.holds Tryd.pinned (.plain (OpenSpec.ofChange canonsizeIsAtMostCostSpec)) canonsizeIsAtMostCostCard

/-- THE TIED CARD OF 'capnplaw13.CanonsizeKeeps'. -/
def canonsizeKeepsCard : Claim7 := { stood := { row := canonsizeKeepsRow, standIns := [], harness := (true, "d0d9bc613ff2fcde25c90d9896d91b03ff687e93d991681f0246a0f4ddf4aa2d"), looks := true }, kinds := [], alts := [], laidByText := true, laidKinds := [.data], laidTests := true, laidLooks := .later }
def CanonsizeKeepsCardSaid : Prop := Claim7.holds Tryd.pinned (.plain (OpenSpec.ofChange canonsizeKeepsSpec)) canonsizeKeepsCard

/-- THE TIED CARD OF 'capnplaw14.CanonwriteMatchesReference'. -/
def canonwriteMatchesReferenceCard : Claim7 := { stood := { row := canonwriteMatchesReferenceRow, standIns := [], harness := (true, "d0d9bc613ff2fcde25c90d9896d91b03ff687e93d991681f0246a0f4ddf4aa2d"), looks := true }, kinds := [], alts := [], laidByText := true, laidKinds := [.funcs, .data], laidTests := true, laidLooks := .later }
def CanonwriteMatchesReferenceCardSaid : Prop := Claim7.holds Tryd.pinned (.plain (OpenSpec.ofChange canonwriteMatchesReferenceSpec)) canonwriteMatchesReferenceCard

/-- THE TIED CARD OF 'capnplaw14.CanonwriteIsInjective'. -/
def canonwriteIsInjectiveCard : Claim7 := { stood := { row := canonwriteIsInjectiveRow, standIns := [], harness := (true, "d0d9bc613ff2fcde25c90d9896d91b03ff687e93d991681f0246a0f4ddf4aa2d"), looks := true }, kinds := [], alts := [], laidByText := true, laidKinds := [.funcs, .data], laidTests := true, laidLooks := .later }
def CanonwriteIsInjectiveCardSaid : Prop := Claim7.holds Tryd.pinned (.plain (OpenSpec.ofChange canonwriteIsInjectiveSpec)) canonwriteIsInjectiveCard

/-- THE TIED CARD OF 'capnplaw14.CanonwriteNests'. -/
def canonwriteNestsCard : Claim7 := { stood := { row := canonwriteNestsRow, standIns := [], harness := (true, "d0d9bc613ff2fcde25c90d9896d91b03ff687e93d991681f0246a0f4ddf4aa2d"), looks := true }, kinds := [], alts := [], laidByText := true, laidKinds := [.funcs, .data], laidTests := true, laidLooks := .later }
def CanonwriteNestsCardSaid : Prop := Claim7.holds Tryd.pinned (.plain (OpenSpec.ofChange canonwriteNestsSpec)) canonwriteNestsCard

/-- THE TIED CARD OF 'capnplaw14.CanonwriteKeeps'. -/
def canonwriteKeepsCard : Claim7 := { stood := { row := canonwriteKeepsRow, standIns := [], harness := (true, "d0d9bc613ff2fcde25c90d9896d91b03ff687e93d991681f0246a0f4ddf4aa2d"), looks := true }, kinds := [], alts := [], laidByText := true, laidKinds := [.funcs, .data], laidTests := true, laidLooks := .later }
def CanonwriteKeepsCardSaid : Prop := Claim7.holds Tryd.pinned (.plain (OpenSpec.ofChange canonwriteKeepsSpec)) canonwriteKeepsCard

/-- THE SECOND FORM's CARD OF 'capnplaw12.DenoteIgnoresUnreachableWords'. -/
def denoteIgnoresUnreachableWordsUptoCard : Claim7 := { stood := { row := denoteIgnoresUnreachableWordsUptoRow, standIns := [], harness := (true, "d0d9bc613ff2fcde25c90d9896d91b03ff687e93d991681f0246a0f4ddf4aa2d"), looks := true }, kinds := [], alts := [], laidByText := true, laidKinds := [.funcs, .data], laidTests := true, laidLooks := .later }
def DenoteIgnoresUnreachableWordsUptoCardSaid : Prop := Claim7.holds Tryd.pinned (.plain (OpenSpec.upto denoteIgnoresUnreachableWordsSpec)) denoteIgnoresUnreachableWordsUptoCard

/-- THE SECOND FORM's CARD OF 'capnplaw12.DenoteKeepsMessage'. -/
def denoteKeepsMessageUptoCard : Claim7 := { stood := { row := denoteKeepsMessageUptoRow, standIns := [], harness := (true, "d0d9bc613ff2fcde25c90d9896d91b03ff687e93d991681f0246a0f4ddf4aa2d"), looks := true }, kinds := [], alts := [], laidByText := true, laidKinds := [.funcs, .data], laidTests := true, laidLooks := .later }
def DenoteKeepsMessageUptoCardSaid : Prop := Claim7.holds Tryd.pinned (.plain (OpenSpec.upto denoteKeepsMessageSpec)) denoteKeepsMessageUptoCard

/-- THE SECOND FORM's CARD OF 'capnplaw17.EqualMatchesCanonicalForms'. -/
def equalMatchesCanonicalFormsUptoCard : Claim7 := { stood := { row := equalMatchesCanonicalFormsUptoRow, standIns := [], harness := (true, "d0d9bc613ff2fcde25c90d9896d91b03ff687e93d991681f0246a0f4ddf4aa2d"), looks := true }, kinds := [], alts := [], laidByText := true, laidKinds := [.funcs, .data], laidTests := true, laidLooks := .later }
def EqualMatchesCanonicalFormsUptoCardSaid : Prop := Claim7.holds Tryd.pinned (.plain (OpenSpec.upto equalMatchesCanonicalFormsSpec)) equalMatchesCanonicalFormsUptoCard

/-- THE SECOND FORM's CARD OF 'capnplaw13.CanonsizeIsAtMostCost'. -/
def canonsizeIsAtMostCostUptoCard : Claim7 := { stood := { row := canonsizeIsAtMostCostUptoRow, standIns := [], harness := (true, "d0d9bc613ff2fcde25c90d9896d91b03ff687e93d991681f0246a0f4ddf4aa2d"), looks := true }, kinds := [], alts := [], laidByText := true, laidKinds := [.data], laidTests := true, laidLooks := .later }
def CanonsizeIsAtMostCostUptoCardSaid : Prop := Claim7.holds Tryd.pinned (.plain (OpenSpec.upto canonsizeIsAtMostCostSpec)) canonsizeIsAtMostCostUptoCard

/-- THE SECOND FORM's CARD OF 'capnplaw13.CanonsizeKeeps'. -/
def canonsizeKeepsUptoCard : Claim7 := { stood := { row := canonsizeKeepsUptoRow, standIns := [], harness := (true, "d0d9bc613ff2fcde25c90d9896d91b03ff687e93d991681f0246a0f4ddf4aa2d"), looks := true }, kinds := [], alts := [], laidByText := true, laidKinds := [.data], laidTests := true, laidLooks := .later }
def CanonsizeKeepsUptoCardSaid : Prop := Claim7.holds Tryd.pinned (.plain (OpenSpec.upto canonsizeKeepsSpec)) canonsizeKeepsUptoCard

/-- THE SECOND FORM's CARD OF 'capnplaw14.CanonwriteMatchesReference'. -/
def canonwriteMatchesReferenceUptoCard : Claim7 := { stood := { row := canonwriteMatchesReferenceUptoRow, standIns := [], harness := (true, "d0d9bc613ff2fcde25c90d9896d91b03ff687e93d991681f0246a0f4ddf4aa2d"), looks := true }, kinds := [], alts := [], laidByText := true, laidKinds := [.funcs, .data], laidTests := true, laidLooks := .later }
def CanonwriteMatchesReferenceUptoCardSaid : Prop := Claim7.holds Tryd.pinned (.plain (OpenSpec.upto canonwriteMatchesReferenceSpec)) canonwriteMatchesReferenceUptoCard

/-- THE SECOND FORM's CARD OF 'capnplaw14.CanonwriteIsInjective'. -/
def canonwriteIsInjectiveUptoCard : Claim7 := { stood := { row := canonwriteIsInjectiveUptoRow, standIns := [], harness := (true, "d0d9bc613ff2fcde25c90d9896d91b03ff687e93d991681f0246a0f4ddf4aa2d"), looks := true }, kinds := [], alts := [], laidByText := true, laidKinds := [.funcs, .data], laidTests := true, laidLooks := .later }
def CanonwriteIsInjectiveUptoCardSaid : Prop := Claim7.holds Tryd.pinned (.plain (OpenSpec.upto canonwriteIsInjectiveSpec)) canonwriteIsInjectiveUptoCard

/-- THE SECOND FORM's CARD OF 'capnplaw14.CanonwriteNests'. -/
def canonwriteNestsUptoCard : Claim7 := { stood := { row := canonwriteNestsUptoRow, standIns := [], harness := (true, "d0d9bc613ff2fcde25c90d9896d91b03ff687e93d991681f0246a0f4ddf4aa2d"), looks := true }, kinds := [], alts := [], laidByText := true, laidKinds := [.funcs, .data], laidTests := true, laidLooks := .later }
def CanonwriteNestsUptoCardSaid : Prop := Claim7.holds Tryd.pinned (.plain (OpenSpec.upto canonwriteNestsSpec)) canonwriteNestsUptoCard

/-- THE SECOND FORM's CARD OF 'capnplaw14.CanonwriteKeeps'. -/
def canonwriteKeepsUptoCard : Claim7 := { stood := { row := canonwriteKeepsUptoRow, standIns := [], harness := (true, "d0d9bc613ff2fcde25c90d9896d91b03ff687e93d991681f0246a0f4ddf4aa2d"), looks := true }, kinds := [], alts := [], laidByText := true, laidKinds := [.funcs, .data], laidTests := true, laidLooks := .later }
def CanonwriteKeepsUptoCardSaid : Prop := Claim7.holds Tryd.pinned (.plain (OpenSpec.upto canonwriteKeepsSpec)) canonwriteKeepsUptoCard
end Rows
end Go.Proofs.YthpbjpnbafiipaaDoor
