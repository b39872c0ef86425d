/-
  DERIVED. GIVEN WITH THE SEED: THE CARDS: each row of YtdkmbkdgojiebaaDoorRows.lean that lists a variable, with what it lists TIED to the program's text (the seventh form; the later family's looks); each row that meets fmt, with fmt's text TOLD by the authors' own Lean function (tested against real Go, not proved from fmt's source: count such statements apart). THE CARD IS WHAT COUNTS. Prove the row's statement (the work); the ties are given (YtdkmbkdgojiebaaDoorTie.lean); close each card by the builder's one call (the guide's Derived/Test/ToyasCard.lean, 'card_holds'). Laid BY PROGRAM, IN A SANDBOX (cutbox-door.mjs). By AI agents, Wed Nov 11 2026. No macro, syntax, notation, axiom, sorry.
-/
import Derived.Test.YtdkmbkdgojiebaaDoorRows
import GoSem.ClaimSeven
namespace Go.Proofs.YtdkmbkdgojiebaaDoor
namespace Rows

/-- THE TIED CARD OF 'capnplaw12.DenoteMatchesReference'. -/
def denoteMatchesReferenceCard : Claim7 := { stood := { row := denoteMatchesReferenceRow, standIns := [], harness := (true, "9870dac34ebcfa5c3eb2d12a8177f74355f09bde2a78a24c0547fb84c01ceaf1"), looks := true }, kinds := [], alts := [], laidByText := true, laidKinds := [.funcs, .data], laidTests := true, laidLooks := .later }
def DenoteMatchesReferenceCardSaid : Prop := Claim7.holds Tryd.pinned (.plain (OpenSpec.ofChange denoteMatchesReferenceSpec)) denoteMatchesReferenceCard

/-- THE TIED CARD OF 'capnplaw12.DenoteIsBounded'. -/
def denoteIsBoundedCard : Claim7 := { stood := { row := denoteIsBoundedRow, standIns := [], harness := (true, "9870dac34ebcfa5c3eb2d12a8177f74355f09bde2a78a24c0547fb84c01ceaf1"), looks := true }, kinds := [], alts := [], laidByText := true, laidKinds := [.funcs, .data], laidTests := true, laidLooks := .later }
def DenoteIsBoundedCardSaid : Prop := Claim7.holds Tryd.pinned (.plain (OpenSpec.ofChange denoteIsBoundedSpec)) denoteIsBoundedCard

/-- THE TIED CARD OF 'capnplaw12.DenoteLimitsAreMonotone'. -/
def denoteLimitsAreMonotoneCard : Claim7 := { stood := { row := denoteLimitsAreMonotoneRow, standIns := [], harness := (true, "9870dac34ebcfa5c3eb2d12a8177f74355f09bde2a78a24c0547fb84c01ceaf1"), looks := true }, kinds := [], alts := [], laidByText := true, laidKinds := [.funcs, .data], laidTests := true, laidLooks := .later }
def DenoteLimitsAreMonotoneCardSaid : Prop := Claim7.holds Tryd.pinned (.plain (OpenSpec.ofChange denoteLimitsAreMonotoneSpec)) denoteLimitsAreMonotoneCard

/-- THE TIED CARD OF 'capnplaw12.DenoteIgnoresUnreachableWords'. -/
def denoteIgnoresUnreachableWordsCard : Claim7 := { stood := { row := denoteIgnoresUnreachableWordsRow, standIns := [], harness := (true, "9870dac34ebcfa5c3eb2d12a8177f74355f09bde2a78a24c0547fb84c01ceaf1"), looks := true }, kinds := [], alts := [], laidByText := true, laidKinds := [.funcs, .data], laidTests := true, laidLooks := .later }
def DenoteIgnoresUnreachableWordsCardSaid : Prop := Claim7.holds Tryd.pinned (.plain (OpenSpec.ofChange denoteIgnoresUnreachableWordsSpec)) denoteIgnoresUnreachableWordsCard

/-- THE TIED CARD OF 'capnplaw12.DenoteKeepsMessage'. -/
def denoteKeepsMessageCard : Claim7 := { stood := { row := denoteKeepsMessageRow, standIns := [], harness := (true, "9870dac34ebcfa5c3eb2d12a8177f74355f09bde2a78a24c0547fb84c01ceaf1"), looks := true }, kinds := [], alts := [], laidByText := true, laidKinds := [.funcs, .data], laidTests := true, laidLooks := .later }
def DenoteKeepsMessageCardSaid : Prop := Claim7.holds Tryd.pinned (.plain (OpenSpec.ofChange denoteKeepsMessageSpec)) denoteKeepsMessageCard

/-- THE TIED CARD OF 'capnplaw17.EqualMatchesReference'. -/
def equalMatchesReferenceCard : Claim7 := { stood := { row := equalMatchesReferenceRow, standIns := [], harness := (true, "9870dac34ebcfa5c3eb2d12a8177f74355f09bde2a78a24c0547fb84c01ceaf1"), looks := true }, kinds := [], alts := [], laidByText := true, laidKinds := [.funcs, .data], laidTests := true, laidLooks := .later }
def EqualMatchesReferenceCardSaid : Prop := Claim7.holds Tryd.pinned (.plain (OpenSpec.ofChange equalMatchesReferenceSpec)) equalMatchesReferenceCard

/-- THE TIED CARD OF 'capnplaw17.EqualIsEquivalence'. -/
def equalIsEquivalenceCard : Claim7 := { stood := { row := equalIsEquivalenceRow, standIns := [], harness := (true, "9870dac34ebcfa5c3eb2d12a8177f74355f09bde2a78a24c0547fb84c01ceaf1"), looks := true }, kinds := [], alts := [], laidByText := true, laidKinds := [.funcs, .data], laidTests := true, laidLooks := .later }
def EqualIsEquivalenceCardSaid : Prop := Claim7.holds Tryd.pinned (.plain (OpenSpec.ofChange equalIsEquivalenceSpec)) equalIsEquivalenceCard

/-- THE TIED CARD OF 'capnplaw17.EqualMatchesCanonicalForms'. -/
def equalMatchesCanonicalFormsCard : Claim7 := { stood := { row := equalMatchesCanonicalFormsRow, standIns := [], harness := (true, "9870dac34ebcfa5c3eb2d12a8177f74355f09bde2a78a24c0547fb84c01ceaf1"), looks := true }, kinds := [], alts := [], laidByText := true, laidKinds := [.funcs, .data], laidTests := true, laidLooks := .later }
def EqualMatchesCanonicalFormsCardSaid : Prop := Claim7.holds Tryd.pinned (.plain (OpenSpec.ofChange equalMatchesCanonicalFormsSpec)) equalMatchesCanonicalFormsCard

/-- THE TIED CARD OF 'capnplaw17.EqualData'. -/
def equalDataCard : Claim7 := { stood := { row := equalDataRow, standIns := [], harness := (true, "9870dac34ebcfa5c3eb2d12a8177f74355f09bde2a78a24c0547fb84c01ceaf1"), looks := true }, kinds := [], alts := [], laidByText := true, laidKinds := [.funcs, .data], laidTests := true, laidLooks := .later }
def EqualDataCardSaid : Prop := Claim7.holds Tryd.pinned (.plain (OpenSpec.ofChange equalDataSpec)) equalDataCard

/-- THE TIED CARD OF 'capnplaw17.EqualKeeps'. -/
def equalKeepsCard : Claim7 := { stood := { row := equalKeepsRow, standIns := [], harness := (true, "9870dac34ebcfa5c3eb2d12a8177f74355f09bde2a78a24c0547fb84c01ceaf1"), looks := true }, kinds := [], alts := [], laidByText := true, laidKinds := [.funcs, .data], laidTests := true, laidLooks := .later }
def EqualKeepsCardSaid : Prop := Claim7.holds Tryd.pinned (.plain (OpenSpec.ofChange equalKeepsSpec)) equalKeepsCard

/-- THE TIED CARD OF 'capnplaw13.CanonsizeIsAtMostCost'. -/
def canonsizeIsAtMostCostCard : Claim7 := { stood := { row := canonsizeIsAtMostCostRow, standIns := [], harness := (true, "9870dac34ebcfa5c3eb2d12a8177f74355f09bde2a78a24c0547fb84c01ceaf1"), looks := true }, kinds := [], alts := [], laidByText := true, laidKinds := [.data], laidTests := true, laidLooks := .later }
def CanonsizeIsAtMostCostCardSaid : Prop := Claim7.holds Tryd.pinned (.plain (OpenSpec.ofChange canonsizeIsAtMostCostSpec)) canonsizeIsAtMostCostCard

/-- THE TIED CARD OF 'capnplaw13.CanonsizeKeeps'. -/
def canonsizeKeepsCard : Claim7 := { stood := { row := canonsizeKeepsRow, standIns := [], harness := (true, "9870dac34ebcfa5c3eb2d12a8177f74355f09bde2a78a24c0547fb84c01ceaf1"), looks := true }, kinds := [], alts := [], laidByText := true, laidKinds := [.data], laidTests := true, laidLooks := .later }
def CanonsizeKeepsCardSaid : Prop := Claim7.holds Tryd.pinned (.plain (OpenSpec.ofChange canonsizeKeepsSpec)) canonsizeKeepsCard

/-- THE SECOND FORM's CARD OF 'capnplaw12.DenoteMatchesReference'. -/
def denoteMatchesReferenceUptoCard : Claim7 := { stood := { row := denoteMatchesReferenceUptoRow, standIns := [], harness := (true, "9870dac34ebcfa5c3eb2d12a8177f74355f09bde2a78a24c0547fb84c01ceaf1"), looks := true }, kinds := [], alts := [], laidByText := true, laidKinds := [.funcs, .data], laidTests := true, laidLooks := .later }
def DenoteMatchesReferenceUptoCardSaid : Prop := Claim7.holds Tryd.pinned (.plain (OpenSpec.upto denoteMatchesReferenceSpec)) denoteMatchesReferenceUptoCard

/-- THE SECOND FORM's CARD OF 'capnplaw12.DenoteIsBounded'. -/
def denoteIsBoundedUptoCard : Claim7 := { stood := { row := denoteIsBoundedUptoRow, standIns := [], harness := (true, "9870dac34ebcfa5c3eb2d12a8177f74355f09bde2a78a24c0547fb84c01ceaf1"), looks := true }, kinds := [], alts := [], laidByText := true, laidKinds := [.funcs, .data], laidTests := true, laidLooks := .later }
def DenoteIsBoundedUptoCardSaid : Prop := Claim7.holds Tryd.pinned (.plain (OpenSpec.upto denoteIsBoundedSpec)) denoteIsBoundedUptoCard

/-- THE SECOND FORM's CARD OF 'capnplaw12.DenoteLimitsAreMonotone'. -/
def denoteLimitsAreMonotoneUptoCard : Claim7 := { stood := { row := denoteLimitsAreMonotoneUptoRow, standIns := [], harness := (true, "9870dac34ebcfa5c3eb2d12a8177f74355f09bde2a78a24c0547fb84c01ceaf1"), looks := true }, kinds := [], alts := [], laidByText := true, laidKinds := [.funcs, .data], laidTests := true, laidLooks := .later }
def DenoteLimitsAreMonotoneUptoCardSaid : Prop := Claim7.holds Tryd.pinned (.plain (OpenSpec.upto denoteLimitsAreMonotoneSpec)) denoteLimitsAreMonotoneUptoCard

/-- THE SECOND FORM's CARD OF 'capnplaw12.DenoteIgnoresUnreachableWords'. -/
def denoteIgnoresUnreachableWordsUptoCard : Claim7 := { stood := { row := denoteIgnoresUnreachableWordsUptoRow, standIns := [], harness := (true, "9870dac34ebcfa5c3eb2d12a8177f74355f09bde2a78a24c0547fb84c01ceaf1"), looks := true }, kinds := [], alts := [], laidByText := true, laidKinds := [.funcs, .data], laidTests := true, laidLooks := .later }
def DenoteIgnoresUnreachableWordsUptoCardSaid : Prop := Claim7.holds Tryd.pinned (.plain (OpenSpec.upto denoteIgnoresUnreachableWordsSpec)) denoteIgnoresUnreachableWordsUptoCard

/-- THE SECOND FORM's CARD OF 'capnplaw12.DenoteKeepsMessage'. -/
def denoteKeepsMessageUptoCard : Claim7 := { stood := { row := denoteKeepsMessageUptoRow, standIns := [], harness := (true, "9870dac34ebcfa5c3eb2d12a8177f74355f09bde2a78a24c0547fb84c01ceaf1"), looks := true }, kinds := [], alts := [], laidByText := true, laidKinds := [.funcs, .data], laidTests := true, laidLooks := .later }
def DenoteKeepsMessageUptoCardSaid : Prop := Claim7.holds Tryd.pinned (.plain (OpenSpec.upto denoteKeepsMessageSpec)) denoteKeepsMessageUptoCard

/-- THE SECOND FORM's CARD OF 'capnplaw17.EqualMatchesReference'. -/
def equalMatchesReferenceUptoCard : Claim7 := { stood := { row := equalMatchesReferenceUptoRow, standIns := [], harness := (true, "9870dac34ebcfa5c3eb2d12a8177f74355f09bde2a78a24c0547fb84c01ceaf1"), looks := true }, kinds := [], alts := [], laidByText := true, laidKinds := [.funcs, .data], laidTests := true, laidLooks := .later }
def EqualMatchesReferenceUptoCardSaid : Prop := Claim7.holds Tryd.pinned (.plain (OpenSpec.upto equalMatchesReferenceSpec)) equalMatchesReferenceUptoCard

/-- THE SECOND FORM's CARD OF 'capnplaw17.EqualIsEquivalence'. -/
def equalIsEquivalenceUptoCard : Claim7 := { stood := { row := equalIsEquivalenceUptoRow, standIns := [], harness := (true, "9870dac34ebcfa5c3eb2d12a8177f74355f09bde2a78a24c0547fb84c01ceaf1"), looks := true }, kinds := [], alts := [], laidByText := true, laidKinds := [.funcs, .data], laidTests := true, laidLooks := .later }
def EqualIsEquivalenceUptoCardSaid : Prop := Claim7.holds Tryd.pinned (.plain (OpenSpec.upto equalIsEquivalenceSpec)) equalIsEquivalenceUptoCard

/-- THE SECOND FORM's CARD OF 'capnplaw17.EqualMatchesCanonicalForms'. -/
def equalMatchesCanonicalFormsUptoCard : Claim7 := { stood := { row := equalMatchesCanonicalFormsUptoRow, standIns := [], harness := (true, "9870dac34ebcfa5c3eb2d12a8177f74355f09bde2a78a24c0547fb84c01ceaf1"), looks := true }, kinds := [], alts := [], laidByText := true, laidKinds := [.funcs, .data], laidTests := true, laidLooks := .later }
def EqualMatchesCanonicalFormsUptoCardSaid : Prop := Claim7.holds Tryd.pinned (.plain (OpenSpec.upto equalMatchesCanonicalFormsSpec)) equalMatchesCanonicalFormsUptoCard

/-- THE SECOND FORM's CARD OF 'capnplaw17.EqualData'. -/
def equalDataUptoCard : Claim7 := { stood := { row := equalDataUptoRow, standIns := [], harness := (true, "9870dac34ebcfa5c3eb2d12a8177f74355f09bde2a78a24c0547fb84c01ceaf1"), looks := true }, kinds := [], alts := [], laidByText := true, laidKinds := [.funcs, .data], laidTests := true, laidLooks := .later }
def EqualDataUptoCardSaid : Prop := Claim7.holds Tryd.pinned (.plain (OpenSpec.upto equalDataSpec)) equalDataUptoCard

/-- THE SECOND FORM's CARD OF 'capnplaw17.EqualKeeps'. -/
def equalKeepsUptoCard : Claim7 := { stood := { row := equalKeepsUptoRow, standIns := [], harness := (true, "9870dac34ebcfa5c3eb2d12a8177f74355f09bde2a78a24c0547fb84c01ceaf1"), looks := true }, kinds := [], alts := [], laidByText := true, laidKinds := [.funcs, .data], laidTests := true, laidLooks := .later }
def EqualKeepsUptoCardSaid : Prop := Claim7.holds Tryd.pinned (.plain (OpenSpec.upto equalKeepsSpec)) equalKeepsUptoCard

/-- THE SECOND FORM's CARD OF 'capnplaw13.CanonsizeIsAtMostCost'. -/
def canonsizeIsAtMostCostUptoCard : Claim7 := { stood := { row := canonsizeIsAtMostCostUptoRow, standIns := [], harness := (true, "9870dac34ebcfa5c3eb2d12a8177f74355f09bde2a78a24c0547fb84c01ceaf1"), looks := true }, kinds := [], alts := [], laidByText := true, laidKinds := [.data], laidTests := true, laidLooks := .later }
def CanonsizeIsAtMostCostUptoCardSaid : Prop := Claim7.holds Tryd.pinned (.plain (OpenSpec.upto canonsizeIsAtMostCostSpec)) canonsizeIsAtMostCostUptoCard

/-- THE SECOND FORM's CARD OF 'capnplaw13.CanonsizeKeeps'. -/
def canonsizeKeepsUptoCard : Claim7 := { stood := { row := canonsizeKeepsUptoRow, standIns := [], harness := (true, "9870dac34ebcfa5c3eb2d12a8177f74355f09bde2a78a24c0547fb84c01ceaf1"), looks := true }, kinds := [], alts := [], laidByText := true, laidKinds := [.data], laidTests := true, laidLooks := .later }
def CanonsizeKeepsUptoCardSaid : Prop := Claim7.holds Tryd.pinned (.plain (OpenSpec.upto canonsizeKeepsSpec)) canonsizeKeepsUptoCard
end Rows
end Go.Proofs.YtdkmbkdgojiebaaDoor
