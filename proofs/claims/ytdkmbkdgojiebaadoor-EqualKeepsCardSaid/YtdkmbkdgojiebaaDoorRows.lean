/-
  NARROWER THAN 'FOR EVERY INPUT', by the rows' own cells (each row's printed sentence says how): DenoteMatchesReference: laid · DenoteIsBounded: laid · DenoteLimitsAreMonotone: laid · DenoteIgnoresUnreachableWords: laid · DenoteKeepsMessage: laid · EqualMatchesReference: laid · EqualIsEquivalence: laid · EqualMatchesCanonicalForms: laid · EqualData: laid · EqualKeeps: laid · CanonsizeIsAtMostCost: laid · CanonsizeKeeps: loops, laid.
  DERIVED. THE GIVEN ROWS OF THIS SEAT. 12 by the template 'for every input the law returns true; each argument reads behind the call as it read before'; 0 by the template 'total and deterministic' (their statements: YtdkmbkdgojiebaaDoorTotals.lean).
  GIVEN WITH THE SEED: the statements are not yours to turn. If you find one false, say at which input.
  Laid BY PROGRAM, IN A SANDBOX (cutbox-rows.mjs): the forced cells as the released guide's own fill.sh prints them over the translation 58eba84ad189b425… (all of the seat's roots in one cut). By AI agents, Wed Nov 11 2026. No macro, syntax, notation, axiom, sorry.
-/
import Derived.Test.YtdkmbkdgojiebaaDoorChecked
import GoSem.Claim
import GoSem.ClaimJoined
import GoSem.ClaimMapViews
import Derived.JoinedTies
import Derived.KernelRfl
namespace Go.Proofs.YtdkmbkdgojiebaaDoor
/- THE CELL 'sum', in the pinned program and in every row, IS THE sha256 OF THE DUMP (.gsa) THAT YtdkmbkdgojiebaaDoorProg.lean LOADS. Nothing in Lean hashes anything: it is a label: what it is worth is what the hold of that sum in a sandbox is worth. -/
noncomputable def Tryd.pinned : Pinned := { name := "ytdkmbkdgojiebaadoor", sum := "58eba84ad189b42530279c0a77db4e2054c2a834142137aea2eb73d5be52aa45", checked := Tryd.checked }
namespace Rows
def none {H : Type} : Left H := { results := [], args := [] }

/- WHAT THE LISTED PACKAGE-LEVEL VARIABLES READ AS WHEN THE CALL BEGINS. Each datum BY PROGRAM (the guide's laid-datum.mjs) off the statement by which the dump's own 'gosem.cut.vars' lays the variable. In a bare row this is a premise. The card (YtdkmbkdgojiebaaDoorCards.lean) ties it to the program's text. -/
def laid_capnp_pointer_decoders {H : Type} : DataW H := .iface "func table" (.map [(.int .i64 0, .iface "func" (.lit (.string [99, 97, 112, 110, 112, 47, 112, 111, 105, 110, 116, 101, 114, 46, 100, 101, 99, 111, 100, 101, 114, 115, 36, 49]))), (.int .i64 1, .iface "func" (.lit (.string [99, 97, 112, 110, 112, 47, 112, 111, 105, 110, 116, 101, 114, 46, 100, 101, 99, 111, 100, 101, 114, 115, 36, 50]))), (.int .i64 2, .iface "func" (.lit (.string [99, 97, 112, 110, 112, 47, 112, 111, 105, 110, 116, 101, 114, 46, 100, 101, 99, 111, 100, 101, 114, 115, 36, 51]))), (.int .i64 3, .iface "func" (.lit (.string [99, 97, 112, 110, 112, 47, 112, 111, 105, 110, 116, 101, 114, 46, 100, 101, 99, 111, 100, 101, 114, 115, 36, 52])))])
def laid_capnp_listsize_bits {H : Type} : DataW H := .agg [.lit (.int .i64 0), .lit (.int .i64 1), .lit (.int .i64 8), .lit (.int .i64 16), .lit (.int .i64 32), .lit (.int .i64 64), .lit (.int .i64 64), .lit (.int .i64 0)]

/-- 'capnplaw12.DenoteMatchesReference': WHATEVER THE INPUT: true; the input reads as it did. -/
def denoteMatchesReferenceSpec : ChangeSpec := { name := "denoteMatchesReference", fn := fun _ => fun
  | [d1, d2] => { results := [.lit (.bool true)], args := [d1, d2] }
  | _ => none }
def denoteMatchesReferenceRow : OpenClaim := { program := "ytdkmbkdgojiebaadoor", sum := "58eba84ad189b42530279c0a77db4e2054c2a834142137aea2eb73d5be52aa45", func := "capnp/capnplaw12.DenoteMatchesReference", spec := "denoteMatchesReference", unfollowed := true, recurses := true, named := ["capnp/pointer.decoders", "capnp/listsize.bits"], apart := false, laid := [("capnp/pointer.decoders", laid_capnp_pointer_decoders), ("capnp/listsize.bits", laid_capnp_listsize_bits)] }
def DenoteMatchesReferenceSaid : Prop := denoteMatchesReferenceRow.holds Tryd.pinned (OpenSpec.ofChange denoteMatchesReferenceSpec)

/-- ITS FALSE NEIGHBOUR: 'it returns false'. Refute it at one input. -/
def denoteMatchesReferenceWrong : ChangeSpec := { name := "denoteMatchesReference", fn := fun _ => fun
  | [d1, d2] => { results := [.lit (.bool false)], args := [d1, d2] }
  | _ => none }
def DenoteMatchesReferenceWrongFalsely : Prop := denoteMatchesReferenceRow.holds Tryd.pinned (OpenSpec.ofChange denoteMatchesReferenceWrong)

/-- 'capnplaw12.DenoteIsBounded': WHATEVER THE INPUT: true; the input reads as it did. -/
def denoteIsBoundedSpec : ChangeSpec := { name := "denoteIsBounded", fn := fun _ => fun
  | [d1, d2] => { results := [.lit (.bool true)], args := [d1, d2] }
  | _ => none }
def denoteIsBoundedRow : OpenClaim := { program := "ytdkmbkdgojiebaadoor", sum := "58eba84ad189b42530279c0a77db4e2054c2a834142137aea2eb73d5be52aa45", func := "capnp/capnplaw12.DenoteIsBounded", spec := "denoteIsBounded", unfollowed := true, recurses := true, named := ["capnp/pointer.decoders", "capnp/listsize.bits"], apart := false, laid := [("capnp/pointer.decoders", laid_capnp_pointer_decoders), ("capnp/listsize.bits", laid_capnp_listsize_bits)] }
def DenoteIsBoundedSaid : Prop := denoteIsBoundedRow.holds Tryd.pinned (OpenSpec.ofChange denoteIsBoundedSpec)

/-- ITS FALSE NEIGHBOUR: 'it returns false'. Refute it at one input. -/
def denoteIsBoundedWrong : ChangeSpec := { name := "denoteIsBounded", fn := fun _ => fun
  | [d1, d2] => { results := [.lit (.bool false)], args := [d1, d2] }
  | _ => none }
def DenoteIsBoundedWrongFalsely : Prop := denoteIsBoundedRow.holds Tryd.pinned (OpenSpec.ofChange denoteIsBoundedWrong)

/-- 'capnplaw12.DenoteLimitsAreMonotone': WHATEVER THE INPUT: true; the input reads as it did. -/
def denoteLimitsAreMonotoneSpec : ChangeSpec := { name := "denoteLimitsAreMonotone", fn := fun _ => fun
  | [d1, d2, d3, d4] => { results := [.lit (.bool true)], args := [d1, d2, d3, d4] }
  | _ => none }
def denoteLimitsAreMonotoneRow : OpenClaim := { program := "ytdkmbkdgojiebaadoor", sum := "58eba84ad189b42530279c0a77db4e2054c2a834142137aea2eb73d5be52aa45", func := "capnp/capnplaw12.DenoteLimitsAreMonotone", spec := "denoteLimitsAreMonotone", unfollowed := true, recurses := true, named := ["capnp/pointer.decoders", "capnp/listsize.bits"], apart := false, laid := [("capnp/pointer.decoders", laid_capnp_pointer_decoders), ("capnp/listsize.bits", laid_capnp_listsize_bits)] }
def DenoteLimitsAreMonotoneSaid : Prop := denoteLimitsAreMonotoneRow.holds Tryd.pinned (OpenSpec.ofChange denoteLimitsAreMonotoneSpec)

/-- ITS FALSE NEIGHBOUR: 'it returns false'. Refute it at one input. -/
def denoteLimitsAreMonotoneWrong : ChangeSpec := { name := "denoteLimitsAreMonotone", fn := fun _ => fun
  | [d1, d2, d3, d4] => { results := [.lit (.bool false)], args := [d1, d2, d3, d4] }
  | _ => none }
def DenoteLimitsAreMonotoneWrongFalsely : Prop := denoteLimitsAreMonotoneRow.holds Tryd.pinned (OpenSpec.ofChange denoteLimitsAreMonotoneWrong)

/-- 'capnplaw12.DenoteIgnoresUnreachableWords': WHATEVER THE INPUT: true; the input reads as it did. -/
def denoteIgnoresUnreachableWordsSpec : ChangeSpec := { name := "denoteIgnoresUnreachableWords", fn := fun _ => fun
  | [d1, d2, d3, d4] => { results := [.lit (.bool true)], args := [d1, d2, d3, d4] }
  | _ => none }
def denoteIgnoresUnreachableWordsRow : OpenClaim := { program := "ytdkmbkdgojiebaadoor", sum := "58eba84ad189b42530279c0a77db4e2054c2a834142137aea2eb73d5be52aa45", func := "capnp/capnplaw12.DenoteIgnoresUnreachableWords", spec := "denoteIgnoresUnreachableWords", unfollowed := true, recurses := true, named := ["capnp/pointer.decoders", "capnp/listsize.bits"], apart := false, laid := [("capnp/pointer.decoders", laid_capnp_pointer_decoders), ("capnp/listsize.bits", laid_capnp_listsize_bits)] }
def DenoteIgnoresUnreachableWordsSaid : Prop := denoteIgnoresUnreachableWordsRow.holds Tryd.pinned (OpenSpec.ofChange denoteIgnoresUnreachableWordsSpec)

/-- ITS FALSE NEIGHBOUR: 'it returns false'. Refute it at one input. -/
def denoteIgnoresUnreachableWordsWrong : ChangeSpec := { name := "denoteIgnoresUnreachableWords", fn := fun _ => fun
  | [d1, d2, d3, d4] => { results := [.lit (.bool false)], args := [d1, d2, d3, d4] }
  | _ => none }
def DenoteIgnoresUnreachableWordsWrongFalsely : Prop := denoteIgnoresUnreachableWordsRow.holds Tryd.pinned (OpenSpec.ofChange denoteIgnoresUnreachableWordsWrong)

/-- 'capnplaw12.DenoteKeepsMessage': WHATEVER THE INPUT: true; the input reads as it did. -/
def denoteKeepsMessageSpec : ChangeSpec := { name := "denoteKeepsMessage", fn := fun _ => fun
  | [d1, d2] => { results := [.lit (.bool true)], args := [d1, d2] }
  | _ => none }
def denoteKeepsMessageRow : OpenClaim := { program := "ytdkmbkdgojiebaadoor", sum := "58eba84ad189b42530279c0a77db4e2054c2a834142137aea2eb73d5be52aa45", func := "capnp/capnplaw12.DenoteKeepsMessage", spec := "denoteKeepsMessage", unfollowed := true, recurses := true, named := ["capnp/pointer.decoders", "capnp/listsize.bits"], apart := false, laid := [("capnp/pointer.decoders", laid_capnp_pointer_decoders), ("capnp/listsize.bits", laid_capnp_listsize_bits)] }
def DenoteKeepsMessageSaid : Prop := denoteKeepsMessageRow.holds Tryd.pinned (OpenSpec.ofChange denoteKeepsMessageSpec)

/-- ITS FALSE NEIGHBOUR: 'it returns false'. Refute it at one input. -/
def denoteKeepsMessageWrong : ChangeSpec := { name := "denoteKeepsMessage", fn := fun _ => fun
  | [d1, d2] => { results := [.lit (.bool false)], args := [d1, d2] }
  | _ => none }
def DenoteKeepsMessageWrongFalsely : Prop := denoteKeepsMessageRow.holds Tryd.pinned (OpenSpec.ofChange denoteKeepsMessageWrong)

/-- 'capnplaw17.EqualMatchesReference': WHATEVER THE INPUT: true; the input reads as it did. -/
def equalMatchesReferenceSpec : ChangeSpec := { name := "equalMatchesReference", fn := fun _ => fun
  | [d1, d2, d3, d4, d5] => { results := [.lit (.bool true)], args := [d1, d2, d3, d4, d5] }
  | _ => none }
def equalMatchesReferenceRow : OpenClaim := { program := "ytdkmbkdgojiebaadoor", sum := "58eba84ad189b42530279c0a77db4e2054c2a834142137aea2eb73d5be52aa45", func := "capnp/capnplaw17.EqualMatchesReference", spec := "equalMatchesReference", unfollowed := true, recurses := true, named := ["capnp/pointer.decoders", "capnp/listsize.bits"], apart := false, laid := [("capnp/pointer.decoders", laid_capnp_pointer_decoders), ("capnp/listsize.bits", laid_capnp_listsize_bits)] }
def EqualMatchesReferenceSaid : Prop := equalMatchesReferenceRow.holds Tryd.pinned (OpenSpec.ofChange equalMatchesReferenceSpec)

/-- ITS FALSE NEIGHBOUR: 'it returns false'. Refute it at one input. -/
def equalMatchesReferenceWrong : ChangeSpec := { name := "equalMatchesReference", fn := fun _ => fun
  | [d1, d2, d3, d4, d5] => { results := [.lit (.bool false)], args := [d1, d2, d3, d4, d5] }
  | _ => none }
def EqualMatchesReferenceWrongFalsely : Prop := equalMatchesReferenceRow.holds Tryd.pinned (OpenSpec.ofChange equalMatchesReferenceWrong)

/-- 'capnplaw17.EqualIsEquivalence': WHATEVER THE INPUT: true; the input reads as it did. -/
def equalIsEquivalenceSpec : ChangeSpec := { name := "equalIsEquivalence", fn := fun _ => fun
  | [d1, d2, d3, d4] => { results := [.lit (.bool true)], args := [d1, d2, d3, d4] }
  | _ => none }
def equalIsEquivalenceRow : OpenClaim := { program := "ytdkmbkdgojiebaadoor", sum := "58eba84ad189b42530279c0a77db4e2054c2a834142137aea2eb73d5be52aa45", func := "capnp/capnplaw17.EqualIsEquivalence", spec := "equalIsEquivalence", unfollowed := true, recurses := true, named := ["capnp/pointer.decoders", "capnp/listsize.bits"], apart := false, laid := [("capnp/pointer.decoders", laid_capnp_pointer_decoders), ("capnp/listsize.bits", laid_capnp_listsize_bits)] }
def EqualIsEquivalenceSaid : Prop := equalIsEquivalenceRow.holds Tryd.pinned (OpenSpec.ofChange equalIsEquivalenceSpec)

/-- ITS FALSE NEIGHBOUR: 'it returns false'. Refute it at one input. -/
def equalIsEquivalenceWrong : ChangeSpec := { name := "equalIsEquivalence", fn := fun _ => fun
  | [d1, d2, d3, d4] => { results := [.lit (.bool false)], args := [d1, d2, d3, d4] }
  | _ => none }
def EqualIsEquivalenceWrongFalsely : Prop := equalIsEquivalenceRow.holds Tryd.pinned (OpenSpec.ofChange equalIsEquivalenceWrong)

/-- 'capnplaw17.EqualMatchesCanonicalForms': WHATEVER THE INPUT: true; the input reads as it did. -/
def equalMatchesCanonicalFormsSpec : ChangeSpec := { name := "equalMatchesCanonicalForms", fn := fun _ => fun
  | [d1, d2, d3] => { results := [.lit (.bool true)], args := [d1, d2, d3] }
  | _ => none }
def equalMatchesCanonicalFormsRow : OpenClaim := { program := "ytdkmbkdgojiebaadoor", sum := "58eba84ad189b42530279c0a77db4e2054c2a834142137aea2eb73d5be52aa45", func := "capnp/capnplaw17.EqualMatchesCanonicalForms", spec := "equalMatchesCanonicalForms", unfollowed := true, recurses := true, named := ["capnp/pointer.decoders", "capnp/listsize.bits"], apart := false, laid := [("capnp/pointer.decoders", laid_capnp_pointer_decoders), ("capnp/listsize.bits", laid_capnp_listsize_bits)] }
def EqualMatchesCanonicalFormsSaid : Prop := equalMatchesCanonicalFormsRow.holds Tryd.pinned (OpenSpec.ofChange equalMatchesCanonicalFormsSpec)

/-- ITS FALSE NEIGHBOUR: 'it returns false'. Refute it at one input. -/
def equalMatchesCanonicalFormsWrong : ChangeSpec := { name := "equalMatchesCanonicalForms", fn := fun _ => fun
  | [d1, d2, d3] => { results := [.lit (.bool false)], args := [d1, d2, d3] }
  | _ => none }
def EqualMatchesCanonicalFormsWrongFalsely : Prop := equalMatchesCanonicalFormsRow.holds Tryd.pinned (OpenSpec.ofChange equalMatchesCanonicalFormsWrong)

/-- 'capnplaw17.EqualData': WHATEVER THE INPUT: true; the input reads as it did. -/
def equalDataSpec : ChangeSpec := { name := "equalData", fn := fun _ => fun
  | [d1, d2, d3, d4] => { results := [.lit (.bool true)], args := [d1, d2, d3, d4] }
  | _ => none }
def equalDataRow : OpenClaim := { program := "ytdkmbkdgojiebaadoor", sum := "58eba84ad189b42530279c0a77db4e2054c2a834142137aea2eb73d5be52aa45", func := "capnp/capnplaw17.EqualData", spec := "equalData", unfollowed := true, recurses := true, named := ["capnp/pointer.decoders", "capnp/listsize.bits"], apart := false, laid := [("capnp/pointer.decoders", laid_capnp_pointer_decoders), ("capnp/listsize.bits", laid_capnp_listsize_bits)] }
def EqualDataSaid : Prop := equalDataRow.holds Tryd.pinned (OpenSpec.ofChange equalDataSpec)

/-- ITS FALSE NEIGHBOUR: 'it returns false'. Refute it at one input. -/
def equalDataWrong : ChangeSpec := { name := "equalData", fn := fun _ => fun
  | [d1, d2, d3, d4] => { results := [.lit (.bool false)], args := [d1, d2, d3, d4] }
  | _ => none }
def EqualDataWrongFalsely : Prop := equalDataRow.holds Tryd.pinned (OpenSpec.ofChange equalDataWrong)

/-- 'capnplaw17.EqualKeeps': WHATEVER THE INPUT: true; the input reads as it did. -/
def equalKeepsSpec : ChangeSpec := { name := "equalKeeps", fn := fun _ => fun
  | [d1, d2, d3] => { results := [.lit (.bool true)], args := [d1, d2, d3] }
  | _ => none }
def equalKeepsRow : OpenClaim := { program := "ytdkmbkdgojiebaadoor", sum := "58eba84ad189b42530279c0a77db4e2054c2a834142137aea2eb73d5be52aa45", func := "capnp/capnplaw17.EqualKeeps", spec := "equalKeeps", unfollowed := true, recurses := true, named := ["capnp/pointer.decoders", "capnp/listsize.bits"], apart := false, laid := [("capnp/pointer.decoders", laid_capnp_pointer_decoders), ("capnp/listsize.bits", laid_capnp_listsize_bits)] }
def EqualKeepsSaid : Prop := equalKeepsRow.holds Tryd.pinned (OpenSpec.ofChange equalKeepsSpec)

/-- ITS FALSE NEIGHBOUR: 'it returns false'. Refute it at one input. -/
def equalKeepsWrong : ChangeSpec := { name := "equalKeeps", fn := fun _ => fun
  | [d1, d2, d3] => { results := [.lit (.bool false)], args := [d1, d2, d3] }
  | _ => none }
def EqualKeepsWrongFalsely : Prop := equalKeepsRow.holds Tryd.pinned (OpenSpec.ofChange equalKeepsWrong)

/-- 'capnplaw13.CanonsizeIsAtMostCost': WHATEVER THE INPUT: true; the input reads as it did. -/
def canonsizeIsAtMostCostSpec : ChangeSpec := { name := "canonsizeIsAtMostCost", fn := fun _ => fun
  | [d1, d2] => { results := [.lit (.bool true)], args := [d1, d2] }
  | _ => none }
def canonsizeIsAtMostCostRow : OpenClaim := { program := "ytdkmbkdgojiebaadoor", sum := "58eba84ad189b42530279c0a77db4e2054c2a834142137aea2eb73d5be52aa45", func := "capnp/capnplaw13.CanonsizeIsAtMostCost", spec := "canonsizeIsAtMostCost", unfollowed := true, recurses := true, named := ["capnp/listsize.bits"], apart := false, laid := [("capnp/listsize.bits", laid_capnp_listsize_bits)] }
def CanonsizeIsAtMostCostSaid : Prop := canonsizeIsAtMostCostRow.holds Tryd.pinned (OpenSpec.ofChange canonsizeIsAtMostCostSpec)

/-- ITS FALSE NEIGHBOUR: 'it returns false'. Refute it at one input. -/
def canonsizeIsAtMostCostWrong : ChangeSpec := { name := "canonsizeIsAtMostCost", fn := fun _ => fun
  | [d1, d2] => { results := [.lit (.bool false)], args := [d1, d2] }
  | _ => none }
def CanonsizeIsAtMostCostWrongFalsely : Prop := canonsizeIsAtMostCostRow.holds Tryd.pinned (OpenSpec.ofChange canonsizeIsAtMostCostWrong)

/-- 'capnplaw13.CanonsizeKeeps': WHATEVER THE INPUT: true; the input reads as it did. -/
def canonsizeKeepsSpec : ChangeSpec := { name := "canonsizeKeeps", fn := fun _ => fun
  | [d] => { results := [.lit (.bool true)], args := [d] }
  | _ => none }
def canonsizeKeepsRow : OpenClaim := { program := "ytdkmbkdgojiebaadoor", sum := "58eba84ad189b42530279c0a77db4e2054c2a834142137aea2eb73d5be52aa45", func := "capnp/capnplaw13.CanonsizeKeeps", spec := "canonsizeKeeps", unfollowed := true, recurses := true, named := ["capnp/listsize.bits"], loops := true, apart := false, laid := [("capnp/listsize.bits", laid_capnp_listsize_bits)] }
def CanonsizeKeepsSaid : Prop := canonsizeKeepsRow.holds Tryd.pinned (OpenSpec.ofChange canonsizeKeepsSpec)

/-- ITS FALSE NEIGHBOUR: 'it returns false'. Refute it at one input. -/
def canonsizeKeepsWrong : ChangeSpec := { name := "canonsizeKeeps", fn := fun _ => fun
  | [d] => { results := [.lit (.bool false)], args := [d] }
  | _ => none }
def CanonsizeKeepsWrongFalsely : Prop := canonsizeKeepsRow.holds Tryd.pinned (OpenSpec.ofChange canonsizeKeepsWrong)

/- THE SECOND FORM. 'bulk': how many values and letters a reading holds, each counted each time it is reached (what is shared counts as often as it is met; a slice's spare places count too). A statement '..UptoSaid' is the law's where the arguments, and the package variables that the reading takes, are together of bulk at most 1048576: NARROWER than '..Said'. Prove '..Said' where nothing that the law and all that it calls make is longer than what came in: it says more and counts as full. Else prove '..UptoSaid'. A law counts once. -/
mutual
def uptoBulk {H : Type} : DataW H → Nat
  | .lit (.string bytes) => bytes.length + 1
  | .lit _ => 1
  | .nil => 1
  | .ptr d => uptoBulk d + 1
  | .slice elems spare => uptoBulkAll elems + uptoBulkAll spare + 1
  | .agg parts => uptoBulkAll parts + 1
  | .iface _ d => uptoBulk d + 1
  | .map entries => uptoBulkEntries entries + 1
  | .held _ => 1
def uptoBulkAll {H : Type} : List (DataW H) → Nat
  | [] => 0
  | d :: r => uptoBulk d + uptoBulkAll r
def uptoBulkEntries {H : Type} : List (Lit × DataW H) → Nat
  | [] => 0
  | x :: r => uptoBulkEntry x + uptoBulkEntries r
def uptoBulkEntry {H : Type} : Lit × DataW H → Nat
  | (.string bytes, d) => bytes.length + uptoBulk d + 1
  | (_, d) => uptoBulk d + 1
 end
def uptoSmall : (H : Type) → List (DataW H) → Bool := fun _ ds => decide (uptoBulkAll ds ≤ 1048576)
def OpenSpec.upto (s : _root_.Go.ChangeSpec) : _root_.Go.OpenSpec := { _root_.Go.OpenSpec.ofChange s with cond := some uptoSmall }

/-- 'capnplaw12.DenoteMatchesReference', WHERE WHAT IT READS IS OF BULK AT MOST 1048576: true; the input reads as it did. -/
def denoteMatchesReferenceUptoRow : OpenClaim := { program := "ytdkmbkdgojiebaadoor", sum := "58eba84ad189b42530279c0a77db4e2054c2a834142137aea2eb73d5be52aa45", func := "capnp/capnplaw12.DenoteMatchesReference", spec := "denoteMatchesReference", unfollowed := true, recurses := true, named := ["capnp/pointer.decoders", "capnp/listsize.bits"], apart := false, laid := [("capnp/pointer.decoders", laid_capnp_pointer_decoders), ("capnp/listsize.bits", laid_capnp_listsize_bits)], narrowed := true }
def DenoteMatchesReferenceUptoSaid : Prop := denoteMatchesReferenceUptoRow.holds Tryd.pinned (OpenSpec.upto denoteMatchesReferenceSpec)

/-- 'capnplaw12.DenoteIsBounded', WHERE WHAT IT READS IS OF BULK AT MOST 1048576: true; the input reads as it did. -/
def denoteIsBoundedUptoRow : OpenClaim := { program := "ytdkmbkdgojiebaadoor", sum := "58eba84ad189b42530279c0a77db4e2054c2a834142137aea2eb73d5be52aa45", func := "capnp/capnplaw12.DenoteIsBounded", spec := "denoteIsBounded", unfollowed := true, recurses := true, named := ["capnp/pointer.decoders", "capnp/listsize.bits"], apart := false, laid := [("capnp/pointer.decoders", laid_capnp_pointer_decoders), ("capnp/listsize.bits", laid_capnp_listsize_bits)], narrowed := true }
def DenoteIsBoundedUptoSaid : Prop := denoteIsBoundedUptoRow.holds Tryd.pinned (OpenSpec.upto denoteIsBoundedSpec)

/-- 'capnplaw12.DenoteLimitsAreMonotone', WHERE WHAT IT READS IS OF BULK AT MOST 1048576: true; the input reads as it did. -/
def denoteLimitsAreMonotoneUptoRow : OpenClaim := { program := "ytdkmbkdgojiebaadoor", sum := "58eba84ad189b42530279c0a77db4e2054c2a834142137aea2eb73d5be52aa45", func := "capnp/capnplaw12.DenoteLimitsAreMonotone", spec := "denoteLimitsAreMonotone", unfollowed := true, recurses := true, named := ["capnp/pointer.decoders", "capnp/listsize.bits"], apart := false, laid := [("capnp/pointer.decoders", laid_capnp_pointer_decoders), ("capnp/listsize.bits", laid_capnp_listsize_bits)], narrowed := true }
def DenoteLimitsAreMonotoneUptoSaid : Prop := denoteLimitsAreMonotoneUptoRow.holds Tryd.pinned (OpenSpec.upto denoteLimitsAreMonotoneSpec)

/-- 'capnplaw12.DenoteIgnoresUnreachableWords', WHERE WHAT IT READS IS OF BULK AT MOST 1048576: true; the input reads as it did. -/
def denoteIgnoresUnreachableWordsUptoRow : OpenClaim := { program := "ytdkmbkdgojiebaadoor", sum := "58eba84ad189b42530279c0a77db4e2054c2a834142137aea2eb73d5be52aa45", func := "capnp/capnplaw12.DenoteIgnoresUnreachableWords", spec := "denoteIgnoresUnreachableWords", unfollowed := true, recurses := true, named := ["capnp/pointer.decoders", "capnp/listsize.bits"], apart := false, laid := [("capnp/pointer.decoders", laid_capnp_pointer_decoders), ("capnp/listsize.bits", laid_capnp_listsize_bits)], narrowed := true }
def DenoteIgnoresUnreachableWordsUptoSaid : Prop := denoteIgnoresUnreachableWordsUptoRow.holds Tryd.pinned (OpenSpec.upto denoteIgnoresUnreachableWordsSpec)

/-- 'capnplaw12.DenoteKeepsMessage', WHERE WHAT IT READS IS OF BULK AT MOST 1048576: true; the input reads as it did. -/
def denoteKeepsMessageUptoRow : OpenClaim := { program := "ytdkmbkdgojiebaadoor", sum := "58eba84ad189b42530279c0a77db4e2054c2a834142137aea2eb73d5be52aa45", func := "capnp/capnplaw12.DenoteKeepsMessage", spec := "denoteKeepsMessage", unfollowed := true, recurses := true, named := ["capnp/pointer.decoders", "capnp/listsize.bits"], apart := false, laid := [("capnp/pointer.decoders", laid_capnp_pointer_decoders), ("capnp/listsize.bits", laid_capnp_listsize_bits)], narrowed := true }
def DenoteKeepsMessageUptoSaid : Prop := denoteKeepsMessageUptoRow.holds Tryd.pinned (OpenSpec.upto denoteKeepsMessageSpec)

/-- 'capnplaw17.EqualMatchesReference', WHERE WHAT IT READS IS OF BULK AT MOST 1048576: true; the input reads as it did. -/
def equalMatchesReferenceUptoRow : OpenClaim := { program := "ytdkmbkdgojiebaadoor", sum := "58eba84ad189b42530279c0a77db4e2054c2a834142137aea2eb73d5be52aa45", func := "capnp/capnplaw17.EqualMatchesReference", spec := "equalMatchesReference", unfollowed := true, recurses := true, named := ["capnp/pointer.decoders", "capnp/listsize.bits"], apart := false, laid := [("capnp/pointer.decoders", laid_capnp_pointer_decoders), ("capnp/listsize.bits", laid_capnp_listsize_bits)], narrowed := true }
def EqualMatchesReferenceUptoSaid : Prop := equalMatchesReferenceUptoRow.holds Tryd.pinned (OpenSpec.upto equalMatchesReferenceSpec)

/-- 'capnplaw17.EqualIsEquivalence', WHERE WHAT IT READS IS OF BULK AT MOST 1048576: true; the input reads as it did. -/
def equalIsEquivalenceUptoRow : OpenClaim := { program := "ytdkmbkdgojiebaadoor", sum := "58eba84ad189b42530279c0a77db4e2054c2a834142137aea2eb73d5be52aa45", func := "capnp/capnplaw17.EqualIsEquivalence", spec := "equalIsEquivalence", unfollowed := true, recurses := true, named := ["capnp/pointer.decoders", "capnp/listsize.bits"], apart := false, laid := [("capnp/pointer.decoders", laid_capnp_pointer_decoders), ("capnp/listsize.bits", laid_capnp_listsize_bits)], narrowed := true }
def EqualIsEquivalenceUptoSaid : Prop := equalIsEquivalenceUptoRow.holds Tryd.pinned (OpenSpec.upto equalIsEquivalenceSpec)

/-- 'capnplaw17.EqualMatchesCanonicalForms', WHERE WHAT IT READS IS OF BULK AT MOST 1048576: true; the input reads as it did. -/
def equalMatchesCanonicalFormsUptoRow : OpenClaim := { program := "ytdkmbkdgojiebaadoor", sum := "58eba84ad189b42530279c0a77db4e2054c2a834142137aea2eb73d5be52aa45", func := "capnp/capnplaw17.EqualMatchesCanonicalForms", spec := "equalMatchesCanonicalForms", unfollowed := true, recurses := true, named := ["capnp/pointer.decoders", "capnp/listsize.bits"], apart := false, laid := [("capnp/pointer.decoders", laid_capnp_pointer_decoders), ("capnp/listsize.bits", laid_capnp_listsize_bits)], narrowed := true }
def EqualMatchesCanonicalFormsUptoSaid : Prop := equalMatchesCanonicalFormsUptoRow.holds Tryd.pinned (OpenSpec.upto equalMatchesCanonicalFormsSpec)

/-- 'capnplaw17.EqualData', WHERE WHAT IT READS IS OF BULK AT MOST 1048576: true; the input reads as it did. -/
def equalDataUptoRow : OpenClaim := { program := "ytdkmbkdgojiebaadoor", sum := "58eba84ad189b42530279c0a77db4e2054c2a834142137aea2eb73d5be52aa45", func := "capnp/capnplaw17.EqualData", spec := "equalData", unfollowed := true, recurses := true, named := ["capnp/pointer.decoders", "capnp/listsize.bits"], apart := false, laid := [("capnp/pointer.decoders", laid_capnp_pointer_decoders), ("capnp/listsize.bits", laid_capnp_listsize_bits)], narrowed := true }
def EqualDataUptoSaid : Prop := equalDataUptoRow.holds Tryd.pinned (OpenSpec.upto equalDataSpec)

/-- 'capnplaw17.EqualKeeps', WHERE WHAT IT READS IS OF BULK AT MOST 1048576: true; the input reads as it did. -/
def equalKeepsUptoRow : OpenClaim := { program := "ytdkmbkdgojiebaadoor", sum := "58eba84ad189b42530279c0a77db4e2054c2a834142137aea2eb73d5be52aa45", func := "capnp/capnplaw17.EqualKeeps", spec := "equalKeeps", unfollowed := true, recurses := true, named := ["capnp/pointer.decoders", "capnp/listsize.bits"], apart := false, laid := [("capnp/pointer.decoders", laid_capnp_pointer_decoders), ("capnp/listsize.bits", laid_capnp_listsize_bits)], narrowed := true }
def EqualKeepsUptoSaid : Prop := equalKeepsUptoRow.holds Tryd.pinned (OpenSpec.upto equalKeepsSpec)

/-- 'capnplaw13.CanonsizeIsAtMostCost', WHERE WHAT IT READS IS OF BULK AT MOST 1048576: true; the input reads as it did. -/
def canonsizeIsAtMostCostUptoRow : OpenClaim := { program := "ytdkmbkdgojiebaadoor", sum := "58eba84ad189b42530279c0a77db4e2054c2a834142137aea2eb73d5be52aa45", func := "capnp/capnplaw13.CanonsizeIsAtMostCost", spec := "canonsizeIsAtMostCost", unfollowed := true, recurses := true, named := ["capnp/listsize.bits"], apart := false, laid := [("capnp/listsize.bits", laid_capnp_listsize_bits)], narrowed := true }
def CanonsizeIsAtMostCostUptoSaid : Prop := canonsizeIsAtMostCostUptoRow.holds Tryd.pinned (OpenSpec.upto canonsizeIsAtMostCostSpec)

/-- 'capnplaw13.CanonsizeKeeps', WHERE WHAT IT READS IS OF BULK AT MOST 1048576: true; the input reads as it did. -/
def canonsizeKeepsUptoRow : OpenClaim := { program := "ytdkmbkdgojiebaadoor", sum := "58eba84ad189b42530279c0a77db4e2054c2a834142137aea2eb73d5be52aa45", func := "capnp/capnplaw13.CanonsizeKeeps", spec := "canonsizeKeeps", unfollowed := true, recurses := true, named := ["capnp/listsize.bits"], loops := true, apart := false, laid := [("capnp/listsize.bits", laid_capnp_listsize_bits)], narrowed := true }
def CanonsizeKeepsUptoSaid : Prop := canonsizeKeepsUptoRow.holds Tryd.pinned (OpenSpec.upto canonsizeKeepsSpec)

end Rows
end Go.Proofs.YtdkmbkdgojiebaaDoor
