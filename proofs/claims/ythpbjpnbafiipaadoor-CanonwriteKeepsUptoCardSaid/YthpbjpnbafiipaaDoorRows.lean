/-
  NARROWER THAN 'FOR EVERY INPUT', by the rows' own cells (each row's printed sentence says how): DenoteIgnoresUnreachableWords: laid · DenoteKeepsMessage: laid · EqualMatchesCanonicalForms: laid · CanonsizeIsAtMostCost: laid · CanonsizeKeeps: loops, laid · CanonwriteMatchesReference: loops, laid · CanonwriteIsInjective: loops, laid · CanonwriteNests: loops, laid · CanonwriteKeeps: loops, laid.
  DERIVED. THE GIVEN ROWS OF THIS SEAT. 9 by the template 'for every input the law returns true; each argument reads behind the call as it read before'; 0 by the template 'total and deterministic' (their statements: YthpbjpnbafiipaaDoorTotals.lean).
  GIVEN WITH THE SEED: the statements are not yours to turn. If you find one false, say at which input.
  Laid BY PROGRAM, IN A SANDBOX (cutbox-rows.mjs): the forced cells as the released guide's own fill.sh prints them over the translation a4018d50df40c147… (all of the seat's roots in one cut). By AI agents, Wed Nov 11 2026. No macro, syntax, notation, axiom, sorry.
-/
import Derived.Test.YthpbjpnbafiipaaDoorChecked
import GoSem.Claim
import GoSem.ClaimJoined
import GoSem.ClaimMapViews
import Derived.JoinedTies
import Derived.KernelRfl
namespace Go.Proofs.YthpbjpnbafiipaaDoor
/- THE CELL 'sum', in the pinned program and in every row, IS THE sha256 OF THE DUMP (.gsa) THAT YthpbjpnbafiipaaDoorProg.lean LOADS. Nothing in Lean hashes anything: it is a label: what it is worth is what the hold of that sum in a sandbox is worth. -/
noncomputable def Tryd.pinned : Pinned := { name := "ythpbjpnbafiipaadoor", sum := "a4018d50df40c14767b313ea9f94f937556ed93cfd524938ab6fc26911596ad1", checked := Tryd.checked }
namespace Rows
def none {H : Type} : Left H := { results := [], args := [] }

/- WHAT THE LISTED PACKAGE-LEVEL VARIABLES READ AS WHEN THE CALL BEGINS. Each datum BY PROGRAM (the guide's laid-datum.mjs) off the statement by which the dump's own 'gosem.cut.vars' lays the variable. In a bare row this is a premise. The card (YthpbjpnbafiipaaDoorCards.lean) ties it to the program's text. -/
def laid_capnp_pointer_decoders {H : Type} : DataW H := .iface "func table" (.map [(.int .i64 0, .iface "func" (.lit (.string [99, 97, 112, 110, 112, 47, 112, 111, 105, 110, 116, 101, 114, 46, 100, 101, 99, 111, 100, 101, 114, 115, 36, 49]))), (.int .i64 1, .iface "func" (.lit (.string [99, 97, 112, 110, 112, 47, 112, 111, 105, 110, 116, 101, 114, 46, 100, 101, 99, 111, 100, 101, 114, 115, 36, 50]))), (.int .i64 2, .iface "func" (.lit (.string [99, 97, 112, 110, 112, 47, 112, 111, 105, 110, 116, 101, 114, 46, 100, 101, 99, 111, 100, 101, 114, 115, 36, 51]))), (.int .i64 3, .iface "func" (.lit (.string [99, 97, 112, 110, 112, 47, 112, 111, 105, 110, 116, 101, 114, 46, 100, 101, 99, 111, 100, 101, 114, 115, 36, 52])))])
def laid_capnp_listsize_bits {H : Type} : DataW H := .agg [.lit (.int .i64 0), .lit (.int .i64 1), .lit (.int .i64 8), .lit (.int .i64 16), .lit (.int .i64 32), .lit (.int .i64 64), .lit (.int .i64 64), .lit (.int .i64 0)]

/-- 'capnplaw12.DenoteIgnoresUnreachableWords': WHATEVER THE INPUT: true; the input reads as it did. -/
def denoteIgnoresUnreachableWordsSpec : ChangeSpec := { name := "denoteIgnoresUnreachableWords", fn := fun _ => fun
  | [d1, d2, d3, d4] => { results := [.lit (.bool true)], args := [d1, d2, d3, d4] }
  | _ => none }
def denoteIgnoresUnreachableWordsRow : OpenClaim := { program := "ythpbjpnbafiipaadoor", sum := "a4018d50df40c14767b313ea9f94f937556ed93cfd524938ab6fc26911596ad1", func := "capnp/capnplaw12.DenoteIgnoresUnreachableWords", spec := "denoteIgnoresUnreachableWords", unfollowed := true, recurses := true, named := ["capnp/pointer.decoders", "capnp/listsize.bits"], apart := false, laid := [("capnp/pointer.decoders", laid_capnp_pointer_decoders), ("capnp/listsize.bits", laid_capnp_listsize_bits)] }
def DenoteIgnoresUnreachableWordsSaid : Prop := denoteIgnoresUnreachableWordsRow.holds Tryd.pinned (OpenSpec.ofChange denoteIgnoresUnreachableWordsSpec)

/-- ITS FALSE NEIGHBOUR: 'it returns false'. Refute it at one input. -/
def denoteIgnoresUnreachableWordsWrong : ChangeSpec := { name := "denoteIgnoresUnreachableWords", fn := fun _ => fun
  | [d1, d2, d3, d4] => { results := [.lit (.bool false)], args := [d1, d2, d3, d4] }
  | _ => none }
def DenoteIgnoresUnreachableWordsWrongFalsely : Prop := denoteIgnoresUnreachableWordsRow.holds Tryd.pinned (OpenSpec.ofChange denoteIgnoresUnreachableWordsWrong)

/-- 'capnplaw12.DenoteKeepsMessage': WHATEVER THE INPUT: true; the input reads as it did. -/
def denoteKeepsMessageSpec : ChangeSpec := { name := "denoteKeepsMessage", fn := fun _ => fun
  | [d1, d2] => { results := [.lit (.bool true)], args := [d1, d2] }
  | _ => none }
def denoteKeepsMessageRow : OpenClaim := { program := "ythpbjpnbafiipaadoor", sum := "a4018d50df40c14767b313ea9f94f937556ed93cfd524938ab6fc26911596ad1", func := "capnp/capnplaw12.DenoteKeepsMessage", spec := "denoteKeepsMessage", unfollowed := true, recurses := true, named := ["capnp/pointer.decoders", "capnp/listsize.bits"], apart := false, laid := [("capnp/pointer.decoders", laid_capnp_pointer_decoders), ("capnp/listsize.bits", laid_capnp_listsize_bits)] }
def DenoteKeepsMessageSaid : Prop := denoteKeepsMessageRow.holds Tryd.pinned (OpenSpec.ofChange denoteKeepsMessageSpec)

/-- ITS FALSE NEIGHBOUR: 'it returns false'. Refute it at one input. -/
def denoteKeepsMessageWrong : ChangeSpec := { name := "denoteKeepsMessage", fn := fun _ => fun
  | [d1, d2] => { results := [.lit (.bool false)], args := [d1, d2] }
  | _ => none }
def DenoteKeepsMessageWrongFalsely : Prop := denoteKeepsMessageRow.holds Tryd.pinned (OpenSpec.ofChange denoteKeepsMessageWrong)

/-- 'capnplaw17.EqualMatchesCanonicalForms': WHATEVER THE INPUT: true; the input reads as it did. -/
def equalMatchesCanonicalFormsSpec : ChangeSpec := { name := "equalMatchesCanonicalForms", fn := fun _ => fun
  | [d1, d2, d3] => { results := [.lit (.bool true)], args := [d1, d2, d3] }
  | _ => none }
def equalMatchesCanonicalFormsRow : OpenClaim := { program := "ythpbjpnbafiipaadoor", sum := "a4018d50df40c14767b313ea9f94f937556ed93cfd524938ab6fc26911596ad1", func := "capnp/capnplaw17.EqualMatchesCanonicalForms", spec := "equalMatchesCanonicalForms", unfollowed := true, recurses := true, named := ["capnp/pointer.decoders", "capnp/listsize.bits"], apart := false, laid := [("capnp/pointer.decoders", laid_capnp_pointer_decoders), ("capnp/listsize.bits", laid_capnp_listsize_bits)] }
def EqualMatchesCanonicalFormsSaid : Prop := equalMatchesCanonicalFormsRow.holds Tryd.pinned (OpenSpec.ofChange equalMatchesCanonicalFormsSpec)

/-- ITS FALSE NEIGHBOUR: 'it returns false'. Refute it at one input. -/
def equalMatchesCanonicalFormsWrong : ChangeSpec := { name := "equalMatchesCanonicalForms", fn := fun _ => fun
  | [d1, d2, d3] => { results := [.lit (.bool false)], args := [d1, d2, d3] }
  | _ => none }
def EqualMatchesCanonicalFormsWrongFalsely : Prop := equalMatchesCanonicalFormsRow.holds Tryd.pinned (OpenSpec.ofChange equalMatchesCanonicalFormsWrong)

/-- 'capnplaw13.CanonsizeIsAtMostCost': WHATEVER THE INPUT: true; the input reads as it did. -/
def canonsizeIsAtMostCostSpec : ChangeSpec := { name := "canonsizeIsAtMostCost", fn := fun _ => fun
  | [d1, d2] => { results := [.lit (.bool true)], args := [d1, d2] }
  | _ => none }
def canonsizeIsAtMostCostRow : OpenClaim := { program := "ythpbjpnbafiipaadoor", sum := "a4018d50df40c14767b313ea9f94f937556ed93cfd524938ab6fc26911596ad1", func := "capnp/capnplaw13.CanonsizeIsAtMostCost", spec := "canonsizeIsAtMostCost", unfollowed := true, recurses := true, named := ["capnp/listsize.bits"], apart := false, laid := [("capnp/listsize.bits", laid_capnp_listsize_bits)] }
def CanonsizeIsAtMostCostSaid : Prop := canonsizeIsAtMostCostRow.holds Tryd.pinned (OpenSpec.ofChange canonsizeIsAtMostCostSpec)

/-- ITS FALSE NEIGHBOUR: 'it returns false'. Refute it at one input. -/
def canonsizeIsAtMostCostWrong : ChangeSpec := { name := "canonsizeIsAtMostCost", fn := fun _ => fun
  | [d1, d2] => { results := [.lit (.bool false)], args := [d1, d2] }
  | _ => none }
def CanonsizeIsAtMostCostWrongFalsely : Prop := canonsizeIsAtMostCostRow.holds Tryd.pinned (OpenSpec.ofChange canonsizeIsAtMostCostWrong)

/-- 'capnplaw13.CanonsizeKeeps': WHATEVER THE INPUT: true; the input reads as it did. -/
def canonsizeKeepsSpec : ChangeSpec := { name := "canonsizeKeeps", fn := fun _ => fun
  | [d] => { results := [.lit (.bool true)], args := [d] }
  | _ => none }
def canonsizeKeepsRow : OpenClaim := { program := "ythpbjpnbafiipaadoor", sum := "a4018d50df40c14767b313ea9f94f937556ed93cfd524938ab6fc26911596ad1", func := "capnp/capnplaw13.CanonsizeKeeps", spec := "canonsizeKeeps", unfollowed := true, recurses := true, named := ["capnp/listsize.bits"], loops := true, apart := false, laid := [("capnp/listsize.bits", laid_capnp_listsize_bits)] }
def CanonsizeKeepsSaid : Prop := canonsizeKeepsRow.holds Tryd.pinned (OpenSpec.ofChange canonsizeKeepsSpec)

/-- ITS FALSE NEIGHBOUR: 'it returns false'. Refute it at one input. -/
def canonsizeKeepsWrong : ChangeSpec := { name := "canonsizeKeeps", fn := fun _ => fun
  | [d] => { results := [.lit (.bool false)], args := [d] }
  | _ => none }
def CanonsizeKeepsWrongFalsely : Prop := canonsizeKeepsRow.holds Tryd.pinned (OpenSpec.ofChange canonsizeKeepsWrong)

/-- 'capnplaw14.CanonwriteMatchesReference': WHATEVER THE INPUT: true; the input reads as it did. -/
def canonwriteMatchesReferenceSpec : ChangeSpec := { name := "canonwriteMatchesReference", fn := fun _ => fun
  | [d] => { results := [.lit (.bool true)], args := [d] }
  | _ => none }
def canonwriteMatchesReferenceRow : OpenClaim := { program := "ythpbjpnbafiipaadoor", sum := "a4018d50df40c14767b313ea9f94f937556ed93cfd524938ab6fc26911596ad1", func := "capnp/capnplaw14.CanonwriteMatchesReference", spec := "canonwriteMatchesReference", unfollowed := true, recurses := true, named := ["capnp/listsize.bits", "capnp/pointer.decoders"], loops := true, apart := false, laid := [("capnp/pointer.decoders", laid_capnp_pointer_decoders), ("capnp/listsize.bits", laid_capnp_listsize_bits)] }
def CanonwriteMatchesReferenceSaid : Prop := canonwriteMatchesReferenceRow.holds Tryd.pinned (OpenSpec.ofChange canonwriteMatchesReferenceSpec)

/-- ITS FALSE NEIGHBOUR: 'it returns false'. Refute it at one input. -/
def canonwriteMatchesReferenceWrong : ChangeSpec := { name := "canonwriteMatchesReference", fn := fun _ => fun
  | [d] => { results := [.lit (.bool false)], args := [d] }
  | _ => none }
def CanonwriteMatchesReferenceWrongFalsely : Prop := canonwriteMatchesReferenceRow.holds Tryd.pinned (OpenSpec.ofChange canonwriteMatchesReferenceWrong)

/-- 'capnplaw14.CanonwriteIsInjective': WHATEVER THE INPUT: true; the input reads as it did. -/
def canonwriteIsInjectiveSpec : ChangeSpec := { name := "canonwriteIsInjective", fn := fun _ => fun
  | [d1, d2] => { results := [.lit (.bool true)], args := [d1, d2] }
  | _ => none }
def canonwriteIsInjectiveRow : OpenClaim := { program := "ythpbjpnbafiipaadoor", sum := "a4018d50df40c14767b313ea9f94f937556ed93cfd524938ab6fc26911596ad1", func := "capnp/capnplaw14.CanonwriteIsInjective", spec := "canonwriteIsInjective", unfollowed := true, recurses := true, named := ["capnp/listsize.bits", "capnp/pointer.decoders"], loops := true, apart := false, laid := [("capnp/pointer.decoders", laid_capnp_pointer_decoders), ("capnp/listsize.bits", laid_capnp_listsize_bits)] }
def CanonwriteIsInjectiveSaid : Prop := canonwriteIsInjectiveRow.holds Tryd.pinned (OpenSpec.ofChange canonwriteIsInjectiveSpec)

/-- ITS FALSE NEIGHBOUR: 'it returns false'. Refute it at one input. -/
def canonwriteIsInjectiveWrong : ChangeSpec := { name := "canonwriteIsInjective", fn := fun _ => fun
  | [d1, d2] => { results := [.lit (.bool false)], args := [d1, d2] }
  | _ => none }
def CanonwriteIsInjectiveWrongFalsely : Prop := canonwriteIsInjectiveRow.holds Tryd.pinned (OpenSpec.ofChange canonwriteIsInjectiveWrong)

/-- 'capnplaw14.CanonwriteNests': WHATEVER THE INPUT: true; the input reads as it did. -/
def canonwriteNestsSpec : ChangeSpec := { name := "canonwriteNests", fn := fun _ => fun
  | [d] => { results := [.lit (.bool true)], args := [d] }
  | _ => none }
def canonwriteNestsRow : OpenClaim := { program := "ythpbjpnbafiipaadoor", sum := "a4018d50df40c14767b313ea9f94f937556ed93cfd524938ab6fc26911596ad1", func := "capnp/capnplaw14.CanonwriteNests", spec := "canonwriteNests", unfollowed := true, recurses := true, named := ["capnp/listsize.bits", "capnp/pointer.decoders"], loops := true, apart := false, laid := [("capnp/pointer.decoders", laid_capnp_pointer_decoders), ("capnp/listsize.bits", laid_capnp_listsize_bits)] }
def CanonwriteNestsSaid : Prop := canonwriteNestsRow.holds Tryd.pinned (OpenSpec.ofChange canonwriteNestsSpec)

/-- ITS FALSE NEIGHBOUR: 'it returns false'. Refute it at one input. -/
def canonwriteNestsWrong : ChangeSpec := { name := "canonwriteNests", fn := fun _ => fun
  | [d] => { results := [.lit (.bool false)], args := [d] }
  | _ => none }
def CanonwriteNestsWrongFalsely : Prop := canonwriteNestsRow.holds Tryd.pinned (OpenSpec.ofChange canonwriteNestsWrong)

/-- 'capnplaw14.CanonwriteKeeps': WHATEVER THE INPUT: true; the input reads as it did. -/
def canonwriteKeepsSpec : ChangeSpec := { name := "canonwriteKeeps", fn := fun _ => fun
  | [d] => { results := [.lit (.bool true)], args := [d] }
  | _ => none }
def canonwriteKeepsRow : OpenClaim := { program := "ythpbjpnbafiipaadoor", sum := "a4018d50df40c14767b313ea9f94f937556ed93cfd524938ab6fc26911596ad1", func := "capnp/capnplaw14.CanonwriteKeeps", spec := "canonwriteKeeps", unfollowed := true, recurses := true, named := ["capnp/listsize.bits", "capnp/pointer.decoders"], loops := true, apart := false, laid := [("capnp/pointer.decoders", laid_capnp_pointer_decoders), ("capnp/listsize.bits", laid_capnp_listsize_bits)] }
def CanonwriteKeepsSaid : Prop := canonwriteKeepsRow.holds Tryd.pinned (OpenSpec.ofChange canonwriteKeepsSpec)

/-- ITS FALSE NEIGHBOUR: 'it returns false'. Refute it at one input. -/
def canonwriteKeepsWrong : ChangeSpec := { name := "canonwriteKeeps", fn := fun _ => fun
  | [d] => { results := [.lit (.bool false)], args := [d] }
  | _ => none }
def CanonwriteKeepsWrongFalsely : Prop := canonwriteKeepsRow.holds Tryd.pinned (OpenSpec.ofChange canonwriteKeepsWrong)

/- THE SECOND FORM. 'bulk': how many values and letters a reading holds, each counted each time it is reached (what is shared counts as often as it is met; a slice's spare places count too). A statement '..UptoSaid' is the law's where the arguments, and the package variables that the reading takes, are together of bulk at most 1048576: NARROWER than '..Said'. Prove '..Said' where nothing that the law and all that it calls make is longer than what came in: it says more and counts as full. Else prove '..UptoSaid'. A law counts once. -/
mutual
def uptoBulk {H : Type} : DataW H → Nat
  | .lit (.string bytes) => bytes.length + 1
  | .lit _ => 1
  | .nil => 1
  | .ptr d => uptoBulk d + 1
  | .slice elems spare => uptoBulkAll elems + uptoBulkAll spare + 1
  | .agg parts => uptoBulkAll parts + 1
  | .iface _ d => uptoBulk d + 1
  | .map entries => uptoBulkEntries entries + 1
  | .held _ => 1
def uptoBulkAll {H : Type} : List (DataW H) → Nat
  | [] => 0
  | d :: r => uptoBulk d + uptoBulkAll r
def uptoBulkEntries {H : Type} : List (Lit × DataW H) → Nat
  | [] => 0
  | x :: r => uptoBulkEntry x + uptoBulkEntries r
def uptoBulkEntry {H : Type} : Lit × DataW H → Nat
  | (.string bytes, d) => bytes.length + uptoBulk d + 1
  | (_, d) => uptoBulk d + 1
 end
def uptoSmall : (H : Type) → List (DataW H) → Bool := fun _ ds => decide (uptoBulkAll ds ≤ 1048576)
def OpenSpec.upto (s : _root_.Go.ChangeSpec) : _root_.Go.OpenSpec := { _root_.Go.OpenSpec.ofChange s with cond := some uptoSmall }

/-- 'capnplaw12.DenoteIgnoresUnreachableWords', WHERE WHAT IT READS IS OF BULK AT MOST 1048576: true; the input reads as it did. -/
def denoteIgnoresUnreachableWordsUptoRow : OpenClaim := { program := "ythpbjpnbafiipaadoor", sum := "a4018d50df40c14767b313ea9f94f937556ed93cfd524938ab6fc26911596ad1", func := "capnp/capnplaw12.DenoteIgnoresUnreachableWords", spec := "denoteIgnoresUnreachableWords", unfollowed := true, recurses := true, named := ["capnp/pointer.decoders", "capnp/listsize.bits"], apart := false, laid := [("capnp/pointer.decoders", laid_capnp_pointer_decoders), ("capnp/listsize.bits", laid_capnp_listsize_bits)], narrowed := true }
def DenoteIgnoresUnreachableWordsUptoSaid : Prop := denoteIgnoresUnreachableWordsUptoRow.holds Tryd.pinned (OpenSpec.upto denoteIgnoresUnreachableWordsSpec)

/-- 'capnplaw12.DenoteKeepsMessage', WHERE WHAT IT READS IS OF BULK AT MOST 1048576: true; the input reads as it did. -/
def denoteKeepsMessageUptoRow : OpenClaim := { program := "ythpbjpnbafiipaadoor", sum := "a4018d50df40c14767b313ea9f94f937556ed93cfd524938ab6fc26911596ad1", func := "capnp/capnplaw12.DenoteKeepsMessage", spec := "denoteKeepsMessage", unfollowed := true, recurses := true, named := ["capnp/pointer.decoders", "capnp/listsize.bits"], apart := false, laid := [("capnp/pointer.decoders", laid_capnp_pointer_decoders), ("capnp/listsize.bits", laid_capnp_listsize_bits)], narrowed := true }
def DenoteKeepsMessageUptoSaid : Prop := denoteKeepsMessageUptoRow.holds Tryd.pinned (OpenSpec.upto denoteKeepsMessageSpec)

/-- 'capnplaw17.EqualMatchesCanonicalForms', WHERE WHAT IT READS IS OF BULK AT MOST 1048576: true; the input reads as it did. -/
def equalMatchesCanonicalFormsUptoRow : OpenClaim := { program := "ythpbjpnbafiipaadoor", sum := "a4018d50df40c14767b313ea9f94f937556ed93cfd524938ab6fc26911596ad1", func := "capnp/capnplaw17.EqualMatchesCanonicalForms", spec := "equalMatchesCanonicalForms", unfollowed := true, recurses := true, named := ["capnp/pointer.decoders", "capnp/listsize.bits"], apart := false, laid := [("capnp/pointer.decoders", laid_capnp_pointer_decoders), ("capnp/listsize.bits", laid_capnp_listsize_bits)], narrowed := true }
def EqualMatchesCanonicalFormsUptoSaid : Prop := equalMatchesCanonicalFormsUptoRow.holds Tryd.pinned (OpenSpec.upto equalMatchesCanonicalFormsSpec)

/-- 'capnplaw13.CanonsizeIsAtMostCost', WHERE WHAT IT READS IS OF BULK AT MOST 1048576: true; the input reads as it did. -/
def canonsizeIsAtMostCostUptoRow : OpenClaim := { program := "ythpbjpnbafiipaadoor", sum := "a4018d50df40c14767b313ea9f94f937556ed93cfd524938ab6fc26911596ad1", func := "capnp/capnplaw13.CanonsizeIsAtMostCost", spec := "canonsizeIsAtMostCost", unfollowed := true, recurses := true, named := ["capnp/listsize.bits"], apart := false, laid := [("capnp/listsize.bits", laid_capnp_listsize_bits)], narrowed := true }
def CanonsizeIsAtMostCostUptoSaid : Prop := canonsizeIsAtMostCostUptoRow.holds Tryd.pinned (OpenSpec.upto canonsizeIsAtMostCostSpec)

/-- 'capnplaw13.CanonsizeKeeps', WHERE WHAT IT READS IS OF BULK AT MOST 1048576: true; the input reads as it did. -/
def canonsizeKeepsUptoRow : OpenClaim := { program := "ythpbjpnbafiipaadoor", sum := "a4018d50df40c14767b313ea9f94f937556ed93cfd524938ab6fc26911596ad1", func := "capnp/capnplaw13.CanonsizeKeeps", spec := "canonsizeKeeps", unfollowed := true, recurses := true, named := ["capnp/listsize.bits"], loops := true, apart := false, laid := [("capnp/listsize.bits", laid_capnp_listsize_bits)], narrowed := true }
def CanonsizeKeepsUptoSaid : Prop := canonsizeKeepsUptoRow.holds Tryd.pinned (OpenSpec.upto canonsizeKeepsSpec)

/-- 'capnplaw14.CanonwriteMatchesReference', WHERE WHAT IT READS IS OF BULK AT MOST 1048576: true; the input reads as it did. -/
def canonwriteMatchesReferenceUptoRow : OpenClaim := { program := "ythpbjpnbafiipaadoor", sum := "a4018d50df40c14767b313ea9f94f937556ed93cfd524938ab6fc26911596ad1", func := "capnp/capnplaw14.CanonwriteMatchesReference", spec := "canonwriteMatchesReference", unfollowed := true, recurses := true, named := ["capnp/listsize.bits", "capnp/pointer.decoders"], loops := true, apart := false, laid := [("capnp/pointer.decoders", laid_capnp_pointer_decoders), ("capnp/listsize.bits", laid_capnp_listsize_bits)], narrowed := true }
def CanonwriteMatchesReferenceUptoSaid : Prop := canonwriteMatchesReferenceUptoRow.holds Tryd.pinned (OpenSpec.upto canonwriteMatchesReferenceSpec)

/-- 'capnplaw14.CanonwriteIsInjective', WHERE WHAT IT READS IS OF BULK AT MOST 1048576: true; the input reads as it did. -/
def canonwriteIsInjectiveUptoRow : OpenClaim := { program := "ythpbjpnbafiipaadoor", sum := "a4018d50df40c14767b313ea9f94f937556ed93cfd524938ab6fc26911596ad1", func := "capnp/capnplaw14.CanonwriteIsInjective", spec := "canonwriteIsInjective", unfollowed := true, recurses := true, named := ["capnp/listsize.bits", "capnp/pointer.decoders"], loops := true, apart := false, laid := [("capnp/pointer.decoders", laid_capnp_pointer_decoders), ("capnp/listsize.bits", laid_capnp_listsize_bits)], narrowed := true }
def CanonwriteIsInjectiveUptoSaid : Prop := canonwriteIsInjectiveUptoRow.holds Tryd.pinned (OpenSpec.upto canonwriteIsInjectiveSpec)

/-- 'capnplaw14.CanonwriteNests', WHERE WHAT IT READS IS OF BULK AT MOST 1048576: true; the input reads as it did. -/
def canonwriteNestsUptoRow : OpenClaim := { program := "ythpbjpnbafiipaadoor", sum := "a4018d50df40c14767b313ea9f94f937556ed93cfd524938ab6fc26911596ad1", func := "capnp/capnplaw14.CanonwriteNests", spec := "canonwriteNests", unfollowed := true, recurses := true, named := ["capnp/listsize.bits", "capnp/pointer.decoders"], loops := true, apart := false, laid := [("capnp/pointer.decoders", laid_capnp_pointer_decoders), ("capnp/listsize.bits", laid_capnp_listsize_bits)], narrowed := true }
def CanonwriteNestsUptoSaid : Prop := canonwriteNestsUptoRow.holds Tryd.pinned (OpenSpec.upto canonwriteNestsSpec)

/-- 'capnplaw14.CanonwriteKeeps', WHERE WHAT IT READS IS OF BULK AT MOST 1048576: true; the input reads as it did. -/
def canonwriteKeepsUptoRow : OpenClaim := { program := "ythpbjpnbafiipaadoor", sum := "a4018d50df40c14767b313ea9f94f937556ed93cfd524938ab6fc26911596ad1", func := "capnp/capnplaw14.CanonwriteKeeps", spec := "canonwriteKeeps", unfollowed := true, recurses := true, named := ["capnp/listsize.bits", "capnp/pointer.decoders"], loops := true, apart := false, laid := [("capnp/pointer.decoders", laid_capnp_pointer_decoders), ("capnp/listsize.bits", laid_capnp_listsize_bits)], narrowed := true }
def CanonwriteKeepsUptoSaid : Prop := canonwriteKeepsUptoRow.holds Tryd.pinned (OpenSpec.upto canonwriteKeepsSpec)

end Rows
end Go.Proofs.YthpbjpnbafiipaaDoor
