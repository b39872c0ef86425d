/-
  NARROWER THAN 'FOR EVERY INPUT', by the rows' own cells (each row's printed sentence says how): PointerMatchesReference: laid · PointerRoundTrip: laid · PointerKinds: laid · PointerFields: laid · PointerReaches: laid.
  DERIVED. THE GIVEN ROWS OF THIS SEAT. 5 by the template 'for every input the law returns true; each argument reads behind the call as it read before'; 0 by the template 'total and deterministic' (their statements: YtlkcmpamjheldaaDoorTotals.lean).
  GIVEN WITH THE SEED: the statements are not yours to turn. If you find one false, say at which input.
  Laid BY PROGRAM, IN A SANDBOX (cutbox-rows.mjs): the forced cells as the released guide's own fill.sh prints them over the translation 94a58ad3d3621812… (all of the seat's roots in one cut). By AI agents, Wed Nov 11 2026. No macro, syntax, notation, axiom, sorry.
-/
import Derived.Test.YtlkcmpamjheldaaDoorChecked
import GoSem.Claim
import GoSem.ClaimJoined
import GoSem.ClaimMapViews
import Derived.JoinedTies
import Derived.KernelRfl
namespace Go.Proofs.YtlkcmpamjheldaaDoor
/- THE CELL 'sum', in the pinned program and in every row, IS THE sha256 OF THE DUMP (.gsa) THAT YtlkcmpamjheldaaDoorProg.lean LOADS. Nothing in Lean hashes anything: it is a label: what it is worth is what the hold of that sum in a sandbox is worth. -/
noncomputable def Tryd.pinned : Pinned := { name := "ytlkcmpamjheldaadoor", sum := "94a58ad3d36218120c8576fe9218ee714e1593b61327b4793f2906a302a7f403", checked := Tryd.checked }
namespace Rows
def none {H : Type} : Left H := { results := [], args := [] }

/- WHAT THE LISTED PACKAGE-LEVEL VARIABLES READ AS WHEN THE CALL BEGINS. Each datum BY PROGRAM (the guide's laid-datum.mjs) off the statement by which the dump's own 'gosem.cut.vars' lays the variable. In a bare row this is a premise. The card (YtlkcmpamjheldaaDoorCards.lean) ties it to the program's text. -/
def laid_capnp_pointer_decoders {H : Type} : DataW H := .iface "func table" (.map [(.int .i64 0, .iface "func" (.lit (.string [99, 97, 112, 110, 112, 47, 112, 111, 105, 110, 116, 101, 114, 46, 100, 101, 99, 111, 100, 101, 114, 115, 36, 49]))), (.int .i64 1, .iface "func" (.lit (.string [99, 97, 112, 110, 112, 47, 112, 111, 105, 110, 116, 101, 114, 46, 100, 101, 99, 111, 100, 101, 114, 115, 36, 50]))), (.int .i64 2, .iface "func" (.lit (.string [99, 97, 112, 110, 112, 47, 112, 111, 105, 110, 116, 101, 114, 46, 100, 101, 99, 111, 100, 101, 114, 115, 36, 51]))), (.int .i64 3, .iface "func" (.lit (.string [99, 97, 112, 110, 112, 47, 112, 111, 105, 110, 116, 101, 114, 46, 100, 101, 99, 111, 100, 101, 114, 115, 36, 52])))])

/-- 'capnplaw02.PointerMatchesReference': WHATEVER THE INPUT: true; the input reads as it did. -/
def pointerMatchesReferenceSpec : ChangeSpec := { name := "pointerMatchesReference", fn := fun _ => fun
  | [d1, d2] => { results := [.lit (.bool true)], args := [d1, d2] }
  | _ => none }
def pointerMatchesReferenceRow : OpenClaim := { program := "ytlkcmpamjheldaadoor", sum := "94a58ad3d36218120c8576fe9218ee714e1593b61327b4793f2906a302a7f403", func := "capnp/capnplaw02.PointerMatchesReference", spec := "pointerMatchesReference", unfollowed := true, recurses := true, named := ["capnp/pointer.decoders"], apart := false, laid := [("capnp/pointer.decoders", laid_capnp_pointer_decoders)] }
def PointerMatchesReferenceSaid : Prop := pointerMatchesReferenceRow.holds Tryd.pinned (OpenSpec.ofChange pointerMatchesReferenceSpec)

/-- ITS FALSE NEIGHBOUR: 'it returns false'. Refute it at one input. -/
def pointerMatchesReferenceWrong : ChangeSpec := { name := "pointerMatchesReference", fn := fun _ => fun
  | [d1, d2] => { results := [.lit (.bool false)], args := [d1, d2] }
  | _ => none }
def PointerMatchesReferenceWrongFalsely : Prop := pointerMatchesReferenceRow.holds Tryd.pinned (OpenSpec.ofChange pointerMatchesReferenceWrong)

/-- 'capnplaw02.PointerRoundTrip': WHATEVER THE INPUT: true; the input reads as it did. -/
def pointerRoundTripSpec : ChangeSpec := { name := "pointerRoundTrip", fn := fun _ => fun
  | [d1, d2, d3] => { results := [.lit (.bool true)], args := [d1, d2, d3] }
  | _ => none }
def pointerRoundTripRow : OpenClaim := { program := "ytlkcmpamjheldaadoor", sum := "94a58ad3d36218120c8576fe9218ee714e1593b61327b4793f2906a302a7f403", func := "capnp/capnplaw02.PointerRoundTrip", spec := "pointerRoundTrip", unfollowed := true, recurses := true, named := ["capnp/pointer.decoders"], apart := false, laid := [("capnp/pointer.decoders", laid_capnp_pointer_decoders)] }
def PointerRoundTripSaid : Prop := pointerRoundTripRow.holds Tryd.pinned (OpenSpec.ofChange pointerRoundTripSpec)

/-- ITS FALSE NEIGHBOUR: 'it returns false'. Refute it at one input. -/
def pointerRoundTripWrong : ChangeSpec := { name := "pointerRoundTrip", fn := fun _ => fun
  | [d1, d2, d3] => { results := [.lit (.bool false)], args := [d1, d2, d3] }
  | _ => none }
def PointerRoundTripWrongFalsely : Prop := pointerRoundTripRow.holds Tryd.pinned (OpenSpec.ofChange pointerRoundTripWrong)

/-- 'capnplaw02.PointerKinds': WHATEVER THE INPUT: true; the input reads as it did. -/
def pointerKindsSpec : ChangeSpec := { name := "pointerKinds", fn := fun _ => fun
  | [d] => { results := [.lit (.bool true)], args := [d] }
  | _ => none }
def pointerKindsRow : OpenClaim := { program := "ytlkcmpamjheldaadoor", sum := "94a58ad3d36218120c8576fe9218ee714e1593b61327b4793f2906a302a7f403", func := "capnp/capnplaw02.PointerKinds", spec := "pointerKinds", unfollowed := true, recurses := true, named := ["capnp/pointer.decoders"], apart := false, laid := [("capnp/pointer.decoders", laid_capnp_pointer_decoders)] }
def PointerKindsSaid : Prop := pointerKindsRow.holds Tryd.pinned (OpenSpec.ofChange pointerKindsSpec)

/-- ITS FALSE NEIGHBOUR: 'it returns false'. Refute it at one input. -/
def pointerKindsWrong : ChangeSpec := { name := "pointerKinds", fn := fun _ => fun
  | [d] => { results := [.lit (.bool false)], args := [d] }
  | _ => none }
def PointerKindsWrongFalsely : Prop := pointerKindsRow.holds Tryd.pinned (OpenSpec.ofChange pointerKindsWrong)

/-- 'capnplaw02.PointerFields': WHATEVER THE INPUT: true; the input reads as it did. -/
def pointerFieldsSpec : ChangeSpec := { name := "pointerFields", fn := fun _ => fun
  | [d1, d2, d3, d4, d5] => { results := [.lit (.bool true)], args := [d1, d2, d3, d4, d5] }
  | _ => none }
def pointerFieldsRow : OpenClaim := { program := "ytlkcmpamjheldaadoor", sum := "94a58ad3d36218120c8576fe9218ee714e1593b61327b4793f2906a302a7f403", func := "capnp/capnplaw02.PointerFields", spec := "pointerFields", unfollowed := true, recurses := true, named := ["capnp/pointer.decoders"], apart := false, laid := [("capnp/pointer.decoders", laid_capnp_pointer_decoders)] }
def PointerFieldsSaid : Prop := pointerFieldsRow.holds Tryd.pinned (OpenSpec.ofChange pointerFieldsSpec)

/-- ITS FALSE NEIGHBOUR: 'it returns false'. Refute it at one input. -/
def pointerFieldsWrong : ChangeSpec := { name := "pointerFields", fn := fun _ => fun
  | [d1, d2, d3, d4, d5] => { results := [.lit (.bool false)], args := [d1, d2, d3, d4, d5] }
  | _ => none }
def PointerFieldsWrongFalsely : Prop := pointerFieldsRow.holds Tryd.pinned (OpenSpec.ofChange pointerFieldsWrong)

/-- 'capnplaw02.PointerReaches': WHATEVER THE INPUT: true; the input reads as it did. -/
def pointerReachesSpec : ChangeSpec := { name := "pointerReaches", fn := fun _ => fun
  | [d1, d2, d3] => { results := [.lit (.bool true)], args := [d1, d2, d3] }
  | _ => none }
def pointerReachesRow : OpenClaim := { program := "ytlkcmpamjheldaadoor", sum := "94a58ad3d36218120c8576fe9218ee714e1593b61327b4793f2906a302a7f403", func := "capnp/capnplaw02.PointerReaches", spec := "pointerReaches", unfollowed := true, recurses := true, named := ["capnp/pointer.decoders"], apart := false, laid := [("capnp/pointer.decoders", laid_capnp_pointer_decoders)] }
def PointerReachesSaid : Prop := pointerReachesRow.holds Tryd.pinned (OpenSpec.ofChange pointerReachesSpec)

/-- ITS FALSE NEIGHBOUR: 'it returns false'. Refute it at one input. -/
def pointerReachesWrong : ChangeSpec := { name := "pointerReaches", fn := fun _ => fun
  | [d1, d2, d3] => { results := [.lit (.bool false)], args := [d1, d2, d3] }
  | _ => none }
def PointerReachesWrongFalsely : Prop := pointerReachesRow.holds Tryd.pinned (OpenSpec.ofChange pointerReachesWrong)

/- THE SECOND FORM. 'bulk': how many values and letters a reading holds, each counted each time it is reached (what is shared counts as often as it is met; a slice's spare places count too). A statement '..UptoSaid' is the law's where the arguments, and the package variables that the reading takes, are together of bulk at most 1048576: NARROWER than '..Said'. Prove '..Said' where nothing that the law and all that it calls make is longer than what came in: it says more and counts as full. Else prove '..UptoSaid'. A law counts once. -/
mutual
def uptoBulk {H : Type} : DataW H → Nat
  | .lit (.string bytes) => bytes.length + 1
  | .lit _ => 1
  | .nil => 1
  | .ptr d => uptoBulk d + 1
  | .slice elems spare => uptoBulkAll elems + uptoBulkAll spare + 1
  | .agg parts => uptoBulkAll parts + 1
  | .iface _ d => uptoBulk d + 1
  | .map entries => uptoBulkEntries entries + 1
  | .held _ => 1
def uptoBulkAll {H : Type} : List (DataW H) → Nat
  | [] => 0
  | d :: r => uptoBulk d + uptoBulkAll r
def uptoBulkEntries {H : Type} : List (Lit × DataW H) → Nat
  | [] => 0
  | x :: r => uptoBulkEntry x + uptoBulkEntries r
def uptoBulkEntry {H : Type} : Lit × DataW H → Nat
  | (.string bytes, d) => bytes.length + uptoBulk d + 1
  | (_, d) => uptoBulk d + 1
 end
def uptoSmall : (H : Type) → List (DataW H) → Bool := fun _ ds => decide (uptoBulkAll ds ≤ 1048576)
def OpenSpec.upto (s : _root_.Go.ChangeSpec) : _root_.Go.OpenSpec := { _root_.Go.OpenSpec.ofChange s with cond := some uptoSmall }

/-- 'capnplaw02.PointerMatchesReference', WHERE WHAT IT READS IS OF BULK AT MOST 1048576: true; the input reads as it did. -/
def pointerMatchesReferenceUptoRow : OpenClaim := { program := "ytlkcmpamjheldaadoor", sum := "94a58ad3d36218120c8576fe9218ee714e1593b61327b4793f2906a302a7f403", func := "capnp/capnplaw02.PointerMatchesReference", spec := "pointerMatchesReference", unfollowed := true, recurses := true, named := ["capnp/pointer.decoders"], apart := false, laid := [("capnp/pointer.decoders", laid_capnp_pointer_decoders)], narrowed := true }
def PointerMatchesReferenceUptoSaid : Prop := pointerMatchesReferenceUptoRow.holds Tryd.pinned (OpenSpec.upto pointerMatchesReferenceSpec)

/-- 'capnplaw02.PointerRoundTrip', WHERE WHAT IT READS IS OF BULK AT MOST 1048576: true; the input reads as it did. -/
def pointerRoundTripUptoRow : OpenClaim := { program := "ytlkcmpamjheldaadoor", sum := "94a58ad3d36218120c8576fe9218ee714e1593b61327b4793f2906a302a7f403", func := "capnp/capnplaw02.PointerRoundTrip", spec := "pointerRoundTrip", unfollowed := true, recurses := true, named := ["capnp/pointer.decoders"], apart := false, laid := [("capnp/pointer.decoders", laid_capnp_pointer_decoders)], narrowed := true }
def PointerRoundTripUptoSaid : Prop := pointerRoundTripUptoRow.holds Tryd.pinned (OpenSpec.upto pointerRoundTripSpec)

/-- 'capnplaw02.PointerKinds', WHERE WHAT IT READS IS OF BULK AT MOST 1048576: true; the input reads as it did. -/
def pointerKindsUptoRow : OpenClaim := { program := "ytlkcmpamjheldaadoor", sum := "94a58ad3d36218120c8576fe9218ee714e1593b61327b4793f2906a302a7f403", func := "capnp/capnplaw02.PointerKinds", spec := "pointerKinds", unfollowed := true, recurses := true, named := ["capnp/pointer.decoders"], apart := false, laid := [("capnp/pointer.decoders", laid_capnp_pointer_decoders)], narrowed := true }
def PointerKindsUptoSaid : Prop := pointerKindsUptoRow.holds Tryd.pinned (OpenSpec.upto pointerKindsSpec)

/-- 'capnplaw02.PointerFields', WHERE WHAT IT READS IS OF BULK AT MOST 1048576: true; the input reads as it did. -/
def pointerFieldsUptoRow : OpenClaim := { program := "ytlkcmpamjheldaadoor", sum := "94a58ad3d36218120c8576fe9218ee714e1593b61327b4793f2906a302a7f403", func := "capnp/capnplaw02.PointerFields", spec := "pointerFields", unfollowed := true, recurses := true, named := ["capnp/pointer.decoders"], apart := false, laid := [("capnp/pointer.decoders", laid_capnp_pointer_decoders)], narrowed := true }
def PointerFieldsUptoSaid : Prop := pointerFieldsUptoRow.holds Tryd.pinned (OpenSpec.upto pointerFieldsSpec)

/-- 'capnplaw02.PointerReaches', WHERE WHAT IT READS IS OF BULK AT MOST 1048576: true; the input reads as it did. -/
def pointerReachesUptoRow : OpenClaim := { program := "ytlkcmpamjheldaadoor", sum := "94a58ad3d36218120c8576fe9218ee714e1593b61327b4793f2906a302a7f403", func := "capnp/capnplaw02.PointerReaches", spec := "pointerReaches", unfollowed := true, recurses := true, named := ["capnp/pointer.decoders"], apart := false, laid := [("capnp/pointer.decoders", laid_capnp_pointer_decoders)], narrowed := true }
def PointerReachesUptoSaid : Prop := pointerReachesUptoRow.holds Tryd.pinned (OpenSpec.upto pointerReachesSpec)

end Rows
end Go.Proofs.YtlkcmpamjheldaaDoor
