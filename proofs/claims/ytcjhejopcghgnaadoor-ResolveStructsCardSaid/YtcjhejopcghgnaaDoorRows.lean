/-
  NARROWER THAN 'FOR EVERY INPUT', by the rows' own cells (each row's printed sentence says how): FarMatchesReference: laid · FarPointersAreFollowed: laid · FarDescriptors: laid · FarKeeps: laid · ResolveMatchesReference: laid · ResolvedObjectsAreInBounds: laid · ResolveStructs: laid · ResolveThroughFar: laid · ResolveElements: laid.
  DERIVED. THE GIVEN ROWS OF THIS SEAT. 9 by the template 'for every input the law returns true; each argument reads behind the call as it read before'; 0 by the template 'total and deterministic' (their statements: YtcjhejopcghgnaaDoorTotals.lean).
  GIVEN WITH THE SEED: the statements are not yours to turn. If you find one false, say at which input.
  Laid BY PROGRAM, IN A SANDBOX (cutbox-rows.mjs): the forced cells as the released guide's own fill.sh prints them over the translation 9f37c60426e36237… (all of the seat's roots in one cut). By AI agents, Wed Nov 11 2026. No macro, syntax, notation, axiom, sorry.
-/
import Derived.Test.YtcjhejopcghgnaaDoorChecked
import GoSem.Claim
import GoSem.ClaimJoined
import GoSem.ClaimMapViews
import Derived.JoinedTies
import Derived.KernelRfl
namespace Go.Proofs.YtcjhejopcghgnaaDoor
/- THE CELL 'sum', in the pinned program and in every row, IS THE sha256 OF THE DUMP (.gsa) THAT YtcjhejopcghgnaaDoorProg.lean LOADS. Nothing in Lean hashes anything: it is a label: what it is worth is what the hold of that sum in a sandbox is worth. -/
noncomputable def Tryd.pinned : Pinned := { name := "ytcjhejopcghgnaadoor", sum := "9f37c60426e3623708f89c59fdb401bbeab2a2da8813d1aae7769260d397ec94", checked := Tryd.checked }
namespace Rows
def none {H : Type} : Left H := { results := [], args := [] }

/- WHAT THE LISTED PACKAGE-LEVEL VARIABLES READ AS WHEN THE CALL BEGINS. Each datum BY PROGRAM (the guide's laid-datum.mjs) off the statement by which the dump's own 'gosem.cut.vars' lays the variable. In a bare row this is a premise. The card (YtcjhejopcghgnaaDoorCards.lean) ties it to the program's text. -/
def laid_capnp_pointer_decoders {H : Type} : DataW H := .iface "func table" (.map [(.int .i64 0, .iface "func" (.lit (.string [99, 97, 112, 110, 112, 47, 112, 111, 105, 110, 116, 101, 114, 46, 100, 101, 99, 111, 100, 101, 114, 115, 36, 49]))), (.int .i64 1, .iface "func" (.lit (.string [99, 97, 112, 110, 112, 47, 112, 111, 105, 110, 116, 101, 114, 46, 100, 101, 99, 111, 100, 101, 114, 115, 36, 50]))), (.int .i64 2, .iface "func" (.lit (.string [99, 97, 112, 110, 112, 47, 112, 111, 105, 110, 116, 101, 114, 46, 100, 101, 99, 111, 100, 101, 114, 115, 36, 51]))), (.int .i64 3, .iface "func" (.lit (.string [99, 97, 112, 110, 112, 47, 112, 111, 105, 110, 116, 101, 114, 46, 100, 101, 99, 111, 100, 101, 114, 115, 36, 52])))])
def laid_capnp_listsize_bits {H : Type} : DataW H := .agg [.lit (.int .i64 0), .lit (.int .i64 1), .lit (.int .i64 8), .lit (.int .i64 16), .lit (.int .i64 32), .lit (.int .i64 64), .lit (.int .i64 64), .lit (.int .i64 0)]

/-- 'capnplaw07.FarMatchesReference': WHATEVER THE INPUT: true; the input reads as it did. -/
def farMatchesReferenceSpec : ChangeSpec := { name := "farMatchesReference", fn := fun _ => fun
  | [d1, d2, d3, d4] => { results := [.lit (.bool true)], args := [d1, d2, d3, d4] }
  | _ => none }
def farMatchesReferenceRow : OpenClaim := { program := "ytcjhejopcghgnaadoor", sum := "9f37c60426e3623708f89c59fdb401bbeab2a2da8813d1aae7769260d397ec94", func := "capnp/capnplaw07.FarMatchesReference", spec := "farMatchesReference", unfollowed := true, recurses := true, named := ["capnp/pointer.decoders"], apart := false, laid := [("capnp/pointer.decoders", laid_capnp_pointer_decoders)] }
def FarMatchesReferenceSaid : Prop := farMatchesReferenceRow.holds Tryd.pinned (OpenSpec.ofChange farMatchesReferenceSpec)

/-- ITS FALSE NEIGHBOUR: 'it returns false'. Refute it at one input. -/
def farMatchesReferenceWrong : ChangeSpec := { name := "farMatchesReference", fn := fun _ => fun
  | [d1, d2, d3, d4] => { results := [.lit (.bool false)], args := [d1, d2, d3, d4] }
  | _ => none }
def FarMatchesReferenceWrongFalsely : Prop := farMatchesReferenceRow.holds Tryd.pinned (OpenSpec.ofChange farMatchesReferenceWrong)

/-- 'capnplaw07.FarPointersAreFollowed': WHATEVER THE INPUT: true; the input reads as it did. -/
def farPointersAreFollowedSpec : ChangeSpec := { name := "farPointersAreFollowed", fn := fun _ => fun
  | [d1, d2, d3, d4, d5, d6, d7] => { results := [.lit (.bool true)], args := [d1, d2, d3, d4, d5, d6, d7] }
  | _ => none }
def farPointersAreFollowedRow : OpenClaim := { program := "ytcjhejopcghgnaadoor", sum := "9f37c60426e3623708f89c59fdb401bbeab2a2da8813d1aae7769260d397ec94", func := "capnp/capnplaw07.FarPointersAreFollowed", spec := "farPointersAreFollowed", unfollowed := true, recurses := true, named := ["capnp/pointer.decoders"], apart := false, laid := [("capnp/pointer.decoders", laid_capnp_pointer_decoders)] }
def FarPointersAreFollowedSaid : Prop := farPointersAreFollowedRow.holds Tryd.pinned (OpenSpec.ofChange farPointersAreFollowedSpec)

/-- ITS FALSE NEIGHBOUR: 'it returns false'. Refute it at one input. -/
def farPointersAreFollowedWrong : ChangeSpec := { name := "farPointersAreFollowed", fn := fun _ => fun
  | [d1, d2, d3, d4, d5, d6, d7] => { results := [.lit (.bool false)], args := [d1, d2, d3, d4, d5, d6, d7] }
  | _ => none }
def FarPointersAreFollowedWrongFalsely : Prop := farPointersAreFollowedRow.holds Tryd.pinned (OpenSpec.ofChange farPointersAreFollowedWrong)

/-- 'capnplaw07.FarDescriptors': WHATEVER THE INPUT: true; the input reads as it did. -/
def farDescriptorsSpec : ChangeSpec := { name := "farDescriptors", fn := fun _ => fun
  | [d1, d2, d3] => { results := [.lit (.bool true)], args := [d1, d2, d3] }
  | _ => none }
def farDescriptorsRow : OpenClaim := { program := "ytcjhejopcghgnaadoor", sum := "9f37c60426e3623708f89c59fdb401bbeab2a2da8813d1aae7769260d397ec94", func := "capnp/capnplaw07.FarDescriptors", spec := "farDescriptors", unfollowed := true, recurses := true, named := ["capnp/pointer.decoders"], apart := false, laid := [("capnp/pointer.decoders", laid_capnp_pointer_decoders)] }
def FarDescriptorsSaid : Prop := farDescriptorsRow.holds Tryd.pinned (OpenSpec.ofChange farDescriptorsSpec)

/-- ITS FALSE NEIGHBOUR: 'it returns false'. Refute it at one input. -/
def farDescriptorsWrong : ChangeSpec := { name := "farDescriptors", fn := fun _ => fun
  | [d1, d2, d3] => { results := [.lit (.bool false)], args := [d1, d2, d3] }
  | _ => none }
def FarDescriptorsWrongFalsely : Prop := farDescriptorsRow.holds Tryd.pinned (OpenSpec.ofChange farDescriptorsWrong)

/-- 'capnplaw07.FarKeeps': WHATEVER THE INPUT: true; the input reads as it did. -/
def farKeepsSpec : ChangeSpec := { name := "farKeeps", fn := fun _ => fun
  | [d1, d2, d3] => { results := [.lit (.bool true)], args := [d1, d2, d3] }
  | _ => none }
def farKeepsRow : OpenClaim := { program := "ytcjhejopcghgnaadoor", sum := "9f37c60426e3623708f89c59fdb401bbeab2a2da8813d1aae7769260d397ec94", func := "capnp/capnplaw07.FarKeeps", spec := "farKeeps", unfollowed := true, recurses := true, named := ["capnp/pointer.decoders"], apart := false, laid := [("capnp/pointer.decoders", laid_capnp_pointer_decoders)] }
def FarKeepsSaid : Prop := farKeepsRow.holds Tryd.pinned (OpenSpec.ofChange farKeepsSpec)

/-- ITS FALSE NEIGHBOUR: 'it returns false'. Refute it at one input. -/
def farKeepsWrong : ChangeSpec := { name := "farKeeps", fn := fun _ => fun
  | [d1, d2, d3] => { results := [.lit (.bool false)], args := [d1, d2, d3] }
  | _ => none }
def FarKeepsWrongFalsely : Prop := farKeepsRow.holds Tryd.pinned (OpenSpec.ofChange farKeepsWrong)

/-- 'capnplaw08.ResolveMatchesReference': WHATEVER THE INPUT: true; the input reads as it did. -/
def resolveMatchesReferenceSpec : ChangeSpec := { name := "resolveMatchesReference", fn := fun _ => fun
  | [d1, d2, d3, d4] => { results := [.lit (.bool true)], args := [d1, d2, d3, d4] }
  | _ => none }
def resolveMatchesReferenceRow : OpenClaim := { program := "ytcjhejopcghgnaadoor", sum := "9f37c60426e3623708f89c59fdb401bbeab2a2da8813d1aae7769260d397ec94", func := "capnp/capnplaw08.ResolveMatchesReference", spec := "resolveMatchesReference", unfollowed := true, recurses := true, named := ["capnp/pointer.decoders", "capnp/listsize.bits"], apart := false, laid := [("capnp/pointer.decoders", laid_capnp_pointer_decoders), ("capnp/listsize.bits", laid_capnp_listsize_bits)] }
def ResolveMatchesReferenceSaid : Prop := resolveMatchesReferenceRow.holds Tryd.pinned (OpenSpec.ofChange resolveMatchesReferenceSpec)

/-- ITS FALSE NEIGHBOUR: 'it returns false'. Refute it at one input. -/
def resolveMatchesReferenceWrong : ChangeSpec := { name := "resolveMatchesReference", fn := fun _ => fun
  | [d1, d2, d3, d4] => { results := [.lit (.bool false)], args := [d1, d2, d3, d4] }
  | _ => none }
def ResolveMatchesReferenceWrongFalsely : Prop := resolveMatchesReferenceRow.holds Tryd.pinned (OpenSpec.ofChange resolveMatchesReferenceWrong)

/-- 'capnplaw08.ResolvedObjectsAreInBounds': WHATEVER THE INPUT: true; the input reads as it did. -/
def resolvedObjectsAreInBoundsSpec : ChangeSpec := { name := "resolvedObjectsAreInBounds", fn := fun _ => fun
  | [d1, d2, d3, d4] => { results := [.lit (.bool true)], args := [d1, d2, d3, d4] }
  | _ => none }
def resolvedObjectsAreInBoundsRow : OpenClaim := { program := "ytcjhejopcghgnaadoor", sum := "9f37c60426e3623708f89c59fdb401bbeab2a2da8813d1aae7769260d397ec94", func := "capnp/capnplaw08.ResolvedObjectsAreInBounds", spec := "resolvedObjectsAreInBounds", unfollowed := true, recurses := true, named := ["capnp/pointer.decoders", "capnp/listsize.bits"], apart := false, laid := [("capnp/pointer.decoders", laid_capnp_pointer_decoders), ("capnp/listsize.bits", laid_capnp_listsize_bits)] }
def ResolvedObjectsAreInBoundsSaid : Prop := resolvedObjectsAreInBoundsRow.holds Tryd.pinned (OpenSpec.ofChange resolvedObjectsAreInBoundsSpec)

/-- ITS FALSE NEIGHBOUR: 'it returns false'. Refute it at one input. -/
def resolvedObjectsAreInBoundsWrong : ChangeSpec := { name := "resolvedObjectsAreInBounds", fn := fun _ => fun
  | [d1, d2, d3, d4] => { results := [.lit (.bool false)], args := [d1, d2, d3, d4] }
  | _ => none }
def ResolvedObjectsAreInBoundsWrongFalsely : Prop := resolvedObjectsAreInBoundsRow.holds Tryd.pinned (OpenSpec.ofChange resolvedObjectsAreInBoundsWrong)

/-- 'capnplaw08.ResolveStructs': WHATEVER THE INPUT: true; the input reads as it did. -/
def resolveStructsSpec : ChangeSpec := { name := "resolveStructs", fn := fun _ => fun
  | [d1, d2, d3, d4] => { results := [.lit (.bool true)], args := [d1, d2, d3, d4] }
  | _ => none }
def resolveStructsRow : OpenClaim := { program := "ytcjhejopcghgnaadoor", sum := "9f37c60426e3623708f89c59fdb401bbeab2a2da8813d1aae7769260d397ec94", func := "capnp/capnplaw08.ResolveStructs", spec := "resolveStructs", unfollowed := true, recurses := true, named := ["capnp/pointer.decoders", "capnp/listsize.bits"], apart := false, laid := [("capnp/pointer.decoders", laid_capnp_pointer_decoders), ("capnp/listsize.bits", laid_capnp_listsize_bits)] }
def ResolveStructsSaid : Prop := resolveStructsRow.holds Tryd.pinned (OpenSpec.ofChange resolveStructsSpec)

/-- ITS FALSE NEIGHBOUR: 'it returns false'. Refute it at one input. -/
def resolveStructsWrong : ChangeSpec := { name := "resolveStructs", fn := fun _ => fun
  | [d1, d2, d3, d4] => { results := [.lit (.bool false)], args := [d1, d2, d3, d4] }
  | _ => none }
def ResolveStructsWrongFalsely : Prop := resolveStructsRow.holds Tryd.pinned (OpenSpec.ofChange resolveStructsWrong)

/-- 'capnplaw08.ResolveThroughFar': WHATEVER THE INPUT: true; the input reads as it did. -/
def resolveThroughFarSpec : ChangeSpec := { name := "resolveThroughFar", fn := fun _ => fun
  | [d1, d2, d3] => { results := [.lit (.bool true)], args := [d1, d2, d3] }
  | _ => none }
def resolveThroughFarRow : OpenClaim := { program := "ytcjhejopcghgnaadoor", sum := "9f37c60426e3623708f89c59fdb401bbeab2a2da8813d1aae7769260d397ec94", func := "capnp/capnplaw08.ResolveThroughFar", spec := "resolveThroughFar", unfollowed := true, recurses := true, named := ["capnp/pointer.decoders", "capnp/listsize.bits"], apart := false, laid := [("capnp/pointer.decoders", laid_capnp_pointer_decoders), ("capnp/listsize.bits", laid_capnp_listsize_bits)] }
def ResolveThroughFarSaid : Prop := resolveThroughFarRow.holds Tryd.pinned (OpenSpec.ofChange resolveThroughFarSpec)

/-- ITS FALSE NEIGHBOUR: 'it returns false'. Refute it at one input. -/
def resolveThroughFarWrong : ChangeSpec := { name := "resolveThroughFar", fn := fun _ => fun
  | [d1, d2, d3] => { results := [.lit (.bool false)], args := [d1, d2, d3] }
  | _ => none }
def ResolveThroughFarWrongFalsely : Prop := resolveThroughFarRow.holds Tryd.pinned (OpenSpec.ofChange resolveThroughFarWrong)

/-- 'capnplaw08.ResolveElements': WHATEVER THE INPUT: true; the input reads as it did. -/
def resolveElementsSpec : ChangeSpec := { name := "resolveElements", fn := fun _ => fun
  | [d1, d2, d3] => { results := [.lit (.bool true)], args := [d1, d2, d3] }
  | _ => none }
def resolveElementsRow : OpenClaim := { program := "ytcjhejopcghgnaadoor", sum := "9f37c60426e3623708f89c59fdb401bbeab2a2da8813d1aae7769260d397ec94", func := "capnp/capnplaw08.ResolveElements", spec := "resolveElements", unfollowed := true, recurses := true, named := ["capnp/pointer.decoders", "capnp/listsize.bits"], apart := false, laid := [("capnp/pointer.decoders", laid_capnp_pointer_decoders), ("capnp/listsize.bits", laid_capnp_listsize_bits)] }
def ResolveElementsSaid : Prop := resolveElementsRow.holds Tryd.pinned (OpenSpec.ofChange resolveElementsSpec)

/-- ITS FALSE NEIGHBOUR: 'it returns false'. Refute it at one input. -/
def resolveElementsWrong : ChangeSpec := { name := "resolveElements", fn := fun _ => fun
  | [d1, d2, d3] => { results := [.lit (.bool false)], args := [d1, d2, d3] }
  | _ => none }
def ResolveElementsWrongFalsely : Prop := resolveElementsRow.holds Tryd.pinned (OpenSpec.ofChange resolveElementsWrong)

/- THE SECOND FORM. 'bulk': how many values and letters a reading holds, each counted each time it is reached (what is shared counts as often as it is met; a slice's spare places count too). A statement '..UptoSaid' is the law's where the arguments, and the package variables that the reading takes, are together of bulk at most 1048576: NARROWER than '..Said'. Prove '..Said' where nothing that the law and all that it calls make is longer than what came in: it says more and counts as full. Else prove '..UptoSaid'. A law counts once. -/
mutual
def uptoBulk {H : Type} : DataW H → Nat
  | .lit (.string bytes) => bytes.length + 1
  | .lit _ => 1
  | .nil => 1
  | .ptr d => uptoBulk d + 1
  | .slice elems spare => uptoBulkAll elems + uptoBulkAll spare + 1
  | .agg parts => uptoBulkAll parts + 1
  | .iface _ d => uptoBulk d + 1
  | .map entries => uptoBulkEntries entries + 1
  | .held _ => 1
def uptoBulkAll {H : Type} : List (DataW H) → Nat
  | [] => 0
  | d :: r => uptoBulk d + uptoBulkAll r
def uptoBulkEntries {H : Type} : List (Lit × DataW H) → Nat
  | [] => 0
  | x :: r => uptoBulkEntry x + uptoBulkEntries r
def uptoBulkEntry {H : Type} : Lit × DataW H → Nat
  | (.string bytes, d) => bytes.length + uptoBulk d + 1
  | (_, d) => uptoBulk d + 1
 end
def uptoSmall : (H : Type) → List (DataW H) → Bool := fun _ ds => decide (uptoBulkAll ds ≤ 1048576)
def OpenSpec.upto (s : _root_.Go.ChangeSpec) : _root_.Go.OpenSpec := { _root_.Go.OpenSpec.ofChange s with cond := some uptoSmall }

/-- 'capnplaw07.FarMatchesReference', WHERE WHAT IT READS IS OF BULK AT MOST 1048576: true; the input reads as it did. -/
def farMatchesReferenceUptoRow : OpenClaim := { program := "ytcjhejopcghgnaadoor", sum := "9f37c60426e3623708f89c59fdb401bbeab2a2da8813d1aae7769260d397ec94", func := "capnp/capnplaw07.FarMatchesReference", spec := "farMatchesReference", unfollowed := true, recurses := true, named := ["capnp/pointer.decoders"], apart := false, laid := [("capnp/pointer.decoders", laid_capnp_pointer_decoders)], narrowed := true }
def FarMatchesReferenceUptoSaid : Prop := farMatchesReferenceUptoRow.holds Tryd.pinned (OpenSpec.upto farMatchesReferenceSpec)

/-- 'capnplaw07.FarPointersAreFollowed', WHERE WHAT IT READS IS OF BULK AT MOST 1048576: true; the input reads as it did. -/
def farPointersAreFollowedUptoRow : OpenClaim := { program := "ytcjhejopcghgnaadoor", sum := "9f37c60426e3623708f89c59fdb401bbeab2a2da8813d1aae7769260d397ec94", func := "capnp/capnplaw07.FarPointersAreFollowed", spec := "farPointersAreFollowed", unfollowed := true, recurses := true, named := ["capnp/pointer.decoders"], apart := false, laid := [("capnp/pointer.decoders", laid_capnp_pointer_decoders)], narrowed := true }
def FarPointersAreFollowedUptoSaid : Prop := farPointersAreFollowedUptoRow.holds Tryd.pinned (OpenSpec.upto farPointersAreFollowedSpec)

/-- 'capnplaw07.FarDescriptors', WHERE WHAT IT READS IS OF BULK AT MOST 1048576: true; the input reads as it did. -/
def farDescriptorsUptoRow : OpenClaim := { program := "ytcjhejopcghgnaadoor", sum := "9f37c60426e3623708f89c59fdb401bbeab2a2da8813d1aae7769260d397ec94", func := "capnp/capnplaw07.FarDescriptors", spec := "farDescriptors", unfollowed := true, recurses := true, named := ["capnp/pointer.decoders"], apart := false, laid := [("capnp/pointer.decoders", laid_capnp_pointer_decoders)], narrowed := true }
def FarDescriptorsUptoSaid : Prop := farDescriptorsUptoRow.holds Tryd.pinned (OpenSpec.upto farDescriptorsSpec)

/-- 'capnplaw07.FarKeeps', WHERE WHAT IT READS IS OF BULK AT MOST 1048576: true; the input reads as it did. -/
def farKeepsUptoRow : OpenClaim := { program := "ytcjhejopcghgnaadoor", sum := "9f37c60426e3623708f89c59fdb401bbeab2a2da8813d1aae7769260d397ec94", func := "capnp/capnplaw07.FarKeeps", spec := "farKeeps", unfollowed := true, recurses := true, named := ["capnp/pointer.decoders"], apart := false, laid := [("capnp/pointer.decoders", laid_capnp_pointer_decoders)], narrowed := true }
def FarKeepsUptoSaid : Prop := farKeepsUptoRow.holds Tryd.pinned (OpenSpec.upto farKeepsSpec)

/-- 'capnplaw08.ResolveMatchesReference', WHERE WHAT IT READS IS OF BULK AT MOST 1048576: true; the input reads as it did. -/
def resolveMatchesReferenceUptoRow : OpenClaim := { program := "ytcjhejopcghgnaadoor", sum := "9f37c60426e3623708f89c59fdb401bbeab2a2da8813d1aae7769260d397ec94", func := "capnp/capnplaw08.ResolveMatchesReference", spec := "resolveMatchesReference", unfollowed := true, recurses := true, named := ["capnp/pointer.decoders", "capnp/listsize.bits"], apart := false, laid := [("capnp/pointer.decoders", laid_capnp_pointer_decoders), ("capnp/listsize.bits", laid_capnp_listsize_bits)], narrowed := true }
def ResolveMatchesReferenceUptoSaid : Prop := resolveMatchesReferenceUptoRow.holds Tryd.pinned (OpenSpec.upto resolveMatchesReferenceSpec)

/-- 'capnplaw08.ResolvedObjectsAreInBounds', WHERE WHAT IT READS IS OF BULK AT MOST 1048576: true; the input reads as it did. -/
def resolvedObjectsAreInBoundsUptoRow : OpenClaim := { program := "ytcjhejopcghgnaadoor", sum := "9f37c60426e3623708f89c59fdb401bbeab2a2da8813d1aae7769260d397ec94", func := "capnp/capnplaw08.ResolvedObjectsAreInBounds", spec := "resolvedObjectsAreInBounds", unfollowed := true, recurses := true, named := ["capnp/pointer.decoders", "capnp/listsize.bits"], apart := false, laid := [("capnp/pointer.decoders", laid_capnp_pointer_decoders), ("capnp/listsize.bits", laid_capnp_listsize_bits)], narrowed := true }
def ResolvedObjectsAreInBoundsUptoSaid : Prop := resolvedObjectsAreInBoundsUptoRow.holds Tryd.pinned (OpenSpec.upto resolvedObjectsAreInBoundsSpec)

/-- 'capnplaw08.ResolveStructs', WHERE WHAT IT READS IS OF BULK AT MOST 1048576: true; the input reads as it did. -/
def resolveStructsUptoRow : OpenClaim := { program := "ytcjhejopcghgnaadoor", sum := "9f37c60426e3623708f89c59fdb401bbeab2a2da8813d1aae7769260d397ec94", func := "capnp/capnplaw08.ResolveStructs", spec := "resolveStructs", unfollowed := true, recurses := true, named := ["capnp/pointer.decoders", "capnp/listsize.bits"], apart := false, laid := [("capnp/pointer.decoders", laid_capnp_pointer_decoders), ("capnp/listsize.bits", laid_capnp_listsize_bits)], narrowed := true }
def ResolveStructsUptoSaid : Prop := resolveStructsUptoRow.holds Tryd.pinned (OpenSpec.upto resolveStructsSpec)

/-- 'capnplaw08.ResolveThroughFar', WHERE WHAT IT READS IS OF BULK AT MOST 1048576: true; the input reads as it did. -/
def resolveThroughFarUptoRow : OpenClaim := { program := "ytcjhejopcghgnaadoor", sum := "9f37c60426e3623708f89c59fdb401bbeab2a2da8813d1aae7769260d397ec94", func := "capnp/capnplaw08.ResolveThroughFar", spec := "resolveThroughFar", unfollowed := true, recurses := true, named := ["capnp/pointer.decoders", "capnp/listsize.bits"], apart := false, laid := [("capnp/pointer.decoders", laid_capnp_pointer_decoders), ("capnp/listsize.bits", laid_capnp_listsize_bits)], narrowed := true }
def ResolveThroughFarUptoSaid : Prop := resolveThroughFarUptoRow.holds Tryd.pinned (OpenSpec.upto resolveThroughFarSpec)

/-- 'capnplaw08.ResolveElements', WHERE WHAT IT READS IS OF BULK AT MOST 1048576: true; the input reads as it did. -/
def resolveElementsUptoRow : OpenClaim := { program := "ytcjhejopcghgnaadoor", sum := "9f37c60426e3623708f89c59fdb401bbeab2a2da8813d1aae7769260d397ec94", func := "capnp/capnplaw08.ResolveElements", spec := "resolveElements", unfollowed := true, recurses := true, named := ["capnp/pointer.decoders", "capnp/listsize.bits"], apart := false, laid := [("capnp/pointer.decoders", laid_capnp_pointer_decoders), ("capnp/listsize.bits", laid_capnp_listsize_bits)], narrowed := true }
def ResolveElementsUptoSaid : Prop := resolveElementsUptoRow.holds Tryd.pinned (OpenSpec.upto resolveElementsSpec)

end Rows
end Go.Proofs.YtcjhejopcghgnaaDoor
