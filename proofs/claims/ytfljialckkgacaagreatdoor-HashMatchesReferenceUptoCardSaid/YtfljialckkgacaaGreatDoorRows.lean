/-
  NARROWER THAN 'FOR EVERY INPUT', by the rows' own cells (each row's printed sentence says how): CanonMatchesReference: laid · CanonicalizeIsCanonical: laid · CanonIsIdempotent: laid · CanonSize: laid · HashMatchesReference: loops, laid · HashOfEqualMessages: laid · HashOfCanonicalForm: laid.
  DERIVED. THE GIVEN ROWS OF THIS SEAT. 7 by the template 'for every input the law returns true; each argument reads behind the call as it read before'; 0 by the template 'total and deterministic' (their statements: YtfljialckkgacaaGreatDoorTotals.lean).
  GIVEN WITH THE SEED: the statements are not yours to turn. If you find one false, say at which input.
  Laid BY PROGRAM, IN A SANDBOX (cutbox-rows.mjs): the forced cells as the released guide's own fill.sh prints them over the translation 36f259779c085a8a… (all of the seat's roots in one cut). By AI agents, Wed Nov 11 2026. No macro, syntax, notation, axiom, sorry.
-/
import Derived.Test.YtfljialckkgacaaGreatDoorChecked
import GoSem.Claim
import GoSem.ClaimJoined
import GoSem.ClaimMapViews
import Derived.JoinedTies
import Derived.KernelRfl
namespace Go.Proofs.YtfljialckkgacaaGreatDoor
/- THE CELL 'sum', in the pinned program and in every row, IS THE sha256 OF THE DUMP (.gsa) THAT YtfljialckkgacaaGreatDoorProg.lean LOADS. Nothing in Lean hashes anything: it is a label: what it is worth is what the hold of that sum in a sandbox is worth. -/
noncomputable def Tryz.pinned : Pinned := { name := "ytfljialckkgacaagreatdoor", sum := "36f259779c085a8aae5b255f58b2c2f5b543b1bb88f281386c635919b3223fa9", checked := Tryz.checked }
namespace Rows
def none {H : Type} : Left H := { results := [], args := [] }

/- WHAT THE LISTED PACKAGE-LEVEL VARIABLES READ AS WHEN THE CALL BEGINS. Each datum BY PROGRAM (the guide's laid-datum.mjs) off the statement by which the dump's own 'gosem.cut.vars' lays the variable. In a bare row this is a premise. The card (YtfljialckkgacaaGreatDoorCards.lean) ties it to the program's text. -/
def laid_capnp_pointer_decoders {H : Type} : DataW H := .iface "func table" (.map [(.int .i64 0, .iface "func" (.lit (.string [99, 97, 112, 110, 112, 47, 112, 111, 105, 110, 116, 101, 114, 46, 100, 101, 99, 111, 100, 101, 114, 115, 36, 49]))), (.int .i64 1, .iface "func" (.lit (.string [99, 97, 112, 110, 112, 47, 112, 111, 105, 110, 116, 101, 114, 46, 100, 101, 99, 111, 100, 101, 114, 115, 36, 50]))), (.int .i64 2, .iface "func" (.lit (.string [99, 97, 112, 110, 112, 47, 112, 111, 105, 110, 116, 101, 114, 46, 100, 101, 99, 111, 100, 101, 114, 115, 36, 51]))), (.int .i64 3, .iface "func" (.lit (.string [99, 97, 112, 110, 112, 47, 112, 111, 105, 110, 116, 101, 114, 46, 100, 101, 99, 111, 100, 101, 114, 115, 36, 52])))])
def laid_capnp_listsize_bits {H : Type} : DataW H := .agg [.lit (.int .i64 0), .lit (.int .i64 1), .lit (.int .i64 8), .lit (.int .i64 16), .lit (.int .i64 32), .lit (.int .i64 64), .lit (.int .i64 64), .lit (.int .i64 0)]

/-- 'capnplaw15.CanonMatchesReference': WHATEVER THE INPUT: true; the input reads as it did. -/
def canonMatchesReferenceSpec : ChangeSpec := { name := "canonMatchesReference", fn := fun _ => fun
  | [d1, d2] => { results := [.lit (.bool true)], args := [d1, d2] }
  | _ => none }
def canonMatchesReferenceRow : OpenClaim := { program := "ytfljialckkgacaagreatdoor", sum := "36f259779c085a8aae5b255f58b2c2f5b543b1bb88f281386c635919b3223fa9", func := "capnp/capnplaw15.CanonMatchesReference", spec := "canonMatchesReference", unfollowed := true, recurses := true, named := ["capnp/pointer.decoders", "capnp/listsize.bits"], apart := false, laid := [("capnp/pointer.decoders", laid_capnp_pointer_decoders), ("capnp/listsize.bits", laid_capnp_listsize_bits)] }
def CanonMatchesReferenceSaid : Prop := canonMatchesReferenceRow.holds Tryz.pinned (OpenSpec.ofChange canonMatchesReferenceSpec)

/-- ITS FALSE NEIGHBOUR: 'it returns false'. Refute it at one input. -/
def canonMatchesReferenceWrong : ChangeSpec := { name := "canonMatchesReference", fn := fun _ => fun
  | [d1, d2] => { results := [.lit (.bool false)], args := [d1, d2] }
  | _ => none }
def CanonMatchesReferenceWrongFalsely : Prop := canonMatchesReferenceRow.holds Tryz.pinned (OpenSpec.ofChange canonMatchesReferenceWrong)

/-- 'capnplaw15.CanonicalizeIsCanonical': WHATEVER THE INPUT: true; the input reads as it did. -/
def canonicalizeIsCanonicalSpec : ChangeSpec := { name := "canonicalizeIsCanonical", fn := fun _ => fun
  | [d1, d2, d3] => { results := [.lit (.bool true)], args := [d1, d2, d3] }
  | _ => none }
def canonicalizeIsCanonicalRow : OpenClaim := { program := "ytfljialckkgacaagreatdoor", sum := "36f259779c085a8aae5b255f58b2c2f5b543b1bb88f281386c635919b3223fa9", func := "capnp/capnplaw15.CanonicalizeIsCanonical", spec := "canonicalizeIsCanonical", unfollowed := true, recurses := true, named := ["capnp/pointer.decoders", "capnp/listsize.bits"], apart := false, laid := [("capnp/pointer.decoders", laid_capnp_pointer_decoders), ("capnp/listsize.bits", laid_capnp_listsize_bits)] }
def CanonicalizeIsCanonicalSaid : Prop := canonicalizeIsCanonicalRow.holds Tryz.pinned (OpenSpec.ofChange canonicalizeIsCanonicalSpec)

/-- ITS FALSE NEIGHBOUR: 'it returns false'. Refute it at one input. -/
def canonicalizeIsCanonicalWrong : ChangeSpec := { name := "canonicalizeIsCanonical", fn := fun _ => fun
  | [d1, d2, d3] => { results := [.lit (.bool false)], args := [d1, d2, d3] }
  | _ => none }
def CanonicalizeIsCanonicalWrongFalsely : Prop := canonicalizeIsCanonicalRow.holds Tryz.pinned (OpenSpec.ofChange canonicalizeIsCanonicalWrong)

/-- 'capnplaw15.CanonIsIdempotent': WHATEVER THE INPUT: true; the input reads as it did. -/
def canonIsIdempotentSpec : ChangeSpec := { name := "canonIsIdempotent", fn := fun _ => fun
  | [d1, d2] => { results := [.lit (.bool true)], args := [d1, d2] }
  | _ => none }
def canonIsIdempotentRow : OpenClaim := { program := "ytfljialckkgacaagreatdoor", sum := "36f259779c085a8aae5b255f58b2c2f5b543b1bb88f281386c635919b3223fa9", func := "capnp/capnplaw15.CanonIsIdempotent", spec := "canonIsIdempotent", unfollowed := true, recurses := true, named := ["capnp/pointer.decoders", "capnp/listsize.bits"], apart := false, laid := [("capnp/pointer.decoders", laid_capnp_pointer_decoders), ("capnp/listsize.bits", laid_capnp_listsize_bits)] }
def CanonIsIdempotentSaid : Prop := canonIsIdempotentRow.holds Tryz.pinned (OpenSpec.ofChange canonIsIdempotentSpec)

/-- ITS FALSE NEIGHBOUR: 'it returns false'. Refute it at one input. -/
def canonIsIdempotentWrong : ChangeSpec := { name := "canonIsIdempotent", fn := fun _ => fun
  | [d1, d2] => { results := [.lit (.bool false)], args := [d1, d2] }
  | _ => none }
def CanonIsIdempotentWrongFalsely : Prop := canonIsIdempotentRow.holds Tryz.pinned (OpenSpec.ofChange canonIsIdempotentWrong)

/-- 'capnplaw15.CanonSize': WHATEVER THE INPUT: true; the input reads as it did. -/
def canonSizeSpec : ChangeSpec := { name := "canonSize", fn := fun _ => fun
  | [d1, d2] => { results := [.lit (.bool true)], args := [d1, d2] }
  | _ => none }
def canonSizeRow : OpenClaim := { program := "ytfljialckkgacaagreatdoor", sum := "36f259779c085a8aae5b255f58b2c2f5b543b1bb88f281386c635919b3223fa9", func := "capnp/capnplaw15.CanonSize", spec := "canonSize", unfollowed := true, recurses := true, named := ["capnp/pointer.decoders", "capnp/listsize.bits"], apart := false, laid := [("capnp/pointer.decoders", laid_capnp_pointer_decoders), ("capnp/listsize.bits", laid_capnp_listsize_bits)] }
def CanonSizeSaid : Prop := canonSizeRow.holds Tryz.pinned (OpenSpec.ofChange canonSizeSpec)

/-- ITS FALSE NEIGHBOUR: 'it returns false'. Refute it at one input. -/
def canonSizeWrong : ChangeSpec := { name := "canonSize", fn := fun _ => fun
  | [d1, d2] => { results := [.lit (.bool false)], args := [d1, d2] }
  | _ => none }
def CanonSizeWrongFalsely : Prop := canonSizeRow.holds Tryz.pinned (OpenSpec.ofChange canonSizeWrong)

/-- 'capnplaw19.HashMatchesReference': WHATEVER THE INPUT: true; the input reads as it did. -/
def hashMatchesReferenceSpec : ChangeSpec := { name := "hashMatchesReference", fn := fun _ => fun
  | [d1, d2, d3] => { results := [.lit (.bool true)], args := [d1, d2, d3] }
  | _ => none }
def hashMatchesReferenceRow : OpenClaim := { program := "ytfljialckkgacaagreatdoor", sum := "36f259779c085a8aae5b255f58b2c2f5b543b1bb88f281386c635919b3223fa9", func := "capnp/capnplaw19.HashMatchesReference", spec := "hashMatchesReference", unfollowed := true, recurses := true, named := ["capnp/pointer.decoders", "capnp/listsize.bits"], loops := true, apart := false, laid := [("capnp/pointer.decoders", laid_capnp_pointer_decoders), ("capnp/listsize.bits", laid_capnp_listsize_bits)] }
def HashMatchesReferenceSaid : Prop := hashMatchesReferenceRow.holds Tryz.pinned (OpenSpec.ofChange hashMatchesReferenceSpec)

/-- ITS FALSE NEIGHBOUR: 'it returns false'. Refute it at one input. -/
def hashMatchesReferenceWrong : ChangeSpec := { name := "hashMatchesReference", fn := fun _ => fun
  | [d1, d2, d3] => { results := [.lit (.bool false)], args := [d1, d2, d3] }
  | _ => none }
def HashMatchesReferenceWrongFalsely : Prop := hashMatchesReferenceRow.holds Tryz.pinned (OpenSpec.ofChange hashMatchesReferenceWrong)

/-- 'capnplaw19.HashOfEqualMessages': WHATEVER THE INPUT: true; the input reads as it did. -/
def hashOfEqualMessagesSpec : ChangeSpec := { name := "hashOfEqualMessages", fn := fun _ => fun
  | [d1, d2, d3] => { results := [.lit (.bool true)], args := [d1, d2, d3] }
  | _ => none }
def hashOfEqualMessagesRow : OpenClaim := { program := "ytfljialckkgacaagreatdoor", sum := "36f259779c085a8aae5b255f58b2c2f5b543b1bb88f281386c635919b3223fa9", func := "capnp/capnplaw19.HashOfEqualMessages", spec := "hashOfEqualMessages", unfollowed := true, recurses := true, named := ["capnp/pointer.decoders", "capnp/listsize.bits"], apart := false, laid := [("capnp/pointer.decoders", laid_capnp_pointer_decoders), ("capnp/listsize.bits", laid_capnp_listsize_bits)] }
def HashOfEqualMessagesSaid : Prop := hashOfEqualMessagesRow.holds Tryz.pinned (OpenSpec.ofChange hashOfEqualMessagesSpec)

/-- ITS FALSE NEIGHBOUR: 'it returns false'. Refute it at one input. -/
def hashOfEqualMessagesWrong : ChangeSpec := { name := "hashOfEqualMessages", fn := fun _ => fun
  | [d1, d2, d3] => { results := [.lit (.bool false)], args := [d1, d2, d3] }
  | _ => none }
def HashOfEqualMessagesWrongFalsely : Prop := hashOfEqualMessagesRow.holds Tryz.pinned (OpenSpec.ofChange hashOfEqualMessagesWrong)

/-- 'capnplaw19.HashOfCanonicalForm': WHATEVER THE INPUT: true; the input reads as it did. -/
def hashOfCanonicalFormSpec : ChangeSpec := { name := "hashOfCanonicalForm", fn := fun _ => fun
  | [d1, d2] => { results := [.lit (.bool true)], args := [d1, d2] }
  | _ => none }
def hashOfCanonicalFormRow : OpenClaim := { program := "ytfljialckkgacaagreatdoor", sum := "36f259779c085a8aae5b255f58b2c2f5b543b1bb88f281386c635919b3223fa9", func := "capnp/capnplaw19.HashOfCanonicalForm", spec := "hashOfCanonicalForm", unfollowed := true, recurses := true, named := ["capnp/pointer.decoders", "capnp/listsize.bits"], apart := false, laid := [("capnp/pointer.decoders", laid_capnp_pointer_decoders), ("capnp/listsize.bits", laid_capnp_listsize_bits)] }
def HashOfCanonicalFormSaid : Prop := hashOfCanonicalFormRow.holds Tryz.pinned (OpenSpec.ofChange hashOfCanonicalFormSpec)

/-- ITS FALSE NEIGHBOUR: 'it returns false'. Refute it at one input. -/
def hashOfCanonicalFormWrong : ChangeSpec := { name := "hashOfCanonicalForm", fn := fun _ => fun
  | [d1, d2] => { results := [.lit (.bool false)], args := [d1, d2] }
  | _ => none }
def HashOfCanonicalFormWrongFalsely : Prop := hashOfCanonicalFormRow.holds Tryz.pinned (OpenSpec.ofChange hashOfCanonicalFormWrong)

/- THE SECOND FORM. 'bulk': how many values and letters a reading holds, each counted each time it is reached (what is shared counts as often as it is met; a slice's spare places count too). A statement '..UptoSaid' is the law's where the arguments, and the package variables that the reading takes, are together of bulk at most 1048576: NARROWER than '..Said'. Prove '..Said' where nothing that the law and all that it calls make is longer than what came in: it says more and counts as full. Else prove '..UptoSaid'. A law counts once. -/
mutual
def uptoBulk {H : Type} : DataW H → Nat
  | .lit (.string bytes) => bytes.length + 1
  | .lit _ => 1
  | .nil => 1
  | .ptr d => uptoBulk d + 1
  | .slice elems spare => uptoBulkAll elems + uptoBulkAll spare + 1
  | .agg parts => uptoBulkAll parts + 1
  | .iface _ d => uptoBulk d + 1
  | .map entries => uptoBulkEntries entries + 1
  | .held _ => 1
def uptoBulkAll {H : Type} : List (DataW H) → Nat
  | [] => 0
  | d :: r => uptoBulk d + uptoBulkAll r
def uptoBulkEntries {H : Type} : List (Lit × DataW H) → Nat
  | [] => 0
  | x :: r => uptoBulkEntry x + uptoBulkEntries r
def uptoBulkEntry {H : Type} : Lit × DataW H → Nat
  | (.string bytes, d) => bytes.length + uptoBulk d + 1
  | (_, d) => uptoBulk d + 1
 end
def uptoSmall : (H : Type) → List (DataW H) → Bool := fun _ ds => decide (uptoBulkAll ds ≤ 1048576)
def OpenSpec.upto (s : _root_.Go.ChangeSpec) : _root_.Go.OpenSpec := { _root_.Go.OpenSpec.ofChange s with cond := some uptoSmall }

/-- 'capnplaw15.CanonMatchesReference', WHERE WHAT IT READS IS OF BULK AT MOST 1048576: true; the input reads as it did. -/
def canonMatchesReferenceUptoRow : OpenClaim := { program := "ytfljialckkgacaagreatdoor", sum := "36f259779c085a8aae5b255f58b2c2f5b543b1bb88f281386c635919b3223fa9", func := "capnp/capnplaw15.CanonMatchesReference", spec := "canonMatchesReference", unfollowed := true, recurses := true, named := ["capnp/pointer.decoders", "capnp/listsize.bits"], apart := false, laid := [("capnp/pointer.decoders", laid_capnp_pointer_decoders), ("capnp/listsize.bits", laid_capnp_listsize_bits)], narrowed := true }
def CanonMatchesReferenceUptoSaid : Prop := canonMatchesReferenceUptoRow.holds Tryz.pinned (OpenSpec.upto canonMatchesReferenceSpec)

/-- 'capnplaw15.CanonicalizeIsCanonical', WHERE WHAT IT READS IS OF BULK AT MOST 1048576: true; the input reads as it did. -/
def canonicalizeIsCanonicalUptoRow : OpenClaim := { program := "ytfljialckkgacaagreatdoor", sum := "36f259779c085a8aae5b255f58b2c2f5b543b1bb88f281386c635919b3223fa9", func := "capnp/capnplaw15.CanonicalizeIsCanonical", spec := "canonicalizeIsCanonical", unfollowed := true, recurses := true, named := ["capnp/pointer.decoders", "capnp/listsize.bits"], apart := false, laid := [("capnp/pointer.decoders", laid_capnp_pointer_decoders), ("capnp/listsize.bits", laid_capnp_listsize_bits)], narrowed := true }
def CanonicalizeIsCanonicalUptoSaid : Prop := canonicalizeIsCanonicalUptoRow.holds Tryz.pinned (OpenSpec.upto canonicalizeIsCanonicalSpec)

/-- 'capnplaw15.CanonIsIdempotent', WHERE WHAT IT READS IS OF BULK AT MOST 1048576: true; the input reads as it did. -/
def canonIsIdempotentUptoRow : OpenClaim := { program := "ytfljialckkgacaagreatdoor", sum := "36f259779c085a8aae5b255f58b2c2f5b543b1bb88f281386c635919b3223fa9", func := "capnp/capnplaw15.CanonIsIdempotent", spec := "canonIsIdempotent", unfollowed := true, recurses := true, named := ["capnp/pointer.decoders", "capnp/listsize.bits"], apart := false, laid := [("capnp/pointer.decoders", laid_capnp_pointer_decoders), ("capnp/listsize.bits", laid_capnp_listsize_bits)], narrowed := true }
def CanonIsIdempotentUptoSaid : Prop := canonIsIdempotentUptoRow.holds Tryz.pinned (OpenSpec.upto canonIsIdempotentSpec)

/-- 'capnplaw15.CanonSize', WHERE WHAT IT READS IS OF BULK AT MOST 1048576: true; the input reads as it did. -/
def canonSizeUptoRow : OpenClaim := { program := "ytfljialckkgacaagreatdoor", sum := "36f259779c085a8aae5b255f58b2c2f5b543b1bb88f281386c635919b3223fa9", func := "capnp/capnplaw15.CanonSize", spec := "canonSize", unfollowed := true, recurses := true, named := ["capnp/pointer.decoders", "capnp/listsize.bits"], apart := false, laid := [("capnp/pointer.decoders", laid_capnp_pointer_decoders), ("capnp/listsize.bits", laid_capnp_listsize_bits)], narrowed := true }
def CanonSizeUptoSaid : Prop := canonSizeUptoRow.holds Tryz.pinned (OpenSpec.upto canonSizeSpec)

/-- 'capnplaw19.HashMatchesReference', WHERE WHAT IT READS IS OF BULK AT MOST 1048576: true; the input reads as it did. -/
def hashMatchesReferenceUptoRow : OpenClaim := { program := "ytfljialckkgacaagreatdoor", sum := "36f259779c085a8aae5b255f58b2c2f5b543b1bb88f281386c635919b3223fa9", func := "capnp/capnplaw19.HashMatchesReference", spec := "hashMatchesReference", unfollowed := true, recurses := true, named := ["capnp/pointer.decoders", "capnp/listsize.bits"], loops := true, apart := false, laid := [("capnp/pointer.decoders", laid_capnp_pointer_decoders), ("capnp/listsize.bits", laid_capnp_listsize_bits)], narrowed := true }
def HashMatchesReferenceUptoSaid : Prop := hashMatchesReferenceUptoRow.holds Tryz.pinned (OpenSpec.upto hashMatchesReferenceSpec)

/-- 'capnplaw19.HashOfEqualMessages', WHERE WHAT IT READS IS OF BULK AT MOST 1048576: true; the input reads as it did. -/
def hashOfEqualMessagesUptoRow : OpenClaim := { program := "ytfljialckkgacaagreatdoor", sum := "36f259779c085a8aae5b255f58b2c2f5b543b1bb88f281386c635919b3223fa9", func := "capnp/capnplaw19.HashOfEqualMessages", spec := "hashOfEqualMessages", unfollowed := true, recurses := true, named := ["capnp/pointer.decoders", "capnp/listsize.bits"], apart := false, laid := [("capnp/pointer.decoders", laid_capnp_pointer_decoders), ("capnp/listsize.bits", laid_capnp_listsize_bits)], narrowed := true }
def HashOfEqualMessagesUptoSaid : Prop := hashOfEqualMessagesUptoRow.holds Tryz.pinned (OpenSpec.upto hashOfEqualMessagesSpec)

/-- 'capnplaw19.HashOfCanonicalForm', WHERE WHAT IT READS IS OF BULK AT MOST 1048576: true; the input reads as it did. -/
def hashOfCanonicalFormUptoRow : OpenClaim := { program := "ytfljialckkgacaagreatdoor", sum := "36f259779c085a8aae5b255f58b2c2f5b543b1bb88f281386c635919b3223fa9", func := "capnp/capnplaw19.HashOfCanonicalForm", spec := "hashOfCanonicalForm", unfollowed := true, recurses := true, named := ["capnp/pointer.decoders", "capnp/listsize.bits"], apart := false, laid := [("capnp/pointer.decoders", laid_capnp_pointer_decoders), ("capnp/listsize.bits", laid_capnp_listsize_bits)], narrowed := true }
def HashOfCanonicalFormUptoSaid : Prop := hashOfCanonicalFormUptoRow.holds Tryz.pinned (OpenSpec.upto hashOfCanonicalFormSpec)

end Rows
end Go.Proofs.YtfljialckkgacaaGreatDoor
