/-
  NARROWER THAN 'FOR EVERY INPUT', by the rows' own cells (each row's printed sentence says how): WholeErrors: laid · WholeStreams: laid · WholeShortest: loops, laid · MessageMatchesReference: laid · MessageCanonical: laid · MessageEqual: laid · MessageHash: laid · MessagePack: laid · MessageKeeps: laid · WholeLimits: loops, laid · WholeLayouts: loops, laid.
  DERIVED. THE GIVEN ROWS OF THIS SEAT. 11 by the template 'for every input the law returns true; each argument reads behind the call as it read before'; 0 by the template 'total and deterministic' (their statements: YtjbjeeoifhegfaaGreatDoorTotals.lean).
  GIVEN WITH THE SEED: the statements are not yours to turn. If you find one false, say at which input.
  Laid BY PROGRAM, IN A SANDBOX (cutbox-rows.mjs): the forced cells as the released guide's own fill.sh prints them over the translation befb41c9c1f09891… (all of the seat's roots in one cut). By AI agents, Wed Nov 11 2026. No macro, syntax, notation, axiom, sorry.
-/
import Derived.Test.YtjbjeeoifhegfaaGreatDoorChecked
import GoSem.Claim
import GoSem.ClaimJoined
import GoSem.ClaimMapViews
import Derived.JoinedTies
import Derived.KernelRfl
namespace Go.Proofs.YtjbjeeoifhegfaaGreatDoor
/- THE CELL 'sum', in the pinned program and in every row, IS THE sha256 OF THE DUMP (.gsa) THAT YtjbjeeoifhegfaaGreatDoorProg.lean LOADS. Nothing in Lean hashes anything: it is a label: what it is worth is what the hold of that sum in a sandbox is worth. -/
noncomputable def Tryz.pinned : Pinned := { name := "ytjbjeeoifhegfaagreatdoor", sum := "befb41c9c1f098913f89b5a4d81e68b0aa93db6a7a983779d42059d5b9482256", checked := Tryz.checked }
namespace Rows
def none {H : Type} : Left H := { results := [], args := [] }

/- WHAT THE LISTED PACKAGE-LEVEL VARIABLES READ AS WHEN THE CALL BEGINS. Each datum BY PROGRAM (the guide's laid-datum.mjs) off the statement by which the dump's own 'gosem.cut.vars' lays the variable. In a bare row this is a premise. The card (YtjbjeeoifhegfaaGreatDoorCards.lean) ties it to the program's text. -/
def laid_capnp_pointer_decoders {H : Type} : DataW H := .iface "func table" (.map [(.int .i64 0, .iface "func" (.lit (.string [99, 97, 112, 110, 112, 47, 112, 111, 105, 110, 116, 101, 114, 46, 100, 101, 99, 111, 100, 101, 114, 115, 36, 49]))), (.int .i64 1, .iface "func" (.lit (.string [99, 97, 112, 110, 112, 47, 112, 111, 105, 110, 116, 101, 114, 46, 100, 101, 99, 111, 100, 101, 114, 115, 36, 50]))), (.int .i64 2, .iface "func" (.lit (.string [99, 97, 112, 110, 112, 47, 112, 111, 105, 110, 116, 101, 114, 46, 100, 101, 99, 111, 100, 101, 114, 115, 36, 51]))), (.int .i64 3, .iface "func" (.lit (.string [99, 97, 112, 110, 112, 47, 112, 111, 105, 110, 116, 101, 114, 46, 100, 101, 99, 111, 100, 101, 114, 115, 36, 52])))])
def laid_errors_errorType {H : Type} : DataW H := .iface "internal/reflectlite.rtype" (.agg [.ptr (.lit (.string [101, 114, 114, 111, 114]))])
def laid_capnp_unpack_errTruncated {H : Type} : DataW H := .iface "*errors.errorString" (.ptr (.agg [.lit (.string [117, 110, 112, 97, 99, 107, 58, 32, 116, 114, 117, 110, 99, 97, 116, 101, 100, 32, 105, 110, 112, 117, 116])]))
def laid_capnp_unpack_errLimit {H : Type} : DataW H := .iface "*errors.errorString" (.ptr (.agg [.lit (.string [117, 110, 112, 97, 99, 107, 58, 32, 111, 117, 116, 112, 117, 116, 32, 108, 105, 109, 105, 116, 32, 101, 120, 99, 101, 101, 100, 101, 100])]))
def laid_capnp_listsize_bits {H : Type} : DataW H := .agg [.lit (.int .i64 0), .lit (.int .i64 1), .lit (.int .i64 8), .lit (.int .i64 16), .lit (.int .i64 32), .lit (.int .i64 64), .lit (.int .i64 64), .lit (.int .i64 0)]
def laid_capnp_unpackstream_steps {H : Type} : DataW H := .iface "func table" (.agg [.iface "func" (.lit (.string [40, 42, 99, 97, 112, 110, 112, 47, 117, 110, 112, 97, 99, 107, 115, 116, 114, 101, 97, 109, 46, 114, 101, 97, 100, 101, 114, 41, 46, 116, 97, 103])), .iface "func" (.lit (.string [40, 42, 99, 97, 112, 110, 112, 47, 117, 110, 112, 97, 99, 107, 115, 116, 114, 101, 97, 109, 46, 114, 101, 97, 100, 101, 114, 41, 46, 116, 97, 103, 103, 101, 100])), .iface "func" (.lit (.string [40, 42, 99, 97, 112, 110, 112, 47, 117, 110, 112, 97, 99, 107, 115, 116, 114, 101, 97, 109, 46, 114, 101, 97, 100, 101, 114, 41, 46, 122, 101, 114, 111, 115])), .iface "func" (.lit (.string [40, 42, 99, 97, 112, 110, 112, 47, 117, 110, 112, 97, 99, 107, 115, 116, 114, 101, 97, 109, 46, 114, 101, 97, 100, 101, 114, 41, 46, 99, 111, 117, 110, 116])), .iface "func" (.lit (.string [40, 42, 99, 97, 112, 110, 112, 47, 117, 110, 112, 97, 99, 107, 115, 116, 114, 101, 97, 109, 46, 114, 101, 97, 100, 101, 114, 41, 46, 108, 105, 116, 101, 114, 97, 108]))])

/-- 'capnptop.WholeErrors': WHATEVER THE INPUT: true; the input reads as it did. -/
def wholeErrorsSpec : ChangeSpec := { name := "wholeErrors", fn := fun _ => fun
  | [d1, d2] => { results := [.lit (.bool true)], args := [d1, d2] }
  | _ => none }
def wholeErrorsRow : OpenClaim := { program := "ytjbjeeoifhegfaagreatdoor", sum := "befb41c9c1f098913f89b5a4d81e68b0aa93db6a7a983779d42059d5b9482256", func := "capnp/capnptop.WholeErrors", spec := "wholeErrors", inPlace := ["internal/reflectlite.ValueOf", "(internal/reflectlite.Value).Type", "(internal/reflectlite.Value).IsNil", "internal/reflectlite.TypeOf", "(internal/reflectlite.Value).Elem", "(internal/reflectlite.Value).Set"], unfollowed := true, recurses := true, named := ["capnp/pointer.decoders", "capnp/listsize.bits", "errors.errorType", "capnp/unpack.errLimit", "capnp/unpack.errTruncated"], apart := false, laid := [("capnp/pointer.decoders", laid_capnp_pointer_decoders), ("errors.errorType", laid_errors_errorType), ("capnp/unpack.errTruncated", laid_capnp_unpack_errTruncated), ("capnp/unpack.errLimit", laid_capnp_unpack_errLimit), ("capnp/listsize.bits", laid_capnp_listsize_bits)] }
def WholeErrorsSaid : Prop := wholeErrorsRow.holds Tryz.pinned (OpenSpec.ofChange wholeErrorsSpec)

/-- ITS FALSE NEIGHBOUR: 'it returns false'. Refute it at one input. -/
def wholeErrorsWrong : ChangeSpec := { name := "wholeErrors", fn := fun _ => fun
  | [d1, d2] => { results := [.lit (.bool false)], args := [d1, d2] }
  | _ => none }
def WholeErrorsWrongFalsely : Prop := wholeErrorsRow.holds Tryz.pinned (OpenSpec.ofChange wholeErrorsWrong)

/-- 'capnptop.WholeStreams': WHATEVER THE INPUT: true; the input reads as it did. -/
def wholeStreamsSpec : ChangeSpec := { name := "wholeStreams", fn := fun _ => fun
  | [d1, d2] => { results := [.lit (.bool true)], args := [d1, d2] }
  | _ => none }
def wholeStreamsRow : OpenClaim := { program := "ytjbjeeoifhegfaagreatdoor", sum := "befb41c9c1f098913f89b5a4d81e68b0aa93db6a7a983779d42059d5b9482256", func := "capnp/capnptop.WholeStreams", spec := "wholeStreams", inPlace := ["internal/reflectlite.ValueOf", "(internal/reflectlite.Value).Type", "(internal/reflectlite.Value).IsNil", "internal/reflectlite.TypeOf", "(internal/reflectlite.Value).Elem", "(internal/reflectlite.Value).Set"], unfollowed := true, recurses := true, named := ["capnp/pointer.decoders", "capnp/listsize.bits", "errors.errorType", "capnp/unpack.errLimit", "capnp/unpack.errTruncated", "capnp/unpackstream.steps"], apart := false, laid := [("capnp/unpackstream.steps", laid_capnp_unpackstream_steps), ("capnp/pointer.decoders", laid_capnp_pointer_decoders), ("errors.errorType", laid_errors_errorType), ("capnp/unpack.errTruncated", laid_capnp_unpack_errTruncated), ("capnp/unpack.errLimit", laid_capnp_unpack_errLimit), ("capnp/listsize.bits", laid_capnp_listsize_bits)] }
def WholeStreamsSaid : Prop := wholeStreamsRow.holds Tryz.pinned (OpenSpec.ofChange wholeStreamsSpec)

/-- ITS FALSE NEIGHBOUR: 'it returns false'. Refute it at one input. -/
def wholeStreamsWrong : ChangeSpec := { name := "wholeStreams", fn := fun _ => fun
  | [d1, d2] => { results := [.lit (.bool false)], args := [d1, d2] }
  | _ => none }
def WholeStreamsWrongFalsely : Prop := wholeStreamsRow.holds Tryz.pinned (OpenSpec.ofChange wholeStreamsWrong)

/-- 'capnptop.WholeShortest': WHATEVER THE INPUT: true; the input reads as it did. -/
def wholeShortestSpec : ChangeSpec := { name := "wholeShortest", fn := fun _ => fun
  | [d1, d2] => { results := [.lit (.bool true)], args := [d1, d2] }
  | _ => none }
def wholeShortestRow : OpenClaim := { program := "ytjbjeeoifhegfaagreatdoor", sum := "befb41c9c1f098913f89b5a4d81e68b0aa93db6a7a983779d42059d5b9482256", func := "capnp/capnptop.WholeShortest", spec := "wholeShortest", inPlace := ["internal/reflectlite.ValueOf", "(internal/reflectlite.Value).Type", "(internal/reflectlite.Value).IsNil", "internal/reflectlite.TypeOf", "(internal/reflectlite.Value).Elem", "(internal/reflectlite.Value).Set"], unfollowed := true, recurses := true, named := ["capnp/pointer.decoders", "capnp/listsize.bits", "errors.errorType", "capnp/unpack.errLimit", "capnp/unpack.errTruncated"], loops := true, apart := false, laid := [("capnp/pointer.decoders", laid_capnp_pointer_decoders), ("errors.errorType", laid_errors_errorType), ("capnp/unpack.errTruncated", laid_capnp_unpack_errTruncated), ("capnp/unpack.errLimit", laid_capnp_unpack_errLimit), ("capnp/listsize.bits", laid_capnp_listsize_bits)] }
def WholeShortestSaid : Prop := wholeShortestRow.holds Tryz.pinned (OpenSpec.ofChange wholeShortestSpec)

/-- ITS FALSE NEIGHBOUR: 'it returns false'. Refute it at one input. -/
def wholeShortestWrong : ChangeSpec := { name := "wholeShortest", fn := fun _ => fun
  | [d1, d2] => { results := [.lit (.bool false)], args := [d1, d2] }
  | _ => none }
def WholeShortestWrongFalsely : Prop := wholeShortestRow.holds Tryz.pinned (OpenSpec.ofChange wholeShortestWrong)

/-- 'capnplaw27.MessageMatchesReference': WHATEVER THE INPUT: true; the input reads as it did. -/
def messageMatchesReferenceSpec : ChangeSpec := { name := "messageMatchesReference", fn := fun _ => fun
  | [d1, d2, d3] => { results := [.lit (.bool true)], args := [d1, d2, d3] }
  | _ => none }
def messageMatchesReferenceRow : OpenClaim := { program := "ytjbjeeoifhegfaagreatdoor", sum := "befb41c9c1f098913f89b5a4d81e68b0aa93db6a7a983779d42059d5b9482256", func := "capnp/capnplaw27.MessageMatchesReference", spec := "messageMatchesReference", inPlace := ["internal/reflectlite.ValueOf", "(internal/reflectlite.Value).Type", "(internal/reflectlite.Value).IsNil", "internal/reflectlite.TypeOf", "(internal/reflectlite.Value).Elem", "(internal/reflectlite.Value).Set"], unfollowed := true, recurses := true, named := ["capnp/pointer.decoders", "capnp/listsize.bits", "errors.errorType", "capnp/unpack.errLimit", "capnp/unpack.errTruncated"], apart := false, laid := [("capnp/pointer.decoders", laid_capnp_pointer_decoders), ("errors.errorType", laid_errors_errorType), ("capnp/unpack.errTruncated", laid_capnp_unpack_errTruncated), ("capnp/unpack.errLimit", laid_capnp_unpack_errLimit), ("capnp/listsize.bits", laid_capnp_listsize_bits)] }
def MessageMatchesReferenceSaid : Prop := messageMatchesReferenceRow.holds Tryz.pinned (OpenSpec.ofChange messageMatchesReferenceSpec)

/-- ITS FALSE NEIGHBOUR: 'it returns false'. Refute it at one input. -/
def messageMatchesReferenceWrong : ChangeSpec := { name := "messageMatchesReference", fn := fun _ => fun
  | [d1, d2, d3] => { results := [.lit (.bool false)], args := [d1, d2, d3] }
  | _ => none }
def MessageMatchesReferenceWrongFalsely : Prop := messageMatchesReferenceRow.holds Tryz.pinned (OpenSpec.ofChange messageMatchesReferenceWrong)

/-- 'capnplaw27.MessageCanonical': WHATEVER THE INPUT: true; the input reads as it did. -/
def messageCanonicalSpec : ChangeSpec := { name := "messageCanonical", fn := fun _ => fun
  | [d1, d2] => { results := [.lit (.bool true)], args := [d1, d2] }
  | _ => none }
def messageCanonicalRow : OpenClaim := { program := "ytjbjeeoifhegfaagreatdoor", sum := "befb41c9c1f098913f89b5a4d81e68b0aa93db6a7a983779d42059d5b9482256", func := "capnp/capnplaw27.MessageCanonical", spec := "messageCanonical", inPlace := ["internal/reflectlite.ValueOf", "(internal/reflectlite.Value).Type", "(internal/reflectlite.Value).IsNil", "internal/reflectlite.TypeOf", "(internal/reflectlite.Value).Elem", "(internal/reflectlite.Value).Set"], unfollowed := true, recurses := true, named := ["capnp/pointer.decoders", "capnp/listsize.bits", "errors.errorType", "capnp/unpack.errLimit", "capnp/unpack.errTruncated"], apart := false, laid := [("capnp/pointer.decoders", laid_capnp_pointer_decoders), ("errors.errorType", laid_errors_errorType), ("capnp/unpack.errTruncated", laid_capnp_unpack_errTruncated), ("capnp/unpack.errLimit", laid_capnp_unpack_errLimit), ("capnp/listsize.bits", laid_capnp_listsize_bits)] }
def MessageCanonicalSaid : Prop := messageCanonicalRow.holds Tryz.pinned (OpenSpec.ofChange messageCanonicalSpec)

/-- ITS FALSE NEIGHBOUR: 'it returns false'. Refute it at one input. -/
def messageCanonicalWrong : ChangeSpec := { name := "messageCanonical", fn := fun _ => fun
  | [d1, d2] => { results := [.lit (.bool false)], args := [d1, d2] }
  | _ => none }
def MessageCanonicalWrongFalsely : Prop := messageCanonicalRow.holds Tryz.pinned (OpenSpec.ofChange messageCanonicalWrong)

/-- 'capnplaw27.MessageEqual': WHATEVER THE INPUT: true; the input reads as it did. -/
def messageEqualSpec : ChangeSpec := { name := "messageEqual", fn := fun _ => fun
  | [d1, d2, d3] => { results := [.lit (.bool true)], args := [d1, d2, d3] }
  | _ => none }
def messageEqualRow : OpenClaim := { program := "ytjbjeeoifhegfaagreatdoor", sum := "befb41c9c1f098913f89b5a4d81e68b0aa93db6a7a983779d42059d5b9482256", func := "capnp/capnplaw27.MessageEqual", spec := "messageEqual", inPlace := ["internal/reflectlite.ValueOf", "(internal/reflectlite.Value).Type", "(internal/reflectlite.Value).IsNil", "internal/reflectlite.TypeOf", "(internal/reflectlite.Value).Elem", "(internal/reflectlite.Value).Set"], unfollowed := true, recurses := true, named := ["capnp/pointer.decoders", "capnp/listsize.bits", "errors.errorType", "capnp/unpack.errLimit", "capnp/unpack.errTruncated"], apart := false, laid := [("capnp/pointer.decoders", laid_capnp_pointer_decoders), ("errors.errorType", laid_errors_errorType), ("capnp/unpack.errTruncated", laid_capnp_unpack_errTruncated), ("capnp/unpack.errLimit", laid_capnp_unpack_errLimit), ("capnp/listsize.bits", laid_capnp_listsize_bits)] }
def MessageEqualSaid : Prop := messageEqualRow.holds Tryz.pinned (OpenSpec.ofChange messageEqualSpec)

/-- ITS FALSE NEIGHBOUR: 'it returns false'. Refute it at one input. -/
def messageEqualWrong : ChangeSpec := { name := "messageEqual", fn := fun _ => fun
  | [d1, d2, d3] => { results := [.lit (.bool false)], args := [d1, d2, d3] }
  | _ => none }
def MessageEqualWrongFalsely : Prop := messageEqualRow.holds Tryz.pinned (OpenSpec.ofChange messageEqualWrong)

/-- 'capnplaw27.MessageHash': WHATEVER THE INPUT: true; the input reads as it did. -/
def messageHashSpec : ChangeSpec := { name := "messageHash", fn := fun _ => fun
  | [d1, d2] => { results := [.lit (.bool true)], args := [d1, d2] }
  | _ => none }
def messageHashRow : OpenClaim := { program := "ytjbjeeoifhegfaagreatdoor", sum := "befb41c9c1f098913f89b5a4d81e68b0aa93db6a7a983779d42059d5b9482256", func := "capnp/capnplaw27.MessageHash", spec := "messageHash", inPlace := ["internal/reflectlite.ValueOf", "(internal/reflectlite.Value).Type", "(internal/reflectlite.Value).IsNil", "internal/reflectlite.TypeOf", "(internal/reflectlite.Value).Elem", "(internal/reflectlite.Value).Set"], unfollowed := true, recurses := true, named := ["capnp/pointer.decoders", "capnp/listsize.bits", "errors.errorType", "capnp/unpack.errLimit", "capnp/unpack.errTruncated"], apart := false, laid := [("capnp/pointer.decoders", laid_capnp_pointer_decoders), ("errors.errorType", laid_errors_errorType), ("capnp/unpack.errTruncated", laid_capnp_unpack_errTruncated), ("capnp/unpack.errLimit", laid_capnp_unpack_errLimit), ("capnp/listsize.bits", laid_capnp_listsize_bits)] }
def MessageHashSaid : Prop := messageHashRow.holds Tryz.pinned (OpenSpec.ofChange messageHashSpec)

/-- ITS FALSE NEIGHBOUR: 'it returns false'. Refute it at one input. -/
def messageHashWrong : ChangeSpec := { name := "messageHash", fn := fun _ => fun
  | [d1, d2] => { results := [.lit (.bool false)], args := [d1, d2] }
  | _ => none }
def MessageHashWrongFalsely : Prop := messageHashRow.holds Tryz.pinned (OpenSpec.ofChange messageHashWrong)

/-- 'capnplaw27.MessagePack': WHATEVER THE INPUT: true; the input reads as it did. -/
def messagePackSpec : ChangeSpec := { name := "messagePack", fn := fun _ => fun
  | [d1, d2, d3] => { results := [.lit (.bool true)], args := [d1, d2, d3] }
  | _ => none }
def messagePackRow : OpenClaim := { program := "ytjbjeeoifhegfaagreatdoor", sum := "befb41c9c1f098913f89b5a4d81e68b0aa93db6a7a983779d42059d5b9482256", func := "capnp/capnplaw27.MessagePack", spec := "messagePack", inPlace := ["internal/reflectlite.ValueOf", "(internal/reflectlite.Value).Type", "(internal/reflectlite.Value).IsNil", "internal/reflectlite.TypeOf", "(internal/reflectlite.Value).Elem", "(internal/reflectlite.Value).Set"], unfollowed := true, recurses := true, named := ["capnp/pointer.decoders", "capnp/listsize.bits", "errors.errorType", "capnp/unpack.errLimit", "capnp/unpack.errTruncated"], apart := false, laid := [("capnp/pointer.decoders", laid_capnp_pointer_decoders), ("errors.errorType", laid_errors_errorType), ("capnp/unpack.errTruncated", laid_capnp_unpack_errTruncated), ("capnp/unpack.errLimit", laid_capnp_unpack_errLimit), ("capnp/listsize.bits", laid_capnp_listsize_bits)] }
def MessagePackSaid : Prop := messagePackRow.holds Tryz.pinned (OpenSpec.ofChange messagePackSpec)

/-- ITS FALSE NEIGHBOUR: 'it returns false'. Refute it at one input. -/
def messagePackWrong : ChangeSpec := { name := "messagePack", fn := fun _ => fun
  | [d1, d2, d3] => { results := [.lit (.bool false)], args := [d1, d2, d3] }
  | _ => none }
def MessagePackWrongFalsely : Prop := messagePackRow.holds Tryz.pinned (OpenSpec.ofChange messagePackWrong)

/-- 'capnplaw27.MessageKeeps': WHATEVER THE INPUT: true; the input reads as it did. -/
def messageKeepsSpec : ChangeSpec := { name := "messageKeeps", fn := fun _ => fun
  | [d1, d2, d3] => { results := [.lit (.bool true)], args := [d1, d2, d3] }
  | _ => none }
def messageKeepsRow : OpenClaim := { program := "ytjbjeeoifhegfaagreatdoor", sum := "befb41c9c1f098913f89b5a4d81e68b0aa93db6a7a983779d42059d5b9482256", func := "capnp/capnplaw27.MessageKeeps", spec := "messageKeeps", inPlace := ["internal/reflectlite.ValueOf", "(internal/reflectlite.Value).Type", "(internal/reflectlite.Value).IsNil", "internal/reflectlite.TypeOf", "(internal/reflectlite.Value).Elem", "(internal/reflectlite.Value).Set"], unfollowed := true, recurses := true, named := ["capnp/pointer.decoders", "capnp/listsize.bits", "errors.errorType", "capnp/unpack.errLimit", "capnp/unpack.errTruncated"], apart := false, laid := [("capnp/pointer.decoders", laid_capnp_pointer_decoders), ("errors.errorType", laid_errors_errorType), ("capnp/unpack.errTruncated", laid_capnp_unpack_errTruncated), ("capnp/unpack.errLimit", laid_capnp_unpack_errLimit), ("capnp/listsize.bits", laid_capnp_listsize_bits)] }
def MessageKeepsSaid : Prop := messageKeepsRow.holds Tryz.pinned (OpenSpec.ofChange messageKeepsSpec)

/-- ITS FALSE NEIGHBOUR: 'it returns false'. Refute it at one input. -/
def messageKeepsWrong : ChangeSpec := { name := "messageKeeps", fn := fun _ => fun
  | [d1, d2, d3] => { results := [.lit (.bool false)], args := [d1, d2, d3] }
  | _ => none }
def MessageKeepsWrongFalsely : Prop := messageKeepsRow.holds Tryz.pinned (OpenSpec.ofChange messageKeepsWrong)

/-- 'capnptop.WholeLimits': WHATEVER THE INPUT: true; the input reads as it did. -/
def wholeLimitsSpec : ChangeSpec := { name := "wholeLimits", fn := fun _ => fun
  | [d1, d2] => { results := [.lit (.bool true)], args := [d1, d2] }
  | _ => none }
def wholeLimitsRow : OpenClaim := { program := "ytjbjeeoifhegfaagreatdoor", sum := "befb41c9c1f098913f89b5a4d81e68b0aa93db6a7a983779d42059d5b9482256", func := "capnp/capnptop.WholeLimits", spec := "wholeLimits", inPlace := ["internal/reflectlite.ValueOf", "(internal/reflectlite.Value).Type", "(internal/reflectlite.Value).IsNil", "internal/reflectlite.TypeOf", "(internal/reflectlite.Value).Elem", "(internal/reflectlite.Value).Set"], unfollowed := true, recurses := true, named := ["capnp/pointer.decoders", "capnp/listsize.bits", "errors.errorType", "capnp/unpack.errLimit", "capnp/unpack.errTruncated"], loops := true, apart := false, laid := [("capnp/pointer.decoders", laid_capnp_pointer_decoders), ("errors.errorType", laid_errors_errorType), ("capnp/unpack.errTruncated", laid_capnp_unpack_errTruncated), ("capnp/unpack.errLimit", laid_capnp_unpack_errLimit), ("capnp/listsize.bits", laid_capnp_listsize_bits)] }
def WholeLimitsSaid : Prop := wholeLimitsRow.holds Tryz.pinned (OpenSpec.ofChange wholeLimitsSpec)

/-- ITS FALSE NEIGHBOUR: 'it returns false'. Refute it at one input. -/
def wholeLimitsWrong : ChangeSpec := { name := "wholeLimits", fn := fun _ => fun
  | [d1, d2] => { results := [.lit (.bool false)], args := [d1, d2] }
  | _ => none }
def WholeLimitsWrongFalsely : Prop := wholeLimitsRow.holds Tryz.pinned (OpenSpec.ofChange wholeLimitsWrong)

/-- 'capnptop.WholeLayouts': WHATEVER THE INPUT: true; the input reads as it did. -/
def wholeLayoutsSpec : ChangeSpec := { name := "wholeLayouts", fn := fun _ => fun
  | [d1, d2, d3] => { results := [.lit (.bool true)], args := [d1, d2, d3] }
  | _ => none }
def wholeLayoutsRow : OpenClaim := { program := "ytjbjeeoifhegfaagreatdoor", sum := "befb41c9c1f098913f89b5a4d81e68b0aa93db6a7a983779d42059d5b9482256", func := "capnp/capnptop.WholeLayouts", spec := "wholeLayouts", inPlace := ["internal/reflectlite.ValueOf", "(internal/reflectlite.Value).Type", "(internal/reflectlite.Value).IsNil", "internal/reflectlite.TypeOf", "(internal/reflectlite.Value).Elem", "(internal/reflectlite.Value).Set"], unfollowed := true, recurses := true, named := ["capnp/pointer.decoders", "capnp/listsize.bits", "errors.errorType", "capnp/unpack.errLimit", "capnp/unpack.errTruncated"], loops := true, apart := false, laid := [("capnp/pointer.decoders", laid_capnp_pointer_decoders), ("errors.errorType", laid_errors_errorType), ("capnp/unpack.errTruncated", laid_capnp_unpack_errTruncated), ("capnp/unpack.errLimit", laid_capnp_unpack_errLimit), ("capnp/listsize.bits", laid_capnp_listsize_bits)] }
def WholeLayoutsSaid : Prop := wholeLayoutsRow.holds Tryz.pinned (OpenSpec.ofChange wholeLayoutsSpec)

/-- ITS FALSE NEIGHBOUR: 'it returns false'. Refute it at one input. -/
def wholeLayoutsWrong : ChangeSpec := { name := "wholeLayouts", fn := fun _ => fun
  | [d1, d2, d3] => { results := [.lit (.bool false)], args := [d1, d2, d3] }
  | _ => none }
def WholeLayoutsWrongFalsely : Prop := wholeLayoutsRow.holds Tryz.pinned (OpenSpec.ofChange wholeLayoutsWrong)

/- THE SECOND FORM. 'bulk': how many values and letters a reading holds, each counted each time it is reached (what is shared counts as often as it is met; a slice's spare places count too). A statement '..UptoSaid' is the law's where the arguments, and the package variables that the reading takes, are together of bulk at most 1048576: NARROWER than '..Said'. Prove '..Said' where nothing that the law and all that it calls make is longer than what came in: it says more and counts as full. Else prove '..UptoSaid'. A law counts once. -/
mutual
def uptoBulk {H : Type} : DataW H → Nat
  | .lit (.string bytes) => bytes.length + 1
  | .lit _ => 1
  | .nil => 1
  | .ptr d => uptoBulk d + 1
  | .slice elems spare => uptoBulkAll elems + uptoBulkAll spare + 1
  | .agg parts => uptoBulkAll parts + 1
  | .iface _ d => uptoBulk d + 1
  | .map entries => uptoBulkEntries entries + 1
  | .held _ => 1
def uptoBulkAll {H : Type} : List (DataW H) → Nat
  | [] => 0
  | d :: r => uptoBulk d + uptoBulkAll r
def uptoBulkEntries {H : Type} : List (Lit × DataW H) → Nat
  | [] => 0
  | x :: r => uptoBulkEntry x + uptoBulkEntries r
def uptoBulkEntry {H : Type} : Lit × DataW H → Nat
  | (.string bytes, d) => bytes.length + uptoBulk d + 1
  | (_, d) => uptoBulk d + 1
 end
def uptoSmall : (H : Type) → List (DataW H) → Bool := fun _ ds => decide (uptoBulkAll ds ≤ 1048576)
def OpenSpec.upto (s : _root_.Go.ChangeSpec) : _root_.Go.OpenSpec := { _root_.Go.OpenSpec.ofChange s with cond := some uptoSmall }

/-- 'capnptop.WholeErrors', WHERE WHAT IT READS IS OF BULK AT MOST 1048576: true; the input reads as it did. -/
def wholeErrorsUptoRow : OpenClaim := { program := "ytjbjeeoifhegfaagreatdoor", sum := "befb41c9c1f098913f89b5a4d81e68b0aa93db6a7a983779d42059d5b9482256", func := "capnp/capnptop.WholeErrors", spec := "wholeErrors", inPlace := ["internal/reflectlite.ValueOf", "(internal/reflectlite.Value).Type", "(internal/reflectlite.Value).IsNil", "internal/reflectlite.TypeOf", "(internal/reflectlite.Value).Elem", "(internal/reflectlite.Value).Set"], unfollowed := true, recurses := true, named := ["capnp/pointer.decoders", "capnp/listsize.bits", "errors.errorType", "capnp/unpack.errLimit", "capnp/unpack.errTruncated"], apart := false, laid := [("capnp/pointer.decoders", laid_capnp_pointer_decoders), ("errors.errorType", laid_errors_errorType), ("capnp/unpack.errTruncated", laid_capnp_unpack_errTruncated), ("capnp/unpack.errLimit", laid_capnp_unpack_errLimit), ("capnp/listsize.bits", laid_capnp_listsize_bits)], narrowed := true }
def WholeErrorsUptoSaid : Prop := wholeErrorsUptoRow.holds Tryz.pinned (OpenSpec.upto wholeErrorsSpec)

/-- 'capnptop.WholeStreams', WHERE WHAT IT READS IS OF BULK AT MOST 1048576: true; the input reads as it did. -/
def wholeStreamsUptoRow : OpenClaim := { program := "ytjbjeeoifhegfaagreatdoor", sum := "befb41c9c1f098913f89b5a4d81e68b0aa93db6a7a983779d42059d5b9482256", func := "capnp/capnptop.WholeStreams", spec := "wholeStreams", inPlace := ["internal/reflectlite.ValueOf", "(internal/reflectlite.Value).Type", "(internal/reflectlite.Value).IsNil", "internal/reflectlite.TypeOf", "(internal/reflectlite.Value).Elem", "(internal/reflectlite.Value).Set"], unfollowed := true, recurses := true, named := ["capnp/pointer.decoders", "capnp/listsize.bits", "errors.errorType", "capnp/unpack.errLimit", "capnp/unpack.errTruncated", "capnp/unpackstream.steps"], apart := false, laid := [("capnp/unpackstream.steps", laid_capnp_unpackstream_steps), ("capnp/pointer.decoders", laid_capnp_pointer_decoders), ("errors.errorType", laid_errors_errorType), ("capnp/unpack.errTruncated", laid_capnp_unpack_errTruncated), ("capnp/unpack.errLimit", laid_capnp_unpack_errLimit), ("capnp/listsize.bits", laid_capnp_listsize_bits)], narrowed := true }
def WholeStreamsUptoSaid : Prop := wholeStreamsUptoRow.holds Tryz.pinned (OpenSpec.upto wholeStreamsSpec)

/-- 'capnptop.WholeShortest', WHERE WHAT IT READS IS OF BULK AT MOST 1048576: true; the input reads as it did. -/
def wholeShortestUptoRow : OpenClaim := { program := "ytjbjeeoifhegfaagreatdoor", sum := "befb41c9c1f098913f89b5a4d81e68b0aa93db6a7a983779d42059d5b9482256", func := "capnp/capnptop.WholeShortest", spec := "wholeShortest", inPlace := ["internal/reflectlite.ValueOf", "(internal/reflectlite.Value).Type", "(internal/reflectlite.Value).IsNil", "internal/reflectlite.TypeOf", "(internal/reflectlite.Value).Elem", "(internal/reflectlite.Value).Set"], unfollowed := true, recurses := true, named := ["capnp/pointer.decoders", "capnp/listsize.bits", "errors.errorType", "capnp/unpack.errLimit", "capnp/unpack.errTruncated"], loops := true, apart := false, laid := [("capnp/pointer.decoders", laid_capnp_pointer_decoders), ("errors.errorType", laid_errors_errorType), ("capnp/unpack.errTruncated", laid_capnp_unpack_errTruncated), ("capnp/unpack.errLimit", laid_capnp_unpack_errLimit), ("capnp/listsize.bits", laid_capnp_listsize_bits)], narrowed := true }
def WholeShortestUptoSaid : Prop := wholeShortestUptoRow.holds Tryz.pinned (OpenSpec.upto wholeShortestSpec)

/-- 'capnplaw27.MessageMatchesReference', WHERE WHAT IT READS IS OF BULK AT MOST 1048576: true; the input reads as it did. -/
def messageMatchesReferenceUptoRow : OpenClaim := { program := "ytjbjeeoifhegfaagreatdoor", sum := "befb41c9c1f098913f89b5a4d81e68b0aa93db6a7a983779d42059d5b9482256", func := "capnp/capnplaw27.MessageMatchesReference", spec := "messageMatchesReference", inPlace := ["internal/reflectlite.ValueOf", "(internal/reflectlite.Value).Type", "(internal/reflectlite.Value).IsNil", "internal/reflectlite.TypeOf", "(internal/reflectlite.Value).Elem", "(internal/reflectlite.Value).Set"], unfollowed := true, recurses := true, named := ["capnp/pointer.decoders", "capnp/listsize.bits", "errors.errorType", "capnp/unpack.errLimit", "capnp/unpack.errTruncated"], apart := false, laid := [("capnp/pointer.decoders", laid_capnp_pointer_decoders), ("errors.errorType", laid_errors_errorType), ("capnp/unpack.errTruncated", laid_capnp_unpack_errTruncated), ("capnp/unpack.errLimit", laid_capnp_unpack_errLimit), ("capnp/listsize.bits", laid_capnp_listsize_bits)], narrowed := true }
def MessageMatchesReferenceUptoSaid : Prop := messageMatchesReferenceUptoRow.holds Tryz.pinned (OpenSpec.upto messageMatchesReferenceSpec)

/-- 'capnplaw27.MessageCanonical', WHERE WHAT IT READS IS OF BULK AT MOST 1048576: true; the input reads as it did. -/
def messageCanonicalUptoRow : OpenClaim := { program := "ytjbjeeoifhegfaagreatdoor", sum := "befb41c9c1f098913f89b5a4d81e68b0aa93db6a7a983779d42059d5b9482256", func := "capnp/capnplaw27.MessageCanonical", spec := "messageCanonical", inPlace := ["internal/reflectlite.ValueOf", "(internal/reflectlite.Value).Type", "(internal/reflectlite.Value).IsNil", "internal/reflectlite.TypeOf", "(internal/reflectlite.Value).Elem", "(internal/reflectlite.Value).Set"], unfollowed := true, recurses := true, named := ["capnp/pointer.decoders", "capnp/listsize.bits", "errors.errorType", "capnp/unpack.errLimit", "capnp/unpack.errTruncated"], apart := false, laid := [("capnp/pointer.decoders", laid_capnp_pointer_decoders), ("errors.errorType", laid_errors_errorType), ("capnp/unpack.errTruncated", laid_capnp_unpack_errTruncated), ("capnp/unpack.errLimit", laid_capnp_unpack_errLimit), ("capnp/listsize.bits", laid_capnp_listsize_bits)], narrowed := true }
def MessageCanonicalUptoSaid : Prop := messageCanonicalUptoRow.holds Tryz.pinned (OpenSpec.upto messageCanonicalSpec)

/-- 'capnplaw27.MessageEqual', WHERE WHAT IT READS IS OF BULK AT MOST 1048576: true; the input reads as it did. -/
def messageEqualUptoRow : OpenClaim := { program := "ytjbjeeoifhegfaagreatdoor", sum := "befb41c9c1f098913f89b5a4d81e68b0aa93db6a7a983779d42059d5b9482256", func := "capnp/capnplaw27.MessageEqual", spec := "messageEqual", inPlace := ["internal/reflectlite.ValueOf", "(internal/reflectlite.Value).Type", "(internal/reflectlite.Value).IsNil", "internal/reflectlite.TypeOf", "(internal/reflectlite.Value).Elem", "(internal/reflectlite.Value).Set"], unfollowed := true, recurses := true, named := ["capnp/pointer.decoders", "capnp/listsize.bits", "errors.errorType", "capnp/unpack.errLimit", "capnp/unpack.errTruncated"], apart := false, laid := [("capnp/pointer.decoders", laid_capnp_pointer_decoders), ("errors.errorType", laid_errors_errorType), ("capnp/unpack.errTruncated", laid_capnp_unpack_errTruncated), ("capnp/unpack.errLimit", laid_capnp_unpack_errLimit), ("capnp/listsize.bits", laid_capnp_listsize_bits)], narrowed := true }
def MessageEqualUptoSaid : Prop := messageEqualUptoRow.holds Tryz.pinned (OpenSpec.upto messageEqualSpec)

/-- 'capnplaw27.MessageHash', WHERE WHAT IT READS IS OF BULK AT MOST 1048576: true; the input reads as it did. -/
def messageHashUptoRow : OpenClaim := { program := "ytjbjeeoifhegfaagreatdoor", sum := "befb41c9c1f098913f89b5a4d81e68b0aa93db6a7a983779d42059d5b9482256", func := "capnp/capnplaw27.MessageHash", spec := "messageHash", inPlace := ["internal/reflectlite.ValueOf", "(internal/reflectlite.Value).Type", "(internal/reflectlite.Value).IsNil", "internal/reflectlite.TypeOf", "(internal/reflectlite.Value).Elem", "(internal/reflectlite.Value).Set"], unfollowed := true, recurses := true, named := ["capnp/pointer.decoders", "capnp/listsize.bits", "errors.errorType", "capnp/unpack.errLimit", "capnp/unpack.errTruncated"], apart := false, laid := [("capnp/pointer.decoders", laid_capnp_pointer_decoders), ("errors.errorType", laid_errors_errorType), ("capnp/unpack.errTruncated", laid_capnp_unpack_errTruncated), ("capnp/unpack.errLimit", laid_capnp_unpack_errLimit), ("capnp/listsize.bits", laid_capnp_listsize_bits)], narrowed := true }
def MessageHashUptoSaid : Prop := messageHashUptoRow.holds Tryz.pinned (OpenSpec.upto messageHashSpec)

/-- 'capnplaw27.MessagePack', WHERE WHAT IT READS IS OF BULK AT MOST 1048576: true; the input reads as it did. -/
def messagePackUptoRow : OpenClaim := { program := "ytjbjeeoifhegfaagreatdoor", sum := "befb41c9c1f098913f89b5a4d81e68b0aa93db6a7a983779d42059d5b9482256", func := "capnp/capnplaw27.MessagePack", spec := "messagePack", inPlace := ["internal/reflectlite.ValueOf", "(internal/reflectlite.Value).Type", "(internal/reflectlite.Value).IsNil", "internal/reflectlite.TypeOf", "(internal/reflectlite.Value).Elem", "(internal/reflectlite.Value).Set"], unfollowed := true, recurses := true, named := ["capnp/pointer.decoders", "capnp/listsize.bits", "errors.errorType", "capnp/unpack.errLimit", "capnp/unpack.errTruncated"], apart := false, laid := [("capnp/pointer.decoders", laid_capnp_pointer_decoders), ("errors.errorType", laid_errors_errorType), ("capnp/unpack.errTruncated", laid_capnp_unpack_errTruncated), ("capnp/unpack.errLimit", laid_capnp_unpack_errLimit), ("capnp/listsize.bits", laid_capnp_listsize_bits)], narrowed := true }
def MessagePackUptoSaid : Prop := messagePackUptoRow.holds Tryz.pinned (OpenSpec.upto messagePackSpec)

/-- 'capnplaw27.MessageKeeps', WHERE WHAT IT READS IS OF BULK AT MOST 1048576: true; the input reads as it did. -/
def messageKeepsUptoRow : OpenClaim := { program := "ytjbjeeoifhegfaagreatdoor", sum := "befb41c9c1f098913f89b5a4d81e68b0aa93db6a7a983779d42059d5b9482256", func := "capnp/capnplaw27.MessageKeeps", spec := "messageKeeps", inPlace := ["internal/reflectlite.ValueOf", "(internal/reflectlite.Value).Type", "(internal/reflectlite.Value).IsNil", "internal/reflectlite.TypeOf", "(internal/reflectlite.Value).Elem", "(internal/reflectlite.Value).Set"], unfollowed := true, recurses := true, named := ["capnp/pointer.decoders", "capnp/listsize.bits", "errors.errorType", "capnp/unpack.errLimit", "capnp/unpack.errTruncated"], apart := false, laid := [("capnp/pointer.decoders", laid_capnp_pointer_decoders), ("errors.errorType", laid_errors_errorType), ("capnp/unpack.errTruncated", laid_capnp_unpack_errTruncated), ("capnp/unpack.errLimit", laid_capnp_unpack_errLimit), ("capnp/listsize.bits", laid_capnp_listsize_bits)], narrowed := true }
def MessageKeepsUptoSaid : Prop := messageKeepsUptoRow.holds Tryz.pinned (OpenSpec.upto messageKeepsSpec)

/-- 'capnptop.WholeLimits', WHERE WHAT IT READS IS OF BULK AT MOST 1048576: true; the input reads as it did. -/
def wholeLimitsUptoRow : OpenClaim := { program := "ytjbjeeoifhegfaagreatdoor", sum := "befb41c9c1f098913f89b5a4d81e68b0aa93db6a7a983779d42059d5b9482256", func := "capnp/capnptop.WholeLimits", spec := "wholeLimits", inPlace := ["internal/reflectlite.ValueOf", "(internal/reflectlite.Value).Type", "(internal/reflectlite.Value).IsNil", "internal/reflectlite.TypeOf", "(internal/reflectlite.Value).Elem", "(internal/reflectlite.Value).Set"], unfollowed := true, recurses := true, named := ["capnp/pointer.decoders", "capnp/listsize.bits", "errors.errorType", "capnp/unpack.errLimit", "capnp/unpack.errTruncated"], loops := true, apart := false, laid := [("capnp/pointer.decoders", laid_capnp_pointer_decoders), ("errors.errorType", laid_errors_errorType), ("capnp/unpack.errTruncated", laid_capnp_unpack_errTruncated), ("capnp/unpack.errLimit", laid_capnp_unpack_errLimit), ("capnp/listsize.bits", laid_capnp_listsize_bits)], narrowed := true }
def WholeLimitsUptoSaid : Prop := wholeLimitsUptoRow.holds Tryz.pinned (OpenSpec.upto wholeLimitsSpec)

/-- 'capnptop.WholeLayouts', WHERE WHAT IT READS IS OF BULK AT MOST 1048576: true; the input reads as it did. -/
def wholeLayoutsUptoRow : OpenClaim := { program := "ytjbjeeoifhegfaagreatdoor", sum := "befb41c9c1f098913f89b5a4d81e68b0aa93db6a7a983779d42059d5b9482256", func := "capnp/capnptop.WholeLayouts", spec := "wholeLayouts", inPlace := ["internal/reflectlite.ValueOf", "(internal/reflectlite.Value).Type", "(internal/reflectlite.Value).IsNil", "internal/reflectlite.TypeOf", "(internal/reflectlite.Value).Elem", "(internal/reflectlite.Value).Set"], unfollowed := true, recurses := true, named := ["capnp/pointer.decoders", "capnp/listsize.bits", "errors.errorType", "capnp/unpack.errLimit", "capnp/unpack.errTruncated"], loops := true, apart := false, laid := [("capnp/pointer.decoders", laid_capnp_pointer_decoders), ("errors.errorType", laid_errors_errorType), ("capnp/unpack.errTruncated", laid_capnp_unpack_errTruncated), ("capnp/unpack.errLimit", laid_capnp_unpack_errLimit), ("capnp/listsize.bits", laid_capnp_listsize_bits)], narrowed := true }
def WholeLayoutsUptoSaid : Prop := wholeLayoutsUptoRow.holds Tryz.pinned (OpenSpec.upto wholeLayoutsSpec)

end Rows
end Go.Proofs.YtjbjeeoifhegfaaGreatDoor
