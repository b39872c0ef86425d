/-
  NARROWER THAN 'FOR EVERY INPUT', by the rows' own cells (each row's printed sentence says how): DenoteKeepsMessage: laid.
  DERIVED. THE GIVEN ROWS OF THIS SEAT. 1 by the template 'for every input the law returns true; each argument reads behind the call as it read before'; 0 by the template 'total and deterministic' (their statements: YtdcdefmdgicoeaaDoorTotals.lean).
  GIVEN WITH THE SEED: the statements are not yours to turn. If you find one false, say at which input.
  Laid BY PROGRAM, IN A SANDBOX (cutbox-rows.mjs): the forced cells as the released guide's own fill.sh prints them over the translation 87087a306c9ec144… (all of the seat's roots in one cut). By AI agents, Wed Nov 11 2026. No macro, syntax, notation, axiom, sorry.
-/
import Derived.Test.YtdcdefmdgicoeaaDoorChecked
import GoSem.Claim
import GoSem.ClaimJoined
import GoSem.ClaimMapViews
import Derived.JoinedTies
import Derived.KernelRfl
namespace Go.Proofs.YtdcdefmdgicoeaaDoor
/- THE CELL 'sum', in the pinned program and in every row, IS THE sha256 OF THE DUMP (.gsa) THAT YtdcdefmdgicoeaaDoorProg.lean LOADS. Nothing in Lean hashes anything: it is a label: what it is worth is what the hold of that sum in a sandbox is worth. -/
noncomputable def Tryd.pinned : Pinned := { name := "ytdcdefmdgicoeaadoor", sum := "87087a306c9ec1448c14dfb78cd0ab5247d978b5e0e06a943f55a4882675be8a", checked := Tryd.checked }
namespace Rows
def none {H : Type} : Left H := { results := [], args := [] }

/- WHAT THE LISTED PACKAGE-LEVEL VARIABLES READ AS WHEN THE CALL BEGINS. Each datum BY PROGRAM (the guide's laid-datum.mjs) off the statement by which the dump's own 'gosem.cut.vars' lays the variable. In a bare row this is a premise. The card (YtdcdefmdgicoeaaDoorCards.lean) ties it to the program's text. -/
def laid_capnp_pointer_decoders {H : Type} : DataW H := .iface "func table" (.map [(.int .i64 0, .iface "func" (.lit (.string [99, 97, 112, 110, 112, 47, 112, 111, 105, 110, 116, 101, 114, 46, 100, 101, 99, 111, 100, 101, 114, 115, 36, 49]))), (.int .i64 1, .iface "func" (.lit (.string [99, 97, 112, 110, 112, 47, 112, 111, 105, 110, 116, 101, 114, 46, 100, 101, 99, 111, 100, 101, 114, 115, 36, 50]))), (.int .i64 2, .iface "func" (.lit (.string [99, 97, 112, 110, 112, 47, 112, 111, 105, 110, 116, 101, 114, 46, 100, 101, 99, 111, 100, 101, 114, 115, 36, 51]))), (.int .i64 3, .iface "func" (.lit (.string [99, 97, 112, 110, 112, 47, 112, 111, 105, 110, 116, 101, 114, 46, 100, 101, 99, 111, 100, 101, 114, 115, 36, 52])))])
def laid_capnp_listsize_bits {H : Type} : DataW H := .agg [.lit (.int .i64 0), .lit (.int .i64 1), .lit (.int .i64 8), .lit (.int .i64 16), .lit (.int .i64 32), .lit (.int .i64 64), .lit (.int .i64 64), .lit (.int .i64 0)]

/-- 'capnplaw12.DenoteKeepsMessage': WHATEVER THE INPUT: true; the input reads as it did. -/
def denoteKeepsMessageSpec : ChangeSpec := { name := "denoteKeepsMessage", fn := fun _ => fun
  | [d1, d2] => { results := [.lit (.bool true)], args := [d1, d2] }
  | _ => none }
def denoteKeepsMessageRow : OpenClaim := { program := "ytdcdefmdgicoeaadoor", sum := "87087a306c9ec1448c14dfb78cd0ab5247d978b5e0e06a943f55a4882675be8a", func := "capnp/capnplaw12.DenoteKeepsMessage", spec := "denoteKeepsMessage", unfollowed := true, recurses := true, named := ["capnp/pointer.decoders", "capnp/listsize.bits"], apart := false, laid := [("capnp/pointer.decoders", laid_capnp_pointer_decoders), ("capnp/listsize.bits", laid_capnp_listsize_bits)] }
def DenoteKeepsMessageSaid : Prop := denoteKeepsMessageRow.holds Tryd.pinned (OpenSpec.ofChange denoteKeepsMessageSpec)

/-- ITS FALSE NEIGHBOUR: 'it returns false'. Refute it at one input. -/
def denoteKeepsMessageWrong : ChangeSpec := { name := "denoteKeepsMessage", fn := fun _ => fun
  | [d1, d2] => { results := [.lit (.bool false)], args := [d1, d2] }
  | _ => none }
def DenoteKeepsMessageWrongFalsely : Prop := denoteKeepsMessageRow.holds Tryd.pinned (OpenSpec.ofChange denoteKeepsMessageWrong)

/- THE SECOND FORM. 'bulk': how many values and letters a reading holds, each counted each time it is reached (what is shared counts as often as it is met; a slice's spare places count too). A statement '..UptoSaid' is the law's where the arguments, and the package variables that the reading takes, are together of bulk at most 1048576: NARROWER than '..Said'. Prove '..Said' where nothing that the law and all that it calls make is longer than what came in: it says more and counts as full. Else prove '..UptoSaid'. A law counts once. -/
mutual
def uptoBulk {H : Type} : DataW H → Nat
  | .lit (.string bytes) => bytes.length + 1
  | .lit _ => 1
  | .nil => 1
  | .ptr d => uptoBulk d + 1
  | .slice elems spare => uptoBulkAll elems + uptoBulkAll spare + 1
  | .agg parts => uptoBulkAll parts + 1
  | .iface _ d => uptoBulk d + 1
  | .map entries => uptoBulkEntries entries + 1
  | .held _ => 1
def uptoBulkAll {H : Type} : List (DataW H) → Nat
  | [] => 0
  | d :: r => uptoBulk d + uptoBulkAll r
def uptoBulkEntries {H : Type} : List (Lit × DataW H) → Nat
  | [] => 0
  | x :: r => uptoBulkEntry x + uptoBulkEntries r
def uptoBulkEntry {H : Type} : Lit × DataW H → Nat
  | (.string bytes, d) => bytes.length + uptoBulk d + 1
  | (_, d) => uptoBulk d + 1
 end
def uptoSmall : (H : Type) → List (DataW H) → Bool := fun _ ds => decide (uptoBulkAll ds ≤ 1048576)
def OpenSpec.upto (s : _root_.Go.ChangeSpec) : _root_.Go.OpenSpec := { _root_.Go.OpenSpec.ofChange s with cond := some uptoSmall }

/-- 'capnplaw12.DenoteKeepsMessage', WHERE WHAT IT READS IS OF BULK AT MOST 1048576: true; the input reads as it did. -/
def denoteKeepsMessageUptoRow : OpenClaim := { program := "ytdcdefmdgicoeaadoor", sum := "87087a306c9ec1448c14dfb78cd0ab5247d978b5e0e06a943f55a4882675be8a", func := "capnp/capnplaw12.DenoteKeepsMessage", spec := "denoteKeepsMessage", unfollowed := true, recurses := true, named := ["capnp/pointer.decoders", "capnp/listsize.bits"], apart := false, laid := [("capnp/pointer.decoders", laid_capnp_pointer_decoders), ("capnp/listsize.bits", laid_capnp_listsize_bits)], narrowed := true }
def DenoteKeepsMessageUptoSaid : Prop := denoteKeepsMessageUptoRow.holds Tryd.pinned (OpenSpec.upto denoteKeepsMessageSpec)

end Rows
end Go.Proofs.YtdcdefmdgicoeaaDoor
